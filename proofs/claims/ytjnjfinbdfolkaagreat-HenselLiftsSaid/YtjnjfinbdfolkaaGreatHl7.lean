/- What a proof needs: rules of walking, mirrors of functions and their plain laws. No condition. -/
import Derived.Test.YtjnjfinbdfolkaaGreatHl6
section
set_option linter.unusedVariables false
set_option linter.unusedSimpArgs false
namespace Go.Proofs.YtjnjfinbdfolkaaGreat
theorem prime_cop {p a : Nat} (hp : 2 ≤ p) (h : NoDiv p) (h0 : 0 < a) (h1 : a < p) : Nat.gcd p a = 1 := by
  obtain ⟨g, hg⟩ : ∃ g, g = Nat.gcd p a := ⟨_, rfl⟩
  have d1 : g ∣ p := by rw [hg]; exact Nat.gcd_dvd_left _ _
  have d2 : g ∣ a := by rw [hg]; exact Nat.gcd_dvd_right _ _
  have hle : g ≤ a := Nat.le_of_dvd h0 d2
  have hpos : 0 < g := Nat.pos_of_dvd_of_pos d1 (by omega)
  rw [← hg]
  refine Nat.le_antisymm (Nat.le_of_not_lt fun h2 => ?_) hpos
  by_cases hs : g * g ≤ p
  · exact h g (by omega) hs (Nat.mod_eq_zero_of_dvd d1)
  · obtain ⟨d, hd⟩ := d1
    have hdg : d < g := by
      refine Nat.lt_of_not_le fun h3 => hs ?_
      rw [hd]
      exact Nat.mul_le_mul_left _ h3
    have hd2 : 2 ≤ d := by
      refine Nat.le_of_not_lt fun h3 => ?_
      have : d = 0 ∨ d = 1 := by omega
      rcases this with e | e
      · rw [e, Nat.mul_zero] at hd; omega
      · rw [e, Nat.mul_one] at hd; omega
    refine h d hd2 ?_ ?_
    · rw [hd]; exact Nat.mul_le_mul_right _ (by omega)
    · rw [hd]; exact Nat.mul_mod_left _ _
theorem fp_check {fu : Nat} {p : Int} (hp : prm p = true) (hf : 400 < fu) : M_fp_Check fu p = some 0 := by
  unfold M_fp_Check
  rw [bd_t (M_prime_Is_eq hf), hp]; rfl
structure IvI (p a : Nat) (r0 r1 : Nat) (t0 t1 : Int) : Prop where
  lt : r1 < r0
  two : 2 ≤ r0
  le : r0 ≤ p
  c0 : (p : Int) ∣ (r0 : Int) - t0 * a
  c1 : (p : Int) ∣ (r1 : Int) - t1 * a
  g : Nat.gcd r0 r1 = 1
  s : ∃ u0 u1 : Nat, ((t0 = u0 ∧ t1 = -u1) ∨ (t0 = -u0 ∧ t1 = u1)) ∧ r0 * u1 + r1 * u0 = p
theorem IvI.step {p a r0 r1 : Nat} {t0 t1 : Int} (h : IvI p a r0 r1 t0 t1) (h2 : 2 ≤ r1) : IvI p a r1 (r0 % r1) t1 (t0 - ((r0 / r1 : Nat) : Int) * t1) ∧ (((r0 / r1 : Nat) : Int) * t1).natAbs ≤ p ∧ (t0 - ((r0 / r1 : Nat) : Int) * t1).natAbs ≤ p := by
  have hdm := Nat.div_add_mod r0 r1
  have hml := Nat.mod_lt r0 (show 0 < r1 by omega)
  obtain ⟨u0, u1, hs, he⟩ := h.s
  generalize hq : r0 / r1 = q at *
  generalize hr : r0 % r1 = r2 at *
  have hle := h.le
  have hlt := h.lt
  have e1 : r1 * (u0 + q * u1) + r2 * u1 = p := by
    rw [Nat.mul_add, ← Nat.mul_assoc]
    have : r0 * u1 = r1 * q * u1 + r2 * u1 := by rw [← Nat.add_mul, hdm]
    omega
  have hb : u0 + q * u1 ≤ p := by
    have h3 : 1 * (u0 + q * u1) ≤ r1 * (u0 + q * u1) := Nat.mul_le_mul_right _ (by omega)
    omega
  have hcast : ((q * u1 : Nat) : Int) = (q : Int) * (u1 : Int) := by simp
  have hnew : ((t1 = u1 ∧ t0 - (q : Int) * t1 = -((u0 + q * u1 : Nat) : Int)) ∨ (t1 = -u1 ∧ t0 - (q : Int) * t1 = ((u0 + q * u1 : Nat) : Int))) ∧ ((q : Int) * t1).natAbs ≤ p := by
    rcases hs with ⟨a1, a2⟩ | ⟨a1, a2⟩
    · rw [a1, a2, Int.mul_neg, ← hcast]
      exact ⟨.inr ⟨rfl, by omega⟩, by omega⟩
    · rw [a1, a2, ← hcast]
      exact ⟨.inl ⟨rfl, by omega⟩, by omega⟩
  refine ⟨⟨hml, h2, by omega, h.c1, ?_, ?_, u1, u0 + q * u1, hnew.1, e1⟩, hnew.2, by rcases hnew.1 with ⟨_, e⟩ | ⟨_, e⟩ <;> omega⟩
  · have h3 := Int.dvd_sub h.c0 (Int.dvd_trans h.c1 (Int.dvd_mul_left (q : Int) _))
    have e2 : (r0 : Int) - t0 * a - (q : Int) * ((r1 : Int) - t1 * a) = (r2 : Int) - (t0 - (q : Int) * t1) * a := by
      rw [Int.mul_sub, Int.sub_mul, Int.mul_assoc]
      have : (r0 : Int) = (r1 : Int) * (q : Int) + (r2 : Int) := by rw [← hdm]; simp
      rw [this, Int.mul_comm (r1 : Int)]
      omega
    rw [e2] at h3
    exact h3
  · have h3 := h.g
    rw [← hr, Nat.gcd_comm, ← Nat.gcd_rec, Nat.gcd_comm]
    exact h3
theorem inv_loop {fu p a : Nat} (hp : p ≤ 65521) (hf : 70000 < fu) {t : Int} : ∀ {r0 r1 : Nat} {t0 t1 : Int}, IvI p a r0 r1 t0 t1 → ∀ n, r1 < n → ∃ x : Int, loopN (B_fp_Inv_0 fu) n ((r0 : Int), (r1 : Int), t0, t1) = some (.inl x) ∧ (p : Int) ∣ 1 - x * a ∧ x.natAbs ≤ p := by
  intro r0 r1
  induction r1 using Nat.strongRecOn generalizing r0 with
  | _ r1 ih =>
    intro t0 t1 h n hn
    obtain ⟨n, rfl⟩ : ∃ k, n = k + 1 := ⟨n - 1, by omega⟩
    rw [loopN_t]
    unfold B_fp_Inv_0
    simp only []
    have hlt := h.lt
    have htwo := h.two
    have hle := h.le
    by_cases h0 : r1 = 0
    · have := h.g
      rw [h0, Nat.gcd_zero_right] at this
      omega
    · rw [if_neg (by omega)]
      by_cases h1 : r1 = 1
      · rw [if_pos (by omega)]
        refine ⟨t1, rfl, ?_, ?_⟩
        · have := h.c1
          rw [h1] at this
          exact this
        · obtain ⟨u0, u1, hs, he⟩ := h.s
          have h3 : 1 * u1 ≤ r0 * u1 := Nat.mul_le_mul_right _ (by omega)
          rcases hs with ⟨_, e⟩ | ⟨_, e⟩ <;> omega
      · obtain ⟨s1, s2, s3⟩ := h.step (by omega)
        have e1 : Int.tdiv (r0 : Int) (r1 : Int) = ((r0 / r1 : Nat) : Int) := rfl
        have hdm := Nat.div_add_mod r0 r1
        have e2 : ((r0 / r1 : Nat) : Int) * (r1 : Int) = ((r1 * (r0 / r1) : Nat) : Int) := by rw [Int.mul_comm]; simp
        have hm2 : ((r0 / r1 : Nat) : Int) ≤ (r0 : Int) := Int.ofNat_le.2 (Nat.div_le_self _ _)
        have hm3 : (0 : Int) ≤ ((r0 / r1 : Nat) : Int) := Int.natCast_nonneg _
        rw [if_neg (by omega), ck_t (by omega), e1, ck64_t ⟨by omega, by omega⟩, e2, ck64_t ⟨by omega, by omega⟩, show (r0 : Int) - ((r1 * (r0 / r1) : Nat) : Int) = ((r0 % r1 : Nat) : Int) by omega, ck64_t ⟨by omega, by omega⟩, ck64_t ⟨by omega, by omega⟩, ck64_t ⟨by omega, by omega⟩]
        exact ih (r0 % r1) (Nat.mod_lt _ (by omega)) s1 n (by have := Nat.mod_lt r0 (show 0 < r1 by omega); omega)
theorem M_fp_Inv_ex {fu : Nat} {p a : Int} (hp : prm p = true) (h0 : 0 < a) (h1 : a < p) (hf : 3000000 ≤ fu) : ∃ x, M_fp_Inv fu a p = some (x, 0) ∧ 0 ≤ x ∧ x < p ∧ (x * a) % p = 1 := by
  obtain ⟨p1, p2⟩ := prm_rng hp
  have hnd : NoDiv p.toNat := by
    refine Classical.byContradiction fun h => ?_
    rw [prm_f (fun e => h e.2.2)] at hp
    exact absurd hp (by decide)
  obtain ⟨P, rfl⟩ := Int.eq_ofNat_of_zero_le (show 0 ≤ p by omega)
  obtain ⟨A, rfl⟩ := Int.eq_ofNat_of_zero_le (show 0 ≤ a by omega)
  have hI : IvI P A P A 0 1 := ⟨by omega, by omega, Nat.le_refl _, by rw [Int.zero_mul, Int.sub_zero]; exact Int.dvd_refl _, by rw [Int.one_mul, Int.sub_self]; exact Int.dvd_zero _, prime_cop (by omega) hnd (by omega) (by omega), 0, 1, .inr ⟨rfl, rfl⟩, by omega⟩
  obtain ⟨x, k1, k2, k3⟩ := inv_loop (fu := fu) (t := 0) (show P ≤ 65521 by omega) (by omega) hI fu (by omega)
  have hr := red_rng (a := x) (p := (P : Int)) (by omega)
  refine ⟨x % P, ?_, hr.1, hr.2, ?_⟩
  · unfold M_fp_Inv
    rw [bd_t (fp_check hp (by omega)), if_pos rfl, bd_t (M_fp_Red_eq (by omega) (by omega) ⟨by omega, by omega⟩), Int.emod_eq_of_lt (a := (A : Int)) (by omega) (by omega), bd_t k1]
    simp only []
    rw [bd_t (M_fp_Red_eq (by omega) (by omega) ⟨by omega, by omega⟩)]
  · rw [Int.mul_emod, Int.emod_emod, ← Int.mul_emod]
    have := Int.emod_eq_emod_iff_emod_sub_eq_zero.2 (Int.emod_eq_zero_of_dvd k2)
    rw [← this]
    exact Int.emod_eq_of_lt (by decide) (by omega)
end Go.Proofs.YtjnjfinbdfolkaaGreat
end

section
set_option linter.unusedVariables false
set_option linter.unusedSimpArgs false
namespace Go.Proofs.YtjnjfinbdfolkaaGreat
theorem loop_ex {α β : Type} {f : (β → Option α) → β → Option α} (I : β → Prop) (m : β → Nat) (Q : α → Prop)
    (step : ∀ s L, I s → (∀ s', I s' → m s' < m s → ∃ r, L s' = some r ∧ Q r) → ∃ r, f L s = some r ∧ Q r) : ∀ (n : Nat) (s : β), I s → m s < n → ∃ r, loopN f n s = some r ∧ Q r
  | 0, s, _, h => absurd h (Nat.not_lt_zero _)
  | n + 1, s, hI, h => step s _ hI fun s' hI' hm => loop_ex I m Q step n s' hI' (by omega)
theorem sumN_single {f : Nat → Int} {i : Nat} (h : ∀ k, k ≠ i → f k = 0) : ∀ n, sumN n f = if i < n then f i else 0
  | 0 => by rw [if_neg (Nat.not_lt_zero _)]; rfl
  | n + 1 => by
    show sumN n f + f n = _
    rw [sumN_single h n]
    by_cases h1 : i < n
    · rw [if_pos h1, if_pos (by omega), h n (by omega), Int.add_zero]
    · rw [if_neg h1, Int.zero_add]
      by_cases h2 : n = i
      · rw [if_pos (by omega), h2]
      · rw [if_neg (by omega), h n h2]
theorem mono_mul (i : Nat) (c : Int) (g : Pz) (k : Nat) : ((mono i c : Pz) * g) k = c * sh g i k := by
  rw [p_mul, sumN_single (i := i) fun j hj => by show mono i c j * _ = 0; unfold mono; rw [if_neg hj, Int.zero_mul]]
  unfold sh
  by_cases h : i ≤ k
  · rw [if_pos (by omega), if_pos h]
    unfold mono
    rw [if_pos rfl]
  · rw [if_neg (by omega), if_neg h, Int.mul_zero]
theorem ci_one (x : Int) : ci [x] = pc x := by
  funext k
  cases k with
  | zero => rfl
  | succ k => exact ci_ge (by simp)
theorem fp_one {p x : Int} (h0 : 0 < x) (h1 : x < p) : Fp p [x] := ⟨fun k => by rw [ci_one]; unfold pc; split <;> omega, fun k => by rw [ci_one]; unfold pc; split <;> omega, .inr (by show x ≠ 0; omega)⟩
theorem fp_nil {p : Int} (h : 0 < p) : Fp p [] := ⟨fun k => by rw [ci_ge (Nat.zero_le _)]; omega, fun k => by rw [ci_ge (Nat.zero_le _)]; exact h, .inl rfl⟩
theorem inv_pos {p x c : Int} (h : 0 ≤ x) (hx : (x * c) % p = 1) : 0 < x := by
  rcases Int.lt_or_eq_of_le h with h | h
  · exact h
  · rw [← h, Int.zero_mul, Int.zero_emod] at hx
    cases hx
theorem M_fpoly_scaled_ex {fu : Nat} {a : List Int} {p c : Int} (hp : prm p = true) (ha : Fp p a) (h0 : 0 < c) (h1 : c < p) (hla : a.length ≤ 90000) (hf : 3000000 ≤ fu) : ∃ x, 0 < x ∧ x < p ∧ (x * c) % p = 1 ∧ M_fp_Inv fu c p = some (x, 0) ∧ M_fpoly_scaled fu a c p = some (fmul p a [x]) := by
  obtain ⟨p1, p2⟩ := prm_rng hp
  obtain ⟨x, e1, e2, e3, e4⟩ := M_fp_Inv_ex hp h0 h1 hf
  have hx := inv_pos e2 e4
  refine ⟨x, hx, e3, e4, e1, ?_⟩
  unfold M_fpoly_scaled
  rw [bd_t e1]
  simp only []
  rw [bd_t (M_fpoly_product_eq (by omega) p2 ha (fp_one hx e3) (by omega) (by simp) hf)]
def offR (R g : Pz) (p c : Int) (i j : Nat) : Pz := fun k => if i ≤ k ∧ k < i + j then (R k + (p - c) * g (k - i)) % p else R k
theorem offR_step (R g : Pz) (p c : Int) (i j k : Nat) : upf (offR R g p c i j) (i + j) ((R (i + j) + (p - c) * g j) % p) k = offR R g p c i (j + 1) k := by
  unfold upf
  by_cases h : k = i + j
  · subst h
    rw [if_pos rfl]
    unfold offR
    rw [if_pos ⟨by omega, by omega⟩, show i + j - i = j by omega]
  · rw [if_neg h]
    unfold offR
    by_cases h2 : i ≤ k ∧ k < i + j
    · rw [if_pos h2, if_pos ⟨h2.1, by omega⟩]
    · rw [if_neg h2, if_neg (by omega)]
theorem offR_emod {R g : Pz} {p c : Int} {i n : Nat} (hR : ∀ k, R k % p = R k) (hg : ∀ k, n ≤ k → g k = 0) (k : Nat) : offR R g p c i n k % p = (R k - c * sh g i k) % p := by
  unfold offR sh
  by_cases h : i ≤ k ∧ k < i + n
  · rw [if_pos h, if_pos h.1, Int.emod_emod, Int.sub_mul]
    refine Int.emod_eq_emod_iff_emod_sub_eq_zero.2 (Int.emod_eq_zero_of_dvd ⟨g (k - i), ?_⟩)
    omega
  · rw [if_neg h]
    by_cases h2 : i ≤ k
    · rw [if_pos h2, hg _ (by omega), Int.mul_zero, Int.sub_zero]
    · rw [if_neg h2, Int.mul_zero, Int.sub_zero]
theorem div_inner {fu n qn i : Nat} {b : List Int} {p c x : Int} {R Q : Pz} (h1 : 1 ≤ p) (h2 : p ≤ 65521) (hb : Fp p b) (hR : ∀ k, 0 ≤ R k ∧ R k < p) (hc : 0 ≤ c) (hc2 : c < p) (hin : i + b.length ≤ n) (hn : n ≤ 100000) (hf : 3000000 ≤ fu) :
    loopN (B_fpoly_divided_1 fu b (i : Int) c) fu (b, p, x, 0, zl n R, zl qn Q) = some (b, p, x, zl n (offR R (ci b) p c i b.length), zl qn Q) := by
  refine loop_eq (fun s : List Int × Int × Int × Int × List Int × List Int => ∃ j : Nat, j ≤ b.length ∧ s = (b, p, x, (j : Int), zl n (offR R (ci b) p c i j), zl qn Q)) (fun s => b.length - s.2.2.2.1.toNat) _ ?_ _ _ ⟨0, Nat.zero_le _, by rw [zl_congr (f := R) (g := offR R (ci b) p c i 0) fun k _ => by unfold offR; rw [if_neg (by omega)]]; rfl⟩ (by show b.length - 0 < fu; omega)
  rintro s L ⟨j, hj, rfl⟩ ih
  unfold B_fpoly_divided_1
  simp only []
  by_cases h3 : j < b.length
  · rw [if_pos (by omega), bd_t rfl]
    simp only [if_true]
    have e : (i : Int) + (j : Int) = ((i + j : Nat) : Int) := by omega
    have e2 : offR R (ci b) p c i j (i + j) = R (i + j) := by unfold offR; rw [if_neg (by omega)]
    obtain ⟨r1, r2⟩ := hR (i + j)
    have r3 : 0 ≤ (p - c) * ci b j := Int.mul_nonneg (by omega) (hb.nn j)
    have r4 : (p - c) * ci b j ≤ 65521 * ci b j := Int.mul_le_mul_of_nonneg_right (by omega) (hb.nn j)
    have r5 := hb.lt j
    rw [ckI_n h3, nm_t, e, ck64_t ⟨by omega, by omega⟩, ck64_t ⟨by omega, by omega⟩, ckI_n (by rw [zl_len]; omega), nm_t, zl_getD (by omega), ci_d, e2, ck64_t ⟨by omega, by omega⟩, ck64_t ⟨by omega, by omega⟩, ck64_t ⟨by omega, by omega⟩, ck_t (by omega), nm_t, tmod_nn (by omega), ckI_n (by rw [zl_len]; omega), nm_t, zl_set, ck64_t ⟨by omega, by omega⟩]
    exact ih _ ⟨j + 1, by omega, by rw [zl_congr fun k _ => offR_step R (ci b) p c i j k]; rfl⟩ (by show b.length - ((j : Int) + 1).toNat < b.length - (j : Int).toNat; omega)
  · rw [if_neg (by omega), bd_t rfl]
    simp only [Bool.false_eq_true, if_false]
    obtain rfl : j = b.length := by omega
    rfl
structure FdI (p : Int) (a b : List Int) (qn i : Nat) (R Q : Pz) : Prop where
  hi : i ≤ qn
  rr : ∀ k, 0 ≤ R k ∧ R k < p
  qr : ∀ k, 0 ≤ Q k ∧ Q k < p
  rz : ∀ k, i + (b.length - 1) ≤ k → R k = 0
  ql : ∀ k, k < i → Q k = 0
  qz : ∀ k, qn ≤ k → Q k = 0
  cg : Cg p (ci a) (Q * ci b + R)
theorem FdI.step {p x : Int} {a b : List Int} {qn i : Nat} {R Q : Pz} (h1 : 1 ≤ p) (h : FdI p a b qn (i + 1) R Q) (hb : 0 < b.length) (hx : (x * ci b (b.length - 1)) % p = 1) :
    FdI p a b qn i (offR R (ci b) p (R (i + (b.length - 1)) * x % p) i b.length) (upf Q i (R (i + (b.length - 1)) * x % p)) := by
  obtain ⟨c, hc⟩ : ∃ c, c = R (i + (b.length - 1)) * x % p := ⟨_, rfl⟩
  have hi := h.hi
  have hcr := red_rng (a := R (i + (b.length - 1)) * x) (p := p) (by omega)
  rw [← hc] at hcr ⊢
  have hRm : ∀ k, R k % p = R k := fun k => Int.emod_eq_of_lt (h.rr k).1 (h.rr k).2
  have hoff := offR_emod (g := ci b) (c := c) (i := i) (n := b.length) hRm (fun k hk => ci_ge hk)
  have hrr : ∀ k, 0 ≤ offR R (ci b) p c i b.length k ∧ offR R (ci b) p c i b.length k < p := fun k => by
    unfold offR; split
    · exact red_rng (by omega)
    · exact h.rr k
  have hup : ∀ k, upf Q i c k = (Q + (mono i c : Pz)) k := fun k => by
    rw [p_add]
    unfold upf mono
    by_cases hk : k = i
    · rw [if_pos hk, if_pos hk, h.ql k (by omega), Int.zero_add]
    · rw [if_neg hk, if_neg hk, Int.add_zero]
  refine ⟨by omega, hrr, fun k => ?_, fun k hk => ?_, fun k hk => ?_, fun k hk => ?_, ?_⟩
  · unfold upf; split
    · exact hcr
    · exact h.qr k
  · have h3 := Int.emod_eq_of_lt (hrr k).1 (hrr k).2
    rw [← h3, hoff]
    by_cases hk2 : k = i + (b.length - 1)
    · unfold sh
      rw [if_pos (by omega), show k - i = b.length - 1 by omega, hc, hk2, Int.sub_emod, Int.mul_emod, Int.emod_emod, ← Int.mul_emod, Int.mul_assoc, Int.mul_emod _ (x * _), hx, Int.mul_one, Int.emod_emod, ← Int.sub_emod, Int.sub_self, Int.zero_emod]
    · unfold sh
      rw [h.rz k (by omega), if_pos (by omega), ci_ge (l := b) (by omega), Int.mul_zero, Int.sub_zero, Int.zero_emod]
  · unfold upf
    rw [if_neg (by omega)]
    exact h.ql k (by omega)
  · unfold upf
    rw [if_neg (by omega)]
    exact h.qz k hk
  · refine h.cg.trans fun k => ?_
    rw [show upf Q i c = Q + (mono i c : Pz) from funext hup, p_add_mul, p_add, p_add, p_add, mono_mul, Int.add_emod (_ + _), hoff, ← Int.add_emod]
    congr 1
    omega
theorem M_fpoly_divided_ex {fu : Nat} {a b : List Int} {p : Int} (hp : prm p = true) (ha : Fp p a) (hb : Fp p b) (hb0 : 0 < b.length) (hla : a.length ≤ 90000) (hlb : b.length ≤ 90000) (hf : 3000000 ≤ fu) :
    ∃ q r, M_fpoly_divided fu a b p = some (q, r) ∧ Fp p q ∧ Fp p r ∧ Cg p (ci a) (ci q * ci b + ci r) ∧ r.length < b.length ∧ q.length ≤ a.length := by
  obtain ⟨p1, p2⟩ := prm_rng hp
  unfold M_fpoly_divided
  rw [ck_t (by simp; omega), nm_t, List.nil_append, ck64_t ⟨by omega, by omega⟩]
  by_cases hl : a.length < b.length
  · rw [if_pos (by omega)]
    refine ⟨[], a, rfl, fp_nil (by omega), ha, Cg.of ?_, hl, Nat.zero_le _⟩
    funext k
    rw [p_add, show ci [] = pc 0 from funext fun j => by rw [ci_ge (Nat.zero_le _), pc_zero], p_zero_mul, pc_zero, Int.zero_add]
  · obtain ⟨qn, hq⟩ : ∃ qn, qn = a.length - b.length + 1 := ⟨_, rfl⟩
    have htop : ci b (b.length - 1) ≠ 0 := by
      rcases hb.nl with h | h
      · omega
      · exact h
    have t1 := hb.nn (b.length - 1)
    have t2 := hb.lt (b.length - 1)
    obtain ⟨x, e1, e2, e3, e4⟩ := M_fp_Inv_ex (fu := fu) hp (show 0 < ci b (b.length - 1) by omega) t2 hf
    have c1 : ((b.length : Nat) : Int) - 1 = ((b.length - 1 : Nat) : Int) := by omega
    have c2 : ((a.length : Nat) : Int) - ((b.length : Nat) : Int) + 1 = (qn : Int) := by omega
    rw [if_neg (by omega), c1, ck64_t ⟨by omega, by omega⟩, ckI_n (by omega), nm_t, ci_d, bd_t e1]
    simp only []
    rw [ck64_t ⟨by omega, by omega⟩, c2, ckN_n, ck_t (by omega), nm_t]
    have hloop := loop_ex (f := B_fpoly_divided_0 fu b p x) (fun s : Int × List Int × List Int => ∃ (i : Nat) (R Q : Pz), s = ((i : Int) - 1, zl a.length R, zl qn Q) ∧ FdI p a b qn i R Q) (fun s => (s.1 + 1).toNat)
      (fun r => ∃ R Q : Pz, r = (zl a.length R, zl qn Q) ∧ FdI p a b qn 0 R Q) (by
        rintro s L ⟨i, R, Q, rfl, h⟩ ih
        unfold B_fpoly_divided_0
        simp only []
        cases i with
        | zero =>
          rw [if_neg (by omega)]
          exact ⟨_, rfl, R, Q, rfl, h⟩
        | succ i =>
          have hi := h.hi
          obtain ⟨r1, r2⟩ := h.rr (i + (b.length - 1))
          obtain ⟨r3, r4⟩ := prod_rng p2 r1 r2 e2 e3
          have hcr := red_rng (a := R (i + (b.length - 1)) * x) (p := p) (by omega)
          rw [show ((i + 1 : Nat) : Int) - 1 = (i : Int) by omega, if_pos (by omega), ck64_t ⟨by omega, by omega⟩, show (i : Int) + ((b.length : Nat) : Int) - 1 = ((i + (b.length - 1) : Nat) : Int) by omega, ck64_t ⟨by omega, by omega⟩, ckI_n (by rw [zl_len]; omega), nm_t, zl_getD (by omega), ck64_t ⟨by omega, by omega⟩, ck_t (by omega), nm_t, tmod_nn r3, ckI_n (by rw [zl_len]; omega), nm_t, zl_set, bd_t (div_inner (by omega) p2 hb h.rr hcr.1 hcr.2 (by omega) (by omega) hf)]
          simp only []
          rw [ck64_t ⟨by omega, by omega⟩]
          exact ih _ ⟨i, _, _, rfl, h.step (by omega) hb0 e4⟩ (by show ((i : Int) - 1 + 1).toNat < (((i + 1 : Nat) : Int) - 1 + 1).toNat; omega))
      fu (((a.length : Nat) : Int) - ((b.length : Nat) : Int), a, List.replicate qn 0) ⟨qn, ci a, fun _ => 0, by rw [zl_ci, zl_rep, show ((a.length : Nat) : Int) - ((b.length : Nat) : Int) = (qn : Int) - 1 by omega], Nat.le_refl _, fun k => ⟨ha.nn k, ha.lt k⟩, fun k => ⟨Int.le_refl _, by omega⟩, fun k hk => ci_ge (by omega), fun k _ => rfl, fun k _ => rfl, Cg.of (by
        funext k
        rw [p_add, show ((fun _ => 0 : Pz)) = pc 0 from funext fun j => (pc_zero j).symm, p_zero_mul, pc_zero, Int.zero_add])⟩ (by show (((a.length : Nat) : Int) - ((b.length : Nat) : Int) + 1).toNat < fu; omega)
    obtain ⟨_, hl1, R, Q, rfl, h⟩ := hloop
    rw [bd_t hl1]
    simp only []
    have hRl : Rl (zl a.length R) := fun k => by
      rw [ci_zl_z fun j hj => h.rz j (by omega)]
      have := h.rr k
      exact ⟨by omega, by omega⟩
    have hQl : Rl (zl qn Q) := fun k => by
      rw [ci_zl_z h.qz]
      have := h.qr k
      exact ⟨by omega, by omega⟩
    rw [bd_t (M_fpoly_plain_eq (by omega) p2 hQl (by rw [zl_len]; omega) hf), bd_t (M_fpoly_plain_eq (by omega) p2 hRl (by rw [zl_len]; omega) hf)]
    refine ⟨_, _, rfl, pm_fp (by omega) _, pm_fp (by omega) _, ?_, ?_, ?_⟩
    · refine h.cg.trans (Cg.add (Cg.mul (Cg.symm ((pm_cg p _).trans (Cg.of (funext (ci_zl_z h.qz))))) Cg.rfl) (Cg.symm ((pm_cg p _).trans (Cg.of (funext (ci_zl_z fun j hj => h.rz j (by omega)))))))
    · have := (pm_fp (p := p) (by omega) (zl a.length R)).nl.le (n := b.length - 1) fun k hk => by
        rw [pm_ci, ci_zl_z (fun j hj => h.rz j (by omega)), h.rz k (by omega), Int.zero_emod]
      omega
    · have := pm_le p (zl qn Q)
      rw [zl_len] at this
      omega
end Go.Proofs.YtjnjfinbdfolkaaGreat
end

section
set_option linter.unusedVariables false
set_option linter.unusedSimpArgs false
namespace Go.Proofs.YtjnjfinbdfolkaaGreat
theorem pc_neg {p : Int} (f : Pz) : Cg p (pc (p - 1) * f) (-f) := fun k => by
  rw [pc_mul, p_neg, Int.sub_mul, Int.one_mul]
  refine Int.emod_eq_emod_iff_emod_sub_eq_zero.2 (Int.emod_eq_zero_of_dvd ⟨f k, ?_⟩)
  omega
theorem fsum_less {p : Int} (a b : List Int) : Cg p (ci (fsum p a b (p - 1))) (ci a - ci b) := by
  refine (fsum_cg p a b (p - 1)).trans ?_
  rw [p_sub_eq]
  exact Cg.rfl.add (pc_neg _)
theorem M_fpoly_next_ex {fu N S : Nat} {p : Int} {r0 s0 t0 r1 s1 t1 : List Int} (hp : prm p = true) (hr0 : Fp p r0) (hs0 : Fp p s0) (ht0 : Fp p t0) (hr1 : Fp p r1) (hs1 : Fp p s1) (ht1 : Fp p t1) (h0 : 0 < r1.length) (l1 : r0.length ≤ N) (l2 : r1.length ≤ N) (l3 : s0.length ≤ S) (l4 : t0.length ≤ S) (l5 : s1.length ≤ S) (l6 : t1.length ≤ S) (hN : N ≤ 9000) (hS : S ≤ 90000) (hf : 3000000 ≤ fu) :
    ∃ q, Fp p q ∧ q.length ≤ N ∧ Cg p (ci r0) (ci q * ci r1 + ci (fsum p r0 (fmul p q r1) (p - 1))) ∧ (fsum p r0 (fmul p q r1) (p - 1)).length < r1.length ∧
      M_fpoly_next fu [r0, s0, t0] [r1, s1, t1] p = some [fsum p r0 (fmul p q r1) (p - 1), fsum p s0 (fmul p q s1) (p - 1), fsum p t0 (fmul p q t1) (p - 1)] := by
  obtain ⟨p1, p2⟩ := prm_rng hp
  obtain ⟨q, r, e1, hq, hr, hcg, hlt, hql⟩ := M_fpoly_divided_ex (fu := fu) hp hr0 hr1 h0 (by omega) (by omega) hf
  have hre : fsum p r0 (fmul p q r1) (p - 1) = r := by
    refine Fp.ext (fsum_fp (by omega) _ _ _) hr ((fsum_less r0 (fmul p q r1)).trans ?_)
    refine (hcg.sub (fmul_cg p q r1)).trans (Cg.of ?_)
    funext k
    simp only [p_add, p_sub]
    omega
  refine ⟨q, hq, by omega, by rw [hre]; exact hcg, by rw [hre]; exact hlt, ?_⟩
  unfold M_fpoly_next
  have f1 := fmul_le p q r1
  have f2 := fmul_le p q s1
  have f3 := fmul_le p q t1
  rw [show (0 : Int) = ((0 : Nat) : Int) from rfl, ckI_n (by decide), ckI_n (by decide), nm_t]
  show bd (M_fpoly_divided fu r0 r1 p) _ = _
  rw [bd_t e1]
  simp only []
  rw [bd_t (v := ([fsum p r0 (fmul p q r1) (p - 1), fsum p s0 (fmul p q s1) (p - 1), fsum p t0 (fmul p q t1) (p - 1)], List.replicate 3 []))]
  obtain ⟨n, hn⟩ : ∃ n, fu = n + 4 := ⟨fu - 4, by omega⟩
  have step : ∀ (L : List Int × Int × List (List Int) × List (List Int) → Option (List (List Int) × List (List Int))) (i : Nat) (x y z u : List Int) (ts : List (List Int)), i < 3 → ts.length = 3 → ts.getD i [] = x → [r1, s1, t1].getD i [] = y → Fp p x → Fp p y → x.length ≤ 90000 → y.length ≤ 90000 →
      B_fpoly_next_0 fu [r1, s1, t1] p L (q, (i : Int), ts, List.replicate 3 []) = L (q, ((i + 1 : Nat) : Int), ts.set i (fsum p x (fmul p q y) (p - 1)), List.replicate 3 []) := fun L i x y z u ts hi hts hx hy hxF hyF hxl hyl => by
    unfold B_fpoly_next_0
    simp only []
    have f4 := fmul_le p q y
    rw [if_pos (by omega), bd_t rfl]
    simp only [if_true]
    rw [ckI_n hi, ckI_n hi, nm_t, hx, hy, bd_t (M_fpoly_product_eq (by omega) p2 hq hyF (by omega) (by omega) hf), ck64_t ⟨by omega, by omega⟩, bd_t (M_fpoly_sum_eq (by omega) p2 hxF (fmul_fp (by omega) _ _) (by omega) (by omega) (by omega) (by omega) hf), ckI_n hi, nm_t, ck64_t ⟨by omega, by omega⟩]
    rfl
  have hn' : loopN (B_fpoly_next_0 fu [r1, s1, t1] p) (n + 4) (q, ((0 : Nat) : Int), [r0, s0, t0], List.replicate 3 []) = some ([fsum p r0 (fmul p q r1) (p - 1), fsum p s0 (fmul p q s1) (p - 1), fsum p t0 (fmul p q t1) (p - 1)], List.replicate 3 []) := by
    rw [loopN_t, step _ 0 r0 r1 [] [] _ (by decide) rfl rfl rfl hr0 hr1 (by omega) (by omega), loopN_t, step _ 1 s0 s1 [] [] _ (by decide) rfl rfl rfl hs0 hs1 (by omega) (by omega), loopN_t, step _ 2 t0 t1 [] [] _ (by decide) rfl rfl rfl ht0 ht1 (by omega) (by omega), loopN_t]
    unfold B_fpoly_next_0
    simp only []
    rw [if_neg (by decide), bd_t rfl]
    rfl
  rw [← hn] at hn'
  exact hn'
def Fs (f : Pz) : Prop := ∃ n, ∀ k, n ≤ k → f k = 0
theorem Fs.add {f g : Pz} (hf : Fs f) (hg : Fs g) : Fs (f + g) := by
  obtain ⟨n, hn⟩ := hf
  obtain ⟨m, hm⟩ := hg
  exact ⟨n + m, fun k hk => by rw [p_add, hn k (by omega), hm k (by omega)]; rfl⟩
theorem Fs.mul {f g : Pz} (hf : Fs f) (hg : Fs g) : Fs (f * g) := by
  obtain ⟨n, hn⟩ := hf
  obtain ⟨m, hm⟩ := hg
  exact ⟨n + m, fun k hk => p_mul_out hn hm (by omega)⟩
theorem Fs.pc (c : Int) : Fs (pc c) := ⟨1, fun k hk => by unfold Go.Proofs.YtjnjfinbdfolkaaGreat.pc; rw [if_neg (by omega)]⟩
theorem Fs.ci (l : List Int) : Fs (ci l) := ⟨l.length, fun k hk => ci_ge hk⟩
theorem Fs.cf (l : List Zr) : Fs (cf l) := ⟨l.length, fun k hk => cf_ge hk⟩
structure BzR (p : Int) (g h d s t : List Int) (S : Nat) : Prop where
  df : Fp p d
  sf : Fp p s
  tf : Fp p t
  cg : Cg p (ci d) (ci s * ci g + ci t * ci h)
  dv : ∃ A C : Pz, Fs A ∧ Fs C ∧ Cg p (ci g) (A * ci d) ∧ Cg p (ci h) (C * ci d)
  dl : d.length ≤ S
  sl : s.length ≤ S
  tl : t.length ≤ S
structure BzI (p : Int) (g h r0 s0 t0 r1 s1 t1 : List Int) (N : Nat) : Prop where
  f0 : Fp p r0
  g0 : Fp p s0
  h0 : Fp p t0
  f1 : Fp p r1
  g1 : Fp p s1
  h1 : Fp p t1
  c0 : Cg p (ci r0) (ci s0 * ci g + ci t0 * ci h)
  c1 : Cg p (ci r1) (ci s1 * ci g + ci t1 * ci h)
  dv : ∃ A B C D : Pz, Fs A ∧ Fs B ∧ Fs C ∧ Fs D ∧ Cg p (ci g) (A * ci r0 + B * ci r1) ∧ Cg p (ci h) (C * ci r0 + D * ci r1)
  l0 : r0.length ≤ N
  l1 : r1.length ≤ N
  b0 : s0.length ≤ 1 + N * (N + 1 - r1.length)
  b1 : t0.length ≤ 1 + N * (N + 1 - r1.length)
  b2 : s1.length ≤ 1 + N * (N + 1 - r1.length)
  b3 : t1.length ≤ 1 + N * (N + 1 - r1.length)
theorem BzI.step {fu N : Nat} {p : Int} {g h r0 s0 t0 r1 s1 t1 : List Int} (hI : BzI p g h r0 s0 t0 r1 s1 t1 N) (hp : prm p = true) (hN : N ≤ 290) (hr : 0 < r1.length) (hf : 3000000 ≤ fu) :
    ∃ r2 s2 t2, M_fpoly_next fu [r0, s0, t0] [r1, s1, t1] p = some [r2, s2, t2] ∧ r2.length < r1.length ∧ BzI p g h r1 s1 t1 r2 s2 t2 N := by
  obtain ⟨p1, p2⟩ := prm_rng hp
  have hb : 1 + N * (N + 1 - r1.length) ≤ 90000 := by
    have : N * (N + 1 - r1.length) ≤ 290 * 290 := Nat.mul_le_mul hN (by omega)
    omega
  have hl0 := hI.l0
  have hl1 := hI.l1
  have hb0 := hI.b0
  have hb1 := hI.b1
  have hb2 := hI.b2
  have hb3 := hI.b3
  obtain ⟨q, hq, hql, hcg, hlt, he⟩ := M_fpoly_next_ex (fu := fu) (S := 1 + N * (N + 1 - r1.length)) hp hI.f0 hI.g0 hI.h0 hI.f1 hI.g1 hI.h1 hr hl0 hl1 hb0 hb1 hb2 hb3 (by omega) hb hf
  refine ⟨_, _, _, he, hlt, hI.f1, hI.g1, hI.h1, fsum_fp (by omega) _ _ _, fsum_fp (by omega) _ _ _, fsum_fp (by omega) _ _ _, hI.c1, ?_, ?_, hl1, by omega, ?_, ?_, ?_, ?_⟩
  · refine (fsum_less _ _).trans ((hI.c0.sub ((fmul_cg p q r1).trans (Cg.rfl.mul hI.c1))).trans ?_)
    refine Cg.trans (Cg.of ?_) (Cg.symm (((fsum_less s0 (fmul p q s1)).trans (Cg.rfl.sub (fmul_cg p q s1))).mul (Cg.rfl (f := ci g)) |>.add (((fsum_less t0 (fmul p q t1)).trans (Cg.rfl.sub (fmul_cg p q t1))).mul (Cg.rfl (f := ci h)))))
    simp only [p_mul_add, p_add_mul, p_mul_sub, p_sub_mul, p_mul_assoc]
    funext k
    simp only [p_add, p_sub]
    omega
  · obtain ⟨A, B, C, D, z1, z2, z3, z4, d1, d2⟩ := hI.dv
    refine ⟨A * ci q + B, A, C * ci q + D, C, (z1.mul (Fs.ci q)).add z2, z1, (z3.mul (Fs.ci q)).add z4, z3, ?_, ?_⟩
    · refine d1.trans (((Cg.rfl (f := A)).mul hcg |>.add Cg.rfl).trans (Cg.of ?_))
      simp only [p_mul_add, p_add_mul, p_mul_assoc]
      funext k
      simp only [p_add]
      omega
    · refine d2.trans (((Cg.rfl (f := C)).mul hcg |>.add Cg.rfl).trans (Cg.of ?_))
      simp only [p_mul_add, p_add_mul, p_mul_assoc]
      funext k
      simp only [p_add]
      omega
  · have : N * (N + 1 - r1.length) ≤ N * (N + 1 - (fsum p r0 (fmul p q r1) (p - 1)).length) := Nat.mul_le_mul_left _ (by omega)
    omega
  · have : N * (N + 1 - r1.length) ≤ N * (N + 1 - (fsum p r0 (fmul p q r1) (p - 1)).length) := Nat.mul_le_mul_left _ (by omega)
    omega
  · have h1 := fsum_le p s0 (fmul p q s1) (p - 1)
    have h2 := fmul_le p q s1
    have h3 : N * (N + 1 - r1.length + 1) ≤ N * (N + 1 - (fsum p r0 (fmul p q r1) (p - 1)).length) := Nat.mul_le_mul_left _ (by omega)
    rw [Nat.mul_add, Nat.mul_one] at h3
    omega
  · have h1 := fsum_le p t0 (fmul p q t1) (p - 1)
    have h2 := fmul_le p q t1
    have h3 : N * (N + 1 - r1.length + 1) ≤ N * (N + 1 - (fsum p r0 (fmul p q r1) (p - 1)).length) := Nat.mul_le_mul_left _ (by omega)
    rw [Nat.mul_add, Nat.mul_one] at h3
    omega
theorem bez_loop {fu N : Nat} {p : Int} {g h : List Int} (hp : prm p = true) (hN : N ≤ 290) (hf : 3000000 ≤ fu) {r0 s0 t0 r1 s1 t1 : List Int} (hI : BzI p g h r0 s0 t0 r1 s1 t1 N) :
    ∃ d s t, loopN (B_fpoly_Bezout_0 fu p) fu ([r0, s0, t0], [r1, s1, t1]) = some [d, s, t] ∧ BzR p g h d s t (1 + N * (N + 1)) := by
  obtain ⟨r, e1, d, s, t, rfl, e3⟩ := loop_ex (f := B_fpoly_Bezout_0 fu p) (fun x : List (List Int) × List (List Int) => ∃ r0 s0 t0 r1 s1 t1, x = ([r0, s0, t0], [r1, s1, t1]) ∧ BzI p g h r0 s0 t0 r1 s1 t1 N) (fun x => (x.2.getD 0 []).length) (fun r => ∃ d s t, r = [d, s, t] ∧ BzR p g h d s t (1 + N * (N + 1))) (by
    rintro x L ⟨r0, s0, t0, r1, s1, t1, rfl, hI⟩ ih
    unfold B_fpoly_Bezout_0
    simp only []
    rw [show (0 : Int) = ((0 : Nat) : Int) from rfl, ckI_n (by decide)]
    show ∃ r, (if ((0 : Nat) : Int) < ((r1.length : Nat) : Int) then _ else _) = some r ∧ _
    by_cases h0 : 0 < r1.length
    · obtain ⟨r2, s2, t2, he, hlt, hI2⟩ := hI.step (fu := fu) hp hN h0 hf
      rw [if_pos (by omega), bd_t he]
      exact ih _ ⟨_, _, _, _, _, _, rfl, hI2⟩ hlt
    · rw [if_neg (by omega)]
      have hz : ci r1 = pc 0 := funext fun k => by rw [ci_ge (by omega), pc_zero]
      have hb : 1 + N * (N + 1 - r1.length) ≤ 1 + N * (N + 1) := by
        have : N * (N + 1 - r1.length) ≤ N * (N + 1) := Nat.mul_le_mul_left _ (by omega)
        omega
      have hl0 := hI.l0
      have hb2 : N * 1 ≤ N * (N + 1) := Nat.mul_le_mul_left _ (by omega)
      refine ⟨_, rfl, r0, s0, t0, rfl, hI.f0, hI.g0, hI.h0, hI.c0, ?_, by omega, Nat.le_trans hI.b0 hb, Nat.le_trans hI.b1 hb⟩
      obtain ⟨A, B, C, D, z1, z2, z3, z4, d1, d2⟩ := hI.dv
      rw [hz, p_mul_comm B, p_zero_mul] at d1
      rw [hz, p_mul_comm D, p_zero_mul] at d2
      refine ⟨A, C, z1, z3, d1.trans (Cg.of ?_), d2.trans (Cg.of ?_)⟩ <;> funext k <;> rw [p_add, pc_zero, Int.add_zero]) fu ([r0, s0, t0], [r1, s1, t1]) ⟨_, _, _, _, _, _, rfl, hI⟩ (by have := hI.l1; show r1.length < fu; omega)
  exact ⟨d, s, t, e1, e3⟩
theorem M_fpoly_Bezout_ex {fu : Nat} {p : Int} {g h : List Int} (hp : prm p = true) (hg : Fp p g) (hh : Fp p h) (hlg : g.length ≤ 290) (hlh : h.length ≤ 290) (hf : 3000000 ≤ fu) :
    ∃ d s t, M_fpoly_Bezout fu g h p = some (d, s, t, 0) ∧ BzR p g h d s t (2 + max g.length h.length * (max g.length h.length + 1)) ∧ (d.length = 0 ∨ ci d (d.length - 1) = 1) := by
  obtain ⟨p1, p2⟩ := prm_rng hp
  unfold M_fpoly_Bezout
  rw [bd_t (fp_check hp (by omega)), if_pos rfl, bd_t (M_fpoly_plain_eq (by omega) p2 (hg.rl p2) (by omega) hf), bd_t (M_fpoly_plain_eq (by omega) p2 (hh.rl p2) (by omega) hf), hg.pm, hh.pm]
  have z0 : ci ([] : List Int) = pc 0 := funext fun k => by rw [ci_ge (Nat.zero_le _), pc_zero]
  have addz : ∀ f : Pz, f + pc 0 = f := fun f => funext fun k => by rw [p_add, pc_zero, Int.add_zero]
  have zadd : ∀ f : Pz, pc 0 + f = f := fun f => funext fun k => by rw [p_add, pc_zero, Int.zero_add]
  have hI : BzI p g h g [1] [] h [] [1] (max g.length h.length) := by
    refine ⟨hg, fp_one (by decide) (by omega), fp_nil (by omega), hh, fp_nil (by omega), fp_one (by decide) (by omega), Cg.of ?_, Cg.of ?_, ⟨pc 1, pc 0, pc 0, pc 1, Fs.pc 1, Fs.pc 0, Fs.pc 0, Fs.pc 1, Cg.of ?_, Cg.of ?_⟩, Nat.le_max_left _ _, Nat.le_max_right _ _, Nat.le_add_right _ _, Nat.zero_le _, Nat.zero_le _, Nat.le_add_right _ _⟩
    · rw [ci_one, z0, p_one_mul, p_zero_mul, addz]
    · rw [ci_one, z0, p_one_mul, p_zero_mul, zadd]
    · rw [p_one_mul, p_zero_mul, addz]
    · rw [p_one_mul, p_zero_mul, zadd]
  obtain ⟨d, s, t, e1, hR⟩ := bez_loop (fu := fu) hp (by omega) hf hI
  have hS : max g.length h.length * (max g.length h.length + 1) ≤ 290 * 291 := Nat.mul_le_mul (by omega) (by omega)
  generalize max g.length h.length * (max g.length h.length + 1) = S at *
  rw [bd_t e1, show (0 : Int) = ((0 : Nat) : Int) from rfl, ckI_n (by decide)]
  show ∃ d' s' t', bd (if ((0 : Nat) : Int) < ((d.length : Nat) : Int) then some true else some false) _ = _ ∧ _
  by_cases h0 : 0 < d.length
  · have hdl := hR.dl
    have htop : ci d (d.length - 1) ≠ 0 := by
      rcases hR.df.nl with h | h
      · omega
      · exact h
    have t1 := hR.df.nn (d.length - 1)
    have t2 := hR.df.lt (d.length - 1)
    obtain ⟨x, x1, x2, x3, x4, x5⟩ := M_fpoly_scaled_ex (fu := fu) hp hR.df (show 0 < ci d (d.length - 1) by omega) t2 (by omega) hf
    have sc : ∀ {a : List Int}, Fp p a → a.length ≤ 90000 → M_fpoly_scaled fu a (ci d (d.length - 1)) p = some (fmul p a [x]) := fun {a} ha hl => by
      unfold M_fpoly_scaled
      rw [bd_t x4]
      simp only []
      rw [bd_t (M_fpoly_product_eq (by omega) p2 ha (fp_one x1 x2) (by omega) (by simp) hf)]
    rw [if_pos (by omega), bd_t rfl, if_pos rfl, ckI_n (by decide)]
    show ∃ d' s' t', ck64 (((d.length : Nat) : Int) - 1) _ = _ ∧ _
    rw [show ((d.length : Nat) : Int) - 1 = ((d.length - 1 : Nat) : Int) by omega, ck64_t ⟨by omega, by omega⟩]
    show ∃ d' s' t', ckI ((d.length - 1 : Nat) : Int) d.length _ = _ ∧ _
    rw [ckI_n (by omega), nm_t]
    show ∃ d' s' t', bd (loopN (B_fpoly_Bezout_1 fu p (ci d (d.length - 1))) fu (((0 : Nat) : Int), [d, s, t])) _ = _ ∧ _
    have hloop : loopN (B_fpoly_Bezout_1 fu p (ci d (d.length - 1))) fu (((0 : Nat) : Int), [d, s, t]) = some [fmul p d [x], fmul p s [x], fmul p t [x]] := by
      obtain ⟨n, hn⟩ : ∃ n, fu = n + 4 := ⟨fu - 4, by omega⟩
      have step : ∀ (L : Int × List (List Int) → Option (List (List Int))) (i : Nat) (y : List Int) (ts : List (List Int)), i < 3 → ts.getD i [] = y → Fp p y → y.length ≤ 90000 →
          B_fpoly_Bezout_1 fu p (ci d (d.length - 1)) L ((i : Int), ts) = L (((i + 1 : Nat) : Int), ts.set i (fmul p y [x])) := fun L i y ts hi hy hyF hyl => by
        unfold B_fpoly_Bezout_1
        simp only []
        rw [if_pos (by omega), ckI_n hi, hy, bd_t (sc hyF hyl), ckI_n hi, nm_t, ck64_t ⟨by omega, by omega⟩]
        rfl
      have hn' : loopN (B_fpoly_Bezout_1 fu p (ci d (d.length - 1))) (n + 4) (((0 : Nat) : Int), [d, s, t]) = some [fmul p d [x], fmul p s [x], fmul p t [x]] := by
        rw [loopN_t, step _ 0 d _ (by decide) rfl hR.df (Nat.le_trans hR.dl (by omega)), loopN_t, step _ 1 s _ (by decide) rfl hR.sf (Nat.le_trans hR.sl (by omega)), loopN_t, step _ 2 t _ (by decide) rfl hR.tf (Nat.le_trans hR.tl (by omega)), loopN_t]
        unfold B_fpoly_Bezout_1
        simp only []
        rw [if_neg (by decide)]
        rfl
      rw [← hn] at hn'
      exact hn'
    rw [bd_t hloop]
    have hmul : ∀ a : List Int, Cg p (ci (fmul p a [x])) (ci a * pc x) := fun a => by
      have := fmul_cg p a [x]
      rw [ci_one] at this
      exact this
    have hunit : Cg p (pc x * pc (ci d (d.length - 1))) (pc 1) := fun k => by
      rw [pc_pc]
      unfold pc; split
      · rw [x3]; exact (Int.emod_eq_of_lt (by decide) (by omega)).symm
      · rfl
    have f1 := fmul_le p d [x]
    have f2 := fmul_le p s [x]
    have f3 := fmul_le p t [x]
    have hsl := hR.sl
    have htl := hR.tl
    simp only [List.length_cons, List.length_nil] at f1 f2 f3
    have hmon : ∀ k, ci (fmul p d [x]) k = (x * ci d k) % p := fun k => by
      rw [fmul_ci, ci_one, p_mul_comm, pc_mul]
    have hlead : (fmul p d [x]).length = d.length := by
      refine Nat.le_antisymm ((fmul_fp (by omega) _ _).nl.le fun k hk => ?_) (Nat.le_of_not_lt fun hlt => ?_)
      · rw [hmon, ci_ge hk, Int.mul_zero, Int.zero_emod]
      · have h3 := hmon (d.length - 1)
        rw [x3, ci_ge (by omega)] at h3
        cases h3
    refine ⟨fmul p d [x], fmul p s [x], fmul p t [x], rfl, ⟨fmul_fp (by omega) _ _, fmul_fp (by omega) _ _, fmul_fp (by omega) _ _, ?_, ?_, by omega, by omega, by omega⟩, .inr ?_⟩
    · refine (hmul d).trans ((hR.cg.mul Cg.rfl).trans (Cg.trans (Cg.of ?_) (Cg.symm (((hmul s).mul Cg.rfl).add ((hmul t).mul Cg.rfl)))))
      simp only [p_mul_add, p_add_mul, p_mul_assoc, p_mul_comm, p_mul_left_comm]
    · obtain ⟨A, C, z1, z3, d1, d2⟩ := hR.dv
      have key : ∀ F : Pz, Cg p (F * ci d) (F * pc (ci d (d.length - 1)) * ci (fmul p d [x])) := fun F => by
        refine Cg.symm ((Cg.rfl.mul (hmul d)).trans (Cg.trans (Cg.of ?_) (((Cg.rfl (f := F * ci d)).mul hunit).trans (Cg.of (p_mul_one _)))))
        simp only [p_mul_assoc, p_mul_comm, p_mul_left_comm]
      exact ⟨_, _, z1.mul (Fs.pc _), z3.mul (Fs.pc _), d1.trans (key A), d2.trans (key C)⟩
    · rw [hlead, hmon, x3]
  · rw [if_neg (by omega), bd_t rfl, if_neg (by decide)]
    exact ⟨d, s, t, rfl, ⟨hR.df, hR.sf, hR.tf, hR.cg, hR.dv, Nat.le_trans hR.dl (by omega), Nat.le_trans hR.sl (by omega), Nat.le_trans hR.tl (by omega)⟩, .inl (by omega)⟩
end Go.Proofs.YtjnjfinbdfolkaaGreat
end

section
set_option linter.unusedVariables false
set_option linter.unusedSimpArgs false
namespace Go.Proofs.YtjnjfinbdfolkaaGreat
theorem small_val {n : Nat} (h : n < 9223372036854775808) : sgn n = (n : Int) := by
  unfold sgn
  rw [if_pos h]
theorem M_zint_Small_eq {fu : Nat} {x : Int} (h0 : 0 ≤ x) (h : x < 9223372036854775808) (hf : 3000000 ≤ fu) : M_zint_Small fu (ofI x) = some (x, true) := by
  have hB : Bz 1 x := by unfold Bz; omega
  unfold M_zint_Small
  rw [bd_t (M_zint_Norm_eq' (hB.ok (by decide)) hf), zv_ofI]
  have hneg : (ofI x).1 = false := by unfold ofI; simp; omega
  by_cases hx : x = 0
  · subst hx
    rw [show (ofI 0).2 = [] from rfl, if_pos (show ((([] : List Nat).length : Nat) : Int) = 0 from rfl), bd_t rfl, if_pos rfl]
  · have hpos := ofI_pos.2 hx
    have hlen := hB.len
    obtain ⟨n, rfl⟩ := Int.eq_ofNat_of_zero_le h0
    have hg : (ofI (n : Int)).2.getD 0 0 = n := by
      show (toL ((n : Int).natAbs)).getD 0 0 = n
      rw [Int.natAbs_natCast, toL_getD, Nat.pow_zero, Nat.div_one, Nat.mod_eq_of_lt (by omega)]
    rw [if_neg (by omega), bd_t rfl, if_neg (by decide), if_neg (by omega), bd_t rfl, if_neg (by decide), hneg, if_neg (by decide), bd_t rfl, if_neg (by decide), if_neg (by decide), show (0 : Int) = ((0 : Nat) : Int) from rfl, ckI_n (by omega), nm_t, hg, if_neg (by omega), ckI_n (by omega), nm_t, hg, nm_t, small_val (by omega)]
theorem M_prime_Mod_eq {fu : Nat} {a : Zr} {p : Int} (ha : OkS a) (h1 : 1 ≤ p) (h2 : p ≤ 65521) (hf : 3000000 ≤ fu) : M_prime_Mod fu a p = some (zv a % p, 0) := by
  unfold M_prime_Mod
  have hB : Bz 1 p := by unfold Bz; omega
  have hr := red_rng (a := zv a) (p := p) (by omega)
  rw [bd_t (M_zint_Of_eq' ⟨by omega, by omega⟩ hf), bd_t (M_prime_Rest_eq ha (hB.okS (by decide)) hf), zv_ofI]
  unfold restR
  rw [if_neg (by omega)]
  simp only [if_true]
  rw [bd_t (M_zint_Small_eq hr.1 (by omega) hf)]
def zmod (p : Int) (a : List Zr) : List Int := nl a.length (fun k => cf a k % p)
theorem zmod_ci (p : Int) (a : List Zr) (k : Nat) : ci (zmod p a) k = cf a k % p := nl_ci (fun k hk => by rw [cf_ge hk, Int.zero_emod]) k
theorem zmod_cg (p : Int) (a : List Zr) : Cg p (ci (zmod p a)) (cf a) := fun k => by rw [zmod_ci, Int.emod_emod]
theorem zmod_fp {p : Int} (hp : 0 < p) (a : List Zr) : Fp p (zmod p a) := ⟨fun k => by rw [zmod_ci]; exact (red_rng hp).1, fun k => by rw [zmod_ci]; exact (red_rng hp).2, nl_Nl _ _⟩
theorem zmod_le (p : Int) (a : List Zr) : (zmod p a).length ≤ a.length := nl_le _ _
theorem M_zpoly_Mod_eq {fu k : Nat} {a : List Zr} {p : Int} (ha : OkP k a) (hk : k ≤ 40000) (h1 : 1 ≤ p) (h2 : p ≤ 65521) (hl : a.length ≤ 1000000) (hf : 3000000 ≤ fu) : M_zpoly_Mod fu a p = some (zmod p a, 0) := by
  unfold M_zpoly_Mod
  have hd := dg_le (fun k => cf a k % p) a.length
  rw [if_neg (by omega), bd_t (v := zl a.length (fun k => cf a k % p))]
  · rw [bd_t (v := zmod p a)]
    refine loop_eq (fun t : List Int => ∃ m, m ≤ a.length ∧ t = zl m (fun k => cf a k % p) ∧ dg (fun k => cf a k % p) m = dg (fun k => cf a k % p) a.length) (fun t => t.length) _ ?_ _ _ ⟨a.length, Nat.le_refl _, rfl, rfl⟩ (by rw [zl_len]; omega)
    rintro t L ⟨m, hm, rfl, hg⟩ ih
    unfold B_zpoly_Mod_0
    rw [zl_len]
    cases m with
    | zero =>
      rw [if_neg (by omega)]
      unfold zmod nl
      rw [← hg]
      rfl
    | succ m =>
      rw [if_pos (by omega), show ((m + 1 : Nat) : Int) - 1 = (m : Int) by omega, ck64_t ⟨by omega, by omega⟩, ckI_n (by omega), nm_t, zl_getD (by omega)]
      by_cases h0 : cf a m % p = 0
      · rw [if_pos h0, ck64_t ⟨by omega, by omega⟩, ckN_n, ck_t (by omega), nm_t, zl_take (by omega)]
        exact ih _ ⟨m, by omega, rfl, by rw [← dg_step0 (f := fun k => cf a k % p) h0, hg]⟩ (by rw [zl_len, zl_len]; omega)
      · rw [if_neg h0]
        unfold zmod nl
        rw [← hg, dg_step1 (f := fun k => cf a k % p) h0]
  · unfold M_zpoly_each_api_Int_int
    rw [ckN_n, ck_t (by omega), nm_t, zl_rep, bd_t]
    refine loop_eq (fun s : Int × List Int => ∃ i : Nat, i ≤ a.length ∧ s = ((i : Int), zl a.length (fun k => if k < i then cf a k % p else 0))) (fun s => a.length - s.1.toNat) _ ?_ _ _ ⟨0, Nat.zero_le _, by rw [zl_congr (g := fun k => if k < 0 then cf a k % p else 0) (fun k _ => by rw [if_neg (by omega)])]; rfl⟩ (by show a.length - 0 < fu; omega)
    rintro s L ⟨i, hi, rfl⟩ ih
    unfold B_zpoly_each_api_Int_int_0
    simp only []
    by_cases h : i < a.length
    · rw [if_pos (by omega), bd_t rfl]
      simp only [if_true]
      have e1 : M_zpoly_Mod_1 fu (i : Int) (a.getD i (false, [])) p = some (cf a i % p) := by
        unfold M_zpoly_Mod_1
        rw [bd_t (M_prime_Mod_eq (ha.okS hk i) h1 h2 hf)]; rfl
      rw [ckI_n h, nm_t, bd_t e1, ckI_n (by rw [zl_len]; exact h), nm_t, zl_set, ck64_t ⟨by omega, by omega⟩]
      refine ih _ ⟨i + 1, by omega, ?_⟩ (by show a.length - ((i : Int) + 1).toNat < a.length - (i : Int).toNat; omega)
      congr 1
      refine zl_congr fun k hk => ?_
      unfold upf
      by_cases e : k = i
      · rw [if_pos e, if_pos (by omega), e]
      · rw [if_neg e]
        show (if k < i then cf a k % p else 0) = _
        by_cases e2 : k < i
        · rw [if_pos e2, if_pos (by omega)]
        · rw [if_neg e2, if_neg (by omega)]
    · rw [if_neg (by omega), bd_t rfl]
      simp only [Bool.false_eq_true, if_false]
      congr 1
      exact zl_congr fun k hk => by rw [if_pos (by omega)]
def zlift (l : List Int) : List Zr := nzp l.length (ci l)
theorem zlift_cf (l : List Int) : cf (zlift l) = ci l := funext fun k => nzp_cf (fun k hk => ci_ge hk) k
theorem zlift_le (l : List Int) : (zlift l).length ≤ l.length := by unfold zlift; rw [nzp_len]; exact dg_le _ _
theorem Rl.bz {l : List Int} (h : Rl l) (k : Nat) : Bz 1 (ci l k) := by
  obtain ⟨h1, h2⟩ := h k
  unfold Bz
  omega
theorem zlift_ok {l : List Int} (h : Rl l) : OkP 1 (zlift l) := OkP_nzp h.bz
theorem M_zpoly_Lift_eq {fu : Nat} {l : List Int} (h : Rl l) (hl : l.length ≤ 1000000) (hf : 3000000 ≤ fu) : M_zpoly_Lift fu l = some (zlift l) := by
  unfold M_zpoly_Lift
  rw [bd_t (v := zi l.length (ci l))]
  · rw [bd_t (M_zpoly_Norm_eq (OkP_zi h.bz) (by decide) (by rw [zi_len]; omega) hf), zi_len, nzp_zi]; rfl
  · unfold M_zpoly_each_int_api_Int
    rw [ckN_n, ck_t (by omega), nm_t, zi_rep, bd_t]
    refine loop_eq (fun s : Int × List Zr => ∃ i : Nat, i ≤ l.length ∧ s = ((i : Int), zi l.length (fun k => if k < i then ci l k else 0))) (fun s => l.length - s.1.toNat) _ ?_ _ _ ⟨0, Nat.zero_le _, by rw [zi_congr (g := fun k => if k < 0 then ci l k else 0) (fun k _ => by rw [if_neg (by omega)])]; rfl⟩ (by show l.length - 0 < fu; omega)
    rintro s L ⟨i, hi, rfl⟩ ih
    unfold B_zpoly_each_int_api_Int_0
    simp only []
    by_cases h1 : i < l.length
    · have e1 : M_zpoly_Lift_1 fu (i : Int) (l.getD i 0) = some (ofI (ci l i)) := by
        unfold M_zpoly_Lift_1
        rw [ci_d, bd_t (M_zint_Of_eq' (h i) hf)]
      rw [if_pos (by omega), ckI_n h1, nm_t, bd_t e1, ckI_n (by rw [zi_len]; exact h1), nm_t, zi_set, ck64_t ⟨by omega, by omega⟩]
      refine ih _ ⟨i + 1, by omega, ?_⟩ (by show l.length - ((i : Int) + 1).toNat < l.length - (i : Int).toNat; omega)
      congr 1
      refine zi_congr fun k hk => ?_
      unfold upf
      by_cases e : k = i
      · rw [if_pos e, if_pos (by omega), e]
      · rw [if_neg e]
        show (if k < i then ci l k else 0) = _
        by_cases e2 : k < i
        · rw [if_pos e2, if_pos (by omega)]
        · rw [if_neg e2, if_neg (by omega)]
    · rw [if_neg (by omega)]
      congr 1
      exact zi_congr fun k hk => by rw [if_pos (by omega)]
theorem M_zpoly_Of_eq {fu : Nat} {l : List Int} (h : Rl l) (hl : l.length ≤ 1000000) (hf : 3000000 ≤ fu) : M_zpoly_Of fu l = some (zlift l) := by
  unfold M_zpoly_Of
  rw [bd_t (M_zpoly_Lift_eq h hl hf)]
theorem M_fpoly_Mul_eq {fu : Nat} {a b : List Int} {p : Int} (hp : prm p = true) (ha : Fp p a) (hb : Fp p b) (hla : a.length ≤ 90000) (hlb : b.length ≤ 90000) (hf : 3000000 ≤ fu) : M_fpoly_Mul fu a b p = some (fmul p a b, 0) := by
  obtain ⟨p1, p2⟩ := prm_rng hp
  unfold M_fpoly_Mul
  rw [bd_t (fp_check hp (by omega)), if_pos rfl, bd_t (M_fpoly_plain_eq (by omega) p2 (ha.rl p2) (by omega) hf), bd_t (M_fpoly_plain_eq (by omega) p2 (hb.rl p2) (by omega) hf), ha.pm, hb.pm, bd_t (M_fpoly_product_eq (by omega) p2 ha hb (by omega) (by omega) hf)]
theorem M_fpoly_Sub_eq {fu : Nat} {a b : List Int} {p : Int} (hp : prm p = true) (ha : Fp p a) (hb : Fp p b) (hla : a.length ≤ 90000) (hlb : b.length ≤ 90000) (hf : 3000000 ≤ fu) : M_fpoly_Sub fu a b p = some (fsum p a b (p - 1), 0) := by
  obtain ⟨p1, p2⟩ := prm_rng hp
  unfold M_fpoly_Sub
  rw [bd_t (fp_check hp (by omega)), if_pos rfl, bd_t (M_fpoly_plain_eq (by omega) p2 (ha.rl p2) (by omega) hf), bd_t (M_fpoly_plain_eq (by omega) p2 (hb.rl p2) (by omega) hf), ha.pm, hb.pm, ck64_t ⟨by omega, by omega⟩, bd_t (M_fpoly_sum_eq (by omega) p2 ha hb (by omega) (by omega) (by omega) (by omega) hf)]
theorem M_hensel_equal_eq {fu : Nat} {a b : List Int} {p : Int} (hp : prm p = true) (ha : Fp p a) (hb : Fp p b) (hla : a.length ≤ 90000) (hlb : b.length ≤ 90000) (hf : 3000000 ≤ fu) : M_hensel_equal fu a b p = some (decide (a = b)) := by
  obtain ⟨p1, p2⟩ := prm_rng hp
  unfold M_hensel_equal
  rw [bd_t (M_fpoly_Sub_eq hp ha hb hla hlb hf)]
  simp only []
  have hF := fsum_fp (p := p) (by omega) a b (p - 1)
  have hc := fsum_less (p := p) a b
  by_cases h : a = b
  · have hl : (fsum p a b (p - 1)).length ≤ 0 := hF.nl.le fun k _ => by
      have := hc k
      rw [hF.mod, h, p_sub, Int.sub_self, Int.zero_emod] at this
      rw [h]; exact this
    rw [if_pos (by omega), decide_eq_true h]
  · rw [decide_eq_false h, if_neg]
    intro h0
    refine h (ha.ext hb (Cg.iff_sub.2 (hc.symm.trans fun k => ?_)))
    rw [ci_ge (by omega), pc_zero]
end Go.Proofs.YtjnjfinbdfolkaaGreat
end

section
set_option linter.unusedVariables false
set_option linter.unusedSimpArgs false
namespace Go.Proofs.YtjnjfinbdfolkaaGreat
def PlL (p : Int) (l : List Int) : Prop := (∀ j, j < l.length → 0 ≤ ci l j ∧ ci l j < p) ∧ 1 < l.length ∧ ci l (l.length - 1) = 1
theorem PlL.fp {p : Int} {l : List Int} (hp : 0 < p) (h : PlL p l) : Fp p l := by
  refine ⟨fun k => ?_, fun k => ?_, .inr (by rw [h.2.2]; decide)⟩
  · by_cases hk : k < l.length
    · exact (h.1 k hk).1
    · rw [ci_ge (by omega)]; omega
  · by_cases hk : k < l.length
    · exact (h.1 k hk).2
    · rw [ci_ge (by omega)]; exact hp
theorem M_hensel_plain_ex {fu : Nat} {l : List Int} {p : Int} (hl : l.length ≤ 1000000) (hf : 3000000 ≤ fu) : ∃ b, M_hensel_plain fu l p = some b ∧ (b = true ↔ PlL p l) := by
  unfold M_hensel_plain
  obtain ⟨r, e1, e2⟩ := loop_ex (f := B_hensel_plain_0 fu l p) (fun i : Int => ∃ j : Nat, i = (j : Int) ∧ j ≤ l.length ∧ ∀ t, t < j → 0 ≤ ci l t ∧ ci l t < p) (fun i => l.length - i.toNat) (fun r => (r = .inl () ∧ ∀ t, t < l.length → 0 ≤ ci l t ∧ ci l t < p) ∨ (r = .inr () ∧ ¬ ∀ t, t < l.length → 0 ≤ ci l t ∧ ci l t < p)) (by
    rintro i L ⟨j, rfl, hj, he⟩ ih
    unfold B_hensel_plain_0
    by_cases h1 : j < l.length
    · rw [if_pos (by omega), ckI_n h1, nm_t, ci_d]
      by_cases h2 : ci l j < 0
      · rw [if_pos h2]
        exact ⟨_, rfl, .inr ⟨rfl, fun e => by have := (e j h1).1; omega⟩⟩
      · rw [if_neg h2]
        by_cases h3 : p ≤ ci l j
        · rw [if_pos h3]
          exact ⟨_, rfl, .inr ⟨rfl, fun e => by have := (e j h1).2; omega⟩⟩
        · rw [if_neg h3, ck64_t ⟨by omega, by omega⟩]
          refine ih _ ⟨j + 1, rfl, by omega, fun t ht => ?_⟩ (by omega)
          by_cases h4 : t = j
          · rw [h4]; omega
          · exact he t (by omega)
    · rw [if_neg (by omega)]
      exact ⟨_, rfl, .inl ⟨rfl, fun t ht => he t (by omega)⟩⟩) fu 0 ⟨0, rfl, Nat.zero_le _, fun t h => absurd h (Nat.not_lt_zero _)⟩ (by show l.length - 0 < fu; omega)
  rw [bd_t e1]
  rcases e2 with ⟨rfl, h⟩ | ⟨rfl, h⟩
  · simp only []
    by_cases h1 : 1 < l.length
    · rw [if_pos (by omega), show ((l.length : Nat) : Int) - 1 = ((l.length - 1 : Nat) : Int) by omega, ck64_t ⟨by omega, by omega⟩, ckI_n (by omega), nm_t, ci_d]
      by_cases h2 : ci l (l.length - 1) = 1
      · rw [if_pos h2]
        exact ⟨_, rfl, fun _ => ⟨h, h1, h2⟩, fun _ => rfl⟩
      · rw [if_neg h2]
        exact ⟨_, rfl, fun e => absurd e (by decide), fun e => absurd e.2.2 h2⟩
    · rw [if_neg (by omega)]
      exact ⟨_, rfl, fun e => absurd e (by decide), fun e => absurd e.2.1 h1⟩
  · exact ⟨_, rfl, fun e => absurd e (by decide), fun e => absurd e.1 h⟩
def prodF (p : Int) (fs : List (List Int)) : List Int := fs.foldl (fmul p) [1]
def prZ : List Pz → Pz
  | [] => pc 1
  | f :: r => f * prZ r
theorem prZ_append : ∀ (a b : List Pz), prZ (a ++ b) = prZ a * prZ b
  | [], b => (p_one_mul _).symm
  | f :: r, b => by show f * prZ (r ++ b) = f * prZ r * prZ b; rw [prZ_append r b, p_mul_assoc]
theorem fold_cg (p : Int) : ∀ (fs : List (List Int)) (t : List Int), Cg p (ci (fs.foldl (fmul p) t)) (ci t * prZ (fs.map ci))
  | [], t => by show Cg p (ci t) (ci t * pc 1); rw [p_mul_one]; exact Cg.rfl
  | f :: r, t => by
    show Cg p (ci (r.foldl (fmul p) (fmul p t f))) (ci t * (ci f * prZ (r.map ci)))
    refine (fold_cg p r (fmul p t f)).trans (((fmul_cg p t f).mul Cg.rfl).trans (Cg.of (p_mul_assoc _ _ _)))
theorem prodF_cg (p : Int) (fs : List (List Int)) : Cg p (ci (prodF p fs)) (prZ (fs.map ci)) := by
  have := fold_cg p fs [1]
  rw [ci_one, p_one_mul] at this
  exact this
theorem fold_fp {p : Int} (hp : 0 < p) : ∀ (fs : List (List Int)) {t : List Int}, Fp p t → Fp p (fs.foldl (fmul p) t)
  | [], _, h => h
  | f :: r, t, h => fold_fp hp r (fmul_fp hp t f)
theorem prodF_fp {p : Int} (hp : 2 ≤ p) (fs : List (List Int)) : Fp p (prodF p fs) := fold_fp (by omega) fs (fp_one (by decide) (by omega))
theorem fold_le {p : Int} {M : Nat} : ∀ {fs : List (List Int)} {t : List Int}, (∀ f ∈ fs, f.length ≤ M) → (fs.foldl (fmul p) t).length ≤ t.length + fs.length * M
  | [], _, _ => by simp
  | f :: r, t, h => by
    have h1 := fold_le (p := p) (fs := r) (t := fmul p t f) fun g hg => h g (List.mem_cons_of_mem _ hg)
    have h2 := fmul_le p t f
    have h3 := h f (List.mem_cons_self ..)
    show (r.foldl (fmul p) (fmul p t f)).length ≤ t.length + (r.length + 1) * M
    rw [Nat.add_mul, Nat.one_mul]
    omega
theorem prodF_le {p : Int} {M : Nat} {fs : List (List Int)} (h : ∀ f ∈ fs, f.length ≤ M) : (prodF p fs).length ≤ 1 + fs.length * M := fold_le h
theorem getD_memi {l : List (List Int)} {i : Nat} (h : i < l.length) : l.getD i [] ∈ l := by
  rw [List.getD_eq_getElem?_getD, List.getElem?_eq_getElem h]
  exact List.getElem_mem h
theorem take_snoc {l : List (List Int)} {i : Nat} (h : i < l.length) : l.take (i + 1) = l.take i ++ [l.getD i []] := by
  rw [List.take_add_one, List.getElem?_eq_getElem h, List.getD_eq_getElem?_getD, List.getElem?_eq_getElem h]
  rfl
theorem M_hensel_product_eq {fu M : Nat} {fs : List (List Int)} {p : Int} (hp : prm p = true) (hF : ∀ f ∈ fs, Fp p f) (hM : ∀ f ∈ fs, f.length ≤ M) (hb : 1 + fs.length * M ≤ 90000) (hb2 : M ≤ 90000) (hb3 : fs.length ≤ 90000) (hf : 3000000 ≤ fu) : M_hensel_product fu fs p = some (prodF p fs) := by
  obtain ⟨p1, p2⟩ := prm_rng hp
  unfold M_hensel_product
  rw [bd_t (v := prodF p fs)]
  refine loop_eq (fun s : List Int × Int => ∃ i : Nat, i ≤ fs.length ∧ s = (prodF p (fs.take i), (i : Int))) (fun s => fs.length - s.2.toNat) _ ?_ _ _ ⟨0, Nat.zero_le _, rfl⟩ (by show fs.length - 0 < fu; omega)
  rintro s L ⟨i, hi, rfl⟩ ih
  unfold B_hensel_product_0
  simp only []
  by_cases h1 : i < fs.length
  · have hm := getD_memi h1
    have hl := prodF_le (p := p) (fs := fs.take i) (M := M) fun f hf => hM f (List.mem_of_mem_take hf)
    have hl2 : (fs.take i).length * M ≤ fs.length * M := Nat.mul_le_mul_right _ (List.length_take_le' ..)
    have hl3 := hM _ hm
    rw [if_pos (by omega), ckI_n h1, nm_t, bd_t (M_fpoly_Mul_eq hp (prodF_fp (by omega) _) (hF _ hm) (by omega) (by omega) hf)]
    simp only []
    rw [ck64_t ⟨by omega, by omega⟩]
    refine ih _ ⟨i + 1, by omega, ?_⟩ (by show fs.length - ((i : Int) + 1).toNat < fs.length - (i : Int).toNat; omega)
    congr 1
    unfold prodF
    rw [take_snoc h1, List.foldl_append]
    rfl
  · rw [if_neg (by omega), List.take_of_length_le (by omega)]
def Cop (p : Int) (f g : Pz) : Prop := ∃ s t : Pz, Fs s ∧ Fs t ∧ Cg p (s * f + t * g) (pc 1)
theorem Cop.symm {p : Int} {f g : Pz} (h : Cop p f g) : Cop p g f := by
  obtain ⟨s, t, z1, z2, h⟩ := h
  refine ⟨t, s, z2, z1, (Cg.of ?_).trans h⟩
  funext k
  rw [p_add, p_add, Int.add_comm]
theorem Cop.mul {p : Int} {f g h : Pz} (hg : Fs g) (hh : Fs h) (hf : Fs f) (h1 : Cop p f h) (h2 : Cop p g h) : Cop p (f * g) h := by
  obtain ⟨s, t, z1, z2, h1⟩ := h1
  obtain ⟨u, v, z3, z4, h2⟩ := h2
  refine ⟨s * u, s * f * v + t * (u * g + v * h), z1.mul z3, ((z1.mul hf).mul z4).add (z2.mul ((z3.mul hg).add (z4.mul hh))), Cg.trans (Cg.of ?_) ((h1.mul h2).trans (Cg.of (p_one_mul _)))⟩
  simp only [p_mul_add, p_add_mul, p_mul_assoc, p_mul_left_comm, p_mul_comm]
  funext k
  simp only [p_add]
  omega
theorem Cop.one (p : Int) (h : Pz) : Cop p (pc 1) h := ⟨pc 1, pc 0, Fs.pc 1, Fs.pc 0, Cg.of (by
  rw [p_one_mul, p_zero_mul]
  funext k
  rw [p_add, pc_zero, Int.add_zero])⟩
theorem Fs.prZ : ∀ {fs : List Pz}, (∀ f ∈ fs, Fs f) → Fs (prZ fs)
  | [], _ => Fs.pc 1
  | f :: r, hh => (hh f (List.mem_cons_self ..)).mul (Fs.prZ fun g hg => hh g (List.mem_cons_of_mem _ hg))
theorem Cop.prZ {p : Int} {h : Pz} (hz : Fs h) : ∀ {fs : List Pz}, (∀ f ∈ fs, Fs f) → (∀ f ∈ fs, Cop p f h) → Cop p (prZ fs) h
  | [], _, _ => Cop.one p h
  | f :: r, hF, hh => Cop.mul (Fs.prZ fun g hg => hF g (List.mem_cons_of_mem _ hg)) hz (hF f (List.mem_cons_self ..)) (hh f (List.mem_cons_self ..)) (Cop.prZ hz (fun g hg => hF g (List.mem_cons_of_mem _ hg)) fun g hg => hh g (List.mem_cons_of_mem _ hg))
theorem gcd_one {p : Int} {g h d s t : List Int} {S : Nat} (hR : BzR p g h d s t S) (hl : d.length = 1) (h1 : ci d (d.length - 1) = 1) : Cop p (ci g) (ci h) := by
  have e : ci d = pc 1 := by
    funext k
    unfold pc
    by_cases hk : k = 0
    · rw [if_pos hk, hk, ← h1, hl]
    · rw [if_neg hk, ci_ge (by omega)]
  have := hR.cg
  rw [e] at this
  exact ⟨ci s, ci t, Fs.ci s, Fs.ci t, this.symm⟩
structure RightP (p : Int) (a : List Zr) (fs : List (List Int)) : Prop where
  a0 : a.length ≠ 0
  al : (zmod p a).length = a.length
  fl : fs.length ≤ a.length
  pl : ∀ i, i < fs.length → (fs.getD i []).length ≤ a.length ∧ PlL p (fs.getD i [])
  cp : ∀ i j, i < fs.length → j < i → Cop p (ci (fs.getD i [])) (ci (fs.getD j []))
  pr : fmul p (prodF p fs) [ci (zmod p a) (a.length - 1)] = zmod p a
theorem right_inner {fu i : Nat} {p : Int} {f : List Int} {fs : List (List Int)} (hp : prm p = true) (hf1 : Fp p f) (hfl : f.length ≤ 290) (hi : i ≤ fs.length) (hil : i ≤ 1000000) (hF : ∀ j, j < i → Fp p (fs.getD j []) ∧ (fs.getD j []).length ≤ 290) (hf : 3000000 ≤ fu) :
    ∃ r, loopN (B_hensel_right_1 fu p f (fs.take i)) fu 0 = some r ∧ (r = .inl () → ∀ j, j < i → Cop p (ci f) (ci (fs.getD j []))) := by
  have hlen : (fs.take i).length = i := by rw [List.length_take]; omega
  have hget : ∀ j, j < i → (fs.take i).getD j [] = fs.getD j [] := fun j hj => by rw [List.getD_eq_getElem?_getD, List.getElem?_take, if_pos hj, ← List.getD_eq_getElem?_getD]
  refine loop_ex (fun x : Int => ∃ j : Nat, x = (j : Int) ∧ j ≤ i ∧ ∀ t, t < j → Cop p (ci f) (ci (fs.getD t []))) (fun x => i - x.toNat) _ ?_ _ _ ⟨0, rfl, Nat.zero_le _, fun t h => absurd h (Nat.not_lt_zero _)⟩ (by show i - 0 < fu; omega)
  rintro x L ⟨j, rfl, hj, he⟩ ih
  unfold B_hensel_right_1
  by_cases h1 : j < i
  · obtain ⟨k1, k2⟩ := hF j h1
    obtain ⟨d, s, t, e1, hR, e3⟩ := M_fpoly_Bezout_ex (fu := fu) hp hf1 k1 hfl k2 hf
    rw [if_pos (by omega), ckI_n (by omega), nm_t, hget j h1]
    have hg : M_fpoly_Gcd fu f (fs.getD j []) p = some (d, 0) := by
      unfold M_fpoly_Gcd
      rw [bd_t e1]
    rw [bd_t hg]
    simp only []
    by_cases h2 : d.length = 1
    · rw [if_pos (by omega), ck64_t ⟨by omega, by omega⟩]
      refine ih _ ⟨j + 1, rfl, by omega, fun t ht => ?_⟩ (by omega)
      by_cases h3 : t = j
      · rw [h3]
        exact gcd_one hR h2 (e3.resolve_left (by omega))
      · exact he t (by omega)
    · rw [if_neg (by omega)]
      exact ⟨_, rfl, fun e => absurd e (by simp)⟩
  · rw [if_neg (by omega)]
    exact ⟨_, rfl, fun _ t ht => he t (by omega)⟩
theorem M_hensel_right_ex {fu k : Nat} {p : Int} {a : List Zr} {fs : List (List Int)} (hp : prm p = true) (ha : OkP k a) (hk : k ≤ 40000) (hal : a.length ≤ 66) (hf : 3000000 ≤ fu) :
    ∃ b, M_hensel_right fu a fs p = some b ∧ (b = true → RightP p a fs) := by
  obtain ⟨p1, p2⟩ := prm_rng hp
  unfold M_hensel_right
  rw [bd_t (M_zpoly_Mod_eq ha hk (by omega) p2 (by omega) hf)]
  simp only []
  by_cases h0 : a.length = 0
  · rw [if_pos (by omega)]
    exact ⟨_, rfl, fun e => absurd e (by decide)⟩
  · rw [if_neg (by omega)]
    by_cases hl : (zmod p a).length = a.length
    · rw [if_pos (by omega)]
      by_cases hfl : a.length < fs.length
      · rw [if_pos (by omega)]
        exact ⟨_, rfl, fun e => absurd e (by decide)⟩
      · rw [if_neg (by omega)]
        obtain ⟨r, e1, e2⟩ := loop_ex (f := B_hensel_right_0 fu a fs p) (fun x : Int × List Int => ∃ i : Nat, x = ((i : Int), zmod p a) ∧ i ≤ fs.length ∧ (∀ t, t < i → (fs.getD t []).length ≤ a.length ∧ PlL p (fs.getD t [])) ∧ ∀ t j, t < i → j < t → Cop p (ci (fs.getD t [])) (ci (fs.getD j []))) (fun x => fs.length - x.1.toNat)
          (fun r => r = .inr () ∨ (r = .inl (zmod p a) ∧ (∀ t, t < fs.length → (fs.getD t []).length ≤ a.length ∧ PlL p (fs.getD t [])) ∧ ∀ t j, t < fs.length → j < t → Cop p (ci (fs.getD t [])) (ci (fs.getD j [])))) (by
            rintro x L ⟨i, rfl, hi, g1, g2⟩ ih
            unfold B_hensel_right_0
            simp only []
            by_cases h1 : i < fs.length
            · rw [if_pos (by omega), bd_t rfl]
              simp only [if_true]
              rw [ckI_n h1, nm_t]
              by_cases h2 : a.length < (fs.getD i []).length
              · rw [if_pos (by omega)]
                exact ⟨_, rfl, .inl rfl⟩
              · obtain ⟨b, b1, b2⟩ := M_hensel_plain_ex (fu := fu) (l := fs.getD i []) (p := p) (by omega) hf
                rw [if_neg (by omega), bd_t b1]
                cases b with
                | false =>
                  rw [if_pos (by decide)]
                  exact ⟨_, rfl, .inl rfl⟩
                | true =>
                  have hpl := b2.1 rfl
                  rw [if_neg (by decide), ckN_n, ck_t (by omega), nm_t]
                  obtain ⟨q, q1, q2⟩ := right_inner (fu := fu) (i := i) (fs := fs) hp (hpl.fp (by omega)) (by omega) (by omega) (by omega) (fun j hj => ⟨(g1 j hj).2.fp (by omega), by have := (g1 j hj).1; omega⟩) hf
                  rw [bd_t q1]
                  rcases q with q | q
                  · simp only []
                    rw [ck64_t ⟨by omega, by omega⟩]
                    refine ih _ ⟨i + 1, rfl, by omega, fun t ht => ?_, fun t j ht hj => ?_⟩ (by show fs.length - ((i : Int) + 1).toNat < fs.length - (i : Int).toNat; omega)
                    · by_cases h4 : t = i
                      · rw [h4]; exact ⟨by omega, hpl⟩
                      · exact g1 t (by omega)
                    · by_cases h4 : t = i
                      · rw [h4] at hj ⊢; exact q2 rfl j hj
                      · exact g2 t j (by omega) hj
                  · exact ⟨_, rfl, .inl rfl⟩
            · rw [if_neg (by omega), bd_t rfl]
              simp only [Bool.false_eq_true, if_false]
              exact ⟨_, rfl, .inr ⟨rfl, fun t ht => g1 t (by omega), fun t j ht hj => g2 t j (by omega) hj⟩⟩) fu (0, zmod p a) ⟨0, rfl, Nat.zero_le _, fun t h => absurd h (Nat.not_lt_zero _), fun t j h => absurd h (Nat.not_lt_zero _)⟩ (by show fs.length - 0 < fu; omega)
        rw [bd_t e1]
        rcases e2 with rfl | ⟨rfl, g1, g2⟩
        · exact ⟨_, rfl, fun e => absurd e (by decide)⟩
        · simp only []
          have hall : ∀ {q : List Int → Prop}, (∀ t, t < fs.length → q (fs.getD t [])) → ∀ f ∈ fs, q f := fun {q} h f hf => by
            obtain ⟨j, hj, rfl⟩ := List.mem_iff_getElem.1 hf
            have := h j hj
            rw [List.getD_eq_getElem?_getD, List.getElem?_eq_getElem hj] at this
            exact this
          have hFs : ∀ f ∈ fs, Fp p f := hall fun t ht => (g1 t ht).2.fp (by omega)
          have hLs : ∀ f ∈ fs, f.length ≤ 66 := hall fun t ht => by have := (g1 t ht).1; omega
          have hpb : fs.length * 66 ≤ 66 * 66 := Nat.mul_le_mul_right _ (by omega)
          have hpl := prodF_le (p := p) hLs
          have hz := zmod_fp (p := p) (by omega) a
          have htop : ci (zmod p a) (a.length - 1) ≠ 0 := by
            rcases hz.nl with h | h
            · omega
            · rw [hl] at h; exact h
          have ht1 := hz.nn (a.length - 1)
          have ht2 := hz.lt (a.length - 1)
          have hdrop : (zmod p a).drop (a.length - 1) = [ci (zmod p a) (a.length - 1)] := by
            rw [List.drop_eq_getElem_cons (by omega), List.drop_eq_nil_of_le (by omega)]
            unfold ci
            rw [List.getD_eq_getElem?_getD, List.getElem?_eq_getElem (by omega)]
            rfl
          have hone := fp_one (p := p) (x := ci (zmod p a) (a.length - 1)) (by omega) ht2
          have hfm := fmul_le p (prodF p fs) [ci (zmod p a) (a.length - 1)]
          simp only [List.length_cons, List.length_nil] at hfm
          rw [bd_t (M_hensel_product_eq hp hFs hLs (by omega) (by decide) (by omega) hf), hl, show ((a.length : Nat) : Int) - 1 = ((a.length - 1 : Nat) : Int) by omega, ck64_t ⟨by omega, by omega⟩, ckN_n, ck_t (by omega), nm_t, hdrop, bd_t (M_fpoly_Mul_eq hp (prodF_fp (by omega) fs) hone (by omega) (by simp) hf)]
          simp only []
          rw [bd_t (M_hensel_equal_eq hp (fmul_fp (by omega) _ _) hz (by omega) (by omega) hf)]
          exact ⟨_, rfl, fun e => ⟨h0, hl, by omega, g1, g2, of_decide_eq_true e⟩⟩
    · rw [if_neg (by omega)]
      exact ⟨_, rfl, fun e => absurd e (by decide)⟩
end Go.Proofs.YtjnjfinbdfolkaaGreat
end

section
set_option linter.unusedVariables false
set_option linter.unusedSimpArgs false
namespace Go.Proofs.YtjnjfinbdfolkaaGreat
def addP (a b : List Zr) : List Zr := nzp (max a.length b.length) (fun j => cf a j + cf b j)
theorem addP_cf (a b : List Zr) (k : Nat) : cf (addP a b) k = cf a k + cf b k := nzp_cf (fun j hj => cf_zero_out hj) k
theorem addP_len (a b : List Zr) : (addP a b).length ≤ max a.length b.length := by unfold addP; rw [nzp_len]; exact dg_le _ _
theorem addP_ok {k : Nat} {a b : List Zr} (ha : OkP k a) (hb : OkP k b) : OkP (k + 1) (addP a b) := OkP_nzp fun j => (ha.bz j).add (hb.bz j)
theorem add_law {fu k : Nat} {a b : List Zr} (ha : OkP k a) (hb : OkP k b) (hk : k + 1 ≤ 100000) (hla : a.length ≤ 1000000) (hlb : b.length ≤ 1000000) (hf : 3000000 ≤ fu) : M_zpoly_Add fu a b = some (addP a b) := M_zpoly_Add_eq ha hb hk hla hlb hf
def oneP : List Zr := zlift [1]
theorem oneP_cf : (cf oneP : Pz) = pc 1 := by unfold oneP; rw [zlift_cf, ci_one]
theorem oneP_len : oneP.length ≤ 1 := zlift_le [1]
theorem one_rl : Rl [1] := fun k => by
  rw [ci_one]
  unfold pc; split <;> exact ⟨by decide, by decide⟩
theorem oneP_ok : OkP 1 oneP := zlift_ok one_rl
def puE (f g h : List Zr) (m : Int) : List Zr := redP (subP f (mulP g h)) m
def puQ (x d : List Zr) (m : Int) : List Zr := divQ (redP x m) d m
def puR (x d : List Zr) (m : Int) : List Zr := divRest (redP x m) d m
def puG (f g h s t : List Zr) (m : Int) : List Zr := redP (addP g (addP (mulP t (puE f g h m)) (mulP (puQ (mulP s (puE f g h m)) h m) g))) m
def puH (f g h s : List Zr) (m : Int) : List Zr := redP (addP h (puR (mulP s (puE f g h m)) h m)) m
def puB (g h s t : List Zr) (m : Int) : List Zr := redP (subP (addP (mulP s g) (mulP t h)) oneP) m
def puS (g h s t : List Zr) (m : Int) : List Zr := redP (subP s (puR (mulP s (puB g h s t m)) h m)) m
def puT (g h s t : List Zr) (m : Int) : List Zr := redP (subP t (addP (mulP t (puB g h s t m)) (mulP (puQ (mulP s (puB g h s t m)) h m) g))) m
theorem puQ_ok {K : Nat} {x d : List Zr} {m : Int} (hm : Bz K m) (h0 : 0 < m) : OkP K (puQ x d m) := OkP_nzp fun j => hm.emod h0
theorem puR_ok {K : Nat} {x d : List Zr} {m : Int} (hm : Bz K m) (h0 : 0 < m) : OkP K (puR x d m) := OkP_nzp fun j => hm.emod h0
theorem puQ_len (x d : List Zr) (m : Int) : (puQ x d m).length ≤ x.length + 1 := by
  unfold puQ divQ
  rw [nzp_len]
  have := redP_len x m
  exact Nat.le_trans (dg_le _ _) (by omega)
theorem puR_len (x d : List Zr) (m : Int) : (puR x d m).length ≤ x.length := by
  unfold puR divRest
  rw [nzp_len]
  exact Nat.le_trans (dg_le _ _) (redP_len x m)
theorem puR_short {x d : List Zr} {m : Int} (hdl : 0 < d.length) (hd1 : cf d (d.length - 1) = 1) : (puR x d m).length < d.length := divRest_short hdl hd1
theorem puH_top {f g h s : List Zr} {m : Int} (h2 : 2 ≤ m) (hl : 0 < h.length) (h1 : cf h (h.length - 1) = 1) : (puH f g h s m).length = h.length ∧ cf (puH f g h s m) (h.length - 1) = 1 := by
  have hs := puR_short (x := mulP s (puE f g h m)) (m := m) hl h1
  have e : ∀ k, cf (puH f g h s m) k = (cf h k + cf (puR (mulP s (puE f g h m)) h m) k) % m := fun k => by unfold puH; rw [redP_cf, addP_cf]
  have e1 : cf (puH f g h s m) (h.length - 1) = 1 := by
    rw [e, h1, cf_ge (p := puR _ _ _) (by omega)]
    exact Int.emod_eq_of_lt (by decide) (by omega)
  refine ⟨Nat.le_antisymm (can_le (redP_can _ _) fun k hk => ?_) (Nat.le_of_not_lt fun hlt => ?_), e1⟩
  · have := e k
    unfold puH at this
    rw [this, cf_ge hk, cf_ge (p := puR _ _ _) (by omega), Int.add_zero, Int.zero_emod]
  · rw [cf_ge (by omega)] at e1
    cases e1
theorem M_hensel_pair_up_eq {fu K W : Nat} {f g h s t : List Zr} {m : Zr} (hfo : OkP K f) (hg : OkP K g) (hh : OkP K h) (hs : OkP K s) (ht : OkP K t) (lf : f.length ≤ W) (lg : g.length ≤ W) (lh : h.length ≤ W) (ls : s.length ≤ W) (lt : t.length ≤ W) (hW : W ≤ 5000) (hK1 : 1 ≤ K) (hK : K ≤ 1000) (hmO : Limbs m.2) (hml : m.2.length ≤ K) (h2 : 2 ≤ zv m) (hl : 0 < h.length) (h1 : cf h (h.length - 1) = 1) (hf : 3000000 ≤ fu) :
    M_hensel_pair_up fu [g, h, s, t] f m = some [puG f g h s t (zv m), puH f g h s (zv m), puS (puG f g h s t (zv m)) (puH f g h s (zv m)) s t (zv m), puT (puG f g h s t (zv m)) (puH f g h s (zv m)) s t (zv m)] := by
  have hm : Bz K (zv m) := (Bz.of hmO).mono hml
  have hmS : OkS m := ⟨hmO, by omega⟩
  have h0 : 0 < zv m := by omega
  unfold M_hensel_pair_up
  rw [ckI_t (i := 0) (by decide), nm_t, ckI_t (i := 1) (by decide), nm_t, ckI_t (i := 2) (by decide), nm_t, ckI_t (i := 3) (by decide), nm_t, show [g, h, s, t].getD (Int.toNat 0) [] = g from rfl, show [g, h, s, t].getD (Int.toNat 1) [] = h from rfl, show [g, h, s, t].getD (Int.toNat 2) [] = s from rfl, show [g, h, s, t].getD (Int.toNat 3) [] = t from rfl]
  have p1 := mulP_ok hg hh
  have l1 := mulP_len g h
  have l2 := subP_len f (mulP g h)
  rw [bd_t (M_zpoly_Mul_eq hg hh (by omega) (by omega) hf), bd_t (M_zpoly_Sub_eq (k := K + K + g.length) (hfo.mono (by omega)) p1 (by omega) (by omega) (by omega) hf), bd_t (red_low (subP_ok (hfo.mono (by omega)) p1) (by omega) hmS h0 (by omega) hf), show redP (subP f (mulP g h)) (zv m) = puE f g h (zv m) from rfl]
  have pe : OkP K (puE f g h (zv m)) := redP_ok hm h0
  have le : (puE f g h (zv m)).length ≤ W + W := Nat.le_trans (redP_len _ _) (by omega)
  have p2 := mulP_ok hs pe
  have l3 := mulP_len s (puE f g h (zv m))
  have pq := puQ_ok (x := mulP s (puE f g h (zv m))) (d := h) hm h0
  have pr := puR_ok (x := mulP s (puE f g h (zv m))) (d := h) hm h0
  have lq := puQ_len (mulP s (puE f g h (zv m))) h (zv m)
  have lr := puR_len (mulP s (puE f g h (zv m))) h (zv m)
  rw [bd_t (M_zpoly_Mul_eq hs pe (by omega) (by omega) hf), bd_t (M_hensel_divided_eq p2 (by omega) hh hmO hml h0 hl (by omega) (by omega) hf), show divQ (redP (mulP s (puE f g h (zv m))) (zv m)) h (zv m) = puQ (mulP s (puE f g h (zv m))) h (zv m) from rfl, show divRest (redP (mulP s (puE f g h (zv m))) (zv m)) h (zv m) = puR (mulP s (puE f g h (zv m))) h (zv m) from rfl]
  simp only []
  have p3 := mulP_ok ht pe
  have l4 := mulP_len t (puE f g h (zv m))
  have p4 := mulP_ok pq hg
  have l5 := mulP_len (puQ (mulP s (puE f g h (zv m))) h (zv m)) g
  have p5 := addP_ok (k := K + K + W + W + W + 1) (p3.mono (by omega)) (p4.mono (by omega))
  have l6 := addP_len (mulP t (puE f g h (zv m))) (mulP (puQ (mulP s (puE f g h (zv m))) h (zv m)) g)
  have p6 := addP_ok (k := K + K + W + W + W + 2) (hg.mono (by omega)) p5
  have l7 := addP_len g (addP (mulP t (puE f g h (zv m))) (mulP (puQ (mulP s (puE f g h (zv m))) h (zv m)) g))
  rw [bd_t (M_zpoly_Mul_eq ht pe (by omega) (by omega) hf), bd_t (M_zpoly_Mul_eq pq hg (by omega) (by omega) hf), bd_t (add_law (k := K + K + W + W + W + 1) (p3.mono (by omega)) (p4.mono (by omega)) (by omega) (by omega) (by omega) hf), bd_t (add_law (k := K + K + W + W + W + 2) (hg.mono (by omega)) p5 (by omega) (by omega) (by omega) hf), bd_t (red_low p6 (by omega) hmS h0 (by omega) hf), show redP (addP g (addP (mulP t (puE f g h (zv m))) (mulP (puQ (mulP s (puE f g h (zv m))) h (zv m)) g))) (zv m) = puG f g h s t (zv m) from rfl]
  have l8 := addP_len h (puR (mulP s (puE f g h (zv m))) h (zv m))
  rw [bd_t (add_law hh pr (by omega) (by omega) (by omega) hf), bd_t (red_low (addP_ok hh pr) (by omega) hmS h0 (by omega) hf), show redP (addP h (puR (mulP s (puE f g h (zv m))) h (zv m))) (zv m) = puH f g h s (zv m) from rfl]
  obtain ⟨hh', h1'⟩ := puH_top (f := f) (g := g) (s := s) h2 hl h1
  have pG : OkP K (puG f g h s t (zv m)) := redP_ok hm h0
  have pH : OkP K (puH f g h s (zv m)) := redP_ok hm h0
  have lG : (puG f g h s t (zv m)).length ≤ 4 * W + 1 := Nat.le_trans (redP_len _ _) (by omega)
  clear l1 l2 l3 l4 l5 l6 l7 l8 p1 p2 p3 p4 p5 p6 pe le pq pr lq lr
  generalize puG f g h s t (zv m) = G at *
  generalize puH f g h s (zv m) = H at *
  have p1 := mulP_ok hs pG
  have l1 := mulP_len s G
  have p2 := mulP_ok ht pH
  have l2 := mulP_len t H
  have p3 := addP_ok (k := K + K + W) (p1.mono (by omega)) (p2.mono (by omega))
  have l3 := addP_len (mulP s G) (mulP t H)
  have l4 := subP_len (addP (mulP s G) (mulP t H)) oneP
  have l5 := oneP_len
  rw [bd_t (M_zpoly_Mul_eq hs pG (by omega) (by omega) hf), bd_t (M_zpoly_Mul_eq ht pH (by omega) (by omega) hf), bd_t (add_law (k := K + K + W) (p1.mono (by omega)) (p2.mono (by omega)) (by omega) (by omega) (by omega) hf)]
  rw [bd_t (M_zpoly_Of_eq one_rl (by decide) hf), show zlift [1] = oneP from rfl, bd_t (M_zpoly_Sub_eq p3 (oneP_ok.mono (by omega)) (by omega) (by omega) (by omega) hf), bd_t (red_low (subP_ok p3 (oneP_ok.mono (by omega))) (by omega) hmS h0 (by omega) hf), show redP (subP (addP (mulP s G) (mulP t H)) oneP) (zv m) = puB G H s t (zv m) from rfl]
  have pb : OkP K (puB G H s t (zv m)) := redP_ok hm h0
  have lb : (puB G H s t (zv m)).length ≤ 5 * W + 2 := Nat.le_trans (redP_len _ _) (by omega)
  have p4 := mulP_ok hs pb
  have l6 := mulP_len s (puB G H s t (zv m))
  have pc' := puQ_ok (x := mulP s (puB G H s t (zv m))) (d := H) hm h0
  have pd := puR_ok (x := mulP s (puB G H s t (zv m))) (d := H) hm h0
  have lc := puQ_len (mulP s (puB G H s t (zv m))) H (zv m)
  have ld := puR_len (mulP s (puB G H s t (zv m))) H (zv m)
  have l7 := subP_len s (puR (mulP s (puB G H s t (zv m))) H (zv m))
  rw [bd_t (M_zpoly_Mul_eq hs pb (by omega) (by omega) hf), bd_t (M_hensel_divided_eq p4 (by omega) pH hmO hml h0 (by omega) (by omega) (by omega) hf), show divQ (redP (mulP s (puB G H s t (zv m))) (zv m)) H (zv m) = puQ (mulP s (puB G H s t (zv m))) H (zv m) from rfl, show divRest (redP (mulP s (puB G H s t (zv m))) (zv m)) H (zv m) = puR (mulP s (puB G H s t (zv m))) H (zv m) from rfl]
  simp only []
  rw [bd_t (M_zpoly_Sub_eq hs pd (by omega) (by omega) (by omega) hf), bd_t (red_low (subP_ok hs pd) (by omega) hmS h0 (by omega) hf), show redP (subP s (puR (mulP s (puB G H s t (zv m))) H (zv m))) (zv m) = puS G H s t (zv m) from rfl]
  have p5 := mulP_ok ht pb
  have l8 := mulP_len t (puB G H s t (zv m))
  have p6 := mulP_ok pc' pG
  have l9 := mulP_len (puQ (mulP s (puB G H s t (zv m))) H (zv m)) G
  have p7 := addP_ok (k := K + K + 6 * W + 3) (p5.mono (by omega)) (p6.mono (by omega))
  have l10 := addP_len (mulP t (puB G H s t (zv m))) (mulP (puQ (mulP s (puB G H s t (zv m))) H (zv m)) G)
  have l11 := subP_len t (addP (mulP t (puB G H s t (zv m))) (mulP (puQ (mulP s (puB G H s t (zv m))) H (zv m)) G))
  rw [bd_t (M_zpoly_Mul_eq ht pb (by omega) (by omega) hf), bd_t (M_zpoly_Mul_eq pc' pG (by omega) (by omega) hf), bd_t (add_law (k := K + K + 6 * W + 3) (p5.mono (by omega)) (p6.mono (by omega)) (by omega) (by omega) (by omega) hf), bd_t (M_zpoly_Sub_eq (ht.mono (by omega)) p7 (by omega) (by omega) (by omega) hf), bd_t (red_low (subP_ok (ht.mono (by omega)) p7) (by omega) hmS h0 (by omega) hf), show redP (subP t (addP (mulP t (puB G H s t (zv m))) (mulP (puQ (mulP s (puB G H s t (zv m))) H (zv m)) G))) (zv m) = puT G H s t (zv m) from rfl]
end Go.Proofs.YtjnjfinbdfolkaaGreat
end

section
set_option linter.unusedVariables false
set_option linter.unusedSimpArgs false
namespace Go.Proofs.YtjnjfinbdfolkaaGreat
theorem redP_cg (a : List Zr) (m : Int) : Cg m (cf (redP a m)) (cf a) := fun k => by rw [redP_cf, Int.emod_emod]
theorem subP_p (a b : List Zr) : (cf (subP a b) : Pz) = cf a - cf b := funext fun k => subP_cf a b k
theorem addP_p (a b : List Zr) : (cf (addP a b) : Pz) = cf a + cf b := funext fun k => addP_cf a b k
theorem div_cg {x d : List Zr} {m : Int} (hdl : 0 < d.length) (hd1 : cf d (d.length - 1) = 1) : Cg m (cf x) ((cf (puQ x d m) : Pz) * cf d + cf (puR x d m)) := by
  intro k
  unfold puQ puR
  rw [p_add, ← mulP_mul, divRest_cf (by omega) hdl hd1, Int.add_emod, Int.emod_emod, ← Int.add_emod]
  have hr := redP_cf x m k
  generalize redP x m = r at *
  obtain ⟨qn, hq⟩ : ∃ qn, qn = r.length + 1 - d.length := ⟨_, rfl⟩
  have hqc : ∀ j, j < qn → cf (divQ r d m) j = dvC r d m qn j := fun j hj => by
    rw [divQ_cf, ← hq]
    unfold dvQ dvC
    rw [if_pos hj, Int.emod_emod]
  have hql : (divQ r d m).length ≤ qn := by unfold divQ; rw [nzp_len, ← hq]; exact dg_le _ _
  have h := dv_rows hqc k qn (Nat.le_refl _)
  rw [dvG_top, mulC_stable hql] at h
  rw [mulP_cf, ← hq, Int.add_comm, ← h, hr, Int.emod_emod]
theorem dvd_emod {n m x : Int} (hn : n ∣ m) (hx : n ∣ x) : n ∣ x % m := by
  rw [Int.emod_def]
  exact Int.dvd_sub hx (Int.dvd_trans hn (Int.dvd_mul_right _ _))
theorem dvF_dvd {r d : List Zr} {n m : Int} {qn : Nat} (hn : n ∣ m) (hr : ∀ k, n ∣ cf r k) : ∀ s k, n ∣ dvF r d m qn s k
  | 0, k => hr k
  | s + 1, k => Int.dvd_sub (dvF_dvd hn hr s k) (Int.dvd_trans (dvd_emod hn (dvF_dvd hn hr s _)) (Int.dvd_mul_right _ _))
theorem div_zero {x d : List Zr} {n m : Int} (hn : n ∣ m) (hx : Cg n (cf x) (pc 0)) (hdl : 0 < d.length) (hd1 : cf d (d.length - 1) = 1) : Cg n (cf (puQ x d m)) (pc 0) ∧ Cg n (cf (puR x d m)) (pc 0) := by
  have hr : ∀ k, n ∣ cf (redP x m) k := fun k => by rw [redP_cf]; exact dvd_emod hn (hx.dvd k)
  refine ⟨Cg.of_dvd fun k => ?_, Cg.of_dvd fun k => ?_⟩
  · unfold puQ
    rw [divQ_cf]
    refine dvd_emod hn ?_
    unfold dvQ
    split
    · exact dvd_emod hn (dvF_dvd hn hr _ _)
    · exact Int.dvd_zero _
  · unfold puR
    rw [divRest_cf (by omega) hdl hd1]
    exact dvd_emod hn (dvF_dvd hn hr _ _)
theorem pu_fac {n m : Int} (hm : m ∣ n * n) (hn : n ∣ m) {f g h s t : List Zr} (h1 : Cg n (cf f) ((cf g : Pz) * cf h)) (h2 : Cg n ((cf s : Pz) * cf g + (cf t : Pz) * cf h) (pc 1)) (hdl : 0 < h.length) (hd1 : cf h (h.length - 1) = 1) :
    Cg m (cf f) ((cf (puG f g h s t m) : Pz) * cf (puH f g h s m)) ∧ Cg n (cf (puG f g h s t m)) (cf g) ∧ Cg n (cf (puH f g h s m)) (cf h) := by
  have he : Cg m (cf (puE f g h m)) ((cf f : Pz) - (cf g : Pz) * cf h) := by
    refine (redP_cg _ _).trans (Cg.of ?_)
    rw [subP_p, mulP_mul]
  have he0 : Cg n (cf (puE f g h m)) (pc 0) := (he.down hn).trans (Cg.iff_sub.1 h1)
  have hd : Cg m ((cf s : Pz) * cf (puE f g h m)) ((cf (puQ (mulP s (puE f g h m)) h m) : Pz) * cf h + cf (puR (mulP s (puE f g h m)) h m)) := by
    rw [← mulP_mul]
    exact div_cg hdl hd1
  obtain ⟨z1, z2⟩ := div_zero (x := mulP s (puE f g h m)) (d := h) hn (by rw [mulP_mul]; exact he0.mul_zero_l _) hdl hd1
  refine lift_fac hm hn (q := cf (puQ (mulP s (puE f g h m)) h m)) (r := cf (puR (mulP s (puE f g h m)) h m)) h1 h2 he hd z1 z2 ?_ ?_
  · refine (redP_cg _ _).trans (Cg.of ?_)
    rw [addP_p, addP_p, mulP_mul, mulP_mul]
  · refine (redP_cg _ _).trans (Cg.of ?_)
    rw [addP_p]
theorem pu_bez {n m : Int} (hm : m ∣ n * n) (hn : n ∣ m) {g h s t : List Zr} (h2 : Cg n ((cf s : Pz) * cf g + (cf t : Pz) * cf h) (pc 1)) (hdl : 0 < h.length) (hd1 : cf h (h.length - 1) = 1) :
    Cg m ((cf (puS g h s t m) : Pz) * cf g + (cf (puT g h s t m) : Pz) * cf h) (pc 1) := by
  have hb : Cg m (cf (puB g h s t m)) ((cf s : Pz) * cf g + (cf t : Pz) * cf h - pc 1) := by
    refine (redP_cg _ _).trans (Cg.of ?_)
    rw [subP_p, addP_p, mulP_mul, mulP_mul, oneP_cf]
  have hd : Cg m ((cf s : Pz) * cf (puB g h s t m)) ((cf (puQ (mulP s (puB g h s t m)) h m) : Pz) * cf h + cf (puR (mulP s (puB g h s t m)) h m)) := by
    rw [← mulP_mul]
    exact div_cg hdl hd1
  refine lift_bez hm hn h2 hb hd ?_ ?_
  · refine (redP_cg _ _).trans (Cg.of ?_)
    rw [subP_p]
  · refine (redP_cg _ _).trans (Cg.of ?_)
    rw [subP_p, addP_p, mulP_mul, mulP_mul]
theorem mul_top {a b : List Zr} (hal : 0 < a.length) (hbl : 0 < b.length) (hb : cf b (b.length - 1) = 1) : ((cf a : Pz) * cf b) (a.length - 1 + (b.length - 1)) = cf a (a.length - 1) := by
  rw [p_mul, sumN_single (i := a.length - 1) fun i hi => ?_, if_pos (by omega), show a.length - 1 + (b.length - 1) - (a.length - 1) = b.length - 1 by omega, hb, Int.mul_one]
  by_cases h : i < a.length - 1
  · rw [cf_ge (p := b) (by omega), Int.mul_zero]
  · rw [cf_ge (p := a) (by omega), Int.zero_mul]
theorem fac_deg {m : Int} {f g h : List Zr} (hm : 2 ≤ m) (hg : redP g m = g) (hf : redP f m = f) (hfl : 0 < f.length) (hdl : 0 < h.length) (hd1 : cf h (h.length - 1) = 1) (hc : Cg m (cf f) ((cf g : Pz) * cf h)) :
    f.length = g.length + (h.length - 1) ∧ 0 < g.length ∧ cf g (g.length - 1) = cf f (f.length - 1) := by
  have hgc := redP_can g m
  have hfc := redP_can f m
  rw [hg] at hgc
  rw [hf] at hfc
  have hgm : ∀ k, cf g k % m = cf g k := fun k => by rw [← redP_cf, hg]
  have hfm : ∀ k, cf f k % m = cf f k := fun k => by rw [← redP_cf, hf]
  have hft := can_top hfc (by omega)
  have g0 : 0 < g.length := by
    refine Nat.pos_of_ne_zero fun h0 => hft ?_
    rw [← hfm, hc, p_mul, sumN_zero fun i hi => by rw [cf_ge (p := g) (by omega), Int.zero_mul], Int.zero_emod]
  have hgt := can_top hgc (by omega)
  have ht := hc (g.length - 1 + (h.length - 1))
  rw [mul_top g0 hdl hd1, hfm, hgm] at ht
  have e1 : f.length = g.length + (h.length - 1) := by
    refine Nat.le_antisymm (can_le hfc fun k hk => ?_) (Nat.le_of_not_lt fun hlt => ?_)
    · rw [← hfm, hc, p_mul_out (n := g.length) (m := h.length) (fun j hj => cf_ge hj) (fun j hj => cf_ge hj) (by omega), Int.zero_emod]
    · rw [cf_ge (p := f) (by omega)] at ht
      exact hgt ht.symm
  refine ⟨e1, g0, ?_⟩
  rw [← ht]
  congr 1; omega
end Go.Proofs.YtjnjfinbdfolkaaGreat
end

section
set_option linter.unusedVariables false
set_option linter.unusedSimpArgs false
namespace Go.Proofs.YtjnjfinbdfolkaaGreat
structure ZbI (a b : Nat) (r0 r1 : Nat) (u0 v0 u1 v1 : Int) : Prop where
  p0 : 0 < r0
  le0 : r0 ≤ max a b
  le1 : r1 ≤ max a b
  e0 : u0 * a + v0 * b = r0
  e1 : u1 * a + v1 * b = r1
  g : Nat.gcd r0 r1 = Nat.gcd a b
  su : ∃ x y : Nat, ((u0 = x ∧ u1 = -y) ∨ (u0 = -x ∧ u1 = y)) ∧ r0 * y + r1 * x = b
  sv : ∃ x y : Nat, ((v0 = x ∧ v1 = -y) ∨ (v0 = -x ∧ v1 = y)) ∧ r0 * y + r1 * x = a
  bu0 : u0.natAbs ≤ b
  bu1 : u1.natAbs ≤ b
  bv0 : v0.natAbs ≤ a
  bv1 : v1.natAbs ≤ a
theorem sgn_step {r0 r1 c : Nat} {u0 u1 : Int} (hr : 0 < r1) (h : ∃ x y : Nat, ((u0 = x ∧ u1 = -y) ∨ (u0 = -x ∧ u1 = y)) ∧ r0 * y + r1 * x = c) :
    (∃ x y : Nat, ((u1 = x ∧ u0 - ((r0 / r1 : Nat) : Int) * u1 = -y) ∨ (u1 = -x ∧ u0 - ((r0 / r1 : Nat) : Int) * u1 = y)) ∧ r1 * y + r0 % r1 * x = c) ∧ (u0 - ((r0 / r1 : Nat) : Int) * u1).natAbs ≤ c := by
  obtain ⟨x, y, hs, he⟩ := h
  have hdm := Nat.div_add_mod r0 r1
  generalize r0 / r1 = q at *
  generalize r0 % r1 = r2 at *
  have e1 : r1 * (x + q * y) + r2 * y = c := by
    rw [Nat.mul_add, ← Nat.mul_assoc]
    have : r0 * y = r1 * q * y + r2 * y := by rw [← Nat.add_mul, hdm]
    omega
  have hb : x + q * y ≤ c := by
    have h3 : 1 * (x + q * y) ≤ r1 * (x + q * y) := Nat.mul_le_mul_right _ (by omega)
    omega
  have hcast : ((q * y : Nat) : Int) = (q : Int) * (y : Int) := by simp
  rcases hs with ⟨a1, a2⟩ | ⟨a1, a2⟩
  · rw [a1, a2, Int.mul_neg, ← hcast]
    exact ⟨⟨y, x + q * y, .inr ⟨rfl, by omega⟩, e1⟩, by omega⟩
  · rw [a1, a2, ← hcast]
    exact ⟨⟨y, x + q * y, .inl ⟨rfl, by omega⟩, e1⟩, by omega⟩
theorem ZbI.step {a b r0 r1 : Nat} {u0 v0 u1 v1 : Int} (h : ZbI a b r0 r1 u0 v0 u1 v1) (hr : 0 < r1) : ZbI a b r1 (r0 % r1) u1 v1 (u0 - ((r0 / r1 : Nat) : Int) * u1) (v0 - ((r0 / r1 : Nat) : Int) * v1) := by
  obtain ⟨s1, s2⟩ := sgn_step hr h.su
  obtain ⟨t1, t2⟩ := sgn_step hr h.sv
  have hdm := Nat.div_add_mod r0 r1
  have hml := Nat.mod_lt r0 hr
  have hl1 := h.le1
  refine ⟨hr, hl1, by omega, h.e1, ?_, ?_, s1, t1, h.bu1, s2, h.bv1, t2⟩
  · have e0 := h.e0
    have e1 := h.e1
    have hc : (r0 : Int) = (r1 : Int) * ((r0 / r1 : Nat) : Int) + ((r0 % r1 : Nat) : Int) := by
      have : (r0 : Int) = ((r1 * (r0 / r1) + r0 % r1 : Nat) : Int) := by rw [hdm]
      rw [this]; simp
    generalize ((r0 / r1 : Nat) : Int) = q at *
    generalize ((r0 % r1 : Nat) : Int) = r2 at *
    rw [Int.sub_mul, Int.sub_mul, Int.mul_assoc, Int.mul_assoc]
    have e2 : q * (u1 * a) + q * (v1 * b) = r1 * q := by rw [← Int.mul_add, e1, Int.mul_comm]
    omega
  · rw [← h.g, Nat.gcd_comm r1, ← Nat.gcd_rec, Nat.gcd_comm]
theorem Bz.nat {K n : Nat} (h : n < 18446744073709551616 ^ K) : Bz K (n : Int) := by unfold Bz; rw [Int.natAbs_natCast]; exact h
theorem M_zint_line_less_eq {fu K : Nat} {q x0 y0 z0 x1 y1 z1 : Int} (hq : Bz K q) (h1 : Bz K x0) (h2 : Bz K y0) (h3 : Bz K z0) (h4 : Bz K x1) (h5 : Bz K y1) (h6 : Bz K z1) (hK : K ≤ 10000) (hf : 3000000 ≤ fu) :
    M_zint_line_less fu (ofI x0, (ofI y0, ofI z0)) (ofI q) (ofI x1, (ofI y1, ofI z1)) = some (ofI (x0 - q * x1), (ofI (y0 - q * y1), ofI (z0 - q * z1))) := by
  unfold M_zint_line_less
  have b1 := hq.mul h4
  have b2 := hq.mul h5
  have b3 := hq.mul h6
  simp only []
  rw [bd_t (M_zint_Mul_eq' (hq.ok (by omega)) (h4.ok (by omega)) hf), zv_ofI, zv_ofI, bd_t (M_zint_Sub_eq (h1.ok (by omega)) (b1.ok (by omega)) hf), zv_ofI, zv_ofI, bd_t (M_zint_Mul_eq' (hq.ok (by omega)) (h5.ok (by omega)) hf), zv_ofI, zv_ofI, bd_t (M_zint_Sub_eq (h2.ok (by omega)) (b2.ok (by omega)) hf), zv_ofI, zv_ofI, bd_t (M_zint_Mul_eq' (hq.ok (by omega)) (h6.ok (by omega)) hf), zv_ofI, zv_ofI, bd_t (M_zint_Sub_eq (h3.ok (by omega)) (b3.ok (by omega)) hf), zv_ofI, zv_ofI]
theorem half_bl {r0 r1 : Nat} (h : r1 ≤ r0) (hr : 0 < r1) : bl (r0 % r1) < bl r0 := by
  have hdm := Nat.div_add_mod r0 r1
  have hml := Nat.mod_lt r0 hr
  have hq : 1 ≤ r0 / r1 := (Nat.le_div_iff_mul_le hr).2 (by omega)
  have h1 : r1 * 1 ≤ r1 * (r0 / r1) := Nat.mul_le_mul_left _ hq
  have hb := lt_bl r0
  have hp : 1 ≤ bl r0 := by rw [bl_pos (by omega)]; omega
  have e : 2 ^ bl r0 = 2 * 2 ^ (bl r0 - 1) := by rw [← Nat.pow_succ', show (bl r0 - 1).succ = bl r0 by omega]
  have := bl_le (n := r0 % r1) (k := bl r0 - 1) (by omega)
  omega
theorem zbez_loop {fu a b K : Nat} (ha : a < 18446744073709551616 ^ K) (hb : b < 18446744073709551616 ^ K) (hK : K ≤ 1000) (hf : 3000000 ≤ fu) {r0 r1 : Nat} {u0 v0 u1 v1 : Int} (hI : ZbI a b r0 r1 u0 v0 u1 v1) :
    ∃ r, loopN (B_zint_Bezout_0 fu) fu ((ofI r0, (ofI u0, ofI v0)), (ofI r1, (ofI u1, ofI v1))) = some r ∧ ∃ u v : Int, r = (ofI (Nat.gcd a b : Nat), (ofI u, ofI v)) ∧ u * a + v * b = (Nat.gcd a b : Nat) ∧ u.natAbs ≤ b ∧ v.natAbs ≤ a := by
  have hbl : ∀ {n : Nat}, n ≤ max a b → bl n ≤ 64 * K := fun {n} hn => bl_le (by
    rw [Nat.pow_mul, two64]
    omega)
  refine loop_ex (fun s : (Zr × (Zr × Zr)) × (Zr × (Zr × Zr)) => ∃ (r0 r1 : Nat) (u0 v0 u1 v1 : Int), s = ((ofI r0, (ofI u0, ofI v0)), (ofI r1, (ofI u1, ofI v1))) ∧ ZbI a b r0 r1 u0 v0 u1 v1) (fun s => bl (zv s.1.1).natAbs + bl (zv s.2.1).natAbs + if (zv s.1.1).natAbs < (zv s.2.1).natAbs then 1 else 0) _ ?_ _ _ ⟨r0, r1, u0, v0, u1, v1, rfl, hI⟩ ?_
  · rintro s L ⟨r0, r1, u0, v0, u1, v1, rfl, hI⟩ ih
    have hz : ∀ x : Int, x.natAbs ≤ max a b → Bz K x := fun x hx => by unfold Bz; omega
    have z0 : Bz K (r0 : Int) := hz _ (by have := hI.le0; omega)
    have z1 : Bz K (r1 : Int) := hz _ (by have := hI.le1; omega)
    unfold B_zint_Bezout_0
    simp only []
    rw [bd_t (M_zint_Sign_eq (z1.ok (by omega)) hf), zv_ofI]
    by_cases h0 : r1 = 0
    · rw [if_pos (cmpI_zero.2 (by omega))]
      have hg := hI.g
      rw [h0, Nat.gcd_zero_right] at hg
      exact ⟨_, rfl, u0, v0, by rw [hg], by rw [hI.e0, hg], hI.bu0, hI.bv0⟩
    · rw [if_neg (fun e => h0 (by have := cmpI_zero.1 e; omega)), bd_t (M_zint_Div_eq (z0.okS (by omega)) (z1.okS (by omega)) hf), zv_ofI, zv_ofI]
      unfold divR
      rw [if_neg (by omega)]
      simp only []
      have hq : ((r0 : Int) / (r1 : Int)) = ((r0 / r1 : Nat) : Int) := rfl
      have zq : Bz K ((r0 / r1 : Nat) : Int) := Bz.nat (by
        have h1 := Nat.div_le_self r0 r1
        have h2 := hI.le0
        omega)
      have hst := hI.step (by omega)
      have hdm := Nat.div_add_mod r0 r1
      have hnew : (r0 : Int) - ((r0 / r1 : Nat) : Int) * (r1 : Int) = ((r0 % r1 : Nat) : Int) := by
        have : (r0 : Int) = ((r1 * (r0 / r1) + r0 % r1 : Nat) : Int) := by rw [hdm]
        conv => lhs; rw [this]
        rw [hdm]
        have h2 : (r0 : Int) = (r1 : Int) * ((r0 / r1 : Nat) : Int) + ((r0 % r1 : Nat) : Int) := by
          rw [this]; simp
        rw [Int.mul_comm]; omega
      rw [hq, bd_t (M_zint_line_less_eq zq z0 (hz _ (by have := hI.bu0; omega)) (hz _ (by have := hI.bv0; omega)) z1 (hz _ (by have := hI.bu1; omega)) (hz _ (by have := hI.bv1; omega)) (by omega) hf), hnew]
      refine ih _ ⟨_, _, _, _, _, _, rfl, hst⟩ ?_
      simp only [zv_ofI, Int.natAbs_natCast]
      have hml := Nat.mod_lt r0 (show 0 < r1 by omega)
      rw [if_neg (by omega)]
      by_cases hlt : r0 < r1
      · rw [if_pos hlt, Nat.mod_eq_of_lt hlt]; omega
      · have := half_bl (r0 := r0) (r1 := r1) (by omega) (by omega)
        omega
  · simp only [zv_ofI, Int.natAbs_natCast]
    have h1 := hbl hI.le0
    have h2 := hbl hI.le1
    split <;> omega
theorem M_zint_Bezout_ex {fu a b K : Nat} {x y : Zr} (hx : Limbs x.2) (hy : Limbs y.2) (hxl : x.2.length ≤ K) (hyl : y.2.length ≤ K) (hxa : zv x = (a : Int)) (hyb : zv y = (b : Int)) (ha : 0 < a) (hb : 0 < b) (hK : K ≤ 1000) (hf : 3000000 ≤ fu) :
    ∃ u v : Int, M_zint_Bezout fu x y = some (ofI (Nat.gcd a b : Nat), ofI u, ofI v) ∧ u * a + v * b = (Nat.gcd a b : Nat) ∧ u.natAbs ≤ b ∧ v.natAbs ≤ a := by
  have na : nv x.2 = a := by have := natAbs_zv x; omega
  have nb : nv y.2 = b := by have := natAbs_zv y; omega
  have hA : a < 18446744073709551616 ^ K := by rw [← na]; exact Nat.lt_of_lt_of_le (nv_lt hx) (Nat.pow_le_pow_right (by decide) hxl)
  have hB : b < 18446744073709551616 ^ K := by rw [← nb]; exact Nat.lt_of_lt_of_le (nv_lt hy) (Nat.pow_le_pow_right (by decide) hyl)
  have hI : ZbI a b a b 1 0 0 1 := by
    refine ⟨ha, Nat.le_max_left _ _, Nat.le_max_right _ _, by omega, by omega, rfl, ⟨1, 0, .inl ⟨rfl, rfl⟩, by omega⟩, ⟨0, 1, .inr ⟨rfl, rfl⟩, by omega⟩, by omega, by omega, by omega, by omega⟩
  obtain ⟨r, e1, u, v, rfl, e2, e3, e4⟩ := zbez_loop (fu := fu) hA hB hK hf hI
  unfold M_zint_Bezout
  rw [bd_t (M_zint_made_eq hx (by omega) (by omega)), bd_t (M_zint_Of_eq' (by decide) hf), bd_t (M_zint_Of_eq' (by decide) hf), bd_t (M_zint_made_eq hy (by omega) (by omega)), bd_t (M_zint_Of_eq' (by decide) hf), bd_t (M_zint_Of_eq' (by decide) hf), if_neg (by decide), if_neg (by decide), na, nb, bd_t e1]
  simp only []
  rw [bd_t (M_zint_Sign_eq ⟨hx, by omega⟩ hf), if_neg (fun e => by rw [hxa, cmpI_gt (by omega)] at e; exact absurd e (by decide)), bd_t rfl, bd_t (M_zint_Sign_eq ⟨hy, by omega⟩ hf), if_neg (fun e => by rw [hyb, cmpI_gt (by omega)] at e; exact absurd e (by decide)), bd_t rfl]
  exact ⟨u, v, rfl, e2, e3, e4⟩
end Go.Proofs.YtjnjfinbdfolkaaGreat
end

section
set_option linter.unusedVariables false
set_option linter.unusedSimpArgs false
namespace Go.Proofs.YtjnjfinbdfolkaaGreat
theorem unit_deg {p : Int} {x : Pz} {d : List Int} (hp : 2 ≤ p) (hx : Fs x) (hd0 : 0 < d.length) (hd : ci d (d.length - 1) = 1) (h : Cg p (x * ci d) (pc 1)) : d.length = 1 := by
  obtain ⟨n, hn⟩ := hx
  obtain ⟨X, hX⟩ : ∃ X, X = nl n (fun k => x k % p) := ⟨_, rfl⟩
  have hXc : ∀ k, ci X k = x k % p := fun k => by
    rw [hX]
    exact nl_ci (fun j hj => by rw [hn j hj, Int.zero_emod]) k
  have hXn : Nl X := by rw [hX]; exact nl_Nl _ _
  have hcg : Cg p (ci X * ci d) (pc 1) := (Cg.mul (fun k => by rw [hXc, Int.emod_emod]) Cg.rfl).trans h
  rcases hXn with h0 | h0
  · have h1 := hcg 0
    rw [p_mul, sumN_zero fun i hi => by rw [ci_ge (l := X) (by omega), Int.zero_mul]] at h1
    unfold pc at h1
    rw [if_pos rfl, Int.zero_emod, Int.emod_eq_of_lt (by decide) (by omega)] at h1
    cases h1
  · have hXl : 0 < X.length := Nat.pos_of_ne_zero fun e => h0 (ci_ge (by omega))
    have ht : (ci X * ci d) (X.length - 1 + (d.length - 1)) = ci X (X.length - 1) := by
      rw [p_mul, sumN_single (i := X.length - 1) fun i hi => ?_, if_pos (by omega), show X.length - 1 + (d.length - 1) - (X.length - 1) = d.length - 1 by omega, hd, Int.mul_one]
      by_cases hc : i < X.length - 1
      · rw [ci_ge (l := d) (by omega), Int.mul_zero]
      · rw [ci_ge (l := X) (by omega), Int.zero_mul]
    have h1 := hcg (X.length - 1 + (d.length - 1))
    rw [ht, hXc, Int.emod_emod, ← hXc] at h1
    refine Decidable.byContradiction fun hne => ?_
    unfold pc at h1
    rw [if_neg (by omega), Int.zero_emod] at h1
    exact h0 h1
theorem bez_one {p : Int} {g h d s t : List Int} {S : Nat} (hp : 2 ≤ p) (hR : BzR p g h d s t S) (hd : d.length = 0 ∨ ci d (d.length - 1) = 1) (hc : Cop p (ci g) (ci h)) : Cg p (ci s * ci g + ci t * ci h) (pc 1) := by
  obtain ⟨A, C, z1, z2, d1, d2⟩ := hR.dv
  obtain ⟨u, v, z3, z4, hc⟩ := hc
  have hx : Cg p ((u * A + v * C) * ci d) (pc 1) := by
    refine Cg.trans (Cg.of ?_) ((((Cg.rfl (f := u)).mul d1.symm).add ((Cg.rfl (f := v)).mul d2.symm)).trans hc)
    rw [p_add_mul, p_mul_assoc, p_mul_assoc]
  have hd0 : 0 < d.length := by
    refine Nat.pos_of_ne_zero fun e => ?_
    have h1 := hx 0
    rw [p_mul, sumN_zero fun i hi => by rw [ci_ge (l := d) (by omega), Int.mul_zero]] at h1
    unfold pc at h1
    rw [if_pos rfl, Int.zero_emod, Int.emod_eq_of_lt (by decide) (by omega)] at h1
    cases h1
  have hlead := hd.resolve_left (by omega)
  have hl := unit_deg hp ((z3.mul z1).add (z4.mul z2)) hd0 hlead hx
  have e : ci d = pc 1 := by
    funext k
    unfold pc
    by_cases hk : k = 0
    · rw [if_pos hk, hk, ← hlead, hl]
    · rw [if_neg hk, ci_ge (by omega)]
  have := hR.cg
  rw [e] at this
  exact this.symm
theorem prm_nodiv {p : Int} (hp : prm p = true) : NoDiv p.toNat := by
  refine Classical.byContradiction fun h => ?_
  rw [prm_f (fun e => h e.2.2)] at hp
  exact absurd hp (by decide)
theorem pow_lim {P k N : Nat} (h1 : 1 ≤ P) (h2 : P ≤ 65521) (hk : k ≤ 4 * N) (hN : 0 < N) : P ^ k < 18446744073709551616 ^ N := by
  rw [show (18446744073709551616 : Nat) = 65536 ^ 4 by decide, ← Nat.pow_mul]
  exact Nat.lt_of_le_of_lt (Nat.pow_le_pow_right (by omega) hk) (Nat.pow_lt_pow_left (by omega) (by omega))
theorem pow_bz {p : Int} (hp : prm p = true) {k : Nat} (hk : k ≤ 1000) : Bz 250 (p ^ k) := by
  obtain ⟨p1, p2⟩ := prm_rng hp
  obtain ⟨P, rfl⟩ := Int.eq_ofNat_of_zero_le (show 0 ≤ p by omega)
  unfold Bz
  rw [Int.natAbs_pow, Int.natAbs_natCast]
  exact pow_lim (by omega) (by omega) hk (by decide)
theorem pow_ge {p : Int} (hp : prm p = true) {k : Nat} (hk : 1 ≤ k) : 2 ≤ p ^ k := by
  obtain ⟨p1, p2⟩ := prm_rng hp
  obtain ⟨P, rfl⟩ := Int.eq_ofNat_of_zero_le (show 0 ≤ p by omega)
  have h1 : P ^ 1 ≤ P ^ k := Nat.pow_le_pow_right (by omega) hk
  rw [Nat.pow_one] at h1
  rw [← Int.natCast_pow]
  omega
theorem pow_dvd {p : Int} {i j : Nat} (h : i ≤ j) : p ^ i ∣ p ^ j := ⟨p ^ (j - i), by rw [← Int.pow_add, show i + (j - i) = j by omega]⟩
theorem cop_pow {p c : Int} (hp : prm p = true) (hc : c % p ≠ 0) (hc0 : 0 ≤ c) {k : Nat} : Nat.gcd c.toNat (p ^ k).toNat = 1 := by
  obtain ⟨p1, p2⟩ := prm_rng hp
  have hnd := prm_nodiv hp
  obtain ⟨P, rfl⟩ := Int.eq_ofNat_of_zero_le (show 0 ≤ p by omega)
  obtain ⟨C, rfl⟩ := Int.eq_ofNat_of_zero_le hc0
  rw [← Int.natCast_pow, Int.toNat_natCast, Int.toNat_natCast]
  have hm := Nat.mod_lt C (show 0 < P by omega)
  have h1 : Nat.gcd P (C % P) = 1 := prime_cop (by omega) hnd (by omega) hm
  have h2 : Nat.gcd C P = 1 := by rw [Nat.gcd_comm, Nat.gcd_rec, Nat.gcd_comm]; exact h1
  exact Nat.Coprime.pow_right k h2
structure Rd (K : Nat) (m : Int) (f : List Zr) : Prop where
  ok : OkP K f
  rd : redP f m = f
theorem Rd.mod {K : Nat} {m : Int} {f : List Zr} (h : Rd K m f) (k : Nat) : cf f k % m = cf f k := by rw [← redP_cf, h.rd]
theorem Rd.can {K : Nat} {m : Int} {f : List Zr} (h : Rd K m f) : f = nzp f.length (cf f) := by have := redP_can f m; rw [h.rd] at this; exact this
theorem redP_rd {K : Nat} {m : Int} (hm : Bz K m) (h0 : 0 < m) (a : List Zr) : Rd K m (redP a m) := ⟨redP_ok hm h0, redP_ext fun k => by rw [redP_cf, Int.emod_emod]⟩
theorem M_hensel_one_ex {fu k : Nat} {p : Int} {f : List Zr} (hp : prm p = true) (hk1 : 1 ≤ k) (hk : k ≤ 1000) (hF : Rd 250 (p ^ k) f) (hfl : 0 < f.length) (hfb : f.length ≤ 1000) (htop : cf f (f.length - 1) % p ≠ 0) (hf : 3000000 ≤ fu) :
    ∃ w u, M_hensel_one fu f (ofI (p ^ k)) = some w ∧ Rd 250 (p ^ k) w ∧ w.length = f.length ∧ cf w (w.length - 1) = 1 ∧ (u * cf f (f.length - 1)) % p ^ k = 1 ∧ Cg (p ^ k) (cf w) (pc u * cf f) := by
  have hmB := pow_bz hp hk
  have hm2 := pow_ge hp hk1
  obtain ⟨m, hm⟩ : ∃ m, m = p ^ k := ⟨_, rfl⟩
  have hcop := cop_pow (k := k) hp htop (by
    rw [← hF.mod]
    exact Int.emod_nonneg _ (by omega))
  rw [← hm] at hmB hm2 hF hcop ⊢
  obtain ⟨c, hc⟩ : ∃ c, c = cf f (f.length - 1) := ⟨_, rfl⟩
  have hcr := red_rng (a := c) (p := m) (by omega)
  have hcm := hF.mod (f.length - 1)
  rw [← hc] at hcm htop hcop ⊢
  rw [hcm] at hcr
  have hc0 : c ≠ 0 := fun e => htop (by rw [e, Int.zero_emod])
  have hcB : Bz 250 c := hmB.le (by omega)
  have hg := hF.ok.get (f.length - 1)
  obtain ⟨u, v, e1, e2, e3, e4⟩ := M_zint_Bezout_ex (fu := fu) (K := 250) (a := c.toNat) (b := m.toNat) (x := f.getD (f.length - 1) (false, [])) (y := ofI m) hg.1 (ofI_limbs _) hg.2 hmB.len (by rw [cf_d, ← hc]; omega) (by rw [zv_ofI]; omega) (by omega) (by omega) (by decide) hf
  rw [hcop] at e2
  have huB : Bz 250 u := hmB.le (by omega)
  have hu1 : (u * c) % m = 1 := by
    have : u * c = 1 + m * (-v) := by
      rw [Int.toNat_of_nonneg hcr.1, Int.toNat_of_nonneg (show 0 ≤ m by omega)] at e2
      rw [Int.mul_neg, Int.mul_comm m v]
      omega
    rw [this, Int.add_mul_emod_self_left]
    exact Int.emod_eq_of_lt (by decide) (by omega)
  have hmS : OkS (ofI m) := hmB.okS (by decide)
  obtain ⟨sc, hsc⟩ : ∃ sc, sc = nzp f.length (fun j => cf f j * u) := ⟨_, rfl⟩
  have hscO : OkP (250 + 250) sc := by rw [hsc]; exact OkP_nzp fun j => (hF.ok.bz j).mul huB
  have hscl : sc.length ≤ f.length := by rw [hsc, nzp_len]; exact dg_le _ _
  have hscc : ∀ j, cf sc j = cf f j * u := fun j => by rw [hsc]; exact nzp_cf (fun i hi => cf_mul_out hi) j
  have hwc : ∀ j, cf (redP sc m) j = cf f j * u % m := fun j => by rw [redP_cf, hscc]
  have hw1 : cf (redP sc m) (f.length - 1) = 1 := by rw [hwc, ← hc, Int.mul_comm, hu1]
  have hwl : (redP sc m).length = f.length := by
    refine Nat.le_antisymm (can_le (redP_can _ _) fun j hj => ?_) (Nat.le_of_not_lt fun hlt => ?_)
    · rw [hwc, cf_ge hj, Int.zero_mul, Int.zero_emod]
    · rw [cf_ge (by omega)] at hw1
      cases hw1
  refine ⟨redP sc m, u, ?_, redP_rd hmB (by omega) _, hwl, by rw [hwl]; exact hw1, hu1, fun j => ?_⟩
  · unfold M_hensel_one
    rw [show ((f.length : Nat) : Int) - 1 = ((f.length - 1 : Nat) : Int) by omega, ck64_t ⟨by omega, by omega⟩, ckI_n (by omega), nm_t, bd_t e1]
    simp only []
    rw [bd_t (M_zpoly_Scale_eq (l := 250) hF.ok ⟨ofI_limbs _, huB.len⟩ (by decide) (by omega) hf), zv_ofI, ← hsc, bd_t (red_low hscO (by decide) hmS (by rw [zv_ofI]; omega) (by omega) hf), zv_ofI]
  · rw [hwc, pc_mul, Int.emod_emod, Int.mul_comm]
end Go.Proofs.YtjnjfinbdfolkaaGreat
end

section
set_option linter.unusedVariables false
set_option linter.unusedSimpArgs false
namespace Go.Proofs.YtjnjfinbdfolkaaGreat
structure TrI (p : Int) (k : Nat) (f g0 h0 : List Zr) (lh LS i : Nat) (G H S T : List Zr) : Prop where
  i1 : 1 ≤ i
  ik : i ≤ k
  rG : Rd 250 (p ^ i) G
  rH : Rd 250 (p ^ i) H
  rS : Rd 250 (p ^ i) S
  rT : Rd 250 (p ^ i) T
  hl : H.length = lh
  h1 : cf H (lh - 1) = 1
  fac : Cg (p ^ i) (cf f) ((cf G : Pz) * cf H)
  bez : Cg (p ^ i) ((cf S : Pz) * cf G + (cf T : Pz) * cf H) (pc 1)
  gp : Cg p (cf G) (cf g0)
  hp : Cg p (cf H) (cf h0)
  sl : S.length ≤ LS
theorem cof_len {m : Int} {G H S T : List Zr} {K : Nat} (hm : 2 ≤ m) (hT : Rd K m T) (hl : 0 < H.length) (h1 : cf H (H.length - 1) = 1) (hb : Cg m ((cf S : Pz) * cf G + (cf T : Pz) * cf H) (pc 1)) : T.length ≤ S.length + G.length + 1 := by
  refine Nat.le_of_not_lt fun hlt => ?_
  have ht := can_top hT.can (by omega)
  have hp := hb (T.length - 1 + (H.length - 1))
  rw [p_add, mul_top (by omega) hl h1, p_mul_out (n := S.length) (m := G.length) (fun j hj => cf_ge hj) (fun j hj => cf_ge hj) (by omega), Int.zero_add, hT.mod] at hp
  unfold pc at hp
  rw [if_neg (by omega), Int.zero_emod] at hp
  exact ht hp
theorem red_top {p : Int} {k i : Nat} {f : List Zr} (hi : 1 ≤ i) (htop : cf f (f.length - 1) % p ≠ 0) (hfl : 0 < f.length) : (redP f (p ^ i)).length = f.length := by
  refine Nat.le_antisymm (redP_len _ _) (Nat.le_of_not_lt fun hlt => htop ?_)
  have h : cf (redP f (p ^ i)) (f.length - 1) = 0 := cf_ge (by omega)
  rw [redP_cf] at h
  have hd : p ∣ p ^ i := by
    have := pow_dvd (p := p) hi
    rw [Int.pow_succ, Int.pow_zero, Int.one_mul] at this
    exact this
  rw [← Int.emod_emod_of_dvd _ hd, h, Int.zero_emod]
theorem TrI.lens {p : Int} {k : Nat} {f g0 h0 : List Zr} {lh LS i : Nat} {G H S T : List Zr} (h : TrI p k f g0 h0 lh LS i G H S T) (hp : prm p = true) (htop : cf f (f.length - 1) % p ≠ 0) (hfl : 0 < f.length) (hlh : 0 < lh) :
    f.length = G.length + (lh - 1) ∧ 0 < G.length ∧ cf G (G.length - 1) = cf f (f.length - 1) % p ^ i ∧ T.length ≤ LS + G.length + 1 := by
  have hm2 := pow_ge hp h.i1
  have hl := h.hl
  have h1 := h.h1
  rw [← hl] at h1
  have hrl := red_top (k := k) h.i1 htop hfl
  obtain ⟨e1, e2, e3⟩ := fac_deg hm2 h.rG.rd (f := redP f (p ^ i)) (redP_ext fun j => by rw [redP_cf, Int.emod_emod]) (by omega) (by omega) h1 ((redP_cg _ _).trans h.fac)
  have e4 := cof_len hm2 h.rT (by omega) h1 h.bez
  have := h.sl
  rw [hrl, redP_cf] at e3
  exact ⟨by omega, e2, e3, by omega⟩
theorem pow_two {p : Int} {i j : Nat} (h : j ≤ i + i) : p ^ j ∣ p ^ i * p ^ i := by rw [← Int.pow_add]; exact pow_dvd h
theorem dvd_pow_self {p : Int} {i : Nat} (h : 1 ≤ i) : p ∣ p ^ i := by
  have := pow_dvd (p := p) h
  rw [Int.pow_succ, Int.pow_zero, Int.one_mul] at this
  exact this
theorem TrI.step {fu k : Nat} {p : Int} {f g0 h0 : List Zr} {lh LS i : Nat} {G H S T : List Zr} (h : TrI p k f g0 h0 lh LS i G H S T) (hp : prm p = true) (hk : k ≤ 1000) (hfO : OkP 250 f) (htop : cf f (f.length - 1) % p ≠ 0) (hfl : 0 < f.length) (hlh : 0 < lh) (hik : i < k) (hb1 : f.length ≤ 300) (hb2 : LS ≤ 4500) (hb3 : lh ≤ LS) (hf : 3000000 ≤ fu) :
    ∃ G' H' S' T', M_hensel_pair_up fu [G, H, S, T] f (ofI (p ^ min (2 * i) k)) = some [G', H', S', T'] ∧ TrI p k f g0 h0 lh LS (min (2 * i) k) G' H' S' T' := by
  obtain ⟨j, hj⟩ : ∃ j, j = min (2 * i) k := ⟨_, rfl⟩
  have hi1 := h.i1
  obtain ⟨l1, l2, l3, l4⟩ := h.lens hp htop hfl hlh
  have hmB := pow_bz hp (k := j) (by omega)
  have hm2 := pow_ge hp (k := j) (by omega)
  have hl := h.hl
  have h1 := h.h1
  have hsl := h.sl
  rw [← hl] at h1
  have hpu := M_hensel_pair_up_eq (fu := fu) (K := 250) (W := 5000) hfO h.rG.ok h.rH.ok h.rS.ok h.rT.ok (by omega) (by omega) (by omega) (by omega) (by omega) (Nat.le_refl _) (by decide) (by decide) (ofI_limbs (p ^ j)) hmB.len (by rw [zv_ofI]; exact hm2) (by omega) h1 hf
  rw [zv_ofI] at hpu
  rw [← hj]
  refine ⟨_, _, _, _, hpu, ?_⟩
  have d1 : p ^ j ∣ p ^ i * p ^ i := pow_two (by omega)
  have d2 : p ^ i ∣ p ^ j := pow_dvd (by omega)
  have d3 : p ∣ p ^ i := dvd_pow_self hi1
  obtain ⟨f1, f2, f3⟩ := pu_fac d1 d2 h.fac h.bez (by omega) h1
  obtain ⟨t1, t2⟩ := puH_top (f := f) (g := G) (s := S) hm2 (by omega) h1
  have hbez' : Cg (p ^ i) ((cf S : Pz) * cf (puG f G H S T (p ^ j)) + (cf T : Pz) * cf (puH f G H S (p ^ j))) (pc 1) := ((Cg.rfl.mul f2).add (Cg.rfl.mul f3)).trans h.bez
  have hbz := pu_bez d1 d2 hbez' (by omega) (by rw [t1]; exact t2)
  have hsh := puR_short (x := mulP S (puB (puG f G H S T (p ^ j)) (puH f G H S (p ^ j)) S T (p ^ j))) (d := puH f G H S (p ^ j)) (m := p ^ j) (by omega) (by rw [t1]; exact t2)
  refine ⟨by omega, by omega, redP_rd hmB (by omega) _, redP_rd hmB (by omega) _, redP_rd hmB (by omega) _, redP_rd hmB (by omega) _, by omega, by rw [hl] at t2; exact t2, f1, hbz, (f2.down d3).trans h.gp, (f3.down d3).trans h.hp, ?_⟩
  have e1 := redP_len (subP S (puR (mulP S (puB (puG f G H S T (p ^ j)) (puH f G H S (p ^ j)) S T (p ^ j))) (puH f G H S (p ^ j)) (p ^ j))) (p ^ j)
  have e2 := subP_len S (puR (mulP S (puB (puG f G H S T (p ^ j)) (puH f G H S (p ^ j)) S T (p ^ j))) (puH f G H S (p ^ j)) (p ^ j))
  show (redP _ _).length ≤ LS
  omega
theorem power_ok {fu j : Nat} {p : Int} (hp : prm p = true) (h1 : 1 ≤ j) (h2 : j ≤ 1000) (hf : 3000000 < fu) : M_hensel_Power fu p (j : Int) = some (ofI (p ^ j), 0) := by
  rw [M_hensel_Power_eq hf]
  unfold powR
  rw [if_pos ⟨hp, by omega, by omega⟩, Int.toNat_natCast]
theorem tree_loop {fu k : Nat} {p : Int} {f g0 h0 : List Zr} {lh LS : Nat} {G H S T : List Zr} (h : TrI p k f g0 h0 lh LS 1 G H S T) (hp : prm p = true) (hk : k ≤ 1000) (hfO : OkP 250 f) (htop : cf f (f.length - 1) % p ≠ 0) (hfl : 0 < f.length) (hlh : 0 < lh) (hb1 : f.length ≤ 300) (hb2 : LS ≤ 4500) (hb3 : lh ≤ LS) (hf : 3000000 < fu) :
    ∃ G' H' S' T', loopN (B_hensel_tree_0 fu f p (k : Int)) fu (1, [G, H, S, T]) = some [G', H', S', T'] ∧ TrI p k f g0 h0 lh LS k G' H' S' T' := by
  obtain ⟨r, e1, G', H', S', T', rfl, e2⟩ := loop_ex (f := B_hensel_tree_0 fu f p (k : Int)) (fun s : Int × List (List Zr) => ∃ (i : Nat) (G H S T : List Zr), s = ((i : Int), [G, H, S, T]) ∧ TrI p k f g0 h0 lh LS i G H S T) (fun s => k - s.1.toNat) (fun r => ∃ G H S T, r = [G, H, S, T] ∧ TrI p k f g0 h0 lh LS k G H S T) (by
    rintro s L ⟨i, G, H, S, T, rfl, h⟩ ih
    unfold B_hensel_tree_0
    simp only []
    have hi1 := h.i1
    have hik := h.ik
    by_cases h3 : i < k
    · obtain ⟨G', H', S', T', e1, e2⟩ := h.step (fu := fu) hp hk hfO htop hfl hlh h3 hb1 hb2 hb3 (by omega)
      have ej : min (2 * (i : Int)) (k : Int) = ((min (2 * i) k : Nat) : Int) := by omega
      rw [if_pos (by omega), ck64_t ⟨by omega, by omega⟩, nm_t, ej, bd_t (power_ok hp (by omega) (by omega) hf)]
      simp only []
      rw [bd_t e1]
      exact ih _ ⟨_, _, _, _, _, rfl, e2⟩ (by show k - ((min (2 * i) k : Nat) : Int).toNat < k - (i : Int).toNat; omega)
    · rw [if_neg (by omega)]
      obtain rfl : i = k := by omega
      exact ⟨_, rfl, _, _, _, _, rfl, h⟩) fu (1, [G, H, S, T]) ⟨1, _, _, _, _, rfl, h⟩ (by show k - 1 < fu; omega)
  exact ⟨_, _, _, _, e1, e2⟩
end Go.Proofs.YtjnjfinbdfolkaaGreat
end

section
set_option linter.unusedVariables false
set_option linter.unusedSimpArgs false
namespace Go.Proofs.YtjnjfinbdfolkaaGreat
theorem fmul_mon {p : Int} {a b : List Int} (hp : 2 ≤ p) (ha : 0 < a.length) (ha1 : ci a (a.length - 1) = 1) (hb : 0 < b.length) (hb1 : ci b (b.length - 1) = 1) : (fmul p a b).length = a.length + b.length - 1 ∧ ci (fmul p a b) (a.length + b.length - 1 - 1) = 1 := by
  have ht : (ci a * ci b) (a.length - 1 + (b.length - 1)) = 1 := by
    rw [p_mul, sumN_single (i := a.length - 1) fun i hi => ?_, if_pos (by omega), show a.length - 1 + (b.length - 1) - (a.length - 1) = b.length - 1 by omega, hb1, ha1]
    · rfl
    · by_cases hc : i < a.length - 1
      · rw [ci_ge (l := b) (by omega), Int.mul_zero]
      · rw [ci_ge (l := a) (by omega), Int.zero_mul]
  have h1 : ci (fmul p a b) (a.length + b.length - 1 - 1) = 1 := by
    rw [fmul_ci, show a.length + b.length - 1 - 1 = a.length - 1 + (b.length - 1) by omega, ht]
    exact Int.emod_eq_of_lt (by decide) (by omega)
  refine ⟨Nat.le_antisymm ((fmul_fp (by omega) a b).nl.le fun k hk => ?_) (Nat.le_of_not_lt fun hlt => ?_), h1⟩
  · rw [fmul_ci, p_mul_out (n := a.length) (m := b.length) (fun j hj => ci_ge hj) (fun j hj => ci_ge hj) (by omega), Int.zero_emod]
  · rw [ci_ge (by omega)] at h1
    cases h1
theorem fold_mon {p : Int} (hp : 2 ≤ p) : ∀ (fs : List (List Int)) {t : List Int}, 0 < t.length → ci t (t.length - 1) = 1 → (∀ f ∈ fs, PlL p f) → 0 < (fs.foldl (fmul p) t).length ∧ ci (fs.foldl (fmul p) t) ((fs.foldl (fmul p) t).length - 1) = 1
  | [], _, h0, h1, _ => ⟨h0, h1⟩
  | f :: r, t, h0, h1, h => by
    have hf := h f (List.mem_cons_self ..)
    obtain ⟨e1, e2⟩ := fmul_mon hp h0 h1 (show 0 < f.length by have := hf.2.1; omega) hf.2.2
    have := hf.2.1
    exact fold_mon hp r (t := fmul p t f) (by omega) (by rw [e1]; exact e2) fun g hg => h g (List.mem_cons_of_mem _ hg)
theorem prodF_mon {p : Int} (hp : 2 ≤ p) {fs : List (List Int)} (h : ∀ f ∈ fs, PlL p f) : 0 < (prodF p fs).length ∧ ci (prodF p fs) ((prodF p fs).length - 1) = 1 := fold_mon hp fs (by decide) rfl h
theorem zlift_len {l : List Int} (h : Nl l) : (zlift l).length = l.length := by
  unfold zlift
  rw [nzp_len]
  exact dg_uniq (Nat.le_refl _) (fun k h1 h2 => by omega) (h.imp id id)
theorem zlift_rd {p : Int} {l : List Int} (h : Fp p l) (hp2 : p ≤ 65521) : Rd 250 (p ^ 1) (zlift l) := by
  refine ⟨(zlift_ok (h.rl hp2)).mono (by decide), ?_⟩
  rw [Int.pow_succ, Int.pow_zero, Int.one_mul]
  unfold redP
  rw [show (fun j => cf (zlift l) j % p) = cf (zlift l) from funext fun j => by rw [zlift_cf, h.mod]]
  exact nzp_self _ _
theorem Cop.congr {p : Int} {f g f' g' : Pz} (h : Cop p f g) (hf : Cg p f f') (hg : Cg p g g') : Cop p f' g' := by
  obtain ⟨s, t, z1, z2, h⟩ := h
  exact ⟨s, t, z1, z2, ((Cg.rfl.mul hf.symm).add (Cg.rfl.mul hg.symm)).trans h⟩
theorem cop_lists {p : Int} {A B : List (List Int)} (h : ∀ a ∈ A, ∀ b ∈ B, Cop p (ci a) (ci b)) : Cop p (prZ (A.map ci)) (prZ (B.map ci)) := by
  have hA : ∀ f ∈ A.map ci, Fs f := fun f hf => by obtain ⟨a, _, rfl⟩ := List.mem_map.1 hf; exact Fs.ci a
  have hB : ∀ f ∈ B.map ci, Fs f := fun f hf => by obtain ⟨a, _, rfl⟩ := List.mem_map.1 hf; exact Fs.ci a
  refine (Cop.prZ (Fs.prZ hA) hB fun g hg => ?_).symm
  obtain ⟨b, hb, rfl⟩ := List.mem_map.1 hg
  refine (Cop.prZ (Fs.ci b) hA fun f hf => ?_).symm
  obtain ⟨a, ha, rfl⟩ := List.mem_map.1 hf
  exact h a ha b hb
theorem cop_unit {p c : Int} {g : Pz} (hp : prm p = true) (h0 : 0 < c) (h1 : c < p) : Cop p (pc c) g := by
  obtain ⟨x, e1, e2, e3, e4⟩ := M_fp_Inv_ex (fu := 3000000) hp h0 h1 (Nat.le_refl _)
  obtain ⟨p1, p2⟩ := prm_rng hp
  refine ⟨pc x, pc 0, Fs.pc _, Fs.pc _, ?_⟩
  rw [p_zero_mul, pc_pc]
  intro k
  rw [p_add, pc_zero, Int.add_zero]
  unfold pc; split
  · rw [e4]; exact (Int.emod_eq_of_lt (by decide) (by omega)).symm
  · rfl
def All2 {α β : Type} (R : α → β → Prop) : List α → List β → Prop
  | [], [] => True
  | a :: r, b :: s => R a b ∧ All2 R r s
  | _, _ => False
theorem All2.append {α β : Type} {R : α → β → Prop} : ∀ {a : List α} {b : List β} {c : List α} {d : List β}, All2 R a b → All2 R c d → All2 R (a ++ c) (b ++ d)
  | [], [], _, _, _, h => h
  | _ :: _, _ :: _, _, _, h, h' => ⟨h.1, All2.append h.2 h'⟩
theorem All2.len {α β : Type} {R : α → β → Prop} : ∀ {a : List α} {b : List β}, All2 R a b → a.length = b.length
  | [], [], _ => rfl
  | _ :: _, _ :: _, h => by rw [List.length_cons, List.length_cons, h.2.len]
structure Up (p : Int) (k : Nat) (u : List Zr) (g : List Int) : Prop where
  rd : Rd 250 (p ^ k) u
  len : u.length = g.length
  top : cf u (u.length - 1) = 1
  cg : Cg p (cf u) (ci g)
theorem last_drop {f : List Zr} (h : 0 < f.length) : f.drop (f.length - 1) = [f.getD (f.length - 1) (false, [])] := drop_last (by omega)
theorem zmod_one {p : Int} {z : Zr} (hp : 0 < p) (h0 : zv z % p ≠ 0) : zmod p [z] = [zv z % p] := by
  have hr := red_rng (a := zv z) (p := p) hp
  refine (zmod_fp hp [z]).ext (fp_one (by omega) hr.2) ((zmod_cg p [z]).trans fun k => ?_)
  rw [ci_one]
  cases k with
  | zero => show zv z % p = (zv z % p) % p; rw [Int.emod_emod]
  | succ k => rw [cf_ge (p := [z]) (by simp)]; rfl
end Go.Proofs.YtjnjfinbdfolkaaGreat
end

section
set_option linter.unusedVariables false
set_option linter.unusedSimpArgs false
namespace Go.Proofs.YtjnjfinbdfolkaaGreat
theorem tree_ex {k : Nat} {p : Int} (hp : prm p = true) (hk1 : 1 ≤ k) (hk : k ≤ 1000) : ∀ (n : Nat) {fu : Nat} {f : List Zr} {fs : List (List Int)}, fs.length = n → 1 ≤ n → n ≤ 66 → 3000002 + n ≤ fu →
    Rd 250 (p ^ k) f → 0 < f.length → f.length ≤ 66 → cf f (f.length - 1) % p ≠ 0 → (∀ g ∈ fs, PlL p g ∧ g.length ≤ 66) → fs.Pairwise (fun a b => Cop p (ci a) (ci b)) → Cg p (cf f) (pc (cf f (f.length - 1)) * prZ (fs.map ci)) →
    ∃ us, M_hensel_tree fu f fs p (k : Int) (ofI (p ^ k)) = some us ∧ All2 (Up p k) us fs ∧ Cg (p ^ k) (cf f) (pc (cf f (f.length - 1)) * prZ (us.map fun u => (cf u : Pz))) := by
  intro n
  induction n using Nat.strongRecOn with
  | _ n ih =>
  intro fu f fs hn hn1 hn2 hfu hF hfl hfb htop hfs hpw hcg
  obtain ⟨p1, p2⟩ := prm_rng hp
  obtain ⟨F, rfl⟩ : ∃ F, fu = F + 1 := ⟨fu - 1, by omega⟩
  have hf : 3000000 < F := by omega
  have hm2 := pow_ge hp hk1
  have hdp : p ∣ p ^ k := dvd_pow_self hk1
  unfold M_hensel_tree
  by_cases h1 : n = 1
  · -- one factor
    obtain ⟨g, rfl⟩ : ∃ g, fs = [g] := by
      match fs, hn with
      | [g], _ => exact ⟨g, rfl⟩
      | [], h => simp at h; omega
      | _ :: _ :: _, h => simp at h; omega
    obtain ⟨hg, hgl⟩ := hfs g (by simp)
    obtain ⟨w, u, e1, e2, e3, e4, e5, e6⟩ := M_hensel_one_ex (fu := F) hp hk1 hk hF hfl (by omega) htop (by omega)
    have hu : Cg (p ^ k) (pc (cf f (f.length - 1)) * pc u) (pc 1) := fun j => by
      rw [pc_pc, Int.mul_comm]
      unfold pc; split
      · rw [e5]; exact (Int.emod_eq_of_lt (by decide) (by omega)).symm
      · rfl
    have hback : Cg (p ^ k) (cf f) (pc (cf f (f.length - 1)) * cf w) := by
      refine Cg.symm ((Cg.rfl.mul e6).trans ?_)
      rw [← p_mul_assoc]
      exact (hu.mul Cg.rfl).trans (Cg.of (p_one_mul _))
    have hprz : ∀ x : Pz, prZ [x] = x := fun x => p_mul_one x
    have hwg : Cg p (cf w) (ci g) := by
      refine (e6.down hdp).trans ?_
      have h2 : Cg p (pc u * cf f) (pc u * (pc (cf f (f.length - 1)) * ci g)) := Cg.rfl.mul (hcg.trans (Cg.of (by show _ * prZ [ci g] = _; rw [hprz])))
      refine h2.trans ?_
      rw [← p_mul_assoc, p_mul_comm (pc u)]
      exact ((hu.down hdp).mul Cg.rfl).trans (Cg.of (p_one_mul _))
    have hwl : w.length = g.length := by
      have hgf := hg.fp (p := p) (by omega)
      refine Nat.le_antisymm (Nat.le_of_not_lt fun hlt => ?_) (Nat.le_of_not_lt fun hlt => ?_)
      · have h2 := hwg (w.length - 1)
        rw [e4, ci_ge (by omega), Int.zero_emod, Int.emod_eq_of_lt (by decide) (by omega)] at h2
        cases h2
      · have h2 := hwg (g.length - 1)
        rw [hg.2.2, cf_ge (by omega), Int.zero_emod, Int.emod_eq_of_lt (by decide) (by omega)] at h2
        cases h2
    rw [if_pos (by simp), bd_t e1]
    refine ⟨[w], rfl, ⟨⟨e2, hwl, e4, hwg⟩, trivial⟩, ?_⟩
    show Cg _ _ (_ * prZ [(cf w : Pz)])
    rw [hprz]
    exact hback
  · -- two halves
    obtain ⟨hf', hhf⟩ : ∃ h, h = n / 2 := ⟨_, rfl⟩
    obtain ⟨c, hc⟩ : ∃ c, c = cf f (f.length - 1) := ⟨_, rfl⟩
    have hfsl : fs.length ≤ 66 := by omega
    have happ : fs = fs.take hf' ++ fs.drop hf' := (List.take_append_drop hf' fs).symm
    have hAl : (fs.take hf').length = hf' := by rw [List.length_take]; omega
    have hBl : (fs.drop hf').length = n - hf' := by rw [List.length_drop]; omega
    have hAm : ∀ g ∈ fs.take hf', PlL p g ∧ g.length ≤ 66 := fun g hg => hfs g (List.mem_of_mem_take hg)
    have hBm : ∀ g ∈ fs.drop hf', PlL p g ∧ g.length ≤ 66 := fun g hg => hfs g (List.mem_of_mem_drop hg)
    rw [happ] at hpw hcg
    obtain ⟨pwA, pwB, pwAB⟩ := List.pairwise_append.1 hpw
    rw [List.map_append, prZ_append, ← hc] at hcg
    have hcr := red_rng (a := c) (p := p) (by omega)
    rw [← hc] at htop
    have htF : ∀ g ∈ fs.take hf', Fp p g := fun g hg => (hAm g hg).1.fp (by omega)
    have htG : ∀ g ∈ fs.drop hf', Fp p g := fun g hg => (hBm g hg).1.fp (by omega)
    have prodA := prodF_cg p (fs.take hf')
    have prodB := prodF_cg p (fs.drop hf')
    have monB := prodF_mon (p := p) p1 (fs := fs.drop hf') fun g hg => (hBm g hg).1
    have lenA := prodF_le (p := p) (fs := fs.take hf') (M := 66) fun g hg => (hAm g hg).2
    have lenB := prodF_le (p := p) (fs := fs.drop hf') (M := 66) fun g hg => (hBm g hg).2
    have b1 : (fs.take hf').length * 66 ≤ 66 * 66 := Nat.mul_le_mul_right _ (by omega)
    have b2 : (fs.drop hf').length * 66 ≤ 66 * 66 := Nat.mul_le_mul_right _ (by omega)
    -- the two factors modulo p
    have hone := fp_one (p := p) (x := c % p) (by omega) hcr.2
    obtain ⟨g0, hg0⟩ : ∃ g0, g0 = fmul p (prodF p (fs.take hf')) [c % p] := ⟨_, rfl⟩
    obtain ⟨h0, hh0⟩ : ∃ h0, h0 = prodF p (fs.drop hf') := ⟨_, rfl⟩
    have hg0F : Fp p g0 := by rw [hg0]; exact fmul_fp (by omega) _ _
    have hh0F : Fp p h0 := by rw [hh0]; exact prodF_fp p1 _
    have hccg : Cg p (pc (c % p)) (pc c) := fun j => by unfold pc; split; exact Int.emod_emod _ _; rfl
    have hg0c : Cg p (ci g0) (prZ ((fs.take hf').map ci) * pc c) := by
      rw [hg0]
      refine (fmul_cg p _ _).trans ?_
      rw [ci_one]
      exact prodA.mul hccg
    have hh0c : Cg p (ci h0) (prZ ((fs.drop hf').map ci)) := by rw [hh0]; exact prodB
    rw [← hh0] at monB
    have hfac : Cg p (cf f) (ci g0 * ci h0) := by
      refine hcg.trans (Cg.trans (Cg.of ?_) (hg0c.mul hh0c).symm)
      simp only [p_mul_assoc, p_mul_comm, p_mul_left_comm]
    have hcop : Cop p (ci g0) (ci h0) := by
      refine Cop.congr (Cop.mul (Fs.pc _) (Fs.prZ fun x hx => by obtain ⟨a, _, rfl⟩ := List.mem_map.1 hx; exact Fs.ci a) (Fs.prZ fun x hx => by obtain ⟨a, _, rfl⟩ := List.mem_map.1 hx; exact Fs.ci a) (cop_lists pwAB) (cop_unit hp (show 0 < c % p by omega) hcr.2)) ?_ hh0c.symm
      exact (Cg.rfl.mul hccg).trans hg0c.symm
    have hp11 : p ^ 1 = p := by rw [Int.pow_succ, Int.pow_zero, Int.one_mul]
    have rg := zlift_rd hg0F p2
    have rh := zlift_rd hh0F p2
    have lz : (zlift h0).length = h0.length := zlift_len hh0F.nl
    have lzg : (zlift g0).length = g0.length := zlift_len hg0F.nl
    have htz : cf (zlift h0) ((zlift h0).length - 1) = 1 := by rw [lz, zlift_cf]; exact monB.2
    have hrl : (redP f p).length = f.length := by
      have := red_top (k := k) (i := 1) (p := p) (f := f) (Nat.le_refl _) (by rw [← hc]; exact htop) hfl
      rw [hp11] at this
      exact this
    obtain ⟨d1, d2, d3⟩ := fac_deg (m := p) (f := redP f p) (g := zlift g0) (h := zlift h0) p1 (by have := rg.rd; rw [hp11] at this; exact this) (redP_ext fun j => by rw [redP_cf, Int.emod_emod]) (by omega) (by omega) htz ((redP_cg f p).trans (by rw [zlift_cf, zlift_cf]; exact hfac))
    rw [hrl, lz, lzg] at d1
    rw [lzg] at d2
    obtain ⟨d, s, t, z1, zR, z3⟩ := M_fpoly_Bezout_ex (fu := F) hp hg0F hh0F (by omega) (by omega) (by omega)
    have hbez := bez_one p1 zR z3 hcop
    have hNb : max g0.length h0.length * (max g0.length h0.length + 1) ≤ 66 * 67 := Nat.mul_le_mul (by omega) (by omega)
    have hsl := zR.sl
    have htl := zR.tl
    have rs := zlift_rd zR.sf p2
    have rt := zlift_rd zR.tf p2
    have hI : TrI p k f (zlift g0) (zlift h0) h0.length 4430 1 (zlift g0) (zlift h0) (zlift s) (zlift t) := by
      refine ⟨Nat.le_refl _, hk1, rg, rh, rs, rt, lz, by rw [← lz]; exact htz, ?_, ?_, Cg.rfl, Cg.rfl, by have := zlift_le s; omega⟩
      · rw [hp11, zlift_cf, zlift_cf]; exact hfac
      · rw [hp11, zlift_cf, zlift_cf, zlift_cf, zlift_cf]; exact hbez
    obtain ⟨G, H, S, T, l1, l2⟩ := tree_loop (fu := F) hI hp hk hF.ok (by rw [← hc]; exact htop) hfl (by omega) (by omega) (by decide) (by omega) hf
    obtain ⟨m1, m2, m3, m4⟩ := l2.lens hp (by rw [← hc]; exact htop) hfl (by omega)
    have hcm : c % p ^ k = c := by have := hF.mod (f.length - 1); rw [← hc] at this; exact this
    rw [← hc, hcm] at m3
    have hHl := l2.hl
    have hH1 := l2.h1
    rw [← hHl] at hH1
    have hGc : Cg p (cf G) (pc c * prZ ((fs.take hf').map ci)) := by
      refine l2.gp.trans ?_
      rw [zlift_cf, p_mul_comm]
      exact hg0c
    have hHc : Cg p (cf H) (pc 1 * prZ ((fs.drop hf').map ci)) := by
      refine l2.hp.trans ?_
      rw [zlift_cf, p_one_mul]
      exact hh0c
    obtain ⟨us, u1, u2, u3⟩ := ih hf' (by omega) (fu := F) (f := G) (fs := fs.take hf') hAl (by omega) (by omega) (by omega) l2.rG m2 (by omega) (by rw [m3]; exact htop) hAm pwA (by rw [m3]; exact hGc)
    obtain ⟨vs, v1, v2, v3⟩ := ih (n - hf') (by omega) (fu := F) (f := H) (fs := fs.drop hf') hBl (by omega) (by omega) (by omega) l2.rH (by omega) (by omega) (by rw [hH1, Int.emod_eq_of_lt (by decide) (by omega)]; decide) hBm pwB (by rw [hH1]; exact hHc)
    rw [m3] at u3
    rw [hH1] at v3
    have hul := u2.len
    have hvl := v2.len
    refine ⟨us ++ vs, ?_, by rw [happ]; exact u2.append v2, ?_⟩
    · have ez : [f.getD (f.length - 1) (false, [])].length = 1 := rfl
      have hOk1 : OkP 250 [f.getD (f.length - 1) (false, [])] := fun z hz => by
        obtain rfl := List.mem_singleton.1 hz
        exact hF.ok.get _
      have hzm : zmod p [f.getD (f.length - 1) (false, [])] = [c % p] := by
        rw [hc]
        exact zmod_one (by omega) (by rw [cf_d, ← hc]; exact htop)
      have hfm := fmul_le p (prodF p (fs.take hf')) [c % p]
      simp only [List.length_cons, List.length_nil] at hfm
      have ex1 : Int.tdiv ((fs.length : Nat) : Int) 2 = (hf' : Int) := by rw [hn, hhf]; rfl
      rw [if_neg (by omega), ck_t (by decide), ex1, ck64_t ⟨by omega, by omega⟩, show ((f.length : Nat) : Int) - 1 = ((f.length - 1 : Nat) : Int) by omega, ck64_t ⟨by omega, by omega⟩, ckN_n, ck_t (by omega), nm_t, last_drop hfl, bd_t (M_zpoly_Mod_eq hOk1 (by decide) (by omega) p2 (by simp) (by omega)), hzm]
      simp only []
      rw [ckN_n, ck_t (by omega), nm_t, bd_t (M_hensel_product_eq hp htF (fun g hg => (hAm g hg).2) (by omega) (by decide) (by omega) (by omega)), bd_t (M_fpoly_Mul_eq hp (prodF_fp p1 _) hone (by omega) (by simp) (by omega)), ← hg0]
      simp only []
      rw [ckN_n, ck_t (by omega), nm_t, bd_t (M_hensel_product_eq hp htG (fun g hg => (hBm g hg).2) (by omega) (by decide) (by omega) (by omega)), ← hh0, bd_t z1]
      simp only []
      rw [bd_t (M_zpoly_Lift_eq (hg0F.rl p2) (by omega) (by omega)), bd_t (M_zpoly_Lift_eq (hh0F.rl p2) (by omega) (by omega)), bd_t (M_zpoly_Lift_eq (zR.sf.rl p2) (by omega) (by omega)), bd_t (M_zpoly_Lift_eq (zR.tf.rl p2) (by omega) (by omega)), bd_t l1]
      rw [ckI_t (i := 0) (by decide), ckN_n, ck_t (by omega), nm_t, show [G, H, S, T].getD (Int.toNat 0) [] = G from rfl, bd_t u1, ckI_t (i := 1) (by decide), ckN_n, ck_t (by omega), nm_t, show [G, H, S, T].getD (Int.toNat 1) [] = H from rfl, bd_t v1, ck_t (by omega), nm_t]
    · rw [← hc, List.map_append, prZ_append]
      refine l2.fac.trans ((u3.mul v3).trans (Cg.of ?_))
      rw [p_one_mul, p_mul_assoc]
end Go.Proofs.YtjnjfinbdfolkaaGreat
end

section
set_option linter.unusedVariables false
set_option linter.unusedSimpArgs false
namespace Go.Proofs.YtjnjfinbdfolkaaGreat
def nrm (a : List Zr) : List Zr := nzp a.length (cf a)
theorem nrm_cf (a : List Zr) (k : Nat) : cf (nrm a) k = cf a k := nzp_cf (fun j hj => cf_ge hj) k
theorem nrm_len (a : List Zr) : (nrm a).length ≤ a.length := by unfold nrm; rw [nzp_len]; exact dg_le _ _
theorem nrm_ok {k : Nat} {a : List Zr} (h : OkP k a) : OkP k (nrm a) := OkP_nzp h.bz
structure LiftP (p : Int) (k : Nat) (a : List Zr) (fs : List (List Int)) (us : List (List Zr)) : Prop where
  hp : prm p = true
  k1 : 1 ≤ k
  k2 : k ≤ 1000
  rt : RightP p (nrm a) fs
  up : All2 (Up p k) us fs
  cg : fs ≠ [] → Cg (p ^ k) (cf a) (pc (cf (nrm a) ((nrm a).length - 1)) * prZ (us.map fun u => (cf u : Pz)))
theorem RightP.mem {p : Int} {a : List Zr} {fs : List (List Int)} (h : RightP p a fs) : ∀ g ∈ fs, PlL p g ∧ g.length ≤ a.length := fun g hg => by
  obtain ⟨j, hj, rfl⟩ := List.mem_iff_getElem.1 hg
  have := h.pl j hj
  rw [List.getD_eq_getElem?_getD, List.getElem?_eq_getElem hj] at this
  exact ⟨this.2, this.1⟩
theorem RightP.pw {p : Int} {a : List Zr} {fs : List (List Int)} (h : RightP p a fs) : fs.Pairwise (fun a b => Cop p (ci a) (ci b)) := by
  refine List.pairwise_iff_getElem.2 fun i j hi hj hij => ?_
  have := h.cp j i hj hij
  rw [List.getD_eq_getElem?_getD, List.getD_eq_getElem?_getD, List.getElem?_eq_getElem hi, List.getElem?_eq_getElem hj] at this
  exact this.symm
theorem M_hensel_Lift_ex {fu : Nat} {p k : Int} {a : List Zr} {fs : List (List Int)} (ha : OkP 250 a) (hal : a.length ≤ 1000) (hf : 3000200 ≤ fu) :
    ∃ us e, M_hensel_Lift fu a fs p k = some (us, e) ∧ (e = 0 → LiftP p k.toNat a fs us ∧ 1 ≤ k) ∧ (e ≠ 0 → (powR p k).2 = 0 ∨ e = 1) := by
  unfold M_hensel_Lift
  have hnl := nrm_len a
  have hno := nrm_ok ha
  rw [bd_t (M_hensel_Power_eq (by omega))]
  by_cases hP : prm p = true ∧ 1 ≤ k ∧ k ≤ 1000
  · obtain ⟨hp, h1, h2⟩ := hP
    obtain ⟨K, rfl⟩ := Int.eq_ofNat_of_zero_le (show 0 ≤ k by omega)
    have hpow : powR p (K : Int) = (ofI (p ^ K), 0) := by
      unfold powR
      rw [if_pos ⟨hp, h1, h2⟩, Int.toNat_natCast]
    rw [hpow]
    simp only []
    rw [bd_t (M_zpoly_Norm_eq ha (by decide) (by omega) (by omega)), if_pos trivial, show nzp a.length (cf a) = nrm a from rfl]
    by_cases h65 : 65 < (nrm a).length
    · rw [if_pos (by omega)]
      exact ⟨_, _, rfl, fun e => absurd e (by decide), fun _ => .inl trivial⟩
    · rw [if_neg (by omega)]
      obtain ⟨b, b1, b2⟩ := M_hensel_right_ex (fu := fu) (fs := fs) hp hno (by decide) (by omega) (by omega)
      rw [bd_t b1]
      cases b with
      | false =>
        rw [if_pos (by decide)]
        exact ⟨_, _, rfl, fun e => absurd e (by decide), fun _ => .inl trivial⟩
      | true =>
        have hR := b2 rfl
        rw [if_neg (by decide)]
        by_cases h0 : fs.length = 0
        · obtain rfl : fs = [] := List.length_eq_zero_iff.1 h0
          rw [if_pos (show ((([] : List (List Int)).length : Nat) : Int) = 0 from rfl)]
          exact ⟨_, _, rfl, fun _ => ⟨⟨hp, by omega, by omega, hR, trivial, fun e => absurd rfl e⟩, h1⟩, fun e => absurd rfl e⟩
        · rw [if_neg (by omega)]
          obtain ⟨p1, p2⟩ := prm_rng hp
          have hmB := pow_bz hp (k := K) (by omega)
          have hm2 := pow_ge hp (k := K) (by omega)
          have hmS : OkS (ofI (p ^ K)) := hmB.okS (by decide)
          obtain ⟨f, hfe⟩ : ∃ f, f = redP (nrm a) (p ^ K) := ⟨_, rfl⟩
          have hal0 := hR.a0
          -- what leads does not vanish modulo p
          have htop : cf (nrm a) ((nrm a).length - 1) % p ≠ 0 := by
            have h3 := (zmod_fp (p := p) (by omega) (nrm a)).nl
            unfold Nl at h3
            rw [hR.al] at h3
            rcases h3 with h3 | h3
            · exact absurd h3 hal0
            · rw [zmod_ci] at h3; exact h3
          have hfl : f.length = (nrm a).length := by rw [hfe]; exact red_top (k := K) (by omega) htop (by omega)
          have hft : cf f (f.length - 1) = cf (nrm a) ((nrm a).length - 1) % p ^ K := by rw [hfl, hfe, redP_cf]
          have hdp : p ∣ p ^ K := dvd_pow_self (by omega)
          have hftop : cf f (f.length - 1) % p ≠ 0 := by rw [hft, Int.emod_emod_of_dvd _ hdp]; exact htop
          have hcg1 : Cg p (cf f) (pc (cf f (f.length - 1)) * prZ (fs.map ci)) := by
            have e1 : Cg p (cf f) (cf (nrm a)) := by rw [hfe]; exact (redP_cg _ _).down hdp
            refine e1.trans ((zmod_cg p (nrm a)).symm.trans ?_)
            rw [← hR.pr]
            refine (fmul_cg p _ _).trans ?_
            rw [ci_one, p_mul_comm]
            refine Cg.mul (fun j => ?_) (prodF_cg p fs)
            rw [zmod_ci, hft]
            unfold pc; split
            · rw [Int.emod_emod_of_dvd _ hdp, Int.emod_emod]
            · rfl
          obtain ⟨us, u1, u2, u3⟩ := tree_ex (k := K) hp (by omega) (by omega) fs.length (fu := fu) (f := f) (fs := fs) rfl (by omega) (by have := hR.fl; omega) (by have := hR.fl; omega) (by rw [hfe]; exact redP_rd hmB (by omega) _) (by omega) (by omega) hftop (fun g hg => ⟨(hR.mem g hg).1, by have := (hR.mem g hg).2; omega⟩) hR.pw hcg1
          rw [bd_t (red_low hno (by decide) hmS (by rw [zv_ofI]; omega) (by omega) (by omega)), zv_ofI, ← hfe, bd_t u1]
          refine ⟨_, _, rfl, fun _ => ⟨⟨hp, by omega, by omega, hR, u2, fun _ => ?_⟩, h1⟩, fun e => absurd rfl e⟩
          rw [Int.toNat_natCast]
          have e1 : Cg (p ^ K) (cf a) (cf f) := by
            rw [hfe]
            exact Cg.trans (Cg.of (funext fun j => (nrm_cf a j).symm)) (redP_cg _ _).symm
          refine e1.trans (u3.trans (Cg.mul (fun j => ?_) Cg.rfl))
          rw [hft]
          unfold pc; split
          · rw [Int.emod_emod]
          · rfl
  · have hpow : powR p k = ((false, []), 1) := by unfold powR; rw [if_neg hP]
    rw [hpow]
    simp only []
    rw [bd_t (M_zpoly_Norm_eq ha (by decide) (by omega) (by omega)), if_neg (by decide)]
    exact ⟨_, _, rfl, fun e => absurd e (by decide), fun _ => .inr rfl⟩
theorem few_ex {fu : Nat} {fs : List (List Int)} (hf : 3000000 ≤ fu) : ∃ b, M_law13_few fu fs = some b ∧ (b = true → fs.length ≤ 12) := by
  unfold M_law13_few
  by_cases h : 12 < fs.length
  · rw [if_pos (by omega)]
    exact ⟨_, rfl, fun e => absurd e (by decide)⟩
  · rw [if_neg (by omega)]
    obtain ⟨r, e1, _⟩ := loop_ex (f := B_law13_few_0 fu fs) (fun i : Int => ∃ j : Nat, i = (j : Int) ∧ j ≤ fs.length) (fun i => fs.length - i.toNat) (fun _ => True) (by
      rintro i L ⟨j, rfl, hj⟩ ih
      unfold B_law13_few_0
      by_cases h1 : j < fs.length
      · rw [if_pos (by omega), ckI_n h1, nm_t]
        split
        · exact ⟨_, rfl, trivial⟩
        · rw [ck64_t ⟨by omega, by omega⟩]
          exact ih _ ⟨j + 1, rfl, by omega⟩ (by omega)
      · rw [if_neg (by omega)]
        exact ⟨_, rfl, trivial⟩) fu 0 ⟨0, rfl, Nat.zero_le _⟩ (by show fs.length - 0 < fu; omega)
    rw [bd_t e1]
    rcases r with r | r
    · exact ⟨_, rfl, fun _ => by omega⟩
    · exact ⟨_, rfl, fun e => absurd e (by decide)⟩
end Go.Proofs.YtjnjfinbdfolkaaGreat
end

section
set_option linter.unusedVariables false
set_option linter.unusedSimpArgs false
namespace Go.Proofs.YtjnjfinbdfolkaaGreat
def Mn (A : Pz) (d : Nat) : Prop := A d = 1 ∧ ∀ k, d < k → A k = 0
theorem Mn.top {A x : Pz} {d n : Nat} (h : Mn A d) (hx : ∀ k, n < k → x k = 0) : (x * A) (n + d) = x n := by
  rw [p_mul, sumN_single (i := n) fun i hi => ?_, if_pos (by omega), show n + d - n = d by omega, h.1, Int.mul_one]
  by_cases hc : i < n
  · rw [h.2 _ (by omega), Int.mul_zero]
  · rw [hx i (by omega), Int.zero_mul]
theorem Mn.zero {p : Int} (hp : 2 ≤ p) {A x : Pz} {d : Nat} (h : Mn A d) (hx : Fs x) (hz : ∀ k, d ≤ k → (x * A) k % p = 0) : Cg p x (pc 0) := by
  obtain ⟨n, hn⟩ := hx
  have key : ∀ c, c ≤ n → ∀ k, n - c ≤ k → x k % p = 0 := by
    intro c
    induction c with
    | zero => intro _ k hk; rw [hn k (by omega), Int.zero_emod]
    | succ c ih =>
      intro hc k hk
      by_cases h1 : n - c ≤ k
      · exact ih (by omega) k h1
      · obtain rfl : k = n - (c + 1) := by omega
        -- what is above is nought modulo p
        have e : Cg p x (fun i => if i ≤ n - (c + 1) then x i else 0) := fun i => by
          by_cases hi : i ≤ n - (c + 1)
          · show _ = (if i ≤ n - (c + 1) then x i else 0) % p
            rw [if_pos hi]
          · show _ = (if i ≤ n - (c + 1) then x i else 0) % p
            rw [if_neg hi, Int.zero_emod]
            exact ih (by omega) i (by omega)
        have h2 := (e.mul (Cg.rfl (f := A))) (n - (c + 1) + d)
        rw [hz _ (by omega), h.top (fun i hi => if_neg (by omega))] at h2
        rw [if_pos (Nat.le_refl _)] at h2
        exact h2.symm
  intro k
  rw [pc_zero, Int.zero_emod]
  by_cases hk : k < n
  · exact key n (Nat.le_refl _) k (by omega)
  · rw [hn k (by omega), Int.zero_emod]
theorem int_cop_dvd {k m n : Int} (h : Int.gcd k m = 1) (hd : k ∣ m * n) : k ∣ n :=
  Int.natAbs_dvd_natAbs.1 (Nat.Coprime.dvd_of_dvd_mul_left (k := k.natAbs) (m := m.natAbs) h (by rw [← Int.natAbs_mul]; exact Int.natAbs_dvd_natAbs.2 hd))
def pdv (n : Int) (f : Pz) : Pz := fun k => f k / n
theorem pdv_eq {n : Int} {f : Pz} (h : Cg n f (pc 0)) : pc n * pdv n f = f := by
  funext k
  rw [pc_mul]
  exact Int.mul_ediv_cancel' (h.dvd k)
theorem pdv_fs {n : Int} {f : Pz} (h : Fs f) : Fs (pdv n f) := by
  obtain ⟨c, hc⟩ := h
  exact ⟨c, fun k hk => by show f k / n = 0; rw [hc k hk, Int.zero_ediv]⟩
theorem Fs.subt {f g : Pz} (hf : Fs f) (hg : Fs g) : Fs (f - g) := by
  obtain ⟨a, ha⟩ := hf
  obtain ⟨b, hb⟩ := hg
  exact ⟨a + b, fun k hk => by rw [p_sub, ha k (by omega), hb k (by omega)]; rfl⟩
theorem uniq_step {p n : Int} (hp : 2 ≤ p) (hn : n ≠ 0) (hpn : p ∣ n) {A B A' B' : Pz} {d : Nat} (hA : Mn A d) (hA' : Mn A' d) (fA : Fs A) (fA' : Fs A') (fB : Fs B) (fB' : Fs B') (hc : Cop p A B) (h1 : Cg n A A') (h2 : Cg n B B') (h : Cg (n * p) (A * B) (A' * B')) :
    Cg (n * p) A A' ∧ Cg (n * p) B B' := by
  obtain ⟨a, ha⟩ : ∃ a, a = pdv n (A' - A) := ⟨_, rfl⟩
  obtain ⟨b, hb⟩ : ∃ b, b = pdv n (B' - B) := ⟨_, rfl⟩
  have ea : pc n * a = A' - A := by rw [ha]; exact pdv_eq (Cg.iff_sub.1 h1.symm)
  have eb : pc n * b = B' - B := by rw [hb]; exact pdv_eq (Cg.iff_sub.1 h2.symm)
  have fa : Fs a := by rw [ha]; exact pdv_fs (fA'.subt fA)
  have fb : Fs b := by rw [hb]; exact pdv_fs (fB'.subt fB)
  have ak : ∀ k, A' k = A k + n * a k := fun k => by
    have := congrFun ea k
    rw [pc_mul, p_sub] at this; omega
  have bk : ∀ k, B' k = B k + n * b k := fun k => by
    have := congrFun eb k
    rw [pc_mul, p_sub] at this; omega
  have hA2 : A' = A + pc n * a := funext fun k => by rw [p_add, pc_mul, ak]
  have hB2 : B' = B + pc n * b := funext fun k => by rw [p_add, pc_mul, bk]
  -- the first difference times one, the other times the other
  have hz : Cg p (a * B + b * A) (pc 0) := by
    refine Cg.of_dvd fun k => ?_
    have e : A' * B' - A * B = pc n * (a * B + b * A + pc n * (a * b)) := by
      rw [hA2, hB2]
      simp only [p_mul_add, p_add_mul, p_mul_assoc, p_mul_left_comm, p_mul_comm]
      funext k
      simp only [p_add, p_sub]
      omega
    have hd := (Cg.iff_sub.1 h.symm).dvd k
    rw [e, pc_mul] at hd
    have hd2 : p ∣ (a * B + b * A + pc n * (a * b)) k := (Int.mul_dvd_mul_iff_left hn).1 hd
    rw [p_add, pc_mul] at hd2
    exact (Int.dvd_add_left (Int.dvd_trans hpn (Int.dvd_mul_right _ _))).1 hd2
  obtain ⟨s, t, fs, ft, hst⟩ := hc
  have ha0 : ∀ k, d ≤ k → a k = 0 := fun k hk => by
    have e : A' k = A k := by
      by_cases h3 : k = d
      · rw [h3, hA.1, hA'.1]
      · rw [hA.2 k (by omega), hA'.2 k (by omega)]
    have := ak k
    have h4 : n * a k = 0 := by omega
    exact (Int.mul_eq_zero.1 h4).resolve_left hn
  have hax : Cg p a ((s * a - t * b) * A) := by
    have e1 : Cg p a (a * (s * A + t * B)) := by
      have := (Cg.rfl (m := p) (f := a)).mul hst.symm
      rw [p_mul_one] at this
      exact this
    refine e1.trans (Cg.iff_sub.2 ?_)
    have e : a * (s * A + t * B) - (s * a - t * b) * A = t * (a * B + b * A) := by
      simp only [p_mul_add, p_add_mul, p_mul_sub, p_sub_mul, p_mul_assoc, p_mul_left_comm, p_mul_comm]
      funext k
      simp only [p_add, p_sub]
      omega
    rw [e]
    exact hz.mul_zero_l t
  have hx0 := hA.zero hp ((fs.mul fa).subt (ft.mul fb)) fun k hk => by rw [← hax k, ha0 k hk, Int.zero_emod]
  have haz : Cg p a (pc 0) := hax.trans (hx0.mul_zero_r A)
  have hbA : Cg p (b * A) (pc 0) := by
    have e : b * A = a * B + b * A - a * B := by
      funext k
      simp only [p_add, p_sub]; omega
    rw [e]
    exact hz.zero_sub (haz.mul_zero_r B)
  have hbz : Cg p b (pc 0) := hA.zero hp fb fun k _ => by rw [hbA k, pc_zero, Int.zero_emod]
  refine ⟨Cg.symm (Cg.iff_sub.2 (Cg.of_dvd fun k => ?_)), Cg.symm (Cg.iff_sub.2 (Cg.of_dvd fun k => ?_))⟩
  · rw [← ea, pc_mul]; exact Int.mul_dvd_mul_left n (haz.dvd k)
  · rw [← eb, pc_mul]; exact Int.mul_dvd_mul_left n (hbz.dvd k)
theorem uniq_two {p : Int} (hp : 2 ≤ p) {A B A' B' : Pz} {d : Nat} (hA : Mn A d) (hA' : Mn A' d) (fA : Fs A) (fA' : Fs A') (fB : Fs B) (fB' : Fs B') (hc : Cop p A B) (h1 : Cg p A A') (h2 : Cg p B B') : ∀ j, Cg (p ^ j) (A * B) (A' * B') → Cg (p ^ j) A A' ∧ Cg (p ^ j) B B'
  | 0, _ => ⟨fun k => by rw [Int.pow_zero, Int.emod_one, Int.emod_one], fun k => by rw [Int.pow_zero, Int.emod_one, Int.emod_one]⟩
  | 1, _ => by
    rw [Int.pow_succ, Int.pow_zero, Int.one_mul]
    exact ⟨h1, h2⟩
  | j + 2, h => by
    obtain ⟨g1, g2⟩ := uniq_two hp hA hA' fA fA' fB fB' hc h1 h2 (j + 1) (h.down (pow_dvd (by omega)))
    rw [Int.pow_succ] at h ⊢
    exact uniq_step hp (Int.ne_of_gt (Int.pow_pos (by omega))) (dvd_pow_self (by omega)) hA hA' fA fA' fB fB' hc g1 g2 h
theorem fs_prs (us : List (List Zr)) : Fs (prZ (us.map fun u => (cf u : Pz))) := Fs.prZ fun x hx => by
  obtain ⟨u, _, rfl⟩ := List.mem_map.1 hx
  exact Fs.cf u
theorem Up.mn {p : Int} {k : Nat} {u : List Zr} {g : List Int} (h : Up p k u g) (hg : PlL p g) : Mn (cf u) (g.length - 1) := by
  have h1 := h.top
  have h2 := hg.2.1
  rw [h.len] at h1
  exact ⟨h1, fun j hj => cf_ge (by rw [h.len]; omega)⟩
theorem up_prs {p : Int} {k : Nat} : ∀ {us : List (List Zr)} {fs : List (List Int)}, All2 (Up p k) us fs → Cg p (prZ (us.map fun u => (cf u : Pz))) (prZ (fs.map ci))
  | [], [], _ => Cg.rfl
  | _ :: _, _ :: _, h => h.1.cg.mul (up_prs h.2)
theorem uniq_list {p : Int} (hp : 2 ≤ p) {K J j : Nat} : ∀ {us vs : List (List Zr)} {fs : List (List Int)}, All2 (Up p K) us fs → All2 (Up p J) vs fs → (∀ g ∈ fs, PlL p g) → fs.Pairwise (fun a b => Cop p (ci a) (ci b)) →
    Cg (p ^ j) (prZ (us.map fun u => (cf u : Pz))) (prZ (vs.map fun u => (cf u : Pz))) → All2 (fun u v => Cg (p ^ j) (cf u) (cf v)) us vs
  | [], [], [], _, _, _, _, _ => trivial
  | [], _ :: _, [], _, h, _, _, _ => absurd h id
  | [], _, _ :: _, h, _, _, _, _ => absurd h id
  | _ :: _, _, [], h, _, _, _, _ => absurd h id
  | _ :: _, [], _ :: _, _, h, _, _, _ => absurd h id
  | u :: us, v :: vs, g :: fs, h1, h2, hpl, hpw, hc => by
    have hg := hpl g (List.mem_cons_self ..)
    obtain ⟨w1, w2⟩ := List.pairwise_cons.1 hpw
    have hcop : Cop p (cf u) (prZ (us.map fun u => (cf u : Pz))) := by
      have := cop_lists (p := p) (A := [g]) (B := fs) fun a ha b hb => by
        obtain rfl := List.mem_singleton.1 ha
        exact w1 b hb
      refine this.congr ?_ (up_prs h1.2).symm
      show Cg p (ci g * pc 1) (cf u)
      rw [p_mul_one]
      exact h1.1.cg.symm
    obtain ⟨e1, e2⟩ := uniq_two hp (h1.1.mn hg) (h2.1.mn hg) (Fs.cf u) (Fs.cf v) (fs_prs us) (fs_prs vs) hcop (h1.1.cg.trans h2.1.cg.symm) ((up_prs h1.2).trans (up_prs h2.2).symm) j hc
    exact ⟨e1, uniq_list hp h1.2 h2.2 (fun x hx => hpl x (List.mem_cons_of_mem _ hx)) w2 e2⟩
theorem unit_cancel {p c : Int} (hp : prm p = true) (hc : c % p ≠ 0) {j : Nat} {f g : Pz} (h : Cg (p ^ j) (pc c * f) (pc c * g)) : Cg (p ^ j) f g := by
  obtain ⟨p1, p2⟩ := prm_rng hp
  refine Cg.iff_sub.2 (Cg.of_dvd fun k => ?_)
  have hd := (Cg.iff_sub.1 h).dvd k
  rw [p_sub, pc_mul, pc_mul, ← Int.mul_sub] at hd
  rw [p_sub]
  have hr := red_rng (a := c) (p := p ^ j) (Int.pow_pos (by omega))
  by_cases hj : j = 0
  · rw [hj, Int.pow_zero]; exact Int.one_dvd _
  have hdp : p ∣ p ^ j := dvd_pow_self (by omega)
  have hcop := cop_pow (c := c % p ^ j) (k := j) hp (by rw [Int.emod_emod_of_dvd _ hdp]; exact hc) hr.1
  have hd2 : p ^ j ∣ (c % p ^ j) * (f k - g k) := by
    have e : c * (f k - g k) = (c % p ^ j) * (f k - g k) + p ^ j * (c / p ^ j * (f k - g k)) := by
      rw [← Int.mul_assoc, ← Int.add_mul, Int.emod_add_mul_ediv]
    rw [e] at hd
    exact (Int.dvd_add_left (Int.dvd_mul_right _ _)).1 hd
  refine int_cop_dvd ?_ hd2
  rw [Int.gcd_comm]
  have h3 : Int.gcd (c % p ^ j) (p ^ j) = Nat.gcd (c % p ^ j).toNat (p ^ j).toNat := by
    show Nat.gcd _ _ = _
    congr 1 <;> omega
  rw [h3, hcop]
end Go.Proofs.YtjnjfinbdfolkaaGreat
end

section
set_option linter.unusedVariables false
set_option linter.unusedSimpArgs false
namespace Go.Proofs.YtjnjfinbdfolkaaGreat
theorem RightP.top {p : Int} {a : List Zr} {fs : List (List Int)} (hp : prm p = true) (h : RightP p a fs) : cf a (a.length - 1) % p ≠ 0 := by
  obtain ⟨p1, p2⟩ := prm_rng hp
  have h3 := (zmod_fp (p := p) (by omega) a).nl
  unfold Nl at h3
  rw [h.al] at h3
  rcases h3 with h3 | h3
  · exact absurd h3 h.a0
  · rw [zmod_ci] at h3; exact h3
theorem all2_red {p : Int} {j : Nat} : ∀ {us vs : List (List Zr)} {fs : List (List Int)}, All2 (fun u v => Cg (p ^ j) (cf u) (cf v)) us vs → All2 (Up p j) vs fs → All2 (fun u v => redP u (p ^ j) = v) us vs
  | [], [], [], _, _ => trivial
  | u :: us, v :: vs, g :: fs, h1, h2 => ⟨by rw [← h2.1.rd.rd]; exact redP_ext h1.1, all2_red h1.2 h2.2⟩
theorem lift_down {p : Int} {k j : Nat} {a : List Zr} {fs : List (List Int)} {us vs : List (List Zr)} (hu : LiftP p k a fs us) (hv : LiftP p j a fs vs) (hjk : j ≤ k) : All2 (fun u v => redP u (p ^ j) = v) us vs := by
  obtain ⟨p1, p2⟩ := prm_rng hu.hp
  by_cases h0 : fs = []
  · have h1 := hu.up
    have h2 := hv.up
    subst h0
    obtain rfl : us = [] := List.length_eq_zero_iff.1 h1.len
    obtain rfl : vs = [] := List.length_eq_zero_iff.1 h2.len
    trivial
  · have h1 := (hu.cg h0).down (pow_dvd (p := p) hjk)
    have h2 := hv.cg h0
    have h3 := unit_cancel hu.hp (hu.rt.top hu.hp) (h1.symm.trans h2)
    exact all2_red (uniq_list p1 hu.up hv.up (fun g hg => (hu.rt.mem g hg).1) hu.rt.pw h3) hv.up
end Go.Proofs.YtjnjfinbdfolkaaGreat
end

section
set_option linter.unusedVariables false
set_option linter.unusedSimpArgs false
namespace Go.Proofs.YtjnjfinbdfolkaaGreat
theorem All2.get {R : List Zr → List Int → Prop} : ∀ {us : List (List Zr)} {fs : List (List Int)}, All2 R us fs → ∀ i, i < us.length → R (us.getD i []) (fs.getD i [])
  | [], [], _, i, h => absurd h (Nat.not_lt_zero _)
  | u :: us, f :: fs, h, 0, _ => h.1
  | u :: us, f :: fs, h, i + 1, hi => All2.get h.2 i (by simpa using hi)
theorem take_snocz {l : List (List Zr)} {i : Nat} (h : i < l.length) : l.take (i + 1) = l.take i ++ [l.getD i []] := by
  rw [List.take_add_one, List.getElem?_eq_getElem h, List.getD_eq_getElem?_getD, List.getElem?_eq_getElem h]
  rfl
end Go.Proofs.YtjnjfinbdfolkaaGreat
end

section
set_option linter.unusedVariables false
set_option linter.unusedSimpArgs false
namespace Go.Proofs.YtjnjfinbdfolkaaGreat
def chs : Nat → Nat → Nat
  | _, 0 => 1
  | 0, _ + 1 => 0
  | n + 1, k + 1 => chs n k + chs n (k + 1)
theorem chs_zero (n : Nat) : chs n 0 = 1 := by cases n <;> rfl
theorem chs_succ (n k : Nat) : chs (n + 1) (k + 1) = chs n k + chs n (k + 1) := rfl
theorem chs_out : ∀ n k, n < k → chs n k = 0
  | 0, 0, h => absurd h (Nat.lt_irrefl _)
  | 0, k + 1, _ => rfl
  | n + 1, 0, h => absurd h (Nat.not_lt_zero _)
  | n + 1, k + 1, h => by rw [chs_succ, chs_out n k (by omega), chs_out n (k + 1) (by omega)]
theorem chs_self : ∀ n, chs n n = 1
  | 0 => rfl
  | n + 1 => by rw [chs_succ, chs_self n, chs_out n (n + 1) (by omega)]
theorem chs_id : ∀ n k, (k + 1) * chs (n + 1) (k + 1) = (n + 1) * chs n k
  | 0, 0 => rfl
  | 0, k + 1 => by rw [chs_succ, chs_out 0 (k + 1) (by omega), chs_out 0 (k + 1 + 1) (by omega)]; rfl
  | n + 1, 0 => by
    have h := chs_id n 0
    rw [chs_zero, Nat.zero_add, Nat.one_mul, Nat.mul_one] at h
    rw [chs_succ, chs_zero, show chs (n + 1) (0 + 1) = n + 1 from h]
    omega
  | n + 1, k + 1 => by
    have h1 := chs_id n k
    have h2 := chs_id n (k + 1)
    have h3 := chs_succ n k
    rw [chs_succ (n + 1) (k + 1), Nat.mul_add, h2, h3]
    rw [h3] at h1
    have e : (k + 1 + 1) * (chs n k + chs n (k + 1)) = (k + 1) * (chs n k + chs n (k + 1)) + (chs n k + chs n (k + 1)) := by
      rw [Nat.add_mul (k + 1) 1, Nat.one_mul]
    rw [e, h1, Nat.add_mul (n + 1) 1, Nat.one_mul, Nat.mul_add]
    omega
theorem binom (a : Int) : ∀ n, (a + 1) ^ n = sumN (n + 1) (fun k => (chs n k : Int) * a ^ k)
  | 0 => by
    show _ = (0 : Int) + ((1 : Nat) : Int) * a ^ 0
    rw [Int.pow_zero, Int.pow_zero]; rfl
  | n + 1 => by
    have e1 : sumN (n + 1 + 1) (fun k => (chs (n + 1) k : Int) * a ^ k) = 1 + (sumN (n + 1) (fun k => a * ((chs n k : Int) * a ^ k)) + sumN (n + 1) (fun k => (chs n (k + 1) : Int) * a ^ (k + 1))) := by
      rw [sumN_front, ← sumN_add]
      congr 1
      · show ((chs (n + 1) 0 : Nat) : Int) * a ^ 0 = 1
        rw [chs_zero, Int.pow_zero]; rfl
      · exact sumN_congr fun k _ => by
          rw [chs_succ, Int.natCast_add, Int.add_mul, Int.pow_succ, ← Int.mul_assoc, ← Int.mul_assoc, Int.mul_comm (_ * a ^ k) a, ← Int.mul_assoc]
    have e2 : sumN (n + 1) (fun k => (chs n k : Int) * a ^ k) = 1 + sumN (n + 1) (fun k => (chs n (k + 1) : Int) * a ^ (k + 1)) := by
      have h : sumN (n + 1 + 1) (fun k => (chs n k : Int) * a ^ k) = sumN (n + 1) (fun k => (chs n k : Int) * a ^ k) := by
        show sumN (n + 1) _ + ((chs n (n + 1) : Nat) : Int) * a ^ (n + 1) = _
        rw [chs_out n (n + 1) (by omega)]
        show _ + (0 : Int) * _ = _
        rw [Int.zero_mul, Int.add_zero]
      rw [← h, sumN_front]
      congr 1
      show ((chs n 0 : Nat) : Int) * a ^ 0 = 1
      rw [chs_zero, Int.pow_zero]; rfl
    rw [e1, sumN_mul, Int.pow_succ, binom a n, Int.mul_add, Int.mul_one, Int.mul_comm _ a]
    omega
theorem cop_dvd {p x y : Nat} (hp : 2 ≤ p) (hn : NoDiv p) (h0 : 0 < x) (h1 : x < p) (h : p ∣ x * y) : p ∣ y :=
  Nat.Coprime.dvd_of_dvd_mul_left (prime_cop hp hn h0 h1) h
theorem chs_dvd {p k : Nat} (hp : 2 ≤ p) (hn : NoDiv p) (h0 : 0 < k) (h1 : k < p) : p ∣ chs p k := by
  obtain ⟨q, rfl⟩ : ∃ q, p = q + 1 := ⟨p - 1, by omega⟩
  obtain ⟨j, rfl⟩ : ∃ j, k = j + 1 := ⟨k - 1, by omega⟩
  exact cop_dvd hp hn h0 h1 ⟨chs q j, chs_id q j⟩
theorem fermat_step {p : Nat} (hp : 2 ≤ p) (hn : NoDiv p) (a : Int) : (a + 1) ^ p % p = (a ^ p + 1) % p := by
  obtain ⟨q, rfl⟩ : ∃ q, p = q + 1 := ⟨p - 1, by omega⟩
  rw [binom, show q + 1 + 1 = (q + 1) + 1 from rfl]
  show (sumN (q + 1) _ + ((chs (q + 1) (q + 1) : Nat) : Int) * a ^ (q + 1)) % _ = _
  rw [chs_self, sumN_front]
  have hd : ((q + 1 : Nat) : Int) ∣ sumN q (fun k => (chs (q + 1) (k + 1) : Int) * a ^ (k + 1)) := sumN_dvd fun k hk =>
    Int.dvd_trans (Int.natCast_dvd_natCast.2 (chs_dvd hp hn (by omega) (by omega))) (Int.dvd_mul_right _ _)
  obtain ⟨c, hc⟩ := hd
  rw [hc]
  show (((chs (q + 1) 0 : Nat) : Int) * a ^ 0 + _ + ((1 : Nat) : Int) * a ^ (q + 1)) % _ = _
  rw [chs_zero, Int.pow_zero]
  have e : ((1 : Nat) : Int) * 1 + ((q + 1 : Nat) : Int) * c + ((1 : Nat) : Int) * a ^ (q + 1) = a ^ (q + 1) + 1 + ((q + 1 : Nat) : Int) * c := by omega
  rw [e, Int.add_mul_emod_self_left]
theorem fermat {p : Nat} (hp : 2 ≤ p) (hn : NoDiv p) : ∀ a : Nat, (a : Int) ^ p % p = a % p
  | 0 => by
    rw [show ((0 : Nat) : Int) = 0 from rfl, Int.zero_pow (by omega)]
  | a + 1 => by
    rw [Int.natCast_add, show ((1 : Nat) : Int) = 1 from rfl, fermat_step hp hn, Int.add_emod, fermat hp hn a, ← Int.add_emod]
theorem fermat_inv {p : Int} (hp : prm p = true) {a : Int} (h0 : 0 < a) (h1 : a < p) : (a ^ (p - 2).toNat * a) % p = 1 := by
  obtain ⟨p1, p2⟩ := prm_rng hp
  have hn := prm_nodiv hp
  obtain ⟨P, rfl⟩ := Int.eq_ofNat_of_zero_le (show 0 ≤ p by omega)
  obtain ⟨A, rfl⟩ := Int.eq_ofNat_of_zero_le (show 0 ≤ a by omega)
  rw [Int.toNat_natCast] at hn
  have hP : 2 ≤ P := by omega
  have h := fermat hP hn A
  obtain ⟨Q, rfl⟩ : ∃ Q, P = Q + 2 := ⟨P - 2, by omega⟩
  rw [show (((Q + 2 : Nat) : Int) - 2).toNat = Q by omega]
  have e : (A : Int) ^ (Q + 2) - A = A * ((A : Int) ^ Q * A - 1) := by
    rw [show Q + 2 = Q + 1 + 1 from rfl, Int.pow_succ, Int.pow_succ, Int.mul_sub, Int.mul_one, Int.mul_comm _ (A : Int)]
  have hd : ((Q + 2 : Nat) : Int) ∣ (A : Int) * ((A : Int) ^ Q * A - 1) := by
    rw [← e]
    exact Int.dvd_of_emod_eq_zero (Int.emod_eq_emod_iff_emod_sub_eq_zero.1 h)
  have hg : Int.gcd ((Q + 2 : Nat) : Int) (A : Int) = 1 := prime_cop hP hn (by omega) (by omega)
  have hd2 := int_cop_dvd hg hd
  have h3 := Int.emod_eq_emod_iff_emod_sub_eq_zero.2 (Int.emod_eq_zero_of_dvd hd2)
  rw [h3]
  exact Int.emod_eq_of_lt (by decide) (by omega)
end Go.Proofs.YtjnjfinbdfolkaaGreat
end

section
set_option linter.unusedVariables false
set_option linter.unusedSimpArgs false
namespace Go.Proofs.YtjnjfinbdfolkaaGreat
theorem M_ref05_Check_eq {fu : Nat} {p : Int} (hf : 3000000 ≤ fu) : M_ref05_Check fu p = some (if prm p = true then 0 else 1) := by
  unfold M_ref05_Check
  rw [bd_t (M_ref04_Is_eq (by omega))]
  cases h : prm p
  · rw [if_pos (by decide), if_neg (by decide)]
  · rw [if_neg (by decide), if_pos rfl]
theorem M_ref05_Check_t {fu : Nat} {p : Int} (hp : prm p = true) (hf : 3000000 ≤ fu) : M_ref05_Check fu p = some 0 := by
  rw [M_ref05_Check_eq hf, if_pos hp]
theorem M_ref05_Red_eq {fu : Nat} {a p : Int} (h1 : 1 ≤ p) (h2 : p ≤ 65521) (ha : InR a) : M_ref05_Red fu a p = some (a % p) := by
  unfold M_ref05_Red
  obtain ⟨a1, a2⟩ := ha
  have hr := red_rng (a := a) (p := p) (by omega)
  have ht := tmod_red (a := a) (p := p) (by omega)
  rw [if_neg (by omega), ck_t (by omega), nm_t]
  by_cases h : Int.tmod a p < 0
  · rw [if_pos h] at ht
    rw [if_pos h, ck64_t ⟨by omega, by omega⟩, ht]
  · rw [if_neg h] at ht
    rw [if_neg h, ht]
theorem zl_app {n : Nat} {f : Pz} {x : Int} (h : x = f n) : zl n f ++ [x] = zl (n + 1) f := by rw [h]; exact zl_snoc
theorem M_ref06_Plain_eq {fu : Nat} {l : List Int} {p : Int} (h1 : 1 ≤ p) (h2 : p ≤ 65521) (hr : Rl l) (hl : l.length ≤ 1000000) (hf : 3000000 ≤ fu) : M_ref06_Plain fu l p = some (pm p l) := by
  unfold M_ref06_Plain
  have hd := dg_le (fun k => ci l k % p) l.length
  rw [bd_t (v := zl l.length (fun k => ci l k % p))]
  · rw [bd_t (v := ((dg (fun k => ci l k % p) l.length : Nat) : Int))]
    · rw [ckN_n, ck_t (by rw [zl_len]; exact hd), nm_t, zl_take hd]
      rfl
    · rw [zl_len]
      refine loop_eq (fun t : Int => ∃ m : Nat, m ≤ l.length ∧ t = (m : Int) ∧ dg (fun k => ci l k % p) m = dg (fun k => ci l k % p) l.length) (fun t => t.toNat) _ ?_ _ _ ⟨l.length, Nat.le_refl _, rfl, rfl⟩ (by omega)
      rintro t L ⟨m, hm, rfl, hg⟩ ih
      unfold B_ref06_Plain_1
      cases m with
      | zero =>
        rw [if_neg (by omega), ← hg]
        rfl
      | succ m =>
        rw [if_pos (by omega), show ((m + 1 : Nat) : Int) - 1 = (m : Int) by omega, ck64_t ⟨by omega, by omega⟩, ckI_n (by rw [zl_len]; omega), nm_t, zl_getD (by omega)]
        by_cases h0 : ci l m % p = 0
        · rw [if_pos h0, ck64_t ⟨by omega, by omega⟩]
          exact ih _ ⟨m, by omega, rfl, by rw [← dg_step0 (f := fun k => ci l k % p) h0, hg]⟩ (by omega)
        · rw [if_neg h0, ← hg, dg_step1 (f := fun k => ci l k % p) h0]
  · refine loop_eq (fun s : List Int × Int => ∃ i : Nat, i ≤ l.length ∧ s = (zl i (fun k => ci l k % p), (i : Int))) (fun s => l.length - s.2.toNat) _ ?_ _ _ ⟨0, Nat.zero_le _, rfl⟩ (by show l.length - 0 < fu; omega)
    rintro s L ⟨i, hi, rfl⟩ ih
    unfold B_ref06_Plain_0
    simp only []
    by_cases h : i < l.length
    · rw [if_pos (by omega), ckI_n h, nm_t, ci_d, bd_t (M_ref05_Red_eq h1 h2 (hr i)), ck_t (by rw [zl_len]; simp; omega), nm_t, zl_app (f := fun k => ci l k % p) rfl, ck64_t ⟨by omega, by omega⟩]
      exact ih _ ⟨i + 1, by omega, rfl⟩ (by show l.length - ((i : Int) + 1).toNat < l.length - (i : Int).toNat; omega)
    · rw [if_neg (by omega)]
      obtain rfl : i = l.length := by omega
      rfl
theorem plain06 {fu : Nat} {l : List Int} {p : Int} (hp : prm p = true) (h : Fp p l) (hl : l.length ≤ 1000000) (hf : 3000000 ≤ fu) : M_ref06_Plain fu l p = some l := by
  obtain ⟨p1, p2⟩ := prm_rng hp
  rw [M_ref06_Plain_eq (by omega) p2 (h.rl p2) hl hf, h.pm]
theorem M_ref06_at_eq {fu : Nat} {l : List Int} {j : Nat} : M_ref06_at fu l (j : Int) = some (ci l j) := by
  unfold M_ref06_at
  by_cases h : j < l.length
  · rw [if_pos (by omega), ckI_n h, nm_t]
    rfl
  · rw [if_neg (by omega), ci_ge (by omega)]
theorem M_ref06_Sum_pm {fu : Nat} {a b : List Int} {c p : Int} (hp : prm p = true) (hra : Rl a) (hrb : Rl b) (hc : -65521 ≤ c ∧ c ≤ 65521) (hla : a.length ≤ 100000) (hlb : b.length ≤ 100000) (hf : 3000000 ≤ fu) : M_ref06_Sum fu a b c p = some (fsum p (pm p a) (pm p b) c) := by
  obtain ⟨p1, p2⟩ := prm_rng hp
  unfold M_ref06_Sum
  rw [bd_t (M_ref06_Plain_eq (by omega) p2 hra (by omega) hf), bd_t (M_ref06_Plain_eq (by omega) p2 hrb (by omega) hf)]
  have ha := pm_fp (p := p) (by omega) a
  have hb := pm_fp (p := p) (by omega) b
  have l1 := pm_le p a
  have l2 := pm_le p b
  generalize pm p a = a at *
  generalize pm p b = b at *
  obtain ⟨n, hn⟩ : ∃ n, n = max a.length b.length := ⟨_, rfl⟩
  have hz : ∀ k, n ≤ k → ci a k + c * ci b k = 0 := fun k hk => by rw [ci_ge (by omega), ci_ge (by omega), Int.mul_zero]; rfl
  have hb2 : ∀ k, -4293001441 ≤ c * ci b k ∧ c * ci b k ≤ 4293001441 := fun k => by
    have b1 := hb.nn k
    have b2 := hb.lt k
    have h1 : c * ci b k ≤ 65521 * ci b k := Int.mul_le_mul_of_nonneg_right (by omega) b1
    have h2 : -65521 * ci b k ≤ c * ci b k := Int.mul_le_mul_of_nonneg_right (by omega) b1
    omega
  rw [bd_t (v := zl n (fun k => ci a k + c * ci b k))]
  · have hr : Rl (zl n (fun k => ci a k + c * ci b k)) := fun k => by
      rw [ci_zl_z hz]
      have := hb2 k
      have := ha.nn k
      have := ha.lt k
      exact ⟨by omega, by omega⟩
    rw [bd_t (M_ref06_Plain_eq (by omega) p2 hr (by rw [zl_len]; omega) hf)]
    congr 1
    unfold pm fsum
    rw [zl_len, ← hn]
    exact nl_congr fun k hk => by rw [ci_zl hk]
  · refine loop_eq (fun s : List Int × List Int × List Int × Int => ∃ i : Nat, i ≤ n ∧ s = (a, b, zl i (fun k => ci a k + c * ci b k), (i : Int))) (fun s => n - s.2.2.2.toNat) _ ?_ _ _ ⟨0, Nat.zero_le _, rfl⟩ (by show n - 0 < fu; omega)
    rintro s L ⟨i, hi, rfl⟩ ih
    unfold B_ref06_Sum_0
    simp only []
    rw [nm_t, show max ((a.length : Nat) : Int) ((b.length : Nat) : Int) = (n : Int) by omega]
    by_cases h3 : i < n
    · have := hb2 i
      have := ha.nn i
      have := ha.lt i
      rw [if_pos (by omega), bd_t M_ref06_at_eq, bd_t M_ref06_at_eq, ck64_t ⟨by omega, by omega⟩, ck64_t ⟨by omega, by omega⟩, ck_t (by rw [zl_len]; simp; omega), nm_t, zl_app (f := fun k => ci a k + c * ci b k) rfl, ck64_t ⟨by omega, by omega⟩]
      exact ih _ ⟨i + 1, by omega, rfl⟩ (by show n - ((i : Int) + 1).toNat < n - (i : Int).toNat; omega)
    · rw [if_neg (by omega)]
      obtain rfl : i = n := by omega
      rfl
theorem M_ref06_Sum_eq {fu : Nat} {a b : List Int} {c p : Int} (hp : prm p = true) (ha : Fp p a) (hb : Fp p b) (hc : -65521 ≤ c ∧ c ≤ 65521) (hla : a.length ≤ 100000) (hlb : b.length ≤ 100000) (hf : 3000000 ≤ fu) : M_ref06_Sum fu a b c p = some (fsum p a b c) := by
  obtain ⟨p1, p2⟩ := prm_rng hp
  rw [M_ref06_Sum_pm hp (ha.rl p2) (hb.rl p2) hc hla hlb hf, ha.pm, hb.pm]
theorem M_ref06_Times_eq {fu : Nat} {a b : List Int} {p : Int} (hp : prm p = true) (ha : Fp p a) (hb : Fp p b) (hla : a.length ≤ 100000) (hlb : b.length ≤ 100000) (hf : 3000000 ≤ fu) : M_ref06_Times fu a b p = some (fmul p a b) := by
  obtain ⟨p1, p2⟩ := prm_rng hp
  unfold M_ref06_Times
  obtain ⟨n, hn⟩ : ∃ n, n = a.length + b.length := ⟨_, rfl⟩
  rw [bd_t (plain06 hp ha (by omega) hf), bd_t (plain06 hp hb (by omega) hf), ck64_t ⟨by omega, by omega⟩, show ((a.length : Nat) : Int) + ((b.length : Nat) : Int) = (n : Int) by omega, ckN_n, ck_t (by omega), nm_t, zl_rep, bd_t (v := zl n (fun k => rws (ci a) (ci b) a.length k % p))]
  · have hz : ∀ k, n ≤ k → rws (ci a) (ci b) a.length k % p = 0 := fun k hk => by
      rw [rws_mul (fun j hj => ci_ge hj), p_mul_out (fun j hj => ci_ge hj) (fun j hj => ci_ge hj) (by omega), Int.zero_emod]
    have hr : Rl (zl n (fun k => rws (ci a) (ci b) a.length k % p)) := fun k => by
      rw [ci_zl_z hz]
      have := red_rng (a := rws (ci a) (ci b) a.length k) (p := p) (by omega)
      exact ⟨by omega, by omega⟩
    rw [bd_t (M_ref06_Plain_eq (by omega) p2 hr (by rw [zl_len]; omega) hf)]
    congr 1
    unfold pm fmul
    rw [zl_len, ← hn]
    exact nl_congr fun k hk => by rw [ci_zl hk, Int.emod_emod, rws_mul (fun j hj => ci_ge hj)]
  · refine loop_eq (fun s : Int × List Int × List Int × List Int => ∃ i : Nat, i ≤ a.length ∧ s = ((i : Int), a, b, zl n (fun k => rws (ci a) (ci b) i k % p))) (fun s => a.length - s.1.toNat) _ ?_ _ _ ⟨0, Nat.zero_le _, by rw [zl_congr (g := fun k => rws (ci a) (ci b) 0 k % p) fun k _ => by show (0 : Int) = 0 % p; rw [Int.zero_emod]]; rfl⟩ (by show a.length - 0 < fu; omega)
    rintro s L ⟨i, hi, rfl⟩ ih
    unfold B_ref06_Times_0
    simp only []
    by_cases h3 : i < a.length
    · rw [if_pos (by omega), bd_t (v := (p, zl n (fun k => rws (ci a) (ci b) (i + 1) k % p)))]
      · simp only []
        rw [ck64_t ⟨by omega, by omega⟩]
        exact ih _ ⟨i + 1, by omega, rfl⟩ (by show a.length - ((i : Int) + 1).toNat < a.length - (i : Int).toNat; omega)
      · refine loop_eq (fun s : Int × Int × List Int => ∃ j : Nat, j ≤ b.length ∧ s = (p, (j : Int), zl n (fun k => rwsP (ci a) (ci b) i j k % p))) (fun s => b.length - s.2.1.toNat) _ ?_ _ _ ⟨0, Nat.zero_le _, by rw [zl_congr fun k _ => by rw [← rwsP_zero]]; rfl⟩ (by show b.length - 0 < fu; omega)
        rintro s L2 ⟨j, hj, rfl⟩ ih2
        unfold B_ref06_Times_1
        simp only []
        by_cases h4 : j < b.length
        · have e : (i : Int) + (j : Int) = ((i + j : Nat) : Int) := by omega
          have r1 := red_rng (a := rwsP (ci a) (ci b) i j (i + j)) (p := p) (by omega)
          obtain ⟨r2, r3⟩ := prod_rng p2 (ha.nn i) (ha.lt i) (hb.nn j) (hb.lt j)
          rw [if_pos (by omega), e, ck64_t ⟨by omega, by omega⟩, ck64_t ⟨by omega, by omega⟩, ckI_n (by rw [zl_len]; omega), nm_t, zl_getD (by omega), ckI_n h3, nm_t, ckI_n h4, nm_t, ci_d, ci_d, ck64_t ⟨by omega, by omega⟩, ck64_t ⟨by omega, by omega⟩, ck_t (by omega), nm_t, tmod_nn (by omega), ckI_n (by rw [zl_len]; omega), nm_t, zl_set, ck64_t ⟨by omega, by omega⟩]
          exact ih2 _ ⟨j + 1, by omega, by rw [zl_congr fun k _ => rwsP_step (ci a) (ci b) p i j k]; rfl⟩ (by show b.length - ((j : Int) + 1).toNat < b.length - (j : Int).toNat; omega)
        · rw [if_neg (by omega)]
          obtain rfl : j = b.length := by omega
          rw [zl_congr fun k _ => by rw [rwsP_full (fun k hk => ci_ge hk)]]
    · rw [if_neg (by omega)]
      obtain rfl : i = a.length := by omega
      rfl
theorem pow_md (x p : Int) : ∀ n, (x % p) ^ n % p = x ^ n % p
  | 0 => by rw [Int.pow_zero, Int.pow_zero]
  | n + 1 => by rw [Int.pow_succ, Int.pow_succ, Int.mul_emod, pow_md x p n, Int.emod_emod, ← Int.mul_emod]
theorem M_ref05_Pow_eq {fu n : Nat} {a p : Int} (hp : prm p = true) (ha : 0 ≤ a) (ha2 : a < p) (hn : n ≤ 1000000) (hf : 3000000 ≤ fu) : M_ref05_Pow fu a (n : Int) p = some (a ^ n % p, 0) := by
  obtain ⟨p1, p2⟩ := prm_rng hp
  unfold M_ref05_Pow
  rw [bd_t (M_ref05_Check_t hp hf), if_pos rfl, if_neg (by omega), ck_t (by omega), nm_t, tmod_nn (by decide), bd_t (M_ref05_Red_eq (by omega) p2 ⟨by omega, by omega⟩), bd_t (v := a ^ n % p)]
  refine loop_eq (fun s : Int × Int × Int => ∃ (x y : Int) (i : Nat), s = (x, y, (i : Int)) ∧ i ≤ n ∧ 0 ≤ x ∧ x < p ∧ 0 ≤ y ∧ y < p ∧ (x * y ^ i) % p = a ^ n % p) (fun s => s.2.2.toNat) _ ?_ _ _ ⟨1 % p, a % p, n, rfl, Nat.le_refl _, (red_rng (by omega)).1, (red_rng (by omega)).2, (red_rng (by omega)).1, (red_rng (by omega)).2, ?_⟩ (by show n < fu; omega)
  · rintro s L ⟨x, y, i, rfl, hi, x1, x2, y1, y2, he⟩ ih
    unfold B_ref05_Pow_0
    simp only []
    obtain ⟨q1, q2⟩ := prod_rng p2 x1 x2 y1 y2
    obtain ⟨q3, q4⟩ := prod_rng p2 y1 y2 y1 y2
    have hyy := red_rng (a := y * y) (p := p) (by omega)
    have hxy := red_rng (a := x * y) (p := p) (by omega)
    have hd : Int.tdiv (i : Int) 2 = ((i / 2 : Nat) : Int) := by rw [Int.tdiv_eq_ediv_of_nonneg (by omega)]; omega
    have hsq : ∀ z : Int, (z * (y * y % p) ^ (i / 2)) % p = (z * (y ^ (2 * (i / 2)))) % p := fun z => by
      rw [Int.mul_emod, pow_md, ← Int.mul_emod, Int.pow_mul, show y ^ 2 = y * y from by rw [Int.pow_succ, Int.pow_succ, Int.pow_zero, Int.one_mul]]
    by_cases h0 : 0 < i
    · rw [if_pos (by omega), ck_t (by decide), nm_t, tmod_nn (by omega)]
      by_cases h1 : i % 2 = 1
      · rw [if_pos (by omega), ck64_t ⟨by omega, by omega⟩, ck_t (by omega), nm_t, tmod_nn q1, ck64_t ⟨by omega, by omega⟩, ck_t (by omega), nm_t, tmod_nn q3, ck_t (by decide), hd, ck64_t ⟨by omega, by omega⟩]
        refine ih _ ⟨_, _, i / 2, rfl, by omega, hxy.1, hxy.2, hyy.1, hyy.2, ?_⟩ (by show ((i / 2 : Nat) : Int).toNat < (i : Int).toNat; omega)
        rw [hsq, Int.mul_emod, Int.emod_emod, ← Int.mul_emod, ← he]
        congr 1
        have e : i = 2 * (i / 2) + 1 := by omega
        conv => rhs; rw [e]
        rw [Int.pow_succ, Int.mul_assoc, Int.mul_comm y]
      · rw [if_neg (by omega), ck64_t ⟨by omega, by omega⟩, ck_t (by omega), nm_t, tmod_nn q3, ck_t (by decide), hd, ck64_t ⟨by omega, by omega⟩]
        refine ih _ ⟨_, _, i / 2, rfl, by omega, x1, x2, hyy.1, hyy.2, ?_⟩ (by show ((i / 2 : Nat) : Int).toNat < (i : Int).toNat; omega)
        rw [hsq, ← he]
        congr 3
        omega
    · rw [if_neg (by omega)]
      obtain rfl : i = 0 := by omega
      rw [Int.pow_zero, Int.mul_one, Int.emod_eq_of_lt x1 x2] at he
      rw [he]
  · rw [Int.mul_emod, Int.emod_emod, pow_md, ← Int.mul_emod, Int.one_mul]
theorem M_ref06_inverse_ex {fu : Nat} {a p : Int} (hp : prm p = true) (h0 : 0 < a) (h1 : a < p) (hf : 3000000 ≤ fu) : ∃ x, M_ref06_inverse fu a p = some x ∧ 0 < x ∧ x < p ∧ (x * a) % p = 1 := by
  obtain ⟨p1, p2⟩ := prm_rng hp
  unfold M_ref06_inverse
  rw [ck64_t ⟨by omega, by omega⟩]
  obtain ⟨n, hn⟩ : ∃ n : Nat, p - 2 = (n : Int) := ⟨(p - 2).toNat, by omega⟩
  have hinv := fermat_inv hp h0 h1
  rw [hn, Int.toNat_natCast] at hinv
  rw [hn, bd_t (M_ref05_Pow_eq hp (by omega) h1 (by omega) hf)]
  simp only []
  have hr := red_rng (a := a ^ n) (p := p) (by omega)
  by_cases h2 : p = 2
  · rw [if_pos h2]
    refine ⟨1, rfl, by decide, by omega, ?_⟩
    rw [Int.one_mul, Int.emod_eq_of_lt (by omega) h1]; omega
  · rw [if_neg h2]
    have h3 : (a ^ n % p * a) % p = 1 := by rw [Int.mul_emod, Int.emod_emod, ← Int.mul_emod]; exact hinv
    exact ⟨_, rfl, inv_pos hr.1 h3, hr.2, h3⟩
end Go.Proofs.YtjnjfinbdfolkaaGreat
end

section
set_option linter.unusedVariables false
set_option linter.unusedSimpArgs false
namespace Go.Proofs.YtjnjfinbdfolkaaGreat
theorem div06_pad {fu n : Nat} {p x : Int} (hn : n ≤ 1000000) (hf : 3000000 ≤ fu) : loopN (B_ref06_Div_1 fu (n : Int)) fu (p, x, [], 0) = some (p, x, zl n (fun _ => 0)) := by
  refine loop_eq (fun s : Int × Int × List Int × Int => ∃ i : Nat, i ≤ n ∧ s = (p, x, zl i (fun _ => 0), (i : Int))) (fun s => n - s.2.2.2.toNat) _ ?_ _ _ ⟨0, Nat.zero_le _, rfl⟩ (by show n - 0 < fu; omega)
  rintro s L ⟨i, hi, rfl⟩ ih
  unfold B_ref06_Div_1
  simp only []
  by_cases h : i < n
  · rw [if_pos (by omega), ck_t (by rw [zl_len]; simp; omega), nm_t, zl_app (f := fun _ => (0 : Int)) rfl, ck64_t ⟨by omega, by omega⟩]
    exact ih _ ⟨i + 1, by omega, rfl⟩ (by show n - ((i : Int) + 1).toNat < n - (i : Int).toNat; omega)
  · rw [if_neg (by omega)]
    obtain rfl : i = n := by omega
    rfl
def prt (b : List Int) (c p : Int) (n : Nat) : Pz := fun k => (sh (ci b) n k * c) % p
theorem div06_part {fu n : Nat} {b : List Int} {c p : Int} (hp : 1 ≤ p) (p2 : p ≤ 65521) (hb : Fp p b) (hc : 0 ≤ c) (hc2 : c < p) (hn : n + b.length ≤ 1000000) (hf : 3000000 ≤ fu) : loopN (B_ref06_Div_2 fu b c p) fu (zl n (fun _ => 0), 0) = some (zl (n + b.length) (prt b c p n)) := by
  refine loop_eq (fun s : List Int × Int => ∃ i : Nat, i ≤ b.length ∧ s = (zl (n + i) (prt b c p n), (i : Int))) (fun s => b.length - s.2.toNat) _ ?_ _ _ ⟨0, Nat.zero_le _, by rw [zl_congr (g := prt b c p n) fun k hk => by unfold prt sh; rw [if_neg (by omega), Int.zero_mul, Int.zero_emod]]; rfl⟩ (by show b.length - 0 < fu; omega)
  rintro s L ⟨i, hi, rfl⟩ ih
  unfold B_ref06_Div_2
  simp only []
  by_cases h : i < b.length
  · obtain ⟨q1, q2⟩ := prod_rng p2 (hb.nn i) (hb.lt i) hc hc2
    rw [if_pos (by omega), ckI_n h, nm_t, ci_d, ck64_t ⟨by omega, by omega⟩, ck_t (by omega), nm_t, tmod_nn q1, ck_t (by rw [zl_len]; simp; omega), nm_t, zl_app (n := n + i) (f := prt b c p n) (by unfold prt sh; rw [if_pos (by omega), show n + i - n = i by omega]), ck64_t ⟨by omega, by omega⟩]
    exact ih _ ⟨i + 1, by omega, rfl⟩ (by show b.length - ((i : Int) + 1).toNat < b.length - (i : Int).toNat; omega)
  · rw [if_neg (by omega)]
    obtain rfl : i = b.length := by omega
    rfl
structure D6I (p : Int) (a b r : List Int) (Q : Pz) : Prop where
  fr : Fp p r
  lr : r.length ≤ a.length
  qr : ∀ k, 0 ≤ Q k ∧ Q k < p
  ql : ∀ k, k + b.length ≤ r.length → Q k = 0
  qz : ∀ k, a.length ≤ k → Q k = 0
  cg : Cg p (ci a) (Q * ci b + ci r)
theorem D6I.step {p x : Int} {a b r : List Int} {Q : Pz} (hp : 1 ≤ p) (h : D6I p a b r Q) (hb : 0 < b.length) (hx : (x * ci b (b.length - 1)) % p = 1) (hl : b.length ≤ r.length) :
    (fsum p r (pm p (zl (r.length - b.length + b.length) (prt b (ci r (r.length - 1) * x % p) p (r.length - b.length)))) (-1)).length < r.length ∧
    D6I p a b (fsum p r (pm p (zl (r.length - b.length + b.length) (prt b (ci r (r.length - 1) * x % p) p (r.length - b.length)))) (-1)) (upf Q (r.length - b.length) (ci r (r.length - 1) * x % p)) := by
  obtain ⟨c, hc⟩ : ∃ c, c = ci r (r.length - 1) * x % p := ⟨_, rfl⟩
  obtain ⟨n, hn⟩ : ∃ n, n = r.length - b.length := ⟨_, rfl⟩
  rw [← hc, ← hn]
  have hcr := red_rng (a := ci r (r.length - 1) * x) (p := p) (by omega)
  rw [← hc] at hcr
  have hlr := h.lr
  have hpz : ∀ k, n + b.length ≤ k → prt b c p n k = 0 := fun k hk => by
    unfold prt sh
    rw [if_pos (by omega), ci_ge (l := b) (by omega), Int.zero_mul, Int.zero_emod]
  have hrc : ∀ k, ci (fsum p r (pm p (zl (n + b.length) (prt b c p n))) (-1)) k = (ci r k - c * sh (ci b) n k) % p := fun k => by
    rw [fsum_ci, pm_ci, ci_zl_z hpz]
    unfold prt
    rw [Int.emod_emod, Int.mul_comm c]
    refine Int.emod_eq_emod_iff_emod_sub_eq_zero.2 (Int.emod_eq_zero_of_dvd ⟨sh (ci b) n k * c / p, ?_⟩)
    have := Int.emod_add_mul_ediv (sh (ci b) n k * c) p
    omega
  have hlt : (fsum p r (pm p (zl (n + b.length) (prt b c p n))) (-1)).length < r.length := by
    have := (fsum_fp (p := p) (by omega) r (pm p (zl (n + b.length) (prt b c p n))) (-1)).nl.le (n := r.length - 1) fun k hk => by
      rw [hrc]
      by_cases hk2 : k = r.length - 1
      · unfold sh
        rw [if_pos (by omega), show k - n = b.length - 1 by omega, hc, hk2, Int.sub_emod, Int.mul_emod, Int.emod_emod, ← Int.mul_emod, Int.mul_assoc, Int.mul_emod _ (x * _), hx, Int.mul_one, Int.emod_emod, ← Int.sub_emod, Int.sub_self, Int.zero_emod]
      · unfold sh
        rw [ci_ge (l := r) (by omega), if_pos (by omega), ci_ge (l := b) (by omega), Int.mul_zero, Int.sub_zero, Int.zero_emod]
    omega
  refine ⟨hlt, fsum_fp (by omega) _ _ _, by omega, fun k => ?_, fun k hk => ?_, fun k hk => ?_, ?_⟩
  · unfold upf; split
    · exact hcr
    · exact h.qr k
  · unfold upf
    rw [if_neg (by omega)]
    exact h.ql k (by omega)
  · unfold upf
    rw [if_neg (by omega)]
    exact h.qz k hk
  · have hup : upf Q n c = Q + (mono n c : Pz) := funext fun k => by
      rw [p_add]
      unfold upf mono
      by_cases hk : k = n
      · rw [if_pos hk, if_pos hk, h.ql k (by omega), Int.zero_add]
      · rw [if_neg hk, if_neg hk, Int.add_zero]
    refine h.cg.trans fun k => ?_
    rw [hup, p_add_mul, p_add, p_add, p_add, mono_mul, Int.add_emod (_ + _), hrc, Int.emod_emod, ← Int.add_emod]
    congr 1
    omega
theorem M_ref06_Div_ex {fu : Nat} {a b : List Int} {p : Int} (hp : prm p = true) (ha : Fp p a) (hb : Fp p b) (hb0 : 0 < b.length) (hla : a.length ≤ 90000) (hlb : b.length ≤ 90000) (hf : 3000000 ≤ fu) :
    ∃ q r, M_ref06_Div fu a b p = some (q, r, 0) ∧ Fp p q ∧ Fp p r ∧ Cg p (ci a) (ci q * ci b + ci r) ∧ r.length < b.length ∧ q.length ≤ a.length := by
  obtain ⟨p1, p2⟩ := prm_rng hp
  unfold M_ref06_Div
  have htop : ci b (b.length - 1) ≠ 0 := by
    rcases hb.nl with h | h
    · omega
    · exact h
  have t1 := hb.nn (b.length - 1)
  have t2 := hb.lt (b.length - 1)
  obtain ⟨x, e1, e2, e3, e4⟩ := M_ref06_inverse_ex (fu := fu) hp (show 0 < ci b (b.length - 1) by omega) t2 hf
  rw [bd_t (M_ref05_Check_t hp hf), if_pos rfl, bd_t (plain06 hp hb (by omega) hf), if_neg (by omega), bd_t (plain06 hp ha (by omega) hf), show ((a.length : Nat) : Int) + 1 = ((a.length + 1 : Nat) : Int) by omega, ck64_t ⟨by omega, by omega⟩, ckN_n, ck_t (by omega), nm_t, show ((b.length : Nat) : Int) - 1 = ((b.length - 1 : Nat) : Int) by omega, ck64_t ⟨by omega, by omega⟩, ckI_n (by omega), nm_t, ci_d, bd_t e1]
  have hloop := loop_ex (f := B_ref06_Div_0 fu p x) (fun s : List Int × List Int × List Int => ∃ (r : List Int) (Q : Pz), s = (r, b, zl (a.length + 1) Q) ∧ D6I p a b r Q) (fun s => s.1.length)
    (fun s => ∃ (r : List Int) (Q : Pz), s = (r, zl (a.length + 1) Q) ∧ D6I p a b r Q ∧ r.length < b.length) (by
      rintro s L ⟨r, Q, rfl, h⟩ ih
      unfold B_ref06_Div_0
      simp only []
      have hlr := h.lr
      by_cases h1 : b.length ≤ r.length
      · obtain ⟨s1, s2⟩ := h.step (by omega) hb0 e4 h1
        obtain ⟨q1, q2⟩ := prod_rng p2 (h.fr.nn (r.length - 1)) (h.fr.lt (r.length - 1)) (Int.le_of_lt e2) e3
        have hcr := red_rng (a := ci r (r.length - 1) * x) (p := p) (by omega)
        have hpr : Rl (zl (r.length - b.length + b.length) (prt b (ci r (r.length - 1) * x % p) p (r.length - b.length))) := fun k => by
          by_cases hk : k < r.length - b.length + b.length
          · rw [ci_zl hk]
            unfold prt
            have := red_rng (a := sh (ci b) (r.length - b.length) k * (ci r (r.length - 1) * x % p)) (p := p) (by omega)
            exact ⟨by omega, by omega⟩
          · rw [ci_ge (by rw [zl_len]; omega)]; exact ⟨by decide, by decide⟩
        rw [if_pos (by omega), show ((r.length : Nat) : Int) - ((b.length : Nat) : Int) = ((r.length - b.length : Nat) : Int) by omega, ck64_t ⟨by omega, by omega⟩, show ((r.length : Nat) : Int) - 1 = ((r.length - 1 : Nat) : Int) by omega, ck64_t ⟨by omega, by omega⟩, ckI_n (by omega), nm_t, ci_d, ck64_t ⟨by omega, by omega⟩, ck_t (by omega), nm_t, tmod_nn q1, ckI_n (by rw [zl_len]; omega), nm_t, zl_set, bd_t (div06_pad (by omega) hf)]
        simp only []
        rw [bd_t (div06_part (by omega) p2 hb hcr.1 hcr.2 (by omega) hf), bd_t (M_ref06_Sum_pm hp (h.fr.rl p2) hpr (by omega) (by omega) (by rw [zl_len]; omega) hf), h.fr.pm]
        exact ih _ ⟨_, _, rfl, s2⟩ s1
      · rw [if_neg (by omega)]
        exact ⟨_, rfl, r, Q, rfl, h, by omega⟩)
    fu (a, b, List.replicate (a.length + 1) 0) ⟨a, fun _ => 0, by rw [zl_rep], ha, Nat.le_refl _, fun k => ⟨Int.le_refl _, by omega⟩, fun _ _ => rfl, fun _ _ => rfl, Cg.of (by
      funext k
      rw [p_add, show ((fun _ => 0 : Pz)) = pc 0 from funext fun j => (pc_zero j).symm, p_zero_mul, pc_zero, Int.zero_add])⟩ (by show a.length < fu; omega)
  obtain ⟨_, hl1, r, Q, rfl, h, hlt⟩ := hloop
  rw [bd_t hl1]
  simp only []
  have hQl : Rl (zl (a.length + 1) Q) := fun k => by
    rw [ci_zl_z fun j hj => h.qz j (by omega)]
    have := h.qr k
    exact ⟨by omega, by omega⟩
  rw [bd_t (M_ref06_Plain_eq (by omega) p2 hQl (by rw [zl_len]; omega) hf)]
  refine ⟨_, _, rfl, pm_fp (by omega) _, h.fr, ?_, hlt, ?_⟩
  · exact h.cg.trans (Cg.add (Cg.mul (Cg.symm ((pm_cg p _).trans (Cg.of (funext (ci_zl_z fun j hj => h.qz j (by omega)))))) Cg.rfl) Cg.rfl)
  · exact (pm_fp (p := p) (by omega) (zl (a.length + 1) Q)).nl.le fun k hk => by
      rw [pm_ci, ci_zl_z (fun j hj => h.qz j (by omega)), h.qz k hk, Int.zero_emod]
structure MonR (p : Int) (a m : List Int) : Prop where
  fm : Fp p m
  ln : m.length = a.length
  top : ci m (m.length - 1) = 1
  cg : ∃ x y : Int, Cg p (ci m) (pc x * ci a) ∧ Cg p (ci a) (pc y * ci m)
theorem mon_fmul {p x : Int} {a : List Int} (hp : 2 ≤ p) (ha : Fp p a) (hal : 0 < a.length) (hx : (x * ci a (a.length - 1)) % p = 1) : MonR p a (fmul p a [x]) := by
  have hmon : ∀ k, ci (fmul p a [x]) k = (x * ci a k) % p := fun k => by rw [fmul_ci, ci_one, p_mul_comm, pc_mul]
  have hlead : (fmul p a [x]).length = a.length := by
    refine Nat.le_antisymm ((fmul_fp (by omega) _ _).nl.le fun k hk => ?_) (Nat.le_of_not_lt fun hlt => ?_)
    · rw [hmon, ci_ge hk, Int.mul_zero, Int.zero_emod]
    · have h3 := hmon (a.length - 1)
      rw [hx, ci_ge (by omega)] at h3
      cases h3
  have h1 : Cg p (ci (fmul p a [x])) (pc x * ci a) := fun k => by rw [hmon, pc_mul, Int.emod_emod]
  refine ⟨fmul_fp (by omega) _ _, hlead, by rw [hlead, hmon, hx], x, ci a (a.length - 1), h1, ?_⟩
  refine Cg.symm ((Cg.rfl.mul h1).trans ?_)
  rw [← p_mul_assoc]
  refine Cg.trans (Cg.mul (fun k => ?_) Cg.rfl) (Cg.of (p_one_mul _))
  rw [pc_pc, Int.mul_comm]
  unfold pc; split
  · rw [hx]; exact (Int.emod_eq_of_lt (by decide) (by omega)).symm
  · rfl
end Go.Proofs.YtjnjfinbdfolkaaGreat
end

section
set_option linter.unusedVariables false
set_option linter.unusedSimpArgs false
namespace Go.Proofs.YtjnjfinbdfolkaaGreat
theorem fsum_neg (p : Int) (a b : List Int) : fsum p a b (-1) = fsum p a b (p - 1) := by
  unfold fsum
  refine nl_congr fun k _ => ?_
  refine Int.emod_eq_emod_iff_emod_sub_eq_zero.2 (Int.emod_eq_zero_of_dvd ⟨-ci b k, ?_⟩)
  rw [Int.sub_mul, Int.mul_neg]
  omega
theorem BzI.next {N : Nat} {p : Int} {g h r0 s0 t0 r1 s1 t1 q : List Int} (hI : BzI p g h r0 s0 t0 r1 s1 t1 N) (p1 : 2 ≤ p) (hq : Fp p q) (hql : q.length ≤ N) (hcg : Cg p (ci r0) (ci q * ci r1 + ci (fsum p r0 (fmul p q r1) (p - 1)))) (hlt : (fsum p r0 (fmul p q r1) (p - 1)).length < r1.length) :
    BzI p g h r1 s1 t1 (fsum p r0 (fmul p q r1) (p - 1)) (fsum p s0 (fmul p q s1) (p - 1)) (fsum p t0 (fmul p q t1) (p - 1)) N := by
  have hl0 := hI.l0
  have hl1 := hI.l1
  have hb0 := hI.b0
  have hb1 := hI.b1
  have hb2 := hI.b2
  have hb3 := hI.b3
  refine ⟨hI.f1, hI.g1, hI.h1, fsum_fp (by omega) _ _ _, fsum_fp (by omega) _ _ _, fsum_fp (by omega) _ _ _, hI.c1, ?_, ?_, hl1, by omega, ?_, ?_, ?_, ?_⟩
  · refine (fsum_less _ _).trans ((hI.c0.sub ((fmul_cg p q r1).trans (Cg.rfl.mul hI.c1))).trans ?_)
    refine Cg.trans (Cg.of ?_) (Cg.symm (((fsum_less s0 (fmul p q s1)).trans (Cg.rfl.sub (fmul_cg p q s1))).mul (Cg.rfl (f := ci g)) |>.add (((fsum_less t0 (fmul p q t1)).trans (Cg.rfl.sub (fmul_cg p q t1))).mul (Cg.rfl (f := ci h)))))
    simp only [p_mul_add, p_add_mul, p_mul_sub, p_sub_mul, p_mul_assoc]
    funext k
    simp only [p_add, p_sub]
    omega
  · obtain ⟨A, B, C, D, z1, z2, z3, z4, d1, d2⟩ := hI.dv
    refine ⟨A * ci q + B, A, C * ci q + D, C, (z1.mul (Fs.ci q)).add z2, z1, (z3.mul (Fs.ci q)).add z4, z3, ?_, ?_⟩
    · refine d1.trans (((Cg.rfl (f := A)).mul hcg |>.add Cg.rfl).trans (Cg.of ?_))
      simp only [p_mul_add, p_add_mul, p_mul_assoc]
      funext k
      simp only [p_add]
      omega
    · refine d2.trans (((Cg.rfl (f := C)).mul hcg |>.add Cg.rfl).trans (Cg.of ?_))
      simp only [p_mul_add, p_add_mul, p_mul_assoc]
      funext k
      simp only [p_add]
      omega
  · have : N * (N + 1 - r1.length) ≤ N * (N + 1 - (fsum p r0 (fmul p q r1) (p - 1)).length) := Nat.mul_le_mul_left _ (by omega)
    omega
  · have : N * (N + 1 - r1.length) ≤ N * (N + 1 - (fsum p r0 (fmul p q r1) (p - 1)).length) := Nat.mul_le_mul_left _ (by omega)
    omega
  · have h1 := fsum_le p s0 (fmul p q s1) (p - 1)
    have h2 := fmul_le p q s1
    have h3 : N * (N + 1 - r1.length + 1) ≤ N * (N + 1 - (fsum p r0 (fmul p q r1) (p - 1)).length) := Nat.mul_le_mul_left _ (by omega)
    rw [Nat.mul_add, Nat.mul_one] at h3
    omega
  · have h1 := fsum_le p t0 (fmul p q t1) (p - 1)
    have h2 := fmul_le p q t1
    have h3 : N * (N + 1 - r1.length + 1) ≤ N * (N + 1 - (fsum p r0 (fmul p q r1) (p - 1)).length) := Nat.mul_le_mul_left _ (by omega)
    rw [Nat.mul_add, Nat.mul_one] at h3
    omega
theorem bez06_inner {fu : Nat} {p : Int} {r0 s0 t0 r1 s1 t1 q : List Int} (hp : prm p = true) (hr0 : Fp p r0) (hs0 : Fp p s0) (ht0 : Fp p t0) (hr1 : Fp p r1) (hs1 : Fp p s1) (ht1 : Fp p t1) (hq : Fp p q) (hql : q.length ≤ 300) (l1 : r0.length ≤ 90000) (l2 : s0.length ≤ 90000) (l3 : t0.length ≤ 90000) (l4 : r1.length ≤ 90000) (l5 : s1.length ≤ 90000) (l6 : t1.length ≤ 90000) (hf : 3000000 ≤ fu) :
    loopN (B_ref06_Bezout_1 fu [r0, s0, t0] [r1, s1, t1] q) fu (p, [], ((0 : Nat) : Int)) = some (p, [fsum p r0 (fmul p q r1) (p - 1), fsum p s0 (fmul p q s1) (p - 1), fsum p t0 (fmul p q t1) (p - 1)]) := by
  obtain ⟨p1, p2⟩ := prm_rng hp
  obtain ⟨n, hn⟩ : ∃ n, fu = n + 4 := ⟨fu - 4, by omega⟩
  have step : ∀ (L : Int × List (List Int) × Int → Option (Int × List (List Int))) (i : Nat) (x y : List Int) (ts : List (List Int)), i < 3 → ts.length = i → [r0, s0, t0].getD i [] = x → [r1, s1, t1].getD i [] = y → Fp p x → Fp p y → x.length ≤ 90000 → y.length ≤ 90000 →
      B_ref06_Bezout_1 fu [r0, s0, t0] [r1, s1, t1] q L (p, ts, (i : Int)) = L (p, ts ++ [fsum p x (fmul p q y) (p - 1)], ((i + 1 : Nat) : Int)) := fun L i x y ts hi hts hx hy hxF hyF hxl hyl => by
    unfold B_ref06_Bezout_1
    simp only []
    have f4 := fmul_le p q y
    rw [if_pos (by omega), ckI_n (n := [r0, s0, t0].length) hi, nm_t, hx, ckI_n (n := [r1, s1, t1].length) hi, nm_t, hy, bd_t (M_ref06_Times_eq hp hq hyF (by omega) (by omega) hf), bd_t (M_ref06_Sum_eq hp hxF (fmul_fp (by omega) _ _) (by omega) (by omega) (by omega) hf), fsum_neg, ck_t (by simp; omega), nm_t, ck64_t ⟨by omega, by omega⟩]
    rfl
  have hn' : loopN (B_ref06_Bezout_1 fu [r0, s0, t0] [r1, s1, t1] q) (n + 4) (p, [], ((0 : Nat) : Int)) = some (p, [fsum p r0 (fmul p q r1) (p - 1), fsum p s0 (fmul p q s1) (p - 1), fsum p t0 (fmul p q t1) (p - 1)]) := by
    rw [loopN_t, step _ 0 r0 r1 _ (by decide) rfl rfl rfl hr0 hr1 l1 l4, loopN_t, step _ 1 s0 s1 _ (by decide) rfl rfl rfl hs0 hs1 l2 l5, loopN_t, step _ 2 t0 t1 _ (by decide) rfl rfl rfl ht0 ht1 l3 l6, loopN_t]
    unfold B_ref06_Bezout_1
    simp only []
    rw [if_neg (by decide)]
    rfl
  rw [← hn] at hn'
  exact hn'
theorem BzI.step06 {fu N : Nat} {p : Int} {g h r0 s0 t0 r1 s1 t1 : List Int} (hI : BzI p g h r0 s0 t0 r1 s1 t1 N) (hp : prm p = true) (hN : N ≤ 290) (hr : 0 < r1.length) (hf : 3000000 ≤ fu) :
    ∃ q r r2 s2 t2, M_ref06_Div fu r0 r1 p = some (q, r, 0) ∧ loopN (B_ref06_Bezout_1 fu [r0, s0, t0] [r1, s1, t1] q) fu (p, [], ((0 : Nat) : Int)) = some (p, [r2, s2, t2]) ∧ r2.length < r1.length ∧ BzI p g h r1 s1 t1 r2 s2 t2 N := by
  obtain ⟨p1, p2⟩ := prm_rng hp
  have hb : 1 + N * (N + 1 - r1.length) ≤ 90000 := by
    have : N * (N + 1 - r1.length) ≤ 290 * 290 := Nat.mul_le_mul hN (by omega)
    omega
  have hl0 := hI.l0
  have hl1 := hI.l1
  have hb0 := hI.b0
  have hb1 := hI.b1
  have hb2 := hI.b2
  have hb3 := hI.b3
  obtain ⟨q, r, e1, hq, hr', hcg, hlt, hql⟩ := M_ref06_Div_ex (fu := fu) hp hI.f0 hI.f1 hr (by omega) (by omega) hf
  have hre : fsum p r0 (fmul p q r1) (p - 1) = r := by
    refine Fp.ext (fsum_fp (by omega) _ _ _) hr' ((fsum_less r0 (fmul p q r1)).trans ?_)
    refine (hcg.sub (fmul_cg p q r1)).trans (Cg.of ?_)
    funext k
    simp only [p_add, p_sub]
    omega
  exact ⟨q, r, _, _, _, e1, bez06_inner hp hI.f0 hI.g0 hI.h0 hI.f1 hI.g1 hI.h1 hq (by omega) (by omega) (by omega) (by omega) (by omega) (by omega) (by omega) hf, by rw [hre]; exact hlt, hI.next p1 hq (by omega) (by rw [hre]; exact hcg) (by rw [hre]; exact hlt)⟩
theorem bez06_loop {fu N : Nat} {p : Int} {g h : List Int} (hp : prm p = true) (hN : N ≤ 290) (hf : 3000000 ≤ fu) {r0 s0 t0 r1 s1 t1 : List Int} (hI : BzI p g h r0 s0 t0 r1 s1 t1 N) :
    ∃ d s t, loopN (B_ref06_Bezout_0 fu p) fu ([r0, s0, t0], [r1, s1, t1]) = some [d, s, t] ∧ BzR p g h d s t (1 + N * (N + 1)) := by
  obtain ⟨r, e1, d, s, t, rfl, e3⟩ := loop_ex (f := B_ref06_Bezout_0 fu p) (fun x : List (List Int) × List (List Int) => ∃ r0 s0 t0 r1 s1 t1, x = ([r0, s0, t0], [r1, s1, t1]) ∧ BzI p g h r0 s0 t0 r1 s1 t1 N) (fun x => (x.2.getD 0 []).length) (fun r => ∃ d s t, r = [d, s, t] ∧ BzR p g h d s t (1 + N * (N + 1))) (by
    rintro x L ⟨r0, s0, t0, r1, s1, t1, rfl, hI⟩ ih
    unfold B_ref06_Bezout_0
    simp only []
    rw [show (0 : Int) = ((0 : Nat) : Int) from rfl, ckI_n (by simp), nm_t]
    show ∃ r, (if ((0 : Nat) : Int) < ((r1.length : Nat) : Int) then _ else _) = some r ∧ _
    by_cases h0 : 0 < r1.length
    · obtain ⟨q, r, r2, s2, t2, he, he2, hlt, hI2⟩ := hI.step06 (fu := fu) hp hN h0 hf
      rw [if_pos (by omega), ckI_n (by simp), nm_t, ckI_n (by simp), nm_t]
      show ∃ r, bd (M_ref06_Div fu r0 r1 p) _ = some r ∧ _
      rw [bd_t he]
      simp only []
      rw [bd_t he2]
      exact ih _ ⟨_, _, _, _, _, _, rfl, hI2⟩ hlt
    · rw [if_neg (by omega)]
      have hz : ci r1 = pc 0 := funext fun k => by rw [ci_ge (by omega), pc_zero]
      have hb : 1 + N * (N + 1 - r1.length) ≤ 1 + N * (N + 1) := by
        have : N * (N + 1 - r1.length) ≤ N * (N + 1) := Nat.mul_le_mul_left _ (by omega)
        omega
      have hl0 := hI.l0
      have hb2 : N * 1 ≤ N * (N + 1) := Nat.mul_le_mul_left _ (by omega)
      refine ⟨_, rfl, r0, s0, t0, rfl, hI.f0, hI.g0, hI.h0, hI.c0, ?_, by omega, Nat.le_trans hI.b0 hb, Nat.le_trans hI.b1 hb⟩
      obtain ⟨A, B, C, D, z1, z2, z3, z4, d1, d2⟩ := hI.dv
      rw [hz, p_mul_comm B, p_zero_mul] at d1
      rw [hz, p_mul_comm D, p_zero_mul] at d2
      refine ⟨A, C, z1, z3, d1.trans (Cg.of ?_), d2.trans (Cg.of ?_)⟩ <;> funext k <;> rw [p_add, pc_zero, Int.add_zero]) fu ([r0, s0, t0], [r1, s1, t1]) ⟨_, _, _, _, _, _, rfl, hI⟩ (by have := hI.l1; show r1.length < fu; omega)
  exact ⟨d, s, t, e1, e3⟩
theorem ci_nil : ci ([] : List Int) = pc 0 := funext fun k => by rw [ci_ge (Nat.zero_le _), pc_zero]
theorem M_ref06_Bezout_ex {fu : Nat} {p : Int} {g h : List Int} (hp : prm p = true) (hg : Fp p g) (hh : Fp p h) (hlg : g.length ≤ 290) (hlh : h.length ≤ 290) (hf : 3000000 ≤ fu) :
    ∃ d s t, M_ref06_Bezout fu g h p = some (d, s, t, 0) ∧ BzR p g h d s t (2 + max g.length h.length * (max g.length h.length + 1)) ∧ (d.length = 0 ∨ ci d (d.length - 1) = 1) := by
  obtain ⟨p1, p2⟩ := prm_rng hp
  unfold M_ref06_Bezout
  rw [bd_t (M_ref05_Check_t hp hf), if_pos rfl, bd_t (plain06 hp hg (by omega) hf), bd_t (plain06 hp hh (by omega) hf)]
  have z0 := ci_nil
  have addz : ∀ f : Pz, f + pc 0 = f := fun f => funext fun k => by rw [p_add, pc_zero, Int.add_zero]
  have zadd : ∀ f : Pz, pc 0 + f = f := fun f => funext fun k => by rw [p_add, pc_zero, Int.zero_add]
  have hI : BzI p g h g [1] [] h [] [1] (max g.length h.length) := by
    refine ⟨hg, fp_one (by decide) (by omega), fp_nil (by omega), hh, fp_nil (by omega), fp_one (by decide) (by omega), Cg.of ?_, Cg.of ?_, ⟨pc 1, pc 0, pc 0, pc 1, Fs.pc 1, Fs.pc 0, Fs.pc 0, Fs.pc 1, Cg.of ?_, Cg.of ?_⟩, Nat.le_max_left _ _, Nat.le_max_right _ _, Nat.le_add_right _ _, Nat.zero_le _, Nat.zero_le _, Nat.le_add_right _ _⟩
    · rw [ci_one, z0, p_one_mul, p_zero_mul, addz]
    · rw [ci_one, z0, p_one_mul, p_zero_mul, zadd]
    · rw [p_one_mul, p_zero_mul, addz]
    · rw [p_one_mul, p_zero_mul, zadd]
  obtain ⟨d, s, t, e1, hR⟩ := bez06_loop (fu := fu) hp (by omega) hf hI
  have hS : max g.length h.length * (max g.length h.length + 1) ≤ 290 * 291 := Nat.mul_le_mul (by omega) (by omega)
  generalize max g.length h.length * (max g.length h.length + 1) = S at *
  rw [bd_t e1, show (0 : Int) = ((0 : Nat) : Int) from rfl, ckI_n (by simp), nm_t]
  show ∃ d' s' t', (if ((d.length : Nat) : Int) = ((0 : Nat) : Int) then _ else _) = _ ∧ _
  by_cases h0 : 0 < d.length
  · have hdl := hR.dl
    have htop : ci d (d.length - 1) ≠ 0 := by
      rcases hR.df.nl with h | h
      · omega
      · exact h
    have t1 := hR.df.nn (d.length - 1)
    have t2 := hR.df.lt (d.length - 1)
    obtain ⟨x, x4, x1, x2, x3⟩ := M_ref06_inverse_ex (fu := fu) hp (show 0 < ci d (d.length - 1) by omega) t2 hf
    have tm : ∀ {a : List Int}, Fp p a → a.length ≤ 90000 → M_ref06_Times fu a [x] p = some (fmul p a [x]) := fun {a} ha hl => M_ref06_Times_eq hp ha (fp_one x1 x2) (by omega) (by simp) hf
    rw [if_neg (by omega), ckI_n (by simp), nm_t, ckI_n (by simp), nm_t]
    show ∃ d' s' t', ck64 (((d.length : Nat) : Int) - 1) _ = _ ∧ _
    rw [show ((d.length : Nat) : Int) - 1 = ((d.length - 1 : Nat) : Int) by omega, ck64_t ⟨by omega, by omega⟩]
    show ∃ d' s' t', ckI ((d.length - 1 : Nat) : Int) d.length _ = _ ∧ _
    rw [ckI_n (by omega), nm_t]
    show ∃ d' s' t', bd (M_ref06_inverse fu (ci d (d.length - 1)) p) _ = _ ∧ _
    rw [bd_t x4, ckI_n (by simp), nm_t]
    show ∃ d' s' t', bd (M_ref06_Times fu d [x] p) _ = _ ∧ _
    rw [bd_t (tm hR.df (Nat.le_trans hR.dl (by omega))), show (1 : Int) = ((1 : Nat) : Int) from rfl, ckI_n (by simp), nm_t]
    show ∃ d' s' t', bd (M_ref06_Times fu s [x] p) _ = _ ∧ _
    rw [bd_t (tm hR.sf (Nat.le_trans hR.sl (by omega))), show (2 : Int) = ((2 : Nat) : Int) from rfl, ckI_n (by simp), nm_t]
    show ∃ d' s' t', bd (M_ref06_Times fu t [x] p) _ = _ ∧ _
    rw [bd_t (tm hR.tf (Nat.le_trans hR.tl (by omega)))]
    have hmul : ∀ a : List Int, Cg p (ci (fmul p a [x])) (ci a * pc x) := fun a => by
      have := fmul_cg p a [x]
      rw [ci_one] at this
      exact this
    have hunit : Cg p (pc x * pc (ci d (d.length - 1))) (pc 1) := fun k => by
      rw [pc_pc]
      unfold pc; split
      · rw [x3]; exact (Int.emod_eq_of_lt (by decide) (by omega)).symm
      · rfl
    have f1 := fmul_le p d [x]
    have f2 := fmul_le p s [x]
    have f3 := fmul_le p t [x]
    have hsl := hR.sl
    have htl := hR.tl
    simp only [List.length_cons, List.length_nil] at f1 f2 f3
    have hM := mon_fmul p1 hR.df h0 x3
    refine ⟨fmul p d [x], fmul p s [x], fmul p t [x], rfl, ⟨fmul_fp (by omega) _ _, fmul_fp (by omega) _ _, fmul_fp (by omega) _ _, ?_, ?_, by omega, by omega, by omega⟩, .inr hM.top⟩
    · refine (hmul d).trans ((hR.cg.mul Cg.rfl).trans (Cg.trans (Cg.of ?_) (Cg.symm (((hmul s).mul Cg.rfl).add ((hmul t).mul Cg.rfl)))))
      simp only [p_mul_add, p_add_mul, p_mul_assoc, p_mul_comm, p_mul_left_comm]
    · obtain ⟨A, C, z1, z3, d1, d2⟩ := hR.dv
      have key : ∀ F : Pz, Cg p (F * ci d) (F * pc (ci d (d.length - 1)) * ci (fmul p d [x])) := fun F => by
        refine Cg.symm ((Cg.rfl.mul (hmul d)).trans (Cg.trans (Cg.of ?_) (((Cg.rfl (f := F * ci d)).mul hunit).trans (Cg.of (p_mul_one _)))))
        simp only [p_mul_assoc, p_mul_comm, p_mul_left_comm]
      exact ⟨_, _, z1.mul (Fs.pc _), z3.mul (Fs.pc _), d1.trans (key A), d2.trans (key C)⟩
  · rw [if_pos (by omega)]
    have hd : ci d = pc 0 := funext fun k => by rw [ci_ge (by omega), pc_zero]
    obtain ⟨A, C, z1, z3, d1, d2⟩ := hR.dv
    refine ⟨[], [1], [], rfl, ⟨fp_nil (by omega), fp_one (by decide) (by omega), fp_nil (by omega), ?_, ⟨A, C, z1, z3, ?_, ?_⟩, Nat.zero_le _, by simp; omega, Nat.zero_le _⟩, .inl rfl⟩
    · rw [ci_one, ci_nil, p_one_mul, p_zero_mul, addz]
      refine Cg.symm (d1.trans (Cg.of ?_))
      rw [hd, p_mul_comm, p_zero_mul]
    · rw [ci_nil, ← hd]; exact d1
    · rw [ci_nil, ← hd]; exact d2
theorem M_ref06_Gcd_ex {fu : Nat} {p : Int} {g h : List Int} (hp : prm p = true) (hg : Fp p g) (hh : Fp p h) (hlg : g.length ≤ 290) (hlh : h.length ≤ 290) (hf : 3000000 ≤ fu) :
    ∃ d s t, M_ref06_Gcd fu g h p = some (d, 0) ∧ BzR p g h d s t (2 + max g.length h.length * (max g.length h.length + 1)) ∧ (d.length = 0 ∨ ci d (d.length - 1) = 1) := by
  obtain ⟨d, s, t, e1, e2, e3⟩ := M_ref06_Bezout_ex (fu := fu) hp hg hh hlg hlh hf
  refine ⟨d, s, t, ?_, e2, e3⟩
  unfold M_ref06_Gcd
  rw [bd_t e1]
theorem M_fpoly_Gcd_ex {fu : Nat} {p : Int} {g h : List Int} (hp : prm p = true) (hg : Fp p g) (hh : Fp p h) (hlg : g.length ≤ 290) (hlh : h.length ≤ 290) (hf : 3000000 ≤ fu) :
    ∃ d s t, M_fpoly_Gcd fu g h p = some (d, 0) ∧ BzR p g h d s t (2 + max g.length h.length * (max g.length h.length + 1)) ∧ (d.length = 0 ∨ ci d (d.length - 1) = 1) := by
  obtain ⟨d, s, t, e1, e2, e3⟩ := M_fpoly_Bezout_ex (fu := fu) hp hg hh hlg hlh hf
  refine ⟨d, s, t, ?_, e2, e3⟩
  unfold M_fpoly_Gcd
  rw [bd_t e1]
theorem gcd_cop {p : Int} {g h d s t : List Int} {S : Nat} (hp : 2 ≤ p) (hR : BzR p g h d s t S) (hd : d.length = 0 ∨ ci d (d.length - 1) = 1) : d.length = 1 ↔ Cop p (ci g) (ci h) := by
  refine ⟨fun h1 => gcd_one hR h1 (hd.resolve_left (by omega)), fun hc => ?_⟩
  obtain ⟨A, C, z1, z2, d1, d2⟩ := hR.dv
  obtain ⟨u, v, z3, z4, hc⟩ := hc
  have hx : Cg p ((u * A + v * C) * ci d) (pc 1) := by
    refine Cg.trans (Cg.of ?_) ((((Cg.rfl (f := u)).mul d1.symm).add ((Cg.rfl (f := v)).mul d2.symm)).trans hc)
    rw [p_add_mul, p_mul_assoc, p_mul_assoc]
  have hd0 : 0 < d.length := by
    refine Nat.pos_of_ne_zero fun e => ?_
    have h1 := hx 0
    rw [p_mul, sumN_zero fun i hi => by rw [ci_ge (l := d) (by omega), Int.mul_zero]] at h1
    unfold pc at h1
    rw [if_pos rfl, Int.zero_emod, Int.emod_eq_of_lt (by decide) (by omega)] at h1
    cases h1
  exact unit_deg hp ((z3.mul z1).add (z4.mul z2)) hd0 (hd.resolve_left (by omega)) hx
end Go.Proofs.YtjnjfinbdfolkaaGreat
end

section
set_option linter.unusedVariables false
set_option linter.unusedSimpArgs false
namespace Go.Proofs.YtjnjfinbdfolkaaGreat
end Go.Proofs.YtjnjfinbdfolkaaGreat
end

section
set_option linter.unusedVariables false
set_option linter.unusedSimpArgs false
namespace Go.Proofs.YtjnjfinbdfolkaaGreat
structure MonL (p : Int) (m : List Int) : Prop where
  fm : Fp p m
  ln : 0 < m.length
  top : ci m (m.length - 1) = 1
theorem MonL.mn {p : Int} {m : List Int} (h : MonL p m) : Mn (ci m) (m.length - 1) := ⟨h.top, fun k hk => ci_ge (by omega)⟩
theorem MonL.one {p : Int} {m : List Int} (h : MonL p m) (hl : m.length = 1) : m = [1] := by
  match m, hl with
  | [x], _ => have := h.top; exact congrArg (fun y => [y]) this
end Go.Proofs.YtjnjfinbdfolkaaGreat
end

section
set_option linter.unusedVariables false
set_option linter.unusedSimpArgs false
namespace Go.Proofs.YtjnjfinbdfolkaaGreat
theorem ref06_same_f {fu : Nat} {a b : List Int} (h : a.length ≠ b.length) : M_ref06_Same fu a b = some false := by
  unfold M_ref06_Same
  rw [if_neg (by omega)]
end Go.Proofs.YtjnjfinbdfolkaaGreat
end

section
set_option linter.unusedVariables false
set_option linter.unusedSimpArgs false
namespace Go.Proofs.YtjnjfinbdfolkaaGreat
def exI (x y : Int) : Int := if y = 0 then 0 else if x % y = 0 then x / y else 0
def exE (x y : Int) : Int := if y = 0 then 3 else if x % y = 0 then 0 else 4
theorem M_ref02_Exact_eq {fu : Nat} {a b : Zr} (ha : OkS a) (hb : OkS b) (hf : 3000000 ≤ fu) : M_ref02_Exact fu a b = some (ofI (exI (zv a) (zv b)), exE (zv a) (zv b)) := by
  unfold M_ref02_Exact exI exE
  rw [bd_t (M_ref02_Div_eq ha hb hf)]
  unfold divR
  by_cases h0 : zv b = 0
  · rw [if_pos h0, if_pos h0, if_pos h0]
    rfl
  · rw [if_neg h0, if_neg h0, if_neg h0]
    simp only [if_true]
    have hr : Bz b.2.length (zv a % zv b) := by
      unfold Bz
      have h1 := Int.emod_nonneg (zv a) h0
      have h2 := Int.emod_lt (zv a) h0
      have h3 := Bz.of hb.1
      unfold Bz at h3
      omega
    rw [bd_t (M_ref02_Sign_eq (hr.ok (by have := hb.2; omega)) hf), zv_ofI]
    by_cases h1 : zv a % zv b = 0
    · rw [if_pos (cmpI_zero.2 h1), if_pos h1, if_pos h1]
    · rw [if_neg (fun e => h1 (cmpI_zero.1 e)), if_neg h1, if_neg h1]
      rfl
theorem M_ref02_Small_eq {fu : Nat} {x : Int} (h0 : 0 ≤ x) (h : x < 9223372036854775808) (hf : 3000000 ≤ fu) : M_ref02_Small fu (ofI x) = some (x, true) := by
  have hB : Bz 1 x := by unfold Bz; omega
  unfold M_ref02_Small
  rw [bd_t (M_ref02_Norm_eq' (ofI_limbs x) (by have := hB.len; omega) hf), zv_ofI]
  have hneg : (ofI x).1 = false := by unfold ofI; simp; omega
  by_cases hx : x = 0
  · subst hx
    rw [show (ofI 0).2 = [] from rfl, if_pos (show ((([] : List Nat).length : Nat) : Int) = 0 from rfl)]
  · have hpos := ofI_pos.2 hx
    have hlen := hB.len
    obtain ⟨n, rfl⟩ := Int.eq_ofNat_of_zero_le h0
    have hg : (ofI (n : Int)).2.getD 0 0 = n := by
      show (toL ((n : Int).natAbs)).getD 0 0 = n
      rw [Int.natAbs_natCast, toL_getD, Nat.pow_zero, Nat.div_one, Nat.mod_eq_of_lt (by omega)]
    rw [if_neg (by omega), if_neg (by omega), show (0 : Int) = ((0 : Nat) : Int) from rfl, ckI_n (by omega), nm_t, hneg, if_neg (by decide), if_pos (by decide), hg, if_pos (by omega), nm_t, small_val (by omega)]
theorem M_ref04_Mod_eq {fu : Nat} {a : Zr} {p : Int} (ha : OkS a) (h1 : 1 ≤ p) (h2 : p ≤ 65521) (hf : 3000000 ≤ fu) : M_ref04_Mod fu a p = some (zv a % p, 0) := by
  unfold M_ref04_Mod
  have hB : Bz 1 p := by unfold Bz; omega
  have hr := red_rng (a := zv a) (p := p) (by omega)
  rw [bd_t (M_ref02_Of_eq ⟨by omega, by omega⟩ (by omega)), bd_t (M_ref04_Rest_eq ha (hB.okS (by decide)) hf), zv_ofI]
  unfold restR
  rw [if_neg (by omega)]
  simp only [if_true]
  rw [bd_t (M_ref02_Small_eq hr.1 (by omega) hf)]
theorem M_ref10_Mod_eq {fu k : Nat} {a : List Zr} {p : Int} (ha : OkP k a) (hk : k ≤ 40000) (h1 : 1 ≤ p) (h2 : p ≤ 65521) (hl : a.length ≤ 1000000) (hf : 3000000 ≤ fu) : M_ref10_Mod fu a p = some (zmod p a, 0) := by
  unfold M_ref10_Mod
  have hd := dg_le (fun k => cf a k % p) a.length
  rw [if_neg (by omega), bd_t (v := zl a.length (fun k => cf a k % p))]
  · rw [bd_t (v := ((dg (fun k => cf a k % p) a.length : Nat) : Int))]
    · rw [ckN_n, ck_t (by rw [zl_len]; exact hd), nm_t, zl_take hd]
      rfl
    · rw [zl_len]
      refine loop_eq (fun t : Int => ∃ m : Nat, m ≤ a.length ∧ t = (m : Int) ∧ dg (fun k => cf a k % p) m = dg (fun k => cf a k % p) a.length) (fun t => t.toNat) _ ?_ _ _ ⟨a.length, Nat.le_refl _, rfl, rfl⟩ (by omega)
      rintro t L ⟨m, hm, rfl, hg⟩ ih
      unfold B_ref10_Mod_1
      cases m with
      | zero =>
        rw [if_neg (by omega), ← hg]
        rfl
      | succ m =>
        rw [if_pos (by omega), show ((m + 1 : Nat) : Int) - 1 = (m : Int) by omega, ck64_t ⟨by omega, by omega⟩, ckI_n (by rw [zl_len]; omega), nm_t, zl_getD (by omega)]
        by_cases h0 : cf a m % p = 0
        · rw [if_pos h0, ck64_t ⟨by omega, by omega⟩]
          exact ih _ ⟨m, by omega, rfl, by rw [← dg_step0 (f := fun k => cf a k % p) h0, hg]⟩ (by omega)
        · rw [if_neg h0, ← hg, dg_step1 (f := fun k => cf a k % p) h0]
  · refine loop_eq (fun s : List Int × Int => ∃ i : Nat, i ≤ a.length ∧ s = (zl i (fun k => cf a k % p), (i : Int))) (fun s => a.length - s.2.toNat) _ ?_ _ _ ⟨0, Nat.zero_le _, rfl⟩ (by show a.length - 0 < fu; omega)
    rintro s L ⟨i, hi, rfl⟩ ih
    unfold B_ref10_Mod_0
    simp only []
    by_cases h : i < a.length
    · rw [if_pos (by omega), ckI_n h, nm_t, bd_t (M_ref04_Mod_eq (ha.okS hk i) h1 h2 hf), cf_d]
      simp only []
      rw [ck_t (by rw [zl_len]; simp; omega), nm_t, zl_app (f := fun k => cf a k % p) rfl, ck64_t ⟨by omega, by omega⟩]
      exact ih _ ⟨i + 1, by omega, rfl⟩ (by show a.length - ((i : Int) + 1).toNat < a.length - (i : Int).toNat; omega)
    · rw [if_neg (by omega)]
      obtain rfl : i = a.length := by omega
      rfl
end Go.Proofs.YtjnjfinbdfolkaaGreat
end

section
set_option linter.unusedVariables false
set_option linter.unusedSimpArgs false
namespace Go.Proofs.YtjnjfinbdfolkaaGreat
theorem nrm_can (a : List Zr) : nrm a = nzp (nrm a).length (cf (nrm a)) := can_nzp _ _
end Go.Proofs.YtjnjfinbdfolkaaGreat
end

section
set_option linter.unusedVariables false
set_option linter.unusedSimpArgs false
namespace Go.Proofs.YtjnjfinbdfolkaaGreat
theorem ints_ext {a b : List Int} (hl : a.length = b.length) (h : ∀ j, j < a.length → ci a j = ci b j) : a = b := by
  refine List.ext_getElem hl fun j h1 h2 => ?_
  have := h j h1
  unfold ci at this
  rw [List.getD_eq_getElem?_getD, List.getD_eq_getElem?_getD, List.getElem?_eq_getElem h1, List.getElem?_eq_getElem h2] at this
  exact this
theorem M_ref06_Same_eq {fu : Nat} {a b : List Int} (hl : a.length ≤ 1000000) (hf : 3000000 ≤ fu) : M_ref06_Same fu a b = some (decide (a = b)) := by
  by_cases hlen : a.length = b.length
  · unfold M_ref06_Same
    rw [if_pos (by omega), bd_t (v := if a = b then .inl () else .inr ())]
    · by_cases h : a = b
      · rw [if_pos h, decide_eq_true h]
      · rw [if_neg h, decide_eq_false h]
    · refine loop_eq (fun i : Int => ∃ j : Nat, i = (j : Int) ∧ j ≤ a.length ∧ ∀ t, t < j → ci a t = ci b t) (fun i => a.length - i.toNat) _ ?_ _ _ ⟨0, rfl, Nat.zero_le _, fun t h => absurd h (Nat.not_lt_zero _)⟩ (by show a.length - 0 < fu; omega)
      rintro i L ⟨j, rfl, hj, he⟩ ih
      unfold B_ref06_Same_0
      by_cases h1 : j < a.length
      · rw [if_pos (by omega), ckI_n h1, nm_t, ckI_n (by omega), nm_t, ci_d, ci_d]
        by_cases h2 : ci a j = ci b j
        · rw [if_pos h2, ck64_t ⟨by omega, by omega⟩]
          refine ih _ ⟨j + 1, rfl, by omega, fun t ht => ?_⟩ (by omega)
          by_cases h3 : t = j
          · rw [h3]; exact h2
          · exact he t (by omega)
        · rw [if_neg h2, if_neg (fun e => h2 (by rw [e]))]
      · rw [if_neg (by omega), if_pos (ints_ext hlen fun t ht => he t (by omega))]
  · rw [ref06_same_f hlen, decide_eq_false (fun e => hlen (by rw [e]))]
def GoodF (p : Int) (n : Nat) (fs : List (List Int)) : Prop := (∀ t, t < fs.length → (fs.getD t []).length ≤ n ∧ PlL p (fs.getD t [])) ∧ ∀ t j, t < fs.length → j < t → Cop p (ci (fs.getD t [])) (ci (fs.getD j []))
theorem right_inner2 {fu i : Nat} {p : Int} {f : List Int} {fs : List (List Int)} (hp : prm p = true) (hf1 : Fp p f) (hfl : f.length ≤ 290) (hi : i ≤ fs.length) (hil : i ≤ 1000000) (hF : ∀ j, j < i → Fp p (fs.getD j []) ∧ (fs.getD j []).length ≤ 290) (hf : 3000000 ≤ fu) :
    ∃ r, loopN (B_hensel_right_1 fu p f (fs.take i)) fu 0 = some r ∧ ((r = .inl () ∧ ∀ j, j < i → Cop p (ci f) (ci (fs.getD j []))) ∨ (r = .inr () ∧ ¬ ∀ j, j < i → Cop p (ci f) (ci (fs.getD j [])))) := by
  obtain ⟨p1, p2⟩ := prm_rng hp
  have hlen : (fs.take i).length = i := by rw [List.length_take]; omega
  have hget : ∀ j, j < i → (fs.take i).getD j [] = fs.getD j [] := fun j hj => by rw [List.getD_eq_getElem?_getD, List.getElem?_take, if_pos hj, ← List.getD_eq_getElem?_getD]
  refine loop_ex (fun x : Int => ∃ j : Nat, x = (j : Int) ∧ j ≤ i ∧ ∀ t, t < j → Cop p (ci f) (ci (fs.getD t []))) (fun x => i - x.toNat) _ ?_ _ _ ⟨0, rfl, Nat.zero_le _, fun t h => absurd h (Nat.not_lt_zero _)⟩ (by show i - 0 < fu; omega)
  rintro x L ⟨j, rfl, hj, he⟩ ih
  unfold B_hensel_right_1
  by_cases h1 : j < i
  · obtain ⟨k1, k2⟩ := hF j h1
    obtain ⟨d, s, t, hg, hR, e3⟩ := M_fpoly_Gcd_ex (fu := fu) hp hf1 k1 hfl k2 hf
    have hgc := gcd_cop p1 hR e3
    rw [if_pos (by omega), ckI_n (by omega), nm_t, hget j h1, bd_t hg]
    simp only []
    by_cases h2 : d.length = 1
    · rw [if_pos (by omega), ck64_t ⟨by omega, by omega⟩]
      refine ih _ ⟨j + 1, rfl, by omega, fun t ht => ?_⟩ (by omega)
      by_cases h3 : t = j
      · rw [h3]
        exact hgc.1 h2
      · exact he t (by omega)
    · rw [if_neg (by omega)]
      exact ⟨_, rfl, .inr ⟨rfl, fun h => h2 (hgc.2 (h j h1))⟩⟩
  · rw [if_neg (by omega)]
    exact ⟨_, rfl, .inl ⟨rfl, fun t ht => he t (by omega)⟩⟩
theorem right_tail {p : Int} {a : List Zr} {fs : List (List Int)} (hp : prm p = true) (hal : a.length ≤ 66) (h0 : a.length ≠ 0) (hl : (zmod p a).length = a.length) (g1 : ∀ t, t < fs.length → (fs.getD t []).length ≤ a.length ∧ PlL p (fs.getD t [])) :
    (∀ f ∈ fs, Fp p f) ∧ (∀ f ∈ fs, f.length ≤ 66) ∧ (zmod p a).drop (a.length - 1) = [ci (zmod p a) (a.length - 1)] ∧ Fp p [ci (zmod p a) (a.length - 1)] := by
  obtain ⟨p1, p2⟩ := prm_rng hp
  have hall : ∀ {q : List Int → Prop}, (∀ t, t < fs.length → q (fs.getD t [])) → ∀ f ∈ fs, q f := fun {q} h f hf => by
    obtain ⟨j, hj, rfl⟩ := List.mem_iff_getElem.1 hf
    have := h j hj
    rw [List.getD_eq_getElem?_getD, List.getElem?_eq_getElem hj] at this
    exact this
  have hz := zmod_fp (p := p) (by omega) a
  have htop : ci (zmod p a) (a.length - 1) ≠ 0 := by
    rcases hz.nl with h | h
    · omega
    · rw [hl] at h; exact h
  have ht1 := hz.nn (a.length - 1)
  have ht2 := hz.lt (a.length - 1)
  refine ⟨hall fun t ht => (g1 t ht).2.fp (by omega), hall fun t ht => by have := (g1 t ht).1; omega, ?_, fp_one (by omega) ht2⟩
  rw [List.drop_eq_getElem_cons (by omega), List.drop_eq_nil_of_le (by omega)]
  unfold ci
  rw [List.getD_eq_getElem?_getD, List.getElem?_eq_getElem (by omega)]
  rfl
theorem M_hensel_right_iff {fu k : Nat} {p : Int} {a : List Zr} {fs : List (List Int)} (hp : prm p = true) (ha : OkP k a) (hk : k ≤ 40000) (hal : a.length ≤ 66) (hf : 3000000 ≤ fu) :
    ∃ b, M_hensel_right fu a fs p = some b ∧ (b = true ↔ RightP p a fs) := by
  obtain ⟨p1, p2⟩ := prm_rng hp
  unfold M_hensel_right
  rw [bd_t (M_zpoly_Mod_eq ha hk (by omega) p2 (by omega) hf)]
  simp only []
  by_cases h0 : a.length = 0
  · rw [if_pos (by omega)]
    exact ⟨_, rfl, fun e => absurd e (by decide), fun e => absurd h0 e.a0⟩
  · rw [if_neg (by omega)]
    by_cases hl : (zmod p a).length = a.length
    · rw [if_pos (by omega)]
      by_cases hfl : a.length < fs.length
      · rw [if_pos (by omega)]
        exact ⟨_, rfl, fun e => absurd e (by decide), fun e => by have := e.fl; omega⟩
      · rw [if_neg (by omega)]
        obtain ⟨r, e1, e2⟩ := loop_ex (f := B_hensel_right_0 fu a fs p) (fun x : Int × List Int => ∃ i : Nat, x = ((i : Int), zmod p a) ∧ i ≤ fs.length ∧ (∀ t, t < i → (fs.getD t []).length ≤ a.length ∧ PlL p (fs.getD t [])) ∧ ∀ t j, t < i → j < t → Cop p (ci (fs.getD t [])) (ci (fs.getD j []))) (fun x => fs.length - x.1.toNat)
          (fun r => (r = .inr () ∧ ¬ GoodF p a.length fs) ∨ (r = .inl (zmod p a) ∧ GoodF p a.length fs)) (by
            rintro x L ⟨i, rfl, hi, g1, g2⟩ ih
            unfold B_hensel_right_0
            simp only []
            by_cases h1 : i < fs.length
            · rw [if_pos (by omega), bd_t rfl]
              simp only [if_true]
              rw [ckI_n h1, nm_t]
              by_cases h2 : a.length < (fs.getD i []).length
              · rw [if_pos (by omega)]
                exact ⟨_, rfl, .inl ⟨rfl, fun h => by have := (h.1 i h1).1; omega⟩⟩
              · obtain ⟨b, b1, b2⟩ := M_hensel_plain_ex (fu := fu) (l := fs.getD i []) (p := p) (by omega) hf
                rw [if_neg (by omega), bd_t b1]
                cases b with
                | false =>
                  rw [if_pos (by decide)]
                  exact ⟨_, rfl, .inl ⟨rfl, fun h => absurd (b2.2 (h.1 i h1).2) (by decide)⟩⟩
                | true =>
                  have hpl := b2.1 rfl
                  rw [if_neg (by decide), ckN_n, ck_t (by omega), nm_t]
                  obtain ⟨q, q1, q2⟩ := right_inner2 (fu := fu) (i := i) (fs := fs) hp (hpl.fp (by omega)) (by omega) (by omega) (by omega) (fun j hj => ⟨(g1 j hj).2.fp (by omega), by have := (g1 j hj).1; omega⟩) hf
                  rw [bd_t q1]
                  rcases q2 with ⟨rfl, q2⟩ | ⟨rfl, q2⟩
                  · simp only []
                    rw [ck64_t ⟨by omega, by omega⟩]
                    refine ih _ ⟨i + 1, rfl, by omega, fun t ht => ?_, fun t j ht hj => ?_⟩ (by show fs.length - ((i : Int) + 1).toNat < fs.length - (i : Int).toNat; omega)
                    · by_cases h4 : t = i
                      · rw [h4]; exact ⟨by omega, hpl⟩
                      · exact g1 t (by omega)
                    · by_cases h4 : t = i
                      · rw [h4] at hj ⊢; exact q2 j hj
                      · exact g2 t j (by omega) hj
                  · exact ⟨_, rfl, .inl ⟨rfl, fun h => q2 fun j hj => h.2 i j h1 hj⟩⟩
            · rw [if_neg (by omega), bd_t rfl]
              simp only [Bool.false_eq_true, if_false]
              exact ⟨_, rfl, .inr ⟨rfl, fun t ht => g1 t (by omega), fun t j ht hj => g2 t j (by omega) hj⟩⟩) fu (0, zmod p a) ⟨0, rfl, Nat.zero_le _, fun t h => absurd h (Nat.not_lt_zero _), fun t j h => absurd h (Nat.not_lt_zero _)⟩ (by show fs.length - 0 < fu; omega)
        rw [bd_t e1]
        rcases e2 with ⟨rfl, e2⟩ | ⟨rfl, g1, g2⟩
        · exact ⟨_, rfl, fun e => absurd e (by decide), fun e => absurd ⟨e.pl, e.cp⟩ e2⟩
        · simp only []
          obtain ⟨hFs, hLs, hdrop, hone⟩ := right_tail hp hal h0 hl g1
          have hpb : fs.length * 66 ≤ 66 * 66 := Nat.mul_le_mul_right _ (by omega)
          have hpl := prodF_le (p := p) hLs
          have hz := zmod_fp (p := p) (by omega) a
          have hfm := fmul_le p (prodF p fs) [ci (zmod p a) (a.length - 1)]
          simp only [List.length_cons, List.length_nil] at hfm
          rw [bd_t (M_hensel_product_eq hp hFs hLs (by omega) (by decide) (by omega) hf), hl, show ((a.length : Nat) : Int) - 1 = ((a.length - 1 : Nat) : Int) by omega, ck64_t ⟨by omega, by omega⟩, ckN_n, ck_t (by omega), nm_t, hdrop, bd_t (M_fpoly_Mul_eq hp (prodF_fp (by omega) fs) hone (by omega) (by simp) hf)]
          simp only []
          rw [bd_t (M_hensel_equal_eq hp (fmul_fp (by omega) _ _) hz (by omega) (by omega) hf)]
          exact ⟨_, rfl, fun e => ⟨h0, hl, by omega, g1, g2, of_decide_eq_true e⟩, fun e => decide_eq_true e.pr⟩
    · rw [if_neg (by omega)]
      exact ⟨_, rfl, fun e => absurd e (by decide), fun e => absurd e.al hl⟩
theorem prod13_eq {fu M : Nat} {fs : List (List Int)} {p b : Int} (hp : prm p = true) (hb : b < 0) (hF : ∀ f ∈ fs, Fp p f) (hM : ∀ f ∈ fs, f.length ≤ M) (hb1 : 1 + fs.length * M ≤ 90000) (hb2 : M ≤ 90000) (hb3 : fs.length ≤ 90000) (hf : 3000000 ≤ fu) : M_ref13_product fu fs b p = some (prodF p fs) := by
  obtain ⟨p1, p2⟩ := prm_rng hp
  unfold M_ref13_product
  rw [bd_t (v := prodF p fs)]
  refine loop_eq (fun s : List Int × Int => ∃ i : Nat, i ≤ fs.length ∧ s = (prodF p (fs.take i), (i : Int))) (fun s => fs.length - s.2.toNat) _ ?_ _ _ ⟨0, Nat.zero_le _, rfl⟩ (by show fs.length - 0 < fu; omega)
  rintro s L ⟨i, hi, rfl⟩ ih
  unfold B_ref13_product_0
  simp only []
  by_cases h1 : i < fs.length
  · have hm := getD_memi h1
    have hl := prodF_le (p := p) (fs := fs.take i) (M := M) fun f hf => hM f (List.mem_of_mem_take hf)
    have hl2 : (fs.take i).length * M ≤ fs.length * M := Nat.mul_le_mul_right _ (List.length_take_le' ..)
    have hl3 := hM _ hm
    rw [if_pos (by omega), if_neg (by omega), ckI_n h1, nm_t, bd_t (M_ref06_Times_eq hp (prodF_fp (by omega) _) (hF _ hm) (by omega) (by omega) hf), ck64_t ⟨by omega, by omega⟩]
    refine ih _ ⟨i + 1, by omega, ?_⟩ (by show fs.length - ((i : Int) + 1).toNat < fs.length - (i : Int).toNat; omega)
    congr 1
    unfold prodF
    rw [take_snoc h1, List.foldl_append]
    rfl
  · rw [if_neg (by omega), List.take_of_length_le (by omega)]
theorem zmod_nrm (p : Int) (a : List Zr) : zmod p (nrm a) = zmod p a := by
  unfold zmod
  refine nl_ext (fun k hk => by rw [cf_ge hk, Int.zero_emod]) (fun k hk => by rw [cf_ge hk, Int.zero_emod]) fun k => by rw [nrm_cf]
theorem plain_iff {p : Int} {q : List Int} (hp : 2 ≤ p) (h1 : 1 < q.length) (ht : ci q (q.length - 1) = 1) : pm p q = q ↔ PlL p q := by
  refine ⟨fun h => ⟨fun j _ => ?_, h1, ht⟩, fun h => (h.fp (by omega)).pm⟩
  have e := pm_ci p q j
  rw [h] at e
  rw [e]
  exact red_rng (by omega)
theorem right_inner13 {fu i : Nat} {p : Int} {f : List Int} {fs : List (List Int)} (hp : prm p = true) (hf1 : Fp p f) (hfl : f.length ≤ 290) (hi : i ≤ fs.length) (hil : i ≤ 1000000) (hF : ∀ j, j < i → Fp p (fs.getD j []) ∧ (fs.getD j []).length ≤ 290) (hf : 3000000 ≤ fu) :
    ∃ r, loopN (B_ref13_Right_1 fu (i : Int) f) fu (fs, p, 0) = some r ∧ ((r = .inl (fs, p) ∧ ∀ j, j < i → Cop p (ci f) (ci (fs.getD j []))) ∨ (r = .inr () ∧ ¬ ∀ j, j < i → Cop p (ci f) (ci (fs.getD j [])))) := by
  obtain ⟨p1, p2⟩ := prm_rng hp
  refine loop_ex (fun x : List (List Int) × Int × Int => ∃ j : Nat, x = (fs, p, (j : Int)) ∧ j ≤ i ∧ ∀ t, t < j → Cop p (ci f) (ci (fs.getD t []))) (fun x => i - x.2.2.toNat) _ ?_ _ _ ⟨0, rfl, Nat.zero_le _, fun t h => absurd h (Nat.not_lt_zero _)⟩ (by show i - 0 < fu; omega)
  rintro x L ⟨j, rfl, hj, he⟩ ih
  unfold B_ref13_Right_1
  simp only []
  by_cases h1 : j < i
  · obtain ⟨k1, k2⟩ := hF j h1
    obtain ⟨d, s, t, hg, hR, e3⟩ := M_ref06_Gcd_ex (fu := fu) hp hf1 k1 hfl k2 hf
    have hgc := gcd_cop p1 hR e3
    rw [if_pos (by omega), ckI_n (by omega), nm_t, bd_t hg]
    simp only []
    by_cases h2 : d.length = 1
    · rw [if_pos (by omega), ck64_t ⟨by omega, by omega⟩]
      refine ih _ ⟨j + 1, rfl, by omega, fun t ht => ?_⟩ (by show i - ((j : Int) + 1).toNat < i - (j : Int).toNat; omega)
      by_cases h3 : t = j
      · rw [h3]
        exact hgc.1 h2
      · exact he t (by omega)
    · rw [if_neg (by omega)]
      exact ⟨_, rfl, .inr ⟨rfl, fun h => h2 (hgc.2 (h j h1))⟩⟩
  · rw [if_neg (by omega)]
    exact ⟨_, rfl, .inl ⟨rfl, fun t ht => he t (by omega)⟩⟩
theorem M_ref13_Right_iff {fu k : Nat} {p : Int} {a : List Zr} {fs : List (List Int)} (hp : prm p = true) (ha : OkP k a) (hk : k ≤ 40000) (hal : (nrm a).length ≤ 66) (hal2 : a.length ≤ 1000) (hfs : ∀ g ∈ fs, Rl g) (hf : 3000000 ≤ fu) :
    ∃ b, M_ref13_Right fu a fs p = some b ∧ (b = true ↔ RightP p (nrm a) fs) := by
  obtain ⟨p1, p2⟩ := prm_rng hp
  unfold M_ref13_Right
  have hz := zmod_nrm p a
  rw [bd_t (M_ref10_Mod_eq ha hk (by omega) p2 (by omega) hf), ← hz]
  simp only []
  rw [bd_t (M_ref10_Norm_eq ha (by omega) (by omega) hf), show nzp a.length (cf a) = nrm a from rfl]
  generalize nrm a = x at *
  by_cases h0 : x.length = 0
  · rw [if_pos (by omega)]
    exact ⟨_, rfl, fun e => absurd e (by decide), fun e => absurd h0 e.a0⟩
  · rw [if_neg (by omega)]
    by_cases hl : (zmod p x).length = x.length
    · rw [if_pos (by omega)]
      by_cases hfl : x.length < fs.length
      · rw [if_pos (by omega)]
        exact ⟨_, rfl, fun e => absurd e (by decide), fun e => by have := e.fl; omega⟩
      · rw [if_neg (by omega)]
        obtain ⟨r, e1, e2⟩ := loop_ex (f := B_ref13_Right_0 fu fs p) (fun y : Int × List Int × List Zr => ∃ i : Nat, y = ((i : Int), zmod p x, x) ∧ i ≤ fs.length ∧ (∀ t, t < i → (fs.getD t []).length ≤ x.length ∧ PlL p (fs.getD t [])) ∧ ∀ t j, t < i → j < t → Cop p (ci (fs.getD t [])) (ci (fs.getD j []))) (fun y => fs.length - y.1.toNat)
          (fun r => (r = .inr () ∧ ¬ GoodF p x.length fs) ∨ (r = .inl (zmod p x) ∧ GoodF p x.length fs)) (by
            rintro y L ⟨i, rfl, hi, g1, g2⟩ ih
            unfold B_ref13_Right_0
            simp only []
            by_cases h1 : i < fs.length
            · rw [if_pos (by omega), ckI_n h1, nm_t]
              by_cases h2 : (fs.getD i []).length < 2
              · rw [if_pos (by omega)]
                exact ⟨_, rfl, .inl ⟨rfl, fun h => by have := (h.1 i h1).2.2.1; omega⟩⟩
              · rw [if_neg (by omega)]
                by_cases h3 : x.length < (fs.getD i []).length
                · rw [if_pos (by omega)]
                  exact ⟨_, rfl, .inl ⟨rfl, fun h => by have := (h.1 i h1).1; omega⟩⟩
                · rw [if_neg (by omega), show (((fs.getD i []).length : Nat) : Int) - 1 = (((fs.getD i []).length - 1 : Nat) : Int) by omega, ck64_t ⟨by omega, by omega⟩, ckI_n (by omega), nm_t, ci_d]
                  by_cases h4 : ci (fs.getD i []) ((fs.getD i []).length - 1) = 1
                  · rw [if_pos h4, bd_t (M_ref06_Plain_eq (by omega) p2 (hfs _ (getD_memi h1)) (by omega) hf), bd_t (M_ref06_Same_eq (by have := pm_le p (fs.getD i []); omega) hf)]
                    have hpi := plain_iff p1 (show 1 < (fs.getD i []).length by omega) h4
                    by_cases h5 : pm p (fs.getD i []) = fs.getD i []
                    · have hpl := hpi.1 h5
                      rw [decide_eq_true h5, if_neg (by decide)]
                      obtain ⟨q, q1, q2⟩ := right_inner13 (fu := fu) (i := i) (fs := fs) hp (hpl.fp (by omega)) (by omega) (by omega) (by omega) (fun j hj => ⟨(g1 j hj).2.fp (by omega), by have := (g1 j hj).1; omega⟩) hf
                      rw [bd_t q1]
                      rcases q2 with ⟨rfl, q2⟩ | ⟨rfl, q2⟩
                      · simp only []
                        rw [ck64_t ⟨by omega, by omega⟩]
                        refine ih _ ⟨i + 1, rfl, by omega, fun t ht => ?_, fun t j ht hj => ?_⟩ (by show fs.length - ((i : Int) + 1).toNat < fs.length - (i : Int).toNat; omega)
                        · by_cases h4 : t = i
                          · rw [h4]; exact ⟨by omega, hpl⟩
                          · exact g1 t (by omega)
                        · by_cases h4 : t = i
                          · rw [h4] at hj ⊢; exact q2 j hj
                          · exact g2 t j (by omega) hj
                      · exact ⟨_, rfl, .inl ⟨rfl, fun h => q2 fun j hj => h.2 i j h1 hj⟩⟩
                    · rw [decide_eq_false h5, if_pos (by decide)]
                      exact ⟨_, rfl, .inl ⟨rfl, fun h => h5 (hpi.2 (h.1 i h1).2)⟩⟩
                  · rw [if_neg h4]
                    exact ⟨_, rfl, .inl ⟨rfl, fun h => h4 (h.1 i h1).2.2.2⟩⟩
            · rw [if_neg (by omega)]
              exact ⟨_, rfl, .inr ⟨rfl, fun t ht => g1 t (by omega), fun t j ht hj => g2 t j (by omega) hj⟩⟩) fu (0, zmod p x, x) ⟨0, rfl, Nat.zero_le _, fun t h => absurd h (Nat.not_lt_zero _), fun t j h => absurd h (Nat.not_lt_zero _)⟩ (by show fs.length - 0 < fu; omega)
        rw [bd_t e1]
        rcases e2 with ⟨rfl, e2⟩ | ⟨rfl, g1, g2⟩
        · exact ⟨_, rfl, fun e => absurd e (by decide), fun e => absurd ⟨e.pl, e.cp⟩ e2⟩
        · simp only []
          obtain ⟨hFs, hLs, hdrop, hone⟩ := right_tail hp hal h0 hl g1
          have hpb : fs.length * 66 ≤ 66 * 66 := Nat.mul_le_mul_right _ (by omega)
          have hpl := prodF_le (p := p) hLs
          have hzf := zmod_fp (p := p) (by omega) x
          have hfm := fmul_le p (prodF p fs) [ci (zmod p x) (x.length - 1)]
          simp only [List.length_cons, List.length_nil] at hfm
          rw [bd_t (prod13_eq hp (by decide) hFs hLs (by omega) (by decide) (by omega) hf), hl, show ((x.length : Nat) : Int) - 1 = ((x.length - 1 : Nat) : Int) by omega, ck64_t ⟨by omega, by omega⟩, ckN_n, ck_t (by omega), nm_t, hdrop, bd_t (M_ref06_Times_eq hp (prodF_fp (by omega) fs) hone (by omega) (by simp) hf), bd_t (M_ref06_Same_eq (by omega) hf)]
          exact ⟨_, rfl, fun e => ⟨h0, hl, by omega, g1, g2, of_decide_eq_true e⟩, fun e => decide_eq_true e.pr⟩
    · rw [if_neg (by omega)]
      exact ⟨_, rfl, fun e => absurd e (by decide), fun e => absurd e.al hl⟩
end Go.Proofs.YtjnjfinbdfolkaaGreat
end

section
set_option linter.unusedVariables false
set_option linter.unusedSimpArgs false
namespace Go.Proofs.YtjnjfinbdfolkaaGreat
def sxZ : List Pz → List Pz → Pz
  | r :: rs, g :: gs => r * prZ gs + g * sxZ rs gs
  | _, _ => pc 0
theorem fs_sxZ : ∀ {rs gs : List Pz}, (∀ r ∈ rs, Fs r) → (∀ g ∈ gs, Fs g) → Fs (sxZ rs gs)
  | r :: rs, g :: gs, h1, h2 => ((h1 r (List.mem_cons_self ..)).mul (Fs.prZ fun x hx => h2 x (List.mem_cons_of_mem _ hx))).add ((h2 g (List.mem_cons_self ..)).mul (fs_sxZ (fun x hx => h1 x (List.mem_cons_of_mem _ hx)) fun x hx => h2 x (List.mem_cons_of_mem _ hx)))
  | [], [], _, _ => Fs.pc 0
  | [], _ :: _, _, _ => Fs.pc 0
  | _ :: _, [], _, _ => Fs.pc 0
theorem prod_turn (m : Int) : ∀ {us rs : List Pz}, us.length = rs.length → ∃ Z : Pz, prZ (us.zipWith (fun u r => u + pc m * r) rs) = prZ us + pc m * sxZ rs us + pc (m * m) * Z
  | [], [], _ => ⟨pc 0, by
    show pc 1 = pc 1 + pc m * pc 0 + pc (m * m) * pc 0
    funext k
    rw [p_add, p_add, pc_mul, pc_mul, pc_zero, Int.mul_zero, Int.mul_zero]; omega⟩
  | [], _ :: _, h => by cases h
  | _ :: _, [], h => by cases h
  | u :: us, r :: rs, h => by
    obtain ⟨Z, hZ⟩ := prod_turn m (us := us) (rs := rs) (by simpa using h)
    refine ⟨u * Z + r * sxZ rs us + pc m * (r * Z), ?_⟩
    show (u + pc m * r) * prZ (us.zipWith (fun u r => u + pc m * r) rs) = u * prZ us + pc m * (r * prZ us + u * sxZ rs us) + pc (m * m) * (u * Z + r * sxZ rs us + pc m * (r * Z))
    rw [hZ, ← pc_pc]
    simp only [p_mul_add, p_add_mul, p_mul_assoc, p_mul_left_comm, p_mul_comm]
    funext k
    simp only [p_add]
    omega
theorem sxZ_at : ∀ {gs rs : List Pz} {i : Nat}, gs.length = rs.length → i < gs.length → (∀ r ∈ rs, Fs r) → (∀ g ∈ gs, Fs g) → ∃ Z : Pz, Fs Z ∧ sxZ rs gs = rs.getD i (pc 0) * (prZ (gs.take i) * prZ (gs.drop (i + 1))) + gs.getD i (pc 0) * Z
  | g :: gs, r :: rs, 0, _, _, h1, h2 => ⟨sxZ rs gs, fs_sxZ (fun x hx => h1 x (List.mem_cons_of_mem _ hx)) (fun x hx => h2 x (List.mem_cons_of_mem _ hx)), by
    show r * prZ gs + g * sxZ rs gs = r * (pc 1 * prZ gs) + g * sxZ rs gs
    rw [p_one_mul]⟩
  | g :: gs, r :: rs, i + 1, hl, hi, h1, h2 => by
    have hi' : i < gs.length := by simpa using hi
    obtain ⟨Z, fZ, hZ⟩ := sxZ_at (gs := gs) (rs := rs) (i := i) (by simpa using hl) hi' (fun x hx => h1 x (List.mem_cons_of_mem _ hx)) (fun x hx => h2 x (List.mem_cons_of_mem _ hx))
    have hmem : ∀ g ∈ gs, Fs g := fun x hx => h2 x (List.mem_cons_of_mem _ hx)
    have hp : prZ gs = gs.getD i (pc 0) * (prZ (gs.take i) * prZ (gs.drop (i + 1))) := by
      have e : gs = gs.take i ++ (gs.getD i (pc 0) :: gs.drop (i + 1)) := by
        rw [List.getD_eq_getElem?_getD, List.getElem?_eq_getElem hi']
        show gs = gs.take i ++ (gs[i] :: gs.drop (i + 1))
        rw [← List.drop_eq_getElem_cons hi', List.take_append_drop]
      conv => lhs; rw [e, prZ_append]
      show prZ (gs.take i) * (gs.getD i (pc 0) * prZ (gs.drop (i + 1))) = _
      rw [p_mul_left_comm]
    refine ⟨r * (prZ (gs.take i) * prZ (gs.drop (i + 1))) + g * Z, ?_, ?_⟩
    · refine ((h1 r (List.mem_cons_self ..)).mul ((Fs.prZ fun x hx => hmem x (List.mem_of_mem_take hx)).mul (Fs.prZ fun x hx => hmem x (List.mem_of_mem_drop hx)))).add ((h2 g (List.mem_cons_self ..)).mul fZ)
    · show r * prZ gs + g * sxZ rs gs = rs.getD i (pc 0) * (g * prZ (gs.take i) * prZ (gs.drop (i + 1))) + gs.getD i (pc 0) * (r * (prZ (gs.take i) * prZ (gs.drop (i + 1))) + g * Z)
      rw [hZ, hp]
      simp only [p_mul_add, p_mul_assoc, p_mul_left_comm, p_mul_comm]
      funext k
      simp only [p_add]
      omega
  | [], [], i, _, hi, _, _ => absurd hi (Nat.not_lt_zero _)
theorem crt_list {p : Int} {E : Pz} : ∀ {gs : List Pz}, (∀ g ∈ gs, Fs g) → gs.Pairwise (Cop p) → Fs E → (∀ g ∈ gs, ∃ W : Pz, Fs W ∧ Cg p E (W * g)) → ∃ W : Pz, Fs W ∧ Cg p E (W * prZ gs)
  | [], _, _, fE, _ => ⟨E, fE, Cg.of (by show E = E * pc 1; rw [p_mul_one])⟩
  | g :: gs, hF, hc, fE, h => by
    obtain ⟨c1, c2⟩ := List.pairwise_cons.1 hc
    have hF' : ∀ x ∈ gs, Fs x := fun x hx => hF x (List.mem_cons_of_mem _ hx)
    have fg := hF g (List.mem_cons_self ..)
    obtain ⟨W, fW, hW⟩ := crt_list hF' c2 fE fun x hx => h x (List.mem_cons_of_mem _ hx)
    obtain ⟨V, fV, hV⟩ := h g (List.mem_cons_self ..)
    obtain ⟨s, t, f1, f2, hst⟩ := (Cop.prZ (p := p) fg hF' fun x hx => (c1 x hx).symm).symm
    refine ⟨s * W + t * V, (f1.mul fW).add (f2.mul fV), ?_⟩
    have e1 : Cg p E ((s * g + t * prZ gs) * E) := by
      have := (hst.symm).mul (Cg.rfl (f := E))
      rw [p_one_mul] at this
      exact this
    refine e1.trans ?_
    show Cg p ((s * g + t * prZ gs) * E) ((s * W + t * V) * (g * prZ gs))
    rw [p_add_mul, p_add_mul]
    refine Cg.add ?_ ?_
    · refine ((Cg.rfl (f := s * g)).mul hW).trans (Cg.of ?_)
      simp only [p_mul_assoc, p_mul_left_comm, p_mul_comm]
    · refine ((Cg.rfl (f := t * prZ gs)).mul hV).trans (Cg.of ?_)
      simp only [p_mul_assoc, p_mul_left_comm, p_mul_comm]
theorem Mn.mul {A B : Pz} {d e : Nat} (hA : Mn A d) (hB : Mn B e) : Mn (A * B) (d + e) := by
  refine ⟨?_, fun k hk => ?_⟩
  · have := hB.top (x := A) (n := d) hA.2
    rw [this, hA.1]
  · exact p_mul_out (n := d + 1) (m := e + 1) (fun j hj => hA.2 j (by omega)) (fun j hj => hB.2 j (by omega)) (by omega)
theorem Mn.fs {A : Pz} {d : Nat} (h : Mn A d) : Fs A := ⟨d + 1, fun k hk => h.2 k (by omega)⟩
def degS (ds : List Nat) : Nat := ds.foldr (· + ·) 0
theorem prZ_mn : ∀ {gs : List Pz} {ds : List Nat}, All2 Mn gs ds → Mn (prZ gs) (degS ds)
  | [], [], _ => ⟨rfl, fun k hk => by show pc 1 k = 0; unfold pc; rw [if_neg (by show ¬ k = 0; have : 0 < k := hk; omega)]⟩
  | g :: gs, d :: ds, h => h.1.mul (prZ_mn h.2)
theorem sxZ_short : ∀ {gs rs : List Pz} {ds : List Nat}, All2 Mn gs ds → All2 (fun r d => ∀ k, d ≤ k → r k = 0) rs ds → ∀ k, degS ds ≤ k → sxZ rs gs k = 0
  | [], [], [], _, _, k, _ => pc_zero k
  | g :: gs, r :: rs, d :: ds, h1, h2, k, hk => by
    have hk : d + degS ds ≤ k := hk
    show (r * prZ gs + g * sxZ rs gs) k = 0
    have hp := prZ_mn h1.2
    have ih := sxZ_short h1.2 h2.2
    rw [p_add, p_mul_out (n := d) (m := degS ds + 1) h2.1 (fun j hj => hp.2 j (by omega)) (by omega), p_mul_out (n := d + 1) (m := degS ds) (fun j hj => h1.1.2 j (by omega)) ih (by omega)]
    rfl
  | [], [], _ :: _, h, _, _, _ => h.elim
  | [], _ :: _, [], _, h, _, _ => h.elim
  | [], _ :: _, _ :: _, h, _, _, _ => h.elim
  | _ :: _, _, [], h, _, _, _ => h.elim
  | _ :: _, [], _ :: _, _, h, _, _ => h.elim
end Go.Proofs.YtjnjfinbdfolkaaGreat
end

section
set_option linter.unusedVariables false
set_option linter.unusedSimpArgs false
namespace Go.Proofs.YtjnjfinbdfolkaaGreat
def uNew (m : Int) (u : List Zr) (r : List Int) : List Zr := nzp u.length (fun k => cf u k + m * ci r k)
theorem uNew_cf {m : Int} {u : List Zr} {r : List Int} (h : r.length ≤ u.length) (k : Nat) : cf (uNew m u r) k = cf u k + m * ci r k := nzp_cf (fun k hk => by rw [cf_ge hk, ci_ge (by omega), Int.mul_zero]; rfl) k
theorem red_self {x : List Zr} {m : Int} (hc : x = nzp x.length (cf x)) (h : ∀ k, 0 ≤ cf x k ∧ cf x k < m) : redP x m = x := by
  unfold redP
  rw [show (fun j => cf x j % m) = cf x from funext fun j => Int.emod_eq_of_lt (h j).1 (h j).2]
  exact hc.symm
theorem up_step {p : Int} {j : Nat} {u : List Zr} {g r : List Int} (hp : prm p = true) (hj : 1 ≤ j) (hj2 : j + 1 ≤ 1000) (hu : Up p j u g) (hg : 1 < g.length) (hr : Fp p r) (hlt : r.length < g.length) : Up p (j + 1) (uNew (p ^ j) u r) g := by
  obtain ⟨p1, p2⟩ := prm_rng hp
  have hl := hu.len
  have hm2 := pow_ge hp hj
  have hmB := pow_bz hp hj2
  have hcf := uNew_cf (m := p ^ j) (u := u) (r := r) (by omega)
  have htop : cf (uNew (p ^ j) u r) (u.length - 1) = 1 := by rw [hcf, hu.top, ci_ge (by omega), Int.mul_zero]; rfl
  have hlen : (uNew (p ^ j) u r).length = u.length := by
    refine Nat.le_antisymm (by unfold uNew; rw [nzp_len]; exact dg_le _ _) (Nat.le_of_not_lt fun hlt => ?_)
    rw [cf_ge (by omega)] at htop
    cases htop
  have hrng : ∀ k, 0 ≤ cf (uNew (p ^ j) u r) k ∧ cf (uNew (p ^ j) u r) k < p ^ (j + 1) := fun k => by
    have h1 := hu.rd.mod k
    have h2 := red_rng (a := cf u k) (p := p ^ j) (by omega)
    rw [h1] at h2
    have h3 : 0 ≤ p ^ j * ci r k := Int.mul_nonneg (by omega) (hr.nn k)
    have h4 : p ^ j * ci r k ≤ p ^ j * (p - 1) := Int.mul_le_mul_of_nonneg_left (by have := hr.lt k; omega) (by omega)
    rw [Int.mul_sub, Int.mul_one, show p ^ j * p = p ^ (j + 1) from (Int.pow_succ ..).symm] at h4
    rw [hcf]
    omega
  refine ⟨⟨OkP_nzp fun k => ?_, red_self (can_nzp _ _) hrng⟩, by omega, by rw [hlen]; exact htop, fun k => ?_⟩
  · have h1 := hrng k
    rw [hcf] at h1
    exact hmB.le (by omega)
  · rw [hcf, Int.add_emod, Int.emod_eq_zero_of_dvd (Int.dvd_trans (dvd_pow_self hj) (Int.dvd_mul_right _ _)), Int.add_zero, Int.emod_emod, hu.cg k]
theorem ups_step {p : Int} {j : Nat} (hp : prm p = true) (hj : 1 ≤ j) (hj2 : j + 1 ≤ 1000) : ∀ {us : List (List Zr)} {fs rs : List (List Int)}, All2 (Up p j) us fs → (∀ g ∈ fs, 1 < g.length) → All2 (fun r g => Fp p r ∧ r.length < List.length g) rs fs →
    All2 (Up p (j + 1)) (us.zipWith (uNew (p ^ j)) rs) fs ∧ (us.zipWith (uNew (p ^ j)) rs).map (fun u => (cf u : Pz)) = (us.map fun u => (cf u : Pz)).zipWith (fun u r => u + pc (p ^ j) * r) (rs.map ci)
  | [], [], [], _, _, _ => ⟨trivial, rfl⟩
  | u :: us, g :: fs, r :: rs, h1, h2, h3 => by
    obtain ⟨e1, e2⟩ := ups_step hp hj hj2 h1.2 (fun x hx => h2 x (List.mem_cons_of_mem _ hx)) h3.2
    have hg := h2 g (List.mem_cons_self ..)
    have hl := h1.1.len
    have hrl := h3.1.2
    refine ⟨⟨up_step hp hj hj2 h1.1 hg h3.1.1 hrl, e1⟩, ?_⟩
    show (cf (uNew (p ^ j) u r) : Pz) :: (us.zipWith (uNew (p ^ j)) rs).map (fun u => (cf u : Pz)) = (cf u + pc (p ^ j) * ci r) :: _
    rw [e2]
    congr 1
    funext k
    rw [uNew_cf (by omega), p_add, pc_mul]
  | [], _ :: _, _, h, _, _ => h.elim
  | _ :: _, [], _, h, _, _ => h.elim
  | [], [], _ :: _, _, _, h => h.elim
  | _ :: _, _ :: _, [], _, _, h => h.elim
theorem sxZ_cg {p : Int} : ∀ {rs us gs : List Pz}, All2 (fun u g => Cg p u g) us gs → Cg p (sxZ rs us) (sxZ rs gs)
  | [], [], [], _ => Cg.rfl
  | _ :: _, [], [], _ => Cg.rfl
  | [], _ :: _, _ :: _, _ => Cg.rfl
  | r :: rs, u :: us, g :: gs, h => by
    have hp : ∀ {us gs : List Pz}, All2 (fun u g => Cg p u g) us gs → Cg p (prZ us) (prZ gs) := fun {us} => by
      induction us with
      | nil => intro gs h; cases gs with | nil => exact Cg.rfl | cons _ _ => exact h.elim
      | cons u us ih => intro gs h; cases gs with | nil => exact h.elim | cons g gs => exact h.1.mul (ih h.2)
    exact (Cg.rfl.mul (hp h.2)).add (h.1.mul (sxZ_cg h.2))
  | _, [], _ :: _, h => h.elim
  | _, _ :: _, [], h => h.elim
def InvP (p c : Int) (fs : List (List Int)) (i : Nat) (s : List Int) : Prop := Fp p s ∧ s.length ≤ 60000 ∧ ∃ T : Pz, Fs T ∧ Cg p (ci s * ((prZ ((fs.take i).map ci) * prZ ((fs.drop (i + 1)).map ci)) * pc c) + T * ci (fs.getD i [])) (pc 1)
def RestP (p : Int) (d s g r : List Int) : Prop := Fp p r ∧ r.length < g.length ∧ ∃ Q : Pz, Fs Q ∧ Cg p (ci d * ci s) (Q * ci g + ci r)
theorem map_getD_ci {l : List (List Int)} {i : Nat} (h : i < l.length) : (l.map ci).getD i (pc 0) = ci (l.getD i []) := by
  rw [List.getD_eq_getElem?_getD, List.getD_eq_getElem?_getD, List.getElem?_map, List.getElem?_eq_getElem h]; rfl
theorem share_all {p c : Int} {d : List Int} {fs rs inv : List (List Int)} (hp : 2 ≤ p) (hl : rs.length = fs.length) (hpl : ∀ g ∈ fs, PlL p g) (hpw : (fs.map ci).Pairwise (Cop p)) (hinv : ∀ i, i < fs.length → InvP p c fs i (inv.getD i [])) (hr : ∀ i, i < fs.length → RestP p d (inv.getD i []) (fs.getD i []) (rs.getD i [])) {D : Nat} (hD : D = degS (fs.map fun g => g.length - 1)) (hd : ∀ k, D ≤ k → ci d k % p = 0) :
    Cg p (pc c * sxZ (rs.map ci) (fs.map ci)) (ci d) := by
  have fF : ∀ g ∈ fs.map ci, Fs g := fun x hx => by obtain ⟨g, _, rfl⟩ := List.mem_map.1 hx; exact Fs.ci g
  have fR : ∀ g ∈ rs.map ci, Fs g := fun x hx => by obtain ⟨g, _, rfl⟩ := List.mem_map.1 hx; exact Fs.ci g
  have fsx := fs_sxZ fR fF
  have hmul : ∀ x ∈ fs.map ci, ∃ W : Pz, Fs W ∧ Cg p (ci d - pc c * sxZ (rs.map ci) (fs.map ci)) (W * x) := by
    intro x hx
    obtain ⟨i, hi, rfl⟩ := List.mem_iff_getElem.1 hx
    have hi' : i < fs.length := by simpa using hi
    have hgx : (fs.map ci)[i] = ci (fs.getD i []) := by rw [← map_getD_ci hi', List.getD_eq_getElem?_getD, List.getElem?_eq_getElem hi]; rfl
    rw [hgx]
    obtain ⟨Z, fZ, hZ⟩ := sxZ_at (gs := fs.map ci) (rs := rs.map ci) (i := i) (by simp [hl]) hi fR fF
    rw [map_getD_ci hi', map_getD_ci (by omega), ← List.map_take, ← List.map_drop] at hZ
    obtain ⟨_, _, T, fT, hT⟩ := hinv i hi'
    obtain ⟨_, _, Q, fQ, hQ⟩ := hr i hi'
    have fP : Fs (prZ ((fs.take i).map ci) * prZ ((fs.drop (i + 1)).map ci)) := (Fs.prZ fun x hx => by obtain ⟨g, _, rfl⟩ := List.mem_map.1 hx; exact Fs.ci g).mul (Fs.prZ fun x hx => by obtain ⟨g, _, rfl⟩ := List.mem_map.1 hx; exact Fs.ci g)
    generalize prZ ((fs.take i).map ci) * prZ ((fs.drop (i + 1)).map ci) = A at *
    generalize ci (inv.getD i []) = s at *
    generalize ci (rs.getD i []) = r at *
    have fg := Fs.ci (fs.getD i [])
    generalize ci (fs.getD i []) = g at *
    have fd := Fs.ci d
    generalize ci d = dd at *
    refine ⟨dd * T + pc c * (A * Q) - pc c * Z, ((fd.mul fT).add ((Fs.pc c).mul (fP.mul fQ))).subt ((Fs.pc c).mul fZ), Cg.iff_sub.2 ?_⟩
    have z1 := Cg.iff_sub.1 hT
    have z2 := Cg.iff_sub.1 hQ
    have e : dd - pc c * sxZ (rs.map ci) (fs.map ci) - (dd * T + pc c * (A * Q) - pc c * Z) * g = pc c * A * (dd * s - (Q * g + r)) - dd * (s * (A * pc c) + T * g - pc 1) := by
      rw [hZ]
      simp only [p_mul_add, p_add_mul, p_mul_sub, p_sub_mul, p_mul_one, p_mul_assoc, p_mul_left_comm, p_mul_comm]
      funext k
      simp only [p_add, p_sub]
      omega
    rw [e]
    exact (z2.mul_zero_l _).zero_sub (z1.mul_zero_l _)
  obtain ⟨W, fW, hW⟩ := crt_list fF hpw ((Fs.ci d).subt ((Fs.pc c).mul fsx)) hmul
  have hmn : All2 Mn (fs.map ci) (fs.map fun g => g.length - 1) := by
    clear hr hinv hpw hl hD hd fF fR fsx hmul hW
    induction fs with
    | nil => exact trivial
    | cons g fs ih =>
      have hg := hpl g (List.mem_cons_self ..)
      have := hg.2.1
      exact ⟨⟨hg.2.2, fun k hk => ci_ge (by have hk : g.length - 1 < k := hk; omega)⟩, ih fun x hx => hpl x (List.mem_cons_of_mem _ hx)⟩
  have hsh : All2 (fun (r : Pz) d => ∀ k, d ≤ k → r k = 0) (rs.map ci) (fs.map fun g => g.length - 1) := by
    have h1 : ∀ i, i < fs.length → (rs.getD i []).length < (fs.getD i []).length := fun i hi => (hr i hi).2.1
    clear hr hinv hpw hD hd fF fR fsx hmul hW hmn hpl
    induction fs generalizing rs with
    | nil =>
      obtain rfl := List.length_eq_zero_iff.1 hl
      exact trivial
    | cons g fs ih =>
      cases rs with
      | nil => cases hl
      | cons r rs =>
        have h2 : r.length < g.length := h1 0 (by simp)
        exact ⟨fun k hk => ci_ge (by have hk : g.length - 1 ≤ k := hk; omega), ih (by simpa using hl) fun i hi => h1 (i + 1) (by simpa using hi)⟩
  have hP := prZ_mn hmn
  have hz := hP.zero hp fW fun k hk => by
    rw [← hW k, p_sub, pc_mul, sxZ_short hmn hsh k hk, Int.mul_zero, Int.sub_zero]
    exact hd k (by omega)
  exact (Cg.iff_sub.2 (hW.trans (hz.mul_zero_r _))).symm
theorem prod_next {p c : Int} {j : Nat} {X q : Pz} {us gs rs : List Pz} (hj : 1 ≤ j) (hl : us.length = rs.length) (hX : X = pc c * prZ us + pc (p ^ j) * q) (hug : All2 (fun u g => Cg p u g) us gs) (hs : Cg p (pc c * sxZ rs gs) q) :
    Cg (p ^ (j + 1)) X (pc c * prZ (us.zipWith (fun u r => u + pc (p ^ j) * r) rs)) := by
  obtain ⟨Z, hZ⟩ := prod_turn (p ^ j) hl
  rw [hZ, hX]
  have h1 : Cg p (pc c * sxZ rs us) q := (Cg.rfl.mul (sxZ_cg hug)).trans hs
  have h2 := (Cg.iff_sub.1 h1)
  refine Cg.symm (Cg.iff_sub.2 (Cg.of_dvd fun k => ?_))
  have e : pc c * (prZ us + pc (p ^ j) * sxZ rs us + pc (p ^ j * p ^ j) * Z) - (pc c * prZ us + pc (p ^ j) * q) = pc (p ^ j) * (pc c * sxZ rs us - q) + pc (p ^ j * p ^ j) * (pc c * Z) := by
    simp only [p_mul_add, p_mul_sub, p_mul_assoc, p_mul_left_comm, p_mul_comm]
    funext k
    simp only [p_add, p_sub]
    omega
  rw [e, p_add, pc_mul, pc_mul]
  refine Int.dvd_add ?_ ?_
  · rw [Int.pow_succ]; exact Int.mul_dvd_mul_left _ (h2.dvd k)
  · rw [Int.pow_succ]
    exact Int.dvd_trans (Int.mul_dvd_mul_left _ (dvd_pow_self hj)) (Int.dvd_mul_right _ _)
end Go.Proofs.YtjnjfinbdfolkaaGreat
end

