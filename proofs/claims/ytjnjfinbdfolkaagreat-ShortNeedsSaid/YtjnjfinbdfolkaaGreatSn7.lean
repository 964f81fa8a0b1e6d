/- Which polynomials may be parted by which primes, and which power is needed, is what the document says: for every input. No condition. -/
import Derived.Test.YtjnjfinbdfolkaaGreatSn6
section
set_option linter.unusedVariables false
set_option linter.unusedSimpArgs false
namespace Go.Proofs.YtjnjfinbdfolkaaGreat
theorem loop_ex {α β : Type} {f : (β → Option α) → β → Option α} (I : β → Prop) (m : β → Nat) (Q : α → Prop)
    (step : ∀ s L, I s → (∀ s', I s' → m s' < m s → ∃ r, L s' = some r ∧ Q r) → ∃ r, f L s = some r ∧ Q r) : ∀ (n : Nat) (s : β), I s → m s < n → ∃ r, loopN f n s = some r ∧ Q r
  | 0, s, _, h => absurd h (Nat.not_lt_zero _)
  | n + 1, s, hI, h => step s _ hI fun s' hI' hm => loop_ex I m Q step n s' hI' (by omega)
theorem sumN_single {f : Nat → Int} {i : Nat} (h : ∀ k, k ≠ i → f k = 0) : ∀ n, sumN n f = if i < n then f i else 0
  | 0 => by rw [if_neg (Nat.not_lt_zero _)]; rfl
  | n + 1 => by
    show sumN n f + f n = _
    rw [sumN_single h n]
    by_cases h1 : i < n
    · rw [if_pos h1, if_pos (by omega), h n (by omega), Int.add_zero]
    · rw [if_neg h1, Int.zero_add]
      by_cases h2 : n = i
      · rw [if_pos (by omega), h2]
      · rw [if_neg (by omega), h n h2]
theorem mono_mul (i : Nat) (c : Int) (g : Pz) (k : Nat) : ((mono i c : Pz) * g) k = c * sh g i k := by
  rw [p_mul, sumN_single (i := i) fun j hj => by show mono i c j * _ = 0; unfold mono; rw [if_neg hj, Int.zero_mul]]
  unfold sh
  by_cases h : i ≤ k
  · rw [if_pos (by omega), if_pos h]
    unfold mono
    rw [if_pos rfl]
  · rw [if_neg (by omega), if_neg h, Int.mul_zero]
theorem ci_one (x : Int) : ci [x] = pc x := by
  funext k
  cases k with
  | zero => rfl
  | succ k => exact ci_ge (by simp)
theorem fp_one {p x : Int} (h0 : 0 < x) (h1 : x < p) : Fp p [x] := ⟨fun k => by rw [ci_one]; unfold pc; split <;> omega, fun k => by rw [ci_one]; unfold pc; split <;> omega, .inr (by show x ≠ 0; omega)⟩
theorem fp_nil {p : Int} (h : 0 < p) : Fp p [] := ⟨fun k => by rw [ci_ge (Nat.zero_le _)]; omega, fun k => by rw [ci_ge (Nat.zero_le _)]; exact h, .inl rfl⟩
theorem inv_pos {p x c : Int} (h : 0 ≤ x) (hx : (x * c) % p = 1) : 0 < x := by
  rcases Int.lt_or_eq_of_le h with h | h
  · exact h
  · rw [← h, Int.zero_mul, Int.zero_emod] at hx
    cases hx
theorem M_fpoly_scaled_ex {fu : Nat} {a : List Int} {p c : Int} (hp : prm p = true) (ha : Fp p a) (h0 : 0 < c) (h1 : c < p) (hla : a.length ≤ 90000) (hf : 3000000 ≤ fu) : ∃ x, 0 < x ∧ x < p ∧ (x * c) % p = 1 ∧ M_fp_Inv fu c p = some (x, 0) ∧ M_fpoly_scaled fu a c p = some (fmul p a [x]) := by
  obtain ⟨p1, p2⟩ := prm_rng hp
  obtain ⟨x, e1, e2, e3, e4⟩ := M_fp_Inv_ex hp h0 h1 hf
  have hx := inv_pos e2 e4
  refine ⟨x, hx, e3, e4, e1, ?_⟩
  unfold M_fpoly_scaled
  rw [bd_t e1]
  simp only []
  rw [bd_t (M_fpoly_product_eq (by omega) p2 ha (fp_one hx e3) (by omega) (by simp) hf)]
/-- a row taken off, up to so many terms -/
def offR (R g : Pz) (p c : Int) (i j : Nat) : Pz := fun k => if i ≤ k ∧ k < i + j then (R k + (p - c) * g (k - i)) % p else R k
theorem offR_step (R g : Pz) (p c : Int) (i j k : Nat) : upf (offR R g p c i j) (i + j) ((R (i + j) + (p - c) * g j) % p) k = offR R g p c i (j + 1) k := by
  unfold upf
  by_cases h : k = i + j
  · subst h
    rw [if_pos rfl]
    unfold offR
    rw [if_pos ⟨by omega, by omega⟩, show i + j - i = j by omega]
  · rw [if_neg h]
    unfold offR
    by_cases h2 : i ≤ k ∧ k < i + j
    · rw [if_pos h2, if_pos ⟨h2.1, by omega⟩]
    · rw [if_neg h2, if_neg (by omega)]
theorem offR_emod {R g : Pz} {p c : Int} {i n : Nat} (hR : ∀ k, R k % p = R k) (hg : ∀ k, n ≤ k → g k = 0) (k : Nat) : offR R g p c i n k % p = (R k - c * sh g i k) % p := by
  unfold offR sh
  by_cases h : i ≤ k ∧ k < i + n
  · rw [if_pos h, if_pos h.1, Int.emod_emod, Int.sub_mul]
    refine Int.emod_eq_emod_iff_emod_sub_eq_zero.2 (Int.emod_eq_zero_of_dvd ⟨g (k - i), ?_⟩)
    omega
  · rw [if_neg h]
    by_cases h2 : i ≤ k
    · rw [if_pos h2, hg _ (by omega), Int.mul_zero, Int.sub_zero]
    · rw [if_neg h2, Int.mul_zero, Int.sub_zero]
theorem div_inner {fu n qn i : Nat} {b : List Int} {p c x : Int} {R Q : Pz} (h1 : 1 ≤ p) (h2 : p ≤ 65521) (hb : Fp p b) (hR : ∀ k, 0 ≤ R k ∧ R k < p) (hc : 0 ≤ c) (hc2 : c < p) (hin : i + b.length ≤ n) (hn : n ≤ 100000) (hf : 3000000 ≤ fu) :
    loopN (B_fpoly_divided_1 fu b (i : Int) c) fu (b, p, x, 0, zl n R, zl qn Q) = some (b, p, x, zl n (offR R (ci b) p c i b.length), zl qn Q) := by
  refine loop_eq (fun s : List Int × Int × Int × Int × List Int × List Int => ∃ j : Nat, j ≤ b.length ∧ s = (b, p, x, (j : Int), zl n (offR R (ci b) p c i j), zl qn Q)) (fun s => b.length - s.2.2.2.1.toNat) _ ?_ _ _ ⟨0, Nat.zero_le _, by rw [zl_congr (f := R) (g := offR R (ci b) p c i 0) fun k _ => by unfold offR; rw [if_neg (by omega)]]; rfl⟩ (by show b.length - 0 < fu; omega)
  rintro s L ⟨j, hj, rfl⟩ ih
  unfold B_fpoly_divided_1
  simp only []
  by_cases h3 : j < b.length
  · rw [if_pos (by omega), bd_t rfl]
    simp only [if_true]
    have e : (i : Int) + (j : Int) = ((i + j : Nat) : Int) := by omega
    have e2 : offR R (ci b) p c i j (i + j) = R (i + j) := by unfold offR; rw [if_neg (by omega)]
    obtain ⟨r1, r2⟩ := hR (i + j)
    have r3 : 0 ≤ (p - c) * ci b j := Int.mul_nonneg (by omega) (hb.nn j)
    have r4 : (p - c) * ci b j ≤ 65521 * ci b j := Int.mul_le_mul_of_nonneg_right (by omega) (hb.nn j)
    have r5 := hb.lt j
    rw [ckI_n h3, nm_t, e, ck64_t ⟨by omega, by omega⟩, ck64_t ⟨by omega, by omega⟩, ckI_n (by rw [zl_len]; omega), nm_t, zl_getD (by omega), ci_d, e2, ck64_t ⟨by omega, by omega⟩, ck64_t ⟨by omega, by omega⟩, ck64_t ⟨by omega, by omega⟩, ck_t (by omega), nm_t, tmod_nn (by omega), ckI_n (by rw [zl_len]; omega), nm_t, zl_set, ck64_t ⟨by omega, by omega⟩]
    exact ih _ ⟨j + 1, by omega, by rw [zl_congr fun k _ => offR_step R (ci b) p c i j k]; rfl⟩ (by show b.length - ((j : Int) + 1).toNat < b.length - (j : Int).toNat; omega)
  · rw [if_neg (by omega), bd_t rfl]
    simp only [Bool.false_eq_true, if_false]
    obtain rfl : j = b.length := by omega
    rfl
/-- where the division stands -/
structure FdI (p : Int) (a b : List Int) (qn i : Nat) (R Q : Pz) : Prop where
  hi : i ≤ qn
  rr : ∀ k, 0 ≤ R k ∧ R k < p
  qr : ∀ k, 0 ≤ Q k ∧ Q k < p
  rz : ∀ k, i + (b.length - 1) ≤ k → R k = 0
  ql : ∀ k, k < i → Q k = 0
  qz : ∀ k, qn ≤ k → Q k = 0
  cg : Cg p (ci a) (Q * ci b + R)
theorem FdI.step {p x : Int} {a b : List Int} {qn i : Nat} {R Q : Pz} (h1 : 1 ≤ p) (h : FdI p a b qn (i + 1) R Q) (hb : 0 < b.length) (hx : (x * ci b (b.length - 1)) % p = 1) :
    FdI p a b qn i (offR R (ci b) p (R (i + (b.length - 1)) * x % p) i b.length) (upf Q i (R (i + (b.length - 1)) * x % p)) := by
  obtain ⟨c, hc⟩ : ∃ c, c = R (i + (b.length - 1)) * x % p := ⟨_, rfl⟩
  have hi := h.hi
  have hcr := red_rng (a := R (i + (b.length - 1)) * x) (p := p) (by omega)
  rw [← hc] at hcr ⊢
  have hRm : ∀ k, R k % p = R k := fun k => Int.emod_eq_of_lt (h.rr k).1 (h.rr k).2
  have hoff := offR_emod (g := ci b) (c := c) (i := i) (n := b.length) hRm (fun k hk => ci_ge hk)
  have hrr : ∀ k, 0 ≤ offR R (ci b) p c i b.length k ∧ offR R (ci b) p c i b.length k < p := fun k => by
    unfold offR; split
    · exact red_rng (by omega)
    · exact h.rr k
  have hup : ∀ k, upf Q i c k = (Q + (mono i c : Pz)) k := fun k => by
    rw [p_add]
    unfold upf mono
    by_cases hk : k = i
    · rw [if_pos hk, if_pos hk, h.ql k (by omega), Int.zero_add]
    · rw [if_neg hk, if_neg hk, Int.add_zero]
  refine ⟨by omega, hrr, fun k => ?_, fun k hk => ?_, fun k hk => ?_, fun k hk => ?_, ?_⟩
  · unfold upf; split
    · exact hcr
    · exact h.qr k
  · have h3 := Int.emod_eq_of_lt (hrr k).1 (hrr k).2
    rw [← h3, hoff]
    by_cases hk2 : k = i + (b.length - 1)
    · unfold sh
      rw [if_pos (by omega), show k - i = b.length - 1 by omega, hc, hk2, Int.sub_emod, Int.mul_emod, Int.emod_emod, ← Int.mul_emod, Int.mul_assoc, Int.mul_emod _ (x * _), hx, Int.mul_one, Int.emod_emod, ← Int.sub_emod, Int.sub_self, Int.zero_emod]
    · unfold sh
      rw [h.rz k (by omega), if_pos (by omega), ci_ge (l := b) (by omega), Int.mul_zero, Int.sub_zero, Int.zero_emod]
  · unfold upf
    rw [if_neg (by omega)]
    exact h.ql k (by omega)
  · unfold upf
    rw [if_neg (by omega)]
    exact h.qz k hk
  · refine h.cg.trans fun k => ?_
    rw [show upf Q i c = Q + (mono i c : Pz) from funext hup, p_add_mul, p_add, p_add, p_add, mono_mul, Int.add_emod (_ + _), hoff, ← Int.add_emod]
    congr 1
    omega
theorem M_fpoly_divided_ex {fu : Nat} {a b : List Int} {p : Int} (hp : prm p = true) (ha : Fp p a) (hb : Fp p b) (hb0 : 0 < b.length) (hla : a.length ≤ 90000) (hlb : b.length ≤ 90000) (hf : 3000000 ≤ fu) :
    ∃ q r, M_fpoly_divided fu a b p = some (q, r) ∧ Fp p q ∧ Fp p r ∧ Cg p (ci a) (ci q * ci b + ci r) ∧ r.length < b.length ∧ q.length ≤ a.length := by
  obtain ⟨p1, p2⟩ := prm_rng hp
  unfold M_fpoly_divided
  rw [ck_t (by simp; omega), nm_t, List.nil_append, ck64_t ⟨by omega, by omega⟩]
  by_cases hl : a.length < b.length
  · rw [if_pos (by omega)]
    refine ⟨[], a, rfl, fp_nil (by omega), ha, Cg.of ?_, hl, Nat.zero_le _⟩
    funext k
    rw [p_add, show ci [] = pc 0 from funext fun j => by rw [ci_ge (Nat.zero_le _), pc_zero], p_zero_mul, pc_zero, Int.zero_add]
  · obtain ⟨qn, hq⟩ : ∃ qn, qn = a.length - b.length + 1 := ⟨_, rfl⟩
    have htop : ci b (b.length - 1) ≠ 0 := by
      rcases hb.nl with h | h
      · omega
      · exact h
    have t1 := hb.nn (b.length - 1)
    have t2 := hb.lt (b.length - 1)
    obtain ⟨x, e1, e2, e3, e4⟩ := M_fp_Inv_ex (fu := fu) hp (show 0 < ci b (b.length - 1) by omega) t2 hf
    have c1 : ((b.length : Nat) : Int) - 1 = ((b.length - 1 : Nat) : Int) := by omega
    have c2 : ((a.length : Nat) : Int) - ((b.length : Nat) : Int) + 1 = (qn : Int) := by omega
    rw [if_neg (by omega), c1, ck64_t ⟨by omega, by omega⟩, ckI_n (by omega), nm_t, ci_d, bd_t e1]
    simp only []
    rw [ck64_t ⟨by omega, by omega⟩, c2, ckN_n, ck_t (by omega), nm_t]
    have hloop := loop_ex (f := B_fpoly_divided_0 fu b p x) (fun s : Int × List Int × List Int => ∃ (i : Nat) (R Q : Pz), s = ((i : Int) - 1, zl a.length R, zl qn Q) ∧ FdI p a b qn i R Q) (fun s => (s.1 + 1).toNat)
      (fun r => ∃ R Q : Pz, r = (zl a.length R, zl qn Q) ∧ FdI p a b qn 0 R Q) (by
        rintro s L ⟨i, R, Q, rfl, h⟩ ih
        unfold B_fpoly_divided_0
        simp only []
        cases i with
        | zero =>
          rw [if_neg (by omega)]
          exact ⟨_, rfl, R, Q, rfl, h⟩
        | succ i =>
          have hi := h.hi
          obtain ⟨r1, r2⟩ := h.rr (i + (b.length - 1))
          obtain ⟨r3, r4⟩ := prod_rng p2 r1 r2 e2 e3
          have hcr := red_rng (a := R (i + (b.length - 1)) * x) (p := p) (by omega)
          rw [show ((i + 1 : Nat) : Int) - 1 = (i : Int) by omega, if_pos (by omega), ck64_t ⟨by omega, by omega⟩, show (i : Int) + ((b.length : Nat) : Int) - 1 = ((i + (b.length - 1) : Nat) : Int) by omega, ck64_t ⟨by omega, by omega⟩, ckI_n (by rw [zl_len]; omega), nm_t, zl_getD (by omega), ck64_t ⟨by omega, by omega⟩, ck_t (by omega), nm_t, tmod_nn r3, ckI_n (by rw [zl_len]; omega), nm_t, zl_set, bd_t (div_inner (by omega) p2 hb h.rr hcr.1 hcr.2 (by omega) (by omega) hf)]
          simp only []
          rw [ck64_t ⟨by omega, by omega⟩]
          exact ih _ ⟨i, _, _, rfl, h.step (by omega) hb0 e4⟩ (by show ((i : Int) - 1 + 1).toNat < (((i + 1 : Nat) : Int) - 1 + 1).toNat; omega))
      fu (((a.length : Nat) : Int) - ((b.length : Nat) : Int), a, List.replicate qn 0) ⟨qn, ci a, fun _ => 0, by rw [zl_ci, zl_rep, show ((a.length : Nat) : Int) - ((b.length : Nat) : Int) = (qn : Int) - 1 by omega], Nat.le_refl _, fun k => ⟨ha.nn k, ha.lt k⟩, fun k => ⟨Int.le_refl _, by omega⟩, fun k hk => ci_ge (by omega), fun k _ => rfl, fun k _ => rfl, Cg.of (by
        funext k
        rw [p_add, show ((fun _ => 0 : Pz)) = pc 0 from funext fun j => (pc_zero j).symm, p_zero_mul, pc_zero, Int.zero_add])⟩ (by show (((a.length : Nat) : Int) - ((b.length : Nat) : Int) + 1).toNat < fu; omega)
    obtain ⟨_, hl1, R, Q, rfl, h⟩ := hloop
    rw [bd_t hl1]
    simp only []
    have hRl : Rl (zl a.length R) := fun k => by
      rw [ci_zl_z fun j hj => h.rz j (by omega)]
      have := h.rr k
      exact ⟨by omega, by omega⟩
    have hQl : Rl (zl qn Q) := fun k => by
      rw [ci_zl_z h.qz]
      have := h.qr k
      exact ⟨by omega, by omega⟩
    rw [bd_t (M_fpoly_plain_eq (by omega) p2 hQl (by rw [zl_len]; omega) hf), bd_t (M_fpoly_plain_eq (by omega) p2 hRl (by rw [zl_len]; omega) hf)]
    refine ⟨_, _, rfl, pm_fp (by omega) _, pm_fp (by omega) _, ?_, ?_, ?_⟩
    · refine h.cg.trans (Cg.add (Cg.mul (Cg.symm ((pm_cg p _).trans (Cg.of (funext (ci_zl_z h.qz))))) Cg.rfl) (Cg.symm ((pm_cg p _).trans (Cg.of (funext (ci_zl_z fun j hj => h.rz j (by omega)))))))
    · have := (pm_fp (p := p) (by omega) (zl a.length R)).nl.le (n := b.length - 1) fun k hk => by
        rw [pm_ci, ci_zl_z (fun j hj => h.rz j (by omega)), h.rz k (by omega), Int.zero_emod]
      omega
    · have := pm_le p (zl qn Q)
      rw [zl_len] at this
      omega
end Go.Proofs.YtjnjfinbdfolkaaGreat
end

section
set_option linter.unusedVariables false
set_option linter.unusedSimpArgs false
namespace Go.Proofs.YtjnjfinbdfolkaaGreat
theorem pc_neg {p : Int} (f : Pz) : Cg p (pc (p - 1) * f) (-f) := fun k => by
  rw [pc_mul, p_neg, Int.sub_mul, Int.one_mul]
  refine Int.emod_eq_emod_iff_emod_sub_eq_zero.2 (Int.emod_eq_zero_of_dvd ⟨f k, ?_⟩)
  omega
theorem fsum_less {p : Int} (a b : List Int) : Cg p (ci (fsum p a b (p - 1))) (ci a - ci b) := by
  refine (fsum_cg p a b (p - 1)).trans ?_
  rw [p_sub_eq]
  exact Cg.rfl.add (pc_neg _)
/-- one step of the search: the rest, and the same for the cofactors -/
theorem M_fpoly_next_ex {fu N S : Nat} {p : Int} {r0 s0 t0 r1 s1 t1 : List Int} (hp : prm p = true) (hr0 : Fp p r0) (hs0 : Fp p s0) (ht0 : Fp p t0) (hr1 : Fp p r1) (hs1 : Fp p s1) (ht1 : Fp p t1) (h0 : 0 < r1.length) (l1 : r0.length ≤ N) (l2 : r1.length ≤ N) (l3 : s0.length ≤ S) (l4 : t0.length ≤ S) (l5 : s1.length ≤ S) (l6 : t1.length ≤ S) (hN : N ≤ 9000) (hS : S ≤ 90000) (hf : 3000000 ≤ fu) :
    ∃ q, Fp p q ∧ q.length ≤ N ∧ Cg p (ci r0) (ci q * ci r1 + ci (fsum p r0 (fmul p q r1) (p - 1))) ∧ (fsum p r0 (fmul p q r1) (p - 1)).length < r1.length ∧
      M_fpoly_next fu [r0, s0, t0] [r1, s1, t1] p = some [fsum p r0 (fmul p q r1) (p - 1), fsum p s0 (fmul p q s1) (p - 1), fsum p t0 (fmul p q t1) (p - 1)] := by
  obtain ⟨p1, p2⟩ := prm_rng hp
  obtain ⟨q, r, e1, hq, hr, hcg, hlt, hql⟩ := M_fpoly_divided_ex (fu := fu) hp hr0 hr1 h0 (by omega) (by omega) hf
  have hre : fsum p r0 (fmul p q r1) (p - 1) = r := by
    refine Fp.ext (fsum_fp (by omega) _ _ _) hr ((fsum_less r0 (fmul p q r1)).trans ?_)
    refine (hcg.sub (fmul_cg p q r1)).trans (Cg.of ?_)
    funext k
    simp only [p_add, p_sub]
    omega
  refine ⟨q, hq, by omega, by rw [hre]; exact hcg, by rw [hre]; exact hlt, ?_⟩
  unfold M_fpoly_next
  have f1 := fmul_le p q r1
  have f2 := fmul_le p q s1
  have f3 := fmul_le p q t1
  rw [show (0 : Int) = ((0 : Nat) : Int) from rfl, ckI_n (by decide), ckI_n (by decide), nm_t]
  show bd (M_fpoly_divided fu r0 r1 p) _ = _
  rw [bd_t e1]
  simp only []
  rw [bd_t (v := ([fsum p r0 (fmul p q r1) (p - 1), fsum p s0 (fmul p q s1) (p - 1), fsum p t0 (fmul p q t1) (p - 1)], List.replicate 3 []))]
  obtain ⟨n, hn⟩ : ∃ n, fu = n + 4 := ⟨fu - 4, by omega⟩
  have step : ∀ (L : List Int × Int × List (List Int) × List (List Int) → Option (List (List Int) × List (List Int))) (i : Nat) (x y z u : List Int) (ts : List (List Int)), i < 3 → ts.length = 3 → ts.getD i [] = x → [r1, s1, t1].getD i [] = y → Fp p x → Fp p y → x.length ≤ 90000 → y.length ≤ 90000 →
      B_fpoly_next_0 fu [r1, s1, t1] p L (q, (i : Int), ts, List.replicate 3 []) = L (q, ((i + 1 : Nat) : Int), ts.set i (fsum p x (fmul p q y) (p - 1)), List.replicate 3 []) := fun L i x y z u ts hi hts hx hy hxF hyF hxl hyl => by
    unfold B_fpoly_next_0
    simp only []
    have f4 := fmul_le p q y
    rw [if_pos (by omega), bd_t rfl]
    simp only [if_true]
    rw [ckI_n hi, ckI_n hi, nm_t, hx, hy, bd_t (M_fpoly_product_eq (by omega) p2 hq hyF (by omega) (by omega) hf), ck64_t ⟨by omega, by omega⟩, bd_t (M_fpoly_sum_eq (by omega) p2 hxF (fmul_fp (by omega) _ _) (by omega) (by omega) (by omega) (by omega) hf), ckI_n hi, nm_t, ck64_t ⟨by omega, by omega⟩]
    rfl
  have hn' : loopN (B_fpoly_next_0 fu [r1, s1, t1] p) (n + 4) (q, ((0 : Nat) : Int), [r0, s0, t0], List.replicate 3 []) = some ([fsum p r0 (fmul p q r1) (p - 1), fsum p s0 (fmul p q s1) (p - 1), fsum p t0 (fmul p q t1) (p - 1)], List.replicate 3 []) := by
    rw [loopN_t, step _ 0 r0 r1 [] [] _ (by decide) rfl rfl rfl hr0 hr1 (by omega) (by omega), loopN_t, step _ 1 s0 s1 [] [] _ (by decide) rfl rfl rfl hs0 hs1 (by omega) (by omega), loopN_t, step _ 2 t0 t1 [] [] _ (by decide) rfl rfl rfl ht0 ht1 (by omega) (by omega), loopN_t]
    unfold B_fpoly_next_0
    simp only []
    rw [if_neg (by decide), bd_t rfl]
    rfl
  rw [← hn] at hn'
  exact hn'
/-- with finitely many values -/
def Fs (f : Pz) : Prop := ∃ n, ∀ k, n ≤ k → f k = 0
theorem Fs.add {f g : Pz} (hf : Fs f) (hg : Fs g) : Fs (f + g) := by
  obtain ⟨n, hn⟩ := hf
  obtain ⟨m, hm⟩ := hg
  exact ⟨n + m, fun k hk => by rw [p_add, hn k (by omega), hm k (by omega)]; rfl⟩
theorem Fs.mul {f g : Pz} (hf : Fs f) (hg : Fs g) : Fs (f * g) := by
  obtain ⟨n, hn⟩ := hf
  obtain ⟨m, hm⟩ := hg
  exact ⟨n + m, fun k hk => p_mul_out hn hm (by omega)⟩
theorem Fs.pc (c : Int) : Fs (pc c) := ⟨1, fun k hk => by unfold Go.Proofs.YtjnjfinbdfolkaaGreat.pc; rw [if_neg (by omega)]⟩
theorem Fs.ci (l : List Int) : Fs (ci l) := ⟨l.length, fun k hk => ci_ge hk⟩
theorem Fs.cf (l : List Zr) : Fs (cf l) := ⟨l.length, fun k hk => cf_ge hk⟩
/-- what a search has found: a divisor of both, and how both make it -/
structure BzR (p : Int) (g h d s t : List Int) (S : Nat) : Prop where
  df : Fp p d
  sf : Fp p s
  tf : Fp p t
  cg : Cg p (ci d) (ci s * ci g + ci t * ci h)
  dv : ∃ A C : Pz, Fs A ∧ Fs C ∧ Cg p (ci g) (A * ci d) ∧ Cg p (ci h) (C * ci d)
  dl : d.length ≤ S
  sl : s.length ≤ S
  tl : t.length ≤ S
structure BzI (p : Int) (g h r0 s0 t0 r1 s1 t1 : List Int) (N : Nat) : Prop where
  f0 : Fp p r0
  g0 : Fp p s0
  h0 : Fp p t0
  f1 : Fp p r1
  g1 : Fp p s1
  h1 : Fp p t1
  c0 : Cg p (ci r0) (ci s0 * ci g + ci t0 * ci h)
  c1 : Cg p (ci r1) (ci s1 * ci g + ci t1 * ci h)
  dv : ∃ A B C D : Pz, Fs A ∧ Fs B ∧ Fs C ∧ Fs D ∧ Cg p (ci g) (A * ci r0 + B * ci r1) ∧ Cg p (ci h) (C * ci r0 + D * ci r1)
  l0 : r0.length ≤ N
  l1 : r1.length ≤ N
  b0 : s0.length ≤ 1 + N * (N + 1 - r1.length)
  b1 : t0.length ≤ 1 + N * (N + 1 - r1.length)
  b2 : s1.length ≤ 1 + N * (N + 1 - r1.length)
  b3 : t1.length ≤ 1 + N * (N + 1 - r1.length)
theorem BzI.step {fu N : Nat} {p : Int} {g h r0 s0 t0 r1 s1 t1 : List Int} (hI : BzI p g h r0 s0 t0 r1 s1 t1 N) (hp : prm p = true) (hN : N ≤ 290) (hr : 0 < r1.length) (hf : 3000000 ≤ fu) :
    ∃ r2 s2 t2, M_fpoly_next fu [r0, s0, t0] [r1, s1, t1] p = some [r2, s2, t2] ∧ r2.length < r1.length ∧ BzI p g h r1 s1 t1 r2 s2 t2 N := by
  obtain ⟨p1, p2⟩ := prm_rng hp
  have hb : 1 + N * (N + 1 - r1.length) ≤ 90000 := by
    have : N * (N + 1 - r1.length) ≤ 290 * 290 := Nat.mul_le_mul hN (by omega)
    omega
  have hl0 := hI.l0
  have hl1 := hI.l1
  have hb0 := hI.b0
  have hb1 := hI.b1
  have hb2 := hI.b2
  have hb3 := hI.b3
  obtain ⟨q, hq, hql, hcg, hlt, he⟩ := M_fpoly_next_ex (fu := fu) (S := 1 + N * (N + 1 - r1.length)) hp hI.f0 hI.g0 hI.h0 hI.f1 hI.g1 hI.h1 hr hl0 hl1 hb0 hb1 hb2 hb3 (by omega) hb hf
  refine ⟨_, _, _, he, hlt, hI.f1, hI.g1, hI.h1, fsum_fp (by omega) _ _ _, fsum_fp (by omega) _ _ _, fsum_fp (by omega) _ _ _, hI.c1, ?_, ?_, hl1, by omega, ?_, ?_, ?_, ?_⟩
  · refine (fsum_less _ _).trans ((hI.c0.sub ((fmul_cg p q r1).trans (Cg.rfl.mul hI.c1))).trans ?_)
    refine Cg.trans (Cg.of ?_) (Cg.symm (((fsum_less s0 (fmul p q s1)).trans (Cg.rfl.sub (fmul_cg p q s1))).mul (Cg.rfl (f := ci g)) |>.add (((fsum_less t0 (fmul p q t1)).trans (Cg.rfl.sub (fmul_cg p q t1))).mul (Cg.rfl (f := ci h)))))
    simp only [p_mul_add, p_add_mul, p_mul_sub, p_sub_mul, p_mul_assoc]
    funext k
    simp only [p_add, p_sub]
    omega
  · obtain ⟨A, B, C, D, z1, z2, z3, z4, d1, d2⟩ := hI.dv
    refine ⟨A * ci q + B, A, C * ci q + D, C, (z1.mul (Fs.ci q)).add z2, z1, (z3.mul (Fs.ci q)).add z4, z3, ?_, ?_⟩
    · refine d1.trans (((Cg.rfl (f := A)).mul hcg |>.add Cg.rfl).trans (Cg.of ?_))
      simp only [p_mul_add, p_add_mul, p_mul_assoc]
      funext k
      simp only [p_add]
      omega
    · refine d2.trans (((Cg.rfl (f := C)).mul hcg |>.add Cg.rfl).trans (Cg.of ?_))
      simp only [p_mul_add, p_add_mul, p_mul_assoc]
      funext k
      simp only [p_add]
      omega
  · have : N * (N + 1 - r1.length) ≤ N * (N + 1 - (fsum p r0 (fmul p q r1) (p - 1)).length) := Nat.mul_le_mul_left _ (by omega)
    omega
  · have : N * (N + 1 - r1.length) ≤ N * (N + 1 - (fsum p r0 (fmul p q r1) (p - 1)).length) := Nat.mul_le_mul_left _ (by omega)
    omega
  · have h1 := fsum_le p s0 (fmul p q s1) (p - 1)
    have h2 := fmul_le p q s1
    have h3 : N * (N + 1 - r1.length + 1) ≤ N * (N + 1 - (fsum p r0 (fmul p q r1) (p - 1)).length) := Nat.mul_le_mul_left _ (by omega)
    rw [Nat.mul_add, Nat.mul_one] at h3
    omega
  · have h1 := fsum_le p t0 (fmul p q t1) (p - 1)
    have h2 := fmul_le p q t1
    have h3 : N * (N + 1 - r1.length + 1) ≤ N * (N + 1 - (fsum p r0 (fmul p q r1) (p - 1)).length) := Nat.mul_le_mul_left _ (by omega)
    rw [Nat.mul_add, Nat.mul_one] at h3
    omega
theorem bez_loop {fu N : Nat} {p : Int} {g h : List Int} (hp : prm p = true) (hN : N ≤ 290) (hf : 3000000 ≤ fu) {r0 s0 t0 r1 s1 t1 : List Int} (hI : BzI p g h r0 s0 t0 r1 s1 t1 N) :
    ∃ d s t, loopN (B_fpoly_Bezout_0 fu p) fu ([r0, s0, t0], [r1, s1, t1]) = some [d, s, t] ∧ BzR p g h d s t (1 + N * (N + 1)) := by
  obtain ⟨r, e1, d, s, t, rfl, e3⟩ := loop_ex (f := B_fpoly_Bezout_0 fu p) (fun x : List (List Int) × List (List Int) => ∃ r0 s0 t0 r1 s1 t1, x = ([r0, s0, t0], [r1, s1, t1]) ∧ BzI p g h r0 s0 t0 r1 s1 t1 N) (fun x => (x.2.getD 0 []).length) (fun r => ∃ d s t, r = [d, s, t] ∧ BzR p g h d s t (1 + N * (N + 1))) (by
    rintro x L ⟨r0, s0, t0, r1, s1, t1, rfl, hI⟩ ih
    unfold B_fpoly_Bezout_0
    simp only []
    rw [show (0 : Int) = ((0 : Nat) : Int) from rfl, ckI_n (by decide)]
    show ∃ r, (if ((0 : Nat) : Int) < ((r1.length : Nat) : Int) then _ else _) = some r ∧ _
    by_cases h0 : 0 < r1.length
    · obtain ⟨r2, s2, t2, he, hlt, hI2⟩ := hI.step (fu := fu) hp hN h0 hf
      rw [if_pos (by omega), bd_t he]
      exact ih _ ⟨_, _, _, _, _, _, rfl, hI2⟩ hlt
    · rw [if_neg (by omega)]
      have hz : ci r1 = pc 0 := funext fun k => by rw [ci_ge (by omega), pc_zero]
      have hb : 1 + N * (N + 1 - r1.length) ≤ 1 + N * (N + 1) := by
        have : N * (N + 1 - r1.length) ≤ N * (N + 1) := Nat.mul_le_mul_left _ (by omega)
        omega
      have hl0 := hI.l0
      have hb2 : N * 1 ≤ N * (N + 1) := Nat.mul_le_mul_left _ (by omega)
      refine ⟨_, rfl, r0, s0, t0, rfl, hI.f0, hI.g0, hI.h0, hI.c0, ?_, by omega, Nat.le_trans hI.b0 hb, Nat.le_trans hI.b1 hb⟩
      obtain ⟨A, B, C, D, z1, z2, z3, z4, d1, d2⟩ := hI.dv
      rw [hz, p_mul_comm B, p_zero_mul] at d1
      rw [hz, p_mul_comm D, p_zero_mul] at d2
      refine ⟨A, C, z1, z3, d1.trans (Cg.of ?_), d2.trans (Cg.of ?_)⟩ <;> funext k <;> rw [p_add, pc_zero, Int.add_zero]) fu ([r0, s0, t0], [r1, s1, t1]) ⟨_, _, _, _, _, _, rfl, hI⟩ (by have := hI.l1; show r1.length < fu; omega)
  exact ⟨d, s, t, e1, e3⟩
theorem M_fpoly_Bezout_ex {fu : Nat} {p : Int} {g h : List Int} (hp : prm p = true) (hg : Fp p g) (hh : Fp p h) (hlg : g.length ≤ 290) (hlh : h.length ≤ 290) (hf : 3000000 ≤ fu) :
    ∃ d s t, M_fpoly_Bezout fu g h p = some (d, s, t, 0) ∧ BzR p g h d s t (2 + max g.length h.length * (max g.length h.length + 1)) ∧ (d.length = 0 ∨ ci d (d.length - 1) = 1) := by
  obtain ⟨p1, p2⟩ := prm_rng hp
  unfold M_fpoly_Bezout
  rw [bd_t (fp_check hp (by omega)), if_pos rfl, bd_t (M_fpoly_plain_eq (by omega) p2 (hg.rl p2) (by omega) hf), bd_t (M_fpoly_plain_eq (by omega) p2 (hh.rl p2) (by omega) hf), hg.pm, hh.pm]
  have z0 : ci ([] : List Int) = pc 0 := funext fun k => by rw [ci_ge (Nat.zero_le _), pc_zero]
  have addz : ∀ f : Pz, f + pc 0 = f := fun f => funext fun k => by rw [p_add, pc_zero, Int.add_zero]
  have zadd : ∀ f : Pz, pc 0 + f = f := fun f => funext fun k => by rw [p_add, pc_zero, Int.zero_add]
  have hI : BzI p g h g [1] [] h [] [1] (max g.length h.length) := by
    refine ⟨hg, fp_one (by decide) (by omega), fp_nil (by omega), hh, fp_nil (by omega), fp_one (by decide) (by omega), Cg.of ?_, Cg.of ?_, ⟨pc 1, pc 0, pc 0, pc 1, Fs.pc 1, Fs.pc 0, Fs.pc 0, Fs.pc 1, Cg.of ?_, Cg.of ?_⟩, Nat.le_max_left _ _, Nat.le_max_right _ _, Nat.le_add_right _ _, Nat.zero_le _, Nat.zero_le _, Nat.le_add_right _ _⟩
    · rw [ci_one, z0, p_one_mul, p_zero_mul, addz]
    · rw [ci_one, z0, p_one_mul, p_zero_mul, zadd]
    · rw [p_one_mul, p_zero_mul, addz]
    · rw [p_one_mul, p_zero_mul, zadd]
  obtain ⟨d, s, t, e1, hR⟩ := bez_loop (fu := fu) hp (by omega) hf hI
  have hS : max g.length h.length * (max g.length h.length + 1) ≤ 290 * 291 := Nat.mul_le_mul (by omega) (by omega)
  generalize max g.length h.length * (max g.length h.length + 1) = S at *
  rw [bd_t e1, show (0 : Int) = ((0 : Nat) : Int) from rfl, ckI_n (by decide)]
  show ∃ d' s' t', bd (if ((0 : Nat) : Int) < ((d.length : Nat) : Int) then some true else some false) _ = _ ∧ _
  by_cases h0 : 0 < d.length
  · have hdl := hR.dl
    have htop : ci d (d.length - 1) ≠ 0 := by
      rcases hR.df.nl with h | h
      · omega
      · exact h
    have t1 := hR.df.nn (d.length - 1)
    have t2 := hR.df.lt (d.length - 1)
    obtain ⟨x, x1, x2, x3, x4, x5⟩ := M_fpoly_scaled_ex (fu := fu) hp hR.df (show 0 < ci d (d.length - 1) by omega) t2 (by omega) hf
    have sc : ∀ {a : List Int}, Fp p a → a.length ≤ 90000 → M_fpoly_scaled fu a (ci d (d.length - 1)) p = some (fmul p a [x]) := fun {a} ha hl => by
      unfold M_fpoly_scaled
      rw [bd_t x4]
      simp only []
      rw [bd_t (M_fpoly_product_eq (by omega) p2 ha (fp_one x1 x2) (by omega) (by simp) hf)]
    rw [if_pos (by omega), bd_t rfl, if_pos rfl, ckI_n (by decide)]
    show ∃ d' s' t', ck64 (((d.length : Nat) : Int) - 1) _ = _ ∧ _
    rw [show ((d.length : Nat) : Int) - 1 = ((d.length - 1 : Nat) : Int) by omega, ck64_t ⟨by omega, by omega⟩]
    show ∃ d' s' t', ckI ((d.length - 1 : Nat) : Int) d.length _ = _ ∧ _
    rw [ckI_n (by omega), nm_t]
    show ∃ d' s' t', bd (loopN (B_fpoly_Bezout_1 fu p (ci d (d.length - 1))) fu (((0 : Nat) : Int), [d, s, t])) _ = _ ∧ _
    have hloop : loopN (B_fpoly_Bezout_1 fu p (ci d (d.length - 1))) fu (((0 : Nat) : Int), [d, s, t]) = some [fmul p d [x], fmul p s [x], fmul p t [x]] := by
      obtain ⟨n, hn⟩ : ∃ n, fu = n + 4 := ⟨fu - 4, by omega⟩
      have step : ∀ (L : Int × List (List Int) → Option (List (List Int))) (i : Nat) (y : List Int) (ts : List (List Int)), i < 3 → ts.getD i [] = y → Fp p y → y.length ≤ 90000 →
          B_fpoly_Bezout_1 fu p (ci d (d.length - 1)) L ((i : Int), ts) = L (((i + 1 : Nat) : Int), ts.set i (fmul p y [x])) := fun L i y ts hi hy hyF hyl => by
        unfold B_fpoly_Bezout_1
        simp only []
        rw [if_pos (by omega), ckI_n hi, hy, bd_t (sc hyF hyl), ckI_n hi, nm_t, ck64_t ⟨by omega, by omega⟩]
        rfl
      have hn' : loopN (B_fpoly_Bezout_1 fu p (ci d (d.length - 1))) (n + 4) (((0 : Nat) : Int), [d, s, t]) = some [fmul p d [x], fmul p s [x], fmul p t [x]] := by
        rw [loopN_t, step _ 0 d _ (by decide) rfl hR.df (Nat.le_trans hR.dl (by omega)), loopN_t, step _ 1 s _ (by decide) rfl hR.sf (Nat.le_trans hR.sl (by omega)), loopN_t, step _ 2 t _ (by decide) rfl hR.tf (Nat.le_trans hR.tl (by omega)), loopN_t]
        unfold B_fpoly_Bezout_1
        simp only []
        rw [if_neg (by decide)]
        rfl
      rw [← hn] at hn'
      exact hn'
    rw [bd_t hloop]
    have hmul : ∀ a : List Int, Cg p (ci (fmul p a [x])) (ci a * pc x) := fun a => by
      have := fmul_cg p a [x]
      rw [ci_one] at this
      exact this
    have hunit : Cg p (pc x * pc (ci d (d.length - 1))) (pc 1) := fun k => by
      rw [pc_pc]
      unfold pc; split
      · rw [x3]; exact (Int.emod_eq_of_lt (by decide) (by omega)).symm
      · rfl
    have f1 := fmul_le p d [x]
    have f2 := fmul_le p s [x]
    have f3 := fmul_le p t [x]
    have hsl := hR.sl
    have htl := hR.tl
    simp only [List.length_cons, List.length_nil] at f1 f2 f3
    have hmon : ∀ k, ci (fmul p d [x]) k = (x * ci d k) % p := fun k => by
      rw [fmul_ci, ci_one, p_mul_comm, pc_mul]
    have hlead : (fmul p d [x]).length = d.length := by
      refine Nat.le_antisymm ((fmul_fp (by omega) _ _).nl.le fun k hk => ?_) (Nat.le_of_not_lt fun hlt => ?_)
      · rw [hmon, ci_ge hk, Int.mul_zero, Int.zero_emod]
      · have h3 := hmon (d.length - 1)
        rw [x3, ci_ge (by omega)] at h3
        cases h3
    refine ⟨fmul p d [x], fmul p s [x], fmul p t [x], rfl, ⟨fmul_fp (by omega) _ _, fmul_fp (by omega) _ _, fmul_fp (by omega) _ _, ?_, ?_, by omega, by omega, by omega⟩, .inr ?_⟩
    · refine (hmul d).trans ((hR.cg.mul Cg.rfl).trans (Cg.trans (Cg.of ?_) (Cg.symm (((hmul s).mul Cg.rfl).add ((hmul t).mul Cg.rfl)))))
      simp only [p_mul_add, p_add_mul, p_mul_assoc, p_mul_comm, p_mul_left_comm]
    · obtain ⟨A, C, z1, z3, d1, d2⟩ := hR.dv
      have key : ∀ F : Pz, Cg p (F * ci d) (F * pc (ci d (d.length - 1)) * ci (fmul p d [x])) := fun F => by
        refine Cg.symm ((Cg.rfl.mul (hmul d)).trans (Cg.trans (Cg.of ?_) (((Cg.rfl (f := F * ci d)).mul hunit).trans (Cg.of (p_mul_one _)))))
        simp only [p_mul_assoc, p_mul_comm, p_mul_left_comm]
      exact ⟨_, _, z1.mul (Fs.pc _), z3.mul (Fs.pc _), d1.trans (key A), d2.trans (key C)⟩
    · rw [hlead, hmon, x3]
  · rw [if_neg (by omega), bd_t rfl, if_neg (by decide)]
    exact ⟨d, s, t, rfl, ⟨hR.df, hR.sf, hR.tf, hR.cg, hR.dv, Nat.le_trans hR.dl (by omega), Nat.le_trans hR.sl (by omega), Nat.le_trans hR.tl (by omega)⟩, .inl (by omega)⟩
end Go.Proofs.YtjnjfinbdfolkaaGreat
end

section
set_option linter.unusedVariables false
set_option linter.unusedSimpArgs false
namespace Go.Proofs.YtjnjfinbdfolkaaGreat
theorem small_val {n : Nat} (h : n < 9223372036854775808) : sgn n = (n : Int) := by
  unfold sgn
  rw [if_pos h]
theorem M_zint_Small_eq {fu : Nat} {x : Int} (h0 : 0 ≤ x) (h : x < 9223372036854775808) (hf : 3000000 ≤ fu) : M_zint_Small fu (ofI x) = some (x, true) := by
  have hB : Bz 1 x := by unfold Bz; omega
  unfold M_zint_Small
  rw [bd_t (M_zint_Norm_eq' (hB.ok (by decide)) hf), zv_ofI]
  have hneg : (ofI x).1 = false := by unfold ofI; simp; omega
  by_cases hx : x = 0
  · subst hx
    rw [show (ofI 0).2 = [] from rfl, if_pos (show ((([] : List Nat).length : Nat) : Int) = 0 from rfl), bd_t rfl, if_pos rfl]
  · have hpos := ofI_pos.2 hx
    have hlen := hB.len
    obtain ⟨n, rfl⟩ := Int.eq_ofNat_of_zero_le h0
    have hg : (ofI (n : Int)).2.getD 0 0 = n := by
      show (toL ((n : Int).natAbs)).getD 0 0 = n
      rw [Int.natAbs_natCast, toL_getD, Nat.pow_zero, Nat.div_one, Nat.mod_eq_of_lt (by omega)]
    rw [if_neg (by omega), bd_t rfl, if_neg (by decide), if_neg (by omega), bd_t rfl, if_neg (by decide), hneg, if_neg (by decide), bd_t rfl, if_neg (by decide), if_neg (by decide), show (0 : Int) = ((0 : Nat) : Int) from rfl, ckI_n (by omega), nm_t, hg, if_neg (by omega), ckI_n (by omega), nm_t, hg, nm_t, small_val (by omega)]
theorem M_prime_Mod_eq {fu : Nat} {a : Zr} {p : Int} (ha : OkS a) (h1 : 1 ≤ p) (h2 : p ≤ 65521) (hf : 3000000 ≤ fu) : M_prime_Mod fu a p = some (zv a % p, 0) := by
  unfold M_prime_Mod
  have hB : Bz 1 p := by unfold Bz; omega
  have hr := red_rng (a := zv a) (p := p) (by omega)
  rw [bd_t (M_zint_Of_eq' ⟨by omega, by omega⟩ hf), bd_t (M_prime_Rest_eq ha (hB.okS (by decide)) hf), zv_ofI]
  unfold restR
  rw [if_neg (by omega)]
  simp only [if_true]
  rw [bd_t (M_zint_Small_eq hr.1 (by omega) hf)]
/-- the coefficients modulo p -/
def zmod (p : Int) (a : List Zr) : List Int := nl a.length (fun k => cf a k % p)
theorem zmod_ci (p : Int) (a : List Zr) (k : Nat) : ci (zmod p a) k = cf a k % p := nl_ci (fun k hk => by rw [cf_ge hk, Int.zero_emod]) k
theorem zmod_fp {p : Int} (hp : 0 < p) (a : List Zr) : Fp p (zmod p a) := ⟨fun k => by rw [zmod_ci]; exact (red_rng hp).1, fun k => by rw [zmod_ci]; exact (red_rng hp).2, nl_Nl _ _⟩
theorem zmod_le (p : Int) (a : List Zr) : (zmod p a).length ≤ a.length := nl_le _ _
theorem M_zpoly_Mod_eq {fu k : Nat} {a : List Zr} {p : Int} (ha : OkP k a) (hk : k ≤ 40000) (h1 : 1 ≤ p) (h2 : p ≤ 65521) (hl : a.length ≤ 1000000) (hf : 3000000 ≤ fu) : M_zpoly_Mod fu a p = some (zmod p a, 0) := by
  unfold M_zpoly_Mod
  have hd := dg_le (fun k => cf a k % p) a.length
  rw [if_neg (by omega), bd_t (v := zl a.length (fun k => cf a k % p))]
  · rw [bd_t (v := zmod p a)]
    refine loop_eq (fun t : List Int => ∃ m, m ≤ a.length ∧ t = zl m (fun k => cf a k % p) ∧ dg (fun k => cf a k % p) m = dg (fun k => cf a k % p) a.length) (fun t => t.length) _ ?_ _ _ ⟨a.length, Nat.le_refl _, rfl, rfl⟩ (by rw [zl_len]; omega)
    rintro t L ⟨m, hm, rfl, hg⟩ ih
    unfold B_zpoly_Mod_0
    rw [zl_len]
    cases m with
    | zero =>
      rw [if_neg (by omega)]
      unfold zmod nl
      rw [← hg]
      rfl
    | succ m =>
      rw [if_pos (by omega), show ((m + 1 : Nat) : Int) - 1 = (m : Int) by omega, ck64_t ⟨by omega, by omega⟩, ckI_n (by omega), nm_t, zl_getD (by omega)]
      by_cases h0 : cf a m % p = 0
      · rw [if_pos h0, ck64_t ⟨by omega, by omega⟩, ckN_n, ck_t (by omega), nm_t, zl_take (by omega)]
        exact ih _ ⟨m, by omega, rfl, by rw [← dg_step0 (f := fun k => cf a k % p) h0, hg]⟩ (by rw [zl_len, zl_len]; omega)
      · rw [if_neg h0]
        unfold zmod nl
        rw [← hg, dg_step1 (f := fun k => cf a k % p) h0]
  · unfold M_zpoly_each_api_Int_int
    rw [ckN_n, ck_t (by omega), nm_t, zl_rep, bd_t]
    refine loop_eq (fun s : Int × List Int => ∃ i : Nat, i ≤ a.length ∧ s = ((i : Int), zl a.length (fun k => if k < i then cf a k % p else 0))) (fun s => a.length - s.1.toNat) _ ?_ _ _ ⟨0, Nat.zero_le _, by rw [zl_congr (g := fun k => if k < 0 then cf a k % p else 0) (fun k _ => by rw [if_neg (by omega)])]; rfl⟩ (by show a.length - 0 < fu; omega)
    rintro s L ⟨i, hi, rfl⟩ ih
    unfold B_zpoly_each_api_Int_int_0
    simp only []
    by_cases h : i < a.length
    · rw [if_pos (by omega), bd_t rfl]
      simp only [if_true]
      have e1 : M_zpoly_Mod_1 fu (i : Int) (a.getD i (false, [])) p = some (cf a i % p) := by
        unfold M_zpoly_Mod_1
        rw [bd_t (M_prime_Mod_eq (ha.okS hk i) h1 h2 hf)]; rfl
      rw [ckI_n h, nm_t, bd_t e1, ckI_n (by rw [zl_len]; exact h), nm_t, zl_set, ck64_t ⟨by omega, by omega⟩]
      refine ih _ ⟨i + 1, by omega, ?_⟩ (by show a.length - ((i : Int) + 1).toNat < a.length - (i : Int).toNat; omega)
      congr 1
      refine zl_congr fun k hk => ?_
      unfold upf
      by_cases e : k = i
      · rw [if_pos e, if_pos (by omega), e]
      · rw [if_neg e]
        show (if k < i then cf a k % p else 0) = _
        by_cases e2 : k < i
        · rw [if_pos e2, if_pos (by omega)]
        · rw [if_neg e2, if_neg (by omega)]
    · rw [if_neg (by omega), bd_t rfl]
      simp only [Bool.false_eq_true, if_false]
      congr 1
      exact zl_congr fun k hk => by rw [if_pos (by omega)]
/-- the same numbers as integers -/
def zlift (l : List Int) : List Zr := nzp l.length (ci l)
theorem zlift_cf (l : List Int) : cf (zlift l) = ci l := funext fun k => nzp_cf (fun k hk => ci_ge hk) k
theorem zlift_le (l : List Int) : (zlift l).length ≤ l.length := by unfold zlift; rw [nzp_len]; exact dg_le _ _
theorem Rl.bz {l : List Int} (h : Rl l) (k : Nat) : Bz 1 (ci l k) := by
  obtain ⟨h1, h2⟩ := h k
  unfold Bz
  omega
theorem zlift_ok {l : List Int} (h : Rl l) : OkP 1 (zlift l) := OkP_nzp h.bz
theorem M_zpoly_Lift_eq {fu : Nat} {l : List Int} (h : Rl l) (hl : l.length ≤ 1000000) (hf : 3000000 ≤ fu) : M_zpoly_Lift fu l = some (zlift l) := by
  unfold M_zpoly_Lift
  rw [bd_t (v := zi l.length (ci l))]
  · rw [bd_t (M_zpoly_Norm_eq (OkP_zi h.bz) (by decide) (by rw [zi_len]; omega) hf), zi_len, nzp_zi]; rfl
  · unfold M_zpoly_each_int_api_Int
    rw [ckN_n, ck_t (by omega), nm_t, zi_rep, bd_t]
    refine loop_eq (fun s : Int × List Zr => ∃ i : Nat, i ≤ l.length ∧ s = ((i : Int), zi l.length (fun k => if k < i then ci l k else 0))) (fun s => l.length - s.1.toNat) _ ?_ _ _ ⟨0, Nat.zero_le _, by rw [zi_congr (g := fun k => if k < 0 then ci l k else 0) (fun k _ => by rw [if_neg (by omega)])]; rfl⟩ (by show l.length - 0 < fu; omega)
    rintro s L ⟨i, hi, rfl⟩ ih
    unfold B_zpoly_each_int_api_Int_0
    simp only []
    by_cases h1 : i < l.length
    · have e1 : M_zpoly_Lift_1 fu (i : Int) (l.getD i 0) = some (ofI (ci l i)) := by
        unfold M_zpoly_Lift_1
        rw [ci_d, bd_t (M_zint_Of_eq' (h i) hf)]
      rw [if_pos (by omega), ckI_n h1, nm_t, bd_t e1, ckI_n (by rw [zi_len]; exact h1), nm_t, zi_set, ck64_t ⟨by omega, by omega⟩]
      refine ih _ ⟨i + 1, by omega, ?_⟩ (by show l.length - ((i : Int) + 1).toNat < l.length - (i : Int).toNat; omega)
      congr 1
      refine zi_congr fun k hk => ?_
      unfold upf
      by_cases e : k = i
      · rw [if_pos e, if_pos (by omega), e]
      · rw [if_neg e]
        show (if k < i then ci l k else 0) = _
        by_cases e2 : k < i
        · rw [if_pos e2, if_pos (by omega)]
        · rw [if_neg e2, if_neg (by omega)]
    · rw [if_neg (by omega)]
      congr 1
      exact zi_congr fun k hk => by rw [if_pos (by omega)]
theorem M_zpoly_Of_eq {fu : Nat} {l : List Int} (h : Rl l) (hl : l.length ≤ 1000000) (hf : 3000000 ≤ fu) : M_zpoly_Of fu l = some (zlift l) := by
  unfold M_zpoly_Of
  rw [bd_t (M_zpoly_Lift_eq h hl hf)]
end Go.Proofs.YtjnjfinbdfolkaaGreat
end

section
set_option linter.unusedVariables false
set_option linter.unusedSimpArgs false
namespace Go.Proofs.YtjnjfinbdfolkaaGreat
/-- a factor that is taken: reduced, of a degree above nought, leading with one -/
def PlL (p : Int) (l : List Int) : Prop := (∀ j, j < l.length → 0 ≤ ci l j ∧ ci l j < p) ∧ 1 < l.length ∧ ci l (l.length - 1) = 1
theorem PlL.fp {p : Int} {l : List Int} (hp : 0 < p) (h : PlL p l) : Fp p l := by
  refine ⟨fun k => ?_, fun k => ?_, .inr (by rw [h.2.2]; decide)⟩
  · by_cases hk : k < l.length
    · exact (h.1 k hk).1
    · rw [ci_ge (by omega)]; omega
  · by_cases hk : k < l.length
    · exact (h.1 k hk).2
    · rw [ci_ge (by omega)]; exact hp
def prodF (p : Int) (fs : List (List Int)) : List Int := fs.foldl (fmul p) [1]
/-- without a common factor -/
def Cop (p : Int) (f g : Pz) : Prop := ∃ s t : Pz, Fs s ∧ Fs t ∧ Cg p (s * f + t * g) (pc 1)
theorem Cop.symm {p : Int} {f g : Pz} (h : Cop p f g) : Cop p g f := by
  obtain ⟨s, t, z1, z2, h⟩ := h
  refine ⟨t, s, z2, z1, (Cg.of ?_).trans h⟩
  funext k
  rw [p_add, p_add, Int.add_comm]
theorem Cop.mul {p : Int} {f g h : Pz} (hg : Fs g) (hh : Fs h) (hf : Fs f) (h1 : Cop p f h) (h2 : Cop p g h) : Cop p (f * g) h := by
  obtain ⟨s, t, z1, z2, h1⟩ := h1
  obtain ⟨u, v, z3, z4, h2⟩ := h2
  refine ⟨s * u, s * f * v + t * (u * g + v * h), z1.mul z3, ((z1.mul hf).mul z4).add (z2.mul ((z3.mul hg).add (z4.mul hh))), Cg.trans (Cg.of ?_) ((h1.mul h2).trans (Cg.of (p_one_mul _)))⟩
  simp only [p_mul_add, p_add_mul, p_mul_assoc, p_mul_left_comm, p_mul_comm]
  funext k
  simp only [p_add]
  omega
theorem Cop.one (p : Int) (h : Pz) : Cop p (pc 1) h := ⟨pc 1, pc 0, Fs.pc 1, Fs.pc 0, Cg.of (by
  rw [p_one_mul, p_zero_mul]
  funext k
  rw [p_add, pc_zero, Int.add_zero])⟩
theorem gcd_one {p : Int} {g h d s t : List Int} {S : Nat} (hR : BzR p g h d s t S) (hl : d.length = 1) (h1 : ci d (d.length - 1) = 1) : Cop p (ci g) (ci h) := by
  have e : ci d = pc 1 := by
    funext k
    unfold pc
    by_cases hk : k = 0
    · rw [if_pos hk, hk, ← h1, hl]
    · rw [if_neg hk, ci_ge (by omega)]
  have := hR.cg
  rw [e] at this
  exact ⟨ci s, ci t, Fs.ci s, Fs.ci t, this.symm⟩
structure RightP (p : Int) (a : List Zr) (fs : List (List Int)) : Prop where
  a0 : a.length ≠ 0
  al : (zmod p a).length = a.length
  fl : fs.length ≤ a.length
  pl : ∀ i, i < fs.length → (fs.getD i []).length ≤ a.length ∧ PlL p (fs.getD i [])
  cp : ∀ i j, i < fs.length → j < i → Cop p (ci (fs.getD i [])) (ci (fs.getD j []))
  pr : fmul p (prodF p fs) [ci (zmod p a) (a.length - 1)] = zmod p a
end Go.Proofs.YtjnjfinbdfolkaaGreat
end

section
set_option linter.unusedVariables false
set_option linter.unusedSimpArgs false
namespace Go.Proofs.YtjnjfinbdfolkaaGreat
def addP (a b : List Zr) : List Zr := nzp (max a.length b.length) (fun j => cf a j + cf b j)
theorem addP_cf (a b : List Zr) (k : Nat) : cf (addP a b) k = cf a k + cf b k := nzp_cf (fun j hj => cf_zero_out hj) k
theorem addP_len (a b : List Zr) : (addP a b).length ≤ max a.length b.length := by unfold addP; rw [nzp_len]; exact dg_le _ _
theorem addP_ok {k : Nat} {a b : List Zr} (ha : OkP k a) (hb : OkP k b) : OkP (k + 1) (addP a b) := OkP_nzp fun j => (ha.bz j).add (hb.bz j)
theorem add_law {fu k : Nat} {a b : List Zr} (ha : OkP k a) (hb : OkP k b) (hk : k + 1 ≤ 100000) (hla : a.length ≤ 1000000) (hlb : b.length ≤ 1000000) (hf : 3000000 ≤ fu) : M_zpoly_Add fu a b = some (addP a b) := M_zpoly_Add_eq ha hb hk hla hlb hf
def oneP : List Zr := zlift [1]
theorem oneP_cf : (cf oneP : Pz) = pc 1 := by unfold oneP; rw [zlift_cf, ci_one]
theorem oneP_len : oneP.length ≤ 1 := zlift_le [1]
theorem one_rl : Rl [1] := fun k => by
  rw [ci_one]
  unfold pc; split <;> exact ⟨by decide, by decide⟩
theorem oneP_ok : OkP 1 oneP := zlift_ok one_rl
def puE (f g h : List Zr) (m : Int) : List Zr := redP (subP f (mulP g h)) m
def puQ (x d : List Zr) (m : Int) : List Zr := divQ (redP x m) d m
def puR (x d : List Zr) (m : Int) : List Zr := divRest (redP x m) d m
def puG (f g h s t : List Zr) (m : Int) : List Zr := redP (addP g (addP (mulP t (puE f g h m)) (mulP (puQ (mulP s (puE f g h m)) h m) g))) m
def puH (f g h s : List Zr) (m : Int) : List Zr := redP (addP h (puR (mulP s (puE f g h m)) h m)) m
/-- the cofactors, over the new factors -/
def puB (g h s t : List Zr) (m : Int) : List Zr := redP (subP (addP (mulP s g) (mulP t h)) oneP) m
def puS (g h s t : List Zr) (m : Int) : List Zr := redP (subP s (puR (mulP s (puB g h s t m)) h m)) m
def puT (g h s t : List Zr) (m : Int) : List Zr := redP (subP t (addP (mulP t (puB g h s t m)) (mulP (puQ (mulP s (puB g h s t m)) h m) g))) m
theorem puQ_ok {K : Nat} {x d : List Zr} {m : Int} (hm : Bz K m) (h0 : 0 < m) : OkP K (puQ x d m) := OkP_nzp fun j => hm.emod h0
theorem puR_ok {K : Nat} {x d : List Zr} {m : Int} (hm : Bz K m) (h0 : 0 < m) : OkP K (puR x d m) := OkP_nzp fun j => hm.emod h0
theorem puQ_len (x d : List Zr) (m : Int) : (puQ x d m).length ≤ x.length + 1 := by
  unfold puQ divQ
  rw [nzp_len]
  have := redP_len x m
  exact Nat.le_trans (dg_le _ _) (by omega)
theorem puR_len (x d : List Zr) (m : Int) : (puR x d m).length ≤ x.length := by
  unfold puR divRest
  rw [nzp_len]
  exact Nat.le_trans (dg_le _ _) (redP_len x m)
theorem puR_short {x d : List Zr} {m : Int} (hdl : 0 < d.length) (hd1 : cf d (d.length - 1) = 1) : (puR x d m).length < d.length := divRest_short hdl hd1
/-- the second factor keeps its degree and leads with one -/
theorem puH_top {f g h s : List Zr} {m : Int} (h2 : 2 ≤ m) (hl : 0 < h.length) (h1 : cf h (h.length - 1) = 1) : (puH f g h s m).length = h.length ∧ cf (puH f g h s m) (h.length - 1) = 1 := by
  have hs := puR_short (x := mulP s (puE f g h m)) (m := m) hl h1
  have e : ∀ k, cf (puH f g h s m) k = (cf h k + cf (puR (mulP s (puE f g h m)) h m) k) % m := fun k => by unfold puH; rw [redP_cf, addP_cf]
  have e1 : cf (puH f g h s m) (h.length - 1) = 1 := by
    rw [e, h1, cf_ge (p := puR _ _ _) (by omega)]
    exact Int.emod_eq_of_lt (by decide) (by omega)
  refine ⟨Nat.le_antisymm (can_le (redP_can _ _) fun k hk => ?_) (Nat.le_of_not_lt fun hlt => ?_), e1⟩
  · have := e k
    unfold puH at this
    rw [this, cf_ge hk, cf_ge (p := puR _ _ _) (by omega), Int.add_zero, Int.zero_emod]
  · rw [cf_ge (by omega)] at e1
    cases e1
theorem M_hensel_pair_up_eq {fu K W : Nat} {f g h s t : List Zr} {m : Zr} (hfo : OkP K f) (hg : OkP K g) (hh : OkP K h) (hs : OkP K s) (ht : OkP K t) (lf : f.length ≤ W) (lg : g.length ≤ W) (lh : h.length ≤ W) (ls : s.length ≤ W) (lt : t.length ≤ W) (hW : W ≤ 5000) (hK1 : 1 ≤ K) (hK : K ≤ 1000) (hmO : Limbs m.2) (hml : m.2.length ≤ K) (h2 : 2 ≤ zv m) (hl : 0 < h.length) (h1 : cf h (h.length - 1) = 1) (hf : 3000000 ≤ fu) :
    M_hensel_pair_up fu [g, h, s, t] f m = some [puG f g h s t (zv m), puH f g h s (zv m), puS (puG f g h s t (zv m)) (puH f g h s (zv m)) s t (zv m), puT (puG f g h s t (zv m)) (puH f g h s (zv m)) s t (zv m)] := by
  have hm : Bz K (zv m) := (Bz.of hmO).mono hml
  have hmS : OkS m := ⟨hmO, by omega⟩
  have h0 : 0 < zv m := by omega
  unfold M_hensel_pair_up
  rw [ckI_t (i := 0) (by decide), nm_t, ckI_t (i := 1) (by decide), nm_t, ckI_t (i := 2) (by decide), nm_t, ckI_t (i := 3) (by decide), nm_t, show [g, h, s, t].getD (Int.toNat 0) [] = g from rfl, show [g, h, s, t].getD (Int.toNat 1) [] = h from rfl, show [g, h, s, t].getD (Int.toNat 2) [] = s from rfl, show [g, h, s, t].getD (Int.toNat 3) [] = t from rfl]
  have p1 := mulP_ok hg hh
  have l1 := mulP_len g h
  have l2 := subP_len f (mulP g h)
  rw [bd_t (M_zpoly_Mul_eq hg hh (by omega) (by omega) hf), bd_t (M_zpoly_Sub_eq (k := K + K + g.length) (hfo.mono (by omega)) p1 (by omega) (by omega) (by omega) hf), bd_t (red_low (subP_ok (hfo.mono (by omega)) p1) (by omega) hmS h0 (by omega) hf), show redP (subP f (mulP g h)) (zv m) = puE f g h (zv m) from rfl]
  have pe : OkP K (puE f g h (zv m)) := redP_ok hm h0
  have le : (puE f g h (zv m)).length ≤ W + W := Nat.le_trans (redP_len _ _) (by omega)
  have p2 := mulP_ok hs pe
  have l3 := mulP_len s (puE f g h (zv m))
  have pq := puQ_ok (x := mulP s (puE f g h (zv m))) (d := h) hm h0
  have pr := puR_ok (x := mulP s (puE f g h (zv m))) (d := h) hm h0
  have lq := puQ_len (mulP s (puE f g h (zv m))) h (zv m)
  have lr := puR_len (mulP s (puE f g h (zv m))) h (zv m)
  rw [bd_t (M_zpoly_Mul_eq hs pe (by omega) (by omega) hf), bd_t (M_hensel_divided_eq p2 (by omega) hh hmO hml h0 hl (by omega) (by omega) hf), show divQ (redP (mulP s (puE f g h (zv m))) (zv m)) h (zv m) = puQ (mulP s (puE f g h (zv m))) h (zv m) from rfl, show divRest (redP (mulP s (puE f g h (zv m))) (zv m)) h (zv m) = puR (mulP s (puE f g h (zv m))) h (zv m) from rfl]
  simp only []
  have p3 := mulP_ok ht pe
  have l4 := mulP_len t (puE f g h (zv m))
  have p4 := mulP_ok pq hg
  have l5 := mulP_len (puQ (mulP s (puE f g h (zv m))) h (zv m)) g
  have p5 := addP_ok (k := K + K + W + W + W + 1) (p3.mono (by omega)) (p4.mono (by omega))
  have l6 := addP_len (mulP t (puE f g h (zv m))) (mulP (puQ (mulP s (puE f g h (zv m))) h (zv m)) g)
  have p6 := addP_ok (k := K + K + W + W + W + 2) (hg.mono (by omega)) p5
  have l7 := addP_len g (addP (mulP t (puE f g h (zv m))) (mulP (puQ (mulP s (puE f g h (zv m))) h (zv m)) g))
  rw [bd_t (M_zpoly_Mul_eq ht pe (by omega) (by omega) hf), bd_t (M_zpoly_Mul_eq pq hg (by omega) (by omega) hf), bd_t (add_law (k := K + K + W + W + W + 1) (p3.mono (by omega)) (p4.mono (by omega)) (by omega) (by omega) (by omega) hf), bd_t (add_law (k := K + K + W + W + W + 2) (hg.mono (by omega)) p5 (by omega) (by omega) (by omega) hf), bd_t (red_low p6 (by omega) hmS h0 (by omega) hf), show redP (addP g (addP (mulP t (puE f g h (zv m))) (mulP (puQ (mulP s (puE f g h (zv m))) h (zv m)) g))) (zv m) = puG f g h s t (zv m) from rfl]
  have l8 := addP_len h (puR (mulP s (puE f g h (zv m))) h (zv m))
  rw [bd_t (add_law hh pr (by omega) (by omega) (by omega) hf), bd_t (red_low (addP_ok hh pr) (by omega) hmS h0 (by omega) hf), show redP (addP h (puR (mulP s (puE f g h (zv m))) h (zv m))) (zv m) = puH f g h s (zv m) from rfl]
  obtain ⟨hh', h1'⟩ := puH_top (f := f) (g := g) (s := s) h2 hl h1
  have pG : OkP K (puG f g h s t (zv m)) := redP_ok hm h0
  have pH : OkP K (puH f g h s (zv m)) := redP_ok hm h0
  have lG : (puG f g h s t (zv m)).length ≤ 4 * W + 1 := Nat.le_trans (redP_len _ _) (by omega)
  clear l1 l2 l3 l4 l5 l6 l7 l8 p1 p2 p3 p4 p5 p6 pe le pq pr lq lr
  generalize puG f g h s t (zv m) = G at *
  generalize puH f g h s (zv m) = H at *
  have p1 := mulP_ok hs pG
  have l1 := mulP_len s G
  have p2 := mulP_ok ht pH
  have l2 := mulP_len t H
  have p3 := addP_ok (k := K + K + W) (p1.mono (by omega)) (p2.mono (by omega))
  have l3 := addP_len (mulP s G) (mulP t H)
  have l4 := subP_len (addP (mulP s G) (mulP t H)) oneP
  have l5 := oneP_len
  rw [bd_t (M_zpoly_Mul_eq hs pG (by omega) (by omega) hf), bd_t (M_zpoly_Mul_eq ht pH (by omega) (by omega) hf), bd_t (add_law (k := K + K + W) (p1.mono (by omega)) (p2.mono (by omega)) (by omega) (by omega) (by omega) hf)]
  rw [bd_t (M_zpoly_Of_eq one_rl (by decide) hf), show zlift [1] = oneP from rfl, bd_t (M_zpoly_Sub_eq p3 (oneP_ok.mono (by omega)) (by omega) (by omega) (by omega) hf), bd_t (red_low (subP_ok p3 (oneP_ok.mono (by omega))) (by omega) hmS h0 (by omega) hf), show redP (subP (addP (mulP s G) (mulP t H)) oneP) (zv m) = puB G H s t (zv m) from rfl]
  have pb : OkP K (puB G H s t (zv m)) := redP_ok hm h0
  have lb : (puB G H s t (zv m)).length ≤ 5 * W + 2 := Nat.le_trans (redP_len _ _) (by omega)
  have p4 := mulP_ok hs pb
  have l6 := mulP_len s (puB G H s t (zv m))
  have pc' := puQ_ok (x := mulP s (puB G H s t (zv m))) (d := H) hm h0
  have pd := puR_ok (x := mulP s (puB G H s t (zv m))) (d := H) hm h0
  have lc := puQ_len (mulP s (puB G H s t (zv m))) H (zv m)
  have ld := puR_len (mulP s (puB G H s t (zv m))) H (zv m)
  have l7 := subP_len s (puR (mulP s (puB G H s t (zv m))) H (zv m))
  rw [bd_t (M_zpoly_Mul_eq hs pb (by omega) (by omega) hf), bd_t (M_hensel_divided_eq p4 (by omega) pH hmO hml h0 (by omega) (by omega) (by omega) hf), show divQ (redP (mulP s (puB G H s t (zv m))) (zv m)) H (zv m) = puQ (mulP s (puB G H s t (zv m))) H (zv m) from rfl, show divRest (redP (mulP s (puB G H s t (zv m))) (zv m)) H (zv m) = puR (mulP s (puB G H s t (zv m))) H (zv m) from rfl]
  simp only []
  rw [bd_t (M_zpoly_Sub_eq hs pd (by omega) (by omega) (by omega) hf), bd_t (red_low (subP_ok hs pd) (by omega) hmS h0 (by omega) hf), show redP (subP s (puR (mulP s (puB G H s t (zv m))) H (zv m))) (zv m) = puS G H s t (zv m) from rfl]
  have p5 := mulP_ok ht pb
  have l8 := mulP_len t (puB G H s t (zv m))
  have p6 := mulP_ok pc' pG
  have l9 := mulP_len (puQ (mulP s (puB G H s t (zv m))) H (zv m)) G
  have p7 := addP_ok (k := K + K + 6 * W + 3) (p5.mono (by omega)) (p6.mono (by omega))
  have l10 := addP_len (mulP t (puB G H s t (zv m))) (mulP (puQ (mulP s (puB G H s t (zv m))) H (zv m)) G)
  have l11 := subP_len t (addP (mulP t (puB G H s t (zv m))) (mulP (puQ (mulP s (puB G H s t (zv m))) H (zv m)) G))
  rw [bd_t (M_zpoly_Mul_eq ht pb (by omega) (by omega) hf), bd_t (M_zpoly_Mul_eq pc' pG (by omega) (by omega) hf), bd_t (add_law (k := K + K + 6 * W + 3) (p5.mono (by omega)) (p6.mono (by omega)) (by omega) (by omega) (by omega) hf), bd_t (M_zpoly_Sub_eq (ht.mono (by omega)) p7 (by omega) (by omega) (by omega) hf), bd_t (red_low (subP_ok (ht.mono (by omega)) p7) (by omega) hmS h0 (by omega) hf), show redP (subP t (addP (mulP t (puB G H s t (zv m))) (mulP (puQ (mulP s (puB G H s t (zv m))) H (zv m)) G))) (zv m) = puT G H s t (zv m) from rfl]
end Go.Proofs.YtjnjfinbdfolkaaGreat
end

section
set_option linter.unusedVariables false
set_option linter.unusedSimpArgs false
namespace Go.Proofs.YtjnjfinbdfolkaaGreat
theorem redP_cg (a : List Zr) (m : Int) : Cg m (cf (redP a m)) (cf a) := fun k => by rw [redP_cf, Int.emod_emod]
theorem subP_p (a b : List Zr) : (cf (subP a b) : Pz) = cf a - cf b := funext fun k => subP_cf a b k
theorem addP_p (a b : List Zr) : (cf (addP a b) : Pz) = cf a + cf b := funext fun k => addP_cf a b k
theorem div_cg {x d : List Zr} {m : Int} (hdl : 0 < d.length) (hd1 : cf d (d.length - 1) = 1) : Cg m (cf x) ((cf (puQ x d m) : Pz) * cf d + cf (puR x d m)) := by
  intro k
  unfold puQ puR
  rw [p_add, ← mulP_mul, divRest_cf (by omega) hdl hd1, Int.add_emod, Int.emod_emod, ← Int.add_emod]
  have hr := redP_cf x m k
  generalize redP x m = r at *
  obtain ⟨qn, hq⟩ : ∃ qn, qn = r.length + 1 - d.length := ⟨_, rfl⟩
  have hqc : ∀ j, j < qn → cf (divQ r d m) j = dvC r d m qn j := fun j hj => by
    rw [divQ_cf, ← hq]
    unfold dvQ dvC
    rw [if_pos hj, Int.emod_emod]
  have hql : (divQ r d m).length ≤ qn := by unfold divQ; rw [nzp_len, ← hq]; exact dg_le _ _
  have h := dv_rows hqc k qn (Nat.le_refl _)
  rw [dvG_top, mulC_stable hql] at h
  rw [mulP_cf, ← hq, Int.add_comm, ← h, hr, Int.emod_emod]
theorem dvd_emod {n m x : Int} (hn : n ∣ m) (hx : n ∣ x) : n ∣ x % m := by
  rw [Int.emod_def]
  exact Int.dvd_sub hx (Int.dvd_trans hn (Int.dvd_mul_right _ _))
theorem dvF_dvd {r d : List Zr} {n m : Int} {qn : Nat} (hn : n ∣ m) (hr : ∀ k, n ∣ cf r k) : ∀ s k, n ∣ dvF r d m qn s k
  | 0, k => hr k
  | s + 1, k => Int.dvd_sub (dvF_dvd hn hr s k) (Int.dvd_trans (dvd_emod hn (dvF_dvd hn hr s _)) (Int.dvd_mul_right _ _))
theorem div_zero {x d : List Zr} {n m : Int} (hn : n ∣ m) (hx : Cg n (cf x) (pc 0)) (hdl : 0 < d.length) (hd1 : cf d (d.length - 1) = 1) : Cg n (cf (puQ x d m)) (pc 0) ∧ Cg n (cf (puR x d m)) (pc 0) := by
  have hr : ∀ k, n ∣ cf (redP x m) k := fun k => by rw [redP_cf]; exact dvd_emod hn (hx.dvd k)
  refine ⟨Cg.of_dvd fun k => ?_, Cg.of_dvd fun k => ?_⟩
  · unfold puQ
    rw [divQ_cf]
    refine dvd_emod hn ?_
    unfold dvQ
    split
    · exact dvd_emod hn (dvF_dvd hn hr _ _)
    · exact Int.dvd_zero _
  · unfold puR
    rw [divRest_cf (by omega) hdl hd1]
    exact dvd_emod hn (dvF_dvd hn hr _ _)
theorem pu_fac {n m : Int} (hm : m ∣ n * n) (hn : n ∣ m) {f g h s t : List Zr} (h1 : Cg n (cf f) ((cf g : Pz) * cf h)) (h2 : Cg n ((cf s : Pz) * cf g + (cf t : Pz) * cf h) (pc 1)) (hdl : 0 < h.length) (hd1 : cf h (h.length - 1) = 1) :
    Cg m (cf f) ((cf (puG f g h s t m) : Pz) * cf (puH f g h s m)) ∧ Cg n (cf (puG f g h s t m)) (cf g) ∧ Cg n (cf (puH f g h s m)) (cf h) := by
  have he : Cg m (cf (puE f g h m)) ((cf f : Pz) - (cf g : Pz) * cf h) := by
    refine (redP_cg _ _).trans (Cg.of ?_)
    rw [subP_p, mulP_mul]
  have he0 : Cg n (cf (puE f g h m)) (pc 0) := (he.down hn).trans (Cg.iff_sub.1 h1)
  have hd : Cg m ((cf s : Pz) * cf (puE f g h m)) ((cf (puQ (mulP s (puE f g h m)) h m) : Pz) * cf h + cf (puR (mulP s (puE f g h m)) h m)) := by
    rw [← mulP_mul]
    exact div_cg hdl hd1
  obtain ⟨z1, z2⟩ := div_zero (x := mulP s (puE f g h m)) (d := h) hn (by rw [mulP_mul]; exact he0.mul_zero_l _) hdl hd1
  refine lift_fac hm hn (q := cf (puQ (mulP s (puE f g h m)) h m)) (r := cf (puR (mulP s (puE f g h m)) h m)) h1 h2 he hd z1 z2 ?_ ?_
  · refine (redP_cg _ _).trans (Cg.of ?_)
    rw [addP_p, addP_p, mulP_mul, mulP_mul]
  · refine (redP_cg _ _).trans (Cg.of ?_)
    rw [addP_p]
theorem pu_bez {n m : Int} (hm : m ∣ n * n) (hn : n ∣ m) {g h s t : List Zr} (h2 : Cg n ((cf s : Pz) * cf g + (cf t : Pz) * cf h) (pc 1)) (hdl : 0 < h.length) (hd1 : cf h (h.length - 1) = 1) :
    Cg m ((cf (puS g h s t m) : Pz) * cf g + (cf (puT g h s t m) : Pz) * cf h) (pc 1) := by
  have hb : Cg m (cf (puB g h s t m)) ((cf s : Pz) * cf g + (cf t : Pz) * cf h - pc 1) := by
    refine (redP_cg _ _).trans (Cg.of ?_)
    rw [subP_p, addP_p, mulP_mul, mulP_mul, oneP_cf]
  have hd : Cg m ((cf s : Pz) * cf (puB g h s t m)) ((cf (puQ (mulP s (puB g h s t m)) h m) : Pz) * cf h + cf (puR (mulP s (puB g h s t m)) h m)) := by
    rw [← mulP_mul]
    exact div_cg hdl hd1
  refine lift_bez hm hn h2 hb hd ?_ ?_
  · refine (redP_cg _ _).trans (Cg.of ?_)
    rw [subP_p]
  · refine (redP_cg _ _).trans (Cg.of ?_)
    rw [subP_p, addP_p, mulP_mul, mulP_mul]
/-- what leads a product whose second factor leads with one -/
theorem mul_top {a b : List Zr} (hal : 0 < a.length) (hbl : 0 < b.length) (hb : cf b (b.length - 1) = 1) : ((cf a : Pz) * cf b) (a.length - 1 + (b.length - 1)) = cf a (a.length - 1) := by
  rw [p_mul, sumN_single (i := a.length - 1) fun i hi => ?_, if_pos (by omega), show a.length - 1 + (b.length - 1) - (a.length - 1) = b.length - 1 by omega, hb, Int.mul_one]
  by_cases h : i < a.length - 1
  · rw [cf_ge (p := b) (by omega), Int.mul_zero]
  · rw [cf_ge (p := a) (by omega), Int.zero_mul]
/-- reduced factors of a reduced product: the degrees add up -/
theorem fac_deg {m : Int} {f g h : List Zr} (hm : 2 ≤ m) (hg : redP g m = g) (hf : redP f m = f) (hfl : 0 < f.length) (hdl : 0 < h.length) (hd1 : cf h (h.length - 1) = 1) (hc : Cg m (cf f) ((cf g : Pz) * cf h)) :
    f.length = g.length + (h.length - 1) ∧ 0 < g.length ∧ cf g (g.length - 1) = cf f (f.length - 1) := by
  have hgc := redP_can g m
  have hfc := redP_can f m
  rw [hg] at hgc
  rw [hf] at hfc
  have hgm : ∀ k, cf g k % m = cf g k := fun k => by rw [← redP_cf, hg]
  have hfm : ∀ k, cf f k % m = cf f k := fun k => by rw [← redP_cf, hf]
  have hft := can_top hfc (by omega)
  have g0 : 0 < g.length := by
    refine Nat.pos_of_ne_zero fun h0 => hft ?_
    rw [← hfm, hc, p_mul, sumN_zero fun i hi => by rw [cf_ge (p := g) (by omega), Int.zero_mul], Int.zero_emod]
  have hgt := can_top hgc (by omega)
  have ht := hc (g.length - 1 + (h.length - 1))
  rw [mul_top g0 hdl hd1, hfm, hgm] at ht
  have e1 : f.length = g.length + (h.length - 1) := by
    refine Nat.le_antisymm (can_le hfc fun k hk => ?_) (Nat.le_of_not_lt fun hlt => ?_)
    · rw [← hfm, hc, p_mul_out (n := g.length) (m := h.length) (fun j hj => cf_ge hj) (fun j hj => cf_ge hj) (by omega), Int.zero_emod]
    · rw [cf_ge (p := f) (by omega)] at ht
      exact hgt ht.symm
  refine ⟨e1, g0, ?_⟩
  rw [← ht]
  congr 1; omega
end Go.Proofs.YtjnjfinbdfolkaaGreat
end

section
set_option linter.unusedVariables false
set_option linter.unusedSimpArgs false
namespace Go.Proofs.YtjnjfinbdfolkaaGreat
/-- where the search stands -/
structure ZbI (a b : Nat) (r0 r1 : Nat) (u0 v0 u1 v1 : Int) : Prop where
  p0 : 0 < r0
  le0 : r0 ≤ max a b
  le1 : r1 ≤ max a b
  e0 : u0 * a + v0 * b = r0
  e1 : u1 * a + v1 * b = r1
  g : Nat.gcd r0 r1 = Nat.gcd a b
  su : ∃ x y : Nat, ((u0 = x ∧ u1 = -y) ∨ (u0 = -x ∧ u1 = y)) ∧ r0 * y + r1 * x = b
  sv : ∃ x y : Nat, ((v0 = x ∧ v1 = -y) ∨ (v0 = -x ∧ v1 = y)) ∧ r0 * y + r1 * x = a
  bu0 : u0.natAbs ≤ b
  bu1 : u1.natAbs ≤ b
  bv0 : v0.natAbs ≤ a
  bv1 : v1.natAbs ≤ a
theorem sgn_step {r0 r1 c : Nat} {u0 u1 : Int} (hr : 0 < r1) (h : ∃ x y : Nat, ((u0 = x ∧ u1 = -y) ∨ (u0 = -x ∧ u1 = y)) ∧ r0 * y + r1 * x = c) :
    (∃ x y : Nat, ((u1 = x ∧ u0 - ((r0 / r1 : Nat) : Int) * u1 = -y) ∨ (u1 = -x ∧ u0 - ((r0 / r1 : Nat) : Int) * u1 = y)) ∧ r1 * y + r0 % r1 * x = c) ∧ (u0 - ((r0 / r1 : Nat) : Int) * u1).natAbs ≤ c := by
  obtain ⟨x, y, hs, he⟩ := h
  have hdm := Nat.div_add_mod r0 r1
  generalize r0 / r1 = q at *
  generalize r0 % r1 = r2 at *
  have e1 : r1 * (x + q * y) + r2 * y = c := by
    rw [Nat.mul_add, ← Nat.mul_assoc]
    have : r0 * y = r1 * q * y + r2 * y := by rw [← Nat.add_mul, hdm]
    omega
  have hb : x + q * y ≤ c := by
    have h3 : 1 * (x + q * y) ≤ r1 * (x + q * y) := Nat.mul_le_mul_right _ (by omega)
    omega
  have hcast : ((q * y : Nat) : Int) = (q : Int) * (y : Int) := by simp
  rcases hs with ⟨a1, a2⟩ | ⟨a1, a2⟩
  · rw [a1, a2, Int.mul_neg, ← hcast]
    exact ⟨⟨y, x + q * y, .inr ⟨rfl, by omega⟩, e1⟩, by omega⟩
  · rw [a1, a2, ← hcast]
    exact ⟨⟨y, x + q * y, .inl ⟨rfl, by omega⟩, e1⟩, by omega⟩
theorem ZbI.step {a b r0 r1 : Nat} {u0 v0 u1 v1 : Int} (h : ZbI a b r0 r1 u0 v0 u1 v1) (hr : 0 < r1) : ZbI a b r1 (r0 % r1) u1 v1 (u0 - ((r0 / r1 : Nat) : Int) * u1) (v0 - ((r0 / r1 : Nat) : Int) * v1) := by
  obtain ⟨s1, s2⟩ := sgn_step hr h.su
  obtain ⟨t1, t2⟩ := sgn_step hr h.sv
  have hdm := Nat.div_add_mod r0 r1
  have hml := Nat.mod_lt r0 hr
  have hl1 := h.le1
  refine ⟨hr, hl1, by omega, h.e1, ?_, ?_, s1, t1, h.bu1, s2, h.bv1, t2⟩
  · have e0 := h.e0
    have e1 := h.e1
    have hc : (r0 : Int) = (r1 : Int) * ((r0 / r1 : Nat) : Int) + ((r0 % r1 : Nat) : Int) := by
      have : (r0 : Int) = ((r1 * (r0 / r1) + r0 % r1 : Nat) : Int) := by rw [hdm]
      rw [this]; simp
    generalize ((r0 / r1 : Nat) : Int) = q at *
    generalize ((r0 % r1 : Nat) : Int) = r2 at *
    rw [Int.sub_mul, Int.sub_mul, Int.mul_assoc, Int.mul_assoc]
    have e2 : q * (u1 * a) + q * (v1 * b) = r1 * q := by rw [← Int.mul_add, e1, Int.mul_comm]
    omega
  · rw [← h.g, Nat.gcd_comm r1, ← Nat.gcd_rec, Nat.gcd_comm]
theorem Bz.nat {K n : Nat} (h : n < 18446744073709551616 ^ K) : Bz K (n : Int) := by unfold Bz; rw [Int.natAbs_natCast]; exact h
theorem half_bl {r0 r1 : Nat} (h : r1 ≤ r0) (hr : 0 < r1) : bl (r0 % r1) < bl r0 := by
  have hdm := Nat.div_add_mod r0 r1
  have hml := Nat.mod_lt r0 hr
  have hq : 1 ≤ r0 / r1 := (Nat.le_div_iff_mul_le hr).2 (by omega)
  have h1 : r1 * 1 ≤ r1 * (r0 / r1) := Nat.mul_le_mul_left _ hq
  have hb := lt_bl r0
  have hp : 1 ≤ bl r0 := by rw [bl_pos (by omega)]; omega
  have e : 2 ^ bl r0 = 2 * 2 ^ (bl r0 - 1) := by rw [← Nat.pow_succ', show (bl r0 - 1).succ = bl r0 by omega]
  have := bl_le (n := r0 % r1) (k := bl r0 - 1) (by omega)
  omega
end Go.Proofs.YtjnjfinbdfolkaaGreat
end

section
set_option linter.unusedVariables false
set_option linter.unusedSimpArgs false
namespace Go.Proofs.YtjnjfinbdfolkaaGreat
/-- what divides one, modulo p, and leads with one, is one -/
theorem unit_deg {p : Int} {x : Pz} {d : List Int} (hp : 2 ≤ p) (hx : Fs x) (hd0 : 0 < d.length) (hd : ci d (d.length - 1) = 1) (h : Cg p (x * ci d) (pc 1)) : d.length = 1 := by
  obtain ⟨n, hn⟩ := hx
  obtain ⟨X, hX⟩ : ∃ X, X = nl n (fun k => x k % p) := ⟨_, rfl⟩
  have hXc : ∀ k, ci X k = x k % p := fun k => by
    rw [hX]
    exact nl_ci (fun j hj => by rw [hn j hj, Int.zero_emod]) k
  have hXn : Nl X := by rw [hX]; exact nl_Nl _ _
  have hcg : Cg p (ci X * ci d) (pc 1) := (Cg.mul (fun k => by rw [hXc, Int.emod_emod]) Cg.rfl).trans h
  rcases hXn with h0 | h0
  · have h1 := hcg 0
    rw [p_mul, sumN_zero fun i hi => by rw [ci_ge (l := X) (by omega), Int.zero_mul]] at h1
    unfold pc at h1
    rw [if_pos rfl, Int.zero_emod, Int.emod_eq_of_lt (by decide) (by omega)] at h1
    cases h1
  · have hXl : 0 < X.length := Nat.pos_of_ne_zero fun e => h0 (ci_ge (by omega))
    have ht : (ci X * ci d) (X.length - 1 + (d.length - 1)) = ci X (X.length - 1) := by
      rw [p_mul, sumN_single (i := X.length - 1) fun i hi => ?_, if_pos (by omega), show X.length - 1 + (d.length - 1) - (X.length - 1) = d.length - 1 by omega, hd, Int.mul_one]
      by_cases hc : i < X.length - 1
      · rw [ci_ge (l := d) (by omega), Int.mul_zero]
      · rw [ci_ge (l := X) (by omega), Int.zero_mul]
    have h1 := hcg (X.length - 1 + (d.length - 1))
    rw [ht, hXc, Int.emod_emod, ← hXc] at h1
    refine Decidable.byContradiction fun hne => ?_
    unfold pc at h1
    rw [if_neg (by omega), Int.zero_emod] at h1
    exact h0 h1
theorem prm_nodiv {p : Int} (hp : prm p = true) : NoDiv p.toNat := by
  refine Classical.byContradiction fun h => ?_
  rw [prm_f (fun e => h e.2.2)] at hp
  exact absurd hp (by decide)
theorem pow_lim {P k N : Nat} (h1 : 1 ≤ P) (h2 : P ≤ 65521) (hk : k ≤ 4 * N) (hN : 0 < N) : P ^ k < 18446744073709551616 ^ N := by
  rw [show (18446744073709551616 : Nat) = 65536 ^ 4 by decide, ← Nat.pow_mul]
  exact Nat.lt_of_le_of_lt (Nat.pow_le_pow_right (by omega) hk) (Nat.pow_lt_pow_left (by omega) (by omega))
theorem pow_bz {p : Int} (hp : prm p = true) {k : Nat} (hk : k ≤ 1000) : Bz 250 (p ^ k) := by
  obtain ⟨p1, p2⟩ := prm_rng hp
  obtain ⟨P, rfl⟩ := Int.eq_ofNat_of_zero_le (show 0 ≤ p by omega)
  unfold Bz
  rw [Int.natAbs_pow, Int.natAbs_natCast]
  exact pow_lim (by omega) (by omega) hk (by decide)
theorem pow_ge {p : Int} (hp : prm p = true) {k : Nat} (hk : 1 ≤ k) : 2 ≤ p ^ k := by
  obtain ⟨p1, p2⟩ := prm_rng hp
  obtain ⟨P, rfl⟩ := Int.eq_ofNat_of_zero_le (show 0 ≤ p by omega)
  have h1 : P ^ 1 ≤ P ^ k := Nat.pow_le_pow_right (by omega) hk
  rw [Nat.pow_one] at h1
  rw [← Int.natCast_pow]
  omega
theorem pow_dvd {p : Int} {i j : Nat} (h : i ≤ j) : p ^ i ∣ p ^ j := ⟨p ^ (j - i), by rw [← Int.pow_add, show i + (j - i) = j by omega]⟩
/-- a list that is reduced modulo m, with coefficients of so many limbs -/
structure Rd (K : Nat) (m : Int) (f : List Zr) : Prop where
  ok : OkP K f
  rd : redP f m = f
theorem Rd.mod {K : Nat} {m : Int} {f : List Zr} (h : Rd K m f) (k : Nat) : cf f k % m = cf f k := by rw [← redP_cf, h.rd]
theorem Rd.can {K : Nat} {m : Int} {f : List Zr} (h : Rd K m f) : f = nzp f.length (cf f) := by have := redP_can f m; rw [h.rd] at this; exact this
theorem redP_rd {K : Nat} {m : Int} (hm : Bz K m) (h0 : 0 < m) (a : List Zr) : Rd K m (redP a m) := ⟨redP_ok hm h0, redP_ext fun k => by rw [redP_cf, Int.emod_emod]⟩
end Go.Proofs.YtjnjfinbdfolkaaGreat
end

section
set_option linter.unusedVariables false
set_option linter.unusedSimpArgs false
namespace Go.Proofs.YtjnjfinbdfolkaaGreat
/-- where a lifting stands: all holds modulo p^i -/
structure TrI (p : Int) (k : Nat) (f g0 h0 : List Zr) (lh LS i : Nat) (G H S T : List Zr) : Prop where
  i1 : 1 ≤ i
  ik : i ≤ k
  rG : Rd 250 (p ^ i) G
  rH : Rd 250 (p ^ i) H
  rS : Rd 250 (p ^ i) S
  rT : Rd 250 (p ^ i) T
  hl : H.length = lh
  h1 : cf H (lh - 1) = 1
  fac : Cg (p ^ i) (cf f) ((cf G : Pz) * cf H)
  bez : Cg (p ^ i) ((cf S : Pz) * cf G + (cf T : Pz) * cf H) (pc 1)
  gp : Cg p (cf G) (cf g0)
  hp : Cg p (cf H) (cf h0)
  sl : S.length ≤ LS
/-- a reduced cofactor is no longer than what it makes up for -/
theorem cof_len {m : Int} {G H S T : List Zr} {K : Nat} (hm : 2 ≤ m) (hT : Rd K m T) (hl : 0 < H.length) (h1 : cf H (H.length - 1) = 1) (hb : Cg m ((cf S : Pz) * cf G + (cf T : Pz) * cf H) (pc 1)) : T.length ≤ S.length + G.length + 1 := by
  refine Nat.le_of_not_lt fun hlt => ?_
  have ht := can_top hT.can (by omega)
  have hp := hb (T.length - 1 + (H.length - 1))
  rw [p_add, mul_top (by omega) hl h1, p_mul_out (n := S.length) (m := G.length) (fun j hj => cf_ge hj) (fun j hj => cf_ge hj) (by omega), Int.zero_add, hT.mod] at hp
  unfold pc at hp
  rw [if_neg (by omega), Int.zero_emod] at hp
  exact ht hp
theorem red_top {p : Int} {k i : Nat} {f : List Zr} (hi : 1 ≤ i) (htop : cf f (f.length - 1) % p ≠ 0) (hfl : 0 < f.length) : (redP f (p ^ i)).length = f.length := by
  refine Nat.le_antisymm (redP_len _ _) (Nat.le_of_not_lt fun hlt => htop ?_)
  have h : cf (redP f (p ^ i)) (f.length - 1) = 0 := cf_ge (by omega)
  rw [redP_cf] at h
  have hd : p ∣ p ^ i := by
    have := pow_dvd (p := p) hi
    rw [Int.pow_succ, Int.pow_zero, Int.one_mul] at this
    exact this
  rw [← Int.emod_emod_of_dvd _ hd, h, Int.zero_emod]
theorem TrI.lens {p : Int} {k : Nat} {f g0 h0 : List Zr} {lh LS i : Nat} {G H S T : List Zr} (h : TrI p k f g0 h0 lh LS i G H S T) (hp : prm p = true) (htop : cf f (f.length - 1) % p ≠ 0) (hfl : 0 < f.length) (hlh : 0 < lh) :
    f.length = G.length + (lh - 1) ∧ 0 < G.length ∧ cf G (G.length - 1) = cf f (f.length - 1) % p ^ i ∧ T.length ≤ LS + G.length + 1 := by
  have hm2 := pow_ge hp h.i1
  have hl := h.hl
  have h1 := h.h1
  rw [← hl] at h1
  have hrl := red_top (k := k) h.i1 htop hfl
  obtain ⟨e1, e2, e3⟩ := fac_deg hm2 h.rG.rd (f := redP f (p ^ i)) (redP_ext fun j => by rw [redP_cf, Int.emod_emod]) (by omega) (by omega) h1 ((redP_cg _ _).trans h.fac)
  have e4 := cof_len hm2 h.rT (by omega) h1 h.bez
  have := h.sl
  rw [hrl, redP_cf] at e3
  exact ⟨by omega, e2, e3, by omega⟩
theorem pow_two {p : Int} {i j : Nat} (h : j ≤ i + i) : p ^ j ∣ p ^ i * p ^ i := by rw [← Int.pow_add]; exact pow_dvd h
theorem dvd_pow_self {p : Int} {i : Nat} (h : 1 ≤ i) : p ∣ p ^ i := by
  have := pow_dvd (p := p) h
  rw [Int.pow_succ, Int.pow_zero, Int.one_mul] at this
  exact this
theorem TrI.step {fu k : Nat} {p : Int} {f g0 h0 : List Zr} {lh LS i : Nat} {G H S T : List Zr} (h : TrI p k f g0 h0 lh LS i G H S T) (hp : prm p = true) (hk : k ≤ 1000) (hfO : OkP 250 f) (htop : cf f (f.length - 1) % p ≠ 0) (hfl : 0 < f.length) (hlh : 0 < lh) (hik : i < k) (hb1 : f.length ≤ 300) (hb2 : LS ≤ 4500) (hb3 : lh ≤ LS) (hf : 3000000 ≤ fu) :
    ∃ G' H' S' T', M_hensel_pair_up fu [G, H, S, T] f (ofI (p ^ min (2 * i) k)) = some [G', H', S', T'] ∧ TrI p k f g0 h0 lh LS (min (2 * i) k) G' H' S' T' := by
  obtain ⟨j, hj⟩ : ∃ j, j = min (2 * i) k := ⟨_, rfl⟩
  have hi1 := h.i1
  obtain ⟨l1, l2, l3, l4⟩ := h.lens hp htop hfl hlh
  have hmB := pow_bz hp (k := j) (by omega)
  have hm2 := pow_ge hp (k := j) (by omega)
  have hl := h.hl
  have h1 := h.h1
  have hsl := h.sl
  rw [← hl] at h1
  have hpu := M_hensel_pair_up_eq (fu := fu) (K := 250) (W := 5000) hfO h.rG.ok h.rH.ok h.rS.ok h.rT.ok (by omega) (by omega) (by omega) (by omega) (by omega) (Nat.le_refl _) (by decide) (by decide) (ofI_limbs (p ^ j)) hmB.len (by rw [zv_ofI]; exact hm2) (by omega) h1 hf
  rw [zv_ofI] at hpu
  rw [← hj]
  refine ⟨_, _, _, _, hpu, ?_⟩
  have d1 : p ^ j ∣ p ^ i * p ^ i := pow_two (by omega)
  have d2 : p ^ i ∣ p ^ j := pow_dvd (by omega)
  have d3 : p ∣ p ^ i := dvd_pow_self hi1
  obtain ⟨f1, f2, f3⟩ := pu_fac d1 d2 h.fac h.bez (by omega) h1
  obtain ⟨t1, t2⟩ := puH_top (f := f) (g := G) (s := S) hm2 (by omega) h1
  have hbez' : Cg (p ^ i) ((cf S : Pz) * cf (puG f G H S T (p ^ j)) + (cf T : Pz) * cf (puH f G H S (p ^ j))) (pc 1) := ((Cg.rfl.mul f2).add (Cg.rfl.mul f3)).trans h.bez
  have hbz := pu_bez d1 d2 hbez' (by omega) (by rw [t1]; exact t2)
  have hsh := puR_short (x := mulP S (puB (puG f G H S T (p ^ j)) (puH f G H S (p ^ j)) S T (p ^ j))) (d := puH f G H S (p ^ j)) (m := p ^ j) (by omega) (by rw [t1]; exact t2)
  refine ⟨by omega, by omega, redP_rd hmB (by omega) _, redP_rd hmB (by omega) _, redP_rd hmB (by omega) _, redP_rd hmB (by omega) _, by omega, by rw [hl] at t2; exact t2, f1, hbz, (f2.down d3).trans h.gp, (f3.down d3).trans h.hp, ?_⟩
  have e1 := redP_len (subP S (puR (mulP S (puB (puG f G H S T (p ^ j)) (puH f G H S (p ^ j)) S T (p ^ j))) (puH f G H S (p ^ j)) (p ^ j))) (p ^ j)
  have e2 := subP_len S (puR (mulP S (puB (puG f G H S T (p ^ j)) (puH f G H S (p ^ j)) S T (p ^ j))) (puH f G H S (p ^ j)) (p ^ j))
  show (redP _ _).length ≤ LS
  omega
end Go.Proofs.YtjnjfinbdfolkaaGreat
end

section
set_option linter.unusedVariables false
set_option linter.unusedSimpArgs false
namespace Go.Proofs.YtjnjfinbdfolkaaGreat
theorem fmul_mon {p : Int} {a b : List Int} (hp : 2 ≤ p) (ha : 0 < a.length) (ha1 : ci a (a.length - 1) = 1) (hb : 0 < b.length) (hb1 : ci b (b.length - 1) = 1) : (fmul p a b).length = a.length + b.length - 1 ∧ ci (fmul p a b) (a.length + b.length - 1 - 1) = 1 := by
  have ht : (ci a * ci b) (a.length - 1 + (b.length - 1)) = 1 := by
    rw [p_mul, sumN_single (i := a.length - 1) fun i hi => ?_, if_pos (by omega), show a.length - 1 + (b.length - 1) - (a.length - 1) = b.length - 1 by omega, hb1, ha1]
    · rfl
    · by_cases hc : i < a.length - 1
      · rw [ci_ge (l := b) (by omega), Int.mul_zero]
      · rw [ci_ge (l := a) (by omega), Int.zero_mul]
  have h1 : ci (fmul p a b) (a.length + b.length - 1 - 1) = 1 := by
    rw [fmul_ci, show a.length + b.length - 1 - 1 = a.length - 1 + (b.length - 1) by omega, ht]
    exact Int.emod_eq_of_lt (by decide) (by omega)
  refine ⟨Nat.le_antisymm ((fmul_fp (by omega) a b).nl.le fun k hk => ?_) (Nat.le_of_not_lt fun hlt => ?_), h1⟩
  · rw [fmul_ci, p_mul_out (n := a.length) (m := b.length) (fun j hj => ci_ge hj) (fun j hj => ci_ge hj) (by omega), Int.zero_emod]
  · rw [ci_ge (by omega)] at h1
    cases h1
theorem Cop.congr {p : Int} {f g f' g' : Pz} (h : Cop p f g) (hf : Cg p f f') (hg : Cg p g g') : Cop p f' g' := by
  obtain ⟨s, t, z1, z2, h⟩ := h
  exact ⟨s, t, z1, z2, ((Cg.rfl.mul hf.symm).add (Cg.rfl.mul hg.symm)).trans h⟩
/-- one by one -/
def All2 {α β : Type} (R : α → β → Prop) : List α → List β → Prop
  | [], [] => True
  | a :: r, b :: s => R a b ∧ All2 R r s
  | _, _ => False
theorem All2.append {α β : Type} {R : α → β → Prop} : ∀ {a : List α} {b : List β} {c : List α} {d : List β}, All2 R a b → All2 R c d → All2 R (a ++ c) (b ++ d)
  | [], [], _, _, _, h => h
  | _ :: _, _ :: _, _, _, h, h' => ⟨h.1, All2.append h.2 h'⟩
theorem All2.len {α β : Type} {R : α → β → Prop} : ∀ {a : List α} {b : List β}, All2 R a b → a.length = b.length
  | [], [], _ => rfl
  | _ :: _, _ :: _, h => by rw [List.length_cons, List.length_cons, h.2.len]
/-- a factor that was lifted -/
structure Up (p : Int) (k : Nat) (u : List Zr) (g : List Int) : Prop where
  rd : Rd 250 (p ^ k) u
  len : u.length = g.length
  top : cf u (u.length - 1) = 1
  cg : Cg p (cf u) (ci g)
end Go.Proofs.YtjnjfinbdfolkaaGreat
end

section
set_option linter.unusedVariables false
set_option linter.unusedSimpArgs false
namespace Go.Proofs.YtjnjfinbdfolkaaGreat
end Go.Proofs.YtjnjfinbdfolkaaGreat
end

section
set_option linter.unusedVariables false
set_option linter.unusedSimpArgs false
namespace Go.Proofs.YtjnjfinbdfolkaaGreat
/-- the normal form -/
def nrm (a : List Zr) : List Zr := nzp a.length (cf a)
theorem nrm_cf (a : List Zr) (k : Nat) : cf (nrm a) k = cf a k := nzp_cf (fun j hj => cf_ge hj) k
theorem nrm_len (a : List Zr) : (nrm a).length ≤ a.length := by unfold nrm; rw [nzp_len]; exact dg_le _ _
theorem nrm_ok {k : Nat} {a : List Zr} (h : OkP k a) : OkP k (nrm a) := OkP_nzp h.bz
theorem ref06_same_t {fu : Nat} {a b : List Int} (h : a = b) (hl : a.length ≤ 1000000) (hf : 3000000 ≤ fu) : M_ref06_Same fu a b = some true := by
  subst h
  unfold M_ref06_Same
  rw [if_pos rfl, bd_t (v := .inl ())]
  refine loop_eq (fun i : Int => ∃ j : Nat, i = (j : Int) ∧ j ≤ a.length) (fun i => a.length - i.toNat) _ ?_ _ _ ⟨0, rfl, Nat.zero_le _⟩ (by show a.length - 0 < fu; omega)
  rintro i L ⟨j, rfl, hj⟩ ih
  unfold B_ref06_Same_0
  by_cases h1 : j < a.length
  · rw [if_pos (by omega), ckI_n h1, nm_t, ckI_n h1, nm_t, if_pos rfl, ck64_t ⟨by omega, by omega⟩]
    exact ih _ ⟨j + 1, rfl, by omega⟩ (by omega)
  · rw [if_neg (by omega)]
end Go.Proofs.YtjnjfinbdfolkaaGreat
end

section
set_option linter.unusedVariables false
set_option linter.unusedSimpArgs false
namespace Go.Proofs.YtjnjfinbdfolkaaGreat
/-- leads with one at place d -/
def Mn (A : Pz) (d : Nat) : Prop := A d = 1 ∧ ∀ k, d < k → A k = 0
/-- what leads a product with such a one -/
theorem Mn.top {A x : Pz} {d n : Nat} (h : Mn A d) (hx : ∀ k, n < k → x k = 0) : (x * A) (n + d) = x n := by
  rw [p_mul, sumN_single (i := n) fun i hi => ?_, if_pos (by omega), show n + d - n = d by omega, h.1, Int.mul_one]
  by_cases hc : i < n
  · rw [h.2 _ (by omega), Int.mul_zero]
  · rw [hx i (by omega), Int.zero_mul]
/-- a multiple of it without high places vanishes -/
theorem Mn.zero {p : Int} (hp : 2 ≤ p) {A x : Pz} {d : Nat} (h : Mn A d) (hx : Fs x) (hz : ∀ k, d ≤ k → (x * A) k % p = 0) : Cg p x (pc 0) := by
  obtain ⟨n, hn⟩ := hx
  have key : ∀ c, c ≤ n → ∀ k, n - c ≤ k → x k % p = 0 := by
    intro c
    induction c with
    | zero => intro _ k hk; rw [hn k (by omega), Int.zero_emod]
    | succ c ih =>
      intro hc k hk
      by_cases h1 : n - c ≤ k
      · exact ih (by omega) k h1
      · obtain rfl : k = n - (c + 1) := by omega
        -- what is above is nought modulo p
        have e : Cg p x (fun i => if i ≤ n - (c + 1) then x i else 0) := fun i => by
          by_cases hi : i ≤ n - (c + 1)
          · show _ = (if i ≤ n - (c + 1) then x i else 0) % p
            rw [if_pos hi]
          · show _ = (if i ≤ n - (c + 1) then x i else 0) % p
            rw [if_neg hi, Int.zero_emod]
            exact ih (by omega) i (by omega)
        have h2 := (e.mul (Cg.rfl (f := A))) (n - (c + 1) + d)
        rw [hz _ (by omega), h.top (fun i hi => if_neg (by omega))] at h2
        rw [if_pos (Nat.le_refl _)] at h2
        exact h2.symm
  intro k
  rw [pc_zero, Int.zero_emod]
  by_cases hk : k < n
  · exact key n (Nat.le_refl _) k (by omega)
  · rw [hn k (by omega), Int.zero_emod]
theorem int_cop_dvd {k m n : Int} (h : Int.gcd k m = 1) (hd : k ∣ m * n) : k ∣ n :=
  Int.natAbs_dvd_natAbs.1 (Nat.Coprime.dvd_of_dvd_mul_left (k := k.natAbs) (m := m.natAbs) h (by rw [← Int.natAbs_mul]; exact Int.natAbs_dvd_natAbs.2 hd))
theorem Fs.subt {f g : Pz} (hf : Fs f) (hg : Fs g) : Fs (f - g) := by
  obtain ⟨a, ha⟩ := hf
  obtain ⟨b, hb⟩ := hg
  exact ⟨a + b, fun k hk => by rw [p_sub, ha k (by omega), hb k (by omega)]; rfl⟩
theorem Up.mn {p : Int} {k : Nat} {u : List Zr} {g : List Int} (h : Up p k u g) (hg : PlL p g) : Mn (cf u) (g.length - 1) := by
  have h1 := h.top
  have h2 := hg.2.1
  rw [h.len] at h1
  exact ⟨h1, fun j hj => cf_ge (by rw [h.len]; omega)⟩
end Go.Proofs.YtjnjfinbdfolkaaGreat
end

section
set_option linter.unusedVariables false
set_option linter.unusedSimpArgs false
namespace Go.Proofs.YtjnjfinbdfolkaaGreat
theorem RightP.top {p : Int} {a : List Zr} {fs : List (List Int)} (hp : prm p = true) (h : RightP p a fs) : cf a (a.length - 1) % p ≠ 0 := by
  obtain ⟨p1, p2⟩ := prm_rng hp
  have h3 := (zmod_fp (p := p) (by omega) a).nl
  unfold Nl at h3
  rw [h.al] at h3
  rcases h3 with h3 | h3
  · exact absurd h3 h.a0
  · rw [zmod_ci] at h3; exact h3
end Go.Proofs.YtjnjfinbdfolkaaGreat
end

section
set_option linter.unusedVariables false
set_option linter.unusedSimpArgs false
namespace Go.Proofs.YtjnjfinbdfolkaaGreat
/-- Pascal's numbers -/
def chs : Nat → Nat → Nat
  | _, 0 => 1
  | 0, _ + 1 => 0
  | n + 1, k + 1 => chs n k + chs n (k + 1)
theorem chs_zero (n : Nat) : chs n 0 = 1 := by cases n <;> rfl
theorem chs_succ (n k : Nat) : chs (n + 1) (k + 1) = chs n k + chs n (k + 1) := rfl
theorem chs_out : ∀ n k, n < k → chs n k = 0
  | 0, 0, h => absurd h (Nat.lt_irrefl _)
  | 0, k + 1, _ => rfl
  | n + 1, 0, h => absurd h (Nat.not_lt_zero _)
  | n + 1, k + 1, h => by rw [chs_succ, chs_out n k (by omega), chs_out n (k + 1) (by omega)]
theorem chs_self : ∀ n, chs n n = 1
  | 0 => rfl
  | n + 1 => by rw [chs_succ, chs_self n, chs_out n (n + 1) (by omega)]
theorem chs_id : ∀ n k, (k + 1) * chs (n + 1) (k + 1) = (n + 1) * chs n k
  | 0, 0 => rfl
  | 0, k + 1 => by rw [chs_succ, chs_out 0 (k + 1) (by omega), chs_out 0 (k + 1 + 1) (by omega)]; rfl
  | n + 1, 0 => by
    have h := chs_id n 0
    rw [chs_zero, Nat.zero_add, Nat.one_mul, Nat.mul_one] at h
    rw [chs_succ, chs_zero, show chs (n + 1) (0 + 1) = n + 1 from h]
    omega
  | n + 1, k + 1 => by
    have h1 := chs_id n k
    have h2 := chs_id n (k + 1)
    have h3 := chs_succ n k
    rw [chs_succ (n + 1) (k + 1), Nat.mul_add, h2, h3]
    rw [h3] at h1
    have e : (k + 1 + 1) * (chs n k + chs n (k + 1)) = (k + 1) * (chs n k + chs n (k + 1)) + (chs n k + chs n (k + 1)) := by
      rw [Nat.add_mul (k + 1) 1, Nat.one_mul]
    rw [e, h1, Nat.add_mul (n + 1) 1, Nat.one_mul, Nat.mul_add]
    omega
/-- the binomial theorem -/
theorem binom (a : Int) : ∀ n, (a + 1) ^ n = sumN (n + 1) (fun k => (chs n k : Int) * a ^ k)
  | 0 => by
    show _ = (0 : Int) + ((1 : Nat) : Int) * a ^ 0
    rw [Int.pow_zero, Int.pow_zero]; rfl
  | n + 1 => by
    have e1 : sumN (n + 1 + 1) (fun k => (chs (n + 1) k : Int) * a ^ k) = 1 + (sumN (n + 1) (fun k => a * ((chs n k : Int) * a ^ k)) + sumN (n + 1) (fun k => (chs n (k + 1) : Int) * a ^ (k + 1))) := by
      rw [sumN_front, ← sumN_add]
      congr 1
      · show ((chs (n + 1) 0 : Nat) : Int) * a ^ 0 = 1
        rw [chs_zero, Int.pow_zero]; rfl
      · exact sumN_congr fun k _ => by
          rw [chs_succ, Int.natCast_add, Int.add_mul, Int.pow_succ, ← Int.mul_assoc, ← Int.mul_assoc, Int.mul_comm (_ * a ^ k) a, ← Int.mul_assoc]
    have e2 : sumN (n + 1) (fun k => (chs n k : Int) * a ^ k) = 1 + sumN (n + 1) (fun k => (chs n (k + 1) : Int) * a ^ (k + 1)) := by
      have h : sumN (n + 1 + 1) (fun k => (chs n k : Int) * a ^ k) = sumN (n + 1) (fun k => (chs n k : Int) * a ^ k) := by
        show sumN (n + 1) _ + ((chs n (n + 1) : Nat) : Int) * a ^ (n + 1) = _
        rw [chs_out n (n + 1) (by omega)]
        show _ + (0 : Int) * _ = _
        rw [Int.zero_mul, Int.add_zero]
      rw [← h, sumN_front]
      congr 1
      show ((chs n 0 : Nat) : Int) * a ^ 0 = 1
      rw [chs_zero, Int.pow_zero]; rfl
    rw [e1, sumN_mul, Int.pow_succ, binom a n, Int.mul_add, Int.mul_one, Int.mul_comm _ a]
    omega
theorem cop_dvd {p x y : Nat} (hp : 2 ≤ p) (hn : NoDiv p) (h0 : 0 < x) (h1 : x < p) (h : p ∣ x * y) : p ∣ y :=
  Nat.Coprime.dvd_of_dvd_mul_left (prime_cop hp hn h0 h1) h
theorem chs_dvd {p k : Nat} (hp : 2 ≤ p) (hn : NoDiv p) (h0 : 0 < k) (h1 : k < p) : p ∣ chs p k := by
  obtain ⟨q, rfl⟩ : ∃ q, p = q + 1 := ⟨p - 1, by omega⟩
  obtain ⟨j, rfl⟩ : ∃ j, k = j + 1 := ⟨k - 1, by omega⟩
  exact cop_dvd hp hn h0 h1 ⟨chs q j, chs_id q j⟩
theorem fermat_step {p : Nat} (hp : 2 ≤ p) (hn : NoDiv p) (a : Int) : (a + 1) ^ p % p = (a ^ p + 1) % p := by
  obtain ⟨q, rfl⟩ : ∃ q, p = q + 1 := ⟨p - 1, by omega⟩
  rw [binom, show q + 1 + 1 = (q + 1) + 1 from rfl]
  show (sumN (q + 1) _ + ((chs (q + 1) (q + 1) : Nat) : Int) * a ^ (q + 1)) % _ = _
  rw [chs_self, sumN_front]
  have hd : ((q + 1 : Nat) : Int) ∣ sumN q (fun k => (chs (q + 1) (k + 1) : Int) * a ^ (k + 1)) := sumN_dvd fun k hk =>
    Int.dvd_trans (Int.natCast_dvd_natCast.2 (chs_dvd hp hn (by omega) (by omega))) (Int.dvd_mul_right _ _)
  obtain ⟨c, hc⟩ := hd
  rw [hc]
  show (((chs (q + 1) 0 : Nat) : Int) * a ^ 0 + _ + ((1 : Nat) : Int) * a ^ (q + 1)) % _ = _
  rw [chs_zero, Int.pow_zero]
  have e : ((1 : Nat) : Int) * 1 + ((q + 1 : Nat) : Int) * c + ((1 : Nat) : Int) * a ^ (q + 1) = a ^ (q + 1) + 1 + ((q + 1 : Nat) : Int) * c := by omega
  rw [e, Int.add_mul_emod_self_left]
theorem fermat {p : Nat} (hp : 2 ≤ p) (hn : NoDiv p) : ∀ a : Nat, (a : Int) ^ p % p = a % p
  | 0 => by
    rw [show ((0 : Nat) : Int) = 0 from rfl, Int.zero_pow (by omega)]
  | a + 1 => by
    rw [Int.natCast_add, show ((1 : Nat) : Int) = 1 from rfl, fermat_step hp hn, Int.add_emod, fermat hp hn a, ← Int.add_emod]
/-- the power that is an inverse -/
theorem fermat_inv {p : Int} (hp : prm p = true) {a : Int} (h0 : 0 < a) (h1 : a < p) : (a ^ (p - 2).toNat * a) % p = 1 := by
  obtain ⟨p1, p2⟩ := prm_rng hp
  have hn := prm_nodiv hp
  obtain ⟨P, rfl⟩ := Int.eq_ofNat_of_zero_le (show 0 ≤ p by omega)
  obtain ⟨A, rfl⟩ := Int.eq_ofNat_of_zero_le (show 0 ≤ a by omega)
  rw [Int.toNat_natCast] at hn
  have hP : 2 ≤ P := by omega
  have h := fermat hP hn A
  obtain ⟨Q, rfl⟩ : ∃ Q, P = Q + 2 := ⟨P - 2, by omega⟩
  rw [show (((Q + 2 : Nat) : Int) - 2).toNat = Q by omega]
  have e : (A : Int) ^ (Q + 2) - A = A * ((A : Int) ^ Q * A - 1) := by
    rw [show Q + 2 = Q + 1 + 1 from rfl, Int.pow_succ, Int.pow_succ, Int.mul_sub, Int.mul_one, Int.mul_comm _ (A : Int)]
  have hd : ((Q + 2 : Nat) : Int) ∣ (A : Int) * ((A : Int) ^ Q * A - 1) := by
    rw [← e]
    exact Int.dvd_of_emod_eq_zero (Int.emod_eq_emod_iff_emod_sub_eq_zero.1 h)
  have hg : Int.gcd ((Q + 2 : Nat) : Int) (A : Int) = 1 := prime_cop hP hn (by omega) (by omega)
  have hd2 := int_cop_dvd hg hd
  have h3 := Int.emod_eq_emod_iff_emod_sub_eq_zero.2 (Int.emod_eq_zero_of_dvd hd2)
  rw [h3]
  exact Int.emod_eq_of_lt (by decide) (by omega)
end Go.Proofs.YtjnjfinbdfolkaaGreat
end

section
set_option linter.unusedVariables false
set_option linter.unusedSimpArgs false
namespace Go.Proofs.YtjnjfinbdfolkaaGreat
theorem M_ref05_Check_eq {fu : Nat} {p : Int} (hf : 3000000 ≤ fu) : M_ref05_Check fu p = some (if prm p = true then 0 else 1) := by
  unfold M_ref05_Check
  rw [bd_t (M_ref04_Is_eq (by omega))]
  cases h : prm p
  · rw [if_pos (by decide), if_neg (by decide)]
  · rw [if_neg (by decide), if_pos rfl]
theorem M_ref05_Check_t {fu : Nat} {p : Int} (hp : prm p = true) (hf : 3000000 ≤ fu) : M_ref05_Check fu p = some 0 := by
  rw [M_ref05_Check_eq hf, if_pos hp]
theorem M_ref05_Red_eq {fu : Nat} {a p : Int} (h1 : 1 ≤ p) (h2 : p ≤ 65521) (ha : InR a) : M_ref05_Red fu a p = some (a % p) := by
  unfold M_ref05_Red
  obtain ⟨a1, a2⟩ := ha
  have hr := red_rng (a := a) (p := p) (by omega)
  have ht := tmod_red (a := a) (p := p) (by omega)
  rw [if_neg (by omega), ck_t (by omega), nm_t]
  by_cases h : Int.tmod a p < 0
  · rw [if_pos h] at ht
    rw [if_pos h, ck64_t ⟨by omega, by omega⟩, ht]
  · rw [if_neg h] at ht
    rw [if_neg h, ht]
theorem zl_app {n : Nat} {f : Pz} {x : Int} (h : x = f n) : zl n f ++ [x] = zl (n + 1) f := by rw [h]; exact zl_snoc
theorem M_ref06_Plain_eq {fu : Nat} {l : List Int} {p : Int} (h1 : 1 ≤ p) (h2 : p ≤ 65521) (hr : Rl l) (hl : l.length ≤ 1000000) (hf : 3000000 ≤ fu) : M_ref06_Plain fu l p = some (pm p l) := by
  unfold M_ref06_Plain
  have hd := dg_le (fun k => ci l k % p) l.length
  rw [bd_t (v := zl l.length (fun k => ci l k % p))]
  · rw [bd_t (v := ((dg (fun k => ci l k % p) l.length : Nat) : Int))]
    · rw [ckN_n, ck_t (by rw [zl_len]; exact hd), nm_t, zl_take hd]
      rfl
    · rw [zl_len]
      refine loop_eq (fun t : Int => ∃ m : Nat, m ≤ l.length ∧ t = (m : Int) ∧ dg (fun k => ci l k % p) m = dg (fun k => ci l k % p) l.length) (fun t => t.toNat) _ ?_ _ _ ⟨l.length, Nat.le_refl _, rfl, rfl⟩ (by omega)
      rintro t L ⟨m, hm, rfl, hg⟩ ih
      unfold B_ref06_Plain_1
      cases m with
      | zero =>
        rw [if_neg (by omega), ← hg]
        rfl
      | succ m =>
        rw [if_pos (by omega), show ((m + 1 : Nat) : Int) - 1 = (m : Int) by omega, ck64_t ⟨by omega, by omega⟩, ckI_n (by rw [zl_len]; omega), nm_t, zl_getD (by omega)]
        by_cases h0 : ci l m % p = 0
        · rw [if_pos h0, ck64_t ⟨by omega, by omega⟩]
          exact ih _ ⟨m, by omega, rfl, by rw [← dg_step0 (f := fun k => ci l k % p) h0, hg]⟩ (by omega)
        · rw [if_neg h0, ← hg, dg_step1 (f := fun k => ci l k % p) h0]
  · refine loop_eq (fun s : List Int × Int => ∃ i : Nat, i ≤ l.length ∧ s = (zl i (fun k => ci l k % p), (i : Int))) (fun s => l.length - s.2.toNat) _ ?_ _ _ ⟨0, Nat.zero_le _, rfl⟩ (by show l.length - 0 < fu; omega)
    rintro s L ⟨i, hi, rfl⟩ ih
    unfold B_ref06_Plain_0
    simp only []
    by_cases h : i < l.length
    · rw [if_pos (by omega), ckI_n h, nm_t, ci_d, bd_t (M_ref05_Red_eq h1 h2 (hr i)), ck_t (by rw [zl_len]; simp; omega), nm_t, zl_app (f := fun k => ci l k % p) rfl, ck64_t ⟨by omega, by omega⟩]
      exact ih _ ⟨i + 1, by omega, rfl⟩ (by show l.length - ((i : Int) + 1).toNat < l.length - (i : Int).toNat; omega)
    · rw [if_neg (by omega)]
      obtain rfl : i = l.length := by omega
      rfl
theorem plain06 {fu : Nat} {l : List Int} {p : Int} (hp : prm p = true) (h : Fp p l) (hl : l.length ≤ 1000000) (hf : 3000000 ≤ fu) : M_ref06_Plain fu l p = some l := by
  obtain ⟨p1, p2⟩ := prm_rng hp
  rw [M_ref06_Plain_eq (by omega) p2 (h.rl p2) hl hf, h.pm]
theorem M_ref06_at_eq {fu : Nat} {l : List Int} {j : Nat} : M_ref06_at fu l (j : Int) = some (ci l j) := by
  unfold M_ref06_at
  by_cases h : j < l.length
  · rw [if_pos (by omega), ckI_n h, nm_t]
    rfl
  · rw [if_neg (by omega), ci_ge (by omega)]
theorem M_ref06_Sum_pm {fu : Nat} {a b : List Int} {c p : Int} (hp : prm p = true) (hra : Rl a) (hrb : Rl b) (hc : -65521 ≤ c ∧ c ≤ 65521) (hla : a.length ≤ 100000) (hlb : b.length ≤ 100000) (hf : 3000000 ≤ fu) : M_ref06_Sum fu a b c p = some (fsum p (pm p a) (pm p b) c) := by
  obtain ⟨p1, p2⟩ := prm_rng hp
  unfold M_ref06_Sum
  rw [bd_t (M_ref06_Plain_eq (by omega) p2 hra (by omega) hf), bd_t (M_ref06_Plain_eq (by omega) p2 hrb (by omega) hf)]
  have ha := pm_fp (p := p) (by omega) a
  have hb := pm_fp (p := p) (by omega) b
  have l1 := pm_le p a
  have l2 := pm_le p b
  generalize pm p a = a at *
  generalize pm p b = b at *
  obtain ⟨n, hn⟩ : ∃ n, n = max a.length b.length := ⟨_, rfl⟩
  have hz : ∀ k, n ≤ k → ci a k + c * ci b k = 0 := fun k hk => by rw [ci_ge (by omega), ci_ge (by omega), Int.mul_zero]; rfl
  have hb2 : ∀ k, -4293001441 ≤ c * ci b k ∧ c * ci b k ≤ 4293001441 := fun k => by
    have b1 := hb.nn k
    have b2 := hb.lt k
    have h1 : c * ci b k ≤ 65521 * ci b k := Int.mul_le_mul_of_nonneg_right (by omega) b1
    have h2 : -65521 * ci b k ≤ c * ci b k := Int.mul_le_mul_of_nonneg_right (by omega) b1
    omega
  rw [bd_t (v := zl n (fun k => ci a k + c * ci b k))]
  · have hr : Rl (zl n (fun k => ci a k + c * ci b k)) := fun k => by
      rw [ci_zl_z hz]
      have := hb2 k
      have := ha.nn k
      have := ha.lt k
      exact ⟨by omega, by omega⟩
    rw [bd_t (M_ref06_Plain_eq (by omega) p2 hr (by rw [zl_len]; omega) hf)]
    congr 1
    unfold pm fsum
    rw [zl_len, ← hn]
    exact nl_congr fun k hk => by rw [ci_zl hk]
  · refine loop_eq (fun s : List Int × List Int × List Int × Int => ∃ i : Nat, i ≤ n ∧ s = (a, b, zl i (fun k => ci a k + c * ci b k), (i : Int))) (fun s => n - s.2.2.2.toNat) _ ?_ _ _ ⟨0, Nat.zero_le _, rfl⟩ (by show n - 0 < fu; omega)
    rintro s L ⟨i, hi, rfl⟩ ih
    unfold B_ref06_Sum_0
    simp only []
    rw [nm_t, show max ((a.length : Nat) : Int) ((b.length : Nat) : Int) = (n : Int) by omega]
    by_cases h3 : i < n
    · have := hb2 i
      have := ha.nn i
      have := ha.lt i
      rw [if_pos (by omega), bd_t M_ref06_at_eq, bd_t M_ref06_at_eq, ck64_t ⟨by omega, by omega⟩, ck64_t ⟨by omega, by omega⟩, ck_t (by rw [zl_len]; simp; omega), nm_t, zl_app (f := fun k => ci a k + c * ci b k) rfl, ck64_t ⟨by omega, by omega⟩]
      exact ih _ ⟨i + 1, by omega, rfl⟩ (by show n - ((i : Int) + 1).toNat < n - (i : Int).toNat; omega)
    · rw [if_neg (by omega)]
      obtain rfl : i = n := by omega
      rfl
theorem M_ref06_Sum_eq {fu : Nat} {a b : List Int} {c p : Int} (hp : prm p = true) (ha : Fp p a) (hb : Fp p b) (hc : -65521 ≤ c ∧ c ≤ 65521) (hla : a.length ≤ 100000) (hlb : b.length ≤ 100000) (hf : 3000000 ≤ fu) : M_ref06_Sum fu a b c p = some (fsum p a b c) := by
  obtain ⟨p1, p2⟩ := prm_rng hp
  rw [M_ref06_Sum_pm hp (ha.rl p2) (hb.rl p2) hc hla hlb hf, ha.pm, hb.pm]
theorem M_ref06_Times_eq {fu : Nat} {a b : List Int} {p : Int} (hp : prm p = true) (ha : Fp p a) (hb : Fp p b) (hla : a.length ≤ 100000) (hlb : b.length ≤ 100000) (hf : 3000000 ≤ fu) : M_ref06_Times fu a b p = some (fmul p a b) := by
  obtain ⟨p1, p2⟩ := prm_rng hp
  unfold M_ref06_Times
  obtain ⟨n, hn⟩ : ∃ n, n = a.length + b.length := ⟨_, rfl⟩
  rw [bd_t (plain06 hp ha (by omega) hf), bd_t (plain06 hp hb (by omega) hf), ck64_t ⟨by omega, by omega⟩, show ((a.length : Nat) : Int) + ((b.length : Nat) : Int) = (n : Int) by omega, ckN_n, ck_t (by omega), nm_t, zl_rep, bd_t (v := zl n (fun k => rws (ci a) (ci b) a.length k % p))]
  · have hz : ∀ k, n ≤ k → rws (ci a) (ci b) a.length k % p = 0 := fun k hk => by
      rw [rws_mul (fun j hj => ci_ge hj), p_mul_out (fun j hj => ci_ge hj) (fun j hj => ci_ge hj) (by omega), Int.zero_emod]
    have hr : Rl (zl n (fun k => rws (ci a) (ci b) a.length k % p)) := fun k => by
      rw [ci_zl_z hz]
      have := red_rng (a := rws (ci a) (ci b) a.length k) (p := p) (by omega)
      exact ⟨by omega, by omega⟩
    rw [bd_t (M_ref06_Plain_eq (by omega) p2 hr (by rw [zl_len]; omega) hf)]
    congr 1
    unfold pm fmul
    rw [zl_len, ← hn]
    exact nl_congr fun k hk => by rw [ci_zl hk, Int.emod_emod, rws_mul (fun j hj => ci_ge hj)]
  · refine loop_eq (fun s : Int × List Int × List Int × List Int => ∃ i : Nat, i ≤ a.length ∧ s = ((i : Int), a, b, zl n (fun k => rws (ci a) (ci b) i k % p))) (fun s => a.length - s.1.toNat) _ ?_ _ _ ⟨0, Nat.zero_le _, by rw [zl_congr (g := fun k => rws (ci a) (ci b) 0 k % p) fun k _ => by show (0 : Int) = 0 % p; rw [Int.zero_emod]]; rfl⟩ (by show a.length - 0 < fu; omega)
    rintro s L ⟨i, hi, rfl⟩ ih
    unfold B_ref06_Times_0
    simp only []
    by_cases h3 : i < a.length
    · rw [if_pos (by omega), bd_t (v := (p, zl n (fun k => rws (ci a) (ci b) (i + 1) k % p)))]
      · simp only []
        rw [ck64_t ⟨by omega, by omega⟩]
        exact ih _ ⟨i + 1, by omega, rfl⟩ (by show a.length - ((i : Int) + 1).toNat < a.length - (i : Int).toNat; omega)
      · refine loop_eq (fun s : Int × Int × List Int => ∃ j : Nat, j ≤ b.length ∧ s = (p, (j : Int), zl n (fun k => rwsP (ci a) (ci b) i j k % p))) (fun s => b.length - s.2.1.toNat) _ ?_ _ _ ⟨0, Nat.zero_le _, by rw [zl_congr fun k _ => by rw [← rwsP_zero]]; rfl⟩ (by show b.length - 0 < fu; omega)
        rintro s L2 ⟨j, hj, rfl⟩ ih2
        unfold B_ref06_Times_1
        simp only []
        by_cases h4 : j < b.length
        · have e : (i : Int) + (j : Int) = ((i + j : Nat) : Int) := by omega
          have r1 := red_rng (a := rwsP (ci a) (ci b) i j (i + j)) (p := p) (by omega)
          obtain ⟨r2, r3⟩ := prod_rng p2 (ha.nn i) (ha.lt i) (hb.nn j) (hb.lt j)
          rw [if_pos (by omega), e, ck64_t ⟨by omega, by omega⟩, ck64_t ⟨by omega, by omega⟩, ckI_n (by rw [zl_len]; omega), nm_t, zl_getD (by omega), ckI_n h3, nm_t, ckI_n h4, nm_t, ci_d, ci_d, ck64_t ⟨by omega, by omega⟩, ck64_t ⟨by omega, by omega⟩, ck_t (by omega), nm_t, tmod_nn (by omega), ckI_n (by rw [zl_len]; omega), nm_t, zl_set, ck64_t ⟨by omega, by omega⟩]
          exact ih2 _ ⟨j + 1, by omega, by rw [zl_congr fun k _ => rwsP_step (ci a) (ci b) p i j k]; rfl⟩ (by show b.length - ((j : Int) + 1).toNat < b.length - (j : Int).toNat; omega)
        · rw [if_neg (by omega)]
          obtain rfl : j = b.length := by omega
          rw [zl_congr fun k _ => by rw [rwsP_full (fun k hk => ci_ge hk)]]
    · rw [if_neg (by omega)]
      obtain rfl : i = a.length := by omega
      rfl
theorem pow_md (x p : Int) : ∀ n, (x % p) ^ n % p = x ^ n % p
  | 0 => by rw [Int.pow_zero, Int.pow_zero]
  | n + 1 => by rw [Int.pow_succ, Int.pow_succ, Int.mul_emod, pow_md x p n, Int.emod_emod, ← Int.mul_emod]
theorem M_ref05_Pow_eq {fu n : Nat} {a p : Int} (hp : prm p = true) (ha : 0 ≤ a) (ha2 : a < p) (hn : n ≤ 1000000) (hf : 3000000 ≤ fu) : M_ref05_Pow fu a (n : Int) p = some (a ^ n % p, 0) := by
  obtain ⟨p1, p2⟩ := prm_rng hp
  unfold M_ref05_Pow
  rw [bd_t (M_ref05_Check_t hp hf), if_pos rfl, if_neg (by omega), ck_t (by omega), nm_t, tmod_nn (by decide), bd_t (M_ref05_Red_eq (by omega) p2 ⟨by omega, by omega⟩), bd_t (v := a ^ n % p)]
  refine loop_eq (fun s : Int × Int × Int => ∃ (x y : Int) (i : Nat), s = (x, y, (i : Int)) ∧ i ≤ n ∧ 0 ≤ x ∧ x < p ∧ 0 ≤ y ∧ y < p ∧ (x * y ^ i) % p = a ^ n % p) (fun s => s.2.2.toNat) _ ?_ _ _ ⟨1 % p, a % p, n, rfl, Nat.le_refl _, (red_rng (by omega)).1, (red_rng (by omega)).2, (red_rng (by omega)).1, (red_rng (by omega)).2, ?_⟩ (by show n < fu; omega)
  · rintro s L ⟨x, y, i, rfl, hi, x1, x2, y1, y2, he⟩ ih
    unfold B_ref05_Pow_0
    simp only []
    obtain ⟨q1, q2⟩ := prod_rng p2 x1 x2 y1 y2
    obtain ⟨q3, q4⟩ := prod_rng p2 y1 y2 y1 y2
    have hyy := red_rng (a := y * y) (p := p) (by omega)
    have hxy := red_rng (a := x * y) (p := p) (by omega)
    have hd : Int.tdiv (i : Int) 2 = ((i / 2 : Nat) : Int) := by rw [Int.tdiv_eq_ediv_of_nonneg (by omega)]; omega
    have hsq : ∀ z : Int, (z * (y * y % p) ^ (i / 2)) % p = (z * (y ^ (2 * (i / 2)))) % p := fun z => by
      rw [Int.mul_emod, pow_md, ← Int.mul_emod, Int.pow_mul, show y ^ 2 = y * y from by rw [Int.pow_succ, Int.pow_succ, Int.pow_zero, Int.one_mul]]
    by_cases h0 : 0 < i
    · rw [if_pos (by omega), ck_t (by decide), nm_t, tmod_nn (by omega)]
      by_cases h1 : i % 2 = 1
      · rw [if_pos (by omega), ck64_t ⟨by omega, by omega⟩, ck_t (by omega), nm_t, tmod_nn q1, ck64_t ⟨by omega, by omega⟩, ck_t (by omega), nm_t, tmod_nn q3, ck_t (by decide), hd, ck64_t ⟨by omega, by omega⟩]
        refine ih _ ⟨_, _, i / 2, rfl, by omega, hxy.1, hxy.2, hyy.1, hyy.2, ?_⟩ (by show ((i / 2 : Nat) : Int).toNat < (i : Int).toNat; omega)
        rw [hsq, Int.mul_emod, Int.emod_emod, ← Int.mul_emod, ← he]
        congr 1
        have e : i = 2 * (i / 2) + 1 := by omega
        conv => rhs; rw [e]
        rw [Int.pow_succ, Int.mul_assoc, Int.mul_comm y]
      · rw [if_neg (by omega), ck64_t ⟨by omega, by omega⟩, ck_t (by omega), nm_t, tmod_nn q3, ck_t (by decide), hd, ck64_t ⟨by omega, by omega⟩]
        refine ih _ ⟨_, _, i / 2, rfl, by omega, x1, x2, hyy.1, hyy.2, ?_⟩ (by show ((i / 2 : Nat) : Int).toNat < (i : Int).toNat; omega)
        rw [hsq, ← he]
        congr 3
        omega
    · rw [if_neg (by omega)]
      obtain rfl : i = 0 := by omega
      rw [Int.pow_zero, Int.mul_one, Int.emod_eq_of_lt x1 x2] at he
      rw [he]
  · rw [Int.mul_emod, Int.emod_emod, pow_md, ← Int.mul_emod, Int.one_mul]
theorem M_ref06_inverse_ex {fu : Nat} {a p : Int} (hp : prm p = true) (h0 : 0 < a) (h1 : a < p) (hf : 3000000 ≤ fu) : ∃ x, M_ref06_inverse fu a p = some x ∧ 0 < x ∧ x < p ∧ (x * a) % p = 1 := by
  obtain ⟨p1, p2⟩ := prm_rng hp
  unfold M_ref06_inverse
  rw [ck64_t ⟨by omega, by omega⟩]
  obtain ⟨n, hn⟩ : ∃ n : Nat, p - 2 = (n : Int) := ⟨(p - 2).toNat, by omega⟩
  have hinv := fermat_inv hp h0 h1
  rw [hn, Int.toNat_natCast] at hinv
  rw [hn, bd_t (M_ref05_Pow_eq hp (by omega) h1 (by omega) hf)]
  simp only []
  have hr := red_rng (a := a ^ n) (p := p) (by omega)
  by_cases h2 : p = 2
  · rw [if_pos h2]
    refine ⟨1, rfl, by decide, by omega, ?_⟩
    rw [Int.one_mul, Int.emod_eq_of_lt (by omega) h1]; omega
  · rw [if_neg h2]
    have h3 : (a ^ n % p * a) % p = 1 := by rw [Int.mul_emod, Int.emod_emod, ← Int.mul_emod]; exact hinv
    exact ⟨_, rfl, inv_pos hr.1 h3, hr.2, h3⟩
theorem inv_uniq {p x y c : Int} (x0 : 0 ≤ x) (x1 : x < p) (y0 : 0 ≤ y) (y1 : y < p) (hx : (x * c) % p = 1) (hy : (y * c) % p = 1) : x = y := by
  have h1 : (x * (y * c)) % p = x := by
    rw [Int.mul_emod, hy, Int.mul_one, Int.emod_emod, Int.emod_eq_of_lt x0 x1]
  have h2 : (x * (y * c)) % p = y := by
    rw [show x * (y * c) = y * (x * c) by rw [← Int.mul_assoc, ← Int.mul_assoc, Int.mul_comm x y], Int.mul_emod, hx, Int.mul_one, Int.emod_emod, Int.emod_eq_of_lt y0 y1]
  rw [← h1, h2]
end Go.Proofs.YtjnjfinbdfolkaaGreat
end

section
set_option linter.unusedVariables false
set_option linter.unusedSimpArgs false
namespace Go.Proofs.YtjnjfinbdfolkaaGreat
theorem div06_pad {fu n : Nat} {p x : Int} (hn : n ≤ 1000000) (hf : 3000000 ≤ fu) : loopN (B_ref06_Div_1 fu (n : Int)) fu (p, x, [], 0) = some (p, x, zl n (fun _ => 0)) := by
  refine loop_eq (fun s : Int × Int × List Int × Int => ∃ i : Nat, i ≤ n ∧ s = (p, x, zl i (fun _ => 0), (i : Int))) (fun s => n - s.2.2.2.toNat) _ ?_ _ _ ⟨0, Nat.zero_le _, rfl⟩ (by show n - 0 < fu; omega)
  rintro s L ⟨i, hi, rfl⟩ ih
  unfold B_ref06_Div_1
  simp only []
  by_cases h : i < n
  · rw [if_pos (by omega), ck_t (by rw [zl_len]; simp; omega), nm_t, zl_app (f := fun _ => (0 : Int)) rfl, ck64_t ⟨by omega, by omega⟩]
    exact ih _ ⟨i + 1, by omega, rfl⟩ (by show n - ((i : Int) + 1).toNat < n - (i : Int).toNat; omega)
  · rw [if_neg (by omega)]
    obtain rfl : i = n := by omega
    rfl
/-- so many times a polynomial, moved up, modulo p -/
def prt (b : List Int) (c p : Int) (n : Nat) : Pz := fun k => (sh (ci b) n k * c) % p
theorem div06_part {fu n : Nat} {b : List Int} {c p : Int} (hp : 1 ≤ p) (p2 : p ≤ 65521) (hb : Fp p b) (hc : 0 ≤ c) (hc2 : c < p) (hn : n + b.length ≤ 1000000) (hf : 3000000 ≤ fu) : loopN (B_ref06_Div_2 fu b c p) fu (zl n (fun _ => 0), 0) = some (zl (n + b.length) (prt b c p n)) := by
  refine loop_eq (fun s : List Int × Int => ∃ i : Nat, i ≤ b.length ∧ s = (zl (n + i) (prt b c p n), (i : Int))) (fun s => b.length - s.2.toNat) _ ?_ _ _ ⟨0, Nat.zero_le _, by rw [zl_congr (g := prt b c p n) fun k hk => by unfold prt sh; rw [if_neg (by omega), Int.zero_mul, Int.zero_emod]]; rfl⟩ (by show b.length - 0 < fu; omega)
  rintro s L ⟨i, hi, rfl⟩ ih
  unfold B_ref06_Div_2
  simp only []
  by_cases h : i < b.length
  · obtain ⟨q1, q2⟩ := prod_rng p2 (hb.nn i) (hb.lt i) hc hc2
    rw [if_pos (by omega), ckI_n h, nm_t, ci_d, ck64_t ⟨by omega, by omega⟩, ck_t (by omega), nm_t, tmod_nn q1, ck_t (by rw [zl_len]; simp; omega), nm_t, zl_app (n := n + i) (f := prt b c p n) (by unfold prt sh; rw [if_pos (by omega), show n + i - n = i by omega]), ck64_t ⟨by omega, by omega⟩]
    exact ih _ ⟨i + 1, by omega, rfl⟩ (by show b.length - ((i : Int) + 1).toNat < b.length - (i : Int).toNat; omega)
  · rw [if_neg (by omega)]
    obtain rfl : i = b.length := by omega
    rfl
/-- where the document's division stands -/
structure D6I (p : Int) (a b r : List Int) (Q : Pz) : Prop where
  fr : Fp p r
  lr : r.length ≤ a.length
  qr : ∀ k, 0 ≤ Q k ∧ Q k < p
  ql : ∀ k, k + b.length ≤ r.length → Q k = 0
  qz : ∀ k, a.length ≤ k → Q k = 0
  cg : Cg p (ci a) (Q * ci b + ci r)
theorem D6I.step {p x : Int} {a b r : List Int} {Q : Pz} (hp : 1 ≤ p) (h : D6I p a b r Q) (hb : 0 < b.length) (hx : (x * ci b (b.length - 1)) % p = 1) (hl : b.length ≤ r.length) :
    (fsum p r (pm p (zl (r.length - b.length + b.length) (prt b (ci r (r.length - 1) * x % p) p (r.length - b.length)))) (-1)).length < r.length ∧
    D6I p a b (fsum p r (pm p (zl (r.length - b.length + b.length) (prt b (ci r (r.length - 1) * x % p) p (r.length - b.length)))) (-1)) (upf Q (r.length - b.length) (ci r (r.length - 1) * x % p)) := by
  obtain ⟨c, hc⟩ : ∃ c, c = ci r (r.length - 1) * x % p := ⟨_, rfl⟩
  obtain ⟨n, hn⟩ : ∃ n, n = r.length - b.length := ⟨_, rfl⟩
  rw [← hc, ← hn]
  have hcr := red_rng (a := ci r (r.length - 1) * x) (p := p) (by omega)
  rw [← hc] at hcr
  have hlr := h.lr
  have hpz : ∀ k, n + b.length ≤ k → prt b c p n k = 0 := fun k hk => by
    unfold prt sh
    rw [if_pos (by omega), ci_ge (l := b) (by omega), Int.zero_mul, Int.zero_emod]
  have hrc : ∀ k, ci (fsum p r (pm p (zl (n + b.length) (prt b c p n))) (-1)) k = (ci r k - c * sh (ci b) n k) % p := fun k => by
    rw [fsum_ci, pm_ci, ci_zl_z hpz]
    unfold prt
    rw [Int.emod_emod, Int.mul_comm c]
    refine Int.emod_eq_emod_iff_emod_sub_eq_zero.2 (Int.emod_eq_zero_of_dvd ⟨sh (ci b) n k * c / p, ?_⟩)
    have := Int.emod_add_mul_ediv (sh (ci b) n k * c) p
    omega
  have hlt : (fsum p r (pm p (zl (n + b.length) (prt b c p n))) (-1)).length < r.length := by
    have := (fsum_fp (p := p) (by omega) r (pm p (zl (n + b.length) (prt b c p n))) (-1)).nl.le (n := r.length - 1) fun k hk => by
      rw [hrc]
      by_cases hk2 : k = r.length - 1
      · unfold sh
        rw [if_pos (by omega), show k - n = b.length - 1 by omega, hc, hk2, Int.sub_emod, Int.mul_emod, Int.emod_emod, ← Int.mul_emod, Int.mul_assoc, Int.mul_emod _ (x * _), hx, Int.mul_one, Int.emod_emod, ← Int.sub_emod, Int.sub_self, Int.zero_emod]
      · unfold sh
        rw [ci_ge (l := r) (by omega), if_pos (by omega), ci_ge (l := b) (by omega), Int.mul_zero, Int.sub_zero, Int.zero_emod]
    omega
  refine ⟨hlt, fsum_fp (by omega) _ _ _, by omega, fun k => ?_, fun k hk => ?_, fun k hk => ?_, ?_⟩
  · unfold upf; split
    · exact hcr
    · exact h.qr k
  · unfold upf
    rw [if_neg (by omega)]
    exact h.ql k (by omega)
  · unfold upf
    rw [if_neg (by omega)]
    exact h.qz k hk
  · have hup : upf Q n c = Q + (mono n c : Pz) := funext fun k => by
      rw [p_add]
      unfold upf mono
      by_cases hk : k = n
      · rw [if_pos hk, if_pos hk, h.ql k (by omega), Int.zero_add]
      · rw [if_neg hk, if_neg hk, Int.add_zero]
    refine h.cg.trans fun k => ?_
    rw [hup, p_add_mul, p_add, p_add, p_add, mono_mul, Int.add_emod (_ + _), hrc, Int.emod_emod, ← Int.add_emod]
    congr 1
    omega
theorem M_ref06_Div_ex {fu : Nat} {a b : List Int} {p : Int} (hp : prm p = true) (ha : Fp p a) (hb : Fp p b) (hb0 : 0 < b.length) (hla : a.length ≤ 90000) (hlb : b.length ≤ 90000) (hf : 3000000 ≤ fu) :
    ∃ q r, M_ref06_Div fu a b p = some (q, r, 0) ∧ Fp p q ∧ Fp p r ∧ Cg p (ci a) (ci q * ci b + ci r) ∧ r.length < b.length ∧ q.length ≤ a.length := by
  obtain ⟨p1, p2⟩ := prm_rng hp
  unfold M_ref06_Div
  have htop : ci b (b.length - 1) ≠ 0 := by
    rcases hb.nl with h | h
    · omega
    · exact h
  have t1 := hb.nn (b.length - 1)
  have t2 := hb.lt (b.length - 1)
  obtain ⟨x, e1, e2, e3, e4⟩ := M_ref06_inverse_ex (fu := fu) hp (show 0 < ci b (b.length - 1) by omega) t2 hf
  rw [bd_t (M_ref05_Check_t hp hf), if_pos rfl, bd_t (plain06 hp hb (by omega) hf), if_neg (by omega), bd_t (plain06 hp ha (by omega) hf), show ((a.length : Nat) : Int) + 1 = ((a.length + 1 : Nat) : Int) by omega, ck64_t ⟨by omega, by omega⟩, ckN_n, ck_t (by omega), nm_t, show ((b.length : Nat) : Int) - 1 = ((b.length - 1 : Nat) : Int) by omega, ck64_t ⟨by omega, by omega⟩, ckI_n (by omega), nm_t, ci_d, bd_t e1]
  have hloop := loop_ex (f := B_ref06_Div_0 fu p x) (fun s : List Int × List Int × List Int => ∃ (r : List Int) (Q : Pz), s = (r, b, zl (a.length + 1) Q) ∧ D6I p a b r Q) (fun s => s.1.length)
    (fun s => ∃ (r : List Int) (Q : Pz), s = (r, zl (a.length + 1) Q) ∧ D6I p a b r Q ∧ r.length < b.length) (by
      rintro s L ⟨r, Q, rfl, h⟩ ih
      unfold B_ref06_Div_0
      simp only []
      have hlr := h.lr
      by_cases h1 : b.length ≤ r.length
      · obtain ⟨s1, s2⟩ := h.step (by omega) hb0 e4 h1
        obtain ⟨q1, q2⟩ := prod_rng p2 (h.fr.nn (r.length - 1)) (h.fr.lt (r.length - 1)) (Int.le_of_lt e2) e3
        have hcr := red_rng (a := ci r (r.length - 1) * x) (p := p) (by omega)
        have hpr : Rl (zl (r.length - b.length + b.length) (prt b (ci r (r.length - 1) * x % p) p (r.length - b.length))) := fun k => by
          by_cases hk : k < r.length - b.length + b.length
          · rw [ci_zl hk]
            unfold prt
            have := red_rng (a := sh (ci b) (r.length - b.length) k * (ci r (r.length - 1) * x % p)) (p := p) (by omega)
            exact ⟨by omega, by omega⟩
          · rw [ci_ge (by rw [zl_len]; omega)]; exact ⟨by decide, by decide⟩
        rw [if_pos (by omega), show ((r.length : Nat) : Int) - ((b.length : Nat) : Int) = ((r.length - b.length : Nat) : Int) by omega, ck64_t ⟨by omega, by omega⟩, show ((r.length : Nat) : Int) - 1 = ((r.length - 1 : Nat) : Int) by omega, ck64_t ⟨by omega, by omega⟩, ckI_n (by omega), nm_t, ci_d, ck64_t ⟨by omega, by omega⟩, ck_t (by omega), nm_t, tmod_nn q1, ckI_n (by rw [zl_len]; omega), nm_t, zl_set, bd_t (div06_pad (by omega) hf)]
        simp only []
        rw [bd_t (div06_part (by omega) p2 hb hcr.1 hcr.2 (by omega) hf), bd_t (M_ref06_Sum_pm hp (h.fr.rl p2) hpr (by omega) (by omega) (by rw [zl_len]; omega) hf), h.fr.pm]
        exact ih _ ⟨_, _, rfl, s2⟩ s1
      · rw [if_neg (by omega)]
        exact ⟨_, rfl, r, Q, rfl, h, by omega⟩)
    fu (a, b, List.replicate (a.length + 1) 0) ⟨a, fun _ => 0, by rw [zl_rep], ha, Nat.le_refl _, fun k => ⟨Int.le_refl _, by omega⟩, fun _ _ => rfl, fun _ _ => rfl, Cg.of (by
      funext k
      rw [p_add, show ((fun _ => 0 : Pz)) = pc 0 from funext fun j => (pc_zero j).symm, p_zero_mul, pc_zero, Int.zero_add])⟩ (by show a.length < fu; omega)
  obtain ⟨_, hl1, r, Q, rfl, h, hlt⟩ := hloop
  rw [bd_t hl1]
  simp only []
  have hQl : Rl (zl (a.length + 1) Q) := fun k => by
    rw [ci_zl_z fun j hj => h.qz j (by omega)]
    have := h.qr k
    exact ⟨by omega, by omega⟩
  rw [bd_t (M_ref06_Plain_eq (by omega) p2 hQl (by rw [zl_len]; omega) hf)]
  refine ⟨_, _, rfl, pm_fp (by omega) _, h.fr, ?_, hlt, ?_⟩
  · exact h.cg.trans (Cg.add (Cg.mul (Cg.symm ((pm_cg p _).trans (Cg.of (funext (ci_zl_z fun j hj => h.qz j (by omega)))))) Cg.rfl) Cg.rfl)
  · exact (pm_fp (p := p) (by omega) (zl (a.length + 1) Q)).nl.le fun k hk => by
      rw [pm_ci, ci_zl_z (fun j hj => h.qz j (by omega)), h.qz k hk, Int.zero_emod]
/-- what a polynomial that is not nought comes to, by what leads -/
structure MonR (p : Int) (a m : List Int) : Prop where
  fm : Fp p m
  ln : m.length = a.length
  top : ci m (m.length - 1) = 1
  cg : ∃ x y : Int, Cg p (ci m) (pc x * ci a) ∧ Cg p (ci a) (pc y * ci m)
theorem mon_fmul {p x : Int} {a : List Int} (hp : 2 ≤ p) (ha : Fp p a) (hal : 0 < a.length) (hx : (x * ci a (a.length - 1)) % p = 1) : MonR p a (fmul p a [x]) := by
  have hmon : ∀ k, ci (fmul p a [x]) k = (x * ci a k) % p := fun k => by rw [fmul_ci, ci_one, p_mul_comm, pc_mul]
  have hlead : (fmul p a [x]).length = a.length := by
    refine Nat.le_antisymm ((fmul_fp (by omega) _ _).nl.le fun k hk => ?_) (Nat.le_of_not_lt fun hlt => ?_)
    · rw [hmon, ci_ge hk, Int.mul_zero, Int.zero_emod]
    · have h3 := hmon (a.length - 1)
      rw [hx, ci_ge (by omega)] at h3
      cases h3
  have h1 : Cg p (ci (fmul p a [x])) (pc x * ci a) := fun k => by rw [hmon, pc_mul, Int.emod_emod]
  refine ⟨fmul_fp (by omega) _ _, hlead, by rw [hlead, hmon, hx], x, ci a (a.length - 1), h1, ?_⟩
  refine Cg.symm ((Cg.rfl.mul h1).trans ?_)
  rw [← p_mul_assoc]
  refine Cg.trans (Cg.mul (fun k => ?_) Cg.rfl) (Cg.of (p_one_mul _))
  rw [pc_pc, Int.mul_comm]
  unfold pc; split
  · rw [hx]; exact (Int.emod_eq_of_lt (by decide) (by omega)).symm
  · rfl
theorem M_ref06_Monic_ex {fu : Nat} {a : List Int} {p x : Int} (hp : prm p = true) (ha : Fp p a) (hal : 0 < a.length) (hla : a.length ≤ 90000) (x0 : 0 < x) (x1 : x < p) (hx : (x * ci a (a.length - 1)) % p = 1) (hf : 3000000 ≤ fu) : M_ref06_Monic fu a p = some (fmul p a [x], 0) := by
  obtain ⟨p1, p2⟩ := prm_rng hp
  have htop : ci a (a.length - 1) ≠ 0 := by
    rcases ha.nl with h | h
    · omega
    · exact h
  have t1 := ha.nn (a.length - 1)
  obtain ⟨y, e1, e2, e3, e4⟩ := M_ref06_inverse_ex (fu := fu) hp (show 0 < ci a (a.length - 1) by omega) (ha.lt _) hf
  obtain rfl := inv_uniq (by omega) x1 (by omega) e3 hx e4
  unfold M_ref06_Monic
  rw [bd_t (M_ref05_Check_t hp hf), if_pos rfl, bd_t (plain06 hp ha (by omega) hf), if_neg (by omega), show ((a.length : Nat) : Int) - 1 = ((a.length - 1 : Nat) : Int) by omega, ck64_t ⟨by omega, by omega⟩, ckI_n (by omega), nm_t, ci_d, bd_t e1, bd_t (M_ref06_Times_eq hp ha (fp_one e2 e3) (by omega) (by simp) hf)]
theorem M_fpoly_Monic_nil {fu : Nat} {p : Int} (hp : prm p = true) (hf : 3000000 ≤ fu) : M_fpoly_Monic fu [] p = some ([], 0) := by
  obtain ⟨p1, p2⟩ := prm_rng hp
  unfold M_fpoly_Monic
  rw [bd_t (fp_check hp (by omega)), if_pos rfl, bd_t (M_fpoly_plain_eq (by omega) p2 ((fp_nil (p := p) (by omega)).rl p2) (by simp) hf), (fp_nil (p := p) (by omega)).pm, if_pos (show ((([] : List Int).length : Nat) : Int) = 0 from rfl)]
theorem M_fpoly_Monic_ex {fu : Nat} {a : List Int} {p : Int} (hp : prm p = true) (ha : Fp p a) (hal : 0 < a.length) (hla : a.length ≤ 90000) (hf : 3000000 ≤ fu) : ∃ x, 0 < x ∧ x < p ∧ (x * ci a (a.length - 1)) % p = 1 ∧ M_fpoly_Monic fu a p = some (fmul p a [x], 0) := by
  obtain ⟨p1, p2⟩ := prm_rng hp
  have htop : ci a (a.length - 1) ≠ 0 := by
    rcases ha.nl with h | h
    · omega
    · exact h
  have t1 := ha.nn (a.length - 1)
  obtain ⟨x, x0, x1, hx, _, e⟩ := M_fpoly_scaled_ex (fu := fu) hp ha (show 0 < ci a (a.length - 1) by omega) (ha.lt _) hla hf
  refine ⟨x, x0, x1, hx, ?_⟩
  unfold M_fpoly_Monic
  rw [bd_t (fp_check hp (by omega)), if_pos rfl, bd_t (M_fpoly_plain_eq (by omega) p2 (ha.rl p2) (by omega) hf), ha.pm, if_neg (by omega), show ((a.length : Nat) : Int) - 1 = ((a.length - 1 : Nat) : Int) by omega, ck64_t ⟨by omega, by omega⟩, ckI_n (by omega), nm_t, ci_d, bd_t e]
end Go.Proofs.YtjnjfinbdfolkaaGreat
end

section
set_option linter.unusedVariables false
set_option linter.unusedSimpArgs false
namespace Go.Proofs.YtjnjfinbdfolkaaGreat
theorem fsum_neg (p : Int) (a b : List Int) : fsum p a b (-1) = fsum p a b (p - 1) := by
  unfold fsum
  refine nl_congr fun k _ => ?_
  refine Int.emod_eq_emod_iff_emod_sub_eq_zero.2 (Int.emod_eq_zero_of_dvd ⟨-ci b k, ?_⟩)
  rw [Int.sub_mul, Int.mul_neg]
  omega
/-- one step of the search -/
theorem BzI.next {N : Nat} {p : Int} {g h r0 s0 t0 r1 s1 t1 q : List Int} (hI : BzI p g h r0 s0 t0 r1 s1 t1 N) (p1 : 2 ≤ p) (hq : Fp p q) (hql : q.length ≤ N) (hcg : Cg p (ci r0) (ci q * ci r1 + ci (fsum p r0 (fmul p q r1) (p - 1)))) (hlt : (fsum p r0 (fmul p q r1) (p - 1)).length < r1.length) :
    BzI p g h r1 s1 t1 (fsum p r0 (fmul p q r1) (p - 1)) (fsum p s0 (fmul p q s1) (p - 1)) (fsum p t0 (fmul p q t1) (p - 1)) N := by
  have hl0 := hI.l0
  have hl1 := hI.l1
  have hb0 := hI.b0
  have hb1 := hI.b1
  have hb2 := hI.b2
  have hb3 := hI.b3
  refine ⟨hI.f1, hI.g1, hI.h1, fsum_fp (by omega) _ _ _, fsum_fp (by omega) _ _ _, fsum_fp (by omega) _ _ _, hI.c1, ?_, ?_, hl1, by omega, ?_, ?_, ?_, ?_⟩
  · refine (fsum_less _ _).trans ((hI.c0.sub ((fmul_cg p q r1).trans (Cg.rfl.mul hI.c1))).trans ?_)
    refine Cg.trans (Cg.of ?_) (Cg.symm (((fsum_less s0 (fmul p q s1)).trans (Cg.rfl.sub (fmul_cg p q s1))).mul (Cg.rfl (f := ci g)) |>.add (((fsum_less t0 (fmul p q t1)).trans (Cg.rfl.sub (fmul_cg p q t1))).mul (Cg.rfl (f := ci h)))))
    simp only [p_mul_add, p_add_mul, p_mul_sub, p_sub_mul, p_mul_assoc]
    funext k
    simp only [p_add, p_sub]
    omega
  · obtain ⟨A, B, C, D, z1, z2, z3, z4, d1, d2⟩ := hI.dv
    refine ⟨A * ci q + B, A, C * ci q + D, C, (z1.mul (Fs.ci q)).add z2, z1, (z3.mul (Fs.ci q)).add z4, z3, ?_, ?_⟩
    · refine d1.trans (((Cg.rfl (f := A)).mul hcg |>.add Cg.rfl).trans (Cg.of ?_))
      simp only [p_mul_add, p_add_mul, p_mul_assoc]
      funext k
      simp only [p_add]
      omega
    · refine d2.trans (((Cg.rfl (f := C)).mul hcg |>.add Cg.rfl).trans (Cg.of ?_))
      simp only [p_mul_add, p_add_mul, p_mul_assoc]
      funext k
      simp only [p_add]
      omega
  · have : N * (N + 1 - r1.length) ≤ N * (N + 1 - (fsum p r0 (fmul p q r1) (p - 1)).length) := Nat.mul_le_mul_left _ (by omega)
    omega
  · have : N * (N + 1 - r1.length) ≤ N * (N + 1 - (fsum p r0 (fmul p q r1) (p - 1)).length) := Nat.mul_le_mul_left _ (by omega)
    omega
  · have h1 := fsum_le p s0 (fmul p q s1) (p - 1)
    have h2 := fmul_le p q s1
    have h3 : N * (N + 1 - r1.length + 1) ≤ N * (N + 1 - (fsum p r0 (fmul p q r1) (p - 1)).length) := Nat.mul_le_mul_left _ (by omega)
    rw [Nat.mul_add, Nat.mul_one] at h3
    omega
  · have h1 := fsum_le p t0 (fmul p q t1) (p - 1)
    have h2 := fmul_le p q t1
    have h3 : N * (N + 1 - r1.length + 1) ≤ N * (N + 1 - (fsum p r0 (fmul p q r1) (p - 1)).length) := Nat.mul_le_mul_left _ (by omega)
    rw [Nat.mul_add, Nat.mul_one] at h3
    omega
theorem bez06_inner {fu : Nat} {p : Int} {r0 s0 t0 r1 s1 t1 q : List Int} (hp : prm p = true) (hr0 : Fp p r0) (hs0 : Fp p s0) (ht0 : Fp p t0) (hr1 : Fp p r1) (hs1 : Fp p s1) (ht1 : Fp p t1) (hq : Fp p q) (hql : q.length ≤ 300) (l1 : r0.length ≤ 90000) (l2 : s0.length ≤ 90000) (l3 : t0.length ≤ 90000) (l4 : r1.length ≤ 90000) (l5 : s1.length ≤ 90000) (l6 : t1.length ≤ 90000) (hf : 3000000 ≤ fu) :
    loopN (B_ref06_Bezout_1 fu [r0, s0, t0] [r1, s1, t1] q) fu (p, [], ((0 : Nat) : Int)) = some (p, [fsum p r0 (fmul p q r1) (p - 1), fsum p s0 (fmul p q s1) (p - 1), fsum p t0 (fmul p q t1) (p - 1)]) := by
  obtain ⟨p1, p2⟩ := prm_rng hp
  obtain ⟨n, hn⟩ : ∃ n, fu = n + 4 := ⟨fu - 4, by omega⟩
  have step : ∀ (L : Int × List (List Int) × Int → Option (Int × List (List Int))) (i : Nat) (x y : List Int) (ts : List (List Int)), i < 3 → ts.length = i → [r0, s0, t0].getD i [] = x → [r1, s1, t1].getD i [] = y → Fp p x → Fp p y → x.length ≤ 90000 → y.length ≤ 90000 →
      B_ref06_Bezout_1 fu [r0, s0, t0] [r1, s1, t1] q L (p, ts, (i : Int)) = L (p, ts ++ [fsum p x (fmul p q y) (p - 1)], ((i + 1 : Nat) : Int)) := fun L i x y ts hi hts hx hy hxF hyF hxl hyl => by
    unfold B_ref06_Bezout_1
    simp only []
    have f4 := fmul_le p q y
    rw [if_pos (by omega), ckI_n (n := [r0, s0, t0].length) hi, nm_t, hx, ckI_n (n := [r1, s1, t1].length) hi, nm_t, hy, bd_t (M_ref06_Times_eq hp hq hyF (by omega) (by omega) hf), bd_t (M_ref06_Sum_eq hp hxF (fmul_fp (by omega) _ _) (by omega) (by omega) (by omega) hf), fsum_neg, ck_t (by simp; omega), nm_t, ck64_t ⟨by omega, by omega⟩]
    rfl
  have hn' : loopN (B_ref06_Bezout_1 fu [r0, s0, t0] [r1, s1, t1] q) (n + 4) (p, [], ((0 : Nat) : Int)) = some (p, [fsum p r0 (fmul p q r1) (p - 1), fsum p s0 (fmul p q s1) (p - 1), fsum p t0 (fmul p q t1) (p - 1)]) := by
    rw [loopN_t, step _ 0 r0 r1 _ (by decide) rfl rfl rfl hr0 hr1 l1 l4, loopN_t, step _ 1 s0 s1 _ (by decide) rfl rfl rfl hs0 hs1 l2 l5, loopN_t, step _ 2 t0 t1 _ (by decide) rfl rfl rfl ht0 ht1 l3 l6, loopN_t]
    unfold B_ref06_Bezout_1
    simp only []
    rw [if_neg (by decide)]
    rfl
  rw [← hn] at hn'
  exact hn'
theorem BzI.step06 {fu N : Nat} {p : Int} {g h r0 s0 t0 r1 s1 t1 : List Int} (hI : BzI p g h r0 s0 t0 r1 s1 t1 N) (hp : prm p = true) (hN : N ≤ 290) (hr : 0 < r1.length) (hf : 3000000 ≤ fu) :
    ∃ q r r2 s2 t2, M_ref06_Div fu r0 r1 p = some (q, r, 0) ∧ loopN (B_ref06_Bezout_1 fu [r0, s0, t0] [r1, s1, t1] q) fu (p, [], ((0 : Nat) : Int)) = some (p, [r2, s2, t2]) ∧ r2.length < r1.length ∧ BzI p g h r1 s1 t1 r2 s2 t2 N := by
  obtain ⟨p1, p2⟩ := prm_rng hp
  have hb : 1 + N * (N + 1 - r1.length) ≤ 90000 := by
    have : N * (N + 1 - r1.length) ≤ 290 * 290 := Nat.mul_le_mul hN (by omega)
    omega
  have hl0 := hI.l0
  have hl1 := hI.l1
  have hb0 := hI.b0
  have hb1 := hI.b1
  have hb2 := hI.b2
  have hb3 := hI.b3
  obtain ⟨q, r, e1, hq, hr', hcg, hlt, hql⟩ := M_ref06_Div_ex (fu := fu) hp hI.f0 hI.f1 hr (by omega) (by omega) hf
  have hre : fsum p r0 (fmul p q r1) (p - 1) = r := by
    refine Fp.ext (fsum_fp (by omega) _ _ _) hr' ((fsum_less r0 (fmul p q r1)).trans ?_)
    refine (hcg.sub (fmul_cg p q r1)).trans (Cg.of ?_)
    funext k
    simp only [p_add, p_sub]
    omega
  exact ⟨q, r, _, _, _, e1, bez06_inner hp hI.f0 hI.g0 hI.h0 hI.f1 hI.g1 hI.h1 hq (by omega) (by omega) (by omega) (by omega) (by omega) (by omega) (by omega) hf, by rw [hre]; exact hlt, hI.next p1 hq (by omega) (by rw [hre]; exact hcg) (by rw [hre]; exact hlt)⟩
theorem bez06_loop {fu N : Nat} {p : Int} {g h : List Int} (hp : prm p = true) (hN : N ≤ 290) (hf : 3000000 ≤ fu) {r0 s0 t0 r1 s1 t1 : List Int} (hI : BzI p g h r0 s0 t0 r1 s1 t1 N) :
    ∃ d s t, loopN (B_ref06_Bezout_0 fu p) fu ([r0, s0, t0], [r1, s1, t1]) = some [d, s, t] ∧ BzR p g h d s t (1 + N * (N + 1)) := by
  obtain ⟨r, e1, d, s, t, rfl, e3⟩ := loop_ex (f := B_ref06_Bezout_0 fu p) (fun x : List (List Int) × List (List Int) => ∃ r0 s0 t0 r1 s1 t1, x = ([r0, s0, t0], [r1, s1, t1]) ∧ BzI p g h r0 s0 t0 r1 s1 t1 N) (fun x => (x.2.getD 0 []).length) (fun r => ∃ d s t, r = [d, s, t] ∧ BzR p g h d s t (1 + N * (N + 1))) (by
    rintro x L ⟨r0, s0, t0, r1, s1, t1, rfl, hI⟩ ih
    unfold B_ref06_Bezout_0
    simp only []
    rw [show (0 : Int) = ((0 : Nat) : Int) from rfl, ckI_n (by simp), nm_t]
    show ∃ r, (if ((0 : Nat) : Int) < ((r1.length : Nat) : Int) then _ else _) = some r ∧ _
    by_cases h0 : 0 < r1.length
    · obtain ⟨q, r, r2, s2, t2, he, he2, hlt, hI2⟩ := hI.step06 (fu := fu) hp hN h0 hf
      rw [if_pos (by omega), ckI_n (by simp), nm_t, ckI_n (by simp), nm_t]
      show ∃ r, bd (M_ref06_Div fu r0 r1 p) _ = some r ∧ _
      rw [bd_t he]
      simp only []
      rw [bd_t he2]
      exact ih _ ⟨_, _, _, _, _, _, rfl, hI2⟩ hlt
    · rw [if_neg (by omega)]
      have hz : ci r1 = pc 0 := funext fun k => by rw [ci_ge (by omega), pc_zero]
      have hb : 1 + N * (N + 1 - r1.length) ≤ 1 + N * (N + 1) := by
        have : N * (N + 1 - r1.length) ≤ N * (N + 1) := Nat.mul_le_mul_left _ (by omega)
        omega
      have hl0 := hI.l0
      have hb2 : N * 1 ≤ N * (N + 1) := Nat.mul_le_mul_left _ (by omega)
      refine ⟨_, rfl, r0, s0, t0, rfl, hI.f0, hI.g0, hI.h0, hI.c0, ?_, by omega, Nat.le_trans hI.b0 hb, Nat.le_trans hI.b1 hb⟩
      obtain ⟨A, B, C, D, z1, z2, z3, z4, d1, d2⟩ := hI.dv
      rw [hz, p_mul_comm B, p_zero_mul] at d1
      rw [hz, p_mul_comm D, p_zero_mul] at d2
      refine ⟨A, C, z1, z3, d1.trans (Cg.of ?_), d2.trans (Cg.of ?_)⟩ <;> funext k <;> rw [p_add, pc_zero, Int.add_zero]) fu ([r0, s0, t0], [r1, s1, t1]) ⟨_, _, _, _, _, _, rfl, hI⟩ (by have := hI.l1; show r1.length < fu; omega)
  exact ⟨d, s, t, e1, e3⟩
theorem ci_nil : ci ([] : List Int) = pc 0 := funext fun k => by rw [ci_ge (Nat.zero_le _), pc_zero]
theorem M_ref06_Bezout_ex {fu : Nat} {p : Int} {g h : List Int} (hp : prm p = true) (hg : Fp p g) (hh : Fp p h) (hlg : g.length ≤ 290) (hlh : h.length ≤ 290) (hf : 3000000 ≤ fu) :
    ∃ d s t, M_ref06_Bezout fu g h p = some (d, s, t, 0) ∧ BzR p g h d s t (2 + max g.length h.length * (max g.length h.length + 1)) ∧ (d.length = 0 ∨ ci d (d.length - 1) = 1) := by
  obtain ⟨p1, p2⟩ := prm_rng hp
  unfold M_ref06_Bezout
  rw [bd_t (M_ref05_Check_t hp hf), if_pos rfl, bd_t (plain06 hp hg (by omega) hf), bd_t (plain06 hp hh (by omega) hf)]
  have z0 := ci_nil
  have addz : ∀ f : Pz, f + pc 0 = f := fun f => funext fun k => by rw [p_add, pc_zero, Int.add_zero]
  have zadd : ∀ f : Pz, pc 0 + f = f := fun f => funext fun k => by rw [p_add, pc_zero, Int.zero_add]
  have hI : BzI p g h g [1] [] h [] [1] (max g.length h.length) := by
    refine ⟨hg, fp_one (by decide) (by omega), fp_nil (by omega), hh, fp_nil (by omega), fp_one (by decide) (by omega), Cg.of ?_, Cg.of ?_, ⟨pc 1, pc 0, pc 0, pc 1, Fs.pc 1, Fs.pc 0, Fs.pc 0, Fs.pc 1, Cg.of ?_, Cg.of ?_⟩, Nat.le_max_left _ _, Nat.le_max_right _ _, Nat.le_add_right _ _, Nat.zero_le _, Nat.zero_le _, Nat.le_add_right _ _⟩
    · rw [ci_one, z0, p_one_mul, p_zero_mul, addz]
    · rw [ci_one, z0, p_one_mul, p_zero_mul, zadd]
    · rw [p_one_mul, p_zero_mul, addz]
    · rw [p_one_mul, p_zero_mul, zadd]
  obtain ⟨d, s, t, e1, hR⟩ := bez06_loop (fu := fu) hp (by omega) hf hI
  have hS : max g.length h.length * (max g.length h.length + 1) ≤ 290 * 291 := Nat.mul_le_mul (by omega) (by omega)
  generalize max g.length h.length * (max g.length h.length + 1) = S at *
  rw [bd_t e1, show (0 : Int) = ((0 : Nat) : Int) from rfl, ckI_n (by simp), nm_t]
  show ∃ d' s' t', (if ((d.length : Nat) : Int) = ((0 : Nat) : Int) then _ else _) = _ ∧ _
  by_cases h0 : 0 < d.length
  · have hdl := hR.dl
    have htop : ci d (d.length - 1) ≠ 0 := by
      rcases hR.df.nl with h | h
      · omega
      · exact h
    have t1 := hR.df.nn (d.length - 1)
    have t2 := hR.df.lt (d.length - 1)
    obtain ⟨x, x4, x1, x2, x3⟩ := M_ref06_inverse_ex (fu := fu) hp (show 0 < ci d (d.length - 1) by omega) t2 hf
    have tm : ∀ {a : List Int}, Fp p a → a.length ≤ 90000 → M_ref06_Times fu a [x] p = some (fmul p a [x]) := fun {a} ha hl => M_ref06_Times_eq hp ha (fp_one x1 x2) (by omega) (by simp) hf
    rw [if_neg (by omega), ckI_n (by simp), nm_t, ckI_n (by simp), nm_t]
    show ∃ d' s' t', ck64 (((d.length : Nat) : Int) - 1) _ = _ ∧ _
    rw [show ((d.length : Nat) : Int) - 1 = ((d.length - 1 : Nat) : Int) by omega, ck64_t ⟨by omega, by omega⟩]
    show ∃ d' s' t', ckI ((d.length - 1 : Nat) : Int) d.length _ = _ ∧ _
    rw [ckI_n (by omega), nm_t]
    show ∃ d' s' t', bd (M_ref06_inverse fu (ci d (d.length - 1)) p) _ = _ ∧ _
    rw [bd_t x4, ckI_n (by simp), nm_t]
    show ∃ d' s' t', bd (M_ref06_Times fu d [x] p) _ = _ ∧ _
    rw [bd_t (tm hR.df (Nat.le_trans hR.dl (by omega))), show (1 : Int) = ((1 : Nat) : Int) from rfl, ckI_n (by simp), nm_t]
    show ∃ d' s' t', bd (M_ref06_Times fu s [x] p) _ = _ ∧ _
    rw [bd_t (tm hR.sf (Nat.le_trans hR.sl (by omega))), show (2 : Int) = ((2 : Nat) : Int) from rfl, ckI_n (by simp), nm_t]
    show ∃ d' s' t', bd (M_ref06_Times fu t [x] p) _ = _ ∧ _
    rw [bd_t (tm hR.tf (Nat.le_trans hR.tl (by omega)))]
    have hmul : ∀ a : List Int, Cg p (ci (fmul p a [x])) (ci a * pc x) := fun a => by
      have := fmul_cg p a [x]
      rw [ci_one] at this
      exact this
    have hunit : Cg p (pc x * pc (ci d (d.length - 1))) (pc 1) := fun k => by
      rw [pc_pc]
      unfold pc; split
      · rw [x3]; exact (Int.emod_eq_of_lt (by decide) (by omega)).symm
      · rfl
    have f1 := fmul_le p d [x]
    have f2 := fmul_le p s [x]
    have f3 := fmul_le p t [x]
    have hsl := hR.sl
    have htl := hR.tl
    simp only [List.length_cons, List.length_nil] at f1 f2 f3
    have hM := mon_fmul p1 hR.df h0 x3
    refine ⟨fmul p d [x], fmul p s [x], fmul p t [x], rfl, ⟨fmul_fp (by omega) _ _, fmul_fp (by omega) _ _, fmul_fp (by omega) _ _, ?_, ?_, by omega, by omega, by omega⟩, .inr hM.top⟩
    · refine (hmul d).trans ((hR.cg.mul Cg.rfl).trans (Cg.trans (Cg.of ?_) (Cg.symm (((hmul s).mul Cg.rfl).add ((hmul t).mul Cg.rfl)))))
      simp only [p_mul_add, p_add_mul, p_mul_assoc, p_mul_comm, p_mul_left_comm]
    · obtain ⟨A, C, z1, z3, d1, d2⟩ := hR.dv
      have key : ∀ F : Pz, Cg p (F * ci d) (F * pc (ci d (d.length - 1)) * ci (fmul p d [x])) := fun F => by
        refine Cg.symm ((Cg.rfl.mul (hmul d)).trans (Cg.trans (Cg.of ?_) (((Cg.rfl (f := F * ci d)).mul hunit).trans (Cg.of (p_mul_one _)))))
        simp only [p_mul_assoc, p_mul_comm, p_mul_left_comm]
      exact ⟨_, _, z1.mul (Fs.pc _), z3.mul (Fs.pc _), d1.trans (key A), d2.trans (key C)⟩
  · rw [if_pos (by omega)]
    have hd : ci d = pc 0 := funext fun k => by rw [ci_ge (by omega), pc_zero]
    obtain ⟨A, C, z1, z3, d1, d2⟩ := hR.dv
    refine ⟨[], [1], [], rfl, ⟨fp_nil (by omega), fp_one (by decide) (by omega), fp_nil (by omega), ?_, ⟨A, C, z1, z3, ?_, ?_⟩, Nat.zero_le _, by simp; omega, Nat.zero_le _⟩, .inl rfl⟩
    · rw [ci_one, ci_nil, p_one_mul, p_zero_mul, addz]
      refine Cg.symm (d1.trans (Cg.of ?_))
      rw [hd, p_mul_comm, p_zero_mul]
    · rw [ci_nil, ← hd]; exact d1
    · rw [ci_nil, ← hd]; exact d2
theorem M_ref06_Gcd_ex {fu : Nat} {p : Int} {g h : List Int} (hp : prm p = true) (hg : Fp p g) (hh : Fp p h) (hlg : g.length ≤ 290) (hlh : h.length ≤ 290) (hf : 3000000 ≤ fu) :
    ∃ d s t, M_ref06_Gcd fu g h p = some (d, 0) ∧ BzR p g h d s t (2 + max g.length h.length * (max g.length h.length + 1)) ∧ (d.length = 0 ∨ ci d (d.length - 1) = 1) := by
  obtain ⟨d, s, t, e1, e2, e3⟩ := M_ref06_Bezout_ex (fu := fu) hp hg hh hlg hlh hf
  refine ⟨d, s, t, ?_, e2, e3⟩
  unfold M_ref06_Gcd
  rw [bd_t e1]
theorem M_fpoly_Gcd_ex {fu : Nat} {p : Int} {g h : List Int} (hp : prm p = true) (hg : Fp p g) (hh : Fp p h) (hlg : g.length ≤ 290) (hlh : h.length ≤ 290) (hf : 3000000 ≤ fu) :
    ∃ d s t, M_fpoly_Gcd fu g h p = some (d, 0) ∧ BzR p g h d s t (2 + max g.length h.length * (max g.length h.length + 1)) ∧ (d.length = 0 ∨ ci d (d.length - 1) = 1) := by
  obtain ⟨d, s, t, e1, e2, e3⟩ := M_fpoly_Bezout_ex (fu := fu) hp hg hh hlg hlh hf
  refine ⟨d, s, t, ?_, e2, e3⟩
  unfold M_fpoly_Gcd
  rw [bd_t e1]
/-- the common divisor is one just if there is none -/
theorem gcd_cop {p : Int} {g h d s t : List Int} {S : Nat} (hp : 2 ≤ p) (hR : BzR p g h d s t S) (hd : d.length = 0 ∨ ci d (d.length - 1) = 1) : d.length = 1 ↔ Cop p (ci g) (ci h) := by
  refine ⟨fun h1 => gcd_one hR h1 (hd.resolve_left (by omega)), fun hc => ?_⟩
  obtain ⟨A, C, z1, z2, d1, d2⟩ := hR.dv
  obtain ⟨u, v, z3, z4, hc⟩ := hc
  have hx : Cg p ((u * A + v * C) * ci d) (pc 1) := by
    refine Cg.trans (Cg.of ?_) ((((Cg.rfl (f := u)).mul d1.symm).add ((Cg.rfl (f := v)).mul d2.symm)).trans hc)
    rw [p_add_mul, p_mul_assoc, p_mul_assoc]
  have hd0 : 0 < d.length := by
    refine Nat.pos_of_ne_zero fun e => ?_
    have h1 := hx 0
    rw [p_mul, sumN_zero fun i hi => by rw [ci_ge (l := d) (by omega), Int.mul_zero]] at h1
    unfold pc at h1
    rw [if_pos rfl, Int.zero_emod, Int.emod_eq_of_lt (by decide) (by omega)] at h1
    cases h1
  exact unit_deg hp ((z3.mul z1).add (z4.mul z2)) hd0 (hd.resolve_left (by omega)) hx
end Go.Proofs.YtjnjfinbdfolkaaGreat
end

section
set_option linter.unusedVariables false
set_option linter.unusedSimpArgs false
namespace Go.Proofs.YtjnjfinbdfolkaaGreat
/-- the derivative -/
def dvp (f : Pz) : Pz := fun k => ((k + 1 : Nat) : Int) * f (k + 1)
theorem dvp_mul (f g : Pz) : dvp (f * g) = dvp f * g + f * dvp g := by
  funext k
  show ((k + 1 : Nat) : Int) * (f * g) (k + 1) = (dvp f * g) k + (f * dvp g) k
  rw [p_mul, p_mul, p_mul, ← sumN_mul]
  have e : sumN (k + 1 + 1) (fun i => ((k + 1 : Nat) : Int) * (f i * g (k + 1 - i))) = sumN (k + 1 + 1) (fun i => ((i : Nat) : Int) * (f i * g (k + 1 - i))) + sumN (k + 1 + 1) (fun i => ((k + 1 - i : Nat) : Int) * (f i * g (k + 1 - i))) := by
    rw [← sumN_add]
    exact sumN_congr fun i hi => by
      rw [← Int.add_mul]
      congr 1
      omega
  rw [e]
  congr 1
  · rw [sumN_front]
    show ((0 : Nat) : Int) * _ + _ = _
    rw [show ((0 : Nat) : Int) = 0 from rfl, Int.zero_mul, Int.zero_add]
    exact sumN_congr fun i hi => by
      show ((i + 1 : Nat) : Int) * (f (i + 1) * g (k + 1 - (i + 1))) = ((i + 1 : Nat) : Int) * f (i + 1) * g (k - i)
      rw [show k + 1 - (i + 1) = k - i by omega, Int.mul_assoc]
  · show sumN (k + 1) _ + ((k + 1 - (k + 1) : Nat) : Int) * _ = _
    rw [Nat.sub_self, show ((0 : Nat) : Int) = 0 from rfl, Int.zero_mul, Int.add_zero]
    exact sumN_congr fun i hi => by
      show ((k + 1 - i : Nat) : Int) * (f i * g (k + 1 - i)) = f i * (((k - i + 1 : Nat) : Int) * g (k - i + 1))
      rw [show k + 1 - i = k - i + 1 by omega, ← Int.mul_assoc, ← Int.mul_assoc, Int.mul_comm (f i)]
theorem dvp_cg {m : Int} {f g : Pz} (h : Cg m f g) : Cg m (dvp f) (dvp g) := fun k => by
  show (((k + 1 : Nat) : Int) * f (k + 1)) % m = (((k + 1 : Nat) : Int) * g (k + 1)) % m
  rw [Int.mul_emod, h, ← Int.mul_emod]
def drv (p : Int) (a : List Int) : List Int := nl a.length (fun k => dvp (ci a) k % p)
theorem dvp_out {a : List Int} {k : Nat} (h : a.length ≤ k + 1) : dvp (ci a) k = 0 := by
  show ((k + 1 : Nat) : Int) * ci a (k + 1) = 0
  rw [ci_ge h, Int.mul_zero]
theorem drv_ci (p : Int) (a : List Int) (k : Nat) : ci (drv p a) k = dvp (ci a) k % p := nl_ci (fun k hk => by rw [dvp_out (by omega), Int.zero_emod]) k
theorem drv_cg (p : Int) (a : List Int) : Cg p (ci (drv p a)) (dvp (ci a)) := fun k => by rw [drv_ci, Int.emod_emod]
theorem drv_fp {p : Int} (hp : 0 < p) (a : List Int) : Fp p (drv p a) := ⟨fun k => by rw [drv_ci]; exact (red_rng hp).1, fun k => by rw [drv_ci]; exact (red_rng hp).2, nl_Nl _ _⟩
theorem drv_lt {p : Int} (hp : 0 < p) {a : List Int} (h : 0 < a.length) : (drv p a).length < a.length := by
  have := (drv_fp hp a).nl.le (n := a.length - 1) fun k hk => by rw [drv_ci, dvp_out (by omega), Int.zero_emod]
  omega
theorem drv_le (p : Int) (a : List Int) : (drv p a).length ≤ a.length := nl_le _ _
theorem M_fpoly_Deriv_eq {fu : Nat} {a : List Int} {p : Int} (hp : prm p = true) (ha : Fp p a) (hla : a.length ≤ 90000) (hf : 3000000 ≤ fu) : M_fpoly_Deriv fu a p = some (drv p a, 0) := by
  obtain ⟨p1, p2⟩ := prm_rng hp
  unfold M_fpoly_Deriv
  have hb : ∀ k : Nat, 0 ≤ ((k : Int) % p) * ci a k ∧ ((k : Int) % p) * ci a k ≤ 4293001441 := fun k => by
    have hr := red_rng (a := (k : Int)) (p := p) (by omega)
    exact prod_rng p2 hr.1 hr.2 (ha.nn k) (ha.lt k)
  rw [bd_t (fp_check hp (by omega)), if_pos rfl, bd_t (M_fpoly_plain_eq (by omega) p2 (ha.rl p2) (by omega) hf), ha.pm, bd_t (v := zl (a.length - 1) (fun k => (((k + 1 : Nat) : Int) % p) * ci a (k + 1)))]
  · have hz : ∀ k, a.length - 1 ≤ k → (((k + 1 : Nat) : Int) % p) * ci a (k + 1) = 0 := fun k hk => by rw [ci_ge (by omega), Int.mul_zero]
    have hr : Rl (zl (a.length - 1) (fun k => (((k + 1 : Nat) : Int) % p) * ci a (k + 1))) := fun k => by
      rw [ci_zl_z hz]
      have := hb (k + 1)
      exact ⟨by omega, by omega⟩
    rw [bd_t (M_fpoly_plain_eq (by omega) p2 hr (by rw [zl_len]; omega) hf)]
    congr 2
    refine (pm_fp (by omega) _).ext (drv_fp (by omega) _) fun k => ?_
    rw [pm_ci, ci_zl_z hz, drv_ci, Int.emod_emod, Int.emod_emod]
    show _ = (((k + 1 : Nat) : Int) * ci a (k + 1)) % p
    rw [Int.mul_emod, Int.emod_emod, ← Int.mul_emod]
  · refine loop_eq (fun s : List Int × Int × List Int => ∃ i : Nat, i ≤ a.length ∧ s = (zl (i - 1) (fun k => (((k + 1 : Nat) : Int) % p) * ci a (k + 1)), (i : Int), a)) (fun s => a.length - s.2.1.toNat) _ ?_ _ _ ⟨0, Nat.zero_le _, rfl⟩ (by show a.length - 0 < fu; omega)
    rintro s L ⟨i, hi, rfl⟩ ih
    unfold B_fpoly_Deriv_0
    simp only []
    by_cases h : i < a.length
    · rw [if_pos (by omega), bd_t rfl]
      simp only [if_true]
      rw [ckI_n h, nm_t, ci_d]
      by_cases h0 : 0 < i
      · have hbi := hb i
        obtain ⟨j, rfl⟩ : ∃ j, i = j + 1 := ⟨i - 1, by omega⟩
        rw [if_pos (by omega), ck_t (by omega), nm_t, tmod_nn (by omega), ck64_t ⟨by omega, by omega⟩, ck_t (by rw [zl_len]; simp; omega), nm_t, show j + 1 - 1 = j by omega, zl_app (f := fun k => (((k + 1 : Nat) : Int) % p) * ci a (k + 1)) rfl, ck64_t ⟨by omega, by omega⟩]
        exact ih _ ⟨j + 1 + 1, by omega, rfl⟩ (by show a.length - (((j + 1 : Nat) : Int) + 1).toNat < a.length - ((j + 1 : Nat) : Int).toNat; omega)
      · obtain rfl : i = 0 := by omega
        rw [if_neg (by omega), ck64_t ⟨by omega, by omega⟩]
        exact ih _ ⟨1, by omega, rfl⟩ (by show a.length - (((0 : Nat) : Int) + 1).toNat < a.length - ((0 : Nat) : Int).toNat; omega)
    · rw [if_neg (by omega), bd_t rfl]
      simp only [Bool.false_eq_true, if_false]
      obtain rfl : i = a.length := by omega
      rfl
theorem M_ref06_Deriv_eq {fu : Nat} {a : List Int} {p : Int} (hp : prm p = true) (ha : Fp p a) (hla : a.length ≤ 90000) (hf : 3000000 ≤ fu) : M_ref06_Deriv fu a p = some (drv p a, 0) := by
  obtain ⟨p1, p2⟩ := prm_rng hp
  unfold M_ref06_Deriv
  have hb : ∀ k : Nat, 0 ≤ ((k : Int) % p) * ci a k ∧ ((k : Int) % p) * ci a k ≤ 4293001441 := fun k => by
    have hr := red_rng (a := (k : Int)) (p := p) (by omega)
    exact prod_rng p2 hr.1 hr.2 (ha.nn k) (ha.lt k)
  rw [bd_t (M_ref05_Check_t hp hf), if_pos rfl, bd_t (plain06 hp ha (by omega) hf), bd_t (v := zl (a.length - 1) (fun k => dvp (ci a) k % p))]
  · have hz : ∀ k, a.length - 1 ≤ k → dvp (ci a) k % p = 0 := fun k hk => by rw [dvp_out (by omega), Int.zero_emod]
    have hr : Rl (zl (a.length - 1) (fun k => dvp (ci a) k % p)) := fun k => by
      rw [ci_zl_z hz]
      have := red_rng (a := dvp (ci a) k) (p := p) (by omega)
      exact ⟨by omega, by omega⟩
    rw [bd_t (M_ref06_Plain_eq (by omega) p2 hr (by rw [zl_len]; omega) hf)]
    congr 2
    refine (pm_fp (by omega) _).ext (drv_fp (by omega) _) fun k => ?_
    rw [pm_ci, ci_zl_z hz, drv_ci, Int.emod_emod]
  · by_cases hl : a.length = 0
    · obtain ⟨n, hn⟩ : ∃ n, fu = n + 1 := ⟨fu - 1, by omega⟩
      obtain rfl : a = [] := List.length_eq_zero_iff.1 hl
      have h1 : loopN (B_ref06_Deriv_0 fu p []) (n + 1) ([], 1) = some [] := by
        rw [loopN_t]
        unfold B_ref06_Deriv_0
        simp only []
        rw [if_neg (by decide)]
      rw [← hn] at h1
      exact h1
    · refine loop_eq (fun s : List Int × Int => ∃ i : Nat, i + 1 ≤ a.length ∧ s = (zl i (fun k => dvp (ci a) k % p), ((i + 1 : Nat) : Int))) (fun s => a.length - s.2.toNat) _ ?_ _ _ ⟨0, by omega, rfl⟩ (by show a.length - 1 < fu; omega)
      rintro s L ⟨i, hi, rfl⟩ ih
      unfold B_ref06_Deriv_0
      simp only []
      by_cases h : i + 1 < a.length
      · have hbi := hb (i + 1)
        rw [if_pos (by omega), ck_t (by omega), nm_t, tmod_nn (by omega), ckI_n h, nm_t, ci_d, ck64_t ⟨by omega, by omega⟩, ck_t (by omega), nm_t, tmod_nn hbi.1, ck_t (by rw [zl_len]; simp; omega), nm_t, zl_app (f := fun k => dvp (ci a) k % p) (by
          show _ = (((i + 1 : Nat) : Int) * ci a (i + 1)) % p
          rw [Int.mul_emod, Int.emod_emod, ← Int.mul_emod]), ck64_t ⟨by omega, by omega⟩]
        exact ih _ ⟨i + 1, by omega, rfl⟩ (by show a.length - (((i + 1 : Nat) : Int) + 1).toNat < a.length - ((i + 1 : Nat) : Int).toNat; omega)
      · rw [if_neg (by omega)]
        obtain rfl : i = a.length - 1 := by omega
        rfl
end Go.Proofs.YtjnjfinbdfolkaaGreat
end

section
set_option linter.unusedVariables false
set_option linter.unusedSimpArgs false
namespace Go.Proofs.YtjnjfinbdfolkaaGreat
/-- leads with one -/
structure MonL (p : Int) (m : List Int) : Prop where
  fm : Fp p m
  ln : 0 < m.length
  top : ci m (m.length - 1) = 1
theorem MonL.mn {p : Int} {m : List Int} (h : MonL p m) : Mn (ci m) (m.length - 1) := ⟨h.top, fun k hk => ci_ge (by omega)⟩
theorem MonL.one {p : Int} {m : List Int} (h : MonL p m) (hl : m.length = 1) : m = [1] := by
  match m, hl with
  | [x], _ => have := h.top; exact congrArg (fun y => [y]) this
theorem monL_one {p : Int} (hp : 2 ≤ p) : MonL p [1] := ⟨fp_one (by decide) (by omega), by decide, rfl⟩
/-- a quotient by what divides -/
theorem div_exact {p : Int} {m g q r : List Int} {A : Pz} (hp : 2 ≤ p) (hm : MonL p m) (hg : MonL p g) (fA : Fs A) (hd : Cg p (ci m) (A * ci g)) (hq : Fp p q) (hr : Fp p r) (hcg : Cg p (ci m) (ci q * ci g + ci r)) (hlt : r.length < g.length) :
    MonL p q ∧ Cg p (ci m) (ci q * ci g) ∧ m.length + 1 = q.length + g.length := by
  have hgl := hg.ln
  have h1 : Cg p ((A - ci q) * ci g) (ci r) := by
    rw [p_sub_mul]
    refine ((hd.symm.trans hcg).sub Cg.rfl).trans (Cg.of ?_)
    funext k
    rw [p_sub, p_add]; omega
  have h2 := hg.mn.zero hp (fA.subt (Fs.ci q)) fun k hk => by rw [h1 k, ci_ge (by omega), Int.zero_emod]
  have h3 : Cg p (ci r) (pc 0) := h1.symm.trans (h2.mul_zero_r _)
  have h4 : Cg p (ci m) (ci q * ci g) := by
    refine hcg.trans (Cg.iff_sub.2 ?_)
    have e : ci q * ci g + ci r - ci q * ci g = ci r := by
      funext k
      rw [p_sub, p_add]; omega
    rw [e]; exact h3
  have hml := hm.ln
  have q0 : 0 < q.length := by
    refine Nat.pos_of_ne_zero fun e => ?_
    have h5 := h4 (m.length - 1)
    rw [hm.top, p_mul, sumN_zero fun i hi => by rw [ci_ge (l := q) (by omega), Int.zero_mul], Int.zero_emod, Int.emod_eq_of_lt (by decide) (by omega)] at h5
    cases h5
  have ht := hg.mn.top (x := ci q) (n := q.length - 1) fun k hk => ci_ge (by omega)
  have h6 := h4 (q.length - 1 + (g.length - 1))
  rw [ht, hm.fm.mod, hq.mod] at h6
  have hqt : ci q (q.length - 1) ≠ 0 := by
    rcases hq.nl with h | h
    · omega
    · exact h
  have hlen : m.length + 1 = q.length + g.length := by
    have a1 : q.length - 1 + (g.length - 1) < m.length := Nat.lt_of_not_le fun h => by
      rw [ci_ge h] at h6
      exact hqt h6.symm
    have a2 : m.length ≤ q.length - 1 + (g.length - 1) + 1 := hm.fm.nl.le fun k hk => by
      rw [← hm.fm.mod, h4, p_mul_out (n := q.length) (m := g.length) (fun j hj => ci_ge hj) (fun j hj => ci_ge hj) (by omega), Int.zero_emod]
    omega
  refine ⟨⟨hq, q0, ?_⟩, h4, hlen⟩
  rw [← h6, show q.length - 1 + (g.length - 1) = m.length - 1 by omega, hm.top]
theorem M_ref08_by_ex {fu : Nat} {m g : List Int} {p : Int} {A : Pz} (hp : prm p = true) (hm : MonL p m) (hg : MonL p g) (hml : m.length ≤ 290) (hgl : g.length ≤ 290) (fA : Fs A) (hd : Cg p (ci m) (A * ci g)) (hf : 3000000 ≤ fu) :
    ∃ q, M_ref08_by fu m g p = some q ∧ MonL p q ∧ Cg p (ci m) (ci q * ci g) ∧ m.length + 1 = q.length + g.length := by
  obtain ⟨p1, p2⟩ := prm_rng hp
  obtain ⟨q, r, e1, hq, hr, hcg, hlt, hql⟩ := M_ref06_Div_ex (fu := fu) hp hm.fm hg.fm hg.ln (by omega) (by omega) hf
  refine ⟨q, ?_, div_exact p1 hm hg fA hd hq hr hcg hlt⟩
  unfold M_ref08_by
  rw [bd_t e1]
/-- the common divisor with what leads with one leads with one -/
theorem gcd_mon {p : Int} {g h d s t : List Int} {S : Nat} (hp : 2 ≤ p) (hg : MonL p g) (hR : BzR p g h d s t S) (hd : d.length = 0 ∨ ci d (d.length - 1) = 1) : MonL p d := by
  obtain ⟨A, C, z1, z2, d1, d2⟩ := hR.dv
  have hl : 0 < d.length := by
    refine Nat.pos_of_ne_zero fun e => ?_
    have h1 := d1 (g.length - 1)
    rw [hg.top, p_mul, sumN_zero fun i hi => by rw [ci_ge (l := d) (by omega), Int.mul_zero], Int.zero_emod, Int.emod_eq_of_lt (by decide) (by omega)] at h1
    cases h1
  exact ⟨hR.df, hl, hd.resolve_left (by omega)⟩
/-- what divides is no longer -/
theorem dvd_len {p : Int} {a d : List Int} {A : Pz} (hp : 2 ≤ p) (ha : MonL p a) (hd : MonL p d) (fA : Fs A) (h : Cg p (ci a) (A * ci d)) : d.length ≤ a.length := by
  have hal := ha.ln
  refine Nat.le_of_not_lt fun hlt => ?_
  have hz : ∀ k, d.length - 1 ≤ k → (A * ci d) k % p = 0 := fun k hk => by rw [← h k, ci_ge (by omega), Int.zero_emod]
  have h0 := hd.mn.zero hp fA hz
  have h5 := (h.trans (h0.mul_zero_r _)) (a.length - 1)
  rw [ha.top, pc_zero, Int.zero_emod, Int.emod_eq_of_lt (by decide) (by omega)] at h5
  cases h5
theorem M_ref08_without_ex {fu : Nat} {g w : List Int} {p : Int} (hp : prm p = true) (hg : MonL p g) (hw : Fp p w) (hgl : g.length ≤ 290) (hwl : w.length ≤ 290) (hf : 3000000 ≤ fu) :
    ∃ x, M_ref08_without fu g w p = some x ∧ MonL p x ∧ x.length ≤ g.length ∧ (Cop p (ci g) (ci w) → x = g) ∧ (¬ Cop p (ci g) (ci w) → x.length < g.length) := by
  obtain ⟨p1, p2⟩ := prm_rng hp
  unfold M_ref08_without
  obtain ⟨d, s, t, e1, hR, hd⟩ := M_ref06_Gcd_ex (fu := fu) hp hg.fm hw hgl hwl hf
  rw [bd_t e1]
  simp only []
  have hdm := gcd_mon p1 hg hR hd
  have hgc := gcd_cop p1 hR hd
  obtain ⟨x, l1, l2, l3, l4, l5⟩ := loop_ex (f := B_ref08_without_0 fu w p) (fun z : List Int × List Int => ∃ a d : List Int, z = (a, d) ∧ MonL p a ∧ a.length ≤ g.length ∧ MonL p d ∧ d.length ≤ 290 ∧ (∃ A : Pz, Fs A ∧ Cg p (ci a) (A * ci d)) ∧ ((a = g ∧ (d.length = 1 ↔ Cop p (ci g) (ci w))) ∨ (a.length < g.length ∧ ¬ Cop p (ci g) (ci w))))
    (fun z => z.1.length) (fun x => MonL p x ∧ x.length ≤ g.length ∧ (Cop p (ci g) (ci w) → x = g) ∧ (¬ Cop p (ci g) (ci w) → x.length < g.length)) (by
      rintro z L ⟨a, d, rfl, ha, hal, hd, hdl, ⟨A, fA, hA⟩, hor⟩ ih
      unfold B_ref08_without_0
      simp only []
      by_cases h1 : 1 < d.length
      · obtain ⟨q, q1, q2, q3, q4⟩ := M_ref08_by_ex (fu := fu) hp ha hd (by omega) hdl fA hA hf
        obtain ⟨d', s', t', e1', hR', hd'⟩ := M_ref06_Gcd_ex (fu := fu) hp q2.fm hw (by omega) hwl hf
        have hdm' := gcd_mon p1 q2 hR' hd'
        rw [if_pos (by omega), bd_t q1, bd_t e1']
        obtain ⟨A', C', z1, z2, d1, d2⟩ := hR'.dv
        have hdl' := dvd_len p1 q2 hdm' z1 d1
        refine ih _ ⟨q, d', rfl, q2, by omega, hdm', by omega, ⟨A', z1, d1⟩, .inr ⟨by omega, ?_⟩⟩ (by show q.length < a.length; omega)
        rcases hor with ⟨h2, h3⟩ | ⟨h2, h3⟩
        · exact fun h => by have := h3.2 h; omega
        · exact h3
      · have hdl0 := hd.ln
        rw [if_neg (by omega)]
        refine ⟨_, rfl, ha, hal, fun h => ?_, fun h => ?_⟩
        · rcases hor with ⟨h2, h3⟩ | ⟨h2, h3⟩
          · exact h2
          · exact absurd h h3
        · rcases hor with ⟨h2, h3⟩ | ⟨h2, h3⟩
          · exact absurd (h3.1 (by omega)) h
          · exact h2) fu (g, d) ⟨g, d, rfl, hg, Nat.le_refl _, hdm, by obtain ⟨A, C, z1, z2, d1, d2⟩ := hR.dv; exact Nat.le_trans (dvd_len p1 hg hdm z1 d1) hgl, by obtain ⟨A, C, z1, z2, d1, d2⟩ := hR.dv; exact ⟨A, z1, d1⟩, .inl ⟨rfl, hgc⟩⟩ (by show g.length < fu; omega)
  rw [bd_t l1]
  exact ⟨x, rfl, l2, l3, l4, l5⟩
end Go.Proofs.YtjnjfinbdfolkaaGreat
end

section
set_option linter.unusedVariables false
set_option linter.unusedSimpArgs false
namespace Go.Proofs.YtjnjfinbdfolkaaGreat
theorem M_ref08_root_eq {fu P : Nat} {a : List Int} (hP : 2 ≤ P) (hP2 : P ≤ 65521) (hl : a.length ≤ 290) (hf : 3000000 ≤ fu) : M_ref08_root fu a (P : Int) = some (zl ((a.length + P - 1) / P) (fun k => ci a (k * P))) := by
  unfold M_ref08_root
  obtain ⟨n, hn⟩ : ∃ n, n = (a.length + P - 1) / P := ⟨_, rfl⟩
  have hnl : n ≤ 65900 := by
    rw [hn]
    refine Nat.le_trans (Nat.div_le_self _ _) (by omega)
  rw [← hn, bd_t (v := zl n (fun k => ci a (k * P)))]
  refine loop_eq (fun s : List Int × Int => ∃ i : Nat, i ≤ n ∧ s = (zl i (fun k => ci a (k * P)), ((i * P : Nat) : Int))) (fun s => a.length - s.2.toNat) _ ?_ _ _ ⟨0, Nat.zero_le _, by rw [Nat.zero_mul]; rfl⟩ (by show a.length - 0 < fu; omega)
  rintro s L ⟨i, hi, rfl⟩ ih
  unfold B_ref08_root_0
  simp only []
  by_cases h : i * P < a.length
  · have hi2 : i + 1 ≤ n := by
      rw [hn, Nat.le_div_iff_mul_le (by omega), Nat.add_mul, Nat.one_mul]
      omega
    rw [if_pos (by omega), ckI_n h, nm_t, ci_d, ck_t (by rw [zl_len]; simp; omega), nm_t, zl_app (f := fun k => ci a (k * P)) rfl, show ((i * P : Nat) : Int) + (P : Int) = (((i + 1) * P : Nat) : Int) by rw [Nat.add_mul, Nat.one_mul]; omega, ck64_t ⟨by omega, by rw [Nat.add_mul, Nat.one_mul]; omega⟩]
    exact ih _ ⟨i + 1, hi2, rfl⟩ (by
      show a.length - (((i + 1) * P : Nat) : Int).toNat < a.length - ((i * P : Nat) : Int).toNat
      rw [Nat.add_mul, Nat.one_mul]
      omega)
  · rw [if_neg (by omega)]
    have h2 : n ≤ i := by
      have h3 : n < i + 1 := by
        rw [hn, Nat.div_lt_iff_lt_mul (by omega), Nat.add_mul, Nat.one_mul]
        omega
      omega
    obtain rfl : i = n := by omega
    rfl
theorem root_mon {P : Nat} {m : List Int} (hp : prm (P : Int) = true) (hm : MonL (P : Int) m) (h1 : 1 < m.length) (hd : (drv (P : Int) m).length = 0) :
    MonL (P : Int) (zl ((m.length + P - 1) / P) (fun k => ci m (k * P))) ∧ (zl ((m.length + P - 1) / P) (fun k => ci m (k * P))).length < m.length := by
  obtain ⟨p1, p2⟩ := prm_rng hp
  have hnd := prm_nodiv hp
  rw [Int.toNat_natCast] at hnd
  have hdz : ∀ k, (((k + 1 : Nat) : Int) * ci m (k + 1)) % (P : Int) = 0 := fun k => by
    have := drv_ci (P : Int) m k
    rw [ci_ge (by omega)] at this
    exact this.symm
  have hpd : P ∣ m.length - 1 := by
    obtain ⟨j, hj⟩ : ∃ j, m.length - 1 = j + 1 := ⟨m.length - 2, by omega⟩
    have h2 := hdz j
    rw [← hj, hm.top, Int.mul_one] at h2
    exact Int.natCast_dvd_natCast.1 (Int.dvd_of_emod_eq_zero h2)
  obtain ⟨c, hc⟩ := hpd
  have hc1 : 1 ≤ c := Nat.pos_of_ne_zero fun e => by rw [e, Nat.mul_zero] at hc; omega
  have hn : (m.length + P - 1) / P = c + 1 := by
    rw [show m.length + P - 1 = (c + 1) * P by rw [Nat.add_mul, Nat.one_mul, Nat.mul_comm]; omega]
    exact Nat.mul_div_cancel _ (by omega)
  rw [hn]
  have h2c : 2 * c ≤ P * c := Nat.mul_le_mul_right _ (by omega)
  have htop : ci (zl (c + 1) (fun k => ci m (k * P))) c = 1 := by
    rw [ci_zl (by omega), Nat.mul_comm, ← hc, hm.top]
  refine ⟨⟨⟨fun k => ?_, fun k => ?_, .inr ?_⟩, by rw [zl_len]; omega, ?_⟩, by rw [zl_len]; omega⟩
  · by_cases hk : k < c + 1
    · rw [ci_zl hk]; exact hm.fm.nn _
    · rw [ci_ge (by rw [zl_len]; omega)]; omega
  · by_cases hk : k < c + 1
    · rw [ci_zl hk]; exact hm.fm.lt _
    · rw [ci_ge (by rw [zl_len]; omega)]; omega
  · rw [zl_len, Nat.add_sub_cancel, htop]; decide
  · rw [zl_len, Nat.add_sub_cancel, htop]
theorem fmul_one {p : Int} {m : List Int} (hp : 0 < p) (hm : Fp p m) : fmul p m [1] = m := by
  refine (fmul_fp hp _ _).ext hm ((fmul_cg p m [1]).trans (Cg.of ?_))
  rw [ci_one, p_mul_one]
theorem monic06_mon {fu : Nat} {m : List Int} {p : Int} (hp : prm p = true) (hm : MonL p m) (hl : m.length ≤ 90000) (hf : 3000000 ≤ fu) : M_ref06_Monic fu m p = some (m, 0) := by
  obtain ⟨p1, p2⟩ := prm_rng hp
  rw [M_ref06_Monic_ex (x := 1) hp hm.fm hm.ln hl (by decide) (by omega) (by rw [Int.one_mul, hm.top]; exact Int.emod_eq_of_lt (by decide) (by omega)) hf, fmul_one (by omega) hm.fm]
/-- without a common factor with what vanishes -/
theorem cop_null {p : Int} {m : List Int} {f : Pz} (hp : 2 ≤ p) (hm : MonL p m) (hf : Cg p f (pc 0)) (h : Cop p (ci m) f) : m.length = 1 := by
  obtain ⟨s, t, z1, z2, h⟩ := h
  refine unit_deg hp z1 hm.ln hm.top (Cg.trans ?_ h)
  refine Cg.trans (Cg.of ?_) (Cg.add Cg.rfl (hf.mul_zero_l t).symm)
  funext k
  rw [p_add, pc_zero, Int.add_zero]
theorem radical_ex {P : Nat} (hp : prm (P : Int) = true) : ∀ (n : Nat) {fu : Nat} {m : List Int}, m.length = n → n ≤ 290 → 3000001 + n ≤ fu → MonL (P : Int) m →
    ∃ r, M_ref08_radical fu m (P : Int) = some r ∧ MonL (P : Int) r ∧ r.length ≤ m.length ∧ (Cop (P : Int) (ci m) (dvp (ci m)) → r = m) ∧ (¬ Cop (P : Int) (ci m) (dvp (ci m)) → r.length < m.length) := by
  intro n
  induction n using Nat.strongRecOn with
  | _ n ih =>
  intro fu m hn hn2 hfu hm
  obtain ⟨p1, p2⟩ := prm_rng hp
  obtain ⟨F, rfl⟩ : ∃ F, fu = F + 1 := ⟨fu - 1, by omega⟩
  have hf : 3000000 ≤ F := by omega
  have hml := hm.ln
  unfold M_ref08_radical
  rw [bd_t (monic06_mon hp hm (by omega) hf)]
  simp only []
  by_cases h1 : m.length = 1
  · have hm1 := hm.one h1
    rw [if_pos (by omega)]
    refine ⟨[1], rfl, monL_one p1, by simp; omega, fun _ => hm1.symm, fun h => absurd ?_ h⟩
    rw [hm1, ci_one]
    exact Cop.one _ _
  · rw [if_neg (by omega), bd_t (M_ref06_Deriv_eq hp hm.fm (by omega) hf)]
    simp only []
    have hdc := drv_cg (P : Int) m
    by_cases hd : (drv (P : Int) m).length = 0
    · -- a p-th power
      obtain ⟨hr1, hr2⟩ := root_mon hp hm (by omega) hd
      obtain ⟨r, e1, e2, e3, e4, e5⟩ := ih _ (by omega) (fu := F) rfl (by omega) (by omega) hr1
      rw [if_pos (by omega), bd_t (M_ref08_root_eq (by omega) (by omega) (by omega) hf), bd_t e1]
      have hz : Cg (P : Int) (dvp (ci m)) (pc 0) := hdc.symm.trans (Cg.of (funext fun k => by rw [ci_ge (by omega), pc_zero]))
      exact ⟨r, rfl, e2, by omega, fun h => absurd (cop_null p1 hm hz h) h1, fun _ => by omega⟩
    · have hdl := drv_lt (p := (P : Int)) (by omega) hml
      obtain ⟨g, s, t, g1, hR, g3⟩ := M_ref06_Gcd_ex (fu := F) hp hm.fm (drv_fp (p := (P : Int)) (by omega) m) (by omega) (by omega) hf
      have hg := gcd_mon p1 hm hR g3
      have hgc := gcd_cop p1 hR g3
      have hcopd : Cop (P : Int) (ci m) (dvp (ci m)) ↔ g.length = 1 := by
        rw [hgc]
        exact ⟨fun h => h.congr Cg.rfl hdc.symm, fun h => h.congr Cg.rfl hdc⟩
      obtain ⟨A, C, z1, z2, d1, d2⟩ := hR.dv
      have hgl := hg.ln
      have hgd : g.length ≤ (drv (P : Int) m).length := by
        have hnl := (drv_fp (p := (P : Int)) (by omega) m).nl
        refine Nat.le_of_not_lt fun hlt => ?_
        have hz : ∀ k, g.length - 1 ≤ k → (C * ci g) k % (P : Int) = 0 := fun k hk => by rw [← d2 k, ci_ge (by omega), Int.zero_emod]
        have h0 := hg.mn.zero p1 z2 hz
        have h5 := (d2.trans (h0.mul_zero_r _)) ((drv (P : Int) m).length - 1)
        rw [(drv_fp (p := (P : Int)) (by omega) m).mod, pc_zero, Int.zero_emod] at h5
        rcases hnl with h | h
        · exact hd h
        · exact h h5
      obtain ⟨w, w1, w2, w3, w4⟩ := M_ref08_by_ex (fu := F) hp hm hg (by omega) (by omega) z1 d1 hf
      obtain ⟨x, x1, x2, x3, x4, x5⟩ := M_ref08_without_ex (fu := F) hp hg w2.fm (by omega) (by omega) hf
      obtain ⟨r, e1, e2, e3, e4, e5⟩ := ih _ (show x.length < n by omega) (fu := F) rfl (by omega) (by omega) x2
      have hwl := w2.ln
      have hrl := e2.ln
      obtain ⟨f1, f2⟩ := fmul_mon p1 hwl w2.top hrl e2.top
      rw [if_neg (by omega), bd_t g1]
      simp only []
      rw [bd_t w1, bd_t x1, bd_t e1, bd_t (M_ref06_Times_eq hp w2.fm e2.fm (by omega) (by omega) hf)]
      refine ⟨_, rfl, ⟨fmul_fp (by omega) _ _, by omega, by rw [f1]; exact f2⟩, by omega, fun h => ?_, fun h => ?_⟩
      · -- squarefree
        have hg1 := hcopd.1 h
        have hgo := hg.one hg1
        have hxg : x = g := x4 (by rw [hgo, ci_one]; exact Cop.one _ _)
        have hro : r = x := e4 (by rw [hxg, hgo, ci_one]; exact Cop.one _ _)
        rw [hro, hxg, hgo, fmul_one (by omega) w2.fm]
        refine (w2.fm.ext hm.fm ?_)
        have h6 := w3
        rw [hgo, ci_one, p_mul_one] at h6
        exact h6.symm
      · -- not squarefree
        have hg1 : g.length ≠ 1 := fun e => h (hcopd.2 e)
        have hrg : r.length < g.length := by
          by_cases hgw : Cop (P : Int) (ci g) (ci w)
          · have hxg := x4 hgw
            subst hxg
            refine e5 fun hcg => ?_
            -- the rest would divide its own derivative
            have hm2 : Cg (P : Int) (dvp (ci m)) (dvp (ci w) * ci x + ci w * dvp (ci x)) := by
              have := dvp_cg w3
              rw [dvp_mul] at this
              exact this
            have hm3 : Cg (P : Int) (dvp (ci m)) (C * ci x) := hdc.symm.trans d2
            have hwx : Cg (P : Int) (ci w * dvp (ci x)) ((C - dvp (ci w)) * ci x) := by
              rw [p_sub_mul]
              refine Cg.trans (Cg.of ?_) ((hm2.symm.trans hm3).sub Cg.rfl)
              funext k
              simp only [p_sub, p_add]
              omega
            obtain ⟨u, v, zu, zv, huv⟩ := hgw
            have hX : Cg (P : Int) (dvp (ci x)) ((u * dvp (ci x) + v * (C - dvp (ci w))) * ci x) := by
              have a1 : Cg (P : Int) (dvp (ci x)) ((u * ci x + v * ci w) * dvp (ci x)) := by
                have := huv.symm.mul (Cg.rfl (f := dvp (ci x)))
                rw [p_one_mul] at this
                exact this
              refine a1.trans ?_
              rw [p_add_mul, p_add_mul]
              refine Cg.add (Cg.of ?_) ?_
              · simp only [p_mul_assoc, p_mul_comm, p_mul_left_comm]
              · rw [p_mul_assoc, p_mul_assoc]
                exact Cg.rfl.mul hwx
            have fdv : ∀ y : List Int, Fs (dvp (ci y)) := fun y => ⟨y.length, fun k hk => dvp_out (by omega)⟩
            have hz := x2.mn.zero p1 ((zu.mul (fdv x)).add (zv.mul (z2.subt (fdv w)))) fun k hk => by rw [← hX k, dvp_out (by omega), Int.zero_emod]
            exact hg1 (cop_null p1 x2 (hX.trans (hz.mul_zero_r _)) hcg)
          · have := x5 hgw
            omega
        omega
theorem ref06_same_f {fu : Nat} {a b : List Int} (h : a.length ≠ b.length) : M_ref06_Same fu a b = some false := by
  unfold M_ref06_Same
  rw [if_neg (by omega)]
theorem sqf_same {fu : Nat} {a : List Int} {p : Int} (hp : prm p = true) (ha : Fp p a) (hl : a.length ≤ 290) (hf : 3000300 ≤ fu) : ∃ b e, M_fsqf_Is fu a p = some (b, e) ∧ M_ref08_Is fu a p = some (b, e) := by
  obtain ⟨p1, p2⟩ := prm_rng hp
  obtain ⟨P, rfl⟩ := Int.eq_ofNat_of_zero_le (show 0 ≤ p by omega)
  unfold M_fsqf_Is M_ref08_Is M_fsqf_monic M_ref08_wrong
  by_cases h0 : a.length = 0
  · obtain rfl : a = [] := List.length_eq_zero_iff.1 h0
    refine ⟨false, 8, ?_, ?_⟩
    · rw [bd_t (M_fpoly_Monic_nil hp (by omega))]
      rfl
    · rw [bd_t (M_ref05_Check_t hp (by omega)), if_pos rfl, bd_t (plain06 hp ha (by omega) (by omega))]
      rfl
  · obtain ⟨x, x0, x1, hx, e1⟩ := M_fpoly_Monic_ex (fu := fu) hp ha (by omega) (by omega) (by omega)
    have hM := mon_fmul p1 ha (by omega) hx
    obtain ⟨m, hme⟩ : ∃ m, m = fmul (P : Int) a [x] := ⟨_, rfl⟩
    rw [← hme] at hM e1
    have hm : MonL (P : Int) m := ⟨hM.fm, by have := hM.ln; omega, hM.top⟩
    have hml := hM.ln
    obtain ⟨g, s, t, g1, hR, g3⟩ := M_fpoly_Gcd_ex (fu := fu) hp hm.fm (drv_fp (p := (P : Int)) (by omega) m) (by omega) (by have := drv_le (P : Int) m; omega) (by omega)
    have hgc := gcd_cop p1 hR g3
    have hcopd : Cop (P : Int) (ci m) (dvp (ci m)) ↔ g.length = 1 := by
      rw [hgc]
      exact ⟨fun h => h.congr Cg.rfl (drv_cg (P : Int) m).symm, fun h => h.congr Cg.rfl (drv_cg (P : Int) m)⟩
    have e2 : M_ref06_Monic fu a (P : Int) = some (m, 0) := by rw [M_ref06_Monic_ex hp ha (by omega) (by omega) x0 x1 hx (by omega), hme]
    obtain ⟨r, r1, r2, r3, r4, r5⟩ := radical_ex hp m.length (fu := fu) rfl (by omega) (by omega) hm
    have r6 : M_ref08_radical fu a (P : Int) = some r := by
      obtain ⟨F, rfl⟩ : ∃ F, fu = F + 1 := ⟨fu - 1, by omega⟩
      rw [← r1]
      unfold M_ref08_radical
      have e3 : M_ref06_Monic F a (P : Int) = some (m, 0) := by rw [M_ref06_Monic_ex hp ha (by omega) (by omega) x0 x1 hx (by omega), hme]
      rw [bd_t e3, bd_t (monic06_mon hp hm (by omega) (by omega))]
    refine ⟨decide (g.length = 1), 0, ?_, ?_⟩
    · rw [bd_t e1]
      simp only [if_true]
      rw [if_neg (by omega), bd_t rfl]
      simp only [if_true]
      rw [bd_t (M_fpoly_Deriv_eq hp hm.fm (by omega) (by omega))]
      simp only []
      rw [bd_t g1]
      simp only []
      by_cases hg1 : g.length = 1
      · rw [if_pos (by omega), decide_eq_true hg1]
      · rw [if_neg (by omega), decide_eq_false hg1]
    · rw [bd_t (M_ref05_Check_t hp (by omega)), if_pos rfl, bd_t (plain06 hp ha (by omega) (by omega)), if_neg (by omega), bd_t rfl, if_pos rfl, bd_t e2]
      simp only []
      rw [bd_t r6]
      by_cases hg1 : g.length = 1
      · rw [r4 (hcopd.2 hg1), bd_t (ref06_same_t rfl (by omega) (by omega)), decide_eq_true hg1]
      · have := r5 (fun h => hg1 (hcopd.1 h))
        rw [bd_t (ref06_same_f (by omega)), decide_eq_false hg1]
end Go.Proofs.YtjnjfinbdfolkaaGreat
end

section
set_option linter.unusedVariables false
set_option linter.unusedSimpArgs false
namespace Go.Proofs.YtjnjfinbdfolkaaGreat
/-- what both exact quotients are -/
def exI (x y : Int) : Int := if y = 0 then 0 else if x % y = 0 then x / y else 0
def exE (x y : Int) : Int := if y = 0 then 3 else if x % y = 0 then 0 else 4
theorem M_zint_Exact_eq {fu : Nat} {a b : Zr} (ha : OkS a) (hb : OkS b) (hf : 3000000 ≤ fu) : M_zint_Exact fu a b = some (ofI (exI (zv a) (zv b)), exE (zv a) (zv b)) := by
  unfold M_zint_Exact exI exE
  rw [bd_t (M_zint_Div_eq ha hb hf)]
  unfold divR
  by_cases h0 : zv b = 0
  · rw [if_pos h0, if_pos h0, if_pos h0]
    rfl
  · rw [if_neg h0, if_neg h0, if_neg h0]
    simp only [if_true]
    have hr : Bz b.2.length (zv a % zv b) := by
      unfold Bz
      have h1 := Int.emod_nonneg (zv a) h0
      have h2 := Int.emod_lt (zv a) h0
      have h3 := Bz.of hb.1
      unfold Bz at h3
      omega
    rw [bd_t rfl, if_neg (by decide), bd_t (M_zint_Sign_eq (hr.ok (by have := hb.2; omega)) hf), zv_ofI]
    by_cases h1 : zv a % zv b = 0
    · rw [if_pos (cmpI_zero.2 h1), if_pos h1, if_pos h1]
    · rw [if_neg (fun e => h1 (cmpI_zero.1 e)), if_neg h1, if_neg h1]
      rfl
theorem M_ref02_Exact_eq {fu : Nat} {a b : Zr} (ha : OkS a) (hb : OkS b) (hf : 3000000 ≤ fu) : M_ref02_Exact fu a b = some (ofI (exI (zv a) (zv b)), exE (zv a) (zv b)) := by
  unfold M_ref02_Exact exI exE
  rw [bd_t (M_ref02_Div_eq ha hb hf)]
  unfold divR
  by_cases h0 : zv b = 0
  · rw [if_pos h0, if_pos h0, if_pos h0]
    rfl
  · rw [if_neg h0, if_neg h0, if_neg h0]
    simp only [if_true]
    have hr : Bz b.2.length (zv a % zv b) := by
      unfold Bz
      have h1 := Int.emod_nonneg (zv a) h0
      have h2 := Int.emod_lt (zv a) h0
      have h3 := Bz.of hb.1
      unfold Bz at h3
      omega
    rw [bd_t (M_ref02_Sign_eq (hr.ok (by have := hb.2; omega)) hf), zv_ofI]
    by_cases h1 : zv a % zv b = 0
    · rw [if_pos (cmpI_zero.2 h1), if_pos h1, if_pos h1]
    · rw [if_neg (fun e => h1 (cmpI_zero.1 e)), if_neg h1, if_neg h1]
      rfl
theorem exI_le (x y : Int) : (exI x y).natAbs ≤ x.natAbs := by
  unfold exI
  split
  · exact Nat.zero_le _
  · split
    · exact Int.natAbs_ediv_le_natAbs x y
    · exact Nat.zero_le _
theorem bl_K {K n : Nat} (h : n < 18446744073709551616 ^ K) : bl n ≤ 64 * K := bl_le (by rw [Nat.pow_mul, two64]; exact h)
theorem M_zint_Gcd_eq {fu K : Nat} {a b : Zr} (ha : Limbs a.2) (hb : Limbs b.2) (hla : a.2.length ≤ K) (hlb : b.2.length ≤ K) (hK : K ≤ 10000) (hf : 3000000 ≤ fu) : M_zint_Gcd fu a b = some (ofI (Nat.gcd (zv a).natAbs (zv b).natAbs : Nat)) := by
  unfold M_zint_Gcd
  rw [bd_t (M_nat_Norm_eq ha (by omega) (by omega)), bd_t (M_nat_Norm_eq hb (by omega) (by omega)), natAbs_zv, natAbs_zv]
  have hA : nv a.2 < 18446744073709551616 ^ K := Nat.lt_of_lt_of_le (nv_lt ha) (Nat.pow_le_pow_right (by decide) hla)
  have hB : nv b.2 < 18446744073709551616 ^ K := Nat.lt_of_lt_of_le (nv_lt hb) (Nat.pow_le_pow_right (by decide) hlb)
  generalize nv a.2 = A at *
  generalize nv b.2 = B at *
  have hG : Nat.gcd A B < 18446744073709551616 ^ K := by
    by_cases h : A = 0
    · rw [h, Nat.gcd_zero_left]; exact hB
    · exact Nat.lt_of_le_of_lt (Nat.gcd_le_left _ (by omega)) hA
  have hlen : ∀ {n : Nat}, n < 18446744073709551616 ^ K → (toL n).length ≤ K := fun {n} h => (toL_length _ _).2 h
  rw [bd_t (v := toL (Nat.gcd A B))]
  · have hl := hlen hG
    rw [bd_t (M_zint_made_eq (toL_limbs _) (by omega) (by omega)), nv_toL]
    rfl
  · refine loop_eq (fun s : List Nat × List Nat => ∃ x y : Nat, s = (toL x, toL y) ∧ x < 18446744073709551616 ^ K ∧ y < 18446744073709551616 ^ K ∧ Nat.gcd x y = Nat.gcd A B) (fun s => bl (nv s.1) + bl (nv s.2) + if nv s.1 < nv s.2 then 1 else 0) _ ?_ _ _ ⟨A, B, rfl, hA, hB, rfl⟩ ?_
    · rintro s L ⟨x, y, rfl, hx, hy, hg⟩ ih
      unfold B_zint_Gcd_0
      simp only []
      have lx := hlen hx
      have ly := hlen hy
      by_cases h0 : y = 0
      · subst h0
        rw [if_neg (by rw [toL_zero]; decide)]
        rw [Nat.gcd_zero_right] at hg
        rw [hg]
      · have hp := toL_len_pos (n := y) (by omega)
        rw [if_pos (by omega), bd_t (M_nat_Div_eq (toL_limbs x) (toL_limbs y) (by omega) (by omega) hf), nv_toL, nv_toL, if_neg h0]
        simp only []
        have hml := Nat.mod_lt x (show 0 < y by omega)
        refine ih _ ⟨y, x % y, rfl, hy, by omega, ?_⟩ ?_
        · rw [← hg, Nat.gcd_comm y, ← Nat.gcd_rec, Nat.gcd_comm]
        · simp only [nv_toL]
          rw [if_neg (by omega)]
          by_cases hlt : x < y
          · rw [if_pos hlt, Nat.mod_eq_of_lt hlt]; omega
          · have := half_bl (r0 := x) (r1 := y) (by omega) (by omega)
            omega
    · simp only [nv_toL]
      have h1 := bl_K hA
      have h2 := bl_K hB
      split <;> omega
theorem M_ref02_Abs_eq {fu : Nat} {a : Zr} (ha : Limbs a.2) (hl : a.2.length ≤ 200000) (hf : 3000000 ≤ fu) : M_ref02_Abs fu a = some (ofI ((zv a).natAbs : Nat)) := by
  unfold M_ref02_Abs
  rw [bd_t (M_ref02_Norm_eq' (z := (false, a.2)) ha hl hf), natAbs_zv]
  rfl
theorem M_ref02_Gcd_eq {fu K : Nat} {a b : Zr} (ha : Limbs a.2) (hb : Limbs b.2) (hla : a.2.length ≤ K) (hlb : b.2.length ≤ K) (hK : K ≤ 10000) (hf : 3000000 ≤ fu) : M_ref02_Gcd fu a b = some (ofI (Nat.gcd (zv a).natAbs (zv b).natAbs : Nat)) := by
  unfold M_ref02_Gcd
  rw [bd_t (M_ref02_Abs_eq ha (by omega) hf), bd_t (M_ref02_Abs_eq hb (by omega) hf), natAbs_zv, natAbs_zv]
  have hA : nv a.2 < 18446744073709551616 ^ K := Nat.lt_of_lt_of_le (nv_lt ha) (Nat.pow_le_pow_right (by decide) hla)
  have hB : nv b.2 < 18446744073709551616 ^ K := Nat.lt_of_lt_of_le (nv_lt hb) (Nat.pow_le_pow_right (by decide) hlb)
  generalize nv a.2 = A at *
  generalize nv b.2 = B at *
  rw [bd_t (v := ofI (Nat.gcd A B : Nat))]
  refine loop_eq (fun s : Zr × Zr => ∃ x y : Nat, s = (ofI (x : Nat), ofI (y : Nat)) ∧ x < 18446744073709551616 ^ K ∧ y < 18446744073709551616 ^ K ∧ Nat.gcd x y = Nat.gcd A B) (fun s => bl (zv s.1).natAbs + bl (zv s.2).natAbs + if (zv s.1).natAbs < (zv s.2).natAbs then 1 else 0) _ ?_ _ _ ⟨A, B, rfl, hA, hB, rfl⟩ ?_
  · rintro s L ⟨x, y, rfl, hx, hy, hg⟩ ih
    unfold B_ref02_Gcd_0
    simp only []
    have zx := Bz.nat hx
    have zy := Bz.nat hy
    rw [bd_t (M_ref02_Sign_eq (zy.ok (by omega)) hf), zv_ofI]
    by_cases h0 : y = 0
    · subst h0
      rw [if_pos (cmpI_zero.2 (show ((0 : Nat) : Int) = 0 from rfl))]
      rw [Nat.gcd_zero_right] at hg
      rw [hg]
    · rw [if_neg (fun e => h0 (by have := cmpI_zero.1 e; omega)), bd_t (M_ref02_Div_eq (zx.okS (by omega)) (zy.okS (by omega)) hf), zv_ofI, zv_ofI]
      unfold divR
      rw [if_neg (by omega)]
      simp only []
      have hml := Nat.mod_lt x (show 0 < y by omega)
      rw [show ((x : Int) % (y : Int)) = ((x % y : Nat) : Int) from rfl]
      refine ih _ ⟨y, x % y, rfl, hy, by omega, ?_⟩ ?_
      · rw [← hg, Nat.gcd_comm y, ← Nat.gcd_rec, Nat.gcd_comm]
      · simp only [zv_ofI, Int.natAbs_natCast]
        rw [if_neg (by omega)]
        by_cases hlt : x < y
        · rw [if_pos hlt, Nat.mod_eq_of_lt hlt]; omega
        · have := half_bl (r0 := x) (r1 := y) (by omega) (by omega)
          omega
  · simp only [zv_ofI, Int.natAbs_natCast]
    have h1 := bl_K hA
    have h2 := bl_K hB
    split <;> omega
theorem M_ref02_Small_eq {fu : Nat} {x : Int} (h0 : 0 ≤ x) (h : x < 9223372036854775808) (hf : 3000000 ≤ fu) : M_ref02_Small fu (ofI x) = some (x, true) := by
  have hB : Bz 1 x := by unfold Bz; omega
  unfold M_ref02_Small
  rw [bd_t (M_ref02_Norm_eq' (ofI_limbs x) (by have := hB.len; omega) hf), zv_ofI]
  have hneg : (ofI x).1 = false := by unfold ofI; simp; omega
  by_cases hx : x = 0
  · subst hx
    rw [show (ofI 0).2 = [] from rfl, if_pos (show ((([] : List Nat).length : Nat) : Int) = 0 from rfl)]
  · have hpos := ofI_pos.2 hx
    have hlen := hB.len
    obtain ⟨n, rfl⟩ := Int.eq_ofNat_of_zero_le h0
    have hg : (ofI (n : Int)).2.getD 0 0 = n := by
      show (toL ((n : Int).natAbs)).getD 0 0 = n
      rw [Int.natAbs_natCast, toL_getD, Nat.pow_zero, Nat.div_one, Nat.mod_eq_of_lt (by omega)]
    rw [if_neg (by omega), if_neg (by omega), show (0 : Int) = ((0 : Nat) : Int) from rfl, ckI_n (by omega), nm_t, hneg, if_neg (by decide), if_pos (by decide), hg, if_pos (by omega), nm_t, small_val (by omega)]
theorem M_ref04_Mod_eq {fu : Nat} {a : Zr} {p : Int} (ha : OkS a) (h1 : 1 ≤ p) (h2 : p ≤ 65521) (hf : 3000000 ≤ fu) : M_ref04_Mod fu a p = some (zv a % p, 0) := by
  unfold M_ref04_Mod
  have hB : Bz 1 p := by unfold Bz; omega
  have hr := red_rng (a := zv a) (p := p) (by omega)
  rw [bd_t (M_ref02_Of_eq ⟨by omega, by omega⟩ (by omega)), bd_t (M_ref04_Rest_eq ha (hB.okS (by decide)) hf), zv_ofI]
  unfold restR
  rw [if_neg (by omega)]
  simp only [if_true]
  rw [bd_t (M_ref02_Small_eq hr.1 (by omega) hf)]
theorem M_ref10_Mod_eq {fu k : Nat} {a : List Zr} {p : Int} (ha : OkP k a) (hk : k ≤ 40000) (h1 : 1 ≤ p) (h2 : p ≤ 65521) (hl : a.length ≤ 1000000) (hf : 3000000 ≤ fu) : M_ref10_Mod fu a p = some (zmod p a, 0) := by
  unfold M_ref10_Mod
  have hd := dg_le (fun k => cf a k % p) a.length
  rw [if_neg (by omega), bd_t (v := zl a.length (fun k => cf a k % p))]
  · rw [bd_t (v := ((dg (fun k => cf a k % p) a.length : Nat) : Int))]
    · rw [ckN_n, ck_t (by rw [zl_len]; exact hd), nm_t, zl_take hd]
      rfl
    · rw [zl_len]
      refine loop_eq (fun t : Int => ∃ m : Nat, m ≤ a.length ∧ t = (m : Int) ∧ dg (fun k => cf a k % p) m = dg (fun k => cf a k % p) a.length) (fun t => t.toNat) _ ?_ _ _ ⟨a.length, Nat.le_refl _, rfl, rfl⟩ (by omega)
      rintro t L ⟨m, hm, rfl, hg⟩ ih
      unfold B_ref10_Mod_1
      cases m with
      | zero =>
        rw [if_neg (by omega), ← hg]
        rfl
      | succ m =>
        rw [if_pos (by omega), show ((m + 1 : Nat) : Int) - 1 = (m : Int) by omega, ck64_t ⟨by omega, by omega⟩, ckI_n (by rw [zl_len]; omega), nm_t, zl_getD (by omega)]
        by_cases h0 : cf a m % p = 0
        · rw [if_pos h0, ck64_t ⟨by omega, by omega⟩]
          exact ih _ ⟨m, by omega, rfl, by rw [← dg_step0 (f := fun k => cf a k % p) h0, hg]⟩ (by omega)
        · rw [if_neg h0, ← hg, dg_step1 (f := fun k => cf a k % p) h0]
  · refine loop_eq (fun s : List Int × Int => ∃ i : Nat, i ≤ a.length ∧ s = (zl i (fun k => cf a k % p), (i : Int))) (fun s => a.length - s.2.toNat) _ ?_ _ _ ⟨0, Nat.zero_le _, rfl⟩ (by show a.length - 0 < fu; omega)
    rintro s L ⟨i, hi, rfl⟩ ih
    unfold B_ref10_Mod_0
    simp only []
    by_cases h : i < a.length
    · rw [if_pos (by omega), ckI_n h, nm_t, bd_t (M_ref04_Mod_eq (ha.okS hk i) h1 h2 hf), cf_d]
      simp only []
      rw [ck_t (by rw [zl_len]; simp; omega), nm_t, zl_app (f := fun k => cf a k % p) rfl, ck64_t ⟨by omega, by omega⟩]
      exact ih _ ⟨i + 1, by omega, rfl⟩ (by show a.length - ((i : Int) + 1).toNat < a.length - (i : Int).toNat; omega)
    · rw [if_neg (by omega)]
      obtain rfl : i = a.length := by omega
      rfl
end Go.Proofs.YtjnjfinbdfolkaaGreat
end

section
set_option linter.unusedVariables false
set_option linter.unusedSimpArgs false
namespace Go.Proofs.YtjnjfinbdfolkaaGreat
/-- the common divisor of the first so many -/
def gcdN (f : Nat → Int) : Nat → Nat
  | 0 => 0
  | n + 1 => Nat.gcd (gcdN f n) (f n).natAbs
theorem gcdN_dvd (f : Nat → Int) : ∀ n k, k < n → gcdN f n ∣ (f k).natAbs
  | 0, k, h => absurd h (Nat.not_lt_zero _)
  | n + 1, k, h => by
    by_cases e : k = n
    · rw [e]; exact Nat.gcd_dvd_right _ _
    · exact Nat.dvd_trans (Nat.gcd_dvd_left _ _) (gcdN_dvd f n k (by omega))
theorem gcdN_lt (f : Nat → Int) {K : Nat} (h : ∀ k, Bz K (f k)) : ∀ n, gcdN f n < 18446744073709551616 ^ K
  | 0 => Nat.pow_pos (by decide)
  | n + 1 => by
    show Nat.gcd (gcdN f n) (f n).natAbs < _
    by_cases e : gcdN f n = 0
    · rw [e, Nat.gcd_zero_left]; exact h n
    · exact Nat.lt_of_le_of_lt (Nat.gcd_le_left _ (by omega)) (gcdN_lt f h n)
/-- what all coefficients have in common, with the sign of what leads -/
def contI (a : List Zr) : Int := if cf (nrm a) ((nrm a).length - 1) < 0 then -((gcdN (cf a) (nrm a).length : Nat) : Int) else ((gcdN (cf a) (nrm a).length : Nat) : Int)
theorem nrm_can (a : List Zr) : nrm a = nzp (nrm a).length (cf (nrm a)) := can_nzp _ _
theorem nrm_nrm (a : List Zr) : nrm (nrm a) = nrm a := (nrm_can a).symm
theorem contI_bz {K : Nat} {a : List Zr} (h : OkP K a) : Bz K (contI a) := by
  have hb := gcdN_lt (cf a) h.bz (nrm a).length
  unfold contI
  split
  · exact (Bz.nat hb).neg
  · exact Bz.nat hb
theorem contI_dvd (a : List Zr) (k : Nat) : contI a ∣ cf a k := by
  have h : ((gcdN (cf a) (nrm a).length : Nat) : Int) ∣ cf a k := by
    by_cases hk : k < (nrm a).length
    · exact Int.natAbs_dvd_natAbs.1 (by rw [Int.natAbs_natCast]; exact gcdN_dvd (cf a) _ k hk)
    · rw [← nrm_cf, cf_ge (by omega)]; exact Int.dvd_zero _
  unfold contI
  split
  · exact Int.neg_dvd.2 h
  · exact h
theorem contI_ne {a : List Zr} (h : (nrm a).length ≠ 0) : contI a ≠ 0 := by
  intro e
  have h1 := can_top (nrm_can a) h
  rw [nrm_cf] at h1
  have h2 := contI_dvd a ((nrm a).length - 1)
  rw [e] at h2
  exact h1 (Int.zero_dvd.1 h2)
theorem M_zpoly_Content_eq {fu K : Nat} {a : List Zr} (ha : OkP K a) (hK : K ≤ 9999) (hl : a.length ≤ 1000000) (hf : 3000000 ≤ fu) : M_zpoly_Content fu a = some (ofI (contI a)) := by
  unfold M_zpoly_Content
  have hn := nrm_ok ha
  have hnl := nrm_len a
  have hgb := gcdN_lt (cf a) ha.bz
  rw [bd_t (M_zpoly_Norm_eq ha (by omega) hl hf), show nzp a.length (cf a) = nrm a from rfl, bd_t (M_zint_Of_eq' (by decide) hf), bd_t (v := (nrm a, (false, []), ofI ((gcdN (cf a) (nrm a).length : Nat) : Int)))]
  · simp only []
    by_cases h0 : (nrm a).length = 0
    · rw [if_neg (by omega)]
      unfold contI
      rw [h0]
      show some (ofI ((0 : Nat) : Int)) = some (ofI (if cf (nrm a) 0 < 0 then -(((0 : Nat) : Int)) else ((0 : Nat) : Int)))
      split <;> rfl
    · rw [if_pos (by omega), show (((nrm a).length : Nat) : Int) - 1 = (((nrm a).length - 1 : Nat) : Int) by omega, ck64_t ⟨by omega, by omega⟩, ckI_n (by omega), nm_t, can_getD (nrm_can a) (by omega)]
      unfold contI
      by_cases h1 : cf (nrm a) ((nrm a).length - 1) < 0
      · rw [if_pos ((ofI_neg _).2 h1), if_pos h1, bd_t (M_zint_Neg_eq ((Bz.nat (hgb _)).ok (by omega)) hf), zv_ofI]
      · rw [if_neg (fun e => h1 ((ofI_neg _).1 e)), if_neg h1]
  · refine loop_eq (fun s : Int × List Zr × Zr × Zr => ∃ i : Nat, i ≤ (nrm a).length ∧ s = ((i : Int), nrm a, (false, []), ofI ((gcdN (cf a) i : Nat) : Int))) (fun s => (nrm a).length - s.1.toNat) _ ?_ _ _ ⟨0, Nat.zero_le _, rfl⟩ (by show (nrm a).length - 0 < fu; omega)
    rintro s L ⟨i, hi, rfl⟩ ih
    unfold B_zpoly_Content_0
    simp only []
    by_cases h : i < (nrm a).length
    · have hg := hn.get i
      rw [if_pos (by omega), bd_t rfl]
      simp only [if_true]
      rw [ckI_n h, nm_t, bd_t (M_zint_Gcd_eq (ofI_limbs _) hg.1 (Bz.nat (hgb i)).len hg.2 (by omega) hf), zv_ofI, Int.natAbs_natCast, cf_d, nrm_cf, ck64_t ⟨by omega, by omega⟩]
      exact ih _ ⟨i + 1, by omega, rfl⟩ (by show (nrm a).length - ((i : Int) + 1).toNat < (nrm a).length - (i : Int).toNat; omega)
    · rw [if_neg (by omega), bd_t rfl]
      simp only [Bool.false_eq_true, if_false]
      obtain rfl : i = (nrm a).length := by omega
      rfl
theorem contI_nrm (a : List Zr) : contI (nrm a) = contI a := by
  unfold contI
  rw [nrm_nrm, show cf (nrm a) = cf a from funext (nrm_cf a)]
theorem M_ref10_Content_eq {fu K : Nat} {a : List Zr} (ha : OkP K a) (hK : K ≤ 9999) (hl : a.length ≤ 1000000) (hf : 3000000 ≤ fu) : M_ref10_Content fu a = some (ofI (contI a)) := by
  unfold M_ref10_Content
  have hn := nrm_ok ha
  have hnl := nrm_len a
  have hgb := gcdN_lt (cf a) ha.bz
  rw [bd_t (M_ref10_Norm_eq ha (by omega) hl hf), show nzp a.length (cf a) = nrm a from rfl, bd_t (M_ref02_Of_eq (by decide) (by omega)), bd_t (v := ofI ((gcdN (cf a) (nrm a).length : Nat) : Int))]
  · by_cases h0 : (nrm a).length = 0
    · rw [if_neg (by omega)]
      unfold contI
      rw [h0]
      show some (ofI ((0 : Nat) : Int)) = some (ofI (if cf (nrm a) 0 < 0 then -(((0 : Nat) : Int)) else ((0 : Nat) : Int)))
      split <;> rfl
    · rw [if_pos (by omega), show (((nrm a).length : Nat) : Int) - 1 = (((nrm a).length - 1 : Nat) : Int) by omega, ck64_t ⟨by omega, by omega⟩, ckI_n (by omega), nm_t, can_getD (nrm_can a) (by omega)]
      unfold contI
      by_cases h1 : cf (nrm a) ((nrm a).length - 1) < 0
      · rw [if_pos ((ofI_neg _).2 h1), if_pos h1, bd_t (M_ref02_Neg_eq ((Bz.nat (hgb _)).ok (by omega)) hf), zv_ofI]
      · rw [if_neg (fun e => h1 ((ofI_neg _).1 e)), if_neg h1]
  · refine loop_eq (fun s : Int × Zr => ∃ i : Nat, i ≤ (nrm a).length ∧ s = ((i : Int), ofI ((gcdN (cf a) i : Nat) : Int))) (fun s => (nrm a).length - s.1.toNat) _ ?_ _ _ ⟨0, Nat.zero_le _, rfl⟩ (by show (nrm a).length - 0 < fu; omega)
    rintro s L ⟨i, hi, rfl⟩ ih
    unfold B_ref10_Content_0
    simp only []
    by_cases h : i < (nrm a).length
    · have hg := hn.get i
      rw [if_pos (by omega), ckI_n h, nm_t, bd_t (M_ref02_Gcd_eq (ofI_limbs _) hg.1 (Bz.nat (hgb i)).len hg.2 (by omega) hf), zv_ofI, Int.natAbs_natCast, cf_d, nrm_cf, ck64_t ⟨by omega, by omega⟩]
      exact ih _ ⟨i + 1, by omega, rfl⟩ (by show (nrm a).length - ((i : Int) + 1).toNat < (nrm a).length - (i : Int).toNat; omega)
    · rw [if_neg (by omega)]
      obtain rfl : i = (nrm a).length := by omega
      rfl
def primP (a : List Zr) : List Zr := nzp a.length (fun k => cf a k / contI a)
theorem primP_ok {K : Nat} {a : List Zr} (h : OkP K a) : OkP K (primP a) := OkP_nzp fun k => (h.bz k).le (Int.natAbs_ediv_le_natAbs _ _)
theorem div_ne {x c : Int} (hd : c ∣ x) (hx : x ≠ 0) : x / c ≠ 0 := fun e => by
  have := Int.ediv_mul_cancel hd
  rw [e, Int.zero_mul] at this
  exact hx this.symm
theorem primP_len (a : List Zr) : (primP a).length = (nrm a).length := by
  unfold primP nrm
  rw [nzp_len, nzp_len]
  refine dg_uniq (dg_le _ _) (fun k h1 h2 => by rw [dg_out (cf a) a.length k h1 h2, Int.zero_ediv]) ?_
  by_cases h : dg (cf a) a.length = 0
  · exact .inl h
  · exact .inr (div_ne (contI_dvd a _) (dg_top _ _ h))
theorem primP_zi (a : List Zr) : primP a = zi (nrm a).length (fun k => cf a k / contI a) := by
  have h := primP_len a
  unfold primP at h ⊢
  rw [nzp_len] at h
  unfold nzp
  rw [h]
theorem M_zpoly_Prim_eq {fu K : Nat} {a : List Zr} (ha : OkP K a) (hK : K ≤ 9999) (hl : a.length ≤ 1000000) (hf : 3000000 ≤ fu) : M_zpoly_Prim fu a = some (primP a) := by
  unfold M_zpoly_Prim
  have hn := nrm_ok ha
  have hnl := nrm_len a
  have hc := contI_bz ha
  rw [bd_t (M_zpoly_Content_eq ha hK hl hf), bd_t (M_zpoly_Norm_eq ha (by omega) hl hf), show nzp a.length (cf a) = nrm a from rfl, bd_t (each_eq (p := nrm a) (g := fun k => cf a k / contI a) (by omega) (by omega) fun j hj => ?_), primP_zi]
  unfold M_zpoly_Prim_1
  rw [bd_t (M_zint_Exact_eq (hn.okS (by omega) j) (hc.okS (by omega)) hf), zv_ofI, cf_d, nrm_cf]
  simp only []
  unfold exI
  rw [if_neg (contI_ne (by omega)), if_pos (Int.emod_eq_zero_of_dvd (contI_dvd a j))]
theorem div10_const {fu K : Nat} {a : List Zr} (ha : OkP K a) (hK : K ≤ 3000) (hl : a.length ≤ 1000) (h0 : (nrm a).length ≠ 0) (hf : 3000000 ≤ fu) : M_ref10_Div fu (nrm a) [ofI (contI a)] = some (primP a, 0) := by
  unfold M_ref10_Div
  have hn := nrm_ok ha
  have hnl := nrm_len a
  have hc := contI_bz ha
  have hcn := contI_ne h0
  have hcl := hc.len
  have hco : OkP K [ofI (contI a)] := fun z hz => by
    obtain rfl := List.mem_singleton.1 hz
    exact ⟨ofI_limbs _, hcl⟩
  have hcc : nzp [ofI (contI a)].length (cf [ofI (contI a)]) = [ofI (contI a)] := by
    show nzp 1 _ = _
    unfold nzp
    rw [show dg (cf [ofI (contI a)]) 1 = 1 from dg_step1 (m := 0) (by show zv (ofI (contI a)) ≠ 0; rw [zv_ofI]; exact hcn)]
    show [ofI (zv (ofI (contI a)))] = _
    rw [zv_ofI]
  have hcf : ∀ k, cf [ofI (contI a)] k = if k = 0 then contI a else 0 := fun k => by
    by_cases hk : k = 0
    · rw [if_pos hk, hk]; exact zv_ofI _
    · rw [if_neg hk]; exact cf_ge (by simp; omega)
  rw [bd_t (M_ref10_Norm_eq hco (by omega) (by simp) hf), hcc, if_neg (show ¬ ((([ofI (contI a)] : List Zr).length : Nat) : Int) = 0 from by simp), bd_t (M_ref10_Norm_eq hn (by omega) (by omega) hf), show nzp (nrm a).length (cf (nrm a)) = nrm a from (nrm_can a).symm]
  obtain ⟨n, hne⟩ : ∃ n, n = a.length := ⟨_, rfl⟩
  rw [bd_t (v := .inl (primP a))]
  refine loop_eq (fun s : List Zr × List Zr × List Zr => ∃ m : Nat, m ≤ n ∧ s = ([ofI (contI a)], nzp m (cf a), nzp n (fun k => if m ≤ k then cf a k / contI a else 0))) (fun s => s.2.1.length) _ ?_ _ _ ⟨n, Nat.le_refl _, ?_⟩ (by show (nrm a).length < fu; omega)
  · rintro s L ⟨m, hm, rfl⟩ ih
    unfold B_ref10_Div_0
    simp only []
    have hrd := dg_le (cf a) m
    have hdl : (nzp m (cf a)).length = dg (cf a) m := nzp_len _ _
    have hrcf : ∀ k, cf (nzp m (cf a)) k = if k < m then cf a k else 0 := fun k => by
      have e : nzp m (cf a) = nzp m (fun k => if k < m then cf a k else 0) := nzp_congr fun k hk => by rw [if_pos hk]
      rw [e, nzp_cf fun k hk => if_neg (by omega)]
    by_cases h1 : 0 < dg (cf a) m
    · obtain ⟨d, hd⟩ : ∃ d, dg (cf a) m = d + 1 := ⟨dg (cf a) m - 1, by omega⟩
      have htop : cf a d ≠ 0 := by have := dg_top (cf a) m (by omega); rw [hd] at this; exact this
      have hg1 : (nzp m (cf a)).getD d (false, []) = ofI (cf a d) := by
        unfold nzp
        rw [hd]
        exact zi_getD (by omega)
      have hex1 : exI (cf a d) (contI a) = cf a d / contI a := by
        unfold exI
        rw [if_neg hcn, if_pos (Int.emod_eq_zero_of_dvd (contI_dvd a d))]
      have hex2 : exE (cf a d) (contI a) = 0 := by
        unfold exE
        rw [if_neg hcn, if_pos (Int.emod_eq_zero_of_dvd (contI_dvd a d))]
      have hvb : Bz K (cf a d / contI a) := (ha.bz d).le (Int.natAbs_ediv_le_natAbs _ _)
      have hpart : List.replicate d (false, []) ++ [ofI (cf a d / contI a)] = zi (d + 1) (mono d (cf a d / contI a)) := by
        rw [zi_rep, ← zi_snoc]
        congr 1
        · exact zi_congr fun k hk => by unfold mono; rw [if_neg (by omega)]
        · unfold mono; rw [if_pos rfl]
      have hpo : OkP K (zi (d + 1) (mono d (cf a d / contI a))) := OkP_zi fun j => by
        unfold mono
        split
        · exact hvb
        · exact Bz.zero _
      have hqo : OkP K (nzp n (fun k => if m ≤ k then cf a k / contI a else 0)) := OkP_nzp fun j => by
        split
        · exact (ha.bz j).le (Int.natAbs_ediv_le_natAbs _ _)
        · exact Bz.zero _
      have hql : (nzp n (fun k => if m ≤ k then cf a k / contI a else 0)).length ≤ n := by rw [nzp_len]; exact dg_le _ _
      have hro : OkP K (nzp m (cf a)) := OkP_nzp ha.bz
      have hmo := mulP_ok hpo hco
      have hml := mulP_len (zi (d + 1) (mono d (cf a d / contI a))) [ofI (contI a)]
      rw [zi_len] at hml hmo
      rw [if_pos (by rw [hdl]; omega), hdl, hd, show (([ofI (contI a)] : List Zr).length : Nat) = 1 from rfl, show ((d + 1 : Nat) : Int) - ((1 : Nat) : Int) = (d : Int) by omega, ck64_t ⟨by omega, by omega⟩, show ((d + 1 : Nat) : Int) - 1 = (d : Int) by omega, ck64_t ⟨by omega, by omega⟩, ckI_n (by omega), nm_t, hg1, show ((1 : Nat) : Int) - 1 = ((0 : Nat) : Int) by rfl, ck64_t ⟨by omega, by omega⟩, ckI_n (by omega), nm_t, show ([ofI (contI a)] : List Zr).getD 0 (false, []) = ofI (contI a) from rfl, bd_t (M_ref02_Exact_eq ((ha.bz d).okS (by omega)) (hc.okS (by omega)) hf), zv_ofI, zv_ofI, hex1, hex2]
      simp only [if_true]
      rw [if_neg (by omega), ckN_n, ck_t (by omega), nm_t, ck_t (by simp; omega), nm_t, hpart, bd_t (M_ref10_Add_eq hqo hpo (by omega) (by omega) (by rw [zi_len]; omega) hf), bd_t (M_ref10_Mul_eq hpo hco (by rw [zi_len]; omega) (by simp) hf), bd_t (M_ref10_Sub_eq (k := K + K + (d + 1)) (hro.mono (by omega)) hmo (by omega) (by omega) (by simp at hml; omega) hf)]
      have e1 : subP (nzp m (cf a)) (mulP (zi (d + 1) (mono d (cf a d / contI a))) [ofI (contI a)]) = nzp d (cf a) := by
        unfold subP
        have e3 : nzp d (cf a) = nzp d (fun k => if k < d then cf a k else 0) := nzp_congr fun k hk => by rw [if_pos hk]
        rw [e3]
        refine nzp_ext (fun k hk => by rw [cf_ge (by omega), cf_ge (by omega)]; rfl) (fun k hk => if_neg (by omega)) fun k => ?_
        rw [mulP_mono, hrcf]
        unfold shP
        by_cases hk : k < d
        · rw [if_pos (by omega), if_pos hk, if_neg (by omega), Int.mul_zero, Int.sub_zero]
        · rw [if_neg hk]
          by_cases hk2 : k = d
          · subst hk2
            rw [if_pos (by omega), if_pos (Nat.le_refl _), hcf, if_pos (by omega), Int.ediv_mul_cancel (contI_dvd a k)]
            omega
          · have hz : (if k < m then cf a k else 0) = 0 := by
              split
              · exact dg_out (cf a) m k (by omega) (by omega)
              · rfl
            rw [hz, if_pos (by omega), hcf, if_neg (by omega), Int.mul_zero]
            rfl
      have e2 : nzp (max (nzp n (fun k => if m ≤ k then cf a k / contI a else 0)).length (zi (d + 1) (mono d (cf a d / contI a))).length) (fun j => cf (nzp n (fun k => if m ≤ k then cf a k / contI a else 0)) j + cf (zi (d + 1) (mono d (cf a d / contI a))) j) = nzp n (fun k => if d ≤ k then cf a k / contI a else 0) := by
        refine nzp_ext (fun k hk => by rw [cf_ge (by omega), cf_ge (by omega)]; rfl) (fun k hk => by rw [cf_ge (p := a) (by omega), Int.zero_ediv, ite_self]) fun k => ?_
        rw [nzp_cf (fun k hk => by rw [cf_ge (p := a) (by omega), Int.zero_ediv, ite_self]), cf_zi_z (fun k hk => by unfold mono; rw [if_neg (by omega)])]
        unfold mono
        by_cases hk : k < d
        · rw [if_neg (show ¬ m ≤ k by omega), if_neg (show ¬ k = d by omega), if_neg (show ¬ d ≤ k by omega)]; rfl
        · by_cases hk2 : k = d
          · subst hk2
            rw [if_neg (show ¬ m ≤ k by omega), if_pos rfl, if_pos (Nat.le_refl _), Int.zero_add]
          · rw [if_neg hk2, if_pos (show d ≤ k by omega), Int.add_zero]
            by_cases hk3 : m ≤ k
            · rw [if_pos hk3]
            · rw [if_neg hk3, dg_out (cf a) m k (by omega) (by omega), Int.zero_ediv]
      show L ([ofI (contI a)], _, _) = _
      rw [e1, e2]
      exact ih _ ⟨d, by omega, rfl⟩ (by show (nzp d (cf a)).length < (nzp m (cf a)).length; rw [hdl, nzp_len]; have := dg_le (cf a) d; omega)
    · rw [if_neg (by rw [hdl]; omega)]
      congr 2
      unfold primP
      rw [← hne]
      refine nzp_congr fun k hk => ?_
      by_cases hk3 : m ≤ k
      · rw [if_pos hk3]
      · rw [if_neg hk3, dg_out (cf a) m k (by omega) (by omega), Int.zero_ediv]
  · rw [hne]
    congr 2
    · have e : nzp a.length (fun k => if a.length ≤ k then cf a k / contI a else 0) = nzp a.length (fun _ => 0) := nzp_congr fun k hk => if_neg (by omega)
      rw [e]
      have : dg (fun _ => (0 : Int)) a.length = 0 := dg_uniq (Nat.zero_le _) (fun _ _ _ => rfl) (.inl rfl)
      unfold nzp
      rw [this]
      rfl
theorem M_ref10_Prim_eq {fu K : Nat} {a : List Zr} (ha : OkP K a) (hK : K ≤ 3000) (hl : a.length ≤ 1000) (hf : 3000000 ≤ fu) : M_ref10_Prim fu a = some (primP a) := by
  unfold M_ref10_Prim
  have hnl := nrm_len a
  rw [bd_t (M_ref10_Norm_eq ha (by omega) (by omega) hf), show nzp a.length (cf a) = nrm a from rfl]
  by_cases h0 : (nrm a).length = 0
  · rw [if_pos (by omega)]
    have := primP_len a
    rw [h0] at this
    rw [List.length_eq_zero_iff.1 this]
  · rw [if_neg (by omega), bd_t (M_ref10_Content_eq (nrm_ok ha) (by omega) (by omega) hf), contI_nrm, bd_t (div10_const ha hK hl h0 hf)]
end Go.Proofs.YtjnjfinbdfolkaaGreat
end

section
set_option linter.unusedVariables false
set_option linter.unusedSimpArgs false
namespace Go.Proofs.YtjnjfinbdfolkaaGreat
theorem shr_one {x : Nat} : x / 2 ^ 1 = x / 2 := by rw [Nat.pow_one]
theorem bl_half {n : Nat} (h : 0 < n) : bl (n / 2) < bl n := by rw [bl_pos h]; omega
theorem bl_mono {a b : Nat} (h : a ≤ b) : bl a ≤ bl b := bl_le (Nat.lt_of_le_of_lt h (lt_bl b))
theorem root_sq {fu K : Nat} {s y : Int} (hy : Bz K y) (hK : K ≤ 10000) (hf : 3000000 ≤ fu) : loopN (B_zint_Root_1 fu 2 (ofI y)) fu (2, ofI s, 0, ofI 1) = some (2, ofI s, ofI (y * y)) := by
  obtain ⟨n, hn⟩ : ∃ n, fu = n + 3 := ⟨fu - 3, by omega⟩
  have h : loopN (B_zint_Root_1 fu 2 (ofI y)) (n + 3) (2, ofI s, 0, ofI 1) = some (2, ofI s, ofI (y * y)) := by
    have b1 : Bz 1 1 := Bz.one' (Nat.le_refl _)
    rw [loopN_t]
    unfold B_zint_Root_1
    simp only []
    rw [if_pos (by decide), bd_t (M_zint_Mul_eq' (b1.ok (by decide)) (hy.ok (by omega)) hf), zv_ofI, zv_ofI, Int.one_mul, ck64_t (by decide), loopN_t]
    simp only []
    rw [if_pos (by decide), bd_t (M_zint_Mul_eq' (hy.ok (by omega)) (hy.ok (by omega)) hf), zv_ofI, ck64_t (by decide), loopN_t]
    simp only []
    rw [if_neg (by decide)]
  rw [← hn] at h
  exact h
theorem M_zint_Root_ex {fu K : Nat} {s : Int} (hs : 0 ≤ s) (hB : Bz K s) (hK : K ≤ 1000) (hf : 3000000 ≤ fu) : ∃ r : Nat, M_zint_Root fu (ofI s) 2 = some (ofI (r : Int), 0) ∧ Bz (K + 1) (r : Int) := by
  unfold M_zint_Root
  obtain ⟨S, rfl⟩ := Int.eq_ofNat_of_zero_le hs
  have hsl := hB.len
  have hbl : bl S ≤ 64 * K := bl_K (by unfold Bz at hB; rwa [Int.natAbs_natCast] at hB)
  have hnv : nv (ofI (S : Int)).2 = S := by show nv (toL ((S : Int).natAbs)) = S; rw [nv_toL, Int.natAbs_natCast]
  have hdiv : Int.tdiv ((bl S : Nat) : Int) 2 = ((bl S / 2 : Nat) : Int) := by rw [Int.tdiv_eq_ediv_of_nonneg (by omega)]; omega
  have h2 : bl S / 2 ≤ 32 * K := by omega
  have hmin : min (((bl S / 2 : Nat) : Int) + 1) (262144 : Int) = ((bl S / 2 + 1 : Nat) : Int) := by omega
  rw [if_neg (by decide), if_neg (by decide), bd_t (M_zint_Sign_eq (hB.ok (by omega)) hf), zv_ofI, if_neg (fun e => by
    unfold cmpI at e
    rw [if_neg (by omega)] at e
    split at e <;> exact absurd e (by decide)), bd_t (M_zint_Of_eq' (by decide) hf), bd_t (M_nat_Bits_eq (ofI_limbs _) (by omega) (by omega)), hnv, ck_t (by decide), hdiv, ck64_t ⟨by omega, by omega⟩, ck64_t ⟨by omega, by omega⟩, nm_t, hmin, bd_t (M_nat_Shl_eq (a := [1]) (Limbs.cons (by decide) Limbs.nil) (by decide) (by omega) (by omega))]
  simp only []
  obtain ⟨H, hH⟩ : ∃ H, H = 1 * 2 ^ (bl S / 2 + 1) := ⟨_, rfl⟩
  have hHB : H < 18446744073709551616 ^ (K + 1) := by
    rw [hH, Nat.one_mul, show (18446744073709551616 : Nat) = 2 ^ 64 by decide, ← Nat.pow_mul]
    exact Nat.pow_lt_pow_right (by decide) (by omega)
  have hH1 : 1 ≤ H := by rw [hH, Nat.one_mul]; exact Nat.pow_pos (by decide)
  have hHbl := bl_K hHB
  rw [show nv [1] = 1 from rfl, ← hH, bd_t (M_zint_made_eq (toL_limbs _) (by have := (toL_length (K + 1) H).2 hHB; omega) (by have := (toL_length (K + 1) H).2 hHB; omega)), nv_toL, if_neg (by decide)]
  obtain ⟨r, l1, R, rfl, hR⟩ := loop_ex (f := B_zint_Root_0 fu (ofI (S : Int)) 2) (fun z : Zr × Zr × Zr => ∃ lo hi : Nat, z = ((false, []), ofI (lo : Int), ofI (hi : Int)) ∧ lo < hi ∧ hi ≤ H) (fun z => bl ((zv z.2.2).natAbs - (zv z.2.1).natAbs - 1)) (fun r => ∃ R : Nat, r = ofI (R : Int) ∧ R ≤ H) (by
    rintro z L ⟨lo, hi, rfl, h1, h2⟩ ih
    unfold B_zint_Root_0
    simp only []
    have blo : Bz (K + 1) (lo : Int) := Bz.nat (by omega)
    have bhi : Bz (K + 1) (hi : Int) := Bz.nat (by omega)
    have hsum : nv (ofI ((lo : Int) + (hi : Int))).2 = lo + hi := by
      show nv (toL (((lo : Int) + (hi : Int)).natAbs)) = lo + hi
      rw [nv_toL]; omega
    have bsum := (blo.add bhi).len
    have bmid : Bz (K + 1) (((lo + hi) / 2 : Nat) : Int) := Bz.nat (by omega)
    have hml : (toL ((lo + hi) / 2)).length ≤ K + 1 := (toL_length _ _).2 (by omega)
    rw [bd_t (M_zint_Add_eq (blo.ok (by omega)) (bhi.ok (by omega)) hf), zv_ofI, zv_ofI, show (1 : Int) = ((1 : Nat) : Int) from rfl, bd_t (M_nat_Shr_eq (ofI_limbs _) (by omega) (by decide) (by omega)), hsum, shr_one, bd_t (M_zint_made_eq (toL_limbs _) (by omega) (by omega)), nv_toL, if_neg (by decide), bd_t (M_zint_Cmp_eq (bmid.ok (by omega)) (blo.ok (by omega)) hf (by have := bmid.len; omega) (by have := blo.len; omega)), zv_ofI, zv_ofI]
    by_cases h3 : (lo + hi) / 2 = lo
    · rw [if_pos (cmpI_zero.2 (by omega))]
      exact ⟨_, rfl, lo, rfl, by omega⟩
    · rw [if_neg (fun e => h3 (by have := cmpI_zero.1 e; omega)), show (((1 : Nat) : Int)) = 1 from rfl, bd_t (M_zint_Of_eq' (by decide) hf), bd_t (root_sq bmid (by omega) hf)]
      simp only []
      have bsq := (bmid.mul bmid).len
      rw [bd_t (M_zint_Cmp_eq ((bmid.mul bmid).ok (by omega)) (hB.ok (by omega)) hf (by omega) (by omega))]
      have hd : 0 < hi - lo - 1 := by omega
      have hm : ∀ d, d ≤ (hi - lo - 1) / 2 → bl d < bl (hi - lo - 1) := fun d hd2 => Nat.lt_of_le_of_lt (bl_mono hd2) (bl_half hd)
      split
      · exact ih _ ⟨_, hi, rfl, by omega, h2⟩ (by simp only [zv_ofI, Int.natAbs_natCast]; exact hm _ (by omega))
      · exact ih _ ⟨lo, _, rfl, by omega, by omega⟩ (by simp only [zv_ofI, Int.natAbs_natCast]; exact hm _ (by omega))) fu ((false, []), ofI 0, ofI ((H : Nat) : Int)) ⟨0, H, rfl, by omega, Nat.le_refl _⟩ (by
      simp only [zv_ofI, Int.natAbs_natCast]
      have := bl_mono (show H - Int.natAbs 0 - 1 ≤ H by omega)
      omega)
  rw [bd_t l1]
  exact ⟨R, rfl, Bz.nat (by omega)⟩
def wrE (a : List Zr) : Int := if (nrm a).length = 0 then 8 else if 65 < (nrm a).length then 6 else 0
theorem M_zsqf_wrong_eq {fu K : Nat} {a : List Zr} (ha : OkP K a) (hK : K ≤ 40000) (hl : a.length ≤ 1000000) (hf : 3000000 ≤ fu) : M_zsqf_wrong fu a = some (wrE a) := by
  unfold M_zsqf_wrong wrE
  rw [bd_t (M_zpoly_Norm_eq ha (by omega) hl hf), show nzp a.length (cf a) = nrm a from rfl]
  by_cases h0 : (nrm a).length = 0
  · rw [if_pos (by omega), if_pos h0]
  · rw [if_neg (by omega), if_neg h0]
    by_cases h1 : 65 < (nrm a).length
    · rw [if_pos (by omega), if_pos h1]
    · rw [if_neg (by omega), if_neg h1]
theorem M_ref12_Wrong_eq {fu K : Nat} {a : List Zr} (ha : OkP K a) (hK : K ≤ 40000) (hl : a.length ≤ 1000000) (hf : 3000000 ≤ fu) : M_ref12_Wrong fu a = some (wrE a) := by
  unfold M_ref12_Wrong wrE
  rw [bd_t (M_ref10_Norm_eq ha (by omega) hl hf), show nzp a.length (cf a) = nrm a from rfl]
  by_cases h0 : (nrm a).length = 0
  · rw [if_pos (by omega), if_pos h0]
  · rw [if_neg (by omega), if_neg h0]
    by_cases h1 : 65 < (nrm a).length
    · rw [if_pos (by omega), if_pos h1]
    · rw [if_neg (by omega), if_neg h1]
/-- the sum of squares -/
def sqS (f : Nat → Int) (n : Nat) : Int := sumN n (fun k => f k * f k)
theorem sq_nonneg (x : Int) : 0 ≤ x * x := by
  rcases Int.le_total 0 x with h | h
  · exact Int.mul_nonneg h h
  · exact Int.mul_nonneg_of_nonpos_of_nonpos h h
theorem sqS_nonneg (f : Nat → Int) : ∀ n, 0 ≤ sqS f n
  | 0 => Int.le_refl _
  | n + 1 => Int.add_nonneg (sqS_nonneg f n) (sq_nonneg _)
theorem sqS_bz {K : Nat} {f : Nat → Int} (h : ∀ k, Bz K (f k)) : ∀ n, n ≤ 18446744073709551615 → Bz (K + K + 1) (sqS f n) := by
  have h1 : ∀ n : Nat, (sqS f n).natAbs ≤ n * 18446744073709551616 ^ (K + K) := by
    intro n
    induction n with
    | zero => exact Nat.zero_le _
    | succ n ih =>
      have h2 : (sqS f (n + 1)).natAbs ≤ (sqS f n).natAbs + (f n * f n).natAbs := Int.natAbs_add_le _ _
      have h3 := (h n).mul (h n)
      unfold Bz at h3
      rw [Nat.add_mul, Nat.one_mul]
      omega
  intro n hn
  unfold Bz
  have h2 := h1 n
  have hp : 0 < 18446744073709551616 ^ (K + K) := Nat.pow_pos (by decide)
  rw [Nat.pow_succ]
  have h3 : n * 18446744073709551616 ^ (K + K) ≤ 18446744073709551615 * 18446744073709551616 ^ (K + K) := Nat.mul_le_mul_right _ hn
  generalize 18446744073709551616 ^ (K + K) = M at *
  omega
theorem sqS_pos {f : Nat → Int} : ∀ {n}, (∃ k, k < n ∧ f k ≠ 0) → 1 ≤ sqS f n
  | 0, ⟨k, h, _⟩ => absurd h (Nat.not_lt_zero _)
  | n + 1, ⟨k, h, hk⟩ => by
    show 1 ≤ sqS f n + f n * f n
    have h1 := sqS_nonneg f n
    have h2 := sq_nonneg (f n)
    by_cases e : k = n
    · have h3 : f n * f n ≠ 0 := fun e2 => by
        rcases Int.mul_eq_zero.1 e2 with h4 | h4 <;> exact hk (by rw [e]; exact h4)
      omega
    · have := sqS_pos (f := f) (n := n) ⟨k, by omega, hk⟩
      omega
theorem M_zsqf_Bound_ex {fu K : Nat} {a : List Zr} (ha : OkP K a) (hK : K ≤ 300) (hl : a.length ≤ 1000000) (hf : 3000000 ≤ fu) : ∃ y, M_zsqf_Bound fu a = some (y, wrE a) := by
  unfold M_zsqf_Bound
  rw [bd_t (M_zsqf_wrong_eq ha (by omega) hl hf)]
  by_cases h0 : wrE a = 0
  · have hlen : (nrm a).length ≠ 0 ∧ (nrm a).length ≤ 65 := by
      unfold wrE at h0
      split at h0
      · cases h0
      · split at h0
        · cases h0
        · exact ⟨by assumption, by omega⟩
    have hn := nrm_ok ha
    have hsq := fun n hn => sqS_bz (K := K) (f := cf a) ha.bz n hn
    have hpos := sqS_pos (f := cf a) (n := (nrm a).length) ⟨(nrm a).length - 1, by omega, by have := can_top (nrm_can a) hlen.1; rwa [nrm_cf] at this⟩
    have hb0 : ∀ n, n ≤ 18446744073709551615 → Bz (K + K + 1 + 1) (-1 + sqS (cf a) n) := fun n hn => by
      have := (hsq n hn).add (Bz.one (k := K + K + 1) (by omega))
      rwa [Int.add_comm] at this
    rw [if_pos h0, bd_t (M_zpoly_Norm_eq ha (by omega) hl hf), show nzp a.length (cf a) = nrm a from rfl, bd_t (M_zint_Of_eq' (by decide) hf), bd_t (v := (nrm a, (false, []), ofI (-1 + sqS (cf a) (nrm a).length)))]
    · simp only []
      obtain ⟨r, r1, r2⟩ := M_zint_Root_ex (fu := fu) (s := -1 + sqS (cf a) (nrm a).length) (by omega) (hb0 _ (by omega)) (by omega) hf
      have b1 : Bz 1 1 := Bz.one' (Nat.le_refl _)
      have b2 := (r2.add (b1.mono (by omega : 1 ≤ K + K + 1 + 1 + 1))).len
      rw [bd_t r1]
      simp only []
      rw [bd_t (M_zint_Of_eq' (by decide) hf), bd_t (M_zint_Add_eq (r2.ok (by omega)) (b1.ok (by decide)) hf), zv_ofI, zv_ofI, show (((nrm a).length : Nat) : Int) - 1 = (((nrm a).length - 1 : Nat) : Int) by omega, ck64_t ⟨by omega, by omega⟩, bd_t (M_nat_Shl_eq (ofI_limbs _) (by omega) (by omega) (by omega))]
      simp only []
      have h3 : (toL (nv (ofI ((r : Int) + 1)).2 * 2 ^ ((nrm a).length - 1))).length ≤ K + K + 1 + 1 + 1 + 1 + 2 := by
        refine toL_mul_len (j := K + K + 1 + 1 + 1 + 1) (k := 2) ?_ ?_
        · rw [show nv (ofI ((r : Int) + 1)).2 = ((r : Int) + 1).natAbs from nv_toL _]; exact b2
        · refine (toL_length _ _).2 ?_
          exact Nat.lt_of_le_of_lt (Nat.pow_le_pow_right (by decide) (show (nrm a).length - 1 ≤ 64 by omega)) (by decide)
      rw [bd_t (M_zint_Norm_eq' ⟨toL_limbs _, by show (toL _).length ≤ 100000; omega⟩ hf)]
      exact ⟨_, by rw [h0]⟩
    · refine loop_eq (fun s : Int × List Zr × Zr × Zr => ∃ i : Nat, i ≤ (nrm a).length ∧ s = ((i : Int), nrm a, (false, []), ofI (-1 + sqS (cf a) i))) (fun s => (nrm a).length - s.1.toNat) _ ?_ _ _ ⟨0, Nat.zero_le _, rfl⟩ (by show (nrm a).length - 0 < fu; omega)
      rintro s L ⟨i, hi, rfl⟩ ih
      unfold B_zsqf_Bound_0
      simp only []
      by_cases h : i < (nrm a).length
      · have hz := hn.okZ (by omega) i
        have hq := (ha.bz i).mul (ha.bz i)
        rw [if_pos (by omega), bd_t rfl]
        simp only [if_true]
        rw [ckI_n h, nm_t, bd_t (M_zint_Mul_eq' hz hz hf), cf_d, nrm_cf, bd_t (M_zint_Add_eq ((hb0 i (by omega)).ok (by omega)) (hq.ok (by omega)) hf), zv_ofI, zv_ofI, ck64_t ⟨by omega, by omega⟩, show -1 + sqS (cf a) i + cf a i * cf a i = -1 + sqS (cf a) (i + 1) by show _ = -1 + (sqS (cf a) i + cf a i * cf a i); omega]
        exact ih _ ⟨i + 1, by omega, rfl⟩ (by show (nrm a).length - ((i : Int) + 1).toNat < (nrm a).length - (i : Int).toNat; omega)
      · rw [if_neg (by omega), bd_t rfl]
        simp only [Bool.false_eq_true, if_false]
        obtain rfl : i = (nrm a).length := by omega
        rfl
  · rw [if_neg h0]
    exact ⟨_, rfl⟩
end Go.Proofs.YtjnjfinbdfolkaaGreat
end

section
set_option linter.unusedVariables false
set_option linter.unusedSimpArgs false
namespace Go.Proofs.YtjnjfinbdfolkaaGreat
theorem pow_bzK {a : Int} {b n : Nat} (h : bl a.natAbs * n ≤ 64 * b) (d : Nat) (hd : d ≤ n) : Bz (b + 1) (a ^ d) :=
  (toL_length _ _).1 (pow_len (by have := Nat.mul_le_mul_left (bl a.natAbs) hd; omega))
theorem M_short_power_eq {fu n K : Nat} {a : Int} (hn : n ≤ 65536) (hb : ∀ d, d ≤ n → Bz K (a ^ d)) (hK : K ≤ 40000) (hf : 3000000 ≤ fu) : M_short_power fu (ofI a) (n : Int) = some (ofI (a ^ n)) := by
  unfold M_short_power
  rw [bd_t (M_zint_Of_eq' (by decide) hf), bd_t (v := ofI (a ^ n))]
  refine loop_eq (fun s : Int × Zr × Zr => ∃ i d e : Nat, s = ((i : Int), ofI (a ^ d), ofI (a ^ e)) ∧ e + d * i = n ∧ (0 < i → d ≤ n) ∧ 0 < d) (fun s => s.1.toNat) _ ?_ _ _ ⟨n, 1, 0, by simp [Int.pow_succ], by omega, by omega, by omega⟩ (by show ((n : Int)).toNat < fu; omega)
  rintro s L ⟨i, d, e, rfl, he, hd, hd0⟩ ih
  unfold B_short_power_0
  simp only []
  have mul : ∀ p q, p ≤ n → q ≤ n → M_zint_Mul fu (ofI (a ^ p)) (ofI (a ^ q)) = some (ofI (a ^ (p + q))) := by
    intro p q hp hq
    rw [M_zint_Mul_eq' ((hb p hp).ok (by omega)) ((hb q hq).ok (by omega)) hf, zv_ofI, zv_ofI, Int.pow_add]
  by_cases h0 : 0 < i
  · have hd' := hd h0
    have hin : i ≤ n := by
      have := Nat.le_mul_of_pos_left i hd0; omega
    have hdi : d * i = d * (i / 2) * 2 + d * (i % 2) := by
      rw [Nat.mul_assoc, ← Nat.mul_add]; congr 1; omega
    have hdd : 0 < i / 2 → d + d ≤ n := fun h => by
      have h3 : d * 1 ≤ d * (i / 2) := Nat.mul_le_mul_left d (by omega)
      omega
    rw [if_pos (by omega), nm_t, andI_one i (by omega)]
    by_cases h1 : i % 2 = 1
    · rw [if_pos (by omega)]
      rw [h1, Nat.mul_one] at hdi
      rw [bd_t (mul e d (by omega) hd'), bd_t (mul d d hd' hd'), nm_t, half]
      refine ih _ ⟨i / 2, d + d, e + d, rfl, ?_, hdd, by omega⟩ (by show ((i / 2 : Nat) : Int).toNat < ((i : Nat) : Int).toNat; omega)
      rw [Nat.add_mul]; omega
    · rw [if_neg (by omega)]
      rw [show i % 2 = 0 by omega, Nat.mul_zero, Nat.add_zero] at hdi
      rw [bd_t (mul d d hd' hd'), nm_t, half]
      refine ih _ ⟨i / 2, d + d, e, rfl, ?_, hdd, by omega⟩ (by show ((i / 2 : Nat) : Int).toNat < ((i : Nat) : Int).toNat; omega)
      rw [Nat.add_mul]; omega
  · rw [if_neg (by omega)]
    obtain rfl : i = 0 := by omega
    rw [Nat.mul_zero, Nat.add_zero] at he
    rw [he]
theorem M_ref15_power_eq {fu n K : Nat} {a : Int} (hn : n ≤ 65536) (hb : ∀ d, d ≤ n → Bz K (a ^ d)) (h1 : Bz K a) (hK : K ≤ 40000) (hf : 3000000 ≤ fu) : M_ref15_power fu (ofI a) (n : Int) = some (ofI (a ^ n)) := by
  unfold M_ref15_power
  rw [bd_t (M_ref02_Of_eq (by decide) (by omega)), bd_t (v := ofI (a ^ n))]
  refine loop_eq (fun s : Int × Zr => ∃ i : Nat, s = ((i : Int), ofI (a ^ i)) ∧ i ≤ n) (fun s => n - s.1.toNat) _ ?_ _ _ ⟨0, by rw [Int.pow_zero]; rfl, Nat.zero_le _⟩ (by show n - 0 < fu; omega)
  rintro s L ⟨i, rfl, hi⟩ ih
  unfold B_ref15_power_0
  simp only []
  by_cases h : i < n
  · rw [if_pos (by omega), bd_t (M_ref02_Mul_eq' ((hb i hi).ok (by omega)) (h1.ok (by omega)) hf), zv_ofI, zv_ofI, ck64_t ⟨by omega, by omega⟩, ← Int.pow_succ]
    exact ih _ ⟨i + 1, rfl, by omega⟩ (by show n - ((i : Int) + 1).toNat < n - (i : Int).toNat; omega)
  · rw [if_neg (by omega)]
    obtain rfl : i = n := by omega
    rfl
/-- so many ways to choose, step by step -/
def chw (m : Nat) : Nat → Int
  | 0 => 1
  | i + 1 => exI (chw m i * ((m + i + 1 : Nat) : Int)) ((i + 1 : Nat) : Int)
theorem chw_le {m : Nat} (hm : m ≤ 63) : ∀ i, i ≤ m → (chw m i).natAbs ≤ 128 ^ i
  | 0, _ => by show (1 : Int).natAbs ≤ _; decide
  | i + 1, h => by
    have h1 := chw_le hm i (by omega)
    have h2 := exI_le (chw m i * ((m + i + 1 : Nat) : Int)) ((i + 1 : Nat) : Int)
    rw [Int.natAbs_mul, Int.natAbs_natCast] at h2
    have h3 : (chw m i).natAbs * (m + i + 1) ≤ 128 ^ i * 128 := Nat.mul_le_mul h1 (by omega)
    rw [Nat.pow_succ]
    exact Nat.le_trans h2 h3
theorem chw_bz {m i : Nat} (hm : m ≤ 63) (hi : i ≤ m) : Bz 7 (chw m i) := by
  have h1 := chw_le hm i hi
  have h2 : 128 ^ i ≤ 128 ^ 63 := Nat.pow_le_pow_right (by decide) (by omega)
  have h3 : 128 ^ 63 < 18446744073709551616 ^ 7 := by decide
  unfold Bz
  omega
theorem M_short_choose_eq {fu m : Nat} (hm : m ≤ 63) (hf : 3000000 ≤ fu) : M_short_choose fu (m : Int) = some (ofI (chw m m)) := by
  unfold M_short_choose
  rw [bd_t (M_zint_Of_eq' (by decide) hf), bd_t (v := ((false, []), ofI (chw m m)))]
  refine loop_eq (fun s : Int × Zr × Zr => ∃ i : Nat, s = ((i : Int), (false, []), ofI (chw m i)) ∧ i ≤ m) (fun s => m - s.1.toNat) _ ?_ _ _ ⟨0, rfl, Nat.zero_le _⟩ (by show m - 0 < fu; omega)
  rintro s L ⟨i, rfl, hi⟩ ih
  unfold B_short_choose_0
  simp only []
  by_cases h : i < m
  · have hb := chw_bz hm hi
    have b1 : Bz 1 ((m + i + 1 : Nat) : Int) := Bz.nat (by rw [Nat.pow_one]; omega)
    have b2 : Bz 1 ((i + 1 : Nat) : Int) := Bz.nat (by rw [Nat.pow_one]; omega)
    rw [if_pos (by omega), bd_t rfl]
    simp only [if_true]
    rw [ck64_t ⟨by omega, by omega⟩, ck64_t ⟨by omega, by omega⟩, show (m : Int) + (i : Int) + 1 = ((m + i + 1 : Nat) : Int) by omega, bd_t (M_zint_Of_eq' ⟨by omega, by omega⟩ hf), bd_t (M_zint_Mul_eq' (hb.ok (by decide)) (b1.ok (by decide)) hf), zv_ofI, zv_ofI, ck64_t ⟨by omega, by omega⟩, show (i : Int) + 1 = ((i + 1 : Nat) : Int) by omega, bd_t (M_zint_Of_eq' ⟨by omega, by omega⟩ hf), bd_t (M_zint_Exact_eq ((hb.mul b1).okS (by decide)) (b2.okS (by decide)) hf), zv_ofI, zv_ofI]
    simp only []
    rw [ck64_t ⟨by omega, by omega⟩]
    exact ih _ ⟨i + 1, rfl, by omega⟩ (by show m - ((i + 1 : Nat) : Int).toNat < m - (i : Int).toNat; omega)
  · rw [if_neg (by omega), bd_t rfl]
    simp only [Bool.false_eq_true, if_false]
    obtain rfl : i = m := by omega
    rfl
theorem M_ref15_ways_eq {fu m : Nat} (hm : m ≤ 63) (hf : 3000000 ≤ fu) : M_ref15_ways fu (m : Int) = some (ofI (chw m m)) := by
  unfold M_ref15_ways
  rw [bd_t (M_ref02_Of_eq (by decide) (by omega)), bd_t (v := ofI (chw m m))]
  refine loop_eq (fun s : Int × Zr => ∃ i : Nat, s = (((i + 1 : Nat) : Int), ofI (chw m i)) ∧ i ≤ m) (fun s => m + 1 - s.1.toNat) _ ?_ _ _ ⟨0, rfl, Nat.zero_le _⟩ (by show m + 1 - 1 < fu; omega)
  rintro s L ⟨i, rfl, hi⟩ ih
  unfold B_ref15_ways_0
  simp only []
  by_cases h : i < m
  · have hb := chw_bz hm hi
    have b1 : Bz 1 ((m + i + 1 : Nat) : Int) := Bz.nat (by rw [Nat.pow_one]; omega)
    have b2 : Bz 1 ((i + 1 : Nat) : Int) := Bz.nat (by rw [Nat.pow_one]; omega)
    rw [if_pos (by omega), ck64_t ⟨by omega, by omega⟩, show (m : Int) + ((i + 1 : Nat) : Int) = ((m + i + 1 : Nat) : Int) by omega, bd_t (M_ref02_Of_eq ⟨by omega, by omega⟩ (by omega)), bd_t (M_ref02_Mul_eq' (hb.ok (by decide)) (b1.ok (by decide)) hf), zv_ofI, zv_ofI, bd_t (M_ref02_Of_eq ⟨by omega, by omega⟩ (by omega)), bd_t (M_ref02_Exact_eq ((hb.mul b1).okS (by decide)) (b2.okS (by decide)) hf), zv_ofI, zv_ofI]
    simp only []
    rw [ck64_t ⟨by omega, by omega⟩]
    exact ih _ ⟨i + 1, rfl, by omega⟩ (by show m + 1 - (((i + 1 : Nat) : Int) + 1).toNat < m + 1 - ((i + 1 : Nat) : Int).toNat; omega)
  · rw [if_neg (by omega)]
    obtain rfl : i = m := by omega
    rfl
theorem M_short_square_eq {fu K : Nat} {a : List Zr} (ha : OkP K a) (hK : K ≤ 1000) (hl : a.length ≤ 1000000) (hf : 3000000 ≤ fu) : M_short_square fu a = some (ofI (sqS (cf a) a.length)) := by
  unfold M_short_square M_lattice_Dot M_lattice_dot
  rw [if_pos rfl, bd_t (M_zint_Of_eq' (by decide) hf), bd_t (v := ((false, []), ofI (sqS (cf a) a.length)))]
  · rfl
  · refine loop_eq (fun s : Int × Zr × Zr => ∃ i : Nat, s = ((i : Int), (false, []), ofI (sqS (cf a) i)) ∧ i ≤ a.length) (fun s => a.length - s.1.toNat) _ ?_ _ _ ⟨0, rfl, Nat.zero_le _⟩ (by show a.length - 0 < fu; omega)
    rintro s L ⟨i, rfl, hi⟩ ih
    unfold B_lattice_dot_0
    simp only []
    by_cases h : i < a.length
    · have hz := ha.okZ (by omega) i
      have hq := (ha.bz i).mul (ha.bz i)
      have hs := sqS_bz ha.bz i (by omega)
      rw [if_pos (by omega), bd_t rfl]
      simp only [if_true]
      rw [ckI_n h, nm_t, ckI_n h, nm_t, bd_t (M_zint_Mul_eq' hz hz hf), cf_d, bd_t (M_zint_Add_eq (hs.ok (by omega)) (hq.ok (by omega)) hf), zv_ofI, zv_ofI, ck64_t ⟨by omega, by omega⟩]
      exact ih _ ⟨i + 1, rfl, by omega⟩ (by show a.length - ((i : Int) + 1).toNat < a.length - (i : Int).toNat; omega)
    · rw [if_neg (by omega), bd_t rfl]
      simp only [Bool.false_eq_true, if_false]
      obtain rfl : i = a.length := by omega
      rfl
theorem ref15_square {fu K : Nat} {a : List Zr} (ha : OkP K a) (hK : K ≤ 1000) (hl : a.length ≤ 1000000) (hf : 3000000 ≤ fu) : loopN (B_ref15_Need_0 fu a) fu (0, ofI 0) = some (ofI (sqS (cf a) a.length)) := by
  refine loop_eq (fun s : Int × Zr => ∃ i : Nat, s = ((i : Int), ofI (sqS (cf a) i)) ∧ i ≤ a.length) (fun s => a.length - s.1.toNat) _ ?_ _ _ ⟨0, rfl, Nat.zero_le _⟩ (by show a.length - 0 < fu; omega)
  rintro s L ⟨i, rfl, hi⟩ ih
  unfold B_ref15_Need_0
  simp only []
  by_cases h : i < a.length
  · have hz := ha.okZ (by omega) i
    have hq := (ha.bz i).mul (ha.bz i)
    have hs := sqS_bz ha.bz i (by omega)
    rw [if_pos (by omega), ckI_n h, nm_t, ckI_n h, nm_t, bd_t (M_ref02_Mul_eq' hz hz hf), cf_d, bd_t (M_ref02_Add_eq (hs.ok (by omega)) (hq.ok (by omega)) hf), zv_ofI, zv_ofI, ck64_t ⟨by omega, by omega⟩]
    exact ih _ ⟨i + 1, rfl, by omega⟩ (by show a.length - ((i : Int) + 1).toNat < a.length - (i : Int).toNat; omega)
  · rw [if_neg (by omega)]
    obtain rfl : i = a.length := by omega
    rfl
/-- the first power above a number -/
def ndF (most step : Int) : Nat → Nat → Unit ⊕ Int
  | 0, _ => .inl ()
  | f + 1, k => if most < step ^ k then .inr (k : Int) else ndF most step f (k + 1)
theorem need_loop1 {fu K J : Nat} {most step : Int} (hm : Bz K most) (hs : Bz J step) (h0 : 0 ≤ step) (hK : K + J ≤ 40000) (hf : 3000000 ≤ fu) : loopN (B_short_Need_0 fu (ofI most) (ofI step)) fu (1, ofI step) = some (ndF most step 1000 1) := by
  obtain ⟨R, hR⟩ : ∃ R, R = ndF most step 1000 1 := ⟨_, rfl⟩
  rw [← hR]
  refine loop_eq (fun s : Int × Zr => ∃ k : Nat, s = ((k : Int), ofI (step ^ k)) ∧ 1 ≤ k ∧ k ≤ 1001 ∧ Bz (K + J) (step ^ k) ∧ ndF most step (1001 - k) k = R) (fun s => 1001 - s.1.toNat) _ ?_ _ _ ⟨1, by rw [Int.pow_succ, Int.pow_zero, Int.one_mul]; rfl, by decide, by decide, by rw [Int.pow_succ, Int.pow_zero, Int.one_mul]; exact hs.mono (by omega), hR.symm⟩ (by show 1001 - 1 < fu; omega)
  rintro s L ⟨k, rfl, h1, h2, hb, he⟩ ih
  unfold B_short_Need_0
  simp only []
  by_cases h : k ≤ 1000
  · have hbl := hb.len
    have hml := hm.len
    rw [if_pos (by omega), bd_t (M_zint_Cmp_eq (hb.ok (by omega)) (hm.ok (by omega)) hf (by omega) (by omega)), zv_ofI, zv_ofI]
    rw [show 1001 - k = (1000 - k) + 1 by omega] at he
    unfold ndF at he
    by_cases h3 : most < step ^ k
    · rw [if_pos (cmpI_pos.2 h3)]
      rw [if_pos h3] at he
      rw [← he]
    · rw [if_neg (fun e => h3 (cmpI_pos.1 e)), bd_t (M_zint_Mul_eq' (hb.ok (by omega)) (hs.ok (by omega)) hf), zv_ofI, zv_ofI, ck64_t ⟨by omega, by omega⟩, ← Int.pow_succ]
      rw [if_neg h3] at he
      have hp : 0 ≤ step ^ k := Int.pow_nonneg h0
      exact ih _ ⟨k + 1, rfl, by omega, by omega, by rw [Int.pow_succ]; exact (hm.le (by omega)).mul hs, by rw [← he]; congr 1; omega⟩ (by show 1001 - ((k : Int) + 1).toNat < 1001 - (k : Int).toNat; omega)
  · rw [if_neg (by omega)]
    obtain rfl : k = 1001 := by omega
    rw [← he]
    rfl
theorem need_loop2 {fu K J : Nat} {most step : Int} (hm : Bz K most) (hs : Bz J step) (h0 : 0 ≤ step) (hK : K + J ≤ 40000) (hf : 3000000 ≤ fu) : loopN (B_ref15_Need_1 fu (ofI most) (ofI step)) fu (1, ofI step) = some (ndF most step 1000 1) := by
  obtain ⟨R, hR⟩ : ∃ R, R = ndF most step 1000 1 := ⟨_, rfl⟩
  rw [← hR]
  refine loop_eq (fun s : Int × Zr => ∃ k : Nat, s = ((k : Int), ofI (step ^ k)) ∧ 1 ≤ k ∧ k ≤ 1001 ∧ Bz (K + J) (step ^ k) ∧ ndF most step (1001 - k) k = R) (fun s => 1001 - s.1.toNat) _ ?_ _ _ ⟨1, by rw [Int.pow_succ, Int.pow_zero, Int.one_mul]; rfl, by decide, by decide, by rw [Int.pow_succ, Int.pow_zero, Int.one_mul]; exact hs.mono (by omega), hR.symm⟩ (by show 1001 - 1 < fu; omega)
  rintro s L ⟨k, rfl, h1, h2, hb, he⟩ ih
  unfold B_ref15_Need_1
  simp only []
  by_cases h : k ≤ 1000
  · have hbl := hb.len
    have hml := hm.len
    rw [if_pos (by omega), bd_t (M_ref02_Cmp_eq (hb.ok (by omega)) (hm.ok (by omega)) hf (by omega) (by omega)), zv_ofI, zv_ofI]
    rw [show 1001 - k = (1000 - k) + 1 by omega] at he
    unfold ndF at he
    by_cases h3 : most < step ^ k
    · rw [if_pos (cmpI_pos.2 h3)]
      rw [if_pos h3] at he
      rw [← he]
    · rw [if_neg (fun e => h3 (cmpI_pos.1 e)), bd_t (M_ref02_Mul_eq' (hb.ok (by omega)) (hs.ok (by omega)) hf), zv_ofI, zv_ofI, ck64_t ⟨by omega, by omega⟩, ← Int.pow_succ]
      rw [if_neg h3] at he
      have hp : 0 ≤ step ^ k := Int.pow_nonneg h0
      exact ih _ ⟨k + 1, rfl, by omega, by omega, by rw [Int.pow_succ]; exact (hm.le (by omega)).mul hs, by rw [← he]; congr 1; omega⟩ (by show 1001 - ((k : Int) + 1).toNat < 1001 - (k : Int).toNat; omega)
  · rw [if_neg (by omega)]
    obtain rfl : k = 1001 := by omega
    rw [← he]
    rfl
theorem wrE_zero {a : List Zr} (h : wrE a = 0) : 1 ≤ (nrm a).length ∧ (nrm a).length ≤ 65 := by
  unfold wrE at h
  split at h
  · cases h
  · split at h
    · cases h
    · omega
theorem good_same {fu : Nat} {a : List Zr} {p : Int} (ha : OkP 2 a) (hl : a.length ≤ 200) (hf : 3000300 ≤ fu) : ∃ b e, M_short_Good fu a p = some (b, e) ∧ M_ref15_Good fu a p = some (b, e) := by
  unfold M_short_Good M_ref15_Good
  obtain ⟨y, y1⟩ := M_zsqf_Bound_ex (fu := fu) ha (by decide) (by omega) (by omega)
  rw [bd_t y1, bd_t (M_ref12_Wrong_eq ha (by decide) (by omega) (by omega))]
  simp only []
  by_cases h0 : wrE a = 0
  · rw [if_pos h0, if_pos h0, bd_t (M_prime_Is_eq (by omega)), bd_t (M_ref04_Is_eq (by omega))]
    cases hp : prm p with
    | false => exact ⟨false, 0, by rw [if_pos (by decide)], by rw [if_pos (by decide)]⟩
    | true =>
      obtain ⟨p1, p2⟩ := prm_rng hp
      have hzl := zmod_le p a
      rw [if_neg (by decide), if_neg (by decide), bd_t (M_zpoly_Mod_eq ha (by decide) (by omega) p2 (by omega) (by omega)), bd_t (M_ref10_Mod_eq ha (by decide) (by omega) p2 (by omega) (by omega))]
      simp only []
      rw [bd_t (M_zpoly_Norm_eq ha (by decide) (by omega) (by omega)), bd_t (M_ref10_Norm_eq ha (by decide) (by omega) (by omega))]
      by_cases h1 : (zmod p a).length = (nzp a.length (cf a)).length
      · obtain ⟨b, e, b1, b2⟩ := sqf_same (fu := fu) hp (zmod_fp (p := p) (by omega) a) (by omega) (by omega)
        rw [if_pos (by omega), if_pos (by omega), bd_t b1, bd_t b2]
        exact ⟨b, 0, rfl, rfl⟩
      · rw [if_neg (by omega), if_neg (by omega)]
        exact ⟨false, 0, rfl, rfl⟩
  · rw [if_neg h0, if_neg h0]
    exact ⟨false, wrE a, rfl, rfl⟩
/-- which power is needed, or why there is none -/
noncomputable def needR (a : List Zr) (p l : Int) : Int × Int :=
  if wrE a = 0 then (if prm p = true then (if l < 1 then (0, 1) else if (((nrm a).length - 1 : Nat) : Int) < l then (0, 1) else
    match ndF (2 ^ (((nrm a).length - 2) * ((nrm a).length - 1)) * (chw ((nrm a).length - 2) ((nrm a).length - 2) ^ ((nrm a).length - 1) * sqS (cf (primP a)) (nrm a).length ^ ((nrm a).length - 2 + ((nrm a).length - 1)))) (p ^ (2 * l.toNat)) 1000 1 with
    | .inl _ => (0, 6)
    | .inr i => (i, 0)) else (0, 1)) else (0, wrE a)
theorem M_short_Need_eq {fu : Nat} {a : List Zr} {p l : Int} (ha : OkP 2 a) (hl : a.length ≤ 200) (hf : 3000300 ≤ fu) : M_short_Need fu a p l = some (needR a p l) := by
  unfold M_short_Need needR
  obtain ⟨y, y1⟩ := M_zsqf_Bound_ex (fu := fu) ha (by decide) (by omega) (by omega)
  rw [bd_t y1]
  simp only []
  by_cases h0 : wrE a = 0
  · obtain ⟨n1, n2⟩ := wrE_zero h0
    have hpl := primP_len a
    have hpo := primP_ok ha
    obtain ⟨n, hn⟩ : ∃ n, (nrm a).length = n + 1 := ⟨(nrm a).length - 1, by omega⟩
    rw [if_pos h0, if_pos h0, bd_t (M_zpoly_Prim_eq ha (by decide) (by omega) (by omega)), hpl, hn, show ((n + 1 : Nat) : Int) - 1 = (n : Int) by omega, ck64_t ⟨by omega, by omega⟩, bd_t (M_prime_Is_eq (by omega)), show n + 1 - 1 = n by omega]
    cases hp : prm p with
    | false => rw [if_pos (by decide), if_neg (by decide)]
    | true =>
      obtain ⟨p1, p2⟩ := prm_rng hp
      rw [if_neg (by decide), if_pos rfl]
      by_cases h1 : l < 1
      · rw [if_pos h1, if_pos h1]
      · rw [if_neg h1, if_neg h1]
        by_cases h2 : (n : Int) < l
        · rw [if_pos h2, if_pos h2]
        · rw [if_neg h2, if_neg h2]
          obtain ⟨m, rfl⟩ : ∃ m, n = m + 1 := ⟨n - 1, by omega⟩
          obtain ⟨L, rfl⟩ := Int.eq_ofNat_of_zero_le (show 0 ≤ l by omega)
          have hmn : m * (m + 1) ≤ 63 * 64 := Nat.mul_le_mul (by omega) (by omega)
          have bl2 : bl (2 : Int).natAbs = 2 := by decide
          have b2 := fun d hd => pow_bzK (a := 2) (b := 126) (n := m * (m + 1)) (by rw [bl2]; omega) d hd
          have bc := chw_bz (m := m) (i := m) (by omega) (Nat.le_refl _)
          have bcl := bl_K bc
          have bcn : bl (chw m m).natAbs * (m + 1) ≤ 448 * 64 := Nat.mul_le_mul bcl (by omega)
          have b3 := fun d hd => pow_bzK (a := chw m m) (b := 448) (n := m + 1) (by omega) d hd
          have bq := sqS_bz hpo.bz (primP a).length (by omega)
          have bql := bl_K bq
          have bqn : bl (sqS (cf (primP a)) (primP a).length).natAbs * (m + (m + 1)) ≤ 320 * 127 := Nat.mul_le_mul bql (by omega)
          have b4 := fun d hd => pow_bzK (a := sqS (cf (primP a)) (primP a).length) (b := 635) (n := m + (m + 1)) (by omega) d hd
          have bp : bl p.natAbs ≤ 16 := bl_le (by omega)
          have bpn : bl p.natAbs * (2 * L) ≤ 16 * 128 := Nat.mul_le_mul bp (by omega)
          have b5 := fun d hd => pow_bzK (a := p) (b := 32) (n := 2 * L) (by omega) d hd
          have bp1 : Bz 1 p := by unfold Bz; omega
          have m1 := (b3 _ (Nat.le_refl _)).mul (b4 _ (Nat.le_refl _))
          have m2 := (b2 _ (Nat.le_refl _)).mul m1
          have hstep : 0 ≤ p ^ (2 * L) := Int.pow_nonneg (by omega)
          have e1 : ((m + 1 : Nat) : Int) - 1 = (m : Int) := by omega
          have e2 : (m : Int) * ((m + 1 : Nat) : Int) = ((m * (m + 1) : Nat) : Int) := (Int.natCast_mul _ _).symm
          have e3 : (m : Int) + ((m + 1 : Nat) : Int) = ((m + (m + 1) : Nat) : Int) := by omega
          have e4 : (2 : Int) * (L : Int) = ((2 * L : Nat) : Int) := by omega
          have e5 : m + 1 + 1 - 2 = m := by omega
          rw [e5, Int.toNat_natCast]
          rw [e1, ck64_t ⟨by omega, by omega⟩, bd_t (M_zint_Of_eq' (by decide) (by omega)), e2, ck64_t ⟨by omega, by omega⟩, bd_t (M_short_power_eq (by omega) b2 (by decide) (by omega)), bd_t (M_short_choose_eq (by omega) (by omega)), bd_t (M_short_power_eq (by omega) b3 (by decide) (by omega)), bd_t (M_short_square_eq hpo (by decide) (by omega) (by omega)), e3, ck64_t ⟨by omega, by omega⟩, bd_t (M_short_power_eq (by omega) b4 (by decide) (by omega)), bd_t (M_zint_Mul_eq' ((b3 _ (Nat.le_refl _)).ok (by decide)) ((b4 _ (Nat.le_refl _)).ok (by decide)) (by omega)), zv_ofI, zv_ofI, bd_t (M_zint_Mul_eq' ((b2 _ (Nat.le_refl _)).ok (by decide)) (m1.ok (by decide)) (by omega)), zv_ofI, zv_ofI, bd_t (M_zint_Of_eq' ⟨by omega, by omega⟩ (by omega)), e4, ck64_t ⟨by omega, by omega⟩, bd_t (M_short_power_eq (by omega) b5 (by decide) (by omega)), bd_t (need_loop1 m2 (b5 _ (Nat.le_refl _)) hstep (by decide) (by omega))]
          rw [hpl, hn]
          cases ndF (2 ^ (m * (m + 1)) * (chw m m ^ (m + 1) * sqS (cf (primP a)) (m + 1 + 1) ^ (m + (m + 1)))) (p ^ (2 * L)) 1000 1 with
          | inl _ => rfl
          | inr i => rfl
  · rw [if_neg h0, if_neg h0]
theorem M_ref15_Need_eq {fu : Nat} {a : List Zr} {p l : Int} (ha : OkP 2 a) (hl : a.length ≤ 200) (hf : 3000300 ≤ fu) : M_ref15_Need fu a p l = some (needR a p l) := by
  unfold M_ref15_Need needR
  rw [bd_t (M_ref12_Wrong_eq ha (by decide) (by omega) (by omega))]
  by_cases h0 : wrE a = 0
  · obtain ⟨n1, n2⟩ := wrE_zero h0
    have hpl := primP_len a
    have hpo := primP_ok ha
    obtain ⟨n, hn⟩ : ∃ n, (nrm a).length = n + 1 := ⟨(nrm a).length - 1, by omega⟩
    rw [if_pos h0, if_pos h0, bd_t (M_ref10_Norm_eq ha (by decide) (by omega) (by omega)), show nzp a.length (cf a) = nrm a from rfl, hn, show ((n + 1 : Nat) : Int) - 1 = (n : Int) by omega, ck64_t ⟨by omega, by omega⟩, bd_t (M_ref04_Is_eq (by omega)), show n + 1 - 1 = n by omega]
    cases hp : prm p with
    | false => rw [if_pos (by decide), if_neg (by decide)]
    | true =>
      obtain ⟨p1, p2⟩ := prm_rng hp
      rw [if_neg (by decide), if_pos rfl]
      by_cases h1 : l < 1
      · rw [if_pos h1, if_pos h1]
      · rw [if_neg h1, if_neg h1]
        by_cases h2 : (n : Int) < l
        · rw [if_pos h2, if_pos h2]
        · rw [if_neg h2, if_neg h2]
          obtain ⟨m, rfl⟩ : ∃ m, n = m + 1 := ⟨n - 1, by omega⟩
          obtain ⟨L, rfl⟩ := Int.eq_ofNat_of_zero_le (show 0 ≤ l by omega)
          have hmn : m * (m + 1) ≤ 63 * 64 := Nat.mul_le_mul (by omega) (by omega)
          have bl2 : bl (2 : Int).natAbs = 2 := by decide
          have b2 := fun d hd => pow_bzK (a := 2) (b := 126) (n := m * (m + 1)) (by rw [bl2]; omega) d hd
          have bc := chw_bz (m := m) (i := m) (by omega) (Nat.le_refl _)
          have bcl := bl_K bc
          have bcn : bl (chw m m).natAbs * (m + 1) ≤ 448 * 64 := Nat.mul_le_mul bcl (by omega)
          have b3 := fun d hd => pow_bzK (a := chw m m) (b := 448) (n := m + 1) (by omega) d hd
          have bq := sqS_bz hpo.bz (primP a).length (by omega)
          have bql := bl_K bq
          have bqn : bl (sqS (cf (primP a)) (primP a).length).natAbs * (m + (m + 1)) ≤ 320 * 127 := Nat.mul_le_mul bql (by omega)
          have b4 := fun d hd => pow_bzK (a := sqS (cf (primP a)) (primP a).length) (b := 635) (n := m + (m + 1)) (by omega) d hd
          have bp : bl p.natAbs ≤ 16 := bl_le (by omega)
          have bpn : bl p.natAbs * (2 * L) ≤ 16 * 128 := Nat.mul_le_mul bp (by omega)
          have b5 := fun d hd => pow_bzK (a := p) (b := 32) (n := 2 * L) (by omega) d hd
          have bp1 : Bz 1 p := by unfold Bz; omega
          have m1 := (b3 _ (Nat.le_refl _)).mul (b4 _ (Nat.le_refl _))
          have m2 := (b2 _ (Nat.le_refl _)).mul m1
          have hstep : 0 ≤ p ^ (2 * L) := Int.pow_nonneg (by omega)
          have e1 : ((m + 1 : Nat) : Int) - 1 = (m : Int) := by omega
          have e2 : (m : Int) * ((m + 1 : Nat) : Int) = ((m * (m + 1) : Nat) : Int) := (Int.natCast_mul _ _).symm
          have e3 : (m : Int) + ((m + 1 : Nat) : Int) = ((m + (m + 1) : Nat) : Int) := by omega
          have e4 : (2 : Int) * (L : Int) = ((2 * L : Nat) : Int) := by omega
          have e5 : m + 1 + 1 - 2 = m := by omega
          rw [e5, Int.toNat_natCast]
          rw [bd_t (M_ref10_Prim_eq ha (by decide) (by omega) (by omega)), bd_t (M_ref02_Of_eq (by decide) (by omega)), bd_t (ref15_square hpo (by decide) (by omega) (by omega)), e1, ck64_t ⟨by omega, by omega⟩, bd_t (M_ref02_Of_eq (by decide) (by omega)), e2, ck64_t ⟨by omega, by omega⟩, bd_t (M_ref15_power_eq (by omega) b2 (by unfold Bz; decide) (by decide) (by omega)), bd_t (M_ref15_ways_eq (by omega) (by omega)), bd_t (M_ref15_power_eq (by omega) b3 (bc.mono (by decide)) (by decide) (by omega)), e3, ck64_t ⟨by omega, by omega⟩, bd_t (M_ref15_power_eq (by omega) b4 (bq.mono (by decide)) (by decide) (by omega)), bd_t (M_ref02_Mul_eq' ((b3 _ (Nat.le_refl _)).ok (by decide)) ((b4 _ (Nat.le_refl _)).ok (by decide)) (by omega)), zv_ofI, zv_ofI, bd_t (M_ref02_Mul_eq' ((b2 _ (Nat.le_refl _)).ok (by decide)) (m1.ok (by decide)) (by omega)), zv_ofI, zv_ofI, bd_t (M_ref02_Of_eq ⟨by omega, by omega⟩ (by omega)), e4, ck64_t ⟨by omega, by omega⟩, bd_t (M_ref15_power_eq (by omega) b5 (bp1.mono (by decide)) (by decide) (by omega)), bd_t (need_loop2 m2 (b5 _ (Nat.le_refl _)) hstep (by decide) (by omega))]
          rw [hpl, hn]
          cases ndF (2 ^ (m * (m + 1)) * (chw m m ^ (m + 1) * sqS (cf (primP a)) (m + 1 + 1) ^ (m + (m + 1)))) (p ^ (2 * L)) 1000 1 with
          | inl _ => rfl
          | inr i => rfl
  · rw [if_neg h0, if_neg h0]
end Go.Proofs.YtjnjfinbdfolkaaGreat
end

section
set_option linter.unusedVariables false
set_option linter.unusedSimpArgs false
namespace Go.Proofs.YtjnjfinbdfolkaaGreat
set_option maxRecDepth 100000 in
theorem law15_awake : M_law15_awake 4000000 = some true := by decide +kernel
theorem M_law15_small_eq {fu c k : Nat} {a : List Zr} (hc : c ≤ 1000) (hf : 3000000 ≤ fu) : M_law15_small fu (c : Int) (k : Int) a = some (decide (SmallP c k a)) := by
  unfold M_law15_small
  by_cases h0 : c < a.length
  · rw [if_pos (by omega), decide_eq_false fun e => by have := e.1; omega]
  · rw [if_neg (by omega), bd_t (v := if ∀ z ∈ a, z.2.length ≤ k then .inl () else .inr ())]
    · by_cases h : ∀ z ∈ a, z.2.length ≤ k
      · rw [if_pos h, decide_eq_true (show SmallP c k a from ⟨by omega, h⟩)]
      · rw [if_neg h, decide_eq_false fun e : SmallP c k a => h e.2]
    · refine loop_eq (fun s : Int => ∃ j : Nat, s = (j : Int) ∧ j ≤ a.length ∧ ∀ t, t < j → (a.getD t (false, [])).2.length ≤ k) (fun s => a.length - s.toNat) _ ?_ _ _ ⟨0, rfl, Nat.zero_le _, fun t h => absurd h (Nat.not_lt_zero _)⟩ (by show a.length - 0 < fu; omega)
      rintro s L ⟨j, rfl, hj, he⟩ ih
      unfold B_law15_small_0
      by_cases h1 : j < a.length
      · rw [if_pos (by omega), ckI_n h1, nm_t]
        by_cases h2 : k < (a.getD j (false, [])).2.length
        · rw [if_pos (by omega), if_neg (fun e => by have := e _ (getD_memz h1); omega)]
        · rw [if_neg (by omega), ck64_t ⟨by omega, by omega⟩]
          refine ih _ ⟨j + 1, rfl, by omega, fun t h => ?_⟩ (by omega)
          by_cases h3 : t = j
          · rw [h3]; omega
          · exact he t (by omega)
      · rw [if_neg (by omega), if_pos (all_getD fun t h => he t (by omega))]
theorem short_needs (a : List Zr) (p l : Int) (ha : (Ty.l (.p .b (.l .u))).ok a) : M_law15_ShortNeeds 4000000 a p l = some true := by
  obtain ⟨fu, hfu⟩ : ∃ fu, fu = 4000000 := ⟨_, rfl⟩
  have haw := law15_awake
  rw [← hfu] at haw ⊢
  have hf : 3000000 ≤ fu := by omega
  unfold M_law15_ShortNeeds
  rw [bd_t haw]
  have hsm : M_law15_small fu 100 2 a = some (decide (SmallP 100 2 a)) := M_law15_small_eq (c := 100) (k := 2) (by decide) hf
  rw [bd_t hsm]
  by_cases hs : SmallP 100 2 a
  · have pa := ok_poly ha hs.2
    have la := hs.1
    obtain ⟨b, e, b1, b2⟩ := good_same (fu := fu) (p := p) pa (by omega) (by omega)
    have main : (bd (M_short_Good fu a p) fun (c3, x1) => bd (M_ref15_Good fu a p) fun (c4, x2) => bd (M_short_Need fu a p l) fun (x3, x4) => bd (M_ref15_Need fu a p l) fun (x5, x6) =>
        if true = true then if x1 = x2 then nm (c3 == c4) fun c5 => if c5 = true then if x4 = x6 then if x3 = x5 then some true else some false else some false else some false else some false else some false) = some true := by
      rw [bd_t b1]
      simp only []
      rw [bd_t b2]
      simp only []
      rw [bd_t (M_short_Need_eq pa (by omega) (by omega)), bd_t (M_ref15_Need_eq pa (by omega) (by omega))]
      rw [if_pos rfl, if_pos rfl, nm_t, beq_self_eq_true, if_pos rfl, if_pos trivial, if_pos trivial]
    rw [decide_eq_true hs, if_neg (by decide)]
    by_cases h9 : 9 < a.length
    · rw [if_pos (by omega)]
      by_cases h66 : a.length < 66
      · rw [if_pos (by omega)]
        rfl
      · rw [if_neg (by omega)]
        exact main
    · rw [if_neg (by omega)]
      exact main
  · rw [decide_eq_false hs, if_pos (by decide)]
    rfl
end Go.Proofs.YtjnjfinbdfolkaaGreat
end

section
namespace Go.Proofs.YtjnjfinbdfolkaaGreat.shortNeeds
open Go.ChangeShapes Go.WideShapes Go.ChangeAt Go.RowKit
set_option linter.unusedVariables false
theorem own : ownKnob Tryz.prog.godebug = none := by kernel_rfl
theorem atW : TyAt Tryz.prog .u 102 := id (by kernel_rfl : Tryz.prog.underlying 102 = some (.int .u64))
theorem atB : TyAt Tryz.prog .b 4 := id (by kernel_rfl : Tryz.prog.underlying 4 = some .bool)
theorem atL : TyAt Tryz.prog (.l .u) 23 := TyAt.sl (E := 102) (by kernel_rfl) (by kernel_rfl) (by decide) atW
theorem atZ : TyAt Tryz.prog (.p .b (.l .u)) 25 := TyAt.st (A := 4) (B := 23) (by kernel_rfl) (by kernel_rfl) (by kernel_rfl) (by kernel_rfl) atB atL
theorem atP : TyAt Tryz.prog (.l (.p .b (.l .u))) 31 := TyAt.sl (E := 25) (by kernel_rfl) (by kernel_rfl) (by decide) atZ
theorem atI : TyAt Tryz.prog .i 3 := id (by kernel_rfl : Tryz.prog.underlying 3 = some (.int .i64))
set_option maxRecDepth 100000 in
theorem lifted (os : Os) (started : os.Started) (H : Type) (enc : TypeId × Value → H) :
    ReturnsInHanded {} Tryz.checked os 6 .any (Rows.shortNeedsSpec.pre6 enc Tryz.prog Tryz.f6 Rows.shortNeedsRow.domain false) (Rows.shortNeedsSpec.post enc Tryz.prog Tryz.f6 false true false false) := by
  refine returnsInHanded_of_change (C := Tryz.checked) own started (by kernel_rfl) Tryz.func6
    (ChangeSpec.witness6 (enc := enc) (C := Tryz.checked) false ⟨#[], #[.slice none 0 0, .int .i64 0, .int .i64 0], []⟩ 8 (by kernel_rfl) (by kernel_rfl) (by kernel_rfl) (by kernel_rfl)) ?_
  intro W base args ds gs before hval0 hW hcnd _
  have hval : ∀ (j : Nat) t v, Tryz.f6.params[j]? = some t → args[j]? = some v → Value.okWide Tryz.prog W .any base t v := hval0
  have hW' := hW
  obtain ⟨p, q, hA0, hV, _, _, _⟩ := hW
  have hA : DataW.TrodAll enc Tryz.prog W 0 (fun _ => true) true Tryz.f6.params.toList args.toList ds p := hA0
  rw [Tryz.params6] at hA
  obtain ⟨v0, vs0, d0, ds0, p0, q0, hargs, rfl, _, _, r0⟩ := trodAll_cons hA
  obtain ⟨v1, vs1, d1, ds1, p1, q1, _, rfl, _, _, r1⟩ := trodAll_cons r0
  obtain ⟨v2, vs2, d2, ds2, p2, q2, _, rfl, _, _, r2⟩ := trodAll_cons r1
  obtain ⟨_, rfl, _⟩ := trodAll_nil r2
  obtain ⟨rfl, _⟩ := trodVars_none hV
  exact law_end (sg := s_law15_ShortNeeds 4000000) hW' rfl hval (by kernel_rfl) (by rw [Tryz.params6]; decide +kernel) (by rw [Tryz.params6]; exact ⟨atP, atI, atI, trivial⟩) rfl (g_law15_ShortNeeds 4000000)
    (fun x hx => short_needs x.1 x.2.1 x.2.2.1 hx.1) (B := 4) (by kernel_rfl) Tryz.underlying4 rfl
theorem over : Rows.shortNeedsRow.holds Tryz.pinned (OpenSpec.ofChange Rows.shortNeedsSpec) :=
  OpenClaim.holds_of_wide 6 Tryz.f6 rfl rfl rfl rfl rfl rfl rfl ⟨rfl, rfl, rfl, rfl, rfl⟩ rfl rfl rfl rfl rfl (by kernel_rfl) Tryz.func6 (by kernel_rfl)
    (of_decide_eq_true (by kernel_rfl)) (by unfold Func.isWrapper; first | (rw [if_pos (by decide +kernel)]; kernel_rfl) | (rw [if_neg (by decide +kernel)]; exact ⟨rfl, rfl⟩))
    (fun os started H enc _ => lifted os started H enc)
theorem proved : Rows.ShortNeedsSaid :=
  over
end Go.Proofs.YtjnjfinbdfolkaaGreat.shortNeeds
end

