/- Factors that were brought up to a power of a prime, taken by a lesser one, are what they come to by that: for every input. No condition. -/
import Derived.Test.YtjnjfinbdfolkaaGreatHw5
section
set_option linter.unusedVariables false
set_option linter.unusedSimpArgs false
namespace Go.Proofs.YtjnjfinbdfolkaaGreat
/-- a factor that is taken: reduced, of a degree above nought, leading with one -/
def PlL (p : Int) (l : List Int) : Prop := (∀ j, j < l.length → 0 ≤ ci l j ∧ ci l j < p) ∧ 1 < l.length ∧ ci l (l.length - 1) = 1
theorem PlL.fp {p : Int} {l : List Int} (hp : 0 < p) (h : PlL p l) : Fp p l := by
  refine ⟨fun k => ?_, fun k => ?_, .inr (by rw [h.2.2]; decide)⟩
  · by_cases hk : k < l.length
    · exact (h.1 k hk).1
    · rw [ci_ge (by omega)]; omega
  · by_cases hk : k < l.length
    · exact (h.1 k hk).2
    · rw [ci_ge (by omega)]; exact hp
theorem M_hensel_plain_ex {fu : Nat} {l : List Int} {p : Int} (hl : l.length ≤ 1000000) (hf : 3000000 ≤ fu) : ∃ b, M_hensel_plain fu l p = some b ∧ (b = true ↔ PlL p l) := by
  unfold M_hensel_plain
  obtain ⟨r, e1, e2⟩ := loop_ex (f := B_hensel_plain_0 fu l p) (fun i : Int => ∃ j : Nat, i = (j : Int) ∧ j ≤ l.length ∧ ∀ t, t < j → 0 ≤ ci l t ∧ ci l t < p) (fun i => l.length - i.toNat) (fun r => (r = .inl () ∧ ∀ t, t < l.length → 0 ≤ ci l t ∧ ci l t < p) ∨ (r = .inr () ∧ ¬ ∀ t, t < l.length → 0 ≤ ci l t ∧ ci l t < p)) (by
    rintro i L ⟨j, rfl, hj, he⟩ ih
    unfold B_hensel_plain_0
    by_cases h1 : j < l.length
    · rw [if_pos (by omega), ckI_n h1, nm_t, ci_d]
      by_cases h2 : ci l j < 0
      · rw [if_pos h2]
        exact ⟨_, rfl, .inr ⟨rfl, fun e => by have := (e j h1).1; omega⟩⟩
      · rw [if_neg h2]
        by_cases h3 : p ≤ ci l j
        · rw [if_pos h3]
          exact ⟨_, rfl, .inr ⟨rfl, fun e => by have := (e j h1).2; omega⟩⟩
        · rw [if_neg h3, ck64_t ⟨by omega, by omega⟩]
          refine ih _ ⟨j + 1, rfl, by omega, fun t ht => ?_⟩ (by omega)
          by_cases h4 : t = j
          · rw [h4]; omega
          · exact he t (by omega)
    · rw [if_neg (by omega)]
      exact ⟨_, rfl, .inl ⟨rfl, fun t ht => he t (by omega)⟩⟩) fu 0 ⟨0, rfl, Nat.zero_le _, fun t h => absurd h (Nat.not_lt_zero _)⟩ (by show l.length - 0 < fu; omega)
  rw [bd_t e1]
  rcases e2 with ⟨rfl, h⟩ | ⟨rfl, h⟩
  · simp only []
    by_cases h1 : 1 < l.length
    · rw [if_pos (by omega), show ((l.length : Nat) : Int) - 1 = ((l.length - 1 : Nat) : Int) by omega, ck64_t ⟨by omega, by omega⟩, ckI_n (by omega), nm_t, ci_d]
      by_cases h2 : ci l (l.length - 1) = 1
      · rw [if_pos h2]
        exact ⟨_, rfl, fun _ => ⟨h, h1, h2⟩, fun _ => rfl⟩
      · rw [if_neg h2]
        exact ⟨_, rfl, fun e => absurd e (by decide), fun e => absurd e.2.2 h2⟩
    · rw [if_neg (by omega)]
      exact ⟨_, rfl, fun e => absurd e (by decide), fun e => absurd e.2.1 h1⟩
  · exact ⟨_, rfl, fun e => absurd e (by decide), fun e => absurd e.1 h⟩
def prodF (p : Int) (fs : List (List Int)) : List Int := fs.foldl (fmul p) [1]
def prZ : List Pz → Pz
  | [] => pc 1
  | f :: r => f * prZ r
theorem prZ_append : ∀ (a b : List Pz), prZ (a ++ b) = prZ a * prZ b
  | [], b => (p_one_mul _).symm
  | f :: r, b => by show f * prZ (r ++ b) = f * prZ r * prZ b; rw [prZ_append r b, p_mul_assoc]
theorem fold_cg (p : Int) : ∀ (fs : List (List Int)) (t : List Int), Cg p (ci (fs.foldl (fmul p) t)) (ci t * prZ (fs.map ci))
  | [], t => by show Cg p (ci t) (ci t * pc 1); rw [p_mul_one]; exact Cg.rfl
  | f :: r, t => by
    show Cg p (ci (r.foldl (fmul p) (fmul p t f))) (ci t * (ci f * prZ (r.map ci)))
    refine (fold_cg p r (fmul p t f)).trans (((fmul_cg p t f).mul Cg.rfl).trans (Cg.of (p_mul_assoc _ _ _)))
theorem prodF_cg (p : Int) (fs : List (List Int)) : Cg p (ci (prodF p fs)) (prZ (fs.map ci)) := by
  have := fold_cg p fs [1]
  rw [ci_one, p_one_mul] at this
  exact this
theorem fold_fp {p : Int} (hp : 0 < p) : ∀ (fs : List (List Int)) {t : List Int}, Fp p t → Fp p (fs.foldl (fmul p) t)
  | [], _, h => h
  | f :: r, t, h => fold_fp hp r (fmul_fp hp t f)
theorem prodF_fp {p : Int} (hp : 2 ≤ p) (fs : List (List Int)) : Fp p (prodF p fs) := fold_fp (by omega) fs (fp_one (by decide) (by omega))
theorem fold_le {p : Int} {M : Nat} : ∀ {fs : List (List Int)} {t : List Int}, (∀ f ∈ fs, f.length ≤ M) → (fs.foldl (fmul p) t).length ≤ t.length + fs.length * M
  | [], _, _ => by simp
  | f :: r, t, h => by
    have h1 := fold_le (p := p) (fs := r) (t := fmul p t f) fun g hg => h g (List.mem_cons_of_mem _ hg)
    have h2 := fmul_le p t f
    have h3 := h f (List.mem_cons_self ..)
    show (r.foldl (fmul p) (fmul p t f)).length ≤ t.length + (r.length + 1) * M
    rw [Nat.add_mul, Nat.one_mul]
    omega
theorem prodF_le {p : Int} {M : Nat} {fs : List (List Int)} (h : ∀ f ∈ fs, f.length ≤ M) : (prodF p fs).length ≤ 1 + fs.length * M := fold_le h
theorem getD_memi {l : List (List Int)} {i : Nat} (h : i < l.length) : l.getD i [] ∈ l := by
  rw [List.getD_eq_getElem?_getD, List.getElem?_eq_getElem h]
  exact List.getElem_mem h
theorem take_snoc {l : List (List Int)} {i : Nat} (h : i < l.length) : l.take (i + 1) = l.take i ++ [l.getD i []] := by
  rw [List.take_add_one, List.getElem?_eq_getElem h, List.getD_eq_getElem?_getD, List.getElem?_eq_getElem h]
  rfl
theorem M_hensel_product_eq {fu M : Nat} {fs : List (List Int)} {p : Int} (hp : prm p = true) (hF : ∀ f ∈ fs, Fp p f) (hM : ∀ f ∈ fs, f.length ≤ M) (hb : 1 + fs.length * M ≤ 90000) (hb2 : M ≤ 90000) (hb3 : fs.length ≤ 90000) (hf : 3000000 ≤ fu) : M_hensel_product fu fs p = some (prodF p fs) := by
  obtain ⟨p1, p2⟩ := prm_rng hp
  unfold M_hensel_product
  rw [bd_t (v := prodF p fs)]
  refine loop_eq (fun s : List Int × Int => ∃ i : Nat, i ≤ fs.length ∧ s = (prodF p (fs.take i), (i : Int))) (fun s => fs.length - s.2.toNat) _ ?_ _ _ ⟨0, Nat.zero_le _, rfl⟩ (by show fs.length - 0 < fu; omega)
  rintro s L ⟨i, hi, rfl⟩ ih
  unfold B_hensel_product_0
  simp only []
  by_cases h1 : i < fs.length
  · have hm := getD_memi h1
    have hl := prodF_le (p := p) (fs := fs.take i) (M := M) fun f hf => hM f (List.mem_of_mem_take hf)
    have hl2 : (fs.take i).length * M ≤ fs.length * M := Nat.mul_le_mul_right _ (List.length_take_le' ..)
    have hl3 := hM _ hm
    rw [if_pos (by omega), ckI_n h1, nm_t, bd_t (M_fpoly_Mul_eq hp (prodF_fp (by omega) _) (hF _ hm) (by omega) (by omega) hf)]
    simp only []
    rw [ck64_t ⟨by omega, by omega⟩]
    refine ih _ ⟨i + 1, by omega, ?_⟩ (by show fs.length - ((i : Int) + 1).toNat < fs.length - (i : Int).toNat; omega)
    congr 1
    unfold prodF
    rw [take_snoc h1, List.foldl_append]
    rfl
  · rw [if_neg (by omega), List.take_of_length_le (by omega)]
/-- without a common factor -/
def Cop (p : Int) (f g : Pz) : Prop := ∃ s t : Pz, Fs s ∧ Fs t ∧ Cg p (s * f + t * g) (pc 1)
theorem Cop.symm {p : Int} {f g : Pz} (h : Cop p f g) : Cop p g f := by
  obtain ⟨s, t, z1, z2, h⟩ := h
  refine ⟨t, s, z2, z1, (Cg.of ?_).trans h⟩
  funext k
  rw [p_add, p_add, Int.add_comm]
theorem Cop.mul {p : Int} {f g h : Pz} (hg : Fs g) (hh : Fs h) (hf : Fs f) (h1 : Cop p f h) (h2 : Cop p g h) : Cop p (f * g) h := by
  obtain ⟨s, t, z1, z2, h1⟩ := h1
  obtain ⟨u, v, z3, z4, h2⟩ := h2
  refine ⟨s * u, s * f * v + t * (u * g + v * h), z1.mul z3, ((z1.mul hf).mul z4).add (z2.mul ((z3.mul hg).add (z4.mul hh))), Cg.trans (Cg.of ?_) ((h1.mul h2).trans (Cg.of (p_one_mul _)))⟩
  simp only [p_mul_add, p_add_mul, p_mul_assoc, p_mul_left_comm, p_mul_comm]
  funext k
  simp only [p_add]
  omega
theorem Cop.one (p : Int) (h : Pz) : Cop p (pc 1) h := ⟨pc 1, pc 0, Fs.pc 1, Fs.pc 0, Cg.of (by
  rw [p_one_mul, p_zero_mul]
  funext k
  rw [p_add, pc_zero, Int.add_zero])⟩
theorem Fs.prZ : ∀ {fs : List Pz}, (∀ f ∈ fs, Fs f) → Fs (prZ fs)
  | [], _ => Fs.pc 1
  | f :: r, hh => (hh f (List.mem_cons_self ..)).mul (Fs.prZ fun g hg => hh g (List.mem_cons_of_mem _ hg))
theorem Cop.prZ {p : Int} {h : Pz} (hz : Fs h) : ∀ {fs : List Pz}, (∀ f ∈ fs, Fs f) → (∀ f ∈ fs, Cop p f h) → Cop p (prZ fs) h
  | [], _, _ => Cop.one p h
  | f :: r, hF, hh => Cop.mul (Fs.prZ fun g hg => hF g (List.mem_cons_of_mem _ hg)) hz (hF f (List.mem_cons_self ..)) (hh f (List.mem_cons_self ..)) (Cop.prZ hz (fun g hg => hF g (List.mem_cons_of_mem _ hg)) fun g hg => hh g (List.mem_cons_of_mem _ hg))
theorem gcd_one {p : Int} {g h d s t : List Int} {S : Nat} (hR : BzR p g h d s t S) (hl : d.length = 1) (h1 : ci d (d.length - 1) = 1) : Cop p (ci g) (ci h) := by
  have e : ci d = pc 1 := by
    funext k
    unfold pc
    by_cases hk : k = 0
    · rw [if_pos hk, hk, ← h1, hl]
    · rw [if_neg hk, ci_ge (by omega)]
  have := hR.cg
  rw [e] at this
  exact ⟨ci s, ci t, Fs.ci s, Fs.ci t, this.symm⟩
structure RightP (p : Int) (a : List Zr) (fs : List (List Int)) : Prop where
  a0 : a.length ≠ 0
  al : (zmod p a).length = a.length
  fl : fs.length ≤ a.length
  pl : ∀ i, i < fs.length → (fs.getD i []).length ≤ a.length ∧ PlL p (fs.getD i [])
  cp : ∀ i j, i < fs.length → j < i → Cop p (ci (fs.getD i [])) (ci (fs.getD j []))
  pr : fmul p (prodF p fs) [ci (zmod p a) (a.length - 1)] = zmod p a
theorem right_inner {fu i : Nat} {p : Int} {f : List Int} {fs : List (List Int)} (hp : prm p = true) (hf1 : Fp p f) (hfl : f.length ≤ 290) (hi : i ≤ fs.length) (hil : i ≤ 1000000) (hF : ∀ j, j < i → Fp p (fs.getD j []) ∧ (fs.getD j []).length ≤ 290) (hf : 3000000 ≤ fu) :
    ∃ r, loopN (B_hensel_right_1 fu p f (fs.take i)) fu 0 = some r ∧ (r = .inl () → ∀ j, j < i → Cop p (ci f) (ci (fs.getD j []))) := by
  have hlen : (fs.take i).length = i := by rw [List.length_take]; omega
  have hget : ∀ j, j < i → (fs.take i).getD j [] = fs.getD j [] := fun j hj => by rw [List.getD_eq_getElem?_getD, List.getElem?_take, if_pos hj, ← List.getD_eq_getElem?_getD]
  refine loop_ex (fun x : Int => ∃ j : Nat, x = (j : Int) ∧ j ≤ i ∧ ∀ t, t < j → Cop p (ci f) (ci (fs.getD t []))) (fun x => i - x.toNat) _ ?_ _ _ ⟨0, rfl, Nat.zero_le _, fun t h => absurd h (Nat.not_lt_zero _)⟩ (by show i - 0 < fu; omega)
  rintro x L ⟨j, rfl, hj, he⟩ ih
  unfold B_hensel_right_1
  by_cases h1 : j < i
  · obtain ⟨k1, k2⟩ := hF j h1
    obtain ⟨d, s, t, e1, hR, e3⟩ := M_fpoly_Bezout_ex (fu := fu) hp hf1 k1 hfl k2 hf
    rw [if_pos (by omega), ckI_n (by omega), nm_t, hget j h1]
    have hg : M_fpoly_Gcd fu f (fs.getD j []) p = some (d, 0) := by
      unfold M_fpoly_Gcd
      rw [bd_t e1]
    rw [bd_t hg]
    simp only []
    by_cases h2 : d.length = 1
    · rw [if_pos (by omega), ck64_t ⟨by omega, by omega⟩]
      refine ih _ ⟨j + 1, rfl, by omega, fun t ht => ?_⟩ (by omega)
      by_cases h3 : t = j
      · rw [h3]
        exact gcd_one hR h2 (e3.resolve_left (by omega))
      · exact he t (by omega)
    · rw [if_neg (by omega)]
      exact ⟨_, rfl, fun e => absurd e (by simp)⟩
  · rw [if_neg (by omega)]
    exact ⟨_, rfl, fun _ t ht => he t (by omega)⟩
theorem M_hensel_right_ex {fu k : Nat} {p : Int} {a : List Zr} {fs : List (List Int)} (hp : prm p = true) (ha : OkP k a) (hk : k ≤ 40000) (hal : a.length ≤ 66) (hf : 3000000 ≤ fu) :
    ∃ b, M_hensel_right fu a fs p = some b ∧ (b = true → RightP p a fs) := by
  obtain ⟨p1, p2⟩ := prm_rng hp
  unfold M_hensel_right
  rw [bd_t (M_zpoly_Mod_eq ha hk (by omega) p2 (by omega) hf)]
  simp only []
  by_cases h0 : a.length = 0
  · rw [if_pos (by omega)]
    exact ⟨_, rfl, fun e => absurd e (by decide)⟩
  · rw [if_neg (by omega)]
    by_cases hl : (zmod p a).length = a.length
    · rw [if_pos (by omega)]
      by_cases hfl : a.length < fs.length
      · rw [if_pos (by omega)]
        exact ⟨_, rfl, fun e => absurd e (by decide)⟩
      · rw [if_neg (by omega)]
        obtain ⟨r, e1, e2⟩ := loop_ex (f := B_hensel_right_0 fu a fs p) (fun x : Int × List Int => ∃ i : Nat, x = ((i : Int), zmod p a) ∧ i ≤ fs.length ∧ (∀ t, t < i → (fs.getD t []).length ≤ a.length ∧ PlL p (fs.getD t [])) ∧ ∀ t j, t < i → j < t → Cop p (ci (fs.getD t [])) (ci (fs.getD j []))) (fun x => fs.length - x.1.toNat)
          (fun r => r = .inr () ∨ (r = .inl (zmod p a) ∧ (∀ t, t < fs.length → (fs.getD t []).length ≤ a.length ∧ PlL p (fs.getD t [])) ∧ ∀ t j, t < fs.length → j < t → Cop p (ci (fs.getD t [])) (ci (fs.getD j [])))) (by
            rintro x L ⟨i, rfl, hi, g1, g2⟩ ih
            unfold B_hensel_right_0
            simp only []
            by_cases h1 : i < fs.length
            · rw [if_pos (by omega), bd_t rfl]
              simp only [if_true]
              rw [ckI_n h1, nm_t]
              by_cases h2 : a.length < (fs.getD i []).length
              · rw [if_pos (by omega)]
                exact ⟨_, rfl, .inl rfl⟩
              · obtain ⟨b, b1, b2⟩ := M_hensel_plain_ex (fu := fu) (l := fs.getD i []) (p := p) (by omega) hf
                rw [if_neg (by omega), bd_t b1]
                cases b with
                | false =>
                  rw [if_pos (by decide)]
                  exact ⟨_, rfl, .inl rfl⟩
                | true =>
                  have hpl := b2.1 rfl
                  rw [if_neg (by decide), ckN_n, ck_t (by omega), nm_t]
                  obtain ⟨q, q1, q2⟩ := right_inner (fu := fu) (i := i) (fs := fs) hp (hpl.fp (by omega)) (by omega) (by omega) (by omega) (fun j hj => ⟨(g1 j hj).2.fp (by omega), by have := (g1 j hj).1; omega⟩) hf
                  rw [bd_t q1]
                  rcases q with q | q
                  · simp only []
                    rw [ck64_t ⟨by omega, by omega⟩]
                    refine ih _ ⟨i + 1, rfl, by omega, fun t ht => ?_, fun t j ht hj => ?_⟩ (by show fs.length - ((i : Int) + 1).toNat < fs.length - (i : Int).toNat; omega)
                    · by_cases h4 : t = i
                      · rw [h4]; exact ⟨by omega, hpl⟩
                      · exact g1 t (by omega)
                    · by_cases h4 : t = i
                      · rw [h4] at hj ⊢; exact q2 rfl j hj
                      · exact g2 t j (by omega) hj
                  · exact ⟨_, rfl, .inl rfl⟩
            · rw [if_neg (by omega), bd_t rfl]
              simp only [Bool.false_eq_true, if_false]
              exact ⟨_, rfl, .inr ⟨rfl, fun t ht => g1 t (by omega), fun t j ht hj => g2 t j (by omega) hj⟩⟩) fu (0, zmod p a) ⟨0, rfl, Nat.zero_le _, fun t h => absurd h (Nat.not_lt_zero _), fun t j h => absurd h (Nat.not_lt_zero _)⟩ (by show fs.length - 0 < fu; omega)
        rw [bd_t e1]
        rcases e2 with rfl | ⟨rfl, g1, g2⟩
        · exact ⟨_, rfl, fun e => absurd e (by decide)⟩
        · simp only []
          have hall : ∀ {q : List Int → Prop}, (∀ t, t < fs.length → q (fs.getD t [])) → ∀ f ∈ fs, q f := fun {q} h f hf => by
            obtain ⟨j, hj, rfl⟩ := List.mem_iff_getElem.1 hf
            have := h j hj
            rw [List.getD_eq_getElem?_getD, List.getElem?_eq_getElem hj] at this
            exact this
          have hFs : ∀ f ∈ fs, Fp p f := hall fun t ht => (g1 t ht).2.fp (by omega)
          have hLs : ∀ f ∈ fs, f.length ≤ 66 := hall fun t ht => by have := (g1 t ht).1; omega
          have hpb : fs.length * 66 ≤ 66 * 66 := Nat.mul_le_mul_right _ (by omega)
          have hpl := prodF_le (p := p) hLs
          have hz := zmod_fp (p := p) (by omega) a
          have htop : ci (zmod p a) (a.length - 1) ≠ 0 := by
            rcases hz.nl with h | h
            · omega
            · rw [hl] at h; exact h
          have ht1 := hz.nn (a.length - 1)
          have ht2 := hz.lt (a.length - 1)
          have hdrop : (zmod p a).drop (a.length - 1) = [ci (zmod p a) (a.length - 1)] := by
            rw [List.drop_eq_getElem_cons (by omega), List.drop_eq_nil_of_le (by omega)]
            unfold ci
            rw [List.getD_eq_getElem?_getD, List.getElem?_eq_getElem (by omega)]
            rfl
          have hone := fp_one (p := p) (x := ci (zmod p a) (a.length - 1)) (by omega) ht2
          have hfm := fmul_le p (prodF p fs) [ci (zmod p a) (a.length - 1)]
          simp only [List.length_cons, List.length_nil] at hfm
          rw [bd_t (M_hensel_product_eq hp hFs hLs (by omega) (by decide) (by omega) hf), hl, show ((a.length : Nat) : Int) - 1 = ((a.length - 1 : Nat) : Int) by omega, ck64_t ⟨by omega, by omega⟩, ckN_n, ck_t (by omega), nm_t, hdrop, bd_t (M_fpoly_Mul_eq hp (prodF_fp (by omega) fs) hone (by omega) (by simp) hf)]
          simp only []
          rw [bd_t (M_hensel_equal_eq hp (fmul_fp (by omega) _ _) hz (by omega) (by omega) hf)]
          exact ⟨_, rfl, fun e => ⟨h0, hl, by omega, g1, g2, of_decide_eq_true e⟩⟩
    · rw [if_neg (by omega)]
      exact ⟨_, rfl, fun e => absurd e (by decide)⟩
end Go.Proofs.YtjnjfinbdfolkaaGreat
end

section
set_option linter.unusedVariables false
set_option linter.unusedSimpArgs false
namespace Go.Proofs.YtjnjfinbdfolkaaGreat
def addP (a b : List Zr) : List Zr := nzp (max a.length b.length) (fun j => cf a j + cf b j)
theorem addP_cf (a b : List Zr) (k : Nat) : cf (addP a b) k = cf a k + cf b k := nzp_cf (fun j hj => cf_zero_out hj) k
theorem addP_len (a b : List Zr) : (addP a b).length ≤ max a.length b.length := by unfold addP; rw [nzp_len]; exact dg_le _ _
theorem addP_ok {k : Nat} {a b : List Zr} (ha : OkP k a) (hb : OkP k b) : OkP (k + 1) (addP a b) := OkP_nzp fun j => (ha.bz j).add (hb.bz j)
theorem add_law {fu k : Nat} {a b : List Zr} (ha : OkP k a) (hb : OkP k b) (hk : k + 1 ≤ 100000) (hla : a.length ≤ 1000000) (hlb : b.length ≤ 1000000) (hf : 3000000 ≤ fu) : M_zpoly_Add fu a b = some (addP a b) := M_zpoly_Add_eq ha hb hk hla hlb hf
def oneP : List Zr := zlift [1]
theorem oneP_cf : (cf oneP : Pz) = pc 1 := by unfold oneP; rw [zlift_cf, ci_one]
theorem oneP_len : oneP.length ≤ 1 := zlift_le [1]
theorem one_rl : Rl [1] := fun k => by
  rw [ci_one]
  unfold pc; split <;> exact ⟨by decide, by decide⟩
theorem oneP_ok : OkP 1 oneP := zlift_ok one_rl
def puE (f g h : List Zr) (m : Int) : List Zr := redP (subP f (mulP g h)) m
def puQ (x d : List Zr) (m : Int) : List Zr := divQ (redP x m) d m
def puR (x d : List Zr) (m : Int) : List Zr := divRest (redP x m) d m
def puG (f g h s t : List Zr) (m : Int) : List Zr := redP (addP g (addP (mulP t (puE f g h m)) (mulP (puQ (mulP s (puE f g h m)) h m) g))) m
def puH (f g h s : List Zr) (m : Int) : List Zr := redP (addP h (puR (mulP s (puE f g h m)) h m)) m
/-- the cofactors, over the new factors -/
def puB (g h s t : List Zr) (m : Int) : List Zr := redP (subP (addP (mulP s g) (mulP t h)) oneP) m
def puS (g h s t : List Zr) (m : Int) : List Zr := redP (subP s (puR (mulP s (puB g h s t m)) h m)) m
def puT (g h s t : List Zr) (m : Int) : List Zr := redP (subP t (addP (mulP t (puB g h s t m)) (mulP (puQ (mulP s (puB g h s t m)) h m) g))) m
theorem puQ_ok {K : Nat} {x d : List Zr} {m : Int} (hm : Bz K m) (h0 : 0 < m) : OkP K (puQ x d m) := OkP_nzp fun j => hm.emod h0
theorem puR_ok {K : Nat} {x d : List Zr} {m : Int} (hm : Bz K m) (h0 : 0 < m) : OkP K (puR x d m) := OkP_nzp fun j => hm.emod h0
theorem puQ_len (x d : List Zr) (m : Int) : (puQ x d m).length ≤ x.length + 1 := by
  unfold puQ divQ
  rw [nzp_len]
  have := redP_len x m
  exact Nat.le_trans (dg_le _ _) (by omega)
theorem puR_len (x d : List Zr) (m : Int) : (puR x d m).length ≤ x.length := by
  unfold puR divRest
  rw [nzp_len]
  exact Nat.le_trans (dg_le _ _) (redP_len x m)
theorem puR_short {x d : List Zr} {m : Int} (hdl : 0 < d.length) (hd1 : cf d (d.length - 1) = 1) : (puR x d m).length < d.length := divRest_short hdl hd1
/-- the second factor keeps its degree and leads with one -/
theorem puH_top {f g h s : List Zr} {m : Int} (h2 : 2 ≤ m) (hl : 0 < h.length) (h1 : cf h (h.length - 1) = 1) : (puH f g h s m).length = h.length ∧ cf (puH f g h s m) (h.length - 1) = 1 := by
  have hs := puR_short (x := mulP s (puE f g h m)) (m := m) hl h1
  have e : ∀ k, cf (puH f g h s m) k = (cf h k + cf (puR (mulP s (puE f g h m)) h m) k) % m := fun k => by unfold puH; rw [redP_cf, addP_cf]
  have e1 : cf (puH f g h s m) (h.length - 1) = 1 := by
    rw [e, h1, cf_ge (p := puR _ _ _) (by omega)]
    exact Int.emod_eq_of_lt (by decide) (by omega)
  refine ⟨Nat.le_antisymm (can_le (redP_can _ _) fun k hk => ?_) (Nat.le_of_not_lt fun hlt => ?_), e1⟩
  · have := e k
    unfold puH at this
    rw [this, cf_ge hk, cf_ge (p := puR _ _ _) (by omega), Int.add_zero, Int.zero_emod]
  · rw [cf_ge (by omega)] at e1
    cases e1
theorem M_hensel_pair_up_eq {fu K W : Nat} {f g h s t : List Zr} {m : Zr} (hfo : OkP K f) (hg : OkP K g) (hh : OkP K h) (hs : OkP K s) (ht : OkP K t) (lf : f.length ≤ W) (lg : g.length ≤ W) (lh : h.length ≤ W) (ls : s.length ≤ W) (lt : t.length ≤ W) (hW : W ≤ 5000) (hK1 : 1 ≤ K) (hK : K ≤ 1000) (hmO : Limbs m.2) (hml : m.2.length ≤ K) (h2 : 2 ≤ zv m) (hl : 0 < h.length) (h1 : cf h (h.length - 1) = 1) (hf : 3000000 ≤ fu) :
    M_hensel_pair_up fu [g, h, s, t] f m = some [puG f g h s t (zv m), puH f g h s (zv m), puS (puG f g h s t (zv m)) (puH f g h s (zv m)) s t (zv m), puT (puG f g h s t (zv m)) (puH f g h s (zv m)) s t (zv m)] := by
  have hm : Bz K (zv m) := (Bz.of hmO).mono hml
  have hmS : OkS m := ⟨hmO, by omega⟩
  have h0 : 0 < zv m := by omega
  unfold M_hensel_pair_up
  rw [ckI_t (i := 0) (by decide), nm_t, ckI_t (i := 1) (by decide), nm_t, ckI_t (i := 2) (by decide), nm_t, ckI_t (i := 3) (by decide), nm_t, show [g, h, s, t].getD (Int.toNat 0) [] = g from rfl, show [g, h, s, t].getD (Int.toNat 1) [] = h from rfl, show [g, h, s, t].getD (Int.toNat 2) [] = s from rfl, show [g, h, s, t].getD (Int.toNat 3) [] = t from rfl]
  have p1 := mulP_ok hg hh
  have l1 := mulP_len g h
  have l2 := subP_len f (mulP g h)
  rw [bd_t (M_zpoly_Mul_eq hg hh (by omega) (by omega) hf), bd_t (M_zpoly_Sub_eq (k := K + K + g.length) (hfo.mono (by omega)) p1 (by omega) (by omega) (by omega) hf), bd_t (red_low (subP_ok (hfo.mono (by omega)) p1) (by omega) hmS h0 (by omega) hf), show redP (subP f (mulP g h)) (zv m) = puE f g h (zv m) from rfl]
  have pe : OkP K (puE f g h (zv m)) := redP_ok hm h0
  have le : (puE f g h (zv m)).length ≤ W + W := Nat.le_trans (redP_len _ _) (by omega)
  have p2 := mulP_ok hs pe
  have l3 := mulP_len s (puE f g h (zv m))
  have pq := puQ_ok (x := mulP s (puE f g h (zv m))) (d := h) hm h0
  have pr := puR_ok (x := mulP s (puE f g h (zv m))) (d := h) hm h0
  have lq := puQ_len (mulP s (puE f g h (zv m))) h (zv m)
  have lr := puR_len (mulP s (puE f g h (zv m))) h (zv m)
  rw [bd_t (M_zpoly_Mul_eq hs pe (by omega) (by omega) hf), bd_t (M_hensel_divided_eq p2 (by omega) hh hmO hml h0 hl (by omega) (by omega) hf), show divQ (redP (mulP s (puE f g h (zv m))) (zv m)) h (zv m) = puQ (mulP s (puE f g h (zv m))) h (zv m) from rfl, show divRest (redP (mulP s (puE f g h (zv m))) (zv m)) h (zv m) = puR (mulP s (puE f g h (zv m))) h (zv m) from rfl]
  simp only []
  have p3 := mulP_ok ht pe
  have l4 := mulP_len t (puE f g h (zv m))
  have p4 := mulP_ok pq hg
  have l5 := mulP_len (puQ (mulP s (puE f g h (zv m))) h (zv m)) g
  have p5 := addP_ok (k := K + K + W + W + W + 1) (p3.mono (by omega)) (p4.mono (by omega))
  have l6 := addP_len (mulP t (puE f g h (zv m))) (mulP (puQ (mulP s (puE f g h (zv m))) h (zv m)) g)
  have p6 := addP_ok (k := K + K + W + W + W + 2) (hg.mono (by omega)) p5
  have l7 := addP_len g (addP (mulP t (puE f g h (zv m))) (mulP (puQ (mulP s (puE f g h (zv m))) h (zv m)) g))
  rw [bd_t (M_zpoly_Mul_eq ht pe (by omega) (by omega) hf), bd_t (M_zpoly_Mul_eq pq hg (by omega) (by omega) hf), bd_t (add_law (k := K + K + W + W + W + 1) (p3.mono (by omega)) (p4.mono (by omega)) (by omega) (by omega) (by omega) hf), bd_t (add_law (k := K + K + W + W + W + 2) (hg.mono (by omega)) p5 (by omega) (by omega) (by omega) hf), bd_t (red_low p6 (by omega) hmS h0 (by omega) hf), show redP (addP g (addP (mulP t (puE f g h (zv m))) (mulP (puQ (mulP s (puE f g h (zv m))) h (zv m)) g))) (zv m) = puG f g h s t (zv m) from rfl]
  have l8 := addP_len h (puR (mulP s (puE f g h (zv m))) h (zv m))
  rw [bd_t (add_law hh pr (by omega) (by omega) (by omega) hf), bd_t (red_low (addP_ok hh pr) (by omega) hmS h0 (by omega) hf), show redP (addP h (puR (mulP s (puE f g h (zv m))) h (zv m))) (zv m) = puH f g h s (zv m) from rfl]
  obtain ⟨hh', h1'⟩ := puH_top (f := f) (g := g) (s := s) h2 hl h1
  have pG : OkP K (puG f g h s t (zv m)) := redP_ok hm h0
  have pH : OkP K (puH f g h s (zv m)) := redP_ok hm h0
  have lG : (puG f g h s t (zv m)).length ≤ 4 * W + 1 := Nat.le_trans (redP_len _ _) (by omega)
  clear l1 l2 l3 l4 l5 l6 l7 l8 p1 p2 p3 p4 p5 p6 pe le pq pr lq lr
  generalize puG f g h s t (zv m) = G at *
  generalize puH f g h s (zv m) = H at *
  have p1 := mulP_ok hs pG
  have l1 := mulP_len s G
  have p2 := mulP_ok ht pH
  have l2 := mulP_len t H
  have p3 := addP_ok (k := K + K + W) (p1.mono (by omega)) (p2.mono (by omega))
  have l3 := addP_len (mulP s G) (mulP t H)
  have l4 := subP_len (addP (mulP s G) (mulP t H)) oneP
  have l5 := oneP_len
  rw [bd_t (M_zpoly_Mul_eq hs pG (by omega) (by omega) hf), bd_t (M_zpoly_Mul_eq ht pH (by omega) (by omega) hf), bd_t (add_law (k := K + K + W) (p1.mono (by omega)) (p2.mono (by omega)) (by omega) (by omega) (by omega) hf)]
  rw [bd_t (M_zpoly_Of_eq one_rl (by decide) hf), show zlift [1] = oneP from rfl, bd_t (M_zpoly_Sub_eq p3 (oneP_ok.mono (by omega)) (by omega) (by omega) (by omega) hf), bd_t (red_low (subP_ok p3 (oneP_ok.mono (by omega))) (by omega) hmS h0 (by omega) hf), show redP (subP (addP (mulP s G) (mulP t H)) oneP) (zv m) = puB G H s t (zv m) from rfl]
  have pb : OkP K (puB G H s t (zv m)) := redP_ok hm h0
  have lb : (puB G H s t (zv m)).length ≤ 5 * W + 2 := Nat.le_trans (redP_len _ _) (by omega)
  have p4 := mulP_ok hs pb
  have l6 := mulP_len s (puB G H s t (zv m))
  have pc' := puQ_ok (x := mulP s (puB G H s t (zv m))) (d := H) hm h0
  have pd := puR_ok (x := mulP s (puB G H s t (zv m))) (d := H) hm h0
  have lc := puQ_len (mulP s (puB G H s t (zv m))) H (zv m)
  have ld := puR_len (mulP s (puB G H s t (zv m))) H (zv m)
  have l7 := subP_len s (puR (mulP s (puB G H s t (zv m))) H (zv m))
  rw [bd_t (M_zpoly_Mul_eq hs pb (by omega) (by omega) hf), bd_t (M_hensel_divided_eq p4 (by omega) pH hmO hml h0 (by omega) (by omega) (by omega) hf), show divQ (redP (mulP s (puB G H s t (zv m))) (zv m)) H (zv m) = puQ (mulP s (puB G H s t (zv m))) H (zv m) from rfl, show divRest (redP (mulP s (puB G H s t (zv m))) (zv m)) H (zv m) = puR (mulP s (puB G H s t (zv m))) H (zv m) from rfl]
  simp only []
  rw [bd_t (M_zpoly_Sub_eq hs pd (by omega) (by omega) (by omega) hf), bd_t (red_low (subP_ok hs pd) (by omega) hmS h0 (by omega) hf), show redP (subP s (puR (mulP s (puB G H s t (zv m))) H (zv m))) (zv m) = puS G H s t (zv m) from rfl]
  have p5 := mulP_ok ht pb
  have l8 := mulP_len t (puB G H s t (zv m))
  have p6 := mulP_ok pc' pG
  have l9 := mulP_len (puQ (mulP s (puB G H s t (zv m))) H (zv m)) G
  have p7 := addP_ok (k := K + K + 6 * W + 3) (p5.mono (by omega)) (p6.mono (by omega))
  have l10 := addP_len (mulP t (puB G H s t (zv m))) (mulP (puQ (mulP s (puB G H s t (zv m))) H (zv m)) G)
  have l11 := subP_len t (addP (mulP t (puB G H s t (zv m))) (mulP (puQ (mulP s (puB G H s t (zv m))) H (zv m)) G))
  rw [bd_t (M_zpoly_Mul_eq ht pb (by omega) (by omega) hf), bd_t (M_zpoly_Mul_eq pc' pG (by omega) (by omega) hf), bd_t (add_law (k := K + K + 6 * W + 3) (p5.mono (by omega)) (p6.mono (by omega)) (by omega) (by omega) (by omega) hf), bd_t (M_zpoly_Sub_eq (ht.mono (by omega)) p7 (by omega) (by omega) (by omega) hf), bd_t (red_low (subP_ok (ht.mono (by omega)) p7) (by omega) hmS h0 (by omega) hf), show redP (subP t (addP (mulP t (puB G H s t (zv m))) (mulP (puQ (mulP s (puB G H s t (zv m))) H (zv m)) G))) (zv m) = puT G H s t (zv m) from rfl]
end Go.Proofs.YtjnjfinbdfolkaaGreat
end

section
set_option linter.unusedVariables false
set_option linter.unusedSimpArgs false
namespace Go.Proofs.YtjnjfinbdfolkaaGreat
theorem redP_cg (a : List Zr) (m : Int) : Cg m (cf (redP a m)) (cf a) := fun k => by rw [redP_cf, Int.emod_emod]
theorem subP_p (a b : List Zr) : (cf (subP a b) : Pz) = cf a - cf b := funext fun k => subP_cf a b k
theorem addP_p (a b : List Zr) : (cf (addP a b) : Pz) = cf a + cf b := funext fun k => addP_cf a b k
theorem div_cg {x d : List Zr} {m : Int} (hdl : 0 < d.length) (hd1 : cf d (d.length - 1) = 1) : Cg m (cf x) ((cf (puQ x d m) : Pz) * cf d + cf (puR x d m)) := by
  intro k
  unfold puQ puR
  rw [p_add, ← mulP_mul, divRest_cf (by omega) hdl hd1, Int.add_emod, Int.emod_emod, ← Int.add_emod]
  have hr := redP_cf x m k
  generalize redP x m = r at *
  obtain ⟨qn, hq⟩ : ∃ qn, qn = r.length + 1 - d.length := ⟨_, rfl⟩
  have hqc : ∀ j, j < qn → cf (divQ r d m) j = dvC r d m qn j := fun j hj => by
    rw [divQ_cf, ← hq]
    unfold dvQ dvC
    rw [if_pos hj, Int.emod_emod]
  have hql : (divQ r d m).length ≤ qn := by unfold divQ; rw [nzp_len, ← hq]; exact dg_le _ _
  have h := dv_rows hqc k qn (Nat.le_refl _)
  rw [dvG_top, mulC_stable hql] at h
  rw [mulP_cf, ← hq, Int.add_comm, ← h, hr, Int.emod_emod]
theorem dvd_emod {n m x : Int} (hn : n ∣ m) (hx : n ∣ x) : n ∣ x % m := by
  rw [Int.emod_def]
  exact Int.dvd_sub hx (Int.dvd_trans hn (Int.dvd_mul_right _ _))
theorem dvF_dvd {r d : List Zr} {n m : Int} {qn : Nat} (hn : n ∣ m) (hr : ∀ k, n ∣ cf r k) : ∀ s k, n ∣ dvF r d m qn s k
  | 0, k => hr k
  | s + 1, k => Int.dvd_sub (dvF_dvd hn hr s k) (Int.dvd_trans (dvd_emod hn (dvF_dvd hn hr s _)) (Int.dvd_mul_right _ _))
theorem div_zero {x d : List Zr} {n m : Int} (hn : n ∣ m) (hx : Cg n (cf x) (pc 0)) (hdl : 0 < d.length) (hd1 : cf d (d.length - 1) = 1) : Cg n (cf (puQ x d m)) (pc 0) ∧ Cg n (cf (puR x d m)) (pc 0) := by
  have hr : ∀ k, n ∣ cf (redP x m) k := fun k => by rw [redP_cf]; exact dvd_emod hn (hx.dvd k)
  refine ⟨Cg.of_dvd fun k => ?_, Cg.of_dvd fun k => ?_⟩
  · unfold puQ
    rw [divQ_cf]
    refine dvd_emod hn ?_
    unfold dvQ
    split
    · exact dvd_emod hn (dvF_dvd hn hr _ _)
    · exact Int.dvd_zero _
  · unfold puR
    rw [divRest_cf (by omega) hdl hd1]
    exact dvd_emod hn (dvF_dvd hn hr _ _)
theorem pu_fac {n m : Int} (hm : m ∣ n * n) (hn : n ∣ m) {f g h s t : List Zr} (h1 : Cg n (cf f) ((cf g : Pz) * cf h)) (h2 : Cg n ((cf s : Pz) * cf g + (cf t : Pz) * cf h) (pc 1)) (hdl : 0 < h.length) (hd1 : cf h (h.length - 1) = 1) :
    Cg m (cf f) ((cf (puG f g h s t m) : Pz) * cf (puH f g h s m)) ∧ Cg n (cf (puG f g h s t m)) (cf g) ∧ Cg n (cf (puH f g h s m)) (cf h) := by
  have he : Cg m (cf (puE f g h m)) ((cf f : Pz) - (cf g : Pz) * cf h) := by
    refine (redP_cg _ _).trans (Cg.of ?_)
    rw [subP_p, mulP_mul]
  have he0 : Cg n (cf (puE f g h m)) (pc 0) := (he.down hn).trans (Cg.iff_sub.1 h1)
  have hd : Cg m ((cf s : Pz) * cf (puE f g h m)) ((cf (puQ (mulP s (puE f g h m)) h m) : Pz) * cf h + cf (puR (mulP s (puE f g h m)) h m)) := by
    rw [← mulP_mul]
    exact div_cg hdl hd1
  obtain ⟨z1, z2⟩ := div_zero (x := mulP s (puE f g h m)) (d := h) hn (by rw [mulP_mul]; exact he0.mul_zero_l _) hdl hd1
  refine lift_fac hm hn (q := cf (puQ (mulP s (puE f g h m)) h m)) (r := cf (puR (mulP s (puE f g h m)) h m)) h1 h2 he hd z1 z2 ?_ ?_
  · refine (redP_cg _ _).trans (Cg.of ?_)
    rw [addP_p, addP_p, mulP_mul, mulP_mul]
  · refine (redP_cg _ _).trans (Cg.of ?_)
    rw [addP_p]
theorem pu_bez {n m : Int} (hm : m ∣ n * n) (hn : n ∣ m) {g h s t : List Zr} (h2 : Cg n ((cf s : Pz) * cf g + (cf t : Pz) * cf h) (pc 1)) (hdl : 0 < h.length) (hd1 : cf h (h.length - 1) = 1) :
    Cg m ((cf (puS g h s t m) : Pz) * cf g + (cf (puT g h s t m) : Pz) * cf h) (pc 1) := by
  have hb : Cg m (cf (puB g h s t m)) ((cf s : Pz) * cf g + (cf t : Pz) * cf h - pc 1) := by
    refine (redP_cg _ _).trans (Cg.of ?_)
    rw [subP_p, addP_p, mulP_mul, mulP_mul, oneP_cf]
  have hd : Cg m ((cf s : Pz) * cf (puB g h s t m)) ((cf (puQ (mulP s (puB g h s t m)) h m) : Pz) * cf h + cf (puR (mulP s (puB g h s t m)) h m)) := by
    rw [← mulP_mul]
    exact div_cg hdl hd1
  refine lift_bez hm hn h2 hb hd ?_ ?_
  · refine (redP_cg _ _).trans (Cg.of ?_)
    rw [subP_p]
  · refine (redP_cg _ _).trans (Cg.of ?_)
    rw [subP_p, addP_p, mulP_mul, mulP_mul]
/-- what leads a product whose second factor leads with one -/
theorem mul_top {a b : List Zr} (hal : 0 < a.length) (hbl : 0 < b.length) (hb : cf b (b.length - 1) = 1) : ((cf a : Pz) * cf b) (a.length - 1 + (b.length - 1)) = cf a (a.length - 1) := by
  rw [p_mul, sumN_single (i := a.length - 1) fun i hi => ?_, if_pos (by omega), show a.length - 1 + (b.length - 1) - (a.length - 1) = b.length - 1 by omega, hb, Int.mul_one]
  by_cases h : i < a.length - 1
  · rw [cf_ge (p := b) (by omega), Int.mul_zero]
  · rw [cf_ge (p := a) (by omega), Int.zero_mul]
/-- reduced factors of a reduced product: the degrees add up -/
theorem fac_deg {m : Int} {f g h : List Zr} (hm : 2 ≤ m) (hg : redP g m = g) (hf : redP f m = f) (hfl : 0 < f.length) (hdl : 0 < h.length) (hd1 : cf h (h.length - 1) = 1) (hc : Cg m (cf f) ((cf g : Pz) * cf h)) :
    f.length = g.length + (h.length - 1) ∧ 0 < g.length ∧ cf g (g.length - 1) = cf f (f.length - 1) := by
  have hgc := redP_can g m
  have hfc := redP_can f m
  rw [hg] at hgc
  rw [hf] at hfc
  have hgm : ∀ k, cf g k % m = cf g k := fun k => by rw [← redP_cf, hg]
  have hfm : ∀ k, cf f k % m = cf f k := fun k => by rw [← redP_cf, hf]
  have hft := can_top hfc (by omega)
  have g0 : 0 < g.length := by
    refine Nat.pos_of_ne_zero fun h0 => hft ?_
    rw [← hfm, hc, p_mul, sumN_zero fun i hi => by rw [cf_ge (p := g) (by omega), Int.zero_mul], Int.zero_emod]
  have hgt := can_top hgc (by omega)
  have ht := hc (g.length - 1 + (h.length - 1))
  rw [mul_top g0 hdl hd1, hfm, hgm] at ht
  have e1 : f.length = g.length + (h.length - 1) := by
    refine Nat.le_antisymm (can_le hfc fun k hk => ?_) (Nat.le_of_not_lt fun hlt => ?_)
    · rw [← hfm, hc, p_mul_out (n := g.length) (m := h.length) (fun j hj => cf_ge hj) (fun j hj => cf_ge hj) (by omega), Int.zero_emod]
    · rw [cf_ge (p := f) (by omega)] at ht
      exact hgt ht.symm
  refine ⟨e1, g0, ?_⟩
  rw [← ht]
  congr 1; omega
end Go.Proofs.YtjnjfinbdfolkaaGreat
end

section
set_option linter.unusedVariables false
set_option linter.unusedSimpArgs false
namespace Go.Proofs.YtjnjfinbdfolkaaGreat
/-- where the search stands -/
structure ZbI (a b : Nat) (r0 r1 : Nat) (u0 v0 u1 v1 : Int) : Prop where
  p0 : 0 < r0
  le0 : r0 ≤ max a b
  le1 : r1 ≤ max a b
  e0 : u0 * a + v0 * b = r0
  e1 : u1 * a + v1 * b = r1
  g : Nat.gcd r0 r1 = Nat.gcd a b
  su : ∃ x y : Nat, ((u0 = x ∧ u1 = -y) ∨ (u0 = -x ∧ u1 = y)) ∧ r0 * y + r1 * x = b
  sv : ∃ x y : Nat, ((v0 = x ∧ v1 = -y) ∨ (v0 = -x ∧ v1 = y)) ∧ r0 * y + r1 * x = a
  bu0 : u0.natAbs ≤ b
  bu1 : u1.natAbs ≤ b
  bv0 : v0.natAbs ≤ a
  bv1 : v1.natAbs ≤ a
theorem sgn_step {r0 r1 c : Nat} {u0 u1 : Int} (hr : 0 < r1) (h : ∃ x y : Nat, ((u0 = x ∧ u1 = -y) ∨ (u0 = -x ∧ u1 = y)) ∧ r0 * y + r1 * x = c) :
    (∃ x y : Nat, ((u1 = x ∧ u0 - ((r0 / r1 : Nat) : Int) * u1 = -y) ∨ (u1 = -x ∧ u0 - ((r0 / r1 : Nat) : Int) * u1 = y)) ∧ r1 * y + r0 % r1 * x = c) ∧ (u0 - ((r0 / r1 : Nat) : Int) * u1).natAbs ≤ c := by
  obtain ⟨x, y, hs, he⟩ := h
  have hdm := Nat.div_add_mod r0 r1
  generalize r0 / r1 = q at *
  generalize r0 % r1 = r2 at *
  have e1 : r1 * (x + q * y) + r2 * y = c := by
    rw [Nat.mul_add, ← Nat.mul_assoc]
    have : r0 * y = r1 * q * y + r2 * y := by rw [← Nat.add_mul, hdm]
    omega
  have hb : x + q * y ≤ c := by
    have h3 : 1 * (x + q * y) ≤ r1 * (x + q * y) := Nat.mul_le_mul_right _ (by omega)
    omega
  have hcast : ((q * y : Nat) : Int) = (q : Int) * (y : Int) := by simp
  rcases hs with ⟨a1, a2⟩ | ⟨a1, a2⟩
  · rw [a1, a2, Int.mul_neg, ← hcast]
    exact ⟨⟨y, x + q * y, .inr ⟨rfl, by omega⟩, e1⟩, by omega⟩
  · rw [a1, a2, ← hcast]
    exact ⟨⟨y, x + q * y, .inl ⟨rfl, by omega⟩, e1⟩, by omega⟩
theorem ZbI.step {a b r0 r1 : Nat} {u0 v0 u1 v1 : Int} (h : ZbI a b r0 r1 u0 v0 u1 v1) (hr : 0 < r1) : ZbI a b r1 (r0 % r1) u1 v1 (u0 - ((r0 / r1 : Nat) : Int) * u1) (v0 - ((r0 / r1 : Nat) : Int) * v1) := by
  obtain ⟨s1, s2⟩ := sgn_step hr h.su
  obtain ⟨t1, t2⟩ := sgn_step hr h.sv
  have hdm := Nat.div_add_mod r0 r1
  have hml := Nat.mod_lt r0 hr
  have hl1 := h.le1
  refine ⟨hr, hl1, by omega, h.e1, ?_, ?_, s1, t1, h.bu1, s2, h.bv1, t2⟩
  · have e0 := h.e0
    have e1 := h.e1
    have hc : (r0 : Int) = (r1 : Int) * ((r0 / r1 : Nat) : Int) + ((r0 % r1 : Nat) : Int) := by
      have : (r0 : Int) = ((r1 * (r0 / r1) + r0 % r1 : Nat) : Int) := by rw [hdm]
      rw [this]; simp
    generalize ((r0 / r1 : Nat) : Int) = q at *
    generalize ((r0 % r1 : Nat) : Int) = r2 at *
    rw [Int.sub_mul, Int.sub_mul, Int.mul_assoc, Int.mul_assoc]
    have e2 : q * (u1 * a) + q * (v1 * b) = r1 * q := by rw [← Int.mul_add, e1, Int.mul_comm]
    omega
  · rw [← h.g, Nat.gcd_comm r1, ← Nat.gcd_rec, Nat.gcd_comm]
theorem Bz.nat {K n : Nat} (h : n < 18446744073709551616 ^ K) : Bz K (n : Int) := by unfold Bz; rw [Int.natAbs_natCast]; exact h
theorem M_zint_line_less_eq {fu K : Nat} {q x0 y0 z0 x1 y1 z1 : Int} (hq : Bz K q) (h1 : Bz K x0) (h2 : Bz K y0) (h3 : Bz K z0) (h4 : Bz K x1) (h5 : Bz K y1) (h6 : Bz K z1) (hK : K ≤ 10000) (hf : 3000000 ≤ fu) :
    M_zint_line_less fu (ofI x0, (ofI y0, ofI z0)) (ofI q) (ofI x1, (ofI y1, ofI z1)) = some (ofI (x0 - q * x1), (ofI (y0 - q * y1), ofI (z0 - q * z1))) := by
  unfold M_zint_line_less
  have b1 := hq.mul h4
  have b2 := hq.mul h5
  have b3 := hq.mul h6
  simp only []
  rw [bd_t (M_zint_Mul_eq' (hq.ok (by omega)) (h4.ok (by omega)) hf), zv_ofI, zv_ofI, bd_t (M_zint_Sub_eq (h1.ok (by omega)) (b1.ok (by omega)) hf), zv_ofI, zv_ofI, bd_t (M_zint_Mul_eq' (hq.ok (by omega)) (h5.ok (by omega)) hf), zv_ofI, zv_ofI, bd_t (M_zint_Sub_eq (h2.ok (by omega)) (b2.ok (by omega)) hf), zv_ofI, zv_ofI, bd_t (M_zint_Mul_eq' (hq.ok (by omega)) (h6.ok (by omega)) hf), zv_ofI, zv_ofI, bd_t (M_zint_Sub_eq (h3.ok (by omega)) (b3.ok (by omega)) hf), zv_ofI, zv_ofI]
theorem half_bl {r0 r1 : Nat} (h : r1 ≤ r0) (hr : 0 < r1) : bl (r0 % r1) < bl r0 := by
  have hdm := Nat.div_add_mod r0 r1
  have hml := Nat.mod_lt r0 hr
  have hq : 1 ≤ r0 / r1 := (Nat.le_div_iff_mul_le hr).2 (by omega)
  have h1 : r1 * 1 ≤ r1 * (r0 / r1) := Nat.mul_le_mul_left _ hq
  have hb := lt_bl r0
  have hp : 1 ≤ bl r0 := by rw [bl_pos (by omega)]; omega
  have e : 2 ^ bl r0 = 2 * 2 ^ (bl r0 - 1) := by rw [← Nat.pow_succ', show (bl r0 - 1).succ = bl r0 by omega]
  have := bl_le (n := r0 % r1) (k := bl r0 - 1) (by omega)
  omega
theorem zbez_loop {fu a b K : Nat} (ha : a < 18446744073709551616 ^ K) (hb : b < 18446744073709551616 ^ K) (hK : K ≤ 1000) (hf : 3000000 ≤ fu) {r0 r1 : Nat} {u0 v0 u1 v1 : Int} (hI : ZbI a b r0 r1 u0 v0 u1 v1) :
    ∃ r, loopN (B_zint_Bezout_0 fu) fu ((ofI r0, (ofI u0, ofI v0)), (ofI r1, (ofI u1, ofI v1))) = some r ∧ ∃ u v : Int, r = (ofI (Nat.gcd a b : Nat), (ofI u, ofI v)) ∧ u * a + v * b = (Nat.gcd a b : Nat) ∧ u.natAbs ≤ b ∧ v.natAbs ≤ a := by
  have hbl : ∀ {n : Nat}, n ≤ max a b → bl n ≤ 64 * K := fun {n} hn => bl_le (by
    rw [Nat.pow_mul, two64]
    omega)
  refine loop_ex (fun s : (Zr × (Zr × Zr)) × (Zr × (Zr × Zr)) => ∃ (r0 r1 : Nat) (u0 v0 u1 v1 : Int), s = ((ofI r0, (ofI u0, ofI v0)), (ofI r1, (ofI u1, ofI v1))) ∧ ZbI a b r0 r1 u0 v0 u1 v1) (fun s => bl (zv s.1.1).natAbs + bl (zv s.2.1).natAbs + if (zv s.1.1).natAbs < (zv s.2.1).natAbs then 1 else 0) _ ?_ _ _ ⟨r0, r1, u0, v0, u1, v1, rfl, hI⟩ ?_
  · rintro s L ⟨r0, r1, u0, v0, u1, v1, rfl, hI⟩ ih
    have hz : ∀ x : Int, x.natAbs ≤ max a b → Bz K x := fun x hx => by unfold Bz; omega
    have z0 : Bz K (r0 : Int) := hz _ (by have := hI.le0; omega)
    have z1 : Bz K (r1 : Int) := hz _ (by have := hI.le1; omega)
    unfold B_zint_Bezout_0
    simp only []
    rw [bd_t (M_zint_Sign_eq (z1.ok (by omega)) hf), zv_ofI]
    by_cases h0 : r1 = 0
    · rw [if_pos (cmpI_zero.2 (by omega))]
      have hg := hI.g
      rw [h0, Nat.gcd_zero_right] at hg
      exact ⟨_, rfl, u0, v0, by rw [hg], by rw [hI.e0, hg], hI.bu0, hI.bv0⟩
    · rw [if_neg (fun e => h0 (by have := cmpI_zero.1 e; omega)), bd_t (M_zint_Div_eq (z0.okS (by omega)) (z1.okS (by omega)) hf), zv_ofI, zv_ofI]
      unfold divR
      rw [if_neg (by omega)]
      simp only []
      have hq : ((r0 : Int) / (r1 : Int)) = ((r0 / r1 : Nat) : Int) := rfl
      have zq : Bz K ((r0 / r1 : Nat) : Int) := Bz.nat (by
        have h1 := Nat.div_le_self r0 r1
        have h2 := hI.le0
        omega)
      have hst := hI.step (by omega)
      have hdm := Nat.div_add_mod r0 r1
      have hnew : (r0 : Int) - ((r0 / r1 : Nat) : Int) * (r1 : Int) = ((r0 % r1 : Nat) : Int) := by
        have : (r0 : Int) = ((r1 * (r0 / r1) + r0 % r1 : Nat) : Int) := by rw [hdm]
        conv => lhs; rw [this]
        rw [hdm]
        have h2 : (r0 : Int) = (r1 : Int) * ((r0 / r1 : Nat) : Int) + ((r0 % r1 : Nat) : Int) := by
          rw [this]; simp
        rw [Int.mul_comm]; omega
      rw [hq, bd_t (M_zint_line_less_eq zq z0 (hz _ (by have := hI.bu0; omega)) (hz _ (by have := hI.bv0; omega)) z1 (hz _ (by have := hI.bu1; omega)) (hz _ (by have := hI.bv1; omega)) (by omega) hf), hnew]
      refine ih _ ⟨_, _, _, _, _, _, rfl, hst⟩ ?_
      simp only [zv_ofI, Int.natAbs_natCast]
      have hml := Nat.mod_lt r0 (show 0 < r1 by omega)
      rw [if_neg (by omega)]
      by_cases hlt : r0 < r1
      · rw [if_pos hlt, Nat.mod_eq_of_lt hlt]; omega
      · have := half_bl (r0 := r0) (r1 := r1) (by omega) (by omega)
        omega
  · simp only [zv_ofI, Int.natAbs_natCast]
    have h1 := hbl hI.le0
    have h2 := hbl hI.le1
    split <;> omega
theorem M_zint_Bezout_ex {fu a b K : Nat} {x y : Zr} (hx : Limbs x.2) (hy : Limbs y.2) (hxl : x.2.length ≤ K) (hyl : y.2.length ≤ K) (hxa : zv x = (a : Int)) (hyb : zv y = (b : Int)) (ha : 0 < a) (hb : 0 < b) (hK : K ≤ 1000) (hf : 3000000 ≤ fu) :
    ∃ u v : Int, M_zint_Bezout fu x y = some (ofI (Nat.gcd a b : Nat), ofI u, ofI v) ∧ u * a + v * b = (Nat.gcd a b : Nat) ∧ u.natAbs ≤ b ∧ v.natAbs ≤ a := by
  have na : nv x.2 = a := by have := natAbs_zv x; omega
  have nb : nv y.2 = b := by have := natAbs_zv y; omega
  have hA : a < 18446744073709551616 ^ K := by rw [← na]; exact Nat.lt_of_lt_of_le (nv_lt hx) (Nat.pow_le_pow_right (by decide) hxl)
  have hB : b < 18446744073709551616 ^ K := by rw [← nb]; exact Nat.lt_of_lt_of_le (nv_lt hy) (Nat.pow_le_pow_right (by decide) hyl)
  have hI : ZbI a b a b 1 0 0 1 := by
    refine ⟨ha, Nat.le_max_left _ _, Nat.le_max_right _ _, by omega, by omega, rfl, ⟨1, 0, .inl ⟨rfl, rfl⟩, by omega⟩, ⟨0, 1, .inr ⟨rfl, rfl⟩, by omega⟩, by omega, by omega, by omega, by omega⟩
  obtain ⟨r, e1, u, v, rfl, e2, e3, e4⟩ := zbez_loop (fu := fu) hA hB hK hf hI
  unfold M_zint_Bezout
  rw [bd_t (M_zint_made_eq hx (by omega) (by omega)), bd_t (M_zint_Of_eq' (by decide) hf), bd_t (M_zint_Of_eq' (by decide) hf), bd_t (M_zint_made_eq hy (by omega) (by omega)), bd_t (M_zint_Of_eq' (by decide) hf), bd_t (M_zint_Of_eq' (by decide) hf), if_neg (by decide), if_neg (by decide), na, nb, bd_t e1]
  simp only []
  rw [bd_t (M_zint_Sign_eq ⟨hx, by omega⟩ hf), if_neg (fun e => by rw [hxa, cmpI_gt (by omega)] at e; exact absurd e (by decide)), bd_t rfl, bd_t (M_zint_Sign_eq ⟨hy, by omega⟩ hf), if_neg (fun e => by rw [hyb, cmpI_gt (by omega)] at e; exact absurd e (by decide)), bd_t rfl]
  exact ⟨u, v, rfl, e2, e3, e4⟩
end Go.Proofs.YtjnjfinbdfolkaaGreat
end

section
set_option linter.unusedVariables false
set_option linter.unusedSimpArgs false
namespace Go.Proofs.YtjnjfinbdfolkaaGreat
/-- what divides one, modulo p, and leads with one, is one -/
theorem unit_deg {p : Int} {x : Pz} {d : List Int} (hp : 2 ≤ p) (hx : Fs x) (hd0 : 0 < d.length) (hd : ci d (d.length - 1) = 1) (h : Cg p (x * ci d) (pc 1)) : d.length = 1 := by
  obtain ⟨n, hn⟩ := hx
  obtain ⟨X, hX⟩ : ∃ X, X = nl n (fun k => x k % p) := ⟨_, rfl⟩
  have hXc : ∀ k, ci X k = x k % p := fun k => by
    rw [hX]
    exact nl_ci (fun j hj => by rw [hn j hj, Int.zero_emod]) k
  have hXn : Nl X := by rw [hX]; exact nl_Nl _ _
  have hcg : Cg p (ci X * ci d) (pc 1) := (Cg.mul (fun k => by rw [hXc, Int.emod_emod]) Cg.rfl).trans h
  rcases hXn with h0 | h0
  · have h1 := hcg 0
    rw [p_mul, sumN_zero fun i hi => by rw [ci_ge (l := X) (by omega), Int.zero_mul]] at h1
    unfold pc at h1
    rw [if_pos rfl, Int.zero_emod, Int.emod_eq_of_lt (by decide) (by omega)] at h1
    cases h1
  · have hXl : 0 < X.length := Nat.pos_of_ne_zero fun e => h0 (ci_ge (by omega))
    have ht : (ci X * ci d) (X.length - 1 + (d.length - 1)) = ci X (X.length - 1) := by
      rw [p_mul, sumN_single (i := X.length - 1) fun i hi => ?_, if_pos (by omega), show X.length - 1 + (d.length - 1) - (X.length - 1) = d.length - 1 by omega, hd, Int.mul_one]
      by_cases hc : i < X.length - 1
      · rw [ci_ge (l := d) (by omega), Int.mul_zero]
      · rw [ci_ge (l := X) (by omega), Int.zero_mul]
    have h1 := hcg (X.length - 1 + (d.length - 1))
    rw [ht, hXc, Int.emod_emod, ← hXc] at h1
    refine Decidable.byContradiction fun hne => ?_
    unfold pc at h1
    rw [if_neg (by omega), Int.zero_emod] at h1
    exact h0 h1
theorem bez_one {p : Int} {g h d s t : List Int} {S : Nat} (hp : 2 ≤ p) (hR : BzR p g h d s t S) (hd : d.length = 0 ∨ ci d (d.length - 1) = 1) (hc : Cop p (ci g) (ci h)) : Cg p (ci s * ci g + ci t * ci h) (pc 1) := by
  obtain ⟨A, C, z1, z2, d1, d2⟩ := hR.dv
  obtain ⟨u, v, z3, z4, hc⟩ := hc
  have hx : Cg p ((u * A + v * C) * ci d) (pc 1) := by
    refine Cg.trans (Cg.of ?_) ((((Cg.rfl (f := u)).mul d1.symm).add ((Cg.rfl (f := v)).mul d2.symm)).trans hc)
    rw [p_add_mul, p_mul_assoc, p_mul_assoc]
  have hd0 : 0 < d.length := by
    refine Nat.pos_of_ne_zero fun e => ?_
    have h1 := hx 0
    rw [p_mul, sumN_zero fun i hi => by rw [ci_ge (l := d) (by omega), Int.mul_zero]] at h1
    unfold pc at h1
    rw [if_pos rfl, Int.zero_emod, Int.emod_eq_of_lt (by decide) (by omega)] at h1
    cases h1
  have hlead := hd.resolve_left (by omega)
  have hl := unit_deg hp ((z3.mul z1).add (z4.mul z2)) hd0 hlead hx
  have e : ci d = pc 1 := by
    funext k
    unfold pc
    by_cases hk : k = 0
    · rw [if_pos hk, hk, ← hlead, hl]
    · rw [if_neg hk, ci_ge (by omega)]
  have := hR.cg
  rw [e] at this
  exact this.symm
theorem prm_nodiv {p : Int} (hp : prm p = true) : NoDiv p.toNat := by
  refine Classical.byContradiction fun h => ?_
  rw [prm_f (fun e => h e.2.2)] at hp
  exact absurd hp (by decide)
theorem pow_lim {P k N : Nat} (h1 : 1 ≤ P) (h2 : P ≤ 65521) (hk : k ≤ 4 * N) (hN : 0 < N) : P ^ k < 18446744073709551616 ^ N := by
  rw [show (18446744073709551616 : Nat) = 65536 ^ 4 by decide, ← Nat.pow_mul]
  exact Nat.lt_of_le_of_lt (Nat.pow_le_pow_right (by omega) hk) (Nat.pow_lt_pow_left (by omega) (by omega))
theorem pow_bz {p : Int} (hp : prm p = true) {k : Nat} (hk : k ≤ 1000) : Bz 250 (p ^ k) := by
  obtain ⟨p1, p2⟩ := prm_rng hp
  obtain ⟨P, rfl⟩ := Int.eq_ofNat_of_zero_le (show 0 ≤ p by omega)
  unfold Bz
  rw [Int.natAbs_pow, Int.natAbs_natCast]
  exact pow_lim (by omega) (by omega) hk (by decide)
theorem pow_ge {p : Int} (hp : prm p = true) {k : Nat} (hk : 1 ≤ k) : 2 ≤ p ^ k := by
  obtain ⟨p1, p2⟩ := prm_rng hp
  obtain ⟨P, rfl⟩ := Int.eq_ofNat_of_zero_le (show 0 ≤ p by omega)
  have h1 : P ^ 1 ≤ P ^ k := Nat.pow_le_pow_right (by omega) hk
  rw [Nat.pow_one] at h1
  rw [← Int.natCast_pow]
  omega
theorem pow_dvd {p : Int} {i j : Nat} (h : i ≤ j) : p ^ i ∣ p ^ j := ⟨p ^ (j - i), by rw [← Int.pow_add, show i + (j - i) = j by omega]⟩
theorem cop_pow {p c : Int} (hp : prm p = true) (hc : c % p ≠ 0) (hc0 : 0 ≤ c) {k : Nat} : Nat.gcd c.toNat (p ^ k).toNat = 1 := by
  obtain ⟨p1, p2⟩ := prm_rng hp
  have hnd := prm_nodiv hp
  obtain ⟨P, rfl⟩ := Int.eq_ofNat_of_zero_le (show 0 ≤ p by omega)
  obtain ⟨C, rfl⟩ := Int.eq_ofNat_of_zero_le hc0
  rw [← Int.natCast_pow, Int.toNat_natCast, Int.toNat_natCast]
  have hm := Nat.mod_lt C (show 0 < P by omega)
  have h1 : Nat.gcd P (C % P) = 1 := prime_cop (by omega) hnd (by omega) hm
  have h2 : Nat.gcd C P = 1 := by rw [Nat.gcd_comm, Nat.gcd_rec, Nat.gcd_comm]; exact h1
  exact Nat.Coprime.pow_right k h2
/-- a list that is reduced modulo m, with coefficients of so many limbs -/
structure Rd (K : Nat) (m : Int) (f : List Zr) : Prop where
  ok : OkP K f
  rd : redP f m = f
theorem Rd.mod {K : Nat} {m : Int} {f : List Zr} (h : Rd K m f) (k : Nat) : cf f k % m = cf f k := by rw [← redP_cf, h.rd]
theorem Rd.can {K : Nat} {m : Int} {f : List Zr} (h : Rd K m f) : f = nzp f.length (cf f) := by have := redP_can f m; rw [h.rd] at this; exact this
theorem redP_rd {K : Nat} {m : Int} (hm : Bz K m) (h0 : 0 < m) (a : List Zr) : Rd K m (redP a m) := ⟨redP_ok hm h0, redP_ext fun k => by rw [redP_cf, Int.emod_emod]⟩
theorem M_hensel_one_ex {fu k : Nat} {p : Int} {f : List Zr} (hp : prm p = true) (hk1 : 1 ≤ k) (hk : k ≤ 1000) (hF : Rd 250 (p ^ k) f) (hfl : 0 < f.length) (hfb : f.length ≤ 1000) (htop : cf f (f.length - 1) % p ≠ 0) (hf : 3000000 ≤ fu) :
    ∃ w u, M_hensel_one fu f (ofI (p ^ k)) = some w ∧ Rd 250 (p ^ k) w ∧ w.length = f.length ∧ cf w (w.length - 1) = 1 ∧ (u * cf f (f.length - 1)) % p ^ k = 1 ∧ Cg (p ^ k) (cf w) (pc u * cf f) := by
  have hmB := pow_bz hp hk
  have hm2 := pow_ge hp hk1
  obtain ⟨m, hm⟩ : ∃ m, m = p ^ k := ⟨_, rfl⟩
  have hcop := cop_pow (k := k) hp htop (by
    rw [← hF.mod]
    exact Int.emod_nonneg _ (by omega))
  rw [← hm] at hmB hm2 hF hcop ⊢
  obtain ⟨c, hc⟩ : ∃ c, c = cf f (f.length - 1) := ⟨_, rfl⟩
  have hcr := red_rng (a := c) (p := m) (by omega)
  have hcm := hF.mod (f.length - 1)
  rw [← hc] at hcm htop hcop ⊢
  rw [hcm] at hcr
  have hc0 : c ≠ 0 := fun e => htop (by rw [e, Int.zero_emod])
  have hcB : Bz 250 c := hmB.le (by omega)
  have hg := hF.ok.get (f.length - 1)
  obtain ⟨u, v, e1, e2, e3, e4⟩ := M_zint_Bezout_ex (fu := fu) (K := 250) (a := c.toNat) (b := m.toNat) (x := f.getD (f.length - 1) (false, [])) (y := ofI m) hg.1 (ofI_limbs _) hg.2 hmB.len (by rw [cf_d, ← hc]; omega) (by rw [zv_ofI]; omega) (by omega) (by omega) (by decide) hf
  rw [hcop] at e2
  have huB : Bz 250 u := hmB.le (by omega)
  have hu1 : (u * c) % m = 1 := by
    have : u * c = 1 + m * (-v) := by
      rw [Int.toNat_of_nonneg hcr.1, Int.toNat_of_nonneg (show 0 ≤ m by omega)] at e2
      rw [Int.mul_neg, Int.mul_comm m v]
      omega
    rw [this, Int.add_mul_emod_self_left]
    exact Int.emod_eq_of_lt (by decide) (by omega)
  have hmS : OkS (ofI m) := hmB.okS (by decide)
  obtain ⟨sc, hsc⟩ : ∃ sc, sc = nzp f.length (fun j => cf f j * u) := ⟨_, rfl⟩
  have hscO : OkP (250 + 250) sc := by rw [hsc]; exact OkP_nzp fun j => (hF.ok.bz j).mul huB
  have hscl : sc.length ≤ f.length := by rw [hsc, nzp_len]; exact dg_le _ _
  have hscc : ∀ j, cf sc j = cf f j * u := fun j => by rw [hsc]; exact nzp_cf (fun i hi => cf_mul_out hi) j
  have hwc : ∀ j, cf (redP sc m) j = cf f j * u % m := fun j => by rw [redP_cf, hscc]
  have hw1 : cf (redP sc m) (f.length - 1) = 1 := by rw [hwc, ← hc, Int.mul_comm, hu1]
  have hwl : (redP sc m).length = f.length := by
    refine Nat.le_antisymm (can_le (redP_can _ _) fun j hj => ?_) (Nat.le_of_not_lt fun hlt => ?_)
    · rw [hwc, cf_ge hj, Int.zero_mul, Int.zero_emod]
    · rw [cf_ge (by omega)] at hw1
      cases hw1
  refine ⟨redP sc m, u, ?_, redP_rd hmB (by omega) _, hwl, by rw [hwl]; exact hw1, hu1, fun j => ?_⟩
  · unfold M_hensel_one
    rw [show ((f.length : Nat) : Int) - 1 = ((f.length - 1 : Nat) : Int) by omega, ck64_t ⟨by omega, by omega⟩, ckI_n (by omega), nm_t, bd_t e1]
    simp only []
    rw [bd_t (M_zpoly_Scale_eq (l := 250) hF.ok ⟨ofI_limbs _, huB.len⟩ (by decide) (by omega) hf), zv_ofI, ← hsc, bd_t (red_low hscO (by decide) hmS (by rw [zv_ofI]; omega) (by omega) hf), zv_ofI]
  · rw [hwc, pc_mul, Int.emod_emod, Int.mul_comm]
end Go.Proofs.YtjnjfinbdfolkaaGreat
end

section
set_option linter.unusedVariables false
set_option linter.unusedSimpArgs false
namespace Go.Proofs.YtjnjfinbdfolkaaGreat
/-- where a lifting stands: all holds modulo p^i -/
structure TrI (p : Int) (k : Nat) (f g0 h0 : List Zr) (lh LS i : Nat) (G H S T : List Zr) : Prop where
  i1 : 1 ≤ i
  ik : i ≤ k
  rG : Rd 250 (p ^ i) G
  rH : Rd 250 (p ^ i) H
  rS : Rd 250 (p ^ i) S
  rT : Rd 250 (p ^ i) T
  hl : H.length = lh
  h1 : cf H (lh - 1) = 1
  fac : Cg (p ^ i) (cf f) ((cf G : Pz) * cf H)
  bez : Cg (p ^ i) ((cf S : Pz) * cf G + (cf T : Pz) * cf H) (pc 1)
  gp : Cg p (cf G) (cf g0)
  hp : Cg p (cf H) (cf h0)
  sl : S.length ≤ LS
/-- a reduced cofactor is no longer than what it makes up for -/
theorem cof_len {m : Int} {G H S T : List Zr} {K : Nat} (hm : 2 ≤ m) (hT : Rd K m T) (hl : 0 < H.length) (h1 : cf H (H.length - 1) = 1) (hb : Cg m ((cf S : Pz) * cf G + (cf T : Pz) * cf H) (pc 1)) : T.length ≤ S.length + G.length + 1 := by
  refine Nat.le_of_not_lt fun hlt => ?_
  have ht := can_top hT.can (by omega)
  have hp := hb (T.length - 1 + (H.length - 1))
  rw [p_add, mul_top (by omega) hl h1, p_mul_out (n := S.length) (m := G.length) (fun j hj => cf_ge hj) (fun j hj => cf_ge hj) (by omega), Int.zero_add, hT.mod] at hp
  unfold pc at hp
  rw [if_neg (by omega), Int.zero_emod] at hp
  exact ht hp
theorem red_top {p : Int} {k i : Nat} {f : List Zr} (hi : 1 ≤ i) (htop : cf f (f.length - 1) % p ≠ 0) (hfl : 0 < f.length) : (redP f (p ^ i)).length = f.length := by
  refine Nat.le_antisymm (redP_len _ _) (Nat.le_of_not_lt fun hlt => htop ?_)
  have h : cf (redP f (p ^ i)) (f.length - 1) = 0 := cf_ge (by omega)
  rw [redP_cf] at h
  have hd : p ∣ p ^ i := by
    have := pow_dvd (p := p) hi
    rw [Int.pow_succ, Int.pow_zero, Int.one_mul] at this
    exact this
  rw [← Int.emod_emod_of_dvd _ hd, h, Int.zero_emod]
theorem TrI.lens {p : Int} {k : Nat} {f g0 h0 : List Zr} {lh LS i : Nat} {G H S T : List Zr} (h : TrI p k f g0 h0 lh LS i G H S T) (hp : prm p = true) (htop : cf f (f.length - 1) % p ≠ 0) (hfl : 0 < f.length) (hlh : 0 < lh) :
    f.length = G.length + (lh - 1) ∧ 0 < G.length ∧ cf G (G.length - 1) = cf f (f.length - 1) % p ^ i ∧ T.length ≤ LS + G.length + 1 := by
  have hm2 := pow_ge hp h.i1
  have hl := h.hl
  have h1 := h.h1
  rw [← hl] at h1
  have hrl := red_top (k := k) h.i1 htop hfl
  obtain ⟨e1, e2, e3⟩ := fac_deg hm2 h.rG.rd (f := redP f (p ^ i)) (redP_ext fun j => by rw [redP_cf, Int.emod_emod]) (by omega) (by omega) h1 ((redP_cg _ _).trans h.fac)
  have e4 := cof_len hm2 h.rT (by omega) h1 h.bez
  have := h.sl
  rw [hrl, redP_cf] at e3
  exact ⟨by omega, e2, e3, by omega⟩
theorem pow_two {p : Int} {i j : Nat} (h : j ≤ i + i) : p ^ j ∣ p ^ i * p ^ i := by rw [← Int.pow_add]; exact pow_dvd h
theorem dvd_pow_self {p : Int} {i : Nat} (h : 1 ≤ i) : p ∣ p ^ i := by
  have := pow_dvd (p := p) h
  rw [Int.pow_succ, Int.pow_zero, Int.one_mul] at this
  exact this
theorem TrI.step {fu k : Nat} {p : Int} {f g0 h0 : List Zr} {lh LS i : Nat} {G H S T : List Zr} (h : TrI p k f g0 h0 lh LS i G H S T) (hp : prm p = true) (hk : k ≤ 1000) (hfO : OkP 250 f) (htop : cf f (f.length - 1) % p ≠ 0) (hfl : 0 < f.length) (hlh : 0 < lh) (hik : i < k) (hb1 : f.length ≤ 300) (hb2 : LS ≤ 4500) (hb3 : lh ≤ LS) (hf : 3000000 ≤ fu) :
    ∃ G' H' S' T', M_hensel_pair_up fu [G, H, S, T] f (ofI (p ^ min (2 * i) k)) = some [G', H', S', T'] ∧ TrI p k f g0 h0 lh LS (min (2 * i) k) G' H' S' T' := by
  obtain ⟨j, hj⟩ : ∃ j, j = min (2 * i) k := ⟨_, rfl⟩
  have hi1 := h.i1
  obtain ⟨l1, l2, l3, l4⟩ := h.lens hp htop hfl hlh
  have hmB := pow_bz hp (k := j) (by omega)
  have hm2 := pow_ge hp (k := j) (by omega)
  have hl := h.hl
  have h1 := h.h1
  have hsl := h.sl
  rw [← hl] at h1
  have hpu := M_hensel_pair_up_eq (fu := fu) (K := 250) (W := 5000) hfO h.rG.ok h.rH.ok h.rS.ok h.rT.ok (by omega) (by omega) (by omega) (by omega) (by omega) (Nat.le_refl _) (by decide) (by decide) (ofI_limbs (p ^ j)) hmB.len (by rw [zv_ofI]; exact hm2) (by omega) h1 hf
  rw [zv_ofI] at hpu
  rw [← hj]
  refine ⟨_, _, _, _, hpu, ?_⟩
  have d1 : p ^ j ∣ p ^ i * p ^ i := pow_two (by omega)
  have d2 : p ^ i ∣ p ^ j := pow_dvd (by omega)
  have d3 : p ∣ p ^ i := dvd_pow_self hi1
  obtain ⟨f1, f2, f3⟩ := pu_fac d1 d2 h.fac h.bez (by omega) h1
  obtain ⟨t1, t2⟩ := puH_top (f := f) (g := G) (s := S) hm2 (by omega) h1
  have hbez' : Cg (p ^ i) ((cf S : Pz) * cf (puG f G H S T (p ^ j)) + (cf T : Pz) * cf (puH f G H S (p ^ j))) (pc 1) := ((Cg.rfl.mul f2).add (Cg.rfl.mul f3)).trans h.bez
  have hbz := pu_bez d1 d2 hbez' (by omega) (by rw [t1]; exact t2)
  have hsh := puR_short (x := mulP S (puB (puG f G H S T (p ^ j)) (puH f G H S (p ^ j)) S T (p ^ j))) (d := puH f G H S (p ^ j)) (m := p ^ j) (by omega) (by rw [t1]; exact t2)
  refine ⟨by omega, by omega, redP_rd hmB (by omega) _, redP_rd hmB (by omega) _, redP_rd hmB (by omega) _, redP_rd hmB (by omega) _, by omega, by rw [hl] at t2; exact t2, f1, hbz, (f2.down d3).trans h.gp, (f3.down d3).trans h.hp, ?_⟩
  have e1 := redP_len (subP S (puR (mulP S (puB (puG f G H S T (p ^ j)) (puH f G H S (p ^ j)) S T (p ^ j))) (puH f G H S (p ^ j)) (p ^ j))) (p ^ j)
  have e2 := subP_len S (puR (mulP S (puB (puG f G H S T (p ^ j)) (puH f G H S (p ^ j)) S T (p ^ j))) (puH f G H S (p ^ j)) (p ^ j))
  show (redP _ _).length ≤ LS
  omega
theorem power_ok {fu j : Nat} {p : Int} (hp : prm p = true) (h1 : 1 ≤ j) (h2 : j ≤ 1000) (hf : 3000000 < fu) : M_hensel_Power fu p (j : Int) = some (ofI (p ^ j), 0) := by
  rw [M_hensel_Power_eq hf]
  unfold powR
  rw [if_pos ⟨hp, by omega, by omega⟩, Int.toNat_natCast]
theorem tree_loop {fu k : Nat} {p : Int} {f g0 h0 : List Zr} {lh LS : Nat} {G H S T : List Zr} (h : TrI p k f g0 h0 lh LS 1 G H S T) (hp : prm p = true) (hk : k ≤ 1000) (hfO : OkP 250 f) (htop : cf f (f.length - 1) % p ≠ 0) (hfl : 0 < f.length) (hlh : 0 < lh) (hb1 : f.length ≤ 300) (hb2 : LS ≤ 4500) (hb3 : lh ≤ LS) (hf : 3000000 < fu) :
    ∃ G' H' S' T', loopN (B_hensel_tree_0 fu f p (k : Int)) fu (1, [G, H, S, T]) = some [G', H', S', T'] ∧ TrI p k f g0 h0 lh LS k G' H' S' T' := by
  obtain ⟨r, e1, G', H', S', T', rfl, e2⟩ := loop_ex (f := B_hensel_tree_0 fu f p (k : Int)) (fun s : Int × List (List Zr) => ∃ (i : Nat) (G H S T : List Zr), s = ((i : Int), [G, H, S, T]) ∧ TrI p k f g0 h0 lh LS i G H S T) (fun s => k - s.1.toNat) (fun r => ∃ G H S T, r = [G, H, S, T] ∧ TrI p k f g0 h0 lh LS k G H S T) (by
    rintro s L ⟨i, G, H, S, T, rfl, h⟩ ih
    unfold B_hensel_tree_0
    simp only []
    have hi1 := h.i1
    have hik := h.ik
    by_cases h3 : i < k
    · obtain ⟨G', H', S', T', e1, e2⟩ := h.step (fu := fu) hp hk hfO htop hfl hlh h3 hb1 hb2 hb3 (by omega)
      have ej : min (2 * (i : Int)) (k : Int) = ((min (2 * i) k : Nat) : Int) := by omega
      rw [if_pos (by omega), ck64_t ⟨by omega, by omega⟩, nm_t, ej, bd_t (power_ok hp (by omega) (by omega) hf)]
      simp only []
      rw [bd_t e1]
      exact ih _ ⟨_, _, _, _, _, rfl, e2⟩ (by show k - ((min (2 * i) k : Nat) : Int).toNat < k - (i : Int).toNat; omega)
    · rw [if_neg (by omega)]
      obtain rfl : i = k := by omega
      exact ⟨_, rfl, _, _, _, _, rfl, h⟩) fu (1, [G, H, S, T]) ⟨1, _, _, _, _, rfl, h⟩ (by show k - 1 < fu; omega)
  exact ⟨_, _, _, _, e1, e2⟩
end Go.Proofs.YtjnjfinbdfolkaaGreat
end

section
set_option linter.unusedVariables false
set_option linter.unusedSimpArgs false
namespace Go.Proofs.YtjnjfinbdfolkaaGreat
theorem fmul_mon {p : Int} {a b : List Int} (hp : 2 ≤ p) (ha : 0 < a.length) (ha1 : ci a (a.length - 1) = 1) (hb : 0 < b.length) (hb1 : ci b (b.length - 1) = 1) : (fmul p a b).length = a.length + b.length - 1 ∧ ci (fmul p a b) (a.length + b.length - 1 - 1) = 1 := by
  have ht : (ci a * ci b) (a.length - 1 + (b.length - 1)) = 1 := by
    rw [p_mul, sumN_single (i := a.length - 1) fun i hi => ?_, if_pos (by omega), show a.length - 1 + (b.length - 1) - (a.length - 1) = b.length - 1 by omega, hb1, ha1]
    · rfl
    · by_cases hc : i < a.length - 1
      · rw [ci_ge (l := b) (by omega), Int.mul_zero]
      · rw [ci_ge (l := a) (by omega), Int.zero_mul]
  have h1 : ci (fmul p a b) (a.length + b.length - 1 - 1) = 1 := by
    rw [fmul_ci, show a.length + b.length - 1 - 1 = a.length - 1 + (b.length - 1) by omega, ht]
    exact Int.emod_eq_of_lt (by decide) (by omega)
  refine ⟨Nat.le_antisymm ((fmul_fp (by omega) a b).nl.le fun k hk => ?_) (Nat.le_of_not_lt fun hlt => ?_), h1⟩
  · rw [fmul_ci, p_mul_out (n := a.length) (m := b.length) (fun j hj => ci_ge hj) (fun j hj => ci_ge hj) (by omega), Int.zero_emod]
  · rw [ci_ge (by omega)] at h1
    cases h1
theorem fold_mon {p : Int} (hp : 2 ≤ p) : ∀ (fs : List (List Int)) {t : List Int}, 0 < t.length → ci t (t.length - 1) = 1 → (∀ f ∈ fs, PlL p f) → 0 < (fs.foldl (fmul p) t).length ∧ ci (fs.foldl (fmul p) t) ((fs.foldl (fmul p) t).length - 1) = 1
  | [], _, h0, h1, _ => ⟨h0, h1⟩
  | f :: r, t, h0, h1, h => by
    have hf := h f (List.mem_cons_self ..)
    obtain ⟨e1, e2⟩ := fmul_mon hp h0 h1 (show 0 < f.length by have := hf.2.1; omega) hf.2.2
    have := hf.2.1
    exact fold_mon hp r (t := fmul p t f) (by omega) (by rw [e1]; exact e2) fun g hg => h g (List.mem_cons_of_mem _ hg)
theorem prodF_mon {p : Int} (hp : 2 ≤ p) {fs : List (List Int)} (h : ∀ f ∈ fs, PlL p f) : 0 < (prodF p fs).length ∧ ci (prodF p fs) ((prodF p fs).length - 1) = 1 := fold_mon hp fs (by decide) rfl h
theorem zlift_len {l : List Int} (h : Nl l) : (zlift l).length = l.length := by
  unfold zlift
  rw [nzp_len]
  exact dg_uniq (Nat.le_refl _) (fun k h1 h2 => by omega) (h.imp id id)
theorem zlift_rd {p : Int} {l : List Int} (h : Fp p l) (hp2 : p ≤ 65521) : Rd 250 (p ^ 1) (zlift l) := by
  refine ⟨(zlift_ok (h.rl hp2)).mono (by decide), ?_⟩
  rw [Int.pow_succ, Int.pow_zero, Int.one_mul]
  unfold redP
  rw [show (fun j => cf (zlift l) j % p) = cf (zlift l) from funext fun j => by rw [zlift_cf, h.mod]]
  exact nzp_self _ _
theorem Cop.congr {p : Int} {f g f' g' : Pz} (h : Cop p f g) (hf : Cg p f f') (hg : Cg p g g') : Cop p f' g' := by
  obtain ⟨s, t, z1, z2, h⟩ := h
  exact ⟨s, t, z1, z2, ((Cg.rfl.mul hf.symm).add (Cg.rfl.mul hg.symm)).trans h⟩
theorem cop_lists {p : Int} {A B : List (List Int)} (h : ∀ a ∈ A, ∀ b ∈ B, Cop p (ci a) (ci b)) : Cop p (prZ (A.map ci)) (prZ (B.map ci)) := by
  have hA : ∀ f ∈ A.map ci, Fs f := fun f hf => by obtain ⟨a, _, rfl⟩ := List.mem_map.1 hf; exact Fs.ci a
  have hB : ∀ f ∈ B.map ci, Fs f := fun f hf => by obtain ⟨a, _, rfl⟩ := List.mem_map.1 hf; exact Fs.ci a
  refine (Cop.prZ (Fs.prZ hA) hB fun g hg => ?_).symm
  obtain ⟨b, hb, rfl⟩ := List.mem_map.1 hg
  refine (Cop.prZ (Fs.ci b) hA fun f hf => ?_).symm
  obtain ⟨a, ha, rfl⟩ := List.mem_map.1 hf
  exact h a ha b hb
theorem cop_unit {p c : Int} {g : Pz} (hp : prm p = true) (h0 : 0 < c) (h1 : c < p) : Cop p (pc c) g := by
  obtain ⟨x, e1, e2, e3, e4⟩ := M_fp_Inv_ex (fu := 3000000) hp h0 h1 (Nat.le_refl _)
  obtain ⟨p1, p2⟩ := prm_rng hp
  refine ⟨pc x, pc 0, Fs.pc _, Fs.pc _, ?_⟩
  rw [p_zero_mul, pc_pc]
  intro k
  rw [p_add, pc_zero, Int.add_zero]
  unfold pc; split
  · rw [e4]; exact (Int.emod_eq_of_lt (by decide) (by omega)).symm
  · rfl
/-- one by one -/
def All2 {α β : Type} (R : α → β → Prop) : List α → List β → Prop
  | [], [] => True
  | a :: r, b :: s => R a b ∧ All2 R r s
  | _, _ => False
theorem All2.append {α β : Type} {R : α → β → Prop} : ∀ {a : List α} {b : List β} {c : List α} {d : List β}, All2 R a b → All2 R c d → All2 R (a ++ c) (b ++ d)
  | [], [], _, _, _, h => h
  | _ :: _, _ :: _, _, _, h, h' => ⟨h.1, All2.append h.2 h'⟩
theorem All2.len {α β : Type} {R : α → β → Prop} : ∀ {a : List α} {b : List β}, All2 R a b → a.length = b.length
  | [], [], _ => rfl
  | _ :: _, _ :: _, h => by rw [List.length_cons, List.length_cons, h.2.len]
/-- a factor that was lifted -/
structure Up (p : Int) (k : Nat) (u : List Zr) (g : List Int) : Prop where
  rd : Rd 250 (p ^ k) u
  len : u.length = g.length
  top : cf u (u.length - 1) = 1
  cg : Cg p (cf u) (ci g)
theorem last_drop {f : List Zr} (h : 0 < f.length) : f.drop (f.length - 1) = [f.getD (f.length - 1) (false, [])] := drop_last (by omega)
theorem zmod_one {p : Int} {z : Zr} (hp : 0 < p) (h0 : zv z % p ≠ 0) : zmod p [z] = [zv z % p] := by
  have hr := red_rng (a := zv z) (p := p) hp
  refine (zmod_fp hp [z]).ext (fp_one (by omega) hr.2) ((zmod_cg p [z]).trans fun k => ?_)
  rw [ci_one]
  cases k with
  | zero => show zv z % p = (zv z % p) % p; rw [Int.emod_emod]
  | succ k => rw [cf_ge (p := [z]) (by simp)]; rfl
end Go.Proofs.YtjnjfinbdfolkaaGreat
end

section
set_option linter.unusedVariables false
set_option linter.unusedSimpArgs false
namespace Go.Proofs.YtjnjfinbdfolkaaGreat
theorem tree_ex {k : Nat} {p : Int} (hp : prm p = true) (hk1 : 1 ≤ k) (hk : k ≤ 1000) : ∀ (n : Nat) {fu : Nat} {f : List Zr} {fs : List (List Int)}, fs.length = n → 1 ≤ n → n ≤ 66 → 3000002 + n ≤ fu →
    Rd 250 (p ^ k) f → 0 < f.length → f.length ≤ 66 → cf f (f.length - 1) % p ≠ 0 → (∀ g ∈ fs, PlL p g ∧ g.length ≤ 66) → fs.Pairwise (fun a b => Cop p (ci a) (ci b)) → Cg p (cf f) (pc (cf f (f.length - 1)) * prZ (fs.map ci)) →
    ∃ us, M_hensel_tree fu f fs p (k : Int) (ofI (p ^ k)) = some us ∧ All2 (Up p k) us fs ∧ Cg (p ^ k) (cf f) (pc (cf f (f.length - 1)) * prZ (us.map fun u => (cf u : Pz))) := by
  intro n
  induction n using Nat.strongRecOn with
  | _ n ih =>
  intro fu f fs hn hn1 hn2 hfu hF hfl hfb htop hfs hpw hcg
  obtain ⟨p1, p2⟩ := prm_rng hp
  obtain ⟨F, rfl⟩ : ∃ F, fu = F + 1 := ⟨fu - 1, by omega⟩
  have hf : 3000000 < F := by omega
  have hm2 := pow_ge hp hk1
  have hdp : p ∣ p ^ k := dvd_pow_self hk1
  unfold M_hensel_tree
  by_cases h1 : n = 1
  · -- one factor
    obtain ⟨g, rfl⟩ : ∃ g, fs = [g] := by
      match fs, hn with
      | [g], _ => exact ⟨g, rfl⟩
      | [], h => simp at h; omega
      | _ :: _ :: _, h => simp at h; omega
    obtain ⟨hg, hgl⟩ := hfs g (by simp)
    obtain ⟨w, u, e1, e2, e3, e4, e5, e6⟩ := M_hensel_one_ex (fu := F) hp hk1 hk hF hfl (by omega) htop (by omega)
    have hu : Cg (p ^ k) (pc (cf f (f.length - 1)) * pc u) (pc 1) := fun j => by
      rw [pc_pc, Int.mul_comm]
      unfold pc; split
      · rw [e5]; exact (Int.emod_eq_of_lt (by decide) (by omega)).symm
      · rfl
    have hback : Cg (p ^ k) (cf f) (pc (cf f (f.length - 1)) * cf w) := by
      refine Cg.symm ((Cg.rfl.mul e6).trans ?_)
      rw [← p_mul_assoc]
      exact (hu.mul Cg.rfl).trans (Cg.of (p_one_mul _))
    have hprz : ∀ x : Pz, prZ [x] = x := fun x => p_mul_one x
    have hwg : Cg p (cf w) (ci g) := by
      refine (e6.down hdp).trans ?_
      have h2 : Cg p (pc u * cf f) (pc u * (pc (cf f (f.length - 1)) * ci g)) := Cg.rfl.mul (hcg.trans (Cg.of (by show _ * prZ [ci g] = _; rw [hprz])))
      refine h2.trans ?_
      rw [← p_mul_assoc, p_mul_comm (pc u)]
      exact ((hu.down hdp).mul Cg.rfl).trans (Cg.of (p_one_mul _))
    have hwl : w.length = g.length := by
      have hgf := hg.fp (p := p) (by omega)
      refine Nat.le_antisymm (Nat.le_of_not_lt fun hlt => ?_) (Nat.le_of_not_lt fun hlt => ?_)
      · have h2 := hwg (w.length - 1)
        rw [e4, ci_ge (by omega), Int.zero_emod, Int.emod_eq_of_lt (by decide) (by omega)] at h2
        cases h2
      · have h2 := hwg (g.length - 1)
        rw [hg.2.2, cf_ge (by omega), Int.zero_emod, Int.emod_eq_of_lt (by decide) (by omega)] at h2
        cases h2
    rw [if_pos (by simp), bd_t e1]
    refine ⟨[w], rfl, ⟨⟨e2, hwl, e4, hwg⟩, trivial⟩, ?_⟩
    show Cg _ _ (_ * prZ [(cf w : Pz)])
    rw [hprz]
    exact hback
  · -- two halves
    obtain ⟨hf', hhf⟩ : ∃ h, h = n / 2 := ⟨_, rfl⟩
    obtain ⟨c, hc⟩ : ∃ c, c = cf f (f.length - 1) := ⟨_, rfl⟩
    have hfsl : fs.length ≤ 66 := by omega
    have happ : fs = fs.take hf' ++ fs.drop hf' := (List.take_append_drop hf' fs).symm
    have hAl : (fs.take hf').length = hf' := by rw [List.length_take]; omega
    have hBl : (fs.drop hf').length = n - hf' := by rw [List.length_drop]; omega
    have hAm : ∀ g ∈ fs.take hf', PlL p g ∧ g.length ≤ 66 := fun g hg => hfs g (List.mem_of_mem_take hg)
    have hBm : ∀ g ∈ fs.drop hf', PlL p g ∧ g.length ≤ 66 := fun g hg => hfs g (List.mem_of_mem_drop hg)
    rw [happ] at hpw hcg
    obtain ⟨pwA, pwB, pwAB⟩ := List.pairwise_append.1 hpw
    rw [List.map_append, prZ_append, ← hc] at hcg
    have hcr := red_rng (a := c) (p := p) (by omega)
    rw [← hc] at htop
    have htF : ∀ g ∈ fs.take hf', Fp p g := fun g hg => (hAm g hg).1.fp (by omega)
    have htG : ∀ g ∈ fs.drop hf', Fp p g := fun g hg => (hBm g hg).1.fp (by omega)
    have prodA := prodF_cg p (fs.take hf')
    have prodB := prodF_cg p (fs.drop hf')
    have monB := prodF_mon (p := p) p1 (fs := fs.drop hf') fun g hg => (hBm g hg).1
    have lenA := prodF_le (p := p) (fs := fs.take hf') (M := 66) fun g hg => (hAm g hg).2
    have lenB := prodF_le (p := p) (fs := fs.drop hf') (M := 66) fun g hg => (hBm g hg).2
    have b1 : (fs.take hf').length * 66 ≤ 66 * 66 := Nat.mul_le_mul_right _ (by omega)
    have b2 : (fs.drop hf').length * 66 ≤ 66 * 66 := Nat.mul_le_mul_right _ (by omega)
    -- the two factors modulo p
    have hone := fp_one (p := p) (x := c % p) (by omega) hcr.2
    obtain ⟨g0, hg0⟩ : ∃ g0, g0 = fmul p (prodF p (fs.take hf')) [c % p] := ⟨_, rfl⟩
    obtain ⟨h0, hh0⟩ : ∃ h0, h0 = prodF p (fs.drop hf') := ⟨_, rfl⟩
    have hg0F : Fp p g0 := by rw [hg0]; exact fmul_fp (by omega) _ _
    have hh0F : Fp p h0 := by rw [hh0]; exact prodF_fp p1 _
    have hccg : Cg p (pc (c % p)) (pc c) := fun j => by unfold pc; split; exact Int.emod_emod _ _; rfl
    have hg0c : Cg p (ci g0) (prZ ((fs.take hf').map ci) * pc c) := by
      rw [hg0]
      refine (fmul_cg p _ _).trans ?_
      rw [ci_one]
      exact prodA.mul hccg
    have hh0c : Cg p (ci h0) (prZ ((fs.drop hf').map ci)) := by rw [hh0]; exact prodB
    rw [← hh0] at monB
    have hfac : Cg p (cf f) (ci g0 * ci h0) := by
      refine hcg.trans (Cg.trans (Cg.of ?_) (hg0c.mul hh0c).symm)
      simp only [p_mul_assoc, p_mul_comm, p_mul_left_comm]
    have hcop : Cop p (ci g0) (ci h0) := by
      refine Cop.congr (Cop.mul (Fs.pc _) (Fs.prZ fun x hx => by obtain ⟨a, _, rfl⟩ := List.mem_map.1 hx; exact Fs.ci a) (Fs.prZ fun x hx => by obtain ⟨a, _, rfl⟩ := List.mem_map.1 hx; exact Fs.ci a) (cop_lists pwAB) (cop_unit hp (show 0 < c % p by omega) hcr.2)) ?_ hh0c.symm
      exact (Cg.rfl.mul hccg).trans hg0c.symm
    have hp11 : p ^ 1 = p := by rw [Int.pow_succ, Int.pow_zero, Int.one_mul]
    have rg := zlift_rd hg0F p2
    have rh := zlift_rd hh0F p2
    have lz : (zlift h0).length = h0.length := zlift_len hh0F.nl
    have lzg : (zlift g0).length = g0.length := zlift_len hg0F.nl
    have htz : cf (zlift h0) ((zlift h0).length - 1) = 1 := by rw [lz, zlift_cf]; exact monB.2
    have hrl : (redP f p).length = f.length := by
      have := red_top (k := k) (i := 1) (p := p) (f := f) (Nat.le_refl _) (by rw [← hc]; exact htop) hfl
      rw [hp11] at this
      exact this
    obtain ⟨d1, d2, d3⟩ := fac_deg (m := p) (f := redP f p) (g := zlift g0) (h := zlift h0) p1 (by have := rg.rd; rw [hp11] at this; exact this) (redP_ext fun j => by rw [redP_cf, Int.emod_emod]) (by omega) (by omega) htz ((redP_cg f p).trans (by rw [zlift_cf, zlift_cf]; exact hfac))
    rw [hrl, lz, lzg] at d1
    rw [lzg] at d2
    obtain ⟨d, s, t, z1, zR, z3⟩ := M_fpoly_Bezout_ex (fu := F) hp hg0F hh0F (by omega) (by omega) (by omega)
    have hbez := bez_one p1 zR z3 hcop
    have hNb : max g0.length h0.length * (max g0.length h0.length + 1) ≤ 66 * 67 := Nat.mul_le_mul (by omega) (by omega)
    have hsl := zR.sl
    have htl := zR.tl
    have rs := zlift_rd zR.sf p2
    have rt := zlift_rd zR.tf p2
    have hI : TrI p k f (zlift g0) (zlift h0) h0.length 4430 1 (zlift g0) (zlift h0) (zlift s) (zlift t) := by
      refine ⟨Nat.le_refl _, hk1, rg, rh, rs, rt, lz, by rw [← lz]; exact htz, ?_, ?_, Cg.rfl, Cg.rfl, by have := zlift_le s; omega⟩
      · rw [hp11, zlift_cf, zlift_cf]; exact hfac
      · rw [hp11, zlift_cf, zlift_cf, zlift_cf, zlift_cf]; exact hbez
    obtain ⟨G, H, S, T, l1, l2⟩ := tree_loop (fu := F) hI hp hk hF.ok (by rw [← hc]; exact htop) hfl (by omega) (by omega) (by decide) (by omega) hf
    obtain ⟨m1, m2, m3, m4⟩ := l2.lens hp (by rw [← hc]; exact htop) hfl (by omega)
    have hcm : c % p ^ k = c := by have := hF.mod (f.length - 1); rw [← hc] at this; exact this
    rw [← hc, hcm] at m3
    have hHl := l2.hl
    have hH1 := l2.h1
    rw [← hHl] at hH1
    have hGc : Cg p (cf G) (pc c * prZ ((fs.take hf').map ci)) := by
      refine l2.gp.trans ?_
      rw [zlift_cf, p_mul_comm]
      exact hg0c
    have hHc : Cg p (cf H) (pc 1 * prZ ((fs.drop hf').map ci)) := by
      refine l2.hp.trans ?_
      rw [zlift_cf, p_one_mul]
      exact hh0c
    obtain ⟨us, u1, u2, u3⟩ := ih hf' (by omega) (fu := F) (f := G) (fs := fs.take hf') hAl (by omega) (by omega) (by omega) l2.rG m2 (by omega) (by rw [m3]; exact htop) hAm pwA (by rw [m3]; exact hGc)
    obtain ⟨vs, v1, v2, v3⟩ := ih (n - hf') (by omega) (fu := F) (f := H) (fs := fs.drop hf') hBl (by omega) (by omega) (by omega) l2.rH (by omega) (by omega) (by rw [hH1, Int.emod_eq_of_lt (by decide) (by omega)]; decide) hBm pwB (by rw [hH1]; exact hHc)
    rw [m3] at u3
    rw [hH1] at v3
    have hul := u2.len
    have hvl := v2.len
    refine ⟨us ++ vs, ?_, by rw [happ]; exact u2.append v2, ?_⟩
    · have ez : [f.getD (f.length - 1) (false, [])].length = 1 := rfl
      have hOk1 : OkP 250 [f.getD (f.length - 1) (false, [])] := fun z hz => by
        obtain rfl := List.mem_singleton.1 hz
        exact hF.ok.get _
      have hzm : zmod p [f.getD (f.length - 1) (false, [])] = [c % p] := by
        rw [hc]
        exact zmod_one (by omega) (by rw [cf_d, ← hc]; exact htop)
      have hfm := fmul_le p (prodF p (fs.take hf')) [c % p]
      simp only [List.length_cons, List.length_nil] at hfm
      have ex1 : Int.tdiv ((fs.length : Nat) : Int) 2 = (hf' : Int) := by rw [hn, hhf]; rfl
      rw [if_neg (by omega), ck_t (by decide), ex1, ck64_t ⟨by omega, by omega⟩, show ((f.length : Nat) : Int) - 1 = ((f.length - 1 : Nat) : Int) by omega, ck64_t ⟨by omega, by omega⟩, ckN_n, ck_t (by omega), nm_t, last_drop hfl, bd_t (M_zpoly_Mod_eq hOk1 (by decide) (by omega) p2 (by simp) (by omega)), hzm]
      simp only []
      rw [ckN_n, ck_t (by omega), nm_t, bd_t (M_hensel_product_eq hp htF (fun g hg => (hAm g hg).2) (by omega) (by decide) (by omega) (by omega)), bd_t (M_fpoly_Mul_eq hp (prodF_fp p1 _) hone (by omega) (by simp) (by omega)), ← hg0]
      simp only []
      rw [ckN_n, ck_t (by omega), nm_t, bd_t (M_hensel_product_eq hp htG (fun g hg => (hBm g hg).2) (by omega) (by decide) (by omega) (by omega)), ← hh0, bd_t z1]
      simp only []
      rw [bd_t (M_zpoly_Lift_eq (hg0F.rl p2) (by omega) (by omega)), bd_t (M_zpoly_Lift_eq (hh0F.rl p2) (by omega) (by omega)), bd_t (M_zpoly_Lift_eq (zR.sf.rl p2) (by omega) (by omega)), bd_t (M_zpoly_Lift_eq (zR.tf.rl p2) (by omega) (by omega)), bd_t l1]
      rw [ckI_t (i := 0) (by decide), ckN_n, ck_t (by omega), nm_t, show [G, H, S, T].getD (Int.toNat 0) [] = G from rfl, bd_t u1, ckI_t (i := 1) (by decide), ckN_n, ck_t (by omega), nm_t, show [G, H, S, T].getD (Int.toNat 1) [] = H from rfl, bd_t v1, ck_t (by omega), nm_t]
    · rw [← hc, List.map_append, prZ_append]
      refine l2.fac.trans ((u3.mul v3).trans (Cg.of ?_))
      rw [p_one_mul, p_mul_assoc]
end Go.Proofs.YtjnjfinbdfolkaaGreat
end

section
set_option linter.unusedVariables false
set_option linter.unusedSimpArgs false
namespace Go.Proofs.YtjnjfinbdfolkaaGreat
/-- the normal form -/
def nrm (a : List Zr) : List Zr := nzp a.length (cf a)
theorem nrm_cf (a : List Zr) (k : Nat) : cf (nrm a) k = cf a k := nzp_cf (fun j hj => cf_ge hj) k
theorem nrm_len (a : List Zr) : (nrm a).length ≤ a.length := by unfold nrm; rw [nzp_len]; exact dg_le _ _
theorem nrm_ok {k : Nat} {a : List Zr} (h : OkP k a) : OkP k (nrm a) := OkP_nzp h.bz
/-- what a lifting that succeeds has found -/
structure LiftP (p : Int) (k : Nat) (a : List Zr) (fs : List (List Int)) (us : List (List Zr)) : Prop where
  hp : prm p = true
  k1 : 1 ≤ k
  k2 : k ≤ 1000
  rt : RightP p (nrm a) fs
  up : All2 (Up p k) us fs
  cg : fs ≠ [] → Cg (p ^ k) (cf a) (pc (cf (nrm a) ((nrm a).length - 1)) * prZ (us.map fun u => (cf u : Pz)))
theorem RightP.mem {p : Int} {a : List Zr} {fs : List (List Int)} (h : RightP p a fs) : ∀ g ∈ fs, PlL p g ∧ g.length ≤ a.length := fun g hg => by
  obtain ⟨j, hj, rfl⟩ := List.mem_iff_getElem.1 hg
  have := h.pl j hj
  rw [List.getD_eq_getElem?_getD, List.getElem?_eq_getElem hj] at this
  exact ⟨this.2, this.1⟩
theorem RightP.pw {p : Int} {a : List Zr} {fs : List (List Int)} (h : RightP p a fs) : fs.Pairwise (fun a b => Cop p (ci a) (ci b)) := by
  refine List.pairwise_iff_getElem.2 fun i j hi hj hij => ?_
  have := h.cp j i hj hij
  rw [List.getD_eq_getElem?_getD, List.getD_eq_getElem?_getD, List.getElem?_eq_getElem hi, List.getElem?_eq_getElem hj] at this
  exact this.symm
theorem M_hensel_Lift_ex {fu : Nat} {p k : Int} {a : List Zr} {fs : List (List Int)} (ha : OkP 250 a) (hal : a.length ≤ 1000) (hf : 3000200 ≤ fu) :
    ∃ us e, M_hensel_Lift fu a fs p k = some (us, e) ∧ (e = 0 → LiftP p k.toNat a fs us ∧ 1 ≤ k) ∧ (e ≠ 0 → (powR p k).2 = 0 ∨ e = 1) := by
  unfold M_hensel_Lift
  have hnl := nrm_len a
  have hno := nrm_ok ha
  rw [bd_t (M_hensel_Power_eq (by omega))]
  by_cases hP : prm p = true ∧ 1 ≤ k ∧ k ≤ 1000
  · obtain ⟨hp, h1, h2⟩ := hP
    obtain ⟨K, rfl⟩ := Int.eq_ofNat_of_zero_le (show 0 ≤ k by omega)
    have hpow : powR p (K : Int) = (ofI (p ^ K), 0) := by
      unfold powR
      rw [if_pos ⟨hp, h1, h2⟩, Int.toNat_natCast]
    rw [hpow]
    simp only []
    rw [bd_t (M_zpoly_Norm_eq ha (by decide) (by omega) (by omega)), if_pos trivial, show nzp a.length (cf a) = nrm a from rfl]
    by_cases h65 : 65 < (nrm a).length
    · rw [if_pos (by omega)]
      exact ⟨_, _, rfl, fun e => absurd e (by decide), fun _ => .inl trivial⟩
    · rw [if_neg (by omega)]
      obtain ⟨b, b1, b2⟩ := M_hensel_right_ex (fu := fu) (fs := fs) hp hno (by decide) (by omega) (by omega)
      rw [bd_t b1]
      cases b with
      | false =>
        rw [if_pos (by decide)]
        exact ⟨_, _, rfl, fun e => absurd e (by decide), fun _ => .inl trivial⟩
      | true =>
        have hR := b2 rfl
        rw [if_neg (by decide)]
        by_cases h0 : fs.length = 0
        · obtain rfl : fs = [] := List.length_eq_zero_iff.1 h0
          rw [if_pos (show ((([] : List (List Int)).length : Nat) : Int) = 0 from rfl)]
          exact ⟨_, _, rfl, fun _ => ⟨⟨hp, by omega, by omega, hR, trivial, fun e => absurd rfl e⟩, h1⟩, fun e => absurd rfl e⟩
        · rw [if_neg (by omega)]
          obtain ⟨p1, p2⟩ := prm_rng hp
          have hmB := pow_bz hp (k := K) (by omega)
          have hm2 := pow_ge hp (k := K) (by omega)
          have hmS : OkS (ofI (p ^ K)) := hmB.okS (by decide)
          obtain ⟨f, hfe⟩ : ∃ f, f = redP (nrm a) (p ^ K) := ⟨_, rfl⟩
          have hal0 := hR.a0
          -- what leads does not vanish modulo p
          have htop : cf (nrm a) ((nrm a).length - 1) % p ≠ 0 := by
            have h3 := (zmod_fp (p := p) (by omega) (nrm a)).nl
            unfold Nl at h3
            rw [hR.al] at h3
            rcases h3 with h3 | h3
            · exact absurd h3 hal0
            · rw [zmod_ci] at h3; exact h3
          have hfl : f.length = (nrm a).length := by rw [hfe]; exact red_top (k := K) (by omega) htop (by omega)
          have hft : cf f (f.length - 1) = cf (nrm a) ((nrm a).length - 1) % p ^ K := by rw [hfl, hfe, redP_cf]
          have hdp : p ∣ p ^ K := dvd_pow_self (by omega)
          have hftop : cf f (f.length - 1) % p ≠ 0 := by rw [hft, Int.emod_emod_of_dvd _ hdp]; exact htop
          have hcg1 : Cg p (cf f) (pc (cf f (f.length - 1)) * prZ (fs.map ci)) := by
            have e1 : Cg p (cf f) (cf (nrm a)) := by rw [hfe]; exact (redP_cg _ _).down hdp
            refine e1.trans ((zmod_cg p (nrm a)).symm.trans ?_)
            rw [← hR.pr]
            refine (fmul_cg p _ _).trans ?_
            rw [ci_one, p_mul_comm]
            refine Cg.mul (fun j => ?_) (prodF_cg p fs)
            rw [zmod_ci, hft]
            unfold pc; split
            · rw [Int.emod_emod_of_dvd _ hdp, Int.emod_emod]
            · rfl
          obtain ⟨us, u1, u2, u3⟩ := tree_ex (k := K) hp (by omega) (by omega) fs.length (fu := fu) (f := f) (fs := fs) rfl (by omega) (by have := hR.fl; omega) (by have := hR.fl; omega) (by rw [hfe]; exact redP_rd hmB (by omega) _) (by omega) (by omega) hftop (fun g hg => ⟨(hR.mem g hg).1, by have := (hR.mem g hg).2; omega⟩) hR.pw hcg1
          rw [bd_t (red_low hno (by decide) hmS (by rw [zv_ofI]; omega) (by omega) (by omega)), zv_ofI, ← hfe, bd_t u1]
          refine ⟨_, _, rfl, fun _ => ⟨⟨hp, by omega, by omega, hR, u2, fun _ => ?_⟩, h1⟩, fun e => absurd rfl e⟩
          rw [Int.toNat_natCast]
          have e1 : Cg (p ^ K) (cf a) (cf f) := by
            rw [hfe]
            exact Cg.trans (Cg.of (funext fun j => (nrm_cf a j).symm)) (redP_cg _ _).symm
          refine e1.trans (u3.trans (Cg.mul (fun j => ?_) Cg.rfl))
          rw [hft]
          unfold pc; split
          · rw [Int.emod_emod]
          · rfl
  · have hpow : powR p k = ((false, []), 1) := by unfold powR; rw [if_neg hP]
    rw [hpow]
    simp only []
    rw [bd_t (M_zpoly_Norm_eq ha (by decide) (by omega) (by omega)), if_neg (by decide)]
    exact ⟨_, _, rfl, fun e => absurd e (by decide), fun _ => .inr rfl⟩
theorem few_ex {fu : Nat} {fs : List (List Int)} (hf : 3000000 ≤ fu) : ∃ b, M_law13_few fu fs = some b ∧ (b = true → fs.length ≤ 12) := by
  unfold M_law13_few
  by_cases h : 12 < fs.length
  · rw [if_pos (by omega)]
    exact ⟨_, rfl, fun e => absurd e (by decide)⟩
  · rw [if_neg (by omega)]
    obtain ⟨r, e1, _⟩ := loop_ex (f := B_law13_few_0 fu fs) (fun i : Int => ∃ j : Nat, i = (j : Int) ∧ j ≤ fs.length) (fun i => fs.length - i.toNat) (fun _ => True) (by
      rintro i L ⟨j, rfl, hj⟩ ih
      unfold B_law13_few_0
      by_cases h1 : j < fs.length
      · rw [if_pos (by omega), ckI_n h1, nm_t]
        split
        · exact ⟨_, rfl, trivial⟩
        · rw [ck64_t ⟨by omega, by omega⟩]
          exact ih _ ⟨j + 1, rfl, by omega⟩ (by omega)
      · rw [if_neg (by omega)]
        exact ⟨_, rfl, trivial⟩) fu 0 ⟨0, rfl, Nat.zero_le _⟩ (by show fs.length - 0 < fu; omega)
    rw [bd_t e1]
    rcases r with r | r
    · exact ⟨_, rfl, fun _ => by omega⟩
    · exact ⟨_, rfl, fun e => absurd e (by decide)⟩
end Go.Proofs.YtjnjfinbdfolkaaGreat
end

section
set_option linter.unusedVariables false
set_option linter.unusedSimpArgs false
namespace Go.Proofs.YtjnjfinbdfolkaaGreat
/-- leads with one at place d -/
def Mn (A : Pz) (d : Nat) : Prop := A d = 1 ∧ ∀ k, d < k → A k = 0
/-- what leads a product with such a one -/
theorem Mn.top {A x : Pz} {d n : Nat} (h : Mn A d) (hx : ∀ k, n < k → x k = 0) : (x * A) (n + d) = x n := by
  rw [p_mul, sumN_single (i := n) fun i hi => ?_, if_pos (by omega), show n + d - n = d by omega, h.1, Int.mul_one]
  by_cases hc : i < n
  · rw [h.2 _ (by omega), Int.mul_zero]
  · rw [hx i (by omega), Int.zero_mul]
/-- a multiple of it without high places vanishes -/
theorem Mn.zero {p : Int} (hp : 2 ≤ p) {A x : Pz} {d : Nat} (h : Mn A d) (hx : Fs x) (hz : ∀ k, d ≤ k → (x * A) k % p = 0) : Cg p x (pc 0) := by
  obtain ⟨n, hn⟩ := hx
  have key : ∀ c, c ≤ n → ∀ k, n - c ≤ k → x k % p = 0 := by
    intro c
    induction c with
    | zero => intro _ k hk; rw [hn k (by omega), Int.zero_emod]
    | succ c ih =>
      intro hc k hk
      by_cases h1 : n - c ≤ k
      · exact ih (by omega) k h1
      · obtain rfl : k = n - (c + 1) := by omega
        -- what is above is nought modulo p
        have e : Cg p x (fun i => if i ≤ n - (c + 1) then x i else 0) := fun i => by
          by_cases hi : i ≤ n - (c + 1)
          · show _ = (if i ≤ n - (c + 1) then x i else 0) % p
            rw [if_pos hi]
          · show _ = (if i ≤ n - (c + 1) then x i else 0) % p
            rw [if_neg hi, Int.zero_emod]
            exact ih (by omega) i (by omega)
        have h2 := (e.mul (Cg.rfl (f := A))) (n - (c + 1) + d)
        rw [hz _ (by omega), h.top (fun i hi => if_neg (by omega))] at h2
        rw [if_pos (Nat.le_refl _)] at h2
        exact h2.symm
  intro k
  rw [pc_zero, Int.zero_emod]
  by_cases hk : k < n
  · exact key n (Nat.le_refl _) k (by omega)
  · rw [hn k (by omega), Int.zero_emod]
theorem int_cop_dvd {k m n : Int} (h : Int.gcd k m = 1) (hd : k ∣ m * n) : k ∣ n :=
  Int.natAbs_dvd_natAbs.1 (Nat.Coprime.dvd_of_dvd_mul_left (k := k.natAbs) (m := m.natAbs) h (by rw [← Int.natAbs_mul]; exact Int.natAbs_dvd_natAbs.2 hd))
/-- how often a number goes into a function -/
def pdv (n : Int) (f : Pz) : Pz := fun k => f k / n
theorem pdv_eq {n : Int} {f : Pz} (h : Cg n f (pc 0)) : pc n * pdv n f = f := by
  funext k
  rw [pc_mul]
  exact Int.mul_ediv_cancel' (h.dvd k)
theorem pdv_fs {n : Int} {f : Pz} (h : Fs f) : Fs (pdv n f) := by
  obtain ⟨c, hc⟩ := h
  exact ⟨c, fun k hk => by show f k / n = 0; rw [hc k hk, Int.zero_ediv]⟩
theorem Fs.subt {f g : Pz} (hf : Fs f) (hg : Fs g) : Fs (f - g) := by
  obtain ⟨a, ha⟩ := hf
  obtain ⟨b, hb⟩ := hg
  exact ⟨a + b, fun k hk => by rw [p_sub, ha k (by omega), hb k (by omega)]; rfl⟩
theorem uniq_step {p n : Int} (hp : 2 ≤ p) (hn : n ≠ 0) (hpn : p ∣ n) {A B A' B' : Pz} {d : Nat} (hA : Mn A d) (hA' : Mn A' d) (fA : Fs A) (fA' : Fs A') (fB : Fs B) (fB' : Fs B') (hc : Cop p A B) (h1 : Cg n A A') (h2 : Cg n B B') (h : Cg (n * p) (A * B) (A' * B')) :
    Cg (n * p) A A' ∧ Cg (n * p) B B' := by
  obtain ⟨a, ha⟩ : ∃ a, a = pdv n (A' - A) := ⟨_, rfl⟩
  obtain ⟨b, hb⟩ : ∃ b, b = pdv n (B' - B) := ⟨_, rfl⟩
  have ea : pc n * a = A' - A := by rw [ha]; exact pdv_eq (Cg.iff_sub.1 h1.symm)
  have eb : pc n * b = B' - B := by rw [hb]; exact pdv_eq (Cg.iff_sub.1 h2.symm)
  have fa : Fs a := by rw [ha]; exact pdv_fs (fA'.subt fA)
  have fb : Fs b := by rw [hb]; exact pdv_fs (fB'.subt fB)
  have ak : ∀ k, A' k = A k + n * a k := fun k => by
    have := congrFun ea k
    rw [pc_mul, p_sub] at this; omega
  have bk : ∀ k, B' k = B k + n * b k := fun k => by
    have := congrFun eb k
    rw [pc_mul, p_sub] at this; omega
  have hA2 : A' = A + pc n * a := funext fun k => by rw [p_add, pc_mul, ak]
  have hB2 : B' = B + pc n * b := funext fun k => by rw [p_add, pc_mul, bk]
  -- the first difference times one, the other times the other
  have hz : Cg p (a * B + b * A) (pc 0) := by
    refine Cg.of_dvd fun k => ?_
    have e : A' * B' - A * B = pc n * (a * B + b * A + pc n * (a * b)) := by
      rw [hA2, hB2]
      simp only [p_mul_add, p_add_mul, p_mul_assoc, p_mul_left_comm, p_mul_comm]
      funext k
      simp only [p_add, p_sub]
      omega
    have hd := (Cg.iff_sub.1 h.symm).dvd k
    rw [e, pc_mul] at hd
    have hd2 : p ∣ (a * B + b * A + pc n * (a * b)) k := (Int.mul_dvd_mul_iff_left hn).1 hd
    rw [p_add, pc_mul] at hd2
    exact (Int.dvd_add_left (Int.dvd_trans hpn (Int.dvd_mul_right _ _))).1 hd2
  obtain ⟨s, t, fs, ft, hst⟩ := hc
  have ha0 : ∀ k, d ≤ k → a k = 0 := fun k hk => by
    have e : A' k = A k := by
      by_cases h3 : k = d
      · rw [h3, hA.1, hA'.1]
      · rw [hA.2 k (by omega), hA'.2 k (by omega)]
    have := ak k
    have h4 : n * a k = 0 := by omega
    exact (Int.mul_eq_zero.1 h4).resolve_left hn
  have hax : Cg p a ((s * a - t * b) * A) := by
    have e1 : Cg p a (a * (s * A + t * B)) := by
      have := (Cg.rfl (m := p) (f := a)).mul hst.symm
      rw [p_mul_one] at this
      exact this
    refine e1.trans (Cg.iff_sub.2 ?_)
    have e : a * (s * A + t * B) - (s * a - t * b) * A = t * (a * B + b * A) := by
      simp only [p_mul_add, p_add_mul, p_mul_sub, p_sub_mul, p_mul_assoc, p_mul_left_comm, p_mul_comm]
      funext k
      simp only [p_add, p_sub]
      omega
    rw [e]
    exact hz.mul_zero_l t
  have hx0 := hA.zero hp ((fs.mul fa).subt (ft.mul fb)) fun k hk => by rw [← hax k, ha0 k hk, Int.zero_emod]
  have haz : Cg p a (pc 0) := hax.trans (hx0.mul_zero_r A)
  have hbA : Cg p (b * A) (pc 0) := by
    have e : b * A = a * B + b * A - a * B := by
      funext k
      simp only [p_add, p_sub]; omega
    rw [e]
    exact hz.zero_sub (haz.mul_zero_r B)
  have hbz : Cg p b (pc 0) := hA.zero hp fb fun k _ => by rw [hbA k, pc_zero, Int.zero_emod]
  refine ⟨Cg.symm (Cg.iff_sub.2 (Cg.of_dvd fun k => ?_)), Cg.symm (Cg.iff_sub.2 (Cg.of_dvd fun k => ?_))⟩
  · rw [← ea, pc_mul]; exact Int.mul_dvd_mul_left n (haz.dvd k)
  · rw [← eb, pc_mul]; exact Int.mul_dvd_mul_left n (hbz.dvd k)
theorem uniq_two {p : Int} (hp : 2 ≤ p) {A B A' B' : Pz} {d : Nat} (hA : Mn A d) (hA' : Mn A' d) (fA : Fs A) (fA' : Fs A') (fB : Fs B) (fB' : Fs B') (hc : Cop p A B) (h1 : Cg p A A') (h2 : Cg p B B') : ∀ j, Cg (p ^ j) (A * B) (A' * B') → Cg (p ^ j) A A' ∧ Cg (p ^ j) B B'
  | 0, _ => ⟨fun k => by rw [Int.pow_zero, Int.emod_one, Int.emod_one], fun k => by rw [Int.pow_zero, Int.emod_one, Int.emod_one]⟩
  | 1, _ => by
    rw [Int.pow_succ, Int.pow_zero, Int.one_mul]
    exact ⟨h1, h2⟩
  | j + 2, h => by
    obtain ⟨g1, g2⟩ := uniq_two hp hA hA' fA fA' fB fB' hc h1 h2 (j + 1) (h.down (pow_dvd (by omega)))
    rw [Int.pow_succ] at h ⊢
    exact uniq_step hp (Int.ne_of_gt (Int.pow_pos (by omega))) (dvd_pow_self (by omega)) hA hA' fA fA' fB fB' hc g1 g2 h
theorem fs_prs (us : List (List Zr)) : Fs (prZ (us.map fun u => (cf u : Pz))) := Fs.prZ fun x hx => by
  obtain ⟨u, _, rfl⟩ := List.mem_map.1 hx
  exact Fs.cf u
theorem Up.mn {p : Int} {k : Nat} {u : List Zr} {g : List Int} (h : Up p k u g) (hg : PlL p g) : Mn (cf u) (g.length - 1) := by
  have h1 := h.top
  have h2 := hg.2.1
  rw [h.len] at h1
  exact ⟨h1, fun j hj => cf_ge (by rw [h.len]; omega)⟩
theorem up_prs {p : Int} {k : Nat} : ∀ {us : List (List Zr)} {fs : List (List Int)}, All2 (Up p k) us fs → Cg p (prZ (us.map fun u => (cf u : Pz))) (prZ (fs.map ci))
  | [], [], _ => Cg.rfl
  | _ :: _, _ :: _, h => h.1.cg.mul (up_prs h.2)
/-- one by one alike -/
theorem uniq_list {p : Int} (hp : 2 ≤ p) {K J j : Nat} : ∀ {us vs : List (List Zr)} {fs : List (List Int)}, All2 (Up p K) us fs → All2 (Up p J) vs fs → (∀ g ∈ fs, PlL p g) → fs.Pairwise (fun a b => Cop p (ci a) (ci b)) →
    Cg (p ^ j) (prZ (us.map fun u => (cf u : Pz))) (prZ (vs.map fun u => (cf u : Pz))) → All2 (fun u v => Cg (p ^ j) (cf u) (cf v)) us vs
  | [], [], [], _, _, _, _, _ => trivial
  | [], _ :: _, [], _, h, _, _, _ => absurd h id
  | [], _, _ :: _, h, _, _, _, _ => absurd h id
  | _ :: _, _, [], h, _, _, _, _ => absurd h id
  | _ :: _, [], _ :: _, _, h, _, _, _ => absurd h id
  | u :: us, v :: vs, g :: fs, h1, h2, hpl, hpw, hc => by
    have hg := hpl g (List.mem_cons_self ..)
    obtain ⟨w1, w2⟩ := List.pairwise_cons.1 hpw
    have hcop : Cop p (cf u) (prZ (us.map fun u => (cf u : Pz))) := by
      have := cop_lists (p := p) (A := [g]) (B := fs) fun a ha b hb => by
        obtain rfl := List.mem_singleton.1 ha
        exact w1 b hb
      refine this.congr ?_ (up_prs h1.2).symm
      show Cg p (ci g * pc 1) (cf u)
      rw [p_mul_one]
      exact h1.1.cg.symm
    obtain ⟨e1, e2⟩ := uniq_two hp (h1.1.mn hg) (h2.1.mn hg) (Fs.cf u) (Fs.cf v) (fs_prs us) (fs_prs vs) hcop (h1.1.cg.trans h2.1.cg.symm) ((up_prs h1.2).trans (up_prs h2.2).symm) j hc
    exact ⟨e1, uniq_list hp h1.2 h2.2 (fun x hx => hpl x (List.mem_cons_of_mem _ hx)) w2 e2⟩
/-- what leads cancels -/
theorem unit_cancel {p c : Int} (hp : prm p = true) (hc : c % p ≠ 0) {j : Nat} {f g : Pz} (h : Cg (p ^ j) (pc c * f) (pc c * g)) : Cg (p ^ j) f g := by
  obtain ⟨p1, p2⟩ := prm_rng hp
  refine Cg.iff_sub.2 (Cg.of_dvd fun k => ?_)
  have hd := (Cg.iff_sub.1 h).dvd k
  rw [p_sub, pc_mul, pc_mul, ← Int.mul_sub] at hd
  rw [p_sub]
  have hr := red_rng (a := c) (p := p ^ j) (Int.pow_pos (by omega))
  by_cases hj : j = 0
  · rw [hj, Int.pow_zero]; exact Int.one_dvd _
  have hdp : p ∣ p ^ j := dvd_pow_self (by omega)
  have hcop := cop_pow (c := c % p ^ j) (k := j) hp (by rw [Int.emod_emod_of_dvd _ hdp]; exact hc) hr.1
  have hd2 : p ^ j ∣ (c % p ^ j) * (f k - g k) := by
    have e : c * (f k - g k) = (c % p ^ j) * (f k - g k) + p ^ j * (c / p ^ j * (f k - g k)) := by
      rw [← Int.mul_assoc, ← Int.add_mul, Int.emod_add_mul_ediv]
    rw [e] at hd
    exact (Int.dvd_add_left (Int.dvd_mul_right _ _)).1 hd
  refine int_cop_dvd ?_ hd2
  rw [Int.gcd_comm]
  have h3 : Int.gcd (c % p ^ j) (p ^ j) = Nat.gcd (c % p ^ j).toNat (p ^ j).toNat := by
    show Nat.gcd _ _ = _
    congr 1 <;> omega
  rw [h3, hcop]
end Go.Proofs.YtjnjfinbdfolkaaGreat
end

section
set_option linter.unusedVariables false
set_option linter.unusedSimpArgs false
namespace Go.Proofs.YtjnjfinbdfolkaaGreat
theorem RightP.top {p : Int} {a : List Zr} {fs : List (List Int)} (hp : prm p = true) (h : RightP p a fs) : cf a (a.length - 1) % p ≠ 0 := by
  obtain ⟨p1, p2⟩ := prm_rng hp
  have h3 := (zmod_fp (p := p) (by omega) a).nl
  unfold Nl at h3
  rw [h.al] at h3
  rcases h3 with h3 | h3
  · exact absurd h3 h.a0
  · rw [zmod_ci] at h3; exact h3
theorem all2_red {p : Int} {j : Nat} : ∀ {us vs : List (List Zr)} {fs : List (List Int)}, All2 (fun u v => Cg (p ^ j) (cf u) (cf v)) us vs → All2 (Up p j) vs fs → All2 (fun u v => redP u (p ^ j) = v) us vs
  | [], [], [], _, _ => trivial
  | u :: us, v :: vs, g :: fs, h1, h2 => ⟨by rw [← h2.1.rd.rd]; exact redP_ext h1.1, all2_red h1.2 h2.2⟩
/-- by a lesser power the factors are what they come to by that -/
theorem lift_down {p : Int} {k j : Nat} {a : List Zr} {fs : List (List Int)} {us vs : List (List Zr)} (hu : LiftP p k a fs us) (hv : LiftP p j a fs vs) (hjk : j ≤ k) : All2 (fun u v => redP u (p ^ j) = v) us vs := by
  obtain ⟨p1, p2⟩ := prm_rng hu.hp
  by_cases h0 : fs = []
  · have h1 := hu.up
    have h2 := hv.up
    subst h0
    obtain rfl : us = [] := List.length_eq_zero_iff.1 h1.len
    obtain rfl : vs = [] := List.length_eq_zero_iff.1 h2.len
    trivial
  · have h1 := (hu.cg h0).down (pow_dvd (p := p) hjk)
    have h2 := hv.cg h0
    have h3 := unit_cancel hu.hp (hu.rt.top hu.hp) (h1.symm.trans h2)
    exact all2_red (uniq_list p1 hu.up hv.up (fun g hg => (hu.rt.mem g hg).1) hu.rt.pw h3) hv.up
/-- what is refused, by whatever power -/
noncomputable def liftE (fu : Nat) (a : List Zr) (fs : List (List Int)) (p : Int) : Int :=
  if prm p = true then (if 65 < (nrm a).length then 6 else if M_hensel_right fu (nrm a) fs p = some true then 0 else 1) else 1
theorem lift_err {fu : Nat} {p k : Int} {a : List Zr} {fs : List (List Int)} {us : List (List Zr)} {e : Int} (ha : OkP 250 a) (hal : a.length ≤ 1000) (h1 : 1 ≤ k) (h2 : k ≤ 1000) (hf : 3000200 ≤ fu) (h : M_hensel_Lift fu a fs p k = some (us, e)) : e = liftE fu a fs p := by
  unfold M_hensel_Lift at h
  unfold liftE
  rw [bd_t (M_hensel_Power_eq (by omega))] at h
  simp only [] at h
  rw [bd_t (M_zpoly_Norm_eq ha (by decide) (by omega) (by omega)), show nzp a.length (cf a) = nrm a from rfl] at h
  by_cases hp : prm p = true
  · have hpow : powR p k = (ofI (p ^ k.toNat), 0) := by
      unfold powR
      rw [if_pos ⟨hp, h1, h2⟩]
    rw [hpow] at h
    rw [if_pos hp]
    simp only [if_true] at h
    by_cases h65 : 65 < (nrm a).length
    · rw [if_pos (by omega)] at h
      rw [if_pos h65]
      simp only [Option.some.injEq, Prod.mk.injEq] at h
      exact h.2.symm
    · rw [if_neg (by omega)] at h
      rw [if_neg h65]
      cases hr : M_hensel_right fu (nrm a) fs p with
      | none => rw [hr] at h; cases h
      | some b =>
        rw [hr] at h
        change (if (!b) = true then _ else _) = _ at h
        cases b with
        | false =>
          rw [if_pos (by decide)] at h
          rw [if_neg (by simp)]
          simp only [Option.some.injEq, Prod.mk.injEq] at h
          exact h.2.symm
        | true =>
          rw [if_neg (by decide)] at h
          rw [if_pos rfl]
          split at h
          · simp only [Option.some.injEq, Prod.mk.injEq] at h
            exact h.2.symm
          · cases hr1 : M_hensel_red fu (nrm a) (ofI (p ^ k.toNat)) with
            | none => rw [hr1] at h; cases h
            | some t =>
              rw [hr1] at h
              change bd (M_hensel_tree fu t fs p k (ofI (p ^ k.toNat))) _ = _ at h
              cases hr2 : M_hensel_tree fu t fs p k (ofI (p ^ k.toNat)) with
              | none => rw [hr2] at h; cases h
              | some t3 =>
                rw [hr2] at h
                change some (t3, (0 : Int)) = _ at h
                simp only [Option.some.injEq, Prod.mk.injEq] at h
                exact h.2.symm
  · have hpow : powR p k = ((false, []), 1) := by
      unfold powR
      rw [if_neg (fun h => hp h.1)]
    rw [hpow] at h
    rw [if_neg hp]
    simp only [Int.reduceEq, if_false, Option.some.injEq, Prod.mk.injEq] at h
    exact h.2.symm
theorem andI_mask (a : Int) : 0 ≤ andI a 1023 ∧ andI a 1023 ≤ 1023 := by
  unfold andI
  have e2 : uns 1023 = 1023 := by decide
  rw [e2]
  have h : uns a &&& 1023 ≤ 1023 := Nat.and_le_right
  unfold sgn
  rw [if_pos (by omega)]
  omega
end Go.Proofs.YtjnjfinbdfolkaaGreat
end

section
set_option linter.unusedVariables false
set_option linter.unusedSimpArgs false
namespace Go.Proofs.YtjnjfinbdfolkaaGreat
theorem All2.get {R : List Zr → List Int → Prop} : ∀ {us : List (List Zr)} {fs : List (List Int)}, All2 R us fs → ∀ i, i < us.length → R (us.getD i []) (fs.getD i [])
  | [], [], _, i, h => absurd h (Nat.not_lt_zero _)
  | u :: us, f :: fs, h, 0, _ => h.1
  | u :: us, f :: fs, h, i + 1, hi => All2.get h.2 i (by simpa using hi)
theorem redR_up {a : List Zr} {m : Int} (h : ¬ m ≤ 0) : redR a m = (redP a m, 0) := by unfold redR; rw [if_neg h]
end Go.Proofs.YtjnjfinbdfolkaaGreat
end

section
set_option linter.unusedVariables false
set_option linter.unusedSimpArgs false
namespace Go.Proofs.YtjnjfinbdfolkaaGreat
theorem All2.getz {R : List Zr → List Zr → Prop} : ∀ {us : List (List Zr)} {vs : List (List Zr)}, All2 R us vs → ∀ i, i < us.length → R (us.getD i []) (vs.getD i [])
  | [], [], _, i, h => absurd h (Nat.not_lt_zero _)
  | u :: us, f :: fs, h, 0, _ => h.1
  | u :: us, f :: fs, h, i + 1, hi => All2.getz h.2 i (by simpa using hi)
theorem down_loop {fu k j : Nat} {p : Int} {us vs : List (List Zr)} {fs : List (List Int)} (hp : prm p = true) (hk1 : 1 ≤ k) (hk : k ≤ 1000) (hj1 : 1 ≤ j) (hj : j ≤ 1000) (hup : All2 (Up p k) us fs) (hl : ∀ g ∈ fs, g.length ≤ 66) (hd : All2 (fun u v => redP u (p ^ j) = v) us vs) (hul : us.length ≤ 1000) (hf : 3000000 ≤ fu) :
    loopN (B_law13_HenselDown_0 fu us vs (ofI (p ^ j))) fu 0 = some (.inl ()) := by
  have hmB := pow_bz hp hj
  have hm2 := pow_ge hp hj1
  have hmS : OkS (ofI (p ^ j)) := hmB.okS (by decide)
  have hlen := hd.len
  have hlen2 := hup.len
  refine loop_eq (fun s : Int => ∃ i : Nat, s = (i : Int) ∧ i ≤ us.length) (fun s => us.length - s.toNat) _ ?_ _ _ ⟨0, rfl, Nat.zero_le _⟩ (by show us.length - 0 < fu; omega)
  rintro s L ⟨i, rfl, hi⟩ ih
  unfold B_law13_HenselDown_0
  by_cases h1 : i < us.length
  · have hU := hup.get i h1
    have hD := hd.getz i h1
    have hg := hl _ (getD_memi (l := fs) (i := i) (by omega))
    have ul := hU.len
    have hrl := redP_len (us.getD i []) (p ^ j)
    rw [if_pos (by omega), ckI_n h1, nm_t, bd_t (M_hensel_Red_eq hU.rd.ok (by decide) hmS (by omega) hf), zv_ofI, redR_up (by omega), hD]
    simp only [if_true]
    rw [ckI_n (by omega), nm_t, bd_t (M_law13_same_t (k := 250) (by rw [← hD]; exact redP_ok hmB (by omega)) (by decide) (by rw [← hD]; omega) hf rfl), if_neg (by decide), ck64_t ⟨by omega, by omega⟩]
    exact ih _ ⟨i + 1, by omega, by omega⟩ (by omega)
  · rw [if_neg (by omega)]
theorem hensel_down (a : List Zr) (fs : List (List Int)) (p k j : Int) (ha : (Ty.l (.p .b (.l .u))).ok a) : M_law13_HenselDown 4000000 a fs p k j = some true := by
  obtain ⟨fu, hfu⟩ : ∃ fu, fu = 4000000 := ⟨_, rfl⟩
  have haw := law13_awake
  rw [← hfu] at haw ⊢
  have hf : 3000000 ≤ fu := by omega
  unfold M_law13_HenselDown
  have hsm : M_law13_small fu 12 3 [a] = some (decide (∀ l ∈ [a], SmallP 12 3 l)) := M_law13_small_eq (c := 12) (k := 3) (by simp) (by decide) hf
  rw [bd_t haw]
  by_cases h30 : (30 : Int) < k
  · rw [if_pos h30]
  rw [if_neg h30]
  by_cases h1 : k < 1
  · rw [if_pos h1]
  rw [if_neg h1, bd_t hsm]
  by_cases hs : ∀ l ∈ [a], SmallP 12 3 l
  · have sa := hs a (by simp)
    have pa := ok_poly ha sa.2
    have la := sa.1
    have pa' : OkP 250 a := pa.mono (by decide)
    obtain ⟨b, b1, b2⟩ := few_ex (fu := fu) (fs := fs) hf
    rw [decide_eq_true hs, if_neg (by decide), bd_t b1]
    cases b with
    | false => rw [if_pos (by decide)]
    | true =>
      have hfs := b2 rfl
      obtain ⟨m1, m2⟩ := andI_mask j
      have ht : Int.tmod (andI j 1023) k = andI j 1023 % k := tmod_nn m1
      have hr := red_rng (a := andI j 1023) (p := k) (by omega)
      rw [if_neg (by decide), nm_t, ck_t (by omega), nm_t, ht, ck64_t ⟨by omega, by omega⟩]
      obtain ⟨i, hi⟩ : ∃ i, i = 1 + andI j 1023 % k := ⟨_, rfl⟩
      rw [← hi]
      obtain ⟨us, e, e1, e2, e3⟩ := M_hensel_Lift_ex (fu := fu) (p := p) (k := k) (fs := fs) pa' (by omega) (by omega)
      obtain ⟨vs, f, f1, f2, f3⟩ := M_hensel_Lift_ex (fu := fu) (p := p) (k := i) (fs := fs) pa' (by omega) (by omega)
      have he := lift_err pa' (by omega) (by omega) (by omega) (by omega) e1
      have hfe := lift_err pa' (by omega) (by omega) (by omega) (by omega) f1
      have hef : e = f := by rw [he, hfe]
      rw [bd_t e1]
      simp only []
      rw [bd_t f1]
      simp only []
      by_cases h0 : e = 0
      · obtain ⟨hL, hk1⟩ := e2 h0
        obtain ⟨hM, hi1⟩ := f2 (by omega)
        obtain ⟨p1, p2⟩ := prm_rng hL.hp
        have hd := lift_down hL hM (by omega)
        have hdl := hd.len
        have hul := hL.up.len
        have hpow : powR p i = (ofI (p ^ i.toNat), 0) := by
          unfold powR
          rw [if_pos ⟨hL.hp, by omega, by omega⟩]
        have hnl := nrm_len a
        rw [if_pos h0, if_pos (by omega), bd_t (M_hensel_Power_eq (by omega)), hpow]
        simp only []
        rw [if_pos (by omega), bd_t (down_loop hL.hp hL.k1 hL.k2 hM.k1 hM.k2 hL.up (fun g hg => by have := (hL.rt.mem g hg).2; omega) hd (by omega) hf)]
      · rw [if_neg h0]
        simp only [if_true]
        rw [if_pos hef]
  · rw [decide_eq_false hs, if_pos (by decide)]
end Go.Proofs.YtjnjfinbdfolkaaGreat
end

section
namespace Go.Proofs.YtjnjfinbdfolkaaGreat.henselDown
open Go.ChangeShapes Go.WideShapes Go.ChangeAt Go.RowKit
set_option linter.unusedVariables false
theorem own : ownKnob Tryz.prog.godebug = none := by kernel_rfl
theorem atW : TyAt Tryz.prog .u 102 := id (by kernel_rfl : Tryz.prog.underlying 102 = some (.int .u64))
theorem atB : TyAt Tryz.prog .b 4 := id (by kernel_rfl : Tryz.prog.underlying 4 = some .bool)
theorem atL : TyAt Tryz.prog (.l .u) 23 := TyAt.sl (E := 102) (by kernel_rfl) (by kernel_rfl) (by decide) atW
theorem atZ : TyAt Tryz.prog (.p .b (.l .u)) 25 := TyAt.st (A := 4) (B := 23) (by kernel_rfl) (by kernel_rfl) (by kernel_rfl) (by kernel_rfl) atB atL
theorem atP : TyAt Tryz.prog (.l (.p .b (.l .u))) 31 := TyAt.sl (E := 25) (by kernel_rfl) (by kernel_rfl) (by decide) atZ
theorem atI : TyAt Tryz.prog .i 3 := id (by kernel_rfl : Tryz.prog.underlying 3 = some (.int .i64))
theorem atIs : TyAt Tryz.prog (.l .i) 51 := TyAt.sl (E := 3) (by kernel_rfl) (by kernel_rfl) (by decide) atI
theorem atIss : TyAt Tryz.prog (.l (.l .i)) 32 := TyAt.sl (E := 51) (by kernel_rfl) (by kernel_rfl) (by decide) atIs
set_option maxRecDepth 100000 in
theorem lifted (os : Os) (started : os.Started) (H : Type) (enc : TypeId × Value → H) :
    ReturnsInHanded {} Tryz.checked os 5 .any (Rows.henselDownSpec.pre6 enc Tryz.prog Tryz.f5 Rows.henselDownRow.domain false) (Rows.henselDownSpec.post enc Tryz.prog Tryz.f5 false true false false) := by
  refine returnsInHanded_of_change (C := Tryz.checked) own started (by kernel_rfl) Tryz.func5
    (ChangeSpec.witness6 (enc := enc) (C := Tryz.checked) false ⟨#[], #[.slice none 0 0, .slice none 0 0, .int .i64 0, .int .i64 0, .int .i64 0], []⟩ 8 (by kernel_rfl) (by kernel_rfl) (by kernel_rfl) (by kernel_rfl)) ?_
  intro W base args ds gs before hval0 hW hcnd _
  have hval : ∀ (j : Nat) t v, Tryz.f5.params[j]? = some t → args[j]? = some v → Value.okWide Tryz.prog W .any base t v := hval0
  have hW' := hW
  obtain ⟨p, q, hA0, hV, _, _, _⟩ := hW
  have hA : DataW.TrodAll enc Tryz.prog W 0 (fun _ => true) true Tryz.f5.params.toList args.toList ds p := hA0
  rw [Tryz.params5] at hA
  obtain ⟨v0, vs0, d0, ds0, p0, q0, hargs, rfl, _, _, r0⟩ := trodAll_cons hA
  obtain ⟨v1, vs1, d1, ds1, p1, q1, _, rfl, _, _, r1⟩ := trodAll_cons r0
  obtain ⟨v2, vs2, d2, ds2, p2, q2, _, rfl, _, _, r2⟩ := trodAll_cons r1
  obtain ⟨v3, vs3, d3, ds3, p3, q3, _, rfl, _, _, r3⟩ := trodAll_cons r2
  obtain ⟨v4, vs4, d4, ds4, p4, q4, _, rfl, _, _, r4⟩ := trodAll_cons r3
  obtain ⟨_, rfl, _⟩ := trodAll_nil r4
  obtain ⟨rfl, _⟩ := trodVars_none hV
  exact law_end (sg := s_law13_HenselDown 4000000) hW' rfl hval (by kernel_rfl) (by rw [Tryz.params5]; decide +kernel) (by rw [Tryz.params5]; exact ⟨atP, atIss, atI, atI, atI, trivial⟩) rfl (g_law13_HenselDown 4000000)
    (fun x hx => hensel_down x.1 x.2.1 x.2.2.1 x.2.2.2.1 x.2.2.2.2.1 hx.1) (B := 4) (by kernel_rfl) Tryz.underlying4 rfl
theorem over : Rows.henselDownRow.holds Tryz.pinned (OpenSpec.ofChange Rows.henselDownSpec) :=
  OpenClaim.holds_of_wide 5 Tryz.f5 rfl rfl rfl rfl rfl rfl rfl ⟨rfl, rfl, rfl, rfl, rfl⟩ rfl rfl rfl rfl rfl (by kernel_rfl) Tryz.func5 (by kernel_rfl)
    (of_decide_eq_true (by kernel_rfl)) (by unfold Func.isWrapper; first | (rw [if_pos (by decide +kernel)]; kernel_rfl) | (rw [if_neg (by decide +kernel)]; exact ⟨rfl, rfl⟩))
    (fun os started H enc _ => lifted os started H enc)
theorem proved : Rows.HenselDownSaid :=
  over
end Go.Proofs.YtjnjfinbdfolkaaGreat.henselDown
end

