/- Factors that are brought up to a power of a prime by the program and by the document are the same, and so is what is refused: for every input. No condition. -/
import Derived.Test.YtjnjfinbdfolkaaGreatHl7
section
set_option linter.unusedVariables false
set_option linter.unusedSimpArgs false
namespace Go.Proofs.YtjnjfinbdfolkaaGreat
theorem div10_by {fu K : Nat} {a : List Zr} {c : Int} (ha : OkP K a) (hc : Bz K c) (hcn : c ≠ 0) (hdv : ∀ k, c ∣ cf a k) (hK : K ≤ 9000) (hl : a.length ≤ 1000) (hf : 3000000 ≤ fu) : M_ref10_Div fu a [ofI c] = some (nzp a.length (fun k => cf a k / c), 0) := by
  unfold M_ref10_Div
  have hcl := hc.len
  have hco : OkP K [ofI c] := fun z hz => by
    obtain rfl := List.mem_singleton.1 hz
    exact ⟨ofI_limbs _, hcl⟩
  have hcc : nzp [ofI c].length (cf [ofI c]) = [ofI c] := by
    show nzp 1 _ = _
    unfold nzp
    rw [show dg (cf [ofI c]) 1 = 1 from dg_step1 (m := 0) (by show zv (ofI c) ≠ 0; rw [zv_ofI]; exact hcn)]
    show [ofI (zv (ofI c))] = _
    rw [zv_ofI]
  have hcf : ∀ k, cf [ofI c] k = if k = 0 then c else 0 := fun k => by
    by_cases hk : k = 0
    · rw [if_pos hk, hk]; exact zv_ofI _
    · rw [if_neg hk]; exact cf_ge (by simp; omega)
  rw [bd_t (M_ref10_Norm_eq hco (by omega) (by simp) hf), hcc, if_neg (show ¬ ((([ofI c] : List Zr).length : Nat) : Int) = 0 from by simp), bd_t (M_ref10_Norm_eq ha (by omega) (by omega) hf)]
  obtain ⟨n, hne⟩ : ∃ n, n = a.length := ⟨_, rfl⟩
  rw [bd_t (v := .inl (nzp a.length (fun k => cf a k / c)))]
  refine loop_eq (fun s : List Zr × List Zr × List Zr => ∃ m : Nat, m ≤ n ∧ s = ([ofI c], nzp m (cf a), nzp n (fun k => if m ≤ k then cf a k / c else 0))) (fun s => s.2.1.length) _ ?_ _ _ ⟨n, Nat.le_refl _, ?_⟩ (by show (nzp a.length (cf a)).length < fu; rw [nzp_len]; have := dg_le (cf a) a.length; omega)
  · rintro s L ⟨m, hm, rfl⟩ ih
    unfold B_ref10_Div_0
    simp only []
    have hrd := dg_le (cf a) m
    have hdl : (nzp m (cf a)).length = dg (cf a) m := nzp_len _ _
    have hrcf : ∀ k, cf (nzp m (cf a)) k = if k < m then cf a k else 0 := fun k => by
      have e : nzp m (cf a) = nzp m (fun k => if k < m then cf a k else 0) := nzp_congr fun k hk => by rw [if_pos hk]
      rw [e, nzp_cf fun k hk => if_neg (by omega)]
    by_cases h1 : 0 < dg (cf a) m
    · obtain ⟨d, hd⟩ : ∃ d, dg (cf a) m = d + 1 := ⟨dg (cf a) m - 1, by omega⟩
      have htop : cf a d ≠ 0 := by have := dg_top (cf a) m (by omega); rw [hd] at this; exact this
      have hg1 : (nzp m (cf a)).getD d (false, []) = ofI (cf a d) := by
        unfold nzp
        rw [hd]
        exact zi_getD (by omega)
      have hex1 : exI (cf a d) (c) = cf a d / c := by
        unfold exI
        rw [if_neg hcn, if_pos (Int.emod_eq_zero_of_dvd (hdv d))]
      have hex2 : exE (cf a d) (c) = 0 := by
        unfold exE
        rw [if_neg hcn, if_pos (Int.emod_eq_zero_of_dvd (hdv d))]
      have hvb : Bz K (cf a d / c) := (ha.bz d).le (Int.natAbs_ediv_le_natAbs _ _)
      have hpart : List.replicate d (false, []) ++ [ofI (cf a d / c)] = zi (d + 1) (mono d (cf a d / c)) := by
        rw [zi_rep, ← zi_snoc]
        congr 1
        · exact zi_congr fun k hk => by unfold mono; rw [if_neg (by omega)]
        · unfold mono; rw [if_pos rfl]
      have hpo : OkP K (zi (d + 1) (mono d (cf a d / c))) := OkP_zi fun j => by
        unfold mono
        split
        · exact hvb
        · exact Bz.zero _
      have hqo : OkP K (nzp n (fun k => if m ≤ k then cf a k / c else 0)) := OkP_nzp fun j => by
        split
        · exact (ha.bz j).le (Int.natAbs_ediv_le_natAbs _ _)
        · exact Bz.zero _
      have hql : (nzp n (fun k => if m ≤ k then cf a k / c else 0)).length ≤ n := by rw [nzp_len]; exact dg_le _ _
      have hro : OkP K (nzp m (cf a)) := OkP_nzp ha.bz
      have hmo := mulP_ok hpo hco
      have hml := mulP_len (zi (d + 1) (mono d (cf a d / c))) [ofI c]
      rw [zi_len] at hml hmo
      rw [if_pos (by rw [hdl]; omega), hdl, hd, show (([ofI c] : List Zr).length : Nat) = 1 from rfl, show ((d + 1 : Nat) : Int) - ((1 : Nat) : Int) = (d : Int) by omega, ck64_t ⟨by omega, by omega⟩, show ((d + 1 : Nat) : Int) - 1 = (d : Int) by omega, ck64_t ⟨by omega, by omega⟩, ckI_n (by omega), nm_t, hg1, show ((1 : Nat) : Int) - 1 = ((0 : Nat) : Int) by rfl, ck64_t ⟨by omega, by omega⟩, ckI_n (by omega), nm_t, show ([ofI c] : List Zr).getD 0 (false, []) = ofI c from rfl, bd_t (M_ref02_Exact_eq ((ha.bz d).okS (by omega)) (hc.okS (by omega)) hf), zv_ofI, zv_ofI, hex1, hex2]
      simp only [if_true]
      rw [if_neg (by omega), ckN_n, ck_t (by omega), nm_t, ck_t (by simp; omega), nm_t, hpart, bd_t (M_ref10_Add_eq hqo hpo (by omega) (by omega) (by rw [zi_len]; omega) hf), bd_t (M_ref10_Mul_eq hpo hco (by rw [zi_len]; omega) (by simp) hf), bd_t (M_ref10_Sub_eq (k := K + K + (d + 1)) (hro.mono (by omega)) hmo (by omega) (by omega) (by simp at hml; omega) hf)]
      have e1 : subP (nzp m (cf a)) (mulP (zi (d + 1) (mono d (cf a d / c))) [ofI c]) = nzp d (cf a) := by
        unfold subP
        have e3 : nzp d (cf a) = nzp d (fun k => if k < d then cf a k else 0) := nzp_congr fun k hk => by rw [if_pos hk]
        rw [e3]
        refine nzp_ext (fun k hk => by rw [cf_ge (by omega), cf_ge (by omega)]; rfl) (fun k hk => if_neg (by omega)) fun k => ?_
        rw [mulP_mono, hrcf]
        unfold shP
        by_cases hk : k < d
        · rw [if_pos (by omega), if_pos hk, if_neg (by omega), Int.mul_zero, Int.sub_zero]
        · rw [if_neg hk]
          by_cases hk2 : k = d
          · subst hk2
            rw [if_pos (by omega), if_pos (Nat.le_refl _), hcf, if_pos (by omega), Int.ediv_mul_cancel (hdv k)]
            omega
          · have hz : (if k < m then cf a k else 0) = 0 := by
              split
              · exact dg_out (cf a) m k (by omega) (by omega)
              · rfl
            rw [hz, if_pos (by omega), hcf, if_neg (by omega), Int.mul_zero]
            rfl
      have e2 : nzp (max (nzp n (fun k => if m ≤ k then cf a k / c else 0)).length (zi (d + 1) (mono d (cf a d / c))).length) (fun j => cf (nzp n (fun k => if m ≤ k then cf a k / c else 0)) j + cf (zi (d + 1) (mono d (cf a d / c))) j) = nzp n (fun k => if d ≤ k then cf a k / c else 0) := by
        refine nzp_ext (fun k hk => by rw [cf_ge (by omega), cf_ge (by omega)]; rfl) (fun k hk => by rw [cf_ge (p := a) (by omega), Int.zero_ediv, ite_self]) fun k => ?_
        rw [nzp_cf (fun k hk => by rw [cf_ge (p := a) (by omega), Int.zero_ediv, ite_self]), cf_zi_z (fun k hk => by unfold mono; rw [if_neg (by omega)])]
        unfold mono
        by_cases hk : k < d
        · rw [if_neg (show ¬ m ≤ k by omega), if_neg (show ¬ k = d by omega), if_neg (show ¬ d ≤ k by omega)]; rfl
        · by_cases hk2 : k = d
          · subst hk2
            rw [if_neg (show ¬ m ≤ k by omega), if_pos rfl, if_pos (Nat.le_refl _), Int.zero_add]
          · rw [if_neg hk2, if_pos (show d ≤ k by omega), Int.add_zero]
            by_cases hk3 : m ≤ k
            · rw [if_pos hk3]
            · rw [if_neg hk3, dg_out (cf a) m k (by omega) (by omega), Int.zero_ediv]
      show L ([ofI c], _, _) = _
      rw [e1, e2]
      exact ih _ ⟨d, by omega, rfl⟩ (by show (nzp d (cf a)).length < (nzp m (cf a)).length; rw [hdl, nzp_len]; have := dg_le (cf a) d; omega)
    · rw [if_neg (by rw [hdl]; omega)]
      congr 2
      rw [← hne]
      refine nzp_congr fun k hk => ?_
      by_cases hk3 : m ≤ k
      · rw [if_pos hk3]
      · rw [if_neg hk3, dg_out (cf a) m k (by omega) (by omega), Int.zero_ediv]
  · rw [hne]
    congr 2
    · have e : nzp a.length (fun k => if a.length ≤ k then cf a k / c else 0) = nzp a.length (fun _ => 0) := nzp_congr fun k hk => if_neg (by omega)
      rw [e]
      have : dg (fun _ => (0 : Int)) a.length = 0 := dg_uniq (Nat.zero_le _) (fun _ _ _ => rfl) (.inl rfl)
      unfold nzp
      rw [this]
      rfl
theorem M_ref10_Of_eq {fu : Nat} {l : List Int} (hr : ∀ k, -9223372036854775807 ≤ ci l k ∧ ci l k ≤ 9223372036854775807) (hl : l.length ≤ 1000000) (hf : 3000000 ≤ fu) : M_ref10_Of fu l = some (zlift l) := by
  unfold M_ref10_Of
  have hB : OkP 1 (zi l.length (ci l)) := OkP_zi fun k => by
    have := hr k
    unfold Bz
    omega
  rw [bd_t (v := zi l.length (ci l))]
  · rw [bd_t (M_ref10_Norm_eq hB (by decide) (by rw [zi_len]; exact hl) hf), zi_len, nzp_zi]
    rfl
  · refine loop_eq (fun s : List Zr × Int => ∃ i : Nat, i ≤ l.length ∧ s = (zi i (ci l), (i : Int))) (fun s => l.length - s.2.toNat) _ ?_ _ _ ⟨0, Nat.zero_le _, rfl⟩ (by show l.length - 0 < fu; omega)
    rintro s L ⟨i, hi, rfl⟩ ih
    unfold B_ref10_Of_0
    simp only []
    by_cases h : i < l.length
    · rw [if_pos (by omega), ckI_n h, nm_t, ci_d, bd_t (M_ref02_Of_eq (hr i) (by omega)), ck_t (by rw [zi_len]; simp; omega), nm_t, zi_snoc, ck64_t ⟨by omega, by omega⟩]
      exact ih _ ⟨i + 1, by omega, rfl⟩ (by show l.length - ((i : Int) + 1).toNat < l.length - (i : Int).toNat; omega)
    · rw [if_neg (by omega)]
      obtain rfl : i = l.length := by omega
      rfl
theorem fp_of {p : Int} {l : List Int} (h : Fp p l) (p2 : p ≤ 65521) (k : Nat) : -9223372036854775807 ≤ ci l k ∧ ci l k ≤ 9223372036854775807 := by
  have := h.nn k
  have := h.lt k
  omega
def allP (us : List (List Zr)) : List Zr := us.foldl mulP [ofI 1]
theorem foldl_allP : ∀ (us : List (List Zr)) (t : List Zr), (cf (us.foldl mulP t) : Pz) = cf t * prZ (us.map fun u => (cf u : Pz))
  | [], t => (p_mul_one _).symm
  | u :: us, t => by
    show (cf (us.foldl mulP (mulP t u)) : Pz) = cf t * (cf u * prZ (us.map fun u => (cf u : Pz)))
    rw [foldl_allP us (mulP t u), mulP_mul, p_mul_assoc]
theorem cf_one1 : (cf [ofI 1] : Pz) = pc 1 := funext fun k => by
  cases k with
  | zero => rfl
  | succ k => rw [cf_ge (by simp)]; rfl
theorem allP_cf (us : List (List Zr)) : (cf (allP us) : Pz) = prZ (us.map fun u => (cf u : Pz)) := by
  unfold allP
  rw [foldl_allP, cf_one1, p_one_mul]
theorem allP_bnd {K M N : Nat} : ∀ {us : List (List Zr)} {t : List Zr} {T : Nat}, (∀ u ∈ us, OkP K u ∧ u.length ≤ M) → OkP T t → t.length + us.length * M ≤ N → (us.foldl mulP t).length ≤ t.length + us.length * M ∧ OkP (T + us.length * (K + N)) (us.foldl mulP t)
  | [], t, T, _, h, _ => ⟨by simp, by simpa using h⟩
  | u :: us, t, T, hu, h, hN => by
    obtain ⟨h1, h2⟩ := hu u (List.mem_cons_self ..)
    have hml := mulP_len t u
    have hN' : t.length + (us.length + 1) * M ≤ N := hN
    rw [Nat.add_mul, Nat.one_mul] at hN'
    obtain ⟨e1, e2⟩ := allP_bnd (K := K) (M := M) (N := N) (us := us) (t := mulP t u) (T := T + K + t.length) (fun x hx => hu x (List.mem_cons_of_mem _ hx)) (mulP_ok h h1) (by omega)
    refine ⟨?_, e2.mono ?_⟩
    · show (us.foldl mulP (mulP t u)).length ≤ t.length + (us.length + 1) * M
      rw [Nat.add_mul, Nat.one_mul]; omega
    · show _ ≤ T + (us.length + 1) * (K + N)
      rw [Nat.add_mul us.length 1, Nat.one_mul]; omega
theorem M_ref13_all_io_eq {fu K M N : Nat} {us : List (List Zr)} (hu : ∀ u ∈ us, OkP K u ∧ u.length ≤ M) (hN : 1 + us.length * M ≤ N) (hN2 : N ≤ 10000) (hn : us.length ≤ 1000) (hb : 1 + us.length * (K + N) + K + N ≤ 90000) (hM : M ≤ 10000) (hf : 3000000 ≤ fu) : M_ref13_all_io fu us = some (allP us, us) := by
  unfold M_ref13_all_io
  rw [bd_t (M_ref10_Of_one hf), bd_t (v := allP us)]
  have h1 : OkP 1 [ofI 1] := fun z hz => by
    obtain rfl := List.mem_singleton.1 hz
    exact ⟨ofI_limbs _, by decide⟩
  refine loop_eq (fun s : List Zr × Int => ∃ i : Nat, i ≤ us.length ∧ s = (allP (us.take i), (i : Int))) (fun s => us.length - s.2.toNat) _ ?_ _ _ ⟨0, Nat.zero_le _, rfl⟩ (by show us.length - 0 < fu; omega)
  rintro s L ⟨i, hi, rfl⟩ ih
  unfold B_ref13_all_io_0
  simp only []
  by_cases h : i < us.length
  · have hm : us.getD i [] ∈ us := by
      rw [List.getD_eq_getElem?_getD, List.getElem?_eq_getElem h]
      exact List.getElem_mem h
    obtain ⟨g1, g2⟩ := hu _ hm
    have htl : (us.take i).length = i := by rw [List.length_take]; omega
    have hiM : i * M ≤ us.length * M := Nat.mul_le_mul_right _ hi
    have hiK : i * (K + N) ≤ us.length * (K + N) := Nat.mul_le_mul_right _ hi
    obtain ⟨b1, b2⟩ := allP_bnd (K := K) (M := M) (N := N) (us := us.take i) (t := [ofI 1]) (T := 1) (fun u hx => hu u (List.mem_of_mem_take hx)) h1 (by rw [htl]; show 1 + i * M ≤ N; omega)
    rw [htl] at b1 b2
    have b3 : ([ofI 1] : List Zr).length = 1 := rfl
    have b4 : (allP (us.take i)).length ≤ 1 + i * M := b1
    have b5 : OkP (1 + i * (K + N)) (allP (us.take i)) := b2
    rw [if_pos (by omega), ckI_n h, nm_t, bd_t (M_ref10_Mul_eq b5 g1 (by omega) (by omega) hf), ck64_t ⟨by omega, by omega⟩]
    refine ih _ ⟨i + 1, by omega, ?_⟩ (by show us.length - ((i : Int) + 1).toNat < us.length - (i : Int).toNat; omega)
    congr 1
    unfold allP
    rw [take_snocz h, List.foldl_append]
    rfl
  · rw [if_neg (by omega)]
    obtain rfl : i = us.length := by omega
    rw [List.take_length]
theorem erase_take {fs : List (List Int)} {i j : Nat} (h : j < fs.length) : (fs.take (j + 1)).eraseIdx i = if j = i then (fs.take j).eraseIdx i else (fs.take j).eraseIdx i ++ [fs.getD j []] := by
  rw [take_snoc h]
  have hl : (fs.take j).length = j := by rw [List.length_take]; omega
  by_cases h1 : j = i
  · subst h1
    rw [if_pos rfl, List.eraseIdx_append_of_length_le (by omega), hl, Nat.sub_self, List.eraseIdx_of_length_le (l := fs.take j) (by omega)]
    simp
  · rw [if_neg h1]
    by_cases h2 : i < j
    · rw [List.eraseIdx_append_of_lt_length (by omega)]
    · rw [List.eraseIdx_append_of_length_le (by omega), hl, List.eraseIdx_of_length_le (l := fs.take j) (by omega), List.eraseIdx_of_length_le (by simp; omega)]
theorem prod13_but {fu M i : Nat} {fs : List (List Int)} {p : Int} (hp : prm p = true) (hF : ∀ f ∈ fs, Fp p f) (hM : ∀ f ∈ fs, f.length ≤ M) (hb1 : 1 + fs.length * M ≤ 90000) (hb2 : M ≤ 90000) (hb3 : fs.length ≤ 90000) (hf : 3000000 ≤ fu) : M_ref13_product fu fs (i : Int) p = some (prodF p (fs.eraseIdx i)) := by
  obtain ⟨p1, p2⟩ := prm_rng hp
  unfold M_ref13_product
  rw [bd_t (v := prodF p (fs.eraseIdx i))]
  refine loop_eq (fun s : List Int × Int => ∃ j : Nat, j ≤ fs.length ∧ s = (prodF p ((fs.take j).eraseIdx i), (j : Int))) (fun s => fs.length - s.2.toNat) _ ?_ _ _ ⟨0, Nat.zero_le _, rfl⟩ (by show fs.length - 0 < fu; omega)
  rintro s L ⟨j, hj, rfl⟩ ih
  unfold B_ref13_product_0
  simp only []
  by_cases h1 : j < fs.length
  · have hm := getD_memi h1
    have he := erase_take (fs := fs) (i := i) h1
    rw [if_pos (by omega)]
    by_cases h2 : j = i
    · rw [if_pos (by omega), ck64_t ⟨by omega, by omega⟩]
      rw [if_pos h2] at he
      exact ih _ ⟨j + 1, by omega, by rw [he]; rfl⟩ (by show fs.length - ((j : Int) + 1).toNat < fs.length - (j : Int).toNat; omega)
    · have hl := prodF_le (p := p) (fs := (fs.take j).eraseIdx i) (M := M) fun f hf => hM f (List.mem_of_mem_take (List.mem_of_mem_eraseIdx hf))
      have hl0 : ((fs.take j).eraseIdx i).length ≤ fs.length := Nat.le_trans (List.length_eraseIdx_le ..) (List.length_take_le' ..)
      have hl2 : ((fs.take j).eraseIdx i).length * M ≤ fs.length * M := Nat.mul_le_mul_right _ hl0
      have hl3 := hM _ hm
      rw [if_neg (by omega), ckI_n h1, nm_t, bd_t (M_ref06_Times_eq hp (prodF_fp (by omega) _) (hF _ hm) (by omega) (by omega) hf), ck64_t ⟨by omega, by omega⟩]
      rw [if_neg h2] at he
      refine ih _ ⟨j + 1, by omega, ?_⟩ (by show fs.length - ((j : Int) + 1).toNat < fs.length - (j : Int).toNat; omega)
      rw [he]
      congr 1
      unfold prodF
      rw [List.foldl_append]
      rfl
  · rw [if_neg (by omega), List.take_of_length_le (by omega)]
end Go.Proofs.YtjnjfinbdfolkaaGreat
end

section
set_option linter.unusedVariables false
set_option linter.unusedSimpArgs false
namespace Go.Proofs.YtjnjfinbdfolkaaGreat
structure FewF (p : Int) (fs : List (List Int)) : Prop where
  pl : ∀ g ∈ fs, PlL p g
  ln : ∀ g ∈ fs, g.length ≤ 14
  n : fs.length ≤ 12
  cp : ∀ i j, i < fs.length → j < i → Cop p (ci (fs.getD i [])) (ci (fs.getD j []))
theorem getD_get {fs : List (List Int)} {i : Nat} (h : i < fs.length) : fs.getD i [] = fs[i] := by
  rw [List.getD_eq_getElem?_getD, List.getElem?_eq_getElem h]; rfl
theorem FewF.others {p : Int} {fs : List (List Int)} (h : FewF p fs) {i : Nat} (hi : i < fs.length) : ∀ g ∈ fs.take i ++ fs.drop (i + 1), Cop p (ci g) (ci (fs.getD i [])) := by
  intro g hg
  rcases List.mem_append.1 hg with hg | hg
  · obtain ⟨t, ht, rfl⟩ := List.mem_iff_getElem.1 hg
    have ht2 : t < i := by rw [List.length_take] at ht; omega
    have := h.cp i t hi ht2
    rw [getD_get (show t < fs.length by omega)] at this
    rw [List.getElem_take]
    exact this.symm
  · obtain ⟨t, ht, rfl⟩ := List.mem_iff_getElem.1 hg
    have ht2 : i + 1 + t < fs.length := by rw [List.length_drop] at ht; omega
    have := h.cp (i + 1 + t) i ht2 (by omega)
    rw [getD_get ht2] at this
    rw [List.getElem_drop]
    exact this
theorem lift0 {fu : Nat} {p c : Int} {fs : List (List Int)} (hp : prm p = true) (hF : FewF p fs) (hc : c % p ≠ 0) (hcB : Bz 4 c) (hf : 3000000 ≤ fu) :
    ∃ r, loopN (B_ref13_Lift_0 fu fs p (ofI c)) fu ([], [], 0) = some r ∧ ∃ invs : List (List Int), r = (fs.map zlift, invs) ∧ invs.length = fs.length ∧ ∀ i, i < fs.length → InvP p c fs i (invs.getD i []) := by
  obtain ⟨p1, p2⟩ := prm_rng hp
  have hn := hF.n
  have hFp : ∀ f ∈ fs, Fp p f := fun f hf => (hF.pl f hf).fp (by omega)
  have hnM : fs.length * 14 ≤ 12 * 14 := Nat.mul_le_mul_right _ hn
  refine loop_ex (fun s : List (List Zr) × List (List Int) × Int => ∃ (i : Nat) (invs : List (List Int)), s = ((fs.take i).map zlift, invs, (i : Int)) ∧ i ≤ fs.length ∧ invs.length = i ∧ ∀ t, t < i → InvP p c fs t (invs.getD t [])) (fun s => fs.length - s.2.2.toNat) _ ?_ _ _ ⟨0, [], rfl, Nat.zero_le _, rfl, fun t h => absurd h (Nat.not_lt_zero _)⟩ (by show fs.length - 0 < fu; omega)
  rintro s L ⟨i, invs, rfl, hi, hil, hI⟩ ih
  unfold B_ref13_Lift_0
  simp only []
  by_cases h : i < fs.length
  · have hm := getD_memi h
    have hgf := hFp _ hm
    have hgl := hF.ln _ hm
    have hcr := red_rng (a := c) (p := p) (by omega)
    have hcO : OkP 4 [ofI c] := fun z hz => by
      obtain rfl := List.mem_singleton.1 hz
      exact ⟨ofI_limbs _, hcB.len⟩
    have hone := fp_one (p := p) (x := c % p) (by omega) hcr.2
    have hpl := prodF_le (p := p) (fs := fs.eraseIdx i) (M := 14) fun f hf => hF.ln f (List.mem_of_mem_eraseIdx hf)
    have hel : (fs.eraseIdx i).length * 14 ≤ fs.length * 14 := Nat.mul_le_mul_right _ (List.length_eraseIdx_le ..)
    obtain ⟨t9, ht9⟩ : ∃ t9, t9 = fmul p (prodF p (fs.eraseIdx i)) [c % p] := ⟨_, rfl⟩
    have h9f : Fp p t9 := by rw [ht9]; exact fmul_fp (by omega) _ _
    have h9l : t9.length ≤ 170 := by
      have := fmul_le p (prodF p (fs.eraseIdx i)) [c % p]
      simp only [List.length_cons, List.length_nil] at this
      rw [ht9]; omega
    have hX : Cg p (ci t9) ((prZ ((fs.take i).map ci) * prZ ((fs.drop (i + 1)).map ci)) * pc c) := by
      rw [ht9]
      refine (fmul_cg p _ _).trans ?_
      rw [ci_one, ← prZ_append, ← List.map_append, ← List.eraseIdx_eq_take_drop_succ]
      exact (prodF_cg p _).mul fun k => by unfold pc; split; exact Int.emod_emod _ _; rfl
    have hcop : Cop p (ci t9) (ci (fs.getD i [])) := by
      have h1 : Cop p (prZ ((fs.take i ++ fs.drop (i + 1)).map ci)) (ci (fs.getD i [])) := Cop.prZ (Fs.ci _) (fun x hx => by obtain ⟨g, _, rfl⟩ := List.mem_map.1 hx; exact Fs.ci g) fun x hx => by
        obtain ⟨g, hg, rfl⟩ := List.mem_map.1 hx
        exact hF.others h g hg
      rw [List.map_append, prZ_append] at h1
      have h2 : Cop p (pc (c % p)) (ci (fs.getD i [])) := cop_unit hp (by omega) hcr.2
      have h3 : Cg p (pc (c % p)) (pc c) := fun k => by unfold pc; split; exact Int.emod_emod _ _; rfl
      refine Cop.congr (Cop.mul (Fs.pc _) (Fs.ci _) ((Fs.prZ fun x hx => by obtain ⟨g, _, rfl⟩ := List.mem_map.1 hx; exact Fs.ci g).mul (Fs.prZ fun x hx => by obtain ⟨g, _, rfl⟩ := List.mem_map.1 hx; exact Fs.ci g)) h1 h2) ?_ Cg.rfl
      exact (Cg.rfl.mul h3).trans hX.symm
    obtain ⟨d, s, t, z1, zR, z3⟩ := M_ref06_Bezout_ex (fu := fu) hp h9f hgf (by omega) (by omega) hf
    have hbez := bez_one p1 zR z3 hcop
    have hNb : max t9.length (fs.getD i []).length * (max t9.length (fs.getD i []).length + 1) ≤ 200 * 201 := Nat.mul_le_mul (by omega) (by omega)
    have hsl := zR.sl
    have htl : (fs.take i).length = i := by rw [List.length_take]; omega
    rw [if_pos (by omega), ckI_n h, nm_t, bd_t (M_ref10_Of_eq (fp_of hgf p2) (by omega) hf), ck_t (by simp; omega), nm_t, bd_t (prod13_but (M := 14) hp hFp hF.ln (by omega) (by decide) (by omega) hf), bd_t (M_ref10_Mod_eq hcO (by decide) (by omega) p2 (by simp) hf)]
    simp only []
    rw [zmod_one (z := ofI c) (by omega) (by rw [zv_ofI]; exact hc), zv_ofI, bd_t (M_ref06_Times_eq hp (prodF_fp p1 _) hone (by omega) (by simp) hf), ← ht9, ckI_n h, nm_t, bd_t z1]
    simp only []
    rw [ck_t (by simp; omega), nm_t, ck64_t ⟨by omega, by omega⟩]
    refine ih _ ⟨i + 1, invs ++ [s], ?_, by omega, by simp [hil], fun t' ht' => ?_⟩ (by show fs.length - ((i : Int) + 1).toNat < fs.length - (i : Int).toNat; omega)
    · rw [take_snoc h, List.map_append]
      rfl
    · by_cases e : t' = i
      · subst e
        have hg : (invs ++ [s]).getD t' [] = s := by
          rw [List.getD_eq_getElem?_getD, List.getElem?_append_right (by omega), hil, Nat.sub_self]; rfl
        rw [hg]
        refine ⟨zR.sf, by omega, ci t, Fs.ci t, ?_⟩
        exact ((Cg.rfl.mul hX.symm).add Cg.rfl).trans hbez
      · have hg : (invs ++ [s]).getD t' [] = invs.getD t' [] := by
          rw [List.getD_eq_getElem?_getD, List.getElem?_append_left (by omega), ← List.getD_eq_getElem?_getD]
        rw [hg]
        exact hI t' (by omega)
  · rw [if_neg (by omega)]
    obtain rfl : i = fs.length := by omega
    exact ⟨_, rfl, invs, by rw [List.take_length], hil, hI⟩
theorem zip_get {m : Int} {us : List (List Zr)} {rs : List (List Int)} {i : Nat} (hr : rs.length = i) (hi : i < us.length) : ((us.take i).zipWith (uNew m) rs ++ us.drop i).getD i [] = us.getD i [] := by
  have hl : ((us.take i).zipWith (uNew m) rs).length = i := by rw [List.length_zipWith, List.length_take]; omega
  rw [List.getD_eq_getElem?_getD, List.getElem?_append_right (by omega), hl, Nat.sub_self, List.getElem?_drop, Nat.add_zero, ← List.getD_eq_getElem?_getD]
theorem zip_set {m : Int} {us : List (List Zr)} {rs : List (List Int)} {r : List Int} {i : Nat} (hr : rs.length = i) (hi : i < us.length) :
    ((us.take i).zipWith (uNew m) rs ++ us.drop i).set i (uNew m (us.getD i []) r) = (us.take (i + 1)).zipWith (uNew m) (rs ++ [r]) ++ us.drop (i + 1) := by
  have hl : ((us.take i).zipWith (uNew m) rs).length = i := by rw [List.length_zipWith, List.length_take]; omega
  have ht : (us.take i).length = rs.length := by rw [List.length_take]; omega
  rw [List.set_append_right _ _ (by omega), hl, Nat.sub_self, take_snocz hi, List.zipWith_append ht, List.drop_eq_getElem_cons hi, List.set_cons_zero, List.append_assoc]
  rfl
theorem lift2 {fu j : Nat} {p k : Int} {d : List Int} {fs invs : List (List Int)} {us : List (List Zr)} (hp : prm p = true) (hF : FewF p fs) (hj : 1 ≤ j) (hj2 : j ≤ 1000) (hd : Fp p d) (hdl : d.length ≤ 300) (hil : invs.length = fs.length) (hinv : ∀ i, i < fs.length → Fp p (invs.getD i []) ∧ (invs.getD i []).length ≤ 60000) (hU : All2 (Up p j) us fs) (hf : 3000000 ≤ fu) :
    ∃ r, loopN (B_ref13_Lift_2 fu invs (ofI (p ^ j))) fu (fs, p, k, d, 0, us) = some r ∧ ∃ rs : List (List Int), r = (fs, p, k, us.zipWith (uNew (p ^ j)) rs) ∧ rs.length = fs.length ∧ ∀ i, i < fs.length → RestP p d (invs.getD i []) (fs.getD i []) (rs.getD i []) := by
  obtain ⟨p1, p2⟩ := prm_rng hp
  have hn := hF.n
  have hul := hU.len
  have hmB := pow_bz hp hj2
  refine loop_ex (fun s : List (List Int) × Int × Int × List Int × Int × List (List Zr) => ∃ (i : Nat) (rs : List (List Int)), s = (fs, p, k, d, (i : Int), (us.take i).zipWith (uNew (p ^ j)) rs ++ us.drop i) ∧ i ≤ fs.length ∧ rs.length = i ∧ ∀ t, t < i → RestP p d (invs.getD t []) (fs.getD t []) (rs.getD t [])) (fun s => fs.length - s.2.2.2.2.1.toNat) _ ?_ _ _ ⟨0, [], rfl, Nat.zero_le _, rfl, fun t h => absurd h (Nat.not_lt_zero _)⟩ (by show fs.length - 0 < fu; omega)
  rintro s L ⟨i, rs, rfl, hi, hrl, hI⟩ ih
  unfold B_ref13_Lift_2
  simp only []
  have hol : ((us.take i).zipWith (uNew (p ^ j)) rs ++ us.drop i).length = us.length := by rw [List.length_append, List.length_zipWith, List.length_take, List.length_drop]; omega
  by_cases h : i < fs.length
  · have hm := getD_memi h
    have hpl := hF.pl _ hm
    have hgf : Fp p (fs.getD i []) := hpl.fp (by omega)
    have hgl := hF.ln _ hm
    have hg1 := hpl.2.1
    have hui := hU.get i (by omega)
    have huil := hui.len
    obtain ⟨hsf, hsl⟩ := hinv i h
    have hml := fmul_le p d (invs.getD i [])
    obtain ⟨q, r, e1, hq, hr, hcg, hlt, hql⟩ := M_ref06_Div_ex (fu := fu) hp (fmul_fp (p := p) (by omega) d (invs.getD i [])) hgf (by omega) (by omega) (by omega) hf
    have hzl := zlift_le r
    have hzo := zlift_ok (hr.rl p2)
    have hsO : OkP (1 + 250) (nzp (zlift r).length (fun t => cf (zlift r) t * p ^ j)) := OkP_nzp fun t => (hzo.bz t).mul hmB
    have hsL : (nzp (zlift r).length (fun t => cf (zlift r) t * p ^ j)).length ≤ (zlift r).length := by rw [nzp_len]; exact dg_le _ _
    have hnew : nzp (max (us.getD i []).length (nzp (zlift r).length (fun t => cf (zlift r) t * p ^ j)).length) (fun t => cf (us.getD i []) t + cf (nzp (zlift r).length (fun t => cf (zlift r) t * p ^ j)) t) = uNew (p ^ j) (us.getD i []) r := by
      refine nzp_ext (fun t ht => by rw [cf_ge (by omega), cf_ge (by omega)]; rfl) (fun t ht => by rw [cf_ge (by omega), ci_ge (by omega), Int.mul_zero]; rfl) fun t => ?_
      rw [nzp_cf (fun t ht => by rw [cf_ge ht, Int.zero_mul]), zlift_cf, Int.mul_comm]
    rw [if_pos (by omega), ckI_n (by omega), nm_t, bd_t (M_ref06_Times_eq hp hd hsf (by omega) (by omega) hf), ckI_n h, nm_t, bd_t e1]
    simp only []
    rw [ckI_n (by omega), nm_t, zip_get hrl (by omega), bd_t (M_ref10_Of_eq (fp_of hr p2) (by omega) hf), bd_t (M_ref10_Scale_eq (l := 250) hzo ⟨ofI_limbs _, hmB.len⟩ (by decide) (by omega) hf), zv_ofI, bd_t (M_ref10_Add_eq (k := 251) (hui.rd.ok.mono (by decide)) hsO (by decide) (by omega) (by omega) hf), hnew, ckI_n (by omega), nm_t, zip_set hrl (by omega), ck64_t ⟨by omega, by omega⟩]
    refine ih _ ⟨i + 1, rs ++ [r], rfl, by omega, by simp [hrl], fun t ht => ?_⟩ (by show fs.length - ((i : Int) + 1).toNat < fs.length - (i : Int).toNat; omega)
    by_cases e : t = i
    · subst e
      have hg : (rs ++ [r]).getD t [] = r := by
        rw [List.getD_eq_getElem?_getD, List.getElem?_append_right (by omega), hrl, Nat.sub_self]; rfl
      rw [hg]
      exact ⟨hr, hlt, ci q, Fs.ci q, (fmul_cg p d _).symm.trans hcg⟩
    · have hg : (rs ++ [r]).getD t [] = rs.getD t [] := by
        rw [List.getD_eq_getElem?_getD, List.getElem?_append_left (by omega), ← List.getD_eq_getElem?_getD]
      rw [hg]
      exact hI t (by omega)
  · rw [if_neg (by omega)]
    obtain rfl : i = fs.length := by omega
    refine ⟨_, rfl, rs, ?_, hrl, hI⟩
    rw [← hul, List.take_length, List.drop_length, List.append_nil]
end Go.Proofs.YtjnjfinbdfolkaaGreat
end

section
set_option linter.unusedVariables false
set_option linter.unusedSimpArgs false
namespace Go.Proofs.YtjnjfinbdfolkaaGreat
theorem all2_mn {p : Int} : ∀ {fs : List (List Int)}, (∀ g ∈ fs, PlL p g) → All2 Mn (fs.map ci) (fs.map fun g => g.length - 1)
  | [], _ => trivial
  | g :: fs, h => by
    have hg := h g (List.mem_cons_self ..)
    have := hg.2.1
    exact ⟨⟨hg.2.2, fun k hk => ci_ge (by have hk : g.length - 1 < k := hk; omega)⟩, all2_mn fun x hx => h x (List.mem_cons_of_mem _ hx)⟩
theorem all2_umn {p : Int} {j : Nat} : ∀ {us : List (List Zr)} {fs : List (List Int)}, All2 (Up p j) us fs → (∀ g ∈ fs, PlL p g) → All2 Mn (us.map fun u => (cf u : Pz)) (fs.map fun g => g.length - 1)
  | [], [], _, _ => trivial
  | u :: us, g :: fs, h, hp => ⟨h.1.mn (hp g (List.mem_cons_self ..)), all2_umn h.2 fun x hx => hp x (List.mem_cons_of_mem _ hx)⟩
  | [], _ :: _, h, _ => h.elim
  | _ :: _, [], h, _ => h.elim
theorem all2_ucg {p : Int} {j : Nat} : ∀ {us : List (List Zr)} {fs : List (List Int)}, All2 (Up p j) us fs → All2 (fun u g => Cg p u g) (us.map fun u => (cf u : Pz)) (fs.map ci)
  | [], [], _ => trivial
  | u :: us, g :: fs, h => ⟨h.1.cg, all2_ucg h.2⟩
  | [], _ :: _, h => h.elim
  | _ :: _, [], h => h.elim
theorem all2_of {R : List Int → List Int → Prop} : ∀ {rs fs : List (List Int)}, rs.length = fs.length → (∀ i, i < fs.length → R (rs.getD i []) (fs.getD i [])) → All2 R rs fs
  | [], [], _, _ => trivial
  | r :: rs, f :: fs, hl, h => ⟨h 0 (by simp), all2_of (by simpa using hl) fun i hi => h (i + 1) (by simpa using hi)⟩
  | [], _ :: _, hl, _ => by cases hl
  | _ :: _, [], hl, _ => by cases hl
theorem lift_start {p : Int} (hp : 0 < p) (p2 : p ≤ 65521) : ∀ {fs : List (List Int)}, (∀ g ∈ fs, PlL p g) → All2 (Up p 1) (fs.map zlift) fs ∧ (fs.map zlift).map (fun u => (cf u : Pz)) = fs.map ci
  | [], _ => ⟨trivial, rfl⟩
  | g :: fs, h => by
    have hg := h g (List.mem_cons_self ..)
    have hF := hg.fp hp
    have hl := zlift_len hF.nl
    obtain ⟨h1, h2⟩ := lift_start hp p2 (fs := fs) fun x hx => h x (List.mem_cons_of_mem _ hx)
    refine ⟨⟨⟨zlift_rd hF p2, hl, ?_, Cg.of (zlift_cf g)⟩, h1⟩, ?_⟩
    · rw [hl, zlift_cf]; exact hg.2.2
    · show (cf (zlift g) : Pz) :: (fs.map zlift).map (fun u => (cf u : Pz)) = ci g :: fs.map ci
      rw [h2, zlift_cf]
theorem right_cg {p : Int} {x : List Zr} {fs : List (List Int)} (hR : RightP p x fs) : Cg p (cf x) (pc (cf x (x.length - 1)) * prZ (fs.map ci)) := by
  refine (zmod_cg p x).symm.trans ?_
  rw [← hR.pr]
  refine (fmul_cg p _ _).trans ?_
  rw [ci_one, p_mul_comm]
  refine Cg.mul (fun j => ?_) (prodF_cg p fs)
  rw [zmod_ci]
  unfold pc; split
  · rw [Int.emod_emod]
  · rfl
theorem right_deg {p : Int} {x : List Zr} {fs : List (List Int)} (hp : prm p = true) (hR : RightP p x fs) : x.length - 1 = degS (fs.map fun g => g.length - 1) := by
  obtain ⟨p1, p2⟩ := prm_rng hp
  have hC := right_cg hR
  have ht := hR.top hp
  have h0 := hR.a0
  have hM := prZ_mn (all2_mn fun g hg => (hR.mem g hg).1)
  generalize degS (fs.map fun g => g.length - 1) = D at *
  generalize prZ (fs.map ci) = A at *
  by_cases h1 : D < x.length - 1
  · have := hC (x.length - 1)
    rw [pc_mul, hM.2 _ h1, Int.mul_zero, Int.zero_emod] at this
    exact absurd this ht
  · by_cases h2 : x.length - 1 < D
    · have := hC D
      rw [pc_mul, hM.1, Int.mul_one, cf_ge (by omega), Int.zero_emod] at this
      exact absurd this.symm ht
    · omega
theorem lift1 {fu k : Nat} {p : Int} {x : List Zr} {fs invs : List (List Int)} (hp : prm p = true) (hR : RightP p x fs) (hF : FewF p fs) (hxo : OkP 4 x) (hxl : x.length ≤ 14) (hk1 : 1 ≤ k) (hk : k ≤ 1000) (hil : invs.length = fs.length) (hinv : ∀ i, i < fs.length → InvP p (cf x (x.length - 1)) fs i (invs.getD i [])) (hf : 3000000 ≤ fu) :
    ∃ us, loopN (B_ref13_Lift_1 fu fs p (k : Int)) fu (x, 1, ofI (cf x (x.length - 1)), fs.map zlift, invs, ofI p) = some us ∧ All2 (Up p k) us fs ∧ (fs ≠ [] → Cg (p ^ k) (cf x) (pc (cf x (x.length - 1)) * prZ (us.map fun u => (cf u : Pz)))) := by
  obtain ⟨p1, p2⟩ := prm_rng hp
  have hn := hF.n
  have hdeg := right_deg hp hR
  have hcB : Bz 4 (cf x (x.length - 1)) := hxo.bz _
  have hcg0 := right_cg hR
  have hpw : (fs.map ci).Pairwise (Cop p) := List.pairwise_map.2 hR.pw
  have hone : OkP 1 [ofI 1] := fun z hz => by
    obtain rfl := List.mem_singleton.1 hz
    exact ⟨ofI_limbs _, by decide⟩
  have hxc : ∀ t, x.length ≤ t → cf x t = 0 := fun t ht => cf_ge ht
  have hx1 : x.length - 1 + 1 = x.length := by have := hR.a0; omega
  obtain ⟨c, hc⟩ : ∃ c, c = cf x (x.length - 1) := ⟨_, rfl⟩
  rw [← hc] at hinv hcB hcg0 ⊢
  obtain ⟨s1, s2⟩ := lift_start (p := p) (by omega) p2 hF.pl
  have hp1 : p ^ 1 = p := by rw [Int.pow_succ, Int.pow_zero, Int.one_mul]
  refine loop_ex (fun s : List Zr × Int × Zr × List (List Zr) × List (List Int) × Zr => ∃ (j : Nat) (us : List (List Zr)), s = (x, (j : Int), ofI c, us, invs, ofI (p ^ j)) ∧ 1 ≤ j ∧ j ≤ k ∧ All2 (Up p j) us fs ∧ Cg (p ^ j) (cf x) (pc c * prZ (us.map fun u => (cf u : Pz)))) (fun s => k - s.2.1.toNat) _ ?_ _ _ ⟨1, fs.map zlift, by rw [hp1]; rfl, Nat.le_refl _, hk1, s1, by rw [hp1, s2]; exact hcg0⟩ (by show k - 1 < fu; omega)
  rintro s L ⟨j, us, rfl, hj1, hjk, hU, hC⟩ ih
  unfold B_ref13_Lift_1
  simp only []
  by_cases h : j < k
  · rw [if_pos (by omega)]
    by_cases h0 : 0 < fs.length
    · have hul := hU.len
      have huM : ∀ u ∈ us, OkP 250 u ∧ u.length ≤ 14 := fun u hu => by
        obtain ⟨i, hi, rfl⟩ := List.mem_iff_getElem.1 hu
        have h1 := hU.get i hi
        have h2 := hF.ln _ (getD_memi (l := fs) (i := i) (by omega))
        rw [List.getD_eq_getElem?_getD, List.getElem?_eq_getElem hi] at h1
        have h1 : Up p j us[i] (fs.getD i []) := h1
        have h3 := h1.len
        exact ⟨h1.rd.ok, by omega⟩
      obtain ⟨b1, b2⟩ := allP_bnd (K := 250) (M := 14) (N := 200) (us := us) (t := [ofI 1]) (T := 1) huM hone (by show 1 + us.length * 14 ≤ 200; omega)
      have hA : OkP 5401 (allP us) := OkP.mono (p := allP us) b2 (by omega)
      have hAl : (allP us).length ≤ 170 := by
        have b1 : (allP us).length ≤ 1 + us.length * 14 := b1
        omega
      have hmB := pow_bz hp (k := j) (by omega)
      have hm2 := pow_ge hp hj1
      obtain ⟨sc, hsc⟩ : ∃ sc, sc = nzp (allP us).length (fun t => cf (allP us) t * c) := ⟨_, rfl⟩
      have hscO : OkP 5405 sc := by rw [hsc]; exact OkP_nzp fun t => ((hA.bz t).mul hcB).mono (by decide)
      have hscl : sc.length ≤ 170 := by rw [hsc, nzp_len]; exact Nat.le_trans (dg_le _ _) hAl
      have hscc : ∀ t, cf sc t = cf (allP us) t * c := fun t => by rw [hsc, nzp_cf (fun t ht => by rw [cf_ge ht, Int.zero_mul])]
      obtain ⟨df, hdf⟩ : ∃ df, df = subP x sc := ⟨_, rfl⟩
      have hdfO : OkP 5406 df := by rw [hdf]; exact (subP_ok (hxo.mono (by decide)) hscO).mono (by decide)
      have hdfl : df.length ≤ 170 := by rw [hdf]; have := subP_len x sc; omega
      have hal := allP_cf us
      have hdfc : ∀ t, cf df t = cf x t - c * prZ (us.map fun u => (cf u : Pz)) t := fun t => by rw [hdf, subP_cf, hscc, Int.mul_comm, ← hal]
      have hdv : ∀ t, p ^ j ∣ cf df t := fun t => by
        have := (Cg.iff_sub.1 hC).dvd t
        rw [p_sub, pc_mul] at this
        rw [hdfc]
        exact this
      obtain ⟨q, hq⟩ : ∃ q, q = nzp df.length (fun t => cf df t / p ^ j) := ⟨_, rfl⟩
      have hqc : ∀ t, cf q t = cf df t / p ^ j := fun t => by rw [hq, nzp_cf (fun t ht => by rw [cf_ge ht, Int.zero_ediv])]
      have hqO : OkP 5406 q := by rw [hq]; exact OkP_nzp fun t => (hdfO.bz t).le (Int.natAbs_ediv_le_natAbs _ _)
      have hql : q.length ≤ 170 := by rw [hq, nzp_len]; exact Nat.le_trans (dg_le _ _) hdfl
      have hzl := zmod_le p q
      have hUm := prZ_mn (all2_umn hU hF.pl)
      have hd : ∀ t, degS (fs.map fun g => g.length - 1) ≤ t → ci (zmod p q) t % p = 0 := fun t ht => by
        have : cf df t = 0 := by
          rw [hdfc]
          by_cases e : degS (fs.map fun g => g.length - 1) = t
          · have h5 := hUm.1
            rw [e] at h5
            rw [h5, ← e, ← hdeg, ← hc]; omega
          · rw [hUm.2 t (by omega), hxc t (by omega)]; omega
        rw [zmod_ci, hqc, this, Int.zero_ediv, Int.zero_emod, Int.zero_emod]
      obtain ⟨r, e1, rs, rfl, hrl, hI⟩ := lift2 (k := (k : Int)) hp hF hj1 (by omega) (zmod_fp (p := p) (by omega) q) (by omega) hil (fun i hi => ⟨(hinv i hi).1, (hinv i hi).2.1⟩) hU hf
      have hmS : OkZ (ofI (p ^ j)) := hmB.ok (by decide)
      have hpS : OkZ (ofI p) := Bz.ok (k := 1) (by unfold Bz; omega) (by decide)
      rw [if_pos (by omega), bd_t (M_ref13_all_io_eq (K := 250) (M := 14) (N := 200) huM (by omega) (by decide) (by omega) (by omega) (by decide) hf)]
      simp only []
      rw [bd_t (M_ref10_Scale_eq (l := 4) hA ⟨ofI_limbs _, hcB.len⟩ (by decide) (by omega) hf), zv_ofI, ← hsc, bd_t (M_ref10_Sub_eq (k := 5405) (hxo.mono (by decide)) hscO (by decide) (by omega) (by omega) hf), ← hdf, bd_t (div10_by (K := 5406) hdfO (hmB.mono (by decide)) (by omega) hdv (by decide) (by omega) hf), ← hq]
      simp only []
      rw [bd_t (M_ref10_Mod_eq hqO (by decide) (by omega) p2 (by omega) hf)]
      simp only []
      rw [bd_t e1]
      simp only []
      rw [bd_t (M_ref02_Of_eq ⟨by omega, by omega⟩ (by omega)), bd_t (M_ref02_Mul_eq' hmS hpS hf), zv_ofI, zv_ofI, ck64_t ⟨by omega, by omega⟩]
      obtain ⟨g1, g2⟩ := ups_step hp hj1 (by omega) hU (fun g hg => (hF.pl g hg).2.1) (all2_of hrl fun i hi => ⟨(hI i hi).1, (hI i hi).2.1⟩)
      refine ih _ ⟨j + 1, us.zipWith (uNew (p ^ j)) rs, by rw [Int.pow_succ]; rfl, by omega, by omega, g1, ?_⟩ (by show k - ((j : Int) + 1).toNat < k - (j : Int).toNat; omega)
      rw [g2]
      refine prod_next (q := cf q) hj1 (by simp; omega) ?_ (all2_ucg hU) ((share_all p1 hrl hF.pl hpw hinv hI rfl hd).trans (zmod_cg p q))
      funext t
      rw [p_add, pc_mul, pc_mul, hqc, Int.mul_ediv_cancel' (hdv t), hdfc]
      omega
    · rw [if_neg (by omega)]
      obtain rfl : fs = [] := List.length_eq_zero_iff.1 (by omega)
      obtain rfl : us = [] := List.length_eq_zero_iff.1 hU.len
      exact ⟨_, rfl, trivial, fun e => absurd rfl e⟩
  · rw [if_neg (by omega)]
    obtain rfl : j = k := by omega
    exact ⟨_, rfl, hU, fun _ => hC⟩
def ErrP (p k : Int) (x : List Zr) (fs : List (List Int)) (e : Int) : Prop :=
  (¬ (prm p = true ∧ 1 ≤ k ∧ k ≤ 1000) ∧ e = 1) ∨ ((prm p = true ∧ 1 ≤ k ∧ k ≤ 1000) ∧ ((65 < x.length ∧ e = 6) ∨ (x.length ≤ 65 ∧ ((RightP p x fs ∧ e = 0) ∨ (¬ RightP p x fs ∧ e = 1)))))
theorem ErrP.uniq {p k : Int} {x : List Zr} {fs : List (List Int)} {e f : Int} (h : ErrP p k x fs e) (g : ErrP p k x fs f) : e = f := by
  rcases h with ⟨h1, h2⟩ | ⟨h1, h⟩ <;> rcases g with ⟨g1, g2⟩ | ⟨g1, g⟩
  · omega
  · exact absurd g1 h1
  · exact absurd h1 g1
  · rcases h with ⟨h2, h3⟩ | ⟨h2, h⟩ <;> rcases g with ⟨g2, g3⟩ | ⟨g2, g⟩
    · omega
    · omega
    · omega
    · rcases h with ⟨h3, h4⟩ | ⟨h3, h4⟩ <;> rcases g with ⟨g3, g4⟩ | ⟨g3, g4⟩
      · omega
      · exact absurd h3 g3
      · exact absurd g3 h3
      · omega
theorem hensel_err {fu : Nat} {p k : Int} {a : List Zr} {fs : List (List Int)} {us : List (List Zr)} {e : Int} (ha : OkP 250 a) (hal : a.length ≤ 60) (hf : 3000200 ≤ fu) (h : M_hensel_Lift fu a fs p k = some (us, e)) : ErrP p k (nrm a) fs e ∧ (e ≠ 0 → us = []) := by
  have hnl := nrm_len a
  unfold M_hensel_Lift at h
  rw [bd_t (M_hensel_Power_eq (by omega))] at h
  simp only [] at h
  rw [bd_t (M_zpoly_Norm_eq ha (by decide) (by omega) (by omega)), show nzp a.length (cf a) = nrm a from rfl] at h
  by_cases hP : prm p = true ∧ 1 ≤ k ∧ k ≤ 1000
  · have hpow : powR p k = (ofI (p ^ k.toNat), 0) := by
      unfold powR
      rw [if_pos hP]
    rw [hpow] at h
    simp only [if_true] at h
    rw [if_neg (by omega)] at h
    obtain ⟨b, b1, b2⟩ := M_hensel_right_iff (fu := fu) (fs := fs) hP.1 (nrm_ok ha) (by decide) (by omega) (by omega)
    rw [bd_t b1] at h
    cases b with
    | false =>
      rw [if_pos (by decide)] at h
      simp only [Option.some.injEq, Prod.mk.injEq] at h
      exact ⟨.inr ⟨hP, .inr ⟨by omega, .inr ⟨fun e => absurd (b2.2 e) (by decide), h.2.symm⟩⟩⟩, fun _ => h.1.symm⟩
    | true =>
      rw [if_neg (by decide)] at h
      have hR := b2.1 rfl
      have key : e = 0 := by
        split at h
        · simp only [Option.some.injEq, Prod.mk.injEq] at h
          exact h.2.symm
        · cases hr1 : M_hensel_red fu (nrm a) (ofI (p ^ k.toNat)) with
          | none => rw [hr1] at h; cases h
          | some t =>
            rw [hr1] at h
            change bd (M_hensel_tree fu t fs p k (ofI (p ^ k.toNat))) _ = _ at h
            cases hr2 : M_hensel_tree fu t fs p k (ofI (p ^ k.toNat)) with
            | none => rw [hr2] at h; cases h
            | some t3 =>
              rw [hr2] at h
              change some (t3, (0 : Int)) = _ at h
              simp only [Option.some.injEq, Prod.mk.injEq] at h
              exact h.2.symm
      exact ⟨.inr ⟨hP, .inr ⟨by omega, .inl ⟨hR, key⟩⟩⟩, fun h => absurd key h⟩
  · have hpow : powR p k = ((false, []), 1) := by
      unfold powR
      rw [if_neg hP]
    rw [hpow] at h
    simp only [Int.reduceEq, if_false, Option.some.injEq, Prod.mk.injEq] at h
    exact ⟨.inl ⟨hP, h.2.symm⟩, fun _ => h.1.symm⟩
theorem M_ref13_Lift_ex {fu : Nat} {p k : Int} {a : List Zr} {fs : List (List Int)} (ha : OkP 4 a) (hal : a.length ≤ 14) (hfs : ∀ g ∈ fs, Rl g) (hfl : fs.length ≤ 12) (hf : 3000200 ≤ fu) :
    ∃ us e, M_ref13_Lift fu a fs p k = some (us, e) ∧ (e = 0 → LiftP p k.toNat a fs us) ∧ ErrP p k (nrm a) fs e ∧ (e ≠ 0 → us = []) := by
  unfold M_ref13_Lift
  have hnl := nrm_len a
  have hno := nrm_ok ha
  rw [bd_t (M_ref13_Power_eq (by omega))]
  by_cases hP : prm p = true ∧ 1 ≤ k ∧ k ≤ 1000
  · have hPP := hP
    obtain ⟨hp, h1, h2⟩ := hP
    obtain ⟨p1, p2⟩ := prm_rng hp
    obtain ⟨K, rfl⟩ := Int.eq_ofNat_of_zero_le (show 0 ≤ k by omega)
    have hpow : powR p (K : Int) = (ofI (p ^ K), 0) := by
      unfold powR
      rw [if_pos hPP, Int.toNat_natCast]
    have hNm := M_ref10_Norm_eq (fu := fu) ha (by decide) (by omega) (by omega)
    rw [show nzp a.length (cf a) = nrm a from rfl] at hNm
    rw [hpow]
    simp only []
    rw [if_pos trivial, bd_t hNm, if_neg (by omega)]
    obtain ⟨b, b1, b2⟩ := M_ref13_Right_iff (fu := fu) (fs := fs) hp ha (by decide) (by omega) (by omega) hfs (by omega)
    rw [bd_t b1]
    cases b with
    | false =>
      rw [if_pos (by decide)]
      exact ⟨_, _, rfl, fun e => absurd e (by decide), .inr ⟨hPP, .inr ⟨by omega, .inr ⟨fun e => absurd (b2.2 e) (by decide), rfl⟩⟩⟩, fun _ => rfl⟩
    | true =>
      have hR := b2.1 rfl
      have hR0 := hR.a0
      have hFF : FewF p fs := ⟨fun g hg => (hR.mem g hg).1, fun g hg => by have := (hR.mem g hg).2; omega, hfl, hR.cp⟩
      obtain ⟨r0, l1, invs, rfl, hil, hinv⟩ := lift0 (fu := fu) hp hFF (hR.top hp) (hno.bz _) (by omega)
      obtain ⟨us, u1, u2, u3⟩ := lift1 (fu := fu) (k := K) hp hR hFF hno (by omega) (by omega) (by omega) hil hinv (by omega)
      rw [if_neg (by decide), bd_t hNm, show (((nrm a).length : Nat) : Int) - 1 = (((nrm a).length - 1 : Nat) : Int) by omega, ck64_t ⟨by omega, by omega⟩, ckI_n (by omega), nm_t, can_getD (nrm_can a) (by omega), bd_t l1]
      simp only []
      rw [bd_t (M_ref02_Of_eq ⟨by omega, by omega⟩ (by omega)), bd_t u1]
      refine ⟨_, _, rfl, fun _ => ⟨hp, by omega, by omega, hR, u2, fun h0 => ?_⟩, .inr ⟨hPP, .inr ⟨by omega, .inl ⟨hR, rfl⟩⟩⟩, fun e => absurd rfl e⟩
      rw [Int.toNat_natCast]
      exact (Cg.of (funext fun j => (nrm_cf a j).symm)).trans (u3 h0)
  · have hpow : powR p k = ((false, []), 1) := by unfold powR; rw [if_neg hP]
    rw [hpow]
    simp only []
    rw [if_neg (by decide)]
    exact ⟨_, _, rfl, fun e => absurd e (by decide), .inl ⟨hP, rfl⟩, fun _ => rfl⟩
theorem M_ref13_Same_t {fu k : Nat} {us : List (List Zr)} (hu : ∀ u ∈ us, OkP k u ∧ u.length ≤ 1000) (hk : k ≤ 1000000) (hl : us.length ≤ 1000) (hf : 3000000 ≤ fu) : M_ref13_Same fu us us = some true := by
  unfold M_ref13_Same
  rw [if_pos rfl, bd_t (v := .inl ())]
  refine loop_eq (fun i : Int => ∃ j : Nat, i = (j : Int) ∧ j ≤ us.length) (fun i => us.length - i.toNat) _ ?_ _ _ ⟨0, rfl, Nat.zero_le _⟩ (by show us.length - 0 < fu; omega)
  rintro i L ⟨j, rfl, hj⟩ ih
  unfold B_ref13_Same_0
  by_cases h1 : j < us.length
  · have hm : us.getD j [] ∈ us := by
      rw [List.getD_eq_getElem?_getD, List.getElem?_eq_getElem h1]
      exact List.getElem_mem h1
    obtain ⟨g1, g2⟩ := hu _ hm
    rw [if_pos (by omega), ckI_n h1, nm_t, ckI_n h1, nm_t, bd_t (M_ref10_Same_eq g1 hk (by omega) hf), decide_eq_true rfl, if_neg (by decide), ck64_t ⟨by omega, by omega⟩]
    exact ih _ ⟨j + 1, by omega, by omega⟩ (by omega)
  · rw [if_neg (by omega)]
theorem lifts_one {p : Int} {k : Nat} : ∀ {us vs : List (List Zr)} {fs : List (List Int)}, All2 (fun u v => redP u (p ^ k) = v) us vs → All2 (Up p k) us fs → us = vs
  | [], [], _, _, _ => rfl
  | u :: us, v :: vs, g :: fs, h1, h2 => by
    have e1 : redP u (p ^ k) = v := h1.1
    rw [h2.1.rd.rd] at e1
    rw [e1, lifts_one h1.2 h2.2]
  | [], _ :: _, _, h, _ => h.elim
  | _ :: _, [], _, h, _ => h.elim
  | _ :: _, _ :: _, [], _, h => h.elim
end Go.Proofs.YtjnjfinbdfolkaaGreat
end

section
set_option linter.unusedVariables false
set_option linter.unusedSimpArgs false
namespace Go.Proofs.YtjnjfinbdfolkaaGreat
def Fits (p : List Zr) : Prop := ∀ z ∈ p, Limbs z.2 ∧ z.2.length ≤ 17592186044416
theorem Fits.get {p : List Zr} (h : Fits p) {j : Nat} (hj : j < p.length) : Limbs (p.getD j (false, [])).2 ∧ (p.getD j (false, [])).2.length ≤ 17592186044416 := by
  rw [List.getD_eq_getElem?_getD, List.getElem?_eq_getElem hj]
  exact h _ (List.getElem_mem hj)
theorem M_zint_Sign_big {fu : Nat} {z : Zr} (h : Limbs z.2 ∧ z.2.length ≤ 17592186044416) (hf : 35184372088832 ≤ fu) : M_zint_Sign fu z = some (cmpI (zv z) 0) := by
  unfold M_zint_Sign
  rw [bd_t (M_zint_Norm_eq h.1 h.2 (by omega))]
  by_cases h1 : zv z < 0
  · rw [if_pos ((ofI_neg _).2 h1), ck64_t ⟨by omega, by omega⟩, ck64_t ⟨by omega, by omega⟩, cmpI_lt h1]; rfl
  · rw [if_neg (fun e => h1 ((ofI_neg _).1 e))]
    by_cases h2 : zv z = 0
    · rw [if_neg (fun e => ofI_pos.1 e h2), cmpI_eq h2]
    · rw [if_pos (ofI_pos.2 h2), ck64_t ⟨by omega, by omega⟩, cmpI_gt (by omega)]; rfl
theorem M_ref02_Sign_big {fu : Nat} {z : Zr} (h : Limbs z.2 ∧ z.2.length ≤ 17592186044416) (hf : 35184372088832 ≤ fu) : M_ref02_Sign fu z = some (cmpI (zv z) 0) := by
  unfold M_ref02_Sign
  rw [bd_t (M_ref02_Norm_eq h.1 h.2 (by omega))]
  by_cases h1 : zv z < 0
  · rw [if_pos ((ofI_neg _).2 h1), cmpI_lt h1]
  · rw [if_neg (fun e => h1 ((ofI_neg _).1 e))]
    by_cases h2 : zv z = 0
    · rw [if_neg (fun e => ofI_pos.1 e h2), cmpI_eq h2]
    · rw [if_pos (ofI_pos.2 h2), cmpI_gt (by omega)]
theorem M_zpoly_Norm_big {fu : Nat} {p : List Zr} (h : Fits p) (hl : p.length ≤ 1000000) (hf : 35184372088832 ≤ fu) : M_zpoly_Norm fu p = some (nzp p.length (cf p)) := by
  unfold M_zpoly_Norm
  have hd := dg_le (cf p) p.length
  rw [bd_t (v := p.take (dg (cf p) p.length))]
  · have hle : (p.take (dg (cf p) p.length)).length = dg (cf p) p.length := by rw [List.length_take]; omega
    rw [bd_t (each_eq (g := cf p) (by omega) (by omega) ?_), hle]
    · rfl
    · intro j hj
      rw [hle] at hj
      have hg := h.get (show j < p.length by omega)
      unfold M_zpoly_Norm_1
      rw [getD_take hj, bd_t (M_zint_Norm_eq hg.1 hg.2 (by omega))]
      rfl
  · refine loop_eq (fun t : List Zr => ∃ m, m ≤ p.length ∧ t = p.take m ∧ dg (cf p) m = dg (cf p) p.length) (fun t => t.length) _ ?_ _ _ ⟨p.length, Nat.le_refl _, List.take_length.symm, rfl⟩ (by omega)
    rintro t L ⟨m, hm, rfl, hg⟩ ih
    have hle : (p.take m).length = m := by rw [List.length_take]; omega
    unfold B_zpoly_Norm_0
    cases m with
    | zero =>
      rw [if_neg (by omega), ← hg]
      rfl
    | succ m =>
      rw [if_pos (by omega), hle, show ((m + 1 : Nat) : Int) - 1 = (m : Int) by omega, ck64_t ⟨by omega, by omega⟩, ckI_n (by omega), nm_t, getD_take (by omega), bd_t (M_zint_Sign_big (h.get (by omega)) hf), cf_d]
      by_cases h0 : cf p m = 0
      · rw [if_pos (cmpI_zero.2 h0), ck64_t ⟨by omega, by omega⟩, ckN_n, ck_t (by omega), nm_t, List.take_take, show min m (m + 1) = m by omega]
        exact ih _ ⟨m, by omega, rfl, by rw [← dg_step0 h0, hg]⟩ (by rw [hle, List.length_take]; omega)
      · rw [if_neg (fun e => h0 (cmpI_zero.1 e)), ← hg, dg_step1 h0]
theorem M_ref10_Norm_big {fu : Nat} {p : List Zr} (h : Fits p) (hl : p.length ≤ 4398046511104) (hf : 35184372088832 ≤ fu) : M_ref10_Norm fu p = some (nzp p.length (cf p)) := by
  unfold M_ref10_Norm
  have hd := dg_le (cf p) p.length
  rw [bd_t (v := ((dg (cf p) p.length : Nat) : Int))]
  · rw [bd_t (v := nzp p.length (cf p))]
    unfold nzp
    refine loop_eq (fun s : List Zr × Int => ∃ i : Nat, i ≤ dg (cf p) p.length ∧ s = (zi i (cf p), (i : Int))) (fun s => p.length - s.2.toNat) _ ?_ _ _ ⟨0, Nat.zero_le _, rfl⟩ (by show p.length - 0 < fu; omega)
    rintro s L ⟨i, hi, rfl⟩ ih
    unfold B_ref10_Norm_1
    simp only []
    by_cases h1 : i < dg (cf p) p.length
    · have hg := h.get (show i < p.length by omega)
      rw [if_pos (by omega), ckI_n (by omega), nm_t, bd_t (M_ref02_Norm_eq hg.1 hg.2 (by omega)), ck_t (by rw [zi_len]; simp; omega), nm_t, ck64_t ⟨by omega, by omega⟩]
      exact ih _ ⟨i + 1, by omega, by rw [← zi_snoc]; rfl⟩ (by show p.length - ((i : Int) + 1).toNat < p.length - (i : Int).toNat; omega)
    · rw [if_neg (by omega)]
      obtain rfl : i = dg (cf p) p.length := by omega
      rfl
  · refine loop_eq (fun i : Int => ∃ m : Nat, i = (m : Int) ∧ m ≤ p.length ∧ dg (cf p) m = dg (cf p) p.length) (fun i => i.toNat) _ ?_ _ _ ⟨p.length, rfl, Nat.le_refl _, rfl⟩ (by omega)
    rintro i L ⟨m, rfl, hm, hg⟩ ih
    unfold B_ref10_Norm_0
    cases m with
    | zero => rw [if_neg (by omega), ← hg]; rfl
    | succ m =>
      rw [if_pos (by omega), show ((m + 1 : Nat) : Int) - 1 = (m : Int) by omega, ck64_t ⟨by omega, by omega⟩, ckI_n (by omega), nm_t, bd_t (M_ref02_Sign_big (h.get (by omega)) hf), cf_d]
      by_cases h0 : cf p m = 0
      · rw [if_pos (cmpI_zero.2 h0), ck64_t ⟨by omega, by omega⟩]
        exact ih _ ⟨m, rfl, by omega, by rw [← dg_step0 h0, hg]⟩ (by omega)
      · rw [if_neg (fun e => h0 (cmpI_zero.1 e)), ← hg, dg_step1 h0]
end Go.Proofs.YtjnjfinbdfolkaaGreat
end

section
set_option linter.unusedVariables false
set_option linter.unusedSimpArgs false
namespace Go.Proofs.YtjnjfinbdfolkaaGreat
theorem law13_awake_far : M_law13_awake 35184372088832 = some true := by decide +kernel
def liftsT (fu : Nat) (a : List Zr) (fs : List (List Int)) (p k : Int) : Option Bool :=
  if (200 : Int) < ((a.length : Nat) : Int) then some true else
  bd (M_law13_few fu fs) fun c => if ((!c)) = true then some true else
  bd (M_hensel_Lift fu a fs p k) fun (t2, x1) => bd (M_ref13_Lift fu a fs p k) fun (t3, x2) =>
  if true = true then if x1 = x2 then bd (M_ref13_Same fu t2 t3) fun c4 => some c4 else some false else some false
theorem ok_rl {l : List Int} (h : (Ty.l .i).ok l) : Rl l := fun k => by
  unfold ci
  rw [List.getD_eq_getElem?_getD]
  by_cases hk : k < l.length
  · rw [List.getElem?_eq_getElem hk]
    exact h.2 _ (List.getElem_mem hk)
  · rw [List.getElem?_eq_none (by omega)]
    exact ⟨by decide, by decide⟩
theorem lifts_small {fu : Nat} {a : List Zr} {fs : List (List Int)} {p k : Int} (pa : OkP 4 a) (la : a.length ≤ 14) (hfs : ∀ g ∈ fs, Rl g) (hf : 3000200 ≤ fu) : liftsT fu a fs p k = some true := by
  unfold liftsT
  obtain ⟨b, b1, b2⟩ := few_ex (fu := fu) (fs := fs) (by omega)
  rw [if_neg (by omega), bd_t b1]
  cases b with
  | false => rw [if_pos (by decide)]
  | true =>
    rw [if_neg (by decide)]
    have hl := b2 rfl
    have pa' : OkP 250 a := pa.mono (by decide)
    obtain ⟨us, e, e1, e2, e3⟩ := M_hensel_Lift_ex (fu := fu) (p := p) (k := k) (fs := fs) pa' (by omega) (by omega)
    obtain ⟨vs, f, f1, f2, f3, f4⟩ := M_ref13_Lift_ex (fu := fu) (p := p) (k := k) pa la hfs hl (by omega)
    obtain ⟨g1, g2⟩ := hensel_err pa' (by omega) (by omega) e1
    have hef := g1.uniq f3
    rw [bd_t e1]
    simp only []
    rw [bd_t f1]
    simp only []
    rw [if_pos (by trivial), if_pos hef]
    by_cases h0 : e = 0
    · obtain ⟨hL, _⟩ := e2 h0
      have heq := lifts_one (lift_down hL (f2 (by omega)) (Nat.le_refl _)) hL.up
      subst heq
      have hul := hL.up.len
      have hnl := nrm_len a
      rw [bd_t (M_ref13_Same_t (k := 250) (fun u hu => ?_) (by decide) (by omega) (by omega))]
      obtain ⟨i, hi, rfl⟩ := List.mem_iff_getElem.1 hu
      have h1 := hL.up.get i hi
      have h2 := (hL.rt.mem _ (getD_memi (l := fs) (i := i) (by omega))).2
      rw [List.getD_eq_getElem?_getD, List.getElem?_eq_getElem hi] at h1
      have h1 : Up p k.toNat us[i] (fs.getD i []) := h1
      have h3 := h1.len
      exact ⟨h1.rd.ok, by omega⟩
    · obtain rfl := g2 h0
      obtain rfl := f4 (by omega)
      rw [bd_t (M_ref13_Same_t (k := 250) (fun u hu => absurd hu List.not_mem_nil) (by decide) (by simp) (by omega))]
theorem hensel_far {fu : Nat} {a : List Zr} {fs : List (List Int)} {p k : Int} (ha : Fits a) (hal : a.length ≤ 200) (h65 : 65 < (nrm a).length) (hf : 35184372088832 ≤ fu) : M_hensel_Lift fu a fs p k = some ([], if (powR p k).2 = 0 then 6 else (powR p k).2) := by
  unfold M_hensel_Lift
  rw [bd_t (M_hensel_Power_eq (by omega))]
  generalize powR p k = r
  obtain ⟨y, x⟩ := r
  simp only []
  rw [bd_t (M_zpoly_Norm_big ha (by omega) hf), show nzp a.length (cf a) = nrm a from rfl]
  by_cases h0 : x = 0
  · rw [if_pos h0, if_pos (by omega), if_pos h0]
  · rw [if_neg h0, if_neg h0]
theorem ref13_far {fu : Nat} {a : List Zr} {fs : List (List Int)} {p k : Int} (ha : Fits a) (hal : a.length ≤ 200) (h65 : 65 < (nrm a).length) (hf : 35184372088832 ≤ fu) : M_ref13_Lift fu a fs p k = some ([], if (powR p k).2 = 0 then 6 else (powR p k).2) := by
  unfold M_ref13_Lift
  rw [bd_t (M_ref13_Power_eq (by omega))]
  generalize powR p k = r
  obtain ⟨y, x⟩ := r
  simp only []
  by_cases h0 : x = 0
  · rw [if_pos h0, bd_t (M_ref10_Norm_big ha (by omega) hf), show nzp a.length (cf a) = nrm a from rfl, if_pos (by omega), if_pos h0]
  · rw [if_neg h0, if_neg h0]
theorem lifts_far {fu : Nat} {a : List Zr} {fs : List (List Int)} {p k : Int} (ha : Fits a) (h65 : 65 < (nrm a).length) (hf : 35184372088832 ≤ fu) : liftsT fu a fs p k = some true := by
  unfold liftsT
  by_cases h200 : 200 < a.length
  · rw [if_pos (by omega)]
  · obtain ⟨b, b1, b2⟩ := few_ex (fu := fu) (fs := fs) (by omega)
    rw [if_neg (by omega), bd_t b1]
    cases b with
    | false => rw [if_pos (by decide)]
    | true =>
      rw [if_neg (by decide), bd_t (hensel_far ha (by omega) h65 hf)]
      simp only []
      rw [bd_t (ref13_far ha (by omega) h65 hf)]
      simp only []
      rw [if_pos (by trivial), if_pos (by trivial), bd_t (M_ref13_Same_t (k := 250) (fun u hu => absurd hu List.not_mem_nil) (by decide) (by simp) (by omega))]
theorem hensel_lifts (a : List Zr) (fs : List (List Int)) (p k : Int) (ha : (Ty.l (.p .b (.l .u))).ok a) (hfs : (Ty.l (.l .i)).ok fs) (hal : a.length ≤ 4398046511104) (hfit : ∀ z ∈ a, z.2.length ≤ 17592186044416) : M_law13_HenselLifts 35184372088832 a fs p k = some true := by
  obtain ⟨fu, hfu⟩ : ∃ fu, fu = 35184372088832 := ⟨_, rfl⟩
  have haw := law13_awake_far
  rw [← hfu] at haw ⊢
  have hf : 35184372088832 ≤ fu := by omega
  have hF : Fits a := fun z hz => ⟨ok_limbs (ha.2 z hz).2, hfit z hz⟩
  have hR : ∀ g ∈ fs, Rl g := fun g hg => ok_rl (hfs.2 g hg)
  have hsm : M_law13_small fu 14 4 [a] = some (decide (∀ l ∈ [a], SmallP 14 4 l)) := M_law13_small_eq (c := 14) (k := 4) (by simp) (by decide) (by omega)
  have body : (bd (M_law13_small fu (14 : Int) (4 : Int) [a]) fun c2 => if ((!c2)) = true then bd (M_ref10_Norm fu a) fun t1 => if ((t1.length : Nat) : Int) ≤ (65 : Int) then some true else liftsT fu a fs p k else liftsT fu a fs p k) = some true := by
    rw [bd_t hsm]
    by_cases hs : ∀ l ∈ [a], SmallP 14 4 l
    · have sa := hs a (by simp)
      rw [decide_eq_true hs, if_neg (by decide)]
      exact lifts_small (ok_poly ha sa.2) sa.1 hR (by omega)
    · rw [decide_eq_false hs, if_pos (by decide), bd_t (M_ref10_Norm_big hF hal hf), show nzp a.length (cf a) = nrm a from rfl]
      by_cases h65 : (nrm a).length ≤ 65
      · rw [if_pos (by omega)]
      · rw [if_neg (by omega)]
        exact lifts_far hF (by omega) hf
  unfold M_law13_HenselLifts
  rw [bd_t haw]
  by_cases h16 : (16 : Int) < k
  · rw [if_pos h16]
    by_cases h1000 : k ≤ (1000 : Int)
    · rw [if_pos h1000]
    · rw [if_neg h1000]
      exact body
  · rw [if_neg h16]
    exact body
end Go.Proofs.YtjnjfinbdfolkaaGreat
end

section
namespace Go.Proofs.YtjnjfinbdfolkaaGreat.henselLifts
open Go.ChangeShapes Go.WideShapes Go.ChangeAt Go.RowKit
set_option linter.unusedVariables false
theorem own : ownKnob Tryz.prog.godebug = none := by kernel_rfl
theorem atW : TyAt Tryz.prog .u 102 := id (by kernel_rfl : Tryz.prog.underlying 102 = some (.int .u64))
theorem atB : TyAt Tryz.prog .b 4 := id (by kernel_rfl : Tryz.prog.underlying 4 = some .bool)
theorem atL : TyAt Tryz.prog (.l .u) 23 := TyAt.sl (E := 102) (by kernel_rfl) (by kernel_rfl) (by decide) atW
theorem stZ : st2B Tryz.prog 25 = some ((0, 4), (1, 23)) := by kernel_rfl
theorem atZ : TyAt Tryz.prog (.p .b (.l .u)) 25 := TyAt.st (A := 4) (B := 23) stZ (by kernel_rfl) (by kernel_rfl) (by kernel_rfl) atB atL
theorem atP : TyAt Tryz.prog (.l (.p .b (.l .u))) 31 := TyAt.sl (E := 25) (by kernel_rfl) (by kernel_rfl) (by decide) atZ
theorem atI : TyAt Tryz.prog .i 3 := id (by kernel_rfl : Tryz.prog.underlying 3 = some (.int .i64))
theorem atIs : TyAt Tryz.prog (.l .i) 51 := TyAt.sl (E := 3) (by kernel_rfl) (by kernel_rfl) (by decide) atI
theorem atIss : TyAt Tryz.prog (.l (.l .i)) 32 := TyAt.sl (E := 51) (by kernel_rfl) (by kernel_rfl) (by decide) atIs
theorem uL : Tryz.prog.underlying 23 = some (.slice 102) := by kernel_rfl
theorem uP : Tryz.prog.underlying 31 = some (.slice 25) := by kernel_rfl
theorem bW : Tryz.prog.bytesOf 102 = 8 := by kernel_rfl
theorem bZ : Tryz.prog.bytesOf 25 = 32 := by kernel_rfl
theorem uZ : ∃ f0 f1 : Field, Tryz.prog.underlying 25 = some (.struct #[f0, f1]) ∧ f1.type = 23 := by
  have h := stZ
  unfold st2B at h
  split at h
  · next fs hu =>
    split at h
    · next f0 f1 hf =>
      simp only [Option.some.injEq, Prod.mk.injEq] at h
      have : fs = #[f0, f1] := by cases fs; simp_all
      subst this
      exact ⟨f0, f1, hu, h.2.2⟩
    · cases h
  · cases h
theorem fits {a : List Zr} (h : (Ty.l (.p .b (.l .u))).wd Tryz.prog 31 a) : a.length ≤ 4398046511104 ∧ ∀ z ∈ a, z.2.length ≤ 17592186044416 := by
  obtain ⟨h1, h2⟩ := h 25 uP
  rw [bZ] at h1
  obtain ⟨f0, f1, hu, ht⟩ := uZ
  have h1 : a.length * 32 ≤ 140737488351232 := h1
  refine ⟨by omega, fun z hz => ?_⟩
  have h3 := (h2 z hz f0 f1 hu).2
  rw [ht] at h3
  have h4 := (h3 102 uL).1
  rw [bW] at h4
  have h4 : z.2.length * 8 ≤ 140737488351232 := h4
  omega
set_option maxRecDepth 100000 in
theorem lifted (os : Os) (started : os.Started) (H : Type) (enc : TypeId × Value → H) :
    ReturnsInHanded {} Tryz.checked os 4 .any (Rows.henselLiftsSpec.pre6 enc Tryz.prog Tryz.f4 Rows.henselLiftsRow.domain false) (Rows.henselLiftsSpec.post enc Tryz.prog Tryz.f4 false true false false) := by
  refine returnsInHanded_of_change_sized (C := Tryz.checked) own started (by kernel_rfl) Tryz.func4
    (ChangeSpec.witness6 (enc := enc) (C := Tryz.checked) false ⟨#[], #[.slice none 0 0, .slice none 0 0, .int .i64 0, .int .i64 0], []⟩ 8 (by kernel_rfl) (by kernel_rfl) (by kernel_rfl) (by kernel_rfl)) ?_
  intro W base args ds gs before hval0 hW hcnd hsz _
  have hval : ∀ (j : Nat) t v, Tryz.f4.params[j]? = some t → args[j]? = some v → Value.okWide Tryz.prog W .any base t v := hval0
  have hW' := hW
  obtain ⟨p, q, hA0, hV, _, _, _⟩ := hW
  have hA : DataW.TrodAll enc Tryz.prog W 0 (fun _ => true) true Tryz.f4.params.toList args.toList ds p := hA0
  rw [Tryz.params4] at hA
  obtain ⟨v0, vs0, d0, ds0, p0, q0, hargs, rfl, _, _, r0⟩ := trodAll_cons hA
  obtain ⟨v1, vs1, d1, ds1, p1, q1, _, rfl, _, _, r1⟩ := trodAll_cons r0
  obtain ⟨v2, vs2, d2, ds2, p2, q2, _, rfl, _, _, r2⟩ := trodAll_cons r1
  obtain ⟨v3, vs3, d3, ds3, p3, q3, _, rfl, _, _, r3⟩ := trodAll_cons r2
  obtain ⟨_, rfl, _⟩ := trodAll_nil r3
  obtain ⟨rfl, _⟩ := trodVars_none hV
  exact law_endw (sg := s_law13_HenselLifts 35184372088832) hW' rfl hval hsz (by kernel_rfl) (by rw [Tryz.params4]; decide +kernel) (by rw [Tryz.params4]; exact ⟨atP, atIss, atI, atI, trivial⟩) rfl (g_law13_HenselLifts 35184372088832)
    (fun x hx hw => by
      rw [Tryz.params4] at hw
      have hw := fits hw.1
      exact hensel_lifts x.1 x.2.1 x.2.2.1 x.2.2.2.1 hx.1 hx.2.1 hw.1 hw.2) (B := 4) (by kernel_rfl) Tryz.underlying4 rfl
theorem over : Rows.henselLiftsRow.holds Tryz.pinned (OpenSpec.ofChange Rows.henselLiftsSpec) :=
  OpenClaim.holds_of_wide 4 Tryz.f4 rfl rfl rfl rfl rfl rfl rfl ⟨rfl, rfl, rfl, rfl, rfl⟩ rfl rfl rfl rfl rfl (by kernel_rfl) Tryz.func4 (by kernel_rfl)
    (of_decide_eq_true (by kernel_rfl)) (by unfold Func.isWrapper; first | (rw [if_pos (by decide +kernel)]; kernel_rfl) | (rw [if_neg (by decide +kernel)]; exact ⟨rfl, rfl⟩))
    (fun os started H enc _ => lifted os started H enc)
theorem proved : Rows.HenselLiftsSaid :=
  over
end Go.Proofs.YtjnjfinbdfolkaaGreat.henselLifts
end

