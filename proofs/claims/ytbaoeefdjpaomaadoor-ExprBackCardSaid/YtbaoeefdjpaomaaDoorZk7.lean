/- ExprBack: the law's mirror, its row and its card. No condition. -/
import Derived.Test.YtbaoeefdjpaomaaDoorZk6
import Derived.Test.YtbaoeefdjpaomaaDoorTie
import Derived.Test.YtbaoeefdjpaomaaDoorCards
import Derived.Stop.LaidErr
import Derived.Handed
set_option linter.unusedVariables false
set_option linter.unusedSimpArgs false
namespace Go.Proofs.YtbaoeefdjpaomaaDoor
section
section
variable {s : Tx} {fu : Nat} {o d : Nat} {S : Tx → Rd Tr} {can : Bool} {R : (Tx × (Int × (Int × Int))) → Option (PX ⊕ (Tr × (Tx × (Int × (Int × Int)))))}
theorem px_sumL (hs : s.length ≤ 4096) (hf : 10000 ≤ fu) (hK : Kn s o d S can R) : ∀ (m : Nat) (t : Tr) (l : Tx) (n : Nat), l <:+ s → l.length < m → m < n →
    (bd (M_expr_parser_take_io fu (s, (pp s l, ((o : Int), (d : Int)))) [43, 45]) fun (m2, c2, y4) => loopN (B_expr_parser_sum_io_0 fu R) n (t, m2, c2, y4)) = some (enL s ((o : Int), (d : Int)) (sumL S can m t l))
  | 0, t, l, n, hl, hm, hn => by omega
  | m + 1, t, l, n, hl, hm, hn => by
    obtain ⟨n, rfl⟩ : ∃ m, n = m + 1 := ⟨n - 1, by omega⟩
    have ih := fun t l h1 h2 => px_sumL hs hf hK m t l n h1 h2 (by omega)
    have h2 := (skp_suf l).trans hl
    have h3 := (skp_suf l).length_le
    have hno : ∀ (m2 : Nat) (y : Tx × (Int × (Int × Int))), loopN (B_expr_parser_sum_io_0 fu R) (n + 1) (t, m2, false, y) = some (.inl (t, y)) := fun m2 y => by
      rw [loopN_t]
      unfold B_expr_parser_sum_io_0
      rfl
    cases hk : skp l with
    | nil =>
      rw [bd_t (px_take_e hs (by omega) hl hk)]
      unfold sumL
      rw [hk]
      exact hno _ _
    | cons c r =>
      rw [hk] at h2 h3
      rw [List.length_cons] at h3
      have hr := suf_tail h2
      by_cases hc : c = 43 ∨ c = 45
      · have hp : [43, 45].any (fun b => Nat.beq b c) = true := by rcases hc with rfl | rfl <;> rfl
        rw [bd_t (px_take_y hs (by omega) hl hk hp)]
        show loopN (B_expr_parser_sum_io_0 fu R) (n + 1) (t, c, true, (s, (pp s r, ((o : Int), (d : Int))))) = _
        rw [loopN_t]
        generalize loopN (B_expr_parser_sum_io_0 fu R) n = L at ih
        unfold B_expr_parser_sum_io_0 sumL
        simp only [hk, if_pos hc]
        rw [if_pos (by trivial), bd_t (px_prod hs hf hK hr)]
        have hsh := sh_prodS (can := can) (fun _ => hK.2.2.1) r
        cases hp : prodS S can r with
        | inl b => rfl
        | inr q =>
          obtain ⟨u, r2⟩ := q
          rw [hp] at hsh
          exact ih _ r2 (hsh.1.trans hr) (by have := hsh.2; omega)
      · have hc2 := not_or.1 hc
        rw [bd_t (px_take_n hs (by omega) hl hk (any2 hc2.1 hc2.2))]
        unfold sumL
        simp only [hk, if_neg hc]
        exact hno _ _
theorem px_sumS (hs : s.length ≤ 4096) (hf : 10000 ≤ fu) (hK : Kn s o d S can (M_expr_parser_sum_io fu)) {l : Tx} (hl : l <:+ s) : M_expr_parser_sum_io (fu + 1) (s, (pp s l, ((o : Int), (d : Int)))) = some (enP s ((o : Int), (d : Int)) (sumS S can l)) := by
  have fin : ∀ (l' : Tx) (f : Tr → Tr), l' <:+ s → (bd (bd (M_expr_parser_product_io (M_expr_parser_sum_io fu) fu (s, (pp s l', ((o : Int), (d : Int))))) fun z => match z with
      | .inl q => (some (.inr (q, ())) : Option ((Tr × (Tx × (Int × (Int × Int)))) ⊕ (PX × Unit)))
      | .inr (q2, y2) => some (.inl (f q2, y2))) fun s1 => match s1 with
      | .inl (t1, t2) => (bd (M_expr_parser_take_io fu t2 [43, 45]) fun (m2, c2, y4) =>
        bd (loopN (B_expr_parser_sum_io_0 fu (M_expr_parser_sum_io fu)) fu (t1, m2, c2, y4)) fun s2 => match s2 with
        | .inl (t6, t7) => some (Sum.inr (t6, t7))
        | .inr (q7, _) => some (Sum.inl q7))
      | .inr (q8, _) => some (Sum.inl q8)) = some (enP s ((o : Int), (d : Int)) (match prodS S can l' with
      | .inl b => .inl b
      | .inr (t, r2) => sumL S can (r2.length + 1) (f t) r2)) := fun l' f hl' => by
    have hsh := sh_prodS (can := can) (fun _ => hK.2.2.1) l'
    have hll := hl'.length_le
    rw [bd_t (px_prod hs hf hK hl')]
    cases hp : prodS S can l' with
    | inl b => rfl
    | inr q =>
      obtain ⟨u, r2⟩ := q
      rw [hp] at hsh
      have h1 := px_sumL hs hf hK (r2.length + 1) (f u) r2 fu (hsh.1.trans hl') (by omega) (by have := hsh.2; omega)
      show (bd (M_expr_parser_take_io fu (s, (pp s r2, ((o : Int), (d : Int)))) [43, 45]) fun (m2, c2, y4) =>
        bd (loopN (B_expr_parser_sum_io_0 fu (M_expr_parser_sum_io fu)) fu (f u, m2, c2, y4)) fun s2 => match s2 with
        | .inl (t6, t7) => some (Sum.inr (t6, t7))
        | .inr (q7, _) => some (Sum.inl q7)) = some (enP s ((o : Int), (d : Int)) (sumL S can (r2.length + 1) (f u) r2))
      obtain ⟨⟨m2, c2, y4⟩, h2, h3⟩ := bd_s h1
      rw [bd_t h2]
      show bd (loopN (B_expr_parser_sum_io_0 fu (M_expr_parser_sum_io fu)) fu (f u, m2, c2, y4)) _ = _
      rw [bd_t h3]
      cases sumL S can (r2.length + 1) (f u) r2 with
      | inl b => rfl
      | inr q => rfl
  unfold M_expr_parser_sum_io sumS
  have h2 := (skp_suf l).trans hl
  cases hk : skp l with
  | nil =>
    rw [bd_t (px_take_e hs (by omega) hl hk)]
    exact fin [] id (List.nil_suffix)
  | cons c r =>
    rw [hk] at h2
    by_cases hc : c = 45
    · subst hc
      rw [bd_t (px_take_y hs (by omega) hl hk any1t)]
      exact fin r (fun t => .mk 126 [] 0 0 t .nil) (suf_tail h2)
    · rw [bd_t (px_take_n hs (by omega) hl hk (any1 hc))]
      simp only [if_neg hc]
      exact fin (c :: r) id h2
theorem px_sumD (hs : s.length ≤ 4096) : ∀ (r o d fu : Nat) (l : Tx), o + r = d → d ≤ 100 → 10000 + r < fu → l <:+ s → M_expr_parser_sum_io fu (s, (pp s l, ((o : Int), (d : Int)))) = some (enP s ((o : Int), (d : Int)) (sumD r l))
  | 0, o, d, fu, l, h1, h2, h3, hl => by
    obtain ⟨fu, rfl⟩ : ∃ m, fu = m + 1 := ⟨fu - 1, by omega⟩
    refine px_sumS hs (by omega) (S := fun _ => .inl []) (can := false) ⟨⟨fun h => (by cases h), fun h => absurd (by omega) h⟩, by omega, fun l => (List.nil_suffix : [] <:+ l), fun h => (by cases h)⟩ hl
  | r + 1, o, d, fu, l, h1, h2, h3, hl => by
    obtain ⟨fu, rfl⟩ : ∃ m, fu = m + 1 := ⟨fu - 1, by omega⟩
    refine px_sumS hs (by omega) ⟨⟨fun _ => by omega, fun _ => rfl⟩, by omega, sh_sumD r, fun _ l hl => ?_⟩ hl
    exact px_sumD hs r (o + 1) d fu l (by omega) h2 (by omega) hl
theorem px_parse (hf : 20000 ≤ fu) {a : Int} : M_expr_Parse fu s a = some (parseS s a) := by
  unfold M_expr_Parse parseS
  by_cases h1 : a < 0
  · rw [if_pos h1, if_pos h1, z_bd]; rfl
  · rw [if_neg h1, if_neg h1]
    by_cases h2 : 100 < a
    · rw [if_pos h2, if_pos h2, z_bd]; rfl
    · rw [if_neg h2, if_neg h2, z_bd]
      rw [if_neg (by decide)]
      by_cases h3 : 4096 < s.length
      · rw [if_pos (by omega), if_pos h3]
      · rw [if_neg (by omega), if_neg h3]
        have hs : s.length ≤ 4096 := by omega
        have h4 := px_sumD hs a.toNat 0 a.toNat fu s (by omega) (by omega) (by omega) (List.suffix_refl _)
        have e1 : pp s s = 0 := by unfold pp; omega
        have e2 : ((a.toNat : Nat) : Int) = a := by omega
        rw [e1, e2] at h4
        rw [show M_expr_parser_sum_io fu (s, (0, (0, a))) = _ from h4]
        have hsh := sh_sumD a.toNat s
        cases hp : sumD a.toNat s with
        | inl b =>
          show ck (33 = 33) (ck (InR (pp s b)) (some (Tr.nil, pp s b, (2 : Int)))) = _
          have := pp_rng (l := b) hs
          rw [ck_t rfl, ck_t ⟨by omega, by omega⟩]; rfl
        | inr q =>
          obtain ⟨t, r⟩ := q
          rw [hp] at hsh
          show (bd (M_expr_parser_next_io fu (s, (pp s r, (((0 : Nat) : Int), a)))) fun (m1, c1, y2) => _) = _
          have hr := hsh.1
          have h5 := (skp_suf r).trans hr
          cases hk : skp r with
          | nil =>
            rw [bd_t (px_next_n hs (by omega) hr hk)]
            show (if pp s [] < ((s.length : Nat) : Int) then _ else _) = _
            rw [if_neg (by rw [pp_nil]; omega)]
            simp only [hk]
          | cons c r2 =>
            rw [hk] at h5
            rw [bd_t (px_next_c hs (by omega) hr hk)]
            show (if pp s (c :: r2) < ((s.length : Nat) : Int) then _ else _) = _
            have := pp_rng (l := c :: r2) hs
            rw [if_pos (pp_lt h5), ck_t (by trivial), ck_t ⟨by show -9223372036854775808 ≤ pp s (c :: r2); omega, by show pp s (c :: r2) ≤ _; omega⟩]
            simp only [hk]
            rfl
end
end
section
section
variable {s : Tx} {fu : Nat} {o d : Nat}
theorem numS_c {c : Nat} {r : Tx} (hk : skp (c :: r) = c :: r) : numS (c :: r) = if isDg c = true then .inr ((c :: r).take ((c :: r).length - (nbS (c :: r)).length), nbS (c :: r)) else .inl (c :: r) := by
  unfold numS
  rw [hk]
  have h := (dwS_suf r).length_le
  by_cases hc : isDg c = true
  · have : (nbS (c :: r)).length ≠ (c :: r).length := by
      rw [nbS]
      by_cases h1 : c = 48
      · rw [if_pos h1, List.length_cons]; omega
      · rw [if_neg h1, if_pos hc, List.length_cons]; omega
    rw [if_neg this, if_pos hc]
  · have h1 : c ≠ 48 := fun e => hc (by rw [e]; rfl)
    have : nbS (c :: r) = c :: r := by rw [nbS, if_neg h1, if_neg hc]
    rw [this, if_pos rfl, if_neg hc]
end
end
section
def Okt : Nat → Tr → Prop
  | _, .nil => True
  | 0, .mk .. => False
  | n + 1, .mk _ m _ _ l r => m.length ≤ 4096 ∧ Okt n l ∧ Okt n r
theorem Okt.nil {n : Nat} : Okt n .nil := by cases n <;> trivial
theorem Okt.up : ∀ {n k : Nat} {t : Tr}, Okt n t → n ≤ k → Okt k t
  | n, k, .nil, _, _ => .nil
  | 0, _, .mk .., h, _ => h.elim
  | n + 1, k, .mk a m c i l r, h, hk => by
    obtain ⟨k, rfl⟩ : ∃ j, k = j + 1 := ⟨k - 1, by omega⟩
    exact ⟨h.1, Okt.up h.2.1 (by omega), Okt.up h.2.2 (by omega)⟩
theorem okt_mk {n k : Nat} {a c : Nat} {m : List Nat} {i : Int} {l r : Tr} (hm : m.length ≤ 4096) (hl : Okt n l) (hr : Okt n r) (hk : n < k) : Okt k (.mk a m c i l r) := by
  obtain ⟨k, rfl⟩ : ∃ j, k = j + 1 := ⟨k - 1, by omega⟩
  exact ⟨hm, hl.up (by omega), hr.up (by omega)⟩
def Oz (L : Nat) : Rd Tr → Prop
  | .inl _ => True
  | .inr (t, r) => Okt (L - r.length) t
theorem num_len {l d r : Tx} (h : numS l = .inr (d, r)) (hl : l.length ≤ 4096) : (toL (dv d)).length ≤ 4096 := by
  obtain ⟨g1, _, g3, _⟩ := numS_ok h
  have := toL_dv_len d g1
  omega
section
variable {S : Tx → Rd Tr} {can : Bool}
theorem ok_atom (hS : ∀ l, ShS l (S l)) (hO : can = true → ∀ l : Tx, l.length ≤ 4096 → Oz l.length (S l)) {l : Tx} (hl : l.length ≤ 4096) : Oz l.length (atmS S can l) := by
  have h0 := (skp_suf l).length_le
  unfold atmS
  split
  · trivial
  · next c r e =>
    rw [e, List.length_cons] at h0
    split
    · have hsh := sh_num (c :: r)
      split
      · trivial
      · next d r2 e2 =>
        rw [e2] at hsh
        have := hsh.2
        rw [List.length_cons] at this
        exact okt_mk (num_len e2 (by rw [List.length_cons]; omega)) (n := 0) .nil .nil (by omega)
    · split
      · exact okt_mk (n := 0) (by simp) .nil .nil (by omega)
      · split
        · next hc =>
          have h1 := hO hc.2 r (by omega)
          have h2 := hS r
          split
          · trivial
          · next t r2 e2 =>
            rw [e2] at h1 h2
            have h3 := (skp_suf r2).length_le
            split
            · trivial
            · next c2 r3 e3 =>
              rw [e3, List.length_cons] at h3
              split
              · exact Okt.up h1 (by omega)
              · trivial
        · trivial
theorem ok_power (hS : ∀ l, ShS l (S l)) (hO : can = true → ∀ l : Tx, l.length ≤ 4096 → Oz l.length (S l)) {l : Tx} (hl : l.length ≤ 4096) : Oz l.length (powS S can l) := by
  have h0 := ok_atom hS hO hl
  have hsh := sh_atom (can := can) (fun _ => hS) l
  unfold powS
  split
  · trivial
  · next t r e =>
    rw [e] at h0 hsh
    have h2 := (skp_suf r).length_le
    have h4 := hsh.2
    split
    · next e2 => exact Okt.up h0 (by rw [List.length_nil]; omega)
    · next c r2 e2 =>
      rw [e2, List.length_cons] at h2
      split
      · have h3 := sh_expo r2
        split
        · trivial
        · next n r3 e3 =>
          rw [e3] at h3
          have := h3.2
          exact okt_mk (by simp) h0 .nil (by omega)
      · exact Okt.up h0 (by rw [List.length_cons]; omega)
theorem ok_prodL (hS : ∀ l, ShS l (S l)) (hO : can = true → ∀ l : Tx, l.length ≤ 4096 → Oz l.length (S l)) {L : Nat} : ∀ (n : Nat) (t : Tr) (l : Tx), l.length ≤ L → L ≤ 4096 → Okt (L - l.length) t → Oz L (prodL S can n t l)
  | 0, t, l, _, _, h => h
  | n + 1, t, l, hl, hL, h => by
    have h0 := (skp_suf l).length_le
    unfold prodL
    split
    · next e => exact Okt.up h (by rw [List.length_nil]; omega)
    · next c r e =>
      rw [e, List.length_cons] at h0
      split
      · have h1 := ok_power hS hO (l := r) (by omega)
        have hsh := sh_power (can := can) (fun _ => hS) r
        split
        · trivial
        · next u r2 e2 =>
          rw [e2] at h1 hsh
          have := hsh.2
          exact ok_prodL hS hO n _ r2 (by omega) hL (okt_mk (n := L - r2.length - 1) (by simp) (h.up (by omega)) (Okt.up h1 (by omega)) (by omega))
      · split
        · have hsh := sh_num r
          split
          · trivial
          · next d r2 e2 =>
            rw [e2] at hsh
            have := hsh.2
            exact ok_prodL hS hO n _ r2 (by omega) hL (okt_mk (num_len e2 (by omega)) h .nil (by omega))
        · exact Okt.up h (by rw [List.length_cons]; omega)
theorem ok_prodS (hS : ∀ l, ShS l (S l)) (hO : can = true → ∀ l : Tx, l.length ≤ 4096 → Oz l.length (S l)) {l : Tx} (hl : l.length ≤ 4096) : Oz l.length (prodS S can l) := by
  have h1 := ok_power hS hO hl
  have hsh := sh_power (can := can) (fun _ => hS) l
  unfold prodS
  split
  · trivial
  · next t r e =>
    rw [e] at h1 hsh
    exact ok_prodL hS hO _ _ r (by have := hsh.2; omega) hl h1
theorem ok_sumL (hS : ∀ l, ShS l (S l)) (hO : can = true → ∀ l : Tx, l.length ≤ 4096 → Oz l.length (S l)) {L : Nat} : ∀ (n : Nat) (t : Tr) (l : Tx), l.length ≤ L → L ≤ 4096 → Okt (L - l.length) t → Oz L (sumL S can n t l)
  | 0, t, l, _, _, h => h
  | n + 1, t, l, hl, hL, h => by
    have h0 := (skp_suf l).length_le
    unfold sumL
    split
    · next e => exact Okt.up h (by rw [List.length_nil]; omega)
    · next c r e =>
      rw [e, List.length_cons] at h0
      split
      · have h1 := ok_prodS hS hO (l := r) (by omega)
        have hsh := sh_prodS (can := can) (fun _ => hS) r
        split
        · trivial
        · next u r2 e2 =>
          rw [e2] at h1 hsh
          have := hsh.2
          exact ok_sumL hS hO n _ r2 (by omega) hL (okt_mk (n := L - r2.length - 1) (by simp) (h.up (by omega)) (Okt.up h1 (by omega)) (by omega))
      · exact Okt.up h (by rw [List.length_cons]; omega)
theorem ok_sumS (hS : ∀ l, ShS l (S l)) (hO : can = true → ∀ l : Tx, l.length ≤ 4096 → Oz l.length (S l)) {l : Tx} (hl : l.length ≤ 4096) : Oz l.length (sumS S can l) := by
  have h0 := (skp_suf l).length_le
  unfold sumS
  split
  · next e =>
    have h1 := ok_prodS hS hO (l := []) (by simp)
    have hsh := sh_prodS (can := can) (fun _ => hS) []
    split
    · trivial
    · next t r e2 =>
      rw [e2] at hsh
      have := hsh.2
      simp at this
  · next c r e =>
    rw [e, List.length_cons] at h0
    split
    · have h1 := ok_prodS hS hO (l := r) (by omega)
      have hsh := sh_prodS (can := can) (fun _ => hS) r
      split
      · trivial
      · next t r2 e2 =>
        rw [e2] at h1 hsh
        have := hsh.2
        exact ok_sumL hS hO _ _ r2 (by omega) hl (okt_mk (by simp) h1 .nil (by omega))
    · have h1 := ok_prodS hS hO (l := c :: r) (by rw [List.length_cons]; omega)
      have hsh := sh_prodS (can := can) (fun _ => hS) (c :: r)
      split
      · trivial
      · next t r2 e2 =>
        rw [e2] at h1 hsh
        have := hsh.2
        rw [List.length_cons] at this
        exact ok_sumL hS hO _ _ r2 (by omega) hl (Okt.up h1 (by rw [List.length_cons]; omega))
end
theorem ok_sumD : ∀ (n : Nat) (l : Tx), l.length ≤ 4096 → Oz l.length (sumD n l)
  | 0, l, hl => ok_sumS (S := fun _ => .inl []) (can := false) (fun l => (List.nil_suffix : [] <:+ l)) (fun h => (by cases h)) hl
  | n + 1, l, hl => ok_sumS (sh_sumD n) (fun _ => ok_sumD n) hl
theorem ok_parse (s : Tx) (a : Int) : Okt 4096 (parseS s a).1 := by
  unfold parseS
  split
  · exact .nil
  · split
    · exact .nil
    · split
      · exact .nil
      · next h3 =>
        have h := ok_sumD a.toNat s (by omega)
        split
        · exact .nil
        · next t r e =>
          rw [e] at h
          split
          · exact Okt.up h (by omega)
          · exact .nil
theorem theirs_id : ∀ (n fu : Nat) (t : Tr) (k : Int), Okt n t → n < fu → (n : Int) ≤ k → k ≤ 4200 → M_law23_theirs fu t k = some t
  | n, fu, .nil, k, _, h1, _, _ => by
    obtain ⟨fu, rfl⟩ : ∃ j, fu = j + 1 := ⟨fu - 1, by omega⟩
    rfl
  | 0, _, .mk .., _, h, _, _, _ => h.elim
  | n + 1, fu, .mk a m c i l r, k, h, h1, h2, h3 => by
    obtain ⟨fu, rfl⟩ : ∃ j, fu = j + 1 := ⟨fu - 1, by omega⟩
    have i1 := theirs_id n fu l (k - 1) h.2.1 (by omega) (by omega) (by omega)
    have i2 := theirs_id n fu r (k - 1) h.2.2 (by omega) (by omega) (by omega)
    unfold M_law23_theirs
    rw [if_neg (c := (Tr.mk a m c i l r).isNil = true) Bool.false_ne_true, if_neg (by omega)]
    simp only [Tr.opt, z_bd]
    rw [ck64_t ⟨by omega, by omega⟩, i1, z_bd, ck64_t ⟨by omega, by omega⟩, i2, z_bd]
    rfl
theorem same_id : ∀ (n fu : Nat) (t : Tr), Okt n t → n + 5000 < fu → M_ref23_Same fu t t = some true
  | n, fu, .nil, _, h1 => by
    obtain ⟨fu, rfl⟩ : ∃ j, fu = j + 1 := ⟨fu - 1, by omega⟩
    rfl
  | 0, _, .mk .., h, _ => h.elim
  | n + 1, fu, .mk a m c i l r, h, h1 => by
    obtain ⟨fu, rfl⟩ : ∃ j, fu = j + 1 := ⟨fu - 1, by omega⟩
    have i1 := same_id n fu l h.2.1 (by omega)
    have i2 := same_id n fu r h.2.2 (by omega)
    have hm := h.1
    unfold M_ref23_Same
    rw [if_neg (c := (Tr.mk a m c i l r).isNil = true) Bool.false_ne_true, if_neg (c := (Tr.mk a m c i l r).isNil = true) Bool.false_ne_true]
    simp only [Tr.opt, z_bd]
    rw [if_pos (by trivial), if_pos (by trivial), if_pos (by trivial), bd_t (M_ref01_Same_eq (by omega) (by omega)), if_pos (by simp), i1, z_bd, if_pos (by trivial), i2, z_bd]
end
section
def lev : Tr → Nat
  | .nil => 0
  | .mk op _ _ _ _ _ => if op = 43 ∨ op = 45 ∨ op = 126 then 3 else if op = 42 ∨ op = 47 then 2 else if op = 94 then 1 else 0
def dtx (m : List Nat) : Tx := digN (nv m + 1) (nv m)
def wr (k m : Nat) (x : Tx) : Tx := if k ≤ m then x else 40 :: (x ++ [41])
def tx : Tr → Tx
  | .nil => []
  | .mk op m c i l r =>
    if op = 110 then dtx m
    else if op = 118 then [c]
    else if op = 126 then 45 :: wr (lev l) 2 (tx l)
    else if op = 94 then wr (lev l) 0 (tx l) ++ 94 :: itoaE i
    else if op = 47 then wr (lev l) 2 (tx l) ++ 47 :: dtx m
    else if op = 42 then wr (lev l) 2 (tx l) ++ 42 :: wr (lev r) 1 (tx r)
    else wr (lev l) 3 (tx l) ++ op :: wr (lev r) 2 (tx r)
def bw (k m b : Nat) : Nat := if k ≤ m then b else b + 1
def br : Tr → Nat
  | .nil => 0
  | .mk op _ _ _ l r =>
    if op = 110 ∨ op = 118 then 0
    else if op = 126 ∨ op = 47 then bw (lev l) 2 (br l)
    else if op = 94 then bw (lev l) 0 (br l)
    else if op = 42 then max (bw (lev l) 2 (br l)) (bw (lev r) 1 (br r))
    else max (bw (lev l) 3 (br l)) (bw (lev r) 2 (br r))
section
variable {S : Tx → Rd Tr} {can : Bool}
theorem prodL_fuel (hS : ∀ l, ShS l (S l)) : ∀ (m m' : Nat) (t : Tr) (l : Tx), l.length < m → l.length < m' → prodL S can m t l = prodL S can m' t l
  | 0, _, t, l, h, _ => by omega
  | m + 1, m', t, l, h, h' => by
    obtain ⟨m', rfl⟩ : ∃ j, m' = j + 1 := ⟨m' - 1, by omega⟩
    have hs := (skp_suf l).length_le
    unfold prodL
    cases hk : skp l with
    | nil => rfl
    | cons c r =>
      rw [hk, List.length_cons] at hs
      simp only []
      split
      · have hsh := sh_power (can := can) (fun _ => hS) r
        cases hp : powS S can r with
        | inl b => rfl
        | inr q =>
          obtain ⟨u, r2⟩ := q
          rw [hp] at hsh
          have := hsh.2
          exact prodL_fuel hS m m' _ r2 (by omega) (by omega)
      · split
        · have hsh := sh_num r
          cases hp : numS r with
          | inl b => rfl
          | inr q =>
            obtain ⟨u, r2⟩ := q
            rw [hp] at hsh
            have := hsh.2
            exact prodL_fuel hS m m' _ r2 (by omega) (by omega)
        · rfl
theorem sumL_fuel (hS : ∀ l, ShS l (S l)) : ∀ (m m' : Nat) (t : Tr) (l : Tx), l.length < m → l.length < m' → sumL S can m t l = sumL S can m' t l
  | 0, _, t, l, h, _ => by omega
  | m + 1, m', t, l, h, h' => by
    obtain ⟨m', rfl⟩ : ∃ j, m' = j + 1 := ⟨m' - 1, by omega⟩
    have hs := (skp_suf l).length_le
    unfold sumL
    cases hk : skp l with
    | nil => rfl
    | cons c r =>
      rw [hk, List.length_cons] at hs
      simp only []
      split
      · have hsh := sh_prodS (can := can) (fun _ => hS) r
        cases hp : prodS S can r with
        | inl b => rfl
        | inr q =>
          obtain ⟨u, r2⟩ := q
          rw [hp] at hsh
          have := hsh.2
          exact sumL_fuel hS m m' _ r2 (by omega) (by omega)
      · rfl
end
def Np (r : Tx) : Prop := ∀ c k, r = c :: k → isDg c = false
theorem dwS_app : ∀ (d : Tx) (r : Tx), Dg d → Np r → dwS (d ++ r) = r
  | [], r, _, hr => by
    cases r with
    | nil => rfl
    | cons c k => rw [List.nil_append, dwS, if_neg (by rw [hr c k rfl]; decide)]
  | c :: d, r, hd, hr => by
    rw [List.cons_append, dwS, if_pos (hd c (List.mem_cons_self ..))]
    exact dwS_app d r (fun x hx => hd x (List.mem_cons_of_mem _ hx)) hr
theorem numS_app {d r : Tx} (hd : Dg d) (hz : Nz d) (hr : Np r) : numS (d ++ r) = .inr (d, r) := by
  obtain ⟨c, d', rfl⟩ := List.exists_cons_of_ne_nil hz.1
  have hc := hd c (List.mem_cons_self ..)
  have hcd := isDg_iff.1 hc
  have hk : skp (c :: (d' ++ r)) = c :: (d' ++ r) := by rw [skp, if_neg (by omega)]
  rw [List.cons_append, numS_c hk, if_pos hc]
  have hn : nbS (c :: (d' ++ r)) = r := by
    rw [nbS]
    by_cases h1 : c = 48
    · have := hz.2 (by simpa using h1)
      rw [if_pos h1]
      have : d' = [] := by simpa using this
      rw [this]; rfl
    · rw [if_neg h1, if_pos hc]
      exact dwS_app d' r (fun x hx => hd x (List.mem_cons_of_mem _ hx)) hr
  rw [hn]
  have : (c :: (d' ++ r)).length - r.length = (c :: d').length := by simp; omega
  rw [this, ← List.cons_append, List.take_left]
end
theorem digN_ok : ∀ (f u : Nat), u < 10 ^ (f + 1) → dv (digN (f + 1) u) = u ∧ Dg (digN (f + 1) u) ∧ digN (f + 1) u ≠ [] ∧ ((digN (f + 1) u).headD 0 = 48 → u = 0)
  | f, u, h => by
    unfold digN
    by_cases h1 : u < 10
    · rw [if_pos h1]
      refine ⟨?_, ?_, by simp, ?_⟩
      · show 10 * 0 + (48 + u - 48) = u
        omega
      · intro c hc
        rw [List.mem_singleton.1 hc]
        exact isDg_iff.2 ⟨by omega, by omega⟩
      · intro e
        have e : 48 + u = 48 := e
        omega
    · rw [if_neg h1]
      match f, h with
      | 0, h => exact absurd (by simpa using h) h1
      | f + 1, h =>
        obtain ⟨i1, i2, i3, i4⟩ := digN_ok f (u / 10) (by rw [Nat.pow_succ] at h; omega)
        refine ⟨?_, ?_, by simp, ?_⟩
        · rw [dv_snoc, i1]; omega
        · intro c hc
          rcases List.mem_append.1 hc with hc | hc
          · exact i2 c hc
          · rw [List.mem_singleton.1 hc]
            exact isDg_iff.2 ⟨by omega, by omega⟩
        · intro e
          obtain ⟨c, k, hk⟩ := List.exists_cons_of_ne_nil i3
          rw [hk] at e i4
          have := i4 e
          omega
theorem lt_ten (u : Nat) : u < 10 ^ (u + 1) := by
  have : u < 2 ^ u := Nat.lt_two_pow_self
  have h2 : 2 ^ u ≤ 10 ^ u := Nat.pow_le_pow_left (by decide) u
  have h3 : 10 ^ u ≤ 10 ^ (u + 1) := Nat.pow_le_pow_right (by decide) (by omega)
  omega
theorem dtx_ok (m : List Nat) : dv (dtx m) = nv m ∧ Dg (dtx m) ∧ Nz (dtx m) := by
  obtain ⟨h1, h2, h3, h4⟩ := digN_ok (nv m) (nv m) (lt_ten _)
  refine ⟨h1, h2, h3, fun e => ?_⟩
  have h5 := h4 e
  unfold dtx
  rw [h5]; rfl
theorem itoa_ok {i : Int} (h0 : 0 ≤ i) (h1 : i ≤ 1000) : dv (itoaE i) = i.toNat ∧ Dg (itoaE i) ∧ Nz (itoaE i) := by
  unfold itoaE
  rw [if_neg (by omega)]
  obtain ⟨h1, h2, h3, h4⟩ := digN_ok 19 i.toNat (by omega)
  refine ⟨h1, h2, h3, fun e => ?_⟩
  have h5 := h4 e
  rw [h5]; rfl
theorem num_dtx {m : List Nat} {r : Tx} (hm : toL (nv m) = m) (hr : Np r) : numS (dtx m ++ r) = .inr (dtx m, r) ∧ toL (dv (dtx m)) = m := by
  obtain ⟨h1, h2, h3⟩ := dtx_ok m
  exact ⟨numS_app h2 h3 hr, by rw [h1, hm]⟩
theorem exp_itoa {i : Int} {r : Tx} (h0 : 0 ≤ i) (h1 : i ≤ 1000) (hr : Np r) : expS (itoaE i ++ r) = .inr (i, r) := by
  obtain ⟨g1, g2, g3⟩ := itoa_ok h0 h1
  unfold expS
  rw [numS_app g2 g3 hr]
  simp only []
  rw [g1, if_pos (by omega)]
  have : ((i.toNat : Nat) : Int) = i := by omega
  rw [this]
section
def Gt : Tr → Prop
  | .nil => False
  | .mk op m c i l r =>
    (op = 110 ∧ c = 0 ∧ i = 0 ∧ l = .nil ∧ r = .nil ∧ toL (nv m) = m) ∨ (op = 118 ∧ m = [] ∧ isLt c = true ∧ i = 0 ∧ l = .nil ∧ r = .nil) ∨
    (op = 126 ∧ m = [] ∧ c = 0 ∧ i = 0 ∧ Gt l ∧ r = .nil) ∨ (op = 94 ∧ m = [] ∧ c = 0 ∧ 0 ≤ i ∧ i ≤ 1000 ∧ Gt l ∧ r = .nil) ∨
    (op = 47 ∧ toL (nv m) = m ∧ c = 0 ∧ i = 0 ∧ Gt l ∧ r = .nil) ∨ (op = 42 ∧ m = [] ∧ c = 0 ∧ i = 0 ∧ Gt l ∧ Gt r) ∨ ((op = 43 ∨ op = 45) ∧ m = [] ∧ c = 0 ∧ i = 0 ∧ Gt l ∧ Gt r)
def Sk : Nat → Tx → Rd Tr
  | 0 => fun _ => .inl []
  | k + 1 => sumD k
def cn : Nat → Bool
  | 0 => false
  | _ + 1 => true
theorem sumD_k (k : Nat) : sumD k = sumS (Sk k) (cn k) := by cases k <;> rfl
theorem sk_sh : ∀ (k : Nat) (l : Tx), ShS l (Sk k l)
  | 0, l => (List.nil_suffix : [] <:+ l)
  | k + 1, l => sh_sumD k l
def Rs (r : Tx) : Prop := r = [] ∨ ∃ c k, r = c :: k ∧ (c = 41 ∨ c = 42 ∨ c = 43 ∨ c = 45 ∨ c = 47)
def R3 (r : Tx) : Prop := r = [] ∨ ∃ c k, r = c :: k ∧ (c = 41 ∨ c = 43 ∨ c = 45)
theorem R3.rs {r : Tx} (h : R3 r) : Rs r := by
  rcases h with h | ⟨c, k, h, h2⟩
  · exact .inl h
  · exact .inr ⟨c, k, h, by rcases h2 with h | h | h <;> simp [h]⟩
theorem Rs.np {r : Tx} (h : Rs r) : Np r := by
  rcases h with rfl | ⟨c, k, rfl, h2⟩
  · intro c k e; cases e
  · intro c' k' e
    cases e
    rcases h2 with rfl | rfl | rfl | rfl | rfl <;> rfl
theorem Rs.skp {r : Tx} (h : Rs r) : skp r = r := by
  rcases h with rfl | ⟨c, k, rfl, h2⟩
  · rfl
  · rw [Go.Proofs.YtbaoeefdjpaomaaDoor.skp, if_neg (by omega)]
section
variable {S : Tx → Rd Tr} {can : Bool}
theorem pow_of_atm {l r : Tx} {t : Tr} (h : atmS S can l = .inr (t, r)) (hr : Rs r) : powS S can l = .inr (t, r) := by
  unfold powS
  rw [h]
  simp only [hr.skp]
  rcases hr with rfl | ⟨c, k, rfl, h2⟩
  · rfl
  · simp only []
    rw [if_neg (by omega)]
theorem prod_of_pow {l r : Tx} {t : Tr} (h : powS S can l = .inr (t, r)) : prodS S can l = prodL S can (r.length + 1) t r := by
  unfold prodS
  rw [h]
theorem prodL_stop {r : Tx} {t : Tr} {n : Nat} (hr : R3 r) : prodL S can (n + 1) t r = .inr (t, r) := by
  unfold prodL
  rw [hr.rs.skp]
  rcases hr with rfl | ⟨c, k, rfl, h2⟩
  · rfl
  · simp only []
    rw [if_neg (by omega), if_neg (by omega)]
theorem atm_brack {k : Nat} {t : Tr} {x r : Tx} (h : sumS (Sk k) (cn k) (x ++ 41 :: r) = .inr (t, 41 :: r)) : atmS (Sk (k + 1)) (cn (k + 1)) (40 :: (x ++ [41]) ++ r) = .inr (t, r) := by
  have e : 40 :: (x ++ [41]) ++ r = 40 :: (x ++ 41 :: r) := by simp
  have h2 : Sk (k + 1) (x ++ 41 :: r) = .inr (t, 41 :: r) := by
    show sumD k _ = _
    rw [sumD_k]; exact h
  rw [e]
  unfold atmS
  have hk : skp (40 :: (x ++ 41 :: r)) = 40 :: (x ++ 41 :: r) := by rw [skp, if_neg (by decide)]
  rw [hk]
  simp only []
  rw [if_neg (by decide), if_neg (by decide), if_pos ⟨trivial, rfl⟩, h2]
  have hk2 : skp (41 :: r) = 41 :: r := by rw [skp, if_neg (by decide)]
  simp only [hk2]
  rw [if_pos (by trivial)]
end
end
section
def Qt (t : Tr) : Prop := ∀ k, br t ≤ k →
  (lev t = 0 → ∀ r, Np r → atmS (Sk k) (cn k) (tx t ++ r) = .inr (t, r)) ∧
  (lev t ≤ 1 → ∀ r, Rs r → powS (Sk k) (cn k) (tx t ++ r) = .inr (t, r)) ∧
  (lev t ≤ 2 → ∀ r, Rs r → prodS (Sk k) (cn k) (tx t ++ r) = prodL (Sk k) (cn k) (r.length + 1) t r) ∧
  (∀ r, R3 r → sumS (Sk k) (cn k) (tx t ++ r) = sumL (Sk k) (cn k) (r.length + 1) t r)
theorem sumL_stop {S : Tx → Rd Tr} {can : Bool} {r : Tx} {t : Tr} {n : Nat} (hr : ∀ c k, r = c :: k → c ≠ 43 ∧ c ≠ 45) (hk : skp r = r) : sumL S can (n + 1) t r = .inr (t, r) := by
  unfold sumL
  rw [hk]
  cases r with
  | nil => rfl
  | cons c k =>
    have := hr c k rfl
    simp only []
    rw [if_neg (by omega)]
section
variable {t : Tr} {k : Nat} {r : Tx}
theorem Qt.brack (h : Qt t) (hb : br t + 1 ≤ k) : atmS (Sk k) (cn k) (40 :: (tx t ++ [41]) ++ r) = .inr (t, r) := by
  obtain ⟨k, rfl⟩ : ∃ j, k = j + 1 := ⟨k - 1, by omega⟩
  refine atm_brack ?_
  rw [(h k (by omega)).2.2.2 (41 :: r) (.inr ⟨41, r, rfl, .inl rfl⟩)]
  exact sumL_stop (fun c k e => by cases e; exact ⟨by decide, by decide⟩) (by rw [skp, if_neg (by decide)])
theorem Qt.w0 (h : Qt t) (hb : bw (lev t) 0 (br t) ≤ k) (hr : Np r) : atmS (Sk k) (cn k) (wr (lev t) 0 (tx t) ++ r) = .inr (t, r) := by
  unfold bw at hb
  unfold wr
  by_cases hl : lev t ≤ 0
  · rw [if_pos hl] at hb ⊢
    exact (h k hb).1 (by omega) r hr
  · rw [if_neg hl] at hb ⊢
    exact h.brack hb
theorem Qt.w1 (h : Qt t) (hb : bw (lev t) 1 (br t) ≤ k) (hr : Rs r) : powS (Sk k) (cn k) (wr (lev t) 1 (tx t) ++ r) = .inr (t, r) := by
  unfold bw at hb
  unfold wr
  by_cases hl : lev t ≤ 1
  · rw [if_pos hl] at hb ⊢
    exact (h k hb).2.1 hl r hr
  · rw [if_neg hl] at hb ⊢
    exact pow_of_atm (h.brack hb) hr
theorem Qt.w2 (h : Qt t) (hb : bw (lev t) 2 (br t) ≤ k) (hr : Rs r) : prodS (Sk k) (cn k) (wr (lev t) 2 (tx t) ++ r) = prodL (Sk k) (cn k) (r.length + 1) t r := by
  unfold bw at hb
  unfold wr
  by_cases hl : lev t ≤ 2
  · rw [if_pos hl] at hb ⊢
    exact (h k hb).2.2.1 hl r hr
  · rw [if_neg hl] at hb ⊢
    exact prod_of_pow (pow_of_atm (h.brack hb) hr)
end
end
def Hd (b : Bool) (x : Tx) : Prop := ∃ c k, x = c :: k ∧ c ≠ 32 ∧ (b = true → c ≠ 45)
theorem Hd.app {b : Bool} {x y : Tx} (h : Hd b x) : Hd b (x ++ y) := by
  obtain ⟨c, k, rfl, h1, h2⟩ := h
  exact ⟨c, k ++ y, rfl, h1, h2⟩
theorem hd_wr {l : Tr} {m : Nat} (hm : m ≤ 2) (h : Hd (decide (lev l ≤ 2)) (tx l)) : Hd true (wr (lev l) m (tx l)) := by
  unfold wr
  by_cases hl : lev l ≤ m
  · rw [if_pos hl]
    obtain ⟨c, k, e, h1, h2⟩ := h
    exact ⟨c, k, e, h1, fun _ => h2 (by simp; omega)⟩
  · rw [if_neg hl]
    exact ⟨40, _, rfl, by decide, fun _ => by decide⟩
theorem hd_dtx (m : List Nat) : Hd true (dtx m) := by
  obtain ⟨_, h2, h3, _⟩ := dtx_ok m
  obtain ⟨c, k, hk⟩ := List.exists_cons_of_ne_nil h3
  have := isDg_iff.1 (h2 c (by rw [hk]; exact List.mem_cons_self ..))
  exact ⟨c, k, hk, by omega, fun _ => by omega⟩
theorem Hd.any {b : Bool} {x : Tx} (h : Hd true x) : Hd b x := by
  obtain ⟨c, k, e, h1, h2⟩ := h
  exact ⟨c, k, e, h1, fun _ => h2 rfl⟩
theorem hd_tx : ∀ t : Tr, Gt t → Hd (decide (lev t ≤ 2)) (tx t)
  | .nil, h => h.elim
  | .mk op m c i l r, h => by
    rcases h with ⟨rfl, _⟩ | ⟨rfl, _, hc, _⟩ | ⟨rfl, _⟩ | ⟨rfl, _, _, _, _, hl, _⟩ | ⟨rfl, _, _, _, hl, _⟩ | ⟨rfl, _, _, _, hl, _⟩ | ⟨hop, _, _, _, hl, _⟩
    · exact (hd_dtx m).any
    · have hc : 97 ≤ c ∧ c ≤ 122 := by simpa [isLt] using hc
      exact ⟨c, [], rfl, by omega, fun _ => by omega⟩
    · exact ⟨45, _, rfl, by decide, fun h => by simp [lev] at h⟩
    · exact ((hd_wr (m := 0) (by decide) (hd_tx l hl)).app).any
    · exact ((hd_wr (m := 2) (by decide) (hd_tx l hl)).app).any
    · exact ((hd_wr (m := 2) (by decide) (hd_tx l hl)).app).any
    · have h1 := hd_tx l hl
      have hlv : lev (.mk op m c i l r) = 3 := by
        rcases hop with rfl | rfl <;> rfl
      have htx : tx (.mk op m c i l r) = wr (lev l) 3 (tx l) ++ op :: wr (lev r) 2 (tx r) := by
        rcases hop with rfl | rfl <;> rfl
      rw [htx, hlv]
      obtain ⟨a, k, e, g1, _⟩ := h1
      unfold wr
      split
      · rw [e]; exact ⟨a, _, rfl, g1, fun h => by simp at h⟩
      · exact ⟨40, _, rfl, by decide, fun h => by simp at h⟩
section
theorem lev_le (t : Tr) : lev t ≤ 3 := by
  cases t with
  | nil => exact Nat.zero_le _
  | mk op m c i l r =>
    show (if op = 43 ∨ op = 45 ∨ op = 126 then 3 else if op = 42 ∨ op = 47 then 2 else if op = 94 then 1 else 0) ≤ 3
    repeat' split
    all_goals omega
section
variable {k : Nat} {t : Tr} {x : Tx}
theorem u_of_m (hd : Hd true x) (M : ∀ r, Rs r → prodS (Sk k) (cn k) (x ++ r) = prodL (Sk k) (cn k) (r.length + 1) t r) (r : Tx) (hr : R3 r) : sumS (Sk k) (cn k) (x ++ r) = sumL (Sk k) (cn k) (r.length + 1) t r := by
  have h := M r hr.rs
  rw [prodL_stop hr] at h
  obtain ⟨c, y, rfl, h1, h2⟩ := hd
  have hk : skp (c :: y ++ r) = c :: (y ++ r) := by rw [List.cons_append, skp, if_neg h1]
  unfold sumS
  rw [hk]
  simp only []
  rw [if_neg (h2 rfl), ← List.cons_append, h]
theorem m_of_p (P : ∀ r, Rs r → powS (Sk k) (cn k) (x ++ r) = .inr (t, r)) (r : Tx) (hr : Rs r) : prodS (Sk k) (cn k) (x ++ r) = prodL (Sk k) (cn k) (r.length + 1) t r := prod_of_pow (P r hr)
theorem p_of_a (A : ∀ r, Np r → atmS (Sk k) (cn k) (x ++ r) = .inr (t, r)) (r : Tx) (hr : Rs r) : powS (Sk k) (cn k) (x ++ r) = .inr (t, r) := pow_of_atm (A r hr.np) hr
end
theorem gt_qt : ∀ t : Tr, Gt t → Qt t
  | .nil, h => h.elim
  | .mk op m c i l r, h => by
    intro k hk
    have hh := hd_tx _ h
    rcases h with ⟨rfl, rfl, rfl, rfl, rfl, hm⟩ | ⟨rfl, rfl, hc, rfl, rfl, rfl⟩ | ⟨rfl, rfl, rfl, rfl, hl, rfl⟩ | ⟨rfl, rfl, rfl, h0, h1, hl, rfl⟩ | ⟨rfl, hm, rfl, rfl, hl, rfl⟩ | ⟨rfl, rfl, rfl, rfl, hl, hr⟩ | ⟨hop, rfl, rfl, rfl, hl, hr⟩
    · have A : ∀ r, Np r → atmS (Sk k) (cn k) (dtx m ++ r) = .inr (nNode m, r) := fun r hr => by
        obtain ⟨g1, g2⟩ := num_dtx hm hr
        obtain ⟨a, y, e, q1, _⟩ := hd_dtx m
        have hdg : isDg a = true := (dtx_ok m).2.1 a (by rw [e]; exact List.mem_cons_self ..)
        have hk : skp (dtx m ++ r) = a :: (y ++ r) := by rw [e, List.cons_append, skp, if_neg q1]
        unfold atmS
        rw [hk]
        simp only []
        rw [if_pos hdg, ← List.cons_append, ← e, g1]
        simp only []
        rw [g2]
      exact ⟨fun _ => A, fun _ => p_of_a A, fun _ => m_of_p (p_of_a A), u_of_m hh (m_of_p (p_of_a A))⟩
    · have A : ∀ r, Np r → atmS (Sk k) (cn k) ([c] ++ r) = .inr (.mk 118 [] c 0 .nil .nil, r) := fun r hr => by
        have hc' : 97 ≤ c ∧ c ≤ 122 := by simpa [isLt] using hc
        have hk : skp ([c] ++ r) = c :: r := by rw [List.singleton_append, skp, if_neg (by omega)]
        unfold atmS
        rw [hk]
        simp only []
        rw [if_neg (fun e => by have := isDg_iff.1 e; omega), if_pos hc]
      exact ⟨fun _ => A, fun _ => p_of_a A, fun _ => m_of_p (p_of_a A), u_of_m hh (m_of_p (p_of_a A))⟩
    · have hq := gt_qt l hl
      refine ⟨fun e => by simp [lev] at e, fun e => by simp [lev] at e, fun e => by simp [lev] at e, fun r hr => ?_⟩
      show sumS (Sk k) (cn k) (45 :: (wr (lev l) 2 (tx l) ++ r)) = _
      have h2 := hq.w2 (k := k) (r := r) hk hr.rs
      rw [prodL_stop hr] at h2
      unfold sumS
      rw [show skp (45 :: (wr (lev l) 2 (tx l) ++ r)) = 45 :: (wr (lev l) 2 (tx l) ++ r) by rw [skp, if_neg (by decide)]]
      simp only []
      rw [if_pos (by trivial), h2]
    · have hq := gt_qt l hl
      have P : ∀ r, Rs r → powS (Sk k) (cn k) ((wr (lev l) 0 (tx l) ++ 94 :: itoaE i) ++ r) = .inr (.mk 94 [] 0 i l .nil, r) := fun r hr => by
        rw [List.append_assoc, List.cons_append]
        have hn : Np (94 :: (itoaE i ++ r)) := fun c k e => by cases e; rfl
        unfold powS
        rw [hq.w0 hk hn]
        simp only []
        rw [show skp (94 :: (itoaE i ++ r)) = 94 :: (itoaE i ++ r) by rw [skp, if_neg (by decide)]]
        simp only []
        rw [if_pos (by trivial), exp_itoa h0 h1 hr.np]
      exact ⟨fun e => by simp [lev] at e, fun _ => P, fun _ => m_of_p P, u_of_m hh (m_of_p P)⟩
    · have hq := gt_qt l hl
      have M : ∀ r, Rs r → prodS (Sk k) (cn k) ((wr (lev l) 2 (tx l) ++ 47 :: dtx m) ++ r) = prodL (Sk k) (cn k) (r.length + 1) (.mk 47 m 0 0 l .nil) r := fun r hr => by
        obtain ⟨g1, g2⟩ := num_dtx hm hr.np
        rw [List.append_assoc, List.cons_append, hq.w2 hk (.inr ⟨47, _, rfl, by simp⟩)]
        conv => lhs; unfold prodL
        rw [show skp (47 :: (dtx m ++ r)) = 47 :: (dtx m ++ r) by rw [skp, if_neg (by decide)]]
        simp only []
        rw [if_neg (by decide), if_pos (by trivial), g1]
        simp only []
        rw [g2]
        exact prodL_fuel (sk_sh k) _ _ _ _ (by simp; omega) (by omega)
      exact ⟨fun e => by simp [lev] at e, fun e => by simp [lev] at e, fun _ => M, u_of_m hh M⟩
    · have hq := gt_qt l hl
      have hq2 := gt_qt r hr
      have hb : bw (lev l) 2 (br l) ≤ k ∧ bw (lev r) 1 (br r) ≤ k := by
        have : max (bw (lev l) 2 (br l)) (bw (lev r) 1 (br r)) ≤ k := hk
        omega
      have M : ∀ r', Rs r' → prodS (Sk k) (cn k) ((wr (lev l) 2 (tx l) ++ 42 :: wr (lev r) 1 (tx r)) ++ r') = prodL (Sk k) (cn k) (r'.length + 1) (.mk 42 [] 0 0 l r) r' := fun r' hr' => by
        rw [List.append_assoc, List.cons_append, hq.w2 hb.1 (.inr ⟨42, _, rfl, by simp⟩)]
        conv => lhs; unfold prodL
        rw [show skp (42 :: (wr (lev r) 1 (tx r) ++ r')) = 42 :: (wr (lev r) 1 (tx r) ++ r') by rw [skp, if_neg (by decide)]]
        simp only []
        rw [if_pos (by trivial), hq2.w1 hb.2 hr']
        exact prodL_fuel (sk_sh k) _ _ _ _ (by simp; omega) (by omega)
      exact ⟨fun e => by simp [lev] at e, fun e => by simp [lev] at e, fun _ => M, u_of_m hh M⟩
    · have hq := gt_qt l hl
      have hq2 := gt_qt r hr
      have hlv : lev (.mk op [] 0 0 l r) = 3 := by rcases hop with rfl | rfl <;> rfl
      have hb : bw (lev l) 3 (br l) ≤ k ∧ bw (lev r) 2 (br r) ≤ k := by
        have : max (bw (lev l) 3 (br l)) (bw (lev r) 2 (br r)) ≤ k := by rcases hop with rfl | rfl <;> exact hk
        omega
      have htx : tx (.mk op [] 0 0 l r) = tx l ++ op :: wr (lev r) 2 (tx r) := by
        have e : wr (lev l) 3 (tx l) = tx l := by unfold wr; rw [if_pos (lev_le l)]
        rw [← e]
        rcases hop with rfl | rfl <;> rfl
      have hbl : br l ≤ k := by
        have := hb.1
        unfold bw at this
        rwa [if_pos (lev_le l)] at this
      refine ⟨fun e => by rw [hlv] at e; omega, fun e => by rw [hlv] at e; omega, fun e => by rw [hlv] at e; omega, fun r' hr' => ?_⟩
      rw [htx, List.append_assoc, List.cons_append, (hq k hbl).2.2.2 _ (.inr ⟨op, _, rfl, by rcases hop with rfl | rfl <;> simp⟩)]
      conv => lhs; unfold sumL
      have h2 := hq2.w2 (k := k) (r := r') hb.2 hr'.rs
      rw [prodL_stop hr'] at h2
      rw [show skp (op :: (wr (lev r) 2 (tx r) ++ r')) = op :: (wr (lev r) 2 (tx r) ++ r') by rw [skp, if_neg (by rcases hop with rfl | rfl <;> decide)]]
      simp only []
      rw [if_pos hop, h2]
      exact sumL_fuel (sk_sh k) _ _ _ _ (by simp; omega) (by omega)
end
section
theorem num_sp {l d r : Tx} (h : numS l = .inr (d, r)) : d.length + r.length ≤ l.length := by
  unfold numS at h
  have h0 := (skp_suf l).length_le
  have h1 := (nbS_suf (skp l)).length_le
  split at h
  · cases h
  · injection h with h
    injection h with h2 h3
    rw [← h2, ← h3, List.length_take]; omega
theorem digN_short : ∀ (f u j : Nat), u < 10 ^ (j + 1) → (digN f u).length ≤ j + 1
  | 0, _, _, _ => by simp [digN]
  | f + 1, u, j, h => by
    unfold digN
    by_cases h1 : u < 10
    · rw [if_pos h1]; simp
    · rw [if_neg h1]
      match j, h with
      | 0, h => exact absurd (by simpa using h) h1
      | j + 1, h =>
        have := digN_short f (u / 10) j (by rw [Nat.pow_succ] at h; omega)
        rw [List.length_append]; simp; omega
theorem digN_dv {d : Tx} (hd : Dg d) (hz : Nz d) (f : Nat) : (digN f (dv d)).length ≤ d.length := by
  obtain ⟨j, hj⟩ : ∃ j, d.length = j + 1 := ⟨d.length - 1, by have := List.length_pos_iff.2 hz.1; omega⟩
  rw [hj]
  exact digN_short _ _ j (by rw [← hj]; exact dv_lt _ d rfl hd)
theorem dtx_sp {l d r : Tx} (h : numS l = .inr (d, r)) : (dtx (toL (dv d))).length + r.length ≤ l.length := by
  have h1 := num_sp h
  obtain ⟨g1, g2, _⟩ := numS_ok h
  have h2 := digN_dv g1 g2 (dv d + 1)
  unfold dtx
  rw [nv_toL]; omega
theorem exp_sp {l r : Tx} {n : Int} (h : expS l = .inr (n, r)) : 0 ≤ n ∧ n ≤ 1000 ∧ (itoaE n).length + r.length ≤ l.length := by
  unfold expS at h
  split at h
  · cases h
  · next d r' e =>
    have h1 := num_sp e
    obtain ⟨g1, g2, _⟩ := numS_ok e
    have h2 := digN_dv g1 g2 20
    split at h
    · next h3 =>
      injection h with h
      injection h with h4 h5
      subst h4 h5
      refine ⟨by omega, by omega, ?_⟩
      unfold itoaE
      rw [if_neg (by omega), Int.toNat_natCast]; omega
    · cases h
def Gk (m k L : Nat) (t : Tr) (r : Tx) : Prop := Gt t ∧ bw (lev t) m (br t) ≤ k ∧ (wr (lev t) m (tx t)).length + r.length ≤ L
def Gz (m k L : Nat) : Rd Tr → Prop
  | .inl _ => True
  | .inr (t, r) => Gk m k L t r
theorem wr_len (a m : Nat) (x : Tx) : (wr a m x).length = x.length + if a ≤ m then 0 else 2 := by
  unfold wr
  split <;> simp
theorem Gk.up {m m' k L L' : Nat} {t : Tr} {r r' : Tx} (h : Gk m k L t r) (hm : m ≤ m') (hr : r'.length + L ≤ r.length + L') : Gk m' k L' t r' := by
  obtain ⟨h1, h2, h3⟩ := h
  unfold bw at h2
  rw [wr_len] at h3
  refine ⟨h1, ?_, ?_⟩
  · unfold bw
    split at h2
    · rw [if_pos (by omega)]; exact h2
    · split <;> omega
  · rw [wr_len]
    split at h3
    · rw [if_pos (by omega)]; omega
    · split <;> omega
theorem gk_mk {m k L : Nat} {t : Tr} {r : Tx} (hg : Gt t) (hl : lev t ≤ m) (hb : br t ≤ k) (hx : (tx t).length + r.length ≤ L) : Gk m k L t r :=
  ⟨hg, by unfold bw; rw [if_pos hl]; exact hb, by unfold wr; rw [if_pos hl]; exact hx⟩
section
variable {S : Tx → Rd Tr} {can : Bool} {k : Nat}
theorem gz_atm (hS : ∀ l, ShS l (S l)) (hO : can = true → 1 ≤ k ∧ ∀ l : Tx, Gz 3 (k - 1) l.length (S l)) (l : Tx) : Gz 0 k l.length (atmS S can l) := by
  have h0 := (skp_suf l).length_le
  unfold atmS
  split
  · trivial
  · next c r e =>
    rw [e, List.length_cons] at h0
    split
    · split
      · trivial
      · next d r2 e2 =>
        have := dtx_sp e2
        rw [List.length_cons] at this
        exact gk_mk (.inl ⟨rfl, rfl, rfl, rfl, rfl, by rw [nv_toL]⟩) (Nat.le_refl 0) (Nat.zero_le _) (by show (dtx (toL (dv d))).length + _ ≤ _; omega)
    · split
      · next hc => exact gk_mk (.inr (.inl ⟨rfl, rfl, hc, rfl, rfl, rfl⟩)) (Nat.le_refl 0) (Nat.zero_le _) (by show 1 + _ ≤ _; omega)
      · split
        · next hc =>
          obtain ⟨h1, h2⟩ := hO hc.2
          have h2 := h2 r
          split
          · trivial
          · next t r2 e2 =>
            rw [e2] at h2
            have h3 := (skp_suf r2).length_le
            split
            · trivial
            · next c2 r3 e3 =>
              rw [e3, List.length_cons] at h3
              split
              · obtain ⟨g1, g2, g3⟩ := h2
                unfold bw at g2
                rw [if_pos (lev_le t)] at g2
                rw [wr_len, if_pos (lev_le t)] at g3
                refine ⟨g1, ?_, ?_⟩
                · unfold bw; split <;> omega
                · rw [wr_len]; split <;> omega
              · trivial
        · trivial
theorem gz_pow (hS : ∀ l, ShS l (S l)) (hO : can = true → 1 ≤ k ∧ ∀ l : Tx, Gz 3 (k - 1) l.length (S l)) (l : Tx) : Gz 1 k l.length (powS S can l) := by
  have h0 := gz_atm hS hO l
  unfold powS
  split
  · trivial
  · next t r e =>
    rw [e] at h0
    have h2 := (skp_suf r).length_le
    split
    · exact Gk.up h0 (by omega) (by simp)
    · next c r2 e2 =>
      rw [e2, List.length_cons] at h2
      split
      · split
        · trivial
        · next n r3 e3 =>
          obtain ⟨q1, q2, q3⟩ := exp_sp e3
          obtain ⟨g1, g2, g3⟩ := h0
          exact gk_mk (.inr (.inr (.inr (.inl ⟨rfl, rfl, rfl, q1, q2, g1, rfl⟩)))) (Nat.le_refl 1) g2 (by
            show (wr (lev t) 0 (tx t) ++ 94 :: itoaE n).length + _ ≤ _
            rw [List.length_append, List.length_cons]; omega)
      · exact Gk.up h0 (by omega) (by rw [List.length_cons]; omega)
theorem gz_prodL (hS : ∀ l, ShS l (S l)) (hO : can = true → 1 ≤ k ∧ ∀ l : Tx, Gz 3 (k - 1) l.length (S l)) {L : Nat} : ∀ (n : Nat) (t : Tr) (l : Tx), Gk 2 k L t l → Gz 2 k L (prodL S can n t l)
  | 0, t, l, h => h
  | n + 1, t, l, h => by
    have h0 := (skp_suf l).length_le
    unfold prodL
    split
    · exact Gk.up h (by omega) (by simp)
    · next c r e =>
      rw [e, List.length_cons] at h0
      split
      · have h1 := gz_pow hS hO r
        split
        · trivial
        · next u r2 e2 =>
          rw [e2] at h1
          obtain ⟨g1, g2, g3⟩ := h
          obtain ⟨q1, q2, q3⟩ := h1
          exact gz_prodL hS hO n _ r2 (gk_mk (.inr (.inr (.inr (.inr (.inr (.inl ⟨rfl, rfl, rfl, rfl, g1, q1⟩)))))) (Nat.le_refl 2) (Nat.max_le.2 ⟨g2, q2⟩) (by
            show (wr (lev t) 2 (tx t) ++ 42 :: wr (lev u) 1 (tx u)).length + _ ≤ _
            rw [List.length_append, List.length_cons]; omega))
      · split
        · split
          · trivial
          · next d r2 e2 =>
            have q3 := dtx_sp e2
            obtain ⟨g1, g2, g3⟩ := h
            exact gz_prodL hS hO n _ r2 (gk_mk (.inr (.inr (.inr (.inr (.inl ⟨rfl, by rw [nv_toL], rfl, rfl, g1, rfl⟩))))) (Nat.le_refl 2) g2 (by
              show (wr (lev t) 2 (tx t) ++ 47 :: dtx (toL (dv d))).length + _ ≤ _
              rw [List.length_append, List.length_cons]; omega))
        · exact Gk.up h (by omega) (by rw [List.length_cons]; omega)
theorem gz_prodS (hS : ∀ l, ShS l (S l)) (hO : can = true → 1 ≤ k ∧ ∀ l : Tx, Gz 3 (k - 1) l.length (S l)) (l : Tx) : Gz 2 k l.length (prodS S can l) := by
  have h1 := gz_pow hS hO l
  unfold prodS
  split
  · trivial
  · next t r e =>
    rw [e] at h1
    exact gz_prodL hS hO _ _ r (Gk.up h1 (by omega) (by omega))
theorem gz_sumL (hS : ∀ l, ShS l (S l)) (hO : can = true → 1 ≤ k ∧ ∀ l : Tx, Gz 3 (k - 1) l.length (S l)) {L : Nat} : ∀ (n : Nat) (t : Tr) (l : Tx), Gk 3 k L t l → Gz 3 k L (sumL S can n t l)
  | 0, t, l, h => h
  | n + 1, t, l, h => by
    have h0 := (skp_suf l).length_le
    unfold sumL
    split
    · exact Gk.up h (by omega) (by simp)
    · next c r e =>
      rw [e, List.length_cons] at h0
      split
      · next hop =>
        have h1 := gz_prodS hS hO r
        split
        · trivial
        · next u r2 e2 =>
          rw [e2] at h1
          obtain ⟨g1, g2, g3⟩ := h
          obtain ⟨q1, q2, q3⟩ := h1
          refine gz_sumL hS hO n _ r2 (gk_mk (.inr (.inr (.inr (.inr (.inr (.inr ⟨hop, rfl, rfl, rfl, g1, q1⟩)))))) (lev_le _) ?_ ?_)
          · rcases hop with rfl | rfl <;> exact Nat.max_le.2 ⟨g2, q2⟩
          · have : tx (.mk c [] 0 0 t u) = wr (lev t) 3 (tx t) ++ c :: wr (lev u) 2 (tx u) := by rcases hop with rfl | rfl <;> rfl
            rw [this, List.length_append, List.length_cons]; omega
      · exact Gk.up h (by omega) (by rw [List.length_cons]; omega)
theorem gz_sumS (hS : ∀ l, ShS l (S l)) (hO : can = true → 1 ≤ k ∧ ∀ l : Tx, Gz 3 (k - 1) l.length (S l)) (l : Tx) : Gz 3 k l.length (sumS S can l) := by
  have h0 := (skp_suf l).length_le
  unfold sumS
  split
  · next e =>
    have hsh := sh_prodS (can := can) (fun _ => hS) []
    split
    · trivial
    · next t r e2 =>
      rw [e2] at hsh
      have := hsh.2
      simp at this
  · next c r e =>
    rw [e, List.length_cons] at h0
    split
    · have h1 := gz_prodS hS hO r
      split
      · trivial
      · next t r2 e2 =>
        rw [e2] at h1
        obtain ⟨q1, q2, q3⟩ := h1
        exact gz_sumL hS hO _ _ r2 (gk_mk (.inr (.inr (.inl ⟨rfl, rfl, rfl, rfl, q1, rfl⟩))) (Nat.le_refl 3) q2 (by
          show (45 :: wr (lev t) 2 (tx t)).length + _ ≤ _
          rw [List.length_cons]; omega))
    · have h1 := gz_prodS hS hO (c :: r)
      split
      · trivial
      · next t r2 e2 =>
        rw [e2] at h1
        exact gz_sumL hS hO _ _ r2 (Gk.up h1 (by omega) (by rw [List.length_cons]; omega))
end
theorem gz_sumD : ∀ (k : Nat) (l : Tx), Gz 3 k l.length (sumD k l)
  | 0, l => gz_sumS (k := 0) (S := fun _ => .inl []) (can := false) (fun l => (List.nil_suffix : [] <:+ l)) (fun h => (by cases h)) l
  | k + 1, l => gz_sumS (k := k + 1) (sh_sumD k) (fun _ => ⟨by omega, gz_sumD k⟩) l
theorem parse_gt {s : Tx} {a : Int} {t : Tr} {x e : Int} (h : parseS s a = (t, x, e)) : (e = 0 ∧ x = (s.length : Int) ∧ Gt t ∧ br t ≤ 100 ∧ (tx t).length ≤ s.length ∧ s.length ≤ 4096) ∨
    (e ≠ 0 ∧ t = .nil ∧ 0 ≤ x ∧ x ≤ (s.length : Int) ∧ x ≤ 4096) := by
  unfold parseS at h
  split at h
  · cases h; exact .inr ⟨by decide, rfl, by omega, by omega, by omega⟩
  · split at h
    · cases h; exact .inr ⟨by decide, rfl, by omega, by omega, by omega⟩
    · split at h
      · cases h; exact .inr ⟨by decide, rfl, by omega, by omega, by omega⟩
      · have hg := gz_sumD a.toNat s
        split at h
        · cases h; exact .inr ⟨by decide, rfl, by omega, by omega, by omega⟩
        · next u r e2 =>
          rw [e2] at hg
          split at h
          · cases h
            obtain ⟨g1, g2, g3⟩ := hg
            unfold bw at g2
            rw [if_pos (lev_le _)] at g2
            rw [wr_len, if_pos (lev_le _)] at g3
            exact .inl ⟨rfl, rfl, g1, by omega, by omega, by omega⟩
          · cases h; exact .inr ⟨by decide, rfl, by omega, by omega, by omega⟩
theorem parse_tx {t : Tr} (h : Gt t) (hb : br t ≤ 100) (hl : (tx t).length ≤ 4096) : parseS (tx t) 100 = (t, ((tx t).length : Int), 0) := by
  have h1 := (gt_qt t h 100 hb).2.2.2 [] (.inl rfl)
  rw [List.append_nil, sumL_stop (fun c k e => by cases e) rfl, ← sumD_k] at h1
  unfold parseS
  rw [if_neg (by decide), if_neg (by decide), if_neg (by omega)]
  have h2 : sumD (Int.toNat 100) (tx t) = .inr (t, []) := h1
  rw [h2]
  rfl
theorem tx_pos {t : Tr} (h : Gt t) : 0 < (tx t).length := by
  obtain ⟨c, k, e, _⟩ := hd_tx t h
  rw [e]; simp
end
theorem uns_nonneg {x : Int} (h0 : 0 ≤ x) (h : x < 18446744073709551616) : ((uns x : Nat) : Int) = x := by unfold uns; omega
theorem qhat_end {b v1 v0 u w q r : Nat} (hqr : q * v1 + r = u) (h : q * v0 ≤ b * r + w) : q * (v1 * b + v0) ≤ u * b + w := by grind [Nat.mul_add, Nat.mul_assoc, Nat.add_mul, Nat.mul_comm]
theorem qhat_more {b v1 v0 u w q r : Nat} (hqr : q * v1 + r = u) (h : b * r + w < q * v0) : u * b + w < q * (v1 * b + v0) := by grind [Nat.mul_add, Nat.mul_assoc, Nat.add_mul, Nat.mul_comm]
theorem qh_ret {b v1 v0 u w q r : Nat} (hv : 0 < v1 * b + v0) (hqr : q * v1 + r = u) (hge : (u * b + w) / (v1 * b + v0) ≤ q) (h : q * v0 ≤ b * r + w) : q = (u * b + w) / (v1 * b + v0) :=
  Nat.le_antisymm ((Nat.le_div_iff_mul_le hv).2 (qhat_end hqr h)) hge
theorem qh_dec {b v1 v0 u w q r : Nat} (hv : 0 < v1 * b + v0) (hqr : q * v1 + r = u) (h : b * r + w < q * v0) : (u * b + w) / (v1 * b + v0) ≤ q - 1 ∧ 0 < q ∧ (q - 1) * v1 + (r + v1) = u := by
  have h0 : 0 < q := by
    rcases Nat.eq_zero_or_pos q with h0 | h0
    · subst h0; omega
    · exact h0
  have h1 := (Nat.div_lt_iff_lt_mul hv).2 (qhat_more hqr h)
  refine ⟨by omega, h0, ?_⟩
  obtain ⟨p, rfl⟩ : ∃ p, q = p + 1 := ⟨q - 1, by omega⟩
  rw [Nat.add_mul] at hqr
  simp only [Nat.add_sub_cancel]
  omega
theorem qh_top {b v1 v0 u q r : Nat} (hu : u < v1 * b + v0) (hv0 : v0 < b) (hqr : q * v1 + r = u) (hr : b ≤ r) : q < b := by
  refine Nat.lt_of_not_le fun h => ?_
  have : b * v1 ≤ q * v1 := Nat.mul_le_mul_right _ h
  rw [Nat.mul_comm b] at this
  omega
theorem qh_big {b v0 q r w : Nat} (hq : q < b) (hv0 : v0 < b) (hr : b ≤ r) : q * v0 ≤ b * r + w := by
  have h1 : q * v0 ≤ b * b := Nat.mul_le_mul (Nat.le_of_lt hq) (Nat.le_of_lt hv0)
  have h2 : b * b ≤ b * r := Nat.mul_le_mul_left _ hr
  omega
theorem div_digit_lt {b v1 v0 u w : Nat} (hu : u < v1 * b + v0) (hw : w < b) : (u * b + w) / (v1 * b + v0) < b := by
  have hv : 0 < v1 * b + v0 := by omega
  rw [Nat.div_lt_iff_lt_mul hv]
  have : (u + 1) * b ≤ (v1 * b + v0) * b := Nat.mul_le_mul_right _ hu
  rw [Nat.add_mul] at this
  rw [Nat.mul_comm b]
  omega
theorem div64_loop {β : Type} (mk : Nat → Nat → β) (ms : β → Nat) (hms : ∀ q r, ms (mk q r) = 2 - r / 2147483648) {f : (β → Option Nat) → β → Option Nat} {fu v1 v0 u w : Nat} (h1 : 2147483648 ≤ v1) (h2 : v1 < 4294967296) (h0 : v0 < 4294967296) (hu : u < v1 * 4294967296 + v0) (hw : w < 4294967296) (hf : 10 < fu)
    (hstep : ∀ (q r : Nat) (L : β → Option Nat), q < 18446744073709551616 → r < 4294967296 → q * v0 < 18446744073709551616 ∨ 4294967296 ≤ q →
      f L (mk q r) = if 4294967296 ≤ q then (if 4294967296 ≤ r + v1 then some (q - 1) else L (mk (q - 1) (r + v1))) else if 4294967296 * r + w < q * v0 then (if 4294967296 ≤ r + v1 then some (q - 1) else L (mk (q - 1) (r + v1))) else some q) :
    loopN f fu (mk (u / v1) (u % v1)) = some ((u * 4294967296 + w) / (v1 * 4294967296 + v0)) := by
  have hv : 0 < v1 * 4294967296 + v0 := by omega
  have hQ := div_digit_lt hu hw
  have hqb : u / v1 < 18446744073709551616 := by
    rw [Nat.div_lt_iff_lt_mul (by omega)]
    have : v1 * 4294967296 + v0 < 18446744073709551616 * 1 := by omega
    have h3 : 18446744073709551616 * 1 ≤ 18446744073709551616 * v1 := Nat.mul_le_mul_left _ (by omega)
    omega
  refine loop_eq (fun s : β => ∃ q r, s = mk q r ∧ q < 18446744073709551616 ∧ r < 4294967296 ∧ q * v1 + r = u ∧ (u * 4294967296 + w) / (v1 * 4294967296 + v0) ≤ q) ms _ ?_ _ _ ⟨_, _, rfl, hqb, ?_, ?_, ?_⟩ (by rw [hms]; omega)
  · rintro s L ⟨q, r, rfl, hq, hr, hqr, hge⟩ ih
    have hqv : q * v0 < 18446744073709551616 ∨ 4294967296 ≤ q := by
      rcases Nat.lt_or_ge q 4294967296 with h | h
      · left; exact Nat.mul_lt_mul'' (a := q) (b := v0) (c := 4294967296) (d := 4294967296) h h0
      · exact .inr h
    rw [hstep q r L hq hr hqv]
    by_cases hb : 4294967296 ≤ q
    · rw [if_pos hb]
      have hdec : (q - 1) * v1 + (r + v1) = u := by
        obtain ⟨p, rfl⟩ : ∃ p, q = p + 1 := ⟨q - 1, by omega⟩
        rw [Nat.add_mul] at hqr
        simp only [Nat.add_sub_cancel]
        omega
      by_cases hr2 : 4294967296 ≤ r + v1
      · rw [if_pos hr2, ← qh_ret hv hdec (by omega) (qh_big (qh_top hu h0 hdec hr2) h0 hr2)]
      · rw [if_neg hr2]
        exact ih _ ⟨_, _, rfl, by omega, by omega, hdec, by omega⟩ (by rw [hms, hms]; omega)
    · rw [if_neg hb]
      by_cases ht : 4294967296 * r + w < q * v0
      · obtain ⟨d1, d2, d3⟩ := qh_dec hv hqr ht
        rw [if_pos ht]
        by_cases hr2 : 4294967296 ≤ r + v1
        · rw [if_pos hr2, ← qh_ret hv d3 d1 (qh_big (qh_top hu h0 d3 hr2) h0 hr2)]
        · rw [if_neg hr2]
          exact ih _ ⟨_, _, rfl, by omega, by omega, d3, d1⟩ (by rw [hms, hms]; omega)
      · rw [if_neg ht, ← qh_ret hv hqr hge (by omega)]
  · have := Nat.mod_lt u (show 0 < v1 by omega)
    omega
  · rw [Nat.mul_comm]; exact Nat.div_add_mod u v1
  · rw [Nat.le_div_iff_mul_le (by omega)]
    have h3 : (u * 4294967296 + w) / (v1 * 4294967296 + v0) * (v1 * 4294967296 + v0) ≤ u * 4294967296 + w := Nat.div_mul_le_self _ _
    generalize (u * 4294967296 + w) / (v1 * 4294967296 + v0) = Q at *
    rw [Nat.mul_add, ← Nat.mul_assoc] at h3
    generalize Q * v1 = A at *
    omega
theorem two_or {x y s : Nat} (h : y < 2 ^ s) : x * 2 ^ s ||| y = x * 2 ^ s + y := by grind [Nat.mul_comm, Nat.two_pow_add_eq_or_of_lt]
theorem norm_div {y : Nat} (h0 : 0 < y) (h : y < 18446744073709551616) : bl y ≤ 64 ∧ 9223372036854775808 ≤ y * 2 ^ (64 - bl y) ∧ y * 2 ^ (64 - bl y) < 18446744073709551616 := by
  have h1 : bl y ≤ 64 := bl_le (k := 64) (by simpa using h)
  have h2 := lt_bl y
  refine ⟨h1, ?_, ?_⟩
  · have hp : 1 ≤ bl y := by rw [bl_pos h0]; omega
    have hge : 2 ^ (bl y - 1) ≤ y := by
      refine Nat.le_of_not_lt fun hlt => ?_
      have := bl_le hlt
      omega
    have e : (9223372036854775808 : Nat) = 2 ^ (bl y - 1) * 2 ^ (64 - bl y) := by rw [← Nat.pow_add, show bl y - 1 + (64 - bl y) = 63 by omega]
    rw [e]
    exact Nat.mul_le_mul_right _ hge
  · have e : (18446744073709551616 : Nat) = 2 ^ bl y * 2 ^ (64 - bl y) := by rw [← Nat.pow_add, show bl y + (64 - bl y) = 64 by omega]
    rw [e]
    exact Nat.mul_lt_mul_of_pos_right h2 (Nat.pow_pos (by decide))
theorem words_up {lo s : Nat} (hlo : lo < 18446744073709551616) (hs : s ≤ 64) : lo * 2 ^ s = lo / 2 ^ (64 - s) * 18446744073709551616 + lo * 2 ^ s % 18446744073709551616 ∧ lo / 2 ^ (64 - s) < 2 ^ s := by
  have e : (18446744073709551616 : Nat) = 2 ^ (64 - s) * 2 ^ s := by rw [← Nat.pow_add, show 64 - s + s = 64 by omega]
  have hp : 0 < 2 ^ s := Nat.pow_pos (by decide)
  have e2 : lo * 2 ^ s / 18446744073709551616 = lo / 2 ^ (64 - s) := by
    rw [e, Nat.mul_div_mul_right _ _ hp]
  have h := Nat.div_add_mod (lo * 2 ^ s) 18446744073709551616
  rw [e2] at h
  refine ⟨by omega, ?_⟩
  rw [Nat.div_lt_iff_lt_mul (Nat.pow_pos (by decide)), Nat.mul_comm, ← e]
  exact hlo
theorem two_digits {x b y w1 w0 : Nat} (hy : 0 < y) (hb : 0 < b) (hw0 : w0 < b) : ((x * b + w1) * b + w0) / y = (x * b + w1) / y * b + ((x * b + w1) % y * b + w0) / y ∧ ((x * b + w1) * b + w0) % y = ((x * b + w1) % y * b + w0) % y := by
  generalize x * b + w1 = X
  have h := Nat.div_add_mod X y
  have e : X * b + w0 = X % y * b + w0 + y * (X / y * b) := by
    conv => lhs; rw [← h]
    rw [Nat.add_mul, Nat.mul_assoc]; omega
  rw [e]
  constructor
  · rw [Nat.add_mul_div_left _ _ hy]; omega
  · rw [Nat.add_mul_mod_self_left]
theorem fin64 {a b : Nat} (ha : a < 4294967296) (hb : b < 4294967296) : (a * 4294967296 % 18446744073709551616 + b) % 18446744073709551616 = a * 4294967296 + b := by omega
theorem M_math_bits_LeadingZeros64_eq {fu x : Nat} (hx : x < 18446744073709551616) : M_math_bits_LeadingZeros64 fu x = some ((64 - bl x : Nat) : Int) := by
  unfold M_math_bits_LeadingZeros64
  have h : bl x ≤ 64 := bl_le (k := 64) (by simpa using hx)
  rw [bd_t (M_math_bits_Len64_eq hx), ck64_t ⟨by omega, by omega⟩]
  congr 1
  omega
theorem M_math_bits_Div64_eq {fu hi lo y : Nat} (hlo : lo < 18446744073709551616) (hy : y < 18446744073709551616) (hh : hi < y) (hf : 10 < fu) :
    M_math_bits_Div64 fu hi lo y = some ((hi * 18446744073709551616 + lo) / y, (hi * 18446744073709551616 + lo) % y) := by
  unfold M_math_bits_Div64
  rw [if_neg (by omega), if_neg (by omega)]
  by_cases h0 : hi = 0
  · subst h0
    rw [if_pos rfl, ck_t (by omega), nm_t, ck_t (by omega), nm_t, Nat.zero_mul, Nat.zero_add]
  · rw [if_neg (by omega), bd_t (M_math_bits_LeadingZeros64_eq hy)]
    obtain ⟨n1, n2, n3⟩ := norm_div (y := y) (by omega) hy
    obtain ⟨s, hs⟩ : ∃ s, s = 64 - bl y := ⟨_, rfl⟩
    rw [← hs] at n2 n3 ⊢
    have hs64 : s ≤ 64 := by omega
    have eu : uns (s : Int) = s := by have := uns_nonneg (x := (s : Int)) (by omega) (by omega); omega
    have em : min ((s : Nat) : Int).toNat 64 = s := by omega
    have e8 : (64 + 18446744073709551616 - s) % 18446744073709551616 = 64 - s := by omega
    have em2 : min (((64 - s : Nat) : Nat) : Int).toNat 64 = 64 - s := by omega
    obtain ⟨Y, hY⟩ : ∃ Y, Y = y * 2 ^ s := ⟨_, rfl⟩
    rw [← hY] at n2 n3
    obtain ⟨w1, w2⟩ := words_up hlo hs64
    have hp : 0 < 2 ^ s := Nat.pow_pos (by decide)
    have hhs : hi * 2 ^ s + 2 ^ s ≤ Y := by
      have : (hi + 1) * 2 ^ s ≤ y * 2 ^ s := Nat.mul_le_mul_right _ hh
      rw [Nat.add_mul, Nat.one_mul] at this
      rw [hY]; exact this
    simp only [nm, eu, em, e8, em2, and32, min32]
    rw [← hY, Nat.mod_eq_of_lt n3, Nat.mod_eq_of_lt (show hi * 2 ^ s < 18446744073709551616 by omega), two_or w2]
    obtain ⟨u, hu⟩ : ∃ u, u = hi * 2 ^ s + lo / 2 ^ (64 - s) := ⟨_, rfl⟩
    obtain ⟨t, ht⟩ : ∃ t, t = lo * 2 ^ s % 18446744073709551616 := ⟨_, rfl⟩
    have ht64 : t < 18446744073709551616 := by rw [ht]; exact Nat.mod_lt _ (by decide)
    rw [← hu, ← ht]
    have huY : u < Y := by omega
    have hUs : (hi * 18446744073709551616 + lo) * 2 ^ s = u * 18446744073709551616 + t := by
      rw [Nat.add_mul, w1, hu, ← ht, Nat.add_mul, Nat.mul_right_comm]
      omega
    have hYs : Y = Y / 4294967296 * 4294967296 + Y % 4294967296 := by omega
    have a1 : 2147483648 ≤ Y / 4294967296 := by omega
    have a2 : Y / 4294967296 < 4294967296 := by omega
    have a0 : Y % 4294967296 < 4294967296 := by omega
    have step : ∀ {u w : Nat}, u < Y → w < 4294967296 → (u * 4294967296 + w) / (Y / 4294967296 * 4294967296 + Y % 4294967296) = (u * 4294967296 + w) / Y := by intro u w _ _; rw [← hYs]
    have ew : Y / 2 ^ 32 = Y / 4294967296 := rfl
    have et : t / 2 ^ 32 = t / 4294967296 := rfl
    rw [ew, et, ck_t (by omega)]
    have m15 : ∀ {u : Nat}, u < Y → (u + 18446744073709551616 - u / (Y / 4294967296) * (Y / 4294967296) % 18446744073709551616) % 18446744073709551616 = u % (Y / 4294967296) := by
      intro u hu
      have h1 := Nat.div_add_mod u (Y / 4294967296)
      rw [Nat.mul_comm] at h1
      have h2 : u / (Y / 4294967296) * (Y / 4294967296) ≤ u := by omega
      rw [Nat.mod_eq_of_lt (show u / (Y / 4294967296) * (Y / 4294967296) < 18446744073709551616 by omega)]
      omega
    have body : ∀ {q r w : Nat}, q < 18446744073709551616 → r < 4294967296 → w < 4294967296 → (q * (Y % 4294967296) < 18446744073709551616 ∨ 4294967296 ≤ q) → ∀ (A B C : Option Nat), (4294967296 ≤ r + Y / 4294967296 → A = some (q - 1)) → (¬ 4294967296 ≤ r + Y / 4294967296 → A = B) → C = some q →
        (if ((4294967296 : Nat) : Int) ≤ (q : Int) then A else if (((4294967296 * r % 18446744073709551616 + w) % 18446744073709551616 : Nat) : Int) < ((q * (Y % 4294967296) % 18446744073709551616 : Nat) : Int) then A else C) =
        if 4294967296 ≤ q then (if 4294967296 ≤ r + Y / 4294967296 then some (q - 1) else B) else if 4294967296 * r + w < q * (Y % 4294967296) then (if 4294967296 ≤ r + Y / 4294967296 then some (q - 1) else B) else some q := by
      intro q r w hq hr hw hqv A B C h1 h2 h3
      have hA : A = if 4294967296 ≤ r + Y / 4294967296 then some (q - 1) else B := by
        split
        · next h => exact h1 h
        · next h => exact h2 h
      rw [← hA, h3]
      by_cases hb : 4294967296 ≤ q
      · rw [if_pos (by omega), if_pos hb]
      · have e3 : (q * (Y % 4294967296)) % 18446744073709551616 = q * (Y % 4294967296) := Nat.mod_eq_of_lt (hqv.resolve_right hb)
        have e4 : (4294967296 * r % 18446744073709551616 + w) % 18446744073709551616 = 4294967296 * r + w := by omega
        rw [if_neg (by omega), if_neg hb, e3, e4]
        by_cases h4 : 4294967296 * r + w < q * (Y % 4294967296)
        · rw [if_pos (by omega), if_pos h4]
        · rw [if_neg (by omega), if_neg h4]
    have L0 : loopN (B_math_bits_Div64_0 fu (Y / 4294967296) (Y % 4294967296) (t / 4294967296)) fu (u / (Y / 4294967296), u % (Y / 4294967296)) = some ((u * 4294967296 + t / 4294967296) / Y) := by
      rw [← step huY (by omega : t / 4294967296 < 4294967296)]
      refine div64_loop (fun q r => (q, r)) (fun s => 2 - s.2 / 2147483648) (fun _ _ => rfl) (w := t / 4294967296) a1 a2 a0 (by rw [← hYs]; exact huY) (by omega) hf ?_
      intro q r L hq hr hqv
      have e1 : (r + Y / 4294967296) % 18446744073709551616 = r + Y / 4294967296 := by omega
      by_cases hq0 : q = 0
      · subst hq0
        unfold B_math_bits_Div64_0
        simp only [nm, Nat.zero_mul, Nat.zero_mod]
        rw [if_neg (by omega), if_neg (by omega), if_neg (by omega), if_neg (by omega)]
      have e2 : (q + 18446744073709551616 - 1) % 18446744073709551616 = q - 1 := by omega
      refine Eq.trans ?_ (body hq hr (by omega) hqv (if 4294967296 ≤ r + Y / 4294967296 then some (q - 1) else L (q - 1, r + Y / 4294967296)) _ _ (fun h => if_pos h) (fun h => if_neg h) rfl)
      unfold B_math_bits_Div64_0
      simp only [nm, e1, e2]
      have e5 : ∀ (X : Option Nat), (if ((4294967296 : Nat) : Int) ≤ ((r + Y / 4294967296 : Nat) : Int) then some (q - 1) else X) = if 4294967296 ≤ r + Y / 4294967296 then some (q - 1) else X := by
        intro X
        by_cases h : 4294967296 ≤ r + Y / 4294967296
        · rw [if_pos (by omega), if_pos h]
        · rw [if_neg (by omega), if_neg h]
      rw [e5]
    have rem : ∀ {x q : Nat}, x / Y = q → ∀ {m : Nat}, m = x % 18446744073709551616 → (m + 18446744073709551616 - q * Y % 18446744073709551616) % 18446744073709551616 = x % Y := by
      intro x q hq m hm
      have h1 := Nat.div_add_mod x Y
      rw [hq, Nat.mul_comm] at h1
      have h2 := Nat.mod_lt x (show 0 < Y by omega)
      omega
    rw [m15 huY, bd_t L0, rem rfl (x := u * 4294967296 + t / 4294967296) (by omega)]
    obtain ⟨u2, hu2⟩ : ∃ u2, u2 = (u * 4294967296 + t / 4294967296) % Y := ⟨_, rfl⟩
    have hu2Y : u2 < Y := by rw [hu2]; exact Nat.mod_lt _ (by omega)
    rw [← hu2, ck_t (by omega), m15 hu2Y]
    have L1 : loopN (B_math_bits_Div64_1 fu (Y / 4294967296) (Y % 4294967296) (t % 4294967296)) fu (u2 % (Y / 4294967296), u2 / (Y / 4294967296)) = some ((u2 * 4294967296 + t % 4294967296) / Y) := by
      rw [← step hu2Y (by omega : t % 4294967296 < 4294967296)]
      refine div64_loop (fun q r => (r, q)) (fun s => 2 - s.1 / 2147483648) (fun _ _ => rfl) (w := t % 4294967296) a1 a2 a0 (by rw [← hYs]; exact hu2Y) (by omega) hf ?_
      intro q r L hq hr hqv
      have e1 : (r + Y / 4294967296) % 18446744073709551616 = r + Y / 4294967296 := by omega
      by_cases hq0 : q = 0
      · subst hq0
        unfold B_math_bits_Div64_1
        simp only [nm, Nat.zero_mul, Nat.zero_mod]
        rw [if_neg (by omega), if_neg (by omega), if_neg (by omega), if_neg (by omega)]
      have e2 : (q + 18446744073709551616 - 1) % 18446744073709551616 = q - 1 := by omega
      refine Eq.trans ?_ (body hq hr (by omega) hqv (if 4294967296 ≤ r + Y / 4294967296 then some (q - 1) else L (r + Y / 4294967296, q - 1)) _ _ (fun h => if_pos h) (fun h => if_neg h) rfl)
      unfold B_math_bits_Div64_1
      simp only [nm, e1, e2]
      have e5 : ∀ (X : Option Nat), (if ((4294967296 : Nat) : Int) ≤ ((r + Y / 4294967296 : Nat) : Int) then some (q - 1) else X) = if 4294967296 ≤ r + Y / 4294967296 then some (q - 1) else X := by
        intro X
        by_cases h : 4294967296 ≤ r + Y / 4294967296
        · rw [if_pos (by omega), if_pos h]
        · rw [if_neg (by omega), if_neg h]
      rw [e5]
    rw [bd_t L1, rem rfl (x := u2 * 4294967296 + t % 4294967296) (by omega)]
    have hq1 := div_digit_lt (b := 4294967296) (v1 := Y / 4294967296) (v0 := Y % 4294967296) (u := u) (w := t / 4294967296) (by rw [← hYs]; exact huY) (by omega)
    rw [step huY (by omega)] at hq1
    have hq0 := div_digit_lt (b := 4294967296) (v1 := Y / 4294967296) (v0 := Y % 4294967296) (u := u2) (w := t % 4294967296) (by rw [← hYs]; exact hu2Y) (by omega)
    rw [step hu2Y (by omega)] at hq0
    obtain ⟨k1, k2⟩ := two_digits (x := u) (b := 4294967296) (y := Y) (w1 := t / 4294967296) (w0 := t % 4294967296) (by omega) (by decide) (by omega)
    rw [← hu2] at k1 k2
    have eU : (u * 4294967296 + t / 4294967296) * 4294967296 + t % 4294967296 = (hi * 18446744073709551616 + lo) * 2 ^ s := by rw [hUs]; omega
    rw [eU, hY, Nat.mul_div_mul_right _ _ hp, ← hY] at k1
    rw [eU, hY, Nat.mul_mod_mul_right, ← hY] at k2
    rw [k1, ← k2, Nat.mul_div_cancel _ hp]
    rw [fin64 hq1 hq0]
theorem set_rep {m x : Nat} {l : List Nat} : (List.replicate (m + 1) 0 ++ l).set m x = List.replicate m 0 ++ (x :: l) := by
  rw [List.replicate_succ', List.append_assoc]
  rw [List.set_append_right _ _ (by simp)]
  simp
theorem digs_succ (k n : Nat) : digs (k + 1) n = n % 18446744073709551616 :: digs k (n / 18446744073709551616) := rfl
theorem pair_mod {q r : Nat} (h : r < 18446744073709551616) : (q * 18446744073709551616 + r) % 18446744073709551616 = r ∧ (q * 18446744073709551616 + r) / 18446744073709551616 = q := by omega
theorem step_down (A m : Nat) : A / 18446744073709551616 ^ m = A / 18446744073709551616 ^ (m + 1) * 18446744073709551616 + A / 18446744073709551616 ^ m % 18446744073709551616 := by grind [div_step]
theorem M_nat_short_eq {fu : Nat} {a : List Nat} {x : Nat} (ha : Limbs a) (hx : x < 18446744073709551616) (h0 : 0 < x) (hl : a.length ≤ 1000000) (hf : 2000000 < fu) : M_nat_short fu a x = some (toL (nv a / x), nv a % x) := by
  unfold M_nat_short
  rw [ckN_n, ck_t (by omega), nm_t, ck64_t ⟨by omega, by omega⟩]
  have hA := nv_lt ha
  have key : loopN (B_nat_short_0 fu a x) fu (0, ((a.length : Nat) : Int) - 1, List.replicate a.length 0) = some (nv a % x, digs a.length (nv a / x)) := by
    refine loop_eq (fun s : Nat × Int × List Nat => ∃ m : Nat, m ≤ a.length ∧ s = (nv a / 18446744073709551616 ^ m % x, (m : Int) - 1, List.replicate m 0 ++ digs (a.length - m) (nv a / 18446744073709551616 ^ m / x))) (fun s => (s.2.1 + 1).toNat) _ ?_ _ _ ⟨a.length, Nat.le_refl _, ?_⟩ (by show (((a.length : Nat) : Int) - 1 + 1).toNat < fu; omega)
    · rintro s L ⟨m, hm, rfl⟩ ih
      unfold B_nat_short_0
      simp only []
      cases m with
      | zero =>
        rw [if_neg (by omega), Nat.pow_zero, Nat.div_one]
        simp
      | succ m =>
        have e : ((m + 1 : Nat) : Int) - 1 = (m : Int) := by omega
        have ha2 := ha.getD m
        have hd : nv a / 18446744073709551616 ^ (m + 1) % x < x := Nat.mod_lt _ h0
        have hy : a.getD m 0 = nv a / 18446744073709551616 ^ m % 18446744073709551616 := getD_nv ha m
        have hs := step_down (nv a) m
        rw [← hy] at hs
        rw [if_pos (by omega), e, ckI_n (by omega), nm_t, bd_t (M_math_bits_Div64_eq ha2 hx hd (by omega))]
        obtain ⟨k1, k2⟩ := two_digits (x := 0) (b := 18446744073709551616) (y := x) (w1 := nv a / 18446744073709551616 ^ (m + 1)) (w0 := a.getD m 0) h0 (by decide) ha2
        rw [Nat.zero_mul, Nat.zero_add, ← hs] at k1 k2
        rw [ckI_n (by simp; omega), nm_t, ck64_t ⟨by omega, by omega⟩, set_rep, ← k2]
        refine ih _ ⟨m, by omega, ?_⟩ (by show ((m : Int) - 1 + 1).toNat < (((m + 1 : Nat) : Int) - 1 + 1).toNat; omega)
        have hq : (nv a / 18446744073709551616 ^ (m + 1) % x * 18446744073709551616 + a.getD m 0) / x < 18446744073709551616 := by
          rw [Nat.div_lt_iff_lt_mul h0]
          have : (nv a / 18446744073709551616 ^ (m + 1) % x + 1) * 18446744073709551616 ≤ x * 18446744073709551616 := Nat.mul_le_mul_right _ hd
          rw [Nat.mul_comm 18446744073709551616 x]
          omega
        have e2 : a.length - m = (a.length - (m + 1)) + 1 := by omega
        rw [k1, e2, digs_succ]
        congr 3
        rw [(pair_mod hq).1, (pair_mod hq).2]
    · rw [Nat.div_eq_of_lt hA, Nat.zero_div, Nat.zero_mod, Nat.sub_self]
      simp [digs]
  rw [bd_t key]
  have hlt : nv a / x < 18446744073709551616 ^ a.length := Nat.lt_of_le_of_lt (Nat.div_le_self _ _) hA
  simp only []
  rw [bd_t (M_nat_plain_own_eq (digs_limbs _ _) (by rw [digs_length]; omega) (by rw [digs_length]; omega)), nv_digs, Nat.mod_eq_of_lt hlt]
theorem rev_loop {α : Type} {d : α} {f : ((Int × Int × List α) → Option (List α)) → (Int × Int × List α) → Option (List α)}
    (hf : ∀ L i j t, f L (i, j, t) = if i < j then ckI j t.length fun j1 => ckI i t.length fun j2 => ckI i t.length fun j3 => ckI j (t.set j3 (t.getD j1 d)).length fun j4 => ck64 (i + 1) fun x => ck64 (j - 1) fun y => L (x, y, (t.set j3 (t.getD j1 d)).set j4 (t.getD j2 d)) else some t)
    {t : List α} {n : Nat} (hl : t.length ≤ 1000000) (hn : t.length < n) : loopN f n (0, (t.length : Int) - 1, t) = some t.reverse := by
  refine loop_eq (fun s => ∃ i j : Nat, s.1 = (i : Int) ∧ s.2.1 = (j : Int) - 1 ∧ i + j = t.length ∧ s.2.2.length = t.length ∧ ∀ k, k < t.length → s.2.2[k]? = if k < i ∨ j ≤ k then t[t.length - 1 - k]? else t[k]?) (fun s => (s.2.1 - s.1 + 1).toNat) _ ?_ n _ ⟨0, t.length, rfl, rfl, by omega, rfl, fun k hk => by rw [if_neg (by omega)]⟩ (by show ((t.length : Int) - 1 - 0 + 1).toNat < n; omega)
  rintro ⟨a, b, s⟩ L ⟨i, j, h1, h2, h3, h4, h5⟩ ih
  simp only at h1 h2 h4 h5
  subst h1 h2
  rw [hf]
  by_cases hij : (i : Int) < (j : Int) - 1
  · obtain ⟨j, rfl⟩ : ∃ q, j = q + 1 := ⟨j - 1, by omega⟩
    have e1 : ((j + 1 : Nat) : Int) - 1 = (j : Int) := by omega
    rw [if_pos hij, e1, ckI_n (by omega), ckI_n (by omega), ckI_n (by omega), ckI_n (by rw [List.length_set]; omega), ck64_t ⟨by omega, by omega⟩, ck64_t ⟨by omega, by omega⟩]
    refine ih _ ⟨i + 1, j, by show (i : Int) + 1 = _; omega, rfl, by omega, by simp [h4], fun k hk => ?_⟩ (by show ((j : Int) - 1 - ((i : Int) + 1) + 1).toNat < (((j + 1 : Nat) : Int) - 1 - (i : Int) + 1).toNat; omega)
    have gi := h5 i (by omega)
    have gj := h5 j (by omega)
    rw [if_neg (by omega)] at gi gj
    have ei : s.getD i d = t[i] := by rw [List.getD_eq_getElem?_getD, gi, List.getElem?_eq_getElem (by omega)]; rfl
    have ej : s.getD j d = t[j] := by rw [List.getD_eq_getElem?_getD, gj, List.getElem?_eq_getElem (by omega)]; rfl
    simp only [List.getElem?_set, List.length_set, h4, ei, ej]
    by_cases hkj : j = k
    · subst hkj
      rw [if_pos rfl, if_pos (by omega), if_pos (by omega), List.getElem?_eq_getElem (by omega)]
      have : t.length - 1 - j = i := by omega
      simp only [this]
    · rw [if_neg hkj]
      by_cases hki : i = k
      · subst hki
        rw [if_pos rfl, if_pos (by omega), if_pos (by omega), List.getElem?_eq_getElem (by omega)]
        have : t.length - 1 - i = j := by omega
        simp only [this]
      · rw [if_neg hki, h5 k hk]
        by_cases hc : k < i ∨ j + 1 ≤ k
        · rw [if_pos hc, if_pos (by omega)]
        · rw [if_neg hc, if_neg (by omega)]
  · rw [if_neg hij]
    congr 1
    refine List.ext_getElem? fun k => ?_
    by_cases hk : k < t.length
    · rw [h5 k hk, List.getElem?_reverse hk]
      by_cases hc : k < i ∨ j ≤ k
      · rw [if_pos hc]
      · rw [if_neg hc]
        have : t.length - 1 - k = k := by omega
        rw [this]
    · rw [List.getElem?_eq_none (by omega), List.getElem?_eq_none (by simp; omega)]
theorem M_slices_Reverse_byte_eq {fu : Nat} {t : List Nat} (hl : t.length ≤ 1000000) (hf : t.length < fu) : M_slices_Reverse_byte_byte_io fu t = some t.reverse := by
  unfold M_slices_Reverse_byte_byte_io
  rw [ck64_t ⟨by omega, by omega⟩, bd_t (rev_loop (d := 0) (fun _ _ _ _ => rfl) hl hf)]
theorem M_slices_Reverse_string_eq {fu : Nat} {t : List (List Nat)} (hl : t.length ≤ 1000000) (hf : t.length < fu) : M_slices_Reverse_string_string_io fu t = some t.reverse := by
  unfold M_slices_Reverse_string_string_io
  rw [ck64_t ⟨by omega, by omega⟩, bd_t (rev_loop (d := []) (fun _ _ _ _ => rfl) hl hf)]
def low : Nat → Nat → Tx
  | 0, _ => []
  | k + 1, r => (48 + r % 10) :: low k (r / 10)
theorem low_len : ∀ k r, (low k r).length = k
  | 0, _ => rfl
  | k + 1, r => by rw [low, List.length_cons, low_len k]
theorem low_mod : ∀ k r, low k (r % 10 ^ k) = low k r
  | 0, _ => rfl
  | k + 1, r => by
    rw [low, low, Nat.pow_succ, Nat.mul_comm, Nat.mod_mul_right_mod, Nat.mod_mul_right_div_self, low_mod k]
def Dd (u : Nat) : Tx := digN (u + 1) u
theorem digN_fuel : ∀ (f g u : Nat), u < 10 ^ (f + 1) → u < 10 ^ (g + 1) → digN (f + 1) u = digN (g + 1) u
  | f, g, u, h, k => by
    unfold digN
    by_cases h1 : u < 10
    · rw [if_pos h1, if_pos h1]
    · rw [if_neg h1, if_neg h1]
      match f, g, h, k with
      | 0, _, h, _ => exact absurd (by simpa using h) h1
      | _ + 1, 0, _, k => exact absurd (by simpa using k) h1
      | f + 1, g + 1, h, k => rw [digN_fuel f g (u / 10) (by rw [Nat.pow_succ] at h; omega) (by rw [Nat.pow_succ] at k; omega)]
theorem Dd_small {u : Nat} (h : u < 10) : Dd u = [48 + u] := by unfold Dd digN; rw [if_pos h]
theorem Dd_step {u : Nat} (h : 10 ≤ u) : Dd u = Dd (u / 10) ++ [48 + u % 10] := by
  obtain ⟨v, rfl⟩ : ∃ v, u = v + 1 := ⟨u - 1, by omega⟩
  have h1 := lt_ten v
  have h2 := lt_ten ((v + 1) / 10)
  have h3 : digN (v + 1) ((v + 1) / 10) = Dd ((v + 1) / 10) := digN_fuel _ _ _ (by omega) h2
  rw [← h3]
  show digN ((v + 1) + 1) (v + 1) = _
  rw [digN, if_neg (by omega)]
theorem Dd_low : ∀ k u, 0 < u / 10 ^ k → Dd u = Dd (u / 10 ^ k) ++ (low k u).reverse
  | 0, u, _ => by simp [low]
  | k + 1, u, h => by
    have e : u / 10 ^ (k + 1) = u / 10 / 10 ^ k := by rw [Nat.div_div_eq_div_mul, Nat.pow_succ, Nat.mul_comm]
    rw [e] at h ⊢
    have h10 : 10 ≤ u := by
      rcases Nat.lt_or_ge u 10 with hu | hu
      · rw [Nat.div_eq_of_lt hu, Nat.zero_div] at h; omega
      · exact hu
    rw [Dd_step h10, Dd_low k (u / 10) h, low, List.reverse_cons, List.append_assoc]
theorem Dd_all : ∀ k u, 10 ^ k ≤ u → u < 10 ^ (k + 1) → Dd u = (low (k + 1) u).reverse
  | 0, u, _, h => by rw [Dd_small (by simpa using h), low, low, Nat.mod_eq_of_lt (by simpa using h)]; rfl
  | k + 1, u, h, g => by
    rw [Nat.pow_succ] at h g
    have : 0 < 10 ^ k := Nat.pow_pos (by decide)
    rw [Dd_step (by omega), Dd_all k (u / 10) (by omega) (by omega)]
    show _ = ((48 + u % 10) :: low (k + 1) (u / 10)).reverse
    rw [List.reverse_cons]
theorem ex_dig : ∀ f d : Nat, 0 < d → d < 10 ^ (f + 1) → ∃ k, k ≤ f ∧ 10 ^ k ≤ d ∧ d < 10 ^ (k + 1)
  | 0, d, h, g => ⟨0, Nat.le_refl _, h, g⟩
  | f + 1, d, h, g => by
    rcases Nat.lt_or_ge d (10 ^ (f + 1)) with h1 | h1
    · obtain ⟨k, h2, h3⟩ := ex_dig f d h h1
      exact ⟨k, by omega, h3⟩
    · exact ⟨f + 1, Nat.le_refl _, h1, g⟩
theorem dig_step (d : Nat) (t : Tx) : (48 + d % 10) % 18446744073709551616 % 256 = 48 + d % 10 := by omega
theorem M_nat_digits_all {fu d : Nat} (h : d < 10 ^ 19) (hf : 100 ≤ fu) : M_nat_digits fu d true = some (low 19 d).reverse := by
  unfold M_nat_digits
  rw [bd_t (v := low 19 d), bd_t (M_slices_Reverse_byte_eq (by rw [low_len]; decide) (by rw [low_len]; omega))]
  refine loop_eq (fun s => ∃ j, s.2.length + j = 19 ∧ s.1 < 10 ^ j ∧ s.2 ++ low j s.1 = low 19 d) (fun s => 19 - s.2.length) _ ?_ fu _ ⟨19, rfl, h, rfl⟩ (by show 19 - 0 < fu; omega)
  rintro ⟨a, s⟩ L ⟨j, h1, h2, h3⟩ ih
  simp only at h1 h2 h3
  have go : 0 < j → s.length < 19 ∧ L (a / 10, s ++ [48 + a % 10]) = some (low 19 d) := fun hj => by
    obtain ⟨j, rfl⟩ : ∃ q, j = q + 1 := ⟨j - 1, by omega⟩
    refine ⟨by omega, ih _ ⟨j, by simp; omega, by rw [Nat.pow_succ] at h2; show a / 10 < _; omega, ?_⟩ (by simp; omega)⟩
    rw [← h3, low]; simp
  unfold B_nat_digits_0
  simp only [nm_t, dig_step a s]
  by_cases ha : 0 < a
  · have hj : 0 < j := by
      rcases Nat.eq_zero_or_pos j with rfl | hj
      · rw [Nat.pow_zero] at h2; omega
      · exact hj
    obtain ⟨g1, g2⟩ := go hj
    rw [if_pos (by omega), ck_t (by decide), ck_t (by simp; omega), ck_t (by decide), g2]
  · rw [if_neg (by omega), if_pos (by trivial)]
    by_cases hs : ((s.length : Nat) : Int) < 19
    · obtain ⟨g1, g2⟩ := go (by omega)
      rw [if_pos hs, ck_t (by decide), ck_t (by simp; omega), ck_t (by decide), g2]
    · rw [if_neg hs]
      obtain rfl : j = 0 := by omega
      rw [← h3, low, List.append_nil]
theorem M_nat_digits_one {fu d : Nat} (h0 : 0 < d) (h : d < 10 ^ 19) (hf : 100 ≤ fu) : M_nat_digits fu d false = some (Dd d) := by
  obtain ⟨k, hk, hk1, hk2⟩ := ex_dig 18 d h0 h
  rw [Dd_all k d hk1 hk2]
  unfold M_nat_digits
  rw [bd_t (v := low (k + 1) d), bd_t (M_slices_Reverse_byte_eq (by rw [low_len]; omega) (by rw [low_len]; omega))]
  refine loop_eq (fun s => ∃ j, s.2.length + j = k + 1 ∧ s.1 < 10 ^ j ∧ (0 < j → 10 ^ (j - 1) ≤ s.1) ∧ s.2 ++ low j s.1 = low (k + 1) d) (fun s => k + 1 - s.2.length) _ ?_ fu _ ⟨k + 1, Nat.zero_add _, hk2, fun _ => hk1, rfl⟩ (by show k + 1 - 0 < fu; omega)
  rintro ⟨a, s⟩ L ⟨j, h1, h2, h4, h3⟩ ih
  simp only at h1 h2 h3 h4
  unfold B_nat_digits_0
  simp only [nm_t, dig_step a s]
  by_cases ha : 0 < a
  · have hj : 0 < j := by
      rcases Nat.eq_zero_or_pos j with rfl | hj
      · rw [Nat.pow_zero] at h2; omega
      · exact hj
    obtain ⟨j, rfl⟩ : ∃ q, j = q + 1 := ⟨j - 1, by omega⟩
    rw [if_pos (by omega), ck_t (by decide), ck_t (by simp; omega), ck_t (by decide)]
    have h4 := h4 hj
    refine ih _ ⟨j, by simp; omega, by rw [Nat.pow_succ] at h2; show a / 10 < _; omega, fun hj => ?_, ?_⟩ (by simp; omega)
    · obtain ⟨j, rfl⟩ : ∃ q, j = q + 1 := ⟨j - 1, by omega⟩
      simp only [Nat.add_sub_cancel, Nat.pow_succ] at h4 ⊢
      show _ ≤ a / 10
      omega
    · rw [← h3, low]; simp
  · rw [if_neg (by omega), if_neg Bool.false_ne_true]
    have hj : j = 0 := by
      rcases Nat.eq_zero_or_pos j with h | h
      · exact h
      · have := h4 h
        have : 0 < 10 ^ (j - 1) := Nat.pow_pos (by decide)
        omega
    subst hj
    rw [← h3, low, List.append_nil]
theorem inter_nil {α : Type} : ∀ l : List (List α), List.intercalate [] l = l.flatten
  | [] => rfl
  | [x] => by simp [List.intercalate]
  | x :: y :: r => by
    have := inter_nil (y :: r)
    simp only [List.intercalate, List.intersperse_cons_cons, List.flatten_cons, List.nil_append] at this ⊢
    rw [this]
theorem div_ten19 {u j : Nat} (h : u < 10 ^ (j + 1)) : u / 10000000000000000000 < 10 ^ j := by
  rw [Nat.pow_succ] at h
  omega
theorem text_loop {fu : Nat} (hf : 3000000 ≤ fu) : ∀ (j u : Nat) (t : List Tx) (n : Nat), u < 10 ^ j → j ≤ 4096 → j < n → t.length + j ≤ 10000 →
    ∃ T, loopN (B_nat_Text_0 fu) n (toL u, t) = some T ∧ T.length ≤ t.length + j ∧ (u = 0 → T = t) ∧ (0 < u → 0 < T.length ∧ T.reverse.flatten = Dd u ++ t.reverse.flatten)
  | j, u, t, 0, _, _, h, _ => absurd h (by omega)
  | j, u, t, n + 1, hu, hj, hn, ht => by
    rw [loopN_t]
    unfold B_nat_Text_0
    simp only []
    rcases Nat.eq_zero_or_pos u with rfl | h0
    · rw [toL_zero, if_neg (by decide)]
      exact ⟨t, rfl, by omega, fun _ => rfl, fun h => absurd h (by decide)⟩
    · have hp := toL_len_pos h0
      obtain ⟨j, rfl⟩ : ∃ q, j = q + 1 := ⟨j - 1, by
        rcases Nat.eq_zero_or_pos j with rfl | h
        · rw [Nat.pow_zero] at hu; omega
        · omega⟩
      have hlen : (toL u).length ≤ j + 1 := (toL_length _ _).2 (Nat.lt_of_lt_of_le hu (Nat.pow_le_pow_left (by decide) _))
      rw [if_pos (by omega), M_nat_short_eq (toL_limbs u) (by decide) (by decide) (by omega) (by omega), nv_toL, z_bd]
      simp only []
      have hr : u % 10000000000000000000 < 10 ^ 19 := Nat.mod_lt _ (by decide)
      have hq := div_ten19 hu
      generalize hqq : u / 10000000000000000000 = q at hq
      have ih := fun t' (h : t'.length = t.length + 1) => text_loop hf j q t' n hq (by omega) (by omega) (by omega)
      rcases Nat.eq_zero_or_pos q with hq0 | hq0
      · rw [hq0, toL_zero, if_neg (by decide)]
        have hs : u % 10000000000000000000 = u := by omega
        rw [hs] at hr ⊢
        rw [M_nat_digits_one h0 hr (by omega), z_bd, ck_t (by simp; omega), nm_t]
        obtain ⟨T, g1, g2, g3, _⟩ := ih (t ++ [Dd u]) (by simp)
        rw [hq0, toL_zero] at g1
        have g3 := g3 hq0
        refine ⟨T, g1, by simp at g2; omega, fun h => by omega, fun _ => ?_⟩
        rw [g3]
        simp
      · rw [if_pos (by have := toL_len_pos hq0; omega), M_nat_digits_all hr (by omega), z_bd, ck_t (by simp; omega), nm_t]
        have e19 : (10000000000000000000 : Nat) = 10 ^ 19 := by decide
        rw [e19, low_mod]
        obtain ⟨T, g1, g2, _, g4⟩ := ih (t ++ [(low 19 u).reverse]) (by simp)
        obtain ⟨g4, g5⟩ := g4 hq0
        refine ⟨T, g1, by simp at g2; omega, fun h => by omega, fun _ => ⟨g4, ?_⟩⟩
        rw [g5, Dd_low 19 u (by rw [← e19, hqq]; exact hq0), ← e19, hqq]
        simp
theorem M_nat_Text_Dd {fu v m : Nat} (hf : 3000000 ≤ fu) (hv : v < 10 ^ m) (hm : m ≤ 4096) : M_nat_Text fu (toL v) = some (Dd v) := by
  unfold M_nat_Text
  have hlen : (toL v).length ≤ m := (toL_length _ _).2 (Nat.lt_of_lt_of_le hv (Nat.pow_le_pow_left (by decide) _))
  obtain ⟨T, g1, g2, g3, g4⟩ := text_loop hf m v [] fu hv hm (by omega) (by simp; omega)
  rw [bd_t (M_nat_plain_eq (toL_limbs v) (by omega) (by omega)), nv_toL, g1, z_bd]
  rcases Nat.eq_zero_or_pos v with rfl | h0
  · rw [g3 rfl, if_pos (by decide)]; rfl
  · obtain ⟨g4, g5⟩ := g4 h0
    simp at g2
    rw [if_neg (by omega), bd_t (M_slices_Reverse_string_eq (by omega) (by omega))]
    have e : List.intercalate [] T.reverse = Dd v := by rw [inter_nil, g5]; simp
    have hd : (Dd v).length ≤ m := by
      obtain ⟨k, rfl⟩ : ∃ q, m = q + 1 := ⟨m - 1, by
        rcases Nat.eq_zero_or_pos m with rfl | h
        · rw [Nat.pow_zero] at hv; omega
        · omega⟩
      exact digN_short _ _ k hv
    unfold M_strings_Join
    rw [ck_t (by simp; omega), e, ck_t (by omega), z_bd]
section
def nd : Tr → Nat
  | .nil => 0
  | .mk _ _ _ _ l r => nd l + nd r + 1
theorem wr_ge (a m : Nat) (x : Tx) : x.length ≤ (wr a m x).length := by rw [wr_len]; omega
theorem nd_tx : ∀ t : Tr, Gt t → nd t ≤ (tx t).length
  | .nil, h => h.elim
  | .mk op m c i l r, h => by
    have hp := tx_pos h
    rcases h with ⟨rfl, rfl, rfl, rfl, rfl, _⟩ | ⟨rfl, rfl, _, rfl, rfl, rfl⟩ | ⟨rfl, rfl, rfl, rfl, hl, rfl⟩ | ⟨rfl, rfl, rfl, _, _, hl, rfl⟩ | ⟨rfl, _, rfl, rfl, hl, rfl⟩ | ⟨rfl, rfl, rfl, rfl, hl, hr⟩ | ⟨hop, rfl, rfl, rfl, hl, hr⟩
    · exact hp
    · exact hp
    · have := nd_tx l hl
      have := wr_ge (lev l) 2 (tx l)
      show nd l + 0 + 1 ≤ (45 :: wr (lev l) 2 (tx l)).length
      rw [List.length_cons]; omega
    · have := nd_tx l hl
      have := wr_ge (lev l) 0 (tx l)
      show nd l + 0 + 1 ≤ (wr (lev l) 0 (tx l) ++ 94 :: itoaE i).length
      rw [List.length_append, List.length_cons]; omega
    · have := nd_tx l hl
      have := wr_ge (lev l) 2 (tx l)
      show nd l + 0 + 1 ≤ (wr (lev l) 2 (tx l) ++ 47 :: dtx m).length
      rw [List.length_append, List.length_cons]; omega
    · have := nd_tx l hl
      have := wr_ge (lev l) 2 (tx l)
      have := nd_tx r hr
      have := wr_ge (lev r) 1 (tx r)
      show nd l + nd r + 1 ≤ (wr (lev l) 2 (tx l) ++ 42 :: wr (lev r) 1 (tx r)).length
      rw [List.length_append, List.length_cons]; omega
    · have := nd_tx l hl
      have := wr_ge (lev l) 3 (tx l)
      have := nd_tx r hr
      have := wr_ge (lev r) 2 (tx r)
      have e : tx (.mk op [] 0 0 l r) = wr (lev l) 3 (tx l) ++ op :: wr (lev r) 2 (tx r) := by rcases hop with rfl | rfl <;> rfl
      rw [e]
      show nd l + nd r + 1 ≤ _
      rw [List.length_append, List.length_cons]; omega
section
variable {fu : Nat} {o : List Nat} {l n : Int} {b x : Tx}
theorem put_ok (h : b.length + x.length ≤ 4096) : M_expr_writer_put_vr fu (o, (l, (n, false))) b x = some ((o, (l, (n, false))), b ++ x) := by
  unfold M_expr_writer_put_vr
  rw [ck_t (by omega), nm_t, if_neg Bool.false_ne_true, if_neg (by rw [List.length_append]; omega), nm_t]
theorem digits_ok {m : List Nat} (hf : 3000000 ≤ fu) (hm : toL (nv m) = m) (h : b.length + (dtx m).length ≤ 4096) : M_expr_writer_digits_vr fu (o, (l, (n, false))) b m = some ((o, (l, (n, false))), b ++ dtx m) := by
  obtain ⟨h1, h2, _⟩ := dtx_ok m
  have h3 := toL_dv_len _ h2
  rw [h1, hm] at h3
  have h4 := dv_lt _ _ rfl h2
  rw [h1] at h4
  have h5 := M_nat_Text_Dd hf h4 (by omega)
  rw [hm] at h5
  unfold M_expr_writer_digits_vr
  rw [if_neg (by omega), h5, z_bd]
  rw [show Dd (nv m) = dtx m from rfl, put_ok h, z_bd]
end
theorem level_ok {fu : Nat} : ∀ t : Tr, Gt t → M_expr_level fu t = some ((lev t : Nat) : Int)
  | .nil, h => h.elim
  | .mk op m c i l r, h => by
    rcases h with ⟨rfl, _⟩ | ⟨rfl, _⟩ | ⟨rfl, _⟩ | ⟨rfl, _⟩ | ⟨rfl, _⟩ | ⟨rfl, _⟩ | ⟨rfl | rfl, _⟩ <;> rfl
def Wk (R : ((List Nat) × (Int × (Int × Bool))) → List Nat → Tr → Option (((List Nat) × (Int × (Int × Bool))) × List Nat)) (t : Tr) : Prop :=
  ∀ (o : List Nat) (l n : Int) (b : Tx), (nd t : Int) ≤ l → l ≤ 4096 → 0 ≤ n → n + (br t : Int) ≤ 100 → b.length + (tx t).length ≤ 4096 →
    R (o, (l, (n, false))) b t = some ((o, (l - (nd t : Int), (n, false))), b ++ tx t)
theorem within_ok {R : ((List Nat) × (Int × (Int × Bool))) → List Nat → Tr → Option (((List Nat) × (Int × (Int × Bool))) × List Nat)} {fu : Nat} {t : Tr} (hg : Gt t) (hR : Wk R t) {m : Nat} {k : Int} (hk : k = (m : Int)) {o : List Nat} {l n : Int} {b : Tx}
    (h1 : (nd t : Int) ≤ l) (h2 : l ≤ 4096) (h3 : 0 ≤ n) (h4 : n + (bw (lev t) m (br t) : Int) ≤ 100) (h5 : b.length + (wr (lev t) m (tx t)).length ≤ 4096) :
    M_expr_writer_within_vr R fu (o, (l, (n, false))) b t k = some ((o, (l - (nd t : Int), (n, false))), b ++ wr (lev t) m (tx t)) := by
  subst hk
  unfold M_expr_writer_within_vr
  unfold bw at h4
  unfold wr at h5 ⊢
  rw [if_neg Bool.false_ne_true, level_ok t hg, z_bd]
  by_cases hm : lev t ≤ m
  · rw [if_pos hm] at h4 h5 ⊢
    rw [if_pos (by omega), hR o l n b h1 h2 h3 h4 h5, z_bd]
  · rw [if_neg hm] at h4 h5 ⊢
    rw [List.length_cons, List.length_append, List.length_singleton] at h5
    simp only []
    rw [if_neg (by omega), ck64_t ⟨by omega, by omega⟩, nm_t]
    simp only [Bool.false_eq_true, if_false]
    rw [if_neg (by omega), nm_t, z_bd]
    simp only []
    rw [put_ok (by simp; omega), z_bd]
    simp only []
    rw [hR o l (n + 1) _ h1 h2 (by omega) (by omega) (by simp; omega), z_bd]
    simp only []
    rw [put_ok (by simp; omega), z_bd]
    simp only []
    rw [ck64_t ⟨by omega, by omega⟩, nm_t]
    simp
theorem last_ne {m : List Nat} (hm : toL (nv m) = m) : m = [] ∨ (0 < m.length ∧ m.getD (m.length - 1) 0 ≠ 0) := by
  rcases Nat.eq_zero_or_pos (nv m) with h | h
  · rw [h, toL_zero] at hm
    exact .inl hm.symm
  · have h1 := toL_last h
    have h2 := toL_len_pos h
    rw [hm] at h1 h2
    exact .inr ⟨h2, h1⟩
theorem dtx_len {m : List Nat} (hm : toL (nv m) = m) : m.length ≤ (dtx m).length := by
  obtain ⟨h1, h2, _⟩ := dtx_ok m
  have h3 := toL_dv_len _ h2
  rwa [h1, hm] at h3
theorem last_ck {m : List Nat} (hm : toL (nv m) = m) (hl : m.length ≤ 4096) : (if ((m.length : Nat) : Int) = 0 then some true else
    ck64 ((m.length : Int) - 1) fun x1 => ckI x1 m.length fun j1 => if ((m.getD j1 0 : Nat) : Int) = ((0 : Nat) : Int) then some false else some true) = some true := by
  rcases last_ne hm with rfl | ⟨h1, h2⟩
  · rfl
  · have e : ((m.length : Nat) : Int) - 1 = ((m.length - 1 : Nat) : Int) := by omega
    rw [if_neg (by omega), e, ck64_t ⟨by omega, by omega⟩, ckI_n (by omega), if_neg (by omega)]
theorem right_ok {fu : Nat} : ∀ t : Tr, Gt t → (tx t).length ≤ 4096 → M_expr_right fu t = some true
  | .nil, h, _ => h.elim
  | .mk op m c i l r, h, hx => by
    rcases h with ⟨rfl, rfl, rfl, rfl, rfl, hm⟩ | ⟨rfl, rfl, hc, rfl, rfl, rfl⟩ | ⟨rfl, rfl, rfl, rfl, hl, rfl⟩ | ⟨rfl, rfl, rfl, h0, h1, hl, rfl⟩ | ⟨rfl, hm, rfl, rfl, hl, rfl⟩ | ⟨rfl, rfl, rfl, rfl, hl, hr⟩ | ⟨rfl | rfl, rfl, rfl, rfl, hl, hr⟩
    · have h1 := dtx_len hm
      have h2 : (dtx m).length ≤ 4096 := hx
      unfold M_expr_right
      simp only [Tr.opt, z_bd, z_nm, reduceIte]
      exact last_ck hm (by omega)
    · have hc : 97 ≤ c ∧ c ≤ 122 := by simpa [isLt] using hc
      unfold M_expr_right
      simp only [Tr.opt, z_bd, z_nm, reduceIte, show ((97 : Nat) : Int) ≤ (c : Int) by omega, show (c : Int) ≤ ((122 : Nat) : Int) by omega]
      rw [if_neg (by decide), z_bd]
      simp only [reduceIte, Bool.false_eq_true, z_bd]
      rfl
    · cases l with
      | nil => exact hl.elim
      | mk => rfl
    · cases l with
      | nil => exact hl.elim
      | mk =>
        unfold M_expr_right
        simp only [Tr.opt, z_bd, z_nm, reduceIte, h0, h1]
        rw [if_neg (by decide), z_bd]
        simp only [Bool.false_eq_true, reduceIte]
        rw [if_neg (by decide), z_bd, if_neg Bool.false_ne_true, if_neg (by decide), z_bd, if_neg Bool.false_ne_true, z_bd, z_bd]
        simp only [reduceIte, z_bd]
        rfl
    · cases l with
      | nil => exact hl.elim
      | mk a b c d e f =>
        have h1 := dtx_len hm
        have h2 : (wr (lev (.mk a b c d e f)) 2 (tx (.mk a b c d e f)) ++ 47 :: dtx m).length ≤ 4096 := hx
        rw [List.length_append, List.length_cons] at h2
        unfold M_expr_right
        simp only [Tr.opt, z_bd, z_nm, reduceIte]
        rw [if_neg (by decide), z_bd]
        simp only [Bool.false_eq_true, reduceIte]
        rw [if_neg (by decide), z_bd, if_neg Bool.false_ne_true, z_bd, z_bd]
        simp only [reduceIte, z_bd]
        exact last_ck hm (by omega)
    all_goals
      cases l with
      | nil => exact hl.elim
      | mk => cases r with
        | nil => exact hr.elim
        | mk => rfl
theorem ans {o : List Nat} {n l l' : Int} {b b' : Tx} (h : l = l') (h2 : b = b') : some ((o, (l, (n, false))), b) = some ((o, (l', (n, false))), b') := by rw [h, h2]
theorem node_ok : ∀ (t : Tr) (fu : Nat), Gt t → 3000000 + nd t ≤ fu → Wk (M_expr_writer_node_vr fu) t
  | .nil, _, h, _ => h.elim
  | .mk op m c i tl tr, fu, h, hf => by
    intro o l n b h1 h2 h3 h4 h5
    have hn : nd (.mk op m c i tl tr) = nd tl + nd tr + 1 := rfl
    have hz : nd .nil = 0 := rfl
    obtain ⟨fu, rfl⟩ : ∃ j, fu = j + 1 := ⟨fu - 1, by omega⟩
    have hR := right_ok (fu := fu) _ h (by omega)
    unfold M_expr_writer_node_vr
    simp only []
    rw [ck64_t ⟨by omega, by omega⟩, nm_t]
    simp only [Bool.false_eq_true, if_false]
    rw [if_neg (by omega), hR, z_bd, nm_t]
    simp only [Bool.not_true, Bool.false_eq_true, if_false]
    rw [z_bd]
    simp only [Tr.opt, z_bd]
    rcases h with ⟨rfl, rfl, rfl, rfl, rfl, hm⟩ | ⟨rfl, rfl, hc, rfl, rfl, rfl⟩ | ⟨rfl, rfl, rfl, rfl, hl, rfl⟩ | ⟨rfl, rfl, rfl, q0, q1, hl, rfl⟩ | ⟨rfl, hm, rfl, rfl, hl, rfl⟩ | ⟨rfl, rfl, rfl, rfl, hl, hr⟩ | ⟨hop, rfl, rfl, rfl, hl, hr⟩
    · rw [if_pos (by decide), z_bd, if_pos rfl, digits_ok (by omega) hm h5, z_bd]
      rfl
    · have h5 : b.length + [c].length ≤ 4096 := h5
      rw [if_neg (by decide), z_bd, if_neg Bool.false_ne_true, if_pos (by decide), z_bd, if_pos rfl, put_ok h5, z_bd]
      rfl
    · have ih := node_ok tl fu hl (by omega)
      have hx : tx (.mk 126 [] 0 0 tl .nil) = 45 :: wr (lev tl) 2 (tx tl) := rfl
      have hb : br (.mk 126 [] 0 0 tl .nil) = bw (lev tl) 2 (br tl) := rfl
      rw [hx] at h5 ⊢
      rw [hb] at h4
      rw [List.length_cons] at h5
      rw [if_neg (by decide), z_bd, if_neg Bool.false_ne_true, if_neg (by decide), z_bd, if_neg Bool.false_ne_true, if_pos (by decide), z_bd, if_pos rfl, put_ok (by simp; omega), z_bd]
      simp only []
      rw [within_ok hl ih (m := 2) (k := 2) rfl (by omega) (by omega) h3 h4 (by simp; omega), z_bd]
      exact ans (by omega) (by simp)
    · have ih := node_ok tl fu hl (by omega)
      have hx : tx (.mk 94 [] 0 i tl .nil) = wr (lev tl) 0 (tx tl) ++ 94 :: itoaE i := rfl
      have hb : br (.mk 94 [] 0 i tl .nil) = bw (lev tl) 0 (br tl) := rfl
      rw [hx] at h5 ⊢
      rw [hb] at h4
      rw [List.length_append, List.length_cons] at h5
      rw [if_neg (by decide), z_bd, if_neg Bool.false_ne_true, if_neg (by decide), z_bd, if_neg Bool.false_ne_true, if_neg (by decide), z_bd, if_neg Bool.false_ne_true, if_pos (by decide), z_bd, if_pos rfl, within_ok hl ih (m := 0) (k := 0) rfl (by omega) (by omega) h3 h4 (by omega), z_bd]
      simp only []
      rw [show M_strconv_Itoa fu i = itoaN i from rfl, itoaN, ck_t ⟨by omega, by omega⟩, z_bd, ck_t (by simp; omega), z_nm, put_ok (by simp; omega), z_bd]
      exact ans (by omega) (by simp)
    · have ih := node_ok tl fu hl (by omega)
      have hx : tx (.mk 47 m 0 0 tl .nil) = wr (lev tl) 2 (tx tl) ++ 47 :: dtx m := rfl
      have hb : br (.mk 47 m 0 0 tl .nil) = bw (lev tl) 2 (br tl) := rfl
      rw [hx] at h5 ⊢
      rw [hb] at h4
      rw [List.length_append, List.length_cons] at h5
      rw [if_neg (by decide), z_bd, if_neg Bool.false_ne_true, if_neg (by decide), z_bd, if_neg Bool.false_ne_true, if_neg (by decide), z_bd, if_neg Bool.false_ne_true, if_neg (by decide), z_bd, if_neg Bool.false_ne_true, if_pos (by decide), z_bd, if_pos rfl, within_ok hl ih (m := 2) (k := 2) rfl (by omega) (by omega) h3 h4 (by omega), z_bd]
      simp only []
      rw [put_ok (by simp; omega), z_bd]
      simp only []
      rw [digits_ok (by omega) hm (by simp; omega), z_bd]
      exact ans (by omega) (by simp)
    · have ih := node_ok tl fu hl (by omega)
      have ih2 := node_ok tr fu hr (by omega)
      have hx : tx (.mk 42 [] 0 0 tl tr) = wr (lev tl) 2 (tx tl) ++ 42 :: wr (lev tr) 1 (tx tr) := rfl
      have hb : br (.mk 42 [] 0 0 tl tr) = max (bw (lev tl) 2 (br tl)) (bw (lev tr) 1 (br tr)) := rfl
      rw [hx] at h5 ⊢
      rw [hb] at h4
      rw [List.length_append, List.length_cons] at h5
      rw [if_neg (by decide), z_bd, if_neg Bool.false_ne_true, if_neg (by decide), z_bd, if_neg Bool.false_ne_true, if_neg (by decide), z_bd, if_neg Bool.false_ne_true, if_neg (by decide), z_bd, if_neg Bool.false_ne_true, if_neg (by decide), z_bd, if_neg Bool.false_ne_true, if_pos (by decide), z_bd, if_pos rfl, within_ok hl ih (m := 2) (k := 2) rfl (by omega) (by omega) h3 (by omega) (by omega), z_bd]
      simp only []
      rw [put_ok (by simp; omega), z_bd]
      simp only []
      rw [within_ok hr ih2 (m := 1) (k := 1) rfl (by omega) (by omega) h3 (by omega) (by simp; omega), z_bd]
      exact ans (by omega) (by simp)
    · have ih := node_ok tl fu hl (by omega)
      have ih2 := node_ok tr fu hr (by omega)
      have hx : tx (.mk op [] 0 0 tl tr) = wr (lev tl) 3 (tx tl) ++ op :: wr (lev tr) 2 (tx tr) := by rcases hop with rfl | rfl <;> rfl
      have hb : br (.mk op [] 0 0 tl tr) = max (bw (lev tl) 3 (br tl)) (bw (lev tr) 2 (br tr)) := by rcases hop with rfl | rfl <;> rfl
      rw [hx] at h5 ⊢
      rw [hb] at h4
      rw [List.length_append, List.length_cons] at h5
      rw [if_neg (by omega), z_bd, if_neg Bool.false_ne_true, if_neg (by omega), z_bd, if_neg Bool.false_ne_true, if_neg (by omega), z_bd, if_neg Bool.false_ne_true, if_neg (by omega), z_bd, if_neg Bool.false_ne_true, if_neg (by omega), z_bd, if_neg Bool.false_ne_true, if_neg (by omega), z_bd, if_neg Bool.false_ne_true,
        within_ok hl ih (m := 3) (k := 3) rfl (by omega) (by omega) h3 (by omega) (by omega), z_bd]
      simp only []
      rw [put_ok (by simp; omega), z_bd]
      simp only []
      rw [within_ok hr ih2 (m := 2) (k := 2) rfl (by omega) (by omega) h3 (by omega) (by simp; omega), z_bd]
      exact ans (by omega) (by simp)
theorem text_ok {fu : Nat} {t : Tr} (hf : 3005000 ≤ fu) (h : Gt t) (hb : br t ≤ 100) (hl : (tx t).length ≤ 4096) : M_expr_Text fu t = some (tx t) := by
  have h1 := nd_tx t h
  unfold M_expr_Text
  rw [if_neg (by cases t with
    | nil => exact h.elim
    | mk => exact Bool.false_ne_true), node_ok t fu h (by omega) [] 4096 0 [] (by omega) (by decide) (by decide) (by omega) (by simpa using hl), z_bd]
  simp
theorem expr_back {fu : Nat} (hf : 3005000 ≤ fu) (haw : M_law23_awake fu = some true) (s : Tx) (a : Int) : M_law23_ExprBack fu s a = some true := by
  unfold M_law23_ExprBack
  have hp := px_parse (s := s) (show 20000 ≤ fu by omega) (a := a)
  have ho := ok_parse s a
  have hg := fun t x e => parse_gt (s := s) (a := a) (t := t) (x := x) (e := e)
  generalize parseS s a = p at hp ho hg
  obtain ⟨t, x, e⟩ := p
  rw [haw, z_bd, hp, z_bd]
  simp only []
  rcases hg t x e rfl with ⟨rfl, rfl, g1, g2, g3, g4⟩ | ⟨he, rfl, h1, h2, h3⟩
  · have ht := text_ok hf g1 g2 (by omega)
    have h2 := px_parse (s := tx t) (show 20000 ≤ fu by omega) (a := 100)
    rw [parse_tx g1 g2 (by omega)] at h2
    have hpos := tx_pos g1
    rw [if_pos rfl, ht, z_bd, h2, z_bd]
    simp only []
    rw [if_pos (by trivial), if_pos (by trivial), if_pos (by omega), if_pos (by omega), if_pos (by trivial), if_pos (by trivial), ht, z_bd, if_pos (by trivial), theirs_id 4096 fu _ 4200 ho (by omega) (by decide) (by decide), z_bd, z_bd, same_id 4096 fu _ ho (by omega), z_bd]
  · rw [if_neg he, if_pos (by trivial), if_pos (by rfl), if_pos h1, nm_t, if_pos (by omega), if_pos h3]
end
set_option maxRecDepth 100000 in
theorem law23_awake : M_law23_awake 35184372088832 = some true := by decide +kernel
section
namespace exprBack
open Go.ChangeShapes Go.WideShapes Go.ChangeAt Go.RowKit
theorem own : ownKnob Tryd.prog.godebug = none := by kernel_rfl
theorem atT : TyAt Tryd.prog .tx 9 := id (by kernel_rfl : Tryd.prog.underlying 9 = some .string)
theorem atI : TyAt Tryd.prog .i 3 := id (by kernel_rfl : Tryd.prog.underlying 3 = some (.int .i64))
def tabC : DataW Unit → Array Value
  | .agg l => (l.map fun
    | .lit (.int k z) => Value.int k z
    | _ => undef).toArray
  | _ => #[]
def txtC : DataW Unit → ByteArray
  | .iface _ (.ptr (.agg [.lit (.string l)])) => ⟨l.toArray⟩
  | _ => ⟨#[]⟩
def setC (cs : Array Value) : Obj → Obj
  | .cells _ t z => .cells cs t z
  | o => o
noncomputable def low : Nat := (World.holding Tryd.prog default ⟨#[], #[], []⟩).heap.size
noncomputable def laidWorld (os : Os) : World :=
  let w0 := World.holding Tryd.prog os ⟨#[.cells #[.string (txtC Rows.laid_strconv_ErrRange)] 132, .cells #[.string (txtC Rows.laid_strconv_ErrSyntax)] 132], #[], []⟩
  { w0 with heap := ((((w0.heap.modify 6 (setC (tabC Rows.laid_math_bits_deBruijn32tab))).modify 7 (setC (tabC Rows.laid_math_bits_deBruijn64tab))).modify 3 (setC (tabC Rows.laid_internal_strconv_uint64pow10))).modify 5 (setC #[.iface 130 (.pointer (some ⟨low, 0, none⟩))])).modify 4 (setC #[.iface 130 (.pointer (some ⟨low + 1, 0, none⟩))]) }
set_option maxRecDepth 100000 in
theorem laidWorld_met (os : Os) (args : Array Value) : laidMet Tryd.prog Rows.exprBackRow.laid ((laidWorld os).forCall (fun _ _ => 0) ⟨#[], args, []⟩).memory :=
  laidMet_of_run' 8 (by kernel_rfl) (by kernel_rfl)
theorem cells163 : Tryd.prog.cellsOf 132 = 1 := by kernel_rfl
theorem cells9 : Tryd.prog.cellsOf 9 = 1 := by kernel_rfl
def esName : String := match Rows.laid_strconv_ErrRange (H := Unit) with
  | .iface nm _ => nm
  | _ => ""
theorem row161 (u : TypeId) (h : Tryd.prog.typeName? 3 u = some esName) : u = 130 :=
  typeName_ptr_named (nm := "errors.errorString") (by kernel_rfl) (by kernel_rfl) (by decide) u (h.trans (by kernel_rfl))
set_option maxRecDepth 100000 in
theorem gv_of {W : World} (h : laidMet Tryd.prog Rows.exprBackRow.laid W) : Gv W := by
  have h3 := h.tail.tail
  have h4 := h3.tail
  have h5 := h4.tail
  refine ⟨Lib.tabIs_of_head (g := 3) (t := 103) (e := 57) (n := 20) (rest := _) (by kernel_rfl) (by kernel_rfl) (by kernel_rfl) (by kernel_rfl) (by kernel_rfl) (by kernel_rfl) h3, ?_, ?_⟩
  · obtain ⟨a, s, hv, _⟩ := laid_sentinel (g := 5) h4 (by kernel_rfl) (by kernel_rfl) Tryd.underlying76 row161 Tryd.underlying130 Tryd.underlying132 rfl rfl Tryd.underlying9 cells163 cells9
    exact ⟨_, _, hv⟩
  · obtain ⟨a, s, hv, _⟩ := laid_sentinel (g := 4) h5 (by kernel_rfl) (by kernel_rfl) Tryd.underlying76 row161 Tryd.underlying130 Tryd.underlying132 rfl rfl Tryd.underlying9 cells163 cells9
    exact ⟨_, _, hv⟩
def sgO (M : AsD [.d .tx, .d .i] → Option Bool) : Sig := ⟨3, [.d .tx, .d .i], [.d .b], M, 0⟩
set_option maxRecDepth 100000 in
theorem lifted {M : AsD [.d .tx, .d .i] → Option Bool} (hs : SigOK Tryd.prog (sgO M)) (hz : ∀ x, M x = some true) (os : Os) (started : os.Started) (H : Type) (enc : TypeId × Value → H) :
    ReturnsInHanded {} Tryd.checked os 3 .any (fun w args => (Rows.exprBackSpec.pre enc Tryd.prog Tryd.f3 Rows.exprBackRow.domain false w args ∧ laidMet Tryd.prog Rows.exprBackRow.laid w) ∧ sizedMet enc Tryd.prog Tryd.f3 (OpenSpec.ofChange Rows.exprBackSpec) false w args)
      (Rows.exprBackSpec.post enc Tryd.prog Tryd.f3 false true false false) := by
  refine returnsInHanded_of_change_and (C := Tryd.checked) (X := fun w _ => laidMet Tryd.prog Rows.exprBackRow.laid w) (fun _ _ _ hh h => h.of_heap hh) own started (by kernel_rfl) Tryd.func3
    (ChangeSpec.witness_at (enc := enc) (C := Tryd.checked) (os := os) (X := fun w _ => laidMet Tryd.prog Rows.exprBackRow.laid w) false (laidWorld os) #[.string ⟨#[]⟩, .int .i64 0] 8 rfl (by kernel_rfl) (by kernel_rfl) (by kernel_rfl) (by kernel_rfl) (by kernel_rfl) (laidWorld_met os _)) ?_
  intro W base args ds gs before hval0 hW hcnd hsz hL _
  have hval : ∀ (j : Nat) t v, Tryd.f3.params[j]? = some t → args[j]? = some v → Value.okWide Tryd.prog W .any base t v := hval0
  have hW' := hW
  obtain ⟨p, q, hA0, hV, _, _, _⟩ := hW
  have hA : DataW.TrodAll enc Tryd.prog W 0 (fun _ => true) true Tryd.f3.params.toList args.toList ds p := hA0
  rw [Tryd.params3] at hA
  obtain ⟨v0, vs0, d0, ds0, p0, q0, hargs, rfl, _, _, r0⟩ := trodAll_cons hA
  obtain ⟨v1, vs1, d1, ds1, p1, q1, _, rfl, _, _, r1⟩ := trodAll_cons r0
  obtain ⟨_, rfl, _⟩ := trodAll_nil r1
  obtain ⟨rfl, _⟩ := trodVars_none hV
  exact law_endw (sg := sgO M) hW' rfl hval hsz (by kernel_rfl) (by rw [Tryd.params3]; decide +kernel) (by rw [Tryd.params3]; exact ⟨atT, atI, trivial⟩) rfl hs
    (fun x hx hw => hz x) (B := 4) (by kernel_rfl) Tryd.underlying4 rfl rfl (gv_of hL)
set_option maxRecDepth 100000 in
theorem fnm : Tryd.pinned.checked.prog.funcNamed Rows.exprBackRow.func = some 3 := by kernel_rfl
set_option maxRecDepth 100000 in
set_option maxHeartbeats 4000000 in
theorem jf : joinedFacts Tryd.pinned.checked.prog 3 Tryd.f3 Rows.exprBackSpec Rows.exprBackRow = true := by
  unfold joinedFacts
  simp only [Bool.and_eq_true]
  repeat' apply And.intro
  all_goals (as_aux_lemma => kernel_rfl)
theorem over : Rows.exprBackRow.holds Tryd.pinned (OpenSpec.ofChange Rows.exprBackSpec) :=
  OpenClaim.holds_of_wide 3 Tryd.f3 rfl rfl rfl rfl rfl rfl rfl ⟨rfl, rfl, rfl, rfl, rfl⟩ rfl rfl rfl rfl rfl fnm Tryd.func3 jf
    (of_decide_eq_true (by kernel_rfl)) (by unfold Func.isWrapper; first | (rw [if_pos (by decide +kernel)]; kernel_rfl) | (rw [if_neg (by decide +kernel)]; exact ⟨rfl, rfl⟩))
    (fun os started H enc _ => lifted (M := fun x => M_law23_ExprBack 35184372088832 x.1 x.2.1) (g_law23_ExprBack 35184372088832) (fun x => expr_back (by decide) law23_awake x.1 x.2.1) os started H enc)
set_option maxRecDepth 100000 in
theorem proved : Rows.ExprBackCardSaid :=
  Claim7.holds_tied_plain_at .later [] [.data, .data, .data, .sentinel, .sentinel] true (true, "778f03d9a706ce9f587061b66facec157bb8f175dae6304160b4e718730fd2b5") true
    over (fun _ h => by cases h) (by kernel_rfl) (fun _ h => by cases h) exprBack_row_tie rfl ⟨rfl, rfl⟩ (by kernel_rfl) rfl
    (fun f fn hf hfn => by
      obtain rfl : f = 3 := (Option.some.inj (fnm.symm.trans hf)).symm
      obtain rfl : fn = Tryd.f3 := (Option.some.inj (Tryd.func3.symm.trans hfn)).symm
      refine ⟨by kernel_rfl, fun j t ht => ?_⟩
      rw [Tryd.params3] at ht
      have h3 : t = 9 ∨ t = 3 := by
        rcases j with _ | _ | j
        · left; simpa using ht.symm
        · right; simpa using ht.symm
        · simp at ht
      rcases h3 with rfl | rfl
      · exact (by kernel_rfl : Tryd.prog.wantsStandIn 9 = false)
      · exact (by kernel_rfl : Tryd.prog.wantsStandIn 3 = false))
    (by kernel_rfl)
end exprBack
end
end Go.Proofs.YtbaoeefdjpaomaaDoor
