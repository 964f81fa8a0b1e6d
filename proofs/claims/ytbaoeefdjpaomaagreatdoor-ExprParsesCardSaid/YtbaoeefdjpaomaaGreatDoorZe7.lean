/- ExprParses: the law's mirror, its row and its card. No condition. -/
import Derived.Test.YtbaoeefdjpaomaaGreatDoorZe6
import Derived.Lib.AtoiAllCases
import Derived.Test.YtbaoeefdjpaomaaGreatDoorTie
import Derived.Test.YtbaoeefdjpaomaaGreatDoorCards
import Derived.Stop.LaidErr
import Derived.Handed
set_option linter.unusedVariables false
set_option linter.unusedSimpArgs false
namespace Go.Proofs.YtbaoeefdjpaomaaGreatDoor
theorem z_bd {R S : Type} {v : S} {k : S → Option R} : bd (some v) k = k v := rfl
theorem z_nm {R S : Type} {v : S} {k : S → Option R} : nm v k = k v := rfl
theorem dv_snoc (l : Tx) (c : Nat) : dv (l ++ [c]) = 10 * dv l + (c - 48) := by unfold dv; rw [List.foldl_append]; rfl
theorem isDg_iff {c : Nat} : isDg c = true ↔ 48 ≤ c ∧ c ≤ 57 := by simp [isDg]
def Dg (l : Tx) : Prop := ∀ c ∈ l, isDg c = true
theorem Dg.left {a b : Tx} (h : Dg (a ++ b)) : Dg a := fun c hc => h c (List.mem_append_left _ hc)
theorem dv_lt : ∀ (n : Nat) (l : Tx), l.length = n → Dg l → dv l < 10 ^ n
  | 0, l, hn, h => by rw [List.length_eq_zero_iff.1 hn]; decide
  | n + 1, l, hn, h => by
    have hne : l ≠ [] := fun e => by rw [e] at hn; simp at hn
    obtain ⟨a, c, rfl⟩ : ∃ a c, l = a ++ [c] := ⟨l.dropLast, l.getLast hne, (List.dropLast_concat_getLast hne).symm⟩
    have h1 := dv_lt n a (by rw [List.length_append] at hn; simp at hn; exact hn) h.left
    have h2 := isDg_iff.1 (h c (by simp))
    rw [dv_snoc, Nat.pow_succ]; omega
theorem dv_64 (l : Tx) (h : Dg l) : dv l < 18446744073709551616 ^ l.length := Nat.lt_of_lt_of_le (dv_lt _ l rfl h) (Nat.pow_le_pow_left (by decide) _)
theorem toL_dv_len (l : Tx) (h : Dg l) : (toL (dv l)).length ≤ l.length := (toL_length _ _).2 (dv_64 l h)
theorem nv_one (x : Nat) : nv [x] = x := by simp [nv]
def Nz (l : Tx) : Prop := l ≠ [] ∧ (l.headD 0 = 48 → l.length = 1)
theorem M_nat_Parse_dv {fu : Nat} {ds : Tx} (h : Dg ds) (hz : Nz ds) (hl : ds.length ≤ 4096) (hf : 5000 ≤ fu) : M_nat_Parse fu ds = some (toL (dv ds), 0) := by
  have loop : ∀ (r : Tx) (a : Tx) (n : Nat), a ++ r = ds → r.length < n → loopN (B_nat_Parse_0 fu ds) n (toL (dv a), ((a.length : Nat) : Int)) = some (.inl (toL (dv ds))) := by
    intro r
    induction r with
    | nil =>
      intro a n ha hn
      obtain ⟨n, rfl⟩ : ∃ m, n = m + 1 := ⟨n - 1, by omega⟩
      rw [List.append_nil] at ha
      subst ha
      rw [loopN_t]
      unfold B_nat_Parse_0
      simp only []
      rw [if_neg (by omega), z_bd]
      rfl
    | cons c r ih =>
      intro a n ha hn
      obtain ⟨n, rfl⟩ : ∃ m, n = m + 1 := ⟨n - 1, by omega⟩
      have hc := isDg_iff.1 (h c (by rw [← ha]; simp))
      have hlen : a.length < ds.length := by rw [← ha, List.length_append, List.length_cons]; omega
      have hget : ds.getD a.length 0 = c := by rw [← ha]; simp
      have hda : Dg a := by rw [← ha] at h; exact h.left
      have hta := toL_dv_len a hda
      have hp := dv_64 a hda
      rw [loopN_t]
      generalize hL : loopN (B_nat_Parse_0 fu ds) n = L
      unfold B_nat_Parse_0
      simp only []
      rw [if_pos (by omega), z_bd]
      simp only [if_true]
      rw [ckI_n hlen, z_nm, hget, if_neg (by omega), if_neg (by omega), bd_t (M_nat_row_eq (toL_limbs _) (by decide) (by omega) (by omega)), z_nm]
      have hm : (c + 256 - 48) % 256 = c - 48 := by omega
      rw [hm, nv_toL]
      have hx : Limbs [c - 48] := fun x hx => by rw [List.mem_singleton.1 hx]; omega
      rw [bd_t (M_nat_Add_eq (digs_limbs _ _) hx (by rw [digs_length]; omega) (by simp) (by rw [digs_length]; simp; omega)), nv_digs, nv_one, ck64_t ⟨by omega, by omega⟩]
      have hb : dv a * 10 % 18446744073709551616 ^ ((toL (dv a)).length + 1) = dv a * 10 := by
        refine Nat.mod_eq_of_lt ?_
        have h1 : dv a < 18446744073709551616 ^ (toL (dv a)).length := (toL_length _ _).1 (Nat.le_refl _)
        rw [Nat.pow_succ]
        generalize 18446744073709551616 ^ (toL (dv a)).length = q at h1
        omega
      rw [hb]
      have e1 : dv a * 10 + (c - 48) = dv (a ++ [c]) := by rw [dv_snoc]; omega
      rw [e1]
      have := ih (a ++ [c]) n (by rw [← ha]; simp) (by simp at hn; omega)
      rw [List.length_append] at this
      rw [← hL]
      exact this
  unfold M_nat_Parse
  have h0 : 0 < ds.length := List.length_pos_iff.2 hz.1
  have hl2 := loop ds [] fu rfl (by omega)
  rw [if_neg (by omega), if_neg (by omega)]
  have hg : ds.getD 0 0 = ds.headD 0 := by cases ds <;> rfl
  rw [show ((0 : Int)) = ((0 : Nat) : Int) from rfl, ckI_n h0, z_nm, hg]
  by_cases h48 : ds.headD 0 = 48
  · rw [if_pos (by rw [h48]), if_neg (by have := hz.2 h48; omega), z_bd]
    simp only []
    rw [show loopN (B_nat_Parse_0 fu ds) fu ([], ((0 : Nat) : Int)) = _ from hl2, z_bd]
  · rw [if_neg (by omega), z_bd]
    simp only []
    rw [show loopN (B_nat_Parse_0 fu ds) fu ([], ((0 : Nat) : Int)) = _ from hl2, z_bd]
def mulS : List Nat → Nat → List Nat × Nat
  | [], c => ([], c)
  | x :: t, c => (((x * 10 + c) % 4294967296) :: (mulS t ((x * 10 + c) / 4294967296)).1, (mulS t ((x * 10 + c) / 4294967296)).2)
theorem mulS_len : ∀ (t : List Nat) (c : Nat), (mulS t c).1.length = t.length
  | [], c => rfl
  | x :: t, c => by unfold mulS; rw [List.length_cons, List.length_cons, mulS_len t]
theorem mulS_digs : ∀ (t : List Nat) (c : Nat), Digs (mulS t c).1
  | [], c => Digs.nil
  | x :: t, c => by unfold mulS; exact Digs.cons (Nat.mod_lt _ (by decide)) (mulS_digs t _)
theorem mulS_small : ∀ (t : List Nat) (c : Nat), Digs t → c ≤ 10 → (mulS t c).2 ≤ 10
  | [], c, _, h => h
  | x :: t, c, ht, h => by unfold mulS; exact mulS_small t _ ht.tail (by have := ht.head; omega)
theorem mulS_nw : ∀ (t : List Nat) (c : Nat), nw (mulS t c).1 + 4294967296 ^ t.length * (mulS t c).2 = 10 * nw t + c
  | [], c => by simp [mulS, nw]
  | x :: t, c => by
    have ih := mulS_nw t ((x * 10 + c) / 4294967296)
    unfold mulS
    simp only []
    rw [nw_cons, nw_cons, List.length_cons, Nat.pow_succ]
    have h1 := Nat.div_add_mod (x * 10 + c) 4294967296
    generalize (x * 10 + c) / 4294967296 = q at ih h1 ⊢
    generalize (x * 10 + c) % 4294967296 = p at h1 ⊢
    have h2 : 4294967296 ^ t.length * 4294967296 * (mulS t q).2 = 4294967296 * (4294967296 ^ t.length * (mulS t q).2) := by
      rw [Nat.mul_comm (4294967296 ^ t.length) 4294967296, Nat.mul_assoc]
    rw [h2]
    generalize 4294967296 ^ t.length * (mulS t q).2 = z at ih ⊢
    omega
theorem inner_ref {fu : Nat} {d0 : Tx} : ∀ (r p : List Nat) (d n : Nat), Digs r → d ≤ 10 → p.length + r.length ≤ 1000000 → r.length < n →
    loopN (B_ref01_Parse_1 fu) n (d0, d, ((p.length : Nat) : Int), p ++ r) = some (d0, (mulS r d).2, p ++ (mulS r d).1) := by
  intro r
  induction r with
  | nil =>
    intro p d n _ _ _ hn
    obtain ⟨n, rfl⟩ : ∃ m, n = m + 1 := ⟨n - 1, by omega⟩
    rw [loopN_t]
    generalize hL : loopN (B_ref01_Parse_1 fu) n = L
    unfold B_ref01_Parse_1
    simp only [List.append_nil, mulS]
    rw [if_neg (by omega)]
  | cons x r ih =>
    intro p d n hr hd hl hn
    obtain ⟨n, rfl⟩ : ∃ m, n = m + 1 := ⟨n - 1, by omega⟩
    have hx := hr.head
    have hlen : p.length < (p ++ x :: r).length := by rw [List.length_append, List.length_cons]; omega
    have hget : (p ++ x :: r).getD p.length 0 = x := by simp
    rw [loopN_t]
    generalize hL : loopN (B_ref01_Parse_1 fu) n = L
    unfold B_ref01_Parse_1
    simp only []
    rw [if_pos (by omega), ckI_n hlen, z_nm, hget, z_nm, z_nm, z_nm, ckI_n hlen, z_nm, z_nm]
    have e1 : x * 10 % 18446744073709551616 = x * 10 := Nat.mod_eq_of_lt (by omega)
    have e2 : (x * 10 + d) % 18446744073709551616 = x * 10 + d := Nat.mod_eq_of_lt (by omega)
    rw [e1, e2, and32, min32, show (2 : Nat) ^ 32 = 4294967296 from rfl]
    rw [List.length_cons] at hl hn
    rw [ck64_t ⟨by omega, by omega⟩]
    have e3 : (p ++ x :: r).set p.length ((x * 10 + d) % 4294967296) = (p ++ [(x * 10 + d) % 4294967296]) ++ r := by simp
    rw [e3]
    have := ih (p ++ [(x * 10 + d) % 4294967296]) ((x * 10 + d) / 4294967296) n hr.tail (by omega) (by rw [List.length_append]; simp; omega) (by omega)
    rw [List.length_append] at this
    simp only [List.length_cons, List.length_nil, Nat.zero_add, Int.natCast_add, Int.natCast_one] at this
    rw [← hL, this]
    simp [mulS]
theorem M_ref01_Parse_dv {fu : Nat} {ds : Tx} (h : Dg ds) (hz : Nz ds) (hl : ds.length ≤ 4096) (hf : 10000 ≤ fu) : M_ref01_Parse fu ds = some (toL (dv ds), 0) := by
  have loop : ∀ (r a : Tx) (n : Nat) (t : List Nat), a ++ r = ds → r.length < n → Digs t → nw t = dv a → t.length ≤ a.length →
      ∃ t', loopN (B_ref01_Parse_0 fu ds) n (t, ((a.length : Nat) : Int)) = some (.inl t') ∧ Digs t' ∧ nw t' = dv ds ∧ t'.length ≤ ds.length := by
    intro r
    induction r with
    | nil =>
      intro a n t ha hn ht hw htl
      obtain ⟨n, rfl⟩ : ∃ m, n = m + 1 := ⟨n - 1, by omega⟩
      rw [List.append_nil] at ha
      subst ha
      refine ⟨t, ?_, ht, hw, htl⟩
      rw [loopN_t]
      unfold B_ref01_Parse_0
      simp only []
      rw [if_neg (by omega)]
    | cons c r ih =>
      intro a n t ha hn ht hw htl
      obtain ⟨n, rfl⟩ : ∃ m, n = m + 1 := ⟨n - 1, by omega⟩
      have hc := isDg_iff.1 (h c (by rw [← ha]; simp))
      have hlen : a.length < ds.length := by rw [← ha, List.length_append, List.length_cons]; omega
      have hget : ds.getD a.length 0 = c := by rw [← ha]; simp
      rw [List.length_cons] at hn
      have hm : (c + 256 - 48) % 256 = c - 48 := by omega
      have hin := inner_ref (fu := fu) (d0 := ds) t [] (c - 48) fu ht (by omega) (by simp; omega) (by omega)
      have hw2 := mulS_nw t (c - 48)
      have hs := mulS_small t (c - 48) ht (by omega)
      have e1 : 10 * nw t + (c - 48) = dv (a ++ [c]) := by rw [dv_snoc, hw]
      have ha2 : (a ++ [c]) ++ r = ds := by rw [← ha]; simp
      have hal : (a ++ [c]).length = a.length + 1 := by simp
      rw [loopN_t]
      generalize hL : loopN (B_ref01_Parse_0 fu ds) n = L
      unfold B_ref01_Parse_0
      simp only []
      rw [if_pos (by omega), ckI_n hlen, z_nm, hget, if_neg (by omega), ckI_n hlen, z_nm, hget, if_neg (by omega), ckI_n hlen, z_nm, hget, z_nm, hm]
      rw [show loopN (B_ref01_Parse_1 fu) fu (ds, c - 48, (0 : Int), t) = _ from hin, z_bd]
      simp only [List.nil_append]
      by_cases hd : 0 < (mulS t (c - 48)).2
      · rw [if_pos (by omega), ck_t (by rw [mulS_len]; simp; omega), z_nm, ck64_t ⟨by omega, by omega⟩]
        obtain ⟨t', q1, q2⟩ := ih (a ++ [c]) n ((mulS t (c - 48)).1 ++ [(mulS t (c - 48)).2]) ha2 (by omega) ((mulS_digs _ _).append (Digs.cons (by omega) Digs.nil)) (by rw [nw_snoc, mulS_len, hw2, e1]) (by rw [List.length_append, mulS_len, hal]; simp; omega)
        refine ⟨t', ?_, q2⟩
        rw [hal] at q1
        rw [← hL]
        exact q1
      · have hd0 : (mulS t (c - 48)).2 = 0 := by omega
        rw [if_neg (by omega), ck64_t ⟨by omega, by omega⟩]
        rw [hd0, Nat.mul_zero, Nat.add_zero] at hw2
        obtain ⟨t', q1, q2⟩ := ih (a ++ [c]) n (mulS t (c - 48)).1 ha2 (by omega) (mulS_digs _ _) (by rw [hw2, e1]) (by rw [mulS_len, hal]; omega)
        refine ⟨t', ?_, q2⟩
        rw [hal] at q1
        rw [← hL]
        exact q1
  unfold M_ref01_Parse
  have h0 : 0 < ds.length := List.length_pos_iff.2 hz.1
  obtain ⟨t', q1, q2, q3, q4⟩ := loop ds [] fu [] rfl (by omega) Digs.nil rfl (Nat.le_refl _)
  rw [if_neg (by omega), if_neg (by omega)]
  have hg : ds.getD 0 0 = ds.headD 0 := by cases ds <;> rfl
  rw [show ((0 : Int)) = ((0 : Nat) : Int) from rfl, ckI_n h0, z_nm, hg]
  have fin : (bd (loopN (B_ref01_Parse_0 fu ds) fu ([], ((0 : Nat) : Int))) fun s2 => match s2 with
      | .inl t8 => bd (M_ref01_limbs fu t8) fun t9 => some (t9, ((0 : Nat) : Int))
      | .inr _ => some ([], (2 : Int))) = some (toL (dv ds), ((0 : Nat) : Int)) := by
    rw [show loopN (B_ref01_Parse_0 fu ds) fu ([], ((0 : Nat) : Int)) = _ from q1, z_bd]
    simp only []
    rw [bd_t (M_ref01_limbs_eq q2 (by omega) (by omega)), q3]
  by_cases h48 : ds.headD 0 = 48
  · rw [if_pos (by rw [h48]), if_neg (by have := hz.2 h48; omega), z_bd]
    exact fin
  · rw [if_neg (by omega), z_bd]
    exact fin
theorem dv_mono (l : Tx) (c : Nat) (n : Nat) : n ≤ (c :: l).foldl (fun n c => 10 * n + (c - 48)) n := by
  induction l generalizing c n with
  | nil => simp only [List.foldl_cons, List.foldl_nil]; omega
  | cons d l ih =>
    rw [List.foldl_cons]
    have := ih d (10 * n + (c - 48))
    omega
theorem dv_fold (l : Tx) (n : Nat) : n ≤ l.foldl (fun n c => 10 * n + (c - 48)) n := by
  cases l with
  | nil => exact Nat.le_refl _
  | cons c l => exact dv_mono l c n
theorem parse_small : ∀ (l : Tx) (n : Nat), Dg l → l.foldl (fun n c => 10 * n + (c - 48)) n < 18446744073709551616 → Lib.parseUint10 n (l.map UInt8.ofNat) = .ok (l.foldl (fun n c => 10 * n + (c - 48)) n)
  | [], n, _, _ => rfl
  | c :: l, n, h, hs => by
    have hc := isDg_iff.1 (h c (List.mem_cons_self ..))
    have hcn : (UInt8.ofNat c).toNat = c := by rw [UInt8.toNat_ofNat']; omega
    rw [List.foldl_cons] at hs ⊢
    have hm := dv_fold l (10 * n + (c - 48))
    rw [List.map_cons]
    unfold Lib.parseUint10
    rw [hcn, if_pos hc, if_neg (by omega), if_neg (by omega)]
    rw [show n * 10 + (c - 48) = 10 * n + (c - 48) by omega]
    exact parse_small l _ (fun x hx => h x (List.mem_cons_of_mem _ hx)) hs
theorem parse_ok : ∀ (l : List UInt8) (n u : Nat), Lib.parseUint10 n l = .ok u → u = (l.map UInt8.toNat).foldl (fun n c => 10 * n + (c - 48)) n
  | [], n, u, h => by
    unfold Lib.parseUint10 at h; cases h; rfl
  | c :: l, n, u, h => by
    unfold Lib.parseUint10 at h
    split at h
    · split at h
      · cases h
      · split at h
        · cases h
        · rw [List.map_cons, List.foldl_cons, parse_ok l _ u h, show n * 10 + (c.toNat - 48) = 10 * n + (c.toNat - 48) by omega]
    · cases h
theorem map_back {l : Tx} (h : Dg l) : (l.map UInt8.ofNat).map UInt8.toNat = l := by
  rw [List.map_map]
  conv => rhs; rw [← List.map_id l]
  refine List.map_congr_left fun c hc => ?_
  have := isDg_iff.1 (h c hc)
  show (UInt8.ofNat c).toNat = c
  rw [UInt8.toNat_ofNat']; omega
theorem atoi_dv {ds : Tx} (h : Dg ds) (hz : Nz ds) : (dv ds ≤ 1000 ∧ atoiE ds = ((dv ds : Int), false)) ∨ (1000 < dv ds ∧ (∀ v, atoiE ds = (v, false) → 1000 < v)) := by
  have hp : ∀ c r, ds = c :: r → Lib.atoiAll (ds.map UInt8.ofNat) = Lib.signless (Lib.parseMag (ds.map UInt8.ofNat)) := fun c r e => by
    subst e
    have hc := isDg_iff.1 (h c (List.mem_cons_self ..))
    have hcn : (UInt8.ofNat c).toNat = c := by rw [UInt8.toNat_ofNat']; omega
    exact Lib.atoiAll_plain _ _ (by rw [hcn]; omega) (by rw [hcn]; omega)
  cases hd : ds with
  | nil => exact absurd hd hz.1
  | cons c r =>
    have hp := hp c r hd
    rw [← hd]
    have hne : ds.map UInt8.ofNat ≠ [] := by rw [hd]; simp
    have hm : Lib.parseMag (ds.map UInt8.ofNat) = Lib.parseUint10 0 (ds.map UInt8.ofNat) := by unfold Lib.parseMag; rw [if_neg hne]
    unfold atoiE
    rw [hp, hm]
    by_cases hs : dv ds ≤ 1000
    · left
      refine ⟨hs, ?_⟩
      rw [parse_small ds 0 h (by unfold dv at hs; omega)]
      unfold Lib.signless
      have : ¬ 9223372036854775808 ≤ dv ds := by omega
      unfold dv at this
      simp only [this, if_false]
      rfl
    · right
      refine ⟨by omega, fun v => ?_⟩
      cases hu : Lib.parseUint10 0 (ds.map UInt8.ofNat) with
      | ok u =>
        have := parse_ok _ _ _ hu
        rw [map_back h] at this
        have hu2 : u = dv ds := this
        unfold Lib.signless
        simp only []
        split
        · next e => split at e <;> cases e; intro e2; cases e2; omega
        · intro e; cases e
        · intro e; cases e
      | range => intro e; cases e
      | _ => intro e; cases e
section
def pp (s l : Tx) : Int := ((s.length - l.length : Nat) : Int)
def enP {α β : Type} (s : Tx) (od : β) : Rd α → PX ⊕ (α × (Tx × (Int × β)))
  | .inl b => .inl (37, pp s b)
  | .inr (x, r) => .inr (x, (s, (pp s r, od)))
section
variable {s l k r : Tx} {c fu : Nat}
theorem suf_get (h : c :: r <:+ s) : s.getD (s.length - (c :: r).length) 0 = c := by
  obtain ⟨t, rfl⟩ := h
  rw [List.length_append, show t.length + (c :: r).length - (c :: r).length = t.length by omega]
  simp
theorem suf_lt (h : c :: r <:+ s) : s.length - (c :: r).length < s.length := by
  have := h.length_le
  rw [List.length_cons] at *
  omega
theorem suf_drop (h : l <:+ s) : s.drop (s.length - l.length) = l := by
  obtain ⟨t, rfl⟩ := h
  rw [List.length_append, show t.length + l.length - l.length = t.length by omega]
  simp
theorem pp_succ (h : c :: r <:+ s) : pp s (c :: r) + 1 = pp s r := by
  have := h.length_le
  rw [List.length_cons] at this
  unfold pp
  rw [List.length_cons]; omega
theorem pp_nil : pp s [] = (s.length : Int) := rfl
theorem pp_lt (h : c :: r <:+ s) : pp s (c :: r) < (s.length : Int) := by
  have := suf_lt h; unfold pp; omega
theorem pp_rng (hs : s.length ≤ 4096) : 0 ≤ pp s l ∧ pp s l ≤ 4096 := by unfold pp; omega
theorem pp_inj (h : l <:+ s) (h2 : k <:+ s) : pp s l = pp s k ↔ l.length = k.length := by
  have := h.length_le
  have := h2.length_le
  unfold pp; omega
theorem pp_ckI {R : Type} {f : Nat → Option R} (h : c :: r <:+ s) : ckI (pp s (c :: r)) s.length f = f (s.length - (c :: r).length) := ckI_n (suf_lt h)
theorem suf_tail (h : c :: r <:+ s) : r <:+ s := (List.suffix_cons c r).trans h
theorem pp_64 {R : Type} {f : Int → Option R} (hs : s.length ≤ 4096) (h : c :: r <:+ s) : ck64 (pp s (c :: r) + 1) f = f (pp s r) := by
  rw [pp_succ h, ck64_t]
  have := pp_rng (l := r) hs
  exact ⟨by omega, by omega⟩
end
theorem ifdig (c : Nat) {R : Type} (a b : Option R) : (if (((48 : Nat) : Nat) : Int) ≤ ((c : Nat) : Int) then (if ((c : Nat) : Int) ≤ (((57 : Nat) : Nat) : Int) then a else b) else b) = if isDg c = true then a else b := by
  unfold isDg
  by_cases h1 : 48 ≤ c
  · rw [if_pos (by omega)]
    by_cases h2 : c ≤ 57
    · rw [if_pos (by omega), if_pos (by simp [h1, h2])]
    · rw [if_neg (by omega), if_neg (by simp [h2])]
  · rw [if_neg (by omega), if_neg (by simp [h1])]
theorem ifltr (c : Nat) {R : Type} (a b : Option R) : (if (((97 : Nat) : Nat) : Int) ≤ ((c : Nat) : Int) then (if ((c : Nat) : Int) ≤ (((122 : Nat) : Nat) : Int) then a else b) else b) = if isLt c = true then a else b := by
  unfold isLt
  by_cases h1 : 97 ≤ c
  · rw [if_pos (by omega)]
    by_cases h2 : c ≤ 122
    · rw [if_pos (by omega), if_pos (by simp [h1, h2])]
    · rw [if_neg (by omega), if_neg (by simp [h2])]
  · rw [if_neg (by omega), if_neg (by simp [h1])]
theorem skp_skp' {l : Tx} {c : Nat} {r : Tx} (h : skp l = c :: r) : skp (c :: r) = c :: r := by rw [← h, skp_skp]
section
variable {s : Tx} {fu : Nat} {od : Int × Int}
theorem px_next_loop (hs : s.length ≤ 4096) : ∀ (l : Tx) (n : Nat), l <:+ s → l.length < n → loopN (B_expr_parser_next_io_0 fu) n (s, (pp s l, od)) = some (s, (pp s (skp l), od))
  | [], n, hl, hn => by
    obtain ⟨n, rfl⟩ : ∃ m, n = m + 1 := ⟨n - 1, by omega⟩
    rw [loopN_t]
    unfold B_expr_parser_next_io_0
    simp only []
    rw [if_neg (by rw [pp_nil]; omega)]; rfl
  | c :: r, n, hl, hn => by
    obtain ⟨n, rfl⟩ : ∃ m, n = m + 1 := ⟨n - 1, by omega⟩
    have ih := px_next_loop hs r n (suf_tail hl) (by rw [List.length_cons] at hn; omega)
    rw [loopN_t]
    generalize loopN (B_expr_parser_next_io_0 fu) n = L at ih
    unfold B_expr_parser_next_io_0
    simp only []
    rw [if_pos (pp_lt hl), pp_ckI hl, z_nm, suf_get hl]
    by_cases hc : c = 32
    · rw [if_pos (by rw [hc]), pp_64 hs hl, z_nm, ih, skp, if_pos hc]
    · rw [if_neg (by omega), skp, if_neg hc]
theorem px_next_n (hs : s.length ≤ 4096) (hf : 5000 ≤ fu) {l : Tx} (hl : l <:+ s) (hk : skp l = []) : M_expr_parser_next_io fu (s, (pp s l, od)) = some (0, false, (s, (pp s [], od))) := by
  unfold M_expr_parser_next_io
  have h1 := hl.length_le
  rw [bd_t (px_next_loop hs l fu hl (by omega)), hk]
  simp only []
  rw [if_pos pp_nil]
theorem px_next_c (hs : s.length ≤ 4096) (hf : 5000 ≤ fu) {l : Tx} (hl : l <:+ s) {c : Nat} {r : Tx} (hk : skp l = c :: r) : M_expr_parser_next_io fu (s, (pp s l, od)) = some (c, true, (s, (pp s (c :: r), od))) := by
  unfold M_expr_parser_next_io
  have h1 := hl.length_le
  have h2 := (skp_suf l).trans hl
  rw [hk] at h2
  rw [bd_t (px_next_loop hs l fu hl (by omega)), hk]
  simp only []
  rw [if_neg (by have := pp_lt h2; omega), pp_ckI h2, z_nm, suf_get h2]
theorem px_next (hs : s.length ≤ 4096) (hf : 5000 ≤ fu) {l : Tx} (hl : l <:+ s) : ∃ c b, M_expr_parser_next_io fu (s, (pp s l, od)) = some (c, b, (s, (pp s (skp l), od))) := by
  cases hk : skp l with
  | nil => exact ⟨_, _, px_next_n hs hf hl hk⟩
  | cons c r => exact ⟨_, _, px_next_c hs hf hl hk⟩
theorem contains_one {fu : Nat} (p : Tx) (c : Nat) : M_strings_Contains fu p [c] = some (p.any fun b => Nat.beq b c) := by
  unfold M_strings_Contains containsN
  rw [ck_t (by simp)]; rfl
theorem px_take_e (hs : s.length ≤ 4096) (hf : 5000 ≤ fu) {l p : Tx} (hl : l <:+ s) (hk : skp l = []) : M_expr_parser_take_io fu (s, (pp s l, od)) p = some (0, false, (s, (pp s [], od))) := by
  unfold M_expr_parser_take_io
  rw [bd_t (px_next_n hs hf hl hk)]; rfl
theorem px_take_n (hs : s.length ≤ 4096) (hf : 5000 ≤ fu) {l p : Tx} (hl : l <:+ s) {c : Nat} {r : Tx} (hk : skp l = c :: r) (hp : p.any (fun b => Nat.beq b c) = false) : M_expr_parser_take_io fu (s, (pp s l, od)) p = some (0, false, (s, (pp s (c :: r), od))) := by
  unfold M_expr_parser_take_io
  rw [bd_t (px_next_c hs hf hl hk)]
  simp only []
  rw [if_neg (by decide), bd_t (contains_one p c), hp]; rfl
theorem px_take_y (hs : s.length ≤ 4096) (hf : 5000 ≤ fu) {l p : Tx} (hl : l <:+ s) {c : Nat} {r : Tx} (hk : skp l = c :: r) (hp : p.any (fun b => Nat.beq b c) = true) : M_expr_parser_take_io fu (s, (pp s l, od)) p = some (c, true, (s, (pp s r, od))) := by
  unfold M_expr_parser_take_io
  have h2 := (skp_suf l).trans hl
  rw [hk] at h2
  rw [bd_t (px_next_c hs hf hl hk)]
  simp only []
  rw [if_neg (by decide), bd_t (contains_one p c), hp, if_neg (by decide), pp_64 hs h2]; rfl
theorem any1 {a c : Nat} (h : c ≠ a) : [a].any (fun b => Nat.beq b c) = false := by
  cases hb : Nat.beq a c
  · simp only [List.any_cons, List.any_nil, hb, Bool.or_false]
  · exact absurd (Nat.eq_of_beq_eq_true hb).symm h
theorem any1t {a : Nat} : [a].any (fun b => Nat.beq b a) = true := by simp
theorem any2 {a b c : Nat} (h : c ≠ a) (h2 : c ≠ b) : [a, b].any (fun b => Nat.beq b c) = false := by
  cases hb : Nat.beq a c
  · cases hb2 : Nat.beq b c
    · simp only [List.any_cons, List.any_nil, hb, hb2, Bool.or_false]
    · exact absurd (Nat.eq_of_beq_eq_true hb2).symm h2
  · exact absurd (Nat.eq_of_beq_eq_true hb).symm h
theorem dwS_loop (hs : s.length ≤ 4096) {k : Tx} {c0 : Nat} {r0 : Tx} (hk : c0 :: r0 <:+ s) (h0 : c0 ≠ 48) : ∀ (l : Tx) (n : Nat), l <:+ s → l.length < (c0 :: r0).length → l.length < n →
    loopN (B_expr_parser_digits_io_0 fu (s, (pp s (c0 :: r0), od))) n (s, (pp s l, od)) = some (s, (pp s (dwS l), od))
  | [], n, hl, hlt, hn => by
    obtain ⟨n, rfl⟩ : ∃ m, n = m + 1 := ⟨n - 1, by omega⟩
    rw [loopN_t]
    unfold B_expr_parser_digits_io_0
    simp only []
    rw [if_neg (by rw [pp_nil]; omega)]; rfl
  | c :: r, n, hl, hlt, hn => by
    obtain ⟨n, rfl⟩ : ∃ m, n = m + 1 := ⟨n - 1, by omega⟩
    have ih := dwS_loop hs (k := k) hk h0 r n (suf_tail hl) (by rw [List.length_cons] at hlt; omega) (by rw [List.length_cons] at hn; omega)
    rw [loopN_t]
    generalize loopN (B_expr_parser_digits_io_0 fu (s, (pp s (c0 :: r0), od))) n = L at ih
    unfold B_expr_parser_digits_io_0
    simp only []
    rw [if_pos (pp_lt hl), pp_ckI hl, z_nm, suf_get hl]
    by_cases h1 : 48 ≤ c
    · rw [if_pos (by omega), pp_ckI hl, z_nm, suf_get hl]
      by_cases h2 : c ≤ 57
      · rw [if_pos (by omega), if_neg (by rw [pp_inj hl hk]; omega), pp_ckI hk, z_nm, suf_get hk, if_neg (by omega), z_bd]
        simp only []
        rw [pp_64 hs hl, z_nm, ih, dwS, if_pos (by simp [isDg, h1, h2])]
      · rw [if_neg (by omega), z_bd, dwS, if_neg (by simp [isDg, h2])]
    · rw [if_neg (by omega), z_bd, dwS, if_neg (by simp [isDg, h1])]
theorem nbS_loop (hs : s.length ≤ 4096) : ∀ (k : Tx) (n : Nat), k <:+ s → k.length + 1 < n →
    loopN (B_expr_parser_digits_io_0 fu (s, (pp s k, od))) n (s, (pp s k, od)) = some (s, (pp s (nbS k), od))
  | [], n, hl, hn => by
    obtain ⟨n, rfl⟩ : ∃ m, n = m + 1 := ⟨n - 1, by omega⟩
    rw [loopN_t]
    unfold B_expr_parser_digits_io_0
    simp only []
    rw [if_neg (by rw [pp_nil]; omega)]; rfl
  | c :: r, n, hl, hn => by
    obtain ⟨n, rfl⟩ : ∃ m, n = m + 1 := ⟨n - 1, by omega⟩
    rw [List.length_cons] at hn
    have hr := suf_tail hl
    have ih : loopN (B_expr_parser_digits_io_0 fu (s, (pp s (c :: r), od))) n (s, (pp s r, od)) = some (s, (pp s (if c = 48 then r else dwS r), od)) := by
      by_cases h0 : c = 48
      · rw [if_pos h0]
        subst h0
        obtain ⟨n, rfl⟩ : ∃ m, n = m + 1 := ⟨n - 1, by omega⟩
        rw [loopN_t]
        unfold B_expr_parser_digits_io_0
        simp only []
        cases r with
        | nil => rw [if_neg (by rw [pp_nil]; omega)]; rfl
        | cons d r2 =>
          rw [if_pos (pp_lt hr), pp_ckI hr, z_nm, suf_get hr]
          by_cases h1 : 48 ≤ d
          · rw [if_pos (by omega), pp_ckI hr, z_nm, suf_get hr]
            by_cases h2 : d ≤ 57
            · rw [if_pos (by omega), if_neg (by rw [pp_inj hr hl]; simp only [List.length_cons]; omega), pp_ckI hl, z_nm, suf_get hl, if_pos rfl, z_bd]
            · rw [if_neg (by omega), z_bd]
          · rw [if_neg (by omega), z_bd]
      · rw [if_neg h0]
        exact dwS_loop hs (k := r) hl h0 r n hr (by simp) (by omega)
    rw [loopN_t]
    generalize loopN (B_expr_parser_digits_io_0 fu (s, (pp s (c :: r), od))) n = L at ih
    unfold B_expr_parser_digits_io_0
    simp only []
    rw [if_pos (pp_lt hl), pp_ckI hl, z_nm, suf_get hl]
    by_cases h1 : 48 ≤ c
    · rw [if_pos (by omega), pp_ckI hl, z_nm, suf_get hl]
      by_cases h2 : c ≤ 57
      · rw [if_pos (by omega), if_pos (c := True) trivial, z_bd]
        simp only []
        rw [pp_64 hs hl, z_nm, ih, nbS]
        by_cases h0 : c = 48
        · rw [if_pos h0, if_pos h0]
        · rw [if_neg h0, if_neg h0, if_pos (by simp [isDg, h1, h2])]
      · rw [if_neg (by omega), z_bd, nbS, if_neg (by omega), if_neg (by simp [isDg, h2])]
    · rw [if_neg (by omega), z_bd, nbS, if_neg (by omega), if_neg (by simp [isDg, h1])]
theorem px_digits (hs : s.length ≤ 4096) (hf : 5000 ≤ fu) {l : Tx} (hl : l <:+ s) : M_expr_parser_digits_io fu (s, (pp s l, od)) = some (enP s od (numS l)) := by
  unfold M_expr_parser_digits_io numS
  obtain ⟨c0, b0, hnx⟩ := px_next (od := od) hs hf hl
  rw [bd_t hnx]
  simp only []
  have h2 := (skp_suf l).trans hl
  generalize skp l = k at h2
  have h3 := h2.length_le
  have h4 := (nbS_suf k).trans h2
  have h5 := (nbS_suf k).length_le
  rw [bd_t (nbS_loop hs k fu h2 (by omega))]
  simp only []
  by_cases he : (nbS k).length = k.length
  · rw [if_pos ((pp_inj h4 h2).2 he), if_pos he]; rfl
  · rw [if_neg (fun e => he ((pp_inj h4 h2).1 e)), if_neg he]
    unfold pp
    rw [ckN_n, ckN_n, ck_t ⟨by omega, by omega⟩, z_nm, suf_drop h2]
    have : s.length - (nbS k).length - (s.length - k.length) = k.length - (nbS k).length := by omega
    rw [this]; rfl
end
theorem dwS_dg : ∀ l : Tx, Dg (l.take (l.length - (dwS l).length))
  | [] => fun c hc => by simp at hc
  | c :: r => by
    have h := (dwS_suf r).length_le
    rw [dwS]
    by_cases hc : isDg c = true
    · rw [if_pos hc, List.length_cons, show r.length + 1 - (dwS r).length = (r.length - (dwS r).length) + 1 by omega, List.take_succ_cons]
      intro x hx
      rcases List.mem_cons.1 hx with rfl | hx
      · exact hc
      · exact dwS_dg r x hx
    · rw [if_neg hc, Nat.sub_self]
      intro x hx
      simp at hx
theorem numS_ok {l d r : Tx} (h : numS l = .inr (d, r)) : Dg d ∧ Nz d ∧ d.length ≤ l.length ∧ r <:+ skp l := by
  unfold numS at h
  have h0 := (skp_suf l).length_le
  split at h
  · cases h
  · next hne =>
    cases h
    refine ⟨?_, ?_, by rw [List.length_take]; omega, nbS_suf _⟩
    · cases hk : skp l with
      | nil => intro c hc; simp at hc
      | cons c r =>
        rw [hk] at hne
        have h := (dwS_suf r).length_le
        rw [nbS] at hne ⊢
        by_cases h1 : c = 48
        · rw [if_pos h1, List.length_cons, show r.length + 1 - r.length = 1 by omega]
          intro x hx
          simp at hx
          rw [hx, h1]; rfl
        · rw [if_neg h1] at hne ⊢
          by_cases h2 : isDg c = true
          · rw [if_pos h2, List.length_cons, show r.length + 1 - (dwS r).length = (r.length - (dwS r).length) + 1 by omega, List.take_succ_cons]
            intro x hx
            rcases List.mem_cons.1 hx with rfl | hx
            · exact h2
            · exact dwS_dg r x hx
          · rw [if_neg h2] at hne; exact absurd rfl hne
    · cases hk : skp l with
      | nil => rw [hk] at hne; exact absurd rfl hne
      | cons c r =>
        rw [hk] at hne
        have h := (dwS_suf r).length_le
        rw [nbS] at hne ⊢
        by_cases h1 : c = 48
        · rw [if_pos h1, List.length_cons, show r.length + 1 - r.length = 1 by omega]
          exact ⟨by simp, fun _ => by simp⟩
        · rw [if_neg h1] at hne ⊢
          by_cases h2 : isDg c = true
          · rw [if_pos h2, List.length_cons, show r.length + 1 - (dwS r).length = (r.length - (dwS r).length) + 1 by omega, List.take_succ_cons]
            exact ⟨by simp, fun h => absurd (by simpa using h) h1⟩
          · rw [if_neg h2] at hne; exact absurd rfl hne
section
variable {s : Tx} {fu : Nat} {od : Int × Int}
def numV (l : Tx) : Rd (List Nat) := match numS l with
  | .inl b => .inl b
  | .inr (d, r) => .inr (toL (dv d), r)
theorem px_number (hs : s.length ≤ 4096) (hf : 10000 ≤ fu) {l : Tx} (hl : l <:+ s) : M_expr_parser_number_io fu (s, (pp s l, od)) = some (enP s od (numV l)) := by
  unfold M_expr_parser_number_io numV
  rw [bd_t (px_digits hs (by omega) hl)]
  have h1 := hl.length_le
  cases hn : numS l with
  | inl b => rfl
  | inr q =>
    obtain ⟨d, r⟩ := q
    obtain ⟨g1, g2, g3, _⟩ := numS_ok hn
    simp only [enP]
    rw [bd_t (M_nat_Parse_dv g1 g2 (by omega) (by omega))]
    rfl
theorem numS_skp (l : Tx) : numS (skp l) = numS l := by unfold numS; rw [skp_skp]
theorem px_exponent (hs : s.length ≤ 4096) (hf : 10000 ≤ fu) {l : Tx} (hl : l <:+ s) : M_expr_parser_exponent_io fu (s, (pp s l, od)) = some (enP s od (expS l)) := by
  unfold M_expr_parser_exponent_io expS
  have h2 := (skp_suf l).trans hl
  obtain ⟨c0, b0, hnx⟩ := px_next (od := od) hs (by omega : 5000 ≤ fu) hl
  rw [bd_t hnx]
  simp only []
  rw [bd_t (px_digits hs (by omega) h2), numS_skp]
  have h1 := hl.length_le
  cases hn : numS l with
  | inl b => rfl
  | inr q =>
    obtain ⟨d, r⟩ := q
    obtain ⟨g1, g2, g3, _⟩ := numS_ok hn
    simp only [enP]
    unfold M_strconv_Atoi atoiN
    rw [ck_t (by omega), z_bd]
    rcases atoi_dv g1 g2 with ⟨a1, a2⟩ | ⟨a1, a2⟩
    · rw [a2, if_pos a1]
      simp only [Bool.not_false, if_true]
      rw [if_neg (show ¬ (1000 : Int) < (dv d : Int) by omega)]
    · rw [if_neg (show ¬ dv d ≤ 1000 by omega)]
      cases hv : atoiE d with
      | mk v b =>
        cases b
        · have := a2 v hv
          simp only [Bool.not_false, if_true]
          rw [if_pos this]
        · rfl
end
end
section
section
variable {s : Tx} {fu : Nat} {o d : Nat} {S : Tx → Rd Tr} {can : Bool} {R : (Tx × (Int × (Int × Int))) → Option (PX ⊕ (Tr × (Tx × (Int × (Int × Int)))))}
def Kn (s : Tx) (o d : Nat) (S : Tx → Rd Tr) (can : Bool) (R : (Tx × (Int × (Int × Int))) → Option (PX ⊕ (Tr × (Tx × (Int × (Int × Int)))))) : Prop :=
  (can = true ↔ o ≠ d) ∧ o ≤ 100 ∧ (∀ l, ShS l (S l)) ∧ (can = true → ∀ l, l <:+ s → R (s, (pp s l, ((((o + 1 : Nat) : Int)), (d : Int)))) = some (enP s (((o + 1 : Nat) : Int), (d : Int)) (S l)))
theorem px_atom (hs : s.length ≤ 4096) (hf : 10000 ≤ fu) (hK : Kn s o d S can R) {l : Tx} (hl : l <:+ s) : M_expr_parser_atom_io R fu (s, (pp s l, ((o : Int), (d : Int)))) = some (enP s ((o : Int), (d : Int)) (atmS S can l)) := by
  obtain ⟨hc1, ho, hS, hR⟩ := hK
  unfold M_expr_parser_atom_io atmS
  have h2 := (skp_suf l).trans hl
  cases hk : skp l with
  | nil =>
    rw [bd_t (px_next_n hs (by omega) hl hk)]
    rfl
  | cons c r =>
    rw [hk] at h2
    rw [bd_t (px_next_c hs (by omega) hl hk)]
    try simp only []
    rw [if_pos (c := True) trivial, ifdig, if_pos (c := True) trivial, ifltr]
    by_cases hd : isDg c = true
    · rw [if_pos hd, if_pos hd, z_bd, if_pos (by trivial), bd_t (px_number hs hf h2)]
      unfold numV
      cases hn : numS (c :: r) with
      | inl b => rfl
      | inr q => rfl
    · rw [if_neg hd, if_neg hd, z_bd]
      try simp only []
      rw [if_neg (by decide)]
      by_cases hlt : isLt c = true
      · rw [if_pos hlt, if_pos hlt, z_bd]
        try simp only []
        rw [if_pos (by trivial), pp_64 hs h2]; rfl
      · rw [if_neg hlt, if_neg hlt, z_bd]
        try simp only []
        rw [if_neg (by decide)]
        by_cases h40 : c = 40
        · rw [if_pos (by rw [h40])]
          by_cases hod : o = d
          · have : can = false := by
              cases hcan : can
              · rfl
              · exact absurd hod (hc1.1 hcan)
            rw [if_pos (by rw [hod]), if_neg (by simp [this])]; rfl
          · have hcan : can = true := hc1.2 hod
            have hr := suf_tail h2
            rw [if_neg (by omega), if_pos ⟨h40, hcan⟩, pp_64 hs h2, z_nm]
            try simp only []
            rw [ck64_t ⟨by omega, by omega⟩, z_nm]
            have e1 : ((o : Int)) + 1 = (((o + 1 : Nat)) : Int) := by omega
            rw [e1, bd_t (hR hcan r hr)]
            have hsh := hS r
            cases hSr : S r with
            | inl b => rfl
            | inr q =>
              obtain ⟨t, r2⟩ := q
              rw [hSr] at hsh
              have h3 := hsh.1.trans hr
              simp only [enP]
              have h4 := (skp_suf r2).trans h3
              cases hk2 : skp r2 with
              | nil =>
                rw [bd_t (px_take_e hs (by omega) h3 hk2)]; rfl
              | cons c2 r3 =>
                by_cases h41 : c2 = 41
                · subst h41
                  rw [bd_t (px_take_y hs (by omega) h3 hk2 any1t)]
                  try simp only []
                  rw [if_neg (by decide), ck64_t ⟨by omega, by omega⟩, z_nm, if_pos (by trivial)]
                  have e2 : (((o + 1 : Nat)) : Int) - 1 = (o : Int) := by omega
                  rw [e2]
                · rw [bd_t (px_take_n hs (by omega) h3 hk2 (any1 h41))]
                  simp only [if_neg h41]
                  rfl
        · rw [if_neg (by omega), if_neg (by simp [h40])]; rfl
end
end
section
section
variable {s : Tx} {fu : Nat} {o d : Nat} {S : Tx → Rd Tr} {can : Bool} {R : (Tx × (Int × (Int × Int))) → Option (PX ⊕ (Tr × (Tx × (Int × (Int × Int)))))}
theorem px_power (hs : s.length ≤ 4096) (hf : 10000 ≤ fu) (hK : Kn s o d S can R) {l : Tx} (hl : l <:+ s) : M_expr_parser_power_io R fu (s, (pp s l, ((o : Int), (d : Int)))) = some (enP s ((o : Int), (d : Int)) (powS S can l)) := by
  unfold M_expr_parser_power_io powS
  have hsh := sh_atom (can := can) (fun _ => hK.2.2.1) l
  rw [bd_t (px_atom hs hf hK hl)]
  cases ha : atmS S can l with
  | inl b => rfl
  | inr q =>
    obtain ⟨t, r⟩ := q
    rw [ha] at hsh
    have h3 := hsh.1.trans hl
    simp only [enP]
    have h4 := (skp_suf r).trans h3
    cases hk : skp r with
    | nil => rw [bd_t (px_take_e hs (by omega) h3 hk)]; rfl
    | cons c r2 =>
      rw [hk] at h4
      by_cases h94 : c = 94
      · subst h94
        rw [bd_t (px_take_y hs (by omega) h3 hk any1t)]
        try simp only []
        rw [if_pos (by trivial), if_pos (by trivial), bd_t (px_exponent hs hf (suf_tail h4))]
        cases he : expS r2 with
        | inl b => rfl
        | inr q => rfl
      · rw [bd_t (px_take_n hs (by omega) h3 hk (any1 h94))]
        simp only [if_neg h94]
        rfl
end
end
section
section
variable {s : Tx} {fu : Nat} {o d : Nat} {S : Tx → Rd Tr} {can : Bool} {R : (Tx × (Int × (Int × Int))) → Option (PX ⊕ (Tr × (Tx × (Int × (Int × Int)))))}
def enL (s : Tx) (od : Int × Int) : Rd Tr → (Tr × (Tx × (Int × (Int × Int)))) ⊕ (PX × Unit)
  | .inl b => .inr ((37, pp s b), ())
  | .inr (x, r) => .inl (x, (s, (pp s r, od)))
theorem px_prodL (hs : s.length ≤ 4096) (hf : 10000 ≤ fu) (hK : Kn s o d S can R) : ∀ (m : Nat) (t : Tr) (l : Tx) (n : Nat), l <:+ s → l.length < m → m < n →
    loopN (B_expr_parser_product_io_0 fu R) n (t, (s, (pp s l, ((o : Int), (d : Int))))) = some (enL s ((o : Int), (d : Int)) (prodL S can m t l))
  | 0, t, l, n, hl, hm, hn => by omega
  | m + 1, t, l, n, hl, hm, hn => by
    obtain ⟨n, rfl⟩ : ∃ m, n = m + 1 := ⟨n - 1, by omega⟩
    have ih := fun t l h1 h2 => px_prodL hs hf hK m t l n h1 h2 (by omega)
    rw [loopN_t]
    generalize loopN (B_expr_parser_product_io_0 fu R) n = L at ih
    unfold B_expr_parser_product_io_0 prodL
    try simp only []
    have h2 := (skp_suf l).trans hl
    have h3 := (skp_suf l).length_le
    cases hk : skp l with
    | nil => rw [bd_t (px_take_e hs (by omega) hl hk)]; rfl
    | cons c r =>
      rw [hk] at h2 h3
      rw [List.length_cons] at h3
      have hr := suf_tail h2
      by_cases h42 : c = 42
      · subst h42
        rw [bd_t (px_take_y hs (by omega) hl hk (by rfl))]
        try simp only []
        rw [if_neg (by decide), if_pos (by trivial), if_pos (by trivial), bd_t (px_power hs hf hK hr)]
        have hsh := sh_power (can := can) (fun _ => hK.2.2.1) r
        cases hp : powS S can r with
        | inl b => rfl
        | inr q =>
          obtain ⟨u, r2⟩ := q
          rw [hp] at hsh
          exact ih _ r2 (hsh.1.trans hr) (by have := hsh.2; omega)
      · by_cases h47 : c = 47
        · subst h47
          rw [bd_t (px_take_y hs (by omega) hl hk (by rfl))]
          try simp only []
          rw [if_neg (by decide), if_neg (by decide), if_neg h42, if_pos (by trivial), bd_t (px_number hs hf hr)]
          have hsh := sh_num r
          unfold numV
          cases hp : numS r with
          | inl b => rfl
          | inr q =>
            obtain ⟨u, r2⟩ := q
            rw [hp] at hsh
            exact ih _ r2 (hsh.1.trans hr) (by have := hsh.2; omega)
        · rw [bd_t (px_take_n hs (by omega) hl hk (any2 h42 h47))]
          simp only [if_neg h42, if_neg h47]
          rfl
theorem px_prod (hs : s.length ≤ 4096) (hf : 10000 ≤ fu) (hK : Kn s o d S can R) {l : Tx} (hl : l <:+ s) : M_expr_parser_product_io R fu (s, (pp s l, ((o : Int), (d : Int)))) = some (enP s ((o : Int), (d : Int)) (prodS S can l)) := by
  unfold M_expr_parser_product_io prodS
  have hsh := sh_power (can := can) (fun _ => hK.2.2.1) l
  have hll := hl.length_le
  rw [bd_t (px_power hs hf hK hl)]
  cases ha : powS S can l with
  | inl b => rfl
  | inr q =>
    obtain ⟨t, r⟩ := q
    rw [ha] at hsh
    simp only [enP]
    rw [bd_t (px_prodL hs hf hK (r.length + 1) t r fu (hsh.1.trans hl) (by omega) (by have := hsh.2; omega))]
    cases prodL S can (r.length + 1) t r with
    | inl b => rfl
    | inr q => rfl
end
end
section
section
variable {s : Tx} {fu : Nat} {o d : Nat} {S : Tx → Rd Tr} {can : Bool} {R : (Tx × (Int × (Int × Int))) → Option (PX ⊕ (Tr × (Tx × (Int × (Int × Int)))))}
theorem px_sumL (hs : s.length ≤ 4096) (hf : 10000 ≤ fu) (hK : Kn s o d S can R) : ∀ (m : Nat) (t : Tr) (l : Tx) (n : Nat), l <:+ s → l.length < m → m < n →
    (bd (M_expr_parser_take_io fu (s, (pp s l, ((o : Int), (d : Int)))) [43, 45]) fun (m2, c2, y4) => loopN (B_expr_parser_sum_io_0 fu R) n (t, m2, c2, y4)) = some (enL s ((o : Int), (d : Int)) (sumL S can m t l))
  | 0, t, l, n, hl, hm, hn => by omega
  | m + 1, t, l, n, hl, hm, hn => by
    obtain ⟨n, rfl⟩ : ∃ m, n = m + 1 := ⟨n - 1, by omega⟩
    have ih := fun t l h1 h2 => px_sumL hs hf hK m t l n h1 h2 (by omega)
    have h2 := (skp_suf l).trans hl
    have h3 := (skp_suf l).length_le
    have hno : ∀ (m2 : Nat) (y : Tx × (Int × (Int × Int))), loopN (B_expr_parser_sum_io_0 fu R) (n + 1) (t, m2, false, y) = some (.inl (t, y)) := fun m2 y => by
      rw [loopN_t]
      unfold B_expr_parser_sum_io_0
      rfl
    cases hk : skp l with
    | nil =>
      rw [bd_t (px_take_e hs (by omega) hl hk)]
      unfold sumL
      rw [hk]
      exact hno _ _
    | cons c r =>
      rw [hk] at h2 h3
      rw [List.length_cons] at h3
      have hr := suf_tail h2
      by_cases hc : c = 43 ∨ c = 45
      · have hp : [43, 45].any (fun b => Nat.beq b c) = true := by rcases hc with rfl | rfl <;> rfl
        rw [bd_t (px_take_y hs (by omega) hl hk hp)]
        show loopN (B_expr_parser_sum_io_0 fu R) (n + 1) (t, c, true, (s, (pp s r, ((o : Int), (d : Int))))) = _
        rw [loopN_t]
        generalize loopN (B_expr_parser_sum_io_0 fu R) n = L at ih
        unfold B_expr_parser_sum_io_0 sumL
        simp only [hk, if_pos hc]
        rw [if_pos (by trivial), bd_t (px_prod hs hf hK hr)]
        have hsh := sh_prodS (can := can) (fun _ => hK.2.2.1) r
        cases hp : prodS S can r with
        | inl b => rfl
        | inr q =>
          obtain ⟨u, r2⟩ := q
          rw [hp] at hsh
          exact ih _ r2 (hsh.1.trans hr) (by have := hsh.2; omega)
      · have hc2 := not_or.1 hc
        rw [bd_t (px_take_n hs (by omega) hl hk (any2 hc2.1 hc2.2))]
        unfold sumL
        simp only [hk, if_neg hc]
        exact hno _ _
theorem px_sumS (hs : s.length ≤ 4096) (hf : 10000 ≤ fu) (hK : Kn s o d S can (M_expr_parser_sum_io fu)) {l : Tx} (hl : l <:+ s) : M_expr_parser_sum_io (fu + 1) (s, (pp s l, ((o : Int), (d : Int)))) = some (enP s ((o : Int), (d : Int)) (sumS S can l)) := by
  have fin : ∀ (l' : Tx) (f : Tr → Tr), l' <:+ s → (bd (bd (M_expr_parser_product_io (M_expr_parser_sum_io fu) fu (s, (pp s l', ((o : Int), (d : Int))))) fun z => match z with
      | .inl q => (some (.inr (q, ())) : Option ((Tr × (Tx × (Int × (Int × Int)))) ⊕ (PX × Unit)))
      | .inr (q2, y2) => some (.inl (f q2, y2))) fun s1 => match s1 with
      | .inl (t1, t2) => (bd (M_expr_parser_take_io fu t2 [43, 45]) fun (m2, c2, y4) =>
        bd (loopN (B_expr_parser_sum_io_0 fu (M_expr_parser_sum_io fu)) fu (t1, m2, c2, y4)) fun s2 => match s2 with
        | .inl (t6, t7) => some (Sum.inr (t6, t7))
        | .inr (q7, _) => some (Sum.inl q7))
      | .inr (q8, _) => some (Sum.inl q8)) = some (enP s ((o : Int), (d : Int)) (match prodS S can l' with
      | .inl b => .inl b
      | .inr (t, r2) => sumL S can (r2.length + 1) (f t) r2)) := fun l' f hl' => by
    have hsh := sh_prodS (can := can) (fun _ => hK.2.2.1) l'
    have hll := hl'.length_le
    rw [bd_t (px_prod hs hf hK hl')]
    cases hp : prodS S can l' with
    | inl b => rfl
    | inr q =>
      obtain ⟨u, r2⟩ := q
      rw [hp] at hsh
      have h1 := px_sumL hs hf hK (r2.length + 1) (f u) r2 fu (hsh.1.trans hl') (by omega) (by have := hsh.2; omega)
      show (bd (M_expr_parser_take_io fu (s, (pp s r2, ((o : Int), (d : Int)))) [43, 45]) fun (m2, c2, y4) =>
        bd (loopN (B_expr_parser_sum_io_0 fu (M_expr_parser_sum_io fu)) fu (f u, m2, c2, y4)) fun s2 => match s2 with
        | .inl (t6, t7) => some (Sum.inr (t6, t7))
        | .inr (q7, _) => some (Sum.inl q7)) = some (enP s ((o : Int), (d : Int)) (sumL S can (r2.length + 1) (f u) r2))
      obtain ⟨⟨m2, c2, y4⟩, h2, h3⟩ := bd_s h1
      rw [bd_t h2]
      show bd (loopN (B_expr_parser_sum_io_0 fu (M_expr_parser_sum_io fu)) fu (f u, m2, c2, y4)) _ = _
      rw [bd_t h3]
      cases sumL S can (r2.length + 1) (f u) r2 with
      | inl b => rfl
      | inr q => rfl
  unfold M_expr_parser_sum_io sumS
  have h2 := (skp_suf l).trans hl
  cases hk : skp l with
  | nil =>
    rw [bd_t (px_take_e hs (by omega) hl hk)]
    exact fin [] id (List.nil_suffix)
  | cons c r =>
    rw [hk] at h2
    by_cases hc : c = 45
    · subst hc
      rw [bd_t (px_take_y hs (by omega) hl hk any1t)]
      exact fin r (fun t => .mk 126 [] 0 0 t .nil) (suf_tail h2)
    · rw [bd_t (px_take_n hs (by omega) hl hk (any1 hc))]
      simp only [if_neg hc]
      exact fin (c :: r) id h2
theorem px_sumD (hs : s.length ≤ 4096) : ∀ (r o d fu : Nat) (l : Tx), o + r = d → d ≤ 100 → 10000 + r < fu → l <:+ s → M_expr_parser_sum_io fu (s, (pp s l, ((o : Int), (d : Int)))) = some (enP s ((o : Int), (d : Int)) (sumD r l))
  | 0, o, d, fu, l, h1, h2, h3, hl => by
    obtain ⟨fu, rfl⟩ : ∃ m, fu = m + 1 := ⟨fu - 1, by omega⟩
    refine px_sumS hs (by omega) (S := fun _ => .inl []) (can := false) ⟨⟨fun h => (by cases h), fun h => absurd (by omega) h⟩, by omega, fun l => (List.nil_suffix : [] <:+ l), fun h => (by cases h)⟩ hl
  | r + 1, o, d, fu, l, h1, h2, h3, hl => by
    obtain ⟨fu, rfl⟩ : ∃ m, fu = m + 1 := ⟨fu - 1, by omega⟩
    refine px_sumS hs (by omega) ⟨⟨fun _ => by omega, fun _ => rfl⟩, by omega, sh_sumD r, fun _ l hl => ?_⟩ hl
    exact px_sumD hs r (o + 1) d fu l (by omega) h2 (by omega) hl
theorem px_parse (hf : 20000 ≤ fu) {a : Int} : M_expr_Parse fu s a = some (parseS s a) := by
  unfold M_expr_Parse parseS
  by_cases h1 : a < 0
  · rw [if_pos h1, if_pos h1, z_bd]; rfl
  · rw [if_neg h1, if_neg h1]
    by_cases h2 : 100 < a
    · rw [if_pos h2, if_pos h2, z_bd]; rfl
    · rw [if_neg h2, if_neg h2, z_bd]
      rw [if_neg (by decide)]
      by_cases h3 : 4096 < s.length
      · rw [if_pos (by omega), if_pos h3]
      · rw [if_neg (by omega), if_neg h3]
        have hs : s.length ≤ 4096 := by omega
        have h4 := px_sumD hs a.toNat 0 a.toNat fu s (by omega) (by omega) (by omega) (List.suffix_refl _)
        have e1 : pp s s = 0 := by unfold pp; omega
        have e2 : ((a.toNat : Nat) : Int) = a := by omega
        rw [e1, e2] at h4
        rw [show M_expr_parser_sum_io fu (s, (0, (0, a))) = _ from h4]
        have hsh := sh_sumD a.toNat s
        cases hp : sumD a.toNat s with
        | inl b =>
          show ck (37 = 37) (ck (InR (pp s b)) (some (Tr.nil, pp s b, (2 : Int)))) = _
          have := pp_rng (l := b) hs
          rw [ck_t rfl, ck_t ⟨by omega, by omega⟩]; rfl
        | inr q =>
          obtain ⟨t, r⟩ := q
          rw [hp] at hsh
          show (bd (M_expr_parser_next_io fu (s, (pp s r, (((0 : Nat) : Int), a)))) fun (m1, c1, y2) => _) = _
          have hr := hsh.1
          have h5 := (skp_suf r).trans hr
          cases hk : skp r with
          | nil =>
            rw [bd_t (px_next_n hs (by omega) hr hk)]
            show (if pp s [] < ((s.length : Nat) : Int) then _ else _) = _
            rw [if_neg (by rw [pp_nil]; omega)]
            simp only [hk]
          | cons c r2 =>
            rw [hk] at h5
            rw [bd_t (px_next_c hs (by omega) hr hk)]
            show (if pp s (c :: r2) < ((s.length : Nat) : Int) then _ else _) = _
            have := pp_rng (l := c :: r2) hs
            rw [if_pos (pp_lt h5), ck_t (by trivial), ck_t ⟨by show -9223372036854775808 ≤ pp s (c :: r2); omega, by show pp s (c :: r2) ≤ _; omega⟩]
            simp only [hk]
            rfl
end
end
section
abbrev Sr := Tx × (Int × (Int × (Int × Int)))
abbrev st1 (s l : Tx) (o d : Nat) : Sr := (s, (pp s l, ((o : Int), ((d : Int), (-1 : Int)))))
def Er (s : Tx) (d : Nat) (n : Int) (b : Tx) (y : Sr) : Prop := ∃ x o' : Int, y = (s, (x, (o', ((d : Int), pp s b)))) ∧ 0 ≤ x ∧ x ≤ 4096 + n ∧ -n ≤ o' ∧ o' ≤ 100
def OR (s : Tx) (o d : Nat) (n : Int) (z : Option (Tr × Sr)) : Rd Tr → Prop
  | .inl b => ∃ q y, z = some (q, y) ∧ Er s d n b y
  | .inr (t, r) => z = some (t, st1 s r o d)
section
variable {s : Tx} {fu : Nat} {od : Int × (Int × Int)}
theorem rx_sign_loop (hs : s.length ≤ 4096) : ∀ (l : Tx) (n : Nat), l <:+ s → l.length < n → loopN (B_ref23_reader_sign_io_0 fu) n (s, (pp s l, od)) = some (s, (pp s (skp l), od))
  | [], n, hl, hn => by
    obtain ⟨n, rfl⟩ : ∃ m, n = m + 1 := ⟨n - 1, by omega⟩
    rw [loopN_t]
    unfold B_ref23_reader_sign_io_0
    simp only []
    rw [if_neg (by rw [pp_nil]; omega)]; rfl
  | c :: r, n, hl, hn => by
    obtain ⟨n, rfl⟩ : ∃ m, n = m + 1 := ⟨n - 1, by omega⟩
    have ih := rx_sign_loop hs r n (suf_tail hl) (by rw [List.length_cons] at hn; omega)
    rw [loopN_t]
    generalize loopN (B_ref23_reader_sign_io_0 fu) n = L at ih
    unfold B_ref23_reader_sign_io_0
    simp only []
    rw [if_pos (pp_lt hl), pp_ckI hl, z_nm, suf_get hl]
    by_cases hc : c = 32
    · rw [if_pos (by rw [hc]), pp_64 hs hl, z_nm, ih, skp, if_pos hc]
    · rw [if_neg (by omega), skp, if_neg hc]
theorem rx_sign_n (hs : s.length ≤ 4096) (hf : 5000 ≤ fu) {l : Tx} (hl : l <:+ s) (hk : skp l = []) : M_ref23_reader_sign_io fu (s, (pp s l, od)) = some (0, (s, (pp s [], od))) := by
  unfold M_ref23_reader_sign_io
  have h1 := hl.length_le
  rw [bd_t (rx_sign_loop hs l fu hl (by omega)), hk]
  simp only []
  rw [if_pos pp_nil]
theorem rx_sign_c (hs : s.length ≤ 4096) (hf : 5000 ≤ fu) {l : Tx} (hl : l <:+ s) {c : Nat} {r : Tx} (hk : skp l = c :: r) : M_ref23_reader_sign_io fu (s, (pp s l, od)) = some (c, (s, (pp s (c :: r), od))) := by
  unfold M_ref23_reader_sign_io
  have h1 := hl.length_le
  have h2 := (skp_suf l).trans hl
  rw [hk] at h2
  rw [bd_t (rx_sign_loop hs l fu hl (by omega)), hk]
  simp only []
  rw [if_neg (by have := pp_lt h2; omega), pp_ckI h2, z_nm, suf_get h2]
theorem rx_digit (c : Nat) : M_ref23_digit fu c = some (isDg c) := by
  unfold M_ref23_digit
  rw [ifdig]
  cases isDg c <;> rfl
theorem rx_dw_loop (hs : s.length ≤ 4096) {m : Nat} (hm : m ≠ 48) : ∀ (l : Tx) (n : Nat), l <:+ s → l.length < n → loopN (B_ref23_reader_number_io_0 fu m) n (s, (pp s l, od)) = some (s, (pp s (dwS l), od))
  | [], n, hl, hn => by
    obtain ⟨n, rfl⟩ : ∃ m, n = m + 1 := ⟨n - 1, by omega⟩
    rw [loopN_t]
    unfold B_ref23_reader_number_io_0
    simp only []
    rw [if_neg (by omega), if_neg (by rw [pp_nil]; omega)]; rfl
  | c :: r, n, hl, hn => by
    obtain ⟨n, rfl⟩ : ∃ m, n = m + 1 := ⟨n - 1, by omega⟩
    have ih := rx_dw_loop hs hm r n (suf_tail hl) (by rw [List.length_cons] at hn; omega)
    rw [loopN_t]
    generalize loopN (B_ref23_reader_number_io_0 fu m) n = L at ih
    unfold B_ref23_reader_number_io_0
    simp only []
    rw [if_neg (by omega), if_pos (pp_lt hl), pp_ckI hl, z_nm, suf_get hl, bd_t (rx_digit c)]
    by_cases hc : isDg c = true
    · rw [if_pos hc, pp_64 hs hl, z_nm, ih, dwS, if_pos hc]
    · rw [if_neg hc, dwS, if_neg hc]
end
section
variable {s : Tx} {fu : Nat} {o d : Nat}
theorem rx_fail {x a : Int} {o' : Int} : M_ref23_reader_fail_io fu (s, (x, (o', ((d : Int), (-1 : Int))))) a = some (nNode [], (s, (x, (o', ((d : Int), a))))) := by
  unfold M_ref23_reader_fail_io
  rw [if_pos (show (-1 : Int) < 0 by decide)]; rfl
theorem numS_c {c : Nat} {r : Tx} (hk : skp (c :: r) = c :: r) : numS (c :: r) = if isDg c = true then .inr ((c :: r).take ((c :: r).length - (nbS (c :: r)).length), nbS (c :: r)) else .inl (c :: r) := by
  unfold numS
  rw [hk]
  have h := (dwS_suf r).length_le
  by_cases hc : isDg c = true
  · have : (nbS (c :: r)).length ≠ (c :: r).length := by
      rw [nbS]
      by_cases h1 : c = 48
      · rw [if_pos h1, List.length_cons]; omega
      · rw [if_neg h1, if_pos hc, List.length_cons]; omega
    rw [if_neg this, if_pos hc]
  · have h1 : c ≠ 48 := fun e => hc (by rw [e]; rfl)
    have : nbS (c :: r) = c :: r := by rw [nbS, if_neg h1, if_neg hc]
    rw [this, if_pos rfl, if_neg hc]
theorem rx_number (hs : s.length ≤ 4096) (hf : 10000 ≤ fu) {l : Tx} (hl : l <:+ s) : M_ref23_reader_number_io fu (st1 s l o d) = some (match numS l with
    | .inl b => ([], (s, (pp s b, ((o : Int), ((d : Int), pp s b)))))
    | .inr (ds, r) => (ds, st1 s r o d)) := by
  unfold M_ref23_reader_number_io
  rw [← numS_skp]
  have h2 := (skp_suf l).trans hl
  cases hk : skp l with
  | nil =>
    rw [bd_t (rx_sign_n hs (by omega) hl hk)]
    simp only []
    rw [bd_t (rx_digit 0), if_pos (by decide), bd_t rx_fail]
    rfl
  | cons c r =>
    rw [hk] at h2
    have hr := suf_tail h2
    rw [bd_t (rx_sign_c hs (by omega) hl hk), numS_c (skp_skp' hk)]
    simp only []
    rw [bd_t (rx_digit c)]
    by_cases hc : isDg c = true
    · rw [if_neg (by rw [hc]; decide), if_pos hc, pp_64 hs h2, z_nm]
      have hlen := h2.length_le
      have hn := (nbS_suf (c :: r)).length_le
      have hnb := (nbS_suf (c :: r)).trans h2
      have hlp : loopN (B_ref23_reader_number_io_0 fu c) fu (s, (pp s r, ((o : Int), ((d : Int), (-1 : Int))))) = some (s, (pp s (nbS (c :: r)), ((o : Int), ((d : Int), (-1 : Int))))) := by
        rw [nbS]
        by_cases h1 : c = 48
        · rw [if_pos h1]
          obtain ⟨n, rfl⟩ : ∃ m, fu = m + 1 := ⟨fu - 1, by omega⟩
          rw [loopN_t]
          unfold B_ref23_reader_number_io_0
          simp only []
          rw [if_pos (by rw [h1])]
        · rw [if_neg h1, if_pos hc]
          exact rx_dw_loop hs h1 r fu hr (by have := hr.length_le; omega)
      rw [bd_t hlp]
      simp only []
      have e1 : pp s (nbS (c :: r)) - pp s (c :: r) = (((c :: r).length - (nbS (c :: r)).length : Nat) : Int) := by unfold pp; omega
      rw [e1, ck64_t ⟨by omega, by omega⟩, if_neg (by omega)]
      unfold pp
      rw [ckN_n, ckN_n, ck_t ⟨by omega, by omega⟩, z_nm, suf_drop h2]
      have : s.length - (nbS (c :: r)).length - (s.length - (c :: r).length) = (c :: r).length - (nbS (c :: r)).length := by omega
      rw [this]; rfl
    · rw [if_pos (by simpa using hc), if_neg hc, bd_t rx_fail]
theorem rx_exp_loop {y3 : Sr} {st : Sr} (hst : st.2.2.2.2 = -1) {ds : Tx} (h : Dg ds) (hl : ds.length ≤ 4096) : ∀ (r a : Tx) (n : Nat), a ++ r = ds → r.length < n → dv a ≤ 1000 →
    loopN (B_ref23_reader_power_io_0 fu y3 ds) n (((dv a : Nat) : Int), ((a.length : Nat) : Int), st) = some (if dv ds ≤ 1000 then .inl (((dv ds : Nat) : Int), st) else .inr (nNode [], (st.1, (st.2.1, (st.2.2.1, (st.2.2.2.1, y3.2.1))))))
  | [], a, n, ha, hn, hv => by
    obtain ⟨n, rfl⟩ : ∃ m, n = m + 1 := ⟨n - 1, by omega⟩
    rw [List.append_nil] at ha
    subst ha
    rw [loopN_t]
    unfold B_ref23_reader_power_io_0
    simp only []
    rw [if_neg (by omega), if_pos hv]
  | c :: r, a, n, ha, hn, hv => by
    obtain ⟨n, rfl⟩ : ∃ m, n = m + 1 := ⟨n - 1, by omega⟩
    have hc := isDg_iff.1 (h c (by rw [← ha]; simp))
    have hlen : a.length < ds.length := by rw [← ha, List.length_append, List.length_cons]; omega
    have hget : ds.getD a.length 0 = c := by rw [← ha]; simp
    have ha2 : (a ++ [c]) ++ r = ds := by rw [← ha]; simp
    rw [List.length_cons] at hn
    have ih := rx_exp_loop (y3 := y3) hst h hl r (a ++ [c]) n ha2 (by omega)
    rw [loopN_t]
    generalize loopN (B_ref23_reader_power_io_0 fu y3 ds) n = L at ih
    unfold B_ref23_reader_power_io_0
    simp only []
    have e1 : (10 : Int) * (dv a : Int) = ((10 * dv a : Nat) : Int) := by omega
    have hm : (c + 256 - 48) % 256 = c - 48 := by omega
    rw [if_pos (by omega), if_pos (by rw [hst]; decide), e1, ck64_t ⟨by omega, by omega⟩, ckI_n hlen, z_nm, hget, z_nm, hm]
    have e2 : ((10 * dv a : Nat) : Int) + (((c - 48 : Nat)) : Int) = ((dv (a ++ [c]) : Nat) : Int) := by rw [dv_snoc]; omega
    have hb : dv (a ++ [c]) ≤ 10009 := by rw [dv_snoc]; omega
    rw [e2, ck64_t ⟨by omega, by omega⟩]
    by_cases hv2 : dv (a ++ [c]) ≤ 1000
    · rw [if_neg (by omega), ck64_t ⟨by omega, by omega⟩]
      have := ih hv2
      rw [List.length_append] at this
      exact this
    · rw [if_pos (by omega)]
      have hm2 : dv (a ++ [c]) ≤ dv ds := by
        rw [← ha2]
        unfold dv
        rw [List.foldl_append (l := a ++ [c])]
        exact dv_fold r _
      rw [if_neg (by omega)]
      obtain ⟨s', x', o', d', b'⟩ := st
      simp only at hst
      subst hst
      unfold M_ref23_reader_fail_io
      rw [if_pos (by show (-1 : Int) < 0; decide)]
      rfl
end
end
section
section
variable {s : Tx} {fu : Nat} {o d : Nat} {S : Tx → Rd Tr} {can : Bool} {R : Sr → Option (Tr × Sr)}
def Kr (s : Tx) (o d : Nat) (S : Tx → Rd Tr) (can : Bool) (R : Sr → Option (Tr × Sr)) : Prop :=
  (can = true ↔ o ≠ d) ∧ o ≤ d ∧ d ≤ 100 ∧ (∀ l, ShS l (S l)) ∧ (can = true → ∀ l, l <:+ s → OR s (o + 1) d ((d : Int) - o - 1) (R (st1 s l (o + 1) d)) (S l))
theorem er_here (hs : s.length ≤ 4096) (h1 : o ≤ d) (h2 : d ≤ 100) (b : Tx) (x : Tx) : Er s d ((d : Int) - o) b (s, (pp s x, ((o : Int), ((d : Int), pp s b)))) := by
  have := pp_rng (l := x) hs
  exact ⟨_, _, rfl, by omega, by omega, by omega, by omega⟩
theorem er_bad (hs : s.length ≤ 4096) {n : Int} {b : Tx} {y : Sr} (h : Er s d n b y) : ¬ y.2.2.2.2 < 0 := by
  obtain ⟨x, o', rfl, _⟩ := h
  have := pp_rng (l := b) hs
  show ¬ pp s b < 0
  omega
theorem rx_atom (hs : s.length ≤ 4096) (hf : 10000 ≤ fu) (hK : Kr s o d S can R) {l : Tx} (hl : l <:+ s) : OR s o d ((d : Int) - o) (M_ref23_reader_atom_io R fu (st1 s l o d)) (atmS S can l) := by
  obtain ⟨hc1, ho, hd, hS, hR⟩ := hK
  unfold M_ref23_reader_atom_io atmS
  have h2 := (skp_suf l).trans hl
  have hfail : ∀ b : Tx, OR s o d ((d : Int) - o) (bd (M_ref23_reader_fail_io fu (st1 s b o d) (pp s b)) fun (q, y) => some (q, y)) (.inl b) := fun b => by
    rw [bd_t rx_fail]
    exact ⟨_, _, rfl, er_here hs ho hd b b⟩
  cases hk : skp l with
  | nil =>
    rw [bd_t (rx_sign_n hs (by omega) hl hk)]
    show OR s o d _ (bd (M_ref23_digit fu 0) _) _
    rw [bd_t (rx_digit 0)]
    exact hfail []
  | cons c r =>
    rw [hk] at h2
    have hr := suf_tail h2
    rw [bd_t (rx_sign_c hs (by omega) hl hk)]
    simp only []
    rw [bd_t (rx_digit c), ifltr]
    by_cases hdg : isDg c = true
    · rw [if_pos hdg, if_pos hdg, bd_t (rx_number hs hf h2)]
      cases hn : numS (c :: r) with
      | inl b =>
        rw [numS_c (skp_skp' hk), if_pos hdg] at hn
        cases hn
      | inr q =>
        obtain ⟨ds, r2⟩ := q
        obtain ⟨g1, g2, g3, _⟩ := numS_ok hn
        show OR s o d _ (bd (M_ref01_Parse fu ds) _) _
        have := h2.length_le
        rw [bd_t (M_ref01_Parse_dv g1 g2 (by omega) (by omega))]
        exact rfl
    · rw [if_neg hdg, if_neg hdg]
      by_cases hlt : isLt c = true
      · rw [if_pos hlt, if_pos hlt, z_bd, if_pos rfl, pp_64 hs h2]
        exact rfl
      · rw [if_neg hlt, if_neg hlt, z_bd, if_neg (by decide)]
        by_cases h40 : c = 40
        · rw [if_pos (by rw [h40])]
          by_cases hod : o = d
          · have hcan : can = false := by
              cases hcan : can
              · rfl
              · exact absurd hod (hc1.1 hcan)
            rw [if_pos (by show ((o : Int)) = (d : Int); rw [hod]), if_neg (by simp [hcan])]
            exact hfail (c :: r)
          · have hcan : can = true := hc1.2 hod
            rw [if_neg (by show ¬ ((o : Int)) = (d : Int); omega), if_pos ⟨h40, hcan⟩, pp_64 hs h2, z_nm]
            simp only []
            rw [ck64_t ⟨by omega, by omega⟩, z_nm]
            have e1 : ((o : Int)) + 1 = (((o + 1 : Nat)) : Int) := by omega
            rw [e1]
            have hRr := hR hcan r hr
            have hsh := hS r
            cases hSr : S r with
            | inl b =>
              rw [hSr] at hRr
              obtain ⟨q, y, hq, hE⟩ := hRr
              rw [bd_t hq]
              have hb := er_bad hs hE
              obtain ⟨x, o', rfl, i1, i2, i3, i4⟩ := hE
              simp only []
              rw [if_neg hb, z_bd]
              simp only []
              rw [ck64_t ⟨by omega, by omega⟩, z_nm]
              simp only []
              rw [ck64_t ⟨by omega, by omega⟩, z_nm]
              exact ⟨_, _, rfl, _, _, rfl, by omega, by omega, by omega, by omega⟩
            | inr q =>
              obtain ⟨t, r2⟩ := q
              rw [hSr] at hRr hsh
              have hRr : R (st1 s r (o + 1) d) = some (t, st1 s r2 (o + 1) d) := hRr
              rw [bd_t hRr]
              have h3 := hsh.1.trans hr
              have h4 := (skp_suf r2).trans h3
              simp only []
              rw [if_pos (by decide)]
              cases hk2 : skp r2 with
              | nil =>
                rw [bd_t (rx_sign_n hs (by omega) h3 hk2)]
                simp only []
                rw [if_neg (by decide), bd_t rx_fail]
                refine ⟨_, _, rfl, _, _, rfl, ?_, ?_, ?_, ?_⟩
                all_goals have := pp_rng (l := []) hs; omega
              | cons c2 r3 =>
                rw [hk2] at h4
                rw [bd_t (rx_sign_c hs (by omega) h3 hk2)]
                simp only []
                by_cases h41 : c2 = 41
                · rw [if_pos (by rw [h41]), z_bd, if_pos h41]
                  simp only []
                  rw [pp_64 hs h4, z_nm]
                  simp only []
                  rw [ck64_t ⟨by omega, by omega⟩, z_nm]
                  have e2 : (((o + 1 : Nat)) : Int) - 1 = (o : Int) := by omega
                  rw [e2]
                  exact rfl
                · rw [if_neg (by omega), bd_t rx_fail, if_neg h41]
                  refine ⟨_, _, rfl, _, _, rfl, ?_, ?_, ?_, ?_⟩
                  all_goals have := pp_rng (l := c2 :: r3) hs; omega
        · rw [if_neg (by omega), if_neg (by simp [h40])]
          exact hfail (c :: r)
theorem rx_power (hs : s.length ≤ 4096) (hf : 10000 ≤ fu) (hK : Kr s o d S can R) {l : Tx} (hl : l <:+ s) : OR s o d ((d : Int) - o) (M_ref23_reader_power_io R fu (st1 s l o d)) (powS S can l) := by
  unfold M_ref23_reader_power_io powS
  have ha := rx_atom hs hf hK hl
  have hsh := sh_atom (can := can) (fun _ => hK.2.2.2.1) l
  have ho := hK.2.1
  have hd := hK.2.2.1
  cases hat : atmS S can l with
  | inl b =>
    rw [hat] at ha
    obtain ⟨q, y, hq, hE⟩ := ha
    rw [bd_t hq]
    have hb := er_bad hs hE
    simp only []
    rw [if_pos (by omega)]
    exact ⟨_, _, rfl, hE⟩
  | inr q =>
    obtain ⟨t, r⟩ := q
    rw [hat] at ha hsh
    have ha : M_ref23_reader_atom_io R fu (st1 s l o d) = some (t, st1 s r o d) := ha
    rw [bd_t ha]
    have h3 := hsh.1.trans hl
    have h4 := (skp_suf r).trans h3
    simp only []
    rw [if_neg (by decide)]
    cases hk : skp r with
    | nil =>
      rw [bd_t (rx_sign_n hs (by omega) h3 hk)]
      simp only []
      rw [if_neg (by decide)]
      exact rfl
    | cons c r2 =>
      rw [hk] at h4
      rw [bd_t (rx_sign_c hs (by omega) h3 hk)]
      simp only []
      by_cases h94 : c = 94
      · have hr2 := suf_tail h4
        have h5 := (skp_suf r2).trans hr2
        rw [if_pos (by rw [h94]), if_pos h94, pp_64 hs h4, z_nm]
        have hsg : ∃ m2, M_ref23_reader_sign_io fu (st1 s r2 o d) = some (m2, st1 s (skp r2) o d) := by
          cases hk2 : skp r2 with
          | nil => exact ⟨_, rx_sign_n hs (by omega) hr2 hk2⟩
          | cons c2 r3 => exact ⟨_, rx_sign_c hs (by omega) hr2 hk2⟩
        obtain ⟨m2, hsg⟩ := hsg
        show OR s o d _ (bd (M_ref23_reader_sign_io fu (st1 s r2 o d)) _) _
        rw [bd_t hsg]
        show OR s o d _ (bd (M_ref23_reader_number_io fu (st1 s (skp r2) o d)) _) _
        rw [bd_t (rx_number hs hf h5), numS_skp]
        unfold expS
        cases hn : numS r2 with
        | inl b =>
          simp only []
          have hlp : loopN (B_ref23_reader_power_io_0 fu (st1 s (skp r2) o d) []) fu ((0 : Int), (0 : Int), (s, (pp s b, ((o : Int), ((d : Int), pp s b))))) = some (.inl (0, (s, (pp s b, ((o : Int), ((d : Int), pp s b)))))) := by
            obtain ⟨n, rfl⟩ : ∃ m, fu = m + 1 := ⟨fu - 1, by omega⟩
            rw [loopN_t]
            unfold B_ref23_reader_power_io_0
            rfl
          rw [bd_t hlp]
          exact ⟨_, _, rfl, er_here hs ho hd b b⟩
        | inr q =>
          obtain ⟨ds, r3⟩ := q
          obtain ⟨g1, g2, g3, _⟩ := numS_ok hn
          have hl3 := hr2.length_le
          have hlp := rx_exp_loop (fu := fu) (y3 := st1 s (skp r2) o d) (st := st1 s r3 o d) rfl g1 (by omega) ds [] fu rfl (by omega) (by decide)
          simp only []
          rw [bd_t (show loopN (B_ref23_reader_power_io_0 fu (st1 s (skp r2) o d) ds) fu ((0 : Int), (0 : Int), st1 s r3 o d) = _ from hlp)]
          by_cases hv : dv ds ≤ 1000
          · rw [if_pos hv, if_pos hv]
            exact rfl
          · rw [if_neg hv, if_neg hv]
            exact ⟨_, _, rfl, er_here hs ho hd (skp r2) r3⟩
      · rw [if_neg (by omega), if_neg h94]
        exact rfl
end
end
section
section
variable {s : Tx} {fu : Nat} {o d : Nat} {S : Tx → Rd Tr} {can : Bool} {R : Sr → Option (Tr × Sr)}
theorem rx_prodL (hs : s.length ≤ 4096) (hf : 10000 ≤ fu) (hK : Kr s o d S can R) : ∀ (m : Nat) (t : Tr) (l : Tx) (n : Nat), l <:+ s → l.length < m → m < n →
    OR s o d ((d : Int) - o) (loopN (B_ref23_reader_product_io_0 fu R) n (t, st1 s l o d)) (prodL S can m t l)
  | 0, t, l, n, hl, hm, hn => by omega
  | m + 1, t, l, n, hl, hm, hn => by
    obtain ⟨n, rfl⟩ : ∃ m, n = m + 1 := ⟨n - 1, by omega⟩
    have ih := fun t l h1 h2 => rx_prodL hs hf hK m t l n h1 h2 (by omega)
    have hbad : ∀ (t : Tr) (y : Sr), ¬ y.2.2.2.2 < 0 → loopN (B_ref23_reader_product_io_0 fu R) n (t, y) = some (t, y) := fun t y hy => by
      obtain ⟨n, rfl⟩ : ∃ m, n = m + 1 := ⟨n - 1, by omega⟩
      rw [loopN_t]
      unfold B_ref23_reader_product_io_0
      simp only []
      rw [if_neg hy]
    rw [loopN_t]
    generalize loopN (B_ref23_reader_product_io_0 fu R) n = L at ih hbad
    unfold B_ref23_reader_product_io_0 prodL
    simp only []
    rw [if_pos (by decide)]
    have h2 := (skp_suf l).trans hl
    have h3 := (skp_suf l).length_le
    have ho := hK.2.1
    have hd := hK.2.2.1
    cases hk : skp l with
    | nil =>
      rw [bd_t (rx_sign_n hs (by omega) hl hk)]
      exact rfl
    | cons c r =>
      rw [hk] at h2 h3
      rw [List.length_cons] at h3
      have hr := suf_tail h2
      rw [bd_t (rx_sign_c hs (by omega) hl hk)]
      simp only []
      by_cases h42 : c = 42
      · rw [if_pos (by rw [h42]), z_bd, if_pos rfl, if_pos h42, pp_64 hs h2, z_nm]
        have hp := rx_power hs hf hK hr
        have hsh := sh_power (can := can) (fun _ => hK.2.2.2.1) r
        cases hps : powS S can r with
        | inl b =>
          rw [hps] at hp
          obtain ⟨q, y, hq, hE⟩ := hp
          show OR s o d _ (bd (M_ref23_reader_power_io R fu (st1 s r o d)) _) _
          rw [bd_t hq]
          show OR s o d _ (L (_, y)) _
          rw [hbad _ y (er_bad hs hE)]
          exact ⟨_, _, rfl, hE⟩
        | inr q =>
          obtain ⟨u, r2⟩ := q
          rw [hps] at hp hsh
          show OR s o d _ (bd (M_ref23_reader_power_io R fu (st1 s r o d)) _) _
          have hp : M_ref23_reader_power_io R fu (st1 s r o d) = some (u, st1 s r2 o d) := hp
          rw [bd_t hp]
          exact ih _ r2 (hsh.1.trans hr) (by have := hsh.2; omega)
      · rw [if_neg (by omega), z_bd, if_neg (by decide), if_neg h42]
        by_cases h47 : c = 47
        · rw [if_pos (by rw [h47]), z_bd, if_pos rfl, if_pos h47, pp_64 hs h2, z_nm]
          show OR s o d _ (bd (M_ref23_reader_number_io fu (st1 s r o d)) _) _
          rw [bd_t (rx_number hs hf hr)]
          have hsh := sh_num r
          have hl3 := hr.length_le
          cases hn : numS r with
          | inl b =>
            simp only []
            have h0 : M_ref01_Parse fu [] = some ([], 2) := by
              unfold M_ref01_Parse
              rw [if_pos (show (([] : Tx).length : Int) = 0 from rfl)]; rfl
            rw [bd_t h0]
            show OR s o d _ (L (_, (s, (pp s b, ((o : Int), ((d : Int), pp s b)))))) _
            have hE := er_here hs ho hd b b
            rw [hbad _ _ (er_bad hs hE)]
            exact ⟨_, _, rfl, hE⟩
          | inr q =>
            obtain ⟨ds, r2⟩ := q
            obtain ⟨g1, g2, g3, _⟩ := numS_ok hn
            rw [hn] at hsh
            simp only []
            rw [bd_t (M_ref01_Parse_dv g1 g2 (by omega) (by omega))]
            exact ih _ r2 (hsh.1.trans hr) (by have := hsh.2; omega)
        · rw [if_neg (by omega), z_bd, if_neg (by decide), if_neg h47]
          exact rfl
theorem rx_prod (hs : s.length ≤ 4096) (hf : 10000 ≤ fu) (hK : Kr s o d S can R) {l : Tx} (hl : l <:+ s) : OR s o d ((d : Int) - o) (M_ref23_reader_product_io R fu (st1 s l o d)) (prodS S can l) := by
  unfold M_ref23_reader_product_io prodS
  have hp := rx_power hs hf hK hl
  have hsh := sh_power (can := can) (fun _ => hK.2.2.2.1) l
  have hll := hl.length_le
  cases hps : powS S can l with
  | inl b =>
    rw [hps] at hp
    obtain ⟨q, y, hq, hE⟩ := hp
    rw [bd_t hq]
    have hlp : loopN (B_ref23_reader_product_io_0 fu R) fu (q, y) = some (q, y) := by
      obtain ⟨n, rfl⟩ : ∃ m, fu = m + 1 := ⟨fu - 1, by omega⟩
      rw [loopN_t]
      unfold B_ref23_reader_product_io_0
      simp only []
      rw [if_neg (er_bad hs hE)]
    show OR s o d _ (bd (loopN (B_ref23_reader_product_io_0 fu R) fu (q, y)) _) _
    rw [bd_t hlp]
    exact ⟨_, _, rfl, hE⟩
  | inr q =>
    obtain ⟨u, r2⟩ := q
    rw [hps] at hp hsh
    have hp : M_ref23_reader_power_io R fu (st1 s l o d) = some (u, st1 s r2 o d) := hp
    rw [bd_t hp]
    have h1 := rx_prodL hs hf hK (r2.length + 1) u r2 fu (hsh.1.trans hl) (by omega) (by have := hsh.2; omega)
    show OR s o d _ (bd (loopN (B_ref23_reader_product_io_0 fu R) fu (u, st1 s r2 o d)) fun (t7, t8) => some (t7, t8)) (prodL S can (r2.length + 1) u r2)
    have e : ∀ z : Option (Tr × Sr), (bd z fun (t7, t8) => some (t7, t8)) = z := fun z => by cases z <;> rfl
    rw [e]
    exact h1
theorem rx_sumL (hs : s.length ≤ 4096) (hf : 10000 ≤ fu) (hK : Kr s o d S can R) : ∀ (m : Nat) (t : Tr) (l : Tx) (n : Nat), l <:+ s → l.length < m → m < n →
    OR s o d ((d : Int) - o) (loopN (B_ref23_reader_sum_io_0 fu R) n (t, st1 s l o d)) (sumL S can m t l)
  | 0, t, l, n, hl, hm, hn => by omega
  | m + 1, t, l, n, hl, hm, hn => by
    obtain ⟨n, rfl⟩ : ∃ m, n = m + 1 := ⟨n - 1, by omega⟩
    have ih := fun t l h1 h2 => rx_sumL hs hf hK m t l n h1 h2 (by omega)
    have hbad : ∀ (t : Tr) (y : Sr), ¬ y.2.2.2.2 < 0 → loopN (B_ref23_reader_sum_io_0 fu R) n (t, y) = some (t, y) := fun t y hy => by
      obtain ⟨n, rfl⟩ : ∃ m, n = m + 1 := ⟨n - 1, by omega⟩
      rw [loopN_t]
      unfold B_ref23_reader_sum_io_0
      simp only []
      rw [if_neg hy]
    rw [loopN_t]
    generalize loopN (B_ref23_reader_sum_io_0 fu R) n = L at ih hbad
    unfold B_ref23_reader_sum_io_0 sumL
    simp only []
    rw [if_pos (by decide)]
    have h2 := (skp_suf l).trans hl
    have h3 := (skp_suf l).length_le
    cases hk : skp l with
    | nil =>
      rw [bd_t (rx_sign_n hs (by omega) hl hk)]
      exact rfl
    | cons c r =>
      rw [hk] at h2 h3
      rw [List.length_cons] at h3
      have hr := suf_tail h2
      rw [bd_t (rx_sign_c hs (by omega) hl hk)]
      simp only []
      by_cases hc : c = 43 ∨ c = 45
      · have hcc : (if ((c : Nat) : Int) = (((43 : Nat) : Nat) : Int) then (some (.inl ()) : Option (Unit ⊕ Unit)) else if ((c : Nat) : Int) = (((45 : Nat) : Nat) : Int) then some (.inl ()) else some (.inr ())) = some (.inl ()) := by
          rcases hc with rfl | rfl <;> rfl
        rw [hcc, z_bd, if_pos hc]
        simp only []
        rw [pp_64 hs h2, z_nm]
        have hp := rx_prod hs hf hK hr
        have hsh := sh_prodS (can := can) (fun _ => hK.2.2.2.1) r
        show OR s o d _ (bd (M_ref23_reader_product_io R fu (st1 s r o d)) _) _
        cases hps : prodS S can r with
        | inl b =>
          rw [hps] at hp
          obtain ⟨q, y, hq, hE⟩ := hp
          rw [bd_t hq]
          show OR s o d _ (L (_, y)) _
          rw [hbad _ y (er_bad hs hE)]
          exact ⟨_, _, rfl, hE⟩
        | inr q =>
          obtain ⟨u, r2⟩ := q
          rw [hps] at hp hsh
          have hp : M_ref23_reader_product_io R fu (st1 s r o d) = some (u, st1 s r2 o d) := hp
          rw [bd_t hp]
          exact ih _ r2 (hsh.1.trans hr) (by have := hsh.2; omega)
      · have hc2 := not_or.1 hc
        rw [if_neg (by omega), if_neg (by omega), z_bd, if_neg hc]
        exact rfl
theorem rx_sumS (hs : s.length ≤ 4096) (hf : 10000 ≤ fu) (hK : Kr s o d S can (M_ref23_reader_sum_io fu)) {l : Tx} (hl : l <:+ s) : OR s o d ((d : Int) - o) (M_ref23_reader_sum_io (fu + 1) (st1 s l o d)) (sumS S can l) := by
  have e : ∀ z : Option (Tr × Sr), (bd z fun (t7, t8) => some (t7, t8)) = z := fun z => by cases z <;> rfl
  have fin : ∀ (l' : Tx) (f : Tr → Tr), l' <:+ s → OR s o d ((d : Int) - o) (bd (bd (M_ref23_reader_product_io (M_ref23_reader_sum_io fu) fu (st1 s l' o d)) fun (q, y) => some (f q, y)) fun (t3, t4) =>
      bd (loopN (B_ref23_reader_sum_io_0 fu (M_ref23_reader_sum_io fu)) fu (t3, t4)) fun (t8, t9) => some (t8, t9)) (match prodS S can l' with
      | .inl b => .inl b
      | .inr (t, r2) => sumL S can (r2.length + 1) (f t) r2) := fun l' f hl' => by
    have hp := rx_prod hs hf hK hl'
    have hsh := sh_prodS (can := can) (fun _ => hK.2.2.2.1) l'
    have hll := hl'.length_le
    cases hps : prodS S can l' with
    | inl b =>
      rw [hps] at hp
      obtain ⟨q, y, hq, hE⟩ := hp
      rw [bd_t hq, z_bd]
      have hlp : loopN (B_ref23_reader_sum_io_0 fu (M_ref23_reader_sum_io fu)) fu (f q, y) = some (f q, y) := by
        obtain ⟨n, rfl⟩ : ∃ m, fu = m + 1 := ⟨fu - 1, by omega⟩
        rw [loopN_t]
        unfold B_ref23_reader_sum_io_0
        simp only []
        rw [if_neg (er_bad hs hE)]
      show OR s o d _ (bd (loopN (B_ref23_reader_sum_io_0 fu (M_ref23_reader_sum_io fu)) fu (f q, y)) _) _
      rw [bd_t hlp]
      exact ⟨_, _, rfl, hE⟩
    | inr q =>
      obtain ⟨u, r2⟩ := q
      rw [hps] at hp hsh
      have hp : M_ref23_reader_product_io (M_ref23_reader_sum_io fu) fu (st1 s l' o d) = some (u, st1 s r2 o d) := hp
      rw [bd_t hp, z_bd]
      have h1 := rx_sumL hs hf hK (r2.length + 1) (f u) r2 fu (hsh.1.trans hl') (by omega) (by have := hsh.2; omega)
      show OR s o d _ (bd (loopN (B_ref23_reader_sum_io_0 fu (M_ref23_reader_sum_io fu)) fu (f u, st1 s r2 o d)) fun (t8, t9) => some (t8, t9)) (sumL S can (r2.length + 1) (f u) r2)
      rw [e]
      exact h1
  unfold M_ref23_reader_sum_io sumS
  have h2 := (skp_suf l).trans hl
  cases hk : skp l with
  | nil =>
    rw [bd_t (rx_sign_n hs (by omega) hl hk)]
    exact fin [] id (List.nil_suffix)
  | cons c r =>
    rw [hk] at h2
    rw [bd_t (rx_sign_c hs (by omega) hl hk)]
    by_cases hc : c = 45
    · subst hc
      simp only []
      rw [if_pos (by trivial), if_pos (by trivial), z_bd, if_pos (by trivial), pp_64 hs h2, z_nm]
      exact fin r (fun t => .mk 126 [] 0 0 t .nil) (suf_tail h2)
    · simp only []
      rw [if_neg (by omega), if_neg hc, z_bd, if_neg (show ¬ (false = true) by decide)]
      exact fin (c :: r) id h2
theorem rx_sumD (hs : s.length ≤ 4096) : ∀ (r o d fu : Nat) (l : Tx), o + r = d → d ≤ 100 → 10000 + r < fu → l <:+ s → OR s o d ((d : Int) - o) (M_ref23_reader_sum_io fu (st1 s l o d)) (sumD r l)
  | 0, o, d, fu, l, h1, h2, h3, hl => by
    obtain ⟨fu, rfl⟩ : ∃ m, fu = m + 1 := ⟨fu - 1, by omega⟩
    refine rx_sumS hs (by omega) (S := fun _ => .inl []) (can := false) ⟨⟨fun h => (by cases h), fun h => absurd (by omega) h⟩, by omega, h2, fun l => (List.nil_suffix : [] <:+ l), fun h => (by cases h)⟩ hl
  | r + 1, o, d, fu, l, h1, h2, h3, hl => by
    obtain ⟨fu, rfl⟩ : ∃ m, fu = m + 1 := ⟨fu - 1, by omega⟩
    refine rx_sumS hs (by omega) ⟨⟨fun _ => by omega, fun _ => rfl⟩, by omega, h2, sh_sumD r, fun _ l hl => ?_⟩ hl
    have := rx_sumD hs r (o + 1) d fu l (by omega) h2 (by omega) hl
    have e : (d : Int) - ((o + 1 : Nat) : Int) = (d : Int) - o - 1 := by omega
    rw [e] at this
    exact this
theorem rx_parse (hf : 20000 ≤ fu) {a : Int} : M_ref23_Parse fu s a = some (parseS s a) := by
  unfold M_ref23_Parse parseS
  by_cases h1 : a < 0
  · rw [if_pos h1, if_pos h1]
  · rw [if_neg h1, if_neg h1]
    by_cases h2 : 100 < a
    · rw [if_pos h2, if_pos h2]
    · rw [if_neg h2, if_neg h2]
      by_cases h3 : 4096 < s.length
      · rw [if_pos (by omega), if_pos h3]
      · rw [if_neg (by omega), if_neg h3]
        have hs : s.length ≤ 4096 := by omega
        have h4 := rx_sumD (s := s) hs a.toNat 0 a.toNat fu s (by omega) (by omega) (by omega) (List.suffix_refl _)
        have e1 : pp s s = 0 := by unfold pp; omega
        have e2 : ((a.toNat : Nat) : Int) = a := by omega
        have e3 : st1 s s 0 a.toNat = (s, (0, (0, (a, (-1 : Int))))) := by unfold st1; rw [e1, e2]; rfl
        rw [e3] at h4
        have hsh := sh_sumD a.toNat s
        cases hp : sumD a.toNat s with
        | inl b =>
          rw [hp] at h4
          obtain ⟨q, y, hq, hE⟩ := h4
          rw [bd_t hq]
          have hb := er_bad hs hE
          obtain ⟨x, o', rfl, _⟩ := hE
          simp only []
          rw [if_neg hb, z_bd, if_neg hb, z_bd, if_pos (by omega)]
          rfl
        | inr q =>
          obtain ⟨t, r⟩ := q
          rw [hp] at h4 hsh
          have h4 : M_ref23_reader_sum_io fu (s, (0, (0, (a, (-1 : Int))))) = some (t, st1 s r 0 a.toNat) := h4
          rw [bd_t h4]
          have hr := hsh.1
          have h5 := (skp_suf r).trans hr
          simp only []
          rw [if_pos (by decide)]
          cases hk : skp r with
          | nil =>
            rw [bd_t (rx_sign_n hs (by omega) hr hk)]
            simp only []
            rw [if_pos (by decide), z_bd]
            simp only []
            rw [if_pos (by decide), if_neg (by rw [pp_nil]; omega), z_bd]
            simp only []
            rw [if_neg (by decide)]
          | cons c r2 =>
            rw [hk] at h5
            rw [bd_t (rx_sign_c hs (by omega) hr hk)]
            simp only []
            have hpg := pp_rng (l := c :: r2) hs
            by_cases hc : c = 0
            · rw [if_pos (by rw [hc]), z_bd]
              simp only []
              rw [if_pos (by decide), if_pos (pp_lt h5), bd_t rx_fail, z_bd]
              simp only []
              rw [if_pos (by omega)]
              rfl
            · rw [if_neg (by omega), bd_t rx_fail, z_bd]
              simp only []
              rw [if_neg (by omega), z_bd]
              simp only []
              rw [if_pos (by omega)]
              rfl
end
end
section
def Okt : Nat → Tr → Prop
  | _, .nil => True
  | 0, .mk .. => False
  | n + 1, .mk _ m _ _ l r => m.length ≤ 4096 ∧ Okt n l ∧ Okt n r
theorem Okt.nil {n : Nat} : Okt n .nil := by cases n <;> trivial
theorem Okt.up : ∀ {n k : Nat} {t : Tr}, Okt n t → n ≤ k → Okt k t
  | n, k, .nil, _, _ => .nil
  | 0, _, .mk .., h, _ => h.elim
  | n + 1, k, .mk a m c i l r, h, hk => by
    obtain ⟨k, rfl⟩ : ∃ j, k = j + 1 := ⟨k - 1, by omega⟩
    exact ⟨h.1, Okt.up h.2.1 (by omega), Okt.up h.2.2 (by omega)⟩
theorem okt_mk {n k : Nat} {a c : Nat} {m : List Nat} {i : Int} {l r : Tr} (hm : m.length ≤ 4096) (hl : Okt n l) (hr : Okt n r) (hk : n < k) : Okt k (.mk a m c i l r) := by
  obtain ⟨k, rfl⟩ : ∃ j, k = j + 1 := ⟨k - 1, by omega⟩
  exact ⟨hm, hl.up (by omega), hr.up (by omega)⟩
def Oz (L : Nat) : Rd Tr → Prop
  | .inl _ => True
  | .inr (t, r) => Okt (L - r.length) t
theorem num_len {l d r : Tx} (h : numS l = .inr (d, r)) (hl : l.length ≤ 4096) : (toL (dv d)).length ≤ 4096 := by
  obtain ⟨g1, _, g3, _⟩ := numS_ok h
  have := toL_dv_len d g1
  omega
section
variable {S : Tx → Rd Tr} {can : Bool}
theorem ok_atom (hS : ∀ l, ShS l (S l)) (hO : can = true → ∀ l : Tx, l.length ≤ 4096 → Oz l.length (S l)) {l : Tx} (hl : l.length ≤ 4096) : Oz l.length (atmS S can l) := by
  have h0 := (skp_suf l).length_le
  unfold atmS
  split
  · trivial
  · next c r e =>
    rw [e, List.length_cons] at h0
    split
    · have hsh := sh_num (c :: r)
      split
      · trivial
      · next d r2 e2 =>
        rw [e2] at hsh
        have := hsh.2
        rw [List.length_cons] at this
        exact okt_mk (num_len e2 (by rw [List.length_cons]; omega)) (n := 0) .nil .nil (by omega)
    · split
      · exact okt_mk (n := 0) (by simp) .nil .nil (by omega)
      · split
        · next hc =>
          have h1 := hO hc.2 r (by omega)
          have h2 := hS r
          split
          · trivial
          · next t r2 e2 =>
            rw [e2] at h1 h2
            have h3 := (skp_suf r2).length_le
            split
            · trivial
            · next c2 r3 e3 =>
              rw [e3, List.length_cons] at h3
              split
              · exact Okt.up h1 (by omega)
              · trivial
        · trivial
theorem ok_power (hS : ∀ l, ShS l (S l)) (hO : can = true → ∀ l : Tx, l.length ≤ 4096 → Oz l.length (S l)) {l : Tx} (hl : l.length ≤ 4096) : Oz l.length (powS S can l) := by
  have h0 := ok_atom hS hO hl
  have hsh := sh_atom (can := can) (fun _ => hS) l
  unfold powS
  split
  · trivial
  · next t r e =>
    rw [e] at h0 hsh
    have h2 := (skp_suf r).length_le
    have h4 := hsh.2
    split
    · next e2 => exact Okt.up h0 (by rw [List.length_nil]; omega)
    · next c r2 e2 =>
      rw [e2, List.length_cons] at h2
      split
      · have h3 := sh_expo r2
        split
        · trivial
        · next n r3 e3 =>
          rw [e3] at h3
          have := h3.2
          exact okt_mk (by simp) h0 .nil (by omega)
      · exact Okt.up h0 (by rw [List.length_cons]; omega)
theorem ok_prodL (hS : ∀ l, ShS l (S l)) (hO : can = true → ∀ l : Tx, l.length ≤ 4096 → Oz l.length (S l)) {L : Nat} : ∀ (n : Nat) (t : Tr) (l : Tx), l.length ≤ L → L ≤ 4096 → Okt (L - l.length) t → Oz L (prodL S can n t l)
  | 0, t, l, _, _, h => h
  | n + 1, t, l, hl, hL, h => by
    have h0 := (skp_suf l).length_le
    unfold prodL
    split
    · next e => exact Okt.up h (by rw [List.length_nil]; omega)
    · next c r e =>
      rw [e, List.length_cons] at h0
      split
      · have h1 := ok_power hS hO (l := r) (by omega)
        have hsh := sh_power (can := can) (fun _ => hS) r
        split
        · trivial
        · next u r2 e2 =>
          rw [e2] at h1 hsh
          have := hsh.2
          exact ok_prodL hS hO n _ r2 (by omega) hL (okt_mk (n := L - r2.length - 1) (by simp) (h.up (by omega)) (Okt.up h1 (by omega)) (by omega))
      · split
        · have hsh := sh_num r
          split
          · trivial
          · next d r2 e2 =>
            rw [e2] at hsh
            have := hsh.2
            exact ok_prodL hS hO n _ r2 (by omega) hL (okt_mk (num_len e2 (by omega)) h .nil (by omega))
        · exact Okt.up h (by rw [List.length_cons]; omega)
theorem ok_prodS (hS : ∀ l, ShS l (S l)) (hO : can = true → ∀ l : Tx, l.length ≤ 4096 → Oz l.length (S l)) {l : Tx} (hl : l.length ≤ 4096) : Oz l.length (prodS S can l) := by
  have h1 := ok_power hS hO hl
  have hsh := sh_power (can := can) (fun _ => hS) l
  unfold prodS
  split
  · trivial
  · next t r e =>
    rw [e] at h1 hsh
    exact ok_prodL hS hO _ _ r (by have := hsh.2; omega) hl h1
theorem ok_sumL (hS : ∀ l, ShS l (S l)) (hO : can = true → ∀ l : Tx, l.length ≤ 4096 → Oz l.length (S l)) {L : Nat} : ∀ (n : Nat) (t : Tr) (l : Tx), l.length ≤ L → L ≤ 4096 → Okt (L - l.length) t → Oz L (sumL S can n t l)
  | 0, t, l, _, _, h => h
  | n + 1, t, l, hl, hL, h => by
    have h0 := (skp_suf l).length_le
    unfold sumL
    split
    · next e => exact Okt.up h (by rw [List.length_nil]; omega)
    · next c r e =>
      rw [e, List.length_cons] at h0
      split
      · have h1 := ok_prodS hS hO (l := r) (by omega)
        have hsh := sh_prodS (can := can) (fun _ => hS) r
        split
        · trivial
        · next u r2 e2 =>
          rw [e2] at h1 hsh
          have := hsh.2
          exact ok_sumL hS hO n _ r2 (by omega) hL (okt_mk (n := L - r2.length - 1) (by simp) (h.up (by omega)) (Okt.up h1 (by omega)) (by omega))
      · exact Okt.up h (by rw [List.length_cons]; omega)
theorem ok_sumS (hS : ∀ l, ShS l (S l)) (hO : can = true → ∀ l : Tx, l.length ≤ 4096 → Oz l.length (S l)) {l : Tx} (hl : l.length ≤ 4096) : Oz l.length (sumS S can l) := by
  have h0 := (skp_suf l).length_le
  unfold sumS
  split
  · next e =>
    have h1 := ok_prodS hS hO (l := []) (by simp)
    have hsh := sh_prodS (can := can) (fun _ => hS) []
    split
    · trivial
    · next t r e2 =>
      rw [e2] at hsh
      have := hsh.2
      simp at this
  · next c r e =>
    rw [e, List.length_cons] at h0
    split
    · have h1 := ok_prodS hS hO (l := r) (by omega)
      have hsh := sh_prodS (can := can) (fun _ => hS) r
      split
      · trivial
      · next t r2 e2 =>
        rw [e2] at h1 hsh
        have := hsh.2
        exact ok_sumL hS hO _ _ r2 (by omega) hl (okt_mk (by simp) h1 .nil (by omega))
    · have h1 := ok_prodS hS hO (l := c :: r) (by rw [List.length_cons]; omega)
      have hsh := sh_prodS (can := can) (fun _ => hS) (c :: r)
      split
      · trivial
      · next t r2 e2 =>
        rw [e2] at h1 hsh
        have := hsh.2
        rw [List.length_cons] at this
        exact ok_sumL hS hO _ _ r2 (by omega) hl (Okt.up h1 (by rw [List.length_cons]; omega))
end
theorem ok_sumD : ∀ (n : Nat) (l : Tx), l.length ≤ 4096 → Oz l.length (sumD n l)
  | 0, l, hl => ok_sumS (S := fun _ => .inl []) (can := false) (fun l => (List.nil_suffix : [] <:+ l)) (fun h => (by cases h)) hl
  | n + 1, l, hl => ok_sumS (sh_sumD n) (fun _ => ok_sumD n) hl
theorem ok_parse (s : Tx) (a : Int) : Okt 4096 (parseS s a).1 := by
  unfold parseS
  split
  · exact .nil
  · split
    · exact .nil
    · split
      · exact .nil
      · next h3 =>
        have h := ok_sumD a.toNat s (by omega)
        split
        · exact .nil
        · next t r e =>
          rw [e] at h
          split
          · exact Okt.up h (by omega)
          · exact .nil
theorem theirs_id : ∀ (n fu : Nat) (t : Tr) (k : Int), Okt n t → n < fu → (n : Int) ≤ k → k ≤ 4200 → M_law23_theirs fu t k = some t
  | n, fu, .nil, k, _, h1, _, _ => by
    obtain ⟨fu, rfl⟩ : ∃ j, fu = j + 1 := ⟨fu - 1, by omega⟩
    rfl
  | 0, _, .mk .., _, h, _, _, _ => h.elim
  | n + 1, fu, .mk a m c i l r, k, h, h1, h2, h3 => by
    obtain ⟨fu, rfl⟩ : ∃ j, fu = j + 1 := ⟨fu - 1, by omega⟩
    have i1 := theirs_id n fu l (k - 1) h.2.1 (by omega) (by omega) (by omega)
    have i2 := theirs_id n fu r (k - 1) h.2.2 (by omega) (by omega) (by omega)
    unfold M_law23_theirs
    rw [if_neg (c := (Tr.mk a m c i l r).isNil = true) Bool.false_ne_true, if_neg (by omega)]
    simp only [Tr.opt, z_bd]
    rw [ck64_t ⟨by omega, by omega⟩, i1, z_bd, ck64_t ⟨by omega, by omega⟩, i2, z_bd]
    rfl
theorem same_id : ∀ (n fu : Nat) (t : Tr), Okt n t → n + 5000 < fu → M_ref23_Same fu t t = some true
  | n, fu, .nil, _, h1 => by
    obtain ⟨fu, rfl⟩ : ∃ j, fu = j + 1 := ⟨fu - 1, by omega⟩
    rfl
  | 0, _, .mk .., h, _ => h.elim
  | n + 1, fu, .mk a m c i l r, h, h1 => by
    obtain ⟨fu, rfl⟩ : ∃ j, fu = j + 1 := ⟨fu - 1, by omega⟩
    have i1 := same_id n fu l h.2.1 (by omega)
    have i2 := same_id n fu r h.2.2 (by omega)
    have hm := h.1
    unfold M_ref23_Same
    rw [if_neg (c := (Tr.mk a m c i l r).isNil = true) Bool.false_ne_true, if_neg (c := (Tr.mk a m c i l r).isNil = true) Bool.false_ne_true]
    simp only [Tr.opt, z_bd]
    rw [if_pos (by trivial), if_pos (by trivial), if_pos (by trivial), bd_t (M_ref01_Same_eq (by omega) (by omega)), if_pos (by simp), i1, z_bd, if_pos (by trivial), i2, z_bd]
theorem expr_parses {fu : Nat} (hf : 20000 ≤ fu) (haw : M_law23_awake fu = some true) (s : Tx) (a : Int) : M_law23_ExprParses fu s a = some true := by
  unfold M_law23_ExprParses
  have hp := px_parse (s := s) hf (a := a)
  have hr := rx_parse (s := s) hf (a := a)
  have h := ok_parse s a
  generalize parseS s a = p at hp hr h
  obtain ⟨t, x, e⟩ := p
  rw [haw, z_bd, hp, z_bd]
  simp only []
  rw [hr, z_bd]
  simp only []
  rw [if_pos (by trivial), if_pos (by trivial), if_pos (by trivial)]
  cases t with
  | nil => rfl
  | mk b m c i l r =>
    rw [if_neg (c := (Tr.mk b m c i l r).isNil = true) Bool.false_ne_true, if_neg (c := (Tr.mk b m c i l r).isNil = true) Bool.false_ne_true, z_nm, if_pos (by decide), theirs_id 4096 fu _ 4200 h (by omega) (by decide) (by decide), z_bd, same_id 4096 fu _ h (by omega), z_bd]
    rfl
end
set_option maxRecDepth 100000 in
theorem law23_awake : M_law23_awake 35184372088832 = some true := by decide +kernel
section
namespace exprParses
open Go.ChangeShapes Go.WideShapes Go.ChangeAt Go.RowKit
theorem own : ownKnob Tryz.prog.godebug = none := by kernel_rfl
theorem atT : TyAt Tryz.prog .tx 9 := id (by kernel_rfl : Tryz.prog.underlying 9 = some .string)
theorem atI : TyAt Tryz.prog .i 3 := id (by kernel_rfl : Tryz.prog.underlying 3 = some (.int .i64))
def tabC : DataW Unit → Array Value
  | .agg l => (l.map fun
    | .lit (.int k z) => Value.int k z
    | _ => undef).toArray
  | _ => #[]
def txtC : DataW Unit → ByteArray
  | .iface _ (.ptr (.agg [.lit (.string l)])) => ⟨l.toArray⟩
  | _ => ⟨#[]⟩
def setC (cs : Array Value) : Obj → Obj
  | .cells _ t z => .cells cs t z
  | o => o
noncomputable def low : Nat := (World.holding Tryz.prog default ⟨#[], #[], []⟩).heap.size
noncomputable def laidWorld (os : Os) : World :=
  let w0 := World.holding Tryz.prog os ⟨#[.cells #[.string (txtC Rows.laid_strconv_ErrRange)] 163, .cells #[.string (txtC Rows.laid_strconv_ErrSyntax)] 163], #[], []⟩
  { w0 with heap := ((((w0.heap.modify 6 (setC (tabC Rows.laid_math_bits_deBruijn32tab))).modify 7 (setC (tabC Rows.laid_math_bits_deBruijn64tab))).modify 3 (setC (tabC Rows.laid_internal_strconv_uint64pow10))).modify 5 (setC #[.iface 161 (.pointer (some ⟨low, 0, none⟩))])).modify 4 (setC #[.iface 161 (.pointer (some ⟨low + 1, 0, none⟩))]) }
set_option maxRecDepth 100000 in
theorem laidWorld_met (os : Os) (args : Array Value) : laidMet Tryz.prog Rows.exprParsesRow.laid ((laidWorld os).forCall (fun _ _ => 0) ⟨#[], args, []⟩).memory :=
  laidMet_of_run' 8 (by kernel_rfl) (by kernel_rfl)
theorem cells163 : Tryz.prog.cellsOf 163 = 1 := by kernel_rfl
theorem cells9 : Tryz.prog.cellsOf 9 = 1 := by kernel_rfl
def esName : String := match Rows.laid_strconv_ErrRange (H := Unit) with
  | .iface nm _ => nm
  | _ => ""
theorem row161 (u : TypeId) (h : Tryz.prog.typeName? 3 u = some esName) : u = 161 :=
  typeName_ptr_named (nm := "errors.errorString") (by kernel_rfl) (by kernel_rfl) (by decide) u (h.trans (by kernel_rfl))
set_option maxRecDepth 100000 in
theorem gv_of {W : World} (h : laidMet Tryz.prog Rows.exprParsesRow.laid W) : Gv W := by
  have h3 := h.tail.tail
  have h4 := h3.tail
  have h5 := h4.tail
  refine ⟨Lib.tabIs_of_head (g := 3) (t := 137) (e := 64) (n := 20) (rest := _) (by kernel_rfl) (by kernel_rfl) (by kernel_rfl) (by kernel_rfl) (by kernel_rfl) (by kernel_rfl) h3, ?_, ?_⟩
  · obtain ⟨a, s, hv, _⟩ := laid_sentinel (g := 5) h4 (by kernel_rfl) (by kernel_rfl) Tryz.underlying110 row161 Tryz.underlying161 Tryz.underlying163 rfl rfl Tryz.underlying9 cells163 cells9
    exact ⟨_, _, hv⟩
  · obtain ⟨a, s, hv, _⟩ := laid_sentinel (g := 4) h5 (by kernel_rfl) (by kernel_rfl) Tryz.underlying110 row161 Tryz.underlying161 Tryz.underlying163 rfl rfl Tryz.underlying9 cells163 cells9
    exact ⟨_, _, hv⟩
def sgO (M : AsD [.d .tx, .d .i] → Option Bool) : Sig := ⟨3, [.d .tx, .d .i], [.d .b], M, 0⟩
set_option maxRecDepth 100000 in
theorem lifted {M : AsD [.d .tx, .d .i] → Option Bool} (hs : SigOK Tryz.prog (sgO M)) (hz : ∀ x, M x = some true) (os : Os) (started : os.Started) (H : Type) (enc : TypeId × Value → H) :
    ReturnsInHanded {} Tryz.checked os 3 .any (fun w args => (Rows.exprParsesSpec.pre enc Tryz.prog Tryz.f3 Rows.exprParsesRow.domain false w args ∧ laidMet Tryz.prog Rows.exprParsesRow.laid w) ∧ sizedMet enc Tryz.prog Tryz.f3 (OpenSpec.ofChange Rows.exprParsesSpec) false w args)
      (Rows.exprParsesSpec.post enc Tryz.prog Tryz.f3 false true false false) := by
  refine returnsInHanded_of_change_and (C := Tryz.checked) (X := fun w _ => laidMet Tryz.prog Rows.exprParsesRow.laid w) (fun _ _ _ hh h => h.of_heap hh) own started (by kernel_rfl) Tryz.func3
    (ChangeSpec.witness_at (enc := enc) (C := Tryz.checked) (os := os) (X := fun w _ => laidMet Tryz.prog Rows.exprParsesRow.laid w) false (laidWorld os) #[.string ⟨#[]⟩, .int .i64 0] 8 rfl (by kernel_rfl) (by kernel_rfl) (by kernel_rfl) (by kernel_rfl) (by kernel_rfl) (laidWorld_met os _)) ?_
  intro W base args ds gs before hval0 hW hcnd hsz hL _
  have hval : ∀ (j : Nat) t v, Tryz.f3.params[j]? = some t → args[j]? = some v → Value.okWide Tryz.prog W .any base t v := hval0
  have hW' := hW
  obtain ⟨p, q, hA0, hV, _, _, _⟩ := hW
  have hA : DataW.TrodAll enc Tryz.prog W 0 (fun _ => true) true Tryz.f3.params.toList args.toList ds p := hA0
  rw [Tryz.params3] at hA
  obtain ⟨v0, vs0, d0, ds0, p0, q0, hargs, rfl, _, _, r0⟩ := trodAll_cons hA
  obtain ⟨v1, vs1, d1, ds1, p1, q1, _, rfl, _, _, r1⟩ := trodAll_cons r0
  obtain ⟨_, rfl, _⟩ := trodAll_nil r1
  obtain ⟨rfl, _⟩ := trodVars_none hV
  exact law_endw (sg := sgO M) hW' rfl hval hsz (by kernel_rfl) (by rw [Tryz.params3]; decide +kernel) (by rw [Tryz.params3]; exact ⟨atT, atI, trivial⟩) rfl hs
    (fun x hx hw => hz x) (B := 4) (by kernel_rfl) Tryz.underlying4 rfl rfl (gv_of hL)
set_option maxRecDepth 100000 in
theorem fnm : Tryz.pinned.checked.prog.funcNamed Rows.exprParsesRow.func = some 3 := by kernel_rfl
set_option maxRecDepth 100000 in
set_option maxHeartbeats 4000000 in
theorem jf : joinedFacts Tryz.pinned.checked.prog 3 Tryz.f3 Rows.exprParsesSpec Rows.exprParsesRow = true := by
  unfold joinedFacts
  simp only [Bool.and_eq_true]
  repeat' apply And.intro
  all_goals (as_aux_lemma => kernel_rfl)
theorem over : Rows.exprParsesRow.holds Tryz.pinned (OpenSpec.ofChange Rows.exprParsesSpec) :=
  OpenClaim.holds_of_wide 3 Tryz.f3 rfl rfl rfl rfl rfl rfl rfl ⟨rfl, rfl, rfl, rfl, rfl⟩ rfl rfl rfl rfl rfl fnm Tryz.func3 jf
    (of_decide_eq_true (by kernel_rfl)) (by unfold Func.isWrapper; first | (rw [if_pos (by decide +kernel)]; kernel_rfl) | (rw [if_neg (by decide +kernel)]; exact ⟨rfl, rfl⟩))
    (fun os started H enc _ => lifted (M := fun x => M_law23_ExprParses 35184372088832 x.1 x.2.1) (g_law23_ExprParses 35184372088832) (fun x => expr_parses (by decide) law23_awake x.1 x.2.1) os started H enc)
set_option maxRecDepth 100000 in
theorem proved : Rows.ExprParsesCardSaid :=
  Claim7.holds_tied_plain_at .later [] [.data, .data, .data, .sentinel, .sentinel] true (true, "d152d743adf367b099d5ff6922d9055b9fa6c78bd8b292ecd99d2df46e1405a1") true
    over (fun _ h => by cases h) (by kernel_rfl) (fun _ h => by cases h) exprParses_row_tie rfl ⟨rfl, rfl⟩ (by kernel_rfl) rfl
    (fun f fn hf hfn => by
      obtain rfl : f = 3 := (Option.some.inj (fnm.symm.trans hf)).symm
      obtain rfl : fn = Tryz.f3 := (Option.some.inj (Tryz.func3.symm.trans hfn)).symm
      refine ⟨by kernel_rfl, fun j t ht => ?_⟩
      rw [Tryz.params3] at ht
      have h3 : t = 9 ∨ t = 3 := by
        rcases j with _ | _ | j
        · left; simpa using ht.symm
        · right; simpa using ht.symm
        · simp at ht
      rcases h3 with rfl | rfl
      · exact (by kernel_rfl : Tryz.prog.wantsStandIn 9 = false)
      · exact (by kernel_rfl : Tryz.prog.wantsStandIn 3 = false))
    (by kernel_rfl)
end exprParses
end
end Go.Proofs.YtbaoeefdjpaomaaGreatDoor
