/- ExprPlace: the law's mirror, its row and its card. No condition. -/
import Derived.Test.YtbaoeefdjpaomaaDoorZp6
import Derived.Test.YtbaoeefdjpaomaaDoorTie
import Derived.Test.YtbaoeefdjpaomaaDoorCards
import Derived.Stop.LaidErr
import Derived.Handed
set_option linter.unusedVariables false
set_option linter.unusedSimpArgs false
namespace Go.Proofs.YtbaoeefdjpaomaaDoor
section
def cut (n : Nat) (l : Tx) : Tx := l.take (l.length - n)
theorem cut_0 (l : Tx) : cut 0 l = l := by unfold cut; rw [Nat.sub_zero, List.take_length]
theorem cut_c {n c : Nat} {r : Tx} (h : n ≤ r.length) : cut n (c :: r) = c :: cut n r := by
  unfold cut
  rw [List.length_cons, show r.length + 1 - n = (r.length - n) + 1 by omega, List.take_succ_cons]
theorem cut_all (l : Tx) : cut l.length l = [] := by unfold cut; rw [Nat.sub_self, List.take_zero]
theorem cut_len (n : Nat) (l : Tx) : (cut n l).length = l.length - n := by unfold cut; rw [List.length_take]; omega
def Gd (n : Nat) (b : Tx) : Prop := n ≤ b.length ∧ (n = b.length ∨ ∃ c b', b = c :: b' ∧ isDg c = false)
def CutR {α : Type} (n : Nat) (z z' : Rd α) : Prop := match z with
  | .inl b => Gd n b → z' = .inl (cut n b)
  | .inr (t, r) => n ≤ r.length → z' = .inr (t, cut n r)
theorem skp_cut : ∀ (l : Tx) (n : Nat), n ≤ (skp l).length → skp (cut n l) = cut n (skp l)
  | [], n, h => by
    have : n = 0 := by simpa [skp] using h
    subst this
    rfl
  | c :: r, n, h => by
    have hr := (skp_suf r).length_le
    rw [skp] at h ⊢
    by_cases hc : c = 32
    · rw [if_pos hc] at h ⊢
      rw [cut_c (by omega), skp, if_pos hc, skp_cut r n h]
    · rw [if_neg hc] at h ⊢
      rw [List.length_cons] at h
      by_cases hn : n ≤ r.length
      · rw [cut_c hn, skp, if_neg hc]
      · have : n = (c :: r).length := by rw [List.length_cons]; omega
        rw [this, cut_all]; rfl
theorem dwS_cut : ∀ (l : Tx) (n : Nat), n ≤ (dwS l).length → dwS (cut n l) = cut n (dwS l)
  | [], n, h => by
    have : n = 0 := by simpa [dwS] using h
    subst this
    rfl
  | c :: r, n, h => by
    have hr := (dwS_suf r).length_le
    rw [dwS] at h ⊢
    by_cases hc : isDg c = true
    · rw [if_pos hc] at h ⊢
      rw [cut_c (by omega), dwS, if_pos hc, dwS_cut r n h]
    · rw [if_neg hc] at h ⊢
      rw [List.length_cons] at h
      by_cases hn : n ≤ r.length
      · rw [cut_c hn, dwS, if_neg hc]
      · have : n = (c :: r).length := by rw [List.length_cons]; omega
        rw [this, cut_all]; rfl
theorem nbS_cut (l : Tx) (n : Nat) (h : n ≤ (nbS l).length) : nbS (cut n l) = cut n (nbS l) := by
  cases l with
  | nil =>
    have : n = 0 := by simpa [nbS] using h
    subst this
    rfl
  | cons c r =>
    have hr := (dwS_suf r).length_le
    rw [nbS] at h ⊢
    by_cases h1 : c = 48
    · rw [if_pos h1] at h ⊢
      rw [cut_c h, nbS, if_pos h1]
    · rw [if_neg h1] at h ⊢
      by_cases hc : isDg c = true
      · rw [if_pos hc] at h ⊢
        rw [cut_c (by omega), nbS, if_neg h1, if_pos hc, dwS_cut r n h]
      · rw [if_neg hc] at h ⊢
        rw [List.length_cons] at h
        by_cases hn : n ≤ r.length
        · rw [cut_c hn, nbS, if_neg h1, if_neg hc]
        · have : n = (c :: r).length := by rw [List.length_cons]; omega
          rw [this, cut_all]; rfl
theorem num_cut (l : Tx) (n : Nat) : CutR n (numS l) (numS (cut n l)) := by
  have h1 := (nbS_suf (skp l)).length_le
  unfold numS
  split
  · next e =>
    rintro ⟨h, _⟩
    rw [skp_cut l n h, nbS_cut _ n (by omega), if_pos (by rw [cut_len, cut_len]; omega)]
  · next e =>
    intro h
    rw [skp_cut l n (by omega), nbS_cut _ n h, if_neg (by rw [cut_len, cut_len]; omega), cut_len, cut_len]
    have : (skp l).length - n - ((nbS (skp l)).length - n) = (skp l).length - (nbS (skp l)).length := by omega
    rw [this]
    unfold cut
    rw [List.take_take, Nat.min_eq_left (by omega)]
theorem num_head {l d r : Tx} (h : numS l = .inr (d, r)) : ∃ c k, skp l = c :: k ∧ isDg c = true := by
  rw [← numS_skp] at h
  cases hk : skp l with
  | nil => rw [hk] at h; cases h
  | cons c k =>
    rw [hk, numS_c (skp_skp' hk)] at h
    by_cases hc : isDg c = true
    · exact ⟨c, k, rfl, hc⟩
    · rw [if_neg hc] at h; cases h
theorem exp_cut (l : Tx) (n : Nat) : CutR n (expS l) (expS (cut n l)) := by
  have h := num_cut l n
  unfold expS
  cases hn : numS l with
  | inl b =>
    rw [hn] at h
    intro hg
    rw [h hg]
  | inr q =>
    obtain ⟨d, r⟩ := q
    rw [hn] at h
    simp only []
    have hr := (nbS_suf (skp l)).length_le
    have hsh := sh_num l
    rw [hn] at hsh
    by_cases hv : dv d ≤ 1000
    · rw [if_pos hv]
      intro hg
      rw [h hg]
      simp only []
      rw [if_pos hv]
    · rw [if_neg hv]
      rintro ⟨hg, hg2⟩
      obtain ⟨c, k, hk, hc⟩ := num_head hn
      rcases hg2 with hg2 | ⟨c', b', e1, e2⟩
      · have e3 : skp (cut n l) = [] := by rw [skp_cut l n hg, hg2, cut_all]
        have e4 : numS (cut n l) = .inl [] := by unfold numS; rw [e3]; rfl
        rw [e4, hg2, cut_all]
      · rw [hk] at e1
        cases e1
        rw [hc] at e2; cases e2
section
variable {S : Tx → Rd Tr} {can : Bool}
theorem cutc {n c : Nat} {r : Tx} (h : n ≤ (c :: r).length) : (n ≤ r.length ∧ cut n (c :: r) = c :: cut n r) ∨ (n = (c :: r).length ∧ cut n (c :: r) = []) := by
  by_cases hn : n ≤ r.length
  · exact .inl ⟨hn, cut_c hn⟩
  · have : n = (c :: r).length := by rw [List.length_cons] at *; omega
    exact .inr ⟨this, by rw [this, cut_all]⟩
theorem atm_cut (hS : ∀ l, ShS l (S l)) (hO : can = true → ∀ (l : Tx) n, CutR n (S l) (S (cut n l))) (l : Tx) (n : Nat) : CutR n (atmS S can l) (atmS S can (cut n l)) := by
  cases hk : skp l with
  | nil =>
    unfold atmS
    rw [hk]
    rintro ⟨h, _⟩
    have : n = 0 := by simpa using h
    subst this
    rw [cut_0, cut_0, hk]
  | cons c r =>
    have hsk : n ≤ (c :: r).length → skp (cut n l) = cut n (c :: r) := fun h => by rw [skp_cut l n (by rw [hk]; exact h), hk]
    unfold atmS
    rw [hk]
    simp only []
    by_cases hd : isDg c = true
    · rw [if_pos hd]
      have h := num_cut (c :: r) n
      have hsh := sh_num (c :: r)
      cases hn : numS (c :: r) with
      | inl b =>
        rw [numS_c (skp_skp' hk), if_pos hd] at hn
        cases hn
      | inr q =>
        obtain ⟨d, r2⟩ := q
        rw [hn] at h hsh
        have hl := hsh.2
        rw [List.length_cons] at hl
        intro hg
        have hg : n ≤ r2.length := hg
        rw [hsk (by rw [List.length_cons]; omega), cut_c (by omega)]
        simp only []
        rw [if_pos hd, ← cut_c (c := c) (n := n) (r := r) (by omega), h hg]
    · rw [if_neg hd]
      by_cases hlt : isLt c = true
      · rw [if_pos hlt]
        intro hg
        have hg : n ≤ r.length := hg
        rw [hsk (by rw [List.length_cons]; omega), cut_c hg]
        simp only []
        rw [if_neg hd, if_pos hlt]
      · rw [if_neg hlt]
        by_cases hc : c = 40 ∧ can = true
        · rw [if_pos hc]
          have h := hO hc.2 r n
          have hsh := hS r
          cases hs : S r with
          | inl b =>
            rw [hs] at h hsh
            intro hg
            have hb := (show b <:+ r from hsh).length_le
            have h1 := hg.1
            rw [hsk (by rw [List.length_cons]; omega), cut_c (by omega)]
            simp only []
            rw [if_neg hd, if_neg hlt, if_pos hc, h hg]
          | inr q =>
            obtain ⟨t, r2⟩ := q
            rw [hs] at h hsh
            have hl2 := hsh.2
            have hs2 := (skp_suf r2).length_le
            simp only []
            cases hk2 : skp r2 with
            | nil =>
              rintro ⟨hg, _⟩
              have : n = 0 := by simpa using hg
              subst this
              rw [cut_0, cut_0, hk]
              simp only []
              rw [if_neg hd, if_neg hlt, if_pos hc, hs]
              simp only [hk2]
            | cons c2 r3 =>
              rw [hk2] at hs2
              have hsk2 : n ≤ (c2 :: r3).length → skp (cut n r2) = cut n (c2 :: r3) := fun h => by rw [skp_cut r2 n (by rw [hk2]; exact h), hk2]
              rw [List.length_cons] at hs2
              simp only []
              by_cases h41 : c2 = 41
              · rw [if_pos h41]
                intro hg
                have hg : n ≤ r3.length := hg
                rw [hsk (by rw [List.length_cons]; omega), cut_c (by omega)]
                simp only []
                rw [if_neg hd, if_neg hlt, if_pos hc, h (show n ≤ r2.length by omega)]
                simp only []
                rw [hsk2 (by rw [List.length_cons]; omega), cut_c hg]
                simp only []
                rw [if_pos h41]
              · rw [if_neg h41]
                rintro ⟨hg, _⟩
                have hg' := hg
                rw [List.length_cons] at hg'
                rw [hsk (by rw [List.length_cons]; omega), cut_c (by omega)]
                simp only []
                rw [if_neg hd, if_neg hlt, if_pos hc, h (show n ≤ r2.length by omega)]
                simp only []
                rw [hsk2 hg]
                rcases cutc hg with ⟨g1, g2⟩ | ⟨g1, g2⟩
                · rw [g2]
                  simp only []
                  rw [if_neg h41]
                · rw [g2]
        · rw [if_neg hc]
          rintro ⟨hg, _⟩
          rw [hsk hg]
          rcases cutc hg with ⟨g1, g2⟩ | ⟨g1, g2⟩
          · rw [g2]
            simp only []
            rw [if_neg hd, if_neg hlt, if_neg hc]
          · rw [g2]
theorem pow_cut (hS : ∀ l, ShS l (S l)) (hO : can = true → ∀ (l : Tx) n, CutR n (S l) (S (cut n l))) (l : Tx) (n : Nat) : CutR n (powS S can l) (powS S can (cut n l)) := by
  have ha := atm_cut hS hO l n
  have hsh := sh_atom (can := can) (fun _ => hS) l
  unfold powS
  cases hat : atmS S can l with
  | inl b =>
    rw [hat] at ha
    intro hg
    rw [ha hg]
  | inr q =>
    obtain ⟨t, r⟩ := q
    rw [hat] at ha
    have hs2 := (skp_suf r).length_le
    simp only []
    cases hk : skp r with
    | nil =>
      intro hg
      have : n = 0 := by simpa using hg
      subst this
      rw [cut_0, cut_0, hat]
      simp only [hk]
    | cons c r2 =>
      rw [hk] at hs2
      have hsk : n ≤ (c :: r2).length → skp (cut n r) = cut n (c :: r2) := fun h => by rw [skp_cut r n (by rw [hk]; exact h), hk]
      rw [List.length_cons] at hs2
      simp only []
      by_cases h94 : c = 94
      · rw [if_pos h94]
        have he := exp_cut r2 n
        have hse := sh_expo r2
        cases hx : expS r2 with
        | inl b =>
          rw [hx] at he hse
          intro hg
          have hb := (show b <:+ r2 from hse).length_le
          have h1 := hg.1
          rw [ha (show n ≤ r.length by omega)]
          simp only []
          rw [hsk (by rw [List.length_cons]; omega), cut_c (by omega)]
          simp only []
          rw [if_pos h94, he hg]
        | inr q =>
          obtain ⟨v, r3⟩ := q
          rw [hx] at he hse
          intro hg
          have hg : n ≤ r3.length := hg
          have h1 := hse.2
          rw [ha (show n ≤ r.length by omega)]
          simp only []
          rw [hsk (by rw [List.length_cons]; omega), cut_c (by omega)]
          simp only []
          rw [if_pos h94, he hg]
      · rw [if_neg h94]
        intro hg
        have hg : n ≤ (c :: r2).length := hg
        have hg' := hg
        rw [List.length_cons] at hg'
        rw [ha (show n ≤ r.length by omega)]
        simp only []
        rw [hsk hg]
        rcases cutc hg with ⟨g1, g2⟩ | ⟨g1, g2⟩
        · rw [g2]
          simp only []
          rw [if_neg h94]
        · rw [g2]
theorem prodL_cut (hS : ∀ l, ShS l (S l)) (hO : can = true → ∀ (l : Tx) n, CutR n (S l) (S (cut n l))) (n : Nat) : ∀ (m : Nat) (t : Tr) (l : Tx) (m' : Nat), l.length < m → (cut n l).length < m' → CutR n (prodL S can m t l) (prodL S can m' t (cut n l))
  | 0, t, l, m', h, _ => by omega
  | m + 1, t, l, m', h, h' => by
    obtain ⟨m', rfl⟩ : ∃ j, m' = j + 1 := ⟨m' - 1, by omega⟩
    have ih := fun t l h1 h2 => prodL_cut hS hO n m t l m' h1 h2
    rw [cut_len] at h'
    have hs2 := (skp_suf l).length_le
    unfold prodL
    cases hk : skp l with
    | nil =>
      intro hg
      have : n = 0 := by simpa using hg
      subst this
      rw [cut_0, cut_0, hk]
    | cons c r =>
      rw [hk] at hs2
      have hsk : n ≤ (c :: r).length → skp (cut n l) = cut n (c :: r) := fun h => by rw [skp_cut l n (by rw [hk]; exact h), hk]
      rw [List.length_cons] at hs2
      have nxt : ∀ (t' : Tr) (r2 : Tx), r2.length < r.length → (n ≤ r2.length → prodL S can (m' + 1) t (cut n l) = prodL S can m' t' (cut n r2)) → CutR n (prodL S can m t' r2) (prodL S can (m' + 1) t (cut n l)) := fun t' r2 hl he => by
        have hz := sl_prodL (can := can) (fun _ => hS) m t' r2
        have hi := ih t' r2 (by omega)
        cases hp : prodL S can m t' r2 with
        | inl b =>
          rw [hp] at hz hi
          intro hg
          have hb := (show b <:+ r2 from hz).length_le
          have h1 := hg.1
          rw [he (by omega)]
          exact hi (by rw [cut_len]; omega) hg
        | inr q =>
          obtain ⟨u, r3⟩ := q
          rw [hp] at hz hi
          intro hg
          have hg : n ≤ r3.length := hg
          have hb := (show r3 <:+ r2 from hz).length_le
          rw [he (by omega)]
          exact hi (by rw [cut_len]; omega) hg
      simp only []
      by_cases h42 : c = 42
      · rw [if_pos h42]
        have hp := pow_cut hS hO r n
        have hsh := sh_power (can := can) (fun _ => hS) r
        cases hps : powS S can r with
        | inl b =>
          rw [hps] at hp hsh
          intro hg
          have hb := (show b <:+ r from hsh).length_le
          have h1 := hg.1
          rw [hsk (by rw [List.length_cons]; omega), cut_c (by omega)]
          simp only []
          rw [if_pos h42, hp hg]
        | inr q =>
          obtain ⟨u, r2⟩ := q
          rw [hps] at hp hsh
          have hl := hsh.2
          refine nxt _ r2 hl fun hn => ?_
          rw [prodL, hsk (by rw [List.length_cons]; omega), cut_c (by omega)]
          simp only []
          rw [if_pos h42, hp hn]
      · rw [if_neg h42]
        by_cases h47 : c = 47
        · rw [if_pos h47]
          have hp := num_cut r n
          have hsh := sh_num r
          cases hps : numS r with
          | inl b =>
            rw [hps] at hp hsh
            intro hg
            have hb := (show b <:+ r from hsh).length_le
            have h1 := hg.1
            rw [hsk (by rw [List.length_cons]; omega), cut_c (by omega)]
            simp only []
            rw [if_neg h42, if_pos h47, hp hg]
          | inr q =>
            obtain ⟨u, r2⟩ := q
            rw [hps] at hp hsh
            have hl := hsh.2
            refine nxt _ r2 hl fun hn => ?_
            rw [prodL, hsk (by rw [List.length_cons]; omega), cut_c (by omega)]
            simp only []
            rw [if_neg h42, if_pos h47, hp hn]
        · rw [if_neg h47]
          intro hg
          have hg : n ≤ (c :: r).length := hg
          rw [hsk hg]
          rcases cutc hg with ⟨g1, g2⟩ | ⟨g1, g2⟩
          · rw [g2]
            simp only []
            rw [if_neg h42, if_neg h47]
          · rw [g2]
theorem prodS_cut (hS : ∀ l, ShS l (S l)) (hO : can = true → ∀ (l : Tx) n, CutR n (S l) (S (cut n l))) (l : Tx) (n : Nat) : CutR n (prodS S can l) (prodS S can (cut n l)) := by
  have hp := pow_cut hS hO l n
  have hsh := sh_power (can := can) (fun _ => hS) l
  unfold prodS
  cases hps : powS S can l with
  | inl b =>
    rw [hps] at hp
    intro hg
    rw [hp hg]
  | inr q =>
    obtain ⟨u, r⟩ := q
    rw [hps] at hp
    have hz := sl_prodL (can := can) (fun _ => hS) (r.length + 1) u r
    have hi := prodL_cut hS hO n (r.length + 1) u r ((cut n r).length + 1) (by omega) (by omega)
    simp only []
    cases hpl : prodL S can (r.length + 1) u r with
    | inl b =>
      rw [hpl] at hz hi
      intro hg
      have hb := (show b <:+ r from hz).length_le
      have h1 := hg.1
      rw [hp (show n ≤ r.length by omega)]
      exact hi hg
    | inr q =>
      obtain ⟨v, r3⟩ := q
      rw [hpl] at hz hi
      intro hg
      have hb := (show r3 <:+ r from hz).length_le
      have hg : n ≤ r3.length := hg
      rw [hp (show n ≤ r.length by omega)]
      exact hi hg
theorem sumL_cut (hS : ∀ l, ShS l (S l)) (hO : can = true → ∀ (l : Tx) n, CutR n (S l) (S (cut n l))) (n : Nat) : ∀ (m : Nat) (t : Tr) (l : Tx) (m' : Nat), l.length < m → (cut n l).length < m' → CutR n (sumL S can m t l) (sumL S can m' t (cut n l))
  | 0, t, l, m', h, _ => by omega
  | m + 1, t, l, m', h, h' => by
    obtain ⟨m', rfl⟩ : ∃ j, m' = j + 1 := ⟨m' - 1, by omega⟩
    have ih := fun t l h1 h2 => sumL_cut hS hO n m t l m' h1 h2
    rw [cut_len] at h'
    have hs2 := (skp_suf l).length_le
    unfold sumL
    cases hk : skp l with
    | nil =>
      intro hg
      have : n = 0 := by simpa using hg
      subst this
      rw [cut_0, cut_0, hk]
    | cons c r =>
      rw [hk] at hs2
      have hsk : n ≤ (c :: r).length → skp (cut n l) = cut n (c :: r) := fun h => by rw [skp_cut l n (by rw [hk]; exact h), hk]
      rw [List.length_cons] at hs2
      simp only []
      by_cases hc : c = 43 ∨ c = 45
      · rw [if_pos hc]
        have hp := prodS_cut hS hO r n
        have hsh := sh_prodS (can := can) (fun _ => hS) r
        cases hps : prodS S can r with
        | inl b =>
          rw [hps] at hp hsh
          intro hg
          have hb := (show b <:+ r from hsh).length_le
          have h1 := hg.1
          rw [hsk (by rw [List.length_cons]; omega), cut_c (by omega)]
          simp only []
          rw [if_pos hc, hp hg]
        | inr q =>
          obtain ⟨u, r2⟩ := q
          rw [hps] at hp hsh
          have hl := hsh.2
          have hz := sl_sumL (can := can) (fun _ => hS) m (.mk c [] 0 0 t u) r2
          have hi := ih (.mk c [] 0 0 t u) r2 (by omega)
          simp only []
          cases hpl : sumL S can m (.mk c [] 0 0 t u) r2 with
          | inl b =>
            rw [hpl] at hz hi
            intro hg
            have hb := (show b <:+ r2 from hz).length_le
            have h1 := hg.1
            rw [hsk (by rw [List.length_cons]; omega), cut_c (by omega)]
            simp only []
            rw [if_pos hc, hp (show n ≤ r2.length by omega)]
            exact hi (by rw [cut_len]; omega) hg
          | inr q =>
            obtain ⟨v, r3⟩ := q
            rw [hpl] at hz hi
            intro hg
            have hb := (show r3 <:+ r2 from hz).length_le
            have hg : n ≤ r3.length := hg
            rw [hsk (by rw [List.length_cons]; omega), cut_c (by omega)]
            simp only []
            rw [if_pos hc, hp (show n ≤ r2.length by omega)]
            exact hi (by rw [cut_len]; omega) hg
      · rw [if_neg hc]
        intro hg
        have hg : n ≤ (c :: r).length := hg
        rw [hsk hg]
        rcases cutc hg with ⟨g1, g2⟩ | ⟨g1, g2⟩
        · rw [g2]
          simp only []
          rw [if_neg hc]
        · rw [g2]
end
end
section
section
variable {S : Tx → Rd Tr} {can : Bool}
theorem sumS_cut (hS : ∀ l, ShS l (S l)) (hO : can = true → ∀ (l : Tx) n, CutR n (S l) (S (cut n l))) (l : Tx) (n : Nat) : CutR n (sumS S can l) (sumS S can (cut n l)) := by
  have fin : ∀ (k : Tx) (f : Tr → Tr) (z' : Rd Tr), (∀ b, prodS S can k = .inl b → Gd n b → z' = .inl (cut n b)) →
      (∀ t r2, prodS S can k = .inr (t, r2) → n ≤ r2.length → z' = sumL S can ((cut n r2).length + 1) (f t) (cut n r2)) →
      CutR n (match prodS S can k with
        | .inl b => .inl b
        | .inr (t, r2) => sumL S can (r2.length + 1) (f t) r2) z' := fun k f z' h1 h2 => by
    cases hp : prodS S can k with
    | inl b => exact fun hg => h1 b hp hg
    | inr q =>
      obtain ⟨t, r2⟩ := q
      have hz := sl_sumL (can := can) (fun _ => hS) (r2.length + 1) (f t) r2
      have hi := sumL_cut hS hO n (r2.length + 1) (f t) r2 ((cut n r2).length + 1) (by omega) (by omega)
      simp only []
      cases hs : sumL S can (r2.length + 1) (f t) r2 with
      | inl b =>
        rw [hs] at hz hi
        intro hg
        have hb := (show b <:+ r2 from hz).length_le
        rw [h2 t r2 hp (by have := hg.1; omega)]
        exact hi hg
      | inr q =>
        obtain ⟨v, r3⟩ := q
        rw [hs] at hz hi
        intro hg
        have hg : n ≤ r3.length := hg
        have hb := (show r3 <:+ r2 from hz).length_le
        rw [h2 t r2 hp (by omega)]
        exact hi hg
  have hnil : sumS S can [] = .inl [] := rfl
  have hs2 := (skp_suf l).length_le
  cases hk : skp l with
  | nil =>
    have e : sumS S can l = .inl [] := by unfold sumS; rw [hk]; rfl
    rw [e]
    rintro ⟨h, _⟩
    have : n = 0 := by simpa using h
    subst this
    rw [cut_0, cut_0, e]
  | cons c r =>
    rw [hk] at hs2
    have hsk : n ≤ (c :: r).length → skp (cut n l) = cut n (c :: r) := fun h => by rw [skp_cut l n (by rw [hk]; exact h), hk]
    rw [List.length_cons] at hs2
    by_cases hc : c = 45
    · have hp := prodS_cut hS hO r n
      have hsh := sh_prodS (can := can) (fun _ => hS) r
      have e : sumS S can l = (match prodS S can r with
        | .inl b => .inl b
        | .inr (t, r2) => sumL S can (r2.length + 1) (.mk 126 [] 0 0 t .nil) r2) := by
        unfold sumS; rw [hk]; simp only [if_pos hc]; rfl
      rw [e]
      have e2 : n ≤ r.length → sumS S can (cut n l) = (match prodS S can (cut n r) with
        | .inl b => .inl b
        | .inr (t, r2) => sumL S can (r2.length + 1) (.mk 126 [] 0 0 t .nil) r2) := fun hn => by
        unfold sumS; rw [hsk (by rw [List.length_cons]; omega), cut_c hn]; simp only [if_pos hc]; rfl
      refine fin r (fun t => .mk 126 [] 0 0 t .nil) _ (fun b hb hg => ?_) (fun t r2 hb hn => ?_)
      · rw [hb] at hp hsh
        have h1 := (show b <:+ r from hsh).length_le
        rw [e2 (by have := hg.1; omega), hp hg]
      · rw [hb] at hp hsh
        have h1 := hsh.2
        rw [e2 (by omega), hp hn]
    · have hp := prodS_cut hS hO (c :: r) n
      have hsh := sh_prodS (can := can) (fun _ => hS) (c :: r)
      have e : sumS S can l = (match prodS S can (c :: r) with
        | .inl b => .inl b
        | .inr (t, r2) => sumL S can (r2.length + 1) t r2) := by
        unfold sumS; rw [hk]; simp only [if_neg hc]; rfl
      rw [e]
      have e2 : n ≤ r.length → sumS S can (cut n l) = (match prodS S can (cut n (c :: r)) with
        | .inl b => .inl b
        | .inr (t, r2) => sumL S can (r2.length + 1) t r2) := fun hn => by
        unfold sumS; rw [hsk (by rw [List.length_cons]; omega), cut_c hn]; simp only [if_neg hc]; rfl
      refine fin (c :: r) id _ (fun b hb hg => ?_) (fun t r2 hb hn => ?_)
      · rw [hb] at hp hsh
        have h1 := (show b <:+ c :: r from hsh).length_le
        have h2 := hg.1
        by_cases hn : n ≤ r.length
        · rw [e2 hn, hp hg]
        · rw [List.length_cons] at h1
          have h3 : n = (c :: r).length := by rw [List.length_cons]; omega
          have h4 : skp (cut n l) = [] := by rw [hsk (by omega), h3, cut_all]
          have h5 : sumS S can (cut n l) = .inl [] := by unfold sumS; rw [h4]; rfl
          have h6 : cut n b = [] := by
            have : n = b.length := by rw [List.length_cons] at h3; omega
            rw [this, cut_all]
          rw [h5, h6]
      · rw [hb] at hp hsh
        have h1 := hsh.2
        rw [List.length_cons] at h1
        rw [e2 (by omega), hp hn]
        rfl
end
theorem sumD_cut : ∀ (d : Nat) (l : Tx) (n : Nat), CutR n (sumD d l) (sumD d (cut n l))
  | 0, l, n => sumS_cut (S := fun _ => .inl []) (can := false) (fun l => (List.nil_suffix : [] <:+ l)) (fun h => (by cases h)) l n
  | d + 1, l, n => sumS_cut (sh_sumD d) (fun _ => sumD_cut d) l n
theorem take_cut {s : Tx} {n : Nat} (h : n ≤ s.length) : s.take (s.length - n) = cut n s := rfl
theorem place {s : Tx} {a : Int} {t : Tr} {x : Int} (hs : s.length ≤ 300) (h : parseS s a = (t, x, 2)) : ∃ p : Nat, x = (p : Int) ∧ p ≤ s.length ∧
    ((parseS (s.take p) a).2.2 = 0 ∨ ((parseS (s.take p) a).2.2 = 2 ∧ (parseS (s.take p) a).2.1 = (p : Int))) ∧
    (p < s.length → ((parseS (s.take (p + 1)) a).2.2 = 2 ∧ (parseS (s.take (p + 1)) a).2.1 = (p : Int)) ∨ isDg (s.getD p 0) = true) := by
  unfold parseS at h
  split at h
  · simp at h
  · next h1 =>
    split at h
    · simp at h
    · next h2 =>
      rw [if_neg (by omega)] at h
      have P : ∀ n, parseS (cut n s) a = (match sumD a.toNat (cut n s) with
          | .inl b => (.nil, (((cut n s).length - b.length : Nat) : Int), 2)
          | .inr (t, r) => (match skp r with
            | [] => (t, ((cut n s).length : Int), 0)
            | c :: r2 => (.nil, (((cut n s).length - (r2.length + 1) : Nat) : Int), 2))) := fun n => by
        conv => lhs; unfold parseS
        rw [if_neg h1, if_neg h2, if_neg (by rw [cut_len]; omega)]
        rfl
      have hcut := sumD_cut a.toNat s
      have hsh := sh_sumD a.toNat s
      cases hd : sumD a.toNat s with
      | inl b =>
        rw [hd] at h hsh
        simp only [Prod.mk.injEq] at h
        have hb : b <:+ s := hsh
        have hbl := hb.length_le
        refine ⟨s.length - b.length, h.2.1.symm, by omega, .inr ?_, fun hlt => ?_⟩
        · have h3 := hcut b.length
          rw [hd] at h3
          have h3 := h3 ⟨Nat.le_refl _, .inl rfl⟩
          rw [take_cut hbl, P, h3, cut_all]
          simp only []
          rw [cut_len]
          exact ⟨trivial, by simp⟩
        · cases b with
          | nil => simp at hlt
          | cons c b' =>
            rw [suf_get hb]
            by_cases hc : isDg c = true
            · exact .inr hc
            · left
              rw [List.length_cons] at hbl
              have h3 := hcut b'.length
              rw [hd] at h3
              have h3 := h3 ⟨by rw [List.length_cons]; omega, .inr ⟨c, b', rfl, by simpa using hc⟩⟩
              have e : s.length - (c :: b').length + 1 = s.length - b'.length := by rw [List.length_cons]; omega
              rw [e, take_cut (by omega), P, h3, cut_c (Nat.le_refl _), cut_all]
              simp only []
              rw [cut_len]
              exact ⟨trivial, by rw [List.length_cons, List.length_cons, List.length_nil]; omega⟩
      | inr q =>
        obtain ⟨u, r⟩ := q
        rw [hd] at h hsh
        have hr : r <:+ s := hsh.1
        have hrl := hr.length_le
        have hkl := (skp_suf r).length_le
        simp only [] at h
        cases hk : skp r with
        | nil =>
          rw [hk] at h
          simp at h
        | cons c r2 =>
          rw [hk] at h hkl
          simp only [Prod.mk.injEq] at h
          rw [List.length_cons] at hkl
          refine ⟨s.length - (r2.length + 1), h.2.1.symm, by omega, .inl ?_, fun hlt => .inl ?_⟩
          · have h3 := hcut (r2.length + 1)
            rw [hd] at h3
            have h3 := h3 (show r2.length + 1 ≤ r.length by omega)
            have h4 : skp (cut (r2.length + 1) r) = [] := by
              rw [skp_cut r _ (by rw [hk, List.length_cons]; omega), hk]
              exact cut_all (c :: r2)
            rw [take_cut (by omega), P, h3]
            simp only [h4]
          · have h3 := hcut r2.length
            rw [hd] at h3
            have h3 := h3 (show r2.length ≤ r.length by omega)
            have h4 : skp (cut r2.length r) = [c] := by
              rw [skp_cut r _ (by rw [hk, List.length_cons]; omega), hk, cut_c (Nat.le_refl _), cut_all]
            have e : s.length - (r2.length + 1) + 1 = s.length - r2.length := by omega
            rw [e, take_cut (by omega), P, h3]
            simp only [h4]
            rw [cut_len]
            exact ⟨trivial, by rw [List.length_nil]; omega⟩
end
theorem parse_rng (s : Tx) (a : Int) : (parseS s a).2.2 = 0 ∨ (parseS s a).2.2 = 1 ∨ ((parseS s a).2.2 = 2 ∧ 0 ≤ (parseS s a).2.1 ∧ (parseS s a).2.1 ≤ (s.length : Int)) := by
  unfold parseS
  split
  · exact .inr (.inl rfl)
  · split
    · exact .inr (.inl rfl)
    · split
      · exact .inr (.inr ⟨rfl, by decide, by show (4096 : Int) ≤ _; omega⟩)
      · split
        · exact .inr (.inr ⟨rfl, by show (0 : Int) ≤ ((_ : Nat) : Int); omega, by show ((_ : Nat) : Int) ≤ _; omega⟩)
        · split
          · exact .inl rfl
          · exact .inr (.inr ⟨rfl, by show (0 : Int) ≤ ((_ : Nat) : Int); omega, by show ((_ : Nat) : Int) ≤ _; omega⟩)
theorem expr_place {fu : Nat} (hf : 20000 ≤ fu) (haw : M_law23_awake fu = some true) (s : Tx) (a : Int) : M_law23_ExprPlace fu s a = some true := by
  unfold M_law23_ExprPlace
  have hp := px_parse (s := s) hf (a := a)
  have hr := parse_rng s a
  have hpl := fun hs t x h => place (s := s) (a := a) (t := t) (x := x) hs h
  generalize parseS s a = p at hp hr hpl
  obtain ⟨t, x, e⟩ := p
  simp only at hr
  rw [haw, z_bd, hp, z_bd]
  simp only []
  have tail : (if e = (0 : Int) then some true else if e = (1 : Int) then some true else if e = (2 : Int) then if (0 : Int) ≤ x then if x ≤ ((s.length : Nat) : Int) then some true else some false else some false else some false : Option Bool) = some true := by
    rcases hr with rfl | rfl | ⟨rfl, h1, h2⟩
    · rfl
    · rfl
    · rw [if_neg (by decide), if_neg (by decide), if_pos rfl, if_pos h1, if_pos h2]
  by_cases he : e = 2
  · rw [if_pos he]
    by_cases h300 : (300 : Int) < ((s.length : Nat) : Int)
    · rw [if_pos h300, if_pos (by trivial)]; exact tail
    · have hx : 0 ≤ x ∧ x ≤ (s.length : Int) := by
        rcases hr with h | h | h
        · omega
        · omega
        · exact h.2
      obtain ⟨p, rfl, hpl1, hA, hB⟩ := hpl (by omega) t x (by rw [he])
      rw [if_neg h300, if_neg (by omega), if_neg (by omega), ckN_n, ck_t hpl1, z_nm]
      have hp2 := px_parse (s := s.take p) hf (a := a)
      have hq : p = s.length → (parseS (s.take p) a).2.2 = 2 := fun e1 => by
        have := px_parse (s := s) hf (a := a)
        rw [hp] at this
        have h1 := (Option.some.inj this).symm
        rw [e1, List.take_length, h1]
        exact he
      generalize parseS (s.take p) a = q at hp2 hA hq
      obtain ⟨u, y, f⟩ := q
      rw [hp2, z_bd]
      simp only at hA hq
      simp only []
      have hs1 : (if f = (2 : Int) then if y = (p : Int) then if f = (1 : Int) then (some (.inr ()) : Option (Unit ⊕ Unit)) else some (.inl ()) else some (.inr ()) else if f = (1 : Int) then some (.inr ()) else some (.inl ())) = some (.inl ()) := by
        rcases hA with rfl | ⟨rfl, rfl⟩
        · rfl
        · rw [if_pos rfl, if_pos rfl, if_neg (by decide)]
      rw [hs1, z_bd]
      simp only []
      by_cases hpe : p = s.length
      · rw [if_pos (by omega), if_pos (by trivial), if_pos (hq hpe)]
      · have hlt : p < s.length := by omega
        have e1 : ((p : Nat) : Int) + 1 = ((p + 1 : Nat) : Int) := by omega
        rw [if_neg (by omega), e1, ck64_t ⟨by omega, by omega⟩, ckN_n, ck_t (by omega), z_nm]
        have hp3 := px_parse (s := s.take (p + 1)) hf (a := a)
        have hB := hB hlt
        generalize parseS (s.take (p + 1)) a = q3 at hp3 hB
        obtain ⟨u3, y3, f3⟩ := q3
        simp only at hB
        rw [hp3, z_bd]
        simp only []
        rw [ckI_n hlt, z_nm]
        by_cases h48 : 48 ≤ s.getD p 0
        · rw [if_pos (by omega), ckI_n hlt, z_nm]
          by_cases h57 : s.getD p 0 ≤ 57
          · rw [if_pos (by omega), if_pos (by trivial)]
            split
            · split <;> rfl
            · rfl
          · rw [if_neg (by omega), if_pos (by trivial)]
            rcases hB with ⟨rfl, rfl⟩ | hB
            · rw [if_pos rfl, if_pos rfl]
            · exact absurd (isDg_iff.1 hB).2 h57
        · rw [if_neg (by omega), if_pos (by trivial)]
          rcases hB with ⟨rfl, rfl⟩ | hB
          · rw [if_pos rfl, if_pos rfl]
          · exact absurd (isDg_iff.1 hB).1 h48
  · rw [if_neg he, if_pos (by trivial)]
    exact tail
set_option maxRecDepth 100000 in
theorem law23_awake : M_law23_awake 35184372088832 = some true := by decide +kernel
section
namespace exprPlace
open Go.ChangeShapes Go.WideShapes Go.ChangeAt Go.RowKit
theorem own : ownKnob Tryd.prog.godebug = none := by kernel_rfl
theorem atT : TyAt Tryd.prog .tx 9 := id (by kernel_rfl : Tryd.prog.underlying 9 = some .string)
theorem atI : TyAt Tryd.prog .i 3 := id (by kernel_rfl : Tryd.prog.underlying 3 = some (.int .i64))
def tabC : DataW Unit → Array Value
  | .agg l => (l.map fun
    | .lit (.int k z) => Value.int k z
    | _ => undef).toArray
  | _ => #[]
def txtC : DataW Unit → ByteArray
  | .iface _ (.ptr (.agg [.lit (.string l)])) => ⟨l.toArray⟩
  | _ => ⟨#[]⟩
def setC (cs : Array Value) : Obj → Obj
  | .cells _ t z => .cells cs t z
  | o => o
noncomputable def low : Nat := (World.holding Tryd.prog default ⟨#[], #[], []⟩).heap.size
noncomputable def laidWorld (os : Os) : World :=
  let w0 := World.holding Tryd.prog os ⟨#[.cells #[.string (txtC Rows.laid_strconv_ErrRange)] 132, .cells #[.string (txtC Rows.laid_strconv_ErrSyntax)] 132], #[], []⟩
  { w0 with heap := ((((w0.heap.modify 6 (setC (tabC Rows.laid_math_bits_deBruijn32tab))).modify 7 (setC (tabC Rows.laid_math_bits_deBruijn64tab))).modify 3 (setC (tabC Rows.laid_internal_strconv_uint64pow10))).modify 5 (setC #[.iface 130 (.pointer (some ⟨low, 0, none⟩))])).modify 4 (setC #[.iface 130 (.pointer (some ⟨low + 1, 0, none⟩))]) }
set_option maxRecDepth 100000 in
theorem laidWorld_met (os : Os) (args : Array Value) : laidMet Tryd.prog Rows.exprPlaceRow.laid ((laidWorld os).forCall (fun _ _ => 0) ⟨#[], args, []⟩).memory :=
  laidMet_of_run' 8 (by kernel_rfl) (by kernel_rfl)
theorem cells163 : Tryd.prog.cellsOf 132 = 1 := by kernel_rfl
theorem cells9 : Tryd.prog.cellsOf 9 = 1 := by kernel_rfl
def esName : String := match Rows.laid_strconv_ErrRange (H := Unit) with
  | .iface nm _ => nm
  | _ => ""
theorem row161 (u : TypeId) (h : Tryd.prog.typeName? 3 u = some esName) : u = 130 :=
  typeName_ptr_named (nm := "errors.errorString") (by kernel_rfl) (by kernel_rfl) (by decide) u (h.trans (by kernel_rfl))
set_option maxRecDepth 100000 in
theorem gv_of {W : World} (h : laidMet Tryd.prog Rows.exprPlaceRow.laid W) : Gv W := by
  have h3 := h.tail.tail
  have h4 := h3.tail
  have h5 := h4.tail
  refine ⟨Lib.tabIs_of_head (g := 3) (t := 103) (e := 57) (n := 20) (rest := _) (by kernel_rfl) (by kernel_rfl) (by kernel_rfl) (by kernel_rfl) (by kernel_rfl) (by kernel_rfl) h3, ?_, ?_⟩
  · obtain ⟨a, s, hv, _⟩ := laid_sentinel (g := 5) h4 (by kernel_rfl) (by kernel_rfl) Tryd.underlying76 row161 Tryd.underlying130 Tryd.underlying132 rfl rfl Tryd.underlying9 cells163 cells9
    exact ⟨_, _, hv⟩
  · obtain ⟨a, s, hv, _⟩ := laid_sentinel (g := 4) h5 (by kernel_rfl) (by kernel_rfl) Tryd.underlying76 row161 Tryd.underlying130 Tryd.underlying132 rfl rfl Tryd.underlying9 cells163 cells9
    exact ⟨_, _, hv⟩
def sgO (M : AsD [.d .tx, .d .i] → Option Bool) : Sig := ⟨4, [.d .tx, .d .i], [.d .b], M, 0⟩
set_option maxRecDepth 100000 in
theorem lifted {M : AsD [.d .tx, .d .i] → Option Bool} (hs : SigOK Tryd.prog (sgO M)) (hz : ∀ x, M x = some true) (os : Os) (started : os.Started) (H : Type) (enc : TypeId × Value → H) :
    ReturnsInHanded {} Tryd.checked os 4 .any (fun w args => (Rows.exprPlaceSpec.pre enc Tryd.prog Tryd.f4 Rows.exprPlaceRow.domain false w args ∧ laidMet Tryd.prog Rows.exprPlaceRow.laid w) ∧ sizedMet enc Tryd.prog Tryd.f4 (OpenSpec.ofChange Rows.exprPlaceSpec) false w args)
      (Rows.exprPlaceSpec.post enc Tryd.prog Tryd.f4 false true false false) := by
  refine returnsInHanded_of_change_and (C := Tryd.checked) (X := fun w _ => laidMet Tryd.prog Rows.exprPlaceRow.laid w) (fun _ _ _ hh h => h.of_heap hh) own started (by kernel_rfl) Tryd.func4
    (ChangeSpec.witness_at (enc := enc) (C := Tryd.checked) (os := os) (X := fun w _ => laidMet Tryd.prog Rows.exprPlaceRow.laid w) false (laidWorld os) #[.string ⟨#[]⟩, .int .i64 0] 8 rfl (by kernel_rfl) (by kernel_rfl) (by kernel_rfl) (by kernel_rfl) (by kernel_rfl) (laidWorld_met os _)) ?_
  intro W base args ds gs before hval0 hW hcnd hsz hL _
  have hval : ∀ (j : Nat) t v, Tryd.f4.params[j]? = some t → args[j]? = some v → Value.okWide Tryd.prog W .any base t v := hval0
  have hW' := hW
  obtain ⟨p, q, hA0, hV, _, _, _⟩ := hW
  have hA : DataW.TrodAll enc Tryd.prog W 0 (fun _ => true) true Tryd.f4.params.toList args.toList ds p := hA0
  rw [Tryd.params4] at hA
  obtain ⟨v0, vs0, d0, ds0, p0, q0, hargs, rfl, _, _, r0⟩ := trodAll_cons hA
  obtain ⟨v1, vs1, d1, ds1, p1, q1, _, rfl, _, _, r1⟩ := trodAll_cons r0
  obtain ⟨_, rfl, _⟩ := trodAll_nil r1
  obtain ⟨rfl, _⟩ := trodVars_none hV
  exact law_endw (sg := sgO M) hW' rfl hval hsz (by kernel_rfl) (by rw [Tryd.params4]; decide +kernel) (by rw [Tryd.params4]; exact ⟨atT, atI, trivial⟩) rfl hs
    (fun x hx hw => hz x) (B := 4) (by kernel_rfl) Tryd.underlying4 rfl rfl (gv_of hL)
set_option maxRecDepth 100000 in
theorem fnm : Tryd.pinned.checked.prog.funcNamed Rows.exprPlaceRow.func = some 4 := by kernel_rfl
set_option maxRecDepth 100000 in
set_option maxHeartbeats 4000000 in
theorem jf : joinedFacts Tryd.pinned.checked.prog 4 Tryd.f4 Rows.exprPlaceSpec Rows.exprPlaceRow = true := by
  unfold joinedFacts
  simp only [Bool.and_eq_true]
  repeat' apply And.intro
  all_goals (as_aux_lemma => kernel_rfl)
theorem over : Rows.exprPlaceRow.holds Tryd.pinned (OpenSpec.ofChange Rows.exprPlaceSpec) :=
  OpenClaim.holds_of_wide 4 Tryd.f4 rfl rfl rfl rfl rfl rfl rfl ⟨rfl, rfl, rfl, rfl, rfl⟩ rfl rfl rfl rfl rfl fnm Tryd.func4 jf
    (of_decide_eq_true (by kernel_rfl)) (by unfold Func.isWrapper; first | (rw [if_pos (by decide +kernel)]; kernel_rfl) | (rw [if_neg (by decide +kernel)]; exact ⟨rfl, rfl⟩))
    (fun os started H enc _ => lifted (M := fun x => M_law23_ExprPlace 35184372088832 x.1 x.2.1) (g_law23_ExprPlace 35184372088832) (fun x => expr_place (by decide) law23_awake x.1 x.2.1) os started H enc)
set_option maxRecDepth 100000 in
theorem proved : Rows.ExprPlaceCardSaid :=
  Claim7.holds_tied_plain_at .later [] [.data, .data, .data, .sentinel, .sentinel] true (true, "778f03d9a706ce9f587061b66facec157bb8f175dae6304160b4e718730fd2b5") true
    over (fun _ h => by cases h) (by kernel_rfl) (fun _ h => by cases h) exprPlace_row_tie rfl ⟨rfl, rfl⟩ (by kernel_rfl) rfl
    (fun f fn hf hfn => by
      obtain rfl : f = 4 := (Option.some.inj (fnm.symm.trans hf)).symm
      obtain rfl : fn = Tryd.f4 := (Option.some.inj (Tryd.func4.symm.trans hfn)).symm
      refine ⟨by kernel_rfl, fun j t ht => ?_⟩
      rw [Tryd.params4] at ht
      have h3 : t = 9 ∨ t = 3 := by
        rcases j with _ | _ | j
        · left; simpa using ht.symm
        · right; simpa using ht.symm
        · simp at ht
      rcases h3 with rfl | rfl
      · exact (by kernel_rfl : Tryd.prog.wantsStandIn 9 = false)
      · exact (by kernel_rfl : Tryd.prog.wantsStandIn 3 = false))
    (by kernel_rfl)
end exprPlace
end
end Go.Proofs.YtbaoeefdjpaomaaDoor
