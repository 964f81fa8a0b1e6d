/- What a proof needs: rules of walking, mirrors of functions and their plain laws. No condition. -/
import Derived.Test.YtmggkmchbdanfaaGreatZu3
import Derived.RangeFuncLeaves
import Derived.Below
import Derived.Lib.Join
import Derived.Shelf.Strings.Builder1
import Derived.Shelf.Strings.Builder2
import Derived.Shelf.Strings.OnBuilder
import Derived.Shelf.Bits.Mul64
section
set_option linter.unusedVariables false
set_option linter.unusedSimpArgs false
namespace Go.Proofs.YtmggkmchbdanfaaGreat
section
variable {P : Program} {cf : Cf} {fr : Fr} {cx σ σ0 : Sg} {vs vs' : Nat -> Value} {env env0 : Env} {w : World} {R : Type} {r : R}
theorem dd_mem : ∀ {rg : List (Nat × Nat × Dv)} {e : Nat × Nat × Dv}, e ∈ dd rg -> e ∈ rg
 | a :: r, e, h => by
  rcases List.mem_cons.1 h with rfl | h
  ·exact List.mem_cons_self ..
  ·exact List.mem_cons_of_mem _ (dd_mem (List.mem_filter.1 h).1)
theorem dd_fnd : ∀ {rg : List (Nat × Nat × Dv)} {e : Nat × Nat × Dv}, e ∈ dd rg -> fnd rg e.1 e.2.1 = some e.2.2
 | (t, i, d) :: r, e, h => by
  rcases List.mem_cons.1 h with rfl | h
  ·unfold fnd; simp
  ·obtain ⟨h1, h2⟩ := List.mem_filter.1 h
   unfold fnd
   simp only [Bool.not_eq_true'] at h2
   rw [h2]
   exact dd_fnd h1
theorem agree_self : ∀ (ts : List Nat), agree env (ts.map fun t => (t, env t))
 | [] => rfl
 | t :: ts => agree_cons rfl (agree_self ts)
theorem L_self {rest : Env} : ∀ {ts : List Nat} {t : Nat}, t ∈ ts -> L (ts.map fun t => (t, env t)) rest t = env t
 | s :: ts, t, h => by
  simp only [List.map_cons, L]
  cases hb : Nat.beq t s
  ·simp only [cond_false]
   rcases List.mem_cons.1 h with rfl | h
   ·simp at hb
   ·exact L_self h
  ·rw [beq_t hb]; rfl
theorem rel_frzA : ∀ (l : List Oper) (al : List (Nat × Operand)) {σ : Sg}, Rel P fr cx σ env w -> Rel P fr cx (frzA cf cx l al σ) env w
 | [], _, _, h => h
 | o :: r, al, σ, h => rel_frzA r _ (rel_frzL _ h)
theorem gd_take {N : Nat} {l : List Oper} (h : (l.all fun o => okDst N o.dst) = true) (m : Nat) : ((l.drop m).all fun o => okDst N o.dst) = true := by
 rw [List.all_eq_true] at h ⊢
 exact fun o ho => h o (List.mem_of_mem_drop ho)
theorem relV_frzOs : ∀ (l : List Nat) {σ : Sg}, RelV P fr cx σ vs env w -> RelV P fr cx (frzOs σ l) vs env w
 | [], _, h => h
 | o :: r, _, h => relV_frzOs r (relV_frzO h)
theorem frzOs_nx : ∀ (l : List Nat) (σ : Sg), (frzOs σ l).nx = σ.nx
 | [], _ => rfl
 | o :: r, σ => by
  show (frzOs (frzO σ o) r).nx = _
  rw [frzOs_nx r]
  unfold frzO
  split <;> rfl
structure RX1 (i : Nat) (r r' : Rb) : Prop where
 a : r'.a = r.a
 o : r'.o = r.o
 x : r'.x = r.x
 c1 : ∀ k, r.c = some k -> r'.c = some k
 c2 : r.c = none -> ∀ k, r'.c = some k -> i <= k
 d1 : ∀ j ∈ r.rd, j ∈ r'.rd
 d2 : ∀ j ∈ r'.rd, j ∈ r.rd \/ i <= j
def RX (i : Nat) : List Rb -> List Rb -> Prop
 | [], rs' => ∀ r ∈ rs', (∃ j, r.a = some j /\ i <= j) /\ (∀ k, r.c = some k -> i <= k) /\ ∀ j ∈ r.rd, i <= j
 | _ :: _, [] => False
 | r :: rs, r' :: rs' => RX1 i r r' /\ RX i rs rs'
def OldB (i : Nat) (rs : List Rb) : Prop := ∀ r ∈ rs, (∀ j, r.a = some j -> j < i) /\ (∀ k, r.c = some k -> k < i) /\ ∀ j ∈ r.rd, j < i
theorem RX.refl (i : Nat) : ∀ rs : List Rb, RX i rs rs
 | [] => fun r hr => absurd hr List.not_mem_nil
 | r :: rs => ⟨⟨rfl, rfl, rfl, fun _ h => h, fun h k hk => (by rw [h] at hk; cases hk), fun _ h => h, fun _ h => .inl h⟩, RX.refl i rs⟩
theorem RX_nil {i : Nat} {rs' : List Rb} (h : RX (i + 1) [] rs') : RX i [] rs' /\ cOf i rs' = [] /\ pOf i rs' = [] /\ rOf i rs' = [] := by
 refine ⟨fun r hr => ?_, ?_, ?_, ?_⟩
 ·obtain ⟨⟨j, h1, h2⟩, h3, h4⟩ := h r hr
  exact ⟨⟨j, h1, by omega⟩, fun k hk => by have := h3 k hk; omega, fun j hj => by have := h4 j hj; omega⟩
 ·refine List.filterMap_eq_nil_iff.2 fun r hr => if_neg fun e => ?_
  have := (h r hr).2.1 i e; omega
 ·refine List.filterMap_eq_nil_iff.2 fun r hr => if_neg fun e => ?_
  obtain ⟨j, h1, h2⟩ := (h r hr).1
  rw [e] at h1; cases h1; omega
 ·refine List.filterMap_eq_nil_iff.2 fun r hr => if_neg fun e => ?_
  have := (h r hr).2.2 i e; omega
theorem RX1.step {i : Nat} {r r1 r' : Rb} (h : RX1 (i + 1) r1 r') (ha : r1.a = r.a) (ho : r1.o = r.o) (hx : r1.x = r.x) (hc : ∀ k, r.c = some k -> r1.c = some k) (hc2 : r.c = none -> ∀ k, r1.c = some k -> k = i) (hd : ∀ j ∈ r.rd, j ∈ r1.rd) (hd2 : ∀ j ∈ r1.rd, j ∈ r.rd \/ j = i) : RX1 i r r' :=
{
 a := h.a.trans ha
 o := h.o.trans ho
 x := h.x.trans hx
 c1 := fun k hk => h.c1 k (hc k hk)
 c2 := fun hn k hk => by
  cases h1 : r1.c with
  | none => have := h.c2 h1 k hk; omega
  | some q =>
   have := h.c1 q h1
   rw [hk] at this
   cases this
   have := hc2 hn k h1
   omega
 d1 := fun j hj => h.d1 j (hd j hj)
 d2 := fun j hj => by
  rcases h.d2 j hj with h1 | h1
  ·rcases hd2 j h1 with h2 | h2
   ·exact .inl h2
   ·exact .inr (by omega)
  ·exact .inr (by omega) }
theorem RX_skip {i : Nat} : ∀ {rs rs' : List Rb}, OldB i rs -> RX (i + 1) rs rs' -> RX i rs rs' /\ cOf i rs' = [] /\ pOf i rs' = [] /\ rOf i rs' = []
 | [], rs', _, h => RX_nil h
 | r :: rs, [], _, h => h.elim
 | r :: rs, r' :: rs', ho, ⟨h1, h2⟩ => by
  obtain ⟨g1, g2, g3, g4⟩ := RX_skip (rs := rs) (fun q hq => ho q (List.mem_cons_of_mem _ hq)) h2
  obtain ⟨q1, q2, q3⟩ := ho r (List.mem_cons_self ..)
  have e1 : r'.c ≠ some i := fun e => by
   cases hc : r.c with
   | none => have := h1.c2 hc i e; omega
   | some k => have := h1.c1 k hc; rw [e] at this; cases this; have := q2 i hc; omega
  have e2 : r'.a ≠ some i := fun e => by rw [h1.a] at e; have := q1 i e; omega
  have e3 : i ∉ r'.rd := fun e => by
   rcases h1.d2 i e with h | h
   ·have := q3 i h; omega
   ·omega
  refine ⟨⟨h1.step rfl rfl rfl (fun _ h => h) (fun hn k hk => (by rw [hn] at hk; cases hk)) (fun _ h => h) (fun _ h => .inl h), g1⟩, ?_, ?_, ?_⟩
  ·unfold cOf at g2 ⊢; rw [List.filterMap_cons, if_neg e1]; exact g2
  ·unfold pOf at g3 ⊢; rw [List.filterMap_cons, if_neg e2]; exact g3
  ·unfold rOf at g4 ⊢; rw [List.filterMap_cons, if_neg e3]; exact g4
theorem RX_see {i : Nat} {os : List Nat} : ∀ {rs rs' : List Rb}, OldB i rs -> RX (i + 1) (seeB i os rs) rs' -> RX i rs rs' /\ cOf i rs' = [] /\ pOf i rs' = [] /\ ∀ e ∈ visB os rs, e ∈ rOf i rs'
 | [], rs', _, h => by
  obtain ⟨g1, g2, g3, _⟩ := RX_nil h
  exact ⟨g1, g2, g3, fun e he => absurd he List.not_mem_nil⟩
 | r :: rs, [], _, h => h.elim
 | r :: rs, r' :: rs', ho, ⟨h1, h2⟩ => by
  obtain ⟨g1, g2, g3, g4⟩ := RX_see (rs := rs) (fun q hq => ho q (List.mem_cons_of_mem _ hq)) h2
  obtain ⟨q1, q2, q3⟩ := ho r (List.mem_cons_self ..)
  obtain ⟨r1, hr1⟩ : ∃ r1, r1 = (match r.c, has os r.o with | none, true => (⟨r.a, none, i :: r.rd, r.o, r.x⟩ : Rb) | _, _ => r) := ⟨_, rfl⟩
  have h1 : RX1 (i + 1) r1 r' := by rw [hr1]; exact h1
  have k1 : r1.a = r.a /\ r1.o = r.o /\ r1.x = r.x /\ r1.c = r.c /\ (∀ j ∈ r.rd, j ∈ r1.rd) /\ (∀ j ∈ r1.rd, j ∈ r.rd \/ j = i) := by
   rw [hr1]
   split
   ·next hc _ => exact ⟨rfl, rfl, rfl, hc.symm, fun j hj => List.mem_cons_of_mem _ hj, fun j hj => (List.mem_cons.1 hj).symm⟩
   ·exact ⟨rfl, rfl, rfl, rfl, fun _ h => h, fun _ h => .inl h⟩
  obtain ⟨ka, ko, kx, kc, kd, kd2⟩ := k1
  have e1 : r'.c ≠ some i := fun e => by
   cases hc : r.c with
   | none => have := h1.c2 (kc.trans hc) i e; omega
   | some k => have := h1.c1 k (kc.trans hc); rw [e] at this; cases this; have := q2 i hc; omega
  have e2 : r'.a ≠ some i := fun e => by rw [h1.a, ka] at e; have := q1 i e; omega
  refine ⟨⟨h1.step ka ko kx (fun k hk => kc.trans hk) (fun hn k hk => by rw [kc, hn] at hk; cases hk) kd kd2, g1⟩, ?_, ?_, ?_⟩
  ·unfold cOf at g2 ⊢; rw [List.filterMap_cons, if_neg e1]; exact g2
  ·unfold pOf at g3 ⊢; rw [List.filterMap_cons, if_neg e2]; exact g3
  ·intro e he
   unfold visB at he
   unfold rOf at g4 ⊢
   rw [List.filterMap_cons]
   split at he
   ·next hc hh =>
    have hi : i ∈ r'.rd := h1.d1 i (by rw [hr1, hc, hh]; exact List.mem_cons_self ..)
    rw [if_pos hi]
    rcases List.mem_cons.1 he with rfl | he
    ·rw [h1.o, h1.x, ko, kx]; exact List.mem_cons_self ..
    ·exact List.mem_cons_of_mem _ (g4 e he)
   ·split
    ·exact g4 e he
    ·exact List.mem_cons_of_mem _ (g4 e he)
theorem RX_new {i : Nat} : ∀ {ob : List (Nat × Od)} {rs' : List Rb}, RX (i + 1) (newB i ob) rs' -> RX i [] rs' /\ cOf i rs' = [] /\ pOf i rs' = ob /\ rOf i rs' = []
 | [], rs', h => RX_nil h
 | e :: ob, [], h => h.elim
 | e :: ob, r' :: rs', ⟨h1, h2⟩ => by
  obtain ⟨g1, g2, g3, g4⟩ := RX_new (ob := ob) h2
  have e1 : r'.c ≠ some i := fun e => by have := h1.c2 rfl i e; omega
  have e2 : r'.a = some i := h1.a
  have e3 : i ∉ r'.rd := fun e => by
   rcases h1.d2 i e with h | h
   ·cases h
   ·omega
  refine ⟨fun r hr => ?_, ?_, ?_, ?_⟩
  ·rcases List.mem_cons.1 hr with rfl | hr
   ·exact ⟨⟨i, e2, Nat.le_refl _⟩, fun k hk => by have := h1.c2 rfl k hk; omega, fun j hj => by
     rcases h1.d2 j hj with h | h
     ·cases h
     ·omega⟩
   ·exact g1 r hr
  ·unfold cOf at g2 ⊢; rw [List.filterMap_cons, if_neg e1]; exact g2
  ·unfold pOf at g3 ⊢; rw [List.filterMap_cons, if_pos e2, g3, h1.o, h1.x]
  ·unfold rOf at g4 ⊢; rw [List.filterMap_cons, if_neg e3]; exact g4
theorem RX_use {i : Nat} {os : List Nat} {ob : List (Nat × Od)} : ∀ {rs rs' : List Rb}, OldB i rs -> RX (i + 1) (useB i os rs ++ newB i ob) rs' -> RX i rs rs' /\ cOf i rs' = visB os rs /\ pOf i rs' = ob /\ rOf i rs' = []
 | [], rs', _, h => RX_new h
 | r :: rs, [], _, h => h.elim
 | r :: rs, r' :: rs', ho, ⟨h1, h2⟩ => by
  obtain ⟨g1, g2, g3, g4⟩ := RX_use (rs := rs) (fun q hq => ho q (List.mem_cons_of_mem _ hq)) h2
  obtain ⟨q1, q2, q3⟩ := ho r (List.mem_cons_self ..)
  obtain ⟨r1, hr1⟩ : ∃ r1, r1 = (match r.c, has os r.o with | none, true => (⟨r.a, some i, r.rd, r.o, r.x⟩ : Rb) | _, _ => r) := ⟨_, rfl⟩
  have h1 : RX1 (i + 1) r1 r' := by rw [hr1]; exact h1
  have k1 : r1.a = r.a /\ r1.o = r.o /\ r1.x = r.x /\ r1.rd = r.rd /\ (∀ k, r.c = some k -> r1.c = some k) /\ (r.c = none -> ∀ k, r1.c = some k -> k = i) := by
   rw [hr1]
   split
   ·next hc _ => exact ⟨rfl, rfl, rfl, rfl, fun k hk => (by rw [hc] at hk; cases hk), fun _ k hk => (by cases hk; rfl)⟩
   ·exact ⟨rfl, rfl, rfl, rfl, fun _ h => h, fun hn k hk => (by rw [hn] at hk; cases hk)⟩
  obtain ⟨ka, ko, kx, kd, kc, kc2⟩ := k1
  have e2 : r'.a ≠ some i := fun e => by rw [h1.a, ka] at e; have := q1 i e; omega
  have e3 : i ∉ r'.rd := fun e => by
   rcases h1.d2 i e with h | h
   ·rw [kd] at h; have := q3 i h; omega
   ·omega
  refine ⟨⟨h1.step ka ko kx kc kc2 (fun j hj => by rw [kd]; exact hj) (fun j hj => by rw [kd] at hj; exact .inl hj), g1⟩, ?_, ?_, ?_⟩
  ·have no : r1 = r -> r'.c ≠ some i := fun hr1' e => by
    rw [hr1'] at h1
    cases hc : r.c with
    | none => have := h1.c2 hc i e; omega
    | some k => have := h1.c1 k hc; rw [e] at this; cases this; have := q2 i hc; omega
   have hv : visB os (r :: rs) = (match r.c, has os r.o with | none, true => (r.o, r.x) :: visB os rs | _, _ => visB os rs) := rfl
   have hcc : cOf i (r' :: rs') = if r'.c = some i then (r'.o, r'.x) :: cOf i rs' else cOf i rs' := by
    unfold cOf
    rw [List.filterMap_cons]
    split <;> next h => split at h <;> simp_all
   rw [hcc, hv, g2]
   cases hc : r.c with
   | some k =>
    rw [if_neg (no (by rw [hr1, hc]))]
   | none =>
    cases hh : has os r.o with
    | false => rw [if_neg (no (by rw [hr1, hc, hh]))]
    | true =>
     have : r'.c = some i := h1.c1 i (by rw [hr1, hc, hh])
     rw [if_pos this, h1.o, h1.x, ko, kx]
  ·unfold pOf at g3 ⊢; rw [List.filterMap_cons, if_neg e2]; exact g3
  ·unfold rOf at g4 ⊢; rw [List.filterMap_cons, if_neg e3]; exact g4
theorem RX_old {i : Nat} : ∀ {ob : List (Nat × Od)} {rs' : List Rb}, RX i (oldB ob) rs' -> avL (fun r => r.a.isNone) rs' = ob
 | [], rs', h => List.filterMap_eq_nil_iff.2 fun r hr => by
  obtain ⟨⟨j, h1, _⟩, _⟩ := h r hr
  simp [h1]
 | e :: ob, [], h => h.elim
 | e :: ob, r' :: rs', ⟨h1, h2⟩ => by
  have ih := RX_old (ob := ob) h2
  unfold avL at ih ⊢
  have : r'.a = none := h1.a
  simp only [List.filterMap_cons, this, Option.isNone_none, if_true]
  rw [ih, h1.o, h1.x]
theorem old_see {i : Nat} {os : List Nat} {rs : List Rb} (h : OldB i rs) : OldB (i + 1) (seeB i os rs) := by
 induction rs with
 | nil => exact fun r hr => absurd hr List.not_mem_nil
 | cons r rs ih =>
  intro q hq
  unfold seeB at hq
  rcases List.mem_cons.1 hq with rfl | hq
  ·obtain ⟨q1, q2, q3⟩ := h r (List.mem_cons_self ..)
   split
   ·exact ⟨fun j hj => (by have := q1 j hj; omega), fun k hk => (by cases hk), fun j hj => by
     rcases List.mem_cons.1 hj with rfl | hj
     ·omega
     ·have := q3 j hj; omega⟩
   ·exact ⟨fun j hj => by have := q1 j hj; omega, fun k hk => by have := q2 k hk; omega, fun j hj => by have := q3 j hj; omega⟩
  ·exact ih (fun q hq => h q (List.mem_cons_of_mem _ hq)) q hq
theorem old_use {i : Nat} {os : List Nat} {rs : List Rb} (h : OldB i rs) : OldB (i + 1) (useB i os rs) := by
 induction rs with
 | nil => exact fun r hr => absurd hr List.not_mem_nil
 | cons r rs ih =>
  intro q hq
  unfold useB at hq
  rcases List.mem_cons.1 hq with rfl | hq
  ·obtain ⟨q1, q2, q3⟩ := h r (List.mem_cons_self ..)
   split
   ·exact ⟨fun j hj => by have := q1 j hj; omega, fun k hk => by cases hk; omega, fun j hj => by have := q3 j hj; omega⟩
   ·exact ⟨fun j hj => by have := q1 j hj; omega, fun k hk => by have := q2 k hk; omega, fun j hj => by have := q3 j hj; omega⟩
  ·exact ih (fun q hq => h q (List.mem_cons_of_mem _ hq)) q hq
theorem old_new {i : Nat} {ob : List (Nat × Od)} {rs : List Rb} (h : OldB (i + 1) rs) : OldB (i + 1) (rs ++ newB i ob) := fun q hq => by
 rcases List.mem_append.1 hq with hq | hq
 ·exact h q hq
 ·obtain ⟨e, _, rfl⟩ := List.mem_map.1 hq
  exact ⟨fun j hj => by cases hj; omega, fun k hk => (by cases hk), fun j hj => absurd hj List.not_mem_nil⟩
theorem old_up {i : Nat} {rs : List Rb} (h : OldB i rs) : OldB (i + 1) rs := fun r hr => by
 obtain ⟨q1, q2, q3⟩ := h r hr
 exact ⟨fun j hj => by have := q1 j hj; omega, fun k hk => by have := q2 k hk; omega, fun j hj => by have := q3 j hj; omega⟩
theorem see_o {i n : Nat} {os : List Nat} {rs : List Rb} (h : ∀ r ∈ rs, r.o < n) : ∀ r ∈ seeB i os rs, r.o < n := by
 induction rs with
 | nil => exact fun r hr => absurd hr List.not_mem_nil
 | cons r rs ih =>
  intro q hq
  unfold seeB at hq
  rcases List.mem_cons.1 hq with rfl | hq
  ·have := h r (List.mem_cons_self ..)
   split <;> exact this
  ·exact ih (fun q hq => h q (List.mem_cons_of_mem _ hq)) q hq
theorem use_o {i n : Nat} {os : List Nat} {rs : List Rb} (h : ∀ r ∈ rs, r.o < n) : ∀ r ∈ useB i os rs, r.o < n := by
 induction rs with
 | nil => exact fun r hr => absurd hr List.not_mem_nil
 | cons r rs ih =>
  intro q hq
  unfold useB at hq
  rcases List.mem_cons.1 hq with rfl | hq
  ·have := h r (List.mem_cons_self ..)
   split <;> exact this
  ·exact ih (fun q hq => h q (List.mem_cons_of_mem _ hq)) q hq
theorem visB_o {n : Nat} {os : List Nat} : ∀ {rs : List Rb}, (∀ r ∈ rs, r.o < n) -> ∀ e ∈ visB os rs, e.1 < n
 | [], _, e, he => absurd he List.not_mem_nil
 | r :: rs, h, e, he => by
  have ih := visB_o (os := os) (rs := rs) fun q hq => h q (List.mem_cons_of_mem _ hq)
  unfold visB at he
  split at he
  ·rcases List.mem_cons.1 he with rfl | he
   ·exact h r (List.mem_cons_self ..)
   ·exact ih e he
  ·exact ih e he
theorem endB_av : ∀ (rs : List Rb), endB rs = avL (fun r => r.c.isNone) rs
 | [] => rfl
 | r :: rs => by
  have ih := endB_av rs
  unfold avL at ih ⊢
  unfold endB
  cases hc : r.c with
  | none => simp only [List.filterMap_cons, hc, Option.isNone_none, if_true]; rw [ih]
  | some k => simp only [List.filterMap_cons, hc, Option.isNone_some, Bool.false_eq_true, if_false]; exact ih
theorem slotsL_mem {ts : List Tmp} : ∀ {rg : List (Nat × Nat × Dv)} {e : Nat × Nat × Dv}, e ∈ slotsL ts rg -> e ∈ rg /\ has ts e.1 = true
 | (t, i, v) :: r, e, h => by
  unfold slotsL at h
  split at h
  ·next hh =>
   rcases List.mem_cons.1 h with rfl | h
   ·exact ⟨List.mem_cons_self .., hh⟩
   ·obtain ⟨h1, h2⟩ := slotsL_mem h; exact ⟨List.mem_cons_of_mem _ h1, h2⟩
  ·obtain ⟨h1, h2⟩ := slotsL_mem h; exact ⟨List.mem_cons_of_mem _ h1, h2⟩
theorem slotsL_fnd {ts : List Tmp} {t i : Nat} (ht : has ts t = true) : ∀ {rg : List (Nat × Nat × Dv)}, fnd (slotsL ts rg) t i = fnd rg t i
 | [] => rfl
 | (t', i', v) :: r => by
  unfold slotsL
  split
  ·unfold fnd; rw [slotsL_fnd ht]
  ·next hh =>
   rw [slotsL_fnd ht]
   conv => rhs; unfold fnd
   rw [beq_no (fun e => by rw [e, ht] at hh; cases hh)]; rfl
theorem fnd_app {t i : Nat} : ∀ {a b : List (Nat × Nat × Dv)}, fnd (a ++ b) t i = match fnd a t i with | some d => some d | none => fnd b t i
 | [], b => rfl
 | (t', i', v) :: a, b => by
  show (bif Nat.beq t' t && Nat.beq i' i then some v else fnd (a ++ b) t i) = (match (bif Nat.beq t' t && Nat.beq i' i then some v else fnd a t i) with | some d => some d | none => fnd b t i)
  cases hb : Nat.beq t' t && Nat.beq i' i
  ·simp only [cond_false]; exact fnd_app
  ·simp only [cond_true]
theorem has_mem {l : List Nat} {t : Nat} (h : has l t = true) : t ∈ l := by
 unfold has at h
 rw [List.any_eq_true] at h
 obtain ⟨s, hs, hb⟩ := h
 rw [beq_t hb]; exact hs
theorem refsO_mem : ∀ {l : List (Nat × Dv)} {e : Nat × Dv} {p : Nat}, e ∈ l -> refO e.2 = some p -> p ∈ refsO l
 | (i, v) :: r, e, p, h, hp => by
  unfold refsO
  rcases List.mem_cons.1 h with rfl | h
  ·have hp : refO v = some p := hp
   rw [hp]; exact List.mem_cons_self ..
  ·have := refsO_mem h hp
   split
   ·exact List.mem_cons_of_mem _ this
   ·exact this
theorem dstL_mem {d : Option Tmp} {rg : List (Nat × Nat × Dv)} {e : Nat × Dv} (h : e ∈ dstL d rg) : ∃ t, d = some t /\ (t, e.1, e.2) ∈ rg := by
 unfold dstL at h
 split at h
 ·next t =>
  obtain ⟨q, hq, he⟩ := List.mem_filterMap.1 h
  split at he
  ·next hb =>
   cases he
   rw [<- beq_t hb]
   exact ⟨_, rfl, hq⟩
  ·cases he
 ·cases h
def InvB (P : Program) (vs : Nat -> Value) (n0 : Nat) (Γ : List FF) (env0 : Env) (cx σ : Sg) (KL : List (Tmp × List (Nat × Dv))) : Prop := ∀ vs', (∀ p, p < n0 -> vs' p = vs p) -> InvK P vs' Γ env0 cx σ (KV P vs' KL)
def NoCxL (cx : Sg) (KL : List (Tmp × List (Nat × Dv))) : Prop := ∀ e ∈ KL, notIn cx.rg e.1 = true
theorem noCxL_add {KL : List (Tmp × List (Nat × Dv))} {l : List (Nat × Dv)} {d : Option Tmp} (hd : okPut cx d = true) (h : NoCxL cx KL) : NoCxL cx (addL d l KL) := by
 cases d with
 | none => exact h
 | some s =>
  intro e he
  rcases List.mem_cons.1 he with rfl | he
  ·exact hd
  ·exact h e he
theorem invB_put {n0 : Nat} {Γ : List FF} {KL : List (Tmp × List (Nat × Dv))} {l : List (Nat × Dv)} {o : Oper} (hd : okPut cx o.dst = true) (h : InvB P vs n0 Γ env0 cx σ KL) : InvB P vs n0 Γ env0 cx (σ.put o.dst l) (addL o.dst l KL) := fun vs' hv => by
 rw [KV_add]
 exact invK_put hd (h vs' hv) fun S v w hv => hv
theorem runB_s (hT : TTok P cf.tt) (hL : ELok P cf.tt) (hC : ∀ s ∈ cf.cs, SigOK P s) (hX : XOK P cf) {all : List Oper} {fz : List Nat} {k : Sg -> List Rb -> List Oi -> Option R} {Γ : List FF} {n0 : Nat} (hcx : ∀ e ∈ cx.ob, e.1 < n0) : ∀ {os : List Oper} {i : Nat} {σ : Sg} {rs : List Rb} {is : List Oi} {KL : List (Tmp × List (Nat × Dv))},
  runB cf cx all fz os i σ rs is k = some r -> InvB P vs n0 Γ env0 cx σ KL -> NoCxL cx KL -> σ.ob = [] -> Bd cx σ -> (∀ r ∈ rs, r.o < σ.nx) -> OldB i rs -> n0 <= σ.nx ->
  ∃ (Ls : List (List (Nat × Dv))) (is' : List Oi) (σ' : Sg) (rs' : List Rb), Ls.length = os.length /\ is'.length = os.length /\ k σ' rs' (is ++ is') = some r /\ RX i rs rs' /\
   ObsB P all.toArray fr.we fr.Se (MS vs cx.ob ++ fr.F) Γ env0 vs n0 rs' ((os.zip Ls).zip is') i KL /\ InvB P vs n0 Γ env0 cx σ' (KLof (os.zip Ls) KL) /\ NoCxL cx (KLof (os.zip Ls) KL) /\ σ'.ob = [] /\ Bd cx σ' /\ (∀ r ∈ rs', r.o < σ'.nx) /\ n0 <= σ'.nx
 | [], i, σ, rs, is, KL, h, hi, hn, ho, hB, hr, hO, h0 => ⟨[], [], σ, rs, rfl, rfl, by rw [List.append_nil]; exact h, RX.refl _ _, trivial, hi, hn, ho, hB, hr, h0⟩
 | o :: os, i, σ, rs, is, KL, h, hi, hn, ho, hB, hr, hO, h0 => by
  unfold runB at h
  obtain ⟨hd, h⟩ := grd_s h
  obtain ⟨σ1, b, h, ho1, hx1, hB1, hlk1, hw1⟩ := guardE_s h hB
  have hlkK : ∀ {vs' env S w}, (∀ p, p < n0 -> vs' p = vs p) -> All S Γ w -> HoldL (KV P vs' KL) env0 env S w (Oper.looksAt all.toArray o) -> ∀ t ∈ Oper.looksAt all.toArray o, Lk P vs' env S w cx σ t := fun {vs' env S w} hv hΓ hh t ht => hi vs' hv env S w hΓ t (holdL_mem hh t ht)
  cases b
  ·have hi' : InvB P vs n0 Γ env0 cx (σ1.put o.dst [(0, .un)]) (addL o.dst [(0, .un)] KL) := invB_put hd fun vs' hv env S w hΓ t ht => hlk1 P vs' env S w t (hi vs' hv env S w hΓ t ht)
   obtain ⟨Ls, is', σ', rs', h1, h2, h3, h4, h5, h6, h7, h8, h9, h10, h11⟩ := runB_s hT hL hC hX hcx (os := os) h hi' (noCxL_add hd hn) (ho1.trans ho) (bd_put hB1 fun e he p hp => by obtain rfl := List.mem_singleton.1 he; cases hp) (fun r hr' => by show r.o < σ1.nx; rw [hx1]; exact hr r hr') (old_up hO) (by show n0 <= σ1.nx; rw [hx1]; exact h0)
   obtain ⟨g1, g2, g3, g4⟩ := RX_skip hO h4
   refine ⟨[(0, .un)] :: Ls, ⟨σ1.nx, σ1.nx, []⟩ :: is', σ', rs', by simp [h1], by simp [h2], by rw [<- h3]; simp, g1, ⟨⟨(by show n0 <= σ1.nx; rw [hx1]; exact h0), Nat.le_refl _, fun e he p hp => (by obtain rfl := List.mem_singleton.1 he; cases hp), fun e he => (by rw [g3] at he; cases he), fun vs' hv env F G w hst => ⟨fun hw => ?_, fun _ => ⟨g2, g3, fun S w => ⟨rfl, trivial⟩⟩⟩⟩, h5⟩, h6, h7, h8, h9, h10, h11⟩
   exfalso
   obtain ⟨S, _, hΓ⟩ := hst.ex
   have := hw1 P vs' env S w fun t ht => hlkK hv (All.left hΓ.2) hΓ.1 t ht
   rw [hw] at this; cases this
  ·obtain ⟨σ2, h, ho2, hx2, hB2, hlk2⟩ := pickE_s h hB1
   have hlk : ∀ vs' env S w t, Lk P vs' env S w cx σ t -> Lk P vs' env S w cx σ2 t := fun vs' env S w t ht => hlk2 P vs' env S w t (hlk1 P vs' env S w t ht)
   have hi2 : InvB P vs n0 Γ env0 cx σ2 KL := fun vs' hv env S w hΓ t ht => hlk vs' env S w t (hi vs' hv env S w hΓ t ht)
   have hnx : σ2.nx = σ.nx := hx2.trans hx1
   have hwt : ∀ {vs' env S w}, (∀ p, p < n0 -> vs' p = vs p) -> All S Γ w -> HoldL (KV P vs' KL) env0 env S w (Oper.looksAt all.toArray o) -> wantedE all.toArray env o = true := fun {vs' env S w} hv hΓ hh => hw1 P vs' env S w fun t ht => hlkK hv hΓ hh t ht
   generalize hts : Oper.looksAt all.toArray o = ts at h hlkK hwt
   generalize hos : refsL ts σ2.rg = osn at h
   generalize hbz : fzB fz o.dst = bz at h
   cases hM : isMop cf cx ⟨σ2.nx, σ2.rg, visB osn rs⟩ bz o.dst o.op <;> rw [hM] at h
   ·-- it only reads
    simp only [cnd] at h
    obtain ⟨l, h, hes⟩ := e_all (P := P) (d := o.dst) (ty := o.type) (pos := o.pos) (aft := o.after) (g := o.guard) (F := []) hT hL hC hX h
    obtain ⟨hl, h⟩ := grd_s h
    obtain ⟨Ls, is', σ', rs', h1, h2, h3, h4, h5, h6, h7, h8, h9, h10, h11⟩ := runB_s hT hL hC hX hcx (os := os) h (invB_put hd hi2) (noCxL_add hd hn) (ho2.trans (ho1.trans ho)) (bd_put hB2 (okL_s hl)) (see_o fun r hr' => by show r.o < σ2.nx; rw [hnx]; exact hr r hr') (old_see hO) (by show n0 <= σ2.nx; rw [hnx]; exact h0)
    obtain ⟨g1, g2, g3, g4⟩ := RX_see hO h4
    refine ⟨l :: Ls, ⟨σ2.nx, σ2.nx, refsO l⟩ :: is', σ', rs', by simp [h1], by simp [h2], by rw [<- h3]; simp, g1, ⟨⟨(by show n0 <= σ2.nx; rw [hnx]; exact h0), Nat.le_refl _, fun e he p hp => ⟨okL_s hl e he p hp, refsO_mem he hp⟩, fun e he => (by rw [g3] at he; cases he), fun vs' hv env F G w hst => ⟨fun _ => ?_, fun hw => ?_⟩⟩, h5⟩, h6, h7, h8, h9, h10, h11⟩
    ·rw [g2] at hst
     rw [g3]
     obtain ⟨k1, k2, k3, S, k4, k5, k6, k7, k8⟩ := hst
     have hmc : MS vs' cx.ob = MS vs cx.ob := MS_congr fun e he => hv _ (hcx e he)
     refine (hes env w S vs' k5 (allM_mem.2 fun mf hmf => ?_) fun t ht => ?_).mono ?_
     ·rcases List.mem_append.1 hmf with hmf | hmf
      ·obtain ⟨e, he, rfl⟩ := List.mem_map.1 hmf
       exact allM_mem.1 k7 _ (List.mem_append.2 (.inl (List.mem_map.2 ⟨e, g4 e he, rfl⟩)))
      ·rw [List.append_nil] at hmf
       have hmf : mf ∈ MS vs' cx.ob := hmf
       rw [hmc] at hmf
       exact allM_mem.1 k7 _ (List.mem_append.2 (.inr (List.mem_append.2 (.inl (List.mem_append.2 (.inl hmf))))))
     ·have hh : HoldL (KV P vs' KL) env0 env S w (Oper.looksAt all.toArray o) := k8.1
      exact hlk vs' env S w t (hlkK hv (All.left k8.2) (hts ▸ hh) t (hts ▸ List.mem_append.2 (.inl ht)))
     ·rintro v w' ⟨hx, hf⟩
      refine ⟨vs', fun _ _ => rfl, k1.trans hx, k2, k3, S, k4, fun k hk => k5 k (Nat.le_trans hx.size hk), k6, AllM.keep hx.to (fun m hm i hi => hx.block i (AllM.lt k7 m hm i hi) trivial) k7, All.append (all_mem.2 fun f hf' => ?_) (All.keep hx.to k8.2)⟩
      obtain ⟨e, he, rfl⟩ := List.mem_map.1 hf'
      exact hf e he
    ·exfalso
     obtain ⟨S, _, hΓ⟩ := hst.ex
     have hh : HoldL (KV P vs' KL) env0 env S w (Oper.looksAt all.toArray o) := hΓ.1
     have := hwt hv (All.left hΓ.2) (hts ▸ hh)
     rw [hw] at this; cases this
   ·-- it turns objects
    simp only [cnd] at h
    obtain ⟨τ, h, hle, hm⟩ := m_all (P := P) (cx := ⟨0, [], cx.ob⟩) (d := o.dst) (ty := o.type) (pos := o.pos) (aft := o.after) (g := o.guard) hT hL hC hX (by cases o.dst <;> rfl) h
    obtain ⟨τ2, hτ⟩ : ∃ τ2, τ2 = frzB bz o.dst τ := ⟨_, rfl⟩
    simp only at h
    rw [<- hτ] at h
    have hnx2 : τ2.nx = τ.nx := by rw [hτ]; cases bz <;> first | rfl | exact frzOs_nx _ _
    have hrel2 : ∀ {frm : Fr} {vs2 : Nat -> Value} {env w}, RelV P frm ⟨0, [], cx.ob⟩ τ vs2 env w -> RelV P frm ⟨0, [], cx.ob⟩ τ2 vs2 env w := fun {frm vs2 env w} hq => by rw [hτ]; cases bz <;> first | exact hq | exact relV_frzOs _ hq
    unfold stepB at h
    obtain ⟨hl, h⟩ := grd_s h
    rw [Bool.and_eq_true] at hl
    obtain ⟨hl, hob⟩ := hl
    have hob : ∀ e ∈ τ2.ob, e.1 < τ2.nx := fun e he => by
     have := List.all_eq_true.1 hob e he
     have := Nat.le_of_ble_eq_true this
     omega
    have hle2 : σ2.nx <= τ2.nx := by rw [hnx2]; exact hle
    have hi3 : InvB P vs n0 Γ env0 cx ⟨τ2.nx, putR σ2.rg o.dst (dstL o.dst τ2.rg), []⟩ (addL o.dst (dstL o.dst τ2.rg) KL) := fun vs' hv => invB_put (l := dstL o.dst τ2.rg) hd hi2 vs' hv
    have hB3 : Bd cx ⟨τ2.nx, putR σ2.rg o.dst (dstL o.dst τ2.rg), []⟩ := by
     refine ⟨fun e he => absurd he List.not_mem_nil, fun e he => Nat.lt_of_lt_of_le (hB2.o2 e he) hle2, fun e he p hp => ?_, fun e he p hp => Nat.lt_of_lt_of_le (hB2.r2 e he p hp) hle2⟩
     have he : e ∈ putR σ2.rg o.dst (dstL o.dst τ2.rg) := he
     unfold putR at he
     split at he
     ·rcases List.mem_append.1 he with he | he
      ·obtain ⟨e', he', rfl⟩ := List.mem_map.1 he
       exact okL_s hl e' he' p hp
      ·exact Nat.lt_of_lt_of_le (hB2.r1 e (List.mem_filter.1 he).1 p hp) hle2
     ·exact Nat.lt_of_lt_of_le (hB2.r1 e he p hp) hle2
    obtain ⟨Ls, is', σ', rs', h1, h2, h3, h4, h5, h6, h7, h8, h9, h10, h11⟩ := runB_s hT hL hC hX hcx (os := os) h hi3 (noCxL_add hd hn) rfl hB3 (fun q hq => by
     rcases List.mem_append.1 hq with hq | hq
     ·exact Nat.lt_of_lt_of_le (use_o (n := σ2.nx) (fun r hr' => by rw [hnx]; exact hr r hr') q hq) hle2
     ·obtain ⟨e, he, rfl⟩ := List.mem_map.1 hq
      exact hob e he) (old_new (old_use hO)) (Nat.le_trans (by rw [hnx]; exact h0) hle2)
    obtain ⟨g1, g2, g3, g4⟩ := RX_use hO h4
    refine ⟨dstL o.dst τ2.rg :: Ls, ⟨σ2.nx, τ2.nx, refsO (dstL o.dst τ2.rg)⟩ :: is', σ', rs', by simp [h1], by simp [h2], by rw [<- h3]; simp, g1, ⟨⟨(by show n0 <= σ2.nx; rw [hnx]; exact h0), hle2, fun e he p hp => ⟨okL_s hl e he p hp, refsO_mem he hp⟩, fun e he => hob e (by rw [g3] at he; exact he), fun vs' hv env F G w hst => ⟨fun _ => ?_, fun hw => ?_⟩⟩, h5⟩, h6, h7, h8, h9, h10, h11⟩
    ·rw [g2, g4, List.append_nil] at hst
     rw [g3, g4]
     have hmc : ∀ {vs2 : Nat -> Value}, (∀ p, p < n0 -> vs2 p = vs p) -> MS vs2 cx.ob = MS vs cx.ob := fun hv => MS_congr fun e he => hv _ (hcx e he)
     have hrel : RelV P ⟨fr.we, fr.Se, fr.F ++ F, Γ ++ G⟩ ⟨0, [], cx.ob⟩ ⟨σ2.nx, dd (slotsL ts (σ2.rg ++ cx.rg)), visB osn rs⟩ vs' env w := by
      refine ⟨⟨fun e he => visB_o (fun r hr' => by rw [hnx]; exact hr r hr') e he, hB2.o2, fun e he p hp => ?_, fun e he => absurd he List.not_mem_nil⟩, ?_⟩
      ·have := (slotsL_mem (dd_mem he)).1
       rcases List.mem_append.1 this with h | h
       ·exact hB2.r1 e h p hp
       ·exact hB2.r2 e h p hp
      ·show St fr.we fr.Se (MS vs' (visB osn rs) ++ (MS vs' cx.ob ++ (fr.F ++ F))) (RS P vs' env (dd (slotsL ts (σ2.rg ++ cx.rg))) ++ ([] ++ (Γ ++ G))) w
       rw [hmc hv, <- List.append_assoc (MS vs cx.ob)]
       refine hst.weak fun S w hΓ => All.append (all_mem.2 fun f hf => ?_) hΓ.2
       obtain ⟨e, he, rfl⟩ := List.mem_map.1 hf
       have hh : HoldL (KV P vs' KL) env0 env S w (Oper.looksAt all.toArray o) := hΓ.1
       have htm := (slotsL_mem (dd_mem he)).2
       have hf2 := dd_fnd he
       rw [slotsL_fnd htm, fnd_app] at hf2
       exact hlk vs' env S w e.1 (hlkK hv (All.left hΓ.2) (hts ▸ hh) e.1 (has_mem htm)) e.2.1 e.2.2 hf2
     refine (hm _ vs' env w hrel).mono ?_
     rintro v w' ⟨vs2, hv2, hrv⟩
     obtain ⟨_, hs2⟩ := hrel2 hrv
     refine ⟨vs2, hv2, ?_⟩
     have hs2 : St fr.we fr.Se (MS vs2 τ2.ob ++ (MS vs2 cx.ob ++ (fr.F ++ F))) (RS P vs2 (put env o.dst v) τ2.rg ++ ([] ++ (Γ ++ G))) w' := hs2
     rw [hmc (vs2 := vs2) (fun p hp => (hv2 p (Nat.lt_of_lt_of_le hp (by show n0 <= σ2.nx; rw [hnx]; exact h0))).trans (hv p hp)), <- List.append_assoc (MS vs cx.ob)] at hs2
     refine St.weak (show St fr.we fr.Se (MS vs2 τ2.ob ++ (MS vs' [] ++ (MS vs cx.ob ++ fr.F ++ F))) _ w' from hs2) fun S w hΓ => All.append (all_mem.2 fun f hf => ?_) (All.right hΓ)
     obtain ⟨e, he, rfl⟩ := List.mem_map.1 hf
     obtain ⟨t, ht, hm'⟩ := dstL_mem he
     have := rs_get (All.left hΓ) hm'
     rw [ht, put_eq] at this
     exact this
    ·exfalso
     obtain ⟨S, _, hΓ⟩ := hst.ex
     have hh : HoldL (KV P vs' KL) env0 env S w (Oper.looksAt all.toArray o) := hΓ.1
     have := hwt hv (All.left hΓ.2) (hts ▸ hh)
     rw [hw] at this; cases this
theorem regB_s (hm : P.follows .mixedOrders = true) (hT : TTok P cf.tt) (hL : ELok P cf.tt) (hC : ∀ s ∈ cf.cs, SigOK P s) (hX : XOK P cf) {N : Nd} {id m : Nat} {l : List Oper} {Q : Qs} {k : Sg -> Option R}
  (hK : ∀ σ', k σ' = some r -> ∀ env' w, SmO cx env env' -> Rel P fr cx σ' env' w -> Q .normal env' w) (hN : (l.all fun o => okDst N.n o.dst) = true) (hc : drawOK2 l m = true) (h : regB cf cx id l m σ k = some r) (hR : Rel P fr cx σ env w) : Wp P N (.region id l.toArray true) Q env w := by
 unfold regB at h
 simp only at h
 obtain ⟨hBs, vs, hsts⟩ := hR
 obtain ⟨hB0, hst⟩ := relV_frzOs (refsL (fzOf cf id) σ.rg) ⟨hBs, hsts⟩
 generalize frzOs σ (refsL (fzOf cf id) σ.rg) = σ0 at h hB0 hst
 have hml : m <= l.length := (draw_parts2 hc).1
 obtain ⟨Ls, is, σ', rs, h1, h2, h3, h4, h5, hinv, hno, hob, hB', hro, hn0⟩ := runB_s (P := P) (fr := fr) (vs := vs) (env0 := env) (Γ := GS P vs env fr cx σ0) (n0 := σ0.nx) (KL := []) hT hL hC hX hB0.o2 h
  (fun vs' hv env' S w' hΓ t ht i dv hd => by
   have ht : env' t = env t := ht
   rw [ht]
   have hg : get cx σ0 t i = some dv := hd
   have := gs_lk hΓ t i dv hg
   have hc' : holdC P vs' dv (env t) i = holdC P vs dv (env t) i := by
    unfold holdC
    simp only [hold_vs (P := P) (vs' := vs') (vs := vs) (d := dv) fun o ho => hv o (by
     rcases get_mem hg with hm | hm
     ·exact hB0.r1 _ hm o ho
     ·exact hB0.r2 _ hm o ho)]
   rw [hc']; exact this) (fun _ he => absurd he List.not_mem_nil) rfl ⟨fun _ he => absurd he List.not_mem_nil, hB0.o2, hB0.r1, hB0.r2⟩ (fun q hq => by
    obtain ⟨e, he, rfl⟩ := List.mem_map.1 hq
    exact hB0.o1 e he) (fun q hq => by
    obtain ⟨e, he, rfl⟩ := List.mem_map.1 hq
    exact ⟨fun j hj => (by cases hj), fun j hj => (by cases hj), fun j hj => absurd hj List.not_mem_nil⟩) (Nat.le_refl _)
 simp only [List.nil_append] at h3
 obtain ⟨hx, h3⟩ := grd_s h3
 have hrx := RX_old h4
 refine T_any3 (we := fr.we) (Se := fr.Se) (ms := OS vs fr cx σ0.ob) (mE := MS vs cx.ob ++ fr.F) m Ls is rs (σ'.rg.map (·.1) ++ cx.rg.map (·.1)) vs σ0.nx hm hc (by rw [h1, List.length_take]; omega) (by rw [h2, List.length_take]; omega) hx (by rw [hrx]) hN h5 ?_ w hst
 intro env1 w1 vs' hvs hst2
 have hend : endB rs = avL (fun r => r.c.isNone) rs := endB_av rs
 have hmem : ∀ e ∈ endB rs, e.1 < σ'.nx := fun e he => by
  rw [hend] at he
  obtain ⟨q, hq, he⟩ := List.mem_filterMap.1 he
  split at he
  ·cases he; exact hro q hq
  ·cases he
 obtain ⟨S1, _, hΓ1⟩ := hst2.ex
 have hsm : SmO cx env env1 := fun e0 he0 => by
  have h1 := holdL_mem hΓ1.1 e0.1 (List.mem_append.2 (.inr (List.mem_map.2 ⟨e0, he0, rfl⟩)))
  unfold holdK at h1
  have hf : (KV P vs' (KLof ((l.take m).zip Ls) [])).find? (fun x => Nat.beq x.1 e0.1) = none := by
   rw [List.find?_eq_none]
   intro e he hb
   obtain ⟨e1, he1, rfl⟩ := List.mem_map.1 he
   have := hno e1 he1
   simp only [notIn, List.all_eq_true] at this
   have := this e0 he0
   rw [beq_t hb] at this
   simp at this
  rw [hf] at h1
  exact h1
 refine runL_s (P := P) (fr := fr) hT hL hC hX hK hsm (gd_take hN m) h3 ⟨⟨hmem, hB'.o2, fun e he => hB'.r1 e (dd_mem he), hB'.r2⟩, vs', ?_⟩
 show St fr.we fr.Se (MS vs' (endB rs) ++ (MS vs' cx.ob ++ fr.F)) (RS P vs' env1 (dd σ'.rg) ++ (RS P vs' env1 cx.rg ++ fr.G)) w1
 rw [hend, MS_congr (ob := cx.ob) fun e he => hvs _ (hB0.o2 e he)]
 refine hst2.weak fun S w2 hΓ => ?_
 have hk := holdL_mem hΓ.1
 have hcx : ∀ t ∈ cx.rg.map (·.1), env1 t = env t := fun t ht => by
  have h1 := hk t (List.mem_append.2 (.inr ht))
  unfold holdK at h1
  have hf : (KV P vs' (KLof ((l.take m).zip Ls) [])).find? (fun x => Nat.beq x.1 t) = none := by
   rw [List.find?_eq_none]
   intro e he hb
   obtain ⟨e0, he0, rfl⟩ := List.mem_map.1 he
   have := hno e0 he0
   obtain ⟨e', he', rfl⟩ := List.mem_map.1 ht
   simp only [notIn, List.all_eq_true] at this
   have := this e' he'
   rw [beq_t hb] at this
   simp at this
  rw [hf] at h1
  exact h1
 refine All.append ?_ (All.append ?_ (All.right (All.right hΓ.2)))
 ·refine all_mem.2 fun f hf => ?_
  obtain ⟨e, he, rfl⟩ := List.mem_map.1 hf
  have hg : get cx σ' e.1 e.2.1 = some e.2.2 := by unfold get; rw [dd_fnd he]
  exact hinv vs' hvs env1 S w2 hΓ.2 e.1 (hk e.1 (List.mem_append.2 (.inl (List.mem_map.2 ⟨e, dd_mem he, rfl⟩)))) _ _ hg
 ·rw [RS_congr (vs := vs) (env := env) (fun e he o ho => hvs o (hB0.r2 e he o ho)) fun e he => hcx e.1 (List.mem_map.2 ⟨e, he, rfl⟩)]
  exact All.left (All.right hΓ.2)
theorem region_s (hm : P.follows .mixedOrders = true) (hT : TTok P cf.tt) (hL : ELok P cf.tt) (hC : ∀ s ∈ cf.cs, SigOK P s) (hX : XOK P cf) {N : Nd} {id : Nat} {l : List Oper} {draw : Bool} {Q : Qs} {k : Sg -> Option R}
  (hK : ∀ σ', k σ' = some r -> ∀ env' w, SmO cx env env' -> Rel P fr cx σ' env' w -> Q .normal env' w) (hN : (l.all fun o => okDst N.n o.dst) = true) (h : regD cf cx id l draw σ k = some r) (hR : Rel P fr cx σ env w) : Wp P N (.region id l.toArray draw) Q env w := by
 unfold regD at h
 cases draw
 ·exact fun a h1 h2 h3 => wpIn_region_lit (runL_s hT hL hC hX hK SmO.refl hN h hR a h1 h2 h3)
 ·simp only [cnd] at h
  obtain ⟨hc, h⟩ := grd_s h
  generalize drawnN l l.length l.length = m at hc h
  cases hw : hasB cf id <;> rw [hw] at h
  case true => exact regB_s hm hT hL hC hX hK hN hc h hR
  simp only at h
  have hR0 := rel_frzA (cf := cf) (l.take m) [] hR
  generalize frzA cf cx (l.take m) [] σ = σ0 at h hR0
  obtain ⟨hB, vs, hst⟩ := hR0
  have hml : m <= l.length := (draw_parts2 hc).1
  obtain ⟨Φs, σ', hl, hobs, h, hinv, hno, hob, hB'⟩ := runE_s (P := P) (fr := fr) (vs := vs) (env0 := env) (σ0 := σ0) (Γ := GS P vs env fr cx σ0) (K := []) hT hL hC hX h
   (fun env' S w' hΓ t ht i dv hd => by
    have ht : env' t = env t := ht
    rw [ht]
    exact gs_lk hΓ t i dv hd) (fun _ he => absurd he List.not_mem_nil) rfl hB
  refine T_draw (we := fr.we) (Se := fr.Se) (ms := OS vs fr cx σ0.ob) (Γ := GS P vs env fr cx σ0) m Φs (σ'.rg.map (·.1) ++ cx.rg.map (·.1)) hm hc (by rw [hl, List.length_take]; omega) hN hobs ?_ w hst
  intro S w1 env1 hS hΓ hh
  have hk := holdL_mem hh
  have hcx : ∀ t ∈ cx.rg.map (·.1), env1 t = env t := fun t ht => by
   have h1 := hk t (List.mem_append.2 (.inr ht))
   unfold holdK at h1
   have hf : (Kof ((l.take m).zip Φs) []).find? (fun x => Nat.beq x.1 t) = none := by
    rw [List.find?_eq_none]
    intro e he hb
    have := hno e he
    obtain ⟨e', he', rfl⟩ := List.mem_map.1 ht
    simp only [notIn, List.all_eq_true] at this
    have := this e' he'
    rw [beq_t hb] at this
    simp at this
   rw [hf] at h1
   exact h1
  have hd : All S (RS P vs env1 (dd σ'.rg)) w1 := all_mem.2 fun f hf => by
   obtain ⟨e, he, rfl⟩ := List.mem_map.1 hf
   have hg : get cx σ' e.1 e.2.1 = some e.2.2 := by unfold get; rw [dd_fnd he]
   exact hinv env1 S w1 hΓ e.1 (hk e.1 (List.mem_append.2 (.inl (List.mem_map.2 ⟨e, dd_mem he, rfl⟩)))) _ _ hg
  have hc2 : All S (RS P vs env1 cx.rg) w1 := by
   rw [RS_congr (env := env) (fun _ _ _ _ => rfl) fun e he => hcx e.1 (List.mem_map.2 ⟨e, he, rfl⟩)]
   exact All.left (All.right hΓ)
  refine ⟨GS P vs env1 fr cx ⟨σ'.nx, dd σ'.rg, σ'.ob⟩, (σ'.rg.map (·.1) ++ cx.rg.map (·.1)).map fun t => (t, env1 t), All.append hd (All.append hc2 (All.right (All.right hΓ))), agree_self _, fun rest w2 hst2 => ?_⟩
  refine runL_s (P := P) (fr := fr) hT hL hC hX hK (fun e0 he0 => (L_self (List.mem_append.2 (.inr (List.mem_map.2 ⟨e0, he0, rfl⟩)))).trans (hcx e0.1 (List.mem_map.2 ⟨e0, he0, rfl⟩))) (gd_take hN m) h ⟨⟨hB'.o1, hB'.o2, fun e he => hB'.r1 e (dd_mem he), hB'.r2⟩, vs, ?_⟩
  have e1 : RS P vs (L ((σ'.rg.map (·.1) ++ cx.rg.map (·.1)).map fun t => (t, env1 t)) rest) (dd σ'.rg) = RS P vs env1 (dd σ'.rg) := RS_congr (fun _ _ _ _ => rfl) fun e he => L_self (List.mem_append.2 (.inl (List.mem_map.2 ⟨e, dd_mem he, rfl⟩)))
  have e2 : RS P vs (L ((σ'.rg.map (·.1) ++ cx.rg.map (·.1)).map fun t => (t, env1 t)) rest) cx.rg = RS P vs env1 cx.rg := RS_congr (fun _ _ _ _ => rfl) fun e he => L_self (List.mem_append.2 (.inr (List.mem_map.2 ⟨e, he, rfl⟩)))
  show St _ _ (OS vs fr cx σ'.ob) (RS P vs _ (dd σ'.rg) ++ (RS P vs _ cx.rg ++ fr.G)) w2
  rw [e1, e2, hob]
  exact hst2
end
end Go.Proofs.YtmggkmchbdanfaaGreat
end

section
set_option linter.unusedVariables false
set_option linter.unusedSimpArgs false
namespace Go.Proofs.YtmggkmchbdanfaaGreat
section
variable {P : Program} {cf : Cf} {fr : Fr} {cx kp σ : Sg} {vs vs' : Nat -> Value} {env env0 : Env} {w : World} {R : Type} {r : R}
def rowV (u : Value) (r : Nat) : Option Value := (hvW u)[r]?
def tfF : (f : TF) -> f.D -> (Nat -> Value) -> Value -> Value -> FF
 | .d t, x, _, _, v => fV t.rep x v
 | .q t, x, _, _, v => fP t.rep x v
 | .own _ _, _, _, u, v => ffT (v = u)
 | .var _ _, _, _, u, v => ffT (v = u /\ ∃ b, v = .pointer (some ⟨b, 0, none⟩))
 | .mat _ _ _, _, _, u, v => ffT (v = outW u)
 | .matv _ _ _, x, _, u, v => ffT (MvV (outW u) x.2.1 x.2.2 v)
 | .row j, r, U, _, v => ffT (rowV (U j) r = some v)
 | .view j, r, U, _, v => ffT (MvV (outW (U j)) r.1 r.2 v)
 | .bo _ _ _, _, _, u, v => ffT (v = outW u)
def tfM : (f : TF) -> f.D -> Value -> List MF
 | .own t E, xs, u => [mO t.rep E u xs]
 | .var t E, z, u => [mP t.rep.c E u z]
 | .mat t E E1, x, u => [mMt t.rep E E1 u x.1 x.2]
 | .matv t E E1, x, u => [mMt t.rep E E1 u x.1.1 x.1.2]
 | .bo t E E0, xs, u => [mBo t.rep E E0 u xs]
 | _, _, _ => []
def dsF (U : Nat -> Value) (env : Env) : (l : List (Nat × TF)) -> DsD l -> Nat -> List FF
 | [], _, _ => []
 | [a], x, i => [tfF a.2 x U (U i) (env a.1)]
 | a :: b :: r, x, i => tfF a.2 x.1 U (U i) (env a.1) :: dsF U env (b :: r) x.2 (i + 1)
def dsM (U : Nat -> Value) : (l : List (Nat × TF)) -> DsD l -> Nat -> List MF
 | [], _, _ => []
 | [a], x, i => tfM a.2 x (U i)
 | a :: b :: r, x, i => tfM a.2 x.1 (U i) ++ dsM U (b :: r) x.2 (i + 1)
def valT (f : TF) (dv : Option Dv) (vs : Nat -> Value) (v : Value) : Value := match f, dv with
 | .mat _ _ _, some .nil => tupW v []
 | .mat _ _ _, some (.mw o) => vs o
 | .matv _ _ _, some (.mv o _ _) => vs o
 | .bo _ _ _, some (.mw o) => vs o
 | _, _ => v
def valU (cx σ : Sg) (ds : List (Nat × TF)) (vs : Nat -> Value) (env : Env) (j : Nat) : Value := match ds[j]? with
 | some (t, f) => valT f (get cx σ t 0) vs (env t)
 | none => undef
theorem St.mid {we : World} {Se : Nat -> Prop} {A B : List MF} {m : MF} {Γ : List FF} {w : World} (h : St we Se (A ++ m :: B) Γ w) : St we Se (m :: (A ++ B)) Γ w := St.perm h List.perm_middle
theorem none_in : ∀ {os l : List Nat}, noneIn os l = true -> ∀ o ∈ l, has os o = false
 | os, o :: r, h, p, hp => by
  simp only [noneIn, Bool.and_eq_true, Bool.not_eq_true'] at h
  rcases List.mem_cons.1 hp with rfl | hp
  ·exact h.1
  ·exact none_in h.2 p hp
theorem gatF_s {ds : List (Nat × TF)} {t : Nat} {f : TF} {k : f.D -> List Nat -> Option R} (h : gatF cx σ ds t f k = some r) : ∃ x os, k x os = some r /\ (∀ j, refT f = some j -> j < ds.length) /\
  (∀ (P : Program) vs env S w, (∀ t, Lk P vs env S w cx σ t) -> (tfF f x (valU cx σ ds vs env) (valT f (get cx σ t 0) vs (env t)) (env t)).p S w) /\
  (∀ (P : Program) vs (fr : Fr) env (A : List MF) (Γ : List FF) w (os' : List Nat), (∀ S w, All S Γ w -> Lk P vs env S w cx σ t) -> (∀ o ∈ os, has os' o = false) -> St fr.we fr.Se (A ++ OS vs fr cx (delos σ.ob os')) Γ w ->
   St fr.we fr.Se (tfM f x (valT f (get cx σ t 0) vs (env t)) ++ (A ++ OS vs fr cx (delos σ.ob (os ++ os')))) Γ w) := by
 have nr : ∀ {f : TF}, (∀ j, refT f ≠ some j) -> ∀ j, refT f = some j -> j < ds.length := fun h j e => absurd e (h j)
 cases f with
 | d s =>
  obtain ⟨y, h, hy⟩ := asD_s h
  refine ⟨y, [], h, nr (fun j e => by cases e), fun P vs env S w hl => ?_, fun P vs fr env A Γ w os' _ _ h => h⟩
  cases hg : get cx σ t 0 with
  | none => rename_i h0; simp only [gatF] at h0; rw [hg] at h0; cases h0
  | some v => exact hy P vs S w v _ hg (hl t 0 v hg)
 | q s =>
  simp only [gatF] at h
  split at h
  ·next s' x hg =>
   obtain ⟨e, h⟩ := cast_s h
   subst e
   exact ⟨_, [], h, nr (fun j e => by cases e), fun P vs env S w hl => hl t 0 _ hg, fun P vs fr env A Γ w os' _ _ h => h⟩
  ·cases h
 | own s E =>
  simp only [gatF] at h
  split at h
  ·next o hg =>
   split at h
   ·next s' E' xs ho =>
    obtain ⟨hE, h1⟩ := grd_s h
    have hE := beq_t hE
    subst hE
    obtain ⟨e, h2⟩ := cast_s h1
    cases e
    refine ⟨_, [o], h2, nr (fun j e => by cases e), fun _ _ _ _ _ _ => by simp only [hg, valT]; exact rfl, fun P vs fr env A Γ w os' hl hn hst => ?_⟩
    have hp := os_perm (vs := vs) (fr := fr) (cx := cx) ((fndO_delos (hn o (List.mem_cons_self ..))).trans ho)
    have h3 := St.mid (St.perm hst (List.Perm.append_left _ hp))
    obtain ⟨S, _, hΓ⟩ := hst.ex
    have hv : env t = vs o := hl S w hΓ 0 _ hg
    simp only [hg, valT]
    show St _ _ (mO s.rep E (env t) _ :: (A ++ _)) _ _
    rw [hv]; exact h3
   ·cases h
  ·next hg =>
   refine ⟨_, [], h, nr (fun j e => by cases e), fun _ _ _ _ _ _ => by simp only [hg, valT]; exact rfl, fun P vs fr env A Γ w os' hl hn hst => ?_⟩
   obtain ⟨S, _, hΓ⟩ := hst.ex
   have hv : env t = .slice none 0 0 := hl S w hΓ 0 _ hg
   simp only [hg, valT]
   show St _ _ (mO s.rep E (env t) _ :: (A ++ _)) _ _
   rw [hv]; exact hst.nilO
  ·cases h
 | var s E =>
  simp only [gatF] at h
  split at h
  ·next o s0 hg =>
   split at h
   ·next s' E' z ho =>
    obtain ⟨hE, h1⟩ := grd_s h
    have hE := beq_t hE
    subst hE
    obtain ⟨e, h2⟩ := cast_s h1
    subst e
    refine ⟨_, [o], h2, nr (fun j e => by cases e), fun P vs env S w hl => ?_, fun P vs fr env A Γ w os' hl hn hst => ?_⟩
    ·obtain ⟨h3, b, h4⟩ := hl t 0 _ hg
     simp only [hg, valT]
     exact ⟨rfl, b, h3.trans h4⟩
    ·have hp := os_perm (vs := vs) (fr := fr) (cx := cx) ((fndO_delos (hn o (List.mem_cons_self ..))).trans ho)
     have h3 := St.mid (St.perm hst (List.Perm.append_left _ hp))
     obtain ⟨S, _, hΓ⟩ := hst.ex
     have hv : env t = vs o := (hl S w hΓ 0 _ hg).1
     simp only [hg, valT]
     show St _ _ (mP s'.rep.c E (env t) _ :: (A ++ _)) _ _
     rw [hv]; exact h3
   ·cases h
  ·cases h
 | mat s E E1 =>
  simp only [gatF] at h
  split at h
  ·next o hg =>
   split at h
   ·next s' E' F' xss ix ho =>
    obtain ⟨hE, h1⟩ := grd_s h
    rw [Bool.and_eq_true] at hE
    have hE1 := beq_t hE.1
    have hE2 := beq_t hE.2
    subst hE1
    subst hE2
    obtain ⟨e, h2⟩ := cast_s h1
    cases e
    refine ⟨_, [o], h2, nr (fun j e => by cases e), fun P vs env S w hl => ?_, fun P vs fr env A Γ w os' hl hn hst => ?_⟩
    ·simp only [hg, valT]
     exact hl t 0 _ hg
    ·have hp := os_perm (vs := vs) (fr := fr) (cx := cx) ((fndO_delos (hn o (List.mem_cons_self ..))).trans ho)
     simp only [hg, valT]
     have h3 := St.mid (St.perm hst (List.Perm.append_left _ hp))
     exact h3
   ·cases h
  ·next hg =>
   refine ⟨_, [], h, nr (fun j e => by cases e), fun P vs env S w hl => by simp only [hg, valT]; exact rfl, fun P vs fr env A Γ w os' hl hn hst => ?_⟩
   obtain ⟨S, _, hΓ⟩ := hst.ex
   have hv : env t = .slice none 0 0 := hl S w hΓ 0 _ hg
   simp only [hg, valT]
   refine mt_in (u := tupW (env t) []) rfl ?_
   show St _ _ (mO (eHd []) E (env t) [] :: (A ++ _)) _ _
   rw [hv]; exact hst.nilO
  ·cases h
 | matv s E E1 =>
  simp only [gatF] at h
  split at h
  ·next o lo n hg =>
   split at h
   ·next s' E' F' xss ix ho =>
    obtain ⟨hE, h1⟩ := grd_s h
    rw [Bool.and_eq_true] at hE
    have hE1 := beq_t hE.1
    have hE2 := beq_t hE.2
    subst hE1
    subst hE2
    obtain ⟨e, h2⟩ := cast_s h1
    cases e
    refine ⟨_, [o], h2, nr (fun j e => by cases e), fun P vs env S w hl => ?_, fun P vs fr env A Γ w os' hl hn hst => ?_⟩
    ·simp only [hg, valT]
     exact hl t 0 _ hg
    ·have hp := os_perm (vs := vs) (fr := fr) (cx := cx) ((fndO_delos (hn o (List.mem_cons_self ..))).trans ho)
     simp only [hg, valT]
     have h3 := St.mid (St.perm hst (List.Perm.append_left _ hp))
     exact h3
   ·cases h
  ·cases h
 | row j =>
  simp only [gatF] at h
  have fin : ∀ (o o' p : Nat), j < ds.length -> get cx σ t 0 = some (.rw o p) -> Nat.beq o o' = true -> k p [] = some r -> (∀ vs env, valU cx σ ds vs env j = vs o') -> ∃ (x : Nat) (os : List Nat), k x os = some r /\ (∀ i, refT (TF.row j) = some i -> i < ds.length) /\
    (∀ (P : Program) vs env S w, (∀ t, Lk P vs env S w cx σ t) -> (tfF (.row j) x (valU cx σ ds vs env) (valT (.row j) (get cx σ t 0) vs (env t)) (env t)).p S w) /\
    (∀ (P : Program) vs (fr : Fr) env (A : List MF) (Γ : List FF) w (os' : List Nat), (∀ S w, All S Γ w -> Lk P vs env S w cx σ t) -> (∀ o ∈ os, has os' o = false) -> St fr.we fr.Se (A ++ OS vs fr cx (delos σ.ob os')) Γ w ->
     St fr.we fr.Se (tfM (.row j) x (valT (.row j) (get cx σ t 0) vs (env t)) ++ (A ++ OS vs fr cx (delos σ.ob (os ++ os')))) Γ w) := by
   intro o o' p hlt hg h2 h3 h4
   refine ⟨p, [], h3, fun i e => by cases e; exact hlt, fun P vs env S w hl => ?_, fun P vs fr env A Γ w os' _ _ h => h⟩
   have h5 : (hvW (vs o))[p]? = some (env t) := hl t 0 _ hg
   rw [beq_t h2] at h5
   show rowV (valU cx σ ds vs env j) p = some (env t)
   rw [h4]; exact h5
  split at h
  ·next o p s _ _ _ hg hj =>
   split at h
   ·next o' hs =>
    obtain ⟨hb, h⟩ := grd_s h
    exact fin o o' p (List.getElem?_eq_some_iff.1 hj).1 hg hb h fun vs env => by unfold valU; rw [hj]; simp only [hs, valT]
   ·cases h
  ·next o p s _ _ _ hg hj =>
   split at h
   ·next o' lo n hs =>
    obtain ⟨hb, h⟩ := grd_s h
    exact fin o o' p (List.getElem?_eq_some_iff.1 hj).1 hg hb h fun vs env => by unfold valU; rw [hj]; simp only [hs, valT]
   ·cases h
  ·cases h
 | view j =>
  simp only [gatF] at h
  have fin : ∀ (o o' p q : Nat), j < ds.length -> get cx σ t 0 = some (.mv o p q) -> Nat.beq o o' = true -> k (p, q) [] = some r -> (∀ vs env, valU cx σ ds vs env j = vs o') -> ∃ (x : Nat × Nat) (os : List Nat), k x os = some r /\ (∀ i, refT (TF.view j) = some i -> i < ds.length) /\
    (∀ (P : Program) vs env S w, (∀ t, Lk P vs env S w cx σ t) -> (tfF (.view j) x (valU cx σ ds vs env) (valT (.view j) (get cx σ t 0) vs (env t)) (env t)).p S w) /\
    (∀ (P : Program) vs (fr : Fr) env (A : List MF) (Γ : List FF) w (os' : List Nat), (∀ S w, All S Γ w -> Lk P vs env S w cx σ t) -> (∀ o ∈ os, has os' o = false) -> St fr.we fr.Se (A ++ OS vs fr cx (delos σ.ob os')) Γ w ->
     St fr.we fr.Se (tfM (.view j) x (valT (.view j) (get cx σ t 0) vs (env t)) ++ (A ++ OS vs fr cx (delos σ.ob (os ++ os')))) Γ w) := by
   intro o o' p q hlt hg h2 h3 h4
   refine ⟨(p, q), [], h3, fun i e => by cases e; exact hlt, fun P vs env S w hl => ?_, fun P vs fr env A Γ w os' _ _ h => h⟩
   have h5 : MvV (outW (vs o)) p q (env t) := hl t 0 _ hg
   rw [beq_t h2] at h5
   show MvV (outW (valU cx σ ds vs env j)) p q (env t)
   rw [h4]; exact h5
  split at h
  ·next o p q s _ _ _ hg hj =>
   split at h
   ·next o' hs =>
    obtain ⟨hb, h⟩ := grd_s h
    exact fin o o' p q (List.getElem?_eq_some_iff.1 hj).1 hg hb h fun vs env => by unfold valU; rw [hj]; simp only [hs, valT]
   ·cases h
  ·next o p q s _ _ _ hg hj =>
   split at h
   ·next o' lo n hs =>
    obtain ⟨hb, h⟩ := grd_s h
    exact fin o o' p q (List.getElem?_eq_some_iff.1 hj).1 hg hb h fun vs env => by unfold valU; rw [hj]; simp only [hs, valT]
   ·cases h
  ·cases h
 | bo s E E0 =>
  simp only [gatF] at h
  split at h
  ·next o hg =>
   split at h
   ·next s' E' F' xs ho =>
    obtain ⟨hE, h1⟩ := grd_s h
    rw [Bool.and_eq_true] at hE
    have hE1 := beq_t hE.1
    have hE2 := beq_t hE.2
    subst hE1
    subst hE2
    obtain ⟨e, h2⟩ := cast_s h1
    cases e
    refine ⟨_, [o], h2, nr (fun j e => by cases e), fun P vs env S w hl => ?_, fun P vs fr env A Γ w os' hl hn hst => ?_⟩
    ·simp only [hg, valT]
     exact hl t 0 _ hg
    ·have hp := os_perm (vs := vs) (fr := fr) (cx := cx) ((fndO_delos (hn o (List.mem_cons_self ..))).trans ho)
     simp only [hg, valT]
     have h3 := St.mid (St.perm hst (List.Perm.append_left _ hp))
     exact h3
   ·cases h
  ·cases h
theorem valU_at {ds : List (Nat × TF)} {i : Nat} {t : Nat} {f : TF} {env : Env} (h : ds[i]? = some (t, f)) : valU cx σ ds vs env i = valT f (get cx σ t 0) vs (env t) := by unfold valU; rw [h]
theorem gat_s {ds : List (Nat × TF)} : ∀ {l : List (Nat × TF)} {i : Nat} {k : DsD l -> List Nat -> Option R}, (∀ j a, l[j]? = some a -> ds[i + j]? = some a) -> gat cx σ ds l k = some r -> ∃ x os, k x os = some r /\ (∀ a ∈ l, ∀ j, refT a.2 = some j -> j < ds.length) /\
  (∀ (P : Program) vs env S w, (∀ t, Lk P vs env S w cx σ t) -> All S (dsF (valU cx σ ds vs env) env l x i) w) /\
  (∀ (P : Program) vs (fr : Fr) env (Γ : List FF) w, (∀ S w, All S Γ w -> ∀ t, Lk P vs env S w cx σ t) -> St fr.we fr.Se (OS vs fr cx σ.ob) Γ w -> St fr.we fr.Se (dsM (valU cx σ ds vs env) l x i ++ OS vs fr cx (delos σ.ob os)) Γ w)
 | [], i, k, _, h => ⟨(), [], h, fun _ h => absurd h List.not_mem_nil, fun _ _ _ _ _ _ => trivial, fun _ _ _ _ _ _ _ h => h⟩
 | [a], i, k, hd, h => by
  obtain ⟨x, os, h1, h0, h2, h3⟩ := gatF_s (h : gatF cx σ ds a.1 a.2 k = some r)
  have ha : ds[i]? = some (a.1, a.2) := hd 0 a rfl
  refine ⟨x, os, h1, fun b hb j e => ?_, fun P vs env S w hl => ⟨?_, trivial⟩, fun P vs fr env Γ w hl hst => ?_⟩
  ·obtain rfl := List.mem_singleton.1 hb
   exact h0 j e
  ·rw [valU_at ha]; exact h2 P vs env S w hl
  ·have := h3 P vs fr env [] Γ w [] (fun S w hΓ => hl S w hΓ a.1) (fun _ _ => rfl) hst
   rw [List.append_nil] at this
   show St _ _ (tfM a.2 x (valU cx σ ds vs env i) ++ _) _ _
   rw [valU_at ha]; exact this
 | a :: b :: l, i, k, hd, h => by
  obtain ⟨x, o, h1, h0, h2, h3⟩ := gatF_s (h : gatF cx σ ds a.1 a.2 _ = some r)
  obtain ⟨y, os, h4, h00, h5, h6⟩ := gat_s (l := b :: l) (i := i + 1) (fun j c hj => by
   have := hd (j + 1) c (by simpa using hj)
   rw [show i + 1 + j = i + (j + 1) by omega]; exact this) h1
  obtain ⟨hn, h4⟩ := grd_s h4
  have ha : ds[i]? = some (a.1, a.2) := hd 0 a rfl
  refine ⟨(x, y), o ++ os, h4, fun c hc j e => ?_, fun P vs env S w hl => ⟨?_, h5 P vs env S w hl⟩, fun P vs fr env Γ w hl hst => ?_⟩
  ·rcases List.mem_cons.1 hc with rfl | hc
   ·exact h0 j e
   ·exact h00 c hc j e
  ·rw [valU_at ha]; exact h2 P vs env S w hl
  ·have := h3 P vs fr env (dsM (valU cx σ ds vs env) (b :: l) y (i + 1)) Γ w os (fun S w hΓ => hl S w hΓ a.1) (none_in hn) (h6 P vs fr env Γ w hl hst)
   show St _ _ ((tfM a.2 x (valU cx σ ds vs env i) ++ dsM (valU cx σ ds vs env) (b :: l) y (i + 1)) ++ _) _ _
   rw [valU_at ha, List.append_assoc]
   exact this
def nvs (vs : Nat -> Value) (U : Nat -> Value) (n : Nat) : Nat -> Value := fun k => if k < n then vs k else U (k - n)
theorem bld_ob {n0 : Nat} : ∀ {l : List (Nat × TF)} {x : DsD l} {o : Nat}, ∀ e ∈ (bld n0 l x o).2, o <= e.1 /\ e.1 < o + l.length
 | [], _, _, e, he => absurd he List.not_mem_nil
 | [(t, f)], x, o, e, he => by
  cases f <;> simp only [bld, bldF] at he <;> first | exact absurd he List.not_mem_nil | (obtain rfl := List.mem_singleton.1 he; exact ⟨Nat.le_refl _, Nat.lt_succ_self _⟩)
 | (t, f) :: b :: l, x, o, e, he => by
  have ih : ∀ e ∈ (bld n0 (b :: l) x.2 (o + 1)).2, o <= e.1 /\ e.1 < o + ((t, f) :: b :: l).length := fun e he => by
   have := bld_ob e he
   simp only [List.length_cons] at this ⊢
   omega
  cases f <;> simp only [bld, bldF] at he <;> first
   | exact ih e he
   | exact (List.mem_cons.1 he).elim (fun he => by subst he; exact ⟨Nat.le_refl _, by simp only [List.length_cons]; omega⟩) (fun he => ih e he)
theorem bldF_ref {n0 o p n : Nat} {f : TF} {x : f.D} (hn : ∀ j, refT f = some j -> j < n) (h : refO (bldF n0 o f x).1 = some p) : p = o \/ p < n0 + n := by
 cases f <;> simp only [bldF, refO, Option.some.injEq, reduceCtorEq] at h
 ·exact .inl h.symm
 ·exact .inl h.symm
 ·exact .inl h.symm
 ·exact .inl h.symm
 ·next j => have := hn j rfl; exact .inr (by omega)
 ·next j => have := hn j rfl; exact .inr (by omega)
 ·exact .inl h.symm
theorem bld_ref {n0 n : Nat} : ∀ {l : List (Nat × TF)} {x : DsD l} {o : Nat}, (∀ a ∈ l, ∀ j, refT a.2 = some j -> j < n) -> ∀ e ∈ (bld n0 l x o).1, ∀ p, refO e.2.2 = some p -> p < o + l.length \/ p < n0 + n
 | [], _, _, _, e, he => absurd he List.not_mem_nil
 | [(t, f)], x, o, hn, e, he => by
  intro p hp
  obtain rfl := List.mem_singleton.1 (show e ∈ [(t, 0, (bldF n0 o f x).1)] from he)
  rcases bldF_ref (hn _ (List.mem_cons_self ..)) hp with rfl | h
  ·exact .inl (Nat.lt_succ_self _)
  ·exact .inr h
 | (t, f) :: b :: l, x, o, hn, e, he => by
  intro p hp
  have he : e = (t, 0, (bldF n0 o f x.1).1) \/ e ∈ (bld n0 (b :: l) x.2 (o + 1)).1 := List.mem_cons.1 he
  rcases he with rfl | he
  ·rcases bldF_ref (hn _ (List.mem_cons_self ..)) hp with rfl | h
   ·exact .inl (by simp only [List.length_cons]; omega)
   ·exact .inr h
  ·rcases bld_ref (fun a ha => hn a (List.mem_cons_of_mem _ ha)) e he p hp with h | h
   ·simp only [List.length_cons] at h ⊢
    exact .inl (by omega)
   ·exact .inr h
theorem bld_ms {U : Nat -> Value} {n0 : Nat} : ∀ {l : List (Nat × TF)} {x : DsD l} {o i : Nat}, (∀ j, j < l.length -> vs (o + j) = U (i + j)) -> MS vs (bld n0 l x o).2 = dsM U l x i
 | [], _, _, _, _ => rfl
 | [(t, f)], x, o, i, h => by
  have h0 : vs o = U i := h 0 (by simp)
  cases f <;> simp only [bld, bldF, MS, List.map_cons, List.map_nil, moF, dsM, tfM, h0]
 | (t, f) :: b :: l, x, o, i, h => by
  have h0 : vs o = U i := h 0 (by simp)
  have ih : MS vs (bld n0 (b :: l) x.2 (o + 1)).2 = dsM U (b :: l) x.2 (i + 1) := bld_ms fun j hj => by
   have := h (j + 1) (by simpa using hj)
   rw [show o + 1 + j = o + (j + 1) by omega, show i + 1 + j = i + (j + 1) by omega]; exact this
  unfold MS at ih
  cases f <;> simp only [bld, bldF, MS, List.map_cons, moF, dsM, tfM, h0, ih, List.nil_append, List.singleton_append]
theorem bldF_hold {U : Nat -> Value} {n0 n : Nat} {f : TF} {x : f.D} {o t : Nat} {u : Value} {S : Nat -> Prop} (hv : vs o = u) (hn : ∀ j, refT f = some j -> j < n) (hU : ∀ j, j < n -> vs (n0 + j) = U j) (h : (tfF f x U u (env t)).p S w) : (holdC P vs (bldF n0 o f x).1 (env t) 0).p S w := by
 subst hv
 cases f
 ·exact h
 ·exact h
 ·exact h
 ·obtain ⟨h1, b, h2⟩ := h
  exact ⟨h1, b, h1.symm.trans h2⟩
 ·exact h
 ·exact h
 ·next j =>
  have h : rowV (U j) x = some (env t) := h
  show rowV (vs (n0 + j)) x = some (env t)
  rw [hU j (hn j rfl)]
  exact h
 ·next j =>
  have h : MvV (outW (U j)) x.1 x.2 (env t) := h
  show MvV (outW (vs (n0 + j))) x.1 x.2 (env t)
  rw [hU j (hn j rfl)]
  exact h
 ·exact h
theorem bld_rs {U : Nat -> Value} {n0 n : Nat} (hU : ∀ j, j < n -> vs (n0 + j) = U j) : ∀ {l : List (Nat × TF)} {x : DsD l} {o i : Nat} {S : Nat -> Prop}, (∀ a ∈ l, ∀ j, refT a.2 = some j -> j < n) -> (∀ j, j < l.length -> vs (o + j) = U (i + j)) -> All S (dsF U env l x i) w -> All S (RS P vs env (bld n0 l x o).1) w
 | [], _, _, _, _, _, _, _ => trivial
 | [(t, f)], x, o, i, S, hn, h, hf => ⟨bldF_hold (h 0 (by simp)) (hn _ (List.mem_cons_self ..)) hU hf.1, trivial⟩
 | (t, f) :: b :: l, x, o, i, S, hn, h, hf => ⟨bldF_hold (h 0 (by simp)) (hn _ (List.mem_cons_self ..)) hU hf.1, bld_rs hU (fun a ha => hn a (List.mem_cons_of_mem _ ha)) (fun j hj => by
   have := h (j + 1) (by simpa using hj)
   rw [show o + 1 + j = o + (j + 1) by omega, show i + 1 + j = i + (j + 1) by omega]; exact this) hf.2⟩
theorem ns_get : ∀ {ns : List (Nat × NF)}, nsOK cx σ ns = true -> ∀ t f, (t, f) ∈ ns -> (match f, get cx σ t 0 with
  | .kb b, some (.kb c) => b == c
  | .nil, some .nil => true
  | .ci x, some (.d .i y) => eqI x y
  | .cu x, some (.d .u y) => eqU x y
  | .al s, some (.ow o) => (match get cx σ s 0 with
   | some (.ow o') => Nat.beq o o'
   | _ => false)
  | .al s, some (.vs o _) => (match get cx σ s 0 with
   | some (.vs o' _) => Nat.beq o o'
   | _ => false)
  | .al s, some (.mw o) => (match get cx σ s 0 with
   | some (.mw o') => Nat.beq o o'
   | _ => false)
  | _, _ => false) = true
 | (t', f') :: r, h, t, f, hm => by
  unfold nsOK at h
  rw [Bool.and_eq_true] at h
  rcases List.mem_cons.1 hm with heq | hm
  ·cases heq; exact h.1
  ·exact ns_get h.2 t f hm
theorem bldN_rs {rg : List (Nat × Nat × Dv)} {S : Nat -> Prop} (hr : All S (RS P vs env rg) w) : ∀ {ns : List (Nat × NF)}, (∀ t f, (t, f) ∈ ns -> match f with
   | .kb b => env t = .bool b
   | .nil => env t = .slice none 0 0
   | .ci x => (fV eI x (env t)).p S w
   | .cu x => (fV eU x (env t)).p S w
   | .al s => env t = env s) -> All S (RS P vs env (bldN rg ns)) w
 | [], _ => hr
 | (t, f) :: r, h => by
  have ih := bldN_rs hr (ns := r) fun t f hm => h t f (List.mem_cons_of_mem _ hm)
  have h0 := h t f (List.mem_cons_self ..)
  unfold bldN
  show All S (RS P vs env (_ ++ _)) w
  rw [show RS P vs env (_ ++ bldN rg r) = RS P vs env _ ++ RS P vs env (bldN rg r) from List.map_append]
  refine All.append ?_ ih
  cases f
  ·exact ⟨h0, trivial⟩
  ·exact ⟨h0, trivial⟩
  ·exact ⟨h0, trivial⟩
  ·exact ⟨h0, trivial⟩
  ·next s =>
   simp only
   split
   ·next v hv =>
    have := rs_get hr (fnd_mem hv)
    have h0 : env t = env s := h0
    refine ⟨?_, trivial⟩
    show (holdC P vs v (env t) 0).p S w
    rw [h0]; exact this
   ·trivial
theorem bldN_ref {rg : List (Nat × Nat × Dv)} {n : Nat} (hr : ∀ e ∈ rg, ∀ p, refO e.2.2 = some p -> p < n) : ∀ {ns : List (Nat × NF)}, ∀ e ∈ bldN rg ns, ∀ p, refO e.2.2 = some p -> p < n
 | [], e, he => hr e he
 | (t, f) :: r, e, he => by
  intro p hp
  unfold bldN at he
  rcases List.mem_append.1 he with he | he
  ·cases f
   ·obtain rfl := List.mem_singleton.1 he; cases hp
   ·obtain rfl := List.mem_singleton.1 he; cases hp
   ·obtain rfl := List.mem_singleton.1 he; cases hp
   ·obtain rfl := List.mem_singleton.1 he; cases hp
   ·simp only at he
    split at he
    ·next v hv =>
     obtain rfl := List.mem_singleton.1 he
     exact hr _ (fnd_mem hv) p hp
    ·exact absurd he List.not_mem_nil
  ·exact bldN_ref hr e he p hp
theorem rel_frzS : ∀ (l : List (Nat × TF)) {σ : Sg}, Rel P fr cx σ env w -> Rel P fr cx (frzS cx σ l) env w
 | [], _, h => h
 | (t, .d _) :: r, _, h => rel_frzS r (rel_frz _ h)
 | (t, .q _) :: r, _, h => rel_frzS r h
 | (t, .own _ _) :: r, _, h => rel_frzS r h
 | (t, .var _ _) :: r, _, h => rel_frzS r h
 | (t, .mat _ _ _) :: r, _, h => rel_frzS r h
 | (t, .matv _ _ _) :: r, _, h => rel_frzS r h
 | (t, .row _) :: r, _, h => rel_frzS r h
 | (t, .view _) :: r, _, h => rel_frzS r h
 | (t, .bo _ _ _) :: r, _, h => rel_frzS r h
theorem St.dropM {we : World} {Se : Nat -> Prop} {Γ : List FF} {w : World} : ∀ {A B C : List MF}, St we Se (A ++ (B ++ C)) Γ w -> St we Se (A ++ C) Γ w
 | A, [], C, h => h
 | A, b :: B, C, h => St.dropM (B := B) (St.drop (i := 0) (St.mid h))
end
end Go.Proofs.YtmggkmchbdanfaaGreat
end

section
set_option linter.unusedVariables false
set_option linter.unusedSimpArgs false
namespace Go.Proofs.YtmggkmchbdanfaaGreat
section
variable {P : Program} {cf : Cf} {fr : Fr} {cx kp σ : Sg} {vs vs' : Nat -> Value} {env env0 : Env} {w : World} {R : Type} {r : R} {N : Nd} {Q : Qs}
theorem RS_app {a b : List (Nat × Nat × Dv)} : RS P vs env (a ++ b) = RS P vs env a ++ RS P vs env b := List.map_append
theorem out_s {sh : Sh} {k : DsD sh.ds -> Option R} (h : outS (addC cx kp) sh σ k = some r) (hK : Bd cx kp) : ∃ x, k x = some r /\ ∀ (fr : Fr) env w, Rel P fr (addC cx kp) σ env w -> Rel P fr cx (bldS sh x kp) env w := by
 unfold outS at h
 simp only at h
 obtain ⟨hns, h⟩ := grd_s h
 obtain ⟨x, os, h1, h0, h2, h3⟩ := gat_s (ds := sh.ds) (i := 0) (fun j a hj => by rw [Nat.zero_add]; exact hj) h
 refine ⟨x, h1, fun fr env w hR => ?_⟩
 have hR1 := rel_frzS sh.ds hR
 generalize frzS (addC cx kp) σ sh.ds = σ1 at *
 obtain ⟨hB, vs, hst⟩ := hR1
 have hst2 := h3 P vs fr env (GS P vs env fr (addC cx kp) σ1) w (fun S w hΓ => gs_lk hΓ) hst
 have hst3 := St.dropM hst2
 generalize hUe : valU (addC cx kp) σ1 sh.ds vs env = U at *
 have hvo : ∀ o, o < kp.nx -> nvs vs U kp.nx o = vs o := fun o ho => if_pos ho
 have hvn : ∀ j, j < sh.ds.length -> nvs vs U kp.nx (kp.nx + j) = U (0 + j) := fun j hj => by
  unfold nvs
  rw [if_neg (by omega), show kp.nx + j - kp.nx = j by omega, Nat.zero_add]
 have hb1 := fun e he => bld_ob (n0 := kp.nx) (l := sh.ds) (x := x) (o := kp.nx) e he
 have hb2 : ∀ e ∈ (bld kp.nx sh.ds x kp.nx).1, ∀ p, refO e.2.2 = some p -> p < kp.nx + sh.ds.length := fun e he p hp => by
  rcases bld_ref (n0 := kp.nx) (n := sh.ds.length) (l := sh.ds) (x := x) (o := kp.nx) h0 e he p hp with h | h <;> exact h
 refine ⟨⟨fun e he => ?_, fun e he => ?_, fun e he p hp => ?_, fun e he p hp => ?_⟩, nvs vs U kp.nx, ?_⟩
 ·rcases List.mem_append.1 he with he | he
  ·exact (hb1 e he).2
  ·exact Nat.lt_of_lt_of_le (hK.o1 e he) (Nat.le_add_right _ _)
 ·exact Nat.lt_of_lt_of_le (hK.o2 e he) (Nat.le_add_right _ _)
 ·rcases List.mem_append.1 he with he | he
  ·rcases List.mem_append.1 he with he | he
   ·exact bldN_ref (fun e he p hp => hb2 e he p hp) e he p hp
   ·exact hb2 e he p hp
  ·exact Nat.lt_of_lt_of_le (hK.r1 e he p hp) (Nat.le_add_right _ _)
 ·exact Nat.lt_of_lt_of_le (hK.r2 e he p hp) (Nat.le_add_right _ _)
 ·have e1 : OS (nvs vs U kp.nx) fr cx ((bld kp.nx sh.ds x kp.nx).2 ++ kp.ob) = dsM U sh.ds x 0 ++ (MS vs (kp.ob ++ cx.ob) ++ fr.F) := by
   show MS _ (_ ++ kp.ob) ++ (MS _ cx.ob ++ _) = _
   rw [show MS (nvs vs U kp.nx) ((bld kp.nx sh.ds x kp.nx).2 ++ kp.ob) = MS _ _ ++ MS _ _ from List.map_append, bld_ms hvn, MS_congr fun e he => hvo _ (hK.o1 e he), MS_congr (ob := cx.ob) fun e he => hvo _ (hK.o2 e he),
    show MS vs (kp.ob ++ cx.ob) = MS _ _ ++ MS _ _ from List.map_append, List.append_assoc, List.append_assoc]
  show St _ _ (OS (nvs vs U kp.nx) fr cx ((bld kp.nx sh.ds x kp.nx).2 ++ kp.ob)) _ _
  rw [e1]
  refine hst3.weak fun S w hΓ => ?_
  have hl : ∀ t, Lk P vs env S w (addC cx kp) σ1 t := gs_lk hΓ
  have hy : All S (RS P (nvs vs U kp.nx) env (bld kp.nx sh.ds x kp.nx).1) w := bld_rs (U := U) (n := sh.ds.length) (fun j hj => by rw [hvn j hj, Nat.zero_add]) h0 hvn (by rw [<- hUe]; exact h2 P vs env S w hl)
  have hkc : All S (RS P vs env kp.rg ++ RS P vs env cx.rg) w := by
   have := All.left (All.right hΓ)
   rwa [show RS P vs env (addC cx kp).rg = RS P vs env kp.rg ++ RS P vs env cx.rg from List.map_append] at this
  have hn := bldN_rs hy (ns := sh.ns) fun t f hm => by
   have hg := ns_get hns t f hm
   cases f
   ·split at hg <;> simp_all
    next b c h3 => exact hl t 0 _ h3
   ·split at hg <;> simp_all
    next h3 => exact hl t 0 _ h3
   ·split at hg <;> simp_all
    next a b h3 =>
    have := hl t 0 _ h3
    simp only [eqI, decide_eq_true_eq] at hg
    rw [hg]; exact this
   ·split at hg <;> simp_all
    next a b h3 =>
    have := hl t 0 _ h3
    simp only [eqU, decide_eq_true_eq] at hg
    rw [hg]; exact this
   ·next s =>
    cases hgt : get (addC cx kp) σ1 t 0 with
    | none => rw [hgt] at hg; cases hg
    | some v =>
     rw [hgt] at hg
     cases v <;> simp only [Bool.false_eq_true] at hg
     ·next o =>
      cases hgs : get (addC cx kp) σ1 s 0 with
      | none => rw [hgs] at hg; cases hg
      | some v' =>
       rw [hgs] at hg
       cases v' <;> simp only [Bool.false_eq_true] at hg
       have a1 : env t = vs o := hl t 0 _ hgt
       have a2 := hl s 0 _ hgs
       have := beq_t hg
       subst this
       exact a1.trans (show env s = _ from a2).symm
     ·next o _ =>
      cases hgs : get (addC cx kp) σ1 s 0 with
      | none => rw [hgs] at hg; cases hg
      | some v' =>
       rw [hgs] at hg
       cases v' <;> simp only [Bool.false_eq_true] at hg
       have a1 : env t = vs o := (hl t 0 _ hgt).1
       have a2 := (hl s 0 _ hgs).1
       have := beq_t hg
       subst this
       exact a1.trans a2.symm
     ·next o =>
      cases hgs : get (addC cx kp) σ1 s 0 with
      | none => rw [hgs] at hg; cases hg
      | some v' =>
       rw [hgs] at hg
       cases v' <;> simp only [Bool.false_eq_true] at hg
       have a1 : env t = outW (vs o) := hl t 0 _ hgt
       have a2 := hl s 0 _ hgs
       have := beq_t hg
       subst this
       exact a1.trans (show env s = _ from a2).symm
  show All S (RS P _ env ((bldN (bld kp.nx sh.ds x kp.nx).1 sh.ns ++ (bld kp.nx sh.ds x kp.nx).1) ++ kp.rg) ++ (RS P _ env cx.rg ++ fr.G)) w
  refine All.append ?_ (All.append ?_ (All.right (All.right hΓ)))
  ·rw [RS_app, RS_app]
   refine All.append (All.append hn hy) ?_
   rw [RS_congr (fun e he p hp => hvo _ (hK.r1 e he p hp)) (fun _ _ => rfl)]
   exact All.left hkc
  ·rw [RS_congr (fun e he p hp => hvo _ (hK.r2 e he p hp)) (fun _ _ => rfl)]
   exact All.right hkc
theorem tg_eq {a t : Tg} (h : tgEq a t = true) : a = t := by
 cases a <;> cases t <;> first | rfl | cases h | skip
 rw [beq_t (show Nat.beq _ _ = true from h)]
theorem inj_s {t : Tg} (hK : Bd cx kp) : ∀ {l : List (Tg × Sh)} {k : SmD l -> Option R}, injS (addC cx kp) σ t l k = some r -> ∃ (y : SmD l) (σt : Sg), k y = some r /\ (∀ {R' : Type} (K : Tg -> Sg -> Option R'), elimS kp K l y = K t σt) /\ ∀ (fr : Fr) env w, Rel P fr (addC cx kp) σ env w -> Rel P fr cx σt env w
 | [], k, h => by cases h
 | [a], k, h => by
  obtain ⟨ht, h⟩ := grd_s h
  obtain ⟨x, h1, h2⟩ := out_s (P := P) h hK
  have := tg_eq ht
  subst this
  exact ⟨x, _, h1, fun K => rfl, h2⟩
 | a :: b :: l, k, h => by
  unfold injS at h
  cases ht : tgEq a.1 t <;> rw [ht] at h
  ·obtain ⟨y, σt, h1, h2, h3⟩ := inj_s hK (l := b :: l) h
   exact ⟨.inr y, σt, h1, fun K => h2 K, h3⟩
  ·obtain ⟨x, h1, h2⟩ := out_s (P := P) h hK
   have := tg_eq ht
   subst this
   exact ⟨.inl x, _, h1, fun K => rfl, h2⟩
abbrev Qd := Exit -> List Nat -> Env -> World -> Prop
def mDef (D : Nat) : MF where
 blk k := k = D
 p _ w := w.heap[D]? = some (.deferred (some []))
 keep h _ hb := (hb D rfl).trans h
 sub h _ := h
 lt h k hk := by subst hk; exact (Array.getElem?_eq_some_iff.1 h).1
def mkD (D : Nat) : Deferred := { target := .collected D, args := #[] }
def Nd.wd (N : Nd) (Ds : List Nat) : Nd := ⟨N.n, Ds.map mkD, N.rd⟩
def Fr.wd (fr : Fr) (Ds : List Nat) : Fr := ⟨fr.we, fr.Se, Ds.map mDef ++ fr.F, fr.G⟩
def liftD (N : Nd) (Q : Qd) : Exit -> Act -> World -> Prop := fun e a w => a.tmps.size = N.n /\ ∃ Ds : List Nat, a.defers = Ds.map mkD /\ Q e Ds (envOf a) w
def WpD (P : Program) (N : Nd) (c : Code) (Q : Qd) (Ds : List Nat) (env : Env) (w : World) : Prop :=
 ∀ a : Act, a.tmps.size = N.n -> a.defers = Ds.map mkD -> envOf a = env -> c.wpIn N.F 0 P (liftD N Q) a w
section
variable {N : Nd} {Q Q' : Qd} {Ds : List Nat}
theorem WpD_of {c : Code} (h : Wp P (N.wd Ds) c (fun e env w => Q e Ds env w) env w) : WpD P N c Q Ds env w := fun a h1 h2 h3 => wpIn_mono (h a h1 h2 h3) fun e a' w' ⟨q1, q2, q3⟩ => ⟨q1, Ds, q2, q3⟩
def thenD (K : List Nat -> Env -> World -> Prop) (Q : Qd) : Qd
 | .normal, Ds, env, w => K Ds env w
 | e, Ds, env, w => Q e Ds env w
def blockD (id : Nat) (Q : Qd) : Qd
 | .exit id', Ds, env, w => bif Nat.beq id' id then Q .normal Ds env w else Q (.exit id') Ds env w
 | e, Ds, env, w => Q e Ds env w
def sansD (Q : Qd) : Qd
 | .goto _, _, _, _ => False
 | e, Ds, env, w => Q e Ds env w
theorem WpD_seq {x y : Code} (h : WpD P N x (thenD (WpD P N y Q) Q) Ds env w) : WpD P N (.seq x y) Q Ds env w := by
 intro a h1 h2 h3
 refine wpIn_seq (wpIn_mono (h a h1 h2 h3) ?_)
 intro e a' w' ⟨q1, Ds', q2, q3⟩
 cases e <;> first | exact q3 a' q1 q2 rfl | exact ⟨q1, Ds', q2, q3⟩
theorem WpD_mono {c : Code} (h : WpD P N c Q Ds env w) (hq : ∀ e Ds env w, Q e Ds env w -> Q' e Ds env w) : WpD P N c Q' Ds env w :=
 fun a h1 h2 h3 => wpIn_mono (h a h1 h2 h3) fun e a' w' ⟨q1, Ds', q2, q3⟩ => ⟨q1, Ds', q2, hq e _ _ _ q3⟩
theorem WpD_block {id : Nat} {c : Code} (h : WpD P N c (blockD id Q) Ds env w) : WpD P N (.block id c) Q Ds env w := by
 intro a h1 h2 h3
 refine wpIn_block (wpIn_mono (h a h1 h2 h3) ?_)
 intro e a' w' ⟨q1, Ds', q2, q3⟩
 cases e with
 | exit i =>
  simp only [blockD] at q3
  simp only [Exit.inBlock]
  cases hb : Nat.beq i id
  ·rw [hb] at q3
   rw [if_neg (fun e => by subst e; simp at hb)]
   exact ⟨q1, Ds', q2, q3⟩
  ·rw [hb] at q3
   rw [if_pos (Nat.eq_of_beq_eq_true hb)]
   exact ⟨q1, Ds', q2, q3⟩
 | _ => exact ⟨q1, Ds', q2, q3⟩
theorem WpD_scope {c : Code} (h : WpD P N c (sansD Q) Ds env w) : WpD P N (.scope c) Q Ds env w := by
 intro a h1 h2 h3
 refine wpIn_scope (wpIn_mono (h a h1 h2 h3) ?_)
 intro e a' w' ⟨q1, Ds', q2, q3⟩
 cases e <;> first | exact ⟨q1, Ds', q2, q3⟩ | exact q3.elim
theorem WpD_loop {c : Code} {G : Type} (I : G -> List Nat -> Env -> World -> Prop) (μ : G -> Nat) (g₀ : G) (h₀ : I g₀ Ds env w) (round : ∀ g Ds env w, I g Ds env w -> WpD P N c (thenD (fun Ds' env' w' => ∃ g', I g' Ds' env' w' /\ μ g' < μ g) Q) Ds env w) : WpD P N (.loop c) Q Ds env w := by
 intro a h1 h2 h3
 refine wpIn_ghost (fun g a w => a.tmps.size = N.n /\ ∃ Ds : List Nat, a.defers = Ds.map mkD /\ I g Ds (envOf a) w) μ g₀ ⟨h1, Ds, h2, h3 ▸ h₀⟩ ?_
 intro g a w ⟨h1, Ds, h2, hI⟩
 refine wpIn_mono (round g Ds (envOf a) w hI a h1 h2 rfl) ?_
 intro e a' w' ⟨q1, Ds', q2, q3⟩
 cases e with
 | normal => obtain ⟨g', o1, o2⟩ := q3; exact ⟨g', ⟨q1, Ds', q2, o1⟩, o2⟩
 | _ => exact ⟨q1, Ds', q2, q3⟩
theorem WpD_cond_t {c : Operand} {x y : Code} (hc : ev env c = .bool true) (h : WpD P N x Q Ds env w) : WpD P N (.cond c x y) Q Ds env w :=
 fun a h1 h2 h3 => wpIn_cond_true (by rw [eval_eq, h3]; exact hc) (h a h1 h2 h3)
theorem WpD_cond_f {c : Operand} {x y : Code} (hc : ev env c = .bool false) (h : WpD P N y Q Ds env w) : WpD P N (.cond c x y) Q Ds env w :=
 fun a h1 h2 h3 => wpIn_cond_false (by rw [eval_eq, h3]; exact hc) (h a h1 h2 h3)
end
theorem filt_perm {α : Type _} (p : α -> Bool) : ∀ l : List α, l.Perm ((l.filter fun a => !p a) ++ l.filter p)
 | [] => List.Perm.refl _
 | a :: l => by
  have ih := filt_perm p l
  rw [List.filter_cons, List.filter_cons]
  cases hp : p a
  ·simpa using ih.cons a
  ·simp only [Bool.not_true, Bool.false_eq_true, if_false, if_true]
   exact (ih.cons a).trans List.perm_middle.symm
theorem rel_keep {ag ro : List Nat} (h : Rel P fr cx σ env w) : Bd cx (keep σ ag ro) /\ Rel P fr (addC cx (keep σ ag ro)) (rest σ ag ro) env w := by
 obtain ⟨hB, vs, hst⟩ := h
 have hb : Bd cx (keep σ ag ro) := ⟨fun e he => hB.o1 e (List.mem_filter.1 he).1, hB.o2, fun e he => hB.r1 e (List.mem_filter.1 he).1, hB.r2⟩
 refine ⟨hb, ⟨fun e he => hB.o1 e (List.mem_filter.1 he).1, fun e he => ?_, fun e he => hB.r1 e (List.mem_filter.1 he).1, fun e he => ?_⟩, vs, ?_⟩
 ·rcases List.mem_append.1 he with he | he
  ·exact hb.o1 e he
  ·exact hb.o2 e he
 ·rcases List.mem_append.1 he with he | he
  ·exact hb.r1 e he
  ·exact hb.r2 e he
 ·have hp : (OS vs fr cx σ.ob).Perm (OS vs fr (addC cx (keep σ ag ro)) (rest σ ag ro).ob) := by
   show List.Perm (MS vs σ.ob ++ (MS vs cx.ob ++ fr.F)) (MS vs (rest σ ag ro).ob ++ (MS vs ((keep σ ag ro).ob ++ cx.ob) ++ fr.F))
   have e : MS vs (rest σ ag ro).ob ++ (MS vs ((keep σ ag ro).ob ++ cx.ob) ++ fr.F) = (MS vs (rest σ ag ro).ob ++ MS vs (keep σ ag ro).ob) ++ (MS vs cx.ob ++ fr.F) := by
    rw [show MS vs ((keep σ ag ro).ob ++ cx.ob) = MS _ _ ++ MS _ _ from List.map_append]
    simp only [List.append_assoc]
   rw [e]
   refine List.Perm.append_right _ ?_
   have := (filt_perm (fun e : Nat × Od => has (keptO σ ro) e.1) σ.ob).map (moF vs)
   rw [List.map_append] at this
   exact this
  refine (St.perm hst hp).sub' ?_
  intro f hf
  rcases List.mem_append.1 hf with hf | hf
  ·obtain ⟨e, he, rfl⟩ := List.mem_map.1 hf
   exact List.mem_append.2 (.inl (List.mem_map.2 ⟨e, (List.mem_filter.1 he).1, rfl⟩))
  ·rcases List.mem_append.1 hf with hf | hf
   ·obtain ⟨e, he, rfl⟩ := List.mem_map.1 hf
    rcases List.mem_append.1 he with he | he
    ·exact List.mem_append.2 (.inl (List.mem_map.2 ⟨e, (List.mem_filter.1 he).1, rfl⟩))
    ·exact List.mem_append.2 (.inr (List.mem_append.2 (.inl (List.mem_map.2 ⟨e, he, rfl⟩))))
   ·exact List.mem_append.2 (.inr (List.mem_append.2 (.inr hf)))
end
end Go.Proofs.YtmggkmchbdanfaaGreat
end

section
set_option linter.unusedVariables false
set_option linter.unusedSimpArgs false
namespace Go.Proofs.YtmggkmchbdanfaaGreat
def mLp (l : Nat) (r : Loop) : MF where
 blk k := k = l
 p _ w := w.heap[l]? = some (.loop r)
 keep h _ hb := (hb l rfl).trans h
 sub h _ := h
 lt h k hk := by subst hk; exact (Array.getElem?_eq_some_iff.1 h).1
def mFF (Γ : List FF) : MF where
 blk _ := False
 p S w := All S Γ w
 keep h k _ := All.keep k h
 sub h k := All.sub k h
 lt _ _ hk := hk.elim
section
variable {we : World} {Se : Nat -> Prop} {ms : List MF} {Γ Δ : List FF} {w : World}
theorem St.ffIn (h : St we Se ms (Δ ++ Γ) w) : St we Se (mFF Δ :: ms) Γ w := by
 obtain ⟨h1, h2, h3, S, h4, h5, h6, h7, h8⟩ := h
 refine ⟨h1, h2, ⟨fun k hk => hk.elim, h3⟩, S, h4, h5, fun m hm k hk => ?_, ⟨All.left h8, h7⟩, All.right h8⟩
 rcases List.mem_cons.1 hm with rfl | hm
 ·exact hk.elim
 ·exact h6 m hm k hk
theorem St.ffOut (h : St we Se (mFF Δ :: ms) Γ w) : St we Se ms (Δ ++ Γ) w := by
 obtain ⟨h1, h2, h3, S, h4, h5, h6, h7, h8⟩ := h
 exact ⟨h1, h2, h3.2, S, h4, h5, fun m hm => h6 m (List.mem_cons_of_mem _ hm), h7.2, All.append h7.1 h8⟩
theorem St.putObj {l : Nat} {m m' : MF} {o : Obj} (h : St we Se (m :: ms) Γ w) (hb : ∀ k, m.blk k ↔ k = l) (hb' : ∀ k, m'.blk k -> k = l) (hp : ∀ S w', w'.heap[l]? = some o -> m'.p S w') : St we Se (m' :: ms) Γ (w.putObj l o) := by
 obtain ⟨h1, h2, h3, S, h4, h5, h6, h7, h8⟩ := h
 have hl := h6 m (List.mem_cons_self ..) l ((hb l).2 rfl)
 have hlt : l < w.heap.size := AllM.lt h7 m (List.mem_cons_self ..) l ((hb l).2 rfl)
 have hsz : (w.putObj l o).heap.size = w.heap.size := World.putObj_size
 have hoth : ∀ k, k ≠ l -> (w.putObj l o).heap[k]? = w.heap[k]? := fun k hk => World.putObj_heap_other hk
 have hk : Keeps S w (w.putObj l o) := ⟨rfl, rfl, rfl, Nat.le_of_eq hsz.symm, fun k _ hS => hoth k fun e => hl.1 (e ▸ hS)⟩
 have hx : Ext we (w.putObj l o) := ⟨h1.os, h1.tape, h1.output, Nat.le_trans h1.size (Nat.le_of_eq hsz.symm), fun k hk hS => (hoth k fun e => by omega).trans (h1.block k hk hS)⟩
 refine ⟨hx, h2, ⟨fun k hk m2 hm2 => h3.1 k ((hb k).2 (hb' k hk)) m2 hm2, h3.2⟩, S, h4, fun k hk => h5 k (by rw [hsz] at hk; exact hk), fun m2 hm2 k hk2 => ?_, ⟨hp S _ (World.putObj_heap_same hlt), AllM.keep hk (fun m2 hm2 k hk2 => hoth k fun e => ?_) h7.2⟩, All.keep hk h8⟩
 ·rcases List.mem_cons.1 hm2 with rfl | hm2
  ·exact h6 m (List.mem_cons_self ..) k ((hb k).2 (hb' k hk2))
  ·exact h6 m2 (List.mem_cons_of_mem _ hm2) k hk2
 ·subst e
  exact h3.1 k ((hb k).2 rfl) m2 hm2 hk2
theorem St.allocObj {o : Obj} {m : MF} (h : St we Se ms Γ w) (hb : ∀ k, m.blk k -> k = w.heap.size) (hp : ∀ S w', w'.heap[w.heap.size]? = some o -> m.p S w') : St we Se (m :: ms) Γ (w.alloc o) := by
 obtain ⟨h1, h2, h3, S, h4, h5, h6, h7, h8⟩ := h
 have hsz : (w.alloc o).heap.size = w.heap.size + 1 := World.size_alloc ..
 have hold : ∀ k, k < w.heap.size -> (w.alloc o).heap[k]? = w.heap[k]? := fun k hk => by
  show (w.heap.push o)[k]? = _
  rw [Array.getElem?_push]
  rw [if_neg (by omega)]
 have hnew : (w.alloc o).heap[w.heap.size]? = some o := World.alloc_heap_new w o
 let S' : Nat -> Prop := fun k => S k /\ k ≠ w.heap.size
 have hk : Keeps S' w (w.alloc o) := ⟨rfl, rfl, rfl, by omega, fun k hk _ => hold k hk⟩
 have hsub : ∀ k, k < w.heap.size -> S k -> S' k := fun k hk hS => ⟨hS, by omega⟩
 refine ⟨⟨h1.os, h1.tape, h1.output, by have := h1.size; omega, fun k hk hS => (hold k (Nat.lt_of_lt_of_le hk h1.size)).trans (h1.block k hk hS)⟩, h2, ⟨fun k hk m2 hm2 hk2 => ?_, h3⟩, S', fun k hk => h4 k hk.1, fun k hk => ⟨h5 k (by omega), by omega⟩, fun m2 hm2 k hk2 => ?_, ⟨hp _ _ hnew, AllM.keep hk (fun m2 hm2 k hk2 => hold k (AllM.lt h7 m2 hm2 k hk2)) (AllM.sub hsub h7)⟩, All.keep hk (All.sub hsub h8)⟩
 ·have := AllM.lt h7 m2 hm2 k hk2
  have := hb k hk
  omega
 ·rcases List.mem_cons.1 hm2 with rfl | hm2
  ·exact ⟨fun hS => hS.2 (hb k hk2), by have := hb k hk2; have := h1.size; omega⟩
  ·exact ⟨fun hS => (h6 m2 hm2 k hk2).1 hS.1, (h6 m2 hm2 k hk2).2⟩
end
section
variable {P : Program} {cf : Cf} {fr : Fr} {cx kp σ : Sg} {vs vs' : Nat -> Value} {env env' : Env} {w : World}
theorem bd_keep {cx σ : Sg} (h : Bd cx σ) : Bd (addC cx σ) ⟨σ.nx, [], []⟩ where
 o1 := fun _ he => absurd he List.not_mem_nil
 o2 := fun e he => by
  rcases List.mem_append.1 he with he | he
  ·exact h.o1 e he
  ·exact h.o2 e he
 r1 := fun _ he => absurd he List.not_mem_nil
 r2 := fun e he => by
  rcases List.mem_append.1 he with he | he
  ·exact h.r1 e he
  ·exact h.r2 e he
def slotOK (f : TF) (v u : Value) : Prop := match f with
 | .own _ _ => v = u
 | .var _ _ => v = u /\ ∃ b, v = .pointer (some ⟨b, 0, none⟩)
 | .mat _ _ _ => v = outW u
 | .bo _ _ _ => v = outW u
 | _ => False
def slotsOK (ds : List (Nat × TF)) (env : Env) (U : Nat -> Value) : Prop := ∀ (j t : Nat) (f : TF), ds[j]? = some (t, f) -> slotOK f (env t) (U j)
theorem memK_at : ∀ {ds : List (Nat × TF)}, memK ds = true -> ∀ (j t : Nat) (f : TF), ds[j]? = some (t, f) -> (∃ s E, f = .own s E) \/ (∃ s E, f = .var s E) \/ (∃ s E F, f = .mat s E F) \/ (∃ s E F, f = .bo s E F)
 | [], _, j, t, f, h => by simp at h
 | (t', f') :: ds, hm, 0, t, f, h => by
  simp only [List.getElem?_cons_zero, Option.some.injEq, Prod.mk.injEq] at h
  obtain ⟨rfl, rfl⟩ := h
  cases f' <;> simp only [memK, Bool.false_eq_true] at hm
  ·exact .inl ⟨_, _, rfl⟩
  ·exact .inr (.inl ⟨_, _, rfl⟩)
  ·exact .inr (.inr (.inl ⟨_, _, _, rfl⟩))
  ·exact .inr (.inr (.inr ⟨_, _, _, rfl⟩))
 | (t', f') :: ds, hm, j + 1, t, f, h => by
  refine memK_at (ds := ds) ?_ j t f (by simpa using h)
  cases f' <;> simp only [memK, Bool.false_eq_true] at hm <;> exact hm
theorem memK_row {ds : List (Nat × TF)} (hm : memK ds = true) : ∀ a ∈ ds, ∀ j, refT a.2 = some j -> j < ds.length := fun a ha j e => by
 obtain ⟨i, hi⟩ := List.mem_iff_getElem?.1 ha
 rcases memK_at hm i a.1 a.2 hi with ⟨_, _, h⟩ | ⟨_, _, h⟩ | ⟨_, _, _, h⟩ | ⟨_, _, _, h⟩ <;> rw [h] at e <;> cases e
theorem dsF_mem {U : Nat -> Value} {S : Nat -> Prop} : ∀ {ds : List (Nat × TF)} {x : DsD ds} {i : Nat}, (∀ (j t : Nat) (f : TF), ds[j]? = some (t, f) -> slotOK f (env t) (U (i + j))) -> All S (dsF U env ds x i) w
 | [], _, _, _ => trivial
 | [(t, f)], x, i, h => by
  have h0 := h 0 t f rfl
  refine ⟨?_, trivial⟩
  cases f <;> first | exact h0 | exact h0.elim
 | (t, f) :: b :: l, x, i, h => by
  have h0 := h 0 t f rfl
  refine ⟨?_, dsF_mem fun j t f hj => by
   have := h (j + 1) t f (by simpa using hj)
   rw [show i + 1 + j = i + (j + 1) by omega]; exact this⟩
  cases f <;> first | exact h0 | exact h0.elim
theorem bld_at {n0 : Nat} : ∀ {ds : List (Nat × TF)} {x : DsD ds} {o j t : Nat} {f : TF}, ds[j]? = some (t, f) -> ∃ y : f.D, (t, 0, (bldF n0 (o + j) f y).1) ∈ (bld n0 ds x o).1
 | [], _, _, _, _, _, h => by simp at h
 | [(t', f')], x, o, 0, t, f, h => by
  simp only [List.getElem?_cons_zero, Option.some.injEq, Prod.mk.injEq] at h
  obtain ⟨rfl, rfl⟩ := h
  exact ⟨x, List.mem_cons_self ..⟩
 | [(t', f')], x, o, j + 1, t, f, h => by simp at h
 | (t', f') :: b :: l, x, o, 0, t, f, h => by
  simp only [List.getElem?_cons_zero, Option.some.injEq, Prod.mk.injEq] at h
  obtain ⟨rfl, rfl⟩ := h
  exact ⟨x.1, List.mem_cons_self ..⟩
 | (t', f') :: b :: l, x, o, j + 1, t, f, h => by
  obtain ⟨y, hy⟩ := bld_at (n0 := n0) (ds := b :: l) (x := x.2) (o := o + 1) (j := j) (t := t) (f := f) (by simpa using h)
  rw [show o + 1 + j = o + (j + 1) by omega] at hy
  exact ⟨y, List.mem_cons_of_mem _ hy⟩
theorem slots_of {ds : List (Nat × TF)} {x : DsD ds} {n : Nat} {S : Nat -> Prop} (hm : memK ds = true) (h : All S (RS P vs env (bld n ds x n).1) w) : slotsOK ds env fun j => vs (n + j) := by
 intro j t f hj
 obtain ⟨y, hy⟩ := bld_at (n0 := n) (x := x) (o := n) hj
 have := rs_get h hy
 rcases memK_at hm j t f hj with ⟨_, _, rfl⟩ | ⟨_, _, rfl⟩ | ⟨_, _, _, rfl⟩ | ⟨_, _, _, rfl⟩
 ·exact this
 ·obtain ⟨h1, b, h2⟩ := this
  exact ⟨h1, b, h1.trans h2⟩
 ·exact this
 ·exact this
theorem bd_in {ds : List (Nat × TF)} {x : DsD ds} (hm : memK ds = true) (o1 : ∀ e ∈ kp.ob, e.1 < kp.nx + ds.length) (o2 : ∀ e ∈ cx.ob, e.1 < kp.nx + ds.length) (r1 : ∀ e ∈ kp.rg, ∀ o, refO e.2.2 = some o -> o < kp.nx + ds.length) (r2 : ∀ e ∈ cx.rg, ∀ o, refO e.2.2 = some o -> o < kp.nx + ds.length) : Bd cx (bldS ⟨ds, []⟩ x kp) := by
 refine ⟨fun e he => ?_, o2, fun e he p hp => ?_, r2⟩
 ·rcases List.mem_append.1 he with he | he
  ·exact (bld_ob (n0 := kp.nx) (l := ds) (x := x) (o := kp.nx) e he).2
  ·exact o1 e he
 ·have hr : ∀ e ∈ (bld kp.nx ds x kp.nx).1, ∀ p, refO e.2.2 = some p -> p < kp.nx + ds.length := fun e he p hp => by
   rcases bld_ref (n0 := kp.nx) (n := ds.length) (l := ds) (x := x) (o := kp.nx) (memK_row hm) e he p hp with h | h <;> exact h
  rcases List.mem_append.1 he with he | he
  ·rcases List.mem_append.1 he with he | he
   ·exact hr e he p hp
   ·exact hr e he p hp
  ·exact r1 e he p hp
theorem rel_in {ds : List (Nat × TF)} {x : DsD ds} (hm : memK ds = true) (hsl : slotsOK ds env fun j => vs (kp.nx + j)) (hb : Bd cx (bldS ⟨ds, []⟩ x kp))
  (hst : St fr.we fr.Se (dsM (fun j => vs (kp.nx + j)) ds x 0 ++ (MS vs kp.ob ++ (MS vs cx.ob ++ fr.F))) (RS P vs env kp.rg ++ (RS P vs env cx.rg ++ fr.G)) w) : Rel P fr cx (bldS ⟨ds, []⟩ x kp) env w := by
 refine ⟨hb, vs, ?_⟩
 have hvn : ∀ j, j < ds.length -> vs (kp.nx + j) = (fun j => vs (kp.nx + j)) (0 + j) := fun j _ => by simp only [Nat.zero_add]
 have e1 : OS vs fr cx (bldS ⟨ds, []⟩ x kp).ob = dsM (fun j => vs (kp.nx + j)) ds x 0 ++ (MS vs kp.ob ++ (MS vs cx.ob ++ fr.F)) := by
  show MS vs ((bld kp.nx ds x kp.nx).2 ++ kp.ob) ++ (MS vs cx.ob ++ fr.F) = _
  rw [show MS vs ((bld kp.nx ds x kp.nx).2 ++ kp.ob) = MS vs (bld kp.nx ds x kp.nx).2 ++ MS vs kp.ob from List.map_append, bld_ms (U := fun j => vs (kp.nx + j)) (i := 0) hvn, List.append_assoc]
 show St _ _ (OS vs fr cx (bldS ⟨ds, []⟩ x kp).ob) _ _
 rw [e1]
 refine hst.weak fun S w hΓ => ?_
 have hy : All S (RS P vs env (bld kp.nx ds x kp.nx).1) w := bld_rs (U := fun j => vs (kp.nx + j)) (n := ds.length) (i := 0) (fun j _ => rfl) (memK_row hm) hvn (dsF_mem fun j t f hj => by rw [Nat.zero_add]; exact hsl j t f hj)
 show All S (RS P vs env (((bld kp.nx ds x kp.nx).1 ++ (bld kp.nx ds x kp.nx).1) ++ kp.rg) ++ (RS P vs env cx.rg ++ fr.G)) w
 rw [RS_app, RS_app]
 exact All.append (All.append (All.append hy hy) (All.left hΓ)) (All.right hΓ)
theorem rel_out {ds : List (Nat × TF)} {x : DsD ds} {n : Nat} (hm : memK ds = true) (hR : Rel P fr cx (bldS ⟨ds, []⟩ x ⟨n, [], []⟩) env w) : ∃ vs, slotsOK ds env (fun j => vs (n + j)) /\ Bd cx (bldS ⟨ds, []⟩ x ⟨n, [], []⟩) /\ St fr.we fr.Se (dsM (fun j => vs (n + j)) ds x 0 ++ (MS vs cx.ob ++ fr.F)) (RS P vs env cx.rg ++ fr.G) w := by
 obtain ⟨hB, vs, hst⟩ := hR
 obtain ⟨S, _, hΓ⟩ := hst.ex
 have h1 : All S (RS P vs env (((bld n ds x n).1 ++ (bld n ds x n).1) ++ [])) w := All.left hΓ
 rw [RS_app, RS_app] at h1
 refine ⟨vs, slots_of hm (All.right (All.left h1)), hB, ?_⟩
 have e1 : OS vs fr cx (bldS ⟨ds, []⟩ x ⟨n, [], []⟩).ob = dsM (fun j => vs (n + j)) ds x 0 ++ (MS vs cx.ob ++ fr.F) := by
  show MS vs ((bld n ds x n).2 ++ []) ++ (MS vs cx.ob ++ fr.F) = _
  rw [List.append_nil, bld_ms (U := fun j => vs (n + j)) (i := 0) fun j _ => by simp only [Nat.zero_add]]
 have h2 : St fr.we fr.Se (OS vs fr cx (bldS ⟨ds, []⟩ x ⟨n, [], []⟩).ob) (GS P vs env fr cx (bldS ⟨ds, []⟩ x ⟨n, [], []⟩)) w := hst
 rw [e1] at h2
 exact h2.weak fun S w h => All.right h
theorem dsM_cons {U : Nat -> Value} {a : Nat × TF} : ∀ {l : List (Nat × TF)} {y : a.2.D} {x : DsD l} {i : Nat}, dsM U (a :: l) (consD y x) i = tfM a.2 y (U i) ++ dsM U l x (i + 1)
 | [], y, x, i => by show tfM a.2 y (U i) = _ ++ []; rw [List.append_nil]
 | _ :: _, y, x, i => rfl
theorem dsM_shift {U V : Nat -> Value} : ∀ {l : List (Nat × TF)} {x : DsD l} {i k : Nat}, (∀ j, j < l.length -> U (i + j) = V (k + j)) -> dsM U l x i = dsM V l x k
 | [], _, _, _, _ => rfl
 | [a], x, i, k, h => by
  have h0 : U i = V k := h 0 (by simp)
  show tfM a.2 x (U i) = tfM a.2 x (V k)
  rw [h0]
 | a :: b :: l, x, i, k, h => by
  have h0 : U i = V k := h 0 (by simp)
  show tfM a.2 x.1 (U i) ++ dsM U (b :: l) x.2 (i + 1) = tfM a.2 x.1 (V k) ++ dsM V (b :: l) x.2 (k + 1)
  rw [h0, dsM_shift (l := b :: l) (x := x.2) (i := i + 1) (k := k + 1) fun j hj => by
   have := h (j + 1) (by simpa using hj)
   rw [show i + 1 + j = i + (j + 1) by omega, show k + 1 + j = k + (j + 1) by omega]; exact this]
theorem consD_un {a : Nat × TF} : ∀ {l : List (Nat × TF)} (z : DsD (a :: l)), z = consD (unD z).1 (unD z).2
 | [], _ => rfl
 | _ :: _, _ => rfl
theorem rel_put {we : World} {Se : Nat -> Prop} {A B : List MF} {G : List FF} {l : Nat} {m m' : MF} {o : Obj} (h : Rel P ⟨we, Se, A ++ m :: B, G⟩ cx σ env w) (hb : ∀ k, m.blk k ↔ k = l) (hb' : ∀ k, m'.blk k -> k = l) (hp : ∀ S w', w'.heap[l]? = some o -> m'.p S w') : Rel P ⟨we, Se, A ++ m' :: B, G⟩ cx σ env (w.putObj l o) := by
 obtain ⟨hB, vs, hst⟩ := h
 refine ⟨hB, vs, ?_⟩
 have h1 : St we Se ((MS vs σ.ob ++ (MS vs cx.ob ++ A)) ++ m :: B) (GS P vs env ⟨we, Se, A ++ m :: B, G⟩ cx σ) w := by
  have : St we Se (MS vs σ.ob ++ (MS vs cx.ob ++ (A ++ m :: B))) (GS P vs env ⟨we, Se, A ++ m :: B, G⟩ cx σ) w := hst
  simpa only [List.append_assoc] using this
 have h2 := St.putObj (St.mid h1) hb hb' hp
 have h3 : St we Se ((MS vs σ.ob ++ (MS vs cx.ob ++ A)) ++ m' :: B) (GS P vs env ⟨we, Se, A ++ m :: B, G⟩ cx σ) (w.putObj l o) := h2.perm List.perm_middle.symm
 show St we Se (MS vs σ.ob ++ (MS vs cx.ob ++ (A ++ m' :: B))) _ _
 simpa only [List.append_assoc] using h3
theorem pin_in {n : Nat} {S : Nat -> Prop} : ∀ {ds : List (Nat × TF)} {i : Nat}, memK ds = true -> (∀ (j t : Nat) (f : TF), ds[j]? = some (t, f) -> slotOK f (env t) (vs (n + (i + j)))) -> All S (RS P vs env (pinR ds (n + i))) w
 | [], _, _, _ => trivial
 | (t, f) :: r, i, hm, h => by
  have h0 := h 0 t f rfl
  have ih : memK r = true -> All S (RS P vs env (pinR r (n + i + 1))) w := fun hm => pin_in (i := i + 1) hm fun j t f hj => by
   have := h (j + 1) t f (by simpa using hj)
   rw [show i + 1 + j = i + (j + 1) by omega]; exact this
  cases f <;> simp only [memK, Bool.false_eq_true] at hm
  ·exact ⟨h0, ih hm⟩
  ·exact ⟨h0.1, ih hm⟩
  ·exact ⟨h0, ih hm⟩
  ·exact ⟨h0, ih hm⟩
theorem pinR_ref : ∀ {ds : List (Nat × TF)} {n : Nat}, ∀ e ∈ pinR ds n, ∀ o, refO e.2.2 = some o -> o < n + ds.length
 | [], _, e, he => absurd he List.not_mem_nil
 | (t, f) :: r, n, e, he => by
  intro o ho
  have ih : e ∈ pinR r (n + 1) -> o < n + ((t, f) :: r).length := fun he => by
   have := pinR_ref e he o ho
   simp only [List.length_cons]; omega
  cases f <;> rcases List.mem_cons.1 he with rfl | he <;> first | exact ih he | (cases ho; simp only [List.length_cons]; omega)
theorem pinR_mem : ∀ {ds : List (Nat × TF)} {n j t : Nat} {f : TF}, ds[j]? = some (t, f) -> ∃ e ∈ pinR ds n, e.1 = t
 | [], _, _, _, _, h => by simp at h
 | (t', f') :: r, n, 0, t, f, h => by
  simp only [List.getElem?_cons_zero, Option.some.injEq, Prod.mk.injEq] at h
  obtain ⟨rfl, rfl⟩ := h
  cases f' <;> exact ⟨_, List.mem_cons_self .., rfl⟩
 | (t', f') :: r, n, j + 1, t, f, h => by
  obtain ⟨e, he, h1⟩ := pinR_mem (ds := r) (n := n + 1) (j := j) (t := t) (f := f) (by simpa using h)
  cases f' <;> exact ⟨e, List.mem_cons_of_mem _ he, h1⟩
theorem once_ne {a : Nat × TF} {ds : List (Nat × TF)} (h : once (a :: ds) = true) {j t : Nat} {f : TF} (hj : ds[j]? = some (t, f)) : t ≠ a.1 := by
 simp only [once, slots1, Bool.and_eq_true, List.all_eq_true] at h
 have := h.1 (t, f) (List.mem_of_getElem? hj)
 intro e
 subst e
 simp at this
end
end Go.Proofs.YtmggkmchbdanfaaGreat
end

section
set_option linter.unusedVariables false
set_option linter.unusedSimpArgs false
namespace Go.Proofs.YtmggkmchbdanfaaGreat
def DenOK (P : Program) (cf : Cf) (n : Nat) (c : Code) : Prop := ∀ {R : Type} {r : R} {fr : Fr} {cx σ : Sg} {K : Tg -> Sg -> Option R} {Q : Qd} {N : Nd}, N.n = n -> (N.rd = none \/ noR c = true) -> den cf c cx σ K = some r -> ∀ {Ds : List Nat} {env : Env} {w : World},
 (∀ t σ', K t σ' = some r -> ∀ Ds' env' w', SmO cx env env' -> Rel P (fr.wd Ds') cx σ' env' w' -> Q (tgE t) Ds' env' w') -> Rel P (fr.wd Ds) cx σ env w -> WpD P N c Q Ds env w
def outL : Value -> List Value
 | .tuple us => us.toList
 | _ => []
def vsU (u : Value) (k : Nat) : Value := (outL u).getD k undef
def encU (vs : Nat -> Value) (m : Nat) : Value := .tuple ((List.range m).map vs).toArray
theorem vsU_enc {vs : Nat -> Value} {m k : Nat} (h : k < m) : vsU (encU vs m) k = vs k := by
 simp [vsU, encU, outL, List.getD_eq_getElem?_getD, h]
def tgC : Tg -> Code
 | .n => .skip
 | .x i => .exit i
 | .r => .ret
section
variable {P : Program} {cf : Cf} {fr : Fr} {cx cx' kp σ : Sg} {vs vs' : Nat -> Value} {env env' : Env} {w : World} {we : World} {Se : Nat -> Prop} {F : List MF} {G : List FF} {n D l : Nat} {ds : List (Nat × TF)} {x : DsD ds} {u : Value} {rc : Loop}
def hidM (P : Program) (env : Env) (cx' : Sg) (n : Nat) (ds : List (Nat × TF)) (D l : Nat) (rc : Loop) (x : DsD ds) (u : Value) : MF :=
 mGrp (mPr (slotsOK ds env fun j => vsU u (n + j)) :: mFF (RS P (vsU u) env cx'.rg) :: mLp l rc :: mDef D :: (dsM (fun j => vsU u (n + j)) ds x 0 ++ MS (vsU u) cx'.ob))
theorem hid_out (h : St we Se (hidM P env cx' n ds D l rc x u :: F) G w) : slotsOK ds env (fun j => vsU u (n + j)) /\ St we Se (mLp l rc :: mDef D :: (dsM (fun j => vsU u (n + j)) ds x 0 ++ (MS (vsU u) cx'.ob ++ F))) (RS P (vsU u) env cx'.rg ++ G) w := by
 obtain ⟨h1, h2⟩ := St.unpr (St.grp.1 h)
 refine ⟨h1, ?_⟩
 have h3 := St.ffOut (show St we Se (mFF (RS P (vsU u) env cx'.rg) :: (mLp l rc :: mDef D :: (dsM (fun j => vsU u (n + j)) ds x 0 ++ MS (vsU u) cx'.ob) ++ F)) G w from h2)
 simpa only [List.cons_append, List.append_assoc] using h3
theorem hid_in (hsl : slotsOK ds env fun j => vs (n + j)) (ho : ∀ e ∈ cx'.ob, e.1 < n) (hr : ∀ e ∈ cx'.rg, ∀ o, refO e.2.2 = some o -> o < n) (h : St we Se (mLp l rc :: mDef D :: (dsM (fun j => vs (n + j)) ds x 0 ++ (MS vs cx'.ob ++ F))) (RS P vs env cx'.rg ++ G) w) :
  St we Se (hidM P env cx' n ds D l rc x (encU vs (n + ds.length)) :: F) G w := by
 have e0 : ∀ k, k < n + ds.length -> vsU (encU vs (n + ds.length)) k = vs k := fun k hk => vsU_enc hk
 have e1 : RS P (vsU (encU vs (n + ds.length))) env cx'.rg = RS P vs env cx'.rg := RS_congr (fun e he o ho => e0 o (by have := hr e he o ho; omega)) fun _ _ => rfl
 have e2 : MS (vsU (encU vs (n + ds.length))) cx'.ob = MS vs cx'.ob := MS_congr fun e he => e0 e.1 (by have := ho e he; omega)
 have e3 : dsM (fun j => vsU (encU vs (n + ds.length)) (n + j)) ds x 0 = dsM (fun j => vs (n + j)) ds x 0 := dsM_shift fun j hj => e0 _ (by omega)
 refine St.grp.2 (St.pr ?_ ?_)
 ·intro j t f hj
  have := (List.getElem?_eq_some_iff.1 hj).1
  show slotOK f (env t) (vsU (encU vs (n + ds.length)) (n + j))
  rw [e0 _ (by omega)]
  exact hsl j t f hj
 ·have h2 : St we Se (mFF (RS P vs env cx'.rg) :: (mLp l rc :: mDef D :: (dsM (fun j => vs (n + j)) ds x 0 ++ MS vs cx'.ob) ++ F)) G w := St.ffIn (by simpa only [List.cons_append, List.append_assoc] using h)
  rw [e1, e2, e3]
  exact h2
theorem rel_mem {m : MF} {p : Prop} (h : Rel P fr cx σ env w) (hm : m ∈ fr.F) (hp : ∀ S, m.p S w -> p) : p := by
 obtain ⟨_, vs, _, _, _, S, _, _, _, h7, _⟩ := h
 exact hp S (allM_mem.1 h7 m (List.mem_append.2 (.inr (List.mem_append.2 (.inr hm)))))
theorem round_s {it : ISig} {pt : Nat} {τ : Tg} {a c : Code} {N : Nat} {fn : FuncId} {tmps : Array Value} (hA : DenOK P cf N a) (hC : DenOK P cf N c) (hna : noR a = true) (hnc : noR c = true) (hpt : pt < N) (hsz : tmps.size = N) (henv : envOf ⟨tmps, []⟩ = env) (hm : memK ds = true)
  (hon : once (rndH pt it.t it.E ds).ds = true) (hnot : notIn cx'.rg pt = true) (ho : ∀ e ∈ cx'.ob, e.1 < n) (hr : ∀ e ∈ cx'.rg, ∀ o, refO e.2.2 = some o -> o < n) :
  YSpec P l it.t.rep it.E (fun x u => hidM P env cx' n ds D l { state := .ready, pending := none, fn := fn, tmps := tmps, params := #[pt], assign := a, body := c, defers := D } x u)
   (fun x u => hidM P env cx' n ds D l { state := .done, pending := some (tgC τ), fn := fn, tmps := tmps, params := #[pt], assign := a, body := c, defers := D } x u)
   (rndG cx' n ds it.t it.E pt τ (fun cx σ K => den cf a cx σ K) fun cx σ K => den cf c cx σ K) := by
 obtain ⟨rR, hrR⟩ : ∃ rR : Loop, rR = { state := .ready, pending := none, fn := fn, tmps := tmps, params := #[pt], assign := a, body := c, defers := D } := ⟨_, rfl⟩
 obtain ⟨rB, hrB⟩ : ∃ rB : Loop, rB = { rR with state := .busy } := ⟨_, rfl⟩
 rw [<- hrR]
 intro ys x ys' q hq v u we Se F G w hst
 obtain ⟨hsl, h1⟩ := hid_out hst
 have hl : w.heap[l]? = some (.loop rR) := mut_frame h1 (i := 0) rfl fun S hp => hp
 have hy := run_yield (P := P) (args := #[v]) hl (by rw [hrR]; rfl)
 refine ⟨fn, tmps.setIfInBounds pt v, a, c, by rw [hrR] at hy; simpa using hy, roundIn_of_wpIn trivial ?_⟩
 -- the round begins
 obtain ⟨sh, hsh⟩ : ∃ sh, sh = rndH pt it.t it.E ds := ⟨_, rfl⟩
 have hlen : sh.ds.length = ds.length + 1 := by rw [hsh]; rfl
 have hmS : memK sh.ds = true := by rw [hsh]; exact hm
 obtain ⟨cp, hcp⟩ : ∃ cp, cp = cpR cx' n sh := ⟨_, rfl⟩
 have hne : ∀ {j t : Nat} {f : TF}, ds[j]? = some (t, f) -> t ≠ pt := fun hj => once_ne (a := (pt, .own it.t it.E)) hon hj
 obtain ⟨env1, henv1⟩ : ∃ env1, env1 = put env (some pt) v := ⟨_, rfl⟩
 have e_pt : env1 pt = v := by rw [henv1]; exact put_eq
 have e_ne : ∀ t, t ≠ pt -> env1 t = env t := fun t ht => by rw [henv1]; exact put_ne (fun e => ht (by cases e; rfl))
 have e_cx : ∀ e ∈ cx'.rg, env1 e.1 = env e.1 := fun e he => e_ne e.1 fun h => by
  simp only [notIn, List.all_eq_true] at hnot
  have := hnot e he
  rw [h] at this; simp at this
 obtain ⟨vs1, hvs1⟩ : ∃ vs1 : Nat -> Value, vs1 = fun k => if k < n then vsU u k else if k = n then v else vsU u (k - 1) := ⟨_, rfl⟩
 have v_lo : ∀ k, k < n -> vs1 k = vsU u k := fun k hk => by rw [hvs1]; exact if_pos hk
 have v_n : vs1 n = v := by rw [hvs1]; simp
 have v_hi : ∀ j, vs1 (n + (j + 1)) = vsU u (n + j) := fun j => by
  rw [hvs1]
  simp only
  rw [if_neg (by omega), if_neg (by omega), show n + (j + 1) - 1 = n + j by omega]
 have hslS : slotsOK sh.ds env1 fun j => vs1 (n + j) := by
  rw [hsh]
  intro j t f hj
  cases j with
  | zero =>
   simp only [rndH, List.getElem?_cons_zero, Option.some.injEq, Prod.mk.injEq] at hj
   obtain ⟨rfl, rfl⟩ := hj
   show env1 pt = vs1 (n + 0)
   rw [e_pt, Nat.add_zero, v_n]
  | succ j =>
   have hj : ds[j]? = some (t, f) := by simpa [rndH] using hj
   show slotOK f (env1 t) (vs1 (n + (j + 1)))
   rw [v_hi, e_ne t (hne hj)]
   exact hsl j t f hj
 have hbp : Bd cp ⟨n + sh.ds.length, [], []⟩ := by
  rw [hcp]
  refine ⟨fun _ he => absurd he List.not_mem_nil, fun e he => ?_, fun _ he => absurd he List.not_mem_nil, fun e he o hro => ?_⟩
  ·have := ho e he
   show e.1 < n + _
   omega
  ·show o < n + _
   rcases List.mem_append.1 (show e ∈ pinR sh.ds n ++ cx'.rg from he) with he | he
   ·exact pinR_ref e he o hro
   ·have := hr e he o hro
    omega
 have hR0 : Rel P (Fr.wd ⟨we, Se, mLp l rR :: mDef D :: F, G⟩ []) cp (bldS sh (hsh ▸ consD (a := (pt, .own it.t it.E)) ys x) ⟨n, [], []⟩) env1 w := by
  subst hsh
  refine rel_in (vs := vs1) (kp := ⟨n, [], []⟩) hmS hslS (bd_in hmS (fun _ he => absurd he List.not_mem_nil) (fun e he => hbp.o2 e he) (fun _ he => absurd he List.not_mem_nil) fun e he o hro => hbp.r2 e he o hro) ?_
  have e1 : dsM (fun j => vs1 (n + j)) (rndH pt it.t it.E ds).ds (consD (a := (pt, .own it.t it.E)) ys x) 0 = mO it.t.rep it.E v ys :: dsM (fun j => vsU u (n + j)) ds x 0 := by
   refine (dsM_cons (U := fun j => vs1 (n + j)) (a := (pt, .own it.t it.E)) (l := ds) (y := ys) (x := x) (i := 0)).trans ?_
   show mO it.t.rep it.E (vs1 (n + 0)) ys :: dsM _ ds x (0 + 1) = _
   rw [Nat.add_zero, v_n, dsM_shift (U := fun j => vs1 (n + j)) (V := fun j => vsU u (n + j)) (i := 0 + 1) (k := 0) fun j _ => by
    show vs1 (n + (0 + 1 + j)) = vsU u (n + (0 + j))
    rw [show 0 + 1 + j = j + 1 by omega, v_hi, Nat.zero_add]]
  have e2 : MS vs1 cp.ob = MS (vsU u) cx'.ob := by rw [hcp]; exact MS_congr fun e he => v_lo _ (ho e he)
  show St we Se (dsM (fun j => vs1 (n + j)) (rndH pt it.t it.E ds).ds (consD (a := (pt, .own it.t it.E)) ys x) 0 ++ ([] ++ (MS vs1 cp.ob ++ ([] ++ (mLp l rR :: mDef D :: F))))) ([] ++ (RS P vs1 env1 cp.rg ++ G)) w
  rw [e1, e2]
  have h2 : St we Se (mO it.t.rep it.E v ys :: dsM (fun j => vsU u (n + j)) ds x 0 ++ ([] ++ (MS (vsU u) cx'.ob ++ ([] ++ (mLp l rR :: mDef D :: F))))) (RS P (vsU u) env cx'.rg ++ G) w := by
   refine h1.perm ?_
   simp only [List.nil_append, List.cons_append]
   have p1 : (mLp l rR :: mDef D :: (dsM (fun j => vsU u (n + j)) ds x 0 ++ (MS (vsU u) cx'.ob ++ mO it.t.rep it.E v ys :: F))).Perm (mO it.t.rep it.E v ys :: (mLp l rR :: mDef D :: (dsM (fun j => vsU u (n + j)) ds x 0 ++ (MS (vsU u) cx'.ob ++ F)))) := by
    have := List.perm_middle (a := mO it.t.rep it.E v ys) (l₁ := mLp l rR :: mDef D :: (dsM (fun j => vsU u (n + j)) ds x 0 ++ MS (vsU u) cx'.ob)) (l₂ := F)
    simpa only [List.cons_append, List.append_assoc] using this
   refine p1.trans (List.Perm.cons _ ?_)
   have p2 : ([mLp l rR, mDef D] ++ ((dsM (fun j => vsU u (n + j)) ds x 0 ++ MS (vsU u) cx'.ob) ++ F)).Perm ((dsM (fun j => vsU u (n + j)) ds x 0 ++ MS (vsU u) cx'.ob) ++ ([mLp l rR, mDef D] ++ F)) := List.perm_append_comm_assoc ..
   simpa only [List.cons_append, List.append_assoc, List.nil_append] using p2
  refine h2.weak (Δ := RS P vs1 env1 cp.rg ++ G) fun S w ha => All.append ?_ (All.right ha)
  rw [hcp]
  show All S (RS P vs1 env1 (pinR (rndH pt it.t it.E ds).ds n ++ cx'.rg)) w
  rw [RS_app]
  refine All.append (pin_in (i := 0) hmS fun j t f hj => by rw [Nat.zero_add]; exact hslS j t f hj) ?_
  rw [RS_congr (vs := vsU u) (env := env) (fun e he o hro => v_lo o (hr e he o hro)) e_cx]
  exact All.left ha
 obtain ⟨N1, hN1⟩ : ∃ N1 : Nd, N1 = ⟨N, [], some l⟩ := ⟨_, rfl⟩
 have hsz1 : (⟨tmps.setIfInBounds pt v, []⟩ : Act).tmps.size = N1.n := by rw [hN1]; simpa using hsz
 have hev1 : envOf ⟨tmps.setIfInBounds pt v, []⟩ = env1 := by
  have := envOf_put (a := ⟨tmps, []⟩) (d := some pt) (v := v) (fun t ht => by cases ht; show pt < tmps.size; omega)
  rw [henv1, <- henv]
  exact this
 subst hsh
 have hwA := hA (N := N1) (fr := ⟨we, Se, mLp l rR :: mDef D :: F, G⟩) (Ds := []) (by rw [hN1]) (.inr hna) (show den cf a cp _ _ = some (ys', q) from by rw [hcp]; exact hq)
  (Q := fun e Ds' env' w' => e = .normal /\ ∃ σ', den cf c cp σ' (endK cp ds it.t it.E pt τ) = some (ys', q) /\ SmO cp env1 env' /\ Rel P (Fr.wd ⟨we, Se, mLp l rR :: mDef D :: F, G⟩ Ds') cp σ' env' w')
  (fun t σ' hk Ds' env' w' hs hR => by
   cases t with
   | n => exact ⟨rfl, σ', by rw [hcp]; exact hk, hs, hR⟩
   | x i => cases hk
   | r => cases hk) hR0
 have hwa := hwA ⟨tmps.setIfInBounds pt v, []⟩ hsz1 rfl hev1
 rw [hN1] at hwa
 refine wpIn_mono hwa ?_
 rintro e a1 w1 ⟨q1, Ds', q2, rfl, σ', hk, hs, hR⟩
 have hl1 : w1.heap[l]? = some (.loop rR) := rel_mem hR (m := mLp l rR) (List.mem_append.2 (.inr (List.mem_cons_self ..))) fun S hp => hp
 refine ⟨w1.putObj l (.loop rB), by rw [hrB]; exact run_beginRound hl1 (by rw [hrR]), ?_⟩
 have hR1 : Rel P (Fr.wd ⟨we, Se, mLp l rB :: mDef D :: F, G⟩ Ds') cp σ' (envOf a1) (w1.putObj l (.loop rB)) := rel_put (A := Ds'.map mDef) (m := mLp l rR) (m' := mLp l rB) (B := mDef D :: F) hR (fun k => Iff.rfl) (fun k h => h) fun S w' h => h
 have hwC := hC (N := N1) (fr := ⟨we, Se, mLp l rB :: mDef D :: F, G⟩) (Ds := Ds') (by rw [hN1]) (.inr hnc) hk
  (Q := fun e Ds'' env' w' => ∃ t σ'', e = tgE t /\ endK cp ds it.t it.E pt τ t σ'' = some (ys', q) /\ SmO cp (envOf a1) env' /\ Rel P (Fr.wd ⟨we, Se, mLp l rB :: mDef D :: F, G⟩ Ds'') cp σ'' env' w')
  (fun t σ'' hk Ds'' env' w' hs hR => ⟨t, σ'', rfl, hk, hs, hR⟩) hR1
 have hwc := hwC a1 (by rw [hN1]; exact q1) q2 rfl
 rw [hN1] at hwc
 refine wpIn_mono hwc ?_
 rintro e a2 w2 ⟨p1, Ds'', p2, t, σ'', rfl, hk2, hs2, hR2⟩
 have hl2 : w2.heap[l]? = some (.loop rB) := rel_mem hR2 (m := mLp l rB) (List.mem_append.2 (.inr (List.mem_cons_self ..))) fun S hp => hp
 have hsm := hs.trans hs2
 -- the round's end
 have close : ∀ (z : DsD (rndH pt it.t it.E ds).ds) (rc : Loop), Rel P (Fr.wd ⟨we, Se, mLp l rB :: mDef D :: F, G⟩ Ds'') cp (bldS (rndH pt it.t it.E ds) z ⟨n + (rndH pt it.t it.E ds).ds.length, [], []⟩) (envOf a2) w2 ->
   ∃ u', St we Se (hidM P env cx' n ds D l rc (unD z).2 u' :: mO it.t.rep it.E v (unD z).1 :: F) G (w2.putObj l (.loop rc)) := by
  intro z rc hRz
  have hRp := rel_put (A := Ds''.map mDef) (m := mLp l rB) (m' := mLp l rc) (B := mDef D :: F) hRz (fun k => Iff.rfl) (fun k h => h) (o := .loop rc) fun S w' h => h
  obtain ⟨vs2, hsl2, hB2, hst2⟩ := rel_out (ds := (rndH pt it.t it.E ds).ds) hmS hRp
  obtain ⟨m, hm2⟩ : ∃ m, m = n + (rndH pt it.t it.E ds).ds.length := ⟨_, rfl⟩
  rw [<- hm2] at hsl2 hst2
  have z0 : vs2 m = v := by
   have h2 : envOf a2 pt = vs2 (m + 0) := hsl2 0 pt (.own it.t it.E) rfl
   obtain ⟨e, he, h3⟩ := pinR_mem (ds := (rndH pt it.t it.E ds).ds) (n := n) (j := 0) (t := pt) (f := .own it.t it.E) rfl
   have h4 := hsm e (by rw [hcp]; exact List.mem_append.2 (.inl he))
   rw [h3, e_pt] at h4
   rw [Nat.add_zero] at h2
   exact h2.symm.trans h4
  obtain ⟨vs3, hvs3⟩ : ∃ vs3 : Nat -> Value, vs3 = fun k => if k < n then vs2 k else vs2 (m + 1 + (k - n)) := ⟨_, rfl⟩
  have w_lo : ∀ k, k < n -> vs3 k = vs2 k := fun k hk => by rw [hvs3]; exact if_pos hk
  have w_hi : ∀ j, vs3 (n + j) = vs2 (m + (j + 1)) := fun j => by
   rw [hvs3]
   simp only
   rw [if_neg (by omega), show m + 1 + (n + j - n) = m + (j + 1) by omega]
  have hsl3 : slotsOK ds env fun j => vs3 (n + j) := by
   intro j t f hj
   have h2 := hsl2 (j + 1) t f (by simpa [rndH] using hj)
   obtain ⟨e, he, h3⟩ := pinR_mem (ds := (rndH pt it.t it.E ds).ds) (n := n) (j := j + 1) (t := t) (f := f) (by simpa [rndH] using hj)
   have h4 := hsm e (by rw [hcp]; exact List.mem_append.2 (.inl he))
   rw [h3, e_ne t (hne hj)] at h4
   show slotOK f (env t) (vs3 (n + j))
   rw [w_hi, <- h4]
   exact h2
  refine ⟨_, hid_in (F := mO it.t.rep it.E v (unD z).1 :: F) hsl3 ho hr ?_⟩
  have e1 : dsM (fun j => vs2 (m + j)) (rndH pt it.t it.E ds).ds z 0 = mO it.t.rep it.E v (unD z).1 :: dsM (fun j => vs3 (n + j)) ds (unD z).2 0 := by
   refine (congrArg (fun z => dsM (fun j => vs2 (m + j)) (rndH pt it.t it.E ds).ds z 0) (consD_un (a := (pt, .own it.t it.E)) (l := ds) z)).trans ?_
   refine (dsM_cons (U := fun j => vs2 (m + j)) (a := (pt, .own it.t it.E)) (l := ds) (y := (unD (a := (pt, .own it.t it.E)) z).1) (x := (unD (a := (pt, .own it.t it.E)) z).2) (i := 0)).trans ?_
   show mO it.t.rep it.E (vs2 (m + 0)) (unD z).1 :: dsM _ ds (unD z).2 (0 + 1) = _
   rw [Nat.add_zero, z0, dsM_shift (U := fun j => vs2 (m + j)) (V := fun j => vs3 (n + j)) (i := 0 + 1) (k := 0) fun j _ => by
    show vs2 (m + (0 + 1 + j)) = vs3 (n + (0 + j))
    rw [show 0 + 1 + j = j + 1 by omega, Nat.zero_add, w_hi]]
  have e2 : MS vs2 cp.ob = MS vs3 cx'.ob := by rw [hcp]; exact MS_congr fun e he => (w_lo _ (ho e he)).symm
  have h5 : St we Se (dsM (fun j => vs2 (m + j)) (rndH pt it.t it.E ds).ds z 0 ++ (MS vs2 cp.ob ++ (Ds''.map mDef ++ mLp l rc :: mDef D :: F))) (RS P vs2 (envOf a2) cp.rg ++ G) (w2.putObj l (.loop rc)) := hst2
  rw [e1, e2] at h5
  have h6 : St we Se ((mO it.t.rep it.E v (unD z).1 :: dsM (fun j => vs3 (n + j)) ds (unD z).2 0 ++ MS vs3 cx'.ob) ++ (mLp l rc :: mDef D :: F)) (RS P vs2 (envOf a2) cp.rg ++ G) (w2.putObj l (.loop rc)) := St.dropM (B := Ds''.map mDef) (by simpa only [List.append_assoc] using h5)
  have h7 : St we Se (mLp l rc :: mDef D :: (dsM (fun j => vs3 (n + j)) ds (unD z).2 0 ++ (MS vs3 cx'.ob ++ (mO it.t.rep it.E v (unD z).1 :: F)))) (RS P vs2 (envOf a2) cp.rg ++ G) (w2.putObj l (.loop rc)) := by
   refine h6.perm ?_
   have p1 : ((dsM (fun j => vs3 (n + j)) ds (unD z).2 0 ++ MS vs3 cx'.ob) ++ ([mLp l rc, mDef D] ++ F)).Perm ([mLp l rc, mDef D] ++ ((dsM (fun j => vs3 (n + j)) ds (unD z).2 0 ++ MS vs3 cx'.ob) ++ F)) := List.perm_append_comm_assoc ..
   have p2 := List.perm_middle (a := mO it.t.rep it.E v (unD z).1) (l₁ := mLp l rc :: mDef D :: (dsM (fun j => vs3 (n + j)) ds (unD z).2 0 ++ MS vs3 cx'.ob)) (l₂ := F)
   have p3 := (p1.cons (mO it.t.rep it.E v (unD z).1)).trans (by simpa only [List.cons_append, List.append_assoc, List.nil_append] using p2.symm)
   simpa only [List.cons_append, List.append_assoc, List.nil_append] using p3
  refine h7.weak fun S w ha => All.append ?_ (All.right ha)
  have h8 : All S (RS P vs2 (envOf a2) (pinR (rndH pt it.t it.E ds).ds n ++ cx'.rg)) w := by
   have := All.left ha
   rw [hcp] at this; exact this
  rw [RS_app] at h8
  rw [RS_congr (vs := vs2) (env := envOf a2) (fun e he o hro => w_lo o (hr e he o hro)) fun e he => ?_]
  ·exact All.right h8
  ·have h4 := hsm e (by rw [hcp]; exact List.mem_append.2 (.inr he))
   rw [e_cx e he] at h4
   exact h4.symm
 cases t with
 | n =>
  obtain ⟨z, hz, hout⟩ := out_s (P := P) (cx := cp) (kp := ⟨n + (rndH pt it.t it.E ds).ds.length, [], []⟩) (show outS (addC cp ⟨n + (rndH pt it.t it.E ds).ds.length, [], []⟩) (rndH pt it.t it.E ds) σ'' (fun z => some ((unD z).1, Sum.inl (unD z).2)) = some (ys', q) from by rw [hcp] at hk2 ⊢; exact hk2) hbp
  cases hz
  have hRz := hout (Fr.wd ⟨we, Se, mLp l rB :: mDef D :: F, G⟩ Ds'') (envOf a2) w2 (by rw [hcp] at hR2 ⊢; exact hR2)
  refine ⟨_, _, run_endRound none hl2, rfl, ?_⟩
  have hrr : ({ rB with state := if (none : Option Code).isNone then .ready else .done, pending := none } : Loop) = rR := by rw [hrB, hrR]; rfl
  rw [hrr]
  exact close z rR hRz
 | x i =>
  obtain ⟨ht, hk2⟩ := grd_s hk2
  obtain ⟨z, hz, hout⟩ := out_s (P := P) (cx := cp) (kp := ⟨n + (rndH pt it.t it.E ds).ds.length, [], []⟩) (show outS (addC cp ⟨n + (rndH pt it.t it.E ds).ds.length, [], []⟩) (rndH pt it.t it.E ds) σ'' (fun z => some ((unD z).1, Sum.inr (unD z).2)) = some (ys', q) from by rw [hcp] at hk2 ⊢; exact hk2) hbp
  cases hz
  have hRz := hout (Fr.wd ⟨we, Se, mLp l rB :: mDef D :: F, G⟩ Ds'') (envOf a2) w2 (by rw [hcp] at hR2 ⊢; exact hR2)
  refine ⟨_, _, run_endRound (some (.exit i)) hl2, rfl, ?_⟩
  have hrr : ({ rB with state := if (some (Code.exit i)).isNone then .ready else .done, pending := some (.exit i) } : Loop) = { state := .done, pending := some (tgC τ), fn := fn, tmps := tmps, params := #[pt], assign := a, body := c, defers := D } := by
   rw [hrB, hrR, tg_eq ht]; rfl
  rw [hrr]
  exact close z _ hRz
 | r =>
  obtain ⟨ht, hk2⟩ := grd_s hk2
  obtain ⟨z, hz, hout⟩ := out_s (P := P) (cx := cp) (kp := ⟨n + (rndH pt it.t it.E ds).ds.length, [], []⟩) (show outS (addC cp ⟨n + (rndH pt it.t it.E ds).ds.length, [], []⟩) (rndH pt it.t it.E ds) σ'' (fun z => some ((unD z).1, Sum.inr (unD z).2)) = some (ys', q) from by rw [hcp] at hk2 ⊢; exact hk2) hbp
  cases hz
  have hRz := hout (Fr.wd ⟨we, Se, mLp l rB :: mDef D :: F, G⟩ Ds'') (envOf a2) w2 (by rw [hcp] at hR2 ⊢; exact hR2)
  refine ⟨_, _, run_endRound (some .ret) hl2, rfl, ?_⟩
  have hrr : ({ rB with state := if (some Code.ret).isNone then .ready else .done, pending := some .ret } : Loop) = { state := .done, pending := some (tgC τ), fn := fn, tmps := tmps, params := #[pt], assign := a, body := c, defers := D } := by
   rw [hrB, hrR, tg_eq ht]; rfl
  rw [hrr]
  exact close z _ hRz
end
end Go.Proofs.YtmggkmchbdanfaaGreat
end

section
set_option linter.unusedVariables false
set_option linter.unusedSimpArgs false
namespace Go.Proofs.YtmggkmchbdanfaaGreat
section
variable {P : Program} {cf : Cf} {fr : Fr} {cx σ : Sg} {env : Env} {w : World} {R : Type} {r : R}
theorem range_s (hX : XOK P cf) {g : Operand} {a c : Code} {N : Nd} {K : Tg -> Sg -> Option R} {Q : Qd} {s : Lp} {it : ISig} {y : AsD it.dom} {τ : Tg} {pt : Nat} {ags : List Nat} {cs : List PD} {Ds : List Nat}
  (hA : DenOK P cf N.n a) (hC : DenOK P cf N.n c) (hna : noR a = true) (hnc : noR c = true) (hrd : N.rd = none) (hpt : pt < N.n) (hg : opv cx σ g = some (.fn it.f cs)) (hit : it ∈ cf.is) (hy : feedC it.dom cs = some y) (hns : s.hd.ns = [])
  (h : rangeD cx σ K s it y τ pt ags (fun cx σ K => den cf a cx σ K) (fun cx σ K => den cf c cx σ K) = some r)
  (hK : ∀ t σ', K t σ' = some r -> ∀ Ds' env' w', SmO cx env env' -> Rel P (fr.wd Ds') cx σ' env' w' -> Q (tgE t) Ds' env' w') (hR : Rel P (fr.wd Ds) cx σ env w) : WpD P N (.rangeFunc g #[pt] a c) Q Ds env w := by
 obtain ⟨⟨ds, ns⟩, sg⟩ := s
 simp only at hns
 subst hns
 obtain ⟨hcl, hcap⟩ := feedC_s hy
 obtain ⟨hB, vs, hst⟩ := hR
 obtain ⟨S0, _, hΓ⟩ := hst.ex
 obtain ⟨cvs, hgv, hlen, hca⟩ := opv_hold hg (gs_lko hΓ g)
 have hRA : Rel P ⟨fr.we, fr.Se, Ds.map mDef ++ fr.F, argFs P it.dom y cvs ++ fr.G⟩ cx σ env w := ⟨hB, vs, hst.weak fun S w ha => All.append (All.left ha) (All.append (All.left (All.right ha)) (All.append (by
  obtain ⟨cvs', hv', hl', hca'⟩ := opv_hold hg (gs_lko ha g)
  rw [hgv] at hv'
  have : cvs = cvs' := by simpa using hv'
  subst this
  exact hcap hl' hca') (All.right (All.right ha))))⟩
 unfold rangeD at h
 simp only at h
 obtain ⟨hcond, h⟩ := grd_s h
 simp only [Bool.and_eq_true] at hcond
 obtain ⟨hm, hon, hnot⟩ := hcond
 obtain ⟨hkb, hR1⟩ := rel_keep (ag := ags) (ro := sg.ro) hRA
 obtain ⟨kp, hkp⟩ : ∃ kp, kp = keep σ ags sg.ro := ⟨_, rfl⟩
 rw [<- hkp] at h hkb hR1 hnot
 obtain ⟨x0, h1, h2⟩ := out_s (P := P) (cx := addC cx kp) (kp := ⟨kp.nx, [], []⟩) h (bd_keep hkb)
 obtain ⟨r', h3, h4⟩ := bd_s h1
 obtain ⟨vs0, hsl0, hB0, hst0⟩ := rel_out (ds := ds) hm (h2 _ env w hR1)
 obtain ⟨hb, hiok⟩ := hX.is it hit
 have ho : ∀ e ∈ (addC cx kp).ob, e.1 < kp.nx := fun e he => by
  rcases List.mem_append.1 he with he | he
  ·exact hkb.o1 e he
  ·exact hkb.o2 e he
 have hr : ∀ e ∈ (addC cx kp).rg, ∀ o, refO e.2.2 = some o -> o < kp.nx := fun e he o hro => by
  rcases List.mem_append.1 he with he | he
  ·exact hkb.r1 e he o hro
  ·exact hkb.r2 e he o hro
 intro a0 g1 g2 g3
 refine wpIn_rangeFunc ?_
 intro fn hfn
 rw [show N.F.round = none from hrd]
 obtain ⟨rR, hrR⟩ : ∃ rR : Loop, rR = { state := .ready, pending := none, fn := fn, tmps := a0.tmps, params := #[pt], assign := a, body := c, defers := w.heap.size } := ⟨_, rfl⟩
 obtain ⟨rD, hrD⟩ : ∃ rD : Loop, rD = { state := .done, pending := some (tgC τ), fn := fn, tmps := a0.tmps, params := #[pt], assign := a, body := c, defers := w.heap.size } := ⟨_, rfl⟩
 have hen := run_enterLoop_outer (P := P) (w := w) fn a0.tmps #[pt] a c
 rw [<- hrR] at hen
 have hW : St fr.we fr.Se (mLp (w.heap.size + 1) rR :: mDef w.heap.size :: (dsM (fun j => vs0 (kp.nx + j)) ds x0 0 ++ (MS vs0 (addC cx kp).ob ++ (Ds.map mDef ++ fr.F)))) (RS P vs0 env (addC cx kp).rg ++ (argFs P it.dom y cvs ++ fr.G)) ((w.alloc (.deferred (some []))).alloc (.loop rR)) := by
  have q1 := St.allocObj (o := .deferred (some [])) (m := mDef w.heap.size) hst0 (fun k hk => hk) (fun S w' hw => hw)
  have hsz : (w.alloc (.deferred (some []))).heap.size = w.heap.size + 1 := World.size_alloc ..
  refine St.allocObj (o := .loop rR) (m := mLp (w.heap.size + 1) rR) q1 (fun k hk => by rw [hsz]; exact hk) (fun S w' hw => ?_)
  rw [hsz] at hw
  exact hw
 have hW2 := hid_in (x := x0) hsl0 ho hr hW
 have hYS := round_s (P := P) (cf := cf) (cx' := addC cx kp) (env := env) (n := kp.nx) (D := w.heap.size) (l := w.heap.size + 1) (ds := ds) (it := it) (pt := pt) (τ := τ) (a := a) (c := c) (N := N.n) (fn := fn) (tmps := a0.tmps) hA hC hna hnc hpt g1 g3 hm hon hnot ho hr
 rw [<- hrR, <- hrD] at hYS
 have hcall := hiok y _ _ _ _ _ x0 r' h3 (w.heap.size + 1) cvs (by omega) hYS _ fr.we fr.Se _ fr.G _ hW2
 -- behind it
 have close : ∀ (rc : Loop) (x : DsD ds) (u' : Value) (w3 : World), St fr.we fr.Se (hidM P env (addC cx kp) kp.nx ds w.heap.size (w.heap.size + 1) rc x u' :: (Ds.map mDef ++ fr.F)) fr.G w3 ->
   w3.heap[w.heap.size + 1]? = some (.loop rc) /\ ∀ o, Rel P (fr.wd (w.heap.size :: Ds)) cx (bldS ⟨ds, []⟩ x kp) env (w3.putObj (w.heap.size + 1) (.loop o)) := by
  intro rc x u' w3 hs
  obtain ⟨hsl, q1⟩ := hid_out hs
  refine ⟨mut_frame q1 (i := 0) rfl fun S hp => hp, fun o => ?_⟩
  have q2 := St.putObj (m' := mLp (w.heap.size + 1) o) (o := .loop o) q1 (fun k => Iff.rfl) (fun k hk => hk) (fun S w' hw => hw)
  have q3 : St fr.we fr.Se ([mDef w.heap.size] ++ (dsM (fun j => vsU u' (kp.nx + j)) ds x 0 ++ (MS (vsU u') (addC cx kp).ob ++ (Ds.map mDef ++ fr.F)))) (RS P (vsU u') env (addC cx kp).rg ++ fr.G) (w3.putObj (w.heap.size + 1) (.loop o)) := St.drop (i := 0) q2
  refine rel_in (vs := vsU u') hm hsl (bd_in hm (fun e he => Nat.lt_of_lt_of_le (hkb.o1 e he) (Nat.le_add_right _ _)) (fun e he => Nat.lt_of_lt_of_le (hkb.o2 e he) (Nat.le_add_right _ _)) (fun e he o hro => Nat.lt_of_lt_of_le (hkb.r1 e he o hro) (Nat.le_add_right _ _)) fun e he o hro => Nat.lt_of_lt_of_le (hkb.r2 e he o hro) (Nat.le_add_right _ _)) ?_
  have e1 : MS (vsU u') (addC cx kp).ob = MS (vsU u') kp.ob ++ MS (vsU u') cx.ob := List.map_append
  have e2 : RS P (vsU u') env (addC cx kp).rg = RS P (vsU u') env kp.rg ++ RS P (vsU u') env cx.rg := List.map_append
  rw [e1, e2] at q3
  have q4 : St fr.we fr.Se ((dsM (fun j => vsU u' (kp.nx + j)) ds x 0 ++ (MS (vsU u') kp.ob ++ MS (vsU u') cx.ob)) ++ ([mDef w.heap.size] ++ (Ds.map mDef ++ fr.F))) ((RS P (vsU u') env kp.rg ++ RS P (vsU u') env cx.rg) ++ fr.G) (w3.putObj (w.heap.size + 1) (.loop o)) := by
   refine q3.perm ?_
   rw [<- List.append_assoc (dsM _ _ _ _)]
   exact List.perm_append_comm_assoc ..
  show St fr.we fr.Se (dsM _ ds x 0 ++ (MS (vsU u') kp.ob ++ (MS (vsU u') cx.ob ++ ((mDef w.heap.size :: Ds.map mDef) ++ fr.F)))) (RS P (vsU u') env kp.rg ++ (RS P (vsU u') env cx.rg ++ fr.G)) _
  simpa only [List.append_assoc, List.cons_append, List.nil_append] using q4
 refine ⟨w.heap.size + 1, [mkD w.heap.size], ((w.alloc (.deferred (some []))).alloc (.loop rR)), { target := .fn (.func it.f) cvs.toArray, args := #[.func (.yield (w.heap.size + 1)) #[] #[]] }, ((w.alloc (.deferred (some []))).alloc (.loop rR)), it.f, #[.func (.yield (w.heap.size + 1)) #[] #[]] ++ cvs.toArray, ((w.alloc (.deferred (some []))).alloc (.loop rR)), hen, ?_, fun _ _ => trivial, ?_, fun e => by simp [Nd.F, Fence.wide] at e, ?_⟩
 ·have : a0.eval g = .func (.func it.f) #[] cvs.toArray := by rw [eval_eq, g3]; exact hgv
  simp only [resolve, this]
  simp [go_sem]
 ·simp [invoke, go_sem, run_callFunc hb]
 ·have hargs : (#[.func (.yield (w.heap.size + 1)) #[] #[]] ++ cvs.toArray : Array Value) = (Value.func (.yield (w.heap.size + 1)) #[] #[] :: cvs).toArray := by simp
  rw [hargs]
  refine CallsIn.mono (callsIn_wide.2 hcall) ?_
  rintro e w3 ⟨⟨v, rfl⟩, u', hs⟩
  cases hr' : r' with
  | inl x =>
   rw [hr'] at hs h4
   obtain ⟨hl3, hrel⟩ := close rR x u' w3 hs
   refine ⟨none, _, by have := run_endLoop (P := P) hl3 (by rw [hrR]; simp); rw [hrR] at this; exact this, ?_⟩
   exact ⟨g1, w.heap.size :: Ds, by show [mkD w.heap.size] ++ a0.defers = _; rw [g2]; rfl, hK .n _ h4 _ _ _ (by rw [<- g3]; exact SmO.refl) (by rw [<- g3] at hrel; exact hrel _)⟩
  | inr x =>
   rw [hr'] at hs h4
   obtain ⟨hl3, hrel⟩ := close rD x u' w3 hs
   refine ⟨some (tgC τ), _, by have := run_endLoop (P := P) hl3 (by rw [hrD]; simp); rw [hrD] at this; exact this, ?_⟩
   have fin : ∀ o, liftD N Q (tgE τ) { a0 with defers := [mkD w.heap.size] ++ a0.defers } (w3.putObj (w.heap.size + 1) (.loop o)) := fun o => ⟨g1, w.heap.size :: Ds, by show [mkD w.heap.size] ++ a0.defers = _; rw [g2]; rfl, hK τ _ h4 _ _ _ (by rw [<- g3]; exact SmO.refl) (by rw [<- g3] at hrel; exact hrel _)⟩
   cases τ with
   | n => exact wpIn_skip (fin _)
   | x i => exact wpIn_exit (fin _)
   | r => exact wpIn_ret (fin _)
end
end Go.Proofs.YtmggkmchbdanfaaGreat
end

section
set_option linter.unusedVariables false
set_option linter.unusedSimpArgs false
namespace Go.Proofs.YtmggkmchbdanfaaGreat
section
variable {P : Program} {cf : Cf}
theorem den_s (hm : P.follows .mixedOrders = true) (hT : TTok P cf.tt) (hL : ELok P cf.tt) (hC : ∀ s ∈ cf.cs, SigOK P s) (hX : XOK P cf) {n : Nat} : ∀ (c : Code), okC n c = true -> DenOK P cf n c
 | .skip, _, R, r, fr, cx, σ, K, Q, N, hN, hrd, h, Ds, env, w, hK, hR => fun _ h1 h2 h3 => wpIn_skip ⟨h1, Ds, h2, h3 ▸ hK .n σ h Ds env w SmO.refl hR⟩
 | .label _, _, R, r, fr, cx, σ, K, Q, N, hN, hrd, h, Ds, env, w, hK, hR => fun _ h1 h2 h3 => wpIn_label ⟨h1, Ds, h2, h3 ▸ hK .n σ h Ds env w SmO.refl hR⟩
 | .exit id, _, R, r, fr, cx, σ, K, Q, N, hN, hrd, h, Ds, env, w, hK, hR => fun _ h1 h2 h3 => wpIn_exit ⟨h1, Ds, h2, h3 ▸ hK (.x id) σ h Ds env w SmO.refl hR⟩
 | .ret, _, R, r, fr, cx, σ, K, Q, N, hN, hrd, h, Ds, env, w, hK, hR => fun _ h1 h2 h3 => wpIn_ret ⟨h1, Ds, h2, h3 ▸ hK .r σ h Ds env w SmO.refl hR⟩
 | .scope c, ho, R, r, fr, cx, σ, K, Q, N, hN, hrd, h, Ds, env, w, hK, hR => by
  refine WpD_scope (den_s hm hT hL hC hX c ho (K := K) hN hrd h (fun t σ' hk Ds' env' w' hs hR => ?_) hR)
  have := hK t σ' hk Ds' env' w' hs hR
  cases t <;> exact this
 | .region id ops dr, ho, R, r, fr, cx, σ, K, Q, N, hN, hrd, h, Ds, env, w, hK, hR => by
  subst hN
  refine WpD_of ?_
  have := region_s (id := id) (N := N.wd Ds) (fr := fr.wd Ds) hm hT hL hC hX (Q := fun e env w => Q e Ds env w) (k := fun σ => K .n σ) (fun σ' hk env' w' hs hR => hK .n σ' hk Ds env' w' hs hR) ho h hR
  rwa [Array.toArray_toList] at this
 | .cond c a b, ho, R, r, fr, cx, σ, K, Q, N, hN, hrd, h, Ds, env, w, hK, hR => by
  have ho := (Bool.and_eq_true _ _).mp ho
  have hra : N.rd = none \/ noR a = true := hrd.imp id fun h => ((Bool.and_eq_true _ _).mp h).1
  have hrb : N.rd = none \/ noR b = true := hrd.imp id fun h => ((Bool.and_eq_true _ _).mp h).2
  simp only [den] at h
  obtain ⟨hB, vs, hst⟩ := hR
  have hR : Rel P (fr.wd Ds) cx σ env w := ⟨hB, vs, hst⟩
  obtain ⟨S, _, hΓ⟩ := hst.ex
  split at h
  ·next hv => exact WpD_cond_t (opv_hold hv (gs_lko hΓ c)) (den_s hm hT hL hC hX a ho.1 hN hra h hK hR)
  ·next hv => exact WpD_cond_f (opv_hold hv (gs_lko hΓ c)) (den_s hm hT hL hC hX b ho.2 hN hrb h hK hR)
  ·next x hv =>
   have hx : ev env c = .bool x := fV_bool (opv_hold hv (gs_lko hΓ c))
   rcases ifB_s h with ⟨rfl, h⟩ | ⟨rfl, h⟩
   ·exact WpD_cond_t hx (den_s hm hT hL hC hX a ho.1 hN hra h hK hR)
   ·exact WpD_cond_f hx (den_s hm hT hL hC hX b ho.2 hN hrb h hK hR)
  ·cases h
 | .block id c, ho, R, r, fr, cx, σ, K, Q, N, hN, hrd, h, Ds, env, w, hK, hR => by
  refine WpD_block (den_s hm hT hL hC hX c ho (K := fun t σ => match t with
   | .x j => cnd (Nat.beq j id) (K .n σ) (K (.x j) σ)
   | t => K t σ) hN hrd h (fun t σ' hk Ds' env' w' hs hR => ?_) hR)
  cases t with
  | n => exact hK .n σ' hk Ds' env' w' hs hR
  | r => exact hK .r σ' hk Ds' env' w' hs hR
  | x j =>
   simp only at hk
   show blockD id Q (.exit j) Ds' env' w'
   simp only [blockD]
   cases hb : Nat.beq j id <;> rw [hb] at hk
   ·exact hK (.x j) σ' hk Ds' env' w' hs hR
   ·exact hK .n σ' hk Ds' env' w' hs hR
 | .seq a b, ho, R, r, fr, cx, σ, K, Q, N, hN, hrd, h, Ds, env, w, hK, hR => by
  have ho := (Bool.and_eq_true _ _).mp ho
  have hra : N.rd = none \/ noR a = true := hrd.imp id fun h => ((Bool.and_eq_true _ _).mp h).1
  have hrb : N.rd = none \/ noR b = true := hrd.imp id fun h => ((Bool.and_eq_true _ _).mp h).2
  simp only [den] at h
  split at h
  ·refine WpD_seq (den_s hm hT hL hC hX a ho.1 hN hra h (fun t σ' hk Ds' env' w' hs hR => ?_) hR)
   cases t with
   | n => exact den_s hm hT hL hC hX b ho.2 hN hrb hk (fun t σ2 hk2 Ds2 env2 w2 hs2 hR2 => hK t σ2 hk2 Ds2 env2 w2 (hs.trans hs2) hR2) hR
   | x j => exact hK (.x j) σ' hk Ds' env' w' hs hR
   | r => exact hK .r σ' hk Ds' env' w' hs hR
  ·next s hs =>
   obtain ⟨x, h1, h2⟩ := bd_s h
   obtain ⟨hkb, hR1⟩ := rel_keep (ag := asg a) (ro := s.ro) hR
   refine WpD_seq (WpD_mono (den_s hm hT hL hC hX a ho.1 (Q := fun e Ds env' w => ∃ t σt, e = tgE t /\ (match t with
     | .n => den cf b cx σt K
     | t => K t σt) = some r /\ SmO cx env env' /\ Rel P (fr.wd Ds) cx σt env' w) hN hra h1 (fun t σ' hk Ds' env' w' hs hR => ?_) hR1) ?_)
   ·obtain ⟨y, σt, e1, e2, e3⟩ := inj_s (P := P) hkb hk
    cases e1
    have e4 := (e2 fun t σ => match t with
     | .n => den cf b cx σ K
     | t => K t σ).symm.trans h2
    exact ⟨t, σt, rfl, by cases t <;> exact e4, fun e he => hs e (List.mem_append.2 (.inr he)), e3 _ env' w' hR⟩
   ·rintro e Ds' env' w' ⟨t, σt, rfl, hk, hs', hR⟩
    cases t with
    | n => exact den_s hm hT hL hC hX b ho.2 hN hrb hk (fun t σ2 hk2 Ds2 env2 w2 hs2 hR2 => hK t σ2 hk2 Ds2 env2 w2 (hs'.trans hs2) hR2) hR
    | x j => exact hK (.x j) σt hk Ds' env' w' hs' hR
    | r => exact hK .r σt hk Ds' env' w' hs' hR
 | .loop c, ho, R, r, fr, cx, σ, K, Q, N, hN, hrd, h, Ds, env, w, hK, hR => by
  simp only [den] at h
  split at h
  ·cases h
  ·next s hs =>
   obtain ⟨hkb, hR1⟩ := rel_keep (ag := asg c) (ro := s.sg.ro) hR
   obtain ⟨x, h1, h2⟩ := out_s (P := P) (cx := addC cx (keep σ (asg c) s.sg.ro)) (kp := ⟨(keep σ (asg c) s.sg.ro).nx, [], []⟩) h (bd_keep hkb)
   obtain ⟨s0, h3, h4⟩ := bd_s h1
   refine WpD_loop (G := Nat × DsD s.hd.ds) (fun g Ds env' w => loopN _ g.1 g.2 = some s0 /\ SmO cx env env' /\ Rel P (fr.wd Ds) (addC cx (keep σ (asg c) s.sg.ro)) (bldS s.hd g.2 ⟨(keep σ (asg c) s.sg.ro).nx, [], []⟩) env' w) (fun g => g.1) (cf.fu, x) ⟨h3, SmO.refl, h2 _ env w hR1⟩ ?_
   rintro ⟨n', x⟩ Ds env1 w ⟨hl, hsm, hR⟩
   cases n' with
   | zero => exact (loopN_z hl).elim
   | succ n' =>
    refine den_s hm hT hL hC hX c ho hN hrd (loopN_s hl) (fun t σ' hk Ds' env' w' hs hR => ?_) hR
    have hsx : SmO cx env env' := hsm.trans fun e he => hs e (List.mem_append.2 (.inr he))
    have fin : (∀ (y : SmD s.sg.tg) (σt : Sg), some y = some s0 -> (∀ {R' : Type} (K : Tg -> Sg -> Option R'), elimS (keep σ (asg c) s.sg.ro) K s.sg.tg y = K t σt) -> Rel P (fr.wd Ds') cx σt env' w' -> Q (tgE t) Ds' env' w') := fun y σt e1 e2 e3 => by
     cases e1
     exact hK t σt (by rw [<- h4]; exact (e2 K).symm) Ds' env' w' hsx e3
    cases t with
    | n =>
     obtain ⟨x', h5, h6⟩ := out_s (P := P) (cx := addC cx (keep σ (asg c) s.sg.ro)) (kp := ⟨(keep σ (asg c) s.sg.ro).nx, [], []⟩) hk (bd_keep hkb)
     exact ⟨(n', x'), ⟨h5, hsx, h6 _ env' w' hR⟩, Nat.lt_succ_self n'⟩
    | x j =>
     obtain ⟨y, σt, e1, e2, e3⟩ := inj_s (P := P) hkb hk
     exact fin y σt e1 e2 (e3 _ env' w' hR)
    | r =>
     obtain ⟨y, σt, e1, e2, e3⟩ := inj_s (P := P) hkb hk
     exact fin y σt e1 e2 (e3 _ env' w' hR)
 | .rangeFunc g ps a c, ho, R, r, fr, cx, σ, K, Q, N, hN, hrd, h, Ds, env, w, hK, hR => by
  have ho := (Bool.and_eq_true _ _).mp ho
  have ho2 := (Bool.and_eq_true _ _).mp ho.2
  simp only [den] at h
  split at h
  ·next f cs s pt hg hs hps =>
   split at h
   ·next it τ sh hit htg hns =>
    split at h
    ·next y hy =>
     obtain ⟨hnr, h⟩ := grd_s h
     rw [Bool.and_eq_true] at hnr
     obtain ⟨hi1, hi2⟩ := fndI_s hit
     subst hi2
     have hps2 : ps = #[pt] := by cases ps; simp_all
     subst hps2
     have hpt : pt < n := by
      have := ho.1
      simpa using this
     subst hN
     exact range_s hX (den_s hm hT hL hC hX a ho2.1) (den_s hm hT hL hC hX c ho2.2) hnr.1 hnr.2 (hrd.resolve_right (by simp [noR])) hpt hg hi1 hy hns h hK hR
    ·cases h
   ·cases h
  ·cases h
 | .refuse _, _, R, r, fr, cx, σ, K, Q, N, hN, hrd, h, _, _, _, _, _ => by cases h
 | .goto _, _, R, r, fr, cx, σ, K, Q, N, hN, hrd, h, _, _, _, _, _ => by cases h
end
end Go.Proofs.YtmggkmchbdanfaaGreat
end

section
set_option linter.unusedVariables false
set_option linter.unusedSimpArgs false
namespace Go.Proofs.YtmggkmchbdanfaaGreat
def takeW : List Nat -> World -> World
 | [], w => w
 | D :: Ds, w => takeW Ds (w.putObj D (.deferred none))
def marksW : List Nat -> World -> Prop
 | [], _ => True
 | D :: Ds, w => w.heap[D]? = some (.deferred (some [])) /\ marksW Ds (w.putObj D (.deferred none))
def mTk (D : Nat) : MF where
 blk k := k = D
 p _ w := w.heap[D]? = some (.deferred none)
 keep h _ hb := (hb D rfl).trans h
 sub h _ := h
 lt h k hk := by subst hk; exact (Array.getElem?_eq_some_iff.1 h).1
section
variable {P : Program} {cf : Cf} {fr : Fr} {cx σ : Sg} {env : Env}
theorem rel_take : ∀ {Ds : List Nat} {w : World}, Rel P (fr.wd Ds) cx σ env w -> marksW Ds w /\ Rel P fr cx σ env (takeW Ds w)
 | [], w, h => ⟨trivial, h⟩
 | D :: Ds, w, h => by
  have h1 : w.heap[D]? = some (.deferred (some [])) := rel_mem h (m := mDef D) (List.mem_cons_self ..) fun S hp => hp
  have h2 := rel_put (A := []) (m := mDef D) (m' := mTk D) (B := Ds.map mDef ++ fr.F) h (fun k => Iff.rfl) (fun k h => h) (o := .deferred none) fun S w' h => h
  have h3 : Rel P (fr.wd Ds) cx σ env (w.putObj D (.deferred none)) := by
   obtain ⟨hB, vs, hst⟩ := h2
   refine ⟨hB, vs, ?_⟩
   have h4 : St fr.we fr.Se ((MS vs σ.ob ++ MS vs cx.ob) ++ ([mTk D] ++ (Ds.map mDef ++ fr.F))) (RS P vs env σ.rg ++ (RS P vs env cx.rg ++ fr.G)) (w.putObj D (.deferred none)) := by
    have : St fr.we fr.Se (MS vs σ.ob ++ (MS vs cx.ob ++ ([] ++ mTk D :: (Ds.map mDef ++ fr.F)))) (RS P vs env σ.rg ++ (RS P vs env cx.rg ++ fr.G)) (w.putObj D (.deferred none)) := hst
    simpa only [List.append_assoc, List.nil_append, List.singleton_append] using this
   have h5 := St.dropM h4
   show St fr.we fr.Se (MS vs σ.ob ++ (MS vs cx.ob ++ (Ds.map mDef ++ fr.F))) (RS P vs env σ.rg ++ (RS P vs env cx.rg ++ fr.G)) _
   simpa only [List.append_assoc] using h5
  obtain ⟨h4, h5⟩ := rel_take h3
  exact ⟨⟨h1, h4⟩, h5⟩
theorem leaves_take {F : Fence} {n : Nat} {fn : Func} {tmps : Array Value} {Q : Ending -> World -> Prop} : ∀ {Ds : List Nat} {w : World}, marksW Ds w -> (∃ v, (results fn tmps).run P (takeW Ds w) = .ok v (takeW Ds w) /\ Q (.returned v) (takeW Ds w)) -> LeavesInM F n P fn tmps Q (Ds.map mkD) .returning w
 | [], w, _, h => h
 | D :: Ds, w, hm, h => ⟨by simp, .inl ⟨D, _, rfl, run_takeDeferred hm.1, leaves_take hm.2 h⟩⟩
theorem calls_wpD {f : FuncId} {fn : Func} {c : Code} {args : List Value} {w : World} {Q : Ending -> World -> Prop} (hf : P.funcs[f]? = some fn) (hb : fn.body = some c) (hn : Nat.ble args.length fn.ntmps = true)
  (h : ∀ rest, WpD P (Nd.of fn.ntmps) c (fun e Ds env w => (e = .normal \/ e = .ret) /\ marksW Ds w /\ ∀ a : Act, envOf a = env -> ∃ v, (results fn a.tmps).run P (takeW Ds w) = .ok v (takeW Ds w) /\ Q (.returned v) (takeW Ds w)) [] (L ((args.zipIdx 0).map fun x => (x.2, x.1)) rest) w) :
  Calls P f args.toArray w Q := by
 have hn := Nat.le_of_ble_eq_true hn
 refine callsIn_wide.1 (callsIn_of_wp_marks (n := 0) hf hb trivial ?_)
 have hag : agree (envOf ⟨args.toArray ++ Array.replicate (fn.ntmps - args.toArray.size) undef, []⟩) ((args.zipIdx 0).map fun x => (x.2, x.1)) := by
  refine agree_args args 0 _ fun j => ?_
  rw [envOf_args]
  simp [Array.getD_eq_getD_getElem?, List.getD_eq_getElem?_getD]
 refine wpIn_mono (h _ _ (by simp [Nd.of]; omega) rfl (L_agree hag).symm) ?_
 rintro e a' w' ⟨q1, Ds, q2, he, hm, hv⟩
 obtain ⟨v, h1, h2⟩ := hv a' rfl
 rcases he with rfl | rfl
 ·show LeavesInM _ _ P fn a'.tmps Q a'.defers .returning w'
  rw [q2]
  exact leaves_take hm ⟨v, h1, h2⟩
 ·show LeavesInM _ _ P fn a'.tmps Q a'.defers .returning w'
  rw [q2]
  exact leaves_take hm ⟨v, h1, h2⟩
end
end Go.Proofs.YtmggkmchbdanfaaGreat
end

section
set_option linter.unusedVariables false
set_option linter.unusedSimpArgs false
namespace Go.Proofs.YtmggkmchbdanfaaGreat
section
variable {P : Program} {cf : Cf} {fr : Fr} {σ : Sg} {vs : Nat -> Value} {env : Env} {w : World} {R : Type} {r : R}
theorem L_zip {rest : Env} : ∀ {l : List Value} {i j : Nat} {v : Value}, l[j]? = some v -> L ((l.zipIdx i).map fun x => (x.2, x.1)) rest (i + j) = v
 | a :: l, i, 0, v, h => by
  simp only [List.getElem?_cons_zero, Option.some.injEq] at h
  simp [L, h]
 | a :: l, i, j + 1, v, h => by
  simp only [List.zipIdx_cons, List.map_cons, L]
  rw [beq_f (show i + (j + 1) ≠ i by omega)]
  have := L_zip (rest := rest) (l := l) (i := i + 1) (j := j) (v := v) (by simpa using h)
  rw [show i + 1 + j = i + (j + 1) by omega] at this
  exact this
theorem arg_ms : ∀ {dom : List AM} {x : AsD dom} {i : Nat} {l : List Value}, l.length = dom.length -> (∀ j v, l[j]? = some v -> vs (i + j) = v) -> MS vs (argS dom x i).2 = argMs dom x l
 | [], _, _, _, _, _ => rfl
 | a :: dom, x, i, [], hl, _ => by cases hl
 | a :: dom, x, i, v :: l, hl, h => by
  have ih : MS vs (argS dom x.2 (i + 1)).2 = argMs dom x.2 l := arg_ms (by simpa using hl) fun j v hj => by
   have := h (j + 1) v (by simpa using hj)
   rw [<- this]; congr 1; omega
  have h0 : vs i = v := h 0 v rfl
  cases a with
  | own t E =>
   show mO t.rep E (vs i) x.1 :: MS vs (argS dom x.2 (i + 1)).2 = mO t.rep E v x.1 :: argMs dom x.2 l
   rw [ih, h0]
  | _ => exact ih
theorem arg_rs {S : Nat -> Prop} : ∀ {dom : List AM} {x : AsD dom} {i : Nat} {l : List Value}, l.length = dom.length -> (∀ j v, l[j]? = some v -> vs (i + j) = v /\ env (i + j) = v) -> All S (argFs P dom x l) w -> All S (RS P vs env (argS dom x i).1) w
 | [], _, _, _, _, _, _ => trivial
 | a :: dom, x, i, [], hl, _, _ => by cases hl
 | a :: dom, x, i, v :: l, hl, h, hA => by
  have ih : All S (RS P vs env (argS dom x.2 (i + 1)).1) w := arg_rs (l := l) (by simpa using hl) (fun j v hj => by
   have := h (j + 1) v (by simpa using hj)
   rw [show i + 1 + j = i + (j + 1) by omega]; exact this) hA.2
  have h0 : vs i = v /\ env i = v := h 0 v rfl
  have hA1 : (amF P a x.1 v).p S w := hA.1
  cases a with
  | d t => exact ⟨show (fV t.rep x.1 (env i)).p S w by rw [h0.2]; exact hA1, ih⟩
  | q t => exact ⟨show (fP t.rep x.1 (env i)).p S w by rw [h0.2]; exact hA1, ih⟩
  | own t E => exact ⟨show env i = vs i by rw [h0.1, h0.2], ih⟩
  | fn dom' cod' => exact ⟨show (fnF P dom' cod' x.1 (env i)).p S w by rw [h0.2]; exact hA1, ih⟩
theorem arg_ob : ∀ {dom : List AM} {x : AsD dom} {i : Nat}, ∀ e ∈ (argS dom x i).2, e.1 < i + dom.length
 | [], _, _, e, he => absurd he List.not_mem_nil
 | a :: dom, x, i, e, he => by
  have ih : ∀ e ∈ (argS dom x.2 (i + 1)).2, e.1 < i + (a :: dom).length := fun e he => by
   have := arg_ob e he
   simp only [List.length_cons]; omega
  cases a with
  | own t E =>
   rcases List.mem_cons.1 (show e ∈ (i, Od.own t E x.1) :: (argS dom x.2 (i + 1)).2 from he) with rfl | he
   ·simp only [List.length_cons]; omega
   ·exact ih e he
  | _ => exact ih e he
theorem arg_ref : ∀ {dom : List AM} {x : AsD dom} {i : Nat}, ∀ e ∈ (argS dom x i).1, ∀ p, refO e.2.2 = some p -> p < i + dom.length
 | [], _, _, e, he => absurd he List.not_mem_nil
 | a :: dom, x, i, e, he => by
  intro p hp
  have ih : ∀ e ∈ (argS dom x.2 (i + 1)).1, ∀ p, refO e.2.2 = some p -> p < i + (a :: dom).length := fun e he p hp => by
   have := arg_ref e he p hp
   simp only [List.length_cons]; omega
  cases a with
  | own t E =>
   rcases List.mem_cons.1 (show e ∈ (i, 0, Dv.ow i) :: (argS dom x.2 (i + 1)).1 from he) with rfl | he
   ·cases hp; simp only [List.length_cons]; omega
   ·exact ih e he p hp
  | d t =>
   rcases List.mem_cons.1 (show e ∈ (i, 0, Dv.d t x.1) :: (argS dom x.2 (i + 1)).1 from he) with rfl | he
   ·cases hp
   ·exact ih e he p hp
  | q t =>
   rcases List.mem_cons.1 (show e ∈ (i, 0, Dv.q t x.1) :: (argS dom x.2 (i + 1)).1 from he) with rfl | he
   ·cases hp
   ·exact ih e he p hp
  | fn d c =>
   rcases List.mem_cons.1 (show e ∈ (i, 0, Dv.fp d c x.1) :: (argS dom x.2 (i + 1)).1 from he) with rfl | he
   ·cases hp
   ·exact ih e he p hp
theorem rel_frzD : ∀ (l : List ResultVar) (ms : List RM) {σ : Sg}, Rel P fr ⟨0, [], []⟩ σ env w -> Rel P fr ⟨0, [], []⟩ (frzD σ l ms) env w
 | [], _, _, h => by unfold frzD; exact h
 | .tmp t :: l, [], _, h => by unfold frzD; exact h
 | .tmp t :: l, .d _ :: ms, _, h => by unfold frzD; exact rel_frzD l ms (rel_frz _ h)
 | .tmp t :: l, .own _ _ :: ms, _, h => by unfold frzD; exact rel_frzD l ms h
 | .cell t E :: l, [], _, h => by unfold frzD; exact h
 | .cell t E :: l, m :: ms, _, h => by unfold frzD; exact rel_frzD l ms h
theorem retF_s (hT : TTok P cf.tt) {rv : ResultVar} {m : RM} {k : m.D -> List Nat -> Option R} (h : retF cf σ rv m k = some r) : ∃ x os, k x os = some r /\
  ∀ vs (fr : Fr) env (A : List MF) (Γ : List FF) w (os' : List Nat), (∀ S w, All S Γ w -> ∀ t, Lk P vs env S w ⟨0, [], []⟩ σ t) -> (∀ o ∈ os, has os' o = false) -> St fr.we fr.Se (A ++ OS vs fr ⟨0, [], []⟩ (delos σ.ob os')) Γ w ->
   ∃ v, resE P w env rv v /\ St fr.we fr.Se (rmM m x v ++ (A ++ OS vs fr ⟨0, [], []⟩ (delos σ.ob (os ++ os')))) (rmF m x v ++ Γ) w := by
 cases rv with
 | tmp t =>
  cases m with
  | d s =>
   simp only [retF] at h
   have hsome := h
   obtain ⟨y, h, hy⟩ := asD_s h
   refine ⟨y, [], h, fun vs fr env A Γ w os' hl _ hst => ⟨env t, rfl, ?_⟩⟩
   refine hst.weak fun S w hΓ => ⟨?_, hΓ⟩
   cases hg : get ⟨0, [], []⟩ σ t 0 with
   | none => rw [hg] at hsome; cases hsome
   | some v => exact hy P vs S w v _ hg (hl S w hΓ t 0 v hg)
  | own s E =>
   simp only [retF] at h
   obtain ⟨x, os, h1, _, h2, h3⟩ := gatF_s h
   refine ⟨x, os, h1, fun vs fr env A Γ w os' hl hn hst => ⟨env t, rfl, ?_⟩⟩
   exact h3 P vs fr env A Γ w os' (fun S w hΓ => hl S w hΓ t) hn hst
 | cell t E =>
  cases m with
  | own s E' => simp only [retF] at h; cases h
  | d s =>
   simp only [retF] at h
   split at h
   ·next o s0 ti hg hti =>
    split at h
    ·next s' E' z ho =>
     obtain ⟨hE, h1⟩ := grd_s h
     have hE := beq_t hE
     subst hE
     obtain ⟨e, h2⟩ := cast_s h1
     cases e
     obtain ⟨e, h3⟩ := cast_s h2
     cases e
     refine ⟨_, [o], h3, fun vs fr env A Γ w os' hl hn hst => ?_⟩
     have hp := os_perm (vs := vs) (fr := fr) (cx := ⟨0, [], []⟩) ((fndO_delos (hn o (List.mem_cons_self ..))).trans ho)
     have h3 := St.mid (St.perm hst (List.Perm.append_left _ hp))
     obtain ⟨S, _, hΓ⟩ := hst.ex
     obtain ⟨hv, b, hb⟩ := hl S w hΓ t 0 _ hg
     obtain ⟨⟨zero, ht, _⟩, _⟩ := hT E ti hti
     have h4 : St fr.we fr.Se (mP ti.ty.rep.c E (vs o) z :: (A ++ OS vs fr ⟨0, [], []⟩ (delo (delos σ.ob os') o))) Γ w := h3
     obtain ⟨b', hb', h5⟩ := h4.openP 0 rfl
     rw [hb] at hb'; cases hb'
     refine Ret_cell 0 h5 rfl (hv.trans hb) ht fun v hs hr => ⟨v, hr, ?_⟩
     exact St.drop (i := 0) hs
    ·cases h
   ·cases h
theorem retD_s (hT : TTok P cf.tt) : ∀ {rvs : List ResultVar} {cod : List RM} {k : RsD cod -> List Nat -> Option R}, retD cf σ rvs cod k = some r -> ∃ x os, k x os = some r /\
  ∀ vs (fr : Fr) env (Γ : List FF) w, (∀ S w, All S Γ w -> ∀ t, Lk P vs env S w ⟨0, [], []⟩ σ t) -> St fr.we fr.Se (OS vs fr ⟨0, [], []⟩ σ.ob) Γ w ->
   ∃ us, us.length = cod.length /\ ResAll P w env rvs us /\ St fr.we fr.Se (resMs cod x us ++ OS vs fr ⟨0, [], []⟩ (delos σ.ob os)) (resFs cod x us ++ Γ) w
 | [], [], k, h => ⟨(), [], h, fun vs fr env Γ w _ hst => ⟨[], rfl, trivial, hst⟩⟩
 | [v], [m], k, h => by
  obtain ⟨x, os, h1, h2⟩ := retF_s hT (h : retF cf σ v m k = some r)
  refine ⟨x, os, h1, fun vs fr env Γ w hl hst => ?_⟩
  obtain ⟨u, h3, h4⟩ := h2 vs fr env [] Γ w [] hl (fun _ _ => rfl) hst
  rw [List.append_nil] at h4
  exact ⟨[u], rfl, ⟨h3, trivial⟩, h4⟩
 | v :: v' :: rvs, m :: m' :: ms, k, h => by
  obtain ⟨x, o, h1, h2⟩ := retF_s hT (h : retF cf σ v m _ = some r)
  obtain ⟨y, os, h3, h4⟩ := retD_s hT h1
  obtain ⟨hn, h3⟩ := grd_s h3
  refine ⟨(x, y), o ++ os, h3, fun vs fr env Γ w hl hst => ?_⟩
  obtain ⟨us, h5, h6, h7⟩ := h4 vs fr env Γ w hl hst
  obtain ⟨u, h8, h9⟩ := h2 vs fr env (resMs (m' :: ms) y us) (resFs (m' :: ms) y us ++ Γ) w os (fun S w hΓ => hl S w (All.right hΓ)) (none_in hn) h7
  refine ⟨u :: us, by simpa using h5, ⟨h8, h6⟩, ?_⟩
  show St _ _ ((rmM m x u ++ resMs (m' :: ms) y us) ++ _) ((rmF m x u ++ resFs (m' :: ms) y us) ++ Γ) w
  rw [List.append_assoc, List.append_assoc]
  exact h9
 | [], _ :: _, _, h => by cases h
 | [_], [], _, h => by cases h
 | [_], _ :: _ :: _, _, h => by cases h
 | _ :: _ :: _, [], _, h => by cases h
 | _ :: _ :: _, [_], _, h => by cases h
theorem denF_s (hm : P.follows .mixedOrders = true) (hT : TTok P cf.tt) (hL : ELok P cf.tt) (hC : ∀ s ∈ cf.cs, SigOK P s) (hX : XOK P cf) {s : Sig} {fn : Func}
  (hf : P.funcs[s.f]? = some fn) (hb : fnB P s.f = true) (hk : s.bk = 0) (hM : ∀ x r, s.M x = some r -> denF cf fn s.dom s.cod x = some r) : SigOK P s := by
 refine ⟨hb, fun x r h vs hlen => ?_⟩
 rw [hk]
 show FnG P s.f vs.toArray (argMs s.dom x vs) (argFs P s.dom x vs) oneOr (fun us => resMs s.cod r us) (fun us => resFs s.cod r us) (fun us => us.length = s.cod.length)
 have h := hM x r h
 unfold denF at h
 split at h
 ·next c hc =>
  obtain ⟨ho, h⟩ := grd_s h
  rw [Bool.and_eq_true] at ho
  intro we Se F G w hst
  refine calls_wpD hf hc (by rw [hlen]; exact ho.2) fun rest => ?_
  refine den_s (fr := ⟨we, Se, F, G⟩) (N := Nd.of fn.ntmps) hm hT hL hC hX c ho.1 rfl (.inl rfl) h (fun t σ' hk Ds env w _ hR => ?_) ?_
  ·obtain ⟨hmk, hR⟩ := rel_take hR
   have fin : retD cf (frzD σ' fn.results.toList s.cod) fn.results.toList s.cod (fun y _ => some y) = some r -> ∀ a : Act, envOf a = env ->
     ∃ v, (results fn a.tmps).run P (takeW Ds w) = .ok v (takeW Ds w) /\ ∃ u : List Value, Ending.returned v = .returned (oneOr u) /\ u.length = s.cod.length /\ St we Se (resMs s.cod r u ++ F) (resFs s.cod r u ++ G) (takeW Ds w) := fun h a ha => by
    have hR1 := rel_frzD fn.results.toList s.cod hR
    generalize frzD σ' fn.results.toList s.cod = σ1 at h hR1
    obtain ⟨hB, vs, hst⟩ := hR1
    obtain ⟨y, os, e1, e2⟩ := retD_s hT h
    cases e1
    obtain ⟨us, h1, h2, h3⟩ := e2 vs ⟨we, Se, F, G⟩ env _ _ (fun S w hΓ t => gs_lk hΓ t) hst
    refine ⟨_, run_results (rs := fn.results.toList) (by rw [Array.toArray_toList]) (ha ▸ h2), us, rfl, h1, ?_⟩
    exact (St.dropM (B := MS vs (delos σ1.ob os)) h3).weak fun S w hΓ => All.append (All.left hΓ) (All.right (All.right hΓ))
   cases t with
   | n => exact ⟨.inl rfl, hmk, fin hk⟩
   | r => exact ⟨.inr rfl, hmk, fin hk⟩
   | x j => cases hk
  ·have e0 : ∀ j v, vs[j]? = some v -> vs.getD (0 + j) undef = v := fun j v hj => by
    rw [Nat.zero_add, List.getD_eq_getElem?_getD, hj]; rfl
   refine ⟨⟨fun e he => ?_, fun _ he => absurd he List.not_mem_nil, fun e he p hp => ?_, fun _ he => absurd he List.not_mem_nil⟩, fun o => vs.getD o undef, ?_⟩
   ·have := arg_ob e he; simpa using this
   ·have := arg_ref e he p hp; simpa using this
   ·have e1 : MS (fun o => vs.getD o undef) (argS s.dom x 0).2 = argMs s.dom x vs := arg_ms hlen e0
    show St we Se (MS _ (argS s.dom x 0).2 ++ ([] ++ F)) _ w
    rw [e1]
    exact hst.weak fun S w hΓ => All.append (arg_rs hlen (fun j v hj => ⟨e0 j v hj, L_zip hj⟩) (All.left hΓ)) (All.right hΓ)
 ·cases h
theorem pin_rs {S : Nat -> Prop} {pn : Nat -> Value} : ∀ {dom : List AM} {i : Nat}, (∀ j, j < dom.length -> env (i + j) = pn (i + j)) -> All S (RS P vs env (pinL pn dom i)) w
 | [], _, _ => trivial
 | a :: dom, i, h => by
  have ih : All S (RS P vs env (pinL pn dom (i + 1))) w := pin_rs fun j hj => by
   have := h (j + 1) (by simp only [List.length_cons]; omega)
   rw [show i + 1 + j = i + (j + 1) by omega]; exact this
  cases a with
  | own t E => exact ⟨h 0 (by simp), ih⟩
  | _ => exact ih
theorem pin_own {S : Nat -> Prop} {l : List Value} : ∀ {dom : List AM} {i : Nat} {us : List Value}, All S (RS P vs env (pinL (fun o => l.getD o undef) dom i)) w -> ResAll P w env (ownT dom i) us -> us = ownVs dom (l.drop i)
 | [], _, [], _, _ => rfl
 | [], _, _ :: _, _, h => h.elim
 | a :: dom, i, us, hA, h => by
  have e0 : (l.drop i).headD undef = l.getD i undef := by
   rw [List.headD_eq_head?_getD, List.head?_drop, List.getD_eq_getElem?_getD]
  have e1 : (l.drop i).tail = l.drop (i + 1) := by rw [List.tail_drop]
  cases a with
  | own t E =>
   cases us with
   | nil => exact h.elim
   | cons u us =>
    have h1 : env i = u := h.1
    have h2 : env i = l.getD i undef := hA.1
    have ih := pin_own (dom := dom) (i := i + 1) hA.2 h.2
    show u :: us = (l.drop i).headD undef :: ownVs dom (l.drop i).tail
    rw [e0, e1, <- ih, <- h1, h2]
  | d t =>
   have ih := pin_own (dom := dom) (i := i + 1) hA h
   show us = ownVs dom (l.drop i).tail
   rw [e1]; exact ih
  | q t =>
   have ih := pin_own (dom := dom) (i := i + 1) hA h
   show us = ownVs dom (l.drop i).tail
   rw [e1]; exact ih
  | fn d c =>
   have ih := pin_own (dom := dom) (i := i + 1) hA h
   show us = ownVs dom (l.drop i).tail
   rw [e1]; exact ih
theorem resAll_app : ∀ {a b : List ResultVar} {us : List Value}, ResAll P w env (a ++ b) us -> ResAll P w env a (us.take a.length) /\ ResAll P w env b (us.drop a.length)
 | [], b, us, h => ⟨trivial, h⟩
 | r :: a, b, [], h => h.elim
 | r :: a, b, u :: us, h => by
  obtain ⟨h1, h2⟩ := resAll_app (a := a) (b := b) h.2
  exact ⟨⟨h.1, h1⟩, h2⟩
theorem pin_ref {pn : Nat -> Value} : ∀ {dom : List AM} {i : Nat}, ∀ e ∈ pinL pn dom i, refO e.2.2 = none
 | [], _, e, he => absurd he List.not_mem_nil
 | a :: dom, i, e, he => by
  cases a with
  | own t E =>
   rcases List.mem_cons.1 (show e ∈ (i, 0, Dv.pin (pn i)) :: pinL pn dom (i + 1) from he) with rfl | he
   ·rfl
   ·exact pin_ref e he
  | d t => exact pin_ref (dom := dom) (i := i + 1) e he
  | q t => exact pin_ref (dom := dom) (i := i + 1) e he
  | fn d c => exact pin_ref (dom := dom) (i := i + 1) e he
theorem denG_s (hm : P.follows .mixedOrders = true) (hT : TTok P cf.tt) (hL : ELok P cf.tt) (hC : ∀ s ∈ cf.cs, SigOK P s) (hX : XOK P cf) {s : Sig} {fn : Func}
  (hf : P.funcs[s.f]? = some fn) (hb : fnB P s.f = true) (hM : ∀ pn x r, s.M x = some r -> denG cf fn s.dom s.cod s.bk pn x = some r) : SigOK P s := by
 refine ⟨hb, fun x r h vs hlen => ?_⟩
 have h := hM (fun o => vs.getD o undef) x r h
 unfold denG at h
 split at h
 ·next c hc =>
  obtain ⟨ho, h⟩ := grd_s h
  simp only [Bool.and_eq_true] at ho
  obtain ⟨⟨⟨⟨ho1, ho2⟩, ho3⟩, ho4⟩, ho5⟩ := ho
  have ho3 := beq_t ho3
  have ho5 : 0 < s.bk := Nat.blt_eq.mp ho5
  obtain ⟨b, hbk⟩ : ∃ b, s.bk = b + 1 := ⟨s.bk - 1, by omega⟩
  rw [hbk]
  intro we Se F G w hst
  refine calls_wpD hf hc (by rw [hlen]; exact ho2) fun rest => ?_
  have e0 : ∀ j v, vs[j]? = some v -> vs.getD (0 + j) undef = v := fun j v hj => by
   rw [Nat.zero_add, List.getD_eq_getElem?_getD, hj]; rfl
  refine den_s (fr := ⟨we, Se, F, G⟩) (N := Nd.of fn.ntmps) hm hT hL hC hX c ho1 rfl (.inl rfl) h (fun t σ' hk Ds env w _ hR => ?_) ?_
  ·obtain ⟨hmk, hR⟩ := rel_take hR
   have fin : retD cf (frzD σ' (fn.results.toList ++ ownT s.dom 0) s.cod) (fn.results.toList ++ ownT s.dom 0) s.cod (fun y _ => some y) = some r -> ∀ a : Act, envOf a = env ->
     ∃ v, (results fn a.tmps).run P (takeW Ds w) = .ok v (takeW Ds w) /\ ∃ u : List Value, Ending.returned v = .returned (outV (b + 1) s.cod.length u) /\ outOk s.dom vs (b + 1) s.cod.length u /\ St we Se (resMs s.cod r u ++ F) (resFs s.cod r u ++ G) (takeW Ds w) := fun h a ha => by
    obtain ⟨hB0, vs0, hst0⟩ := hR
    obtain ⟨S0, _, hΓ0⟩ := hst0.ex
    have hpin : All S0 (RS P vs0 env (pinL (fun o => vs.getD o undef) s.dom 0)) _ := All.left (All.right hΓ0)
    have hR0 : Rel P ⟨we, Se, F, G⟩ ⟨0, [], []⟩ σ' env (takeW Ds w) := ⟨⟨hB0.o1, fun _ he => absurd he List.not_mem_nil, hB0.r1, fun _ he => absurd he List.not_mem_nil⟩, vs0, hst0.weak fun S w ha => All.append (All.left ha) (All.right (All.right ha))⟩
    have hR1 := rel_frzD (fn.results.toList ++ ownT s.dom 0) s.cod hR0
    generalize frzD σ' (fn.results.toList ++ ownT s.dom 0) s.cod = σ1 at h hR1
    obtain ⟨hB, vs1, hst⟩ := hR1
    obtain ⟨y, os, e1, e2⟩ := retD_s hT h
    cases e1
    obtain ⟨us, h1, h2, h3⟩ := e2 vs1 ⟨we, Se, F, G⟩ env _ _ (fun S w hΓ t => gs_lk hΓ t) hst
    obtain ⟨h4, h5⟩ := resAll_app h2
    have hn : s.cod.length - (b + 1) = fn.results.toList.length := by omega
    have hback := pin_own hpin h5
    rw [List.drop_zero] at hback
    refine ⟨_, run_results (rs := fn.results.toList) (by rw [Array.toArray_toList]) (ha ▸ h4), us, ?_, ⟨h1, by rw [hn]; exact hback⟩, ?_⟩
    ·show Ending.returned _ = .returned (oneOr (us.take (s.cod.length - (b + 1))))
     rw [hn]
    ·exact (St.dropM (B := MS vs1 (delos σ1.ob os)) h3).weak fun S w hΓ => All.append (All.left hΓ) (All.right (All.right hΓ))
   cases t with
   | n => exact ⟨.inl rfl, hmk, fin hk⟩
   | r => exact ⟨.inr rfl, hmk, fin hk⟩
   | x j => cases hk
  ·refine ⟨⟨fun e he => ?_, fun _ he => absurd he List.not_mem_nil, fun e he p hp => ?_, fun e he p hp => ?_⟩, fun o => vs.getD o undef, ?_⟩
   ·have := arg_ob e he; simpa using this
   ·have := arg_ref e he p hp; simpa using this
   ·rw [pin_ref e he] at hp; cases hp
   ·have e1 : MS (fun o => vs.getD o undef) (argS s.dom x 0).2 = argMs s.dom x vs := arg_ms hlen e0
    show St we Se (MS _ (argS s.dom x 0).2 ++ ([] ++ F)) _ w
    rw [e1]
    refine hst.weak fun S w hΓ => All.append (arg_rs hlen (fun j v hj => ⟨e0 j v hj, L_zip hj⟩) (All.left hΓ)) (All.append (pin_rs fun j hj => ?_) (All.right hΓ))
    have hj2 : vs[j]? = some (vs[j]'(by omega)) := List.getElem?_eq_getElem (by omega)
    show L _ _ (0 + j) = vs.getD (0 + j) undef
    rw [e0 j _ hj2]
    exact L_zip hj2
 ·cases h
end
end Go.Proofs.YtmggkmchbdanfaaGreat
end

section
set_option linter.unusedVariables false
set_option linter.unusedSimpArgs false
namespace Go.Proofs.YtmggkmchbdanfaaGreat
section
variable {P : Program}
def zc : Ty -> List Value
 | .i => [.int .i64 0]
 | .u => [.int .u64 0]
 | .b => [.bool false]
 | .ch => [.int .u8 0]
 | .tx => [.string ByteArray.empty]
 | .l _ => [.slice none 0 0]
 | .p s t => zc s ++ zc t
 | .a k t => (List.replicate k (zc t)).flatten
theorem elems_z {α : Type} {e : ERep α} {S : Nat -> Prop} {w : World} {x : α} {c : List Value} (h : e.p S x c w) : ∀ k, Elems e S (List.replicate k x) (List.replicate k c).flatten w
 | 0 => rfl
 | k + 1 => ⟨c, _, rfl, h, elems_z h k⟩
theorem zc_s (S : Nat -> Prop) (w : World) : ∀ t : Ty, t.rep.p S t.z (zc t) w
 | .i => ⟨rfl, show (-9223372036854775808 : Int) <= 0 by decide, show (0 : Int) <= 9223372036854775807 by decide⟩
 | .u => ⟨rfl, show (0 : Nat) < 18446744073709551616 by decide⟩
 | .b => rfl
 | .ch => ⟨rfl, show (0 : Nat) < 256 by decide⟩
 | .tx => ⟨ByteArray.empty, rfl, rfl, by decide⟩
 | .l _ => ⟨_, rfl, SlP.nil⟩
 | .p s t => ⟨_, _, rfl, zc_s S w s, zc_s S w t⟩
 | .a k t => ⟨List.length_replicate, elems_z (zc_s S w t) k⟩
def stGot (P : Program) (t n : Nat) : (List (Option Nat) × List (Option (Nat × Bool × Nat))) × Option (List (Option (Nat × Nat))) := (((List.range n).map fun i => fldB P t i, (List.range n).map fun i => fldT P t i), match plB P t with
 | some a => some (a.toList.map some)
 | none => none)
def stWant (ty : Ty) (n : Nat) : (List (Option Nat) × List (Option (Nat × Bool × Nat))) × Option (List (Option (Nat × Nat))) := (((List.range n).map fun i => (fld n ty i).map (·.off), (List.range n).map fun i => (fld n ty i).map fun f => (f.off, f.f.rep.agg, f.f.n)), some ((List.range n).map fun i => (fld n ty i).map fun f => (f.off, f.f.n)))
def TKchk (P : Program) (t : TypeId) (ti : TI) : Prop := match ti.k with
 | .int k => P.underlying t = some (.int k)
 | .bool => P.underlying t = some .bool
 | .str => P.underlying t = some .string
 | .sl E => P.underlying t = some (.slice E) /\ ∃ e, ti.ty = .l e
 | .st n => ti.ty.rep.agg = true /\ stGot P t n = stWant ti.ty n
 | .ar k E => ti.ty.rep.agg = true /\ P.underlying t = some (.array k E)
theorem fld_lt : ∀ {n : Nat} {t : Ty} {i : Nat} {f : Fl t.D}, fld n t i = some f -> i < n
 | 0, _, _, _, h => by simp [fld] at h
 | 1, t, i, f, h => by
  simp only [fld] at h
  cases hb : Nat.beq i 0 <;> rw [hb] at h
  ·cases h
  ·rw [beq_t hb]; exact Nat.zero_lt_one
 | n + 2, .p s t, 0, f, h => Nat.succ_pos _
 | n + 2, .p s t, i + 1, f, h => by
  simp only [fld] at h
  split at h
  ·next f' hf => exact Nat.succ_lt_succ (fld_lt hf)
  ·cases h
 | n + 2, .i, _, _, h => by simp [fld] at h
 | n + 2, .u, _, _, h => by simp [fld] at h
 | n + 2, .b, _, _, h => by simp [fld] at h
 | n + 2, .l _, _, _, h => by simp [fld] at h
 | n + 2, .a _ _, _, _, h => by simp [fld] at h
 | n + 2, .ch, _, _, h => by simp [fld] at h
 | n + 2, .tx, _, _, h => by simp [fld] at h
theorem TKok.of {t : TypeId} {ti : TI} (h : TKchk P t ti) : TKok P t ti := by
 unfold TKchk at h
 unfold TKok
 split at h
 ·next h0 => simp only [h0]; exact h
 ·next h0 => simp only [h0]; exact h
 ·next h0 => simp only [h0]; exact h
 ·next h0 => simp only [h0]; exact h
 ·next n h0 =>
  simp only [h0]
  obtain ⟨h1, h⟩ := h
  have h2 := congrArg (fun q => q.1.1) h
  have h2b := congrArg (fun q => q.1.2) h
  have h3 := congrArg Prod.snd h
  simp only [stGot, stWant] at h2 h2b h3
  refine ⟨h1, fun i f hf => ?_, ?_, fun i f hf => ?_⟩
  rotate_left 2
  ·have := congrArg (fun l : List (Option (Nat × Bool × Nat)) => l[i]?) h2b
   simp only [List.getElem?_map, List.getElem?_range (fld_lt hf), Option.map_some, hf] at this
   simpa using this
  ·have := congrArg (fun l : List (Option Nat) => l[i]?) h2
   simp only [List.getElem?_map, List.getElem?_range (fld_lt hf), Option.map_some, hf] at this
   simpa using this
  ·cases hp : plB P t with
   | none =>
    rw [hp] at h3; cases h3
   | some a =>
    rw [hp] at h3
    simp only [Option.some.injEq] at h3
    obtain ⟨fs, h4, h5⟩ := plB_run hp
    refine ⟨fs, h4, a, h5, fun i f hf => ?_⟩
    have := congrArg (fun l : List (Option (Nat × Nat)) => l[i]?) h3
    simp only [List.getElem?_map, List.getElem?_range (fld_lt hf), Option.map_some, hf] at this
    rw [<- Array.getElem?_toList]
    cases hx : a.toList[i]? with
    | none => rw [hx] at this; cases this
    | some q => rw [hx] at this; simpa using this
 ·next h0 => simp only [h0]; exact h
theorem TIok.of {t : TypeId} {ti : TI} (h1 : tyB P t = some (ti.ty.rep.agg, ti.ty.n, ti.B, some (ti.ty.rep.val (zc ti.ty)))) (h2 : (Nat.blt 0 ti.B && Nat.blt 0 ti.ty.n) = true) (h3 : TKchk P t ti) : TIok P t ti := by
 rw [Bool.and_eq_true] at h2
 have hz := fun S w => zc_s S w ti.ty
 refine ⟨⟨_, (by rw [Ty.n_rep]; exact TyF.of h1), ?_, fun S w => ?_, fun s hs => by rw [hs]; rfl⟩, Nat.le_of_ble_eq_true h2.1, (by rw [Ty.n_rep]; exact Nat.le_of_ble_eq_true h2.2), TKok.of h3⟩
 ·rw [<- Array.length_toList, ERep.val_cells _ (hz (fun _ => True) default), ti.ty.rep.len (hz (fun _ => True) default)]
 ·rw [ERep.val_cells _ (hz S w)]; exact hz S w
theorem TTok.nil : TTok P [] := fun _ _ h => by cases h
theorem TTok.cons {t : TypeId} {ti : TI} {tt : List (Nat × TI)} (h : TIok P t ti) (k : TTok P tt) : TTok P ((t, ti) :: tt) := by
 intro t' ti' hf
 unfold fndA at hf
 cases hb : Nat.beq t t' <;> rw [hb] at hf
 ·exact k t' ti' hf
 ·cases hf; rw [<- beq_t hb]; exact h
theorem TTok.add {t : TypeId} {ti : TI} {tt : List (Nat × TI)} (h1 : tyB P t = some (ti.ty.rep.agg, ti.ty.n, ti.B, some (ti.ty.rep.val (zc ti.ty)))) (h2 : (Nat.blt 0 ti.B && Nat.blt 0 ti.ty.n) = true) (h3 : TKchk P t ti) (k : TTok P tt) : TTok P ((t, ti) :: tt) := TTok.cons (TIok.of h1 h2 h3) k
def elB (tt : List (Nat × TI)) : List (Nat × TI) -> Bool
 | [] => true
 | (_, ⟨.l s, .sl E, _⟩) :: r => (match fndA tt E with
  | some ti => (Ty.same ti.ty s).isSome
  | none => false) && elB tt r
 | _ :: r => elB tt r
theorem ELok.of' {tt : List (Nat × TI)} : ∀ {l : List (Nat × TI)}, elB tt l = true -> ∀ t s E B, fndA l t = some ⟨.l s, .sl E, B⟩ -> ∃ ti, fndA tt E = some ti /\ ti.ty = s
 | [], _, _, _, _, _, h => by cases h
 | (t', ti') :: r, h, t, s, E, B, hf => by
  have hr : elB tt r = true := by
   unfold elB at h
   split at h
   ·cases ‹_ :: _ = []›
   ·next hh => cases hh; rw [Bool.and_eq_true] at h; exact h.2
   ·next hh => cases hh; exact h
  unfold fndA at hf
  cases hb : Nat.beq t' t <;> rw [hb] at hf
  ·exact ELok.of' hr t s E B hf
  ·cases hf
   unfold elB at h
   simp only [Bool.and_eq_true] at h
   have h := h.1
   split at h
   ·next ti he =>
    refine ⟨ti, he, ?_⟩
    cases hs : Ty.same ti.ty s with
    | none => rw [hs] at h; cases h
    | some p => exact p.down
   ·cases h
theorem ELok.of {tt : List (Nat × TI)} (h : elB tt tt = true) : ELok P tt := fun t s E B => ELok.of' h t s E B
theorem EXok.nil : EXok P [] := fun _ _ h => by cases h
theorem EXok.add {f : Nat} {b : Bool} {ex : List (Nat × Bool)} {fn : Func} (h0 : P.funcs[f]? = some fn) (h1 : (fn.name == "runtime.NumGoroutine") = false) (h2 : fn.body = none) (h3 : (Extern.findNext fn).isNone = true)
  (h4 : b = true -> Extern.find fn = some (fun args => do
   let (x, y, c) <- Extern.MathBitsCarry.three "Add64" args
   pure (Extern.MathBitsCarry.pair ((x + y + c) % Extern.MathBitsCarry.m64) ((x + y + c) / Extern.MathBitsCarry.m64))))
  (h5 : b = false -> Extern.find fn = some (fun args => do
   let (x, y, b) <- Extern.MathBitsCarry.three "Sub64" args
   pure (Extern.MathBitsCarry.pair ((x + Extern.MathBitsCarry.m64 - y - b) % Extern.MathBitsCarry.m64) (if x < y + b then 1 else 0)))) (k : EXok P ex) : EXok P ((f, b) :: ex) := by
 intro f' b' hf
 unfold fndA at hf
 cases hb : Nat.beq f f' <;> rw [hb] at hf
 ·exact k f' b' hf
 ·cases hf; rw [<- beq_t hb]; exact ⟨fn, h0, h1, h2, h3, h4, h5⟩
theorem cN : ∀ s ∈ ([] : List Sig), SigOK P s := fun _ h => absurd h List.not_mem_nil
theorem cC {s : Sig} {l : List Sig} (h : SigOK P s) (k : ∀ s ∈ l, SigOK P s) : ∀ q ∈ s :: l, SigOK P q := fun x hx => by
 rcases List.mem_cons.1 hx with e | hx
 ·subst e; exact h
 ·exact k x hx
theorem sg0 {s : Sig} (hb : fnB P s.f = true) (hM : ∀ x, s.M x = none) : SigOK P s := ⟨hb, fun x r h => by rw [hM x] at h; cases h⟩
theorem XOK.of {tt : List (Nat × TI)} {ex : List (Nat × Bool)} {cs : List Sig} {an : An} {fu : Nat} (hX : EXok P ex) (hp : P = Tryz.prog) : XOK P ⟨tt, cs, an, fu, ex, [], [], []⟩ := ⟨hX, fun _ h => absurd h List.not_mem_nil, fun _ h => absurd h List.not_mem_nil, fun _ h => absurd h List.not_mem_nil, hp⟩
theorem sgP (hm : P.follows .mixedOrders = true) {tt : List (Nat × TI)} {ex : List (Nat × Bool)} (hT : TTok P tt) (hL : ELok P tt) (hX : EXok P ex) (hp : P = Tryz.prog) {cs : List Sig} (an : An) {fu : Nat} {s : Sig} {fn : Func} (hf : P.funcs[s.f]? = some fn) (hC : ∀ s ∈ cs, SigOK P s) (hb : fnB P s.f = true) (hk : s.bk = 0) (hM : ∀ x, denF ⟨tt, cs, an, fu, ex, [], [], []⟩ fn s.dom s.cod x = s.M x) : SigOK P s :=
 denF_s (cf := ⟨tt, cs, an, fu, ex, [], [], []⟩) hm hT hL hC (.of hX hp) hf hb hk fun x r h => (hM x).trans h
theorem sgG (hm : P.follows .mixedOrders = true) {tt : List (Nat × TI)} {ex : List (Nat × Bool)} (hT : TTok P tt) (hL : ELok P tt) (hX : EXok P ex) (hp : P = Tryz.prog) {cs : List Sig} (an : An) {fu : Nat} {s : Sig} {fn : Func} (hf : P.funcs[s.f]? = some fn) (hC : ∀ s ∈ cs, SigOK P s) (hb : fnB P s.f = true) (hM : ∀ pn x, denG ⟨tt, cs, an, fu, ex, [], [], []⟩ fn s.dom s.cod s.bk pn x = s.M x) : SigOK P s :=
 denG_s (cf := ⟨tt, cs, an, fu, ex, [], [], []⟩) hm hT hL hC (.of hX hp) hf hb fun pn x r h => (hM pn x).trans h
end
end Go.Proofs.YtmggkmchbdanfaaGreat
end

section
set_option linter.unusedVariables false
set_option linter.unusedSimpArgs false
namespace Go.Proofs.YtmggkmchbdanfaaGreat
def argT : (dom : List Ty) -> TsD dom -> Nat -> List (Nat × Nat × Dv)
 | [], _, _ => []
 | t :: r, x, i => (i, 0, .d t x.1) :: argT r x.2 (i + 1)
def endC (g : FuncId) (t : Nat) (σ : Sg) : Option (List PD) := match get ⟨0, [], []⟩ σ t 0 with
 | some (.fn f cs) => grd (Nat.beq f g) (some cs)
 | _ => none
def denC (cf : Cf) (fn : Func) (dom : List Ty) (g : FuncId) (x : TsD dom) : Option (List PD) := match fn.body, fn.results.toList with
 | some c, [.tmp t] => grd (okC fn.ntmps c && Nat.ble dom.length fn.ntmps) <| den cf c ⟨0, [], []⟩ ⟨0, argT dom x 0, []⟩ fun q σ => match q with
  | .r => endC g t σ
  | .n => endC g t σ
  | _ => none
 | _, _ => none
def endM (t : Ty) (E E1 : TypeId) (ix : List Nat) (lo n : Nat) (σ : Sg) : Option (List (List t.D)) := match get ⟨0, [], []⟩ σ 3 0 with
 | some (.mv o lo' n') => (match fndO σ.ob o with
  | some (.mat t' E' F' xss ix') => grd (Nat.beq E E' && Nat.beq E1 F') <| Ty.cast (.l (.l t')) (.l (.l t)) xss fun y => ck (lo' = lo /\ n' = n /\ ix' = ix) (some y)
  | _ => none)
 | _ => none
def denM (cf : Cf) (fn : Func) (t : Ty) (E E1 : TypeId) (pn : Value) (xss : List (List t.D)) (ix : List Nat) (r : Nat) (a p : Int) (lo n : Nat) : Option (List (List t.D)) := match fn.body, fn.results.toList with
 | some c, [] => grd (okC fn.ntmps c && Nat.ble 4 fn.ntmps) <| den cf c ⟨0, [(3, 0, .pin pn)], []⟩ ⟨1, [(0, 0, .rw 0 r), (1, 0, .d .i a), (2, 0, .d .i p), (3, 0, .mv 0 lo n)], [(0, .mat t E E1 xss ix)]⟩ fun q σ => match q with
  | .r => endM t E E1 ix lo n σ
  | .n => endM t E E1 ix lo n σ
  | _ => none
 | _, _ => none
section
variable {P : Program} {cf : Cf} {env : Env} {w : World}
theorem argT_rs {S : Nat -> Prop} {vs : Nat -> Value} : ∀ {dom : List Ty} {x : TsD dom} {i : Nat} {l : List Value}, l.length = dom.length -> (∀ j v, l[j]? = some v -> env (i + j) = v) -> All S (tsF dom x l) w -> All S (RS P vs env (argT dom x i)) w
 | [], _, _, _, _, _, _ => trivial
 | a :: dom, x, i, [], hl, _, _ => by cases hl
 | a :: dom, x, i, v :: l, hl, h, hA => by
  have ih : All S (RS P vs env (argT dom x.2 (i + 1))) w := argT_rs (l := l) (by simpa using hl) (fun j v hj => by
   have := h (j + 1) v (by simpa using hj)
   rw [show i + 1 + j = i + (j + 1) by omega]; exact this) hA.2
  have h0 : env i = v := h 0 v rfl
  have hA1 : (fV a.rep x.1 v).p S w := hA.1
  exact ⟨show (fV a.rep x.1 (env i)).p S w by rw [h0]; exact hA1, ih⟩
theorem argT_ref : ∀ {dom : List Ty} {x : TsD dom} {i : Nat}, ∀ e ∈ argT dom x i, refO e.2.2 = none
 | [], _, _, e, he => absurd he List.not_mem_nil
 | a :: dom, x, i, e, he => by
  rcases List.mem_cons.1 he with rfl | he
  ·rfl
  ·exact argT_ref e he
theorem denC_s (hm : P.follows .mixedOrders = true) (hT : TTok P cf.tt) (hL : ELok P cf.tt) (hC : ∀ s ∈ cf.cs, SigOK P s) (hX : XOK P cf) {s : CSig} {fn : Func}
  (hf : P.funcs[s.f]? = some fn) (hb : fnB P s.f = true) (hM : ∀ x, denC cf fn s.dom s.g x = some (s.mc x)) : CSigOK P s := by
 refine ⟨hb, fun x vs hlen => FnG.plain ?_⟩
 have h := hM x
 unfold denC at h
 split at h
 ·next c t hc hrs =>
  obtain ⟨ho, h⟩ := grd_s h
  rw [Bool.and_eq_true] at ho
  intro we Se F G w hst
  refine calls_wpD hf hc (by rw [hlen]; exact ho.2) fun rest => ?_
  refine den_s (fr := ⟨we, Se, F, G⟩) (N := Nd.of fn.ntmps) hm hT hL hC hX c ho.1 rfl (.inl rfl) h (fun q σ' hk Ds env w _ hR => ?_) ?_
  ·obtain ⟨hmk, hR⟩ := rel_take hR
   have fin : endC s.g t σ' = some (s.mc x) -> ∀ a : Act, envOf a = env ->
     ∃ v, (results fn a.tmps).run P (takeW Ds w) = .ok v (takeW Ds w) /\ ∃ u : Value, Ending.returned v = .returned u /\ True /\ St we Se ([] ++ F) ([cloF s.g (s.mc x) u] ++ G) (takeW Ds w) := fun h a ha => by
    unfold endC at h
    split at h
    ·next f cs hg =>
     obtain ⟨hfg, h1⟩ := grd_s h
     have hfg := beq_t hfg
     subst hfg
     cases h1
     obtain ⟨hB, vs', hst'⟩ := hR
     have hst2 : St we Se (MS vs' σ'.ob ++ F) (RS P vs' env σ'.rg ++ ([] ++ G)) (takeW Ds w) := hst'
     refine ⟨_, run_results (rs := [.tmp t]) (vs := [env t]) (by rw [<- hrs, Array.toArray_toList]) (ha ▸ ⟨rfl, trivial⟩), env t, rfl, trivial, ?_⟩
     have h3 := St.dropM (A := []) (B := MS vs' σ'.ob) (C := F) (by simpa using hst2)
     refine h3.weak fun S w hΓ => ⟨?_, ?_⟩
     ·exact gs_lk (fr := ⟨we, Se, F, G⟩) (cx := ⟨0, [], []⟩) (show All S (GS P vs' env ⟨we, Se, F, G⟩ ⟨0, [], []⟩ σ') w from hΓ) t 0 _ hg
     ·exact All.right hΓ
    ·cases h
   cases q with
   | n => exact ⟨.inl rfl, hmk, fin hk⟩
   | r => exact ⟨.inr rfl, hmk, fin hk⟩
   | x j => cases hk
  ·refine ⟨⟨fun _ he => absurd he List.not_mem_nil, fun _ he => absurd he List.not_mem_nil, fun e he p hp => ?_, fun _ he => absurd he List.not_mem_nil⟩, fun _ => undef, ?_⟩
   ·rw [argT_ref e he] at hp; cases hp
   ·show St we Se ([] ++ ([] ++ F)) _ w
    exact hst.weak fun S w hΓ => All.append (argT_rs hlen (fun j v hj => L_zip hj) (All.left hΓ)) (All.right hΓ)
 ·cases h
theorem mt_len {α : Type} {e : ERep α} {E E1 : TypeId} {u : Value} {xss : List (List α)} {ix : List Nat} {S : Nat -> Prop} (h : (mMt e E E1 u xss ix).p S w) : ∀ a k c, outW u = .slice a k c -> a.isSome = true -> k = ix.length := by
 intro a k c h1 h2
 rcases mo_shape (mt_s h).2.1 with ⟨hv, _⟩ | ⟨b, cap, hv, _⟩
 ·rw [h1] at hv; cases hv; cases h2
 ·rw [h1] at hv; cases hv; rfl
theorem get_any {cx σ : Sg} {t i : Nat} {d : Dv} (h : get ⟨0, [], []⟩ σ t i = some d) : get cx σ t i = some d := by
 unfold get at h ⊢
 split at h
 ·exact h
 ·cases h
theorem denM_s (hm : P.follows .mixedOrders = true) (hT : TTok P cf.tt) (hL : ELok P cf.tt) (hC : ∀ s ∈ cf.cs, SigOK P s) (hX : XOK P cf) {s : MSig} {fn : Func}
  (hf : P.funcs[s.f]? = some fn) (hb : fnB P s.f = true) (hM : ∀ pn xss ix r a p lo n z, s.M xss ix r a p lo n = some z -> denM cf fn s.t s.E s.E1 pn xss ix r a p lo n = some z) : MSigOK P s := by
 refine ⟨hb, fun xss ix r a p lo n z hz u hr hv hru hvu hai hpi we Se F G w hst => ?_⟩
 have h := hM hv xss ix r a p lo n z hz
 unfold denM at h
 split at h
 ·next c hc hrs =>
  obtain ⟨ho, h⟩ := grd_s h
  rw [Bool.and_eq_true] at ho
  have hlen0 : ∀ a k c, outW u = .slice a k c -> a.isSome = true -> k = ix.length := mut_frame hst (i := 0) rfl fun S hp => mt_len hp
  refine calls_wpD (args := [hr, .int .i64 a, .int .i64 p, hv]) hf hc ho.2 fun rest => ?_
  refine den_s (fr := ⟨we, Se, F, G⟩) (N := Nd.of fn.ntmps) hm hT hL hC hX c ho.1 rfl (.inl rfl) h (fun q σ' hk Ds env w _ hR => ?_) ?_
  ·obtain ⟨hmk, hR⟩ := rel_take hR
   have fin : endM s.t s.E s.E1 ix lo n σ' = some z -> ∀ a : Act, envOf a = env ->
     ∃ v, (results fn a.tmps).run P (takeW Ds w) = .ok v (takeW Ds w) /\ ∃ v' u', Ending.returned v = .returned v' /\ outW u' = outW u /\ St we Se (mMt s.t.rep s.E s.E1 u' z ix :: F) G (takeW Ds w) := fun h a ha => by
    unfold endM at h
    split at h
    ·next o lo' n' hg =>
     split at h
     ·next t' E' F' zss ix' ho =>
      obtain ⟨hE, h1⟩ := grd_s h
      rw [Bool.and_eq_true] at hE
      have hE1 := beq_t hE.1
      have hE2 := beq_t hE.2
      subst hE1 hE2
      obtain ⟨e, h2⟩ := cast_s h1
      cases e
      obtain ⟨⟨rfl, rfl, rfl⟩, h3⟩ := ck_s h2
      cases h3
      obtain ⟨hB, vs', hst'⟩ := hR
      obtain ⟨S0, _, hΓ0⟩ := hst'.ex
      have hpin : env 3 = hv := (All.left (All.right hΓ0)).1
      have hmv : MvV (outW (vs' o)) lo' n' (env 3) := gs_lk hΓ0 3 0 _ (get_any hg)
      rw [hpin] at hmv
      have h2 : St we Se (mMt s.t.rep s.E s.E1 (vs' o) zss ix' :: OS vs' ⟨we, Se, F, G⟩ ⟨0, [(3, 0, .pin hv)], []⟩ (delo σ'.ob o)) (GS P vs' env ⟨we, Se, F, G⟩ ⟨0, [(3, 0, .pin hv)], []⟩ σ') (takeW Ds w) := os_out ho hst'
      have hlen1 : ∀ a k c, outW (vs' o) = .slice a k c -> a.isSome = true -> k = ix'.length := mut_frame h2 (i := 0) rfl fun S hp => mt_len hp
      refine ⟨_, run_results (rs := []) (vs := []) (by rw [<- hrs, Array.toArray_toList]) trivial, _, vs' o, rfl, hmv.same hvu hlen1 hlen0, ?_⟩
      have h3 : St we Se ([mMt s.t.rep s.E s.E1 (vs' o) zss ix'] ++ (MS vs' (delo σ'.ob o) ++ F)) (GS P vs' env ⟨we, Se, F, G⟩ ⟨0, [(3, 0, .pin hv)], []⟩ σ') (takeW Ds w) := h2
      exact (St.dropM h3).weak fun S w hΓ => All.right (All.right hΓ)
     ·cases h
    ·cases h
   cases q with
   | n => exact ⟨.inl rfl, hmk, fin hk⟩
   | r => exact ⟨.inr rfl, hmk, fin hk⟩
   | x j => cases hk
  ·refine ⟨⟨fun e he => ?_, fun _ he => absurd he List.not_mem_nil, fun e he q hq => ?_, fun e he q hq => ?_⟩, fun _ => u, ?_⟩
   ·obtain rfl := List.mem_singleton.1 he
    exact Nat.zero_lt_one
   ·simp only [List.mem_cons, List.not_mem_nil, or_false] at he
    rcases he with rfl | rfl | rfl | rfl <;> cases hq <;> exact Nat.zero_lt_one
   ·obtain rfl := List.mem_singleton.1 he
    cases hq
   ·refine hst.weak fun S w hΓ => ⟨hru, i64_fV hai, i64_fV hpi, hvu, rfl, hΓ⟩
 ·cases h
end
end Go.Proofs.YtmggkmchbdanfaaGreat
end

section
set_option linter.unusedVariables false
set_option linter.unusedSimpArgs false
namespace Go.Proofs.YtmggkmchbdanfaaGreat
theorem ext_K {ι : Type _} {R : Type} (S : ι -> Tg × Sg) (f : ι -> Option R) (inj : ∀ i j, S i = S j -> f i = f j) : ∃ K : Tg -> Sg -> Option R, (∀ i, K (S i).1 (S i).2 = f i) /\ ∀ t σ r, K t σ = some r -> ∃ i, S i = (t, σ) /\ f i = some r := by
 classical
 refine ⟨fun t σ => if h : ∃ i, S i = (t, σ) then f h.choose else none, fun i => ?_, fun t σ r h => ?_⟩
 ·have h : ∃ j, S j = ((S i).1, (S i).2) := ⟨i, rfl⟩
  simp only [dif_pos h]
  exact inj _ _ h.choose_spec
 ·by_cases h1 : ∃ i, S i = (t, σ)
  ·simp only [dif_pos h1] at h
   exact ⟨_, h1.choose_spec, h⟩
  ·simp only [dif_neg h1] at h
   cases h
def chS (E : TypeId) {X Y : Type} (mX : X -> Value -> MF) (mY : Y -> Value -> MF) (g : List Int -> X -> Option (List Int × (X ⊕ Y))) (n all : Int) (x : X) (xs : List Int) : Sg :=
 ⟨2, [(4, 0, .ow 1), (0, 0, .yd 0), (1, 0, .q .i n), (2, 0, .q .i all)], [(1, .own .i E xs), (0, .hid .i E X Y mX mY g x)]⟩
section
variable {P : Program} {fr : Fr} {σ : Sg} {env : Env} {w : World} {E : TypeId} {X Y : Type} {mX : X -> Value -> MF} {mY : Y -> Value -> MF} {g : List Int -> X -> Option (List Int × (X ⊕ Y))} {n all : Int} {x : X} {y : Y} {xs : List Int} {o p : Nat}
theorem ch_re (h4 : get ⟨0, [], []⟩ σ 4 0 = some (.ow p)) (h0 : get ⟨0, [], []⟩ σ 0 0 = some (.yd o)) (h1 : get ⟨0, [], []⟩ σ 1 0 = some (.q .i n)) (h2 : get ⟨0, [], []⟩ σ 2 0 = some (.q .i all)) (ho : fndO σ.ob o = some (.hid .i E X Y mX mY g x)) (hp : fndO σ.ob p = some (.own .i E xs))
  (hne : Nat.beq o p = false) (h : Rel P fr ⟨0, [], []⟩ σ env w) : Rel P fr ⟨0, [], []⟩ (chS E mX mY g n all x xs) env w := by
 obtain ⟨hB, vs, hst⟩ := h
 have h5 := os_out2 hne ho hp hst
 refine ⟨⟨fun e he => ?_, fun _ he => absurd he List.not_mem_nil, fun e he q hq => ?_, fun _ he => absurd he List.not_mem_nil⟩, fun k => if k = 0 then vs o else vs p, ?_⟩
 ·simp only [chS, List.mem_cons, List.not_mem_nil, or_false] at he ⊢
  rcases he with rfl | rfl <;> simp
 ·simp only [chS, List.mem_cons, List.not_mem_nil, or_false] at he ⊢
  rcases he with rfl | rfl | rfl | rfl <;> cases hq <;> simp
 ·have h6 : St fr.we fr.Se ([moF vs (o, .hid .i E X Y mX mY g x), moF vs (p, .own .i E xs)] ++ (MS vs (delo (delo σ.ob o) p) ++ fr.F)) (GS P vs env fr ⟨0, [], []⟩ σ) w := h5
  have h7 : St fr.we fr.Se ([moF vs (p, .own .i E xs), moF vs (o, .hid .i E X Y mX mY g x)] ++ fr.F) (GS P vs env fr ⟨0, [], []⟩ σ) w := (St.dropM h6).perm (List.Perm.swap ..)
  refine h7.weak fun S w ha => ⟨?_, ?_, ?_, ?_, ?_⟩
  ·exact gs_lk ha 4 0 _ h4
  ·exact gs_lk ha 0 0 _ h0
  ·exact gs_lk ha 1 0 _ h1
  ·exact gs_lk ha 2 0 _ h2
  ·exact All.right (All.right ha)
theorem ch_hid {t : Ty} {g : List t.D -> X -> Option (List t.D × (X ⊕ Y))} (ho : fndO σ.ob o = some (.hid t E X Y mX mY g x)) (h : Rel P fr ⟨0, [], []⟩ σ env w) : ∃ u', St fr.we fr.Se (mX x u' :: fr.F) fr.G w := by
 obtain ⟨hB, vs, hst⟩ := h
 obtain ⟨_, h2⟩ := St.unpr (St.grp.1 (os_out ho hst))
 have h3 : St fr.we fr.Se ([mX x ((hvW (vs o)).headD undef)] ++ (MS vs (delo σ.ob o) ++ fr.F)) (GS P vs env fr ⟨0, [], []⟩ σ) w := h2
 exact ⟨_, (St.dropM h3).weak fun S w ha => All.right (All.right ha)⟩
theorem ch_hiy (ho : fndO σ.ob o = some (.hiy Y mY y)) (h : Rel P fr ⟨0, [], []⟩ σ env w) : ∃ u', St fr.we fr.Se (mY y u' :: fr.F) fr.G w := by
 obtain ⟨hB, vs, hst⟩ := h
 have h2 := os_out ho hst
 have h3 : St fr.we fr.Se ([mY y ((hvW (vs o)).headD undef)] ++ (MS vs (delo σ.ob o) ++ fr.F)) (GS P vs env fr ⟨0, [], []⟩ σ) w := h2
 exact ⟨_, (St.dropM h3).weak fun S w ha => All.right (All.right ha)⟩
end
end Go.Proofs.YtmggkmchbdanfaaGreat
end

section
set_option linter.unusedVariables false
set_option linter.unusedSimpArgs false
namespace Go.Proofs.YtmggkmchbdanfaaGreat
section
variable {P : Program}
theorem fn_fnG {U : Type} {f : FuncId} {args : Array Value} {Γ : List FF} {val : U -> Value} {facts : U -> List FF} {ok : U -> Prop} (h : Fn P f args Γ val facts ok) : FnG P f args [] Γ val (fun _ => []) facts ok := by
 rintro we Se F G w ⟨h1, h2, h3, S, h4, h5, h6, h7, h8⟩
 refine (h w S h5 (All.left h8)).mono ?_
 rintro e w' ⟨u, e1, e2, e3, e4⟩
 exact ⟨u, e1, e2, h1.trans e3, h2, h3, S, h4, fun k hk => h5 k (Nat.le_trans e3.size hk), h6, AllM.keep e3.to (fun m hm i hi => e3.block i (AllM.lt h7 m hm i hi) trivial) h7, All.append e4 (All.keep e3.to (All.right h8))⟩
theorem FnG.to {U V : Type} {f : FuncId} {args : Array Value} {ms : List MF} {Γ : List FF} {val : U -> Value} {own : U -> List MF} {facts : U -> List FF} {ok : U -> Prop} {val' : V -> Value} {own' : V -> List MF} {facts' : V -> List FF} {ok' : V -> Prop}
  (h : FnG P f args ms Γ val own facts ok) (g : U -> V) (h1 : ∀ u, val u = val' (g u)) (h2 : ∀ u, own u = own' (g u)) (h3 : ∀ u, ok u -> ok' (g u)) (h4 : ∀ u, ok u -> ∀ S w, All S (facts u) w -> All S (facts' (g u)) w) : FnG P f args ms Γ val' own' facts' ok' := by
 intro we Se F G w hst
 refine (h we Se F G w hst).mono ?_
 rintro e w' ⟨u, e1, e2, e3⟩
 exact ⟨g u, by rw [e1, h1], h3 u e2, by rw [<- h2]; exact e3.weak fun S w ha => All.append (h4 u e2 S w (All.left ha)) (All.right ha)⟩
theorem sig_d1 {f : FuncId} {s t : Ty} {M : s.D -> Option t.D} (hb : fnB P f = true) (h : ∀ x r v, M x = some r -> Fn P f [v].toArray [fV s.rep x v] (fun u : Value => u) (fun u => [fV t.rep r u]) (fun _ => True)) : SigOK P ⟨f, [.d s], [.d t], fun x => M x.1, 0⟩ := by
 refine ⟨hb, fun x r hM vs hl => ?_⟩
 match vs, hl with
 | [v], _ => exact (fn_fnG (h x.1 r v hM)).to (fun u => [u]) (fun _ => rfl) (fun _ => rfl) (fun _ _ => rfl) fun u _ S w ha => ha
theorem sig_ui {f : FuncId} {M : Nat -> Option Int} (hb : fnB P f = true) (h : ∀ x r, x < 18446744073709551616 -> M x = some r -> Fn P f [.int .u64 (x : Int)].toArray [] (fun _ : Unit => .int .i64 r) (fun _ => []) (fun _ => InR r)) : SigOK P ⟨f, [.d .u], [.d .i], fun x => M x.1, 0⟩ := by
 refine ⟨hb, fun x r hM vs hl => ?_⟩
 match vs, hl with
 | [v], _ =>
  intro we Se F G w hst
  obtain ⟨S0, _, hΓ⟩ := hst.ex
  obtain ⟨hv, hx⟩ := fV_u64 (show (fV eU x.1 v).p S0 w from hΓ.1)
  have := fn_fnG (h x.1 r hx hM)
  rw [<- hv] at this
  have h2 : FnG P f [v].toArray [] [] oneOr (fun us => resMs [RM.d .i] r us) (fun us => resFs [RM.d .i] r us) (fun us => us.length = 1) := this.to (fun _ => [.int .i64 r]) (fun _ => rfl) (fun _ => rfl) (fun _ _ => rfl) fun u hu S w ha => ⟨i64_fV hu, trivial⟩
  exact h2 we Se F G w (hst.weak fun S w ha => ha.2)
end
end Go.Proofs.YtmggkmchbdanfaaGreat
end

section
set_option linter.unusedVariables false
set_option linter.unusedSimpArgs false
namespace Go.Proofs.YtmggkmchbdanfaaGreat
section
variable {P : Program}
theorem Ext.of_below {w w' : World} (h : RowKit.Below w.heap.size w w') : Ext w w' := ⟨h.os, h.tape, h.output, h.size, fun k hk _ => h.block k hk⟩
def joinT (xs : List (List Nat)) (sep : List Nat) : Option (List Nat) := ck (xs.length <= 140737488355328) <| ck ((sep.intercalate xs).length <= 140737488355328) <| some (sep.intercalate xs)
theorem elems_tx {S : Nat -> Prop} {w : World} : ∀ {xs : List (List Nat)} {cs : List Value}, Elems eTx S xs cs w -> ∃ bs : List ByteArray, cs = bs.map Value.string /\ bs.map bytesN = xs
 | [], cs, h => ⟨[], h, rfl⟩
 | x :: xs, cs, ⟨c, r, h1, h2, h3⟩ => by
  obtain ⟨bs, e1, e2⟩ := elems_tx h3
  obtain ⟨b, e3, e4, _⟩ := h2
  exact ⟨b :: bs, by rw [h1, e3, e1]; rfl, by rw [List.map_cons, e4, e2]⟩
theorem inter_map {α β : Type} (f : α -> β) (s : List α) : ∀ X : List (List α), (s.intercalate X).map f = (s.map f).intercalate (X.map (List.map f))
 | [] => by simp [List.intercalate]
 | [x] => by simp [List.intercalate]
 | x :: y :: r => by
  have ih := inter_map f s (y :: r)
  simp only [List.intercalate, List.map_cons, List.intersperse_cons_cons, List.flatten_cons, List.map_append] at ih ⊢
  rw [ih]
theorem join_bytes (bs : List ByteArray) (s : ByteArray) : bytesN ⟨(Lib.join (bs.map (·.data.toList)) s.data.toList).toArray⟩ = (bytesN s).intercalate (bs.map bytesN) := by
 show ((Lib.join (bs.map (·.data.toList)) s.data.toList).toArray.toList).map UInt8.toNat = _
 rw [List.toList_toArray]
 unfold Lib.join
 rw [inter_map, List.map_map]
 rfl
theorem sig_join {f : FuncId} (hb : fnB P f = true)
  (h0 : ∀ (a : Option Addr) (c : Nat) (sep : ByteArray) (w : World), Calls P f #[.slice a 0 c, .string sep] w fun e w' => e = .returned (.string ⟨#[]⟩) /\ w' = w)
  (h1 : ∀ (bk o c : Nat) (xs : List ByteArray) (sep : ByteArray) (w : World), (∀ (j : Nat) x, xs[j]? = some x -> w.cell? ⟨bk, o + j, none⟩ = some (.string x)) -> bk < w.heap.size -> xs.length <= 140737488355328 -> xs.length <= c -> (Lib.join (xs.map (·.data.toList)) sep.data.toList).length <= 140737488355328 ->
   Calls P f #[.slice (some ⟨bk, o, none⟩) xs.length c, .string sep] w fun e w' => e = .returned (.string ⟨(Lib.join (xs.map (·.data.toList)) sep.data.toList).toArray⟩) /\ RowKit.Below w.heap.size w w') :
  SigOK P ⟨f, [.d (.l .tx), .d .tx], [.d .tx], fun x => joinT x.1 x.2.1, 0⟩ := by
 refine ⟨hb, fun x r hM vs hl => ?_⟩
 match vs, hl with
 | [v, u], _ =>
  have hM : joinT x.1 x.2.1 = some r := hM
  unfold joinT at hM
  obtain ⟨k1, hM⟩ := ck_s hM
  obtain ⟨k2, hM⟩ := ck_s hM
  have hr : r = List.intercalate (α := Nat) x.2.1 x.1 := (Option.some.inj hM).symm
  have key : Fn P f #[v, u] [fV (eS eTx) x.1 v, fV eTx x.2.1 u] (fun _ : Unit => .string ⟨(r.map UInt8.ofNat).toArray⟩) (fun _ => [fV eTx r (.string ⟨(r.map UInt8.ofNat).toArray⟩)]) (fun _ => True) := by
   intro w Se hSe hΓ
   obtain ⟨hv, hu, _⟩ := hΓ
   obtain ⟨sb, rfl, e2, e3⟩ := fV_tx hu
   obtain ⟨ao, cap, rfl, hc1, hc2, h⟩ := fV_slice.1 hv
   have fin : ∀ (t : List UInt8) (w' : World), Ext w w' -> t.map UInt8.toNat = r -> FnQ Se w (fun _ : Unit => .string ⟨(r.map UInt8.ofNat).toArray⟩) (fun _ => [fV eTx r (.string ⟨(r.map UInt8.ofNat).toArray⟩)]) (fun _ => True) (.returned (.string ⟨t.toArray⟩)) w' := by
    intro t w' hx ht
    have e5 : t = r.map UInt8.ofNat := by
     rw [<- ht, List.map_map]
     conv => lhs; rw [<- List.map_id t]
     exact List.map_congr_left fun b _ => by simp
    rw [<- e5]
    refine ⟨(), rfl, trivial, hx, tx_fV ?_ ?_, trivial⟩
    ·unfold bytesN
     simpa using ht
    ·have h6 := bytesN_len ⟨t.toArray⟩
     have h7 : (bytesN ⟨t.toArray⟩).length = r.length := by unfold bytesN; rw [<- ht]
     have h8 : r.length <= 140737488355328 := by rw [hr]; exact k2
     omega
   rcases h with h | ⟨b, o, cs, rfl, hs, hat, hel⟩
   ·have h : x.1 = ([] : List (List Nat)) := h
    have hr0 : r = [] := by rw [hr, h]; rfl
    rw [h]
    refine (h0 ao cap sb w).mono ?_
    rintro e w' ⟨rfl, rfl⟩
    exact fin [] w' (Keeps.refl _ _) hr0.symm
   ·obtain ⟨bs, e4, e5⟩ := elems_tx hel
    have hlen : bs.length = List.length (α := List Nat) x.1 := by rw [<- e5, List.length_map]
    have hj := join_bytes bs sb
    rw [e2, e5] at hj
    have hjl : (Lib.join (bs.map (·.data.toList)) sb.data.toList).map UInt8.toNat = r := by
     rw [hr, <- hj]
     unfold bytesN
     simp
    have := h1 b o cap bs sb w (fun j y hy => hat.2 j (.string y) (by rw [e4, List.getElem?_map, hy]; rfl)) hat.1 (by rw [hlen]; exact k1) (by rw [hlen]; exact hc1) (by
     have h9 := congrArg List.length hjl
     rw [List.length_map] at h9
     rw [h9, hr]
     exact k2)
    rw [hlen] at this
    refine this.mono ?_
    rintro e w' ⟨rfl, hbl⟩
    exact fin _ w' (Ext.of_below hbl) hjl
  exact (fn_fnG key).to (fun _ => [.string ⟨(r.map UInt8.ofNat).toArray⟩]) (fun _ => rfl) (fun _ => rfl) (fun _ _ => rfl) fun _ _ S w ha => ha
end
end Go.Proofs.YtmggkmchbdanfaaGreat
end

section
namespace Go.Proofs
open Go.Shelf
def Tryz.lays156_ren : Go.Shelf.Ren := ⟨fun | 156 => 167 | 165 => 229 | 166 => 230 | 169 => 231 | 240 => 303 | 241 => 304 | 276 => 345 | 277 => 346 | n => n, fun | 31 => 171 | 9 => 9 | 3 => 3 | 4 => 4 | 0 => 0 | 20 => 20 | 72 => 222 | 76 => 226 | 70 => 220 | 37 => 218 | 75 => 225 | 127 => 270 | 164 => 299 | 5 => 5 | 80 => 228 | n => n, fun | n => n⟩
theorem Tryz.lays156 : Go.Proofs.Lays.n156 Tryz.prog Tryz.lays156_ren := {
 mixed := by kernel_rfl
 f156 := Tryz.func167.trans (congrArg some (by kernel_rfl))
 f165 := Tryz.func229.trans (congrArg some (by kernel_rfl))
 f166 := Tryz.func230.trans (congrArg some (by kernel_rfl))
 f169 := Tryz.func231.trans (congrArg some (by kernel_rfl))
 f240 := Tryz.func303.trans (congrArg some (by kernel_rfl))
 f241 := Tryz.func304.trans (congrArg some (by kernel_rfl))
 f276 := Tryz.func345.trans (congrArg some (by kernel_rfl))
 f277 := Tryz.func346.trans (congrArg some (by kernel_rfl))
 t0 := Tryz.underlying0
 a0 := Tryz.isAgg0
 z0 := Tryz.sizeOf0
 v0 := Tryz.zeroValue0
 t3 := Tryz.underlying3
 a3 := Tryz.isAgg3
 z3 := Tryz.sizeOf3
 v3 := Tryz.zeroValue3
 t4 := Tryz.underlying4
 a4 := Tryz.isAgg4
 z4 := Tryz.sizeOf4
 v4 := Tryz.zeroValue4
 t9 := Tryz.underlying9
 a9 := Tryz.isAgg9
 z9 := Tryz.sizeOf9
 v9 := Tryz.zeroValue9
 t20 := Tryz.underlying20
 a20 := Tryz.isAgg20
 z20 := Tryz.sizeOf20
 v20 := Tryz.zeroValue20
 t31 := Tryz.underlying171
 a31 := Tryz.isAgg171
 z31 := Tryz.sizeOf171
 v31 := Tryz.zeroValue171
 t37 := Tryz.underlying218
 a37 := Tryz.isAgg218
 z37 := Tryz.sizeOf218
 v37 := Tryz.zeroValue218
 t70 := Tryz.underlying220
 a70 := Tryz.isAgg220
 z70 := Tryz.sizeOf220
 v70 := Tryz.zeroValue220
 t72 := Tryz.underlying222
 a72 := Tryz.isAgg222
 z72 := Tryz.sizeOf222
 v72 := Tryz.zeroValue222
 t75 := Tryz.underlying225
 a75 := Tryz.isAgg225
 z75 := Tryz.sizeOf225
 v75 := Tryz.zeroValue225
 t76 := Tryz.underlying226
 a76 := Tryz.isAgg226
 z76 := Tryz.sizeOf226
 v76 := Tryz.zeroValue226
 t127 := Tryz.underlying270
 a127 := Tryz.isAgg270
 z127 := Tryz.sizeOf270
 v127 := Tryz.zeroValue270
 t164 := Tryz.underlying299
 a164 := Tryz.isAgg299
 z164 := Tryz.sizeOf299
 v164 := Tryz.zeroValue299 }
theorem Tryz.Builder_Extra_156 : Builder.Extra Tryz.prog Tryz.lays156_ren := {
 sizeBuilder := by kernel_rfl
 liesBuilder := by kernel_rfl
 t5 := Tryz.underlying5
 a5 := Tryz.isAgg5
 z5 := Tryz.sizeOf5
 v5 := Tryz.zeroValue5
 infoByte := by kernel_rfl
 cellsByte := by kernel_rfl
 sizeByte := by kernel_rfl
 neB5 := by decide }
open Go.RowKit in
theorem Tryz.strings_Join_none (a : Option Addr) (c : Nat) (sep : ByteArray) (w : World) :
  Calls Tryz.prog 167 #[.slice a 0 c, .string sep] w fun e w' => e = .returned (.string ⟨#[]⟩) /\ w' = w := Any.strings_Join_none Tryz.lays156 Tryz.Builder_Extra_156 a c sep w
open Go.RowKit in
theorem Tryz.strings_Join (bk o c : Nat) (xs : List ByteArray) (sep : ByteArray) (w : World) (hcells : ∀ (j : Nat) x, xs[j]? = some x -> w.cell? ⟨bk, o + j, none⟩ = some (.string x)) (hbk : bk < w.heap.size) (hN : xs.length <= 140737488355328) (hcap : xs.length <= c) (hlen : (Lib.join (xs.map (·.data.toList)) sep.data.toList).length <= 140737488355328) :
  Calls Tryz.prog 167 #[.slice (some ⟨bk, o, none⟩) xs.length c, .string sep] w fun e w' => e = .returned (.string ⟨(Lib.join (xs.map (·.data.toList)) sep.data.toList).toArray⟩) /\ Below w.heap.size w w' := Any.strings_Join Tryz.lays156 Tryz.Builder_Extra_156 bk o c xs sep w hcells hbk hN hcap hlen
end Go.Proofs
end

