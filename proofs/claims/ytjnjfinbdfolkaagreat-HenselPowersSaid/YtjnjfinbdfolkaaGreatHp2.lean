/- What a proof needs: rules of walking, mirrors of functions and their plain laws. No condition. -/
import Derived.Test.YtjnjfinbdfolkaaGreatHp1
import Derived.Scope
import Derived.Lib.BitFns
import Derived.Test.YtjnjfinbdfolkaaGreatRows
section
set_option linter.unusedVariables false
set_option linter.unusedSimpArgs false
namespace Go.Proofs.YtjnjfinbdfolkaaGreat
def Kept (w0 : World) (S0 : Nat → Prop) (w : World) : Prop := w0.heap.size ≤ w.heap.size ∧ ∀ k, k < w0.heap.size → S0 k → w.heap[k]? = w0.heap[k]?
def ffK (w0 : World) (S0 : Nat → Prop) : FF where
  p S w := w0.heap.size ≤ w.heap.size ∧ ∀ k, k < w0.heap.size → S0 k → S k ∧ w.heap[k]? = w0.heap[k]?
  keep := fun h k => ⟨Nat.le_trans h.1 k.size, fun i hi hs => ⟨(h.2 i hi hs).1, (k.block i (Nat.lt_of_lt_of_le hi h.1) (h.2 i hi hs).1).trans (h.2 i hi hs).2⟩⟩
  sub := fun h hs => ⟨h.1, fun i hi h0 => ⟨hs i (Nat.lt_of_lt_of_le hi h.1) (h.2 i hi h0).1, (h.2 i hi h0).2⟩⟩
theorem kept_of {w0 w : World} {S0 S : Nat → Prop} (h : (ffK w0 S0).p S w) : Kept w0 S0 w := ⟨h.1, fun k hk hs => (h.2 k hk hs).2⟩
def TLS (P : Program) (ops : Array Oper) (K : World → Prop) : List Oper → (Env → World → Prop) → (Env → World → Prop) → Prop
  | [], A, B => ∀ env w, A env w → K w ∧ B env w
  | o :: r, A, B => ∃ M : Env → World → Prop, (∀ env w, A env w → K w ∧ wantedE ops env o = true ∧ OpR P o env w (fun v w' => M (put env o.dst v) w')) ∧ TLS P ops K r M B
theorem TLS_mono {P : Program} {ops : Array Oper} {K : World → Prop} {B : Env → World → Prop} {A A' : Env → World → Prop} (h : ∀ env w, A env w → A' env w) : ∀ {l : List Oper}, TLS P ops K l A' B → TLS P ops K l A B
  | [], k => fun env w ha => k env w (h env w ha)
  | _ :: _, ⟨M, h1, h2⟩ => ⟨M, fun env w ha => h1 env w (h env w ha), h2⟩
theorem TLS_ex {P : Program} {ops : Array Oper} {K : World → Prop} {B : Env → World → Prop} {ι : Type} : ∀ {l : List Oper} {A : ι → Env → World → Prop}, (∀ i, TLS P ops K l (A i) B) → TLS P ops K l (fun env w => ∃ i, A i env w) B
  | [], A, h => fun env w ⟨i, hi⟩ => h i env w hi
  | o :: r, A, h => by
    have h' : ∀ i, ∃ M : Env → World → Prop, (∀ env w, A i env w → K w ∧ wantedE ops env o = true ∧ OpR P o env w (fun v w' => M (put env o.dst v) w')) ∧ TLS P ops K r M B := h
    let M := fun i => Classical.choose (h' i)
    have hM := fun i => Classical.choose_spec (h' i)
    refine ⟨fun env w => ∃ i, M i env w, fun env w ⟨i, hi⟩ => ?_, TLS_ex (A := M) fun i => (hM i).2⟩
    obtain ⟨a, b, c⟩ := (hM i).1 env w hi
    exact ⟨a, b, c.mono fun v w' hv => ⟨i, hv⟩⟩
def TLc (P : Program) (ops : Array Oper) (K : World → Prop) (we : World) (Se : Nat → Prop) (ms : List MF) (Γ : List FF) (l : List Oper) (B : Env → World → Prop) (env : Env) : Prop :=
  TLS P ops K l (fun env' w => env' = env ∧ St we Se ms Γ w) B
section
variable {P : Program} {ops : Array Oper} {K : World → Prop} {we : World} {Se : Nat → Prop} {ms ms' : List MF} {Γ Γ' : List FF} {o : Oper} {l : List Oper} {B : Env → World → Prop} {env : Env}
theorem TLc_nil (hk : ∀ (S : Nat → Prop) (w : World), All S Γ w → K w) (h : ∀ w, St we Se ms Γ w → B env w) : TLc P ops K we Se ms Γ [] B env := by
  rintro env' w ⟨rfl, hw⟩
  obtain ⟨S, _, hS⟩ := hw.ex
  exact ⟨hk S w hS, h w hw⟩
theorem TLc_og {ι : Type} {val : ι → Value} {ms' : ι → List MF} {Γ' : ι → List FF} {ok : ι → Prop} (hk : ∀ (S : Nat → Prop) (w : World), All S Γ w → K w) (hw : wantedE ops env o = true) (h : OG P o env we Se ms Γ val ms' Γ' ok)
    (k : ∀ i, ok i → TLc P ops K we Se (ms' i) (Γ' i) l B (put env o.dst (val i))) : TLc P ops K we Se ms Γ (o :: l) B env := by
  refine ⟨fun env' w' => ∃ i : {i : ι // ok i}, env' = put env o.dst (val i.1) ∧ St we Se (ms' i.1) (Γ' i.1) w', ?_, TLS_ex fun i => k i.1 i.2⟩
  rintro env' w ⟨rfl, hst⟩
  obtain ⟨S, _, hS⟩ := hst.ex
  refine ⟨hk S w hS, hw, (h w hst).mono ?_⟩
  rintro v w' ⟨i, rfl, hi, hs⟩
  exact ⟨⟨i, hi⟩, rfl, hs⟩
theorem TLc_prune (live : List (Nat × Value)) (h : agree env live) (k : ∀ rest, TLc P ops K we Se ms Γ l B (L live rest)) : TLc P ops K we Se ms Γ l B env := by
  have := k env
  rwa [L_agree h] at this
theorem TLc_weak_st (hs : ∀ w, St we Se ms Γ w → St we Se ms' Γ' w) (k : TLc P ops K we Se ms' Γ' l B env) : TLc P ops K we Se ms Γ l B env :=
  TLS_mono (fun _ w h => ⟨h.1, hs w h.2⟩) k
end
def fget (l : List Oper) : List (Nat × Value) → Tmp → Option Value
  | [], _ => none
  | (i, v) :: r, t => match (opAt l i).dst with
    | some d => bif Nat.beq d t then some v else fget l r t
    | none => fget l r t
/-- the environment, once the values that float are there -/
def ide (l : List Oper) (fls : List (Nat × Value)) (env : Env) : Env := fun t => match fget l fls t with
  | some v => v
  | none => env t
def FlP (P : Program) (l : List Oper) (K : World → Prop) (env0 : Env) : List (Nat × Value) → List (Nat × Value) → Prop
  | _, [] => True
  | acc, (i, v) :: r => (∀ w, K w → (execOp (ev (ide l acc env0)) (opAt l i)).run P w = .ok (.value v) w) ∧ FlP P l K env0 (acc ++ [(i, v)]) r
def isDst (l : List Oper) (i : Nat) (t : Tmp) : Bool := match (opAt l i).dst with
  | some d => Nat.beq d t
  | none => false
def looks (l : List Oper) (i : Nat) : List Tmp := Oper.looksAt l.toArray (opAt l i)
def sepB (l : List Oper) : List Nat → Bool
  | [] => true
  | i :: r => ((i :: r).all fun j => (looks l i).all fun t => !isDst l j t) && sepB l r
def upB : List Nat → Bool
  | [] => true
  | [_] => true
  | a :: b :: r => Nat.blt a b && upB (b :: r)
def chainB (l : List Oper) : List Nat → Bool
  | [] => true
  | [_] => true
  | a :: b :: r => edgeB (opAt l b) a && chainB l (b :: r)
def floatOK (l : List Oper) (m : Nat) (C F : List Nat) : Bool :=
  drawOK l m && (Region.noSelect l.toArray && (upB F && (upB C && (sepB l F && (chainB l C &&
  (((List.range m).all fun i => (C.any (Nat.beq i)) != (F.any (Nat.beq i))) && ((C.all fun c => Nat.blt c m) && ((F.all fun i => Nat.blt i m && (opAt l i).guard.isNone && (match (opAt l i).dst with
    | some t => (List.range m).all (fun j => Nat.beq j i || !isDst l j t)
    | none => false) && (looks l i).all (fun t => C.all fun c => !isDst l c t)) &&
  (C.all fun c => F.all fun j => Nat.blt j c || (looks l c).all fun t => !isDst l j t)))))))))
section
variable {l : List Oper}
theorem isDst_iff {i : Nat} {t : Tmp} : isDst l i t = true ↔ (opAt l i).dst = some t := by
  unfold isDst
  cases h : (opAt l i).dst with
  | none => simp
  | some d =>
    simp only [Option.some.injEq]
    constructor
    · exact fun h => Nat.eq_of_beq_eq_true h
    · rintro rfl; exact Nat.beq_refl _
theorem fget_none {t : Tmp} : ∀ {fls : List (Nat × Value)}, (∀ x ∈ fls, (opAt l x.1).dst ≠ some t) → fget l fls t = none
  | [], _ => rfl
  | (i, v) :: r, h => by
    have h0 := h (i, v) (List.mem_cons_self ..)
    have ih := fget_none (fls := r) fun x hx => h x (List.mem_cons_of_mem _ hx)
    unfold fget
    cases hd : (opAt l i).dst with
    | none => exact ih
    | some d =>
      have : Nat.beq d t = false := beq_no fun e => h0 (by rw [hd, e])
      simp only [this, cond_false]; exact ih
theorem fget_some {t : Tmp} : ∀ {fls : List (Nat × Value)} {v : Value}, fget l fls t = some v → ∃ x ∈ fls, (opAt l x.1).dst = some t ∧ x.2 = v
  | (i, u) :: r, v, h => by
    unfold fget at h
    cases hd : (opAt l i).dst with
    | none => simp only [hd] at h; obtain ⟨x, a, b⟩ := fget_some h; exact ⟨x, List.mem_cons_of_mem _ a, b⟩
    | some d =>
      simp only [hd] at h
      cases hb : Nat.beq d t
      · rw [hb] at h; simp only [cond_false] at h; obtain ⟨x, a, b⟩ := fget_some h; exact ⟨x, List.mem_cons_of_mem _ a, b⟩
      · rw [hb] at h; simp only [cond_true, Option.some.injEq] at h
        exact ⟨(i, u), List.mem_cons_self .., by rw [hd, Nat.eq_of_beq_eq_true hb], h⟩
theorem fget_append {t : Tmp} : ∀ {a b : List (Nat × Value)}, (∀ x ∈ b, (opAt l x.1).dst ≠ some t) → fget l (a ++ b) t = fget l a t
  | [], b, h => by rw [List.nil_append, fget_none h]; rfl
  | (i, v) :: r, b, h => by
    have ih := fget_append (a := r) h
    rw [List.cons_append]
    unfold fget
    cases (opAt l i).dst with
    | none => exact ih
    | some d => show (bif Nat.beq d t then some v else fget l (r ++ b) t) = (bif Nat.beq d t then some v else fget l r t); rw [ih]
theorem upB_lt : ∀ {a : Nat} {F : List Nat}, upB (a :: F) = true → (∀ b ∈ F, a < b) ∧ upB F = true
  | a, [], _ => ⟨fun _ h => absurd h List.not_mem_nil, rfl⟩
  | a, b :: r, h => by
    unfold upB at h
    rw [Bool.and_eq_true] at h
    have hab : a < b := by have := h.1; simpa using this
    obtain ⟨h1, _⟩ := upB_lt h.2
    refine ⟨fun c hc => ?_, h.2⟩
    rcases List.mem_cons.1 hc with rfl | hc
    · exact hab
    · exact Nat.lt_trans hab (h1 c hc)
theorem upB_inj : ∀ {F : List Nat}, upB F = true → ∀ {vs : List Value} {i : Nat} {u v : Value}, (i, u) ∈ F.zip vs → (i, v) ∈ F.zip vs → u = v
  | [], _, vs, i, u, v, h, _ => by simp at h
  | a :: F, hu, [], i, u, v, h, _ => by simp at h
  | a :: F, hu, x :: vs, i, u, v, h1, h2 => by
    obtain ⟨hlt, hu'⟩ := upB_lt hu
    rw [List.zip_cons_cons] at h1 h2
    rcases List.mem_cons.1 h1 with e1 | h1 <;> rcases List.mem_cons.1 h2 with e2 | h2
    · cases e1; cases e2; rfl
    · cases e1; exact absurd (hlt _ (List.of_mem_zip h2).1) (Nat.lt_irrefl _)
    · cases e2; exact absurd (hlt _ (List.of_mem_zip h1).1) (Nat.lt_irrefl _)
    · exact upB_inj hu' h1 h2
/-- each value that floats is what it is wherever what it looks at is there -/
theorem FlP_pure {P : Program} {K : World → Prop} {env0 : Env} (hns : Region.noSelect l.toArray = true) : ∀ {F : List Nat} {vs : List Value} {acc : List (Nat × Value)}, sepB l F = true → (∀ i ∈ F, i < l.length) → FlP P l K env0 acc (F.zip vs) →
    ∀ i v, (i, v) ∈ F.zip vs → ∀ env w, K w → (∀ t ∈ looks l i, env t = ide l (acc ++ F.zip vs) env0 t) → (execOp (ev env) (opAt l i)).run P w = .ok (.value v) w
  | [], vs, acc, _, _, _, i, v, h => by simp at h
  | a :: F, [], acc, _, _, _, i, v, h => by simp at h
  | a :: F, x :: vs, acc, hs, hl, hf, i, v, h => by
    unfold sepB at hs
    rw [Bool.and_eq_true] at hs
    rw [List.zip_cons_cons] at hf h
    rcases List.mem_cons.1 h with e | h
    · cases e
      intro env w hK henv
      have hsep : ∀ t ∈ looks l a, ∀ y ∈ (a, x) :: F.zip vs, (opAt l y.1).dst ≠ some t := fun t ht y hy hc => by
        have h1 := List.all_eq_true.1 hs.1
        have hy1 : y.1 ∈ a :: F := by
          rcases List.mem_cons.1 hy with rfl | hy
          · exact List.mem_cons_self ..
          · exact List.mem_cons_of_mem _ (List.of_mem_zip hy).1
        have h2 := List.all_eq_true.1 (h1 y.1 hy1) t ht
        rw [isDst_iff.2 hc] at h2; cases h2
      rw [← hf.1 w hK]
      congr 1
      refine execOp_congr _ (fun cs b => Region.noSelect_spec hns a _ cs b (opAt_eq (hl a (List.mem_cons_self ..)))) fun y hy => ?_
      cases y with
      | tmp t =>
        have ht : t ∈ looks l a := List.mem_append_left _ (List.mem_filterMap.2 ⟨.tmp t, by simpa using hy, rfl⟩)
        show env t = ide l acc env0 t
        rw [henv t ht, List.zip_cons_cons]
        unfold ide
        rw [fget_append (hsep t ht)]
      | _ => rfl
    · have := FlP_pure (acc := acc ++ [(a, x)]) hns hs.2 (fun j hj => hl j (List.mem_cons_of_mem _ hj)) hf.2 i v h
      rw [List.append_assoc] at this
      simpa using this
end
section
variable {P : Program} {N : Nat} {we : World} {Se : Nat → Prop} {ms : List MF} {Γ : List FF} {Q : Qs} {env0 : Env} {l : List Oper}
theorem wanted_none {ops : Array Oper} {env : Env} {o : Oper} (h : o.guard = none) : wantedE ops env o = true := by
  unfold wantedE; rw [h]
theorem float_parts {m : Nat} {C F : List Nat} (h : floatOK l m C F = true) : drawOK l m = true ∧ Region.noSelect l.toArray = true ∧ upB F = true ∧ upB C = true ∧ sepB l F = true ∧ chainB l C = true ∧
    (∀ i, i < m → ((i ∈ C ∧ i ∉ F) ∨ (i ∉ C ∧ i ∈ F))) ∧ (∀ c ∈ C, c < m) ∧
    (∀ i ∈ F, i < m ∧ (opAt l i).guard = none ∧ (∃ t, (opAt l i).dst = some t ∧ ∀ j, j < m → j ≠ i → (opAt l j).dst ≠ some t) ∧ ∀ t ∈ looks l i, ∀ c ∈ C, (opAt l c).dst ≠ some t) ∧
    (∀ c ∈ C, ∀ j ∈ F, c ≤ j → ∀ t ∈ looks l c, (opAt l j).dst ≠ some t) := by
  unfold floatOK at h
  simp only [Bool.and_eq_true, List.all_eq_true] at h
  obtain ⟨h1, h2, h3, h4, h5, h6, h7, h8, h9, h10⟩ := h
  have hmem : ∀ (D : List Nat) (i : Nat), D.any (Nat.beq i) = true ↔ i ∈ D := fun D i => by
    rw [List.any_eq_true]
    constructor
    · rintro ⟨x, hx, hb⟩; rw [Nat.eq_of_beq_eq_true hb]; exact hx
    · exact fun hi => ⟨i, hi, Nat.beq_refl _⟩
  refine ⟨h1, h2, h3, h4, h5, h6, fun i hi => ?_, fun c hc => by simpa using h8 c hc, fun i hi => ?_, fun c hc j hj hcj t ht hd => ?_⟩
  · have := h7 i (List.mem_range.2 hi)
    rw [← hmem, ← hmem]
    revert this
    cases C.any (Nat.beq i) <;> cases F.any (Nat.beq i) <;> simp
  · obtain ⟨⟨⟨a1, a2⟩, a3⟩, a4⟩ := h9 i hi
    refine ⟨by simpa using a1, by simpa using a2, ?_, fun t ht c hc hd => ?_⟩
    · cases hd : (opAt l i).dst with
      | none => rw [hd] at a3; cases a3
      | some t =>
        rw [hd] at a3
        refine ⟨t, rfl, fun j hj hne hc => ?_⟩
        have := List.all_eq_true.1 a3 j (List.mem_range.2 hj)
        rw [beq_no hne, isDst_iff.2 hc] at this
        cases this
    · have := a4 t ht c hc
      rw [isDst_iff.2 hd] at this; cases this
  · have := h10 c hc j hj
    rw [blt_no hcj, Bool.false_or, List.all_eq_true] at this
    have := this t ht
    rw [isDst_iff.2 hd] at this; cases this
theorem chain_edges : ∀ {C : List Nat}, chainB l C = true → ∀ c, c + 1 < C.length → edgeB (opAt l (C.getD (c + 1) 0)) (C.getD c 0) = true
  | [], _, c, h => by simp at h
  | [_], _, c, h => by simp at h
  | a :: b :: r, h, 0, _ => by unfold chainB at h; rw [Bool.and_eq_true] at h; exact h.1
  | a :: b :: r, h, c + 1, hc => by
    unfold chainB at h; rw [Bool.and_eq_true] at h
    exact chain_edges h.2 c (by simpa using hc)
theorem fget_hit {t : Tmp} : ∀ {fls : List (Nat × Value)} {x : Nat × Value}, x ∈ fls → (opAt l x.1).dst = some t → fget l fls t ≠ none
  | (i, v) :: r, x, hx, hd => by
    unfold fget
    rcases List.mem_cons.1 hx with rfl | hx
    · simp only [hd, Nat.beq_refl, cond_true]; simp
    · have ih := fget_hit hx hd
      cases (opAt l i).dst with
      | none => exact ih
      | some d =>
        show (bif Nat.beq d t then some v else fget l r t) ≠ none
        cases Nat.beq d t
        · exact ih
        · simp
theorem sep_of : ∀ {F : List Nat}, sepB l F = true → upB F = true → ∀ i ∈ F, ∀ j ∈ F, i ≤ j → ∀ t ∈ looks l i, (opAt l j).dst ≠ some t
  | [], _, _, i, hi => absurd hi List.not_mem_nil
  | a :: r, hs, hu, i, hi => by
    intro j hj hij t ht hd
    obtain ⟨hlt, hu'⟩ := upB_lt hu
    unfold sepB at hs
    rw [Bool.and_eq_true] at hs
    rcases List.mem_cons.1 hi with rfl | hi2
    · have h2 := List.all_eq_true.1 (List.all_eq_true.1 hs.1 j hj) t ht
      rw [isDst_iff.2 hd] at h2; cases h2
    · rcases List.mem_cons.1 hj with rfl | hj2
      · have := hlt i hi2; omega
      · exact sep_of hs.2 hu' i hi2 j hj2 hij t ht hd
theorem mem_zip_of : ∀ {F : List Nat} {vs : List Value} {i : Nat}, vs.length = F.length → i ∈ F → ∃ v, (i, v) ∈ F.zip vs
  | a :: F, v :: vs, i, h, hi => by
    rcases List.mem_cons.1 hi with rfl | hi
    · exact ⟨v, List.mem_cons_self ..⟩
    · obtain ⟨u, hu⟩ := mem_zip_of (by simpa using h) hi
      exact ⟨u, List.mem_cons_of_mem _ hu⟩
  | a :: F, [], i, h, _ => by simp at h
  | [], _, i, _, hi => absurd hi List.not_mem_nil
theorem TLS_K {ops : Array Oper} {K : World → Prop} {B A : Env → World → Prop} : ∀ {r : List Oper}, TLS P ops K r A B → ∀ env w, A env w → K w
  | [], h, env, w, ha => (h env w ha).1
  | _ :: _, ⟨_, h, _⟩, env, w, ha => (h env w ha).1
theorem wantedE_congr {ops : Array Oper} {env env' : Env} {o : Oper} (h : ∀ t ∈ Oper.looksAt ops o, env t = env' t) : wantedE ops env o = wantedE ops env' o := by
  unfold wantedE
  cases hg : o.guard with
  | none => rfl
  | some gw =>
    obtain ⟨g, want⟩ := gw
    have : gd ops env g = gd ops env' g := by
      unfold gd
      cases hd : (ops[g]?).bind (·.dst) with
      | none => rfl
      | some d => simp only [h d (List.mem_append_right _ (by simp [hg, hd]))]
    simp only [this]
theorem OpR_congr {o : Oper} {env env' : Env} {w : World} {K : Value → World → Prop} {ops : Array Oper} (hs : ∀ cs b, o.op ≠ .select cs b) (h : ∀ t ∈ Oper.looksAt ops o, env t = env' t) (k : OpR P o env' w K) : OpR P o env w K := by
  have e : execOp (ev env) o = execOp (ev env') o := execOp_congr o hs fun y hy => by
    cases y with
    | tmp t => exact h t (List.mem_append_left _ (List.mem_filterMap.2 ⟨.tmp t, by simpa using hy, rfl⟩))
    | _ => rfl
  unfold OpR at *
  rw [e]; exact k
theorem put_ne {env : Env} {d : Option Tmp} {v : Value} {t : Tmp} (h : d ≠ some t) : put env d v t = env t := by
  cases d with
  | none => rfl
  | some dd =>
    have hne : ¬ t = dd := fun e => h (by rw [e])
    have : Nat.beq t dd = false := beq_no hne
    simp [put, L, this]
theorem put_eq {env : Env} {v : Value} {t : Tmp} : put env (some t) v t = v := by simp [put, L]
theorem getD_mem {C : List Nat} {j : Nat} (h : j < C.length) : C.getD j 0 ∈ C := by
  rw [List.getD_eq_getElem?_getD, List.getElem?_eq_getElem h]; exact List.getElem_mem h
theorem T_float {id : Nat} (m : Nat) (C F : List Nat) (hm : P.follows .mixedOrders = true) (hc : floatOK l m C F = true) (hd : (l.all fun o => okDst N o.dst) = true)
    (h : ∀ (w0 : World) (S0 : Nat → Prop), (∀ k, w0.heap.size ≤ k → S0 k) → AllM S0 ms w0 → All S0 Γ w0 → ∃ (vs : List Value) (Δ : List FF), vs.length = F.length ∧ All S0 Δ w0 ∧ FlP P l (Kept w0 S0) env0 [] (F.zip vs) ∧
      TLc P l.toArray (Kept w0 S0) we Se ms (Δ ++ (Γ ++ [ffK w0 S0])) (C.map (opAt l)) (fun env w => WpL P N l.toArray (l.drop m) Q env w) (ide l (F.zip vs) env0)) :
    T P N we Se ms Γ (.region id l.toArray true) Q env0 := by
  intro wI hstI a0 ha1 ha2 ha3
  obtain ⟨hdr, hns, hupF, hupC, hsep, hchn, hpart, hCm, hFm, hCF⟩ := float_parts hc
  obtain ⟨h0, h1, h2, h3⟩ := draw_parts hdr
  have hst := hstI.ext (Ext.drawn wI (wI.drawn + 1))
  refine wp_region_any hm ?_
  generalize hw0 : ({ wI with drawn := wI.drawn + 1 } : World) = w0 at *
  obtain ⟨s1, s2, s3, S, s4, s5, s6, s7, s8⟩ := hst
  obtain ⟨vs, Δ, hvl, hΔ, hfl, hch⟩ := h w0 S s5 s7 s8
  have hpure := FlP_pure hns hsep (fun i hi => by have := (hFm i hi).1; omega) hfl
  generalize hfls : F.zip vs = fls at *
  have hmemF : ∀ x ∈ fls, x.1 ∈ F := fun x hx => by rw [← hfls] at hx; exact (List.of_mem_zip hx).1
  have hsel : ∀ i, i < l.length → ∀ cs b, (opAt l i).op ≠ .select cs b := fun i hi cs b => Region.noSelect_spec hns i _ cs b (opAt_eq hi)
  have hgE : ∀ {listed : Array Bool} {i : Nat}, i < listed.size → listed.getD i true = listed.getD i false := fun h => by
    simp [Array.getD_eq_getD_getElem?, Array.getElem?_eq_getElem h]
  have key : ∀ (fuel : Nat) (listed : Array Bool) (a : Act) (w : World) (c : Nat) (A : Env → World → Prop), (List.range l.length).countP (fun k => !listed.getD k true) ≤ fuel → listed.size = l.length → a.tmps.size = N → a.defers = [] →
      (∀ i, m ≤ i → i < l.length → listed.getD i true = false) →
      c ≤ C.length → (∀ j, j < C.length → listed.getD (C.getD j 0) false = decide (j < c)) →
      (∀ x ∈ fls, listed.getD x.1 false = true → ∀ t, (opAt l x.1).dst = some t → envOf a t = x.2) →
      (∀ t, (∀ i, i < m → (opAt l i).dst ≠ some t) → envOf a t = env0 t) →
      TLS P l.toArray (Kept w0 S) ((C.drop c).map (opAt l)) A (fun env w => WpL P N l.toArray (l.drop m) Q env w) → A (ide l fls (envOf a)) w →
      wpAny P .any l.toArray (lift N Q) fuel listed a w := by
    -- when all that is drawn is done
    have done : ∀ (fuel : Nat) (listed : Array Bool) (a : Act) (w : World) (c : Nat) (A : Env → World → Prop), l.length - m ≤ fuel → listed.size = l.length → a.tmps.size = N → a.defers = [] →
        (∀ i, m ≤ i → i < l.length → listed.getD i true = false) → (∀ i, i < m → listed.getD i true = true) → c ≤ C.length → (∀ j, j < C.length → listed.getD (C.getD j 0) false = decide (j < c)) →
        (∀ x ∈ fls, listed.getD x.1 false = true → ∀ t, (opAt l x.1).dst = some t → envOf a t = x.2) →
        TLS P l.toArray (Kept w0 S) ((C.drop c).map (opAt l)) A (fun env w => WpL P N l.toArray (l.drop m) Q env w) → A (ide l fls (envOf a)) w →
        wpAny P .any l.toArray (lift N Q) fuel listed a w := by
      intro fuel listed a w c A hfu hsz b1 b2 htail hall hcl hcs hfs hT hA
      have hcC : c = C.length := by
        rcases Nat.lt_or_ge c C.length with hlt | hge
        · have h5 := hcs c hlt
          have h6 := hCm _ (getD_mem hlt)
          rw [← hgE (by omega), hall _ h6] at h5
          simp at h5
        · omega
      subst hcC
      rw [List.drop_length] at hT
      have hB := (hT _ _ hA).2
      have hide : ide l fls (envOf a) = envOf a := by
        funext t
        unfold ide
        cases hg : fget l fls t with
        | none => rfl
        | some u =>
          obtain ⟨x, hx, hxd, rfl⟩ := fget_some hg
          have hxm := (hFm _ (hmemF x hx)).1
          exact (hfs x hx (by rw [← hgE (by omega)]; exact hall _ hxm) t hxd).symm
      rw [hide] at hB
      have hli : ∀ k, k < l.length → listed.getD k true = decide (k < m) := fun k hk => by
        by_cases hkm : k < m
        · rw [hall k hkm]; simp [hkm]
        · rw [htail k (by omega) hk]; simp [hkm]
      exact any_tail hdr fuel m listed a w (Nat.le_refl _) h0 hfu hsz hli (hB a b1 b2 rfl)
    intro fuel
    induction fuel with
    | zero =>
      intro listed a w c A hcnt hsz b1 b2 htail hcl hcs hfs hfr hT hA
      have hall : ∀ k, k < l.length → listed.getD k true = true := fun k hk => by
        have hz : (List.range l.length).countP (fun k => !listed.getD k true) = 0 := by omega
        rw [List.countP_eq_zero] at hz
        have := hz k (List.mem_range.2 hk)
        simpa using this
      have hml : m = l.length := by
        rcases Nat.lt_or_ge m l.length with hlt | hge
        · have h5 := htail m (Nat.le_refl _) hlt; rw [hall m hlt] at h5; cases h5
        · omega
      exact done 0 listed a w c A (by omega) hsz b1 b2 htail (fun i hi => hall i (by omega)) hcl hcs hfs hT hA
    | succ fuel ih =>
      intro listed a w c A hcnt hsz b1 b2 htail hcl hcs hfs hfr hT hA
      by_cases hall : ∀ k, k < m → listed.getD k true = true
      · refine done (fuel + 1) listed a w c A (Nat.le_trans ?_ hcnt) hsz b1 b2 htail hall hcl hcs hfs hT hA
        have hli : ∀ k, k < l.length → listed.getD k true = decide (k < m) := fun k hk => by
          by_cases hkm : k < m
          · rw [hall k hkm]; simp [hkm]
          · rw [htail k (by omega) hk]; simp [hkm]
        rw [show (List.range l.length).countP (fun k => !listed.getD k true) = (List.range l.length).countP (fun k => !decide (k < m)) from List.countP_congr fun k hk => by rw [hli k (List.mem_range.1 hk)]]
        exact T_draw.count_ge m [] m l.length
      · have hex : ∃ k, k < m ∧ listed.getD k true = false := by
          by_cases hh : ∃ k, k < m ∧ listed.getD k true = false
          · exact hh
          · exact absurd (fun k hk => by
              cases hb : listed.getD k true
              · exact absurd ⟨k, hk, hb⟩ hh
              · rfl) hall
        refine ⟨fun hr => ?_, fun i hi => ?_⟩
        · exfalso
          obtain ⟨k, hk, hku, hmin⟩ := T_draw.first_un m [] hex
          have : k ∈ Region.ready .any l.toArray listed := mem_ready.2 ⟨hku, opAt l k, opAt_eq (by omega), fun e he hb => by
            have h5 := h1 k (by omega) e he hb
            have h6 := hmin e.on h5
            rwa [hgE (by omega : e.on < listed.size)] at h6⟩
          rw [hr] at this; cases this
        · obtain ⟨hu, o, ho, hedge⟩ := mem_ready.1 hi
          have hil : i < l.length := by simpa using (Array.getElem?_eq_some_iff.1 ho).1
          rw [opAt_eq hil] at ho
          cases ho
          have him : i < m := by
            rcases Nat.lt_or_ge i m with h | h
            · exact h
            · obtain ⟨k, hk, hku⟩ := hex
              obtain ⟨e, he, hb, hon⟩ := edge_of (h3 i h hil k (by omega))
              have h6 := hedge e he hb
              rw [hon, ← hgE (by omega : k < listed.size), hku] at h6
              cases h6
          have hui : listed.getD i false = false := by rw [← hgE (by omega : i < listed.size)]; exact hu
          have hisz : i < listed.size := by omega
          have hdi : okDst N (opAt l i).dst = true := by
            rw [List.all_eq_true] at hd
            refine hd _ ?_
            have : opAt l i = l[i] := by simp [opAt, hil]
            rw [this]; exact List.getElem_mem _
          have hcount : (List.range l.length).countP (fun k => !(listed.setIfInBounds i true).getD k true) ≤ fuel := by
            have := (count_set hisz hu (List.range l.length)).2 (List.mem_range.2 hil)
            omega
          have htail' : ∀ k, m ≤ k → k < l.length → (listed.setIfInBounds i true).getD k true = false := fun k hmk hk => by
            rw [getD_set_ne true (by omega)]; exact htail k hmk hk
          -- a float that is looked at is there
          have hthere : ∀ x ∈ fls, ∀ t, (opAt l x.1).dst = some t → t ∈ looks l i → x.1 < i → envOf a t = x.2 := fun x hx t hxd ht hlt => by
            have hxm := (hFm _ (hmemF x hx)).1
            obtain ⟨e, he, hb, hon⟩ := edge_of ((h2 i x.1 t him hxm (by omega) hxd (.inl ht)).1 hlt)
            have h8 := hedge e he hb
            rw [hon] at h8
            exact hfs x hx h8 t hxd
          rcases hpart i him with ⟨hiC, hiF⟩ | ⟨hiC, hiF⟩
          · -- the next of the chain
            obtain ⟨j, hj, hjC⟩ : ∃ j, j < C.length ∧ C.getD j 0 = i := by
              obtain ⟨j, hj, rfl⟩ := List.getElem_of_mem hiC
              exact ⟨j, hj, by rw [List.getD_eq_getElem?_getD, List.getElem?_eq_getElem hj]; rfl⟩
            have hjc : j = c := by
              have h5 := hcs j hj
              rw [hjC, hui] at h5
              have h6 : ¬ j < c := by simpa using h5.symm
              rcases Nat.lt_or_ge c j with hlt | hge
              · exfalso
                obtain ⟨j', rfl⟩ : ∃ j', j = j' + 1 := ⟨j - 1, by omega⟩
                have hE := chain_edges hchn j' hj
                rw [hjC] at hE
                obtain ⟨e, he, hb, hon⟩ := edge_of hE
                have h8 := hedge e he hb
                rw [hon, hcs j' (by omega)] at h8
                simp at h8
                omega
              · omega
            subst hjc
            have hdrop : (C.drop j).map (opAt l) = opAt l i :: (C.drop (j + 1)).map (opAt l) := by
              rw [List.drop_eq_getElem_cons hj, List.map_cons]
              congr 2
              rw [← hjC, List.getD_eq_getElem?_getD, List.getElem?_eq_getElem hj]; rfl
            rw [hdrop] at hT
            obtain ⟨M, hM, hT'⟩ := hT
            obtain ⟨_, hwnt, hop⟩ := hM _ _ hA
            have hlook : ∀ t ∈ Oper.looksAt l.toArray (opAt l i), envOf a t = ide l fls (envOf a) t := fun t ht => by
              unfold ide
              cases hg : fget l fls t with
              | none => rfl
              | some u =>
                obtain ⟨x, hx, hxd, rfl⟩ := fget_some hg
                rcases Nat.lt_or_ge x.1 i with hlt | hge
                · exact hthere x hx t hxd ht hlt
                · exact absurd hxd (hCF i hiC x.1 (hmemF x hx) hge t ht)
            have hwnt' : wantedE l.toArray (envOf a) (opAt l i) = true := by rw [wantedE_congr hlook]; exact hwnt
            have hop' := OpR_congr (ops := l.toArray) (hsel i hil) hlook hop
            unfold wpOp
            rw [opAt_eq hil]
            simp only [wanted_eq, hwnt', if_true]
            refine .inl (hop'.wp fun v w' hv => ?_)
            refine ih _ _ w' (j + 1) M hcount (by simpa using hsz) (by rw [size_put]; exact b1) (by rw [defers_put]; exact b2) htail' hj (fun k hk => ?_) (fun x hx hlx t hxt => ?_) (fun t ht => ?_) hT' ?_
            · by_cases hkj : k = j
              · subst hkj; rw [hjC]; simp [hisz]
              · have hne : i ≠ C.getD k 0 := fun e => by
                  -- the chain's numbers rise
                  have hinj : ∀ (D : List Nat), upB D = true → ∀ p q, p < D.length → q < D.length → D.getD p 0 = D.getD q 0 → p = q := by
                    intro D
                    induction D with
                    | nil => intro _ p q hp; simp at hp
                    | cons b D ihD =>
                      intro hu p q hp hq he
                      obtain ⟨hlt, hu'⟩ := upB_lt hu
                      cases p with
                      | zero => cases q with
                        | zero => rfl
                        | succ q =>
                          have hq' : q < D.length := by simpa using hq
                          have := hlt _ (getD_mem hq')
                          simp only [List.getD_cons_zero, List.getD_cons_succ] at he
                          omega
                      | succ p => cases q with
                        | zero =>
                          have hp' : p < D.length := by simpa using hp
                          have := hlt _ (getD_mem hp')
                          simp only [List.getD_cons_zero, List.getD_cons_succ] at he
                          omega
                        | succ q => rw [ihD hu' p q (by simpa using hp) (by simpa using hq) (by simpa using he)]
                  exact hkj (hinj C hupC k j hk hj (by rw [hjC, ← e]))
                rw [getD_set_ne false hne, hcs k hk]
                simp only [decide_eq_decide]; omega
            · have hxi : i ≠ x.1 := fun e => hiF (e ▸ hmemF x hx)
              rw [getD_set_ne false hxi] at hlx
              obtain ⟨_, _, ⟨t', ht', hdist⟩, _⟩ := hFm _ (hmemF x hx)
              have : (opAt l i).dst ≠ some t := by
                have h9 := hdist i him hxi
                rw [ht'] at hxt; cases hxt; exact h9
              rw [envOf_put (by rw [b1]; exact okDst_lt hdi), put_ne this]
              exact hfs x hx hlx t hxt
            · rw [envOf_put (by rw [b1]; exact okDst_lt hdi), put_ne (ht i him)]
              exact hfr t ht
            · rw [envOf_put (by rw [b1]; exact okDst_lt hdi)]
              have : ide l fls (put (envOf a) (opAt l i).dst v) = put (ide l fls (envOf a)) (opAt l i).dst v := by
                funext t
                by_cases hdt : (opAt l i).dst = some t
                · have hn : fget l fls t = none := fget_none fun x hx hxd => by
                    obtain ⟨_, _, ⟨t', ht', hdist⟩, _⟩ := hFm _ (hmemF x hx)
                    rw [ht'] at hxd; cases hxd
                    exact hdist i him (fun e => hiF (e ▸ hmemF x hx)) hdt
                  unfold ide
                  simp only [hn]
                  rw [hdt, put_eq, put_eq]
                · rw [put_ne hdt]
                  unfold ide
                  cases fget l fls t with
                  | none => simp only [put_ne hdt]
                  | some u => rfl
              rw [this]; exact hv
          · -- a value that floats
            obtain ⟨v, hv⟩ := mem_zip_of hvl hiF
            rw [hfls] at hv
            obtain ⟨_, hgn, ⟨t', ht', hdist⟩, hnC⟩ := hFm i hiF
            have hK := TLS_K hT _ _ hA
            have hrun := hpure i v hv (envOf a) w hK fun t ht => by
              rw [List.nil_append]
              unfold ide
              cases hg : fget l fls t with
              | none =>
                refine hfr t fun i' hi' hd' => ?_
                rcases hpart i' hi' with ⟨g1, _⟩ | ⟨_, g2⟩
                · exact hnC t ht i' g1 hd'
                · obtain ⟨u, hu'⟩ := mem_zip_of hvl g2
                  rw [hfls] at hu'
                  exact fget_hit hu' hd' hg
              | some u =>
                obtain ⟨x, hx, hxd, rfl⟩ := fget_some hg
                rcases Nat.lt_or_ge x.1 i with hlt | hge
                · exact hthere x hx t hxd ht hlt
                · exact absurd hxd (sep_of hsep hupF i hiF x.1 (hmemF x hx) hge t ht)
            unfold wpOp
            rw [opAt_eq hil]
            simp only [wanted_eq, wanted_none hgn, if_true]
            refine .inl ((OpR.of_value (K := fun u w' => u = v ∧ w' = w) hrun ⟨rfl, rfl⟩).wp fun u w' hu' => ?_)
            obtain ⟨rfl, rfl⟩ := hu'
            refine ih _ _ w' c A hcount (by simpa using hsz) (by rw [size_put]; exact b1) (by rw [defers_put]; exact b2) htail' hcl (fun k hk => ?_) (fun x hx hlx t hxt => ?_) (fun t ht => ?_) hT ?_
            · have hne : i ≠ C.getD k 0 := fun e => hiC (e ▸ getD_mem hk)
              rw [getD_set_ne false hne]; exact hcs k hk
            · rw [envOf_put (by rw [b1]; exact okDst_lt hdi)]
              by_cases hxi : i = x.1
              · have : x.2 = u := by
                  have hx' : (i, x.2) ∈ F.zip vs := by rw [hfls, hxi]; exact hx
                  exact upB_inj hupF hx' (by rw [hfls]; exact hv)
                rw [this, hxi, hxt, put_eq]
              · rw [getD_set_ne false hxi] at hlx
                have hxm := (hFm _ (hmemF x hx)).1
                have : (opAt l i).dst ≠ some t := fun e => by
                  rw [ht'] at e; cases e
                  exact hdist x.1 hxm (fun e => hxi e.symm) hxt
                rw [put_ne this]
                exact hfs x hx hlx t hxt
            · rw [envOf_put (by rw [b1]; exact okDst_lt hdi), put_ne (ht i him)]
              exact hfr t ht
            · rw [envOf_put (by rw [b1]; exact okDst_lt hdi)]
              have : ide l fls (put (envOf a) (opAt l i).dst u) = ide l fls (envOf a) := by
                funext t
                unfold ide
                cases hg : fget l fls t with
                | some _ => rfl
                | none =>
                  have : (opAt l i).dst ≠ some t := fun e => fget_hit hv e hg
                  simp only [put_ne this]
              rw [this]; exact hA
  have hstart : St we Se ms (Δ ++ (Γ ++ [ffK w0 S])) w0 := ⟨s1, s2, s3, S, s4, s5, s6, s7, All.append hΔ (All.append s8 ⟨⟨Nat.le_refl _, fun k _ hs => ⟨hs, rfl⟩⟩, trivial⟩)⟩
  refine key l.toArray.size _ a0 w0 0 (fun env' w => env' = ide l fls env0 ∧ St we Se ms (Δ ++ (Γ ++ [ffK w0 S])) w) ?_ (by simp) ha1 ha2 (fun i hmi hi => by simp [hi]) (Nat.zero_le _) (fun j hj => ?_) (fun x hx hlx => ?_) (fun t ht => by rw [ha3]) (by rw [List.drop_zero]; exact hch) ⟨by rw [ha3], hstart⟩
  · exact Nat.le_trans (List.countP_le_length) (by simp)
  · have hcl : C.getD j 0 < l.length := by have := hCm _ (getD_mem hj); omega
    generalize C.getD j 0 = cc at *
    rw [← hgE (by simpa using hcl)]; simp [hcl]
  · have : x.1 < l.length := by have := (hFm _ (hmemF x hx)).1; omega
    rw [← hgE (by simpa using this)] at hlx; simp [this] at hlx
end
end Go.Proofs.YtjnjfinbdfolkaaGreat
end

section
set_option linter.unusedVariables false
set_option linter.unusedSimpArgs false
namespace Go.Proofs.YtjnjfinbdfolkaaGreat
section
variable {P : Program} {N : Nat} {we : World} {Se : Nat → Prop} {ms F : List MF} {Γ : List FF} {env : Env} {U : Type} {val : U → Value} {own : U → List MF} {facts : U → List FF} {ok : U → Prop} {fn : Func}
  {ops : Array Oper} {rest : List Oper} {d : Option Tmp} {t ty yt : TypeId} {pos : String} {aft : Array Edge} {g : Option (Nat × Bool)} {x y : Operand}
theorem og_callG {f : FuncId} {asv : List Operand} {ts : Array TypeId} {args : List Value} {msc : List MF} {Γc : List FF} (hb : fnB P f = true) (hf : FnG P f args.toArray msc Γc val own facts ok) (ha : asv.map (ev env) = args)
    (hs : ∀ (S : Nat → Prop) (w : World), All S Γ w → All S Γc w) :
    OG P ⟨d, .call ⟨.value (.func f), asv.toArray, ts⟩, ty, pos, aft, g⟩ env we Se (msc ++ F) Γ val (fun u => own u ++ F) (fun u => facts u ++ Γ) ok := by
  intro w hst
  have hr : (execOp (ev env) ⟨d, .call ⟨.value (.func f), asv.toArray, ts⟩, ty, pos, aft, g⟩).run P w = .ok (.enter f args.toArray) w := by
    simp [execOp, resolve, ev, Deferred.ofValue, invoke, run_callFunc hb, ha]
  unfold OpR
  rw [hr]
  refine (hf we Se F Γ w (hst.weak fun S w h => All.append (hs S w h) h)).mono ?_
  rintro e w' ⟨u, h1, h2, h3⟩
  exact ⟨val u, h1, u, rfl, h2, h3⟩
theorem og_append {α : Type} {e : ERep α} {et : TypeId} {xs ys : List α} {v u : Value} {bytes : Nat} {zero : Value} (i : Nat)
    (ht : P.underlying t = some (.slice et)) (het : TyF P et e.agg e.n bytes zero) (hzs : zero.cells.size = e.n) (hn : 0 < e.n)
    (hm : ms[i]? = some (mO e et v xs)) (hx : ev env x = v) (hy : ev env y = u) (hf : ∀ (S : Nat → Prop) (w : World), All S Γ w → (fV (eS e) ys u).p S w)
    (h63 : xs.length + ys.length ≤ 9223372036854775807) (hb : (xs.length + ys.length) * bytes ≤ 140737488355328) :
    OG P ⟨d, .call ⟨.builtin .append, #[x, y], #[t, t]⟩, ty, pos, aft, g⟩ env we Se ms Γ (fun v' => v') (fun v' => ms.set i (mO e et v' (xs ++ ys))) (fun _ => Γ) (fun _ => True) :=
  og_appendQ i ht het hzs hn hm hx hy (fun S w _ h => SlQ.of (hf S w h)) h63 hb
end
section
variable {P : Program} {w0 : World} {S0 : Nat → Prop}
theorem fl_load {α : Type} {e : ERep α} {y : α} {p : Value} {t : TypeId} {bytes : Nat} {zero : Value} (ht : TyF P t e.agg e.n bytes zero) (h : (fP e y p).p S0 w0) :
    ∃ u, (fV e y u).p S0 w0 ∧ ∀ (env : Env) (x : Operand) (d : Option Tmp) (ty : TypeId) (pos : String) (aft : Array Edge) (g : Option (Nat × Bool)) (w : World), Kept w0 S0 w → ev env x = p → (execOp (ev env) ⟨d, .load t x, ty, pos, aft, g⟩).run P w = .ok (.value u) w := by
  obtain ⟨b, o, cs, rfl, hS, ha, he⟩ := h
  refine ⟨e.val cs, ⟨cs, rfl, he⟩, fun env x d ty pos aft g w hk hx => ?_⟩
  have ha' : At w b o cs := ⟨Nat.lt_of_lt_of_le ha.1 hk.1, fun j v hv => by rw [World.cell?_of_block (a := ⟨b, o + j, none⟩) (hk.2 b ha.1 hS)]; exact ha.2 j v hv⟩
  simp [execOp, hx, Instr.loadAt, Instr.sureAddr, run_loadVar' ht he ha']
theorem fl_load_i64 {y : Int} {p : Value} {t : TypeId} {bytes : Nat} {zero : Value} (ht : TyF P t false 1 bytes zero) (h : (fP eI y p).p S0 w0) :
    (-9223372036854775808 ≤ y ∧ y ≤ 9223372036854775807) ∧ ∀ (env : Env) (x : Operand) (d : Option Tmp) (ty : TypeId) (pos : String) (aft : Array Edge) (g : Option (Nat × Bool)) (w : World), Kept w0 S0 w → ev env x = p → (execOp (ev env) ⟨d, .load t x, ty, pos, aft, g⟩).run P w = .ok (.value (.int .i64 y)) w := by
  obtain ⟨u, hu, hr⟩ := fl_load (e := eI) ht h
  obtain ⟨rfl, hb⟩ := fV_i64 hu
  exact ⟨hb, hr⟩
end
end Go.Proofs.YtjnjfinbdfolkaaGreat
end

section
set_option linter.unusedVariables false
set_option linter.unusedSimpArgs false
namespace Go.Proofs.YtjnjfinbdfolkaaGreat
abbrev InR (x : Int) : Prop := -9223372036854775808 ≤ x ∧ x ≤ 9223372036854775807
abbrev InU (x : Nat) : Prop := x < 18446744073709551616
section
variable {α β : Type}
/-- a check -/
def ck (p : Prop) [Decidable p] (k : Option α) : Option α := if p then k else none
/-- a number that must lie in 64 bits -/
def ck64 (e : Int) (k : Int → Option α) : Option α := if InR e then k e else none
/-- an index -/
def ckI (i : Int) (n : Nat) (k : Nat → Option α) : Option α := if 0 ≤ i ∧ i < (n : Int) then k i.toNat else none
/-- a size, not below 0 -/
def ckN (i : Int) (k : Nat → Option α) : Option α := if 0 ≤ i then k i.toNat else none
/-- a name -/
def nm (e : β) (k : β → Option α) : Option α := k e
/-- what a call tells -/
def bd (x : Option β) (k : β → Option α) : Option α := match x with
  | some v => k v
  | none => none
/-- rounds, at most so many -/
def loopN (f : (β → Option α) → β → Option α) : Nat → β → Option α
  | 0, _ => none
  | k + 1, s => f (loopN f k) s
theorem ck_s {p : Prop} [Decidable p] {k : Option α} {r : α} (h : ck p k = some r) : p ∧ k = some r := by
  unfold ck at h; split at h
  · exact ⟨‹p›, h⟩
  · cases h
theorem ck64_s {e : Int} {k : Int → Option α} {r : α} (h : ck64 e k = some r) : ∃ x, x = e ∧ InR x ∧ k x = some r := by
  unfold ck64 at h; split at h
  · exact ⟨e, rfl, ‹_›, h⟩
  · cases h
theorem ckI_s {i : Int} {n : Nat} {k : Nat → Option α} {r : α} (h : ckI i n k = some r) : ∃ j : Nat, i = (j : Int) ∧ j < n ∧ k j = some r := by
  unfold ckI at h; split at h
  · next hi => exact ⟨i.toNat, by omega, by omega, h⟩
  · cases h
theorem ckN_s {i : Int} {k : Nat → Option α} {r : α} (h : ckN i k = some r) : ∃ j : Nat, i = (j : Int) ∧ k j = some r := by
  unfold ckN at h; split at h
  · next hi => exact ⟨i.toNat, by omega, h⟩
  · cases h
theorem nm_s {e : β} {k : β → Option α} {r : α} (h : nm e k = some r) : ∃ x, x = e ∧ k x = some r := ⟨e, rfl, h⟩
theorem bd_s {x : Option β} {k : β → Option α} {r : α} (h : bd x k = some r) : ∃ v, x = some v ∧ k v = some r := by
  cases x with
  | none => cases h
  | some v => exact ⟨v, rfl, h⟩
theorem if_t {c : Prop} [Decidable c] {x y : Option α} {r : α} (hc : c) (h : (if c then x else y) = some r) : x = some r := by rwa [if_pos hc] at h
theorem if_f {c : Prop} [Decidable c] {x y : Option α} {r : α} (hc : ¬ c) (h : (if c then x else y) = some r) : y = some r := by rwa [if_neg hc] at h
theorem ifb_f {c : Bool} {x y : Option α} {r : α} (hc : c = false) (h : (if c = true then x else y) = some r) : y = some r := by rw [hc] at h; exact h
theorem loopN_z {f : (β → Option α) → β → Option α} {s : β} {r : α} (h : loopN f 0 s = some r) : False := by cases h
theorem loopN_s {f : (β → Option α) → β → Option α} {k : Nat} {s : β} {r : α} (h : loopN f (k + 1) s = some r) : f (loopN f k) s = some r := h
theorem none_s {r : α} (h : (none : Option α) = some r) : False := by cases h
end
section
variable {α β : Type}
theorem ck_t {p : Prop} [Decidable p] {k : Option α} (h : p) : ck p k = k := if_pos h
theorem ck64_t {e : Int} {k : Int → Option α} (h : InR e) : ck64 e k = k e := if_pos h
theorem ckI_t {i : Int} {n : Nat} {k : Nat → Option α} (h : 0 ≤ i ∧ i < (n : Int)) : ckI i n k = k i.toNat := if_pos h
theorem ckI_n {i n : Nat} {k : Nat → Option α} (h : i < n) : ckI (i : Int) n k = k i := by rw [ckI_t ⟨by omega, by omega⟩]; rfl
theorem ckN_t {i : Int} {k : Nat → Option α} (h : 0 ≤ i) : ckN i k = k i.toNat := if_pos h
theorem ckN_n {i : Nat} {k : Nat → Option α} : ckN (i : Int) k = k i := by rw [ckN_t (by omega)]; rfl
theorem nm_t {e : β} {k : β → Option α} : nm e k = k e := rfl
theorem bd_t {x : Option β} {v : β} {k : β → Option α} (h : x = some v) : bd x k = k v := by rw [h]; rfl
end
theorem len_r {n : Nat} (h : n ≤ 9223372036854775807) : InR (n : Int) := ⟨by omega, by omega⟩
theorem mod_r (x : Nat) : InU (x % 18446744073709551616) := Nat.mod_lt _ (by decide)
theorem eq_u {x e : Nat} (h : x = e) (he : InU e) : InU x := h ▸ he
theorem eq_r {x e : Int} (h : x = e) (he : InR e) : InR x := h ▸ he
theorem eq_mod_r {x e : Nat} (h : x = e % 18446744073709551616) : InU x := h ▸ mod_r e
theorem tmod_r {a b x : Int} (ha : InR a) (h : x = a.tmod b) : InR x := by
  subst h
  have h1 := Int.natAbs_tmod a b
  have h2 := Nat.mod_le a.natAbs b.natAbs
  have h3 : (a.tmod b).natAbs ≤ a.natAbs := by omega
  rcases Int.le_total 0 a with h0 | h0
  · have := Int.tmod_nonneg b h0
    exact ⟨by omega, by omega⟩
  · have : a.tmod b ≤ 0 := by
      have := Int.tmod_nonneg b (a := -a) (by omega)
      rw [Int.neg_tmod] at this; omega
    exact ⟨by omega, by omega⟩
theorem umod_r {a b x : Nat} (ha : InU a) (h : x = a % b) : InU x := by
  have := Nat.mod_le a b; unfold InU at *; omega
theorem udiv_r {a b x : Nat} (ha : InU a) (h : x = a / b) : InU x := by
  have := Nat.div_le_self a b; unfold InU at *; omega
theorem max_r {a b : Int} (ha : InR a) (hb : InR b) : InR (max a b) := by unfold InR at *; omega
theorem min_r {a b : Int} (ha : InR a) (hb : InR b) : InR (min a b) := by unfold InR at *; omega
theorem getE {α : Type} {l : List α} {k : Nat} {y z : α} (h : k < l.length) (hy : y = l.getD k z) : l[k]? = some y := by rw [hy]; exact getD_some z h
theorem vi {a b : Int} (h : a = b) : (Value.int .i64 a) = .int .i64 b := congrArg _ h
/-- 64-bit words read as numbers with a sign, and back -/
def sgn (x : Nat) : Int := if x < 9223372036854775808 then (x : Int) else (x : Int) - 18446744073709551616
def uns (x : Int) : Nat := (x % 18446744073709551616).toNat
theorem sgn_r {x : Nat} (h : InU x) : InR (sgn x) := by unfold sgn InU at *; split <;> constructor <;> omega
theorem uns_r (x : Int) : InU (uns x) := by unfold uns InU; omega
theorem wrap_sgn {x : Nat} (h : InU x) : IntKind.i64.wrap (x : Int) = sgn x := by
  unfold sgn
  unfold InU at h
  split
  · exact w64 ⟨by omega, by omega⟩
  · rename_i h2
    have h3 : IntKind.i64.wrap (x : Int) = IntKind.i64.wrap ((x : Int) - 18446744073709551616) := by
      simp [IntKind.wrap, IntKind.bits, IntKind.signed]
      all_goals omega
    rw [h3]; exact w64 ⟨by omega, by omega⟩
theorem wrap_uns (x : Int) : IntKind.u64.wrap x = ((uns x : Nat) : Int) := by rw [wu64_int]; unfold uns; omega
theorem w_x {x c : Int} (h : c = x) (hb : InR c) : IntKind.i64.wrap x = c := by subst h; exact w64 hb
theorem wu_x {k : IntKind} {x : Int} {c n : Nat} (h : c = n) (hb : k.wrap x = (n : Int)) : k.wrap x = (c : Int) := by rw [hb, h]
inductive Tg
  | n
  | x (i : Nat)
  | r
def tgB : Tg → Exit → Bool
  | .n, .normal => true
  | .x i, .exit j => Nat.beq i j
  | .r, .ret => true
  | _, _ => false
def tgE : Tg → Exit
  | .n => .normal
  | .x i => .exit i
  | .r => .ret
theorem tgB_eq {t : Tg} {e : Exit} (h : tgB t e = true) : e = tgE t := by
  cases t <;> cases e <;> first | rfl | cases h | skip
  rename_i i j
  rw [Nat.eq_of_beq_eq_true (show Nat.beq i j = true from h)]; rfl
def XQ : List (Tg × (Env → World → Prop)) → Qs
  | [], _, _, _ => False
  | (t, J) :: r, e, env, w => bif tgB t e then J env w else XQ r e env w
def XK (Q : Qs) : List (Tg × (Env → World → Prop)) → Prop
  | [] => True
  | (t, J) :: r => (∀ env w, J env w → Q (tgE t) env w) ∧ XK Q r
theorem XQ_to {Q : Qs} : ∀ {l : List (Tg × (Env → World → Prop))}, XK Q l → ∀ e env w, XQ l e env w → Q e env w
  | [], _, _, _, _, h => h.elim
  | (t, J) :: r, k, e, env, w, h => by
    unfold XQ at h
    cases ht : tgB t e
    · rw [ht] at h; exact XQ_to k.2 e env w h
    · rw [ht] at h
      rw [tgB_eq ht]; exact k.1 env w h
/-- What holds where ways meet, by a ghost. -/
inductive JQ (we : World) (Se : Nat → Prop) {G : Type} (inv : G → Inv) (ok : G → Prop) (env : Env) (w : World) : Prop
  | mk (g : G) (h1 : ok g) (h2 : agree env (inv g).live) (h3 : St we Se (inv g).ms (inv g).Γ w) : JQ we Se inv ok env w
section
variable {P : Program} {N : Nat} {we : World} {Se : Nat → Prop} {ms : List MF} {Γ : List FF} {Q : Qs} {env : Env}
theorem T_X (l : List (Tg × (Env → World → Prop))) {c : Code} (h : T P N we Se ms Γ c (XQ l) env) (k : XK Q l) : T P N we Se ms Γ c Q env :=
  fun w hw a h1 h2 h3 => wp_mono (h w hw a h1 h2 h3) fun e a' w' ⟨q1, q2, q3⟩ => ⟨q1, q2, XQ_to k e _ _ q3⟩
theorem JQ_mk {G : Type} {inv : G → Inv} {ok : G → Prop} (g : G) (h1 : ok g) (h2 : agree env (inv g).live) (hs : ∀ w, St we Se ms Γ w → St we Se (inv g).ms (inv g).Γ w) :
    ∀ w, St we Se ms Γ w → JQ we Se inv ok env w := fun w hw => ⟨g, h1, h2, hs w hw⟩
theorem JQ_el {G : Type} {inv : G → Inv} {ok : G → Prop} {R : Env → World → Prop} (k : ∀ g, ok g → ∀ rest w, St we Se (inv g).ms (inv g).Γ w → R (L (inv g).live rest) w) :
    ∀ env w, JQ we Se inv ok env w → R env w := fun env w ⟨g, h1, h2, h3⟩ => by
  have := k g h1 env w h3
  rwa [L_agree h2] at this
end
end Go.Proofs.YtjnjfinbdfolkaaGreat
end

section
set_option linter.unusedVariables false
set_option linter.unusedSimpArgs false
namespace Go.Proofs.YtjnjfinbdfolkaaGreat
section
variable {P : Program} {N : Nat} {we : World} {Se : Nat → Prop} {ms F : List MF} {Γ : List FF} {Q : Qs} {env : Env} {ops : Array Oper} {rest : List Oper} {o : Oper}
  {d : Option Tmp} {ty yt t ti t' : TypeId} {pos : String} {aft : Array Edge} {g : Option (Nat × Bool)} {x y : Operand}
theorem oe_as {α : Type} {e : ERep α} {a b : α} (h : OpE P o env ms Γ (fun p : Value => p) (fun p => [fV e a p]) (fun _ => True)) (hy : b = a) : OpE P o env ms Γ (fun p : Value => p) (fun p => [fV e b p]) (fun _ => True) := by
  subst hy; exact h
theorem v_i {k : IntKind} {c z : Int} (h : ∀ w, (execOp (ev env) o).run P w = .ok (.value (.int k c)) w) (hz : z = c) : ∀ w, (execOp (ev env) o).run P w = .ok (.value (.int k z)) w := by
  subst hz; exact h
theorem v_bool {c z : Bool} (h : ∀ w, (execOp (ev env) o).run P w = .ok (.value (.bool c)) w) (hz : z = c) : ∀ w, (execOp (ev env) o).run P w = .ok (.value (.bool z)) w := by
  subst hz; exact h
theorem n_shr_u {a : Nat} {b : Int} : ((a : Nat) : Int).fdiv (2 ^ (min b.toNat IntKind.u64.bits)) = ((a / 2 ^ (min b.toNat 64) : Nat) : Int) := by
  have : IntKind.u64.bits = 64 := rfl
  rw [this, Int.fdiv_eq_ediv_of_nonneg _ (by have : (0:Int) ≤ 2 ^ (min b.toNat 64) := Int.pow_nonneg (by decide); exact this)]
  try norm_cast
theorem n_shl_u {a : Nat} {b : Int} : IntKind.u64.wrap (((a : Nat) : Int) * 2 ^ (min b.toNat IntKind.u64.bits)) = ((a * 2 ^ (min b.toNat 64) % 18446744073709551616 : Nat) : Int) := by
  have : IntKind.u64.bits = 64 := rfl
  rw [this]
  have h := wu64 (a * 2 ^ (min b.toNat 64))
  rw [← h]; congr 1
theorem fdiv_r {a x : Int} {k : Nat} (ha : InR a) (h : x = a.fdiv (2 ^ k)) : InR x := by
  have hp : (0 : Int) < 2 ^ k := Int.pow_pos (by decide)
  rw [Int.fdiv_eq_ediv_of_nonneg _ (by omega)] at h
  subst h
  obtain ⟨h1, h2⟩ := ha
  have h3 := Int.natAbs_ediv_le_natAbs a (2 ^ k)
  generalize hq : a / 2 ^ k = q at *
  rcases (show a < 0 ∨ 0 ≤ a by omega) with h0 | h0
  · have := Int.ediv_neg_of_neg_of_pos h0 hp
    constructor <;> omega
  · constructor <;> omega
def andI (a b : Int) : Int := sgn (uns a &&& uns b)
theorem and_lt_u {a b : Nat} (ha : InU a) : InU (a &&& b) := Nat.lt_of_le_of_lt Nat.and_le_left ha
theorem or_lt_u {a b : Nat} (ha : InU a) (hb : InU b) : InU (a ||| b) := Nat.or_lt_two_pow (n := 64) ha hb
theorem mod_in {a : Nat} (ha : InU a) : (((a : Nat) : Int) % 2 ^ IntKind.u64.bits).toNat = a := by
  have : (2 : Int) ^ IntKind.u64.bits = 18446744073709551616 := rfl
  rw [this]; unfold InU at ha; omega
theorem n_and_u {a b : Nat} (ha : InU a) (hb : InU b) : IntKind.u64.wrap ((((((a : Nat) : Int) % 2 ^ IntKind.u64.bits).toNat &&& (((b : Nat) : Int) % 2 ^ IntKind.u64.bits).toNat : Nat)) : Int) = ((a &&& b : Nat) : Int) := by
  rw [mod_in ha, mod_in hb]; exact wu64_in (and_lt_u ha)
theorem n_or_u {a b : Nat} (ha : InU a) (hb : InU b) : IntKind.u64.wrap ((((((a : Nat) : Int) % 2 ^ IntKind.u64.bits).toNat ||| (((b : Nat) : Int) % 2 ^ IntKind.u64.bits).toNat : Nat)) : Int) = ((a ||| b : Nat) : Int) := by
  rw [mod_in ha, mod_in hb]; exact wu64_in (or_lt_u ha hb)
theorem n_and_i {a b : Int} : IntKind.i64.wrap (((a % 2 ^ IntKind.i64.bits).toNat &&& (b % 2 ^ IntKind.i64.bits).toNat : Nat) : Int) = andI a b := wrap_sgn (and_lt_u (uns_r a))
theorem nz_u {b : Nat} (h : b ≠ 0) : ((b : Nat) : Int) ≠ 0 := by omega
theorem mk_le {B n : Nat} (hB : 0 < B) (h : B * n ≤ 281474976710656) : n ≤ 9223372036854775807 := by
  have := Nat.le_mul_of_pos_left n hB; omega
theorem set_len {α : Type} {l l' : List α} {k n : Nat} {y : α} (h : l' = l.set k y) (hl : l.length = n) : l'.length = n := by rw [h, List.length_set, hl]
theorem rep_len {α : Type} {l : List α} {n : Nat} {y : α} (h : l = List.replicate n y) : l.length = n := by rw [h, List.length_replicate]
theorem lt_of_len {j n m : Nat} (hj : j < m) (h : m = n) : j < n := h ▸ hj
theorem lt_of_len' {j n m : Nat} (hj : j < n) (h : m = n) : j < m := h ▸ hj
theorem pos_of_lt {j n : Nat} (h : j < n) : 0 < n := by omega
theorem og_make' {α : Type} {e : ERep α} {et : TypeId} {z : α} {xs : List α} {n bytes : Nat} {zero : Value} {yy : Operand} {kl kc : IntKind} (ht : P.underlying t = some (.slice et)) (het : TyF P et e.agg e.n bytes zero) (hx : ev env x = .int kl (n : Int)) (hy : ev env yy = .int kc (n : Int)) (hB : 0 < bytes) (hb : bytes * n ≤ 281474976710656)
    (hz : ∀ (S : Nat → Prop) (w : World), e.p S z zero.cells.toList w) (hxs : xs = List.replicate n z) : OG P ⟨d, .makeSlice t x yy, ty, pos, aft, g⟩ env we Se ms Γ (fun b => (.slice (some ⟨b, 0, none⟩) n n)) (fun b => (mB (rowT e n) et b xs :: ms)) (fun _ => Γ) (fun _ => True) := by
  subst hxs
  intro w hst
  refine (og_make ht het hx hy hb (mk_le hB hb) hz w hst).mono ?_
  rintro v w' ⟨b, h1, h2, h3⟩
  exact ⟨b, h1, h2, h3.rowRT 0 rfl (by simp)⟩
theorem og_store' {α β : Type} {e : CRep α} {E b : Nat} {z z2 : α} {f : ERep β} {o : Nat} {z' y' : β} {up : β → α} {bytes : Nat} {zero v : Value} (i : Nat) (hm : ms[i]? = some (mB e E b z)) (hx : ev env x = .pointer (some ⟨b, o, none⟩)) (hy : ev env y = v) (hsub : Sub e z o f z' up) (ht : TyF P t f.agg f.n bytes zero)
    (hv : ∀ (S : Nat → Prop) (w : World), All S Γ w → (fV f y' v).p S w) (hz : z2 = up y') : OG P ⟨none, .store t x y, ty, pos, aft, g⟩ env we Se ms Γ (fun _ : Unit => undef) (fun _ => (ms.set i (mB e E b z2))) (fun _ => Γ) (fun _ => True) := by
  subst hz; exact og_storeM i hm hx hy hsub ht hv
theorem og_append' {α : Type} {e : ERep α} {et : TypeId} {xs ys zs : List α} {v u : Value} {bytes : Nat} {zero : Value} (i : Nat)
    (ht : P.underlying t = some (.slice et)) (het : TyF P et e.agg e.n bytes zero) (hzs : zero.cells.size = e.n) (hn : 0 < e.n) (hB : 0 < bytes)
    (hm : ms[i]? = some (mO e et v xs)) (hx : ev env x = v) (hy : ev env y = u) (hf : ∀ (S : Nat → Prop) (w : World), All S Γ w → (fV (eS e) ys u).p S w)
    (hb : (xs.length + ys.length) * bytes ≤ 140737488355328) (hz : zs = xs ++ ys) :
    OG P ⟨d, .call ⟨.builtin .append, #[x, y], #[t, t]⟩, ty, pos, aft, g⟩ env we Se ms Γ (fun v' => v') (fun v' => ms.set i (mO e et v' zs)) (fun _ => Γ) (fun _ => True) := by
  subst hz
  exact og_append i ht het hzs hn hm hx hy hf (by have := Nat.le_mul_of_pos_right (xs.length + ys.length) hB; omega) hb
theorem og_appendQ' {α : Type} {e : ERep α} {et : TypeId} {xs ys zs : List α} {v u : Value} {bytes : Nat} {zero : Value} (i : Nat)
    (ht : P.underlying t = some (.slice et)) (het : TyF P et e.agg e.n bytes zero) (hzs : zero.cells.size = e.n) (hn : 0 < e.n) (hB : 0 < bytes)
    (hm : ms[i]? = some (mO e et v xs)) (hx : ev env x = v) (hy : ev env y = u) (hf : ∀ (S : Nat → Prop) (w : World), AllM S ms w → All S Γ w → SlQ e S ys u w)
    (hb : (xs.length + ys.length) * bytes ≤ 140737488355328) (hz : zs = xs ++ ys) :
    OG P ⟨d, .call ⟨.builtin .append, #[x, y], #[t, t]⟩, ty, pos, aft, g⟩ env we Se ms Γ (fun v' => v') (fun v' => ms.set i (mO e et v' zs)) (fun _ => Γ) (fun _ => True) := by
  subst hz
  exact og_appendQ i ht het hzs hn hm hx hy hf (by have := Nat.le_mul_of_pos_right (xs.length + ys.length) hB; omega) hb
theorem og_appendZ' {α : Type} {e : ERep α} {et : TypeId} {xs zs : List α} {z : α} {n : Nat} {v : Value} {bytes : Nat} {zero : Value} {ik : IntKind} (i : Nat) (ht : P.underlying t = some (.slice et)) (hti : P.underlying ti = some (.int ik)) (het : TyF P et e.agg e.n bytes zero) (hzs : zero.cells.size = e.n) (hn : 0 < e.n) (hB : 0 < bytes)
    (hm : ms[i]? = some (mO e et v xs)) (hx : ev env x = v) (hy : ev env y = .int .i64 (n : Int)) (hz : ∀ (S : Nat → Prop) (w : World), e.p S z zero.cells.toList w)
    (hb : (xs.length + n) * bytes ≤ 140737488355328) (he : zs = xs ++ List.replicate n z) :
    OG P ⟨d, .call ⟨.builtin .append, #[x, y], #[t, ti]⟩, ty, pos, aft, g⟩ env we Se ms Γ (fun v' => v') (fun v' => ms.set i (mO e et v' zs)) (fun _ => Γ) (fun _ => True) := by
  subst he
  exact og_appendZ i ht hti het hzs hn hm hx hy hz (by have := Nat.le_mul_of_pos_right (xs.length + n) hB; omega) hb
theorem og_copy' {α : Type} {e : ERep α} {et E b l dLen dCap cap bytes : Nat} {zero u : Value} {xs ys zs : List α} (i : Nat) (ht : P.underlying t = some (.slice et)) (het : TyF P et e.agg e.n bytes zero) (hn1 : e.n = 1) (hm : ms[i]? = some (mB (rowT e cap) E b xs)) (hx : ev env x = .slice (some ⟨b, 0 + l * e.n, none⟩) dLen dCap) (hy : ev env y = u)
    (hl : l + dLen ≤ xs.length) (hf : ∀ (S : Nat → Prop) (w : World), All S Γ w → (fV (eS e) ys u).p S w) (hz : zs = xs.take l ++ ys.take (min ys.length dLen) ++ xs.drop (l + min ys.length dLen)) : OG P ⟨d, .call ⟨.builtin .copy, #[x, y], #[t, t']⟩, ty, pos, aft, g⟩ env we Se ms Γ (fun n : Int => (.int .i64 n)) (fun n => (ms.set i (mB (rowT e cap) E b zs))) (fun _ => Γ) (fun _ => True) := by
  subst hz; exact og_copyM i ht het hn1 hm hx hy hl hf
theorem copy_len {α : Type} {xs ys zs : List α} {l m n : Nat} (hz : zs = xs.take l ++ ys.take (min ys.length m) ++ xs.drop (l + min ys.length m)) (hl : l + m ≤ xs.length) (hn : xs.length = n) : zs.length = n := by
  subst hz; simp; omega
end
section
variable {we : World} {Se : Nat → Prop} {ms : List MF} {Γ : List FF} {w : World} {α : Type} {e : ERep α} {E : TypeId} {xs : List α}
/-- a row as a slice to which more may be appended -/
theorem close_all {g cap n : Nat} (i : Nat) (h : St we Se ms Γ w) (hm : ms[i]? = some (mB (rowT e cap) E g xs)) (hl : xs.length = n) (hc : n ≤ cap) (hcm : cap ≤ 9223372036854775807) :
    St we Se (ms.set i (mO e E (.slice (some ⟨g, 0, none⟩) n cap) xs)) Γ w := by
  subst hl; exact h.closeF i hm hc hcm
theorem close_cut {g cap n m : Nat} {ys : List α} (i : Nat) (h : St we Se ms Γ w) (hm : ms[i]? = some (mB (rowT e cap) E g xs)) (hl : xs.length = m) (hc : m ≤ cap) (hn : n ≤ m) (hcm : cap ≤ 9223372036854775807) (hy : ys = xs.take n) :
    St we Se (ms.set i (mO e E (.slice (some ⟨g, 0, none⟩) n cap) ys)) Γ w := by
  subst hl; subst hy; exact h.closeO i n hm hn (Nat.le_trans hn hc) hcm
theorem fz_all {g cap n : Nat} (i : Nat) (h : St we Se ms Γ w) (hm : ms[i]? = some (mB (rowT e cap) E g xs)) (hl : xs.length = n) (hc : n ≤ cap) (hcm : cap ≤ 9223372036854775807) :
    St we Se (ms.eraseIdx i) (fV (eS e) xs (.slice (some ⟨g, 0, none⟩) n cap) :: Γ) w := fz_rowTF i h hm hl.symm ⟨hc, hcm⟩
end
end Go.Proofs.YtjnjfinbdfolkaaGreat
end

section
set_option linter.unusedVariables false
set_option linter.unusedSimpArgs false
namespace Go.Proofs.YtjnjfinbdfolkaaGreat
theorem inj1 {α : Type} {a x : α} (h : some a = some x) : a = x := Option.some.inj h
theorem inj2 {α β : Type} {a x : α} {b y : β} (h : some (a, b) = some (x, y)) : a = x ∧ b = y := Prod.mk.inj (Option.some.inj h)
theorem inj3 {α β γ : Type} {a x : α} {b y : β} {c z : γ} (h : some (a, b, c) = some (x, y, z)) : a = x ∧ b = y ∧ c = z := by cases h; exact ⟨rfl, rfl, rfl⟩
theorem inj4 {α β γ δ : Type} {a x : α} {b y : β} {c z : γ} {d t : δ} (h : some (a, b, c, d) = some (x, y, z, t)) : a = x ∧ b = y ∧ c = z ∧ d = t := by cases h; exact ⟨rfl, rfl, rfl, rfl⟩
theorem wu_y {x : Int} {c n : Nat} (h : c = n) (hb : x = (n : Int)) : x = (c : Int) := by rw [hb, h]
theorem sl_1 {l n : Nat} (h : l ≤ n) : l + (n - l) ≤ n := by omega
theorem sl_2 {l h n : Nat} (h1 : l ≤ h) (h2 : h ≤ n) : l + (h - l) ≤ n := by omega
theorem add64_r {x y z q : Nat} (hx : InU x) (hy : InU y) (hz : z ≤ 1) (h : q = (x + y + z) / 18446744073709551616) : InU q := by unfold InU at *; omega
theorem sub64_r {x y z q : Nat} (_ : InU x) (_ : InU y) (_ : z ≤ 1) (h : q = if x < y + z then 1 else 0) : InU q := by unfold InU; split at h <;> omega
theorem v_2 {P : Program} {env : Env} {o : Oper} {k k' : IntKind} {a b x y : Nat} (h : ∀ w, (execOp (ev env) o).run P w = .ok (.value (.tuple #[.int k ((a : Nat) : Int), .int k' ((b : Nat) : Int)])) w) (hx : x = a) (hy : y = b) :
    ∀ w, (execOp (ev env) o).run P w = .ok (.value (.tuple #[.int k ((x : Nat) : Int), .int k' ((y : Nat) : Int)])) w := by subst hx; subst hy; exact h
section
variable {we : World} {Se : Nat → Prop} {ms : List MF} {Γ : List FF} {α : Type} {e : ERep α}
theorem src_part {E b cap l m c n : Nat} {xs ys : List α} (i : Nat) (hm : ms[i]? = some (mB (rowT e cap) E b xs)) (hL : xs.length = n) (hl : l + m ≤ n) (hmc : m ≤ c) (hc : c ≤ 9223372036854775807) (hy : ys = (xs.drop l).take m)
    (S : Nat → Prop) (w : World) (hM : AllM S ms w) (h : All S Γ w) : SlQ e S ys (.slice (some ⟨b, 0 + l * e.n, none⟩) m c) w := by
  subst hL; subst hy; exact src_rowT i hm hl hmc hc S w hM h
end
def JG (we : World) (Se : Nat → Prop) (i : Inv) (R : Env → World → Prop) (rest : Env) : Prop := ∀ w, St we Se i.ms i.Γ w → R (L i.live rest) w
theorem JQ_el' {we : World} {Se : Nat → Prop} {G : Type} {inv : G → Inv} {ok : G → Prop} {R : Env → World → Prop} (k : ∀ g, ok g → ∀ rest, JG we Se (inv g) R rest) :
    ∀ env w, JQ we Se inv ok env w → R env w := JQ_el k
theorem JG_to {we : World} {Se : Nat → Prop} {i : Inv} {R : Env → World → Prop} {rest : Env} {ms' : List MF} {Γ' : List FF} {live' : List (Nat × Value)} (h : i = ⟨ms', Γ', live'⟩) (k : ∀ w, St we Se ms' Γ' w → R (L live' rest) w) : JG we Se i R rest := by
  subst h; exact k
theorem T_loop_s {P : Program} {N : Nat} {we : World} {Se : Nat → Prop} {ms : List MF} {Γ : List FF} {Q : Qs} {env : Env} {c : Code} {G σ' ρ : Type} {s1 : ρ} {f : (σ' → Option ρ) → σ' → Option ρ} {k : G → Nat} {σ : G → σ'} (inv : G → Inv) (ok : G → Prop) (g₀ : G)
    (h₀ : loopN f (k g₀) (σ g₀) = some s1) (h₁ : ok g₀) (hl : agree env (inv g₀).live) (hs : ∀ w, St we Se ms Γ w → St we Se (inv g₀).ms (inv g₀).Γ w)
    (round : ∀ g, loopN f (k g) (σ g) = some s1 ∧ ok g → ∀ rest, T P N we Se (inv g).ms (inv g).Γ c (thenQ (LoopQ we Se inv (fun g => loopN f (k g) (σ g) = some s1 ∧ ok g) k g) Q) (L (inv g).live rest)) :
    T P N we Se ms Γ (.loop c) Q env := T_loop inv (fun g => loopN f (k g) (σ g) = some s1 ∧ ok g) k g₀ ⟨h₀, h₁⟩ hl hs round
theorem St_round_s {we : World} {Se : Nat → Prop} {ms : List MF} {Γ : List FF} {env : Env} {G σ' ρ : Type} {s1 : ρ} {f : (σ' → Option ρ) → σ' → Option ρ} {k : G → Nat} {σ : G → σ'} {inv : G → Inv} {ok : G → Prop} {g : G} (g' : G)
    (h : loopN f (k g') (σ g') = some s1) (h1 : ok g') (h2 : k g' < k g) (h3 : agree env (inv g').live) (hs : ∀ w, St we Se ms Γ w → St we Se (inv g').ms (inv g').Γ w) :
    ∀ w, St we Se ms Γ w → LoopQ we Se inv (fun g => loopN f (k g) (σ g) = some s1 ∧ ok g) k g env w := St_round g' ⟨h, h1⟩ h2 h3 hs
theorem ob_VE {P : Program} {o : Oper} {env : Env} {w : World} {S : Nat → Prop} {v : Value} {p : Prop} (h : ∀ w, (execOp (ev env) o).run P w = .ok (.value v) w) (hp : p) :
    OpR P o env w (fun v' w' => Ext w w' ∧ (prE (fun _ : Unit => v) (fun _ => []) (fun _ => p)).p S v' w') := OpR.of_value (h w) ⟨Keeps.refl _ _, (), rfl, hp, trivial⟩
def sansGoto (Q : Qs) : Qs
  | .goto _, _, _ => False
  | e, env, w => Q e env w
theorem T_scope {P : Program} {N : Nat} {we : World} {Se : Nat → Prop} {ms : List MF} {Γ : List FF} {Q : Qs} {env : Env} {c : Code} (h : T P N we Se ms Γ c (sansGoto Q) env) : T P N we Se ms Γ (.scope c) Q env := by
  intro w hw a h1 h2 h3
  refine wp_scope_straight (wp_mono (h w hw a h1 h2 h3) ?_)
  intro e a' w' ⟨q1, q2, q3⟩
  cases e <;> first | exact ⟨q1, q2, q3⟩ | exact q3.elim
section
variable {P : Program} {N : Nat} {we : World} {Se : Nat → Prop} {ms : List MF} {Γ : List FF} {Q : Qs} {env : Env} {ops : Array Oper} {d : Option Tmp} {ty t : TypeId} {pos : String} {aft : Array Edge} {g : Option (Nat × Bool)}
theorem oe_zero {α : Type} {e : ERep α} {z : α} {bytes : Nat} {zero : Value} (ht : TyF P t true e.n bytes zero) (hag : e.agg = true) (hzs : zero.cells.size = e.n)
    (hpl : (∃ fs, P.underlying t = some (.struct fs) ∧ ∃ pl : Array (Nat × Nat), (∀ w, (fs.mapM (fun f => do pure (f.offset, ← sizeOf f.type)) : Sem (Array (Nat × Nat))).run P w = .ok pl w)) ∨
      (∃ k et n b2 z2 ag2, P.underlying t = some (.array k et) ∧ TyF P et ag2 n b2 z2))
    (hp : ∀ (S : Nat → Prop) (w : World), e.p S z zero.cells.toList w) :
    OpE P ⟨d, .build t #[], ty, pos, aft, g⟩ env ms Γ (fun v : Value => v) (fun v => [fV e z v]) (fun _ => True) := by
  intro w S _ _ hΓ
  refine OpR.of_value (w' := w) (v := .agg zero.cells) ?_ ⟨_, rfl, trivial, Keeps.refl _ _, ⟨⟨zero.cells.toList, by simp [ERep.val, hag], hp S w⟩, trivial⟩⟩
  have hb : (Instr.build t #[]).run P w = .ok (.agg zero.cells) w := by
    unfold Instr.build
    rcases hpl with ⟨fs, hu, pl, hpl⟩ | ⟨k, et, n, b2, z2, ag2, hu, hte⟩
    · simp only [Sem.run_bind, run_zeroValue ht, Result.andThen_ok, run_underlying hu, hpl, Sem.run_pure, Instr.fill]
    · simp [Sem.run_bind, run_zeroValue ht, Result.andThen_ok, run_underlying hu, run_sizeOf hte, Sem.run_pure, Instr.fill]
  simp [execOp, hb]
theorem fP_alen {α : Type} {e : ERep α} {k : Nat} {x : List α} {v : Value} {S : Nat → Prop} {w : World} (h : (fP (eA k e) x v).p S w) : x.length = k := by
  obtain ⟨b, o, cs, _, _, _, h, _⟩ := h; exact h
theorem T_alen {α : Type} {e : ERep α} {k E b : Nat} {x : List α} {c : Code} (i : Nat) (hm : ms[i]? = some (mB (ERep.c (eA k e)) E b x)) (h : x.length = k → T P N we Se ms Γ c Q env) : T P N we Se ms Γ c Q env :=
  T_pure (fun w hw => mut_frame hw hm fun S ⟨cs, _, h, _⟩ => h) h
theorem TL_alen {α : Type} {e : ERep α} {k E b : Nat} {x : List α} {c : List Oper} (i : Nat) (hm : ms[i]? = some (mB (ERep.c (eA k e)) E b x)) (h : x.length = k → TL P N we Se ms Γ ops c Q env) : TL P N we Se ms Γ ops c Q env :=
  fun w hw => h (mut_frame hw hm fun S ⟨cs, _, h, _⟩ => h) w hw
theorem Ret_cN {α : Type} {e : ERep α} {E b : Nat} {z : α} {w : World} {bytes : Nat} {zero : Value} {U : Type} {val : U → Value} {facts : U → List FF} {ok : U → Prop} {fn : Func} {x : Exit} (a : Tmp) (i : Nat) (hw : St we Se ms Γ w) (hm : ms[i]? = some (mB e.c E b z)) (ha : env a = .pointer (some ⟨b, 0, none⟩))
    (ht : TyF P E e.agg e.n bytes zero) (k : ∀ v, St we Se ms (fV e z v :: Γ) w → resE P w env (.cell a E) v → RetQ P fn we Se val facts ok x env w) : RetQ P fn we Se val facts ok x env w := Ret_cell i hw hm ha ht k
/-- where a struct's fields lie -/
def plB (P : Program) (t : TypeId) : Option (Array (Nat × Nat)) := match P.underlying t with
  | some (.struct fs) => (fs.toList.mapM fun f => (P.info? f.type).map fun i => (f.offset, i.size)).map (·.toArray)
  | _ => none
theorem plB_list (w : World) : ∀ (l : List Field) (r : List (Nat × Nat)), (l.mapM fun f => (P.info? f.type).map fun i => (f.offset, i.size)) = some r → (l.mapM (fun f => do pure (f.offset, ← sizeOf f.type)) : Sem (List (Nat × Nat))).run P w = .ok r w
  | [], r, h => by simp at h; subst h; simp
  | f :: l, r, h => by
    rw [List.mapM_cons] at h
    cases hi : P.info? f.type with
    | none => rw [hi] at h; simp at h
    | some i =>
      rw [hi] at h
      cases hl : (l.mapM fun f => (P.info? f.type).map fun i => (f.offset, i.size)) with
      | none => rw [hl] at h; simp at h
      | some q =>
        rw [hl] at h
        simp at h
        subst h
        have ih := plB_list w l q hl
        have hs : (sizeOf f.type).run P w = .ok i.size w := by simp [sizeOf, typeInfo, hi]
        rw [List.mapM_cons]
        simp only [Sem.run_bind, hs, ih, Result.andThen_ok, Sem.run_pure]
theorem plB_run {pl : Array (Nat × Nat)} (h : plB P t = some pl) : ∃ fs, P.underlying t = some (.struct fs) ∧ ∀ w, (fs.mapM (fun f => do pure (f.offset, ← sizeOf f.type)) : Sem (Array (Nat × Nat))).run P w = .ok pl w := by
  unfold plB at h
  split at h
  · next fs hu =>
    refine ⟨fs, hu, fun w => ?_⟩
    cases hl : (fs.toList.mapM fun f => (P.info? f.type).map fun i => (f.offset, i.size)) with
    | none => rw [hl] at h; cases h
    | some q =>
      rw [hl] at h
      cases h
      have := plB_list w fs.toList q hl
      rw [Array.mapM_eq_mapM_toList]
      simp only [Sem.run_map, this, Result.andThen_ok]
  · cases h
theorem plx {pl : Array (Nat × Nat)} {vs : List (Nat × Value)} (h : ∃ fs, P.underlying t = some (.struct fs) ∧ ∀ w, (fs.mapM (fun f => do pure (f.offset, ← sizeOf f.type)) : Sem (Array (Nat × Nat))).run P w = .ok pl w) (hok : ∀ (S : Nat → Prop) (w : World), All S Γ w → fillOK (pl[·]?) vs 0) :
    ∃ fs, P.underlying t = some (.struct fs) ∧ ∃ pl : Array (Nat × Nat), (∀ w, (fs.mapM (fun f => do pure (f.offset, ← sizeOf f.type)) : Sem (Array (Nat × Nat))).run P w = .ok pl w) ∧ (∀ (S : Nat → Prop) (w : World), All S Γ w → fillOK (pl[·]?) vs 0) :=
  let ⟨fs, h1, h2⟩ := h; ⟨fs, h1, pl, h2, hok⟩
theorem plz {pl : Array (Nat × Nat)} (h : ∃ fs, P.underlying t = some (.struct fs) ∧ ∀ w, (fs.mapM (fun f => do pure (f.offset, ← sizeOf f.type)) : Sem (Array (Nat × Nat))).run P w = .ok pl w) :
    ∃ fs, P.underlying t = some (.struct fs) ∧ ∃ pl : Array (Nat × Nat), (∀ w, (fs.mapM (fun f => do pure (f.offset, ← sizeOf f.type)) : Sem (Array (Nat × Nat))).run P w = .ok pl w) :=
  let ⟨fs, h1, h2⟩ := h; ⟨fs, h1, pl, h2⟩
theorem wu8 (n : Nat) : IntKind.u8.wrap (n : Int) = ((n % 256 : Nat) : Int) := by
  simp [IntKind.wrap, IntKind.bits, IntKind.signed]
theorem mod8_r {x e : Nat} (h : x = e % 256) : x < 256 := h ▸ Nat.mod_lt _ (by decide)
theorem b_r {x : Nat} (h : x < 256) : InR (x : Int) := ⟨by omega, by omega⟩
theorem r_len8 {x y : Operand} {s : ByteArray} {k : IntKind} {j z : Nat} (ht : P.underlying t = some .string) (hx : ev env x = .string s) (hs : s = Lib.len8tab) (hy : ev env y = .int k (j : Int)) (hj : j < 256) (hz : z = Lib.bitLen j) (w : World) :
    (execOp (ev env) ⟨d, .index t x y, ty, pos, aft, g⟩).run P w = .ok (.value (.int .u8 ((z : Nat) : Int))) w := by
  subst hs; subst hz
  have h := Lib.run_index_len8tab (P := P) w t k (j : Int) ht (by omega) (by omega)
  rw [Lib.len8_of _ (by omega) (by omega)] at h
  simp [execOp, hx, hy, h]
theorem bitLen8_r {j z : Nat} (hj : j < 256) (hz : z = Lib.bitLen j) : z < 256 := by
  have := Lib.bitLen_le8' (j : Int) (by omega) (by omega)
  simp at this; omega
/-- a struct of which one part is told -/
theorem fill_one {place : Nat → Option (Nat × Nat)} {i off : Nat} {v : Value} {pre c post : List Value} (hp : place i = some (off, v.cells.size)) (ho : pre.length = off) (hc : c.length = v.cells.size) :
    Instr.fill place (pre ++ c ++ post).toArray [(i, v)] = some (pre ++ v.cells.toList ++ post).toArray := by
  subst ho
  have hfold : v.cells.zipIdx.foldl (fun cs (x : Value × Nat) => cs.setIfInBounds (pre.length + x.2) x.1) (pre ++ c ++ post).toArray = (pre ++ v.cells.toList ++ post).toArray := by
    apply Array.ext'
    rw [← Array.foldl_toList, Array.toList_zipIdx, foldl_set pre.length v.cells.toList 0 _ (by simp; omega)]
    have e1 : (pre ++ c ++ post).take pre.length = pre := by rw [List.append_assoc, List.take_left']; rfl
    have e2 : (pre ++ c ++ post).drop (pre.length + v.cells.toList.length) = post := by
      rw [List.drop_left']; simp; omega
    simp only [Nat.add_zero, List.toList_toArray] at *
    rw [e1, e2]
  unfold Instr.fill
  simp only [hp]
  rw [if_neg (by simp; omega)]
  refine (congrArg (fun a => Instr.fill place a []) hfold).trans ?_
  simp [Instr.fill]
theorem oe_build1 {α β : Type} {e : ERep α} {f : ERep β} {z0 z : α} {x0 y : β} {up : β → α} {off i bytes : Nat} {zero v : Value} {x : Operand} {pl : Array (Nat × Nat)} (ht : TyF P t true e.n bytes zero) (hag : e.agg = true)
    (hz : ∀ (S : Nat → Prop) (w : World), e.p S z0 zero.cells.toList w) (hsub : Sub e.c z0 off f x0 up) (hpl : ∃ fs, P.underlying t = some (.struct fs) ∧ ∀ w, (fs.mapM (fun f => do pure (f.offset, ← sizeOf f.type)) : Sem (Array (Nat × Nat))).run P w = .ok pl w)
    (hpi : pl[i]? = some (off, f.n)) (hx : ev env x = v) (hf : ∀ (S : Nat → Prop) (w : World), All S Γ w → (fV f y v).p S w) (hy : z = up y) :
    OpE P ⟨d, .build t #[(i, x)], ty, pos, aft, g⟩ env ms Γ (fun v : Value => v) (fun v => [fV e z v]) (fun _ => True) := by
  subst hy
  intro w S _ _ hΓ
  obtain ⟨pre, c, post, h1, h2, h3, h4⟩ := hsub S w _ (hz S w)
  have hfv := hf S w hΓ
  have hc := fV_cells hfv
  have hn := f.len hc
  have hn' : v.cells.size = f.n := by simpa using hn
  have hcl := f.len h3
  have hfin := h4 w y v.cells.toList (Keeps.refl _ _) hc
  refine OpR.of_value (w' := w) (v := .agg (pre ++ v.cells.toList ++ post).toArray) ?_ ⟨_, rfl, trivial, Keeps.refl _ _, ⟨⟨pre ++ v.cells.toList ++ post, by simp [ERep.val, hag], hfin⟩, trivial⟩⟩
  have hzc : zero.cells = (pre ++ c ++ post).toArray := by rw [← h1]
  obtain ⟨fs, hu, hrun⟩ := hpl
  have hfill : Instr.fill (pl[·]?) (pre ++ c ++ post).toArray [(i, v)] = some (pre ++ v.cells.toList ++ post).toArray := fill_one (by rw [hpi, hn']) h2 (by rw [hcl, hn'])
  have hb : (Instr.build t #[(i, v)]).run P w = .ok (.agg (pre ++ v.cells.toList ++ post).toArray) w := by
    unfold Instr.build
    simp only [Sem.run_bind, run_zeroValue ht, Result.andThen_ok, run_underlying hu, hrun, hzc, hfill, Sem.run_pure]
  simp [execOp, hx, hb]
theorem alt {j k n : Nat} (h : j < k) (hn : n = k) : j < n := hn ▸ h
end
end Go.Proofs.YtjnjfinbdfolkaaGreat
end

section
set_option linter.unusedVariables false
set_option linter.unusedSimpArgs false
namespace Go.Proofs.YtjnjfinbdfolkaaGreat
def ins (D : Nat → Bool) (i : Nat) : Nat → Bool := fun k => D k || Nat.beq k i
theorem ins_self (D : Nat → Bool) (i : Nat) : ins D i i = true := by simp [ins]
theorem ins_ne {D : Nat → Bool} {i k : Nat} (h : k ≠ i) : ins D i k = D k := by simp [ins, beq_no h]
theorem ins_old {D : Nat → Bool} {i k : Nat} (h : D k = true) : ins D i k = true := by simp [ins, h]
section
variable {P : Program} {N : Nat} {we : World} {Se : Nat → Prop} {ms : List MF} {Γ : List FF} {Q : Qs} {env0 : Env} {l : List Oper} {m : Nat}
theorem T_inv {id : Nat} (m : Nat) (I : (Nat → Bool) → Env → World → Prop) (hm : P.follows .mixedOrders = true) (hc : drawOK2 l m = true) (hd : (l.all fun o => okDst N o.dst) = true)
    (h00 : ∀ w, St we Se ms Γ w → I (fun _ => false) env0 w)
    (step : ∀ (D : Nat → Bool) (i : Nat) (env : Env) (w : World), i < m → D i = false → (∀ j, D j = true → j < m) → (∀ e ∈ (opAt l i).after, Region.binds .any e = true → D e.on = true) →
      (∀ j, D j = true → ∀ e ∈ (opAt l j).after, Region.binds .any e = true → D e.on = true) → I D env w →
      (wantedE l.toArray env (opAt l i) = true → OpR P (opAt l i) env w (fun v w' => I (ins D i) (put env (opAt l i).dst v) w')) ∧
      (wantedE l.toArray env (opAt l i) = false → I (ins D i) (put env (opAt l i).dst undef) w))
    (fin : ∀ (D : Nat → Bool) (env : Env) (w : World), (∀ j, j < m → D j = true) → (∀ j, D j = true → j < m) → I D env w → WpL P N l.toArray (l.drop m) Q env w) :
    T P N we Se ms Γ (.region id l.toArray true) Q env0 := by
  intro w0 hst a0 ha1 ha2 ha3
  obtain ⟨h0, h1, h2, h3, h3'⟩ := draw_parts2 hc
  refine wp_region_any hm ?_
  have gE : ∀ {listed : Array Bool} {i : Nat}, i < listed.size → listed.getD i true = listed.getD i false := fun {listed i} h => by
    simp [Array.getD_eq_getD_getElem?, Array.getElem?_eq_getElem h]
  have gO : ∀ {listed : Array Bool} {i : Nat}, listed.getD i false = true → i < listed.size := fun {listed i} h => by
    rcases Nat.lt_or_ge i listed.size with hlt | hge
    · exact hlt
    · simp [Array.getD_eq_getD_getElem?, Array.getElem?_eq_none hge] at h
  have key : ∀ (fuel : Nat) (listed : Array Bool) (a : Act) (w : World), (List.range l.length).countP (fun k => !listed.getD k true) ≤ fuel → listed.size = l.length → a.tmps.size = N → a.defers = [] →
      (∀ i, m ≤ i → i < l.length → listed.getD i true = false) →
      (∀ i, i < l.length → listed.getD i false = true → ∀ e ∈ (opAt l i).after, Region.binds .any e = true → listed.getD e.on false = true) →
      I (fun i => listed.getD i false) (envOf a) w → wpAny P .any l.toArray (lift N Q) fuel listed a w := by
    intro fuel
    induction fuel with
    | zero =>
      intro listed a w hcnt hsz b1 b2 htail hdown hI
      have hall : ∀ k, k < l.length → listed.getD k true = true := fun k hk => by
        have hz : (List.range l.length).countP (fun k => !listed.getD k true) = 0 := by omega
        rw [List.countP_eq_zero] at hz
        have := hz k (List.mem_range.2 hk)
        simpa using this
      have hml : m = l.length := by
        rcases Nat.lt_or_ge m l.length with hlt | hge
        · have h5 := htail m (Nat.le_refl _) hlt; rw [hall m hlt] at h5; cases h5
        · omega
      refine any_tail2 hc 0 m listed a w (Nat.le_refl _) h0 (by omega) hsz (fun k hk => by rw [hall k hk]; simp; omega) ?_
      exact fin _ _ w (fun j hj => by rw [← gE (by omega)]; exact hall j (by omega)) (fun j hj => by have := gO hj; omega) hI a b1 b2 rfl
    | succ fuel ih =>
      intro listed a w hcnt hsz b1 b2 htail hdown hI
      by_cases hall : ∀ k, k < m → listed.getD k true = true
      · have hli : ∀ k, k < l.length → listed.getD k true = decide (k < m) := fun k hk => by
          by_cases hkm : k < m
          · rw [hall k hkm]; simp [hkm]
          · rw [htail k (by omega) hk]; simp [hkm]
        refine any_tail2 hc (fuel + 1) m listed a w (Nat.le_refl _) h0 (Nat.le_trans ?_ hcnt) hsz hli ?_
        · rw [show (List.range l.length).countP (fun k => !listed.getD k true) = (List.range l.length).countP (fun k => !decide (k < m)) from List.countP_congr fun k hk => by rw [hli k (List.mem_range.1 hk)]]
          exact T_draw.count_ge m [] m l.length
        · refine fin _ _ w (fun j hj => by rw [← gE (by omega)]; exact hall j hj) (fun j hj => ?_) hI a b1 b2 rfl
          rcases Nat.lt_or_ge j m with h | h
          · exact h
          · have hjs := gO hj
            rw [← gE hjs, htail j h (by omega)] at hj; cases hj
      · have hex : ∃ k, k < m ∧ listed.getD k true = false := by
          by_cases hh : ∃ k, k < m ∧ listed.getD k true = false
          · exact hh
          · exact absurd (fun k hk => by
              cases hb : listed.getD k true
              · exact absurd ⟨k, hk, hb⟩ hh
              · rfl) hall
        refine ⟨fun hr => ?_, fun i hi => ?_⟩
        · exfalso
          obtain ⟨k, hk, hku, hmin⟩ := T_draw.first_un m [] hex
          have : k ∈ Region.ready .any l.toArray listed := mem_ready.2 ⟨hku, opAt l k, opAt_eq (by omega), fun e he hb => by
            have h5 := h1 k (by omega) e he hb
            have h6 := hmin e.on h5
            rwa [gE (by omega : e.on < listed.size)] at h6⟩
          rw [hr] at this; cases this
        · obtain ⟨hu, o, ho, hedge⟩ := mem_ready.1 hi
          have hil : i < l.length := by simpa using (Array.getElem?_eq_some_iff.1 ho).1
          rw [opAt_eq hil] at ho
          cases ho
          have him : i < m := by
            rcases Nat.lt_or_ge i m with h | h
            · exact h
            · exfalso
              by_cases hmi : m = i
              · subst hmi
                obtain ⟨k, hk, hku⟩ := hex
                have h6 := reach_listed hdown h1 16 m k hil hedge (h3' hil k hk)
                rw [← gE (by omega : k < listed.size), hku] at h6
                cases h6
              · obtain ⟨e, he, hb, hon⟩ := edge_of (h3 i (by omega) hil)
                have h6 := hedge e he hb
                rw [hon, ← gE (by omega : i - 1 < listed.size), htail (i - 1) (by omega) (by omega)] at h6
                cases h6
          have hisz : i < listed.size := by omega
          have hdi : okDst N (opAt l i).dst = true := by
            rw [List.all_eq_true] at hd
            refine hd _ ?_
            have : opAt l i = l[i] := by simp [opAt, hil]
            rw [this]; exact List.getElem_mem _
          have hlow : ∀ j, (fun i => listed.getD i false) j = true → j < m := fun j hj => by
            rcases Nat.lt_or_ge j m with h | h
            · exact h
            · have hjs := gO hj
              have hj' : listed.getD j false = true := hj
              rw [← gE hjs, htail j h (by omega)] at hj'; cases hj'
          have hs := step (fun i => listed.getD i false) i (envOf a) w him (by rw [← gE hisz]; exact hu) hlow hedge (fun j hj => hdown j (by have := hlow j hj; omega) hj) hI
          have hins : (fun k => (listed.setIfInBounds i true).getD k false) = ins (fun i => listed.getD i false) i := by
            funext k
            by_cases hki : i = k
            · subst hki; rw [ins_self]; simp [hisz]
            · rw [getD_set_ne false hki, ins_ne (fun e => hki e.symm)]
          have next : ∀ v w', I (ins (fun i => listed.getD i false) i) (put (envOf a) (opAt l i).dst v) w' → wpAny P .any l.toArray (lift N Q) fuel (listed.setIfInBounds i true) (a.put (opAt l i).dst v) w' := by
            intro v w' hv
            refine ih _ _ w' ?_ (by simpa using hsz) (by rw [size_put]; exact b1) (by rw [defers_put]; exact b2) (fun k hmk hk => ?_) (fun k hk hlk e he hb => ?_) ?_
            · have := (count_set hisz hu (List.range l.length)).2 (List.mem_range.2 hil)
              omega
            · rw [getD_set_ne true (by omega)]; exact htail k hmk hk
            · by_cases hki : i = k
              · subst hki; exact getD_set_true (hedge e he hb)
              · rw [getD_set_ne false hki] at hlk; exact getD_set_true (hdown k hk hlk e he hb)
            · rw [envOf_put (by rw [b1]; exact okDst_lt hdi), hins]; exact hv
          unfold wpOp
          rw [opAt_eq hil]
          simp only [wanted_eq]
          cases hwnt : wantedE l.toArray (envOf a) (opAt l i)
          · simp only [Bool.false_eq_true, if_false]
            exact next undef w (hs.2 hwnt)
          · simp only [if_true]
            exact .inl ((hs.1 hwnt).wp fun v w' hvw => next v w' hvw)
  refine key l.toArray.size _ a0 _ ?_ (by simp) ha1 ha2 (fun i hmi hi => by simp [hi]) (fun i hi hlt => ?_) ?_
  · exact Nat.le_trans (List.countP_le_length) (by simp)
  · have := gO hlt
    rw [← gE this] at hlt; simp [hi] at hlt
  · have hf : (fun i => (Array.replicate l.toArray.size false).getD i false) = fun _ => false := by
      funext i
      simp only [Array.getD_eq_getD_getElem?, Array.getElem?_replicate]
      split <;> rfl
    rw [hf, ha3]
    exact h00 _ (hst.ext (Ext.drawn w0 _))
end
end Go.Proofs.YtjnjfinbdfolkaaGreat
end

section
set_option linter.unusedVariables false
set_option linter.unusedSimpArgs false
namespace Go.Proofs.YtjnjfinbdfolkaaGreat
theorem allM_mem {S : Nat → Prop} {w : World} : ∀ {ms : List MF}, AllM S ms w ↔ ∀ m ∈ ms, m.p S w
  | [] => ⟨fun _ m h => absurd h List.not_mem_nil, fun _ => trivial⟩
  | m :: r => by
    have ih := allM_mem (S := S) (w := w) (ms := r)
    constructor
    · intro h x hx
      rcases List.mem_cons.1 hx with rfl | hx
      · exact h.1
      · exact ih.1 h.2 x hx
    · intro h
      exact ⟨h m (List.mem_cons_self ..), ih.2 fun x hx => h x (List.mem_cons_of_mem _ hx)⟩
theorem apart_pw : ∀ {ms : List MF}, Apart ms ↔ ms.Pairwise (fun m m' => ∀ k, m.blk = some k → m'.blk ≠ some k)
  | [] => ⟨fun _ => List.Pairwise.nil, fun _ => trivial⟩
  | m :: r => by
    rw [List.pairwise_cons]
    have ih := apart_pw (ms := r)
    exact ⟨fun h => ⟨fun m' hm' k hk => h.1 k hk m' hm', ih.1 h.2⟩, fun h => ⟨fun k hk m' hm' => h.1 m' hm' k hk, ih.2 h.2⟩⟩
theorem St.perm {we : World} {Se : Nat → Prop} {ms ms' : List MF} {Γ : List FF} {w : World} (h : St we Se ms Γ w) (hp : ms.Perm ms') : St we Se ms' Γ w := by
  obtain ⟨h1, h2, h3, S, h4, h5, h6, h7, h8⟩ := h
  refine ⟨h1, h2, apart_pw.2 ((hp.pairwise_iff fun {x y} hxy k hk hc => hxy k hc hk).1 (apart_pw.1 h3)), S, h4, h5, fun m hm => h6 m (hp.mem_iff.2 hm), allM_mem.2 fun m hm => allM_mem.1 h7 m (hp.mem_iff.2 hm), h8⟩
def ptrBlk : Value → Option Nat
  | .pointer (some ⟨b, _, _⟩) => some b
  | _ => none
/-- the variable that a pointer points to, by the pointer -/
def mP {α : Type} (e : CRep α) (E : TypeId) (v : Value) (z : α) : MF where
  blk := ptrBlk v
  p S w := ∃ b, v = .pointer (some ⟨b, 0, none⟩) ∧ (mB e E b z).p S w
  keep := fun ⟨b, h1, h2⟩ k hb => ⟨b, h1, (mB e E b z).keep h2 k fun i hi => hb i (by rw [h1]; exact hi)⟩
  sub := fun ⟨b, h1, h2⟩ k => ⟨b, h1, (mB e E b z).sub h2 k⟩
  lt := fun ⟨b, h1, h2⟩ k hk => (mB e E b z).lt h2 k (by rw [h1] at hk; exact hk)
theorem St.openP {α : Type} {e : CRep α} {E : TypeId} {v : Value} {z : α} {we : World} {Se : Nat → Prop} {ms : List MF} {Γ : List FF} {w : World} (i : Nat) (h : St we Se ms Γ w) (hm : ms[i]? = some (mP e E v z)) :
    ∃ b, v = .pointer (some ⟨b, 0, none⟩) ∧ St we Se (ms.set i (mB e E b z)) Γ w := by
  obtain ⟨S, hp, _⟩ := h.muts hm
  obtain ⟨b, hv, _⟩ := hp
  subst hv
  exact ⟨b, rfl, h.conv hm rfl fun S ⟨b', h1, h2⟩ => by cases h1; exact h2⟩
theorem St.toP {α : Type} {e : CRep α} {E : TypeId} {b : Nat} {z : α} {we : World} {Se : Nat → Prop} {ms : List MF} {Γ : List FF} {w : World} (i : Nat) (h : St we Se ms Γ w) (hm : ms[i]? = some (mB e E b z)) :
    St we Se (ms.set i (mP e E (.pointer (some ⟨b, 0, none⟩)) z)) Γ w := h.conv hm rfl fun S h => ⟨b, rfl, h⟩
theorem holdK_keep {K : List (Tmp × Pr)} {env0 env : Env} {S : Nat → Prop} {w w' : World} {t : Tmp} (h : holdK K env0 env S w t) (k : Keeps S w w') : holdK K env0 env S w' t := by
  unfold holdK at *
  cases hf : K.find? (fun x => Nat.beq x.1 t) with
  | none => rw [hf] at h; exact h
  | some x => rw [hf] at h; exact x.2.keepS h k
theorem holdK_sub {K : List (Tmp × Pr)} {env0 env : Env} {S S' : Nat → Prop} {w : World} {t : Tmp} (h : holdK K env0 env S w t) (k : ∀ k, k < w.heap.size → S k → S' k) : holdK K env0 env S' w t := by
  unfold holdK at *
  cases hf : K.find? (fun x => Nat.beq x.1 t) with
  | none => rw [hf] at h; exact h
  | some x => rw [hf] at h; exact x.2.sub h k
def fHold (K : List (Tmp × Pr)) (env0 env : Env) (ts : List Tmp) : FF where
  p S w := HoldL K env0 env S w ts
  keep := fun {S w w'} h k => by
    induction ts with
    | nil => trivial
    | cons t ts ih => exact ⟨holdK_keep h.1 k, ih h.2⟩
  sub := fun {S S' w} h k => by
    induction ts with
    | nil => trivial
    | cons t ts ih => exact ⟨holdK_sub h.1 k, ih h.2⟩
section
variable {we : World} {Se : Nat → Prop} {ms : List MF} {Γ : List FF} {w : World} {K : List (Tmp × Pr)} {env0 env : Env} {t : Tmp} {ts : List Tmp}
theorem St.factS {F : FF} (h : St we Se ms (F :: Γ) w) : ∃ S, F.p S w ∧ ∀ (Δ : List FF), (All S (F :: Γ) w → All S Δ w) → St we Se ms Δ w := by
  obtain ⟨h1, h2, h3, S, h4, h5, h6, h7, h8⟩ := h
  exact ⟨S, h8.1, fun Δ n => ⟨h1, h2, h3, S, h4, h5, h6, h7, n h8⟩⟩
theorem St.openE {U : Type} {val : U → Value} {facts : U → List FF} {ok : U → Prop} {t' : Tmp} (h : St we Se ms (fHold K env0 env (t :: ts) :: Γ) w) (hf : K.find? (fun x => Nat.beq x.1 t) = some (t', prE val facts ok)) :
    ∃ u, env t = val u ∧ ok u ∧ St we Se ms (fHold K env0 env ts :: (facts u ++ Γ)) w := by
  obtain ⟨S, hp, k⟩ := h.factS
  have h1 := hp.1
  unfold holdK at h1
  rw [hf] at h1
  obtain ⟨u, e1, e2, e3⟩ := h1
  exact ⟨u, e1, e2, k _ fun a => ⟨a.1.2, All.append e3 a.2⟩⟩
theorem St.openV {v : Value} {t' : Tmp} (h : St we Se ms (fHold K env0 env (t :: ts) :: Γ) w) (hf : K.find? (fun x => Nat.beq x.1 t) = some (t', prV v)) :
    env t = v ∧ St we Se ms (fHold K env0 env ts :: Γ) w := by
  obtain ⟨S, hp, k⟩ := h.factS
  have h1 := hp.1
  unfold holdK at h1
  rw [hf] at h1
  exact ⟨h1, k _ fun a => ⟨a.1.2, a.2⟩⟩
theorem St.open0 {v : Value} (h : St we Se ms (fHold K env0 env (t :: ts) :: Γ) w) (hf : K.find? (fun x => Nat.beq x.1 t) = none) (hv : env0 t = v) :
    env t = v ∧ St we Se ms (fHold K env0 env ts :: Γ) w := by
  obtain ⟨S, hp, k⟩ := h.factS
  have h1 := hp.1
  unfold holdK at h1
  rw [hf] at h1
  exact ⟨(show env t = env0 t from h1).trans hv, k _ fun a => ⟨a.1.2, a.2⟩⟩
theorem St.openT (h : St we Se ms (fHold K env0 env (t :: ts) :: Γ) w) : St we Se ms (fHold K env0 env ts :: Γ) w := by
  obtain ⟨S, hp, k⟩ := h.factS
  exact k _ fun a => ⟨a.1.2, a.2⟩
end
def prT : Pr where
  p _ _ _ := True
  keepS _ _ := trivial
  sub _ _ := trivial
/-- a variable that the region makes: by which operation, in which slot, which operation writes it -/
structure Res where
  a : Option Nat
  t : Tmp
  w : Option Nat
  mf : Bool → Value → MF
def Res.done (r : Res) (D : Nat → Bool) : Bool := match r.w with
  | some i => D i
  | none => false
def Res.here (r : Res) (D : Nat → Bool) : Bool := match r.a with
  | some i => D i
  | none => true
def av (rs : List Res) (D : Nat → Bool) (env : Env) : List MF := rs.filterMap fun r => bif r.here D then some (r.mf (r.done D) (env r.t)) else none
def ObX (P : Program) (ops : Array Oper) (we : World) (Se : Nat → Prop) (ms : List MF) (Γ : List FF) (env0 : Env) (rs : List Res) (K : List (Tmp × Pr)) (o : Oper) (Φ : Pr) : Option (Nat × Bool) → Prop
  | none => Ob P ops ms Γ env0 K o Φ
  | some (k, false) => Φ = prT ∧ o.guard = none ∧ ∀ r, rs[k]? = some r → ∀ (env : Env) (F : List MF) (G : List FF) (w : World), St we Se F (fHold K env0 env (o.looksAt ops) :: (Γ ++ G)) w → OpR P o env w (fun v w' => St we Se (r.mf false v :: F) (Γ ++ G) w')
  | some (k, true) => Φ = prT ∧ o.guard = none ∧ ∀ r, rs[k]? = some r → ∀ (env : Env) (F : List MF) (G : List FF) (w : World), St we Se (r.mf false (env r.t) :: F) (fHold K env0 env (o.looksAt ops) :: (Γ ++ G)) w →
      OpR P o env w (fun v w' => St we Se (r.mf true (put env o.dst v r.t) :: F) (Γ ++ G) w')
def ObsX (P : Program) (ops : Array Oper) (we : World) (Se : Nat → Prop) (ms : List MF) (Γ : List FF) (env0 : Env) (rs : List Res) : List ((Oper × Pr) × Option (Nat × Bool)) → List (Tmp × Pr) → Prop
  | [], _ => True
  | ((o, Φ), c) :: r, K => ObX P ops we Se ms Γ env0 rs K o Φ c ∧ ObsX P ops we Se ms Γ env0 rs r (addK o.dst Φ K)
theorem ObsX_get {P : Program} {ops : Array Oper} {we : World} {Se : Nat → Prop} {ms : List MF} {Γ : List FF} {env0 : Env} {rs : List Res} : ∀ (r : List (Oper × Pr)) (cs : List (Option (Nat × Bool))) (K : List (Tmp × Pr)) (i : Nat) (x : Oper × Pr) (c : Option (Nat × Bool)),
    ObsX P ops we Se ms Γ env0 rs (r.zip cs) K → r[i]? = some x → cs[i]? = some c → ObX P ops we Se ms Γ env0 rs (Kof (r.take i) K) x.1 x.2 c
  | [], _, _, _, _, _, _, h, _ => by simp at h
  | _ :: _, [], _, _, _, _, _, _, h => by simp at h
  | (o, Φ) :: r, c0 :: cs, K, 0, x, c, h, hx, hc => by simp at hx hc; subst hx; subst hc; exact h.1
  | (o, Φ) :: r, c0 :: cs, K, i + 1, x, c, h, hx, hc => by
    have := ObsX_get r cs (addK o.dst Φ K) i x c h.2 (by simpa using hx) (by simpa using hc)
    simpa [Kof] using this
def dstB (l : List Oper) (i j : Nat) : Bool := match (opAt l i).dst with
  | some t => (opAt l j).dst == some t
  | none => false
/-- the operations' kinds fit the variables -/
def anyOK (l : List Oper) (m : Nat) (rs : List (Option Nat × Tmp × Option Nat)) (cs : List (Option (Nat × Bool))) : Bool :=
  ((List.range m).all fun i => (List.range m).all fun j => Nat.beq i j || !dstB l i j) &&
  ((List.range m).all fun i => match cs.getD i none with
    | none => rs.all fun r => !(r.1 == some i) && (!(r.2.2 == some i) && !((opAt l i).dst == some r.2.1))
    | some (k, b) => Nat.blt k rs.length && ((List.range rs.length).all fun k' => match rs[k']? with
      | some r => bif Nat.beq k' k then (bif b then r.2.2 == some i && ((opAt l i).dst.isNone || (opAt l i).dst == some r.2.1) else r.1 == some i && ((opAt l i).dst == some r.2.1)) && !(bif b then r.1 == some i else r.2.2 == some i) else !(r.1 == some i) && (!(r.2.2 == some i) && !((opAt l i).dst == some r.2.1))
      | none => true)) &&
  (rs.all fun r => (match r.1 with
    | some a => (opAt l a).dst == some r.2.1 && (Nat.blt a m && (match r.2.2 with
      | some i => edgeB (opAt l i) a
      | none => true))
    | none => true) && (match r.2.2 with
    | some i => Nat.blt i m
    | none => true))
section
variable {P : Program} {N : Nat} {we : World} {Se : Nat → Prop} {ms : List MF} {Γ : List FF} {Q : Qs} {env0 : Env} {l : List Oper} {m : Nat}
/-- the facts on all that has been done -/
def fAll (L : List (Oper × Pr)) (D : Nat → Bool) (env : Env) : FF where
  p S w := ∀ i x t, D i = true → L[i]? = some x → x.1.dst = some t → x.2.p S (env t) w
  keep := fun h k i x t h1 h2 h3 => x.2.keepS (h i x t h1 h2 h3) k
  sub := fun h k i x t h1 h2 h3 => x.2.sub (h i x t h1 h2 h3) k
theorem av_same {rs : List Res} {D D' : Nat → Bool} {env env' : Env} (h1 : ∀ r ∈ rs, r.here D' = r.here D ∧ r.done D' = r.done D) (h2 : ∀ r ∈ rs, env' r.t = env r.t) : av rs D' env' = av rs D env := by
  unfold av
  induction rs with
  | nil => rfl
  | cons r rs ih =>
    have ih := ih (fun q hq => h1 q (List.mem_cons_of_mem _ hq)) (fun q hq => h2 q (List.mem_cons_of_mem _ hq))
    have a1 := h1 r (List.mem_cons_self ..)
    have a2 := h2 r (List.mem_cons_self ..)
    rw [List.filterMap_cons, List.filterMap_cons, ih, a1.1, a1.2, a2]
structure AnyP (l : List Oper) (m : Nat) (rs : List Res) (cs : List (Option (Nat × Bool))) : Prop where
  uniq : ∀ i j t, i < m → j < m → i ≠ j → (opAt l i).dst = some t → (opAt l j).dst ≠ some t
  e : ∀ i, i < m → cs.getD i none = none → ∀ r ∈ rs, r.a ≠ some i ∧ r.w ≠ some i ∧ (opAt l i).dst ≠ some r.t
  a : ∀ i k, i < m → cs.getD i none = some (k, false) → ∃ r, rs[k]? = some r ∧ r.a = some i ∧ (opAt l i).dst = some r.t ∧ r.w ≠ some i
  w : ∀ i k, i < m → cs.getD i none = some (k, true) → ∃ r, rs[k]? = some r ∧ r.w = some i ∧ ((opAt l i).dst = none ∨ (opAt l i).dst = some r.t) ∧ r.a ≠ some i
  o : ∀ i k b, i < m → cs.getD i none = some (k, b) → ∀ k' r, k' ≠ k → rs[k']? = some r → r.a ≠ some i ∧ r.w ≠ some i ∧ (opAt l i).dst ≠ some r.t
  r : ∀ r ∈ rs, (∀ a, r.a = some a → (opAt l a).dst = some r.t ∧ a < m ∧ ∀ i, r.w = some i → edgeB (opAt l i) a = true) ∧ ∀ i, r.w = some i → i < m
theorem any_parts {rs : List Res} {cs : List (Option (Nat × Bool))} (h : anyOK l m (rs.map fun r => (r.a, r.t, r.w)) cs = true) : AnyP l m rs cs := by
  unfold anyOK at h
  rw [Bool.and_eq_true, Bool.and_eq_true] at h
  obtain ⟨⟨hu, hc⟩, hr⟩ := h
  have nw : ∀ {a : Option Nat} {i : Nat}, (!(a == some i)) = true → a ≠ some i := fun {a i} h e => by subst e; simp at h
  have hc' : ∀ i, i < m → _ := fun i hi => List.all_eq_true.1 hc i (List.mem_range.2 hi)
  refine ⟨fun i j t hi hj hne hti htj => ?_, fun i hi hn r hrm => ?_, fun i k hi hn => ?_, fun i k hi hn => ?_, fun i k b hi hn k' r hk' hr' => ?_, fun r hrm => ?_⟩
  · have := List.all_eq_true.1 (List.all_eq_true.1 hu i (List.mem_range.2 hi)) j (List.mem_range.2 hj)
    rw [beq_no hne, Bool.false_or] at this
    simp [dstB, hti, htj] at this
  · have := hc' i hi
    rw [hn] at this
    have := List.all_eq_true.1 this (r.a, r.t, r.w) (List.mem_map.2 ⟨r, hrm, rfl⟩)
    rw [Bool.and_eq_true, Bool.and_eq_true] at this
    exact ⟨nw this.1, nw this.2.1, nw this.2.2⟩
  · have := hc' i hi
    rw [hn] at this
    simp only [Bool.and_eq_true] at this
    obtain ⟨hk, hall⟩ := this
    have hk' : k < rs.length := by simpa using hk
    have := List.all_eq_true.1 hall k (List.mem_range.2 (by simpa using hk'))
    rw [List.getElem?_map, List.getElem?_eq_getElem hk'] at this
    simp only [Option.map_some, Nat.beq_refl, cond_true, cond_false, Bool.and_eq_true] at this
    refine ⟨rs[k], List.getElem?_eq_getElem hk', by simpa using this.1.1, by simpa using this.1.2, nw this.2⟩
  · have := hc' i hi
    rw [hn] at this
    simp only [Bool.and_eq_true] at this
    obtain ⟨hk, hall⟩ := this
    have hk' : k < rs.length := by simpa using hk
    have := List.all_eq_true.1 hall k (List.mem_range.2 (by simpa using hk'))
    rw [List.getElem?_map, List.getElem?_eq_getElem hk'] at this
    simp only [Option.map_some, Nat.beq_refl, cond_true, Bool.and_eq_true, Bool.or_eq_true] at this
    refine ⟨rs[k], List.getElem?_eq_getElem hk', by simpa using this.1.1, by simpa using this.1.2, nw this.2⟩
  · have := hc' i hi
    rw [hn] at this
    simp only [Bool.and_eq_true] at this
    obtain ⟨hk, hall⟩ := this
    have hlt := (List.getElem?_eq_some_iff.1 hr').1
    have := List.all_eq_true.1 hall k' (List.mem_range.2 (by simpa using hlt))
    rw [List.getElem?_map, hr'] at this
    simp only [Option.map_some, beq_no hk', cond_false, Bool.and_eq_true] at this
    exact ⟨nw this.1, nw this.2.1, nw this.2.2⟩
  · have := List.all_eq_true.1 hr (r.a, r.t, r.w) (List.mem_map.2 ⟨r, hrm, rfl⟩)
    rw [Bool.and_eq_true] at this
    obtain ⟨h1, h2⟩ := this
    refine ⟨fun a ha => ?_, fun i hi => ?_⟩
    · simp only [ha, Bool.and_eq_true] at h1
      refine ⟨by simpa using h1.1, by simpa using h1.2.1, fun i hi => ?_⟩
      have h3 := h1.2.2
      simp only [hi] at h3
      exact h3
    · simp only [hi] at h2
      simpa using h2
theorem split_at {rs : List Res} {k : Nat} {r : Res} (h : rs[k]? = some r) : rs = rs.take k ++ r :: rs.drop (k + 1) := by
  obtain ⟨hk, rfl⟩ := List.getElem?_eq_some_iff.1 h
  rw [← List.drop_eq_getElem_cons hk, List.take_append_drop]
theorem av_append {a b : List Res} {D : Nat → Bool} {env : Env} : av (a ++ b) D env = av a D env ++ av b D env := by simp [av, List.filterMap_append]
theorem mem_take_ne {rs : List Res} {k : Nat} {q : Res} (h : q ∈ rs.take k) : ∃ k', k' ≠ k ∧ rs[k']? = some q := by
  obtain ⟨j, hj, rfl⟩ := List.getElem_of_mem h
  rw [List.length_take] at hj
  exact ⟨j, by omega, by rw [List.getElem_take]; exact List.getElem?_eq_getElem (by omega)⟩
theorem mem_drop_ne {rs : List Res} {k : Nat} {q : Res} (h : q ∈ rs.drop (k + 1)) : ∃ k', k' ≠ k ∧ rs[k']? = some q := by
  obtain ⟨j, hj, rfl⟩ := List.getElem_of_mem h
  rw [List.length_drop] at hj
  exact ⟨k + 1 + j, by omega, by rw [List.getElem_drop]; exact List.getElem?_eq_getElem (by omega)⟩
theorem T_any {id : Nat} {mE : List MF} (m : Nat) (Φs : List Pr) (cs : List (Option (Nat × Bool))) (rs : List Res) (ts : List Tmp) (hm : P.follows .mixedOrders = true) (hc : drawOK2 l m = true) (hl : Φs.length = m) (hcl : cs.length = m)
    (hx : anyOK l m (rs.map fun r => (r.a, r.t, r.w)) cs = true) (hms : av rs (fun _ => false) env0 ++ mE = ms) (hd : (l.all fun o => okDst N o.dst) = true)
    (hobs : ObsX P l.toArray we Se mE Γ env0 rs (((l.take m).zip Φs).zip cs) [])
    (fin : ∀ (env : Env) (w : World), St we Se (rs.map (fun r => r.mf r.w.isSome (env r.t)) ++ mE) (fHold (Kof ((l.take m).zip Φs) []) env0 env ts :: Γ) w → WpL P N l.toArray (l.drop m) Q env w) :
    T P N we Se ms Γ (.region id l.toArray true) Q env0 := by
  obtain ⟨h0, h1, h2, h3, h3'⟩ := draw_parts2 hc
  have hp := any_parts hx
  obtain ⟨L, hL⟩ : ∃ L, L = (l.take m).zip Φs := ⟨_, rfl⟩
  rw [← hL] at hobs fin
  have hLl : L.length = m := by rw [hL]; simp; omega
  have hpre : ∀ i, i < m → ∃ Φ, L[i]? = some (opAt l i, Φ) := fun i hi => by
    have hil : i < l.length := Nat.lt_of_lt_of_le hi h0
    have hidx : i < Φs.length := hl.symm ▸ hi
    refine ⟨Φs[i]'hidx, ?_⟩
    rw [hL, List.getElem?_zip_eq_some]
    refine ⟨?_, by simp⟩
    rw [List.getElem?_take, if_pos hi]
    simp [opAt, hil]
  have hpre' : ∀ i x, L[i]? = some x → i < m ∧ x.1 = opAt l i := fun i x hx => by
    have hi : i < m := by have := (List.getElem?_eq_some_iff.1 hx).1; omega
    obtain ⟨Φ, h⟩ := hpre i hi
    rw [h] at hx; cases hx; exact ⟨hi, rfl⟩
  -- what a slot holds
  have slot : ∀ (D : Nat → Bool) (env : Env) (S : Nat → Prop) (w : World) (i : Nat) (t : Tmp), (∀ t, (∀ i, i < m → D i = true → (opAt l i).dst ≠ some t) → env t = env0 t) → (fAll L D env).p S w → i ≤ m →
      (∀ j, j < m → (opAt l j).dst = some t → (D j = true ↔ j < i)) → holdK (Kof (L.take i) []) env0 env S w t := by
    intro D env S w i t henv hfa him ht
    unfold holdK
    rcases Kof_find t (L.take i) [] with ⟨j, y, g1, g2, g3, g4⟩ | ⟨g1, g2⟩
    · rw [g4]
      rw [List.getElem?_take] at g1
      split at g1
      · next hji =>
        obtain ⟨hjm, hy⟩ := hpre' j y g1
        exact hfa j y t ((ht j hjm (hy ▸ g2)).2 hji) g1 g2
      · cases g1
    · rw [g2]
      simp only [List.find?_nil]
      refine henv t fun j hj hDj hdj => ?_
      have hji := (ht j hj hdj).1 hDj
      obtain ⟨Φ, hΦ⟩ := hpre j hj
      exact g1 j (opAt l j, Φ) (by rw [List.getElem?_take, if_pos hji]; exact hΦ) hdj
  refine T_inv m (fun D env w => (∀ t, (∀ i, i < m → D i = true → (opAt l i).dst ≠ some t) → env t = env0 t) ∧ St we Se (av rs D env ++ mE) (Γ ++ [fAll L D env]) w) hm hc hd ?_ ?_ ?_
  · intro w hw
    refine ⟨fun t _ => rfl, ?_⟩
    rw [hms]
    exact hw.weak fun S w h => All.append h ⟨fun i x t hi => (by cases hi), trivial⟩
  · intro D i env w him hDi hlow hedge hdown ⟨henv, hst⟩
    have hil : i < l.length := by omega
    obtain ⟨Φ, hΦ⟩ := hpre i him
    -- the slots that it looks at
    have hlast : ∀ t, (t ∈ Oper.looksAt l.toArray (opAt l i) ∨ (opAt l i).dst = some t) → ∀ j, j < m → (opAt l j).dst = some t → j ≠ i → (D j = true ↔ j < i) := by
      intro t ht j hj hjt hne
      have h7 := h2 i j t him hj hne hjt ht
      constructor
      · intro hlj
        rcases Nat.lt_or_ge j i with h | h
        · exact h
        · exfalso
          obtain ⟨e, he, hb, hon⟩ := edge_of (h7.2 (by omega))
          have h8 := hdown j hlj e he hb
          rw [hon, hDi] at h8; cases h8
      · intro hji
        obtain ⟨e, he, hb, hon⟩ := edge_of (h7.1 hji)
        have h8 := hedge e he hb
        rwa [hon] at h8
    have hlooks : ∀ S : Nat → Prop, ∀ w : World, (fAll L D env).p S w → HoldL (Kof (L.take i) []) env0 env S w (Oper.looksAt l.toArray (opAt l i)) := fun S w hfa =>
      HoldL_of _ fun t ht => slot D env S w i t henv hfa (by omega) fun j hj hjt => by
        by_cases hji : j = i
        · subst hji; rw [hDi]; simp
        · exact hlast t (.inl ht) j hj hjt hji
    -- what is left, told of the greater set
    have hnew : ∀ (v : Value) (t : Tmp), (∀ i', i' < m → ins D i i' = true → (opAt l i').dst ≠ some t) → put env (opAt l i).dst v t = env0 t := fun v t ht => by
      rw [put_ne (ht i him (ins_self D i))]
      exact henv t fun j hj hDj => ht j hj (ins_old hDj)
    have hfa : ∀ (v : Value) (S : Nat → Prop) (w w' : World), (fAll L D env).p S w' → ((opAt l i).dst ≠ none → Φ.p S v w') → (fAll L (ins D i) (put env (opAt l i).dst v)).p S w' := fun v S w w' hold hv j x t hj hx ht => by
      obtain ⟨hjm, hxo⟩ := hpre' j x hx
      by_cases hji : j = i
      · subst hji
        rw [hΦ] at hx; cases hx
        have ht' : (opAt l j).dst = some t := ht
        rw [ht', put_eq]; exact hv (by rw [ht']; simp)
      · rw [ins_ne hji] at hj
        rw [put_ne (hp.uniq j i t hjm him hji (hxo ▸ ht))]
        exact hold j x t hj hx ht
    obtain ⟨c, hcc⟩ : ∃ c, cs[i]? = some c := ⟨_, List.getElem?_eq_getElem (by omega : i < cs.length)⟩
    have hcD : cs.getD i none = c := by rw [List.getD_eq_getElem?_getD, hcc]; rfl
    have hob := ObsX_get L cs [] i _ c hobs hΦ hcc
    have env_t : ∀ (v : Value) (r : Res), (opAt l i).dst ≠ some r.t → put env (opAt l i).dst v r.t = env r.t := fun v r hr => put_ne hr
    have here_same : ∀ r : Res, r.a ≠ some i → r.here (ins D i) = r.here D := fun r hr => by
      unfold Res.here
      cases hw : r.a with
      | none => rfl
      | some j => exact ins_ne fun e => hr (by rw [hw, e])
    have done_same : ∀ r : Res, r.w ≠ some i → r.done (ins D i) = r.done D := fun r hr => by
      unfold Res.done
      cases hw : r.w with
      | none => rfl
      | some j => exact ins_ne fun e => hr (by rw [hw, e])
    match c, hcD, hob with
    | none, hcD, hob =>
      have hav : ∀ v, av rs (ins D i) (put env (opAt l i).dst v) = av rs D env := fun v =>
        av_same (fun r hr => ⟨here_same r (hp.e i him hcD r hr).1, done_same r (hp.e i him hcD r hr).2.1⟩) (fun r hr => env_t v r (hp.e i him hcD r hr).2.2)
      obtain ⟨s1, s2, s3, S, s4, s5, s6, s7, s8⟩ := hst
      have hold : (fAll L D env).p S w := (All.right (Γ := Γ) s8).1
      have hob' := hob S w env s5 (allM_mem.2 fun m hm => allM_mem.1 s7 m (List.mem_append.2 (.inr hm))) (All.left s8) (hlooks S w hold)
      have fin' : ∀ v w', Ext w w' → Φ.p S v w' → (∀ t, (∀ i', i' < m → ins D i i' = true → (opAt l i').dst ≠ some t) → put env (opAt l i).dst v t = env0 t) ∧ St we Se (av rs (ins D i) (put env (opAt l i).dst v) ++ mE) (Γ ++ [fAll L (ins D i) (put env (opAt l i).dst v)]) w' := fun v w' x hv => by
        refine ⟨hnew v, ?_⟩
        rw [hav v]
        refine ⟨s1.trans x, s2, s3, S, s4, fun k hk => s5 k (Nat.le_trans x.size hk), s6, AllM.keep x.to (fun m hm i hi => x.block i (AllM.lt s7 m hm i hi) trivial) s7, ?_⟩
        have s9 := All.keep x.to s8
        exact All.append (All.left s9) ⟨hfa v S w w' (All.right (Γ := Γ) s9).1 (fun _ => hv), trivial⟩
      exact ⟨fun hw => (hob'.1 hw).mono fun v w' ⟨x, hv⟩ => fin' v w' x hv, fun hw => fin' undef w (Keeps.refl _ _) (hob'.2 hw)⟩
    | some (k, false), hcD, hob =>
      obtain ⟨r, hr, hra, hrt, hrw⟩ := hp.a i k him hcD
      obtain ⟨ho1, ho2, ho3⟩ := hob
      have hrm := List.mem_of_getElem? hr
      have hΦT : Φ = prT := ho1
      have hg : wantedE l.toArray env (opAt l i) = true := wanted_none ho2
      refine ⟨fun _ => (ho3 r hr env (av rs D env ++ mE) [fAll L D env] w (St.weak hst fun S w h => ⟨hlooks S w (All.right (Γ := Γ) h).1, h⟩)).mono fun v w' hw' => ⟨hnew v, ?_⟩, fun hc => by rw [hg] at hc; cases hc⟩
      have hsp := split_at hr
      have hdone : r.done (ins D i) = false := by
        rw [done_same r hrw]
        unfold Res.done
        cases hw : r.w with
        | none => rfl
        | some j =>
          show D j = false
          cases hDj : D j
          · rfl
          · obtain ⟨e, he, hb, hon⟩ := edge_of (((hp.r r hrm).1 i hra).2.2 j hw)
            have := hdown j hDj e he hb
            rw [hon, hDi] at this; cases this
      have hav : (av rs (ins D i) (put env (opAt l i).dst v)).Perm (r.mf false v :: av rs D env) := by
        have e1 : av (rs.take k) (ins D i) (put env (opAt l i).dst v) = av (rs.take k) D env := av_same (fun q hq => by
          obtain ⟨k', hk', hq'⟩ := mem_take_ne hq
          have := hp.o i k false him hcD k' q hk' hq'
          exact ⟨here_same q this.1, done_same q this.2.1⟩) (fun q hq => by
          obtain ⟨k', hk', hq'⟩ := mem_take_ne hq
          exact env_t v q (hp.o i k false him hcD k' q hk' hq').2.2)
        have e2 : av (rs.drop (k + 1)) (ins D i) (put env (opAt l i).dst v) = av (rs.drop (k + 1)) D env := av_same (fun q hq => by
          obtain ⟨k', hk', hq'⟩ := mem_drop_ne hq
          have := hp.o i k false him hcD k' q hk' hq'
          exact ⟨here_same q this.1, done_same q this.2.1⟩) (fun q hq => by
          obtain ⟨k', hk', hq'⟩ := mem_drop_ne hq
          exact env_t v q (hp.o i k false him hcD k' q hk' hq').2.2)
        have e3 : av [r] (ins D i) (put env (opAt l i).dst v) = [r.mf false v] := by
          unfold av
          rw [List.filterMap_cons, show r.here (ins D i) = true by (unfold Res.here; rw [hra]; exact ins_self D i), hdone, hrt, put_eq]; rfl
        have e4 : av [r] D env = [] := by
          unfold av
          rw [List.filterMap_cons, show r.here D = false by (unfold Res.here; rw [hra]; exact hDi)]; rfl
        have e5 : av rs (ins D i) (put env (opAt l i).dst v) = av (rs.take k) D env ++ ([r.mf false v] ++ av (rs.drop (k + 1)) D env) := by
          conv => lhs; rw [hsp]
          rw [show r :: rs.drop (k + 1) = [r] ++ rs.drop (k + 1) from rfl, av_append, av_append, e1, e2, e3]
        have e6 : av rs D env = av (rs.take k) D env ++ av (rs.drop (k + 1)) D env := by
          conv => lhs; rw [hsp]
          rw [show r :: rs.drop (k + 1) = [r] ++ rs.drop (k + 1) from rfl, av_append, av_append, e4, List.nil_append]
        rw [e5, e6]
        exact List.perm_middle
      refine St.weak (hw'.perm ?_) fun S w' h => All.append (All.left h) ⟨hfa v S w w' (All.right (Γ := Γ) h).1 (fun _ => by rw [hΦT]; trivial), trivial⟩
      exact (List.Perm.append_right mE hav).symm
    | some (k, true), hcD, hob =>
      obtain ⟨r, hr, hrw, hrd, hra⟩ := hp.w i k him hcD
      obtain ⟨ho1, ho2, ho3⟩ := hob
      have hrm := List.mem_of_getElem? hr
      have hΦT : Φ = prT := ho1
      have hg : wantedE l.toArray env (opAt l i) = true := wanted_none ho2
      have hhere : r.here D = true := by
        unfold Res.here
        cases ha : r.a with
        | none => rfl
        | some a =>
          obtain ⟨e, he, hb, hon⟩ := edge_of (((hp.r r hrm).1 a ha).2.2 i hrw)
          have := hedge e he hb
          rwa [hon] at this
      have hsp := split_at hr
      have d0 : r.done D = false := by unfold Res.done; rw [hrw]; exact hDi
      have d1 : r.done (ins D i) = true := by unfold Res.done; rw [hrw]; exact ins_self D i
      have q1 : ∀ q ∈ rs.take k, q.a ≠ some i ∧ q.w ≠ some i ∧ (opAt l i).dst ≠ some q.t := fun q hq => by
        obtain ⟨k', hk', hq'⟩ := mem_take_ne hq
        exact hp.o i k true him hcD k' q hk' hq'
      have q2 : ∀ q ∈ rs.drop (k + 1), q.a ≠ some i ∧ q.w ≠ some i ∧ (opAt l i).dst ≠ some q.t := fun q hq => by
        obtain ⟨k', hk', hq'⟩ := mem_drop_ne hq
        exact hp.o i k true him hcD k' q hk' hq'
      have e0 : av rs D env = av (rs.take k) D env ++ r.mf false (env r.t) :: av (rs.drop (k + 1)) D env := by
        conv => lhs; rw [hsp]
        rw [show r :: rs.drop (k + 1) = [r] ++ rs.drop (k + 1) from rfl, av_append, av_append]
        have : av [r] D env = [r.mf false (env r.t)] := by
          unfold av; rw [List.filterMap_cons, hhere, d0]; rfl
        rw [this]; rfl
      have e1 : ∀ v, av rs (ins D i) (put env (opAt l i).dst v) = av (rs.take k) D env ++ r.mf true (put env (opAt l i).dst v r.t) :: av (rs.drop (k + 1)) D env := fun v => by
        conv => lhs; rw [hsp]
        rw [show r :: rs.drop (k + 1) = [r] ++ rs.drop (k + 1) from rfl, av_append, av_append]
        have : av [r] (ins D i) (put env (opAt l i).dst v) = [r.mf true (put env (opAt l i).dst v r.t)] := by
          unfold av; rw [List.filterMap_cons, (here_same r hra).trans hhere, d1]; rfl
        rw [this, av_same (fun q hq => ⟨here_same q (q1 q hq).1, done_same q (q1 q hq).2.1⟩) (fun q hq => env_t v q (q1 q hq).2.2), av_same (fun q hq => ⟨here_same q (q2 q hq).1, done_same q (q2 q hq).2.1⟩) (fun q hq => env_t v q (q2 q hq).2.2)]; rfl
      have hst2 : St we Se (r.mf false (env r.t) :: (av (rs.take k) D env ++ av (rs.drop (k + 1)) D env ++ mE)) (fHold (Kof (L.take i) []) env0 env (Oper.looksAt l.toArray (opAt l i)) :: (Γ ++ [fAll L D env])) w := by
        refine St.weak (hst.perm ?_) fun S w h => ⟨hlooks S w (All.right (Γ := Γ) h).1, h⟩
        rw [e0, List.append_assoc, List.append_assoc]
        exact List.perm_middle
      refine ⟨fun _ => (ho3 r hr env _ [fAll L D env] w hst2).mono fun v w' hw' => ⟨hnew v, ?_⟩, fun hc => by rw [hg] at hc; cases hc⟩
      refine St.weak (hw'.perm ?_) fun S w' h => All.append (All.left h) ⟨hfa v S w w' (All.right (Γ := Γ) h).1 (fun _ => by rw [hΦT]; trivial), trivial⟩
      rw [e1 v, List.append_assoc, List.append_assoc]
      exact List.perm_middle.symm
  · intro D env w hall hlow ⟨henv, hst⟩
    refine fin env w ?_
    have hav : av rs D env = rs.map fun r => r.mf r.w.isSome (env r.t) := by
      have : ∀ qs : List Res, (∀ r ∈ qs, r ∈ rs) → av qs D env = qs.map fun r => r.mf r.w.isSome (env r.t) := by
        intro qs
        induction qs with
        | nil => intro _; rfl
        | cons r qs ih =>
          intro hq
          have hrm := hq r (List.mem_cons_self ..)
          have ih := ih fun q h => hq q (List.mem_cons_of_mem _ h)
          unfold av at ih ⊢
          have hh : r.here D = true := by
            unfold Res.here
            cases ha : r.a with
            | none => rfl
            | some a => exact hall a ((hp.r r hrm).1 a ha).2.1
          rw [List.filterMap_cons, hh, cond_true, ih, List.map_cons]
          have : r.done D = r.w.isSome := by
            unfold Res.done
            cases hw : r.w with
            | none => rfl
            | some j => exact hall j ((hp.r r hrm).2 j hw)
          rw [this]
      exact this rs fun _ h => h
    rw [hav] at hst
    refine hst.weak fun S w h => ⟨?_, All.left h⟩
    have hLm : L.take m = L := List.take_of_length_le (by omega)
    refine HoldL_of ts fun t _ => ?_
    have := slot D env S w m t henv (All.right (Γ := Γ) h).1 (Nat.le_refl m) fun j hj _ => ⟨fun _ => hj, fun _ => hall j hj⟩
    rwa [hLm] at this
theorem fin_TL {ops : Array Oper} {ms' : List MF} {Γ' : List FF} {env : Env} {w : World} {c : List Oper} (live : List (Nat × Value)) (h : agree env live) (hst : St we Se ms' Γ' w) (k : ∀ rest, TL P N we Se ms' Γ' ops c Q (L live rest)) : WpL P N ops c Q env w := by
  have := k env w hst
  rwa [L_agree h] at this
end
theorem ob_any {P : Program} {o : Oper} {env : Env} {w : World} {S : Nat → Prop} {U : Type} {val : U → Value} {facts : U → List FF} {ok : U → Prop} (u : U) (h : ∀ w, (execOp (ev env) o).run P w = .ok (.value (val u)) w) (hok : ok u) (hf : All S (facts u) w) :
    OpR P o env w (fun v' w' => Ext w w' ∧ (prE val facts ok).p S v' w') := OpR.of_value (h w) ⟨Keeps.refl _ _, u, rfl, hok, hf⟩
section
variable {P : Program} {N : Nat} {we : World} {Se : Nat → Prop} {ms : List MF} {Γ : List FF} {env : Env} {d : Option Tmp} {ty t : TypeId} {pos : String} {aft : Array Edge} {g : Option (Nat × Bool)}
/-- a slice literal of one's own -/
theorem og_lit {α : Type} {e : ERep α} {et : TypeId} {zs : List α} {len bytes : Nat} {zero : Value} {parts : List (Nat × Operand)} {vs : List (Nat × Value)} (ht : P.underlying t = some (.slice et)) (het : TyF P et e.agg e.n bytes zero)
    (hn : 0 < e.n) (hlen : zs.length = len) (hsm : len * e.n ≤ 16777216) (hv : parts.map (fun x => (x.1, ev env x.2)) = vs)
    (hok : ∀ (S : Nat → Prop) (w : World), All S Γ w → fillOK (fun i => some (i * e.n, e.n)) vs 0) (hp : ∀ (S : Nat → Prop) (w : World), All S Γ w → Elems e S zs (flat vs) w) :
    OG P ⟨d, .buildSlice t len parts.toArray, ty, pos, aft, g⟩ env we Se ms Γ (fun v : Value => v) (fun v => mO e et v zs :: ms) (fun _ => Γ) (fun _ => True) := by
  intro w hst
  obtain ⟨S0, hS0, hΓ⟩ := hst.ex
  have hpz := hp S0 w hΓ
  have hl : (flat vs).length = len * e.n := by rw [hpz.len, hlen]
  have h63 : len ≤ 9223372036854775807 := by have : len ≤ len * e.n := Nat.le_mul_of_pos_right _ hn; omega
  refine OpR.of_value (w' := w.alloc (.cells (flat vs).toArray et)) (v := .slice (some ⟨w.heap.size, 0, none⟩) len len) ?_ ⟨_, rfl, trivial, ?_⟩
  · have hv' : parts.toArray.map (fun x => (x.1, ev env x.2)) = vs.toArray := by rw [← hv]; simp
    have hfill : Instr.fill (fun i => some (i * e.n, e.n)) ((Array.range (len * e.n)).map (zero.cells[· % zero.cells.size]!)) vs = some (flat vs).toArray := by
      have := fill_all vs [] ((Array.range (len * e.n)).map (zero.cells[· % zero.cells.size]!)).toList (hok S0 w hΓ) (by simp [hl])
      rw [List.nil_append, Array.toArray_toList, List.nil_append, List.drop_eq_nil_of_le (by simp [hl]), List.append_nil] at this
      exact this
    have hb : (Instr.buildSlice t len (parts.toArray.map fun x => (x.1, ev env x.2))).run P w = .ok (.slice (some ⟨w.heap.size, 0, none⟩) len len) (w.alloc (.cells (flat vs).toArray et)) := by
      rw [hv']
      unfold Instr.buildSlice
      simp only [Sem.run_bind, run_underlying ht, Result.andThen_ok, run_sizeOf het, if_neg (show ¬ len * e.n > 2 ^ 24 by omega), newRow]
      by_cases h0 : len * e.n = 0
      · have hvs : flat vs = [] := List.eq_nil_of_length_eq_zero (by rw [hl, h0])
        have hf2 : Instr.fill (fun i => some (i * e.n, e.n)) ((Array.range 0).map ((#[] : Array Value)[· % (#[] : Array Value).size]!)) vs = some (flat vs).toArray := by
          have hm : ∀ f : Nat → Value, (Array.range 0).map f = #[] := fun f => by simp
          rw [← hfill, h0, hm, hm]
        simp only [h0, if_true]
        simp only [hf2, Sem.run_bind, run_newObj_alloc, Result.andThen_ok, Sem.run_pure]
      · simp only [if_neg h0, Sem.run_bind, run_zeroValue het, Result.andThen_ok, Sem.run_pure, hfill, run_newObj_alloc]
    simp only [execOp, Sem.run_bind, hb, Result.andThen_ok, Sem.run_pure]
  · have hf : St we Se (mR e et w.heap.size zs :: ms) Γ (w.alloc (.cells (flat vs).toArray et)) := by
      refine hst.fresh (Ext.alloc w _) rfl (by simp) ?_
      intro S hS hΓ
      refine ⟨_, heap_alloc_new w _, ?_⟩
      exact ((hp S w hΓ).sub fun k hk hs => ⟨hs, Nat.ne_of_lt hk⟩).keep (Ext.alloc w _).to
    exact row_own (n := len) 0 hf rfl hlen.symm (by omega)
end
theorem Sub.off {α β : Type} {e : CRep α} {x : α} {o o' : Nat} {f : ERep β} {y : β} {up : β → α} (h : Sub e x o f y up) (ho : o = o') : Sub e x o' f y up := ho ▸ h
abbrev iv (x : Int) : Value := .int .i64 x
abbrev uv (x : Nat) : Value := .int .u64 ((x : Nat) : Int)
end Go.Proofs.YtjnjfinbdfolkaaGreat
end

section
set_option linter.unusedVariables false
set_option linter.unusedSimpArgs false
namespace Go.Proofs.YtjnjfinbdfolkaaGreat
theorem z2 (S : Nat → Prop) (w : World) : (eI).p S 0 (Value.cells (.int .i64 0)).toList w := ⟨rfl, by decide, by decide⟩
theorem ty3 : TyF Tryz.prog 3 false 1 8 (.int .i64 0) := TyF.of (by kernel_rfl)
theorem z3 (S : Nat → Prop) (w : World) : (eI).p S 0 (Value.cells (.int .i64 0)).toList w := ⟨rfl, by decide, by decide⟩
theorem ty4 : TyF Tryz.prog 4 false 1 1 (.bool false) := TyF.of (by kernel_rfl)
theorem ty23 : TyF Tryz.prog 23 false 1 24 (.slice none 0 0) := TyF.of (by kernel_rfl)
theorem ty25 : TyF Tryz.prog 25 true 2 32 (.agg #[.bool false, .slice none 0 0]) := TyF.of (by kernel_rfl)
theorem z25 (S : Nat → Prop) (w : World) : (eZ).p S ((false, [])) (Value.cells (.agg #[.bool false, .slice none 0 0])).toList w := ⟨_, _, rfl, rfl, ⟨_, rfl, SlP.nil⟩⟩
theorem fl25_0 : fldB Tryz.prog 25 0 = some 0 := by kernel_rfl
theorem fl25_1 : fldB Tryz.prog 25 1 = some 1 := by kernel_rfl
theorem pl25 : ∃ fs, Tryz.prog.underlying 25 = some (.struct fs) ∧ ∀ w, (fs.mapM (fun f => do pure (f.offset, ← sizeOf f.type)) : Sem (Array (Nat × Nat))).run Tryz.prog w = .ok #[(0, 1), (1, 1)] w := plB_run (by kernel_rfl)
theorem ty31 : TyF Tryz.prog 31 false 1 24 (.slice none 0 0) := TyF.of (by kernel_rfl)
theorem ty51 : TyF Tryz.prog 51 false 1 24 (.slice none 0 0) := TyF.of (by kernel_rfl)
theorem ty102 : TyF Tryz.prog 102 false 1 8 (.int .u64 0) := TyF.of (by kernel_rfl)
theorem z102 (S : Nat → Prop) (w : World) : (eU).p S 0 (Value.cells (.int .u64 0)).toList w := ⟨rfl, by decide⟩
theorem ty125 : TyF Tryz.prog 125 true 4 96 (.agg #[.slice none 0 0, .slice none 0 0, .slice none 0 0, .slice none 0 0]) := TyF.of (by kernel_rfl)
theorem z125 (S : Nat → Prop) (w : World) : ((eA 4 (eS eZ))).p S ((List.replicate 4 [])) (Value.cells (.agg #[.slice none 0 0, .slice none 0 0, .slice none 0 0, .slice none 0 0])).toList w := ⟨rfl, ⟨_, _, rfl, ⟨_, rfl, SlP.nil⟩, ⟨_, _, rfl, ⟨_, rfl, SlP.nil⟩, ⟨_, _, rfl, ⟨_, rfl, SlP.nil⟩, ⟨_, _, rfl, ⟨_, rfl, SlP.nil⟩, rfl⟩⟩⟩⟩⟩
theorem ty161 : TyF Tryz.prog 161 true 3 72 (.agg #[.slice none 0 0, .slice none 0 0, .slice none 0 0]) := TyF.of (by kernel_rfl)
theorem z161 (S : Nat → Prop) (w : World) : ((eA 3 (eS eI))).p S ((List.replicate 3 [])) (Value.cells (.agg #[.slice none 0 0, .slice none 0 0, .slice none 0 0])).toList w := ⟨rfl, ⟨_, _, rfl, ⟨_, rfl, SlP.nil⟩, ⟨_, _, rfl, ⟨_, rfl, SlP.nil⟩, ⟨_, _, rfl, ⟨_, rfl, SlP.nil⟩, rfl⟩⟩⟩⟩
theorem ty190 : TyF Tryz.prog 190 true 6 96 (.agg #[.bool false, .slice none 0 0, .bool false, .slice none 0 0, .bool false, .slice none 0 0]) := TyF.of (by kernel_rfl)
theorem z190 (S : Nat → Prop) (w : World) : ((eP eZ (eP eZ eZ))).p S (((false, []), ((false, []), (false, [])))) (Value.cells (.agg #[.bool false, .slice none 0 0, .bool false, .slice none 0 0, .bool false, .slice none 0 0])).toList w := ⟨_, _, rfl, ⟨_, _, rfl, rfl, ⟨_, rfl, SlP.nil⟩⟩, ⟨_, _, rfl, ⟨_, _, rfl, rfl, ⟨_, rfl, SlP.nil⟩⟩, ⟨_, _, rfl, rfl, ⟨_, rfl, SlP.nil⟩⟩⟩⟩
theorem fl190_0 : fldB Tryz.prog 190 0 = some 0 := by kernel_rfl
theorem fl190_1 : fldB Tryz.prog 190 1 = some 2 := by kernel_rfl
theorem fl190_2 : fldB Tryz.prog 190 2 = some 4 := by kernel_rfl
theorem pl190 : ∃ fs, Tryz.prog.underlying 190 = some (.struct fs) ∧ ∀ w, (fs.mapM (fun f => do pure (f.offset, ← sizeOf f.type)) : Sem (Array (Nat × Nat))).run Tryz.prog w = .ok #[(0, 2), (2, 2), (4, 2)] w := plB_run (by kernel_rfl)
theorem xh212 : (Tryz.f212.name == "runtime.NumGoroutine") = false := by kernel_rfl
theorem xn212 : (Extern.findNext Tryz.f212).isNone = true := by kernel_rfl
theorem xf212 : Extern.find Tryz.f212 = some (fun args => do
  let (x, y, c) ← Extern.MathBitsCarry.three "Add64" args
  pure (Extern.MathBitsCarry.pair ((x + y + c) % Extern.MathBitsCarry.m64) ((x + y + c) / Extern.MathBitsCarry.m64))) := by kernel_rfl
theorem xh217 : (Tryz.f217.name == "runtime.NumGoroutine") = false := by kernel_rfl
theorem xn217 : (Extern.findNext Tryz.f217).isNone = true := by kernel_rfl
theorem xf217 : Extern.find Tryz.f217 = some (fun args => do
  let (x, y, b) ← Extern.MathBitsCarry.three "Sub64" args
  pure (Extern.MathBitsCarry.pair ((x + Extern.MathBitsCarry.m64 - y - b) % Extern.MathBitsCarry.m64) (if x < y + b then 1 else 0))) := by kernel_rfl
end Go.Proofs.YtjnjfinbdfolkaaGreat
end

section
set_option linter.unusedVariables false
set_option linter.unusedSimpArgs false
namespace Go.Proofs.YtjnjfinbdfolkaaGreat
/-- the value of limbs -/
def nv : List Nat → Nat
  | [] => 0
  | x :: r => x + 18446744073709551616 * nv r
/-- so many limbs of a number -/
def digs : Nat → Nat → List Nat
  | 0, _ => []
  | k + 1, n => n % 18446744073709551616 :: digs k (n / 18446744073709551616)
def toLf : Nat → Nat → List Nat
  | 0, _ => []
  | f + 1, n => if n = 0 then [] else n % 18446744073709551616 :: toLf f (n / 18446744073709551616)
/-- the limbs of a number, none of them nought at the end -/
def toL (n : Nat) : List Nat := toLf n n
/-- without noughts at the end -/
def trimL : List Nat → List Nat
  | [] => []
  | x :: r => match trimL r with
    | [] => if x = 0 then [] else [x]
    | y :: s => x :: y :: s
theorem Limbs.nil : Limbs [] := fun x hx => absurd hx List.not_mem_nil
theorem Limbs.cons {x : Nat} {r : List Nat} (h : x < 18446744073709551616) (hr : Limbs r) : Limbs (x :: r) := fun y hy => by
  rcases List.mem_cons.1 hy with rfl | hy
  · exact h
  · exact hr y hy
theorem Limbs.head {x : Nat} {r : List Nat} (h : Limbs (x :: r)) : x < 18446744073709551616 := h x (List.mem_cons_self ..)
theorem Limbs.tail {x : Nat} {r : List Nat} (h : Limbs (x :: r)) : Limbs r := fun y hy => h y (List.mem_cons_of_mem _ hy)
theorem Limbs.append {a b : List Nat} (ha : Limbs a) (hb : Limbs b) : Limbs (a ++ b) := fun x hx => by
  rcases List.mem_append.1 hx with h | h
  · exact ha x h
  · exact hb x h
theorem Limbs.take {a : List Nat} (h : Limbs a) (k : Nat) : Limbs (a.take k) := fun x hx => h x (List.mem_of_mem_take hx)
theorem Limbs.drop {a : List Nat} (h : Limbs a) (k : Nat) : Limbs (a.drop k) := fun x hx => h x (List.mem_of_mem_drop hx)
theorem Limbs.getD {a : List Nat} (h : Limbs a) (k : Nat) : a.getD k 0 < 18446744073709551616 := by
  rw [List.getD_eq_getElem?_getD]
  by_cases hk : k < a.length
  · rw [List.getElem?_eq_getElem hk]; exact h _ (List.getElem_mem hk)
  · rw [List.getElem?_eq_none (by omega)]; exact Nat.zero_lt_succ _
theorem Limbs.replicate (k : Nat) : Limbs (List.replicate k 0) := fun x hx => by rw [List.eq_of_mem_replicate hx]; exact Nat.zero_lt_succ _
theorem nv_nil : nv [] = 0 := rfl
theorem nv_cons (x : Nat) (r : List Nat) : nv (x :: r) = x + 18446744073709551616 * nv r := rfl
theorem nv_append : ∀ (a b : List Nat), nv (a ++ b) = nv a + 18446744073709551616 ^ a.length * nv b
  | [], b => by simp [nv]
  | x :: a, b => by
    rw [List.cons_append, nv_cons, nv_append a b, nv_cons, List.length_cons, Nat.pow_succ, Nat.mul_add]
    rw [Nat.mul_comm (18446744073709551616 ^ a.length) 18446744073709551616, Nat.mul_assoc, Nat.add_assoc]
theorem nv_replicate : ∀ k, nv (List.replicate k 0) = 0
  | 0 => rfl
  | k + 1 => by rw [List.replicate_succ, nv_cons, nv_replicate k]
theorem nv_lt : ∀ {l : List Nat}, Limbs l → nv l < 18446744073709551616 ^ l.length
  | [], _ => by simp [nv]
  | x :: r, h => by
    have h1 := h.head
    have h2 := nv_lt h.tail
    rw [nv_cons, List.length_cons, Nat.pow_succ]
    omega
theorem nv_snoc (l : List Nat) (x : Nat) : nv (l ++ [x]) = nv l + 18446744073709551616 ^ l.length * x := by
  rw [nv_append, nv_cons, nv_nil]; simp
theorem digs_length : ∀ k n, (digs k n).length = k
  | 0, _ => rfl
  | k + 1, n => by rw [digs, List.length_cons, digs_length]
theorem digs_limbs : ∀ k n, Limbs (digs k n)
  | 0, _ => Limbs.nil
  | k + 1, n => Limbs.cons (Nat.mod_lt _ (by decide)) (digs_limbs k _)
theorem nv_digs : ∀ k n, nv (digs k n) = n % 18446744073709551616 ^ k
  | 0, n => by simp [digs, nv, Nat.mod_one]
  | k + 1, n => by
    rw [digs, nv_cons, nv_digs k, Nat.pow_succ, Nat.mul_comm (18446744073709551616 ^ k), Nat.mod_mul]
theorem digs_nv : ∀ {l : List Nat}, Limbs l → digs l.length (nv l) = l
  | [], _ => rfl
  | x :: r, h => by
    have h1 := h.head
    rw [List.length_cons, digs, nv_cons, Nat.add_mul_mod_self_left, Nat.mod_eq_of_lt h1, Nat.add_mul_div_left _ _ (by decide), Nat.div_eq_of_lt h1, Nat.zero_add, digs_nv h.tail]
/-- limbs of one length are told by their value -/
theorem limbs_ext {a b : List Nat} (ha : Limbs a) (hb : Limbs b) (hl : a.length = b.length) (h : nv a = nv b) : a = b := by
  rw [← digs_nv ha, ← digs_nv hb, hl, h]
theorem digs_zero : ∀ k, digs k 0 = List.replicate k 0
  | 0 => rfl
  | k + 1 => by rw [digs, Nat.zero_mod, Nat.zero_div, digs_zero k, List.replicate_succ]
theorem digs_snoc : ∀ k n, digs (k + 1) n = digs k n ++ [n / 18446744073709551616 ^ k % 18446744073709551616]
  | 0, n => by simp [digs]
  | k + 1, n => by
    rw [digs, digs_snoc k, digs, List.cons_append, Nat.div_div_eq_div_mul, ← Nat.pow_succ']
theorem toLf_limbs : ∀ f n, Limbs (toLf f n)
  | 0, _ => Limbs.nil
  | f + 1, n => by
    rw [toLf]; split
    · exact Limbs.nil
    · exact Limbs.cons (Nat.mod_lt _ (by decide)) (toLf_limbs f _)
theorem toL_limbs (n : Nat) : Limbs (toL n) := toLf_limbs n n
theorem nv_toLf : ∀ f n, n ≤ f → nv (toLf f n) = n
  | 0, n, h => by rw [toLf, nv_nil]; omega
  | f + 1, n, h => by
    rw [toLf]; split
    · rename_i h0; rw [nv_nil, h0]
    · rename_i h0
      have hlt : n / 18446744073709551616 ≤ f := by
        have := Nat.div_lt_self (n := n) (k := 18446744073709551616) (by omega) (by decide); omega
      rw [nv_cons, nv_toLf f _ hlt, Nat.mod_add_div]
theorem nv_toL (n : Nat) : nv (toL n) = n := nv_toLf n n (Nat.le_refl _)
theorem toLf_eq : ∀ f f' n, n ≤ f → n ≤ f' → toLf f n = toLf f' n
  | 0, f', n, h, h' => by
    have : n = 0 := by omega
    subst this
    cases f' <;> simp [toLf]
  | f + 1, 0, n, h, h' => by
    have : n = 0 := by omega
    subst this
    simp [toLf]
  | f + 1, f' + 1, n, h, h' => by
    rw [toLf, toLf]; split
    · rfl
    · rename_i h0
      have := Nat.div_lt_self (n := n) (k := 18446744073709551616) (by omega) (by decide)
      rw [toLf_eq f f' _ (by omega) (by omega)]
theorem toL_zero : toL 0 = [] := rfl
theorem toL_pos {n : Nat} (h : 0 < n) : toL n = n % 18446744073709551616 :: toL (n / 18446744073709551616) := by
  have e : toL n = toLf ((n - 1) + 1) n := by unfold toL; congr 1; omega
  have := Nat.div_lt_self (n := n) (k := 18446744073709551616) h (by decide)
  rw [e, toLf, if_neg (by omega)]
  congr 1
  exact toLf_eq _ _ _ (by omega) (by omega)
theorem toL_small {n : Nat} (h0 : 0 < n) (h : n < 18446744073709551616) : toL n = [n] := by
  rw [toL_pos h0, Nat.mod_eq_of_lt h, Nat.div_eq_of_lt h, toL_zero]
theorem toL_nil {n : Nat} : toL n = [] ↔ n = 0 := by
  constructor
  · intro h; rw [← nv_toL n, h]; rfl
  · rintro rfl; rfl
theorem toL_len_pos {n : Nat} (h : 0 < n) : 0 < (toL n).length := by rw [toL_pos h, List.length_cons]; omega
theorem toL_length : ∀ (k n : Nat), (toL n).length ≤ k ↔ n < 18446744073709551616 ^ k
  | 0, n => by
    rw [Nat.le_zero, List.length_eq_zero_iff, toL_nil]; simp; 
  | k + 1, n => by
    by_cases h : n = 0
    · subst h; simp [toL_zero]; exact Nat.pow_pos (by decide)
    · rw [toL_pos (by omega), List.length_cons, Nat.add_le_add_iff_right, toL_length k, Nat.div_lt_iff_lt_mul (by decide), Nat.pow_succ]
theorem trimL_of_last : ∀ (l : List Nat) (k : Nat), k + 1 = l.length → l.getD k 0 ≠ 0 → trimL l = l
  | [], _, h, _ => by simp at h
  | [x], 0, _, h => by simp at h; simp [trimL, h]
  | [x], k + 1, h, _ => by simp at h
  | x :: y :: r, 0, h, _ => by simp at h
  | x :: y :: r, k + 1, h, h0 => by
    have := trimL_of_last (y :: r) k (by simpa using h) (by simpa using h0)
    simp only [trimL] at this ⊢
    rw [this]
theorem trimL_eq : ∀ {l : List Nat}, Limbs l → trimL l = toL (nv l)
  | [], _ => rfl
  | x :: r, h => by
    have ih := trimL_eq h.tail
    have hx := h.head
    rw [trimL, ih, nv_cons]
    by_cases hr : nv r = 0
    · rw [hr, toL_zero]
      by_cases h0 : x = 0
      · simp [h0, toL_zero]
      · simp only [h0, if_false, Nat.mul_zero, Nat.add_zero]; rw [toL_small (by omega) hx]
    · have e1 := toL_pos (n := nv r) (by omega)
      have e2 := toL_pos (n := x + 18446744073709551616 * nv r) (by omega)
      rw [Nat.add_mul_mod_self_left, Nat.mod_eq_of_lt hx, Nat.add_mul_div_left _ _ (by decide), Nat.div_eq_of_lt hx, Nat.zero_add] at e2
      rw [e2, e1]
theorem toL_of_last {l : List Nat} (hl : Limbs l) (h : l = [] ∨ l.getD (l.length - 1) 0 ≠ 0) : toL (nv l) = l := by
  rw [← trimL_eq hl]
  rcases h with rfl | h
  · rfl
  · cases hn : l.length with
    | zero => rw [List.eq_nil_of_length_eq_zero hn]; rfl
    | succ k => exact trimL_of_last l k hn.symm (by rw [hn] at h; exact h)
/-- a part of limbs -/
theorem nv_take {l : List Nat} (hl : Limbs l) (k : Nat) : nv (l.take k) = nv l % 18446744073709551616 ^ k := by
  by_cases hk : k ≤ l.length
  · have e := nv_append (l.take k) (l.drop k)
    rw [List.take_append_drop, List.length_take, Nat.min_eq_left hk] at e
    have := nv_lt (hl.take k)
    rw [List.length_take, Nat.min_eq_left hk] at this
    rw [e, Nat.add_mul_mod_self_left, Nat.mod_eq_of_lt this]
  · rw [List.take_of_length_le (by omega), Nat.mod_eq_of_lt]
    exact Nat.lt_of_lt_of_le (nv_lt hl) (Nat.pow_le_pow_right (by decide) (by omega))
theorem getD_nv : ∀ {l : List Nat}, Limbs l → ∀ k, l.getD k 0 = nv l / 18446744073709551616 ^ k % 18446744073709551616
  | [], _, k => by simp [nv]
  | x :: r, h, 0 => by
    rw [List.getD_cons_zero, nv_cons, Nat.pow_zero, Nat.div_one, Nat.add_mul_mod_self_left, Nat.mod_eq_of_lt h.head]
  | x :: r, h, k + 1 => by
    rw [List.getD_cons_succ, getD_nv h.tail k, nv_cons, Nat.pow_succ', ← Nat.div_div_eq_div_mul, Nat.add_mul_div_left _ _ (by decide), Nat.div_eq_of_lt h.head, Nat.zero_add]
theorem set_mid {α : Type} {l : List α} {k n : Nat} {z x : α} (hl : l.length = k) (hk : k < n) : (l ++ List.replicate (n - k) z).set k x = (l ++ [x]) ++ List.replicate (n - (k + 1)) z := by
  obtain ⟨m, hm⟩ : ∃ m, n - k = m + 1 := ⟨n - k - 1, by omega⟩
  rw [hm, List.replicate_succ, List.set_append_right _ _ (by omega), hl, Nat.sub_self, List.set_cons_zero, List.append_assoc]
  congr 2
  rw [show n - (k + 1) = m by omega]
  rfl
def carS (step : Nat → Nat → Nat × Nat) : Nat → List Nat × Nat
  | 0 => ([], 0)
  | k + 1 => ((carS step k).1 ++ [(step k (carS step k).2).1], (step k (carS step k).2).2)
theorem carS_length (step : Nat → Nat → Nat × Nat) : ∀ k, (carS step k).1.length = k
  | 0 => rfl
  | k + 1 => by rw [carS, List.length_append, carS_length step k]; rfl
def addS (a b : List Nat) (k c : Nat) : Nat × Nat := ((a.getD k 0 + b.getD k 0 + c) % 18446744073709551616, (a.getD k 0 + b.getD k 0 + c) / 18446744073709551616)
theorem addS_carry {a b : List Nat} {k c : Nat} (ha : Limbs a) (hb : Limbs b) (hc : c ≤ 1) : (addS a b k c).2 ≤ 1 := by
  have h1 := ha.getD k
  have h2 := hb.getD k
  simp only [addS]; omega
theorem nv_take_succ (l : List Nat) : ∀ k, nv (l.take (k + 1)) = nv (l.take k) + 18446744073709551616 ^ k * l.getD k 0 := by
  induction l with
  | nil => intro k; simp [nv]
  | cons x r ih =>
    intro k
    cases k with
    | zero => simp [nv]
    | succ k =>
      rw [List.take_succ_cons, nv_cons, ih k, List.take_succ_cons, nv_cons, List.getD_cons_succ, Nat.pow_succ, Nat.mul_add]
      rw [Nat.mul_comm (18446744073709551616 ^ k) 18446744073709551616, Nat.mul_assoc, Nat.add_assoc]
theorem addS_inv (a b : List Nat) : ∀ k, nv (carS (addS a b) k).1 + 18446744073709551616 ^ k * (carS (addS a b) k).2 = nv (a.take k) + nv (b.take k) ∧ Limbs (carS (addS a b) k).1
  | 0 => ⟨by simp [carS, nv], Limbs.nil⟩
  | k + 1 => by
    obtain ⟨ih, il⟩ := addS_inv a b k
    rw [carS, nv_take_succ, nv_take_succ, nv_snoc, carS_length]
    refine ⟨?_, il.append (Limbs.cons (Nat.mod_lt _ (by decide)) Limbs.nil)⟩
    generalize hc : (carS (addS a b) k).2 = c at *
    simp only [addS]
    have e := Nat.mod_add_div (a.getD k 0 + b.getD k 0 + c) 18446744073709551616
    generalize (a.getD k 0 + b.getD k 0 + c) % 18446744073709551616 = r at *
    generalize (a.getD k 0 + b.getD k 0 + c) / 18446744073709551616 = q at *
    rw [Nat.pow_succ]
    generalize 18446744073709551616 ^ k = p at *
    have e2 : p * r + p * 18446744073709551616 * q = p * (a.getD k 0) + p * (b.getD k 0) + p * c := by
      rw [Nat.mul_assoc, ← Nat.mul_add, e, Nat.mul_add, Nat.mul_add]
    omega
theorem addS_val {a b : List Nat} {n : Nat} (ha : a.length ≤ n) (hb : b.length ≤ n) : nv ((carS (addS a b) n).1 ++ [(carS (addS a b) n).2]) = nv a + nv b := by
  rw [nv_snoc, carS_length, (addS_inv a b n).1, List.take_of_length_le ha, List.take_of_length_le hb]
end Go.Proofs.YtjnjfinbdfolkaaGreat
end

section
set_option linter.unusedVariables false
set_option linter.unusedSimpArgs false
namespace Go.Proofs.YtjnjfinbdfolkaaGreat
theorem toL_getD (n k : Nat) : (toL n).getD k 0 = n / 18446744073709551616 ^ k % 18446744073709551616 := by rw [getD_nv (toL_limbs n), nv_toL]
theorem toL_nv_le {l : List Nat} (h : Limbs l) : (toL (nv l)).length ≤ l.length := (toL_length _ _).2 (nv_lt h)
def subS (a b : List Nat) (k c : Nat) : Nat × Nat := ((a.getD k 0 + 18446744073709551616 - b.getD k 0 - c) % 18446744073709551616, if a.getD k 0 < b.getD k 0 + c then 1 else 0)
theorem subS_carry (a b : List Nat) (k c : Nat) : (subS a b k c).2 ≤ 1 := by
  simp only [subS]; split <;> omega
theorem subS_inv {a b : List Nat} (ha : Limbs a) (hb : Limbs b) : ∀ k, nv (carS (subS a b) k).1 + nv (b.take k) = nv (a.take k) + 18446744073709551616 ^ k * (carS (subS a b) k).2 ∧ Limbs (carS (subS a b) k).1 ∧ (carS (subS a b) k).2 ≤ 1
  | 0 => ⟨by simp [carS, nv], Limbs.nil, Nat.zero_le _⟩
  | k + 1 => by
    obtain ⟨ih, il, ic⟩ := subS_inv ha hb k
    rw [carS, nv_take_succ, nv_take_succ, nv_snoc, carS_length]
    refine ⟨?_, il.append (Limbs.cons (Nat.mod_lt _ (by decide)) Limbs.nil), subS_carry a b k _⟩
    generalize hc : (carS (subS a b) k).2 = c at *
    simp only [subS]
    have h1 := ha.getD k
    have h2 := hb.getD k
    generalize a.getD k 0 = x at *
    generalize b.getD k 0 = y at *
    rw [Nat.pow_succ]
    generalize 18446744073709551616 ^ k = p at *
    have e : (x + 18446744073709551616 - y - c) % 18446744073709551616 + y + c = x + 18446744073709551616 * (if x < y + c then 1 else 0) := by
      split <;> omega
    generalize (x + 18446744073709551616 - y - c) % 18446744073709551616 = r at *
    generalize (if x < y + c then 1 else 0 : Nat) = q at *
    have e2 : p * r + p * y + p * c = p * x + p * 18446744073709551616 * q := by
      rw [Nat.mul_assoc, ← Nat.mul_add, ← Nat.mul_add, e, Nat.mul_add]
    omega
theorem subS_val {a b : List Nat} {n : Nat} (ha : Limbs a) (hb : Limbs b) (hla : a.length ≤ n) (hlb : b.length ≤ n) :
    nv (carS (subS a b) n).1 + nv b = nv a + 18446744073709551616 ^ n * (carS (subS a b) n).2 ∧ Limbs (carS (subS a b) n).1 ∧ (carS (subS a b) n).2 ≤ 1 := by
  have := subS_inv ha hb n
  rwa [List.take_of_length_le hla, List.take_of_length_le hlb] at this
theorem subS_less {a b : List Nat} {n : Nat} (ha : Limbs a) (hb : Limbs b) (hla : a.length ≤ n) (hlb : b.length ≤ n) : 0 < (carS (subS a b) n).2 ↔ nv a < nv b := by
  obtain ⟨h1, h2, h3⟩ := subS_val ha hb hla hlb
  have h4 := nv_lt h2
  rw [carS_length] at h4
  constructor
  · intro h
    have : (carS (subS a b) n).2 = 1 := by omega
    rw [this, Nat.mul_one] at h1
    omega
  · intro h
    refine Nat.pos_of_ne_zero fun h0 => ?_
    rw [h0, Nat.mul_zero] at h1
    omega
theorem subS_diff {a b : List Nat} {n : Nat} (ha : Limbs a) (hb : Limbs b) (hla : a.length ≤ n) (hlb : b.length ≤ n) (h : ¬ nv a < nv b) : nv (carS (subS a b) n).1 = nv a - nv b := by
  obtain ⟨h1, h2, h3⟩ := subS_val ha hb hla hlb
  have : ¬ 0 < (carS (subS a b) n).2 := fun hp => h ((subS_less ha hb hla hlb).1 hp)
  have : (carS (subS a b) n).2 = 0 := by omega
  rw [this, Nat.mul_zero] at h1
  omega
def rowS (a : List Nat) (x : Nat) (k c : Nat) : Nat × Nat := ((a.getD k 0 * x + c) % 18446744073709551616, (a.getD k 0 * x + c) / 18446744073709551616)
theorem mul_lt_words {a x c : Nat} (ha : a < 18446744073709551616) (hx : x < 18446744073709551616) (hc : c < 18446744073709551616) : (a * x + c) / 18446744073709551616 < 18446744073709551616 := by
  have : a * x ≤ 18446744073709551615 * 18446744073709551615 := Nat.mul_le_mul (by omega) (by omega)
  omega
theorem rowS_carry {a : List Nat} {x k c : Nat} (ha : Limbs a) (hx : x < 18446744073709551616) (hc : c < 18446744073709551616) : (rowS a x k c).2 < 18446744073709551616 := mul_lt_words (ha.getD k) hx hc
theorem rowS_inv (a : List Nat) (x : Nat) : ∀ k, nv (carS (rowS a x) k).1 + 18446744073709551616 ^ k * (carS (rowS a x) k).2 = nv (a.take k) * x ∧ Limbs (carS (rowS a x) k).1
  | 0 => ⟨by simp [carS, nv], Limbs.nil⟩
  | k + 1 => by
    obtain ⟨ih, il⟩ := rowS_inv a x k
    rw [carS, nv_take_succ, nv_snoc, carS_length]
    refine ⟨?_, il.append (Limbs.cons (Nat.mod_lt _ (by decide)) Limbs.nil)⟩
    generalize hc : (carS (rowS a x) k).2 = c at *
    simp only [rowS]
    have e := Nat.mod_add_div (a.getD k 0 * x + c) 18446744073709551616
    generalize (a.getD k 0 * x + c) % 18446744073709551616 = r at *
    generalize (a.getD k 0 * x + c) / 18446744073709551616 = q at *
    rw [Nat.pow_succ]
    generalize 18446744073709551616 ^ k = p at *
    have e2 : p * r + p * 18446744073709551616 * q = p * (a.getD k 0 * x) + p * c := by
      rw [Nat.mul_assoc, ← Nat.mul_add, e, Nat.mul_add]
    rw [Nat.add_mul, Nat.mul_assoc p (a.getD k 0) x]
    omega
theorem rowS_row {a : List Nat} {x : Nat} (hc : (carS (rowS a x) a.length).2 < 18446744073709551616) : (carS (rowS a x) a.length).1 ++ [(carS (rowS a x) a.length).2] = digs (a.length + 1) (nv a * x) := by
  obtain ⟨h1, h2⟩ := rowS_inv a x a.length
  have hl : Limbs ((carS (rowS a x) a.length).1 ++ [(carS (rowS a x) a.length).2]) := h2.append (Limbs.cons hc Limbs.nil)
  have hn : nv ((carS (rowS a x) a.length).1 ++ [(carS (rowS a x) a.length).2]) = nv a * x := by rw [nv_snoc, carS_length, h1, List.take_of_length_le (Nat.le_refl _)]
  have := digs_nv hl
  rw [hn, List.length_append, carS_length] at this
  exact this.symm
theorem mul_lt_pow {a : List Nat} {x : Nat} (ha : Limbs a) (hx : x < 18446744073709551616) : nv a * x < 18446744073709551616 ^ (a.length + 1) := by
  have := nv_lt ha
  rw [Nat.pow_succ]
  calc nv a * x ≤ nv a * 18446744073709551616 := Nat.mul_le_mul_left _ (by omega)
    _ < _ := Nat.mul_lt_mul_of_pos_right this (by decide)
theorem nv_set : ∀ (o : List Nat) (j v : Nat), j < o.length → nv (o.set j v) + 18446744073709551616 ^ j * o.getD j 0 = nv o + 18446744073709551616 ^ j * v
  | [], j, v, h => by simp at h
  | x :: r, 0, v, h => by simp [nv]; omega
  | x :: r, j + 1, v, h => by
    have ih := nv_set r j v (by simpa using h)
    rw [List.set_cons_succ, nv_cons, nv_cons, List.getD_cons_succ, Nat.pow_succ, Nat.mul_comm (18446744073709551616 ^ j), Nat.mul_assoc, Nat.mul_assoc]
    omega
theorem Limbs.set {o : List Nat} (h : Limbs o) (j : Nat) {v : Nat} (hv : v < 18446744073709551616) : Limbs (o.set j v) := fun x hx => by
  rcases List.mem_or_eq_of_mem_set hx with h1 | h1
  · exact h x h1
  · rw [h1]; exact hv
/-- one step of a sum in place -/
theorem sum_step {o o0 r : List Nat} {j i c : Nat} (hj : j + i < o.length) (h : nv o + 18446744073709551616 ^ (j + i) * c = nv o0 + 18446744073709551616 ^ j * nv (r.take i)) :
    nv (o.set (j + i) ((o.getD (j + i) 0 + r.getD i 0 + c) % 18446744073709551616)) + 18446744073709551616 ^ (j + (i + 1)) * ((o.getD (j + i) 0 + r.getD i 0 + c) / 18446744073709551616) = nv o0 + 18446744073709551616 ^ j * nv (r.take (i + 1)) := by
  have h1 := nv_set o (j + i) ((o.getD (j + i) 0 + r.getD i 0 + c) % 18446744073709551616) hj
  rw [nv_take_succ, Nat.mul_add, ← Nat.mul_assoc, ← Nat.pow_add]
  have e := Nat.mod_add_div (o.getD (j + i) 0 + r.getD i 0 + c) 18446744073709551616
  rw [show j + (i + 1) = (j + i) + 1 by omega, Nat.pow_succ]
  generalize (o.getD (j + i) 0 + r.getD i 0 + c) % 18446744073709551616 = u at *
  generalize (o.getD (j + i) 0 + r.getD i 0 + c) / 18446744073709551616 = q at *
  generalize 18446744073709551616 ^ (j + i) = p at *
  have e2 : p * u + p * 18446744073709551616 * q = p * o.getD (j + i) 0 + p * r.getD i 0 + p * c := by
    rw [Nat.mul_assoc, ← Nat.mul_add, e, Nat.mul_add, Nat.mul_add]
  omega
theorem nv_le_of_all {a b : List Nat} {k : Nat} (ha : Limbs a) (hb : Limbs b) : nv a * nv (b.take k) < 18446744073709551616 ^ (a.length + k) := by
  have h1 := nv_lt ha
  have h2 := nv_lt (hb.take k)
  have h3 : 18446744073709551616 ^ (b.take k).length ≤ 18446744073709551616 ^ k := Nat.pow_le_pow_right (by decide) (by rw [List.length_take]; omega)
  rw [Nat.pow_add]
  exact Nat.mul_lt_mul'' h1 (by omega)
/-- a sum that fits leaves no carry -/
theorem sum_end {o o0 r : List Nat} {j c : Nat} (h : nv o + 18446744073709551616 ^ (j + r.length) * c = nv o0 + 18446744073709551616 ^ j * nv r) (hn : nv o0 + 18446744073709551616 ^ j * nv r < 18446744073709551616 ^ (j + r.length)) :
    c = 0 ∧ nv o = nv o0 + 18446744073709551616 ^ j * nv r := by
  have hc : c = 0 := by
    refine Nat.eq_zero_of_not_pos fun hp => ?_
    have : 18446744073709551616 ^ (j + r.length) * 1 ≤ 18446744073709551616 ^ (j + r.length) * c := Nat.mul_le_mul_left _ hp
    omega
  subst hc
  exact ⟨rfl, by rw [Nat.mul_zero, Nat.add_zero] at h; exact h⟩
theorem school_step {a b p o : List Nat} {k i c : Nat} (ha : Limbs a) (hb : Limbs b) (hi : ¬ i < a.length + 1) (hil : i ≤ a.length + 1) (ho : nv o = nv a * nv (b.take k))
    (hp : nv p + 18446744073709551616 ^ (k + i) * c = nv o + 18446744073709551616 ^ k * nv ((digs (a.length + 1) (nv a * b.getD k 0)).take i)) : nv p = nv a * nv (b.take (k + 1)) := by
  obtain rfl : i = a.length + 1 := by omega
  have hl := digs_length (a.length + 1) (nv a * b.getD k 0)
  rw [List.take_of_length_le (by omega)] at hp
  have hr : nv (digs (a.length + 1) (nv a * b.getD k 0)) = nv a * b.getD k 0 := by rw [nv_digs, Nat.mod_eq_of_lt (mul_lt_pow ha (hb.getD k))]
  have e : nv o + 18446744073709551616 ^ k * nv (digs (a.length + 1) (nv a * b.getD k 0)) = nv a * nv (b.take (k + 1)) := by
    rw [hr, ho, nv_take_succ, Nat.mul_add, Nat.mul_left_comm]
  have hlt : nv o + 18446744073709551616 ^ k * nv (digs (a.length + 1) (nv a * b.getD k 0)) < 18446744073709551616 ^ (k + (digs (a.length + 1) (nv a * b.getD k 0)).length) := by
    rw [e, hl, show k + (a.length + 1) = a.length + (k + 1) by omega]
    exact nv_le_of_all ha hb
  generalize digs (a.length + 1) (nv a * b.getD k 0) = r at *
  rw [← hl] at hp
  rw [(sum_end hp hlt).2, e]
theorem m32 {a b : Nat} (ha : a < 4294967296) (hb : b < 4294967296) : a * b ≤ 18446744065119617025 := Nat.mul_le_mul (show a ≤ 4294967295 by omega) (show b ≤ 4294967295 by omega)
theorem mul64_b {x y : Nat} (hx : x < 18446744073709551616) (hy : y < 18446744073709551616) : (x % 4294967296) * (y % 4294967296) ≤ 18446744065119617025 ∧ (x / 2 ^ 32) * (y % 4294967296) ≤ 18446744065119617025 ∧
    (x % 4294967296) * (y / 2 ^ 32) ≤ 18446744065119617025 ∧ (x / 2 ^ 32) * (y / 2 ^ 32) ≤ 18446744065119617025 :=
  ⟨m32 (by omega) (by omega), m32 (by omega) (by omega), m32 (by omega) (by omega), m32 (by omega) (by omega)⟩
theorem mul64_eq (x y : Nat) : x * y = 18446744073709551616 * ((x / 2 ^ 32) * (y / 2 ^ 32)) + 4294967296 * ((x / 2 ^ 32) * (y % 4294967296)) + 4294967296 * ((x % 4294967296) * (y / 2 ^ 32)) + (x % 4294967296) * (y % 4294967296) := by
  have h1 : x = 4294967296 * (x / 2 ^ 32) + x % 4294967296 := by omega
  have h2 : y = 4294967296 * (y / 2 ^ 32) + y % 4294967296 := by omega
  generalize x / 2 ^ 32 = x1 at *
  generalize y / 2 ^ 32 = y1 at *
  generalize x % 4294967296 = x0 at *
  generalize y % 4294967296 = y0 at *
  subst h1 h2
  rw [Nat.add_mul, Nat.mul_add, Nat.mul_add, Nat.mul_assoc, Nat.mul_assoc, Nat.mul_left_comm x1 4294967296 y1, Nat.mul_left_comm x0 4294967296 y1]
  omega
theorem toL_add_len {x y k : Nat} (hx : (toL x).length ≤ k) (hy : (toL y).length ≤ k) : (toL (x + y)).length ≤ k + 1 := by
  rw [toL_length] at *
  rw [Nat.pow_succ]; omega
theorem kara {x0 x1 y0 y1 P : Nat} : x0 * y0 + P * ((x0 + x1) * (y0 + y1) - x0 * y0 - x1 * y1) + P * P * (x1 * y1) = (x0 + P * x1) * (y0 + P * y1) := by
  have e : (x0 + x1) * (y0 + y1) - x0 * y0 - x1 * y1 = x0 * y1 + x1 * y0 := by
    rw [Nat.add_mul, Nat.mul_add, Nat.mul_add]; omega
  rw [e, Nat.add_mul, Nat.mul_add, Nat.mul_add, Nat.mul_add]
  have e1 : x0 * (P * y1) = P * (x0 * y1) := Nat.mul_left_comm ..
  have e2 : P * x1 * y0 = P * (x1 * y0) := Nat.mul_assoc ..
  have e3 : P * x1 * (P * y1) = P * P * (x1 * y1) := by rw [Nat.mul_assoc, Nat.mul_left_comm x1, ← Nat.mul_assoc]
  rw [e1, e2, e3]; omega
theorem kara_le (x0 x1 y0 y1 : Nat) : x0 * y0 ≤ (x0 + x1) * (y0 + y1) ∧ x1 * y1 ≤ (x0 + x1) * (y0 + y1) - x0 * y0 := by
  rw [Nat.add_mul, Nat.mul_add, Nat.mul_add]; omega
theorem take_min {l : List Nat} (h : Nat) : l.take (min h l.length) = l.take h := by
  rw [Nat.min_def]; split
  · rfl
  · rw [List.take_of_length_le (Nat.le_refl _), List.take_of_length_le (by omega)]
theorem drop_min {l : List Nat} (h : Nat) : l.drop (min h l.length) = l.drop h := by
  rw [Nat.min_def]; split
  · rfl
  · rw [List.drop_eq_nil_of_le (Nat.le_refl _), List.drop_eq_nil_of_le (by omega)]
theorem nv_moved (n : Nat) (l : List Nat) : nv (List.replicate n 0 ++ l) = 18446744073709551616 ^ n * nv l := by
  rw [nv_append, nv_replicate, List.length_replicate, Nat.zero_add]
theorem nv_halves {l : List Nat} (h : Nat) : nv (l.take h) + 18446744073709551616 ^ h * nv (l.drop h) = nv l := by
  by_cases hh : h ≤ l.length
  · have e := nv_append (l.take h) (l.drop h)
    rw [List.take_append_drop, List.length_take, Nat.min_eq_left hh] at e
    exact e.symm
  · rw [List.drop_eq_nil_of_le (by omega), List.take_of_length_le (by omega), nv_nil, Nat.mul_zero, Nat.add_zero]
theorem kara_nv {A B : List Nat} (h : Nat) : nv (A.take h) * nv (B.take h) + 18446744073709551616 ^ h * ((nv (A.take h) + nv (A.drop h)) * (nv (B.take h) + nv (B.drop h)) - nv (A.take h) * nv (B.take h) - nv (A.drop h) * nv (B.drop h)) +
    18446744073709551616 ^ (2 * h) * (nv (A.drop h) * nv (B.drop h)) = nv A * nv B := by
  have := @kara (nv (A.take h)) (nv (A.drop h)) (nv (B.take h)) (nv (B.drop h)) (18446744073709551616 ^ h)
  rw [nv_halves, nv_halves] at this
  rw [Nat.two_mul, Nat.pow_add]; exact this
theorem toL_mul_len {x y j k : Nat} (hx : (toL x).length ≤ j) (hy : (toL y).length ≤ k) : (toL (x * y)).length ≤ j + k := by
  rw [toL_length] at *
  rw [Nat.pow_add]
  exact Nat.mul_lt_mul'' hx hy
theorem mul_pow_len (q : Nat) {x k : Nat} (hx : (toL x).length ≤ k) : (toL (18446744073709551616 ^ q * x)).length ≤ q + k := by
  rw [toL_length] at *
  rw [Nat.pow_add]
  exact Nat.mul_lt_mul_of_pos_left hx (Nat.pow_pos (by decide))
theorem toL_mono {x y : Nat} (h : x ≤ y) : (toL x).length ≤ (toL y).length := by
  have := (toL_length (toL y).length y).1 (Nat.le_refl _)
  exact (toL_length _ x).2 (by omega)
theorem kara_toL (a b h : Nat) {x0 x1 y0 y1 : Nat} (hx0 : x0 = nv ((toL a).take h)) (hx1 : x1 = nv ((toL a).drop h)) (hy0 : y0 = nv ((toL b).take h)) (hy1 : y1 = nv ((toL b).drop h)) :
    x0 * y0 + 18446744073709551616 ^ h * ((x0 + x1) * (y0 + y1) - x0 * y0 - x1 * y1) + 18446744073709551616 ^ (2 * h) * (x1 * y1) = a * b := by
  subst hx0 hx1 hy0 hy1
  rw [kara_nv, nv_toL, nv_toL]
end Go.Proofs.YtjnjfinbdfolkaaGreat
end

section
set_option linter.unusedVariables false
set_option linter.unusedSimpArgs false
namespace Go.Proofs.YtjnjfinbdfolkaaGreat
def B_ref01_Norm_0 (fu : Nat) (a0 : List Nat) : (Int → Option Int) → Int → Option Int := fun L i3 =>
 if 0 < i3 then
 ck64 (i3 - 1) fun x1 =>
 ckI x1 (a0.length) fun j1 =>
 nm (a0.getD j1 0) fun y1 =>
 if ((y1 : Nat) : Int) = (0 : Int) then
 ck64 (i3 - 1) fun x2 =>
 L x2
 else
 some i3
 else
 some i3
def M_ref01_Norm (fu : Nat) (a0 : List Nat) : Option (List Nat) :=
 bd (loopN (B_ref01_Norm_0 fu a0) fu (((a0.length : Nat) : Int))) fun i4 =>
 ckN i4 fun j2 =>
 ck (j2 ≤ a0.length) <|
 nm (a0.take j2) fun y2 =>
 ck (((([] : List Nat)).length + y2.length) * 8 ≤ 140737488355328) <|
 nm ((([] : List Nat)) ++ y2) fun t1 =>
 some t1
def M_ref02_Norm (fu : Nat) (a0 : Zr) : Option Zr :=
 bd (M_ref01_Norm fu a0.2) fun t1 =>
 if a0.1 = true then
 if 0 < ((t1.length : Nat) : Int) then
 some (true, t1)
 else
 some (false, t1)
 else
 some (false, t1)
def M_ref02_Of (fu : Nat) (a0 : Int) : Option Zr :=
 if a0 < 0 then
 ck64 (0 - a0) fun x1 =>
 nm (uns x1) fun m1 =>
 bd (M_ref02_Norm fu (true, [m1])) fun t1 =>
 some t1
 else
 nm (uns a0) fun m2 =>
 bd (M_ref02_Norm fu (false, [m2])) fun t2 =>
 some t2
def M_ref02_Sign (fu : Nat) (a0 : Zr) : Option Int :=
 bd (M_ref02_Norm fu a0) fun t1 =>
 if t1.1 = true then
 some (-1)
 else
 if 0 < ((t1.2.length : Nat) : Int) then
 some 1
 else
 some 0
def B_ref10_Norm_1 (fu : Nat) (a0 : List Zr) (i4 : Int) : (((List Zr) × Int) → Option (List Zr)) → ((List Zr) × Int) → Option (List Zr) := fun L (t3, i7) =>
 if i7 < i4 then
 ckI i7 (a0.length) fun j2 =>
 nm (a0.getD j2 ((false, []))) fun y2 =>
 bd (M_ref02_Norm fu y2) fun t5 =>
 ck ((t3.length + ([t5]).length) * 32 ≤ 140737488355328) <|
 nm (t3 ++ ([t5])) fun t6 =>
 ck64 (i7 + 1) fun x4 =>
 L (t6, x4)
 else
 some t3
def B_ref10_Norm_0 (fu : Nat) (a0 : List Zr) : (Int → Option Int) → Int → Option Int := fun L i3 =>
 if 0 < i3 then
 ck64 (i3 - 1) fun x1 =>
 ckI x1 (a0.length) fun j1 =>
 nm (a0.getD j1 ((false, []))) fun y1 =>
 bd (M_ref02_Sign fu y1) fun x2 =>
 if x2 = 0 then
 ck64 (i3 - 1) fun x3 =>
 L x3
 else
 some i3
 else
 some i3
def M_ref10_Norm (fu : Nat) (a0 : List Zr) : Option (List Zr) :=
 bd (loopN (B_ref10_Norm_0 fu a0) fu (((a0.length : Nat) : Int))) fun i4 =>
 bd (loopN (B_ref10_Norm_1 fu a0 i4) fu ((([] : List Zr), 0))) fun t4 =>
 some t4
def B_ref10_Of_0 (fu : Nat) (a0 : List Int) : (((List Zr) × Int) → Option (List Zr)) → ((List Zr) × Int) → Option (List Zr) := fun L (t3, i3) =>
 if i3 < ((a0.length : Nat) : Int) then
 ckI i3 (a0.length) fun j1 =>
 nm (a0.getD j1 0) fun y1 =>
 bd (M_ref02_Of fu y1) fun t5 =>
 ck ((t3.length + ([t5]).length) * 32 ≤ 140737488355328) <|
 nm (t3 ++ ([t5])) fun t6 =>
 ck64 (i3 + 1) fun x1 =>
 L (t6, x1)
 else
 some t3
def M_ref10_Of (fu : Nat) (a0 : List Int) : Option (List Zr) :=
 bd (loopN (B_ref10_Of_0 fu a0) fu ((([] : List Zr), 0))) fun t4 =>
 bd (M_ref10_Norm fu t4) fun t7 =>
 some t7
def B_ref01_Same_0 (fu : Nat) (a0 : List Nat) (a1 : List Nat) : (Int → Option (Unit ⊕ Unit)) → Int → Option (Unit ⊕ Unit) := fun L i3 =>
 if i3 < ((a0.length : Nat) : Int) then
 ckI i3 (a0.length) fun j1 =>
 nm (a0.getD j1 0) fun y1 =>
 ckI i3 (a1.length) fun j2 =>
 nm (a1.getD j2 0) fun y2 =>
 if ((y1 : Nat) : Int) = ((y2 : Nat) : Int) then
 ck64 (i3 + 1) fun x1 =>
 L x1
 else
 some (.inr ())
 else
 some (.inl ())
def M_ref01_Same (fu : Nat) (a0 : List Nat) (a1 : List Nat) : Option Bool :=
 if ((a0.length : Nat) : Int) = ((a1.length : Nat) : Int) then
 bd (loopN (B_ref01_Same_0 fu a0 a1) fu 0) fun s1 => match s1 with
| .inl _ =>
 some true
| .inr _ =>
 some false
 else
 some false
def M_ref02_Same (fu : Nat) (a0 : Zr) (a1 : Zr) : Option Bool :=
 nm (a0.1 == a1.1) fun c1 =>
 if c1 = true then
 bd (M_ref01_Same fu a0.2 a1.2) fun c2 =>
 some c2
 else
 some false
def B_ref10_Same_0 (fu : Nat) (a0 : List Zr) (a1 : List Zr) : (Int → Option (Unit ⊕ Unit)) → Int → Option (Unit ⊕ Unit) := fun L i3 =>
 if i3 < ((a0.length : Nat) : Int) then
 ckI i3 (a0.length) fun j1 =>
 nm (a0.getD j1 ((false, []))) fun y1 =>
 ckI i3 (a1.length) fun j2 =>
 nm (a1.getD j2 ((false, []))) fun y2 =>
 bd (M_ref02_Same fu y1 y2) fun c1 =>
 if (!c1) = true then
 some (.inr ())
 else
 ck64 (i3 + 1) fun x1 =>
 L x1
 else
 some (.inl ())
def M_ref10_Same (fu : Nat) (a0 : List Zr) (a1 : List Zr) : Option Bool :=
 if ((a0.length : Nat) : Int) = ((a1.length : Nat) : Int) then
 bd (loopN (B_ref10_Same_0 fu a0 a1) fu 0) fun s1 => match s1 with
| .inl _ =>
 some true
| .inr _ =>
 some false
 else
 some false
def B_ref13_Same_0 (fu : Nat) (a0 : List (List Zr)) (a1 : List (List Zr)) : (Int → Option (Unit ⊕ Unit)) → Int → Option (Unit ⊕ Unit) := fun L i3 =>
 if i3 < ((a0.length : Nat) : Int) then
 ckI i3 (a0.length) fun j1 =>
 nm (a0.getD j1 ([])) fun y1 =>
 ckI i3 (a1.length) fun j2 =>
 nm (a1.getD j2 ([])) fun y2 =>
 bd (M_ref10_Same fu y1 y2) fun c1 =>
 if (!c1) = true then
 some (.inr ())
 else
 ck64 (i3 + 1) fun x1 =>
 L x1
 else
 some (.inl ())
def M_ref13_Same (fu : Nat) (a0 : List (List Zr)) (a1 : List (List Zr)) : Option Bool :=
 if ((a0.length : Nat) : Int) = ((a1.length : Nat) : Int) then
 bd (loopN (B_ref13_Same_0 fu a0 a1) fu 0) fun s1 => match s1 with
| .inl _ =>
 some true
| .inr _ =>
 some false
 else
 some false
def B_prime_Is_0 (fu : Nat) (a0 : Int) : (Int → Option Bool) → Int → Option Bool := fun L i3 =>
 ck64 (i3 * i3) fun x1 =>
 if x1 ≤ a0 then
 ck (i3 ≠ 0) <|
 nm (Int.tmod a0 i3) fun x2 =>
 if x2 = 0 then
 some false
 else
 ck64 (i3 + 1) fun x3 =>
 L x3
 else
 some true
def B_prime_Is_1 (fu : Nat)  : (Unit → Option Unit) → Unit → Option Unit := fun L _ =>
 some ()
def B_prime_Is_2 (fu : Nat)  : (Unit → Option Unit) → Unit → Option Unit := fun L _ =>
 some ()
def M_prime_Is (fu : Nat) (a0 : Int) : Option Bool :=
 if 2 ≤ a0 then
 if a0 ≤ 65521 then
 bd (loopN (B_prime_Is_0 fu a0) fu 2) fun b1 =>
 some b1
 else
 bd (loopN (B_prime_Is_1 fu ) fu ()) fun _ =>
 some false
 else
 bd (loopN (B_prime_Is_2 fu ) fu ()) fun _ =>
 some false
def B_nat_plain_0 (fu : Nat)  : ((List Nat) → Option (List Nat)) → (List Nat) → Option (List Nat) := fun L t3 =>
 if 0 < ((t3.length : Nat) : Int) then
 ck64 ((((t3.length : Nat) : Int)) - 1) fun x1 =>
 ckI x1 (t3.length) fun j1 =>
 nm (t3.getD j1 0) fun y1 =>
 if ((y1 : Nat) : Int) = (0 : Int) then
 ck64 ((((t3.length : Nat) : Int)) - 1) fun x2 =>
 ckN x2 fun j2 =>
 ck (j2 ≤ t3.length) <|
 nm (t3.take j2) fun y2 =>
 L y2
 else
 some t3
 else
 some t3
def M_nat_plain (fu : Nat) (a0 : List Nat) : Option (List Nat) :=
 bd (loopN (B_nat_plain_0 fu ) fu a0) fun t4 =>
 some t4
def B_nat_plain_own_0 (fu : Nat)  : ((List Nat) → Option (List Nat)) → (List Nat) → Option (List Nat) := fun L t2 =>
 if 0 < ((t2.length : Nat) : Int) then
 ck64 ((((t2.length : Nat) : Int)) - 1) fun x1 =>
 ckI x1 (t2.length) fun j1 =>
 nm (t2.getD j1 0) fun y1 =>
 if ((y1 : Nat) : Int) = (0 : Int) then
 ck64 ((((t2.length : Nat) : Int)) - 1) fun x2 =>
 ckN x2 fun j2 =>
 ck (j2 ≤ t2.length) <|
 nm (t2.take j2) fun t4 =>
 L t4
 else
 some t2
 else
 some t2
def M_nat_plain_own (fu : Nat) (a0 : List Nat) : Option (List Nat) :=
 bd (loopN (B_nat_plain_own_0 fu ) fu a0) fun t3 =>
 some t3
def M_slices_Clone_uint64_uint64 (fu : Nat) (a0 : List Nat) : Option (List Nat) :=
 ck (a0.length ≤ 1099511627776) <|
 some a0
def M_nat_Norm (fu : Nat) (a0 : List Nat) : Option (List Nat) :=
 bd (M_nat_plain fu a0) fun t1 =>
 bd (M_slices_Clone_uint64_uint64 fu t1) fun t2 =>
 some t2
def M_zint_made (fu : Nat) (a0 : Bool) (a1 : List Nat) : Option Zr :=
 bd (M_nat_Norm fu a1) fun t1 =>
 if a0 = true then
 if 0 < ((t1.length : Nat) : Int) then
 some (true, t1)
 else
 some (false, t1)
 else
 some (false, t1)
def M_zint_Of (fu : Nat) (a0 : Int) : Option Zr :=
 if a0 < 0 then
 nm (uns a0) fun m1 =>
 nm ((18446744073709551616 - m1) % 18446744073709551616) fun m2 =>
 bd (M_zint_made fu true [m2]) fun t1 =>
 some t1
 else
 nm (uns a0) fun m3 =>
 bd (M_zint_made fu false [m3]) fun t2 =>
 some t2
def M_math_bits_Len64 (fu : Nat) (a0 : Nat) : Option Int :=
 bd ((if (4294967296 : Int) ≤ ((a0 : Nat) : Int) then
 nm (a0 / 2 ^ (min ((32 : Int)).toNat 64)) fun m1 =>
 some (m1, 32)
 else
 some (a0, 0) : Option (Nat × Int))) fun (d1, i1) =>
 bd ((if (65536 : Int) ≤ ((d1 : Nat) : Int) then
 nm (d1 / 2 ^ (min ((16 : Int)).toNat 64)) fun m2 =>
 ck64 (i1 + 16) fun x1 =>
 some (m2, x1)
 else
 some (d1, i1) : Option (Nat × Int))) fun (d2, i2) =>
 if (256 : Int) ≤ ((d2 : Nat) : Int) then
 nm (d2 / 2 ^ (min ((8 : Int)).toNat 64)) fun m3 =>
 ck64 (i2 + 8) fun x2 =>
 nm (m3 % 256) fun m4 =>
 nm (Lib.bitLen m4) fun m5 =>
 ck64 (x2 + (((m5 : Nat) : Int))) fun x3 =>
 some x3
 else
 nm (d2 % 256) fun m6 =>
 nm (Lib.bitLen m6) fun m7 =>
 ck64 (i2 + (((m7 : Nat) : Int))) fun x4 =>
 some x4
def M_nat_Bits (fu : Nat) (a0 : List Nat) : Option Int :=
 bd (M_nat_plain fu a0) fun t1 =>
 if ((t1.length : Nat) : Int) = 0 then
 some 0
 else
 ck64 ((((t1.length : Nat) : Int)) - 1) fun x1 =>
 ck64 (64 * x1) fun x2 =>
 ck64 ((((t1.length : Nat) : Int)) - 1) fun x3 =>
 ckI x3 (t1.length) fun j1 =>
 nm (t1.getD j1 0) fun y1 =>
 bd (M_math_bits_Len64 fu y1) fun x4 =>
 ck64 (x2 + x4) fun x5 =>
 some x5
def M_nat_at (fu : Nat) (a0 : List Nat) (a1 : Int) : Option Nat :=
 if a1 < ((a0.length : Nat) : Int) then
 ckI a1 (a0.length) fun j1 =>
 nm (a0.getD j1 0) fun y1 =>
 some y1
 else
 some (0 : Nat)
def M_nat_Add_1 (fu : Nat) (a0 : Int) (a1 : Nat) (a2 : List Nat) (a3 : List Nat) : Option (Nat × Nat) :=
 bd (M_nat_at fu a2 a0) fun m1 =>
 bd (M_nat_at fu a3 a0) fun m2 =>
 ck (a1 ≤ 1) <|
 nm ((m1 + m2 + a1) % 18446744073709551616) fun m3 =>
 nm ((m1 + m2 + a1) / 18446744073709551616) fun m4 =>
 some (m3, m4)
def B_nat_carried_0 (fu : Nat) (a1 : Int → Nat → Option (Nat × Nat)) (j1 : Nat) : ((Nat × Int × (List Nat)) → Option (Nat × (List Nat))) → (Nat × Int × (List Nat)) → Option (Nat × (List Nat)) := fun L (d3, i3, t4) =>
 if i3 < ((j1 : Nat) : Int) then
 bd (a1 i3 d3) fun (m1, m2) =>
 ckI i3 (t4.length) fun j2 =>
 nm (t4.set j2 m1) fun t6 =>
 ck64 (i3 + 1) fun x1 =>
 L (m2, x1, t6)
 else
 some (d3, t4)
def M_nat_carried (fu : Nat) (a0 : Int) (a1 : Int → Nat → Option (Nat × Nat)) : Option ((List Nat) × Nat) :=
 ckN a0 fun j1 =>
 ck (8 * j1 ≤ 281474976710656) <|
 nm (List.replicate j1 0) fun t1 =>
 bd (loopN (B_nat_carried_0 fu a1 j1) fu (((0 : Nat), 0, t1))) fun (d4, t5) =>
 some (t5, d4)
def M_nat_Add (fu : Nat) (a0 : List Nat) (a1 : List Nat) : Option (List Nat) :=
 nm (max (((a0.length : Nat) : Int)) (((a1.length : Nat) : Int))) fun x1 =>
 bd (M_nat_carried fu x1 (fun zx0 zx1 => M_nat_Add_1 fu zx0 zx1 a0 a1)) fun (t1, m1) =>
 ck ((t1.length + ([m1]).length) * 8 ≤ 140737488355328) <|
 nm (t1 ++ ([m1])) fun t2 =>
 bd (M_nat_plain_own fu t2) fun t3 =>
 some t3
def M_nat_Sub_1 (fu : Nat) (a0 : Int) (a1 : Nat) (a2 : List Nat) (a3 : List Nat) : Option (Nat × Nat) :=
 bd (M_nat_at fu a2 a0) fun m1 =>
 bd (M_nat_at fu a3 a0) fun m2 =>
 ck (a1 ≤ 1) <|
 nm ((m1 + 18446744073709551616 - m2 - a1) % 18446744073709551616) fun m3 =>
 nm (if m1 < m2 + a1 then 1 else 0) fun m4 =>
 some (m3, m4)
def M_nat_Sub (fu : Nat) (a0 : List Nat) (a1 : List Nat) : Option ((List Nat) × Int) :=
 nm (max (((a0.length : Nat) : Int)) (((a1.length : Nat) : Int))) fun x1 =>
 bd (M_nat_carried fu x1 (fun zx0 zx1 => M_nat_Sub_1 fu zx0 zx1 a0 a1)) fun (t1, m1) =>
 if (0 : Int) < ((m1 : Nat) : Int) then
 some ((([] : List Nat), 1))
 else
 bd (M_nat_plain_own fu t1) fun t2 =>
 some (t2, 0)
def M_nat_less (fu : Nat) (a0 : List Nat) (a1 : List Nat) : Option (List Nat) :=
 bd (M_nat_Sub fu a0 a1) fun (t1, x1) =>
 some t1
def M_nat_moved (fu : Nat) (a0 : List Nat) (a1 : Int) : Option (List Nat) :=
 ckN a1 fun j1 =>
 ck (8 * j1 ≤ 281474976710656) <|
 nm (List.replicate j1 0) fun t1 =>
 ck ((t1.length + a0.length) * 8 ≤ 140737488355328) <|
 nm (t1 ++ a0) fun t2 =>
 some t2
def M_math_bits_Mul64 (fu : Nat) (a0 : Nat) (a1 : Nat) : Option (Nat × Nat) :=
 nm (a0 &&& ((4294967295 : Nat))) fun m1 =>
 nm (a0 / 2 ^ (min ((32 : Int)).toNat 64)) fun m2 =>
 nm (a1 &&& ((4294967295 : Nat))) fun m3 =>
 nm (a1 / 2 ^ (min ((32 : Int)).toNat 64)) fun m4 =>
 nm ((m1 * m3) % 18446744073709551616) fun m5 =>
 nm ((m2 * m3) % 18446744073709551616) fun m6 =>
 nm (m5 / 2 ^ (min ((32 : Int)).toNat 64)) fun m7 =>
 nm ((m6 + m7) % 18446744073709551616) fun m8 =>
 nm (m8 &&& ((4294967295 : Nat))) fun m9 =>
 nm (m8 / 2 ^ (min ((32 : Int)).toNat 64)) fun m10 =>
 nm ((m1 * m4) % 18446744073709551616) fun m11 =>
 nm ((m9 + m11) % 18446744073709551616) fun m12 =>
 nm ((m2 * m4) % 18446744073709551616) fun m13 =>
 nm ((m13 + m10) % 18446744073709551616) fun m14 =>
 nm (m12 / 2 ^ (min ((32 : Int)).toNat 64)) fun m15 =>
 nm ((m14 + m15) % 18446744073709551616) fun m16 =>
 nm ((a0 * a1) % 18446744073709551616) fun m17 =>
 some (m16, m17)
def M_nat_row_1 (fu : Nat) (a0 : Int) (a1 : Nat) (a2 : List Nat) (a3 : Nat) : Option (Nat × Nat) :=
 ckI a0 (a2.length) fun j1 =>
 nm (a2.getD j1 0) fun y1 =>
 bd (M_math_bits_Mul64 fu y1 a3) fun (m1, m2) =>
 nm ((m2 + a1 + ((0 : Nat))) % 18446744073709551616) fun m3 =>
 nm ((m2 + a1 + ((0 : Nat))) / 18446744073709551616) fun m4 =>
 nm ((m1 + m4) % 18446744073709551616) fun m5 =>
 some (m3, m5)
def M_nat_row (fu : Nat) (a0 : List Nat) (a1 : Nat) : Option (List Nat) :=
 bd (M_nat_carried fu (((a0.length : Nat) : Int)) (fun zx0 zx1 => M_nat_row_1 fu zx0 zx1 a0 a1)) fun (t1, m1) =>
 ck ((t1.length + ([m1]).length) * 8 ≤ 140737488355328) <|
 nm (t1 ++ ([m1])) fun t2 =>
 some t2
def B_nat_school_1 (fu : Nat) (i3 : Int) (t6 : List Nat) : ((Nat × (List Nat) × Int × (List Nat)) → Option (List Nat)) → (Nat × (List Nat) × Int × (List Nat)) → Option (List Nat) := fun L (d3, t12, i6, t11) =>
 bd ((if i6 < ((t6.length : Nat) : Int) then
 some (t12, true)
 else
 some (t12, false) : Option ((List Nat) × Bool))) fun (t14, b3) =>
 if b3 = true then
 ckI i6 (t14.length) fun j3 =>
 nm (t14.getD j3 0) fun y2 =>
 ck64 (i3 + i6) fun x3 =>
 ck64 (i3 + i6) fun x4 =>
 ckI x4 (t11.length) fun j4 =>
 nm (t11.getD j4 0) fun y3 =>
 ck (d3 ≤ 1) <|
 nm ((y3 + y2 + d3) % 18446744073709551616) fun m1 =>
 nm ((y3 + y2 + d3) / 18446744073709551616) fun m2 =>
 ckI x3 (t11.length) fun j5 =>
 nm (t11.set j5 m1) fun t15 =>
 ck64 (i6 + 1) fun x5 =>
 L (m2, t14, x5, t15)
 else
 some t11
def B_nat_school_0 (fu : Nat) (a0 : List Nat) (a1 : List Nat) : ((Int × (List Nat)) → Option (List Nat)) → (Int × (List Nat)) → Option (List Nat) := fun L (i3, t4) =>
 bd ((if i3 < ((a1.length : Nat) : Int) then
 some true
 else
 some false : Option Bool)) fun b2 =>
 if b2 = true then
 ckI i3 (a1.length) fun j2 =>
 nm (a1.getD j2 0) fun y1 =>
 bd (M_nat_row fu a0 y1) fun t6 =>
 bd (loopN (B_nat_school_1 fu i3 t6) fu (((0 : Nat), t6, 0, t4))) fun t13 =>
 ck64 (i3 + 1) fun x6 =>
 L (x6, t13)
 else
 some t4
def M_nat_school (fu : Nat) (a0 : List Nat) (a1 : List Nat) : Option (List Nat) :=
 ck64 ((((a0.length : Nat) : Int)) + (((a1.length : Nat) : Int))) fun x1 =>
 ck64 (x1 + 1) fun x2 =>
 ckN x2 fun j1 =>
 ck (8 * j1 ≤ 281474976710656) <|
 nm (List.replicate j1 0) fun t1 =>
 bd (loopN (B_nat_school_0 fu a0 a1) fu (0, t1)) fun t5 =>
 bd (M_nat_plain_own fu t5) fun t16 =>
 some t16
def M_nat_Mul : Nat → (List Nat) → (List Nat) → Option (List Nat)
  | 0, _, _ => none
  | fu + 1, a0, a1 =>
    bd (M_nat_plain fu a0) fun t1 =>
    bd (M_nat_plain fu a1) fun t2 =>
    nm (min (((t1.length : Nat) : Int)) (((t2.length : Nat) : Int))) fun x1 =>
    if x1 < 8 then
    bd (M_nat_school fu t1 t2) fun t3 =>
    some t3
    else
    nm (max (((t1.length : Nat) : Int)) (((t2.length : Nat) : Int))) fun x2 =>
    ck64 (Int.tdiv x2 2) fun x3 =>
    nm (min x3 (((t1.length : Nat) : Int))) fun x4 =>
    ckN x4 fun j1 =>
    ck (j1 ≤ t1.length) <|
    nm (t1.take j1) fun y1 =>
    bd (M_nat_plain fu y1) fun t4 =>
    nm (min x3 (((t1.length : Nat) : Int))) fun x5 =>
    ckN x5 fun j2 =>
    ck (j2 ≤ t1.length) <|
    nm (t1.drop j2) fun y2 =>
    nm (min x3 (((t2.length : Nat) : Int))) fun x6 =>
    ckN x6 fun j3 =>
    ck (j3 ≤ t2.length) <|
    nm (t2.take j3) fun y3 =>
    bd (M_nat_plain fu y3) fun t5 =>
    nm (min x3 (((t2.length : Nat) : Int))) fun x7 =>
    ckN x7 fun j4 =>
    ck (j4 ≤ t2.length) <|
    nm (t2.drop j4) fun y4 =>
    bd (M_nat_Mul fu t4 t5) fun t6 =>
    bd (M_nat_Mul fu y2 y4) fun t7 =>
    bd (M_nat_Add fu t4 y2) fun t8 =>
    bd (M_nat_Add fu t5 y4) fun t9 =>
    bd (M_nat_Mul fu t8 t9) fun t10 =>
    bd (M_nat_less fu t10 t6) fun t11 =>
    bd (M_nat_less fu t11 t7) fun t12 =>
    bd (M_nat_moved fu t12 x3) fun t13 =>
    bd (M_nat_Add fu t6 t13) fun t14 =>
    ck64 (2 * x3) fun x8 =>
    bd (M_nat_moved fu t7 x8) fun t15 =>
    bd (M_nat_Add fu t14 t15) fun t16 =>
    some t16
def M_zint_Mul (fu : Nat) (a0 : Zr) (a1 : Zr) : Option Zr :=
 nm (!(a0.1 == a1.1)) fun c1 =>
 bd (M_nat_Mul fu a0.2 a1.2) fun t1 =>
 bd (M_zint_made fu c1 t1) fun t2 =>
 some t2
def M_zint_Norm (fu : Nat) (a0 : Zr) : Option Zr :=
 bd (M_zint_made fu a0.1 a0.2) fun t1 =>
 some t1
def B_zint_Pow_0 (fu : Nat)  : ((Int × Zr × Zr) → Option Zr) → (Int × Zr × Zr) → Option Zr := fun L (i3, t9, t8) =>
 if 0 < i3 then
 nm (andI i3 1) fun x3 =>
 if x3 = 1 then
 bd (M_zint_Mul fu t8 t9) fun t11 =>
 if 1 < i3 then
 bd (M_zint_Mul fu t9 t9) fun t12 =>
 nm (Int.fdiv i3 (2 ^ (min ((1 : Int)).toNat 64))) fun x4 =>
 L (x4, t12, t11)
 else
 nm (Int.fdiv i3 (2 ^ (min ((1 : Int)).toNat 64))) fun x5 =>
 L (x5, t9, t11)
 else
 if 1 < i3 then
 bd (M_zint_Mul fu t9 t9) fun t13 =>
 nm (Int.fdiv i3 (2 ^ (min ((1 : Int)).toNat 64))) fun x6 =>
 L (x6, t13, t8)
 else
 nm (Int.fdiv i3 (2 ^ (min ((1 : Int)).toNat 64))) fun x7 =>
 L (x7, t9, t8)
 else
 some t8
def M_zint_Pow (fu : Nat) (a0 : Zr) (a1 : Int) : Option (Zr × Int) :=
 bd ((if a1 < 0 then
 some true
 else
 if 65536 < a1 then
 some true
 else
 some false : Option Bool)) fun b2 =>
 if b2 = true then
 some (((false, []), 1))
 else
 bd (M_nat_Bits fu a0.2) fun x1 =>
 ck64 (x1 * a1) fun x2 =>
 if 262144 < x2 then
 some (((false, []), 6))
 else
 bd (M_zint_Of fu 1) fun t1 =>
 bd (M_zint_Norm fu a0) fun t2 =>
 bd (loopN (B_zint_Pow_0 fu ) fu (a1, t2, t1)) fun t10 =>
 some (t10, 0)
def M_hensel_Power (fu : Nat) (a0 : Int) (a1 : Int) : Option (Zr × Int) :=
 bd (M_prime_Is fu a0) fun c1 =>
 if (!c1) = true then
 some (((false, []), 1))
 else
 if a1 < 1 then
 some (((false, []), 1))
 else
 if 1000 < a1 then
 some (((false, []), 1))
 else
 bd (M_zint_Of fu a0) fun t1 =>
 bd (M_zint_Pow fu t1 a1) fun (t2, x1) =>
 some (t2, x1)
def M_zint_Sign (fu : Nat) (a0 : Zr) : Option Int :=
 bd (M_zint_Norm fu a0) fun t1 =>
 if t1.1 = true then
 ck64 (0 - 2) fun x1 =>
 ck64 (x1 + 1) fun x2 =>
 some x2
 else
 if 0 < ((t1.2.length : Nat) : Int) then
 ck64 (0 + 1) fun x3 =>
 some x3
 else
 some 0
def M_zpoly_Norm_1 (fu : Nat) (a0 : Int) (a1 : Zr) : Option Zr :=
 bd (M_zint_Norm fu a1) fun t1 =>
 some t1
def B_zpoly_each_api_Int_api_Int_0 (fu : Nat) (a0 : List Zr) (a1 : Int → Zr → Option Zr) : ((Int × (List Zr)) → Option (List Zr)) → (Int × (List Zr)) → Option (List Zr) := fun L (i3, t4) =>
 bd ((if i3 < ((a0.length : Nat) : Int) then
 some true
 else
 some false : Option Bool)) fun b2 =>
 if b2 = true then
 ckI i3 (a0.length) fun j1 =>
 nm (a0.getD j1 ((false, []))) fun y1 =>
 bd (a1 i3 y1) fun t6 =>
 ckI i3 (t4.length) fun j2 =>
 nm (t4.set j2 t6) fun t7 =>
 ck64 (i3 + 1) fun x1 =>
 L (x1, t7)
 else
 some t4
def M_zpoly_each_api_Int_api_Int (fu : Nat) (a0 : List Zr) (a1 : Int → Zr → Option Zr) : Option (List Zr) :=
 ck (32 * a0.length ≤ 281474976710656) <|
 nm (List.replicate a0.length ((false, []))) fun t1 =>
 bd (loopN (B_zpoly_each_api_Int_api_Int_0 fu a0 a1) fu (0, t1)) fun t5 =>
 some t5
def B_zpoly_Norm_0 (fu : Nat)  : ((List Zr) → Option (List Zr)) → (List Zr) → Option (List Zr) := fun L t3 =>
 if 0 < ((t3.length : Nat) : Int) then
 ck64 ((((t3.length : Nat) : Int)) - 1) fun x1 =>
 ckI x1 (t3.length) fun j1 =>
 nm (t3.getD j1 ((false, []))) fun y1 =>
 bd (M_zint_Sign fu y1) fun x2 =>
 if x2 = 0 then
 ck64 ((((t3.length : Nat) : Int)) - 1) fun x3 =>
 ckN x3 fun j2 =>
 ck (j2 ≤ t3.length) <|
 nm (t3.take j2) fun y2 =>
 L y2
 else
 some t3
 else
 some t3
def M_zpoly_Norm (fu : Nat) (a0 : List Zr) : Option (List Zr) :=
 bd (loopN (B_zpoly_Norm_0 fu ) fu a0) fun t4 =>
 bd (M_zpoly_each_api_Int_api_Int fu t4 (fun zx0 zx1 => M_zpoly_Norm_1 fu zx0 zx1)) fun t5 =>
 some t5
def B_hensel_rests_0 (fu : Nat) (a0 : List Zr) (a1 : Zr) (a2 : Zr → Zr → Option (Zr × Int)) : ((Int × (List Zr)) → Option (List Zr)) → (Int × (List Zr)) → Option (List Zr) := fun L (i3, t4) =>
 bd ((if i3 < ((a0.length : Nat) : Int) then
 some true
 else
 some false : Option Bool)) fun b2 =>
 if b2 = true then
 ckI i3 (a0.length) fun j1 =>
 nm (a0.getD j1 ((false, []))) fun y1 =>
 bd (a2 y1 a1) fun (t6, x2) =>
 ckI i3 (t4.length) fun j2 =>
 nm (t4.set j2 t6) fun t7 =>
 ck64 (i3 + 1) fun x3 =>
 L (x3, t7)
 else
 some t4
def M_hensel_rests (fu : Nat) (a0 : List Zr) (a1 : Zr) (a2 : Zr → Zr → Option (Zr × Int)) : Option ((List Zr) × Int) :=
 bd (M_zint_Sign fu a1) fun x1 =>
 if x1 ≤ 0 then
 some ((([] : List Zr), 1))
 else
 ck (32 * a0.length ≤ 281474976710656) <|
 nm (List.replicate a0.length ((false, []))) fun t1 =>
 bd (loopN (B_hensel_rests_0 fu a0 a1 a2) fu (0, t1)) fun t5 =>
 bd (M_zpoly_Norm fu t5) fun t8 =>
 some (t8, 0)
def M_cmp_isNaN_int (fu : Nat) (a0 : Int) : Option Bool :=
 some false
def M_cmp_Compare_int (fu : Nat) (a0 : Int) (a1 : Int) : Option Int :=
 bd (M_cmp_isNaN_int fu a0) fun c1 =>
 bd (M_cmp_isNaN_int fu a1) fun c2 =>
 if c1 = true then
 if c2 = true then
 some 0
 else
 some (-1)
 else
 if c2 = true then
 some 1
 else
 if a0 < a1 then
 some (-1)
 else
 if a1 < a0 then
 some 1
 else
 some 0
def M_cmp_isNaN_uint64 (fu : Nat) (a0 : Nat) : Option Bool :=
 some false
def M_cmp_Compare_uint64 (fu : Nat) (a0 : Nat) (a1 : Nat) : Option Int :=
 bd (M_cmp_isNaN_uint64 fu a0) fun c1 =>
 bd (M_cmp_isNaN_uint64 fu a1) fun c2 =>
 if c1 = true then
 if c2 = true then
 some 0
 else
 some (-1)
 else
 if c2 = true then
 some 1
 else
 if ((a0 : Nat) : Int) < ((a1 : Nat) : Int) then
 some (-1)
 else
 if ((a1 : Nat) : Int) < ((a0 : Nat) : Int) then
 some 1
 else
 some 0
def B_nat_Cmp_0 (fu : Nat) (t1 : List Nat) (t2 : List Nat) : (Int → Option (Unit ⊕ Int)) → Int → Option (Unit ⊕ Int) := fun L i3 =>
 if 0 ≤ i3 then
 ckI i3 (t1.length) fun j1 =>
 nm (t1.getD j1 0) fun y1 =>
 ckI i3 (t2.length) fun j2 =>
 nm (t2.getD j2 0) fun y2 =>
 if ((y1 : Nat) : Int) = ((y2 : Nat) : Int) then
 ck64 (i3 - 1) fun x4 =>
 L x4
 else
 ckI i3 (t1.length) fun j3 =>
 nm (t1.getD j3 0) fun y3 =>
 ckI i3 (t2.length) fun j4 =>
 nm (t2.getD j4 0) fun y4 =>
 bd (M_cmp_Compare_uint64 fu y3 y4) fun x3 =>
 some (.inr x3)
 else
 some (.inl ())
def M_nat_Cmp (fu : Nat) (a0 : List Nat) (a1 : List Nat) : Option Int :=
 bd (M_nat_plain fu a0) fun t1 =>
 bd (M_nat_plain fu a1) fun t2 =>
 if ((t1.length : Nat) : Int) = ((t2.length : Nat) : Int) then
 ck64 ((((t1.length : Nat) : Int)) - 1) fun x2 =>
 bd (loopN (B_nat_Cmp_0 fu t1 t2) fu x2) fun s1 => match s1 with
| .inl _ =>
 some 0
| .inr i4 =>
 some i4
 else
 bd (M_cmp_Compare_int fu (((t1.length : Nat) : Int)) (((t2.length : Nat) : Int))) fun x1 =>
 some x1
def M_nat_Shl_1 (fu : Nat) (a0 : Int) (a1 : Nat) (a2 : List Nat) (a3 : Int) : Option (Nat × Nat) :=
 ckI a0 (a2.length) fun j1 =>
 nm (a2.getD j1 0) fun y1 =>
 nm (Int.tmod a3 64) fun x1 =>
 ck (0 ≤ x1) <|
 nm (y1 * 2 ^ (min x1.toNat 64) % 18446744073709551616) fun m1 =>
 nm (m1 ||| a1) fun m2 =>
 ckI a0 (a2.length) fun j2 =>
 nm (a2.getD j2 0) fun y2 =>
 nm (y2 / 2 ^ (min ((1 : Int)).toNat 64)) fun m3 =>
 nm (Int.tmod a3 64) fun x2 =>
 ck64 (63 - x2) fun x3 =>
 ck (0 ≤ x3) <|
 nm (m3 / 2 ^ (min x3.toNat 64)) fun m4 =>
 some (m2, m4)
def M_nat_Shl (fu : Nat) (a0 : List Nat) (a1 : Int) : Option ((List Nat) × Int) :=
 if a1 < 0 then
 some ((([] : List Nat), 1))
 else
 if 262144 < a1 then
 some ((([] : List Nat), 1))
 else
 bd (M_nat_carried fu (((a0.length : Nat) : Int)) (fun zx0 zx1 => M_nat_Shl_1 fu zx0 zx1 a0 a1)) fun (t1, m1) =>
 ck ((t1.length + ([m1]).length) * 8 ≤ 140737488355328) <|
 nm (t1 ++ ([m1])) fun t2 =>
 ck64 (Int.tdiv a1 64) fun x1 =>
 bd (M_nat_moved fu t2 x1) fun t3 =>
 bd (M_nat_plain_own fu t3) fun t4 =>
 some (t4, 0)
def M_nat_Shr_1 (fu : Nat) (a0 : Int) (a1 : Nat) (a2 : List Nat) (a3 : Int) : Option (Nat × Nat) :=
 ckI a0 (a2.length) fun j1 =>
 nm (a2.getD j1 0) fun y1 =>
 ck (0 ≤ a3) <|
 nm (y1 / 2 ^ (min a3.toNat 64)) fun m1 =>
 ck64 (a0 + 1) fun x1 =>
 bd (M_nat_at fu a2 x1) fun m2 =>
 nm (m2 * 2 ^ (min ((1 : Int)).toNat 64) % 18446744073709551616) fun m3 =>
 ck64 (63 - a3) fun x2 =>
 ck (0 ≤ x2) <|
 nm (m3 * 2 ^ (min x2.toNat 64) % 18446744073709551616) fun m4 =>
 nm (m1 ||| m4) fun m5 =>
 some ((m5, (0 : Nat)))
def M_nat_Shr (fu : Nat) (a0 : List Nat) (a1 : Int) : Option (List Nat) :=
 nm (max a1 0) fun x1 =>
 ck64 (Int.tdiv x1 64) fun x2 =>
 if ((a0.length : Nat) : Int) ≤ x2 then
 some ([] : List Nat)
 else
 ck64 (Int.tdiv x1 64) fun x3 =>
 ckN x3 fun j1 =>
 ck (j1 ≤ a0.length) <|
 nm (a0.drop j1) fun y1 =>
 nm (Int.tmod x1 64) fun x4 =>
 bd (M_nat_carried fu (((y1.length : Nat) : Int)) (fun zx0 zx1 => M_nat_Shr_1 fu zx0 zx1 y1 x4)) fun (t1, m1) =>
 bd (M_nat_plain_own fu t1) fun t2 =>
 some t2
def M_math_bits_LeadingZeros64 (fu : Nat) (a0 : Nat) : Option Int :=
 bd (M_math_bits_Len64 fu a0) fun x1 =>
 ck64 (64 - x1) fun x2 =>
 some x2
def B_math_bits_Div64_1 (fu : Nat) (m5 : Nat) (m6 : Nat) (m13 : Nat) : ((Nat × Nat) → Option Nat) → (Nat × Nat) → Option Nat := fun L (d12, d13) =>
 if (4294967296 : Int) ≤ ((d13 : Nat) : Int) then
 nm ((d13 + 18446744073709551616 - ((1 : Nat))) % 18446744073709551616) fun m31 =>
 nm ((d12 + m5) % 18446744073709551616) fun m32 =>
 if (4294967296 : Int) ≤ ((m32 : Nat) : Int) then
 some m31
 else
 L (m32, m31)
 else
 nm ((d13 * m6) % 18446744073709551616) fun m33 =>
 nm ((((4294967296 : Nat)) * d12) % 18446744073709551616) fun m34 =>
 nm ((m34 + m13) % 18446744073709551616) fun m35 =>
 if ((m35 : Nat) : Int) < ((m33 : Nat) : Int) then
 nm ((d13 + 18446744073709551616 - ((1 : Nat))) % 18446744073709551616) fun m36 =>
 nm ((d12 + m5) % 18446744073709551616) fun m37 =>
 if (4294967296 : Int) ≤ ((m37 : Nat) : Int) then
 some m36
 else
 L (m37, m36)
 else
 some d13
def B_math_bits_Div64_0 (fu : Nat) (m5 : Nat) (m6 : Nat) (m12 : Nat) : ((Nat × Nat) → Option Nat) → (Nat × Nat) → Option Nat := fun L (d5, d6) =>
 if (4294967296 : Int) ≤ ((d5 : Nat) : Int) then
 nm ((d5 + 18446744073709551616 - ((1 : Nat))) % 18446744073709551616) fun m17 =>
 nm ((d6 + m5) % 18446744073709551616) fun m18 =>
 if (4294967296 : Int) ≤ ((m18 : Nat) : Int) then
 some m17
 else
 L (m17, m18)
 else
 nm ((d5 * m6) % 18446744073709551616) fun m19 =>
 nm ((((4294967296 : Nat)) * d6) % 18446744073709551616) fun m20 =>
 nm ((m20 + m12) % 18446744073709551616) fun m21 =>
 if ((m21 : Nat) : Int) < ((m19 : Nat) : Int) then
 nm ((d5 + 18446744073709551616 - ((1 : Nat))) % 18446744073709551616) fun m22 =>
 nm ((d6 + m5) % 18446744073709551616) fun m23 =>
 if (4294967296 : Int) ≤ ((m23 : Nat) : Int) then
 some m22
 else
 L (m22, m23)
 else
 some d5
def M_math_bits_Div64 (fu : Nat) (a0 : Nat) (a1 : Nat) (a2 : Nat) : Option (Nat × Nat) :=
 if ((a2 : Nat) : Int) = (0 : Int) then
 none
 else
 if ((a2 : Nat) : Int) ≤ ((a0 : Nat) : Int) then
 none
 else
 if ((a0 : Nat) : Int) = (0 : Int) then
 ck (a2 ≠ 0) <|
 nm (a1 / a2) fun m1 =>
 ck (a2 ≠ 0) <|
 nm (a1 % a2) fun m2 =>
 some (m1, m2)
 else
 bd (M_math_bits_LeadingZeros64 fu a2) fun x1 =>
 nm (uns x1) fun m3 =>
 nm (a2 * 2 ^ (min (m3 : Int).toNat 64) % 18446744073709551616) fun m4 =>
 nm (m4 / 2 ^ (min ((32 : Int)).toNat 64)) fun m5 =>
 nm (m4 &&& ((4294967295 : Nat))) fun m6 =>
 nm (a0 * 2 ^ (min (m3 : Int).toNat 64) % 18446744073709551616) fun m7 =>
 nm ((((64 : Nat)) + 18446744073709551616 - m3) % 18446744073709551616) fun m8 =>
 nm (a1 / 2 ^ (min (m8 : Int).toNat 64)) fun m9 =>
 nm (m7 ||| m9) fun m10 =>
 nm (a1 * 2 ^ (min (m3 : Int).toNat 64) % 18446744073709551616) fun m11 =>
 nm (m11 / 2 ^ (min ((32 : Int)).toNat 64)) fun m12 =>
 nm (m11 &&& ((4294967295 : Nat))) fun m13 =>
 ck (m5 ≠ 0) <|
 nm (m10 / m5) fun m14 =>
 nm ((m14 * m5) % 18446744073709551616) fun m15 =>
 nm ((m10 + 18446744073709551616 - m15) % 18446744073709551616) fun m16 =>
 bd (loopN (B_math_bits_Div64_0 fu m5 m6 m12) fu (m14, m16)) fun d7 =>
 nm ((m10 * ((4294967296 : Nat))) % 18446744073709551616) fun m24 =>
 nm ((m24 + m12) % 18446744073709551616) fun m25 =>
 nm ((d7 * m4) % 18446744073709551616) fun m26 =>
 nm ((m25 + 18446744073709551616 - m26) % 18446744073709551616) fun m27 =>
 ck (m5 ≠ 0) <|
 nm (m27 / m5) fun m28 =>
 nm ((m28 * m5) % 18446744073709551616) fun m29 =>
 nm ((m27 + 18446744073709551616 - m29) % 18446744073709551616) fun m30 =>
 bd (loopN (B_math_bits_Div64_1 fu m5 m6 m13) fu (m30, m28)) fun d14 =>
 nm ((d7 * ((4294967296 : Nat))) % 18446744073709551616) fun m38 =>
 nm ((m38 + d14) % 18446744073709551616) fun m39 =>
 nm ((m27 * ((4294967296 : Nat))) % 18446744073709551616) fun m40 =>
 nm ((m40 + m13) % 18446744073709551616) fun m41 =>
 nm ((d14 * m4) % 18446744073709551616) fun m42 =>
 nm ((m41 + 18446744073709551616 - m42) % 18446744073709551616) fun m43 =>
 nm (m43 / 2 ^ (min (m3 : Int).toNat 64)) fun m44 =>
 some (m39, m44)
def B_nat_guess_0 (fu : Nat) (a2 : Nat) (a3 : Nat) (a4 : Nat) : ((Nat × Nat) → Option Nat) → (Nat × Nat) → Option Nat := fun L (d5, d6) =>
 bd (M_math_bits_Mul64 fu d5 a4) fun (m3, m4) =>
 if ((m3 : Nat) : Int) < ((d6 : Nat) : Int) then
 some d5
 else
 if ((m3 : Nat) : Int) = ((d6 : Nat) : Int) then
 if ((m4 : Nat) : Int) ≤ ((a2 : Nat) : Int) then
 some d5
 else
 nm ((d5 + 18446744073709551616 - ((1 : Nat))) % 18446744073709551616) fun m5 =>
 nm ((d6 + a3 + ((0 : Nat))) % 18446744073709551616) fun m6 =>
 nm ((d6 + a3 + ((0 : Nat))) / 18446744073709551616) fun m7 =>
 if (0 : Int) < ((m7 : Nat) : Int) then
 some m5
 else
 L (m5, m6)
 else
 nm ((d5 + 18446744073709551616 - ((1 : Nat))) % 18446744073709551616) fun m8 =>
 nm ((d6 + a3 + ((0 : Nat))) % 18446744073709551616) fun m9 =>
 nm ((d6 + a3 + ((0 : Nat))) / 18446744073709551616) fun m10 =>
 if (0 : Int) < ((m10 : Nat) : Int) then
 some m8
 else
 L (m8, m9)
def M_nat_guess (fu : Nat) (a0 : Nat) (a1 : Nat) (a2 : Nat) (a3 : Nat) (a4 : Nat) : Option Nat :=
 if ((a3 : Nat) : Int) ≤ ((a0 : Nat) : Int) then
 some (18446744073709551615 : Nat)
 else
 bd (M_math_bits_Div64 fu a0 a1 a3) fun (m1, m2) =>
 bd (loopN (B_nat_guess_0 fu a2 a3 a4) fu (m1, m2)) fun d7 =>
 some d7
def B_nat_short_0 (fu : Nat) (a0 : List Nat) (a1 : Nat) : ((Nat × Int × (List Nat)) → Option (Nat × (List Nat))) → (Nat × Int × (List Nat)) → Option (Nat × (List Nat)) := fun L (d3, i3, t4) =>
 if 0 ≤ i3 then
 ckI i3 (a0.length) fun j1 =>
 nm (a0.getD j1 0) fun y1 =>
 bd (M_math_bits_Div64 fu d3 y1 a1) fun (m1, m2) =>
 ckI i3 (t4.length) fun j2 =>
 nm (t4.set j2 m1) fun t6 =>
 ck64 (i3 - 1) fun x2 =>
 L (m2, x2, t6)
 else
 some (d3, t4)
def M_nat_short (fu : Nat) (a0 : List Nat) (a1 : Nat) : Option ((List Nat) × Nat) :=
 ck (8 * a0.length ≤ 281474976710656) <|
 nm (List.replicate a0.length 0) fun t1 =>
 ck64 ((((a0.length : Nat) : Int)) - 1) fun x1 =>
 bd (loopN (B_nat_short_0 fu a0 a1) fu (((0 : Nat), x1, t1))) fun (d4, t5) =>
 bd (M_nat_plain_own fu t5) fun t7 =>
 some (t7, d4)
def B_nat_Div_1 (fu : Nat) (t17 : List Nat) : ((Nat × (List Nat)) → Option (Nat × (List Nat))) → (Nat × (List Nat)) → Option (Nat × (List Nat)) := fun L (d3, t25) =>
 bd (M_nat_row fu t17 d3) fun t27 =>
 bd (M_nat_Cmp fu t27 t25) fun x19 =>
 if 0 < x19 then
 nm ((d3 + 18446744073709551616 - ((1 : Nat))) % 18446744073709551616) fun m3 =>
 L (m3, t25)
 else
 some (d3, t25)
def B_nat_Div_0 (fu : Nat) (t6 : List Nat) : (((List Nat) × (List Nat) × Int × (List Nat)) → Option ((List Nat) × (List Nat))) → ((List Nat) × (List Nat) × Int × (List Nat)) → Option ((List Nat) × (List Nat)) := fun L (t17, t18, i3, t16) =>
 if 0 ≤ i3 then
 ck64 (i3 + (((t6.length : Nat) : Int))) fun x10 =>
 ckI x10 (t18.length) fun j5 =>
 nm (t18.getD j5 0) fun y3 =>
 ck64 (i3 + (((t6.length : Nat) : Int))) fun x11 =>
 ck64 (x11 - 1) fun x12 =>
 ckI x12 (t18.length) fun j6 =>
 nm (t18.getD j6 0) fun y4 =>
 ck64 (i3 + (((t6.length : Nat) : Int))) fun x13 =>
 ck64 (x13 - 2) fun x14 =>
 ckI x14 (t18.length) fun j7 =>
 nm (t18.getD j7 0) fun y5 =>
 ck64 ((((t6.length : Nat) : Int)) - 1) fun x15 =>
 ckI x15 (t17.length) fun j8 =>
 nm (t17.getD j8 0) fun y6 =>
 ck64 ((((t6.length : Nat) : Int)) - 2) fun x16 =>
 ckI x16 (t17.length) fun j9 =>
 nm (t17.getD j9 0) fun y7 =>
 bd (M_nat_guess fu y3 y4 y5 y6 y7) fun m2 =>
 ck64 (i3 + (((t6.length : Nat) : Int))) fun x17 =>
 ck64 (x17 + 1) fun x18 =>
 ckN i3 fun j10 =>
 ckN x18 fun j11 =>
 ck (j10 ≤ j11 ∧ j11 ≤ t18.length ∧ j10 < t18.length) <|
 nm ((t18.drop j10).take (j11 - j10)) fun t21 =>
 ck (((([] : List Nat)).length + t21.length) * 8 ≤ 140737488355328) <|
 nm ((([] : List Nat)) ++ t21) fun t22 =>
 bd (loopN (B_nat_Div_1 fu t17) fu (m2, t22)) fun (d4, t26) =>
 ckI i3 (t16.length) fun j12 =>
 nm (t16.set j12 d4) fun t28 =>
 ckN i3 fun j13 =>
 ck (j13 ≤ t18.length ∧ j13 < t18.length) <|
 nm ((t18.drop j13).take (t18.length - j13)) fun t29 =>
 bd (M_nat_row fu t17 d4) fun t30 =>
 bd (M_nat_less fu t26 t30) fun t31 =>
 ck64 ((((t6.length : Nat) : Int)) + 1) fun x20 =>
 ckN x20 fun j14 =>
 ck ((t31.length + j14) * 8 ≤ 140737488355328) <|
 nm (t31 ++ List.replicate j14 0) fun t32 =>
 ck64 ((((t6.length : Nat) : Int)) + 1) fun x21 =>
 ckN x21 fun j15 =>
 ck (j15 ≤ t32.length) <|
 nm (t32.take j15) fun y8 =>
 nm (t18.take j13 ++ y8.take (min y8.length ((t18.length - j13))) ++ t18.drop (j13 + min y8.length ((t18.length - j13)))) fun t33 =>
 ck64 (i3 - 1) fun x22 =>
 L (t17, t33, x22, t28)
 else
 some (t18, t16)
def M_nat_Div (fu : Nat) (a0 : List Nat) (a1 : List Nat) : Option ((List Nat) × (List Nat) × Int) :=
 bd (M_nat_plain fu a0) fun t1 =>
 bd (M_nat_plain fu a1) fun t2 =>
 bd ((if ((t2.length : Nat) : Int) = 0 then
 some true
 else
 some false : Option Bool)) fun b1 =>
 if b1 = true then
 some ((([] : List Nat), [], 3))
 else
 bd ((bd (M_nat_Cmp fu t1 t2) fun x1 =>
 if x1 < 0 then
 some true
 else
 some false : Option Bool)) fun b2 =>
 if b2 = true then
 bd (M_nat_Norm fu t1) fun t3 =>
 some ((([] : List Nat), t3, 0))
 else
 if ((t2.length : Nat) : Int) = 1 then
 ckI ((0 : Int)) (t2.length) fun j1 =>
 nm (t2.getD j1 0) fun y1 =>
 bd (M_nat_short fu t1 y1) fun (t4, m1) =>
 bd (M_nat_plain fu [m1]) fun t5 =>
 some (t4, t5, 0)
 else
 ck64 ((((t2.length : Nat) : Int)) - 1) fun x2 =>
 ckI x2 (t2.length) fun j2 =>
 nm (t2.getD j2 0) fun y2 =>
 bd (M_math_bits_LeadingZeros64 fu y2) fun x3 =>
 bd (M_nat_Shl fu t2 x3) fun (t6, x4) =>
 bd (M_nat_Shl fu t1 x3) fun (t7, x5) =>
 ck64 ((((t1.length : Nat) : Int)) + 1) fun x6 =>
 ck64 (x6 - (((t7.length : Nat) : Int))) fun x7 =>
 ckN x7 fun j3 =>
 ck ((t7.length + j3) * 8 ≤ 140737488355328) <|
 nm (t7 ++ List.replicate j3 0) fun t8 =>
 ck64 ((((t8.length : Nat) : Int)) - (((t6.length : Nat) : Int))) fun x8 =>
 ckN x8 fun j4 =>
 ck (8 * j4 ≤ 281474976710656) <|
 nm (List.replicate j4 0) fun t9 =>
 ck64 ((((j4 : Nat) : Int)) - 1) fun x9 =>
 bd (loopN (B_nat_Div_0 fu t6) fu (t6, t8, x9, t9)) fun (t20, t19) =>
 bd (M_nat_plain_own fu t19) fun t34 =>
 bd (M_nat_Shr fu t20 x3) fun t35 =>
 some (t34, t35, 0)
def M_zint_Div (fu : Nat) (a0 : Zr) (a1 : Zr) : Option (Zr × Zr × Int) :=
 bd (M_nat_Div fu a0.2 a1.2) fun (t1, t2, x1) =>
 if x1 = 0 then
 bd ((if a0.1 = true then
 if 0 < ((t2.length : Nat) : Int) then
 bd (M_nat_Add fu t1 [(1 : Nat)]) fun t5 =>
 bd (M_nat_Sub fu a1.2 t2) fun (t6, x2) =>
 some (t5, t6)
 else
 some (t1, t2)
 else
 some (t1, t2) : Option ((List Nat) × (List Nat)))) fun (t3, t4) =>
 nm (!(a0.1 == a1.1)) fun c1 =>
 bd (M_zint_made fu c1 t3) fun t7 =>
 bd (M_zint_made fu false t4) fun t8 =>
 some (t7, t8, 0)
 else
 some (((false, []), (false, []), x1))
def M_prime_Rest (fu : Nat) (a0 : Zr) (a1 : Zr) : Option (Zr × Int) :=
 bd (M_zint_Sign fu a1) fun x1 =>
 if x1 ≤ 0 then
 some (((false, []), 1))
 else
 bd (M_zint_Div fu a0 a1) fun (t1, t2, x2) =>
 some (t2, 0)
def M_hensel_Red (fu : Nat) (a0 : List Zr) (a1 : Zr) : Option ((List Zr) × Int) :=
 bd (M_hensel_rests fu a0 a1 (fun zx0 zx1 => M_prime_Rest fu zx0 zx1)) fun (t1, x1) =>
 some (t1, x1)
def M_hensel_red (fu : Nat) (a0 : List Zr) (a1 : Zr) : Option (List Zr) :=
 bd (M_hensel_Red fu a0 a1) fun (t1, x1) =>
 some t1
def M_fp_Check (fu : Nat) (a0 : Int) : Option Int :=
 bd (M_prime_Is fu a0) fun c1 =>
 if (!c1) = true then
 some 1
 else
 some 0
def M_fp_Red (fu : Nat) (a0 : Int) (a1 : Int) : Option Int :=
 if a1 < 1 then
 some 0
 else
 ck (a1 ≠ 0) <|
 nm (Int.tmod a0 a1) fun x1 =>
 if x1 < 0 then
 ck64 (x1 + a1) fun x2 =>
 some x2
 else
 some x1
def B_fp_Inv_0 (fu : Nat)  : ((Int × Int × Int × Int) → Option (Int ⊕ Unit)) → (Int × Int × Int × Int) → Option (Int ⊕ Unit) := fun L (i9, i10, i11, i12) =>
 if i10 = 0 then
 some (.inr ())
 else
 if i10 = 1 then
 some (.inl i12)
 else
 ck (i10 ≠ 0) <|
 ck64 (Int.tdiv i9 i10) fun x3 =>
 ck64 (x3 * i10) fun x4 =>
 ck64 (i9 - x4) fun x5 =>
 ck64 (x3 * i12) fun x6 =>
 ck64 (i11 - x6) fun x7 =>
 L (i10, x5, i12, x7)
def M_fp_Inv (fu : Nat) (a0 : Int) (a1 : Int) : Option (Int × Int) :=
 bd (M_fp_Check fu a1) fun x1 =>
 if x1 = 0 then
 bd (M_fp_Red fu a0 a1) fun x2 =>
 bd (loopN (B_fp_Inv_0 fu ) fu (a1, x2, 0, 1)) fun s1 => match s1 with
| .inl i13 =>
 bd (M_fp_Red fu i13 a1) fun x8 =>
 some (x8, 0)
| .inr _ =>
 some (0, 3)
 else
 some (0, x1)
def B_fpoly_plain_1 (fu : Nat)  : ((List Int) → Option (List Int)) → (List Int) → Option (List Int) := fun L t9 =>
 if 0 < ((t9.length : Nat) : Int) then
 ck64 ((((t9.length : Nat) : Int)) - 1) fun x3 =>
 ckI x3 (t9.length) fun j3 =>
 nm (t9.getD j3 0) fun y2 =>
 if y2 = 0 then
 ck64 ((((t9.length : Nat) : Int)) - 1) fun x4 =>
 ckN x4 fun j4 =>
 ck (j4 ≤ t9.length) <|
 nm (t9.take j4) fun t11 =>
 L t11
 else
 some t9
 else
 some t9
def B_fpoly_plain_0 (fu : Nat) (a0 : List Int) (a1 : Int) : ((Int × (List Int)) → Option (List Int)) → (Int × (List Int)) → Option (List Int) := fun L (i3, t4) =>
 if i3 < ((a0.length : Nat) : Int) then
 ckI i3 (a0.length) fun j1 =>
 nm (a0.getD j1 0) fun y1 =>
 bd (M_fp_Red fu y1 a1) fun x1 =>
 ckI i3 (t4.length) fun j2 =>
 nm (t4.set j2 x1) fun t6 =>
 ck64 (i3 + 1) fun x2 =>
 L (x2, t6)
 else
 some t4
def M_fpoly_plain (fu : Nat) (a0 : List Int) (a1 : Int) : Option (List Int) :=
 ck (8 * a0.length ≤ 281474976710656) <|
 nm (List.replicate a0.length 0) fun t1 =>
 bd (loopN (B_fpoly_plain_0 fu a0 a1) fu (0, t1)) fun t5 =>
 bd (loopN (B_fpoly_plain_1 fu ) fu t5) fun t10 =>
 some t10
def B_fpoly_divided_1 (fu : Nat) (a1 : List Int) (a2 : Int) (i3 : Int) (x9 : Int) : ((Int × (List Int)) → Option (List Int)) → (Int × (List Int)) → Option (List Int) := fun L (i6, t14) =>
 bd ((if i6 < ((a1.length : Nat) : Int) then
 some true
 else
 some false : Option Bool)) fun b3 =>
 if b3 = true then
 ckI i6 (a1.length) fun j5 =>
 nm (a1.getD j5 0) fun y3 =>
 ck64 (i3 + i6) fun x10 =>
 ck64 (i3 + i6) fun x11 =>
 ckI x11 (t14.length) fun j6 =>
 nm (t14.getD j6 0) fun y4 =>
 ck64 (a2 - x9) fun x12 =>
 ck64 (x12 * y3) fun x13 =>
 ck64 (y4 + x13) fun x14 =>
 ck (a2 ≠ 0) <|
 nm (Int.tmod x14 a2) fun x15 =>
 ckI x10 (t14.length) fun j7 =>
 nm (t14.set j7 x15) fun t16 =>
 ck64 (i6 + 1) fun x16 =>
 L (x16, t16)
 else
 some t14
def B_fpoly_divided_0 (fu : Nat) (a1 : List Int) (a2 : Int) (x3 : Int) : (((List Int) × Int × (List Int)) → Option ((List Int) × (List Int))) → ((List Int) × Int × (List Int)) → Option ((List Int) × (List Int)) := fun L (t8, i3, t7) =>
 if 0 ≤ i3 then
 ck64 (i3 + (((a1.length : Nat) : Int))) fun x6 =>
 ck64 (x6 - 1) fun x7 =>
 ckI x7 (t8.length) fun j3 =>
 nm (t8.getD j3 0) fun y2 =>
 ck64 (y2 * x3) fun x8 =>
 ck (a2 ≠ 0) <|
 nm (Int.tmod x8 a2) fun x9 =>
 ckI i3 (t7.length) fun j4 =>
 nm (t7.set j4 x9) fun t11 =>
 bd (loopN (B_fpoly_divided_1 fu a1 a2 i3 x9) fu (0, t8)) fun t15 =>
 ck64 (i3 - 1) fun x17 =>
 L (t15, x17, t11)
 else
 some (t8, t7)
def M_fpoly_divided (fu : Nat) (a0 : List Int) (a1 : List Int) (a2 : Int) : Option ((List Int) × (List Int)) :=
 ck (((([] : List Int)).length + a0.length) * 8 ≤ 140737488355328) <|
 nm ((([] : List Int)) ++ a0) fun t1 =>
 ck64 ((((t1.length : Nat) : Int)) - (((a1.length : Nat) : Int))) fun x1 =>
 if x1 < 0 then
 some ((([] : List Int), t1))
 else
 ck64 ((((a1.length : Nat) : Int)) - 1) fun x2 =>
 ckI x2 (a1.length) fun j1 =>
 nm (a1.getD j1 0) fun y1 =>
 bd (M_fp_Inv fu y1 a2) fun (x3, x4) =>
 ck64 (x1 + 1) fun x5 =>
 ckN x5 fun j2 =>
 ck (8 * j2 ≤ 281474976710656) <|
 nm (List.replicate j2 0) fun t2 =>
 bd (loopN (B_fpoly_divided_0 fu a1 a2 x3) fu (t1, x1, t2)) fun (t10, t9) =>
 bd (M_fpoly_plain fu t9 a2) fun t17 =>
 bd (M_fpoly_plain fu t10 a2) fun t18 =>
 some (t17, t18)
def B_fpoly_product_1 (fu : Nat) (a1 : List Int) (a2 : Int) (i3 : Int) (y1 : Int) : ((Int × (List Int)) → Option (List Int)) → (Int × (List Int)) → Option (List Int) := fun L (i6, t8) =>
 bd ((if i6 < ((a1.length : Nat) : Int) then
 some true
 else
 some false : Option Bool)) fun b3 =>
 if b3 = true then
 ckI i6 (a1.length) fun j3 =>
 nm (a1.getD j3 0) fun y2 =>
 ck64 (i3 + i6) fun x2 =>
 ck64 (i3 + i6) fun x3 =>
 ckI x3 (t8.length) fun j4 =>
 nm (t8.getD j4 0) fun y3 =>
 ck64 (y1 * y2) fun x4 =>
 ck64 (y3 + x4) fun x5 =>
 ck (a2 ≠ 0) <|
 nm (Int.tmod x5 a2) fun x6 =>
 ckI x2 (t8.length) fun j5 =>
 nm (t8.set j5 x6) fun t10 =>
 ck64 (i6 + 1) fun x7 =>
 L (x7, t10)
 else
 some t8
def B_fpoly_product_0 (fu : Nat) (a0 : List Int) (a1 : List Int) (a2 : Int) : ((Int × (List Int)) → Option (List Int)) → (Int × (List Int)) → Option (List Int) := fun L (i3, t4) =>
 bd ((if i3 < ((a0.length : Nat) : Int) then
 some true
 else
 some false : Option Bool)) fun b2 =>
 if b2 = true then
 ckI i3 (a0.length) fun j2 =>
 nm (a0.getD j2 0) fun y1 =>
 bd (loopN (B_fpoly_product_1 fu a1 a2 i3 y1) fu (0, t4)) fun t9 =>
 ck64 (i3 + 1) fun x8 =>
 L (x8, t9)
 else
 some t4
def M_fpoly_product (fu : Nat) (a0 : List Int) (a1 : List Int) (a2 : Int) : Option (List Int) :=
 ck64 ((((a0.length : Nat) : Int)) + (((a1.length : Nat) : Int))) fun x1 =>
 ckN x1 fun j1 =>
 ck (8 * j1 ≤ 281474976710656) <|
 nm (List.replicate j1 0) fun t1 =>
 bd (loopN (B_fpoly_product_0 fu a0 a1 a2) fu (0, t1)) fun t5 =>
 bd (M_fpoly_plain fu t5 a2) fun t11 =>
 some t11
def B_fpoly_sum_0 (fu : Nat) (a1 : List Int) (a2 : Int) : ((Int × (List Int)) → Option (List Int)) → (Int × (List Int)) → Option (List Int) := fun L (i3, t5) =>
 bd ((if i3 < ((a1.length : Nat) : Int) then
 some true
 else
 some false : Option Bool)) fun b2 =>
 if b2 = true then
 ckI i3 (a1.length) fun j2 =>
 nm (a1.getD j2 0) fun y1 =>
 ckI i3 (t5.length) fun j3 =>
 nm (t5.getD j3 0) fun y2 =>
 ck64 (a2 * y1) fun x2 =>
 ck64 (y2 + x2) fun x3 =>
 ckI i3 (t5.length) fun j4 =>
 nm (t5.set j4 x3) fun t7 =>
 ck64 (i3 + 1) fun x4 =>
 L (x4, t7)
 else
 some t5
def M_fpoly_sum (fu : Nat) (a0 : List Int) (a1 : List Int) (a2 : Int) (a3 : Int) : Option (List Int) :=
 nm (max (((a0.length : Nat) : Int)) (((a1.length : Nat) : Int))) fun x1 =>
 ckN x1 fun j1 =>
 ck (8 * j1 ≤ 281474976710656) <|
 nm (List.replicate j1 0) fun t1 =>
 nm (t1.take 0 ++ a0.take (min a0.length j1) ++ t1.drop (0 + min a0.length j1)) fun t2 =>
 bd (loopN (B_fpoly_sum_0 fu a1 a2) fu (0, t2)) fun t6 =>
 bd (M_fpoly_plain fu t6 a3) fun t8 =>
 some t8
def B_fpoly_next_0 (fu : Nat) (a1 : List (List Int)) (a2 : Int) : (((List Int) × Int × (List (List Int))) → Option (List (List Int))) → ((List Int) × Int × (List (List Int))) → Option (List (List Int)) := fun L (t8, i3, t7) =>
 if i3 < 3 then
 ckI i3 (3) fun j1 =>
 nm (t7.getD j1 ([])) fun y2 =>
 ckI i3 (3) fun j2 =>
 bd (M_fpoly_product fu t8 (a1.getD j2 ([])) a2) fun t10 =>
 ck64 (a2 - 1) fun x1 =>
 bd (M_fpoly_sum fu y2 t10 x1 a2) fun t11 =>
 ckI i3 (3) fun j3 =>
 nm ((t7).set j3 t11) fun t12 =>
 ck64 (i3 + 1) fun x2 =>
 L (t8, x2, t12)
 else
 some t7
def M_fpoly_next (fu : Nat) (a0 : List (List Int)) (a1 : List (List Int)) (a2 : Int) : Option (List (List Int)) :=
 nm (a0.getD 0 ([])) fun y1 =>
 bd (M_fpoly_divided fu y1 (a1.getD 0 ([])) a2) fun (t1, t2) =>
 bd (loopN (B_fpoly_next_0 fu a1 a2) fu (t1, 0, a0)) fun t9 =>
 some t9
def M_fpoly_scaled (fu : Nat) (a0 : List Int) (a1 : Int) (a2 : Int) : Option (List Int) :=
 bd (M_fp_Inv fu a1 a2) fun (x1, x2) =>
 bd (M_fpoly_product fu a0 [x1] a2) fun t1 =>
 some t1
def B_fpoly_Bezout_1 (fu : Nat) (a2 : Int) (y4 : Int) : ((Int × (List (List Int))) → Option (List (List Int))) → (Int × (List (List Int))) → Option (List (List Int)) := fun L (i3, t14) =>
 if i3 < 3 then
 ckI i3 (3) fun j2 =>
 nm (t14.getD j2 ([])) fun y5 =>
 bd (M_fpoly_scaled fu y5 y4 a2) fun t16 =>
 ckI i3 (3) fun j3 =>
 nm ((t14).set j3 t16) fun t17 =>
 ck64 (i3 + 1) fun x3 =>
 L (x3, t17)
 else
 some t14
def B_fpoly_Bezout_0 (fu : Nat) (a2 : Int) : (((List (List Int)) × (List (List Int))) → Option (List (List Int))) → ((List (List Int)) × (List (List Int))) → Option (List (List Int)) := fun L (t7, t8) =>
 nm (t7.getD 0 ([])) fun y1 =>
 if 0 < ((y1.length : Nat) : Int) then
 bd (M_fpoly_next fu t8 t7 a2) fun t11 =>
 L (t11, t7)
 else
 some t8
def M_fpoly_Bezout (fu : Nat) (a0 : List Int) (a1 : List Int) (a2 : Int) : Option ((List Int) × (List Int) × (List Int) × Int) :=
 bd (M_fp_Check fu a2) fun x1 =>
 if x1 = 0 then
 bd (M_fpoly_plain fu a0 a2) fun t1 =>
 bd (M_fpoly_plain fu a1 a2) fun t2 =>
 bd (loopN (B_fpoly_Bezout_0 fu a2) fu ([t2, [], [1]], [t1, [1], []])) fun t10 =>
 nm (t10.getD 0 ([])) fun y2 =>
 bd ((if 0 < ((y2.length : Nat) : Int) then
 some true
 else
 some false : Option Bool)) fun b3 =>
 if b3 = true then
 nm (t10.getD 0 ([])) fun y3 =>
 ck64 ((((y2.length : Nat) : Int)) - 1) fun x2 =>
 ckI x2 (y3.length) fun j1 =>
 nm (y3.getD j1 0) fun y4 =>
 bd (loopN (B_fpoly_Bezout_1 fu a2 y4) fu (0, t10)) fun t15 =>
 nm (t15.getD 0 ([])) fun y6 =>
 nm (t15.getD 1 ([])) fun y7 =>
 nm (t15.getD 2 ([])) fun y8 =>
 some (y6, y7, y8, 0)
 else
 nm (t10.getD 0 ([])) fun y9 =>
 nm (t10.getD 1 ([])) fun y10 =>
 nm (t10.getD 2 ([])) fun y11 =>
 some (y9, y10, y11, 0)
 else
 some ([], [], [], x1)
def M_fpoly_Gcd (fu : Nat) (a0 : List Int) (a1 : List Int) (a2 : Int) : Option ((List Int) × Int) :=
 bd (M_fpoly_Bezout fu a0 a1 a2) fun (t1, t2, t3, x1) =>
 some (t1, x1)
def M_fpoly_Mul (fu : Nat) (a0 : List Int) (a1 : List Int) (a2 : Int) : Option ((List Int) × Int) :=
 bd (M_fp_Check fu a2) fun x1 =>
 if x1 = 0 then
 bd (M_fpoly_plain fu a0 a2) fun t1 =>
 bd (M_fpoly_plain fu a1 a2) fun t2 =>
 bd (M_fpoly_product fu t1 t2 a2) fun t3 =>
 some (t3, 0)
 else
 some ((([] : List Int), x1))
def M_fpoly_Sub (fu : Nat) (a0 : List Int) (a1 : List Int) (a2 : Int) : Option ((List Int) × Int) :=
 bd (M_fp_Check fu a2) fun x1 =>
 if x1 = 0 then
 bd (M_fpoly_plain fu a0 a2) fun t1 =>
 bd (M_fpoly_plain fu a1 a2) fun t2 =>
 ck64 (a2 - 1) fun x2 =>
 bd (M_fpoly_sum fu t1 t2 x2 a2) fun t3 =>
 some (t3, 0)
 else
 some ((([] : List Int), x1))
def M_hensel_equal (fu : Nat) (a0 : List Int) (a1 : List Int) (a2 : Int) : Option Bool :=
 bd (M_fpoly_Sub fu a0 a1 a2) fun (t1, x1) =>
 if ((t1.length : Nat) : Int) = 0 then
 some true
 else
 some false
def B_hensel_plain_0 (fu : Nat) (a0 : List Int) (a1 : Int) : (Int → Option (Unit ⊕ Unit)) → Int → Option (Unit ⊕ Unit) := fun L i3 =>
 if i3 < ((a0.length : Nat) : Int) then
 ckI i3 (a0.length) fun j1 =>
 nm (a0.getD j1 0) fun y1 =>
 if y1 < 0 then
 some (.inr ())
 else
 if a1 ≤ y1 then
 some (.inr ())
 else
 ck64 (i3 + 1) fun x1 =>
 L x1
 else
 some (.inl ())
def M_hensel_plain (fu : Nat) (a0 : List Int) (a1 : Int) : Option Bool :=
 bd (loopN (B_hensel_plain_0 fu a0 a1) fu 0) fun s1 => match s1 with
| .inl _ =>
 if 1 < ((a0.length : Nat) : Int) then
 ck64 ((((a0.length : Nat) : Int)) - 1) fun x2 =>
 ckI x2 (a0.length) fun j2 =>
 nm (a0.getD j2 0) fun y2 =>
 if y2 = 1 then
 some true
 else
 some false
 else
 some false
| .inr _ =>
 some false
def B_hensel_product_0 (fu : Nat) (a0 : List (List Int)) (a1 : Int) : (((List Int) × Int) → Option (List Int)) → ((List Int) × Int) → Option (List Int) := fun L (t3, i3) =>
 if i3 < ((a0.length : Nat) : Int) then
 ckI i3 (a0.length) fun j1 =>
 nm (a0.getD j1 ([])) fun y1 =>
 bd (M_fpoly_Mul fu t3 y1 a1) fun (t5, x1) =>
 ck64 (i3 + 1) fun x2 =>
 L (t5, x2)
 else
 some t3
def M_hensel_product (fu : Nat) (a0 : List (List Int)) (a1 : Int) : Option (List Int) :=
 bd (loopN (B_hensel_product_0 fu a0 a1) fu ([1], 0)) fun t4 =>
 some t4
def M_zint_Small (fu : Nat) (a0 : Zr) : Option (Int × Bool) :=
 bd (M_zint_Norm fu a0) fun t1 =>
 bd ((if ((t1.2.length : Nat) : Int) = 0 then
 some true
 else
 some false : Option Bool)) fun b2 =>
 if b2 = true then
 some (0, true)
 else
 bd ((if 1 < ((t1.2.length : Nat) : Int) then
 some true
 else
 some false : Option Bool)) fun b3 =>
 if b3 = true then
 some (0, false)
 else
 bd ((if t1.1 = true then
 ckI ((0 : Int)) (t1.2.length) fun j1 =>
 nm ((t1.2).getD j1 0) fun y1 =>
 if ((y1 : Nat) : Int) ≤ (9223372036854775808 : Int) then
 some true
 else
 some false
 else
 some false : Option Bool)) fun b4 =>
 if b4 = true then
 ckI ((0 : Int)) (t1.2.length) fun j2 =>
 nm ((t1.2).getD j2 0) fun y2 =>
 nm ((18446744073709551616 - y2) % 18446744073709551616) fun m1 =>
 nm (sgn m1) fun x1 =>
 some (x1, true)
 else
 if t1.1 = true then
 some (0, false)
 else
 ckI ((0 : Int)) (t1.2.length) fun j3 =>
 nm ((t1.2).getD j3 0) fun y3 =>
 if (9223372036854775807 : Int) < ((y3 : Nat) : Int) then
 some (0, false)
 else
 ckI ((0 : Int)) (t1.2.length) fun j4 =>
 nm ((t1.2).getD j4 0) fun y4 =>
 nm (sgn y4) fun x2 =>
 some (x2, true)
def M_prime_Mod (fu : Nat) (a0 : Zr) (a1 : Int) : Option (Int × Int) :=
 bd (M_zint_Of fu a1) fun t1 =>
 bd (M_prime_Rest fu a0 t1) fun (t2, x1) =>
 if x1 = 0 then
 bd (M_zint_Small fu t2) fun (x2, c1) =>
 some (x2, 0)
 else
 some (0, x1)
def M_zpoly_Mod_1 (fu : Nat) (a0 : Int) (a1 : Zr) (a2 : Int) : Option Int :=
 bd (M_prime_Mod fu a1 a2) fun (x1, x2) =>
 some x1
def B_zpoly_each_api_Int_int_0 (fu : Nat) (a0 : List Zr) (a1 : Int → Zr → Option Int) : ((Int × (List Int)) → Option (List Int)) → (Int × (List Int)) → Option (List Int) := fun L (i3, t4) =>
 bd ((if i3 < ((a0.length : Nat) : Int) then
 some true
 else
 some false : Option Bool)) fun b2 =>
 if b2 = true then
 ckI i3 (a0.length) fun j1 =>
 nm (a0.getD j1 ((false, []))) fun y1 =>
 bd (a1 i3 y1) fun x1 =>
 ckI i3 (t4.length) fun j2 =>
 nm (t4.set j2 x1) fun t6 =>
 ck64 (i3 + 1) fun x2 =>
 L (x2, t6)
 else
 some t4
def M_zpoly_each_api_Int_int (fu : Nat) (a0 : List Zr) (a1 : Int → Zr → Option Int) : Option (List Int) :=
 ck (8 * a0.length ≤ 281474976710656) <|
 nm (List.replicate a0.length 0) fun t1 =>
 bd (loopN (B_zpoly_each_api_Int_int_0 fu a0 a1) fu (0, t1)) fun t5 =>
 some t5
def B_zpoly_Mod_0 (fu : Nat)  : ((List Int) → Option (List Int)) → (List Int) → Option (List Int) := fun L t3 =>
 if 0 < ((t3.length : Nat) : Int) then
 ck64 ((((t3.length : Nat) : Int)) - 1) fun x1 =>
 ckI x1 (t3.length) fun j1 =>
 nm (t3.getD j1 0) fun y1 =>
 if y1 = 0 then
 ck64 ((((t3.length : Nat) : Int)) - 1) fun x2 =>
 ckN x2 fun j2 =>
 ck (j2 ≤ t3.length) <|
 nm (t3.take j2) fun t5 =>
 L t5
 else
 some t3
 else
 some t3
def M_zpoly_Mod (fu : Nat) (a0 : List Zr) (a1 : Int) : Option ((List Int) × Int) :=
 if a1 < 1 then
 some ((([] : List Int), 1))
 else
 bd (M_zpoly_each_api_Int_int fu a0 (fun zx0 zx1 => M_zpoly_Mod_1 fu zx0 zx1 a1)) fun t1 =>
 bd (loopN (B_zpoly_Mod_0 fu ) fu t1) fun t4 =>
 some (t4, 0)
def B_hensel_right_1 (fu : Nat) (a2 : Int) (y1 : List Int) (y2 : List (List Int)) : (((List Int) × Int) → Option ((List Int) ⊕ Unit)) → ((List Int) × Int) → Option ((List Int) ⊕ Unit) := fun L (t9, i6) =>
 if i6 < ((y2.length : Nat) : Int) then
 ckI i6 (y2.length) fun j3 =>
 nm (y2.getD j3 ([])) fun y3 =>
 bd (M_fpoly_Gcd fu y1 y3 a2) fun (t11, x2) =>
 if ((t11.length : Nat) : Int) = 1 then
 ck64 (i6 + 1) fun x3 =>
 L (t9, x3)
 else
 some (.inr ())
 else
 some (.inl t9)
def B_hensel_right_0 (fu : Nat) (a0 : List Zr) (a1 : List (List Int)) (a2 : Int) : (((List Int) × Int) → Option ((List Int) ⊕ Unit)) → ((List Int) × Int) → Option ((List Int) ⊕ Unit) := fun L (t4, i3) =>
 bd ((if i3 < ((a1.length : Nat) : Int) then
 some (t4, true)
 else
 some (t4, false) : Option ((List Int) × Bool))) fun (t6, b1) =>
 if b1 = true then
 ckI i3 (a1.length) fun j1 =>
 nm (a1.getD j1 ([])) fun y1 =>
 if ((a0.length : Nat) : Int) < ((y1.length : Nat) : Int) then
 some (.inr ())
 else
 bd (M_hensel_plain fu y1 a2) fun c1 =>
 if (!c1) = true then
 some (.inr ())
 else
 ckN i3 fun j2 =>
 ck (j2 ≤ a1.length) <|
 nm (a1.take j2) fun y2 =>
 bd (loopN (B_hensel_right_1 fu a2 y1 y2) fu (t6, 0)) fun s3 => match s3 with
| .inl t10 =>
 ck64 (i3 + 1) fun x4 =>
 L (t10, x4)
| .inr _ =>
 some (.inr ())
 else
 some (.inl t6)
def M_hensel_right (fu : Nat) (a0 : List Zr) (a1 : List (List Int)) (a2 : Int) : Option Bool :=
 bd (M_zpoly_Mod fu a0 a2) fun (t1, x1) =>
 if ((a0.length : Nat) : Int) = 0 then
 some false
 else
 if ((t1.length : Nat) : Int) = ((a0.length : Nat) : Int) then
 if ((a0.length : Nat) : Int) < ((a1.length : Nat) : Int) then
 some false
 else
 bd (loopN (B_hensel_right_0 fu a0 a1 a2) fu (t1, 0)) fun s1 => match s1 with
| .inl t5 =>
 bd (M_hensel_product fu a1 a2) fun t12 =>
 ck64 ((((t5.length : Nat) : Int)) - 1) fun x5 =>
 ckN x5 fun j4 =>
 ck (j4 ≤ t5.length) <|
 nm (t5.drop j4) fun y4 =>
 bd (M_fpoly_Mul fu t12 y4 a2) fun (t13, x6) =>
 bd (M_hensel_equal fu t13 t5 a2) fun c2 =>
 some c2
| .inr _ =>
 some false
 else
 some false
def M_zint_Add (fu : Nat) (a0 : Zr) (a1 : Zr) : Option Zr :=
 nm (a0.1 == a1.1) fun c1 =>
 if c1 = true then
 bd (M_nat_Add fu a0.2 a1.2) fun t1 =>
 bd (M_zint_made fu a0.1 t1) fun t2 =>
 some t2
 else
 bd ((bd (M_nat_Cmp fu a0.2 a1.2) fun x1 =>
 if x1 < 0 then
 some (a0, a1)
 else
 some (a1, a0) : Option (Zr × Zr))) fun (t3, t4) =>
 bd (M_nat_Sub fu t4.2 t3.2) fun (t5, x2) =>
 bd (M_zint_made fu t4.1 t5) fun t6 =>
 some t6
def M_zint_Neg (fu : Nat) (a0 : Zr) : Option Zr :=
 bd (M_zint_made fu (!a0.1) a0.2) fun t1 =>
 some t1
def M_zint_Sub (fu : Nat) (a0 : Zr) (a1 : Zr) : Option Zr :=
 bd (M_zint_Neg fu a1) fun t1 =>
 bd (M_zint_Add fu a0 t1) fun t2 =>
 some t2
def B_hensel_divided_1 (fu : Nat) (a1 : List Zr) (i3 : Int) (t12 : List Zr) : ((Int × (List Zr)) → Option (List Zr)) → (Int × (List Zr)) → Option (List Zr) := fun L (i6, t15) =>
 bd ((if i6 < ((a1.length : Nat) : Int) then
 some true
 else
 some false : Option Bool)) fun b3 =>
 if b3 = true then
 ckI i6 (a1.length) fun j4 =>
 nm (a1.getD j4 ((false, []))) fun y2 =>
 ck64 (i3 + i6) fun x8 =>
 ck64 (i3 + i6) fun x9 =>
 ckI x9 (t15.length) fun j5 =>
 nm (t15.getD j5 ((false, []))) fun y3 =>
 ckI i3 (t12.length) fun j6 =>
 nm (t12.getD j6 ((false, []))) fun y4 =>
 bd (M_zint_Mul fu y4 y2) fun t17 =>
 bd (M_zint_Sub fu y3 t17) fun t18 =>
 ckI x8 (t15.length) fun j7 =>
 nm (t15.set j7 t18) fun t19 =>
 ck64 (i6 + 1) fun x10 =>
 L (x10, t19)
 else
 some t15
def B_hensel_divided_0 (fu : Nat) (a1 : List Zr) (a2 : Zr) : (((List Zr) × Int × (List Zr)) → Option ((List Zr) × (List Zr))) → ((List Zr) × Int × (List Zr)) → Option ((List Zr) × (List Zr)) := fun L (t8, i3, t7) =>
 if 0 ≤ i3 then
 ck64 (i3 + (((a1.length : Nat) : Int))) fun x5 =>
 ck64 (x5 - 1) fun x6 =>
 ckI x6 (t8.length) fun j2 =>
 nm (t8.getD j2 ((false, []))) fun y1 =>
 bd (M_prime_Rest fu y1 a2) fun (t11, x7) =>
 ckI i3 (t7.length) fun j3 =>
 nm (t7.set j3 t11) fun t12 =>
 bd (loopN (B_hensel_divided_1 fu a1 i3 t12) fu (0, t8)) fun t16 =>
 ck64 (i3 - 1) fun x11 =>
 L (t16, x11, t12)
 else
 some (t8, t7)
def M_hensel_divided (fu : Nat) (a0 : List Zr) (a1 : List Zr) (a2 : Zr) : Option ((List Zr) × (List Zr)) :=
 bd (M_hensel_red fu a0 a2) fun t1 =>
 ck64 ((((t1.length : Nat) : Int)) - (((a1.length : Nat) : Int))) fun x1 =>
 ck64 (x1 + 1) fun x2 =>
 nm (max x2 0) fun x3 =>
 ckN x3 fun j1 =>
 ck (32 * j1 ≤ 281474976710656) <|
 nm (List.replicate j1 ((false, []))) fun t2 =>
 ck64 ((((j1 : Nat) : Int)) - 1) fun x4 =>
 bd (loopN (B_hensel_divided_0 fu a1 a2) fu (t1, x4, t2)) fun (t10, t9) =>
 bd (M_hensel_red fu t9 a2) fun t20 =>
 bd (M_hensel_red fu t10 a2) fun t21 =>
 some (t20, t21)
def M_zpoly_Add_1 (fu : Nat) (a0 : Int) (a1 : Zr) (a2 : List Zr) : Option Zr :=
 if a0 < ((a2.length : Nat) : Int) then
 ckI a0 (a2.length) fun j1 =>
 nm (a2.getD j1 ((false, []))) fun y1 =>
 bd (M_zint_Add fu a1 y1) fun t1 =>
 some t1
 else
 some a1
def M_zpoly_Add (fu : Nat) (a0 : List Zr) (a1 : List Zr) : Option (List Zr) :=
 if ((a0.length : Nat) : Int) < ((a1.length : Nat) : Int) then
 bd (M_zpoly_each_api_Int_api_Int fu a1 (fun zx0 zx1 => M_zpoly_Add_1 fu zx0 zx1 a0)) fun t1 =>
 bd (M_zpoly_Norm fu t1) fun t2 =>
 some t2
 else
 bd (M_zpoly_each_api_Int_api_Int fu a0 (fun zx0 zx1 => M_zpoly_Add_1 fu zx0 zx1 a1)) fun t3 =>
 bd (M_zpoly_Norm fu t3) fun t4 =>
 some t4
def B_zpoly_Mul_1 (fu : Nat) (a1 : List Zr) (i3 : Int) (y1 : Zr) : ((Int × (List Zr)) → Option (List Zr)) → (Int × (List Zr)) → Option (List Zr) := fun L (i6, t8) =>
 bd ((if i6 < ((a1.length : Nat) : Int) then
 some true
 else
 some false : Option Bool)) fun b4 =>
 if b4 = true then
 ckI i6 (a1.length) fun j3 =>
 nm (a1.getD j3 ((false, []))) fun y2 =>
 ck64 (i3 + i6) fun x2 =>
 ck64 (i3 + i6) fun x3 =>
 ckI x3 (t8.length) fun j4 =>
 nm (t8.getD j4 ((false, []))) fun y3 =>
 bd (M_zint_Mul fu y1 y2) fun t10 =>
 bd (M_zint_Add fu y3 t10) fun t11 =>
 ckI x2 (t8.length) fun j5 =>
 nm (t8.set j5 t11) fun t12 =>
 ck64 (i6 + 1) fun x4 =>
 L (x4, t12)
 else
 some t8
def B_zpoly_Mul_0 (fu : Nat) (a0 : List Zr) (a1 : List Zr) : ((Int × (List Zr)) → Option (List Zr)) → (Int × (List Zr)) → Option (List Zr) := fun L (i3, t4) =>
 bd ((if i3 < ((a0.length : Nat) : Int) then
 some true
 else
 some false : Option Bool)) fun b2 =>
 if b2 = true then
 ckI i3 (a0.length) fun j2 =>
 nm (a0.getD j2 ((false, []))) fun y1 =>
 bd (loopN (B_zpoly_Mul_1 fu a1 i3 y1) fu (0, t4)) fun t9 =>
 ck64 (i3 + 1) fun x5 =>
 L (x5, t9)
 else
 some t4
def M_zpoly_Mul (fu : Nat) (a0 : List Zr) (a1 : List Zr) : Option (List Zr) :=
 ck64 ((((a0.length : Nat) : Int)) + (((a1.length : Nat) : Int))) fun x1 =>
 ckN x1 fun j1 =>
 ck (32 * j1 ≤ 281474976710656) <|
 nm (List.replicate j1 ((false, []))) fun t1 =>
 bd (loopN (B_zpoly_Mul_0 fu a0 a1) fu (0, t1)) fun t5 =>
 bd (M_zpoly_Norm fu t5) fun t13 =>
 some t13
def M_zpoly_Lift_1 (fu : Nat) (a0 : Int) (a1 : Int) : Option Zr :=
 bd (M_zint_Of fu a1) fun t1 =>
 some t1
def B_zpoly_each_int_api_Int_0 (fu : Nat) (a0 : List Int) (a1 : Int → Int → Option Zr) : ((Int × (List Zr)) → Option (List Zr)) → (Int × (List Zr)) → Option (List Zr) := fun L (i3, t4) =>
 if i3 < ((a0.length : Nat) : Int) then
 ckI i3 (a0.length) fun j1 =>
 nm (a0.getD j1 0) fun y1 =>
 bd (a1 i3 y1) fun t6 =>
 ckI i3 (t4.length) fun j2 =>
 nm (t4.set j2 t6) fun t7 =>
 ck64 (i3 + 1) fun x1 =>
 L (x1, t7)
 else
 some t4
def M_zpoly_each_int_api_Int (fu : Nat) (a0 : List Int) (a1 : Int → Int → Option Zr) : Option (List Zr) :=
 ck (32 * a0.length ≤ 281474976710656) <|
 nm (List.replicate a0.length ((false, []))) fun t1 =>
 bd (loopN (B_zpoly_each_int_api_Int_0 fu a0 a1) fu (0, t1)) fun t5 =>
 some t5
def M_zpoly_Lift (fu : Nat) (a0 : List Int) : Option (List Zr) :=
 bd (M_zpoly_each_int_api_Int fu a0 (fun zx0 zx1 => M_zpoly_Lift_1 fu zx0 zx1)) fun t1 =>
 bd (M_zpoly_Norm fu t1) fun t2 =>
 some t2
def M_zpoly_Of (fu : Nat) (a0 : List Int) : Option (List Zr) :=
 bd (M_zpoly_Lift fu a0) fun t1 =>
 some t1
def M_zpoly_Scale_1 (fu : Nat) (a0 : Int) (a1 : Zr) (a2 : Zr) : Option Zr :=
 bd (M_zint_Mul fu a1 a2) fun t1 =>
 some t1
def M_zpoly_Scale (fu : Nat) (a0 : List Zr) (a1 : Zr) : Option (List Zr) :=
 bd (M_zpoly_each_api_Int_api_Int fu a0 (fun zx0 zx1 => M_zpoly_Scale_1 fu zx0 zx1 a1)) fun t1 =>
 bd (M_zpoly_Norm fu t1) fun t2 =>
 some t2
def M_zpoly_Sub (fu : Nat) (a0 : List Zr) (a1 : List Zr) : Option (List Zr) :=
 bd (M_zint_Of fu ((-1))) fun t1 =>
 bd (M_zpoly_Scale fu a1 t1) fun t2 =>
 bd (M_zpoly_Add fu a0 t2) fun t3 =>
 some t3
def M_hensel_pair_up (fu : Nat) (a0 : List (List Zr)) (a1 : List Zr) (a2 : Zr) : Option (List (List Zr)) :=
 bd (M_zpoly_Mul fu (a0.getD 0 ([])) (a0.getD 1 ([]))) fun t1 =>
 bd (M_zpoly_Sub fu a1 t1) fun t2 =>
 bd (M_hensel_red fu t2 a2) fun t3 =>
 bd (M_zpoly_Mul fu (a0.getD 2 ([])) t3) fun t4 =>
 bd (M_hensel_divided fu t4 (a0.getD 1 ([])) a2) fun (t5, t6) =>
 bd (M_zpoly_Mul fu (a0.getD 3 ([])) t3) fun t7 =>
 bd (M_zpoly_Mul fu t5 (a0.getD 0 ([]))) fun t8 =>
 bd (M_zpoly_Add fu t7 t8) fun t9 =>
 bd (M_zpoly_Add fu (a0.getD 0 ([])) t9) fun t10 =>
 bd (M_hensel_red fu t10 a2) fun t11 =>
 bd (M_zpoly_Add fu (a0.getD 1 ([])) t6) fun t12 =>
 bd (M_hensel_red fu t12 a2) fun t13 =>
 bd (M_zpoly_Mul fu (a0.getD 2 ([])) t11) fun t14 =>
 bd (M_zpoly_Mul fu (a0.getD 3 ([])) t13) fun t15 =>
 bd (M_zpoly_Add fu t14 t15) fun t16 =>
 bd (M_zpoly_Of fu [1]) fun t17 =>
 bd (M_zpoly_Sub fu t16 t17) fun t18 =>
 bd (M_hensel_red fu t18 a2) fun t19 =>
 bd (M_zpoly_Mul fu (a0.getD 2 ([])) t19) fun t20 =>
 bd (M_hensel_divided fu t20 t13 a2) fun (t21, t22) =>
 bd (M_zpoly_Sub fu (a0.getD 2 ([])) t22) fun t23 =>
 bd (M_hensel_red fu t23 a2) fun t24 =>
 bd (M_zpoly_Mul fu (a0.getD 3 ([])) t19) fun t25 =>
 bd (M_zpoly_Mul fu t21 t11) fun t26 =>
 bd (M_zpoly_Add fu t25 t26) fun t27 =>
 bd (M_zpoly_Sub fu (a0.getD 3 ([])) t27) fun t28 =>
 bd (M_hensel_red fu t28 a2) fun t29 =>
 some [t11, t13, t24, t29]
def M_zint_line_less (fu : Nat) (a0 : Zr × (Zr × Zr)) (a1 : Zr) (a2 : Zr × (Zr × Zr)) : Option (Zr × (Zr × Zr)) :=
 bd (M_zint_Mul fu a1 a2.1) fun t1 =>
 bd (M_zint_Sub fu a0.1 t1) fun t2 =>
 bd (M_zint_Mul fu a1 a2.2.1) fun t3 =>
 bd (M_zint_Sub fu a0.2.1 t3) fun t4 =>
 bd (M_zint_Mul fu a1 a2.2.2) fun t5 =>
 bd (M_zint_Sub fu a0.2.2 t5) fun t6 =>
 some (t2, t4, t6)
def B_zint_Bezout_0 (fu : Nat)  : (((Zr × (Zr × Zr)) × (Zr × (Zr × Zr))) → Option (Zr × (Zr × Zr))) → ((Zr × (Zr × Zr)) × (Zr × (Zr × Zr))) → Option (Zr × (Zr × Zr)) := fun L (t11, t12) =>
 bd (M_zint_Sign fu t12.1) fun x1 =>
 if x1 = 0 then
 some t11
 else
 bd (M_zint_Div fu t11.1 t12.1) fun (t15, t16, x2) =>
 bd (M_zint_line_less fu t11 t15 t12) fun t17 =>
 L (t12, t17)
def M_zint_Bezout (fu : Nat) (a0 : Zr) (a1 : Zr) : Option (Zr × Zr × Zr) :=
 bd (M_zint_made fu false a0.2) fun t1 =>
 bd (M_zint_Of fu 1) fun t2 =>
 bd (M_zint_Of fu 0) fun t3 =>
 bd (M_zint_made fu false a1.2) fun t4 =>
 bd (M_zint_Of fu 0) fun t5 =>
 bd (M_zint_Of fu 1) fun t6 =>
 bd (loopN (B_zint_Bezout_0 fu ) fu (((t1, t2, t3), (t4, t5, t6)))) fun t13 =>
 bd ((bd (M_zint_Sign fu a0) fun x3 =>
 if x3 < 0 then
 bd (M_zint_Neg fu t13.2.1) fun t19 =>
 nm ((t13.1, t19, t13.2.2)) fun t20 =>
 some t20
 else
 some t13 : Option (Zr × (Zr × Zr)))) fun t18 =>
 bd ((bd (M_zint_Sign fu a1) fun x4 =>
 if x4 < 0 then
 bd (M_zint_Neg fu t18.2.2) fun t22 =>
 nm ((t18.1, t18.2.1, t22)) fun t23 =>
 some t23
 else
 some t18 : Option (Zr × (Zr × Zr)))) fun t21 =>
 some (t21.1, t21.2.1, t21.2.2)
def M_hensel_one (fu : Nat) (a0 : List Zr) (a1 : Zr) : Option (List Zr) :=
 ck64 ((((a0.length : Nat) : Int)) - 1) fun x1 =>
 ckI x1 (a0.length) fun j1 =>
 nm (a0.getD j1 ((false, []))) fun y1 =>
 bd (M_zint_Bezout fu y1 a1) fun (t1, t2, t3) =>
 bd (M_zpoly_Scale fu a0 t2) fun t4 =>
 bd (M_hensel_red fu t4 a1) fun t5 =>
 some t5
def B_hensel_tree_0 (fu : Nat) (a0 : List Zr) (a2 : Int) (a3 : Int) : ((Int × (List (List Zr))) → Option (List (List Zr))) → (Int × (List (List Zr))) → Option (List (List Zr)) := fun L (i3, t15) =>
 if i3 < a3 then
 ck64 (2 * i3) fun x6 =>
 nm (min x6 a3) fun x7 =>
 bd (M_hensel_Power fu a2 x7) fun (t17, x8) =>
 bd (M_hensel_pair_up fu t15 a0 t17) fun t18 =>
 L (x7, t18)
 else
 some t15
def M_hensel_tree : Nat → (List Zr) → (List (List Int)) → Int → Int → Zr → Option (List (List Zr))
  | 0, _, _, _, _, _ => none
  | fu + 1, a0, a1, a2, a3, a4 =>
    if ((a1.length : Nat) : Int) = 1 then
    bd (M_hensel_one fu a0 a4) fun t1 =>
    some [t1]
    else
    ck64 (Int.tdiv (((a1.length : Nat) : Int)) 2) fun x1 =>
    ck64 ((((a0.length : Nat) : Int)) - 1) fun x2 =>
    ckN x2 fun j1 =>
    ck (j1 ≤ a0.length) <|
    nm (a0.drop j1) fun y1 =>
    bd (M_zpoly_Mod fu y1 a2) fun (t2, x3) =>
    ckN x1 fun j2 =>
    ck (j2 ≤ a1.length) <|
    nm (a1.take j2) fun y2 =>
    bd (M_hensel_product fu y2 a2) fun t3 =>
    bd (M_fpoly_Mul fu t3 t2 a2) fun (t4, x4) =>
    ckN x1 fun j3 =>
    ck (j3 ≤ a1.length) <|
    nm (a1.drop j3) fun y3 =>
    bd (M_hensel_product fu y3 a2) fun t5 =>
    bd (M_fpoly_Bezout fu t4 t5 a2) fun (t6, t7, t8, x5) =>
    bd (M_zpoly_Lift fu t4) fun t9 =>
    bd (M_zpoly_Lift fu t5) fun t10 =>
    bd (M_zpoly_Lift fu t7) fun t11 =>
    bd (M_zpoly_Lift fu t8) fun t12 =>
    bd (loopN (B_hensel_tree_0 fu a0 a2 a3) fu (1, [t9, t10, t11, t12])) fun t16 =>
    nm (t16.getD 0 ([])) fun y4 =>
    ckN x1 fun j4 =>
    ck (j4 ≤ a1.length) <|
    nm (a1.take j4) fun y5 =>
    bd (M_hensel_tree fu y4 y5 a2 a3 a4) fun t19 =>
    nm (t16.getD 1 ([])) fun y6 =>
    ckN x1 fun j5 =>
    ck (j5 ≤ a1.length) <|
    nm (a1.drop j5) fun y7 =>
    bd (M_hensel_tree fu y6 y7 a2 a3 a4) fun t20 =>
    ck ((t19.length + t20.length) * 24 ≤ 140737488355328) <|
    nm (t19 ++ t20) fun t21 =>
    some t21
def M_hensel_Lift (fu : Nat) (a0 : List Zr) (a1 : List (List Int)) (a2 : Int) (a3 : Int) : Option ((List (List Zr)) × Int) :=
 bd (M_hensel_Power fu a2 a3) fun (t1, x1) =>
 bd (M_zpoly_Norm fu a0) fun t2 =>
 if x1 = 0 then
 if 65 < ((t2.length : Nat) : Int) then
 some ((([] : List (List Zr)), 6))
 else
 bd (M_hensel_right fu t2 a1 a2) fun c1 =>
 if (!c1) = true then
 some ((([] : List (List Zr)), 1))
 else
 if ((a1.length : Nat) : Int) = 0 then
 some ((([] : List (List Zr)), 0))
 else
 bd (M_hensel_red fu t2 t1) fun t3 =>
 bd (M_hensel_tree fu t3 a1 a2 a3 t1) fun t4 =>
 some (t4, 0)
 else
 some ((([] : List (List Zr)), x1))
def M_law13_awake (fu : Nat)  : Option Bool :=
 bd (M_zpoly_Of fu [1, 0, 1]) fun t1 =>
 bd (M_hensel_Lift fu t1 ([[2, 1], [3, 1]]) 5 2) fun (t2, x1) =>
 if x1 = 0 then
 bd (M_ref10_Of fu [7, 1]) fun t3 =>
 bd (M_ref10_Of fu [18, 1]) fun t4 =>
 bd (M_ref13_Same fu t2 [t3, t4]) fun c1 =>
 some c1
 else
 some false
def B_ref01_Bits_0 (fu : Nat)  : ((Int × Nat) → Option Int) → (Int × Nat) → Option Int := fun L (i3, d3) =>
 if (0 : Int) < ((d3 : Nat) : Int) then
 ck64 (i3 + 1) fun x4 =>
 nm (d3 / ((2 : Nat))) fun m1 =>
 L (x4, m1)
 else
 some i3
def M_ref01_Bits (fu : Nat) (a0 : List Nat) : Option Int :=
 bd (M_ref01_Norm fu a0) fun t1 =>
 if ((t1.length : Nat) : Int) = 0 then
 some 0
 else
 ck64 ((((t1.length : Nat) : Int)) - 1) fun x1 =>
 ck64 (64 * x1) fun x2 =>
 ck64 ((((t1.length : Nat) : Int)) - 1) fun x3 =>
 ckI x3 (t1.length) fun j1 =>
 nm (t1.getD j1 0) fun y1 =>
 bd (loopN (B_ref01_Bits_0 fu ) fu (x2, y1)) fun i4 =>
 some i4
def B_ref01_cut_0 (fu : Nat) (a0 : List Nat) : (Int → Option Int) → Int → Option Int := fun L i3 =>
 if 0 < i3 then
 ck64 (i3 - 1) fun x1 =>
 ckI x1 (a0.length) fun j1 =>
 nm (a0.getD j1 0) fun y1 =>
 if ((y1 : Nat) : Int) = (0 : Int) then
 ck64 (i3 - 1) fun x2 =>
 L x2
 else
 some i3
 else
 some i3
def M_ref01_cut (fu : Nat) (a0 : List Nat) : Option (List Nat) :=
 bd (loopN (B_ref01_cut_0 fu a0) fu (((a0.length : Nat) : Int))) fun i4 =>
 ckN i4 fun j2 =>
 ck (j2 ≤ a0.length) <|
 nm (a0.take j2) fun y2 =>
 some y2
def B_ref01_digits_0 (fu : Nat) (a0 : List Nat) : (((List Nat) × Int) → Option (List Nat)) → ((List Nat) × Int) → Option (List Nat) := fun L (t3, i3) =>
 if i3 < ((a0.length : Nat) : Int) then
 ckI i3 (a0.length) fun j1 =>
 nm (a0.getD j1 0) fun y1 =>
 nm (y1 &&& ((4294967295 : Nat))) fun m1 =>
 ckI i3 (a0.length) fun j2 =>
 nm (a0.getD j2 0) fun y2 =>
 nm (y2 / 2 ^ (min ((32 : Int)).toNat 64)) fun m2 =>
 ck ((t3.length + ([m1, m2]).length) * 8 ≤ 140737488355328) <|
 nm (t3 ++ ([m1, m2])) fun t5 =>
 ck64 (i3 + 1) fun x1 =>
 L (t5, x1)
 else
 some t3
def M_ref01_digits (fu : Nat) (a0 : List Nat) : Option (List Nat) :=
 bd (loopN (B_ref01_digits_0 fu a0) fu ((([] : List Nat), 0))) fun t4 =>
 bd (M_ref01_cut fu t4) fun t6 =>
 some t6
def B_ref01_limbs_0 (fu : Nat) (a0 : List Nat) : (((List Nat) × Int) → Option (List Nat)) → ((List Nat) × Int) → Option (List Nat) := fun L (t3, i3) =>
 if i3 < ((a0.length : Nat) : Int) then
 ckI i3 (a0.length) fun j1 =>
 nm (a0.getD j1 0) fun y1 =>
 ck64 (i3 + 1) fun x1 =>
 if x1 < ((a0.length : Nat) : Int) then
 ck64 (i3 + 1) fun x2 =>
 ckI x2 (a0.length) fun j2 =>
 nm (a0.getD j2 0) fun y2 =>
 nm (y2 * 2 ^ (min ((32 : Int)).toNat 64) % 18446744073709551616) fun m1 =>
 nm ((y1 + m1) % 18446744073709551616) fun m2 =>
 ck ((t3.length + ([m2]).length) * 8 ≤ 140737488355328) <|
 nm (t3 ++ ([m2])) fun t5 =>
 ck64 (i3 + 2) fun x3 =>
 L (t5, x3)
 else
 ck ((t3.length + ([y1]).length) * 8 ≤ 140737488355328) <|
 nm (t3 ++ ([y1])) fun t6 =>
 ck64 (i3 + 2) fun x4 =>
 L (t6, x4)
 else
 some t3
def M_ref01_limbs (fu : Nat) (a0 : List Nat) : Option (List Nat) :=
 bd (loopN (B_ref01_limbs_0 fu a0) fu ((([] : List Nat), 0))) fun t4 =>
 bd (M_ref01_Norm fu t4) fun t7 =>
 some t7
def B_ref01_Mul_1 (fu : Nat) (t1 : List Nat) (t2 : List Nat) (i3 : Int) : ((Nat × Int × (List Nat)) → Option (Nat × (List Nat))) → (Nat × Int × (List Nat)) → Option (Nat × (List Nat)) := fun L (d3, i6, t10) =>
 if i6 < ((t2.length : Nat) : Int) then
 ckI i3 (t1.length) fun j2 =>
 nm (t1.getD j2 0) fun y1 =>
 ckI i6 (t2.length) fun j3 =>
 nm (t2.getD j3 0) fun y2 =>
 nm ((y1 * y2) % 18446744073709551616) fun m1 =>
 ck64 (i3 + i6) fun x2 =>
 ckI x2 (t10.length) fun j4 =>
 nm (t10.getD j4 0) fun y3 =>
 nm ((m1 + y3) % 18446744073709551616) fun m2 =>
 nm ((m2 + d3) % 18446744073709551616) fun m3 =>
 ck64 (i3 + i6) fun x3 =>
 nm (m3 &&& ((4294967295 : Nat))) fun m4 =>
 ckI x3 (t10.length) fun j5 =>
 nm (t10.set j5 m4) fun t12 =>
 nm (m3 / 2 ^ (min ((32 : Int)).toNat 64)) fun m5 =>
 ck64 (i6 + 1) fun x4 =>
 L (m5, x4, t12)
 else
 some (d3, t10)
def B_ref01_Mul_0 (fu : Nat) (t1 : List Nat) (t2 : List Nat) : ((Int × (List Nat)) → Option (List Nat)) → (Int × (List Nat)) → Option (List Nat) := fun L (i3, t6) =>
 if i3 < ((t1.length : Nat) : Int) then
 bd (loopN (B_ref01_Mul_1 fu t1 t2 i3) fu (((0 : Nat), 0, t6))) fun (d4, t11) =>
 ck64 (i3 + (((t2.length : Nat) : Int))) fun x5 =>
 ckI x5 (t11.length) fun j6 =>
 nm (t11.set j6 d4) fun t13 =>
 ck64 (i3 + 1) fun x6 =>
 L (x6, t13)
 else
 some t6
def M_ref01_Mul (fu : Nat) (a0 : List Nat) (a1 : List Nat) : Option (List Nat) :=
 bd (M_ref01_digits fu a0) fun t1 =>
 bd (M_ref01_digits fu a1) fun t2 =>
 ck64 ((((t1.length : Nat) : Int)) + (((t2.length : Nat) : Int))) fun x1 =>
 ckN x1 fun j1 =>
 ck (8 * j1 ≤ 281474976710656) <|
 nm (List.replicate j1 0) fun t3 =>
 bd (loopN (B_ref01_Mul_0 fu t1 t2) fu (0, t3)) fun t7 =>
 bd (M_ref01_limbs fu t7) fun t14 =>
 some t14
def M_ref02_Mul (fu : Nat) (a0 : Zr) (a1 : Zr) : Option Zr :=
 nm (!(a0.1 == a1.1)) fun c1 =>
 bd (M_ref01_Mul fu a0.2 a1.2) fun t1 =>
 bd (M_ref02_Norm fu (c1, t1)) fun t2 =>
 some t2
def B_ref02_Pow_0 (fu : Nat) (a0 : Zr) (i1 : Int) : ((Int × Zr) → Option Zr) → (Int × Zr) → Option Zr := fun L (i4, t4) =>
 if i4 < i1 then
 bd (M_ref02_Mul fu t4 a0) fun t6 =>
 ck64 (i4 + 1) fun x8 =>
 L (x8, t6)
 else
 some t4
def M_ref02_Pow (fu : Nat) (a0 : Zr) (a1 : Int) : Option (Zr × Int) :=
 if a1 < 0 then
 some (((false, []), 1))
 else
 if 65536 < a1 then
 some (((false, []), 1))
 else
 bd (M_ref01_Bits fu a0.2) fun x1 =>
 ck64 (x1 * a1) fun x2 =>
 if 262144 < x2 then
 some (((false, []), 6))
 else
 bd (M_ref02_Of fu 1) fun t1 =>
 bd ((bd (M_ref01_Bits fu a0.2) fun x3 =>
 if x3 ≤ 1 then
 nm (min a1 1) fun x4 =>
 ck64 (2 * x4) fun x5 =>
 nm (Int.tmod a1 2) fun x6 =>
 ck64 (x5 - x6) fun x7 =>
 some x7
 else
 some a1 : Option Int)) fun i1 =>
 bd (loopN (B_ref02_Pow_0 fu a0 i1) fu (0, t1)) fun t5 =>
 some (t5, 0)
def B_ref04_Is_0 (fu : Nat) (a0 : Int) : (Int → Option (Unit ⊕ Unit)) → Int → Option (Unit ⊕ Unit) := fun L i3 =>
 ck64 (i3 * i3) fun x1 =>
 if x1 ≤ a0 then
 ck (i3 ≠ 0) <|
 nm (Int.tmod a0 i3) fun x2 =>
 if x2 = 0 then
 some (.inr ())
 else
 ck64 (i3 + 1) fun x3 =>
 L x3
 else
 some (.inl ())
def M_ref04_Is (fu : Nat) (a0 : Int) : Option Bool :=
 if a0 < 2 then
 some false
 else
 if 65521 < a0 then
 some false
 else
 bd (loopN (B_ref04_Is_0 fu a0) fu 2) fun s1 => match s1 with
| .inl _ =>
 some true
| .inr _ =>
 some false
def M_ref13_Power (fu : Nat) (a0 : Int) (a1 : Int) : Option (Zr × Int) :=
 bd (M_ref04_Is fu a0) fun c1 =>
 if (!c1) = true then
 some (((false, []), 1))
 else
 if a1 < 1 then
 some (((false, []), 1))
 else
 if 1000 < a1 then
 some (((false, []), 1))
 else
 bd (M_ref02_Of fu a0) fun t1 =>
 bd (M_ref02_Pow fu t1 a1) fun (t2, x1) =>
 some (t2, x1)
def M_law13_HenselPowers (fu : Nat) (a0 : Int) (a1 : Int) : Option Bool :=
 bd (M_law13_awake fu) fun c1 =>
 bd ((if 60 < a1 then
 if a1 ≤ 1000 then
 some (.inr c1)
 else
 some (.inl ())
 else
 some (.inl ()) : Option (Unit ⊕ Bool))) fun s1 => match s1 with
| .inl _ =>
 bd (M_hensel_Power fu a0 a1) fun (t1, x1) =>
 bd (M_ref13_Power fu a0 a1) fun (t2, x2) =>
 if c1 = true then
 if x1 = x2 then
 bd (M_ref02_Same fu t1 t2) fun c2 =>
 some c2
 else
 some false
 else
 some false
| .inr b1 =>
 some b1
end Go.Proofs.YtjnjfinbdfolkaaGreat
end

section
set_option linter.unusedVariables false
set_option linter.unusedSimpArgs false
namespace Go.Proofs.YtjnjfinbdfolkaaGreat
end Go.Proofs.YtjnjfinbdfolkaaGreat
end

section
set_option linter.unusedVariables false
set_option linter.unusedSimpArgs false
namespace Go.Proofs.YtjnjfinbdfolkaaGreat
/-- rounds answer what the invariant says, if a measure falls -/
theorem loop_eq {α β : Type} {f : (β → Option α) → β → Option α} (I : β → Prop) (m : β → Nat) (r : α)
    (step : ∀ s L, I s → (∀ s', I s' → m s' < m s → L s' = some r) → f L s = some r) : ∀ (n : Nat) (s : β), I s → m s < n → loopN f n s = some r
  | 0, s, _, h => absurd h (Nat.not_lt_zero _)
  | n + 1, s, hI, h => step s _ hI fun s' hI' hm => loop_eq I m r step n s' hI' (by omega)
theorem take_toL {a : List Nat} (h : Limbs a) : a.take (toL (nv a)).length = toL (nv a) := by
  refine limbs_ext (h.take _) (toL_limbs _) (by rw [List.length_take]; have := toL_nv_le h; omega) ?_
  rw [nv_take h, nv_toL]
  exact Nat.mod_eq_of_lt ((toL_length _ _).1 (Nat.le_refl _))
theorem nv_take_pred {a : List Nat} {k : Nat} (hk : k + 1 ≤ a.length) (h0 : a.getD k 0 = 0) : nv (a.take k) = nv (a.take (k + 1)) := by
  rw [nv_take_succ, h0]; simp
theorem toL_take_top {a : List Nat} (h : Limbs a) {k : Nat} (hk : k + 1 ≤ a.length) (h0 : a.getD k 0 ≠ 0) : toL (nv (a.take (k + 1))) = a.take (k + 1) := by
  refine toL_of_last (h.take _) (.inr ?_)
  have : (a.take (k + 1)).length - 1 = k := by rw [List.length_take]; omega
  rw [this, List.getD_eq_getElem?_getD, List.getElem?_take, if_pos (by omega), ← List.getD_eq_getElem?_getD]
  exact h0
theorem M_nat_plain_own_eq {fu : Nat} {a : List Nat} (h : Limbs a) (hl : a.length ≤ 1099511627776) (hf : a.length < fu) : M_nat_plain_own fu a = some (toL (nv a)) := by
  unfold M_nat_plain_own
  rw [bd_t (v := toL (nv a))]
  refine loop_eq (fun l => Limbs l ∧ nv l = nv a ∧ l.length ≤ 1099511627776) (fun l => l.length) _ ?_ _ _ ⟨h, rfl, hl⟩ hf
  rintro l L ⟨hL, hn, hk⟩ ih
  unfold B_nat_plain_own_0
  by_cases h0 : 0 < ((l.length : Nat) : Int)
  · obtain ⟨k, hk1⟩ : ∃ k, l.length = k + 1 := ⟨l.length - 1, by omega⟩
    have e1 : ((l.length : Nat) : Int) - 1 = (k : Int) := by omega
    rw [if_pos h0, e1, ck64_t ⟨by omega, by omega⟩, ckI_n (by omega), nm_t]
    by_cases h1 : l.getD k 0 = 0
    · rw [if_pos (by rw [h1]; rfl), ck64_t ⟨by omega, by omega⟩, ckN_n, ck_t (by omega), nm_t]
      refine ih _ ⟨hL.take _, ?_, by rw [List.length_take]; omega⟩ (by rw [List.length_take]; omega)
      rw [nv_take_pred (by omega) h1, ← hk1, List.take_length, hn]
    · rw [if_neg (by omega), ← hn]
      have := toL_take_top hL (k := k) (by omega) h1
      rw [← hk1, List.take_length] at this
      rw [this]
  · rw [if_neg h0, ← hn]
    have : l = [] := List.length_eq_zero_iff.1 (by omega)
    rw [this]; rfl
theorem M_nat_plain_eq {fu : Nat} {a : List Nat} (h : Limbs a) (hl : a.length ≤ 1099511627776) (hf : a.length < fu) : M_nat_plain fu a = some (toL (nv a)) := by
  have := M_nat_plain_own_eq h hl hf
  unfold M_nat_plain_own B_nat_plain_own_0 at this
  unfold M_nat_plain B_nat_plain_0
  exact this
theorem M_nat_Norm_eq {fu : Nat} {a : List Nat} (h : Limbs a) (hl : a.length ≤ 1099511627776) (hf : a.length < fu) : M_nat_Norm fu a = some (toL (nv a)) := by
  unfold M_nat_Norm M_slices_Clone_uint64_uint64
  rw [bd_t (M_nat_plain_eq h hl hf), bd_t (v := toL (nv a))]
  rw [ck_t (by have := toL_nv_le h; omega)]
theorem M_ref01_Norm_eq {fu : Nat} {a : List Nat} (h : Limbs a) (hl : a.length ≤ 17179869184) (hf : a.length < fu) : M_ref01_Norm fu a = some (toL (nv a)) := by
  unfold M_ref01_Norm
  have h5 := toL_nv_le h
  rw [bd_t (v := ((toL (nv a)).length : Int)), ckN_n, ck_t h5, nm_t, take_toL h, ck_t (by simp; omega), nm_t]; rfl
  refine loop_eq (fun i : Int => 0 ≤ i ∧ i ≤ a.length ∧ nv (a.take i.toNat) = nv a) (fun i => i.toNat) _ ?_ _ _ ⟨by omega, by omega, by simp⟩ (by omega)
  rintro i L ⟨h0, h1, hn⟩ ih
  obtain ⟨k, rfl⟩ := Int.eq_ofNat_of_zero_le h0
  unfold B_ref01_Norm_0
  simp only [Int.toNat_natCast] at *
  by_cases hk : 0 < (k : Int)
  · obtain ⟨j, rfl⟩ : ∃ j, k = j + 1 := ⟨k - 1, by omega⟩
    have e1 : ((j + 1 : Nat) : Int) - 1 = (j : Int) := by omega
    rw [if_pos hk, e1, ck64_t ⟨by omega, by omega⟩, ckI_n (by omega), nm_t]
    by_cases h2 : a.getD j 0 = 0
    · rw [if_pos (by rw [h2]; rfl), ck64_t ⟨by omega, by omega⟩]
      refine ih _ ⟨by omega, by omega, ?_⟩ (by omega)
      rw [Int.toNat_natCast, nv_take_pred (by omega) h2, hn]
    · rw [if_neg (by omega), ← hn, toL_take_top h (by omega) h2, List.length_take]
      congr 1; omega
  · rw [if_neg hk, ← hn]
    have : k = 0 := by omega
    subst this; rfl
theorem and32 (x : Nat) : x &&& 4294967295 = x % 4294967296 := Nat.and_two_pow_sub_one_eq_mod x 32
theorem min32 : min ((32 : Int)).toNat 64 = 32 := by decide
theorem M_math_bits_Mul64_eq {fu x y : Nat} (hx : x < 18446744073709551616) (hy : y < 18446744073709551616) : M_math_bits_Mul64 fu x y = some (x * y / 18446744073709551616, x * y % 18446744073709551616) := by
  unfold M_math_bits_Mul64
  simp only [nm, and32, min32]
  obtain ⟨b1, b2, b3, b4⟩ := mul64_b hx hy
  have e := mul64_eq x y
  generalize hA : (x % 4294967296) * (y % 4294967296) = A at *
  generalize hB : (x / 2 ^ 32) * (y % 4294967296) = B at *
  generalize hC : (x % 4294967296) * (y / 2 ^ 32) = C at *
  generalize hD : (x / 2 ^ 32) * (y / 2 ^ 32) = D at *
  have hz : x * y < 18446744073709551616 * 18446744073709551616 := Nat.mul_lt_mul'' hx hy
  generalize x * y = z at *
  congr 2
  omega
theorem M_nat_carried_eq {fu n : Nat} {f : Int → Nat → Option (Nat × Nat)} {step : Nat → Nat → Nat × Nat} (hn : n ≤ 17179869184) (hf : n < fu)
    (h : ∀ k, k < n → f (k : Int) (carS step k).2 = some (step k (carS step k).2)) : M_nat_carried fu n f = some (carS step n) := by
  unfold M_nat_carried
  rw [ckN_n, ck_t (by omega), nm_t, bd_t (v := ((carS step n).2, (carS step n).1))]
  refine loop_eq (fun s : Nat × Int × List Nat => ∃ k : Nat, k ≤ n ∧ s = ((carS step k).2, (k : Int), (carS step k).1 ++ List.replicate (n - k) 0)) (fun s => n - s.2.1.toNat) _ ?_ _ _ ⟨0, by omega, rfl⟩ (by simpa using hf)
  rintro s L ⟨k, hk, rfl⟩ ih
  unfold B_nat_carried_0
  by_cases h1 : (k : Int) < (n : Int)
  · have hl : (carS step k).1.length = k := carS_length step k
    simp only []
    rw [if_pos h1, bd_t (h k (by omega)), ckI_n (by simp [hl]; omega), nm_t, ck64_t ⟨by omega, by omega⟩]
    refine ih _ ⟨k + 1, by omega, ?_⟩ (by show n - ((k : Int) + 1).toNat < n - ((k : Int)).toNat; omega)
    rw [set_mid hl (by omega)]; rfl
  · simp only []
    rw [if_neg h1]
    obtain rfl : k = n := by omega
    simp
theorem M_nat_at_eq {fu k : Nat} (a : List Nat) (hl : a.length ≤ 9223372036854775807) : M_nat_at fu a (k : Int) = some (a.getD k 0) := by
  unfold M_nat_at
  by_cases h : k < a.length
  · rw [if_pos (by omega), ckI_n h, nm_t]
  · rw [if_neg (by omega), List.getD_eq_getElem?_getD, List.getElem?_eq_none (by omega)]; rfl
theorem M_nat_Add_eq {fu : Nat} {a b : List Nat} (ha : Limbs a) (hb : Limbs b) (hla : a.length ≤ 8589934592) (hlb : b.length ≤ 8589934592) (hf : max a.length b.length + 1 < fu) :
    M_nat_Add fu a b = some (toL (nv a + nv b)) := by
  unfold M_nat_Add
  have e : max ((a.length : Nat) : Int) ((b.length : Nat) : Int) = ((max a.length b.length : Nat) : Int) := by omega
  have hc : ∀ k, (carS (addS a b) k).2 ≤ 1 := by
    intro k
    induction k with
    | zero => exact Nat.zero_le _
    | succ k ih => exact addS_carry ha hb ih
  rw [nm_t, e, bd_t (M_nat_carried_eq (step := addS a b) (by omega) (by omega) ?_)]
  · have hl := carS_length (addS a b) (max a.length b.length)
    show ck _ _ = _
    rw [ck_t (by simp [hl]; omega), nm_t, bd_t (M_nat_plain_own_eq ?_ (by simp [hl]; omega) (by simp [hl]; omega)), addS_val (by omega) (by omega)]
    exact (addS_inv a b _).2.append (Limbs.cons (by have := hc (max a.length b.length); omega) Limbs.nil)
  · intro k hk
    unfold M_nat_Add_1
    rw [bd_t (M_nat_at_eq a (by omega)), bd_t (M_nat_at_eq b (by omega)), ck_t (hc k)]; rfl
theorem M_nat_Sub_eq {fu : Nat} {a b : List Nat} (ha : Limbs a) (hb : Limbs b) (hla : a.length ≤ 8589934592) (hlb : b.length ≤ 8589934592) (hf : max a.length b.length + 1 < fu) :
    M_nat_Sub fu a b = some (if nv a < nv b then ([], 1) else (toL (nv a - nv b), 0)) := by
  unfold M_nat_Sub
  have e : max ((a.length : Nat) : Int) ((b.length : Nat) : Int) = ((max a.length b.length : Nat) : Int) := by omega
  have hc : ∀ k, (carS (subS a b) k).2 ≤ 1 := by
    intro k
    cases k with
    | zero => exact Nat.zero_le _
    | succ k => exact subS_carry a b k _
  rw [nm_t, e, bd_t (M_nat_carried_eq (step := subS a b) (by omega) (by omega) ?_)]
  · have hl := carS_length (subS a b) (max a.length b.length)
    have hs := subS_less ha hb (Nat.le_max_left a.length b.length) (Nat.le_max_right a.length b.length)
    simp only []
    by_cases h : nv a < nv b
    · rw [if_pos (by have := hs.2 h; omega), if_pos h]
    · rw [if_neg (by intro h1; exact h (hs.1 (by omega))), if_neg h, bd_t (M_nat_plain_own_eq (subS_val ha hb (Nat.le_max_left a.length b.length) (Nat.le_max_right a.length b.length)).2.1 (by omega) (by omega)), subS_diff ha hb (Nat.le_max_left _ _) (Nat.le_max_right _ _) h]
  · intro k hk
    unfold M_nat_Sub_1
    rw [bd_t (M_nat_at_eq a (by omega)), bd_t (M_nat_at_eq b (by omega)), ck_t (hc k)]; rfl
theorem M_nat_less_eq {fu : Nat} {a b : List Nat} (ha : Limbs a) (hb : Limbs b) (hla : a.length ≤ 8589934592) (hlb : b.length ≤ 8589934592) (hf : max a.length b.length + 1 < fu) (h : nv b ≤ nv a) :
    M_nat_less fu a b = some (toL (nv a - nv b)) := by
  unfold M_nat_less
  rw [bd_t (M_nat_Sub_eq ha hb hla hlb hf), if_neg (by omega)]
theorem rowS_c {a : List Nat} {x : Nat} (ha : Limbs a) (hx : x < 18446744073709551616) : ∀ k, (carS (rowS a x) k).2 < 18446744073709551616
  | 0 => Nat.zero_lt_succ _
  | k + 1 => rowS_carry ha hx (rowS_c ha hx k)
theorem row_words {a x c : Nat} (ha : a < 18446744073709551616) (hx : x < 18446744073709551616) (hc : c < 18446744073709551616) :
    ((a * x % 18446744073709551616 + c) % 18446744073709551616, (a * x / 18446744073709551616 + (a * x % 18446744073709551616 + c) / 18446744073709551616) % 18446744073709551616) = ((a * x + c) % 18446744073709551616, (a * x + c) / 18446744073709551616) := by
  have := mul_lt_words ha hx hc
  generalize a * x = z at *
  congr 1 <;> omega
theorem M_nat_row_eq {fu : Nat} {a : List Nat} {x : Nat} (ha : Limbs a) (hx : x < 18446744073709551616) (hla : a.length ≤ 8589934592) (hf : a.length < fu) : M_nat_row fu a x = some (digs (a.length + 1) (nv a * x)) := by
  unfold M_nat_row
  rw [bd_t (M_nat_carried_eq (step := rowS a x) (by omega) hf ?_)]
  · have hl := carS_length (rowS a x) a.length
    simp only []
    rw [ck_t (by simp [hl]; omega), nm_t, rowS_row (rowS_c ha hx _)]
  · intro k hk
    unfold M_nat_row_1
    rw [ckI_n hk, nm_t, bd_t (M_math_bits_Mul64_eq (ha.getD k) hx)]
    simp only [nm, Nat.add_zero]
    exact congrArg some (row_words (ha.getD k) hx (rowS_c ha hx k))
theorem M_nat_moved_eq {fu n : Nat} {a : List Nat} (hn : n ≤ 1099511627776) (hl : a.length ≤ 1099511627776) : M_nat_moved fu a (n : Int) = some (List.replicate n 0 ++ a) := by
  unfold M_nat_moved
  rw [ckN_n, ck_t (by omega), nm_t, ck_t (by simp; omega), nm_t]
theorem school_inner {fu k n : Nat} {a b t6 : List Nat} (ha : Limbs a) (hb : Limbs b) (hk : k < b.length) (hn : n = a.length + b.length + 1) (hnb : n ≤ 17179869184) (h6 : t6 = digs (a.length + 1) (nv a * b.getD k 0)) (hf : a.length + 1 < fu) :
    loopN (B_nat_school_1 fu (k : Int) t6) fu (0, t6, 0, digs n (nv a * nv (b.take k))) = some (digs n (nv a * nv (b.take (k + 1)))) := by
  have hl6 : t6.length = a.length + 1 := by rw [h6, digs_length]
  have h6L : Limbs t6 := h6 ▸ digs_limbs _ _
  have hB : nv a * nv (b.take k) < 18446744073709551616 ^ n := Nat.lt_of_lt_of_le (nv_le_of_all ha hb) (Nat.pow_le_pow_right (by decide) (by omega))
  have h0 : nv (digs n (nv a * nv (b.take k))) = nv a * nv (b.take k) := by rw [nv_digs, Nat.mod_eq_of_lt hB]
  refine loop_eq (fun s : Nat × List Nat × Int × List Nat => ∃ (c i : Nat) (o : List Nat), s = (c, t6, (i : Int), o) ∧ i ≤ t6.length ∧ c ≤ 1 ∧ Limbs o ∧ o.length = n ∧ nv o + 18446744073709551616 ^ (k + i) * c = nv a * nv (b.take k) + 18446744073709551616 ^ k * nv (t6.take i))
    (fun s => a.length + 1 - s.2.2.1.toNat) _ ?_ _ _ ⟨0, 0, _, rfl, by omega, by omega, digs_limbs _ _, digs_length _ _, by rw [h0]; simp [nv]⟩ (by simpa using hf)
  rintro s L ⟨c, i, o, rfl, hi, hc, hoL, hol, ho⟩ ih
  unfold B_nat_school_1
  simp only []
  by_cases h1 : i < t6.length
  · rw [if_pos (by omega), bd_t rfl]
    simp only [if_true]
    have e : (k : Int) + (i : Int) = ((k + i : Nat) : Int) := by omega
    rw [ckI_n h1, nm_t, e, ck64_t ⟨by omega, by omega⟩, ck64_t ⟨by omega, by omega⟩, ckI_n (by omega), nm_t, ck_t hc, nm_t, nm_t, ckI_n (by omega), nm_t, ck64_t ⟨by omega, by omega⟩]
    refine ih _ ⟨_, i + 1, _, rfl, by omega, ?_, hoL.set _ (Nat.mod_lt _ (by decide)), by rw [List.length_set, hol], ?_⟩ (by show a.length + 1 - ((i : Int) + 1).toNat < a.length + 1 - (i : Int).toNat; omega)
    · have := hoL.getD (k + i); have := h6L.getD i; omega
    · have := sum_step (o := o) (o0 := digs n (nv a * nv (b.take k))) (r := t6) (j := k) (i := i) (c := c) (by omega) (by rw [h0]; exact ho)
      rw [h0] at this; exact this
  · rw [if_neg (by omega), bd_t rfl]
    simp only [Bool.false_eq_true, if_false]
    subst h6
    refine congrArg some (limbs_ext hoL (digs_limbs _ _) (by rw [hol, digs_length]) ?_)
    rw [school_step ha hb (k := k) (i := i) (c := c) (p := o) (o := digs n (nv a * nv (b.take k))) (by omega) (by omega) h0 (by rw [h0]; exact ho), nv_digs, Nat.mod_eq_of_lt]
    exact Nat.lt_of_lt_of_le (nv_le_of_all ha hb) (Nat.pow_le_pow_right (by decide) (by omega))
theorem M_nat_school_eq {fu : Nat} {a b : List Nat} (ha : Limbs a) (hb : Limbs b) (hla : a.length ≤ 4294967296) (hlb : b.length ≤ 4294967296) (hf : a.length + b.length + 1 < fu) :
    M_nat_school fu a b = some (toL (nv a * nv b)) := by
  unfold M_nat_school
  have e1 : ((a.length : Nat) : Int) + ((b.length : Nat) : Int) = ((a.length + b.length : Nat) : Int) := by omega
  have e2 : ((a.length + b.length : Nat) : Int) + 1 = ((a.length + b.length + 1 : Nat) : Int) := by omega
  have hB : nv a * nv b < 18446744073709551616 ^ (a.length + b.length + 1) := by
    have := nv_le_of_all (k := b.length) ha hb
    rw [List.take_length] at this
    exact Nat.lt_of_lt_of_le this (Nat.pow_le_pow_right (by decide) (by omega))
  rw [e1, ck64_t ⟨by omega, by omega⟩, e2, ck64_t ⟨by omega, by omega⟩, ckN_n, ck_t (by omega), nm_t, bd_t (v := digs (a.length + b.length + 1) (nv a * nv b))]
  · rw [bd_t (M_nat_plain_own_eq (digs_limbs _ _) (by rw [digs_length]; omega) (by rw [digs_length]; omega)), nv_digs, Nat.mod_eq_of_lt hB]
  · refine loop_eq (fun s : Int × List Nat => ∃ k : Nat, k ≤ b.length ∧ s = ((k : Int), digs (a.length + b.length + 1) (nv a * nv (b.take k)))) (fun s => b.length - s.1.toNat) _ ?_ _ _ ⟨0, by omega, by simp [nv, digs_zero]⟩ (by simp; omega)
    rintro s L ⟨k, hk, rfl⟩ ih
    unfold B_nat_school_0
    simp only []
    by_cases h1 : k < b.length
    · rw [if_pos (by omega), bd_t rfl]
      simp only [if_true]
      rw [ckI_n h1, nm_t, bd_t (M_nat_row_eq ha (hb.getD k) (by omega) (by omega)), bd_t (school_inner ha hb h1 rfl (by omega) rfl (by omega)), ck64_t ⟨by omega, by omega⟩]
      exact ih _ ⟨k + 1, by omega, rfl⟩ (by show b.length - ((k : Int) + 1).toNat < b.length - (k : Int).toNat; omega)
    · rw [if_neg (by omega), bd_t rfl]
      simp only [Bool.false_eq_true, if_false]
      obtain rfl : k = b.length := by omega
      rw [List.take_length]
end Go.Proofs.YtjnjfinbdfolkaaGreat
end

