/- What a proof needs: rules of walking, mirrors of functions and their plain laws. No condition. -/
import Derived.Test.YtbaoeefdjpaomaaDoorZk1
import Derived.Test.YtbaoeefdjpaomaaDoorRows
import Derived.ProofKit
import Derived.OpenShut
import Derived.Laws.Pointers
import Derived.RangeFuncSeq
import Derived.RangeFuncRecord
import Derived.WideKeyArgs
import Derived.SizedLaws
import Derived.Lib.ConvBytes
set_option linter.unusedVariables false
set_option linter.unusedSimpArgs false
namespace Go.Proofs.YtbaoeefdjpaomaaDoor
section
theorem allM_mem {S : Nat → Prop} {w : World} : ∀ {ms : List MF}, AllM S ms w ↔ ∀ m ∈ ms, m.p S w
  | [] => ⟨fun _ m h => absurd h List.not_mem_nil, fun _ => trivial⟩
  | m :: r => by
    have ih := allM_mem (S := S) (w := w) (ms := r)
    constructor
    · intro h x hx
      rcases List.mem_cons.1 hx with rfl | hx
      · exact h.1
      · exact ih.1 h.2 x hx
    · intro h
      exact ⟨h m (List.mem_cons_self ..), ih.2 fun x hx => h x (List.mem_cons_of_mem _ hx)⟩
theorem apart_pw : ∀ {ms : List MF}, Apart ms ↔ ms.Pairwise (fun m m' => ∀ k, m.blk k → ¬ m'.blk k)
  | [] => ⟨fun _ => List.Pairwise.nil, fun _ => trivial⟩
  | m :: r => by
    rw [List.pairwise_cons]
    have ih := apart_pw (ms := r)
    exact ⟨fun h => ⟨fun m' hm' k hk => h.1 k hk m' hm', ih.1 h.2⟩, fun h => ⟨fun k hk m' hm' => h.1 m' hm' k hk, ih.2 h.2⟩⟩
theorem St.perm {we : World} {Se : Nat → Prop} {ms ms' : List MF} {Γ : List FF} {w : World} (h : St we Se ms Γ w) (hp : ms.Perm ms') : St we Se ms' Γ w := by
  obtain ⟨h1, h2, h3, S, h4, h5, h6, h7, h8⟩ := h
  refine ⟨h1, h2, apart_pw.2 ((hp.pairwise_iff fun {x y} hxy k hk hc => hxy k hc hk).1 (apart_pw.1 h3)), S, h4, h5, fun m hm => h6 m (hp.mem_iff.2 hm), allM_mem.2 fun m hm => allM_mem.1 h7 m (hp.mem_iff.2 hm), h8⟩
def ptrBlk : Value → Option Nat
  | .pointer (some ⟨b, _, _⟩) => some b
  | _ => none
def mP {α : Type} (e : CRep α) (E : TypeId) (v : Value) (z : α) : MF where
  blk k := ptrBlk v = some k
  p S w := ∃ b, v = .pointer (some ⟨b, 0, none⟩) ∧ (mB e E b z).p S w
  keep := fun ⟨b, h1, h2⟩ k hb => ⟨b, h1, (mB e E b z).keep h2 k fun i hi => hb i (by rw [h1]; exact hi)⟩
  sub := fun ⟨b, h1, h2⟩ k => ⟨b, h1, (mB e E b z).sub h2 k⟩
  lt := fun ⟨b, h1, h2⟩ k hk => (mB e E b z).lt h2 k (by rw [h1] at hk; exact hk)
theorem St.openP {α : Type} {e : CRep α} {E : TypeId} {v : Value} {z : α} {we : World} {Se : Nat → Prop} {ms : List MF} {Γ : List FF} {w : World} (i : Nat) (h : St we Se ms Γ w) (hm : ms[i]? = some (mP e E v z)) :
    ∃ b, v = .pointer (some ⟨b, 0, none⟩) ∧ St we Se (ms.set i (mB e E b z)) Γ w := by
  obtain ⟨S, hp, _⟩ := h.muts hm
  obtain ⟨b, hv, _⟩ := hp
  subst hv
  exact ⟨b, rfl, h.conv hm rfl fun S ⟨b', h1, h2⟩ => by cases h1; exact h2⟩
theorem St.toP {α : Type} {e : CRep α} {E : TypeId} {b : Nat} {z : α} {we : World} {Se : Nat → Prop} {ms : List MF} {Γ : List FF} {w : World} (i : Nat) (h : St we Se ms Γ w) (hm : ms[i]? = some (mB e E b z)) :
    St we Se (ms.set i (mP e E (.pointer (some ⟨b, 0, none⟩)) z)) Γ w := h.conv hm rfl fun S h => ⟨b, rfl, h⟩
theorem holdK_keep {K : List (Tmp × Pr)} {env0 env : Env} {S : Nat → Prop} {w w' : World} {t : Tmp} (h : holdK K env0 env S w t) (k : Keeps S w w') : holdK K env0 env S w' t := by grind [holdK, Pr.keepS, Nat.beq]
theorem holdK_sub {K : List (Tmp × Pr)} {env0 env : Env} {S S' : Nat → Prop} {w : World} {t : Tmp} (h : holdK K env0 env S w t) (k : ∀ k, k < w.heap.size → S k → S' k) : holdK K env0 env S' w t := by grind [holdK, Pr.sub, Nat.beq]
def fHold (K : List (Tmp × Pr)) (env0 env : Env) (ts : List Tmp) : FF where
  p S w := HoldL K env0 env S w ts
  keep := fun {S w w'} h k => by
    induction ts with
    | nil => trivial
    | cons t ts ih => exact ⟨holdK_keep h.1 k, ih h.2⟩
  sub := fun {S S' w} h k => by
    induction ts with
    | nil => trivial
    | cons t ts ih => exact ⟨holdK_sub h.1 k, ih h.2⟩
structure Res where
  a : Option Nat
  t : Tmp
  w : Option Nat
  mf : Bool → Value → MF
def Res.done (r : Res) (D : Nat → Bool) : Bool := match r.w with
  | some i => D i
  | none => false
def Res.here (r : Res) (D : Nat → Bool) : Bool := match r.a with
  | some i => D i
  | none => true
def av (rs : List Res) (D : Nat → Bool) (env : Env) : List MF := rs.filterMap fun r => bif r.here D then some (r.mf (r.done D) (env r.t)) else none
def dstB (l : List Oper) (i j : Nat) : Bool := match (opAt l i).dst with
  | some t => (opAt l j).dst == some t
  | none => false
section
variable {P : Program} {N : Nd} {we : World} {Se : Nat → Prop} {ms : List MF} {Γ : List FF} {Q : Qs} {env0 : Env} {l : List Oper} {m : Nat}
def fAll (L : List (Oper × Pr)) (D : Nat → Bool) (env : Env) : FF where
  p S w := ∀ i x t, D i = true → L[i]? = some x → x.1.dst = some t → x.2.p S (env t) w
  keep := fun h k i x t h1 h2 h3 => x.2.keepS (h i x t h1 h2 h3) k
  sub := fun h k i x t h1 h2 h3 => x.2.sub (h i x t h1 h2 h3) k
end
section
variable {P : Program} {N : Nd} {we : World} {Se : Nat → Prop} {ms : List MF} {Γ : List FF} {env : Env} {d : Option Tmp} {ty t : TypeId} {pos : String} {aft : Array Edge} {g : Option (Nat × Bool)}
theorem og_lit {α : Type} {e : ERep α} {et : TypeId} {zs : List α} {len bytes : Nat} {zero : Value} {parts : List (Nat × Operand)} {vs : List (Nat × Value)} (ht : P.underlying t = some (.slice et)) (het : TyF P et e.agg e.n bytes zero)
    (hn : 0 < e.n) (hlen : zs.length = len) (hsm : len * e.n ≤ 16777216) (hv : parts.map (fun x => (x.1, ev env x.2)) = vs)
    (hok : ∀ (S : Nat → Prop) (w : World), All S Γ w → fillOK (fun i => some (i * e.n, e.n)) vs 0) (hp : ∀ (S : Nat → Prop) (w : World), All S Γ w → Elems e S zs (flat vs) w) :
    OG P ⟨d, .buildSlice t len parts.toArray, ty, pos, aft, g⟩ env we Se ms Γ (fun v : Value => v) (fun v => mO e et v zs :: ms) (fun _ => Γ) (fun _ => True) := by
  intro w hst
  obtain ⟨S0, hS0, hΓ⟩ := hst.ex
  have hpz := hp S0 w hΓ
  have hl : (flat vs).length = len * e.n := by rw [hpz.len, hlen]
  have h63 : len ≤ 9223372036854775807 := by have : len ≤ len * e.n := Nat.le_mul_of_pos_right _ hn; omega
  refine OpR.of_value (w' := w.alloc (.cells (flat vs).toArray et)) (v := .slice (some ⟨w.heap.size, 0, none⟩) len len) ?_ ⟨_, rfl, trivial, ?_⟩
  · have hv' : parts.toArray.map (fun x => (x.1, ev env x.2)) = vs.toArray := by rw [← hv]; simp
    have hfill : Instr.fill (fun i => some (i * e.n, e.n)) ((Array.range (len * e.n)).map (zero.cells[· % zero.cells.size]!)) vs = some (flat vs).toArray := by
      have := fill_all vs [] ((Array.range (len * e.n)).map (zero.cells[· % zero.cells.size]!)).toList (hok S0 w hΓ) (by simp [hl])
      rw [List.nil_append, Array.toArray_toList, List.nil_append, List.drop_eq_nil_of_le (by simp [hl]), List.append_nil] at this
      exact this
    have hb : (Instr.buildSlice t len (parts.toArray.map fun x => (x.1, ev env x.2))).run P w = .ok (.slice (some ⟨w.heap.size, 0, none⟩) len len) (w.alloc (.cells (flat vs).toArray et)) := by
      rw [hv']
      unfold Instr.buildSlice
      simp only [Sem.run_bind, run_underlying ht, Result.andThen_ok, run_sizeOf het, if_neg (show ¬ len * e.n > 2 ^ 24 by omega), newRow]
      by_cases h0 : len * e.n = 0
      · have hvs : flat vs = [] := List.eq_nil_of_length_eq_zero (by rw [hl, h0])
        have hf2 : Instr.fill (fun i => some (i * e.n, e.n)) ((Array.range 0).map ((#[] : Array Value)[· % (#[] : Array Value).size]!)) vs = some (flat vs).toArray := by
          have hm : ∀ f : Nat → Value, (Array.range 0).map f = #[] := fun f => by simp
          rw [← hfill, h0, hm, hm]
        simp only [h0, if_true]
        simp only [hf2, Sem.run_bind, run_newObj_alloc, Result.andThen_ok, Sem.run_pure]
      · simp only [if_neg h0, Sem.run_bind, run_zeroValue het, Result.andThen_ok, Sem.run_pure, hfill, run_newObj_alloc]
    simp only [execOp, Sem.run_bind, hb, Result.andThen_ok, Sem.run_pure]
  · have hf : St we Se (mR e et w.heap.size zs :: ms) Γ (w.alloc (.cells (flat vs).toArray et)) := by
      refine hst.fresh (Ext.alloc w _) rfl (by simp) ?_
      intro S hS hΓ
      refine ⟨_, heap_alloc_new w _, ?_⟩
      exact ((hp S w hΓ).sub fun k hk hs => ⟨hs, Nat.ne_of_lt hk⟩).keep (Ext.alloc w _).to
    exact row_own (n := len) 0 hf rfl hlen.symm (by omega)
end
theorem r_not {P : Program} {env : Env} {d : Option Tmp} {ty t : TypeId} {pos : String} {aft : Array Edge} {g : Option (Nat × Bool)} {x : Operand} {b : Bool} (h : ev env x = .bool b) (w : World) :
    (execOp (ev env) ⟨d, .unOp .not t x, ty, pos, aft, g⟩).run P w = .ok (.value (.bool !b)) w := pv_run (by show (match ev env x with | Value.bool t => some (Value.bool !t) | _ => none) = _; rw [h]) w
abbrev iv (x : Int) : Value := .int .i64 x
abbrev uv (x : Nat) : Value := .int .u64 ((x : Nat) : Int)
def pvL (N : Nat) (ops : Array Oper) : List Oper → Env → List (Nat × Value) → Option (List (Nat × Value))
  | [], _, acc => some acc
  | o :: r, env, acc => match o.dst with
    | some d => bif okDst N (some d) then (bif wantedE ops (L acc env) o then (match pv o (L acc env) with
        | some v => pvL N ops r env ((d, v) :: acc)
        | none => none) else (match o.guard with
        | some (j, want) => bif gd ops (L acc env) j == some (!want) then pvL N ops r env ((d, undef) :: acc) else none
        | none => none)) else none
    | none => none
theorem pvL_run {N : Nat} {ops : Array Oper} : ∀ (l : List Oper) (env : Env) (acc added : List (Nat × Value)), pvL N ops l env acc = some added → pvRun N ops l (L acc env) = some (L added env)
  | [], env, acc, added, h => by cases h; rfl
  | o :: r, env, acc, added, h => by
    unfold pvL at h
    unfold pvRun
    cases hd : o.dst with
    | none => rw [hd] at h; cases h
    | some d =>
      rw [hd] at h
      simp only [] at h
      cases ho : okDst N (some d)
      · rw [ho] at h; cases h
      · rw [ho] at h
        simp only [cond_true] at h ⊢
        cases hw : wantedE ops (L acc env) o
        · rw [hw] at h
          simp only [cond_false] at h ⊢
          split at h
          · next j want hg =>
            cases hb : (gd ops (L acc env) j == some (!want))
            · rw [hb] at h; cases h
            · rw [hb] at h
              simp only [hg, hb, cond_true] at h ⊢
              exact pvL_run r env _ added h
          · cases h
        · rw [hw] at h
          simp only [cond_true] at h ⊢
          cases hp : pv o (L acc env) with
          | none => rw [hp] at h; cases h
          | some v => rw [hp] at h; exact pvL_run r env _ added h
theorem TL_ad {P : Program} {N : Nd} {we : World} {Se : Nat → Prop} {ms : List MF} {Γ : List FF} {Q : Qs} {ops : Array Oper} (n : Nat) (added : List (Nat × Value)) {l : List Oper} {env : Env}
    (h : pvL N.n ops (l.take n) env [] = some added) (k : TL P N we Se ms Γ ops (l.drop n) Q (L added env)) : TL P N we Se ms Γ ops l Q env := by
  rw [← List.take_append_drop n l]
  exact TL_run_all _ _ _ _ (pvL_run _ env [] added h) k
def cpy {α : Type} (xs ys : List α) : List α := List.take (min ys.length xs.length) ys ++ List.drop (min ys.length xs.length) xs
def cpyAt {α : Type} (lo n : Nat) (xs ys : List α) : List α := List.take lo xs ++ List.take (min ys.length n) ys ++ List.drop (lo + min ys.length n) xs
end
section
set_option maxRecDepth 100000
theorem z2 (S : Nat → Prop) (w : World) : (eI).p S 0 (Value.cells (.int .i64 0)).toList w := ⟨rfl, by decide, by decide⟩
theorem z3 (S : Nat → Prop) (w : World) : (eI).p S 0 (Value.cells (.int .i64 0)).toList w := ⟨rfl, by decide, by decide⟩
end
section
open Go.ChangeShapes Go.WideShapes Go.ChangeAt Go.RowKit
theorem keptBut_ext {W W' : World} (hx : Ext W W') (may : MemPlace → Prop) : W.keptBut W' may := by
  refine ⟨hx.os, hx.output, fun i hi => ?_⟩
  rw [hx.block i hi trivial]
  cases h : W.heap[i]? with
  | none => rfl
  | some o => cases o <;> simp
theorem post_ext {H : Type} {enc : TypeId × Value → H} {P : Program} {f : Func} {s : ChangeSpec} {apart fresh handsOn : Bool} {W W' : World} {args : Array Value} {v : Value} {ds gs : List (DataW H)} {before pa pv : List MemPlace}
    (hW : DataW.Whole enc P f.params.toList s.vars apart W args.toList ds gs before)
    (hres : ∀ (b : Nat) (sp : Nat → Bool) (hd : Bool), DataW.TrodAll enc P W' b sp hd f.resultTypes.toList (v.resultList f.resultTypes.size) (s.fn H (ds ++ gs)).results [])
    (hargs : ∀ sp : Nat → Bool, (∀ p ∈ before, sp p.block = true) → DataW.TrodAll enc P W' 0 sp true f.params.toList args.toList (s.fn H (ds ++ gs)).args pa)
    (hvars : ∀ sp : Nat → Bool, (∀ p ∈ before, sp p.block = true) → DataW.TrodVars enc P W' sp s.vars (s.fn H (ds ++ gs)).vars pv)
    (hps : before = pa ++ pv) (hx : Ext W W') : s.post enc P f apart fresh handsOn false W args v W' :=
  ⟨ds, gs, before, [], pa, pv, hW, hres _ _ _, hargs _ (fun p hp => by simpa using hW.lt p hp), hvars _ (fun p hp => by simpa using hW.lt p hp), keptBut_ext hx _, fun h => by cases h⟩
end
section
theorem allM_app {S : Nat → Prop} {w : World} : ∀ {A B : List MF}, AllM S (A ++ B) w ↔ AllM S A w ∧ AllM S B w
  | [], _ => ⟨fun h => ⟨trivial, h⟩, fun h => h.2⟩
  | a :: A, B => by
    have ih := allM_app (S := S) (w := w) (A := A) (B := B)
    exact ⟨fun h => ⟨⟨h.1, (ih.1 h.2).1⟩, (ih.1 h.2).2⟩, fun h => ⟨h.1.1, ih.2 ⟨h.1.2, h.2⟩⟩⟩
theorem apart_app : ∀ {A B : List MF}, Apart (A ++ B) ↔ Apart A ∧ Apart B ∧ ∀ m ∈ A, ∀ k, m.blk k → ∀ m' ∈ B, ¬ m'.blk k
  | [], B => ⟨fun h => ⟨trivial, h, fun m hm => absurd hm List.not_mem_nil⟩, fun h => h.2.1⟩
  | a :: A, B => by
    have ih := apart_app (A := A) (B := B)
    constructor
    · intro h
      obtain ⟨h1, h2, h3⟩ := ih.1 h.2
      refine ⟨⟨fun k hk m' hm' => h.1 k hk m' (List.mem_append.2 (.inl hm')), h1⟩, h2, fun m hm k hk m' hm' => ?_⟩
      rcases List.mem_cons.1 hm with rfl | hm
      · exact h.1 k hk m' (List.mem_append.2 (.inr hm'))
      · exact h3 m hm k hk m' hm'
    · rintro ⟨⟨h1, h2⟩, h3, h4⟩
      refine ⟨fun k hk m' hm' => ?_, ih.2 ⟨h2, h3, fun m hm => h4 m (List.mem_cons_of_mem _ hm)⟩⟩
      rcases List.mem_append.1 hm' with hm' | hm'
      · exact h1 k hk m' hm'
      · exact h4 a (List.mem_cons_self ..) k hk m' hm'
def mGrp (G : List MF) : MF where
  blk k := ∃ m ∈ G, m.blk k
  p S w := AllM S G w ∧ Apart G
  keep := fun h k hb => ⟨AllM.keep k (fun m hm i hi => hb i ⟨m, hm, hi⟩) h.1, h.2⟩
  sub := fun h k => ⟨AllM.sub k h.1, h.2⟩
  lt := fun h k ⟨m, hm, hk⟩ => AllM.lt h.1 m hm k hk
theorem St.grp {we : World} {Se : Nat → Prop} {G ms : List MF} {Γ : List FF} {w : World} : St we Se (mGrp G :: ms) Γ w ↔ St we Se (G ++ ms) Γ w := by
  constructor
  · rintro ⟨h1, h2, h3, S, h4, h5, h6, h7, h8⟩
    refine ⟨h1, h2, apart_app.2 ⟨h7.1.2, h3.2, fun m hm k hk m' hm' => h3.1 k ⟨m, hm, hk⟩ m' hm'⟩, S, h4, h5, fun m hm k hk => ?_, allM_app.2 ⟨h7.1.1, h7.2⟩, h8⟩
    rcases List.mem_append.1 hm with hm | hm
    · exact h6 (mGrp G) (List.mem_cons_self ..) k ⟨m, hm, hk⟩
    · exact h6 m (List.mem_cons_of_mem _ hm) k hk
  · rintro ⟨h1, h2, h3, S, h4, h5, h6, h7, h8⟩
    obtain ⟨a1, a2, a3⟩ := apart_app.1 h3
    obtain ⟨m1, m2⟩ := allM_app.1 h7
    refine ⟨h1, h2, ⟨fun k hk m' hm' => by obtain ⟨m, hm, hk⟩ := hk; exact a3 m hm k hk m' hm', a2⟩, S, h4, h5, fun m hm k hk => ?_, ⟨⟨m1, a1⟩, m2⟩, h8⟩
    rcases List.mem_cons.1 hm with rfl | hm
    · obtain ⟨m, hm, hk⟩ := hk
      exact h6 m (List.mem_append.2 (.inl hm)) k hk
    · exact h6 m (List.mem_append.2 (.inr hm)) k hk
def eHd (hv : List Value) : ERep Nat where
  n := 1
  agg := false
  n1 _ := rfl
  p _ r cs _ := ∃ u, hv[r]? = some u ∧ u.oneCell' = true ∧ cs = [u]
  len := by rintro _ _ _ _ ⟨u, _, _, rfl⟩; rfl
  one := by rintro _ _ _ _ ⟨u, _, hu, rfl⟩ c hc; rw [List.mem_singleton] at hc; subst hc; exact hu
  keep h _ := h
  sub h _ := h
theorem hd_fV {hv : List Value} {r : Nat} {u : Value} {S : Nat → Prop} {w : World} (h : hv[r]? = some u) (h1 : u.oneCell' = true) : (fV (eHd hv) r u).p S w := ⟨[u], rfl, u, h, h1, rfl⟩
theorem fV_hd {hv : List Value} {r : Nat} {v : Value} {S : Nat → Prop} {w : World} (h : (fV (eHd hv) r v).p S w) : hv[r]? = some v := by
  obtain ⟨cs, rfl, u, h1, _, rfl⟩ := h
  exact h1
theorem elems_hd {hv hv' : List Value} {S : Nat → Prop} {w : World} : ∀ {ix : List Nat} {cs : List Value}, Elems (eHd hv) S ix cs w → Elems (eHd (hv ++ hv')) S ix cs w
  | [], _, h => h
  | r :: ix, cs, ⟨c, q, h1, ⟨u, h2, h3, h4⟩, h5⟩ => ⟨c, q, h1, ⟨u, by rw [List.getElem?_append_left (List.getElem?_eq_some_iff.1 h2).1]; exact h2, h3, h4⟩, elems_hd h5⟩
theorem mO_more {hv hv' : List Value} {E : TypeId} {v : Value} {ix : List Nat} {S : Nat → Prop} {w : World} (h : (mO (eHd hv) E v ix).p S w) : (mO (eHd (hv ++ hv')) E v ix).p S w := by
  obtain ⟨cs, h1, h2⟩ := h
  exact ⟨cs, h1, elems_hd h2⟩
def mRows {α : Type} (e : ERep α) (E : TypeId) : List Value → List (List α) → List MF
  | u :: hv, xs :: xss => mO e E u xs :: mRows e E hv xss
  | _, _ => []
theorem mRows_get {α : Type} {e : ERep α} {E : TypeId} : ∀ {hv : List Value} {xss : List (List α)} {r : Nat} {u : Value} {xs : List α}, hv[r]? = some u → xss[r]? = some xs → (mRows e E hv xss)[r]? = some (mO e E u xs)
  | u' :: hv, xs' :: xss, 0, u, xs, h1, h2 => by
    simp only [List.getElem?_cons_zero, Option.some.injEq] at h1 h2
    subst h1; subst h2; rfl
  | u' :: hv, xs' :: xss, r + 1, u, xs, h1, h2 => mRows_get (hv := hv) (xss := xss) (r := r) (by simpa using h1) (by simpa using h2)
  | [], _, r, _, _, h1, _ => by simp at h1
  | _ :: _, [], r, _, _, _, h2 => by simp at h2
theorem mRows_set {α : Type} {e : ERep α} {E : TypeId} : ∀ {hv : List Value} {xss : List (List α)} {r : Nat} {u : Value} {ys : List α}, hv[r]? = some u → (mRows e E hv xss).set r (mO e E u ys) = mRows e E hv (xss.set r ys)
  | u' :: hv, xs' :: xss, 0, u, ys, h1 => by
    simp only [List.getElem?_cons_zero, Option.some.injEq] at h1
    subst h1; rfl
  | u' :: hv, xs' :: xss, r + 1, u, ys, h1 => by
    show mO e E u' xs' :: (mRows e E hv xss).set r (mO e E u ys) = mO e E u' xs' :: mRows e E hv (xss.set r ys)
    rw [mRows_set (by simpa using h1)]
  | [], _, r, _, _, h1 => by simp at h1
  | u' :: hv, [], r, u, ys, h1 => by cases r <;> rfl
theorem mRows_snoc {α : Type} {e : ERep α} {E : TypeId} {u : Value} {xs : List α} : ∀ {hv : List Value} {xss : List (List α)}, hv.length = xss.length → mRows e E (hv ++ [u]) (xss ++ [xs]) = mRows e E hv xss ++ [mO e E u xs]
  | [], [], _ => rfl
  | u' :: hv, xs' :: xss, h => by
    show mO e E u' xs' :: mRows e E (hv ++ [u]) (xss ++ [xs]) = _
    rw [mRows_snoc (by simpa using h)]; rfl
  | [], _ :: _, h => by cases h
  | _ :: _, [], h => by cases h
def mMat {α : Type} (e : ERep α) (E E1 : TypeId) (v : Value) (hv : List Value) (xss : List (List α)) (ix : List Nat) : MF := mGrp (mO (eHd hv) E v ix :: mRows e E1 hv xss)
section
variable {α : Type} {e : ERep α} {E E1 : TypeId} {v : Value} {hv : List Value} {xss : List (List α)} {ix : List Nat} {we : World} {Se : Nat → Prop} {ms : List MF} {Γ : List FF} {w : World}
theorem mat_row {r : Nat} {u : Value} {xs : List α} (h1 : hv[r]? = some u) (h2 : xss[r]? = some xs) (ms : List MF) : ((mO (eHd hv) E v ix :: mRows e E1 hv xss) ++ ms)[r + 1]? = some (mO e E1 u xs) := by grind [mRows_get, List.getElem?_append_left, List.getElem?_eq_some_iff]
theorem mat_row_set {r : Nat} {u : Value} {ys : List α} (h1 : hv[r]? = some u) (h2 : r < xss.length) (hl : hv.length = xss.length) (ms : List MF) : ((mO (eHd hv) E v ix :: mRows e E1 hv xss) ++ ms).set (r + 1) (mO e E1 u ys) = (mO (eHd hv) E v ix :: mRows e E1 hv (xss.set r ys)) ++ ms := by
  have h3 : xss[r]? = some xss[r] := List.getElem?_eq_getElem h2
  have h := mRows_get (e := e) (E := E1) h1 h3
  have h4 := (List.getElem?_eq_some_iff.1 h).1
  rw [List.set_append_left _ _ (by simpa using h4), List.set_cons_succ, mRows_set h1]
theorem St.adopt {u : Value} {ys : List α} (hl : hv.length = xss.length) (h : St we Se (mMat e E E1 v hv xss ix :: mO e E1 u ys :: ms) Γ w) : St we Se (mMat e E E1 v (hv ++ [u]) (xss ++ [ys]) ix :: ms) Γ w := by
  have h1 := St.grp.1 h
  have h2 : St we Se ((mO (eHd hv) E v ix :: mRows e E1 (hv ++ [u]) (xss ++ [ys])) ++ ms) Γ w := by
    rw [mRows_snoc hl]
    refine h1.perm ?_
    simp only [List.cons_append, List.append_assoc, List.singleton_append, List.nil_append]
    exact List.Perm.refl _
  have h3 := h2.conv (i := 0) (m := mO (eHd hv) E v ix) (m' := mO (eHd (hv ++ [u])) E v ix) rfl rfl fun S hp => mO_more hp
  exact St.grp.2 h3
theorem mRows_fV {S S' : Nat → Prop} (hs : ∀ k, S k → S' k) (hb : ∀ m ∈ mRows e E1 hv xss, ∀ k, m.blk k → S' k) (h : AllM S (mRows e E1 hv xss) w) {r : Nat} {u : Value} {xs : List α} (h1 : hv[r]? = some u) (h2 : xss[r]? = some xs) : (fV (eS e) xs u).p S' w :=
  mO_slice hs (fun k hk => hb _ (List.mem_of_getElem? (mRows_get h1 h2)) k hk) (AllM.get h (mRows_get h1 h2))
theorem elems_mat {S S' : Nat → Prop} (hl : hv.length = xss.length) (hs : ∀ k, S k → S' k) (hb : ∀ m ∈ mRows e E1 hv xss, ∀ k, m.blk k → S' k) (h : AllM S (mRows e E1 hv xss) w) : ∀ {ix : List Nat} {cs : List Value}, Elems (eHd hv) S ix cs w → Elems (eS e) S' (ix.map fun r => xss.getD r []) cs w
  | [], _, h => h
  | r :: ix, cs, ⟨c, q, h1, ⟨u, h2, h3, h4⟩, h5⟩ => by
    have h6 := (List.getElem?_eq_some_iff.1 h2).1
    have h7 : xss[r]? = some (xss.getD r []) := by
      rw [List.getD_eq_getElem?_getD, List.getElem?_eq_getElem (by omega)]; rfl
    exact ⟨c, q, h1, ⟨u, h4, fV_slice.1 (mRows_fV hs hb h h2 h7)⟩, elems_mat hl hs hb h h5⟩
theorem St.mat_frz (hl : hv.length = xss.length) (h : St we Se (mMat e E E1 v hv xss ix :: ms) Γ w) : St we Se ms (fV (eS (eS e)) (ix.map fun r => xss.getD r []) v :: Γ) w := by
  refine h.freeze (i := 0) (m := mMat e E E1 v hv xss ix) rfl fun S S' hs hb hp => ?_
  obtain ⟨⟨⟨cs, h1, h2⟩, h3⟩, _⟩ := hp
  have hb1 : ∀ m ∈ mRows e E1 hv xss, ∀ k, m.blk k → S' k := fun m hm k hk => hb k ⟨m, List.mem_cons_of_mem _ hm, hk⟩
  have h4 : (mO (eS e) E v (ix.map fun r => xss.getD r [])).p S' w := ⟨cs, by rw [List.length_map]; exact h1, elems_mat hl hs hb1 h3 h2⟩
  exact mO_slice (fun k hk => hk) (fun k hk => hb k ⟨_, List.mem_cons_self .., hk⟩) h4
end
def mPr (p : Prop) : MF where
  blk _ := False
  p _ _ := p
  keep h _ _ := h
  sub h _ := h
  lt _ _ hk := hk.elim
def outW : Value → Value
  | .tuple us => us.toList.headD undef
  | _ => undef
def hvW : Value → List Value
  | .tuple us => us.toList.tail
  | _ => []
def tupW (v : Value) (hv : List Value) : Value := .tuple (v :: hv).toArray
def mMt {α : Type} (e : ERep α) (E E1 : TypeId) (u : Value) (xss : List (List α)) (ix : List Nat) : MF := mGrp (mPr ((hvW u).length = xss.length) :: mO (eHd (hvW u)) E (outW u) ix :: mRows e E1 (hvW u) xss)
def mBo {α : Type} (e : ERep α) (E E0 : TypeId) (u : Value) (xs : List α) : MF := mGrp [mPr ((hvW u).length = 1), mP (eHd (hvW u)).c E0 (outW u) 0, mO e E ((hvW u).headD undef) xs]
def mHo (E0 : TypeId) (u : Value) : MF := mGrp [mPr ((hvW u).length = 1), mP (eHd (hvW u)).c E0 (outW u) 0]
end
section
def oP {α : Type} (e : ERep α) (S : Nat → Prop) : Option α → List Value → World → Prop
  | none, cs, _ => cs = [.pointer none]
  | some y, cs, w => ∃ v, cs = [v] ∧ (fP e y v).p S w
def eO {α : Type} (e : ERep α) : ERep (Option α) where
  n := 1
  agg := false
  n1 _ := rfl
  p S x cs w := oP e S x cs w
  len := by
    intro S x cs w h
    cases x with
    | none => rw [show cs = _ from h]; rfl
    | some y => obtain ⟨v, rfl, _⟩ := h; rfl
  one := by
    intro S x cs w h c hc
    cases x with
    | none => rw [show cs = _ from h] at hc; rw [List.mem_singleton.1 hc]; rfl
    | some y => obtain ⟨v, rfl, b, o, cs', rfl, _⟩ := h; rw [List.mem_singleton.1 hc]; rfl
  keep := by
    intro S x cs w w' h k
    cases x with
    | none => exact h
    | some y => obtain ⟨v, h1, h2⟩ := h; exact ⟨v, h1, (fP e y v).keep h2 k⟩
  sub := by
    intro S S' x cs w h k
    cases x with
    | none => exact h
    | some y => obtain ⟨v, h1, h2⟩ := h; exact ⟨v, h1, (fP e y v).sub h2 k⟩
section
variable {α : Type} {e : ERep α} {S : Nat → Prop} {w : World} {v : Value}
theorem fV_np (h : (fV (eO e) none v).p S w) : v = .pointer none := by
  obtain ⟨cs, rfl, h⟩ := h; rw [show cs = _ from h]; rfl
theorem np_fV : (fV (eO e) none (.pointer none)).p S w := ⟨[.pointer none], rfl, rfl⟩
theorem fV_sp {y : α} (h : (fV (eO e) (some y) v).p S w) : (fP e y v).p S w := by
  obtain ⟨cs, rfl, v, rfl, h⟩ := h; exact h
theorem sp_fV {y : α} (h : (fP e y v).p S w) : (fV (eO e) (some y) v).p S w := ⟨[v], rfl, v, rfl, h⟩
theorem fV_ptr {x : Option α} (h : (fV (eO e) x v).p S w) : ∃ p, v = .pointer p ∧ p.isNone = x.isNone := by
  cases x with
  | none => exact ⟨_, fV_np h, rfl⟩
  | some y => obtain ⟨b, o, cs, h1, _⟩ := fV_sp h; exact ⟨_, h1, rfl⟩
end
def eW {α : Type} (e : ERep α) : ERep α where
  n := e.n
  agg := true
  n1 h := by cases h
  p := e.p
  len := e.len
  one := e.one
  keep := e.keep
  sub := e.sub
theorem Sub.wrap {α : Type} (e : ERep α) (x : α) : Sub (eW e).c x 0 e x id := fun S w cs h => Sub.self e x S w cs h
def cHo {α : Type} (e : ERep α) (off : Nat) (nl : α → α) (hv : List Value) : CRep (α × Nat) where
  p S z cs w := ∃ u, hv[z.2]? = some u ∧ u.oneCell' = true ∧ cs[off]? = some u ∧ e.p S (nl z.1) (cs.set off (.slice none 0 0)) w
  keep := fun ⟨u, h1, h2, h3, h4⟩ k => ⟨u, h1, h2, h3, e.keep h4 k⟩
  sub := fun ⟨u, h1, h2, h3, h4⟩ k => ⟨u, h1, h2, h3, e.sub h4 k⟩
def mVr {α β : Type} (q : Prop) (e : ERep α) (E off : Nat) (nl : α → α) (s : ERep β) (E1 : TypeId) (u : Value) (z : α) (xs : List β) : MF := mGrp [mPr ((hvW u).length = 1 ∧ q), mP (cHo e off nl (hvW u)) E (outW u) (z, 0), mO s E1 ((hvW u).headD undef) xs]
def mVh {α : Type} (q : Prop) (e : ERep α) (E off : Nat) (nl : α → α) (u : Value) (z : α) : MF := mGrp [mPr ((hvW u).length = 1 ∧ q), mP (cHo e off nl (hvW u)) E (outW u) (z, 0)]
def eRw (n : Nat) (ag : Bool) (hn : ag = false → n = 1) : ERep (Option (List Value)) where
  n := n
  agg := ag
  n1 := hn
  p _ x cs _ := cs.length = n ∧ (∀ c ∈ cs, c.oneCell' = true) ∧ ∀ l, x = some l → cs = l
  len h := h.1
  one h := h.2.1
  keep h _ := h
  sub h _ := h
section
variable {α β γ : Type} {e : ERep α} {s : ERep β} {g : ERep γ} {off o : Nat} {nl : α → α} {hv hv' : List Value} {S : Nat → Prop} {w : World} {cs : List Value}
theorem ho_raw {z : α × Nat} (h : (cHo e off nl hv).p S z cs w) : (eRw e.n e.agg e.n1).p S none cs w := by
  obtain ⟨u, h1, h2, h3, h4⟩ := h
  have hl := e.len h4
  rw [List.length_set] at hl
  refine ⟨hl, fun c hc => ?_, fun l hl => by cases hl⟩
  obtain ⟨k, hk⟩ := List.mem_iff_getElem?.1 hc
  by_cases e1 : k = off
  · subst e1; rw [h3] at hk; cases hk; exact h2
  · refine e.one h4 c (List.mem_iff_getElem?.2 ⟨k, ?_⟩)
    rw [List.getElem?_set_ne (Ne.symm e1)]; exact hk
theorem fV_raw {x : α} {v : Value} (h : (fV e x v).p S w) : (fV (eRw e.n e.agg e.n1) (some v.cells.toList) v).p S w := by
  have h1 := fV_cells h
  obtain ⟨cs, rfl, h2⟩ := h
  refine ⟨cs, rfl, e.len h2, e.one h2, fun l hl => ?_⟩
  cases hl
  exact (e.val_cells h2).symm
theorem ho_more {z : α × Nat} (h : (cHo e off nl hv).p S z cs w) : (cHo e off nl (hv ++ hv')).p S z cs w := by
  obtain ⟨u, h1, h2⟩ := h
  exact ⟨u, by rw [List.getElem?_append_left (List.getElem?_eq_some_iff.1 h1).1]; exact h1, h2⟩
theorem ho_at {z : α} {r r' : Nat} (he : hv[r]? = hv'[r']?) (h : (cHo e off nl hv).p S (z, r) cs w) : (cHo e off nl hv').p S (z, r') cs w := by
  obtain ⟨u, h1, h2⟩ := h
  exact ⟨u, he ▸ h1, h2⟩
theorem Sub.hole {z : α} {r : Nat} : Sub (cHo e off nl hv) (z, r) off (eHd hv) r (fun r' => (z, r')) := by
  rintro S w cs ⟨u, h1, h2, h3, h4⟩
  obtain ⟨hlt, h5⟩ := List.getElem?_eq_some_iff.1 h3
  refine ⟨cs.take off, [u], cs.drop (off + 1), ?_, by rw [List.length_take]; omega, ⟨u, h1, h2, rfl⟩, ?_⟩
  · rw [← h5]; simp
  · rintro w' r' c' k ⟨u', h6, h7, rfl⟩
    have hl : (cs.take off).length = off := by rw [List.length_take]; omega
    refine ⟨u', h6, h7, ?_, ?_⟩
    · rw [List.append_assoc, List.getElem?_append_right (by omega), hl]; simp
    · have e1 : (cs.take off ++ [u'] ++ cs.drop (off + 1)).set off (.slice none 0 0) = cs.set off (.slice none 0 0) := by
        have e2 : cs.set off (.slice none 0 0) = cs.take off ++ .slice none 0 0 :: cs.drop (off + 1) := by rw [List.set_eq_take_append_cons_drop, if_pos hlt]
        rw [e2, List.append_assoc, List.set_append_right _ _ (by omega), hl, Nat.sub_self]; rfl
      rw [e1]; exact e.keep h4 k
theorem Sub.other {z : α} {r : Nat} {y : γ} {up : γ → α} (h : Sub e.c (nl z) o g y fun y => nl (up y)) (hd : o + g.n ≤ off ∨ off + 1 ≤ o) : Sub (cHo e off nl hv) (z, r) o g y (fun y => (up y, r)) := by
  rintro S w cs ⟨u, h1, h2, h3, h4⟩
  obtain ⟨pre, c, post, h5, h6, h7, h8⟩ := h S w _ h4
  obtain ⟨hlt, h9⟩ := List.getElem?_eq_some_iff.1 h3
  have hcn := g.len h7
  have hcs : cs = (cs.set off (.slice none 0 0)).set off u := by rw [List.set_set, ← h9, List.set_getElem_self]
  rcases hd with hd | hd
  · have hle : off - (pre ++ c).length < post.length := by
      have : (cs.set off (.slice none 0 0)).length = cs.length := List.length_set
      rw [h5, List.length_append] at this
      rw [List.length_append] at this ⊢
      omega
    have hpc : (pre ++ c).length ≤ off := by rw [List.length_append]; omega
    refine ⟨pre, c, post.set (off - (pre ++ c).length) u, ?_, h6, h7, ?_⟩
    · rw [hcs, h5, List.set_append_right _ _ hpc]
    · intro w' y' c' k h'
      have h10 := h8 w' y' c' k h'
      have hcn' := g.len h'
      have hl' : (pre ++ c').length = (pre ++ c).length := by rw [List.length_append, List.length_append, hcn, hcn']
      refine ⟨u, h1, h2, ?_, ?_⟩
      · rw [List.getElem?_append_right (by omega), hl', List.getElem?_set_self hle]
      · have : (pre ++ c' ++ post.set (off - (pre ++ c).length) u).set off (.slice none 0 0) = pre ++ c' ++ post := by
          rw [List.set_append_right _ _ (by omega), hl', List.set_set]
          have hp : post[off - (pre ++ c).length]? = some (.slice none 0 0) := by
            have := congrArg (fun l : List Value => l[off]?) h5
            simp only [List.getElem?_set_self hlt] at this
            rw [List.getElem?_append_right hpc] at this
            exact this.symm
          obtain ⟨_, hp⟩ := List.getElem?_eq_some_iff.1 hp
          rw [← hp, List.set_getElem_self]
        rw [this]; exact h10
  · have ho : off < pre.length := by omega
    refine ⟨pre.set off u, c, post, ?_, by rw [List.length_set]; exact h6, h7, ?_⟩
    · rw [hcs, h5, List.append_assoc, List.set_append_left _ _ ho, List.append_assoc]
    · intro w' y' c' k h'
      have h10 := h8 w' y' c' k h'
      refine ⟨u, h1, h2, ?_, ?_⟩
      · rw [List.append_assoc, List.getElem?_append_left (by rw [List.length_set]; exact ho), List.getElem?_set_self ho]
      · have : (pre.set off u ++ c' ++ post).set off (.slice none 0 0) = pre ++ c' ++ post := by
          rw [List.append_assoc, List.set_append_left _ _ (by rw [List.length_set]; exact ho), List.set_set]
          have hp : pre[off]? = some (.slice none 0 0) := by
            have := congrArg (fun l : List Value => l[off]?) h5
            simp only [List.getElem?_set_self hlt] at this
            rw [List.append_assoc, List.getElem?_append_left ho] at this
            exact this.symm
          obtain ⟨_, hp⟩ := List.getElem?_eq_some_iff.1 hp
          rw [← hp, List.set_getElem_self, List.append_assoc]
        rw [this]; exact h10
end
end
inductive Tr
  | nil
  | mk (op : Nat) (num : List Nat) (nam : Nat) (n : Int) (l r : Tr)
abbrev TrD := Nat × List Nat × Nat × Int × Tr × Tr
def Tr.un (y : TrD) : Tr := .mk y.1 y.2.1 y.2.2.1 y.2.2.2.1 y.2.2.2.2.1 y.2.2.2.2.2
def Tr.opt : Tr → Option TrD
  | .nil => none
  | .mk a m c i l r => some (a, m, c, i, l, r)
def Tr.isNil : Tr → Bool
  | .nil => true
  | .mk .. => false
def eCh : ERep Nat where
  n := 1
  agg := false
  n1 _ := rfl
  p _ x cs _ := cs = [.int .u8 (x : Int)] ∧ x < 256
  len h := by simp [h.1]
  one h := by intro c hc; rw [h.1] at hc; simp at hc; subst hc; rfl
  keep h _ := h
  sub h _ := h
def bytesN (s : ByteArray) : List Nat := s.data.toList.map UInt8.toNat
def eTx : ERep (List Nat) where
  n := 1
  agg := false
  n1 _ := rfl
  p _ x cs _ := ∃ s : ByteArray, cs = [.string s] ∧ bytesN s = x ∧ s.size ≤ 9223372036854775807
  len := by rintro _ _ _ _ ⟨s, rfl, _⟩; rfl
  one := by rintro _ _ _ _ ⟨s, rfl, _⟩ c hc; simp at hc; subst hc; rfl
  keep h _ := h
  sub h _ := h
theorem fV_ch {x : Nat} {v : Value} {S : Nat → Prop} {w : World} (h : (fV eCh x v).p S w) : v = .int .u8 (x : Int) ∧ x < 256 := by
  obtain ⟨cs, rfl, rfl, h⟩ := h; exact ⟨rfl, h⟩
theorem ch_fV {x : Nat} {S : Nat → Prop} {w : World} (h : x < 256) : (fV eCh x (.int .u8 (x : Int))).p S w := ⟨_, rfl, rfl, h⟩
theorem fV_tx {x : List Nat} {v : Value} {S : Nat → Prop} {w : World} (h : (fV eTx x v).p S w) : ∃ s : ByteArray, v = .string s ∧ bytesN s = x ∧ s.size ≤ 9223372036854775807 := by
  obtain ⟨cs, rfl, s, rfl, h1, h2⟩ := h; exact ⟨s, rfl, h1, h2⟩
theorem tx_fV {s : ByteArray} {x : List Nat} {S : Nat → Prop} {w : World} (h : bytesN s = x) (h2 : s.size ≤ 9223372036854775807) : (fV eTx x (.string s)).p S w := ⟨_, rfl, s, rfl, h, h2⟩
theorem bytesN_len (s : ByteArray) : (bytesN s).length = s.size := by simp_all [bytesN]
def eEr : ERep Bool where
  n := 1
  agg := false
  n1 _ := rfl
  p _ x cs _ := (x = false ∧ cs = [.nilIface]) ∨ (x = true ∧ ∃ T v, cs = [.iface T v])
  len := by rintro _ _ _ _ (⟨_, rfl⟩ | ⟨_, _, _, rfl⟩) <;> rfl
  one := by rintro _ _ _ _ (⟨_, rfl⟩ | ⟨_, _, _, rfl⟩) c hc <;> (rw [List.mem_singleton.1 hc]; rfl)
  keep h _ := h
  sub h _ := h
theorem fV_er {x : Bool} {v : Value} {S : Nat → Prop} {w : World} (h : (fV eEr x v).p S w) : (x = false ∧ v = .nilIface) ∨ (x = true ∧ ∃ T u, v = .iface T u) := by
  obtain ⟨cs, rfl, ⟨rfl, rfl⟩ | ⟨rfl, T, u, rfl⟩⟩ := h
  · exact .inl ⟨rfl, rfl⟩
  · exact .inr ⟨rfl, T, u, rfl⟩
theorem er_fV {S : Nat → Prop} {w : World} : (fV eEr false .nilIface).p S w := ⟨[.nilIface], rfl, .inl ⟨rfl, rfl⟩⟩
def trP (S : Nat → Prop) : Tr → List Value → World → Prop
  | .nil, cs, _ => cs = [.pointer none]
  | .mk a m c i l r, cs, w => ∃ b o c1 c2 c3 c4 c5 c6, cs = [.pointer (some ⟨b, o, none⟩)] ∧ S b ∧ At w b o (c1 ++ (c2 ++ (c3 ++ (c4 ++ (c5 ++ c6))))) ∧
    eCh.p S a c1 w ∧ (eS eU).p S m c2 w ∧ eCh.p S c c3 w ∧ eI.p S i c4 w ∧ trP S l c5 w ∧ trP S r c6 w
theorem trP_keep {S : Nat → Prop} {w w' : World} (k : Keeps S w w') : ∀ {x : Tr} {cs : List Value}, trP S x cs w → trP S x cs w'
  | .nil, _, h => h
  | .mk .., _, ⟨b, o, c1, c2, c3, c4, c5, c6, h, hb, ha, h1, h2, h3, h4, h5, h6⟩ =>
    ⟨b, o, c1, c2, c3, c4, c5, c6, h, hb, ha.keep hb k, eCh.keep h1 k, (eS eU).keep h2 k, eCh.keep h3 k, eI.keep h4 k, trP_keep k h5, trP_keep k h6⟩
theorem trP_sub {S S' : Nat → Prop} {w : World} (k : ∀ k, k < w.heap.size → S k → S' k) : ∀ {x : Tr} {cs : List Value}, trP S x cs w → trP S' x cs w
  | .nil, _, h => h
  | .mk .., _, ⟨b, o, c1, c2, c3, c4, c5, c6, h, hb, ha, h1, h2, h3, h4, h5, h6⟩ =>
    ⟨b, o, c1, c2, c3, c4, c5, c6, h, k b ha.1 hb, ha, eCh.sub h1 k, (eS eU).sub h2 k, eCh.sub h3 k, eI.sub h4 k, trP_sub k h5, trP_sub k h6⟩
def eTr : ERep Tr where
  n := 1
  agg := false
  n1 _ := rfl
  p := trP
  len := by
    intro S x cs w h
    cases x with
    | nil => rw [show cs = _ from h]; rfl
    | mk => obtain ⟨b, o, c1, c2, c3, c4, c5, c6, rfl, _⟩ := h; rfl
  one := by
    intro S x cs w h c hc
    cases x with
    | nil => rw [show cs = _ from h] at hc; rw [List.mem_singleton.1 hc]; rfl
    | mk => obtain ⟨b, o, c1, c2, c3, c4, c5, c6, rfl, _⟩ := h; rw [List.mem_singleton.1 hc]; rfl
  keep h k := trP_keep k h
  sub h k := trP_sub k h
abbrev eTd : ERep TrD := eP eCh (eP (eS eU) (eP eCh (eP eI (eP eTr eTr))))
theorem fV_tn {v : Value} {S : Nat → Prop} {w : World} (h : (fV eTr .nil v).p S w) : v = .pointer none := by
  obtain ⟨cs, rfl, h⟩ := h; rw [show cs = _ from h]; rfl
theorem tn_fV {S : Nat → Prop} {w : World} : (fV eTr .nil (.pointer none)).p S w := ⟨[.pointer none], rfl, rfl⟩
theorem fV_tr {x : Tr} {y : TrD} {v : Value} {S : Nat → Prop} {w : World} (hx : x.opt = some y) (h : (fV eTr x v).p S w) : (fP eTd y v).p S w := by
  cases x with
  | nil => cases hx
  | mk a m c i l r =>
    cases hx
    obtain ⟨cs, rfl, b, o, c1, c2, c3, c4, c5, c6, rfl, hb, ha, h1, h2, h3, h4, h5, h6⟩ := h
    exact ⟨b, o, _, rfl, hb, ha, c1, _, rfl, h1, c2, _, rfl, h2, c3, _, rfl, h3, c4, _, rfl, h4, c5, _, rfl, h5, h6⟩
theorem tr_fV {y : TrD} {v : Value} {S : Nat → Prop} {w : World} (h : (fP eTd y v).p S w) : (fV eTr (Tr.un y) v).p S w := by
  obtain ⟨b, o, _, rfl, hb, ha, c1, _, rfl, h1, c2, _, rfl, h2, c3, _, rfl, h3, c4, _, rfl, h4, c5, c6, rfl, h5, h6⟩ := h
  exact ⟨[_], rfl, b, o, c1, c2, c3, c4, c5, c6, rfl, hb, ha, h1, h2, h3, h4, h5, h6⟩
theorem fV_tp {x : Tr} {v : Value} {S : Nat → Prop} {w : World} (h : (fV eTr x v).p S w) : ∃ p, v = .pointer p ∧ p.isNone = x.isNil := by
  cases x with
  | nil => exact ⟨_, fV_tn h, rfl⟩
  | mk => obtain ⟨cs, rfl, b, o, c1, c2, c3, c4, c5, c6, rfl, _⟩ := h; exact ⟨_, rfl, rfl⟩
inductive Ty
  | i
  | u
  | b
  | l (t : Ty)
  | p (s t : Ty)
  | a (k : Nat) (t : Ty)
  | ch
  | tx
  | po (t : Ty)
  | w1 (t : Ty)
  | tr
  | er
def Ty.D : Ty → Type
  | .i => Int
  | .u => Nat
  | .b => Bool
  | .l t => List t.D
  | .p s t => s.D × t.D
  | .a _ t => List t.D
  | .ch => Nat
  | .tx => List Nat
  | .po t => Option t.D
  | .w1 t => t.D
  | .tr => Tr
  | .er => Bool
def Ty.rep : (t : Ty) → ERep t.D
  | .i => eI
  | .u => eU
  | .b => eBool
  | .l t => eS t.rep
  | .p s t => eP s.rep t.rep
  | .a k t => eA k t.rep
  | .ch => eCh
  | .tx => eTx
  | .po t => eO t.rep
  | .w1 t => eW t.rep
  | .tr => eTr
  | .er => eEr
def Ty.z : (t : Ty) → t.D
  | .i => (0 : Int)
  | .u => (0 : Nat)
  | .b => false
  | .l t => ([] : List t.D)
  | .p s t => (s.z, t.z)
  | .a k t => List.replicate k t.z
  | .ch => (0 : Nat)
  | .tx => ([] : List Nat)
  | .po t => (none : Option t.D)
  | .w1 t => t.z
  | .tr => Tr.nil
  | .er => false
abbrev trT : Ty := .p .ch (.p (.l .u) (.p .ch (.p .i (.p .tr .tr))))
def Ty.n : Ty → Nat
  | .p s t => s.n + t.n
  | .a k t => k * t.n
  | .w1 t => t.n
  | _ => 1
theorem Ty.n_rep : ∀ t : Ty, t.rep.n = t.n
  | .i => rfl
  | .u => rfl
  | .b => rfl
  | .l _ => rfl
  | .ch => rfl
  | .tx => rfl
  | .p s t => by show s.rep.n + t.rep.n = _; rw [Ty.n_rep s, Ty.n_rep t]; rfl
  | .a k t => by show k * t.rep.n = _; rw [Ty.n_rep t]; rfl
  | .po _ => rfl
  | .w1 t => Ty.n_rep t
  | .tr => rfl
  | .er => rfl
def Ty.same : (s t : Ty) → Option (PLift (s = t))
  | .i, .i => some ⟨rfl⟩
  | .u, .u => some ⟨rfl⟩
  | .b, .b => some ⟨rfl⟩
  | .ch, .ch => some ⟨rfl⟩
  | .tx, .tx => some ⟨rfl⟩
  | .tr, .tr => some ⟨rfl⟩
  | .er, .er => some ⟨rfl⟩
  | .l s, .l t => match Ty.same s t with
    | some ⟨h⟩ => some ⟨congrArg Ty.l h⟩
    | none => none
  | .p s t, .p s' t' => match Ty.same s s', Ty.same t t' with
    | some ⟨h⟩, some ⟨h'⟩ => some ⟨h ▸ h' ▸ rfl⟩
    | _, _ => none
  | .a k s, .a k' t => if hk : k = k' then (match Ty.same s t with
    | some ⟨h⟩ => some ⟨hk ▸ h ▸ rfl⟩
    | none => none) else none
  | .po s, .po t => match Ty.same s t with
    | some ⟨h⟩ => some ⟨congrArg Ty.po h⟩
    | none => none
  | .w1 s, .w1 t => match Ty.same s t with
    | some ⟨h⟩ => some ⟨congrArg Ty.w1 h⟩
    | none => none
  | _, _ => none
def Ty.cast {R : Type} (s t : Ty) (x : s.D) (k : t.D → Option R) : Option R := match Ty.same s t with
  | some ⟨h⟩ => k (h ▸ x)
  | none => none
def TsD : List Ty → Type
  | [] => Unit
  | t :: r => t.D × TsD r
def CsD : List Ty → Type
  | [] => Unit
  | [t] => t.D
  | t :: s :: r => t.D × CsD (s :: r)
structure Fl (α : Type) where
  off : Nat
  f : Ty
  get : α → f.D
  set : f.D → α → α
def Fl.self (t : Ty) : Fl t.D := ⟨0, t, id, fun y _ => y⟩
def offL {α : Type} (f : Option (Fl α)) : Nat := match f with
  | some f => f.off
  | none => 0
def putL {α : Type} (s : Ty) (f : Option (Fl α)) (xs : List s.D) (z : α) : α := match f with
  | some ⟨_, .l s', _, st⟩ => (match Ty.same s s' with
    | some ⟨h⟩ => st (h ▸ xs) z
    | none => z)
  | _ => z
def Fl.comp {α : Type} (a : Fl α) (c : Fl a.f.D) : Fl α := ⟨a.off + c.off, c.f, fun z => c.get (a.get z), fun y z => a.set (c.set y (a.get z)) z⟩
def fld : (k : Nat) → (t : Ty) → (i : Nat) → Option (Fl t.D)
  | 0, .w1 t, 0 => some ⟨0, t, fun z => z, fun y _ => y⟩
  | 0, _, _ => none
  | 1, t, i => bif Nat.beq i 0 then some (Fl.self t) else none
  | k + 2, .p s t, 0 => some ⟨0, s, fun z => z.1, fun y z => (y, z.2)⟩
  | k + 2, .p s t, i + 1 => match fld (k + 1) t i with
    | some f => some ⟨s.n + f.off, f.f, fun z => f.get z.2, fun y z => (z.1, f.set y z.2)⟩
    | none => none
  | _, _, _ => none
structure PD where
  t : Ty
  x : t.D
def YSpec (PP : Program) (l : Nat) {α X Y : Type} (e : ERep α) (E : TypeId) (mX : X → Value → MF) (mY : Y → Value → MF) (g : List α → X → Option (List α × (X ⊕ Y))) : Prop :=
  ∀ ys x ys' r, g ys x = some (ys', r) → ∀ (v u : Value) we Se F G w, St we Se (mX x u :: mO e E v ys :: F) G w →
    YieldAt Fence.wide 0 PP l #[v] w fun q w' => q = .returned (.bool r.isLeft) ∧ ∃ u', St we Se (Sum.elim (fun x => mX x u') (fun y => mY y u') r :: mO e E v ys' :: F) G w'
def lOf : Value → Nat
  | .int _ x => x.toNat
  | _ => 0
inductive Dv
  | d (t : Ty) (x : t.D)
  | q (t : Ty) (x : t.D)
  | kb (b : Bool)
  | un
  | nil
  | ow (o : Nat)
  | ep (o : Nat) (t : Ty) (j : Nat) (f : Fl t.D)
  | sv (o : Nat) (t : Ty) (lo n : Nat)
  | vs (o : Nat) (t : Ty)
  | vp (o : Nat) (t : Ty) (f : Fl t.D)
  | fn (f : FuncId) (c : List PD)
  | fp (dom cod : List Ty) (g : TsD dom → Option (CsD cod))
  | pin (v : Value)
  | mw (o : Nat)
  | mv (o lo n : Nat)
  | hp (o j : Nat)
  | rw (o r : Nat)
  | rp (o : Nat) (t : Ty) (r j : Nat) (f : Fl t.D)
  | yd (o : Nat)
  | np
  | vf (o : Nat) (t : Ty) (n i : Nat)
  | bm (f : FuncId) (o : Nat) (t : Ty)
  | dz (t : Ty) (x : t.D) (n i : Nat)
  | ifc (q : PX)
  | ni
inductive Od
  | own (t : Ty) (E : TypeId) (xs : List t.D)
  | var (t : Ty) (E : TypeId) (z : t.D)
  | mat (t : Ty) (E E1 : TypeId) (xss : List (List t.D)) (ix : List Nat)
  | bo (t : Ty) (E E0 : TypeId) (xs : List t.D)
  | ho (E0 : TypeId)
  | vr (t : Ty) (E : TypeId) (s : Ty) (E1 : TypeId) (n i : Nat) (z : t.D) (xs : List s.D)
  | vh (t : Ty) (E : TypeId) (s : Ty) (E1 : TypeId) (n i : Nat) (z : t.D)
  | hid (t : Ty) (E : TypeId) (X Y : Type) (mX : X → Value → MF) (mY : Y → Value → MF) (g : List t.D → X → Option (List t.D × (X ⊕ Y))) (x : X)
  | hiy (Y : Type) (mY : Y → Value → MF) (y : Y)
structure Sg where
  nx : Nat
  rg : List (Nat × Nat × Dv)
  ob : List (Nat × Od)
def fnd : List (Nat × Nat × Dv) → Nat → Nat → Option Dv
  | [], _, _ => none
  | (t', i', d) :: r, t, i => bif Nat.beq t' t && Nat.beq i' i then some d else fnd r t i
def fndO : List (Nat × Od) → Nat → Option Od
  | [], _ => none
  | (o', x) :: r, o => bif Nat.beq o' o then some x else fndO r o
def get (cx σ : Sg) (t i : Nat) : Option Dv := match fnd σ.rg t i with
  | some d => some d
  | none => fnd cx.rg t i
def geto (cx σ : Sg) (o : Nat) : Option Od := match fndO σ.ob o with
  | some d => some d
  | none => fndO cx.ob o
def has (l : List Nat) (t : Nat) : Bool := l.any (Nat.beq t)
def notIn (rg : List (Nat × Nat × Dv)) (t : Nat) : Bool := rg.all fun e => !Nat.beq e.1 t
def dels (rg : List (Nat × Nat × Dv)) (t : Nat) : List (Nat × Nat × Dv) := rg.filter fun e => !Nat.beq e.1 t
def delo : List (Nat × Od) → Nat → List (Nat × Od)
  | [], _ => []
  | (o', y) :: r, o => bif Nat.beq o' o then r else (o', y) :: delo r o
def seto : List (Nat × Od) → Nat → Od → List (Nat × Od)
  | [], _, _ => []
  | (o', y) :: r, o, x => bif Nat.beq o' o then (o', x) :: r else (o', y) :: seto r o x
def putR (rg : List (Nat × Nat × Dv)) (d : Option Tmp) (l : List (Nat × Dv)) : List (Nat × Nat × Dv) := match d with
  | some t => l.map (fun e => (t, e.1, e.2)) ++ dels rg t
  | none => rg
def okPut (cx : Sg) (d : Option Tmp) : Bool := match d with
  | some t => notIn cx.rg t
  | none => true
def Sg.put (σ : Sg) (d : Option Tmp) (l : List (Nat × Dv)) : Sg := ⟨σ.nx, putR σ.rg d l, σ.ob⟩
def cv : Value → Option Dv
  | .int .i64 x => if InR x then some (.d .i x) else none
  | .int .u64 x => if 0 ≤ x ∧ x < 18446744073709551616 then some (.d .u x.toNat) else none
  | .bool b => some (.kb b)
  | .int .u8 x => if 0 ≤ x ∧ x < 256 then some (.d .ch x.toNat) else none
  | .string s => if s.size ≤ 9223372036854775807 then some (.d .tx (bytesN s)) else none
  | .slice none 0 0 => some .nil
  | .pointer none => some .np
  | .nilIface => some .ni
  | .nilFunc => some (.pin .nilFunc)
  | _ => none
def opv (cx σ : Sg) : Operand → Option Dv
  | .tmp t => get cx σ t 0
  | .const v => cv v
  | .func f => some (.fn f [])
  | .global _ => none
inductive TK
  | int (k : IntKind)
  | bool
  | str
  | sl (E : TypeId)
  | st (k : Nat)
  | ar (k : Nat) (E : TypeId)
  | pt (E : TypeId)
  | ie
structure TI where
  ty : Ty
  k : TK
  B : Nat
inductive AM
  | d (t : Ty)
  | q (t : Ty)
  | own (t : Ty) (E : TypeId)
  | fn (dom cod : List Ty)
  | var (t : Ty) (E : TypeId)
def AM.D : AM → Type
  | .d t => t.D
  | .q t => t.D
  | .own t _ => List t.D
  | .var t _ => t.D
  | .fn dom cod => TsD dom → Option (CsD cod)
def AsD : List AM → Type
  | [] => Unit
  | a :: r => a.D × AsD r
inductive RM
  | d (t : Ty)
  | own (t : Ty) (E : TypeId)
  | var (t : Ty) (E : TypeId)
def RM.D : RM → Type
  | .d t => t.D
  | .own t _ => List t.D
  | .var t _ => t.D
def RsD : List RM → Type
  | [] => Unit
  | [a] => a.D
  | a :: b :: r => a.D × RsD (b :: r)
def RM.ty : RM → Ty
  | .d t => t
  | .own t _ => .l t
  | .var t _ => t
inductive TF
  | d (t : Ty)
  | q (t : Ty)
  | own (t : Ty) (E : TypeId)
  | var (t : Ty) (E : TypeId)
  | mat (t : Ty) (E E1 : TypeId)
  | matv (t : Ty) (E E1 : TypeId)
  | row (j : Nat)
  | view (j : Nat)
  | bo (t : Ty) (E E0 : TypeId)
  | vr (t : Ty) (E : TypeId) (s : Ty) (E1 : TypeId) (n i : Nat)
def TF.D : TF → Type
  | .d t => t.D
  | .q t => t.D
  | .own t _ => List t.D
  | .var t _ => t.D
  | .mat t _ _ => List (List t.D) × List Nat
  | .matv t _ _ => (List (List t.D) × List Nat) × (Nat × Nat)
  | .row _ => Nat
  | .view _ => Nat × Nat
  | .bo t _ _ => List t.D
  | .vr t _ s _ _ _ => t.D × List s.D
def refT : TF → Option Nat
  | .row j => some j
  | .view j => some j
  | _ => none
inductive NF
  | kb (b : Bool)
  | nil
  | ci (x : Int)
  | cu (x : Nat)
  | al (s : Nat)
  | bm (s : Nat) (f : FuncId)
structure Sh where
  ds : List (Nat × TF)
  ns : List (Nat × NF)
structure Sgm where
  ro : List Nat
  tg : List (Tg × Sh)
structure Lp where
  hd : Sh
  sg : Sgm
structure An where
  bx : List Nat
  jn : List (Nat × Sgm)
  lp : List (Nat × Lp)
  dz : List (Nat × List Nat)
  vw : List Nat
  mt : List Nat
  vr : List (Nat × Nat × Nat)
def fndA {α : Type} : List (Nat × α) → Nat → Option α
  | [], _ => none
  | (k, x) :: r, t => bif Nat.beq k t then some x else fndA r t
section
structure Sig where
  f : FuncId
  dom : List AM
  cod : List RM
  M : AsD dom → Option (RsD cod)
  bk : Nat
structure PSig where
  s : Sig
  M : AsD s.dom → Option (PX ⊕ RsD s.cod)
structure MSig where
  f : FuncId
  t : Ty
  E : TypeId
  E1 : TypeId
  M : List (List t.D) → List Nat → Nat → Int → Int → Nat → Nat → Option (List (List t.D))
structure CSig where
  f : FuncId
  dom : List Ty
  g : FuncId
  mc : TsD dom → List PD
structure ISig where
  f : FuncId
  dom : List AM
  t : Ty
  E : TypeId
  M : AsD dom → {X Y : Type} → (List t.D → X → Option (List t.D × (X ⊕ Y))) → X → Option (X ⊕ Y)
structure VSig where
  f : FuncId
  t : Ty
  E : TypeId
  s : Ty
  E1 : TypeId
  n : Nat
  i : Nat
  dom : List Ty
  M : t.D → List s.D → TsD dom → Option (t.D × List s.D)
structure Cf where
  tt : List (Nat × TI)
  cs : List Sig
  an : An
  fu : Nat
  ex : List (Nat × Bool)
  ms : List MSig := []
  cl : List CSig := []
  is : List ISig := []
  ps : List PSig := []
  vg : List VSig := []
def fndV : List VSig → FuncId → Option VSig
  | [], _ => none
  | s :: r, f => bif Nat.beq s.f f then some s else fndV r f
def fndM : List MSig → FuncId → Option MSig
  | [], _ => none
  | s :: r, f => bif Nat.beq s.f f then some s else fndM r f
def fndC : List CSig → FuncId → Option CSig
  | [], _ => none
  | s :: r, f => bif Nat.beq s.f f then some s else fndC r f
def fndI : List ISig → FuncId → Option ISig
  | [], _ => none
  | s :: r, f => bif Nat.beq s.f f then some s else fndI r f
abbrev grd {R : Type} (b : Bool) (x : Option R) : Option R := match b with
  | true => x
  | false => none
abbrev cnd {R : Type} (b : Bool) (x y : Option R) : Option R := match b with
  | true => x
  | false => y
def noOwn : List AM → Bool
  | [] => true
  | .own _ _ :: _ => false
  | .var _ _ :: _ => false
  | _ :: r => noOwn r
def noV : List RM → Bool
  | [] => true
  | .var _ _ :: _ => false
  | _ :: r => noV r
def sigOf : List Sig → FuncId → Option Sig
  | [], _ => none
  | s :: r, f => bif Nat.beq s.f f && (noOwn s.dom && (Nat.beq s.bk 0 && noV s.cod)) then some s else sigOf r f
section
variable {R : Type} (cf : Cf) (cx : Sg)
def pdOf : Dv → Option PD
  | .d t x => some ⟨t, x⟩
  | .kb b => some ⟨.b, b⟩
  | _ => none
def asD (v : Option Dv) (t : Ty) (k : t.D → Option R) : Option R := match v with
  | some .nil => (match t, k with
    | .l s, k => k ([] : List s.D)
    | _, _ => none)
  | some .np => (match t, k with
    | .po s, k => k (none : Option s.D)
    | .tr, k => k Tr.nil
    | _, _ => none)
  | some .ni => (match t, k with
    | .er, k => k false
    | _, _ => none)
  | some (.q s y) => (match t, k with
    | .po s', k => Ty.cast s s' y fun y => k (some y : Option s'.D)
    | .tr, k => Ty.cast s trT y fun y => k (Tr.un y)
    | _, _ => none)
  | some v => (match pdOf v with
    | some p => Ty.cast p.t t p.x k
    | none => none)
  | none => none
def arI (bo : BinOp) (a c : Int) (k : Dv → Option R) : Option R := match bo with
  | .add => ck64 (a + c) fun x => k (.d .i x)
  | .sub => ck64 (a - c) fun x => k (.d .i x)
  | .mul => ck64 (a * c) fun x => k (.d .i x)
  | .quo => ck (c ≠ 0) <| ck64 (Int.tdiv a c) fun x => k (.d .i x)
  | .rem => ck (c ≠ 0) <| nm (Int.tmod a c) fun x => k (.d .i x)
  | .and => nm (andI a c) fun x => k (.d .i x)
  | .or => nm (orI a c) fun x => k (.d .i x)
  | .shr => ck (0 ≤ c) <| nm (Int.fdiv a (2 ^ (min c.toNat 64))) fun x => k (.d .i x)
  | .shl => ck (0 ≤ c) <| ck64 (a * 2 ^ (min c.toNat 64)) fun x => k (.d .i x)
  | .lss => if a < c then k (.kb true) else k (.kb false)
  | .leq => if a ≤ c then k (.kb true) else k (.kb false)
  | .gtr => if c < a then k (.kb true) else k (.kb false)
  | .geq => if c ≤ a then k (.kb true) else k (.kb false)
  | .eql => if a = c then k (.kb true) else k (.kb false)
  | .neq => if a = c then k (.kb false) else k (.kb true)
  | _ => none
def arU (bo : BinOp) (a c : Nat) (k : Dv → Option R) : Option R := match bo with
  | .add => nm ((a + c) % 18446744073709551616) fun x => k (.d .u x)
  | .sub => nm ((a + 18446744073709551616 - c) % 18446744073709551616) fun x => k (.d .u x)
  | .mul => nm ((a * c) % 18446744073709551616) fun x => k (.d .u x)
  | .quo => ck (c ≠ 0) <| nm (a / c) fun x => k (.d .u x)
  | .rem => ck (c ≠ 0) <| nm (a % c) fun x => k (.d .u x)
  | .and => nm (a &&& c) fun x => k (.d .u x)
  | .or => nm (a ||| c) fun x => k (.d .u x)
  | .lss => if (a : Int) < (c : Int) then k (.kb true) else k (.kb false)
  | .leq => if (a : Int) ≤ (c : Int) then k (.kb true) else k (.kb false)
  | .gtr => if (c : Int) < (a : Int) then k (.kb true) else k (.kb false)
  | .geq => if (c : Int) ≤ (a : Int) then k (.kb true) else k (.kb false)
  | .eql => if (a : Int) = (c : Int) then k (.kb true) else k (.kb false)
  | .neq => if (a : Int) = (c : Int) then k (.kb false) else k (.kb true)
  | _ => none
def arC (bo : BinOp) (a c : Nat) (k : Dv → Option R) : Option R := match bo with
  | .add => nm ((a + c) % 256) fun x => k (.d .ch x)
  | .sub => nm ((a + 256 - c) % 256) fun x => k (.d .ch x)
  | .lss => if (a : Int) < (c : Int) then k (.kb true) else k (.kb false)
  | .leq => if (a : Int) ≤ (c : Int) then k (.kb true) else k (.kb false)
  | .gtr => if (c : Int) < (a : Int) then k (.kb true) else k (.kb false)
  | .geq => if (c : Int) ≤ (a : Int) then k (.kb true) else k (.kb false)
  | .eql => if (a : Int) = (c : Int) then k (.kb true) else k (.kb false)
  | .neq => if (a : Int) = (c : Int) then k (.kb false) else k (.kb true)
  | _ => none
def eqT (bo : BinOp) (a c : List Nat) (k : Dv → Option R) : Option R := match bo with
  | .add => ck (a.length + c.length ≤ 9223372036854775807) <| nm (a ++ c) fun x => k (.d .tx x)
  | .eql => if a = c then k (.kb true) else k (.kb false)
  | .neq => if a = c then k (.kb false) else k (.kb true)
  | _ => none
def shU (bo : BinOp) (a : Nat) (c : Int) (k : Dv → Option R) : Option R := match bo with
  | .shr => ck (0 ≤ c) <| nm (a / 2 ^ (min c.toNat 64)) fun x => k (.d .u x)
  | .shl => ck (0 ≤ c) <| nm (a * 2 ^ (min c.toNat 64) % 18446744073709551616) fun x => k (.d .u x)
  | _ => none
def shUU (bo : BinOp) (a c : Nat) (k : Dv → Option R) : Option R := match bo with
  | .shr => nm (a / 2 ^ (min (c : Int).toNat 64)) fun x => k (.d .u x)
  | .shl => nm (a * 2 ^ (min (c : Int).toNat 64) % 18446744073709551616) fun x => k (.d .u x)
  | _ => none
def shI (bo : BinOp) (a : Int) (c : Nat) (k : Dv → Option R) : Option R := match bo with
  | .shr => nm (Int.fdiv a (2 ^ (min (c : Int).toNat 64))) fun x => k (.d .i x)
  | .shl => ck64 (a * 2 ^ (min (c : Int).toNat 64)) fun x => k (.d .i x)
  | _ => none
def eqB (bo : BinOp) (a c : Bool) (k : Dv → Option R) : Option R := match bo with
  | .eql => nm (a == c) fun x => k (.d .b x)
  | .neq => nm (!(a == c)) fun x => k (.d .b x)
  | _ => none
def nilT (bo : BinOp) (b : Bool) (k : Dv → Option R) : Option R := match bo with
  | .eql => if b = true then k (.kb true) else k (.kb false)
  | .neq => if b = true then k (.kb false) else k (.kb true)
  | _ => none
def eqP (bo : BinOp) (x : Option Dv) (k : Dv → Option R) : Option R := match x with
  | some .np => nilT bo true k
  | some (.q _ _) => nilT bo false k
  | some (.vs _ _) => nilT bo false k
  | some (.d (.po s) y) => nilT bo (Option.isNone (α := s.D) y) k
  | some (.d .tr y) => nilT bo (Tr.isNil y) k
  | _ => none
def eqE (bo : BinOp) (x : Option Dv) (k : Dv → Option R) : Option R := match x with
  | some .ni => nilT bo true k
  | some (.d .er y) => nilT bo (!y) k
  | _ => none
def isNi : Operand → Bool
  | .const .nilIface => true
  | _ => false
def isNp : Option Dv → Bool
  | some .np => true
  | _ => false
def binD (tb : Bool) (bo : BinOp) (x y : Option PD) (k : Dv → Option R) : Option R := match x, y with
  | some ⟨.i, a⟩, some ⟨.i, c⟩ => arI bo a c k
  | some ⟨.u, a⟩, some ⟨.u, c⟩ => (match bo with
    | .shr => shUU .shr a c k
    | .shl => shUU .shl a c k
    | bo => arU bo a c k)
  | some ⟨.u, a⟩, some ⟨.i, c⟩ => shU bo a c k
  | some ⟨.i, a⟩, some ⟨.u, c⟩ => shI bo a c k
  | some ⟨.b, a⟩, some ⟨.b, c⟩ => grd tb <| eqB bo a c k
  | some ⟨.ch, a⟩, some ⟨.ch, c⟩ => arC bo a c k
  | some ⟨.tx, a⟩, some ⟨.tx, c⟩ => eqT bo a c k
  | _, _ => none
def chI (a : Nat) : Dv := .d .i (a : Int)
def chU (a : Nat) (k : Dv → Option R) : Option R := nm (a % 256) fun x => k (.d .ch x)
def cvtD (kk : TK) (x : Option PD) (k : Dv → Option R) : Option R := match kk, x with
  | .int .i64, some ⟨.i, a⟩ => k (.d .i a)
  | .int .u64, some ⟨.u, a⟩ => k (.d .u a)
  | .int .u64, some ⟨.i, a⟩ => nm (uns a) fun x => k (.d .u x)
  | .int .i64, some ⟨.u, a⟩ => nm (sgn a) fun x => k (.d .i x)
  | .int .i64, some ⟨.ch, a⟩ => k (chI a)
  | .int .u64, some ⟨.ch, a⟩ => k (.d .u a)
  | .int .u8, some ⟨.ch, a⟩ => k (.d .ch a)
  | .int .u8, some ⟨.u, a⟩ => chU a k
  | _, _ => none
def pd (σ : Sg) (x : Operand) : Option PD := match opv cx σ x with
  | some v => pdOf v
  | none => none
def tyA (t : TypeId) : Option TI := fndA cf.tt t
def isB (t : TypeId) : Bool := match tyA cf t with
  | some ⟨_, .bool, _⟩ => true
  | _ => false
def isPt (t : TypeId) : Bool := match tyA cf t with
  | some ⟨_, .pt _, _⟩ => true
  | _ => false
def isIf (t : TypeId) : Bool := match tyA cf t with
  | some ⟨_, .ie, _⟩ => true
  | _ => false
def eNil (σ : Sg) (x : Operand) (k : List (Nat × Dv) → Option R) : Option R := match opv cx σ x with
  | some (.q t y) => k [(0, .q t y)]
  | some (.vs o t) => k [(0, .vs o t)]
  | some (.d (.po t) y) => bd (β := t.D) y fun y => k [(0, .q t y)]
  | some (.d .tr y) => bd (Tr.opt y) fun y => k [(0, .q trT y)]
  | _ => none
def ifB (x : Bool) (a c : Option R) : Option R := if x = true then a else c
def eqI (x y : Int) : Bool := decide (x = y)
def eqU (x y : Nat) : Bool := decide (x = y)
def ngI (a : Int) (k : Dv → Option R) : Option R := ck64 (0 - a) fun x => k (.d .i x)
def ngU (a : Nat) (k : Dv → Option R) : Option R := nm ((18446744073709551616 - a) % 18446744073709551616) fun x => k (.d .u x)
def appZ {α : Type} (xs ys : List α) (B : Nat) (k : List α → Option R) : Option R := ck ((xs.length + ys.length) * B ≤ 140737488355328) <| nm (xs ++ ys) k
def appN {α : Type} (xs : List α) (n : Nat) (z : α) (B : Nat) (k : List α → Option R) : Option R := ck ((xs.length + n) * B ≤ 140737488355328) <| nm (xs ++ List.replicate n z) k
def ixU (j : Nat) (n : Nat) (k : Nat → Option R) : Option R := ckI ((j : Nat) : Int) n k
def sameX : Operand → Operand → Bool
  | .tmp s, .tmp t => Nat.beq s t
  | .const (.int .i64 x), .const (.int .i64 y) => eqI x y
  | _, _ => false
def exU (b : Bool) (x y z : Nat) (k : List (Nat × Dv) → Option R) : Option R :=
  ck (z ≤ 1) <| cnd b (nm ((x + y + z) % 18446744073709551616) fun p => nm ((x + y + z) / 18446744073709551616) fun q => k [(1, .d .u p), (2, .d .u q)])
    (nm ((x + 18446744073709551616 - y - z) % 18446744073709551616) fun p => nm (if x < y + z then (1 : Nat) else 0) fun q => k [(1, .d .u p), (2, .d .u q)])
def exD (b : Bool) (x y z : Option PD) (k : List (Nat × Dv) → Option R) : Option R := match x, y, z with
  | some ⟨.u, x⟩, some ⟨.u, y⟩, some ⟨.u, z⟩ => exU b x y z k
  | _, _, _ => none
def parts (σ : Sg) : (ts : List Ty) → List (Nat × Operand) → Nat → (TsD ts → Option R) → Option R
  | [], [], _, k => k ()
  | t :: ts, (i, x) :: r, j, k => grd (Nat.beq i j) <| asD (opv cx σ x) t fun y => parts σ ts r (j + 1) fun ys => k (y, ys)
  | _, _, _, _ => none
def flds : (k : Nat) → Ty → List Ty
  | 0, _ => []
  | 1, t => [t]
  | k + 2, .p s t => s :: flds (k + 1) t
  | _, _ => []
def joinP : (k : Nat) → (t : Ty) → TsD (flds k t) → Option t.D
  | 0, _, _ => none
  | 1, t, x => some x.1
  | k + 2, .p s t, x => match joinP (k + 1) t x.2 with
    | some y => some (x.1, y)
    | none => none
  | _ + 2, .i, _ => none
  | _ + 2, .u, _ => none
  | _ + 2, .b, _ => none
  | _ + 2, .l _, _ => none
  | _ + 2, .a _ _, _ => none
  | _ + 2, .ch, _ => none
  | _ + 2, .tx, _ => none
  | _ + 2, .po _, _ => none
  | _ + 2, .tr, _ => none
  | _ + 2, .er, _ => none
  | _ + 2, .w1 _, _ => none
def repT : Nat → Ty → List Ty
  | 0, _ => []
  | n + 1, t => t :: repT n t
def listP : (n : Nat) → (t : Ty) → TsD (repT n t) → List t.D
  | 0, _, _ => []
  | n + 1, t, x => x.1 :: listP n t x.2
def caps (σ : Sg) : List Operand → Option (List PD)
  | [] => some []
  | x :: r => match opv cx σ x, caps σ r with
    | some (.q t y), some l => some (⟨t, y⟩ :: l)
    | _, _ => none
def feedC : (full : List AM) → List PD → Option (AsD full)
  | [], [] => some ()
  | .q t :: r, c :: cs => Ty.cast c.t t c.x fun y => match feedC r cs with
    | some z => some (y, z)
    | none => none
  | _, _ => none
def feed : (full : List AM) → (dom : List Ty) → TsD dom → List PD → Option (AsD full)
  | full, [], _, cs => feedC full cs
  | .d t :: r, s :: dom, x, cs => Ty.cast s t x.1 fun y => match feed r dom x.2 cs with
    | some z => some (y, z)
    | none => none
  | _, _ :: _, _, _ => none
def sameTs : (s t : List Ty) → Option (PLift (s = t))
  | [], [] => some ⟨rfl⟩
  | s :: ss, t :: ts => match Ty.same s t, sameTs ss ts with
    | some ⟨h⟩, some ⟨h'⟩ => some ⟨h ▸ h' ▸ rfl⟩
    | _, _ => none
  | _, _ => none
theorem RM.D_ty : ∀ r : RM, r.D = r.ty.D
  | .d _ => rfl
  | .own _ _ => rfl
  | .var _ _ => rfl
theorem RsD_ty : ∀ rs : List RM, RsD rs = CsD (rs.map RM.ty)
  | [] => rfl
  | [m] => RM.D_ty m
  | m :: n :: r => by show (m.D × RsD (n :: r)) = (m.ty.D × CsD ((n :: r).map RM.ty)); rw [RM.D_ty m, RsD_ty (n :: r)]
def asF (σ : Sg) (v : Option Dv) (dom cod : List Ty) (k : (TsD dom → Option (CsD cod)) → Option R) : Option R := match v with
  | some (.fn f c) => (match sigOf cf.cs f with
    | some s => (match sameTs (s.cod.map RM.ty) cod with
      | some ⟨h⟩ => k fun x => match feed s.dom dom x c with
        | some y => ((RsD_ty s.cod).trans (congrArg CsD h)) ▸ s.M y
        | none => none
      | none => none)
    | none => none)
  | some (.fp d c g) => (match sameTs d dom, sameTs c cod with
    | some ⟨h⟩, some ⟨h'⟩ => k (h ▸ h' ▸ g)
    | _, _ => none)
  | _ => none
def argsE (σ : Sg) : (dom : List AM) → List Operand → List PD → (AsD dom → Option R) → Option R
  | [], [], [], k => k ()
  | .q t :: r, [], c :: cs, k => Ty.cast c.t t c.x fun y => argsE σ r [] cs fun z => k (y, z)
  | .d t :: r, x :: xs, cs, k => asD (opv cx σ x) t fun y => argsE σ r xs cs fun z => k (y, z)
  | .q t :: r, x :: xs, cs, k => (match opv cx σ x with
    | some (.q s y) => Ty.cast s t y fun y => argsE σ r xs cs fun z => k (y, z)
    | _ => none)
  | .fn dom cod :: r, x :: xs, cs, k => asF cf σ (opv cx σ x) dom cod fun g => argsE σ r xs cs fun z => k (g, z)
  | _, _, _, _ => none
def resX : (rs : List RM) → RsD rs → Nat → List (Nat × Dv)
  | [], _, _ => []
  | [.d t], x, i => [(i, .d t x)]
  | [.own t _], x, i => [(i, .d (.l t) x)]
  | [.var t _], x, i => [(i, .d t x)]
  | .d t :: r :: rs, x, i => (i, .d t x.1) :: resX (r :: rs) x.2 (i + 1)
  | .own t _ :: r :: rs, x, i => (i, .d (.l t) x.1) :: resX (r :: rs) x.2 (i + 1)
  | .var t _ :: r :: rs, x, i => (i, .d t x.1) :: resX (r :: rs) x.2 (i + 1)
def oneRes : List RM → Bool
  | [_] => true
  | _ => false
def resD (rs : List RM) (x : RsD rs) : List (Nat × Dv) := resX rs x (bif oneRes rs then 0 else 1)
def argsT (σ : Sg) : (dom : List Ty) → List Operand → (TsD dom → Option R) → Option R
  | [], [], k => k ()
  | t :: r, x :: xs, k => asD (opv cx σ x) t fun y => argsT σ r xs fun z => k (y, z)
  | _, _, _ => none
def resT : (cod : List Ty) → CsD cod → Nat → List (Nat × Dv)
  | [], _, _ => []
  | [t], x, i => [(i, .d t x)]
  | t :: s :: r, x, i => (i, .d t x.1) :: resT (s :: r) x.2 (i + 1)
def oneT : List Ty → Bool
  | [_] => true
  | _ => false
def loadD (σ : Sg) (v : Option Dv) (k : PD → Option R) : Option R := match v with
  | some (.q t x) => k ⟨t, x⟩
  | some (.vs o _) => (match geto cx σ o with
    | some (.var t _ z) => k ⟨t, z⟩
    | _ => none)
  | some (.vp o t f) => (match geto cx σ o with
    | some (.var t' _ z) => Ty.cast t' t z fun z => k ⟨f.f, f.get z⟩
    | _ => none)
  | some (.ep o t j f) => (match geto cx σ o with
    | some (.own t' _ xs) => Ty.cast (.l t') (.l t) xs fun xs => nm (f.get (List.getD xs j t.z)) fun y => k ⟨f.f, y⟩
    | _ => none)
  | _ => none
def atI (σ : Sg) (x : Operand) (n : Nat) (k : Nat → Option R) : Option R := match pd cx σ x with
  | some ⟨.i, j⟩ => ckI j n k
  | some ⟨.u, j⟩ => ixU j n k
  | _ => none
def bnd (σ : Sg) (x : Option Operand) (k : Option Nat → Option R) : Option R := match x with
  | none => k none
  | some x => match pd cx σ x with
    | some ⟨.i, j⟩ => ckN j fun j => k (some j)
    | _ => none
def cutD {α : Type} (xs : List α) (lo hi : Option Nat) (k : List α → Option R) : Option R := match lo, hi with
  | none, some h => ck (h ≤ xs.length) <| nm (xs.take h) k
  | some l, none => ck (l ≤ xs.length) <| nm (xs.drop l) k
  | some l, some h => ck (l ≤ h ∧ h ≤ xs.length) <| nm ((xs.drop l).take (h - l)) k
  | none, none => k xs
def cutV (m : Nat) (lo hi : Option Nat) (k : Nat → Nat → Option R) : Option R := match lo, hi with
  | none, some h => ck (h ≤ m) <| k 0 h
  | some l, none => ck (l ≤ m) <| k l (m - l)
  | some l, some h => ck (l ≤ h ∧ h ≤ m) <| k l (h - l)
  | none, none => k 0 m
def tups (σ : Sg) (t : Nat) : Nat → Nat → List (Nat × Dv)
  | 0, _ => []
  | f + 1, i => match get cx σ t i with
    | some d => (i, d) :: tups σ t f (i + 1)
    | none => []
def allD (σ : Sg) (x : Operand) (k : List (Nat × Dv) → Option R) : Option R := match x with
  | .tmp t => (match tups cx σ t 12 1 with
    | [] => none
    | l => k l)
  | _ => none
def eMove (σ : Sg) (x : Operand) (k : List (Nat × Dv) → Option R) : Option R := match opv cx σ x with
  | some v => k [(0, v)]
  | none => allD cx σ x k
def eExt (σ : Sg) (x : Operand) (i : Nat) (k : List (Nat × Dv) → Option R) : Option R := match x with
  | .tmp t => (match get cx σ t (i + 1) with
    | some v => k [(0, v)]
    | none => none)
  | _ => none
def eMv1 (σ : Sg) (x : Operand) (k : List (Nat × Dv) → Option R) : Option R := match opv cx σ x with
  | some v => k [(0, v)]
  | none => none
def ePick (σ : Sg) (c x y : Operand) (k : List (Nat × Dv) → Option R) : Option R := match opv cx σ c with
  | some (.kb true) => eMv1 cx σ x k
  | some (.kb false) => eMv1 cx σ y k
  | _ => none
def notD (b : Bool) : Dv := .d .b (not b)
def eNot (σ : Sg) (x : Operand) (k : List (Nat × Dv) → Option R) : Option R := match opv cx σ x with
  | some (.kb b) => k [(0, .kb !b)]
  | some (.d .b b) => k [(0, notD b)]
  | _ => none
def eNeg (σ : Sg) (x : Operand) (k : List (Nat × Dv) → Option R) : Option R := match pd cx σ x with
  | some ⟨.i, a⟩ => ngI a fun v => k [(0, v)]
  | some ⟨.u, a⟩ => ngU a fun v => k [(0, v)]
  | _ => none
def txD (xs : List Nat) : Dv := .d .tx xs
def eCvt (σ : Sg) (s t : TypeId) (x : Operand) (k : List (Nat × Dv) → Option R) : Option R := match tyA cf s, tyA cf t with
  | some ⟨_, .int _, _⟩, some ti => cvtD ti.k (pd cx σ x) fun v => k [(0, v)]
  | some ⟨.l .ch, .sl E, _⟩, some ⟨_, .str, _⟩ => (match tyA cf E with
    | some ⟨_, .int .u8, _⟩ => asD (opv cx σ x) (.l .ch) fun xs => k [(0, txD xs)]
    | _ => none)
  | some ⟨.tx, .str, _⟩, some ⟨.l .ch, .sl E, _⟩ => (match tyA cf E, pd cx σ x with
    | some ⟨_, .int .u8, _⟩, some ⟨.tx, xs⟩ => k [(0, .d (.l .ch) xs)]
    | _, _ => none)
  | _, _ => none
def elA (E : TypeId) (e : Ty) : Bool := match tyA cf E with
  | some ti => (Ty.same ti.ty e).isSome
  | none => false
def nthF (n : Nat) (e : Ty) (j : Nat) : Fl (Ty.a n e).D := ⟨j * e.n, e, fun z => List.getD z j e.z, fun y z => List.set z j y⟩
def eIndex (σ : Sg) (t : TypeId) (x i : Operand) (k : List (Nat × Dv) → Option R) : Option R := match tyA cf t, opv cx σ x with
  | some ⟨.l e, .sl _, _⟩, some (.d (.l s) xs) => Ty.cast (.l s) (.l e) xs fun xs => atI cx σ i (List.length xs) fun j => nm (List.getD xs j e.z) fun y => k [(0, .q e y)]
  | some ⟨.l e, .sl _, _⟩, some (.ow o) => (match geto cx σ o with
    | some (.own s _ xs) => Ty.cast (.l s) (.l e) xs fun xs => atI cx σ i (List.length xs) fun j => k [(0, .ep o e j (Fl.self e))]
    | _ => none)
  | some ⟨_, .ar n' E, _⟩, some (.q (.a n e) x) => grd (Nat.beq n' n && elA cf E e) <| atI cx σ i n fun j => nm (List.getD x j e.z) fun y => k [(0, .q e y)]
  | some ⟨_, .ar n' E, _⟩, some (.vs o (.a n e)) => grd (Nat.beq n' n && elA cf E e) <| atI cx σ i n fun j => k [(0, .vp o (.a n e) (nthF n e j))]
  | _, _ => none
def eField (σ : Sg) (t : TypeId) (x : Operand) (i : Nat) (k : List (Nat × Dv) → Option R) : Option R := match tyA cf t, opv cx σ x with
  | some ⟨e, .st n, _⟩, some (.q s y) => Ty.cast s e y fun y => (match fld n e i with
    | some f => k [(0, .q f.f (f.get y))]
    | none => none)
  | some ⟨e, .st n, _⟩, some (.vs o s) => (match Ty.same s e, fld n s i with
    | some _, some f => k [(0, .vp o s f)]
    | _, _ => none)
  | some ⟨e, .st n, _⟩, some (.vp o s g) => (match Ty.same g.f e, fld n g.f i with
    | some _, some f => k [(0, .vp o s (g.comp f))]
    | _, _ => none)
  | some ⟨e, .st n, _⟩, some (.ep o s j g) => (match Ty.same g.f e, fld n g.f i with
    | some _, some f => k [(0, .ep o s j (g.comp f))]
    | _, _ => none)
  | _, _ => none
def eFieldV (σ : Sg) (t : TypeId) (x : Operand) (i : Nat) (k : List (Nat × Dv) → Option R) : Option R := match tyA cf t, opv cx σ x with
  | some ⟨e, .st n, _⟩, some (.d s y) => Ty.cast s e y fun y => (match fld n e i with
    | some f => k [(0, .d f.f (f.get y))]
    | none => none)
  | _, _ => none
def eLoad (σ : Sg) (t : TypeId) (x : Operand) (k : List (Nat × Dv) → Option R) : Option R := match tyA cf t with
  | some ti => loadD cx σ (opv cx σ x) fun p => Ty.cast p.t ti.ty p.x fun y => k [(0, .d ti.ty y)]
  | none => none
def eSlice (σ : Sg) (t : TypeId) (x : Operand) (lo hi : Option Operand) (k : List (Nat × Dv) → Option R) : Option R := match tyA cf t, opv cx σ x with
  | some ⟨.l e, .sl _, _⟩, some (.d (.l s) xs) => Ty.cast (.l s) (.l e) xs fun xs => bnd cx σ lo fun lo => bnd cx σ hi fun hi => cutD (α := e.D) xs lo hi fun ys => k [(0, .d (.l e) ys)]
  | some ⟨.l e, .sl _, _⟩, some (.ow o) => (match geto cx σ o with
    | some (.own s _ xs) => Ty.cast (.l s) (.l e) xs fun xs => bnd cx σ lo fun lo => bnd cx σ hi fun hi => cutV (List.length xs) lo hi fun l n => k [(0, .sv o e l n)]
    | _ => none)
  | some ⟨_, .str, _⟩, some (.d .tx xs) => bnd cx σ lo fun lo => bnd cx σ hi fun hi => cutD (α := Nat) xs lo hi fun ys => k [(0, .d .tx ys)]
  | _, _ => none
def eIdx (σ : Sg) (t : TypeId) (x i : Operand) (k : List (Nat × Dv) → Option R) : Option R := match tyA cf t, opv cx σ x with
  | some ⟨_, .str, _⟩, some (.d .tx xs) => atI cx σ i (List.length (α := Nat) xs) fun j => nm (List.getD (α := Nat) xs j 0) fun y => k [(0, .d .ch y)]
  | _, _ => none
def eBox (σ : Sg) (E : TypeId) (x : Operand) (k : List (Nat × Dv) → Option R) : Option R := match tyA cf E with
  | some ti => asD (opv cx σ x) ti.ty fun y => k [(0, .q ti.ty y)]
  | none => none
def bldH (σ : Sg) (n : Nat) (ty : Ty) : List (Nat × Operand) → ty.D → (ty.D → Option R) → Option R
  | [], z, k => k z
  | (i, x) :: r, z, k => match fld n ty i with
    | some f => asD (opv cx σ x) f.f fun y => bldH σ n ty r (f.set y z) k
    | none => none
def eBuild (σ : Sg) (t : TypeId) (ps : List (Nat × Operand)) (k : List (Nat × Dv) → Option R) : Option R := match tyA cf t with
  | some ⟨ty, .st n, _⟩ => cnd (Nat.blt ps.length n || Nat.beq n 0) (bldH cx σ n ty ps ty.z fun y => k [(0, .d ty y)]) (parts cx σ (flds n ty) ps 0 fun ys => match joinP n ty ys with
      | some y => k [(0, .d ty y)]
      | none => none)
  | some ⟨.a n e, .ar n' E, _⟩ => grd (Nat.beq n' n && elA cf E e) <| parts cx σ (repT n e) ps 0 fun ys => k [(0, .d (.a n e) (listP n e ys))]
  | _ => none
def eLit (σ : Sg) (t : TypeId) (n : Nat) (ps : List (Nat × Operand)) (k : List (Nat × Dv) → Option R) : Option R := match tyA cf t with
  | some ⟨.l s, .sl _, _⟩ => grd (Nat.ble (n * s.n) 16777216) <| parts cx σ (repT n s) ps 0 fun ys => k [(0, .d (.l s) (listP n s ys))]
  | _ => none
def eClo (σ : Sg) (f : Go.Fn) (first cs : List Operand) (k : List (Nat × Dv) → Option R) : Option R := match f, first, caps cx σ cs with
  | .func f, [], some l => k [(0, .fn f l)]
  | .func f, [x], some [] => (match opv cx σ x with
    | some (.vs o t) => k [(0, .bm f o t)]
    | _ => none)
  | _, _, _ => none
def lenI (n : Nat) : Dv := .d .i (n : Int)
def eLen (σ : Sg) (x : List Operand) (ts : List TypeId) (k : List (Nat × Dv) → Option R) : Option R := match x, ts with
  | [x], [t] => (match tyA cf t with
    | some ⟨.l _, .sl _, _⟩ => (match opv cx σ x with
      | some .nil => k [(0, lenI 0)]
      | some (.d (.l _) xs) => k [(0, lenI (List.length xs))]
      | some (.ow o) => (match geto cx σ o with
        | some (.own _ _ xs) => k [(0, lenI (List.length xs))]
        | _ => none)
      | _ => none)
    | some ⟨_, .str, _⟩ => (match opv cx σ x with
      | some (.d .tx xs) => k [(0, lenI (List.length (α := Nat) xs))]
      | _ => none)
    | _ => none)
  | _, _ => none
def intD (x : Int) : Dv := .d .i x
def mxI (b : Bool) (a c : Int) (k : Int → Option R) : Option R := match b with
  | true => nm (max a c) k
  | false => nm (min a c) k
def eMM (b : Bool) (σ : Sg) (x : List Operand) (k : List (Nat × Dv) → Option R) : Option R := match x with
  | [x, y] => (match pd cx σ x, pd cx σ y with
    | some ⟨.i, a⟩, some ⟨.i, c⟩ => mxI b a c fun z => k [(0, intD z)]
    | _, _ => none)
  | _ => none
def isFn : Operand → Bool
  | .func _ => true
  | _ => false
def eCall (σ : Sg) (fo : Operand) (ags : List Operand) (k : List (Nat × Dv) → Option R) : Option R := match opv cx σ fo with
  | some (.fn f cs) => (match sigOf cf.cs f with
    | some s => argsE cf cx σ s.dom ags cs fun y => bd (s.M y) fun r => k (resD s.cod r)
    | none => (match fndA cf.ex f, ags, cs with
      | some b, [x, y, z], [] => grd (isFn fo) <| exD b (pd cx σ x) (pd cx σ y) (pd cx σ z) k
      | _, _, _ => none))
  | some (.fp dom cod g) => argsT cx σ dom ags fun y => bd (g y) fun r => k (resT cod r (bif oneT cod then 0 else 1))
  | _ => none
def isCo : Option Dv → Bool
  | some (.mw _) => true
  | some (.mv _ _ _) => true
  | some (.hp _ _) => true
  | some (.rw _ _) => true
  | some (.rp _ _ _ _ _) => true
  | some (.vf _ _ _ _) => true
  | _ => false
def isMv : Option Dv → Bool
  | some (.mv _ _ _) => true
  | _ => false
def mkF (σ : Sg) (f : Operand) : Bool := match opv cx σ f with
  | some (.fn f _) => (fndC cf.cl f).isSome
  | _ => false
def coOp (σ : Sg) : Op → Bool
  | .nilCheck x => isCo (opv cx σ x)
  | .load _ x => isCo (opv cx σ x)
  | .indexAddr _ x _ => isCo (opv cx σ x)
  | .fieldAddr _ x _ => isCo (opv cx σ x)
  | .slice _ x _ _ none => isCo (opv cx σ x)
  | .call ⟨.builtin .len, ags, _⟩ => ags.toList.any fun x => isCo (opv cx σ x)
  | .call ⟨.value f, ags, _⟩ => mkF cf cx σ f || ags.toList.any fun x => isMv (opv cx σ x)
  | _ => false
def rowAt {α : Type} (xss : List (List α)) (r : Nat) : List α := xss.getD r []
def matD {α : Type} (xss : List (List α)) (ix : List Nat) : List (List α) := ix.map (rowAt xss)
def coIndex (σ : Sg) (t : TypeId) (x i : Operand) (k : List (Nat × Dv) → Option R) : Option R := match tyA cf t, opv cx σ x with
  | some ⟨.l (.l e), .sl _, _⟩, some (.mw o) => (match geto cx σ o with
    | some (.mat s _ _ xss ix) => atI cx σ i (List.length ix) fun j => k [(0, .hp o j)]
    | _ => none)
  | some ⟨.l (.l e), .sl _, _⟩, some (.mv o lo n) => (match geto cx σ o with
    | some (.mat s _ _ xss ix) => atI cx σ i n fun j => k [(0, .hp o (lo + j))]
    | _ => none)
  | some ⟨.l e, .sl _, _⟩, some (.rw o r) => (match geto cx σ o with
    | some (.mat s _ _ xss ix) => Ty.cast (.l (.l s)) (.l (.l e)) xss fun xss => atI cx σ i (List.length (rowAt (α := e.D) xss r)) fun j => k [(0, .rp o e r j (Fl.self e))]
    | _ => none)
  | _, _ => none
def othF (n : Nat) (s : Ty) (i j : Nat) (k : Fl s.D → Option R) : Option R := grd (!Nat.beq i j) (match fld n s i with
  | some f => k f
  | none => none)
def ownV (ti : TI) (o : Nat) (k : List (Nat × Dv) → Option R) : Option R := match ti with
  | ⟨.l _, .sl _, _⟩ => k [(0, .rw o 0)]
  | _ => none
def coLoad (σ : Sg) (t : TypeId) (x : Operand) (k : List (Nat × Dv) → Option R) : Option R := match tyA cf t, opv cx σ x with
  | some ⟨.l e, .sl _, _⟩, some (.hp o j) => (match geto cx σ o with
    | some (.mat s _ _ xss ix) => nm (List.getD ix j 0) fun r => k [(0, .rw o r)]
    | _ => none)
  | some ti, some (.rp o e r j f) => (match geto cx σ o with
    | some (.mat s _ _ xss ix) => Ty.cast (.l (.l s)) (.l (.l e)) xss fun xss => nm (f.get (List.getD (rowAt (α := e.D) xss r) j e.z)) fun y => Ty.cast f.f ti.ty y fun y => k [(0, .d ti.ty y)]
    | _ => none)
  | some ti, some (.vf o s0 n0 i) => (match geto cx σ o with
    | some (.vr s _ _ _ n j z _) => grd (Nat.beq n0 n && (Ty.same s0 s).isSome) <| cnd (Nat.beq i j) (ownV ti o k) (othF n s i j fun f => Ty.cast f.f ti.ty (f.get z) fun y => k [(0, .d ti.ty y)])
    | some (.vh s _ _ _ n j z) => grd (Nat.beq n0 n && (Ty.same s0 s).isSome) <| othF n s i j fun f => Ty.cast f.f ti.ty (f.get z) fun y => k [(0, .d ti.ty y)]
    | _ => none)
  | _, _ => none
def coField (σ : Sg) (t : TypeId) (x : Operand) (i : Nat) (k : List (Nat × Dv) → Option R) : Option R := match tyA cf t, opv cx σ x with
  | some ⟨e, .st n, _⟩, some (.mw o) => (match geto cx σ o with
    | some (.vr s _ _ _ n' _ _ _) => grd (Nat.beq n' n && (Ty.same s e).isSome && (fld n e i).isSome) <| k [(0, .vf o e n i)]
    | some (.vh s _ _ _ n' _ _) => grd (Nat.beq n' n && (Ty.same s e).isSome && (fld n e i).isSome) <| k [(0, .vf o e n i)]
    | _ => none)
  | _, _ => none
def coNil (σ : Sg) (x : Operand) (k : List (Nat × Dv) → Option R) : Option R := match opv cx σ x with
  | some (.mw o) => (match geto cx σ o with
    | some (.vr _ _ _ _ _ _ _ _) => k [(0, .mw o)]
    | some (.vh _ _ _ _ _ _ _) => k [(0, .mw o)]
    | _ => none)
  | _ => none
def coSlice (σ : Sg) (t : TypeId) (x : Operand) (lo hi : Option Operand) (k : List (Nat × Dv) → Option R) : Option R := match tyA cf t, opv cx σ x with
  | some ⟨.l (.l e), .sl _, _⟩, some (.mw o) => (match geto cx σ o with
    | some (.mat s _ _ xss ix) => bnd cx σ lo fun lo => bnd cx σ hi fun hi => cutV (List.length ix) lo hi fun l n => k [(0, .mv o l n)]
    | _ => none)
  | _, _ => none
def coLen (σ : Sg) (x : List Operand) (ts : List TypeId) (k : List (Nat × Dv) → Option R) : Option R := match x, ts with
  | [x], [t] => (match tyA cf t, opv cx σ x with
    | some ⟨.l _, .sl _, _⟩, some (.mw o) => (match geto cx σ o with
      | some (.mat _ _ _ _ ix) => k [(0, lenI (List.length ix))]
      | _ => none)
    | some ⟨.l _, .sl _, _⟩, some (.mv o _ n) => (match geto cx σ o with
      | some (.mat _ _ _ _ _) => k [(0, lenI n)]
      | _ => none)
    | some ⟨.l _, .sl _, _⟩, some (.rw o r) => (match geto cx σ o with
      | some (.mat _ _ _ xss _) => k [(0, lenI (List.length (rowAt xss r)))]
      | some (.vr _ _ _ _ _ _ _ xs) => k [(0, lenI (List.length xs))]
      | _ => none)
    | _, _ => none)
  | _, _ => none
def argsL (σ : Sg) : (dom : List AM) → List Operand → List PD → (AsD dom → Option R) → Option R
  | [], [], [], k => k ()
  | .q t :: r, [], c :: cs, k => Ty.cast c.t t c.x fun y => argsL σ r [] cs fun z => k (y, z)
  | .d t :: r, x :: xs, cs, k => (match opv cx σ x with
    | some (.mv o lo n) => (match geto cx σ o with
      | some (.mat s _ _ xss ix) => Ty.cast (.l (.l s)) t (List.take n (List.drop lo (matD xss ix))) fun y => argsL σ r xs cs fun z => k (y, z)
      | _ => none)
    | v => asD v t fun y => argsL σ r xs cs fun z => k (y, z))
  | .fn dom cod :: r, x :: xs, cs, k => asF cf σ (opv cx σ x) dom cod fun g => argsL σ r xs cs fun z => k (g, z)
  | _, _, _, _ => none
def flatT : List RM → Bool
  | [] => true
  | .d .i :: r => flatT r
  | .d .b :: r => flatT r
  | .d .u :: r => flatT r
  | _ => false
def coCall (σ : Sg) (fo : Operand) (ags : List Operand) (k : List (Nat × Dv) → Option R) : Option R := match opv cx σ fo with
  | some (.fn f cs) => (match fndC cf.cl f, cs with
    | some s, [] => argsT cx σ s.dom ags fun ys => k [(0, .fn s.g (s.mc ys))]
    | _, cs => (match sigOf cf.cs f with
      | some s => grd (flatT s.cod) <| argsL cf cx σ s.dom ags cs fun y => bd (s.M y) fun r => k (resD s.cod r)
      | none => none))
  | _ => none
def eIfc (σ : Sg) (T : TypeId) (x : Operand) (k : List (Nat × Dv) → Option R) : Option R := match fndA cf.tt T, opv cx σ x with
  | some ⟨.w1 .i, .st 0, _⟩, some (.d t y) => Ty.cast t (.w1 .i) y fun z => k [(0, .ifc (T, z))]
  | _, _ => none
def eCo (σ : Sg) (op : Op) (k : List (Nat × Dv) → Option R) : Option R := match op with
  | .load t x => coLoad cf cx σ t x k
  | .indexAddr t x i => coIndex cf cx σ t x i k
  | .fieldAddr t x i => coField cf cx σ t x i k
  | .slice t x lo hi none => coSlice cf cx σ t x lo hi k
  | .call ⟨.builtin .len, ags, ts⟩ => coLen cf cx σ ags.toList ts.toList k
  | .call ⟨.value f, ags, _⟩ => coCall cf cx σ f ags.toList k
  | .nilCheck x => coNil cx σ x k
  | _ => none
def eOp0 (σ : Sg) (op : Op) (k : List (Nat × Dv) → Option R) : Option R := match op with
  | .move x => eMove cx σ x k
  | .assign x => eMove cx σ x k
  | .extract x i => eExt cx σ x i k
  | .pick c x y => ePick cx σ c x y k
  | .unOp .not _ x => eNot cx σ x k
  | .unOp .neg _ x => eNeg cx σ x k
  | .binOp bo t x y _ => cnd (isNi y) (grd (isIf cf t) <| eqE bo (opv cx σ x) fun v => k [(0, v)]) <| cnd (isNp (opv cx σ y)) (grd (isPt cf t) <| eqP bo (opv cx σ x) fun v => k [(0, v)]) (binD (isB cf t) bo (pd cx σ x) (pd cx σ y) fun v => k [(0, v)])
  | .nilCheck x => eNil cx σ x k
  | .convert s t x => eCvt cf cx σ s t x k
  | .load t x => eLoad cf cx σ t x k
  | .indexAddr t x i => eIndex cf cx σ t x i k
  | .fieldAddr t x i => eField cf cx σ t x i k
  | .field t x i => eFieldV cf cx σ t x i k
  | .slice t x lo hi none => eSlice cf cx σ t x lo hi k
  | .index t x i => eIdx cf cx σ t x i k
  | .box E x => eBox cf cx σ E x k
  | .build t ps => eBuild cf cx σ t ps.toList k
  | .makeInterface t x => eIfc cf cx σ t x k
  | .buildSlice t n ps => eLit cf cx σ t n ps.toList k
  | .makeFunc f first cs => eClo cx σ f first.toList cs.toList k
  | .call ⟨.builtin .len, ags, ts⟩ => eLen cf cx σ ags.toList ts.toList k
  | .call ⟨.builtin .max, ags, _⟩ => eMM cx true σ ags.toList k
  | .call ⟨.builtin .min, ags, _⟩ => eMM cx false σ ags.toList k
  | .call ⟨.value f, ags, _⟩ => eCall cf cx σ f ags.toList k
  | _ => none
def eOp (σ : Sg) (op : Op) (k : List (Nat × Dv) → Option R) : Option R := cnd (coOp cf cx σ op) (eCo cf cx σ op k) (eOp0 cf cx σ op k)
def refO : Dv → Option Nat
  | .ow o => some o
  | .vs o _ => some o
  | .ep o _ _ _ => some o
  | .sv o _ _ _ => some o
  | .vp o _ _ => some o
  | .mw o => some o
  | .mv o _ _ => some o
  | .hp o _ => some o
  | .rw o _ => some o
  | .rp o _ _ _ _ => some o
  | .yd o => some o
  | .vf o _ _ _ => some o
  | .bm _ o _ => some o
  | _ => none
def okL (n : Nat) (l : List (Nat × Dv)) : Bool := l.all fun e => match refO e.2 with
  | some o => Nat.blt o n
  | none => true
def frz1 (o : Nat) (x : Od) (v : Dv) : Dv := match v, x with
  | .ow o', .own s _ xs => bif Nat.beq o' o then .d (.l s) xs else v
  | .vs o' _, .var s _ z => bif Nat.beq o' o then .q s z else v
  | .mw o', .mat s _ _ xss ix => bif Nat.beq o' o then .d (.l (.l s)) (matD xss ix) else v
  | .mw o', .vr t _ s _ n i z xs => bif Nat.beq o' o then .q t (putL s (fld n t i) xs z) else v
  | _, _ => v
def frzR (o : Nat) (x : Od) : List (Nat × Nat × Dv) → List (Nat × Nat × Dv)
  | [] => []
  | (t, i, v) :: r => (t, i, frz1 o x v) :: frzR o x r
def frzO (σ : Sg) (o : Nat) : Sg := match fndO σ.ob o with
  | some x => ⟨σ.nx, frzR o x σ.rg, delo σ.ob o⟩
  | none => σ
def frz (σ : Sg) (x : Operand) : Sg := match opv cx σ x with
  | some (.ow o) => frzO σ o
  | some (.vs o _) => frzO σ o
  | some (.mw o) => frzO σ o
  | _ => σ
def frzL (σ : Sg) : List Operand → Sg
  | [] => σ
  | x :: r => frzL (frz cx σ x) r
def fits (σ : Sg) : List AM → List Operand → Bool
  | [], _ => true
  | .own _ _ :: r, x :: xs => (match opv cx σ x with
    | some (.ow o) => σ.ob.any fun e => Nat.beq e.1 o
    | _ => false) && fits σ r xs
  | .var _ _ :: r, x :: xs => (match opv cx σ x with
    | some (.vs o _) => σ.ob.any fun e => Nat.beq e.1 o
    | _ => false) && fits σ r xs
  | .d _ :: r, x :: xs => !isMv (opv cx σ x) && fits σ r xs
  | _ :: r, _ :: xs => fits σ r xs
  | _ :: r, [] => fits σ r []
def sigG (σ : Sg) (f : FuncId) (ags : List Operand) : List Sig → Option Sig
  | [] => none
  | s :: r => match Nat.beq s.f f && fits cx σ s.dom ags with
    | true => some s
    | false => sigG σ f ags r
def fndP (σ : Sg) (f : FuncId) (ags : List Operand) : List PSig → Option PSig
  | [] => none
  | p :: r => match Nat.beq p.s.f f && fits cx σ p.s.dom ags with
    | true => some p
    | false => fndP σ f ags r
def isVw (d : Option Tmp) : Bool := match d with
  | some t => has cf.an.vw t
  | none => false
def isMt (d : Option Tmp) : Bool := match d with
  | some t => has cf.an.mt t
  | none => false
def coAd : Option Dv → Bool
  | some (.hp _ _) => true
  | some (.mw _) => true
  | _ => false
def ownVh (σ : Sg) : Option Dv → Bool
  | some (.vf o _ _ i) => (match fndO σ.ob o with
    | some (.vh _ _ _ _ _ j _) => Nat.beq i j
    | _ => false)
  | _ => false
def isMw : Option Dv → Bool
  | some (.mw _) => true
  | _ => false
def ontoA (σ : Sg) (dom : List AM) (ags : List Operand) : List Operand := (dom.zip ags).filterMap fun e => match e.1 with
  | .d _ => (match isMv (opv cx σ e.2) with
    | true => none
    | false => some e.2)
  | .q _ => some e.2
  | _ => none
def onto (σ : Sg) (d : Option Tmp) : Op → List Operand
  | .build _ ps => ps.toList.map (·.2)
  | .buildSlice _ _ ps => (match isMt cf d with
    | true => []
    | false => ps.toList.map (·.2))
  | .store _ a v => (match coAd (opv cx σ a) || ownVh σ (opv cx σ a), opv cx σ v with
    | false, some (.ow _) => [v]
    | _, _ => [])
  | .slice _ x none (some _) none => (match isMw (opv cx σ x), isVw cf d with
    | true, false => [x]
    | _, _ => [])
  | .box _ v => [v]
  | .load _ x => (match opv cx σ x with
    | some (.mw o) => (match geto cx σ o with
      | some (.vr _ _ _ _ _ _ _ _) => [x]
      | _ => [])
    | _ => [])
  | .convert _ _ v => [v]
  | .makeFunc _ _ cs => cs.toList
  | .slice _ x (some _) _ _ => (match isVw cf d with
    | true => []
    | false => [x])
  | .call ⟨.builtin .append, ags, _⟩ => (match ags.toList.any fun x => isMw (opv cx σ x) with
    | true => []
    | false => ags.toList.drop 1)
  | .call ⟨.builtin .copy, ags, _⟩ => ags.toList.drop 1
  | .call ⟨.value f, ags, _⟩ => (match opv cx σ f with
    | some (.fn f _) => (match sigG cx σ f ags.toList cf.cs with
      | some s => ontoA cx σ s.dom ags.toList
      | none => (match fndP cx σ f ags.toList cf.ps with
        | some p => ontoA cx σ p.s.dom ags.toList
        | none => []))
    | some (.fp _ _ _) => ags.toList
    | _ => [])
  | _ => []
def newO (σ : Sg) (d : Option Tmp) (mk : Nat → Dv) (x : Od) : Sg := ⟨σ.nx + 1, putR σ.rg d [(0, mk σ.nx)], (σ.nx, x) :: σ.ob⟩
def argsG (σ : Sg) : (dom : List AM) → List Operand → List PD → (AsD dom → List Nat → Option R) → Option R
  | [], [], [], k => k () []
  | .q t :: r, [], c :: cs, k => Ty.cast c.t t c.x fun y => argsG σ r [] cs fun z os => k (y, z) os
  | .d t :: r, x :: xs, cs, k => asD (opv cx σ x) t fun y => argsG σ r xs cs fun z os => k (y, z) os
  | .q t :: r, x :: xs, cs, k => (match opv cx σ x with
    | some (.q s y) => Ty.cast s t y fun y => argsG σ r xs cs fun z os => k (y, z) os
    | _ => none)
  | .own t E :: r, x :: xs, cs, k => (match opv cx σ x with
    | some (.ow o) => (match fndO σ.ob o with
      | some (.own s E' ys) => grd (Nat.beq E E') <| Ty.cast (.l s) (.l t) ys fun y => argsG σ r xs cs fun z os => grd (!has os o) <| k (y, z) (o :: os)
      | _ => none)
    | _ => none)
  | .var t E :: r, x :: xs, cs, k => (match opv cx σ x with
    | some (.vs o _) => (match fndO σ.ob o with
      | some (.var s E' y) => grd (Nat.beq E E') <| Ty.cast s t y fun y => argsG σ r xs cs fun z os => grd (!has os o) <| k (y, z) (o :: os)
      | _ => none)
    | _ => none)
  | .fn dom cod :: r, x :: xs, cs, k => asF cf σ (opv cx σ x) dom cod fun g => argsG σ r xs cs fun z os => k (g, z) os
  | _, _, _, _ => none
def resG : (rs : List RM) → RsD rs → Nat → Nat → List (Nat × Dv) × List (Nat × Od)
  | [], _, _, _ => ([], [])
  | [.d t], x, i, o => ([(i, .d t x)], [])
  | [.own t E], x, i, o => ([(i, .ow o)], [(o, .own t E x)])
  | [.var t E], x, i, o => ([(i, .vs o t)], [(o, .var t E x)])
  | .d t :: r :: rs, x, i, o => let y := resG (r :: rs) x.2 (i + 1) o
    ((i, .d t x.1) :: y.1, y.2)
  | .own t E :: r :: rs, x, i, o => let y := resG (r :: rs) x.2 (i + 1) (o + 1)
    ((i, .ow o) :: y.1, (o, .own t E x.1) :: y.2)
  | .var t E :: r :: rs, x, i, o => let y := resG (r :: rs) x.2 (i + 1) (o + 1)
    ((i, .vs o t) :: y.1, (o, .var t E x.1) :: y.2)
def delos (ob : List (Nat × Od)) : List Nat → List (Nat × Od)
  | [] => ob
  | o :: r => delo (delos ob r) o
def mStore (σ : Sg) (s : Ty) (p v : Option Dv) (k : Sg → Option R) : Option R := match p with
  | some (.vs o _) => (match fndO σ.ob o with
    | some (.var s' E z) => Ty.cast s' s z fun z => asD v s fun y => k ⟨σ.nx, σ.rg, seto σ.ob o (.var s E y)⟩
    | _ => none)
  | some (.vp o s1 f) => (match fndO σ.ob o, Ty.same f.f s with
    | some (.var s' E z), some _ => Ty.cast s' s1 z fun z => asD v f.f fun y => nm (f.set y z) fun z => k ⟨σ.nx, σ.rg, seto σ.ob o (.var s1 E z)⟩
    | _, _ => none)
  | some (.ep o s1 j f) => (match fndO σ.ob o, Ty.same f.f s with
    | some (.own s' E xs), some _ => Ty.cast (.l s') (.l s1) xs fun xs => asD v f.f fun y => nm (List.set xs j (f.set y (List.getD xs j s1.z))) fun xs => k ⟨σ.nx, σ.rg, seto σ.ob o (.own s1 E xs)⟩
    | _, _ => none)
  | _ => none
def mAlloc (σ : Sg) (d : Option Tmp) (E : TypeId) (k : Sg → Option R) : Option R := match tyA cf E with
  | some ti => k (newO σ d (fun o => .vs o ti.ty) (.var ti.ty E ti.ty.z))
  | none => none
def mBox (σ : Sg) (d : Option Tmp) (E : TypeId) (x : Operand) (k : Sg → Option R) : Option R := match tyA cf E with
  | some ti => asD (opv cx σ x) ti.ty fun y => k (newO σ d (fun o => .vs o ti.ty) (.var ti.ty E y))
  | none => none
def mMake (σ : Sg) (d : Option Tmp) (t : TypeId) (x y : Operand) (k : Sg → Option R) : Option R := match tyA cf t with
  | some ⟨.l s, .sl E, _⟩ => grd (sameX x y) (match tyA cf E, pd cx σ x with
    | some ti, some ⟨.i, n⟩ => Ty.cast ti.ty s ti.ty.z fun z => ckN n fun n => ck (ti.B * n ≤ 281474976710656) <| nm (List.replicate n z) fun xs => k (newO σ d .ow (.own s E xs))
    | _, _ => none)
  | _ => none
def mLit (σ : Sg) (d : Option Tmp) (t : TypeId) (n : Nat) (ps : List (Nat × Operand)) (k : Sg → Option R) : Option R := match tyA cf t with
  | some ⟨.l s, .sl E, _⟩ => grd (Nat.ble (n * s.n) 16777216) <| parts cx σ (repT n s) ps 0 fun ys => k (newO σ d .ow (.own s E (listP n s ys)))
  | _ => none
def mSlice (σ : Sg) (d : Option Tmp) (t : TypeId) (o : Nat) (hi : Operand) (k : Sg → Option R) : Option R := match tyA cf t, fndO σ.ob o with
  | some ⟨.l s1, .sl _, _⟩, some (.own s E xs) => Ty.cast (.l s) (.l s1) xs fun xs => bnd cx σ (some hi) fun h => cutD (α := s1.D) xs none h fun ys => k ⟨σ.nx + 1, putR σ.rg d [(0, .ow σ.nx)], (σ.nx, .own s1 E ys) :: delo σ.ob o⟩
  | _, _ => none
def mApp2 (σ : Sg) (d : Option Tmp) (t' : TypeId) (same : Bool) (s : Ty) (E : TypeId) (B : Nat) (z : s.D) (y : Operand) (ob : List (Nat × Od)) (xs : List s.D) (k : Sg → Option R) : Option R := match pd cx σ y with
  | some ⟨.i, n⟩ => (match tyA cf t' with
    | some ⟨_, .int _, _⟩ => ckN n fun n => appN xs n z B fun zs => k ⟨σ.nx + 1, putR σ.rg d [(0, .ow σ.nx)], (σ.nx, .own s E zs) :: ob⟩
    | _ => none)
  | some ⟨.tx, ys⟩ => (match tyA cf t' with
    | some ⟨_, .str, _⟩ => Ty.cast (.l .ch) (.l s) ys fun ys => appZ (α := s.D) xs ys B fun zs => k ⟨σ.nx + 1, putR σ.rg d [(0, .ow σ.nx)], (σ.nx, .own s E zs) :: ob⟩
    | _ => none)
  | _ => (match opv cx σ y with
    | some (.sv o2 t2 lo n) => (match geto cx ⟨σ.nx, σ.rg, ob⟩ o2 with
      | some (.own s2 _ zs) => grd same <| Ty.cast (.l s2) (.l t2) zs fun zs => Ty.cast (.l t2) (.l s) (List.take n (List.drop lo zs)) fun ys => nm ys fun ys => appZ (α := s.D) xs ys B fun zs => k ⟨σ.nx + 1, putR σ.rg d [(0, .ow σ.nx)], (σ.nx, .own s E zs) :: ob⟩
      | _ => none)
    | _ => grd same <| asD (opv cx σ y) (.l s) fun ys => appZ (α := s.D) xs ys B fun zs => k ⟨σ.nx + 1, putR σ.rg d [(0, .ow σ.nx)], (σ.nx, .own s E zs) :: ob⟩)
def mApp (σ : Sg) (d : Option Tmp) (ags : List Operand) (ts : List TypeId) (k : Sg → Option R) : Option R := match ags, ts with
  | [x, y], [t, t'] => (match tyA cf t with
    | some ⟨.l s, .sl E, _⟩ => (match tyA cf E with
      | some ti => Ty.cast ti.ty s ti.ty.z fun z => (match opv cx σ x with
        | some .nil => mApp2 cf cx σ d t' (Nat.beq t t') s E ti.B z y σ.ob [] k
        | some (.ow o) => (match fndO σ.ob o with
          | some (.own s' E' xs) => grd (Nat.beq E' E) <| Ty.cast (.l s') (.l s) xs fun xs => mApp2 cf cx σ d t' (Nat.beq t t') s E ti.B z y (delo σ.ob o) xs k
          | _ => none)
        | _ => none)
      | none => none)
    | _ => none)
  | _, _ => none
def mCopy (σ : Sg) (d : Option Tmp) (ags : List Operand) (ts : List TypeId) (k : Sg → Option R) : Option R := match ags, ts with
  | [x, y], [t, _] => (match tyA cf t, opv cx σ x with
    | some ⟨.l s, .sl _, _⟩, some (.ow o) => (match fndO σ.ob o with
      | some (.own s' E' xs) => Ty.cast (.l s') (.l s) xs fun xs => asD (opv cx σ y) (.l s) fun ys => nm (cpy (α := s.D) xs ys) fun zs => k ⟨σ.nx, putR σ.rg d [], seto σ.ob o (.own s E' zs)⟩
      | _ => none)
    | some ⟨.l s, .sl _, _⟩, some (.sv o t2 lo n) => (match fndO σ.ob o, Ty.same t2 s with
      | some (.own s' E' xs), some _ => Ty.cast (.l s') (.l s) xs fun xs => asD (opv cx σ y) (.l s) fun ys => nm (cpyAt (α := s.D) lo n xs ys) fun zs => k ⟨σ.nx, putR σ.rg d [], seto σ.ob o (.own s E' zs)⟩
      | _, _ => none)
    | _, _ => none)
  | _, _ => none
def zipB : List Nat → List (Nat × Od) → List (Nat × Od)
  | o :: os, e :: r => (o, e.2) :: zipB os r
  | _, _ => []
def tailOwn : Nat → List RM → Bool
  | 0, [] => true
  | 0, .own _ _ :: r => tailOwn 0 r
  | 0, .var _ _ :: r => tailOwn 0 r
  | n + 1, .d _ :: r => tailOwn n r
  | _, _ => false
def one1 (m : Nat) : Nat := bif Nat.beq m 1 then 0 else 1
def resU (σ : Sg) (d : Option Tmp) (s : Sig) (os : List Nat) (r : RsD s.cod) (k : Sg → Option R) : Option R :=
    match s.bk with
    | 0 => (let g := resG s.cod r (bif oneRes s.cod then 0 else 1) σ.nx
      k ⟨σ.nx + g.2.length, putR σ.rg d g.1, g.2 ++ delos σ.ob os⟩)
    | b + 1 => (let m := s.cod.length - (b + 1)
      let g := resG s.cod r (one1 m) σ.nx
      grd (tailOwn m s.cod) <| k ⟨σ.nx + g.2.length, putR σ.rg d (g.1.filter fun e => Nat.blt e.1 (one1 m + m)), zipB os g.2 ++ delos σ.ob os⟩)
def mCall (σ : Sg) (d : Option Tmp) (s : Sig) (ags : List Operand) (cs : List PD) (k : Sg → Option R) : Option R :=
  argsG cf cx σ s.dom ags cs fun y os => bd (s.M y) fun r => resU σ d s os r k
def mPan (σ : Sg) (d : Option Tmp) (p : PSig) (ags : List Operand) (cs : List PD) (kp : PX → Sg → Option R) (k : Sg → Option R) : Option R :=
  argsG cf cx σ p.s.dom ags cs fun y os => bd (p.M y) fun z => Sum.elim (fun q => kp q ⟨σ.nx, σ.rg, delos σ.ob os⟩) (fun r => resU σ d p.s os r k) z
def panO (σ : Sg) : Op → Option (PSig × List Operand × List PD)
  | .call ⟨.value f, ags, _⟩ => (match opv cx σ f with
    | some (.fn f' cs) => (match fndP cx σ f' ags.toList cf.ps with
      | some p => some (p, ags.toList, cs)
      | none => none)
    | _ => none)
  | _ => none
def mE (σ : Sg) (d : Option Tmp) (op : Op) (k : Sg → Option R) : Option R := eOp cf cx σ op fun l => grd (okL σ.nx l) <| k (σ.put d l)
def isBx (d : Option Tmp) : Bool := match d with
  | some t => has cf.an.bx t
  | none => false
def ren1 (o n : Nat) (v : Dv) : Dv := match v with
  | .mw p => bif Nat.beq p o then .mw n else v
  | .mv p l m => bif Nat.beq p o then .mv n l m else v
  | .hp p j => bif Nat.beq p o then .hp n j else v
  | .rw p r => bif Nat.beq p o then .rw n r else v
  | .rp p t r j f => bif Nat.beq p o then .rp n t r j f else v
  | v => v
def renR (o n : Nat) : List (Nat × Nat × Dv) → List (Nat × Nat × Dv)
  | [] => []
  | (t, i, v) :: r => (t, i, ren1 o n v) :: renR o n r
def renM (o n : Nat) : List (Nat × Nat × Dv) → List (Nat × Nat × Dv)
  | [] => []
  | (t, i, .mw p) :: r => (t, i, bif Nat.beq p o then .mw n else .mw p) :: renM o n r
  | (t, i, v) :: r => (t, i, v) :: renM o n r
def renY (o n : Nat) : List (Nat × Nat × Dv) → List (Nat × Nat × Dv)
  | [] => []
  | (t, i, .yd p) :: r => (t, i, bif Nat.beq p o then .yd n else .yd p) :: renY o n r
  | (t, i, v) :: r => (t, i, v) :: renY o n r
def appD {α : Type} (a b : List α) : List α := a ++ b
def rplc {α : Type} (xss : List (List α)) (r : Nat) (xs : List α) : List (List α) := List.set xss r xs
def coStore (σ : Sg) (s : Ty) (p v : Option Dv) (k : Sg → Option R) : Option R := match p, v with
  | some (.rp o e r j f), v => (match fndO σ.ob o, Ty.same f.f s with
    | some (.mat s' E E1 xss ix), some _ => Ty.cast (.l (.l s')) (.l (.l e)) xss fun xss => asD v f.f fun y => nm (rplc (α := e.D) xss r (List.set (rowAt (α := e.D) xss r) j (f.set y (List.getD (rowAt (α := e.D) xss r) j e.z)))) fun xss => k ⟨σ.nx, σ.rg, seto σ.ob o (.mat e E E1 xss ix)⟩
    | _, _ => none)
  | some (.vf o s0 n0 i), some (.ow o2) => grd (!Nat.beq o o2) <| (match fndO σ.ob o, fndO σ.ob o2 with
    | some (.vh s1 E s2 E1 n j z), some (.own s3 E3 ys) => grd (Nat.beq i j && Nat.beq E1 E3 && (Ty.same s (.l s2)).isSome && (Nat.beq n0 n && (Ty.same s0 s1).isSome)) <| Ty.cast (.l s3) (.l s2) ys fun ys => k ⟨σ.nx + 1, renM o σ.nx σ.rg, (σ.nx, .vr s1 E s2 E1 n j z ys) :: delo (delo σ.ob o) o2⟩
    | _, _ => none)
  | some (.vf o s0 n0 i), v => (match fndO σ.ob o with
    | some (.vr s1 E s2 E1 n j z ys) => grd (Nat.beq n0 n && (Ty.same s0 s1).isSome) <| othF n s1 i j fun f => grd (Ty.same f.f s).isSome <| asD v f.f fun y => nm (f.set y z) fun z => k ⟨σ.nx, σ.rg, seto σ.ob o (.vr s1 E s2 E1 n j z ys)⟩
    | some (.vh s1 E s2 E1 n j z) => grd (Nat.beq n0 n && (Ty.same s0 s1).isSome) <| othF n s1 i j fun f => grd (Ty.same f.f s).isSome <| asD v f.f fun y => nm (f.set y z) fun z => k ⟨σ.nx, σ.rg, seto σ.ob o (.vh s1 E s2 E1 n j z)⟩
    | _ => none)
  | some (.hp o j), some (.rw o' r) => grd (Nat.beq o' o) <| (match fndO σ.ob o, s with
    | some (.mat s' E E1 xss ix), .l _ => nm (List.set ix j r) fun ix => k ⟨σ.nx, σ.rg, seto σ.ob o (.mat s' E E1 xss ix)⟩
    | _, _ => none)
  | some (.hp o j), some (.ow o2) => grd (!Nat.beq o o2) <| (match fndO σ.ob o, fndO σ.ob o2, s with
    | some (.mat s' E E1 xss ix), some (.own s2 E2 ys), .l _ => grd (Nat.beq E1 E2) <| Ty.cast (.l s2) (.l s') ys fun ys => nm (appD (α := List s'.D) xss [ys]) fun xs2 => nm (List.set ix j (List.length xss)) fun ix => k ⟨σ.nx + 1, renR o σ.nx σ.rg, (σ.nx, .mat s' E E1 xs2 ix) :: delo (delo σ.ob o) o2⟩
    | _, _, _ => none)
  | some (.mw o), some (.dz t2 y n2 i2) => (match fndO σ.ob o with
    | some (.vr s1 E s2 E1 n j z xs) => grd (Nat.beq n2 n && (Nat.beq i2 j && (Ty.same s s1).isSome)) <| Ty.cast t2 s1 y fun y => k ⟨σ.nx + 1, renM o σ.nx σ.rg, (σ.nx, .vr s1 E s2 E1 n j y []) :: delo σ.ob o⟩
    | _ => none)
  | some (.mw o), some (.ow o2) => grd (!Nat.beq o o2) <| (match fndO σ.ob o, fndO σ.ob o2, s with
    | some (.ho E0), some (.own s2 E2 ys), .l _ => k ⟨σ.nx + 1, renM o σ.nx σ.rg, (σ.nx, .bo s2 E2 E0 ys) :: delo (delo σ.ob o) o2⟩
    | _, _, _ => none)
  | _, _ => none
def coMake (σ : Sg) (d : Option Tmp) (t : TypeId) (x y : Operand) (k : Sg → Option R) : Option R := match tyA cf t with
  | some ⟨.l (.l s), .sl E, _⟩ => grd (sameX x y) (match tyA cf E, pd cx σ x with
    | some ⟨.l _, .sl E1, B⟩, some ⟨.i, n⟩ => ckN n fun n => ck (B * n ≤ 281474976710656) <| nm (List.replicate n 0) fun ix => k (newO σ d .mw (.mat s E E1 [[]] ix))
    | _, _ => none)
  | _ => none
def coLit (σ : Sg) (d : Option Tmp) (t : TypeId) (n : Nat) (ps : List (Nat × Operand)) (k : Sg → Option R) : Option R := match tyA cf t, ps with
  | some ⟨.l (.l s), .sl E, _⟩, [(0, x)] => grd (Nat.beq n 1) (match opv cx σ x with
    | some (.ow o2) => (match fndO σ.ob o2 with
      | some (.own s2 E1 ys) => Ty.cast (.l s2) (.l s) ys fun ys => k ⟨σ.nx + 1, putR σ.rg d [(0, .mw σ.nx)], (σ.nx, .mat s E E1 [ys] [0]) :: delo σ.ob o2⟩
      | _ => none)
    | _ => none)
  | _, _ => none
def vrOf (d : Option Tmp) : Option (Nat × Nat) := match d with
  | some t => fndA cf.an.vr t
  | none => none
def coAlloc (σ : Sg) (d : Option Tmp) (E0 : TypeId) (k : Sg → Option R) : Option R := match tyA cf E0 with
  | some ⟨.l s, .sl E, _⟩ => k (newO σ d .mw (.bo s E E0 []))
  | some ⟨ty, .st n, _⟩ => (match vrOf cf d with
    | some (i, E1) => (match fld n ty i with
      | some ⟨_, .l s, _, _⟩ => k (newO σ d .mw (.vr ty E0 s E1 n i ty.z []))
      | _ => none)
    | none => none)
  | _ => none
def coBox (σ : Sg) (d : Option Tmp) (E0 : TypeId) (x : Operand) (k : Sg → Option R) : Option R := match tyA cf E0, vrOf cf d, opv cx σ x with
  | some ⟨ty, .st n, _⟩, some (i, E1), some (.dz t2 y n2 i2) => (match fld n ty i with
    | some ⟨_, .l s, _, _⟩ => grd (Nat.beq n2 n && (Nat.beq i2 i && (Ty.same ty t2).isSome)) <| Ty.cast t2 ty y fun y => k (newO σ d .mw (.vr ty E0 s E1 n i y []))
    | _ => none)
  | _, _, _ => none
def coBuild (σ : Sg) (d : Option Tmp) (t : TypeId) (ps : List (Nat × Operand)) (k : Sg → Option R) : Option R := match tyA cf t, vrOf cf d with
  | some ⟨ty, .st n, _⟩, some (i, _) => grd (ps.all fun p => !Nat.beq p.1 i) (match fld n ty i with
    | some ⟨_, .l _, _, _⟩ => bldH cx σ n ty ps ty.z fun y => k (σ.put d [(0, .dz ty y n i)])
    | _ => none)
  | _, _ => none
def coTakV (σ : Sg) (d : Option Tmp) (t : TypeId) (o : Nat) (k : Sg → Option R) : Option R := match tyA cf t, fndO σ.ob o with
  | some ⟨.l s', .sl _, _⟩, some (.vr s1 E s2 E1 n j z xs) => grd (Ty.same s' s2).isSome <| k ⟨σ.nx + 1, putR σ.rg d [(0, .ow σ.nx)], (σ.nx, .own s2 E1 xs) :: seto σ.ob o (.vh s1 E s2 E1 n j z)⟩
  | _, _ => none
def ownFd (σ : Sg) : Option Dv → Option Nat
  | some (.vf o s0 n0 i) => (match fndO σ.ob o with
    | some (.vr s _ _ _ n j _ _) => bif Nat.beq i j && (Nat.beq n0 n && (Ty.same s0 s).isSome) then some o else none
    | _ => none)
  | _ => none
def coTake (σ : Sg) (d : Option Tmp) (t : TypeId) (o : Nat) (k : Sg → Option R) : Option R := match tyA cf t, fndO σ.ob o with
  | some ⟨.l _, .sl _, _⟩, some (.bo s E E0 xs) => k ⟨σ.nx + 1, putR σ.rg d [(0, .ow σ.nx)], (σ.nx, .own s E xs) :: seto σ.ob o (.ho E0)⟩
  | _, _ => none
def coApp (σ : Sg) (d : Option Tmp) (ags : List Operand) (ts : List TypeId) (k : Sg → Option R) : Option R := match ags, ts with
  | [x, y], [t, t'] => (match tyA cf t, opv cx σ x, opv cx σ y with
    | some ⟨.l (.l s), .sl E, _⟩, some (.mw o), some (.mw p) => grd (Nat.beq t t' && !Nat.beq o p) (match tyA cf E, fndO σ.ob o, fndO σ.ob p with
      | some ⟨.l _, .sl _, B⟩, some (.mat s1 E1 F1 xss ix), some (.mat s2 E2 F2 yss iy) => grd (Nat.beq E1 E && (Nat.beq E2 E && Nat.beq F1 F2)) <| Ty.cast (.l (.l s2)) (.l (.l s1)) yss fun yss =>
        ck ((List.length ix + List.length iy) * B ≤ 140737488355328) <| nm (appD (α := List s1.D) xss yss) fun zss => nm (ix ++ iy.map (List.length xss + ·)) fun iz => k ⟨σ.nx + 1, putR σ.rg d [(0, .mw σ.nx)], (σ.nx, .mat s1 E1 F1 zss iz) :: delo (delo σ.ob o) p⟩
      | _, _, _ => none)
    | _, _, _ => none)
  | _, _ => none
def coStrike (σ : Sg) (d : Option Tmp) (s : MSig) (ags : List Operand) (k : Sg → Option R) : Option R := match ags with
  | [x, a, p, y] => (match opv cx σ x, pd cx σ a, pd cx σ p, opv cx σ y with
    | some (.rw o r), some ⟨.i, a⟩, some ⟨.i, p⟩, some (.mv o' lo n) => grd (Nat.beq o o') (match fndO σ.ob o with
      | some (.mat s1 E E1 xss ix) => grd (Nat.beq E s.E && Nat.beq E1 s.E1) <| Ty.cast (.l (.l s1)) (.l (.l s.t)) xss fun xss =>
        bd (s.M xss ix r a p lo n) fun xss => k ⟨σ.nx + 1, renM o σ.nx (putR σ.rg d []), (σ.nx, .mat s.t E E1 xss ix) :: delo σ.ob o⟩
      | _ => none)
    | _, _, _, _ => none)
  | _ => none
def coLend (σ : Sg) (d : Option Tmp) (s : VSig) (ags : List Operand) (k : Sg → Option R) : Option R := match ags with
  | x :: xs => (match opv cx σ x with
    | some (.mw o) => (match fndO σ.ob o with
      | some (.vr t' E' s' E1' n' i' z ys) => grd (Nat.beq E' s.E && (Nat.beq E1' s.E1 && (Nat.beq n' s.n && Nat.beq i' s.i))) <| Ty.cast t' s.t z fun z => Ty.cast (.l s') (.l s.s) ys fun ys =>
        argsT cx σ s.dom xs fun y => bd (s.M z ys y) fun q => k ⟨σ.nx + 1, renM o σ.nx (putR σ.rg d []), (σ.nx, .vr s.t s.E s.s s.E1 s.n s.i q.1 q.2) :: delo σ.ob o⟩
      | _ => none)
    | _ => none)
  | [] => none
def coYield (σ : Sg) (d : Option Tmp) (o : Nat) (ags : List Operand) (k : Sg → Option R) : Option R := match ags with
  | [x] => (match opv cx σ x with
    | some (.ow p) => grd (!Nat.beq o p) (match fndO σ.ob o, fndO σ.ob p with
      | some (.hid t E X Y mX mY g z), some (.own s E2 ys) => grd (Nat.beq E2 E) <| Ty.cast (.l s) (.l t) ys fun ys =>
        bd (g ys z) fun r => Sum.elim (fun x' => k ⟨σ.nx + 1, renY o σ.nx (putR σ.rg d [(0, .kb true)]), (σ.nx, .hid t E X Y mX mY g x') :: delo (seto σ.ob p (.own t E2 r.1)) o⟩)
          (fun y' => k ⟨σ.nx + 1, renY o σ.nx (putR σ.rg d [(0, .kb false)]), (σ.nx, .hiy Y mY y') :: delo (seto σ.ob p (.own t E2 r.1)) o⟩) r.2
      | _, _ => none)
    | _ => none)
  | _ => none
inductive CoM
  | no
  | st (t : TypeId) (x y : Operand)
  | ma (t : TypeId) (x y : Operand)
  | lit (t : TypeId) (n : Nat) (ps : Array (Nat × Operand))
  | al (E : TypeId)
  | tk (t : TypeId) (o : Nat)
  | tv (t : TypeId) (o : Nat)
  | bz (t : TypeId) (ps : Array (Nat × Operand))
  | bx (E : TypeId) (x : Operand)
  | ap (ags : Array Operand) (ts : Array TypeId)
  | sk (s : MSig) (ags : Array Operand)
  | vc (s : VSig) (ags : Array Operand)
  | yl (o : Nat) (ags : Array Operand)
def coM (σ : Sg) (d : Option Tmp) : Op → CoM
  | .store t x y => bif isCo (opv cx σ x) then .st t x y else .no
  | .makeSlice t x y => bif isMt cf d then .ma t x y else .no
  | .buildSlice t n ps => bif isMt cf d then .lit t n ps else .no
  | .alloc E => bif isMt cf d || (vrOf cf d).isSome then .al E else .no
  | .build t ps => bif (vrOf cf d).isSome then .bz t ps else .no
  | .box E x => bif (vrOf cf d).isSome then .bx E x else .no
  | .load t x => (match opv cx σ x with
    | some (.mw o) => .tk t o
    | v => (match isVw cf d, ownFd σ v with
      | false, some o => .tv t o
      | _, _ => .no))
  | .call ⟨.builtin .append, ags, ts⟩ => bif ags.toList.any (fun x => isMw (opv cx σ x)) then .ap ags ts else .no
  | .call ⟨.value f, ags, _⟩ => (match opv cx σ f with
    | some (.yd o) => .yl o ags
    | some (.fn f []) => (match fndM cf.ms f with
      | some s => .sk s ags
      | none => (match fndV cf.vg f with
        | some s => .vc s ags
        | none => .no))
    | _ => .no)
  | _ => .no
def mCo (σ : Sg) (d : Option Tmp) (c : CoM) (k : Sg → Option R) (k0 : Option R) : Option R := match c with
  | .no => k0
  | .st t x y => grd d.isNone (match tyA cf t with
    | some ti => coStore σ ti.ty (opv cx σ x) (opv cx σ y) k
    | none => none)
  | .ma t x y => coMake cf cx σ d t x y k
  | .lit t n ps => coLit cf cx σ d t n ps.toList k
  | .al E => coAlloc cf σ d E k
  | .tk t o => coTake cf σ d t o k
  | .tv t o => coTakV cf σ d t o k
  | .bz t ps => coBuild cf cx σ d t ps.toList k
  | .bx E x => coBox cf cx σ d E x k
  | .ap ags ts => coApp cf cx σ d ags.toList ts.toList k
  | .sk s ags => coStrike cx σ d s ags.toList k
  | .vc s ags => coLend cx σ d s ags.toList k
  | .yl o ags => coYield cx σ d o ags.toList k
def sigB (f : FuncId) : List Sig → Option Sig
  | [] => none
  | s :: r => match s.f, s.dom, s.cod, s.bk with
    | f', [.var _ _], [.var _ _], 1 => bif Nat.beq f' f then some s else sigB f r
    | _, _, _, _ => sigB f r
def mBm (σ : Sg) (d : Option Tmp) (s : Sig) (o : Nat) (k : Sg → Option R) : Option R := match s, fndO σ.ob o with
  | ⟨_, [.var t E], [.var t2 E2], M, _⟩, some (.var s' E' y) => grd (Nat.beq E E' && (Nat.beq E2 E && (Ty.same t t2).isSome)) <| Ty.cast s' t y fun y => bd (M (y, ())) fun z => k ⟨σ.nx, putR σ.rg d [], seto σ.ob o (.var t2 E2 z)⟩
  | _, _ => none
def mOp0 (σ : Sg) (d : Option Tmp) (op : Op) (k : Sg → Option R) : Option R :=
  match op with
  | .alloc E => mAlloc cf σ d E k
  | .box E x => cnd (isBx cf d) (mBox cf cx σ d E x k) (mE cf cx σ d (.box E x) k)
  | .store t x y => grd d.isNone (match tyA cf t with
    | some ti => mStore σ ti.ty (opv cx σ x) (opv cx σ y) k
    | none => none)
  | .makeSlice t x y => mMake cf cx σ d t x y k
  | .buildSlice t n ps => mLit cf cx σ d t n ps.toList k
  | .slice t x none (some hi) none => (match opv cx σ x with
    | some (.ow o) => mSlice cf cx σ d t o hi k
    | _ => mE cf cx σ d (.slice t x none (some hi) none) k)
  | .call ⟨.builtin .append, ags, ts⟩ => mApp cf cx σ d ags.toList ts.toList k
  | .call ⟨.builtin .copy, ags, ts⟩ => mCopy cf cx σ d ags.toList ts.toList k
  | .call ⟨.value f, ags, ts⟩ => (match opv cx σ f with
    | some (.fn f' cs) => (match sigG cx σ f' ags.toList cf.cs with
      | some s => mCall cf cx σ d s ags.toList cs k
      | none => mE cf cx σ d (.call ⟨.value f, ags, ts⟩) k)
    | some (.bm f' o t) => (match ags.toList, sigB f' cf.cs with
      | [], some s => mBm σ d s o k
      | _, _ => none)
    | _ => mE cf cx σ d (.call ⟨.value f, ags, ts⟩) k)
  | op => mE cf cx σ d op k
def mOp (σ : Sg) (d : Option Tmp) (op : Op) (k : Sg → Option R) : Option R := mCo cf cx σ d (coM cf cx σ d op) k (mOp0 cf cx σ d op k)
def panX (σ : Sg) : Op → Option Operand
  | .panic x => some x
  | _ => none
def mOpP (σ : Sg) (d : Option Tmp) (op : Op) (kp : PX → Sg → Option R) (k : Sg → Option R) : Option R := match panO cf cx σ op with
  | some (p, ags, cs) => mPan cf cx σ d p ags cs kp k
  | none => (match panX σ op with
    | some x => (match opv cx σ x with
      | some (.ifc q) => kp q σ
      | _ => none)
    | none => mOp cf cx σ d op k)
def know (σ : Sg) (t : Tmp) (b : Bool) : Sg := ⟨σ.nx, putR σ.rg (some t) [(0, .kb b)], σ.ob⟩
def guardD (all : List Oper) (o : Oper) (σ : Sg) (k : Sg → Bool → Option R) : Option R := match o.guard with
  | none => k σ true
  | some (j, want) => match all[j]? with
    | some o' => (match o'.dst with
      | some t => (match get cx σ t 0 with
        | some (.kb b) => k σ (b == want)
        | some .un => k σ false
        | some (.d .b x) => grd (notIn cx.rg t) <| ifB x (k (know σ t true) (true == want)) (k (know σ t false) (false == want))
        | _ => none)
      | none => none)
    | none => none
def pickD (o : Oper) (σ : Sg) (k : Sg → Option R) : Option R := match o.op with
  | .pick (.tmp t) _ _ => (match get cx σ t 0 with
    | some (.d .b x) => grd (notIn cx.rg t) <| ifB x (k (know σ t true)) (k (know σ t false))
    | _ => k σ)
  | _ => k σ
def runL (all : List Oper) (kp : PX → Sg → Option R) : List Oper → Sg → (Sg → Option R) → Option R
  | [], σ, k => k σ
  | o :: r, σ, k => grd (okPut cx o.dst) <| guardD cx all o σ fun σ w => cnd w
      (pickD cx o σ fun σ => (let σ := frzL cx σ (onto cf cx σ o.dst o.op); mOpP cf cx σ o.dst o.op kp fun σ => runL all kp r σ k))
      (runL all kp r (σ.put o.dst [(0, .un)]) k)
def runE (all : List Oper) : List Oper → Sg → (Sg → Option R) → Option R
  | [], σ, k => k σ
  | o :: r, σ, k => grd (okPut cx o.dst) <| guardD cx all o σ fun σ w => cnd w
      (pickD cx o σ fun σ => eOp cf cx σ o.op fun l => grd (okL σ.nx l) <| runE all r (σ.put o.dst l) k)
      (runE all r (σ.put o.dst [(0, .un)]) k)
def dd : List (Nat × Nat × Dv) → List (Nat × Nat × Dv)
  | [] => []
  | e :: r => e :: (dd r).filter fun f => !(Nat.beq e.1 f.1 && Nat.beq e.2.1 f.2.1)
structure Rb where
  a : Option Nat
  c : Option Nat
  rd : List Nat
  o : Nat
  x : Od
structure Oi where
  lo : Nat
  hi : Nat
  refs : List Nat
def refsL (ts : List Tmp) : List (Nat × Nat × Dv) → List Nat
  | [] => []
  | (t, _, v) :: r => (match has ts t, refO v with
    | true, some o => o :: refsL ts r
    | _, _ => refsL ts r)
def refsO : List (Nat × Dv) → List Nat
  | [] => []
  | (_, v) :: r => (match refO v with
    | some o => o :: refsO r
    | none => refsO r)
def slotsL (ts : List Tmp) : List (Nat × Nat × Dv) → List (Nat × Nat × Dv)
  | [] => []
  | (t, i, v) :: r => (match has ts t with
    | true => (t, i, v) :: slotsL ts r
    | false => slotsL ts r)
def dstL (d : Option Tmp) (rg : List (Nat × Nat × Dv)) : List (Nat × Dv) := match d with
  | some t => rg.filterMap fun e => match Nat.beq e.1 t with
    | true => some (e.2.1, e.2.2)
    | false => none
  | none => []
def visB (os : List Nat) : List Rb → List (Nat × Od)
  | [] => []
  | r :: rs => match r.c, has os r.o with
    | none, true => (r.o, r.x) :: visB os rs
    | _, _ => visB os rs
def useB (i : Nat) (os : List Nat) : List Rb → List Rb
  | [] => []
  | r :: rs => (match r.c, has os r.o with
    | none, true => ⟨r.a, some i, r.rd, r.o, r.x⟩
    | _, _ => r) :: useB i os rs
def seeB (i : Nat) (os : List Nat) : List Rb → List Rb
  | [] => []
  | r :: rs => (match r.c, has os r.o with
    | none, true => ⟨r.a, none, i :: r.rd, r.o, r.x⟩
    | _, _ => r) :: seeB i os rs
def newB (i : Nat) (ob : List (Nat × Od)) : List Rb := ob.map fun e => ⟨some i, none, [], e.1, e.2⟩
def oldB (ob : List (Nat × Od)) : List Rb := ob.map fun e => ⟨none, none, [], e.1, e.2⟩
def endB : List Rb → List (Nat × Od)
  | [] => []
  | r :: rs => match r.c with
    | none => (r.o, r.x) :: endB rs
    | some _ => endB rs
def okO (n : Nat) (ob : List (Nat × Od)) : Bool := ob.all fun e => Nat.blt e.1 n
def frzOs (σ : Sg) : List Nat → Sg
  | [] => σ
  | o :: r => frzOs (frzO σ o) r
def noOwnR : List RM → Bool
  | [] => true
  | .own _ _ :: _ => false
  | .var _ _ :: _ => false
  | _ :: r => noOwnR r
def isMop (σ : Sg) (b : Bool) (d : Option Tmp) : Op → Bool
  | .alloc _ => true
  | .store _ _ _ => true
  | .makeSlice _ _ _ => true
  | .buildSlice _ _ _ => !b
  | .box _ _ => isBx cf d || (vrOf cf d).isSome
  | .build _ _ => (vrOf cf d).isSome
  | .load _ x => isMw (opv cx σ x) || (!isVw cf d && (ownFd σ (opv cx σ x)).isSome)
  | .slice _ x none (some _) none => (match opv cx σ x with
    | some (.ow _) => true
    | _ => false)
  | .call ⟨.builtin .append, _, _⟩ => true
  | .call ⟨.builtin .copy, _, _⟩ => true
  | .call ⟨.value f, ags, _⟩ => (match opv cx σ f with
    | some (.fn f' _) => (match sigG cx σ f' ags.toList cf.cs with
      | some s => !(noOwn s.dom) || (!b && !(noOwnR s.cod))
      | none => (fndM cf.ms f').isSome || (fndV cf.vg f').isSome)
    | some (.yd _) => true
    | some (.bm _ _ _) => true
    | _ => false)
  | _ => false
def fzB (fz : List Nat) : Option Tmp → Bool
  | some t => has fz t
  | none => false
def frzB (b : Bool) (d : Option Tmp) (τ : Sg) : Sg := match b with
  | true => frzOs τ (refsO (dstL d τ.rg))
  | false => τ
def stepB (τ : Sg) (d : Option Tmp) (k : List (Nat × Dv) → Nat → List (Nat × Od) → Option R) : Option R := grd (okL τ.nx (dstL d τ.rg) && okO τ.nx τ.ob) <| k (dstL d τ.rg) τ.nx τ.ob
def lookE (os : List Nat) : Op → List Nat
  | .move _ => []
  | .assign _ => []
  | _ => os
def skipB (all : List Oper) (pn : Option (Nat × PX)) (i : Nat) : Bool := match pn with
  | some (i0, _) => reachB all 16 i i0
  | none => false
def runB (all : List Oper) (fz : List Nat) : Option (Nat × PX) → List Oper → Nat → Sg → List Rb → List Oi → (Option (Nat × PX) → Sg → List Rb → List Oi → Option R) → Option R
  | pn, [], _, σ, rs, is, k => k pn σ rs is
  | pn, o :: r, i, σ, rs, is, k => grd (okPut cx o.dst) <| cnd (skipB all pn i) (runB all fz pn r (i + 1) (σ.put o.dst []) rs (is ++ [⟨σ.nx, σ.nx, []⟩]) k) <| guardD cx all o σ fun σ w => cnd w
      (pickD cx o σ fun σ => cnd (isMop cf cx ⟨σ.nx, σ.rg, visB (refsL (Oper.looksAt all.toArray o) σ.rg) rs⟩ (fzB fz o.dst) o.dst o.op || (panO cf cx σ o.op).isSome)
        (mOpP cf ⟨0, [], cx.ob⟩ ⟨σ.nx, dd (slotsL (Oper.looksAt all.toArray o) (σ.rg ++ cx.rg)), visB (refsL (Oper.looksAt all.toArray o) σ.rg) rs⟩ o.dst o.op (fun q _ => match pn with
          | some _ => none
          | none => runB all fz (some (i, q)) r (i + 1) (σ.put o.dst []) (useB i (refsL (Oper.looksAt all.toArray o) σ.rg) rs) (is ++ [⟨σ.nx, σ.nx, []⟩]) k) fun τ =>
          stepB (frzB (fzB fz o.dst) o.dst τ) o.dst fun l n ob => runB all fz pn r (i + 1) ⟨n, putR σ.rg o.dst l, []⟩ (useB i (refsL (Oper.looksAt all.toArray o) σ.rg) rs ++ newB i ob) (is ++ [⟨σ.nx, n, refsO l⟩]) k)
        (eOp cf cx ⟨σ.nx, σ.rg, visB (lookE (refsL (Oper.looksAt all.toArray o) σ.rg) o.op) rs⟩ o.op fun l => grd (okL σ.nx l) <| runB all fz pn r (i + 1) (σ.put o.dst l) (seeB i (lookE (refsL (Oper.looksAt all.toArray o) σ.rg) o.op) rs) (is ++ [⟨σ.nx, σ.nx, refsO l⟩]) k))
      (runB all fz pn r (i + 1) (σ.put o.dst [(0, .un)]) rs (is ++ [⟨σ.nx, σ.nx, []⟩]) k)
def inB (I : Oi) (o : Nat) : Bool := Nat.ble I.lo o && Nat.blt o I.hi
def chkN (l : List Oper) (i : Nat) (I : Oi) (rs : List Rb) (js : List (Oi × Nat)) : Bool :=
  (rs.all fun r => !inB I r.o || (match r.a with
    | some j => Nat.beq j i || reachB l 16 j i
    | none => false)) && js.all fun J => J.1.refs.all fun p => !inB I p || Nat.beq J.2 i || reachB l 16 J.2 i
def chkB (l : List Oper) (m : Nat) (rs : List Rb) (is : List Oi) : Bool :=
  (rs.all fun r => (match r.a with
      | some j => Nat.blt j m && r.rd.all fun i => reachB l 16 i j
      | none => true) && (match r.c with
      | some k => Nat.blt k m && (match r.a with
        | some j => reachB l 16 k j
        | none => true) && r.rd.all fun i => reachB l 16 k i
      | none => true)) &&
  (is.zipIdx.all fun J => chkN l J.2 J.1 rs is.zipIdx) &&
  (List.range m).all fun i => (List.range m).all fun j => Nat.beq i j || (match (opAt l i).dst with
    | some t => !((opAt l j).dst == some t)
    | none => true)
def drawnN (l : List Oper) : Nat → Nat → Nat
  | 0, m => m
  | f + 1, m => bif Nat.blt 1 m && drawOK2 l (m - 1) then drawnN l f (m - 1) else m
def rslv (al : List (Nat × Operand)) : Operand → Operand
  | .tmp t => (match fndA al t with
    | some x => x
    | none => .tmp t)
  | x => x
def alias (al : List (Nat × Operand)) (o : Oper) : List (Nat × Operand) := match o.op, o.dst with
  | .move x, some d => (d, rslv al x) :: al
  | .assign x, some d => (d, rslv al x) :: al
  | _, _ => al
def frzA : List Oper → List (Nat × Operand) → Sg → Sg
  | [], _, σ => σ
  | o :: r, al, σ => frzA r (alias al o) (frzL cx σ ((onto cf cx σ o.dst o.op).map (rslv al)))
def fzOf (id : Nat) : List Nat := match fndA cf.an.dz id with
  | some l => l
  | none => []
def dsts (l : List Oper) : List Nat := l.filterMap (·.dst)
def keptB : List Rb → List (Nat × Od)
  | [] => []
  | r :: rs => (match r.a, r.c with
    | none, none => (r.o, r.x) :: keptB rs
    | _, _ => keptB rs)
def regB (id : Nat) (l : List Oper) (m : Nat) (σ : Sg) (kp : PX → Sg → Option R) (k : Sg → Option R) : Option R :=
  let fz := fzOf cf id
  let σ0 := frzOs σ (refsL fz σ.rg)
  runB cf cx l fz none (l.take m) 0 ⟨σ0.nx, σ0.rg, []⟩ (oldB σ0.ob) [] fun pn σ rs is => grd (chkB l m rs is) <| match pn with
    | none => runL cf cx l kp (l.drop m) ⟨σ.nx, dd σ.rg, endB rs⟩ k
    | some (_, q) => kp q ⟨σ.nx, σ0.rg.filter (fun e => !has (dsts (l.take m)) e.1), keptB rs⟩
def hasB (id : Nat) : Bool := match fndA cf.an.dz id with
  | some _ => true
  | none => false
def regD (id : Nat) (l : List Oper) (draw : Bool) (σ : Sg) (kp : PX → Sg → Option R) (k : Sg → Option R) : Option R :=
  cnd draw
    (let m := drawnN l l.length l.length
    grd (drawOK2 l m) <| cnd (hasB cf id) (regB cf cx id l m σ kp k) (runE cf cx l (l.take m) (frzA cf cx (l.take m) [] σ) fun σ => runL cf cx l kp (l.drop m) ⟨σ.nx, dd σ.rg, σ.ob⟩ k))
    (runL cf cx l kp l σ k)
def DsD : List (Nat × TF) → Type
  | [] => Unit
  | [a] => a.2.D
  | a :: b :: r => a.2.D × DsD (b :: r)
def gatF (σ : Sg) (ds : List (Nat × TF)) (t : Nat) (f : TF) (k : f.D → List Nat → Option R) : Option R := match f, k with
  | .d s, k => asD (get cx σ t 0) s fun y => k y []
  | .q s, k => (match get cx σ t 0 with
    | some (.q s' x) => Ty.cast s' s x fun y => k y []
    | _ => none)
  | .own s E, k => (match get cx σ t 0 with
    | some (.ow o) => (match fndO σ.ob o with
      | some (.own s' E' xs) => grd (Nat.beq E E') <| Ty.cast (.l s') (.l s) xs fun y => k y [o]
      | _ => none)
    | some .nil => k ([] : List s.D) []
    | _ => none)
  | .var s E, k => (match get cx σ t 0 with
    | some (.vs o _) => (match fndO σ.ob o with
      | some (.var s' E' z) => grd (Nat.beq E E') <| Ty.cast s' s z fun y => k y [o]
      | _ => none)
    | _ => none)
  | .mat s E E1, k => (match get cx σ t 0 with
    | some (.mw o) => (match fndO σ.ob o with
      | some (.mat s' E' F' xss ix) => grd (Nat.beq E E' && Nat.beq E1 F') <| Ty.cast (.l (.l s')) (.l (.l s)) xss fun y => k (y, ix) [o]
      | _ => none)
    | some .nil => k (([], []) : List (List s.D) × List Nat) []
    | _ => none)
  | .matv s E E1, k => (match get cx σ t 0 with
    | some (.mv o lo n) => (match fndO σ.ob o with
      | some (.mat s' E' F' xss ix) => grd (Nat.beq E E' && Nat.beq E1 F') <| Ty.cast (.l (.l s')) (.l (.l s)) xss fun y => k ((y, ix), (lo, n)) [o]
      | _ => none)
    | _ => none)
  | .row j, k => (match get cx σ t 0, ds[j]? with
    | some (.rw o r), some (s, .mat _ _ _) => (match get cx σ s 0 with
      | some (.mw o') => grd (Nat.beq o o') <| k r []
      | _ => none)
    | some (.rw o r), some (s, .matv _ _ _) => (match get cx σ s 0 with
      | some (.mv o' _ _) => grd (Nat.beq o o') <| k r []
      | _ => none)
    | _, _ => none)
  | .view j, k => (match get cx σ t 0, ds[j]? with
    | some (.mv o lo n), some (s, .mat _ _ _) => (match get cx σ s 0 with
      | some (.mw o') => grd (Nat.beq o o') <| k (lo, n) []
      | _ => none)
    | some (.mv o lo n), some (s, .matv _ _ _) => (match get cx σ s 0 with
      | some (.mv o' _ _) => grd (Nat.beq o o') <| k (lo, n) []
      | _ => none)
    | _, _ => none)
  | .vr s E s2 E1 n i, k => (match get cx σ t 0 with
    | some (.mw o) => (match fndO σ.ob o with
      | some (.vr s' E' s2' F' n' i' z xs) => grd (Nat.beq E E' && (Nat.beq E1 F' && (Nat.beq n n' && Nat.beq i i'))) <| Ty.cast s' s z fun z => Ty.cast (.l s2') (.l s2) xs fun xs => k (z, xs) [o]
      | _ => none)
    | _ => none)
  | .bo s E E0, k => (match get cx σ t 0 with
    | some (.mw o) => (match fndO σ.ob o with
      | some (.bo s' E' F' xs) => grd (Nat.beq E E' && Nat.beq E0 F') <| Ty.cast (.l s') (.l s) xs fun y => k y [o]
      | _ => none)
    | _ => none)
def noneIn (os : List Nat) : List Nat → Bool
  | [] => true
  | o :: r => !has os o && noneIn os r
def gat (σ : Sg) (ds : List (Nat × TF)) : (l : List (Nat × TF)) → (DsD l → List Nat → Option R) → Option R
  | [], k => k () []
  | [a], k => gatF cx σ ds a.1 a.2 k
  | a :: b :: r, k => gatF cx σ ds a.1 a.2 fun x o => gat σ ds (b :: r) fun y os => grd (noneIn os o) <| k (x, y) (o ++ os)
def nsOK (σ : Sg) : List (Nat × NF) → Bool
  | [] => true
  | (t, f) :: r => (match f, get cx σ t 0 with
    | .kb b, some (.kb c) => b == c
    | .nil, some .nil => true
    | .ci x, some (.d .i y) => eqI x y
    | .cu x, some (.d .u y) => eqU x y
    | .al s, some (.ow o) => (match get cx σ s 0 with
      | some (.ow o') => Nat.beq o o'
      | _ => false)
    | .al s, some (.vs o _) => (match get cx σ s 0 with
      | some (.vs o' _) => Nat.beq o o'
      | _ => false)
    | .al s, some (.mw o) => (match get cx σ s 0 with
      | some (.mw o') => Nat.beq o o'
      | _ => false)
    | .bm s f, some (.bm f' o _) => (match get cx σ s 0 with
      | some (.vs o' _) => Nat.beq o o' && Nat.beq f f'
      | _ => false)
    | _, _ => false) && nsOK σ r
def bldF (n0 o : Nat) (f : TF) (x : f.D) : Dv × Option Od := match f, x with
  | .d t, x => (.d t x, none)
  | .q t, x => (.q t x, none)
  | .own t E, x => (.ow o, some (.own t E x))
  | .var t E, x => (.vs o t, some (.var t E x))
  | .mat t E E1, x => (.mw o, some (.mat t E E1 x.1 x.2))
  | .matv t E E1, x => (.mv o x.2.1 x.2.2, some (.mat t E E1 x.1.1 x.1.2))
  | .row j, r => (.rw (n0 + j) r, none)
  | .view j, r => (.mv (n0 + j) r.1 r.2, none)
  | .bo t E E0, x => (.mw o, some (.bo t E E0 x))
  | .vr t E s E1 n i, x => (.mw o, some (.vr t E s E1 n i x.1 x.2))
def bld (n0 : Nat) : (l : List (Nat × TF)) → DsD l → Nat → List (Nat × Nat × Dv) × List (Nat × Od)
  | [], _, _ => ([], [])
  | [a], x, o => let v := bldF n0 o a.2 x
    ([(a.1, 0, v.1)], match v.2 with
      | some y => [(o, y)]
      | none => [])
  | a :: b :: r, x, o => let v := bldF n0 o a.2 x.1
    let y := bld n0 (b :: r) x.2 (o + 1)
    ((a.1, 0, v.1) :: y.1, match v.2 with
      | some q => (o, q) :: y.2
      | none => y.2)
def bldN (rg : List (Nat × Nat × Dv)) : List (Nat × NF) → List (Nat × Nat × Dv)
  | [] => rg
  | (t, f) :: r => (match f with
    | .kb b => [(t, 0, .kb b)]
    | .nil => [(t, 0, .nil)]
    | .ci x => [(t, 0, .d .i x)]
    | .cu x => [(t, 0, .d .u x)]
    | .al s => (match fnd rg s 0 with
      | some v => [(t, 0, v)]
      | none => [])
    | .bm s f => (match fnd rg s 0 with
      | some (.vs o q) => [(t, 0, .bm f o q)]
      | _ => [])) ++ bldN rg r
def bldS (sh : Sh) (x : DsD sh.ds) (kp : Sg) : Sg :=
  let y := bld kp.nx sh.ds x kp.nx
  ⟨kp.nx + sh.ds.length, bldN y.1 sh.ns ++ y.1 ++ kp.rg, y.2 ++ kp.ob⟩
def frzS (σ : Sg) : List (Nat × TF) → Sg
  | [] => σ
  | (t, .d _) :: r => frzS (frz cx σ (.tmp t)) r
  | _ :: r => frzS σ r
def outS (sh : Sh) (σ : Sg) (k : DsD sh.ds → Option R) : Option R := let σ := frzS cx σ sh.ds
  grd (nsOK cx σ sh.ns) <| gat cx σ sh.ds sh.ds fun x _ => k x
def EndD (a : Tg × Sh) : Type := match a.1 with
  | .p _ => PX × DsD a.2.ds
  | _ => DsD a.2.ds
def SmD : List (Tg × Sh) → Type
  | [] => Empty
  | [a] => EndD a
  | a :: b :: r => EndD a ⊕ SmD (b :: r)
def tgEq : Tg → Tg → Bool
  | .n, .n => true
  | .x i, .x j => Nat.beq i j
  | .r, .r => true
  | .p _, .p _ => true
  | _, _ => false
def endS (σ : Sg) (t : Tg) : (a : Tg × Sh) → (EndD a → Option R) → Option R
  | (.p _, sh), k => (match t with
    | .p q => outS cx sh σ fun x => k (q, x)
    | _ => none)
  | (.n, sh), k => outS cx sh σ k
  | (.x _, sh), k => outS cx sh σ k
  | (.r, sh), k => outS cx sh σ k
def elimE (kp : Sg) (K : Tg → Sg → Option R) : (a : Tg × Sh) → EndD a → Option R
  | (.p _, sh) => fun x => K (.p x.1) (bldS sh x.2 kp)
  | (.n, sh) => fun x => K .n (bldS sh x kp)
  | (.x i, sh) => fun x => K (.x i) (bldS sh x kp)
  | (.r, sh) => fun x => K .r (bldS sh x kp)
def injS (σ : Sg) (t : Tg) : (l : List (Tg × Sh)) → (SmD l → Option R) → Option R
  | [], _ => none
  | [a], k => grd (tgEq a.1 t) <| endS cx σ t a k
  | a :: b :: r, k => cnd (tgEq a.1 t) (endS cx σ t a fun x => k (.inl x)) (injS σ t (b :: r) fun y => k (.inr y))
def elimS (kp : Sg) (K : Tg → Sg → Option R) : (l : List (Tg × Sh)) → SmD l → Option R
  | [] => fun _ => none
  | [a] => fun x => elimE kp K a x
  | a :: b :: r => fun x => Sum.elim (α := EndD a) (β := SmD (b :: r)) (fun x => elimE kp K a x) (elimS kp K (b :: r)) x
def asg : Code → List Nat
  | .region _ ops _ => ops.toList.filterMap (·.dst)
  | .seq a b => asg a ++ asg b
  | .cond _ a b => asg a ++ asg b
  | .block _ c => asg c
  | .loop c => asg c
  | .scope c => asg c
  | .rangeFunc _ ps a c => ps.toList ++ (asg a ++ asg c)
  | _ => []
def rid : Code → Option Nat
  | .region i _ _ => some i
  | .seq a b => (match rid a with
    | some i => some i
    | none => rid b)
  | .cond _ a b => (match rid a with
    | some i => some i
    | none => rid b)
  | .block _ c => rid c
  | .loop c => rid c
  | .scope c => rid c
  | .rangeFunc _ _ a c => (match rid a with
    | some i => some i
    | none => rid c)
  | _ => none
def oneUp : Option Nat → Nat
  | some i => i + 1
  | none => 0
def jkey (a b : Code) : Nat := oneUp (rid a) * 65536 + oneUp (rid b)
def keptO (σ : Sg) : List Nat → List Nat
  | [] => []
  | t :: r => match fnd σ.rg t 0 with
    | some v => (match refO v with
      | some o => o :: keptO σ r
      | none => keptO σ r)
    | none => keptO σ r
def isKept (ags ko : List Nat) (e : Nat × Nat × Dv) : Bool := !has ags e.1 && (match refO e.2.2 with
  | some o => has ko o
  | none => true)
def keep (σ : Sg) (ags ro : List Nat) : Sg := let ko := keptO σ ro
  ⟨σ.nx, σ.rg.filter (isKept ags ko), σ.ob.filter fun e => has ko e.1⟩
def rest (σ : Sg) (ags ro : List Nat) : Sg := let ko := keptO σ ro
  ⟨σ.nx, σ.rg.filter (fun e => !isKept ags ko e), σ.ob.filter fun e => !has ko e.1⟩
def addC (cx kp : Sg) : Sg := ⟨kp.nx, kp.rg ++ cx.rg, kp.ob ++ cx.ob⟩
def memK : List (Nat × TF) → Bool
  | [] => true
  | (_, .own _ _) :: r => memK r
  | (_, .var _ _) :: r => memK r
  | (_, .mat _ _ _) :: r => memK r
  | (_, .bo _ _ _) :: r => memK r
  | _ => false
def pinR : List (Nat × TF) → Nat → List (Nat × Nat × Dv)
  | [], _ => []
  | (t, .mat _ _ _) :: r, n => (t, 0, .mw n) :: pinR r (n + 1)
  | (t, .bo _ _ _) :: r, n => (t, 0, .mw n) :: pinR r (n + 1)
  | (t, _) :: r, n => (t, 0, .ow n) :: pinR r (n + 1)
def consD {a : Nat × TF} : {l : List (Nat × TF)} → a.2.D → DsD l → DsD (a :: l)
  | [], y, _ => y
  | _ :: _, y, x => (y, x)
def unD {a : Nat × TF} : {l : List (Nat × TF)} → DsD (a :: l) → a.2.D × DsD l
  | [], z => (z, ())
  | _ :: _, z => z
def rndH (pt : Nat) (t : Ty) (E : TypeId) (ds : List (Nat × TF)) : Sh := ⟨(pt, .own t E) :: ds, []⟩
def slots1 (ds : List (Nat × TF)) (t : Nat) : Bool := ds.all fun e => !Nat.beq e.1 t
def once : List (Nat × TF) → Bool
  | [] => true
  | e :: r => slots1 r e.1 && once r
def cpR (cx' : Sg) (n : Nat) (sh : Sh) : Sg := ⟨n + sh.ds.length, pinR sh.ds n ++ cx'.rg, cx'.ob⟩
def endK (cp : Sg) (ds : List (Nat × TF)) (t : Ty) (E : TypeId) (pt : Nat) (τ : Tg) (q : Tg) (σ : Sg) : Option (List t.D × (DsD ds ⊕ DsD ds)) := match q with
  | .n => outS cp (rndH pt t E ds) σ fun z => some ((unD z).1, .inl (unD z).2)
  | .x i => grd (tgEq τ (.x i)) <| outS cp (rndH pt t E ds) σ fun z => some ((unD z).1, .inr (unD z).2)
  | .r => grd (tgEq τ .r) <| outS cp (rndH pt t E ds) σ fun z => some ((unD z).1, .inr (unD z).2)
  | .p _ => none
def rndG (cx' : Sg) (n : Nat) (ds : List (Nat × TF)) (t : Ty) (E : TypeId) (pt : Nat) (τ : Tg)
    (ea ec : Sg → Sg → (Tg → Sg → Option (List t.D × (DsD ds ⊕ DsD ds))) → Option (List t.D × (DsD ds ⊕ DsD ds))) (ys : List t.D) (x : DsD ds) : Option (List t.D × (DsD ds ⊕ DsD ds)) :=
  ea (cpR cx' n (rndH pt t E ds)) (bldS (rndH pt t E ds) (consD (a := (pt, .own t E)) ys x) ⟨n, [], []⟩) fun q σ => match q with
    | .n => ec (cpR cx' n (rndH pt t E ds)) σ (endK (cpR cx' n (rndH pt t E ds)) ds t E pt τ)
    | _ => none
def isPT : Tg → Bool
  | .p _ => true
  | _ => false
def rangeD {R : Type} (cx σ : Sg) (K : Tg → Sg → Option R) (s : Lp) (it : ISig) (y : AsD it.dom) (τ : Tg) (pt : Nat) (ags : List Nat)
    (ea ec : Sg → Sg → (Tg → Sg → Option (List it.t.D × (DsD s.hd.ds ⊕ DsD s.hd.ds))) → Option (List it.t.D × (DsD s.hd.ds ⊕ DsD s.hd.ds))) : Option R :=
  let kp := keep σ ags s.sg.ro
  let cx' := addC cx kp
  grd (memK s.hd.ds && (!isPT τ && once (rndH pt it.t it.E s.hd.ds).ds && notIn cx'.rg pt)) <| outS cx' s.hd (rest σ ags s.sg.ro) fun x =>
    bd (it.M (X := DsD s.hd.ds) (Y := DsD s.hd.ds) y (rndG cx' kp.nx s.hd.ds it.t it.E pt τ ea ec) x) fun r => Sum.elim (fun x => K .n (bldS s.hd x kp)) (fun x => K τ (bldS s.hd x kp)) r
def noR : Code → Bool
  | .seq a b => noR a && noR b
  | .cond _ a b => noR a && noR b
  | .block _ c => noR c
  | .loop c => noR c
  | .scope c => noR c
  | .rangeFunc _ _ _ _ => false
  | _ => true
end
def den (cf : Cf) : Code → {R : Type} → Sg → Sg → (Tg → Sg → Option R) → Option R
  | .skip, _, cx, σ, K => K .n σ
  | .label _, _, cx, σ, K => K .n σ
  | .exit id, _, cx, σ, K => K (.x id) σ
  | .ret, _, cx, σ, K => K .r σ
  | .scope c, _, cx, σ, K => den cf c cx σ K
  | .region i ops dr, _, cx, σ, K => regD cf cx i ops.toList dr σ (fun q σ => K (.p q) σ) fun σ => K .n σ
  | .cond c a b, _, cx, σ, K => (match opv cx σ c with
    | some (.kb true) => den cf a cx σ K
    | some (.kb false) => den cf b cx σ K
    | some (.d .b x) => ifB x (den cf a cx σ K) (den cf b cx σ K)
    | _ => none)
  | .block id c, _, cx, σ, K => den cf c cx σ fun t σ => match t with
    | .x j => cnd (Nat.beq j id) (K .n σ) (K (.x j) σ)
    | t => K t σ
  | .seq a b, _, cx, σ, K =>
    (match fndA cf.an.jn (jkey a b) with
    | none => den cf a cx σ fun t σ => (match t with
      | .n => den cf b cx σ K
      | t => K t σ)
    | some s =>
      let ags := asg a
      let kp := keep σ ags s.ro
      bd (den cf a (addC cx kp) (rest σ ags s.ro) fun t σ => injS (addC cx kp) σ t s.tg some) fun x =>
        elimS kp (fun t σ => match t with
          | .n => den cf b cx σ K
          | t => K t σ) s.tg x)
  | .loop c, _, cx, σ, K =>
    (match (match rid c with
      | some i => fndA cf.an.lp i
      | none => none) with
    | none => none
    | some s =>
      let ags := asg c
      let kp := keep σ ags s.sg.ro
      let cx' := addC cx kp
      outS cx' s.hd (rest σ ags s.sg.ro) fun x =>
        bd (loopN (fun L x => den cf c cx' (bldS s.hd x ⟨kp.nx, [], []⟩) fun t σ => match t with
          | .n => outS cx' s.hd σ L
          | t => injS cx' σ t s.sg.tg some) cf.fu x) fun x => elimS kp K s.sg.tg x)
  | .rangeFunc g ps a c, _, cx, σ, K =>
    (match opv cx σ g, (match rid c with
      | some i => fndA cf.an.lp i
      | none => none), ps.toList with
    | some (.fn f cs), some s, [pt] => (match fndI cf.is f, s.sg.tg, s.hd.ns with
      | some it, [(τ, _)], [] => (match feedC it.dom cs with
        | some y => grd (noR a && noR c) <| rangeD cx σ K s it y τ pt (pt :: (asg a ++ asg c)) (fun cx σ K => den cf a cx σ K) (fun cx σ K => den cf c cx σ K)
        | none => none)
      | _, _, _ => none)
    | _, _, _ => none)
  | _, _, _, _, _ => none
def argS : (dom : List AM) → AsD dom → Nat → List (Nat × Nat × Dv) × List (Nat × Od)
  | [], _, _ => ([], [])
  | .d t :: r, x, i => let y := argS r x.2 (i + 1)
    ((i, 0, .d t x.1) :: y.1, y.2)
  | .q t :: r, x, i => let y := argS r x.2 (i + 1)
    ((i, 0, .q t x.1) :: y.1, y.2)
  | .own t E :: r, x, i => let y := argS r x.2 (i + 1)
    ((i, 0, .ow i) :: y.1, (i, .own t E x.1) :: y.2)
  | .var t E :: r, x, i => let y := argS r x.2 (i + 1)
    ((i, 0, .vs i t) :: y.1, (i, .var t E x.1) :: y.2)
  | .fn dom cod :: r, x, i => let y := argS r x.2 (i + 1)
    ((i, 0, .fp dom cod x.1) :: y.1, y.2)
def retF {R : Type} (cf : Cf) (σ : Sg) (r : ResultVar) (m : RM) (k : m.D → List Nat → Option R) : Option R := match r, m, k with
  | .tmp t, .d s, k => asD (get ⟨0, [], []⟩ σ t 0) s fun y => k y []
  | .tmp t, .own s E, k => gatF ⟨0, [], []⟩ σ [] t (.own s E) k
  | .tmp t, .var s E, k => gatF ⟨0, [], []⟩ σ [] t (.var s E) k
  | .cell t E, .d s, k => (match get ⟨0, [], []⟩ σ t 0, tyA cf E with
    | some (.vs o _), some ti => (match fndO σ.ob o with
      | some (.var s' E' z) => grd (Nat.beq E E') <| Ty.cast s' ti.ty z fun z => Ty.cast ti.ty s z fun y => k y [o]
      | _ => none)
    | _, _ => none)
  | _, _, _ => none
def retD {R : Type} (cf : Cf) (σ : Sg) : List ResultVar → (cod : List RM) → (RsD cod → List Nat → Option R) → Option R
  | [], [], k => k () []
  | [v], [m], k => retF cf σ v m k
  | v :: v' :: vs, m :: m' :: ms, k => retF cf σ v m fun x o => retD cf σ (v' :: vs) (m' :: ms) fun y os => grd (noneIn os o) <| k (x, y) (o ++ os)
  | _, _, _ => none
def okC (N : Nat) : Code → Bool
  | .region _ ops _ => ops.toList.all fun o => okDst N o.dst
  | .seq a b => okC N a && okC N b
  | .cond _ a b => okC N a && okC N b
  | .block _ c => okC N c
  | .loop c => okC N c
  | .scope c => okC N c
  | .rangeFunc _ ps a c => (ps.toList.all fun p => Nat.blt p N) && (okC N a && okC N c)
  | _ => true
def frzD (σ : Sg) : List ResultVar → List RM → Sg
  | .tmp t :: vs, .d _ :: ms => frzD (frz ⟨0, [], []⟩ σ (.tmp t)) vs ms
  | _ :: vs, _ :: ms => frzD σ vs ms
  | _, _ => σ
def denF (cf : Cf) (fn : Func) (dom : List AM) (cod : List RM) (x : AsD dom) : Option (RsD cod) := match fn.body with
  | some c => grd (okC fn.ntmps c && Nat.ble dom.length fn.ntmps) <|
    let y := argS dom x 0
    den cf c ⟨0, [], []⟩ ⟨dom.length, y.1, y.2⟩ fun t σ => (match t with
      | .r => retD cf (frzD σ fn.results.toList cod) fn.results.toList cod fun y _ => some y
      | .n => retD cf (frzD σ fn.results.toList cod) fn.results.toList cod fun y _ => some y
      | _ => none)
  | none => none
def ownT : List AM → Nat → List ResultVar
  | [], _ => []
  | .own _ _ :: r, i => .tmp i :: ownT r (i + 1)
  | .var _ _ :: r, i => .tmp i :: ownT r (i + 1)
  | _ :: r, i => ownT r (i + 1)
def pinL (pn : Nat → Value) : List AM → Nat → List (Nat × Nat × Dv)
  | [], _ => []
  | .own _ _ :: r, i => (i, 0, .pin (pn i)) :: pinL pn r (i + 1)
  | .var _ _ :: r, i => (i, 0, .pin (pn i)) :: pinL pn r (i + 1)
  | _ :: r, i => pinL pn r (i + 1)
def denG (cf : Cf) (fn : Func) (dom : List AM) (cod : List RM) (bk : Nat) (pn : Nat → Value) (x : AsD dom) : Option (RsD cod) := match fn.body with
  | some c => grd (okC fn.ntmps c && Nat.ble dom.length fn.ntmps && Nat.beq (fn.results.toList.length + bk) cod.length && Nat.beq (ownT dom 0).length bk && Nat.blt 0 bk) <|
    let y := argS dom x 0
    let rv := fn.results.toList ++ ownT dom 0
    den cf c ⟨0, pinL pn dom 0, []⟩ ⟨dom.length, y.1, y.2⟩ fun t σ => (match t with
      | .r => retD cf (frzD σ rv cod) rv cod fun y _ => some y
      | .n => retD cf (frzD σ rv cod) rv cod fun y _ => some y
      | _ => none)
  | none => none
end
section
def ffT (p : Prop) : FF where
  p _ _ := p
  keep h _ := h
  sub h _ := h
def capF : List PD → List Value → List FF
  | c :: cs, v :: vs => fP c.t.rep c.x v :: capF cs vs
  | _, _ => []
def tsF : (ts : List Ty) → TsD ts → List Value → List FF
  | [], _, _ => []
  | t :: ts, x, vs => fV t.rep x.1 (vs.headD undef) :: tsF ts x.2 vs.tail
def csF : (ts : List Ty) → CsD ts → List Value → List FF
  | [], _, _ => []
  | [t], x, vs => [fV t.rep x (vs.headD undef)]
  | t :: s :: r, x, vs => fV t.rep x.1 (vs.headD undef) :: csF (s :: r) x.2 vs.tail
def FnSpec (P : Program) (fid : FuncId) (caps : List Value) (FG : List FF) (dom cod : List Ty) (g : TsD dom → Option (CsD cod)) : Prop :=
  fnB P fid = true ∧ ∀ (x : TsD dom) (r : CsD cod), g x = some r → ∀ vs : List Value, vs.length = dom.length →
    Fn P fid (vs ++ caps).toArray (tsF dom x vs ++ FG) oneOr (fun us => csF cod r us) (fun us => us.length = cod.length)
def fnF (P : Program) (dom cod : List Ty) (g : TsD dom → Option (CsD cod)) (v : Value) : FF where
  p S w := ∃ fid caps FG, v = .func (.func fid) #[] caps.toArray ∧ FnSpec P fid caps FG dom cod g ∧ All S FG w
  keep := by rintro S w w' ⟨fid, caps, FG, h1, h2, h3⟩ k; exact ⟨fid, caps, FG, h1, h2, All.keep k h3⟩
  sub := by rintro S S' w ⟨fid, caps, FG, h1, h2, h3⟩ k; exact ⟨fid, caps, FG, h1, h2, All.sub k h3⟩
def amF (P : Program) : (a : AM) → a.D → Value → FF
  | .d t, x, v => fV t.rep x v
  | .q t, x, v => fP t.rep x v
  | .own _ _, _, _ => ffT True
  | .var _ _, _, v => ffT (∃ b, v = .pointer (some ⟨b, 0, none⟩))
  | .fn dom cod, g, v => fnF P dom cod g v
def amM : (a : AM) → a.D → Value → List MF
  | .own t E, xs, v => [mO t.rep E v xs]
  | .var t E, z, v => [mP t.rep.c E v z]
  | _, _, _ => []
def argFs (P : Program) : (dom : List AM) → AsD dom → List Value → List FF
  | [], _, _ => []
  | a :: r, x, vs => amF P a x.1 (vs.headD undef) :: argFs P r x.2 vs.tail
def argMs : (dom : List AM) → AsD dom → List Value → List MF
  | [], _, _ => []
  | a :: r, x, vs => amM a x.1 (vs.headD undef) ++ argMs r x.2 vs.tail
def rmF : (m : RM) → m.D → Value → List FF
  | .d t, x, v => [fV t.rep x v]
  | .own _ _, _, _ => []
  | .var _ _, _, v => [ffT (∃ b, v = .pointer (some ⟨b, 0, none⟩))]
def rmM : (m : RM) → m.D → Value → List MF
  | .own t E, xs, v => [mO t.rep E v xs]
  | .var t E, z, v => [mP t.rep.c E v z]
  | .d _, _, _ => []
def resFs : (rs : List RM) → RsD rs → List Value → List FF
  | [], _, _ => []
  | [m], x, vs => rmF m x (vs.headD undef)
  | m :: n :: r, x, vs => rmF m x.1 (vs.headD undef) ++ resFs (n :: r) x.2 vs.tail
def resMs : (rs : List RM) → RsD rs → List Value → List MF
  | [], _, _ => []
  | [m], x, vs => rmM m x (vs.headD undef)
  | m :: n :: r, x, vs => rmM m x.1 (vs.headD undef) ++ resMs (n :: r) x.2 vs.tail
def ownVs : List AM → List Value → List Value
  | [], _ => []
  | .own _ _ :: r, vs => vs.headD undef :: ownVs r vs.tail
  | .var _ _ :: r, vs => vs.headD undef :: ownVs r vs.tail
  | _ :: r, vs => ownVs r vs.tail
def outV (bk n : Nat) (us : List Value) : Value := match bk with
  | 0 => oneOr us
  | b + 1 => oneOr (us.take (n - (b + 1)))
def outOk (dom : List AM) (vs : List Value) (bk n : Nat) (us : List Value) : Prop := match bk with
  | 0 => us.length = n
  | b + 1 => us.length = n ∧ us.drop (n - (b + 1)) = ownVs dom vs
def SigOK (P : Program) (s : Sig) : Prop :=
  fnB P s.f = true ∧ ∀ (x : AsD s.dom) (r : RsD s.cod), s.M x = some r → ∀ vs : List Value, vs.length = s.dom.length →
    FnG P s.f vs.toArray (argMs s.dom x vs) (argFs P s.dom x vs) (outV s.bk s.cod.length) (fun us => resMs s.cod r us) (fun us => resFs s.cod r us) (outOk s.dom vs s.bk s.cod.length)
theorem SigOK.plain {P : Program} {s : Sig} (h : SigOK P s) (hb : s.bk = 0) {x : AsD s.dom} {r : RsD s.cod} (hM : s.M x = some r) {vs : List Value} (hl : vs.length = s.dom.length) :
    FnG P s.f vs.toArray (argMs s.dom x vs) (argFs P s.dom x vs) oneOr (fun us => resMs s.cod r us) (fun us => resFs s.cod r us) (fun us => us.length = s.cod.length) := by
  have h1 := h.2 x r hM vs hl
  rw [hb] at h1
  exact h1
def fldT (P : Program) (t : TypeId) (i : Nat) : Option (Nat × Bool × Nat) := match P.underlying t with
  | some (.struct fs) => match fs[i]? with
    | some f => match tyB P f.type with
      | some (agg, n, _, some _) => some (f.offset, agg, n)
      | _ => none
    | none => none
  | _ => none
def TKok (P : Program) (t : TypeId) (ti : TI) : Prop := match ti.k with
  | .int k => P.underlying t = some (.int k)
  | .bool => P.underlying t = some .bool
  | .str => P.underlying t = some .string
  | .sl E => P.underlying t = some (.slice E) ∧ ∃ e, ti.ty = .l e
  | .st n => ti.ty.rep.agg = true ∧ (∀ i f, fld n ti.ty i = some f → fldB P t i = some f.off) ∧
      (∃ fs, P.underlying t = some (.struct fs) ∧ ∃ pl : Array (Nat × Nat), (∀ w, (fs.mapM (fun f => do pure (f.offset, ← sizeOf f.type)) : Sem (Array (Nat × Nat))).run P w = .ok pl w) ∧
        ∀ i f, fld n ti.ty i = some f → pl[i]? = some (f.off, f.f.n)) ∧
      ∀ i f, fld n ti.ty i = some f → fldT P t i = some (f.off, f.f.rep.agg, f.f.n)
  | .ar k E => ti.ty.rep.agg = true ∧ P.underlying t = some (.array k E)
  | .pt E => P.underlying t = some (.pointer E)
  | .ie => P.underlying t = some (.interface (P.methodsAt t))
def TIok (P : Program) (t : TypeId) (ti : TI) : Prop :=
  (∃ zero, TyF P t ti.ty.rep.agg ti.ty.rep.n ti.B zero ∧ zero.cells.size = ti.ty.rep.n ∧ (∀ S w, ti.ty.rep.p S ti.ty.z zero.cells.toList w) ∧ (∀ s, ti.ty = .l s → zero = .slice none 0 0) ∧ ∀ n i off s g st, fld n ti.ty i = some ⟨off, .l s, g, st⟩ → zero.cells.toList[off]? = some (.slice none 0 0)) ∧ 0 < ti.B ∧ 0 < ti.ty.rep.n ∧ TKok P t ti
def TTok (P : Program) (tt : List (Nat × TI)) : Prop := ∀ t ti, fndA tt t = some ti → TIok P t ti
def ELok (P : Program) (tt : List (Nat × TI)) : Prop := ∀ t s E B, fndA tt t = some ⟨.l s, .sl E, B⟩ → ∃ ti, fndA tt E = some ti ∧ ti.ty = s
def Fl.ok (t : Ty) (f : Fl t.D) : Prop := ∀ z : t.D, Sub t.rep.c z f.off f.f.rep (f.get z) (fun y => f.set y z)
def cloF (f : FuncId) (c : List PD) (v : Value) : FF where
  p S w := ∃ cs : List Value, v = .func (.func f) #[] cs.toArray ∧ cs.length = c.length ∧ All S (capF c cs) w
  keep := by rintro S w w' ⟨cs, h1, h2, h3⟩ k; exact ⟨cs, h1, h2, All.keep k h3⟩
  sub := by rintro S S' w ⟨cs, h1, h2, h3⟩ k; exact ⟨cs, h1, h2, All.sub k h3⟩
def MvV (v0 : Value) (lo n : Nat) (v : Value) : Prop := (∃ b m cap, v0 = .slice (some ⟨b, 0, none⟩) m cap ∧ lo + n ≤ m ∧ m ≤ cap ∧ cap ≤ 9223372036854775807 ∧ v = .slice (if cap = lo then some ⟨b, 0, none⟩ else some ⟨b, 0 + lo * 1, none⟩) n (cap - lo)) ∨ (v0 = .slice none 0 0 ∧ lo = 0 ∧ n = 0 ∧ v = .slice none 0 0)
theorem MvV.old {v0 v : Value} {lo n : Nat} (h : MvV v0 lo n v) : (∃ b m cap c, v0 = .slice (some ⟨b, 0, none⟩) m cap ∧ lo + n ≤ m ∧ n ≤ c ∧ c ≤ 9223372036854775807 ∧ v = .slice (some ⟨b, 0 + lo * 1, none⟩) n c) ∨ (n = 0 ∧ ∃ ao c, c ≤ 9223372036854775807 ∧ v = .slice ao 0 c) := by
  rcases h with ⟨b, m, cap, h1, h2, h3, h4, h5⟩ | ⟨h1, h2, h3, h4⟩
  · by_cases hc : cap = lo
    · rw [if_pos hc] at h5
      obtain rfl : n = 0 := by omega
      exact .inr ⟨rfl, _, cap - lo, by omega, h5⟩
    · rw [if_neg hc] at h5
      exact .inl ⟨b, m, cap, cap - lo, h1, h2, by omega, by omega, h5⟩
  · exact .inr ⟨h3, none, 0, by omega, by rw [h4]⟩
def fAnd (F : FF) (p : Prop) : FF where
  p S w := F.p S w ∧ p
  keep h k := ⟨F.keep h.1 k, h.2⟩
  sub h k := ⟨F.sub h.1 k, h.2⟩
def hold (P : Program) (vs : Nat → Value) : Dv → Value → FF
  | .d t x, v => fV t.rep x v
  | .q t x, v => fP t.rep x v
  | .kb b, v => ffT (v = .bool b)
  | .un, v => ffT (v = undef)
  | .nil, v => ffT (v = .slice none 0 0)
  | .ow o, v => ffT (v = vs o)
  | .ep o t j f, v => ffT (Fl.ok t f ∧ ∃ b n cap, vs o = .slice (some ⟨b, 0, none⟩) n cap ∧ j < n ∧ v = .pointer (some ⟨b, 0 + j * t.rep.n + f.off, none⟩))
  | .sv o t lo n, v => ffT ((∃ b m cap c, vs o = .slice (some ⟨b, 0, none⟩) m cap ∧ lo + n ≤ m ∧ n ≤ c ∧ c ≤ 9223372036854775807 ∧ v = .slice (some ⟨b, 0 + lo * t.rep.n, none⟩) n c) ∨ (n = 0 ∧ ∃ ao c, c ≤ 9223372036854775807 ∧ v = .slice ao 0 c))
  | .vs o t, v => ffT (v = vs o ∧ ∃ b, vs o = .pointer (some ⟨b, 0, none⟩))
  | .vp o t f, v => ffT (Fl.ok t f ∧ ∃ b, vs o = .pointer (some ⟨b, 0, none⟩) ∧ v = .pointer (some ⟨b, 0 + f.off, none⟩))
  | .fn f c, v => cloF f c v
  | .fp dom cod g, v => fnF P dom cod g v
  | .pin u, v => ffT (v = u)
  | .mw o, v => ffT (v = outW (vs o))
  | .mv o lo n, v => ffT (MvV (outW (vs o)) lo n v)
  | .hp o j, v => ffT (∃ b n cap, outW (vs o) = .slice (some ⟨b, 0, none⟩) n cap ∧ j < n ∧ v = .pointer (some ⟨b, 0 + j * 1, none⟩))
  | .rw o r, v => ffT ((hvW (vs o))[r]? = some v)
  | .rp o t r j f, v => ffT (Fl.ok t f ∧ ∃ b n cap, (hvW (vs o))[r]? = some (.slice (some ⟨b, 0, none⟩) n cap) ∧ j < n ∧ v = .pointer (some ⟨b, 0 + j * t.rep.n + f.off, none⟩))
  | .yd o, v => ffT (v = .func (.yield (lOf (outW (vs o)))) #[] #[])
  | .np, v => ffT (v = .pointer none)
  | .ni, v => ffT (v = .nilIface)
  | .vf o t n i, v => ffT (∃ b f, outW (vs o) = .pointer (some ⟨b, 0, none⟩) ∧ fld n t i = some f ∧ v = .pointer (some ⟨b, 0 + f.off, none⟩))
  | .dz t x n i, v => fAnd (fV t.rep x v) (∃ f, fld n t i = some f ∧ v.cells.toList[f.off]? = some (.slice none 0 0))
  | .ifc q, v => ffT (v = .iface q.1 (.agg #[.int .i64 q.2]))
  | .bm f o t, v => ffT (v = .func (.func f) #[vs o] #[] ∧ ∃ b, vs o = .pointer (some ⟨b, 0, none⟩))
def holdC (P : Program) (vs : Nat → Value) (d : Dv) (v : Value) (i : Nat) : FF where
  p S w := match i with
    | 0 => (hold P vs d v).p S w
    | i + 1 => ∃ us u, v = .tuple us ∧ us[i]? = some u ∧ (hold P vs d u).p S w
  keep := by
    intro S w w' h k
    cases i with
    | zero => exact (hold P vs d v).keep h k
    | succ i => obtain ⟨us, u, h1, h2, h3⟩ := h; exact ⟨us, u, h1, h2, (hold P vs d u).keep h3 k⟩
  sub := by
    intro S S' w h k
    cases i with
    | zero => exact (hold P vs d v).sub h k
    | succ i => obtain ⟨us, u, h1, h2, h3⟩ := h; exact ⟨us, u, h1, h2, (hold P vs d u).sub h3 k⟩
def vrP {α : Type} (s : Ty) (f : Option (Fl α)) : Prop := ∃ (off : Nat) (g : α → (Ty.l s).D) (st : (Ty.l s).D → α → α), f = some ⟨off, .l s, g, st⟩
def moF (vs : Nat → Value) (e : Nat × Od) : MF := match e.2 with
  | .own t E xs => mO t.rep E (vs e.1) xs
  | .var t E z => mP t.rep.c E (vs e.1) z
  | .mat t E E1 xss ix => mMt t.rep E E1 (vs e.1) xss ix
  | .bo t E E0 xs => mBo t.rep E E0 (vs e.1) xs
  | .ho E0 => mHo E0 (vs e.1)
  | .vr t E s E1 n i z xs => mVr (vrP s (fld n t i)) t.rep E (offL (fld n t i)) (putL s (fld n t i) []) s.rep E1 (vs e.1) z xs
  | .vh t E s E1 n i z => mVh (vrP s (fld n t i)) t.rep E (offL (fld n t i)) (putL s (fld n t i) []) (vs e.1) z
  | .hid t E X Y mX mY g x => mGrp [mPr (YSpec Tryd.prog (lOf (outW (vs e.1))) t.rep E mX mY g), mX x ((hvW (vs e.1)).headD undef)]
  | .hiy Y mY y => mY y ((hvW (vs e.1)).headD undef)
def MS (vs : Nat → Value) (ob : List (Nat × Od)) : List MF := ob.map (moF vs)
def RS (P : Program) (vs : Nat → Value) (env : Env) (rg : List (Nat × Nat × Dv)) : List FF := rg.map fun e => holdC P vs e.2.2 (env e.1) e.2.1
structure Fr where
  we : World
  Se : Nat → Prop
  F : List MF
  G : List FF
structure Bd (cx σ : Sg) : Prop where
  o1 : ∀ e ∈ σ.ob, e.1 < σ.nx
  o2 : ∀ e ∈ cx.ob, e.1 < σ.nx
  r1 : ∀ e ∈ σ.rg, ∀ o, refO e.2.2 = some o → o < σ.nx
  r2 : ∀ e ∈ cx.rg, ∀ o, refO e.2.2 = some o → o < σ.nx
def Rel (P : Program) (fr : Fr) (cx σ : Sg) (env : Env) (w : World) : Prop :=
  Bd cx σ ∧ ∃ vs : Nat → Value, St fr.we fr.Se (MS vs σ.ob ++ (MS vs cx.ob ++ fr.F)) (RS P vs env σ.rg ++ (RS P vs env cx.rg ++ fr.G)) w
section
variable {P : Program} {vs vs' : Nat → Value} {env env' : Env}
theorem hold_vs {d : Dv} (h : ∀ o, refO d = some o → vs' o = vs o) (v : Value) : hold P vs' d v = hold P vs d v := by
  cases d <;> simp only [hold] <;> simp only [refO, Option.some.injEq, forall_eq'] at h <;> rw [h]
theorem MS_congr : ∀ {ob : List (Nat × Od)}, (∀ e ∈ ob, vs' e.1 = vs e.1) → MS vs' ob = MS vs ob
  | [], _ => rfl
  | (o, x) :: r, h => by
    have h1 := h (o, x) (List.mem_cons_self ..)
    have h2 := MS_congr (ob := r) fun e he => h e (List.mem_cons_of_mem _ he)
    show moF vs' (o, x) :: MS vs' r = moF vs (o, x) :: MS vs r
    rw [h2]
    cases x <;> simp only [moF] <;> rw [h1]
theorem RS_congr : ∀ {rg : List (Nat × Nat × Dv)}, (∀ e ∈ rg, ∀ o, refO e.2.2 = some o → vs' o = vs o) → (∀ e ∈ rg, env' e.1 = env e.1) → RS P vs' env' rg = RS P vs env rg
  | [], _, _ => rfl
  | (t, i, d) :: r, h, h' => by
    show holdC P vs' d (env' t) i :: RS P vs' env' r = holdC P vs d (env t) i :: RS P vs env r
    rw [RS_congr (rg := r) (fun e he => h e (List.mem_cons_of_mem _ he)) (fun e he => h' e (List.mem_cons_of_mem _ he)), h' (t, i, d) (List.mem_cons_self ..)]
    congr 1
    unfold holdC
    simp only [hold_vs (P := P) (h (t, i, d) (List.mem_cons_self ..))]
theorem all_mem {S : Nat → Prop} {w : World} : ∀ {Γ : List FF}, All S Γ w ↔ ∀ f ∈ Γ, f.p S w
  | [] => ⟨fun _ f h => absurd h List.not_mem_nil, fun _ => trivial⟩
  | f :: r => by
    have ih := all_mem (S := S) (w := w) (Γ := r)
    constructor
    · intro h x hx
      rcases List.mem_cons.1 hx with rfl | hx
      · exact h.1
      · exact ih.1 h.2 x hx
    · intro h
      exact ⟨h f (List.mem_cons_self ..), ih.2 fun x hx => h x (List.mem_cons_of_mem _ hx)⟩
theorem beq_t {a b : Nat} (h : Nat.beq a b = true) : a = b := Nat.eq_of_beq_eq_true h
theorem fnd_mem : ∀ {rg : List (Nat × Nat × Dv)} {t i : Nat} {d : Dv}, fnd rg t i = some d → (t, i, d) ∈ rg
  | (t', i', d') :: r, t, i, d, h => by
    unfold fnd at h
    cases hb : Nat.beq t' t && Nat.beq i' i
    · rw [hb] at h; exact List.mem_cons_of_mem _ (fnd_mem h)
    · rw [hb] at h
      simp only [cond_true, Option.some.injEq] at h
      rw [Bool.and_eq_true] at hb
      rw [← h, beq_t hb.1, beq_t hb.2]; exact List.mem_cons_self ..
theorem rs_get {S : Nat → Prop} {w : World} {rg : List (Nat × Nat × Dv)} (h : All S (RS P vs env rg) w) {t i : Nat} {d : Dv} (hd : (t, i, d) ∈ rg) : (holdC P vs d (env t) i).p S w :=
  all_mem.1 h _ (List.mem_map.2 ⟨(t, i, d), hd, rfl⟩)
theorem fndO_some : ∀ {ob : List (Nat × Od)} {o : Nat} {x : Od}, fndO ob o = some x → ∃ i, ob[i]? = some (o, x) ∧ (∀ y, seto ob o y = ob.set i (o, y)) ∧ delo ob o = ob.eraseIdx i
  | (o', x') :: r, o, x, h => by
    unfold fndO at h
    cases hb : Nat.beq o' o
    · rw [hb] at h
      obtain ⟨i, h1, h2, h3⟩ := fndO_some (ob := r) h
      exact ⟨i + 1, by simpa using h1, fun y => by unfold seto; rw [hb]; simp only [cond_false, List.set_cons_succ, h2 y], by unfold delo; rw [hb]; simp only [cond_false, List.eraseIdx_cons_succ, h3]⟩
    · rw [hb] at h
      simp only [cond_true, Option.some.injEq] at h
      have := beq_t hb
      subst h; subst this
      exact ⟨0, rfl, fun y => by unfold seto; rw [hb]; rfl, by unfold delo; rw [hb]; rfl⟩
theorem ms_idx {ob : List (Nat × Od)} {i : Nat} {e : Nat × Od} {R : List MF} (h : ob[i]? = some e) : (MS vs ob ++ R)[i]? = some (moF vs e) := by grind [MS, List.getElem?_eq_some_iff, List.getElem?_append_left]
theorem ms_set {ob : List (Nat × Od)} {i : Nat} {e e' : Nat × Od} {R : List MF} (h : ob[i]? = some e) : (MS vs ob ++ R).set i (moF vs e') = MS vs (ob.set i e') ++ R := by grind [MS, List.getElem?_eq_some_iff, List.set_append_left, List.map_set]
theorem map_er {α : Type _} {β : Type _} (f : α → β) : ∀ (l : List α) (i : Nat), (l.eraseIdx i).map f = (l.map f).eraseIdx i
  | [], i => by simp
  | _ :: _, 0 => rfl
  | a :: l, i + 1 => by simp only [List.eraseIdx_cons_succ, List.map_cons, map_er f l i]
theorem ms_erase {ob : List (Nat × Od)} {i : Nat} {e : Nat × Od} {R : List MF} (h : ob[i]? = some e) : (MS vs ob ++ R).eraseIdx i = MS vs (ob.eraseIdx i) ++ R := by grind [MS, map_er, List.getElem?_eq_some_iff, List.eraseIdx_append_of_lt_length]
theorem geto_mem {cx σ : Sg} {o : Nat} {x : Od} (h : geto cx σ o = some x) : (o, x) ∈ σ.ob ∨ (o, x) ∈ cx.ob := by grind [geto, fndO_some, List.mem_of_getElem?]
theorem get_mem {cx σ : Sg} {t i : Nat} {d : Dv} (h : get cx σ t i = some d) : (t, i, d) ∈ σ.rg ∨ (t, i, d) ∈ cx.rg := by grind [get, fnd_mem]
theorem geto_M {S : Nat → Prop} {w : World} {cx σ : Sg} {o : Nat} {x : Od} {F : List MF} (hM : AllM S (MS vs σ.ob ++ (MS vs cx.ob ++ F)) w) (h : geto cx σ o = some x) : (moF vs (o, x)).p S w := by
  refine allM_mem.1 hM _ ?_
  rcases geto_mem h with h | h
  · exact List.mem_append.2 (.inl (List.mem_map.2 ⟨_, h, rfl⟩))
  · exact List.mem_append.2 (.inr (List.mem_append.2 (.inl (List.mem_map.2 ⟨_, h, rfl⟩))))
end
theorem cast_s {R : Type} {s t : Ty} {x : s.D} {k : t.D → Option R} {r : R} (h : Ty.cast s t x k = some r) : ∃ e : s = t, k (e ▸ x) = some r := by grind [Ty.cast]
theorem grd_s {R : Type} {b : Bool} {x : Option R} {r : R} (h : grd b x = some r) : b = true ∧ x = some r := by grind
end
section
open Go.ChangeShapes Go.WideShapes Go.ChangeAt Go.RowKit
def TyAt (P : Program) : Ty → TypeId → Prop
  | .i, T => P.underlying T = some (.int .i64)
  | .u, T => P.underlying T = some (.int .u64)
  | .b, T => P.underlying T = some .bool
  | .l t, T => ∃ E, P.underlying T = some (.slice E) ∧ P.cellsOf E = t.n ∧ 0 < t.n ∧ TyAt P t E
  | .p s t, T => ∃ f0 f1 : Field, P.underlying T = some (.struct #[f0, f1]) ∧ P.cellsOf T = s.n + t.n ∧ f0.offset = 0 ∧ f1.offset = s.n ∧ P.cellsOf f0.type = s.n ∧ P.cellsOf f1.type = t.n ∧ TyAt P s f0.type ∧ TyAt P t f1.type
  | .ch, T => P.underlying T = some (.int .u8)
  | .tx, T => P.underlying T = some .string
  | .a _ _, _ => False
  | .po _, _ => False
  | .tr, _ => False
  | .er, _ => False
  | .w1 _, _ => False
theorem cells_get {w : World} {base n : Nat} {a : Addr} {c : List Value} (h : w.cells? base a n = some c) : c.length = n ∧ ∀ i v, c[i]? = some v → w.cell? (a.add i) = some v := by
  unfold World.cells? at h
  split at h
  · have : ∀ (l : List Nat) (c : List Value), l.mapM (fun i => w.cell? (a.add i)) = some c → c.length = l.length ∧ ∀ (i j : Nat) (v : Value), c[i]? = some v → l[i]? = some j → w.cell? (a.add j) = some v := by
      intro l
      induction l with
      | nil => intro c hc; simp at hc; subst hc; exact ⟨rfl, fun i j v hv => by simp at hv⟩
      | cons x l ih =>
        intro c hc
        rw [List.mapM_cons] at hc
        cases hx : w.cell? (a.add x) with
        | none => rw [hx] at hc; simp at hc
        | some y =>
          rw [hx] at hc
          cases hl : l.mapM (fun i => w.cell? (a.add i)) with
          | none => rw [hl] at hc; simp at hc
          | some r =>
            rw [hl] at hc
            have hc : y :: r = c := by simpa using hc
            subst hc
            obtain ⟨h1, h2⟩ := ih r hl
            refine ⟨by simp [h1], fun i j v hv hj => ?_⟩
            cases i with
            | zero => simp at hv hj; subst hv; subst hj; exact hx
            | succ i => exact h2 i j v (by simpa using hv) (by simpa using hj)
    obtain ⟨h1, h2⟩ := this _ _ h
    refine ⟨by simpa using h1, fun i v hv => h2 i i v hv ?_⟩
    have := (List.getElem?_eq_some_iff.1 hv).1
    rw [List.getElem?_range (by rw [h1] at this; simpa using this)]
  · cases h
theorem spot_none {w : World} {a : Addr} {v : Value} (h : w.cell? a = some v) : a = ⟨a.block, a.off, none⟩ ∧ a.block < w.heap.size := by
  unfold World.cell? at h
  split at h
  · next c _ _ hb =>
    split at h
    · cases h
    · next hs =>
      refine ⟨?_, (Array.getElem?_eq_some_iff.1 hb).1⟩
      obtain ⟨b, o, s⟩ := a
      cases s with
      | none => rfl
      | some x => simp at hs
  · cases h
theorem add_0 (a : Addr) : a.add 0 = a := by grind [Addr.add]
section
variable {H : Type} {enc : TypeId × Value → H} {P : Program} {W : World} {sp : Nat → Bool} {held : Bool}
theorem elems_of {t : Ty} {b o : Nat} (hb : b < W.heap.size) : ∀ (len : Nat), (∀ i, i < len → ∃ (c : List Value) (z : t.D), W.cells? 0 (⟨b, o + i * t.n, none⟩ : Addr) t.n = some c ∧ t.rep.p (fun _ => True) z c W) →
    ∃ (xs : List t.D) (cs : List Value), xs.length = len ∧ At W b o cs ∧ Elems t.rep (fun _ => True) xs cs W
  | 0, _ => ⟨[], [], rfl, ⟨hb, fun j v hv => by simp at hv⟩, rfl⟩
  | len + 1, h => by
    obtain ⟨xs, cs, h1, h2, h3⟩ := elems_of hb len fun i hi => h i (by omega)
    obtain ⟨c, z, h4, h5⟩ := h len (by omega)
    obtain ⟨h6, h7⟩ := cells_get h4
    have hl := h3.len
    rw [h1, Ty.n_rep] at hl
    refine ⟨xs ++ [z], cs ++ c, by simp [h1], ⟨hb, fun j v hv => ?_⟩, h3.append ⟨c, [], by simp, h5, rfl⟩⟩
    rcases Nat.lt_or_ge j cs.length with hj | hj
    · rw [List.getElem?_append_left hj] at hv
      exact h2.2 j v hv
    · rw [List.getElem?_append_right hj] at hv
      have := h7 _ v hv
      rw [addr_add] at this
      rw [← this]
      congr 2
      omega
theorem open_rep : ∀ (t : Ty) {T : TypeId} {n : Nat} {cs : List Value} {x : DataW H × List MemPlace}, TyAt P t T → DataW.trod enc P W 0 sp held n T cs = some x → ∃ z : t.D, t.rep.p (fun _ => True) z cs W
  | .i, T, n, cs, x, ht, h => by
    obtain ⟨v, rfl, _, hw⟩ := DataW.trod_int ht h
    have : -9223372036854775808 ≤ v ∧ v ≤ 9223372036854775807 := by simpa [Lit.wf, IntKind.min, IntKind.max, IntKind.signed, IntKind.bits] using hw
    exact ⟨v, rfl, this.1, this.2⟩
  | .u, T, n, cs, x, ht, h => by
    obtain ⟨v, rfl, _, hw⟩ := DataW.trod_int ht h
    have : 0 ≤ v ∧ v ≤ 18446744073709551615 := by simpa [Lit.wf, IntKind.min, IntKind.max, IntKind.signed, IntKind.bits] using hw
    obtain ⟨k, rfl⟩ := Int.eq_ofNat_of_zero_le this.1
    exact ⟨k, rfl, by omega⟩
  | .ch, T, n, cs, x, ht, h => by
    obtain ⟨v, rfl, _, hw⟩ := DataW.trod_int ht h
    have : 0 ≤ v ∧ v ≤ 255 := by simpa [Lit.wf, IntKind.min, IntKind.max, IntKind.signed, IntKind.bits] using hw
    obtain ⟨k, rfl⟩ := Int.eq_ofNat_of_zero_le this.1
    exact ⟨k, rfl, by omega⟩
  | .tx, T, n, cs, x, ht, h => by
    obtain ⟨s, rfl, _, hs⟩ := DataW.trod_string ht h
    exact ⟨bytesN s, s, rfl, rfl, hs⟩
  | .b, T, n, cs, x, ht, h => by
    obtain ⟨v, rfl, _⟩ := DataW.trod_bool ht h
    exact ⟨v, rfl⟩
  | .l t, T, n, cs, x, ht, h => by
    obtain ⟨E, hu, hc, hpos, hE⟩ := ht
    rcases DataW.trod_slice hu h with ⟨rfl, _⟩ | ⟨a, len, cap, elems, rest, m, _, rfl, _, _, hlc, hcm, hlen, hel, _, _⟩
    · exact ⟨[], _, rfl, SlP.nil⟩
    · rw [hc] at hel
      have key : ∀ i, i < len → ∃ (c : List Value) (z : t.D), W.cells? 0 (a.add (i * t.n)) t.n = some c ∧ t.rep.p (fun _ => True) z c W := by
        intro i hi
        have h1 := hel i hi
        rw [List.getElem?_eq_getElem (by omega)] at h1
        obtain ⟨c, h2, h3⟩ := Option.bind_eq_some_iff.1 h1
        obtain ⟨z, hz⟩ := open_rep t hE h3
        exact ⟨c, z, h2, hz⟩
      rcases Nat.eq_zero_or_pos len with h0 | h0
      · subst h0
        exact ⟨[], _, rfl, some a, cap, rfl, Nat.zero_le _, hcm, .inl rfl⟩
      · obtain ⟨c, z, h1, h2⟩ := key 0 h0
        obtain ⟨h3, h4⟩ := cells_get h1
        have h5 := h4 0 (c[0]'(by omega)) (List.getElem?_eq_getElem (by omega))
        rw [Nat.zero_mul, add_0, add_0] at h5
        obtain ⟨ha, hb⟩ := spot_none h5
        rw [ha] at key
        obtain ⟨xs, cs, g1, g2, g3⟩ := elems_of (t := t) (b := a.block) (o := a.off) hb len fun i hi => by
          have := key i hi
          rw [addr_add] at this
          exact this
        refine ⟨xs, _, rfl, some a, cap, by rw [g1], by omega, hcm, .inr ⟨a.block, a.off, cs, by rw [← ha], trivial, g2, g3⟩⟩
  | .p s t, T, n, cs, x, ht, h => by
    obtain ⟨f0, f1, hu, hc, o0, o1, c0, c1, h0, h1⟩ := ht
    obtain ⟨y0, y1, m, _, hl, g0, g1⟩ := trod_struct2 hu h
    rw [o0, c0, List.drop_zero] at g0
    rw [o1, c1] at g1
    obtain ⟨z0, k0⟩ := open_rep s h0 g0
    obtain ⟨z1, k1⟩ := open_rep t h1 g1
    refine ⟨(z0, z1), cs.take s.n, (cs.drop s.n).take t.n, ?_, k0, k1⟩
    rw [hc] at hl
    have e : (cs.drop s.n).take t.n = cs.drop s.n := List.take_of_length_le (by simp; omega)
    rw [e, List.take_append_drop]
  | .a _ _, _, _, _, _, ht, _ => ht.elim
  | .po _, _, _, _, _, ht, _ => ht.elim
  | .tr, _, _, _, _, ht, _ => ht.elim
  | .er, _, _, _, _, ht, _ => ht.elim
  | .w1 _, _, _, _, _, ht, _ => ht.elim
end
theorem sig_true {P : Program} {s : Sig} (h : SigOK P s) (hk : s.bk = 0) (hc : s.cod = [.d .b]) (x : AsD s.dom) (hM : s.M x = some (hc ▸ true : RsD s.cod)) {vs : List Value} (hl : vs.length = s.dom.length) (hms : argMs s.dom x vs = []) {W : World} (hΓ : All (fun _ => True) (argFs P s.dom x vs) W) (hg : Gv W := by exact trivial) :
    Calls P s.f vs.toArray W fun e W' => e = .returned (.bool true) ∧ Ext W W' := by
  obtain ⟨f, dom, cod, M, bk⟩ := s
  simp only at hc hk
  subst hc
  subst hk
  have h1 := h.2 x true hM vs hl W (fun _ => True) [] [] W
  simp only [hms, List.nil_append, List.append_nil] at h1
  refine (h1 ⟨Keeps.refl _ _, ⟨fun _ _ => trivial, hg⟩, trivial, fun _ => True, fun _ _ => trivial, fun _ _ => trivial, fun m hm => absurd hm List.not_mem_nil, trivial, hΓ⟩).mono ?_
  rintro e w' ⟨us, he, hus, hs⟩
  obtain ⟨hx, _, _, S, _, _, _, _, hf⟩ := hs
  refine ⟨?_, hx⟩
  match us, hus with
  | [u], _ =>
    have : u = .bool true := fV_bool (show (fV eBool true u).p S w' from hf.1)
    rw [he, this]; rfl
end
section
open Go.ChangeShapes Go.WideShapes Go.ChangeAt Go.RowKit
section
variable {H : Type} {enc : TypeId × Value → H} {P : Program} {W : World} {sp : Nat → Bool} {held : Bool}
theorem val_of {r : Reach} {b0 : Nat} : ∀ (t : Ty) {T : TypeId} {v : Value}, TyAt P t T → Value.okWide P W r b0 T v → v = t.rep.val v.cells.toList
  | .i, T, v, ht, h => by obtain ⟨n, rfl⟩ := okWide_int ht h; rfl
  | .u, T, v, ht, h => by obtain ⟨n, rfl⟩ := okWide_int ht h; rfl
  | .ch, T, v, ht, h => by obtain ⟨n, rfl⟩ := okWide_int ht h; rfl
  | .tx, T, v, ht, h => by
    have ht : P.underlying T = some .string := ht
    simp only [Value.okWide, ht, Cell.okWide] at h
    unfold Cell.ok at h
    rw [ht] at h
    cases v <;> simp at h
    rfl
  | .b, T, v, ht, h => by
    have ht : P.underlying T = some .bool := ht
    simp only [Value.okWide, ht, Cell.okWide] at h
    unfold Cell.ok at h
    rw [ht] at h
    cases v <;> simp at h
    rfl
  | .l t, T, v, ht, h => by
    obtain ⟨E, ht, _⟩ := ht
    simp only [Value.okWide, ht, Cell.okWide] at h
    unfold Cell.ok at h
    rw [ht] at h
    cases v <;> simp at h
    rfl
  | .p s t, T, v, ht, h => by
    obtain ⟨f0, f1, ht, _⟩ := ht
    simp only [Value.okWide, ht] at h
    obtain ⟨cs, rfl, _⟩ := h
    show Value.agg cs = Value.agg cs.toList.toArray
    simp
  | .a _ _, T, v, ht, _ => ht.elim
  | .po _, T, v, ht, _ => ht.elim
  | .tr, T, v, ht, _ => ht.elim
  | .er, T, v, ht, _ => ht.elim
  | .w1 _, T, v, ht, _ => ht.elim
def Ty.ok : (t : Ty) → t.D → Prop
  | .i, (x : Int) => -9223372036854775808 ≤ x ∧ x ≤ 9223372036854775807
  | .u, (x : Nat) => x < 18446744073709551616
  | .b, _ => True
  | .ch, (x : Nat) => x < 256
  | .tx, xs => List.length xs ≤ 9223372036854775807 ∧ ∀ x, List.Mem x xs → x < 256
  | .l t, xs => List.length xs ≤ 9223372036854775807 ∧ ∀ x, List.Mem x xs → t.ok x
  | .p s t, x => s.ok x.1 ∧ t.ok x.2
  | .a _ t, xs => ∀ x, List.Mem x xs → t.ok x
  | .po _, _ => True
  | .tr, _ => True
  | .er, _ => True
  | .w1 t, x => t.ok x
theorem elems_ok {α : Type} {e : ERep α} {S : Nat → Prop} {w : World} {q : α → Prop} (hq : ∀ x cs, e.p S x cs w → q x) : ∀ {xs : List α} {cs : List Value}, Elems e S xs cs w → ∀ x, List.Mem x xs → q x
  | [], _, _, x, hx => nomatch hx
  | y :: ys, _, ⟨c, r, _, hc, hr⟩, x, hx => by
    cases hx with
    | head => exact hq _ _ hc
    | tail _ hx => exact elems_ok hq hr x hx
theorem rep_ok : ∀ (t : Ty) {S : Nat → Prop} {z : t.D} {cs : List Value} {w : World}, t.rep.p S z cs w → t.ok z
  | .i, _, _, _, _, h => h.2
  | .u, _, _, _, _, h => h.2
  | .b, _, _, _, _, _ => trivial
  | .ch, _, _, _, _, h => h.2
  | .tx, _, xs, _, _, h => by
    obtain ⟨s, _, h1, h2⟩ := h
    have h3 := bytesN_len s
    have h1 : bytesN s = xs := h1
    refine ⟨by show List.length (α := Nat) xs ≤ _; rw [← h1, h3]; exact h2, fun x hx => ?_⟩
    have hx : x ∈ bytesN s := by rw [h1]; exact hx
    obtain ⟨b, _, rfl⟩ := List.mem_map.1 hx
    exact UInt8.toNat_lt _
  | .l t, S, xs, _, w, h => by
    obtain ⟨v, _, ao, cap, _, h1, h2, h3⟩ := h
    refine ⟨Nat.le_trans h1 h2, ?_⟩
    rcases h3 with h3 | ⟨b, o, cs, _, _, _, h4⟩
    · have h3 : xs = ([] : List t.D) := h3
      subst h3
      exact fun x hx => nomatch hx
    · exact elems_ok (fun x cs hx => rep_ok t hx) h4
  | .p s t, S, z, _, w, h => by
    obtain ⟨c, d, _, h1, h2⟩ := h
    exact ⟨rep_ok s h1, rep_ok t h2⟩
  | .a k t, S, xs, _, w, h => by
    obtain ⟨_, h⟩ := h
    exact elems_ok (fun x cs hx => rep_ok t hx) h
  | .po _, _, _, _, _, _ => trivial
  | .tr, _, _, _, _, _ => trivial
  | .er, _, _, _, _, _ => trivial
  | .w1 t, S, z, cs, w, h => rep_ok t (S := S) (cs := cs) (w := w) h
def AsOK : (dom : List AM) → AsD dom → Prop
  | [], _ => True
  | .d t :: r, x => t.ok x.1 ∧ AsOK r x.2
  | _ :: r, x => AsOK r x.2
def DomAt (P : Program) : List AM → List TypeId → Prop
  | [], [] => True
  | .d t :: r, T :: Ts => TyAt P t T ∧ DomAt P r Ts
  | _, _ => False
theorem dom_len : ∀ {dom : List AM} {Ts : List TypeId}, DomAt P dom Ts → dom.length = Ts.length
  | [], [], _ => rfl
  | .d t :: r, T :: Ts, h => by simp [dom_len h.2]
  | .d _ :: _, [], h => h.elim
  | [], _ :: _, h => h.elim
  | .q _ :: _, _, h => h.elim
  | .own _ _ :: _, _, h => h.elim
  | .var _ _ :: _, _, h => h.elim
  | .fn _ _ :: _, _, h => h.elim
theorem dom_ms : ∀ {dom : List AM} {Ts : List TypeId}, DomAt P dom Ts → ∀ (x : AsD dom) (vs : List Value), argMs dom x vs = []
  | [], _, _, _, _ => rfl
  | .d t :: r, T :: Ts, h, x, vs => by show [] ++ argMs r x.2 vs.tail = []; rw [dom_ms h.2]; rfl
  | .d _ :: _, [], h, _, _ => h.elim
  | .q _ :: _, _, h, _, _ => h.elim
  | .own _ _ :: _, _, h, _, _ => h.elim
  | .var _ _ :: _, _, h, _, _ => h.elim
  | .fn _ _ :: _, _, h, _, _ => h.elim
theorem same_ext {W' : World} (hx : Ext W W') {p : MemPlace} (hp : p.block < W.heap.size) : W.sameAt W' p := by
  cases p with
  | cell b off => exact World.cell?_of_block (a := ⟨b, off, none⟩) (hx.block b hp trivial)
  | map b => exact hx.block b hp trivial
theorem trodAll_stays {W' : World} {sp' : Nat → Bool} (hl : laidOutB P = true) : ∀ {Ts : List TypeId} {vs : List Value} {ds : List (DataW H)} {ps : List MemPlace}, (∀ t ∈ Ts, P.readableRec t = true ∧ t < P.types.size) → DataW.TrodAll enc P W 0 (fun _ => true) true Ts vs ds ps →
    (∀ p ∈ ps, W.sameAt W' p) → (∀ p ∈ ps, sp' p.block = true) → DataW.TrodAll enc P W' 0 sp' true Ts vs ds ps
  | [], [], [], _, _, h, _, _ => h
  | T :: Ts, v :: vs, d :: ds, ps, hr, h, h1, h2 => by
    obtain ⟨p, q, g1, g2, rfl⟩ := h
    have hT := hr T (List.mem_cons_self ..)
    exact ⟨p, q, Go.WideElems.Trod_stays hl hT.1 hT.2 g1 (fun x hx => h1 x (List.mem_append.2 (.inl hx))) (fun x hx => h2 x (List.mem_append.2 (.inl hx))),
      trodAll_stays hl (fun t ht => hr t (List.mem_cons_of_mem _ ht)) g2 (fun x hx => h1 x (List.mem_append.2 (.inr hx))) (fun x hx => h2 x (List.mem_append.2 (.inr hx))), rfl⟩
  | [], [], _ :: _, _, _, h, _, _ => h.elim
  | [], _ :: _, _, _, _, h, _, _ => h.elim
  | _ :: _, [], _, _, _, h, _, _ => h.elim
  | _ :: _, _ :: _, [], _, _, h, _, _ => h.elim
end
end
section
open Go.ChangeShapes Go.WideShapes Go.ChangeAt Go.RowKit
def Ty.wd (P : Program) : (t : Ty) → TypeId → t.D → Prop
  | .i, _, _ => True
  | .u, _, _ => True
  | .b, _, _ => True
  | .ch, _, _ => True
  | .tx, _, _ => True
  | .l t, T, xs => ∀ E, P.underlying T = some (.slice E) → List.length xs * P.bytesOf E ≤ reachBytes ∧ ∀ x, List.Mem x xs → t.wd P E x
  | .p s t, T, x => ∀ f0 f1 : Field, P.underlying T = some (.struct #[f0, f1]) → s.wd P f0.type x.1 ∧ t.wd P f1.type x.2
  | .a _ _, _, _ => True
  | .po _, _, _ => True
  | .tr, _, _ => True
  | .er, _, _ => True
  | .w1 _, _, _ => True
section
variable {H : Type} {enc : TypeId × Value → H} {P : Program} {W : World} {sp : Nat → Bool} {held : Bool}
theorem elems_ofw {t : Ty} {b o : Nat} {q : t.D → Prop} (hb : b < W.heap.size) : ∀ (len : Nat), (∀ i, i < len → ∃ (c : List Value) (z : t.D), W.cells? 0 (⟨b, o + i * t.n, none⟩ : Addr) t.n = some c ∧ t.rep.p (fun _ => True) z c W ∧ q z) →
    ∃ (xs : List t.D) (cs : List Value), xs.length = len ∧ At W b o cs ∧ Elems t.rep (fun _ => True) xs cs W ∧ ∀ x, x ∈ xs → q x
  | 0, _ => ⟨[], [], rfl, ⟨hb, fun j v hv => by simp at hv⟩, rfl, fun x hx => absurd hx List.not_mem_nil⟩
  | len + 1, h => by
    obtain ⟨xs, cs, h1, h2, h3, hq⟩ := elems_ofw hb len fun i hi => h i (by omega)
    obtain ⟨c, z, h4, h5, h8⟩ := h len (by omega)
    obtain ⟨h6, h7⟩ := cells_get h4
    have hl := h3.len
    rw [h1, Ty.n_rep] at hl
    refine ⟨xs ++ [z], cs ++ c, by simp [h1], ⟨hb, fun j v hv => ?_⟩, h3.append ⟨c, [], by simp, h5, rfl⟩, fun x hx => ?_⟩
    · rcases Nat.lt_or_ge j cs.length with hj | hj
      · rw [List.getElem?_append_left hj] at hv
        exact h2.2 j v hv
      · rw [List.getElem?_append_right hj] at hv
        have := h7 _ v hv
        rw [addr_add] at this
        rw [← this]
        congr 2
        omega
    · rcases List.mem_append.1 hx with hx | hx
      · exact hq x hx
      · obtain rfl := List.mem_singleton.1 hx
        exact h8
theorem weights_all {E : TypeId} {n : Nat} : ∀ {l : List (DataW H)} {d : DataW H}, d ∈ l → n ∈ d.weights P E → n ∈ DataW.weightsAll P E l
  | [], _, h, _ => absurd h List.not_mem_nil
  | e :: l, d, h, hn => by
    unfold DataW.weightsAll
    rcases List.mem_cons.1 h with rfl | h
    · exact List.mem_append_left _ hn
    · exact List.mem_append_right _ (weights_all h hn)
theorem open_repw : ∀ (t : Ty) {T : TypeId} {n : Nat} {cs : List Value} {x : DataW H × List MemPlace}, TyAt P t T → DataW.trod enc P W 0 sp held n T cs = some x → (∀ m ∈ x.1.weights P T, m ≤ reachBytes) → ∃ z : t.D, t.rep.p (fun _ => True) z cs W ∧ t.wd P T z
  | .i, T, n, cs, x, ht, h, _ => by
    obtain ⟨z, hz⟩ := open_rep .i ht h
    exact ⟨z, hz, trivial⟩
  | .u, T, n, cs, x, ht, h, _ => by
    obtain ⟨z, hz⟩ := open_rep .u ht h
    exact ⟨z, hz, trivial⟩
  | .ch, T, n, cs, x, ht, h, _ => by
    obtain ⟨z, hz⟩ := open_rep .ch ht h
    exact ⟨z, hz, trivial⟩
  | .tx, T, n, cs, x, ht, h, _ => by
    obtain ⟨z, hz⟩ := open_rep .tx ht h
    exact ⟨z, hz, trivial⟩
  | .b, T, n, cs, x, ht, h, _ => by
    obtain ⟨z, hz⟩ := open_rep .b ht h
    exact ⟨z, hz, trivial⟩
  | .l t, T, n, cs, x, ht, h, hw => by
    obtain ⟨E, hu, hc, hpos, hE⟩ := ht
    have wnil : (Ty.l t).wd P T ([] : List t.D) := fun E' hE' => ⟨by show 0 * _ ≤ _; rw [Nat.zero_mul]; exact Nat.zero_le _, fun x hx => nomatch hx⟩
    rcases DataW.trod_slice hu h with ⟨rfl, _⟩ | ⟨a, len, cap, elems, rest, m, _, rfl, rfl, _, hlc, hcm, hlen, hel, _, _⟩
    · exact ⟨[], ⟨_, rfl, SlP.nil⟩, wnil⟩
    · have hws : ∀ y ∈ (elems.length + rest.length) * P.bytesOf E :: (DataW.weightsAll P E (elems.map (·.1)) ++ DataW.weightsAll P E (rest.map (·.1))), y ≤ reachBytes := fun y hy => hw y (by
        show y ∈ DataW.weights P T (DataW.slice (elems.map (·.1)) (rest.map (·.1)))
        unfold DataW.weights
        rw [hu]
        simpa using hy)
      have hsz : len * P.bytesOf E ≤ reachBytes := Nat.le_trans (Nat.mul_le_mul_right _ (by omega)) (hws _ (List.mem_cons_self ..))
      rw [hc] at hel
      have key : ∀ i, i < len → ∃ (c : List Value) (z : t.D), W.cells? 0 (a.add (i * t.n)) t.n = some c ∧ t.rep.p (fun _ => True) z c W ∧ t.wd P E z := by
        intro i hi
        have h1 := hel i hi
        rw [List.getElem?_eq_getElem (by omega)] at h1
        obtain ⟨c, h2, h3⟩ := Option.bind_eq_some_iff.1 h1
        obtain ⟨z, hz, hz2⟩ := open_repw t hE h3 fun y hy => hws y (List.mem_cons_of_mem _ (List.mem_append_left _ (weights_all (List.mem_map_of_mem (List.getElem_mem (by omega))) hy)))
        exact ⟨c, z, h2, hz, hz2⟩
      rcases Nat.eq_zero_or_pos len with h0 | h0
      · subst h0
        exact ⟨[], ⟨_, rfl, some a, cap, rfl, Nat.zero_le _, hcm, .inl rfl⟩, wnil⟩
      · obtain ⟨c, z, h1, h2, _⟩ := key 0 h0
        obtain ⟨h3, h4⟩ := cells_get h1
        have h5 := h4 0 (c[0]'(by omega)) (List.getElem?_eq_getElem (by omega))
        rw [Nat.zero_mul, add_0, add_0] at h5
        obtain ⟨ha, hb⟩ := spot_none h5
        rw [ha] at key
        obtain ⟨xs, cs, g1, g2, g3, g4⟩ := elems_ofw (t := t) (q := fun z => t.wd P E z) (b := a.block) (o := a.off) hb len fun i hi => by
          have := key i hi
          rw [addr_add] at this
          exact this
        refine ⟨xs, ⟨_, rfl, some a, cap, by rw [g1], by omega, hcm, .inr ⟨a.block, a.off, cs, by rw [← ha], trivial, g2, g3⟩⟩, fun E' hE' => ?_⟩
        obtain rfl : E = E' := by rw [hu] at hE'; simpa using hE'
        exact ⟨by show xs.length * _ ≤ _; rw [g1]; exact hsz, fun x hx => g4 x hx⟩
  | .p s t, T, n, cs, x, ht, h, hw => by
    obtain ⟨f0, f1, hu, hc, o0, o1, c0, c1, h0, h1⟩ := ht
    obtain ⟨y0, y1, m, rfl, hl, g0, g1⟩ := trod_struct2 hu h
    rw [o0, c0, List.drop_zero] at g0
    rw [o1, c1] at g1
    have hws : ∀ y ∈ DataW.weightsEach P [f0.type, f1.type] [y0.1, y1.1], y ≤ reachBytes := fun y hy => hw y (by
      show y ∈ DataW.weights P T (DataW.agg [y0.1, y1.1])
      unfold DataW.weights
      rw [hu]
      exact hy)
    obtain ⟨z0, k0, w0⟩ := open_repw s h0 g0 fun y hy => hws y (by unfold DataW.weightsEach; exact List.mem_append_left _ hy)
    obtain ⟨z1, k1, w1⟩ := open_repw t h1 g1 fun y hy => hws y (by unfold DataW.weightsEach DataW.weightsEach; exact List.mem_append_right _ (List.mem_append_left _ hy))
    refine ⟨(z0, z1), ⟨cs.take s.n, (cs.drop s.n).take t.n, ?_, k0, k1⟩, fun e0 e1 he => ?_⟩
    · rw [hc] at hl
      have e : (cs.drop s.n).take t.n = cs.drop s.n := List.take_of_length_le (by simp; omega)
      rw [e, List.take_append_drop]
    · rw [hu] at he
      obtain ⟨rfl, rfl⟩ : f0 = e0 ∧ f1 = e1 := by simpa using he
      exact ⟨w0, w1⟩
  | .a _ _, _, _, _, _, ht, _, _ => ht.elim
  | .po _, _, _, _, _, ht, _, _ => ht.elim
  | .tr, _, _, _, _, ht, _, _ => ht.elim
  | .er, _, _, _, _, ht, _, _ => ht.elim
  | .w1 _, _, _, _, _, ht, _, _ => ht.elim
def AsWd (P : Program) : (dom : List AM) → List TypeId → AsD dom → Prop
  | .d t :: r, T :: Ts, x => t.wd P T x.1 ∧ AsWd P r Ts x.2
  | _, _, _ => True
theorem open_argsw {r : Reach} {b0 : Nat} : ∀ {dom : List AM} {Ts : List TypeId} {vs : List Value} {ds : List (DataW H)} {ps : List MemPlace}, DomAt P dom Ts → (∀ (j : Nat) t v, Ts[j]? = some t → vs[j]? = some v → Value.okWide P W r b0 t v) → DataW.TrodAll enc P W 0 sp held Ts vs ds ps →
    (∀ (j : Nat) t d, Ts[j]? = some t → ds[j]? = some d → ∀ n ∈ d.weights P t, n ≤ reachBytes) →
    vs.length = Ts.length ∧ ∃ x : AsD dom, AsOK dom x ∧ AsWd P dom Ts x ∧ All (fun _ => True) (argFs P dom x vs) W
  | [], [], [], [], _, _, _, _, _ => ⟨rfl, (), trivial, trivial, trivial⟩
  | .d t :: dom, T :: Ts, v :: vs, d :: ds, ps, h, hv, ha, hw => by
    obtain ⟨p, q, h1, h2, _⟩ := ha
    obtain ⟨hl, x, hok, hwd, hx⟩ := open_argsw (vs := vs) (ds := ds) h.2 (fun j t' v' ht hv' => hv (j + 1) t' v' (by simpa using ht) (by simpa using hv')) h2 (fun j t' d' ht hd => hw (j + 1) t' d' (by simpa using ht) (by simpa using hd))
    have hvv := val_of t h.1 (hv 0 T v rfl rfl)
    obtain ⟨m, h3⟩ := h1
    obtain ⟨z, hzp, hzw⟩ := open_repw t h.1 h3 (hw 0 T d rfl rfl)
    exact ⟨by simp [hl], (z, x), ⟨rep_ok t hzp, hok⟩, ⟨hzw, hwd⟩, ⟨_, hvv, hzp⟩, hx⟩
  | [], [], _ :: _, _, _, _, _, h, _ => h.elim
  | [], [], [], _ :: _, _, _, _, h, _ => h.elim
  | .d _ :: _, _ :: _, [], _, _, _, _, h, _ => h.elim
  | .d _ :: _, _ :: _, _ :: _, [], _, _, _, h, _ => h.elim
  | .d _ :: _, [], _, _, _, h, _, _, _ => h.elim
  | [], _ :: _, _, _, _, h, _, _, _ => h.elim
  | .q _ :: _, _, _, _, _, h, _, _, _ => h.elim
  | .own _ _ :: _, _, _, _, _, h, _, _, _ => h.elim
  | .var _ _ :: _, _, _, _, _, h, _, _, _ => h.elim
  | .fn _ _ :: _, _, _, _, _, h, _, _, _ => h.elim
end
theorem law_endw {H : Type} {enc : TypeId × Value → H} {P : Program} {f : Func} {s : ChangeSpec} {apart fresh handsOn : Bool} {W : World} {base : Nat} {args : Array Value} {ds gs : List (DataW H)} {before : List MemPlace} {sg : Sig} {Xs : List TypeId}
    (hW : DataW.Whole enc P f.params.toList s.vars apart W args.toList ds gs before) (hvars : s.vars = []) (hval : ∀ (j : Nat) t v, f.params[j]? = some t → args[j]? = some v → Value.okWide P W .any base t v)
    (hsz : (DataW.weightsEach P (f.params.toList ++ Xs) (ds ++ gs)).all (· ≤ reachBytes) = true)
    (hl : laidOutB P = true) (hr : ∀ t ∈ f.params.toList, P.readableRec t = true ∧ t < P.types.size) (hdom : DomAt P sg.dom f.params.toList) (hc : sg.cod = [.d .b]) (hS : SigOK P sg) (hM : ∀ x, AsOK sg.dom x → AsWd P sg.dom f.params.toList x → sg.M x = some (hc ▸ true : RsD sg.cod)) {B : TypeId} (hB : f.resultTypes = #[B]) (hBu : P.underlying B = some .bool)
    (hfn : s.fn H (ds ++ gs) = { results := [.lit (.bool true)], args := ds }) (hk : sg.bk = 0 := by rfl) (hg : Gv W := by exact trivial) :
    Calls P sg.f args W fun e W' => ∃ v, e = .returned v ∧ s.post enc P f apart fresh handsOn false W args v W' := by
  obtain ⟨p, q, hA, hV, hpq, hfz, hnd⟩ := id hW
  rw [hvars] at hV
  cases gs with
  | cons g gs => exact hV.elim
  | nil =>
    have hq : q = [] := hV
    subst hq
    obtain ⟨hlen, x, hok, hwd, hx⟩ := open_argsw (vs := args.toList) hdom (fun j t v ht hv => hval j t v (by simpa using ht) (by simpa using hv)) hA (fun j t d ht hd n hn => by
      have h1 : (f.params.toList ++ Xs)[j]? = some t := by
        rw [List.getElem?_append_left (List.getElem?_eq_some_iff.1 ht).1]; exact ht
      have h2 : (ds ++ [])[j]? = some d := by rw [List.append_nil]; exact hd
      simpa using List.all_eq_true.1 hsz n (DataW.weights_mem_each h1 h2 n hn))
    refine (sig_true hS hk hc x (hM x hok hwd) (vs := args.toList) (by rw [hlen, dom_len hdom]) (dom_ms hdom x _) hx hg).mono ?_
    rintro e W' ⟨rfl, hext⟩
    refine ⟨_, rfl, post_ext (pa := before) (pv := []) hW (fun b sp hd => ?_) (fun sp hsp => ?_) (fun sp _ => ?_) (by simp) hext⟩
    · rw [hB, hfn]
      exact ⟨[], [], shut_bool hBu _, rfl, rfl⟩
    · rw [hfn]
      have hA' : DataW.TrodAll enc P W 0 (fun _ => true) true f.params.toList args.toList ds before := by rw [hpq, List.append_nil]; exact hA
      exact trodAll_stays hl hr hA' (fun p hp => same_ext hext (hW.lt p hp)) hsp
    · rw [hvars, hfn]; rfl
end
section
def tmpO : Operand → Option Tmp
  | .tmp t => some t
  | _ => none
def tmpsOf (op : Op) : List Tmp := op.operands.toList.filterMap tmpO
def Lk (P : Program) (vs : Nat → Value) (env : Env) (S : Nat → Prop) (w : World) (cx σ : Sg) (t : Tmp) : Prop :=
  ∀ i d, get cx σ t i = some d → (holdC P vs d (env t) i).p S w
def LkO (P : Program) (vs : Nat → Value) (env : Env) (S : Nat → Prop) (w : World) (cx σ : Sg) (x : Operand) : Prop := ∀ t, tmpO x = some t → Lk P vs env S w cx σ t
def ES (P : Program) (o : Oper) (cx σ : Sg) (F : List MF) (l : List (Nat × Dv)) : Prop :=
  ∀ (env : Env) (w : World) (S : Nat → Prop) (vs : Nat → Value), Tl w S → AllM S (MS vs σ.ob ++ (MS vs cx.ob ++ F)) w → (∀ t ∈ tmpsOf o.op, Lk P vs env S w cx σ t) →
    OpR P o env w (fun v w' => Ext w w' ∧ ∀ e ∈ l, (holdC P vs e.2 v e.1).p S w')
section
variable {P : Program} {cf : Cf} {cx σ : Sg} {F : List MF} {vs : Nat → Value} {env : Env} {S : Nat → Prop} {w : World} {R : Type} {r : R}
  {d : Option Tmp} {ty t yt : TypeId} {pos : String} {aft : Array Edge} {g : Option (Nat × Bool)} {x y : Operand}
theorem lk_of {op : Op} (h : ∀ t ∈ tmpsOf op, Lk P vs env S w cx σ t) (hx : x ∈ op.operands.toList) : LkO P vs env S w cx σ x :=
  fun t ht => h t (List.mem_filterMap.2 ⟨x, hx, ht⟩)
theorem opv_hold {v : Dv} (h : opv cx σ x = some v) (hl : LkO P vs env S w cx σ x) : (hold P vs v (ev env x)).p S w := by
  cases x with
  | tmp t => exact hl t rfl 0 v h
  | const c =>
    simp only [opv] at h
    unfold cv at h
    split at h
    · split at h
      · next hx => cases h; exact i64_fV hx
      · cases h
    · split at h
      · next x hx =>
        cases h
        have : ((x.toNat : Nat) : Int) = x := Int.toNat_of_nonneg hx.1
        have h2 : x.toNat < 18446744073709551616 := by omega
        have := u64_fV (S := S) (w := w) h2
        rwa [‹((x.toNat : Nat) : Int) = x›] at this
      · cases h
    · cases h; exact rfl
    · split at h
      · next x hx =>
        cases h
        have : ((x.toNat : Nat) : Int) = x := Int.toNat_of_nonneg hx.1
        have h2 : x.toNat < 256 := by omega
        have := ch_fV (S := S) (w := w) h2
        rwa [‹((x.toNat : Nat) : Int) = x›] at this
      · cases h
    · split at h
      · next hx => cases h; exact tx_fV rfl hx
      · cases h
    · cases h; exact rfl
    · cases h; exact rfl
    · cases h; exact rfl
    · cases h; exact rfl
    · cases h
  | global g => cases h
  | func f => cases h; exact ⟨[], rfl, rfl, trivial⟩
theorem pdOf_hold {v : Dv} {u : Value} {p : PD} (h : pdOf v = some p) (hv : (hold P vs v u).p S w) : (fV p.t.rep p.x u).p S w := by
  cases v <;> simp only [pdOf, Option.some.injEq, reduceCtorEq] at h
  · subst h; exact hv
  · subst h
    rw [show u = _ from hv]; exact bool_fV
theorem pd_hold {p : PD} (h : pd cx σ x = some p) (hl : LkO P vs env S w cx σ x) : (fV p.t.rep p.x (ev env x)).p S w := by
  unfold pd at h
  cases hv : opv cx σ x with
  | none => rw [hv] at h; cases h
  | some v => rw [hv] at h; exact pdOf_hold h (opv_hold hv hl)
theorem pd_i {a : Int} (h : pd cx σ x = some ⟨.i, a⟩) (hl : LkO P vs env S w cx σ x) : ev env x = .int .i64 a ∧ InR a := fV_i64 (pd_hold h hl)
theorem pd_u {a : Nat} (h : pd cx σ x = some ⟨.u, a⟩) (hl : LkO P vs env S w cx σ x) : ev env x = .int .u64 (a : Int) ∧ InU a := fV_u64 (pd_hold h hl)
theorem pd_c {a : Nat} (h : pd cx σ x = some ⟨.ch, a⟩) (hl : LkO P vs env S w cx σ x) : ev env x = .int .u8 (a : Int) ∧ a < 256 := fV_ch (pd_hold h hl)
theorem pd_t {a : List Nat} (h : pd cx σ x = some ⟨.tx, a⟩) (hl : LkO P vs env S w cx σ x) : ∃ s : ByteArray, ev env x = .string s ∧ bytesN s = a ∧ s.size ≤ 9223372036854775807 := fV_tx (pd_hold h hl)
theorem pd_b {a : Bool} (h : pd cx σ x = some ⟨.b, a⟩) (hl : LkO P vs env S w cx σ x) : ev env x = .bool a := fV_bool (pd_hold h hl)
theorem asD_s {v : Option Dv} {t : Ty} {k : t.D → Option R} (h : asD v t k = some r) : ∃ y : t.D, k y = some r ∧ ∀ (P : Program) vs S w (d : Dv) u, v = some d → (hold P vs d u).p S w → (fV t.rep y u).p S w := by
  unfold asD at h
  split at h
  · next =>
    cases t <;> simp only [reduceCtorEq] at h
    exact ⟨_, h, fun P vs S w d u hd hh => by cases hd; rw [show u = _ from hh]; exact nil_fV⟩
  · next =>
    cases t <;> simp only [reduceCtorEq] at h
    · exact ⟨_, h, fun P vs S w d u hd hh => by cases hd; rw [show u = _ from hh]; exact np_fV⟩
    · exact ⟨_, h, fun P vs S w d u hd hh => by cases hd; rw [show u = _ from hh]; exact tn_fV⟩
  · next =>
    cases t <;> simp only [reduceCtorEq] at h
    exact ⟨_, h, fun P vs S w d u hd hh => by cases hd; rw [show u = _ from hh]; exact er_fV⟩
  · next s y =>
    cases t <;> simp only [reduceCtorEq] at h
    · obtain ⟨e, h⟩ := cast_s h
      subst e
      exact ⟨_, h, fun P vs S w d u hd hh => by cases hd; exact sp_fV hh⟩
    · obtain ⟨e, h⟩ := cast_s h
      subst e
      exact ⟨_, h, fun P vs S w d u hd hh => by cases hd; exact tr_fV hh⟩
  · next v' hv _ _ =>
    split at h
    · next p hp =>
      obtain ⟨e, h⟩ := cast_s h
      subst e
      exact ⟨_, h, fun P vs S w d u hd hh => by cases hd; exact pdOf_hold hp hh⟩
    · cases h
  · cases h
theorem asO_s {t : Ty} {k : t.D → Option R} (h : asD (opv cx σ x) t k = some r) : ∃ y : t.D, k y = some r ∧ ∀ (P : Program) vs env S w, LkO P vs env S w cx σ x → (fV t.rep y (ev env x)).p S w := by
  obtain ⟨y, h1, h2⟩ := asD_s h
  refine ⟨y, h1, fun P vs env S w hl => ?_⟩
  cases hv : opv cx σ x with
  | none => rw [hv] at h; cases h
  | some v => exact h2 P vs S w v _ hv (opv_hold hv hl)
theorem es_val {o : Oper} {l : List (Nat × Dv)} (h : ∀ env w S vs, (∀ t ∈ tmpsOf o.op, Lk P vs env S w cx σ t) → ∃ v, (execOp (ev env) o).run P w = .ok (.value v) w ∧ ∀ e ∈ l, (holdC P vs e.2 v e.1).p S w) : ES P o cx σ F l := by
  intro env w S vs hS hM hl
  obtain ⟨v, h1, h2⟩ := h env w S vs hl
  exact OpR.of_value h1 ⟨Keeps.refl _ _, h2⟩
theorem one_of {v : Value} {dv : Dv} (h : (hold P vs dv v).p S w) : ∀ e ∈ [(0, dv)], (holdC P vs e.2 v e.1).p S w := by
  intro e he
  rw [List.mem_singleton] at he
  subst he; exact h
theorem es_oe {o : Oper} {l : List (Nat × Dv)} (h : ∀ env w S vs, AllM S (MS vs σ.ob ++ (MS vs cx.ob ++ F)) w → (∀ t ∈ tmpsOf o.op, Lk P vs env S w cx σ t) → ∃ (U : Type) (val : U → Value) (facts : U → List FF) (ok : U → Prop) (Γ : List FF) (ms : List MF),
    OpE P o env ms Γ val facts ok ∧ AllM S ms w ∧ All S Γ w ∧ ∀ u w', ok u → All S (facts u) w' → ∀ e ∈ l, (holdC P vs e.2 (val u) e.1).p S w') : ES P o cx σ F l := by
  intro env w S vs hS hM hl
  obtain ⟨U, val, facts, ok, Γ, ms, h1, hM', h2, h3⟩ := h env w S vs hM hl
  refine (h1 w S hS hM' h2).mono ?_
  rintro v w' ⟨u, rfl, hu, hx, hf⟩
  exact ⟨hx, h3 u w' hu hf⟩
theorem tups_get : ∀ (f i : Nat) (t : Nat) (e : Nat × Dv), e ∈ tups cx σ t f i → get cx σ t e.1 = some e.2
  | 0, _, _, _, h => absurd h List.not_mem_nil
  | f + 1, i, t, e, h => by
    unfold tups at h
    split at h
    · next d hd =>
      rcases List.mem_cons.1 h with rfl | h
      · exact hd
      · exact tups_get f (i + 1) t e h
    · exact absurd h List.not_mem_nil
theorem e_move {op : Op} (hop : op = .move x ∨ op = .assign x) {k : List (Nat × Dv) → Option R} (h : eMove cx σ x k = some r) : ∃ l, k l = some r ∧ ES P ⟨d, op, ty, pos, aft, g⟩ cx σ F l := by
  have hr : ∀ env w, (execOp (ev env) ⟨d, op, ty, pos, aft, g⟩).run P w = .ok (.value (ev env x)) w := fun env w => by rcases hop with rfl | rfl <;> exact pv_run rfl w
  have hm : x ∈ op.operands.toList := by rcases hop with rfl | rfl <;> simp [Op.operands]
  unfold eMove at h
  split at h
  · next v hv => exact ⟨_, h, es_val fun env w S vs hl => ⟨_, hr env w, one_of (opv_hold hv (lk_of hl hm))⟩⟩
  · unfold allD at h
    split at h
    · next t hx =>
      split at h
      · cases h
      · next l0 l hl0 =>
        exact ⟨_, h, es_val fun env w S vs hl => ⟨_, hr env w, fun e he => lk_of hl hm t rfl _ _ (tups_get _ _ _ _ he)⟩⟩
    · cases h
theorem e_ext {i : Nat} {k : List (Nat × Dv) → Option R} (h : eExt cx σ x i k = some r) : ∃ l, k l = some r ∧ ES P ⟨d, .extract x i, ty, pos, aft, g⟩ cx σ F l := by
  unfold eExt at h
  split at h
  · next t =>
    split at h
    · next v hv =>
      refine ⟨_, h, ?_⟩
      intro env w S vs hS hM hl
      obtain ⟨us, u, h1, h2, h3⟩ := lk_of hl (x := .tmp t) (by simp [Op.operands]) t rfl (i + 1) v hv
      exact OpR.of_value (v := u) (pv_run (by simp only [pv, ev, h1]; exact h2) w) ⟨Keeps.refl _ _, one_of h3⟩
    · cases h
  · cases h
theorem mv1 {k : List (Nat × Dv) → Option R} (h : eMv1 cx σ x k = some r) : ∃ v, opv cx σ x = some v ∧ k [(0, v)] = some r := by grind [eMv1]
theorem e_pick {c : Operand} {k : List (Nat × Dv) → Option R} (h : ePick cx σ c x y k = some r) : ∃ l, k l = some r ∧ ES P ⟨d, .pick c x y, ty, pos, aft, g⟩ cx σ F l := by
  unfold ePick at h
  split at h
  · next hc =>
    obtain ⟨v, hv, h⟩ := mv1 h
    exact ⟨_, h, es_val fun env w S vs hl => ⟨_, r_pickT (opv_hold hc (lk_of hl (by simp [Op.operands]))) rfl w, one_of (opv_hold hv (lk_of hl (by simp [Op.operands])))⟩⟩
  · next hc =>
    obtain ⟨v, hv, h⟩ := mv1 h
    exact ⟨_, h, es_val fun env w S vs hl => ⟨_, r_pickF (opv_hold hc (lk_of hl (by simp [Op.operands]))) rfl w, one_of (opv_hold hv (lk_of hl (by simp [Op.operands])))⟩⟩
  · cases h
theorem e_not {k : List (Nat × Dv) → Option R} (h : eNot cx σ x k = some r) : ∃ l, k l = some r ∧ ES P ⟨d, .unOp .not t x, ty, pos, aft, g⟩ cx σ F l := by
  unfold eNot at h
  split at h
  · next b hb => exact ⟨_, h, es_val fun env w S vs hl => ⟨_, r_not (opv_hold hb (lk_of hl (by simp [Op.operands]))) w, one_of (by exact rfl)⟩⟩
  · next b hb => exact ⟨_, h, es_val fun env w S vs hl => ⟨_, r_not (fV_bool (opv_hold hb (lk_of hl (by simp [Op.operands])))) w, one_of (by exact bool_fV)⟩⟩
  · cases h
theorem e_neg {k : List (Nat × Dv) → Option R} (h : eNeg cx σ x k = some r) : ∃ l, k l = some r ∧ ES P ⟨d, .unOp .neg t x, ty, pos, aft, g⟩ cx σ F l := by
  unfold eNeg at h
  split at h
  · next a ha =>
    obtain ⟨z, hz, hr, h⟩ := ck64_s h
    exact ⟨_, h, es_val fun env w S vs hl => ⟨_, r_neg (pd_i ha (lk_of hl (by simp [Op.operands]))).1 (w_x hz hr) w, one_of (i64_fV hr)⟩⟩
  · next a ha =>
    obtain ⟨z, hz, h⟩ := nm_s h
    exact ⟨_, h, es_val fun env w S vs hl => by
      obtain ⟨h1, h2⟩ := pd_u ha (lk_of hl (by simp [Op.operands]))
      exact ⟨_, r_neg h1 (wu_x hz (wu_neg h2)) w, one_of (u64_fV (eq_mod_r hz))⟩⟩
  · cases h
theorem kbS {p : Prop} [Decidable p] {k : List (Nat × Dv) → Option R} (h : (if p then k [(0, .kb true)] else k [(0, .kb false)]) = some r) : k [(0, .kb (decide p))] = some r := by grind
theorem kbN {p : Prop} [Decidable p] {k : List (Nat × Dv) → Option R} (h : (if p then k [(0, .kb false)] else k [(0, .kb true)]) = some r) : k [(0, .kb (!decide p))] = some r := by grind
theorem bopI {bo : BinOp} {a c : Int} {k : List (Nat × Dv) → Option R} (h : arI bo a c (fun v => k [(0, v)]) = some r) (ha : pd cx σ x = some ⟨.i, a⟩) (hc : pd cx σ y = some ⟨.i, c⟩) :
    ∃ l, k l = some r ∧ ES P ⟨d, .binOp bo t x y yt, ty, pos, aft, g⟩ cx σ F l := by
  have hx : ∀ {vs env S w}, (∀ t' ∈ tmpsOf (.binOp bo t x y yt), Lk P vs env S w cx σ t') → LkO P vs env S w cx σ x := fun hl => lk_of hl (by simp [Op.operands])
  have hy : ∀ {vs env S w}, (∀ t' ∈ tmpsOf (.binOp bo t x y yt), Lk P vs env S w cx σ t') → LkO P vs env S w cx σ y := fun hl => lk_of hl (by simp [Op.operands])
  cases bo <;> simp only [arI, reduceCtorEq] at h
  case add => obtain ⟨z, hz, hr, h⟩ := ck64_s h; exact ⟨_, h, es_val fun env w S vs hl => ⟨_, r_add (pd_i ha (hx hl)).1 (pd_i hc (hy hl)).1 (w_x hz hr) w, one_of (i64_fV hr)⟩⟩
  case sub => obtain ⟨z, hz, hr, h⟩ := ck64_s h; exact ⟨_, h, es_val fun env w S vs hl => ⟨_, r_sub (pd_i ha (hx hl)).1 (pd_i hc (hy hl)).1 (w_x hz hr) w, one_of (i64_fV hr)⟩⟩
  case mul => obtain ⟨z, hz, hr, h⟩ := ck64_s h; exact ⟨_, h, es_val fun env w S vs hl => ⟨_, r_mul (pd_i ha (hx hl)).1 (pd_i hc (hy hl)).1 (w_x hz hr) w, one_of (i64_fV hr)⟩⟩
  case quo => obtain ⟨h0, h⟩ := ck_s h; obtain ⟨z, hz, hr, h⟩ := ck64_s h; exact ⟨_, h, es_val fun env w S vs hl => ⟨_, r_quo (pd_i ha (hx hl)).1 (pd_i hc (hy hl)).1 h0 (w_x hz hr) w, one_of (i64_fV hr)⟩⟩
  case rem => obtain ⟨h0, h⟩ := ck_s h; obtain ⟨z, hz, h⟩ := nm_s h; exact ⟨_, h, es_val fun env w S vs hl => ⟨_, r_rem (pd_i ha (hx hl)).1 (pd_i hc (hy hl)).1 h0 hz.symm w, one_of (i64_fV (tmod_r (pd_i ha (hx hl)).2 hz))⟩⟩
  case and => obtain ⟨z, hz, h⟩ := nm_s h; exact ⟨_, h, es_val fun env w S vs hl => ⟨_, r_and (pd_i ha (hx hl)).1 (pd_i hc (hy hl)).1 (n_and_i.trans hz.symm) w, one_of (i64_fV (eq_r hz (andI_r _ _)))⟩⟩
  case or => obtain ⟨z, hz, h⟩ := nm_s h; exact ⟨_, h, es_val fun env w S vs hl => ⟨_, r_or (pd_i ha (hx hl)).1 (pd_i hc (hy hl)).1 (n_or_i.trans hz.symm) w, one_of (i64_fV (eq_r hz (orI_r _ _)))⟩⟩
  case shr => obtain ⟨h0, h⟩ := ck_s h; obtain ⟨z, hz, h⟩ := nm_s h; exact ⟨_, h, es_val fun env w S vs hl => ⟨_, r_shr (pd_i ha (hx hl)).1 (pd_i hc (hy hl)).1 h0 hz.symm w, one_of (i64_fV (fdiv_r (pd_i ha (hx hl)).2 hz))⟩⟩
  case shl => obtain ⟨h0, h⟩ := ck_s h; obtain ⟨z, hz, hr, h⟩ := ck64_s h; exact ⟨_, h, es_val fun env w S vs hl => ⟨_, r_shl (pd_i ha (hx hl)).1 (pd_i hc (hy hl)).1 h0 (w_x hz hr) w, one_of (i64_fV hr)⟩⟩
  case lss => exact ⟨[(0, .kb (decide (a < c)))], kbS h, es_val fun env w S vs hl => ⟨_, r_lss (pd_i ha (hx hl)).1 (pd_i hc (hy hl)).1 w, one_of (by exact rfl)⟩⟩
  case leq => exact ⟨[(0, .kb (decide (a ≤ c)))], kbS h, es_val fun env w S vs hl => ⟨_, r_leq (pd_i ha (hx hl)).1 (pd_i hc (hy hl)).1 w, one_of (by exact rfl)⟩⟩
  case gtr => exact ⟨[(0, .kb (decide (c < a)))], kbS h, es_val fun env w S vs hl => ⟨_, r_gtr (pd_i ha (hx hl)).1 (pd_i hc (hy hl)).1 w, one_of (by exact rfl)⟩⟩
  case geq => exact ⟨[(0, .kb (decide (c ≤ a)))], kbS h, es_val fun env w S vs hl => ⟨_, r_geq (pd_i ha (hx hl)).1 (pd_i hc (hy hl)).1 w, one_of (by exact rfl)⟩⟩
  case eql => exact ⟨[(0, .kb (decide (a = c)))], kbS h, es_val fun env w S vs hl => ⟨_, r_eql (pd_i ha (hx hl)).1 (pd_i hc (hy hl)).1 w, one_of (by exact rfl)⟩⟩
  case neq => exact ⟨[(0, .kb (!decide (a = c)))], kbN h, es_val fun env w S vs hl => ⟨_, r_neq (pd_i ha (hx hl)).1 (pd_i hc (hy hl)).1 w, one_of (by exact rfl)⟩⟩
theorem bopU {bo : BinOp} {a c : Nat} {k : List (Nat × Dv) → Option R} (h : (match bo with
    | .shr => shUU .shr a c (fun v => k [(0, v)])
    | .shl => shUU .shl a c (fun v => k [(0, v)])
    | bo => arU bo a c (fun v => k [(0, v)])) = some r) (ha : pd cx σ x = some ⟨.u, a⟩) (hc : pd cx σ y = some ⟨.u, c⟩) :
    ∃ l, k l = some r ∧ ES P ⟨d, .binOp bo t x y yt, ty, pos, aft, g⟩ cx σ F l := by
  have hx : ∀ {vs env S w}, (∀ t' ∈ tmpsOf (.binOp bo t x y yt), Lk P vs env S w cx σ t') → LkO P vs env S w cx σ x := fun hl => lk_of hl (by simp [Op.operands])
  have hy : ∀ {vs env S w}, (∀ t' ∈ tmpsOf (.binOp bo t x y yt), Lk P vs env S w cx σ t') → LkO P vs env S w cx σ y := fun hl => lk_of hl (by simp [Op.operands])
  split at h
  · simp only [shUU] at h
    obtain ⟨z, hz, h⟩ := nm_s h
    exact ⟨_, h, es_val fun env w S vs hl => ⟨_, r_shr (pd_u ha (hx hl)).1 (pd_u hc (hy hl)).1 (Int.natCast_nonneg _) (wu_y hz n_shr_u) w, one_of (u64_fV (udiv_r (pd_u ha (hx hl)).2 hz))⟩⟩
  · simp only [shUU] at h
    obtain ⟨z, hz, h⟩ := nm_s h
    exact ⟨_, h, es_val fun env w S vs hl => ⟨_, r_shl (pd_u ha (hx hl)).1 (pd_u hc (hy hl)).1 (Int.natCast_nonneg _) (wu_x hz n_shl_u) w, one_of (u64_fV (eq_mod_r hz))⟩⟩
  · next hn1 hn2 =>
    cases bo <;> simp only [arU, reduceCtorEq] at h
    case add => obtain ⟨z, hz, h⟩ := nm_s h; exact ⟨_, h, es_val fun env w S vs hl => ⟨_, r_add (pd_u ha (hx hl)).1 (pd_u hc (hy hl)).1 (wu_x hz wu_addw) w, one_of (u64_fV (eq_mod_r hz))⟩⟩
    case sub => obtain ⟨z, hz, h⟩ := nm_s h; exact ⟨_, h, es_val fun env w S vs hl => ⟨_, r_sub (pd_u ha (hx hl)).1 (pd_u hc (hy hl)).1 (wu_x hz (wu_subw (Nat.le_of_lt (pd_u hc (hy hl)).2))) w, one_of (u64_fV (eq_mod_r hz))⟩⟩
    case mul => obtain ⟨z, hz, h⟩ := nm_s h; exact ⟨_, h, es_val fun env w S vs hl => ⟨_, r_mul (pd_u ha (hx hl)).1 (pd_u hc (hy hl)).1 (wu_x hz wu_mulw) w, one_of (u64_fV (eq_mod_r hz))⟩⟩
    case quo => obtain ⟨h0, h⟩ := ck_s h; obtain ⟨z, hz, h⟩ := nm_s h; exact ⟨_, h, es_val fun env w S vs hl => ⟨_, r_quo (pd_u ha (hx hl)).1 (pd_u hc (hy hl)).1 (nz_u h0) (wu_x hz (n_quo_u64 (pd_u ha (hx hl)).2)) w, one_of (u64_fV (udiv_r (pd_u ha (hx hl)).2 hz))⟩⟩
    case rem => obtain ⟨h0, h⟩ := ck_s h; obtain ⟨z, hz, h⟩ := nm_s h; exact ⟨_, h, es_val fun env w S vs hl => ⟨_, r_rem (pd_u ha (hx hl)).1 (pd_u hc (hy hl)).1 (nz_u h0) (wu_y hz n_rem) w, one_of (u64_fV (umod_r (pd_u ha (hx hl)).2 hz))⟩⟩
    case and => obtain ⟨z, hz, h⟩ := nm_s h; exact ⟨_, h, es_val fun env w S vs hl => ⟨_, r_and (pd_u ha (hx hl)).1 (pd_u hc (hy hl)).1 (wu_x hz (n_and_u (pd_u ha (hx hl)).2 (pd_u hc (hy hl)).2)) w, one_of (u64_fV (eq_u hz (and_lt_u (pd_u ha (hx hl)).2)))⟩⟩
    case or => obtain ⟨z, hz, h⟩ := nm_s h; exact ⟨_, h, es_val fun env w S vs hl => ⟨_, r_or (pd_u ha (hx hl)).1 (pd_u hc (hy hl)).1 (wu_x hz (n_or_u (pd_u ha (hx hl)).2 (pd_u hc (hy hl)).2)) w, one_of (u64_fV (eq_u hz (or_lt_u (pd_u ha (hx hl)).2 (pd_u hc (hy hl)).2)))⟩⟩
    case lss => exact ⟨[(0, .kb (decide ((a : Int) < (c : Int))))], kbS h, es_val fun env w S vs hl => ⟨_, r_lss (pd_u ha (hx hl)).1 (pd_u hc (hy hl)).1 w, one_of (by exact rfl)⟩⟩
    case leq => exact ⟨[(0, .kb (decide ((a : Int) ≤ (c : Int))))], kbS h, es_val fun env w S vs hl => ⟨_, r_leq (pd_u ha (hx hl)).1 (pd_u hc (hy hl)).1 w, one_of (by exact rfl)⟩⟩
    case gtr => exact ⟨[(0, .kb (decide ((c : Int) < (a : Int))))], kbS h, es_val fun env w S vs hl => ⟨_, r_gtr (pd_u ha (hx hl)).1 (pd_u hc (hy hl)).1 w, one_of (by exact rfl)⟩⟩
    case geq => exact ⟨[(0, .kb (decide ((c : Int) ≤ (a : Int))))], kbS h, es_val fun env w S vs hl => ⟨_, r_geq (pd_u ha (hx hl)).1 (pd_u hc (hy hl)).1 w, one_of (by exact rfl)⟩⟩
    case eql => exact ⟨[(0, .kb (decide ((a : Int) = (c : Int))))], kbS h, es_val fun env w S vs hl => ⟨_, r_eql (pd_u ha (hx hl)).1 (pd_u hc (hy hl)).1 w, one_of (by exact rfl)⟩⟩
    case neq => exact ⟨[(0, .kb (!decide ((a : Int) = (c : Int))))], kbN h, es_val fun env w S vs hl => ⟨_, r_neq (pd_u ha (hx hl)).1 (pd_u hc (hy hl)).1 w, one_of (by exact rfl)⟩⟩
theorem bopS {bo : BinOp} {a : Nat} {c : Int} {k : List (Nat × Dv) → Option R} (h : shU bo a c (fun v => k [(0, v)]) = some r) (ha : pd cx σ x = some ⟨.u, a⟩) (hc : pd cx σ y = some ⟨.i, c⟩) :
    ∃ l, k l = some r ∧ ES P ⟨d, .binOp bo t x y yt, ty, pos, aft, g⟩ cx σ F l := by
  have hx : ∀ {vs env S w}, (∀ t' ∈ tmpsOf (.binOp bo t x y yt), Lk P vs env S w cx σ t') → LkO P vs env S w cx σ x := fun hl => lk_of hl (by simp [Op.operands])
  have hy : ∀ {vs env S w}, (∀ t' ∈ tmpsOf (.binOp bo t x y yt), Lk P vs env S w cx σ t') → LkO P vs env S w cx σ y := fun hl => lk_of hl (by simp [Op.operands])
  unfold shU at h
  split at h
  · obtain ⟨h0, h⟩ := ck_s h; obtain ⟨z, hz, h⟩ := nm_s h
    exact ⟨_, h, es_val fun env w S vs hl => ⟨_, r_shr (pd_u ha (hx hl)).1 (pd_i hc (hy hl)).1 h0 (wu_y hz n_shr_u) w, one_of (u64_fV (udiv_r (pd_u ha (hx hl)).2 hz))⟩⟩
  · obtain ⟨h0, h⟩ := ck_s h; obtain ⟨z, hz, h⟩ := nm_s h
    exact ⟨_, h, es_val fun env w S vs hl => ⟨_, r_shl (pd_u ha (hx hl)).1 (pd_i hc (hy hl)).1 h0 (wu_x hz n_shl_u) w, one_of (u64_fV (eq_mod_r hz))⟩⟩
  · cases h
theorem bopT {bo : BinOp} {a : Int} {c : Nat} {k : List (Nat × Dv) → Option R} (h : shI bo a c (fun v => k [(0, v)]) = some r) (ha : pd cx σ x = some ⟨.i, a⟩) (hc : pd cx σ y = some ⟨.u, c⟩) :
    ∃ l, k l = some r ∧ ES P ⟨d, .binOp bo t x y yt, ty, pos, aft, g⟩ cx σ F l := by
  have hx : ∀ {vs env S w}, (∀ t' ∈ tmpsOf (.binOp bo t x y yt), Lk P vs env S w cx σ t') → LkO P vs env S w cx σ x := fun hl => lk_of hl (by simp [Op.operands])
  have hy : ∀ {vs env S w}, (∀ t' ∈ tmpsOf (.binOp bo t x y yt), Lk P vs env S w cx σ t') → LkO P vs env S w cx σ y := fun hl => lk_of hl (by simp [Op.operands])
  unfold shI at h
  split at h
  · obtain ⟨z, hz, h⟩ := nm_s h
    exact ⟨_, h, es_val fun env w S vs hl => ⟨_, r_shr (pd_i ha (hx hl)).1 (pd_u hc (hy hl)).1 (Int.natCast_nonneg _) hz.symm w, one_of (i64_fV (fdiv_r (pd_i ha (hx hl)).2 hz))⟩⟩
  · obtain ⟨z, hz, hr, h⟩ := ck64_s h
    exact ⟨_, h, es_val fun env w S vs hl => ⟨_, r_shl (pd_i ha (hx hl)).1 (pd_u hc (hy hl)).1 (Int.natCast_nonneg _) (w_x hz hr) w, one_of (i64_fV hr)⟩⟩
  · cases h
theorem bopB {bo : BinOp} {a c : Bool} {tb : Bool} {k : List (Nat × Dv) → Option R} (h : grd tb (eqB bo a c (fun v => k [(0, v)])) = some r) (ha : pd cx σ x = some ⟨.b, a⟩) (hc : pd cx σ y = some ⟨.b, c⟩) (hb : tb = true → P.underlying t = some .bool) :
    ∃ l, k l = some r ∧ ES P ⟨d, .binOp bo t x y yt, ty, pos, aft, g⟩ cx σ F l := by
  have hx : ∀ {vs env S w}, (∀ t' ∈ tmpsOf (.binOp bo t x y yt), Lk P vs env S w cx σ t') → LkO P vs env S w cx σ x := fun hl => lk_of hl (by simp [Op.operands])
  have hy : ∀ {vs env S w}, (∀ t' ∈ tmpsOf (.binOp bo t x y yt), Lk P vs env S w cx σ t') → LkO P vs env S w cx σ y := fun hl => lk_of hl (by simp [Op.operands])
  obtain ⟨htb, h⟩ := grd_s h
  unfold eqB at h
  split at h
  · obtain ⟨z, hz, h⟩ := nm_s h
    exact ⟨_, h, es_val fun env w S vs hl => ⟨_, v_bool (r_beq (hb htb) (pd_b ha (hx hl)) (pd_b hc (hy hl))) hz w, one_of bool_fV⟩⟩
  · obtain ⟨z, hz, h⟩ := nm_s h
    exact ⟨_, h, es_val fun env w S vs hl => ⟨_, v_bool (r_bne (hb htb) (pd_b ha (hx hl)) (pd_b hc (hy hl))) hz w, one_of bool_fV⟩⟩
  · cases h
theorem wc_int (x : Int) : IntKind.u8.wrap x = x % 256 := by
  simp [IntKind.wrap, IntKind.bits, IntKind.signed]
theorem wc_add {a b : Nat} : IntKind.u8.wrap ((a : Int) + (b : Int)) = (((a + b) % 256 : Nat) : Int) := by rw [wc_int]; omega
theorem wc_sub {a b : Nat} (h : b ≤ 256) : IntKind.u8.wrap ((a : Int) - (b : Int)) = (((a + 256 - b) % 256 : Nat) : Int) := by rw [wc_int]; omega
theorem mod_c {n z : Nat} (h : z = n % 256) : z < 256 := by rw [h]; exact Nat.mod_lt _ (by decide)
theorem bopC {bo : BinOp} {a c : Nat} {k : List (Nat × Dv) → Option R} (h : arC bo a c (fun v => k [(0, v)]) = some r) (ha : pd cx σ x = some ⟨.ch, a⟩) (hc : pd cx σ y = some ⟨.ch, c⟩) :
    ∃ l, k l = some r ∧ ES P ⟨d, .binOp bo t x y yt, ty, pos, aft, g⟩ cx σ F l := by
  have hx : ∀ {vs env S w}, (∀ t' ∈ tmpsOf (.binOp bo t x y yt), Lk P vs env S w cx σ t') → LkO P vs env S w cx σ x := fun hl => lk_of hl (by simp [Op.operands])
  have hy : ∀ {vs env S w}, (∀ t' ∈ tmpsOf (.binOp bo t x y yt), Lk P vs env S w cx σ t') → LkO P vs env S w cx σ y := fun hl => lk_of hl (by simp [Op.operands])
  cases bo <;> simp only [arC, reduceCtorEq] at h
  case add => obtain ⟨z, hz, h⟩ := nm_s h; exact ⟨_, h, es_val fun env w S vs hl => ⟨_, r_add (pd_c ha (hx hl)).1 (pd_c hc (hy hl)).1 (wu_x hz wc_add) w, one_of (ch_fV (mod_c hz))⟩⟩
  case sub => obtain ⟨z, hz, h⟩ := nm_s h; exact ⟨_, h, es_val fun env w S vs hl => ⟨_, r_sub (pd_c ha (hx hl)).1 (pd_c hc (hy hl)).1 (wu_x hz (wc_sub (Nat.le_of_lt (pd_c hc (hy hl)).2))) w, one_of (ch_fV (mod_c hz))⟩⟩
  case lss => exact ⟨[(0, .kb (decide ((a : Int) < (c : Int))))], kbS h, es_val fun env w S vs hl => ⟨_, r_lss (pd_c ha (hx hl)).1 (pd_c hc (hy hl)).1 w, one_of (by exact rfl)⟩⟩
  case leq => exact ⟨[(0, .kb (decide ((a : Int) ≤ (c : Int))))], kbS h, es_val fun env w S vs hl => ⟨_, r_leq (pd_c ha (hx hl)).1 (pd_c hc (hy hl)).1 w, one_of (by exact rfl)⟩⟩
  case gtr => exact ⟨[(0, .kb (decide ((c : Int) < (a : Int))))], kbS h, es_val fun env w S vs hl => ⟨_, r_gtr (pd_c ha (hx hl)).1 (pd_c hc (hy hl)).1 w, one_of (by exact rfl)⟩⟩
  case geq => exact ⟨[(0, .kb (decide ((c : Int) ≤ (a : Int))))], kbS h, es_val fun env w S vs hl => ⟨_, r_geq (pd_c ha (hx hl)).1 (pd_c hc (hy hl)).1 w, one_of (by exact rfl)⟩⟩
  case eql => exact ⟨[(0, .kb (decide ((a : Int) = (c : Int))))], kbS h, es_val fun env w S vs hl => ⟨_, r_eql (pd_c ha (hx hl)).1 (pd_c hc (hy hl)).1 w, one_of (by exact rfl)⟩⟩
  case neq => exact ⟨[(0, .kb (!decide ((a : Int) = (c : Int))))], kbN h, es_val fun env w S vs hl => ⟨_, r_neq (pd_c ha (hx hl)).1 (pd_c hc (hy hl)).1 w, one_of (by exact rfl)⟩⟩
theorem bytesN_eq {s u : ByteArray} : (s.toList == u.toList) = decide (bytesN s = bytesN u) := by
  rw [ByteArray.toList_eq, ByteArray.toList_eq]
  unfold bytesN
  by_cases h : s.data.toList = u.data.toList
  · rw [h]; simp
  · have h2 : ¬ s.data.toList.map UInt8.toNat = u.data.toList.map UInt8.toNat := fun e => h (List.map_inj_right (fun x y => UInt8.toNat_inj.1) |>.1 e)
    rw [decide_eq_false h2]
    simpa using h
theorem bytesN_app (s u : ByteArray) : bytesN (s ++ u) = bytesN s ++ bytesN u := by
  unfold bytesN
  simp
theorem run_addT {s u : ByteArray} (h : (bytesN s).length + (bytesN u).length ≤ 9223372036854775807) (w : World) : (Op.stringOp .add s u).run P w = .ok (.string (s ++ u)) w := by
  rw [bytesN_len, bytesN_len] at h
  have h5 : ¬ (((s.size + u.size : Nat) : Int) > IntKind.i64.max) := by
    have : IntKind.i64.max = 9223372036854775807 := rfl
    omega
  unfold Op.stringOp
  simp only []
  rw [if_neg h5, Sem.run_pure]
theorem bopT2 {bo : BinOp} {a c : List Nat} {k : List (Nat × Dv) → Option R} (h : eqT bo a c (fun v => k [(0, v)]) = some r) (ha : pd cx σ x = some ⟨.tx, a⟩) (hc : pd cx σ y = some ⟨.tx, c⟩) :
    ∃ l, k l = some r ∧ ES P ⟨d, .binOp bo t x y yt, ty, pos, aft, g⟩ cx σ F l := by
  have hx : ∀ {vs env S w}, (∀ t' ∈ tmpsOf (.binOp bo t x y yt), Lk P vs env S w cx σ t') → LkO P vs env S w cx σ x := fun hl => lk_of hl (by simp [Op.operands])
  have hy : ∀ {vs env S w}, (∀ t' ∈ tmpsOf (.binOp bo t x y yt), Lk P vs env S w cx σ t') → LkO P vs env S w cx σ y := fun hl => lk_of hl (by simp [Op.operands])
  cases bo <;> simp only [eqT, reduceCtorEq] at h
  case add =>
    obtain ⟨h0, h⟩ := ck_s h
    obtain ⟨z, hz, h⟩ := nm_s h
    refine ⟨_, h, es_val fun env w S vs hl => ?_⟩
    obtain ⟨s, e1, e2, _⟩ := pd_t ha (hx hl)
    obtain ⟨u, e3, e4, _⟩ := pd_t hc (hy hl)
    have h6 : (bytesN s).length + (bytesN u).length ≤ 9223372036854775807 := by rw [e2, e4]; exact h0
    refine ⟨.string (s ++ u), ?_, one_of (tx_fV (by rw [bytesN_app, e2, e4]; exact hz.symm) (by rw [← bytesN_len, bytesN_app, List.length_append]; exact h6))⟩
    simp [execOp, e1, e3, eqGuard, binOp_string_add, run_addT (P := P) h6 w]
  case eql =>
    refine ⟨[(0, .kb (decide (a = c)))], kbS h, es_val fun env w S vs hl => ?_⟩
    obtain ⟨s, e1, e2, _⟩ := pd_t ha (hx hl)
    obtain ⟨u, e3, e4, _⟩ := pd_t hc (hy hl)
    refine ⟨.bool (decide (a = c)), ?_, one_of (by exact rfl)⟩
    rw [← e2, ← e4, ← bytesN_eq]
    simp [execOp, e1, e3, eqGuard, binOp_string_eql]
  case neq =>
    refine ⟨[(0, .kb (!decide (a = c)))], kbN h, es_val fun env w S vs hl => ?_⟩
    obtain ⟨s, e1, e2, _⟩ := pd_t ha (hx hl)
    obtain ⟨u, e3, e4, _⟩ := pd_t hc (hy hl)
    refine ⟨.bool (!decide (a = c)), ?_, one_of (by exact rfl)⟩
    rw [← e2, ← e4, ← bytesN_eq]
    simp [execOp, e1, e3, eqGuard, binOp_string_neq]
theorem bop {tb : Bool} {bo : BinOp} {k : List (Nat × Dv) → Option R} (h : binD tb bo (pd cx σ x) (pd cx σ y) (fun v => k [(0, v)]) = some r) (hb : tb = true → P.underlying t = some .bool) :
    ∃ l, k l = some r ∧ ES P ⟨d, .binOp bo t x y yt, ty, pos, aft, g⟩ cx σ F l := by
  unfold binD at h
  split at h
  · next a c ha hc => exact bopI h ha hc
  · next a c ha hc => exact bopU h ha hc
  · next a c ha hc => exact bopS h ha hc
  · next a c ha hc => exact bopT h ha hc
  · next a c ha hc => exact bopB h ha hc hb
  · next a c ha hc => exact bopC h ha hc
  · next a c ha hc => exact bopT2 h ha hc
  · cases h
end
end
section
theorem elems_u8 {S : Nat → Prop} {w : World} : ∀ l : List UInt8, Elems eCh S (l.map UInt8.toNat) (l.map fun b => Value.int .u8 b.toNat) w
  | [] => rfl
  | b :: l => ⟨[_], _, rfl, ⟨rfl, b.toNat_lt⟩, elems_u8 l⟩
section
variable {P : Program} {ms : List MF} {Γ : List FF} {env : Env} {d : Option Tmp} {ty s t : TypeId} {pos : String} {aft : Array Edge} {g : Option (Nat × Bool)} {x : Operand}
theorem oe_bytes {E : TypeId} {b : ByteArray} (hs : P.underlying s = some .string) (ht : P.underlying t = some (.slice E)) (hE : P.underlying E = some (.int .u8)) (hx : ev env x = .string b) (hb : b.size ≤ 9223372036854775807) :
    OpE P ⟨d, .convert s t x, ty, pos, aft, g⟩ env ms Γ (fun v : Value => v) (fun v => [fV (eS eCh) (bytesN b) v]) (fun _ => True) := by
  intro w S hS _ hΓ
  have xx : Ext w (Lib.bytesWorld w E b) := ⟨rfl, rfl, rfl, by rw [Lib.bytesWorld_size]; omega, fun k hk _ => Lib.bytesWorld_at_old w E b k hk⟩
  refine OpR.of_value (v := .slice (some ⟨w.heap.size, 0, none⟩) b.size (grownCap w b.size 0 E)) (w' := Lib.bytesWorld w E b) (by simp [execOp, hx, Lib.run_convert_string_bytes w s t E b hs ht hE]) ⟨_, rfl, trivial, xx, ⟨fV_slice.2 ⟨some ⟨w.heap.size, 0, none⟩, grownCap w b.size 0 E, by rw [bytesN_len], by rw [bytesN_len]; exact grownCap_ge w b.size 0 E, grownCap_le_maxLen w b.size 0 E (by unfold maxLen; exact hb), .inr ⟨_, _, _, rfl, hS.up _ (Nat.le_refl _), ?_, elems_u8 b.data.toList⟩⟩, trivial⟩⟩
  refine ⟨by rw [Lib.bytesWorld_size]; exact Nat.lt_succ_self _, fun j v hv => ?_⟩
  obtain ⟨hj, hv⟩ := List.getElem?_eq_some_iff.1 hv
  rw [List.length_map] at hj
  have hj2 : j < b.size := by simpa using hj
  have h := Lib.bytesWorld_cell w E b j hj2
  rw [Nat.zero_add, h, ← hv, List.getElem_map, List.getD_eq_getElem?_getD, List.getElem?_eq_getElem hj]
  rfl
end
end
end Go.Proofs.YtbaoeefdjpaomaaDoor
