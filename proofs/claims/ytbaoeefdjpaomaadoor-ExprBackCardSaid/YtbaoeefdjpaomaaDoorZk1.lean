/- What a proof needs: rules of walking, mirrors of functions and their plain laws. No condition. -/
import Derived.WalkKit
import Derived.Lib.LaidTab
import Derived.Lib.ItoaNum
import Derived.Test.YtbaoeefdjpaomaaDoorProg
import Derived.KernelRfl
import Derived.CallsIn
import Derived.OrdersIn
import Derived.TacticsIn
import Derived.RangeFuncIn
import Derived.Laws.AppendOwn
import Derived.Laws.OwnMore
import Derived.Laws.CopyOwn
import Derived.Orders
import Derived.Laws.IdiomCopy
import Derived.Laws.CopyRow
import Derived.Scope
import Derived.Lib.BitFns
set_option linter.unusedVariables false
set_option linter.unusedSimpArgs false
namespace Go.Proofs.YtbaoeefdjpaomaaDoor
noncomputable def powName : String := (Tryd.prog.globals.toList.getD 3 default).name
theorem var_keep {P : Program} {w w' : World} {n : String} {cs : Array Value} (h : w.var? P n = some cs) (hb : ∀ k, k < w.heap.size → w'.heap[k]? = w.heap[k]?) : w'.var? P n = some cs := by
  unfold World.var? at h ⊢
  cases hg : P.globalNamed n with
  | none => rw [hg] at h; cases h
  | some g =>
    rw [hg] at h
    simp only [Option.bind_some] at h ⊢
    have hk : g < w.heap.size := by
      rcases Nat.lt_or_ge g w.heap.size with h2 | h2
      · exact h2
      · rw [Array.getElem?_eq_none h2] at h; cases h
    rw [hb g hk]; exact h
def Gv (w : World) : Prop := Lib.TabIs Tryd.prog w powName .u64 Lib.pow10Tab ∧ (∃ tp p, w.var? Tryd.prog "strconv.ErrRange" = some #[.iface tp p]) ∧ ∃ tp p, w.var? Tryd.prog "strconv.ErrSyntax" = some #[.iface tp p]
theorem Gv.keep {w w' : World} (h : Gv w) (hs : w.heap.size ≤ w'.heap.size) (hb : ∀ k, k < w.heap.size → w'.heap[k]? = w.heap[k]?) : Gv w' :=
  let ⟨h1, ⟨a, b, h2⟩, c, d, h3⟩ := h
  ⟨var_keep h1 hb, ⟨a, b, var_keep h2 hb⟩, c, d, var_keep h3 hb⟩
section
structure Keeps (S : Nat → Prop) (w w' : World) : Prop where
  os : w'.os = w.os
  tape : w'.tape = w.tape
  output : w'.output = w.output
  size : w.heap.size ≤ w'.heap.size
  block : ∀ k, k < w.heap.size → S k → w'.heap[k]? = w.heap[k]?
abbrev Ext (w w' : World) : Prop := Keeps (fun _ => True) w w'
theorem Keeps.refl (S : Nat → Prop) (w : World) : Keeps S w w := ⟨rfl, rfl, rfl, Nat.le_refl _, fun _ _ _ => rfl⟩
theorem Keeps.trans {S : Nat → Prop} {a b c : World} (h : Keeps S a b) (k : Keeps S b c) : Keeps S a c :=
  ⟨k.os.trans h.os, k.tape.trans h.tape, k.output.trans h.output, Nat.le_trans h.size k.size,
    fun i hi hs => (k.block i (Nat.lt_of_lt_of_le hi h.size) hs).trans (h.block i hi hs)⟩
theorem Keeps.weak {S S' : Nat → Prop} {a b : World} (h : Keeps S a b) (hs : ∀ k, k < a.heap.size → S' k → S k) : Keeps S' a b :=
  ⟨h.os, h.tape, h.output, h.size, fun k hk hk' => h.block k hk (hs k hk hk')⟩
theorem Ext.to {S : Nat → Prop} {a b : World} (h : Ext a b) : Keeps S a b := h.weak fun _ _ _ => trivial
theorem Ext.behind {S : Nat → Prop} {we a b : World} (h : Ext we a) (k : Keeps S a b) (hs : ∀ i, i < we.heap.size → S i) : Ext we b :=
  ⟨k.os.trans h.os, k.tape.trans h.tape, k.output.trans h.output, Nat.le_trans h.size k.size,
    fun i hi _ => (k.block i (Nat.lt_of_lt_of_le hi h.size) (hs i hi)).trans (h.block i hi trivial)⟩
theorem Ext.alloc (w : World) (o : Obj) : Ext w (w.alloc o) :=
  ⟨rfl, rfl, rfl, by simp, fun k hk _ => RowKit.Below.heap_alloc w o k hk⟩
theorem Ext.drawn (w : World) (n : Nat) : Ext w { w with drawn := n } := ⟨rfl, rfl, rfl, Nat.le_refl _, fun _ _ _ => rfl⟩
structure FF where
  p : (Nat → Prop) → World → Prop
  keep : ∀ {S : Nat → Prop} {w w' : World}, p S w → Keeps S w w' → p S w'
  sub : ∀ {S S' : Nat → Prop} {w : World}, p S w → (∀ k, k < w.heap.size → S k → S' k) → p S' w
structure MF where
  blk : Nat → Prop
  p : (Nat → Prop) → World → Prop
  keep : ∀ {S : Nat → Prop} {w w' : World}, p S w → Keeps S w w' → (∀ k, blk k → w'.heap[k]? = w.heap[k]?) → p S w'
  sub : ∀ {S S' : Nat → Prop} {w : World}, p S w → (∀ k, k < w.heap.size → S k → S' k) → p S' w
  lt : ∀ {S : Nat → Prop} {w : World}, p S w → ∀ k, blk k → k < w.heap.size
def All (S : Nat → Prop) : List FF → World → Prop
  | [], _ => True
  | f :: r, w => f.p S w ∧ All S r w
def AllM (S : Nat → Prop) : List MF → World → Prop
  | [], _ => True
  | f :: r, w => f.p S w ∧ AllM S r w
theorem All.keep {S : Nat → Prop} {w w' : World} (k : Keeps S w w') : ∀ {Γ : List FF}, All S Γ w → All S Γ w'
  | [], _ => trivial
  | f :: _, h => ⟨f.keep h.1 k, All.keep k h.2⟩
theorem All.sub {S S' : Nat → Prop} {w : World} (hs : ∀ k, k < w.heap.size → S k → S' k) : ∀ {Γ : List FF}, All S Γ w → All S' Γ w
  | [], _ => trivial
  | f :: _, h => ⟨f.sub h.1 hs, All.sub hs h.2⟩
theorem All.append {S : Nat → Prop} {w : World} : ∀ {Γ Δ : List FF}, All S Γ w → All S Δ w → All S (Γ ++ Δ) w
  | [], _, _, h => h
  | _ :: _, _, h, k => ⟨h.1, All.append h.2 k⟩
theorem AllM.sub {S S' : Nat → Prop} {w : World} (hs : ∀ k, k < w.heap.size → S k → S' k) : ∀ {Γ : List MF}, AllM S Γ w → AllM S' Γ w
  | [], _ => trivial
  | f :: _, h => ⟨f.sub h.1 hs, AllM.sub hs h.2⟩
theorem AllM.keep {S : Nat → Prop} {w w' : World} (k : Keeps S w w') : ∀ {Γ : List MF}, (∀ m ∈ Γ, ∀ i, m.blk i → w'.heap[i]? = w.heap[i]?) → AllM S Γ w → AllM S Γ w'
  | [], _, _ => trivial
  | f :: _, hb, h => ⟨f.keep h.1 k (hb f (List.mem_cons_self ..)), AllM.keep k (fun m hm => hb m (List.mem_cons_of_mem _ hm)) h.2⟩
theorem AllM.lt {S : Nat → Prop} {w : World} : ∀ {Γ : List MF}, AllM S Γ w → ∀ m ∈ Γ, ∀ i, m.blk i → i < w.heap.size
  | _ :: _, h, m, hm, i, hi => by
    rcases List.mem_cons.1 hm with rfl | hm
    · exact m.lt h.1 i hi
    · exact AllM.lt h.2 m hm i hi
def Apart : List MF → Prop
  | [] => True
  | m :: r => (∀ k, m.blk k → ∀ m' ∈ r, ¬ m'.blk k) ∧ Apart r
structure Tl (we : World) (Se : Nat → Prop) : Prop where
  up : ∀ k, we.heap.size ≤ k → Se k
  gv : Gv we
def St (we : World) (Se : Nat → Prop) (ms : List MF) (Γ : List FF) (w : World) : Prop :=
  Ext we w ∧ Tl we Se ∧ Apart ms ∧ ∃ S : Nat → Prop, (∀ k, S k → Se k) ∧ (∀ k, w.heap.size ≤ k → S k) ∧ (∀ m ∈ ms, ∀ k, m.blk k → ¬ S k ∧ we.heap.size ≤ k) ∧
    AllM S ms w ∧ All S Γ w
theorem Tl.at {we w : World} {Se S : Nat → Prop} (h : Tl we Se) (x : Ext we w) (h5 : ∀ k, w.heap.size ≤ k → S k) : Tl w S := ⟨h5, h.gv.keep x.size fun k hk => x.block k hk trivial⟩
section
variable {we : World} {Se : Nat → Prop} {ms : List MF} {Γ Δ : List FF} {w w' : World}
theorem St.ext (h : St we Se ms Γ w) (x : Ext w w') : St we Se ms Γ w' := by
  obtain ⟨h1, h2, h3, S, h4, h5, h6, h7, h8⟩ := h
  exact ⟨h1.trans x, h2, h3, S, h4, fun k hk => h5 k (Nat.le_trans x.size hk), h6,
    AllM.keep x.to (fun m hm i hi => x.block i (AllM.lt h7 m hm i hi) trivial) h7, All.keep x.to h8⟩
theorem St.step (h : St we Se ms Γ w) (x : Ext w w') (n : ∀ S : Nat → Prop, Tl w S → All S Γ w → All S Δ w') : St we Se ms Δ w' := by
  obtain ⟨h1, h2, h3, S, h4, h5, h6, h7, h8⟩ := h
  exact ⟨h1.trans x, h2, h3, S, h4, fun k hk => h5 k (Nat.le_trans x.size hk), h6,
    AllM.keep x.to (fun m hm i hi => x.block i (AllM.lt h7 m hm i hi) trivial) h7, n S (h2.at h1 h5) h8⟩
theorem St.weak (h : St we Se ms Γ w) (n : ∀ (S : Nat → Prop) (w : World), All S Γ w → All S Δ w) : St we Se ms Δ w :=
  h.step (Keeps.refl _ _) fun S _ => n S w
theorem St.ex (h : St we Se ms Γ w) : ∃ S : Nat → Prop, Tl w S ∧ All S Γ w :=
  let ⟨h1, h2, _, S, _, h5, _, _, h8⟩ := h; ⟨S, h2.at h1 h5, h8⟩
theorem apart_set : ∀ {ms : List MF} (i : Nat) (m' : MF), Apart ms → (∀ m, ms[i]? = some m → m'.blk = m.blk) → Apart (ms.set i m')
  | [], _, _, h, _ => by simpa using h
  | m :: r, 0, m', h, hb => by
    have := hb m rfl
    exact ⟨fun k hk => h.1 k (by rw [← this]; exact hk), h.2⟩
  | m :: r, i + 1, m', h, hb => by
    refine ⟨fun k hk m2 hm2 => ?_, apart_set i m' h.2 (fun m hm => hb m (by simpa using hm))⟩
    obtain ⟨j, hj, rfl⟩ := List.getElem_of_mem hm2
    rw [List.getElem_set]
    rw [List.length_set] at hj
    split
    · rename_i e
      subst e
      rw [hb r[i] (by simp [hj])]
      exact h.1 k hk _ (List.getElem_mem _)
    · exact h.1 k hk _ (List.getElem_mem _)
theorem AllM.get {S : Nat → Prop} : ∀ {ms : List MF} {i : Nat} {m : MF}, AllM S ms w → ms[i]? = some m → m.p S w
  | _ :: _, 0, _, h, e => by simp only [List.getElem?_cons_zero, Option.some.injEq] at e; exact e ▸ h.1
  | _ :: _, _ + 1, _, h, e => AllM.get h.2 (by simpa using e)
theorem apart_of : ∀ {ms : List MF} {i : Nat} {m : MF}, Apart ms → ms[i]? = some m → ∀ k, m.blk k → ∀ (j : Nat) (m' : MF), j ≠ i → ms[j]? = some m' → ¬ m'.blk k
  | m0 :: r, 0, m, h, e, k, hk, j, m', hj, hm' => by
    simp only [List.getElem?_cons_zero, Option.some.injEq] at e
    subst e
    obtain ⟨j, rfl⟩ : ∃ j', j = j' + 1 := ⟨j - 1, by omega⟩
    exact h.1 k hk m' (List.mem_of_getElem? (by simpa using hm'))
  | m0 :: r, i + 1, m, h, e, k, hk, 0, m', hj, hm' => by
    simp only [List.getElem?_cons_zero, Option.some.injEq] at hm'
    subst hm'
    exact fun hc => h.1 k hc m (List.mem_of_getElem? (by simpa using e)) hk
  | m0 :: r, i + 1, m, h, e, k, hk, j + 1, m', hj, hm' =>
    apart_of h.2 (by simpa using e) k hk j m' (by omega) (by simpa using hm')
theorem allM_set {S : Nat → Prop} {b : Nat} (x : Keeps (fun k => k ≠ b) w w') : ∀ {ms : List MF} (i : Nat) (m' : MF), (∀ k, S k → k ≠ b) → m'.p S w' →
    (∀ (j : Nat) (m : MF), j ≠ i → ms[j]? = some m → ¬ m.blk b) → AllM S ms w → AllM S (ms.set i m') w'
  | [], _, _, _, _, _, _ => trivial
  | m :: r, 0, m', hs, hm, ho, h => by
    refine ⟨hm, AllM.keep (x.weak fun k _ hk => hs k hk) (fun m2 hm2 k hk => ?_) h.2⟩
    obtain ⟨j, hj, rfl⟩ := List.getElem_of_mem hm2
    exact x.block k (AllM.lt h.2 _ (List.getElem_mem _) k hk) (fun e => ho (j + 1) r[j] (by omega) (by simp [hj]) (e ▸ hk))
  | m :: r, i + 1, m', hs, hm, ho, h => by
    refine ⟨m.keep h.1 (x.weak fun k _ hk => hs k hk) (fun k hk => x.block k (m.lt h.1 k hk) (fun e => ho 0 m (by omega) rfl (e ▸ hk))), ?_⟩
    exact allM_set x i m' hs hm (fun j m2 hj hm2 => ho (j + 1) m2 (by omega) (by simpa using hm2)) h.2
theorem St.write {i : Nat} {m m' : MF} {b : Nat} (h : St we Se ms Γ w) (hi : ms[i]? = some m) (hb : m.blk = fun k => @some Nat b = some k) (hb' : m'.blk = fun k => @some Nat b = some k) (x : Keeps (fun k => k ≠ b) w w')
    (n : ∀ S : Nat → Prop, (∀ k, S k → k ≠ b) → m.p S w → All S Γ w → m'.p S w') : St we Se (ms.set i m') Γ w' := by
  obtain ⟨h1, h2, h3, S, h4, h5, h6, h7, h8⟩ := h
  have hbb : m.blk b := by rw [hb]
  have hS : ∀ k, S k → k ≠ b := fun k hk e => (h6 m (List.mem_of_getElem? hi) b hbb).1 (e ▸ hk)
  refine ⟨h1.behind x (fun k hk e => by have := (h6 m (List.mem_of_getElem? hi) b hbb).2; omega), h2, apart_set i m' h3 (fun m2 h2 => ?_), S, h4, fun k hk => h5 k (Nat.le_trans x.size hk), ?_, ?_, ?_⟩
  · rw [hi] at h2; cases h2; rw [hb, hb']
  · intro m2 hm2 k hk
    obtain ⟨j, hj, rfl⟩ := List.getElem_of_mem hm2
    rw [List.getElem_set] at hk
    rw [List.length_set] at hj
    split at hk
    · rw [hb'] at hk; cases hk; exact h6 m (List.mem_of_getElem? hi) b hbb
    · exact h6 _ (List.getElem_mem hj) k hk
  · exact allM_set x i m' hS (n S hS (AllM.get h7 hi) h8) (fun j m2 hj hm2 => apart_of h3 hi b hbb j m2 hj hm2) h7
  · exact All.keep (x.weak fun k _ hk => hS k hk) h8
theorem St.fresh {m : MF} (h : St we Se ms Γ w) (x : Ext w w') (hb : m.blk = fun k => some w.heap.size = some k) (hlt : w.heap.size < w'.heap.size)
    (n : ∀ S : Nat → Prop, Tl w S → All S Γ w → m.p (fun k => S k ∧ k ≠ w.heap.size) w') : St we Se (m :: ms) Γ w' := by
  obtain ⟨h1, h2, h3, S, h4, h5, h6, h7, h8⟩ := h
  have hsub : ∀ k, k < w.heap.size → S k → S k ∧ k ≠ w.heap.size := fun k hk hs => ⟨hs, by omega⟩
  refine ⟨h1.trans x, h2, ⟨fun k hk m' hm' hc => ?_, h3⟩, fun k => S k ∧ k ≠ w.heap.size, fun k hk => h4 k hk.1, fun k hk => ⟨h5 k (by omega), by omega⟩, ?_, ⟨n S (h2.at h1 h5) h8, ?_⟩, ?_⟩
  · rw [hb] at hk; cases hk; have := AllM.lt h7 m' hm' _ hc; omega
  · intro m' hm' k hk
    rcases List.mem_cons.1 hm' with rfl | hm'
    · rw [hb] at hk; cases hk; exact ⟨fun hc => hc.2 rfl, h1.size⟩
    · exact ⟨fun hc => (h6 m' hm' k hk).1 hc.1, (h6 m' hm' k hk).2⟩
  · exact AllM.keep x.to (fun m' hm' i hi => x.block i (AllM.lt h7 m' hm' i hi) trivial) (AllM.sub hsub h7)
  · exact All.keep x.to (All.sub hsub h8)
theorem apart_erase : ∀ {ms : List MF} (i : Nat), Apart ms → Apart (ms.eraseIdx i)
  | [], _, h => by simpa using h
  | _ :: _, 0, h => h.2
  | m :: r, i + 1, h => ⟨fun k hk m' hm' => h.1 k hk m' (List.mem_of_mem_eraseIdx hm'), apart_erase i h.2⟩
theorem allM_erase {S : Nat → Prop} : ∀ {ms : List MF} (i : Nat), AllM S ms w → AllM S (ms.eraseIdx i) w
  | [], _, h => by simpa using h
  | _ :: _, 0, h => h.2
  | _ :: _, i + 1, h => ⟨h.1, allM_erase i h.2⟩
theorem St.freeze {i : Nat} {m : MF} {F : FF} (h : St we Se ms Γ w) (hi : ms[i]? = some m)
    (n : ∀ S S' : Nat → Prop, (∀ k, S k → S' k) → (∀ k, m.blk k → S' k) → m.p S w → F.p S' w) : St we Se (ms.eraseIdx i) (F :: Γ) w := by
  obtain ⟨h1, h2, h3, S, h4, h5, h6, h7, h8⟩ := h
  have hm := List.mem_of_getElem? hi
  refine ⟨h1, h2, apart_erase i h3, fun k => S k ∨ m.blk k, ?_, fun k hk => .inl (h5 k hk), ?_, AllM.sub (fun k _ hk => .inl hk) (allM_erase i h7), n S _ (fun k hk => .inl hk) (fun k hk => .inr hk) (AllM.get h7 hi), All.sub (fun k _ hk => .inl hk) h8⟩
  · rintro k (hk | hk)
    · exact h4 k hk
    · exact h2.up k (h6 m hm k hk).2
  · intro m' hm' k hk
    refine ⟨?_, (h6 m' (List.mem_of_mem_eraseIdx hm') k hk).2⟩
    rintro (hc | hc)
    · exact (h6 m' (List.mem_of_mem_eraseIdx hm') k hk).1 hc
    · obtain ⟨j, hj, hjm⟩ := List.mem_eraseIdx_iff_getElem?.1 hm'
      exact apart_of h3 hi k hc j m' hj hjm hk
theorem St.drop {i : Nat} (h : St we Se ms Γ w) : St we Se (ms.eraseIdx i) Γ w := by
  obtain ⟨h1, h2, h3, S, h4, h5, h6, h7, h8⟩ := h
  exact ⟨h1, h2, apart_erase i h3, S, h4, h5, fun m' hm' => h6 m' (List.mem_of_mem_eraseIdx hm'), allM_erase i h7, h8⟩
theorem St.nil (h : All Se Γ we) (hSe : Tl we Se) : St we Se [] Γ we :=
  ⟨Keeps.refl _ _, hSe, trivial, Se, fun _ h => h, hSe.up, fun _ h => absurd h List.not_mem_nil, trivial, h⟩
end
abbrev Env := Nat → Value
def L : List (Nat × Value) → Env → Env
  | [], r, t => r t
  | (k, v) :: l, r, t => bif Nat.beq t k then v else L l r t
def put (env : Env) : Option Tmp → Value → Env
  | some d, v => L [(d, v)] env
  | none, _ => env
def envOf (a : Act) : Env := fun t => a.tmps.getD t undef
def ev (env : Env) : Operand → Value
  | .tmp t => env t
  | .const v => v
  | .global g => .pointer (some ⟨g, 0, none⟩)
  | .func f => .func (.func f) #[] #[]
def gets (env : Env) : List (Nat × Value) → List Value
  | [] => []
  | (k, _) :: l => env k :: gets env l
def those : List (Nat × Value) → List Value
  | [] => []
  | (_, v) :: l => v :: those l
def agree (env : Env) (l : List (Nat × Value)) : Prop := gets env l = those l
theorem agree_cons {env : Env} {k : Nat} {v : Value} {l : List (Nat × Value)} (h : env k = v) (h2 : agree env l) : agree env ((k, v) :: l) := by
  show env k :: gets env l = v :: those l
  rw [h, show gets env l = those l from h2]
theorem agree_uncons {env : Env} {k : Nat} {v : Value} {l : List (Nat × Value)} (h : agree env ((k, v) :: l)) : env k = v ∧ agree env l := by
  have h1 : env k :: gets env l = v :: those l := h
  exact List.cons.inj h1
theorem L_agree {env : Env} : ∀ {live : List (Nat × Value)}, agree env live → L live env = env
  | [], _ => rfl
  | (k, v) :: l, h => by
    funext t
    have ih := congrFun (L_agree (agree_uncons h).2) t
    simp only [L]
    cases hb : Nat.beq t k
    · simpa using ih
    · simp only [cond_true]
      rw [Nat.eq_of_beq_eq_true hb]; exact (agree_uncons h).1.symm
theorem eval_eq (a : Act) : a.eval = ev (envOf a) := by funext x; cases x <;> rfl
theorem envOf_put {a : Act} {d : Option Tmp} {v : Value} (h : ∀ t, d = some t → t < a.tmps.size) : envOf (a.put d v) = put (envOf a) d v := by
  cases d with
  | none => rfl
  | some d =>
    funext t
    have hd := h d rfl
    simp only [envOf, Act.put, put, L, Array.getD_eq_getD_getElem?, Array.getElem?_setIfInBounds]
    cases hb : Nat.beq t d
    · have : d ≠ t := fun e => by subst e; simp at hb
      simp [this]
    · rw [Nat.eq_of_beq_eq_true hb]; simp [hd]
theorem size_put (a : Act) (d : Option Tmp) (v : Value) : (a.put d v).tmps.size = a.tmps.size := by cases d <;> simp [Act.put]
theorem defers_put (a : Act) (d : Option Tmp) (v : Value) : (a.put d v).defers = a.defers := by cases d <;> rfl
abbrev Qs := Exit → Env → World → Prop
structure Nd where
  n : Nat
  ds : List Deferred
  rd : Option Nat
abbrev Nd.of (n : Nat) : Nd := ⟨n, [], none⟩
abbrev Nd.F (N : Nd) : Fence := { Fence.wide with round := N.rd }
def lift (N : Nd) (Q : Qs) : Exit → Act → World → Prop := fun e a w => a.tmps.size = N.n ∧ a.defers = N.ds ∧ Q e (envOf a) w
def Wp (P : Program) (N : Nd) (c : Code) (Q : Qs) (env : Env) (w : World) : Prop :=
  ∀ a : Act, a.tmps.size = N.n → a.defers = N.ds → envOf a = env → c.wpIn N.F 0 P (lift N Q) a w
def thenQ (K : Env → World → Prop) (Q : Qs) : Qs
  | .normal, env, w => K env w
  | e, env, w => Q e env w
def blockQ (id : Nat) (Q : Qs) : Qs
  | .exit id', env, w => bif Nat.beq id' id then Q .normal env w else Q (.exit id') env w
  | e, env, w => Q e env w
def T (P : Program) (N : Nd) (we : World) (Se : Nat → Prop) (ms : List MF) (Γ : List FF) (c : Code) (Q : Qs) (env : Env) : Prop :=
  ∀ w, St we Se ms Γ w → Wp P N c Q env w
section
variable {P : Program} {N : Nd} {we : World} {Se : Nat → Prop} {ms : List MF} {Γ : List FF} {Q : Qs} {env : Env}
theorem T_seq {x y : Code} (h : T P N we Se ms Γ x (thenQ (Wp P N y Q) Q) env) : T P N we Se ms Γ (.seq x y) Q env := by
  intro w hw a h1 h2 h3
  refine wpIn_seq (wpIn_mono (h w hw a h1 h2 h3) ?_)
  intro e a' w' ⟨q1, q2, q3⟩
  cases e <;> first | exact q3 a' q1 q2 rfl | exact ⟨q1, q2, q3⟩
theorem T_skip (h : ∀ w, St we Se ms Γ w → Q .normal env w) : T P N we Se ms Γ .skip Q env :=
  fun w hw _ h1 h2 h3 => wpIn_skip ⟨h1, h2, h3 ▸ h w hw⟩
theorem T_ret (h : ∀ w, St we Se ms Γ w → Q .ret env w) : T P N we Se ms Γ .ret Q env :=
  fun w hw _ h1 h2 h3 => wpIn_ret ⟨h1, h2, h3 ▸ h w hw⟩
theorem T_cond_true {c : Operand} {x y : Code} (hc : ev env c = .bool true) (h : T P N we Se ms Γ x Q env) : T P N we Se ms Γ (.cond c x y) Q env :=
  fun w hw a h1 h2 h3 => wpIn_cond_true (by rw [eval_eq, h3]; exact hc) (h w hw a h1 h2 h3)
theorem T_cond_false {c : Operand} {x y : Code} (hc : ev env c = .bool false) (h : T P N we Se ms Γ y Q env) : T P N we Se ms Γ (.cond c x y) Q env :=
  fun w hw a h1 h2 h3 => wpIn_cond_false (by rw [eval_eq, h3]; exact hc) (h w hw a h1 h2 h3)
theorem T_block {id : Nat} {c : Code} (h : T P N we Se ms Γ c (blockQ id Q) env) : T P N we Se ms Γ (.block id c) Q env := by
  intro w hw a h1 h2 h3
  refine wpIn_block (wpIn_mono (h w hw a h1 h2 h3) ?_)
  intro e a' w' ⟨q1, q2, q3⟩
  cases e with
  | exit i =>
    simp only [blockQ] at q3
    simp only [Exit.inBlock]
    cases hb : Nat.beq i id
    · rw [hb] at q3
      rw [if_neg (fun e => by subst e; simp at hb)]
      exact ⟨q1, q2, q3⟩
    · rw [hb] at q3
      rw [if_pos (Nat.eq_of_beq_eq_true hb)]
      exact ⟨q1, q2, q3⟩
  | _ => exact ⟨q1, q2, q3⟩
structure Inv where
  ms : List MF
  Γ : List FF
  live : List (Nat × Value)
theorem wpIn_ghost {F : Fence} {n : Nat} {c : Code} {Q : Exit → Act → World → Prop} {a : Act} {w : World} {G : Type} (I : G → Act → World → Prop) (μ : G → Nat) (g₀ : G) (h₀ : I g₀ a w)
    (round : ∀ g a w, I g a w → c.wpIn F n P (Exit.then (fun a' w' => ∃ g', I g' a' w' ∧ μ g' < μ g) Q) a w) : (Code.loop c).wpIn F n P Q a w := by
  intro b k cs hro hb hr
  have key : ∀ n g a w, μ g = n → I g a w →
      ∃ e a' w', Q e a' w' ∧ ArrivesIn (Machine.fenced P F) P (lone (b.atR a (.code c :: .inLoop c :: k)) cs w) b k cs e a' w' := by
    intro n
    induction n using Nat.strongRecOn with
    | _ n ih =>
      intro g a w hn hI
      obtain ⟨e, a₁, w₁, hq, harr⟩ := round g a w hI b (.inLoop c :: k) cs hro hb hr
      cases e with
      | normal =>
        obtain ⟨g₁, hI₁, hlt⟩ := hq
        obtain ⟨e₂, a₂, w₂, hq₂, harr₂⟩ := ih (μ g₁) (hn ▸ hlt) g₁ a₁ w₁ rfl hI₁
        exact ⟨e₂, a₂, w₂, hq₂, .of_steps (StepsIn.trans harr (.one (fenced_calm hb hr rfl) stepR_inLoop)) harr₂⟩
      | exit id => exact ⟨_, a₁, w₁, hq, .pass (x := .inLoop c) rfl (fun _ _ => .inl (by simp)) harr⟩
      | goto l => exact ⟨_, a₁, w₁, hq, .pass (x := .inLoop c) rfl (fun _ _ => .inl (by simp)) harr⟩
      | ret => exact ⟨_, a₁, w₁, hq, .pass (x := .inLoop c) rfl (fun _ _ => .inl (by simp)) harr⟩
      | panic ch => exact ⟨_, a₁, w₁, hq, .pass (x := .inLoop c) rfl (fun _ _ => .inl (by simp)) harr⟩
      | outgrown => exact ⟨_, a₁, w₁, hq, .pass (x := .inLoop c) rfl (fun _ _ => .inl (by simp)) harr⟩
  obtain ⟨e, a', w', hq, harr⟩ := key _ g₀ a w rfl h₀
  exact ⟨e, a', w', hq, .of_steps (.one (fenced_calm hb hr rfl) stepR_loop) harr⟩
end
def FnQ {U : Type} (Se : Nat → Prop) (w : World) (val : U → Value) (facts : U → List FF) (ok : U → Prop) : Ending → World → Prop :=
  fun e w' => ∃ u, e = .returned (val u) ∧ ok u ∧ Ext w w' ∧ All Se (facts u) w'
def Fn {U : Type} (P : Program) (f : FuncId) (args : Array Value) (Γ : List FF) (val : U → Value) (facts : U → List FF) (ok : U → Prop) : Prop :=
  ∀ w Se, Tl w Se → All Se Γ w → Calls P f args w (FnQ Se w val facts ok)
def RetQ {U : Type} (P : Program) (fn : Func) (we : World) (Se : Nat → Prop) (val : U → Value) (facts : U → List FF) (ok : U → Prop) : Qs
  | .ret, env, w | .normal, env, w => ∃ u, (∀ a : Act, envOf a = env → (results fn a.tmps).run P w = .ok (val u) w) ∧ ok u ∧ Ext we w ∧ All Se (facts u) w
  | _, _, _ => False
theorem envOf_args (args : Array Value) (n : Nat) : envOf ⟨args ++ Array.replicate n undef, []⟩ = fun t => args.getD t undef := by
  funext t
  simp only [envOf, Array.getD_eq_getD_getElem?, Array.getElem?_append]
  split
  · rfl
  · rename_i h
    rw [Array.getElem?_eq_none (xs := args) (by omega), Array.getElem?_replicate]
    split <;> rfl
theorem agree_args : ∀ (l : List Value) (k : Nat) (env : Env), (∀ j, env (k + j) = l.getD j undef) → agree env ((l.zipIdx k).map fun x => (x.2, x.1))
  | [], _, _, _ => rfl
  | v :: l, k, env, h => agree_cons (by simpa using h 0) (agree_args l (k + 1) env (fun j => by have := h (j + 1); simpa [Nat.add_assoc, Nat.add_comm 1 j] using this))
theorem Fn_intro {U : Type} {P : Program} {f : FuncId} {args : List Value} {Γ : List FF} {val : U → Value} {facts : U → List FF} {ok : U → Prop} {fn : Func} {c : Code}
    (hf : P.funcs[f]? = some fn) (hb : fn.body = some c) (hn : Nat.ble args.length fn.ntmps = true)
    (h : ∀ we Se rest, T P (Nd.of fn.ntmps) we Se [] Γ c (RetQ P fn we Se val facts ok) (L ((args.zipIdx 0).map fun x => (x.2, x.1)) rest)) : Fn P f args.toArray Γ val facts ok := by
  intro w Se hSe hΓ
  have hn := Nat.le_of_ble_eq_true hn
  refine calls_of_wp hf hb ((wpIn_wide (n := 0)).1 ?_)
  have hag : agree (envOf ⟨args.toArray ++ Array.replicate (fn.ntmps - args.toArray.size) undef, []⟩) ((args.zipIdx 0).map fun x => (x.2, x.1)) := by
    refine agree_args args 0 _ fun j => ?_
    rw [envOf_args]
    simp [Array.getD_eq_getD_getElem?, List.getD_eq_getElem?_getD]
  refine wpIn_mono (h w Se _ w (St.nil hΓ hSe) _ (by simp; omega) rfl (L_agree hag).symm) ?_
  intro e a' w' ⟨q1, q2, q3⟩
  cases e <;> simp only [RetQ] at q3
  · obtain ⟨u, r1, r2, r3, r4⟩ := q3; exact ⟨q2, _, r1 a' rfl, u, rfl, r2, r3, r4⟩
  · obtain ⟨u, r1, r2, r3, r4⟩ := q3; exact ⟨q2, _, r1 a' rfl, u, rfl, r2, r3, r4⟩
section
variable {P : Program} {we : World} {Se : Nat → Prop} {ms : List MF} {Γ : List FF} {env : Env} {U : Type} {val : U → Value} {facts : U → List FF} {ok : U → Prop} {fn : Func}
theorem St.out {Δ : List FF} {w : World} (h : St we Se ms Γ w) (n : ∀ (S : Nat → Prop) (w : World), All S Γ w → All S Δ w) : Ext we w ∧ All Se Δ w := by
  obtain ⟨h1, h2, h3, S, h4, h5, h6, h7, h8⟩ := h
  exact ⟨h1, All.sub (fun k _ => h4 k) (n S w h8)⟩
theorem Ret1 {t : Tmp} (u : U) (hr : fn.results = #[.tmp t]) (hv : env t = val u) (hok : ok u) (n : ∀ (S : Nat → Prop) (w : World), All S Γ w → All S (facts u) w) :
    ∀ w, St we Se ms Γ w → RetQ P fn we Se val facts ok .ret env w := by
  intro w hw
  refine ⟨u, fun a ha => ?_, hok, hw.out n⟩
  rw [← hv, ← ha]
  simp [results, hr, envOf]
def resOne (tmps : Array Value) : ResultVar → Sem Value
  | .tmp t => pure (tmps.getD t undef)
  | .cell a t => do loadVar t (← asAddr (tmps.getD a undef))
end
end
section
structure ERep (α : Type) where
  n : Nat
  agg : Bool
  n1 : agg = false → n = 1
  p : (Nat → Prop) → α → List Value → World → Prop
  len : ∀ {S x cs w}, p S x cs w → cs.length = n
  one : ∀ {S x cs w}, p S x cs w → ∀ c ∈ cs, c.oneCell' = true
  keep : ∀ {S x cs w w'}, p S x cs w → Keeps S w w' → p S x cs w'
  sub : ∀ {S S' : Nat → Prop} {x cs w}, p S x cs w → (∀ k, k < w.heap.size → S k → S' k) → p S' x cs w
def ERep.val {α : Type} (e : ERep α) (cs : List Value) : Value := if e.agg then .agg cs.toArray else cs.headD undef
theorem ERep.val_cells {α : Type} (e : ERep α) {S : Nat → Prop} {x : α} {cs : List Value} {w : World} (h : e.p S x cs w) : (e.val cs).cells.toList = cs := by
  unfold ERep.val
  cases ha : e.agg
  · have hl := e.len h
    rw [e.n1 ha] at hl
    obtain ⟨c, rfl⟩ := List.length_eq_one_iff.1 hl
    have := e.one h c (by simp)
    cases c <;> simp_all [Value.cells, Value.oneCell']
  · simp [Value.cells]
def fV {α : Type} (e : ERep α) (x : α) (v : Value) : FF where
  p S w := ∃ cs, v = e.val cs ∧ e.p S x cs w
  keep := fun ⟨cs, h1, h2⟩ k => ⟨cs, h1, e.keep h2 k⟩
  sub := fun ⟨cs, h1, h2⟩ k => ⟨cs, h1, e.sub h2 k⟩
def eI : ERep Int where
  n := 1
  agg := false
  n1 _ := rfl
  p _ x cs _ := cs = [.int .i64 x] ∧ -9223372036854775808 ≤ x ∧ x ≤ 9223372036854775807
  len h := by simp [h.1]
  one h := by intro c hc; rw [h.1] at hc; simp at hc; subst hc; rfl
  keep h _ := h
  sub h _ := h
def eU : ERep Nat where
  n := 1
  agg := false
  n1 _ := rfl
  p _ x cs _ := cs = [.int .u64 (x : Int)] ∧ x < 18446744073709551616
  len h := by simp [h.1]
  one h := by intro c hc; rw [h.1] at hc; simp at hc; subst hc; rfl
  keep h _ := h
  sub h _ := h
def eBool : ERep Bool where
  n := 1
  agg := false
  n1 _ := rfl
  p _ x cs _ := cs = [.bool x]
  len h := by simp [h]
  one h := by intro c hc; rw [h] at hc; simp at hc; subst hc; rfl
  keep h _ := h
  sub h _ := h
theorem fV_cells {α : Type} {e : ERep α} {S : Nat → Prop} {x : α} {v : Value} {w : World} (h : (fV e x v).p S w) : e.p S x v.cells.toList w := by
  obtain ⟨cs, rfl, h⟩ := h
  rw [e.val_cells h]; exact h
theorem fV_of {α : Type} {e : ERep α} {S : Nat → Prop} {x : α} {cs : List Value} {w : World} (h : e.p S x cs w) : (fV e x (e.val cs)).p S w := ⟨cs, rfl, h⟩
theorem fV_i64 {x : Int} {v : Value} {S : Nat → Prop} {w : World} (h : (fV eI x v).p S w) : v = .int .i64 x ∧ -9223372036854775808 ≤ x ∧ x ≤ 9223372036854775807 := by
  obtain ⟨cs, rfl, rfl, h⟩ := h; exact ⟨rfl, h⟩
theorem fV_u64 {x : Nat} {v : Value} {S : Nat → Prop} {w : World} (h : (fV eU x v).p S w) : v = .int .u64 (x : Int) ∧ x < 18446744073709551616 := by
  obtain ⟨cs, rfl, rfl, h⟩ := h; exact ⟨rfl, h⟩
theorem fV_bool {x : Bool} {v : Value} {S : Nat → Prop} {w : World} (h : (fV eBool x v).p S w) : v = .bool x := by
  obtain ⟨cs, rfl, rfl⟩ := h; rfl
theorem i64_fV {x : Int} {S : Nat → Prop} {w : World} (h : -9223372036854775808 ≤ x ∧ x ≤ 9223372036854775807) : (fV eI x (.int .i64 x)).p S w := ⟨_, rfl, rfl, h⟩
theorem u64_fV {x : Nat} {S : Nat → Prop} {w : World} (h : x < 18446744073709551616) : (fV eU x (.int .u64 (x : Int))).p S w := ⟨_, rfl, rfl, h⟩
theorem bool_fV {x : Bool} {S : Nat → Prop} {w : World} : (fV eBool x (.bool x)).p S w := ⟨_, rfl, rfl⟩
def Elems {α : Type} (e : ERep α) (S : Nat → Prop) : List α → List Value → World → Prop
  | [], cs, _ => cs = []
  | x :: xs, cs, w => ∃ c r, cs = c ++ r ∧ e.p S x c w ∧ Elems e S xs r w
section
variable {α : Type} {e : ERep α} {S S' : Nat → Prop} {w w' : World}
theorem Elems.len : ∀ {xs : List α} {cs : List Value}, Elems e S xs cs w → cs.length = xs.length * e.n
  | [], _, h => by simp [show _ = [] from h]
  | x :: xs, _, ⟨c, r, h, hc, hr⟩ => by rw [h, List.length_append, e.len hc, Elems.len hr, List.length_cons, Nat.add_mul, Nat.add_comm]; simp
theorem Elems.one : ∀ {xs : List α} {cs : List Value}, Elems e S xs cs w → ∀ c ∈ cs, c.oneCell' = true
  | [], _, h => by simp [show _ = [] from h]
  | x :: xs, _, ⟨c, r, h, hc, hr⟩ => by
    intro d hd
    rw [h] at hd
    rcases List.mem_append.1 hd with hd | hd
    · exact e.one hc d hd
    · exact Elems.one hr d hd
theorem Elems.keep (k : Keeps S w w') : ∀ {xs : List α} {cs : List Value}, Elems e S xs cs w → Elems e S xs cs w'
  | [], _, h => h
  | _ :: _, _, ⟨c, r, h, hc, hr⟩ => ⟨c, r, h, e.keep hc k, Elems.keep k hr⟩
theorem Elems.sub (k : ∀ k, k < w.heap.size → S k → S' k) : ∀ {xs : List α} {cs : List Value}, Elems e S xs cs w → Elems e S' xs cs w
  | [], _, h => h
  | _ :: _, _, ⟨c, r, h, hc, hr⟩ => ⟨c, r, h, e.sub hc k, Elems.sub k hr⟩
theorem Elems.append : ∀ {xs ys : List α} {cs ds : List Value}, Elems e S xs cs w → Elems e S ys ds w → Elems e S (xs ++ ys) (cs ++ ds) w
  | [], _, _, _, h, k => by rw [show _ = [] from h]; exact k
  | _ :: _, _, _, _, ⟨c, r, h, hc, hr⟩, k => ⟨c, r ++ _, by rw [h, List.append_assoc], hc, Elems.append hr k⟩
theorem Elems.drop : ∀ {xs : List α} {cs : List Value} (k : Nat), Elems e S xs cs w → Elems e S (xs.drop k) (cs.drop (k * e.n)) w
  | [], cs, k, h => by simp [show cs = [] from h]; exact rfl
  | x :: xs, cs, 0, h => by simpa using h
  | x :: xs, _, k + 1, ⟨c, r, h, hc, hr⟩ => by
    have := Elems.drop k hr
    rw [List.drop_succ_cons, h, Nat.add_mul, Nat.one_mul, Nat.add_comm, ← List.drop_drop]
    rwa [List.drop_left' (e.len hc)]
theorem Elems.take : ∀ {xs : List α} {cs : List Value} (k : Nat), Elems e S xs cs w → Elems e S (xs.take k) (cs.take (k * e.n)) w
  | [], cs, k, h => by simp [show cs = [] from h]; exact rfl
  | x :: xs, cs, 0, h => by simp; exact rfl
  | x :: xs, _, k + 1, ⟨c, r, h, hc, hr⟩ => by
    refine ⟨c, r.take (k * e.n), ?_, hc, Elems.take k hr⟩
    rw [h, Nat.add_mul, Nat.one_mul, Nat.add_comm, List.take_append, e.len hc, List.take_of_length_le (by rw [e.len hc]; omega)]
    congr 2; omega
theorem Elems.get {xs : List α} {cs : List Value} {i : Nat} {x : α} (h : Elems e S xs cs w) (hx : xs[i]? = some x) :
    ∃ c, e.p S x c w ∧ ∀ j, j < e.n → cs[i * e.n + j]? = c[j]? := by
  have hd := h.drop i
  obtain ⟨hi, rfl⟩ := List.getElem?_eq_some_iff.1 hx
  rw [List.drop_eq_getElem_cons hi] at hd
  obtain ⟨c, r, h1, h2, h3⟩ := hd
  refine ⟨c, h2, fun j hj => ?_⟩
  rw [← List.getElem?_drop, h1, List.getElem?_append_left (by rw [e.len h2]; exact hj)]
theorem Elems.replicate {x : α} {c : List Value} (h : e.p S x c w) : ∀ n, Elems e S (List.replicate n x) (List.replicate n c).flatten w
  | 0 => rfl
  | n + 1 => ⟨c, _, by simp [List.replicate_succ], h, Elems.replicate h n⟩
end
def At (w : World) (b o : Nat) (cs : List Value) : Prop := b < w.heap.size ∧ ∀ j v, cs[j]? = some v → w.cell? ⟨b, o + j, none⟩ = some v
theorem At.keep {S : Nat → Prop} {w w' : World} {b o : Nat} {cs : List Value} (h : At w b o cs) (hS : S b) (k : Keeps S w w') : At w' b o cs :=
  ⟨Nat.lt_of_lt_of_le h.1 k.size, fun j v hv => by rw [World.cell?_of_block (a := ⟨b, o + j, none⟩) (k.block b h.1 hS)]; exact h.2 j v hv⟩
theorem At.drop {w : World} {b o : Nat} {cs : List Value} (h : At w b o cs) (k : Nat) : At w b (o + k) (cs.drop k) :=
  ⟨h.1, fun j v hv => by rw [List.getElem?_drop] at hv; have := h.2 _ v hv; rwa [Nat.add_assoc]⟩
theorem At.take {w : World} {b o : Nat} {cs : List Value} (h : At w b o cs) (k : Nat) : At w b o (cs.take k) :=
  ⟨h.1, fun j v hv => h.2 j v (by rw [List.getElem?_take] at hv; split at hv <;> simp_all)⟩
theorem At.row {w : World} {b : Nat} {cs : Array Value} {t : TypeId} {fr : Nat × Nat} (h : w.heap[b]? = some (.cells cs t fr)) : At w b 0 cs.toList :=
  ⟨(Array.getElem?_eq_some_iff.1 h).1, fun j v hv => by rw [cell_of_row w b (0 + j) cs t fr h, Nat.zero_add]; simpa using hv⟩
def SlP {α : Type} (e : ERep α) (S : Nat → Prop) (xs : List α) (v : Value) (w : World) : Prop :=
  ∃ ao cap, v = .slice ao xs.length cap ∧ xs.length ≤ cap ∧ cap ≤ maxLen ∧ (xs = [] ∨ ∃ b o cs, ao = some ⟨b, o, none⟩ ∧ S b ∧ At w b o cs ∧ Elems e S xs cs w)
def eS {α : Type} (e : ERep α) : ERep (List α) where
  n := 1
  agg := false
  n1 _ := rfl
  p S xs cs w := ∃ v, cs = [v] ∧ SlP e S xs v w
  len := fun ⟨v, h, _⟩ => by simp [h]
  one := fun ⟨v, h, ⟨ao, cap, hv, _⟩⟩ => by intro c hc; rw [h] at hc; simp at hc; subst hc; rw [hv]; rfl
  keep := fun ⟨v, h, ⟨ao, cap, h1, h2, h3, h4⟩⟩ k => ⟨v, h, ao, cap, h1, h2, h3, h4.imp id fun ⟨b, o, cs, a1, a2, a3, a4⟩ => ⟨b, o, cs, a1, a2, a3.keep a2 k, a4.keep k⟩⟩
  sub := fun ⟨v, h, ⟨ao, cap, h1, h2, h3, h4⟩⟩ k => ⟨v, h, ao, cap, h1, h2, h3, h4.imp id fun ⟨b, o, cs, a1, a2, a3, a4⟩ => ⟨b, o, cs, a1, k b a3.1 a2, a3, a4.sub k⟩⟩
theorem fV_slice {α : Type} {e : ERep α} {xs : List α} {v : Value} {S : Nat → Prop} {w : World} : (fV (eS e) xs v).p S w ↔ SlP e S xs v w :=
  ⟨fun ⟨_, h1, v', h2, h3⟩ => by subst h2; rw [h1]; exact h3, fun h => ⟨[v], rfl, v, rfl, h⟩⟩
def eP {α β : Type} (e : ERep α) (f : ERep β) : ERep (α × β) where
  n := e.n + f.n
  agg := true
  n1 h := by cases h
  p S x cs w := ∃ c d, cs = c ++ d ∧ e.p S x.1 c w ∧ f.p S x.2 d w
  len := fun ⟨c, d, h, hc, hd⟩ => by rw [h, List.length_append, e.len hc, f.len hd]
  one := fun ⟨c, d, h, hc, hd⟩ x hx => by
    rw [h] at hx
    rcases List.mem_append.1 hx with hx | hx
    · exact e.one hc x hx
    · exact f.one hd x hx
  keep := fun ⟨c, d, h, hc, hd⟩ k => ⟨c, d, h, e.keep hc k, f.keep hd k⟩
  sub := fun ⟨c, d, h, hc, hd⟩ k => ⟨c, d, h, e.sub hc k, f.sub hd k⟩
def eA {α : Type} (k : Nat) (e : ERep α) : ERep (List α) where
  n := k * e.n
  agg := true
  n1 h := by cases h
  p S xs cs w := xs.length = k ∧ Elems e S xs cs w
  len := fun ⟨h, he⟩ => by rw [he.len, h]
  one := fun ⟨_, he⟩ => he.one
  keep := fun ⟨h, he⟩ k => ⟨h, he.keep k⟩
  sub := fun ⟨h, he⟩ k => ⟨h, he.sub k⟩
def fP {α : Type} (e : ERep α) (x : α) (v : Value) : FF where
  p S w := ∃ b o cs, v = .pointer (some ⟨b, o, none⟩) ∧ S b ∧ At w b o cs ∧ e.p S x cs w
  keep := fun ⟨b, o, cs, h1, h2, h3, h4⟩ k => ⟨b, o, cs, h1, h2, h3.keep h2 k, e.keep h4 k⟩
  sub := fun ⟨b, o, cs, h1, h2, h3, h4⟩ k => ⟨b, o, cs, h1, k b h3.1 h2, h3, e.sub h4 k⟩
structure CRep (α : Type) where
  p : (Nat → Prop) → α → List Value → World → Prop
  keep : ∀ {S x cs w w'}, p S x cs w → Keeps S w w' → p S x cs w'
  sub : ∀ {S S' : Nat → Prop} {x cs w}, p S x cs w → (∀ k, k < w.heap.size → S k → S' k) → p S' x cs w
def ERep.c {α : Type} (e : ERep α) : CRep α := ⟨e.p, e.keep, e.sub⟩
def rowC {α : Type} (e : ERep α) : CRep (List α) := ⟨Elems e, fun h k => h.keep k, fun h k => h.sub k⟩
def mB {α : Type} (e : CRep α) (E : TypeId) (b : Nat) (x : α) : MF where
  blk k := some b = some k
  p S w := ∃ cs : Array Value, w.heap[b]? = some (.cells cs E (0, 0)) ∧ e.p S x cs.toList w
  keep := fun ⟨cs, h1, h2⟩ k hb => ⟨cs, by rw [hb b rfl]; exact h1, e.keep h2 k⟩
  sub := fun ⟨cs, h1, h2⟩ k => ⟨cs, h1, e.sub h2 k⟩
  lt := fun ⟨cs, h1, _⟩ k hk => by cases hk; exact (Array.getElem?_eq_some_iff.1 h1).1
abbrev mR {α : Type} (e : ERep α) (E : TypeId) (b : Nat) (xs : List α) : MF := mB (rowC e) E b xs
def mO {α : Type} (e : ERep α) (E : TypeId) (v : Value) (xs : List α) : MF where
  blk k := v.ownBlock = some k
  p S w := ∃ cs, w.ownsRow 0 E e.n v xs.length cs ∧ Elems e S xs cs w
  keep := fun ⟨cs, h1, h2⟩ k hb => by
    refine ⟨cs, ⟨h1.1, ?_⟩, h2.keep k⟩
    rcases h1.2 with h | ⟨g, cap, cur, hv, hbg, hg, r⟩
    · exact .inl h
    · exact .inr ⟨g, cap, cur, hv, hbg, by rw [hb g (by rw [hv]; rfl)]; exact hg, r⟩
  sub := fun ⟨cs, h1, h2⟩ k => ⟨cs, h1, h2.sub k⟩
  lt := fun ⟨cs, h1, _⟩ k hk => (h1.lt k hk).2
section
variable {α : Type} {e : ERep α} {E : TypeId} {S S' : Nat → Prop} {w : World}
theorem SlP.of_at {xs : List α} {b o n cap : Nat} {cs : List Value} (hS : S b) (ha : At w b o cs) (he : Elems e S xs cs w) (hn : n = xs.length) (hc : xs.length ≤ cap) (hm : cap ≤ maxLen) :
    SlP e S xs (.slice (some ⟨b, o, none⟩) n cap) w := ⟨_, cap, by rw [hn], hc, hm, .inr ⟨b, o, cs, rfl, hS, ha, he⟩⟩
theorem SlP.nil : SlP e S [] (.slice none 0 0) w := ⟨none, 0, rfl, Nat.le_refl _, Nat.zero_le _, .inl rfl⟩
theorem mB_ptr {x : α} {b : Nat} (hs : ∀ k, S k → S' k) (hb : S' b) (h : (mB e.c E b x).p S w) : (fP e x (.pointer (some ⟨b, 0, none⟩))).p S' w := by
  obtain ⟨cs, h1, h2⟩ := h
  exact ⟨b, 0, cs.toList, rfl, hb, At.row h1, e.sub h2 fun k _ => hs k⟩
theorem mO_slice {xs : List α} {v : Value} (hs : ∀ k, S k → S' k) (hb : ∀ k, v.ownBlock = some k → S' k) (h : (mO e E v xs).p S w) : (fV (eS e) xs v).p S' w := by
  obtain ⟨cs, h1, h2⟩ := h
  refine fV_slice.2 ?_
  rcases h1.2 with ⟨rfl, h0⟩ | ⟨g, cap, cur, rfl, hbg, hg, hnc, hm, hcs, htk⟩
  · have : xs = [] := List.eq_nil_of_length_eq_zero h0
    subst this; exact SlP.nil
  · refine SlP.of_at (hb g rfl) ((At.row hg).take (xs.length * e.n)) ?_ rfl hnc hm
    rw [htk]; exact h2.sub fun k _ => hs k
end
end
section
def OpR (P : Program) (o : Oper) (env : Env) (w : World) (K : Value → World → Prop) : Prop :=
  match (execOp (ev env) o).run P w with
  | .ok (.value v) w' => K v w'
  | .ok .skip w' => K undef w'
  | .ok (.enter f args) w' => Calls P f args w' (fun e w'' => ∃ v, e = .returned v ∧ K v w'')
  | .ok (.round l f ts a c) w' => RoundIn Fence.wide 0 P l f ts a c w' (fun e w'' => ∃ v, e = .returned v ∧ K v w'')
  | _ => False
theorem sem_at {ro : Option Nat} {ρ : Operand → Value} {o : Oper} {P : Program} {w : World} (h : ∀ d w', (execOp ρ o).run P w ≠ .ok (.defer d) w') (h2 : ∀ r w', (execOp ρ o).run P w ≠ .halt r w') : (o.semAt ro ρ).run P w = (execOp ρ o).run P w := by
  by_cases hd : ∃ c, o.op = .defer c
  · obtain ⟨c, hc⟩ := hd
    exfalso
    cases hr : (execOp ρ o).run P w with
    | halt r w' => exact h2 r w' hr
    | ok x w' =>
      unfold execOp at hr
      rw [hc] at hr
      simp only [Sem.run_bind] at hr
      cases h3 : (resolve ρ c o.type).run P w with
      | halt r w1 => rw [h3] at hr; simp [Result.andThen] at hr
      | ok d w1 =>
        rw [h3] at hr
        simp only [Result.andThen_ok, Sem.run_pure] at hr
        cases hr
        refine h d w' ?_
        unfold execOp
        rw [hc]
        simp only [Sem.run_bind, h3, Result.andThen_ok, Sem.run_pure]
  · rw [Oper.semAt_eq _ _ _ fun c hc => hd ⟨c, hc⟩]
theorem OpR.wp {P : Program} {o : Oper} {a : Act} {w : World} {K : Value → World → Prop} {K' : Act → World → Prop} {Q : Exit → Act → World → Prop} {N : Nd}
    (h : OpR P o (envOf a) w K) (hk : ∀ v w', K v w' → K' (a.put o.dst v) w') : o.wpIn N.F 0 P a w K' Q := by
  unfold OpR at h
  unfold Oper.wpIn
  refine ⟨fun _ _ => trivial, ?_⟩
  have hs := sem_at (ro := N.rd) (ρ := ev (envOf a)) (o := o) (P := P) (w := w) (fun d w' e => by rw [e] at h; exact h) (fun r w' e => by rw [e] at h; exact h)
  rw [eval_eq]
  show Oper.uponIn N.F 0 P o a K' Q ((o.semAt N.rd (ev (envOf a))).run P w)
  rw [hs]
  generalize (execOp (ev (envOf a)) o).run P w = r at *
  cases r with
  | ok n w' =>
    cases n <;> simp only at h <;> simp only [Oper.uponIn]
    case value v => exact hk _ _ h
    case skip => exact hk _ _ h
    case enter f args => exact ⟨fun e => by simp [Nd.F, Fence.wide] at e, CallsIn.mono (callsIn_wide.2 h) fun e w'' ⟨v, he, hv⟩ => by subst he; exact hk _ _ hv⟩
    case round l f ts s c => exact ⟨fun e => by simp [Nd.F, Fence.wide] at e, RoundIn.mono h fun e w'' ⟨v, he, hv⟩ => by subst he; exact hk _ _ hv⟩
  | halt x w' => exact h.elim
theorem OpR.mono {P : Program} {o : Oper} {env : Env} {w : World} {K K' : Value → World → Prop} (h : OpR P o env w K) (hk : ∀ v w', K v w' → K' v w') : OpR P o env w K' := by
  unfold OpR at *
  generalize (execOp (ev env) o).run P w = r at *
  cases r with
  | ok n w' =>
    cases n <;> simp only at h ⊢
    case value v => exact hk _ _ h
    case skip => exact hk _ _ h
    case enter f args => exact h.mono fun e w'' ⟨v, he, hv⟩ => ⟨v, he, hk _ _ hv⟩
    case round l f ts s c => exact h.mono fun e w'' ⟨v, he, hv⟩ => ⟨v, he, hk _ _ hv⟩
  | halt x w' => exact h.elim
theorem OpR.of_value {P : Program} {o : Oper} {env : Env} {w w' : World} {v : Value} {K : Value → World → Prop} (h : (execOp (ev env) o).run P w = .ok (.value v) w') (hk : K v w') : OpR P o env w K := by
  unfold OpR; rw [h]; exact hk
theorem OpR.of_skip {P : Program} {o : Oper} {env : Env} {w w' : World} {K : Value → World → Prop} (h : (execOp (ev env) o).run P w = .ok .skip w') (hk : K undef w') : OpR P o env w K := by
  unfold OpR; rw [h]; exact hk
def gd (ops : Array Oper) (env : Env) (j : Nat) : Option Bool :=
  match (ops[j]?).bind (·.dst) with
  | some d => match env d with
    | .bool b => some b
    | _ => none
  | none => none
def wantedE (ops : Array Oper) (env : Env) (o : Oper) : Bool :=
  match o.guard with
  | none => true
  | some (j, want) => gd ops env j == some want
theorem yielded_eq (ops : Array Oper) (a : Act) (j : Nat) : yielded ops a.tmps j = gd ops (envOf a) j := by
  unfold yielded gd envOf
  cases (ops[j]?).bind (·.dst) with
  | none => rfl
  | some d =>
    simp only [Option.bind_some, Array.getD_eq_getD_getElem?]
    cases a.tmps[d]? with
    | none => rfl
    | some v => cases v <;> rfl
theorem wanted_eq (ops : Array Oper) (a : Act) (o : Oper) : Region.wanted o (yielded ops a.tmps) = wantedE ops (envOf a) o := by grind [Region.wanted, wantedE, yielded_eq]
def okDst (N : Nat) : Option Tmp → Bool
  | some d => Nat.blt d N
  | none => true
theorem okDst_lt {N : Nat} {d : Option Tmp} (h : okDst N d = true) : ∀ t, d = some t → t < N := by
  rintro t rfl; simpa [okDst] using h
def WpL (P : Program) (N : Nd) (ops : Array Oper) (l : List Oper) (Q : Qs) (env : Env) (w : World) : Prop :=
  ∀ a : Act, a.tmps.size = N.n → a.defers = N.ds → envOf a = env → wpListIn N.F 0 P ops (lift N Q) l a w
def TL (P : Program) (N : Nd) (we : World) (Se : Nat → Prop) (ms : List MF) (Γ : List FF) (ops : Array Oper) (l : List Oper) (Q : Qs) (env : Env) : Prop :=
  ∀ w, St we Se ms Γ w → WpL P N ops l Q env w
def OpE {U : Type} (P : Program) (o : Oper) (env : Env) (ms : List MF) (Γ : List FF) (val : U → Value) (facts : U → List FF) (ok : U → Prop) : Prop :=
  ∀ w (S : Nat → Prop), Tl w S → AllM S ms w → All S Γ w → OpR P o env w (fun v w' => ∃ u, v = val u ∧ ok u ∧ Ext w w' ∧ All S (facts u) w')
section
variable {P : Program} {N : Nd} {we : World} {Se : Nat → Prop} {ms : List MF} {Γ : List FF} {Q : Qs} {env : Env} {ops : Array Oper} {o : Oper} {rest : List Oper}
theorem T_region {id : Nat} {l : List Oper} (h : TL P N we Se ms Γ l.toArray l Q env) : T P N we Se ms Γ (.region id l.toArray false) Q env :=
  fun w hw a h1 h2 h3 => wpIn_region_lit (h w hw a h1 h2 h3)
theorem TL_nil (h : ∀ w, St we Se ms Γ w → Q .normal env w) : TL P N we Se ms Γ ops [] Q env :=
  fun w hw _ h1 h2 h3 => wpListIn_nil ⟨h1, h2, h3 ▸ h w hw⟩
theorem TL_then {c : Code} {Q' : Qs} (h : T P N we Se ms Γ c Q' env) : TL P N we Se ms Γ ops [] (thenQ (Wp P N c Q') Q) env := TL_nil h
theorem TL_op (hw : wantedE ops env o = true) (hd : okDst N.n o.dst = true)
    (h : ∀ w, St we Se ms Γ w → OpR P o env w (fun v w' => WpL P N ops rest Q (put env o.dst v) w')) : TL P N we Se ms Γ ops (o :: rest) Q env := by
  intro w hst a h1 h2 h3
  subst h3
  unfold wpListIn
  rw [if_pos (by rw [wanted_eq]; exact hw)]
  refine (h w hst).wp fun v w' hk => ?_
  exact hk _ (by rw [size_put]; exact h1) (by rw [defers_put]; exact h2) (envOf_put (by rw [h1]; exact okDst_lt hd))
theorem TL_not (hw : wantedE ops env o = false) (hd : okDst N.n o.dst = true) (k : TL P N we Se ms Γ ops rest Q (put env o.dst undef)) : TL P N we Se ms Γ ops (o :: rest) Q env := by
  intro w hst a h1 h2 h3
  subst h3
  unfold wpListIn
  rw [if_neg (by rw [wanted_eq, hw]; exact Bool.false_ne_true)]
  exact ⟨fun _ _ => trivial, k w hst _ (by rw [size_put]; exact h1) (by rw [defers_put]; exact h2) (envOf_put (by rw [h1]; exact okDst_lt hd))⟩
theorem TL_val {v : Value} (hw : wantedE ops env o = true) (hd : okDst N.n o.dst = true) (h : ∀ w, (execOp (ev env) o).run P w = .ok (.value v) w)
    (k : TL P N we Se ms Γ ops rest Q (put env o.dst v)) : TL P N we Se ms Γ ops (o :: rest) Q env :=
  TL_op hw hd fun w hst => OpR.of_value (h w) (k w hst)
end
def OG {ι : Type} (P : Program) (o : Oper) (env : Env) (we : World) (Se : Nat → Prop) (ms : List MF) (Γ : List FF) (val : ι → Value) (ms' : ι → List MF) (Γ' : ι → List FF) (ok : ι → Prop) : Prop :=
  ∀ w, St we Se ms Γ w → OpR P o env w (fun v w' => ∃ i, v = val i ∧ ok i ∧ St we Se (ms' i) (Γ' i) w')
section
variable {P : Program} {N : Nd} {we : World} {Se : Nat → Prop} {ms : List MF} {Γ : List FF} {Q : Qs} {env : Env} {ops : Array Oper} {o : Oper} {rest : List Oper}
theorem og_of_oe {U : Type} {val : U → Value} {facts : U → List FF} {ok : U → Prop} (h : OpE P o env ms Γ val facts ok) : OG P o env we Se ms Γ val (fun _ => ms) (fun u => facts u ++ Γ) ok := by
  intro w ⟨h1, h2, h3, S, h4, h5, h6, h7, h8⟩
  refine (h w S (h2.at h1 h5) h7 h8).mono ?_
  rintro v w' ⟨u, e, hu, x, hf⟩
  exact ⟨u, e, hu, h1.trans x, h2, h3, S, h4, fun k hk => h5 k (Nat.le_trans x.size hk), h6,
    AllM.keep x.to (fun m hm i hi => x.block i (AllM.lt h7 m hm i hi) trivial) h7, All.append hf (All.keep x.to h8)⟩
end
def pv (o : Oper) (env : Env) : Option Value :=
  match o.op with
  | .move x | .assign x => some (ev env x)
  | .extract t i => match ev env t with
    | .tuple vs => vs[i]?
    | _ => none
  | .pick c a b => match ev env c with
    | .bool t => some (bif t then ev env a else ev env b)
    | _ => none
  | .unOp .not _ x => match ev env x with
    | .bool t => some (.bool !t)
    | _ => none
  | .makeFunc f first captured => some (.func f (first.map (ev env)) (captured.map (ev env)))
  | _ => none
theorem pv_run {P : Program} {o : Oper} {env : Env} {v : Value} (h : pv o env = some v) (w : World) : (execOp (ev env) o).run P w = .ok (.value v) w := by
  unfold pv at h
  unfold execOp
  split at h
  · next e => simp_all
  · next e => simp_all
  · next t i e =>
    simp only [e]
    split at h
    · next vs hv => simp [hv, Instr.extract, h]
    · cases h
  · next c a b e =>
    simp only [e]
    split at h
    · next t ht => cases h; cases t <;> simp [ht, asBool]
    · cases h
  · next ty x e =>
    simp only [e]
    split at h
    · next t ht => cases h; simp [ht, Op.unary]
    · cases h
  · next f a b e => cases h; simp [e, Instr.makeFunc]
  · cases h
def pvRun (N : Nat) (ops : Array Oper) : List Oper → Env → Option Env
  | [], env => some env
  | o :: r, env => bif okDst N o.dst then (bif wantedE ops env o then (match pv o env with
      | some v => pvRun N ops r (put env o.dst v)
      | none => none) else (match o.guard with
      | some (j, want) => bif gd ops env j == some (!want) then pvRun N ops r (put env o.dst undef) else none
      | none => none)) else none
section
variable {P : Program} {N : Nd} {we : World} {Se : Nat → Prop} {ms : List MF} {Γ : List FF} {Q : Qs} {ops : Array Oper}
theorem TL_run_all : ∀ (l : List Oper) (l' : List Oper) (env env' : Env), pvRun N.n ops l env = some env' → TL P N we Se ms Γ ops l' Q env' → TL P N we Se ms Γ ops (l ++ l') Q env
  | [], _, env, env', h, k => by cases h; exact k
  | o :: r, l', env, env', h, k => by
    unfold pvRun at h
    cases hd : okDst N.n o.dst
    · rw [hd] at h; cases h
    · rw [hd] at h
      simp only [cond_true] at h
      cases hw : wantedE ops env o
      · rw [hw] at h
        simp only [cond_false] at h
        split at h
        · next j want hg =>
          cases hb : (gd ops env j == some (!want))
          · rw [hb] at h; cases h
          · rw [hb] at h; exact TL_not hw hd (TL_run_all r l' _ _ h k)
        · cases h
      · rw [hw] at h
        simp only [cond_true] at h
        cases hp : pv o env with
        | none => rw [hp] at h; cases h
        | some v => rw [hp] at h; exact TL_val hw hd (fun w => pv_run hp w) (TL_run_all r l' _ _ h k)
end
structure TyF (P : Program) (t : TypeId) (agg : Bool) (size bytes : Nat) (zero : Value) : Prop where
  und : ∃ d, P.underlying t = some d ∧ (match d with | .struct _ | .array _ _ => true | _ => false) = agg
  info : ∃ i, P.info? t = some i ∧ i.size = size ∧ i.bytes = bytes ∧ i.zero = some zero
def tyB (P : Program) (t : TypeId) : Option (Bool × Nat × Nat × Option Value) :=
  match P.underlying t, P.info? t with
  | some d, some i => some ((match d with | .struct _ | .array _ _ => true | _ => false), i.size, i.bytes, i.zero)
  | _, _ => none
theorem TyF.of {P : Program} {t : TypeId} {agg : Bool} {size bytes : Nat} {zero : Value} (h : tyB P t = some (agg, size, bytes, some zero)) : TyF P t agg size bytes zero := by
  unfold tyB at h
  split at h
  · next d i hd hi =>
    simp only [Option.some.injEq, Prod.mk.injEq] at h
    exact ⟨⟨d, hd, h.1⟩, i, hi, h.2.1, h.2.2.1, h.2.2.2⟩
  · cases h
theorem addr_add (b o j : Nat) : (⟨b, o, none⟩ : Addr).add j = ⟨b, o + j, none⟩ := by unfold Addr.add; split <;> simp_all
theorem run_isAgg {P : Program} {t : TypeId} {agg : Bool} {size bytes : Nat} {zero : Value} (ht : TyF P t agg size bytes zero) (w : World) : (isAgg t).run P w = .ok agg w := by
  obtain ⟨⟨d, hd, hm⟩, _⟩ := ht
  unfold isAgg
  simp only [Sem.run_bind, run_underlying hd, Result.andThen_ok]
  cases d <;> simp_all
theorem run_sizeOf {P : Program} {t : TypeId} {agg : Bool} {size bytes : Nat} {zero : Value} (ht : TyF P t agg size bytes zero) (w : World) : (sizeOf t).run P w = .ok size w := by
  obtain ⟨_, i, hi, h1, _⟩ := ht
  simp [sizeOf, typeInfo, hi, h1]
theorem run_zeroValue {P : Program} {t : TypeId} {agg : Bool} {size bytes : Nat} {zero : Value} (ht : TyF P t agg size bytes zero) (w : World) : (zeroValue t).run P w = .ok zero w := by
  obtain ⟨_, i, hi, _, _, h1⟩ := ht
  simp [zeroValue, typeInfo, hi, h1]
theorem run_loadVar' {P : Program} {α : Type} {e : ERep α} {t : TypeId} {bytes : Nat} {zero : Value} (ht : TyF P t e.agg e.n bytes zero) {w w0 : World} {b o : Nat} {cs : List Value} {S : Nat → Prop} {x : α}
    (hp : e.p S x cs w0) (ha : At w b o cs) : (loadVar t ⟨b, o, none⟩).run P w = .ok (e.val cs) w := by
  unfold loadVar
  rw [Sem.run_bind, run_isAgg ht]
  simp only [Result.andThen_ok]
  cases hag : e.agg
  · have hl := e.len hp
    rw [e.n1 hag] at hl
    obtain ⟨c, rfl⟩ := List.length_eq_one_iff.1 hl
    have := ha.2 0 c rfl
    simp only [Nat.add_zero] at this
    simp [this, ERep.val, hag]
  · have hl := e.len hp
    have hc := run_loadCells_list (P := P) w ⟨b, o, none⟩ cs (fun j v hv => by rw [addr_add]; exact ha.2 j v hv)
    rw [hl] at hc
    simp [run_sizeOf ht, hc, ERep.val, hag]
theorem run_loadVar {P : Program} {α : Type} {e : ERep α} {t : TypeId} {bytes : Nat} {zero : Value} (ht : TyF P t e.agg e.n bytes zero) {w : World} {b o : Nat} {cs : List Value} {S : Nat → Prop} {x : α}
    (hp : e.p S x cs w) (ha : At w b o cs) : (loadVar t ⟨b, o, none⟩).run P w = .ok (e.val cs) w := run_loadVar' ht hp ha
section
variable {P : Program} {env : Env} {ms : List MF} {Γ : List FF} {d : Option Tmp} {ty : TypeId} {pos : String} {aft : Array Edge} {g : Option (Nat × Bool)}
theorem oe_len {α : Type} {e : ERep α} {xs : List α} {v : Value} {x : Operand} {at_ et : TypeId} (hu : P.underlying at_ = some (.slice et)) (hx : ev env x = v) (hf : ∀ (S : Nat → Prop) (w : World), All S Γ w → (fV (eS e) xs v).p S w) :
    OpE P ⟨d, .call ⟨.builtin .len, #[x], #[at_]⟩, ty, pos, aft, g⟩ env ms Γ (fun _ : Unit => .int .i64 (xs.length : Int)) (fun _ => []) (fun _ => xs.length ≤ 9223372036854775807) := by
  intro w S _ _ hΓ
  obtain ⟨ao, cap, hv, hc, hm, _⟩ := fV_slice.1 (hf S w hΓ)
  refine OpR.of_value (w' := w) (v := .int .i64 (xs.length : Int)) ?_ ⟨(), rfl, Nat.le_trans hc hm, Keeps.refl _ _, trivial⟩
  simp [execOp, resolve, invoke, builtin, hx, hv, Builtin.len_, goInt, run_underlying hu]
theorem run_indexAt {α : Type} {e : ERep α} {t et : TypeId} {bytes : Nat} {zero : Value} (ht : P.underlying t = some (.slice et)) (het : TyF P et e.agg e.n bytes zero) {w : World} {b o n cap k : Nat}
    (hk : k < n) (ik : IntKind) : (Instr.indexAt t (.slice (some ⟨b, o, none⟩) n cap) (.int ik (k : Int))).run P w = .ok (.pointer (some ⟨b, o + k * e.n, none⟩)) w := by
  unfold Instr.indexAt
  have : (0 : Int) ≤ (k : Int) ∧ (k : Int) < (n : Int) := by omega
  simp only [asIntOf, run_underlying ht, Sem.run_bind, Sem.run_pure, Result.andThen_ok, if_pos this, run_sizeOf het, addr_add, Int.toNat_natCast]
theorem oe_index {α : Type} {e : ERep α} {xs : List α} {v : Value} {x i : Operand} {t et : TypeId} {bytes : Nat} {zero : Value} {k : Nat} {y : α} {ik : IntKind} (hx : ev env x = v) (hi : ev env i = .int ik (k : Int))
    (ht : P.underlying t = some (.slice et)) (het : TyF P et e.agg e.n bytes zero) (hy : xs[k]? = some y) (hf : ∀ (S : Nat → Prop) (w : World), All S Γ w → (fV (eS e) xs v).p S w) :
    OpE P ⟨d, .indexAddr t x i, ty, pos, aft, g⟩ env ms Γ (fun p : Value => p) (fun p => [fP e y p]) (fun _ => True) := by
  intro w S _ _ hΓ
  obtain ⟨ao, cap, hv, h1, h2, h3⟩ := fV_slice.1 (hf S w hΓ)
  have hk := (List.getElem?_eq_some_iff.1 hy).1
  rcases h3 with rfl | ⟨b, o, cs, rfl, hS, ha, he⟩
  · simp at hy
  · refine OpR.of_value (w' := w) (v := .pointer (some ⟨b, o + k * e.n, none⟩)) ?_ ⟨_, rfl, trivial, Keeps.refl _ _, ⟨⟨b, o + k * e.n, ?_⟩, trivial⟩⟩
    · simp [execOp, hx, hi, hv, run_indexAt ht het hk]
    · obtain ⟨c, hc, hj⟩ := he.get hy
      refine ⟨c, rfl, hS, ⟨ha.1, fun j v hv => ?_⟩, hc⟩
      have hjl : j < e.n := by rw [← e.len hc]; exact (List.getElem?_eq_some_iff.1 hv).1
      rw [Nat.add_assoc]; exact ha.2 _ v (by rw [hj j hjl]; exact hv)
theorem oe_load {α : Type} {e : ERep α} {y : α} {p : Value} {x : Operand} {t : TypeId} {bytes : Nat} {zero : Value} (hx : ev env x = p) (ht : TyF P t e.agg e.n bytes zero)
    (hf : ∀ (S : Nat → Prop) (w : World), All S Γ w → (fP e y p).p S w) :
    OpE P ⟨d, .load t x, ty, pos, aft, g⟩ env ms Γ (fun v : Value => v) (fun v => [fV e y v]) (fun _ => True) := by
  intro w S _ _ hΓ
  obtain ⟨b, o, cs, rfl, hS, ha, he⟩ := hf S w hΓ
  refine OpR.of_value (w' := w) (v := e.val cs) ?_ ⟨_, rfl, trivial, Keeps.refl _ _, ⟨⟨cs, rfl, he⟩, trivial⟩⟩
  simp [execOp, hx, Instr.loadAt, Instr.sureAddr, run_loadVar ht he ha]
theorem oe_slice {α : Type} {e : ERep α} {xs : List α} {v : Value} {x : Operand} {lo hi : Option Operand} {t et : TypeId} {bytes : Nat} {zero : Value} {l h : Nat} (hx : ev env x = v)
    (ht : P.underlying t = some (.slice et)) (het : TyF P et e.agg e.n bytes zero) (hl : (lo.map (ev env)) = some (.int .i64 (l : Int)) ∨ (lo = none ∧ l = 0)) (hh : (hi.map (ev env)) = some (.int .i64 (h : Int)) ∨ (hi = none ∧ h = xs.length))
    (hlh : l ≤ h) (hhn : h ≤ xs.length) (hf : ∀ (S : Nat → Prop) (w : World), All S Γ w → (fV (eS e) xs v).p S w) :
    OpE P ⟨d, .slice t x lo hi none, ty, pos, aft, g⟩ env ms Γ (fun p : Value => p) (fun p => [fV (eS e) ((xs.drop l).take (h - l)) p]) (fun _ => True) := by
  intro w S _ _ hΓ
  obtain ⟨ao, cap, hv, h1, h2, h3⟩ := fV_slice.1 (hf S w hΓ)
  have b1 : (0 : Int) ≤ (l : Int) ∧ (l : Int) ≤ (h : Int) := by omega
  have b2 : (0 : Int) ≤ (h : Int) ∧ (h : Int) ≤ (cap : Int) := by omega
  have hrun : (Instr.sliceAt t v (lo.map (ev env)) (hi.map (ev env)) none).run P w = .ok (.slice (if cap = l then ao else ao.map (·.add (l * e.n))) (h - l) (cap - l)) w := by
    unfold Instr.sliceAt
    rw [hv]
    simp only [Sem.run_bind, run_underlying ht, Result.andThen_ok]
    unfold Instr.slice
    simp only [Sem.run_bind, run_underlying ht, Result.andThen_ok]
    unfold Instr.sliceBounds
    rcases hl with hl | ⟨hl, rfl⟩ <;> rcases hh with hh | ⟨hh, rfl⟩ <;>
      simp only [hl, hh, Instr.sliceBound, asIntOf, Option.map_none, Sem.run_bind, Sem.run_pure, Result.andThen_ok, if_pos b1, if_pos b2, run_sizeOf het, Int.toNat_natCast]
  refine OpR.of_value (w' := w) (v := .slice (if cap = l then ao else ao.map (·.add (l * e.n))) (h - l) (cap - l)) ?_ ⟨_, rfl, trivial, Keeps.refl _ _, ⟨?_, trivial⟩⟩
  · simp [execOp, hx, hrun]
  · have hlen : ((xs.drop l).take (h - l)).length = h - l := by simp; omega
    refine fV_slice.2 ⟨_, cap - l, by rw [hlen], by rw [hlen]; omega, by omega, ?_⟩
    rcases h3 with rfl | ⟨b, o, cs, rfl, hS, ha, he⟩
    · left; simp
    · by_cases hc : cap = l
      · left
        have : h - l = 0 := by omega
        simp [this]
      · right
        refine ⟨b, o + l * e.n, (cs.drop (l * e.n)).take ((h - l) * e.n), by simp [hc, addr_add], hS, (ha.drop _).take _, (he.drop l).take (h - l)⟩
end
end
section
section
variable {P : Program} {env : Env} {Γ : List FF} {d : Option Tmp} {ty yt t : TypeId} {pos : String} {aft : Array Edge} {g : Option (Nat × Bool)} {x y : Operand}
theorem w64 {x : Int} (h : -9223372036854775808 ≤ x ∧ x ≤ 9223372036854775807) : IntKind.i64.wrap x = x := IntWalk.i64_in x h
theorem wu64 (n : Nat) : IntKind.u64.wrap (n : Int) = ((n % 18446744073709551616 : Nat) : Int) := by
  simp only [IntKind.wrap, IntKind.signed, IntKind.bits]
  simp
theorem wu64_in {n : Nat} (h : n < 18446744073709551616) : IntKind.u64.wrap (n : Int) = (n : Int) := by rw [wu64, Nat.mod_eq_of_lt h]
theorem wu64_int (x : Int) : IntKind.u64.wrap x = x % 18446744073709551616 := by
  simp only [IntKind.wrap, IntKind.signed, IntKind.bits]
  simp
theorem r_bin {op : BinOp} {k : IntKind} {a b : Int} {v : Value} (hx : ev env x = .int k a) (hy : ev env y = .int k b) (hv : ∀ w, (binOp op t (.int k a) (.int k b)).run P w = .ok v w) (w : World) :
    (execOp (ev env) ⟨d, .binOp op t x y yt, ty, pos, aft, g⟩).run P w = .ok (.value v) w := by
  have : (eqGuard op t x y (.int k a) (.int k b)).run P w = .ok () w := by
    unfold eqGuard
    cases op <;> simp
  simp only [execOp, hx, hy, Sem.run_bind, this, Result.andThen_ok, hv, Sem.run_pure]
theorem r_add {k : IntKind} {a b c : Int} (hx : ev env x = .int k a) (hy : ev env y = .int k b) (hc : k.wrap (a + b) = c) (w : World) :
    (execOp (ev env) ⟨d, .binOp .add t x y yt, ty, pos, aft, g⟩).run P w = .ok (.value (.int k c)) w :=
  r_bin hx hy (fun w => by simp [binOp, Op.intArith, hc]) w
theorem r_sub {k : IntKind} {a b c : Int} (hx : ev env x = .int k a) (hy : ev env y = .int k b) (hc : k.wrap (a - b) = c) (w : World) :
    (execOp (ev env) ⟨d, .binOp .sub t x y yt, ty, pos, aft, g⟩).run P w = .ok (.value (.int k c)) w :=
  r_bin hx hy (fun w => by simp [binOp, Op.intArith, hc]) w
theorem r_mul {k : IntKind} {a b c : Int} (hx : ev env x = .int k a) (hy : ev env y = .int k b) (hc : k.wrap (a * b) = c) (w : World) :
    (execOp (ev env) ⟨d, .binOp .mul t x y yt, ty, pos, aft, g⟩).run P w = .ok (.value (.int k c)) w :=
  r_bin hx hy (fun w => by simp [binOp, Op.intArith, hc]) w
theorem r_quo {k : IntKind} {a b c : Int} (hx : ev env x = .int k a) (hy : ev env y = .int k b) (h0 : b ≠ 0) (hc : k.wrap (a.tdiv b) = c) (w : World) :
    (execOp (ev env) ⟨d, .binOp .quo t x y yt, ty, pos, aft, g⟩).run P w = .ok (.value (.int k c)) w :=
  r_bin hx hy (fun w => by simp [binOp, Op.intDiv, h0, hc]) w
theorem r_rem {k : IntKind} {a b c : Int} (hx : ev env x = .int k a) (hy : ev env y = .int k b) (h0 : b ≠ 0) (hc : a.tmod b = c) (w : World) :
    (execOp (ev env) ⟨d, .binOp .rem t x y yt, ty, pos, aft, g⟩).run P w = .ok (.value (.int k c)) w :=
  r_bin hx hy (fun w => by simp [binOp, Op.intDiv, h0, hc]) w
theorem r_shr {k yk : IntKind} {a b c : Int} (hx : ev env x = .int k a) (hy : ev env y = .int yk b) (h0 : 0 ≤ b) (hc : a.fdiv (2 ^ (min b.toNat k.bits)) = c) (w : World) :
    (execOp (ev env) ⟨d, .binOp .shr t x y yt, ty, pos, aft, g⟩).run P w = .ok (.value (.int k c)) w := by
  have : ¬ b < 0 := by omega
  simp [execOp, hx, hy, eqGuard, binOp, Op.shift, this, hc]
theorem r_shl {k yk : IntKind} {a b c : Int} (hx : ev env x = .int k a) (hy : ev env y = .int yk b) (h0 : 0 ≤ b) (hc : k.wrap (a * 2 ^ (min b.toNat k.bits)) = c) (w : World) :
    (execOp (ev env) ⟨d, .binOp .shl t x y yt, ty, pos, aft, g⟩).run P w = .ok (.value (.int k c)) w := by
  have : ¬ b < 0 := by omega
  simp [execOp, hx, hy, eqGuard, binOp, Op.shift, this, hc]
theorem r_and {k : IntKind} {a b c : Int} (hx : ev env x = .int k a) (hy : ev env y = .int k b) (hc : k.wrap (((a % 2 ^ k.bits).toNat &&& (b % 2 ^ k.bits).toNat : Nat) : Int) = c) (w : World) :
    (execOp (ev env) ⟨d, .binOp .and t x y yt, ty, pos, aft, g⟩).run P w = .ok (.value (.int k c)) w :=
  r_bin hx hy (fun w => by simp [binOp, Op.intBits, hc]) w
theorem r_or {k : IntKind} {a b c : Int} (hx : ev env x = .int k a) (hy : ev env y = .int k b) (hc : k.wrap (((a % 2 ^ k.bits).toNat ||| (b % 2 ^ k.bits).toNat : Nat) : Int) = c) (w : World) :
    (execOp (ev env) ⟨d, .binOp .or t x y yt, ty, pos, aft, g⟩).run P w = .ok (.value (.int k c)) w :=
  r_bin hx hy (fun w => by simp [binOp, Op.intBits, hc]) w
theorem r_neg {k : IntKind} {a c : Int} (hx : ev env x = .int k a) (hc : k.wrap (0 - a) = c) (w : World) :
    (execOp (ev env) ⟨d, .unOp .neg t x, ty, pos, aft, g⟩).run P w = .ok (.value (.int k c)) w := by
  simp only [execOp, hx, Op.unary, Op.intArith, hc, Sem.run_bind, Sem.run_pure, Result.andThen_ok]
theorem r_conv {k k' : IntKind} {src dst : TypeId} {sd : TypeDesc} {a c : Int} (hs : P.underlying src = some sd) (hd : P.underlying dst = some (.int k')) (hx : ev env x = .int k a) (hc : k'.wrap a = c) (w : World) :
    (execOp (ev env) ⟨d, .convert src dst x, ty, pos, aft, g⟩).run P w = .ok (.value (.int k' c)) w := by
  simp [execOp, hx, convert, run_underlying hs, run_underlying hd, Conv.intToInt, hc]
theorem r_max {a b : Int} {ts : Array TypeId} (hx : ev env x = .int .i64 a) (hy : ev env y = .int .i64 b) (w : World) :
    (execOp (ev env) ⟨d, .call ⟨.builtin .max, #[x, y], ts⟩, ty, pos, aft, g⟩).run P w = .ok (.value (.int .i64 (max a b))) w := by
  have e : (if b > a then b else a) = max a b := by
    rw [Int.max_def]; split <;> split <;> omega
  simp only [execOp, resolve, invoke, builtin, List.map_toArray, List.map_cons, List.map_nil, hx, hy, Builtin.max_, Builtin.max2, Sem.run_bind, Sem.run_pure, Result.andThen_ok, List.foldlM_cons, List.foldlM_nil, e]
theorem r_min {a b : Int} {ts : Array TypeId} (hx : ev env x = .int .i64 a) (hy : ev env y = .int .i64 b) (w : World) :
    (execOp (ev env) ⟨d, .call ⟨.builtin .min, #[x, y], ts⟩, ty, pos, aft, g⟩).run P w = .ok (.value (.int .i64 (min a b))) w := by
  have e : (if b < a then b else a) = min a b := by
    rw [Int.min_def]; split <;> split <;> omega
  simp only [execOp, resolve, invoke, builtin, List.map_toArray, List.map_cons, List.map_nil, hx, hy, Builtin.min_, Builtin.min2, Sem.run_bind, Sem.run_pure, Result.andThen_ok, List.foldlM_cons, List.foldlM_nil, e]
end
end
section
theorem drop_nil_le {α : Type} (l : List α) {n : Nat} (h : l.length ≤ n) : l.drop n = [] := List.drop_eq_nil_of_le h
section
variable {P : Program} {N : Nd} {we : World} {Se : Nat → Prop} {ms : List MF} {Γ : List FF} {Q : Qs} {env : Env} {ops : Array Oper} {rest : List Oper}
  {d : Option Tmp} {ty yt t : TypeId} {pos : String} {aft : Array Edge} {g : Option (Nat × Bool)} {x y : Operand}
theorem r_cmp {op : BinOp} {k : IntKind} {a b : Int} {c : Bool} (hx : ev env x = .int k a) (hy : ev env y = .int k b)
    (hc : ∀ w, (binOp op t (.int k a) (.int k b)).run P w = .ok (.bool c) w) (w : World) : (execOp (ev env) ⟨d, .binOp op t x y yt, ty, pos, aft, g⟩).run P w = .ok (.value (.bool c)) w := r_bin hx hy hc w
theorem TL_geq {k : IntKind} {a b : Int} (hw : wantedE ops env ⟨d, .binOp .geq t x y yt, ty, pos, aft, g⟩ = true) (hd : okDst N.n d = true) (hx : ev env x = .int k a) (hy : ev env y = .int k b)
    (k1 : b ≤ a → TL P N we Se ms Γ ops rest Q (put env d (.bool true))) (k2 : ¬ b ≤ a → TL P N we Se ms Γ ops rest Q (put env d (.bool false))) :
    TL P N we Se ms Γ ops (⟨d, .binOp .geq t x y yt, ty, pos, aft, g⟩ :: rest) Q env := by
  by_cases h : b ≤ a
  · exact TL_val hw hd (r_cmp hx hy fun w => by simp [binOp, Op.intCmp, h]) (k1 h)
  · exact TL_val hw hd (r_cmp hx hy fun w => by simp [binOp, Op.intCmp, h]) (k2 h)
theorem r_lss {k : IntKind} {a b : Int} (hx : ev env x = .int k a) (hy : ev env y = .int k b) (w : World) : (execOp (ev env) ⟨d, .binOp .lss t x y yt, ty, pos, aft, g⟩).run P w = .ok (.value (.bool (decide (a < b)))) w :=
  r_cmp hx hy (fun w => by simp [binOp, Op.intCmp]) w
theorem r_leq {k : IntKind} {a b : Int} (hx : ev env x = .int k a) (hy : ev env y = .int k b) (w : World) : (execOp (ev env) ⟨d, .binOp .leq t x y yt, ty, pos, aft, g⟩).run P w = .ok (.value (.bool (decide (a ≤ b)))) w :=
  r_cmp hx hy (fun w => by simp [binOp, Op.intCmp]) w
theorem r_gtr {k : IntKind} {a b : Int} (hx : ev env x = .int k a) (hy : ev env y = .int k b) (w : World) : (execOp (ev env) ⟨d, .binOp .gtr t x y yt, ty, pos, aft, g⟩).run P w = .ok (.value (.bool (decide (b < a)))) w :=
  r_cmp hx hy (fun w => by simp [binOp, Op.intCmp]) w
theorem r_geq {k : IntKind} {a b : Int} (hx : ev env x = .int k a) (hy : ev env y = .int k b) (w : World) : (execOp (ev env) ⟨d, .binOp .geq t x y yt, ty, pos, aft, g⟩).run P w = .ok (.value (.bool (decide (b ≤ a)))) w :=
  r_cmp hx hy (fun w => by simp [binOp, Op.intCmp]) w
theorem r_eql {k : IntKind} {a b : Int} (hx : ev env x = .int k a) (hy : ev env y = .int k b) (w : World) : (execOp (ev env) ⟨d, .binOp .eql t x y yt, ty, pos, aft, g⟩).run P w = .ok (.value (.bool (decide (a = b)))) w :=
  r_cmp hx hy (fun w => by simp [binOp, Op.intCmp]; by_cases h : a = b <;> simp [h]) w
theorem r_neq {k : IntKind} {a b : Int} (hx : ev env x = .int k a) (hy : ev env y = .int k b) (w : World) : (execOp (ev env) ⟨d, .binOp .neq t x y yt, ty, pos, aft, g⟩).run P w = .ok (.value (.bool (!decide (a = b)))) w :=
  r_cmp hx hy (fun w => by simp [binOp, Op.intCmp]; by_cases h : a = b <;> simp [h]) w
theorem run_equal_bool {a b : Bool} (ht : P.underlying t = some .bool) (w : World) : (Op.equal t (.bool a) (.bool b)).run P w = .ok (a == b) w := by
  show (Op.equalIn (9999 + 1) t (.bool a) (.bool b)).run P w = _
  unfold Op.equalIn
  simp only [Sem.run_bind, run_underlying ht, Result.andThen_ok, Sem.run_pure]
theorem r_beq {a b : Bool} (ht : P.underlying t = some .bool) (hx : ev env x = .bool a) (hy : ev env y = .bool b) (w : World) :
    (execOp (ev env) ⟨d, .binOp .eql t x y yt, ty, pos, aft, g⟩).run P w = .ok (.value (.bool (a == b))) w := by
  have h : (eqGuard .eql t x y (.bool a) (.bool b)).run P w = .ok () w := by simp [eqGuard]
  have h2 : (binOp .eql t (.bool a) (.bool b)).run P w = .ok (.bool (a == b)) w := by
    simp only [binOp, Sem.run_bind, run_equal_bool ht, Result.andThen_ok, Sem.run_pure]
  simp only [execOp, hx, hy, Sem.run_bind, h, h2, Result.andThen_ok, Sem.run_pure]
theorem r_bne {a b : Bool} (ht : P.underlying t = some .bool) (hx : ev env x = .bool a) (hy : ev env y = .bool b) (w : World) :
    (execOp (ev env) ⟨d, .binOp .neq t x y yt, ty, pos, aft, g⟩).run P w = .ok (.value (.bool (!(a == b)))) w := by
  have h : (eqGuard .neq t x y (.bool a) (.bool b)).run P w = .ok () w := by simp [eqGuard]
  have h2 : (binOp .neq t (.bool a) (.bool b)).run P w = .ok (.bool (!(a == b))) w := by
    simp only [binOp, Sem.run_bind, run_equal_bool ht, Result.andThen_ok, Sem.run_pure]
  simp only [execOp, hx, hy, Sem.run_bind, h, h2, Result.andThen_ok, Sem.run_pure]
def fnB (P : Program) (f : FuncId) : Bool := match P.funcs[f]? with
  | some fn => !(fn.name == "runtime.NumGoroutine") && fn.body.isSome
  | none => false
theorem run_callFunc {f : FuncId} (h : fnB P f = true) (args : Array Value) (w : World) : (callFunc f args).run P w = .ok (.enter f args) w := by
  unfold fnB at h
  unfold callFunc
  split at h
  · next fn hf =>
    simp only [Bool.and_eq_true, Bool.not_eq_true'] at h
    have h2 : fn.body.isNone = false := by simpa using h.2
    simp only [Sem.run_bind, run_program, Result.andThen_ok, hf, h.1, h2, Bool.false_eq_true, if_false, Sem.run_pure]
  · cases h
theorem oe_call {U : Type} {val : U → Value} {facts : U → List FF} {ok : U → Prop} {Γc : List FF} {f : FuncId} {aas : List Operand} {ts : Array TypeId} {args : List Value} (hb : fnB P f = true)
    (hf : Fn P f args.toArray Γc val facts ok) (ha : aas.map (ev env) = args) (hs : ∀ (S : Nat → Prop) (w : World), All S Γ w → All S Γc w) :
    OpE P ⟨d, .call ⟨.value (.func f), aas.toArray, ts⟩, ty, pos, aft, g⟩ env ms Γ val facts ok := by
  intro w S hS _ hΓ
  unfold OpR
  have : (execOp (ev env) ⟨d, .call ⟨.value (.func f), aas.toArray, ts⟩, ty, pos, aft, g⟩).run P w = .ok (.enter f args.toArray) w := by
    simp [execOp, resolve, ev, Deferred.ofValue, invoke, run_callFunc hb, ha]
  rw [this]
  exact (hf w S hS (hs S w hΓ)).mono fun e w' ⟨u, he, hu, hx, hfs⟩ => ⟨val u, he, u, rfl, hu, hx, hfs⟩
theorem oe_callv {U : Type} {val : U → Value} {facts : U → List FF} {ok : U → Prop} {Γc : List FF} {f : FuncId} {aas : List Operand} {ts : Array TypeId} {args caps : List Value} {x : Operand} (hb : fnB P f = true)
    (hx : ev env x = .func (.func f) #[] caps.toArray) (hf : Fn P f (args ++ caps).toArray Γc val facts ok) (ha : aas.map (ev env) = args) (hs : ∀ (S : Nat → Prop) (w : World), All S Γ w → All S Γc w) :
    OpE P ⟨d, .call ⟨.value x, aas.toArray, ts⟩, ty, pos, aft, g⟩ env ms Γ val facts ok := by
  intro w S hS _ hΓ
  unfold OpR
  have : (execOp (ev env) ⟨d, .call ⟨.value x, aas.toArray, ts⟩, ty, pos, aft, g⟩).run P w = .ok (.enter f (args ++ caps).toArray) w := by
    simp [execOp, resolve, hx, Deferred.ofValue, invoke, run_callFunc hb, ha]
  rw [this]
  exact (hf w S hS (hs S w hΓ)).mono fun e w' ⟨u, he, hu, hx, hfs⟩ => ⟨val u, he, u, rfl, hu, hx, hfs⟩
theorem foldl_set (off : Nat) : ∀ (c : List Value) (k : Nat) (cells : Array Value), off + k + c.length ≤ cells.size →
    ((c.zipIdx k).foldl (fun cs (x : Value × Nat) => cs.setIfInBounds (off + x.2) x.1) cells).toList = cells.toList.take (off + k) ++ c ++ cells.toList.drop (off + k + c.length)
  | [], k, cells, h => by simp
  | v :: c, k, cells, h => by
    simp only [List.length_cons] at h
    rw [List.zipIdx_cons, List.foldl_cons]
    have := foldl_set off c (k + 1) (cells.setIfInBounds (off + k) v) (by simp; omega)
    rw [this]
    simp only [Array.toList_setIfInBounds, List.length_cons]
    have hlt : off + k < cells.toList.length := by simp; omega
    rw [show off + (k + 1) = off + k + 1 by omega, List.set_eq_take_append_cons_drop, if_pos hlt]
    have e1 : (cells.toList.take (off + k)).length = off + k := by simp; omega
    rw [List.take_append, List.drop_append, e1]
    simp only [show off + k + 1 - (off + k) = 1 by omega, List.take_succ_cons, List.take_zero, show off + k + 1 + c.length - (off + k) = c.length + 1 by omega, List.drop_succ_cons]
    rw [List.take_of_length_le (by rw [e1]; omega), drop_nil_le (List.take (off + k) cells.toList) (by rw [e1]; omega), List.drop_drop]
    simp only [List.nil_append, List.append_assoc, List.cons_append, List.nil_append]
    congr 3
    congr 1; omega
def flat (parts : List (Nat × Value)) : List Value := parts.flatMap fun x => x.2.cells.toList
def fillOK (place : Nat → Option (Nat × Nat)) : List (Nat × Value) → Nat → Prop
  | [], _ => True
  | (i, v) :: r, off => place i = some (off, v.cells.size) ∧ fillOK place r (off + v.cells.size)
theorem fill_all {place : Nat → Option (Nat × Nat)} : ∀ (parts : List (Nat × Value)) (pre z : List Value), fillOK place parts pre.length → (flat parts).length ≤ z.length →
    Instr.fill place (pre ++ z).toArray parts = some (pre ++ flat parts ++ z.drop (flat parts).length).toArray
  | [], pre, z, _, _ => by simp [Instr.fill, flat]
  | (i, v) :: r, pre, z, ⟨h1, h2⟩, hl => by
    simp only [flat, List.flatMap_cons, List.length_append, Array.length_toList] at hl
    have hs : ¬ (pre.length + v.cells.size > (pre ++ z).toArray.size) := by simp; omega
    have hfold : v.cells.zipIdx.foldl (fun cs (x : Value × Nat) => cs.setIfInBounds (pre.length + x.2) x.1) (pre ++ z).toArray = ((pre ++ v.cells.toList) ++ z.drop v.cells.size).toArray := by
      apply Array.ext'
      rw [← Array.foldl_toList, Array.toList_zipIdx, foldl_set pre.length v.cells.toList 0 _ (by simp; omega)]
      simp
    unfold Instr.fill
    simp only [h1]
    rw [if_neg (by simp only [ne_eq, not_true_eq_false, decide_false, Bool.false_or, decide_eq_true_eq]; exact hs)]
    have := fill_all r (pre ++ v.cells.toList) (z.drop v.cells.size) (by simpa using h2) (by simp [flat] at *; omega)
    refine (congrArg (fun a => Instr.fill place a r) hfold).trans (this.trans ?_)
    simp [flat, List.append_assoc, List.drop_drop]
theorem flat_cons (i : Nat) (v : Value) (r : List (Nat × Value)) : flat ((i, v) :: r) = v.cells.toList ++ flat r := by simp [flat]
theorem oe_build {α : Type} {e : ERep α} {z : α} {bytes : Nat} {zero : Value} {parts : List (Nat × Operand)} {vs : List (Nat × Value)} (ht : TyF P t true e.n bytes zero) (hag : e.agg = true) (hz : zero.cells.size = e.n)
    (hv : parts.map (fun x => (x.1, ev env x.2)) = vs)
    (hpl : (∃ fs, P.underlying t = some (.struct fs) ∧ ∃ pl : Array (Nat × Nat), (∀ w, (fs.mapM (fun f => do pure (f.offset, ← sizeOf f.type)) : Sem (Array (Nat × Nat))).run P w = .ok pl w) ∧ (∀ (S : Nat → Prop) (w : World), All S Γ w → fillOK (pl[·]?) vs 0)) ∨
      (∃ k et n b2 z2 ag2, P.underlying t = some (.array k et) ∧ TyF P et ag2 n b2 z2 ∧ (∀ (S : Nat → Prop) (w : World), All S Γ w → fillOK (fun i => some (i * n, n)) vs 0)))
    (hp : ∀ (S : Nat → Prop) (w : World), All S Γ w → e.p S z (flat vs) w) :
    OpE P ⟨d, .build t parts.toArray, ty, pos, aft, g⟩ env ms Γ (fun v : Value => v) (fun v => [fV e z v]) (fun _ => True) := by
  intro w S _ _ hΓ
  have hpz := hp S w hΓ
  have hl := e.len hpz
  have hzl : zero.cells.toList.length = e.n := by simpa using hz
  refine OpR.of_value (w' := w) (v := .agg (flat vs).toArray) ?_ ⟨_, rfl, trivial, Keeps.refl _ _, ⟨⟨flat vs, by simp [ERep.val, hag], hpz⟩, trivial⟩⟩
  have hfill : ∀ place, fillOK place vs 0 → Instr.fill place zero.cells vs = some (flat vs).toArray := by
    intro place h
    have := fill_all vs [] zero.cells.toList h (by rw [hl, hzl]; exact Nat.le_refl _)
    simpa [drop_nil_le zero.cells.toList (n := (flat vs).length) (by rw [hl, hzl]; exact Nat.le_refl _)] using this
  have hv' : parts.toArray.map (fun x => (x.1, ev env x.2)) = vs.toArray := by rw [← hv]; simp
  simp only [execOp, Sem.run_bind]
  have hb : (Instr.build t (parts.toArray.map fun x => (x.1, ev env x.2))).run P w = .ok (.agg (flat vs).toArray) w := by
    rw [hv']
    unfold Instr.build
    rcases hpl with ⟨fs, hu, pl, hpl, hok⟩ | ⟨k, et, n, b2, z2, ag2, hu, hte, hok⟩
    · simp only [Sem.run_bind, run_zeroValue ht, Result.andThen_ok, run_underlying hu, hpl, hfill _ (hok S w hΓ), Sem.run_pure]
    · simp only [Sem.run_bind, run_zeroValue ht, Result.andThen_ok, run_underlying hu, run_sizeOf hte, hfill _ (hok S w hΓ), Sem.run_pure]
  rw [hb]; rfl
theorem fV_sz {α : Type} {e : ERep α} {y : α} {v : Value} {S : Nat → Prop} {w : World} (h : (fV e y v).p S w) : v.cells.size = e.n := by
  have := e.len (fV_cells h); simpa using this
theorem oe_buildSlice {α : Type} {e : ERep α} {et : TypeId} {zs : List α} {len bytes : Nat} {zero : Value} {parts : List (Nat × Operand)} {vs : List (Nat × Value)} (ht : P.underlying t = some (.slice et)) (het : TyF P et e.agg e.n bytes zero)
    (hn : 0 < e.n) (hlen : zs.length = len) (hsm : len * e.n ≤ 16777216) (hv : parts.map (fun x => (x.1, ev env x.2)) = vs)
    (hok : ∀ (S : Nat → Prop) (w : World), All S Γ w → fillOK (fun i => some (i * e.n, e.n)) vs 0) (hp : ∀ (S : Nat → Prop) (w : World), All S Γ w → Elems e S zs (flat vs) w) :
    OpE P ⟨d, .buildSlice t len parts.toArray, ty, pos, aft, g⟩ env ms Γ (fun v : Value => v) (fun v => [fV (eS e) zs v]) (fun _ => True) := by
  intro w S hS _ hΓ
  have hpz := hp S w hΓ
  have hl : (flat vs).length = len * e.n := by rw [hpz.len, hlen]
  have x := Ext.alloc w (.cells (flat vs).toArray et)
  refine OpR.of_value (w' := w.alloc (.cells (flat vs).toArray et)) (v := .slice (some ⟨w.heap.size, 0, none⟩) len len) ?_ ⟨_, rfl, trivial, x, ⟨fV_slice.2 ?_, trivial⟩⟩
  · have hv' : parts.toArray.map (fun x => (x.1, ev env x.2)) = vs.toArray := by rw [← hv]; simp
    have hfill : Instr.fill (fun i => some (i * e.n, e.n)) ((Array.range (len * e.n)).map (zero.cells[· % zero.cells.size]!)) vs = some (flat vs).toArray := by
      have := fill_all vs [] ((Array.range (len * e.n)).map (zero.cells[· % zero.cells.size]!)).toList (hok S w hΓ) (by simp [hl])
      rw [List.nil_append, Array.toArray_toList, List.nil_append, List.drop_eq_nil_of_le (by simp [hl]), List.append_nil] at this
      exact this
    have hb : (Instr.buildSlice t len (parts.toArray.map fun x => (x.1, ev env x.2))).run P w = .ok (.slice (some ⟨w.heap.size, 0, none⟩) len len) (w.alloc (.cells (flat vs).toArray et)) := by
      rw [hv']
      unfold Instr.buildSlice
      simp only [Sem.run_bind, run_underlying ht, Result.andThen_ok, run_sizeOf het, if_neg (show ¬ len * e.n > 2 ^ 24 by omega), newRow]
      by_cases h0 : len * e.n = 0
      · have hvs : flat vs = [] := List.eq_nil_of_length_eq_zero (by rw [hl, h0])
        have hf2 : Instr.fill (fun i => some (i * e.n, e.n)) ((Array.range 0).map ((#[] : Array Value)[· % (#[] : Array Value).size]!)) vs = some (flat vs).toArray := by
          have hm : ∀ f : Nat → Value, (Array.range 0).map f = #[] := fun f => by simp
          rw [← hfill, h0, hm, hm]
        simp only [h0, if_true]
        simp only [hf2, Sem.run_bind, run_newObj_alloc, Result.andThen_ok, Sem.run_pure]
      · simp only [if_neg h0, Sem.run_bind, run_zeroValue het, Result.andThen_ok, Sem.run_pure, hfill, run_newObj_alloc]
    simp only [execOp, Sem.run_bind, hb, Result.andThen_ok, Sem.run_pure]
  · have ha : At (w.alloc (.cells (flat vs).toArray et)) w.heap.size 0 (flat vs) := by
      have := At.row (b := w.heap.size) (cs := (flat vs).toArray) (t := et) (fr := (0, 0)) (heap_alloc_new w _)
      simpa using this
    refine SlP.of_at (hS.up _ (Nat.le_refl _)) ha (hpz.keep x.to) hlen.symm (by omega) ?_
    have : len ≤ len * e.n := Nat.le_mul_of_pos_right _ hn
    unfold maxLen; omega
theorem oe_box {α : Type} {e : ERep α} {E : TypeId} {z : α} {v : Value} (hx : ev env x = v) (hf : ∀ (S : Nat → Prop) (w : World), All S Γ w → (fV e z v).p S w) :
    OpE P ⟨d, .box E x, ty, pos, aft, g⟩ env ms Γ (fun v : Value => v) (fun p => [fP e z p]) (fun _ => True) := by
  intro w S hS _ hΓ
  have h := fV_cells (hf S w hΓ)
  have xx := Ext.alloc w (.cells v.cells E)
  refine OpR.of_value (w' := w.alloc (.cells v.cells E)) (v := .pointer (some ⟨w.heap.size, 0, none⟩)) ?_ ⟨_, rfl, trivial, xx, ⟨⟨w.heap.size, 0, v.cells.toList, rfl, hS.up _ (Nat.le_refl _), At.row (heap_alloc_new w _), e.keep h xx.to⟩, trivial⟩⟩
  simp [execOp, hx, Instr.box, newVar, newRow]
end
end
section
def Sub {α β : Type} (e : CRep α) (x : α) (o : Nat) (e' : ERep β) (x' : β) (up : β → α) : Prop :=
  ∀ (S : Nat → Prop) (w : World) (cs : List Value), e.p S x cs w → ∃ pre c post, cs = pre ++ c ++ post ∧ pre.length = o ∧ e'.p S x' c w ∧ ∀ (w' : World) y c', Keeps S w w' → e'.p S y c' w' → e.p S (up y) (pre ++ c' ++ post) w'
theorem Sub.self {α : Type} (e : ERep α) (x : α) : Sub e.c x 0 e x id :=
  fun _ _ cs h => ⟨[], cs, [], by simp, rfl, h, fun _ y c' _ h' => by simpa [ERep.c] using h'⟩
theorem Sub.fst {α β : Type} (e : ERep α) (f : ERep β) (x : α × β) : Sub (eP e f).c x 0 e x.1 (fun y => (y, x.2)) := by
  rintro S w cs ⟨c, d, rfl, hc, hd⟩
  exact ⟨[], c, d, by simp, rfl, hc, fun w' y c' k h' => ⟨c', d, by simp, h', f.keep hd k⟩⟩
theorem Sub.snd {α β : Type} (e : ERep α) (f : ERep β) (x : α × β) : Sub (eP e f).c x e.n f x.2 (fun y => (x.1, y)) := by
  rintro S w cs ⟨c, d, rfl, hc, hd⟩
  exact ⟨c, d, [], by simp, e.len hc, hd, fun w' y c' k h' => ⟨c, c', by simp, e.keep hc k, h'⟩⟩
theorem Sub.nth {α : Type} (k : Nat) (e : ERep α) (xs : List α) (i : Nat) (x : α) (hx : xs[i]? = some x) : Sub (eA k e).c xs (i * e.n) e x (fun y => xs.set i y) := by
  rintro S w cs ⟨hl, he⟩
  obtain ⟨hi, rfl⟩ := List.getElem?_eq_some_iff.1 hx
  have hd := he.drop i
  rw [List.drop_eq_getElem_cons hi] at hd
  obtain ⟨c, r, h1, h2, h3⟩ := hd
  have hcl : i * e.n ≤ cs.length := by rw [he.len]; exact Nat.mul_le_mul_right _ (by omega)
  refine ⟨cs.take (i * e.n), c, r, ?_, by simp; omega, h2, fun w' y c' kk h' => ⟨by simpa using hl, ?_⟩⟩
  · rw [List.append_assoc, ← h1, List.take_append_drop]
  · show Elems e S (xs.set i y) _ w'
    rw [List.set_eq_take_append_cons_drop, if_pos hi, List.append_assoc]
    exact ((he.keep kk).take i).append ⟨c', r, rfl, h', h3.keep kk⟩
theorem Sub.row {α : Type} (e : ERep α) (xs : List α) (i : Nat) (x : α) (hx : xs[i]? = some x) : Sub (rowC e) xs (i * e.n) e x (fun y => xs.set i y) := by
  intro S w cs he
  obtain ⟨hi, _⟩ := List.getElem?_eq_some_iff.1 hx
  obtain ⟨pre, c, post, h1, h2, h3, h4⟩ := Sub.nth xs.length e xs i x hx S w cs ⟨rfl, he⟩
  exact ⟨pre, c, post, h1, h2, h3, fun w' y c' kk h' => (h4 w' y c' kk h').2⟩
theorem Sub.comp {α β γ : Type} {e : CRep α} {x : α} {o o' : Nat} {f : ERep β} {y : β} {g : ERep γ} {z : γ} {up : β → α} {up' : γ → β} (h : Sub e x o f y up) (h' : Sub f.c y o' g z up') :
    Sub e x (o + o') g z (fun t => up (up' t)) := by
  intro S w cs he
  obtain ⟨pre, c, post, rfl, h1, h2, h3⟩ := h S w cs he
  obtain ⟨pre', c', post', rfl, h1', h2', h3'⟩ := h' S w c h2
  refine ⟨pre ++ pre', c', post' ++ post, by simp [List.append_assoc], by simp [h1, h1'], h2', fun w' t c'' k hc => ?_⟩
  have := h3 w' _ _ k (h3' w' t c'' k hc)
  simpa [List.append_assoc] using this
section
variable {P : Program} {N : Nd} {we : World} {Se : Nat → Prop} {ms : List MF} {Γ : List FF} {Q : Qs} {env : Env} {ops : Array Oper} {rest : List Oper}
  {d : Option Tmp} {ty yt t : TypeId} {pos : String} {aft : Array Edge} {g : Option (Nat × Bool)} {x y : Operand}
theorem r_index {et : TypeId} {ag : Bool} {sz bytes : Nat} {zero : Value} {b o n cap k : Nat} {ik : IntKind} (ht : P.underlying t = some (.slice et)) (het : TyF P et ag sz bytes zero)
    (hx : ev env x = .slice (some ⟨b, o, none⟩) n cap) (hi : ev env y = .int ik (k : Int)) (hk : k < n) (w : World) :
    (execOp (ev env) ⟨d, .indexAddr t x y, ty, pos, aft, g⟩).run P w = .ok (.value (.pointer (some ⟨b, o + k * sz, none⟩))) w := by
  have : (0 : Int) ≤ (k : Int) ∧ (k : Int) < (n : Int) := by omega
  simp only [execOp, hx, hi, Instr.indexAt, asIntOf, run_underlying ht, Sem.run_bind, Sem.run_pure, Result.andThen_ok, if_pos this, run_sizeOf het, addr_add, Int.toNat_natCast]
theorem r_indexA {et : TypeId} {ag : Bool} {sz bytes : Nat} {zero : Value} {b o n k : Nat} {ik : IntKind} (ht : P.underlying t = some (.array n et)) (het : TyF P et ag sz bytes zero)
    (hx : ev env x = .pointer (some ⟨b, o, none⟩)) (hi : ev env y = .int ik (k : Int)) (hk : k < n) (w : World) :
    (execOp (ev env) ⟨d, .indexAddr t x y, ty, pos, aft, g⟩).run P w = .ok (.value (.pointer (some ⟨b, o + k * sz, none⟩))) w := by
  have : (0 : Int) ≤ (k : Int) ∧ (k : Int) < (n : Int) := by omega
  simp only [execOp, hx, hi, Instr.indexAt, Instr.sureAddr, asIntOf, run_underlying ht, Sem.run_bind, Sem.run_pure, Result.andThen_ok, if_pos this, run_sizeOf het, addr_add, Int.toNat_natCast]
theorem oe_indexA {α β : Type} {e : ERep α} {f : ERep β} {z : α} {z' : β} {up : β → α} {p : Value} {et : TypeId} {ag : Bool} {sz bytes : Nat} {zero : Value} {n k : Nat} {ik : IntKind} (ht : P.underlying t = some (.array n et)) (het : TyF P et ag sz bytes zero)
    (hx : ev env x = p) (hi : ev env y = .int ik (k : Int)) (hk : k < n) (hsub : Sub e.c z (k * sz) f z' up) (hf : ∀ (S : Nat → Prop) (w : World), All S Γ w → (fP e z p).p S w) :
    OpE P ⟨d, .indexAddr t x y, ty, pos, aft, g⟩ env ms Γ (fun p : Value => p) (fun p => [fP f z' p]) (fun _ => True) := by
  intro w S _ _ hΓ
  obtain ⟨b, o, cs, rfl, hS, ha, he⟩ := hf S w hΓ
  obtain ⟨pre, c, post, rfl, h1, h2, _⟩ := hsub S w cs he
  refine OpR.of_value (r_indexA ht het hx hi hk w) ⟨_, rfl, trivial, Keeps.refl _ _, ⟨⟨b, o + k * sz, c, rfl, hS, ⟨ha.1, fun j v hv => ?_⟩, h2⟩, trivial⟩⟩
  rw [Nat.add_assoc, ← h1]
  refine ha.2 _ v ?_
  rw [List.append_assoc, List.getElem?_append_right (by omega), Nat.add_sub_cancel_left, List.getElem?_append_left (List.getElem?_eq_some_iff.1 hv).1]
  exact hv
def fldB (P : Program) (t : TypeId) (i : Nat) : Option Nat := match P.underlying t with
  | some (.struct fs) => match fs[i]? with
    | some f => match P.info? f.type with
      | some inf => if inf.size = 0 then none else some f.offset
      | none => none
    | none => none
  | _ => none
theorem run_fieldAt {i off b o : Nat} (h : fldB P t i = some off) (w : World) : (Instr.fieldAt t (.pointer (some ⟨b, o, none⟩)) i).run P w = .ok (.pointer (some ⟨b, o + off, none⟩)) w := by
  unfold fldB at h
  split at h
  · next fs hu =>
    split at h
    · next f hf =>
      split at h
      · next inf hi =>
        split at h
        · cases h
        · next hs =>
          cases h
          simp only [Instr.fieldAt, Sem.run_bind, run_underlying hu, Result.andThen_ok, hf, Instr.sureAddr, Sem.run_pure, fieldPlace, sizeOf, typeInfo, run_program, hi, if_neg hs, addr_add]
      · cases h
    · cases h
  · cases h
theorem r_field {i off b o : Nat} (h : fldB P t i = some off) (hx : ev env x = .pointer (some ⟨b, o, none⟩)) (w : World) :
    (execOp (ev env) ⟨d, .fieldAddr t x i, ty, pos, aft, g⟩).run P w = .ok (.value (.pointer (some ⟨b, o + off, none⟩))) w := by
  simp only [execOp, hx, Sem.run_bind, run_fieldAt h, Result.andThen_ok, Sem.run_pure]
theorem oe_field {α β : Type} {e : ERep α} {f : ERep β} {z : α} {z' : β} {up : β → α} {p : Value} {i off : Nat} (h : fldB P t i = some off) (hx : ev env x = p) (hsub : Sub e.c z off f z' up)
    (hf : ∀ (S : Nat → Prop) (w : World), All S Γ w → (fP e z p).p S w) : OpE P ⟨d, .fieldAddr t x i, ty, pos, aft, g⟩ env ms Γ (fun p : Value => p) (fun p => [fP f z' p]) (fun _ => True) := by
  intro w S _ _ hΓ
  obtain ⟨b, o, cs, rfl, hS, ha, he⟩ := hf S w hΓ
  obtain ⟨pre, c, post, rfl, h1, h2, _⟩ := hsub S w cs he
  refine OpR.of_value (r_field h hx w) ⟨_, rfl, trivial, Keeps.refl _ _, ⟨⟨b, o + off, c, rfl, hS, ⟨ha.1, fun j v hv => ?_⟩, h2⟩, trivial⟩⟩
  rw [Nat.add_assoc, ← h1]
  refine ha.2 _ v ?_
  rw [List.append_assoc, List.getElem?_append_right (by omega), Nat.add_sub_cancel_left, List.getElem?_append_left (List.getElem?_eq_some_iff.1 hv).1]
  exact hv
theorem St.muts {i : Nat} {m : MF} {w : World} (h : St we Se ms Γ w) (hi : ms[i]? = some m) : ∃ S : Nat → Prop, m.p S w ∧ AllM S ms w ∧ All S Γ w := by
  obtain ⟨h1, h2, h3, S, h4, h5, h6, h7, h8⟩ := h
  exact ⟨S, AllM.get h7 hi, h7, h8⟩
theorem St.mut {i : Nat} {m : MF} {w : World} (h : St we Se ms Γ w) (hi : ms[i]? = some m) : ∃ S : Nat → Prop, Tl w S ∧ m.p S w ∧ All S Γ w ∧ ∀ (Δ : List FF), All S Δ w → St we Se ms Δ w := by
  obtain ⟨h1, h2, h3, S, h4, h5, h6, h7, h8⟩ := h
  exact ⟨S, h2.at h1 h5, AllM.get h7 hi, h8, fun Δ hΔ => ⟨h1, h2, h3, S, h4, h5, h6, h7, hΔ⟩⟩
theorem At.mid {w : World} {b : Nat} {cs : Array Value} {E : TypeId} {pre c post : List Value} (h : w.heap[b]? = some (.cells cs E (0, 0))) (hcs : cs.toList = pre ++ c ++ post) : At w b pre.length c := by
  have := ((At.row h).drop pre.length).take c.length
  rw [hcs] at this
  simpa using this
theorem oe_loadM {α β : Type} {e : CRep α} {E b : Nat} {z : α} {f : ERep β} {o : Nat} {z' : β} {up : β → α} {bytes : Nat} {zero : Value} (i : Nat)
    (hm : ms[i]? = some (mB e E b z)) (hx : ev env x = .pointer (some ⟨b, o, none⟩)) (hsub : Sub e z o f z' up) (ht : TyF P t f.agg f.n bytes zero) :
    OpE P ⟨d, .load t x, ty, pos, aft, g⟩ env ms Γ (fun v : Value => v) (fun v => [fV f z' v]) (fun _ => True) := by
  intro w S _ hM hΓ
  obtain ⟨cs, hg, hp⟩ := AllM.get hM hm
  obtain ⟨pre, c, post, hcs, h1, h2, _⟩ := hsub S w cs.toList hp
  have ha : At w b o c := h1 ▸ At.mid hg hcs
  refine OpR.of_value (w' := w) (v := f.val c) ?_ ⟨_, rfl, trivial, Keeps.refl _ _, fV_of h2, trivial⟩
  simp [execOp, hx, Instr.loadAt, Instr.sureAddr, run_loadVar ht h2 ha]
theorem keeps_setRow (w : World) (b : Nat) (cs : Array Value) : Keeps (fun k => k ≠ b) w (w.setRow b cs) :=
  ⟨rfl, rfl, rfl, by simp [World.setRow], fun k _ hk => setRow_other w b k cs hk⟩
theorem run_storeVar {ag : Bool} {n bytes : Nat} {zero : Value} (ht : TyF P t ag n bytes zero) {w : World} {b : Nat} {cs : Array Value} {E : TypeId} {pre c post : List Value} {v : Value}
    (h : w.heap[b]? = some (.cells cs E (0, 0))) (hcs : cs.toList = pre ++ c ++ post) (hc : c.length = n) (hv : v.cells.toList.length = n) (h1 : ∀ u ∈ v.cells.toList, u.oneCell' = true) :
    (storeVar t ⟨b, pre.length, none⟩ v).run P w = .ok () (w.setRow b (pre ++ v.cells.toList ++ post).toArray) := by
  unfold storeVar
  have hsz : cs.size = (pre ++ c ++ post).length := by rw [← hcs]; simp
  have hs := run_storeCells_at P b pre.length E v.cells.toList 0 cs w h (by rw [hsz, hv]; simp; omega) h1
  have hv' : v.cells.size = n := by simpa using hv
  simp only [Sem.run_bind, run_sizeOf ht, Result.andThen_ok, hv', ne_eq, not_true_eq_false, if_false]
  refine hs.trans ?_
  congr 2
  rw [hcs, hv, Nat.add_zero]
  congr 2
  · rw [List.append_assoc, List.take_left' rfl]
  · rw [← hc, ← List.length_append, List.drop_left' rfl]
theorem og_storeM {α β : Type} {e : CRep α} {E b : Nat} {z : α} {f : ERep β} {o : Nat} {z' y' : β} {up : β → α} {bytes : Nat} {zero v : Value} (i : Nat) (hm : ms[i]? = some (mB e E b z)) (hx : ev env x = .pointer (some ⟨b, o, none⟩)) (hy : ev env y = v) (hsub : Sub e z o f z' up) (ht : TyF P t f.agg f.n bytes zero)
    (hv : ∀ (S : Nat → Prop) (w : World), All S Γ w → (fV f y' v).p S w) : OG P ⟨none, .store t x y, ty, pos, aft, g⟩ env we Se ms Γ (fun _ : Unit => undef) (fun _ => (ms.set i (mB e E b (up y')))) (fun _ => Γ) (fun _ => True) := by
  intro w hst
  obtain ⟨S0, _, ⟨cs0, hg0, hp0⟩, h80, _⟩ := hst.mut hm
  obtain ⟨pre0, c0, post0, hcs0, hl0, hc0, _⟩ := hsub S0 w cs0.toList hp0
  have hv0 := fV_cells (hv S0 w h80)
  have hrun : (execOp (ev env) ⟨none, .store t x y, ty, pos, aft, g⟩).run P w = .ok .skip (w.setRow b (pre0 ++ v.cells.toList ++ post0).toArray) := by
    have := run_storeVar ht hg0 hcs0 (f.len hc0) (f.len hv0) (f.one hv0)
    rw [hl0] at this
    simp only [execOp, hx, hy, Instr.storeAt, Instr.sureAddr, Sem.run_bind, Sem.run_pure, Result.andThen_ok, this]
  refine OpR.of_skip hrun ⟨(), rfl, trivial, hst.write hm rfl rfl (keeps_setRow w b _) ?_⟩
  rintro S hS ⟨cs, hg, hp⟩ h8
  rw [hg0] at hg
  cases hg
  obtain ⟨pre, c, post, hcs, hl, hc, hup⟩ := hsub S w cs0.toList hp
  have e1 : pre = pre0 := by
    have h1 : pre = cs0.toList.take o := by rw [hcs, List.append_assoc, ← hl, List.take_left' rfl]
    have h2 : pre0 = cs0.toList.take o := by rw [hcs0, List.append_assoc, ← hl0, List.take_left' rfl]
    rw [h1, h2]
  have e2 : post = post0 := by
    have h1 : post = cs0.toList.drop (o + f.n) := by rw [hcs, ← hl, ← f.len hc, ← List.length_append, List.drop_left' rfl]
    have h2 : post0 = cs0.toList.drop (o + f.n) := by rw [hcs0, ← hl0, ← f.len hc0, ← List.length_append, List.drop_left' rfl]
    rw [h1, h2]
  subst e1 e2
  have kk : Keeps S w (w.setRow b (pre ++ v.cells.toList ++ post).toArray) := (keeps_setRow w b _).weak fun k _ hk => hS k hk
  exact ⟨_, setRow_heap w b cs0 _ E (0, 0) hg0, by simpa using hup _ y' _ kk (f.keep (fV_cells (hv S w h8)) kk)⟩
theorem og_make {α : Type} {e : ERep α} {et : TypeId} {z : α} {n bytes : Nat} {zero : Value} {yy : Operand} {kl kc : IntKind} (ht : P.underlying t = some (.slice et)) (het : TyF P et e.agg e.n bytes zero) (hx : ev env x = .int kl (n : Int)) (hy : ev env yy = .int kc (n : Int)) (hb : bytes * n ≤ 281474976710656) (hn : n ≤ 9223372036854775807)
    (hz : ∀ (S : Nat → Prop) (w : World), e.p S z zero.cells.toList w) : OG P ⟨d, .makeSlice t x yy, ty, pos, aft, g⟩ env we Se ms Γ (fun b => (.slice (some ⟨b, 0, none⟩) n n)) (fun b => (mR e et b (List.replicate n z) :: ms)) (fun _ => Γ) (fun _ => True) := by
  intro w hst
  obtain ⟨i, hi, h1, h2, h3⟩ := het.info
  have hr := run_make (P := P) w t et i zero ht hi h3 kl kc (n : Int) (n : Int) (by omega) (by omega) (by rw [h2, ← Int.natCast_mul]; exact Int.ofNat_le.2 hb) (by omega)
  have hzl : zero.cells.toList.length = e.n := e.len (hz (fun _ => True) w)
  have hcells : (madeCells zero.cells (n * i.size)).toList = (List.replicate n zero.cells.toList).flatten := by
    rw [h1]
    apply List.ext_getElem?
    intro j
    have hs : zero.cells.size = e.n := by simpa using hzl
    by_cases hj : j < n * e.n
    · have hpos : 0 < e.n := Nat.pos_of_ne_zero fun h0 => by rw [h0] at hj; simp at hj
      have e1 : (madeCells zero.cells (n * e.n)).toList[j]? = zero.cells.toList[j % e.n]? := by
        have hm := Nat.mod_lt j hpos
        simp [madeCells, hj, hs, hm]
      have e2 : ((List.replicate n zero.cells.toList).flatten)[j]? = zero.cells.toList[j % e.n]? := by
        have := (Elems.replicate (hz (fun _ => True) w) n).get (i := j / e.n) (x := z) (by rw [List.getElem?_replicate, if_pos ((Nat.div_lt_iff_lt_mul hpos).2 hj)])
        exact flatten_get zero.cells.toList e.n hzl hpos n j hj
      rw [e1, e2]
    · rw [List.getElem?_eq_none (by simp [size_madeCells]; omega), List.getElem?_eq_none (by simp [hzl]; omega)]
  refine OpR.of_value (w' := w.alloc (.cells (madeCells zero.cells (n * i.size)) et)) (v := .slice (some ⟨w.heap.size, 0, none⟩) n n) ?_ ⟨_, rfl, trivial, hst.fresh (Ext.alloc w _) rfl (by simp) ?_⟩
  · simp only [execOp, hx, hy, Sem.run_bind, hr, Result.andThen_ok, Sem.run_pure, Int.toNat_natCast]
  · intro S _ _
    refine ⟨_, heap_alloc_new w _, ?_⟩
    rw [hcells]
    exact Elems.replicate (hz _ _) n
 where
  flatten_get (l : List Value) (m : Nat) (hl : l.length = m) (hm : 0 < m) : ∀ (n j : Nat), j < n * m → ((List.replicate n l).flatten)[j]? = l[j % m]?
    | 0, j, h => by simp at h
    | n + 1, j, h => by
      rw [List.replicate_succ, List.flatten_cons]
      by_cases hj : j < m
      · rw [List.getElem?_append_left (by omega), Nat.mod_eq_of_lt hj]
      · rw [List.getElem?_append_right (by omega), hl, flatten_get l m hl hm n (j - m) (by rw [Nat.add_mul] at h; omega), ← Nat.mod_eq_sub_mod (by omega)]
end
end
section
section
variable {we : World} {Se : Nat → Prop} {ms : List MF} {Γ Δ : List FF} {w w' : World}
theorem St.growM {i : Nat} {m m' : MF} (h : St we Se ms Γ w) (hi : ms[i]? = some m) (x : Keeps (fun k => ¬ m.blk k) w w') (hb : ∀ k, m'.blk k → m.blk k ∨ w.heap.size ≤ k)
    (n : ∀ S : Nat → Prop, (∀ k, S k → ¬ m.blk k) → AllM S ms w → All S Γ w → m'.p S w') : St we Se (ms.set i m') Γ w' := by
  obtain ⟨h1, h2, h3, S, h4, h5, h6, h7, h8⟩ := h
  have hm := List.mem_of_getElem? hi
  have hS : ∀ k, S k → ¬ m.blk k := fun k hk e => (h6 m hm k e).1 hk
  have hsub : ∀ k, k < w.heap.size → S k → S k ∧ ¬ m'.blk k := fun k hk hs => ⟨hs, fun e => by
    rcases hb k e with h | h
    · exact hS k hs h
    · omega⟩
  have hS' : ∀ k, (S k ∧ ¬ m'.blk k) → ¬ m.blk k := fun k hk => hS k hk.1
  have x' : Keeps (fun k => S k ∧ ¬ m'.blk k) w w' := x.weak fun k _ hk => hS' k hk
  have hlt := fun m2 hm2 => AllM.lt h7 m2 hm2
  have other : ∀ (j : Nat) (m2 : MF), j ≠ i → ms[j]? = some m2 → ∀ k, m2.blk k → ¬ m.blk k ∧ ¬ m'.blk k := fun j m2 hj hm2 k hk => by
    have h1 : ¬ m.blk k := fun e => apart_of h3 hi k e j m2 hj hm2 hk
    refine ⟨h1, fun e => ?_⟩
    rcases hb k e with h | h
    · exact h1 h
    · have := hlt m2 (List.mem_of_getElem? hm2) k hk; omega
  have hp' := n _ hS' (AllM.sub hsub h7) (All.sub hsub h8)
  refine ⟨h1.behind x (fun k hk e => by have := (h6 m hm k e).2; omega), h2, ?_, fun k => S k ∧ ¬ m'.blk k, fun k hk => h4 k hk.1, ?_, ?_, ?_, ?_⟩
  · exact apart_move i m' h3 (fun j m2 hj hm2 k hk => (other j m2 hj hm2 k hk).2)
  · exact fun k hk => ⟨h5 k (Nat.le_trans x.size hk), fun e => by have := m'.lt hp' k e; omega⟩
  · intro m2 hm2 k hk
    obtain ⟨j, hj, rfl⟩ := List.getElem_of_mem hm2
    rw [List.getElem_set] at hk
    rw [List.length_set] at hj
    split at hk
    · refine ⟨fun hc => hc.2 hk, ?_⟩
      rcases hb k hk with h | h
      · exact (h6 m hm k h).2
      · have := h1.size; omega
    · exact ⟨fun hc => (h6 _ (List.getElem_mem hj) k hk).1 hc.1, (h6 _ (List.getElem_mem hj) k hk).2⟩
  · exact allM_move i m' x' hp' (fun j m2 hj hm2 k hk => x.block k (hlt m2 (List.mem_of_getElem? hm2) k hk) (other j m2 hj hm2 k hk).1) (AllM.sub hsub h7)
  · exact All.keep x' (All.sub hsub h8)
 where
  apart_move : ∀ {ms : List MF} (i : Nat) (m' : MF), Apart ms → (∀ (j : Nat) (m2 : MF), j ≠ i → ms[j]? = some m2 → ∀ k, m2.blk k → ¬ m'.blk k) → Apart (ms.set i m')
    | [], _, _, h, _ => by simpa using h
    | m :: r, 0, m', h, ho => ⟨fun k hk m2 hm2 hc => by
        obtain ⟨j, hj, rfl⟩ := List.getElem_of_mem hm2
        exact ho (j + 1) r[j] (by omega) (by simp [hj]) k hc hk, h.2⟩
    | m :: r, i + 1, m', h, ho => by
      refine ⟨fun k hk m2 hm2 => ?_, apart_move i m' h.2 (fun j m2 hj hm2 => ho (j + 1) m2 (by omega) (by simpa using hm2))⟩
      obtain ⟨j, hj, rfl⟩ := List.getElem_of_mem hm2
      rw [List.getElem_set]
      split
      · exact ho 0 m (by omega) rfl k hk
      · exact h.1 k hk _ (List.getElem_mem _)
  allM_move {S : Nat → Prop} : ∀ {ms : List MF} (i : Nat) (m' : MF), Keeps S w w' → m'.p S w' → (∀ (j : Nat) (m2 : MF), j ≠ i → ms[j]? = some m2 → ∀ k, m2.blk k → w'.heap[k]? = w.heap[k]?) → AllM S ms w → AllM S (ms.set i m') w'
    | [], _, _, _, _, _, _ => trivial
    | m :: r, 0, m', x, hm, ho, h => ⟨hm, AllM.keep x (fun m2 hm2 k hk => by
        obtain ⟨j, hj, rfl⟩ := List.getElem_of_mem hm2
        exact ho (j + 1) r[j] (by omega) (by simp [hj]) k hk) h.2⟩
    | m :: r, i + 1, m', x, hm, ho, h => ⟨m.keep h.1 x (fun k hk => ho 0 m (by omega) rfl k hk), allM_move i m' x hm (fun j m2 hj hm2 => ho (j + 1) m2 (by omega) (by simpa using hm2)) h.2⟩
theorem St.grow {i : Nat} {m m' : MF} (h : St we Se ms Γ w) (hi : ms[i]? = some m) (x : Keeps (fun k => ¬ m.blk k) w w') (hb : ∀ k, m'.blk k → m.blk k ∨ w.heap.size ≤ k)
    (n : ∀ S : Nat → Prop, (∀ k, S k → ¬ m.blk k) → m.p S w → All S Γ w → m'.p S w') : St we Se (ms.set i m') Γ w' := by grind [St.growM, AllM.get]
theorem St.conv {i : Nat} {m m' : MF} (h : St we Se ms Γ w) (hi : ms[i]? = some m) (hb : m'.blk = m.blk) (n : ∀ S : Nat → Prop, m.p S w → m'.p S w) : St we Se (ms.set i m') Γ w := by grind [St.grow, Keeps.refl]
theorem St.nilO {α : Type} {e : ERep α} {E : TypeId} (h : St we Se ms Γ w) : St we Se (mO e E (.slice none 0 0) [] :: ms) Γ w := by
  obtain ⟨h1, h2, h3, S, h4, h5, h6, h7, h8⟩ := h
  refine ⟨h1, h2, ⟨(fun _ hk => by cases hk), h3⟩, S, h4, h5, ?_, ⟨⟨[], World.ownsRow_nil _ _ _ _, rfl⟩, h7⟩, h8⟩
  intro m hm k hk
  rcases List.mem_cons.1 hm with rfl | hm
  · cases hk
  · exact h6 m hm k hk
end
section
variable {P : Program} {N : Nd} {we : World} {Se : Nat → Prop} {ms : List MF} {Γ : List FF} {Q : Qs} {env : Env} {ops : Array Oper} {rest : List Oper}
  {d : Option Tmp} {ty yt t : TypeId} {pos : String} {aft : Array Edge} {g : Option (Nat × Bool)} {x y : Operand}
theorem og_allocM {α : Type} {e : CRep α} {z : α} {ag : Bool} {sz bytes : Nat} {zero : Value} {E : TypeId} (ht : TyF P E ag sz bytes zero)
    (hz : ∀ (S : Nat → Prop) (w : World), e.p S z zero.cells.toList w) : OG P ⟨d, .alloc E, ty, pos, aft, g⟩ env we Se ms Γ (fun b => (.pointer (some ⟨b, 0, none⟩))) (fun b => (mB e E b z :: ms)) (fun _ => Γ) (fun _ => True) := by
  intro w hst
  refine OpR.of_value (w' := w.alloc (.cells zero.cells E)) (v := .pointer (some ⟨w.heap.size, 0, none⟩)) ?_ ⟨_, rfl, trivial, hst.fresh (Ext.alloc w _) rfl (by simp) fun S _ _ => ⟨_, heap_alloc_new w _, hz _ _⟩⟩
  simp only [execOp, Instr.alloc, Sem.run_bind, run_zeroValue ht, Result.andThen_ok, newVar, newRow, run_newObj_alloc, Sem.run_pure]
theorem og_boxM {α : Type} {e : ERep α} {z : α} {v : Value} {E : TypeId} (hx : ev env x = v)
    (hf : ∀ (S : Nat → Prop) (w : World), All S Γ w → (fV e z v).p S w) : OG P ⟨d, .box E x, ty, pos, aft, g⟩ env we Se ms Γ (fun b => (.pointer (some ⟨b, 0, none⟩))) (fun b => (mB e.c E b z :: ms)) (fun _ => Γ) (fun _ => True) := by
  intro w hst
  refine OpR.of_value (w' := w.alloc (.cells v.cells E)) (v := .pointer (some ⟨w.heap.size, 0, none⟩)) ?_ ⟨_, rfl, trivial, hst.fresh (Ext.alloc w _) rfl (by simp) fun S h5 hΓ => ⟨_, heap_alloc_new w _, ?_⟩⟩
  · simp only [execOp, hx, Instr.box, newVar, newRow, Sem.run_bind, run_newObj_alloc, Result.andThen_ok, Sem.run_pure]
  · exact e.keep (e.sub (fV_cells (hf S w hΓ)) fun k hk hs => ⟨hs, by omega⟩) (Ext.alloc w _).to
theorem run_append_blk (w : World) (t ty e : TypeId) (i : TypeInfo) (z : Value) (size bytes : Nat) (ht : P.underlying t = some (.slice e)) (hi : P.info? e = some i) (hz : i.zero = some z)
    (hsize : i.size = size) (hby : i.bytes = bytes) (hzs : z.cells.size = size) (hsz : 0 < size)
    (v : Value) (n : Nat) (xs : List Value) (hown : w.ownsRow 0 e size v n xs)
    (a : Addr) (m c : Nat) (news : List Value) (hl : news.length = m * size) (hnews : ∀ j u, news[j]? = some u → w.cell? (a.add j) = some u) (h1 : ∀ u ∈ news, u.oneCell' = true)
    (h63 : n + m ≤ maxLen) (hbytes : (n + m) * bytes ≤ 140737488355328) :
    ∃ v' w', (Builtin.append_ #[t, t] ty #[v, .slice (some a) m c]).run P w = .ok v' w' ∧ w'.ownsRow 0 e size v' (n + m) (xs ++ news) ∧ w.grownBy w' v.ownBlock ∧
      ∀ k, v'.ownBlock = some k → v.ownBlock = some k ∨ w.heap.size ≤ k := by
  obtain ⟨v', w', hr, ho, hg, _⟩ := run_append_own (P := P) w 0 t ty e i z size bytes ht hi hz hsize hby hzs hsz v n xs hown a m c news hl hnews h1 h63 hbytes (Nat.zero_le _)
  refine ⟨v', w', hr, ho, hg, ?_⟩
  subst hsize hby
  have hsmall : n + m ≤ 9223372036854775807 := by simp only [maxLen] at h63; omega
  rcases hown.2 with ⟨rfl, rfl⟩ | ⟨g, cap, cur, rfl, hbg, hgg, hnc, hcm, hcs, htake⟩
  · by_cases hm : m = 0
    · subst hm
      have := run_append_nil0 (w := w) t ty e i ht hi a c
      rw [this] at hr
      cases hr
      exact fun k hk => by cases hk
    · have := run_append_nil (P := P) w t ty e i z ht hi hz a m c news hl hnews (by omega) (by omega) (by have hb := hbytes; simp only [Nat.zero_add] at hb; omega)
      rw [this] at hr
      cases hr
      exact fun k hk => .inr (by cases hk; exact Nat.le_refl _)
  · by_cases hroom : n + m ≤ cap
    · have hfit : n * i.size + news.length ≤ cur.size := by rw [hl, hcs, ← Nat.add_mul]; exact Nat.mul_le_mul_right _ hroom
      have := run_append_room (P := P) w t ty e i ht hi g n cap cur hgg a m c news hl hnews h1 hroom hfit
      rw [this] at hr
      cases hr
      exact fun k hk => .inl hk
    · have holds : ∀ j u, xs[j]? = some u → w.cell? ((⟨g, 0, none⟩ : Addr).add j) = some u := hown.cells (g := g) rfl
      have := run_append_grow (P := P) w t ty e i z ht hi hz ⟨g, 0, none⟩ n cap xs hown.1 holds a m c news hl hnews (by omega) (by omega) (growslice_fits (by omega) hbytes)
      rw [this] at hr
      cases hr
      exact fun k hk => .inr (by cases hk; exact Nat.le_refl _)
 where
  run_append_nil0 {w : World} (t ty e : TypeId) (i : TypeInfo) (ht : P.underlying t = some (.slice e)) (hi : P.info? e = some i) (a : Addr) (c : Nat) :
      (Builtin.append_ #[t, t] ty #[.slice none 0 0, .slice (some a) 0 c]).run P w = .ok (.slice none 0 0) w := by
    simp [Builtin.append_, run_underlying ht, sizeOf, typeInfo, hi, Builtin.lenOf, Builtin.firstCells, loadCells, loadCellsFrom]
def SlQ {α : Type} (e : ERep α) (S : Nat → Prop) (xs : List α) (v : Value) (w : World) : Prop :=
  ∃ ao cap, v = .slice ao xs.length cap ∧ xs.length ≤ cap ∧ cap ≤ maxLen ∧ (xs = [] ∨ ∃ b o cs, ao = some ⟨b, o, none⟩ ∧ At w b o cs ∧ Elems e S xs cs w)
theorem SlQ.of {α : Type} {e : ERep α} {S : Nat → Prop} {xs : List α} {v : Value} {w : World} (h : (fV (eS e) xs v).p S w) : SlQ e S xs v w := by
  obtain ⟨ao, cap, h1, h2, h3, h4⟩ := fV_slice.1 h
  refine ⟨ao, cap, h1, h2, h3, ?_⟩
  rcases h4 with h4 | ⟨b, o, cs, a1, a2, a3, a4⟩
  · exact .inl h4
  · exact .inr ⟨b, o, cs, a1, a3, a4⟩
theorem og_appendQ {α : Type} {e : ERep α} {et : TypeId} {xs ys : List α} {v u : Value} {bytes : Nat} {zero : Value} (i : Nat) (ht : P.underlying t = some (.slice et)) (het : TyF P et e.agg e.n bytes zero) (hzs : zero.cells.size = e.n) (hn : 0 < e.n)
    (hm : ms[i]? = some (mO e et v xs)) (hx : ev env x = v) (hy : ev env y = u) (hf : ∀ (S : Nat → Prop) (w : World), AllM S ms w → All S Γ w → SlQ e S ys u w)
    (h63 : xs.length + ys.length ≤ 9223372036854775807) (hb : (xs.length + ys.length) * bytes ≤ 140737488355328) : OG P ⟨d, .call ⟨.builtin .append, #[x, y], #[t, t]⟩, ty, pos, aft, g⟩ env we Se ms Γ (fun v' => v') (fun v' => (ms.set i (mO e et v' (xs ++ ys)))) (fun _ => Γ) (fun _ => True) := by
  intro w hst
  obtain ⟨S, ⟨cs, ho, he⟩, h7, h8⟩ := hst.muts hm
  obtain ⟨ao, cap, hu, h1, h2, h3⟩ := hf S w h7 h8
  obtain ⟨ti, hi, i1, i2, i3⟩ := het.info
  have hex : ∀ v' w', (Builtin.append_ #[t, t] ty #[v, u]).run P w = .ok v' w' → (execOp (ev env) ⟨d, .call ⟨.builtin .append, #[x, y], #[t, t]⟩, ty, pos, aft, g⟩).run P w = .ok (.value v') w' := fun v' w' hr => by
    simp only [execOp, resolve, invoke, builtin, List.map_toArray, List.map_cons, List.map_nil, hx, hy, Sem.run_bind, hr, Sem.run_pure, Result.andThen_ok]
  have hm63 : xs.length + ys.length ≤ maxLen := by unfold maxLen; omega
  have main : ∃ v' w', (Builtin.append_ #[t, t] ty #[v, u]).run P w = .ok v' w' ∧ w.grownBy w' v.ownBlock ∧ (∀ k, v'.ownBlock = some k → v.ownBlock = some k ∨ w.heap.size ≤ k) ∧
      ∀ S : Nat → Prop, (∀ k, S k → v.ownBlock ≠ some k) → AllM S ms w → All S Γ w → (mO e et v' (xs ++ ys)).p S w' := by
    have fin : ∀ (w' : World) (v' : Value) (news : List Value), w.grownBy w' v.ownBlock → w'.ownsRow 0 et e.n v' (xs.length + ys.length) (cs ++ news) →
        (∀ S : Nat → Prop, AllM S ms w → All S Γ w → Elems e S ys news w) → ∀ S : Nat → Prop, (∀ k, S k → v.ownBlock ≠ some k) → AllM S ms w → All S Γ w → (mO e et v' (xs ++ ys)).p S w' := by
      intro w' v' news hg ho' hnews S hS hM hΓ
      obtain ⟨cs2, ho2, he2⟩ := AllM.get hM hm
      have hcs : cs2 = cs := by
        rcases ho.2 with ⟨rfl, h0⟩ | ⟨g, cap, cur, rfl, _, hgg, _, _, _, htk⟩
        · have a1 := ho.1; have a2 := ho2.1
          rw [h0] at a1 a2
          have c1 : cs = [] := List.eq_nil_of_length_eq_zero (by simpa using a1)
          have c2 : cs2 = [] := List.eq_nil_of_length_eq_zero (by simpa using a2)
          rw [c1, c2]
        · rcases ho2.2 with ⟨hc, _⟩ | ⟨g', cap', cur', hv', _, hgg', _, _, _, htk'⟩
          · cases hc
          · cases hv'
            rw [hgg] at hgg'
            cases hgg'
            rw [← htk, ← htk']
      subst hcs
      have kk : Keeps S w w' := ⟨hg.os, hg.tape, hg.output, hg.size, fun k hk hs => hg.block k hk (fun e => hS k hs e.symm)⟩
      exact ⟨cs2 ++ news, by rw [List.length_append]; exact ho', (he2.keep kk).append ((hnews S hM hΓ).keep kk)⟩
    have nilcase : ys = [] → (ao = none → u = .slice none 0 cap) → ∃ v' w', (Builtin.append_ #[t, t] ty #[v, u]).run P w = .ok v' w' ∧ w.grownBy w' v.ownBlock ∧ (∀ k, v'.ownBlock = some k → v.ownBlock = some k ∨ w.heap.size ≤ k) ∧
      ∀ S : Nat → Prop, (∀ k, S k → v.ownBlock ≠ some k) → AllM S ms w → All S Γ w → (mO e et v' (xs ++ ys)).p S w' := by
      intro hys hnone
      subst hys
      cases ao with
      | none =>
        have hun := hnone rfl
        have hr := run_append_owned_none' (w := w) t ty et ti e.n ht hi v xs.length cs ho cap
        rw [← hun] at hr
        exact ⟨v, w, hr, ⟨rfl, rfl, rfl, Nat.le_refl _, fun _ _ _ => rfl⟩, fun k hk => .inl hk, fun S _ hp _ => by simpa using AllM.get hp hm⟩
      | some a =>
        obtain ⟨v', w', hr, ho', hg, hbk⟩ := run_append_blk w t ty et ti zero e.n bytes ht hi i3 i1 i2 hzs hn v xs.length cs ho a 0 cap [] (by simp) (by simp) (by simp) (by simpa using hm63) (by simpa using hb)
        exact ⟨v', w', by rw [hu]; exact hr, hg, hbk, fin w' v' [] hg (by simpa using ho') (fun _ _ _ => rfl)⟩
    rcases h3 with hys | ⟨b, o, news, rfl, ha, hel⟩
    · exact nilcase hys (fun h => by rw [hu, h, hys]; rfl)
    · obtain ⟨v', w', hr, ho', hg, hbk⟩ := run_append_blk w t ty et ti zero e.n bytes ht hi i3 i1 i2 hzs hn v xs.length cs ho ⟨b, o, none⟩ ys.length cap news hel.len
        (fun j c hc => by rw [addr_add]; exact ha.2 j c hc) hel.one hm63 hb
      refine ⟨v', w', by rw [hu]; exact hr, hg, hbk, fin w' v' news hg ho' fun S2 hM2 hΓ2 => ?_⟩
      obtain ⟨ao2, cap2, hu2, _, _, h32⟩ := hf S2 w hM2 hΓ2
      rw [hu] at hu2
      cases hu2
      rcases h32 with rfl | ⟨b2, o2, news2, hb2, ha2, hel2⟩
      · have := hel.len; rw [List.length_nil, Nat.zero_mul] at this; rw [List.eq_nil_of_length_eq_zero this]; rfl
      · cases hb2
        have : news2 = news := by
          apply List.ext_getElem?
          intro j
          by_cases hj : j < news.length
          · have e1 := ha.2 j news[j] (by simp [hj])
            have hj2 : j < news2.length := by rw [hel2.len, ← hel.len]; exact hj
            have e2 := ha2.2 j news2[j] (by simp [hj2])
            rw [e1] at e2
            rw [List.getElem?_eq_getElem hj, List.getElem?_eq_getElem hj2, e2]
          · have hl2 : news2.length = news.length := by rw [hel2.len, ← hel.len]
            rw [List.getElem?_eq_none (l := news) (by omega), List.getElem?_eq_none (l := news2) (by omega)]
        rw [← this]; exact hel2
  obtain ⟨v', w', hr, hg, hbk, hp⟩ := main
  exact OpR.of_value (hex v' w' hr) ⟨v', rfl, trivial, hst.growM hm ⟨hg.os, hg.tape, hg.output, hg.size, fun j hj hs => hg.block j hj (fun e => hs e.symm)⟩ hbk hp⟩
 where
  run_append_owned_none' {w : World} (t ty e : TypeId) (i : TypeInfo) (size : Nat) (ht : P.underlying t = some (.slice e)) (hi : P.info? e = some i)
      (v : Value) (n : Nat) (xs : List Value) (hown : w.ownsRow 0 e size v n xs) (c : Nat) :
      (Builtin.append_ #[t, t] ty #[v, .slice none 0 c]).run P w = .ok v w := by
    rcases hown.2 with ⟨rfl, rfl⟩ | ⟨g, cap, cur, rfl, _, _, hnc, _⟩
    · simp [Builtin.append_, run_underlying ht, sizeOf, typeInfo, hi, Builtin.lenOf, Builtin.firstCells]
    · simp [Builtin.append_, run_underlying ht, sizeOf, typeInfo, hi, Builtin.lenOf, Builtin.firstCells, hnc, storeCells]
theorem fz_var {α : Type} {e : ERep α} {E b : Nat} {z : α} {w : World} (i : Nat) (h : St we Se ms Γ w) (hm : ms[i]? = some (mB e.c E b z)) :
    St we Se (ms.eraseIdx i) (fP e z (.pointer (some ⟨b, 0, none⟩)) :: Γ) w :=
  h.freeze hm fun S S' hs hb hp => mB_ptr hs (hb b rfl) hp
theorem fz_own {α : Type} {e : ERep α} {E : Nat} {v : Value} {xs : List α} {w : World} (i : Nat) (h : St we Se ms Γ w) (hm : ms[i]? = some (mO e E v xs)) :
    St we Se (ms.eraseIdx i) (fV (eS e) xs v :: Γ) w :=
  h.freeze hm fun S S' hs hb hp => mO_slice hs hb hp
theorem row_own {α : Type} {e : ERep α} {E b : Nat} {xs : List α} {n : Nat} {w : World} (i : Nat) (h : St we Se ms Γ w) (hm : ms[i]? = some (mR e E b xs)) (hn : n = xs.length) (hcm : xs.length ≤ 9223372036854775807) :
    St we Se (ms.set i (mO e E (.slice (some ⟨b, 0, none⟩) n n) xs)) Γ w :=
  h.conv hm rfl fun S ⟨cs, hg, he⟩ => by
    subst hn
    have hl : cs.size = xs.length * e.n := by have := Elems.len (e := e) he; simpa using this
    refine ⟨cs.toList, ⟨by simpa using hl, .inr ⟨b, xs.length, cs, rfl, Nat.zero_le _, hg, Nat.le_refl _, by unfold maxLen; omega, hl, ?_⟩⟩, he⟩
    rw [List.take_of_length_le (by simp [hl])]
end
end
section
theorem beq_no {a b : Nat} (h : a ≠ b) : Nat.beq a b = false := by grind [Nat.beq, Nat.eq_of_beq_eq_true]
theorem blt_no {a b : Nat} (h : b ≤ a) : Nat.blt a b = false := by
  cases hb : Nat.blt a b
  · rfl
  · have := Nat.le_of_ble_eq_true hb; omega
structure Pr where
  p : (Nat → Prop) → Value → World → Prop
  keepS : ∀ {S : Nat → Prop} {v : Value} {w w' : World}, p S v w → Keeps S w w' → p S v w'
  sub : ∀ {S S' : Nat → Prop} {v : Value} {w : World}, p S v w → (∀ k, k < w.heap.size → S k → S' k) → p S' v w
theorem Pr.keep (Φ : Pr) {S : Nat → Prop} {v : Value} {w w' : World} (h : Φ.p S v w) (x : Ext w w') : Φ.p S v w' := Φ.keepS h x.to
def prV (v : Value) : Pr where
  p _ u _ := u = v
  keepS h _ := h
  sub h _ := h
def addK (d : Option Tmp) (Φ : Pr) (K : List (Tmp × Pr)) : List (Tmp × Pr) := match d with
  | some d => (d, Φ) :: K
  | none => K
def holdK (K : List (Tmp × Pr)) (env0 env : Env) (S : Nat → Prop) (w : World) (t : Tmp) : Prop := match K.find? (fun x => Nat.beq x.1 t) with
  | some x => x.2.p S (env t) w
  | none => env t = env0 t
def HoldL (K : List (Tmp × Pr)) (env0 env : Env) (S : Nat → Prop) (w : World) : List Tmp → Prop
  | [] => True
  | t :: ts => holdK K env0 env S w t ∧ HoldL K env0 env S w ts
def Ob (P : Program) (ops : Array Oper) (ms : List MF) (Γ : List FF) (env0 : Env) (K : List (Tmp × Pr)) (o : Oper) (Φ : Pr) : Prop :=
  ∀ (S : Nat → Prop) (w : World) (env : Env), Tl w S → AllM S ms w → All S Γ w → HoldL K env0 env S w (o.looksAt ops) →
    (wantedE ops env o = true → OpR P o env w (fun v w' => Ext w w' ∧ Φ.p S v w')) ∧ (wantedE ops env o = false → Φ.p S undef w)
def Obs (P : Program) (ops : Array Oper) (ms : List MF) (Γ : List FF) (env0 : Env) : List (Oper × Pr) → List (Tmp × Pr) → Prop
  | [], _ => True
  | (o, Φ) :: r, K => Ob P ops ms Γ env0 K o Φ ∧ Obs P ops ms Γ env0 r (addK o.dst Φ K)
def Kof : List (Oper × Pr) → List (Tmp × Pr) → List (Tmp × Pr)
  | [], K => K
  | (o, Φ) :: r, K => Kof r (addK o.dst Φ K)
def edgeB (o : Oper) (i : Nat) : Bool := o.after.toList.any fun e => Region.binds .any e && Nat.beq e.on i
def opAt (l : List Oper) (i : Nat) : Oper := l.getD i default
def drawOK (l : List Oper) (m : Nat) : Bool := Nat.ble m l.length && (List.range l.length).all fun j =>
  ((opAt l j).after.toList.all fun e => !Region.binds .any e || Nat.blt e.on j) &&
  (bif Nat.blt j m then (List.range m).all fun i => Nat.beq i j || (match (opAt l i).dst with
      | some t => !((Oper.looksAt l.toArray (opAt l j)).contains t || (opAt l j).dst == some t) || (bif Nat.blt i j then edgeB (opAt l j) i else edgeB (opAt l i) j)
      | none => true)
    else (List.range j).all fun k => edgeB (opAt l j) k)
def reachB (l : List Oper) : Nat → Nat → Nat → Bool
  | 0, i, k => edgeB (opAt l i) k
  | f + 1, i, k => edgeB (opAt l i) k || (opAt l i).after.toList.any fun e => Region.binds .any e && reachB l f e.on k
def drawOK2 (l : List Oper) (m : Nat) : Bool := Nat.ble m l.length && (List.range l.length).all fun j =>
  ((opAt l j).after.toList.all fun e => !Region.binds .any e || Nat.blt e.on j) &&
  (bif Nat.blt j m then (List.range m).all fun i => Nat.beq i j || (match (opAt l i).dst with
      | some t => !((Oper.looksAt l.toArray (opAt l j)).contains t || (opAt l j).dst == some t) || (bif Nat.blt i j then edgeB (opAt l j) i else edgeB (opAt l i) j)
      | none => true)
    else bif Nat.beq j m then (List.range m).all fun k => reachB l 16 m k else edgeB (opAt l j) (j - 1))
section
variable {l : List Oper} {m : Nat}
theorem edge_of {o : Oper} {i : Nat} (h : edgeB o i = true) : ∃ e ∈ o.after, Region.binds .any e = true ∧ e.on = i := by
  unfold edgeB at h
  rw [List.any_eq_true] at h
  obtain ⟨e, he, hb⟩ := h
  rw [Bool.and_eq_true] at hb
  exact ⟨e, Array.mem_toList_iff.1 he, hb.1, Nat.eq_of_beq_eq_true hb.2⟩
theorem draw_parts (h : drawOK l m = true) : m ≤ l.length ∧
    (∀ j, j < l.length → ∀ e ∈ (opAt l j).after, Region.binds .any e = true → e.on < j) ∧
    (∀ j i t, j < m → i < m → i ≠ j → (opAt l i).dst = some t → (t ∈ Oper.looksAt l.toArray (opAt l j) ∨ (opAt l j).dst = some t) → (i < j → edgeB (opAt l j) i = true) ∧ (j < i → edgeB (opAt l i) j = true)) ∧
    (∀ j, m ≤ j → j < l.length → ∀ k, k < j → edgeB (opAt l j) k = true) := by
  unfold drawOK at h
  rw [Bool.and_eq_true, List.all_eq_true] at h
  obtain ⟨h0, h1⟩ := h
  have h0' := Nat.le_of_ble_eq_true h0
  refine ⟨h0', fun j hj e he hb => ?_, fun j i t hj hi hne ht hl => ?_, fun j hmj hj k hk => ?_⟩
  · have := h1 j (List.mem_range.2 hj)
    rw [Bool.and_eq_true, List.all_eq_true] at this
    have := this.1 e (Array.mem_toList_iff.2 he)
    rw [hb] at this
    simpa using this
  · have := h1 j (List.mem_range.2 (by omega))
    rw [Bool.and_eq_true] at this
    have h2 := this.2
    rw [show Nat.blt j m = true by simpa using hj, cond_true, List.all_eq_true] at h2
    have h3 := h2 i (List.mem_range.2 hi)
    rw [beq_no hne, Bool.false_or, ht] at h3
    have h4 : ((Oper.looksAt l.toArray (opAt l j)).contains t || (opAt l j).dst == some t) = true := by
      rw [Bool.or_eq_true]
      rcases hl with hl | hl
      · left; simpa using hl
      · right; simp [hl]
    simp only [h4, Bool.not_true, Bool.false_or] at h3
    constructor
    · intro hij
      rwa [show Nat.blt i j = true by simpa using hij, cond_true] at h3
    · intro hji
      rwa [blt_no (by omega), cond_false] at h3
  · have := h1 j (List.mem_range.2 hj)
    rw [Bool.and_eq_true] at this
    have h2 := this.2
    rw [blt_no hmj, cond_false, List.all_eq_true] at h2
    exact h2 k (List.mem_range.2 hk)
theorem draw_parts2 (h : drawOK2 l m = true) : m ≤ l.length ∧
    (∀ j, j < l.length → ∀ e ∈ (opAt l j).after, Region.binds .any e = true → e.on < j) ∧
    (∀ j i t, j < m → i < m → i ≠ j → (opAt l i).dst = some t → (t ∈ Oper.looksAt l.toArray (opAt l j) ∨ (opAt l j).dst = some t) → (i < j → edgeB (opAt l j) i = true) ∧ (j < i → edgeB (opAt l i) j = true)) ∧
    (∀ j, m < j → j < l.length → edgeB (opAt l j) (j - 1) = true) ∧ (m < l.length → ∀ k, k < m → reachB l 16 m k = true) := by
  unfold drawOK2 at h
  rw [Bool.and_eq_true, List.all_eq_true] at h
  obtain ⟨h0, h1⟩ := h
  have h0' := Nat.le_of_ble_eq_true h0
  refine ⟨h0', fun j hj e he hb => ?_, fun j i t hj hi hne ht hl => ?_, fun j hmj hj => ?_, fun hm k hk => ?_⟩
  · have := h1 j (List.mem_range.2 hj)
    rw [Bool.and_eq_true, List.all_eq_true] at this
    have := this.1 e (Array.mem_toList_iff.2 he)
    rw [hb] at this
    simpa using this
  · have := h1 j (List.mem_range.2 (by omega))
    rw [Bool.and_eq_true] at this
    have h2 := this.2
    rw [show Nat.blt j m = true by simpa using hj, cond_true, List.all_eq_true] at h2
    have h3 := h2 i (List.mem_range.2 hi)
    rw [beq_no hne, Bool.false_or, ht] at h3
    have h4 : ((Oper.looksAt l.toArray (opAt l j)).contains t || (opAt l j).dst == some t) = true := by
      rw [Bool.or_eq_true]
      rcases hl with hl | hl
      · left; simpa using hl
      · right; simp [hl]
    simp only [h4, Bool.not_true, Bool.false_or] at h3
    constructor
    · intro hij
      rwa [show Nat.blt i j = true by simpa using hij, cond_true] at h3
    · intro hji
      rwa [blt_no (by omega), cond_false] at h3
  · have := h1 j (List.mem_range.2 hj)
    rw [Bool.and_eq_true] at this
    have h2 := this.2
    rw [blt_no (by omega), cond_false, beq_no (by omega), cond_false] at h2
    exact h2
  · have := h1 m (List.mem_range.2 hm)
    rw [Bool.and_eq_true] at this
    have h2 := this.2
    rw [blt_no (Nat.le_refl m), cond_false, Nat.beq_refl, cond_true, List.all_eq_true] at h2
    exact h2 k (List.mem_range.2 hk)
theorem reach_listed {listed : Array Bool} (hdown : ∀ i, i < l.length → listed.getD i false = true → ∀ e ∈ (opAt l i).after, Region.binds .any e = true → listed.getD e.on false = true)
    (h1 : ∀ j, j < l.length → ∀ e ∈ (opAt l j).after, Region.binds .any e = true → e.on < j) : ∀ (f i k : Nat), i < l.length → (∀ e ∈ (opAt l i).after, Region.binds .any e = true → listed.getD e.on false = true) → reachB l f i k = true → listed.getD k false = true
  | 0, i, k, hi, hd, h => by
    obtain ⟨e, he, hb, hon⟩ := edge_of h
    have := hd e he hb
    rwa [hon] at this
  | f + 1, i, k, hi, hd, h => by
    unfold reachB at h
    rw [Bool.or_eq_true] at h
    rcases h with h | h
    · obtain ⟨e, he, hb, hon⟩ := edge_of h
      have := hd e he hb
      rwa [hon] at this
    · rw [List.any_eq_true] at h
      obtain ⟨e, he, hx⟩ := h
      rw [Bool.and_eq_true] at hx
      have he' := Array.mem_toList_iff.1 he
      have hlt := h1 i hi e he' hx.1
      exact reach_listed hdown h1 f e.on k (by omega) (hdown e.on (by omega) (hd e he' hx.1)) hx.2
theorem opAt_eq {i : Nat} (h : i < l.length) : l.toArray[i]? = some (opAt l i) := by
  simp [opAt, h]
end
theorem nil_fV {α : Type} {e : ERep α} {S : Nat → Prop} {w : World} : (fV (eS e) [] (.slice none 0 0)).p S w := fV_slice.2 SlP.nil
theorem getD_some {α : Type} {l : List α} {k : Nat} (z : α) (h : k < l.length) : l[k]? = some (l.getD k z) := by grind [List.getElem?_eq_getElem]
def Limbs (l : List Nat) : Prop := ∀ x ∈ l, x < 18446744073709551616
theorem Kof_find (t : Tmp) : ∀ (r : List (Oper × Pr)) (K : List (Tmp × Pr)),
    (∃ (i : Nat) (x : Oper × Pr), r[i]? = some x ∧ x.1.dst = some t ∧ (∀ (i' : Nat) (x' : Oper × Pr), r[i']? = some x' → x'.1.dst = some t → i' ≤ i) ∧ (Kof r K).find? (fun y => Nat.beq y.1 t) = some (t, x.2)) ∨
    ((∀ (i : Nat) (x : Oper × Pr), r[i]? = some x → x.1.dst ≠ some t) ∧ (Kof r K).find? (fun y => Nat.beq y.1 t) = K.find? (fun y => Nat.beq y.1 t))
  | [], K => .inr ⟨fun i x h => by simp at h, rfl⟩
  | (o, Φ) :: r, K => by
    rcases Kof_find t r (addK o.dst Φ K) with ⟨i, x, h1, h2, h3, h4⟩ | ⟨h1, h2⟩
    · refine .inl ⟨i + 1, x, by simpa using h1, h2, fun i' x' hx' hd => ?_, h4⟩
      cases i' with
      | zero => omega
      | succ i' => have := h3 i' x' (by simpa using hx') hd; omega
    · by_cases hd : o.dst = some t
      · refine .inl ⟨0, (o, Φ), rfl, hd, fun i' x' hx' hd' => ?_, ?_⟩
        · cases i' with
          | zero => omega
          | succ i' => exact absurd hd' (h1 i' x' (by simpa using hx'))
        · show (Kof r (addK o.dst Φ K)).find? _ = _
          rw [h2, hd]
          simp [addK]
      · refine .inr ⟨fun i x hx => ?_, ?_⟩
        · cases i with
          | zero => simp at hx; subst hx; exact hd
          | succ i => exact h1 i x (by simpa using hx)
        · show (Kof r (addK o.dst Φ K)).find? _ = _
          rw [h2]
          cases hdd : o.dst with
          | none => rfl
          | some d =>
            have : Nat.beq d t = false := beq_no fun e => hd (by rw [hdd, e])
            simp [addK, this]
theorem Obs_get {P : Program} {ops : Array Oper} {ms : List MF} {Γ : List FF} {env0 : Env} : ∀ (r : List (Oper × Pr)) (K : List (Tmp × Pr)) (i : Nat) (x : Oper × Pr), Obs P ops ms Γ env0 r K → r[i]? = some x → Ob P ops ms Γ env0 (Kof (r.take i) K) x.1 x.2
  | [], _, _, _, _, h => by simp at h
  | (o, Φ) :: r, K, 0, x, h, hx => by simp at hx; subst hx; exact h.1
  | (o, Φ) :: r, K, i + 1, x, h, hx => by
    have := Obs_get r (addK o.dst Φ K) i x h.2 (by simpa using hx)
    simpa [Kof] using this
theorem HoldL_of {K : List (Tmp × Pr)} {env0 env : Env} {S : Nat → Prop} {w : World} : ∀ (ts : List Tmp), (∀ t ∈ ts, holdK K env0 env S w t) → HoldL K env0 env S w ts
  | [], _ => trivial
  | t :: ts, h => ⟨h t (List.mem_cons_self ..), HoldL_of ts fun u hu => h u (List.mem_cons_of_mem _ hu)⟩
theorem count_set {listed : Array Bool} {i : Nat} (hi : i < listed.size) (hu : listed.getD i true = false) : ∀ (r : List Nat),
    (r.countP fun k => !(listed.setIfInBounds i true).getD k true) ≤ (r.countP fun k => !listed.getD k true) ∧
    (i ∈ r → (r.countP fun k => !(listed.setIfInBounds i true).getD k true) < (r.countP fun k => !listed.getD k true))
  | [] => ⟨Nat.le_refl _, fun h => by cases h⟩
  | k :: r => by
    have ih := count_set hi hu r
    rw [List.countP_cons, List.countP_cons]
    by_cases hk : i = k
    · subst hk
      have e1 : (listed.setIfInBounds i true).getD i true = true := by simp [hi]
      simp only [e1, hu, Bool.not_true, Bool.not_false, if_true, Bool.false_eq_true, if_false]
      exact ⟨by omega, fun _ => by omega⟩
    · rw [getD_set_ne true hk]
      refine ⟨by omega, fun h => ?_⟩
      have := ih.2 ((List.mem_cons.1 h).resolve_left hk)
      omega
section
variable {P : Program} {N : Nd} {we : World} {Se : Nat → Prop} {ms : List MF} {Γ : List FF} {Q : Qs} {env0 : Env} {l : List Oper} {m : Nat}
theorem any_tail (hc : drawOK l m = true) {Q' : Exit → Act → World → Prop} : ∀ (fuel j : Nat) (listed : Array Bool) (a : Act) (w : World), m ≤ j → j ≤ l.length → l.length - j ≤ fuel → listed.size = l.length →
    (∀ k, k < l.length → listed.getD k true = decide (k < j)) → wpListIn N.F 0 P l.toArray Q' (l.drop j) a w → wpAnyIn N.F 0 P .any l.toArray Q' fuel listed a w := by
  obtain ⟨h0, h1, h2, h3⟩ := draw_parts hc
  have hready : ∀ (j : Nat) (listed : Array Bool), m ≤ j → j ≤ l.length → listed.size = l.length → (∀ k, k < l.length → listed.getD k true = decide (k < j)) → ∀ i, i ∈ Region.ready .any l.toArray listed → i = j := by
    intro j listed hmj hjl hsz hli i hi
    obtain ⟨hu, o, ho, hall⟩ := mem_ready.1 hi
    have hil : i < l.length := by simpa using (Array.getElem?_eq_some_iff.1 ho).1
    rw [hli i hil] at hu
    have hij : j ≤ i := by simpa using hu
    rw [opAt_eq hil] at ho
    cases ho
    rcases Nat.lt_or_ge j i with hlt | hge
    · obtain ⟨e, he, hb, hon⟩ := edge_of (h3 i (by omega) hil j hlt)
      have hl := hall e he hb
      rw [hon] at hl
      have hj := hli j (by omega)
      have hjs : j < listed.size := by omega
      simp only [Array.getD_eq_getD_getElem?, Array.getElem?_eq_getElem hjs, Option.getD_some] at hl hj
      rw [hl] at hj
      simp at hj
    · omega
  intro fuel
  induction fuel with
  | zero =>
    intro j listed a w hmj hjl hf hsz hli hw
    have : j = l.length := by omega
    subst this
    refine ⟨?_, by simpa [wpListIn] using hw⟩
    cases hr : Region.ready .any l.toArray listed with
    | nil => rfl
    | cons i r =>
      have hi : i ∈ Region.ready .any l.toArray listed := by rw [hr]; exact List.mem_cons_self ..
      have h4 := hready _ listed hmj hjl hsz hli i hi
      obtain ⟨hu, o, ho, _⟩ := mem_ready.1 hi
      have := (Array.getElem?_eq_some_iff.1 ho).1
      simp at this
      omega
  | succ fuel ih =>
    intro j listed a w hmj hjl hf hsz hli hw
    rcases Nat.lt_or_ge j l.length with hlt | hge
    · have hjr : j ∈ Region.ready .any l.toArray listed := by
        refine mem_ready.2 ⟨by rw [hli j hlt]; simp, opAt l j, opAt_eq hlt, fun e he hb => ?_⟩
        have := h1 j hlt e he hb
        have hl := hli e.on (by omega)
        have hes : e.on < listed.size := by omega
        simp only [Array.getD_eq_getD_getElem?, Array.getElem?_eq_getElem hes, Option.getD_some] at hl ⊢
        rw [hl]; simpa using this
      refine ⟨fun h => (by rw [h] at hjr; cases hjr), fun i hi => ?_⟩
      have := hready j listed hmj hjl hsz hli i hi
      subst this
      rw [List.drop_eq_getElem_cons hlt] at hw
      have hop : l[i] = opAt l i := by simp [opAt, hlt]
      unfold wpListIn at hw
      unfold wpOpIn
      rw [opAt_eq hlt]
      simp only [← hop]
      have next : ∀ a w, wpListIn N.F 0 P l.toArray Q' (l.drop (i + 1)) a w → wpAnyIn N.F 0 P .any l.toArray Q' fuel (listed.setIfInBounds i true) a w := fun a w h =>
        ih (i + 1) _ a w (by omega) (by omega) (by omega) (by simpa using hsz) (fun k hk => by
          by_cases hki : i = k
          · subst hki; have : i < listed.size := by omega
            simp [this]
          · rw [getD_set_ne true hki, hli k hk]
            simp only [decide_eq_decide]; omega) h
      split
      · rename_i hwnt
        rw [if_pos hwnt] at hw
        exact Oper.wpIn_mono next hw
      · rename_i hwnt
        rw [if_neg hwnt] at hw
        exact ⟨hw.1, next _ _ hw.2⟩
    · have : j = l.length := by omega
      subst this
      refine ⟨fun _ => by simpa [wpListIn] using hw, fun i hi => ?_⟩
      have h4 := hready _ listed hmj hjl hsz hli i hi
      obtain ⟨hu, o, ho, _⟩ := mem_ready.1 hi
      have := (Array.getElem?_eq_some_iff.1 ho).1
      simp at this
      omega
theorem any_tail2 (hc : drawOK2 l m = true) {Q' : Exit → Act → World → Prop} : ∀ (fuel j : Nat) (listed : Array Bool) (a : Act) (w : World), m ≤ j → j ≤ l.length → l.length - j ≤ fuel → listed.size = l.length →
    (∀ k, k < l.length → listed.getD k true = decide (k < j)) → wpListIn N.F 0 P l.toArray Q' (l.drop j) a w → wpAnyIn N.F 0 P .any l.toArray Q' fuel listed a w := by
  obtain ⟨h0, h1, h2, h3, _⟩ := draw_parts2 hc
  have hready : ∀ (j : Nat) (listed : Array Bool), m ≤ j → j ≤ l.length → listed.size = l.length → (∀ k, k < l.length → listed.getD k true = decide (k < j)) → ∀ i, i ∈ Region.ready .any l.toArray listed → i = j := by
    intro j listed hmj hjl hsz hli i hi
    obtain ⟨hu, o, ho, hall⟩ := mem_ready.1 hi
    have hil : i < l.length := by simpa using (Array.getElem?_eq_some_iff.1 ho).1
    rw [hli i hil] at hu
    have hij : j ≤ i := by simpa using hu
    rw [opAt_eq hil] at ho
    cases ho
    rcases Nat.lt_or_ge j i with hlt | hge
    · obtain ⟨e, he, hb, hon⟩ := edge_of (h3 i (by omega) hil)
      have hl := hall e he hb
      rw [hon] at hl
      have hj := hli (i - 1) (by omega)
      have hjs : i - 1 < listed.size := by omega
      simp only [Array.getD_eq_getD_getElem?, Array.getElem?_eq_getElem hjs, Option.getD_some] at hl hj
      rw [hl] at hj
      simp at hj
      omega
    · omega
  intro fuel
  induction fuel with
  | zero =>
    intro j listed a w hmj hjl hf hsz hli hw
    have : j = l.length := by omega
    subst this
    refine ⟨?_, by simpa [wpListIn] using hw⟩
    cases hr : Region.ready .any l.toArray listed with
    | nil => rfl
    | cons i r =>
      have hi : i ∈ Region.ready .any l.toArray listed := by rw [hr]; exact List.mem_cons_self ..
      have h4 := hready _ listed hmj hjl hsz hli i hi
      obtain ⟨hu, o, ho, _⟩ := mem_ready.1 hi
      have := (Array.getElem?_eq_some_iff.1 ho).1
      simp at this
      omega
  | succ fuel ih =>
    intro j listed a w hmj hjl hf hsz hli hw
    rcases Nat.lt_or_ge j l.length with hlt | hge
    · have hjr : j ∈ Region.ready .any l.toArray listed := by
        refine mem_ready.2 ⟨by rw [hli j hlt]; simp, opAt l j, opAt_eq hlt, fun e he hb => ?_⟩
        have := h1 j hlt e he hb
        have hl := hli e.on (by omega)
        have hes : e.on < listed.size := by omega
        simp only [Array.getD_eq_getD_getElem?, Array.getElem?_eq_getElem hes, Option.getD_some] at hl ⊢
        rw [hl]; simpa using this
      refine ⟨fun h => (by rw [h] at hjr; cases hjr), fun i hi => ?_⟩
      have := hready j listed hmj hjl hsz hli i hi
      subst this
      rw [List.drop_eq_getElem_cons hlt] at hw
      have hop : l[i] = opAt l i := by simp [opAt, hlt]
      unfold wpListIn at hw
      unfold wpOpIn
      rw [opAt_eq hlt]
      simp only [← hop]
      have next : ∀ a w, wpListIn N.F 0 P l.toArray Q' (l.drop (i + 1)) a w → wpAnyIn N.F 0 P .any l.toArray Q' fuel (listed.setIfInBounds i true) a w := fun a w h =>
        ih (i + 1) _ a w (by omega) (by omega) (by omega) (by simpa using hsz) (fun k hk => by
          by_cases hki : i = k
          · subst hki; have : i < listed.size := by omega
            simp [this]
          · rw [getD_set_ne true hki, hli k hk]
            simp only [decide_eq_decide]; omega) h
      split
      · rename_i hwnt
        rw [if_pos hwnt] at hw
        exact Oper.wpIn_mono next hw
      · rename_i hwnt
        rw [if_neg hwnt] at hw
        exact ⟨hw.1, next _ _ hw.2⟩
    · have : j = l.length := by omega
      subst this
      refine ⟨fun _ => by simpa [wpListIn] using hw, fun i hi => ?_⟩
      have h4 := hready _ listed hmj hjl hsz hli i hi
      obtain ⟨hu, o, ho, _⟩ := mem_ready.1 hi
      have := (Array.getElem?_eq_some_iff.1 ho).1
      simp at this
      omega
theorem T_draw {id : Nat} (m : Nat) (Φs : List Pr) (ts : List Tmp) (hm : P.follows .mixedOrders = true) (hc : drawOK2 l m = true) (hl : Φs.length = m) (hd : (l.all fun o => okDst N.n o.dst) = true)
    (hobs : Obs P l.toArray ms Γ env0 ((l.take m).zip Φs) [])
    (fin : ∀ (S : Nat → Prop) (w : World) (env : Env), Tl w S → All S Γ w → HoldL (Kof ((l.take m).zip Φs) []) env0 env S w ts →
      ∃ Γ' live, All S Γ' w ∧ agree env live ∧ ∀ rest, TL P N we Se ms Γ' l.toArray (l.drop m) Q (L live rest)) :
    T P N we Se ms Γ (.region id l.toArray true) Q env0 := by
  intro w0 hst a0 ha1 ha2 ha3
  obtain ⟨h0, h1, h2, h3, h3'⟩ := draw_parts2 hc
  obtain ⟨s1, s2, s3, S, s4, s5, s6, s7, s8⟩ := hst
  have mk : ∀ w' Δ, Ext w0 w' → All S Δ w' → St we Se ms Δ w' := fun w' Δ x hΔ =>
    ⟨s1.trans x, s2, s3, S, s4, fun k hk => s5 k (Nat.le_trans x.size hk), s6, AllM.keep x.to (fun m hm i hi => x.block i (AllM.lt s7 m hm i hi) trivial) s7, hΔ⟩
  have hpl : ((l.take m).zip Φs).length = m := by simp; omega
  have hpre : ∀ i, i < m → ∃ Φ, ((l.take m).zip Φs)[i]? = some (opAt l i, Φ) := fun i hi => by
    have hil : i < l.length := by omega
    refine ⟨Φs[i]'(by omega), ?_⟩
    rw [List.getElem?_zip_eq_some]
    refine ⟨?_, by simp⟩
    rw [List.getElem?_take, if_pos hi]
    simp [opAt, hil]
  have hpre' : ∀ i x, ((l.take m).zip Φs)[i]? = some x → i < m ∧ x.1 = opAt l i := fun i x hx => by
    have hi : i < m := by have := (List.getElem?_eq_some_iff.1 hx).1; omega
    obtain ⟨Φ, h⟩ := hpre i hi
    rw [h] at hx; cases hx; exact ⟨hi, rfl⟩
  refine wpIn_region_any hm ?_
  have key : ∀ (fuel : Nat) (listed : Array Bool) (a : Act) (w : World), (List.range l.length).countP (fun k => !listed.getD k true) ≤ fuel → listed.size = l.length → a.tmps.size = N.n → a.defers = N.ds → Ext w0 w →
      (∀ i, m ≤ i → i < l.length → listed.getD i true = false) →
      (∀ i, i < l.length → listed.getD i false = true → ∀ e ∈ (opAt l i).after, Region.binds .any e = true → listed.getD e.on false = true) →
      (∀ t, ((∀ i, i < m → listed.getD i false = true → (opAt l i).dst ≠ some t) ∧ envOf a t = env0 t) ∨
        ∃ i Φ, i < m ∧ listed.getD i false = true ∧ ((l.take m).zip Φs)[i]? = some (opAt l i, Φ) ∧ (opAt l i).dst = some t ∧ (∀ i', i' < m → listed.getD i' false = true → (opAt l i').dst = some t → i' ≤ i) ∧ Φ.p S (envOf a t) w) →
      wpAnyIn N.F 0 P .any l.toArray (lift N Q) fuel listed a w := by
    intro fuel
    induction fuel with
    | zero =>
      intro listed a w hcnt hsz b1 b2 x htail hdown hslots
      have hall : ∀ k, k < l.length → listed.getD k true = true := fun k hk => by
        have hz : (List.range l.length).countP (fun k => !listed.getD k true) = 0 := by omega
        rw [List.countP_eq_zero] at hz
        have := hz k (List.mem_range.2 hk)
        simpa using this
      have hml : m = l.length := by
        rcases Nat.lt_or_ge m l.length with hlt | hge
        · have h5 := htail m (Nat.le_refl _) hlt; rw [hall m hlt] at h5; cases h5
        · omega
      have hxs := All.keep x.to s8
      obtain ⟨Γ', live, f1, f2, f3⟩ := fin S w (envOf a) (s2.at (s1.trans x) fun k hk => s5 k (Nat.le_trans x.size hk)) hxs (HoldL_of ts fun t _ => holds hpre hpre' hslots (fun i hi => by
        have h6 := hall i (by omega); rwa [getD_eq (by omega : i < listed.size)] at h6))
      refine any_tail2 hc 0 m listed a w (Nat.le_refl _) h0 (by omega) hsz (fun k hk => by rw [hall k hk]; simp; omega) ?_
      exact f3 (envOf a) w (mk w Γ' x f1) a b1 b2 (L_agree f2).symm
    | succ fuel ih =>
      intro listed a w hcnt hsz b1 b2 x htail hdown hslots
      by_cases hall : ∀ k, k < m → listed.getD k true = true
      · have hxs := All.keep x.to s8
        obtain ⟨Γ', live, f1, f2, f3⟩ := fin S w (envOf a) (s2.at (s1.trans x) fun k hk => s5 k (Nat.le_trans x.size hk)) hxs (HoldL_of ts fun t _ => holds hpre hpre' hslots (fun i hi => by
          have h6 := hall i hi; rwa [getD_eq (by omega : i < listed.size)] at h6))
        have hli : ∀ k, k < l.length → listed.getD k true = decide (k < m) := fun k hk => by
          by_cases hkm : k < m
          · rw [hall k hkm]; simp [hkm]
          · rw [htail k (by omega) hk]; simp [hkm]
        refine any_tail2 hc (fuel + 1) m listed a w (Nat.le_refl _) h0 (Nat.le_trans ?_ hcnt) hsz hli ?_
        · rw [show (List.range l.length).countP (fun k => !listed.getD k true) = (List.range l.length).countP (fun k => !decide (k < m)) from List.countP_congr fun k hk => by rw [hli k (List.mem_range.1 hk)]]
          exact count_ge m l.length
        · exact f3 (envOf a) w (mk w Γ' x f1) a b1 b2 (L_agree f2).symm
      · have hex : ∃ k, k < m ∧ listed.getD k true = false := by
          by_cases hh : ∃ k, k < m ∧ listed.getD k true = false
          · exact hh
          · exact absurd (fun k hk => by
              cases hb : listed.getD k true
              · exact absurd ⟨k, hk, hb⟩ hh
              · rfl) hall
        refine ⟨fun hr => ?_, fun i hi => ?_⟩
        · exfalso
          obtain ⟨k, hk, hku, hmin⟩ := first_un hex
          have : k ∈ Region.ready .any l.toArray listed := mem_ready.2 ⟨hku, opAt l k, opAt_eq (by omega), fun e he hb => by
            have h5 := h1 k (by omega) e he hb
            have h6 := hmin e.on h5
            rwa [getD_eq (by omega : e.on < listed.size)] at h6⟩
          rw [hr] at this; cases this
        · obtain ⟨hu, o, ho, hedge⟩ := mem_ready.1 hi
          have hil : i < l.length := by simpa using (Array.getElem?_eq_some_iff.1 ho).1
          rw [opAt_eq hil] at ho
          cases ho
          have him : i < m := by
            rcases Nat.lt_or_ge i m with h | h
            · exact h
            · exfalso
              by_cases hmi : m = i
              · subst hmi
                obtain ⟨k, hk, hku⟩ := hex
                have h6 := reach_listed hdown h1 16 m k hil hedge (h3' hil k hk)
                rw [← getD_eq (by omega : k < listed.size), hku] at h6
                cases h6
              · obtain ⟨e, he, hb, hon⟩ := edge_of (h3 i (by omega) hil)
                have h6 := hedge e he hb
                rw [hon, ← getD_eq (by omega : i - 1 < listed.size), htail (i - 1) (by omega) (by omega)] at h6
                cases h6
          obtain ⟨Φ, hΦ⟩ := hpre i him
          have hob := Obs_get _ [] i _ hobs hΦ
          have hlast : ∀ t, (t ∈ Oper.looksAt l.toArray (opAt l i) ∨ (opAt l i).dst = some t) → ∀ j, j < m → (opAt l j).dst = some t → j ≠ i → (listed.getD j false = true ↔ j < i) := by
            intro t ht j hj hjt hne
            have h7 := h2 i j t him hj hne hjt ht
            constructor
            · intro hlj
              rcases Nat.lt_or_ge j i with h | h
              · exact h
              · exfalso
                obtain ⟨e, he, hb, hon⟩ := edge_of (h7.2 (by omega))
                have h8 := hdown j (by omega) hlj e he hb
                rw [hon, ← getD_eq (by omega : i < listed.size), hu] at h8
                cases h8
            · intro hji
              obtain ⟨e, he, hb, hon⟩ := edge_of (h7.1 hji)
              have h8 := hedge e he hb
              rwa [hon] at h8
          have hui : listed.getD i false = false := by rw [← getD_eq (by omega : i < listed.size)]; exact hu
          have hlook : HoldL (Kof (((l.take m).zip Φs).take i) []) env0 (envOf a) S w (Oper.looksAt l.toArray (opAt l i)) := by
            refine HoldL_of _ fun t ht => ?_
            have tk : ∀ (j : Nat) (y : Oper × Pr), (((l.take m).zip Φs).take i)[j]? = some y → j < i ∧ ((l.take m).zip Φs)[j]? = some y := fun j y hy => by
              rw [List.getElem?_take] at hy
              split at hy
              · exact ⟨by assumption, hy⟩
              · cases hy
            unfold holdK
            rcases Kof_find t (((l.take m).zip Φs).take i) [] with ⟨j, y, g1, g2, g3, g4⟩ | ⟨g1, g2⟩
            · rw [g4]
              obtain ⟨hji, hy⟩ := tk j y g1
              obtain ⟨hjm, hy1⟩ := hpre' j y hy
              rw [hy1] at g2
              have hlj := (hlast t (.inl ht) j hjm g2 (by omega)).2 hji
              rcases hslots t with ⟨f1, _⟩ | ⟨k, Φk, k1, k2, k3, k4, k5, k6⟩
              · exact absurd g2 (f1 j hjm hlj)
              · have hkj : k = j := by
                  have a1 := k5 j hjm hlj g2
                  have hki : k < i := (hlast t (.inl ht) k k1 k4 (fun e => by subst e; rw [hui] at k2; cases k2)).1 k2
                  have a2 := g3 k (opAt l k, Φk) (by rw [List.getElem?_take, if_pos hki]; exact k3) k4
                  omega
                subst hkj
                rw [k3] at hy
                cases hy
                exact k6
            · rw [g2]
              simp only [List.find?_nil]
              rcases hslots t with ⟨_, f2⟩ | ⟨k, Φk, k1, k2, k3, k4, k5, k6⟩
              · exact f2
              · exfalso
                have hki : k < i := (hlast t (.inl ht) k k1 k4 (fun e => by subst e; rw [hui] at k2; cases k2)).1 k2
                exact g1 k (opAt l k, Φk) (by rw [List.getElem?_take, if_pos hki]; exact k3) k4
          have hxs := All.keep x.to s8
          have hob' := hob S w (envOf a) (s2.at (s1.trans x) fun k hk => s5 k (Nat.le_trans x.size hk)) (AllM.keep x.to (fun m hm i hi => x.block i (AllM.lt s7 m hm i hi) trivial) s7) hxs hlook
          have hdi : okDst N.n (opAt l i).dst = true := by
            rw [List.all_eq_true] at hd
            refine hd _ ?_
            have : opAt l i = l[i] := by simp [opAt, hil]
            rw [this]; exact List.getElem_mem _
          have next : ∀ v w', Ext w w' → Φ.p S v w' → wpAnyIn N.F 0 P .any l.toArray (lift N Q) fuel (listed.setIfInBounds i true) (a.put (opAt l i).dst v) w' := by
            intro v w' x' hv
            have hisz : i < listed.size := by omega
            refine ih _ _ w' ?_ (by simpa using hsz) (by rw [size_put]; exact b1) (by rw [defers_put]; exact b2) (x.trans x') (fun k hmk hk => ?_) (fun k hk hlk e he hb => ?_) (fun t => ?_)
            · have := (count_set hisz hu (List.range l.length)).2 (List.mem_range.2 hil)
              omega
            · rw [getD_set_ne true (by omega)]; exact htail k hmk hk
            · by_cases hki : i = k
              · subst hki; exact getD_set_true (hedge e he hb)
              · rw [getD_set_ne false hki] at hlk; exact getD_set_true (hdown k hk hlk e he hb)
            · rw [envOf_put (by rw [b1]; exact okDst_lt hdi)]
              by_cases hdt : (opAt l i).dst = some t
              · right
                refine ⟨i, Φ, him, by simp [hisz], hΦ, hdt, fun j hj hlj hjt => ?_, ?_⟩
                · by_cases hji : i = j
                  · omega
                  · rw [getD_set_ne false hji] at hlj
                    have := (hlast t (.inr hdt) j hj hjt (by omega)).1 hlj
                    omega
                · rw [hdt]; simpa [put, L] using hv
              · have henv : put (envOf a) (opAt l i).dst v t = envOf a t := by
                  cases hdd : (opAt l i).dst with
                  | none => rfl
                  | some dd =>
                    have hne : ¬ t = dd := fun e => hdt (by rw [hdd, e])
                    have : Nat.beq t dd = false := beq_no hne
                    simp [put, L, this]
                rw [henv]
                rcases hslots t with ⟨f1, f2⟩ | ⟨k, Φk, k1, k2, k3, k4, k5, k6⟩
                · refine .inl ⟨fun j hj hlj => ?_, f2⟩
                  by_cases hji : i = j
                  · subst hji; exact hdt
                  · rw [getD_set_ne false hji] at hlj; exact f1 j hj hlj
                · refine .inr ⟨k, Φk, k1, getD_set_true k2, k3, k4, fun j hj hlj hjt => ?_, Φk.keep k6 x'⟩
                  by_cases hji : i = j
                  · subst hji; exact absurd hjt hdt
                  · rw [getD_set_ne false hji] at hlj; exact k5 j hj hlj hjt
          unfold wpOpIn
          rw [opAt_eq hil]
          simp only [wanted_eq]
          cases hwnt : wantedE l.toArray (envOf a) (opAt l i)
          · simp only [Bool.false_eq_true, if_false]
            exact ⟨fun _ _ => trivial, next undef w (Keeps.refl _ _) (hob'.2 hwnt)⟩
          · simp only [if_true]
            exact (hob'.1 hwnt).wp fun v w' hvw => next v w' hvw.1 hvw.2
  refine key l.toArray.size _ a0 _ ?_ (by simp) ha1 ha2 (Ext.drawn w0 _) (fun i hmi hi => by simp [hi]) (fun i hi hlt => ?_) (fun t => .inl ⟨fun i hi hlt => ?_, by rw [ha3]⟩)
  · exact Nat.le_trans (List.countP_le_length) (by simp)
  · have : i < (Array.replicate l.toArray.size false).size := by simpa using hi
    rw [← getD_eq this] at hlt; simp [hi] at hlt
  · have hil : i < l.length := by omega
    have : i < (Array.replicate l.toArray.size false).size := by simpa using hil
    rw [← getD_eq this] at hlt; simp [hil] at hlt
 where
  getD_eq {listed : Array Bool} {i : Nat} (h : i < listed.size) : listed.getD i true = listed.getD i false := by
    simp [Array.getD_eq_getD_getElem?, Array.getElem?_eq_getElem h]
  first_un {m : Nat} {listed : Array Bool} (h : ∃ k, k < m ∧ listed.getD k true = false) : ∃ k, k < m ∧ listed.getD k true = false ∧ ∀ j, j < k → listed.getD j true = true := by
    obtain ⟨k, hk, hu⟩ := h
    induction k using Nat.strongRecOn with
    | _ k ih =>
      by_cases hh : ∃ j, j < k ∧ listed.getD j true = false
      · obtain ⟨j, hj, hju⟩ := hh; exact ih j hj (by omega) hju
      · refine ⟨k, hk, hu, fun j hj => ?_⟩
        cases hb : listed.getD j true
        · exact absurd ⟨j, hj, hb⟩ hh
        · rfl
  count_ge (m : Nat) : ∀ n, n - m ≤ (List.range n).countP (fun k => !decide (k < m))
    | 0 => by simp
    | n + 1 => by
      have := count_ge m n
      rw [List.range_succ, List.countP_append]
      by_cases h : n < m
      · omega
      · simp [h]; omega
  holds {Φs : List Pr} {listed : Array Bool} {a : Act} {w : World} {S : Nat → Prop} {l : List Oper} {m : Nat} {env0 : Env} (hpre : ∀ i, i < m → ∃ Φ, ((l.take m).zip Φs)[i]? = some (opAt l i, Φ)) (hpre' : ∀ i x, ((l.take m).zip Φs)[i]? = some x → i < m ∧ x.1 = opAt l i)
      (hslots : ∀ t, ((∀ i, i < m → listed.getD i false = true → (opAt l i).dst ≠ some t) ∧ envOf a t = env0 t) ∨
        ∃ i Φ, i < m ∧ listed.getD i false = true ∧ ((l.take m).zip Φs)[i]? = some (opAt l i, Φ) ∧ (opAt l i).dst = some t ∧ (∀ i', i' < m → listed.getD i' false = true → (opAt l i').dst = some t → i' ≤ i) ∧ Φ.p S (envOf a t) w)
      (hall : ∀ i, i < m → listed.getD i false = true) {t : Tmp} : holdK (Kof ((l.take m).zip Φs) []) env0 (envOf a) S w t := by
    unfold holdK
    rcases Kof_find t ((l.take m).zip Φs) [] with ⟨j, y, g1, g2, g3, g4⟩ | ⟨g1, g2⟩
    · rw [g4]
      obtain ⟨hjm, hy1⟩ := hpre' j y g1
      rw [hy1] at g2
      rcases hslots t with ⟨f1, _⟩ | ⟨k, Φk, k1, k2, k3, k4, k5, k6⟩
      · exact absurd g2 (f1 j hjm (hall j hjm))
      · have hkj : k = j := by
          have a1 := k5 j hjm (hall j hjm) g2
          have a2 := g3 k (opAt l k, Φk) k3 k4
          omega
        subst hkj
        rw [k3] at g1
        cases g1
        exact k6
    · rw [g2]
      simp only [List.find?_nil]
      rcases hslots t with ⟨_, f2⟩ | ⟨k, Φk, k1, k2, k3, k4, k5, k6⟩
      · exact f2
      · exact absurd k4 (g1 k (opAt l k, Φk) k3)
end
end
section
theorem wu_addw {a b : Nat} : IntKind.u64.wrap ((a : Int) + (b : Int)) = (((a + b) % 18446744073709551616 : Nat) : Int) := by
  rw [← Int.natCast_add]; exact wu64 _
theorem wu_mulw {a b : Nat} : IntKind.u64.wrap ((a : Int) * (b : Int)) = (((a * b) % 18446744073709551616 : Nat) : Int) := by
  rw [← Int.natCast_mul]; exact wu64 _
theorem wu_subw {a b : Nat} (h : b ≤ 18446744073709551616) : IntKind.u64.wrap ((a : Int) - (b : Int)) = (((a + 18446744073709551616 - b) % 18446744073709551616 : Nat) : Int) := by
  rw [wu64_int]; omega
theorem wu_neg {a : Nat} (h : a < 18446744073709551616) : IntKind.u64.wrap (0 - (a : Int)) = (((18446744073709551616 - a) % 18446744073709551616 : Nat) : Int) := by
  rw [wu64_int]; omega
theorem n_quo_u64 {a b : Nat} (h : a < 18446744073709551616) : IntKind.u64.wrap ((a : Int).tdiv (b : Int)) = ((a / b : Nat) : Int) := by
  rw [show (a : Int).tdiv (b : Int) = ((a / b : Nat) : Int) from (Int.ofNat_tdiv a b).symm]
  exact wu64_in (Nat.lt_of_le_of_lt (Nat.div_le_self _ _) h)
theorem n_rem {a b : Nat} : (a : Int).tmod (b : Int) = ((a % b : Nat) : Int) := (Int.ofNat_tmod a b).symm
section
variable {P : Program} {N : Nd} {we : World} {Se : Nat → Prop} {ms : List MF} {Γ : List FF} {Q : Qs} {env : Env} {ops : Array Oper} {rest : List Oper}
  {d : Option Tmp} {ty yt t : TypeId} {pos : String} {aft : Array Edge} {g : Option (Nat × Bool)} {x y : Operand}
theorem r_len {et n cap : Nat} {ao : Option Addr} (hu : P.underlying t = some (.slice et)) (hx : ev env x = .slice ao n cap) (w : World) :
    (execOp (ev env) ⟨d, .call ⟨.builtin .len, #[x], #[t]⟩, ty, pos, aft, g⟩).run P w = .ok (.value (.int .i64 (n : Int))) w := by
  simp [execOp, resolve, invoke, builtin, hx, Builtin.len_, goInt, run_underlying hu]
theorem oe_lenM {α : Type} {e : ERep α} {E et : Nat} {v : Value} {xs : List α} (i : Nat) (hm : ms[i]? = some (mO e E v xs)) (hu : P.underlying t = some (.slice et)) (hx : ev env x = v) :
    OpE P ⟨d, .call ⟨.builtin .len, #[x], #[t]⟩, ty, pos, aft, g⟩ env ms Γ (fun _ : Unit => .int .i64 (xs.length : Int)) (fun _ => []) (fun _ => xs.length ≤ 9223372036854775807) := by
  intro w S _ hM _
  obtain ⟨cs, h1, h2⟩ := AllM.get hM hm
  rcases h1.2 with ⟨rfl, h0⟩ | ⟨g', cap, cur, rfl, hbg, hg, hnc, hcm, _⟩
  · refine OpR.of_value (r_len hu hx w) ⟨(), by rw [h0], by omega, Keeps.refl _ _, trivial⟩
  · exact OpR.of_value (r_len hu hx w) ⟨(), rfl, by unfold maxLen at hcm; omega, Keeps.refl _ _, trivial⟩
end
end
section
theorem run_ext {P : Program} {f : FuncId} {fn : Func} {e : Array Value → Sem Value} {args : Array Value} {w : World} {v : Value} (hf : P.funcs[f]? = some fn) (hn : (fn.name == "runtime.NumGoroutine") = false) (hb : fn.body = none)
    (h1 : (Extern.findNext fn).isNone = true) (h2 : Extern.find fn = some e) (he : (e args).run P w = .ok v w) : (callFunc f args).run P w = .ok (.value v) w := by simp_all [callFunc]
section
variable {P : Program} {env : Env} {d : Option Tmp} {ty : TypeId} {pos : String} {aft : Array Edge} {g : Option (Nat × Bool)}
theorem r_ext {f : FuncId} {fn : Func} {e : Array Value → Sem Value} {aas : List Operand} {ts : Array TypeId} {args : List Value} {v : Value} (hf : P.funcs[f]? = some fn) (hn : (fn.name == "runtime.NumGoroutine") = false) (hb : fn.body = none)
    (h1 : (Extern.findNext fn).isNone = true) (h2 : Extern.find fn = some e) (ha : aas.map (ev env) = args) (he : ∀ w, (e args.toArray).run P w = .ok v w) (w : World) :
    (execOp (ev env) ⟨d, .call ⟨.value (.func f), aas.toArray, ts⟩, ty, pos, aft, g⟩).run P w = .ok (.value v) w := by
  have := run_ext (P := P) (args := args.toArray) (w := w) hf hn hb h1 h2 (he w)
  simp [execOp, resolve, ev, Deferred.ofValue, invoke, ha, this]
theorem three_eq (s : String) (x y c : Value) : ∃ z : String, Extern.MathBitsCarry.three s #[x, y, c] = (do
    let c := (← asInt c).toNat
    if c > 1 then unsupported (.noEntry z)
    pure ((← asInt x).toNat, (← asInt y).toNat, c)) := ⟨_, rfl⟩
theorem run_three (s : String) {x y c : Nat} (hc : c ≤ 1) (w : World) : (Extern.MathBitsCarry.three s #[.int .u64 (x : Int), .int .u64 (y : Int), .int .u64 (c : Int)]).run P w = .ok (x, y, c) w := by
  have : ¬ c > 1 := by omega
  obtain ⟨z, hz⟩ := three_eq s (.int .u64 (x : Int)) (.int .u64 (y : Int)) (.int .u64 (c : Int))
  rw [hz]
  simp only [asInt, asIntOf, Sem.run_bind, Sem.run_map, Sem.run_pure, Result.andThen_ok, Int.toNat_natCast, this, if_false]
theorem run_add64 {x y c : Nat} (hc : c ≤ 1) (w : World) : ((do
    let (x, y, c) ← Extern.MathBitsCarry.three "Add64" #[.int .u64 (x : Int), .int .u64 (y : Int), .int .u64 (c : Int)]
    pure (Extern.MathBitsCarry.pair ((x + y + c) % Extern.MathBitsCarry.m64) ((x + y + c) / Extern.MathBitsCarry.m64)) : Sem Value)).run P w =
      .ok (.tuple #[.int .u64 (((x + y + c) % 18446744073709551616 : Nat) : Int), .int .u64 (((x + y + c) / 18446744073709551616 : Nat) : Int)]) w := by
  have e : Extern.MathBitsCarry.m64 = 18446744073709551616 := by decide
  rw [Sem.run_bind, run_three _ hc]
  simp only [Sem.run_pure, Result.andThen_ok, Extern.MathBitsCarry.pair, e]
  rfl
theorem run_sub64 {x y c : Nat} (hc : c ≤ 1) (w : World) : ((do
    let (x, y, b) ← Extern.MathBitsCarry.three "Sub64" #[.int .u64 (x : Int), .int .u64 (y : Int), .int .u64 (c : Int)]
    pure (Extern.MathBitsCarry.pair ((x + Extern.MathBitsCarry.m64 - y - b) % Extern.MathBitsCarry.m64) (if x < y + b then 1 else 0)) : Sem Value)).run P w =
      .ok (.tuple #[.int .u64 (((x + 18446744073709551616 - y - c) % 18446744073709551616 : Nat) : Int), .int .u64 ((if x < y + c then 1 else 0 : Nat) : Int)]) w := by
  have e : Extern.MathBitsCarry.m64 = 18446744073709551616 := by decide
  rw [Sem.run_bind, run_three _ hc]
  simp only [Sem.run_pure, Result.andThen_ok, Extern.MathBitsCarry.pair, e]
  split <;> rfl
theorem r_add64 {f : FuncId} {fn : Func} {a b c : Operand} {ts : Array TypeId} {x y z : Nat} (hf : P.funcs[f]? = some fn) (hn : (fn.name == "runtime.NumGoroutine") = false) (hb : fn.body = none)
    (h1 : (Extern.findNext fn).isNone = true) (h2 : Extern.find fn = some (fun args => do
      let (x, y, c) ← Extern.MathBitsCarry.three "Add64" args
      pure (Extern.MathBitsCarry.pair ((x + y + c) % Extern.MathBitsCarry.m64) ((x + y + c) / Extern.MathBitsCarry.m64))))
    (ha : ev env a = .int .u64 (x : Int)) (hb' : ev env b = .int .u64 (y : Int)) (hc' : ev env c = .int .u64 (z : Int)) (hz : z ≤ 1) (w : World) :
    (execOp (ev env) ⟨d, .call ⟨.value (.func f), #[a, b, c], ts⟩, ty, pos, aft, g⟩).run P w =
      .ok (.value (.tuple #[.int .u64 (((x + y + z) % 18446744073709551616 : Nat) : Int), .int .u64 (((x + y + z) / 18446744073709551616 : Nat) : Int)])) w :=
  r_ext (aas := [a, b, c]) hf hn hb h1 h2 (args := [.int .u64 (x : Int), .int .u64 (y : Int), .int .u64 (z : Int)]) (by simp [ha, hb', hc']) (fun w => run_add64 hz w) w
theorem r_sub64 {f : FuncId} {fn : Func} {a b c : Operand} {ts : Array TypeId} {x y z : Nat} (hf : P.funcs[f]? = some fn) (hn : (fn.name == "runtime.NumGoroutine") = false) (hb : fn.body = none)
    (h1 : (Extern.findNext fn).isNone = true) (h2 : Extern.find fn = some (fun args => do
      let (x, y, b) ← Extern.MathBitsCarry.three "Sub64" args
      pure (Extern.MathBitsCarry.pair ((x + Extern.MathBitsCarry.m64 - y - b) % Extern.MathBitsCarry.m64) (if x < y + b then 1 else 0))))
    (ha : ev env a = .int .u64 (x : Int)) (hb' : ev env b = .int .u64 (y : Int)) (hc' : ev env c = .int .u64 (z : Int)) (hz : z ≤ 1) (w : World) :
    (execOp (ev env) ⟨d, .call ⟨.value (.func f), #[a, b, c], ts⟩, ty, pos, aft, g⟩).run P w =
      .ok (.value (.tuple #[.int .u64 (((x + 18446744073709551616 - y - z) % 18446744073709551616 : Nat) : Int), .int .u64 ((if x < y + z then 1 else 0 : Nat) : Int)])) w :=
  r_ext (aas := [a, b, c]) hf hn hb h1 h2 (args := [.int .u64 (x : Int), .int .u64 (y : Int), .int .u64 (z : Int)]) (by simp [ha, hb', hc']) (fun w => run_sub64 hz w) w
end
def resE (P : Program) (w : World) (env : Env) : ResultVar → Value → Prop
  | .tmp t, v => env t = v
  | .cell a t, v => ∃ ad, env a = .pointer (some ad) ∧ (loadVar t ad).run P w = .ok v w
def ResAll (P : Program) (w : World) (env : Env) : List ResultVar → List Value → Prop
  | [], [] => True
  | r :: rs, v :: vs => resE P w env r v ∧ ResAll P w env rs vs
  | _, _ => False
theorem mapM_res (P : Program) (w : World) (a : Act) : ∀ (rs : List ResultVar) (vs : List Value), ResAll P w (envOf a) rs vs → (rs.mapM (resOne a.tmps)).run P w = Result.ok vs w
  | [], [], _ => by simp
  | r :: rs, v :: vs, ⟨h1, h2⟩ => by
    have ih := mapM_res P w a rs vs h2
    have h : (resOne a.tmps r).run P w = .ok v w := by
      cases r with
      | tmp t => simp only [resE] at h1; simp [resOne, ← h1, envOf]
      | cell x t =>
        obtain ⟨ad, e1, e2⟩ := h1
        have e1' : a.tmps.getD x undef = .pointer (some ad) := e1
        simp only [resOne, e1', Sem.run_bind, asAddr, Sem.run_pure, Result.andThen_ok, e2]
    rw [List.mapM_cons, Sem.run_bind, h]
    simp only [Result.andThen_ok, Sem.run_bind, ih, Sem.run_pure]
  | [], _ :: _, h => h.elim
  | _ :: _, [], h => h.elim
def oneOr : List Value → Value
  | [v] => v
  | vs => .tuple vs.toArray
theorem run_results {P : Program} {fn : Func} {rs : List ResultVar} {vs : List Value} {w : World} {a : Act} (hr : fn.results = rs.toArray) (h : ResAll P w (envOf a) rs vs) : (results fn a.tmps).run P w = .ok (oneOr vs) w := by
  have e : results fn a.tmps = (do let vs ← fn.results.mapM (resOne a.tmps); pure (if h : vs.size = 1 then vs[0] else .tuple vs)) := by
    unfold results; congr 1
  rw [e, hr, Array.mapM_eq_mapM_toList]
  have := mapM_res P w a rs vs h
  simp only [Sem.run_bind, Sem.run_map, this, Result.andThen_ok]
  match vs with
  | [] => simp [oneOr]
  | [v] => simp [oneOr]
  | v :: u :: r => simp [oneOr]
section
variable {P : Program} {we : World} {Se : Nat → Prop} {ms : List MF} {Γ : List FF} {env : Env} {U : Type} {val : U → Value} {facts : U → List FF} {ok : U → Prop} {fn : Func}
theorem Ret_cell {α : Type} {e : ERep α} {E b : Nat} {z : α} {w : World} {bytes : Nat} {zero : Value} {R : Prop} {a : Tmp} (i : Nat) (hw : St we Se ms Γ w) (hm : ms[i]? = some (mB e.c E b z)) (ha : env a = .pointer (some ⟨b, 0, none⟩))
    (ht : TyF P E e.agg e.n bytes zero) (k : ∀ v, St we Se ms (fV e z v :: Γ) w → resE P w env (.cell a E) v → R) : R := by
  obtain ⟨h1, h2, h3, S, h4, h5, h6, h7, h8⟩ := hw
  obtain ⟨cs, hg, hp⟩ := AllM.get h7 hm
  have ha0 : At w b 0 cs.toList := At.row hg
  exact k (e.val cs.toList) ⟨h1, h2, h3, S, h4, h5, h6, h7, ⟨cs.toList, rfl, hp⟩, h8⟩ ⟨_, ha, run_loadVar ht hp ha0⟩
end
def FnG {U : Type} (P : Program) (f : FuncId) (args : Array Value) (ms : List MF) (Γ : List FF) (val : U → Value) (own : U → List MF) (facts : U → List FF) (ok : U → Prop) : Prop :=
  ∀ we Se F G w, St we Se (ms ++ F) (Γ ++ G) w → Calls P f args w (fun e w' => ∃ u, e = .returned (val u) ∧ ok u ∧ St we Se (own u ++ F) (facts u ++ G) w')
section
variable {P : Program} {N : Nd} {we : World} {Se : Nat → Prop} {ms F : List MF} {Γ G : List FF} {Q : Qs} {env : Env} {U : Type} {val : U → Value} {own : U → List MF} {facts : U → List FF} {ok : U → Prop} {fn : Func}
  {ops : Array Oper} {rest : List Oper} {d : Option Tmp} {ty : TypeId} {pos : String} {aft : Array Edge} {g : Option (Nat × Bool)}
theorem FnG.frozen {f : FuncId} {args : Array Value} {Δ : U → List FF} (h : FnG P f args [] Γ val own facts ok)
    (fz : ∀ (u : U) (w' : World) (we : World) (Se : Nat → Prop), St we Se (own u) (facts u) w' → St we Se [] (Δ u) w') : Fn P f args Γ val Δ ok := by
  intro w Se hSe hΓ
  refine (h w Se [] [] w (St.nil (by simpa using hΓ) hSe)).mono ?_
  rintro e w' ⟨u, h1, h2, h3⟩
  have := (fz u w' w Se (by simpa using h3)).out (Δ := Δ u) (fun S w h => h)
  exact ⟨u, h1, h2, this.1, this.2⟩
end
theorem apart_front : ∀ {ms : List MF} {i : Nat} {m : MF}, Apart ms → ms[i]? = some m → Apart (m :: ms.eraseIdx i) := by
  intro ms i m h e
  refine ⟨fun k hk m' hm' hc => ?_, ?_⟩
  · rw [List.mem_eraseIdx_iff_getElem?] at hm'
    obtain ⟨j, hj, he⟩ := hm'
    exact apart_of h e k hk j m' hj he hc
  · exact apart_erase i h
theorem St.front {we : World} {Se : Nat → Prop} {ms : List MF} {Γ : List FF} {w : World} {m : MF} (i : Nat) (h : St we Se ms Γ w) (hi : ms[i]? = some m) : St we Se (m :: ms.eraseIdx i) Γ w := by
  obtain ⟨h1, h2, h3, S, h4, h5, h6, h7, h8⟩ := h
  refine ⟨h1, h2, apart_front h3 hi, S, h4, h5, fun m' hm' => ?_, ⟨AllM.get h7 hi, allM_erase i h7⟩, h8⟩
  rcases List.mem_cons.1 hm' with rfl | hm'
  · exact h6 _ (List.mem_of_getElem? hi)
  · exact h6 m' (List.mem_of_mem_eraseIdx hm')
theorem wrap_i64 {m : Nat} (h : m ≤ 9223372036854775807) : IntKind.i64.wrap (m : Int) = (m : Int) := w64 (by omega)
theorem run_appendZ {P : Program} {w : World} (t ti ty e : TypeId) (i : TypeInfo) (z : Value) (size bytes : Nat) {ik : IntKind} (ht : P.underlying t = some (.slice e)) (hti : P.underlying ti = some (.int ik)) (hi : P.info? e = some i) (hz : i.zero = some z)
    (hsize : i.size = size) (hby : i.bytes = bytes) (hzs : z.cells.size = size) (hz1 : ∀ u ∈ z.cells.toList, u.oneCell' = true) (hsz : 0 < size)
    (v : Value) (n : Nat) (xs : List Value) (hown : w.ownsRow 0 e size v n xs) (m : Nat) 
    (h63 : n + m ≤ maxLen) (hbytes : (n + m) * bytes ≤ 140737488355328) :
    ∃ v' w', (Builtin.append_ #[t, ti] ty #[v, .int .i64 (m : Int)]).run P w = .ok v' w' ∧ w'.ownsRow 0 e size v' (n + m) (xs ++ (Builtin.zeroCells z.cells m).toList) ∧ w.grownBy w' v.ownBlock ∧
      ∀ k, v'.ownBlock = some k → v.ownBlock = some k ∨ w.heap.size ≤ k := by
  subst hsize
  subst hby
  have hsmall : n + m ≤ 9223372036854775807 := by simp only [maxLen] at h63; omega
  have hml : (Builtin.zeroCells z.cells m).toList.length = m * i.size := by simp [size_zeroCells, hzs]
  have hlen : (xs ++ (Builtin.zeroCells z.cells m).toList).length = (n + m) * i.size := by rw [List.length_append, hown.1, hml, Nat.add_mul]
  have hwr := wrap_i64 (m := m) (by omega)
  have hneg : ¬ ((m : Int) < 0) := by omega
  have hmb : ¬ ((m : Int) * (i.bytes : Int) > 281474976710656) := by
    have h1 : m * i.bytes ≤ (n + m) * i.bytes := Nat.mul_le_mul_right _ (by omega)
    have : ((m * i.bytes : Nat) : Int) ≤ 140737488355328 := by omega
    rw [Int.natCast_mul] at this; omega
  have hmb' : ¬ (281474976710656 < (m : Int) * (i.bytes : Int)) := hmb
  have grown : ∀ (old : Nat), old < n + m → ∀ (row : Option Nat),
      (w.drew.alloc (.cells (xs.toArray ++ Builtin.zeroCells z.cells m ++ Builtin.zeroCells z.cells (grownCap w (n + m) old e - (n + m))) e)).ownsRow 0 e i.size
        (.slice (some ⟨w.heap.size, 0, none⟩) (n + m) (grownCap w (n + m) old e)) (n + m) (xs ++ (Builtin.zeroCells z.cells m).toList) ∧
      w.grownBy (w.drew.alloc (.cells (xs.toArray ++ Builtin.zeroCells z.cells m ++ Builtin.zeroCells z.cells (grownCap w (n + m) old e - (n + m))) e)) row := by
    intro old ho row
    have hge := grownCap_ge w (n + m) old e
    have hcm : grownCap w (n + m) old e ≤ maxLen := grownCap_le_maxLen w (n + m) old e h63
    refine ⟨⟨hlen, .inr ⟨w.heap.size, _, _, rfl, Nat.zero_le _, heap_alloc_new w.drew _, hge, hcm, ?_, ?_⟩⟩, ⟨rfl, rfl, rfl, by simp, fun k hk _ => RowKit.Below.heap_alloc w.drew _ k hk⟩⟩
    · simp only [Array.size_append, List.size_toArray, size_zeroCells, hzs, hown.1, ← Nat.add_mul]
      congr 1
      omega
    · simp only [Array.toList_append, List.append_assoc]
      rw [← List.append_assoc, ← hlen]
      exact List.take_left
  rcases hown.2 with ⟨rfl, rfl⟩ | ⟨g, cap, cur, rfl, hbg, hg, hnc, hcm, hcs, htake⟩
  · have hx : xs = [] := List.eq_nil_of_length_eq_zero (by simpa using hown.1)
    subst hx
    by_cases hm : m = 0
    · subst hm
      refine ⟨.slice none 0 0, w, ?_, by simpa [Builtin.zeroCells] using World.ownsRow_nil w 0 e i.size, ⟨rfl, rfl, rfl, Nat.le_refl _, fun _ _ _ => rfl⟩, fun k hk => .inl hk⟩
      have e0 : IntKind.i64.wrap 0 = 0 := by decide
      simp [Builtin.append_, run_underlying ht, run_underlying hti, sizeOf, typeInfo, hi, asInt, asIntOf, e0]
    · have h63' : ¬ (9223372036854775807 < (m : Int)) := by omega
      have hfit := growslice_fits (old := 0) (need := 0 + m) (bytes := i.bytes) (by omega) hbytes
      have h48' : ¬ (281474976710656 < Builtin.nextslicecap m 0 * i.bytes) := by simp only [Nat.zero_add] at hfit; omega
      have hgr := grown 0 (by omega) (Value.ownBlock (.slice none 0 0))
      refine ⟨_, _, ?_, hgr.1, hgr.2, fun k hk => .inr (by cases hk; exact Nat.le_refl _)⟩
      simp [Builtin.append_, run_underlying ht, run_underlying hti, sizeOf, typeInfo, zeroValue, hi, hz, asInt, asIntOf, hwr, hm, h63', h48', hneg, hmb', Question.forced, run_firstCells_none, newRow, grownCap]
      intro h0
      have : 0 < m * i.size := Nat.mul_pos (by omega) hsz
      omega
  · by_cases hroom : n + m ≤ cap
    · have hfit : n * i.size + (Builtin.zeroCells z.cells m).toList.length ≤ cur.size := by rw [hml, hcs, ← Nat.add_mul]; exact Nat.mul_le_mul_right _ hroom
      have h1 : ∀ u ∈ (Builtin.zeroCells z.cells m).toList, u.oneCell' = true := by
        intro u hu
        simp only [Builtin.zeroCells, Array.toList_map, List.mem_map] at hu
        obtain ⟨j, hj, rfl⟩ := hu
        have hlt : j % z.cells.size < z.cells.size := Nat.mod_lt _ (by omega)
        rw [getElem!_pos z.cells _ hlt]
        exact hz1 _ (Array.mem_toList_iff.2 (Array.getElem_mem hlt))
      have hst := run_storeCells_at P g (n * i.size) e (Builtin.zeroCells z.cells m).toList 0 cur w hg (by simpa using hfit) h1
      simp only [Nat.add_zero] at hst
      have hr : (Builtin.append_ #[t, ti] ty #[.slice (some ⟨g, 0, none⟩) n cap, .int .i64 (m : Int)]).run P w =
          .ok (.slice (some ⟨g, 0, none⟩) (n + m) cap) (w.setRow g (cur.toList.take (n * i.size) ++ (Builtin.zeroCells z.cells m).toList ++ cur.toList.drop (n * i.size + (Builtin.zeroCells z.cells m).toList.length)).toArray) := by
        by_cases hm : m = 0
        · subst hm
          have e0 : IntKind.i64.wrap 0 = 0 := by decide
          have ez : (Builtin.zeroCells z.cells 0) = #[] := by simp [Builtin.zeroCells]
          rw [ez] at hst ⊢
          simp [Builtin.append_, run_underlying ht, run_underlying hti, sizeOf, typeInfo, hi, asInt, asIntOf, e0, hnc, Addr.add_lit, hst]
        · have hms : ¬ (m = 0 ∨ i.size = 0) := by omega
          simp [Builtin.append_, run_underlying ht, run_underlying hti, sizeOf, typeInfo, zeroValue, hi, hz, asInt, asIntOf, hwr, hneg, hmb', hroom, hms, Addr.add_lit, hst]
          intro h0
          have : 0 < m * i.size := Nat.mul_pos (by omega) hsz
          omega
      refine ⟨_, _, hr, ⟨hlen, .inr ⟨g, cap, _, rfl, hbg, setRow_heap w g cur _ e _ hg, hroom, hcm, ?_, ?_⟩⟩, ⟨rfl, rfl, rfl, by simp, fun k _ hk => setRow_other w g k _ (fun e => hk (by simp [Value.ownBlock, e]))⟩, fun k hk => .inl hk⟩
      · simp only [List.size_toArray, List.length_append, List.length_take, List.length_drop, Array.length_toList] at hfit ⊢
        omega
      · rw [htake, ← hlen]
        exact List.take_left
    · have holds : ∀ j u, xs[j]? = some u → w.cell? ((⟨g, 0, none⟩ : Addr).add j) = some u := hown.cells (g := g) rfl
      have h63' : ¬ (9223372036854775807 < (n : Int) + (m : Int)) := by omega
      have h48' : ¬ (281474976710656 < Builtin.nextslicecap (n + m) cap * i.bytes) := by have := growslice_fits (old := cap) (need := n + m) (bytes := i.bytes) (by omega) hbytes; omega
      have hgr := grown cap (by omega) (Value.ownBlock (.slice (some ⟨g, 0, none⟩) n cap))
      have hfo := run_firstCells_some (P := P) w.drew i.size n ⟨g, 0, none⟩ n cap xs hown.1 (by simpa using holds)
      refine ⟨_, _, ?_, hgr.1, hgr.2, fun k hk => .inr (by cases hk; exact Nat.le_refl _)⟩
      by_cases hm : m = 0
      · subst hm; omega
      simp [Builtin.append_, run_underlying ht, run_underlying hti, sizeOf, typeInfo, zeroValue, hi, hz, asInt, asIntOf, hwr, hm, h63', h48', hneg, hmb', hroom, Question.forced, hfo, newRow, grownCap]
      intro h0
      have : 0 < m * i.size := Nat.mul_pos (by omega) hsz
      omega
theorem zeroCells_flatten {z : Array Value} {m : Nat} (hm : z.size = m) (n : Nat) : (Builtin.zeroCells z n).toList = (List.replicate n z.toList).flatten := by
  apply List.ext_getElem?
  intro j
  by_cases hj : j < n * m
  · have hpos : 0 < m := Nat.pos_of_ne_zero fun h0 => by rw [h0] at hj; simp at hj
    have e1 : (Builtin.zeroCells z n).toList[j]? = z.toList[j % m]? := by
      have := Nat.mod_lt j hpos
      simp [Builtin.zeroCells, hm, hj, this]
    rw [e1, og_make.flatten_get z.toList m (by simpa using hm) hpos n j hj]
    all_goals exact 0
  · rw [List.getElem?_eq_none (by simp [size_zeroCells, hm]; omega), List.getElem?_eq_none (by simp [hm]; omega)]
section
variable {P : Program} {N : Nd} {we : World} {Se : Nat → Prop} {ms ms' : List MF} {Γ Γ' : List FF} {Q : Qs} {env : Env} {ops : Array Oper} {rest : List Oper}
  {d : Option Tmp} {ty yt t ti : TypeId} {pos : String} {aft : Array Edge} {g : Option (Nat × Bool)} {x y : Operand}
theorem og_appendZ {α : Type} {e : ERep α} {et : TypeId} {xs : List α} {z : α} {n : Nat} {v : Value} {bytes : Nat} {zero : Value} {ik : IntKind} (i : Nat) (ht : P.underlying t = some (.slice et)) (hti : P.underlying ti = some (.int ik)) (het : TyF P et e.agg e.n bytes zero) (hzs : zero.cells.size = e.n) (hn : 0 < e.n)
    (hm : ms[i]? = some (mO e et v xs)) (hx : ev env x = v) (hy : ev env y = .int .i64 (n : Int)) (hz : ∀ (S : Nat → Prop) (w : World), e.p S z zero.cells.toList w)
    (h63 : xs.length + n ≤ 9223372036854775807) (hb : (xs.length + n) * bytes ≤ 140737488355328) : OG P ⟨d, .call ⟨.builtin .append, #[x, y], #[t, ti]⟩, ty, pos, aft, g⟩ env we Se ms Γ (fun v' => v') (fun v' => (ms.set i (mO e et v' (xs ++ List.replicate n z)))) (fun _ => Γ) (fun _ => True) := by
  intro w hst
  obtain ⟨S, _, ⟨cs, ho, he⟩, h8, _⟩ := hst.mut hm
  obtain ⟨i', hi, i1, i2, i3⟩ := het.info
  obtain ⟨v', w', hr, ho', hg, hbk⟩ := run_appendZ (P := P) t ti ty et i' zero e.n bytes ht hti hi i3 i1 i2 hzs (e.one (hz S w)) hn v xs.length cs ho n (by unfold maxLen; omega) hb
  refine OpR.of_value (w' := w') (v := v') ?_ ⟨v', rfl, trivial, hst.grow hm ⟨hg.os, hg.tape, hg.output, hg.size, fun j hj hs => hg.block j hj (fun e => hs e.symm)⟩ hbk ?_⟩
  · simp only [execOp, resolve, invoke, builtin, List.map_toArray, List.map_cons, List.map_nil, hx, hy, Sem.run_bind, hr, Sem.run_pure, Result.andThen_ok]
  · intro S hS ⟨cs2, ho2, he2⟩ hΓ
    have hcs : cs2 = cs := by
      rcases ho.2 with ⟨rfl, h0⟩ | ⟨g, cap, cur, rfl, _, hgg, _, _, _, htk⟩
      · have a1 := ho.1; have a2 := ho2.1
        rw [h0] at a1 a2
        have c1 : cs = [] := List.eq_nil_of_length_eq_zero (by simpa using a1)
        have c2 : cs2 = [] := List.eq_nil_of_length_eq_zero (by simpa using a2)
        rw [c1, c2]
      · rcases ho2.2 with ⟨hc, _⟩ | ⟨g', cap', cur', hv', _, hgg', _, _, _, htk'⟩
        · cases hc
        · cases hv'
          rw [hgg] at hgg'
          cases hgg'
          rw [← htk, ← htk']
    subst hcs
    have kk : Keeps S w w' := ⟨hg.os, hg.tape, hg.output, hg.size, fun k hk hs => hg.block k hk (fun e => hS k hs e.symm)⟩
    rw [zeroCells_flatten hzs] at ho'
    exact ⟨_, by rw [List.length_append, List.length_replicate]; exact ho', (he2.keep kk).append (Elems.replicate (hz _ _) n)⟩
end
theorem All.left {S : Nat → Prop} {w : World} : ∀ {Γ Δ : List FF}, All S (Γ ++ Δ) w → All S Γ w
  | [], _, _ => trivial
  | _ :: _, _, h => ⟨h.1, All.left h.2⟩
theorem All.right {S : Nat → Prop} {w : World} : ∀ {Γ Δ : List FF}, All S (Γ ++ Δ) w → All S Δ w
  | [], _, h => h
  | _ :: _, _, h => All.right h.2
theorem Fn.ok_mono {U : Type} {P : Program} {f : FuncId} {args : Array Value} {Γ : List FF} {val : U → Value} {facts : U → List FF} {ok ok' : U → Prop} (h : Fn P f args Γ val facts ok) (hk : ∀ u, ok u → ok' u) : Fn P f args Γ val facts ok' :=
  fun w Se h1 h2 => (h w Se h1 h2).mono fun e w' ⟨u, a, b, c⟩ => ⟨u, a, hk u b, c⟩
end
section
def rowT {α : Type} (e : ERep α) (cap : Nat) : CRep (List α) where
  p S xs cs w := ∃ c post, cs = c ++ post ∧ Elems e S xs c w ∧ cs.length = cap * e.n
  keep := fun ⟨c, post, h1, h2, h3⟩ k => ⟨c, post, h1, h2.keep k, h3⟩
  sub := fun ⟨c, post, h1, h2, h3⟩ k => ⟨c, post, h1, h2.sub k, h3⟩
theorem Sub.rowT {α : Type} (e : ERep α) (cap : Nat) (xs : List α) (i : Nat) (x : α) (hx : xs[i]? = some x) : Sub (rowT e cap) xs (i * e.n) e x (fun y => xs.set i y) := by
  rintro S w cs ⟨c0, post0, rfl, he, hl⟩
  obtain ⟨pre, c, post, rfl, h2, h3, h4⟩ := Sub.row e xs i x hx S w c0 he
  refine ⟨pre, c, post ++ post0, by simp [List.append_assoc], h2, h3, fun w' y c' kk h' => ⟨pre ++ c' ++ post, post0, by simp [List.append_assoc], h4 w' y c' kk h', ?_⟩⟩
  have e1 := e.len h3
  have e2 := e.len h'
  simp only [List.length_append] at hl ⊢
  omega
theorem Sub.rowT0 {α : Type} (e : ERep α) (cap : Nat) (xs : List α) (i : Nat) (x : α) (hx : xs[i]? = some x) : Sub (Go.Proofs.YtbaoeefdjpaomaaDoor.rowT e cap) xs (0 + i * e.n) e x (fun y => xs.set i y) := by
  rw [Nat.zero_add]; exact Sub.rowT e cap xs i x hx
section
variable {we : World} {Se : Nat → Prop} {ms : List MF} {Γ : List FF} {w : World} {α : Type} {e : ERep α} {E : TypeId} {xs : List α}
theorem mut_frame {i : Nat} {m : MF} (h : St we Se ms Γ w) (hi : ms[i]? = some m) {p : Prop} (hp : ∀ S : Nat → Prop, m.p S w → p) : p := by grind [St.muts]
theorem St.openO {v : Value} (i : Nat) (h : St we Se ms Γ w) (hm : ms[i]? = some (mO e E v xs)) (hpos : 0 < xs.length) :
    ∃ g cap, v = .slice (some ⟨g, 0, none⟩) xs.length cap ∧ xs.length ≤ cap ∧ cap ≤ 9223372036854775807 ∧ St we Se (ms.set i (mB (rowT e cap) E g xs)) Γ w := by
  have : ∃ g cap, v = .slice (some ⟨g, 0, none⟩) xs.length cap ∧ xs.length ≤ cap ∧ cap ≤ 9223372036854775807 := mut_frame h hm fun S ⟨cs, h1, h2⟩ => by
    rcases h1.2 with ⟨rfl, h0⟩ | ⟨g, cap, cur, rfl, hbg, hg, hnc, hcm, hcs, htk⟩
    · omega
    · exact ⟨g, cap, rfl, hnc, hcm⟩
  obtain ⟨g, cap, rfl, h1, h2⟩ := this
  refine ⟨g, cap, rfl, h1, h2, h.conv hm rfl fun S ⟨cs, h1, h2⟩ => ?_⟩
  rcases h1.2 with ⟨h0, _⟩ | ⟨g', cap', cur, hv, hbg, hg, hnc, hcm, hcs, htk⟩
  · cases h0
  · cases hv
    refine ⟨cur, hg, cs, cur.toList.drop (xs.length * e.n), ?_, h2, by simpa using hcs⟩
    rw [← htk, List.take_append_drop]
theorem St.closeO {g cap : Nat} (i n : Nat) (h : St we Se ms Γ w) (hm : ms[i]? = some (mB (rowT e cap) E g xs)) (hn : n ≤ xs.length) (hc : n ≤ cap) (hcm : cap ≤ 9223372036854775807) :
    St we Se (ms.set i (mO e E (.slice (some ⟨g, 0, none⟩) n cap) (xs.take n))) Γ w := by
  refine h.conv hm rfl fun S ⟨cs, hg, c, post, h1, h2, h3⟩ => ⟨c.take (n * e.n), ?_, h2.take n⟩
  have hl : (xs.take n).length = n := by simp; omega
  have hcl := h2.len
  have hle : n * e.n ≤ xs.length * e.n := Nat.mul_le_mul_right _ hn
  rw [hl]
  refine ⟨by simp; omega, .inr ⟨g, cap, cs, rfl, Nat.zero_le _, hg, hc, by unfold maxLen; omega, by simpa using h3, ?_⟩⟩
  rw [h1, List.take_append_of_le_length (by omega)]
theorem St.closeF {g cap : Nat} (i : Nat) (h : St we Se ms Γ w) (hm : ms[i]? = some (mB (rowT e cap) E g xs)) (hc : xs.length ≤ cap) (hcm : cap ≤ 9223372036854775807) :
    St we Se (ms.set i (mO e E (.slice (some ⟨g, 0, none⟩) xs.length cap) xs)) Γ w := by
  have := h.closeO i xs.length hm (Nat.le_refl _) hc hcm
  rwa [List.take_length] at this
theorem St.rowRT {b n : Nat} (i : Nat) (h : St we Se ms Γ w) (hm : ms[i]? = some (mR e E b xs)) (hn : n = xs.length) : St we Se (ms.set i (mB (rowT e n) E b xs)) Γ w :=
  h.conv hm rfl fun S ⟨cs, hg, he⟩ => ⟨cs, hg, cs.toList, [], by simp, he, by rw [hn]; exact Elems.len (e := e) he⟩
end
section
variable {P : Program} {N : Nd} {we : World} {Se : Nat → Prop} {ms : List MF} {Γ : List FF} {Q : Qs} {env : Env} {ops : Array Oper} {rest : List Oper}
  {d : Option Tmp} {ty yt t t' : TypeId} {pos : String} {aft : Array Edge} {g : Option (Nat × Bool)} {x y : Operand}
theorem run_sliceAt {et : TypeId} {ag : Bool} {sz bytes : Nat} {zero : Value} {b o n cap l h : Nat} {lo hi : Option Value} {w : World} (ht : P.underlying t = some (.slice et)) (het : TyF P et ag sz bytes zero)
    (hl : lo = some (.int .i64 (l : Int)) ∨ (lo = none ∧ l = 0)) (hh : hi = some (.int .i64 (h : Int)) ∨ (hi = none ∧ h = n)) (hlh : l ≤ h) (hhn : h ≤ cap) (hlc : l < cap ∨ l = 0) :
    (Instr.sliceAt t (.slice (some ⟨b, o, none⟩) n cap) lo hi none).run P w = .ok (.slice (some ⟨b, o + l * sz, none⟩) (h - l) (cap - l)) w := by
  have b1 : (0 : Int) ≤ (l : Int) ∧ (l : Int) ≤ (h : Int) := by omega
  have b2 : (0 : Int) ≤ (h : Int) ∧ (h : Int) ≤ (cap : Int) := by omega
  have hrun : (Instr.sliceAt t (.slice (some ⟨b, o, none⟩) n cap) lo hi none).run P w = .ok (.slice (if cap = l then some ⟨b, o, none⟩ else (some (⟨b, o, none⟩ : Addr)).map (·.add (l * sz))) (h - l) (cap - l)) w := by
    unfold Instr.sliceAt
    simp only [Sem.run_bind, run_underlying ht, Result.andThen_ok]
    unfold Instr.slice
    simp only [Sem.run_bind, run_underlying ht, Result.andThen_ok]
    unfold Instr.sliceBounds
    rcases hl with rfl | ⟨rfl, rfl⟩ <;> rcases hh with rfl | ⟨rfl, rfl⟩ <;>
      simp only [Instr.sliceBound, asIntOf, Sem.run_bind, Sem.run_pure, Result.andThen_ok, if_pos b1, if_pos b2, run_sizeOf het, Int.toNat_natCast]
  rw [hrun]
  by_cases hc : cap = l
  · have : l = 0 := by omega
    subst this
    simp [hc]
  · simp [hc, addr_add]
theorem r_sliceT {et : TypeId} {ag : Bool} {sz bytes : Nat} {zero : Value} {b o n cap h : Nat} {hi : Operand} (hx : ev env x = .slice (some ⟨b, o, none⟩) n cap) (ht : P.underlying t = some (.slice et)) (het : TyF P et ag sz bytes zero)
    (hh : ev env hi = .int .i64 (h : Int)) (hhn : h ≤ cap) (w : World) : (execOp (ev env) ⟨d, .slice t x none (some hi) none, ty, pos, aft, g⟩).run P w = .ok (.value (.slice (some ⟨b, o, none⟩) h cap)) w := by
  have := run_sliceAt (P := P) (b := b) (o := o) (n := n) (w := w) (lo := none) (hi := some (.int .i64 (h : Int))) (l := 0) ht het (.inr ⟨rfl, rfl⟩) (.inl rfl) (Nat.zero_le _) hhn (.inr rfl)
  simp only [Nat.zero_mul, Nat.add_zero, Nat.sub_zero] at this
  simp [execOp, hx, hh, this]
end
section
variable {P : Program} {env : Env} {d : Option Tmp} {ty t : TypeId} {pos : String} {aft : Array Edge} {g : Option (Nat × Bool)} {x y c : Operand} {w : World} {S : Nat → Prop} {v : Value}
theorem r_mk {f : Go.Fn} {xs : List Operand} {vs : List Value} (h : xs.map (ev env) = vs) (w : World) : (execOp (ev env) ⟨d, .makeFunc f #[] xs.toArray, ty, pos, aft, g⟩).run P w = .ok (.value (.func f #[] vs.toArray)) w :=
  pv_run (by simp [pv, h]) w
end
section
variable {P : Program} {N : Nd} {we : World} {Se : Nat → Prop} {ms : List MF} {Γ : List FF} {Q : Qs} {env : Env} {ops : Array Oper} {rest : List Oper}
  {d : Option Tmp} {ty yt t t' : TypeId} {pos : String} {aft : Array Edge} {g : Option (Nat × Bool)} {x y : Operand}
theorem run_copy_rowN (w : World) (dT sT ty elem : TypeId) (g o dLen dCap : Nat) (a : Addr) (sLen sCap : Nat) (cur : Array Value) (t : TypeId) (cs : List Value) {n m : Nat}
    (hu : P.underlying dT = some (.slice elem)) (hs : (P.info? elem).map (·.size) = some n) (hm : Nat.min sLen dLen = m)
    (hg : w.heap[g]? = some (.cells cur t (0, 0))) (hn : cs.length = m * n)
    (hsrc : ∀ j v, cs[j]? = some v → w.cell? (a.add j) = some v) (hfit : o + cs.length ≤ cur.size) (h1 : ∀ v ∈ cs, v.oneCell' = true) :
    (Builtin.copy_ #[dT, sT] ty #[.slice (some ⟨g, o, none⟩) dLen dCap, .slice (some a) sLen sCap]).run P w =
      .ok (goInt m) (w.setRow g (cur.toList.take o ++ cs ++ cur.toList.drop (o + cs.length)).toArray) := by
  have hl := run_loadCells_list (P := P) w a cs hsrc
  have hst := run_storeCells_at P g o t cs 0 cur w hg (by simpa using hfit) h1
  cases hq : P.info? elem with
  | none => simp [hq] at hs
  | some i =>
    have hi : i.size = n := by simpa [hq] using hs
    simp [Builtin.copy_, run_underlying hu, Builtin.lenOf, Builtin.firstCells, sizeOf, typeInfo, hq, hi, hm, ← hn, hl, hst]
theorem run_copy_noneN (w : World) (dT sT ty elem : TypeId) (d a : Option Addr) (dLen dCap sLen sCap : Nat) (hu : P.underlying dT = some (.slice elem)) {n : Nat} (hs : (P.info? elem).map (·.size) = some n) (hn : Nat.min sLen dLen = 0) :
    (Builtin.copy_ #[dT, sT] ty #[.slice d dLen dCap, .slice a sLen sCap]).run P w = .ok (goInt 0) w := by
  cases hq : P.info? elem with
  | none => simp [hq] at hs
  | some i =>
    have hl : ∀ (x : Addr), (loadCells x 0).run P w = .ok #[] w := fun x => by simpa using run_loadCells_list (P := P) w x [] (by simp)
    cases d <;> cases a <;> simp [Builtin.copy_, run_underlying hu, Builtin.lenOf, Builtin.firstCells, sizeOf, typeInfo, hq, hn, storeCells, hl]
theorem og_copyM {α : Type} {e : ERep α} {et E b l dLen dCap cap bytes : Nat} {zero u : Value} {xs ys : List α} (i : Nat) (ht : P.underlying t = some (.slice et)) (het : TyF P et e.agg e.n bytes zero) (hm : ms[i]? = some (mB (rowT e cap) E b xs)) (hx : ev env x = .slice (some ⟨b, 0 + l * e.n, none⟩) dLen dCap) (hy : ev env y = u)
    (hl : l + dLen ≤ xs.length) (hf : ∀ (S : Nat → Prop) (w : World), All S Γ w → (fV (eS e) ys u).p S w) : OG P ⟨d, .call ⟨.builtin .copy, #[x, y], #[t, t']⟩, ty, pos, aft, g⟩ env we Se ms Γ (fun n : Int => (.int .i64 n)) (fun n => (ms.set i (mB (rowT e cap) E b (xs.take l ++ ys.take (min ys.length dLen) ++ xs.drop (l + min ys.length dLen))))) (fun _ => Γ) (fun _ => True) := by
  intro w hst
  obtain ⟨S0, ⟨cs0, hg0, c0, post0, hcs0, hel0, hlen0⟩, hM0, h80⟩ := hst.muts hm
  obtain ⟨ao, scap, hu, h1, h2, h3⟩ := fV_slice.1 (hf S0 w h80)
  obtain ⟨ti, hi, i1, i2, i3⟩ := het.info
  have hs1 : (P.info? et).map (·.size) = some e.n := by rw [hi]; simp [i1]
  have hex : ∀ v w', (Builtin.copy_ #[t, t'] ty #[.slice (some ⟨b, 0 + l * e.n, none⟩) dLen dCap, u]).run P w = .ok v w' →
      (execOp (ev env) ⟨d, .call ⟨.builtin .copy, #[x, y], #[t, t']⟩, ty, pos, aft, g⟩).run P w = .ok (.value v) w' := fun v w' hr => by
    simp only [execOp, resolve, invoke, builtin, List.map_toArray, List.map_cons, List.map_nil, hx, hy, Sem.run_bind, hr, Sem.run_pure, Result.andThen_ok]
  obtain ⟨m, hmm⟩ : ∃ m, min ys.length dLen = m := ⟨_, rfl⟩
  have hmn : Nat.min ys.length dLen = m := hmm
  have hmd : m ≤ dLen := by rw [← hmm]; exact Nat.min_le_right _ _
  have hmy : m ≤ ys.length := by rw [← hmm]; exact Nat.min_le_left _ _
  have e1 : (l + m) * e.n = l * e.n + m * e.n := Nat.add_mul _ _ _
  have e2 : l * e.n + m * e.n ≤ xs.length * e.n := by rw [← e1]; exact Nat.mul_le_mul_right _ (by omega)
  have e3 : m * e.n ≤ ys.length * e.n := Nat.mul_le_mul_right _ hmy
  have hc0 : c0.length = xs.length * e.n := hel0.len
  rw [hmm]
  by_cases h0 : m = 0
  · have hr := run_copy_noneN (P := P) w t t' ty et (some ⟨b, 0 + l * e.n, none⟩) ao dLen dCap ys.length scap ht hs1 (hmn.trans h0)
    rw [← hu] at hr
    refine OpR.of_value (hex _ _ hr) ⟨_, rfl, trivial, ?_⟩
    rw [h0]
    simp only [Nat.add_zero, List.take_zero, List.append_nil, List.take_append_drop]
    have : ms.set i (mB (rowT e cap) E b xs) = ms := by
      obtain ⟨hi', h2'⟩ := List.getElem?_eq_some_iff.1 hm
      rw [← h2', List.set_getElem_self]
    rw [this]; exact hst
  · rcases h3 with h3 | ⟨sb, so, cs, rfl, hSb, ha, hel⟩
    · rw [h3] at hmy; simp at hmy; omega
    · have hcl : cs.length = ys.length * e.n := hel.len
      have hnl : (cs.take (m * e.n)).length = m * e.n := by rw [List.length_take, hcl]; omega
      have e4 : cs0.toList.length = c0.length + post0.length := by rw [hcs0, List.length_append]
      have hfit : 0 + l * e.n + (cs.take (m * e.n)).length ≤ cs0.size := by
        simp only [Array.length_toList] at e4
        omega
      have hr := run_copy_rowN (P := P) w t t' ty et b (0 + l * e.n) dLen dCap ⟨sb, so, none⟩ ys.length scap cs0 E (cs.take (m * e.n)) ht hs1 hmn hg0 hnl
        (fun j v hv => by rw [addr_add]; exact (ha.take _).2 j v hv) hfit (fun v hv => hel.one v (List.mem_of_mem_take hv))
      rw [← hu] at hr
      refine OpR.of_value (hex _ _ hr) ⟨_, rfl, trivial, hst.write hm rfl rfl (keeps_setRow w b _) ?_⟩
      rintro S hS ⟨cs1, hg1, c1, post1, hcs1, hel1, hlen1⟩ h8
      rw [hg0] at hg1
      cases hg1
      obtain ⟨ao2, scap2, hu2, _, _, h32⟩ := fV_slice.1 (hf S w h8)
      rw [hu] at hu2
      cases hu2
      rcases h32 with h32 | ⟨sb2, so2, cs2, hb2, hS2, ha2, hel2⟩
      · rw [h32] at hmy; simp at hmy; omega
      · cases hb2
        have hcc : cs2 = cs := by
          have hl2 : cs2.length = cs.length := by rw [hel2.len, hel.len]
          apply List.ext_getElem?
          intro j
          by_cases hj : j < cs.length
          · have e1 := ha.2 j cs[j] (by simp [hj])
            have e2 := ha2.2 j cs2[j] (by simp [hl2, hj])
            rw [e1] at e2
            rw [List.getElem?_eq_getElem hj, List.getElem?_eq_getElem (by omega : j < cs2.length), e2]
          · rw [List.getElem?_eq_none (l := cs) (by omega), List.getElem?_eq_none (l := cs2) (by omega)]
        subst hcc
        have hc1 : c1.length = xs.length * e.n := hel1.len
        have kk : Keeps S w (w.setRow b (cs0.toList.take (0 + l * e.n) ++ cs2.take (m * e.n) ++ cs0.toList.drop (0 + l * e.n + (cs2.take (m * e.n)).length)).toArray) := (keeps_setRow w b _).weak fun k _ hk => hS k hk
        refine ⟨_, setRow_heap w b cs0 _ E (0, 0) hg0, c1.take (l * e.n) ++ cs2.take (m * e.n) ++ c1.drop ((l + m) * e.n), post1, ?_, ?_, ?_⟩
        · rw [hnl, Nat.zero_add, e1, hcs1, List.take_append_of_le_length (by omega), List.drop_append_of_le_length (by omega)]
          simp [List.append_assoc]
        · exact (((hel1.keep kk).take l).append ((hel2.keep kk).take m)).append ((hel1.keep kk).drop (l + m))
        · rw [← hlen1]
          simp only [List.length_append, List.length_take, List.length_drop]
          omega
end
end
section
section
variable {P : Program} {env : Env} {d : Option Tmp} {ty t : TypeId} {pos : String} {aft : Array Edge} {g : Option (Nat × Bool)} {x y c : Operand} {w : World} {S : Nat → Prop} {v : Value} {o : Oper}
theorem r_pickT (hc : ev env c = .bool true) (h : ev env x = v) (w : World) : (execOp (ev env) ⟨d, .pick c x y, ty, pos, aft, g⟩).run P w = .ok (.value v) w := pv_run (by simp [pv, hc, h]) w
theorem r_pickF (hc : ev env c = .bool false) (h : ev env y = v) (w : World) : (execOp (ev env) ⟨d, .pick c x y, ty, pos, aft, g⟩).run P w = .ok (.value v) w := pv_run (by simp [pv, hc, h]) w
end
end
section
section
variable {P : Program} {N : Nd} {we : World} {Se : Nat → Prop} {ms : List MF} {Γ : List FF} {Q : Qs} {env0 : Env} {l : List Oper}
theorem put_ne {env : Env} {d : Option Tmp} {v : Value} {t : Tmp} (h : d ≠ some t) : put env d v t = env t := by
  cases d with
  | none => rfl
  | some dd =>
    have hne : ¬ t = dd := fun e => h (by rw [e])
    have : Nat.beq t dd = false := beq_no hne
    simp [put, L, this]
theorem put_eq {env : Env} {v : Value} {t : Tmp} : put env (some t) v t = v := by simp [put, L]
end
end
section
section
variable {P : Program} {N : Nd} {we : World} {Se : Nat → Prop} {ms F : List MF} {Γ : List FF} {env : Env} {U : Type} {val : U → Value} {own : U → List MF} {facts : U → List FF} {ok : U → Prop} {fn : Func}
  {ops : Array Oper} {rest : List Oper} {d : Option Tmp} {t ty yt : TypeId} {pos : String} {aft : Array Edge} {g : Option (Nat × Bool)} {x y : Operand}
theorem og_append {α : Type} {e : ERep α} {et : TypeId} {xs ys : List α} {v u : Value} {bytes : Nat} {zero : Value} (i : Nat)
    (ht : P.underlying t = some (.slice et)) (het : TyF P et e.agg e.n bytes zero) (hzs : zero.cells.size = e.n) (hn : 0 < e.n)
    (hm : ms[i]? = some (mO e et v xs)) (hx : ev env x = v) (hy : ev env y = u) (hf : ∀ (S : Nat → Prop) (w : World), All S Γ w → (fV (eS e) ys u).p S w)
    (h63 : xs.length + ys.length ≤ 9223372036854775807) (hb : (xs.length + ys.length) * bytes ≤ 140737488355328) :
    OG P ⟨d, .call ⟨.builtin .append, #[x, y], #[t, t]⟩, ty, pos, aft, g⟩ env we Se ms Γ (fun v' => v') (fun v' => ms.set i (mO e et v' (xs ++ ys))) (fun _ => Γ) (fun _ => True) :=
  og_appendQ i ht het hzs hn hm hx hy (fun S w _ h => SlQ.of (hf S w h)) h63 hb
end
end
section
abbrev InR (x : Int) : Prop := -9223372036854775808 ≤ x ∧ x ≤ 9223372036854775807
abbrev InU (x : Nat) : Prop := x < 18446744073709551616
section
variable {α β : Type}
def ck (p : Prop) [Decidable p] (k : Option α) : Option α := if p then k else none
def ck64 (e : Int) (k : Int → Option α) : Option α := if InR e then k e else none
def ckI (i : Int) (n : Nat) (k : Nat → Option α) : Option α := if 0 ≤ i ∧ i < (n : Int) then k i.toNat else none
def ckN (i : Int) (k : Nat → Option α) : Option α := if 0 ≤ i then k i.toNat else none
def nm (e : β) (k : β → Option α) : Option α := k e
def bd (x : Option β) (k : β → Option α) : Option α := match x with
  | some v => k v
  | none => none
def loopN (f : (β → Option α) → β → Option α) : Nat → β → Option α
  | 0, _ => none
  | k + 1, s => f (loopN f k) s
theorem ck_s {p : Prop} [Decidable p] {k : Option α} {r : α} (h : ck p k = some r) : p ∧ k = some r := by grind [ck]
theorem ck64_s {e : Int} {k : Int → Option α} {r : α} (h : ck64 e k = some r) : ∃ x, x = e ∧ InR x ∧ k x = some r := by grind [ck64]
theorem ckI_s {i : Int} {n : Nat} {k : Nat → Option α} {r : α} (h : ckI i n k = some r) : ∃ j : Nat, i = (j : Int) ∧ j < n ∧ k j = some r := by grind [ckI]
theorem ckN_s {i : Int} {k : Nat → Option α} {r : α} (h : ckN i k = some r) : ∃ j : Nat, i = (j : Int) ∧ k j = some r := by grind [ckN]
theorem nm_s {e : β} {k : β → Option α} {r : α} (h : nm e k = some r) : ∃ x, x = e ∧ k x = some r := ⟨e, rfl, h⟩
theorem bd_s {x : Option β} {k : β → Option α} {r : α} (h : bd x k = some r) : ∃ v, x = some v ∧ k v = some r := by
  cases x with
  | none => cases h
  | some v => exact ⟨v, rfl, h⟩
theorem if_t {c : Prop} [Decidable c] {x y : Option α} {r : α} (hc : c) (h : (if c then x else y) = some r) : x = some r := by rwa [if_pos hc] at h
theorem if_f {c : Prop} [Decidable c] {x y : Option α} {r : α} (hc : ¬ c) (h : (if c then x else y) = some r) : y = some r := by rwa [if_neg hc] at h
theorem loopN_z {f : (β → Option α) → β → Option α} {s : β} {r : α} (h : loopN f 0 s = some r) : False := by cases h
theorem loopN_s {f : (β → Option α) → β → Option α} {k : Nat} {s : β} {r : α} (h : loopN f (k + 1) s = some r) : f (loopN f k) s = some r := h
end
section
variable {α β : Type}
theorem ck_t {p : Prop} [Decidable p] {k : Option α} (h : p) : ck p k = k := if_pos h
theorem ck64_t {e : Int} {k : Int → Option α} (h : InR e) : ck64 e k = k e := if_pos h
theorem ckI_t {i : Int} {n : Nat} {k : Nat → Option α} (h : 0 ≤ i ∧ i < (n : Int)) : ckI i n k = k i.toNat := if_pos h
theorem ckI_n {i n : Nat} {k : Nat → Option α} (h : i < n) : ckI (i : Int) n k = k i := by rw [ckI_t ⟨by omega, by omega⟩]; rfl
theorem ckN_t {i : Int} {k : Nat → Option α} (h : 0 ≤ i) : ckN i k = k i.toNat := if_pos h
theorem ckN_n {i : Nat} {k : Nat → Option α} : ckN (i : Int) k = k i := by rw [ckN_t (by omega)]; rfl
theorem nm_t {e : β} {k : β → Option α} : nm e k = k e := rfl
theorem bd_t {x : Option β} {v : β} {k : β → Option α} (h : x = some v) : bd x k = k v := by rw [h]; rfl
theorem loopN_t {f : (β → Option α) → β → Option α} {k : Nat} {s : β} : loopN f (k + 1) s = f (loopN f k) s := rfl
end
theorem len_r {n : Nat} (h : n ≤ 9223372036854775807) : InR (n : Int) := ⟨by omega, by omega⟩
theorem mod_r (x : Nat) : InU (x % 18446744073709551616) := Nat.mod_lt _ (by decide)
theorem eq_u {x e : Nat} (h : x = e) (he : InU e) : InU x := h ▸ he
theorem eq_r {x e : Int} (h : x = e) (he : InR e) : InR x := h ▸ he
theorem eq_mod_r {x e : Nat} (h : x = e % 18446744073709551616) : InU x := h ▸ mod_r e
theorem tmod_r {a b x : Int} (ha : InR a) (h : x = a.tmod b) : InR x := by
  subst h
  have h1 := Int.natAbs_tmod a b
  have h2 := Nat.mod_le a.natAbs b.natAbs
  have h3 : (a.tmod b).natAbs ≤ a.natAbs := by omega
  rcases Int.le_total 0 a with h0 | h0
  · have := Int.tmod_nonneg b h0
    exact ⟨by omega, by omega⟩
  · have : a.tmod b ≤ 0 := by
      have := Int.tmod_nonneg b (a := -a) (by omega)
      rw [Int.neg_tmod] at this; omega
    exact ⟨by omega, by omega⟩
theorem umod_r {a b x : Nat} (ha : InU a) (h : x = a % b) : InU x := by
  have := Nat.mod_le a b; unfold InU at *; omega
theorem udiv_r {a b x : Nat} (ha : InU a) (h : x = a / b) : InU x := by
  have := Nat.div_le_self a b; unfold InU at *; omega
theorem max_r {a b : Int} (ha : InR a) (hb : InR b) : InR (max a b) := by unfold InR at *; omega
theorem min_r {a b : Int} (ha : InR a) (hb : InR b) : InR (min a b) := by unfold InR at *; omega
theorem getE {α : Type} {l : List α} {k : Nat} {y z : α} (h : k < l.length) (hy : y = l.getD k z) : l[k]? = some y := by rw [hy]; exact getD_some z h
def sgn (x : Nat) : Int := if x < 9223372036854775808 then (x : Int) else (x : Int) - 18446744073709551616
def uns (x : Int) : Nat := (x % 18446744073709551616).toNat
theorem sgn_r {x : Nat} (h : InU x) : InR (sgn x) := by unfold sgn InU at *; split <;> constructor <;> omega
theorem uns_r (x : Int) : InU (uns x) := by unfold uns InU; omega
theorem wrap_sgn {x : Nat} (h : InU x) : IntKind.i64.wrap (x : Int) = sgn x := by
  unfold sgn
  unfold InU at h
  split
  · exact w64 ⟨by omega, by omega⟩
  · rename_i h2
    have h3 : IntKind.i64.wrap (x : Int) = IntKind.i64.wrap ((x : Int) - 18446744073709551616) := by
      simp [IntKind.wrap, IntKind.bits, IntKind.signed]
      all_goals omega
    rw [h3]; exact w64 ⟨by omega, by omega⟩
theorem wrap_uns (x : Int) : IntKind.u64.wrap x = ((uns x : Nat) : Int) := by rw [wu64_int]; unfold uns; omega
theorem w_x {x c : Int} (h : c = x) (hb : InR c) : IntKind.i64.wrap x = c := by subst h; exact w64 hb
theorem wu_x {k : IntKind} {x : Int} {c n : Nat} (h : c = n) (hb : k.wrap x = (n : Int)) : k.wrap x = (c : Int) := by rw [hb, h]
def OpP (P : Program) (o : Oper) (env : Env) (w : World) (K : List PanicEntry → World → Prop) : Prop := (∀ c, o.op ≠ .defer c) ∧
  match (execOp (ev env) o).run P w with
  | .ok (.enter f args) w' => Calls P f args w' (fun e w'' => ∃ ch, e = .panicked ch ∧ K ch w'')
  | .halt (.panic v) w' => K [{ v, recovered := false }] w'
  | _ => False
theorem OpP.wp {P : Program} {o : Oper} {a : Act} {w : World} {K : List PanicEntry → World → Prop} {K' : Act → World → Prop} {Q : Exit → Act → World → Prop} {N : Nd}
    (h : OpP P o (envOf a) w K) (hk : ∀ ch w', K ch w' → Q (.panic ch) a w') : o.wpIn N.F 0 P a w K' Q := by
  obtain ⟨hd, h⟩ := h
  unfold Oper.wpIn
  refine ⟨fun _ _ => trivial, ?_⟩
  rw [eval_eq]
  show Oper.uponIn N.F 0 P o a K' Q ((o.semAt N.rd (ev (envOf a))).run P w)
  rw [Oper.semAt_eq _ _ _ hd]
  generalize (execOp (ev (envOf a)) o).run P w = r at *
  cases r with
  | ok n w' =>
    cases n <;> simp only at h
    case enter f args => exact ⟨fun e => by simp [Nd.F, Fence.wide] at e, CallsIn.mono (callsIn_wide.2 h) fun e w'' ⟨ch, he, hv⟩ => by subst he; exact hk _ _ hv⟩
  | halt x w' =>
    cases x <;> simp only at h
    case panic v => exact hk _ _ h
theorem OpP.mono {P : Program} {o : Oper} {env : Env} {w : World} {K K' : List PanicEntry → World → Prop} (h : OpP P o env w K) (hk : ∀ ch w', K ch w' → K' ch w') : OpP P o env w K' := by
  unfold OpP at *
  refine ⟨h.1, ?_⟩
  have h := h.2
  generalize (execOp (ev env) o).run P w = r at *
  cases r with
  | ok n w' =>
    cases n <;> simp only at h ⊢
    case enter f args => exact h.mono fun e w'' ⟨v, he, hv⟩ => ⟨v, he, hk _ _ hv⟩
  | halt x w' =>
    cases x <;> simp only at h ⊢
    case panic v => exact hk _ _ h
theorem WpL_pan {P : Program} {env : Env} {w : World} {N : Nd} {ops : Array Oper} {o : Oper} {rest : List Oper} {Q : Qs} (hw : wantedE ops env o = true) (h : OpP P o env w (fun ch w' => Q (.panic ch) env w')) : WpL P N ops (o :: rest) Q env w := by
  intro a h1 h2 h3
  subst h3
  unfold wpListIn
  rw [if_pos (by rw [wanted_eq]; exact hw)]
  exact h.wp fun ch w' hk => ⟨h1, h2, hk⟩
abbrev PX := TypeId × Int
def chOf (q : PX) : List PanicEntry := [{ v := .iface q.1 (.agg #[.int .i64 q.2]), recovered := false }]
inductive Tg
  | n
  | x (i : Nat)
  | r
  | p (q : PX)
def tgB : Tg → Exit → Bool
  | .n, .normal => true
  | .x i, .exit j => Nat.beq i j
  | .r, .ret => true
  | _, _ => false
def tgE : Tg → Exit
  | .n => .normal
  | .x i => .exit i
  | .r => .ret
  | .p q => .panic (chOf q)
theorem tgB_eq {t : Tg} {e : Exit} (h : tgB t e = true) : e = tgE t := by
  cases t <;> cases e <;> first | rfl | cases h | skip
  rename_i i j
  rw [Nat.eq_of_beq_eq_true (show Nat.beq i j = true from h)]; rfl
def XQ : List (Tg × (Env → World → Prop)) → Qs
  | [], _, _, _ => False
  | (t, J) :: r, e, env, w => bif tgB t e then J env w else XQ r e env w
def XK (Q : Qs) : List (Tg × (Env → World → Prop)) → Prop
  | [] => True
  | (t, J) :: r => (∀ env w, J env w → Q (tgE t) env w) ∧ XK Q r
theorem XQ_to {Q : Qs} : ∀ {l : List (Tg × (Env → World → Prop))}, XK Q l → ∀ e env w, XQ l e env w → Q e env w
  | [], _, _, _, _, h => h.elim
  | (t, J) :: r, k, e, env, w, h => by
    unfold XQ at h
    cases ht : tgB t e
    · rw [ht] at h; exact XQ_to k.2 e env w h
    · rw [ht] at h
      rw [tgB_eq ht]; exact k.1 env w h
inductive JQ (we : World) (Se : Nat → Prop) {G : Type} (inv : G → Inv) (ok : G → Prop) (env : Env) (w : World) : Prop
  | mk (g : G) (h1 : ok g) (h2 : agree env (inv g).live) (h3 : St we Se (inv g).ms (inv g).Γ w) : JQ we Se inv ok env w
section
variable {P : Program} {N : Nd} {we : World} {Se : Nat → Prop} {ms : List MF} {Γ : List FF} {Q : Qs} {env : Env}
theorem T_X (l : List (Tg × (Env → World → Prop))) {c : Code} (h : T P N we Se ms Γ c (XQ l) env) (k : XK Q l) : T P N we Se ms Γ c Q env :=
  fun w hw a h1 h2 h3 => wpIn_mono (h w hw a h1 h2 h3) fun e a' w' ⟨q1, q2, q3⟩ => ⟨q1, q2, XQ_to k e _ _ q3⟩
theorem JQ_mk {G : Type} {inv : G → Inv} {ok : G → Prop} (g : G) (h1 : ok g) (h2 : agree env (inv g).live) (hs : ∀ w, St we Se ms Γ w → St we Se (inv g).ms (inv g).Γ w) :
    ∀ w, St we Se ms Γ w → JQ we Se inv ok env w := fun w hw => ⟨g, h1, h2, hs w hw⟩
theorem JQ_el {G : Type} {inv : G → Inv} {ok : G → Prop} {R : Env → World → Prop} (k : ∀ g, ok g → ∀ rest w, St we Se (inv g).ms (inv g).Γ w → R (L (inv g).live rest) w) :
    ∀ env w, JQ we Se inv ok env w → R env w := fun env w ⟨g, h1, h2, h3⟩ => by
  have := k g h1 env w h3
  rwa [L_agree h2] at this
end
end
section
section
variable {P : Program} {N : Nd} {we : World} {Se : Nat → Prop} {ms F : List MF} {Γ : List FF} {Q : Qs} {env : Env} {ops : Array Oper} {rest : List Oper} {o : Oper}
  {d : Option Tmp} {ty yt t ti t' : TypeId} {pos : String} {aft : Array Edge} {g : Option (Nat × Bool)} {x y : Operand}
theorem v_i {k : IntKind} {c z : Int} (h : ∀ w, (execOp (ev env) o).run P w = .ok (.value (.int k c)) w) (hz : z = c) : ∀ w, (execOp (ev env) o).run P w = .ok (.value (.int k z)) w := by
  subst hz; exact h
theorem v_bool {c z : Bool} (h : ∀ w, (execOp (ev env) o).run P w = .ok (.value (.bool c)) w) (hz : z = c) : ∀ w, (execOp (ev env) o).run P w = .ok (.value (.bool z)) w := by
  subst hz; exact h
theorem n_shr_u {a : Nat} {b : Int} : ((a : Nat) : Int).fdiv (2 ^ (min b.toNat IntKind.u64.bits)) = ((a / 2 ^ (min b.toNat 64) : Nat) : Int) := by
  have : IntKind.u64.bits = 64 := rfl
  rw [this, Int.fdiv_eq_ediv_of_nonneg _ (by have : (0:Int) ≤ 2 ^ (min b.toNat 64) := Int.pow_nonneg (by decide); exact this)]
  try norm_cast
theorem n_shl_u {a : Nat} {b : Int} : IntKind.u64.wrap (((a : Nat) : Int) * 2 ^ (min b.toNat IntKind.u64.bits)) = ((a * 2 ^ (min b.toNat 64) % 18446744073709551616 : Nat) : Int) := by
  have : IntKind.u64.bits = 64 := rfl
  rw [this]
  have h := wu64 (a * 2 ^ (min b.toNat 64))
  rw [← h]; congr 1
theorem fdiv_r {a x : Int} {k : Nat} (ha : InR a) (h : x = a.fdiv (2 ^ k)) : InR x := by
  have hp : (0 : Int) < 2 ^ k := Int.pow_pos (by decide)
  rw [Int.fdiv_eq_ediv_of_nonneg _ (by omega)] at h
  subst h
  obtain ⟨h1, h2⟩ := ha
  have h3 := Int.natAbs_ediv_le_natAbs a (2 ^ k)
  generalize hq : a / 2 ^ k = q at *
  rcases (show a < 0 ∨ 0 ≤ a by omega) with h0 | h0
  · have := Int.ediv_neg_of_neg_of_pos h0 hp
    constructor <;> omega
  · constructor <;> omega
def andI (a b : Int) : Int := sgn (uns a &&& uns b)
def orI (a b : Int) : Int := sgn (uns a ||| uns b)
theorem and_lt_u {a b : Nat} (ha : InU a) : InU (a &&& b) := Nat.lt_of_le_of_lt Nat.and_le_left ha
theorem or_lt_u {a b : Nat} (ha : InU a) (hb : InU b) : InU (a ||| b) := Nat.or_lt_two_pow (n := 64) ha hb
theorem mod_in {a : Nat} (ha : InU a) : (((a : Nat) : Int) % 2 ^ IntKind.u64.bits).toNat = a := by
  have : (2 : Int) ^ IntKind.u64.bits = 18446744073709551616 := rfl
  rw [this]; unfold InU at ha; omega
theorem n_and_u {a b : Nat} (ha : InU a) (hb : InU b) : IntKind.u64.wrap ((((((a : Nat) : Int) % 2 ^ IntKind.u64.bits).toNat &&& (((b : Nat) : Int) % 2 ^ IntKind.u64.bits).toNat : Nat)) : Int) = ((a &&& b : Nat) : Int) := by grind [mod_in, wu64_in, and_lt_u]
theorem n_or_u {a b : Nat} (ha : InU a) (hb : InU b) : IntKind.u64.wrap ((((((a : Nat) : Int) % 2 ^ IntKind.u64.bits).toNat ||| (((b : Nat) : Int) % 2 ^ IntKind.u64.bits).toNat : Nat)) : Int) = ((a ||| b : Nat) : Int) := by grind [mod_in, wu64_in, or_lt_u]
theorem n_and_i {a b : Int} : IntKind.i64.wrap (((a % 2 ^ IntKind.i64.bits).toNat &&& (b % 2 ^ IntKind.i64.bits).toNat : Nat) : Int) = andI a b := wrap_sgn (and_lt_u (uns_r a))
theorem n_or_i {a b : Int} : IntKind.i64.wrap (((a % 2 ^ IntKind.i64.bits).toNat ||| (b % 2 ^ IntKind.i64.bits).toNat : Nat) : Int) = orI a b := wrap_sgn (or_lt_u (uns_r a) (uns_r b))
theorem andI_r (a b : Int) : InR (andI a b) := sgn_r (and_lt_u (uns_r a))
theorem orI_r (a b : Int) : InR (orI a b) := sgn_r (or_lt_u (uns_r a) (uns_r b))
theorem nz_u {b : Nat} (h : b ≠ 0) : ((b : Nat) : Int) ≠ 0 := by omega
theorem mk_le {B n : Nat} (hB : 0 < B) (h : B * n ≤ 281474976710656) : n ≤ 9223372036854775807 := by
  have := Nat.le_mul_of_pos_left n hB; omega
theorem og_make' {α : Type} {e : ERep α} {et : TypeId} {z : α} {xs : List α} {n bytes : Nat} {zero : Value} {yy : Operand} {kl kc : IntKind} (ht : P.underlying t = some (.slice et)) (het : TyF P et e.agg e.n bytes zero) (hx : ev env x = .int kl (n : Int)) (hy : ev env yy = .int kc (n : Int)) (hB : 0 < bytes) (hb : bytes * n ≤ 281474976710656)
    (hz : ∀ (S : Nat → Prop) (w : World), e.p S z zero.cells.toList w) (hxs : xs = List.replicate n z) : OG P ⟨d, .makeSlice t x yy, ty, pos, aft, g⟩ env we Se ms Γ (fun b => (.slice (some ⟨b, 0, none⟩) n n)) (fun b => (mB (rowT e n) et b xs :: ms)) (fun _ => Γ) (fun _ => True) := by
  subst hxs
  intro w hst
  refine (og_make ht het hx hy hb (mk_le hB hb) hz w hst).mono ?_
  rintro v w' ⟨b, h1, h2, h3⟩
  exact ⟨b, h1, h2, h3.rowRT 0 rfl (by simp)⟩
end
end
section
theorem inj1 {α : Type} {a x : α} (h : some a = some x) : a = x := Option.some.inj h
theorem wu_y {x : Int} {c n : Nat} (h : c = n) (hb : x = (n : Int)) : x = (c : Int) := by rw [hb, h]
theorem add64_r {x y z q : Nat} (hx : InU x) (hy : InU y) (hz : z ≤ 1) (h : q = (x + y + z) / 18446744073709551616) : InU q := by unfold InU at *; omega
theorem sub64_r {x y z q : Nat} (_ : InU x) (_ : InU y) (_ : z ≤ 1) (h : q = if x < y + z then 1 else 0) : InU q := by unfold InU; split at h <;> omega
theorem v_2 {P : Program} {env : Env} {o : Oper} {k k' : IntKind} {a b x y : Nat} (h : ∀ w, (execOp (ev env) o).run P w = .ok (.value (.tuple #[.int k ((a : Nat) : Int), .int k' ((b : Nat) : Int)])) w) (hx : x = a) (hy : y = b) :
    ∀ w, (execOp (ev env) o).run P w = .ok (.value (.tuple #[.int k ((x : Nat) : Int), .int k' ((y : Nat) : Int)])) w := by subst hx; subst hy; exact h
def JG (we : World) (Se : Nat → Prop) (i : Inv) (R : Env → World → Prop) (rest : Env) : Prop := ∀ w, St we Se i.ms i.Γ w → R (L i.live rest) w
theorem JQ_el' {we : World} {Se : Nat → Prop} {G : Type} {inv : G → Inv} {ok : G → Prop} {R : Env → World → Prop} (k : ∀ g, ok g → ∀ rest, JG we Se (inv g) R rest) :
    ∀ env w, JQ we Se inv ok env w → R env w := JQ_el k
theorem JG_to {we : World} {Se : Nat → Prop} {i : Inv} {R : Env → World → Prop} {rest : Env} {ms' : List MF} {Γ' : List FF} {live' : List (Nat × Value)} (h : i = ⟨ms', Γ', live'⟩) (k : ∀ w, St we Se ms' Γ' w → R (L live' rest) w) : JG we Se i R rest := by
  subst h; exact k
theorem wpIn_scope {F : Fence} {n : Nat} {P : Program} {a : Act} {w : World} {Q : Exit → Act → World → Prop} {c : Code} (h : c.wpIn F n P (Exit.noGoto Q) a w) : (Code.scope c).wpIn F n P Q a w := by
  intro b k cs hro hb hr
  have s1 : ∀ {cs : List Frame} {k : List Item}, step P (lone (b.atR a (.code (.scope c) :: k)) cs w) = .next (lone (b.atR a (.code c :: .inScope c :: k)) cs w) := step_lone_go (by simp [stepG, stepG.exec, Frame.atR])
  have s2 : ∀ {a : Act} {w : World} {cs : List Frame} {k : List Item}, step P (lone (b.atR a (.inScope c :: k)) cs w) = .next (lone (b.atR a k) cs w) := step_lone_go (by simp [stepG, stepG.exec, Frame.atR])
  have h0 : (lone (b.atR a (.code (.scope c) :: k)) cs w).fenced P F := fenced_calm hb hr rfl
  obtain ⟨e, a₁, w₁, hq, harr⟩ := h b (.inScope c :: k) cs hro hb hr
  cases e with
  | normal => exact ⟨.normal, a₁, w₁, hq, .head h0 s1 (StepsIn.trans harr (.one (fenced_calm hb hr rfl) s2))⟩
  | exit id => exact ⟨.exit id, a₁, w₁, hq, fun k' hk => .head h0 s1 (harr.1 k' (by simp [exitTo, hk])), fun hr' hk => let ⟨k₁, h1, h2⟩ := harr.2 hr' (by simp [exitTo, hk]); ⟨k₁, h1, .head h0 s1 h2⟩⟩
  | goto l => exact hq.elim
  | ret => exact ⟨_, a₁, w₁, hq, .of_steps (.one h0 s1) harr⟩
  | panic ch => exact ⟨_, a₁, w₁, hq, .of_steps (.one h0 s1) harr⟩
  | outgrown => exact ⟨_, a₁, w₁, hq, .of_steps (.one h0 s1) harr⟩
section
variable {P : Program} {N : Nd} {we : World} {Se : Nat → Prop} {ms : List MF} {Γ : List FF} {Q : Qs} {env : Env} {ops : Array Oper} {d : Option Tmp} {ty t : TypeId} {pos : String} {aft : Array Edge} {g : Option (Nat × Bool)}
def plB (P : Program) (t : TypeId) : Option (Array (Nat × Nat)) := match P.underlying t with
  | some (.struct fs) => (fs.toList.mapM fun f => (P.info? f.type).map fun i => (f.offset, i.size)).map (·.toArray)
  | _ => none
theorem plB_list (w : World) : ∀ (l : List Field) (r : List (Nat × Nat)), (l.mapM fun f => (P.info? f.type).map fun i => (f.offset, i.size)) = some r → (l.mapM (fun f => do pure (f.offset, ← sizeOf f.type)) : Sem (List (Nat × Nat))).run P w = .ok r w
  | [], r, h => by simp at h; subst h; simp
  | f :: l, r, h => by
    rw [List.mapM_cons] at h
    cases hi : P.info? f.type with
    | none => rw [hi] at h; simp at h
    | some i =>
      rw [hi] at h
      cases hl : (l.mapM fun f => (P.info? f.type).map fun i => (f.offset, i.size)) with
      | none => rw [hl] at h; simp at h
      | some q =>
        rw [hl] at h
        simp at h
        subst h
        have ih := plB_list w l q hl
        have hs : (sizeOf f.type).run P w = .ok i.size w := by simp [sizeOf, typeInfo, hi]
        rw [List.mapM_cons]
        simp only [Sem.run_bind, hs, ih, Result.andThen_ok, Sem.run_pure]
theorem plB_run {pl : Array (Nat × Nat)} (h : plB P t = some pl) : ∃ fs, P.underlying t = some (.struct fs) ∧ ∀ w, (fs.mapM (fun f => do pure (f.offset, ← sizeOf f.type)) : Sem (Array (Nat × Nat))).run P w = .ok pl w := by
  unfold plB at h
  split at h
  · next fs hu =>
    refine ⟨fs, hu, fun w => ?_⟩
    cases hl : (fs.toList.mapM fun f => (P.info? f.type).map fun i => (f.offset, i.size)) with
    | none => rw [hl] at h; cases h
    | some q =>
      rw [hl] at h
      cases h
      have := plB_list w fs.toList q hl
      rw [Array.mapM_eq_mapM_toList]
      simp only [Sem.run_map, this, Result.andThen_ok]
  · cases h
theorem wu8 (n : Nat) : IntKind.u8.wrap (n : Int) = ((n % 256 : Nat) : Int) := by
  simp [IntKind.wrap, IntKind.bits, IntKind.signed]
theorem mod8_r {x e : Nat} (h : x = e % 256) : x < 256 := h ▸ Nat.mod_lt _ (by decide)
theorem b_r {x : Nat} (h : x < 256) : InR (x : Int) := ⟨by omega, by omega⟩
theorem r_len8 {x y : Operand} {s : ByteArray} {k : IntKind} {j z : Nat} (ht : P.underlying t = some .string) (hx : ev env x = .string s) (hs : s = Lib.len8tab) (hy : ev env y = .int k (j : Int)) (hj : j < 256) (hz : z = Lib.bitLen j) (w : World) :
    (execOp (ev env) ⟨d, .index t x y, ty, pos, aft, g⟩).run P w = .ok (.value (.int .u8 ((z : Nat) : Int))) w := by
  subst hs; subst hz
  have h := Lib.run_index_len8tab (P := P) w t k (j : Int) ht (by omega) (by omega)
  rw [Lib.len8_of _ (by omega) (by omega)] at h
  simp [execOp, hx, hy, h]
theorem bitLen8_r {j z : Nat} (hj : j < 256) (hz : z = Lib.bitLen j) : z < 256 := by
  have := Lib.bitLen_le8' (j : Int) (by omega) (by omega)
  simp at this; omega
theorem fill_step {place : Nat → Option (Nat × Nat)} {i off : Nat} {v : Value} {pre c post : List Value} {r : List (Nat × Value)} (hp : place i = some (off, v.cells.size)) (ho : pre.length = off) (hc : c.length = v.cells.size) :
    Instr.fill place (pre ++ c ++ post).toArray ((i, v) :: r) = Instr.fill place (pre ++ v.cells.toList ++ post).toArray r := by
  subst ho
  have hfold : v.cells.zipIdx.foldl (fun cs (x : Value × Nat) => cs.setIfInBounds (pre.length + x.2) x.1) (pre ++ c ++ post).toArray = (pre ++ v.cells.toList ++ post).toArray := by
    apply Array.ext'
    rw [← Array.foldl_toList, Array.toList_zipIdx, foldl_set pre.length v.cells.toList 0 _ (by simp; omega)]
    have e1 : (pre ++ c ++ post).take pre.length = pre := by rw [List.append_assoc, List.take_left']; rfl
    have e2 : (pre ++ c ++ post).drop (pre.length + v.cells.toList.length) = post := by
      rw [List.drop_left']; simp; omega
    simp only [Nat.add_zero, List.toList_toArray] at *
    rw [e1, e2]
  conv => lhs; unfold Instr.fill
  simp only [hp]
  rw [if_neg (by simp; omega)]
  exact congrArg (fun a => Instr.fill place a r) hfold
theorem oe_buildH {α : Type} {e : ERep α} {z0 z : α} {bytes : Nat} {zero : Value} {parts : List (Nat × Operand)} {vs : List (Nat × Value)} {pl : Array (Nat × Nat)} (ht : TyF P t true e.n bytes zero) (hag : e.agg = true)
    (hz : ∀ (S : Nat → Prop) (w : World), e.p S z0 zero.cells.toList w) (hpl : ∃ fs, P.underlying t = some (.struct fs) ∧ ∀ w, (fs.mapM (fun f => do pure (f.offset, ← sizeOf f.type)) : Sem (Array (Nat × Nat))).run P w = .ok pl w)
    (hv : parts.map (fun x => (x.1, ev env x.2)) = vs) (q : List Value → Prop) (hH : ∀ (S : Nat → Prop) (w : World), All S Γ w → ∀ cs, cs = zero.cells.toList → e.p S z0 cs w → ∃ out, Instr.fill (pl[·]?) cs.toArray vs = some out.toArray ∧ e.p S z out w ∧ q out) :
    OpE P ⟨d, .build t parts.toArray, ty, pos, aft, g⟩ env ms Γ (fun v : Value => v) (fun v => [fV e z v]) (fun v => q v.cells.toList) := by
  intro w S _ _ hΓ
  obtain ⟨out, h1, h2, h3⟩ := hH S w hΓ _ rfl (hz S w)
  refine OpR.of_value (w' := w) (v := .agg out.toArray) ?_ ⟨_, rfl, by simpa [Value.cells] using h3, Keeps.refl _ _, ⟨⟨out, by simp [ERep.val, hag], h2⟩, trivial⟩⟩
  obtain ⟨fs, hu, hrun⟩ := hpl
  have hv' : parts.toArray.map (fun x => (x.1, ev env x.2)) = vs.toArray := by rw [← hv]; simp
  simp only [execOp, Sem.run_bind]
  have hb : (Instr.build t (parts.toArray.map fun x => (x.1, ev env x.2))).run P w = .ok (.agg out.toArray) w := by
    rw [hv']
    unfold Instr.build
    rw [Array.toArray_toList] at h1
    simp only [Sem.run_bind, run_zeroValue ht, Result.andThen_ok, run_underlying hu, hrun, h1, Sem.run_pure]
  rw [hb]; rfl
end
end
section
def ins (D : Nat → Bool) (i : Nat) : Nat → Bool := fun k => D k || Nat.beq k i
theorem ins_self (D : Nat → Bool) (i : Nat) : ins D i i = true := by simp [ins]
theorem ins_ne {D : Nat → Bool} {i k : Nat} (h : k ≠ i) : ins D i k = D k := by simp [ins, beq_no h]
theorem ins_old {D : Nat → Bool} {i k : Nat} (h : D k = true) : ins D i k = true := by simp [ins, h]
section
variable {P : Program} {N : Nd} {we : World} {Se : Nat → Prop} {ms : List MF} {Γ : List FF} {Q : Qs} {env0 : Env} {l : List Oper} {m : Nat}
theorem T_invP {id : Nat} (m : Nat) (I : (Nat → Bool) → Env → World → Prop) (hm : P.follows .mixedOrders = true) (hc : drawOK2 l m = true) (hd : (l.all fun o => okDst N.n o.dst) = true)
    (h00 : ∀ w, St we Se ms Γ w → I (fun _ => false) env0 w)
    (step : ∀ (D : Nat → Bool) (i : Nat) (env : Env) (w : World), i < m → D i = false → (∀ j, D j = true → j < m) → (∀ e ∈ (opAt l i).after, Region.binds .any e = true → D e.on = true) →
      (∀ j, D j = true → ∀ e ∈ (opAt l j).after, Region.binds .any e = true → D e.on = true) → I D env w →
      (wantedE l.toArray env (opAt l i) = true → OpR P (opAt l i) env w (fun v w' => I (ins D i) (put env (opAt l i).dst v) w') ∨ OpP P (opAt l i) env w (fun ch w' => Q (.panic ch) env w')) ∧
      (wantedE l.toArray env (opAt l i) = false → I (ins D i) (put env (opAt l i).dst undef) w))
    (fin : ∀ (D : Nat → Bool) (env : Env) (w : World), (∀ j, j < m → D j = true) → (∀ j, D j = true → j < m) → I D env w → WpL P N l.toArray (l.drop m) Q env w) :
    T P N we Se ms Γ (.region id l.toArray true) Q env0 := by
  intro w0 hst a0 ha1 ha2 ha3
  obtain ⟨h0, h1, h2, h3, h3'⟩ := draw_parts2 hc
  refine wpIn_region_any hm ?_
  have gE : ∀ {listed : Array Bool} {i : Nat}, i < listed.size → listed.getD i true = listed.getD i false := fun {listed i} h => by
    simp [Array.getD_eq_getD_getElem?, Array.getElem?_eq_getElem h]
  have gO : ∀ {listed : Array Bool} {i : Nat}, listed.getD i false = true → i < listed.size := fun {listed i} h => by
    rcases Nat.lt_or_ge i listed.size with hlt | hge
    · exact hlt
    · simp [Array.getD_eq_getD_getElem?, Array.getElem?_eq_none hge] at h
  have key : ∀ (fuel : Nat) (listed : Array Bool) (a : Act) (w : World), (List.range l.length).countP (fun k => !listed.getD k true) ≤ fuel → listed.size = l.length → a.tmps.size = N.n → a.defers = N.ds →
      (∀ i, m ≤ i → i < l.length → listed.getD i true = false) →
      (∀ i, i < l.length → listed.getD i false = true → ∀ e ∈ (opAt l i).after, Region.binds .any e = true → listed.getD e.on false = true) →
      I (fun i => listed.getD i false) (envOf a) w → wpAnyIn N.F 0 P .any l.toArray (lift N Q) fuel listed a w := by
    intro fuel
    induction fuel with
    | zero =>
      intro listed a w hcnt hsz b1 b2 htail hdown hI
      have hall : ∀ k, k < l.length → listed.getD k true = true := fun k hk => by
        have hz : (List.range l.length).countP (fun k => !listed.getD k true) = 0 := by omega
        rw [List.countP_eq_zero] at hz
        have := hz k (List.mem_range.2 hk)
        simpa using this
      have hml : m = l.length := by
        rcases Nat.lt_or_ge m l.length with hlt | hge
        · have h5 := htail m (Nat.le_refl _) hlt; rw [hall m hlt] at h5; cases h5
        · omega
      refine any_tail2 hc 0 m listed a w (Nat.le_refl _) h0 (by omega) hsz (fun k hk => by rw [hall k hk]; simp; omega) ?_
      exact fin _ _ w (fun j hj => by rw [← gE (by omega)]; exact hall j (by omega)) (fun j hj => by have := gO hj; omega) hI a b1 b2 rfl
    | succ fuel ih =>
      intro listed a w hcnt hsz b1 b2 htail hdown hI
      by_cases hall : ∀ k, k < m → listed.getD k true = true
      · have hli : ∀ k, k < l.length → listed.getD k true = decide (k < m) := fun k hk => by
          by_cases hkm : k < m
          · rw [hall k hkm]; simp [hkm]
          · rw [htail k (by omega) hk]; simp [hkm]
        refine any_tail2 hc (fuel + 1) m listed a w (Nat.le_refl _) h0 (Nat.le_trans ?_ hcnt) hsz hli ?_
        · rw [show (List.range l.length).countP (fun k => !listed.getD k true) = (List.range l.length).countP (fun k => !decide (k < m)) from List.countP_congr fun k hk => by rw [hli k (List.mem_range.1 hk)]]
          exact T_draw.count_ge m [] m l.length
        · refine fin _ _ w (fun j hj => by rw [← gE (by omega)]; exact hall j hj) (fun j hj => ?_) hI a b1 b2 rfl
          rcases Nat.lt_or_ge j m with h | h
          · exact h
          · have hjs := gO hj
            rw [← gE hjs, htail j h (by omega)] at hj; cases hj
      · have hex : ∃ k, k < m ∧ listed.getD k true = false := by
          by_cases hh : ∃ k, k < m ∧ listed.getD k true = false
          · exact hh
          · exact absurd (fun k hk => by
              cases hb : listed.getD k true
              · exact absurd ⟨k, hk, hb⟩ hh
              · rfl) hall
        refine ⟨fun hr => ?_, fun i hi => ?_⟩
        · exfalso
          obtain ⟨k, hk, hku, hmin⟩ := T_draw.first_un m [] hex
          have : k ∈ Region.ready .any l.toArray listed := mem_ready.2 ⟨hku, opAt l k, opAt_eq (by omega), fun e he hb => by
            have h5 := h1 k (by omega) e he hb
            have h6 := hmin e.on h5
            rwa [gE (by omega : e.on < listed.size)] at h6⟩
          rw [hr] at this; cases this
        · obtain ⟨hu, o, ho, hedge⟩ := mem_ready.1 hi
          have hil : i < l.length := by simpa using (Array.getElem?_eq_some_iff.1 ho).1
          rw [opAt_eq hil] at ho
          cases ho
          have him : i < m := by
            rcases Nat.lt_or_ge i m with h | h
            · exact h
            · exfalso
              by_cases hmi : m = i
              · subst hmi
                obtain ⟨k, hk, hku⟩ := hex
                have h6 := reach_listed hdown h1 16 m k hil hedge (h3' hil k hk)
                rw [← gE (by omega : k < listed.size), hku] at h6
                cases h6
              · obtain ⟨e, he, hb, hon⟩ := edge_of (h3 i (by omega) hil)
                have h6 := hedge e he hb
                rw [hon, ← gE (by omega : i - 1 < listed.size), htail (i - 1) (by omega) (by omega)] at h6
                cases h6
          have hisz : i < listed.size := by omega
          have hdi : okDst N.n (opAt l i).dst = true := by
            rw [List.all_eq_true] at hd
            refine hd _ ?_
            have : opAt l i = l[i] := by simp [opAt, hil]
            rw [this]; exact List.getElem_mem _
          have hlow : ∀ j, (fun i => listed.getD i false) j = true → j < m := fun j hj => by
            rcases Nat.lt_or_ge j m with h | h
            · exact h
            · have hjs := gO hj
              have hj' : listed.getD j false = true := hj
              rw [← gE hjs, htail j h (by omega)] at hj'; cases hj'
          have hs := step (fun i => listed.getD i false) i (envOf a) w him (by rw [← gE hisz]; exact hu) hlow hedge (fun j hj => hdown j (by have := hlow j hj; omega) hj) hI
          have hins : (fun k => (listed.setIfInBounds i true).getD k false) = ins (fun i => listed.getD i false) i := by
            funext k
            by_cases hki : i = k
            · subst hki; rw [ins_self]; simp [hisz]
            · rw [getD_set_ne false hki, ins_ne (fun e => hki e.symm)]
          have next : ∀ v w', I (ins (fun i => listed.getD i false) i) (put (envOf a) (opAt l i).dst v) w' → wpAnyIn N.F 0 P .any l.toArray (lift N Q) fuel (listed.setIfInBounds i true) (a.put (opAt l i).dst v) w' := by
            intro v w' hv
            refine ih _ _ w' ?_ (by simpa using hsz) (by rw [size_put]; exact b1) (by rw [defers_put]; exact b2) (fun k hmk hk => ?_) (fun k hk hlk e he hb => ?_) ?_
            · have := (count_set hisz hu (List.range l.length)).2 (List.mem_range.2 hil)
              omega
            · rw [getD_set_ne true (by omega)]; exact htail k hmk hk
            · by_cases hki : i = k
              · subst hki; exact getD_set_true (hedge e he hb)
              · rw [getD_set_ne false hki] at hlk; exact getD_set_true (hdown k hk hlk e he hb)
            · rw [envOf_put (by rw [b1]; exact okDst_lt hdi), hins]; exact hv
          unfold wpOpIn
          rw [opAt_eq hil]
          simp only [wanted_eq]
          cases hwnt : wantedE l.toArray (envOf a) (opAt l i)
          · simp only [Bool.false_eq_true, if_false]
            exact ⟨fun _ _ => trivial, next undef w (hs.2 hwnt)⟩
          · simp only [if_true]
            rcases hs.1 hwnt with h | h
            · exact h.wp fun v w' hvw => next v w' hvw
            · exact h.wp fun ch w' hk => ⟨b1, b2, hk⟩
  refine key l.toArray.size _ a0 _ ?_ (by simp) ha1 ha2 (fun i hmi hi => by simp [hi]) (fun i hi hlt => ?_) ?_
  · exact Nat.le_trans (List.countP_le_length) (by simp)
  · have := gO hlt
    rw [← gE this] at hlt; simp [hi] at hlt
  · have hf : (fun i => (Array.replicate l.toArray.size false).getD i false) = fun _ => false := by
      funext i
      simp only [Array.getD_eq_getD_getElem?, Array.getElem?_replicate]
      split <;> rfl
    rw [hf, ha3]
    exact h00 _ (hst.ext (Ext.drawn w0 _))
end
end
end Go.Proofs.YtbaoeefdjpaomaaDoor
