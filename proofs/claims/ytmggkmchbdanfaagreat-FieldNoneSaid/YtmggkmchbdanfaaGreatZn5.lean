/- What a proof needs: rules of walking, mirrors of functions and their plain laws. No condition. -/
import Derived.Test.YtmggkmchbdanfaaGreatZn4
import Derived.Below
import Derived.Lib.Join
import Derived.Shelf.Strings.Builder1
import Derived.Shelf.Strings.Builder2
import Derived.Shelf.Strings.OnBuilder
import Derived.Shelf.Small.Bits
import Derived.Shelf.Strconv.Itoa0
import Derived.Shelf.Bits.Mul64
import Derived.Ground.Names2Prog
import Derived.Shelf.Slices.ReverseS
import Derived.Shelf.Slices.SearchI
import Derived.Shelf.Slices.Cells
import Derived.Ground.SlgnProg
import Derived.Shelf.SlicesE.Clone
set_option linter.unusedVariables false
set_option linter.unusedSimpArgs false
namespace Go.Proofs
open Go.Shelf
def Tryz.lays156_ren : Go.Shelf.Ren := ⟨fun | 156 => 167 | 165 => 229 | 166 => 230 | 169 => 231 | 240 => 303 | 241 => 304 | 276 => 345 | 277 => 346 | n => n, fun | 31 => 171 | 9 => 9 | 3 => 3 | 4 => 4 | 0 => 0 | 20 => 20 | 72 => 222 | 76 => 226 | 70 => 220 | 37 => 218 | 75 => 225 | 127 => 270 | 164 => 299 | 5 => 5 | 80 => 228 | n => n, fun | n => n⟩
theorem Tryz.lays156 : Go.Proofs.Lays.n156 Tryz.prog Tryz.lays156_ren := {
  mixed := by kernel_rfl
  f156 := Tryz.func167.trans (congrArg some (by kernel_rfl))
  f165 := Tryz.func229.trans (congrArg some (by kernel_rfl))
  f166 := Tryz.func230.trans (congrArg some (by kernel_rfl))
  f169 := Tryz.func231.trans (congrArg some (by kernel_rfl))
  f240 := Tryz.func303.trans (congrArg some (by kernel_rfl))
  f241 := Tryz.func304.trans (congrArg some (by kernel_rfl))
  f276 := Tryz.func345.trans (congrArg some (by kernel_rfl))
  f277 := Tryz.func346.trans (congrArg some (by kernel_rfl))
  t0 := Tryz.underlying0
  a0 := Tryz.isAgg0
  z0 := Tryz.sizeOf0
  v0 := Tryz.zeroValue0
  t3 := Tryz.underlying3
  a3 := Tryz.isAgg3
  z3 := Tryz.sizeOf3
  v3 := Tryz.zeroValue3
  t4 := Tryz.underlying4
  a4 := Tryz.isAgg4
  z4 := Tryz.sizeOf4
  v4 := Tryz.zeroValue4
  t9 := Tryz.underlying9
  a9 := Tryz.isAgg9
  z9 := Tryz.sizeOf9
  v9 := Tryz.zeroValue9
  t20 := Tryz.underlying20
  a20 := Tryz.isAgg20
  z20 := Tryz.sizeOf20
  v20 := Tryz.zeroValue20
  t31 := Tryz.underlying171
  a31 := Tryz.isAgg171
  z31 := Tryz.sizeOf171
  v31 := Tryz.zeroValue171
  t37 := Tryz.underlying218
  a37 := Tryz.isAgg218
  z37 := Tryz.sizeOf218
  v37 := Tryz.zeroValue218
  t70 := Tryz.underlying220
  a70 := Tryz.isAgg220
  z70 := Tryz.sizeOf220
  v70 := Tryz.zeroValue220
  t72 := Tryz.underlying222
  a72 := Tryz.isAgg222
  z72 := Tryz.sizeOf222
  v72 := Tryz.zeroValue222
  t75 := Tryz.underlying225
  a75 := Tryz.isAgg225
  z75 := Tryz.sizeOf225
  v75 := Tryz.zeroValue225
  t76 := Tryz.underlying226
  a76 := Tryz.isAgg226
  z76 := Tryz.sizeOf226
  v76 := Tryz.zeroValue226
  t127 := Tryz.underlying270
  a127 := Tryz.isAgg270
  z127 := Tryz.sizeOf270
  v127 := Tryz.zeroValue270
  t164 := Tryz.underlying299
  a164 := Tryz.isAgg299
  z164 := Tryz.sizeOf299
  v164 := Tryz.zeroValue299 }
theorem Tryz.Builder_Extra_156 : Builder.Extra Tryz.prog Tryz.lays156_ren := {
  sizeBuilder := by kernel_rfl
  liesBuilder := by kernel_rfl
  t5 := Tryz.underlying5
  a5 := Tryz.isAgg5
  z5 := Tryz.sizeOf5
  v5 := Tryz.zeroValue5
  infoByte := by kernel_rfl
  cellsByte := by kernel_rfl
  sizeByte := by kernel_rfl
  neB5 := by decide }
open Go.RowKit in
theorem Tryz.strings_Join_none (a : Option Addr) (c : Nat) (sep : ByteArray) (w : World) :
    Calls Tryz.prog 167 #[.slice a 0 c, .string sep] w fun e w' => e = .returned (.string ⟨#[]⟩) ∧ w' = w := Any.strings_Join_none Tryz.lays156 Tryz.Builder_Extra_156 a c sep w
open Go.RowKit in
theorem Tryz.strings_Join (bk o c : Nat) (xs : List ByteArray) (sep : ByteArray) (w : World) (hcells : ∀ (j : Nat) x, xs[j]? = some x → w.cell? ⟨bk, o + j, none⟩ = some (.string x)) (hbk : bk < w.heap.size) (hN : xs.length ≤ 140737488355328) (hcap : xs.length ≤ c) (hlen : (Lib.join (xs.map (·.data.toList)) sep.data.toList).length ≤ 140737488355328) :
    Calls Tryz.prog 167 #[.slice (some ⟨bk, o, none⟩) xs.length c, .string sep] w fun e w' => e = .returned (.string ⟨(Lib.join (xs.map (·.data.toList)) sep.data.toList).toArray⟩) ∧ Below w.heap.size w w' := Any.strings_Join Tryz.lays156 Tryz.Builder_Extra_156 bk o c xs sep w hcells hbk hN hcap hlen
end Go.Proofs
namespace Go.Proofs.YtmggkmchbdanfaaGreat
section
section
variable {P : Program} {cf : Cf}
theorem den_s (hm : P.follows .mixedOrders = true) (hT : TTok P cf.tt) (hL : ELok P cf.tt) (hC : ∀ s ∈ cf.cs, SigOK P s) (hX : XOK P cf) {n : Nat} : ∀ (c : Code), okC n c = true → DenOK P cf n c
  | .skip, _, R, r, fr, cx, σ, K, Q, N, hN, hrd, h, Ds, env, w, hK, hR => fun _ h1 h2 h3 => wpIn_skip ⟨h1, Ds, h2, h3 ▸ hK .n σ h Ds env w SmO.refl hR⟩
  | .label _, _, R, r, fr, cx, σ, K, Q, N, hN, hrd, h, Ds, env, w, hK, hR => fun _ h1 h2 h3 => wpIn_label ⟨h1, Ds, h2, h3 ▸ hK .n σ h Ds env w SmO.refl hR⟩
  | .exit id, _, R, r, fr, cx, σ, K, Q, N, hN, hrd, h, Ds, env, w, hK, hR => fun _ h1 h2 h3 => wpIn_exit ⟨h1, Ds, h2, h3 ▸ hK (.x id) σ h Ds env w SmO.refl hR⟩
  | .ret, _, R, r, fr, cx, σ, K, Q, N, hN, hrd, h, Ds, env, w, hK, hR => fun _ h1 h2 h3 => wpIn_ret ⟨h1, Ds, h2, h3 ▸ hK .r σ h Ds env w SmO.refl hR⟩
  | .scope c, ho, R, r, fr, cx, σ, K, Q, N, hN, hrd, h, Ds, env, w, hK, hR => by
    refine WpD_scope (den_s hm hT hL hC hX c ho (K := K) hN hrd h (fun t σ' hk Ds' env' w' hs hR => ?_) hR)
    have := hK t σ' hk Ds' env' w' hs hR
    cases t <;> exact this
  | .region id ops dr, ho, R, r, fr, cx, σ, K, Q, N, hN, hrd, h, Ds, env, w, hK, hR => by
    subst hN
    refine WpD_of ?_
    have := region_s (id := id) (N := N.wd Ds) (fr := fr.wd Ds) hm hT hL hC hX (Q := fun e env w => Q e Ds env w) (k := fun σ => K .n σ) (fun σ' hk env' w' hs hR => hK .n σ' hk Ds env' w' hs hR) ho h hR
    rwa [Array.toArray_toList] at this
  | .cond c a b, ho, R, r, fr, cx, σ, K, Q, N, hN, hrd, h, Ds, env, w, hK, hR => by
    have ho := (Bool.and_eq_true _ _).mp ho
    have hra : N.rd = none ∨ noR a = true := hrd.imp id fun h => ((Bool.and_eq_true _ _).mp h).1
    have hrb : N.rd = none ∨ noR b = true := hrd.imp id fun h => ((Bool.and_eq_true _ _).mp h).2
    simp only [den] at h
    obtain ⟨hB, vs, hst⟩ := hR
    have hR : Rel P (fr.wd Ds) cx σ env w := ⟨hB, vs, hst⟩
    obtain ⟨S, _, hΓ⟩ := hst.ex
    split at h
    · next hv => exact WpD_cond_t (opv_hold hv (gs_lko hΓ c)) (den_s hm hT hL hC hX a ho.1 hN hra h hK hR)
    · next hv => exact WpD_cond_f (opv_hold hv (gs_lko hΓ c)) (den_s hm hT hL hC hX b ho.2 hN hrb h hK hR)
    · next x hv =>
      have hx : ev env c = .bool x := fV_bool (opv_hold hv (gs_lko hΓ c))
      rcases ifB_s h with ⟨rfl, h⟩ | ⟨rfl, h⟩
      · exact WpD_cond_t hx (den_s hm hT hL hC hX a ho.1 hN hra h hK hR)
      · exact WpD_cond_f hx (den_s hm hT hL hC hX b ho.2 hN hrb h hK hR)
    · cases h
  | .block id c, ho, R, r, fr, cx, σ, K, Q, N, hN, hrd, h, Ds, env, w, hK, hR => by
    refine WpD_block (den_s hm hT hL hC hX c ho (K := fun t σ => match t with
      | .x j => cnd (Nat.beq j id) (K .n σ) (K (.x j) σ)
      | t => K t σ) hN hrd h (fun t σ' hk Ds' env' w' hs hR => ?_) hR)
    cases t with
    | n => exact hK .n σ' hk Ds' env' w' hs hR
    | r => exact hK .r σ' hk Ds' env' w' hs hR
    | x j =>
      simp only at hk
      show blockD id Q (.exit j) Ds' env' w'
      simp only [blockD]
      cases hb : Nat.beq j id <;> rw [hb] at hk
      · exact hK (.x j) σ' hk Ds' env' w' hs hR
      · exact hK .n σ' hk Ds' env' w' hs hR
  | .seq a b, ho, R, r, fr, cx, σ, K, Q, N, hN, hrd, h, Ds, env, w, hK, hR => by
    have ho := (Bool.and_eq_true _ _).mp ho
    have hra : N.rd = none ∨ noR a = true := hrd.imp id fun h => ((Bool.and_eq_true _ _).mp h).1
    have hrb : N.rd = none ∨ noR b = true := hrd.imp id fun h => ((Bool.and_eq_true _ _).mp h).2
    simp only [den] at h
    split at h
    · refine WpD_seq (den_s hm hT hL hC hX a ho.1 hN hra h (fun t σ' hk Ds' env' w' hs hR => ?_) hR)
      cases t with
      | n => exact den_s hm hT hL hC hX b ho.2 hN hrb hk (fun t σ2 hk2 Ds2 env2 w2 hs2 hR2 => hK t σ2 hk2 Ds2 env2 w2 (hs.trans hs2) hR2) hR
      | x j => exact hK (.x j) σ' hk Ds' env' w' hs hR
      | r => exact hK .r σ' hk Ds' env' w' hs hR
    · next s hs =>
      obtain ⟨x, h1, h2⟩ := bd_s h
      obtain ⟨hkb, hR1⟩ := rel_keep (ag := asg a) (ro := s.ro) hR
      refine WpD_seq (WpD_mono (den_s hm hT hL hC hX a ho.1 (Q := fun e Ds env' w => ∃ t σt, e = tgE t ∧ (match t with
          | .n => den cf b cx σt K
          | t => K t σt) = some r ∧ SmO cx env env' ∧ Rel P (fr.wd Ds) cx σt env' w) hN hra h1 (fun t σ' hk Ds' env' w' hs hR => ?_) hR1) ?_)
      · obtain ⟨y, σt, e1, e2, e3⟩ := inj_s (P := P) hkb hk
        cases e1
        have e4 := (e2 fun t σ => match t with
          | .n => den cf b cx σ K
          | t => K t σ).symm.trans h2
        exact ⟨t, σt, rfl, by cases t <;> exact e4, fun e he => hs e (List.mem_append.2 (.inr he)), e3 _ env' w' hR⟩
      · rintro e Ds' env' w' ⟨t, σt, rfl, hk, hs', hR⟩
        cases t with
        | n => exact den_s hm hT hL hC hX b ho.2 hN hrb hk (fun t σ2 hk2 Ds2 env2 w2 hs2 hR2 => hK t σ2 hk2 Ds2 env2 w2 (hs'.trans hs2) hR2) hR
        | x j => exact hK (.x j) σt hk Ds' env' w' hs' hR
        | r => exact hK .r σt hk Ds' env' w' hs' hR
  | .loop c, ho, R, r, fr, cx, σ, K, Q, N, hN, hrd, h, Ds, env, w, hK, hR => by
    simp only [den] at h
    split at h
    · cases h
    · next s hs =>
      obtain ⟨hkb, hR1⟩ := rel_keep (ag := asg c) (ro := s.sg.ro) hR
      obtain ⟨x, h1, h2⟩ := out_s (P := P) (cx := addC cx (keep σ (asg c) s.sg.ro)) (kp := ⟨(keep σ (asg c) s.sg.ro).nx, [], []⟩) h (bd_keep hkb)
      obtain ⟨s0, h3, h4⟩ := bd_s h1
      refine WpD_loop (G := Nat × DsD s.hd.ds) (fun g Ds env' w => loopN _ g.1 g.2 = some s0 ∧ SmO cx env env' ∧ Rel P (fr.wd Ds) (addC cx (keep σ (asg c) s.sg.ro)) (bldS s.hd g.2 ⟨(keep σ (asg c) s.sg.ro).nx, [], []⟩) env' w) (fun g => g.1) (cf.fu, x) ⟨h3, SmO.refl, h2 _ env w hR1⟩ ?_
      rintro ⟨n', x⟩ Ds env1 w ⟨hl, hsm, hR⟩
      cases n' with
      | zero => exact (loopN_z hl).elim
      | succ n' =>
        refine den_s hm hT hL hC hX c ho hN hrd (loopN_s hl) (fun t σ' hk Ds' env' w' hs hR => ?_) hR
        have hsx : SmO cx env env' := hsm.trans fun e he => hs e (List.mem_append.2 (.inr he))
        have fin : (∀ (y : SmD s.sg.tg) (σt : Sg), some y = some s0 → (∀ {R' : Type} (K : Tg → Sg → Option R'), elimS (keep σ (asg c) s.sg.ro) K s.sg.tg y = K t σt) → Rel P (fr.wd Ds') cx σt env' w' → Q (tgE t) Ds' env' w') := fun y σt e1 e2 e3 => by
          cases e1
          exact hK t σt (by rw [← h4]; exact (e2 K).symm) Ds' env' w' hsx e3
        cases t with
        | n =>
          obtain ⟨x', h5, h6⟩ := out_s (P := P) (cx := addC cx (keep σ (asg c) s.sg.ro)) (kp := ⟨(keep σ (asg c) s.sg.ro).nx, [], []⟩) hk (bd_keep hkb)
          exact ⟨(n', x'), ⟨h5, hsx, h6 _ env' w' hR⟩, Nat.lt_succ_self n'⟩
        | x j =>
          obtain ⟨y, σt, e1, e2, e3⟩ := inj_s (P := P) hkb hk
          exact fin y σt e1 e2 (e3 _ env' w' hR)
        | r =>
          obtain ⟨y, σt, e1, e2, e3⟩ := inj_s (P := P) hkb hk
          exact fin y σt e1 e2 (e3 _ env' w' hR)
  | .rangeFunc g ps a c, ho, R, r, fr, cx, σ, K, Q, N, hN, hrd, h, Ds, env, w, hK, hR => by
    have ho := (Bool.and_eq_true _ _).mp ho
    have ho2 := (Bool.and_eq_true _ _).mp ho.2
    simp only [den] at h
    split at h
    · next f cs s pt hg hs hps =>
      split at h
      · next it τ sh hit htg hns =>
        split at h
        · next y hy =>
          obtain ⟨hnr, h⟩ := grd_s h
          rw [Bool.and_eq_true] at hnr
          obtain ⟨hi1, hi2⟩ := fndI_s hit
          subst hi2
          have hps2 : ps = #[pt] := by cases ps; simp_all
          subst hps2
          have hpt : pt < n := by
            have := ho.1
            simpa using this
          subst hN
          exact range_s hX (den_s hm hT hL hC hX a ho2.1) (den_s hm hT hL hC hX c ho2.2) hnr.1 hnr.2 (hrd.resolve_right (by simp [noR])) hpt hg hi1 hy hns h hK hR
        · cases h
      · cases h
    · cases h
  | .refuse _, _, R, r, fr, cx, σ, K, Q, N, hN, hrd, h, _, _, _, _, _ => by cases h
  | .goto _, _, R, r, fr, cx, σ, K, Q, N, hN, hrd, h, _, _, _, _, _ => by cases h
end
end
section
def takeW : List Nat → World → World
  | [], w => w
  | D :: Ds, w => takeW Ds (w.putObj D (.deferred none))
def marksW : List Nat → World → Prop
  | [], _ => True
  | D :: Ds, w => w.heap[D]? = some (.deferred (some [])) ∧ marksW Ds (w.putObj D (.deferred none))
def mTk (D : Nat) : MF where
  blk k := k = D
  p _ w := w.heap[D]? = some (.deferred none)
  keep h _ hb := (hb D rfl).trans h
  sub h _ := h
  lt h k hk := by subst hk; exact (Array.getElem?_eq_some_iff.1 h).1
section
variable {P : Program} {cf : Cf} {fr : Fr} {cx σ : Sg} {env : Env}
theorem rel_take : ∀ {Ds : List Nat} {w : World}, Rel P (fr.wd Ds) cx σ env w → marksW Ds w ∧ Rel P fr cx σ env (takeW Ds w)
  | [], w, h => ⟨trivial, h⟩
  | D :: Ds, w, h => by
    have h1 : w.heap[D]? = some (.deferred (some [])) := rel_mem h (m := mDef D) (List.mem_cons_self ..) fun S hp => hp
    have h2 := rel_put (A := []) (m := mDef D) (m' := mTk D) (B := Ds.map mDef ++ fr.F) h (fun k => Iff.rfl) (fun k h => h) (o := .deferred none) fun S w' h => h
    have h3 : Rel P (fr.wd Ds) cx σ env (w.putObj D (.deferred none)) := by
      obtain ⟨hB, vs, hst⟩ := h2
      refine ⟨hB, vs, ?_⟩
      have h4 : St fr.we fr.Se ((MS vs σ.ob ++ MS vs cx.ob) ++ ([mTk D] ++ (Ds.map mDef ++ fr.F))) (RS P vs env σ.rg ++ (RS P vs env cx.rg ++ fr.G)) (w.putObj D (.deferred none)) := by
        have : St fr.we fr.Se (MS vs σ.ob ++ (MS vs cx.ob ++ ([] ++ mTk D :: (Ds.map mDef ++ fr.F)))) (RS P vs env σ.rg ++ (RS P vs env cx.rg ++ fr.G)) (w.putObj D (.deferred none)) := hst
        simpa only [List.append_assoc, List.nil_append, List.singleton_append] using this
      have h5 := St.dropM h4
      show St fr.we fr.Se (MS vs σ.ob ++ (MS vs cx.ob ++ (Ds.map mDef ++ fr.F))) (RS P vs env σ.rg ++ (RS P vs env cx.rg ++ fr.G)) _
      simpa only [List.append_assoc] using h5
    obtain ⟨h4, h5⟩ := rel_take h3
    exact ⟨⟨h1, h4⟩, h5⟩
theorem leaves_take {F : Fence} {n : Nat} {fn : Func} {tmps : Array Value} {Q : Ending → World → Prop} : ∀ {Ds : List Nat} {w : World}, marksW Ds w → (∃ v, (results fn tmps).run P (takeW Ds w) = .ok v (takeW Ds w) ∧ Q (.returned v) (takeW Ds w)) → LeavesInM F n P fn tmps Q (Ds.map mkD) .returning w
  | [], w, _, h => h
  | D :: Ds, w, hm, h => ⟨by simp, .inl ⟨D, _, rfl, run_takeDeferred hm.1, leaves_take hm.2 h⟩⟩
theorem calls_wpD {f : FuncId} {fn : Func} {c : Code} {args : List Value} {w : World} {Q : Ending → World → Prop} (hf : P.funcs[f]? = some fn) (hb : fn.body = some c) (hn : Nat.ble args.length fn.ntmps = true)
    (h : ∀ rest, WpD P (Nd.of fn.ntmps) c (fun e Ds env w => (e = .normal ∨ e = .ret) ∧ marksW Ds w ∧ ∀ a : Act, envOf a = env → ∃ v, (results fn a.tmps).run P (takeW Ds w) = .ok v (takeW Ds w) ∧ Q (.returned v) (takeW Ds w)) [] (L ((args.zipIdx 0).map fun x => (x.2, x.1)) rest) w) :
    Calls P f args.toArray w Q := by
  have hn := Nat.le_of_ble_eq_true hn
  refine callsIn_wide.1 (callsIn_of_wp_marks (n := 0) hf hb trivial ?_)
  have hag : agree (envOf ⟨args.toArray ++ Array.replicate (fn.ntmps - args.toArray.size) undef, []⟩) ((args.zipIdx 0).map fun x => (x.2, x.1)) := by
    refine agree_args args 0 _ fun j => ?_
    rw [envOf_args]
    simp [Array.getD_eq_getD_getElem?, List.getD_eq_getElem?_getD]
  refine wpIn_mono (h _ _ (by simp [Nd.of]; omega) rfl (L_agree hag).symm) ?_
  rintro e a' w' ⟨q1, Ds, q2, he, hm, hv⟩
  obtain ⟨v, h1, h2⟩ := hv a' rfl
  rcases he with rfl | rfl
  · show LeavesInM _ _ P fn a'.tmps Q a'.defers .returning w'
    rw [q2]
    exact leaves_take hm ⟨v, h1, h2⟩
  · show LeavesInM _ _ P fn a'.tmps Q a'.defers .returning w'
    rw [q2]
    exact leaves_take hm ⟨v, h1, h2⟩
end
end
section
section
variable {P : Program} {cf : Cf} {fr : Fr} {σ : Sg} {vs : Nat → Value} {env : Env} {w : World} {R : Type} {r : R}
theorem L_zip {rest : Env} : ∀ {l : List Value} {i j : Nat} {v : Value}, l[j]? = some v → L ((l.zipIdx i).map fun x => (x.2, x.1)) rest (i + j) = v
  | a :: l, i, 0, v, h => by
    simp only [List.getElem?_cons_zero, Option.some.injEq] at h
    simp [L, h]
  | a :: l, i, j + 1, v, h => by
    simp only [List.zipIdx_cons, List.map_cons, L]
    rw [beq_f (show i + (j + 1) ≠ i by omega)]
    have := L_zip (rest := rest) (l := l) (i := i + 1) (j := j) (v := v) (by simpa using h)
    rw [show i + 1 + j = i + (j + 1) by omega] at this
    exact this
theorem arg_ms : ∀ {dom : List AM} {x : AsD dom} {i : Nat} {l : List Value}, l.length = dom.length → (∀ j v, l[j]? = some v → vs (i + j) = v) → MS vs (argS dom x i).2 = argMs dom x l
  | [], _, _, _, _, _ => rfl
  | a :: dom, x, i, [], hl, _ => by cases hl
  | a :: dom, x, i, v :: l, hl, h => by
    have ih : MS vs (argS dom x.2 (i + 1)).2 = argMs dom x.2 l := arg_ms (by simpa using hl) fun j v hj => by
      have := h (j + 1) v (by simpa using hj)
      rw [← this]; congr 1; omega
    have h0 : vs i = v := h 0 v rfl
    cases a with
    | own t E =>
      show mO t.rep E (vs i) x.1 :: MS vs (argS dom x.2 (i + 1)).2 = mO t.rep E v x.1 :: argMs dom x.2 l
      rw [ih, h0]
    | var t E =>
      show mP t.rep.c E (vs i) x.1 :: MS vs (argS dom x.2 (i + 1)).2 = mP t.rep.c E v x.1 :: argMs dom x.2 l
      rw [ih, h0]
    | _ => exact ih
theorem arg_rs {S : Nat → Prop} : ∀ {dom : List AM} {x : AsD dom} {i : Nat} {l : List Value}, l.length = dom.length → (∀ j v, l[j]? = some v → vs (i + j) = v ∧ env (i + j) = v) → All S (argFs P dom x l) w → All S (RS P vs env (argS dom x i).1) w
  | [], _, _, _, _, _, _ => trivial
  | a :: dom, x, i, [], hl, _, _ => by cases hl
  | a :: dom, x, i, v :: l, hl, h, hA => by
    have ih : All S (RS P vs env (argS dom x.2 (i + 1)).1) w := arg_rs (l := l) (by simpa using hl) (fun j v hj => by
      have := h (j + 1) v (by simpa using hj)
      rw [show i + 1 + j = i + (j + 1) by omega]; exact this) hA.2
    have h0 : vs i = v ∧ env i = v := h 0 v rfl
    have hA1 : (amF P a x.1 v).p S w := hA.1
    cases a with
    | d t => exact ⟨show (fV t.rep x.1 (env i)).p S w by rw [h0.2]; exact hA1, ih⟩
    | q t => exact ⟨show (fP t.rep x.1 (env i)).p S w by rw [h0.2]; exact hA1, ih⟩
    | own t E => exact ⟨show env i = vs i by rw [h0.1, h0.2], ih⟩
    | var t E =>
      obtain ⟨b, hb⟩ := hA1
      exact ⟨⟨show env i = vs i by rw [h0.1, h0.2], b, h0.1.trans hb⟩, ih⟩
    | fn dom' cod' => exact ⟨show (fnF P dom' cod' x.1 (env i)).p S w by rw [h0.2]; exact hA1, ih⟩
theorem arg_ob : ∀ {dom : List AM} {x : AsD dom} {i : Nat}, ∀ e ∈ (argS dom x i).2, e.1 < i + dom.length
  | [], _, _, e, he => absurd he List.not_mem_nil
  | a :: dom, x, i, e, he => by
    have ih : ∀ e ∈ (argS dom x.2 (i + 1)).2, e.1 < i + (a :: dom).length := fun e he => by
      have := arg_ob e he
      simp only [List.length_cons]; omega
    cases a with
    | own t E =>
      rcases List.mem_cons.1 (show e ∈ (i, Od.own t E x.1) :: (argS dom x.2 (i + 1)).2 from he) with rfl | he
      · simp only [List.length_cons]; omega
      · exact ih e he
    | var t E =>
      rcases List.mem_cons.1 (show e ∈ (i, Od.var t E x.1) :: (argS dom x.2 (i + 1)).2 from he) with rfl | he
      · simp only [List.length_cons]; omega
      · exact ih e he
    | _ => exact ih e he
theorem arg_ref : ∀ {dom : List AM} {x : AsD dom} {i : Nat}, ∀ e ∈ (argS dom x i).1, ∀ p, refO e.2.2 = some p → p < i + dom.length
  | [], _, _, e, he => absurd he List.not_mem_nil
  | a :: dom, x, i, e, he => by
    intro p hp
    have ih : ∀ e ∈ (argS dom x.2 (i + 1)).1, ∀ p, refO e.2.2 = some p → p < i + (a :: dom).length := fun e he p hp => by
      have := arg_ref e he p hp
      simp only [List.length_cons]; omega
    cases a with
    | own t E =>
      rcases List.mem_cons.1 (show e ∈ (i, 0, Dv.ow i) :: (argS dom x.2 (i + 1)).1 from he) with rfl | he
      · cases hp; simp only [List.length_cons]; omega
      · exact ih e he p hp
    | var t E =>
      rcases List.mem_cons.1 (show e ∈ (i, 0, Dv.vs i t) :: (argS dom x.2 (i + 1)).1 from he) with rfl | he
      · cases hp; simp only [List.length_cons]; omega
      · exact ih e he p hp
    | d t =>
      rcases List.mem_cons.1 (show e ∈ (i, 0, Dv.d t x.1) :: (argS dom x.2 (i + 1)).1 from he) with rfl | he
      · cases hp
      · exact ih e he p hp
    | q t =>
      rcases List.mem_cons.1 (show e ∈ (i, 0, Dv.q t x.1) :: (argS dom x.2 (i + 1)).1 from he) with rfl | he
      · cases hp
      · exact ih e he p hp
    | fn d c =>
      rcases List.mem_cons.1 (show e ∈ (i, 0, Dv.fp d c x.1) :: (argS dom x.2 (i + 1)).1 from he) with rfl | he
      · cases hp
      · exact ih e he p hp
theorem rel_frzD : ∀ (l : List ResultVar) (ms : List RM) {σ : Sg}, Rel P fr ⟨0, [], []⟩ σ env w → Rel P fr ⟨0, [], []⟩ (frzD σ l ms) env w
  | [], _, _, h => by unfold frzD; exact h
  | .tmp t :: l, [], _, h => by unfold frzD; exact h
  | .tmp t :: l, .d _ :: ms, _, h => by unfold frzD; exact rel_frzD l ms (rel_frz _ h)
  | .tmp t :: l, .own _ _ :: ms, _, h => by unfold frzD; exact rel_frzD l ms h
  | .tmp t :: l, .var _ _ :: ms, _, h => by unfold frzD; exact rel_frzD l ms h
  | .cell t E :: l, [], _, h => by unfold frzD; exact h
  | .cell t E :: l, m :: ms, _, h => by unfold frzD; exact rel_frzD l ms h
theorem retF_s (hT : TTok P cf.tt) {rv : ResultVar} {m : RM} {k : m.D → List Nat → Option R} (h : retF cf σ rv m k = some r) : ∃ x os, k x os = some r ∧
    ∀ vs (fr : Fr) env (A : List MF) (Γ : List FF) w (os' : List Nat), (∀ S w, All S Γ w → ∀ t, Lk P vs env S w ⟨0, [], []⟩ σ t) → (∀ o ∈ os, has os' o = false) → St fr.we fr.Se (A ++ OS vs fr ⟨0, [], []⟩ (delos σ.ob os')) Γ w →
      ∃ v, resE P w env rv v ∧ St fr.we fr.Se (rmM m x v ++ (A ++ OS vs fr ⟨0, [], []⟩ (delos σ.ob (os ++ os')))) (rmF m x v ++ Γ) w := by
  cases rv with
  | tmp t =>
    cases m with
    | d s =>
      simp only [retF] at h
      have hsome := h
      obtain ⟨y, h, hy⟩ := asD_s h
      refine ⟨y, [], h, fun vs fr env A Γ w os' hl _ hst => ⟨env t, rfl, ?_⟩⟩
      refine hst.weak fun S w hΓ => ⟨?_, hΓ⟩
      cases hg : get ⟨0, [], []⟩ σ t 0 with
      | none => rw [hg] at hsome; cases hsome
      | some v => exact hy P vs S w v _ hg (hl S w hΓ t 0 v hg)
    | own s E =>
      simp only [retF] at h
      obtain ⟨x, os, h1, _, h2, h3⟩ := gatF_s h
      refine ⟨x, os, h1, fun vs fr env A Γ w os' hl hn hst => ⟨env t, rfl, ?_⟩⟩
      exact h3 P vs fr env A Γ w os' (fun S w hΓ => hl S w hΓ t) hn hst
    | var s E =>
      simp only [retF] at h
      obtain ⟨x, os, h1, _, h2, h3⟩ := gatF_s h
      refine ⟨x, os, h1, fun vs fr env A Γ w os' hl hn hst => ⟨env t, rfl, ?_⟩⟩
      have h4 := h3 P vs fr env A Γ w os' (fun S w hΓ => hl S w hΓ t) hn hst
      exact h4.weak fun S w hΓ => ⟨(h2 P vs env S w (hl S w hΓ)).2, hΓ⟩
  | cell t E =>
    cases m with
    | own s E' => simp only [retF] at h; cases h
    | var s E' => simp only [retF] at h; cases h
    | d s =>
      simp only [retF] at h
      split at h
      · next o s0 ti hg hti =>
        split at h
        · next s' E' z ho =>
          obtain ⟨hE, h1⟩ := grd_s h
          have hE := beq_t hE
          subst hE
          obtain ⟨e, h2⟩ := cast_s h1
          cases e
          obtain ⟨e, h3⟩ := cast_s h2
          cases e
          refine ⟨_, [o], h3, fun vs fr env A Γ w os' hl hn hst => ?_⟩
          have hp := os_perm (vs := vs) (fr := fr) (cx := ⟨0, [], []⟩) ((fndO_delos (hn o (List.mem_cons_self ..))).trans ho)
          have h3 := St.mid (St.perm hst (List.Perm.append_left _ hp))
          obtain ⟨S, _, hΓ⟩ := hst.ex
          obtain ⟨hv, b, hb⟩ := hl S w hΓ t 0 _ hg
          obtain ⟨⟨zero, ht, _⟩, _⟩ := hT E ti hti
          have h4 : St fr.we fr.Se (mP ti.ty.rep.c E (vs o) z :: (A ++ OS vs fr ⟨0, [], []⟩ (delo (delos σ.ob os') o))) Γ w := h3
          obtain ⟨b', hb', h5⟩ := h4.openP 0 rfl
          rw [hb] at hb'; cases hb'
          refine Ret_cell 0 h5 rfl (hv.trans hb) ht fun v hs hr => ⟨v, hr, ?_⟩
          exact St.drop (i := 0) hs
        · cases h
      · cases h
theorem retD_s (hT : TTok P cf.tt) : ∀ {rvs : List ResultVar} {cod : List RM} {k : RsD cod → List Nat → Option R}, retD cf σ rvs cod k = some r → ∃ x os, k x os = some r ∧
    ∀ vs (fr : Fr) env (Γ : List FF) w, (∀ S w, All S Γ w → ∀ t, Lk P vs env S w ⟨0, [], []⟩ σ t) → St fr.we fr.Se (OS vs fr ⟨0, [], []⟩ σ.ob) Γ w →
      ∃ us, us.length = cod.length ∧ ResAll P w env rvs us ∧ St fr.we fr.Se (resMs cod x us ++ OS vs fr ⟨0, [], []⟩ (delos σ.ob os)) (resFs cod x us ++ Γ) w
  | [], [], k, h => ⟨(), [], h, fun vs fr env Γ w _ hst => ⟨[], rfl, trivial, hst⟩⟩
  | [v], [m], k, h => by
    obtain ⟨x, os, h1, h2⟩ := retF_s hT (h : retF cf σ v m k = some r)
    refine ⟨x, os, h1, fun vs fr env Γ w hl hst => ?_⟩
    obtain ⟨u, h3, h4⟩ := h2 vs fr env [] Γ w [] hl (fun _ _ => rfl) hst
    rw [List.append_nil] at h4
    exact ⟨[u], rfl, ⟨h3, trivial⟩, h4⟩
  | v :: v' :: rvs, m :: m' :: ms, k, h => by
    obtain ⟨x, o, h1, h2⟩ := retF_s hT (h : retF cf σ v m _ = some r)
    obtain ⟨y, os, h3, h4⟩ := retD_s hT h1
    obtain ⟨hn, h3⟩ := grd_s h3
    refine ⟨(x, y), o ++ os, h3, fun vs fr env Γ w hl hst => ?_⟩
    obtain ⟨us, h5, h6, h7⟩ := h4 vs fr env Γ w hl hst
    obtain ⟨u, h8, h9⟩ := h2 vs fr env (resMs (m' :: ms) y us) (resFs (m' :: ms) y us ++ Γ) w os (fun S w hΓ => hl S w (All.right hΓ)) (none_in hn) h7
    refine ⟨u :: us, by simpa using h5, ⟨h8, h6⟩, ?_⟩
    show St _ _ ((rmM m x u ++ resMs (m' :: ms) y us) ++ _) ((rmF m x u ++ resFs (m' :: ms) y us) ++ Γ) w
    rw [List.append_assoc, List.append_assoc]
    exact h9
  | [], _ :: _, _, h => by cases h
  | [_], [], _, h => by cases h
  | [_], _ :: _ :: _, _, h => by cases h
  | _ :: _ :: _, [], _, h => by cases h
  | _ :: _ :: _, [_], _, h => by cases h
theorem denF_s (hm : P.follows .mixedOrders = true) (hT : TTok P cf.tt) (hL : ELok P cf.tt) (hC : ∀ s ∈ cf.cs, SigOK P s) (hX : XOK P cf) {s : Sig} {fn : Func}
    (hf : P.funcs[s.f]? = some fn) (hb : fnB P s.f = true) (hk : s.bk = 0) (hM : ∀ x r, s.M x = some r → denF cf fn s.dom s.cod x = some r) : SigOK P s := by
  refine ⟨hb, fun x r h vs hlen => ?_⟩
  rw [hk]
  show FnG P s.f vs.toArray (argMs s.dom x vs) (argFs P s.dom x vs) oneOr (fun us => resMs s.cod r us) (fun us => resFs s.cod r us) (fun us => us.length = s.cod.length)
  have h := hM x r h
  unfold denF at h
  split at h
  · next c hc =>
    obtain ⟨ho, h⟩ := grd_s h
    rw [Bool.and_eq_true] at ho
    intro we Se F G w hst
    refine calls_wpD hf hc (by rw [hlen]; exact ho.2) fun rest => ?_
    refine den_s (fr := ⟨we, Se, F, G⟩) (N := Nd.of fn.ntmps) hm hT hL hC hX c ho.1 rfl (.inl rfl) h (fun t σ' hk Ds env w _ hR => ?_) ?_
    · obtain ⟨hmk, hR⟩ := rel_take hR
      have fin : retD cf (frzD σ' fn.results.toList s.cod) fn.results.toList s.cod (fun y _ => some y) = some r → ∀ a : Act, envOf a = env →
          ∃ v, (results fn a.tmps).run P (takeW Ds w) = .ok v (takeW Ds w) ∧ ∃ u : List Value, Ending.returned v = .returned (oneOr u) ∧ u.length = s.cod.length ∧ St we Se (resMs s.cod r u ++ F) (resFs s.cod r u ++ G) (takeW Ds w) := fun h a ha => by
        have hR1 := rel_frzD fn.results.toList s.cod hR
        generalize frzD σ' fn.results.toList s.cod = σ1 at h hR1
        obtain ⟨hB, vs, hst⟩ := hR1
        obtain ⟨y, os, e1, e2⟩ := retD_s hT h
        cases e1
        obtain ⟨us, h1, h2, h3⟩ := e2 vs ⟨we, Se, F, G⟩ env _ _ (fun S w hΓ t => gs_lk hΓ t) hst
        refine ⟨_, run_results (rs := fn.results.toList) (by rw [Array.toArray_toList]) (ha ▸ h2), us, rfl, h1, ?_⟩
        exact (St.dropM (B := MS vs (delos σ1.ob os)) h3).weak fun S w hΓ => All.append (All.left hΓ) (All.right (All.right hΓ))
      cases t with
      | n => exact ⟨.inl rfl, hmk, fin hk⟩
      | r => exact ⟨.inr rfl, hmk, fin hk⟩
      | x j => cases hk
    · have e0 : ∀ j v, vs[j]? = some v → vs.getD (0 + j) undef = v := fun j v hj => by
        rw [Nat.zero_add, List.getD_eq_getElem?_getD, hj]; rfl
      refine ⟨⟨fun e he => ?_, fun _ he => absurd he List.not_mem_nil, fun e he p hp => ?_, fun _ he => absurd he List.not_mem_nil⟩, fun o => vs.getD o undef, ?_⟩
      · have := arg_ob e he; simpa using this
      · have := arg_ref e he p hp; simpa using this
      · have e1 : MS (fun o => vs.getD o undef) (argS s.dom x 0).2 = argMs s.dom x vs := arg_ms hlen e0
        show St we Se (MS _ (argS s.dom x 0).2 ++ ([] ++ F)) _ w
        rw [e1]
        exact hst.weak fun S w hΓ => All.append (arg_rs hlen (fun j v hj => ⟨e0 j v hj, L_zip hj⟩) (All.left hΓ)) (All.right hΓ)
  · cases h
theorem pin_rs {S : Nat → Prop} {pn : Nat → Value} : ∀ {dom : List AM} {i : Nat}, (∀ j, j < dom.length → env (i + j) = pn (i + j)) → All S (RS P vs env (pinL pn dom i)) w
  | [], _, _ => trivial
  | a :: dom, i, h => by
    have ih : All S (RS P vs env (pinL pn dom (i + 1))) w := pin_rs fun j hj => by
      have := h (j + 1) (by simp only [List.length_cons]; omega)
      rw [show i + 1 + j = i + (j + 1) by omega]; exact this
    cases a with
    | own t E => exact ⟨h 0 (by simp), ih⟩
    | var t E => exact ⟨h 0 (by simp), ih⟩
    | _ => exact ih
theorem pin_own {S : Nat → Prop} {l : List Value} : ∀ {dom : List AM} {i : Nat} {us : List Value}, All S (RS P vs env (pinL (fun o => l.getD o undef) dom i)) w → ResAll P w env (ownT dom i) us → us = ownVs dom (l.drop i)
  | [], _, [], _, _ => rfl
  | [], _, _ :: _, _, h => h.elim
  | a :: dom, i, us, hA, h => by
    have e0 : (l.drop i).headD undef = l.getD i undef := by
      rw [List.headD_eq_head?_getD, List.head?_drop, List.getD_eq_getElem?_getD]
    have e1 : (l.drop i).tail = l.drop (i + 1) := by rw [List.tail_drop]
    cases a with
    | own t E =>
      cases us with
      | nil => exact h.elim
      | cons u us =>
        have h1 : env i = u := h.1
        have h2 : env i = l.getD i undef := hA.1
        have ih := pin_own (dom := dom) (i := i + 1) hA.2 h.2
        show u :: us = (l.drop i).headD undef :: ownVs dom (l.drop i).tail
        rw [e0, e1, ← ih, ← h1, h2]
    | var t E =>
      cases us with
      | nil => exact h.elim
      | cons u us =>
        have h1 : env i = u := h.1
        have h2 : env i = l.getD i undef := hA.1
        have ih := pin_own (dom := dom) (i := i + 1) hA.2 h.2
        show u :: us = (l.drop i).headD undef :: ownVs dom (l.drop i).tail
        rw [e0, e1, ← ih, ← h1, h2]
    | d t =>
      have ih := pin_own (dom := dom) (i := i + 1) hA h
      show us = ownVs dom (l.drop i).tail
      rw [e1]; exact ih
    | q t =>
      have ih := pin_own (dom := dom) (i := i + 1) hA h
      show us = ownVs dom (l.drop i).tail
      rw [e1]; exact ih
    | fn d c =>
      have ih := pin_own (dom := dom) (i := i + 1) hA h
      show us = ownVs dom (l.drop i).tail
      rw [e1]; exact ih
theorem resAll_app : ∀ {a b : List ResultVar} {us : List Value}, ResAll P w env (a ++ b) us → ResAll P w env a (us.take a.length) ∧ ResAll P w env b (us.drop a.length)
  | [], b, us, h => ⟨trivial, h⟩
  | r :: a, b, [], h => h.elim
  | r :: a, b, u :: us, h => by
    obtain ⟨h1, h2⟩ := resAll_app (a := a) (b := b) h.2
    exact ⟨⟨h.1, h1⟩, h2⟩
theorem pin_ref {pn : Nat → Value} : ∀ {dom : List AM} {i : Nat}, ∀ e ∈ pinL pn dom i, refO e.2.2 = none
  | [], _, e, he => absurd he List.not_mem_nil
  | a :: dom, i, e, he => by
    cases a with
    | own t E =>
      rcases List.mem_cons.1 (show e ∈ (i, 0, Dv.pin (pn i)) :: pinL pn dom (i + 1) from he) with rfl | he
      · rfl
      · exact pin_ref e he
    | var t E =>
      rcases List.mem_cons.1 (show e ∈ (i, 0, Dv.pin (pn i)) :: pinL pn dom (i + 1) from he) with rfl | he
      · rfl
      · exact pin_ref e he
    | d t => exact pin_ref (dom := dom) (i := i + 1) e he
    | q t => exact pin_ref (dom := dom) (i := i + 1) e he
    | fn d c => exact pin_ref (dom := dom) (i := i + 1) e he
theorem denG_s (hm : P.follows .mixedOrders = true) (hT : TTok P cf.tt) (hL : ELok P cf.tt) (hC : ∀ s ∈ cf.cs, SigOK P s) (hX : XOK P cf) {s : Sig} {fn : Func}
    (hf : P.funcs[s.f]? = some fn) (hb : fnB P s.f = true) (hM : ∀ pn x r, s.M x = some r → denG cf fn s.dom s.cod s.bk pn x = some r) : SigOK P s := by
  refine ⟨hb, fun x r h vs hlen => ?_⟩
  have h := hM (fun o => vs.getD o undef) x r h
  unfold denG at h
  split at h
  · next c hc =>
    obtain ⟨ho, h⟩ := grd_s h
    simp only [Bool.and_eq_true] at ho
    obtain ⟨⟨⟨⟨ho1, ho2⟩, ho3⟩, ho4⟩, ho5⟩ := ho
    have ho3 := beq_t ho3
    have ho5 : 0 < s.bk := Nat.blt_eq.mp ho5
    obtain ⟨b, hbk⟩ : ∃ b, s.bk = b + 1 := ⟨s.bk - 1, by omega⟩
    rw [hbk]
    intro we Se F G w hst
    refine calls_wpD hf hc (by rw [hlen]; exact ho2) fun rest => ?_
    have e0 : ∀ j v, vs[j]? = some v → vs.getD (0 + j) undef = v := fun j v hj => by
      rw [Nat.zero_add, List.getD_eq_getElem?_getD, hj]; rfl
    refine den_s (fr := ⟨we, Se, F, G⟩) (N := Nd.of fn.ntmps) hm hT hL hC hX c ho1 rfl (.inl rfl) h (fun t σ' hk Ds env w _ hR => ?_) ?_
    · obtain ⟨hmk, hR⟩ := rel_take hR
      have fin : retD cf (frzD σ' (fn.results.toList ++ ownT s.dom 0) s.cod) (fn.results.toList ++ ownT s.dom 0) s.cod (fun y _ => some y) = some r → ∀ a : Act, envOf a = env →
          ∃ v, (results fn a.tmps).run P (takeW Ds w) = .ok v (takeW Ds w) ∧ ∃ u : List Value, Ending.returned v = .returned (outV (b + 1) s.cod.length u) ∧ outOk s.dom vs (b + 1) s.cod.length u ∧ St we Se (resMs s.cod r u ++ F) (resFs s.cod r u ++ G) (takeW Ds w) := fun h a ha => by
        obtain ⟨hB0, vs0, hst0⟩ := hR
        obtain ⟨S0, _, hΓ0⟩ := hst0.ex
        have hpin : All S0 (RS P vs0 env (pinL (fun o => vs.getD o undef) s.dom 0)) _ := All.left (All.right hΓ0)
        have hR0 : Rel P ⟨we, Se, F, G⟩ ⟨0, [], []⟩ σ' env (takeW Ds w) := ⟨⟨hB0.o1, fun _ he => absurd he List.not_mem_nil, hB0.r1, fun _ he => absurd he List.not_mem_nil⟩, vs0, hst0.weak fun S w ha => All.append (All.left ha) (All.right (All.right ha))⟩
        have hR1 := rel_frzD (fn.results.toList ++ ownT s.dom 0) s.cod hR0
        generalize frzD σ' (fn.results.toList ++ ownT s.dom 0) s.cod = σ1 at h hR1
        obtain ⟨hB, vs1, hst⟩ := hR1
        obtain ⟨y, os, e1, e2⟩ := retD_s hT h
        cases e1
        obtain ⟨us, h1, h2, h3⟩ := e2 vs1 ⟨we, Se, F, G⟩ env _ _ (fun S w hΓ t => gs_lk hΓ t) hst
        obtain ⟨h4, h5⟩ := resAll_app h2
        have hn : s.cod.length - (b + 1) = fn.results.toList.length := by omega
        have hback := pin_own hpin h5
        rw [List.drop_zero] at hback
        refine ⟨_, run_results (rs := fn.results.toList) (by rw [Array.toArray_toList]) (ha ▸ h4), us, ?_, ⟨h1, by rw [hn]; exact hback⟩, ?_⟩
        · show Ending.returned _ = .returned (oneOr (us.take (s.cod.length - (b + 1))))
          rw [hn]
        · exact (St.dropM (B := MS vs1 (delos σ1.ob os)) h3).weak fun S w hΓ => All.append (All.left hΓ) (All.right (All.right hΓ))
      cases t with
      | n => exact ⟨.inl rfl, hmk, fin hk⟩
      | r => exact ⟨.inr rfl, hmk, fin hk⟩
      | x j => cases hk
    · refine ⟨⟨fun e he => ?_, fun _ he => absurd he List.not_mem_nil, fun e he p hp => ?_, fun e he p hp => ?_⟩, fun o => vs.getD o undef, ?_⟩
      · have := arg_ob e he; simpa using this
      · have := arg_ref e he p hp; simpa using this
      · rw [pin_ref e he] at hp; cases hp
      · have e1 : MS (fun o => vs.getD o undef) (argS s.dom x 0).2 = argMs s.dom x vs := arg_ms hlen e0
        show St we Se (MS _ (argS s.dom x 0).2 ++ ([] ++ F)) _ w
        rw [e1]
        refine hst.weak fun S w hΓ => All.append (arg_rs hlen (fun j v hj => ⟨e0 j v hj, L_zip hj⟩) (All.left hΓ)) (All.append (pin_rs fun j hj => ?_) (All.right hΓ))
        have hj2 : vs[j]? = some (vs[j]'(by omega)) := List.getElem?_eq_getElem (by omega)
        show L _ _ (0 + j) = vs.getD (0 + j) undef
        rw [e0 j _ hj2]
        exact L_zip hj2
  · cases h
end
end
section
section
variable {P : Program}
def zc : Ty → List Value
  | .i => [.int .i64 0]
  | .u => [.int .u64 0]
  | .b => [.bool false]
  | .ch => [.int .u8 0]
  | .tx => [.string ByteArray.empty]
  | .l _ => [.slice none 0 0]
  | .p s t => zc s ++ zc t
  | .a k t => (List.replicate k (zc t)).flatten
  | .po _ => [.pointer none]
  | .w1 t => zc t
theorem elems_z {α : Type} {e : ERep α} {S : Nat → Prop} {w : World} {x : α} {c : List Value} (h : e.p S x c w) : ∀ k, Elems e S (List.replicate k x) (List.replicate k c).flatten w
  | 0 => rfl
  | k + 1 => ⟨c, _, rfl, h, elems_z h k⟩
theorem zc_s (S : Nat → Prop) (w : World) : ∀ t : Ty, t.rep.p S t.z (zc t) w
  | .i => ⟨rfl, show (-9223372036854775808 : Int) ≤ 0 by decide, show (0 : Int) ≤ 9223372036854775807 by decide⟩
  | .u => ⟨rfl, show (0 : Nat) < 18446744073709551616 by decide⟩
  | .b => rfl
  | .ch => ⟨rfl, show (0 : Nat) < 256 by decide⟩
  | .tx => ⟨ByteArray.empty, rfl, rfl, by decide⟩
  | .l _ => ⟨_, rfl, SlP.nil⟩
  | .p s t => ⟨_, _, rfl, zc_s S w s, zc_s S w t⟩
  | .a k t => ⟨List.length_replicate, elems_z (zc_s S w t) k⟩
  | .po _ => rfl
  | .w1 t => zc_s S w t
theorem zc_len (t : Ty) : (zc t).length = t.n := by
  have := t.rep.len (zc_s (fun _ => True) default t)
  rw [this, t.n_rep]
theorem zc_fld : ∀ {k : Nat} {t : Ty} {i : Nat} {f : Fl t.D}, fld k t i = some f → ∃ pre post, zc t = pre ++ zc f.f ++ post ∧ pre.length = f.off
  | 0, .w1 t, 0, f, h => by
    simp only [fld, Option.some.injEq] at h
    subst h; exact ⟨[], [], by simp [zc], rfl⟩
  | 0, .w1 t, _ + 1, _, h => by cases h
  | 0, .i, _, _, h => by cases h
  | 0, .u, _, _, h => by cases h
  | 0, .b, _, _, h => by cases h
  | 0, .l _, _, _, h => by cases h
  | 0, .p _ _, _, _, h => by cases h
  | 0, .a _ _, _, _, h => by cases h
  | 0, .ch, _, _, h => by cases h
  | 0, .tx, _, _, h => by cases h
  | 0, .po _, _, _, h => by cases h
  | 1, t, i, f, h => by
    unfold fld at h
    cases hb : Nat.beq i 0 <;> rw [hb] at h
    · cases h
    · simp only [cond_true, Option.some.injEq] at h
      subst h; exact ⟨[], [], by simp [Fl.self], rfl⟩
  | k + 2, .p s t, 0, f, h => by
    simp only [fld, Option.some.injEq] at h
    subst h; exact ⟨[], zc t, by simp [zc], rfl⟩
  | k + 2, .p s t, i + 1, f, h => by
    simp only [fld] at h
    split at h
    · next f' hf =>
      simp only [Option.some.injEq] at h
      subst h
      obtain ⟨pre, post, h1, h2⟩ := zc_fld hf
      refine ⟨zc s ++ pre, post, ?_, by rw [List.length_append, zc_len, h2]⟩
      simp only [zc]
      rw [h1]
      simp only [List.append_assoc]
    · cases h
  | k + 2, .i, i, f, h => by simp [fld] at h
  | k + 2, .u, i, f, h => by simp [fld] at h
  | k + 2, .b, i, f, h => by simp [fld] at h
  | k + 2, .l _, i, f, h => by simp [fld] at h
  | k + 2, .a _ _, i, f, h => by simp [fld] at h
def stGot (P : Program) (t n : Nat) : (List (Option Nat) × List (Option (Nat × Bool × Nat))) × Option (List (Option (Nat × Nat))) := (((List.range (n + (1 - n))).map fun i => fldB P t i, (List.range (n + (1 - n))).map fun i => fldT P t i), match plB P t with
  | some a => some (a.toList.map some)
  | none => none)
def stWant (ty : Ty) (n : Nat) : (List (Option Nat) × List (Option (Nat × Bool × Nat))) × Option (List (Option (Nat × Nat))) := (((List.range (n + (1 - n))).map fun i => (fld n ty i).map (·.off), (List.range (n + (1 - n))).map fun i => (fld n ty i).map fun f => (f.off, f.f.rep.agg, f.f.n)), some ((List.range (n + (1 - n))).map fun i => (fld n ty i).map fun f => (f.off, f.f.n)))
def TKchk (P : Program) (t : TypeId) (ti : TI) : Prop := match ti.k with
  | .int k => P.underlying t = some (.int k)
  | .bool => P.underlying t = some .bool
  | .str => P.underlying t = some .string
  | .sl E => P.underlying t = some (.slice E) ∧ ∃ e, ti.ty = .l e
  | .st n => ti.ty.rep.agg = true ∧ stGot P t n = stWant ti.ty n
  | .ar k E => ti.ty.rep.agg = true ∧ P.underlying t = some (.array k E)
  | .pt E => P.underlying t = some (.pointer E)
theorem fld_lt0 : ∀ {n : Nat} {t : Ty} {i : Nat} {f : Fl t.D}, 0 < n → fld n t i = some f → i < n
  | 0, _, _, _, h0, h => absurd h0 (Nat.lt_irrefl 0)
  | 1, t, i, f, _, h => by
    simp only [fld] at h
    cases hb : Nat.beq i 0 <;> rw [hb] at h
    · cases h
    · rw [beq_t hb]; exact Nat.zero_lt_one
  | n + 2, .p s t, 0, f, _, h => Nat.succ_pos _
  | n + 2, .p s t, i + 1, f, _, h => by
    simp only [fld] at h
    split at h
    · next f' hf => exact Nat.succ_lt_succ (fld_lt0 (Nat.succ_pos _) hf)
    · cases h
  | n + 2, .i, _, _, _, h => by simp [fld] at h
  | n + 2, .u, _, _, _, h => by simp [fld] at h
  | n + 2, .b, _, _, _, h => by simp [fld] at h
  | n + 2, .l _, _, _, _, h => by simp [fld] at h
  | n + 2, .a _ _, _, _, _, h => by simp [fld] at h
  | n + 2, .ch, _, _, _, h => by simp [fld] at h
  | n + 2, .tx, _, _, _, h => by simp [fld] at h
  | n + 2, .po _, _, _, _, h => by simp [fld] at h
  | n + 2, .w1 _, _, _, _, h => by simp [fld] at h
theorem fld_lt {n : Nat} {t : Ty} {i : Nat} {f : Fl t.D} (h : fld n t i = some f) : i < n + (1 - n) := by
  cases n with
  | zero =>
    cases t <;> cases i <;> first
      | exact Nat.zero_lt_one
      | cases h
  | succ n => have := fld_lt0 (Nat.succ_pos n) h; omega
theorem TKok.of {t : TypeId} {ti : TI} (h : TKchk P t ti) : TKok P t ti := by
  unfold TKchk at h
  unfold TKok
  split at h
  · next h0 => simp only [h0]; exact h
  · next h0 => simp only [h0]; exact h
  · next h0 => simp only [h0]; exact h
  · next h0 => simp only [h0]; exact h
  · next n h0 =>
    simp only [h0]
    obtain ⟨h1, h⟩ := h
    have h2 := congrArg (fun q => q.1.1) h
    have h2b := congrArg (fun q => q.1.2) h
    have h3 := congrArg Prod.snd h
    simp only [stGot, stWant] at h2 h2b h3
    refine ⟨h1, fun i f hf => ?_, ?_, fun i f hf => ?_⟩
    rotate_left 2
    · have := congrArg (fun l : List (Option (Nat × Bool × Nat)) => l[i]?) h2b
      simp only [List.getElem?_map, List.getElem?_range (fld_lt hf), Option.map_some, hf] at this
      simpa using this
    · have := congrArg (fun l : List (Option Nat) => l[i]?) h2
      simp only [List.getElem?_map, List.getElem?_range (fld_lt hf), Option.map_some, hf] at this
      simpa using this
    · cases hp : plB P t with
      | none =>
        rw [hp] at h3; cases h3
      | some a =>
        rw [hp] at h3
        simp only [Option.some.injEq] at h3
        obtain ⟨fs, h4, h5⟩ := plB_run hp
        refine ⟨fs, h4, a, h5, fun i f hf => ?_⟩
        have := congrArg (fun l : List (Option (Nat × Nat)) => l[i]?) h3
        simp only [List.getElem?_map, List.getElem?_range (fld_lt hf), Option.map_some, hf] at this
        rw [← Array.getElem?_toList]
        cases hx : a.toList[i]? with
        | none => rw [hx] at this; cases this
        | some q => rw [hx] at this; simpa using this
  · next h0 => simp only [h0]; exact h
  · next h0 => simp only [h0]; exact h
theorem TIok.of {t : TypeId} {ti : TI} (h1 : tyB P t = some (ti.ty.rep.agg, ti.ty.n, ti.B, some (ti.ty.rep.val (zc ti.ty)))) (h2 : (Nat.blt 0 ti.B && Nat.blt 0 ti.ty.n) = true) (h3 : TKchk P t ti) : TIok P t ti := by
  rw [Bool.and_eq_true] at h2
  have hz := fun S w => zc_s S w ti.ty
  refine ⟨⟨_, (by rw [Ty.n_rep]; exact TyF.of h1), ?_, fun S w => ?_, (fun s hs => by rw [hs]; rfl), fun n i off s g st hf => ?_⟩, Nat.le_of_ble_eq_true h2.1, (by rw [Ty.n_rep]; exact Nat.le_of_ble_eq_true h2.2), TKok.of h3⟩
  · rw [← Array.length_toList, ERep.val_cells _ (hz (fun _ => True) default), ti.ty.rep.len (hz (fun _ => True) default)]
  · rw [ERep.val_cells _ (hz S w)]; exact hz S w
  · rw [ERep.val_cells _ (hz (fun _ => True) default)]
    obtain ⟨pre, post, h4, h5⟩ := zc_fld hf
    rw [h4, List.append_assoc, List.getElem?_append_right (by simp only at h5; omega), h5, Nat.sub_self]; rfl
theorem TTok.nil : TTok P [] := fun _ _ h => by cases h
theorem TTok.cons {t : TypeId} {ti : TI} {tt : List (Nat × TI)} (h : TIok P t ti) (k : TTok P tt) : TTok P ((t, ti) :: tt) := by
  intro t' ti' hf
  unfold fndA at hf
  cases hb : Nat.beq t t' <;> rw [hb] at hf
  · exact k t' ti' hf
  · cases hf; rw [← beq_t hb]; exact h
theorem TTok.add {t : TypeId} {ti : TI} {tt : List (Nat × TI)} (h1 : tyB P t = some (ti.ty.rep.agg, ti.ty.n, ti.B, some (ti.ty.rep.val (zc ti.ty)))) (h2 : (Nat.blt 0 ti.B && Nat.blt 0 ti.ty.n) = true) (h3 : TKchk P t ti) (k : TTok P tt) : TTok P ((t, ti) :: tt) := TTok.cons (TIok.of h1 h2 h3) k
def elB (tt : List (Nat × TI)) : List (Nat × TI) → Bool
  | [] => true
  | (_, ⟨.l s, .sl E, _⟩) :: r => (match fndA tt E with
    | some ti => (Ty.same ti.ty s).isSome
    | none => false) && elB tt r
  | _ :: r => elB tt r
theorem ELok.of' {tt : List (Nat × TI)} : ∀ {l : List (Nat × TI)}, elB tt l = true → ∀ t s E B, fndA l t = some ⟨.l s, .sl E, B⟩ → ∃ ti, fndA tt E = some ti ∧ ti.ty = s
  | [], _, _, _, _, _, h => by cases h
  | (t', ti') :: r, h, t, s, E, B, hf => by
    have hr : elB tt r = true := by
      unfold elB at h
      split at h
      · cases ‹_ :: _ = []›
      · next hh => cases hh; rw [Bool.and_eq_true] at h; exact h.2
      · next hh => cases hh; exact h
    unfold fndA at hf
    cases hb : Nat.beq t' t <;> rw [hb] at hf
    · exact ELok.of' hr t s E B hf
    · cases hf
      unfold elB at h
      simp only [Bool.and_eq_true] at h
      have h := h.1
      split at h
      · next ti he =>
        refine ⟨ti, he, ?_⟩
        cases hs : Ty.same ti.ty s with
        | none => rw [hs] at h; cases h
        | some p => exact p.down
      · cases h
theorem ELok.of {tt : List (Nat × TI)} (h : elB tt tt = true) : ELok P tt := fun t s E B => ELok.of' h t s E B
theorem EXok.nil : EXok P [] := fun _ _ h => by cases h
theorem EXok.add {f : Nat} {b : Bool} {ex : List (Nat × Bool)} {fn : Func} (h0 : P.funcs[f]? = some fn) (h1 : (fn.name == "runtime.NumGoroutine") = false) (h2 : fn.body = none) (h3 : (Extern.findNext fn).isNone = true)
    (h4 : b = true → Extern.find fn = some (fun args => do
      let (x, y, c) ← Extern.MathBitsCarry.three "Add64" args
      pure (Extern.MathBitsCarry.pair ((x + y + c) % Extern.MathBitsCarry.m64) ((x + y + c) / Extern.MathBitsCarry.m64))))
    (h5 : b = false → Extern.find fn = some (fun args => do
      let (x, y, b) ← Extern.MathBitsCarry.three "Sub64" args
      pure (Extern.MathBitsCarry.pair ((x + Extern.MathBitsCarry.m64 - y - b) % Extern.MathBitsCarry.m64) (if x < y + b then 1 else 0)))) (k : EXok P ex) : EXok P ((f, b) :: ex) := by
  intro f' b' hf
  unfold fndA at hf
  cases hb : Nat.beq f f' <;> rw [hb] at hf
  · exact k f' b' hf
  · cases hf; rw [← beq_t hb]; exact ⟨fn, h0, h1, h2, h3, h4, h5⟩
theorem cN : ∀ s ∈ ([] : List Sig), SigOK P s := fun _ h => absurd h List.not_mem_nil
theorem cC {s : Sig} {l : List Sig} (h : SigOK P s) (k : ∀ s ∈ l, SigOK P s) : ∀ q ∈ s :: l, SigOK P q := by grind
theorem sg0 {s : Sig} (hb : fnB P s.f = true) (hM : ∀ x, s.M x = none) : SigOK P s := ⟨hb, fun x r h => by rw [hM x] at h; cases h⟩
theorem XOK.of {tt : List (Nat × TI)} {ex : List (Nat × Bool)} {cs : List Sig} {an : An} {fu : Nat} (hX : EXok P ex) (hp : P = Tryz.prog) : XOK P ⟨tt, cs, an, fu, ex, [], [], []⟩ := ⟨hX, fun _ h => absurd h List.not_mem_nil, fun _ h => absurd h List.not_mem_nil, fun _ h => absurd h List.not_mem_nil, hp⟩
theorem sgP (hm : P.follows .mixedOrders = true) {tt : List (Nat × TI)} {ex : List (Nat × Bool)} (hT : TTok P tt) (hL : ELok P tt) (hX : EXok P ex) (hp : P = Tryz.prog) {cs : List Sig} (an : An) {fu : Nat} {s : Sig} {fn : Func} (hf : P.funcs[s.f]? = some fn) (hC : ∀ s ∈ cs, SigOK P s) (hb : fnB P s.f = true) (hk : s.bk = 0) (hM : ∀ x, denF ⟨tt, cs, an, fu, ex, [], [], []⟩ fn s.dom s.cod x = s.M x) : SigOK P s :=
  denF_s (cf := ⟨tt, cs, an, fu, ex, [], [], []⟩) hm hT hL hC (.of hX hp) hf hb hk fun x r h => (hM x).trans h
theorem sgG (hm : P.follows .mixedOrders = true) {tt : List (Nat × TI)} {ex : List (Nat × Bool)} (hT : TTok P tt) (hL : ELok P tt) (hX : EXok P ex) (hp : P = Tryz.prog) {cs : List Sig} (an : An) {fu : Nat} {s : Sig} {fn : Func} (hf : P.funcs[s.f]? = some fn) (hC : ∀ s ∈ cs, SigOK P s) (hb : fnB P s.f = true) (hM : ∀ pn x, denG ⟨tt, cs, an, fu, ex, [], [], []⟩ fn s.dom s.cod s.bk pn x = s.M x) : SigOK P s :=
  denG_s (cf := ⟨tt, cs, an, fu, ex, [], [], []⟩) hm hT hL hC (.of hX hp) hf hb fun pn x r h => (hM pn x).trans h
end
end
section
def argT : (dom : List Ty) → TsD dom → Nat → List (Nat × Nat × Dv)
  | [], _, _ => []
  | t :: r, x, i => (i, 0, .d t x.1) :: argT r x.2 (i + 1)
def endC (g : FuncId) (t : Nat) (σ : Sg) : Option (List PD) := match get ⟨0, [], []⟩ σ t 0 with
  | some (.fn f cs) => grd (Nat.beq f g) (some cs)
  | _ => none
def denC (cf : Cf) (fn : Func) (dom : List Ty) (g : FuncId) (x : TsD dom) : Option (List PD) := match fn.body, fn.results.toList with
  | some c, [.tmp t] => grd (okC fn.ntmps c && Nat.ble dom.length fn.ntmps) <| den cf c ⟨0, [], []⟩ ⟨0, argT dom x 0, []⟩ fun q σ => match q with
    | .r => endC g t σ
    | .n => endC g t σ
    | _ => none
  | _, _ => none
def endM (t : Ty) (E E1 : TypeId) (ix : List Nat) (lo n : Nat) (σ : Sg) : Option (List (List t.D)) := match get ⟨0, [], []⟩ σ 3 0 with
  | some (.mv o lo' n') => (match fndO σ.ob o with
    | some (.mat t' E' F' xss ix') => grd (Nat.beq E E' && Nat.beq E1 F') <| Ty.cast (.l (.l t')) (.l (.l t)) xss fun y => ck (lo' = lo ∧ n' = n ∧ ix' = ix) (some y)
    | _ => none)
  | _ => none
def denM (cf : Cf) (fn : Func) (t : Ty) (E E1 : TypeId) (pn : Value) (xss : List (List t.D)) (ix : List Nat) (r : Nat) (a p : Int) (lo n : Nat) : Option (List (List t.D)) := match fn.body, fn.results.toList with
  | some c, [] => grd (okC fn.ntmps c && Nat.ble 4 fn.ntmps) <| den cf c ⟨0, [(3, 0, .pin pn)], []⟩ ⟨1, [(0, 0, .rw 0 r), (1, 0, .d .i a), (2, 0, .d .i p), (3, 0, .mv 0 lo n)], [(0, .mat t E E1 xss ix)]⟩ fun q σ => match q with
    | .r => endM t E E1 ix lo n σ
    | .n => endM t E E1 ix lo n σ
    | _ => none
  | _, _ => none
section
variable {P : Program} {cf : Cf} {env : Env} {w : World}
theorem argT_rs {S : Nat → Prop} {vs : Nat → Value} : ∀ {dom : List Ty} {x : TsD dom} {i : Nat} {l : List Value}, l.length = dom.length → (∀ j v, l[j]? = some v → env (i + j) = v) → All S (tsF dom x l) w → All S (RS P vs env (argT dom x i)) w
  | [], _, _, _, _, _, _ => trivial
  | a :: dom, x, i, [], hl, _, _ => by cases hl
  | a :: dom, x, i, v :: l, hl, h, hA => by
    have ih : All S (RS P vs env (argT dom x.2 (i + 1))) w := argT_rs (l := l) (by simpa using hl) (fun j v hj => by
      have := h (j + 1) v (by simpa using hj)
      rw [show i + 1 + j = i + (j + 1) by omega]; exact this) hA.2
    have h0 : env i = v := h 0 v rfl
    have hA1 : (fV a.rep x.1 v).p S w := hA.1
    exact ⟨show (fV a.rep x.1 (env i)).p S w by rw [h0]; exact hA1, ih⟩
theorem argT_ref : ∀ {dom : List Ty} {x : TsD dom} {i : Nat}, ∀ e ∈ argT dom x i, refO e.2.2 = none
  | [], _, _, e, he => absurd he List.not_mem_nil
  | a :: dom, x, i, e, he => by
    rcases List.mem_cons.1 he with rfl | he
    · rfl
    · exact argT_ref e he
theorem denC_s (hm : P.follows .mixedOrders = true) (hT : TTok P cf.tt) (hL : ELok P cf.tt) (hC : ∀ s ∈ cf.cs, SigOK P s) (hX : XOK P cf) {s : CSig} {fn : Func}
    (hf : P.funcs[s.f]? = some fn) (hb : fnB P s.f = true) (hM : ∀ x, denC cf fn s.dom s.g x = some (s.mc x)) : CSigOK P s := by
  refine ⟨hb, fun x vs hlen => FnG.plain ?_⟩
  have h := hM x
  unfold denC at h
  split at h
  · next c t hc hrs =>
    obtain ⟨ho, h⟩ := grd_s h
    rw [Bool.and_eq_true] at ho
    intro we Se F G w hst
    refine calls_wpD hf hc (by rw [hlen]; exact ho.2) fun rest => ?_
    refine den_s (fr := ⟨we, Se, F, G⟩) (N := Nd.of fn.ntmps) hm hT hL hC hX c ho.1 rfl (.inl rfl) h (fun q σ' hk Ds env w _ hR => ?_) ?_
    · obtain ⟨hmk, hR⟩ := rel_take hR
      have fin : endC s.g t σ' = some (s.mc x) → ∀ a : Act, envOf a = env →
          ∃ v, (results fn a.tmps).run P (takeW Ds w) = .ok v (takeW Ds w) ∧ ∃ u : Value, Ending.returned v = .returned u ∧ True ∧ St we Se ([] ++ F) ([cloF s.g (s.mc x) u] ++ G) (takeW Ds w) := fun h a ha => by
        unfold endC at h
        split at h
        · next f cs hg =>
          obtain ⟨hfg, h1⟩ := grd_s h
          have hfg := beq_t hfg
          subst hfg
          cases h1
          obtain ⟨hB, vs', hst'⟩ := hR
          have hst2 : St we Se (MS vs' σ'.ob ++ F) (RS P vs' env σ'.rg ++ ([] ++ G)) (takeW Ds w) := hst'
          refine ⟨_, run_results (rs := [.tmp t]) (vs := [env t]) (by rw [← hrs, Array.toArray_toList]) (ha ▸ ⟨rfl, trivial⟩), env t, rfl, trivial, ?_⟩
          have h3 := St.dropM (A := []) (B := MS vs' σ'.ob) (C := F) (by simpa using hst2)
          refine h3.weak fun S w hΓ => ⟨?_, ?_⟩
          · exact gs_lk (fr := ⟨we, Se, F, G⟩) (cx := ⟨0, [], []⟩) (show All S (GS P vs' env ⟨we, Se, F, G⟩ ⟨0, [], []⟩ σ') w from hΓ) t 0 _ hg
          · exact All.right hΓ
        · cases h
      cases q with
      | n => exact ⟨.inl rfl, hmk, fin hk⟩
      | r => exact ⟨.inr rfl, hmk, fin hk⟩
      | x j => cases hk
    · refine ⟨⟨fun _ he => absurd he List.not_mem_nil, fun _ he => absurd he List.not_mem_nil, fun e he p hp => ?_, fun _ he => absurd he List.not_mem_nil⟩, fun _ => undef, ?_⟩
      · rw [argT_ref e he] at hp; cases hp
      · show St we Se ([] ++ ([] ++ F)) _ w
        exact hst.weak fun S w hΓ => All.append (argT_rs hlen (fun j v hj => L_zip hj) (All.left hΓ)) (All.right hΓ)
  · cases h
theorem mt_len {α : Type} {e : ERep α} {E E1 : TypeId} {u : Value} {xss : List (List α)} {ix : List Nat} {S : Nat → Prop} (h : (mMt e E E1 u xss ix).p S w) : ∀ a k c, outW u = .slice a k c → a.isSome = true → k = ix.length := by
  intro a k c h1 h2
  rcases mo_shape (mt_s h).2.1 with ⟨hv, _⟩ | ⟨b, cap, hv, _⟩
  · rw [h1] at hv; cases hv; cases h2
  · rw [h1] at hv; cases hv; rfl
theorem get_any {cx σ : Sg} {t i : Nat} {d : Dv} (h : get ⟨0, [], []⟩ σ t i = some d) : get cx σ t i = some d := by
  unfold get at h ⊢
  split at h
  · exact h
  · cases h
theorem denM_s (hm : P.follows .mixedOrders = true) (hT : TTok P cf.tt) (hL : ELok P cf.tt) (hC : ∀ s ∈ cf.cs, SigOK P s) (hX : XOK P cf) {s : MSig} {fn : Func}
    (hf : P.funcs[s.f]? = some fn) (hb : fnB P s.f = true) (hM : ∀ pn xss ix r a p lo n z, s.M xss ix r a p lo n = some z → denM cf fn s.t s.E s.E1 pn xss ix r a p lo n = some z) : MSigOK P s := by
  refine ⟨hb, fun xss ix r a p lo n z hz u hr hv hru hvu hai hpi we Se F G w hst => ?_⟩
  have h := hM hv xss ix r a p lo n z hz
  unfold denM at h
  split at h
  · next c hc hrs =>
    obtain ⟨ho, h⟩ := grd_s h
    rw [Bool.and_eq_true] at ho
    have hlen0 : ∀ a k c, outW u = .slice a k c → a.isSome = true → k = ix.length := mut_frame hst (i := 0) rfl fun S hp => mt_len hp
    refine calls_wpD (args := [hr, .int .i64 a, .int .i64 p, hv]) hf hc ho.2 fun rest => ?_
    refine den_s (fr := ⟨we, Se, F, G⟩) (N := Nd.of fn.ntmps) hm hT hL hC hX c ho.1 rfl (.inl rfl) h (fun q σ' hk Ds env w _ hR => ?_) ?_
    · obtain ⟨hmk, hR⟩ := rel_take hR
      have fin : endM s.t s.E s.E1 ix lo n σ' = some z → ∀ a : Act, envOf a = env →
          ∃ v, (results fn a.tmps).run P (takeW Ds w) = .ok v (takeW Ds w) ∧ ∃ v' u', Ending.returned v = .returned v' ∧ outW u' = outW u ∧ St we Se (mMt s.t.rep s.E s.E1 u' z ix :: F) G (takeW Ds w) := fun h a ha => by
        unfold endM at h
        split at h
        · next o lo' n' hg =>
          split at h
          · next t' E' F' zss ix' ho =>
            obtain ⟨hE, h1⟩ := grd_s h
            rw [Bool.and_eq_true] at hE
            have hE1 := beq_t hE.1
            have hE2 := beq_t hE.2
            subst hE1 hE2
            obtain ⟨e, h2⟩ := cast_s h1
            cases e
            obtain ⟨⟨rfl, rfl, rfl⟩, h3⟩ := ck_s h2
            cases h3
            obtain ⟨hB, vs', hst'⟩ := hR
            obtain ⟨S0, _, hΓ0⟩ := hst'.ex
            have hpin : env 3 = hv := (All.left (All.right hΓ0)).1
            have hmv : MvV (outW (vs' o)) lo' n' (env 3) := gs_lk hΓ0 3 0 _ (get_any hg)
            rw [hpin] at hmv
            have h2 : St we Se (mMt s.t.rep s.E s.E1 (vs' o) zss ix' :: OS vs' ⟨we, Se, F, G⟩ ⟨0, [(3, 0, .pin hv)], []⟩ (delo σ'.ob o)) (GS P vs' env ⟨we, Se, F, G⟩ ⟨0, [(3, 0, .pin hv)], []⟩ σ') (takeW Ds w) := os_out ho hst'
            have hlen1 : ∀ a k c, outW (vs' o) = .slice a k c → a.isSome = true → k = ix'.length := mut_frame h2 (i := 0) rfl fun S hp => mt_len hp
            refine ⟨_, run_results (rs := []) (vs := []) (by rw [← hrs, Array.toArray_toList]) trivial, _, vs' o, rfl, hmv.same hvu hlen1 hlen0, ?_⟩
            have h3 : St we Se ([mMt s.t.rep s.E s.E1 (vs' o) zss ix'] ++ (MS vs' (delo σ'.ob o) ++ F)) (GS P vs' env ⟨we, Se, F, G⟩ ⟨0, [(3, 0, .pin hv)], []⟩ σ') (takeW Ds w) := h2
            exact (St.dropM h3).weak fun S w hΓ => All.right (All.right hΓ)
          · cases h
        · cases h
      cases q with
      | n => exact ⟨.inl rfl, hmk, fin hk⟩
      | r => exact ⟨.inr rfl, hmk, fin hk⟩
      | x j => cases hk
    · refine ⟨⟨fun e he => ?_, fun _ he => absurd he List.not_mem_nil, fun e he q hq => ?_, fun e he q hq => ?_⟩, fun _ => u, ?_⟩
      · obtain rfl := List.mem_singleton.1 he
        exact Nat.zero_lt_one
      · simp only [List.mem_cons, List.not_mem_nil, or_false] at he
        rcases he with rfl | rfl | rfl | rfl <;> cases hq <;> exact Nat.zero_lt_one
      · obtain rfl := List.mem_singleton.1 he
        cases hq
      · refine hst.weak fun S w hΓ => ⟨hru, i64_fV hai, i64_fV hpi, hvu, rfl, hΓ⟩
  · cases h
end
end
section
theorem ext_K {ι : Type _} {R : Type} (S : ι → Tg × Sg) (f : ι → Option R) (inj : ∀ i j, S i = S j → f i = f j) : ∃ K : Tg → Sg → Option R, (∀ i, K (S i).1 (S i).2 = f i) ∧ ∀ t σ r, K t σ = some r → ∃ i, S i = (t, σ) ∧ f i = some r := by
  classical
  refine ⟨fun t σ => if h : ∃ i, S i = (t, σ) then f h.choose else none, fun i => ?_, fun t σ r h => ?_⟩
  · have h : ∃ j, S j = ((S i).1, (S i).2) := ⟨i, rfl⟩
    simp only [dif_pos h]
    exact inj _ _ h.choose_spec
  · by_cases h1 : ∃ i, S i = (t, σ)
    · simp only [dif_pos h1] at h
      exact ⟨_, h1.choose_spec, h⟩
    · simp only [dif_neg h1] at h
      cases h
def chS (E : TypeId) {X Y : Type} (mX : X → Value → MF) (mY : Y → Value → MF) (g : List Int → X → Option (List Int × (X ⊕ Y))) (n all : Int) (x : X) (xs : List Int) : Sg :=
  ⟨2, [(4, 0, .ow 1), (0, 0, .yd 0), (1, 0, .q .i n), (2, 0, .q .i all)], [(1, .own .i E xs), (0, .hid .i E X Y mX mY g x)]⟩
section
variable {P : Program} {fr : Fr} {σ : Sg} {env : Env} {w : World} {E : TypeId} {X Y : Type} {mX : X → Value → MF} {mY : Y → Value → MF} {g : List Int → X → Option (List Int × (X ⊕ Y))} {n all : Int} {x : X} {y : Y} {xs : List Int} {o p : Nat}
theorem ch_re (h4 : get ⟨0, [], []⟩ σ 4 0 = some (.ow p)) (h0 : get ⟨0, [], []⟩ σ 0 0 = some (.yd o)) (h1 : get ⟨0, [], []⟩ σ 1 0 = some (.q .i n)) (h2 : get ⟨0, [], []⟩ σ 2 0 = some (.q .i all)) (ho : fndO σ.ob o = some (.hid .i E X Y mX mY g x)) (hp : fndO σ.ob p = some (.own .i E xs))
    (hne : Nat.beq o p = false) (h : Rel P fr ⟨0, [], []⟩ σ env w) : Rel P fr ⟨0, [], []⟩ (chS E mX mY g n all x xs) env w := by
  obtain ⟨hB, vs, hst⟩ := h
  have h5 := os_out2 hne ho hp hst
  refine ⟨⟨fun e he => ?_, fun _ he => absurd he List.not_mem_nil, fun e he q hq => ?_, fun _ he => absurd he List.not_mem_nil⟩, fun k => if k = 0 then vs o else vs p, ?_⟩
  · simp only [chS, List.mem_cons, List.not_mem_nil, or_false] at he ⊢
    rcases he with rfl | rfl <;> simp
  · simp only [chS, List.mem_cons, List.not_mem_nil, or_false] at he ⊢
    rcases he with rfl | rfl | rfl | rfl <;> cases hq <;> simp
  · have h6 : St fr.we fr.Se ([moF vs (o, .hid .i E X Y mX mY g x), moF vs (p, .own .i E xs)] ++ (MS vs (delo (delo σ.ob o) p) ++ fr.F)) (GS P vs env fr ⟨0, [], []⟩ σ) w := h5
    have h7 : St fr.we fr.Se ([moF vs (p, .own .i E xs), moF vs (o, .hid .i E X Y mX mY g x)] ++ fr.F) (GS P vs env fr ⟨0, [], []⟩ σ) w := (St.dropM h6).perm (List.Perm.swap ..)
    refine h7.weak fun S w ha => ⟨?_, ?_, ?_, ?_, ?_⟩
    · exact gs_lk ha 4 0 _ h4
    · exact gs_lk ha 0 0 _ h0
    · exact gs_lk ha 1 0 _ h1
    · exact gs_lk ha 2 0 _ h2
    · exact All.right (All.right ha)
theorem ch_hid {t : Ty} {g : List t.D → X → Option (List t.D × (X ⊕ Y))} (ho : fndO σ.ob o = some (.hid t E X Y mX mY g x)) (h : Rel P fr ⟨0, [], []⟩ σ env w) : ∃ u', St fr.we fr.Se (mX x u' :: fr.F) fr.G w := by
  obtain ⟨hB, vs, hst⟩ := h
  obtain ⟨_, h2⟩ := St.unpr (St.grp.1 (os_out ho hst))
  have h3 : St fr.we fr.Se ([mX x ((hvW (vs o)).headD undef)] ++ (MS vs (delo σ.ob o) ++ fr.F)) (GS P vs env fr ⟨0, [], []⟩ σ) w := h2
  exact ⟨_, (St.dropM h3).weak fun S w ha => All.right (All.right ha)⟩
theorem ch_hiy (ho : fndO σ.ob o = some (.hiy Y mY y)) (h : Rel P fr ⟨0, [], []⟩ σ env w) : ∃ u', St fr.we fr.Se (mY y u' :: fr.F) fr.G w := by
  obtain ⟨hB, vs, hst⟩ := h
  have h2 := os_out ho hst
  have h3 : St fr.we fr.Se ([mY y ((hvW (vs o)).headD undef)] ++ (MS vs (delo σ.ob o) ++ fr.F)) (GS P vs env fr ⟨0, [], []⟩ σ) w := h2
  exact ⟨_, (St.dropM h3).weak fun S w ha => All.right (All.right ha)⟩
end
end
section
section
variable {P : Program}
theorem fn_fnG {U : Type} {f : FuncId} {args : Array Value} {Γ : List FF} {val : U → Value} {facts : U → List FF} {ok : U → Prop} (h : Fn P f args Γ val facts ok) : FnG P f args [] Γ val (fun _ => []) facts ok := by
  rintro we Se F G w ⟨h1, h2, h3, S, h4, h5, h6, h7, h8⟩
  refine (h w S h5 (All.left h8)).mono ?_
  rintro e w' ⟨u, e1, e2, e3, e4⟩
  exact ⟨u, e1, e2, h1.trans e3, h2, h3, S, h4, fun k hk => h5 k (Nat.le_trans e3.size hk), h6, AllM.keep e3.to (fun m hm i hi => e3.block i (AllM.lt h7 m hm i hi) trivial) h7, All.append e4 (All.keep e3.to (All.right h8))⟩
theorem FnG.to {U V : Type} {f : FuncId} {args : Array Value} {ms : List MF} {Γ : List FF} {val : U → Value} {own : U → List MF} {facts : U → List FF} {ok : U → Prop} {val' : V → Value} {own' : V → List MF} {facts' : V → List FF} {ok' : V → Prop}
    (h : FnG P f args ms Γ val own facts ok) (g : U → V) (h1 : ∀ u, val u = val' (g u)) (h2 : ∀ u, own u = own' (g u)) (h3 : ∀ u, ok u → ok' (g u)) (h4 : ∀ u, ok u → ∀ S w, All S (facts u) w → All S (facts' (g u)) w) : FnG P f args ms Γ val' own' facts' ok' := by
  intro we Se F G w hst
  refine (h we Se F G w hst).mono ?_
  rintro e w' ⟨u, e1, e2, e3⟩
  exact ⟨g u, by rw [e1, h1], h3 u e2, by rw [← h2]; exact e3.weak fun S w ha => All.append (h4 u e2 S w (All.left ha)) (All.right ha)⟩
theorem sig_d1 {f : FuncId} {s t : Ty} {M : s.D → Option t.D} (hb : fnB P f = true) (h : ∀ x r v, M x = some r → Fn P f [v].toArray [fV s.rep x v] (fun u : Value => u) (fun u => [fV t.rep r u]) (fun _ => True)) : SigOK P ⟨f, [.d s], [.d t], fun x => M x.1, 0⟩ := by
  refine ⟨hb, fun x r hM vs hl => ?_⟩
  match vs, hl with
  | [v], _ => exact (fn_fnG (h x.1 r v hM)).to (fun u => [u]) (fun _ => rfl) (fun _ => rfl) (fun _ _ => rfl) fun u _ S w ha => ha
theorem sig_ui {f : FuncId} {M : Nat → Option Int} (hb : fnB P f = true) (h : ∀ x r, x < 18446744073709551616 → M x = some r → Fn P f [.int .u64 (x : Int)].toArray [] (fun _ : Unit => .int .i64 r) (fun _ => []) (fun _ => InR r)) : SigOK P ⟨f, [.d .u], [.d .i], fun x => M x.1, 0⟩ := by
  refine ⟨hb, fun x r hM vs hl => ?_⟩
  match vs, hl with
  | [v], _ =>
    intro we Se F G w hst
    obtain ⟨S0, _, hΓ⟩ := hst.ex
    obtain ⟨hv, hx⟩ := fV_u64 (show (fV eU x.1 v).p S0 w from hΓ.1)
    have := fn_fnG (h x.1 r hx hM)
    rw [← hv] at this
    have h2 : FnG P f [v].toArray [] [] oneOr (fun us => resMs [RM.d .i] r us) (fun us => resFs [RM.d .i] r us) (fun us => us.length = 1) := this.to (fun _ => [.int .i64 r]) (fun _ => rfl) (fun _ => rfl) (fun _ _ => rfl) fun u hu S w ha => ⟨i64_fV hu, trivial⟩
    exact h2 we Se F G w (hst.weak fun S w ha => ha.2)
end
end
section
section
variable {P : Program}
theorem Ext.of_below {w w' : World} (h : RowKit.Below w.heap.size w w') : Ext w w' := ⟨h.os, h.tape, h.output, h.size, fun k hk _ => h.block k hk⟩
def joinT (xs : List (List Nat)) (sep : List Nat) : Option (List Nat) := ck (xs.length ≤ 140737488355328) <| ck ((sep.intercalate xs).length ≤ 140737488355328) <| some (sep.intercalate xs)
theorem elems_tx {S : Nat → Prop} {w : World} : ∀ {xs : List (List Nat)} {cs : List Value}, Elems eTx S xs cs w → ∃ bs : List ByteArray, cs = bs.map Value.string ∧ bs.map bytesN = xs
  | [], cs, h => ⟨[], h, rfl⟩
  | x :: xs, cs, ⟨c, r, h1, h2, h3⟩ => by
    obtain ⟨bs, e1, e2⟩ := elems_tx h3
    obtain ⟨b, e3, e4, _⟩ := h2
    exact ⟨b :: bs, by rw [h1, e3, e1]; rfl, by rw [List.map_cons, e4, e2]⟩
theorem inter_map {α β : Type} (f : α → β) (s : List α) : ∀ X : List (List α), (s.intercalate X).map f = (s.map f).intercalate (X.map (List.map f))
  | [] => by simp [List.intercalate]
  | [x] => by simp [List.intercalate]
  | x :: y :: r => by
    have ih := inter_map f s (y :: r)
    simp only [List.intercalate, List.map_cons, List.intersperse_cons_cons, List.flatten_cons, List.map_append] at ih ⊢
    rw [ih]
theorem join_bytes (bs : List ByteArray) (s : ByteArray) : bytesN ⟨(Lib.join (bs.map (·.data.toList)) s.data.toList).toArray⟩ = (bytesN s).intercalate (bs.map bytesN) := by
  show ((Lib.join (bs.map (·.data.toList)) s.data.toList).toArray.toList).map UInt8.toNat = _
  rw [List.toList_toArray]
  unfold Lib.join
  rw [inter_map, List.map_map]
  rfl
theorem sig_join {f : FuncId} (hb : fnB P f = true)
    (h0 : ∀ (a : Option Addr) (c : Nat) (sep : ByteArray) (w : World), Calls P f #[.slice a 0 c, .string sep] w fun e w' => e = .returned (.string ⟨#[]⟩) ∧ w' = w)
    (h1 : ∀ (bk o c : Nat) (xs : List ByteArray) (sep : ByteArray) (w : World), (∀ (j : Nat) x, xs[j]? = some x → w.cell? ⟨bk, o + j, none⟩ = some (.string x)) → bk < w.heap.size → xs.length ≤ 140737488355328 → xs.length ≤ c → (Lib.join (xs.map (·.data.toList)) sep.data.toList).length ≤ 140737488355328 →
      Calls P f #[.slice (some ⟨bk, o, none⟩) xs.length c, .string sep] w fun e w' => e = .returned (.string ⟨(Lib.join (xs.map (·.data.toList)) sep.data.toList).toArray⟩) ∧ RowKit.Below w.heap.size w w') :
    SigOK P ⟨f, [.d (.l .tx), .d .tx], [.d .tx], fun x => joinT x.1 x.2.1, 0⟩ := by
  refine ⟨hb, fun x r hM vs hl => ?_⟩
  match vs, hl with
  | [v, u], _ =>
    have hM : joinT x.1 x.2.1 = some r := hM
    unfold joinT at hM
    obtain ⟨k1, hM⟩ := ck_s hM
    obtain ⟨k2, hM⟩ := ck_s hM
    have hr : r = List.intercalate (α := Nat) x.2.1 x.1 := (Option.some.inj hM).symm
    have key : Fn P f #[v, u] [fV (eS eTx) x.1 v, fV eTx x.2.1 u] (fun _ : Unit => .string ⟨(r.map UInt8.ofNat).toArray⟩) (fun _ => [fV eTx r (.string ⟨(r.map UInt8.ofNat).toArray⟩)]) (fun _ => True) := by
      intro w Se hSe hΓ
      obtain ⟨hv, hu, _⟩ := hΓ
      obtain ⟨sb, rfl, e2, e3⟩ := fV_tx hu
      obtain ⟨ao, cap, rfl, hc1, hc2, h⟩ := fV_slice.1 hv
      have fin : ∀ (t : List UInt8) (w' : World), Ext w w' → t.map UInt8.toNat = r → FnQ Se w (fun _ : Unit => .string ⟨(r.map UInt8.ofNat).toArray⟩) (fun _ => [fV eTx r (.string ⟨(r.map UInt8.ofNat).toArray⟩)]) (fun _ => True) (.returned (.string ⟨t.toArray⟩)) w' := by
        intro t w' hx ht
        have e5 : t = r.map UInt8.ofNat := by
          rw [← ht, List.map_map]
          conv => lhs; rw [← List.map_id t]
          exact List.map_congr_left fun b _ => by simp
        rw [← e5]
        refine ⟨(), rfl, trivial, hx, tx_fV ?_ ?_, trivial⟩
        · unfold bytesN
          simpa using ht
        · have h6 := bytesN_len ⟨t.toArray⟩
          have h7 : (bytesN ⟨t.toArray⟩).length = r.length := by unfold bytesN; rw [← ht]
          have h8 : r.length ≤ 140737488355328 := by rw [hr]; exact k2
          omega
      rcases h with h | ⟨b, o, cs, rfl, hs, hat, hel⟩
      · have h : x.1 = ([] : List (List Nat)) := h
        have hr0 : r = [] := by rw [hr, h]; rfl
        rw [h]
        refine (h0 ao cap sb w).mono ?_
        rintro e w' ⟨rfl, rfl⟩
        exact fin [] w' (Keeps.refl _ _) hr0.symm
      · obtain ⟨bs, e4, e5⟩ := elems_tx hel
        have hlen : bs.length = List.length (α := List Nat) x.1 := by rw [← e5, List.length_map]
        have hj := join_bytes bs sb
        rw [e2, e5] at hj
        have hjl : (Lib.join (bs.map (·.data.toList)) sb.data.toList).map UInt8.toNat = r := by
          rw [hr, ← hj]
          unfold bytesN
          simp
        have := h1 b o cap bs sb w (fun j y hy => hat.2 j (.string y) (by rw [e4, List.getElem?_map, hy]; rfl)) hat.1 (by rw [hlen]; exact k1) (by rw [hlen]; exact hc1) (by
          have h9 := congrArg List.length hjl
          rw [List.length_map] at h9
          rw [h9, hr]
          exact k2)
        rw [hlen] at this
        refine this.mono ?_
        rintro e w' ⟨rfl, hbl⟩
        exact fin _ w' (Ext.of_below hbl) hjl
    exact (fn_fnG key).to (fun _ => [.string ⟨(r.map UInt8.ofNat).toArray⟩]) (fun _ => rfl) (fun _ => rfl) (fun _ _ => rfl) fun _ _ S w ha => ha
end
end
section
set_option maxRecDepth 100000
def tt : List (Nat × TI) := [(2, ⟨.i, .int .i64, 8⟩), (3, ⟨.i, .int .i64, 8⟩), (4, ⟨.b, .bool, 1⟩), (5, ⟨.ch, .int .u8, 1⟩), (6, ⟨.ch, .int .u8, 1⟩), (7, ⟨(.p .i (.p .i (.p .b .ch))), .st 4, 24⟩), (8, ⟨(.p .i (.p .i (.p .b .ch))), .st 4, 24⟩), (9, ⟨.tx, .str, 16⟩), (10, ⟨.tx, .str, 16⟩), (11, ⟨.tx, .str, 16⟩), (12, ⟨.u, .int .u64, 8⟩), (13, ⟨(.p .tx .u), .st 2, 24⟩), (14, ⟨(.p .tx .u), .st 2, 24⟩), (22, ⟨(.l (.p .b (.l .u))), .sl 30, 24⟩), (23, ⟨(.l .i), .sl 3, 24⟩), (26, ⟨.i, .int .i64, 8⟩), (28, ⟨(.l .u), .sl 54, 24⟩), (29, ⟨(.p .b (.l .u)), .st 2, 32⟩), (30, ⟨(.p .b (.l .u)), .st 2, 32⟩), (31, ⟨(.l (.p (.l (.p .b (.l .u))) .i)), .sl 42, 24⟩), (41, ⟨(.p (.l (.p .b (.l .u))) .i), .st 2, 32⟩), (42, ⟨(.p (.l (.p .b (.l .u))) .i), .st 2, 32⟩), (53, ⟨.u, .int .u64, 8⟩), (54, ⟨.u, .int .u64, 8⟩), (55, ⟨(.l (.l (.p .b (.l .u)))), .sl 22, 24⟩), (59, ⟨(.l (.l (.p (.p .b (.l .u)) (.l .u)))), .sl 60, 24⟩), (60, ⟨(.l (.p (.p .b (.l .u)) (.l .u))), .sl 78, 24⟩), (61, ⟨(.po (.w1 (.p (.l (.p .b (.l .u))) (.l (.p (.p .b (.l .u)) (.l .u)))))), .pt 65, 8⟩), (62, ⟨(.p (.l (.p .b (.l .u))) (.l (.p (.p .b (.l .u)) (.l .u)))), .st 2, 48⟩), (63, ⟨(.p (.l (.p .b (.l .u))) (.l (.p (.p .b (.l .u)) (.l .u)))), .st 2, 48⟩), (64, ⟨(.w1 (.p (.l (.p .b (.l .u))) (.l (.p (.p .b (.l .u)) (.l .u))))), .st 0, 48⟩), (65, ⟨(.w1 (.p (.l (.p .b (.l .u))) (.l (.p (.p .b (.l .u)) (.l .u))))), .st 0, 48⟩), (66, ⟨(.l (.po (.w1 (.p (.l (.p .b (.l .u))) (.l (.p (.p .b (.l .u)) (.l .u))))))), .sl 61, 24⟩), (77, ⟨(.p (.p .b (.l .u)) (.l .u)), .st 2, 56⟩), (78, ⟨(.p (.p .b (.l .u)) (.l .u)), .st 2, 56⟩), (111, ⟨(.po .i), .pt 26, 8⟩), (112, ⟨(.w1 (.po (.w1 (.p (.l (.p .b (.l .u))) (.l (.p (.p .b (.l .u)) (.l .u))))))), .st 0, 8⟩), (113, ⟨(.w1 (.po (.w1 (.p (.l (.p .b (.l .u))) (.l (.p (.p .b (.l .u)) (.l .u))))))), .st 0, 8⟩), (138, ⟨(.l (.l .i)), .sl 23, 24⟩), (158, ⟨(.w1 .i), .st 0, 8⟩), (159, ⟨(.w1 .i), .st 0, 8⟩), (168, ⟨(.po (.p (.l (.p .b (.l .u))) (.p (.l (.p .b (.l .u))) (.p (.p .b (.l .u)) (.p (.p .b (.l .u)) .b))))), .pt 170, 8⟩), (169, ⟨(.p (.l (.p .b (.l .u))) (.p (.l (.p .b (.l .u))) (.p (.p .b (.l .u)) (.p (.p .b (.l .u)) .b)))), .st 5, 120⟩), (170, ⟨(.p (.l (.p .b (.l .u))) (.p (.l (.p .b (.l .u))) (.p (.p .b (.l .u)) (.p (.p .b (.l .u)) .b)))), .st 5, 120⟩), (171, ⟨(.l .tx), .sl 9, 24⟩), (218, ⟨(.l .ch), .sl 5, 24⟩), (251, ⟨(.a 4 (.l (.p .b (.l .u)))), .ar 4 22, 96⟩), (252, ⟨(.a 4 (.l (.p .b (.l .u)))), .ar 4 22, 96⟩), (257, ⟨.i, .int .i64, 8⟩), (270, ⟨(.po .ch), .pt 5, 8⟩), (285, ⟨(.a 3 (.l .i)), .ar 3 23, 72⟩), (286, ⟨(.a 3 (.l .i)), .ar 3 23, 72⟩), (293, ⟨.u, .int .u64, 8⟩), (297, ⟨(.po .i), .pt 3, 8⟩), (313, ⟨(.p (.l (.p .b (.l .u))) (.l (.l (.p .b (.l .u))))), .st 2, 48⟩), (314, ⟨(.p (.l (.p .b (.l .u))) (.l (.l (.p .b (.l .u))))), .st 2, 48⟩), (317, ⟨(.po (.p (.p (.l (.p .b (.l .u))) (.l (.l (.p .b (.l .u))))) (.l (.l (.p .b (.l .u)))))), .pt 319, 8⟩), (318, ⟨(.p (.p (.l (.p .b (.l .u))) (.l (.l (.p .b (.l .u))))) (.l (.l (.p .b (.l .u))))), .st 2, 72⟩), (319, ⟨(.p (.p (.l (.p .b (.l .u))) (.l (.l (.p .b (.l .u))))) (.l (.l (.p .b (.l .u))))), .st 2, 72⟩), (322, ⟨(.p (.p .b (.l .u)) (.p (.p .b (.l .u)) (.p .b (.l .u)))), .st 3, 96⟩), (323, ⟨(.p (.p .b (.l .u)) (.p (.p .b (.l .u)) (.p .b (.l .u)))), .st 3, 96⟩), (325, ⟨(.po .u), .pt 293, 8⟩), (335, ⟨(.po (.w1 .tx)), .pt 350, 8⟩), (342, ⟨.ch, .int .u8, 1⟩), (343, ⟨.ch, .int .u8, 1⟩), (349, ⟨(.w1 .tx), .st 0, 16⟩), (350, ⟨(.w1 .tx), .st 0, 16⟩)]
def ex : List (Nat × Bool) := [(214, true), (219, false)]
theorem ttok : TTok Tryz.prog tt := TTok.add (by kernel_rfl) (by kernel_rfl) (id (by kernel_rfl : Tryz.prog.underlying 2 = some (.int .i64))) <|
  TTok.add (by kernel_rfl) (by kernel_rfl) (id (by kernel_rfl : Tryz.prog.underlying 3 = some (.int .i64))) <|
  TTok.add (by kernel_rfl) (by kernel_rfl) (id (by kernel_rfl : Tryz.prog.underlying 4 = some .bool)) <|
  TTok.add (by kernel_rfl) (by kernel_rfl) (id (by kernel_rfl : Tryz.prog.underlying 5 = some (.int .u8))) <|
  TTok.add (by kernel_rfl) (by kernel_rfl) (id (by kernel_rfl : Tryz.prog.underlying 6 = some (.int .u8))) <|
  TTok.add (by kernel_rfl) (by kernel_rfl) ⟨rfl, by kernel_rfl⟩ <|
  TTok.add (by kernel_rfl) (by kernel_rfl) ⟨rfl, by kernel_rfl⟩ <|
  TTok.add (by kernel_rfl) (by kernel_rfl) (id (by kernel_rfl : Tryz.prog.underlying 9 = some .string)) <|
  TTok.add (by kernel_rfl) (by kernel_rfl) (id (by kernel_rfl : Tryz.prog.underlying 10 = some .string)) <|
  TTok.add (by kernel_rfl) (by kernel_rfl) (id (by kernel_rfl : Tryz.prog.underlying 11 = some .string)) <|
  TTok.add (by kernel_rfl) (by kernel_rfl) (id (by kernel_rfl : Tryz.prog.underlying 12 = some (.int .u64))) <|
  TTok.add (by kernel_rfl) (by kernel_rfl) ⟨rfl, by kernel_rfl⟩ <|
  TTok.add (by kernel_rfl) (by kernel_rfl) ⟨rfl, by kernel_rfl⟩ <|
  TTok.add (by kernel_rfl) (by kernel_rfl) ⟨by kernel_rfl, _, rfl⟩ <|
  TTok.add (by kernel_rfl) (by kernel_rfl) ⟨by kernel_rfl, _, rfl⟩ <|
  TTok.add (by kernel_rfl) (by kernel_rfl) (id (by kernel_rfl : Tryz.prog.underlying 26 = some (.int .i64))) <|
  TTok.add (by kernel_rfl) (by kernel_rfl) ⟨by kernel_rfl, _, rfl⟩ <|
  TTok.add (by kernel_rfl) (by kernel_rfl) ⟨rfl, by kernel_rfl⟩ <|
  TTok.add (by kernel_rfl) (by kernel_rfl) ⟨rfl, by kernel_rfl⟩ <|
  TTok.add (by kernel_rfl) (by kernel_rfl) ⟨by kernel_rfl, _, rfl⟩ <|
  TTok.add (by kernel_rfl) (by kernel_rfl) ⟨rfl, by kernel_rfl⟩ <|
  TTok.add (by kernel_rfl) (by kernel_rfl) ⟨rfl, by kernel_rfl⟩ <|
  TTok.add (by kernel_rfl) (by kernel_rfl) (id (by kernel_rfl : Tryz.prog.underlying 53 = some (.int .u64))) <|
  TTok.add (by kernel_rfl) (by kernel_rfl) (id (by kernel_rfl : Tryz.prog.underlying 54 = some (.int .u64))) <|
  TTok.add (by kernel_rfl) (by kernel_rfl) ⟨by kernel_rfl, _, rfl⟩ <|
  TTok.add (by kernel_rfl) (by kernel_rfl) ⟨by kernel_rfl, _, rfl⟩ <|
  TTok.add (by kernel_rfl) (by kernel_rfl) ⟨by kernel_rfl, _, rfl⟩ <|
  TTok.add (by kernel_rfl) (by kernel_rfl) (id (by kernel_rfl : Tryz.prog.underlying 61 = some (.pointer 65))) <|
  TTok.add (by kernel_rfl) (by kernel_rfl) ⟨rfl, by kernel_rfl⟩ <|
  TTok.add (by kernel_rfl) (by kernel_rfl) ⟨rfl, by kernel_rfl⟩ <|
  TTok.add (by kernel_rfl) (by kernel_rfl) ⟨rfl, by kernel_rfl⟩ <|
  TTok.add (by kernel_rfl) (by kernel_rfl) ⟨rfl, by kernel_rfl⟩ <|
  TTok.add (by kernel_rfl) (by kernel_rfl) ⟨by kernel_rfl, _, rfl⟩ <|
  TTok.add (by kernel_rfl) (by kernel_rfl) ⟨rfl, by kernel_rfl⟩ <|
  TTok.add (by kernel_rfl) (by kernel_rfl) ⟨rfl, by kernel_rfl⟩ <|
  TTok.add (by kernel_rfl) (by kernel_rfl) (id (by kernel_rfl : Tryz.prog.underlying 111 = some (.pointer 26))) <|
  TTok.add (by kernel_rfl) (by kernel_rfl) ⟨rfl, by kernel_rfl⟩ <|
  TTok.add (by kernel_rfl) (by kernel_rfl) ⟨rfl, by kernel_rfl⟩ <|
  TTok.add (by kernel_rfl) (by kernel_rfl) ⟨by kernel_rfl, _, rfl⟩ <|
  TTok.add (by kernel_rfl) (by kernel_rfl) ⟨rfl, by kernel_rfl⟩ <|
  TTok.add (by kernel_rfl) (by kernel_rfl) ⟨rfl, by kernel_rfl⟩ <|
  TTok.add (by kernel_rfl) (by kernel_rfl) (id (by kernel_rfl : Tryz.prog.underlying 168 = some (.pointer 170))) <|
  TTok.add (by kernel_rfl) (by kernel_rfl) ⟨rfl, by kernel_rfl⟩ <|
  TTok.add (by kernel_rfl) (by kernel_rfl) ⟨rfl, by kernel_rfl⟩ <|
  TTok.add (by kernel_rfl) (by kernel_rfl) ⟨by kernel_rfl, _, rfl⟩ <|
  TTok.add (by kernel_rfl) (by kernel_rfl) ⟨by kernel_rfl, _, rfl⟩ <|
  TTok.add (by kernel_rfl) (by kernel_rfl) ⟨rfl, by kernel_rfl⟩ <|
  TTok.add (by kernel_rfl) (by kernel_rfl) ⟨rfl, by kernel_rfl⟩ <|
  TTok.add (by kernel_rfl) (by kernel_rfl) (id (by kernel_rfl : Tryz.prog.underlying 257 = some (.int .i64))) <|
  TTok.add (by kernel_rfl) (by kernel_rfl) (id (by kernel_rfl : Tryz.prog.underlying 270 = some (.pointer 5))) <|
  TTok.add (by kernel_rfl) (by kernel_rfl) ⟨rfl, by kernel_rfl⟩ <|
  TTok.add (by kernel_rfl) (by kernel_rfl) ⟨rfl, by kernel_rfl⟩ <|
  TTok.add (by kernel_rfl) (by kernel_rfl) (id (by kernel_rfl : Tryz.prog.underlying 293 = some (.int .u64))) <|
  TTok.add (by kernel_rfl) (by kernel_rfl) (id (by kernel_rfl : Tryz.prog.underlying 297 = some (.pointer 3))) <|
  TTok.add (by kernel_rfl) (by kernel_rfl) ⟨rfl, by kernel_rfl⟩ <|
  TTok.add (by kernel_rfl) (by kernel_rfl) ⟨rfl, by kernel_rfl⟩ <|
  TTok.add (by kernel_rfl) (by kernel_rfl) (id (by kernel_rfl : Tryz.prog.underlying 317 = some (.pointer 319))) <|
  TTok.add (by kernel_rfl) (by kernel_rfl) ⟨rfl, by kernel_rfl⟩ <|
  TTok.add (by kernel_rfl) (by kernel_rfl) ⟨rfl, by kernel_rfl⟩ <|
  TTok.add (by kernel_rfl) (by kernel_rfl) ⟨rfl, by kernel_rfl⟩ <|
  TTok.add (by kernel_rfl) (by kernel_rfl) ⟨rfl, by kernel_rfl⟩ <|
  TTok.add (by kernel_rfl) (by kernel_rfl) (id (by kernel_rfl : Tryz.prog.underlying 325 = some (.pointer 293))) <|
  TTok.add (by kernel_rfl) (by kernel_rfl) (id (by kernel_rfl : Tryz.prog.underlying 335 = some (.pointer 350))) <|
  TTok.add (by kernel_rfl) (by kernel_rfl) (id (by kernel_rfl : Tryz.prog.underlying 342 = some (.int .u8))) <|
  TTok.add (by kernel_rfl) (by kernel_rfl) (id (by kernel_rfl : Tryz.prog.underlying 343 = some (.int .u8))) <|
  TTok.add (by kernel_rfl) (by kernel_rfl) ⟨rfl, by kernel_rfl⟩ <|
  TTok.add (by kernel_rfl) (by kernel_rfl) ⟨rfl, by kernel_rfl⟩ <|
  TTok.nil
theorem elok : ELok Tryz.prog tt := ELok.of (by kernel_rfl)
theorem exok : EXok Tryz.prog ex := EXok.add Tryz.func214 (by kernel_rfl) (by kernel_rfl) (by kernel_rfl) (fun _ => by kernel_rfl) (fun h => by cases h) <|
  EXok.add Tryz.func219 (by kernel_rfl) (by kernel_rfl) (by kernel_rfl) (fun h => by cases h) (fun _ => by kernel_rfl) <|
  EXok.nil
theorem mord : Tryz.prog.follows .mixedOrders = true := by kernel_rfl
theorem sg {cs : List Sig} (an : An) {fu : Nat} {s : Sig} {fn : Func} (hf : Tryz.prog.funcs[s.f]? = some fn) (hC : ∀ s ∈ cs, SigOK Tryz.prog s) (hb : fnB Tryz.prog s.f = true) (hM : ∀ x, denF ⟨tt, cs, an, fu, ex, [], [], []⟩ fn s.dom s.cod x = s.M x) (hk : s.bk = 0 := by rfl) : SigOK Tryz.prog s :=
  sgP mord ttok elok exok rfl an hf hC hb hk hM
theorem sgb {cs : List Sig} (an : An) {fu : Nat} {s : Sig} {fn : Func} (hf : Tryz.prog.funcs[s.f]? = some fn) (hC : ∀ s ∈ cs, SigOK Tryz.prog s) (hb : fnB Tryz.prog s.f = true) (hM : ∀ pn x, denG ⟨tt, cs, an, fu, ex, [], [], []⟩ fn s.dom s.cod s.bk pn x = s.M x) : SigOK Tryz.prog s :=
  sgG mord ttok elok exok rfl an hf hC hb hM
end
section
set_option maxRecDepth 100000
def B_ref01_Norm_0 (fu : Nat) (a0 : List Nat) : (Int → Option Int) → Int → Option Int := fun L i1 =>
 if (0 : Int) < i1 then
 ck64 (i1 - ((1 : Int))) fun x1 =>
 ckI x1 (a0.length) fun j1 =>
 nm (a0.getD j1 0) fun y1 =>
 if ((y1 : Nat) : Int) = (((0 : Nat) : Nat) : Int) then
 ck64 (i1 - ((1 : Int))) fun x2 =>
 L x2
 else
 some i1
 else
 some i1
def M_ref01_Norm (fu : Nat) (a0 : List Nat) : Option (List Nat) :=
 bd (loopN (B_ref01_Norm_0 fu a0) fu (((a0.length : Nat) : Int))) fun i2 =>
 ckN i2 fun j2 =>
 ck (j2 ≤ a0.length) <|
 nm (a0.take j2) fun t1 =>
 ck (((([] : List Nat)).length + t1.length) * 8 ≤ 140737488355328) <|
 nm ((([] : List Nat)) ++ t1) fun t2 =>
 some t2
def M_ref02_Norm (fu : Nat) (a0 : Zr) : Option Zr :=
 bd (M_ref01_Norm fu a0.2) fun t1 =>
 if a0.1 = true then
 if (0 : Int) < ((t1.length : Nat) : Int) then
 some (true, t1)
 else
 some (false, t1)
 else
 some (false, t1)
def M_ref02_Of (fu : Nat) (a0 : Int) : Option Zr :=
 if a0 < (0 : Int) then
 ck64 (0 - a0) fun x1 =>
 nm (uns x1) fun m1 =>
 bd (M_ref02_Norm fu (true, [m1])) fun y1 =>
 some y1
 else
 nm (uns a0) fun m2 =>
 bd (M_ref02_Norm fu (false, [m2])) fun y2 =>
 some y2
def M_ref02_Sign (fu : Nat) (a0 : Zr) : Option Int :=
 bd (M_ref02_Norm fu a0) fun y1 =>
 if y1.1 = true then
 some (-1 : Int)
 else
 if (0 : Int) < ((y1.2.length : Nat) : Int) then
 some (1 : Int)
 else
 some (0 : Int)
def B_ref10_Norm_0 (fu : Nat) (a0 : List Zr) : (Int → Option Int) → Int → Option Int := fun L i1 =>
 if (0 : Int) < i1 then
 ck64 (i1 - ((1 : Int))) fun x1 =>
 ckI x1 (a0.length) fun j1 =>
 nm (a0.getD j1 (false, [])) fun y1 =>
 bd (M_ref02_Sign fu y1) fun x2 =>
 if x2 = (0 : Int) then
 ck64 (i1 - ((1 : Int))) fun x3 =>
 L x3
 else
 some i1
 else
 some i1
def B_ref10_Norm_1 (fu : Nat) (a0 : List Zr) (i2 : Int) : (((List Zr) × Int) → Option (List Zr)) → ((List Zr) × Int) → Option (List Zr) := fun L (t1, i3) =>
 if i3 < i2 then
 ckI i3 (a0.length) fun j2 =>
 nm (a0.getD j2 (false, [])) fun y2 =>
 bd (M_ref02_Norm fu y2) fun y3 =>
 ck ((t1.length + ([y3]).length) * 32 ≤ 140737488355328) <|
 nm (t1 ++ ([y3])) fun t2 =>
 ck64 (i3 + ((1 : Int))) fun x4 =>
 L (t2, x4)
 else
 some t1
def M_ref10_Norm (fu : Nat) (a0 : List Zr) : Option (List Zr) :=
 bd (loopN (B_ref10_Norm_0 fu a0) fu (((a0.length : Nat) : Int))) fun i2 =>
 bd (loopN (B_ref10_Norm_1 fu a0 i2) fu (([], (0 : Int)))) fun t3 =>
 some t3
def B_ref01_Same_0 (fu : Nat) (a0 : List Nat) (a1 : List Nat) : (Int → Option (Unit ⊕ Unit)) → Int → Option (Unit ⊕ Unit) := fun L i1 =>
 if i1 < ((a0.length : Nat) : Int) then
 ckI i1 (a0.length) fun j1 =>
 nm (a0.getD j1 0) fun y1 =>
 ckI i1 (a1.length) fun j2 =>
 nm (a1.getD j2 0) fun y2 =>
 if ((y1 : Nat) : Int) = ((y2 : Nat) : Int) then
 ck64 (i1 + ((1 : Int))) fun x1 =>
 L x1
 else
 some (.inr ())
 else
 some (.inl ())
def M_ref01_Same (fu : Nat) (a0 : List Nat) (a1 : List Nat) : Option Bool :=
 if ((a0.length : Nat) : Int) = ((a1.length : Nat) : Int) then
 bd (loopN (B_ref01_Same_0 fu a0 a1) fu (0 : Int)) fun s1 => match s1 with
 | .inl _ =>
 some true
 | .inr _ =>
 some false
 else
 some false
def M_ref02_Same (fu : Nat) (a0 : Zr) (a1 : Zr) : Option Bool :=
 nm (a0.1 == a1.1) fun c1 =>
 if c1 = true then
 bd (M_ref01_Same fu a0.2 a1.2) fun c2 =>
 some c2
 else
 some false
def B_ref10_Same_0 (fu : Nat) (a0 : List Zr) (a1 : List Zr) : (Int → Option (Unit ⊕ Unit)) → Int → Option (Unit ⊕ Unit) := fun L i1 =>
 if i1 < ((a0.length : Nat) : Int) then
 ckI i1 (a0.length) fun j1 =>
 nm (a0.getD j1 (false, [])) fun y1 =>
 ckI i1 (a1.length) fun j2 =>
 nm (a1.getD j2 (false, [])) fun y2 =>
 bd (M_ref02_Same fu y1 y2) fun c1 =>
 if ((!c1)) = true then
 some (.inr ())
 else
 ck64 (i1 + ((1 : Int))) fun x1 =>
 L x1
 else
 some (.inl ())
def M_ref10_Same (fu : Nat) (a0 : List Zr) (a1 : List Zr) : Option Bool :=
 if ((a0.length : Nat) : Int) = ((a1.length : Nat) : Int) then
 bd (loopN (B_ref10_Same_0 fu a0 a1) fu (0 : Int)) fun s1 => match s1 with
 | .inl _ =>
 some true
 | .inr _ =>
 some false
 else
 some false
def M_nat_at (fu : Nat) (a0 : List Nat) (a1 : Int) : Option Nat :=
 if a1 < ((a0.length : Nat) : Int) then
 ckI a1 (a0.length) fun j1 =>
 nm (a0.getD j1 0) fun y1 =>
 some y1
 else
 some (0 : Nat)
def M_nat_Add_1 (fu : Nat) (a0 : Int) (a1 : Nat) (a2 : List Nat) (a3 : List Nat) : Option (Nat × Nat) :=
 bd (M_nat_at fu a2 a0) fun m1 =>
 bd (M_nat_at fu a3 a0) fun m2 =>
 ck (a1 ≤ 1) <|
 nm ((m1 + m2 + a1) % 18446744073709551616) fun m3 =>
 nm ((m1 + m2 + a1) / 18446744073709551616) fun m4 =>
 some (m3, m4)
def B_nat_carried_0 (fu : Nat) (a1 : Int → Nat → Option (Nat × Nat)) (t1 : List Nat) : ((Nat × Int × (List Nat)) → Option (Nat × (List Nat))) → (Nat × Int × (List Nat)) → Option (Nat × (List Nat)) := fun L (d1, i1, t2) =>
 if i1 < ((t1.length : Nat) : Int) then
 bd (a1 i1 d1) fun (m1, m2) =>
 ckI i1 (t2.length) fun j2 =>
 nm (t2.set j2 m1) fun t3 =>
 ck64 (i1 + ((1 : Int))) fun x1 =>
 L (m2, x1, t3)
 else
 some (d1, t2)
def M_nat_carried (fu : Nat) (a0 : Int) (a1 : Int → Nat → Option (Nat × Nat)) : Option ((List Nat) × Nat) :=
 ckN a0 fun j1 =>
 ck (8 * j1 ≤ 281474976710656) <|
 nm (List.replicate j1 0) fun t1 =>
 bd (loopN (B_nat_carried_0 fu a1 t1) fu (((0 : Nat), (0 : Int), t1))) fun (d2, t4) =>
 some (t4, d2)
def B_nat_plain_0 (fu : Nat)  : ((List Nat) → Option (List Nat)) → (List Nat) → Option (List Nat) := fun L t1 =>
 if (0 : Int) < ((t1.length : Nat) : Int) then
 ck64 ((((t1.length : Nat) : Int)) - ((1 : Int))) fun x1 =>
 ckI x1 (t1.length) fun j1 =>
 nm (t1.getD j1 0) fun y1 =>
 if ((y1 : Nat) : Int) = (((0 : Nat) : Nat) : Int) then
 ck64 ((((t1.length : Nat) : Int)) - ((1 : Int))) fun x2 =>
 ckN x2 fun j2 =>
 ck (j2 ≤ t1.length) <|
 nm (t1.take j2) fun t2 =>
 L t2
 else
 some t1
 else
 some t1
def M_nat_plain (fu : Nat) (a0 : List Nat) : Option (List Nat) :=
 bd (loopN (B_nat_plain_0 fu ) fu a0) fun t3 =>
 some t3
def B_nat_plain_own_0 (fu : Nat)  : ((List Nat) → Option (List Nat)) → (List Nat) → Option (List Nat) := fun L t1 =>
 if (0 : Int) < ((t1.length : Nat) : Int) then
 ck64 ((((t1.length : Nat) : Int)) - ((1 : Int))) fun x1 =>
 ckI x1 (t1.length) fun j1 =>
 nm ((t1.getD j1 0)) fun m1 =>
 if ((m1 : Nat) : Int) = (((0 : Nat) : Nat) : Int) then
 ck64 ((((t1.length : Nat) : Int)) - ((1 : Int))) fun x2 =>
 ckN x2 fun j2 =>
 ck (j2 ≤ t1.length) <|
 nm (t1.take j2) fun t2 =>
 L t2
 else
 some t1
 else
 some t1
def M_nat_plain_own (fu : Nat) (a0 : List Nat) : Option (List Nat) :=
 bd (loopN (B_nat_plain_own_0 fu ) fu a0) fun t3 =>
 some t3
def M_nat_Add (fu : Nat) (a0 : List Nat) (a1 : List Nat) : Option (List Nat) :=
 nm (max (((a0.length : Nat) : Int)) (((a1.length : Nat) : Int))) fun x1 =>
 bd (M_nat_carried fu x1 (fun zx0 zx1 => M_nat_Add_1 fu zx0 zx1 a0 a1)) fun (t1, m1) =>
 ck ((t1.length + ([m1]).length) * 8 ≤ 140737488355328) <|
 nm (t1 ++ ([m1])) fun t2 =>
 bd (M_nat_plain_own fu t2) fun t3 =>
 some t3
def M_cmp_isNaN_int (fu : Nat) (a0 : Int) : Option Bool :=
 if a0 = a0 then
 some false
 else
 some true
def M_cmp_Compare_int (fu : Nat) (a0 : Int) (a1 : Int) : Option Int :=
 bd (M_cmp_isNaN_int fu a0) fun c1 =>
 bd (M_cmp_isNaN_int fu a1) fun c2 =>
 if c1 = true then
 if c2 = true then
 some (0 : Int)
 else
 some (-1 : Int)
 else
 if c2 = true then
 some (1 : Int)
 else
 if a0 < a1 then
 some (-1 : Int)
 else
 if a1 < a0 then
 some (1 : Int)
 else
 some (0 : Int)
def M_cmp_isNaN_uint64 (fu : Nat) (a0 : Nat) : Option Bool :=
 if ((a0 : Nat) : Int) = ((a0 : Nat) : Int) then
 some false
 else
 some true
def M_cmp_Compare_uint64 (fu : Nat) (a0 : Nat) (a1 : Nat) : Option Int :=
 bd (M_cmp_isNaN_uint64 fu a0) fun c1 =>
 bd (M_cmp_isNaN_uint64 fu a1) fun c2 =>
 if c1 = true then
 if c2 = true then
 some (0 : Int)
 else
 some (-1 : Int)
 else
 if c2 = true then
 some (1 : Int)
 else
 if ((a0 : Nat) : Int) < ((a1 : Nat) : Int) then
 some (-1 : Int)
 else
 if ((a1 : Nat) : Int) < ((a0 : Nat) : Int) then
 some (1 : Int)
 else
 some (0 : Int)
def B_nat_Cmp_0 (fu : Nat) (t1 : List Nat) (t2 : List Nat) : (Int → Option (Unit ⊕ Int)) → Int → Option (Unit ⊕ Int) := fun L i1 =>
 if (0 : Int) ≤ i1 then
 ckI i1 (t1.length) fun j1 =>
 nm (t1.getD j1 0) fun y1 =>
 ckI i1 (t2.length) fun j2 =>
 nm (t2.getD j2 0) fun y2 =>
 if ((y1 : Nat) : Int) = ((y2 : Nat) : Int) then
 ck64 (i1 - ((1 : Int))) fun x2 =>
 L x2
 else
 ckI i1 (t1.length) fun j3 =>
 nm (t1.getD j3 0) fun y3 =>
 ckI i1 (t2.length) fun j4 =>
 nm (t2.getD j4 0) fun y4 =>
 bd (M_cmp_Compare_uint64 fu y3 y4) fun x3 =>
 some (.inr x3)
 else
 some (.inl ())
def M_nat_Cmp (fu : Nat) (a0 : List Nat) (a1 : List Nat) : Option Int :=
 bd (M_nat_plain fu a0) fun t1 =>
 bd (M_nat_plain fu a1) fun t2 =>
 if ((t1.length : Nat) : Int) = ((t2.length : Nat) : Int) then
 ck64 ((((t1.length : Nat) : Int)) - ((1 : Int))) fun x1 =>
 bd (loopN (B_nat_Cmp_0 fu t1 t2) fu x1) fun s1 => match s1 with
 | .inl _ =>
 some (0 : Int)
 | .inr i2 =>
 some i2
 else
 bd (M_cmp_Compare_int fu (((t1.length : Nat) : Int)) (((t2.length : Nat) : Int))) fun x4 =>
 some x4
def M_slices_Clone_uint64_uint64 (fu : Nat) (a0 : List Nat) : Option (List Nat) :=
 ck (a0.length ≤ 17592186044416) <|
 some a0
def M_nat_Norm (fu : Nat) (a0 : List Nat) : Option (List Nat) :=
 bd (M_nat_plain fu a0) fun t1 =>
 bd (M_slices_Clone_uint64_uint64 fu t1) fun t2 =>
 some t2
def M_nat_Shl_1 (fu : Nat) (a0 : Int) (a1 : Nat) (a2 : List Nat) (a3 : Int) : Option (Nat × Nat) :=
 ckI a0 (a2.length) fun j1 =>
 nm (a2.getD j1 0) fun y1 =>
 ck ((64 : Int) ≠ 0) <|
 nm (Int.tmod a3 ((64 : Int))) fun x1 =>
 ck (0 ≤ x1) <|
 nm (y1 * 2 ^ (min (x1 : Int).toNat 64) % 18446744073709551616) fun m1 =>
 nm (m1 ||| a1) fun m2 =>
 ckI a0 (a2.length) fun j2 =>
 nm (a2.getD j2 0) fun y2 =>
 nm (y2 / 2 ^ (min (((1 : Nat)) : Int).toNat 64)) fun m3 =>
 ck ((64 : Int) ≠ 0) <|
 nm (Int.tmod a3 ((64 : Int))) fun x2 =>
 ck64 (((63 : Int)) - x2) fun x3 =>
 ck (0 ≤ x3) <|
 nm (m3 / 2 ^ (min (x3 : Int).toNat 64)) fun m4 =>
 some (m2, m4)
def M_nat_moved (fu : Nat) (a0 : List Nat) (a1 : Int) : Option (List Nat) :=
 ckN a1 fun j1 =>
 ck (8 * j1 ≤ 281474976710656) <|
 nm (List.replicate j1 0) fun t1 =>
 ck ((t1.length + a0.length) * 8 ≤ 140737488355328) <|
 nm (t1 ++ a0) fun t2 =>
 some t2
def M_nat_Shl (fu : Nat) (a0 : List Nat) (a1 : Int) : Option ((List Nat) × Int) :=
 if a1 < (0 : Int) then
 some (([], (1 : Int)))
 else
 if (262144 : Int) < a1 then
 some (([], (1 : Int)))
 else
 bd (M_nat_carried fu (((a0.length : Nat) : Int)) (fun zx0 zx1 => M_nat_Shl_1 fu zx0 zx1 a0 a1)) fun (t1, m1) =>
 ck ((t1.length + ([m1]).length) * 8 ≤ 140737488355328) <|
 nm (t1 ++ ([m1])) fun t2 =>
 ck ((64 : Int) ≠ 0) <|
 ck64 (Int.tdiv a1 ((64 : Int))) fun x1 =>
 bd (M_nat_moved fu t2 x1) fun t3 =>
 bd (M_nat_plain_own fu t3) fun t4 =>
 some ((t4, (0 : Int)))
def M_nat_Shr_1 (fu : Nat) (a0 : Int) (a1 : Nat) (a2 : List Nat) (a3 : Int) : Option (Nat × Nat) :=
 ckI a0 (a2.length) fun j1 =>
 nm (a2.getD j1 0) fun y1 =>
 ck (0 ≤ a3) <|
 nm (y1 / 2 ^ (min (a3 : Int).toNat 64)) fun m1 =>
 ck64 (a0 + ((1 : Int))) fun x1 =>
 bd (M_nat_at fu a2 x1) fun m2 =>
 nm (m2 * 2 ^ (min (((1 : Nat)) : Int).toNat 64) % 18446744073709551616) fun m3 =>
 ck64 (((63 : Int)) - a3) fun x2 =>
 ck (0 ≤ x2) <|
 nm (m3 * 2 ^ (min (x2 : Int).toNat 64) % 18446744073709551616) fun m4 =>
 nm (m1 ||| m4) fun m5 =>
 some ((m5, (0 : Nat)))
def M_nat_Shr (fu : Nat) (a0 : List Nat) (a1 : Int) : Option (List Nat) :=
 nm (max a1 ((0 : Int))) fun x1 =>
 ck ((64 : Int) ≠ 0) <|
 ck64 (Int.tdiv x1 ((64 : Int))) fun x2 =>
 if ((a0.length : Nat) : Int) ≤ x2 then
 some []
 else
 ck ((64 : Int) ≠ 0) <|
 ck64 (Int.tdiv x1 ((64 : Int))) fun x3 =>
 ckN x3 fun j1 =>
 ck (j1 ≤ a0.length) <|
 nm (a0.drop j1) fun t1 =>
 ck ((64 : Int) ≠ 0) <|
 nm (Int.tmod x1 ((64 : Int))) fun x4 =>
 bd (M_nat_carried fu (((t1.length : Nat) : Int)) (fun zx0 zx1 => M_nat_Shr_1 fu zx0 zx1 t1 x4)) fun (t2, m1) =>
 bd (M_nat_plain_own fu t2) fun t3 =>
 some t3
def M_math_bits_Len64 (fu : Nat) (a0 : Nat) : Option Int :=
 bd ((if (4294967296 : Int) ≤ ((a0 : Nat) : Int) then
 nm (a0 / 2 ^ (min ((32 : Int)).toNat 64)) fun m1 =>
 some (m1, 32)
 else
 some (a0, 0) : Option (Nat × Int))) fun (d1, i1) =>
 bd ((if (65536 : Int) ≤ ((d1 : Nat) : Int) then
 nm (d1 / 2 ^ (min ((16 : Int)).toNat 64)) fun m2 =>
 ck64 (i1 + 16) fun x1 =>
 some (m2, x1)
 else
 some (d1, i1) : Option (Nat × Int))) fun (d2, i2) =>
 if (256 : Int) ≤ ((d2 : Nat) : Int) then
 nm (d2 / 2 ^ (min ((8 : Int)).toNat 64)) fun m3 =>
 ck64 (i2 + 8) fun x2 =>
 nm (m3 % 256) fun m4 =>
 nm (Lib.bitLen m4) fun m5 =>
 ck64 (x2 + (((m5 : Nat) : Int))) fun x3 =>
 some x3
 else
 nm (d2 % 256) fun m6 =>
 nm (Lib.bitLen m6) fun m7 =>
 ck64 (i2 + (((m7 : Nat) : Int))) fun x4 =>
 some x4
def M_math_bits_LeadingZeros64 (fu : Nat) (a0 : Nat) : Option Int :=
 bd (M_math_bits_Len64 fu a0) fun x1 =>
 ck64 (((64 : Int)) - x1) fun x2 =>
 some x2
def B_math_bits_Div64_0 (fu : Nat) (m5 : Nat) (m6 : Nat) (m12 : Nat) : ((Nat × Nat) → Option Nat) → (Nat × Nat) → Option Nat := fun L (d1, d2) =>
 if (((4294967296 : Nat) : Nat) : Int) ≤ ((d1 : Nat) : Int) then
 nm ((d1 + 18446744073709551616 - ((1 : Nat))) % 18446744073709551616) fun m17 =>
 nm ((d2 + m5) % 18446744073709551616) fun m18 =>
 if (((4294967296 : Nat) : Nat) : Int) ≤ ((m18 : Nat) : Int) then
 some m17
 else
 L (m17, m18)
 else
 nm ((d1 * m6) % 18446744073709551616) fun m19 =>
 nm ((((4294967296 : Nat)) * d2) % 18446744073709551616) fun m20 =>
 nm ((m20 + m12) % 18446744073709551616) fun m21 =>
 if ((m21 : Nat) : Int) < ((m19 : Nat) : Int) then
 nm ((d1 + 18446744073709551616 - ((1 : Nat))) % 18446744073709551616) fun m22 =>
 nm ((d2 + m5) % 18446744073709551616) fun m23 =>
 if (((4294967296 : Nat) : Nat) : Int) ≤ ((m23 : Nat) : Int) then
 some m22
 else
 L (m22, m23)
 else
 some d1
def B_math_bits_Div64_1 (fu : Nat) (m5 : Nat) (m6 : Nat) (m13 : Nat) : ((Nat × Nat) → Option Nat) → (Nat × Nat) → Option Nat := fun L (d4, d5) =>
 if (((4294967296 : Nat) : Nat) : Int) ≤ ((d5 : Nat) : Int) then
 nm ((d5 + 18446744073709551616 - ((1 : Nat))) % 18446744073709551616) fun m31 =>
 nm ((d4 + m5) % 18446744073709551616) fun m32 =>
 if (((4294967296 : Nat) : Nat) : Int) ≤ ((m32 : Nat) : Int) then
 some m31
 else
 L (m32, m31)
 else
 nm ((d5 * m6) % 18446744073709551616) fun m33 =>
 nm ((((4294967296 : Nat)) * d4) % 18446744073709551616) fun m34 =>
 nm ((m34 + m13) % 18446744073709551616) fun m35 =>
 if ((m35 : Nat) : Int) < ((m33 : Nat) : Int) then
 nm ((d5 + 18446744073709551616 - ((1 : Nat))) % 18446744073709551616) fun m36 =>
 nm ((d4 + m5) % 18446744073709551616) fun m37 =>
 if (((4294967296 : Nat) : Nat) : Int) ≤ ((m37 : Nat) : Int) then
 some m36
 else
 L (m37, m36)
 else
 some d5
def M_math_bits_Div64 (fu : Nat) (a0 : Nat) (a1 : Nat) (a2 : Nat) : Option (Nat × Nat) :=
 if ((a2 : Nat) : Int) = (((0 : Nat) : Nat) : Int) then
 none
 else
 if ((a2 : Nat) : Int) ≤ ((a0 : Nat) : Int) then
 none
 else
 if ((a0 : Nat) : Int) = (((0 : Nat) : Nat) : Int) then
 ck (a2 ≠ 0) <|
 nm (a1 / a2) fun m1 =>
 ck (a2 ≠ 0) <|
 nm (a1 % a2) fun m2 =>
 some (m1, m2)
 else
 bd (M_math_bits_LeadingZeros64 fu a2) fun x1 =>
 nm (uns x1) fun m3 =>
 nm (a2 * 2 ^ (min (m3 : Int).toNat 64) % 18446744073709551616) fun m4 =>
 nm (m4 / 2 ^ (min (((32 : Nat)) : Int).toNat 64)) fun m5 =>
 nm (m4 &&& ((4294967295 : Nat))) fun m6 =>
 nm (a0 * 2 ^ (min (m3 : Int).toNat 64) % 18446744073709551616) fun m7 =>
 nm ((((64 : Nat)) + 18446744073709551616 - m3) % 18446744073709551616) fun m8 =>
 nm (a1 / 2 ^ (min (m8 : Int).toNat 64)) fun m9 =>
 nm (m7 ||| m9) fun m10 =>
 nm (a1 * 2 ^ (min (m3 : Int).toNat 64) % 18446744073709551616) fun m11 =>
 nm (m11 / 2 ^ (min (((32 : Nat)) : Int).toNat 64)) fun m12 =>
 nm (m11 &&& ((4294967295 : Nat))) fun m13 =>
 ck (m5 ≠ 0) <|
 nm (m10 / m5) fun m14 =>
 nm ((m14 * m5) % 18446744073709551616) fun m15 =>
 nm ((m10 + 18446744073709551616 - m15) % 18446744073709551616) fun m16 =>
 bd (loopN (B_math_bits_Div64_0 fu m5 m6 m12) fu (m14, m16)) fun d3 =>
 nm ((m10 * ((4294967296 : Nat))) % 18446744073709551616) fun m24 =>
 nm ((m24 + m12) % 18446744073709551616) fun m25 =>
 nm ((d3 * m4) % 18446744073709551616) fun m26 =>
 nm ((m25 + 18446744073709551616 - m26) % 18446744073709551616) fun m27 =>
 ck (m5 ≠ 0) <|
 nm (m27 / m5) fun m28 =>
 nm ((m28 * m5) % 18446744073709551616) fun m29 =>
 nm ((m27 + 18446744073709551616 - m29) % 18446744073709551616) fun m30 =>
 bd (loopN (B_math_bits_Div64_1 fu m5 m6 m13) fu (m30, m28)) fun d6 =>
 nm ((d3 * ((4294967296 : Nat))) % 18446744073709551616) fun m38 =>
 nm ((m38 + d6) % 18446744073709551616) fun m39 =>
 nm ((m27 * ((4294967296 : Nat))) % 18446744073709551616) fun m40 =>
 nm ((m40 + m13) % 18446744073709551616) fun m41 =>
 nm ((d6 * m4) % 18446744073709551616) fun m42 =>
 nm ((m41 + 18446744073709551616 - m42) % 18446744073709551616) fun m43 =>
 nm (m43 / 2 ^ (min (m3 : Int).toNat 64)) fun m44 =>
 some (m39, m44)
def M_math_bits_Mul64 (fu : Nat) (a0 : Nat) (a1 : Nat) : Option (Nat × Nat) :=
 nm (a0 &&& ((4294967295 : Nat))) fun m1 =>
 nm (a0 / 2 ^ (min (((32 : Nat)) : Int).toNat 64)) fun m2 =>
 nm (a1 &&& ((4294967295 : Nat))) fun m3 =>
 nm (a1 / 2 ^ (min (((32 : Nat)) : Int).toNat 64)) fun m4 =>
 nm ((m1 * m3) % 18446744073709551616) fun m5 =>
 nm ((m2 * m3) % 18446744073709551616) fun m6 =>
 nm (m5 / 2 ^ (min (((32 : Nat)) : Int).toNat 64)) fun m7 =>
 nm ((m6 + m7) % 18446744073709551616) fun m8 =>
 nm (m8 &&& ((4294967295 : Nat))) fun m9 =>
 nm (m8 / 2 ^ (min (((32 : Nat)) : Int).toNat 64)) fun m10 =>
 nm ((m1 * m4) % 18446744073709551616) fun m11 =>
 nm ((m9 + m11) % 18446744073709551616) fun m12 =>
 nm ((m2 * m4) % 18446744073709551616) fun m13 =>
 nm ((m13 + m10) % 18446744073709551616) fun m14 =>
 nm (m12 / 2 ^ (min (((32 : Nat)) : Int).toNat 64)) fun m15 =>
 nm ((m14 + m15) % 18446744073709551616) fun m16 =>
 nm ((a0 * a1) % 18446744073709551616) fun m17 =>
 some (m16, m17)
def B_nat_guess_0 (fu : Nat) (a2 : Nat) (a3 : Nat) (a4 : Nat) : ((Nat × Nat) → Option Nat) → (Nat × Nat) → Option Nat := fun L (d1, d2) =>
 bd (M_math_bits_Mul64 fu d1 a4) fun (m3, m4) =>
 if ((m3 : Nat) : Int) < ((d2 : Nat) : Int) then
 some d1
 else
 if ((m3 : Nat) : Int) = ((d2 : Nat) : Int) then
 if ((m4 : Nat) : Int) ≤ ((a2 : Nat) : Int) then
 some d1
 else
 nm ((d1 + 18446744073709551616 - ((1 : Nat))) % 18446744073709551616) fun m5 =>
 ck ((0 : Nat) ≤ 1) <|
 nm ((d2 + a3 + ((0 : Nat))) % 18446744073709551616) fun m6 =>
 nm ((d2 + a3 + ((0 : Nat))) / 18446744073709551616) fun m7 =>
 if (((0 : Nat) : Nat) : Int) < ((m7 : Nat) : Int) then
 some m5
 else
 L (m5, m6)
 else
 nm ((d1 + 18446744073709551616 - ((1 : Nat))) % 18446744073709551616) fun m8 =>
 ck ((0 : Nat) ≤ 1) <|
 nm ((d2 + a3 + ((0 : Nat))) % 18446744073709551616) fun m9 =>
 nm ((d2 + a3 + ((0 : Nat))) / 18446744073709551616) fun m10 =>
 if (((0 : Nat) : Nat) : Int) < ((m10 : Nat) : Int) then
 some m8
 else
 L (m8, m9)
def M_nat_guess (fu : Nat) (a0 : Nat) (a1 : Nat) (a2 : Nat) (a3 : Nat) (a4 : Nat) : Option Nat :=
 if ((a3 : Nat) : Int) ≤ ((a0 : Nat) : Int) then
 some (18446744073709551615 : Nat)
 else
 bd (M_math_bits_Div64 fu a0 a1 a3) fun (m1, m2) =>
 bd (loopN (B_nat_guess_0 fu a2 a3 a4) fu (m1, m2)) fun d3 =>
 some d3
def M_nat_Sub_1 (fu : Nat) (a0 : Int) (a1 : Nat) (a2 : List Nat) (a3 : List Nat) : Option (Nat × Nat) :=
 bd (M_nat_at fu a2 a0) fun m1 =>
 bd (M_nat_at fu a3 a0) fun m2 =>
 ck (a1 ≤ 1) <|
 nm ((m1 + 18446744073709551616 - m2 - a1) % 18446744073709551616) fun m3 =>
 nm (if m1 < m2 + a1 then 1 else 0) fun m4 =>
 some (m3, m4)
def M_nat_Sub (fu : Nat) (a0 : List Nat) (a1 : List Nat) : Option ((List Nat) × Int) :=
 nm (max (((a0.length : Nat) : Int)) (((a1.length : Nat) : Int))) fun x1 =>
 bd (M_nat_carried fu x1 (fun zx0 zx1 => M_nat_Sub_1 fu zx0 zx1 a0 a1)) fun (t1, m1) =>
 if (((0 : Nat) : Nat) : Int) < ((m1 : Nat) : Int) then
 some (([], (1 : Int)))
 else
 bd (M_nat_plain_own fu t1) fun t2 =>
 some ((t2, (0 : Int)))
def M_nat_less (fu : Nat) (a0 : List Nat) (a1 : List Nat) : Option (List Nat) :=
 bd (M_nat_Sub fu a0 a1) fun (t1, x1) =>
 some t1
def M_nat_row_1 (fu : Nat) (a0 : Int) (a1 : Nat) (a2 : List Nat) (a3 : Nat) : Option (Nat × Nat) :=
 ckI a0 (a2.length) fun j1 =>
 nm (a2.getD j1 0) fun y1 =>
 bd (M_math_bits_Mul64 fu y1 a3) fun (m1, m2) =>
 ck ((0 : Nat) ≤ 1) <|
 nm ((m2 + a1 + ((0 : Nat))) % 18446744073709551616) fun m3 =>
 nm ((m2 + a1 + ((0 : Nat))) / 18446744073709551616) fun m4 =>
 nm ((m1 + m4) % 18446744073709551616) fun m5 =>
 some (m3, m5)
def M_nat_row (fu : Nat) (a0 : List Nat) (a1 : Nat) : Option (List Nat) :=
 bd (M_nat_carried fu (((a0.length : Nat) : Int)) (fun zx0 zx1 => M_nat_row_1 fu zx0 zx1 a0 a1)) fun (t1, m1) =>
 ck ((t1.length + ([m1]).length) * 8 ≤ 140737488355328) <|
 nm (t1 ++ ([m1])) fun t2 =>
 some t2
def B_nat_short_0 (fu : Nat) (a0 : List Nat) (a1 : Nat) : ((Nat × Int × (List Nat)) → Option (Nat × (List Nat))) → (Nat × Int × (List Nat)) → Option (Nat × (List Nat)) := fun L (d1, i1, t2) =>
 if (0 : Int) ≤ i1 then
 ckI i1 (a0.length) fun j2 =>
 nm (a0.getD j2 0) fun y1 =>
 bd (M_math_bits_Div64 fu d1 y1 a1) fun (m1, m2) =>
 ckI i1 (t2.length) fun j3 =>
 nm (t2.set j3 m1) fun t3 =>
 ck64 (i1 - ((1 : Int))) fun x2 =>
 L (m2, x2, t3)
 else
 some (d1, t2)
def M_nat_short (fu : Nat) (a0 : List Nat) (a1 : Nat) : Option ((List Nat) × Nat) :=
 ckN (((a0.length : Nat) : Int)) fun j1 =>
 ck (8 * j1 ≤ 281474976710656) <|
 nm (List.replicate j1 0) fun t1 =>
 ck64 ((((a0.length : Nat) : Int)) - ((1 : Int))) fun x1 =>
 bd (loopN (B_nat_short_0 fu a0 a1) fu (((0 : Nat), x1, t1))) fun (d2, t4) =>
 bd (M_nat_plain_own fu t4) fun t5 =>
 some (t5, d2)
def B_nat_Div_1 (fu : Nat) (t10 : List Nat) : ((Int × Int × Nat × (List Nat)) → Option (Int × Int × Nat × (List Nat))) → (Int × Int × Nat × (List Nat)) → Option (Int × Int × Nat × (List Nat)) := fun L (i2, i3, d1, t15) =>
 bd (M_nat_row fu t10 d1) fun t16 =>
 bd (M_nat_Cmp fu t16 t15) fun x19 =>
 if (0 : Int) < x19 then
 nm ((d1 + 18446744073709551616 - ((1 : Nat))) % 18446744073709551616) fun m6 =>
 L (i2, i3, m6, t15)
 else
 some (i2, i3, d1, t15)
def B_nat_Div_0 (fu : Nat) (x3 : Int) (t6 : List Nat) : (((List Nat) × Int × (List Nat) × (List Nat)) → Option ((List Nat) × (List Nat))) → ((List Nat) × Int × (List Nat) × (List Nat)) → Option ((List Nat) × (List Nat)) := fun L (t10, i1, t11, t12) =>
 if (0 : Int) ≤ i1 then
 ck64 (i1 + (((t6.length : Nat) : Int))) fun x10 =>
 ckI x10 (t11.length) fun j5 =>
 nm ((t11.getD j5 0)) fun m2 =>
 ck64 (i1 + (((t6.length : Nat) : Int))) fun x11 =>
 ck64 (x11 - ((1 : Int))) fun x12 =>
 ckI x12 (t11.length) fun j6 =>
 nm ((t11.getD j6 0)) fun m3 =>
 ck64 (i1 + (((t6.length : Nat) : Int))) fun x13 =>
 ck64 (x13 - ((2 : Int))) fun x14 =>
 ckI x14 (t11.length) fun j7 =>
 nm ((t11.getD j7 0)) fun m4 =>
 ck64 ((((t6.length : Nat) : Int)) - ((1 : Int))) fun x15 =>
 ckI x15 (t10.length) fun j8 =>
 nm (t10.getD j8 0) fun y3 =>
 ck64 ((((t6.length : Nat) : Int)) - ((2 : Int))) fun x16 =>
 ckI x16 (t10.length) fun j9 =>
 nm (t10.getD j9 0) fun y4 =>
 bd (M_nat_guess fu m2 m3 m4 y3 y4) fun m5 =>
 ck64 (i1 + (((t6.length : Nat) : Int))) fun x17 =>
 ck64 (x17 + ((1 : Int))) fun x18 =>
 ckN i1 fun j10 =>
 ckN x18 fun j11 =>
 ck (j10 ≤ j11 ∧ j11 ≤ t11.length) <|
 nm (List.take (j11 - j10) (List.drop j10 t11)) fun t13 =>
 ck (((([] : List Nat)).length + t13.length) * 8 ≤ 140737488355328) <|
 nm ((([] : List Nat)) ++ t13) fun t14 =>
 bd (loopN (B_nat_Div_1 fu t10) fu ((x3, ((t6.length : Nat) : Int), m5, t14))) fun (i4, i5, d2, t17) =>
 ckI i1 (t12.length) fun j12 =>
 nm (t12.set j12 d2) fun t18 =>
 ckN i1 fun j13 =>
 ck (j13 ≤ t11.length) <|
 bd (M_nat_row fu t10 d2) fun t19 =>
 bd (M_nat_less fu t17 t19) fun t20 =>
 ck64 (i5 + ((1 : Int))) fun x20 =>
 ckN x20 fun j14 =>
 ck ((t20.length + j14) * 8 ≤ 140737488355328) <|
 nm (t20 ++ List.replicate j14 0) fun t21 =>
 ck64 (i5 + ((1 : Int))) fun x21 =>
 ckN x21 fun j15 =>
 ck (j15 ≤ t21.length) <|
 nm (t21.take j15) fun t22 =>
 nm (cpyAt j13 (t11.length - j13) t11 t22) fun t23 =>
 ck64 (i1 - ((1 : Int))) fun x22 =>
 L (t10, x22, t23, t18)
 else
 some (t11, t12)
def M_nat_Div (fu : Nat) (a0 : List Nat) (a1 : List Nat) : Option ((List Nat) × (List Nat) × Int) :=
 bd (M_nat_plain fu a0) fun t1 =>
 bd (M_nat_plain fu a1) fun t2 =>
 bd ((if ((t2.length : Nat) : Int) = (0 : Int) then
 some true
 else
 some false : Option Bool)) fun b1 =>
 if b1 = true then
 some (([], [], (3 : Int)))
 else
 bd ((bd (M_nat_Cmp fu t1 t2) fun x1 =>
 if x1 < (0 : Int) then
 some true
 else
 some false : Option Bool)) fun b2 =>
 if b2 = true then
 bd (M_nat_Norm fu t1) fun t3 =>
 some (([], t3, (0 : Int)))
 else
 if ((t2.length : Nat) : Int) = (1 : Int) then
 ckI ((0 : Int)) (t2.length) fun j1 =>
 nm (t2.getD j1 0) fun y1 =>
 bd (M_nat_short fu t1 y1) fun (t4, m1) =>
 bd (M_nat_plain_own fu [m1]) fun t5 =>
 some ((t4, t5, (0 : Int)))
 else
 ck64 ((((t2.length : Nat) : Int)) - ((1 : Int))) fun x2 =>
 ckI x2 (t2.length) fun j2 =>
 nm (t2.getD j2 0) fun y2 =>
 bd (M_math_bits_LeadingZeros64 fu y2) fun x3 =>
 bd (M_nat_Shl fu t2 x3) fun (t6, x4) =>
 bd (M_nat_Shl fu t1 x3) fun (t7, x5) =>
 ck64 ((((t1.length : Nat) : Int)) + ((1 : Int))) fun x6 =>
 ck64 (x6 - (((t7.length : Nat) : Int))) fun x7 =>
 ckN x7 fun j3 =>
 ck ((t7.length + j3) * 8 ≤ 140737488355328) <|
 nm (t7 ++ List.replicate j3 0) fun t8 =>
 ck64 ((((t8.length : Nat) : Int)) - (((t6.length : Nat) : Int))) fun x8 =>
 ckN x8 fun j4 =>
 ck (8 * j4 ≤ 281474976710656) <|
 nm (List.replicate j4 0) fun t9 =>
 ck64 ((((t9.length : Nat) : Int)) - ((1 : Int))) fun x9 =>
 bd (loopN (B_nat_Div_0 fu x3 t6) fu (t6, x9, t8, t9)) fun (t24, t25) =>
 bd (M_nat_plain_own fu t25) fun t26 =>
 bd (M_nat_Shr fu t24 x3) fun t27 =>
 some ((t26, t27, (0 : Int)))
def M_zint_made (fu : Nat) (a0 : Bool) (a1 : List Nat) : Option Zr :=
 bd (M_nat_Norm fu a1) fun t1 =>
 if a0 = true then
 if (0 : Int) < ((t1.length : Nat) : Int) then
 some (true, t1)
 else
 some (false, t1)
 else
 some (false, t1)
def M_zint_Div (fu : Nat) (a0 : Zr) (a1 : Zr) : Option (Zr × Zr × Int) :=
 bd (M_nat_Div fu a0.2 a1.2) fun (t1, t2, x1) =>
 if x1 = (0 : Int) then
 bd ((if a0.1 = true then
 if (0 : Int) < ((t2.length : Nat) : Int) then
 bd (M_nat_Add fu t1 [(1 : Nat)]) fun t3 =>
 bd (M_nat_Sub fu a1.2 t2) fun (t4, x2) =>
 some (t3, t4)
 else
 some (t1, t2)
 else
 some (t1, t2) : Option ((List Nat) × (List Nat)))) fun (t5, t6) =>
 nm (!(a0.1 == a1.1)) fun c1 =>
 bd (M_zint_made fu c1 t5) fun y1 =>
 bd (M_zint_made fu false t6) fun y2 =>
 some ((y1, y2, (0 : Int)))
 else
 some (((false, []), (false, []), x1))
def M_zint_Norm (fu : Nat) (a0 : Zr) : Option Zr :=
 bd (M_zint_made fu a0.1 a0.2) fun y1 =>
 some y1
def M_zint_Sign (fu : Nat) (a0 : Zr) : Option Int :=
 bd (M_zint_Norm fu a0) fun y1 =>
 if y1.1 = true then
 ck64 (((0 : Int)) - ((2 : Int))) fun x1 =>
 ck64 (x1 + ((1 : Int))) fun x2 =>
 some x2
 else
 if (0 : Int) < ((y1.2.length : Nat) : Int) then
 ck64 (((0 : Int)) + ((1 : Int))) fun x3 =>
 some x3
 else
 some (0 : Int)
def M_zint_Exact (fu : Nat) (a0 : Zr) (a1 : Zr) : Option (Zr × Int) :=
 bd (M_zint_Div fu a0 a1) fun (y1, y2, x1) =>
 bd ((if x1 = (0 : Int) then
 some false
 else
 some true : Option Bool)) fun b1 =>
 if b1 = true then
 some (((false, []), x1))
 else
 bd (M_zint_Sign fu y2) fun x2 =>
 if x2 = (0 : Int) then
 some ((y1, (0 : Int)))
 else
 some (((false, []), (4 : Int)))
def B_nat_school_1 (fu : Nat) (i1 : Int) (t3 : List Nat) (t4 : List Nat) (i2 : Int) (t5 : List Nat) : ((Nat × Int × (List Nat) × (List Nat)) → Option (List Nat)) → (Nat × Int × (List Nat) × (List Nat)) → Option (List Nat) := fun L (d1, i3, t6, t7) =>
 bd ((if i3 < ((t5.length : Nat) : Int) then
 some ((t3, i1, t4, i2, i1, ((t5.length : Nat) : Int), true))
 else
 some ((t3, i1, t4, i2, i1, ((t5.length : Nat) : Int), false)) : Option ((List Nat) × Int × (List Nat) × Int × Int × Int × Bool))) fun (t8, i4, t9, i5, i6, i7, b2) =>
 if b2 = true then
 ckI i3 (t7.length) fun j3 =>
 nm ((t7.getD j3 0)) fun m1 =>
 ck64 (i4 + i3) fun x3 =>
 ck64 (i4 + i3) fun x4 =>
 ckI x4 (t6.length) fun j4 =>
 nm ((t6.getD j4 0)) fun m2 =>
 ck (d1 ≤ 1) <|
 nm ((m2 + m1 + d1) % 18446744073709551616) fun m3 =>
 nm ((m2 + m1 + d1) / 18446744073709551616) fun m4 =>
 ckI x3 (t6.length) fun j5 =>
 nm (t6.set j5 m3) fun t10 =>
 ck64 (i3 + ((1 : Int))) fun x5 =>
 L (m4, x5, t10, t7)
 else
 some t6
def B_nat_school_0 (fu : Nat) (a0 : List Nat) (a1 : List Nat) : ((Int × (List Nat)) → Option (List Nat)) → (Int × (List Nat)) → Option (List Nat) := fun L (i1, t2) =>
 bd ((if i1 < ((a1.length : Nat) : Int) then
 some ((a0, a1, ((a1.length : Nat) : Int), true))
 else
 some ((a0, a1, ((a1.length : Nat) : Int), false)) : Option ((List Nat) × (List Nat) × Int × Bool))) fun (t3, t4, i2, b1) =>
 if b1 = true then
 ckI i1 (t4.length) fun j2 =>
 nm (t4.getD j2 0) fun y1 =>
 bd (M_nat_row fu t3 y1) fun t5 =>
 bd (loopN (B_nat_school_1 fu i1 t3 t4 i2 t5) fu (((0 : Nat), (0 : Int), t2, t5))) fun t11 =>
 ck64 (i1 + ((1 : Int))) fun x6 =>
 L (x6, t11)
 else
 some t2
def M_nat_school (fu : Nat) (a0 : List Nat) (a1 : List Nat) : Option (List Nat) :=
 ck64 ((((a0.length : Nat) : Int)) + (((a1.length : Nat) : Int))) fun x1 =>
 ck64 (x1 + ((1 : Int))) fun x2 =>
 ckN x2 fun j1 =>
 ck (8 * j1 ≤ 281474976710656) <|
 nm (List.replicate j1 0) fun t1 =>
 bd (loopN (B_nat_school_0 fu a0 a1) fu (((0 : Int), t1))) fun t12 =>
 bd (M_nat_plain_own fu t12) fun t13 =>
 some t13
def M_nat_Mul : Nat → (List Nat) → (List Nat) → Option (List Nat)
  | 0, _, _ => none
  | fu + 1, a0, a1 =>
    bd (M_nat_plain fu a0) fun t1 =>
    bd (M_nat_plain fu a1) fun t2 =>
    nm (min (((t1.length : Nat) : Int)) (((t2.length : Nat) : Int))) fun x1 =>
    if x1 < (8 : Int) then
    bd (M_nat_school fu t1 t2) fun t3 =>
    some t3
    else
    nm (max (((t1.length : Nat) : Int)) (((t2.length : Nat) : Int))) fun x2 =>
    ck ((2 : Int) ≠ 0) <|
    ck64 (Int.tdiv x2 ((2 : Int))) fun x3 =>
    nm (min x3 (((t1.length : Nat) : Int))) fun x4 =>
    ckN x4 fun j1 =>
    ck (j1 ≤ t1.length) <|
    nm (t1.take j1) fun t4 =>
    bd (M_nat_plain fu t4) fun t5 =>
    nm (min x3 (((t1.length : Nat) : Int))) fun x5 =>
    ckN x5 fun j2 =>
    ck (j2 ≤ t1.length) <|
    nm (t1.drop j2) fun t6 =>
    nm (min x3 (((t2.length : Nat) : Int))) fun x6 =>
    ckN x6 fun j3 =>
    ck (j3 ≤ t2.length) <|
    nm (t2.take j3) fun t7 =>
    bd (M_nat_plain fu t7) fun t8 =>
    nm (min x3 (((t2.length : Nat) : Int))) fun x7 =>
    ckN x7 fun j4 =>
    ck (j4 ≤ t2.length) <|
    nm (t2.drop j4) fun t9 =>
    bd (M_nat_Mul fu t5 t8) fun t10 =>
    bd (M_nat_Mul fu t6 t9) fun t11 =>
    bd (M_nat_Add fu t5 t6) fun t12 =>
    bd (M_nat_Add fu t8 t9) fun t13 =>
    bd (M_nat_Mul fu t12 t13) fun t14 =>
    bd (M_nat_less fu t14 t10) fun t15 =>
    bd (M_nat_less fu t15 t11) fun t16 =>
    bd (M_nat_moved fu t16 x3) fun t17 =>
    bd (M_nat_Add fu t10 t17) fun t18 =>
    ck64 (((2 : Int)) * x3) fun x8 =>
    bd (M_nat_moved fu t11 x8) fun t19 =>
    bd (M_nat_Add fu t18 t19) fun t20 =>
    some t20
def M_zint_Mul (fu : Nat) (a0 : Zr) (a1 : Zr) : Option Zr :=
 nm (!(a0.1 == a1.1)) fun c1 =>
 bd (M_nat_Mul fu a0.2 a1.2) fun t1 =>
 bd (M_zint_made fu c1 t1) fun y1 =>
 some y1
def M_zint_Add (fu : Nat) (a0 : Zr) (a1 : Zr) : Option Zr :=
 nm (a0.1 == a1.1) fun c1 =>
 if c1 = true then
 bd (M_nat_Add fu a0.2 a1.2) fun t1 =>
 bd (M_zint_made fu a0.1 t1) fun y1 =>
 some y1
 else
 bd ((bd (M_nat_Cmp fu a0.2 a1.2) fun x1 =>
 if x1 < (0 : Int) then
 some (a1, a0)
 else
 some (a0, a1) : Option (Zr × Zr))) fun (t2, t3) =>
 bd (M_nat_Sub fu t2.2 t3.2) fun (t4, x2) =>
 bd (M_zint_made fu t2.1 t4) fun y2 =>
 some y2
def M_zint_Neg (fu : Nat) (a0 : Zr) : Option Zr :=
 bd (M_zint_made fu (!a0.1) a0.2) fun y1 =>
 some y1
def M_zint_Sub (fu : Nat) (a0 : Zr) (a1 : Zr) : Option Zr :=
 bd (M_zint_Neg fu a1) fun y1 =>
 bd (M_zint_Add fu a0 y1) fun y2 =>
 some y2
def M_zpoly_Norm_1 (fu : Nat) (a0 : Int) (a1 : Zr) : Option Zr :=
 bd (M_zint_Norm fu a1) fun y1 =>
 some y1
def B_zpoly_each_api_Int_api_Int_0 (fu : Nat) (a0 : List Zr) (a1 : Int → Zr → Option Zr) : ((Int × (List Zr)) → Option (List Zr)) → (Int × (List Zr)) → Option (List Zr) := fun L (i1, t2) =>
 bd ((if i1 < ((a0.length : Nat) : Int) then
 some ((a0, ((a0.length : Nat) : Int), true))
 else
 some ((a0, ((a0.length : Nat) : Int), false)) : Option ((List Zr) × Int × Bool))) fun (t3, i2, b1) =>
 if b1 = true then
 ckI i1 (t3.length) fun j2 =>
 nm (t3.getD j2 (false, [])) fun y1 =>
 bd (a1 i1 y1) fun y2 =>
 ckI i1 (t2.length) fun j3 =>
 nm (t2.set j3 y2) fun t4 =>
 ck64 (i1 + ((1 : Int))) fun x1 =>
 L (x1, t4)
 else
 some t2
def M_zpoly_each_api_Int_api_Int (fu : Nat) (a0 : List Zr) (a1 : Int → Zr → Option Zr) : Option (List Zr) :=
 ckN (((a0.length : Nat) : Int)) fun j1 =>
 ck (32 * j1 ≤ 281474976710656) <|
 nm (List.replicate j1 (false, [])) fun t1 =>
 bd (loopN (B_zpoly_each_api_Int_api_Int_0 fu a0 a1) fu (((0 : Int), t1))) fun t5 =>
 some t5
def B_zpoly_Norm_0 (fu : Nat)  : ((List Zr) → Option (List Zr)) → (List Zr) → Option (List Zr) := fun L t1 =>
 if (0 : Int) < ((t1.length : Nat) : Int) then
 ck64 ((((t1.length : Nat) : Int)) - ((1 : Int))) fun x1 =>
 ckI x1 (t1.length) fun j1 =>
 nm (t1.getD j1 (false, [])) fun y1 =>
 bd (M_zint_Sign fu y1) fun x2 =>
 if x2 = (0 : Int) then
 ck64 ((((t1.length : Nat) : Int)) - ((1 : Int))) fun x3 =>
 ckN x3 fun j2 =>
 ck (j2 ≤ t1.length) <|
 nm (t1.take j2) fun t2 =>
 L t2
 else
 some t1
 else
 some t1
def M_zpoly_Norm (fu : Nat) (a0 : List Zr) : Option (List Zr) :=
 bd (loopN (B_zpoly_Norm_0 fu ) fu a0) fun t3 =>
 bd (M_zpoly_each_api_Int_api_Int fu t3 (fun zx0 zx1 => M_zpoly_Norm_1 fu zx0 zx1)) fun t4 =>
 some t4
def B_zpoly_Div_1 (fu : Nat) (i1 : Int) (t4 : List Zr) : ((Int × (List Zr) × (List Zr) × (List Zr) × Zr) → Option ((List Zr) × (List Zr) × (List Zr))) → (Int × (List Zr) × (List Zr) × (List Zr) × Zr) → Option ((List Zr) × (List Zr) × (List Zr)) := fun L (i2, t8, t9, t10, t11) =>
 bd ((if i2 < ((t4.length : Nat) : Int) then
 some ((i1, ((t4.length : Nat) : Int), true))
 else
 some ((i1, ((t4.length : Nat) : Int), false)) : Option (Int × Int × Bool))) fun (i3, i4, b1) =>
 if b1 = true then
 ckI i2 (t8.length) fun j5 =>
 nm ((t8.getD j5 (false, []))) fun y4 =>
 ck64 (i3 + i2) fun x9 =>
 ck64 (i3 + i2) fun x10 =>
 ckI x10 (t9.length) fun j6 =>
 nm ((t9.getD j6 (false, []))) fun y5 =>
 bd (M_zint_Mul fu t11 y4) fun y6 =>
 bd (M_zint_Sub fu y5 y6) fun y7 =>
 ckI x9 (t9.length) fun j7 =>
 nm (t9.set j7 y7) fun t12 =>
 ck64 (i2 + ((1 : Int))) fun x11 =>
 L (x11, t8, t12, t10, t11)
 else
 some (t8, t9, t10)
def B_zpoly_Div_0 (fu : Nat)  : ((Int × (List Zr) × (List Zr) × (List Zr)) → Option (((List Zr) × (List Zr)) ⊕ Int)) → (Int × (List Zr) × (List Zr) × (List Zr)) → Option (((List Zr) × (List Zr)) ⊕ Int) := fun L (i1, t4, t5, t6) =>
 if (0 : Int) ≤ i1 then
 ck64 (i1 + (((t4.length : Nat) : Int))) fun x5 =>
 ck64 (x5 - ((1 : Int))) fun x6 =>
 ckI x6 (t5.length) fun j2 =>
 nm ((t5.getD j2 (false, []))) fun y1 =>
 ck64 ((((t4.length : Nat) : Int)) - ((1 : Int))) fun x7 =>
 ckI x7 (t4.length) fun j3 =>
 nm ((t4.getD j3 (false, []))) fun y2 =>
 bd (M_zint_Exact fu y1 y2) fun (y3, x8) =>
 if x8 = (0 : Int) then
 ckI i1 (t6.length) fun j4 =>
 nm (t6.set j4 y3) fun t7 =>
 bd (loopN (B_zpoly_Div_1 fu i1 t4) fu (((0 : Int), t4, t5, t7, y3))) fun (t13, t14, t15) =>
 ck64 (i1 - ((1 : Int))) fun x12 =>
 L (x12, t13, t14, t15)
 else
 some (.inr x8)
 else
 some (.inl (t5, t6))
def M_zpoly_Div (fu : Nat) (a0 : List Zr) (a1 : List Zr) : Option ((List Zr) × Int) :=
 bd (M_zpoly_Norm fu a0) fun t1 =>
 bd (M_zpoly_Norm fu a1) fun t2 =>
 if ((t2.length : Nat) : Int) = (0 : Int) then
 some (([], (3 : Int)))
 else
 bd ((if (0 : Int) < ((t1.length : Nat) : Int) then
 if ((t1.length : Nat) : Int) < ((t2.length : Nat) : Int) then
 some (.inr ())
 else
 some (.inl ())
 else
 some (.inl ()) : Option (Unit ⊕ Unit))) fun s1 => match s1 with
 | .inl _ =>
 (ck64 ((((t1.length : Nat) : Int)) - (((t2.length : Nat) : Int))) fun x1 =>
 ck64 (x1 + ((1 : Int))) fun x2 =>
 nm (max x2 ((0 : Int))) fun x3 =>
 ckN x3 fun j1 =>
 ck (32 * j1 ≤ 281474976710656) <|
 nm (List.replicate j1 (false, [])) fun t3 =>
 ck64 ((((t3.length : Nat) : Int)) - ((1 : Int))) fun x4 =>
 bd (loopN (B_zpoly_Div_0 fu ) fu (x4, t2, t1, t3)) fun s2 => match s2 with
 | .inl (t16, t17) =>
 bd (M_zpoly_Norm fu t16) fun t18 =>
 if (0 : Int) < ((t18.length : Nat) : Int) then
 some (([], (4 : Int)))
 else
 bd (M_zpoly_Norm fu t17) fun t19 =>
 some ((t19, (0 : Int)))
 | .inr i5 =>
 some ([], i5))
 | .inr _ =>
 some (([], (4 : Int)))
def B_zfac_often_0 (fu : Nat) (a1 : List Zr) : ((Int × (List Zr) × Int) → Option Int) → (Int × (List Zr) × Int) → Option Int := fun L (i1, t2, i2) =>
 if i2 = (0 : Int) then
 ck64 (i1 + ((1 : Int))) fun x2 =>
 bd (M_zpoly_Div fu t2 a1) fun (t3, x3) =>
 L (x2, t3, x3)
 else
 some i1
def M_zfac_often (fu : Nat) (a0 : List Zr) (a1 : List Zr) : Option Int :=
 bd (M_zpoly_Div fu a0 a1) fun (t1, x1) =>
 bd (loopN (B_zfac_often_0 fu a1) fu (((0 : Int), t1, x1))) fun i3 =>
 some i3
def B_prime_Is_0 (fu : Nat) (a0 : Int) : ((Bool × Int) → Option Bool) → (Bool × Int) → Option Bool := fun L (b2, i1) =>
 if b2 = true then
 ck64 (i1 * i1) fun x1 =>
 if x1 ≤ a0 then
 ck (i1 ≠ 0) <|
 nm (Int.tmod a0 i1) fun x2 =>
 if x2 = (0 : Int) then
 some false
 else
 ck64 (i1 + ((1 : Int))) fun x3 =>
 L (b2, x3)
 else
 some b2
 else
 some b2
def M_prime_Is (fu : Nat) (a0 : Int) : Option Bool :=
 bd ((if (2 : Int) ≤ a0 then
 if a0 ≤ (65521 : Int) then
 some true
 else
 some false
 else
 some false : Option Bool)) fun b1 =>
 bd (loopN (B_prime_Is_0 fu a0) fu ((b1, (2 : Int)))) fun b3 =>
 some b3
def M_zint_Of (fu : Nat) (a0 : Int) : Option Zr :=
 if a0 < (0 : Int) then
 nm (uns a0) fun m1 =>
 nm ((18446744073709551616 - m1) % 18446744073709551616) fun m2 =>
 bd (M_zint_made fu true [m2]) fun y1 =>
 some y1
 else
 nm (uns a0) fun m3 =>
 bd (M_zint_made fu false [m3]) fun y2 =>
 some y2
def M_nat_Bits (fu : Nat) (a0 : List Nat) : Option Int :=
 bd (M_nat_plain fu a0) fun t1 =>
 if ((t1.length : Nat) : Int) = (0 : Int) then
 some (0 : Int)
 else
 ck64 ((((t1.length : Nat) : Int)) - ((1 : Int))) fun x1 =>
 ck64 (((64 : Int)) * x1) fun x2 =>
 ck64 ((((t1.length : Nat) : Int)) - ((1 : Int))) fun x3 =>
 ckI x3 (t1.length) fun j1 =>
 nm (t1.getD j1 0) fun y1 =>
 bd (M_math_bits_Len64 fu y1) fun x4 =>
 ck64 (x2 + x4) fun x5 =>
 some x5
def B_zint_Pow_0 (fu : Nat)  : ((Int × Zr × Zr) → Option Zr) → (Int × Zr × Zr) → Option Zr := fun L (i1, t1, t2) =>
 if (0 : Int) < i1 then
 nm (andI i1 ((1 : Int))) fun x3 =>
 if x3 = (1 : Int) then
 bd (M_zint_Mul fu t2 t1) fun y3 =>
 if (1 : Int) < i1 then
 bd (M_zint_Mul fu t1 t1) fun y4 =>
 nm (Int.fdiv i1 (2 ^ (min (((1 : Nat)) : Int).toNat 64))) fun x4 =>
 L (x4, y4, y3)
 else
 nm (Int.fdiv i1 (2 ^ (min (((1 : Nat)) : Int).toNat 64))) fun x5 =>
 L (x5, t1, y3)
 else
 if (1 : Int) < i1 then
 bd (M_zint_Mul fu t1 t1) fun y5 =>
 nm (Int.fdiv i1 (2 ^ (min (((1 : Nat)) : Int).toNat 64))) fun x6 =>
 L (x6, y5, t2)
 else
 nm (Int.fdiv i1 (2 ^ (min (((1 : Nat)) : Int).toNat 64))) fun x7 =>
 L (x7, t1, t2)
 else
 some t2
def M_zint_Pow (fu : Nat) (a0 : Zr) (a1 : Int) : Option (Zr × Int) :=
 bd ((if a1 < (0 : Int) then
 some true
 else
 if (65536 : Int) < a1 then
 some true
 else
 some false : Option Bool)) fun b1 =>
 if b1 = true then
 some (((false, []), (1 : Int)))
 else
 bd (M_nat_Bits fu a0.2) fun x1 =>
 ck64 (x1 * a1) fun x2 =>
 if (262144 : Int) < x2 then
 some (((false, []), (6 : Int)))
 else
 bd (M_zint_Of fu (1 : Int)) fun y1 =>
 bd (M_zint_Norm fu a0) fun y2 =>
 bd (loopN (B_zint_Pow_0 fu ) fu (a1, y2, y1)) fun t3 =>
 some ((t3, (0 : Int)))
def M_hensel_Power (fu : Nat) (a0 : Int) (a1 : Int) : Option (Zr × Int) :=
 bd (M_prime_Is fu a0) fun c1 =>
 if ((!c1)) = true then
 some (((false, []), (1 : Int)))
 else
 if a1 < (1 : Int) then
 some (((false, []), (1 : Int)))
 else
 if (1000 : Int) < a1 then
 some (((false, []), (1 : Int)))
 else
 bd (M_zint_Of fu a0) fun y1 =>
 bd (M_zint_Pow fu y1 a1) fun (y2, x1) =>
 some (y2, x1)
def B_hensel_rests_0 (fu : Nat) (a0 : List Zr) (a1 : Zr) (a2 : Zr → Zr → Option (Zr × Int)) : ((Int × (List Zr)) → Option (List Zr)) → (Int × (List Zr)) → Option (List Zr) := fun L (i1, t2) =>
 bd ((if i1 < ((a0.length : Nat) : Int) then
 some ((a1, a0, ((a0.length : Nat) : Int), true))
 else
 some ((a1, a0, ((a0.length : Nat) : Int), false)) : Option (Zr × (List Zr) × Int × Bool))) fun (t3, t4, i2, b1) =>
 if b1 = true then
 ckI i1 (t4.length) fun j2 =>
 nm (t4.getD j2 (false, [])) fun y1 =>
 bd (a2 y1 t3) fun (y2, x2) =>
 ckI i1 (t2.length) fun j3 =>
 nm (t2.set j3 y2) fun t5 =>
 ck64 (i1 + ((1 : Int))) fun x3 =>
 L (x3, t5)
 else
 some t2
def M_hensel_rests (fu : Nat) (a0 : List Zr) (a1 : Zr) (a2 : Zr → Zr → Option (Zr × Int)) : Option ((List Zr) × Int) :=
 bd (M_zint_Sign fu a1) fun x1 =>
 if x1 ≤ (0 : Int) then
 some (([], (1 : Int)))
 else
 ckN (((a0.length : Nat) : Int)) fun j1 =>
 ck (32 * j1 ≤ 281474976710656) <|
 nm (List.replicate j1 (false, [])) fun t1 =>
 bd (loopN (B_hensel_rests_0 fu a0 a1 a2) fu (((0 : Int), t1))) fun t6 =>
 bd (M_zpoly_Norm fu t6) fun t7 =>
 some ((t7, (0 : Int)))
def M_prime_Rest (fu : Nat) (a0 : Zr) (a1 : Zr) : Option (Zr × Int) :=
 bd (M_zint_Sign fu a1) fun x1 =>
 if x1 ≤ (0 : Int) then
 some (((false, []), (1 : Int)))
 else
 bd (M_zint_Div fu a0 a1) fun (y1, y2, x2) =>
 some ((y2, (0 : Int)))
def M_hensel_Red (fu : Nat) (a0 : List Zr) (a1 : Zr) : Option ((List Zr) × Int) :=
 bd (M_hensel_rests fu a0 a1 (fun zx0 zx1 => M_prime_Rest fu zx0 zx1)) fun (t1, x1) =>
 some (t1, x1)
def M_hensel_red (fu : Nat) (a0 : List Zr) (a1 : Zr) : Option (List Zr) :=
 bd (M_hensel_Red fu a0 a1) fun (t1, x1) =>
 some t1
def M_fp_Check (fu : Nat) (a0 : Int) : Option Int :=
 bd (M_prime_Is fu a0) fun c1 =>
 if ((!c1)) = true then
 some (1 : Int)
 else
 some (0 : Int)
def M_fp_Red (fu : Nat) (a0 : Int) (a1 : Int) : Option Int :=
 if a1 < (1 : Int) then
 some (0 : Int)
 else
 ck (a1 ≠ 0) <|
 nm (Int.tmod a0 a1) fun x1 =>
 if x1 < (0 : Int) then
 ck64 (x1 + a1) fun x2 =>
 some x2
 else
 some x1
def B_fp_Inv_0 (fu : Nat)  : ((Int × Int × Int × Int) → Option (Int ⊕ Unit)) → (Int × Int × Int × Int) → Option (Int ⊕ Unit) := fun L (i1, i2, i3, i4) =>
 if i2 = (0 : Int) then
 some (.inr ())
 else
 if i2 = (1 : Int) then
 some (.inl i4)
 else
 ck (i2 ≠ 0) <|
 ck64 (Int.tdiv i1 i2) fun x3 =>
 ck64 (x3 * i2) fun x4 =>
 ck64 (i1 - x4) fun x5 =>
 ck64 (x3 * i4) fun x6 =>
 ck64 (i3 - x6) fun x7 =>
 L (i2, x5, i4, x7)
def M_fp_Inv (fu : Nat) (a0 : Int) (a1 : Int) : Option (Int × Int) :=
 bd (M_fp_Check fu a1) fun x1 =>
 if x1 = (0 : Int) then
 bd (M_fp_Red fu a0 a1) fun x2 =>
 bd (loopN (B_fp_Inv_0 fu ) fu ((a1, x2, (0 : Int), (1 : Int)))) fun s1 => match s1 with
 | .inl i5 =>
 bd (M_fp_Red fu i5 a1) fun x8 =>
 some ((x8, (0 : Int)))
 | .inr _ =>
 some (((0 : Int), (3 : Int)))
 else
 some (((0 : Int), x1))
def B_fpoly_plain_0 (fu : Nat) (a0 : List Int) (a1 : Int) : ((Int × (List Int)) → Option (List Int)) → (Int × (List Int)) → Option (List Int) := fun L (i1, t2) =>
 if i1 < ((a0.length : Nat) : Int) then
 ckI i1 (a0.length) fun j2 =>
 nm (a0.getD j2 0) fun y1 =>
 bd (M_fp_Red fu y1 a1) fun x1 =>
 ckI i1 (t2.length) fun j3 =>
 nm (t2.set j3 x1) fun t3 =>
 ck64 (i1 + ((1 : Int))) fun x2 =>
 L (x2, t3)
 else
 some t2
def B_fpoly_plain_1 (fu : Nat)  : ((List Int) → Option (List Int)) → (List Int) → Option (List Int) := fun L t5 =>
 if (0 : Int) < ((t5.length : Nat) : Int) then
 ck64 ((((t5.length : Nat) : Int)) - ((1 : Int))) fun x3 =>
 ckI x3 (t5.length) fun j4 =>
 nm ((t5.getD j4 0)) fun x4 =>
 if x4 = (0 : Int) then
 ck64 ((((t5.length : Nat) : Int)) - ((1 : Int))) fun x5 =>
 ckN x5 fun j5 =>
 ck (j5 ≤ t5.length) <|
 nm (t5.take j5) fun t6 =>
 L t6
 else
 some t5
 else
 some t5
def M_fpoly_plain (fu : Nat) (a0 : List Int) (a1 : Int) : Option (List Int) :=
 ckN (((a0.length : Nat) : Int)) fun j1 =>
 ck (8 * j1 ≤ 281474976710656) <|
 nm (List.replicate j1 0) fun t1 =>
 bd (loopN (B_fpoly_plain_0 fu a0 a1) fu (((0 : Int), t1))) fun t4 =>
 bd (loopN (B_fpoly_plain_1 fu ) fu t4) fun t7 =>
 some t7
def B_fpoly_divided_1 (fu : Nat) (a1 : List Int) (i1 : Int) (x10 : Int) : (((List Int) × Int × Int × Int × (List Int) × (List Int)) → Option ((List Int) × Int × Int × (List Int) × (List Int))) → ((List Int) × Int × Int × Int × (List Int) × (List Int)) → Option ((List Int) × Int × Int × (List Int) × (List Int)) := fun L (t6, i2, i3, i4, t7, t8) =>
 bd ((if i4 < ((a1.length : Nat) : Int) then
 some ((i1, x10, a1, ((a1.length : Nat) : Int), true))
 else
 some ((i1, x10, a1, ((a1.length : Nat) : Int), false)) : Option (Int × Int × (List Int) × Int × Bool))) fun (i5, i6, t9, i7, b1) =>
 if b1 = true then
 ckI i4 (t9.length) fun j5 =>
 nm (t9.getD j5 0) fun y2 =>
 ck64 (i5 + i4) fun x11 =>
 ck64 (i5 + i4) fun x12 =>
 ckI x12 (t7.length) fun j6 =>
 nm ((t7.getD j6 0)) fun x13 =>
 ck64 (i2 - i6) fun x14 =>
 ck64 (x14 * y2) fun x15 =>
 ck64 (x13 + x15) fun x16 =>
 ck (i2 ≠ 0) <|
 nm (Int.tmod x16 i2) fun x17 =>
 ckI x11 (t7.length) fun j7 =>
 nm (t7.set j7 x17) fun t10 =>
 ck64 (i4 + ((1 : Int))) fun x18 =>
 L (t6, i2, i3, x18, t10, t8)
 else
 some (t6, i2, i3, t7, t8)
def B_fpoly_divided_0 (fu : Nat) (a1 : List Int) (a2 : Int) (x3 : Int) : ((Int × (List Int) × (List Int)) → Option ((List Int) × (List Int))) → (Int × (List Int) × (List Int)) → Option ((List Int) × (List Int)) := fun L (i1, t3, t4) =>
 if (0 : Int) ≤ i1 then
 ck64 (i1 + (((a1.length : Nat) : Int))) fun x6 =>
 ck64 (x6 - ((1 : Int))) fun x7 =>
 ckI x7 (t3.length) fun j3 =>
 nm ((t3.getD j3 0)) fun x8 =>
 ck64 (x8 * x3) fun x9 =>
 ck (a2 ≠ 0) <|
 nm (Int.tmod x9 a2) fun x10 =>
 ckI i1 (t4.length) fun j4 =>
 nm (t4.set j4 x10) fun t5 =>
 bd (loopN (B_fpoly_divided_1 fu a1 i1 x10) fu ((a1, a2, x3, (0 : Int), t3, t5))) fun (t11, i8, i9, t12, t13) =>
 ck64 (i1 - ((1 : Int))) fun x19 =>
 L (x19, t12, t13)
 else
 some (t3, t4)
def M_fpoly_divided (fu : Nat) (a0 : List Int) (a1 : List Int) (a2 : Int) : Option ((List Int) × (List Int)) :=
 ck (((([] : List Int)).length + a0.length) * 8 ≤ 140737488355328) <|
 nm ((([] : List Int)) ++ a0) fun t1 =>
 ck64 ((((t1.length : Nat) : Int)) - (((a1.length : Nat) : Int))) fun x1 =>
 if x1 < (0 : Int) then
 some ([], t1)
 else
 ck64 ((((a1.length : Nat) : Int)) - ((1 : Int))) fun x2 =>
 ckI x2 (a1.length) fun j1 =>
 nm (a1.getD j1 0) fun y1 =>
 bd (M_fp_Inv fu y1 a2) fun (x3, x4) =>
 ck64 (x1 + ((1 : Int))) fun x5 =>
 ckN x5 fun j2 =>
 ck (8 * j2 ≤ 281474976710656) <|
 nm (List.replicate j2 0) fun t2 =>
 bd (loopN (B_fpoly_divided_0 fu a1 a2 x3) fu (x1, t1, t2)) fun (t14, t15) =>
 bd (M_fpoly_plain fu t15 a2) fun t16 =>
 bd (M_fpoly_plain fu t14 a2) fun t17 =>
 some (t16, t17)
def B_fpoly_product_1 (fu : Nat) (i1 : Int) (t3 : List Int) (i2 : Int) (t4 : List Int) (i3 : Int) (y1 : Int) : ((Int × (List Int)) → Option (List Int)) → (Int × (List Int)) → Option (List Int) := fun L (i4, t5) =>
 bd ((if i4 < ((t3.length : Nat) : Int) then
 some ((t3, i2, i1, y1, t4, i3, i1, t3, ((t3.length : Nat) : Int), true))
 else
 some ((t3, i2, i1, y1, t4, i3, i1, t3, ((t3.length : Nat) : Int), false)) : Option ((List Int) × Int × Int × Int × (List Int) × Int × Int × (List Int) × Int × Bool))) fun (t6, i5, i6, i7, t7, i8, i9, t8, i10, b2) =>
 if b2 = true then
 ckI i4 (t8.length) fun j3 =>
 nm (t8.getD j3 0) fun y2 =>
 ck64 (i6 + i4) fun x2 =>
 ck64 (i6 + i4) fun x3 =>
 ckI x3 (t5.length) fun j4 =>
 nm ((t5.getD j4 0)) fun x4 =>
 ck64 (i7 * y2) fun x5 =>
 ck64 (x4 + x5) fun x6 =>
 ck (i5 ≠ 0) <|
 nm (Int.tmod x6 i5) fun x7 =>
 ckI x2 (t5.length) fun j5 =>
 nm (t5.set j5 x7) fun t9 =>
 ck64 (i4 + ((1 : Int))) fun x8 =>
 L (x8, t9)
 else
 some t5
def B_fpoly_product_0 (fu : Nat) (a0 : List Int) (a1 : List Int) (a2 : Int) : ((Int × (List Int)) → Option (List Int)) → (Int × (List Int)) → Option (List Int) := fun L (i1, t2) =>
 bd ((if i1 < ((a0.length : Nat) : Int) then
 some ((a1, a2, a0, ((a0.length : Nat) : Int), true))
 else
 some ((a1, a2, a0, ((a0.length : Nat) : Int), false)) : Option ((List Int) × Int × (List Int) × Int × Bool))) fun (t3, i2, t4, i3, b1) =>
 if b1 = true then
 ckI i1 (t4.length) fun j2 =>
 nm (t4.getD j2 0) fun y1 =>
 bd (loopN (B_fpoly_product_1 fu i1 t3 i2 t4 i3 y1) fu (((0 : Int), t2))) fun t10 =>
 ck64 (i1 + ((1 : Int))) fun x9 =>
 L (x9, t10)
 else
 some t2
def M_fpoly_product (fu : Nat) (a0 : List Int) (a1 : List Int) (a2 : Int) : Option (List Int) :=
 ck64 ((((a0.length : Nat) : Int)) + (((a1.length : Nat) : Int))) fun x1 =>
 ckN x1 fun j1 =>
 ck (8 * j1 ≤ 281474976710656) <|
 nm (List.replicate j1 0) fun t1 =>
 bd (loopN (B_fpoly_product_0 fu a0 a1 a2) fu (((0 : Int), t1))) fun t11 =>
 bd (M_fpoly_plain fu t11 a2) fun t12 =>
 some t12
def B_fpoly_sum_0 (fu : Nat) (a1 : List Int) (a2 : Int) (a3 : Int) : ((Int × (List Int)) → Option (List Int)) → (Int × (List Int)) → Option (List Int) := fun L (i1, t3) =>
 bd ((if i1 < ((a1.length : Nat) : Int) then
 some ((a2, a3, a1, ((a1.length : Nat) : Int), true))
 else
 some ((a2, a3, a1, ((a1.length : Nat) : Int), false)) : Option (Int × Int × (List Int) × Int × Bool))) fun (i2, i3, t4, i4, b1) =>
 if b1 = true then
 ckI i1 (t4.length) fun j2 =>
 nm (t4.getD j2 0) fun y1 =>
 ckI i1 (t3.length) fun j3 =>
 nm ((t3.getD j3 0)) fun x2 =>
 ck64 (i2 * y1) fun x3 =>
 ck64 (x2 + x3) fun x4 =>
 ckI i1 (t3.length) fun j4 =>
 nm (t3.set j4 x4) fun t5 =>
 ck64 (i1 + ((1 : Int))) fun x5 =>
 L (x5, t5)
 else
 some t3
def M_fpoly_sum (fu : Nat) (a0 : List Int) (a1 : List Int) (a2 : Int) (a3 : Int) : Option (List Int) :=
 nm (max (((a0.length : Nat) : Int)) (((a1.length : Nat) : Int))) fun x1 =>
 ckN x1 fun j1 =>
 ck (8 * j1 ≤ 281474976710656) <|
 nm (List.replicate j1 0) fun t1 =>
 nm (cpy t1 a0) fun t2 =>
 bd (loopN (B_fpoly_sum_0 fu a1 a2 a3) fu (((0 : Int), t2))) fun t6 =>
 bd (M_fpoly_plain fu t6 a3) fun t7 =>
 some t7
def B_fpoly_next_0 (fu : Nat) (a1 : List (List Int)) (a2 : Int) : (((List Int) × Int × (List (List Int)) × (List (List Int))) → Option ((List (List Int)) × (List (List Int)))) → ((List Int) × Int × (List (List Int)) × (List (List Int))) → Option ((List (List Int)) × (List (List Int))) := fun L (t3, i1, t4, t5) =>
 bd ((if i1 < (3 : Int) then
 some (a2, a1, true)
 else
 some (a2, a1, false) : Option (Int × (List (List Int)) × Bool))) fun (i2, t6, b1) =>
 if b1 = true then
 ckI i1 (3) fun j3 =>
 ckI i1 (3) fun j4 =>
 nm (t6.getD j4 []) fun y2 =>
 bd (M_fpoly_product fu t3 y2 i2) fun t7 =>
 ck64 (i2 - ((1 : Int))) fun x1 =>
 bd (M_fpoly_sum fu (t4.getD j3 []) t7 x1 i2) fun t8 =>
 ckI i1 (3) fun j5 =>
 nm (t4.set j5 t8) fun t9 =>
 ck64 (i1 + ((1 : Int))) fun x2 =>
 L (t3, x2, t9, t5)
 else
 some (t4, t5)
def M_fpoly_next (fu : Nat) (a0 : List (List Int)) (a1 : List (List Int)) (a2 : Int) : Option (List (List Int)) :=
 ckI ((0 : Int)) (3) fun j1 =>
 ckI ((0 : Int)) (3) fun j2 =>
 nm (a1.getD j2 []) fun y1 =>
 bd (M_fpoly_divided fu (a0.getD j1 []) y1 a2) fun (t1, t2) =>
 bd (loopN (B_fpoly_next_0 fu a1 a2) fu ((t1, (0 : Int), a0, (List.replicate 3 [])))) fun (t10, t11) =>
 some t10
def M_fpoly_scaled (fu : Nat) (a0 : List Int) (a1 : Int) (a2 : Int) : Option (List Int) :=
 bd (M_fp_Inv fu a1 a2) fun (x1, x2) =>
 bd (M_fpoly_product fu a0 [x1] a2) fun t1 =>
 some t1
def B_fpoly_Bezout_0 (fu : Nat) (a2 : Int) : (((List (List Int)) × (List (List Int))) → Option (List (List Int))) → ((List (List Int)) × (List (List Int))) → Option (List (List Int)) := fun L (t3, t4) =>
 ckI ((0 : Int)) (3) fun j1 =>
 if (0 : Int) < ((((t4.getD j1 [])).length : Nat) : Int) then
 bd (M_fpoly_next fu t3 t4 a2) fun t5 =>
 L (t4, t5)
 else
 some t3
def B_fpoly_Bezout_1 (fu : Nat) (a2 : Int) (y1 : Int) : ((Int × (List (List Int))) → Option (List (List Int))) → (Int × (List (List Int))) → Option (List (List Int)) := fun L (i1, t7) =>
 if i1 < (3 : Int) then
 ckI i1 (3) fun j5 =>
 bd (M_fpoly_scaled fu (t7.getD j5 []) y1 a2) fun t8 =>
 ckI i1 (3) fun j6 =>
 nm (t7.set j6 t8) fun t9 =>
 ck64 (i1 + ((1 : Int))) fun x3 =>
 L (x3, t9)
 else
 some t7
def M_fpoly_Bezout (fu : Nat) (a0 : List Int) (a1 : List Int) (a2 : Int) : Option ((List Int) × (List Int) × (List Int) × Int) :=
 bd (M_fp_Check fu a2) fun x1 =>
 if x1 = (0 : Int) then
 bd (M_fpoly_plain fu a0 a2) fun t1 =>
 bd (M_fpoly_plain fu a1 a2) fun t2 =>
 bd (loopN (B_fpoly_Bezout_0 fu a2) fu (([t1, [(1 : Int)], []], [t2, [], [(1 : Int)]]))) fun t6 =>
 ckI ((0 : Int)) (3) fun j2 =>
 bd ((if (0 : Int) < ((((t6.getD j2 [])).length : Nat) : Int) then
 some true
 else
 some false : Option Bool)) fun b1 =>
 if b1 = true then
 ckI ((0 : Int)) (3) fun j3 =>
 ck64 ((((((t6.getD j2 [])).length : Nat) : Int)) - ((1 : Int))) fun x2 =>
 ckI x2 (((t6.getD j3 [])).length) fun j4 =>
 nm (((t6.getD j3 [])).getD j4 0) fun y1 =>
 bd (loopN (B_fpoly_Bezout_1 fu a2 y1) fu (((0 : Int), t6))) fun t10 =>
 ckI ((0 : Int)) (3) fun j7 =>
 ckI ((1 : Int)) (3) fun j8 =>
 ckI ((2 : Int)) (3) fun j9 =>
 some (((t10.getD j7 []), (t10.getD j8 []), (t10.getD j9 []), (0 : Int)))
 else
 ckI ((0 : Int)) (3) fun j10 =>
 ckI ((1 : Int)) (3) fun j11 =>
 ckI ((2 : Int)) (3) fun j12 =>
 some (((t6.getD j10 []), (t6.getD j11 []), (t6.getD j12 []), (0 : Int)))
 else
 some ([], [], [], x1)
def M_fpoly_Gcd (fu : Nat) (a0 : List Int) (a1 : List Int) (a2 : Int) : Option ((List Int) × Int) :=
 bd (M_fpoly_Bezout fu a0 a1 a2) fun (t1, t2, t3, x1) =>
 some (t1, x1)
def M_fpoly_Mul (fu : Nat) (a0 : List Int) (a1 : List Int) (a2 : Int) : Option ((List Int) × Int) :=
 bd (M_fp_Check fu a2) fun x1 =>
 if x1 = (0 : Int) then
 bd (M_fpoly_plain fu a0 a2) fun t1 =>
 bd (M_fpoly_plain fu a1 a2) fun t2 =>
 bd (M_fpoly_product fu t1 t2 a2) fun t3 =>
 some ((t3, (0 : Int)))
 else
 some ([], x1)
def M_fpoly_Sub (fu : Nat) (a0 : List Int) (a1 : List Int) (a2 : Int) : Option ((List Int) × Int) :=
 bd (M_fp_Check fu a2) fun x1 =>
 if x1 = (0 : Int) then
 bd (M_fpoly_plain fu a0 a2) fun t1 =>
 bd (M_fpoly_plain fu a1 a2) fun t2 =>
 ck64 (a2 - ((1 : Int))) fun x2 =>
 bd (M_fpoly_sum fu t1 t2 x2 a2) fun t3 =>
 some ((t3, (0 : Int)))
 else
 some ([], x1)
def M_hensel_equal (fu : Nat) (a0 : List Int) (a1 : List Int) (a2 : Int) : Option Bool :=
 bd (M_fpoly_Sub fu a0 a1 a2) fun (t1, x1) =>
 if ((t1.length : Nat) : Int) = (0 : Int) then
 some true
 else
 some false
def B_hensel_plain_0 (fu : Nat) (a0 : List Int) (a1 : Int) : (Int → Option (Unit ⊕ Unit)) → Int → Option (Unit ⊕ Unit) := fun L i1 =>
 if i1 < ((a0.length : Nat) : Int) then
 ckI i1 (a0.length) fun j1 =>
 nm (a0.getD j1 0) fun y1 =>
 if y1 < (0 : Int) then
 some (.inr ())
 else
 if a1 ≤ y1 then
 some (.inr ())
 else
 ck64 (i1 + ((1 : Int))) fun x1 =>
 L x1
 else
 some (.inl ())
def M_hensel_plain (fu : Nat) (a0 : List Int) (a1 : Int) : Option Bool :=
 bd (loopN (B_hensel_plain_0 fu a0 a1) fu (0 : Int)) fun s1 => match s1 with
 | .inl _ =>
 if (1 : Int) < ((a0.length : Nat) : Int) then
 ck64 ((((a0.length : Nat) : Int)) - ((1 : Int))) fun x2 =>
 ckI x2 (a0.length) fun j2 =>
 nm (a0.getD j2 0) fun y2 =>
 if y2 = (1 : Int) then
 some true
 else
 some false
 else
 some false
 | .inr _ =>
 some false
def B_hensel_product_0 (fu : Nat) (a0 : List (List Int)) (a1 : Int) : (((List Int) × Int) → Option (List Int)) → ((List Int) × Int) → Option (List Int) := fun L (t1, i1) =>
 if i1 < ((a0.length : Nat) : Int) then
 ckI i1 (a0.length) fun j1 =>
 nm (a0.getD j1 []) fun y1 =>
 bd (M_fpoly_Mul fu t1 y1 a1) fun (t2, x1) =>
 ck64 (i1 + ((1 : Int))) fun x2 =>
 L (t2, x2)
 else
 some t1
def M_hensel_product (fu : Nat) (a0 : List (List Int)) (a1 : Int) : Option (List Int) :=
 bd (loopN (B_hensel_product_0 fu a0 a1) fu (([(1 : Int)], (0 : Int)))) fun t3 =>
 some t3
def M_zint_Small (fu : Nat) (a0 : Zr) : Option (Int × Bool) :=
 bd (M_zint_Norm fu a0) fun y1 =>
 bd ((if ((y1.2.length : Nat) : Int) = (0 : Int) then
 some true
 else
 some false : Option Bool)) fun b1 =>
 if b1 = true then
 some (((0 : Int), true))
 else
 bd ((if (1 : Int) < ((y1.2.length : Nat) : Int) then
 some true
 else
 some false : Option Bool)) fun b2 =>
 if b2 = true then
 some (((0 : Int), false))
 else
 bd ((if y1.1 = true then
 ckI ((0 : Int)) (y1.2.length) fun j1 =>
 nm (y1.2.getD j1 0) fun y2 =>
 if ((y2 : Nat) : Int) ≤ (((9223372036854775808 : Nat) : Nat) : Int) then
 some true
 else
 some false
 else
 some false : Option Bool)) fun b3 =>
 if b3 = true then
 ckI ((0 : Int)) (y1.2.length) fun j2 =>
 nm (y1.2.getD j2 0) fun y3 =>
 nm ((18446744073709551616 - y3) % 18446744073709551616) fun m1 =>
 nm (sgn m1) fun x1 =>
 some (x1, true)
 else
 if y1.1 = true then
 some (((0 : Int), false))
 else
 ckI ((0 : Int)) (y1.2.length) fun j3 =>
 nm (y1.2.getD j3 0) fun y4 =>
 if (((9223372036854775807 : Nat) : Nat) : Int) < ((y4 : Nat) : Int) then
 some (((0 : Int), false))
 else
 ckI ((0 : Int)) (y1.2.length) fun j4 =>
 nm (y1.2.getD j4 0) fun y5 =>
 nm (sgn y5) fun x2 =>
 some (x2, true)
def M_prime_Mod (fu : Nat) (a0 : Zr) (a1 : Int) : Option (Int × Int) :=
 bd (M_zint_Of fu a1) fun y1 =>
 bd (M_prime_Rest fu a0 y1) fun (y2, x1) =>
 if x1 = (0 : Int) then
 bd (M_zint_Small fu y2) fun (x2, c1) =>
 some ((x2, (0 : Int)))
 else
 some (((0 : Int), x1))
def M_zpoly_Mod_1 (fu : Nat) (a0 : Int) (a1 : Zr) (a2 : Int) : Option Int :=
 bd (M_prime_Mod fu a1 a2) fun (x1, x2) =>
 some x1
def B_zpoly_each_api_Int_int_0 (fu : Nat) (a0 : List Zr) (a1 : Int → Zr → Option Int) : ((Int × (List Int)) → Option (List Int)) → (Int × (List Int)) → Option (List Int) := fun L (i1, t2) =>
 bd ((if i1 < ((a0.length : Nat) : Int) then
 some ((a0, ((a0.length : Nat) : Int), true))
 else
 some ((a0, ((a0.length : Nat) : Int), false)) : Option ((List Zr) × Int × Bool))) fun (t3, i2, b1) =>
 if b1 = true then
 ckI i1 (t3.length) fun j2 =>
 nm (t3.getD j2 (false, [])) fun y1 =>
 bd (a1 i1 y1) fun x1 =>
 ckI i1 (t2.length) fun j3 =>
 nm (t2.set j3 x1) fun t4 =>
 ck64 (i1 + ((1 : Int))) fun x2 =>
 L (x2, t4)
 else
 some t2
def M_zpoly_each_api_Int_int (fu : Nat) (a0 : List Zr) (a1 : Int → Zr → Option Int) : Option (List Int) :=
 ckN (((a0.length : Nat) : Int)) fun j1 =>
 ck (8 * j1 ≤ 281474976710656) <|
 nm (List.replicate j1 0) fun t1 =>
 bd (loopN (B_zpoly_each_api_Int_int_0 fu a0 a1) fu (((0 : Int), t1))) fun t5 =>
 some t5
def B_zpoly_Mod_0 (fu : Nat)  : ((List Int) → Option (List Int)) → (List Int) → Option (List Int) := fun L t2 =>
 if (0 : Int) < ((t2.length : Nat) : Int) then
 ck64 ((((t2.length : Nat) : Int)) - ((1 : Int))) fun x1 =>
 ckI x1 (t2.length) fun j1 =>
 nm ((t2.getD j1 0)) fun x2 =>
 if x2 = (0 : Int) then
 ck64 ((((t2.length : Nat) : Int)) - ((1 : Int))) fun x3 =>
 ckN x3 fun j2 =>
 ck (j2 ≤ t2.length) <|
 nm (t2.take j2) fun t3 =>
 L t3
 else
 some t2
 else
 some t2
def M_zpoly_Mod (fu : Nat) (a0 : List Zr) (a1 : Int) : Option ((List Int) × Int) :=
 if a1 < (1 : Int) then
 some (([], (1 : Int)))
 else
 bd (M_zpoly_each_api_Int_int fu a0 (fun zx0 zx1 => M_zpoly_Mod_1 fu zx0 zx1 a1)) fun t1 =>
 bd (loopN (B_zpoly_Mod_0 fu ) fu t1) fun t4 =>
 some ((t4, (0 : Int)))
def B_hensel_right_1 (fu : Nat) (i2 : Int) (y1 : List Int) (t6 : List (List Int)) : (Int → Option (Unit ⊕ Unit)) → Int → Option (Unit ⊕ Unit) := fun L i4 =>
 if i4 < ((t6.length : Nat) : Int) then
 ckI i4 (t6.length) fun j3 =>
 nm (t6.getD j3 []) fun y2 =>
 bd (M_fpoly_Gcd fu y1 y2 i2) fun (t7, x2) =>
 if ((t7.length : Nat) : Int) = (1 : Int) then
 ck64 (i4 + ((1 : Int))) fun x3 =>
 L x3
 else
 some (.inr ())
 else
 some (.inl ())
def B_hensel_right_0 (fu : Nat) (a0 : List Zr) (a1 : List (List Int)) (a2 : Int) : ((Int × (List Int)) → Option ((List Int) ⊕ Unit)) → (Int × (List Int)) → Option ((List Int) ⊕ Unit) := fun L (i1, t2) =>
 bd ((if i1 < ((a1.length : Nat) : Int) then
 some ((a0, a1, a2, a1, ((a1.length : Nat) : Int), true))
 else
 some ((a0, a1, a2, a1, ((a1.length : Nat) : Int), false)) : Option ((List Zr) × (List (List Int)) × Int × (List (List Int)) × Int × Bool))) fun (t3, t4, i2, t5, i3, b1) =>
 if b1 = true then
 ckI i1 (t5.length) fun j1 =>
 nm (t5.getD j1 []) fun y1 =>
 if ((t3.length : Nat) : Int) < ((y1.length : Nat) : Int) then
 some (.inr ())
 else
 bd (M_hensel_plain fu y1 i2) fun c1 =>
 if ((!c1)) = true then
 some (.inr ())
 else
 ckN i1 fun j2 =>
 ck (j2 ≤ t4.length) <|
 nm (t4.take j2) fun t6 =>
 bd (loopN (B_hensel_right_1 fu i2 y1 t6) fu (0 : Int)) fun s1 => match s1 with
 | .inl _ =>
 ck64 (i1 + ((1 : Int))) fun x4 =>
 L (x4, t2)
 | .inr _ =>
 some (.inr ())
 else
 some (.inl t2)
def M_hensel_right (fu : Nat) (a0 : List Zr) (a1 : List (List Int)) (a2 : Int) : Option Bool :=
 bd (M_zpoly_Mod fu a0 a2) fun (t1, x1) =>
 if ((a0.length : Nat) : Int) = (0 : Int) then
 some false
 else
 if ((t1.length : Nat) : Int) = ((a0.length : Nat) : Int) then
 if ((a0.length : Nat) : Int) < ((a1.length : Nat) : Int) then
 some false
 else
 bd (loopN (B_hensel_right_0 fu a0 a1 a2) fu (((0 : Int), t1))) fun s2 => match s2 with
 | .inl t8 =>
 bd (M_hensel_product fu a1 a2) fun t9 =>
 ck64 ((((t8.length : Nat) : Int)) - ((1 : Int))) fun x5 =>
 ckN x5 fun j4 =>
 ck (j4 ≤ t8.length) <|
 nm (t8.drop j4) fun t10 =>
 bd (M_fpoly_Mul fu t9 t10 a2) fun (t11, x6) =>
 bd (M_hensel_equal fu t11 t8 a2) fun c2 =>
 some c2
 | .inr _ =>
 some false
 else
 some false
def B_hensel_divided_1 (fu : Nat) (a1 : List Zr) (i1 : Int) : (((List Zr) × Zr × Int × (List Zr) × (List Zr)) → Option ((List Zr) × Zr × (List Zr) × (List Zr))) → ((List Zr) × Zr × Int × (List Zr) × (List Zr)) → Option ((List Zr) × Zr × (List Zr) × (List Zr)) := fun L (t6, t7, i2, t8, t9) =>
 bd ((if i2 < ((a1.length : Nat) : Int) then
 some ((i1, a1, ((a1.length : Nat) : Int), true))
 else
 some ((i1, a1, ((a1.length : Nat) : Int), false)) : Option (Int × (List Zr) × Int × Bool))) fun (i3, t10, i4, b1) =>
 if b1 = true then
 ckI i2 (t10.length) fun j4 =>
 nm (t10.getD j4 (false, [])) fun y3 =>
 ck64 (i3 + i2) fun x8 =>
 ck64 (i3 + i2) fun x9 =>
 ckI x9 (t8.length) fun j5 =>
 nm ((t8.getD j5 (false, []))) fun y4 =>
 ckI i3 (t9.length) fun j6 =>
 nm ((t9.getD j6 (false, []))) fun y5 =>
 bd (M_zint_Mul fu y5 y3) fun y6 =>
 bd (M_zint_Sub fu y4 y6) fun y7 =>
 ckI x8 (t8.length) fun j7 =>
 nm (t8.set j7 y7) fun t11 =>
 ck64 (i2 + ((1 : Int))) fun x10 =>
 L (t6, t7, x10, t11, t9)
 else
 some (t6, t7, t8, t9)
def B_hensel_divided_0 (fu : Nat) (a1 : List Zr) (a2 : Zr) : ((Int × (List Zr) × (List Zr)) → Option ((List Zr) × (List Zr))) → (Int × (List Zr) × (List Zr)) → Option ((List Zr) × (List Zr)) := fun L (i1, t3, t4) =>
 if (0 : Int) ≤ i1 then
 ck64 (i1 + (((a1.length : Nat) : Int))) fun x5 =>
 ck64 (x5 - ((1 : Int))) fun x6 =>
 ckI x6 (t3.length) fun j2 =>
 nm ((t3.getD j2 (false, []))) fun y1 =>
 bd (M_prime_Rest fu y1 a2) fun (y2, x7) =>
 ckI i1 (t4.length) fun j3 =>
 nm (t4.set j3 y2) fun t5 =>
 bd (loopN (B_hensel_divided_1 fu a1 i1) fu ((a1, a2, (0 : Int), t3, t5))) fun (t12, t13, t14, t15) =>
 ck64 (i1 - ((1 : Int))) fun x11 =>
 L (x11, t14, t15)
 else
 some (t3, t4)
def M_hensel_divided (fu : Nat) (a0 : List Zr) (a1 : List Zr) (a2 : Zr) : Option ((List Zr) × (List Zr)) :=
 bd (M_hensel_red fu a0 a2) fun t1 =>
 ck64 ((((t1.length : Nat) : Int)) - (((a1.length : Nat) : Int))) fun x1 =>
 ck64 (x1 + ((1 : Int))) fun x2 =>
 nm (max x2 ((0 : Int))) fun x3 =>
 ckN x3 fun j1 =>
 ck (32 * j1 ≤ 281474976710656) <|
 nm (List.replicate j1 (false, [])) fun t2 =>
 ck64 ((((t2.length : Nat) : Int)) - ((1 : Int))) fun x4 =>
 bd (loopN (B_hensel_divided_0 fu a1 a2) fu (x4, t1, t2)) fun (t16, t17) =>
 bd (M_hensel_red fu t17 a2) fun t18 =>
 bd (M_hensel_red fu t16 a2) fun t19 =>
 some (t18, t19)
def M_zpoly_Add_1 (fu : Nat) (a0 : Int) (a1 : Zr) (a2 : List Zr) : Option Zr :=
 if a0 < ((a2.length : Nat) : Int) then
 ckI a0 (a2.length) fun j1 =>
 nm (a2.getD j1 (false, [])) fun y1 =>
 bd (M_zint_Add fu a1 y1) fun y2 =>
 some y2
 else
 some a1
def M_zpoly_Add (fu : Nat) (a0 : List Zr) (a1 : List Zr) : Option (List Zr) :=
 if ((a0.length : Nat) : Int) < ((a1.length : Nat) : Int) then
 bd (M_zpoly_each_api_Int_api_Int fu a1 (fun zx0 zx1 => M_zpoly_Add_1 fu zx0 zx1 a0)) fun t1 =>
 bd (M_zpoly_Norm fu t1) fun t2 =>
 some t2
 else
 bd (M_zpoly_each_api_Int_api_Int fu a0 (fun zx0 zx1 => M_zpoly_Add_1 fu zx0 zx1 a1)) fun t3 =>
 bd (M_zpoly_Norm fu t3) fun t4 =>
 some t4
def B_zpoly_Mul_1 (fu : Nat) (i1 : Int) (t3 : List Zr) (t4 : List Zr) (i2 : Int) : ((Int × (List Zr) × Zr) → Option (List Zr)) → (Int × (List Zr) × Zr) → Option (List Zr) := fun L (i3, t5, t6) =>
 bd ((if i3 < ((t3.length : Nat) : Int) then
 some ((t3, i1, t4, i2, i1, t3, ((t3.length : Nat) : Int), true))
 else
 some ((t3, i1, t4, i2, i1, t3, ((t3.length : Nat) : Int), false)) : Option ((List Zr) × Int × (List Zr) × Int × Int × (List Zr) × Int × Bool))) fun (t7, i4, t8, i5, i6, t9, i7, b2) =>
 if b2 = true then
 ckI i3 (t9.length) fun j3 =>
 nm (t9.getD j3 (false, [])) fun y2 =>
 ck64 (i4 + i3) fun x2 =>
 ck64 (i4 + i3) fun x3 =>
 ckI x3 (t5.length) fun j4 =>
 nm ((t5.getD j4 (false, []))) fun y3 =>
 bd (M_zint_Mul fu t6 y2) fun y4 =>
 bd (M_zint_Add fu y3 y4) fun y5 =>
 ckI x2 (t5.length) fun j5 =>
 nm (t5.set j5 y5) fun t10 =>
 ck64 (i3 + ((1 : Int))) fun x4 =>
 L (x4, t10, t6)
 else
 some t5
def B_zpoly_Mul_0 (fu : Nat) (a0 : List Zr) (a1 : List Zr) : ((Int × (List Zr)) → Option (List Zr)) → (Int × (List Zr)) → Option (List Zr) := fun L (i1, t2) =>
 bd ((if i1 < ((a0.length : Nat) : Int) then
 some ((a1, a0, ((a0.length : Nat) : Int), true))
 else
 some ((a1, a0, ((a0.length : Nat) : Int), false)) : Option ((List Zr) × (List Zr) × Int × Bool))) fun (t3, t4, i2, b1) =>
 if b1 = true then
 ckI i1 (t4.length) fun j2 =>
 nm (t4.getD j2 (false, [])) fun y1 =>
 bd (loopN (B_zpoly_Mul_1 fu i1 t3 t4 i2) fu (((0 : Int), t2, y1))) fun t11 =>
 ck64 (i1 + ((1 : Int))) fun x5 =>
 L (x5, t11)
 else
 some t2
def M_zpoly_Mul (fu : Nat) (a0 : List Zr) (a1 : List Zr) : Option (List Zr) :=
 ck64 ((((a0.length : Nat) : Int)) + (((a1.length : Nat) : Int))) fun x1 =>
 ckN x1 fun j1 =>
 ck (32 * j1 ≤ 281474976710656) <|
 nm (List.replicate j1 (false, [])) fun t1 =>
 bd (loopN (B_zpoly_Mul_0 fu a0 a1) fu (((0 : Int), t1))) fun t12 =>
 bd (M_zpoly_Norm fu t12) fun t13 =>
 some t13
def M_zpoly_Lift_1 (fu : Nat) (a0 : Int) (a1 : Int) : Option Zr :=
 bd (M_zint_Of fu a1) fun y1 =>
 some y1
def B_zpoly_each_int_api_Int_0 (fu : Nat) (a0 : List Int) (a1 : Int → Int → Option Zr) : ((Int × (List Zr)) → Option (List Zr)) → (Int × (List Zr)) → Option (List Zr) := fun L (i1, t2) =>
 if i1 < ((a0.length : Nat) : Int) then
 ckI i1 (a0.length) fun j2 =>
 nm (a0.getD j2 0) fun y1 =>
 bd (a1 i1 y1) fun y2 =>
 ckI i1 (t2.length) fun j3 =>
 nm (t2.set j3 y2) fun t3 =>
 ck64 (i1 + ((1 : Int))) fun x1 =>
 L (x1, t3)
 else
 some t2
def M_zpoly_each_int_api_Int (fu : Nat) (a0 : List Int) (a1 : Int → Int → Option Zr) : Option (List Zr) :=
 ckN (((a0.length : Nat) : Int)) fun j1 =>
 ck (32 * j1 ≤ 281474976710656) <|
 nm (List.replicate j1 (false, [])) fun t1 =>
 bd (loopN (B_zpoly_each_int_api_Int_0 fu a0 a1) fu (((0 : Int), t1))) fun t4 =>
 some t4
def M_zpoly_Lift (fu : Nat) (a0 : List Int) : Option (List Zr) :=
 bd (M_zpoly_each_int_api_Int fu a0 (fun zx0 zx1 => M_zpoly_Lift_1 fu zx0 zx1)) fun t1 =>
 bd (M_zpoly_Norm fu t1) fun t2 =>
 some t2
def M_zpoly_Of (fu : Nat) (a0 : List Int) : Option (List Zr) :=
 bd (M_zpoly_Lift fu a0) fun t1 =>
 some t1
def M_zpoly_Scale_1 (fu : Nat) (a0 : Int) (a1 : Zr) (a2 : Zr) : Option Zr :=
 bd (M_zint_Mul fu a1 a2) fun y1 =>
 some y1
def M_zpoly_Scale (fu : Nat) (a0 : List Zr) (a1 : Zr) : Option (List Zr) :=
 bd (M_zpoly_each_api_Int_api_Int fu a0 (fun zx0 zx1 => M_zpoly_Scale_1 fu zx0 zx1 a1)) fun t1 =>
 bd (M_zpoly_Norm fu t1) fun t2 =>
 some t2
def M_zpoly_Sub (fu : Nat) (a0 : List Zr) (a1 : List Zr) : Option (List Zr) :=
 bd (M_zint_Of fu (-1 : Int)) fun y1 =>
 bd (M_zpoly_Scale fu a1 y1) fun t1 =>
 bd (M_zpoly_Add fu a0 t1) fun t2 =>
 some t2
def M_hensel_pair_up (fu : Nat) (a0 : List (List Zr)) (a1 : List Zr) (a2 : Zr) : Option (List (List Zr)) :=
 ckI ((0 : Int)) (4) fun j1 =>
 nm (a0.getD j1 []) fun y1 =>
 ckI ((1 : Int)) (4) fun j2 =>
 nm (a0.getD j2 []) fun y2 =>
 ckI ((2 : Int)) (4) fun j3 =>
 nm (a0.getD j3 []) fun y3 =>
 ckI ((3 : Int)) (4) fun j4 =>
 nm (a0.getD j4 []) fun y4 =>
 bd (M_zpoly_Mul fu y1 y2) fun t1 =>
 bd (M_zpoly_Sub fu a1 t1) fun t2 =>
 bd (M_hensel_red fu t2 a2) fun t3 =>
 bd (M_zpoly_Mul fu y3 t3) fun t4 =>
 bd (M_hensel_divided fu t4 y2 a2) fun (t5, t6) =>
 bd (M_zpoly_Mul fu y4 t3) fun t7 =>
 bd (M_zpoly_Mul fu t5 y1) fun t8 =>
 bd (M_zpoly_Add fu t7 t8) fun t9 =>
 bd (M_zpoly_Add fu y1 t9) fun t10 =>
 bd (M_hensel_red fu t10 a2) fun t11 =>
 bd (M_zpoly_Add fu y2 t6) fun t12 =>
 bd (M_hensel_red fu t12 a2) fun t13 =>
 bd (M_zpoly_Mul fu y3 t11) fun t14 =>
 bd (M_zpoly_Mul fu y4 t13) fun t15 =>
 bd (M_zpoly_Add fu t14 t15) fun t16 =>
 bd (M_zpoly_Of fu [(1 : Int)]) fun t17 =>
 bd (M_zpoly_Sub fu t16 t17) fun t18 =>
 bd (M_hensel_red fu t18 a2) fun t19 =>
 bd (M_zpoly_Mul fu y3 t19) fun t20 =>
 bd (M_hensel_divided fu t20 t13 a2) fun (t21, t22) =>
 bd (M_zpoly_Sub fu y3 t22) fun t23 =>
 bd (M_hensel_red fu t23 a2) fun t24 =>
 bd (M_zpoly_Mul fu y4 t19) fun t25 =>
 bd (M_zpoly_Mul fu t21 t11) fun t26 =>
 bd (M_zpoly_Add fu t25 t26) fun t27 =>
 bd (M_zpoly_Sub fu y4 t27) fun t28 =>
 bd (M_hensel_red fu t28 a2) fun t29 =>
 some [t11, t13, t24, t29]
def M_zint_line_less (fu : Nat) (a0 : Zr × (Zr × Zr)) (a1 : Zr) (a2 : Zr × (Zr × Zr)) : Option (Zr × (Zr × Zr)) :=
 bd (M_zint_Mul fu a1 a2.1) fun y1 =>
 bd (M_zint_Sub fu a0.1 y1) fun y2 =>
 bd (M_zint_Mul fu a1 a2.2.1) fun y3 =>
 bd (M_zint_Sub fu a0.2.1 y3) fun y4 =>
 bd (M_zint_Mul fu a1 a2.2.2) fun y5 =>
 bd (M_zint_Sub fu a0.2.2 y5) fun y6 =>
 some (y2, y4, y6)
def B_zint_Bezout_0 (fu : Nat)  : (((Zr × (Zr × Zr)) × (Zr × (Zr × Zr))) → Option (Zr × (Zr × Zr))) → ((Zr × (Zr × Zr)) × (Zr × (Zr × Zr))) → Option (Zr × (Zr × Zr)) := fun L (t1, t2) =>
 bd (M_zint_Sign fu t2.1) fun x1 =>
 if x1 = (0 : Int) then
 some t1
 else
 bd (M_zint_Div fu t1.1 t2.1) fun (y7, y8, x2) =>
 bd (M_zint_line_less fu t1 y7 t2) fun y9 =>
 L (t2, y9)
def M_zint_Bezout (fu : Nat) (a0 : Zr) (a1 : Zr) : Option (Zr × Zr × Zr) :=
 bd (M_zint_made fu false a0.2) fun y1 =>
 bd (M_zint_Of fu (1 : Int)) fun y2 =>
 bd (M_zint_Of fu (0 : Int)) fun y3 =>
 bd (M_zint_made fu false a1.2) fun y4 =>
 bd (M_zint_Of fu (0 : Int)) fun y5 =>
 bd (M_zint_Of fu (1 : Int)) fun y6 =>
 bd (loopN (B_zint_Bezout_0 fu ) fu (((y1, y2, y3), (y4, y5, y6)))) fun t3 =>
 bd ((bd (M_zint_Sign fu a0) fun x3 =>
 if x3 < (0 : Int) then
 bd (M_zint_Neg fu t3.2.1) fun y10 =>
 nm ((t3.1, (y10, t3.2.2))) fun t4 =>
 some t4
 else
 some t3 : Option (Zr × (Zr × Zr)))) fun t5 =>
 bd ((bd (M_zint_Sign fu a1) fun x4 =>
 if x4 < (0 : Int) then
 bd (M_zint_Neg fu t5.2.2) fun y11 =>
 nm ((t5.1, (t5.2.1, y11))) fun t6 =>
 some t6
 else
 some t5 : Option (Zr × (Zr × Zr)))) fun t7 =>
 some (t7.1, t7.2.1, t7.2.2)
def M_hensel_one (fu : Nat) (a0 : List Zr) (a1 : Zr) : Option (List Zr) :=
 ck64 ((((a0.length : Nat) : Int)) - ((1 : Int))) fun x1 =>
 ckI x1 (a0.length) fun j1 =>
 nm (a0.getD j1 (false, [])) fun y1 =>
 bd (M_zint_Bezout fu y1 a1) fun (y2, y3, y4) =>
 bd (M_zpoly_Scale fu a0 y3) fun t1 =>
 bd (M_hensel_red fu t1 a1) fun t2 =>
 some t2
def B_hensel_tree_0 (fu : Nat) (a0 : List Zr) (a2 : Int) (a3 : Int) : ((Int × (List (List Zr))) → Option (List (List Zr))) → (Int × (List (List Zr))) → Option (List (List Zr)) := fun L (i1, t16) =>
 if i1 < a3 then
 ck64 (((2 : Int)) * i1) fun x6 =>
 nm (min x6 a3) fun x7 =>
 bd (M_hensel_Power fu a2 x7) fun (y1, x8) =>
 bd (M_hensel_pair_up fu t16 a0 y1) fun t17 =>
 L (x7, t17)
 else
 some t16
def M_hensel_tree : Nat → (List Zr) → (List (List Int)) → Int → Int → Zr → Option (List (List Zr))
  | 0, _, _, _, _, _ => none
  | fu + 1, a0, a1, a2, a3, a4 =>
    if ((a1.length : Nat) : Int) = (1 : Int) then
    bd (M_hensel_one fu a0 a4) fun t1 =>
    some [t1]
    else
    ck ((2 : Int) ≠ 0) <|
    ck64 (Int.tdiv (((a1.length : Nat) : Int)) ((2 : Int))) fun x1 =>
    ck64 ((((a0.length : Nat) : Int)) - ((1 : Int))) fun x2 =>
    ckN x2 fun j1 =>
    ck (j1 ≤ a0.length) <|
    nm (a0.drop j1) fun t2 =>
    bd (M_zpoly_Mod fu t2 a2) fun (t3, x3) =>
    ckN x1 fun j2 =>
    ck (j2 ≤ a1.length) <|
    nm (a1.take j2) fun t4 =>
    bd (M_hensel_product fu t4 a2) fun t5 =>
    bd (M_fpoly_Mul fu t5 t3 a2) fun (t6, x4) =>
    ckN x1 fun j3 =>
    ck (j3 ≤ a1.length) <|
    nm (a1.drop j3) fun t7 =>
    bd (M_hensel_product fu t7 a2) fun t8 =>
    bd (M_fpoly_Bezout fu t6 t8 a2) fun (t9, t10, t11, x5) =>
    bd (M_zpoly_Lift fu t6) fun t12 =>
    bd (M_zpoly_Lift fu t8) fun t13 =>
    bd (M_zpoly_Lift fu t10) fun t14 =>
    bd (M_zpoly_Lift fu t11) fun t15 =>
    bd (loopN (B_hensel_tree_0 fu a0 a2 a3) fu (((1 : Int), [t12, t13, t14, t15]))) fun t18 =>
    ckI ((0 : Int)) (4) fun j4 =>
    ckN x1 fun j5 =>
    ck (j5 ≤ a1.length) <|
    nm (a1.take j5) fun t19 =>
    bd (M_hensel_tree fu (t18.getD j4 []) t19 a2 a3 a4) fun t20 =>
    ckI ((1 : Int)) (4) fun j6 =>
    ckN x1 fun j7 =>
    ck (j7 ≤ a1.length) <|
    nm (a1.drop j7) fun t21 =>
    bd (M_hensel_tree fu (t18.getD j6 []) t21 a2 a3 a4) fun t22 =>
    ck ((t20.length + t22.length) * 24 ≤ 140737488355328) <|
    nm (t20 ++ t22) fun t23 =>
    some t23
def M_hensel_Lift (fu : Nat) (a0 : List Zr) (a1 : List (List Int)) (a2 : Int) (a3 : Int) : Option ((List (List Zr)) × Int) :=
 bd (M_hensel_Power fu a2 a3) fun (y1, x1) =>
 bd (M_zpoly_Norm fu a0) fun t1 =>
 if x1 = (0 : Int) then
 if (65 : Int) < ((t1.length : Nat) : Int) then
 some (([], (6 : Int)))
 else
 bd (M_hensel_right fu t1 a1 a2) fun c1 =>
 if ((!c1)) = true then
 some (([], (1 : Int)))
 else
 if ((a1.length : Nat) : Int) = (0 : Int) then
 some (([], (0 : Int)))
 else
 bd (M_hensel_red fu t1 y1) fun t2 =>
 bd (M_hensel_tree fu t2 a1 a2 a3 y1) fun t3 =>
 some ((t3, (0 : Int)))
 else
 some ([], x1)
def M_hensel_Mul (fu : Nat) (a0 : List Zr) (a1 : List Zr) (a2 : Zr) : Option ((List Zr) × Int) :=
 bd (M_zpoly_Mul fu a0 a1) fun t1 =>
 bd (M_hensel_Red fu t1 a2) fun (t2, x1) =>
 some (t2, x1)
def M_zint_Cmp (fu : Nat) (a0 : Zr) (a1 : Zr) : Option Int :=
 bd (M_zint_Sub fu a0 a1) fun y1 =>
 bd (M_zint_Sign fu y1) fun x1 =>
 some x1
def M_prime_Near (fu : Nat) (a0 : Zr) (a1 : Zr) : Option (Zr × Int) :=
 bd (M_prime_Rest fu a0 a1) fun (y1, x1) =>
 if x1 = (0 : Int) then
 bd (M_zint_Add fu y1 y1) fun y2 =>
 bd (M_zint_Cmp fu y2 a1) fun x2 =>
 if (0 : Int) < x2 then
 bd (M_zint_Sub fu y1 a1) fun y3 =>
 some (y3, x1)
 else
 some (y1, x1)
 else
 some (y1, x1)
def M_hensel_Near (fu : Nat) (a0 : List Zr) (a1 : Zr) : Option ((List Zr) × Int) :=
 bd (M_hensel_rests fu a0 a1 (fun zx0 zx1 => M_prime_Near fu zx0 zx1)) fun (t1, x1) =>
 some (t1, x1)
def B_zint_Gcd_0 (fu : Nat)  : (((List Nat) × (List Nat)) → Option (List Nat)) → ((List Nat) × (List Nat)) → Option (List Nat) := fun L (t3, t4) =>
 if (0 : Int) < ((t4.length : Nat) : Int) then
 bd (M_nat_Div fu t3 t4) fun (t5, t6, x1) =>
 L (t4, t6)
 else
 some t3
def M_zint_Gcd (fu : Nat) (a0 : Zr) (a1 : Zr) : Option Zr :=
 bd (M_nat_Norm fu a0.2) fun t1 =>
 bd (M_nat_Norm fu a1.2) fun t2 =>
 bd (loopN (B_zint_Gcd_0 fu ) fu (t1, t2)) fun t7 =>
 bd (M_zint_made fu false t7) fun y1 =>
 some y1
def B_zpoly_Content_0 (fu : Nat) (t1 : List Zr) : ((Int × (List Zr) × Zr × Zr) → Option ((List Zr) × Zr × Zr)) → (Int × (List Zr) × Zr × Zr) → Option ((List Zr) × Zr × Zr) := fun L (i1, t2, t3, t4) =>
 bd ((if i1 < ((t1.length : Nat) : Int) then
 some ((((t1.length : Nat) : Int), true))
 else
 some ((((t1.length : Nat) : Int), false)) : Option (Int × Bool))) fun (i2, b1) =>
 if b1 = true then
 ckI i1 (t2.length) fun j1 =>
 nm ((t2.getD j1 (false, []))) fun y2 =>
 bd (M_zint_Gcd fu t4 y2) fun y3 =>
 ck64 (i1 + ((1 : Int))) fun x1 =>
 L (x1, t2, t3, y3)
 else
 some (t2, t3, t4)
def M_zpoly_Content (fu : Nat) (a0 : List Zr) : Option Zr :=
 bd (M_zpoly_Norm fu a0) fun t1 =>
 bd (M_zint_Of fu (0 : Int)) fun y1 =>
 bd (loopN (B_zpoly_Content_0 fu t1) fu (((0 : Int), t1, (false, []), y1))) fun (t5, t6, t7) =>
 if (0 : Int) < ((t5.length : Nat) : Int) then
 ck64 ((((t5.length : Nat) : Int)) - ((1 : Int))) fun x2 =>
 ckI x2 (t5.length) fun j2 =>
 nm (((t5.getD j2 (false, []))).1) fun c1 =>
 if c1 = true then
 bd (M_zint_Neg fu t7) fun y4 =>
 some y4
 else
 some t7
 else
 some t7
def M_zpoly_Prim_1 (fu : Nat) (a0 : Int) (a1 : Zr) (a2 : Zr) : Option Zr :=
 bd (M_zint_Exact fu a1 a2) fun (y1, x1) =>
 some y1
def M_zpoly_Prim (fu : Nat) (a0 : List Zr) : Option (List Zr) :=
 bd (M_zpoly_Content fu a0) fun y1 =>
 bd (M_zpoly_Norm fu a0) fun t1 =>
 bd (M_zpoly_each_api_Int_api_Int fu t1 (fun zx0 zx1 => M_zpoly_Prim_1 fu zx0 zx1 y1)) fun t2 =>
 some t2
def B_zfac_candidate_io_0 (fu : Nat) (a1 : List (List Zr)) (a2 : List Int) (a3 : Zr) : (((List Zr) × Int × (List Int)) → Option ((List Zr) × (List Int))) → ((List Zr) × Int × (List Int)) → Option ((List Zr) × (List Int)) := fun L (t2, i1, t3) =>
 bd ((if i1 < ((a2.length : Nat) : Int) then
 some ((a1, a3, ((a2.length : Nat) : Int), true))
 else
 some ((a1, a3, ((a2.length : Nat) : Int), false)) : Option ((List (List Zr)) × Zr × Int × Bool))) fun (t4, t5, i2, b1) =>
 if b1 = true then
 ckI i1 (t3.length) fun j2 =>
 nm ((t3.getD j2 0)) fun x2 =>
 ckI x2 (t4.length) fun j3 =>
 nm (t4.getD j3 []) fun y1 =>
 bd (M_hensel_Mul fu t2 y1 t5) fun (t6, x3) =>
 ck64 (i1 + ((1 : Int))) fun x4 =>
 L (t6, x4, t3)
 else
 some (t2, t3)
def M_zfac_candidate_io (fu : Nat) (a0 : List Zr) (a1 : List (List Zr)) (a2 : List Int) (a3 : Zr) : Option ((List Zr) × (List Int)) :=
 ck64 ((((a0.length : Nat) : Int)) - ((1 : Int))) fun x1 =>
 ckN x1 fun j1 =>
 ck (j1 ≤ a0.length) <|
 nm (a0.drop j1) fun t1 =>
 bd (loopN (B_zfac_candidate_io_0 fu a1 a2 a3) fu ((t1, (0 : Int), a2))) fun (t7, t8) =>
 bd (M_hensel_Near fu t7 a3) fun (t9, x5) =>
 bd (M_zpoly_Prim fu t9) fun t10 =>
 some (t10, t8)
def B_zfac_choices_1 {X Y R : Type} (fu : Nat) (n all : Int) (g : List Int → X → Option (List Int × (X ⊕ Y))) (x : X) (xs : List Int) (L : X → List Int → Int → Int → Int → Int → Int → Option R) (E : X → Int → Int → List Int → Option R) (E2 : Y → List Int → Option R) : Option R :=
 bd (g xs x) fun r => Sum.elim (fun x' =>
  ck64 (n - 1) fun i0 =>
  bd (loopN (fun L i =>
   if 0 ≤ i then
    ckI i r.1.length fun j =>
    nm (r.1.getD j 0) fun y =>
    ck64 (all - n) fun e =>
    ck64 (e + i) fun e =>
    if y = e then ck64 (i - 1) fun i => L i
    else some i
   else some i) fu i0) fun i =>
  if i < 0 then E x' i0 i r.1
  else
   ckI i r.1.length fun j =>
   nm (r.1.getD j 0) fun y =>
   ck64 (y + 1) fun e =>
   ckI i r.1.length fun j =>
   nm (r.1.set j e) fun xs =>
   ck64 (i + 1) fun i1 =>
   bd (loopN (fun L (z : Int × List Int) =>
    if z.1 < n then
     ck64 (z.1 - 1) fun e =>
     ckI e z.2.length fun j =>
     nm (z.2.getD j 0) fun y =>
     ck64 (y + 1) fun e =>
     ckI z.1 z.2.length fun j =>
     nm (z.2.set j e) fun xs =>
     ck64 (z.1 + 1) fun i => L (i, xs)
    else some z.2) fu (i1, xs)) fun xs => L x' xs i1 i e y i0) (fun y => E2 y r.1) r.2
def M_zfac_choices_1 {X Y : Type} (fu : Nat) (n all : Int) (g : List Int → X → Option (List Int × (X ⊕ Y))) (x0 : X) : Option (X ⊕ Y) :=
 ckN n fun m =>
 ck (8 * m ≤ 281474976710656) <|
 nm (List.replicate m 0) fun xs =>
 bd (loopN (fun L (z : List Int × Int) =>
  if z.2 < (xs.length : Int) then
   ckI z.2 z.1.length fun j =>
   nm (z.1.set j z.2) fun xs =>
   ck64 (z.2 + 1) fun i => L (xs, i)
  else some z.1) fu (xs, 0)) fun xs =>
 loopN (fun L (q : X × List Int) => B_zfac_choices_1 fu n all g q.1 q.2 (fun x xs _ _ _ _ _ => L (x, xs)) (fun x _ _ _ => some (.inl x)) fun y _ => some (.inr y)) fu (x0, xs)
def B_slices_Index_int_int_0 (fu : Nat) (a0 : List Int) (a1 : Int) : (Int → Option (Unit ⊕ Int)) → Int → Option (Unit ⊕ Int) := fun L i1 =>
 if i1 < ((a0.length : Nat) : Int) then
 ckI i1 (a0.length) fun j1 =>
 nm (a0.getD j1 0) fun y1 =>
 if a1 = y1 then
 some (.inr i1)
 else
 ck64 (i1 + ((1 : Int))) fun x1 =>
 L x1
 else
 some (.inl ())
def M_slices_Index_int_int (fu : Nat) (a0 : List Int) (a1 : Int) : Option Int :=
 bd (loopN (B_slices_Index_int_int_0 fu a0 a1) fu (0 : Int)) fun s1 => match s1 with
 | .inl _ =>
 some (-1 : Int)
 | .inr i2 =>
 some i2
def B_slices_Index_int_int_io_0 (fu : Nat) (a0 : List Int) (a1 : Int) : (Int → Option (Unit ⊕ Int)) → Int → Option (Unit ⊕ Int) := fun L i1 =>
 if i1 < ((a0.length : Nat) : Int) then
 ckI i1 (a0.length) fun j1 =>
 nm ((a0.getD j1 0)) fun x1 =>
 if a1 = x1 then
 some (.inr i1)
 else
 ck64 (i1 + ((1 : Int))) fun x2 =>
 L x2
 else
 some (.inl ())
def M_slices_Index_int_int_io (fu : Nat) (a0 : List Int) (a1 : Int) : Option (Int × (List Int)) :=
 bd (loopN (B_slices_Index_int_int_io_0 fu a0 a1) fu (0 : Int)) fun s1 => match s1 with
 | .inl _ =>
 some (((-1 : Int), a0))
 | .inr i2 =>
 some (i2, a0)
def M_slices_Contains_int_int (fu : Nat) (a0 : List Int) (a1 : Int) : Option Bool :=
 bd (M_slices_Index_int_int fu a0 a1) fun x1 =>
 if (0 : Int) ≤ x1 then
 some true
 else
 some false
def M_slices_Contains_int_int_io (fu : Nat) (a0 : List Int) (a1 : Int) : Option (Bool × (List Int)) :=
 bd (M_slices_Index_int_int_io fu a0 a1) fun (x1, t1) =>
 if (0 : Int) ≤ x1 then
 some (true, t1)
 else
 some (false, t1)
def B_zfac_without_api_Int_0 (fu : Nat) (a0 : List (List Zr)) (a1 : List Int) : (((List (List Zr)) × Int) → Option (List (List Zr))) → ((List (List Zr)) × Int) → Option (List (List Zr)) := fun L (t1, i1) =>
 bd ((if i1 < ((a0.length : Nat) : Int) then
 some ((a1, a0, ((a0.length : Nat) : Int), true))
 else
 some ((a1, a0, ((a0.length : Nat) : Int), false)) : Option ((List Int) × (List (List Zr)) × Int × Bool))) fun (t2, t3, i2, b1) =>
 if b1 = true then
 ckI i1 (t3.length) fun j1 =>
 nm (t3.getD j1 []) fun y1 =>
 bd (M_slices_Contains_int_int fu t2 i1) fun c1 =>
 if ((!c1)) = true then
 ck ((t1.length + ([y1]).length) * 24 ≤ 140737488355328) <|
 nm (t1 ++ ([y1])) fun t4 =>
 ck64 (i1 + ((1 : Int))) fun x1 =>
 L (t4, x1)
 else
 ck64 (i1 + ((1 : Int))) fun x2 =>
 L (t1, x2)
 else
 some t1
def B_zfac_without_api_Int_io_0 (fu : Nat) (a0 : List (List Zr)) : (((List (List Zr)) × Int × (List Int)) → Option ((List (List Zr)) × (List Int))) → ((List (List Zr)) × Int × (List Int)) → Option ((List (List Zr)) × (List Int)) := fun L (t1, i1, t2) =>
 bd ((if i1 < ((a0.length : Nat) : Int) then
 some ((a0, ((a0.length : Nat) : Int), true))
 else
 some ((a0, ((a0.length : Nat) : Int), false)) : Option ((List (List Zr)) × Int × Bool))) fun (t3, i2, b1) =>
 if b1 = true then
 ckI i1 (t3.length) fun j1 =>
 nm (t3.getD j1 []) fun y1 =>
 bd (M_slices_Contains_int_int_io fu t2 i1) fun (c1, t4) =>
 if ((!c1)) = true then
 ck ((t1.length + ([y1]).length) * 24 ≤ 140737488355328) <|
 nm (t1 ++ ([y1])) fun t5 =>
 ck64 (i1 + ((1 : Int))) fun x1 =>
 L (t5, x1, t4)
 else
 ck64 (i1 + ((1 : Int))) fun x2 =>
 L (t1, x2, t4)
 else
 some (t1, t2)
def M_zfac_without_api_Int_io (fu : Nat) (a0 : List (List Zr)) (a1 : List Int) : Option ((List (List Zr)) × (List Int)) :=
 bd (loopN (B_zfac_without_api_Int_io_0 fu a0) fu (([], (0 : Int), a1))) fun (t6, t7) =>
 some (t6, t7)
def B_zfac_chosen_2 (fu : Nat) (b : (Bool × List Nat)) (ys : List Int) (y : List (Bool × List Nat) × List (List (Bool × List Nat)) × List (List (Bool × List Nat))) : Option (List Int × ((List (Bool × List Nat) × List (List (Bool × List Nat)) × List (List (Bool × List Nat))) ⊕ (List (Bool × List Nat) × List (List (Bool × List Nat)) × List (List (Bool × List Nat))))) :=
 bd (M_zfac_candidate_io fu y.1 y.2.1 ys b) fun c =>
 bd (M_zpoly_Div fu y.1 c.1) fun q =>
 if q.2 = 0 then
  if 1 < (c.1.length : Int) then
   ck ((y.2.2.length + 1) * 24 ≤ 140737488355328) <|
   nm (y.2.2 ++ [c.1]) fun pr =>
   bd (M_zfac_without_api_Int_io fu y.2.1 c.2) fun w =>
   some (w.2, .inr (q.1, w.1, pr))
  else some (c.2, .inl y)
 else some (c.2, .inl y)
def B_zfac_chosen_1 (fu : Nat) (b : (Bool × List Nat)) (x : List (Bool × List Nat) × List (List (Bool × List Nat)) × List (List (Bool × List Nat)) × Int) (L : List (Bool × List Nat) × List (List (Bool × List Nat)) × List (List (Bool × List Nat)) × Int → Option (List (Bool × List Nat) × List (List (Bool × List Nat)) × List (List (Bool × List Nat)))) : Option (List (Bool × List Nat) × List (List (Bool × List Nat)) × List (List (Bool × List Nat))) :=
 ck64 (2 * x.2.2.2) fun d =>
 if d ≤ (x.2.1.length : Int) then
  bd (M_zfac_choices_1 fu x.2.2.2 (x.2.1.length : Int) (B_zfac_chosen_2 fu b) (x.1, x.2.1, x.2.2.1)) fun r => Sum.elim
   (fun y => ck64 (x.2.2.2 + 1) fun i => L (y.1, y.2.1, y.2.2, i))
   (fun y => L (y.1, y.2.1, y.2.2, x.2.2.2)) r
 else some (x.1, x.2.1, x.2.2.1)
def M_zfac_chosen (fu : Nat) (f : List (Bool × List Nat)) (a : List (List (Bool × List Nat))) (b : (Bool × List Nat)) : Option (List (List (Bool × List Nat))) :=
 bd (loopN (fun L x => B_zfac_chosen_1 fu b x L) fu (f, a, [], 1)) fun x =>
 if 1 < (x.1.length : Int) then
  bd (M_zpoly_Prim fu x.1) fun q =>
  ck ((x.2.2.length + 1) * 24 ≤ 140737488355328) <|
  nm (x.2.2 ++ [q]) fun pr => some pr
 else some x.2.2
def B_zpoly_Less_0 (fu : Nat) (t1 : List Zr) (t2 : List Zr) : (Int → Option (Unit ⊕ Bool)) → Int → Option (Unit ⊕ Bool) := fun L i1 =>
 if (0 : Int) ≤ i1 then
 ckI i1 (t1.length) fun j1 =>
 nm ((t1.getD j1 (false, []))) fun y1 =>
 ckI i1 (t2.length) fun j2 =>
 nm ((t2.getD j2 (false, []))) fun y2 =>
 bd (M_zint_Cmp fu y1 y2) fun x2 =>
 if x2 = (0 : Int) then
 ck64 (i1 - ((1 : Int))) fun x3 =>
 L x3
 else
 if x2 < (0 : Int) then
 some (.inr true)
 else
 some (.inr false)
 else
 some (.inl ())
def M_zpoly_Less (fu : Nat) (a0 : List Zr) (a1 : List Zr) : Option Bool :=
 bd (M_zpoly_Norm fu a0) fun t1 =>
 bd (M_zpoly_Norm fu a1) fun t2 =>
 if ((t1.length : Nat) : Int) = ((t2.length : Nat) : Int) then
 ck64 ((((t1.length : Nat) : Int)) - ((1 : Int))) fun x1 =>
 bd (loopN (B_zpoly_Less_0 fu t1 t2) fu x1) fun s1 => match s1 with
 | .inl _ =>
 some false
 | .inr b1 =>
 some b1
 else
 if ((t1.length : Nat) : Int) < ((t2.length : Nat) : Int) then
 some true
 else
 some false
def M_zfac_compare (fu : Nat) (a0 : List Zr) (a1 : List Zr) : Option Int :=
 bd (M_zpoly_Less fu a0 a1) fun c1 =>
 if c1 = true then
 some (-1 : Int)
 else
 bd (M_zpoly_Less fu a1 a0) fun c2 =>
 if c2 = true then
 some (1 : Int)
 else
 some (0 : Int)
def B_zint_Root_1 (fu : Nat) (a1 : Int) (y4 : Zr) : ((Int × Zr × Int × Zr) → Option (Int × Zr × Zr)) → (Int × Zr × Int × Zr) → Option (Int × Zr × Zr) := fun L (i1, t6, i2, t7) =>
 if i2 < a1 then
 bd (M_zint_Mul fu t7 y4) fun y6 =>
 ck64 (i2 + ((1 : Int))) fun x8 =>
 L (i1, t6, x8, y6)
 else
 some (i1, t6, t7)
def B_zint_Root_0 (fu : Nat) (a0 : Zr) (a1 : Int) : ((Zr × Zr × Zr) → Option Zr) → (Zr × Zr × Zr) → Option Zr := fun L (t2, t3, t4) =>
 bd (M_zint_Add fu t3 t4) fun y3 =>
 bd (M_nat_Shr fu y3.2 (1 : Int)) fun t5 =>
 bd (M_zint_made fu false t5) fun y4 =>
 bd (M_zint_Cmp fu y4 t3) fun x7 =>
 if x7 = (0 : Int) then
 some t3
 else
 bd (M_zint_Of fu (1 : Int)) fun y5 =>
 bd (loopN (B_zint_Root_1 fu a1 y4) fu ((a1, a0, (0 : Int), y5))) fun (i3, t8, t9) =>
 bd (M_zint_Cmp fu t9 t8) fun x9 =>
 if x9 ≤ (0 : Int) then
 L (t2, y4, t4)
 else
 L (t2, t3, y4)
def M_zint_Root (fu : Nat) (a0 : Zr) (a1 : Int) : Option (Zr × Int) :=
 if a1 < (1 : Int) then
 some (((false, []), (1 : Int)))
 else
 if (64 : Int) < a1 then
 some (((false, []), (1 : Int)))
 else
 bd (M_zint_Sign fu a0) fun x1 =>
 if x1 < (0 : Int) then
 some (((false, []), (1 : Int)))
 else
 bd (M_zint_Of fu (0 : Int)) fun y1 =>
 bd (M_nat_Bits fu a0.2) fun x2 =>
 ck (a1 ≠ 0) <|
 ck64 (Int.tdiv x2 a1) fun x3 =>
 ck64 (x3 + ((1 : Int))) fun x4 =>
 nm (min x4 ((262144 : Int))) fun x5 =>
 bd (M_nat_Shl fu [(1 : Nat)] x5) fun (t1, x6) =>
 bd (M_zint_made fu false t1) fun y2 =>
 bd (loopN (B_zint_Root_0 fu a0 a1) fu (((false, []), y1, y2))) fun t10 =>
 some ((t10, (0 : Int)))
def M_zsqf_wrong (fu : Nat) (a0 : List Zr) : Option Int :=
 bd (M_zpoly_Norm fu a0) fun t1 =>
 if ((t1.length : Nat) : Int) = (0 : Int) then
 some (8 : Int)
 else
 if (65 : Int) < ((t1.length : Nat) : Int) then
 some (6 : Int)
 else
 some (0 : Int)
def B_zsqf_Bound_0 (fu : Nat) (t1 : List Zr) : ((Int × (List Zr) × Zr × Zr) → Option ((List Zr) × Zr × Zr)) → (Int × (List Zr) × Zr × Zr) → Option ((List Zr) × Zr × Zr) := fun L (i1, t2, t3, t4) =>
 bd ((if i1 < ((t1.length : Nat) : Int) then
 some ((((t1.length : Nat) : Int), true))
 else
 some ((((t1.length : Nat) : Int), false)) : Option (Int × Bool))) fun (i2, b1) =>
 if b1 = true then
 ckI i1 (t2.length) fun j1 =>
 nm ((t2.getD j1 (false, []))) fun y2 =>
 bd (M_zint_Mul fu y2 y2) fun y3 =>
 bd (M_zint_Add fu t4 y3) fun y4 =>
 ck64 (i1 + ((1 : Int))) fun x2 =>
 L (x2, t2, t3, y4)
 else
 some (t2, t3, t4)
def M_zsqf_Bound (fu : Nat) (a0 : List Zr) : Option (Zr × Int) :=
 bd (M_zsqf_wrong fu a0) fun x1 =>
 if x1 = (0 : Int) then
 bd (M_zpoly_Norm fu a0) fun t1 =>
 bd (M_zint_Of fu (-1 : Int)) fun y1 =>
 bd (loopN (B_zsqf_Bound_0 fu t1) fu (((0 : Int), t1, (false, []), y1))) fun (t5, t6, t7) =>
 bd (M_zint_Root fu t7 (2 : Int)) fun (y5, x3) =>
 bd (M_zint_Of fu (1 : Int)) fun y6 =>
 bd (M_zint_Add fu y5 y6) fun y7 =>
 ck64 ((((t5.length : Nat) : Int)) - ((1 : Int))) fun x4 =>
 bd (M_nat_Shl fu y7.2 x4) fun (t8, x5) =>
 bd (M_zint_Norm fu (false, t8)) fun y8 =>
 some ((y8, (0 : Int)))
 else
 some (((false, []), x1))
def B_zfac_enough_0 (fu : Nat) (a1 : Int) (y5 : Zr) : ((Int × Zr) → Option Int) → (Int × Zr) → Option Int := fun L (i1, t1) =>
 bd (M_zint_Cmp fu t1 y5) fun x3 =>
 if x3 ≤ (0 : Int) then
 bd (M_zint_Of fu a1) fun y7 =>
 bd (M_zint_Mul fu t1 y7) fun y8 =>
 ck64 (i1 + ((1 : Int))) fun x4 =>
 L (x4, y8)
 else
 some i1
def M_zfac_enough (fu : Nat) (a0 : List Zr) (a1 : Int) : Option Int :=
 bd (M_zsqf_Bound fu a0) fun (y1, x1) =>
 bd (M_zint_Of fu (2 : Int)) fun y2 =>
 ck64 ((((a0.length : Nat) : Int)) - ((1 : Int))) fun x2 =>
 ckI x2 (a0.length) fun j1 =>
 nm (a0.getD j1 (false, [])) fun y3 =>
 bd (M_zint_Mul fu y1 y3) fun y4 =>
 bd (M_zint_Mul fu y2 y4) fun y5 =>
 bd (M_zint_Of fu a1) fun y6 =>
 bd (loopN (B_zfac_enough_0 fu a1 y5) fu (((1 : Int), y6))) fun i2 =>
 some i2
def M_zfac_great (fu : Nat) (a0 : List Zr) : Option Bool :=
 bd (M_zsqf_Bound fu a0) fun (y1, x1) =>
 bd (M_zint_Of fu (2 : Int)) fun y2 =>
 ck64 ((((a0.length : Nat) : Int)) - ((1 : Int))) fun x2 =>
 ckI x2 (a0.length) fun j1 =>
 nm (a0.getD j1 (false, [])) fun y3 =>
 bd (M_zint_Mul fu y1 y3) fun y4 =>
 bd (M_zint_Mul fu y2 y4) fun y5 =>
 bd (M_nat_Bits fu y5.2) fun x3 =>
 if (1000 : Int) < x3 then
 some true
 else
 some false
def B_ffac_compare_0 (fu : Nat) (a0 : List Int) (a1 : List Int) : (Int → Option (Unit ⊕ Int)) → Int → Option (Unit ⊕ Int) := fun L i1 =>
 if (0 : Int) ≤ i1 then
 ckI i1 (a0.length) fun j1 =>
 nm (a0.getD j1 0) fun y1 =>
 ckI i1 (a1.length) fun j2 =>
 nm (a1.getD j2 0) fun y2 =>
 if y1 < y2 then
 some (.inr (-1 : Int))
 else
 ckI i1 (a0.length) fun j3 =>
 nm (a0.getD j3 0) fun y3 =>
 ckI i1 (a1.length) fun j4 =>
 nm (a1.getD j4 0) fun y4 =>
 if y4 < y3 then
 some (.inr (1 : Int))
 else
 ck64 (i1 - ((1 : Int))) fun x2 =>
 L x2
 else
 some (.inl ())
def M_ffac_compare (fu : Nat) (a0 : List Int) (a1 : List Int) : Option Int :=
 if ((a0.length : Nat) : Int) = ((a1.length : Nat) : Int) then
 ck64 ((((a0.length : Nat) : Int)) - ((1 : Int))) fun x1 =>
 bd (loopN (B_ffac_compare_0 fu a0 a1) fu x1) fun s1 => match s1 with
 | .inl _ =>
 some (0 : Int)
 | .inr i2 =>
 some i2
 else
 ck64 ((((a0.length : Nat) : Int)) - (((a1.length : Nat) : Int))) fun x3 =>
 some x3
def M_flin_Echelon_1 (fu : Nat) (a0 : List Int) (a1 : Int) : Option Bool :=
 ckI a1 (a0.length) fun j1 =>
 nm (a0.getD j1 0) fun y1 =>
 if y1 = (0 : Int) then
 some false
 else
 some true
def B_flin_plain_0 (fu : Nat) (a0 : List Int) (a1 : Int) : ((Int × (List Int)) → Option (List Int)) → (Int × (List Int)) → Option (List Int) := fun L (i1, t2) =>
 if i1 < ((a0.length : Nat) : Int) then
 ckI i1 (a0.length) fun j2 =>
 nm (a0.getD j2 0) fun y1 =>
 bd (M_fp_Red fu y1 a1) fun x1 =>
 ckI i1 (t2.length) fun j3 =>
 nm (t2.set j3 x1) fun t3 =>
 ck64 (i1 + ((1 : Int))) fun x2 =>
 L (x2, t3)
 else
 some t2
def M_flin_plain (fu : Nat) (a0 : List Int) (a1 : Int) : Option (List Int) :=
 ckN (((a0.length : Nat) : Int)) fun j1 =>
 ck (8 * j1 ≤ 281474976710656) <|
 nm (List.replicate j1 0) fun t1 =>
 bd (loopN (B_flin_plain_0 fu a0 a1) fu (((0 : Int), t1))) fun t4 =>
 some t4
def B_flin_right_0 (fu : Nat) (a0 : List (List Int)) : (Int → Option (Unit ⊕ Unit)) → Int → Option (Unit ⊕ Unit) := fun L i1 =>
 bd ((if i1 < ((a0.length : Nat) : Int) then
 some ((a0, a0, ((a0.length : Nat) : Int), true))
 else
 some ((a0, a0, ((a0.length : Nat) : Int), false)) : Option ((List (List Int)) × (List (List Int)) × Int × Bool))) fun (t1, t2, i2, b1) =>
 if b1 = true then
 ckI i1 (t2.length) fun j1 =>
 nm (t2.getD j1 []) fun y1 =>
 if (64 : Int) < ((y1.length : Nat) : Int) then
 some (.inr ())
 else
 ckI ((0 : Int)) (t1.length) fun j2 =>
 nm (t1.getD j2 []) fun y2 =>
 if ((y1.length : Nat) : Int) = ((y2.length : Nat) : Int) then
 ck64 (i1 + ((1 : Int))) fun x2 =>
 L x2
 else
 some (.inr ())
 else
 some (.inl ())
def M_flin_right (fu : Nat) (a0 : List (List Int)) (a1 : Int) : Option Int :=
 bd (M_fp_Check fu a1) fun x1 =>
 if x1 = (0 : Int) then
 if (64 : Int) < ((a0.length : Nat) : Int) then
 some (1 : Int)
 else
 bd (loopN (B_flin_right_0 fu a0) fu (0 : Int)) fun s1 => match s1 with
 | .inl _ =>
 some (0 : Int)
 | .inr _ =>
 some (1 : Int)
 else
 some (1 : Int)
def M_flin_strike (fu : Nat) (xss : List (List Int)) (ix : List Nat) (r : Nat) (a p : Int) (lo n : Nat) : Option (List (List Int)) :=
 bd (loopN (fun L (x : ((List (List Int) × List Nat) × Nat × Nat) × (Nat × Nat) × Nat × Int) =>
  if x.2.2.2 < (n : Int) then
   ckI x.2.2.2 x.2.1.2 fun j =>
   nm (x.1.1.2.getD (x.2.1.1 + j) 0) fun q =>
   ckI a (x.1.1.1.getD q []).length fun j =>
   nm ((x.1.1.1.getD q []).getD j 0) fun y =>
   bd (loopN (fun L (z : ((List (List Int) × List Nat) × Nat × Nat) × (Nat × Nat) × Nat × Nat × Nat × Int) =>
    if z.2.2.2.2.2 < ((x.1.1.1.getD x.2.2.1 []).length : Int) then
     ckI z.2.2.2.2.2 (z.1.1.1.getD z.2.2.2.1 []).length fun j =>
     nm ((z.1.1.1.getD z.2.2.2.1 []).getD j 0) fun v =>
     ckI z.2.2.2.2.2 (z.1.1.1.getD z.2.2.2.2.1 []).length fun j =>
     nm ((z.1.1.1.getD z.2.2.2.2.1 []).getD j 0) fun u =>
     ck64 (p - y) fun e =>
     ck64 (e * v) fun e =>
     ck64 (u + e) fun e =>
     ck (p ≠ 0) <|
     nm (Int.tmod e p) fun e =>
     ckI z.2.2.2.2.2 (z.1.1.1.getD z.2.2.2.2.1 []).length fun j =>
     nm (z.1.1.1.set z.2.2.2.2.1 ((z.1.1.1.getD z.2.2.2.2.1 []).set j e)) fun yss =>
     ck64 (z.2.2.2.2.2 + 1) fun i =>
     L (((yss, z.1.1.2), z.1.2), z.2.1, z.2.2.1, z.2.2.2.1, z.2.2.2.2.1, i)
    else some (z.1, z.2.1, z.2.2.1)) fu (x.1, x.2.1, x.2.2.1, x.2.2.1, q, 0)) fun z =>
   ck64 (x.2.2.2 + 1) fun i =>
   L (z.1, z.2.1, z.2.2, i)
  else some x.1) fu (((xss, ix), lo, n), (lo, n), r, 0)) fun x =>
 ck (x.2.1 = lo ∧ x.2.2 = n ∧ x.1.2 = ix) (some x.1.1)
def B_slices_IndexFunc_int_int_0 (fu : Nat) (a0 : List (List Int)) (a1 : (List Int) → Option Bool) : (Int → Option (Unit ⊕ Int)) → Int → Option (Unit ⊕ Int) := fun L i1 =>
 if i1 < ((a0.length : Nat) : Int) then
 ckI i1 (a0.length) fun j1 =>
 nm (a0.getD j1 []) fun y1 =>
 bd (a1 y1) fun c1 =>
 if c1 = true then
 some (.inr i1)
 else
 ck64 (i1 + ((1 : Int))) fun x1 =>
 L x1
 else
 some (.inl ())
def M_slices_IndexFunc_int_int (fu : Nat) (a0 : List (List Int)) (a1 : (List Int) → Option Bool) : Option Int :=
 bd (loopN (B_slices_IndexFunc_int_int_0 fu a0 a1) fu (0 : Int)) fun s1 => match s1 with
 | .inl _ =>
 some (-1 : Int)
 | .inr i2 =>
 some i2
def M_flin_Echelon (fu : Nat) (rows : List (List Int)) (p : Int) : Option (List (List Int) × Int) :=
 bd (M_flin_right fu rows p) fun e =>
 if e = 0 then
  bd (loopN (fun L (x : (List (List Int) × List Nat) × Int) =>
   if x.2 < (rows.length : Int) then
    ckI x.2 rows.length fun j =>
    nm (rows.getD j []) fun y =>
    bd (M_flin_plain fu y p) fun r =>
    ck ((x.1.2.length + 1) * 24 ≤ 140737488355328) <|
    nm (x.1.1 ++ [r]) fun zss =>
    nm (x.1.2 ++ [x.1.1.length]) fun iz =>
    ck64 (x.2 + 1) fun i => L ((zss, iz), i)
   else some x.1) fu (([], []), 0)) fun x =>
  bd (loopN (fun L (x : (List (List Int) × List Nat) × Int × Int) =>
   if x.2.1 < (x.1.2.length : Int) then
    ckI 0 x.1.2.length fun j =>
    nm (x.1.2.getD j 0) fun r =>
    if x.2.2 < ((x.1.1.getD r []).length : Int) then
     ckN x.2.1 fun j =>
     ck (j ≤ x.1.2.length) <|
     bd (M_slices_IndexFunc_int_int fu (List.take (x.1.2.length - j) (List.drop j (x.1.2.map fun r => x.1.1.getD r []))) fun z => M_flin_Echelon_1 fu z x.2.2) fun i =>
     if i < 0 then ck64 (x.2.2 + 1) fun c => L (x.1, x.2.1, c)
     else
      ck64 (x.2.1 + i) fun a =>
      ck64 (x.2.1 + i) fun b =>
      ckI b x.1.2.length fun j =>
      nm (x.1.2.getD j 0) fun r1 =>
      ckI x.2.1 x.1.2.length fun j =>
      nm (x.1.2.getD j 0) fun r2 =>
      ckI x.2.1 x.1.2.length fun j =>
      nm (x.1.2.set j r1) fun ix =>
      ckI a ix.length fun j =>
      nm (ix.set j r2) fun ix =>
      ckI x.2.1 ix.length fun j =>
      nm (ix.getD j 0) fun r =>
      ckI x.2.2 (x.1.1.getD r []).length fun j =>
      nm ((x.1.1.getD r []).getD j 0) fun y =>
      bd (M_fp_Inv fu y p) fun q =>
      ckI x.2.1 ix.length fun j =>
      nm (ix.getD j 0) fun r =>
      bd (loopN (fun L (z : (List (List Int) × List Nat) × Nat × Int) =>
       if z.2.2 < ((x.1.1.getD r []).length : Int) then
        ckI z.2.2 (z.1.1.getD z.2.1 []).length fun j =>
        nm ((z.1.1.getD z.2.1 []).getD j 0) fun y =>
        ckI x.2.1 z.1.2.length fun j =>
        nm (z.1.2.getD j 0) fun r =>
        ck64 (y * q.1) fun e =>
        ck (p ≠ 0) <|
        nm (Int.tmod e p) fun e =>
        ckI z.2.2 (z.1.1.getD r []).length fun j =>
        nm (z.1.1.set r ((z.1.1.getD r []).set j e)) fun yss =>
        ck64 (z.2.2 + 1) fun i => L ((yss, z.1.2), z.2.1, i)
       else some z.1) fu ((x.1.1, ix), r, 0)) fun m =>
      ckI x.2.1 m.2.length fun j =>
      nm (m.2.getD j 0) fun r =>
      ckN x.2.1 fun j =>
      ck (j ≤ m.2.length) <|
      bd (M_flin_strike fu m.1 m.2 r x.2.2 p 0 j) fun yss =>
      ckI x.2.1 m.2.length fun j =>
      nm (m.2.getD j 0) fun r =>
      ck64 (x.2.1 + 1) fun e =>
      ckN e fun j =>
      ck (j ≤ m.2.length) <|
      bd (M_flin_strike fu yss m.2 r x.2.2 p j (m.2.length - j)) fun yss =>
      ck64 (x.2.1 + 1) fun k =>
      ck64 (x.2.2 + 1) fun c => L ((yss, m.2), k, c)
    else some (x.1, x.2.1)
   else some (x.1, x.2.1)) fu (x, 0, 0)) fun x =>
  ckN x.2 fun j =>
  ck (j ≤ (x.1.2.map fun r => x.1.1.getD r []).length) <|
  nm (List.take j (x.1.2.map fun r => x.1.1.getD r [])) fun ys => some (ys, 0)
 else some ([], e)
def M_flin_lead_1 (fu : Nat) (a0 : Int) : Option Bool :=
 if a0 = (0 : Int) then
 some false
 else
 some true
def B_slices_IndexFunc_int_int_2_0 (fu : Nat) (a0 : List Int) (a1 : Int → Option Bool) : (Int → Option (Unit ⊕ Int)) → Int → Option (Unit ⊕ Int) := fun L i1 =>
 if i1 < ((a0.length : Nat) : Int) then
 ckI i1 (a0.length) fun j1 =>
 nm (a0.getD j1 0) fun y1 =>
 bd (a1 y1) fun c1 =>
 if c1 = true then
 some (.inr i1)
 else
 ck64 (i1 + ((1 : Int))) fun x1 =>
 L x1
 else
 some (.inl ())
def M_slices_IndexFunc_int_int_2 (fu : Nat) (a0 : List Int) (a1 : Int → Option Bool) : Option Int :=
 bd (loopN (B_slices_IndexFunc_int_int_2_0 fu a0 a1) fu (0 : Int)) fun s1 => match s1 with
 | .inl _ =>
 some (-1 : Int)
 | .inr i2 =>
 some i2
def M_flin_lead (fu : Nat) (a0 : List Int) : Option Int :=
 bd (M_slices_IndexFunc_int_int_2 fu a0 (fun zx0 => M_flin_lead_1 fu zx0)) fun x1 =>
 some x1
def M_flin_Null_1 (fu : Nat) (a0 : List Int) (a1 : Int) : Option Bool :=
 bd (M_flin_lead fu a0) fun x1 =>
 if x1 = a1 then
 some true
 else
 some false
def M_slices_ContainsFunc_int_int (fu : Nat) (a0 : List (List Int)) (a1 : (List Int) → Option Bool) : Option Bool :=
 bd (M_slices_IndexFunc_int_int fu a0 a1) fun x1 =>
 if (0 : Int) ≤ x1 then
 some true
 else
 some false
def B_flin_Null_1 (fu : Nat) (i1 : Int) (i2 : Int) (i3 : Int) (t3 : List (List Int)) (i4 : Int) : ((Int × (List (List Int)) × (List Int)) → Option ((List (List Int)) × (List Int))) → (Int × (List (List Int)) × (List Int)) → Option ((List (List Int)) × (List Int)) := fun L (i5, t6, t7) =>
 bd ((if i5 < ((t3.length : Nat) : Int) then
 some ((i2, i3, t3, i1, i4, i1, t3, ((t3.length : Nat) : Int), true))
 else
 some ((i2, i3, t3, i1, i4, i1, t3, ((t3.length : Nat) : Int), false)) : Option (Int × Int × (List (List Int)) × Int × Int × Int × (List (List Int)) × Int × Bool))) fun (i6, i7, t8, t9, i8, i9, t10, i10, b2) =>
 if b2 = true then
 ckI i5 (t10.length) fun j4 =>
 nm (t10.getD j4 []) fun y2 =>
 bd (M_flin_lead fu y2) fun x4 =>
 ckI t9 (y2.length) fun j5 =>
 nm (y2.getD j5 0) fun y3 =>
 ck64 (0 - y3) fun x5 =>
 bd (M_fp_Red fu x5 i7) fun x6 =>
 ckI x4 (t7.length) fun j6 =>
 nm (t7.set j6 x6) fun t11 =>
 ck64 (i5 + ((1 : Int))) fun x7 =>
 L (x7, t6, t11)
 else
 some (t6, t7)
def B_flin_Null_0 (fu : Nat) (a1 : Int) (a2 : Int) (t1 : List (List Int)) : (((List (List Int)) × Int) → Option (List (List Int))) → ((List (List Int)) × Int) → Option (List (List Int)) := fun L (t2, i1) =>
 bd ((if i1 < a1 then
 some (a1, a2, t1, a1, true)
 else
 some (a1, a2, t1, a1, false) : Option (Int × Int × (List (List Int)) × Int × Bool))) fun (i2, i3, t3, i4, b1) =>
 if b1 = true then
 bd (M_slices_ContainsFunc_int_int fu t3 (fun zx0 => M_flin_Null_1 fu zx0 i1)) fun c1 =>
 if c1 = true then
 ck64 (i1 + ((1 : Int))) fun x3 =>
 L (t2, x3)
 else
 ckN i2 fun j2 =>
 ck (8 * j2 ≤ 281474976710656) <|
 nm (List.replicate j2 0) fun t4 =>
 ckI i1 (t4.length) fun j3 =>
 nm (t4.set j3 (1 : Int)) fun t5 =>
 bd (loopN (B_flin_Null_1 fu i1 i2 i3 t3 i4) fu (((0 : Int), t2, t5))) fun (t12, t13) =>
 ck ((t12.length + ([t13]).length) * 24 ≤ 140737488355328) <|
 nm (t12 ++ ([t13])) fun t14 =>
 ck64 (i1 + ((1 : Int))) fun x8 =>
 L (t14, x8)
 else
 some t2
def M_flin_Null (fu : Nat) (a0 : List (List Int)) (a1 : Int) (a2 : Int) : Option ((List (List Int)) × Int) :=
 bd ((bd (M_flin_right fu a0 a2) fun x1 =>
 if x1 = (0 : Int) then
 if a1 < (0 : Int) then
 some (.inr ())
 else
 if (64 : Int) < a1 then
 some (.inr ())
 else
 if (0 : Int) < ((a0.length : Nat) : Int) then
 ckI ((0 : Int)) (a0.length) fun j1 =>
 nm (a0.getD j1 []) fun y1 =>
 if ((y1.length : Nat) : Int) = a1 then
 some (.inl ())
 else
 some (.inr ())
 else
 some (.inl ())
 else
 some (.inr ()) : Option (Unit ⊕ Unit))) fun s1 => match s1 with
 | .inl _ =>
 bd (M_flin_Echelon fu a0 a2) fun (t1, x2) =>
 bd (loopN (B_flin_Null_0 fu a1 a2 t1) fu (([], (0 : Int)))) fun t15 =>
 some ((t15, (0 : Int)))
 | .inr _ =>
 some (([], (1 : Int)))
def M_fpoly_Div (fu : Nat) (a0 : List Int) (a1 : List Int) (a2 : Int) : Option ((List Int) × (List Int) × Int) :=
 bd (M_fp_Check fu a2) fun x1 =>
 if x1 = (0 : Int) then
 bd (M_fpoly_plain fu a1 a2) fun t1 =>
 if ((t1.length : Nat) : Int) = (0 : Int) then
 some (([], [], (3 : Int)))
 else
 bd (M_fpoly_plain fu a0 a2) fun t2 =>
 bd (M_fpoly_divided fu t2 t1 a2) fun (t3, t4) =>
 some ((t3, t4, (0 : Int)))
 else
 some ([], [], x1)
def B_fpoly_PowMod_0 (fu : Nat) (a1 : Zr) (a3 : Int) (t1 : List Int) : (((List Int) × (List Int) × Int) → Option (List Int)) → ((List Int) × (List Int) × Int) → Option (List Int) := fun L (t7, t8, i1) =>
 if (0 : Int) ≤ i1 then
 bd (M_fpoly_product fu t7 t7 a3) fun t9 =>
 bd (M_fpoly_divided fu t9 t1 a3) fun (t10, t11) =>
 ck ((64 : Int) ≠ 0) <|
 ck64 (Int.tdiv i1 ((64 : Int))) fun x5 =>
 ckI x5 (a1.2.length) fun j1 =>
 nm (a1.2.getD j1 0) fun y1 =>
 ck ((64 : Int) ≠ 0) <|
 nm (Int.tmod i1 ((64 : Int))) fun x6 =>
 ck (0 ≤ x6) <|
 nm (y1 / 2 ^ (min (x6 : Int).toNat 64)) fun m1 =>
 nm (m1 &&& ((1 : Nat))) fun m2 =>
 if ((m2 : Nat) : Int) = (((1 : Nat) : Nat) : Int) then
 bd (M_fpoly_product fu t11 t8 a3) fun t12 =>
 bd (M_fpoly_divided fu t12 t1 a3) fun (t13, t14) =>
 ck64 (i1 - ((1 : Int))) fun x7 =>
 L (t14, t8, x7)
 else
 ck64 (i1 - ((1 : Int))) fun x8 =>
 L (t11, t8, x8)
 else
 some t7
def M_fpoly_PowMod (fu : Nat) (a0 : List Int) (a1 : Zr) (a2 : List Int) (a3 : Int) : Option ((List Int) × Int) :=
 bd (M_fp_Check fu a3) fun x1 =>
 if x1 = (0 : Int) then
 bd (M_zint_Sign fu a1) fun x2 =>
 if x2 < (0 : Int) then
 some (([], (1 : Int)))
 else
 bd (M_fpoly_plain fu a2 a3) fun t1 =>
 if ((t1.length : Nat) : Int) = (0 : Int) then
 some (([], (3 : Int)))
 else
 bd (M_fpoly_divided fu [(1 : Int)] t1 a3) fun (t2, t3) =>
 bd (M_fpoly_plain fu a0 a3) fun t4 =>
 bd (M_fpoly_divided fu t4 t1 a3) fun (t5, t6) =>
 bd (M_nat_Bits fu a1.2) fun x3 =>
 ck64 (x3 - ((1 : Int))) fun x4 =>
 bd (loopN (B_fpoly_PowMod_0 fu a1 a3 t1) fu (t3, t6, x4)) fun t15 =>
 some ((t15, (0 : Int)))
 else
 some (([], (1 : Int)))
def M_ffac_fixed (fu : Nat) (f : List Int) (p : Int) : Option (List (List Int)) :=
 ck64 ((f.length : Int) - 1) fun n =>
 ckN n fun m =>
 ck (24 * m ≤ 281474976710656) <|
 nm (List.replicate m 0) fun ix =>
 bd (loopN (fun L (x : (List (List Int) × List Nat) × Int) =>
  if x.2 < (ix.length : Int) then
   ckN n fun m =>
   ck (8 * m ≤ 281474976710656) <|
   nm (List.replicate m 0) fun ys =>
   ckI x.2 x.1.2.length fun j =>
   nm (x.1.1 ++ [ys]) fun xss =>
   nm (x.1.2.set j x.1.1.length) fun ix =>
   ck64 (x.2 + 1) fun i => L ((xss, ix), i)
  else some x.1) fu (([[]], ix), 0)) fun x =>
 bd (M_zint_Of fu p) fun z =>
 bd (M_fpoly_PowMod fu [0, 1] z f p) fun q =>
 bd (loopN (fun L (x : (List (List Int) × List Nat) × List Int × List Int × Int) =>
  if x.2.2.2 < n then
   bd (loopN (fun L (y : (List (List Int) × List Nat) × Int) =>
    if y.2 < (x.2.1.length : Int) then
     ckI y.2 x.2.1.length fun j =>
     nm (x.2.1.getD j 0) fun v =>
     ckI y.2 y.1.2.length fun j =>
     nm (y.1.2.getD j 0) fun r =>
     ckI x.2.2.2 (y.1.1.getD r []).length fun j =>
     nm (y.1.1.set r ((y.1.1.getD r []).set j v)) fun yss =>
     ck64 (y.2 + 1) fun i => L ((yss, y.1.2), i)
    else some y.1) fu (x.1, 0)) fun y =>
   ckI x.2.2.2 y.2.length fun j =>
   nm (y.2.getD j 0) fun r =>
   ckI x.2.2.2 (y.1.getD r []).length fun j =>
   nm ((y.1.getD r []).getD j 0) fun v =>
   ck64 (v - 1) fun e =>
   ckI x.2.2.2 (y.1.getD r []).length fun j =>
   nm (y.1.set r ((y.1.getD r []).set j e)) fun yss =>
   bd (M_fpoly_Mul fu x.2.1 x.2.2.1 p) fun u =>
   bd (M_fpoly_Div fu u.1 f p) fun w =>
   ck64 (x.2.2.2 + 1) fun i => L ((yss, y.2), w.2.1, x.2.2.1, i)
  else some x.1) fu (x, [1], q.1, 0)) fun x =>
 bd (M_flin_Null fu (x.2.map fun r => x.1.getD r []) n p) fun r => some r.1
def M_ffac_by (fu : Nat) (a0 : List Int) (a1 : List Int) (a2 : Int) : Option (List Int) :=
 bd (M_fpoly_Div fu a0 a1 a2) fun (t1, t2, x1) =>
 some t1
def M_ffac_gcd (fu : Nat) (a0 : List Int) (a1 : List Int) (a2 : Int) : Option (List Int) :=
 bd (M_fpoly_Gcd fu a0 a1 a2) fun (t1, x1) =>
 some t1
def M_ffac_parted_1 (fu : Nat) (a0 : Int) (a1 : List Int) (a2 : Int) : Option Int :=
 if a0 < ((a1.length : Nat) : Int) then
 ckI a0 (a1.length) fun j1 =>
 nm (a1.getD j1 0) fun y1 =>
 bd (M_fp_Red fu y1 a2) fun x1 =>
 some x1
 else
 ck64 (a0 - (((a1.length : Nat) : Int))) fun x2 =>
 some x2
def M_fpoly_Add (fu : Nat) (a0 : List Int) (a1 : List Int) (a2 : Int) : Option ((List Int) × Int) :=
 bd (M_fp_Check fu a2) fun x1 =>
 if x1 = (0 : Int) then
 bd (M_fpoly_plain fu a0 a2) fun t1 =>
 bd (M_fpoly_plain fu a1 a2) fun t2 =>
 bd (M_fpoly_sum fu t1 t2 (1 : Int) a2) fun t3 =>
 some ((t3, (0 : Int)))
 else
 some ([], x1)
def M_ffac_trial (fu : Nat) (a0 : List Int) (a1 : Int) (a2 : List Int) (a3 : Int) : Option (List Int) :=
 bd (M_fpoly_Add fu a0 [a1] a3) fun (t1, x1) =>
 if (2 : Int) < a3 then
 ck64 (a3 - ((1 : Int))) fun x2 =>
 ck ((2 : Int) ≠ 0) <|
 ck64 (Int.tdiv x2 ((2 : Int))) fun x3 =>
 bd (M_zint_Of fu x3) fun y1 =>
 bd (M_fpoly_PowMod fu t1 y1 a2 a3) fun (t2, x4) =>
 bd (M_fpoly_Sub fu t2 [(1 : Int)] a3) fun (t3, x5) =>
 some t3
 else
 some t1
def B_ffac_parted_2 (fu : Nat) (a2 : Int) (a3 : List Int) (t3 : List (List Int)) (t4 : Int) (t5 : List Int) (i2 : Int) (i3 : Int) (t7 : List (List Int)) (i4 : Int) (y1 : List Int) : (((List (List Int)) × Int) → Option ((List (List Int)) ⊕ (List (List Int)))) → ((List (List Int)) × Int) → Option ((List (List Int)) ⊕ (List (List Int))) := fun L (t8, i5) =>
 if i5 < ((t8.length : Nat) : Int) then
 if ((t8.length : Nat) : Int) = ((t3.length : Nat) : Int) then
 some (.inl t8)
 else
 bd (M_ffac_parted_1 fu i3 a3 a2) fun x2 =>
 ckI i5 (t8.length) fun j3 =>
 nm ((t8.getD j3 [])) fun t9 =>
 bd (M_ffac_trial fu y1 x2 t9 t4) fun t10 =>
 ckI i5 (t8.length) fun j4 =>
 nm ((t8.getD j4 [])) fun t11 =>
 bd (M_ffac_gcd fu t10 t11 t4) fun t12 =>
 bd ((if (1 : Int) < ((t12.length : Nat) : Int) then
 ckI i5 (t8.length) fun j5 =>
 nm ((t8.getD j5 [])) fun t13 =>
 if ((t12.length : Nat) : Int) < ((t13.length : Nat) : Int) then
 some (t3, t4, t5, i3, y1, t7, i4, i2, true)
 else
 some (t3, t4, t5, i3, y1, t7, i4, i2, false)
 else
 some (t3, t4, t5, i3, y1, t7, i4, i2, false) : Option ((List (List Int)) × Int × (List Int) × Int × (List Int) × (List (List Int)) × Int × Int × Bool))) fun (t14, t15, t16, i6, t17, t18, i7, i8, b2) =>
 if b2 = true then
 ckI i5 (t8.length) fun j6 =>
 nm ((t8.getD j6 [])) fun t19 =>
 bd (M_ffac_by fu t19 t12 t15) fun t20 =>
 ck ((t8.length + ([t20]).length) * 24 ≤ 140737488355328) <|
 nm (t8 ++ ([t20])) fun t21 =>
 ckI i5 (t21.length) fun j7 =>
 nm (t21.set j7 t12) fun t22 =>
 ck64 (i5 + ((1 : Int))) fun x3 =>
 L (t22, x3)
 else
 ck64 (i5 + ((1 : Int))) fun x4 =>
 L (t8, x4)
 else
 some (.inr t8)
def B_ffac_parted_1 (fu : Nat) (a2 : Int) (a3 : List Int) (i1 : Int) (t2 : List (List Int)) : (((List (List Int)) × Int × (List Int) × (List (List Int)) × Int) → Option ((List (List Int)) ⊕ ((List (List Int)) × Int × (List Int) × (List (List Int))))) → ((List (List Int)) × Int × (List Int) × (List (List Int)) × Int) → Option ((List (List Int)) ⊕ ((List (List Int)) × Int × (List Int) × (List (List Int)))) := fun L (t3, t4, t5, t6, i2) =>
 bd ((if i2 < ((t2.length : Nat) : Int) then
 some ((i1, t2, ((t2.length : Nat) : Int), true))
 else
 some ((i1, t2, ((t2.length : Nat) : Int), false)) : Option (Int × (List (List Int)) × Int × Bool))) fun (i3, t7, i4, b1) =>
 if b1 = true then
 ckI i2 (t7.length) fun j2 =>
 nm (t7.getD j2 []) fun y1 =>
 bd (loopN (B_ffac_parted_2 fu a2 a3 t3 t4 t5 i2 i3 t7 i4 y1) fu ((t6, (0 : Int)))) fun s1 => match s1 with
 | .inl t23 =>
 some (.inl t23)
 | .inr t24 =>
 ck64 (i2 + ((1 : Int))) fun x5 =>
 L (t3, t4, t5, t24, x5)
 else
 some (.inr (t3, t4, t5, t6))
def B_ffac_parted_0 (fu : Nat) (a1 : List (List Int)) (a2 : Int) (a3 : List Int) : (((List (List Int)) × Int) → Option (List (List Int))) → ((List (List Int)) × Int) → Option (List (List Int)) := fun L (t1, i1) =>
 ck64 (a2 + (((a3.length : Nat) : Int))) fun x1 =>
 if i1 < x1 then
 ckN ((1 : Int)) fun j1 =>
 ck (j1 ≤ a1.length) <|
 nm (a1.drop j1) fun t2 =>
 bd (loopN (B_ffac_parted_1 fu a2 a3 i1 t2) fu ((a1, a2, a3, t1, (0 : Int)))) fun s2 => match s2 with
 | .inl t25 =>
 some t25
 | .inr (t26, t27, t28, t29) =>
 ck64 (i1 + ((1 : Int))) fun x6 =>
 L (t29, x6)
 else
 some t1
def M_ffac_parted (fu : Nat) (a0 : List Int) (a1 : List (List Int)) (a2 : Int) (a3 : List Int) : Option (List (List Int)) :=
 bd (loopN (B_ffac_parted_0 fu a1 a2 a3) fu (([a0], (0 : Int)))) fun t30 =>
 some t30
def M_fpoly_Monic (fu : Nat) (a0 : List Int) (a1 : Int) : Option ((List Int) × Int) :=
 bd (M_fp_Check fu a1) fun x1 =>
 if x1 = (0 : Int) then
 bd (M_fpoly_plain fu a0 a1) fun t1 =>
 if ((t1.length : Nat) : Int) = (0 : Int) then
 some (([], (0 : Int)))
 else
 ck64 ((((t1.length : Nat) : Int)) - ((1 : Int))) fun x2 =>
 ckI x2 (t1.length) fun j1 =>
 nm ((t1.getD j1 0)) fun x3 =>
 bd (M_fpoly_scaled fu t1 x3 a1) fun t2 =>
 some ((t2, (0 : Int)))
 else
 some ([], x1)
def M_ffac_monic (fu : Nat) (a0 : List Int) (a1 : Int) : Option ((List Int) × Int) :=
 bd (M_fpoly_Monic fu a0 a1) fun (t1, x1) =>
 if x1 = (0 : Int) then
 if ((t1.length : Nat) : Int) = (0 : Int) then
 some (([], (8 : Int)))
 else
 if (65 : Int) < ((t1.length : Nat) : Int) then
 some (([], (6 : Int)))
 else
 some ((t1, (0 : Int)))
 else
 some ([], x1)
def B_fpoly_Deriv_0 (fu : Nat) (a1 : Int) (t1 : List Int) : (((List Int) × Int × (List Int)) → Option (List Int)) → ((List Int) × Int × (List Int)) → Option (List Int) := fun L (t2, i1, t3) =>
 bd ((if i1 < ((t1.length : Nat) : Int) then
 some ((a1, ((t1.length : Nat) : Int), true))
 else
 some ((a1, ((t1.length : Nat) : Int), false)) : Option (Int × Int × Bool))) fun (i2, i3, b1) =>
 if b1 = true then
 ckI i1 (t3.length) fun j1 =>
 nm ((t3.getD j1 0)) fun x2 =>
 if (0 : Int) < i1 then
 ck (i2 ≠ 0) <|
 nm (Int.tmod i1 i2) fun x3 =>
 ck64 (x3 * x2) fun x4 =>
 ck ((t2.length + ([x4]).length) * 8 ≤ 140737488355328) <|
 nm (t2 ++ ([x4])) fun t4 =>
 ck64 (i1 + ((1 : Int))) fun x5 =>
 L (t4, x5, t3)
 else
 ck64 (i1 + ((1 : Int))) fun x6 =>
 L (t2, x6, t3)
 else
 some t2
def M_fpoly_Deriv (fu : Nat) (a0 : List Int) (a1 : Int) : Option ((List Int) × Int) :=
 bd (M_fp_Check fu a1) fun x1 =>
 if x1 = (0 : Int) then
 bd (M_fpoly_plain fu a0 a1) fun t1 =>
 bd (loopN (B_fpoly_Deriv_0 fu a1 t1) fu (([], (0 : Int), t1))) fun t5 =>
 bd (M_fpoly_plain fu t5 a1) fun t6 =>
 some ((t6, (0 : Int)))
 else
 some ([], x1)
def M_fsqf_monic (fu : Nat) (a0 : List Int) (a1 : Int) : Option ((List Int) × Int) :=
 bd (M_fpoly_Monic fu a0 a1) fun (t1, x1) =>
 if x1 = (0 : Int) then
 if ((t1.length : Nat) : Int) = (0 : Int) then
 some (([], (8 : Int)))
 else
 some (t1, x1)
 else
 some (t1, x1)
def M_fsqf_Is (fu : Nat) (a0 : List Int) (a1 : Int) : Option (Bool × Int) :=
 bd (M_fsqf_monic fu a0 a1) fun (t1, x1) =>
 if x1 = (0 : Int) then
 bd (M_fpoly_Deriv fu t1 a1) fun (t2, x2) =>
 bd (M_fpoly_Gcd fu t1 t2 a1) fun (t3, x3) =>
 if ((t3.length : Nat) : Int) = (1 : Int) then
 some ((true, (0 : Int)))
 else
 some ((false, (0 : Int)))
 else
 some (false, x1)
def M_ffac_square (fu : Nat) (a0 : List Int) (a1 : Int) : Option ((List Int) × Int) :=
 bd (M_ffac_monic fu a0 a1) fun (t1, x1) =>
 if x1 = (0 : Int) then
 bd (M_fsqf_Is fu t1 a1) fun (c1, x2) =>
 if ((!c1)) = true then
 some (([], (1 : Int)))
 else
 some ((t1, (0 : Int)))
 else
 some ([], x1)
def M_math_bits_Len (fu : Nat) (a0 : Nat) : Option Int :=
 bd (M_math_bits_Len64 fu a0) fun x1 =>
 some x1
def B_slices_insertionSortCmpFunc_int_io_1 (fu : Nat) (a3 : (List Int) → (List Int) → Option Int) : ((Int × Int × Int × (List (List Int))) → Option (Int × Int × (List (List Int)))) → (Int × Int × Int × (List (List Int))) → Option (Int × Int × (List (List Int))) := fun L (i2, i3, i4, t2) =>
 if i2 < i4 then
 ckI i4 (t2.length) fun j1 =>
 nm ((t2.getD j1 [])) fun t3 =>
 ck64 (i4 - ((1 : Int))) fun x2 =>
 ckI x2 (t2.length) fun j2 =>
 nm ((t2.getD j2 [])) fun t4 =>
 bd (a3 t3 t4) fun x3 =>
 if x3 < (0 : Int) then
 ck64 (i4 - ((1 : Int))) fun x4 =>
 ck64 (i4 - ((1 : Int))) fun x5 =>
 ckI x5 (t2.length) fun j3 =>
 nm ((t2.getD j3 [])) fun t5 =>
 ckI i4 (t2.length) fun j4 =>
 nm ((t2.getD j4 [])) fun t6 =>
 ckI i4 (t2.length) fun j5 =>
 nm (t2.set j5 t5) fun t7 =>
 ckI x4 (t7.length) fun j6 =>
 nm (t7.set j6 t6) fun t8 =>
 ck64 (i4 - ((1 : Int))) fun x6 =>
 L (i2, i3, x6, t8)
 else
 some (i2, i3, t2)
 else
 some (i2, i3, t2)
def B_slices_insertionSortCmpFunc_int_io_0 (fu : Nat) (a1 : Int) (a2 : Int) (a3 : (List Int) → (List Int) → Option Int) : ((Int × (List (List Int))) → Option (List (List Int))) → (Int × (List (List Int))) → Option (List (List Int)) := fun L (i1, t1) =>
 if i1 < a2 then
 bd (loopN (B_slices_insertionSortCmpFunc_int_io_1 fu a3) fu (a1, a2, i1, t1)) fun (i5, i6, t9) =>
 ck64 (i1 + ((1 : Int))) fun x7 =>
 L (x7, t9)
 else
 some t1
def M_slices_insertionSortCmpFunc_int_io (fu : Nat) (a0 : List (List Int)) (a1 : Int) (a2 : Int) (a3 : (List Int) → (List Int) → Option Int) : Option (List (List Int)) :=
 ck64 (a1 + ((1 : Int))) fun x1 =>
 bd (loopN (B_slices_insertionSortCmpFunc_int_io_0 fu a1 a2 a3) fu (x1, a0)) fun t10 =>
 some t10
def B_slices_pdqsortCmpFunc_int_io_0 (fu : Nat) (a4 : (List Int) → (List Int) → Option Int) : ((Int × Int × Int × (List (List Int))) → Option (List (List Int))) → (Int × Int × Int × (List (List Int))) → Option (List (List Int)) := fun L (i1, i2, i3, t1) =>
 ck64 (i2 - i1) fun x1 =>
 if x1 ≤ (12 : Int) then
 bd (M_slices_insertionSortCmpFunc_int_io fu t1 i1 i2 a4) fun t2 =>
 some t2
 else
 if i3 = (0 : Int) then
 none
 else
 none
def M_slices_pdqsortCmpFunc_int_io : Nat → (List (List Int)) → Int → Int → Int → ((List Int) → (List Int) → Option Int) → Option (List (List Int))
  | 0, _, _, _, _, _ => none
  | fu + 1, a0, a1, a2, a3, a4 =>
    bd (loopN (B_slices_pdqsortCmpFunc_int_io_0 fu a4) fu (a1, a2, a3, a0)) fun t3 =>
    some t3
def M_slices_SortFunc_int_int_io (fu : Nat) (a0 : List (List Int)) (a1 : (List Int) → (List Int) → Option Int) : Option (List (List Int)) :=
 nm (uns (((a0.length : Nat) : Int))) fun m1 =>
 bd (M_math_bits_Len fu m1) fun x1 =>
 bd (M_slices_pdqsortCmpFunc_int_io fu a0 (0 : Int) (((a0.length : Nat) : Int)) x1 a1) fun t1 =>
 some t1
def M_ffac_Split (fu : Nat) (a0 : List Int) (a1 : Int) (a2 : List Int) : Option ((List (List Int)) × Int) :=
 bd (M_ffac_square fu a0 a1) fun (t1, x1) =>
 if x1 = (0 : Int) then
 if ((t1.length : Nat) : Int) = (1 : Int) then
 some ([], x1)
 else
 bd (M_ffac_fixed fu t1 a1) fun t2 =>
 nm (min (((a2.length : Nat) : Int)) ((64 : Int))) fun x2 =>
 ckN x2 fun j1 =>
 ck (j1 ≤ a2.length) <|
 nm (a2.take j1) fun t3 =>
 bd (M_ffac_parted fu t1 t2 a1 t3) fun t4 =>
 bd (M_slices_SortFunc_int_int_io fu t4 (fun zx0 zx1 => M_ffac_compare fu zx0 zx1)) fun t5 =>
 some ((t5, (0 : Int)))
 else
 some ([], x1)
def B_prime_Next_0 (fu : Nat)  : (Int → Option Int) → Int → Option Int := fun L i1 =>
 bd (M_prime_Is fu i1) fun c1 =>
 if ((!c1)) = true then
 ck64 (i1 + ((1 : Int))) fun x3 =>
 L x3
 else
 some i1
def M_prime_Next (fu : Nat) (a0 : Int) : Option (Int × Int) :=
 if (65521 : Int) ≤ a0 then
 some (((0 : Int), (5 : Int)))
 else
 nm (max a0 ((1 : Int))) fun x1 =>
 ck64 (x1 + ((1 : Int))) fun x2 =>
 bd (loopN (B_prime_Next_0 fu ) fu x2) fun i2 =>
 some ((i2, (0 : Int)))
def M_short_Good (fu : Nat) (a0 : List Zr) (a1 : Int) : Option (Bool × Int) :=
 bd (M_zsqf_Bound fu a0) fun (y1, x1) =>
 if x1 = (0 : Int) then
 bd (M_prime_Is fu a1) fun c1 =>
 if ((!c1)) = true then
 some ((false, (0 : Int)))
 else
 bd (M_zpoly_Mod fu a0 a1) fun (t1, x2) =>
 bd (M_zpoly_Norm fu a0) fun t2 =>
 if ((t1.length : Nat) : Int) = ((t2.length : Nat) : Int) then
 bd (M_fsqf_Is fu t1 a1) fun (c2, x3) =>
 some ((c2, (0 : Int)))
 else
 some ((false, (0 : Int)))
 else
 some (false, x1)
def B_zfac_local_0 (fu : Nat) (a0 : List Zr) (a1 : List Int) : ((Int × Int × (List (List Int)) × Int × Int) → Option (Int × (List (List Int)))) → (Int × Int × (List (List Int)) × Int × Int) → Option (Int × (List (List Int))) := fun L (i1, i2, t1, i3, i4) =>
 if i4 = (0 : Int) then
 if i2 < (5 : Int) then
 bd (M_short_Good fu a0 i3) fun (c1, x3) =>
 if ((!c1)) = true then
 bd (M_prime_Next fu i3) fun (x4, x5) =>
 L (i1, i2, t1, x4, x5)
 else
 ck64 (i2 + ((1 : Int))) fun x6 =>
 bd (M_zpoly_Mod fu a0 i3) fun (t2, x7) =>
 bd (M_ffac_Split fu t2 i3 a1) fun (t3, x8) =>
 if i1 = (0 : Int) then
 bd (M_prime_Next fu i3) fun (x9, x10) =>
 L (i3, x6, t3, x9, x10)
 else
 if ((t3.length : Nat) : Int) < ((t1.length : Nat) : Int) then
 bd (M_prime_Next fu i3) fun (x11, x12) =>
 L (i3, x6, t3, x11, x12)
 else
 bd (M_prime_Next fu i3) fun (x13, x14) =>
 L (i1, x6, t1, x13, x14)
 else
 some (i1, t1)
 else
 some (i1, t1)
def M_zfac_local (fu : Nat) (a0 : List Zr) (a1 : List Int) : Option (Int × (List (List Int))) :=
 bd (M_prime_Next fu (1 : Int)) fun (x1, x2) =>
 bd (loopN (B_zfac_local_0 fu a0 a1) fu (((0 : Int), (0 : Int), [], x1, x2))) fun (i5, t4) =>
 some (i5, t4)
def B_short_choose_0 (fu : Nat) (a0 : Int) : ((Int × Zr × Zr) → Option (Zr × Zr)) → (Int × Zr × Zr) → Option (Zr × Zr) := fun L (i1, t1, t2) =>
 bd ((if i1 < a0 then
 some (a0, a0, true)
 else
 some (a0, a0, false) : Option (Int × Int × Bool))) fun (i2, i3, b1) =>
 if b1 = true then
 ck64 (i2 + i1) fun x1 =>
 ck64 (x1 + ((1 : Int))) fun x2 =>
 bd (M_zint_Of fu x2) fun y2 =>
 bd (M_zint_Mul fu t2 y2) fun y3 =>
 ck64 (i1 + ((1 : Int))) fun x3 =>
 bd (M_zint_Of fu x3) fun y4 =>
 bd (M_zint_Exact fu y3 y4) fun (y5, x4) =>
 ck64 (i1 + ((1 : Int))) fun x5 =>
 L (x5, t1, y5)
 else
 some (t1, t2)
def M_short_choose (fu : Nat) (a0 : Int) : Option Zr :=
 bd (M_zint_Of fu (1 : Int)) fun y1 =>
 bd (loopN (B_short_choose_0 fu a0) fu (((0 : Int), (false, []), y1))) fun (t3, t4) =>
 some t4
def B_short_power_0 (fu : Nat)  : ((Int × Zr × Zr) → Option Zr) → (Int × Zr × Zr) → Option Zr := fun L (i1, t1, t2) =>
 if (0 : Int) < i1 then
 nm (andI i1 ((1 : Int))) fun x1 =>
 if x1 = (1 : Int) then
 bd (M_zint_Mul fu t2 t1) fun y2 =>
 bd (M_zint_Mul fu t1 t1) fun y3 =>
 nm (Int.fdiv i1 (2 ^ (min (((1 : Nat)) : Int).toNat 64))) fun x2 =>
 L (x2, y3, y2)
 else
 bd (M_zint_Mul fu t1 t1) fun y4 =>
 nm (Int.fdiv i1 (2 ^ (min (((1 : Nat)) : Int).toNat 64))) fun x3 =>
 L (x3, y4, t2)
 else
 some t2
def M_short_power (fu : Nat) (a0 : Zr) (a1 : Int) : Option Zr :=
 bd (M_zint_Of fu (1 : Int)) fun y1 =>
 bd (loopN (B_short_power_0 fu ) fu (a1, a0, y1)) fun t3 =>
 some t3
def B_lattice_dot_0 (fu : Nat) (a0 : List Zr) (a1 : List Zr) : ((Int × Zr × Zr) → Option (Zr × Zr)) → (Int × Zr × Zr) → Option (Zr × Zr) := fun L (i1, t1, t2) =>
 bd ((if i1 < ((a0.length : Nat) : Int) then
 some ((a1, a0, ((a0.length : Nat) : Int), true))
 else
 some ((a1, a0, ((a0.length : Nat) : Int), false)) : Option ((List Zr) × (List Zr) × Int × Bool))) fun (t3, t4, i2, b1) =>
 if b1 = true then
 ckI i1 (t4.length) fun j1 =>
 nm (t4.getD j1 (false, [])) fun y2 =>
 ckI i1 (t3.length) fun j2 =>
 nm (t3.getD j2 (false, [])) fun y3 =>
 bd (M_zint_Mul fu y2 y3) fun y4 =>
 bd (M_zint_Add fu t2 y4) fun y5 =>
 ck64 (i1 + ((1 : Int))) fun x1 =>
 L (x1, t1, y5)
 else
 some (t1, t2)
def M_lattice_dot (fu : Nat) (a0 : List Zr) (a1 : List Zr) : Option Zr :=
 bd (M_zint_Of fu (0 : Int)) fun y1 =>
 bd (loopN (B_lattice_dot_0 fu a0 a1) fu (((0 : Int), (false, []), y1))) fun (t5, t6) =>
 some t6
def M_lattice_Dot (fu : Nat) (a0 : List Zr) (a1 : List Zr) : Option (Zr × Int) :=
 if ((a0.length : Nat) : Int) = ((a1.length : Nat) : Int) then
 bd (M_lattice_dot fu a0 a1) fun y1 =>
 some ((y1, (0 : Int)))
 else
 some (((false, []), (1 : Int)))
def M_short_square (fu : Nat) (a0 : List Zr) : Option Zr :=
 bd (M_lattice_Dot fu a0 a0) fun (y1, x1) =>
 some y1
def B_short_Need_0 (fu : Nat) (y9 : Zr) (y11 : Zr) : ((Int × Zr) → Option (Unit ⊕ Int)) → (Int × Zr) → Option (Unit ⊕ Int) := fun L (i1, t2) =>
 if i1 ≤ (1000 : Int) then
 bd (M_zint_Cmp fu t2 y9) fun x7 =>
 if (0 : Int) < x7 then
 some (.inr i1)
 else
 bd (M_zint_Mul fu t2 y11) fun y12 =>
 ck64 (i1 + ((1 : Int))) fun x8 =>
 L (x8, y12)
 else
 some (.inl ())
def M_short_Need (fu : Nat) (a0 : List Zr) (a1 : Int) (a2 : Int) : Option (Int × Int) :=
 bd (M_zsqf_Bound fu a0) fun (y1, x1) =>
 if x1 = (0 : Int) then
 bd (M_zpoly_Prim fu a0) fun t1 =>
 ck64 ((((t1.length : Nat) : Int)) - ((1 : Int))) fun x2 =>
 bd (M_prime_Is fu a1) fun c1 =>
 if ((!c1)) = true then
 some (((0 : Int), (1 : Int)))
 else
 if a2 < (1 : Int) then
 some (((0 : Int), (1 : Int)))
 else
 if x2 < a2 then
 some (((0 : Int), (1 : Int)))
 else
 ck64 (x2 - ((1 : Int))) fun x3 =>
 bd (M_zint_Of fu (2 : Int)) fun y2 =>
 ck64 (x3 * x2) fun x4 =>
 bd (M_short_power fu y2 x4) fun y3 =>
 bd (M_short_choose fu x3) fun y4 =>
 bd (M_short_power fu y4 x2) fun y5 =>
 bd (M_short_square fu t1) fun y6 =>
 ck64 (x3 + x2) fun x5 =>
 bd (M_short_power fu y6 x5) fun y7 =>
 bd (M_zint_Mul fu y5 y7) fun y8 =>
 bd (M_zint_Mul fu y3 y8) fun y9 =>
 bd (M_zint_Of fu a1) fun y10 =>
 ck64 (((2 : Int)) * a2) fun x6 =>
 bd (M_short_power fu y10 x6) fun y11 =>
 bd (loopN (B_short_Need_0 fu y9 y11) fu (((1 : Int), y11))) fun s1 => match s1 with
 | .inl _ =>
 some (((0 : Int), (6 : Int)))
 | .inr i2 =>
 some ((i2, (0 : Int)))
 else
 some (((0 : Int), x1))
def M_zfac_sought_1 (fu : Nat) (a0 : List Int) (a1 : List Int) (a2 : Int) : Option Bool :=
 bd (M_fpoly_Div fu a1 a0 a2) fun (t1, t2, x1) =>
 if ((t2.length : Nat) : Int) = (0 : Int) then
 some true
 else
 some false
def B_zfac_sought_0 (fu : Nat) (a2 : Int) : (((List Zr) × (List (List Int))) → Option ((List Zr) × (List (List Int)))) → ((List Zr) × (List (List Int))) → Option ((List Zr) × (List (List Int))) := fun L (t1, t2) =>
 if (12 : Int) < ((t2.length : Nat) : Int) then
 ckI ((0 : Int)) (t2.length) fun j1 =>
 nm (t2.getD j1 []) fun y1 =>
 ck64 ((((y1.length : Nat) : Int)) - ((1 : Int))) fun x1 =>
 bd (M_short_Need fu t1 a2 x1) fun (x2, x3) =>
 if x3 = (0 : Int) then
 bd (M_hensel_Lift fu t1 t2 a2 x2) fun (t3, x4) =>
 if ((t3.length : Nat) : Int) = (0 : Int) then
 some (t1, t2)
 else
 ckI ((0 : Int)) (t3.length) fun j2 =>
 nm ((t3.getD j2 [])) fun t4 =>
 none
 else
 some (t1, t2)
 else
 some (t1, t2)
def M_zfac_sought (fu : Nat) (a0 : List Zr) (a1 : List (List Int)) (a2 : Int) : Option ((List (List Zr)) × (List Zr) × (List (List Int))) :=
 bd (loopN (B_zfac_sought_0 fu a2) fu (a0, a1)) fun (t5, t6) =>
 some ([], t5, t6)
def B_slices_insertionSortCmpFunc_api_Int_io_1 (fu : Nat) (a3 : (List Zr) → (List Zr) → Option Int) : ((Int × Int × Int × (List (List Zr))) → Option (Int × Int × (List (List Zr)))) → (Int × Int × Int × (List (List Zr))) → Option (Int × Int × (List (List Zr))) := fun L (i2, i3, i4, t2) =>
 if i2 < i4 then
 ckI i4 (t2.length) fun j1 =>
 nm ((t2.getD j1 [])) fun t3 =>
 ck64 (i4 - ((1 : Int))) fun x2 =>
 ckI x2 (t2.length) fun j2 =>
 nm ((t2.getD j2 [])) fun t4 =>
 bd (a3 t3 t4) fun x3 =>
 if x3 < (0 : Int) then
 ck64 (i4 - ((1 : Int))) fun x4 =>
 ck64 (i4 - ((1 : Int))) fun x5 =>
 ckI x5 (t2.length) fun j3 =>
 nm ((t2.getD j3 [])) fun t5 =>
 ckI i4 (t2.length) fun j4 =>
 nm ((t2.getD j4 [])) fun t6 =>
 ckI i4 (t2.length) fun j5 =>
 nm (t2.set j5 t5) fun t7 =>
 ckI x4 (t7.length) fun j6 =>
 nm (t7.set j6 t6) fun t8 =>
 ck64 (i4 - ((1 : Int))) fun x6 =>
 L (i2, i3, x6, t8)
 else
 some (i2, i3, t2)
 else
 some (i2, i3, t2)
def B_slices_insertionSortCmpFunc_api_Int_io_0 (fu : Nat) (a1 : Int) (a2 : Int) (a3 : (List Zr) → (List Zr) → Option Int) : ((Int × (List (List Zr))) → Option (List (List Zr))) → (Int × (List (List Zr))) → Option (List (List Zr)) := fun L (i1, t1) =>
 if i1 < a2 then
 bd (loopN (B_slices_insertionSortCmpFunc_api_Int_io_1 fu a3) fu (a1, a2, i1, t1)) fun (i5, i6, t9) =>
 ck64 (i1 + ((1 : Int))) fun x7 =>
 L (x7, t9)
 else
 some t1
def M_slices_insertionSortCmpFunc_api_Int_io (fu : Nat) (a0 : List (List Zr)) (a1 : Int) (a2 : Int) (a3 : (List Zr) → (List Zr) → Option Int) : Option (List (List Zr)) :=
 ck64 (a1 + ((1 : Int))) fun x1 =>
 bd (loopN (B_slices_insertionSortCmpFunc_api_Int_io_0 fu a1 a2 a3) fu (x1, a0)) fun t10 =>
 some t10
def B_slices_pdqsortCmpFunc_api_Int_io_0 (fu : Nat) (a4 : (List Zr) → (List Zr) → Option Int) : ((Int × Int × Int × (List (List Zr))) → Option (List (List Zr))) → (Int × Int × Int × (List (List Zr))) → Option (List (List Zr)) := fun L (i1, i2, i3, t1) =>
 ck64 (i2 - i1) fun x1 =>
 if x1 ≤ (12 : Int) then
 bd (M_slices_insertionSortCmpFunc_api_Int_io fu t1 i1 i2 a4) fun t2 =>
 some t2
 else
 if i3 = (0 : Int) then
 none
 else
 none
def M_slices_pdqsortCmpFunc_api_Int_io : Nat → (List (List Zr)) → Int → Int → Int → ((List Zr) → (List Zr) → Option Int) → Option (List (List Zr))
  | 0, _, _, _, _, _ => none
  | fu + 1, a0, a1, a2, a3, a4 =>
    bd (loopN (B_slices_pdqsortCmpFunc_api_Int_io_0 fu a4) fu (a1, a2, a3, a0)) fun t3 =>
    some t3
def M_slices_SortFunc_api_Int_api_Int_io (fu : Nat) (a0 : List (List Zr)) (a1 : (List Zr) → (List Zr) → Option Int) : Option (List (List Zr)) :=
 nm (uns (((a0.length : Nat) : Int))) fun m1 =>
 bd (M_math_bits_Len fu m1) fun x1 =>
 bd (M_slices_pdqsortCmpFunc_api_Int_io fu a0 (0 : Int) (((a0.length : Nat) : Int)) x1 a1) fun t1 =>
 some t1
def M_zfac_split (fu : Nat) (a0 : List Zr) (a1 : List Int) : Option ((List (List Zr)) × Bool) :=
 if ((a0.length : Nat) : Int) < (2 : Int) then
 some ([], true)
 else
 bd (M_zfac_great fu a0) fun c1 =>
 if c1 = true then
 some ([], false)
 else
 bd (M_zfac_local fu a0 a1) fun (x1, t1) =>
 if x1 = (0 : Int) then
 some ([], false)
 else
 bd (M_zfac_enough fu a0 x1) fun x2 =>
 bd (M_hensel_Power fu x1 x2) fun (y1, x3) =>
 bd (M_zfac_sought fu a0 t1 x1) fun (t2, t3, t4) =>
 if (1 : Int) < ((t3.length : Nat) : Int) then
 bd (M_hensel_Lift fu t3 t4 x1 x2) fun (t5, x4) =>
 bd (M_zfac_chosen fu t3 t5 y1) fun t6 =>
 ck ((t2.length + t6.length) * 24 ≤ 140737488355328) <|
 nm (t2 ++ t6) fun t7 =>
 bd (M_slices_SortFunc_api_Int_api_Int_io fu t7 (fun zx0 zx1 => M_zfac_compare fu zx0 zx1)) fun t8 =>
 some (t8, true)
 else
 bd (M_slices_SortFunc_api_Int_api_Int_io fu t2 (fun zx0 zx1 => M_zfac_compare fu zx0 zx1)) fun t9 =>
 some (t9, true)
def B_zgcd_power_0 (fu : Nat) (a0 : Zr) (a1 : Int) : ((Int × Zr) → Option Zr) → (Int × Zr) → Option Zr := fun L (i1, t1) =>
 if i1 < a1 then
 bd (M_zint_Mul fu t1 a0) fun y2 =>
 ck64 (i1 + ((1 : Int))) fun x1 =>
 L (x1, y2)
 else
 some t1
def M_zgcd_power (fu : Nat) (a0 : Zr) (a1 : Int) : Option Zr :=
 bd (M_zint_Of fu (1 : Int)) fun y1 =>
 bd (loopN (B_zgcd_power_0 fu a0 a1) fu (((0 : Int), y1))) fun t2 =>
 some t2
def B_zgcd_Pseudo_0 (fu : Nat) (y1 : Zr) : (((List Zr) × (List Zr) × Int × (List Zr)) → Option ((List Zr) × (List Zr))) → ((List Zr) × (List Zr) × Int × (List Zr)) → Option ((List Zr) × (List Zr)) := fun L (t5, t6, i1, t7) =>
 if (0 : Int) ≤ i1 then
 ck64 (i1 + (((t5.length : Nat) : Int))) fun x6 =>
 if ((t6.length : Nat) : Int) < x6 then
 ck64 (i1 - ((1 : Int))) fun x7 =>
 L (t5, t6, x7, t7)
 else
 ck64 (i1 + (((t5.length : Nat) : Int))) fun x8 =>
 ck64 (x8 - ((1 : Int))) fun x9 =>
 ckI x9 (t6.length) fun j3 =>
 nm ((t6.getD j3 (false, []))) fun y3 =>
 bd (M_zint_Exact fu y3 y1) fun (y4, x10) =>
 ckI i1 (t7.length) fun j4 =>
 nm (t7.set j4 y4) fun t8 =>
 ckN i1 fun j5 =>
 ck (32 * j5 ≤ 281474976710656) <|
 nm (List.replicate j5 (false, [])) fun t9 =>
 ckI i1 (t8.length) fun j6 =>
 nm ((t8.getD j6 (false, []))) fun y5 =>
 bd (M_zpoly_Scale fu t5 y5) fun t10 =>
 ck ((t9.length + t10.length) * 32 ≤ 140737488355328) <|
 nm (t9 ++ t10) fun t11 =>
 bd (M_zpoly_Sub fu t6 t11) fun t12 =>
 ck64 (i1 - ((1 : Int))) fun x11 =>
 L (t5, t12, x11, t8)
 else
 some (t6, t7)
def M_zgcd_Pseudo (fu : Nat) (a0 : List Zr) (a1 : List Zr) : Option ((List Zr) × (List Zr) × Int) :=
 bd (M_zpoly_Norm fu a0) fun t1 =>
 bd (M_zpoly_Norm fu a1) fun t2 =>
 if ((t2.length : Nat) : Int) = (0 : Int) then
 some (([], [], (3 : Int)))
 else
 ck64 ((((t1.length : Nat) : Int)) - (((t2.length : Nat) : Int))) fun x1 =>
 ck64 (x1 + ((1 : Int))) fun x2 =>
 nm (max x2 ((0 : Int))) fun x3 =>
 ck64 ((((t2.length : Nat) : Int)) - ((1 : Int))) fun x4 =>
 ckI x4 (t2.length) fun j1 =>
 nm ((t2.getD j1 (false, []))) fun y1 =>
 bd (M_zgcd_power fu y1 x3) fun y2 =>
 bd (M_zpoly_Scale fu t1 y2) fun t3 =>
 ckN x3 fun j2 =>
 ck (32 * j2 ≤ 281474976710656) <|
 nm (List.replicate j2 (false, [])) fun t4 =>
 ck64 (x3 - ((1 : Int))) fun x5 =>
 bd (loopN (B_zgcd_Pseudo_0 fu y1) fu (t2, t3, x5, t4)) fun (t13, t14) =>
 bd (M_zpoly_Norm fu t14) fun t15 =>
 some ((t15, t13, (0 : Int)))
def B_zgcd_Gcd_0 (fu : Nat)  : (((List Zr) × (List Zr)) → Option (List Zr)) → ((List Zr) × (List Zr)) → Option (List Zr) := fun L (t3, t4) =>
 if (0 : Int) < ((t4.length : Nat) : Int) then
 bd (M_zgcd_Pseudo fu t3 t4) fun (t5, t6, x1) =>
 bd (M_zpoly_Prim fu t6) fun t7 =>
 L (t4, t7)
 else
 some t3
def M_zgcd_Gcd (fu : Nat) (a0 : List Zr) (a1 : List Zr) : Option (List Zr) :=
 bd (M_zpoly_Content fu a0) fun y1 =>
 bd (M_zpoly_Content fu a1) fun y2 =>
 bd (M_zint_Gcd fu y1 y2) fun y3 =>
 bd (M_zpoly_Prim fu a0) fun t1 =>
 bd (M_zpoly_Prim fu a1) fun t2 =>
 bd (loopN (B_zgcd_Gcd_0 fu ) fu (t1, t2)) fun t8 =>
 bd (M_zpoly_Scale fu t8 y3) fun t9 =>
 some t9
def M_zpoly_Deriv_1 (fu : Nat) (a0 : Int) (a1 : Zr) : Option Zr :=
 bd (M_zint_Of fu a0) fun y1 =>
 bd (M_zint_Mul fu a1 y1) fun y2 =>
 some y2
def M_zpoly_Deriv (fu : Nat) (a0 : List Zr) : Option (List Zr) :=
 bd (M_zpoly_each_api_Int_api_Int fu a0 (fun zx0 zx1 => M_zpoly_Deriv_1 fu zx0 zx1)) fun t1 =>
 nm (min (((t1.length : Nat) : Int)) ((1 : Int))) fun x1 =>
 ckN x1 fun j1 =>
 ck (j1 ≤ t1.length) <|
 nm (t1.drop j1) fun t2 =>
 bd (M_zpoly_Norm fu t2) fun t3 =>
 some t3
def M_zsqf_by (fu : Nat) (a0 : List Zr) (a1 : List Zr) : Option (List Zr) :=
 bd (M_zpoly_Div fu a0 a1) fun (t1, x1) =>
 some t1
def M_zsqf_Radical (fu : Nat) (a0 : List Zr) : Option ((List Zr) × Int) :=
 bd (M_zsqf_wrong fu a0) fun x1 =>
 if x1 = (0 : Int) then
 bd (M_zpoly_Prim fu a0) fun t1 =>
 bd (M_zpoly_Deriv fu t1) fun t2 =>
 bd (M_zgcd_Gcd fu t1 t2) fun t3 =>
 bd (M_zsqf_by fu t1 t3) fun t4 =>
 some ((t4, (0 : Int)))
 else
 some ([], x1)
def B_zfac_Factors_0 (fu : Nat) (a0 : List Zr) (t2 : List (List Zr)) : (((List ((List Zr) × Int)) × Int × Zr × (List (List Zr))) → Option ((List ((List Zr) × Int)) × Zr)) → ((List ((List Zr) × Int)) × Int × Zr × (List (List Zr))) → Option ((List ((List Zr) × Int)) × Zr) := fun L (t3, i1, t4, t5) =>
 bd ((if i1 < ((t2.length : Nat) : Int) then
 some ((a0, ((t2.length : Nat) : Int), true))
 else
 some ((a0, ((t2.length : Nat) : Int), false)) : Option ((List Zr) × Int × Bool))) fun (t6, i2, b1) =>
 if b1 = true then
 ckI i1 (t5.length) fun j1 =>
 nm ((t5.getD j1 [])) fun t7 =>
 bd (M_zfac_often fu t6 t7) fun x2 =>
 ck ((t3.length + ([(t7, x2)]).length) * 32 ≤ 140737488355328) <|
 nm (t3 ++ ([(t7, x2)])) fun t8 =>
 ck64 (i1 + ((1 : Int))) fun x3 =>
 L (t8, x3, t4, t5)
 else
 some (t3, t4)
def M_zfac_Factors (fu : Nat) (a0 : List Zr) (a1 : List Int) : Option (Zr × (List ((List Zr) × Int)) × Int) :=
 bd (M_zsqf_Radical fu a0) fun (t1, x1) =>
 if x1 = (0 : Int) then
 bd (M_zfac_split fu t1 a1) fun (t2, c1) =>
 if ((!c1)) = true then
 some (((false, []), [], (6 : Int)))
 else
 bd (loopN (B_zfac_Factors_0 fu a0 t2) fu (([], (0 : Int), (false, []), t2))) fun (t9, t10) =>
 bd (M_zpoly_Content fu a0) fun y1 =>
 some ((y1, t9, (0 : Int)))
 else
 some (((false, []), [], x1))
def M_zfac_Irreducible (fu : Nat) (a0 : List Zr) : Option (Bool × Int) :=
 bd (M_zfac_Factors fu a0 []) fun (y1, t1, x1) =>
 if x1 = (0 : Int) then
 if ((t1.length : Nat) : Int) = (1 : Int) then
 ckI ((0 : Int)) (t1.length) fun j1 =>
 nm (((t1.getD j1 ([], 0))).2) fun x2 =>
 if x2 = (1 : Int) then
 some (true, x1)
 else
 some (false, x1)
 else
 some (false, x1)
 else
 some (false, x1)
def B_slices_Reverse_byte_byte_io_0 (fu : Nat)  : ((Int × Int × (List Nat)) → Option (List Nat)) → (Int × Int × (List Nat)) → Option (List Nat) := fun L (i1, i2, t1) =>
 if i1 < i2 then
 ckI i2 (t1.length) fun j1 =>
 nm ((t1.getD j1 0)) fun m1 =>
 ckI i1 (t1.length) fun j2 =>
 nm ((t1.getD j2 0)) fun m2 =>
 ckI i1 (t1.length) fun j3 =>
 nm (t1.set j3 m1) fun t2 =>
 ckI i2 (t2.length) fun j4 =>
 nm (t2.set j4 m2) fun t3 =>
 ck64 (i1 + ((1 : Int))) fun x2 =>
 ck64 (i2 - ((1 : Int))) fun x3 =>
 L (x2, x3, t3)
 else
 some t1
def M_slices_Reverse_byte_byte_io (fu : Nat) (a0 : List Nat) : Option (List Nat) :=
 ck64 ((((a0.length : Nat) : Int)) - ((1 : Int))) fun x1 =>
 bd (loopN (B_slices_Reverse_byte_byte_io_0 fu ) fu (((0 : Int), x1, a0))) fun t4 =>
 some t4
def B_nat_digits_0 (fu : Nat) (a1 : Bool) : ((Nat × (List Nat)) → Option (List Nat)) → (Nat × (List Nat)) → Option (List Nat) := fun L (d1, t1) =>
 if (((0 : Nat) : Nat) : Int) < ((d1 : Nat) : Int) then
 ck ((10 : Nat) ≠ 0) <|
 nm (d1 % ((10 : Nat))) fun m1 =>
 nm ((((48 : Nat)) + m1) % 18446744073709551616) fun m2 =>
 nm (m2 % 256) fun m3 =>
 ck ((t1.length + ([m3]).length) * 1 ≤ 140737488355328) <|
 nm (t1 ++ ([m3])) fun t2 =>
 ck ((10 : Nat) ≠ 0) <|
 nm (d1 / ((10 : Nat))) fun m4 =>
 L (m4, t2)
 else
 if a1 = true then
 if ((t1.length : Nat) : Int) < (19 : Int) then
 ck ((10 : Nat) ≠ 0) <|
 nm (d1 % ((10 : Nat))) fun m5 =>
 nm ((((48 : Nat)) + m5) % 18446744073709551616) fun m6 =>
 nm (m6 % 256) fun m7 =>
 ck ((t1.length + ([m7]).length) * 1 ≤ 140737488355328) <|
 nm (t1 ++ ([m7])) fun t3 =>
 ck ((10 : Nat) ≠ 0) <|
 nm (d1 / ((10 : Nat))) fun m8 =>
 L (m8, t3)
 else
 some t1
 else
 some t1
def M_nat_digits (fu : Nat) (a0 : Nat) (a1 : Bool) : Option (List Nat) :=
 bd (loopN (B_nat_digits_0 fu a1) fu (a0, [])) fun t4 =>
 bd (M_slices_Reverse_byte_byte_io fu t4) fun t5 =>
 some t5
def B_slices_Reverse_string_string_io_0 (fu : Nat)  : ((Int × Int × (List (List Nat))) → Option (List (List Nat))) → (Int × Int × (List (List Nat))) → Option (List (List Nat)) := fun L (i1, i2, t1) =>
 if i1 < i2 then
 ckI i2 (t1.length) fun j1 =>
 nm ((t1.getD j1 [])) fun t2 =>
 ckI i1 (t1.length) fun j2 =>
 nm ((t1.getD j2 [])) fun t3 =>
 ckI i1 (t1.length) fun j3 =>
 nm (t1.set j3 t2) fun t4 =>
 ckI i2 (t4.length) fun j4 =>
 nm (t4.set j4 t3) fun t5 =>
 ck64 (i1 + ((1 : Int))) fun x2 =>
 ck64 (i2 - ((1 : Int))) fun x3 =>
 L (x2, x3, t5)
 else
 some t1
def M_slices_Reverse_string_string_io (fu : Nat) (a0 : List (List Nat)) : Option (List (List Nat)) :=
 ck64 ((((a0.length : Nat) : Int)) - ((1 : Int))) fun x1 =>
 bd (loopN (B_slices_Reverse_string_string_io_0 fu ) fu (((0 : Int), x1, a0))) fun t6 =>
 some t6
def M_strings_Join (fu : Nat) (a0 : List (List Nat)) (a1 : List Nat) : Option (List Nat) :=
 ck (a0.length ≤ 140737488355328) <|
 ck ((a1.intercalate a0).length ≤ 140737488355328) <|
 some (a1.intercalate a0)
def B_nat_Text_0 (fu : Nat)  : (((List Nat) × (List (List Nat))) → Option (List (List Nat))) → ((List Nat) × (List (List Nat))) → Option (List (List Nat)) := fun L (t2, t3) =>
 if (0 : Int) < ((t2.length : Nat) : Int) then
 bd (M_nat_short fu t2 (10000000000000000000 : Nat)) fun (t4, m1) =>
 if (0 : Int) < ((t4.length : Nat) : Int) then
 bd (M_nat_digits fu m1 true) fun t5 =>
 ck ((t3.length + ([t5]).length) * 16 ≤ 140737488355328) <|
 nm (t3 ++ ([t5])) fun t6 =>
 L (t4, t6)
 else
 bd (M_nat_digits fu m1 false) fun t7 =>
 ck ((t3.length + ([t7]).length) * 16 ≤ 140737488355328) <|
 nm (t3 ++ ([t7])) fun t8 =>
 L (t4, t8)
 else
 some t3
def M_nat_Text (fu : Nat) (a0 : List Nat) : Option (List Nat) :=
 bd (M_nat_plain fu a0) fun t1 =>
 bd (loopN (B_nat_Text_0 fu ) fu (t1, [])) fun t9 =>
 if ((t9.length : Nat) : Int) = (0 : Int) then
 some [48]
 else
 bd (M_slices_Reverse_string_string_io fu t9) fun t10 =>
 bd (M_strings_Join fu t10 []) fun t11 =>
 some t11
def M_zint_Text (fu : Nat) (a0 : Zr) : Option (List Nat) :=
 bd (M_zint_Sign fu a0) fun x1 =>
 if x1 < (0 : Int) then
 bd (M_nat_Text fu a0.2) fun t1 =>
 ck (([45]).length + t1.length ≤ 9223372036854775807) <|
 nm (([45]) ++ t1) fun t2 =>
 some t2
 else
 bd (M_nat_Text fu a0.2) fun t3 =>
 some t3
def M_law16_same (fu : Nat) (a0 : List Zr) (a1 : List Zr) : Option Bool :=
 bd (M_ref10_Same fu a0 a1) fun c1 =>
 some c1
end
end Go.Proofs.YtmggkmchbdanfaaGreat
