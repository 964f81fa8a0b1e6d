/- What a proof needs: rules of walking, mirrors of functions and their plain laws. No condition. -/
import Derived.Test.YtmggkmchbdanfaaGreatZm4
import Derived.RecoverIn
set_option linter.unusedVariables false
set_option linter.unusedSimpArgs false
namespace Go.Proofs.YtmggkmchbdanfaaGreat
section
def DenOK (P : Program) (cf : Cf) (n : Nat) (c : Code) : Prop := ∀ {R : Type} {r : R} {fr : Fr} {cx σ : Sg} {K : Tg → Sg → Option R} {Q : Qd} {N : Nd}, N.n = n → (N.rd = none ∨ noR c = true) → den cf c cx σ K = some r → ∀ {Ds : List Nat} {env : Env} {w : World},
  (∀ t σ', K t σ' = some r → ∀ Ds' env' w', SmO cx env env' → Rel P (fr.wd Ds') cx σ' env' w' → Q (tgE t) Ds' env' w') → Rel P (fr.wd Ds) cx σ env w → WpD P N c Q Ds env w
def outL : Value → List Value
  | .tuple us => us.toList
  | _ => []
def vsU (u : Value) (k : Nat) : Value := (outL u).getD k undef
def encU (vs : Nat → Value) (m : Nat) : Value := .tuple ((List.range m).map vs).toArray
theorem vsU_enc {vs : Nat → Value} {m k : Nat} (h : k < m) : vsU (encU vs m) k = vs k := by
  simp [vsU, encU, outL, List.getD_eq_getElem?_getD, h]
def tgC : Tg → Code
  | .n => .skip
  | .x i => .exit i
  | .r => .ret
  | .p _ => .skip
section
variable {P : Program} {cf : Cf} {fr : Fr} {cx cx' kp σ : Sg} {vs vs' : Nat → Value} {env env' : Env} {w : World} {we : World} {Se : Nat → Prop} {F : List MF} {G : List FF} {n D l : Nat} {ds : List (Nat × TF)} {x : DsD ds} {u : Value} {rc : Loop}
def hidM (P : Program) (env : Env) (cx' : Sg) (n : Nat) (ds : List (Nat × TF)) (D l : Nat) (rc : Loop) (x : DsD ds) (u : Value) : MF :=
  mGrp (mPr (slotsOK ds env fun j => vsU u (n + j)) :: mFF (RS P (vsU u) env cx'.rg) :: mLp l rc :: mDef D :: (dsM (fun j => vsU u (n + j)) ds x 0 ++ MS (vsU u) cx'.ob))
theorem hid_out (h : St we Se (hidM P env cx' n ds D l rc x u :: F) G w) : slotsOK ds env (fun j => vsU u (n + j)) ∧ St we Se (mLp l rc :: mDef D :: (dsM (fun j => vsU u (n + j)) ds x 0 ++ (MS (vsU u) cx'.ob ++ F))) (RS P (vsU u) env cx'.rg ++ G) w := by
  obtain ⟨h1, h2⟩ := St.unpr (St.grp.1 h)
  refine ⟨h1, ?_⟩
  have h3 := St.ffOut (show St we Se (mFF (RS P (vsU u) env cx'.rg) :: (mLp l rc :: mDef D :: (dsM (fun j => vsU u (n + j)) ds x 0 ++ MS (vsU u) cx'.ob) ++ F)) G w from h2)
  simpa only [List.cons_append, List.append_assoc] using h3
theorem hid_in (hsl : slotsOK ds env fun j => vs (n + j)) (ho : ∀ e ∈ cx'.ob, e.1 < n) (hr : ∀ e ∈ cx'.rg, ∀ o, refO e.2.2 = some o → o < n) (h : St we Se (mLp l rc :: mDef D :: (dsM (fun j => vs (n + j)) ds x 0 ++ (MS vs cx'.ob ++ F))) (RS P vs env cx'.rg ++ G) w) :
    St we Se (hidM P env cx' n ds D l rc x (encU vs (n + ds.length)) :: F) G w := by
  have e0 : ∀ k, k < n + ds.length → vsU (encU vs (n + ds.length)) k = vs k := fun k hk => vsU_enc hk
  have e1 : RS P (vsU (encU vs (n + ds.length))) env cx'.rg = RS P vs env cx'.rg := RS_congr (fun e he o ho => e0 o (by have := hr e he o ho; omega)) fun _ _ => rfl
  have e2 : MS (vsU (encU vs (n + ds.length))) cx'.ob = MS vs cx'.ob := MS_congr fun e he => e0 e.1 (by have := ho e he; omega)
  have e3 : dsM (fun j => vsU (encU vs (n + ds.length)) (n + j)) ds x 0 = dsM (fun j => vs (n + j)) ds x 0 := dsM_shift fun j hj => e0 _ (by omega)
  refine St.grp.2 (St.pr ?_ ?_)
  · intro j t f hj
    have := (List.getElem?_eq_some_iff.1 hj).1
    show slotOK f (env t) (vsU (encU vs (n + ds.length)) (n + j))
    rw [e0 _ (by omega)]
    exact hsl j t f hj
  · have h2 : St we Se (mFF (RS P vs env cx'.rg) :: (mLp l rc :: mDef D :: (dsM (fun j => vs (n + j)) ds x 0 ++ MS vs cx'.ob) ++ F)) G w := St.ffIn (by simpa only [List.cons_append, List.append_assoc] using h)
    rw [e1, e2, e3]
    exact h2
theorem rel_mem {m : MF} {p : Prop} (h : Rel P fr cx σ env w) (hm : m ∈ fr.F) (hp : ∀ S, m.p S w → p) : p := by
  obtain ⟨_, vs, _, _, _, S, _, _, _, h7, _⟩ := h
  exact hp S (allM_mem.1 h7 m (List.mem_append.2 (.inr (List.mem_append.2 (.inr hm)))))
theorem round_s {it : ISig} {pt : Nat} {τ : Tg} {a c : Code} {N : Nat} {fn : FuncId} {tmps : Array Value} (hA : DenOK P cf N a) (hC : DenOK P cf N c) (hna : noR a = true) (hnc : noR c = true) (hpt : pt < N) (hsz : tmps.size = N) (henv : envOf ⟨tmps, []⟩ = env) (hm : memK ds = true)
    (hon : once (rndH pt it.t it.E ds).ds = true) (hnot : notIn cx'.rg pt = true) (ho : ∀ e ∈ cx'.ob, e.1 < n) (hr : ∀ e ∈ cx'.rg, ∀ o, refO e.2.2 = some o → o < n) :
    YSpec P l it.t.rep it.E (fun x u => hidM P env cx' n ds D l { state := .ready, pending := none, fn := fn, tmps := tmps, params := #[pt], assign := a, body := c, defers := D } x u)
      (fun x u => hidM P env cx' n ds D l { state := .done, pending := some (tgC τ), fn := fn, tmps := tmps, params := #[pt], assign := a, body := c, defers := D } x u)
      (rndG cx' n ds it.t it.E pt τ (fun cx σ K => den cf a cx σ K) fun cx σ K => den cf c cx σ K) := by
  obtain ⟨rR, hrR⟩ : ∃ rR : Loop, rR = { state := .ready, pending := none, fn := fn, tmps := tmps, params := #[pt], assign := a, body := c, defers := D } := ⟨_, rfl⟩
  obtain ⟨rB, hrB⟩ : ∃ rB : Loop, rB = { rR with state := .busy } := ⟨_, rfl⟩
  rw [← hrR]
  intro ys x ys' q hq v u we Se F G w hst
  obtain ⟨hsl, h1⟩ := hid_out hst
  have hl : w.heap[l]? = some (.loop rR) := mut_frame h1 (i := 0) rfl fun S hp => hp
  have hy := run_yield (P := P) (args := #[v]) hl (by rw [hrR]; rfl)
  refine ⟨fn, tmps.setIfInBounds pt v, a, c, by rw [hrR] at hy; simpa using hy, roundIn_of_wpIn trivial ?_⟩
  obtain ⟨sh, hsh⟩ : ∃ sh, sh = rndH pt it.t it.E ds := ⟨_, rfl⟩
  have hlen : sh.ds.length = ds.length + 1 := by rw [hsh]; rfl
  have hmS : memK sh.ds = true := by rw [hsh]; exact hm
  obtain ⟨cp, hcp⟩ : ∃ cp, cp = cpR cx' n sh := ⟨_, rfl⟩
  have hne : ∀ {j t : Nat} {f : TF}, ds[j]? = some (t, f) → t ≠ pt := fun hj => once_ne (a := (pt, .own it.t it.E)) hon hj
  obtain ⟨env1, henv1⟩ : ∃ env1, env1 = put env (some pt) v := ⟨_, rfl⟩
  have e_pt : env1 pt = v := by rw [henv1]; exact put_eq
  have e_ne : ∀ t, t ≠ pt → env1 t = env t := fun t ht => by rw [henv1]; exact put_ne (fun e => ht (by cases e; rfl))
  have e_cx : ∀ e ∈ cx'.rg, env1 e.1 = env e.1 := fun e he => e_ne e.1 fun h => by
    simp only [notIn, List.all_eq_true] at hnot
    have := hnot e he
    rw [h] at this; simp at this
  obtain ⟨vs1, hvs1⟩ : ∃ vs1 : Nat → Value, vs1 = fun k => if k < n then vsU u k else if k = n then v else vsU u (k - 1) := ⟨_, rfl⟩
  have v_lo : ∀ k, k < n → vs1 k = vsU u k := fun k hk => by rw [hvs1]; exact if_pos hk
  have v_n : vs1 n = v := by rw [hvs1]; simp
  have v_hi : ∀ j, vs1 (n + (j + 1)) = vsU u (n + j) := fun j => by
    rw [hvs1]
    simp only
    rw [if_neg (by omega), if_neg (by omega), show n + (j + 1) - 1 = n + j by omega]
  have hslS : slotsOK sh.ds env1 fun j => vs1 (n + j) := by
    rw [hsh]
    intro j t f hj
    cases j with
    | zero =>
      simp only [rndH, List.getElem?_cons_zero, Option.some.injEq, Prod.mk.injEq] at hj
      obtain ⟨rfl, rfl⟩ := hj
      show env1 pt = vs1 (n + 0)
      rw [e_pt, Nat.add_zero, v_n]
    | succ j =>
      have hj : ds[j]? = some (t, f) := by simpa [rndH] using hj
      show slotOK f (env1 t) (vs1 (n + (j + 1)))
      rw [v_hi, e_ne t (hne hj)]
      exact hsl j t f hj
  have hbp : Bd cp ⟨n + sh.ds.length, [], []⟩ := by
    rw [hcp]
    refine ⟨fun _ he => absurd he List.not_mem_nil, fun e he => ?_, fun _ he => absurd he List.not_mem_nil, fun e he o hro => ?_⟩
    · have := ho e he
      show e.1 < n + _
      omega
    · show o < n + _
      rcases List.mem_append.1 (show e ∈ pinR sh.ds n ++ cx'.rg from he) with he | he
      · exact pinR_ref e he o hro
      · have := hr e he o hro
        omega
  have hR0 : Rel P (Fr.wd ⟨we, Se, mLp l rR :: mDef D :: F, G⟩ []) cp (bldS sh (hsh ▸ consD (a := (pt, .own it.t it.E)) ys x) ⟨n, [], []⟩) env1 w := by
    subst hsh
    refine rel_in (vs := vs1) (kp := ⟨n, [], []⟩) hmS hslS (bd_in hmS (fun _ he => absurd he List.not_mem_nil) (fun e he => hbp.o2 e he) (fun _ he => absurd he List.not_mem_nil) fun e he o hro => hbp.r2 e he o hro) ?_
    have e1 : dsM (fun j => vs1 (n + j)) (rndH pt it.t it.E ds).ds (consD (a := (pt, .own it.t it.E)) ys x) 0 = mO it.t.rep it.E v ys :: dsM (fun j => vsU u (n + j)) ds x 0 := by
      refine (dsM_cons (U := fun j => vs1 (n + j)) (a := (pt, .own it.t it.E)) (l := ds) (y := ys) (x := x) (i := 0)).trans ?_
      show mO it.t.rep it.E (vs1 (n + 0)) ys :: dsM _ ds x (0 + 1) = _
      rw [Nat.add_zero, v_n, dsM_shift (U := fun j => vs1 (n + j)) (V := fun j => vsU u (n + j)) (i := 0 + 1) (k := 0) fun j _ => by
        show vs1 (n + (0 + 1 + j)) = vsU u (n + (0 + j))
        rw [show 0 + 1 + j = j + 1 by omega, v_hi, Nat.zero_add]]
    have e2 : MS vs1 cp.ob = MS (vsU u) cx'.ob := by rw [hcp]; exact MS_congr fun e he => v_lo _ (ho e he)
    show St we Se (dsM (fun j => vs1 (n + j)) (rndH pt it.t it.E ds).ds (consD (a := (pt, .own it.t it.E)) ys x) 0 ++ ([] ++ (MS vs1 cp.ob ++ ([] ++ (mLp l rR :: mDef D :: F))))) ([] ++ (RS P vs1 env1 cp.rg ++ G)) w
    rw [e1, e2]
    have h2 : St we Se (mO it.t.rep it.E v ys :: dsM (fun j => vsU u (n + j)) ds x 0 ++ ([] ++ (MS (vsU u) cx'.ob ++ ([] ++ (mLp l rR :: mDef D :: F))))) (RS P (vsU u) env cx'.rg ++ G) w := by
      refine h1.perm ?_
      simp only [List.nil_append, List.cons_append]
      have p1 : (mLp l rR :: mDef D :: (dsM (fun j => vsU u (n + j)) ds x 0 ++ (MS (vsU u) cx'.ob ++ mO it.t.rep it.E v ys :: F))).Perm (mO it.t.rep it.E v ys :: (mLp l rR :: mDef D :: (dsM (fun j => vsU u (n + j)) ds x 0 ++ (MS (vsU u) cx'.ob ++ F)))) := by
        have := List.perm_middle (a := mO it.t.rep it.E v ys) (l₁ := mLp l rR :: mDef D :: (dsM (fun j => vsU u (n + j)) ds x 0 ++ MS (vsU u) cx'.ob)) (l₂ := F)
        simpa only [List.cons_append, List.append_assoc] using this
      refine p1.trans (List.Perm.cons _ ?_)
      have p2 : ([mLp l rR, mDef D] ++ ((dsM (fun j => vsU u (n + j)) ds x 0 ++ MS (vsU u) cx'.ob) ++ F)).Perm ((dsM (fun j => vsU u (n + j)) ds x 0 ++ MS (vsU u) cx'.ob) ++ ([mLp l rR, mDef D] ++ F)) := List.perm_append_comm_assoc ..
      simpa only [List.cons_append, List.append_assoc, List.nil_append] using p2
    refine h2.weak (Δ := RS P vs1 env1 cp.rg ++ G) fun S w ha => All.append ?_ (All.right ha)
    rw [hcp]
    show All S (RS P vs1 env1 (pinR (rndH pt it.t it.E ds).ds n ++ cx'.rg)) w
    rw [RS_app]
    refine All.append (pin_in (i := 0) hmS fun j t f hj => by rw [Nat.zero_add]; exact hslS j t f hj) ?_
    rw [RS_congr (vs := vsU u) (env := env) (fun e he o hro => v_lo o (hr e he o hro)) e_cx]
    exact All.left ha
  obtain ⟨N1, hN1⟩ : ∃ N1 : Nd, N1 = ⟨N, [], some l⟩ := ⟨_, rfl⟩
  have hsz1 : (⟨tmps.setIfInBounds pt v, []⟩ : Act).tmps.size = N1.n := by rw [hN1]; simpa using hsz
  have hev1 : envOf ⟨tmps.setIfInBounds pt v, []⟩ = env1 := by
    have := envOf_put (a := ⟨tmps, []⟩) (d := some pt) (v := v) (fun t ht => by cases ht; show pt < tmps.size; omega)
    rw [henv1, ← henv]
    exact this
  subst hsh
  have hwA := hA (N := N1) (fr := ⟨we, Se, mLp l rR :: mDef D :: F, G⟩) (Ds := []) (by rw [hN1]) (.inr hna) (show den cf a cp _ _ = some (ys', q) from by rw [hcp]; exact hq)
    (Q := fun e Ds' env' w' => e = .normal ∧ ∃ σ', den cf c cp σ' (endK cp ds it.t it.E pt τ) = some (ys', q) ∧ SmO cp env1 env' ∧ Rel P (Fr.wd ⟨we, Se, mLp l rR :: mDef D :: F, G⟩ Ds') cp σ' env' w')
    (fun t σ' hk Ds' env' w' hs hR => by
      cases t with
      | n => exact ⟨rfl, σ', by rw [hcp]; exact hk, hs, hR⟩
      | x i => cases hk
      | r => cases hk
      | p q => cases hk) hR0
  have hwa := hwA ⟨tmps.setIfInBounds pt v, []⟩ hsz1 (by rw [hN1]; rfl) hev1
  rw [hN1] at hwa
  refine wpIn_mono hwa ?_
  rintro e a1 w1 ⟨q1, Ds', q2, rfl, σ', hk, hs, hR⟩
  have hl1 : w1.heap[l]? = some (.loop rR) := rel_mem hR (m := mLp l rR) (List.mem_append.2 (.inr (List.mem_cons_self ..))) fun S hp => hp
  refine ⟨w1.putObj l (.loop rB), by rw [hrB]; exact run_beginRound hl1 (by rw [hrR]), ?_⟩
  have hR1 : Rel P (Fr.wd ⟨we, Se, mLp l rB :: mDef D :: F, G⟩ Ds') cp σ' (envOf a1) (w1.putObj l (.loop rB)) := rel_put (A := Ds'.map mDef) (m := mLp l rR) (m' := mLp l rB) (B := mDef D :: F) hR (fun k => Iff.rfl) (fun k h => h) fun S w' h => h
  have hwC := hC (N := N1) (fr := ⟨we, Se, mLp l rB :: mDef D :: F, G⟩) (Ds := Ds') (by rw [hN1]) (.inr hnc) hk
    (Q := fun e Ds'' env' w' => ∃ t σ'', e = tgE t ∧ endK cp ds it.t it.E pt τ t σ'' = some (ys', q) ∧ SmO cp (envOf a1) env' ∧ Rel P (Fr.wd ⟨we, Se, mLp l rB :: mDef D :: F, G⟩ Ds'') cp σ'' env' w')
    (fun t σ'' hk Ds'' env' w' hs hR => ⟨t, σ'', rfl, hk, hs, hR⟩) hR1
  have hwc := hwC a1 (by rw [hN1]; exact q1) (by rw [hN1]; exact q2) rfl
  rw [hN1] at hwc
  refine wpIn_mono hwc ?_
  rintro e a2 w2 ⟨p1, Ds'', p2, t, σ'', rfl, hk2, hs2, hR2⟩
  have hl2 : w2.heap[l]? = some (.loop rB) := rel_mem hR2 (m := mLp l rB) (List.mem_append.2 (.inr (List.mem_cons_self ..))) fun S hp => hp
  have hsm := hs.trans hs2
  have close : ∀ (z : DsD (rndH pt it.t it.E ds).ds) (rc : Loop), Rel P (Fr.wd ⟨we, Se, mLp l rB :: mDef D :: F, G⟩ Ds'') cp (bldS (rndH pt it.t it.E ds) z ⟨n + (rndH pt it.t it.E ds).ds.length, [], []⟩) (envOf a2) w2 →
      ∃ u', St we Se (hidM P env cx' n ds D l rc (unD z).2 u' :: mO it.t.rep it.E v (unD z).1 :: F) G (w2.putObj l (.loop rc)) := by
    intro z rc hRz
    have hRp := rel_put (A := Ds''.map mDef) (m := mLp l rB) (m' := mLp l rc) (B := mDef D :: F) hRz (fun k => Iff.rfl) (fun k h => h) (o := .loop rc) fun S w' h => h
    obtain ⟨vs2, hsl2, hB2, hst2⟩ := rel_out (ds := (rndH pt it.t it.E ds).ds) hmS hRp
    obtain ⟨m, hm2⟩ : ∃ m, m = n + (rndH pt it.t it.E ds).ds.length := ⟨_, rfl⟩
    rw [← hm2] at hsl2 hst2
    have z0 : vs2 m = v := by
      have h2 : envOf a2 pt = vs2 (m + 0) := hsl2 0 pt (.own it.t it.E) rfl
      obtain ⟨e, he, h3⟩ := pinR_mem (ds := (rndH pt it.t it.E ds).ds) (n := n) (j := 0) (t := pt) (f := .own it.t it.E) rfl
      have h4 := hsm e (by rw [hcp]; exact List.mem_append.2 (.inl he))
      rw [h3, e_pt] at h4
      rw [Nat.add_zero] at h2
      exact h2.symm.trans h4
    obtain ⟨vs3, hvs3⟩ : ∃ vs3 : Nat → Value, vs3 = fun k => if k < n then vs2 k else vs2 (m + 1 + (k - n)) := ⟨_, rfl⟩
    have w_lo : ∀ k, k < n → vs3 k = vs2 k := fun k hk => by rw [hvs3]; exact if_pos hk
    have w_hi : ∀ j, vs3 (n + j) = vs2 (m + (j + 1)) := fun j => by
      rw [hvs3]
      simp only
      rw [if_neg (by omega), show m + 1 + (n + j - n) = m + (j + 1) by omega]
    have hsl3 : slotsOK ds env fun j => vs3 (n + j) := by
      intro j t f hj
      have h2 := hsl2 (j + 1) t f (by simpa [rndH] using hj)
      obtain ⟨e, he, h3⟩ := pinR_mem (ds := (rndH pt it.t it.E ds).ds) (n := n) (j := j + 1) (t := t) (f := f) (by simpa [rndH] using hj)
      have h4 := hsm e (by rw [hcp]; exact List.mem_append.2 (.inl he))
      rw [h3, e_ne t (hne hj)] at h4
      show slotOK f (env t) (vs3 (n + j))
      rw [w_hi, ← h4]
      exact h2
    refine ⟨_, hid_in (F := mO it.t.rep it.E v (unD z).1 :: F) hsl3 ho hr ?_⟩
    have e1 : dsM (fun j => vs2 (m + j)) (rndH pt it.t it.E ds).ds z 0 = mO it.t.rep it.E v (unD z).1 :: dsM (fun j => vs3 (n + j)) ds (unD z).2 0 := by
      refine (congrArg (fun z => dsM (fun j => vs2 (m + j)) (rndH pt it.t it.E ds).ds z 0) (consD_un (a := (pt, .own it.t it.E)) (l := ds) z)).trans ?_
      refine (dsM_cons (U := fun j => vs2 (m + j)) (a := (pt, .own it.t it.E)) (l := ds) (y := (unD (a := (pt, .own it.t it.E)) z).1) (x := (unD (a := (pt, .own it.t it.E)) z).2) (i := 0)).trans ?_
      show mO it.t.rep it.E (vs2 (m + 0)) (unD z).1 :: dsM _ ds (unD z).2 (0 + 1) = _
      rw [Nat.add_zero, z0, dsM_shift (U := fun j => vs2 (m + j)) (V := fun j => vs3 (n + j)) (i := 0 + 1) (k := 0) fun j _ => by
        show vs2 (m + (0 + 1 + j)) = vs3 (n + (0 + j))
        rw [show 0 + 1 + j = j + 1 by omega, Nat.zero_add, w_hi]]
    have e2 : MS vs2 cp.ob = MS vs3 cx'.ob := by rw [hcp]; exact MS_congr fun e he => (w_lo _ (ho e he)).symm
    have h5 : St we Se (dsM (fun j => vs2 (m + j)) (rndH pt it.t it.E ds).ds z 0 ++ (MS vs2 cp.ob ++ (Ds''.map mDef ++ mLp l rc :: mDef D :: F))) (RS P vs2 (envOf a2) cp.rg ++ G) (w2.putObj l (.loop rc)) := hst2
    rw [e1, e2] at h5
    have h6 : St we Se ((mO it.t.rep it.E v (unD z).1 :: dsM (fun j => vs3 (n + j)) ds (unD z).2 0 ++ MS vs3 cx'.ob) ++ (mLp l rc :: mDef D :: F)) (RS P vs2 (envOf a2) cp.rg ++ G) (w2.putObj l (.loop rc)) := St.dropM (B := Ds''.map mDef) (by simpa only [List.append_assoc] using h5)
    have h7 : St we Se (mLp l rc :: mDef D :: (dsM (fun j => vs3 (n + j)) ds (unD z).2 0 ++ (MS vs3 cx'.ob ++ (mO it.t.rep it.E v (unD z).1 :: F)))) (RS P vs2 (envOf a2) cp.rg ++ G) (w2.putObj l (.loop rc)) := by
      refine h6.perm ?_
      have p1 : ((dsM (fun j => vs3 (n + j)) ds (unD z).2 0 ++ MS vs3 cx'.ob) ++ ([mLp l rc, mDef D] ++ F)).Perm ([mLp l rc, mDef D] ++ ((dsM (fun j => vs3 (n + j)) ds (unD z).2 0 ++ MS vs3 cx'.ob) ++ F)) := List.perm_append_comm_assoc ..
      have p2 := List.perm_middle (a := mO it.t.rep it.E v (unD z).1) (l₁ := mLp l rc :: mDef D :: (dsM (fun j => vs3 (n + j)) ds (unD z).2 0 ++ MS vs3 cx'.ob)) (l₂ := F)
      have p3 := (p1.cons (mO it.t.rep it.E v (unD z).1)).trans (by simpa only [List.cons_append, List.append_assoc, List.nil_append] using p2.symm)
      simpa only [List.cons_append, List.append_assoc, List.nil_append] using p3
    refine h7.weak fun S w ha => All.append ?_ (All.right ha)
    have h8 : All S (RS P vs2 (envOf a2) (pinR (rndH pt it.t it.E ds).ds n ++ cx'.rg)) w := by
      have := All.left ha
      rw [hcp] at this; exact this
    rw [RS_app] at h8
    rw [RS_congr (vs := vs2) (env := envOf a2) (fun e he o hro => w_lo o (hr e he o hro)) fun e he => ?_]
    · exact All.right h8
    · have h4 := hsm e (by rw [hcp]; exact List.mem_append.2 (.inr he))
      rw [e_cx e he] at h4
      exact h4.symm
  cases t with
  | n =>
    obtain ⟨z, hz, hout⟩ := out_s (P := P) (cx := cp) (kp := ⟨n + (rndH pt it.t it.E ds).ds.length, [], []⟩) (show outS (addC cp ⟨n + (rndH pt it.t it.E ds).ds.length, [], []⟩) (rndH pt it.t it.E ds) σ'' (fun z => some ((unD z).1, Sum.inl (unD z).2)) = some (ys', q) from by rw [hcp] at hk2 ⊢; exact hk2) hbp
    cases hz
    have hRz := hout (Fr.wd ⟨we, Se, mLp l rB :: mDef D :: F, G⟩ Ds'') (envOf a2) w2 (by rw [hcp] at hR2 ⊢; exact hR2)
    refine ⟨_, _, run_endRound none hl2, rfl, ?_⟩
    have hrr : ({ rB with state := if (none : Option Code).isNone then .ready else .done, pending := none } : Loop) = rR := by rw [hrB, hrR]; rfl
    rw [hrr]
    exact close z rR hRz
  | x i =>
    obtain ⟨ht, hk2⟩ := grd_s hk2
    obtain ⟨z, hz, hout⟩ := out_s (P := P) (cx := cp) (kp := ⟨n + (rndH pt it.t it.E ds).ds.length, [], []⟩) (show outS (addC cp ⟨n + (rndH pt it.t it.E ds).ds.length, [], []⟩) (rndH pt it.t it.E ds) σ'' (fun z => some ((unD z).1, Sum.inr (unD z).2)) = some (ys', q) from by rw [hcp] at hk2 ⊢; exact hk2) hbp
    cases hz
    have hRz := hout (Fr.wd ⟨we, Se, mLp l rB :: mDef D :: F, G⟩ Ds'') (envOf a2) w2 (by rw [hcp] at hR2 ⊢; exact hR2)
    refine ⟨_, _, run_endRound (some (.exit i)) hl2, rfl, ?_⟩
    have hrr : ({ rB with state := if (some (Code.exit i)).isNone then .ready else .done, pending := some (.exit i) } : Loop) = { state := .done, pending := some (tgC τ), fn := fn, tmps := tmps, params := #[pt], assign := a, body := c, defers := D } := by
      rw [hrB, hrR, tg_eqR (fun _ e => by cases e) ht]; rfl
    rw [hrr]
    exact close z _ hRz
  | r =>
    obtain ⟨ht, hk2⟩ := grd_s hk2
    obtain ⟨z, hz, hout⟩ := out_s (P := P) (cx := cp) (kp := ⟨n + (rndH pt it.t it.E ds).ds.length, [], []⟩) (show outS (addC cp ⟨n + (rndH pt it.t it.E ds).ds.length, [], []⟩) (rndH pt it.t it.E ds) σ'' (fun z => some ((unD z).1, Sum.inr (unD z).2)) = some (ys', q) from by rw [hcp] at hk2 ⊢; exact hk2) hbp
    cases hz
    have hRz := hout (Fr.wd ⟨we, Se, mLp l rB :: mDef D :: F, G⟩ Ds'') (envOf a2) w2 (by rw [hcp] at hR2 ⊢; exact hR2)
    refine ⟨_, _, run_endRound (some .ret) hl2, rfl, ?_⟩
    have hrr : ({ rB with state := if (some Code.ret).isNone then .ready else .done, pending := some .ret } : Loop) = { state := .done, pending := some (tgC τ), fn := fn, tmps := tmps, params := #[pt], assign := a, body := c, defers := D } := by
      rw [hrB, hrR, tg_eqR (fun _ e => by cases e) ht]; rfl
    rw [hrr]
    exact close z _ hRz
  | p q => cases hk2
end
end
section
section
variable {P : Program} {cf : Cf} {fr : Fr} {cx σ : Sg} {env : Env} {w : World} {R : Type} {r : R}
theorem range_s (hX : XOK P cf) {g : Operand} {a c : Code} {N : Nd} {K : Tg → Sg → Option R} {Q : Qd} {s : Lp} {it : ISig} {y : AsD it.dom} {τ : Tg} {pt : Nat} {ags : List Nat} {cs : List PD} {Ds : List Nat}
    (hA : DenOK P cf N.n a) (hC : DenOK P cf N.n c) (hna : noR a = true) (hnc : noR c = true) (hrd : N.rd = none) (hpt : pt < N.n) (hg : opv cx σ g = some (.fn it.f cs)) (hit : it ∈ cf.is) (hy : feedC it.dom cs = some y) (hns : s.hd.ns = [])
    (h : rangeD cx σ K s it y τ pt ags (fun cx σ K => den cf a cx σ K) (fun cx σ K => den cf c cx σ K) = some r)
    (hK : ∀ t σ', K t σ' = some r → ∀ Ds' env' w', SmO cx env env' → Rel P (fr.wd Ds') cx σ' env' w' → Q (tgE t) Ds' env' w') (hR : Rel P (fr.wd Ds) cx σ env w) : WpD P N (.rangeFunc g #[pt] a c) Q Ds env w := by
  obtain ⟨⟨ds, ns⟩, sg⟩ := s
  simp only at hns
  subst hns
  obtain ⟨hcl, hcap⟩ := feedC_s hy
  obtain ⟨hB, vs, hst⟩ := hR
  obtain ⟨S0, _, hΓ⟩ := hst.ex
  obtain ⟨cvs, hgv, hlen, hca⟩ := opv_hold hg (gs_lko hΓ g)
  have hRA : Rel P ⟨fr.we, fr.Se, Ds.map mDef ++ fr.F, argFs P it.dom y cvs ++ fr.G⟩ cx σ env w := ⟨hB, vs, hst.weak fun S w ha => All.append (All.left ha) (All.append (All.left (All.right ha)) (All.append (by
    obtain ⟨cvs', hv', hl', hca'⟩ := opv_hold hg (gs_lko ha g)
    rw [hgv] at hv'
    have : cvs = cvs' := by simpa using hv'
    subst this
    exact hcap hl' hca') (All.right (All.right ha))))⟩
  unfold rangeD at h
  simp only at h
  obtain ⟨hcond, h⟩ := grd_s h
  simp only [Bool.and_eq_true] at hcond
  obtain ⟨hm, ⟨hpt', hon⟩, hnot⟩ := hcond
  obtain ⟨hkb, hR1⟩ := rel_keep (ag := ags) (ro := sg.ro) hRA
  obtain ⟨kp, hkp⟩ : ∃ kp, kp = keep σ ags sg.ro := ⟨_, rfl⟩
  rw [← hkp] at h hkb hR1 hnot
  obtain ⟨x0, h1, h2⟩ := out_s (P := P) (cx := addC cx kp) (kp := ⟨kp.nx, [], []⟩) h (bd_keep hkb)
  obtain ⟨r', h3, h4⟩ := bd_s h1
  obtain ⟨vs0, hsl0, hB0, hst0⟩ := rel_out (ds := ds) hm (h2 _ env w hR1)
  obtain ⟨hb, hiok⟩ := hX.is it hit
  have ho : ∀ e ∈ (addC cx kp).ob, e.1 < kp.nx := fun e he => by
    rcases List.mem_append.1 he with he | he
    · exact hkb.o1 e he
    · exact hkb.o2 e he
  have hr : ∀ e ∈ (addC cx kp).rg, ∀ o, refO e.2.2 = some o → o < kp.nx := fun e he o hro => by
    rcases List.mem_append.1 he with he | he
    · exact hkb.r1 e he o hro
    · exact hkb.r2 e he o hro
  intro a0 g1 g2 g3
  refine wpIn_rangeFunc ?_
  intro fn hfn
  rw [show N.F.round = none from hrd]
  obtain ⟨rR, hrR⟩ : ∃ rR : Loop, rR = { state := .ready, pending := none, fn := fn, tmps := a0.tmps, params := #[pt], assign := a, body := c, defers := w.heap.size } := ⟨_, rfl⟩
  obtain ⟨rD, hrD⟩ : ∃ rD : Loop, rD = { state := .done, pending := some (tgC τ), fn := fn, tmps := a0.tmps, params := #[pt], assign := a, body := c, defers := w.heap.size } := ⟨_, rfl⟩
  have hen := run_enterLoop_outer (P := P) (w := w) fn a0.tmps #[pt] a c
  rw [← hrR] at hen
  have hW : St fr.we fr.Se (mLp (w.heap.size + 1) rR :: mDef w.heap.size :: (dsM (fun j => vs0 (kp.nx + j)) ds x0 0 ++ (MS vs0 (addC cx kp).ob ++ (Ds.map mDef ++ fr.F)))) (RS P vs0 env (addC cx kp).rg ++ (argFs P it.dom y cvs ++ fr.G)) ((w.alloc (.deferred (some []))).alloc (.loop rR)) := by
    have q1 := St.allocObj (o := .deferred (some [])) (m := mDef w.heap.size) hst0 (fun k hk => hk) (fun S w' hw => hw)
    have hsz : (w.alloc (.deferred (some []))).heap.size = w.heap.size + 1 := World.size_alloc ..
    refine St.allocObj (o := .loop rR) (m := mLp (w.heap.size + 1) rR) q1 (fun k hk => by rw [hsz]; exact hk) (fun S w' hw => ?_)
    rw [hsz] at hw
    exact hw
  have hW2 := hid_in (x := x0) hsl0 ho hr hW
  have hYS := round_s (P := P) (cf := cf) (cx' := addC cx kp) (env := env) (n := kp.nx) (D := w.heap.size) (l := w.heap.size + 1) (ds := ds) (it := it) (pt := pt) (τ := τ) (a := a) (c := c) (N := N.n) (fn := fn) (tmps := a0.tmps) hA hC hna hnc hpt g1 g3 hm hon hnot ho hr
  rw [← hrR, ← hrD] at hYS
  have hcall := hiok y _ _ _ _ _ x0 r' h3 (w.heap.size + 1) cvs (by omega) hYS _ fr.we fr.Se _ fr.G _ hW2
  have close : ∀ (rc : Loop) (x : DsD ds) (u' : Value) (w3 : World), St fr.we fr.Se (hidM P env (addC cx kp) kp.nx ds w.heap.size (w.heap.size + 1) rc x u' :: (Ds.map mDef ++ fr.F)) fr.G w3 →
      w3.heap[w.heap.size + 1]? = some (.loop rc) ∧ ∀ o, Rel P (fr.wd (w.heap.size :: Ds)) cx (bldS ⟨ds, []⟩ x kp) env (w3.putObj (w.heap.size + 1) (.loop o)) := by
    intro rc x u' w3 hs
    obtain ⟨hsl, q1⟩ := hid_out hs
    refine ⟨mut_frame q1 (i := 0) rfl fun S hp => hp, fun o => ?_⟩
    have q2 := St.putObj (m' := mLp (w.heap.size + 1) o) (o := .loop o) q1 (fun k => Iff.rfl) (fun k hk => hk) (fun S w' hw => hw)
    have q3 : St fr.we fr.Se ([mDef w.heap.size] ++ (dsM (fun j => vsU u' (kp.nx + j)) ds x 0 ++ (MS (vsU u') (addC cx kp).ob ++ (Ds.map mDef ++ fr.F)))) (RS P (vsU u') env (addC cx kp).rg ++ fr.G) (w3.putObj (w.heap.size + 1) (.loop o)) := St.drop (i := 0) q2
    refine rel_in (vs := vsU u') hm hsl (bd_in hm (fun e he => Nat.lt_of_lt_of_le (hkb.o1 e he) (Nat.le_add_right _ _)) (fun e he => Nat.lt_of_lt_of_le (hkb.o2 e he) (Nat.le_add_right _ _)) (fun e he o hro => Nat.lt_of_lt_of_le (hkb.r1 e he o hro) (Nat.le_add_right _ _)) fun e he o hro => Nat.lt_of_lt_of_le (hkb.r2 e he o hro) (Nat.le_add_right _ _)) ?_
    have e1 : MS (vsU u') (addC cx kp).ob = MS (vsU u') kp.ob ++ MS (vsU u') cx.ob := List.map_append
    have e2 : RS P (vsU u') env (addC cx kp).rg = RS P (vsU u') env kp.rg ++ RS P (vsU u') env cx.rg := List.map_append
    rw [e1, e2] at q3
    have q4 : St fr.we fr.Se ((dsM (fun j => vsU u' (kp.nx + j)) ds x 0 ++ (MS (vsU u') kp.ob ++ MS (vsU u') cx.ob)) ++ ([mDef w.heap.size] ++ (Ds.map mDef ++ fr.F))) ((RS P (vsU u') env kp.rg ++ RS P (vsU u') env cx.rg) ++ fr.G) (w3.putObj (w.heap.size + 1) (.loop o)) := by
      refine q3.perm ?_
      rw [← List.append_assoc (dsM _ _ _ _)]
      exact List.perm_append_comm_assoc ..
    show St fr.we fr.Se (dsM _ ds x 0 ++ (MS (vsU u') kp.ob ++ (MS (vsU u') cx.ob ++ ((mDef w.heap.size :: Ds.map mDef) ++ fr.F)))) (RS P (vsU u') env kp.rg ++ (RS P (vsU u') env cx.rg ++ fr.G)) _
    simpa only [List.append_assoc, List.cons_append, List.nil_append] using q4
  refine ⟨w.heap.size + 1, [mkD w.heap.size], ((w.alloc (.deferred (some []))).alloc (.loop rR)), { target := .fn (.func it.f) cvs.toArray, args := #[.func (.yield (w.heap.size + 1)) #[] #[]] }, ((w.alloc (.deferred (some []))).alloc (.loop rR)), it.f, #[.func (.yield (w.heap.size + 1)) #[] #[]] ++ cvs.toArray, ((w.alloc (.deferred (some []))).alloc (.loop rR)), hen, ?_, fun _ _ => trivial, ?_, fun e => by simp [Nd.F, Fence.wide] at e, ?_⟩
  · have : a0.eval g = .func (.func it.f) #[] cvs.toArray := by rw [eval_eq, g3]; exact hgv
    simp only [resolve, this]
    simp [go_sem]
  · simp [invoke, go_sem, run_callFunc hb]
  · have hargs : (#[.func (.yield (w.heap.size + 1)) #[] #[]] ++ cvs.toArray : Array Value) = (Value.func (.yield (w.heap.size + 1)) #[] #[] :: cvs).toArray := by simp
    rw [hargs]
    refine CallsIn.mono (callsIn_wide.2 hcall) ?_
    rintro e w3 ⟨⟨v, rfl⟩, u', hs⟩
    cases hr' : r' with
    | inl x =>
      rw [hr'] at hs h4
      obtain ⟨hl3, hrel⟩ := close rR x u' w3 hs
      refine ⟨none, _, by have := run_endLoop (P := P) hl3 (by rw [hrR]; simp); rw [hrR] at this; exact this, ?_⟩
      exact ⟨g1, w.heap.size :: Ds, by show [mkD w.heap.size] ++ a0.defers = _; rw [g2]; rfl, hK .n _ h4 _ _ _ (by rw [← g3]; exact SmO.refl) (by rw [← g3] at hrel; exact hrel _)⟩
    | inr x =>
      rw [hr'] at hs h4
      obtain ⟨hl3, hrel⟩ := close rD x u' w3 hs
      refine ⟨some (tgC τ), _, by have := run_endLoop (P := P) hl3 (by rw [hrD]; simp); rw [hrD] at this; exact this, ?_⟩
      have fin : ∀ o, liftD N Q (tgE τ) { a0 with defers := [mkD w.heap.size] ++ a0.defers } (w3.putObj (w.heap.size + 1) (.loop o)) := fun o => ⟨g1, w.heap.size :: Ds, by show [mkD w.heap.size] ++ a0.defers = _; rw [g2]; rfl, hK τ _ h4 _ _ _ (by rw [← g3]; exact SmO.refl) (by rw [← g3] at hrel; exact hrel _)⟩
      cases τ with
      | n => exact wpIn_skip (fin _)
      | x i => exact wpIn_exit (fin _)
      | r => exact wpIn_ret (fin _)
      | p q => cases hpt'
end
end
section
section
variable {P : Program} {cf : Cf}
theorem den_s (hm : P.follows .mixedOrders = true) (hT : TTok P cf.tt) (hL : ELok P cf.tt) (hC : ∀ s ∈ cf.cs, SigOK P s) (hX : XOK P cf) {n : Nat} : ∀ (c : Code), okC n c = true → DenOK P cf n c
  | .skip, _, R, r, fr, cx, σ, K, Q, N, hN, hrd, h, Ds, env, w, hK, hR => fun _ h1 h2 h3 => wpIn_skip ⟨h1, Ds, h2, h3 ▸ hK .n σ h Ds env w SmO.refl hR⟩
  | .label _, _, R, r, fr, cx, σ, K, Q, N, hN, hrd, h, Ds, env, w, hK, hR => fun _ h1 h2 h3 => wpIn_label ⟨h1, Ds, h2, h3 ▸ hK .n σ h Ds env w SmO.refl hR⟩
  | .exit id, _, R, r, fr, cx, σ, K, Q, N, hN, hrd, h, Ds, env, w, hK, hR => fun _ h1 h2 h3 => wpIn_exit ⟨h1, Ds, h2, h3 ▸ hK (.x id) σ h Ds env w SmO.refl hR⟩
  | .ret, _, R, r, fr, cx, σ, K, Q, N, hN, hrd, h, Ds, env, w, hK, hR => fun _ h1 h2 h3 => wpIn_ret ⟨h1, Ds, h2, h3 ▸ hK .r σ h Ds env w SmO.refl hR⟩
  | .scope c, ho, R, r, fr, cx, σ, K, Q, N, hN, hrd, h, Ds, env, w, hK, hR => by
    refine WpD_scope (den_s hm hT hL hC hX c ho (K := K) hN hrd h (fun t σ' hk Ds' env' w' hs hR => ?_) hR)
    have := hK t σ' hk Ds' env' w' hs hR
    cases t <;> exact this
  | .region id ops dr, ho, R, r, fr, cx, σ, K, Q, N, hN, hrd, h, Ds, env, w, hK, hR => by
    subst hN
    refine WpD_of ?_
    have := region_s (id := id) (N := N.wd Ds) (fr := fr.wd Ds) hm hT hL hC hX (Q := fun e env w => Q e Ds env w) (kp := fun q σ => K (.p q) σ) (k := fun σ => K .n σ) (fun q σ' hk env' w' hs hR => hK (.p q) σ' hk Ds env' w' hs hR) (fun σ' hk env' w' hs hR => hK .n σ' hk Ds env' w' hs hR) ho h hR
    rwa [Array.toArray_toList] at this
  | .cond c a b, ho, R, r, fr, cx, σ, K, Q, N, hN, hrd, h, Ds, env, w, hK, hR => by
    have ho := (Bool.and_eq_true _ _).mp ho
    have hra : N.rd = none ∨ noR a = true := hrd.imp id fun h => ((Bool.and_eq_true _ _).mp h).1
    have hrb : N.rd = none ∨ noR b = true := hrd.imp id fun h => ((Bool.and_eq_true _ _).mp h).2
    simp only [den] at h
    obtain ⟨hB, vs, hst⟩ := hR
    have hR : Rel P (fr.wd Ds) cx σ env w := ⟨hB, vs, hst⟩
    obtain ⟨S, _, hΓ⟩ := hst.ex
    split at h
    · next hv => exact WpD_cond_t (opv_hold hv (gs_lko hΓ c)) (den_s hm hT hL hC hX a ho.1 hN hra h hK hR)
    · next hv => exact WpD_cond_f (opv_hold hv (gs_lko hΓ c)) (den_s hm hT hL hC hX b ho.2 hN hrb h hK hR)
    · next x hv =>
      have hx : ev env c = .bool x := fV_bool (opv_hold hv (gs_lko hΓ c))
      rcases ifB_s h with ⟨rfl, h⟩ | ⟨rfl, h⟩
      · exact WpD_cond_t hx (den_s hm hT hL hC hX a ho.1 hN hra h hK hR)
      · exact WpD_cond_f hx (den_s hm hT hL hC hX b ho.2 hN hrb h hK hR)
    · cases h
  | .block id c, ho, R, r, fr, cx, σ, K, Q, N, hN, hrd, h, Ds, env, w, hK, hR => by
    refine WpD_block (den_s hm hT hL hC hX c ho (K := fun t σ => match t with
      | .x j => cnd (Nat.beq j id) (K .n σ) (K (.x j) σ)
      | t => K t σ) hN hrd h (fun t σ' hk Ds' env' w' hs hR => ?_) hR)
    cases t with
    | n => exact hK .n σ' hk Ds' env' w' hs hR
    | r => exact hK .r σ' hk Ds' env' w' hs hR
    | p q => exact hK (.p q) σ' hk Ds' env' w' hs hR
    | x j =>
      simp only at hk
      show blockD id Q (.exit j) Ds' env' w'
      simp only [blockD]
      cases hb : Nat.beq j id <;> rw [hb] at hk
      · exact hK (.x j) σ' hk Ds' env' w' hs hR
      · exact hK .n σ' hk Ds' env' w' hs hR
  | .seq a b, ho, R, r, fr, cx, σ, K, Q, N, hN, hrd, h, Ds, env, w, hK, hR => by
    have ho := (Bool.and_eq_true _ _).mp ho
    have hra : N.rd = none ∨ noR a = true := hrd.imp id fun h => ((Bool.and_eq_true _ _).mp h).1
    have hrb : N.rd = none ∨ noR b = true := hrd.imp id fun h => ((Bool.and_eq_true _ _).mp h).2
    simp only [den] at h
    split at h
    · refine WpD_seq (den_s hm hT hL hC hX a ho.1 hN hra h (fun t σ' hk Ds' env' w' hs hR => ?_) hR)
      cases t with
      | n => exact den_s hm hT hL hC hX b ho.2 hN hrb hk (fun t σ2 hk2 Ds2 env2 w2 hs2 hR2 => hK t σ2 hk2 Ds2 env2 w2 (hs.trans hs2) hR2) hR
      | x j => exact hK (.x j) σ' hk Ds' env' w' hs hR
      | r => exact hK .r σ' hk Ds' env' w' hs hR
      | p q => exact hK (.p q) σ' hk Ds' env' w' hs hR
    · next s hs =>
      obtain ⟨x, h1, h2⟩ := bd_s h
      obtain ⟨hkb, hR1⟩ := rel_keep (ag := asg a) (ro := s.ro) hR
      refine WpD_seq (WpD_mono (den_s hm hT hL hC hX a ho.1 (Q := fun e Ds env' w => ∃ t σt, e = tgE t ∧ (match t with
          | .n => den cf b cx σt K
          | t => K t σt) = some r ∧ SmO cx env env' ∧ Rel P (fr.wd Ds) cx σt env' w) hN hra h1 (fun t σ' hk Ds' env' w' hs hR => ?_) hR1) ?_)
      · obtain ⟨y, σt, e1, e2, e3⟩ := inj_s (P := P) hkb hk
        cases e1
        have e4 := (e2 fun t σ => match t with
          | .n => den cf b cx σ K
          | t => K t σ).symm.trans h2
        exact ⟨t, σt, rfl, by cases t <;> exact e4, fun e he => hs e (List.mem_append.2 (.inr he)), e3 _ env' w' hR⟩
      · rintro e Ds' env' w' ⟨t, σt, rfl, hk, hs', hR⟩
        cases t with
        | n => exact den_s hm hT hL hC hX b ho.2 hN hrb hk (fun t σ2 hk2 Ds2 env2 w2 hs2 hR2 => hK t σ2 hk2 Ds2 env2 w2 (hs'.trans hs2) hR2) hR
        | x j => exact hK (.x j) σt hk Ds' env' w' hs' hR
        | r => exact hK .r σt hk Ds' env' w' hs' hR
        | p q => exact hK (.p q) σt hk Ds' env' w' hs' hR
  | .loop c, ho, R, r, fr, cx, σ, K, Q, N, hN, hrd, h, Ds, env, w, hK, hR => by
    simp only [den] at h
    split at h
    · cases h
    · next s hs =>
      obtain ⟨hkb, hR1⟩ := rel_keep (ag := asg c) (ro := s.sg.ro) hR
      obtain ⟨x, h1, h2⟩ := out_s (P := P) (cx := addC cx (keep σ (asg c) s.sg.ro)) (kp := ⟨(keep σ (asg c) s.sg.ro).nx, [], []⟩) h (bd_keep hkb)
      obtain ⟨s0, h3, h4⟩ := bd_s h1
      refine WpD_loop (G := Nat × DsD s.hd.ds) (fun g Ds env' w => loopN _ g.1 g.2 = some s0 ∧ SmO cx env env' ∧ Rel P (fr.wd Ds) (addC cx (keep σ (asg c) s.sg.ro)) (bldS s.hd g.2 ⟨(keep σ (asg c) s.sg.ro).nx, [], []⟩) env' w) (fun g => g.1) (cf.fu, x) ⟨h3, SmO.refl, h2 _ env w hR1⟩ ?_
      rintro ⟨n', x⟩ Ds env1 w ⟨hl, hsm, hR⟩
      cases n' with
      | zero => exact (loopN_z hl).elim
      | succ n' =>
        refine den_s hm hT hL hC hX c ho hN hrd (loopN_s hl) (fun t σ' hk Ds' env' w' hs hR => ?_) hR
        have hsx : SmO cx env env' := hsm.trans fun e he => hs e (List.mem_append.2 (.inr he))
        have fin : (∀ (y : SmD s.sg.tg) (σt : Sg), some y = some s0 → (∀ {R' : Type} (K : Tg → Sg → Option R'), elimS (keep σ (asg c) s.sg.ro) K s.sg.tg y = K t σt) → Rel P (fr.wd Ds') cx σt env' w' → Q (tgE t) Ds' env' w') := fun y σt e1 e2 e3 => by
          cases e1
          exact hK t σt (by rw [← h4]; exact (e2 K).symm) Ds' env' w' hsx e3
        cases t with
        | n =>
          obtain ⟨x', h5, h6⟩ := out_s (P := P) (cx := addC cx (keep σ (asg c) s.sg.ro)) (kp := ⟨(keep σ (asg c) s.sg.ro).nx, [], []⟩) hk (bd_keep hkb)
          exact ⟨(n', x'), ⟨h5, hsx, h6 _ env' w' hR⟩, Nat.lt_succ_self n'⟩
        | x j =>
          obtain ⟨y, σt, e1, e2, e3⟩ := inj_s (P := P) hkb hk
          exact fin y σt e1 e2 (e3 _ env' w' hR)
        | r =>
          obtain ⟨y, σt, e1, e2, e3⟩ := inj_s (P := P) hkb hk
          exact fin y σt e1 e2 (e3 _ env' w' hR)
        | p q =>
          obtain ⟨y, σt, e1, e2, e3⟩ := inj_s (P := P) hkb hk
          exact fin y σt e1 e2 (e3 _ env' w' hR)
  | .rangeFunc g ps a c, ho, R, r, fr, cx, σ, K, Q, N, hN, hrd, h, Ds, env, w, hK, hR => by
    have ho := (Bool.and_eq_true _ _).mp ho
    have ho2 := (Bool.and_eq_true _ _).mp ho.2
    simp only [den] at h
    split at h
    · next f cs s pt hg hs hps =>
      split at h
      · next it τ sh hit htg hns =>
        split at h
        · next y hy =>
          obtain ⟨hnr, h⟩ := grd_s h
          rw [Bool.and_eq_true] at hnr
          obtain ⟨hi1, hi2⟩ := fndI_s hit
          subst hi2
          have hps2 : ps = #[pt] := by cases ps; simp_all
          subst hps2
          have hpt : pt < n := by
            have := ho.1
            simpa using this
          subst hN
          exact range_s hX (den_s hm hT hL hC hX a ho2.1) (den_s hm hT hL hC hX c ho2.2) hnr.1 hnr.2 (hrd.resolve_right (by simp [noR])) hpt hg hi1 hy hns h hK hR
        · cases h
      · cases h
    · cases h
  | .refuse _, _, R, r, fr, cx, σ, K, Q, N, hN, hrd, h, _, _, _, _, _ => by cases h
  | .goto _, _, R, r, fr, cx, σ, K, Q, N, hN, hrd, h, _, _, _, _, _ => by cases h
end
end
section
def takeW : List Nat → World → World
  | [], w => w
  | D :: Ds, w => takeW Ds (w.putObj D (.deferred none))
def marksW : List Nat → World → Prop
  | [], _ => True
  | D :: Ds, w => w.heap[D]? = some (.deferred (some [])) ∧ marksW Ds (w.putObj D (.deferred none))
def mTk (D : Nat) : MF where
  blk k := k = D
  p _ w := w.heap[D]? = some (.deferred none)
  keep h _ hb := (hb D rfl).trans h
  sub h _ := h
  lt h k hk := by subst hk; exact (Array.getElem?_eq_some_iff.1 h).1
section
variable {P : Program} {cf : Cf} {fr : Fr} {cx σ : Sg} {env : Env}
theorem rel_take : ∀ {Ds : List Nat} {w : World}, Rel P (fr.wd Ds) cx σ env w → marksW Ds w ∧ Rel P fr cx σ env (takeW Ds w)
  | [], w, h => ⟨trivial, h⟩
  | D :: Ds, w, h => by
    have h1 : w.heap[D]? = some (.deferred (some [])) := rel_mem h (m := mDef D) (List.mem_cons_self ..) fun S hp => hp
    have h2 := rel_put (A := []) (m := mDef D) (m' := mTk D) (B := Ds.map mDef ++ fr.F) h (fun k => Iff.rfl) (fun k h => h) (o := .deferred none) fun S w' h => h
    have h3 : Rel P (fr.wd Ds) cx σ env (w.putObj D (.deferred none)) := by
      obtain ⟨hB, vs, hst⟩ := h2
      refine ⟨hB, vs, ?_⟩
      have h4 : St fr.we fr.Se ((MS vs σ.ob ++ MS vs cx.ob) ++ ([mTk D] ++ (Ds.map mDef ++ fr.F))) (RS P vs env σ.rg ++ (RS P vs env cx.rg ++ fr.G)) (w.putObj D (.deferred none)) := by
        have : St fr.we fr.Se (MS vs σ.ob ++ (MS vs cx.ob ++ ([] ++ mTk D :: (Ds.map mDef ++ fr.F)))) (RS P vs env σ.rg ++ (RS P vs env cx.rg ++ fr.G)) (w.putObj D (.deferred none)) := hst
        simpa only [List.append_assoc, List.nil_append, List.singleton_append] using this
      have h5 := St.dropM h4
      show St fr.we fr.Se (MS vs σ.ob ++ (MS vs cx.ob ++ (Ds.map mDef ++ fr.F))) (RS P vs env σ.rg ++ (RS P vs env cx.rg ++ fr.G)) _
      simpa only [List.append_assoc] using h5
    obtain ⟨h4, h5⟩ := rel_take h3
    exact ⟨⟨h1, h4⟩, h5⟩
theorem leaves_take {F : Fence} {n : Nat} {fn : Func} {tmps : Array Value} {Q : Ending → World → Prop} : ∀ {Ds : List Nat} {w : World}, marksW Ds w → (∃ v, (results fn tmps).run P (takeW Ds w) = .ok v (takeW Ds w) ∧ Q (.returned v) (takeW Ds w)) → LeavesInM F n P fn tmps Q (Ds.map mkD) .returning w
  | [], w, _, h => h
  | D :: Ds, w, hm, h => ⟨by simp, .inl ⟨D, _, rfl, run_takeDeferred hm.1, leaves_take hm.2 h⟩⟩
theorem calls_wpD {f : FuncId} {fn : Func} {c : Code} {args : List Value} {w : World} {Q : Ending → World → Prop} (hf : P.funcs[f]? = some fn) (hb : fn.body = some c) (hn : Nat.ble args.length fn.ntmps = true)
    (h : ∀ rest, WpD P (Nd.of fn.ntmps) c (fun e Ds env w => (e = .normal ∨ e = .ret) ∧ marksW Ds w ∧ ∀ a : Act, envOf a = env → ∃ v, (results fn a.tmps).run P (takeW Ds w) = .ok v (takeW Ds w) ∧ Q (.returned v) (takeW Ds w)) [] (L ((args.zipIdx 0).map fun x => (x.2, x.1)) rest) w) :
    Calls P f args.toArray w Q := by
  have hn := Nat.le_of_ble_eq_true hn
  refine callsIn_wide.1 (callsIn_of_wp_marks (n := 0) hf hb trivial ?_)
  have hag : agree (envOf ⟨args.toArray ++ Array.replicate (fn.ntmps - args.toArray.size) undef, []⟩) ((args.zipIdx 0).map fun x => (x.2, x.1)) := by
    refine agree_args args 0 _ fun j => ?_
    rw [envOf_args]
    simp [Array.getD_eq_getD_getElem?, List.getD_eq_getElem?_getD]
  refine wpIn_mono (h _ _ (by simp [Nd.of]; omega) rfl (L_agree hag).symm) ?_
  rintro e a' w' ⟨q1, Ds, q2, he, hm, hv⟩
  obtain ⟨v, h1, h2⟩ := hv a' rfl
  rcases he with rfl | rfl
  · show LeavesInM _ _ P fn a'.tmps Q a'.defers .returning w'
    rw [q2, show (Nd.of fn.ntmps).ds = [] from rfl, List.append_nil]
    exact leaves_take hm ⟨v, h1, h2⟩
  · show LeavesInM _ _ P fn a'.tmps Q a'.defers .returning w'
    rw [q2, show (Nd.of fn.ntmps).ds = [] from rfl, List.append_nil]
    exact leaves_take hm ⟨v, h1, h2⟩
theorem leaves_takeP {F : Fence} {n : Nat} {fn : Func} {tmps : Array Value} {ch : List PanicEntry} {Q : Ending → World → Prop} : ∀ {Ds : List Nat} {w : World}, marksW Ds w → Q (.panicked ch) (takeW Ds w) → LeavesInM F n P fn tmps Q (Ds.map mkD) (.panicking ch) w
  | [], w, _, h => h
  | D :: Ds, w, hm, h => ⟨by simp, .inl ⟨D, _, rfl, run_takeDeferred hm.1, leaves_takeP hm.2 h⟩⟩
theorem calls_wpP {f : FuncId} {fn : Func} {c : Code} {args : List Value} {w : World} {Q : Ending → World → Prop} (hf : P.funcs[f]? = some fn) (hb : fn.body = some c) (hn : Nat.ble args.length fn.ntmps = true)
    (h : ∀ rest, WpD P (Nd.of fn.ntmps) c (fun e Ds env w => marksW Ds w ∧ (((e = .normal ∨ e = .ret) ∧ ∀ a : Act, envOf a = env → ∃ v, (results fn a.tmps).run P (takeW Ds w) = .ok v (takeW Ds w) ∧ Q (.returned v) (takeW Ds w)) ∨ ∃ ch, e = .panic ch ∧ Q (.panicked ch) (takeW Ds w))) [] (L ((args.zipIdx 0).map fun x => (x.2, x.1)) rest) w) :
    Calls P f args.toArray w Q := by
  have hn := Nat.le_of_ble_eq_true hn
  refine callsIn_wide.1 (callsIn_of_wp_marks (n := 0) hf hb trivial ?_)
  have hag : agree (envOf ⟨args.toArray ++ Array.replicate (fn.ntmps - args.toArray.size) undef, []⟩) ((args.zipIdx 0).map fun x => (x.2, x.1)) := by
    refine agree_args args 0 _ fun j => ?_
    rw [envOf_args]
    simp [Array.getD_eq_getD_getElem?, List.getD_eq_getElem?_getD]
  refine wpIn_mono (h _ _ (by simp [Nd.of]; omega) rfl (L_agree hag).symm) ?_
  rintro e a' w' ⟨q1, Ds, q2, hm, ⟨he, hv⟩ | ⟨ch, rfl, hq⟩⟩
  · obtain ⟨v, h1, h2⟩ := hv a' rfl
    rcases he with rfl | rfl
    · show LeavesInM _ _ P fn a'.tmps Q a'.defers .returning w'
      rw [q2, show (Nd.of fn.ntmps).ds = [] from rfl, List.append_nil]
      exact leaves_take hm ⟨v, h1, h2⟩
    · show LeavesInM _ _ P fn a'.tmps Q a'.defers .returning w'
      rw [q2, show (Nd.of fn.ntmps).ds = [] from rfl, List.append_nil]
      exact leaves_take hm ⟨v, h1, h2⟩
  · show LeavesInM _ _ P fn a'.tmps Q a'.defers (.panicking ch) w'
    rw [q2, show (Nd.of fn.ntmps).ds = [] from rfl, List.append_nil]
    exact leaves_takeP hm hq
end
end
section
section
variable {P : Program} {cf : Cf} {fr : Fr} {σ : Sg} {vs : Nat → Value} {env : Env} {w : World} {R : Type} {r : R}
theorem L_zip {rest : Env} : ∀ {l : List Value} {i j : Nat} {v : Value}, l[j]? = some v → L ((l.zipIdx i).map fun x => (x.2, x.1)) rest (i + j) = v
  | a :: l, i, 0, v, h => by
    simp only [List.getElem?_cons_zero, Option.some.injEq] at h
    simp [L, h]
  | a :: l, i, j + 1, v, h => by
    simp only [List.zipIdx_cons, List.map_cons, L]
    rw [beq_f (show i + (j + 1) ≠ i by omega)]
    have := L_zip (rest := rest) (l := l) (i := i + 1) (j := j) (v := v) (by simpa using h)
    rw [show i + 1 + j = i + (j + 1) by omega] at this
    exact this
theorem arg_ms : ∀ {dom : List AM} {x : AsD dom} {i : Nat} {l : List Value}, l.length = dom.length → (∀ j v, l[j]? = some v → vs (i + j) = v) → MS vs (argS dom x i).2 = argMs dom x l
  | [], _, _, _, _, _ => rfl
  | a :: dom, x, i, [], hl, _ => by cases hl
  | a :: dom, x, i, v :: l, hl, h => by
    have ih : MS vs (argS dom x.2 (i + 1)).2 = argMs dom x.2 l := arg_ms (by simpa using hl) fun j v hj => by
      have := h (j + 1) v (by simpa using hj)
      rw [← this]; congr 1; omega
    have h0 : vs i = v := h 0 v rfl
    cases a with
    | own t E =>
      show mO t.rep E (vs i) x.1 :: MS vs (argS dom x.2 (i + 1)).2 = mO t.rep E v x.1 :: argMs dom x.2 l
      rw [ih, h0]
    | var t E =>
      show mP t.rep.c E (vs i) x.1 :: MS vs (argS dom x.2 (i + 1)).2 = mP t.rep.c E v x.1 :: argMs dom x.2 l
      rw [ih, h0]
    | _ => exact ih
theorem arg_rs {S : Nat → Prop} : ∀ {dom : List AM} {x : AsD dom} {i : Nat} {l : List Value}, l.length = dom.length → (∀ j v, l[j]? = some v → vs (i + j) = v ∧ env (i + j) = v) → All S (argFs P dom x l) w → All S (RS P vs env (argS dom x i).1) w
  | [], _, _, _, _, _, _ => trivial
  | a :: dom, x, i, [], hl, _, _ => by cases hl
  | a :: dom, x, i, v :: l, hl, h, hA => by
    have ih : All S (RS P vs env (argS dom x.2 (i + 1)).1) w := arg_rs (l := l) (by simpa using hl) (fun j v hj => by
      have := h (j + 1) v (by simpa using hj)
      rw [show i + 1 + j = i + (j + 1) by omega]; exact this) hA.2
    have h0 : vs i = v ∧ env i = v := h 0 v rfl
    have hA1 : (amF P a x.1 v).p S w := hA.1
    cases a with
    | d t => exact ⟨show (fV t.rep x.1 (env i)).p S w by rw [h0.2]; exact hA1, ih⟩
    | q t => exact ⟨show (fP t.rep x.1 (env i)).p S w by rw [h0.2]; exact hA1, ih⟩
    | own t E => exact ⟨show env i = vs i by rw [h0.1, h0.2], ih⟩
    | var t E =>
      obtain ⟨b, hb⟩ := hA1
      exact ⟨⟨show env i = vs i by rw [h0.1, h0.2], b, h0.1.trans hb⟩, ih⟩
    | fn dom' cod' => exact ⟨show (fnF P dom' cod' x.1 (env i)).p S w by rw [h0.2]; exact hA1, ih⟩
theorem arg_ob : ∀ {dom : List AM} {x : AsD dom} {i : Nat}, ∀ e ∈ (argS dom x i).2, e.1 < i + dom.length
  | [], _, _, e, he => absurd he List.not_mem_nil
  | a :: dom, x, i, e, he => by
    have ih : ∀ e ∈ (argS dom x.2 (i + 1)).2, e.1 < i + (a :: dom).length := fun e he => by
      have := arg_ob e he
      simp only [List.length_cons]; omega
    cases a with
    | own t E =>
      rcases List.mem_cons.1 (show e ∈ (i, Od.own t E x.1) :: (argS dom x.2 (i + 1)).2 from he) with rfl | he
      · simp only [List.length_cons]; omega
      · exact ih e he
    | var t E =>
      rcases List.mem_cons.1 (show e ∈ (i, Od.var t E x.1) :: (argS dom x.2 (i + 1)).2 from he) with rfl | he
      · simp only [List.length_cons]; omega
      · exact ih e he
    | _ => exact ih e he
theorem arg_ref : ∀ {dom : List AM} {x : AsD dom} {i : Nat}, ∀ e ∈ (argS dom x i).1, ∀ p, refO e.2.2 = some p → p < i + dom.length
  | [], _, _, e, he => absurd he List.not_mem_nil
  | a :: dom, x, i, e, he => by
    intro p hp
    have ih : ∀ e ∈ (argS dom x.2 (i + 1)).1, ∀ p, refO e.2.2 = some p → p < i + (a :: dom).length := fun e he p hp => by
      have := arg_ref e he p hp
      simp only [List.length_cons]; omega
    cases a with
    | own t E =>
      rcases List.mem_cons.1 (show e ∈ (i, 0, Dv.ow i) :: (argS dom x.2 (i + 1)).1 from he) with rfl | he
      · cases hp; simp only [List.length_cons]; omega
      · exact ih e he p hp
    | var t E =>
      rcases List.mem_cons.1 (show e ∈ (i, 0, Dv.vs i t) :: (argS dom x.2 (i + 1)).1 from he) with rfl | he
      · cases hp; simp only [List.length_cons]; omega
      · exact ih e he p hp
    | d t =>
      rcases List.mem_cons.1 (show e ∈ (i, 0, Dv.d t x.1) :: (argS dom x.2 (i + 1)).1 from he) with rfl | he
      · cases hp
      · exact ih e he p hp
    | q t =>
      rcases List.mem_cons.1 (show e ∈ (i, 0, Dv.q t x.1) :: (argS dom x.2 (i + 1)).1 from he) with rfl | he
      · cases hp
      · exact ih e he p hp
    | fn d c =>
      rcases List.mem_cons.1 (show e ∈ (i, 0, Dv.fp d c x.1) :: (argS dom x.2 (i + 1)).1 from he) with rfl | he
      · cases hp
      · exact ih e he p hp
theorem rel_frzD : ∀ (l : List ResultVar) (ms : List RM) {σ : Sg}, Rel P fr ⟨0, [], []⟩ σ env w → Rel P fr ⟨0, [], []⟩ (frzD σ l ms) env w
  | [], _, _, h => by unfold frzD; exact h
  | .tmp t :: l, [], _, h => by unfold frzD; exact h
  | .tmp t :: l, .d _ :: ms, _, h => by unfold frzD; exact rel_frzD l ms (rel_frz _ h)
  | .tmp t :: l, .own _ _ :: ms, _, h => by unfold frzD; exact rel_frzD l ms h
  | .tmp t :: l, .var _ _ :: ms, _, h => by unfold frzD; exact rel_frzD l ms h
  | .cell t E :: l, [], _, h => by unfold frzD; exact h
  | .cell t E :: l, m :: ms, _, h => by unfold frzD; exact rel_frzD l ms h
theorem retF_s (hT : TTok P cf.tt) {rv : ResultVar} {m : RM} {k : m.D → List Nat → Option R} (h : retF cf σ rv m k = some r) : ∃ x os, k x os = some r ∧
    ∀ vs (fr : Fr) env (A : List MF) (Γ : List FF) w (os' : List Nat), (∀ S w, All S Γ w → ∀ t, Lk P vs env S w ⟨0, [], []⟩ σ t) → (∀ o ∈ os, has os' o = false) → St fr.we fr.Se (A ++ OS vs fr ⟨0, [], []⟩ (delos σ.ob os')) Γ w →
      ∃ v, resE P w env rv v ∧ St fr.we fr.Se (rmM m x v ++ (A ++ OS vs fr ⟨0, [], []⟩ (delos σ.ob (os ++ os')))) (rmF m x v ++ Γ) w := by
  cases rv with
  | tmp t =>
    cases m with
    | d s =>
      simp only [retF] at h
      have hsome := h
      obtain ⟨y, h, hy⟩ := asD_s h
      refine ⟨y, [], h, fun vs fr env A Γ w os' hl _ hst => ⟨env t, rfl, ?_⟩⟩
      refine hst.weak fun S w hΓ => ⟨?_, hΓ⟩
      cases hg : get ⟨0, [], []⟩ σ t 0 with
      | none => rw [hg] at hsome; cases hsome
      | some v => exact hy P vs S w v _ hg (hl S w hΓ t 0 v hg)
    | own s E =>
      simp only [retF] at h
      obtain ⟨x, os, h1, _, h2, h3⟩ := gatF_s h
      refine ⟨x, os, h1, fun vs fr env A Γ w os' hl hn hst => ⟨env t, rfl, ?_⟩⟩
      exact h3 P vs fr env A Γ w os' (fun S w hΓ => hl S w hΓ t) hn hst
    | var s E =>
      simp only [retF] at h
      obtain ⟨x, os, h1, _, h2, h3⟩ := gatF_s h
      refine ⟨x, os, h1, fun vs fr env A Γ w os' hl hn hst => ⟨env t, rfl, ?_⟩⟩
      have h4 := h3 P vs fr env A Γ w os' (fun S w hΓ => hl S w hΓ t) hn hst
      exact h4.weak fun S w hΓ => ⟨(h2 P vs env S w (hl S w hΓ)).2, hΓ⟩
  | cell t E =>
    cases m with
    | own s E' => simp only [retF] at h; cases h
    | var s E' => simp only [retF] at h; cases h
    | d s =>
      simp only [retF] at h
      split at h
      · next o s0 ti hg hti =>
        split at h
        · next s' E' z ho =>
          obtain ⟨hE, h1⟩ := grd_s h
          have hE := beq_t hE
          subst hE
          obtain ⟨e, h2⟩ := cast_s h1
          cases e
          obtain ⟨e, h3⟩ := cast_s h2
          cases e
          refine ⟨_, [o], h3, fun vs fr env A Γ w os' hl hn hst => ?_⟩
          have hp := os_perm (vs := vs) (fr := fr) (cx := ⟨0, [], []⟩) ((fndO_delos (hn o (List.mem_cons_self ..))).trans ho)
          have h3 := St.mid (St.perm hst (List.Perm.append_left _ hp))
          obtain ⟨S, _, hΓ⟩ := hst.ex
          obtain ⟨hv, b, hb⟩ := hl S w hΓ t 0 _ hg
          obtain ⟨⟨zero, ht, _⟩, _⟩ := hT E ti hti
          have h4 : St fr.we fr.Se (mP ti.ty.rep.c E (vs o) z :: (A ++ OS vs fr ⟨0, [], []⟩ (delo (delos σ.ob os') o))) Γ w := h3
          obtain ⟨b', hb', h5⟩ := h4.openP 0 rfl
          rw [hb] at hb'; cases hb'
          refine Ret_cell 0 h5 rfl (hv.trans hb) ht fun v hs hr => ⟨v, hr, ?_⟩
          exact St.drop (i := 0) hs
        · cases h
      · cases h
theorem retD_s (hT : TTok P cf.tt) : ∀ {rvs : List ResultVar} {cod : List RM} {k : RsD cod → List Nat → Option R}, retD cf σ rvs cod k = some r → ∃ x os, k x os = some r ∧
    ∀ vs (fr : Fr) env (Γ : List FF) w, (∀ S w, All S Γ w → ∀ t, Lk P vs env S w ⟨0, [], []⟩ σ t) → St fr.we fr.Se (OS vs fr ⟨0, [], []⟩ σ.ob) Γ w →
      ∃ us, us.length = cod.length ∧ ResAll P w env rvs us ∧ St fr.we fr.Se (resMs cod x us ++ OS vs fr ⟨0, [], []⟩ (delos σ.ob os)) (resFs cod x us ++ Γ) w
  | [], [], k, h => ⟨(), [], h, fun vs fr env Γ w _ hst => ⟨[], rfl, trivial, hst⟩⟩
  | [v], [m], k, h => by
    obtain ⟨x, os, h1, h2⟩ := retF_s hT (h : retF cf σ v m k = some r)
    refine ⟨x, os, h1, fun vs fr env Γ w hl hst => ?_⟩
    obtain ⟨u, h3, h4⟩ := h2 vs fr env [] Γ w [] hl (fun _ _ => rfl) hst
    rw [List.append_nil] at h4
    exact ⟨[u], rfl, ⟨h3, trivial⟩, h4⟩
  | v :: v' :: rvs, m :: m' :: ms, k, h => by
    obtain ⟨x, o, h1, h2⟩ := retF_s hT (h : retF cf σ v m _ = some r)
    obtain ⟨y, os, h3, h4⟩ := retD_s hT h1
    obtain ⟨hn, h3⟩ := grd_s h3
    refine ⟨(x, y), o ++ os, h3, fun vs fr env Γ w hl hst => ?_⟩
    obtain ⟨us, h5, h6, h7⟩ := h4 vs fr env Γ w hl hst
    obtain ⟨u, h8, h9⟩ := h2 vs fr env (resMs (m' :: ms) y us) (resFs (m' :: ms) y us ++ Γ) w os (fun S w hΓ => hl S w (All.right hΓ)) (none_in hn) h7
    refine ⟨u :: us, by simpa using h5, ⟨h8, h6⟩, ?_⟩
    show St _ _ ((rmM m x u ++ resMs (m' :: ms) y us) ++ _) ((rmF m x u ++ resFs (m' :: ms) y us) ++ Γ) w
    rw [List.append_assoc, List.append_assoc]
    exact h9
  | [], _ :: _, _, h => by cases h
  | [_], [], _, h => by cases h
  | [_], _ :: _ :: _, _, h => by cases h
  | _ :: _ :: _, [], _, h => by cases h
  | _ :: _ :: _, [_], _, h => by cases h
theorem denF_s (hm : P.follows .mixedOrders = true) (hT : TTok P cf.tt) (hL : ELok P cf.tt) (hC : ∀ s ∈ cf.cs, SigOK P s) (hX : XOK P cf) {s : Sig} {fn : Func}
    (hf : P.funcs[s.f]? = some fn) (hb : fnB P s.f = true) (hk : s.bk = 0) (hM : ∀ x r, s.M x = some r → denF cf fn s.dom s.cod x = some r) : SigOK P s := by
  refine ⟨hb, fun x r h vs hlen => ?_⟩
  rw [hk]
  show FnG P s.f vs.toArray (argMs s.dom x vs) (argFs P s.dom x vs) oneOr (fun us => resMs s.cod r us) (fun us => resFs s.cod r us) (fun us => us.length = s.cod.length)
  have h := hM x r h
  unfold denF at h
  split at h
  · next c hc =>
    obtain ⟨ho, h⟩ := grd_s h
    rw [Bool.and_eq_true] at ho
    intro we Se F G w hst
    refine calls_wpD hf hc (by rw [hlen]; exact ho.2) fun rest => ?_
    refine den_s (fr := ⟨we, Se, F, G⟩) (N := Nd.of fn.ntmps) hm hT hL hC hX c ho.1 rfl (.inl rfl) h (fun t σ' hk Ds env w _ hR => ?_) ?_
    · obtain ⟨hmk, hR⟩ := rel_take hR
      have fin : retD cf (frzD σ' fn.results.toList s.cod) fn.results.toList s.cod (fun y _ => some y) = some r → ∀ a : Act, envOf a = env →
          ∃ v, (results fn a.tmps).run P (takeW Ds w) = .ok v (takeW Ds w) ∧ ∃ u : List Value, Ending.returned v = .returned (oneOr u) ∧ u.length = s.cod.length ∧ St we Se (resMs s.cod r u ++ F) (resFs s.cod r u ++ G) (takeW Ds w) := fun h a ha => by
        have hR1 := rel_frzD fn.results.toList s.cod hR
        generalize frzD σ' fn.results.toList s.cod = σ1 at h hR1
        obtain ⟨hB, vs, hst⟩ := hR1
        obtain ⟨y, os, e1, e2⟩ := retD_s hT h
        cases e1
        obtain ⟨us, h1, h2, h3⟩ := e2 vs ⟨we, Se, F, G⟩ env _ _ (fun S w hΓ t => gs_lk hΓ t) hst
        refine ⟨_, run_results (rs := fn.results.toList) (by rw [Array.toArray_toList]) (ha ▸ h2), us, rfl, h1, ?_⟩
        exact (St.dropM (B := MS vs (delos σ1.ob os)) h3).weak fun S w hΓ => All.append (All.left hΓ) (All.right (All.right hΓ))
      cases t with
      | n => exact ⟨.inl rfl, hmk, fin hk⟩
      | r => exact ⟨.inr rfl, hmk, fin hk⟩
      | x j => cases hk
      | p q => cases hk
    · have e0 : ∀ j v, vs[j]? = some v → vs.getD (0 + j) undef = v := fun j v hj => by
        rw [Nat.zero_add, List.getD_eq_getElem?_getD, hj]; rfl
      refine ⟨⟨fun e he => ?_, fun _ he => absurd he List.not_mem_nil, fun e he p hp => ?_, fun _ he => absurd he List.not_mem_nil⟩, fun o => vs.getD o undef, ?_⟩
      · have := arg_ob e he; simpa using this
      · have := arg_ref e he p hp; simpa using this
      · have e1 : MS (fun o => vs.getD o undef) (argS s.dom x 0).2 = argMs s.dom x vs := arg_ms hlen e0
        show St we Se (MS _ (argS s.dom x 0).2 ++ ([] ++ F)) _ w
        rw [e1]
        exact hst.weak fun S w hΓ => All.append (arg_rs hlen (fun j v hj => ⟨e0 j v hj, L_zip hj⟩) (All.left hΓ)) (All.right hΓ)
  · cases h
def PQ (we : World) (Se : Nat → Prop) (F : List MF) (G : List FF) (cod : List RM) (z : PX ⊕ RsD cod) (e : Ending) (w : World) : Prop := match z with
  | .inl q => e = .panicked (chOf q) ∧ St we Se F G w
  | .inr r => ∃ u : List Value, e = .returned (oneOr u) ∧ u.length = cod.length ∧ St we Se (resMs cod r u ++ F) (resFs cod r u ++ G) w
theorem denP_run (hm : P.follows .mixedOrders = true) (hT : TTok P cf.tt) (hL : ELok P cf.tt) (hC : ∀ s ∈ cf.cs, SigOK P s) (hX : XOK P cf) {f : FuncId} {dom : List AM} {cod : List RM} {fn : Func} (hf : P.funcs[f]? = some fn) {x : AsD dom} {z : PX ⊕ RsD cod} (h : denP cf fn dom cod x = some z)
    {vs : List Value} (hlen : vs.length = dom.length) {we : World} {Se : Nat → Prop} {F : List MF} {G : List FF} {w : World} (hst : St we Se (argMs dom x vs ++ F) (argFs P dom x vs ++ G) w) : Calls P f vs.toArray w (PQ we Se F G cod z) := by
  unfold denP at h
  split at h
  · next c hc =>
    obtain ⟨ho, h⟩ := grd_s h
    rw [Bool.and_eq_true] at ho
    refine calls_wpP hf hc (by rw [hlen]; exact ho.2) fun rest => ?_
    refine den_s (fr := ⟨we, Se, F, G⟩) (N := Nd.of fn.ntmps) hm hT hL hC hX c ho.1 rfl (.inl rfl) h (fun t σ' hk Ds env w _ hR => ?_) ?_
    · obtain ⟨hmk, hR⟩ := rel_take hR
      refine ⟨hmk, ?_⟩
      have fin : retD cf (frzD σ' fn.results.toList cod) fn.results.toList cod (fun y _ => some (.inr y)) = some z → ∀ a : Act, envOf a = env →
          ∃ v, (results fn a.tmps).run P (takeW Ds w) = .ok v (takeW Ds w) ∧ PQ we Se F G cod z (.returned v) (takeW Ds w) := fun h a ha => by
        have hR1 := rel_frzD fn.results.toList cod hR
        generalize frzD σ' fn.results.toList cod = σ1 at h hR1
        obtain ⟨hB, vs, hst⟩ := hR1
        obtain ⟨y, os, e1, e2⟩ := retD_s hT h
        cases e1
        obtain ⟨us, h1, h2, h3⟩ := e2 vs ⟨we, Se, F, G⟩ env _ _ (fun S w hΓ t => gs_lk hΓ t) hst
        refine ⟨_, run_results (rs := fn.results.toList) (by rw [Array.toArray_toList]) (ha ▸ h2), us, rfl, h1, ?_⟩
        exact (St.dropM (B := MS vs (delos σ1.ob os)) h3).weak fun S w hΓ => All.append (All.left hΓ) (All.right (All.right hΓ))
      cases t with
      | n => exact .inl ⟨.inl rfl, fin hk⟩
      | r => exact .inl ⟨.inr rfl, fin hk⟩
      | x j => cases hk
      | p q =>
        cases hk
        obtain ⟨hB, vs, hst⟩ := hR
        have hst : St we Se ([] ++ (MS vs σ'.ob ++ F)) (RS P vs env σ'.rg ++ ([] ++ G)) (takeW Ds w) := hst
        exact .inr ⟨_, rfl, rfl, (St.dropM (A := []) hst).weak fun S w hΓ => All.right (All.right hΓ)⟩
    · have e0 : ∀ j v, vs[j]? = some v → vs.getD (0 + j) undef = v := fun j v hj => by
        rw [Nat.zero_add, List.getD_eq_getElem?_getD, hj]; rfl
      refine ⟨⟨fun e he => ?_, fun _ he => absurd he List.not_mem_nil, fun e he p hp => ?_, fun _ he => absurd he List.not_mem_nil⟩, fun o => vs.getD o undef, ?_⟩
      · have := arg_ob e he; simpa using this
      · have := arg_ref e he p hp; simpa using this
      · have e1 : MS (fun o => vs.getD o undef) (argS dom x 0).2 = argMs dom x vs := arg_ms hlen e0
        show St we Se (MS _ (argS dom x 0).2 ++ ([] ++ F)) _ w
        rw [e1]
        exact hst.weak fun S w hΓ => All.append (arg_rs hlen (fun j v hj => ⟨e0 j v hj, L_zip hj⟩) (All.left hΓ)) (All.right hΓ)
  · cases h
theorem denP_s (hm : P.follows .mixedOrders = true) (hT : TTok P cf.tt) (hL : ELok P cf.tt) (hC : ∀ s ∈ cf.cs, SigOK P s) (hX : XOK P cf) {p : PSig} {fn : Func}
    (hf : P.funcs[p.s.f]? = some fn) (hb : fnB P p.s.f = true) (hk : p.s.bk = 0) (hM : ∀ x r, p.M x = some r → denP cf fn p.s.dom p.s.cod x = some r) : POK P p := by
  refine ⟨hb, fun x vs hlen => ⟨fun r h => ?_, fun q h we Se F G w hst => denP_run hm hT hL hC hX hf (hM x _ h) hlen hst⟩⟩
  rw [hk]
  exact fun we Se F G w hst => denP_run hm hT hL hC hX hf (hM x _ h) hlen hst
theorem pin_rs {S : Nat → Prop} {pn : Nat → Value} : ∀ {dom : List AM} {i : Nat}, (∀ j, j < dom.length → env (i + j) = pn (i + j)) → All S (RS P vs env (pinL pn dom i)) w
  | [], _, _ => trivial
  | a :: dom, i, h => by
    have ih : All S (RS P vs env (pinL pn dom (i + 1))) w := pin_rs fun j hj => by
      have := h (j + 1) (by simp only [List.length_cons]; omega)
      rw [show i + 1 + j = i + (j + 1) by omega]; exact this
    cases a with
    | own t E => exact ⟨h 0 (by simp), ih⟩
    | var t E => exact ⟨h 0 (by simp), ih⟩
    | _ => exact ih
theorem pin_own {S : Nat → Prop} {l : List Value} : ∀ {dom : List AM} {i : Nat} {us : List Value}, All S (RS P vs env (pinL (fun o => l.getD o undef) dom i)) w → ResAll P w env (ownT dom i) us → us = ownVs dom (l.drop i)
  | [], _, [], _, _ => rfl
  | [], _, _ :: _, _, h => h.elim
  | a :: dom, i, us, hA, h => by
    have e0 : (l.drop i).headD undef = l.getD i undef := by
      rw [List.headD_eq_head?_getD, List.head?_drop, List.getD_eq_getElem?_getD]
    have e1 : (l.drop i).tail = l.drop (i + 1) := by rw [List.tail_drop]
    cases a with
    | own t E =>
      cases us with
      | nil => exact h.elim
      | cons u us =>
        have h1 : env i = u := h.1
        have h2 : env i = l.getD i undef := hA.1
        have ih := pin_own (dom := dom) (i := i + 1) hA.2 h.2
        show u :: us = (l.drop i).headD undef :: ownVs dom (l.drop i).tail
        rw [e0, e1, ← ih, ← h1, h2]
    | var t E =>
      cases us with
      | nil => exact h.elim
      | cons u us =>
        have h1 : env i = u := h.1
        have h2 : env i = l.getD i undef := hA.1
        have ih := pin_own (dom := dom) (i := i + 1) hA.2 h.2
        show u :: us = (l.drop i).headD undef :: ownVs dom (l.drop i).tail
        rw [e0, e1, ← ih, ← h1, h2]
    | d t =>
      have ih := pin_own (dom := dom) (i := i + 1) hA h
      show us = ownVs dom (l.drop i).tail
      rw [e1]; exact ih
    | q t =>
      have ih := pin_own (dom := dom) (i := i + 1) hA h
      show us = ownVs dom (l.drop i).tail
      rw [e1]; exact ih
    | fn d c =>
      have ih := pin_own (dom := dom) (i := i + 1) hA h
      show us = ownVs dom (l.drop i).tail
      rw [e1]; exact ih
theorem resAll_app : ∀ {a b : List ResultVar} {us : List Value}, ResAll P w env (a ++ b) us → ResAll P w env a (us.take a.length) ∧ ResAll P w env b (us.drop a.length)
  | [], b, us, h => ⟨trivial, h⟩
  | r :: a, b, [], h => h.elim
  | r :: a, b, u :: us, h => by
    obtain ⟨h1, h2⟩ := resAll_app (a := a) (b := b) h.2
    exact ⟨⟨h.1, h1⟩, h2⟩
theorem pin_ref {pn : Nat → Value} : ∀ {dom : List AM} {i : Nat}, ∀ e ∈ pinL pn dom i, refO e.2.2 = none
  | [], _, e, he => absurd he List.not_mem_nil
  | a :: dom, i, e, he => by
    cases a with
    | own t E =>
      rcases List.mem_cons.1 (show e ∈ (i, 0, Dv.pin (pn i)) :: pinL pn dom (i + 1) from he) with rfl | he
      · rfl
      · exact pin_ref e he
    | var t E =>
      rcases List.mem_cons.1 (show e ∈ (i, 0, Dv.pin (pn i)) :: pinL pn dom (i + 1) from he) with rfl | he
      · rfl
      · exact pin_ref e he
    | d t => exact pin_ref (dom := dom) (i := i + 1) e he
    | q t => exact pin_ref (dom := dom) (i := i + 1) e he
    | fn d c => exact pin_ref (dom := dom) (i := i + 1) e he
theorem denG_s (hm : P.follows .mixedOrders = true) (hT : TTok P cf.tt) (hL : ELok P cf.tt) (hC : ∀ s ∈ cf.cs, SigOK P s) (hX : XOK P cf) {s : Sig} {fn : Func}
    (hf : P.funcs[s.f]? = some fn) (hb : fnB P s.f = true) (hM : ∀ pn x r, s.M x = some r → denG cf fn s.dom s.cod s.bk pn x = some r) : SigOK P s := by
  refine ⟨hb, fun x r h vs hlen => ?_⟩
  have h := hM (fun o => vs.getD o undef) x r h
  unfold denG at h
  split at h
  · next c hc =>
    obtain ⟨ho, h⟩ := grd_s h
    simp only [Bool.and_eq_true] at ho
    obtain ⟨⟨⟨⟨ho1, ho2⟩, ho3⟩, ho4⟩, ho5⟩ := ho
    have ho3 := beq_t ho3
    have ho5 : 0 < s.bk := Nat.blt_eq.mp ho5
    obtain ⟨b, hbk⟩ : ∃ b, s.bk = b + 1 := ⟨s.bk - 1, by omega⟩
    rw [hbk]
    intro we Se F G w hst
    refine calls_wpD hf hc (by rw [hlen]; exact ho2) fun rest => ?_
    have e0 : ∀ j v, vs[j]? = some v → vs.getD (0 + j) undef = v := fun j v hj => by
      rw [Nat.zero_add, List.getD_eq_getElem?_getD, hj]; rfl
    refine den_s (fr := ⟨we, Se, F, G⟩) (N := Nd.of fn.ntmps) hm hT hL hC hX c ho1 rfl (.inl rfl) h (fun t σ' hk Ds env w _ hR => ?_) ?_
    · obtain ⟨hmk, hR⟩ := rel_take hR
      have fin : retD cf (frzD σ' (fn.results.toList ++ ownT s.dom 0) s.cod) (fn.results.toList ++ ownT s.dom 0) s.cod (fun y _ => some y) = some r → ∀ a : Act, envOf a = env →
          ∃ v, (results fn a.tmps).run P (takeW Ds w) = .ok v (takeW Ds w) ∧ ∃ u : List Value, Ending.returned v = .returned (outV (b + 1) s.cod.length u) ∧ outOk s.dom vs (b + 1) s.cod.length u ∧ St we Se (resMs s.cod r u ++ F) (resFs s.cod r u ++ G) (takeW Ds w) := fun h a ha => by
        obtain ⟨hB0, vs0, hst0⟩ := hR
        obtain ⟨S0, _, hΓ0⟩ := hst0.ex
        have hpin : All S0 (RS P vs0 env (pinL (fun o => vs.getD o undef) s.dom 0)) _ := All.left (All.right hΓ0)
        have hR0 : Rel P ⟨we, Se, F, G⟩ ⟨0, [], []⟩ σ' env (takeW Ds w) := ⟨⟨hB0.o1, fun _ he => absurd he List.not_mem_nil, hB0.r1, fun _ he => absurd he List.not_mem_nil⟩, vs0, hst0.weak fun S w ha => All.append (All.left ha) (All.right (All.right ha))⟩
        have hR1 := rel_frzD (fn.results.toList ++ ownT s.dom 0) s.cod hR0
        generalize frzD σ' (fn.results.toList ++ ownT s.dom 0) s.cod = σ1 at h hR1
        obtain ⟨hB, vs1, hst⟩ := hR1
        obtain ⟨y, os, e1, e2⟩ := retD_s hT h
        cases e1
        obtain ⟨us, h1, h2, h3⟩ := e2 vs1 ⟨we, Se, F, G⟩ env _ _ (fun S w hΓ t => gs_lk hΓ t) hst
        obtain ⟨h4, h5⟩ := resAll_app h2
        have hn : s.cod.length - (b + 1) = fn.results.toList.length := by omega
        have hback := pin_own hpin h5
        rw [List.drop_zero] at hback
        refine ⟨_, run_results (rs := fn.results.toList) (by rw [Array.toArray_toList]) (ha ▸ h4), us, ?_, ⟨h1, by rw [hn]; exact hback⟩, ?_⟩
        · show Ending.returned _ = .returned (oneOr (us.take (s.cod.length - (b + 1))))
          rw [hn]
        · exact (St.dropM (B := MS vs1 (delos σ1.ob os)) h3).weak fun S w hΓ => All.append (All.left hΓ) (All.right (All.right hΓ))
      cases t with
      | n => exact ⟨.inl rfl, hmk, fin hk⟩
      | r => exact ⟨.inr rfl, hmk, fin hk⟩
      | x j => cases hk
      | p q => cases hk
    · refine ⟨⟨fun e he => ?_, fun _ he => absurd he List.not_mem_nil, fun e he p hp => ?_, fun e he p hp => ?_⟩, fun o => vs.getD o undef, ?_⟩
      · have := arg_ob e he; simpa using this
      · have := arg_ref e he p hp; simpa using this
      · rw [pin_ref e he] at hp; cases hp
      · have e1 : MS (fun o => vs.getD o undef) (argS s.dom x 0).2 = argMs s.dom x vs := arg_ms hlen e0
        show St we Se (MS _ (argS s.dom x 0).2 ++ ([] ++ F)) _ w
        rw [e1]
        refine hst.weak fun S w hΓ => All.append (arg_rs hlen (fun j v hj => ⟨e0 j v hj, L_zip hj⟩) (All.left hΓ)) (All.append (pin_rs fun j hj => ?_) (All.right hΓ))
        have hj2 : vs[j]? = some (vs[j]'(by omega)) := List.getElem?_eq_getElem (by omega)
        show L _ _ (0 + j) = vs.getD (0 + j) undef
        rw [e0 j _ hj2]
        exact L_zip hj2
  · cases h
end
end
section
section
variable {P : Program}
def zc : Ty → List Value
  | .i => [.int .i64 0]
  | .u => [.int .u64 0]
  | .b => [.bool false]
  | .ch => [.int .u8 0]
  | .tx => [.string ByteArray.empty]
  | .l _ => [.slice none 0 0]
  | .p s t => zc s ++ zc t
  | .a k t => (List.replicate k (zc t)).flatten
  | .po _ => [.pointer none]
  | .w1 t => zc t
theorem elems_z {α : Type} {e : ERep α} {S : Nat → Prop} {w : World} {x : α} {c : List Value} (h : e.p S x c w) : ∀ k, Elems e S (List.replicate k x) (List.replicate k c).flatten w
  | 0 => rfl
  | k + 1 => ⟨c, _, rfl, h, elems_z h k⟩
theorem zc_s (S : Nat → Prop) (w : World) : ∀ t : Ty, t.rep.p S t.z (zc t) w
  | .i => ⟨rfl, show (-9223372036854775808 : Int) ≤ 0 by decide, show (0 : Int) ≤ 9223372036854775807 by decide⟩
  | .u => ⟨rfl, show (0 : Nat) < 18446744073709551616 by decide⟩
  | .b => rfl
  | .ch => ⟨rfl, show (0 : Nat) < 256 by decide⟩
  | .tx => ⟨ByteArray.empty, rfl, rfl, by decide⟩
  | .l _ => ⟨_, rfl, SlP.nil⟩
  | .p s t => ⟨_, _, rfl, zc_s S w s, zc_s S w t⟩
  | .a k t => ⟨List.length_replicate, elems_z (zc_s S w t) k⟩
  | .po _ => rfl
  | .w1 t => zc_s S w t
theorem zc_len (t : Ty) : (zc t).length = t.n := by
  have := t.rep.len (zc_s (fun _ => True) default t)
  rw [this, t.n_rep]
theorem zc_fld : ∀ {k : Nat} {t : Ty} {i : Nat} {f : Fl t.D}, fld k t i = some f → ∃ pre post, zc t = pre ++ zc f.f ++ post ∧ pre.length = f.off
  | 0, .w1 t, 0, f, h => by
    simp only [fld, Option.some.injEq] at h
    subst h; exact ⟨[], [], by simp [zc], rfl⟩
  | 0, .w1 t, _ + 1, _, h => by cases h
  | 0, .i, _, _, h => by cases h
  | 0, .u, _, _, h => by cases h
  | 0, .b, _, _, h => by cases h
  | 0, .l _, _, _, h => by cases h
  | 0, .p _ _, _, _, h => by cases h
  | 0, .a _ _, _, _, h => by cases h
  | 0, .ch, _, _, h => by cases h
  | 0, .tx, _, _, h => by cases h
  | 0, .po _, _, _, h => by cases h
  | 1, t, i, f, h => by
    unfold fld at h
    cases hb : Nat.beq i 0 <;> rw [hb] at h
    · cases h
    · simp only [cond_true, Option.some.injEq] at h
      subst h; exact ⟨[], [], by simp [Fl.self], rfl⟩
  | k + 2, .p s t, 0, f, h => by
    simp only [fld, Option.some.injEq] at h
    subst h; exact ⟨[], zc t, by simp [zc], rfl⟩
  | k + 2, .p s t, i + 1, f, h => by
    simp only [fld] at h
    split at h
    · next f' hf =>
      simp only [Option.some.injEq] at h
      subst h
      obtain ⟨pre, post, h1, h2⟩ := zc_fld hf
      refine ⟨zc s ++ pre, post, ?_, by rw [List.length_append, zc_len, h2]⟩
      simp only [zc]
      rw [h1]
      simp only [List.append_assoc]
    · cases h
  | k + 2, .i, i, f, h => by simp [fld] at h
  | k + 2, .u, i, f, h => by simp [fld] at h
  | k + 2, .b, i, f, h => by simp [fld] at h
  | k + 2, .l _, i, f, h => by simp [fld] at h
  | k + 2, .a _ _, i, f, h => by simp [fld] at h
def stGot (P : Program) (t n : Nat) : (List (Option Nat) × List (Option (Nat × Bool × Nat))) × Option (List (Option (Nat × Nat))) := (((List.range (n + (1 - n))).map fun i => fldB P t i, (List.range (n + (1 - n))).map fun i => fldT P t i), match plB P t with
  | some a => some (a.toList.map some)
  | none => none)
def stWant (ty : Ty) (n : Nat) : (List (Option Nat) × List (Option (Nat × Bool × Nat))) × Option (List (Option (Nat × Nat))) := (((List.range (n + (1 - n))).map fun i => (fld n ty i).map (·.off), (List.range (n + (1 - n))).map fun i => (fld n ty i).map fun f => (f.off, f.f.rep.agg, f.f.n)), some ((List.range (n + (1 - n))).map fun i => (fld n ty i).map fun f => (f.off, f.f.n)))
def TKchk (P : Program) (t : TypeId) (ti : TI) : Prop := match ti.k with
  | .int k => P.underlying t = some (.int k)
  | .bool => P.underlying t = some .bool
  | .str => P.underlying t = some .string
  | .sl E => P.underlying t = some (.slice E) ∧ ∃ e, ti.ty = .l e
  | .st n => ti.ty.rep.agg = true ∧ stGot P t n = stWant ti.ty n
  | .ar k E => ti.ty.rep.agg = true ∧ P.underlying t = some (.array k E)
  | .pt E => P.underlying t = some (.pointer E)
theorem fld_lt0 : ∀ {n : Nat} {t : Ty} {i : Nat} {f : Fl t.D}, 0 < n → fld n t i = some f → i < n
  | 0, _, _, _, h0, h => absurd h0 (Nat.lt_irrefl 0)
  | 1, t, i, f, _, h => by
    simp only [fld] at h
    cases hb : Nat.beq i 0 <;> rw [hb] at h
    · cases h
    · rw [beq_t hb]; exact Nat.zero_lt_one
  | n + 2, .p s t, 0, f, _, h => Nat.succ_pos _
  | n + 2, .p s t, i + 1, f, _, h => by
    simp only [fld] at h
    split at h
    · next f' hf => exact Nat.succ_lt_succ (fld_lt0 (Nat.succ_pos _) hf)
    · cases h
  | n + 2, .i, _, _, _, h => by simp [fld] at h
  | n + 2, .u, _, _, _, h => by simp [fld] at h
  | n + 2, .b, _, _, _, h => by simp [fld] at h
  | n + 2, .l _, _, _, _, h => by simp [fld] at h
  | n + 2, .a _ _, _, _, _, h => by simp [fld] at h
  | n + 2, .ch, _, _, _, h => by simp [fld] at h
  | n + 2, .tx, _, _, _, h => by simp [fld] at h
  | n + 2, .po _, _, _, _, h => by simp [fld] at h
  | n + 2, .w1 _, _, _, _, h => by simp [fld] at h
theorem fld_lt {n : Nat} {t : Ty} {i : Nat} {f : Fl t.D} (h : fld n t i = some f) : i < n + (1 - n) := by
  cases n with
  | zero =>
    cases t <;> cases i <;> first
      | exact Nat.zero_lt_one
      | cases h
  | succ n => have := fld_lt0 (Nat.succ_pos n) h; omega
theorem TKok.of {t : TypeId} {ti : TI} (h : TKchk P t ti) : TKok P t ti := by
  unfold TKchk at h
  unfold TKok
  split at h
  · next h0 => simp only [h0]; exact h
  · next h0 => simp only [h0]; exact h
  · next h0 => simp only [h0]; exact h
  · next h0 => simp only [h0]; exact h
  · next n h0 =>
    simp only [h0]
    obtain ⟨h1, h⟩ := h
    have h2 := congrArg (fun q => q.1.1) h
    have h2b := congrArg (fun q => q.1.2) h
    have h3 := congrArg Prod.snd h
    simp only [stGot, stWant] at h2 h2b h3
    refine ⟨h1, fun i f hf => ?_, ?_, fun i f hf => ?_⟩
    rotate_left 2
    · have := congrArg (fun l : List (Option (Nat × Bool × Nat)) => l[i]?) h2b
      simp only [List.getElem?_map, List.getElem?_range (fld_lt hf), Option.map_some, hf] at this
      simpa using this
    · have := congrArg (fun l : List (Option Nat) => l[i]?) h2
      simp only [List.getElem?_map, List.getElem?_range (fld_lt hf), Option.map_some, hf] at this
      simpa using this
    · cases hp : plB P t with
      | none =>
        rw [hp] at h3; cases h3
      | some a =>
        rw [hp] at h3
        simp only [Option.some.injEq] at h3
        obtain ⟨fs, h4, h5⟩ := plB_run hp
        refine ⟨fs, h4, a, h5, fun i f hf => ?_⟩
        have := congrArg (fun l : List (Option (Nat × Nat)) => l[i]?) h3
        simp only [List.getElem?_map, List.getElem?_range (fld_lt hf), Option.map_some, hf] at this
        rw [← Array.getElem?_toList]
        cases hx : a.toList[i]? with
        | none => rw [hx] at this; cases this
        | some q => rw [hx] at this; simpa using this
  · next h0 => simp only [h0]; exact h
  · next h0 => simp only [h0]; exact h
theorem TIok.of {t : TypeId} {ti : TI} (h1 : tyB P t = some (ti.ty.rep.agg, ti.ty.n, ti.B, some (ti.ty.rep.val (zc ti.ty)))) (h2 : (Nat.blt 0 ti.B && Nat.blt 0 ti.ty.n) = true) (h3 : TKchk P t ti) : TIok P t ti := by
  rw [Bool.and_eq_true] at h2
  have hz := fun S w => zc_s S w ti.ty
  refine ⟨⟨_, (by rw [Ty.n_rep]; exact TyF.of h1), ?_, fun S w => ?_, (fun s hs => by rw [hs]; rfl), fun n i off s g st hf => ?_⟩, Nat.le_of_ble_eq_true h2.1, (by rw [Ty.n_rep]; exact Nat.le_of_ble_eq_true h2.2), TKok.of h3⟩
  · rw [← Array.length_toList, ERep.val_cells _ (hz (fun _ => True) default), ti.ty.rep.len (hz (fun _ => True) default)]
  · rw [ERep.val_cells _ (hz S w)]; exact hz S w
  · rw [ERep.val_cells _ (hz (fun _ => True) default)]
    obtain ⟨pre, post, h4, h5⟩ := zc_fld hf
    rw [h4, List.append_assoc, List.getElem?_append_right (by simp only at h5; omega), h5, Nat.sub_self]; rfl
theorem TTok.nil : TTok P [] := fun _ _ h => by cases h
theorem TTok.cons {t : TypeId} {ti : TI} {tt : List (Nat × TI)} (h : TIok P t ti) (k : TTok P tt) : TTok P ((t, ti) :: tt) := by
  intro t' ti' hf
  unfold fndA at hf
  cases hb : Nat.beq t t' <;> rw [hb] at hf
  · exact k t' ti' hf
  · cases hf; rw [← beq_t hb]; exact h
theorem TTok.add {t : TypeId} {ti : TI} {tt : List (Nat × TI)} (h1 : tyB P t = some (ti.ty.rep.agg, ti.ty.n, ti.B, some (ti.ty.rep.val (zc ti.ty)))) (h2 : (Nat.blt 0 ti.B && Nat.blt 0 ti.ty.n) = true) (h3 : TKchk P t ti) (k : TTok P tt) : TTok P ((t, ti) :: tt) := TTok.cons (TIok.of h1 h2 h3) k
def elB (tt : List (Nat × TI)) : List (Nat × TI) → Bool
  | [] => true
  | (_, ⟨.l s, .sl E, _⟩) :: r => (match fndA tt E with
    | some ti => (Ty.same ti.ty s).isSome
    | none => false) && elB tt r
  | _ :: r => elB tt r
theorem ELok.of' {tt : List (Nat × TI)} : ∀ {l : List (Nat × TI)}, elB tt l = true → ∀ t s E B, fndA l t = some ⟨.l s, .sl E, B⟩ → ∃ ti, fndA tt E = some ti ∧ ti.ty = s
  | [], _, _, _, _, _, h => by cases h
  | (t', ti') :: r, h, t, s, E, B, hf => by
    have hr : elB tt r = true := by
      unfold elB at h
      split at h
      · cases ‹_ :: _ = []›
      · next hh => cases hh; rw [Bool.and_eq_true] at h; exact h.2
      · next hh => cases hh; exact h
    unfold fndA at hf
    cases hb : Nat.beq t' t <;> rw [hb] at hf
    · exact ELok.of' hr t s E B hf
    · cases hf
      unfold elB at h
      simp only [Bool.and_eq_true] at h
      have h := h.1
      split at h
      · next ti he =>
        refine ⟨ti, he, ?_⟩
        cases hs : Ty.same ti.ty s with
        | none => rw [hs] at h; cases h
        | some p => exact p.down
      · cases h
theorem ELok.of {tt : List (Nat × TI)} (h : elB tt tt = true) : ELok P tt := fun t s E B => ELok.of' h t s E B
theorem EXok.nil : EXok P [] := fun _ _ h => by cases h
theorem EXok.add {f : Nat} {b : Bool} {ex : List (Nat × Bool)} {fn : Func} (h0 : P.funcs[f]? = some fn) (h1 : (fn.name == "runtime.NumGoroutine") = false) (h2 : fn.body = none) (h3 : (Extern.findNext fn).isNone = true)
    (h4 : b = true → Extern.find fn = some (fun args => do
      let (x, y, c) ← Extern.MathBitsCarry.three "Add64" args
      pure (Extern.MathBitsCarry.pair ((x + y + c) % Extern.MathBitsCarry.m64) ((x + y + c) / Extern.MathBitsCarry.m64))))
    (h5 : b = false → Extern.find fn = some (fun args => do
      let (x, y, b) ← Extern.MathBitsCarry.three "Sub64" args
      pure (Extern.MathBitsCarry.pair ((x + Extern.MathBitsCarry.m64 - y - b) % Extern.MathBitsCarry.m64) (if x < y + b then 1 else 0)))) (k : EXok P ex) : EXok P ((f, b) :: ex) := by
  intro f' b' hf
  unfold fndA at hf
  cases hb : Nat.beq f f' <;> rw [hb] at hf
  · exact k f' b' hf
  · cases hf; rw [← beq_t hb]; exact ⟨fn, h0, h1, h2, h3, h4, h5⟩
theorem cN : ∀ s ∈ ([] : List Sig), SigOK P s := fun _ h => absurd h List.not_mem_nil
theorem cC {s : Sig} {l : List Sig} (h : SigOK P s) (k : ∀ s ∈ l, SigOK P s) : ∀ q ∈ s :: l, SigOK P q := by grind
theorem sg0 {s : Sig} (hb : fnB P s.f = true) (hM : ∀ x, s.M x = none) : SigOK P s := ⟨hb, fun x r h => by rw [hM x] at h; cases h⟩
theorem XOK.of {tt : List (Nat × TI)} {ex : List (Nat × Bool)} {cs : List Sig} {an : An} {fu : Nat} (hX : EXok P ex) (hp : P = Tryz.prog) : XOK P ⟨tt, cs, an, fu, ex, [], [], [], []⟩ := ⟨hX, fun _ h => absurd h List.not_mem_nil, fun _ h => absurd h List.not_mem_nil, fun _ h => absurd h List.not_mem_nil, hp, fun _ h => absurd h List.not_mem_nil⟩
theorem sgP (hm : P.follows .mixedOrders = true) {tt : List (Nat × TI)} {ex : List (Nat × Bool)} (hT : TTok P tt) (hL : ELok P tt) (hX : EXok P ex) (hp : P = Tryz.prog) {cs : List Sig} (an : An) {fu : Nat} {s : Sig} {fn : Func} (hf : P.funcs[s.f]? = some fn) (hC : ∀ s ∈ cs, SigOK P s) (hb : fnB P s.f = true) (hk : s.bk = 0) (hM : ∀ x, denF ⟨tt, cs, an, fu, ex, [], [], [], []⟩ fn s.dom s.cod x = s.M x) : SigOK P s :=
  denF_s (cf := ⟨tt, cs, an, fu, ex, [], [], [], []⟩) hm hT hL hC (.of hX hp) hf hb hk fun x r h => (hM x).trans h
theorem sgG (hm : P.follows .mixedOrders = true) {tt : List (Nat × TI)} {ex : List (Nat × Bool)} (hT : TTok P tt) (hL : ELok P tt) (hX : EXok P ex) (hp : P = Tryz.prog) {cs : List Sig} (an : An) {fu : Nat} {s : Sig} {fn : Func} (hf : P.funcs[s.f]? = some fn) (hC : ∀ s ∈ cs, SigOK P s) (hb : fnB P s.f = true) (hM : ∀ pn x, denG ⟨tt, cs, an, fu, ex, [], [], [], []⟩ fn s.dom s.cod s.bk pn x = s.M x) : SigOK P s :=
  denG_s (cf := ⟨tt, cs, an, fu, ex, [], [], [], []⟩) hm hT hL hC (.of hX hp) hf hb fun pn x r h => (hM pn x).trans h
end
end
section
def argT : (dom : List Ty) → TsD dom → Nat → List (Nat × Nat × Dv)
  | [], _, _ => []
  | t :: r, x, i => (i, 0, .d t x.1) :: argT r x.2 (i + 1)
def endC (g : FuncId) (t : Nat) (σ : Sg) : Option (List PD) := match get ⟨0, [], []⟩ σ t 0 with
  | some (.fn f cs) => grd (Nat.beq f g) (some cs)
  | _ => none
def denC (cf : Cf) (fn : Func) (dom : List Ty) (g : FuncId) (x : TsD dom) : Option (List PD) := match fn.body, fn.results.toList with
  | some c, [.tmp t] => grd (okC fn.ntmps c && Nat.ble dom.length fn.ntmps) <| den cf c ⟨0, [], []⟩ ⟨0, argT dom x 0, []⟩ fun q σ => match q with
    | .r => endC g t σ
    | .n => endC g t σ
    | _ => none
  | _, _ => none
def endM (t : Ty) (E E1 : TypeId) (ix : List Nat) (lo n : Nat) (σ : Sg) : Option (List (List t.D)) := match get ⟨0, [], []⟩ σ 3 0 with
  | some (.mv o lo' n') => (match fndO σ.ob o with
    | some (.mat t' E' F' xss ix') => grd (Nat.beq E E' && Nat.beq E1 F') <| Ty.cast (.l (.l t')) (.l (.l t)) xss fun y => ck (lo' = lo ∧ n' = n ∧ ix' = ix) (some y)
    | _ => none)
  | _ => none
def denM (cf : Cf) (fn : Func) (t : Ty) (E E1 : TypeId) (pn : Value) (xss : List (List t.D)) (ix : List Nat) (r : Nat) (a p : Int) (lo n : Nat) : Option (List (List t.D)) := match fn.body, fn.results.toList with
  | some c, [] => grd (okC fn.ntmps c && Nat.ble 4 fn.ntmps) <| den cf c ⟨0, [(3, 0, .pin pn)], []⟩ ⟨1, [(0, 0, .rw 0 r), (1, 0, .d .i a), (2, 0, .d .i p), (3, 0, .mv 0 lo n)], [(0, .mat t E E1 xss ix)]⟩ fun q σ => match q with
    | .r => endM t E E1 ix lo n σ
    | .n => endM t E E1 ix lo n σ
    | _ => none
  | _, _ => none
section
variable {P : Program} {cf : Cf} {env : Env} {w : World}
theorem argT_rs {S : Nat → Prop} {vs : Nat → Value} : ∀ {dom : List Ty} {x : TsD dom} {i : Nat} {l : List Value}, l.length = dom.length → (∀ j v, l[j]? = some v → env (i + j) = v) → All S (tsF dom x l) w → All S (RS P vs env (argT dom x i)) w
  | [], _, _, _, _, _, _ => trivial
  | a :: dom, x, i, [], hl, _, _ => by cases hl
  | a :: dom, x, i, v :: l, hl, h, hA => by
    have ih : All S (RS P vs env (argT dom x.2 (i + 1))) w := argT_rs (l := l) (by simpa using hl) (fun j v hj => by
      have := h (j + 1) v (by simpa using hj)
      rw [show i + 1 + j = i + (j + 1) by omega]; exact this) hA.2
    have h0 : env i = v := h 0 v rfl
    have hA1 : (fV a.rep x.1 v).p S w := hA.1
    exact ⟨show (fV a.rep x.1 (env i)).p S w by rw [h0]; exact hA1, ih⟩
theorem argT_ref : ∀ {dom : List Ty} {x : TsD dom} {i : Nat}, ∀ e ∈ argT dom x i, refO e.2.2 = none
  | [], _, _, e, he => absurd he List.not_mem_nil
  | a :: dom, x, i, e, he => by
    rcases List.mem_cons.1 he with rfl | he
    · rfl
    · exact argT_ref e he
theorem denC_s (hm : P.follows .mixedOrders = true) (hT : TTok P cf.tt) (hL : ELok P cf.tt) (hC : ∀ s ∈ cf.cs, SigOK P s) (hX : XOK P cf) {s : CSig} {fn : Func}
    (hf : P.funcs[s.f]? = some fn) (hb : fnB P s.f = true) (hM : ∀ x, denC cf fn s.dom s.g x = some (s.mc x)) : CSigOK P s := by
  refine ⟨hb, fun x vs hlen => FnG.plain ?_⟩
  have h := hM x
  unfold denC at h
  split at h
  · next c t hc hrs =>
    obtain ⟨ho, h⟩ := grd_s h
    rw [Bool.and_eq_true] at ho
    intro we Se F G w hst
    refine calls_wpD hf hc (by rw [hlen]; exact ho.2) fun rest => ?_
    refine den_s (fr := ⟨we, Se, F, G⟩) (N := Nd.of fn.ntmps) hm hT hL hC hX c ho.1 rfl (.inl rfl) h (fun q σ' hk Ds env w _ hR => ?_) ?_
    · obtain ⟨hmk, hR⟩ := rel_take hR
      have fin : endC s.g t σ' = some (s.mc x) → ∀ a : Act, envOf a = env →
          ∃ v, (results fn a.tmps).run P (takeW Ds w) = .ok v (takeW Ds w) ∧ ∃ u : Value, Ending.returned v = .returned u ∧ True ∧ St we Se ([] ++ F) ([cloF s.g (s.mc x) u] ++ G) (takeW Ds w) := fun h a ha => by
        unfold endC at h
        split at h
        · next f cs hg =>
          obtain ⟨hfg, h1⟩ := grd_s h
          have hfg := beq_t hfg
          subst hfg
          cases h1
          obtain ⟨hB, vs', hst'⟩ := hR
          have hst2 : St we Se (MS vs' σ'.ob ++ F) (RS P vs' env σ'.rg ++ ([] ++ G)) (takeW Ds w) := hst'
          refine ⟨_, run_results (rs := [.tmp t]) (vs := [env t]) (by rw [← hrs, Array.toArray_toList]) (ha ▸ ⟨rfl, trivial⟩), env t, rfl, trivial, ?_⟩
          have h3 := St.dropM (A := []) (B := MS vs' σ'.ob) (C := F) (by simpa using hst2)
          refine h3.weak fun S w hΓ => ⟨?_, ?_⟩
          · exact gs_lk (fr := ⟨we, Se, F, G⟩) (cx := ⟨0, [], []⟩) (show All S (GS P vs' env ⟨we, Se, F, G⟩ ⟨0, [], []⟩ σ') w from hΓ) t 0 _ hg
          · exact All.right hΓ
        · cases h
      cases q with
      | n => exact ⟨.inl rfl, hmk, fin hk⟩
      | r => exact ⟨.inr rfl, hmk, fin hk⟩
      | x j => cases hk
      | p q => cases hk
    · refine ⟨⟨fun _ he => absurd he List.not_mem_nil, fun _ he => absurd he List.not_mem_nil, fun e he p hp => ?_, fun _ he => absurd he List.not_mem_nil⟩, fun _ => undef, ?_⟩
      · rw [argT_ref e he] at hp; cases hp
      · show St we Se ([] ++ ([] ++ F)) _ w
        exact hst.weak fun S w hΓ => All.append (argT_rs hlen (fun j v hj => L_zip hj) (All.left hΓ)) (All.right hΓ)
  · cases h
theorem mt_len {α : Type} {e : ERep α} {E E1 : TypeId} {u : Value} {xss : List (List α)} {ix : List Nat} {S : Nat → Prop} (h : (mMt e E E1 u xss ix).p S w) : ∀ a k c, outW u = .slice a k c → a.isSome = true → k = ix.length := by
  intro a k c h1 h2
  rcases mo_shape (mt_s h).2.1 with ⟨hv, _⟩ | ⟨b, cap, hv, _⟩
  · rw [h1] at hv; cases hv; cases h2
  · rw [h1] at hv; cases hv; rfl
theorem get_any {cx σ : Sg} {t i : Nat} {d : Dv} (h : get ⟨0, [], []⟩ σ t i = some d) : get cx σ t i = some d := by
  unfold get at h ⊢
  split at h
  · exact h
  · cases h
theorem denM_s (hm : P.follows .mixedOrders = true) (hT : TTok P cf.tt) (hL : ELok P cf.tt) (hC : ∀ s ∈ cf.cs, SigOK P s) (hX : XOK P cf) {s : MSig} {fn : Func}
    (hf : P.funcs[s.f]? = some fn) (hb : fnB P s.f = true) (hM : ∀ pn xss ix r a p lo n z, s.M xss ix r a p lo n = some z → denM cf fn s.t s.E s.E1 pn xss ix r a p lo n = some z) : MSigOK P s := by
  refine ⟨hb, fun xss ix r a p lo n z hz u hr hv hru hvu hai hpi we Se F G w hst => ?_⟩
  have h := hM hv xss ix r a p lo n z hz
  unfold denM at h
  split at h
  · next c hc hrs =>
    obtain ⟨ho, h⟩ := grd_s h
    rw [Bool.and_eq_true] at ho
    have hlen0 : ∀ a k c, outW u = .slice a k c → a.isSome = true → k = ix.length := mut_frame hst (i := 0) rfl fun S hp => mt_len hp
    refine calls_wpD (args := [hr, .int .i64 a, .int .i64 p, hv]) hf hc ho.2 fun rest => ?_
    refine den_s (fr := ⟨we, Se, F, G⟩) (N := Nd.of fn.ntmps) hm hT hL hC hX c ho.1 rfl (.inl rfl) h (fun q σ' hk Ds env w _ hR => ?_) ?_
    · obtain ⟨hmk, hR⟩ := rel_take hR
      have fin : endM s.t s.E s.E1 ix lo n σ' = some z → ∀ a : Act, envOf a = env →
          ∃ v, (results fn a.tmps).run P (takeW Ds w) = .ok v (takeW Ds w) ∧ ∃ v' u', Ending.returned v = .returned v' ∧ outW u' = outW u ∧ St we Se (mMt s.t.rep s.E s.E1 u' z ix :: F) G (takeW Ds w) := fun h a ha => by
        unfold endM at h
        split at h
        · next o lo' n' hg =>
          split at h
          · next t' E' F' zss ix' ho =>
            obtain ⟨hE, h1⟩ := grd_s h
            rw [Bool.and_eq_true] at hE
            have hE1 := beq_t hE.1
            have hE2 := beq_t hE.2
            subst hE1 hE2
            obtain ⟨e, h2⟩ := cast_s h1
            cases e
            obtain ⟨⟨rfl, rfl, rfl⟩, h3⟩ := ck_s h2
            cases h3
            obtain ⟨hB, vs', hst'⟩ := hR
            obtain ⟨S0, _, hΓ0⟩ := hst'.ex
            have hpin : env 3 = hv := (All.left (All.right hΓ0)).1
            have hmv : MvV (outW (vs' o)) lo' n' (env 3) := gs_lk hΓ0 3 0 _ (get_any hg)
            rw [hpin] at hmv
            have h2 : St we Se (mMt s.t.rep s.E s.E1 (vs' o) zss ix' :: OS vs' ⟨we, Se, F, G⟩ ⟨0, [(3, 0, .pin hv)], []⟩ (delo σ'.ob o)) (GS P vs' env ⟨we, Se, F, G⟩ ⟨0, [(3, 0, .pin hv)], []⟩ σ') (takeW Ds w) := os_out ho hst'
            have hlen1 : ∀ a k c, outW (vs' o) = .slice a k c → a.isSome = true → k = ix'.length := mut_frame h2 (i := 0) rfl fun S hp => mt_len hp
            refine ⟨_, run_results (rs := []) (vs := []) (by rw [← hrs, Array.toArray_toList]) trivial, _, vs' o, rfl, hmv.same hvu hlen1 hlen0, ?_⟩
            have h3 : St we Se ([mMt s.t.rep s.E s.E1 (vs' o) zss ix'] ++ (MS vs' (delo σ'.ob o) ++ F)) (GS P vs' env ⟨we, Se, F, G⟩ ⟨0, [(3, 0, .pin hv)], []⟩ σ') (takeW Ds w) := h2
            exact (St.dropM h3).weak fun S w hΓ => All.right (All.right hΓ)
          · cases h
        · cases h
      cases q with
      | n => exact ⟨.inl rfl, hmk, fin hk⟩
      | r => exact ⟨.inr rfl, hmk, fin hk⟩
      | x j => cases hk
      | p q => cases hk
    · refine ⟨⟨fun e he => ?_, fun _ he => absurd he List.not_mem_nil, fun e he q hq => ?_, fun e he q hq => ?_⟩, fun _ => u, ?_⟩
      · obtain rfl := List.mem_singleton.1 he
        exact Nat.zero_lt_one
      · simp only [List.mem_cons, List.not_mem_nil, or_false] at he
        rcases he with rfl | rfl | rfl | rfl <;> cases hq <;> exact Nat.zero_lt_one
      · obtain rfl := List.mem_singleton.1 he
        cases hq
      · refine hst.weak fun S w hΓ => ⟨hru, i64_fV hai, i64_fV hpi, hvu, rfl, hΓ⟩
  · cases h
end
end
section
theorem ext_K {ι : Type _} {R : Type} (S : ι → Tg × Sg) (f : ι → Option R) (inj : ∀ i j, S i = S j → f i = f j) : ∃ K : Tg → Sg → Option R, (∀ i, K (S i).1 (S i).2 = f i) ∧ ∀ t σ r, K t σ = some r → ∃ i, S i = (t, σ) ∧ f i = some r := by
  classical
  refine ⟨fun t σ => if h : ∃ i, S i = (t, σ) then f h.choose else none, fun i => ?_, fun t σ r h => ?_⟩
  · have h : ∃ j, S j = ((S i).1, (S i).2) := ⟨i, rfl⟩
    simp only [dif_pos h]
    exact inj _ _ h.choose_spec
  · by_cases h1 : ∃ i, S i = (t, σ)
    · simp only [dif_pos h1] at h
      exact ⟨_, h1.choose_spec, h⟩
    · simp only [dif_neg h1] at h
      cases h
def chS (E : TypeId) {X Y : Type} (mX : X → Value → MF) (mY : Y → Value → MF) (g : List Int → X → Option (List Int × (X ⊕ Y))) (n all : Int) (x : X) (xs : List Int) : Sg :=
  ⟨2, [(4, 0, .ow 1), (0, 0, .yd 0), (1, 0, .q .i n), (2, 0, .q .i all)], [(1, .own .i E xs), (0, .hid .i E X Y mX mY g x)]⟩
section
variable {P : Program} {fr : Fr} {σ : Sg} {env : Env} {w : World} {E : TypeId} {X Y : Type} {mX : X → Value → MF} {mY : Y → Value → MF} {g : List Int → X → Option (List Int × (X ⊕ Y))} {n all : Int} {x : X} {y : Y} {xs : List Int} {o p : Nat}
theorem ch_re (h4 : get ⟨0, [], []⟩ σ 4 0 = some (.ow p)) (h0 : get ⟨0, [], []⟩ σ 0 0 = some (.yd o)) (h1 : get ⟨0, [], []⟩ σ 1 0 = some (.q .i n)) (h2 : get ⟨0, [], []⟩ σ 2 0 = some (.q .i all)) (ho : fndO σ.ob o = some (.hid .i E X Y mX mY g x)) (hp : fndO σ.ob p = some (.own .i E xs))
    (hne : Nat.beq o p = false) (h : Rel P fr ⟨0, [], []⟩ σ env w) : Rel P fr ⟨0, [], []⟩ (chS E mX mY g n all x xs) env w := by
  obtain ⟨hB, vs, hst⟩ := h
  have h5 := os_out2 hne ho hp hst
  refine ⟨⟨fun e he => ?_, fun _ he => absurd he List.not_mem_nil, fun e he q hq => ?_, fun _ he => absurd he List.not_mem_nil⟩, fun k => if k = 0 then vs o else vs p, ?_⟩
  · simp only [chS, List.mem_cons, List.not_mem_nil, or_false] at he ⊢
    rcases he with rfl | rfl <;> simp
  · simp only [chS, List.mem_cons, List.not_mem_nil, or_false] at he ⊢
    rcases he with rfl | rfl | rfl | rfl <;> cases hq <;> simp
  · have h6 : St fr.we fr.Se ([moF vs (o, .hid .i E X Y mX mY g x), moF vs (p, .own .i E xs)] ++ (MS vs (delo (delo σ.ob o) p) ++ fr.F)) (GS P vs env fr ⟨0, [], []⟩ σ) w := h5
    have h7 : St fr.we fr.Se ([moF vs (p, .own .i E xs), moF vs (o, .hid .i E X Y mX mY g x)] ++ fr.F) (GS P vs env fr ⟨0, [], []⟩ σ) w := (St.dropM h6).perm (List.Perm.swap ..)
    refine h7.weak fun S w ha => ⟨?_, ?_, ?_, ?_, ?_⟩
    · exact gs_lk ha 4 0 _ h4
    · exact gs_lk ha 0 0 _ h0
    · exact gs_lk ha 1 0 _ h1
    · exact gs_lk ha 2 0 _ h2
    · exact All.right (All.right ha)
theorem ch_hid {t : Ty} {g : List t.D → X → Option (List t.D × (X ⊕ Y))} (ho : fndO σ.ob o = some (.hid t E X Y mX mY g x)) (h : Rel P fr ⟨0, [], []⟩ σ env w) : ∃ u', St fr.we fr.Se (mX x u' :: fr.F) fr.G w := by
  obtain ⟨hB, vs, hst⟩ := h
  obtain ⟨_, h2⟩ := St.unpr (St.grp.1 (os_out ho hst))
  have h3 : St fr.we fr.Se ([mX x ((hvW (vs o)).headD undef)] ++ (MS vs (delo σ.ob o) ++ fr.F)) (GS P vs env fr ⟨0, [], []⟩ σ) w := h2
  exact ⟨_, (St.dropM h3).weak fun S w ha => All.right (All.right ha)⟩
theorem ch_hiy (ho : fndO σ.ob o = some (.hiy Y mY y)) (h : Rel P fr ⟨0, [], []⟩ σ env w) : ∃ u', St fr.we fr.Se (mY y u' :: fr.F) fr.G w := by
  obtain ⟨hB, vs, hst⟩ := h
  have h2 := os_out ho hst
  have h3 : St fr.we fr.Se ([mY y ((hvW (vs o)).headD undef)] ++ (MS vs (delo σ.ob o) ++ fr.F)) (GS P vs env fr ⟨0, [], []⟩ σ) w := h2
  exact ⟨_, (St.dropM h3).weak fun S w ha => All.right (All.right ha)⟩
end
end
section
section
variable {P : Program}
theorem fn_fnG {U : Type} {f : FuncId} {args : Array Value} {Γ : List FF} {val : U → Value} {facts : U → List FF} {ok : U → Prop} (h : Fn P f args Γ val facts ok) : FnG P f args [] Γ val (fun _ => []) facts ok := by
  rintro we Se F G w ⟨h1, h2, h3, S, h4, h5, h6, h7, h8⟩
  refine (h w S h5 (All.left h8)).mono ?_
  rintro e w' ⟨u, e1, e2, e3, e4⟩
  exact ⟨u, e1, e2, h1.trans e3, h2, h3, S, h4, fun k hk => h5 k (Nat.le_trans e3.size hk), h6, AllM.keep e3.to (fun m hm i hi => e3.block i (AllM.lt h7 m hm i hi) trivial) h7, All.append e4 (All.keep e3.to (All.right h8))⟩
theorem FnG.to {U V : Type} {f : FuncId} {args : Array Value} {ms : List MF} {Γ : List FF} {val : U → Value} {own : U → List MF} {facts : U → List FF} {ok : U → Prop} {val' : V → Value} {own' : V → List MF} {facts' : V → List FF} {ok' : V → Prop}
    (h : FnG P f args ms Γ val own facts ok) (g : U → V) (h1 : ∀ u, val u = val' (g u)) (h2 : ∀ u, own u = own' (g u)) (h3 : ∀ u, ok u → ok' (g u)) (h4 : ∀ u, ok u → ∀ S w, All S (facts u) w → All S (facts' (g u)) w) : FnG P f args ms Γ val' own' facts' ok' := by
  intro we Se F G w hst
  refine (h we Se F G w hst).mono ?_
  rintro e w' ⟨u, e1, e2, e3⟩
  exact ⟨g u, by rw [e1, h1], h3 u e2, by rw [← h2]; exact e3.weak fun S w ha => All.append (h4 u e2 S w (All.left ha)) (All.right ha)⟩
theorem sig_d1 {f : FuncId} {s t : Ty} {M : s.D → Option t.D} (hb : fnB P f = true) (h : ∀ x r v, M x = some r → Fn P f [v].toArray [fV s.rep x v] (fun u : Value => u) (fun u => [fV t.rep r u]) (fun _ => True)) : SigOK P ⟨f, [.d s], [.d t], fun x => M x.1, 0⟩ := by
  refine ⟨hb, fun x r hM vs hl => ?_⟩
  match vs, hl with
  | [v], _ => exact (fn_fnG (h x.1 r v hM)).to (fun u => [u]) (fun _ => rfl) (fun _ => rfl) (fun _ _ => rfl) fun u _ S w ha => ha
theorem sig_ui {f : FuncId} {M : Nat → Option Int} (hb : fnB P f = true) (h : ∀ x r, x < 18446744073709551616 → M x = some r → Fn P f [.int .u64 (x : Int)].toArray [] (fun _ : Unit => .int .i64 r) (fun _ => []) (fun _ => InR r)) : SigOK P ⟨f, [.d .u], [.d .i], fun x => M x.1, 0⟩ := by
  refine ⟨hb, fun x r hM vs hl => ?_⟩
  match vs, hl with
  | [v], _ =>
    intro we Se F G w hst
    obtain ⟨S0, _, hΓ⟩ := hst.ex
    obtain ⟨hv, hx⟩ := fV_u64 (show (fV eU x.1 v).p S0 w from hΓ.1)
    have := fn_fnG (h x.1 r hx hM)
    rw [← hv] at this
    have h2 : FnG P f [v].toArray [] [] oneOr (fun us => resMs [RM.d .i] r us) (fun us => resFs [RM.d .i] r us) (fun us => us.length = 1) := this.to (fun _ => [.int .i64 r]) (fun _ => rfl) (fun _ => rfl) (fun _ _ => rfl) fun u hu S w ha => ⟨i64_fV hu, trivial⟩
    exact h2 we Se F G w (hst.weak fun S w ha => ha.2)
end
end
section
def HOK (P : Program) (f : FuncId) (T : TypeId) : Prop := fnB P f = true ∧
  (∀ (v : Value) we Se F G w, St we Se F G w → CallsDIn Fence.wide 0 P f #[v] .returning w fun e u w' => (∃ r, e = .returned r) ∧ u = .returning ∧ St we Se F G w') ∧
  ∀ (v : Value) (E : TypeId) (z x : Int) we Se F G w, InR x → St we Se (mP (Ty.i).rep.c E v z :: F) G w →
    CallsDIn Fence.wide 0 P f #[v] (.panicking (chOf (T, x))) w fun e u w' => (∃ r, e = .returned r) ∧ settle u = .returning ∧ St we Se (mP (Ty.i).rep.c E v x :: F) G w'
def endR (cf : Cf) (fn : Func) (cod : List RM) (σ : Sg) : Option (RsD cod) := retD cf (frzD σ fn.results.toList cod) fn.results.toList cod fun y _ => some y
def setR (cf : Cf) (fn : Func) (cod : List RM) (t : Tmp) (e : Int) (σ : Sg) : Option (RsD cod) := match get ⟨0, [], []⟩ σ t 0 with
  | some (.vs o _) => (match fndO σ.ob o with
    | some (.var .i E _) => endR cf fn cod ⟨σ.nx, σ.rg, seto σ.ob o (.var .i E e)⟩
    | _ => none)
  | _ => none
def aftR (cf : Cf) (fn : Func) (cod : List RM) (c : Code) (t : Tmp) (T : TypeId) (σ : Sg) : Option (RsD cod) := match get ⟨0, [], []⟩ σ t 0 with
  | some (.vs o s) => den cf c ⟨0, [(t, 0, .vs o s)], []⟩ σ fun tg σ => (match tg with
    | .r => endR cf fn cod σ
    | .n => endR cf fn cod σ
    | .p q => ck (q.1 = T) <| ck (InR q.2) <| setR cf fn cod t q.2 σ
    | _ => none)
  | _ => none
def denR (cf : Cf) (fn : Func) (dom : List AM) (cod : List RM) (hd : FuncId) (T : TypeId) (x : AsD dom) : Option (RsD cod) := match fn.body with
  | some (.seq c1 (.seq (.region _ ops false) c2)) => (match ops.toList with
    | [⟨none, .defer ⟨.value (.func f), ags, _⟩, _, _, _, none⟩] => (match ags.toList with
      | [.tmp t] => grd (Nat.beq f hd && (okC fn.ntmps c1 && (okC fn.ntmps c2 && Nat.ble dom.length fn.ntmps))) <|
        let y := argS dom x 0
        den cf c1 ⟨0, [], []⟩ ⟨dom.length, y.1, y.2⟩ fun tg σ => (match tg with
          | .n => aftR cf fn cod c2 t T σ
          | _ => none)
      | _ => none)
    | _ => none)
  | _ => none
section
variable {P : Program} {cf : Cf} {fr : Fr} {cx σ : Sg} {env : Env} {w : World}
theorem endR_s (hT : TTok P cf.tt) {fn : Func} {cod : List RM} {r : RsD cod} {we : World} {Se : Nat → Prop} {F : List MF} {G : List FF} (h : endR cf fn cod σ = some r) (hR : Rel P ⟨we, Se, F, G⟩ ⟨0, [], []⟩ σ env w) (a : Act) (ha : envOf a = env) :
    ∃ v, (results fn a.tmps).run P w = .ok v w ∧ ∃ u : List Value, Ending.returned v = .returned (oneOr u) ∧ u.length = cod.length ∧ St we Se (resMs cod r u ++ F) (resFs cod r u ++ G) w := by
  unfold endR at h
  have hR1 := rel_frzD fn.results.toList cod hR
  generalize frzD σ fn.results.toList cod = σ1 at h hR1
  obtain ⟨hB, vs, hst⟩ := hR1
  obtain ⟨y, os, e1, e2⟩ := retD_s hT h
  cases e1
  obtain ⟨us, h1, h2, h3⟩ := e2 vs ⟨we, Se, F, G⟩ env _ _ (fun S w hΓ t => gs_lk hΓ t) hst
  refine ⟨_, run_results (rs := fn.results.toList) (by rw [Array.toArray_toList]) (ha ▸ h2), us, rfl, h1, ?_⟩
  exact (St.dropM (B := MS vs (delos σ1.ob os)) h3).weak fun S w hΓ => All.append (All.left hΓ) (All.right (All.right hΓ))
theorem rel_sans {rg : List (Nat × Nat × Dv)} (h : Rel P fr ⟨0, rg, []⟩ σ env w) : Rel P fr ⟨0, [], []⟩ σ env w := by
  obtain ⟨hB, vs, hst⟩ := h
  exact ⟨⟨hB.o1, fun _ h => absurd h List.not_mem_nil, hB.r1, fun _ h => absurd h List.not_mem_nil⟩, vs, hst.weak fun S w ha => All.append (All.left ha) (All.append trivial (All.right (All.right ha)))⟩
theorem rel_with {t : Nat} {dv : Dv} (hg : get ⟨0, [], []⟩ σ t 0 = some dv) (h : Rel P fr ⟨0, [], []⟩ σ env w) : Rel P fr ⟨0, [(t, 0, dv)], []⟩ σ env w := by
  obtain ⟨hB, vs, hst⟩ := h
  have hm : (t, 0, dv) ∈ σ.rg := by
    rcases get_mem hg with h | h
    · exact h
    · exact absurd h List.not_mem_nil
  refine ⟨⟨hB.o1, fun _ h => absurd h List.not_mem_nil, hB.r1, fun e he => by rw [List.mem_singleton.1 he]; exact hB.r1 _ hm⟩, vs, hst.weak fun S w ha => All.append (All.left ha) (All.append ⟨rs_get (All.left ha) hm, trivial⟩ (All.right (All.right ha)))⟩
theorem leaves_takeG {F : Fence} {n : Nat} {fn : Func} {tmps : Array Value} {u : FrameMode} {ds : List Deferred} {Q : Ending → World → Prop} (hu : u ≠ .run) : ∀ {Ds : List Nat} {w : World}, marksW Ds w → LeavesInM F n P fn tmps Q ds u (takeW Ds w) → LeavesInM F n P fn tmps Q (Ds.map mkD ++ ds) u w
  | [], w, _, h => h
  | D :: Ds, w, hm, h => ⟨hu, .inl ⟨D, _, rfl, run_takeDeferred hm.1, leaves_takeG hu hm.2 h⟩⟩
theorem leaves_hd {fn : Func} {tmps : Array Value} {u : FrameMode} {ds : List Deferred} {f : FuncId} {v : Value} {Q : Ending → World → Prop} (hb : fnB P f = true) (hu : u ≠ .run)
    (h : CallsDIn Fence.wide 0 P f #[v] u w fun e u' w' => (∃ r, e = .returned r) ∧ LeavesInM Fence.wide 0 P fn tmps Q ds (settle u') w') : LeavesInM Fence.wide 0 P fn tmps Q ({ target := .fn (.func f) #[], args := #[v] } :: ds) u w := by
  refine ⟨hu, .inr ⟨fun e => by simp [Fence.wide] at e, _, _, f, #[v], rfl, by simp [invoke, run_callFunc hb], fun _ _ => trivial, CallsDIn.mono h ?_⟩⟩
  rintro e u' w' ⟨⟨r, rfl⟩, h⟩
  exact h
theorem denR_s (hm : P.follows .mixedOrders = true) (hT : TTok P cf.tt) (hL : ELok P cf.tt) (hC : ∀ s ∈ cf.cs, SigOK P s) (hX : XOK P cf) {s : Sig} {fn : Func}
    (hf : P.funcs[s.f]? = some fn) (hb : fnB P s.f = true) (hk : s.bk = 0) {hd : FuncId} {T : TypeId} (hH : HOK P hd T) (hM : ∀ x r, s.M x = some r → denR cf fn s.dom s.cod hd T x = some r) : SigOK P s := by
  refine ⟨hb, fun x r h vs hlen => ?_⟩
  rw [hk]
  show FnG P s.f vs.toArray (argMs s.dom x vs) (argFs P s.dom x vs) oneOr (fun us => resMs s.cod r us) (fun us => resFs s.cod r us) (fun us => us.length = s.cod.length)
  have h := hM x r h
  unfold denR at h
  split at h
  · next c1 id ops c2 hc =>
    split at h
    · next f ags ts ty pos aft hops =>
      split at h
      · next t hags =>
        obtain ⟨ho, hz⟩ := grd_s h
        clear h
        simp only [Bool.and_eq_true] at ho
        obtain ⟨hfe, ho1, ho2, hn⟩ := ho
        obtain rfl := beq_t hfe
        intro we Se F G w hst
        refine callsIn_wide.1 (callsIn_of_wp_marks (n := 0) hf hc trivial ?_)
        have hn := Nat.le_of_ble_eq_true hn
        have hag : agree (envOf ⟨vs.toArray ++ Array.replicate (fn.ntmps - vs.toArray.size) undef, []⟩) ((vs.zipIdx 0).map fun x => (x.2, x.1)) := by
          refine agree_args vs 0 _ fun j => ?_
          rw [envOf_args]
          simp [Array.getD_eq_getD_getElem?, List.getD_eq_getElem?_getD]
        have e0 : ∀ j v, vs[j]? = some v → vs.getD (0 + j) undef = v := fun j v hj => by
          rw [Nat.zero_add, List.getD_eq_getElem?_getD, hj]; rfl
        have hA := den_s (fr := ⟨we, Se, F, G⟩) (N := Nd.of fn.ntmps) (Ds := []) (env := L ((vs.zipIdx 0).map fun x => (x.2, x.1)) (envOf ⟨vs.toArray ++ Array.replicate (fn.ntmps - vs.toArray.size) undef, []⟩)) (w := w) hm hT hL hC hX c1 ho1 rfl (.inl rfl) hz
          (Q := fun e Ds env w => e = .normal ∧ ∃ σ, aftR cf fn s.cod c2 t T σ = some r ∧ Rel P (Fr.wd ⟨we, Se, F, G⟩ Ds) ⟨0, [], []⟩ σ env w)
          (fun t σ' hk Ds env w _ hR => by
            cases t with
            | n => exact ⟨rfl, σ', hk, hR⟩
            | x j => cases hk
            | r => cases hk
            | p q => cases hk) (by
            refine ⟨⟨fun e he => ?_, fun _ he => absurd he List.not_mem_nil, fun e he p hp => ?_, fun _ he => absurd he List.not_mem_nil⟩, fun o => vs.getD o undef, ?_⟩
            · have := arg_ob e he; simpa using this
            · have := arg_ref e he p hp; simpa using this
            · have e1 : MS (fun o => vs.getD o undef) (argS s.dom x 0).2 = argMs s.dom x vs := arg_ms hlen e0
              show St we Se (MS _ (argS s.dom x 0).2 ++ ([] ++ F)) _ w
              rw [e1]
              exact hst.weak fun S w hΓ => All.append (arg_rs hlen (fun j v hj => ⟨e0 j v hj, L_zip hj⟩) (All.left hΓ)) (All.right hΓ))
        refine wpIn_seq (wpIn_mono (hA _ (by simp [Nd.of]; omega) rfl (L_agree hag).symm) ?_)
        rintro e a1 w1 ⟨q1, Ds1, q2, rfl, σ1, hk1, hR1⟩
        show (Code.seq (.region id ops false) c2).wpIn Fence.wide 0 P _ a1 w1
        unfold aftR at hk1
        split at hk1
        · next o st hg =>
          have hd0 : (execOp (ev (envOf a1)) ⟨none, .defer ⟨.value (.func f), ags, ts⟩, ty, pos, aft, none⟩).run P w1 = .ok (.defer { target := .fn (.func f) #[], args := #[envOf a1 t] }) w1 := by
            obtain rfl : ags = #[.tmp t] := by cases ags; simp_all
            simp [execOp, resolve, Deferred.ofValue, ev]
          have hopsA : ops = [⟨none, .defer ⟨.value (.func f), ags, ts⟩, ty, pos, aft, none⟩].toArray := by cases ops; simp_all
          refine wpIn_seq ?_
          rw [hopsA]
          refine wpIn_region_lit ?_
          unfold wpListIn
          rw [if_pos (by rfl)]
          unfold Oper.wpIn
          refine ⟨fun _ _ => trivial, ?_⟩
          rw [eval_eq]
          rw [show Fence.wide.round = none from rfl, Oper.semAt_none, hd0]
          rw [Oper.uponIn_defer]
          refine wpListIn_nil ?_
          have hB := den_s (fr := Fr.wd ⟨we, Se, F, G⟩ Ds1) (N := ⟨fn.ntmps, { target := .fn (.func f) #[], args := #[envOf a1 t] } :: Ds1.map mkD, none⟩) (Ds := []) (env := envOf a1) (w := w1) hm hT hL hC hX c2 ho2 rfl (.inl rfl) hk1
            (Q := fun e Ds env w => ∀ a : Act, envOf a = env → a.defers = Ds.map mkD ++ { target := .fn (.func f) #[], args := #[envOf a1 t] } :: Ds1.map mkD → bodyPostM Fence.wide 0 P fn (fun e w' => ∃ u : List Value, e = .returned (oneOr u) ∧ u.length = s.cod.length ∧ St we Se (resMs s.cod r u ++ F) (resFs s.cod r u ++ G) w') e a w)
            (fun tg σ2 hk2 Ds2 env2 w2 hs2 hR2 => ?_) (rel_with hg hR1)
          · refine wpIn_mono (hB _ q1 (by show _ :: _ = _; rw [q2]; simp [Nd.of]) rfl) ?_
            rintro e a' w' ⟨p1, Ds2, p2, p3⟩
            exact p3 a' rfl p2
          · obtain ⟨hmk2, hR2⟩ := rel_take hR2
            have hte : env2 t = envOf a1 t := hs2 _ (List.mem_singleton.2 rfl)
            have fin : ∀ {σ : Sg} {w' : World} {a : Act}, endR cf fn s.cod σ = some r → Rel P (Fr.wd ⟨we, Se, F, G⟩ Ds1) ⟨0, [], []⟩ σ env2 w' → envOf a = env2 → LeavesInM Fence.wide 0 P fn a.tmps (fun e w' => ∃ u : List Value, e = .returned (oneOr u) ∧ u.length = s.cod.length ∧ St we Se (resMs s.cod r u ++ F) (resFs s.cod r u ++ G) w') (Ds1.map mkD) .returning w' := fun {σ w' a} he hR ha => by
              obtain ⟨hmk1, hR⟩ := rel_take hR
              exact leaves_take hmk1 (endR_s hT he hR a ha)
            have nrm : endR cf fn s.cod σ2 = some r → ∀ a : Act, envOf a = env2 → a.defers = Ds2.map mkD ++ { target := .fn (.func f) #[], args := #[envOf a1 t] } :: Ds1.map mkD → LeavesInM Fence.wide 0 P fn a.tmps (fun e w' => ∃ u : List Value, e = .returned (oneOr u) ∧ u.length = s.cod.length ∧ St we Se (resMs s.cod r u ++ F) (resFs s.cod r u ++ G) w') a.defers .returning w2 := fun he a ha hda => by
              rw [hda]
              refine leaves_takeG (by simp) hmk2 (leaves_hd hH.1 (by simp) ?_)
              obtain ⟨hB, vs2, hst2⟩ := rel_sans hR2
              refine CallsDIn.mono (hH.2.1 _ _ _ _ _ _ hst2) ?_
              rintro e u w' ⟨hr, rfl, hs⟩
              exact ⟨hr, fin he ⟨hB, vs2, hs⟩ ha⟩
            cases tg with
            | n => exact fun a ha hda => nrm hk2 a ha hda
            | r => exact fun a ha hda => nrm hk2 a ha hda
            | x j => cases hk2
            | p q =>
              obtain ⟨hqT, hk2⟩ := ck_s hk2
              obtain ⟨hin, hk2⟩ := ck_s hk2
              unfold setR at hk2
              split at hk2
              · next o2 s2 hg2 =>
                split at hk2
                · next E2 z2 ho2' =>
                  intro a ha hda
                  show LeavesInM Fence.wide 0 P fn a.tmps _ a.defers (.panicking (chOf q)) w2
                  rw [hda]
                  refine leaves_takeG (by simp) hmk2 (leaves_hd hH.1 (by simp) ?_)
                  obtain ⟨hB, vs2, hst2⟩ := rel_sans hR2
                  obtain ⟨S0, _, hΓ⟩ := hst2.ex
                  have hv : env2 t = vs2 o2 := (gs_lk hΓ t 0 _ hg2).1
                  have hq : chOf q = chOf (T, q.2) := by
                    rw [← hqT]
                  rw [hq, ← hte, hv]
                  refine CallsDIn.mono (hH.2.2 _ E2 z2 q.2 _ _ _ _ _ hin (os_out ho2' hst2)) ?_
                  rintro e u w' ⟨hr, hu, hs⟩
                  refine ⟨hr, ?_⟩
                  rw [hu]
                  refine fin hk2 ⟨⟨fun e he => ?_, hB.o2, hB.r1, hB.r2⟩, vs2, ?_⟩ ha
                  · obtain ⟨e', h1, h2⟩ := seto_mem ho2' e he
                    rw [← h2]; exact hB.o1 e' h1
                  · exact os_back ho2' hs
                · cases hk2
              · cases hk2
        · cases hk1
      · cases h
    · cases h
  · cases h
end
end
section
set_option maxRecDepth 100000
def tt : List (Nat × TI) := [(2, ⟨.i, .int .i64, 8⟩), (3, ⟨.i, .int .i64, 8⟩), (4, ⟨.b, .bool, 1⟩), (5, ⟨.ch, .int .u8, 1⟩), (6, ⟨.ch, .int .u8, 1⟩), (7, ⟨(.p .i (.p .i (.p .b .ch))), .st 4, 24⟩), (8, ⟨(.p .i (.p .i (.p .b .ch))), .st 4, 24⟩), (9, ⟨.tx, .str, 16⟩), (10, ⟨.tx, .str, 16⟩), (11, ⟨.tx, .str, 16⟩), (12, ⟨.u, .int .u64, 8⟩), (13, ⟨(.p .tx .u), .st 2, 24⟩), (14, ⟨(.p .tx .u), .st 2, 24⟩), (22, ⟨(.l (.p .b (.l .u))), .sl 30, 24⟩), (23, ⟨(.l .i), .sl 3, 24⟩), (26, ⟨.i, .int .i64, 8⟩), (28, ⟨(.l .u), .sl 54, 24⟩), (29, ⟨(.p .b (.l .u)), .st 2, 32⟩), (30, ⟨(.p .b (.l .u)), .st 2, 32⟩), (31, ⟨(.l (.p (.l (.p .b (.l .u))) .i)), .sl 42, 24⟩), (41, ⟨(.p (.l (.p .b (.l .u))) .i), .st 2, 32⟩), (42, ⟨(.p (.l (.p .b (.l .u))) .i), .st 2, 32⟩), (53, ⟨.u, .int .u64, 8⟩), (54, ⟨.u, .int .u64, 8⟩), (55, ⟨(.l (.l (.p .b (.l .u)))), .sl 22, 24⟩), (59, ⟨(.l (.l (.p (.p .b (.l .u)) (.l .u)))), .sl 60, 24⟩), (60, ⟨(.l (.p (.p .b (.l .u)) (.l .u))), .sl 78, 24⟩), (61, ⟨(.po (.w1 (.p (.l (.p .b (.l .u))) (.l (.p (.p .b (.l .u)) (.l .u)))))), .pt 65, 8⟩), (62, ⟨(.p (.l (.p .b (.l .u))) (.l (.p (.p .b (.l .u)) (.l .u)))), .st 2, 48⟩), (63, ⟨(.p (.l (.p .b (.l .u))) (.l (.p (.p .b (.l .u)) (.l .u)))), .st 2, 48⟩), (64, ⟨(.w1 (.p (.l (.p .b (.l .u))) (.l (.p (.p .b (.l .u)) (.l .u))))), .st 0, 48⟩), (65, ⟨(.w1 (.p (.l (.p .b (.l .u))) (.l (.p (.p .b (.l .u)) (.l .u))))), .st 0, 48⟩), (66, ⟨(.l (.po (.w1 (.p (.l (.p .b (.l .u))) (.l (.p (.p .b (.l .u)) (.l .u))))))), .sl 61, 24⟩), (77, ⟨(.p (.p .b (.l .u)) (.l .u)), .st 2, 56⟩), (78, ⟨(.p (.p .b (.l .u)) (.l .u)), .st 2, 56⟩), (111, ⟨(.po .i), .pt 26, 8⟩), (112, ⟨(.w1 (.po (.w1 (.p (.l (.p .b (.l .u))) (.l (.p (.p .b (.l .u)) (.l .u))))))), .st 0, 8⟩), (113, ⟨(.w1 (.po (.w1 (.p (.l (.p .b (.l .u))) (.l (.p (.p .b (.l .u)) (.l .u))))))), .st 0, 8⟩), (138, ⟨(.l (.l .i)), .sl 23, 24⟩), (158, ⟨(.w1 .i), .st 0, 8⟩), (159, ⟨(.w1 .i), .st 0, 8⟩), (168, ⟨(.po (.p (.l (.p .b (.l .u))) (.p (.l (.p .b (.l .u))) (.p (.p .b (.l .u)) (.p (.p .b (.l .u)) .b))))), .pt 170, 8⟩), (169, ⟨(.p (.l (.p .b (.l .u))) (.p (.l (.p .b (.l .u))) (.p (.p .b (.l .u)) (.p (.p .b (.l .u)) .b)))), .st 5, 120⟩), (170, ⟨(.p (.l (.p .b (.l .u))) (.p (.l (.p .b (.l .u))) (.p (.p .b (.l .u)) (.p (.p .b (.l .u)) .b)))), .st 5, 120⟩), (171, ⟨(.l .tx), .sl 9, 24⟩), (218, ⟨(.l .ch), .sl 5, 24⟩), (251, ⟨(.a 4 (.l (.p .b (.l .u)))), .ar 4 22, 96⟩), (252, ⟨(.a 4 (.l (.p .b (.l .u)))), .ar 4 22, 96⟩), (257, ⟨.i, .int .i64, 8⟩), (270, ⟨(.po .ch), .pt 5, 8⟩), (285, ⟨(.a 3 (.l .i)), .ar 3 23, 72⟩), (286, ⟨(.a 3 (.l .i)), .ar 3 23, 72⟩), (293, ⟨.u, .int .u64, 8⟩), (297, ⟨(.po .i), .pt 3, 8⟩), (313, ⟨(.p (.l (.p .b (.l .u))) (.l (.l (.p .b (.l .u))))), .st 2, 48⟩), (314, ⟨(.p (.l (.p .b (.l .u))) (.l (.l (.p .b (.l .u))))), .st 2, 48⟩), (317, ⟨(.po (.p (.p (.l (.p .b (.l .u))) (.l (.l (.p .b (.l .u))))) (.l (.l (.p .b (.l .u)))))), .pt 319, 8⟩), (318, ⟨(.p (.p (.l (.p .b (.l .u))) (.l (.l (.p .b (.l .u))))) (.l (.l (.p .b (.l .u))))), .st 2, 72⟩), (319, ⟨(.p (.p (.l (.p .b (.l .u))) (.l (.l (.p .b (.l .u))))) (.l (.l (.p .b (.l .u))))), .st 2, 72⟩), (322, ⟨(.p (.p .b (.l .u)) (.p (.p .b (.l .u)) (.p .b (.l .u)))), .st 3, 96⟩), (323, ⟨(.p (.p .b (.l .u)) (.p (.p .b (.l .u)) (.p .b (.l .u)))), .st 3, 96⟩), (325, ⟨(.po .u), .pt 293, 8⟩), (335, ⟨(.po (.w1 .tx)), .pt 350, 8⟩), (342, ⟨.ch, .int .u8, 1⟩), (343, ⟨.ch, .int .u8, 1⟩), (349, ⟨(.w1 .tx), .st 0, 16⟩), (350, ⟨(.w1 .tx), .st 0, 16⟩)]
def ex : List (Nat × Bool) := [(214, true), (219, false)]
theorem ttok : TTok Tryz.prog tt := TTok.add (by kernel_rfl) (by kernel_rfl) (id (by kernel_rfl : Tryz.prog.underlying 2 = some (.int .i64))) <|
  TTok.add (by kernel_rfl) (by kernel_rfl) (id (by kernel_rfl : Tryz.prog.underlying 3 = some (.int .i64))) <|
  TTok.add (by kernel_rfl) (by kernel_rfl) (id (by kernel_rfl : Tryz.prog.underlying 4 = some .bool)) <|
  TTok.add (by kernel_rfl) (by kernel_rfl) (id (by kernel_rfl : Tryz.prog.underlying 5 = some (.int .u8))) <|
  TTok.add (by kernel_rfl) (by kernel_rfl) (id (by kernel_rfl : Tryz.prog.underlying 6 = some (.int .u8))) <|
  TTok.add (by kernel_rfl) (by kernel_rfl) ⟨rfl, by kernel_rfl⟩ <|
  TTok.add (by kernel_rfl) (by kernel_rfl) ⟨rfl, by kernel_rfl⟩ <|
  TTok.add (by kernel_rfl) (by kernel_rfl) (id (by kernel_rfl : Tryz.prog.underlying 9 = some .string)) <|
  TTok.add (by kernel_rfl) (by kernel_rfl) (id (by kernel_rfl : Tryz.prog.underlying 10 = some .string)) <|
  TTok.add (by kernel_rfl) (by kernel_rfl) (id (by kernel_rfl : Tryz.prog.underlying 11 = some .string)) <|
  TTok.add (by kernel_rfl) (by kernel_rfl) (id (by kernel_rfl : Tryz.prog.underlying 12 = some (.int .u64))) <|
  TTok.add (by kernel_rfl) (by kernel_rfl) ⟨rfl, by kernel_rfl⟩ <|
  TTok.add (by kernel_rfl) (by kernel_rfl) ⟨rfl, by kernel_rfl⟩ <|
  TTok.add (by kernel_rfl) (by kernel_rfl) ⟨by kernel_rfl, _, rfl⟩ <|
  TTok.add (by kernel_rfl) (by kernel_rfl) ⟨by kernel_rfl, _, rfl⟩ <|
  TTok.add (by kernel_rfl) (by kernel_rfl) (id (by kernel_rfl : Tryz.prog.underlying 26 = some (.int .i64))) <|
  TTok.add (by kernel_rfl) (by kernel_rfl) ⟨by kernel_rfl, _, rfl⟩ <|
  TTok.add (by kernel_rfl) (by kernel_rfl) ⟨rfl, by kernel_rfl⟩ <|
  TTok.add (by kernel_rfl) (by kernel_rfl) ⟨rfl, by kernel_rfl⟩ <|
  TTok.add (by kernel_rfl) (by kernel_rfl) ⟨by kernel_rfl, _, rfl⟩ <|
  TTok.add (by kernel_rfl) (by kernel_rfl) ⟨rfl, by kernel_rfl⟩ <|
  TTok.add (by kernel_rfl) (by kernel_rfl) ⟨rfl, by kernel_rfl⟩ <|
  TTok.add (by kernel_rfl) (by kernel_rfl) (id (by kernel_rfl : Tryz.prog.underlying 53 = some (.int .u64))) <|
  TTok.add (by kernel_rfl) (by kernel_rfl) (id (by kernel_rfl : Tryz.prog.underlying 54 = some (.int .u64))) <|
  TTok.add (by kernel_rfl) (by kernel_rfl) ⟨by kernel_rfl, _, rfl⟩ <|
  TTok.add (by kernel_rfl) (by kernel_rfl) ⟨by kernel_rfl, _, rfl⟩ <|
  TTok.add (by kernel_rfl) (by kernel_rfl) ⟨by kernel_rfl, _, rfl⟩ <|
  TTok.add (by kernel_rfl) (by kernel_rfl) (id (by kernel_rfl : Tryz.prog.underlying 61 = some (.pointer 65))) <|
  TTok.add (by kernel_rfl) (by kernel_rfl) ⟨rfl, by kernel_rfl⟩ <|
  TTok.add (by kernel_rfl) (by kernel_rfl) ⟨rfl, by kernel_rfl⟩ <|
  TTok.add (by kernel_rfl) (by kernel_rfl) ⟨rfl, by kernel_rfl⟩ <|
  TTok.add (by kernel_rfl) (by kernel_rfl) ⟨rfl, by kernel_rfl⟩ <|
  TTok.add (by kernel_rfl) (by kernel_rfl) ⟨by kernel_rfl, _, rfl⟩ <|
  TTok.add (by kernel_rfl) (by kernel_rfl) ⟨rfl, by kernel_rfl⟩ <|
  TTok.add (by kernel_rfl) (by kernel_rfl) ⟨rfl, by kernel_rfl⟩ <|
  TTok.add (by kernel_rfl) (by kernel_rfl) (id (by kernel_rfl : Tryz.prog.underlying 111 = some (.pointer 26))) <|
  TTok.add (by kernel_rfl) (by kernel_rfl) ⟨rfl, by kernel_rfl⟩ <|
  TTok.add (by kernel_rfl) (by kernel_rfl) ⟨rfl, by kernel_rfl⟩ <|
  TTok.add (by kernel_rfl) (by kernel_rfl) ⟨by kernel_rfl, _, rfl⟩ <|
  TTok.add (by kernel_rfl) (by kernel_rfl) ⟨rfl, by kernel_rfl⟩ <|
  TTok.add (by kernel_rfl) (by kernel_rfl) ⟨rfl, by kernel_rfl⟩ <|
  TTok.add (by kernel_rfl) (by kernel_rfl) (id (by kernel_rfl : Tryz.prog.underlying 168 = some (.pointer 170))) <|
  TTok.add (by kernel_rfl) (by kernel_rfl) ⟨rfl, by kernel_rfl⟩ <|
  TTok.add (by kernel_rfl) (by kernel_rfl) ⟨rfl, by kernel_rfl⟩ <|
  TTok.add (by kernel_rfl) (by kernel_rfl) ⟨by kernel_rfl, _, rfl⟩ <|
  TTok.add (by kernel_rfl) (by kernel_rfl) ⟨by kernel_rfl, _, rfl⟩ <|
  TTok.add (by kernel_rfl) (by kernel_rfl) ⟨rfl, by kernel_rfl⟩ <|
  TTok.add (by kernel_rfl) (by kernel_rfl) ⟨rfl, by kernel_rfl⟩ <|
  TTok.add (by kernel_rfl) (by kernel_rfl) (id (by kernel_rfl : Tryz.prog.underlying 257 = some (.int .i64))) <|
  TTok.add (by kernel_rfl) (by kernel_rfl) (id (by kernel_rfl : Tryz.prog.underlying 270 = some (.pointer 5))) <|
  TTok.add (by kernel_rfl) (by kernel_rfl) ⟨rfl, by kernel_rfl⟩ <|
  TTok.add (by kernel_rfl) (by kernel_rfl) ⟨rfl, by kernel_rfl⟩ <|
  TTok.add (by kernel_rfl) (by kernel_rfl) (id (by kernel_rfl : Tryz.prog.underlying 293 = some (.int .u64))) <|
  TTok.add (by kernel_rfl) (by kernel_rfl) (id (by kernel_rfl : Tryz.prog.underlying 297 = some (.pointer 3))) <|
  TTok.add (by kernel_rfl) (by kernel_rfl) ⟨rfl, by kernel_rfl⟩ <|
  TTok.add (by kernel_rfl) (by kernel_rfl) ⟨rfl, by kernel_rfl⟩ <|
  TTok.add (by kernel_rfl) (by kernel_rfl) (id (by kernel_rfl : Tryz.prog.underlying 317 = some (.pointer 319))) <|
  TTok.add (by kernel_rfl) (by kernel_rfl) ⟨rfl, by kernel_rfl⟩ <|
  TTok.add (by kernel_rfl) (by kernel_rfl) ⟨rfl, by kernel_rfl⟩ <|
  TTok.add (by kernel_rfl) (by kernel_rfl) ⟨rfl, by kernel_rfl⟩ <|
  TTok.add (by kernel_rfl) (by kernel_rfl) ⟨rfl, by kernel_rfl⟩ <|
  TTok.add (by kernel_rfl) (by kernel_rfl) (id (by kernel_rfl : Tryz.prog.underlying 325 = some (.pointer 293))) <|
  TTok.add (by kernel_rfl) (by kernel_rfl) (id (by kernel_rfl : Tryz.prog.underlying 335 = some (.pointer 350))) <|
  TTok.add (by kernel_rfl) (by kernel_rfl) (id (by kernel_rfl : Tryz.prog.underlying 342 = some (.int .u8))) <|
  TTok.add (by kernel_rfl) (by kernel_rfl) (id (by kernel_rfl : Tryz.prog.underlying 343 = some (.int .u8))) <|
  TTok.add (by kernel_rfl) (by kernel_rfl) ⟨rfl, by kernel_rfl⟩ <|
  TTok.add (by kernel_rfl) (by kernel_rfl) ⟨rfl, by kernel_rfl⟩ <|
  TTok.nil
theorem elok : ELok Tryz.prog tt := ELok.of (by kernel_rfl)
theorem exok : EXok Tryz.prog ex := EXok.add Tryz.func214 (by kernel_rfl) (by kernel_rfl) (by kernel_rfl) (fun _ => by kernel_rfl) (fun h => by cases h) <|
  EXok.add Tryz.func219 (by kernel_rfl) (by kernel_rfl) (by kernel_rfl) (fun h => by cases h) (fun _ => by kernel_rfl) <|
  EXok.nil
theorem mord : Tryz.prog.follows .mixedOrders = true := by kernel_rfl
theorem sg {cs : List Sig} (an : An) {fu : Nat} {s : Sig} {fn : Func} (hf : Tryz.prog.funcs[s.f]? = some fn) (hC : ∀ s ∈ cs, SigOK Tryz.prog s) (hb : fnB Tryz.prog s.f = true) (hM : ∀ x, denF ⟨tt, cs, an, fu, ex, [], [], [], []⟩ fn s.dom s.cod x = s.M x) (hk : s.bk = 0 := by rfl) : SigOK Tryz.prog s :=
  sgP mord ttok elok exok rfl an hf hC hb hk hM
theorem sgb {cs : List Sig} (an : An) {fu : Nat} {s : Sig} {fn : Func} (hf : Tryz.prog.funcs[s.f]? = some fn) (hC : ∀ s ∈ cs, SigOK Tryz.prog s) (hb : fnB Tryz.prog s.f = true) (hM : ∀ pn x, denG ⟨tt, cs, an, fu, ex, [], [], [], []⟩ fn s.dom s.cod s.bk pn x = s.M x) : SigOK Tryz.prog s :=
  sgG mord ttok elok exok rfl an hf hC hb hM
theorem sgp {cs : List Sig} {ps : List PSig} (an : An) {fu : Nat} {p : PSig} {fn : Func} (hf : Tryz.prog.funcs[p.s.f]? = some fn) (hC : ∀ s ∈ cs, SigOK Tryz.prog s) (hP : ∀ q ∈ ps, POK Tryz.prog q) (hb : fnB Tryz.prog p.s.f = true) (hM : ∀ x, denP ⟨tt, cs, an, fu, ex, [], [], [], ps⟩ fn p.s.dom p.s.cod x = p.M x) (hk : p.s.bk = 0 := by rfl) : POK Tryz.prog p :=
  denP_s (cf := ⟨tt, cs, an, fu, ex, [], [], [], ps⟩) mord ttok elok hC ⟨exok, fun _ h => absurd h List.not_mem_nil, fun _ h => absurd h List.not_mem_nil, fun _ h => absurd h List.not_mem_nil, rfl, hP⟩ hf hb hk fun x r h => (hM x).trans h
theorem sgr {cs : List Sig} {ps : List PSig} (an : An) {fu : Nat} {s : Sig} {fn : Func} {hd : FuncId} {T : TypeId} (hH : HOK Tryz.prog hd T) (hf : Tryz.prog.funcs[s.f]? = some fn) (hC : ∀ s ∈ cs, SigOK Tryz.prog s) (hP : ∀ q ∈ ps, POK Tryz.prog q) (hb : fnB Tryz.prog s.f = true) (hM : ∀ x, denR ⟨tt, cs, an, fu, ex, [], [], [], ps⟩ fn s.dom s.cod hd T x = s.M x) (hk : s.bk = 0 := by rfl) : SigOK Tryz.prog s :=
  denR_s (cf := ⟨tt, cs, an, fu, ex, [], [], [], ps⟩) mord ttok elok hC ⟨exok, fun _ h => absurd h List.not_mem_nil, fun _ h => absurd h List.not_mem_nil, fun _ h => absurd h List.not_mem_nil, rfl, hP⟩ hf hb hk hH fun x r h => (hM x).trans h
theorem pN : ∀ p ∈ ([] : List PSig), POK Tryz.prog p := fun _ h => absurd h List.not_mem_nil
theorem pC {s : PSig} {l : List PSig} (h : POK Tryz.prog s) (k : ∀ s ∈ l, POK Tryz.prog s) : ∀ q ∈ s :: l, POK Tryz.prog q := by grind
end
end Go.Proofs.YtmggkmchbdanfaaGreat
