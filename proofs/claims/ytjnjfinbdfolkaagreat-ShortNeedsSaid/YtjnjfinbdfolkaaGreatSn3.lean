/- What a proof needs: rules of walking, mirrors of functions and their plain laws. No condition. -/
import Derived.Test.YtjnjfinbdfolkaaGreatSn2
section
set_option linter.unusedVariables false
set_option linter.unusedSimpArgs false
namespace Go.Proofs.YtjnjfinbdfolkaaGreat
section
variable {P : Program} {cf : Cf} {fr : Fr} {cx σ : Sg} {vs vs' : Nat → Value} {env : Env} {w : World} {R : Type} {r : R}
  {d : Option Tmp} {ty t yt : TypeId} {pos : String} {aft : Array Edge} {g : Option (Nat × Bool)} {x y : Operand}
theorem r_sliceN {et : TypeId} {ag : Bool} {sz bytes : Nat} {zero : Value} {hi : Operand} (hx : ev env x = .slice none 0 0) (ht : P.underlying t = some (.slice et)) (het : TyF P et ag sz bytes zero)
    (hh : ev env hi = .int .i64 ((0 : Nat) : Int)) (w : World) : (execOp (ev env) ⟨d, .slice t x none (some hi) none, ty, pos, aft, g⟩).run P w = .ok (.value (.slice none 0 0)) w := by
  have b1 : (0 : Int) ≤ ((0 : Nat) : Int) ∧ ((0 : Nat) : Int) ≤ ((0 : Nat) : Int) := by omega
  have hrun : (Instr.sliceAt t (.slice none 0 0) none (some (.int .i64 ((0 : Nat) : Int))) none).run P w = .ok (.slice none 0 0) w := by
    unfold Instr.sliceAt
    simp only [Sem.run_bind, run_underlying ht, Result.andThen_ok]
    unfold Instr.slice
    simp only [Sem.run_bind, run_underlying ht, Result.andThen_ok]
    unfold Instr.sliceBounds
    simp [Instr.sliceBound, asIntOf, Sem.run_bind, Sem.run_pure, Result.andThen_ok, run_sizeOf het]
  simp [execOp, hx, hh] at hrun ⊢
  simp [hrun]
theorem os_del {i o : Nat} {X : Od} {Y : MF} (hi : σ.ob[i]? = some (o, X)) (hdel : delo σ.ob o = σ.ob.eraseIdx i) {Γ : List FF} (h : St fr.we fr.Se ((OS vs fr cx σ.ob).set i Y) Γ w) : St fr.we fr.Se (Y :: OS vs fr cx (delo σ.ob o)) Γ w := by
  have := St.front i h (get_set (ms_idx hi))
  rw [erase_set, ms_erase hi, ← hdel] at this
  exact this
theorem m_slice (hT : TTok P cf.tt) (hL : ELok P cf.tt) {o : Nat} {hi : Operand} {k : Sg → Option R} (hd : okPut cx d = true) (hx : opv cx σ x = some (.ow o)) (h : mSlice cf cx σ d t o hi k = some r) :
    MOK P cx ⟨d, .slice t x none (some hi) none, ty, pos, aft, g⟩ σ k r := by
  unfold mSlice at h
  split at h
  · next s1 E1 B s E xs ht ho =>
    obtain ⟨hss, h1⟩ := cast_s h
    cases hss
    rcases bnd_s h1 with ⟨e, _⟩ | ⟨z, m, e, h2, hz⟩
    · cases e
    · cases e
      obtain ⟨hm, h3⟩ := ck_s h2
      obtain ⟨ys, hys, h4⟩ := nm_s h3
      obtain ⟨bytes, zero, het⟩ := ty_el hT hL ht
      refine ⟨_, h4, Nat.le_succ _, fun fr vs env w hR => ?_⟩
      obtain ⟨hB, hst⟩ := hR
      obtain ⟨S0, _, hΓ⟩ := hst.ex
      have hxe : ev env x = vs o := opv_hold hx (gs_lko hΓ x)
      have hhi := hz P vs env S0 w (gs_lko hΓ hi)
      obtain ⟨i, hi', hset, hdel⟩ := fndO_some ho
      have hmi : (OS vs fr cx σ.ob)[i]? = some (mO s1.rep E (vs o) xs) := ms_idx hi'
      have fin : ∀ v, (execOp (ev env) ⟨d, .slice t x none (some hi) none, ty, pos, aft, g⟩).run P w = .ok (.value v) w → St fr.we fr.Se ((OS vs fr cx σ.ob).set i (mO s1.rep E v ys)) (GS P vs env fr cx σ) w →
          OpR P ⟨d, .slice t x none (some hi) none, ty, pos, aft, g⟩ env w (fun v w' => RelX P fr cx σ.nx vs ⟨σ.nx + 1, putR σ.rg d [(0, .ow σ.nx)], (σ.nx, .own s1 E ys) :: delo σ.ob o⟩ (put env d v) w') := by
        intro v hrun hs
        refine OpR.of_value hrun (rel_new (vs := vs) (mk := .ow) hB hd (fun e he => hB.o1 e (delo_mem e he)) (fun _ => rfl) (fun S w => hold_ow S w) ?_)
        rw [mo_own]
        exact os_del hi' hdel hs
      rcases Nat.eq_zero_or_pos (List.length xs) with h0 | h0
      · have hm0 : m = 0 := by have : m ≤ List.length xs := hm; omega
        subst hm0
        have hyx : ys = xs := by rw [hys]; exact (List.length_eq_zero_iff.1 h0).symm ▸ rfl
        subst hyx
        have hid : (OS vs fr cx σ.ob).set i (mO s1.rep E (vs o) ys) = OS vs fr cx σ.ob := by
          apply List.ext_getElem?
          intro j
          rw [List.getElem?_set]
          split
          · next hij => subst hij; split
                        · exact hmi.symm
                        · next hlt => exact absurd (List.getElem?_eq_some_iff.1 hmi).1 hlt
          · rfl
        have hv : vs o = .slice none 0 0 ∨ ∃ b cap, vs o = .slice (some ⟨b, 0, none⟩) 0 cap := mut_frame hst hmi fun S ⟨cs, h5, _⟩ => by
          rcases h5.2 with ⟨h, _⟩ | ⟨b, cap, cur, h, _⟩
          · exact .inl h
          · rw [h0] at h; exact .inr ⟨b, cap, h⟩
        rcases hv with hv | ⟨b, cap, hv⟩
        · exact fin _ (r_sliceN (hxe.trans hv) (tk_sl hT ht) het hhi w) (by rw [← hv, hid]; exact hst)
        · exact fin _ (r_sliceT (hxe.trans hv) (tk_sl hT ht) het hhi (Nat.zero_le _) w) (by rw [← hv, hid]; exact hst)
      · obtain ⟨b, cap, hv, hc1, hc2, hs⟩ := hst.openO i hmi h0
        have hs2 := hs.closeO i m (get_set hmi) hm (Nat.le_trans hm hc1) hc2
        rw [set_set] at hs2
        exact fin _ (r_sliceT (hxe.trans hv) (tk_sl hT ht) het hhi (Nat.le_trans hm hc1) w) (by rw [hys]; exact hs2)
  · cases h
theorem m_app2 (hT : TTok P cf.tt) {t' : TypeId} {same : Bool} {ti : TI} {E : TypeId} {ob : List (Nat × Od)} {xs : List ti.ty.D} {k : Sg → Option R} (ht : P.underlying t = some (.slice E)) (hti : tyA cf E = some ti) (hd : okPut cx d = true)
    (hsame : same = true → t = t') (h : mApp2 cf cx σ d t' same ti.ty E ti.B ti.ty.z y ob xs k = some r) :
    ∃ σ', k σ' = some r ∧ σ.nx ≤ σ'.nx ∧ ∀ (fr : Fr) (vs : Nat → Value) (env : Env) (w : World) (u : Value), Bd cx σ → (∀ e ∈ ob, e.1 < σ.nx) → ev env x = u → St fr.we fr.Se (mO ti.ty.rep E u xs :: OS vs fr cx ob) (GS P vs env fr cx σ) w →
      OpR P ⟨d, .call ⟨.builtin .append, #[x, y], #[t, t']⟩, ty, pos, aft, g⟩ env w (fun v w' => RelX P fr cx σ.nx vs σ' (put env d v) w') := by
  obtain ⟨zero, hz1, hz2, hz3⟩ := ty_of hT hti
  have hpos := (hT _ _ hti).2.1
  have hn := (hT _ _ hti).2.2.1
  have bnd : ∀ m, m * ti.B ≤ 140737488355328 → m ≤ 9223372036854775807 := fun m hm => by
    have := Nat.le_mul_of_pos_right m hpos
    omega
  unfold mApp2 at h
  split at h
  · next n hn' =>
    split at h
    · next q ik B' ht' =>
      obtain ⟨j, hj, h⟩ := ckN_s h
      obtain ⟨hb, h⟩ := ck_s h
      obtain ⟨zs, hzs, h⟩ := nm_s h
      refine ⟨_, h, Nat.le_succ _, fun fr vs env w u hB hob hx hst => ?_⟩
      obtain ⟨S0, _, hΓ⟩ := hst.ex
      refine (og_appendZ (e := ti.ty.rep) (z := ti.ty.z) (n := j) 0 ht (tk_int hT ht') hz1 hz2 hn rfl hx (by rw [(pd_i hn' (gs_lko hΓ y)).1, hj]) hz3 (bnd _ hb) hb w hst).mono ?_
      rintro v w' ⟨v', rfl, _, hs⟩
      refine rel_new (vs := vs) (mk := .ow) hB hd hob (fun _ => rfl) (fun S w => hold_ow S w) ?_
      rw [mo_own, hzs]
      exact hs
    · cases h
  · split at h
    · next o2 t2 lo n hy =>
      split at h
      · next s2 E2 zs0 ho2 =>
        obtain ⟨hs', h⟩ := grd_s h
        obtain rfl := hsame hs'
        obtain ⟨hse, h⟩ := cast_s h
        cases hse
        obtain ⟨hse, h⟩ := cast_s h
        cases hse
        obtain ⟨ys, hys, h⟩ := nm_s h
        obtain ⟨hb, h⟩ := ck_s h
        obtain ⟨zs, hzs, h⟩ := nm_s h
        refine ⟨_, h, Nat.le_succ _, fun fr vs env w u hB hob hx hst => ?_⟩
        obtain ⟨S0, _, hΓ⟩ := hst.ex
        have hv := opv_hold hy (gs_lko hΓ y)
        refine (og_appendQ (e := ti.ty.rep) (ys := ys) 0 ht hz1 hz2 hn rfl hx rfl (fun S w hM ha => ?_) (bnd _ hb) hb w hst).mono ?_
        · have hm : (mO ti.ty.rep E2 (vs o2) zs0).p S w := geto_M (σ := ⟨σ.nx, σ.rg, ob⟩) (F := fr.F) hM.2 ho2
          rcases hv with ⟨b, m, cap, c, q1, q2, q3, q4, q5⟩ | ⟨q1, ao, c, q2, q3⟩
          · rw [q5, hys]
            exact mo_view hm q1 q2 q3 q4
          · subst q1
            rw [q3, hys]
            exact ⟨ao, c, by simp, by simp, by unfold maxLen; omega, .inl (by simp)⟩
        rintro v w' ⟨v', rfl, _, hs⟩
        refine rel_new (vs := vs) (mk := .ow) hB hd hob (fun _ => rfl) (fun S w => hold_ow S w) ?_
        rw [mo_own, hzs]
        exact hs
      · cases h
    obtain ⟨hs', h⟩ := grd_s h
    obtain rfl := hsame hs'
    obtain ⟨ys, h, hys⟩ := asO_s h
    obtain ⟨hb, h⟩ := ck_s h
    obtain ⟨zs, hzs, h⟩ := nm_s h
    refine ⟨_, h, Nat.le_succ _, fun fr vs env w u hB hob hx hst => ?_⟩
    refine (og_append (e := ti.ty.rep) (ys := ys) 0 ht hz1 hz2 hn rfl hx rfl (fun S w ha => hys P vs env S w (gs_lko ha y)) (bnd _ hb) hb w hst).mono ?_
    rintro v w' ⟨v', rfl, _, hs⟩
    refine rel_new (vs := vs) (mk := .ow) hB hd hob (fun _ => rfl) (fun S w => hold_ow S w) ?_
    rw [mo_own, hzs]
    exact hs
theorem m_app (hT : TTok P cf.tt) {ags : Array Operand} {ts : Array TypeId} {k : Sg → Option R} (hd : okPut cx d = true) (h : mApp cf cx σ d ags.toList ts.toList k = some r) :
    MOK P cx ⟨d, .call ⟨.builtin .append, ags, ts⟩, ty, pos, aft, g⟩ σ k r := by
  unfold mApp at h
  split at h
  · next _ _ x y t t' hags hts =>
    obtain rfl : ags = #[x, y] := by cases ags; simp_all
    obtain rfl : ts = #[t, t'] := by cases ts; simp_all
    split at h
    · next s E B ht =>
      split at h
      · next ti hti =>
        obtain ⟨hse, h1⟩ := cast_s h
        subst hse
        split at h1
        · next hx =>
          obtain ⟨σ', h5, h6, h7⟩ := m_app2 (ty := ty) (pos := pos) (aft := aft) (g := g) (x := x) hT (tk_sl hT ht) hti hd (fun h => beq_t h) h1
          refine ⟨σ', h5, h6, fun fr vs env w hR => ?_⟩
          obtain ⟨hB, hst⟩ := hR
          obtain ⟨S0, _, hΓ⟩ := hst.ex
          exact h7 fr vs env w _ hB hB.o1 (opv_hold hx (gs_lko hΓ x)) hst.nilO
        · next o hx =>
          split at h1
          · next s' E' xs ho =>
            obtain ⟨hE, h2⟩ := grd_s h1
            have hE := beq_t hE
            subst hE
            obtain ⟨hss, h3⟩ := cast_s h2
            cases hss
            obtain ⟨σ', h5, h6, h7⟩ := m_app2 (ty := ty) (pos := pos) (aft := aft) (g := g) (x := x) hT (tk_sl hT ht) hti hd (fun h => beq_t h) h3
            refine ⟨σ', h5, h6, fun fr vs env w hR => ?_⟩
            obtain ⟨hB, hst⟩ := hR
            obtain ⟨S0, _, hΓ⟩ := hst.ex
            obtain ⟨i, hi', hset, hdel⟩ := fndO_some ho
            have hmi : (OS vs fr cx σ.ob)[i]? = some (mO ti.ty.rep E' (vs o) xs) := ms_idx hi'
            have hst2 := hst.front i hmi
            rw [ms_erase hi', ← hdel] at hst2
            exact h7 fr vs env w _ hB (fun e he => hB.o1 e (delo_mem e he)) (opv_hold hx (gs_lko hΓ x)) hst2
          · cases h1
        · cases h1
      · cases h
    · cases h
  · cases h
theorem cpy_len {α : Type} (xs ys : List α) : (cpy xs ys).length = xs.length := by
  unfold cpy; rw [List.length_append, List.length_take, List.length_drop]; omega
theorem cpy_nil {α : Type} {xs : List α} (ys : List α) (h : xs.length = 0) : cpy xs ys = xs := by
  rw [List.length_eq_zero_iff.1 h]; simp [cpy]
theorem cpy_eq {α : Type} (xs ys : List α) : List.take 0 xs ++ List.take (min ys.length xs.length) ys ++ List.drop (0 + min ys.length xs.length) xs = cpy xs ys := by simp [cpy]
theorem cpyAt_zero {α : Type} (lo : Nat) (xs ys : List α) : cpyAt lo 0 xs ys = xs := by simp [cpyAt]
theorem cpyAt_len {α : Type} {lo n : Nat} {xs : List α} (ys : List α) (h : lo + n ≤ xs.length) : (cpyAt lo n xs ys).length = xs.length := by
  unfold cpyAt
  rw [List.length_append, List.length_append, List.length_take, List.length_take, List.length_drop]
  omega
theorem m_copy (hT : TTok P cf.tt) (hL : ELok P cf.tt) {ags : Array Operand} {ts : Array TypeId} {k : Sg → Option R} (hd : okPut cx d = true) (h : mCopy cf cx σ d ags.toList ts.toList k = some r) :
    MOK P cx ⟨d, .call ⟨.builtin .copy, ags, ts⟩, ty, pos, aft, g⟩ σ k r := by
  unfold mCopy at h
  split at h
  · next x y t t' hag hts =>
    obtain rfl : ags = #[x, y] := by cases ags; simp_all
    obtain rfl : ts = #[t, t'] := by cases ts; simp_all
    split at h
    · next s E B o ht hx =>
      split at h
      · next s' E' xs ho =>
        obtain ⟨h1, h⟩ := grd_s h
        obtain ⟨hss, h⟩ := cast_s h
        cases hss
        obtain ⟨ys, h, hy⟩ := asO_s h
        obtain ⟨zs, hzs, h⟩ := nm_s h
        have hzs : zs = cpy (α := s.D) xs ys := hzs
        obtain ⟨bytes, zero, het⟩ := ty_el hT hL ht
        have hn1 : s.rep.n = 1 := by rw [s.n_rep]; exact beq_t h1
        refine ⟨_, h, Nat.le_refl _, fun fr vs env w hR => ?_⟩
        obtain ⟨hB, hst⟩ := hR
        obtain ⟨S0, _, hΓ⟩ := hst.ex
        have hxe : ev env x = vs o := opv_hold hx (gs_lko hΓ x)
        obtain ⟨i, hi, hset, hdel⟩ := fndO_some ho
        have hm : (OS vs fr cx σ.ob)[i]? = some (mO s.rep E' (vs o) xs) := ms_idx hi
        have fin : ∀ v w', St fr.we fr.Se ((OS vs fr cx σ.ob).set i (mO s.rep E' (vs o) zs)) (GS P vs env fr cx σ) w' → RelX P fr cx σ.nx vs ⟨σ.nx, putR σ.rg d [], seto σ.ob o (.own s E' zs)⟩ (put env d v) w' := fun v w' hs => by
          refine rel_mk (σ' := ⟨σ.nx, putR σ.rg d [], seto σ.ob o (.own s E' zs)⟩) (d := d) (l := []) (vs := vs) (vs' := vs) (Γl := []) hB hd rfl (Nat.le_refl _) (fun _ _ => rfl) (fun _ he => absurd he List.not_mem_nil) (fun e he => ?_) (fun S w _ e he => absurd he List.not_mem_nil) ?_
          · obtain ⟨e', h1, h2⟩ := seto_mem ho e he
            rw [← h2]; exact hB.o1 e' h1
          · rw [hset]
            show St _ _ (MS vs (σ.ob.set i (o, .own s E' zs)) ++ _) _ _
            rw [← ms_set hi]
            exact hs
        rcases Nat.eq_zero_or_pos (List.length xs) with h0 | h0
        · have hv : vs o = .slice none 0 0 ∨ ∃ b cap, vs o = .slice (some ⟨b, 0, none⟩) 0 cap := mut_frame hst hm fun S ⟨cs, h5, _⟩ => by
            rcases h5.2 with ⟨h, _⟩ | ⟨b, cap, cur, h, _⟩
            · exact .inl h
            · rw [h0] at h; exact .inr ⟨b, cap, h⟩
          obtain ⟨ba, cap, hv⟩ : ∃ ba cap, vs o = .slice ba 0 cap := by
            rcases hv with hv | ⟨b, cap, hv⟩
            · exact ⟨_, _, hv⟩
            · exact ⟨_, _, hv⟩
          obtain ⟨ao, scap, hu, _⟩ := fV_slice.1 (hy P vs env S0 w (gs_lko hΓ y))
          obtain ⟨ti, hi2, i1, i2, i3⟩ := het.info
          have hs1 : (P.info? E).map (·.size) = some 1 := by rw [hi2]; simp [i1, hn1]
          have hr := run_copy_none (P := P) w t t' ty E ba ao 0 cap (List.length ys) scap (tk_sl hT ht) hs1 (Nat.min_zero _)
          rw [← hu, ← hv, ← hxe] at hr
          have hz : zs = xs := hzs.trans (cpy_nil (α := s.D) ys h0)
          refine OpR.of_value (v := goInt 0) (w' := w) ?_ (fin _ w ?_)
          · simp only [execOp, resolve, invoke, builtin, List.map_toArray, List.map_cons, List.map_nil, Sem.run_bind, hr, Sem.run_pure, Result.andThen_ok]
          · have : (OS vs fr cx σ.ob).set i (mO s.rep E' (vs o) xs) = OS vs fr cx σ.ob := by
              obtain ⟨hi', h2'⟩ := List.getElem?_eq_some_iff.1 hm
              rw [← h2', List.set_getElem_self]
            rw [hz, this]; exact hst
        · obtain ⟨b, cap, hv, hc1, hc2, hs⟩ := hst.openO i hm h0
          refine (og_copyM (e := s.rep) (l := 0) (dLen := List.length xs) (dCap := cap) i (tk_sl hT ht) het hn1 (get_set hm) (by rw [hxe, hv]; simp) rfl (by omega) (fun S w ha => hy P vs env S w (gs_lko ha y)) w hs).mono ?_
          rintro v w' ⟨n, rfl, _, hs'⟩
          refine fin _ w' ?_
          have hz := (cpy_eq (α := s.D) xs ys).trans hzs.symm
          rw [hz] at hs'
          have hlen : List.length zs = List.length xs := by rw [hzs]; exact cpy_len (α := s.D) xs ys
          have hs2 := hs'.closeF i (get_set (get_set hm)) (by rw [hlen]; exact hc1) hc2
          rw [set_set, set_set, hlen, ← hv] at hs2
          exact hs2
      · cases h
    · next s E B o t2 lo n ht hx =>
      split at h
      · next s' E' xs hsame ho _ =>
        obtain ⟨h1, h⟩ := grd_s h
        obtain ⟨hss, h⟩ := cast_s h
        cases hss
        obtain ⟨ys, h, hy⟩ := asO_s h
        obtain ⟨zs, hzs, h⟩ := nm_s h
        have hzs : zs = cpyAt (α := s.D) lo n xs ys := hzs
        obtain ⟨hsame⟩ := hsame
        subst hsame
        obtain ⟨bytes, zero, het⟩ := ty_el hT hL ht
        have hn1 : t2.rep.n = 1 := by rw [t2.n_rep]; exact beq_t h1
        refine ⟨_, h, Nat.le_refl _, fun fr vs env w hR => ?_⟩
        obtain ⟨hB, hst⟩ := hR
        obtain ⟨S0, _, hΓ⟩ := hst.ex
        have hxe := opv_hold hx (gs_lko hΓ x)
        obtain ⟨i, hi, hset, hdel⟩ := fndO_some ho
        have hm : (OS vs fr cx σ.ob)[i]? = some (mO t2.rep E' (vs o) xs) := ms_idx hi
        have fin : ∀ v w', St fr.we fr.Se ((OS vs fr cx σ.ob).set i (mO t2.rep E' (vs o) zs)) (GS P vs env fr cx σ) w' → RelX P fr cx σ.nx vs ⟨σ.nx, putR σ.rg d [], seto σ.ob o (.own t2 E' zs)⟩ (put env d v) w' := fun v w' hs => by
          refine rel_mk (σ' := ⟨σ.nx, putR σ.rg d [], seto σ.ob o (.own t2 E' zs)⟩) (d := d) (l := []) (vs := vs) (vs' := vs) (Γl := []) hB hd rfl (Nat.le_refl _) (fun _ _ => rfl) (fun _ he => absurd he List.not_mem_nil) (fun e he => ?_) (fun S w _ e he => absurd he List.not_mem_nil) ?_
          · obtain ⟨e', h1, h2⟩ := seto_mem ho e he
            rw [← h2]; exact hB.o1 e' h1
          · rw [hset]
            show St _ _ (MS vs (σ.ob.set i (o, .own t2 E' zs)) ++ _) _ _
            rw [← ms_set hi]
            exact hs
        rcases Nat.eq_zero_or_pos n with h0 | h0
        · obtain ⟨ba, c, hv⟩ : ∃ ba c, ev env x = .slice ba 0 c := by
            rcases hxe with ⟨b, m, cap, c, q1, q2, q3, q4, q5⟩ | ⟨q1, ao, c, q2, q3⟩
            · exact ⟨_, c, by rw [q5, h0]⟩
            · exact ⟨ao, c, q3⟩
          obtain ⟨ao, scap, hu, _⟩ := fV_slice.1 (hy P vs env S0 w (gs_lko hΓ y))
          obtain ⟨ti, hi2, i1, i2, i3⟩ := het.info
          have hs1 : (P.info? E).map (·.size) = some 1 := by rw [hi2]; simp [i1, hn1]
          have hr := run_copy_none (P := P) w t t' ty E ba ao 0 c (List.length ys) scap (tk_sl hT ht) hs1 (Nat.min_zero _)
          rw [← hu, ← hv] at hr
          have hz : zs = xs := by rw [hzs, h0]; exact cpyAt_zero (α := t2.D) lo xs ys
          refine OpR.of_value (v := goInt 0) (w' := w) ?_ (fin _ w ?_)
          · simp only [execOp, resolve, invoke, builtin, List.map_toArray, List.map_cons, List.map_nil, Sem.run_bind, hr, Sem.run_pure, Result.andThen_ok]
          · have : (OS vs fr cx σ.ob).set i (mO t2.rep E' (vs o) xs) = OS vs fr cx σ.ob := by
              obtain ⟨hi', h2'⟩ := List.getElem?_eq_some_iff.1 hm
              rw [← h2', List.set_getElem_self]
            rw [hz, this]; exact hst
        · rcases hxe with ⟨b0, m, cap0, c, q1, q2, q3, q4, q5⟩ | ⟨q1, ao, c, q2, q3⟩
          · have hml : m = List.length xs := mut_frame hst hm fun S hp => own_pos hp q1
            subst hml
            obtain ⟨b, cap, hv, hc1, hc2, hs⟩ := hst.openO i hm (by omega)
            rw [q1] at hv; cases hv
            refine (og_copyM (e := t2.rep) (l := lo) (dLen := n) (dCap := c) i (tk_sl hT ht) het hn1 (get_set hm) q5 rfl q2 (fun S w ha => hy P vs env S w (gs_lko ha y)) w hs).mono ?_
            rintro v w' ⟨nn, rfl, _, hs'⟩
            refine fin _ w' ?_
            have hs' : St fr.we fr.Se (((OS vs fr cx σ.ob).set i (mB (rowT t2.rep cap0) E' b0 xs)).set i (mB (rowT t2.rep cap0) E' b0 (cpyAt (α := t2.D) lo n xs ys))) (GS P vs env fr cx σ) w' := hs'
            rw [← hzs] at hs'
            have hlen : List.length zs = List.length xs := by rw [hzs]; exact cpyAt_len (α := t2.D) ys q2
            have hs2 := hs'.closeF i (get_set (get_set hm)) (by rw [hlen]; exact hc1) hc2
            rw [set_set, set_set, hlen, ← q1] at hs2
            exact hs2
          · omega
      · cases h
    · cases h
  · cases h
end
end Go.Proofs.YtjnjfinbdfolkaaGreat
end

section
set_option linter.unusedVariables false
set_option linter.unusedSimpArgs false
namespace Go.Proofs.YtjnjfinbdfolkaaGreat
section
variable {P : Program} {cf : Cf} {fr : Fr} {cx σ : Sg} {vs vs' : Nat → Value} {env : Env} {w : World} {R : Type} {r : R}
  {d : Option Tmp} {ty t yt : TypeId} {pos : String} {aft : Array Edge} {g : Option (Nat × Bool)} {x y : Operand}
theorem beq_f {a b : Nat} (h : a ≠ b) : Nat.beq a b = false := beq_no h
theorem fndO_delo : ∀ {ob : List (Nat × Od)} {o p : Nat}, p ≠ o → fndO (delo ob o) p = fndO ob p
  | [], _, _, _ => rfl
  | (q, X) :: r, o, p, h => by
    unfold delo
    cases hb : Nat.beq q o
    · simp only [cond_false]
      unfold fndO
      rw [fndO_delo h]
    · simp only [cond_true]
      have := beq_t hb
      subst this
      conv => rhs; unfold fndO
      rw [beq_f (fun e => h e.symm)]; rfl
theorem fndO_delos {ob : List (Nat × Od)} {p : Nat} : ∀ {os : List Nat}, has os p = false → fndO (delos ob os) p = fndO ob p
  | [], _ => rfl
  | o :: r, h => by
    simp only [has, List.any_cons, Bool.or_eq_false_iff] at h
    unfold delos
    rw [fndO_delo (fun e => by subst e; simp at h), fndO_delos h.2]
theorem delos_mem {ob : List (Nat × Od)} : ∀ {os : List Nat}, ∀ e ∈ delos ob os, e ∈ ob
  | [], _, h => h
  | o :: r, e, h => delos_mem (os := r) e (delo_mem e h)
theorem perm_er {α : Type} : ∀ {l : List α} {i : Nat} {a : α}, l[i]? = some a → l.Perm (a :: l.eraseIdx i)
  | [], _, _, h => by simp at h
  | b :: l, 0, a, h => by simp at h; subst h; exact List.Perm.refl _
  | b :: l, i + 1, a, h => ((perm_er (l := l) (i := i) (by simpa using h)).cons b).trans (List.Perm.swap _ _ _)
theorem os_perm {ob : List (Nat × Od)} {o : Nat} {X : Od} (h : fndO ob o = some X) : (OS vs fr cx ob).Perm (moF vs (o, X) :: OS vs fr cx (delo ob o)) := by
  obtain ⟨i, h1, _, h3⟩ := fndO_some h
  show (MS vs ob ++ (MS vs cx.ob ++ fr.F)).Perm (moF vs (o, X) :: (MS vs (delo ob o) ++ (MS vs cx.ob ++ fr.F)))
  rw [h3, ← ms_erase h1]
  exact perm_er (ms_idx h1)
theorem argsG_s (hC : ∀ s ∈ cf.cs, SigOK P s) : ∀ {dom : List AM} {xs : List Operand} {cs : List PD} {k : AsD dom → List Nat → Option R}, argsG cf cx σ dom xs cs k = some r →
    ∃ z os, k z os = some r ∧ xs.length + cs.length = dom.length ∧ ∀ vs (fr : Fr) env S w, (∀ x, LkO P vs env S w cx σ x) → ∀ cvs : List Value, cvs.length = cs.length → All S (capF cs cvs) w →
      All S (argFs P dom z (xs.map (ev env) ++ cvs)) w ∧ (OS vs fr cx σ.ob).Perm (argMs dom z (xs.map (ev env) ++ cvs) ++ OS vs fr cx (delos σ.ob os))
  | [], [], [], k, h => ⟨(), [], h, rfl, fun _ _ _ _ _ _ _ _ _ => ⟨trivial, List.Perm.refl _⟩⟩
  | .q t :: dom, [], c :: cs, k, h => by
    simp only [argsG] at h
    obtain ⟨e, h⟩ := cast_s h
    subst e
    obtain ⟨z, os, h1, h2, h3⟩ := argsG_s hC h
    refine ⟨_, os, h1, by simp at h2 ⊢; omega, fun vs fr env S w hl cvs hcl hca => ?_⟩
    cases cvs with
    | nil => cases hcl
    | cons v cvs => obtain ⟨h4, h5⟩ := h3 vs fr env S w hl cvs (by simpa using hcl) hca.2; exact ⟨⟨hca.1, h4⟩, h5⟩
  | .d t :: dom, x :: xs, cs, k, h => by
    simp only [argsG] at h
    obtain ⟨y, h, hy⟩ := asO_s h
    obtain ⟨z, os, h1, h2, h3⟩ := argsG_s hC h
    exact ⟨_, os, h1, by simp at h2 ⊢; omega, fun vs fr env S w hl cvs hcl hca => by obtain ⟨h4, h5⟩ := h3 vs fr env S w hl cvs hcl hca; exact ⟨⟨hy P vs env S w (hl x), h4⟩, h5⟩⟩
  | .q t :: dom, x :: xs, cs, k, h => by
    simp only [argsG] at h
    split at h
    · next s y hx =>
      obtain ⟨e, h⟩ := cast_s h
      subst e
      obtain ⟨z, os, h1, h2, h3⟩ := argsG_s hC h
      exact ⟨_, os, h1, by simp at h2 ⊢; omega, fun vs fr env S w hl cvs hcl hca => by obtain ⟨h4, h5⟩ := h3 vs fr env S w hl cvs hcl hca; exact ⟨⟨opv_hold hx (hl x), h4⟩, h5⟩⟩
    · cases h
  | .own t E :: dom, x :: xs, cs, k, h => by
    simp only [argsG] at h
    split at h
    · next o hx =>
      split at h
      · next s E' ys ho =>
        obtain ⟨hE, h7⟩ := grd_s h
        have hE := beq_t hE
        subst hE
        obtain ⟨e, h8⟩ := cast_s h7
        cases e
        obtain ⟨z, os, h9, h2, h3⟩ := argsG_s hC h8
        obtain ⟨hn, h1⟩ := grd_s h9
        simp only [Bool.not_eq_true'] at hn
        refine ⟨_, o :: os, h1, by simp at h2 ⊢; omega, fun vs fr env S w hl cvs hcl hca => ?_⟩
        obtain ⟨h4, h5⟩ := h3 vs fr env S w hl cvs hcl hca
        refine ⟨⟨trivial, h4⟩, h5.trans ?_⟩
        have hv : ev env x = vs o := opv_hold hx (hl x)
        have hp := os_perm (vs := vs) (fr := fr) (cx := cx) ((fndO_delos hn).trans ho)
        refine (List.Perm.append_left _ hp).trans ?_
        refine List.perm_middle.trans ?_
        show List.Perm _ (mO t.rep E (ev env x) _ :: (argMs dom z (xs.map (ev env) ++ cvs) ++ _))
        rw [hv]
        exact List.Perm.refl _
      · cases h
    · cases h
  | .fn dom' cod :: dom, x :: xs, cs, k, h => by
    simp only [argsG] at h
    obtain ⟨f, h, hf⟩ := asF_s hC h
    obtain ⟨z, os, h1, h2, h3⟩ := argsG_s hC h
    refine ⟨_, os, h1, by simp at h2 ⊢; omega, fun vs fr env S w hl cvs hcl hca => ?_⟩
    obtain ⟨h4, h5⟩ := h3 vs fr env S w hl cvs hcl hca
    refine ⟨⟨?_, h4⟩, h5⟩
    cases hv : opv cx σ x with
    | none => rename_i h0; rw [hv] at h0; simp [asF] at h0
    | some v => exact hf vs S w v _ hv (opv_hold hv (hl x))
  | [], _ :: _, _, _, h => by simp [argsG] at h
  | [], [], _ :: _, _, h => by simp [argsG] at h
  | .d _ :: _, [], _, _, h => by simp [argsG] at h
  | .own _ _ :: _, [], _, _, h => by simp [argsG] at h
  | .fn _ _ :: _, [], _, _, h => by simp [argsG] at h
  | .q _ :: _, [], [], _, h => by simp [argsG] at h
def ovs : List RM → List Value → Nat → (Nat → Value) → Nat → Value
  | [], _, _, vs => vs
  | .d _ :: r, us, o, vs => ovs r us.tail o vs
  | .own _ _ :: r, us, o, vs => upv (ovs r us.tail (o + 1) vs) o (us.headD undef)
theorem ovs_old : ∀ {rs : List RM} {us : List Value} {o k : Nat}, k < o → ovs rs us o vs k = vs k
  | [], _, _, _, _ => rfl
  | .d _ :: r, us, o, k, h => ovs_old (rs := r) h
  | .own _ _ :: r, us, o, k, h => by
    show upv _ o _ k = _
    rw [upv_old h, ovs_old (rs := r) (by omega)]
theorem upv_ne {n o : Nat} {v : Value} (h : o ≠ n) : upv vs n v o = vs o := by unfold upv; rw [beq_no h]; rfl
theorem resG_ge : ∀ {rs : List RM} {x : RsD rs} {i o : Nat}, (∀ e ∈ (resG rs x i o).2, o ≤ e.1 ∧ e.1 < o + (resG rs x i o).2.length)
  | [], _, _, _, e, he => absurd he List.not_mem_nil
  | [.d _], _, _, _, e, he => absurd he List.not_mem_nil
  | [.own _ _], _, _, o, e, he => by
    obtain rfl := List.mem_singleton.1 he
    exact ⟨Nat.le_refl _, Nat.lt_succ_self _⟩
  | .d t :: n :: r, x, i, o, e, he => resG_ge (rs := n :: r) (x := x.2) (i := i + 1) e he
  | .own t E :: n :: r, x, i, o, e, he => by
    have he : e ∈ (o, Od.own t E x.1) :: (resG (n :: r) x.2 (i + 1) (o + 1)).2 := he
    have hlen : (resG (.own t E :: n :: r) x i o).2.length = (resG (n :: r) x.2 (i + 1) (o + 1)).2.length + 1 := rfl
    rw [hlen]
    rcases List.mem_cons.1 he with rfl | he
    · exact ⟨Nat.le_refl _, by show o < _; omega⟩
    · have := resG_ge (rs := n :: r) (x := x.2) (i := i + 1) (o := o + 1) e he
      omega
theorem resG_ms : ∀ {rs : List RM} {x : RsD rs} {us : List Value} {i o : Nat}, MS (ovs rs us o vs) (resG rs x i o).2 = resMs rs x us
  | [], _, _, _, _ => rfl
  | [.d _], _, _, _, _ => rfl
  | [.own t E], x, us, i, o => by
    exact congrArg (fun m => [m]) (mo_own (vs := vs) (xs := x))
  | .d t :: n :: r, x, us, i, o => by
    show MS (ovs (n :: r) us.tail o vs) (resG (n :: r) x.2 (i + 1) o).2 = resMs (n :: r) x.2 us.tail
    exact resG_ms
  | .own t E :: n :: r, x, us, i, o => by
    refine List.cons_eq_cons.2 ⟨mo_own (xs := x.1), ?_⟩
    exact (MS_congr (ob := (resG (n :: r) x.2 (i + 1) (o + 1)).2) (vs := ovs (n :: r) us.tail (o + 1) vs) fun e he => upv_ne (by have := resG_ge e he; omega)).trans resG_ms
theorem resG_ref : ∀ {rs : List RM} {x : RsD rs} {i o : Nat}, ∀ e ∈ (resG rs x i o).1, ∀ p, refO e.2 = some p → p < o + (resG rs x i o).2.length
  | [], _, _, _, e, he => absurd he List.not_mem_nil
  | [.d _], _, _, _, e, he => by
    obtain rfl := List.mem_singleton.1 he
    intro p hp; cases hp
  | [.own _ _], _, _, o, e, he => by
    obtain rfl := List.mem_singleton.1 he
    intro p hp; cases hp; exact Nat.lt_succ_self _
  | .d t :: n :: r, x, i, o, e, he => by
    rcases List.mem_cons.1 he with rfl | he
    · intro p hp; cases hp
    · exact resG_ref (rs := n :: r) (x := x.2) (i := i + 1) e he
  | .own t E :: n :: r, x, i, o, e, he => by
    have hlen : (resG (.own t E :: n :: r) x i o).2.length = (resG (n :: r) x.2 (i + 1) (o + 1)).2.length + 1 := rfl
    rw [hlen]
    rcases List.mem_cons.1 he with rfl | he
    · intro p hp; cases hp; omega
    · intro p hp
      have := resG_ref (rs := n :: r) (x := x.2) (i := i + 1) (o := o + 1) e he p hp
      omega
theorem resG_lo : ∀ {rs : List RM} {x : RsD rs} {i o : Nat}, ∀ e ∈ (resG rs x i o).1, ∀ p, refO e.2 = some p → o ≤ p
  | [], _, _, _, e, he => absurd he List.not_mem_nil
  | [.d _], _, _, _, e, he => by
    obtain rfl := List.mem_singleton.1 he
    intro p hp; cases hp
  | [.own _ _], _, _, o, e, he => by
    obtain rfl := List.mem_singleton.1 he
    intro p hp; cases hp; exact Nat.le_refl _
  | .d t :: n :: r, x, i, o, e, he => by
    rcases List.mem_cons.1 he with rfl | he
    · intro p hp; cases hp
    · exact resG_lo (rs := n :: r) (x := x.2) (i := i + 1) e he
  | .own t E :: n :: r, x, i, o, e, he => by
    rcases List.mem_cons.1 he with rfl | he
    · intro p hp; cases hp; exact Nat.le_refl _
    · intro p hp
      have := resG_lo (rs := n :: r) (x := x.2) (i := i + 1) (o := o + 1) e he p hp
      omega
theorem resG_s : ∀ {rs : List RM} {x : RsD rs} {us : List Value} {i o : Nat} {S : Nat → Prop}, All S (resFs rs x us) w → us.length = rs.length → ∀ e ∈ (resG rs x i o).1, ∃ j u, e.1 = i + j ∧ us[j]? = some u ∧ (hold P (ovs rs us o vs) e.2 u).p S w
  | [], _, _, _, _, _, _, _, e, he => absurd he List.not_mem_nil
  | [m], _, [], _, _, _, _, hl, _, _ => by cases hl
  | [.d _], x, u :: us, i, o, S, h, hl, e, he => by
    obtain rfl := List.mem_singleton.1 he
    exact ⟨0, u, rfl, rfl, h.1⟩
  | [.own _ _], x, u :: us, i, o, S, h, hl, e, he => by
    obtain rfl := List.mem_singleton.1 he
    exact ⟨0, u, rfl, rfl, (upv_new (vs := vs)).symm⟩
  | _ :: n :: r, x, [], _, _, _, _, hl, _, _ => by cases hl
  | .d t :: n :: r, x, u :: us, i, o, S, h, hl, e, he => by
    rcases List.mem_cons.1 he with rfl | he
    · exact ⟨0, u, rfl, rfl, h.1⟩
    · obtain ⟨j, v, h1, h2, h3⟩ := resG_s (rs := n :: r) (x := x.2) (i := i + 1) (o := o) h.2 (by simpa using hl) e he
      exact ⟨j + 1, v, by omega, by simpa using h2, h3⟩
  | .own t E :: n :: r, x, u :: us, i, o, S, h, hl, e, he => by
    rcases List.mem_cons.1 he with rfl | he
    · exact ⟨0, u, rfl, rfl, (upv_new (vs := ovs (n :: r) us (o + 1) vs)).symm⟩
    · obtain ⟨j, v, h1, h2, h3⟩ := resG_s (rs := n :: r) (x := x.2) (i := i + 1) (o := o + 1) h (by simpa using hl) e he
      refine ⟨j + 1, v, by omega, by simpa using h2, ?_⟩
      have : hold P (ovs (.own t E :: n :: r) (u :: us) o vs) e.2 v = hold P (ovs (n :: r) us (o + 1) vs) e.2 v := hold_vs (fun p hp => upv_ne (by have := resG_lo (rs := n :: r) (x := x.2) (i := i + 1) (o := o + 1) e he p hp; omega)) v
      rw [this]; exact h3
theorem sigG_s {f : FuncId} {ags : List Operand} : ∀ {cs : List Sig} {s : Sig}, sigG cx σ f ags cs = some s → s ∈ cs ∧ s.f = f
  | c :: cs, s, h => by
    unfold sigG at h
    split at h
    · next hb =>
      simp only [Option.some.injEq] at h
      subst h
      rw [Bool.and_eq_true] at hb
      exact ⟨List.mem_cons_self .., beq_t hb.1⟩
    · obtain ⟨h1, h2⟩ := sigG_s h; exact ⟨List.mem_cons_of_mem _ h1, h2⟩
theorem resG_hold {rs : List RM} {x : RsD rs} {us : List Value} {o : Nat} {S : Nat → Prop} (h : All S (resFs rs x us) w) (hl : us.length = rs.length) : ∀ e ∈ (resG rs x (bif oneRes rs then 0 else 1) o).1, (holdC P (ovs rs us o vs) e.2 (oneOr us) e.1).p S w := by
  intro e he
  obtain ⟨j, u, h1, h2, h3⟩ := resG_s (P := P) (vs := vs) h hl e he
  obtain ⟨i, dv⟩ := e
  match us, hl, h2 with
  | [], _, h2 => simp at h2
  | [v], hl, h2 =>
    obtain rfl : j = 0 := by
      rcases j with _ | j
      · rfl
      · simp at h2
    obtain ⟨m, rfl⟩ := List.length_eq_one_iff.1 hl.symm
    simp only [oneRes, cond_true] at h1
    simp only [List.getElem?_cons_zero, Option.some.injEq] at h2
    subst h1; subst h2
    exact h3
  | v :: v' :: us, hl, h2 =>
    have : oneRes rs = false := by
      match rs, hl with
      | [], _ => rfl
      | _ :: _ :: _, _ => rfl
    rw [this] at h1
    simp only [cond_false] at h1
    obtain rfl : i = j + 1 := by omega
    exact ⟨(v :: v' :: us).toArray, u, rfl, by simpa using h2, h3⟩
theorem m_call (hC : ∀ s ∈ cf.cs, SigOK P s) {f : Operand} {f' : FuncId} {cs : List PD} {s : Sig} {ags : Array Operand} {ts : Array TypeId} {k : Sg → Option R} (hd : okPut cx d = true) (hf : opv cx σ f = some (.fn f' cs))
    (hs : sigG cx σ f' ags.toList cf.cs = some s) (h : mCall cf cx σ d s ags.toList cs k = some r) : MOK P cx ⟨d, .call ⟨.value f, ags, ts⟩, ty, pos, aft, g⟩ σ k r := by
  obtain ⟨h1, h2⟩ := sigG_s hs
  have hok := hC s h1
  unfold mCall at h
  obtain ⟨z, os, h, hlen, hz⟩ := argsG_s hC h
  obtain ⟨q, hq, h⟩ := bd_s h
  refine ⟨_, h, Nat.le_add_right _ _, fun fr vs env w hR => ?_⟩
  obtain ⟨hB, hst⟩ := hR
  obtain ⟨S0, _, hΓ⟩ := hst.ex
  obtain ⟨cvs, hv, hcl, _⟩ := opv_hold hf (gs_lko hΓ f)
  have hfn := hok.2 z q hq (ags.toList.map (ev env) ++ cvs) (by simp at hlen ⊢; omega)
  have hrun : (execOp (ev env) ⟨d, .call ⟨.value f, ags, ts⟩, ty, pos, aft, g⟩).run P w = .ok (.enter f' (ags.toList.map (ev env) ++ cvs).toArray) w := by
    simp [execOp, resolve, hv, Deferred.ofValue, invoke, run_callFunc (h2 ▸ hok.1)]
  have hst2 : St fr.we fr.Se (argMs s.dom z (ags.toList.map (ev env) ++ cvs) ++ OS vs fr cx (delos σ.ob os)) (argFs P s.dom z (ags.toList.map (ev env) ++ cvs) ++ GS P vs env fr cx σ) w := by
    refine St.perm (St.weak hst fun S w ha => All.append ?_ ha) (hz vs fr env S0 w (gs_lko hΓ) cvs hcl ?_).2
    · obtain ⟨cvs', hv', hcl', hca'⟩ := opv_hold hf (gs_lko ha f)
      rw [hv] at hv'
      have : cvs = cvs' := by simpa using hv'
      subst this
      exact (hz vs fr env S w (gs_lko ha) cvs hcl hca').1
    · obtain ⟨cvs', hv', hcl', hca'⟩ := opv_hold hf (gs_lko hΓ f)
      rw [hv] at hv'
      have : cvs = cvs' := by simpa using hv'
      subst this
      exact hca'
  unfold OpR
  rw [hrun]
  rw [h2] at hfn
  refine (hfn fr.we fr.Se _ _ w hst2).mono ?_
  rintro e w' ⟨us, he, hus, hs'⟩
  refine ⟨oneOr us, he, ?_⟩
  refine rel_mk (vs := vs) (vs' := ovs s.cod us σ.nx vs) (l := (resG s.cod q (bif oneRes s.cod then 0 else 1) σ.nx).1) (Γl := resFs s.cod q us) hB hd rfl (Nat.le_add_right _ _) (fun o ho => ovs_old ho) resG_ref ?_ (fun S w ha => resG_hold ha hus) ?_
  · intro e he
    rcases List.mem_append.1 he with he | he
    · exact (resG_ge e he).2
    · exact Nat.lt_of_lt_of_le (hB.o1 e (delos_mem e he)) (Nat.le_add_right _ _)
  · have e1 : OS (ovs s.cod us σ.nx vs) fr cx ((resG s.cod q (bif oneRes s.cod then 0 else 1) σ.nx).2 ++ delos σ.ob os) = resMs s.cod q us ++ OS vs fr cx (delos σ.ob os) := by
      show MS _ (_ ++ _) ++ (MS _ cx.ob ++ _) = _
      have a1 : MS (ovs s.cod us σ.nx vs) (delos σ.ob os) = MS vs (delos σ.ob os) := MS_congr fun e he => ovs_old (hB.o1 e (delos_mem e he))
      have a2 : MS (ovs s.cod us σ.nx vs) cx.ob = MS vs cx.ob := MS_congr fun e he => ovs_old (hB.o2 e he)
      rw [a2, show MS (ovs s.cod us σ.nx vs) ((resG s.cod q (bif oneRes s.cod then 0 else 1) σ.nx).2 ++ delos σ.ob os) = MS _ _ ++ MS _ _ from List.map_append, a1, resG_ms, List.append_assoc]
    rw [e1]
    exact hs'
end
end Go.Proofs.YtjnjfinbdfolkaaGreat
end

section
set_option linter.unusedVariables false
set_option linter.unusedSimpArgs false
namespace Go.Proofs.YtjnjfinbdfolkaaGreat
section
variable {P : Program} {cf : Cf} {fr : Fr} {cx σ : Sg} {vs vs' : Nat → Value} {env : Env} {w : World} {R : Type} {r : R}
  {d : Option Tmp} {ty t yt : TypeId} {pos : String} {aft : Array Edge} {g : Option (Nat × Bool)} {x y : Operand}
theorem holdC_map {d d' : Dv} {v : Value} {i : Nat} {S : Nat → Prop} (h : (holdC P vs d v i).p S w) (hm : ∀ u, (hold P vs d u).p S w → (hold P vs d' u).p S w) : (holdC P vs d' v i).p S w := by
  cases i with
  | zero => exact hm _ h
  | succ i => obtain ⟨us, u, h1, h2, h3⟩ := h; exact ⟨us, u, h1, h2, hm _ h3⟩
theorem frzR_own {o : Nat} {s : Ty} {E : TypeId} {xs : List s.D} {S : Nat → Prop} (hf : (fV (eS s.rep) xs (vs o)).p S w) : ∀ {rg : List (Nat × Nat × Dv)}, All S (RS P vs env rg) w → All S (RS P vs env (frzR o (.own s E xs) rg)) w
  | [], _ => trivial
  | (t, i, v) :: rg, h => by
    refine ⟨?_, frzR_own hf h.2⟩
    have h1 : (holdC P vs v (env t) i).p S w := h.1
    show (holdC P vs (frz1 o (.own s E xs) v) (env t) i).p S w
    cases v <;> try exact h1
    rename_i o'
    unfold frz1
    cases hb : Nat.beq o' o <;> simp only [hb, cond_false, cond_true]
    · exact h1
    · have := beq_t hb
      subst this
      refine holdC_map h1 fun u hu => ?_
      rw [show u = vs o' from hu]; exact hf
theorem frzR_var {o : Nat} {s : Ty} {E : TypeId} {z : s.D} {S : Nat → Prop} (hf : (fP s.rep z (vs o)).p S w) : ∀ {rg : List (Nat × Nat × Dv)}, All S (RS P vs env rg) w → All S (RS P vs env (frzR o (.var s E z) rg)) w
  | [], _ => trivial
  | (t, i, v) :: rg, h => by
    refine ⟨?_, frzR_var hf h.2⟩
    have h1 : (holdC P vs v (env t) i).p S w := h.1
    show (holdC P vs (frz1 o (.var s E z) v) (env t) i).p S w
    cases v <;> try exact h1
    rename_i o' s'
    unfold frz1
    cases hb : Nat.beq o' o <;> simp only [hb, cond_false, cond_true]
    · exact h1
    · have := beq_t hb
      subst this
      refine holdC_map h1 fun u hu => ?_
      rw [show u = vs o' from hu.1]; exact hf
theorem frz1_ref {o p : Nat} {X : Od} {v : Dv} (h : refO (frz1 o X v) = some p) : refO v = some p := by
  unfold frz1 at h
  split at h
  · next o' s E xs =>
    cases hb : Nat.beq o' o <;> rw [hb] at h
    · exact h
    · cases h
  · next o' t' s E z =>
    cases hb : Nat.beq o' o <;> rw [hb] at h
    · exact h
    · cases h
  · exact h
theorem frzR_ref {o : Nat} {X : Od} : ∀ {rg : List (Nat × Nat × Dv)}, ∀ e ∈ frzR o X rg, ∀ p, refO e.2.2 = some p → ∃ e' ∈ rg, refO e'.2.2 = some p
  | [], e, he => absurd he List.not_mem_nil
  | (t, i, v) :: rg, e, he => by
    intro p hp
    rcases List.mem_cons.1 he with rfl | he
    · refine ⟨(t, i, v), List.mem_cons_self .., ?_⟩
      exact frz1_ref hp
    · obtain ⟨e', h1, h2⟩ := frzR_ref e he p hp
      exact ⟨e', List.mem_cons_of_mem _ h1, h2⟩
theorem relV_frzO {o : Nat} (h : RelV P fr cx σ vs env w) : RelV P fr cx (frzO σ o) vs env w := by
  unfold frzO
  split
  · next X ho =>
    obtain ⟨hB, hst⟩ := h
    obtain ⟨i, hi, _, hdel⟩ := fndO_some ho
    have hB' : Bd cx ⟨σ.nx, frzR o X σ.rg, delo σ.ob o⟩ := ⟨fun e he => hB.o1 e (delo_mem e he), hB.o2, fun e he p hp => by obtain ⟨e', h1, h2⟩ := frzR_ref e he p hp; exact hB.r1 e' h1 p h2, hB.r2⟩
    refine ⟨hB', ?_⟩
    cases X with
    | own s E xs =>
      have hm : (OS vs fr cx σ.ob)[i]? = some (mO s.rep E (vs o) xs) := ms_idx hi
      have := fz_own i hst hm
      rw [ms_erase hi, ← hdel] at this
      exact this.weak fun S w ha => All.append (frzR_own ha.1 (All.left ha.2)) (All.right ha.2)
    | var s E z =>
      have hm : (OS vs fr cx σ.ob)[i]? = some (mP s.rep.c E (vs o) z) := ms_idx hi
      obtain ⟨b, hv, hs⟩ := hst.openP i hm
      have := fz_var (e := s.rep) i hs (get_set hm)
      rw [erase_set, ms_erase hi, ← hdel, ← hv] at this
      exact this.weak fun S w ha => All.append (frzR_var ha.1 (All.left ha.2)) (All.right ha.2)
  · exact h
theorem relV_frz (x : Operand) (h : RelV P fr cx σ vs env w) : RelV P fr cx (frz cx σ x) vs env w := by
  unfold frz
  split
  · exact relV_frzO h
  · exact relV_frzO h
  · exact h
theorem rel_frz (x : Operand) (h : Rel P fr cx σ env w) : Rel P fr cx (frz cx σ x) env w := by
  obtain ⟨hB, vs, hst⟩ := h
  obtain ⟨h1, h2⟩ := relV_frz x ⟨hB, hst⟩
  exact ⟨h1, vs, h2⟩
theorem rel_frzL : ∀ (l : List Operand) {σ : Sg}, Rel P fr cx σ env w → Rel P fr cx (frzL cx σ l) env w
  | [], _, h => h
  | x :: r, _, h => rel_frzL r (rel_frz x h)
/-- every operation -/
theorem m_all (hT : TTok P cf.tt) (hL : ELok P cf.tt) (hC : ∀ s ∈ cf.cs, SigOK P s) (hX : EXok P cf.ex) {op : Op} {k : Sg → Option R} (hd : okPut cx d = true) (h : mOp cf cx σ d op k = some r) :
    MOK P cx ⟨d, op, ty, pos, aft, g⟩ σ k r := by
  unfold mOp at h
  split at h
  · exact m_alloc hT hd h
  · next E x =>
    cases hb : isBx cf d <;> rw [hb] at h
    · exact m_E hT hL hC hX hd h
    · exact m_box hd h
  · next t x y =>
    obtain ⟨hn, h⟩ := grd_s h
    have hn : d = none := by simpa using hn
    subst hn
    split at h
    · next ti hti => exact m_store hT hti h
    · cases h
  · exact m_make hT hd h
  · exact m_lit hT hL hd h
  · next t x hi =>
    split at h
    · next o hx => exact m_slice hT hL hd hx h
    · exact m_E hT hL hC hX hd h
  · exact m_app hT hd h
  · exact m_copy hT hL hd h
  · next f ags ts =>
    split at h
    · next f' cs hf =>
      split at h
      · next s hs => exact m_call hC hd hf hs h
      · exact m_E hT hL hC hX hd h
    · exact m_E hT hL hC hX hd h
  · exact m_E hT hL hC hX hd h
theorem put_self {t : Tmp} : put env (some t) (env t) = env := by
  funext s
  by_cases h : s = t
  · subst h; exact put_eq
  · exact put_ne (fun e => h (by cases e; rfl))
theorem rel_know {t : Tmp} {b : Bool} (hn : notIn cx.rg t = true) (hv : env t = .bool b) (h : Rel P fr cx σ env w) : Rel P fr cx (know σ t b) env w := by
  obtain ⟨hB, vs, hst⟩ := h
  have := RelX.rel <| rel_mk (P := P) (fr := fr) (cx := cx) (σ := σ) (vs := vs) (vs' := vs) (env := env) (w := w) (d := some t) (v := env t) (σ' := know σ t b) (l := [(0, .kb b)]) (Γl := []) hB hn rfl (Nat.le_refl _) (fun _ _ => rfl)
    (fun e he o ho => by obtain rfl := List.mem_singleton.1 he; cases ho) hB.o1 (fun S w _ e he => by obtain rfl := List.mem_singleton.1 he; exact hv) hst
  rwa [put_self] at this
theorem lk_bool {t : Tmp} {x : Bool} {S : Nat → Prop} (h : get cx σ t 0 = some (.d .b x)) (hl : Lk P vs env S w cx σ t) : env t = .bool x := fV_bool (hl 0 _ h)
theorem ifB_s {b : Bool} {a c : Option R} (h : ifB b a c = some r) : (b = true ∧ a = some r) ∨ (b = false ∧ c = some r) := by
  cases b
  · exact .inr ⟨rfl, h⟩
  · exact .inl ⟨rfl, h⟩
theorem guard_s {all : List Oper} {o : Oper} {k : Sg → Bool → Option R} (h : guardD cx all o σ k = some r) (hR : Rel P fr cx σ env w) : ∃ σ' b, k σ' b = some r ∧ Rel P fr cx σ' env w ∧ wantedE all.toArray env o = b := by
  have hR0 := hR
  obtain ⟨hB, vs, hst⟩ := hR
  obtain ⟨S, _, hΓ⟩ := hst.ex
  unfold guardD at h
  split at h
  · next hg => exact ⟨σ, true, h, hR0, by unfold wantedE; rw [hg]⟩
  · next j want hg =>
    split at h
    · next o' ho' =>
      split at h
      · next t ht =>
        have hgd : ∀ {v}, env t = v → gd all.toArray env j = (match v with | .bool b => some b | _ => none) := by
          rintro v rfl
          unfold gd
          simp only [List.getElem?_toArray, ho', Option.bind_some, ht]
          rfl
        have hw : wantedE all.toArray env o = (gd all.toArray env j == some want) := by unfold wantedE; rw [hg]
        split at h
        · next b hb =>
          have hv : env t = .bool b := gs_lk hΓ t 0 _ hb
          refine ⟨σ, _, h, hR0, ?_⟩
          rw [hw, hgd hv]
          cases b <;> cases want <;> rfl
        · next hb =>
          have hv : env t = undef := gs_lk hΓ t 0 _ hb
          refine ⟨σ, _, h, hR0, ?_⟩
          rw [hw, hgd hv]; rfl
        · next x hb =>
          obtain ⟨hn, h⟩ := grd_s h
          have hv : env t = .bool x := lk_bool hb (gs_lk hΓ t)
          rcases ifB_s h with ⟨hx, h⟩ | ⟨hx, h⟩
          · exact ⟨_, _, h, rel_know hn (hv.trans (congrArg Value.bool hx)) hR0, by rw [hw, hgd (hv.trans (congrArg Value.bool hx))]; cases want <;> rfl⟩
          · exact ⟨_, _, h, rel_know hn (hv.trans (congrArg Value.bool hx)) hR0, by rw [hw, hgd (hv.trans (congrArg Value.bool hx))]; cases want <;> rfl⟩
        · cases h
      · cases h
    · cases h
theorem pick_s {o : Oper} {k : Sg → Option R} (h : pickD cx o σ k = some r) (hR : Rel P fr cx σ env w) : ∃ σ', k σ' = some r ∧ Rel P fr cx σ' env w := by
  have hR0 := hR
  obtain ⟨hB, vs, hst⟩ := hR
  obtain ⟨S, _, hΓ⟩ := hst.ex
  unfold pickD at h
  split at h
  · next t _ _ _ =>
    split at h
    · next x hb =>
      obtain ⟨hn, h⟩ := grd_s h
      have hv : env t = .bool x := lk_bool hb (gs_lk hΓ t)
      rcases ifB_s h with ⟨hx, h⟩ | ⟨hx, h⟩
      · exact ⟨_, h, rel_know hn (hv.trans (congrArg Value.bool hx)) hR0⟩
      · exact ⟨_, h, rel_know hn (hv.trans (congrArg Value.bool hx)) hR0⟩
    · exact ⟨σ, h, hR0⟩
  · exact ⟨σ, h, hR0⟩
theorem WpL_op {N : Nat} {ops : Array Oper} {o : Oper} {rest : List Oper} {Q : Qs} (hw : wantedE ops env o = true) (hd : okDst N o.dst = true) (h : OpR P o env w (fun v w' => WpL P N ops rest Q (put env o.dst v) w')) : WpL P N ops (o :: rest) Q env w := by
  intro a h1 h2 h3
  subst h3
  unfold wpList
  rw [if_pos (by rw [wanted_eq]; exact hw)]
  refine .inl (h.wp fun v w' hk => ?_)
  exact hk _ (by rw [size_put]; exact h1) (by rw [defers_put]; exact h2) (envOf_put (by rw [h1]; exact okDst_lt hd))
theorem WpL_not {N : Nat} {ops : Array Oper} {o : Oper} {rest : List Oper} {Q : Qs} (hw : wantedE ops env o = false) (hd : okDst N o.dst = true) (h : WpL P N ops rest Q (put env o.dst undef) w) : WpL P N ops (o :: rest) Q env w := by
  intro a h1 h2 h3
  subst h3
  unfold wpList
  rw [if_neg (by rw [wanted_eq, hw]; exact Bool.false_ne_true)]
  exact h _ (by rw [size_put]; exact h1) (by rw [defers_put]; exact h2) (envOf_put (by rw [h1]; exact okDst_lt hd))
theorem rel_un (hd : okPut cx d = true) (h : Rel P fr cx σ env w) : Rel P fr cx (σ.put d [(0, .un)]) (put env d undef) w := by
  obtain ⟨hB, vs, hst⟩ := h
  exact (rel_mk (σ' := σ.put d [(0, .un)]) (l := [(0, .un)]) (v := undef) (vs := vs) (vs' := vs) (Γl := []) hB hd rfl (Nat.le_refl _) (fun _ _ => rfl) (fun e he o ho => by obtain rfl := List.mem_singleton.1 he; cases ho) hB.o1 (fun S w _ e he => by obtain rfl := List.mem_singleton.1 he; exact rfl) hst).rel
theorem runL_s (hT : TTok P cf.tt) (hL : ELok P cf.tt) (hC : ∀ s ∈ cf.cs, SigOK P s) (hX : EXok P cf.ex) {N : Nat} {all : List Oper} {Q : Qs} {k : Sg → Option R}
    (hK : ∀ σ', k σ' = some r → ∀ env w, Rel P fr cx σ' env w → Q .normal env w) : ∀ {l : List Oper} {σ : Sg} {env : Env} {w : World}, (l.all fun o => okDst N o.dst) = true → runL cf cx all l σ k = some r → Rel P fr cx σ env w → WpL P N all.toArray l Q env w
  | [], σ, env, w, _, h, hR => fun a h1 h2 h3 => wpList_nil ⟨h1, h2, h3 ▸ hK σ h env w hR⟩
  | o :: l, σ, env, w, hN, h, hR => by
    simp only [List.all_cons, Bool.and_eq_true] at hN
    unfold runL at h
    obtain ⟨hd, h⟩ := grd_s h
    obtain ⟨σ1, b, h, hR, hw⟩ := guard_s h hR
    cases b
    · exact WpL_not hw hN.1 (runL_s hT hL hC hX hK hN.2 h (rel_un hd hR))
    · obtain ⟨σ2, h, hR⟩ := pick_s h hR
      have hR := rel_frzL (onto cf cx σ2 o.dst o.op) hR
      obtain ⟨σ', h', _, hm⟩ := m_all (P := P) (d := o.dst) (ty := o.type) (pos := o.pos) (aft := o.after) (g := o.guard) hT hL hC hX hd h
      obtain ⟨hB, vs, hst⟩ := hR
      exact WpL_op hw hN.1 ((hm fr vs env w ⟨hB, hst⟩).mono fun v w' hR' => runL_s hT hL hC hX hK hN.2 h' hR'.rel)
end
end Go.Proofs.YtjnjfinbdfolkaaGreat
end

section
set_option linter.unusedVariables false
set_option linter.unusedSimpArgs false
namespace Go.Proofs.YtjnjfinbdfolkaaGreat
section
variable {P : Program} {cf : Cf} {fr : Fr} {cx σ σ0 : Sg} {vs vs' : Nat → Value} {env env0 : Env} {w : World} {R : Type} {r : R}
  {d : Option Tmp} {ty t yt : TypeId} {pos : String} {aft : Array Edge} {g : Option (Nat × Bool)} {x y : Operand}
theorem fnd_skip : ∀ {a b : List (Nat × Nat × Dv)} {t i : Nat}, (∀ e ∈ a, e.1 ≠ t) → fnd (a ++ b) t i = fnd b t i
  | [], _, _, _, _ => rfl
  | (t', i', d) :: a, b, t, i, h => by
    show (bif Nat.beq t' t && Nat.beq i' i then some d else fnd (a ++ b) t i) = _
    rw [beq_no (h (t', i', d) (List.mem_cons_self ..))]
    simp only [Bool.false_and, cond_false]
    exact fnd_skip fun e he => h e (List.mem_cons_of_mem _ he)
theorem fnd_dels {rg : List (Nat × Nat × Dv)} {t t' i : Nat} (h : t' ≠ t) : fnd (dels rg t) t' i = fnd rg t' i := by
  induction rg with
  | nil => rfl
  | cons e rg ih =>
    obtain ⟨s, j, d⟩ := e
    unfold dels at ih ⊢
    rw [List.filter_cons]
    cases hb : Nat.beq s t
    · simp only [hb, Bool.not_false, if_true]
      unfold fnd
      rw [ih]
    · simp only [hb, Bool.not_true, Bool.false_eq_true, if_false]
      rw [ih]
      have := beq_t hb
      subst this
      conv => rhs; unfold fnd
      rw [beq_no (fun e => h e.symm)]; rfl
theorem fnd_put_ne {rg : List (Nat × Nat × Dv)} {t t' i : Nat} {l : List (Nat × Dv)} (h : t' ≠ t) : fnd (putR rg (some t) l) t' i = fnd rg t' i := by
  unfold putR
  rw [fnd_skip fun e he => by obtain ⟨e', _, rfl⟩ := List.mem_map.1 he; exact fun e => h e.symm]
  exact fnd_dels h
theorem get_put {t t' i : Nat} {l : List (Nat × Dv)} {n : Nat} {ob : List (Nat × Od)} {dv : Dv} (hn : notIn cx.rg t = true) (h : get cx ⟨n, putR σ.rg (some t) l, ob⟩ t' i = some dv) : (t' = t ∧ (i, dv) ∈ l) ∨ (t' ≠ t ∧ get cx σ t' i = some dv) := by
  by_cases ht : t' = t
  · subst ht
    left
    refine ⟨rfl, ?_⟩
    rcases get_mem h with hm | hm
    · have hm : (t', i, dv) ∈ l.map (fun e => (t', e.1, e.2)) ++ dels σ.rg t' := hm
      rcases List.mem_append.1 hm with hm | hm
      · obtain ⟨e, he, heq⟩ := List.mem_map.1 hm
        cases heq; exact he
      · have := (List.mem_filter.1 hm).2
        simp at this
    · simp only [notIn, List.all_eq_true] at hn
      have := hn _ hm
      simp at this
  · right
    refine ⟨ht, ?_⟩
    unfold get at h ⊢
    rw [show fnd (putR σ.rg (some t) l) t' i = fnd σ.rg t' i from fnd_put_ne ht] at h
    exact h
theorem lk_put {t : Nat} {l : List (Nat × Dv)} {n : Nat} {ob : List (Nat × Od)} {S : Nat → Prop} (hn : notIn cx.rg t = true) {t' : Nat} (h1 : t' = t → ∀ e ∈ l, (holdC P vs e.2 (env t) e.1).p S w) (h2 : t' ≠ t → Lk P vs env S w cx σ t') : Lk P vs env S w cx ⟨n, putR σ.rg (some t) l, ob⟩ t' := by
  intro i dv hd
  rcases get_put hn hd with ⟨rfl, hm⟩ | ⟨hne, hg⟩
  · exact h1 rfl _ hm
  · exact h2 hne i dv hg
theorem bd_put {l : List (Nat × Dv)} (hB : Bd cx σ) (hl : ∀ e ∈ l, ∀ o, refO e.2 = some o → o < σ.nx) : Bd cx (σ.put d l) := by
  refine ⟨hB.o1, hB.o2, fun e he o ho => ?_, hB.r2⟩
  have he : e ∈ putR σ.rg d l := he
  unfold putR at he
  cases d with
  | none => exact hB.r1 e he o ho
  | some t =>
    rcases List.mem_append.1 he with he | he
    · obtain ⟨e', he', rfl⟩ := List.mem_map.1 he
      exact hl e' he' o ho
    · exact hB.r1 e (List.mem_filter.1 he).1 o ho
theorem lk_know {t t' : Nat} {x b : Bool} {S : Nat → Prop} (hn : notIn cx.rg t = true) (hb : get cx σ t 0 = some (.d .b x)) (hx : x = b) (h : Lk P vs env S w cx σ t') : Lk P vs env S w cx (know σ t b) t' := by
  refine lk_put hn (fun e e' he => ?_) (fun _ => h)
  subst e
  obtain rfl := List.mem_singleton.1 he
  exact (lk_bool hb h).trans (congrArg Value.bool hx)
/-- what a guard says, of slots alone -/
theorem guardE_s {all : List Oper} {o : Oper} {k : Sg → Bool → Option R} (h : guardD cx all o σ k = some r) (hB : Bd cx σ) : ∃ σ' b, k σ' b = some r ∧ σ'.ob = σ.ob ∧ σ'.nx = σ.nx ∧ Bd cx σ' ∧
    (∀ (P : Program) vs env S w t, Lk P vs env S w cx σ t → Lk P vs env S w cx σ' t) ∧ (∀ (P : Program) vs env S w, (∀ t ∈ Oper.looksAt all.toArray o, Lk P vs env S w cx σ t) → wantedE all.toArray env o = b) := by
  unfold guardD at h
  split at h
  · next hg => exact ⟨σ, true, h, rfl, rfl, hB, fun _ _ _ _ _ _ h => h, fun P vs env S w _ => by unfold wantedE; rw [hg]⟩
  · next j want hg =>
    split at h
    · next o' ho' =>
      split at h
      · next t ht =>
        have hlk : t ∈ Oper.looksAt all.toArray o := by
          unfold Oper.looksAt
          rw [hg]
          simp [ho', ht]
        have hgd : ∀ {env : Env} {v}, env t = v → gd all.toArray env j = (match v with | .bool b => some b | _ => none) := by
          rintro env v rfl
          unfold gd
          simp only [List.getElem?_toArray, ho', Option.bind_some, ht]
          rfl
        have hw : ∀ env, wantedE all.toArray env o = (gd all.toArray env j == some want) := fun env => by unfold wantedE; rw [hg]
        split at h
        · next b hb =>
          refine ⟨σ, _, h, rfl, rfl, hB, fun _ _ _ _ _ _ h => h, fun P vs env S w hl => ?_⟩
          have hv : env t = .bool b := hl t hlk 0 _ hb
          rw [hw, hgd hv]
          cases b <;> cases want <;> rfl
        · next hb =>
          refine ⟨σ, _, h, rfl, rfl, hB, fun _ _ _ _ _ _ h => h, fun P vs env S w hl => ?_⟩
          have hv : env t = undef := hl t hlk 0 _ hb
          rw [hw, hgd hv]; rfl
        · next x hb =>
          obtain ⟨hn, h⟩ := grd_s h
          have hbd : ∀ b, Bd cx (know σ t b) := fun b => bd_put (d := some t) hB fun e he o ho => by obtain rfl := List.mem_singleton.1 he; cases ho
          rcases ifB_s h with ⟨hx, h⟩ | ⟨hx, h⟩
          · refine ⟨_, _, h, rfl, rfl, hbd _, fun P vs env S w t' hl => lk_know hn hb hx hl, fun P vs env S w hl => ?_⟩
            have hv := (lk_bool hb (hl t hlk)).trans (congrArg Value.bool hx)
            rw [hw, hgd hv]; cases want <;> rfl
          · refine ⟨_, _, h, rfl, rfl, hbd _, fun P vs env S w t' hl => lk_know hn hb hx hl, fun P vs env S w hl => ?_⟩
            have hv := (lk_bool hb (hl t hlk)).trans (congrArg Value.bool hx)
            rw [hw, hgd hv]; cases want <;> rfl
        · cases h
      · cases h
    · cases h
theorem pickE_s {o : Oper} {k : Sg → Option R} (h : pickD cx o σ k = some r) (hB : Bd cx σ) : ∃ σ', k σ' = some r ∧ σ'.ob = σ.ob ∧ σ'.nx = σ.nx ∧ Bd cx σ' ∧ (∀ (P : Program) vs env S w t, Lk P vs env S w cx σ t → Lk P vs env S w cx σ' t) := by
  unfold pickD at h
  split at h
  · next t _ _ _ =>
    split at h
    · next x hb =>
      obtain ⟨hn, h⟩ := grd_s h
      have hbd : ∀ b, Bd cx (know σ t b) := fun b => bd_put (d := some t) hB fun e he o ho => by obtain rfl := List.mem_singleton.1 he; cases ho
      rcases ifB_s h with ⟨hx, h⟩ | ⟨hx, h⟩
      · exact ⟨_, h, rfl, rfl, hbd _, fun P vs env S w t' hl => lk_know hn hb hx hl⟩
      · exact ⟨_, h, rfl, rfl, hbd _, fun P vs env S w t' hl => lk_know hn hb hx hl⟩
    · exact ⟨σ, h, rfl, rfl, hB, fun _ _ _ _ _ _ h => h⟩
  · exact ⟨σ, h, rfl, rfl, hB, fun _ _ _ _ _ _ h => h⟩
def prL (P : Program) (vs : Nat → Value) (l : List (Nat × Dv)) : Pr where
  p S v w := ∀ e ∈ l, (holdC P vs e.2 v e.1).p S w
  keepS h k := fun e he => (holdC P vs e.2 _ e.1).keep (h e he) k
  sub h k := fun e he => (holdC P vs e.2 _ e.1).sub (h e he) k
def InvK (P : Program) (vs : Nat → Value) (Γ : List FF) (env0 : Env) (cx σ : Sg) (K : List (Tmp × Pr)) : Prop := ∀ (env : Env) (S : Nat → Prop) (w : World), All S Γ w → ∀ t, holdK K env0 env S w t → Lk P vs env S w cx σ t
def NoCx (cx : Sg) (K : List (Tmp × Pr)) : Prop := ∀ e ∈ K, notIn cx.rg e.1 = true
theorem holdL_mem {K : List (Tmp × Pr)} {S : Nat → Prop} : ∀ {ts : List Tmp}, HoldL K env0 env S w ts → ∀ t ∈ ts, holdK K env0 env S w t
  | [], _, _, h => absurd h List.not_mem_nil
  | _ :: _, h, t, ht => by
    rcases List.mem_cons.1 ht with rfl | ht
    · exact h.1
    · exact holdL_mem h.2 t ht
theorem invK_put {Γ : List FF} {K : List (Tmp × Pr)} {Φ : Pr} {l : List (Nat × Dv)} {o : Oper} (hd : okPut cx o.dst = true) (h : InvK P vs Γ env0 cx σ K) (hΦ : ∀ S v w, Φ.p S v w → ∀ e ∈ l, (holdC P vs e.2 v e.1).p S w) : InvK P vs Γ env0 cx (σ.put o.dst l) (addK o.dst Φ K) := by
  intro env S w hΓ t ht
  cases hdst : o.dst with
  | none =>
    rw [hdst] at ht
    exact h env S w hΓ t ht
  | some s =>
    rw [hdst] at ht hd
    refine lk_put hd (fun e => ?_) (fun hne => ?_)
    · subst e
      refine hΦ S _ w ?_
      unfold holdK addK at ht
      simpa using ht
    · refine h env S w hΓ t ?_
      unfold holdK addK at ht
      rw [List.find?_cons, beq_no (fun e => hne e.symm)] at ht
      exact ht
theorem noCx_add {K : List (Tmp × Pr)} {Φ : Pr} {d : Option Tmp} (hd : okPut cx d = true) (h : NoCx cx K) : NoCx cx (addK d Φ K) := by
  cases d with
  | none => exact h
  | some s =>
    intro e he
    rcases List.mem_cons.1 he with rfl | he
    · exact hd
    · exact h e he
theorem runE_s (hT : TTok P cf.tt) (hL : ELok P cf.tt) (hC : ∀ s ∈ cf.cs, SigOK P s) (hX : EXok P cf.ex) {all : List Oper} {k : Sg → Option R} {Γ : List FF} : ∀ {os : List Oper} {σ : Sg} {K : List (Tmp × Pr)}, runE cf cx all os σ k = some r →
    InvK P vs Γ env0 cx σ K → NoCx cx K → σ.ob = σ0.ob → Bd cx σ → ∃ (Φs : List Pr) (σ' : Sg), Φs.length = os.length ∧ Obs P all.toArray (OS vs fr cx σ0.ob) Γ env0 (os.zip Φs) K ∧ k σ' = some r ∧ InvK P vs Γ env0 cx σ' (Kof (os.zip Φs) K) ∧ NoCx cx (Kof (os.zip Φs) K) ∧ σ'.ob = σ0.ob ∧ Bd cx σ'
  | [], σ, K, h, hi, hn, ho, hB => ⟨[], σ, rfl, trivial, h, hi, hn, ho, hB⟩
  | o :: os, σ, K, h, hi, hn, ho, hB => by
    unfold runE at h
    obtain ⟨hd, h⟩ := grd_s h
    obtain ⟨σ1, b, h, ho1, hx1, hB1, hlk1, hw1⟩ := guardE_s h hB
    have hw : ∀ {env : Env} {S : Nat → Prop} {w : World}, All S Γ w → HoldL K env0 env S w (o.looksAt all.toArray) → wantedE all.toArray env o = b := fun {env S w} hΓ hh => hw1 P vs env S w fun t ht => hi env S w hΓ t (holdL_mem hh t ht)
    cases b
    · have hi' : InvK P vs Γ env0 cx (σ1.put o.dst [(0, .un)]) (addK o.dst (prV undef) K) := invK_put hd (fun env S w hΓ t ht => hlk1 P vs env S w t (hi env S w hΓ t ht)) fun S v w hv e he => by obtain rfl := List.mem_singleton.1 he; exact hv
      obtain ⟨Φs, σ', h1, h2, h3, h4, h5, h6, h7⟩ := runE_s hT hL hC hX (os := os) h hi' (noCx_add hd hn) (ho1.trans ho) (bd_put hB1 fun e he p hp => by obtain rfl := List.mem_singleton.1 he; cases hp)
      refine ⟨prV undef :: Φs, σ', by simp [h1], ⟨fun S w env hS hM hΓ hh => ⟨fun hc => ?_, fun _ => rfl⟩, h2⟩, h3, h4, h5, h6, h7⟩
      rw [hw hΓ hh] at hc; cases hc
    · obtain ⟨σ2, h, ho2, hx2, hB2, hlk2⟩ := pickE_s h hB1
      obtain ⟨l, h, hes⟩ := e_all (P := P) (d := o.dst) (ty := o.type) (pos := o.pos) (aft := o.after) (g := o.guard) (F := fr.F) hT hL hC hX h
      obtain ⟨hl, h⟩ := grd_s h
      have hlk : ∀ env S w t, Lk P vs env S w cx σ t → Lk P vs env S w cx σ2 t := fun env S w t ht => hlk2 P vs env S w t (hlk1 P vs env S w t ht)
      have hi' : InvK P vs Γ env0 cx (σ2.put o.dst l) (addK o.dst (prL P vs l) K) := invK_put hd (fun env S w hΓ t ht => hlk env S w t (hi env S w hΓ t ht)) fun S v w hv => hv
      have hob : σ2.ob = σ0.ob := ho2.trans (ho1.trans ho)
      obtain ⟨Φs, σ', h1, h2, h3, h4, h5, h6, h7⟩ := runE_s hT hL hC hX (os := os) h hi' (noCx_add hd hn) hob (bd_put hB2 (okL_s hl))
      refine ⟨prL P vs l :: Φs, σ', by simp [h1], ⟨fun S w env hS hM hΓ hh => ⟨fun hc => ?_, fun hc => ?_⟩, h2⟩, h3, h4, h5, h6, h7⟩
      · refine hes env w S vs hS (by rw [hob]; exact hM) fun t ht => hlk env S w t (hi env S w hΓ t (holdL_mem hh t ?_))
        exact List.mem_append.2 (.inl ht)
      · rw [hw hΓ hh] at hc; cases hc
end
end Go.Proofs.YtjnjfinbdfolkaaGreat
end

section
set_option linter.unusedVariables false
set_option linter.unusedSimpArgs false
namespace Go.Proofs.YtjnjfinbdfolkaaGreat
def avL (al : Rb → Bool) (rs : List Rb) : List (Nat × Od) := rs.filterMap fun r => if al r = true then some (r.o, r.x) else none
def cOf (i : Nat) (rs : List Rb) : List (Nat × Od) := rs.filterMap fun r => if r.c = some i then some (r.o, r.x) else none
def pOf (i : Nat) (rs : List Rb) : List (Nat × Od) := rs.filterMap fun r => if r.a = some i then some (r.o, r.x) else none
def rOf (i : Nat) (rs : List Rb) : List (Nat × Od) := rs.filterMap fun r => if i ∈ r.rd then some (r.o, r.x) else none
theorem av_split {al al' : Rb → Bool} {i : Nat} : ∀ {rs : List Rb}, (∀ r ∈ rs, (r.c = some i ∧ i ∉ r.rd ∧ r.a ≠ some i ∧ al r = true ∧ al' r = false) ∨ (r.a = some i ∧ r.c ≠ some i ∧ i ∉ r.rd ∧ al r = false ∧ al' r = true) ∨
    (i ∈ r.rd ∧ r.c ≠ some i ∧ r.a ≠ some i ∧ al r = true ∧ al' r = true) ∨ (r.c ≠ some i ∧ r.a ≠ some i ∧ i ∉ r.rd ∧ al r = al' r)) →
    ∃ rest, (∀ e ∈ rest, ∃ r ∈ rs, e = (r.o, r.x) ∧ al r = true ∧ al' r = true) ∧ (avL al rs).Perm (cOf i rs ++ (rOf i rs ++ rest)) ∧ (avL al' rs).Perm (pOf i rs ++ (rOf i rs ++ rest))
  | [], _ => ⟨[], fun e he => absurd he List.not_mem_nil, List.Perm.refl _, List.Perm.refl _⟩
  | r :: rs, h => by
    obtain ⟨rest, h1, h2, h3⟩ := av_split (rs := rs) fun q hq => h q (List.mem_cons_of_mem _ hq)
    have h1' : ∀ e ∈ rest, ∃ q ∈ r :: rs, e = (q.o, q.x) ∧ al q = true ∧ al' q = true := fun e he => by
      obtain ⟨q, hq, h⟩ := h1 e he
      exact ⟨q, List.mem_cons_of_mem _ hq, h⟩
    rcases h r (List.mem_cons_self ..) with ⟨a1, a2, a3, a4, a5⟩ | ⟨a1, a2, a3, a4, a5⟩ | ⟨a1, a2, a3, a4, a5⟩ | ⟨a1, a2, a3, a4⟩
    · refine ⟨rest, h1', ?_, ?_⟩
      · simp only [avL, cOf, rOf, List.filterMap_cons, a1, a2, a4, if_true, if_false, reduceIte] at h2 ⊢
        exact h2.cons _
      · simp only [avL, pOf, rOf, List.filterMap_cons, a3, a2, a5, if_false, reduceIte, Bool.false_eq_true] at h3 ⊢
        exact h3
    · refine ⟨rest, h1', ?_, ?_⟩
      · simp only [avL, cOf, rOf, List.filterMap_cons, a2, a3, a4, if_false, reduceIte, Bool.false_eq_true] at h2 ⊢
        exact h2
      · simp only [avL, pOf, rOf, List.filterMap_cons, a1, a3, a5, if_true, if_false, reduceIte] at h3 ⊢
        exact h3.cons _
    · refine ⟨rest, h1', ?_, ?_⟩
      · simp only [avL, cOf, rOf, List.filterMap_cons, a1, a2, a4, if_true, if_false, reduceIte] at h2 ⊢
        exact (h2.cons _).trans List.perm_middle.symm
      · simp only [avL, pOf, rOf, List.filterMap_cons, a1, a3, a5, if_true, if_false, reduceIte] at h3 ⊢
        exact (h3.cons _).trans List.perm_middle.symm
    · cases hb : al r with
      | false =>
        rw [hb] at a4
        refine ⟨rest, h1', ?_, ?_⟩
        · simp only [avL, cOf, rOf, List.filterMap_cons, a1, a3, hb, if_false, reduceIte, Bool.false_eq_true] at h2 ⊢
          exact h2
        · simp only [avL, pOf, rOf, List.filterMap_cons, a2, a3, ← a4, if_false, reduceIte, Bool.false_eq_true] at h3 ⊢
          exact h3
      | true =>
        rw [hb] at a4
        refine ⟨(r.o, r.x) :: rest, fun e he => ?_, ?_, ?_⟩
        · rcases List.mem_cons.1 he with rfl | he
          · exact ⟨r, List.mem_cons_self .., rfl, hb, a4.symm⟩
          · exact h1' e he
        · simp only [avL, cOf, rOf, List.filterMap_cons, a1, a3, hb, if_true, if_false, reduceIte] at h2 ⊢
          rw [← List.append_assoc] at h2 ⊢
          exact (h2.cons _).trans List.perm_middle.symm
        · simp only [avL, pOf, rOf, List.filterMap_cons, a2, a3, ← a4, if_true, if_false, reduceIte] at h3 ⊢
          rw [← List.append_assoc] at h3 ⊢
          exact (h3.cons _).trans List.perm_middle.symm
def KV (P : Program) (vs : Nat → Value) (KL : List (Tmp × List (Nat × Dv))) : List (Tmp × Pr) := KL.map fun e => (e.1, prL P vs e.2)
def addL (d : Option Tmp) (l : List (Nat × Dv)) (KL : List (Tmp × List (Nat × Dv))) : List (Tmp × List (Nat × Dv)) := match d with
  | some t => (t, l) :: KL
  | none => KL
def KLof : List (Oper × List (Nat × Dv)) → List (Tmp × List (Nat × Dv)) → List (Tmp × List (Nat × Dv))
  | [], K => K
  | (o, l) :: r, K => KLof r (addL o.dst l K)
def OL (P : Program) (vs : Nat → Value) (L : List (Oper × List (Nat × Dv))) : List (Oper × Pr) := L.map fun e => (e.1, prL P vs e.2)
section
variable {P : Program} {vs : Nat → Value}
theorem KV_add {d : Option Tmp} {l : List (Nat × Dv)} {KL : List (Tmp × List (Nat × Dv))} : KV P vs (addL d l KL) = addK d (prL P vs l) (KV P vs KL) := by cases d <;> rfl
theorem KV_of : ∀ (L : List (Oper × List (Nat × Dv))) (KL : List (Tmp × List (Nat × Dv))), KV P vs (KLof L KL) = Kof (OL P vs L) (KV P vs KL)
  | [], KL => rfl
  | (o, l) :: r, KL => by
    show KV P vs (KLof r (addL o.dst l KL)) = Kof (OL P vs r) (addK o.dst (prL P vs l) (KV P vs KL))
    rw [KV_of r, KV_add]
end
def ObB (P : Program) (ops : Array Oper) (we : World) (Se : Nat → Prop) (mE : List MF) (Γ : List FF) (env0 : Env) (vs : Nat → Value) (n0 : Nat) (rs : List Rb) (KL : List (Tmp × List (Nat × Dv))) (i : Nat) (o : Oper) (L : List (Nat × Dv)) (I : Oi) : Prop :=
  n0 ≤ I.lo ∧ I.lo ≤ I.hi ∧ (∀ e ∈ L, ∀ p, refO e.2 = some p → p < I.hi ∧ p ∈ I.refs) ∧ (∀ e ∈ pOf i rs, e.1 < I.hi) ∧
  ∀ vs', (∀ p, p < n0 → vs' p = vs p) → ∀ (env : Env) (F : List MF) (G : List FF) (w : World), St we Se (MS vs' (cOf i rs ++ rOf i rs) ++ (mE ++ F)) (fHold (KV P vs' KL) env0 env (o.looksAt ops) :: (Γ ++ G)) w →
    (wantedE ops env o = true → OpR P o env w (fun v w' => ∃ vs2, (∀ p, p < I.lo → vs2 p = vs' p) ∧ St we Se (MS vs2 (pOf i rs) ++ (MS vs' (rOf i rs) ++ (mE ++ F))) (resL P vs2 v L ++ (Γ ++ G)) w')) ∧
    (wantedE ops env o = false → cOf i rs = [] ∧ pOf i rs = [] ∧ ∀ S w, All S (resL P vs' undef L) w)
def ObsB (P : Program) (ops : Array Oper) (we : World) (Se : Nat → Prop) (mE : List MF) (Γ : List FF) (env0 : Env) (vs : Nat → Value) (n0 : Nat) (rs : List Rb) : List ((Oper × List (Nat × Dv)) × Oi) → Nat → List (Tmp × List (Nat × Dv)) → Prop
  | [], _, _ => True
  | ((o, L), I) :: r, i, KL => ObB P ops we Se mE Γ env0 vs n0 rs KL i o L I ∧ ObsB P ops we Se mE Γ env0 vs n0 rs r (i + 1) (addL o.dst L KL)
theorem ObsB_get {P : Program} {ops : Array Oper} {we : World} {Se : Nat → Prop} {mE : List MF} {Γ : List FF} {env0 : Env} {vs : Nat → Value} {n0 : Nat} {rs : List Rb} : ∀ (r : List (Oper × List (Nat × Dv))) (is : List Oi) (n : Nat) (KL : List (Tmp × List (Nat × Dv))) (i : Nat) (x : Oper × List (Nat × Dv)) (I : Oi),
    ObsB P ops we Se mE Γ env0 vs n0 rs (r.zip is) n KL → r[i]? = some x → is[i]? = some I → ObB P ops we Se mE Γ env0 vs n0 rs (KLof (r.take i) KL) (n + i) x.1 x.2 I
  | [], _, _, _, _, _, _, h, hx, _ => by simp at hx
  | _ :: _, [], _, _, _, _, _, _, _, h => by simp at h
  | (o, L) :: r, I0 :: is, n, KL, 0, x, I, h, hx, hc => by simp at hx hc; subst hx; subst hc; exact h.1
  | (o, L) :: r, I0 :: is, n, KL, i + 1, x, I, h, hx, hc => by
    have := ObsB_get r is (n + 1) (addL o.dst L KL) i x I h.2 (by simpa using hx) (by simpa using hc)
    rw [show n + 1 + i = n + (i + 1) by omega] at this
    simpa [KLof] using this
structure ChkP (l : List Oper) (m : Nat) (rs : List Rb) (is : List Oi) : Prop where
  a : ∀ r ∈ rs, ∀ j, r.a = some j → j < m ∧ ∀ i ∈ r.rd, reachB l 16 i j = true
  c : ∀ r ∈ rs, ∀ k, r.c = some k → k < m ∧ (∀ j, r.a = some j → reachB l 16 k j = true) ∧ ∀ i ∈ r.rd, reachB l 16 k i = true
  n : ∀ i I, is[i]? = some I → ∀ r ∈ rs, I.lo ≤ r.o → r.o < I.hi → ∃ j, r.a = some j ∧ (j = i ∨ reachB l 16 j i = true)
  f : ∀ i I j J, is[i]? = some I → is[j]? = some J → ∀ p ∈ J.refs, I.lo ≤ p → p < I.hi → j = i ∨ reachB l 16 j i = true
  uniq : ∀ i j t, i < m → j < m → i ≠ j → (opAt l i).dst = some t → (opAt l j).dst ≠ some t
theorem chk_parts {l : List Oper} {m : Nat} {rs : List Rb} {is : List Oi} (h : chkB l m rs is = true) : ChkP l m rs is := by
  unfold chkB at h
  rw [Bool.and_eq_true, Bool.and_eq_true] at h
  obtain ⟨⟨hr, hn⟩, hu⟩ := h
  have hn' : ∀ i I, is[i]? = some I → chkN l i I rs is.zipIdx = true := fun i I hi => List.all_eq_true.1 hn (I, i) (List.mem_zipIdx_iff_getElem?.2 hi)
  have inb : ∀ (I : Oi) (p : Nat), I.lo ≤ p → p < I.hi → inB I p = true := fun I p h1 h2 => by
    unfold inB
    rw [Nat.ble_eq_true_of_le h1, Bool.true_and]
    exact Nat.ble_eq_true_of_le h2
  refine ⟨fun r hrm j hj => ?_, fun r hrm k hk => ?_, fun i I hi r hrm h1 h2 => ?_, fun i I j J hi hj p hp h1 h2 => ?_, fun i j t hi hj hne hti htj => ?_⟩
  · have := List.all_eq_true.1 hr r hrm
    rw [Bool.and_eq_true] at this
    have := this.1
    rw [hj] at this
    simp only [Bool.and_eq_true, List.all_eq_true] at this
    exact ⟨by have := Nat.le_of_ble_eq_true this.1; omega, this.2⟩
  · have := List.all_eq_true.1 hr r hrm
    rw [Bool.and_eq_true] at this
    have := this.2
    rw [hk] at this
    simp only [Bool.and_eq_true, List.all_eq_true] at this
    refine ⟨by have := Nat.le_of_ble_eq_true this.1.1; omega, fun j hj => ?_, this.2⟩
    have := this.1.2
    rw [hj] at this
    exact this
  · have := hn' i I hi
    unfold chkN at this
    rw [Bool.and_eq_true] at this
    have := List.all_eq_true.1 this.1 r hrm
    rw [inb I _ h1 h2, Bool.not_true, Bool.false_or] at this
    split at this
    · next j hj =>
      rw [Bool.or_eq_true] at this
      exact ⟨j, hj, this.imp beq_t id⟩
    · cases this
  · have := hn' i I hi
    unfold chkN at this
    rw [Bool.and_eq_true] at this
    have := List.all_eq_true.1 this.2 (J, j) (List.mem_zipIdx_iff_getElem?.2 hj)
    have := List.all_eq_true.1 this p hp
    rw [inb I _ h1 h2, Bool.not_true, Bool.false_or, Bool.or_eq_true] at this
    exact this.imp beq_t id
  · have := List.all_eq_true.1 (List.all_eq_true.1 hu i (List.mem_range.2 hi)) j (List.mem_range.2 hj)
    rw [beq_no hne, Bool.false_or, hti] at this
    simp [htj] at this
end Go.Proofs.YtjnjfinbdfolkaaGreat
end

section
set_option linter.unusedVariables false
set_option linter.unusedSimpArgs false
namespace Go.Proofs.YtjnjfinbdfolkaaGreat
section
variable {P : Program} {N : Nat} {we : World} {Se : Nat → Prop} {ms : List MF} {Γ : List FF} {Q : Qs} {env0 : Env} {l : List Oper} {m : Nat}
theorem slot_of {Lp : List (Oper × Pr)} (hpre : ∀ i, i < m → ∃ Φ, Lp[i]? = some (opAt l i, Φ)) (hpre' : ∀ (i : Nat) (x : Oper × Pr), Lp[i]? = some x → i < m ∧ x.1 = opAt l i) {D : Nat → Bool} {env : Env} {S : Nat → Prop} {w : World} {i : Nat} {t : Tmp}
    (henv : ∀ t, (∀ i, i < m → D i = true → (opAt l i).dst ≠ some t) → env t = env0 t) (hfa : (fAll Lp D env).p S w) (him : i ≤ m) (ht : ∀ j, j < m → (opAt l j).dst = some t → (D j = true ↔ j < i)) : holdK (Kof (Lp.take i) []) env0 env S w t := by
  unfold holdK
  rcases Kof_find t (Lp.take i) [] with ⟨j, y, g1, g2, g3, g4⟩ | ⟨g1, g2⟩
  · rw [g4]
    rw [List.getElem?_take] at g1
    split at g1
    · next hji =>
      obtain ⟨hjm, hy⟩ := hpre' j y g1
      exact hfa j y t ((ht j hjm (hy ▸ g2)).2 hji) g1 g2
    · cases g1
  · rw [g2]
    simp only [List.find?_nil]
    refine henv t fun j hj hDj hdj => ?_
    have hji := (ht j hj hdj).1 hDj
    obtain ⟨Φ, hΦ⟩ := hpre j hj
    exact g1 j (opAt l j, Φ) (by rw [List.getElem?_take, if_pos hji]; exact hΦ) hdj
theorem looks_of (hc : drawOK2 l m = true) {Lp : List (Oper × Pr)} (hpre : ∀ i, i < m → ∃ Φ, Lp[i]? = some (opAt l i, Φ)) (hpre' : ∀ (i : Nat) (x : Oper × Pr), Lp[i]? = some x → i < m ∧ x.1 = opAt l i) {D : Nat → Bool} {env : Env} {S : Nat → Prop} {w : World} {i : Nat}
    (him : i < m) (hDi : D i = false) (hedge : ∀ e ∈ (opAt l i).after, Region.binds .any e = true → D e.on = true) (hdown : ∀ j, D j = true → ∀ e ∈ (opAt l j).after, Region.binds .any e = true → D e.on = true)
    (henv : ∀ t, (∀ i, i < m → D i = true → (opAt l i).dst ≠ some t) → env t = env0 t) (hfa : (fAll Lp D env).p S w) : HoldL (Kof (Lp.take i) []) env0 env S w (Oper.looksAt l.toArray (opAt l i)) := by
  obtain ⟨h0, h1, h2, h3, h3'⟩ := draw_parts2 hc
  have hil : i < l.length := by omega
  have hlast : ∀ t, t ∈ Oper.looksAt l.toArray (opAt l i) → ∀ j, j < m → (opAt l j).dst = some t → j ≠ i → (D j = true ↔ j < i) := by
    intro t ht j hj hjt hne
    have h7 := h2 i j t him hj hne hjt (.inl ht)
    constructor
    · intro hlj
      rcases Nat.lt_or_ge j i with h | h
      · exact h
      · exfalso
        obtain ⟨e, he, hb, hon⟩ := edge_of (h7.2 (by omega))
        have h8 := hdown j hlj e he hb
        rw [hon, hDi] at h8; cases h8
    · intro hji
      obtain ⟨e, he, hb, hon⟩ := edge_of (h7.1 hji)
      have h8 := hedge e he hb
      rwa [hon] at h8
  exact HoldL_of _ fun t ht => slot_of hpre hpre' henv hfa (by omega) fun j hj hjt => by
    by_cases hji : j = i
    · subst hji; rw [hDi]; simp
    · exact hlast t ht j hj hjt hji
def alD (D : Nat → Bool) (r : Rb) : Bool := (match r.a with
  | none => true
  | some j => D j) && !(match r.c with
  | none => false
  | some k => D k)
theorem reach_edge {D : Nat → Bool} {i : Nat} (hedge : ∀ e ∈ (opAt l i).after, Region.binds .any e = true → D e.on = true) (hdown : ∀ j, D j = true → ∀ e ∈ (opAt l j).after, Region.binds .any e = true → D e.on = true) : ∀ (f j : Nat), reachB l f i j = true → D j = true
  | 0, j, h => by
    obtain ⟨e, he, hb, rfl⟩ := edge_of h
    exact hedge e he hb
  | f + 1, j, h => by
    unfold reachB at h
    rw [Bool.or_eq_true] at h
    rcases h with h | h
    · obtain ⟨e, he, hb, rfl⟩ := edge_of h
      exact hedge e he hb
    · rw [List.any_eq_true] at h
      obtain ⟨e, he, hb⟩ := h
      rw [Bool.and_eq_true] at hb
      exact reach_D hdown f e.on j (hedge e (Array.mem_toList_iff.1 he) hb.1) hb.2
theorem avL_congr {al al' : Rb → Bool} : ∀ {rs : List Rb}, (∀ r ∈ rs, al r = al' r) → avL al rs = avL al' rs
  | [], _ => rfl
  | r :: rs, h => by
    have ih := avL_congr (rs := rs) fun q hq => h q (List.mem_cons_of_mem _ hq)
    unfold avL at ih ⊢
    rw [List.filterMap_cons, List.filterMap_cons, h r (List.mem_cons_self ..), ih]
theorem T_any3 {id : Nat} {mE : List MF} (m : Nat) (Ls : List (List (Nat × Dv))) (is : List Oi) (rs : List Rb) (ts : List Tmp) (vs : Nat → Value) (n0 : Nat) (hm : P.follows .mixedOrders = true) (hc : drawOK2 l m = true) (hl : Ls.length = m) (hil : is.length = m) (hx : chkB l m rs is = true)
    (hms : MS vs (avL (fun r => r.a.isNone) rs) ++ mE = ms) (hd : (l.all fun o => okDst N o.dst) = true) (hobs : ObsB P l.toArray we Se mE Γ env0 vs n0 rs (((l.take m).zip Ls).zip is) 0 [])
    (fin : ∀ (env : Env) (w : World) (vs' : Nat → Value), (∀ p, p < n0 → vs' p = vs p) → St we Se (MS vs' (avL (fun r => r.c.isNone) rs) ++ mE) (fHold (KV P vs' (KLof ((l.take m).zip Ls) [])) env0 env ts :: Γ) w → WpL P N l.toArray (l.drop m) Q env w) :
    T P N we Se ms Γ (.region id l.toArray true) Q env0 := by
  obtain ⟨h0, h1, h2, h3, h3'⟩ := draw_parts2 hc
  have hp := chk_parts hx
  obtain ⟨L, hL⟩ : ∃ L, L = (l.take m).zip Ls := ⟨_, rfl⟩
  rw [← hL] at hobs fin
  have hLl : L.length = m := by rw [hL]; simp; omega
  have hpre : ∀ i, i < m → ∃ x, L[i]? = some (opAt l i, x) := fun i hi => by
    have hil : i < l.length := Nat.lt_of_lt_of_le hi h0
    have hidx : i < Ls.length := hl.symm ▸ hi
    refine ⟨Ls[i]'hidx, ?_⟩
    rw [hL, List.getElem?_zip_eq_some]
    refine ⟨?_, by simp⟩
    rw [List.getElem?_take, if_pos hi]
    simp [opAt, hil]
  have hpre' : ∀ i x, L[i]? = some x → i < m ∧ x.1 = opAt l i := fun i x hx => by
    have hi : i < m := by have := (List.getElem?_eq_some_iff.1 hx).1; omega
    obtain ⟨Φ, h⟩ := hpre i hi
    rw [h] at hx; cases hx; exact ⟨hi, rfl⟩
  have opre : ∀ vs' i, i < m → ∃ Φ, (OL P vs' L)[i]? = some (opAt l i, Φ) := fun vs' i hi => by
    obtain ⟨x, h⟩ := hpre i hi
    exact ⟨_, by rw [OL, List.getElem?_map, h]; rfl⟩
  have opre' : ∀ vs' (i : Nat) (x : Oper × Pr), (OL P vs' L)[i]? = some x → i < m ∧ x.1 = opAt l i := fun vs' i x hx => by
    rw [OL, List.getElem?_map] at hx
    cases hy : L[i]? with
    | none => rw [hy] at hx; cases hx
    | some y => rw [hy] at hx; cases hx; exact hpre' i y hy
  refine T_inv m (fun D env w => (∀ t, (∀ i, i < m → D i = true → (opAt l i).dst ≠ some t) → env t = env0 t) ∧ ∃ vs', (∀ p, p < n0 → vs' p = vs p) ∧ St we Se (MS vs' (avL (alD D) rs) ++ mE) (Γ ++ [fAll (OL P vs' L) D env]) w) hm hc hd ?_ ?_ ?_
  · intro w hw
    refine ⟨fun t _ => rfl, vs, fun _ _ => rfl, ?_⟩
    have : alD (fun _ => false) = fun r => r.a.isNone := by
      funext r
      unfold alD
      cases r.a <;> cases r.c <;> rfl
    rw [this, hms]
    exact hw.weak fun S w h => All.append h ⟨fun i x t hi => (by cases hi), trivial⟩
  · rintro D i env w him hDi hlow hedge hdown ⟨henv, vs', hvs, hst⟩
    have hil' : i < l.length := by omega
    obtain ⟨x, hxi⟩ := hpre i him
    obtain ⟨I, hI⟩ : ∃ I, is[i]? = some I := ⟨_, List.getElem?_eq_getElem (by omega)⟩
    obtain ⟨o1, o2, o3, o4, hob⟩ := ObsB_get L is 0 [] i _ I hobs hxi hI
    rw [Nat.zero_add] at hob o4
    have hreach : ∀ j, reachB l 16 i j = true → D j = true := fun j hj => reach_edge hedge hdown 16 j hj
    have hno : ∀ k, D k = true → reachB l 16 k i ≠ true := fun k hk hr => by
      have := reach_D hdown 16 k i hk hr
      rw [hDi] at this; cases this
    -- who is alive
    have hcls : ∀ r ∈ rs, (r.c = some i ∧ i ∉ r.rd ∧ r.a ≠ some i ∧ alD D r = true ∧ alD (ins D i) r = false) ∨ (r.a = some i ∧ r.c ≠ some i ∧ i ∉ r.rd ∧ alD D r = false ∧ alD (ins D i) r = true) ∨
        (i ∈ r.rd ∧ r.c ≠ some i ∧ r.a ≠ some i ∧ alD D r = true ∧ alD (ins D i) r = true) ∨ (r.c ≠ some i ∧ r.a ≠ some i ∧ i ∉ r.rd ∧ alD D r = alD (ins D i) r) := by
      intro r hr
      have hself : reachB l 16 i i ≠ true := fun h => by have := hreach i h; rw [hDi] at this; cases this
      have hins : ∀ j, j ≠ i → ins D i j = D j := fun j hj => ins_ne hj
      by_cases hci : r.c = some i
      · obtain ⟨c1, c2, c3⟩ := hp.c r hr i hci
        have hrd : i ∉ r.rd := fun h => hself (c3 i h)
        have hai : r.a ≠ some i := fun h => hself (c2 i h)
        refine .inl ⟨hci, hrd, hai, ?_, ?_⟩
        · unfold alD
          rw [hci]
          simp only [hDi, Bool.not_false, Bool.and_true]
          cases ha : r.a with
          | none => rfl
          | some j => exact hreach j (c2 j ha)
        · unfold alD
          rw [hci]
          simp only [ins_self, Bool.not_true, Bool.and_false]
      · by_cases hai : r.a = some i
        · obtain ⟨a1, a2⟩ := hp.a r hr i hai
          have hrd : i ∉ r.rd := fun h => hself (a2 i h)
          refine .inr (.inl ⟨hai, hci, hrd, ?_, ?_⟩)
          · unfold alD
            rw [hai]
            simp only [hDi, Bool.false_and]
          · unfold alD
            rw [hai]
            simp only [ins_self, Bool.true_and]
            cases hcc : r.c with
            | none => rfl
            | some k =>
              simp only
              rw [hins k (fun e => hci (by rw [hcc, e]))]
              cases hDk : D k with
              | false => rfl
              | true => exact absurd ((hp.c r hr k hcc).2.1 i hai) (hno k hDk)
        · have hgone : ∀ k, r.c = some k → i ∈ r.rd → D k = false := fun k hk hi => by
            cases hDk : D k with
            | false => rfl
            | true => exact absurd ((hp.c r hr k hk).2.2 i hi) (hno k hDk)
          have hsame : alD (ins D i) r = alD D r := by
            unfold alD
            cases ha : r.a with
            | none =>
              cases hcc : r.c with
              | none => rfl
              | some k => simp only; rw [hins k (fun e => hci (by rw [hcc, e]))]
            | some j =>
              cases hcc : r.c with
              | none => simp only; rw [hins j (fun e => hai (by rw [ha, e]))]
              | some k => simp only; rw [hins j (fun e => hai (by rw [ha, e])), hins k (fun e => hci (by rw [hcc, e]))]
          by_cases hrd : i ∈ r.rd
          · have : alD D r = true := by
              unfold alD
              have e1 : (match r.c with | none => false | some k => D k) = false := by
                cases hcc : r.c with
                | none => rfl
                | some k => exact hgone k hcc hrd
              rw [e1]
              simp only [Bool.not_false, Bool.and_true]
              cases ha : r.a with
              | none => rfl
              | some j => exact hreach j ((hp.a r hr j ha).2 i hrd)
            exact .inr (.inr (.inl ⟨hrd, hci, hai, this, hsame.trans this⟩))
          · exact .inr (.inr (.inr ⟨hci, hai, hrd, hsame.symm⟩))
    obtain ⟨rest, hrest, p1, p2⟩ := av_split hcls
    have hlooks : ∀ S : Nat → Prop, ∀ w : World, (fAll (OL P vs' L) D env).p S w → HoldL (KV P vs' (KLof (L.take i) [])) env0 env S w (Oper.looksAt l.toArray (opAt l i)) := fun S w hfa => by
      rw [KV_of]
      have := looks_of hc (opre vs') (opre' vs') him hDi hedge hdown henv hfa
      rw [show OL P vs' (L.take i) = (OL P vs' L).take i by unfold OL; rw [List.map_take]]
      exact this
    have hst2 : St we Se (MS vs' (cOf i rs ++ rOf i rs) ++ (mE ++ MS vs' rest)) (fHold (KV P vs' (KLof (L.take i) [])) env0 env (Oper.looksAt l.toArray (opAt l i)) :: (Γ ++ [fAll (OL P vs' L) D env])) w := by
      refine St.weak (hst.perm ?_) fun S w h => ⟨hlooks S w (All.right (Γ := Γ) h).1, h⟩
      have e1 : (MS vs' (avL (alD D) rs)).Perm (MS vs' (cOf i rs ++ rOf i rs) ++ MS vs' rest) := by
        unfold MS
        rw [← List.map_append, List.append_assoc]
        exact p1.map _
      refine (List.Perm.append_right mE e1).trans ?_
      rw [List.append_assoc]
      exact List.Perm.append_left _ List.perm_append_comm
    have hob := hob vs' hvs env (MS vs' rest) [fAll (OL P vs' L) D env] w hst2
    have hnew : ∀ (v : Value) (t : Tmp), (∀ i', i' < m → ins D i i' = true → (opAt l i').dst ≠ some t) → put env (opAt l i).dst v t = env0 t := fun v t ht => by
      rw [put_ne (ht i him (ins_self D i))]
      exact henv t fun j hj hDj => ht j hj (ins_old hDj)
    -- behind
    have close : ∀ (v : Value) (w' : World) (vs2 : Nat → Value), (∀ p, p < I.lo → vs2 p = vs' p) → St we Se (MS vs2 (pOf i rs) ++ (MS vs' (rOf i rs) ++ (mE ++ MS vs' rest))) (resL P vs2 v x ++ (Γ ++ [fAll (OL P vs' L) D env])) w' →
        ∃ vs3, (∀ p, p < n0 → vs3 p = vs p) ∧ St we Se (MS vs3 (avL (alD (ins D i)) rs) ++ mE) (Γ ++ [fAll (OL P vs3 L) (ins D i) (put env (opAt l i).dst v)]) w' := by
      intro v w' vs2 hv2 hs
      have e3 : ∃ vs3 : Nat → Value, vs3 = fun p => if I.lo ≤ p ∧ p < I.hi then vs2 p else vs' p := ⟨_, rfl⟩
      obtain ⟨vs3, e3⟩ := e3
      have hlow3 : ∀ p, p < I.hi → vs3 p = vs2 p := fun p hp => by
        rw [e3]
        simp only
        split
        · rfl
        · next hc => exact (hv2 p (by omega)).symm
      have hout3 : ∀ p, ¬ (I.lo ≤ p ∧ p < I.hi) → vs3 p = vs' p := fun p hp => by
        rw [e3]
        exact if_neg hp
      refine ⟨vs3, fun p hp => (hout3 p (by omega)).trans (hvs p hp), ?_⟩
      have hal : ∀ r ∈ rs, alD D r = true → vs3 r.o = vs' r.o := fun r hr hal => hout3 r.o fun ⟨g1, g2⟩ => by
        obtain ⟨j, hj, hji⟩ := hp.n i I hI r hr g1 g2
        unfold alD at hal
        rw [hj, Bool.and_eq_true] at hal
        rcases hji with rfl | hji
        · have := hal.1; simp only at this; rw [hDi] at this; cases this
        · exact hno j hal.1 hji
      have m1 : MS vs3 (pOf i rs) = MS vs2 (pOf i rs) := MS_congr fun e he => hlow3 e.1 (o4 e he)
      have m2 : MS vs3 (rOf i rs) = MS vs' (rOf i rs) := MS_congr fun e he => by
        obtain ⟨r, hr, hre⟩ := List.mem_filterMap.1 he
        split at hre
        · next hi =>
          cases hre
          rcases hcls r hr with ⟨a1, a2, _⟩ | ⟨a1, a2, a3, _⟩ | ⟨a1, a2, a3, a4, _⟩ | ⟨a1, a2, a3, _⟩
          · exact absurd hi a2
          · exact absurd hi a3
          · exact hal r hr a4
          · exact absurd hi a3
        · cases hre
      have m3 : MS vs3 rest = MS vs' rest := MS_congr fun e he => by
        obtain ⟨r, hr, rfl, h1, _⟩ := hrest e he
        exact hal r hr h1
      have hpm : (MS vs3 (avL (alD (ins D i)) rs) ++ mE).Perm (MS vs2 (pOf i rs) ++ (MS vs' (rOf i rs) ++ (mE ++ MS vs' rest))) := by
        rw [← m1, ← m2, ← m3]
        have e1 : (MS vs3 (avL (alD (ins D i)) rs)).Perm (MS vs3 (pOf i rs) ++ (MS vs3 (rOf i rs) ++ MS vs3 rest)) := by
          unfold MS
          rw [← List.map_append, ← List.map_append]
          exact p2.map _
        refine (List.Perm.append_right mE e1).trans ?_
        rw [List.append_assoc, List.append_assoc]
        exact List.Perm.append_left _ (List.Perm.append_left _ List.perm_append_comm)
      refine St.weak (hs.perm hpm.symm) fun S w2 h => ?_
      have hΓ := All.right h
      refine All.append (All.left hΓ) ⟨?_, trivial⟩
      have hfa := (All.right hΓ).1
      intro j y t hj hy ht
      rw [OL, List.getElem?_map] at hy
      cases hz : L[j]? with
      | none => rw [hz] at hy; cases hy
      | some z =>
        rw [hz] at hy
        cases hy
        obtain ⟨hjm, hzo⟩ := hpre' j z hz
        by_cases hji : j = i
        · subst hji
          rw [hxi] at hz
          cases hz
          have ht' : (opAt l j).dst = some t := ht
          show (prL P vs3 x).p S (put env (opAt l j).dst v t) w2
          rw [ht', put_eq]
          intro e he
          have := all_mem.1 (All.left h) _ (List.mem_map.2 ⟨e, he, rfl⟩)
          have hc' : holdC P vs3 e.2 v e.1 = holdC P vs2 e.2 v e.1 := by
            unfold holdC
            simp only [hold_vs (P := P) (vs' := vs3) (vs := vs2) (d := e.2) fun o ho => hlow3 o (o3 e he o ho).1]
          rw [hc']; exact this
        · rw [ins_ne hji] at hj
          have hne : (opAt l i).dst ≠ some t := hp.uniq j i t hjm him hji (hzo ▸ ht)
          show (prL P vs3 z.2).p S (put env (opAt l i).dst v t) w2
          rw [put_ne hne]
          intro e he
          have := hfa j (z.1, prL P vs' z.2) t hj (by rw [OL, List.getElem?_map, hz]; rfl) ht
          have := this e he
          obtain ⟨J, hJ⟩ : ∃ J, is[j]? = some J := ⟨_, List.getElem?_eq_getElem (by omega)⟩
          obtain ⟨_, _, q3, _, _⟩ := ObsB_get L is 0 [] j _ J hobs hz hJ
          have hc' : holdC P vs3 e.2 (env t) e.1 = holdC P vs' e.2 (env t) e.1 := by
            unfold holdC
            simp only [hold_vs (P := P) (vs' := vs3) (vs := vs') (d := e.2) fun o ho => hout3 o fun ⟨g1, g2⟩ => by
              rcases hp.f i I j J hI hJ o (q3 e he o ho).2 g1 g2 with h | h
              · exact hji h
              · exact hno j hj h]
          rw [hc']; exact this
    refine ⟨fun hw => (hob.1 hw).mono fun v w' ⟨vs2, hv2, hs⟩ => ⟨hnew v, close v w' vs2 hv2 hs⟩, fun hw => ⟨hnew undef, ?_⟩⟩
    obtain ⟨g1, g2, g3⟩ := hob.2 hw
    refine close undef w vs' (fun _ _ => rfl) ?_
    rw [g1, List.nil_append] at hst2
    rw [g2]
    refine St.weak (show St we Se (MS vs' [] ++ (MS vs' (rOf i rs) ++ (mE ++ MS vs' rest))) _ w from hst2) fun S w h => All.append (g3 S w) h.2
  · rintro D env w hall hlow ⟨henv, vs', hvs, hst⟩
    refine fin env w vs' hvs ?_
    have hav : avL (alD D) rs = avL (fun r => r.c.isNone) rs := by
      refine avL_congr fun r hr => ?_
      have : alD D r = r.c.isNone := by
        unfold alD
        have e1 : (match r.a with | none => true | some j => D j) = true := by
          cases ha : r.a with
          | none => rfl
          | some j => exact hall j (hp.a r hr j ha).1
        rw [e1]
        cases hcc : r.c with
        | none => rfl
        | some k => simp only [hall k (hp.c r hr k hcc).1]; rfl
      exact this
    rw [hav] at hst
    refine hst.weak fun S w h => ⟨?_, All.left h⟩
    refine HoldL_of ts fun t _ => ?_
    have := slot_of (i := m) (t := t) (opre vs') (opre' vs') henv (All.right (Γ := Γ) h).1 (Nat.le_refl m) fun j hj _ => ⟨fun _ => hj, fun _ => hall j hj⟩
    rw [KV_of]
    rwa [List.take_of_length_le (by unfold OL; rw [List.length_map]; omega)] at this
end
end Go.Proofs.YtjnjfinbdfolkaaGreat
end

section
set_option linter.unusedVariables false
set_option linter.unusedSimpArgs false
namespace Go.Proofs.YtjnjfinbdfolkaaGreat
section
variable {P : Program} {cf : Cf} {fr : Fr} {cx σ σ0 : Sg} {vs vs' : Nat → Value} {env env0 : Env} {w : World} {R : Type} {r : R}
theorem dd_mem : ∀ {rg : List (Nat × Nat × Dv)} {e : Nat × Nat × Dv}, e ∈ dd rg → e ∈ rg
  | a :: r, e, h => by
    rcases List.mem_cons.1 h with rfl | h
    · exact List.mem_cons_self ..
    · exact List.mem_cons_of_mem _ (dd_mem (List.mem_filter.1 h).1)
theorem dd_fnd : ∀ {rg : List (Nat × Nat × Dv)} {e : Nat × Nat × Dv}, e ∈ dd rg → fnd rg e.1 e.2.1 = some e.2.2
  | (t, i, d) :: r, e, h => by
    rcases List.mem_cons.1 h with rfl | h
    · unfold fnd; simp
    · obtain ⟨h1, h2⟩ := List.mem_filter.1 h
      unfold fnd
      simp only [Bool.not_eq_true'] at h2
      rw [h2]
      exact dd_fnd h1
theorem agree_self : ∀ (ts : List Nat), agree env (ts.map fun t => (t, env t))
  | [] => rfl
  | t :: ts => agree_cons rfl (agree_self ts)
theorem L_self {rest : Env} : ∀ {ts : List Nat} {t : Nat}, t ∈ ts → L (ts.map fun t => (t, env t)) rest t = env t
  | s :: ts, t, h => by
    simp only [List.map_cons, L]
    cases hb : Nat.beq t s
    · simp only [cond_false]
      rcases List.mem_cons.1 h with rfl | h
      · simp at hb
      · exact L_self h
    · rw [beq_t hb]; rfl
theorem rel_frzA : ∀ (l : List Oper) (al : List (Nat × Operand)) {σ : Sg}, Rel P fr cx σ env w → Rel P fr cx (frzA cf cx l al σ) env w
  | [], _, _, h => h
  | o :: r, al, σ, h => rel_frzA r _ (rel_frzL _ h)
theorem gd_take {N : Nat} {l : List Oper} (h : (l.all fun o => okDst N o.dst) = true) (m : Nat) : ((l.drop m).all fun o => okDst N o.dst) = true := by
  rw [List.all_eq_true] at h ⊢
  exact fun o ho => h o (List.mem_of_mem_drop ho)
theorem relV_frzOs : ∀ (l : List Nat) {σ : Sg}, RelV P fr cx σ vs env w → RelV P fr cx (frzOs σ l) vs env w
  | [], _, h => h
  | o :: r, _, h => relV_frzOs r (relV_frzO h)
theorem frzOs_nx : ∀ (l : List Nat) (σ : Sg), (frzOs σ l).nx = σ.nx
  | [], _ => rfl
  | o :: r, σ => by
    show (frzOs (frzO σ o) r).nx = _
    rw [frzOs_nx r]
    unfold frzO
    split <;> rfl
structure RX1 (i : Nat) (r r' : Rb) : Prop where
  a : r'.a = r.a
  o : r'.o = r.o
  x : r'.x = r.x
  c1 : ∀ k, r.c = some k → r'.c = some k
  c2 : r.c = none → ∀ k, r'.c = some k → i ≤ k
  d1 : ∀ j ∈ r.rd, j ∈ r'.rd
  d2 : ∀ j ∈ r'.rd, j ∈ r.rd ∨ i ≤ j
def RX (i : Nat) : List Rb → List Rb → Prop
  | [], rs' => ∀ r ∈ rs', (∃ j, r.a = some j ∧ i ≤ j) ∧ (∀ k, r.c = some k → i ≤ k) ∧ ∀ j ∈ r.rd, i ≤ j
  | _ :: _, [] => False
  | r :: rs, r' :: rs' => RX1 i r r' ∧ RX i rs rs'
def OldB (i : Nat) (rs : List Rb) : Prop := ∀ r ∈ rs, (∀ j, r.a = some j → j < i) ∧ (∀ k, r.c = some k → k < i) ∧ ∀ j ∈ r.rd, j < i
theorem RX.refl (i : Nat) : ∀ rs : List Rb, RX i rs rs
  | [] => fun r hr => absurd hr List.not_mem_nil
  | r :: rs => ⟨⟨rfl, rfl, rfl, fun _ h => h, fun h k hk => (by rw [h] at hk; cases hk), fun _ h => h, fun _ h => .inl h⟩, RX.refl i rs⟩
theorem RX_nil {i : Nat} {rs' : List Rb} (h : RX (i + 1) [] rs') : RX i [] rs' ∧ cOf i rs' = [] ∧ pOf i rs' = [] ∧ rOf i rs' = [] := by
  refine ⟨fun r hr => ?_, ?_, ?_, ?_⟩
  · obtain ⟨⟨j, h1, h2⟩, h3, h4⟩ := h r hr
    exact ⟨⟨j, h1, by omega⟩, fun k hk => by have := h3 k hk; omega, fun j hj => by have := h4 j hj; omega⟩
  · refine List.filterMap_eq_nil_iff.2 fun r hr => if_neg fun e => ?_
    have := (h r hr).2.1 i e; omega
  · refine List.filterMap_eq_nil_iff.2 fun r hr => if_neg fun e => ?_
    obtain ⟨j, h1, h2⟩ := (h r hr).1
    rw [e] at h1; cases h1; omega
  · refine List.filterMap_eq_nil_iff.2 fun r hr => if_neg fun e => ?_
    have := (h r hr).2.2 i e; omega
theorem RX1.step {i : Nat} {r r1 r' : Rb} (h : RX1 (i + 1) r1 r') (ha : r1.a = r.a) (ho : r1.o = r.o) (hx : r1.x = r.x) (hc : ∀ k, r.c = some k → r1.c = some k) (hc2 : r.c = none → ∀ k, r1.c = some k → k = i) (hd : ∀ j ∈ r.rd, j ∈ r1.rd) (hd2 : ∀ j ∈ r1.rd, j ∈ r.rd ∨ j = i) : RX1 i r r' :=
{
  a := h.a.trans ha
  o := h.o.trans ho
  x := h.x.trans hx
  c1 := fun k hk => h.c1 k (hc k hk)
  c2 := fun hn k hk => by
    cases h1 : r1.c with
    | none => have := h.c2 h1 k hk; omega
    | some q =>
      have := h.c1 q h1
      rw [hk] at this
      cases this
      have := hc2 hn k h1
      omega
  d1 := fun j hj => h.d1 j (hd j hj)
  d2 := fun j hj => by
    rcases h.d2 j hj with h1 | h1
    · rcases hd2 j h1 with h2 | h2
      · exact .inl h2
      · exact .inr (by omega)
    · exact .inr (by omega) }
theorem RX_skip {i : Nat} : ∀ {rs rs' : List Rb}, OldB i rs → RX (i + 1) rs rs' → RX i rs rs' ∧ cOf i rs' = [] ∧ pOf i rs' = [] ∧ rOf i rs' = []
  | [], rs', _, h => RX_nil h
  | r :: rs, [], _, h => h.elim
  | r :: rs, r' :: rs', ho, ⟨h1, h2⟩ => by
    obtain ⟨g1, g2, g3, g4⟩ := RX_skip (rs := rs) (fun q hq => ho q (List.mem_cons_of_mem _ hq)) h2
    obtain ⟨q1, q2, q3⟩ := ho r (List.mem_cons_self ..)
    have e1 : r'.c ≠ some i := fun e => by
      cases hc : r.c with
      | none => have := h1.c2 hc i e; omega
      | some k => have := h1.c1 k hc; rw [e] at this; cases this; have := q2 i hc; omega
    have e2 : r'.a ≠ some i := fun e => by rw [h1.a] at e; have := q1 i e; omega
    have e3 : i ∉ r'.rd := fun e => by
      rcases h1.d2 i e with h | h
      · have := q3 i h; omega
      · omega
    refine ⟨⟨h1.step rfl rfl rfl (fun _ h => h) (fun hn k hk => (by rw [hn] at hk; cases hk)) (fun _ h => h) (fun _ h => .inl h), g1⟩, ?_, ?_, ?_⟩
    · unfold cOf at g2 ⊢; rw [List.filterMap_cons, if_neg e1]; exact g2
    · unfold pOf at g3 ⊢; rw [List.filterMap_cons, if_neg e2]; exact g3
    · unfold rOf at g4 ⊢; rw [List.filterMap_cons, if_neg e3]; exact g4
theorem RX_see {i : Nat} {os : List Nat} : ∀ {rs rs' : List Rb}, OldB i rs → RX (i + 1) (seeB i os rs) rs' → RX i rs rs' ∧ cOf i rs' = [] ∧ pOf i rs' = [] ∧ ∀ e ∈ visB os rs, e ∈ rOf i rs'
  | [], rs', _, h => by
    obtain ⟨g1, g2, g3, _⟩ := RX_nil h
    exact ⟨g1, g2, g3, fun e he => absurd he List.not_mem_nil⟩
  | r :: rs, [], _, h => h.elim
  | r :: rs, r' :: rs', ho, ⟨h1, h2⟩ => by
    obtain ⟨g1, g2, g3, g4⟩ := RX_see (rs := rs) (fun q hq => ho q (List.mem_cons_of_mem _ hq)) h2
    obtain ⟨q1, q2, q3⟩ := ho r (List.mem_cons_self ..)
    obtain ⟨r1, hr1⟩ : ∃ r1, r1 = (match r.c, has os r.o with | none, true => (⟨r.a, none, i :: r.rd, r.o, r.x⟩ : Rb) | _, _ => r) := ⟨_, rfl⟩
    have h1 : RX1 (i + 1) r1 r' := by rw [hr1]; exact h1
    have k1 : r1.a = r.a ∧ r1.o = r.o ∧ r1.x = r.x ∧ r1.c = r.c ∧ (∀ j ∈ r.rd, j ∈ r1.rd) ∧ (∀ j ∈ r1.rd, j ∈ r.rd ∨ j = i) := by
      rw [hr1]
      split
      · next hc _ => exact ⟨rfl, rfl, rfl, hc.symm, fun j hj => List.mem_cons_of_mem _ hj, fun j hj => (List.mem_cons.1 hj).symm⟩
      · exact ⟨rfl, rfl, rfl, rfl, fun _ h => h, fun _ h => .inl h⟩
    obtain ⟨ka, ko, kx, kc, kd, kd2⟩ := k1
    have e1 : r'.c ≠ some i := fun e => by
      cases hc : r.c with
      | none => have := h1.c2 (kc.trans hc) i e; omega
      | some k => have := h1.c1 k (kc.trans hc); rw [e] at this; cases this; have := q2 i hc; omega
    have e2 : r'.a ≠ some i := fun e => by rw [h1.a, ka] at e; have := q1 i e; omega
    refine ⟨⟨h1.step ka ko kx (fun k hk => kc.trans hk) (fun hn k hk => by rw [kc, hn] at hk; cases hk) kd kd2, g1⟩, ?_, ?_, ?_⟩
    · unfold cOf at g2 ⊢; rw [List.filterMap_cons, if_neg e1]; exact g2
    · unfold pOf at g3 ⊢; rw [List.filterMap_cons, if_neg e2]; exact g3
    · intro e he
      unfold visB at he
      unfold rOf at g4 ⊢
      rw [List.filterMap_cons]
      split at he
      · next hc hh =>
        have hi : i ∈ r'.rd := h1.d1 i (by rw [hr1, hc, hh]; exact List.mem_cons_self ..)
        rw [if_pos hi]
        rcases List.mem_cons.1 he with rfl | he
        · rw [h1.o, h1.x, ko, kx]; exact List.mem_cons_self ..
        · exact List.mem_cons_of_mem _ (g4 e he)
      · split
        · exact g4 e he
        · exact List.mem_cons_of_mem _ (g4 e he)
theorem RX_new {i : Nat} : ∀ {ob : List (Nat × Od)} {rs' : List Rb}, RX (i + 1) (newB i ob) rs' → RX i [] rs' ∧ cOf i rs' = [] ∧ pOf i rs' = ob ∧ rOf i rs' = []
  | [], rs', h => RX_nil h
  | e :: ob, [], h => h.elim
  | e :: ob, r' :: rs', ⟨h1, h2⟩ => by
    obtain ⟨g1, g2, g3, g4⟩ := RX_new (ob := ob) h2
    have e1 : r'.c ≠ some i := fun e => by have := h1.c2 rfl i e; omega
    have e2 : r'.a = some i := h1.a
    have e3 : i ∉ r'.rd := fun e => by
      rcases h1.d2 i e with h | h
      · cases h
      · omega
    refine ⟨fun r hr => ?_, ?_, ?_, ?_⟩
    · rcases List.mem_cons.1 hr with rfl | hr
      · exact ⟨⟨i, e2, Nat.le_refl _⟩, fun k hk => by have := h1.c2 rfl k hk; omega, fun j hj => by
          rcases h1.d2 j hj with h | h
          · cases h
          · omega⟩
      · exact g1 r hr
    · unfold cOf at g2 ⊢; rw [List.filterMap_cons, if_neg e1]; exact g2
    · unfold pOf at g3 ⊢; rw [List.filterMap_cons, if_pos e2, g3, h1.o, h1.x]
    · unfold rOf at g4 ⊢; rw [List.filterMap_cons, if_neg e3]; exact g4
theorem RX_use {i : Nat} {os : List Nat} {ob : List (Nat × Od)} : ∀ {rs rs' : List Rb}, OldB i rs → RX (i + 1) (useB i os rs ++ newB i ob) rs' → RX i rs rs' ∧ cOf i rs' = visB os rs ∧ pOf i rs' = ob ∧ rOf i rs' = []
  | [], rs', _, h => RX_new h
  | r :: rs, [], _, h => h.elim
  | r :: rs, r' :: rs', ho, ⟨h1, h2⟩ => by
    obtain ⟨g1, g2, g3, g4⟩ := RX_use (rs := rs) (fun q hq => ho q (List.mem_cons_of_mem _ hq)) h2
    obtain ⟨q1, q2, q3⟩ := ho r (List.mem_cons_self ..)
    obtain ⟨r1, hr1⟩ : ∃ r1, r1 = (match r.c, has os r.o with | none, true => (⟨r.a, some i, r.rd, r.o, r.x⟩ : Rb) | _, _ => r) := ⟨_, rfl⟩
    have h1 : RX1 (i + 1) r1 r' := by rw [hr1]; exact h1
    have k1 : r1.a = r.a ∧ r1.o = r.o ∧ r1.x = r.x ∧ r1.rd = r.rd ∧ (∀ k, r.c = some k → r1.c = some k) ∧ (r.c = none → ∀ k, r1.c = some k → k = i) := by
      rw [hr1]
      split
      · next hc _ => exact ⟨rfl, rfl, rfl, rfl, fun k hk => (by rw [hc] at hk; cases hk), fun _ k hk => (by cases hk; rfl)⟩
      · exact ⟨rfl, rfl, rfl, rfl, fun _ h => h, fun hn k hk => (by rw [hn] at hk; cases hk)⟩
    obtain ⟨ka, ko, kx, kd, kc, kc2⟩ := k1
    have e2 : r'.a ≠ some i := fun e => by rw [h1.a, ka] at e; have := q1 i e; omega
    have e3 : i ∉ r'.rd := fun e => by
      rcases h1.d2 i e with h | h
      · rw [kd] at h; have := q3 i h; omega
      · omega
    refine ⟨⟨h1.step ka ko kx kc kc2 (fun j hj => by rw [kd]; exact hj) (fun j hj => by rw [kd] at hj; exact .inl hj), g1⟩, ?_, ?_, ?_⟩
    · have no : r1 = r → r'.c ≠ some i := fun hr1' e => by
        rw [hr1'] at h1
        cases hc : r.c with
        | none => have := h1.c2 hc i e; omega
        | some k => have := h1.c1 k hc; rw [e] at this; cases this; have := q2 i hc; omega
      have hv : visB os (r :: rs) = (match r.c, has os r.o with | none, true => (r.o, r.x) :: visB os rs | _, _ => visB os rs) := rfl
      have hcc : cOf i (r' :: rs') = if r'.c = some i then (r'.o, r'.x) :: cOf i rs' else cOf i rs' := by
        unfold cOf
        rw [List.filterMap_cons]
        split <;> next h => split at h <;> simp_all
      rw [hcc, hv, g2]
      cases hc : r.c with
      | some k =>
        rw [if_neg (no (by rw [hr1, hc]))]
      | none =>
        cases hh : has os r.o with
        | false => rw [if_neg (no (by rw [hr1, hc, hh]))]
        | true =>
          have : r'.c = some i := h1.c1 i (by rw [hr1, hc, hh])
          rw [if_pos this, h1.o, h1.x, ko, kx]
    · unfold pOf at g3 ⊢; rw [List.filterMap_cons, if_neg e2]; exact g3
    · unfold rOf at g4 ⊢; rw [List.filterMap_cons, if_neg e3]; exact g4
theorem RX_old {i : Nat} : ∀ {ob : List (Nat × Od)} {rs' : List Rb}, RX i (oldB ob) rs' → avL (fun r => r.a.isNone) rs' = ob
  | [], rs', h => List.filterMap_eq_nil_iff.2 fun r hr => by
    obtain ⟨⟨j, h1, _⟩, _⟩ := h r hr
    simp [h1]
  | e :: ob, [], h => h.elim
  | e :: ob, r' :: rs', ⟨h1, h2⟩ => by
    have ih := RX_old (ob := ob) h2
    unfold avL at ih ⊢
    have : r'.a = none := h1.a
    simp only [List.filterMap_cons, this, Option.isNone_none, if_true]
    rw [ih, h1.o, h1.x]
theorem old_see {i : Nat} {os : List Nat} {rs : List Rb} (h : OldB i rs) : OldB (i + 1) (seeB i os rs) := by
  induction rs with
  | nil => exact fun r hr => absurd hr List.not_mem_nil
  | cons r rs ih =>
    intro q hq
    unfold seeB at hq
    rcases List.mem_cons.1 hq with rfl | hq
    · obtain ⟨q1, q2, q3⟩ := h r (List.mem_cons_self ..)
      split
      · exact ⟨fun j hj => (by have := q1 j hj; omega), fun k hk => (by cases hk), fun j hj => by
          rcases List.mem_cons.1 hj with rfl | hj
          · omega
          · have := q3 j hj; omega⟩
      · exact ⟨fun j hj => by have := q1 j hj; omega, fun k hk => by have := q2 k hk; omega, fun j hj => by have := q3 j hj; omega⟩
    · exact ih (fun q hq => h q (List.mem_cons_of_mem _ hq)) q hq
theorem old_use {i : Nat} {os : List Nat} {rs : List Rb} (h : OldB i rs) : OldB (i + 1) (useB i os rs) := by
  induction rs with
  | nil => exact fun r hr => absurd hr List.not_mem_nil
  | cons r rs ih =>
    intro q hq
    unfold useB at hq
    rcases List.mem_cons.1 hq with rfl | hq
    · obtain ⟨q1, q2, q3⟩ := h r (List.mem_cons_self ..)
      split
      · exact ⟨fun j hj => by have := q1 j hj; omega, fun k hk => by cases hk; omega, fun j hj => by have := q3 j hj; omega⟩
      · exact ⟨fun j hj => by have := q1 j hj; omega, fun k hk => by have := q2 k hk; omega, fun j hj => by have := q3 j hj; omega⟩
    · exact ih (fun q hq => h q (List.mem_cons_of_mem _ hq)) q hq
theorem old_new {i : Nat} {ob : List (Nat × Od)} {rs : List Rb} (h : OldB (i + 1) rs) : OldB (i + 1) (rs ++ newB i ob) := fun q hq => by
  rcases List.mem_append.1 hq with hq | hq
  · exact h q hq
  · obtain ⟨e, _, rfl⟩ := List.mem_map.1 hq
    exact ⟨fun j hj => by cases hj; omega, fun k hk => (by cases hk), fun j hj => absurd hj List.not_mem_nil⟩
theorem old_up {i : Nat} {rs : List Rb} (h : OldB i rs) : OldB (i + 1) rs := fun r hr => by
  obtain ⟨q1, q2, q3⟩ := h r hr
  exact ⟨fun j hj => by have := q1 j hj; omega, fun k hk => by have := q2 k hk; omega, fun j hj => by have := q3 j hj; omega⟩
theorem see_o {i n : Nat} {os : List Nat} {rs : List Rb} (h : ∀ r ∈ rs, r.o < n) : ∀ r ∈ seeB i os rs, r.o < n := by
  induction rs with
  | nil => exact fun r hr => absurd hr List.not_mem_nil
  | cons r rs ih =>
    intro q hq
    unfold seeB at hq
    rcases List.mem_cons.1 hq with rfl | hq
    · have := h r (List.mem_cons_self ..)
      split <;> exact this
    · exact ih (fun q hq => h q (List.mem_cons_of_mem _ hq)) q hq
theorem use_o {i n : Nat} {os : List Nat} {rs : List Rb} (h : ∀ r ∈ rs, r.o < n) : ∀ r ∈ useB i os rs, r.o < n := by
  induction rs with
  | nil => exact fun r hr => absurd hr List.not_mem_nil
  | cons r rs ih =>
    intro q hq
    unfold useB at hq
    rcases List.mem_cons.1 hq with rfl | hq
    · have := h r (List.mem_cons_self ..)
      split <;> exact this
    · exact ih (fun q hq => h q (List.mem_cons_of_mem _ hq)) q hq
theorem visB_o {n : Nat} {os : List Nat} : ∀ {rs : List Rb}, (∀ r ∈ rs, r.o < n) → ∀ e ∈ visB os rs, e.1 < n
  | [], _, e, he => absurd he List.not_mem_nil
  | r :: rs, h, e, he => by
    have ih := visB_o (os := os) (rs := rs) fun q hq => h q (List.mem_cons_of_mem _ hq)
    unfold visB at he
    split at he
    · rcases List.mem_cons.1 he with rfl | he
      · exact h r (List.mem_cons_self ..)
      · exact ih e he
    · exact ih e he
theorem endB_av : ∀ (rs : List Rb), endB rs = avL (fun r => r.c.isNone) rs
  | [] => rfl
  | r :: rs => by
    have ih := endB_av rs
    unfold avL at ih ⊢
    unfold endB
    cases hc : r.c with
    | none => simp only [List.filterMap_cons, hc, Option.isNone_none, if_true]; rw [ih]
    | some k => simp only [List.filterMap_cons, hc, Option.isNone_some, Bool.false_eq_true, if_false]; exact ih
theorem slotsL_mem {ts : List Tmp} : ∀ {rg : List (Nat × Nat × Dv)} {e : Nat × Nat × Dv}, e ∈ slotsL ts rg → e ∈ rg ∧ has ts e.1 = true
  | (t, i, v) :: r, e, h => by
    unfold slotsL at h
    split at h
    · next hh =>
      rcases List.mem_cons.1 h with rfl | h
      · exact ⟨List.mem_cons_self .., hh⟩
      · obtain ⟨h1, h2⟩ := slotsL_mem h; exact ⟨List.mem_cons_of_mem _ h1, h2⟩
    · obtain ⟨h1, h2⟩ := slotsL_mem h; exact ⟨List.mem_cons_of_mem _ h1, h2⟩
theorem slotsL_fnd {ts : List Tmp} {t i : Nat} (ht : has ts t = true) : ∀ {rg : List (Nat × Nat × Dv)}, fnd (slotsL ts rg) t i = fnd rg t i
  | [] => rfl
  | (t', i', v) :: r => by
    unfold slotsL
    split
    · unfold fnd; rw [slotsL_fnd ht]
    · next hh =>
      rw [slotsL_fnd ht]
      conv => rhs; unfold fnd
      rw [beq_no (fun e => by rw [e, ht] at hh; cases hh)]; rfl
theorem fnd_app {t i : Nat} : ∀ {a b : List (Nat × Nat × Dv)}, fnd (a ++ b) t i = match fnd a t i with | some d => some d | none => fnd b t i
  | [], b => rfl
  | (t', i', v) :: a, b => by
    show (bif Nat.beq t' t && Nat.beq i' i then some v else fnd (a ++ b) t i) = (match (bif Nat.beq t' t && Nat.beq i' i then some v else fnd a t i) with | some d => some d | none => fnd b t i)
    cases hb : Nat.beq t' t && Nat.beq i' i
    · simp only [cond_false]; exact fnd_app
    · simp only [cond_true]
theorem has_mem {l : List Nat} {t : Nat} (h : has l t = true) : t ∈ l := by
  unfold has at h
  rw [List.any_eq_true] at h
  obtain ⟨s, hs, hb⟩ := h
  rw [beq_t hb]; exact hs
theorem refsO_mem : ∀ {l : List (Nat × Dv)} {e : Nat × Dv} {p : Nat}, e ∈ l → refO e.2 = some p → p ∈ refsO l
  | (i, v) :: r, e, p, h, hp => by
    unfold refsO
    rcases List.mem_cons.1 h with rfl | h
    · have hp : refO v = some p := hp
      rw [hp]; exact List.mem_cons_self ..
    · have := refsO_mem h hp
      split
      · exact List.mem_cons_of_mem _ this
      · exact this
theorem dstL_mem {d : Option Tmp} {rg : List (Nat × Nat × Dv)} {e : Nat × Dv} (h : e ∈ dstL d rg) : ∃ t, d = some t ∧ (t, e.1, e.2) ∈ rg := by
  unfold dstL at h
  split at h
  · next t =>
    obtain ⟨q, hq, he⟩ := List.mem_filterMap.1 h
    split at he
    · next hb =>
      cases he
      rw [← beq_t hb]
      exact ⟨_, rfl, hq⟩
    · cases he
  · cases h
def InvB (P : Program) (vs : Nat → Value) (n0 : Nat) (Γ : List FF) (env0 : Env) (cx σ : Sg) (KL : List (Tmp × List (Nat × Dv))) : Prop := ∀ vs', (∀ p, p < n0 → vs' p = vs p) → InvK P vs' Γ env0 cx σ (KV P vs' KL)
def NoCxL (cx : Sg) (KL : List (Tmp × List (Nat × Dv))) : Prop := ∀ e ∈ KL, notIn cx.rg e.1 = true
theorem noCxL_add {KL : List (Tmp × List (Nat × Dv))} {l : List (Nat × Dv)} {d : Option Tmp} (hd : okPut cx d = true) (h : NoCxL cx KL) : NoCxL cx (addL d l KL) := by
  cases d with
  | none => exact h
  | some s =>
    intro e he
    rcases List.mem_cons.1 he with rfl | he
    · exact hd
    · exact h e he
theorem invB_put {n0 : Nat} {Γ : List FF} {KL : List (Tmp × List (Nat × Dv))} {l : List (Nat × Dv)} {o : Oper} (hd : okPut cx o.dst = true) (h : InvB P vs n0 Γ env0 cx σ KL) : InvB P vs n0 Γ env0 cx (σ.put o.dst l) (addL o.dst l KL) := fun vs' hv => by
  rw [KV_add]
  exact invK_put hd (h vs' hv) fun S v w hv => hv
theorem runB_s (hT : TTok P cf.tt) (hL : ELok P cf.tt) (hC : ∀ s ∈ cf.cs, SigOK P s) (hX : EXok P cf.ex) {all : List Oper} {fz : List Nat} {k : Sg → List Rb → List Oi → Option R} {Γ : List FF} {n0 : Nat} (hcx : ∀ e ∈ cx.ob, e.1 < n0) : ∀ {os : List Oper} {i : Nat} {σ : Sg} {rs : List Rb} {is : List Oi} {KL : List (Tmp × List (Nat × Dv))},
    runB cf cx all fz os i σ rs is k = some r → InvB P vs n0 Γ env0 cx σ KL → NoCxL cx KL → σ.ob = [] → Bd cx σ → (∀ r ∈ rs, r.o < σ.nx) → OldB i rs → n0 ≤ σ.nx →
    ∃ (Ls : List (List (Nat × Dv))) (is' : List Oi) (σ' : Sg) (rs' : List Rb), Ls.length = os.length ∧ is'.length = os.length ∧ k σ' rs' (is ++ is') = some r ∧ RX i rs rs' ∧
      ObsB P all.toArray fr.we fr.Se (MS vs cx.ob ++ fr.F) Γ env0 vs n0 rs' ((os.zip Ls).zip is') i KL ∧ InvB P vs n0 Γ env0 cx σ' (KLof (os.zip Ls) KL) ∧ NoCxL cx (KLof (os.zip Ls) KL) ∧ σ'.ob = [] ∧ Bd cx σ' ∧ (∀ r ∈ rs', r.o < σ'.nx) ∧ n0 ≤ σ'.nx
  | [], i, σ, rs, is, KL, h, hi, hn, ho, hB, hr, hO, h0 => ⟨[], [], σ, rs, rfl, rfl, by rw [List.append_nil]; exact h, RX.refl _ _, trivial, hi, hn, ho, hB, hr, h0⟩
  | o :: os, i, σ, rs, is, KL, h, hi, hn, ho, hB, hr, hO, h0 => by
    unfold runB at h
    obtain ⟨hd, h⟩ := grd_s h
    obtain ⟨σ1, b, h, ho1, hx1, hB1, hlk1, hw1⟩ := guardE_s h hB
    have hlkK : ∀ {vs' env S w}, (∀ p, p < n0 → vs' p = vs p) → All S Γ w → HoldL (KV P vs' KL) env0 env S w (Oper.looksAt all.toArray o) → ∀ t ∈ Oper.looksAt all.toArray o, Lk P vs' env S w cx σ t := fun {vs' env S w} hv hΓ hh t ht => hi vs' hv env S w hΓ t (holdL_mem hh t ht)
    cases b
    · have hi' : InvB P vs n0 Γ env0 cx (σ1.put o.dst [(0, .un)]) (addL o.dst [(0, .un)] KL) := invB_put hd fun vs' hv env S w hΓ t ht => hlk1 P vs' env S w t (hi vs' hv env S w hΓ t ht)
      obtain ⟨Ls, is', σ', rs', h1, h2, h3, h4, h5, h6, h7, h8, h9, h10, h11⟩ := runB_s hT hL hC hX hcx (os := os) h hi' (noCxL_add hd hn) (ho1.trans ho) (bd_put hB1 fun e he p hp => by obtain rfl := List.mem_singleton.1 he; cases hp) (fun r hr' => by show r.o < σ1.nx; rw [hx1]; exact hr r hr') (old_up hO) (by show n0 ≤ σ1.nx; rw [hx1]; exact h0)
      obtain ⟨g1, g2, g3, g4⟩ := RX_skip hO h4
      refine ⟨[(0, .un)] :: Ls, ⟨σ1.nx, σ1.nx, []⟩ :: is', σ', rs', by simp [h1], by simp [h2], by rw [← h3]; simp, g1, ⟨⟨(by show n0 ≤ σ1.nx; rw [hx1]; exact h0), Nat.le_refl _, fun e he p hp => (by obtain rfl := List.mem_singleton.1 he; cases hp), fun e he => (by rw [g3] at he; cases he), fun vs' hv env F G w hst => ⟨fun hw => ?_, fun _ => ⟨g2, g3, fun S w => ⟨rfl, trivial⟩⟩⟩⟩, h5⟩, h6, h7, h8, h9, h10, h11⟩
      exfalso
      obtain ⟨S, _, hΓ⟩ := hst.ex
      have := hw1 P vs' env S w fun t ht => hlkK hv (All.left hΓ.2) hΓ.1 t ht
      rw [hw] at this; cases this
    · obtain ⟨σ2, h, ho2, hx2, hB2, hlk2⟩ := pickE_s h hB1
      have hlk : ∀ vs' env S w t, Lk P vs' env S w cx σ t → Lk P vs' env S w cx σ2 t := fun vs' env S w t ht => hlk2 P vs' env S w t (hlk1 P vs' env S w t ht)
      have hi2 : InvB P vs n0 Γ env0 cx σ2 KL := fun vs' hv env S w hΓ t ht => hlk vs' env S w t (hi vs' hv env S w hΓ t ht)
      have hnx : σ2.nx = σ.nx := hx2.trans hx1
      have hwt : ∀ {vs' env S w}, (∀ p, p < n0 → vs' p = vs p) → All S Γ w → HoldL (KV P vs' KL) env0 env S w (Oper.looksAt all.toArray o) → wantedE all.toArray env o = true := fun {vs' env S w} hv hΓ hh => hw1 P vs' env S w fun t ht => hlkK hv hΓ hh t ht
      generalize hts : Oper.looksAt all.toArray o = ts at h hlkK hwt
      generalize hos : refsL ts σ2.rg = osn at h
      generalize hbz : fzB fz o.dst = bz at h
      cases hM : isMop cf cx ⟨σ2.nx, σ2.rg, visB osn rs⟩ bz o.dst o.op <;> rw [hM] at h
      · -- it only reads
        simp only [cnd] at h
        obtain ⟨l, h, hes⟩ := e_all (P := P) (d := o.dst) (ty := o.type) (pos := o.pos) (aft := o.after) (g := o.guard) (F := []) hT hL hC hX h
        obtain ⟨hl, h⟩ := grd_s h
        obtain ⟨Ls, is', σ', rs', h1, h2, h3, h4, h5, h6, h7, h8, h9, h10, h11⟩ := runB_s hT hL hC hX hcx (os := os) h (invB_put hd hi2) (noCxL_add hd hn) (ho2.trans (ho1.trans ho)) (bd_put hB2 (okL_s hl)) (see_o fun r hr' => by show r.o < σ2.nx; rw [hnx]; exact hr r hr') (old_see hO) (by show n0 ≤ σ2.nx; rw [hnx]; exact h0)
        obtain ⟨g1, g2, g3, g4⟩ := RX_see hO h4
        refine ⟨l :: Ls, ⟨σ2.nx, σ2.nx, refsO l⟩ :: is', σ', rs', by simp [h1], by simp [h2], by rw [← h3]; simp, g1, ⟨⟨(by show n0 ≤ σ2.nx; rw [hnx]; exact h0), Nat.le_refl _, fun e he p hp => ⟨okL_s hl e he p hp, refsO_mem he hp⟩, fun e he => (by rw [g3] at he; cases he), fun vs' hv env F G w hst => ⟨fun _ => ?_, fun hw => ?_⟩⟩, h5⟩, h6, h7, h8, h9, h10, h11⟩
        · rw [g2] at hst
          rw [g3]
          obtain ⟨k1, k2, k3, S, k4, k5, k6, k7, k8⟩ := hst
          have hmc : MS vs' cx.ob = MS vs cx.ob := MS_congr fun e he => hv _ (hcx e he)
          refine (hes env w S vs' k5 (allM_mem.2 fun mf hmf => ?_) fun t ht => ?_).mono ?_
          · rcases List.mem_append.1 hmf with hmf | hmf
            · obtain ⟨e, he, rfl⟩ := List.mem_map.1 hmf
              exact allM_mem.1 k7 _ (List.mem_append.2 (.inl (List.mem_map.2 ⟨e, g4 e he, rfl⟩)))
            · rw [List.append_nil] at hmf
              have hmf : mf ∈ MS vs' cx.ob := hmf
              rw [hmc] at hmf
              exact allM_mem.1 k7 _ (List.mem_append.2 (.inr (List.mem_append.2 (.inl (List.mem_append.2 (.inl hmf))))))
          · have hh : HoldL (KV P vs' KL) env0 env S w (Oper.looksAt all.toArray o) := k8.1
            exact hlk vs' env S w t (hlkK hv (All.left k8.2) (hts ▸ hh) t (hts ▸ List.mem_append.2 (.inl ht)))
          · rintro v w' ⟨hx, hf⟩
            refine ⟨vs', fun _ _ => rfl, k1.trans hx, k2, k3, S, k4, fun k hk => k5 k (Nat.le_trans hx.size hk), k6, AllM.keep hx.to (fun m hm i hi => hx.block i (AllM.lt k7 m hm i hi) trivial) k7, All.append (all_mem.2 fun f hf' => ?_) (All.keep hx.to k8.2)⟩
            obtain ⟨e, he, rfl⟩ := List.mem_map.1 hf'
            exact hf e he
        · exfalso
          obtain ⟨S, _, hΓ⟩ := hst.ex
          have hh : HoldL (KV P vs' KL) env0 env S w (Oper.looksAt all.toArray o) := hΓ.1
          have := hwt hv (All.left hΓ.2) (hts ▸ hh)
          rw [hw] at this; cases this
      · -- it turns objects
        simp only [cnd] at h
        obtain ⟨τ, h, hle, hm⟩ := m_all (P := P) (cx := ⟨0, [], cx.ob⟩) (d := o.dst) (ty := o.type) (pos := o.pos) (aft := o.after) (g := o.guard) hT hL hC hX (by cases o.dst <;> rfl) h
        obtain ⟨τ2, hτ⟩ : ∃ τ2, τ2 = frzB bz o.dst τ := ⟨_, rfl⟩
        simp only at h
        rw [← hτ] at h
        have hnx2 : τ2.nx = τ.nx := by rw [hτ]; cases bz <;> first | rfl | exact frzOs_nx _ _
        have hrel2 : ∀ {frm : Fr} {vs2 : Nat → Value} {env w}, RelV P frm ⟨0, [], cx.ob⟩ τ vs2 env w → RelV P frm ⟨0, [], cx.ob⟩ τ2 vs2 env w := fun {frm vs2 env w} hq => by rw [hτ]; cases bz <;> first | exact hq | exact relV_frzOs _ hq
        unfold stepB at h
        obtain ⟨hl, h⟩ := grd_s h
        rw [Bool.and_eq_true] at hl
        obtain ⟨hl, hob⟩ := hl
        have hob : ∀ e ∈ τ2.ob, e.1 < τ2.nx := fun e he => by
          have := List.all_eq_true.1 hob e he
          have := Nat.le_of_ble_eq_true this
          omega
        have hle2 : σ2.nx ≤ τ2.nx := by rw [hnx2]; exact hle
        have hi3 : InvB P vs n0 Γ env0 cx ⟨τ2.nx, putR σ2.rg o.dst (dstL o.dst τ2.rg), []⟩ (addL o.dst (dstL o.dst τ2.rg) KL) := fun vs' hv => invB_put (l := dstL o.dst τ2.rg) hd hi2 vs' hv
        have hB3 : Bd cx ⟨τ2.nx, putR σ2.rg o.dst (dstL o.dst τ2.rg), []⟩ := by
          refine ⟨fun e he => absurd he List.not_mem_nil, fun e he => Nat.lt_of_lt_of_le (hB2.o2 e he) hle2, fun e he p hp => ?_, fun e he p hp => Nat.lt_of_lt_of_le (hB2.r2 e he p hp) hle2⟩
          have he : e ∈ putR σ2.rg o.dst (dstL o.dst τ2.rg) := he
          unfold putR at he
          split at he
          · rcases List.mem_append.1 he with he | he
            · obtain ⟨e', he', rfl⟩ := List.mem_map.1 he
              exact okL_s hl e' he' p hp
            · exact Nat.lt_of_lt_of_le (hB2.r1 e (List.mem_filter.1 he).1 p hp) hle2
          · exact Nat.lt_of_lt_of_le (hB2.r1 e he p hp) hle2
        obtain ⟨Ls, is', σ', rs', h1, h2, h3, h4, h5, h6, h7, h8, h9, h10, h11⟩ := runB_s hT hL hC hX hcx (os := os) h hi3 (noCxL_add hd hn) rfl hB3 (fun q hq => by
          rcases List.mem_append.1 hq with hq | hq
          · exact Nat.lt_of_lt_of_le (use_o (n := σ2.nx) (fun r hr' => by rw [hnx]; exact hr r hr') q hq) hle2
          · obtain ⟨e, he, rfl⟩ := List.mem_map.1 hq
            exact hob e he) (old_new (old_use hO)) (Nat.le_trans (by rw [hnx]; exact h0) hle2)
        obtain ⟨g1, g2, g3, g4⟩ := RX_use hO h4
        refine ⟨dstL o.dst τ2.rg :: Ls, ⟨σ2.nx, τ2.nx, refsO (dstL o.dst τ2.rg)⟩ :: is', σ', rs', by simp [h1], by simp [h2], by rw [← h3]; simp, g1, ⟨⟨(by show n0 ≤ σ2.nx; rw [hnx]; exact h0), hle2, fun e he p hp => ⟨okL_s hl e he p hp, refsO_mem he hp⟩, fun e he => hob e (by rw [g3] at he; exact he), fun vs' hv env F G w hst => ⟨fun _ => ?_, fun hw => ?_⟩⟩, h5⟩, h6, h7, h8, h9, h10, h11⟩
        · rw [g2, g4, List.append_nil] at hst
          rw [g3, g4]
          have hmc : ∀ {vs2 : Nat → Value}, (∀ p, p < n0 → vs2 p = vs p) → MS vs2 cx.ob = MS vs cx.ob := fun hv => MS_congr fun e he => hv _ (hcx e he)
          have hrel : RelV P ⟨fr.we, fr.Se, fr.F ++ F, Γ ++ G⟩ ⟨0, [], cx.ob⟩ ⟨σ2.nx, dd (slotsL ts (σ2.rg ++ cx.rg)), visB osn rs⟩ vs' env w := by
            refine ⟨⟨fun e he => visB_o (fun r hr' => by rw [hnx]; exact hr r hr') e he, hB2.o2, fun e he p hp => ?_, fun e he => absurd he List.not_mem_nil⟩, ?_⟩
            · have := (slotsL_mem (dd_mem he)).1
              rcases List.mem_append.1 this with h | h
              · exact hB2.r1 e h p hp
              · exact hB2.r2 e h p hp
            · show St fr.we fr.Se (MS vs' (visB osn rs) ++ (MS vs' cx.ob ++ (fr.F ++ F))) (RS P vs' env (dd (slotsL ts (σ2.rg ++ cx.rg))) ++ ([] ++ (Γ ++ G))) w
              rw [hmc hv, ← List.append_assoc (MS vs cx.ob)]
              refine hst.weak fun S w hΓ => All.append (all_mem.2 fun f hf => ?_) hΓ.2
              obtain ⟨e, he, rfl⟩ := List.mem_map.1 hf
              have hh : HoldL (KV P vs' KL) env0 env S w (Oper.looksAt all.toArray o) := hΓ.1
              have htm := (slotsL_mem (dd_mem he)).2
              have hf2 := dd_fnd he
              rw [slotsL_fnd htm, fnd_app] at hf2
              exact hlk vs' env S w e.1 (hlkK hv (All.left hΓ.2) (hts ▸ hh) e.1 (has_mem htm)) e.2.1 e.2.2 hf2
          refine (hm _ vs' env w hrel).mono ?_
          rintro v w' ⟨vs2, hv2, hrv⟩
          obtain ⟨_, hs2⟩ := hrel2 hrv
          refine ⟨vs2, hv2, ?_⟩
          have hs2 : St fr.we fr.Se (MS vs2 τ2.ob ++ (MS vs2 cx.ob ++ (fr.F ++ F))) (RS P vs2 (put env o.dst v) τ2.rg ++ ([] ++ (Γ ++ G))) w' := hs2
          rw [hmc (vs2 := vs2) (fun p hp => (hv2 p (Nat.lt_of_lt_of_le hp (by show n0 ≤ σ2.nx; rw [hnx]; exact h0))).trans (hv p hp)), ← List.append_assoc (MS vs cx.ob)] at hs2
          refine St.weak (show St fr.we fr.Se (MS vs2 τ2.ob ++ (MS vs' [] ++ (MS vs cx.ob ++ fr.F ++ F))) _ w' from hs2) fun S w hΓ => All.append (all_mem.2 fun f hf => ?_) (All.right hΓ)
          obtain ⟨e, he, rfl⟩ := List.mem_map.1 hf
          obtain ⟨t, ht, hm'⟩ := dstL_mem he
          have := rs_get (All.left hΓ) hm'
          rw [ht, put_eq] at this
          exact this
        · exfalso
          obtain ⟨S, _, hΓ⟩ := hst.ex
          have hh : HoldL (KV P vs' KL) env0 env S w (Oper.looksAt all.toArray o) := hΓ.1
          have := hwt hv (All.left hΓ.2) (hts ▸ hh)
          rw [hw] at this; cases this
theorem regB_s (hm : P.follows .mixedOrders = true) (hT : TTok P cf.tt) (hL : ELok P cf.tt) (hC : ∀ s ∈ cf.cs, SigOK P s) (hX : EXok P cf.ex) {N id m : Nat} {l : List Oper} {Q : Qs} {k : Sg → Option R}
    (hK : ∀ σ', k σ' = some r → ∀ env w, Rel P fr cx σ' env w → Q .normal env w) (hN : (l.all fun o => okDst N o.dst) = true) (hc : drawOK2 l m = true) (h : regB cf cx id l m σ k = some r) (hR : Rel P fr cx σ env w) : Wp P N (.region id l.toArray true) Q env w := by
  unfold regB at h
  simp only at h
  obtain ⟨hBs, vs, hsts⟩ := hR
  obtain ⟨hB0, hst⟩ := relV_frzOs (refsL (fzOf cf id) σ.rg) ⟨hBs, hsts⟩
  generalize frzOs σ (refsL (fzOf cf id) σ.rg) = σ0 at h hB0 hst
  have hml : m ≤ l.length := (draw_parts2 hc).1
  obtain ⟨Ls, is, σ', rs, h1, h2, h3, h4, h5, hinv, hno, hob, hB', hro, hn0⟩ := runB_s (P := P) (fr := fr) (vs := vs) (env0 := env) (Γ := GS P vs env fr cx σ0) (n0 := σ0.nx) (KL := []) hT hL hC hX hB0.o2 h
    (fun vs' hv env' S w' hΓ t ht i dv hd => by
      have ht : env' t = env t := ht
      rw [ht]
      have hg : get cx σ0 t i = some dv := hd
      have := gs_lk hΓ t i dv hg
      have hc' : holdC P vs' dv (env t) i = holdC P vs dv (env t) i := by
        unfold holdC
        simp only [hold_vs (P := P) (vs' := vs') (vs := vs) (d := dv) fun o ho => hv o (by
          rcases get_mem hg with hm | hm
          · exact hB0.r1 _ hm o ho
          · exact hB0.r2 _ hm o ho)]
      rw [hc']; exact this) (fun _ he => absurd he List.not_mem_nil) rfl ⟨fun _ he => absurd he List.not_mem_nil, hB0.o2, hB0.r1, hB0.r2⟩ (fun q hq => by
        obtain ⟨e, he, rfl⟩ := List.mem_map.1 hq
        exact hB0.o1 e he) (fun q hq => by
        obtain ⟨e, he, rfl⟩ := List.mem_map.1 hq
        exact ⟨fun j hj => (by cases hj), fun j hj => (by cases hj), fun j hj => absurd hj List.not_mem_nil⟩) (Nat.le_refl _)
  simp only [List.nil_append] at h3
  obtain ⟨hx, h3⟩ := grd_s h3
  have hrx := RX_old h4
  refine T_any3 (we := fr.we) (Se := fr.Se) (ms := OS vs fr cx σ0.ob) (mE := MS vs cx.ob ++ fr.F) m Ls is rs (σ'.rg.map (·.1) ++ cx.rg.map (·.1)) vs σ0.nx hm hc (by rw [h1, List.length_take]; omega) (by rw [h2, List.length_take]; omega) hx (by rw [hrx]) hN h5 ?_ w hst
  intro env1 w1 vs' hvs hst2
  have hend : endB rs = avL (fun r => r.c.isNone) rs := endB_av rs
  have hmem : ∀ e ∈ endB rs, e.1 < σ'.nx := fun e he => by
    rw [hend] at he
    obtain ⟨q, hq, he⟩ := List.mem_filterMap.1 he
    split at he
    · cases he; exact hro q hq
    · cases he
  refine runL_s (P := P) (fr := fr) hT hL hC hX hK (gd_take hN m) h3 ⟨⟨hmem, hB'.o2, fun e he => hB'.r1 e (dd_mem he), hB'.r2⟩, vs', ?_⟩
  show St fr.we fr.Se (MS vs' (endB rs) ++ (MS vs' cx.ob ++ fr.F)) (RS P vs' env1 (dd σ'.rg) ++ (RS P vs' env1 cx.rg ++ fr.G)) w1
  rw [hend, MS_congr (ob := cx.ob) fun e he => hvs _ (hB0.o2 e he)]
  refine hst2.weak fun S w2 hΓ => ?_
  have hk := holdL_mem hΓ.1
  have hcx : ∀ t ∈ cx.rg.map (·.1), env1 t = env t := fun t ht => by
    have h1 := hk t (List.mem_append.2 (.inr ht))
    unfold holdK at h1
    have hf : (KV P vs' (KLof ((l.take m).zip Ls) [])).find? (fun x => Nat.beq x.1 t) = none := by
      rw [List.find?_eq_none]
      intro e he hb
      obtain ⟨e0, he0, rfl⟩ := List.mem_map.1 he
      have := hno e0 he0
      obtain ⟨e', he', rfl⟩ := List.mem_map.1 ht
      simp only [notIn, List.all_eq_true] at this
      have := this e' he'
      rw [beq_t hb] at this
      simp at this
    rw [hf] at h1
    exact h1
  refine All.append ?_ (All.append ?_ (All.right (All.right hΓ.2)))
  · refine all_mem.2 fun f hf => ?_
    obtain ⟨e, he, rfl⟩ := List.mem_map.1 hf
    have hg : get cx σ' e.1 e.2.1 = some e.2.2 := by unfold get; rw [dd_fnd he]
    exact hinv vs' hvs env1 S w2 hΓ.2 e.1 (hk e.1 (List.mem_append.2 (.inl (List.mem_map.2 ⟨e, dd_mem he, rfl⟩)))) _ _ hg
  · rw [RS_congr (vs := vs) (env := env) (fun e he o ho => hvs o (hB0.r2 e he o ho)) fun e he => hcx e.1 (List.mem_map.2 ⟨e, he, rfl⟩)]
    exact All.left (All.right hΓ.2)
theorem region_s (hm : P.follows .mixedOrders = true) (hT : TTok P cf.tt) (hL : ELok P cf.tt) (hC : ∀ s ∈ cf.cs, SigOK P s) (hX : EXok P cf.ex) {N id : Nat} {l : List Oper} {draw : Bool} {Q : Qs} {k : Sg → Option R}
    (hK : ∀ σ', k σ' = some r → ∀ env w, Rel P fr cx σ' env w → Q .normal env w) (hN : (l.all fun o => okDst N o.dst) = true) (h : regD cf cx id l draw σ k = some r) (hR : Rel P fr cx σ env w) : Wp P N (.region id l.toArray draw) Q env w := by
  unfold regD at h
  cases draw
  · exact fun a h1 h2 h3 => wp_region_lit (runL_s hT hL hC hX hK hN h hR a h1 h2 h3)
  · simp only [cnd] at h
    obtain ⟨hc, h⟩ := grd_s h
    generalize drawnN l l.length l.length = m at hc h
    cases hw : hasB cf id <;> rw [hw] at h
    case true => exact regB_s hm hT hL hC hX hK hN hc h hR
    simp only at h
    have hR0 := rel_frzA (cf := cf) (l.take m) [] hR
    generalize frzA cf cx (l.take m) [] σ = σ0 at h hR0
    obtain ⟨hB, vs, hst⟩ := hR0
    have hml : m ≤ l.length := (draw_parts2 hc).1
    obtain ⟨Φs, σ', hl, hobs, h, hinv, hno, hob, hB'⟩ := runE_s (P := P) (fr := fr) (vs := vs) (env0 := env) (σ0 := σ0) (Γ := GS P vs env fr cx σ0) (K := []) hT hL hC hX h
      (fun env' S w' hΓ t ht i dv hd => by
        have ht : env' t = env t := ht
        rw [ht]
        exact gs_lk hΓ t i dv hd) (fun _ he => absurd he List.not_mem_nil) rfl hB
    refine T_draw (we := fr.we) (Se := fr.Se) (ms := OS vs fr cx σ0.ob) (Γ := GS P vs env fr cx σ0) m Φs (σ'.rg.map (·.1) ++ cx.rg.map (·.1)) hm hc (by rw [hl, List.length_take]; omega) hN hobs ?_ w hst
    intro S w1 env1 hS hΓ hh
    have hk := holdL_mem hh
    have hcx : ∀ t ∈ cx.rg.map (·.1), env1 t = env t := fun t ht => by
      have h1 := hk t (List.mem_append.2 (.inr ht))
      unfold holdK at h1
      have hf : (Kof ((l.take m).zip Φs) []).find? (fun x => Nat.beq x.1 t) = none := by
        rw [List.find?_eq_none]
        intro e he hb
        have := hno e he
        obtain ⟨e', he', rfl⟩ := List.mem_map.1 ht
        simp only [notIn, List.all_eq_true] at this
        have := this e' he'
        rw [beq_t hb] at this
        simp at this
      rw [hf] at h1
      exact h1
    have hd : All S (RS P vs env1 (dd σ'.rg)) w1 := all_mem.2 fun f hf => by
      obtain ⟨e, he, rfl⟩ := List.mem_map.1 hf
      have hg : get cx σ' e.1 e.2.1 = some e.2.2 := by unfold get; rw [dd_fnd he]
      exact hinv env1 S w1 hΓ e.1 (hk e.1 (List.mem_append.2 (.inl (List.mem_map.2 ⟨e, dd_mem he, rfl⟩)))) _ _ hg
    have hc2 : All S (RS P vs env1 cx.rg) w1 := by
      rw [RS_congr (env := env) (fun _ _ _ _ => rfl) fun e he => hcx e.1 (List.mem_map.2 ⟨e, he, rfl⟩)]
      exact All.left (All.right hΓ)
    refine ⟨GS P vs env1 fr cx ⟨σ'.nx, dd σ'.rg, σ'.ob⟩, (σ'.rg.map (·.1) ++ cx.rg.map (·.1)).map fun t => (t, env1 t), All.append hd (All.append hc2 (All.right (All.right hΓ))), agree_self _, fun rest w2 hst2 => ?_⟩
    refine runL_s (P := P) (fr := fr) hT hL hC hX hK (gd_take hN m) h ⟨⟨hB'.o1, hB'.o2, fun e he => hB'.r1 e (dd_mem he), hB'.r2⟩, vs, ?_⟩
    have e1 : RS P vs (L ((σ'.rg.map (·.1) ++ cx.rg.map (·.1)).map fun t => (t, env1 t)) rest) (dd σ'.rg) = RS P vs env1 (dd σ'.rg) := RS_congr (fun _ _ _ _ => rfl) fun e he => L_self (List.mem_append.2 (.inl (List.mem_map.2 ⟨e, dd_mem he, rfl⟩)))
    have e2 : RS P vs (L ((σ'.rg.map (·.1) ++ cx.rg.map (·.1)).map fun t => (t, env1 t)) rest) cx.rg = RS P vs env1 cx.rg := RS_congr (fun _ _ _ _ => rfl) fun e he => L_self (List.mem_append.2 (.inr (List.mem_map.2 ⟨e, he, rfl⟩)))
    show St _ _ (OS vs fr cx σ'.ob) (RS P vs _ (dd σ'.rg) ++ (RS P vs _ cx.rg ++ fr.G)) w2
    rw [e1, e2, hob]
    exact hst2
end
end Go.Proofs.YtjnjfinbdfolkaaGreat
end

section
set_option linter.unusedVariables false
set_option linter.unusedSimpArgs false
namespace Go.Proofs.YtjnjfinbdfolkaaGreat
section
variable {P : Program} {cf : Cf} {fr : Fr} {cx kp σ : Sg} {vs vs' : Nat → Value} {env env0 : Env} {w : World} {R : Type} {r : R}
/-- what is only read of an end -/
def tfF : (f : TF) → f.D → Value → FF
  | .d t, x, v => fV t.rep x v
  | .q t, x, v => fP t.rep x v
  | .own _ _, _, _ => ffT True
  | .var _ _, _, v => ffT (∃ b, v = .pointer (some ⟨b, 0, none⟩))
def tfM : (f : TF) → f.D → Value → List MF
  | .own t E, xs, v => [mO t.rep E v xs]
  | .var t E, z, v => [mP t.rep.c E v z]
  | _, _, _ => []
def dsF (env : Env) : (l : List (Nat × TF)) → DsD l → List FF
  | [], _ => []
  | [a], x => [tfF a.2 x (env a.1)]
  | a :: b :: r, x => tfF a.2 x.1 (env a.1) :: dsF env (b :: r) x.2
def dsM (env : Env) : (l : List (Nat × TF)) → DsD l → List MF
  | [], _ => []
  | [a], x => tfM a.2 x (env a.1)
  | a :: b :: r, x => tfM a.2 x.1 (env a.1) ++ dsM env (b :: r) x.2
theorem St.mid {we : World} {Se : Nat → Prop} {A B : List MF} {m : MF} {Γ : List FF} {w : World} (h : St we Se (A ++ m :: B) Γ w) : St we Se (m :: (A ++ B)) Γ w := St.perm h List.perm_middle
theorem none_in : ∀ {os l : List Nat}, noneIn os l = true → ∀ o ∈ l, has os o = false
  | os, o :: r, h, p, hp => by
    simp only [noneIn, Bool.and_eq_true, Bool.not_eq_true'] at h
    rcases List.mem_cons.1 hp with rfl | hp
    · exact h.1
    · exact none_in h.2 p hp
/-- one end: its datum, the object that goes with it -/
theorem gatF_s {t : Nat} {f : TF} {k : f.D → List Nat → Option R} (h : gatF cx σ t f k = some r) : ∃ x os, k x os = some r ∧
    (∀ (P : Program) vs env S w, Lk P vs env S w cx σ t → (tfF f x (env t)).p S w) ∧
    (∀ (P : Program) vs (fr : Fr) env (A : List MF) (Γ : List FF) w (os' : List Nat), (∀ S w, All S Γ w → Lk P vs env S w cx σ t) → (∀ o ∈ os, has os' o = false) → St fr.we fr.Se (A ++ OS vs fr cx (delos σ.ob os')) Γ w →
      St fr.we fr.Se (tfM f x (env t) ++ (A ++ OS vs fr cx (delos σ.ob (os ++ os')))) Γ w) := by
  cases f with
  | d s =>
    obtain ⟨y, h, hy⟩ := asD_s h
    refine ⟨y, [], h, fun P vs env S w hl => ?_, fun P vs fr env A Γ w os' _ _ h => h⟩
    cases hg : get cx σ t 0 with
    | none => rename_i h0; simp only [gatF] at h0; rw [hg] at h0; cases h0
    | some v => exact hy P vs S w v _ hg (hl 0 v hg)
  | q s =>
    simp only [gatF] at h
    split at h
    · next s' x hg =>
      obtain ⟨e, h⟩ := cast_s h
      subst e
      exact ⟨_, [], h, fun P vs env S w hl => hl 0 _ hg, fun P vs fr env A Γ w os' _ _ h => h⟩
    · cases h
  | own s E =>
    simp only [gatF] at h
    split at h
    · next o hg =>
      split at h
      · next s' E' xs ho =>
        obtain ⟨hE, h1⟩ := grd_s h
        have hE := beq_t hE
        subst hE
        obtain ⟨e, h2⟩ := cast_s h1
        cases e
        refine ⟨_, [o], h2, fun _ _ _ _ _ _ => trivial, fun P vs fr env A Γ w os' hl hn hst => ?_⟩
        have hp := os_perm (vs := vs) (fr := fr) (cx := cx) ((fndO_delos (hn o (List.mem_cons_self ..))).trans ho)
        have h3 := St.mid (St.perm hst (List.Perm.append_left _ hp))
        obtain ⟨S, _, hΓ⟩ := hst.ex
        have hv : env t = vs o := hl S w hΓ 0 _ hg
        show St _ _ (mO s.rep E (env t) _ :: (A ++ _)) _ _
        rw [hv]; exact h3
      · cases h
    · next hg =>
      refine ⟨_, [], h, fun _ _ _ _ _ _ => trivial, fun P vs fr env A Γ w os' hl hn hst => ?_⟩
      obtain ⟨S, _, hΓ⟩ := hst.ex
      have hv : env t = .slice none 0 0 := hl S w hΓ 0 _ hg
      show St _ _ (mO s.rep E (env t) _ :: (A ++ _)) _ _
      rw [hv]; exact hst.nilO
    · cases h
  | var s E =>
    simp only [gatF] at h
    split at h
    · next o s0 hg =>
      split at h
      · next s' E' z ho =>
        obtain ⟨hE, h1⟩ := grd_s h
        have hE := beq_t hE
        subst hE
        obtain ⟨e, h2⟩ := cast_s h1
        subst e
        refine ⟨_, [o], h2, fun P vs env S w hl => ?_, fun P vs fr env A Γ w os' hl hn hst => ?_⟩
        · obtain ⟨h3, b, h4⟩ := hl 0 _ hg
          exact ⟨b, h3.trans h4⟩
        · have hp := os_perm (vs := vs) (fr := fr) (cx := cx) ((fndO_delos (hn o (List.mem_cons_self ..))).trans ho)
          have h3 := St.mid (St.perm hst (List.Perm.append_left _ hp))
          obtain ⟨S, _, hΓ⟩ := hst.ex
          have hv : env t = vs o := (hl S w hΓ 0 _ hg).1
          show St _ _ (mP s'.rep.c E (env t) _ :: (A ++ _)) _ _
          rw [hv]; exact h3
      · cases h
    · cases h
theorem gat_s : ∀ {l : List (Nat × TF)} {k : DsD l → List Nat → Option R}, gat cx σ l k = some r → ∃ x os, k x os = some r ∧
    (∀ (P : Program) vs env S w, (∀ t, Lk P vs env S w cx σ t) → All S (dsF env l x) w) ∧
    (∀ (P : Program) vs (fr : Fr) env (Γ : List FF) w, (∀ S w, All S Γ w → ∀ t, Lk P vs env S w cx σ t) → St fr.we fr.Se (OS vs fr cx σ.ob) Γ w → St fr.we fr.Se (dsM env l x ++ OS vs fr cx (delos σ.ob os)) Γ w)
  | [], k, h => ⟨(), [], h, fun _ _ _ _ _ _ => trivial, fun P vs fr env Γ w _ h => h⟩
  | [a], k, h => by
    obtain ⟨x, os, h1, h2, h3⟩ := gatF_s h
    refine ⟨x, os, h1, fun P vs env S w hl => ⟨h2 P vs env S w (hl a.1), trivial⟩, fun P vs fr env Γ w hl hst => ?_⟩
    have := h3 P vs fr env [] Γ w [] (fun S w hΓ => hl S w hΓ a.1) (fun _ _ => rfl) hst
    rw [List.append_nil] at this
    exact this
  | a :: b :: l, k, h => by
    obtain ⟨x, o, h1, h2, h3⟩ := gatF_s h
    obtain ⟨y, os, h4, h5, h6⟩ := gat_s h1
    obtain ⟨hn, h4⟩ := grd_s h4
    refine ⟨(x, y), o ++ os, h4, fun P vs env S w hl => ⟨h2 P vs env S w (hl a.1), h5 P vs env S w hl⟩, fun P vs fr env Γ w hl hst => ?_⟩
    have := h3 P vs fr env (dsM env (b :: l) y) Γ w os (fun S w hΓ => hl S w hΓ a.1) (none_in hn) (h6 P vs fr env Γ w hl hst)
    show St _ _ ((tfM a.2 x (env a.1) ++ dsM env (b :: l) y) ++ _) _ _
    rw [List.append_assoc]
    exact this
/-- the values of new objects are those of the slots that name them -/
def nvs (vs : Nat → Value) (env : Env) (n : Nat) (ds : List (Nat × TF)) : Nat → Value := fun k => if k < n then vs k else match ds[k - n]? with
  | some a => env a.1
  | none => undef
theorem bld_ob : ∀ {l : List (Nat × TF)} {x : DsD l} {o : Nat}, ∀ e ∈ (bld l x o).2, o ≤ e.1 ∧ e.1 < o + l.length
  | [], _, _, e, he => absurd he List.not_mem_nil
  | [(t, f)], x, o, e, he => by
    cases f <;> simp only [bld, bldF] at he
    · exact absurd he List.not_mem_nil
    · exact absurd he List.not_mem_nil
    · obtain rfl := List.mem_singleton.1 he; exact ⟨Nat.le_refl _, Nat.lt_succ_self _⟩
    · obtain rfl := List.mem_singleton.1 he; exact ⟨Nat.le_refl _, Nat.lt_succ_self _⟩
  | (t, f) :: b :: l, x, o, e, he => by
    have ih : ∀ e ∈ (bld (b :: l) x.2 (o + 1)).2, o ≤ e.1 ∧ e.1 < o + ((t, f) :: b :: l).length := fun e he => by
      have := bld_ob e he
      simp only [List.length_cons] at this ⊢
      omega
    cases f <;> simp only [bld, bldF] at he
    · exact ih e he
    · exact ih e he
    · rcases List.mem_cons.1 he with rfl | he
      · exact ⟨Nat.le_refl _, by simp only [List.length_cons]; omega⟩
      · exact ih e he
    · rcases List.mem_cons.1 he with rfl | he
      · exact ⟨Nat.le_refl _, by simp only [List.length_cons]; omega⟩
      · exact ih e he
theorem bld_ref : ∀ {l : List (Nat × TF)} {x : DsD l} {o : Nat}, ∀ e ∈ (bld l x o).1, ∀ p, refO e.2.2 = some p → o ≤ p ∧ p < o + l.length
  | [], _, _, e, he => absurd he List.not_mem_nil
  | [(t, f)], x, o, e, he => by
    intro p hp
    cases f <;> simp only [bld, bldF] at he <;> obtain rfl := List.mem_singleton.1 he <;> simp only [refO, Option.some.injEq, reduceCtorEq] at hp
    · subst hp; exact ⟨Nat.le_refl _, Nat.lt_succ_self _⟩
    · subst hp; exact ⟨Nat.le_refl _, Nat.lt_succ_self _⟩
  | (t, f) :: b :: l, x, o, e, he => by
    intro p hp
    have he : e = (t, 0, (bldF o f x.1).1) ∨ e ∈ (bld (b :: l) x.2 (o + 1)).1 := List.mem_cons.1 he
    rcases he with rfl | he
    · cases f <;> simp only [bldF, refO, Option.some.injEq, reduceCtorEq] at hp
      · subst hp; exact ⟨Nat.le_refl _, by simp only [List.length_cons]; omega⟩
      · subst hp; exact ⟨Nat.le_refl _, by simp only [List.length_cons]; omega⟩
    · have := bld_ref e he p hp
      simp only [List.length_cons] at this ⊢
      omega
theorem bld_ms : ∀ {l : List (Nat × TF)} {x : DsD l} {o : Nat}, (∀ j a, l[j]? = some a → vs (o + j) = env a.1) → MS vs (bld l x o).2 = dsM env l x
  | [], _, _, _ => rfl
  | [(t, f)], x, o, h => by
    have h0 := h 0 (t, f) rfl
    cases f
    · rfl
    · rfl
    · show [mO _ _ (vs o) x] = [mO _ _ (env t) x]
      rw [show vs o = env t from h0]
    · show [mP _ _ (vs o) x] = [mP _ _ (env t) x]
      rw [show vs o = env t from h0]
  | (t, f) :: b :: l, x, o, h => by
    have h0 := h 0 (t, f) rfl
    have ih : MS vs (bld (b :: l) x.2 (o + 1)).2 = dsM env (b :: l) x.2 := bld_ms fun j a hj => by
      have := h (j + 1) a hj
      rw [← this]; congr 1; omega
    cases f
    · exact ih
    · exact ih
    · show mO _ _ (vs o) x.1 :: MS vs (bld (b :: l) x.2 (o + 1)).2 = mO _ _ (env t) x.1 :: dsM env (b :: l) x.2
      rw [ih, show vs o = env t from h0]
    · show mP _ _ (vs o) x.1 :: MS vs (bld (b :: l) x.2 (o + 1)).2 = mP _ _ (env t) x.1 :: dsM env (b :: l) x.2
      rw [ih, show vs o = env t from h0]
theorem bldF_hold {f : TF} {x : f.D} {o t : Nat} {S : Nat → Prop} (hv : vs o = env t) (h : (tfF f x (env t)).p S w) : (holdC P vs (bldF o f x).1 (env t) 0).p S w := by
  cases f
  · exact h
  · exact h
  · exact hv.symm
  · exact ⟨hv.symm, by rw [hv]; exact h⟩
theorem bld_rs : ∀ {l : List (Nat × TF)} {x : DsD l} {o : Nat} {S : Nat → Prop}, (∀ j a, l[j]? = some a → vs (o + j) = env a.1) → All S (dsF env l x) w → All S (RS P vs env (bld l x o).1) w
  | [], _, _, _, _, _ => trivial
  | [(t, f)], x, o, S, h, hf => ⟨bldF_hold (h 0 (t, f) rfl) hf.1, trivial⟩
  | (t, f) :: b :: l, x, o, S, h, hf => ⟨bldF_hold (h 0 (t, f) rfl) hf.1, bld_rs (fun j a hj => by
      have := h (j + 1) a hj
      rw [← this]; congr 1; omega) hf.2⟩
theorem ns_get : ∀ {ns : List (Nat × NF)}, nsOK cx σ ns = true → ∀ t f, (t, f) ∈ ns → (match f, get cx σ t 0 with
    | .kb b, some (.kb c) => b == c
    | .nil, some .nil => true
    | .ci x, some (.d .i y) => eqI x y
    | .cu x, some (.d .u y) => eqU x y
    | .al s, some (.ow o) => (match get cx σ s 0 with
      | some (.ow o') => Nat.beq o o'
      | _ => false)
    | .al s, some (.vs o _) => (match get cx σ s 0 with
      | some (.vs o' _) => Nat.beq o o'
      | _ => false)
    | _, _ => false) = true
  | (t', f') :: r, h, t, f, hm => by
    unfold nsOK at h
    rw [Bool.and_eq_true] at h
    rcases List.mem_cons.1 hm with heq | hm
    · cases heq; exact h.1
    · exact ns_get h.2 t f hm
theorem bldN_rs {rg : List (Nat × Nat × Dv)} {S : Nat → Prop} (hr : All S (RS P vs env rg) w) : ∀ {ns : List (Nat × NF)}, (∀ t f, (t, f) ∈ ns → match f with
      | .kb b => env t = .bool b
      | .nil => env t = .slice none 0 0
      | .ci x => (fV eI x (env t)).p S w
      | .cu x => (fV eU x (env t)).p S w
      | .al s => env t = env s) → All S (RS P vs env (bldN rg ns)) w
  | [], _ => hr
  | (t, f) :: r, h => by
    have ih := bldN_rs hr (ns := r) fun t f hm => h t f (List.mem_cons_of_mem _ hm)
    have h0 := h t f (List.mem_cons_self ..)
    unfold bldN
    show All S (RS P vs env (_ ++ _)) w
    rw [show RS P vs env (_ ++ bldN rg r) = RS P vs env _ ++ RS P vs env (bldN rg r) from List.map_append]
    refine All.append ?_ ih
    cases f
    · exact ⟨h0, trivial⟩
    · exact ⟨h0, trivial⟩
    · exact ⟨h0, trivial⟩
    · exact ⟨h0, trivial⟩
    · next s =>
      simp only
      split
      · next v hv =>
        have := rs_get hr (fnd_mem hv)
        have h0 : env t = env s := h0
        refine ⟨?_, trivial⟩
        show (holdC P vs v (env t) 0).p S w
        rw [h0]; exact this
      · trivial
theorem bldN_ref {rg : List (Nat × Nat × Dv)} {n : Nat} (hr : ∀ e ∈ rg, ∀ p, refO e.2.2 = some p → p < n) : ∀ {ns : List (Nat × NF)}, ∀ e ∈ bldN rg ns, ∀ p, refO e.2.2 = some p → p < n
  | [], e, he => hr e he
  | (t, f) :: r, e, he => by
    intro p hp
    unfold bldN at he
    rcases List.mem_append.1 he with he | he
    · cases f
      · obtain rfl := List.mem_singleton.1 he; cases hp
      · obtain rfl := List.mem_singleton.1 he; cases hp
      · obtain rfl := List.mem_singleton.1 he; cases hp
      · obtain rfl := List.mem_singleton.1 he; cases hp
      · simp only at he
        split at he
        · next v hv =>
          obtain rfl := List.mem_singleton.1 he
          exact hr _ (fnd_mem hv) p hp
        · exact absurd he List.not_mem_nil
    · exact bldN_ref hr e he p hp
theorem rel_frzS : ∀ (l : List (Nat × TF)) {σ : Sg}, Rel P fr cx σ env w → Rel P fr cx (frzS cx σ l) env w
  | [], _, h => h
  | (t, .d _) :: r, _, h => rel_frzS r (rel_frz _ h)
  | (t, .q _) :: r, _, h => rel_frzS r h
  | (t, .own _ _) :: r, _, h => rel_frzS r h
  | (t, .var _ _) :: r, _, h => rel_frzS r h
theorem St.dropM {we : World} {Se : Nat → Prop} {Γ : List FF} {w : World} : ∀ {A B C : List MF}, St we Se (A ++ (B ++ C)) Γ w → St we Se (A ++ C) Γ w
  | A, [], C, h => h
  | A, b :: B, C, h => St.dropM (B := B) (St.drop (i := 0) (St.mid h))
end
end Go.Proofs.YtjnjfinbdfolkaaGreat
end

section
set_option linter.unusedVariables false
set_option linter.unusedSimpArgs false
namespace Go.Proofs.YtjnjfinbdfolkaaGreat
section
variable {P : Program} {cf : Cf} {fr : Fr} {cx kp σ : Sg} {vs vs' : Nat → Value} {env env0 : Env} {w : World} {R : Type} {r : R} {N : Nat} {Q : Qs}
theorem RS_app {a b : List (Nat × Nat × Dv)} : RS P vs env (a ++ b) = RS P vs env a ++ RS P vs env b := List.map_append
theorem out_s {sh : Sh} {k : DsD sh.ds → Option R} (h : outS (addC cx kp) sh σ k = some r) (hK : Bd cx kp) : ∃ x, k x = some r ∧ ∀ env w, Rel P fr (addC cx kp) σ env w → Rel P fr cx (bldS sh x kp) env w := by
  unfold outS at h
  simp only at h
  obtain ⟨hns, h⟩ := grd_s h
  obtain ⟨x, os, h1, h2, h3⟩ := gat_s h
  refine ⟨x, h1, fun env w hR => ?_⟩
  have hR1 := rel_frzS sh.ds hR
  generalize frzS (addC cx kp) σ sh.ds = σ1 at *
  obtain ⟨hB, vs, hst⟩ := hR1
  have hst2 := h3 P vs fr env (GS P vs env fr (addC cx kp) σ1) w (fun S w hΓ => gs_lk hΓ) hst
  have hst3 := St.dropM hst2
  have hvo : ∀ o, o < kp.nx → nvs vs env kp.nx sh.ds o = vs o := fun o ho => if_pos ho
  have hvn : ∀ j a, sh.ds[j]? = some a → nvs vs env kp.nx sh.ds (kp.nx + j) = env a.1 := fun j a hj => by
    unfold nvs
    rw [if_neg (by omega), show kp.nx + j - kp.nx = j by omega, hj]
  have hb1 := fun e he => bld_ob (l := sh.ds) (x := x) (o := kp.nx) e he
  have hb2 := fun e he => bld_ref (l := sh.ds) (x := x) (o := kp.nx) e he
  refine ⟨⟨fun e he => ?_, fun e he => ?_, fun e he p hp => ?_, fun e he p hp => ?_⟩, nvs vs env kp.nx sh.ds, ?_⟩
  · rcases List.mem_append.1 he with he | he
    · exact (hb1 e he).2
    · exact Nat.lt_of_lt_of_le (hK.o1 e he) (Nat.le_add_right _ _)
  · exact Nat.lt_of_lt_of_le (hK.o2 e he) (Nat.le_add_right _ _)
  · rcases List.mem_append.1 he with he | he
    · rcases List.mem_append.1 he with he | he
      · exact bldN_ref (fun e he p hp => (hb2 e he p hp).2) e he p hp
      · exact (hb2 e he p hp).2
    · exact Nat.lt_of_lt_of_le (hK.r1 e he p hp) (Nat.le_add_right _ _)
  · exact Nat.lt_of_lt_of_le (hK.r2 e he p hp) (Nat.le_add_right _ _)
  · have e1 : OS (nvs vs env kp.nx sh.ds) fr cx ((bld sh.ds x kp.nx).2 ++ kp.ob) = dsM env sh.ds x ++ (MS vs (kp.ob ++ cx.ob) ++ fr.F) := by
      show MS _ (_ ++ kp.ob) ++ (MS _ cx.ob ++ _) = _
      rw [show MS (nvs vs env kp.nx sh.ds) ((bld sh.ds x kp.nx).2 ++ kp.ob) = MS _ _ ++ MS _ _ from List.map_append, bld_ms hvn, MS_congr fun e he => hvo _ (hK.o1 e he), MS_congr (ob := cx.ob) fun e he => hvo _ (hK.o2 e he),
        show MS vs (kp.ob ++ cx.ob) = MS _ _ ++ MS _ _ from List.map_append, List.append_assoc, List.append_assoc]
    show St _ _ (OS (nvs vs env kp.nx sh.ds) fr cx ((bld sh.ds x kp.nx).2 ++ kp.ob)) _ _
    rw [e1]
    refine hst3.weak fun S w hΓ => ?_
    have hl : ∀ t, Lk P vs env S w (addC cx kp) σ1 t := gs_lk hΓ
    have hy : All S (RS P (nvs vs env kp.nx sh.ds) env (bld sh.ds x kp.nx).1) w := bld_rs hvn (h2 P vs env S w hl)
    have hkc : All S (RS P vs env kp.rg ++ RS P vs env cx.rg) w := by
      have := All.left (All.right hΓ)
      rwa [show RS P vs env (addC cx kp).rg = RS P vs env kp.rg ++ RS P vs env cx.rg from List.map_append] at this
    have hn := bldN_rs hy (ns := sh.ns) fun t f hm => by
      have hg := ns_get hns t f hm
      cases f
      · split at hg <;> simp_all
        next b c h3 => exact hl t 0 _ h3
      · split at hg <;> simp_all
        next h3 => exact hl t 0 _ h3
      · split at hg <;> simp_all
        next a b h3 =>
        have := hl t 0 _ h3
        simp only [eqI, decide_eq_true_eq] at hg
        rw [hg]; exact this
      · split at hg <;> simp_all
        next a b h3 =>
        have := hl t 0 _ h3
        simp only [eqU, decide_eq_true_eq] at hg
        rw [hg]; exact this
      · next s =>
        cases hgt : get (addC cx kp) σ1 t 0 with
        | none => rw [hgt] at hg; cases hg
        | some v =>
          rw [hgt] at hg
          cases v <;> simp only [Bool.false_eq_true] at hg
          · next o =>
            cases hgs : get (addC cx kp) σ1 s 0 with
            | none => rw [hgs] at hg; cases hg
            | some v' =>
              rw [hgs] at hg
              cases v' <;> simp only [Bool.false_eq_true] at hg
              have a1 : env t = vs o := hl t 0 _ hgt
              have a2 := hl s 0 _ hgs
              have := beq_t hg
              subst this
              exact a1.trans (show env s = _ from a2).symm
          · next o _ =>
            cases hgs : get (addC cx kp) σ1 s 0 with
            | none => rw [hgs] at hg; cases hg
            | some v' =>
              rw [hgs] at hg
              cases v' <;> simp only [Bool.false_eq_true] at hg
              have a1 : env t = vs o := (hl t 0 _ hgt).1
              have a2 := (hl s 0 _ hgs).1
              have := beq_t hg
              subst this
              exact a1.trans a2.symm
    show All S (RS P _ env ((bldN (bld sh.ds x kp.nx).1 sh.ns ++ (bld sh.ds x kp.nx).1) ++ kp.rg) ++ (RS P _ env cx.rg ++ fr.G)) w
    refine All.append ?_ (All.append ?_ (All.right (All.right hΓ)))
    · rw [RS_app, RS_app]
      refine All.append (All.append hn hy) ?_
      rw [RS_congr (fun e he p hp => hvo _ (hK.r1 e he p hp)) (fun _ _ => rfl)]
      exact All.left hkc
    · rw [RS_congr (fun e he p hp => hvo _ (hK.r2 e he p hp)) (fun _ _ => rfl)]
      exact All.right hkc
theorem tg_eq {a t : Tg} (h : tgEq a t = true) : a = t := by
  cases a <;> cases t <;> first | rfl | cases h | skip
  rw [beq_t (show Nat.beq _ _ = true from h)]
theorem inj_s {t : Tg} (hK : Bd cx kp) : ∀ {l : List (Tg × Sh)} {k : SmD l → Option R}, injS (addC cx kp) σ t l k = some r → ∃ (y : SmD l) (σt : Sg), k y = some r ∧ (∀ {R' : Type} (K : Tg → Sg → Option R'), elimS kp K l y = K t σt) ∧ ∀ env w, Rel P fr (addC cx kp) σ env w → Rel P fr cx σt env w
  | [], k, h => by cases h
  | [a], k, h => by
    obtain ⟨ht, h⟩ := grd_s h
    obtain ⟨x, h1, h2⟩ := out_s (P := P) (fr := fr) h hK
    have := tg_eq ht
    subst this
    exact ⟨x, _, h1, fun K => rfl, h2⟩
  | a :: b :: l, k, h => by
    unfold injS at h
    cases ht : tgEq a.1 t <;> rw [ht] at h
    · obtain ⟨y, σt, h1, h2, h3⟩ := inj_s hK (l := b :: l) h
      exact ⟨.inr y, σt, h1, fun K => h2 K, h3⟩
    · obtain ⟨x, h1, h2⟩ := out_s (P := P) (fr := fr) h hK
      have := tg_eq ht
      subst this
      exact ⟨.inl x, _, h1, fun K => rfl, h2⟩
theorem Wp_seq {x y : Code} (h : Wp P N x (thenQ (Wp P N y Q) Q) env w) : Wp P N (.seq x y) Q env w := by
  intro a h1 h2 h3
  refine wp_seq (wp_mono (h a h1 h2 h3) ?_)
  intro e a' w' ⟨q1, q2, q3⟩
  cases e <;> first | exact q3 a' q1 q2 rfl | exact ⟨q1, q2, q3⟩
theorem Wp_mono {c : Code} {Q' : Qs} (h : Wp P N c Q env w) (hq : ∀ e env w, Q e env w → Q' e env w) : Wp P N c Q' env w :=
  fun a h1 h2 h3 => wp_mono (h a h1 h2 h3) fun e a' w' ⟨q1, q2, q3⟩ => ⟨q1, q2, hq e _ _ q3⟩
theorem Wp_block {id : Nat} {c : Code} (h : Wp P N c (blockQ id Q) env w) : Wp P N (.block id c) Q env w := by
  intro a h1 h2 h3
  refine wp_block (wp_mono (h a h1 h2 h3) ?_)
  intro e a' w' ⟨q1, q2, q3⟩
  cases e with
  | exit i =>
    simp only [blockQ] at q3
    simp only [Exit.inBlock]
    cases hb : Nat.beq i id
    · rw [hb] at q3
      rw [if_neg (fun e => by subst e; simp at hb)]
      exact ⟨q1, q2, q3⟩
    · rw [hb] at q3
      rw [if_pos (Nat.eq_of_beq_eq_true hb)]
      exact ⟨q1, q2, q3⟩
  | _ => exact ⟨q1, q2, q3⟩
theorem Wp_scope {c : Code} (h : Wp P N c (sansGoto Q) env w) : Wp P N (.scope c) Q env w := by
  intro a h1 h2 h3
  refine wp_scope_straight (wp_mono (h a h1 h2 h3) ?_)
  intro e a' w' ⟨q1, q2, q3⟩
  cases e <;> first | exact ⟨q1, q2, q3⟩ | exact q3.elim
theorem Wp_loop {c : Code} {G : Type} (I : G → Env → World → Prop) (μ : G → Nat) (g₀ : G) (h₀ : I g₀ env w) (round : ∀ g env w, I g env w → Wp P N c (thenQ (fun env' w' => ∃ g', I g' env' w' ∧ μ g' < μ g) Q) env w) : Wp P N (.loop c) Q env w := by
  intro a h1 h2 h3
  refine wp_loop_ghost (fun g a w => a.tmps.size = N ∧ a.defers = [] ∧ I g (envOf a) w) μ g₀ ⟨h1, h2, h3 ▸ h₀⟩ ?_
  intro g a w ⟨h1, h2, hI⟩
  refine wp_mono (round g (envOf a) w hI a h1 h2 rfl) ?_
  intro e a' w' ⟨q1, q2, q3⟩
  cases e with
  | normal => obtain ⟨g', o1, o2⟩ := q3; exact ⟨g', ⟨q1, q2, o1⟩, o2⟩
  | _ => exact ⟨q1, q2, q3⟩
theorem Wp_cond_t {c : Operand} {x y : Code} (hc : ev env c = .bool true) (h : Wp P N x Q env w) : Wp P N (.cond c x y) Q env w :=
  fun a h1 h2 h3 => wp_cond_true (by rw [eval_eq, h3]; exact hc) (h a h1 h2 h3)
theorem Wp_cond_f {c : Operand} {x y : Code} (hc : ev env c = .bool false) (h : Wp P N y Q env w) : Wp P N (.cond c x y) Q env w :=
  fun a h1 h2 h3 => wp_cond_false (by rw [eval_eq, h3]; exact hc) (h a h1 h2 h3)
theorem filt_perm {α : Type} (p : α → Bool) : ∀ l : List α, l.Perm ((l.filter fun a => !p a) ++ l.filter p)
  | [] => List.Perm.refl _
  | a :: l => by
    have ih := filt_perm p l
    rw [List.filter_cons, List.filter_cons]
    cases hp : p a
    · simpa using ih.cons a
    · simp only [Bool.not_true, Bool.false_eq_true, if_false, if_true]
      exact (ih.cons a).trans List.perm_middle.symm
theorem rel_keep {ag ro : List Nat} (h : Rel P fr cx σ env w) : Bd cx (keep σ ag ro) ∧ Rel P fr (addC cx (keep σ ag ro)) (rest σ ag ro) env w := by
  obtain ⟨hB, vs, hst⟩ := h
  have hb : Bd cx (keep σ ag ro) := ⟨fun e he => hB.o1 e (List.mem_filter.1 he).1, hB.o2, fun e he => hB.r1 e (List.mem_filter.1 he).1, hB.r2⟩
  refine ⟨hb, ⟨fun e he => hB.o1 e (List.mem_filter.1 he).1, fun e he => ?_, fun e he => hB.r1 e (List.mem_filter.1 he).1, fun e he => ?_⟩, vs, ?_⟩
  · rcases List.mem_append.1 he with he | he
    · exact hb.o1 e he
    · exact hb.o2 e he
  · rcases List.mem_append.1 he with he | he
    · exact hb.r1 e he
    · exact hb.r2 e he
  · have hp : (OS vs fr cx σ.ob).Perm (OS vs fr (addC cx (keep σ ag ro)) (rest σ ag ro).ob) := by
      show List.Perm (MS vs σ.ob ++ (MS vs cx.ob ++ fr.F)) (MS vs (rest σ ag ro).ob ++ (MS vs ((keep σ ag ro).ob ++ cx.ob) ++ fr.F))
      have e : MS vs (rest σ ag ro).ob ++ (MS vs ((keep σ ag ro).ob ++ cx.ob) ++ fr.F) = (MS vs (rest σ ag ro).ob ++ MS vs (keep σ ag ro).ob) ++ (MS vs cx.ob ++ fr.F) := by
        rw [show MS vs ((keep σ ag ro).ob ++ cx.ob) = MS _ _ ++ MS _ _ from List.map_append]
        simp only [List.append_assoc]
      rw [e]
      refine List.Perm.append_right _ ?_
      have := (filt_perm (fun e : Nat × Od => has (keptO σ ro) e.1) σ.ob).map (moF vs)
      rw [List.map_append] at this
      exact this
    refine (St.perm hst hp).sub' ?_
    intro f hf
    rcases List.mem_append.1 hf with hf | hf
    · obtain ⟨e, he, rfl⟩ := List.mem_map.1 hf
      exact List.mem_append.2 (.inl (List.mem_map.2 ⟨e, (List.mem_filter.1 he).1, rfl⟩))
    · rcases List.mem_append.1 hf with hf | hf
      · obtain ⟨e, he, rfl⟩ := List.mem_map.1 hf
        rcases List.mem_append.1 he with he | he
        · exact List.mem_append.2 (.inl (List.mem_map.2 ⟨e, (List.mem_filter.1 he).1, rfl⟩))
        · exact List.mem_append.2 (.inr (List.mem_append.2 (.inl (List.mem_map.2 ⟨e, he, rfl⟩))))
      · exact List.mem_append.2 (.inr (List.mem_append.2 (.inr hf)))
end
end Go.Proofs.YtjnjfinbdfolkaaGreat
end

section
set_option linter.unusedVariables false
set_option linter.unusedSimpArgs false
namespace Go.Proofs.YtjnjfinbdfolkaaGreat
section
variable {P : Program} {cf : Cf} {fr : Fr}
theorem bd_keep {cx σ : Sg} (h : Bd cx σ) : Bd (addC cx σ) ⟨σ.nx, [], []⟩ where
  o1 := fun _ he => absurd he List.not_mem_nil
  o2 := fun e he => by
    rcases List.mem_append.1 he with he | he
    · exact h.o1 e he
    · exact h.o2 e he
  r1 := fun _ he => absurd he List.not_mem_nil
  r2 := fun e he => by
    rcases List.mem_append.1 he with he | he
    · exact h.r1 e he
    · exact h.r2 e he
theorem den_s (hm : P.follows .mixedOrders = true) (hT : TTok P cf.tt) (hL : ELok P cf.tt) (hC : ∀ s ∈ cf.cs, SigOK P s) (hX : EXok P cf.ex) {N : Nat} :
    ∀ (c : Code) {R : Type} {r : R} {cx σ : Sg} {K : Tg → Sg → Option R} {Q : Qs}, den cf c cx σ K = some r → okC N c = true →
      (∀ t σ', K t σ' = some r → ∀ env w, Rel P fr cx σ' env w → Q (tgE t) env w) → ∀ env w, Rel P fr cx σ env w → Wp P N c Q env w
  | .skip, R, r, cx, σ, K, Q, h, _, hK, env, w, hR => fun _ h1 h2 h3 => wp_skip ⟨h1, h2, h3 ▸ hK .n σ h env w hR⟩
  | .label _, R, r, cx, σ, K, Q, h, _, hK, env, w, hR => fun _ h1 h2 h3 => wp_label ⟨h1, h2, h3 ▸ hK .n σ h env w hR⟩
  | .exit id, R, r, cx, σ, K, Q, h, _, hK, env, w, hR => fun _ h1 h2 h3 => wp_exit ⟨h1, h2, h3 ▸ hK (.x id) σ h env w hR⟩
  | .ret, R, r, cx, σ, K, Q, h, _, hK, env, w, hR => fun _ h1 h2 h3 => wp_ret ⟨h1, h2, h3 ▸ hK .r σ h env w hR⟩
  | .scope c, R, r, cx, σ, K, Q, h, ho, hK, env, w, hR => by
    refine Wp_scope (den_s hm hT hL hC hX c (K := K) h ho (fun t σ' hk env w hR => ?_) env w hR)
    have := hK t σ' hk env w hR
    cases t <;> exact this
  | .region id ops dr, R, r, cx, σ, K, Q, h, ho, hK, env, w, hR => by
    have := region_s (id := id) hm hT hL hC hX (Q := Q) (k := fun σ => K .n σ) (fun σ' hk env w hR => hK .n σ' hk env w hR) ho h hR
    rwa [Array.toArray_toList] at this
  | .cond c a b, R, r, cx, σ, K, Q, h, ho, hK, env, w, hR => by
    have ho := (Bool.and_eq_true _ _).mp ho
    simp only [den] at h
    obtain ⟨hB, vs, hst⟩ := hR
    have hR : Rel P fr cx σ env w := ⟨hB, vs, hst⟩
    obtain ⟨S, _, hΓ⟩ := hst.ex
    split at h
    · next hv => exact Wp_cond_t (opv_hold hv (gs_lko hΓ c)) (den_s hm hT hL hC hX a h ho.1 hK env w hR)
    · next hv => exact Wp_cond_f (opv_hold hv (gs_lko hΓ c)) (den_s hm hT hL hC hX b h ho.2 hK env w hR)
    · next x hv =>
      have hx : ev env c = .bool x := fV_bool (opv_hold hv (gs_lko hΓ c))
      rcases ifB_s h with ⟨rfl, h⟩ | ⟨rfl, h⟩
      · exact Wp_cond_t hx (den_s hm hT hL hC hX a h ho.1 hK env w hR)
      · exact Wp_cond_f hx (den_s hm hT hL hC hX b h ho.2 hK env w hR)
    · cases h
  | .block id c, R, r, cx, σ, K, Q, h, ho, hK, env, w, hR => by
    refine Wp_block (den_s hm hT hL hC hX c (K := fun t σ => match t with
      | .x j => cnd (Nat.beq j id) (K .n σ) (K (.x j) σ)
      | t => K t σ) h ho (fun t σ' hk env w hR => ?_) env w hR)
    cases t with
    | n => exact hK .n σ' hk env w hR
    | r => exact hK .r σ' hk env w hR
    | x j =>
      simp only at hk
      show blockQ id Q (.exit j) env w
      simp only [blockQ]
      cases hb : Nat.beq j id <;> rw [hb] at hk
      · exact hK (.x j) σ' hk env w hR
      · exact hK .n σ' hk env w hR
  | .seq a b, R, r, cx, σ, K, Q, h, ho, hK, env, w, hR => by
    have ho := (Bool.and_eq_true _ _).mp ho
    simp only [den] at h
    split at h
    · refine Wp_seq (den_s hm hT hL hC hX a h ho.1 (fun t σ' hk env w hR => ?_) env w hR)
      cases t with
      | n => exact den_s hm hT hL hC hX b hk ho.2 hK env w hR
      | x j => exact hK (.x j) σ' hk env w hR
      | r => exact hK .r σ' hk env w hR
    · next s hs =>
      obtain ⟨x, h1, h2⟩ := bd_s h
      obtain ⟨hkb, hR1⟩ := rel_keep (ag := asg a) (ro := s.ro) hR
      refine Wp_seq (Wp_mono (den_s hm hT hL hC hX a (Q := fun e env w => ∃ t σt, e = tgE t ∧ (match t with
          | .n => den cf b cx σt K
          | t => K t σt) = some r ∧ Rel P fr cx σt env w) h1 ho.1 (fun t σ' hk env w hR => ?_) env w hR1) ?_)
      · obtain ⟨y, σt, e1, e2, e3⟩ := inj_s (P := P) (fr := fr) hkb hk
        cases e1
        have e4 := (e2 fun t σ => match t with
          | .n => den cf b cx σ K
          | t => K t σ).symm.trans h2
        exact ⟨t, σt, rfl, by cases t <;> exact e4, e3 env w hR⟩
      · rintro e env w ⟨t, σt, rfl, hk, hR⟩
        cases t with
        | n => exact den_s hm hT hL hC hX b hk ho.2 hK env w hR
        | x j => exact hK (.x j) σt hk env w hR
        | r => exact hK .r σt hk env w hR
  | .loop c, R, r, cx, σ, K, Q, h, ho, hK, env, w, hR => by
    simp only [den] at h
    split at h
    · cases h
    · next s hs =>
      obtain ⟨hkb, hR1⟩ := rel_keep (ag := asg c) (ro := s.sg.ro) hR
      obtain ⟨x, h1, h2⟩ := out_s (P := P) (fr := fr) (cx := addC cx (keep σ (asg c) s.sg.ro)) (kp := ⟨(keep σ (asg c) s.sg.ro).nx, [], []⟩) h (bd_keep hkb)
      obtain ⟨s0, h3, h4⟩ := bd_s h1
      refine Wp_loop (G := Nat × DsD s.hd.ds) (fun g env w => loopN _ g.1 g.2 = some s0 ∧ Rel P fr (addC cx (keep σ (asg c) s.sg.ro)) (bldS s.hd g.2 ⟨(keep σ (asg c) s.sg.ro).nx, [], []⟩) env w) (fun g => g.1) (cf.fu, x) ⟨h3, h2 env w hR1⟩ ?_
      rintro ⟨n, x⟩ env w ⟨hl, hR⟩
      cases n with
      | zero => exact (loopN_z hl).elim
      | succ n =>
        refine den_s hm hT hL hC hX c (loopN_s hl) ho (fun t σ' hk env w hR => ?_) env w hR
        have fin : (∀ (y : SmD s.sg.tg) (σt : Sg), some y = some s0 → (∀ {R' : Type} (K : Tg → Sg → Option R'), elimS (keep σ (asg c) s.sg.ro) K s.sg.tg y = K t σt) → Rel P fr cx σt env w → Q (tgE t) env w) := fun y σt e1 e2 e3 => by
          cases e1
          exact hK t σt (by rw [← h4]; exact (e2 K).symm) env w e3
        cases t with
        | n =>
          obtain ⟨x', h5, h6⟩ := out_s (P := P) (fr := fr) (cx := addC cx (keep σ (asg c) s.sg.ro)) (kp := ⟨(keep σ (asg c) s.sg.ro).nx, [], []⟩) hk (bd_keep hkb)
          exact ⟨(n, x'), ⟨h5, h6 env w hR⟩, Nat.lt_succ_self n⟩
        | x j =>
          obtain ⟨y, σt, e1, e2, e3⟩ := inj_s (P := P) (fr := fr) hkb hk
          exact fin y σt e1 e2 (e3 env w hR)
        | r =>
          obtain ⟨y, σt, e1, e2, e3⟩ := inj_s (P := P) (fr := fr) hkb hk
          exact fin y σt e1 e2 (e3 env w hR)
  | .rangeFunc .., R, r, cx, σ, K, Q, h, _, _, _, _, _ => by cases h
  | .refuse _, R, r, cx, σ, K, Q, h, _, _, _, _, _ => by cases h
  | .goto _, R, r, cx, σ, K, Q, h, _, _, _, _, _ => by cases h
end
end Go.Proofs.YtjnjfinbdfolkaaGreat
end

section
set_option linter.unusedVariables false
set_option linter.unusedSimpArgs false
namespace Go.Proofs.YtjnjfinbdfolkaaGreat
section
variable {P : Program} {cf : Cf} {fr : Fr} {σ : Sg} {vs : Nat → Value} {env : Env} {w : World} {R : Type} {r : R}
theorem L_zip {rest : Env} : ∀ {l : List Value} {i j : Nat} {v : Value}, l[j]? = some v → L ((l.zipIdx i).map fun x => (x.2, x.1)) rest (i + j) = v
  | a :: l, i, 0, v, h => by
    simp only [List.getElem?_cons_zero, Option.some.injEq] at h
    simp [L, h]
  | a :: l, i, j + 1, v, h => by
    simp only [List.zipIdx_cons, List.map_cons, L]
    rw [beq_f (show i + (j + 1) ≠ i by omega)]
    have := L_zip (rest := rest) (l := l) (i := i + 1) (j := j) (v := v) (by simpa using h)
    rw [show i + 1 + j = i + (j + 1) by omega] at this
    exact this
theorem arg_ms : ∀ {dom : List AM} {x : AsD dom} {i : Nat} {l : List Value}, l.length = dom.length → (∀ j v, l[j]? = some v → vs (i + j) = v) → MS vs (argS dom x i).2 = argMs dom x l
  | [], _, _, _, _, _ => rfl
  | a :: dom, x, i, [], hl, _ => by cases hl
  | a :: dom, x, i, v :: l, hl, h => by
    have ih : MS vs (argS dom x.2 (i + 1)).2 = argMs dom x.2 l := arg_ms (by simpa using hl) fun j v hj => by
      have := h (j + 1) v (by simpa using hj)
      rw [← this]; congr 1; omega
    have h0 : vs i = v := h 0 v rfl
    cases a with
    | own t E =>
      show mO t.rep E (vs i) x.1 :: MS vs (argS dom x.2 (i + 1)).2 = mO t.rep E v x.1 :: argMs dom x.2 l
      rw [ih, h0]
    | _ => exact ih
theorem arg_rs {S : Nat → Prop} : ∀ {dom : List AM} {x : AsD dom} {i : Nat} {l : List Value}, l.length = dom.length → (∀ j v, l[j]? = some v → vs (i + j) = v ∧ env (i + j) = v) → All S (argFs P dom x l) w → All S (RS P vs env (argS dom x i).1) w
  | [], _, _, _, _, _, _ => trivial
  | a :: dom, x, i, [], hl, _, _ => by cases hl
  | a :: dom, x, i, v :: l, hl, h, hA => by
    have ih : All S (RS P vs env (argS dom x.2 (i + 1)).1) w := arg_rs (l := l) (by simpa using hl) (fun j v hj => by
      have := h (j + 1) v (by simpa using hj)
      rw [show i + 1 + j = i + (j + 1) by omega]; exact this) hA.2
    have h0 : vs i = v ∧ env i = v := h 0 v rfl
    have hA1 : (amF P a x.1 v).p S w := hA.1
    cases a with
    | d t => exact ⟨show (fV t.rep x.1 (env i)).p S w by rw [h0.2]; exact hA1, ih⟩
    | q t => exact ⟨show (fP t.rep x.1 (env i)).p S w by rw [h0.2]; exact hA1, ih⟩
    | own t E => exact ⟨show env i = vs i by rw [h0.1, h0.2], ih⟩
    | fn dom' cod' => exact ⟨show (fnF P dom' cod' x.1 (env i)).p S w by rw [h0.2]; exact hA1, ih⟩
theorem arg_ob : ∀ {dom : List AM} {x : AsD dom} {i : Nat}, ∀ e ∈ (argS dom x i).2, e.1 < i + dom.length
  | [], _, _, e, he => absurd he List.not_mem_nil
  | a :: dom, x, i, e, he => by
    have ih : ∀ e ∈ (argS dom x.2 (i + 1)).2, e.1 < i + (a :: dom).length := fun e he => by
      have := arg_ob e he
      simp only [List.length_cons]; omega
    cases a with
    | own t E =>
      rcases List.mem_cons.1 (show e ∈ (i, Od.own t E x.1) :: (argS dom x.2 (i + 1)).2 from he) with rfl | he
      · simp only [List.length_cons]; omega
      · exact ih e he
    | _ => exact ih e he
theorem arg_ref : ∀ {dom : List AM} {x : AsD dom} {i : Nat}, ∀ e ∈ (argS dom x i).1, ∀ p, refO e.2.2 = some p → p < i + dom.length
  | [], _, _, e, he => absurd he List.not_mem_nil
  | a :: dom, x, i, e, he => by
    intro p hp
    have ih : ∀ e ∈ (argS dom x.2 (i + 1)).1, ∀ p, refO e.2.2 = some p → p < i + (a :: dom).length := fun e he p hp => by
      have := arg_ref e he p hp
      simp only [List.length_cons]; omega
    cases a with
    | own t E =>
      rcases List.mem_cons.1 (show e ∈ (i, 0, Dv.ow i) :: (argS dom x.2 (i + 1)).1 from he) with rfl | he
      · cases hp; simp only [List.length_cons]; omega
      · exact ih e he p hp
    | d t =>
      rcases List.mem_cons.1 (show e ∈ (i, 0, Dv.d t x.1) :: (argS dom x.2 (i + 1)).1 from he) with rfl | he
      · cases hp
      · exact ih e he p hp
    | q t =>
      rcases List.mem_cons.1 (show e ∈ (i, 0, Dv.q t x.1) :: (argS dom x.2 (i + 1)).1 from he) with rfl | he
      · cases hp
      · exact ih e he p hp
    | fn d c =>
      rcases List.mem_cons.1 (show e ∈ (i, 0, Dv.fp d c x.1) :: (argS dom x.2 (i + 1)).1 from he) with rfl | he
      · cases hp
      · exact ih e he p hp
theorem rel_frzD : ∀ (l : List ResultVar) (ms : List RM) {σ : Sg}, Rel P fr ⟨0, [], []⟩ σ env w → Rel P fr ⟨0, [], []⟩ (frzD σ l ms) env w
  | [], _, _, h => by unfold frzD; exact h
  | .tmp t :: l, [], _, h => by unfold frzD; exact h
  | .tmp t :: l, .d _ :: ms, _, h => by unfold frzD; exact rel_frzD l ms (rel_frz _ h)
  | .tmp t :: l, .own _ _ :: ms, _, h => by unfold frzD; exact rel_frzD l ms h
  | .cell t E :: l, [], _, h => by unfold frzD; exact h
  | .cell t E :: l, m :: ms, _, h => by unfold frzD; exact rel_frzD l ms h
theorem retF_s (hT : TTok P cf.tt) {rv : ResultVar} {m : RM} {k : m.D → List Nat → Option R} (h : retF cf σ rv m k = some r) : ∃ x os, k x os = some r ∧
    ∀ vs (fr : Fr) env (A : List MF) (Γ : List FF) w (os' : List Nat), (∀ S w, All S Γ w → ∀ t, Lk P vs env S w ⟨0, [], []⟩ σ t) → (∀ o ∈ os, has os' o = false) → St fr.we fr.Se (A ++ OS vs fr ⟨0, [], []⟩ (delos σ.ob os')) Γ w →
      ∃ v, resE P w env rv v ∧ St fr.we fr.Se (rmM m x v ++ (A ++ OS vs fr ⟨0, [], []⟩ (delos σ.ob (os ++ os')))) (rmF m x v ++ Γ) w := by
  cases rv with
  | tmp t =>
    cases m with
    | d s =>
      simp only [retF] at h
      have hsome := h
      obtain ⟨y, h, hy⟩ := asD_s h
      refine ⟨y, [], h, fun vs fr env A Γ w os' hl _ hst => ⟨env t, rfl, ?_⟩⟩
      refine hst.weak fun S w hΓ => ⟨?_, hΓ⟩
      cases hg : get ⟨0, [], []⟩ σ t 0 with
      | none => rw [hg] at hsome; cases hsome
      | some v => exact hy P vs S w v _ hg (hl S w hΓ t 0 v hg)
    | own s E =>
      simp only [retF] at h
      obtain ⟨x, os, h1, h2, h3⟩ := gatF_s h
      exact ⟨x, os, h1, fun vs fr env A Γ w os' hl hn hst => ⟨env t, rfl, h3 P vs fr env A Γ w os' (fun S w hΓ => hl S w hΓ t) hn hst⟩⟩
  | cell t E =>
    cases m with
    | own s E' => simp only [retF] at h; cases h
    | d s =>
      simp only [retF] at h
      split at h
      · next o s0 ti hg hti =>
        split at h
        · next s' E' z ho =>
          obtain ⟨hE, h1⟩ := grd_s h
          have hE := beq_t hE
          subst hE
          obtain ⟨e, h2⟩ := cast_s h1
          cases e
          obtain ⟨e, h3⟩ := cast_s h2
          cases e
          refine ⟨_, [o], h3, fun vs fr env A Γ w os' hl hn hst => ?_⟩
          have hp := os_perm (vs := vs) (fr := fr) (cx := ⟨0, [], []⟩) ((fndO_delos (hn o (List.mem_cons_self ..))).trans ho)
          have h3 := St.mid (St.perm hst (List.Perm.append_left _ hp))
          obtain ⟨S, _, hΓ⟩ := hst.ex
          obtain ⟨hv, b, hb⟩ := hl S w hΓ t 0 _ hg
          obtain ⟨⟨zero, ht, _⟩, _⟩ := hT E ti hti
          have h4 : St fr.we fr.Se (mP ti.ty.rep.c E (vs o) z :: (A ++ OS vs fr ⟨0, [], []⟩ (delo (delos σ.ob os') o))) Γ w := h3
          obtain ⟨b', hb', h5⟩ := h4.openP 0 rfl
          rw [hb] at hb'; cases hb'
          refine Ret_cell 0 h5 rfl (hv.trans hb) ht fun v hs hr => ⟨v, hr, ?_⟩
          exact St.drop (i := 0) hs
        · cases h
      · cases h
theorem retD_s (hT : TTok P cf.tt) : ∀ {rvs : List ResultVar} {cod : List RM} {k : RsD cod → List Nat → Option R}, retD cf σ rvs cod k = some r → ∃ x os, k x os = some r ∧
    ∀ vs (fr : Fr) env (Γ : List FF) w, (∀ S w, All S Γ w → ∀ t, Lk P vs env S w ⟨0, [], []⟩ σ t) → St fr.we fr.Se (OS vs fr ⟨0, [], []⟩ σ.ob) Γ w →
      ∃ us, us.length = cod.length ∧ ResAll P w env rvs us ∧ St fr.we fr.Se (resMs cod x us ++ OS vs fr ⟨0, [], []⟩ (delos σ.ob os)) (resFs cod x us ++ Γ) w
  | [], [], k, h => ⟨(), [], h, fun vs fr env Γ w _ hst => ⟨[], rfl, trivial, hst⟩⟩
  | [v], [m], k, h => by
    obtain ⟨x, os, h1, h2⟩ := retF_s hT (h : retF cf σ v m k = some r)
    refine ⟨x, os, h1, fun vs fr env Γ w hl hst => ?_⟩
    obtain ⟨u, h3, h4⟩ := h2 vs fr env [] Γ w [] hl (fun _ _ => rfl) hst
    rw [List.append_nil] at h4
    exact ⟨[u], rfl, ⟨h3, trivial⟩, h4⟩
  | v :: v' :: rvs, m :: m' :: ms, k, h => by
    obtain ⟨x, o, h1, h2⟩ := retF_s hT (h : retF cf σ v m _ = some r)
    obtain ⟨y, os, h3, h4⟩ := retD_s hT h1
    obtain ⟨hn, h3⟩ := grd_s h3
    refine ⟨(x, y), o ++ os, h3, fun vs fr env Γ w hl hst => ?_⟩
    obtain ⟨us, h5, h6, h7⟩ := h4 vs fr env Γ w hl hst
    obtain ⟨u, h8, h9⟩ := h2 vs fr env (resMs (m' :: ms) y us) (resFs (m' :: ms) y us ++ Γ) w os (fun S w hΓ => hl S w (All.right hΓ)) (none_in hn) h7
    refine ⟨u :: us, by simpa using h5, ⟨h8, h6⟩, ?_⟩
    show St _ _ ((rmM m x u ++ resMs (m' :: ms) y us) ++ _) ((rmF m x u ++ resFs (m' :: ms) y us) ++ Γ) w
    rw [List.append_assoc, List.append_assoc]
    exact h9
  | [], _ :: _, _, h => by cases h
  | [_], [], _, h => by cases h
  | [_], _ :: _ :: _, _, h => by cases h
  | _ :: _ :: _, [], _, h => by cases h
  | _ :: _ :: _, [_], _, h => by cases h
theorem denF_s (hm : P.follows .mixedOrders = true) (hT : TTok P cf.tt) (hL : ELok P cf.tt) (hC : ∀ s ∈ cf.cs, SigOK P s) (hX : EXok P cf.ex) {s : Sig} {fn : Func}
    (hf : P.funcs[s.f]? = some fn) (hb : fnB P s.f = true) (hM : ∀ x r, s.M x = some r → denF cf fn s.dom s.cod x = some r) : SigOK P s := by
  refine ⟨hb, fun x r h vs hlen => ?_⟩
  have h := hM x r h
  unfold denF at h
  split at h
  · next c hc =>
    obtain ⟨ho, h⟩ := grd_s h
    rw [Bool.and_eq_true] at ho
    refine FnG_intro hf hc (by rw [hlen]; exact ho.2) fun we Se F G rest w hst => ?_
    refine den_s (fr := ⟨we, Se, F, G⟩) hm hT hL hC hX c h ho.1 (fun t σ' hk env w hR => ?_) _ w ?_
    · have fin : retD cf (frzD σ' fn.results.toList s.cod) fn.results.toList s.cod (fun y _ => some y) = some r →
          RetGQ P fn we Se F G oneOr (fun us => resMs s.cod r us) (fun us => resFs s.cod r us) (fun us => us.length = s.cod.length) .ret env w := fun h => by
        have hR1 := rel_frzD fn.results.toList s.cod hR
        generalize frzD σ' fn.results.toList s.cod = σ1 at h hR1
        obtain ⟨hB, vs, hst⟩ := hR1
        obtain ⟨y, os, e1, e2⟩ := retD_s hT h
        cases e1
        obtain ⟨us, h1, h2, h3⟩ := e2 vs ⟨we, Se, F, G⟩ env _ w (fun S w hΓ t => gs_lk hΓ t) hst
        refine RetG us (by rw [Array.toArray_toList]) h2 rfl h1 ?_
        exact (St.dropM (B := MS vs (delos σ1.ob os)) h3).weak fun S w hΓ => All.append (All.left hΓ) (All.right (All.right hΓ))
      cases t with
      | n => exact fin hk
      | r => exact fin hk
      | x j => cases hk
    · have e0 : ∀ j v, vs[j]? = some v → vs.getD (0 + j) undef = v := fun j v hj => by
        rw [Nat.zero_add, List.getD_eq_getElem?_getD, hj]; rfl
      refine ⟨⟨fun e he => ?_, fun _ he => absurd he List.not_mem_nil, fun e he p hp => ?_, fun _ he => absurd he List.not_mem_nil⟩, fun o => vs.getD o undef, ?_⟩
      · have := arg_ob e he; simpa using this
      · have := arg_ref e he p hp; simpa using this
      · have e1 : MS (fun o => vs.getD o undef) (argS s.dom x 0).2 = argMs s.dom x vs := arg_ms hlen e0
        show St we Se (MS _ (argS s.dom x 0).2 ++ ([] ++ F)) _ w
        rw [e1]
        exact hst.weak fun S w hΓ => All.append (arg_rs hlen (fun j v hj => ⟨e0 j v hj, L_zip hj⟩) (All.left hΓ)) (All.right hΓ)
  · cases h
end
end Go.Proofs.YtjnjfinbdfolkaaGreat
end

section
set_option linter.unusedVariables false
set_option linter.unusedSimpArgs false
namespace Go.Proofs.YtjnjfinbdfolkaaGreat
section
variable {P : Program}
def zc : Ty → List Value
  | .i => [.int .i64 0]
  | .u => [.int .u64 0]
  | .b => [.bool false]
  | .l _ => [.slice none 0 0]
  | .p s t => zc s ++ zc t
  | .a k t => (List.replicate k (zc t)).flatten
theorem elems_z {α : Type} {e : ERep α} {S : Nat → Prop} {w : World} {x : α} {c : List Value} (h : e.p S x c w) : ∀ k, Elems e S (List.replicate k x) (List.replicate k c).flatten w
  | 0 => rfl
  | k + 1 => ⟨c, _, rfl, h, elems_z h k⟩
theorem zc_s (S : Nat → Prop) (w : World) : ∀ t : Ty, t.rep.p S t.z (zc t) w
  | .i => ⟨rfl, show (-9223372036854775808 : Int) ≤ 0 by decide, show (0 : Int) ≤ 9223372036854775807 by decide⟩
  | .u => ⟨rfl, show (0 : Nat) < 18446744073709551616 by decide⟩
  | .b => rfl
  | .l _ => ⟨_, rfl, SlP.nil⟩
  | .p s t => ⟨_, _, rfl, zc_s S w s, zc_s S w t⟩
  | .a k t => ⟨List.length_replicate, elems_z (zc_s S w t) k⟩
def stGot (P : Program) (t n : Nat) : (List (Option Nat) × List (Option (Nat × Bool × Nat))) × Option (List (Option (Nat × Nat))) := (((List.range n).map fun i => fldB P t i, (List.range n).map fun i => fldT P t i), match plB P t with
  | some a => some (a.toList.map some)
  | none => none)
def stWant (ty : Ty) (n : Nat) : (List (Option Nat) × List (Option (Nat × Bool × Nat))) × Option (List (Option (Nat × Nat))) := (((List.range n).map fun i => (fld n ty i).map (·.off), (List.range n).map fun i => (fld n ty i).map fun f => (f.off, f.f.rep.agg, f.f.n)), some ((List.range n).map fun i => (fld n ty i).map fun f => (f.off, f.f.n)))
def TKchk (P : Program) (t : TypeId) (ti : TI) : Prop := match ti.k with
  | .int k => P.underlying t = some (.int k)
  | .bool => P.underlying t = some .bool
  | .sl E => P.underlying t = some (.slice E) ∧ ∃ e, ti.ty = .l e
  | .st n => ti.ty.rep.agg = true ∧ stGot P t n = stWant ti.ty n
  | .ar k E => ti.ty.rep.agg = true ∧ P.underlying t = some (.array k E)
theorem fld_lt : ∀ {n : Nat} {t : Ty} {i : Nat} {f : Fl t.D}, fld n t i = some f → i < n
  | 0, _, _, _, h => by simp [fld] at h
  | 1, t, i, f, h => by
    simp only [fld] at h
    cases hb : Nat.beq i 0 <;> rw [hb] at h
    · cases h
    · rw [beq_t hb]; exact Nat.zero_lt_one
  | n + 2, .p s t, 0, f, h => Nat.succ_pos _
  | n + 2, .p s t, i + 1, f, h => by
    simp only [fld] at h
    split at h
    · next f' hf => exact Nat.succ_lt_succ (fld_lt hf)
    · cases h
  | n + 2, .i, _, _, h => by simp [fld] at h
  | n + 2, .u, _, _, h => by simp [fld] at h
  | n + 2, .b, _, _, h => by simp [fld] at h
  | n + 2, .l _, _, _, h => by simp [fld] at h
  | n + 2, .a _ _, _, _, h => by simp [fld] at h
theorem TKok.of {t : TypeId} {ti : TI} (h : TKchk P t ti) : TKok P t ti := by
  unfold TKchk at h
  unfold TKok
  split at h
  · next h0 => simp only [h0]; exact h
  · next h0 => simp only [h0]; exact h
  · next h0 => simp only [h0]; exact h
  · next n h0 =>
    simp only [h0]
    obtain ⟨h1, h⟩ := h
    have h2 := congrArg (fun q => q.1.1) h
    have h2b := congrArg (fun q => q.1.2) h
    have h3 := congrArg Prod.snd h
    simp only [stGot, stWant] at h2 h2b h3
    refine ⟨h1, fun i f hf => ?_, ?_, fun i f hf => ?_⟩
    rotate_left 2
    · have := congrArg (fun l : List (Option (Nat × Bool × Nat)) => l[i]?) h2b
      simp only [List.getElem?_map, List.getElem?_range (fld_lt hf), Option.map_some, hf] at this
      simpa using this
    · have := congrArg (fun l : List (Option Nat) => l[i]?) h2
      simp only [List.getElem?_map, List.getElem?_range (fld_lt hf), Option.map_some, hf] at this
      simpa using this
    · cases hp : plB P t with
      | none =>
        rw [hp] at h3; cases h3
      | some a =>
        rw [hp] at h3
        simp only [Option.some.injEq] at h3
        obtain ⟨fs, h4, h5⟩ := plB_run hp
        refine ⟨fs, h4, a, h5, fun i f hf => ?_⟩
        have := congrArg (fun l : List (Option (Nat × Nat)) => l[i]?) h3
        simp only [List.getElem?_map, List.getElem?_range (fld_lt hf), Option.map_some, hf] at this
        rw [← Array.getElem?_toList]
        cases hx : a.toList[i]? with
        | none => rw [hx] at this; cases this
        | some q => rw [hx] at this; simpa using this
  · next h0 => simp only [h0]; exact h
theorem TIok.of {t : TypeId} {ti : TI} (h1 : tyB P t = some (ti.ty.rep.agg, ti.ty.n, ti.B, some (ti.ty.rep.val (zc ti.ty)))) (h2 : (Nat.blt 0 ti.B && Nat.blt 0 ti.ty.n) = true) (h3 : TKchk P t ti) : TIok P t ti := by
  rw [Bool.and_eq_true] at h2
  have hz := fun S w => zc_s S w ti.ty
  refine ⟨⟨_, (by rw [Ty.n_rep]; exact TyF.of h1), ?_, fun S w => ?_⟩, Nat.le_of_ble_eq_true h2.1, (by rw [Ty.n_rep]; exact Nat.le_of_ble_eq_true h2.2), TKok.of h3⟩
  · rw [← Array.length_toList, ERep.val_cells _ (hz (fun _ => True) default), ti.ty.rep.len (hz (fun _ => True) default)]
  · rw [ERep.val_cells _ (hz S w)]; exact hz S w
theorem TTok.nil : TTok P [] := fun _ _ h => by cases h
theorem TTok.cons {t : TypeId} {ti : TI} {tt : List (Nat × TI)} (h : TIok P t ti) (k : TTok P tt) : TTok P ((t, ti) :: tt) := by
  intro t' ti' hf
  unfold fndA at hf
  cases hb : Nat.beq t t' <;> rw [hb] at hf
  · exact k t' ti' hf
  · cases hf; rw [← beq_t hb]; exact h
theorem TTok.add {t : TypeId} {ti : TI} {tt : List (Nat × TI)} (h1 : tyB P t = some (ti.ty.rep.agg, ti.ty.n, ti.B, some (ti.ty.rep.val (zc ti.ty)))) (h2 : (Nat.blt 0 ti.B && Nat.blt 0 ti.ty.n) = true) (h3 : TKchk P t ti) (k : TTok P tt) : TTok P ((t, ti) :: tt) := TTok.cons (TIok.of h1 h2 h3) k
def elB (tt : List (Nat × TI)) : List (Nat × TI) → Bool
  | [] => true
  | (_, ⟨.l s, .sl E, _⟩) :: r => (match fndA tt E with
    | some ti => (Ty.same ti.ty s).isSome
    | none => false) && elB tt r
  | _ :: r => elB tt r
theorem ELok.of' {tt : List (Nat × TI)} : ∀ {l : List (Nat × TI)}, elB tt l = true → ∀ t s E B, fndA l t = some ⟨.l s, .sl E, B⟩ → ∃ ti, fndA tt E = some ti ∧ ti.ty = s
  | [], _, _, _, _, _, h => by cases h
  | (t', ti') :: r, h, t, s, E, B, hf => by
    have hr : elB tt r = true := by
      unfold elB at h
      split at h
      · cases ‹_ :: _ = []›
      · next hh => cases hh; rw [Bool.and_eq_true] at h; exact h.2
      · next hh => cases hh; exact h
    unfold fndA at hf
    cases hb : Nat.beq t' t <;> rw [hb] at hf
    · exact ELok.of' hr t s E B hf
    · cases hf
      unfold elB at h
      simp only [Bool.and_eq_true] at h
      have h := h.1
      split at h
      · next ti he =>
        refine ⟨ti, he, ?_⟩
        cases hs : Ty.same ti.ty s with
        | none => rw [hs] at h; cases h
        | some p => exact p.down
      · cases h
theorem ELok.of {tt : List (Nat × TI)} (h : elB tt tt = true) : ELok P tt := fun t s E B => ELok.of' h t s E B
theorem EXok.nil : EXok P [] := fun _ _ h => by cases h
theorem EXok.add {f : Nat} {b : Bool} {ex : List (Nat × Bool)} {fn : Func} (h0 : P.funcs[f]? = some fn) (h1 : (fn.name == "runtime.NumGoroutine") = false) (h2 : fn.body = none) (h3 : (Extern.findNext fn).isNone = true)
    (h4 : b = true → Extern.find fn = some (fun args => do
      let (x, y, c) ← Extern.MathBitsCarry.three "Add64" args
      pure (Extern.MathBitsCarry.pair ((x + y + c) % Extern.MathBitsCarry.m64) ((x + y + c) / Extern.MathBitsCarry.m64))))
    (h5 : b = false → Extern.find fn = some (fun args => do
      let (x, y, b) ← Extern.MathBitsCarry.three "Sub64" args
      pure (Extern.MathBitsCarry.pair ((x + Extern.MathBitsCarry.m64 - y - b) % Extern.MathBitsCarry.m64) (if x < y + b then 1 else 0)))) (k : EXok P ex) : EXok P ((f, b) :: ex) := by
  intro f' b' hf
  unfold fndA at hf
  cases hb : Nat.beq f f' <;> rw [hb] at hf
  · exact k f' b' hf
  · cases hf; rw [← beq_t hb]; exact ⟨fn, h0, h1, h2, h3, h4, h5⟩
theorem cN : ∀ s ∈ ([] : List Sig), SigOK P s := fun _ h => absurd h List.not_mem_nil
theorem cC {s : Sig} {l : List Sig} (h : SigOK P s) (k : ∀ s ∈ l, SigOK P s) : ∀ q ∈ s :: l, SigOK P q := fun x hx => by
  rcases List.mem_cons.1 hx with e | hx
  · subst e; exact h
  · exact k x hx
theorem sg0 {s : Sig} (hb : fnB P s.f = true) (hM : ∀ x, s.M x = none) : SigOK P s := ⟨hb, fun x r h => by rw [hM x] at h; cases h⟩
theorem sgP (hm : P.follows .mixedOrders = true) {tt : List (Nat × TI)} {ex : List (Nat × Bool)} (hT : TTok P tt) (hL : ELok P tt) (hX : EXok P ex) {cs : List Sig} (an : An) {fu : Nat} {s : Sig} {fn : Func} (hf : P.funcs[s.f]? = some fn) (hC : ∀ s ∈ cs, SigOK P s) (hb : fnB P s.f = true) (hM : ∀ x, denF ⟨tt, cs, an, fu, ex⟩ fn s.dom s.cod x = s.M x) : SigOK P s :=
  denF_s (cf := ⟨tt, cs, an, fu, ex⟩) hm hT hL hC hX hf hb fun x r h => (hM x).trans h
end
end Go.Proofs.YtjnjfinbdfolkaaGreat
end

section
set_option linter.unusedVariables false
set_option linter.unusedSimpArgs false
namespace Go.Proofs.YtjnjfinbdfolkaaGreat
section
variable {P : Program}
theorem fn_fnG {U : Type} {f : FuncId} {args : Array Value} {Γ : List FF} {val : U → Value} {facts : U → List FF} {ok : U → Prop} (h : Fn P f args Γ val facts ok) : FnG P f args [] Γ val (fun _ => []) facts ok := by
  rintro we Se F G w ⟨h1, h2, h3, S, h4, h5, h6, h7, h8⟩
  refine (h w S h5 (All.left h8)).mono ?_
  rintro e w' ⟨u, e1, e2, e3, e4⟩
  exact ⟨u, e1, e2, h1.trans e3, h2, h3, S, h4, fun k hk => h5 k (Nat.le_trans e3.size hk), h6, AllM.keep e3.to (fun m hm i hi => e3.block i (AllM.lt h7 m hm i hi) trivial) h7, All.append e4 (All.keep e3.to (All.right h8))⟩
theorem FnG.to {U V : Type} {f : FuncId} {args : Array Value} {ms : List MF} {Γ : List FF} {val : U → Value} {own : U → List MF} {facts : U → List FF} {ok : U → Prop} {val' : V → Value} {own' : V → List MF} {facts' : V → List FF} {ok' : V → Prop}
    (h : FnG P f args ms Γ val own facts ok) (g : U → V) (h1 : ∀ u, val u = val' (g u)) (h2 : ∀ u, own u = own' (g u)) (h3 : ∀ u, ok u → ok' (g u)) (h4 : ∀ u, ok u → ∀ S w, All S (facts u) w → All S (facts' (g u)) w) : FnG P f args ms Γ val' own' facts' ok' := by
  intro we Se F G w hst
  refine (h we Se F G w hst).mono ?_
  rintro e w' ⟨u, e1, e2, e3⟩
  exact ⟨g u, by rw [e1, h1], h3 u e2, by rw [← h2]; exact e3.weak fun S w ha => All.append (h4 u e2 S w (All.left ha)) (All.right ha)⟩
/-- one datum from one datum, both as they lie -/
theorem sig_d1 {f : FuncId} {s t : Ty} {M : s.D → Option t.D} (hb : fnB P f = true) (h : ∀ x r v, M x = some r → Fn P f [v].toArray [fV s.rep x v] (fun u : Value => u) (fun u => [fV t.rep r u]) (fun _ => True)) : SigOK P ⟨f, [.d s], [.d t], fun x => M x.1⟩ := by
  refine ⟨hb, fun x r hM vs hl => ?_⟩
  match vs, hl with
  | [v], _ => exact (fn_fnG (h x.1 r v hM)).to (fun u => [u]) (fun _ => rfl) (fun _ => rfl) (fun _ _ => rfl) fun u _ S w ha => ha
/-- a number from a word -/
theorem sig_ui {f : FuncId} {M : Nat → Option Int} (hb : fnB P f = true) (h : ∀ x r, x < 18446744073709551616 → M x = some r → Fn P f [.int .u64 (x : Int)].toArray [] (fun _ : Unit => .int .i64 r) (fun _ => []) (fun _ => InR r)) : SigOK P ⟨f, [.d .u], [.d .i], fun x => M x.1⟩ := by
  refine ⟨hb, fun x r hM vs hl => ?_⟩
  match vs, hl with
  | [v], _ =>
    intro we Se F G w hst
    obtain ⟨S0, _, hΓ⟩ := hst.ex
    obtain ⟨hv, hx⟩ := fV_u64 (show (fV eU x.1 v).p S0 w from hΓ.1)
    have := fn_fnG (h x.1 r hx hM)
    rw [← hv] at this
    have h2 : FnG P f [v].toArray [] [] oneOr (fun us => resMs [RM.d .i] r us) (fun us => resFs [RM.d .i] r us) (fun us => us.length = 1) := this.to (fun _ => [.int .i64 r]) (fun _ => rfl) (fun _ => rfl) (fun _ _ => rfl) fun u hu S w ha => ⟨i64_fV hu, trivial⟩
    exact h2 we Se F G w (hst.weak fun S w ha => ha.2)
end
end Go.Proofs.YtjnjfinbdfolkaaGreat
end

