/- What a proof needs: rules of walking, mirrors of functions and their plain laws. No condition. -/
import Derived.Test.YtbaoeefdjpaomaaDoorZk3
set_option linter.unusedVariables false
set_option linter.unusedSimpArgs false
namespace Go.Proofs.YtbaoeefdjpaomaaDoor
section
theorem St.pr {we : World} {Se : Nat → Prop} {ms : List MF} {Γ : List FF} {w : World} {p : Prop} (hp : p) (h : St we Se ms Γ w) : St we Se (mPr p :: ms) Γ w := by
  obtain ⟨h1, h2, h3, S, h4, h5, h6, h7, h8⟩ := h
  refine ⟨h1, h2, ⟨fun k hk => hk.elim, h3⟩, S, h4, h5, fun m hm k hk => ?_, ⟨hp, h7⟩, h8⟩
  rcases List.mem_cons.1 hm with rfl | hm
  · exact hk.elim
  · exact h6 m hm k hk
theorem St.unpr {we : World} {Se : Nat → Prop} {ms : List MF} {Γ : List FF} {w : World} {p : Prop} (h : St we Se (mPr p :: ms) Γ w) : p ∧ St we Se ms Γ w :=
  ⟨mut_frame h (i := 0) rfl fun S hp => hp, St.drop (i := 0) h⟩
section
variable {P : Program} {cf : Cf} {fr : Fr} {cx σ : Sg} {vs vs' : Nat → Value} {env : Env} {w : World} {R : Type} {r : R}
  {d : Option Tmp} {ty t yt : TypeId} {pos : String} {aft : Array Edge} {g : Option (Nat × Bool)} {x y : Operand}
theorem holdC_map {d d' : Dv} {v : Value} {i : Nat} {S : Nat → Prop} (h : (holdC P vs d v i).p S w) (hm : ∀ u, (hold P vs d u).p S w → (hold P vs d' u).p S w) : (holdC P vs d' v i).p S w := by
  cases i with
  | zero => exact hm _ h
  | succ i => obtain ⟨us, u, h1, h2, h3⟩ := h; exact ⟨us, u, h1, h2, hm _ h3⟩
theorem rel_new2 {v u : Value} {mk : Nat → Dv} {X : Od} {ob : List (Nat × Od)} (hB : Bd cx σ) (hd : okPut cx d = true) (hob : ∀ e ∈ ob, e.1 < σ.nx) (href : ∀ o, refO (mk o) = some o) (hmk : ∀ S w, (hold P (upv vs σ.nx u) (mk σ.nx) v).p S w)
    (hst : St fr.we fr.Se (moF (upv vs σ.nx u) (σ.nx, X) :: OS vs fr cx ob) (GS P vs env fr cx σ) w) : RelX P fr cx σ.nx vs ⟨σ.nx + 1, putR σ.rg d [(0, mk σ.nx)], (σ.nx, X) :: ob⟩ (put env d v) w := by
  refine rel_mk (σ' := ⟨σ.nx + 1, putR σ.rg d [(0, mk σ.nx)], (σ.nx, X) :: ob⟩) (vs := vs) (vs' := upv vs σ.nx u) (Γl := []) hB hd rfl (Nat.le_succ _) (fun o ho => upv_old ho) ?_ ?_ ?_ ?_
  · intro e he o ho
    obtain rfl := List.mem_singleton.1 he
    rw [href] at ho
    cases ho; exact Nat.lt_succ_self _
  · intro e he
    rcases List.mem_cons.1 he with rfl | he
    · exact Nat.lt_succ_self _
    · exact Nat.lt_succ_of_lt (hob e he)
  · intro S w _ e he
    obtain rfl := List.mem_singleton.1 he
    exact hmk S w
  · show St _ _ (moF (upv vs σ.nx u) (σ.nx, X) :: OS (upv vs σ.nx u) fr cx ob) _ _
    rw [os_upv hB hob]
    exact hst
theorem seto_fnd : ∀ {ob : List (Nat × Od)} {o : Nat} {X Y : Od}, fndO ob o = some X → fndO (seto ob o Y) o = some Y ∧ delo (seto ob o Y) o = delo ob o
  | (o', X') :: r, o, X, Y, h => by
    unfold fndO at h
    unfold seto
    cases hb : Nat.beq o' o <;> rw [hb] at h
    · obtain ⟨h1, h2⟩ := seto_fnd (ob := r) (Y := Y) h
      constructor
      · simp only [cond_false]; unfold fndO; rw [hb]; exact h1
      · simp only [cond_false]; unfold delo; rw [hb]; simp only [cond_false, h2]
    · constructor
      · simp only [cond_true]; unfold fndO; rw [hb]; rfl
      · simp only [cond_true]; unfold delo; rw [hb]; rfl
theorem os_out {o : Nat} {X : Od} {Γ : List FF} (ho : fndO σ.ob o = some X) (h : St fr.we fr.Se (OS vs fr cx σ.ob) Γ w) : St fr.we fr.Se (moF vs (o, X) :: OS vs fr cx (delo σ.ob o)) Γ w := h.perm (os_perm ho)
theorem os_back {ob : List (Nat × Od)} {o : Nat} {X Y : Od} {Γ : List FF} (ho : fndO ob o = some X) (h : St fr.we fr.Se (moF vs (o, Y) :: OS vs fr cx (delo ob o)) Γ w) : St fr.we fr.Se (OS vs fr cx (seto ob o Y)) Γ w := by
  obtain ⟨h1, h2⟩ := seto_fnd (Y := Y) ho
  have := os_perm (vs := vs) (fr := fr) (cx := cx) h1
  rw [h2] at this
  exact h.perm this.symm
theorem os_out2 {o o2 : Nat} {X Y : Od} {Γ : List FF} (hne : Nat.beq o o2 = false) (ho : fndO σ.ob o = some X) (ho2 : fndO σ.ob o2 = some Y) (h : St fr.we fr.Se (OS vs fr cx σ.ob) Γ w) :
    St fr.we fr.Se (moF vs (o, X) :: moF vs (o2, Y) :: OS vs fr cx (delo (delo σ.ob o) o2)) Γ w := by
  have h1 : fndO (delo σ.ob o) o2 = some Y := by
    rw [fndO_delo (fun e => by subst e; simp at hne)]; exact ho2
  exact (h.perm (os_perm ho)).perm ((os_perm (vs := vs) (fr := fr) (cx := cx) h1).cons _)
theorem moU {o : Nat} {u : Value} {X : Od} : moF (upv vs o u) (o, X) = moF (fun _ => u) (0, X) := by
  cases X <;> simp only [moF, upv_new]
theorem nilE {S : Nat → Prop} {w : World} : (eHd [.slice none 0 0]).p S 0 (Value.cells (.slice none 0 0)).toList w := ⟨_, rfl, rfl, rfl⟩
theorem co_make (hT : TTok P cf.tt) {k : Sg → Option R} (hd : okPut cx d = true) (h : coMake cf cx σ d t x y k = some r) : MOK P cx ⟨d, .makeSlice t x y, ty, pos, aft, g⟩ σ k r := by
  unfold coMake at h
  split at h
  · next s E B ht =>
    obtain ⟨hxy, h⟩ := grd_s h
    split at h
    · next s' E1 B1 n hti hn =>
      obtain ⟨j, hj, h⟩ := ckN_s h
      obtain ⟨hb, h⟩ := ck_s h
      obtain ⟨xs, hxs, h⟩ := nm_s h
      have hty := ty_nil hT hti rfl
      refine ⟨_, h, Nat.le_succ _, fun fr vs env w hR => ?_⟩
      obtain ⟨hB, hst⟩ := hR
      obtain ⟨S0, _, hΓ⟩ := hst.ex
      have hx : ev env x = .int .i64 (j : Int) := by rw [(pd_i hn (gs_lko hΓ x)).1, hj]
      have hpos := (hT _ _ hti).2.1
      refine (og_make' (e := eHd [.slice none 0 0]) (z := 0) (xs := xs) (n := j) (tk_sl hT ht) hty hx ((same_ev hxy).symm.trans hx) hpos hb (fun _ _ => nilE) hxs w hst).mono ?_
      rintro v w' ⟨b, rfl, _, hs⟩
      have hlen : xs.length = j := by rw [hxs]; exact List.length_replicate
      have h1 := hs.closeF 0 rfl (by rw [hlen]; exact Nat.le_refl _) (mk_le hpos hb)
      rw [hlen] at h1
      refine rel_new2 (vs := vs) (mk := .mw) (u := tupW (.slice (some ⟨b, 0, none⟩) j j) [.slice none 0 0]) hB hd hB.o1 (fun _ => rfl) (fun S w => by simp only [hold, upv_new]; rfl) ?_
      rw [moU]
      refine St.grp.2 (St.pr (p := ([.slice none 0 0] : List Value).length = ([[]] : List (List s.D)).length) rfl ?_)
      have h2 := St.nilO (e := s.rep) (E := E1) h1
      exact h2.perm (List.Perm.swap ..)
    · cases h
  · cases h
theorem sl_one {ao : Option Addr} {n c : Nat} : (Value.slice ao n c).oneCell' = true ∧ (Value.slice ao n c).cells = #[.slice ao n c] := ⟨rfl, rfl⟩
theorem mo_one {α : Type} {e : ERep α} {E : TypeId} {v : Value} {xs : List α} {S : Nat → Prop} (h : (mO e E v xs).p S w) : v.oneCell' = true ∧ v.cells = #[v] := by
  rcases mo_shape h with ⟨rfl, _⟩ | ⟨b, cap, rfl, _⟩ <;> exact sl_one
theorem co_lit (hT : TTok P cf.tt) (hL : ELok P cf.tt) {n : Nat} {ps : Array (Nat × Operand)} {k : Sg → Option R} (hd : okPut cx d = true) (h : coLit cf cx σ d t n ps.toList k = some r) : MOK P cx ⟨d, .buildSlice t n ps, ty, pos, aft, g⟩ σ k r := by
  unfold coLit at h
  split at h
  · next s E B x ht hps =>
    obtain ⟨hn, h⟩ := grd_s h
    have hn := beq_t hn
    subst hn
    split at h
    · next o2 hxv =>
      split at h
      · next s2 E1 ys ho2 =>
        obtain ⟨hse, h⟩ := cast_s h
        cases hse
        obtain ⟨bytes, zero, het⟩ := ty_el hT hL ht
        refine ⟨_, h, Nat.le_succ _, fun fr vs env w hR => ?_⟩
        obtain ⟨hB, hst⟩ := hR
        obtain ⟨S0, _, hΓ⟩ := hst.ex
        have hxe : ev env x = vs o2 := opv_hold hxv (gs_lko hΓ x)
        obtain ⟨q1, q2⟩ := mut_frame (os_out ho2 hst) (i := 0) (m := mO s.rep E1 (vs o2) ys) rfl fun S hp => mo_one hp
        have hfl : flat [(0, vs o2)] = [vs o2] := by rw [flat1, q2]
        refine (og_lit (e := eHd [vs o2]) (zs := [0]) (len := 1) (parts := ps.toList) (vs := [(0, vs o2)]) (tk_sl hT ht) het (Nat.zero_lt_one) rfl (by show 1 * 1 ≤ _; omega) (by rw [hps]; simp [hxe]) (fun S w ha => ⟨by rw [q2]; rfl, trivial⟩) (fun S w ha => ?_) w (os_out ho2 hst)).mono ?_
        · rw [hfl]
          exact ⟨[vs o2], [], rfl, ⟨_, rfl, q1, rfl⟩, rfl⟩
        rintro v w' ⟨v', rfl, _, hs⟩
        refine rel_new2 (vs := vs) (mk := .mw) (u := tupW v [vs o2]) hB hd (fun e he => hB.o1 e (delo_mem e he)) (fun _ => rfl) (fun S w => by simp only [hold, upv_new]; rfl) ?_
        rw [moU]
        exact St.grp.2 (St.pr (p := ([vs o2] : List Value).length = ([ys] : List (List s.D)).length) rfl hs)
      · cases h
    · cases h
  · cases h
theorem co_alloc (hT : TTok P cf.tt) {E0 : TypeId} {k : Sg → Option R} (hd : okPut cx d = true) (h : coAlloc cf σ d E0 k = some r) : MOK P cx ⟨d, .alloc E0, ty, pos, aft, g⟩ σ k r := by
  unfold coAlloc at h
  split at h
  · next s E B ht =>
    have hty := ty_nil hT ht rfl
    refine ⟨_, h, Nat.le_succ _, fun fr vs env w hR => ?_⟩
    obtain ⟨hB, hst⟩ := hR
    refine (og_allocM (e := (eHd [.slice none 0 0]).c) (z := 0) hty (fun S w => nilE (S := S) (w := w)) w hst).mono ?_
    rintro v w' ⟨b, rfl, _, hs⟩
    refine rel_new2 (vs := vs) (mk := .mw) (u := tupW (.pointer (some ⟨b, 0, none⟩)) [.slice none 0 0]) hB hd hB.o1 (fun _ => rfl) (fun S w => by simp only [hold, upv_new]; rfl) ?_
    rw [moU]
    refine St.grp.2 (St.pr (p := ([.slice none 0 0] : List Value).length = 1) rfl ?_)
    exact (St.nilO (e := s.rep) (E := E) (hs.toP 0 rfl)).perm (List.Perm.swap ..)
  · next ty' n B ht =>
    split at h
    · next i E1 hvr =>
      split at h
      · next off s g' st hf =>
        obtain ⟨zero, hz1, hz2, hz3, _, hz4⟩ := (hT _ _ ht).1
        simp only at hz1 hz3 hz4
        refine ⟨_, h, Nat.le_succ _, fun fr vs env w hR => ?_⟩
        obtain ⟨hB, hst⟩ := hR
        refine (og_allocM (e := cHo ty'.rep off (st ([] : List s.D)) [.slice none 0 0]) (z := (ty'.z, 0)) hz1 (fun S w => ho_in hf (hz3 S w) (hz4 _ _ _ _ _ _ hf) rfl) w hst).mono ?_
        rintro v w' ⟨b, rfl, _, hs⟩
        refine rel_new2 (vs := vs) (mk := .mw) (u := tupW (.pointer (some ⟨b, 0, none⟩)) [.slice none 0 0]) hB hd hB.o1 (fun _ => rfl) (fun S w => by simp only [hold, upv_new]; rfl) ?_
        rw [moU]
        refine St.grp.2 (St.pr (p := ([.slice none 0 0] : List Value).length = 1 ∧ vrP s (fld n ty' i)) ⟨rfl, _, _, _, hf⟩ ?_)
        have h3 := (St.nilO (e := s.rep) (E := E1) (hs.toP 0 rfl)).perm (List.Perm.swap ..)
        show St _ _ (mP (cHo ty'.rep (offL (fld n ty' i)) (putL s (fld n ty' i) []) [.slice none 0 0]) E0 _ (ty'.z, 0) :: mO s.rep E1 (.slice none 0 0) [] :: _) _ _
        rw [hf]
        have hp : putL s (some ⟨off, .l s, g', st⟩) ([] : List s.D) = st ([] : List s.D) := funext fun z => putL_st
        rw [hp]
        exact h3
      · cases h
    · cases h
  · cases h
theorem og_boxC {ms : List MF} {Γ : List FF} {we : World} {Se : Nat → Prop} {α : Type} {e : CRep α} {z : α} {v : Value} {E : TypeId} (hx : ev env x = v) (hf : ∀ (S : Nat → Prop) (w : World), All S Γ w → e.p S z v.cells.toList w) :
    OG P ⟨d, .box E x, ty, pos, aft, g⟩ env we Se ms Γ (fun b => (.pointer (some ⟨b, 0, none⟩))) (fun b => (mB e E b z :: ms)) (fun _ => Γ) (fun _ => True) := by
  intro w hst
  refine OpR.of_value (w' := w.alloc (.cells v.cells E)) (v := .pointer (some ⟨w.heap.size, 0, none⟩)) ?_ ⟨_, rfl, trivial, hst.fresh (Ext.alloc w _) rfl (by simp) fun S h5 hΓ => ⟨_, heap_alloc_new w _, ?_⟩⟩
  · simp only [execOp, hx, Instr.box, newVar, newRow, Sem.run_bind, run_newObj_alloc, Result.andThen_ok, Sem.run_pure]
  · exact e.keep (e.sub (hf S w hΓ) fun k hk hs => ⟨hs, by omega⟩) (Ext.alloc w _).to
theorem co_box (hT : TTok P cf.tt) {E0 : TypeId} {k : Sg → Option R} (hd : okPut cx d = true) (h : coBox cf cx σ d E0 x k = some r) : MOK P cx ⟨d, .box E0 x, ty, pos, aft, g⟩ σ k r := by
  unfold coBox at h
  split at h
  · next ty' n B i E1 t2 y n2 i2 ht hvr hx =>
    split at h
    · next off s g' st hf =>
      obtain ⟨hg, h⟩ := grd_s h
      rw [Bool.and_eq_true, Bool.and_eq_true] at hg
      obtain rfl := beq_t hg.1
      obtain rfl := beq_t hg.2.1
      obtain rfl := same_t hg.2.2
      obtain ⟨hse, h⟩ := cast_s h
      refine ⟨_, h, Nat.le_succ _, fun fr vs env w hR => ?_⟩
      obtain ⟨hB, hst⟩ := hR
      refine (og_boxC (e := cHo ty'.rep off (st ([] : List s.D)) [.slice none 0 0]) (z := (y, 0)) rfl (fun S w ha => ?_) w hst).mono ?_
      · have hy := opv_hold hx (gs_lko ha x)
        obtain ⟨h1, f, h2, h3⟩ := hy
        rw [hf] at h2
        cases h2
        exact ho_in hf (fV_cells h1) h3 rfl
      rintro v w' ⟨b, rfl, _, hs⟩
      refine rel_new2 (vs := vs) (mk := .mw) (u := tupW (.pointer (some ⟨b, 0, none⟩)) [.slice none 0 0]) hB hd hB.o1 (fun _ => rfl) (fun S w => by simp only [hold, upv_new]; rfl) ?_
      rw [moU]
      refine St.grp.2 (St.pr (p := ([.slice none 0 0] : List Value).length = 1 ∧ vrP s (fld _ ty' _)) ⟨rfl, _, _, _, hf⟩ ?_)
      have h3 := (St.nilO (e := s.rep) (E := E1) (hs.toP 0 rfl)).perm (List.Perm.swap ..)
      show St _ _ (mP (cHo ty'.rep (offL (fld _ ty' _)) (putL s (fld _ ty' _) []) [.slice none 0 0]) E0 _ (y, 0) :: mO s.rep E1 (.slice none 0 0) [] :: _) _ _
      rw [hf]
      have hp : putL s (some ⟨off, .l s, g', st⟩) ([] : List s.D) = st ([] : List s.D) := funext fun z => putL_st
      rw [hp]
      exact h3
    · cases h
  · cases h
theorem ownFd_s {v : Option Dv} {o : Nat} (h : ownFd σ v = some o) : ∃ t n i E s1 E1 z xs, v = some (.vf o t n i) ∧ fndO σ.ob o = some (.vr t E s1 E1 n i z xs) := by
  unfold ownFd at h
  split at h
  · next o' s0 n0 i =>
    split at h
    · next s E s1 E1 n j z xs ho =>
      cases hb : Nat.beq i j && (Nat.beq n0 n && (Ty.same s0 s).isSome) <;> rw [hb] at h
      · cases h
      · cases h
        rw [Bool.and_eq_true, Bool.and_eq_true] at hb
        obtain rfl := beq_t hb.1
        obtain rfl := beq_t hb.2.1
        obtain rfl := same_t hb.2.2
        exact ⟨_, _, _, _, _, _, _, _, rfl, ho⟩
    · cases h
  · cases h
theorem hv_one {hv : List Value} (h : hv.length = 1) : hv = [hv.headD undef] := by
  match hv, h with
  | [a], _ => rfl
theorem co_take (hT : TTok P cf.tt) {o : Nat} {k : Sg → Option R} (hd : okPut cx d = true) (hxv : opv cx σ x = some (.mw o)) (h : coTake cf σ d t o k = some r) : MOK P cx ⟨d, .load t x, ty, pos, aft, g⟩ σ k r := by
  unfold coTake at h
  split at h
  · next q E' B s E E0 xs ht ho =>
    obtain ⟨zero, hty, _⟩ := ty_of hT ht
    refine ⟨_, h, Nat.le_succ _, fun fr vs env w hR => ?_⟩
    obtain ⟨hB, hst⟩ := hR
    obtain ⟨S0, _, hΓ⟩ := hst.ex
    have hxe : ev env x = outW (vs o) := opv_hold hxv (gs_lko hΓ x)
    obtain ⟨hlen, h1⟩ := St.unpr (St.grp.1 (os_out ho hst))
    obtain ⟨b, hb, h2⟩ := h1.openP 0 rfl
    refine (og_of_oe (oe_loadM (e := (eHd (hvW (vs o))).c) (f := eHd (hvW (vs o))) (z' := 0) (up := id) 0 rfl (hxe.trans hb) (Sub.self (eHd (hvW (vs o))) 0) hty) w h2).mono ?_
    rintro u w' ⟨_, rfl, _, hs⟩
    obtain ⟨S1, _, hΓ1⟩ := hs.ex
    have hu := fV_hd hΓ1.1
    have hv1 := hv_one hlen
    have hue : u = (hvW (vs o)).headD undef := by
      rw [hv1] at hu
      simpa using hu.symm
    have h3 := (hs.weak (Δ := GS P vs env fr cx σ) fun S w h => h.2).toP 0 rfl
    rw [← hb] at h3
    refine rel_new2 (vs := vs) (mk := .ow) (u := u) hB hd (fun e he => ?_) (fun _ => rfl) (fun S w => hold_ow S w) ?_
    · obtain ⟨e', g1, g2⟩ := seto_mem ho e he
      rw [← g2]; exact hB.o1 e' g1
    · rw [mo_own, hue]
      have h4 : St fr.we fr.Se (mO s.rep E ((hvW (vs o)).headD undef) xs :: (moF vs (o, .ho E0) :: OS vs fr cx (delo σ.ob o))) (GS P vs env fr cx σ) w' := by
        have h5 : St fr.we fr.Se (mP (eHd (hvW (vs o))).c E0 (outW (vs o)) 0 :: mO s.rep E ((hvW (vs o)).headD undef) xs :: OS vs fr cx (delo σ.ob o)) (GS P vs env fr cx σ) w' := h3
        have h6 := St.pr (p := (hvW (vs o)).length = 1) hlen h5
        have h7 : St fr.we fr.Se ([mPr ((hvW (vs o)).length = 1), mP (eHd (hvW (vs o))).c E0 (outW (vs o)) 0] ++ mO s.rep E ((hvW (vs o)).headD undef) xs :: OS vs fr cx (delo σ.ob o)) (GS P vs env fr cx σ) w' := h6
        exact (St.grp.2 h7).perm (List.Perm.swap ..)
      have hp := os_perm (vs := vs) (fr := fr) (cx := cx) (seto_fnd (Y := .ho E0) ho).1
      rw [(seto_fnd (Y := .ho E0) ho).2] at hp
      exact h4.perm (hp.symm.cons _)
  · cases h
theorem co_build (hT : TTok P cf.tt) {ps : Array (Nat × Operand)} {k : Sg → Option R} (hd : okPut cx d = true) (h : coBuild cf cx σ d t ps.toList k = some r) : MOK P cx ⟨d, .build t ps, ty, pos, aft, g⟩ σ k r := by
  unfold coBuild at h
  split at h
  · next e n B i _ ht hv =>
    obtain ⟨zero, hz1, hz2, hz3, _, hz4⟩ := (hT _ _ ht).1
    obtain ⟨hag, _, ⟨fs, hfs, pl, hpl, hpi⟩, _⟩ := (hT _ _ ht).2.2.2
    simp only at hz1 hz2 hz3 hz4 hag hpi
    obtain ⟨hn, h⟩ := grd_s h
    split at h
    · next off s gt st hf =>
      obtain ⟨z, h, hH⟩ := bldH_s h
      have hes : ∀ F, ES P ⟨d, .build t ps, ty, pos, aft, g⟩ cx σ F [(0, .dz e z n i)] := fun F => es_oe fun env w S vs hM hl => by
        have hb := hH P vs env S w fun x hx => lk_of hl (by simpa [Op.operands] using hx)
        refine ⟨_, _, _, _, [hbF n e (ps.toList.map fun q : Nat × Operand => (q.1, ev env q.2)) e.z z], [], oe_buildH (e := e.rep) (z0 := e.z) (z := z) (parts := ps.toList) (hag ▸ hz1) hag hz3 ⟨fs, hfs, hpl⟩ rfl (fun out => out[off]? = some (.slice none 0 0)) (fun S w h cs hcs hc => ?_), trivial, ⟨hb, trivial⟩, fun u w' hu hf' => one_of ⟨hf'.1, _, hf, hu⟩⟩
        obtain ⟨out, q1, q2, q3⟩ := HB.fill hpi h.1 hc
        refine ⟨out, q1, q2, ?_⟩
        rw [q3 i _ hf (fun p hp => ?_) rfl, hcs]
        · exact hz4 _ _ _ _ _ _ hf
        · obtain ⟨q, hq, rfl⟩ := List.mem_map.1 hp
          have := List.all_eq_true.1 hn q hq
          intro e1
          simp only at e1
          rw [e1] at this
          simp at this
      exact ⟨_, h, Nat.le_refl _, fun fr vs env w hR => rel_E (hes _).mono hd (by rfl) hR⟩
    · cases h
  · cases h
theorem co_takV (hT : TTok P cf.tt) {o : Nat} {k : Sg → Option R} (hd : okPut cx d = true) (hown : ownFd σ (opv cx σ x) = some o) (h : coTakV cf σ d t o k = some r) : MOK P cx ⟨d, .load t x, ty, pos, aft, g⟩ σ k r := by
  obtain ⟨t0, n0, i, E', s', E1', z', xs', hxv, ho'⟩ := ownFd_s hown
  unfold coTakV at h
  split at h
  · next s0 q B s1 E s2 E1 n j z xs ht ho =>
    rw [ho'] at ho
    simp only [Option.some.injEq, Od.vr.injEq] at ho
    obtain ⟨rfl, rfl, rfl, rfl, rfl, rfl, hz, hxs⟩ := ho
    cases hz
    cases hxs
    obtain ⟨hg, h⟩ := grd_s h
    obtain ⟨zero, hty, _⟩ := ty_of hT ht
    refine ⟨_, h, Nat.le_succ _, fun fr vs env w hR => ?_⟩
    obtain ⟨hB, hst⟩ := hR
    obtain ⟨S0, _, hΓ⟩ := hst.ex
    obtain ⟨b', f, hb', hf, hxe⟩ := opv_hold hxv (gs_lko hΓ x)
    obtain ⟨⟨hlen, hvp⟩, h1⟩ := St.unpr (St.grp.1 (os_out ho' hst))
    obtain ⟨b, hb, h2⟩ := h1.openP 0 rfl
    rw [hb] at hb'
    cases hb'
    have hoff : offL (fld n0 t0 i) = f.off := by rw [hf]; rfl
    have hxe' : ev env x = .pointer (some ⟨b', offL (fld n0 t0 i), none⟩) := by rw [hoff]; exact hxe.trans (by rw [Nat.zero_add])
    refine (og_of_oe (oe_loadM (e := cHo t0.rep (offL (fld n0 t0 i)) (putL s' (fld n0 t0 i) []) (hvW (vs o))) (f := eHd (hvW (vs o))) (z' := 0) (up := fun r => (z', r)) 0 rfl hxe' Sub.hole hty) w h2).mono ?_
    rintro u w' ⟨_, rfl, _, hs⟩
    obtain ⟨S1, _, hΓ1⟩ := hs.ex
    have hu := fV_hd hΓ1.1
    have hv1 := hv_one hlen
    have hue : u = (hvW (vs o)).headD undef := by
      rw [hv1] at hu
      simpa using hu.symm
    have h3 := (hs.weak (Δ := GS P vs env fr cx σ) fun S w h => h.2).toP 0 rfl
    rw [← hb] at h3
    refine rel_new2 (vs := vs) (mk := .ow) (u := u) hB hd (fun e he => ?_) (fun _ => rfl) (fun S w => hold_ow S w) ?_
    · obtain ⟨e', g1, g2⟩ := seto_mem ho' e he
      rw [← g2]; exact hB.o1 e' g1
    · rw [mo_own, hue]
      have h4 : St fr.we fr.Se (mO s'.rep E1' ((hvW (vs o)).headD undef) xs' :: (moF vs (o, .vh t0 E' s' E1' n0 i z') :: OS vs fr cx (delo σ.ob o))) (GS P vs env fr cx σ) w' := by
        have h5 : St fr.we fr.Se (mP (cHo t0.rep (offL (fld n0 t0 i)) (putL s' (fld n0 t0 i) []) (hvW (vs o))) E' (outW (vs o)) (z', 0) :: mO s'.rep E1' ((hvW (vs o)).headD undef) xs' :: OS vs fr cx (delo σ.ob o)) (GS P vs env fr cx σ) w' := h3
        have h6 := St.pr (p := (hvW (vs o)).length = 1 ∧ vrP s' (fld n0 t0 i)) ⟨hlen, hvp⟩ h5
        have h7 : St fr.we fr.Se ([mPr ((hvW (vs o)).length = 1 ∧ vrP s' (fld n0 t0 i)), mP (cHo t0.rep (offL (fld n0 t0 i)) (putL s' (fld n0 t0 i) []) (hvW (vs o))) E' (outW (vs o)) (z', 0)] ++ mO s'.rep E1' ((hvW (vs o)).headD undef) xs' :: OS vs fr cx (delo σ.ob o)) (GS P vs env fr cx σ) w' := h6
        exact (St.grp.2 h7).perm (List.Perm.swap ..)
      have hp := os_perm (vs := vs) (fr := fr) (cx := cx) (seto_fnd (Y := .vh t0 E' s' E1' n0 i z') ho').1
      rw [(seto_fnd (Y := .vh t0 E' s' E1' n0 i z') ho').2] at hp
      exact h4.perm (hp.symm.cons _)
  · cases h
structure RenOK (a b : Value) : Prop where
  out : outW b = outW a
  hv : ∀ (r : Nat) (v : Value), (hvW a)[r]? = some v → (hvW b)[r]? = some v
theorem ren_hold {o n : Nat} (hr : RenOK (vs o) (vs n)) {dv : Dv} {v : Value} {S : Nat → Prop} (h : (hold P vs dv v).p S w) : (hold P vs (ren1 o n dv) v).p S w := by
  cases dv with
  | mw p =>
    show (hold P vs (bif Nat.beq p o then .mw n else .mw p) v).p S w
    cases hb : Nat.beq p o
    · exact h
    · obtain rfl := beq_t hb
      exact (show v = outW (vs p) from h).trans hr.out.symm
  | mv p l m =>
    show (hold P vs (bif Nat.beq p o then .mv n l m else .mv p l m) v).p S w
    cases hb : Nat.beq p o
    · exact h
    · obtain rfl := beq_t hb
      simp only [hold, cond_true] at h ⊢
      rw [hr.out]; exact h
  | hp p j =>
    show (hold P vs (bif Nat.beq p o then .hp n j else .hp p j) v).p S w
    cases hb : Nat.beq p o
    · exact h
    · obtain rfl := beq_t hb
      simp only [hold, cond_true] at h ⊢
      rw [hr.out]; exact h
  | rw p r =>
    show (hold P vs (bif Nat.beq p o then .rw n r else .rw p r) v).p S w
    cases hb : Nat.beq p o
    · exact h
    · obtain rfl := beq_t hb
      exact hr.hv _ _ h
  | rp p t r j f =>
    show (hold P vs (bif Nat.beq p o then .rp n t r j f else .rp p t r j f) v).p S w
    cases hb : Nat.beq p o
    · exact h
    · obtain rfl := beq_t hb
      obtain ⟨h1, b, m, cap, h2, h3, h4⟩ := h
      exact ⟨h1, b, m, cap, hr.hv _ _ h2, h3, h4⟩
  | _ => exact h
theorem ren1_ref {o n p : Nat} {v : Dv} (h : refO (ren1 o n v) = some p) : refO v = some p ∨ p = n := by
  cases v with
  | mw q =>
    have h : refO (bif Nat.beq q o then Dv.mw n else .mw q) = some p := h
    cases hb : Nat.beq q o <;> rw [hb] at h
    · exact .inl h
    · cases h; exact .inr rfl
  | mv q l m =>
    have h : refO (bif Nat.beq q o then Dv.mv n l m else .mv q l m) = some p := h
    cases hb : Nat.beq q o <;> rw [hb] at h
    · exact .inl h
    · cases h; exact .inr rfl
  | hp q j =>
    have h : refO (bif Nat.beq q o then Dv.hp n j else .hp q j) = some p := h
    cases hb : Nat.beq q o <;> rw [hb] at h
    · exact .inl h
    · cases h; exact .inr rfl
  | rw q r =>
    have h : refO (bif Nat.beq q o then Dv.rw n r else .rw q r) = some p := h
    cases hb : Nat.beq q o <;> rw [hb] at h
    · exact .inl h
    · cases h; exact .inr rfl
  | rp q t r j f =>
    have h : refO (bif Nat.beq q o then Dv.rp n t r j f else .rp q t r j f) = some p := h
    cases hb : Nat.beq q o <;> rw [hb] at h
    · exact .inl h
    · cases h; exact .inr rfl
  | _ => exact .inl h
theorem renR_mem {o n : Nat} : ∀ {rg : List (Nat × Nat × Dv)}, ∀ e ∈ renR o n rg, ∃ e' ∈ rg, e = (e'.1, e'.2.1, ren1 o n e'.2.2)
  | [], e, he => absurd he List.not_mem_nil
  | (t, i, v) :: rg, e, he => by
    rcases List.mem_cons.1 he with rfl | he
    · exact ⟨_, List.mem_cons_self .., rfl⟩
    · obtain ⟨e', h1, h2⟩ := renR_mem e he
      exact ⟨e', List.mem_cons_of_mem _ h1, h2⟩
theorem renM_mem {o n : Nat} : ∀ {rg : List (Nat × Nat × Dv)}, ∀ e ∈ renM o n rg, e ∈ rg ∨ ∃ e' ∈ rg, ∃ p, e'.2.2 = .mw p ∧ e = (e'.1, e'.2.1, bif Nat.beq p o then .mw n else .mw p)
  | [], e, he => absurd he List.not_mem_nil
  | (t, i, v) :: rg, e, he => by
    have ih : ∀ e ∈ renM o n rg, e ∈ (t, i, v) :: rg ∨ ∃ e' ∈ (t, i, v) :: rg, ∃ p, e'.2.2 = .mw p ∧ e = (e'.1, e'.2.1, bif Nat.beq p o then .mw n else .mw p) := fun e he => by
      rcases renM_mem e he with h | ⟨e', h1, p, h2, h3⟩
      · exact .inl (List.mem_cons_of_mem _ h)
      · exact .inr ⟨e', List.mem_cons_of_mem _ h1, p, h2, h3⟩
    cases v with
    | mw p =>
      rcases List.mem_cons.1 (show e ∈ (t, i, bif Nat.beq p o then Dv.mw n else .mw p) :: renM o n rg from he) with rfl | he
      · exact .inr ⟨_, List.mem_cons_self .., p, rfl, rfl⟩
      · exact ih e he
    | _ =>
      rcases List.mem_cons.1 he with rfl | he
      · exact .inl (List.mem_cons_self ..)
      · exact ih e he
theorem rel_ren {u v : Value} {o : Nat} {X : Od} {ob : List (Nat × Od)} {rg : List (Nat × Nat × Dv)} (hB : Bd cx σ) (hd : okPut cx d = true) (hob : ∀ e ∈ ob, e.1 < σ.nx)
    (hrg : ∀ e ∈ rg, ∃ e' ∈ putR σ.rg d [], e.1 = e'.1 ∧ e.2.1 = e'.2.1 ∧ (∀ p, refO e.2.2 = some p → refO e'.2.2 = some p ∨ p = σ.nx) ∧ ∀ v S w, (hold P (upv vs σ.nx u) e'.2.2 v).p S w → (hold P (upv vs σ.nx u) e.2.2 v).p S w)
    (hst : St fr.we fr.Se (moF (upv vs σ.nx u) (σ.nx, X) :: OS vs fr cx ob) (GS P vs env fr cx σ) w) : RelX P fr cx σ.nx vs ⟨σ.nx + 1, rg, (σ.nx, X) :: ob⟩ (put env d v) w := by
  obtain ⟨hb2, hs2⟩ : RelV P fr cx ⟨σ.nx + 1, putR σ.rg d [], (σ.nx, X) :: ob⟩ (upv vs σ.nx u) (put env d v) w := by
    refine relV_mk (σ' := ⟨σ.nx + 1, putR σ.rg d [], (σ.nx, X) :: ob⟩) (l := []) (vs := vs) (vs' := upv vs σ.nx u) (Γl := []) hB hd rfl (Nat.le_succ _) (fun o ho => upv_old ho) (fun _ he => absurd he List.not_mem_nil) ?_ (fun S w _ e he => absurd he List.not_mem_nil) ?_
    · intro e he
      rcases List.mem_cons.1 he with rfl | he
      · exact Nat.lt_succ_self _
      · exact Nat.lt_succ_of_lt (hob e he)
    · show St _ _ (moF (upv vs σ.nx u) (σ.nx, X) :: OS (upv vs σ.nx u) fr cx ob) _ _
      rw [os_upv hB hob]
      exact hst
  refine ⟨upv vs σ.nx u, fun o ho => upv_old ho, ⟨hb2.o1, hb2.o2, fun e he p hp => ?_, hb2.r2⟩, hs2.weak fun S w h => All.append (all_mem.2 fun f hf => ?_) (All.right h)⟩
  · obtain ⟨e', h1, _, _, h2, _⟩ := hrg e he
    rcases h2 p hp with h | rfl
    · exact hb2.r1 e' h1 p h
    · exact Nat.lt_succ_self _
  · obtain ⟨e, he, rfl⟩ := List.mem_map.1 hf
    obtain ⟨e', h1, h2, h3, _, h4⟩ := hrg e he
    have h5 := rs_get (All.left h) (t := e'.1) (i := e'.2.1) (d := e'.2.2) h1
    rw [h2, h3]
    exact holdC_map h5 fun u hu => h4 u S w hu
theorem hrg_ren {u : Value} {o : Nat} (hr : RenOK (upv vs σ.nx u o) (upv vs σ.nx u σ.nx)) : ∀ e ∈ renR o σ.nx σ.rg, ∃ e' ∈ putR σ.rg none [], e.1 = e'.1 ∧ e.2.1 = e'.2.1 ∧ (∀ p, refO e.2.2 = some p → refO e'.2.2 = some p ∨ p = σ.nx) ∧ ∀ v S w, (hold P (upv vs σ.nx u) e'.2.2 v).p S w → (hold P (upv vs σ.nx u) e.2.2 v).p S w := by
  intro e he
  obtain ⟨e', h1, rfl⟩ := renR_mem e he
  exact ⟨e', h1, rfl, rfl, fun p hp => ren1_ref hp, fun v S w h => ren_hold hr h⟩
theorem hrg_renM {u : Value} {o : Nat} {rg : List (Nat × Nat × Dv)} (hr : outW (upv vs σ.nx u σ.nx) = outW (upv vs σ.nx u o)) : ∀ e ∈ renM o σ.nx rg, ∃ e' ∈ rg, e.1 = e'.1 ∧ e.2.1 = e'.2.1 ∧ (∀ p, refO e.2.2 = some p → refO e'.2.2 = some p ∨ p = σ.nx) ∧ ∀ v S w, (hold P (upv vs σ.nx u) e'.2.2 v).p S w → (hold P (upv vs σ.nx u) e.2.2 v).p S w := by
  intro e he
  rcases renM_mem e he with h | ⟨e', h1, p, h2, rfl⟩
  · exact ⟨e, h, rfl, rfl, fun p hp => .inl hp, fun v S w h => h⟩
  · refine ⟨e', h1, rfl, rfl, fun q hq => ?_, fun v S w h => ?_⟩
    · rw [h2]
      cases hb : Nat.beq p o
      · simp only [hb, cond_false] at hq; exact .inl hq
      · simp only [hb, cond_true] at hq; cases hq; exact .inr rfl
    · rw [h2] at h
      have h : v = outW (upv vs σ.nx u p) := h
      cases hb : Nat.beq p o
      · exact h
      · have hp := beq_t hb
        subst hp
        exact h.trans hr.symm
end
end
section
section
variable {P : Program} {cf : Cf} {fr : Fr} {cx σ : Sg} {vs vs' : Nat → Value} {env : Env} {w : World} {R : Type} {r : R}
  {d : Option Tmp} {ty t yt : TypeId} {pos : String} {aft : Array Edge} {g : Option (Nat × Bool)} {x y : Operand}
theorem rowAt_some {α : Type} {xss : List (List α)} {r : Nat} (h : r < xss.length) : xss[r]? = some (rowAt xss r) := by simp_all [rowAt]
theorem mt_out {o : Nat} {s : Ty} {E E1 : TypeId} {xss : List (List s.D)} {ix : List Nat} {ms : List MF} {Γ : List FF} (h : St fr.we fr.Se (moF vs (o, .mat s E E1 xss ix) :: ms) Γ w) :
    (hvW (vs o)).length = xss.length ∧ St fr.we fr.Se ((mO (eHd (hvW (vs o))) E (outW (vs o)) ix :: mRows s.rep E1 (hvW (vs o)) xss) ++ ms) Γ w := St.unpr (St.grp.1 h)
theorem mt_in {u : Value} {s : Ty} {E E1 : TypeId} {xss : List (List s.D)} {ix : List Nat} {ms : List MF} {Γ : List FF} (hl : (hvW u).length = xss.length) (h : St fr.we fr.Se ((mO (eHd (hvW u)) E (outW u) ix :: mRows s.rep E1 (hvW u) xss) ++ ms) Γ w) :
    St fr.we fr.Se (mMt s.rep E E1 u xss ix :: ms) Γ w := St.grp.2 (St.pr hl h)
theorem cs_rp {k : Sg → Option R} {ti : TI} (hT : TTok P cf.tt) (hti : tyA cf t = some ti) {o p j : Nat} {e : Ty} {f : Fl e.D} (hx : opv cx σ x = some (.rp o e p j f)) (h : coStore σ ti.ty (opv cx σ x) (opv cx σ y) k = some r) :
    MOK P cx ⟨none, .store t x y, ty, pos, aft, g⟩ σ k r := by
  obtain ⟨zero, hty, _⟩ := ty_of hT hti
  rw [hx] at h
  simp only [coStore] at h
  split at h
  · next s' E E1 xss ix hsame ho _ =>
    obtain ⟨hss, h1⟩ := cast_s h
    cases hss
    obtain ⟨q, h2, hq⟩ := asO_s h1
    obtain ⟨zss, hz, h⟩ := nm_s h2
    obtain ⟨hsame⟩ := hsame
    refine ⟨_, h, Nat.le_refl _, fun fr vs env w hR => ?_⟩
    obtain ⟨hB, hst⟩ := hR
    obtain ⟨S0, _, hΓ⟩ := hst.ex
    obtain ⟨hok, b, m, cap, hv, hj, hxe⟩ := opv_hold hx (gs_lko hΓ x)
    have hop := os_out ho hst
    obtain ⟨hn, hp⟩ : m = (rowAt (α := e.D) xss p).length ∧ p < xss.length := mut_frame hop (i := 0) rfl fun S hp => ⟨own_pos (mt_row (show (mMt e.rep E E1 (vs o) xss ix).p S w from hp) hv).1 rfl, (mt_row (show (mMt e.rep E E1 (vs o) xss ix).p S w from hp) hv).2⟩
    obtain ⟨hl, hg⟩ := mt_out hop
    have hi := mat_row (e := e.rep) (E := E) (E1 := E1) (v := outW (vs o)) (ix := ix) hv (rowAt_some (α := e.D) hp) (OS vs fr cx (delo σ.ob o))
    obtain ⟨b', cap', hv', hc1, hc2, hs⟩ := hg.openO (p + 1) hi (by omega)
    cases hv'
    rw [← hsame] at hty
    have hsub := (Sub.rowT0 e.rep cap (rowAt (α := e.D) xss p) j ((rowAt (α := e.D) xss p).getD j e.z) (getD_some e.z (by omega))).comp (hok ((rowAt (α := e.D) xss p).getD j e.z))
    refine (og_storeM (f := f.f.rep) (y' := q) (p + 1) (get_set hi) hxe rfl hsub hty (fun S w ha => hq P vs env S w (gs_lko ha y)) w hs).mono ?_
    rintro v w' ⟨_, rfl, _, hs'⟩
    refine rel_set (vs := vs) hB ho (os_back ho ?_)
    have hlen : (List.set (rowAt (α := e.D) xss p) j (f.set q ((rowAt (α := e.D) xss p).getD j e.z))).length = (rowAt (α := e.D) xss p).length := List.length_set ..
    have hs2 := hs'.closeF (p + 1) (get_set (get_set hi)) (by rw [hlen]; exact hc1) hc2
    rw [set_set, set_set, hlen, mat_row_set hv hp hl] at hs2
    rw [hz]
    exact mt_in (by rw [show (rplc (α := e.D) xss p _).length = xss.length from List.length_set ..]; exact hl) hs2
  · cases h
theorem cs_hr {k : Sg → Option R} {ti : TI} (hT : TTok P cf.tt) (hti : tyA cf t = some ti) {o j o' p : Nat} (hx : opv cx σ x = some (.hp o j)) (hy : opv cx σ y = some (.rw o' p)) (h : coStore σ ti.ty (opv cx σ x) (opv cx σ y) k = some r) :
    MOK P cx ⟨none, .store t x y, ty, pos, aft, g⟩ σ k r := by
  obtain ⟨zero, hty, _⟩ := ty_of hT hti
  rw [hx, hy] at h
  simp only [coStore] at h
  obtain ⟨ho', h⟩ := grd_s h
  obtain rfl := beq_t ho'
  split at h
  · next s' E E1 xss ix q ho htq =>
    obtain ⟨iz, hz, h⟩ := nm_s h
    refine ⟨_, h, Nat.le_refl _, fun fr vs env w hR => ?_⟩
    obtain ⟨hB, hst⟩ := hR
    obtain ⟨S0, _, hΓ⟩ := hst.ex
    obtain ⟨b, m, cap, hv, hj, hxe⟩ := opv_hold hx (gs_lko hΓ x)
    have hye : (hvW (vs o'))[p]? = some (ev env y) := opv_hold hy (gs_lko hΓ y)
    have hop := os_out ho hst
    obtain ⟨hn, hone⟩ : m = ix.length ∧ (ev env y).oneCell' = true := mut_frame hop (i := 0) rfl fun S hp => ⟨own_pos (mt_s (show (mMt s'.rep E E1 (vs o') xss ix).p S w from hp)).2.1 hv, (mo_one (mt_row (show (mMt s'.rep E E1 (vs o') xss ix).p S w from hp) hye).1).1⟩
    obtain ⟨hl, hg⟩ := mt_out hop
    obtain ⟨b', cap', hv', hc1, hc2, hs⟩ := hg.openO 0 rfl (by omega)
    rw [hv] at hv'
    cases hv'
    have hsub := Sub.rowT0 (eHd (hvW (vs o'))) cap ix j (ix.getD j 0) (getD_some 0 (by omega))
    rw [htq] at hty
    refine (og_storeM (f := eHd (hvW (vs o'))) (y' := p) 0 rfl hxe rfl hsub hty (fun S w ha => ?_) w hs).mono ?_
    · exact hd_fV (opv_hold hy (gs_lko ha y)) hone
    rintro v w' ⟨_, rfl, _, hs'⟩
    refine rel_set (vs := vs) hB ho (os_back ho ?_)
    have hlen : (ix.set j p).length = ix.length := List.length_set ..
    have hs2 := hs'.closeF 0 rfl (by rw [hlen]; exact hc1) hc2
    rw [hlen, ← hv] at hs2
    rw [hz]
    exact mt_in hl hs2
  · cases h
theorem rn_more {u : Value} {o : Nat} {hv : List Value} (hu : hvW u = hvW (vs o) ++ hv) (ho : outW u = outW (vs o)) (hlt : o < σ.nx) : RenOK (upv vs σ.nx u o) (upv vs σ.nx u σ.nx) := by
  rw [upv_old hlt, upv_new]
  refine ⟨ho, fun r v h => ?_⟩
  rw [hu, List.getElem?_append_left (List.getElem?_eq_some_iff.1 h).1]
  exact h
theorem fnd_lt {o : Nat} {X : Od} (hB : Bd cx σ) (h : fndO σ.ob o = some X) : o < σ.nx := by
  obtain ⟨i, h1, _⟩ := fndO_some h
  exact hB.o1 _ (List.mem_of_getElem? h1)
theorem delo2_lt (hB : Bd cx σ) {o p : Nat} : ∀ e ∈ delo (delo σ.ob o) p, e.1 < σ.nx := fun e he => hB.o1 e (delo_mem e (delo_mem e he))
theorem cs_ho {k : Sg → Option R} {ti : TI} (hT : TTok P cf.tt) (hti : tyA cf t = some ti) {o j o2 : Nat} (hx : opv cx σ x = some (.hp o j)) (hy : opv cx σ y = some (.ow o2)) (h : coStore σ ti.ty (opv cx σ x) (opv cx σ y) k = some r) :
    MOK P cx ⟨none, .store t x y, ty, pos, aft, g⟩ σ k r := by
  obtain ⟨zero, hty, _⟩ := ty_of hT hti
  rw [hx, hy] at h
  simp only [coStore] at h
  obtain ⟨hne, h⟩ := grd_s h
  rw [Bool.not_eq_true'] at hne
  split at h
  · next s' E E1 xss ix s2 E2 ys q ho ho2 htq =>
    obtain ⟨hE, h0⟩ := grd_s h
    obtain rfl := beq_t hE
    obtain ⟨hss, h1⟩ := cast_s h0
    cases hss
    obtain ⟨zss, hz, h2⟩ := nm_s h1
    obtain ⟨iz, hi, h3⟩ := nm_s h2
    refine ⟨_, h3, Nat.le_succ _, fun fr vs env w hR => ?_⟩
    obtain ⟨hB, hst⟩ := hR
    obtain ⟨S0, _, hΓ⟩ := hst.ex
    obtain ⟨b, m, cap, hv, hj, hxe⟩ := opv_hold hx (gs_lko hΓ x)
    have hye : ev env y = vs o2 := opv_hold hy (gs_lko hΓ y)
    have hop := os_out2 hne ho ho2 hst
    have hn : m = ix.length := mut_frame hop (i := 0) rfl fun S hp => own_pos (mt_s (show (mMt s'.rep E E1 (vs o) xss ix).p S w from hp)).2.1 hv
    obtain ⟨hone, _⟩ : (vs o2).oneCell' = true ∧ _ := mut_frame hop (i := 1) (m := mO s'.rep E1 (vs o2) ys) rfl fun S hp => mo_one hp
    have hl := (mt_out hop).1
    have hg : St fr.we fr.Se ((mO (eHd (hvW (vs o) ++ [vs o2])) E (outW (vs o)) ix :: mRows s'.rep E1 (hvW (vs o) ++ [vs o2]) (xss ++ [ys])) ++ OS vs fr cx (delo (delo σ.ob o) o2)) (GS P vs env fr cx σ) w :=
      St.grp.1 (St.adopt hl (St.grp.2 (mt_out hop).2))
    obtain ⟨b', cap', hv', hc1, hc2, hs⟩ := hg.openO 0 rfl (by omega)
    rw [hv] at hv'
    cases hv'
    have hsub := Sub.rowT0 (eHd (hvW (vs o) ++ [vs o2])) cap ix j (ix.getD j 0) (getD_some 0 (by omega))
    rw [htq] at hty
    refine (og_storeM (f := eHd (hvW (vs o) ++ [vs o2])) (y' := xss.length) 0 rfl hxe hye hsub hty (fun S w ha => hd_fV (by rw [← hl]; simp) hone) w hs).mono ?_
    rintro v w' ⟨_, rfl, _, hs'⟩
    have hlen : (ix.set j xss.length).length = ix.length := List.length_set ..
    have hs2 := hs'.closeF 0 rfl (by rw [hlen]; exact hc1) hc2
    rw [hlen, ← hv] at hs2
    refine rel_ren (o := o) (u := tupW (outW (vs o)) (hvW (vs o) ++ [vs o2])) hB rfl (delo2_lt hB) (hrg_ren (rn_more rfl rfl (fnd_lt hB ho))) ?_
    rw [moU, hi, hz]
    refine mt_in (u := tupW (outW (vs o)) (hvW (vs o) ++ [vs o2])) (by show (hvW (vs o) ++ [vs o2]).length = (xss ++ [ys]).length; simp [hl]) hs2
  · cases h
theorem cs_bo {k : Sg → Option R} {ti : TI} (hT : TTok P cf.tt) (hti : tyA cf t = some ti) {o o2 : Nat} (hx : opv cx σ x = some (.mw o)) (hy : opv cx σ y = some (.ow o2)) (h : coStore σ ti.ty (opv cx σ x) (opv cx σ y) k = some r) :
    MOK P cx ⟨none, .store t x y, ty, pos, aft, g⟩ σ k r := by
  obtain ⟨zero, hty, _⟩ := ty_of hT hti
  rw [hx, hy] at h
  simp only [coStore] at h
  obtain ⟨hne, h⟩ := grd_s h
  rw [Bool.not_eq_true'] at hne
  split at h
  · next E0 s2 E2 ys q ho ho2 htq =>
    refine ⟨_, h, Nat.le_succ _, fun fr vs env w hR => ?_⟩
    obtain ⟨hB, hst⟩ := hR
    obtain ⟨S0, _, hΓ⟩ := hst.ex
    have hxe : ev env x = outW (vs o) := opv_hold hx (gs_lko hΓ x)
    have hye : ev env y = vs o2 := opv_hold hy (gs_lko hΓ y)
    have hop := os_out2 hne ho ho2 hst
    obtain ⟨hone, _⟩ : (vs o2).oneCell' = true ∧ _ := mut_frame hop (i := 1) (m := mO s2.rep E2 (vs o2) ys) rfl fun S hp => mo_one hp
    obtain ⟨hl, h1⟩ := St.unpr (St.grp.1 hop)
    have h1 : St fr.we fr.Se (mP (eHd (hvW (vs o))).c E0 (outW (vs o)) 0 :: mO s2.rep E2 (vs o2) ys :: OS vs fr cx (delo (delo σ.ob o) o2)) (GS P vs env fr cx σ) w := h1
    obtain ⟨b, hb, h2⟩ := h1.openP 0 rfl
    have hv1 := hv_one hl
    have h3 := h2.conv (i := 0) (m := mB (eHd (hvW (vs o))).c E0 b 0) (m' := mB (eHd (hvW (vs o) ++ [vs o2])).c E0 b 0) rfl rfl fun S hp => by
      obtain ⟨cs, g1, u, g2, g3, g4⟩ := hp
      exact ⟨cs, g1, u, by rw [List.getElem?_append_left (List.getElem?_eq_some_iff.1 g2).1]; exact g2, g3, g4⟩
    rw [htq] at hty
    refine (og_storeM (e := (eHd (hvW (vs o) ++ [vs o2])).c) (f := eHd (hvW (vs o) ++ [vs o2])) (z' := 0) (y' := 1) (up := id) 0 rfl (hxe.trans hb) hye (Sub.self (eHd (hvW (vs o) ++ [vs o2])) 0) hty (fun S w ha => hd_fV (by rw [hv1]; rfl) hone) w h3).mono ?_
    rintro v w' ⟨_, rfl, _, hs'⟩
    have h4 : St fr.we fr.Se (mB (eHd (hvW (vs o) ++ [vs o2])).c E0 b 1 :: mO s2.rep E2 (vs o2) ys :: OS vs fr cx (delo (delo σ.ob o) o2)) (GS P vs env fr cx σ) w' := hs'
    have h5 := h4.conv (i := 0) (m := mB (eHd (hvW (vs o) ++ [vs o2])).c E0 b 1) (m' := mB (eHd [vs o2]).c E0 b 0) rfl rfl fun S hp => by
      obtain ⟨cs, g1, u, g2, g3, g4⟩ := hp
      refine ⟨cs, g1, u, ?_, g3, g4⟩
      rw [hv1] at g2
      exact g2
    have h6 := h5.toP 0 rfl
    rw [← hb] at h6
    have h7 : St fr.we fr.Se (mP (eHd [vs o2]).c E0 (outW (vs o)) 0 :: mO s2.rep E2 (vs o2) ys :: OS vs fr cx (delo (delo σ.ob o) o2)) (GS P vs env fr cx σ) w' := h6
    refine rel_ren (o := o) (u := tupW (outW (vs o)) [vs o2]) hB rfl (delo2_lt hB) (hrg_renM (by rw [upv_new, upv_old (fnd_lt hB ho)]; rfl)) ?_
    · rw [moU]
      exact St.grp.2 (St.pr (p := ([vs o2] : List Value).length = 1) rfl h7)
  · cases h
theorem cs_vo {k : Sg → Option R} {ti : TI} (hT : TTok P cf.tt) (hti : tyA cf t = some ti) {o o2 s0 n0 i} (hx : opv cx σ x = some (.vf o s0 n0 i)) (hy : opv cx σ y = some (.ow o2)) (h : coStore σ ti.ty (opv cx σ x) (opv cx σ y) k = some r) :
    MOK P cx ⟨none, .store t x y, ty, pos, aft, g⟩ σ k r := by
  obtain ⟨zero, hty, _⟩ := ty_of hT hti
  rw [hx, hy] at h
  simp only [coStore] at h
  obtain ⟨hne, h⟩ := grd_s h
  rw [Bool.not_eq_true'] at hne
  split at h
  · next s1 E s2 E1 n j z s3 E3 ys ho ho2 =>
    obtain ⟨hg, h0⟩ := grd_s h
    rw [Bool.and_eq_true, Bool.and_eq_true, Bool.and_eq_true, Bool.and_eq_true] at hg
    obtain ⟨⟨⟨g1, g2⟩, g3⟩, g4, g5⟩ := hg
    obtain rfl := beq_t g1
    obtain rfl := beq_t g2
    obtain rfl := beq_t g4
    obtain rfl := same_t g5
    have htq := same_t g3
    obtain ⟨hss, h01⟩ := cast_s h0
    cases hss
    refine ⟨_, h01, Nat.le_succ _, fun fr vs env w hR => ?_⟩
    obtain ⟨hB, hst⟩ := hR
    obtain ⟨S0, _, hΓ⟩ := hst.ex
    obtain ⟨b', f, hb', hf, hxe⟩ := opv_hold hx (gs_lko hΓ x)
    have hye : ev env y = vs o2 := opv_hold hy (gs_lko hΓ y)
    have hop := os_out2 hne ho ho2 hst
    obtain ⟨hone, _⟩ : (vs o2).oneCell' = true ∧ _ := mut_frame hop (i := 1) (m := mO s2.rep E1 (vs o2) ys) rfl fun S hp => mo_one hp
    obtain ⟨⟨hl, hvp⟩, h1⟩ := St.unpr (St.grp.1 hop)
    have h1 : St fr.we fr.Se (mP (cHo s0.rep (offL (fld n0 s0 i)) (putL s2 (fld n0 s0 i) []) (hvW (vs o))) E (outW (vs o)) (z, 0) :: mO s2.rep E1 (vs o2) ys :: OS vs fr cx (delo (delo σ.ob o) o2)) (GS P vs env fr cx σ) w := h1
    obtain ⟨b, hb, h2⟩ := h1.openP 0 rfl
    have hv1 := hv_one hl
    obtain rfl : b' = b := by rw [hb] at hb'; cases hb'; rfl
    have hoff : offL (fld n0 s0 i) = f.off := by rw [hf]; rfl
    have hxe' : ev env x = .pointer (some ⟨b', offL (fld n0 s0 i), none⟩) := by rw [hoff]; exact hxe.trans (by rw [Nat.zero_add])
    have h3 := h2.conv (i := 0) (m := mB (cHo s0.rep (offL (fld n0 s0 i)) (putL s2 (fld n0 s0 i) []) (hvW (vs o))) E b' (z, 0)) (m' := mB (cHo s0.rep (offL (fld n0 s0 i)) (putL s2 (fld n0 s0 i) []) (hvW (vs o) ++ [vs o2])) E b' (z, 0)) rfl rfl fun S hp => by
      obtain ⟨cs, g1, g2⟩ := hp
      exact ⟨cs, g1, ho_more g2⟩
    rw [htq] at hty
    refine (og_storeM (e := cHo s0.rep (offL (fld n0 s0 i)) (putL s2 (fld n0 s0 i) []) (hvW (vs o) ++ [vs o2])) (f := eHd (hvW (vs o) ++ [vs o2])) (z' := 0) (y' := 1) (up := fun r => (z, r)) 0 rfl hxe' hye Sub.hole hty (fun S w ha => hd_fV (by rw [hv1]; rfl) hone) w h3).mono ?_
    rintro v w' ⟨_, rfl, _, hs'⟩
    have h4 : St fr.we fr.Se (mB (cHo s0.rep (offL (fld n0 s0 i)) (putL s2 (fld n0 s0 i) []) (hvW (vs o) ++ [vs o2])) E b' (z, 1) :: mO s2.rep E1 (vs o2) ys :: OS vs fr cx (delo (delo σ.ob o) o2)) (GS P vs env fr cx σ) w' := hs'
    have h5 := h4.conv (i := 0) (m := mB (cHo s0.rep (offL (fld n0 s0 i)) (putL s2 (fld n0 s0 i) []) (hvW (vs o) ++ [vs o2])) E b' (z, 1)) (m' := mB (cHo s0.rep (offL (fld n0 s0 i)) (putL s2 (fld n0 s0 i) []) [vs o2]) E b' (z, 0)) rfl rfl fun S hp => by
      obtain ⟨cs, g1, g2⟩ := hp
      exact ⟨cs, g1, ho_at (by rw [hv1]; rfl) g2⟩
    have h6 := h5.toP 0 rfl
    rw [← hb] at h6
    have h7 : St fr.we fr.Se (mP (cHo s0.rep (offL (fld n0 s0 i)) (putL s2 (fld n0 s0 i) []) [vs o2]) E (outW (vs o)) (z, 0) :: mO s2.rep E1 (vs o2) ys :: OS vs fr cx (delo (delo σ.ob o) o2)) (GS P vs env fr cx σ) w' := h6
    refine rel_ren (o := o) (u := tupW (outW (vs o)) [vs o2]) hB rfl (delo2_lt hB) (hrg_renM (by rw [upv_new, upv_old (fnd_lt hB ho)]; rfl)) ?_
    · rw [moU]
      exact St.grp.2 (St.pr (p := ([vs o2] : List Value).length = 1 ∧ vrP s2 (fld n0 s0 i)) ⟨rfl, hvp⟩ h7)
  · cases h
theorem cs_vf1 {k : Sg → Option R} {ti : TI} (hT : TTok P cf.tt) (hti : tyA cf t = some ti) {o n i j E : Nat} {s s1 : Ty} {z : s.D} {f : Fl s.D} {X : s.D → Od} {rest : Value → List MF}
    (hX : ∀ vs z, moF vs (o, X z) = mGrp (mPr ((hvW (vs o)).length = 1 ∧ vrP s1 (fld n s j)) :: mP (cHo s.rep (offL (fld n s j)) (putL s1 (fld n s j) []) (hvW (vs o))) E (outW (vs o)) (z, 0) :: rest (vs o)))
    (hx : opv cx σ x = some (.vf o s n i)) (ho : fndO σ.ob o = some (X z)) (hij : i ≠ j) (hf : fld n s i = some f) (h : grd (Ty.same f.f ti.ty).isSome (asD (opv cx σ y) f.f fun y => nm (f.set y z) fun z => k ⟨σ.nx, σ.rg, seto σ.ob o (X z)⟩) = some r) :
    MOK P cx ⟨none, .store t x y, ty, pos, aft, g⟩ σ k r := by
  obtain ⟨zero, hty, _⟩ := ty_of hT hti
  obtain ⟨hg, h⟩ := grd_s h
  have htq := same_t hg
  obtain ⟨q, h2, hq⟩ := asO_s h
  obtain ⟨z2, hz2, h⟩ := nm_s h2
  refine ⟨_, h, Nat.le_refl _, fun fr vs env w hR => ?_⟩
  obtain ⟨hB, hst⟩ := hR
  obtain ⟨S0, _, hΓ⟩ := hst.ex
  have h0 := os_out ho hst
  rw [hX] at h0
  obtain ⟨⟨hl, hvp⟩, h1⟩ := St.unpr (St.grp.1 h0)
  obtain ⟨b, hb, h2⟩ := h1.openP 0 rfl
  obtain ⟨b', f', hb', hf', hxe⟩ := opv_hold hx (gs_lko hΓ x)
  obtain rfl : b' = b := by rw [hb] at hb'; cases hb'; rfl
  rw [hf] at hf'; cases hf'
  rw [← htq] at hty
  refine (og_storeM (e := cHo s.rep (offL (fld n s j)) (putL s1 (fld n s j) []) (hvW (vs o))) (f := f.f.rep) (z' := f.get z) (y' := q) (up := fun y => (f.set y z, 0)) 0 rfl (hxe.trans (by rw [Nat.zero_add])) rfl (sub_oth hvp hf hij) hty (fun S w ha => hq P vs env S w (gs_lko ha y)) w h2).mono ?_
  rintro v w' ⟨_, rfl, _, hs'⟩
  refine rel_set (vs := vs) hB ho (os_back ho ?_)
  have hs2 := hs'.toP 0 rfl
  rw [← hb] at hs2
  rw [hX, hz2]
  exact St.grp.2 (St.pr (p := (hvW (vs o)).length = 1 ∧ vrP s1 (fld n s j)) ⟨hl, hvp⟩ hs2)
theorem cs_dz {k : Sg → Option R} {ti : TI} (hT : TTok P cf.tt) (hti : tyA cf t = some ti) {o n2 i2 : Nat} {t2 : Ty} {y2 : t2.D} (hx : opv cx σ x = some (.mw o)) (hy : opv cx σ y = some (.dz t2 y2 n2 i2)) (h : coStore σ ti.ty (opv cx σ x) (opv cx σ y) k = some r) :
    MOK P cx ⟨none, .store t x y, ty, pos, aft, g⟩ σ k r := by
  obtain ⟨zero, hty, _⟩ := ty_of hT hti
  rw [hx, hy] at h
  simp only [coStore] at h
  split at h
  · next s1 E s2 E1 n j z xs ho =>
    obtain ⟨hg, h0⟩ := grd_s h
    rw [Bool.and_eq_true, Bool.and_eq_true] at hg
    obtain rfl := beq_t hg.1
    obtain rfl := beq_t hg.2.1
    have htq := same_t hg.2.2
    obtain ⟨hss, h01⟩ := cast_s h0
    subst hss
    refine ⟨_, h01, Nat.le_succ _, fun fr vs env w hR => ?_⟩
    obtain ⟨hB, hst⟩ := hR
    obtain ⟨S0, _, hΓ⟩ := hst.ex
    have hxe : ev env x = outW (vs o) := opv_hold hx (gs_lko hΓ x)
    obtain ⟨_, f, hf, hnil⟩ := opv_hold hy (gs_lko hΓ y)
    obtain ⟨⟨hl, hvp⟩, h1⟩ := St.unpr (St.grp.1 (os_out ho hst))
    have h1 : St fr.we fr.Se (mP (cHo t2.rep (offL (fld n2 t2 i2)) (putL s2 (fld n2 t2 i2) []) (hvW (vs o))) E (outW (vs o)) (z, 0) :: mO s2.rep E1 ((hvW (vs o)).headD undef) xs :: OS vs fr cx (delo σ.ob o)) (GS P vs env fr cx σ) w := h1
    have h1 : St fr.we fr.Se (mP (cHo t2.rep (offL (fld n2 t2 i2)) (putL s2 (fld n2 t2 i2) []) (hvW (vs o))) E (outW (vs o)) (z, 0) :: OS vs fr cx (delo σ.ob o)) (GS P vs env fr cx σ) w := St.drop (i := 1) h1
    obtain ⟨b, hb, h2⟩ := h1.openP 0 rfl
    have h3 := h2.conv (i := 0) (m := mB (cHo t2.rep (offL (fld n2 t2 i2)) (putL s2 (fld n2 t2 i2) []) (hvW (vs o))) E b (z, 0)) (m' := mB (eRw t2.rep.n t2.rep.agg t2.rep.n1).c E b none) rfl rfl fun S hp => by
      obtain ⟨cs, g1, g2⟩ := hp
      exact ⟨cs, g1, ho_raw g2⟩
    rw [htq] at hty
    refine (og_storeM (e := (eRw t2.rep.n t2.rep.agg t2.rep.n1).c) (f := eRw t2.rep.n t2.rep.agg t2.rep.n1) (z' := none) (y' := some (ev env y).cells.toList) (up := id) 0 rfl (hxe.trans hb) rfl (Sub.self _ _) hty (fun S w ha => fV_raw (opv_hold hy (gs_lko ha y)).1) w h3).mono ?_
    rintro v w' ⟨_, rfl, _, hs'⟩
    have h4 : St fr.we fr.Se (mB (eRw t2.rep.n t2.rep.agg t2.rep.n1).c E b (some (ev env y).cells.toList) :: OS vs fr cx (delo σ.ob o)) (GS P vs env fr cx σ) w' := hs'
    obtain ⟨off, gt, st, hfo⟩ := hvp
    rw [hfo] at hf; cases hf
    have h5 := h4.grow (i := 0) (m := mB (eRw t2.rep.n t2.rep.agg t2.rep.n1).c E b (some (ev env y).cells.toList)) (m' := mB (cHo t2.rep off (st ([] : List s2.D)) [.slice none 0 0]) E b (y2, 0)) rfl (Keeps.refl _ _) (fun k hk => .inl hk) fun S _ hp ha => by
      obtain ⟨cs, g1, _, _, g2⟩ := hp
      refine ⟨cs, g1, ?_⟩
      rw [g2 _ rfl]
      exact ho_in hfo (fV_cells (opv_hold hy (gs_lko ha y)).1) hnil rfl
    have h6 := h5.toP 0 rfl
    rw [← hb] at h6
    have h7 : St fr.we fr.Se (mP (cHo t2.rep off (st ([] : List s2.D)) [.slice none 0 0]) E (outW (vs o)) (y2, 0) :: mO s2.rep E1 (.slice none 0 0) [] :: OS vs fr cx (delo σ.ob o)) (GS P vs env fr cx σ) w' := (St.nilO (e := s2.rep) (E := E1) h6).perm (List.Perm.swap ..)
    refine rel_ren (o := o) (u := tupW (outW (vs o)) [.slice none 0 0]) hB rfl (fun e he => hB.o1 e (delo_mem e he)) (hrg_renM (by rw [upv_new, upv_old (fnd_lt hB ho)]; rfl)) ?_
    · rw [moU]
      refine St.grp.2 (St.pr (p := ([.slice none 0 0] : List Value).length = 1 ∧ vrP s2 (fld n2 t2 i2)) ⟨rfl, _, _, _, hfo⟩ ?_)
      show St _ _ (mP (cHo t2.rep (offL (fld n2 t2 i2)) (putL s2 (fld n2 t2 i2) []) [.slice none 0 0]) E (outW (vs o)) (y2, 0) :: mO s2.rep E1 (.slice none 0 0) [] :: _) _ _
      rw [hfo, show putL s2 (some ⟨off, .l s2, gt, st⟩) ([] : List s2.D) = st ([] : List s2.D) from funext fun z => putL_st]
      exact h7
  · cases h
theorem co_store (hT : TTok P cf.tt) {k : Sg → Option R} {ti : TI} (hti : tyA cf t = some ti) (h : coStore σ ti.ty (opv cx σ x) (opv cx σ y) k = some r) : MOK P cx ⟨none, .store t x y, ty, pos, aft, g⟩ σ k r := by
  have h0 := h
  unfold coStore at h
  split at h
  · next o e r j f hx => exact cs_rp hT hti hx h0
  · next o s0 n0 i o2 hx hy => exact cs_vo hT hti hx hy h0
  · next o s0 n0 i hx _ =>
    split at h
    · next s1 E s2 E1 n j z ys ho =>
      obtain ⟨hg, h1⟩ := grd_s h
      rw [Bool.and_eq_true] at hg
      obtain rfl := beq_t hg.1
      obtain rfl := same_t hg.2
      obtain ⟨hij, f, hf, h2⟩ := oth_s h1
      exact cs_vf1 hT hti (X := fun z => .vr s0 E s2 E1 n0 j z ys) (rest := fun u => [mO s2.rep E1 ((hvW u).headD undef) ys]) (fun _ _ => rfl) hx ho hij hf h2
    · next s1 E s2 E1 n j z ho =>
      obtain ⟨hg, h1⟩ := grd_s h
      rw [Bool.and_eq_true] at hg
      obtain rfl := beq_t hg.1
      obtain rfl := same_t hg.2
      obtain ⟨hij, f, hf, h2⟩ := oth_s h1
      exact cs_vf1 hT hti (X := fun z => .vh s0 E s2 E1 n0 j z) (rest := fun _ => []) (fun _ _ => rfl) hx ho hij hf h2
    · cases h
  · next o j o' r hx hy => exact cs_hr hT hti hx hy h0
  · next o j o2 hx hy => exact cs_ho hT hti hx hy h0
  · next o t2 y2 n2 i2 hx hy => exact cs_dz hT hti hx hy h0
  · next o o2 hx hy => exact cs_bo hT hti hx hy h0
  · cases h
theorem delo_comm : ∀ {ob : List (Nat × Od)} {o p : Nat}, o ≠ p → delo (delo ob o) p = delo (delo ob p) o
  | [], _, _, _ => rfl
  | (q, X) :: r, o, p, h => by
    have ih := delo_comm (ob := r) h
    cases h1 : Nat.beq q o
    · cases h2 : Nat.beq q p
      · simp only [delo, h1, h2, cond_false]; rw [ih]
      · simp only [delo, h1, h2, cond_false, cond_true]
    · cases h2 : Nat.beq q p
      · simp only [delo, h1, h2, cond_false, cond_true]
      · have := (beq_t h1).symm.trans (beq_t h2)
        exact absurd this h
theorem elems_hdR {S : Nat → Prop} {w : World} {hv hv' : List Value} : ∀ {ix : List Nat} {cs : List Value}, Elems (eHd hv') S ix cs w → Elems (eHd (hv ++ hv')) S (ix.map (hv.length + ·)) cs w
  | [], _, h => h
  | r :: ix, cs, ⟨c, q, h1, ⟨u, h2, h3, h4⟩, h5⟩ => ⟨c, q, h1, ⟨u, by show (hv ++ hv')[hv.length + r]? = some u; rw [List.getElem?_append_right (Nat.le_add_right _ _), Nat.add_sub_cancel_left]; exact h2, h3, h4⟩, elems_hdR h5⟩
theorem mRows_app {α : Type} {e : ERep α} {E : TypeId} : ∀ {hv hv' : List Value} {xss yss : List (List α)}, hv.length = xss.length → mRows e E (hv ++ hv') (xss ++ yss) = mRows e E hv xss ++ mRows e E hv' yss
  | [], _, [], _, _ => rfl
  | u :: hv, hv', xs :: xss, yss, h => by
    show mO e E u xs :: mRows e E (hv ++ hv') (xss ++ yss) = mO e E u xs :: (mRows e E hv xss ++ mRows e E hv' yss)
    rw [mRows_app (by simpa using h)]
  | [], _, _ :: _, _, h => by cases h
  | _ :: _, _, [], _, h => by cases h
theorem co_app (hT : TTok P cf.tt) {ags : Array Operand} {ts : Array TypeId} {k : Sg → Option R} (hd : okPut cx d = true) (h : coApp cf cx σ d ags.toList ts.toList k = some r) :
    MOK P cx ⟨d, .call ⟨.builtin .append, ags, ts⟩, ty, pos, aft, g⟩ σ k r := by
  unfold coApp at h
  split at h
  · next _ _ x y t t' hags hts =>
    obtain rfl : ags = #[x, y] := by cases ags; simp_all
    obtain rfl : ts = #[t, t'] := by cases ts; simp_all
    split at h
    · next s E B o p ht hx hy =>
      obtain ⟨hg, h6⟩ := grd_s h
      rw [Bool.and_eq_true] at hg
      obtain ⟨htt, hne⟩ := hg
      obtain rfl := beq_t htt
      rw [Bool.not_eq_true'] at hne
      clear h
      split at h6
      · next q1 q2 B1 s1 E1 F1 xss ix s2 E2 F2 yss iy hti ho hp =>
        obtain ⟨hg, h1⟩ := grd_s h6
        simp only [Bool.and_eq_true] at hg
        obtain ⟨hE1, hE2, hF⟩ := hg
        have hE1 := beq_t hE1
        have hE2 := beq_t hE2
        have hF := beq_t hF
        subst hE1
        subst hE2
        subst hF
        obtain ⟨hss, h2⟩ := cast_s h1
        cases hss
        obtain ⟨hb, h3⟩ := ck_s h2
        obtain ⟨zss, hz, h4⟩ := nm_s h3
        obtain ⟨iz, hi, h5⟩ := nm_s h4
        have hty := ty_nil hT hti rfl
        have hpos := (hT _ _ hti).2.1
        refine ⟨_, h5, Nat.le_succ _, fun fr vs env w hR => ?_⟩
        obtain ⟨hB, hst⟩ := hR
        obtain ⟨S0, _, hΓ⟩ := hst.ex
        have hxe : ev env x = outW (vs o) := opv_hold hx (gs_lko hΓ x)
        have hye : ev env y = outW (vs p) := opv_hold hy (gs_lko hΓ y)
        have hop := os_out2 hne ho hp hst
        obtain ⟨hl1, hg1⟩ := mt_out hop
        have hop2 : St fr.we fr.Se (moF vs (p, .mat s1 E2 F1 yss iy) :: ((mO (eHd (hvW (vs o))) E2 (outW (vs o)) ix :: mRows s1.rep F1 (hvW (vs o)) xss) ++ OS vs fr cx (delo (delo σ.ob o) p))) (GS P vs env fr cx σ) w := hg1.perm List.perm_middle
        obtain ⟨hl2, hg2⟩ := mt_out hop2
        have hg3 : St fr.we fr.Se (mO (eHd (hvW (vs o))) E2 (outW (vs o)) ix :: mO (eHd (hvW (vs p))) E2 (outW (vs p)) iy :: (mRows s1.rep F1 (hvW (vs o)) xss ++ mRows s1.rep F1 (hvW (vs p)) yss ++ OS vs fr cx (delo (delo σ.ob o) p))) (GS P vs env fr cx σ) w := by
          refine hg2.perm ?_
          simp only [List.cons_append, List.append_assoc]
          refine (List.Perm.cons _ List.perm_middle).trans ((List.Perm.swap ..).trans ?_)
          refine List.Perm.cons _ (List.Perm.cons _ ?_)
          exact (List.perm_append_comm_assoc ..)
        have hg4 := hg3.conv (i := 0) (m := mO (eHd (hvW (vs o))) E2 (outW (vs o)) ix) (m' := mO (eHd (hvW (vs o) ++ hvW (vs p))) E2 (outW (vs o)) ix) rfl rfl fun S hq => mO_more hq
        have bnd : ∀ m, m * B1 ≤ 140737488355328 → m ≤ 9223372036854775807 := fun m hm => by
          have hpos : 0 < B1 := hpos
          have := Nat.le_mul_of_pos_right m hpos
          omega
        have hlen : (iy.map (List.length xss + ·)).length = iy.length := List.length_map _
        refine (og_appendQ (e := eHd (hvW (vs o) ++ hvW (vs p))) (ys := iy.map (List.length xss + ·)) 0 (tk_sl hT ht) hty rfl Nat.zero_lt_one rfl hxe hye (fun S w hM ha => ?_) (bnd _ (by rw [hlen]; exact hb)) (by rw [hlen]; exact hb) w hg4).mono ?_
        · have hm : (mO (eHd (hvW (vs p))) E2 (outW (vs p)) iy).p S w := hM.2.1
          have hm2 : (mO (eHd (hvW (vs o) ++ hvW (vs p))) E2 (outW (vs p)) (iy.map (List.length xss + ·))).p S w := by
            obtain ⟨cs, a1, a2⟩ := hm
            refine ⟨cs, by rw [hlen]; exact a1, ?_⟩
            rw [← hl1]
            exact elems_hdR a2
          rcases mo_shape hm2 with ⟨hv, hnil⟩ | ⟨b, cap, hv, hc1, hc2⟩
          · rw [hv, hnil]
            exact ⟨none, 0, rfl, Nat.le_refl _, Nat.zero_le _, .inl rfl⟩
          · have h6 := mo_view hm2 hv (l := 0) (n := (iy.map (List.length xss + ·)).length) (c := cap) (by omega) hc1 hc2
            rw [List.drop_zero, List.take_length] at h6
            rw [hv]
            simpa using h6
        rintro v w' ⟨v', rfl, _, hs⟩
        refine rel_new2 (vs := vs) (mk := .mw) (u := tupW v (hvW (vs o) ++ hvW (vs p))) hB hd (delo2_lt hB) (fun _ => rfl) (fun S w => by simp only [hold, upv_new]; rfl) ?_
        rw [moU, hz, hi]
        have h7 : St fr.we fr.Se (mO (eHd (hvW (vs o) ++ hvW (vs p))) E2 v (ix ++ iy.map (List.length xss + ·)) :: mO (eHd (hvW (vs p))) E2 (outW (vs p)) iy :: (mRows s1.rep F1 (hvW (vs o)) xss ++ mRows s1.rep F1 (hvW (vs p)) yss ++ OS vs fr cx (delo (delo σ.ob o) p))) (GS P vs env fr cx σ) w' := hs
        have h8 := St.drop (i := 1) h7
        refine mt_in (u := tupW v (hvW (vs o) ++ hvW (vs p))) (by show (hvW (vs o) ++ hvW (vs p)).length = (xss ++ yss).length; simp [hl1, hl2]) ?_
        show St _ _ ((mO (eHd (hvW (vs o) ++ hvW (vs p))) E2 v _ :: mRows s1.rep F1 (hvW (vs o) ++ hvW (vs p)) (xss ++ yss)) ++ _) _ _
        rw [mRows_app hl1]
        exact h8
      · cases h6
    · cases h
  · cases h
theorem co_strike (hX : XOK P cf) {s : MSig} {f : Operand} {ags : Array Operand} {ts : Array TypeId} {k : Sg → Option R} (hd : okPut cx d = true) (hf : opv cx σ f = some (.fn s.f [])) (hs : s ∈ cf.ms) (h : coStrike cx σ d s ags.toList k = some r) :
    MOK P cx ⟨d, .call ⟨.value f, ags, ts⟩, ty, pos, aft, g⟩ σ k r := by
  obtain ⟨hb, hok⟩ := hX.ms s hs
  unfold coStrike at h
  split at h
  · next _ x a p y hags =>
    obtain rfl : ags = #[x, a, p, y] := by cases ags; simp_all
    split at h
    · next o r0 av pv o' lo n hx ha hp hy =>
      obtain ⟨ho', h6⟩ := grd_s h
      obtain rfl := beq_t ho'
      clear h
      split at h6
      · next s1 E E1 xss ix ho =>
        obtain ⟨hg, h1⟩ := grd_s h6
        rw [Bool.and_eq_true] at hg
        have hE := beq_t hg.1
        have hE1 := beq_t hg.2
        obtain ⟨hss, h2⟩ := cast_s h1
        cases hss
        obtain ⟨zss, hz, h3⟩ := bd_s h2
        refine ⟨_, h3, Nat.le_succ _, fun fr vs env w hR => ?_⟩
        obtain ⟨hB, hst⟩ := hR
        obtain ⟨S0, _, hΓ⟩ := hst.ex
        have hxe : (hvW (vs o))[r0]? = some (ev env x) := opv_hold hx (gs_lko hΓ x)
        have hae := pd_i ha (gs_lko hΓ a)
        have hpe := pd_i hp (gs_lko hΓ p)
        have hye : MvV (outW (vs o)) lo n (ev env y) := opv_hold hy (gs_lko hΓ y)
        obtain ⟨cvs, hv, hcl, hca⟩ := opv_hold hf (gs_lko hΓ f)
        obtain rfl : cvs = [] := List.length_eq_zero_iff.1 hcl
        have hop := os_out ho hst
        rw [hE, hE1] at hop
        have hcall := hok xss ix r0 av pv lo n zss hz (vs o) (ev env x) (ev env y) hxe hye hae.2 hpe.2 fr.we fr.Se _ _ w hop
        have hrun : (execOp (ev env) ⟨d, .call ⟨.value f, #[x, a, p, y], ts⟩, ty, pos, aft, g⟩).run P w = .ok (.enter s.f #[ev env x, .int .i64 av, .int .i64 pv, ev env y]) w := by
          simp [execOp, resolve, hv, Deferred.ofValue, invoke, run_callFunc hb, hae.1, hpe.1]
        unfold OpR
        rw [hrun]
        refine hcall.mono ?_
        rintro e w' ⟨v, u', rfl, hu, hs'⟩
        refine ⟨v, rfl, rel_ren (o := o) (u := u') hB hd (fun e he => hB.o1 e (delo_mem e he)) (hrg_renM (by rw [upv_new, upv_old (fnd_lt hB ho)]; exact hu)) ?_⟩
        rw [moU]
        show St _ _ (mMt s.t.rep E E1 u' zss ix :: _) _ _
        rw [hE, hE1]
        exact hs'
      · cases h6
    · cases h
  · cases h
theorem co_lend (hX : XOK P cf) {s : VSig} {f : Operand} {ags : Array Operand} {ts : Array TypeId} {k : Sg → Option R} (hd : okPut cx d = true) (hf : opv cx σ f = some (.fn s.f [])) (hs : s ∈ cf.vg) (h : coLend cx σ d s ags.toList k = some r) :
    MOK P cx ⟨d, .call ⟨.value f, ags, ts⟩, ty, pos, aft, g⟩ σ k r := by
  obtain ⟨hb, hok⟩ := hX.vg s hs
  unfold coLend at h
  split at h
  · next _ x xs hags =>
    obtain rfl : ags = (x :: xs).toArray := by cases ags; simp_all
    split at h
    · next o hx =>
      split at h
      · next t1 E1 s1 F1 n1 i1 z ys ho =>
        obtain ⟨hg, h1⟩ := grd_s h
        simp only [Bool.and_eq_true] at hg
        obtain ⟨g1, g2, g3, g4⟩ := hg
        have g1 := beq_t g1
        have g2 := beq_t g2
        have g3 := beq_t g3
        have g4 := beq_t g4
        obtain ⟨e1, h2⟩ := cast_s h1
        subst e1
        obtain ⟨e2, h3⟩ := cast_s h2
        cases e2
        obtain ⟨y, h4, hlen, hy⟩ := argsT_s h3
        obtain ⟨q, hq, h5⟩ := bd_s h4
        subst g1 g2 g3 g4
        refine ⟨_, h5, Nat.le_succ _, fun fr vs env w hR => ?_⟩
        obtain ⟨hB, hst⟩ := hR
        obtain ⟨S0, _, hΓ⟩ := hst.ex
        have hxe : ev env x = outW (vs o) := opv_hold hx (gs_lko hΓ x)
        obtain ⟨cvs, hv, hcl, hca⟩ := opv_hold hf (gs_lko hΓ f)
        obtain rfl : cvs = [] := List.length_eq_zero_iff.1 hcl
        have hop : St fr.we fr.Se (vrD s z ys (vs o) :: OS vs fr cx (delo σ.ob o)) (tsF s.dom y (xs.map (ev env)) ++ GS P vs env fr cx σ) w := (os_out ho hst).weak fun S w hΓ => All.append (hy P vs env S w fun x _ => gs_lko hΓ x) hΓ
        have hcall := hok z ys y q hq (vs o) (xs.map (ev env)) (by simpa using hlen) fr.we fr.Se _ _ w hop
        have hrun : (execOp (ev env) ⟨d, .call ⟨.value f, (x :: xs).toArray, ts⟩, ty, pos, aft, g⟩).run P w = .ok (.enter s.f (outW (vs o) :: xs.map (ev env)).toArray) w := by
          simp [execOp, resolve, hv, Deferred.ofValue, invoke, run_callFunc hb, hxe]
        unfold OpR
        rw [hrun]
        refine hcall.mono ?_
        rintro e w' ⟨v, u', rfl, hu, hs'⟩
        refine ⟨v, rfl, rel_ren (o := o) (u := u') hB hd (fun e he => hB.o1 e (delo_mem e he)) (hrg_renM (by rw [upv_new, upv_old (fnd_lt hB ho)]; exact hu)) ?_⟩
        rw [moU]
        exact hs'
      · cases h
    · cases h
  · cases h
theorem renY_mem {o n : Nat} : ∀ {rg : List (Nat × Nat × Dv)}, ∀ e ∈ renY o n rg, e ∈ rg ∨ ∃ e' ∈ rg, ∃ p, e'.2.2 = .yd p ∧ e = (e'.1, e'.2.1, bif Nat.beq p o then .yd n else .yd p)
  | [], e, he => absurd he List.not_mem_nil
  | (t, i, v) :: rg, e, he => by
    have ih : ∀ e ∈ renY o n rg, e ∈ (t, i, v) :: rg ∨ ∃ e' ∈ (t, i, v) :: rg, ∃ p, e'.2.2 = .yd p ∧ e = (e'.1, e'.2.1, bif Nat.beq p o then .yd n else .yd p) := fun e he => by
      rcases renY_mem e he with h | ⟨e', h1, p, h2, h3⟩
      · exact .inl (List.mem_cons_of_mem _ h)
      · exact .inr ⟨e', List.mem_cons_of_mem _ h1, p, h2, h3⟩
    cases v with
    | yd p =>
      rcases List.mem_cons.1 (show e ∈ (t, i, bif Nat.beq p o then Dv.yd n else .yd p) :: renY o n rg from he) with rfl | he
      · exact .inr ⟨_, List.mem_cons_self .., p, rfl, rfl⟩
      · exact ih e he
    | _ =>
      rcases List.mem_cons.1 he with rfl | he
      · exact .inl (List.mem_cons_self ..)
      · exact ih e he
theorem co_yield (hX : XOK P cf) {o : Nat} {f : Operand} {ags : Array Operand} {ts : Array TypeId} {k : Sg → Option R} (hd : okPut cx d = true) (hf : opv cx σ f = some (.yd o)) (h : coYield cx σ d o ags.toList k = some r) :
    MOK P cx ⟨d, .call ⟨.value f, ags, ts⟩, ty, pos, aft, g⟩ σ k r := by
  unfold coYield at h
  split at h
  · next _ x hags =>
    obtain rfl : ags = #[x] := by cases ags; simp_all
    split at h
    · next p hx =>
      obtain ⟨hne, h⟩ := grd_s h
      rw [Bool.not_eq_true'] at hne
      split at h
      · next t E X Y mX mY gg z s E2 ys ho hp =>
        obtain ⟨hE, h1⟩ := grd_s h
        have hE := beq_t hE
        subst hE
        obtain ⟨hss, h2⟩ := cast_s h1
        cases hss
        obtain ⟨q, hq, h3⟩ := bd_s h2
        have main : ∀ (fr : Fr) (vs : Nat → Value) (env : Env) (w : World), RelV P fr cx σ vs env w → OpR P ⟨d, .call ⟨.value f, #[x], ts⟩, ty, pos, aft, g⟩ env w fun v w' => v = .bool q.2.isLeft ∧ Bd cx σ ∧ YSpec P (lOf (outW (vs o))) t.rep E2 mX mY gg ∧
            ∃ u', St fr.we fr.Se (Sum.elim (fun x => mX x u') (fun y => mY y u') q.2 :: mO t.rep E2 (vs p) q.1 :: OS vs fr cx (delo (delo σ.ob o) p)) (GS P vs env fr cx σ) w' := by
          intro fr vs env w hR
          obtain ⟨hB, hst⟩ := hR
          obtain ⟨S0, _, hΓ⟩ := hst.ex
          have hxe : ev env x = vs p := opv_hold hx (gs_lko hΓ x)
          have hfe : ev env f = .func (.yield (lOf (outW (vs o)))) #[] #[] := opv_hold hf (gs_lko hΓ f)
          have hop := os_out2 hne ho hp hst
          obtain ⟨hY, h4⟩ := St.unpr (St.grp.1 hop)
          rw [← hX.pp] at hY
          have h4 : St fr.we fr.Se (mX z ((hvW (vs o)).headD undef) :: mO t.rep E2 (vs p) ys :: OS vs fr cx (delo (delo σ.ob o) p)) (GS P vs env fr cx σ) w := h4
          obtain ⟨fn, tmps, as', bd', hy, hR⟩ := hY ys z q.1 q.2 hq (vs p) _ _ _ _ _ w h4
          have hrun : (execOp (ev env) ⟨d, .call ⟨.value f, #[x], ts⟩, ty, pos, aft, g⟩).run P w = .ok (.round (lOf (outW (vs o))) fn tmps as' bd') w := by
            rw [← hxe] at hy
            simp [execOp, resolve, hfe, Deferred.ofValue, invoke, hy]
          unfold OpR
          rw [hrun]
          exact hR.mono fun e w' ⟨h5, h6⟩ => ⟨_, h5, rfl, hB, hY, h6⟩
        have fin : ∀ (X' : Od) (b : Bool) (u' : Value) (vs : Nat → Value) (fr : Fr) (env : Env) (w' : World), Bd cx σ → St fr.we fr.Se (moF (upv vs σ.nx (tupW (outW (vs o)) [u'])) (σ.nx, X') :: mO t.rep E2 (vs p) q.1 :: OS vs fr cx (delo (delo σ.ob o) p)) (GS P vs env fr cx σ) w' →
            RelX P fr cx σ.nx vs ⟨σ.nx + 1, renY o σ.nx (putR σ.rg d [(0, .kb b)]), (σ.nx, X') :: delo (seto σ.ob p (.own t E2 q.1)) o⟩ (put env d (.bool b)) w' := by
          intro X' b u' vs fr env w' hB hs
          have hnp : p ≠ o := fun e => by subst e; simp at hne
          have hlt := fnd_lt hB ho
          have ho2 : fndO (delo σ.ob o) p = some (.own t E2 ys) := by rw [fndO_delo hnp]; exact hp
          have hs2 : St fr.we fr.Se (moF (upv vs σ.nx (tupW (outW (vs o)) [u'])) (σ.nx, X') :: OS vs fr cx (delo (seto σ.ob p (.own t E2 q.1)) o)) (GS P vs env fr cx σ) w' := by
            have h7 := os_perm (vs := vs) (fr := fr) (cx := cx) (ob := delo (seto σ.ob p (.own t E2 q.1)) o) (o := p) (X := .own t E2 q.1) (by rw [fndO_delo hnp]; exact (seto_fnd hp).1)
            have h8 : delo (delo (seto σ.ob p (.own t E2 q.1)) o) p = delo (delo σ.ob o) p := by
              rw [delo_comm (fun e => hnp e.symm), (seto_fnd hp).2, delo_comm (fun e => hnp e)]
            rw [h8] at h7
            exact hs.perm (h7.symm.cons _)
          obtain ⟨hb2, hs3⟩ : RelV P fr cx ⟨σ.nx + 1, putR σ.rg d [(0, .kb b)], (σ.nx, X') :: delo (seto σ.ob p (.own t E2 q.1)) o⟩ (upv vs σ.nx (tupW (outW (vs o)) [u'])) (put env d (.bool b)) w' := by
            have hob : ∀ e ∈ delo (seto σ.ob p (.own t E2 q.1)) o, e.1 < σ.nx := fun e he => by
              obtain ⟨e1, g1, g2⟩ := seto_mem hp e (delo_mem e he)
              rw [← g2]; exact hB.o1 e1 g1
            refine relV_mk (σ' := ⟨σ.nx + 1, putR σ.rg d [(0, .kb b)], (σ.nx, X') :: delo (seto σ.ob p (.own t E2 q.1)) o⟩) (l := [(0, .kb b)]) (vs := vs) (Γl := []) hB hd rfl (Nat.le_succ _) (fun o ho => upv_old ho) (fun e he p hp => ?_) (fun e he => ?_) (fun S w _ e he => ?_) ?_
            · obtain rfl := List.mem_singleton.1 he
              cases hp
            · rcases List.mem_cons.1 he with rfl | he
              · exact Nat.lt_succ_self _
              · exact Nat.lt_succ_of_lt (hob e he)
            · obtain rfl := List.mem_singleton.1 he
              exact rfl
            · show St _ _ (moF (upv vs σ.nx _) (σ.nx, X') :: OS (upv vs σ.nx _) fr cx (delo (seto σ.ob p (.own t E2 q.1)) o)) _ _
              rw [os_upv hB hob]
              exact hs2
          refine ⟨_, fun o ho => upv_old ho, ⟨hb2.o1, hb2.o2, fun e he r hr => ?_, hb2.r2⟩, hs3.weak fun S w h => All.append (all_mem.2 fun f hf => ?_) (All.right h)⟩
          · rcases renY_mem e he with h | ⟨e', h1, r', h2, rfl⟩
            · exact hb2.r1 e h r hr
            · cases hb : Nat.beq r' o <;> simp only [hb, cond_true, cond_false] at hr
              · exact hb2.r1 e' h1 r (by rw [h2]; exact hr)
              · cases hr; exact Nat.lt_succ_self _
          · obtain ⟨e, he, rfl⟩ := List.mem_map.1 hf
            rcases renY_mem e he with h' | ⟨e', h1, r', h2, rfl⟩
            · exact rs_get (All.left h) h'
            · have h5 := rs_get (All.left h) (t := e'.1) (i := e'.2.1) (d := e'.2.2) h1
              rw [h2] at h5
              refine holdC_map h5 fun u hu => ?_
              cases hb : Nat.beq r' o
              · exact hu
              · have hu : u = .func (.yield (lOf (outW (upv vs σ.nx (tupW (outW (vs o)) [u']) r')))) #[] #[] := hu
                rw [beq_t hb, upv_old hlt] at hu
                show u = .func (.yield (lOf (outW (upv vs σ.nx (tupW (outW (vs o)) [u']) σ.nx)))) #[] #[]
                rw [upv_new]; exact hu
        cases hq2 : q.2 with
        | inl z' =>
          rw [hq2] at h3
          refine ⟨_, h3, Nat.le_succ _, fun fr vs env w hR => (main fr vs env w hR).mono ?_⟩
          rintro v w' ⟨rfl, hB, hY, u', hs⟩
          rw [hq2] at hs ⊢
          refine fin _ true u' vs fr env w' hB ?_
          rw [moU]
          refine St.grp.2 ?_
          rw [← hX.pp]
          exact St.pr hY hs
        | inr y' =>
          rw [hq2] at h3
          refine ⟨_, h3, Nat.le_succ _, fun fr vs env w hR => (main fr vs env w hR).mono ?_⟩
          rintro v w' ⟨rfl, hB, hY, u', hs⟩
          rw [hq2] at hs ⊢
          refine fin _ false u' vs fr env w' hB ?_
          rw [moU]
          exact hs
      · cases h
    · cases h
  · cases h
end
end
section
section
variable {P : Program} {cf : Cf} {fr : Fr} {cx σ : Sg} {vs vs' : Nat → Value} {env : Env} {w : World} {R : Type} {r : R}
  {d : Option Tmp} {ty t yt : TypeId} {pos : String} {aft : Array Edge} {g : Option (Nat × Bool)} {x y : Operand}
theorem frzR_own {o : Nat} {s : Ty} {E : TypeId} {xs : List s.D} {S : Nat → Prop} (hf : (fV (eS s.rep) xs (vs o)).p S w) : ∀ {rg : List (Nat × Nat × Dv)}, All S (RS P vs env rg) w → All S (RS P vs env (frzR o (.own s E xs) rg)) w
  | [], _ => trivial
  | (t, i, v) :: rg, h => by
    refine ⟨?_, frzR_own hf h.2⟩
    have h1 : (holdC P vs v (env t) i).p S w := h.1
    show (holdC P vs (frz1 o (.own s E xs) v) (env t) i).p S w
    cases v <;> try exact h1
    rename_i o'
    unfold frz1
    cases hb : Nat.beq o' o <;> simp only [hb, cond_false, cond_true]
    · exact h1
    · have := beq_t hb
      subst this
      refine holdC_map h1 fun u hu => ?_
      rw [show u = vs o' from hu]; exact hf
theorem frzR_var {o : Nat} {s : Ty} {E : TypeId} {z : s.D} {S : Nat → Prop} (hf : (fP s.rep z (vs o)).p S w) : ∀ {rg : List (Nat × Nat × Dv)}, All S (RS P vs env rg) w → All S (RS P vs env (frzR o (.var s E z) rg)) w
  | [], _ => trivial
  | (t, i, v) :: rg, h => by
    refine ⟨?_, frzR_var hf h.2⟩
    have h1 : (holdC P vs v (env t) i).p S w := h.1
    show (holdC P vs (frz1 o (.var s E z) v) (env t) i).p S w
    cases v <;> try exact h1
    rename_i o' s'
    unfold frz1
    cases hb : Nat.beq o' o <;> simp only [hb, cond_false, cond_true]
    · exact h1
    · have := beq_t hb
      subst this
      refine holdC_map h1 fun u hu => ?_
      rw [show u = vs o' from hu.1]; exact hf
theorem frzR_mat {o : Nat} {s : Ty} {E E1 : TypeId} {xss : List (List s.D)} {ix : List Nat} {S : Nat → Prop} (hf : (fV (eS (eS s.rep)) (matD xss ix) (outW (vs o))).p S w) : ∀ {rg : List (Nat × Nat × Dv)}, All S (RS P vs env rg) w → All S (RS P vs env (frzR o (.mat s E E1 xss ix) rg)) w
  | [], _ => trivial
  | (t, i, v) :: rg, h => by
    refine ⟨?_, frzR_mat hf h.2⟩
    have h1 : (holdC P vs v (env t) i).p S w := h.1
    show (holdC P vs (frz1 o (.mat s E E1 xss ix) v) (env t) i).p S w
    cases v <;> try exact h1
    rename_i o'
    unfold frz1
    cases hb : Nat.beq o' o <;> simp only [hb, cond_false, cond_true]
    · exact h1
    · have := beq_t hb
      subst this
      refine holdC_map h1 fun u hu => ?_
      rw [show u = outW (vs o') from hu]; exact hf
theorem frzR_vr {o : Nat} {t s : Ty} {E E1 n i : Nat} {z : t.D} {xs : List s.D} {S : Nat → Prop} (hf : (fP t.rep (putL s (fld n t i) xs z) (outW (vs o))).p S w) : ∀ {rg : List (Nat × Nat × Dv)}, All S (RS P vs env rg) w → All S (RS P vs env (frzR o (.vr t E s E1 n i z xs) rg)) w
  | [], _ => trivial
  | (u, j, v) :: rg, h => by
    refine ⟨?_, frzR_vr hf h.2⟩
    have h1 : (holdC P vs v (env u) j).p S w := h.1
    show (holdC P vs (frz1 o (.vr t E s E1 n i z xs) v) (env u) j).p S w
    cases v <;> try exact h1
    rename_i o'
    unfold frz1
    cases hb : Nat.beq o' o <;> simp only [hb, cond_false, cond_true]
    · exact h1
    · have := beq_t hb
      subst this
      refine holdC_map h1 fun u hu => ?_
      rw [show u = outW (vs o') from hu]; exact hf
theorem frzR_oth {o : Nat} {X : Od} (hX : ∀ v, frz1 o X v = v) : ∀ {rg : List (Nat × Nat × Dv)}, frzR o X rg = rg
  | [] => rfl
  | (t, i, v) :: rg => by
    show (t, i, frz1 o X v) :: frzR o X rg = _
    rw [hX, frzR_oth hX]
theorem frz1_ref {o p : Nat} {X : Od} {v : Dv} (h : refO (frz1 o X v) = some p) : refO v = some p := by
  unfold frz1 at h
  split at h
  · next o' s E xs =>
    cases hb : Nat.beq o' o <;> rw [hb] at h
    · exact h
    · cases h
  · next o' t' s E z =>
    cases hb : Nat.beq o' o <;> rw [hb] at h
    · exact h
    · cases h
  · next o' s E E1 xss ix =>
    cases hb : Nat.beq o' o <;> rw [hb] at h
    · exact h
    · cases h
  · next o' t E s E1 n i z xs =>
    cases hb : Nat.beq o' o <;> rw [hb] at h
    · exact h
    · cases h
  · exact h
theorem frzR_ref {o : Nat} {X : Od} : ∀ {rg : List (Nat × Nat × Dv)}, ∀ e ∈ frzR o X rg, ∀ p, refO e.2.2 = some p → ∃ e' ∈ rg, refO e'.2.2 = some p
  | [], e, he => absurd he List.not_mem_nil
  | (t, i, v) :: rg, e, he => by
    intro p hp
    rcases List.mem_cons.1 he with rfl | he
    · refine ⟨(t, i, v), List.mem_cons_self .., ?_⟩
      exact frz1_ref hp
    · obtain ⟨e', h1, h2⟩ := frzR_ref e he p hp
      exact ⟨e', List.mem_cons_of_mem _ h1, h2⟩
theorem relV_frzO {o : Nat} (h : RelV P fr cx σ vs env w) : RelV P fr cx (frzO σ o) vs env w := by
  unfold frzO
  split
  · next X ho =>
    obtain ⟨hB, hst⟩ := h
    obtain ⟨i, hi, _, hdel⟩ := fndO_some ho
    have hB' : Bd cx ⟨σ.nx, frzR o X σ.rg, delo σ.ob o⟩ := ⟨fun e he => hB.o1 e (delo_mem e he), hB.o2, fun e he p hp => by obtain ⟨e', h1, h2⟩ := frzR_ref e he p hp; exact hB.r1 e' h1 p h2, hB.r2⟩
    refine ⟨hB', ?_⟩
    cases X with
    | own s E xs =>
      have hm : (OS vs fr cx σ.ob)[i]? = some (mO s.rep E (vs o) xs) := ms_idx hi
      have := fz_own i hst hm
      rw [ms_erase hi, ← hdel] at this
      exact this.weak fun S w ha => All.append (frzR_own ha.1 (All.left ha.2)) (All.right ha.2)
    | var s E z =>
      have hm : (OS vs fr cx σ.ob)[i]? = some (mP s.rep.c E (vs o) z) := ms_idx hi
      obtain ⟨b, hv, hs⟩ := hst.openP i hm
      have := fz_var (e := s.rep) i hs (get_set hm)
      rw [erase_set, ms_erase hi, ← hdel, ← hv] at this
      exact this.weak fun S w ha => All.append (frzR_var ha.1 (All.left ha.2)) (All.right ha.2)
    | mat s E E1 xss ix =>
      have h1 := os_out ho hst
      have h2 : St fr.we fr.Se (mMat s.rep E E1 (outW (vs o)) (hvW (vs o)) xss ix :: OS vs fr cx (delo σ.ob o)) (GS P vs env fr cx σ) w := St.grp.2 (mt_out h1).2
      exact (h2.mat_frz (mt_out h1).1).weak fun S w ha => All.append (frzR_mat ha.1 (All.left ha.2)) (All.right ha.2)
    | vr t E s E1 n i z xs =>
      have h1 := os_out ho hst
      have h2 := h1.freeze (i := 0) (F := fP t.rep (putL s (fld n t i) xs z) (outW (vs o))) rfl fun S S' hs hb hp => by
        obtain ⟨⟨⟨hl, hvp⟩, ⟨b, hv, cs, g1, g2⟩, hmo, _⟩, _⟩ := hp
        have g2 : (cHo t.rep (offL (fld n t i)) (putL s (fld n t i) []) (hvW (vs o))).p S (z, 0) cs.toList w := g2
        refine ⟨b, 0, cs.toList, hv, hb b ⟨_, List.mem_cons_of_mem _ (List.mem_cons_self ..), by show ptrBlk (outW (vs o)) = some b; rw [hv]; rfl⟩, At.row g1, ?_⟩
        obtain ⟨off, g', st, hf⟩ := hvp
        rw [hf] at g2 ⊢
        rw [show putL s (some ⟨off, .l s, g', st⟩) ([] : List s.D) = st ([] : List s.D) from funext fun z => putL_st] at g2
        rw [putL_st]
        exact ho_out hf g2 (by rw [hv_one hl]; rfl) hs (mO_slice hs (fun k hk => hb k ⟨_, List.mem_cons_of_mem _ (List.mem_cons_of_mem _ (List.mem_cons_self ..)), hk⟩) hmo)
      exact h2.weak fun S w ha => All.append (frzR_vr ha.1 (All.left ha.2)) (All.right ha.2)
    | vh t E s E1 n i z =>
      rw [frzR_oth (fun v => by cases v <;> rfl)]
      exact St.drop (i := 0) (os_out ho hst)
    | bo s E E0 xs =>
      rw [frzR_oth (fun v => by cases v <;> rfl)]
      exact St.drop (i := 0) (os_out ho hst)
    | ho E0 =>
      rw [frzR_oth (fun v => by cases v <;> rfl)]
      exact St.drop (i := 0) (os_out ho hst)
    | hid t E X Y mX mY g x =>
      rw [frzR_oth (fun v => by cases v <;> rfl)]
      exact St.drop (i := 0) (os_out ho hst)
    | hiy Y mY y =>
      rw [frzR_oth (fun v => by cases v <;> rfl)]
      exact St.drop (i := 0) (os_out ho hst)
  · exact h
theorem relV_frz (x : Operand) (h : RelV P fr cx σ vs env w) : RelV P fr cx (frz cx σ x) vs env w := by grind [frz, relV_frzO]
theorem rel_frz (x : Operand) (h : Rel P fr cx σ env w) : Rel P fr cx (frz cx σ x) env w := by
  obtain ⟨hB, vs, hst⟩ := h
  obtain ⟨h1, h2⟩ := relV_frz x ⟨hB, hst⟩
  exact ⟨h1, vs, h2⟩
theorem rel_frzL : ∀ (l : List Operand) {σ : Sg}, Rel P fr cx σ env w → Rel P fr cx (frzL cx σ l) env w
  | [], _, h => h
  | x :: r, _, h => rel_frzL r (rel_frz x h)
theorem sigB_s {f : FuncId} : ∀ {cs : List Sig} {s : Sig}, sigB f cs = some s → s ∈ cs ∧ s.f = f ∧ s.bk = 1
  | c :: cs, s, h => by
    unfold sigB at h
    split at h
    · next h1 h2 h3 h4 =>
      cases hb : Nat.beq c.f f <;> rw [hb] at h
      · obtain ⟨h5, h6⟩ := sigB_s h; exact ⟨List.mem_cons_of_mem _ h5, h6⟩
      · cases h; exact ⟨List.mem_cons_self .., beq_t hb, h4⟩
    · obtain ⟨h5, h6⟩ := sigB_s h; exact ⟨List.mem_cons_of_mem _ h5, h6⟩
theorem m_bm (hC : ∀ s ∈ cf.cs, SigOK P s) {f : Operand} {f' : FuncId} {o : Nat} {t' : Ty} {s : Sig} {ags : Array Operand} {ts : Array TypeId} {k : Sg → Option R} (hd : okPut cx d = true) (hf : opv cx σ f = some (.bm f' o t')) (hags : ags.toList = [])
    (hs : sigB f' cf.cs = some s) (h : mBm σ d s o k = some r) : MOK P cx ⟨d, .call ⟨.value f, ags, ts⟩, ty, pos, aft, g⟩ σ k r := by
  obtain ⟨h1, h2, hbk⟩ := sigB_s hs
  have hok := hC s h1
  unfold mBm at h
  split at h
  · next f0 t E t2 E2 M bk s' E' y ho =>
    obtain ⟨hg, h3⟩ := grd_s h
    obtain ⟨hse, h4⟩ := cast_s h3
    subst hse
    obtain ⟨z, hz, h5⟩ := bd_s h4
    rw [Bool.and_eq_true, Bool.and_eq_true] at hg
    obtain rfl := beq_t hg.1
    obtain rfl : bk = 1 := hbk
    obtain rfl : ags = #[] := by cases ags; simp_all
    refine ⟨_, h5, Nat.le_refl _, fun fr vs env w hR => ?_⟩
    obtain ⟨hB, hst⟩ := hR
    obtain ⟨S0, _, hΓ⟩ := hst.ex
    obtain ⟨hv, b, hb⟩ := opv_hold hf (gs_lko hΓ f)
    have hfn := hok.2 (y, ()) z hz [vs o] rfl
    have hrun : (execOp (ev env) ⟨d, .call ⟨.value f, #[], ts⟩, ty, pos, aft, g⟩).run P w = .ok (.enter f' #[vs o]) w := by
      simp [execOp, resolve, hv, Deferred.ofValue, invoke, run_callFunc (h2 ▸ hok.1)]
    have hst2 : St fr.we fr.Se (mP s'.rep.c E (vs o) y :: OS vs fr cx (delo σ.ob o)) (ffT (∃ b, vs o = .pointer (some ⟨b, 0, none⟩)) :: GS P vs env fr cx σ) w := (os_out ho hst).weak fun S w ha => ⟨⟨b, hb⟩, ha⟩
    unfold OpR
    rw [hrun]
    rw [show f0 = f' from h2] at hfn
    refine (hfn fr.we fr.Se _ _ w hst2).mono ?_
    rintro e w' ⟨us, he, ⟨hul, hus⟩, hs'⟩
    obtain rfl : us = [vs o] := hus
    refine ⟨_, he, ?_⟩
    refine rel_mk (σ' := ⟨σ.nx, putR σ.rg d [], seto σ.ob o (.var t2 E2 z)⟩) (d := d) (l := []) (vs := vs) (vs' := vs) (Γl := []) hB hd rfl (Nat.le_refl _) (fun _ _ => rfl) (fun _ he => absurd he List.not_mem_nil) (fun e he => ?_) (fun S w _ e he => absurd he List.not_mem_nil) ?_
    · obtain ⟨e', h1, h2⟩ := seto_mem ho e he
      rw [← h2]; exact hB.o1 e' h1
    · refine os_back ho ?_
      have hs3 : St fr.we fr.Se (mP t2.rep.c E2 (vs o) z :: OS vs fr cx (delo σ.ob o)) (ffT (∃ b, vs o = .pointer (some ⟨b, 0, none⟩)) :: GS P vs env fr cx σ) w' := hs'
      exact hs3.weak fun S w ha => ha.2
  · cases h
theorem m_all0 (hT : TTok P cf.tt) (hL : ELok P cf.tt) (hC : ∀ s ∈ cf.cs, SigOK P s) (hX : XOK P cf) {op : Op} {k : Sg → Option R} (hd : okPut cx d = true) (h : mOp0 cf cx σ d op k = some r) :
    MOK P cx ⟨d, op, ty, pos, aft, g⟩ σ k r := by
  unfold mOp0 at h
  split at h
  · exact m_alloc hT hd h
  · next E x =>
    cases hb : isBx cf d <;> rw [hb] at h
    · exact m_E hT hL hC hX hd h
    · exact m_box hd h
  · next t x y =>
    obtain ⟨hn, h⟩ := grd_s h
    have hn : d = none := by simpa using hn
    subst hn
    split at h
    · next ti hti => exact m_store hT hti h
    · cases h
  · exact m_make hT hd h
  · exact m_lit hT hL hd h
  · next t x hi =>
    split at h
    · next o hx => exact m_slice hT hL hd hx h
    · exact m_E hT hL hC hX hd h
  · exact m_app hT hd h
  · exact m_copy hT hL hd h
  · next f ags ts =>
    split at h
    · next f' cs hf =>
      split at h
      · next s hs => exact m_call hC hd hf hs h
      · exact m_E hT hL hC hX hd h
    · next f' o t hf =>
      split at h
      · next s hags hs => exact m_bm hC hd hf hags hs h
      · cases h
    · exact m_E hT hL hC hX hd h
  · exact m_E hT hL hC hX hd h
theorem m_all (hT : TTok P cf.tt) (hL : ELok P cf.tt) (hC : ∀ s ∈ cf.cs, SigOK P s) (hX : XOK P cf) {op : Op} {k : Sg → Option R} (hd : okPut cx d = true) (h : mOp cf cx σ d op k = some r) :
    MOK P cx ⟨d, op, ty, pos, aft, g⟩ σ k r := by
  unfold mOp at h
  cases hc : coM cf cx σ d op with
  | no => rw [hc] at h; exact m_all0 hT hL hC hX hd h
  | _ =>
    rw [hc] at h
    simp only [mCo] at h
    unfold coM at hc
    split at hc
    · next t x y =>
      cases hb : isCo (opv cx σ x) <;> rw [hb] at hc <;> cases hc
      all_goals
        obtain ⟨hn, h⟩ := grd_s h
        have hn : d = none := by simpa using hn
        subst hn
        split at h
        · next ti hti => exact co_store hT hti h
        · cases h
    · next t x y =>
      cases hb : isMt cf d <;> rw [hb] at hc <;> cases hc
      all_goals exact co_make hT hd h
    · next t n ps =>
      cases hb : isMt cf d <;> rw [hb] at hc <;> cases hc
      all_goals exact co_lit hT hL hd h
    · next E =>
      cases hb : isMt cf d || (vrOf cf d).isSome <;> rw [hb] at hc <;> cases hc
      all_goals exact co_alloc hT hd h
    · next t ps =>
      cases hb : (vrOf cf d).isSome <;> rw [hb] at hc <;> cases hc
      all_goals exact co_build hT hd h
    · next E x =>
      cases hb : (vrOf cf d).isSome <;> rw [hb] at hc <;> cases hc
      all_goals exact co_box hT hd h
    · next t x =>
      split at hc
      · next o hx => cases hc <;> exact co_take hT hd hx h
      · split at hc
        · next o hw ho => cases hc <;> exact co_takV hT hd ho h
        · cases hc
    · next ags ts =>
      cases hb : ags.toList.any (fun x => isMw (opv cx σ x)) <;> rw [hb] at hc <;> cases hc
      all_goals exact co_app hT hd h
    · next f ags ts =>
      split at hc
      · next o hf => cases hc <;> exact co_yield hX hd hf h
      · next f' hf =>
        split at hc
        · next s hs =>
          obtain ⟨h1, h2⟩ := fndM_s hs
          subst h2
          cases hc <;> exact co_strike hX hd hf h1 h
        · split at hc
          · next s hs =>
            obtain ⟨h1, h2⟩ := fndV_s hs
            subst h2
            cases hc <;> exact co_lend hX hd hf h1 h
          · cases hc
      · cases hc
    · cases hc
theorem m_allP (hT : TTok P cf.tt) (hL : ELok P cf.tt) (hC : ∀ s ∈ cf.cs, SigOK P s) (hX : XOK P cf) {op : Op} {kp : PX → Sg → Option R} {k : Sg → Option R} (hd : okPut cx d = true) (h : mOpP cf cx σ d op kp k = some r) :
    MOK P cx ⟨d, op, ty, pos, aft, g⟩ σ k r ∨ PanOK P cx ⟨d, op, ty, pos, aft, g⟩ σ kp r := by
  unfold mOpP at h
  split at h
  · next p ags cs hp =>
    unfold panO at hp
    split at hp
    · next f ags' ts =>
      split at hp
      · next f' cs' hf =>
        split at hp
        · next p' hp' =>
          cases hp
          obtain ⟨h1, h2⟩ := fndP_s hp'
          exact m_pan hC hd hf (hX.ps _ h1) h2 h
        · cases hp
      · cases hp
    · cases hp
  · split at h
    · next x hx =>
      unfold panX at hx
      split at hx
      · next x' =>
        cases hx
        split at h
        · next q hq =>
          refine .inr ⟨q, σ, h, rfl, fun fr vs env w hR => ?_⟩
          obtain ⟨hB, hst⟩ := hR
          obtain ⟨S0, _, hΓ⟩ := hst.ex
          have hv : ev env x = .iface q.1 (.agg #[.int .i64 q.2]) := opv_hold hq (gs_lko hΓ x)
          refine ⟨fun c hc => (by cases hc), ?_⟩
          have hrun : (execOp (ev env) ⟨d, .panic x, ty, pos, aft, g⟩).run P w = .halt (.panic (.iface q.1 (.agg #[.int .i64 q.2]))) w := by
            simp [execOp, Instr.panic, hv, goPanic]
          rw [hrun]
          exact ⟨rfl, hB, hst⟩
        · cases h
      · cases hx
    · exact .inl (m_all hT hL hC hX hd h)
theorem put_self {t : Tmp} : put env (some t) (env t) = env := by grind [put_eq, put_ne]
theorem rel_know {t : Tmp} {b : Bool} (hn : notIn cx.rg t = true) (hv : env t = .bool b) (h : Rel P fr cx σ env w) : Rel P fr cx (know σ t b) env w := by
  obtain ⟨hB, vs, hst⟩ := h
  have := RelX.rel <| rel_mk (P := P) (fr := fr) (cx := cx) (σ := σ) (vs := vs) (vs' := vs) (env := env) (w := w) (d := some t) (v := env t) (σ' := know σ t b) (l := [(0, .kb b)]) (Γl := []) hB hn rfl (Nat.le_refl _) (fun _ _ => rfl)
    (fun e he o ho => by obtain rfl := List.mem_singleton.1 he; cases ho) hB.o1 (fun S w _ e he => by obtain rfl := List.mem_singleton.1 he; exact hv) hst
  rwa [put_self] at this
theorem lk_bool {t : Tmp} {x : Bool} {S : Nat → Prop} (h : get cx σ t 0 = some (.d .b x)) (hl : Lk P vs env S w cx σ t) : env t = .bool x := fV_bool (hl 0 _ h)
theorem ifB_s {b : Bool} {a c : Option R} (h : ifB b a c = some r) : (b = true ∧ a = some r) ∨ (b = false ∧ c = some r) := by
  cases b
  · exact .inr ⟨rfl, h⟩
  · exact .inl ⟨rfl, h⟩
theorem guard_s {all : List Oper} {o : Oper} {k : Sg → Bool → Option R} (h : guardD cx all o σ k = some r) (hR : Rel P fr cx σ env w) : ∃ σ' b, k σ' b = some r ∧ Rel P fr cx σ' env w ∧ wantedE all.toArray env o = b := by
  have hR0 := hR
  obtain ⟨hB, vs, hst⟩ := hR
  obtain ⟨S, _, hΓ⟩ := hst.ex
  unfold guardD at h
  split at h
  · next hg => exact ⟨σ, true, h, hR0, by unfold wantedE; rw [hg]⟩
  · next j want hg =>
    split at h
    · next o' ho' =>
      split at h
      · next t ht =>
        have hgd : ∀ {v}, env t = v → gd all.toArray env j = (match v with | .bool b => some b | _ => none) := by
          rintro v rfl
          unfold gd
          simp only [List.getElem?_toArray, ho', Option.bind_some, ht]
          rfl
        have hw : wantedE all.toArray env o = (gd all.toArray env j == some want) := by unfold wantedE; rw [hg]
        split at h
        · next b hb =>
          have hv : env t = .bool b := gs_lk hΓ t 0 _ hb
          refine ⟨σ, _, h, hR0, ?_⟩
          rw [hw, hgd hv]
          cases b <;> cases want <;> rfl
        · next hb =>
          have hv : env t = undef := gs_lk hΓ t 0 _ hb
          refine ⟨σ, _, h, hR0, ?_⟩
          rw [hw, hgd hv]; rfl
        · next x hb =>
          obtain ⟨hn, h⟩ := grd_s h
          have hv : env t = .bool x := lk_bool hb (gs_lk hΓ t)
          rcases ifB_s h with ⟨hx, h⟩ | ⟨hx, h⟩
          · exact ⟨_, _, h, rel_know hn (hv.trans (congrArg Value.bool hx)) hR0, by rw [hw, hgd (hv.trans (congrArg Value.bool hx))]; cases want <;> rfl⟩
          · exact ⟨_, _, h, rel_know hn (hv.trans (congrArg Value.bool hx)) hR0, by rw [hw, hgd (hv.trans (congrArg Value.bool hx))]; cases want <;> rfl⟩
        · cases h
      · cases h
    · cases h
theorem pick_s {o : Oper} {k : Sg → Option R} (h : pickD cx o σ k = some r) (hR : Rel P fr cx σ env w) : ∃ σ', k σ' = some r ∧ Rel P fr cx σ' env w := by
  have hR0 := hR
  obtain ⟨hB, vs, hst⟩ := hR
  obtain ⟨S, _, hΓ⟩ := hst.ex
  unfold pickD at h
  split at h
  · next t _ _ _ =>
    split at h
    · next x hb =>
      obtain ⟨hn, h⟩ := grd_s h
      have hv : env t = .bool x := lk_bool hb (gs_lk hΓ t)
      rcases ifB_s h with ⟨hx, h⟩ | ⟨hx, h⟩
      · exact ⟨_, h, rel_know hn (hv.trans (congrArg Value.bool hx)) hR0⟩
      · exact ⟨_, h, rel_know hn (hv.trans (congrArg Value.bool hx)) hR0⟩
    · exact ⟨σ, h, hR0⟩
  · exact ⟨σ, h, hR0⟩
theorem WpL_op {N : Nd} {ops : Array Oper} {o : Oper} {rest : List Oper} {Q : Qs} (hw : wantedE ops env o = true) (hd : okDst N.n o.dst = true) (h : OpR P o env w (fun v w' => WpL P N ops rest Q (put env o.dst v) w')) : WpL P N ops (o :: rest) Q env w := by
  intro a h1 h2 h3
  subst h3
  unfold wpListIn
  rw [if_pos (by rw [wanted_eq]; exact hw)]
  refine h.wp fun v w' hk => ?_
  exact hk _ (by rw [size_put]; exact h1) (by rw [defers_put]; exact h2) (envOf_put (by rw [h1]; exact okDst_lt hd))
theorem WpL_not {N : Nd} {ops : Array Oper} {o : Oper} {rest : List Oper} {Q : Qs} (hw : wantedE ops env o = false) (hd : okDst N.n o.dst = true) (h : WpL P N ops rest Q (put env o.dst undef) w) : WpL P N ops (o :: rest) Q env w := by
  intro a h1 h2 h3
  subst h3
  unfold wpListIn
  rw [if_neg (by rw [wanted_eq, hw]; exact Bool.false_ne_true)]
  exact ⟨fun _ _ => trivial, h _ (by rw [size_put]; exact h1) (by rw [defers_put]; exact h2) (envOf_put (by rw [h1]; exact okDst_lt hd))⟩
theorem rel_un (hd : okPut cx d = true) (h : Rel P fr cx σ env w) : Rel P fr cx (σ.put d [(0, .un)]) (put env d undef) w := by
  obtain ⟨hB, vs, hst⟩ := h
  exact (rel_mk (σ' := σ.put d [(0, .un)]) (l := [(0, .un)]) (v := undef) (vs := vs) (vs' := vs) (Γl := []) hB hd rfl (Nat.le_refl _) (fun _ _ => rfl) (fun e he o ho => by obtain rfl := List.mem_singleton.1 he; cases ho) hB.o1 (fun S w _ e he => by obtain rfl := List.mem_singleton.1 he; exact rfl) hst).rel
def SmO (cx : Sg) (a b : Env) : Prop := ∀ e ∈ cx.rg, b e.1 = a e.1
theorem SmO.refl {a : Env} : SmO cx a a := fun _ _ => rfl
theorem SmO.trans {a b c : Env} (h : SmO cx a b) (k : SmO cx b c) : SmO cx a c := fun e he => (k e he).trans (h e he)
theorem SmO.put {a b : Env} {v : Value} (hd : okPut cx d = true) (h : SmO cx a b) : SmO cx a (put b d v) := fun e he => by
  rw [put_ne fun ht => ?_]
  · exact h e he
  · subst ht
    simp only [okPut, notIn, List.all_eq_true] at hd
    have := hd e he
    simp at this
theorem runL_s (hT : TTok P cf.tt) (hL : ELok P cf.tt) (hC : ∀ s ∈ cf.cs, SigOK P s) (hX : XOK P cf) {N : Nd} {all : List Oper} {Q : Qs} {kp : PX → Sg → Option R} {k : Sg → Option R} {env0 : Env}
    (hK : ∀ σ', k σ' = some r → ∀ env w, SmO cx env0 env → Rel P fr cx σ' env w → Q .normal env w) (hP : ∀ q σ', kp q σ' = some r → ∀ env w, SmO cx env0 env → Rel P fr cx σ' env w → Q (.panic (chOf q)) env w) :
    ∀ {l : List Oper} {σ : Sg} {env : Env} {w : World}, SmO cx env0 env → (l.all fun o => okDst N.n o.dst) = true → runL cf cx all kp l σ k = some r → Rel P fr cx σ env w → WpL P N all.toArray l Q env w
  | [], σ, env, w, hS, _, h, hR => fun a h1 h2 h3 => wpListIn_nil ⟨h1, h2, h3 ▸ hK σ h env w hS hR⟩
  | o :: l, σ, env, w, hS, hN, h, hR => by
    simp only [List.all_cons, Bool.and_eq_true] at hN
    unfold runL at h
    obtain ⟨hd, h⟩ := grd_s h
    obtain ⟨σ1, b, h, hR, hw⟩ := guard_s h hR
    cases b
    · exact WpL_not hw hN.1 (runL_s hT hL hC hX hK hP (hS.put hd) hN.2 h (rel_un hd hR))
    · obtain ⟨σ2, h, hR⟩ := pick_s h hR
      have hR := rel_frzL (onto cf cx σ2 o.dst o.op) hR
      obtain ⟨hB, vs, hst⟩ := hR
      rcases m_allP (P := P) (d := o.dst) (ty := o.type) (pos := o.pos) (aft := o.after) (g := o.guard) hT hL hC hX hd h with ⟨σ', h', _, hm⟩ | ⟨q, σ', h', _, hm⟩
      · exact WpL_op hw hN.1 ((hm fr vs env w ⟨hB, hst⟩).mono fun v w' hR' => runL_s hT hL hC hX hK hP (hS.put hd) hN.2 h' hR'.rel)
      · refine WpL_pan hw ((hm fr vs env w ⟨hB, hst⟩).mono ?_)
        rintro ch w' ⟨rfl, hB', hst'⟩
        exact hP q σ' h' env w' hS ⟨hB', vs, hst'⟩
end
end
section
section
variable {P : Program} {cf : Cf} {fr : Fr} {cx σ σ0 : Sg} {vs vs' : Nat → Value} {env env0 : Env} {w : World} {R : Type} {r : R}
  {d : Option Tmp} {ty t yt : TypeId} {pos : String} {aft : Array Edge} {g : Option (Nat × Bool)} {x y : Operand}
theorem fnd_skip : ∀ {a b : List (Nat × Nat × Dv)} {t i : Nat}, (∀ e ∈ a, e.1 ≠ t) → fnd (a ++ b) t i = fnd b t i
  | [], _, _, _, _ => rfl
  | (t', i', d) :: a, b, t, i, h => by
    show (bif Nat.beq t' t && Nat.beq i' i then some d else fnd (a ++ b) t i) = _
    rw [beq_no (h (t', i', d) (List.mem_cons_self ..))]
    simp only [Bool.false_and, cond_false]
    exact fnd_skip fun e he => h e (List.mem_cons_of_mem _ he)
theorem fnd_dels {rg : List (Nat × Nat × Dv)} {t t' i : Nat} (h : t' ≠ t) : fnd (dels rg t) t' i = fnd rg t' i := by
  induction rg with
  | nil => rfl
  | cons e rg ih =>
    obtain ⟨s, j, d⟩ := e
    unfold dels at ih ⊢
    rw [List.filter_cons]
    cases hb : Nat.beq s t
    · simp only [hb, Bool.not_false, if_true]
      unfold fnd
      rw [ih]
    · simp only [hb, Bool.not_true, Bool.false_eq_true, if_false]
      rw [ih]
      have := beq_t hb
      subst this
      conv => rhs; unfold fnd
      rw [beq_no (fun e => h e.symm)]; rfl
theorem fnd_put_ne {rg : List (Nat × Nat × Dv)} {t t' i : Nat} {l : List (Nat × Dv)} (h : t' ≠ t) : fnd (putR rg (some t) l) t' i = fnd rg t' i := by grind [putR, fnd_skip, fnd_dels]
theorem get_put {t t' i : Nat} {l : List (Nat × Dv)} {n : Nat} {ob : List (Nat × Od)} {dv : Dv} (hn : notIn cx.rg t = true) (h : get cx ⟨n, putR σ.rg (some t) l, ob⟩ t' i = some dv) : (t' = t ∧ (i, dv) ∈ l) ∨ (t' ≠ t ∧ get cx σ t' i = some dv) := by
  by_cases ht : t' = t
  · subst ht
    left
    refine ⟨rfl, ?_⟩
    rcases get_mem h with hm | hm
    · have hm : (t', i, dv) ∈ l.map (fun e => (t', e.1, e.2)) ++ dels σ.rg t' := hm
      rcases List.mem_append.1 hm with hm | hm
      · obtain ⟨e, he, heq⟩ := List.mem_map.1 hm
        cases heq; exact he
      · have := (List.mem_filter.1 hm).2
        simp at this
    · simp only [notIn, List.all_eq_true] at hn
      have := hn _ hm
      simp at this
  · right
    refine ⟨ht, ?_⟩
    unfold get at h ⊢
    rw [show fnd (putR σ.rg (some t) l) t' i = fnd σ.rg t' i from fnd_put_ne ht] at h
    exact h
theorem lk_put {t : Nat} {l : List (Nat × Dv)} {n : Nat} {ob : List (Nat × Od)} {S : Nat → Prop} (hn : notIn cx.rg t = true) {t' : Nat} (h1 : t' = t → ∀ e ∈ l, (holdC P vs e.2 (env t) e.1).p S w) (h2 : t' ≠ t → Lk P vs env S w cx σ t') : Lk P vs env S w cx ⟨n, putR σ.rg (some t) l, ob⟩ t' := by
  intro i dv hd
  rcases get_put hn hd with ⟨rfl, hm⟩ | ⟨hne, hg⟩
  · exact h1 rfl _ hm
  · exact h2 hne i dv hg
theorem bd_put {l : List (Nat × Dv)} (hB : Bd cx σ) (hl : ∀ e ∈ l, ∀ o, refO e.2 = some o → o < σ.nx) : Bd cx (σ.put d l) := by
  refine ⟨hB.o1, hB.o2, fun e he o ho => ?_, hB.r2⟩
  have he : e ∈ putR σ.rg d l := he
  unfold putR at he
  cases d with
  | none => exact hB.r1 e he o ho
  | some t =>
    rcases List.mem_append.1 he with he | he
    · obtain ⟨e', he', rfl⟩ := List.mem_map.1 he
      exact hl e' he' o ho
    · exact hB.r1 e (List.mem_filter.1 he).1 o ho
theorem lk_know {t t' : Nat} {x b : Bool} {S : Nat → Prop} (hn : notIn cx.rg t = true) (hb : get cx σ t 0 = some (.d .b x)) (hx : x = b) (h : Lk P vs env S w cx σ t') : Lk P vs env S w cx (know σ t b) t' := by
  refine lk_put hn (fun e e' he => ?_) (fun _ => h)
  subst e
  obtain rfl := List.mem_singleton.1 he
  exact (lk_bool hb h).trans (congrArg Value.bool hx)
theorem guardE_s {all : List Oper} {o : Oper} {k : Sg → Bool → Option R} (h : guardD cx all o σ k = some r) (hB : Bd cx σ) : ∃ σ' b, k σ' b = some r ∧ σ'.ob = σ.ob ∧ σ'.nx = σ.nx ∧ Bd cx σ' ∧
    (∀ (P : Program) vs env S w t, Lk P vs env S w cx σ t → Lk P vs env S w cx σ' t) ∧ (∀ (P : Program) vs env S w, (∀ t ∈ Oper.looksAt all.toArray o, Lk P vs env S w cx σ t) → wantedE all.toArray env o = b) := by
  unfold guardD at h
  split at h
  · next hg => exact ⟨σ, true, h, rfl, rfl, hB, fun _ _ _ _ _ _ h => h, fun P vs env S w _ => by unfold wantedE; rw [hg]⟩
  · next j want hg =>
    split at h
    · next o' ho' =>
      split at h
      · next t ht =>
        have hlk : t ∈ Oper.looksAt all.toArray o := by
          unfold Oper.looksAt
          rw [hg]
          simp [ho', ht]
        have hgd : ∀ {env : Env} {v}, env t = v → gd all.toArray env j = (match v with | .bool b => some b | _ => none) := by
          rintro env v rfl
          unfold gd
          simp only [List.getElem?_toArray, ho', Option.bind_some, ht]
          rfl
        have hw : ∀ env, wantedE all.toArray env o = (gd all.toArray env j == some want) := fun env => by unfold wantedE; rw [hg]
        split at h
        · next b hb =>
          refine ⟨σ, _, h, rfl, rfl, hB, fun _ _ _ _ _ _ h => h, fun P vs env S w hl => ?_⟩
          have hv : env t = .bool b := hl t hlk 0 _ hb
          rw [hw, hgd hv]
          cases b <;> cases want <;> rfl
        · next hb =>
          refine ⟨σ, _, h, rfl, rfl, hB, fun _ _ _ _ _ _ h => h, fun P vs env S w hl => ?_⟩
          have hv : env t = undef := hl t hlk 0 _ hb
          rw [hw, hgd hv]; rfl
        · next x hb =>
          obtain ⟨hn, h⟩ := grd_s h
          have hbd : ∀ b, Bd cx (know σ t b) := fun b => bd_put (d := some t) hB fun e he o ho => by obtain rfl := List.mem_singleton.1 he; cases ho
          rcases ifB_s h with ⟨hx, h⟩ | ⟨hx, h⟩
          · refine ⟨_, _, h, rfl, rfl, hbd _, fun P vs env S w t' hl => lk_know hn hb hx hl, fun P vs env S w hl => ?_⟩
            have hv := (lk_bool hb (hl t hlk)).trans (congrArg Value.bool hx)
            rw [hw, hgd hv]; cases want <;> rfl
          · refine ⟨_, _, h, rfl, rfl, hbd _, fun P vs env S w t' hl => lk_know hn hb hx hl, fun P vs env S w hl => ?_⟩
            have hv := (lk_bool hb (hl t hlk)).trans (congrArg Value.bool hx)
            rw [hw, hgd hv]; cases want <;> rfl
        · cases h
      · cases h
    · cases h
theorem pickE_s {o : Oper} {k : Sg → Option R} (h : pickD cx o σ k = some r) (hB : Bd cx σ) : ∃ σ', k σ' = some r ∧ σ'.ob = σ.ob ∧ σ'.nx = σ.nx ∧ Bd cx σ' ∧ (∀ (P : Program) vs env S w t, Lk P vs env S w cx σ t → Lk P vs env S w cx σ' t) := by
  unfold pickD at h
  split at h
  · next t _ _ _ =>
    split at h
    · next x hb =>
      obtain ⟨hn, h⟩ := grd_s h
      have hbd : ∀ b, Bd cx (know σ t b) := fun b => bd_put (d := some t) hB fun e he o ho => by obtain rfl := List.mem_singleton.1 he; cases ho
      rcases ifB_s h with ⟨hx, h⟩ | ⟨hx, h⟩
      · exact ⟨_, h, rfl, rfl, hbd _, fun P vs env S w t' hl => lk_know hn hb hx hl⟩
      · exact ⟨_, h, rfl, rfl, hbd _, fun P vs env S w t' hl => lk_know hn hb hx hl⟩
    · exact ⟨σ, h, rfl, rfl, hB, fun _ _ _ _ _ _ h => h⟩
  · exact ⟨σ, h, rfl, rfl, hB, fun _ _ _ _ _ _ h => h⟩
def prL (P : Program) (vs : Nat → Value) (l : List (Nat × Dv)) : Pr where
  p S v w := ∀ e ∈ l, (holdC P vs e.2 v e.1).p S w
  keepS h k := fun e he => (holdC P vs e.2 _ e.1).keep (h e he) k
  sub h k := fun e he => (holdC P vs e.2 _ e.1).sub (h e he) k
def InvK (P : Program) (vs : Nat → Value) (Γ : List FF) (env0 : Env) (cx σ : Sg) (K : List (Tmp × Pr)) : Prop := ∀ (env : Env) (S : Nat → Prop) (w : World), All S Γ w → ∀ t, holdK K env0 env S w t → Lk P vs env S w cx σ t
def NoCx (cx : Sg) (K : List (Tmp × Pr)) : Prop := ∀ e ∈ K, notIn cx.rg e.1 = true
theorem holdL_mem {K : List (Tmp × Pr)} {S : Nat → Prop} : ∀ {ts : List Tmp}, HoldL K env0 env S w ts → ∀ t ∈ ts, holdK K env0 env S w t
  | [], _, _, h => absurd h List.not_mem_nil
  | _ :: _, h, t, ht => by
    rcases List.mem_cons.1 ht with rfl | ht
    · exact h.1
    · exact holdL_mem h.2 t ht
theorem invK_put {Γ : List FF} {K : List (Tmp × Pr)} {Φ : Pr} {l : List (Nat × Dv)} {o : Oper} (hd : okPut cx o.dst = true) (h : InvK P vs Γ env0 cx σ K) (hΦ : ∀ S v w, Φ.p S v w → ∀ e ∈ l, (holdC P vs e.2 v e.1).p S w) : InvK P vs Γ env0 cx (σ.put o.dst l) (addK o.dst Φ K) := by
  intro env S w hΓ t ht
  cases hdst : o.dst with
  | none =>
    rw [hdst] at ht
    exact h env S w hΓ t ht
  | some s =>
    rw [hdst] at ht hd
    refine lk_put hd (fun e => ?_) (fun hne => ?_)
    · subst e
      refine hΦ S _ w ?_
      unfold holdK addK at ht
      simpa using ht
    · refine h env S w hΓ t ?_
      unfold holdK addK at ht
      rw [List.find?_cons, beq_no (fun e => hne e.symm)] at ht
      exact ht
theorem noCx_add {K : List (Tmp × Pr)} {Φ : Pr} {d : Option Tmp} (hd : okPut cx d = true) (h : NoCx cx K) : NoCx cx (addK d Φ K) := by
  cases d with
  | none => exact h
  | some s =>
    intro e he
    rcases List.mem_cons.1 he with rfl | he
    · exact hd
    · exact h e he
theorem runE_s (hT : TTok P cf.tt) (hL : ELok P cf.tt) (hC : ∀ s ∈ cf.cs, SigOK P s) (hX : XOK P cf) {all : List Oper} {k : Sg → Option R} {Γ : List FF} : ∀ {os : List Oper} {σ : Sg} {K : List (Tmp × Pr)}, runE cf cx all os σ k = some r →
    InvK P vs Γ env0 cx σ K → NoCx cx K → σ.ob = σ0.ob → Bd cx σ → ∃ (Φs : List Pr) (σ' : Sg), Φs.length = os.length ∧ Obs P all.toArray (OS vs fr cx σ0.ob) Γ env0 (os.zip Φs) K ∧ k σ' = some r ∧ InvK P vs Γ env0 cx σ' (Kof (os.zip Φs) K) ∧ NoCx cx (Kof (os.zip Φs) K) ∧ σ'.ob = σ0.ob ∧ Bd cx σ'
  | [], σ, K, h, hi, hn, ho, hB => ⟨[], σ, rfl, trivial, h, hi, hn, ho, hB⟩
  | o :: os, σ, K, h, hi, hn, ho, hB => by
    unfold runE at h
    obtain ⟨hd, h⟩ := grd_s h
    obtain ⟨σ1, b, h, ho1, hx1, hB1, hlk1, hw1⟩ := guardE_s h hB
    have hw : ∀ {env : Env} {S : Nat → Prop} {w : World}, All S Γ w → HoldL K env0 env S w (o.looksAt all.toArray) → wantedE all.toArray env o = b := fun {env S w} hΓ hh => hw1 P vs env S w fun t ht => hi env S w hΓ t (holdL_mem hh t ht)
    cases b
    · have hi' : InvK P vs Γ env0 cx (σ1.put o.dst [(0, .un)]) (addK o.dst (prV undef) K) := invK_put hd (fun env S w hΓ t ht => hlk1 P vs env S w t (hi env S w hΓ t ht)) fun S v w hv e he => by obtain rfl := List.mem_singleton.1 he; exact hv
      obtain ⟨Φs, σ', h1, h2, h3, h4, h5, h6, h7⟩ := runE_s hT hL hC hX (os := os) h hi' (noCx_add hd hn) (ho1.trans ho) (bd_put hB1 fun e he p hp => by obtain rfl := List.mem_singleton.1 he; cases hp)
      refine ⟨prV undef :: Φs, σ', by simp [h1], ⟨fun S w env hS hM hΓ hh => ⟨fun hc => ?_, fun _ => rfl⟩, h2⟩, h3, h4, h5, h6, h7⟩
      rw [hw hΓ hh] at hc; cases hc
    · obtain ⟨σ2, h, ho2, hx2, hB2, hlk2⟩ := pickE_s h hB1
      obtain ⟨l, h, hes⟩ := e_all (P := P) (d := o.dst) (ty := o.type) (pos := o.pos) (aft := o.after) (g := o.guard) (F := fr.F) hT hL hC hX h
      obtain ⟨hl, h⟩ := grd_s h
      have hlk : ∀ env S w t, Lk P vs env S w cx σ t → Lk P vs env S w cx σ2 t := fun env S w t ht => hlk2 P vs env S w t (hlk1 P vs env S w t ht)
      have hi' : InvK P vs Γ env0 cx (σ2.put o.dst l) (addK o.dst (prL P vs l) K) := invK_put hd (fun env S w hΓ t ht => hlk env S w t (hi env S w hΓ t ht)) fun S v w hv => hv
      have hob : σ2.ob = σ0.ob := ho2.trans (ho1.trans ho)
      obtain ⟨Φs, σ', h1, h2, h3, h4, h5, h6, h7⟩ := runE_s hT hL hC hX (os := os) h hi' (noCx_add hd hn) hob (bd_put hB2 (okL_s hl))
      refine ⟨prL P vs l :: Φs, σ', by simp [h1], ⟨fun S w env hS hM hΓ hh => ⟨fun hc => ?_, fun hc => ?_⟩, h2⟩, h3, h4, h5, h6, h7⟩
      · refine hes env w S vs hS (by rw [hob]; exact hM) fun t ht => hlk env S w t (hi env S w hΓ t (holdL_mem hh t ?_))
        exact List.mem_append.2 (.inl ht)
      · rw [hw hΓ hh] at hc; cases hc
end
end
theorem reach_D {l : List Oper} {D : Nat → Bool} (hd : ∀ j, D j = true → ∀ e ∈ (opAt l j).after, Region.binds .any e = true → D e.on = true) : ∀ (f j i : Nat), D j = true → reachB l f j i = true → D i = true
  | 0, j, i, hj, h => by
    obtain ⟨e, he, hb, rfl⟩ := edge_of h
    exact hd j hj e he hb
  | f + 1, j, i, hj, h => by
    unfold reachB at h
    rw [Bool.or_eq_true] at h
    rcases h with h | h
    · obtain ⟨e, he, hb, rfl⟩ := edge_of h
      exact hd j hj e he hb
    · rw [List.any_eq_true] at h
      obtain ⟨e, he, hb⟩ := h
      rw [Bool.and_eq_true] at hb
      exact reach_D hd f e.on i (hd j hj e (Array.mem_toList_iff.1 he) hb.1) hb.2
section
def avL (al : Rb → Bool) (rs : List Rb) : List (Nat × Od) := rs.filterMap fun r => if al r = true then some (r.o, r.x) else none
def cOf (i : Nat) (rs : List Rb) : List (Nat × Od) := rs.filterMap fun r => if r.c = some i then some (r.o, r.x) else none
def pOf (i : Nat) (rs : List Rb) : List (Nat × Od) := rs.filterMap fun r => if r.a = some i then some (r.o, r.x) else none
def rOf (i : Nat) (rs : List Rb) : List (Nat × Od) := rs.filterMap fun r => if i ∈ r.rd then some (r.o, r.x) else none
theorem av_split {al al' : Rb → Bool} {i : Nat} : ∀ {rs : List Rb}, (∀ r ∈ rs, (r.c = some i ∧ i ∉ r.rd ∧ r.a ≠ some i ∧ al r = true ∧ al' r = false) ∨ (r.a = some i ∧ r.c ≠ some i ∧ i ∉ r.rd ∧ al r = false ∧ al' r = true) ∨
    (i ∈ r.rd ∧ r.c ≠ some i ∧ r.a ≠ some i ∧ al r = true ∧ al' r = true) ∨ (r.c ≠ some i ∧ r.a ≠ some i ∧ i ∉ r.rd ∧ al r = al' r)) →
    ∃ rest, (∀ e ∈ rest, ∃ r ∈ rs, e = (r.o, r.x) ∧ al r = true ∧ al' r = true) ∧ (avL al rs).Perm (cOf i rs ++ (rOf i rs ++ rest)) ∧ (avL al' rs).Perm (pOf i rs ++ (rOf i rs ++ rest))
  | [], _ => ⟨[], fun e he => absurd he List.not_mem_nil, List.Perm.refl _, List.Perm.refl _⟩
  | r :: rs, h => by
    obtain ⟨rest, h1, h2, h3⟩ := av_split (rs := rs) fun q hq => h q (List.mem_cons_of_mem _ hq)
    have h1' : ∀ e ∈ rest, ∃ q ∈ r :: rs, e = (q.o, q.x) ∧ al q = true ∧ al' q = true := fun e he => by
      obtain ⟨q, hq, h⟩ := h1 e he
      exact ⟨q, List.mem_cons_of_mem _ hq, h⟩
    rcases h r (List.mem_cons_self ..) with ⟨a1, a2, a3, a4, a5⟩ | ⟨a1, a2, a3, a4, a5⟩ | ⟨a1, a2, a3, a4, a5⟩ | ⟨a1, a2, a3, a4⟩
    · refine ⟨rest, h1', ?_, ?_⟩
      · simp only [avL, cOf, rOf, List.filterMap_cons, a1, a2, a4, if_true, if_false, reduceIte] at h2 ⊢
        exact h2.cons _
      · simp only [avL, pOf, rOf, List.filterMap_cons, a3, a2, a5, if_false, reduceIte, Bool.false_eq_true] at h3 ⊢
        exact h3
    · refine ⟨rest, h1', ?_, ?_⟩
      · simp only [avL, cOf, rOf, List.filterMap_cons, a2, a3, a4, if_false, reduceIte, Bool.false_eq_true] at h2 ⊢
        exact h2
      · simp only [avL, pOf, rOf, List.filterMap_cons, a1, a3, a5, if_true, if_false, reduceIte] at h3 ⊢
        exact h3.cons _
    · refine ⟨rest, h1', ?_, ?_⟩
      · simp only [avL, cOf, rOf, List.filterMap_cons, a1, a2, a4, if_true, if_false, reduceIte] at h2 ⊢
        exact (h2.cons _).trans List.perm_middle.symm
      · simp only [avL, pOf, rOf, List.filterMap_cons, a1, a3, a5, if_true, if_false, reduceIte] at h3 ⊢
        exact (h3.cons _).trans List.perm_middle.symm
    · cases hb : al r with
      | false =>
        rw [hb] at a4
        refine ⟨rest, h1', ?_, ?_⟩
        · simp only [avL, cOf, rOf, List.filterMap_cons, a1, a3, hb, if_false, reduceIte, Bool.false_eq_true] at h2 ⊢
          exact h2
        · simp only [avL, pOf, rOf, List.filterMap_cons, a2, a3, ← a4, if_false, reduceIte, Bool.false_eq_true] at h3 ⊢
          exact h3
      | true =>
        rw [hb] at a4
        refine ⟨(r.o, r.x) :: rest, fun e he => ?_, ?_, ?_⟩
        · rcases List.mem_cons.1 he with rfl | he
          · exact ⟨r, List.mem_cons_self .., rfl, hb, a4.symm⟩
          · exact h1' e he
        · simp only [avL, cOf, rOf, List.filterMap_cons, a1, a3, hb, if_true, if_false, reduceIte] at h2 ⊢
          rw [← List.append_assoc] at h2 ⊢
          exact (h2.cons _).trans List.perm_middle.symm
        · simp only [avL, pOf, rOf, List.filterMap_cons, a2, a3, ← a4, if_true, if_false, reduceIte] at h3 ⊢
          rw [← List.append_assoc] at h3 ⊢
          exact (h3.cons _).trans List.perm_middle.symm
def KV (P : Program) (vs : Nat → Value) (KL : List (Tmp × List (Nat × Dv))) : List (Tmp × Pr) := KL.map fun e => (e.1, prL P vs e.2)
def addL (d : Option Tmp) (l : List (Nat × Dv)) (KL : List (Tmp × List (Nat × Dv))) : List (Tmp × List (Nat × Dv)) := match d with
  | some t => (t, l) :: KL
  | none => KL
def KLof : List (Oper × List (Nat × Dv)) → List (Tmp × List (Nat × Dv)) → List (Tmp × List (Nat × Dv))
  | [], K => K
  | (o, l) :: r, K => KLof r (addL o.dst l K)
def OL (P : Program) (vs : Nat → Value) (L : List (Oper × List (Nat × Dv))) : List (Oper × Pr) := L.map fun e => (e.1, prL P vs e.2)
section
variable {P : Program} {vs : Nat → Value}
theorem KV_add {d : Option Tmp} {l : List (Nat × Dv)} {KL : List (Tmp × List (Nat × Dv))} : KV P vs (addL d l KL) = addK d (prL P vs l) (KV P vs KL) := by cases d <;> rfl
theorem KV_of : ∀ (L : List (Oper × List (Nat × Dv))) (KL : List (Tmp × List (Nat × Dv))), KV P vs (KLof L KL) = Kof (OL P vs L) (KV P vs KL)
  | [], KL => rfl
  | (o, l) :: r, KL => by
    show KV P vs (KLof r (addL o.dst l KL)) = Kof (OL P vs r) (addK o.dst (prL P vs l) (KV P vs KL))
    rw [KV_of r, KV_add]
end
def ObB (P : Program) (ops : Array Oper) (we : World) (Se : Nat → Prop) (mE : List MF) (Γ : List FF) (env0 : Env) (vs : Nat → Value) (n0 : Nat) (rs : List Rb) (KL : List (Tmp × List (Nat × Dv))) (i : Nat) (o : Oper) (L : List (Nat × Dv)) (I : Oi) : Prop :=
  n0 ≤ I.lo ∧ I.lo ≤ I.hi ∧ (∀ e ∈ L, ∀ p, refO e.2 = some p → p < I.hi ∧ p ∈ I.refs) ∧ (∀ e ∈ pOf i rs, e.1 < I.hi) ∧
  ∀ vs', (∀ p, p < n0 → vs' p = vs p) → ∀ (env : Env) (F : List MF) (G : List FF) (w : World), St we Se (MS vs' (cOf i rs ++ rOf i rs) ++ (mE ++ F)) (fHold (KV P vs' KL) env0 env (o.looksAt ops) :: (Γ ++ G)) w →
    (wantedE ops env o = true → OpR P o env w (fun v w' => ∃ vs2, (∀ p, p < I.lo → vs2 p = vs' p) ∧ St we Se (MS vs2 (pOf i rs) ++ (MS vs' (rOf i rs) ++ (mE ++ F))) (resL P vs2 v L ++ (Γ ++ G)) w')) ∧
    (wantedE ops env o = false → cOf i rs = [] ∧ pOf i rs = [] ∧ ∀ S w, All S (resL P vs' undef L) w)
structure ChkP (l : List Oper) (m : Nat) (rs : List Rb) (is : List Oi) : Prop where
  a : ∀ r ∈ rs, ∀ j, r.a = some j → j < m ∧ ∀ i ∈ r.rd, reachB l 16 i j = true
  c : ∀ r ∈ rs, ∀ k, r.c = some k → k < m ∧ (∀ j, r.a = some j → reachB l 16 k j = true) ∧ ∀ i ∈ r.rd, reachB l 16 k i = true
  n : ∀ i I, is[i]? = some I → ∀ r ∈ rs, I.lo ≤ r.o → r.o < I.hi → ∃ j, r.a = some j ∧ (j = i ∨ reachB l 16 j i = true)
  f : ∀ i I j J, is[i]? = some I → is[j]? = some J → ∀ p ∈ J.refs, I.lo ≤ p → p < I.hi → j = i ∨ reachB l 16 j i = true
  uniq : ∀ i j t, i < m → j < m → i ≠ j → (opAt l i).dst = some t → (opAt l j).dst ≠ some t
theorem chk_parts {l : List Oper} {m : Nat} {rs : List Rb} {is : List Oi} (h : chkB l m rs is = true) : ChkP l m rs is := by
  unfold chkB at h
  rw [Bool.and_eq_true, Bool.and_eq_true] at h
  obtain ⟨⟨hr, hn⟩, hu⟩ := h
  have hn' : ∀ i I, is[i]? = some I → chkN l i I rs is.zipIdx = true := fun i I hi => List.all_eq_true.1 hn (I, i) (List.mem_zipIdx_iff_getElem?.2 hi)
  have inb : ∀ (I : Oi) (p : Nat), I.lo ≤ p → p < I.hi → inB I p = true := fun I p h1 h2 => by
    unfold inB
    rw [Nat.ble_eq_true_of_le h1, Bool.true_and]
    exact Nat.ble_eq_true_of_le h2
  refine ⟨fun r hrm j hj => ?_, fun r hrm k hk => ?_, fun i I hi r hrm h1 h2 => ?_, fun i I j J hi hj p hp h1 h2 => ?_, fun i j t hi hj hne hti htj => ?_⟩
  · have := List.all_eq_true.1 hr r hrm
    rw [Bool.and_eq_true] at this
    have := this.1
    rw [hj] at this
    simp only [Bool.and_eq_true, List.all_eq_true] at this
    exact ⟨by have := Nat.le_of_ble_eq_true this.1; omega, this.2⟩
  · have := List.all_eq_true.1 hr r hrm
    rw [Bool.and_eq_true] at this
    have := this.2
    rw [hk] at this
    simp only [Bool.and_eq_true, List.all_eq_true] at this
    refine ⟨by have := Nat.le_of_ble_eq_true this.1.1; omega, fun j hj => ?_, this.2⟩
    have := this.1.2
    rw [hj] at this
    exact this
  · have := hn' i I hi
    unfold chkN at this
    rw [Bool.and_eq_true] at this
    have := List.all_eq_true.1 this.1 r hrm
    rw [inb I _ h1 h2, Bool.not_true, Bool.false_or] at this
    split at this
    · next j hj =>
      rw [Bool.or_eq_true] at this
      exact ⟨j, hj, this.imp beq_t id⟩
    · cases this
  · have := hn' i I hi
    unfold chkN at this
    rw [Bool.and_eq_true] at this
    have := List.all_eq_true.1 this.2 (J, j) (List.mem_zipIdx_iff_getElem?.2 hj)
    have := List.all_eq_true.1 this p hp
    rw [inb I _ h1 h2, Bool.not_true, Bool.false_or, Bool.or_eq_true] at this
    exact this.imp beq_t id
  · have := List.all_eq_true.1 (List.all_eq_true.1 hu i (List.mem_range.2 hi)) j (List.mem_range.2 hj)
    rw [beq_no hne, Bool.false_or, hti] at this
    simp [htj] at this
end
section
section
variable {P : Program} {N : Nd} {we : World} {Se : Nat → Prop} {ms : List MF} {Γ : List FF} {Q : Qs} {env0 : Env} {l : List Oper} {m : Nat}
theorem slot_of {Lp : List (Oper × Pr)} (hpre : ∀ i, i < m → ∃ Φ, Lp[i]? = some (opAt l i, Φ)) (hpre' : ∀ (i : Nat) (x : Oper × Pr), Lp[i]? = some x → i < m ∧ x.1 = opAt l i) {D : Nat → Bool} {env : Env} {S : Nat → Prop} {w : World} {i : Nat} {t : Tmp}
    (henv : ∀ t, (∀ i, i < m → D i = true → (opAt l i).dst ≠ some t) → env t = env0 t) (hfa : (fAll Lp D env).p S w) (him : i ≤ m) (ht : ∀ j, j < m → (opAt l j).dst = some t → (D j = true ↔ j < i)) : holdK (Kof (Lp.take i) []) env0 env S w t := by
  unfold holdK
  rcases Kof_find t (Lp.take i) [] with ⟨j, y, g1, g2, g3, g4⟩ | ⟨g1, g2⟩
  · rw [g4]
    rw [List.getElem?_take] at g1
    split at g1
    · next hji =>
      obtain ⟨hjm, hy⟩ := hpre' j y g1
      exact hfa j y t ((ht j hjm (hy ▸ g2)).2 hji) g1 g2
    · cases g1
  · rw [g2]
    simp only [List.find?_nil]
    refine henv t fun j hj hDj hdj => ?_
    have hji := (ht j hj hdj).1 hDj
    obtain ⟨Φ, hΦ⟩ := hpre j hj
    exact g1 j (opAt l j, Φ) (by rw [List.getElem?_take, if_pos hji]; exact hΦ) hdj
theorem looks_of (hc : drawOK2 l m = true) {Lp : List (Oper × Pr)} (hpre : ∀ i, i < m → ∃ Φ, Lp[i]? = some (opAt l i, Φ)) (hpre' : ∀ (i : Nat) (x : Oper × Pr), Lp[i]? = some x → i < m ∧ x.1 = opAt l i) {D : Nat → Bool} {env : Env} {S : Nat → Prop} {w : World} {i : Nat}
    (him : i < m) (hDi : D i = false) (hedge : ∀ e ∈ (opAt l i).after, Region.binds .any e = true → D e.on = true) (hdown : ∀ j, D j = true → ∀ e ∈ (opAt l j).after, Region.binds .any e = true → D e.on = true)
    (henv : ∀ t, (∀ i, i < m → D i = true → (opAt l i).dst ≠ some t) → env t = env0 t) (hfa : (fAll Lp D env).p S w) : HoldL (Kof (Lp.take i) []) env0 env S w (Oper.looksAt l.toArray (opAt l i)) := by
  obtain ⟨h0, h1, h2, h3, h3'⟩ := draw_parts2 hc
  have hil : i < l.length := by omega
  have hlast : ∀ t, t ∈ Oper.looksAt l.toArray (opAt l i) → ∀ j, j < m → (opAt l j).dst = some t → j ≠ i → (D j = true ↔ j < i) := by
    intro t ht j hj hjt hne
    have h7 := h2 i j t him hj hne hjt (.inl ht)
    constructor
    · intro hlj
      rcases Nat.lt_or_ge j i with h | h
      · exact h
      · exfalso
        obtain ⟨e, he, hb, hon⟩ := edge_of (h7.2 (by omega))
        have h8 := hdown j hlj e he hb
        rw [hon, hDi] at h8; cases h8
    · intro hji
      obtain ⟨e, he, hb, hon⟩ := edge_of (h7.1 hji)
      have h8 := hedge e he hb
      rwa [hon] at h8
  exact HoldL_of _ fun t ht => slot_of hpre hpre' henv hfa (by omega) fun j hj hjt => by
    by_cases hji : j = i
    · subst hji; rw [hDi]; simp
    · exact hlast t ht j hj hjt hji
def alD (D : Nat → Bool) (r : Rb) : Bool := (match r.a with
  | none => true
  | some j => D j) && !(match r.c with
  | none => false
  | some k => D k)
theorem reach_edge {D : Nat → Bool} {i : Nat} (hedge : ∀ e ∈ (opAt l i).after, Region.binds .any e = true → D e.on = true) (hdown : ∀ j, D j = true → ∀ e ∈ (opAt l j).after, Region.binds .any e = true → D e.on = true) : ∀ (f j : Nat), reachB l f i j = true → D j = true
  | 0, j, h => by
    obtain ⟨e, he, hb, rfl⟩ := edge_of h
    exact hedge e he hb
  | f + 1, j, h => by
    unfold reachB at h
    rw [Bool.or_eq_true] at h
    rcases h with h | h
    · obtain ⟨e, he, hb, rfl⟩ := edge_of h
      exact hedge e he hb
    · rw [List.any_eq_true] at h
      obtain ⟨e, he, hb⟩ := h
      rw [Bool.and_eq_true] at hb
      exact reach_D hdown f e.on j (hedge e (Array.mem_toList_iff.1 he) hb.1) hb.2
theorem avL_congr {al al' : Rb → Bool} : ∀ {rs : List Rb}, (∀ r ∈ rs, al r = al' r) → avL al rs = avL al' rs
  | [], _ => rfl
  | r :: rs, h => by
    have ih := avL_congr (rs := rs) fun q hq => h q (List.mem_cons_of_mem _ hq)
    unfold avL at ih ⊢
    rw [List.filterMap_cons, List.filterMap_cons, h r (List.mem_cons_self ..), ih]
theorem St.mid {we : World} {Se : Nat → Prop} {A B : List MF} {m : MF} {Γ : List FF} {w : World} (h : St we Se (A ++ m :: B) Γ w) : St we Se (m :: (A ++ B)) Γ w := St.perm h List.perm_middle
theorem St.dropM {we : World} {Se : Nat → Prop} {Γ : List FF} {w : World} : ∀ {A B C : List MF}, St we Se (A ++ (B ++ C)) Γ w → St we Se (A ++ C) Γ w
  | A, [], C, h => h
  | A, b :: B, C, h => St.dropM (B := B) (St.drop (i := 0) (St.mid h))
def isD (l : List Oper) (pn : Option Nat) (j : Nat) : Bool := match pn with
  | some i0 => Nat.beq j i0 || reachB l 16 j i0
  | none => false
def keepB (r : Rb) : Bool := r.a.isNone && r.c.isNone
def ObP (P : Program) (ops : Array Oper) (we : World) (Se : Nat → Prop) (mE : List MF) (Γ : List FF) (env0 : Env) (vs : Nat → Value) (n0 : Nat) (q : PX) (rs : List Rb) (KL : List (Tmp × List (Nat × Dv))) (i : Nat) (o : Oper) : Prop :=
  ∀ vs', (∀ p, p < n0 → vs' p = vs p) → ∀ (env : Env) (F : List MF) (G : List FF) (w : World), St we Se (MS vs' (cOf i rs) ++ (mE ++ F)) (fHold (KV P vs' KL) env0 env (o.looksAt ops) :: (Γ ++ G)) w →
    wantedE ops env o = true ∧ OpP P o env w (fun ch w' => ch = chOf q ∧ St we Se (mE ++ F) (Γ ++ G) w')
theorem avL_cons {p : Rb → Bool} {r : Rb} {rs : List Rb} : avL p (r :: rs) = bif p r then (r.o, r.x) :: avL p rs else avL p rs := by
  unfold avL
  rw [List.filterMap_cons]
  cases p r <;> rfl
theorem avL_part {p q : Rb → Bool} : ∀ {rs : List Rb}, (∀ r ∈ rs, p r = true → q r = true) → (avL q rs).Perm (avL p rs ++ avL (fun r => q r && !p r) rs)
  | [], _ => List.Perm.refl _
  | r :: rs, h => by
    have ih := avL_part (rs := rs) fun q hq => h q (List.mem_cons_of_mem _ hq)
    have h1 := h r (List.mem_cons_self ..)
    rw [avL_cons, avL_cons, avL_cons]
    cases hp : p r with
    | false =>
      cases hq : q r with
      | false => exact ih
      | true => exact (List.Perm.cons _ ih).trans List.perm_middle.symm
    | true =>
      rw [h1 hp]
      exact List.Perm.cons _ ih
theorem cOf_av {i : Nat} : ∀ {rs : List Rb}, cOf i rs = avL (fun r => decide (r.c = some i)) rs
  | rs => by unfold cOf avL; simp only [decide_eq_true_eq]
theorem pan_split {D : Nat → Bool} {i : Nat} {rs : List Rb} (hDi : D i = false) (hc : ∀ r ∈ rs, r.c = some i → alD D r = true) (hk : ∀ r ∈ rs, keepB r = true → alD D r = true ∧ r.c ≠ some i) :
    (avL (alD D) rs).Perm (cOf i rs ++ (avL keepB rs ++ avL (fun r => !decide (r.c = some i) && alD D r && !keepB r) rs)) := by
  rw [cOf_av]
  refine (avL_part fun r hr h => hc r hr (of_decide_eq_true h)).trans (List.Perm.append_left _ ?_)
  have := avL_part (p := keepB) (q := fun r => !decide (r.c = some i) && alD D r) (rs := rs) fun r hr h => by simp [(hk r hr h).1, (hk r hr h).2]
  rw [show (fun r => alD D r && !decide (r.c = some i)) = (fun r => !decide (r.c = some i) && alD D r) from funext fun r => Bool.and_comm ..]
  exact this
theorem T_any3P {id : Nat} {mE : List MF} (pn : Option Nat) (q : PX) (m : Nat) (Ls : List (List (Nat × Dv))) (is : List Oi) (rs : List Rb) (ts : List Tmp) (vs : Nat → Value) (n0 : Nat) (hm : P.follows .mixedOrders = true) (hc : drawOK2 l m = true) (hl : Ls.length = m) (hil : is.length = m) (hx : chkB l m rs is = true)
    (hms : MS vs (avL (fun r => r.a.isNone) rs) ++ mE = ms) (hd : (l.all fun o => okDst N.n o.dst) = true) (hpm : ∀ i0, pn = some i0 → i0 < m)
    (hobs : ∀ i x I, ((l.take m).zip Ls)[i]? = some x → is[i]? = some I → isD l pn i = false → ObB P l.toArray we Se mE Γ env0 vs n0 rs (KLof (((l.take m).zip Ls).take i) []) i x.1 x.2 I)
    (hpan : ∀ i0 x, pn = some i0 → ((l.take m).zip Ls)[i0]? = some x → rOf i0 rs = [] ∧ ObP P l.toArray we Se mE Γ env0 vs n0 q rs (KLof (((l.take m).zip Ls).take i0) []) i0 x.1)
    (finP : pn.isSome = true → ∀ (env : Env) (w : World) (vs' : Nat → Value), (∀ p, p < n0 → vs' p = vs p) → (∀ t, (∀ i, i < m → (opAt l i).dst ≠ some t) → env t = env0 t) → St we Se (MS vs' (avL keepB rs) ++ mE) Γ w → Q (.panic (chOf q)) env w)
    (fin : pn = none → ∀ (env : Env) (w : World) (vs' : Nat → Value), (∀ p, p < n0 → vs' p = vs p) → St we Se (MS vs' (avL (fun r => r.c.isNone) rs) ++ mE) (fHold (KV P vs' (KLof ((l.take m).zip Ls) [])) env0 env ts :: Γ) w → WpL P N l.toArray (l.drop m) Q env w) :
    T P N we Se ms Γ (.region id l.toArray true) Q env0 := by
  obtain ⟨h0, h1, h2, h3, h3'⟩ := draw_parts2 hc
  have hp := chk_parts hx
  obtain ⟨L, hL⟩ : ∃ L, L = (l.take m).zip Ls := ⟨_, rfl⟩
  rw [← hL] at hobs hpan fin
  have hLl : L.length = m := by rw [hL]; simp; omega
  have hpre : ∀ i, i < m → ∃ x, L[i]? = some (opAt l i, x) := fun i hi => by
    have hil : i < l.length := Nat.lt_of_lt_of_le hi h0
    have hidx : i < Ls.length := hl.symm ▸ hi
    refine ⟨Ls[i]'(hidx), ?_⟩
    rw [hL, List.getElem?_zip_eq_some]
    refine ⟨?_, by simp⟩
    rw [List.getElem?_take, if_pos hi]
    simp [opAt, hil]
  have hpre' : ∀ i x, L[i]? = some x → i < m ∧ x.1 = opAt l i := fun i x hx => by
    have hi : i < m := by have := (List.getElem?_eq_some_iff.1 hx).1; omega
    obtain ⟨Φ, h⟩ := hpre i hi
    rw [h] at hx; cases hx; exact ⟨hi, rfl⟩
  have opre : ∀ vs' i, i < m → ∃ Φ, (OL P vs' L)[i]? = some (opAt l i, Φ) := fun vs' i hi => by
    obtain ⟨x, h⟩ := hpre i hi
    exact ⟨_, by rw [OL, List.getElem?_map, h]; rfl⟩
  have opre' : ∀ vs' (i : Nat) (x : Oper × Pr), (OL P vs' L)[i]? = some x → i < m ∧ x.1 = opAt l i := fun vs' i x hx => by
    rw [OL, List.getElem?_map] at hx
    cases hy : L[i]? with
    | none => rw [hy] at hx; cases hx
    | some y => rw [hy] at hx; cases hx; exact hpre' i y hy
  refine T_invP m (fun D env w => (∀ j, D j = true → isD l pn j = false) ∧ (∀ t, (∀ i, i < m → D i = true → (opAt l i).dst ≠ some t) → env t = env0 t) ∧ ∃ vs', (∀ p, p < n0 → vs' p = vs p) ∧ St we Se (MS vs' (avL (alD D) rs) ++ mE) (Γ ++ [fAll (OL P vs' L) D env]) w) hm hc hd ?_ ?_ ?_
  · intro w hw
    refine ⟨fun _ hj => (by cases hj), fun t _ => rfl, vs, fun _ _ => rfl, ?_⟩
    have : alD (fun _ => false) = fun r => r.a.isNone := by
      funext r
      unfold alD
      cases r.a <;> cases r.c <;> rfl
    rw [this, hms]
    exact hw.weak fun S w h => All.append h ⟨fun i x t hi => (by cases hi), trivial⟩
  · rintro D i env w him hDi hlow hedge hdown ⟨hdd, henv, vs', hvs, hst⟩
    have hil' : i < l.length := by omega
    obtain ⟨x, hxi⟩ := hpre i him
    obtain ⟨I, hI⟩ : ∃ I, is[i]? = some I := ⟨_, List.getElem?_eq_getElem (by omega)⟩
    have hreach : ∀ j, reachB l 16 i j = true → D j = true := fun j hj => reach_edge hedge hdown 16 j hj
    have hno : ∀ k, D k = true → reachB l 16 k i ≠ true := fun k hk hr => by
      have := reach_D hdown 16 k i hk hr
      rw [hDi] at this; cases this
    have hlooks : ∀ S : Nat → Prop, ∀ w : World, (fAll (OL P vs' L) D env).p S w → HoldL (KV P vs' (KLof (L.take i) [])) env0 env S w (Oper.looksAt l.toArray (opAt l i)) := fun S w hfa => by
      rw [KV_of]
      have := looks_of hc (opre vs') (opre' vs') him hDi hedge hdown henv hfa
      rw [show OL P vs' (L.take i) = (OL P vs' L).take i by unfold OL; rw [List.map_take]]
      exact this
    by_cases hdi : isD l pn i = true
    · obtain ⟨i0, rfl⟩ : ∃ i0, pn = some i0 := by cases pn with
        | none => cases hdi
        | some i0 => exact ⟨i0, rfl⟩
      have hsf : isD l (some i0) i0 = true := by simp [isD]
      have hi0 : i = i0 := by
        simp only [isD, Bool.or_eq_true] at hdi
        rcases hdi with h | h
        · exact beq_t h
        · exact absurd (hdd i0 (hreach i0 h)) (by rw [hsf]; exact Bool.noConfusion)
      subst hi0
      obtain ⟨hr0, hob⟩ := hpan i _ rfl hxi
      have hcl : ∀ r ∈ rs, r.c = some i → alD D r = true := fun r hr hci => by
        unfold alD
        rw [hci]
        simp only [hDi, Bool.not_false, Bool.and_true]
        cases ha : r.a with
        | none => rfl
        | some j => exact hreach j ((hp.c r hr i hci).2.1 j ha)
      have hpm := pan_split (D := D) (i := i) hDi hcl (fun r hr h => by
        simp only [keepB, Bool.and_eq_true, Option.isNone_iff_eq_none] at h
        refine ⟨?_, by rw [h.2]; exact fun e => by cases e⟩
        unfold alD; rw [h.1, h.2]; rfl)
      have hst2 : St we Se (MS vs' (cOf i rs) ++ (mE ++ (MS vs' (avL keepB rs) ++ MS vs' (avL (fun r => !decide (r.c = some i) && alD D r && !keepB r) rs)))) (fHold (KV P vs' (KLof (L.take i) [])) env0 env (Oper.looksAt l.toArray (opAt l i)) :: (Γ ++ [fAll (OL P vs' L) D env])) w := by
        refine St.weak (hst.perm ?_) fun S w h => ⟨hlooks S w (All.right (Γ := Γ) h).1, h⟩
        have e1 : (MS vs' (avL (alD D) rs)).Perm (MS vs' (cOf i rs) ++ (MS vs' (avL keepB rs) ++ MS vs' (avL (fun r => !decide (r.c = some i) && alD D r && !keepB r) rs))) := by
          unfold MS
          rw [← List.map_append, ← List.map_append]
          exact hpm.map _
        refine (List.Perm.append_right mE e1).trans ?_
        rw [List.append_assoc]
        exact List.Perm.append_left _ List.perm_append_comm
      obtain ⟨hw1, hop⟩ := hob vs' hvs env _ [fAll (OL P vs' L) D env] w hst2
      refine ⟨fun _ => .inr (hop.mono fun ch w' ⟨hch, hs⟩ => ?_), fun hw => (by rw [hw1] at hw; cases hw)⟩
      subst hch
      refine finP rfl env w' vs' hvs (fun t ht => henv t fun j hj _ => ht j hj) ?_
      refine St.weak (Γ := Γ ++ [fAll (OL P vs' L) D env]) ?_ fun S w h => All.left h
      have h1 : St we Se ([] ++ (MS vs' (avL (fun r => !decide (r.c = some i) && alD D r && !keepB r) rs) ++ (MS vs' (avL keepB rs) ++ mE))) (Γ ++ [fAll (OL P vs' L) D env]) w' := by
        refine hs.perm ?_
        rw [List.nil_append, ← List.append_assoc, ← List.append_assoc]
        exact (List.perm_append_comm.trans (List.Perm.append_left _ List.perm_append_comm)).trans (List.Perm.of_eq (List.append_assoc ..).symm)
      exact St.dropM (A := []) h1
    have hdi : isD l pn i = false := by simpa using hdi
    obtain ⟨o1, o2, o3, o4, hob⟩ := hobs i _ I hxi hI hdi
    have hcls : ∀ r ∈ rs, (r.c = some i ∧ i ∉ r.rd ∧ r.a ≠ some i ∧ alD D r = true ∧ alD (ins D i) r = false) ∨ (r.a = some i ∧ r.c ≠ some i ∧ i ∉ r.rd ∧ alD D r = false ∧ alD (ins D i) r = true) ∨
        (i ∈ r.rd ∧ r.c ≠ some i ∧ r.a ≠ some i ∧ alD D r = true ∧ alD (ins D i) r = true) ∨ (r.c ≠ some i ∧ r.a ≠ some i ∧ i ∉ r.rd ∧ alD D r = alD (ins D i) r) := by
      intro r hr
      have hself : reachB l 16 i i ≠ true := fun h => by have := hreach i h; rw [hDi] at this; cases this
      have hins : ∀ j, j ≠ i → ins D i j = D j := fun j hj => ins_ne hj
      by_cases hci : r.c = some i
      · obtain ⟨c1, c2, c3⟩ := hp.c r hr i hci
        have hrd : i ∉ r.rd := fun h => hself (c3 i h)
        have hai : r.a ≠ some i := fun h => hself (c2 i h)
        refine .inl ⟨hci, hrd, hai, ?_, ?_⟩
        · unfold alD
          rw [hci]
          simp only [hDi, Bool.not_false, Bool.and_true]
          cases ha : r.a with
          | none => rfl
          | some j => exact hreach j (c2 j ha)
        · unfold alD
          rw [hci]
          simp only [ins_self, Bool.not_true, Bool.and_false]
      · by_cases hai : r.a = some i
        · obtain ⟨a1, a2⟩ := hp.a r hr i hai
          have hrd : i ∉ r.rd := fun h => hself (a2 i h)
          refine .inr (.inl ⟨hai, hci, hrd, ?_, ?_⟩)
          · unfold alD
            rw [hai]
            simp only [hDi, Bool.false_and]
          · unfold alD
            rw [hai]
            simp only [ins_self, Bool.true_and]
            cases hcc : r.c with
            | none => rfl
            | some k =>
              simp only
              rw [hins k (fun e => hci (by rw [hcc, e]))]
              cases hDk : D k with
              | false => rfl
              | true => exact absurd ((hp.c r hr k hcc).2.1 i hai) (hno k hDk)
        · have hgone : ∀ k, r.c = some k → i ∈ r.rd → D k = false := fun k hk hi => by
            cases hDk : D k with
            | false => rfl
            | true => exact absurd ((hp.c r hr k hk).2.2 i hi) (hno k hDk)
          have hsame : alD (ins D i) r = alD D r := by
            unfold alD
            cases ha : r.a with
            | none =>
              cases hcc : r.c with
              | none => rfl
              | some k => simp only; rw [hins k (fun e => hci (by rw [hcc, e]))]
            | some j =>
              cases hcc : r.c with
              | none => simp only; rw [hins j (fun e => hai (by rw [ha, e]))]
              | some k => simp only; rw [hins j (fun e => hai (by rw [ha, e])), hins k (fun e => hci (by rw [hcc, e]))]
          by_cases hrd : i ∈ r.rd
          · have : alD D r = true := by
              unfold alD
              have e1 : (match r.c with | none => false | some k => D k) = false := by
                cases hcc : r.c with
                | none => rfl
                | some k => exact hgone k hcc hrd
              rw [e1]
              simp only [Bool.not_false, Bool.and_true]
              cases ha : r.a with
              | none => rfl
              | some j => exact hreach j ((hp.a r hr j ha).2 i hrd)
            exact .inr (.inr (.inl ⟨hrd, hci, hai, this, hsame.trans this⟩))
          · exact .inr (.inr (.inr ⟨hci, hai, hrd, hsame.symm⟩))
    obtain ⟨rest, hrest, p1, p2⟩ := av_split hcls
    have hst2 : St we Se (MS vs' (cOf i rs ++ rOf i rs) ++ (mE ++ MS vs' rest)) (fHold (KV P vs' (KLof (L.take i) [])) env0 env (Oper.looksAt l.toArray (opAt l i)) :: (Γ ++ [fAll (OL P vs' L) D env])) w := by
      refine St.weak (hst.perm ?_) fun S w h => ⟨hlooks S w (All.right (Γ := Γ) h).1, h⟩
      have e1 : (MS vs' (avL (alD D) rs)).Perm (MS vs' (cOf i rs ++ rOf i rs) ++ MS vs' rest) := by
        unfold MS
        rw [← List.map_append, List.append_assoc]
        exact p1.map _
      refine (List.Perm.append_right mE e1).trans ?_
      rw [List.append_assoc]
      exact List.Perm.append_left _ List.perm_append_comm
    have hob := hob vs' hvs env (MS vs' rest) [fAll (OL P vs' L) D env] w hst2
    have hnew : ∀ (v : Value) (t : Tmp), (∀ i', i' < m → ins D i i' = true → (opAt l i').dst ≠ some t) → put env (opAt l i).dst v t = env0 t := fun v t ht => by
      rw [put_ne (ht i him (ins_self D i))]
      exact henv t fun j hj hDj => ht j hj (ins_old hDj)
    have close : ∀ (v : Value) (w' : World) (vs2 : Nat → Value), (∀ p, p < I.lo → vs2 p = vs' p) → St we Se (MS vs2 (pOf i rs) ++ (MS vs' (rOf i rs) ++ (mE ++ MS vs' rest))) (resL P vs2 v x ++ (Γ ++ [fAll (OL P vs' L) D env])) w' →
        ∃ vs3, (∀ p, p < n0 → vs3 p = vs p) ∧ St we Se (MS vs3 (avL (alD (ins D i)) rs) ++ mE) (Γ ++ [fAll (OL P vs3 L) (ins D i) (put env (opAt l i).dst v)]) w' := by
      intro v w' vs2 hv2 hs
      have e3 : ∃ vs3 : Nat → Value, vs3 = fun p => if I.lo ≤ p ∧ p < I.hi then vs2 p else vs' p := ⟨_, rfl⟩
      obtain ⟨vs3, e3⟩ := e3
      have hlow3 : ∀ p, p < I.hi → vs3 p = vs2 p := fun p hp => by
        rw [e3]
        simp only
        split
        · rfl
        · next hc => exact (hv2 p (by omega)).symm
      have hout3 : ∀ p, ¬ (I.lo ≤ p ∧ p < I.hi) → vs3 p = vs' p := fun p hp => by
        rw [e3]
        exact if_neg hp
      refine ⟨vs3, fun p hp => (hout3 p (by omega)).trans (hvs p hp), ?_⟩
      have hal : ∀ r ∈ rs, alD D r = true → vs3 r.o = vs' r.o := fun r hr hal => hout3 r.o fun ⟨g1, g2⟩ => by
        obtain ⟨j, hj, hji⟩ := hp.n i I hI r hr g1 g2
        unfold alD at hal
        rw [hj, Bool.and_eq_true] at hal
        rcases hji with rfl | hji
        · have := hal.1; simp only at this; rw [hDi] at this; cases this
        · exact hno j hal.1 hji
      have m1 : MS vs3 (pOf i rs) = MS vs2 (pOf i rs) := MS_congr fun e he => hlow3 e.1 (o4 e he)
      have m2 : MS vs3 (rOf i rs) = MS vs' (rOf i rs) := MS_congr fun e he => by
        obtain ⟨r, hr, hre⟩ := List.mem_filterMap.1 he
        split at hre
        · next hi =>
          cases hre
          rcases hcls r hr with ⟨a1, a2, _⟩ | ⟨a1, a2, a3, _⟩ | ⟨a1, a2, a3, a4, _⟩ | ⟨a1, a2, a3, _⟩
          · exact absurd hi a2
          · exact absurd hi a3
          · exact hal r hr a4
          · exact absurd hi a3
        · cases hre
      have m3 : MS vs3 rest = MS vs' rest := MS_congr fun e he => by
        obtain ⟨r, hr, rfl, h1, _⟩ := hrest e he
        exact hal r hr h1
      have hpm : (MS vs3 (avL (alD (ins D i)) rs) ++ mE).Perm (MS vs2 (pOf i rs) ++ (MS vs' (rOf i rs) ++ (mE ++ MS vs' rest))) := by
        rw [← m1, ← m2, ← m3]
        have e1 : (MS vs3 (avL (alD (ins D i)) rs)).Perm (MS vs3 (pOf i rs) ++ (MS vs3 (rOf i rs) ++ MS vs3 rest)) := by
          unfold MS
          rw [← List.map_append, ← List.map_append]
          exact p2.map _
        refine (List.Perm.append_right mE e1).trans ?_
        rw [List.append_assoc, List.append_assoc]
        exact List.Perm.append_left _ (List.Perm.append_left _ List.perm_append_comm)
      refine St.weak (hs.perm hpm.symm) fun S w2 h => ?_
      have hΓ := All.right h
      refine All.append (All.left hΓ) ⟨?_, trivial⟩
      have hfa := (All.right hΓ).1
      intro j y t hj hy ht
      rw [OL, List.getElem?_map] at hy
      cases hz : L[j]? with
      | none => rw [hz] at hy; cases hy
      | some z =>
        rw [hz] at hy
        cases hy
        obtain ⟨hjm, hzo⟩ := hpre' j z hz
        by_cases hji : j = i
        · subst hji
          rw [hxi] at hz
          cases hz
          have ht' : (opAt l j).dst = some t := ht
          show (prL P vs3 x).p S (put env (opAt l j).dst v t) w2
          rw [ht', put_eq]
          intro e he
          have := all_mem.1 (All.left h) _ (List.mem_map.2 ⟨e, he, rfl⟩)
          have hc' : holdC P vs3 e.2 v e.1 = holdC P vs2 e.2 v e.1 := by
            unfold holdC
            simp only [hold_vs (P := P) (vs' := vs3) (vs := vs2) (d := e.2) fun o ho => hlow3 o (o3 e he o ho).1]
          rw [hc']; exact this
        · rw [ins_ne hji] at hj
          have hne : (opAt l i).dst ≠ some t := hp.uniq j i t hjm him hji (hzo ▸ ht)
          show (prL P vs3 z.2).p S (put env (opAt l i).dst v t) w2
          rw [put_ne hne]
          intro e he
          have := hfa j (z.1, prL P vs' z.2) t hj (by rw [OL, List.getElem?_map, hz]; rfl) ht
          have := this e he
          obtain ⟨J, hJ⟩ : ∃ J, is[j]? = some J := ⟨_, List.getElem?_eq_getElem (by omega)⟩
          obtain ⟨_, _, q3, _, _⟩ := hobs j _ J hz hJ (hdd j hj)
          have hc' : holdC P vs3 e.2 (env t) e.1 = holdC P vs' e.2 (env t) e.1 := by
            unfold holdC
            simp only [hold_vs (P := P) (vs' := vs3) (vs := vs') (d := e.2) fun o ho => hout3 o fun ⟨g1, g2⟩ => by
              rcases hp.f i I j J hI hJ o (q3 e he o ho).2 g1 g2 with h | h
              · exact hji h
              · exact hno j hj h]
          rw [hc']; exact this
    have hins' : ∀ j, ins D i j = true → isD l pn j = false := fun j hj => by
      by_cases h : j = i
      · rw [h]; exact hdi
      · rw [ins_ne h] at hj; exact hdd j hj
    refine ⟨fun hw => .inl ((hob.1 hw).mono fun v w' ⟨vs2, hv2, hs⟩ => ⟨hins', hnew v, close v w' vs2 hv2 hs⟩), fun hw => ⟨hins', hnew undef, ?_⟩⟩
    obtain ⟨g1, g2, g3⟩ := hob.2 hw
    refine close undef w vs' (fun _ _ => rfl) ?_
    rw [g1, List.nil_append] at hst2
    rw [g2]
    refine St.weak (show St we Se (MS vs' [] ++ (MS vs' (rOf i rs) ++ (mE ++ MS vs' rest))) _ w from hst2) fun S w h => All.append (g3 S w) h.2
  · rintro D env w hall hlow ⟨hdd, henv, vs', hvs, hst⟩
    have hpn : pn = none := by
      cases pn with
      | none => rfl
      | some i0 => exact absurd (hdd i0 (hall i0 (hpm i0 rfl))) (by simp [isD])
    refine fin hpn env w vs' hvs ?_
    have hav : avL (alD D) rs = avL (fun r => r.c.isNone) rs := by
      refine avL_congr fun r hr => ?_
      have : alD D r = r.c.isNone := by
        unfold alD
        have e1 : (match r.a with | none => true | some j => D j) = true := by
          cases ha : r.a with
          | none => rfl
          | some j => exact hall j (hp.a r hr j ha).1
        rw [e1]
        cases hcc : r.c with
        | none => rfl
        | some k => simp only [hall k (hp.c r hr k hcc).1]; rfl
      exact this
    rw [hav] at hst
    refine hst.weak fun S w h => ⟨?_, All.left h⟩
    refine HoldL_of ts fun t _ => ?_
    have := slot_of (i := m) (t := t) (opre vs') (opre' vs') henv (All.right (Γ := Γ) h).1 (Nat.le_refl m) fun j hj _ => ⟨fun _ => hj, fun _ => hall j hj⟩
    rw [KV_of]
    rwa [List.take_of_length_le (by unfold OL; rw [List.length_map]; omega)] at this
end
end
section
section
variable {P : Program} {cf : Cf} {fr : Fr} {cx σ σ0 : Sg} {vs vs' : Nat → Value} {env env0 : Env} {w : World} {R : Type} {r : R}
theorem dd_mem : ∀ {rg : List (Nat × Nat × Dv)} {e : Nat × Nat × Dv}, e ∈ dd rg → e ∈ rg
  | a :: r, e, h => by
    rcases List.mem_cons.1 h with rfl | h
    · exact List.mem_cons_self ..
    · exact List.mem_cons_of_mem _ (dd_mem (List.mem_filter.1 h).1)
theorem dd_fnd : ∀ {rg : List (Nat × Nat × Dv)} {e : Nat × Nat × Dv}, e ∈ dd rg → fnd rg e.1 e.2.1 = some e.2.2
  | (t, i, d) :: r, e, h => by
    rcases List.mem_cons.1 h with rfl | h
    · unfold fnd; simp
    · obtain ⟨h1, h2⟩ := List.mem_filter.1 h
      unfold fnd
      simp only [Bool.not_eq_true'] at h2
      rw [h2]
      exact dd_fnd h1
theorem agree_self : ∀ (ts : List Nat), agree env (ts.map fun t => (t, env t))
  | [] => rfl
  | t :: ts => agree_cons rfl (agree_self ts)
theorem L_self {rest : Env} : ∀ {ts : List Nat} {t : Nat}, t ∈ ts → L (ts.map fun t => (t, env t)) rest t = env t
  | s :: ts, t, h => by
    simp only [List.map_cons, L]
    cases hb : Nat.beq t s
    · simp only [cond_false]
      rcases List.mem_cons.1 h with rfl | h
      · simp at hb
      · exact L_self h
    · rw [beq_t hb]; rfl
theorem rel_frzA : ∀ (l : List Oper) (al : List (Nat × Operand)) {σ : Sg}, Rel P fr cx σ env w → Rel P fr cx (frzA cf cx l al σ) env w
  | [], _, _, h => h
  | o :: r, al, σ, h => rel_frzA r _ (rel_frzL _ h)
theorem gd_take {N : Nat} {l : List Oper} (h : (l.all fun o => okDst N o.dst) = true) (m : Nat) : ((l.drop m).all fun o => okDst N o.dst) = true := by grind [List.all_eq_true, List.mem_of_mem_drop]
theorem relV_frzOs : ∀ (l : List Nat) {σ : Sg}, RelV P fr cx σ vs env w → RelV P fr cx (frzOs σ l) vs env w
  | [], _, h => h
  | o :: r, _, h => relV_frzOs r (relV_frzO h)
theorem frzOs_nx : ∀ (l : List Nat) (σ : Sg), (frzOs σ l).nx = σ.nx
  | [], _ => rfl
  | o :: r, σ => by
    show (frzOs (frzO σ o) r).nx = _
    rw [frzOs_nx r]
    unfold frzO
    split <;> rfl
structure RX1 (i : Nat) (r r' : Rb) : Prop where
  a : r'.a = r.a
  o : r'.o = r.o
  x : r'.x = r.x
  c1 : ∀ k, r.c = some k → r'.c = some k
  c2 : r.c = none → ∀ k, r'.c = some k → i ≤ k
  d1 : ∀ j ∈ r.rd, j ∈ r'.rd
  d2 : ∀ j ∈ r'.rd, j ∈ r.rd ∨ i ≤ j
def RX (i : Nat) : List Rb → List Rb → Prop
  | [], rs' => ∀ r ∈ rs', (∃ j, r.a = some j ∧ i ≤ j) ∧ (∀ k, r.c = some k → i ≤ k) ∧ ∀ j ∈ r.rd, i ≤ j
  | _ :: _, [] => False
  | r :: rs, r' :: rs' => RX1 i r r' ∧ RX i rs rs'
def OldB (i : Nat) (rs : List Rb) : Prop := ∀ r ∈ rs, (∀ j, r.a = some j → j < i) ∧ (∀ k, r.c = some k → k < i) ∧ ∀ j ∈ r.rd, j < i
theorem RX.refl (i : Nat) : ∀ rs : List Rb, RX i rs rs
  | [] => fun r hr => absurd hr List.not_mem_nil
  | r :: rs => ⟨⟨rfl, rfl, rfl, fun _ h => h, fun h k hk => (by rw [h] at hk; cases hk), fun _ h => h, fun _ h => .inl h⟩, RX.refl i rs⟩
theorem RX_nil {i : Nat} {rs' : List Rb} (h : RX (i + 1) [] rs') : RX i [] rs' ∧ cOf i rs' = [] ∧ pOf i rs' = [] ∧ rOf i rs' = [] := by
  refine ⟨fun r hr => ?_, ?_, ?_, ?_⟩
  · obtain ⟨⟨j, h1, h2⟩, h3, h4⟩ := h r hr
    exact ⟨⟨j, h1, by omega⟩, fun k hk => by have := h3 k hk; omega, fun j hj => by have := h4 j hj; omega⟩
  · refine List.filterMap_eq_nil_iff.2 fun r hr => if_neg fun e => ?_
    have := (h r hr).2.1 i e; omega
  · refine List.filterMap_eq_nil_iff.2 fun r hr => if_neg fun e => ?_
    obtain ⟨j, h1, h2⟩ := (h r hr).1
    rw [e] at h1; cases h1; omega
  · refine List.filterMap_eq_nil_iff.2 fun r hr => if_neg fun e => ?_
    have := (h r hr).2.2 i e; omega
theorem RX1.step {i : Nat} {r r1 r' : Rb} (h : RX1 (i + 1) r1 r') (ha : r1.a = r.a) (ho : r1.o = r.o) (hx : r1.x = r.x) (hc : ∀ k, r.c = some k → r1.c = some k) (hc2 : r.c = none → ∀ k, r1.c = some k → k = i) (hd : ∀ j ∈ r.rd, j ∈ r1.rd) (hd2 : ∀ j ∈ r1.rd, j ∈ r.rd ∨ j = i) : RX1 i r r' := {
  a := h.a.trans ha
  o := h.o.trans ho
  x := h.x.trans hx
  c1 := fun k hk => h.c1 k (hc k hk)
  c2 := fun hn k hk => by
    cases h1 : r1.c with
    | none => have := h.c2 h1 k hk; omega
    | some q =>
      have := h.c1 q h1
      rw [hk] at this
      cases this
      have := hc2 hn k h1
      omega
  d1 := fun j hj => h.d1 j (hd j hj)
  d2 := fun j hj => by
    rcases h.d2 j hj with h1 | h1
    · rcases hd2 j h1 with h2 | h2
      · exact .inl h2
      · exact .inr (by omega)
    · exact .inr (by omega) }
theorem RX_skip {i : Nat} : ∀ {rs rs' : List Rb}, OldB i rs → RX (i + 1) rs rs' → RX i rs rs' ∧ cOf i rs' = [] ∧ pOf i rs' = [] ∧ rOf i rs' = []
  | [], rs', _, h => RX_nil h
  | r :: rs, [], _, h => h.elim
  | r :: rs, r' :: rs', ho, ⟨h1, h2⟩ => by
    obtain ⟨g1, g2, g3, g4⟩ := RX_skip (rs := rs) (fun q hq => ho q (List.mem_cons_of_mem _ hq)) h2
    obtain ⟨q1, q2, q3⟩ := ho r (List.mem_cons_self ..)
    have e1 : r'.c ≠ some i := fun e => by
      cases hc : r.c with
      | none => have := h1.c2 hc i e; omega
      | some k => have := h1.c1 k hc; rw [e] at this; cases this; have := q2 i hc; omega
    have e2 : r'.a ≠ some i := fun e => by rw [h1.a] at e; have := q1 i e; omega
    have e3 : i ∉ r'.rd := fun e => by
      rcases h1.d2 i e with h | h
      · have := q3 i h; omega
      · omega
    refine ⟨⟨h1.step rfl rfl rfl (fun _ h => h) (fun hn k hk => (by rw [hn] at hk; cases hk)) (fun _ h => h) (fun _ h => .inl h), g1⟩, ?_, ?_, ?_⟩
    · unfold cOf at g2 ⊢; rw [List.filterMap_cons, if_neg e1]; exact g2
    · unfold pOf at g3 ⊢; rw [List.filterMap_cons, if_neg e2]; exact g3
    · unfold rOf at g4 ⊢; rw [List.filterMap_cons, if_neg e3]; exact g4
theorem RX_see {i : Nat} {os : List Nat} : ∀ {rs rs' : List Rb}, OldB i rs → RX (i + 1) (seeB i os rs) rs' → RX i rs rs' ∧ cOf i rs' = [] ∧ pOf i rs' = [] ∧ ∀ e ∈ visB os rs, e ∈ rOf i rs'
  | [], rs', _, h => by
    obtain ⟨g1, g2, g3, _⟩ := RX_nil h
    exact ⟨g1, g2, g3, fun e he => absurd he List.not_mem_nil⟩
  | r :: rs, [], _, h => h.elim
  | r :: rs, r' :: rs', ho, ⟨h1, h2⟩ => by
    obtain ⟨g1, g2, g3, g4⟩ := RX_see (rs := rs) (fun q hq => ho q (List.mem_cons_of_mem _ hq)) h2
    obtain ⟨q1, q2, q3⟩ := ho r (List.mem_cons_self ..)
    obtain ⟨r1, hr1⟩ : ∃ r1, r1 = (match r.c, has os r.o with | none, true => (⟨r.a, none, i :: r.rd, r.o, r.x⟩ : Rb) | _, _ => r) := ⟨_, rfl⟩
    have h1 : RX1 (i + 1) r1 r' := by rw [hr1]; exact h1
    have k1 : r1.a = r.a ∧ r1.o = r.o ∧ r1.x = r.x ∧ r1.c = r.c ∧ (∀ j ∈ r.rd, j ∈ r1.rd) ∧ (∀ j ∈ r1.rd, j ∈ r.rd ∨ j = i) := by
      rw [hr1]
      split
      · next hc _ => exact ⟨rfl, rfl, rfl, hc.symm, fun j hj => List.mem_cons_of_mem _ hj, fun j hj => (List.mem_cons.1 hj).symm⟩
      · exact ⟨rfl, rfl, rfl, rfl, fun _ h => h, fun _ h => .inl h⟩
    obtain ⟨ka, ko, kx, kc, kd, kd2⟩ := k1
    have e1 : r'.c ≠ some i := fun e => by
      cases hc : r.c with
      | none => have := h1.c2 (kc.trans hc) i e; omega
      | some k => have := h1.c1 k (kc.trans hc); rw [e] at this; cases this; have := q2 i hc; omega
    have e2 : r'.a ≠ some i := fun e => by rw [h1.a, ka] at e; have := q1 i e; omega
    refine ⟨⟨h1.step ka ko kx (fun k hk => kc.trans hk) (fun hn k hk => by rw [kc, hn] at hk; cases hk) kd kd2, g1⟩, ?_, ?_, ?_⟩
    · unfold cOf at g2 ⊢; rw [List.filterMap_cons, if_neg e1]; exact g2
    · unfold pOf at g3 ⊢; rw [List.filterMap_cons, if_neg e2]; exact g3
    · intro e he
      unfold visB at he
      unfold rOf at g4 ⊢
      rw [List.filterMap_cons]
      split at he
      · next hc hh =>
        have hi : i ∈ r'.rd := h1.d1 i (by rw [hr1, hc, hh]; exact List.mem_cons_self ..)
        rw [if_pos hi]
        rcases List.mem_cons.1 he with rfl | he
        · rw [h1.o, h1.x, ko, kx]; exact List.mem_cons_self ..
        · exact List.mem_cons_of_mem _ (g4 e he)
      · split
        · exact g4 e he
        · exact List.mem_cons_of_mem _ (g4 e he)
theorem RX_new {i : Nat} : ∀ {ob : List (Nat × Od)} {rs' : List Rb}, RX (i + 1) (newB i ob) rs' → RX i [] rs' ∧ cOf i rs' = [] ∧ pOf i rs' = ob ∧ rOf i rs' = []
  | [], rs', h => RX_nil h
  | e :: ob, [], h => h.elim
  | e :: ob, r' :: rs', ⟨h1, h2⟩ => by
    obtain ⟨g1, g2, g3, g4⟩ := RX_new (ob := ob) h2
    have e1 : r'.c ≠ some i := fun e => by have := h1.c2 rfl i e; omega
    have e2 : r'.a = some i := h1.a
    have e3 : i ∉ r'.rd := fun e => by
      rcases h1.d2 i e with h | h
      · cases h
      · omega
    refine ⟨fun r hr => ?_, ?_, ?_, ?_⟩
    · rcases List.mem_cons.1 hr with rfl | hr
      · exact ⟨⟨i, e2, Nat.le_refl _⟩, fun k hk => by have := h1.c2 rfl k hk; omega, fun j hj => by
          rcases h1.d2 j hj with h | h
          · cases h
          · omega⟩
      · exact g1 r hr
    · unfold cOf at g2 ⊢; rw [List.filterMap_cons, if_neg e1]; exact g2
    · unfold pOf at g3 ⊢; rw [List.filterMap_cons, if_pos e2, g3, h1.o, h1.x]
    · unfold rOf at g4 ⊢; rw [List.filterMap_cons, if_neg e3]; exact g4
theorem RX_use {i : Nat} {os : List Nat} {ob : List (Nat × Od)} : ∀ {rs rs' : List Rb}, OldB i rs → RX (i + 1) (useB i os rs ++ newB i ob) rs' → RX i rs rs' ∧ cOf i rs' = visB os rs ∧ pOf i rs' = ob ∧ rOf i rs' = []
  | [], rs', _, h => RX_new h
  | r :: rs, [], _, h => h.elim
  | r :: rs, r' :: rs', ho, ⟨h1, h2⟩ => by
    obtain ⟨g1, g2, g3, g4⟩ := RX_use (rs := rs) (fun q hq => ho q (List.mem_cons_of_mem _ hq)) h2
    obtain ⟨q1, q2, q3⟩ := ho r (List.mem_cons_self ..)
    obtain ⟨r1, hr1⟩ : ∃ r1, r1 = (match r.c, has os r.o with | none, true => (⟨r.a, some i, r.rd, r.o, r.x⟩ : Rb) | _, _ => r) := ⟨_, rfl⟩
    have h1 : RX1 (i + 1) r1 r' := by rw [hr1]; exact h1
    have k1 : r1.a = r.a ∧ r1.o = r.o ∧ r1.x = r.x ∧ r1.rd = r.rd ∧ (∀ k, r.c = some k → r1.c = some k) ∧ (r.c = none → ∀ k, r1.c = some k → k = i) := by
      rw [hr1]
      split
      · next hc _ => exact ⟨rfl, rfl, rfl, rfl, fun k hk => (by rw [hc] at hk; cases hk), fun _ k hk => (by cases hk; rfl)⟩
      · exact ⟨rfl, rfl, rfl, rfl, fun _ h => h, fun hn k hk => (by rw [hn] at hk; cases hk)⟩
    obtain ⟨ka, ko, kx, kd, kc, kc2⟩ := k1
    have e2 : r'.a ≠ some i := fun e => by rw [h1.a, ka] at e; have := q1 i e; omega
    have e3 : i ∉ r'.rd := fun e => by
      rcases h1.d2 i e with h | h
      · rw [kd] at h; have := q3 i h; omega
      · omega
    refine ⟨⟨h1.step ka ko kx kc kc2 (fun j hj => by rw [kd]; exact hj) (fun j hj => by rw [kd] at hj; exact .inl hj), g1⟩, ?_, ?_, ?_⟩
    · have no : r1 = r → r'.c ≠ some i := fun hr1' e => by
        rw [hr1'] at h1
        cases hc : r.c with
        | none => have := h1.c2 hc i e; omega
        | some k => have := h1.c1 k hc; rw [e] at this; cases this; have := q2 i hc; omega
      have hv : visB os (r :: rs) = (match r.c, has os r.o with | none, true => (r.o, r.x) :: visB os rs | _, _ => visB os rs) := rfl
      have hcc : cOf i (r' :: rs') = if r'.c = some i then (r'.o, r'.x) :: cOf i rs' else cOf i rs' := by
        unfold cOf
        rw [List.filterMap_cons]
        split <;> next h => split at h <;> simp_all
      rw [hcc, hv, g2]
      cases hc : r.c with
      | some k =>
        rw [if_neg (no (by rw [hr1, hc]))]
      | none =>
        cases hh : has os r.o with
        | false => rw [if_neg (no (by rw [hr1, hc, hh]))]
        | true =>
          have : r'.c = some i := h1.c1 i (by rw [hr1, hc, hh])
          rw [if_pos this, h1.o, h1.x, ko, kx]
    · unfold pOf at g3 ⊢; rw [List.filterMap_cons, if_neg e2]; exact g3
    · unfold rOf at g4 ⊢; rw [List.filterMap_cons, if_neg e3]; exact g4
theorem RX_old {i : Nat} : ∀ {ob : List (Nat × Od)} {rs' : List Rb}, RX i (oldB ob) rs' → avL (fun r => r.a.isNone) rs' = ob
  | [], rs', h => List.filterMap_eq_nil_iff.2 fun r hr => by
    obtain ⟨⟨j, h1, _⟩, _⟩ := h r hr
    simp [h1]
  | e :: ob, [], h => h.elim
  | e :: ob, r' :: rs', ⟨h1, h2⟩ => by
    have ih := RX_old (ob := ob) h2
    unfold avL at ih ⊢
    have : r'.a = none := h1.a
    simp only [List.filterMap_cons, this, Option.isNone_none, if_true]
    rw [ih, h1.o, h1.x]
theorem old_see {i : Nat} {os : List Nat} {rs : List Rb} (h : OldB i rs) : OldB (i + 1) (seeB i os rs) := by
  induction rs with
  | nil => exact fun r hr => absurd hr List.not_mem_nil
  | cons r rs ih =>
    intro q hq
    unfold seeB at hq
    rcases List.mem_cons.1 hq with rfl | hq
    · obtain ⟨q1, q2, q3⟩ := h r (List.mem_cons_self ..)
      split
      · exact ⟨fun j hj => (by have := q1 j hj; omega), fun k hk => (by cases hk), fun j hj => by
          rcases List.mem_cons.1 hj with rfl | hj
          · omega
          · have := q3 j hj; omega⟩
      · exact ⟨fun j hj => by have := q1 j hj; omega, fun k hk => by have := q2 k hk; omega, fun j hj => by have := q3 j hj; omega⟩
    · exact ih (fun q hq => h q (List.mem_cons_of_mem _ hq)) q hq
theorem old_use {i : Nat} {os : List Nat} {rs : List Rb} (h : OldB i rs) : OldB (i + 1) (useB i os rs) := by
  induction rs with
  | nil => exact fun r hr => absurd hr List.not_mem_nil
  | cons r rs ih =>
    intro q hq
    unfold useB at hq
    rcases List.mem_cons.1 hq with rfl | hq
    · obtain ⟨q1, q2, q3⟩ := h r (List.mem_cons_self ..)
      split
      · exact ⟨fun j hj => by have := q1 j hj; omega, fun k hk => by cases hk; omega, fun j hj => by have := q3 j hj; omega⟩
      · exact ⟨fun j hj => by have := q1 j hj; omega, fun k hk => by have := q2 k hk; omega, fun j hj => by have := q3 j hj; omega⟩
    · exact ih (fun q hq => h q (List.mem_cons_of_mem _ hq)) q hq
theorem old_new {i : Nat} {ob : List (Nat × Od)} {rs : List Rb} (h : OldB (i + 1) rs) : OldB (i + 1) (rs ++ newB i ob) := fun q hq => by
  rcases List.mem_append.1 hq with hq | hq
  · exact h q hq
  · obtain ⟨e, _, rfl⟩ := List.mem_map.1 hq
    exact ⟨fun j hj => by cases hj; omega, fun k hk => (by cases hk), fun j hj => absurd hj List.not_mem_nil⟩
theorem old_up {i : Nat} {rs : List Rb} (h : OldB i rs) : OldB (i + 1) rs := fun r hr => by
  obtain ⟨q1, q2, q3⟩ := h r hr
  exact ⟨fun j hj => by have := q1 j hj; omega, fun k hk => by have := q2 k hk; omega, fun j hj => by have := q3 j hj; omega⟩
theorem see_o {i n : Nat} {os : List Nat} {rs : List Rb} (h : ∀ r ∈ rs, r.o < n) : ∀ r ∈ seeB i os rs, r.o < n := by
  induction rs with
  | nil => exact fun r hr => absurd hr List.not_mem_nil
  | cons r rs ih =>
    intro q hq
    unfold seeB at hq
    rcases List.mem_cons.1 hq with rfl | hq
    · have := h r (List.mem_cons_self ..)
      split <;> exact this
    · exact ih (fun q hq => h q (List.mem_cons_of_mem _ hq)) q hq
theorem use_o {i n : Nat} {os : List Nat} {rs : List Rb} (h : ∀ r ∈ rs, r.o < n) : ∀ r ∈ useB i os rs, r.o < n := by
  induction rs with
  | nil => exact fun r hr => absurd hr List.not_mem_nil
  | cons r rs ih =>
    intro q hq
    unfold useB at hq
    rcases List.mem_cons.1 hq with rfl | hq
    · have := h r (List.mem_cons_self ..)
      split <;> exact this
    · exact ih (fun q hq => h q (List.mem_cons_of_mem _ hq)) q hq
theorem visB_o {n : Nat} {os : List Nat} : ∀ {rs : List Rb}, (∀ r ∈ rs, r.o < n) → ∀ e ∈ visB os rs, e.1 < n
  | [], _, e, he => absurd he List.not_mem_nil
  | r :: rs, h, e, he => by
    have ih := visB_o (os := os) (rs := rs) fun q hq => h q (List.mem_cons_of_mem _ hq)
    unfold visB at he
    split at he
    · rcases List.mem_cons.1 he with rfl | he
      · exact h r (List.mem_cons_self ..)
      · exact ih e he
    · exact ih e he
theorem endB_av : ∀ (rs : List Rb), endB rs = avL (fun r => r.c.isNone) rs
  | [] => rfl
  | r :: rs => by
    have ih := endB_av rs
    unfold avL at ih ⊢
    unfold endB
    cases hc : r.c with
    | none => simp only [List.filterMap_cons, hc, Option.isNone_none, if_true]; rw [ih]
    | some k => simp only [List.filterMap_cons, hc, Option.isNone_some, Bool.false_eq_true, if_false]; exact ih
theorem slotsL_mem {ts : List Tmp} : ∀ {rg : List (Nat × Nat × Dv)} {e : Nat × Nat × Dv}, e ∈ slotsL ts rg → e ∈ rg ∧ has ts e.1 = true
  | (t, i, v) :: r, e, h => by
    unfold slotsL at h
    split at h
    · next hh =>
      rcases List.mem_cons.1 h with rfl | h
      · exact ⟨List.mem_cons_self .., hh⟩
      · obtain ⟨h1, h2⟩ := slotsL_mem h; exact ⟨List.mem_cons_of_mem _ h1, h2⟩
    · obtain ⟨h1, h2⟩ := slotsL_mem h; exact ⟨List.mem_cons_of_mem _ h1, h2⟩
theorem slotsL_fnd {ts : List Tmp} {t i : Nat} (ht : has ts t = true) : ∀ {rg : List (Nat × Nat × Dv)}, fnd (slotsL ts rg) t i = fnd rg t i
  | [] => rfl
  | (t', i', v) :: r => by
    unfold slotsL
    split
    · unfold fnd; rw [slotsL_fnd ht]
    · next hh =>
      rw [slotsL_fnd ht]
      conv => rhs; unfold fnd
      rw [beq_no (fun e => by rw [e, ht] at hh; cases hh)]; rfl
theorem fnd_app {t i : Nat} : ∀ {a b : List (Nat × Nat × Dv)}, fnd (a ++ b) t i = match fnd a t i with | some d => some d | none => fnd b t i
  | [], b => rfl
  | (t', i', v) :: a, b => by
    show (bif Nat.beq t' t && Nat.beq i' i then some v else fnd (a ++ b) t i) = (match (bif Nat.beq t' t && Nat.beq i' i then some v else fnd a t i) with | some d => some d | none => fnd b t i)
    cases hb : Nat.beq t' t && Nat.beq i' i
    · simp only [cond_false]; exact fnd_app
    · simp only [cond_true]
theorem has_mem {l : List Nat} {t : Nat} (h : has l t = true) : t ∈ l := by grind [has, beq_t, List.any_eq_true]
theorem refsO_mem : ∀ {l : List (Nat × Dv)} {e : Nat × Dv} {p : Nat}, e ∈ l → refO e.2 = some p → p ∈ refsO l
  | (i, v) :: r, e, p, h, hp => by
    unfold refsO
    rcases List.mem_cons.1 h with rfl | h
    · have hp : refO v = some p := hp
      rw [hp]; exact List.mem_cons_self ..
    · have := refsO_mem h hp
      split
      · exact List.mem_cons_of_mem _ this
      · exact this
theorem dstL_mem {d : Option Tmp} {rg : List (Nat × Nat × Dv)} {e : Nat × Dv} (h : e ∈ dstL d rg) : ∃ t, d = some t ∧ (t, e.1, e.2) ∈ rg := by
  unfold dstL at h
  split at h
  · next t =>
    obtain ⟨q, hq, he⟩ := List.mem_filterMap.1 h
    split at he
    · next hb =>
      cases he
      rw [← beq_t hb]
      exact ⟨_, rfl, hq⟩
    · cases he
  · cases h
def InvB (P : Program) (vs : Nat → Value) (n0 : Nat) (Γ : List FF) (env0 : Env) (cx σ : Sg) (KL : List (Tmp × List (Nat × Dv))) : Prop := ∀ vs', (∀ p, p < n0 → vs' p = vs p) → InvK P vs' Γ env0 cx σ (KV P vs' KL)
def NoCxL (cx : Sg) (KL : List (Tmp × List (Nat × Dv))) : Prop := ∀ e ∈ KL, notIn cx.rg e.1 = true
theorem noCxL_add {KL : List (Tmp × List (Nat × Dv))} {l : List (Nat × Dv)} {d : Option Tmp} (hd : okPut cx d = true) (h : NoCxL cx KL) : NoCxL cx (addL d l KL) := by
  cases d with
  | none => exact h
  | some s =>
    intro e he
    rcases List.mem_cons.1 he with rfl | he
    · exact hd
    · exact h e he
theorem invB_put {n0 : Nat} {Γ : List FF} {KL : List (Tmp × List (Nat × Dv))} {l : List (Nat × Dv)} {o : Oper} (hd : okPut cx o.dst = true) (h : InvB P vs n0 Γ env0 cx σ KL) : InvB P vs n0 Γ env0 cx (σ.put o.dst l) (addL o.dst l KL) := fun vs' hv => by
  rw [KV_add]
  exact invK_put hd (h vs' hv) fun S v w hv => hv
def PnR (pn : Option (Nat × PX)) (i n : Nat) (pn' : Option (Nat × PX)) : Prop := pn' = pn ∨ (pn = none ∧ ∃ i0 q, pn' = some (i0, q) ∧ i ≤ i0 ∧ i0 < i + n)
theorem PnR.up {pn pn' : Option (Nat × PX)} {i n : Nat} (h : PnR pn (i + 1) n pn') : PnR pn i (n + 1) pn' := by
  rcases h with h | ⟨h, i0, q, h1, h2, h3⟩
  · exact .inl h
  · exact .inr ⟨h, i0, q, h1, by omega, by omega⟩
theorem PnR.ne {pn pn' : Option (Nat × PX)} {i n : Nat} (h : PnR pn (i + 1) n pn') (hi : ∀ i0 q, pn = some (i0, q) → i0 < i) (q : PX) : pn' ≠ some (i, q) := fun e => by
  rcases h with h | ⟨h, i0, q', h1, h2, h3⟩
  · exact absurd (hi i q (h ▸ e)) (by omega)
  · rw [e] at h1; cases h1; omega
theorem PnR.of_some {pn' : Option (Nat × PX)} {e : Nat × PX} {i n : Nat} (h : PnR (some e) i n pn') : pn' = some e := by
  rcases h with h | ⟨h, _⟩
  · exact h
  · cases h
def ObsP (P : Program) (all : List Oper) (we : World) (Se : Nat → Prop) (mE : List MF) (Γ : List FF) (env0 : Env) (vs : Nat → Value) (n0 : Nat) (pn : Option (Nat × PX)) (rs : List Rb) : List ((Oper × List (Nat × Dv)) × Oi) → Nat → List (Tmp × List (Nat × Dv)) → Prop
  | [], _, _ => True
  | ((o, L), I) :: r, i, KL => (isD all (pn.map (·.1)) i = false → ObB P all.toArray we Se mE Γ env0 vs n0 rs KL i o L I) ∧ (∀ q, pn = some (i, q) → rOf i rs = [] ∧ ObP P all.toArray we Se mE Γ env0 vs n0 q rs KL i o) ∧ ObsP P all we Se mE Γ env0 vs n0 pn rs r (i + 1) (addL o.dst L KL)
theorem ObsP_get {P : Program} {all : List Oper} {we : World} {Se : Nat → Prop} {mE : List MF} {Γ : List FF} {env0 : Env} {vs : Nat → Value} {n0 : Nat} {pn : Option (Nat × PX)} {rs : List Rb} : ∀ (r : List (Oper × List (Nat × Dv))) (is : List Oi) (n : Nat) (KL : List (Tmp × List (Nat × Dv))) (i : Nat) (x : Oper × List (Nat × Dv)) (I : Oi),
    ObsP P all we Se mE Γ env0 vs n0 pn rs (r.zip is) n KL → r[i]? = some x → is[i]? = some I → (isD all (pn.map (·.1)) (n + i) = false → ObB P all.toArray we Se mE Γ env0 vs n0 rs (KLof (r.take i) KL) (n + i) x.1 x.2 I) ∧ ∀ q, pn = some (n + i, q) → rOf (n + i) rs = [] ∧ ObP P all.toArray we Se mE Γ env0 vs n0 q rs (KLof (r.take i) KL) (n + i) x.1
  | [], _, _, _, _, _, _, h, hx, _ => by simp at hx
  | _ :: _, [], _, _, _, _, _, _, _, h => by simp at h
  | (o, L) :: r, I0 :: is, n, KL, 0, x, I, h, hx, hc => by simp at hx hc; subst hx; subst hc; exact ⟨h.1, h.2.1⟩
  | (o, L) :: r, I0 :: is, n, KL, i + 1, x, I, h, hx, hc => by
    have := ObsP_get r is (n + 1) (addL o.dst L KL) i x I h.2.2 (by simpa using hx) (by simpa using hc)
    rw [show n + 1 + i = n + (i + 1) by omega] at this
    simpa [KLof] using this
theorem runB_s (hT : TTok P cf.tt) (hL : ELok P cf.tt) (hC : ∀ s ∈ cf.cs, SigOK P s) (hX : XOK P cf) {all : List Oper} {fz : List Nat} {k : Option (Nat × PX) → Sg → List Rb → List Oi → Option R} {Γ : List FF} {n0 : Nat} (hcx : ∀ e ∈ cx.ob, e.1 < n0) : ∀ {os : List Oper} {i : Nat} {pn : Option (Nat × PX)} {σ : Sg} {rs : List Rb} {is : List Oi} {KL : List (Tmp × List (Nat × Dv))},
    runB cf cx all fz pn os i σ rs is k = some r → (∀ i0 q, pn = some (i0, q) → i0 < i) → InvB P vs n0 Γ env0 cx σ KL → NoCxL cx KL → σ.ob = [] → Bd cx σ → (∀ r ∈ rs, r.o < σ.nx) → OldB i rs → n0 ≤ σ.nx →
    ∃ (pn' : Option (Nat × PX)) (Ls : List (List (Nat × Dv))) (is' : List Oi) (σ' : Sg) (rs' : List Rb), PnR pn i os.length pn' ∧ Ls.length = os.length ∧ is'.length = os.length ∧ k pn' σ' rs' (is ++ is') = some r ∧ RX i rs rs' ∧
      ObsP P all fr.we fr.Se (MS vs cx.ob ++ fr.F) Γ env0 vs n0 pn' rs' ((os.zip Ls).zip is') i KL ∧ InvB P vs n0 Γ env0 cx σ' (KLof (os.zip Ls) KL) ∧ NoCxL cx (KLof (os.zip Ls) KL) ∧ σ'.ob = [] ∧ Bd cx σ' ∧ (∀ r ∈ rs', r.o < σ'.nx) ∧ n0 ≤ σ'.nx
  | [], i, pn, σ, rs, is, KL, h, hpi, hi, hn, ho, hB, hr, hO, h0 => ⟨pn, [], [], σ, rs, .inl rfl, rfl, rfl, by rw [List.append_nil]; exact h, RX.refl _ _, trivial, hi, hn, ho, hB, hr, h0⟩
  | o :: os, i, pn, σ, rs, is, KL, h, hpi, hi, hn, ho, hB, hr, hO, h0 => by
    unfold runB at h
    obtain ⟨hd, h⟩ := grd_s h
    have hpi' : ∀ i0 q, pn = some (i0, q) → i0 < i + 1 := fun i0 q e => Nat.lt_succ_of_lt (hpi i0 q e)
    cases hsk : skipB all pn i <;> rw [hsk] at h
    case true =>
      obtain ⟨i0, q0, rfl⟩ : ∃ i0 q0, pn = some (i0, q0) := by
        cases pn with
        | none => cases hsk
        | some e => exact ⟨e.1, e.2, rfl⟩
      obtain ⟨pn', Ls, is', σ', rs', hpr, h1, h2, h3, h4, h5, h6, h7, h8, h9, h10, h11⟩ := runB_s hT hL hC hX hcx (os := os) h hpi' (invB_put (l := []) hd hi) (noCxL_add hd hn) ho (bd_put hB fun e he => absurd he List.not_mem_nil) hr (old_up hO) h0
      obtain ⟨g1, g2, g3, g4⟩ := RX_skip hO h4
      have hpe : pn' = some (i0, q0) := hpr.of_some
      refine ⟨pn', [] :: Ls, ⟨σ.nx, σ.nx, []⟩ :: is', σ', rs', hpr.up, by simp [h1], by simp [h2], by rw [← h3]; simp, g1, ⟨fun hD => ?_, fun q hq => absurd hq (hpr.ne hpi q), h5⟩, h6, h7, h8, h9, h10, h11⟩
      exfalso
      rw [hpe] at hD
      have hsk : reachB all 16 i i0 = true := hsk
      simp [isD, hsk] at hD
    simp only [cnd] at h
    obtain ⟨σ1, b, h, ho1, hx1, hB1, hlk1, hw1⟩ := guardE_s h hB
    have hlkK : ∀ {vs' env S w}, (∀ p, p < n0 → vs' p = vs p) → All S Γ w → HoldL (KV P vs' KL) env0 env S w (Oper.looksAt all.toArray o) → ∀ t ∈ Oper.looksAt all.toArray o, Lk P vs' env S w cx σ t := fun {vs' env S w} hv hΓ hh t ht => hi vs' hv env S w hΓ t (holdL_mem hh t ht)
    cases b
    · have hi' : InvB P vs n0 Γ env0 cx (σ1.put o.dst [(0, .un)]) (addL o.dst [(0, .un)] KL) := invB_put hd fun vs' hv env S w hΓ t ht => hlk1 P vs' env S w t (hi vs' hv env S w hΓ t ht)
      obtain ⟨pn', Ls, is', σ', rs', hpr, h1, h2, h3, h4, h5, h6, h7, h8, h9, h10, h11⟩ := runB_s hT hL hC hX hcx (os := os) h hpi' hi' (noCxL_add hd hn) (ho1.trans ho) (bd_put hB1 fun e he p hp => by obtain rfl := List.mem_singleton.1 he; cases hp) (fun r hr' => by show r.o < σ1.nx; rw [hx1]; exact hr r hr') (old_up hO) (by show n0 ≤ σ1.nx; rw [hx1]; exact h0)
      obtain ⟨g1, g2, g3, g4⟩ := RX_skip hO h4
      refine ⟨pn', [(0, .un)] :: Ls, ⟨σ1.nx, σ1.nx, []⟩ :: is', σ', rs', hpr.up, by simp [h1], by simp [h2], by rw [← h3]; simp, g1, ⟨fun _ => ⟨(by show n0 ≤ σ1.nx; rw [hx1]; exact h0), Nat.le_refl _, fun e he p hp => (by obtain rfl := List.mem_singleton.1 he; cases hp), fun e he => (by rw [g3] at he; cases he), fun vs' hv env F G w hst => ⟨fun hw => ?_, fun _ => ⟨g2, g3, fun S w => ⟨rfl, trivial⟩⟩⟩⟩, fun q hq => absurd hq (hpr.ne hpi q), h5⟩, h6, h7, h8, h9, h10, h11⟩
      exfalso
      obtain ⟨S, _, hΓ⟩ := hst.ex
      have := hw1 P vs' env S w fun t ht => hlkK hv (All.left hΓ.2) hΓ.1 t ht
      rw [hw] at this; cases this
    · obtain ⟨σ2, h, ho2, hx2, hB2, hlk2⟩ := pickE_s h hB1
      have hlk : ∀ vs' env S w t, Lk P vs' env S w cx σ t → Lk P vs' env S w cx σ2 t := fun vs' env S w t ht => hlk2 P vs' env S w t (hlk1 P vs' env S w t ht)
      have hi2 : InvB P vs n0 Γ env0 cx σ2 KL := fun vs' hv env S w hΓ t ht => hlk vs' env S w t (hi vs' hv env S w hΓ t ht)
      have hnx : σ2.nx = σ.nx := hx2.trans hx1
      have hwt : ∀ {vs' env S w}, (∀ p, p < n0 → vs' p = vs p) → All S Γ w → HoldL (KV P vs' KL) env0 env S w (Oper.looksAt all.toArray o) → wantedE all.toArray env o = true := fun {vs' env S w} hv hΓ hh => hw1 P vs' env S w fun t ht => hlkK hv hΓ hh t ht
      generalize hts : Oper.looksAt all.toArray o = ts at h hlkK hwt
      generalize hos : refsL ts σ2.rg = osn at h
      generalize hbz : fzB fz o.dst = bz at h
      cases hM : (isMop cf cx ⟨σ2.nx, σ2.rg, visB osn rs⟩ bz o.dst o.op || (panO cf cx σ2 o.op).isSome) <;> rw [hM] at h
      · simp only [cnd] at h
        obtain ⟨l, h, hes⟩ := e_all (P := P) (d := o.dst) (ty := o.type) (pos := o.pos) (aft := o.after) (g := o.guard) (F := []) hT hL hC hX h
        obtain ⟨hl, h⟩ := grd_s h
        obtain ⟨pn', Ls, is', σ', rs', hpr, h1, h2, h3, h4, h5, h6, h7, h8, h9, h10, h11⟩ := runB_s hT hL hC hX hcx (os := os) h hpi' (invB_put hd hi2) (noCxL_add hd hn) (ho2.trans (ho1.trans ho)) (bd_put hB2 (okL_s hl)) (see_o fun r hr' => by show r.o < σ2.nx; rw [hnx]; exact hr r hr') (old_see hO) (by show n0 ≤ σ2.nx; rw [hnx]; exact h0)
        obtain ⟨g1, g2, g3, g4⟩ := RX_see hO h4
        refine ⟨pn', l :: Ls, ⟨σ2.nx, σ2.nx, refsO l⟩ :: is', σ', rs', hpr.up, by simp [h1], by simp [h2], by rw [← h3]; simp, g1, ⟨fun _ => ⟨(by show n0 ≤ σ2.nx; rw [hnx]; exact h0), Nat.le_refl _, fun e he p hp => ⟨okL_s hl e he p hp, refsO_mem he hp⟩, fun e he => (by rw [g3] at he; cases he), fun vs' hv env F G w hst => ⟨fun _ => ?_, fun hw => ?_⟩⟩, fun q hq => absurd hq (hpr.ne hpi q), h5⟩, h6, h7, h8, h9, h10, h11⟩
        · rw [g2] at hst
          rw [g3]
          obtain ⟨k1, k2, k3, S, k4, k5, k6, k7, k8⟩ := hst
          have hmc : MS vs' cx.ob = MS vs cx.ob := MS_congr fun e he => hv _ (hcx e he)
          refine (hes env w S vs' (k2.at k1 k5) (allM_mem.2 fun mf hmf => ?_) fun t ht => ?_).mono ?_
          · rcases List.mem_append.1 hmf with hmf | hmf
            · obtain ⟨e, he, rfl⟩ := List.mem_map.1 hmf
              exact allM_mem.1 k7 _ (List.mem_append.2 (.inl (List.mem_map.2 ⟨e, g4 e he, rfl⟩)))
            · rw [List.append_nil] at hmf
              have hmf : mf ∈ MS vs' cx.ob := hmf
              rw [hmc] at hmf
              exact allM_mem.1 k7 _ (List.mem_append.2 (.inr (List.mem_append.2 (.inl (List.mem_append.2 (.inl hmf))))))
          · have hh : HoldL (KV P vs' KL) env0 env S w (Oper.looksAt all.toArray o) := k8.1
            exact hlk vs' env S w t (hlkK hv (All.left k8.2) (hts ▸ hh) t (hts ▸ List.mem_append.2 (.inl ht)))
          · rintro v w' ⟨hx, hf⟩
            refine ⟨vs', fun _ _ => rfl, k1.trans hx, k2, k3, S, k4, fun k hk => k5 k (Nat.le_trans hx.size hk), k6, AllM.keep hx.to (fun m hm i hi => hx.block i (AllM.lt k7 m hm i hi) trivial) k7, All.append (all_mem.2 fun f hf' => ?_) (All.keep hx.to k8.2)⟩
            obtain ⟨e, he, rfl⟩ := List.mem_map.1 hf'
            exact hf e he
        · exfalso
          obtain ⟨S, _, hΓ⟩ := hst.ex
          have hh : HoldL (KV P vs' KL) env0 env S w (Oper.looksAt all.toArray o) := hΓ.1
          have := hwt hv (All.left hΓ.2) (hts ▸ hh)
          rw [hw] at this; cases this
      · simp only [cnd] at h
        have hmc : ∀ {vs2 : Nat → Value}, (∀ p, p < n0 → vs2 p = vs p) → MS vs2 cx.ob = MS vs cx.ob := fun hv => MS_congr fun e he => hv _ (hcx e he)
        have hrel : ∀ {vs' : Nat → Value} {env : Env} {F : List MF} {G : List FF} {w : World}, (∀ p, p < n0 → vs' p = vs p) → St fr.we fr.Se (MS vs' (visB osn rs) ++ ((MS vs cx.ob ++ fr.F) ++ F)) (fHold (KV P vs' KL) env0 env (Oper.looksAt all.toArray o) :: (Γ ++ G)) w →
            RelV P ⟨fr.we, fr.Se, fr.F ++ F, Γ ++ G⟩ ⟨0, [], cx.ob⟩ ⟨σ2.nx, dd (slotsL ts (σ2.rg ++ cx.rg)), visB osn rs⟩ vs' env w := by
          intro vs' env F G w hv hst
          refine ⟨⟨fun e he => visB_o (fun r hr' => by rw [hnx]; exact hr r hr') e he, hB2.o2, fun e he p hp => ?_, fun e he => absurd he List.not_mem_nil⟩, ?_⟩
          · have := (slotsL_mem (dd_mem he)).1
            rcases List.mem_append.1 this with h | h
            · exact hB2.r1 e h p hp
            · exact hB2.r2 e h p hp
          · show St fr.we fr.Se (MS vs' (visB osn rs) ++ (MS vs' cx.ob ++ (fr.F ++ F))) (RS P vs' env (dd (slotsL ts (σ2.rg ++ cx.rg))) ++ ([] ++ (Γ ++ G))) w
            rw [hmc hv, ← List.append_assoc (MS vs cx.ob)]
            refine hst.weak fun S w hΓ => All.append (all_mem.2 fun f hf => ?_) hΓ.2
            obtain ⟨e, he, rfl⟩ := List.mem_map.1 hf
            have hh : HoldL (KV P vs' KL) env0 env S w (Oper.looksAt all.toArray o) := hΓ.1
            have htm := (slotsL_mem (dd_mem he)).2
            have hf2 := dd_fnd he
            rw [slotsL_fnd htm, fnd_app] at hf2
            exact hlk vs' env S w e.1 (hlkK hv (All.left hΓ.2) (hts ▸ hh) e.1 (has_mem htm)) e.2.1 e.2.2 hf2
        rcases m_allP (P := P) (cx := ⟨0, [], cx.ob⟩) (d := o.dst) (ty := o.type) (pos := o.pos) (aft := o.after) (g := o.guard) hT hL hC hX (by cases o.dst <;> rfl) h with ⟨τ, h, hle, hm⟩ | ⟨q, σp, h, _, hm⟩
        rotate_left
        · cases pn with
          | some e => cases h
          | none =>
            obtain ⟨pn', Ls, is', σ', rs', hpr, h1, h2, h3, h4, h5, h6, h7, h8, h9, h10, h11⟩ := runB_s hT hL hC hX hcx (os := os) h (fun i0 q e => by cases e; omega) (invB_put (l := []) hd hi2) (noCxL_add hd hn) (ho2.trans (ho1.trans ho)) (bd_put hB2 fun e he => absurd he List.not_mem_nil) (use_o fun r hr' => by show r.o < σ2.nx; rw [hnx]; exact hr r hr') (old_use hO) (by show n0 ≤ σ2.nx; rw [hnx]; exact h0)
            have h4' : RX (i + 1) (useB i osn rs ++ newB i []) rs' := by rw [show newB i [] = [] from rfl, List.append_nil]; exact h4
            obtain ⟨g1, g2, g3, g4⟩ := RX_use hO h4'
            have hpe : pn' = some (i, q) := hpr.of_some
            refine ⟨pn', [] :: Ls, ⟨σ2.nx, σ2.nx, []⟩ :: is', σ', rs', .inr ⟨rfl, i, q, hpe, Nat.le_refl _, by simp⟩, by simp [h1], by simp [h2], by rw [← h3]; simp, g1, ⟨fun hD => ?_, fun q' hq => ⟨g4, ?_⟩, h5⟩, h6, h7, h8, h9, h10, h11⟩
            · exfalso
              rw [hpe] at hD
              simp [isD] at hD
            · rw [hpe] at hq
              cases hq
              intro vs' hv env F G w hst
              rw [g2] at hst
              obtain ⟨S, _, hΓ⟩ := hst.ex
              have hh : HoldL (KV P vs' KL) env0 env S w (Oper.looksAt all.toArray o) := hΓ.1
              refine ⟨hwt hv (All.left hΓ.2) (hts ▸ hh), (hm _ vs' env w (hrel hv hst)).mono ?_⟩
              rintro ch w' ⟨hch, _, hs⟩
              refine ⟨hch, ?_⟩
              have hs : St fr.we fr.Se ([] ++ (MS vs' σp.ob ++ (MS vs' cx.ob ++ (fr.F ++ F)))) (RS P vs' env σp.rg ++ ([] ++ (Γ ++ G))) w' := hs
              have hs := St.dropM (A := []) hs
              rw [hmc hv, ← List.append_assoc (MS vs cx.ob)] at hs
              exact St.weak (show St fr.we fr.Se (MS vs cx.ob ++ fr.F ++ F) _ w' from hs) fun S w hΓ => All.right hΓ
        obtain ⟨τ2, hτ⟩ : ∃ τ2, τ2 = frzB bz o.dst τ := ⟨_, rfl⟩
        simp only at h
        rw [← hτ] at h
        have hnx2 : τ2.nx = τ.nx := by rw [hτ]; cases bz <;> first | rfl | exact frzOs_nx _ _
        have hrel2 : ∀ {frm : Fr} {vs2 : Nat → Value} {env w}, RelV P frm ⟨0, [], cx.ob⟩ τ vs2 env w → RelV P frm ⟨0, [], cx.ob⟩ τ2 vs2 env w := fun {frm vs2 env w} hq => by rw [hτ]; cases bz <;> first | exact hq | exact relV_frzOs _ hq
        unfold stepB at h
        obtain ⟨hl, h⟩ := grd_s h
        rw [Bool.and_eq_true] at hl
        obtain ⟨hl, hob⟩ := hl
        have hob : ∀ e ∈ τ2.ob, e.1 < τ2.nx := fun e he => by
          have := List.all_eq_true.1 hob e he
          have := Nat.le_of_ble_eq_true this
          omega
        have hle2 : σ2.nx ≤ τ2.nx := by rw [hnx2]; exact hle
        have hi3 : InvB P vs n0 Γ env0 cx ⟨τ2.nx, putR σ2.rg o.dst (dstL o.dst τ2.rg), []⟩ (addL o.dst (dstL o.dst τ2.rg) KL) := fun vs' hv => invB_put (l := dstL o.dst τ2.rg) hd hi2 vs' hv
        have hB3 : Bd cx ⟨τ2.nx, putR σ2.rg o.dst (dstL o.dst τ2.rg), []⟩ := by
          refine ⟨fun e he => absurd he List.not_mem_nil, fun e he => Nat.lt_of_lt_of_le (hB2.o2 e he) hle2, fun e he p hp => ?_, fun e he p hp => Nat.lt_of_lt_of_le (hB2.r2 e he p hp) hle2⟩
          have he : e ∈ putR σ2.rg o.dst (dstL o.dst τ2.rg) := he
          unfold putR at he
          split at he
          · rcases List.mem_append.1 he with he | he
            · obtain ⟨e', he', rfl⟩ := List.mem_map.1 he
              exact okL_s hl e' he' p hp
            · exact Nat.lt_of_lt_of_le (hB2.r1 e (List.mem_filter.1 he).1 p hp) hle2
          · exact Nat.lt_of_lt_of_le (hB2.r1 e he p hp) hle2
        obtain ⟨pn', Ls, is', σ', rs', hpr, h1, h2, h3, h4, h5, h6, h7, h8, h9, h10, h11⟩ := runB_s hT hL hC hX hcx (os := os) h hpi' hi3 (noCxL_add hd hn) rfl hB3 (fun q hq => by
          rcases List.mem_append.1 hq with hq | hq
          · exact Nat.lt_of_lt_of_le (use_o (n := σ2.nx) (fun r hr' => by rw [hnx]; exact hr r hr') q hq) hle2
          · obtain ⟨e, he, rfl⟩ := List.mem_map.1 hq
            exact hob e he) (old_new (old_use hO)) (Nat.le_trans (by rw [hnx]; exact h0) hle2)
        obtain ⟨g1, g2, g3, g4⟩ := RX_use hO h4
        refine ⟨pn', dstL o.dst τ2.rg :: Ls, ⟨σ2.nx, τ2.nx, refsO (dstL o.dst τ2.rg)⟩ :: is', σ', rs', hpr.up, by simp [h1], by simp [h2], by rw [← h3]; simp, g1, ⟨fun _ => ⟨(by show n0 ≤ σ2.nx; rw [hnx]; exact h0), hle2, fun e he p hp => ⟨okL_s hl e he p hp, refsO_mem he hp⟩, fun e he => hob e (by rw [g3] at he; exact he), fun vs' hv env F G w hst => ⟨fun _ => ?_, fun hw => ?_⟩⟩, fun q hq => absurd hq (hpr.ne hpi q), h5⟩, h6, h7, h8, h9, h10, h11⟩
        · rw [g2, g4, List.append_nil] at hst
          rw [g3, g4]
          refine (hm _ vs' env w (hrel hv hst)).mono ?_
          rintro v w' ⟨vs2, hv2, hrv⟩
          obtain ⟨_, hs2⟩ := hrel2 hrv
          refine ⟨vs2, hv2, ?_⟩
          have hs2 : St fr.we fr.Se (MS vs2 τ2.ob ++ (MS vs2 cx.ob ++ (fr.F ++ F))) (RS P vs2 (put env o.dst v) τ2.rg ++ ([] ++ (Γ ++ G))) w' := hs2
          rw [hmc (vs2 := vs2) (fun p hp => (hv2 p (Nat.lt_of_lt_of_le hp (by show n0 ≤ σ2.nx; rw [hnx]; exact h0))).trans (hv p hp)), ← List.append_assoc (MS vs cx.ob)] at hs2
          refine St.weak (show St fr.we fr.Se (MS vs2 τ2.ob ++ (MS vs' [] ++ (MS vs cx.ob ++ fr.F ++ F))) _ w' from hs2) fun S w hΓ => All.append (all_mem.2 fun f hf => ?_) (All.right hΓ)
          obtain ⟨e, he, rfl⟩ := List.mem_map.1 hf
          obtain ⟨t, ht, hm'⟩ := dstL_mem he
          have := rs_get (All.left hΓ) hm'
          rw [ht, put_eq] at this
          exact this
        · exfalso
          obtain ⟨S, _, hΓ⟩ := hst.ex
          have hh : HoldL (KV P vs' KL) env0 env S w (Oper.looksAt all.toArray o) := hΓ.1
          have := hwt hv (All.left hΓ.2) (hts ▸ hh)
          rw [hw] at this; cases this
def qOf : Option (Nat × PX) → PX
  | some e => e.2
  | none => (0, 0)
theorem KLof_mem {o : Oper} {x : List (Nat × Dv)} {t : Tmp} : ∀ {L : List (Oper × List (Nat × Dv))} {K : List (Tmp × List (Nat × Dv))}, (o, x) ∈ L → o.dst = some t → ∃ y, (t, y) ∈ KLof L K
  | (o', x') :: L, K, h, ht => by
    rcases List.mem_cons.1 h with h | h
    · cases h
      have : ∀ {L : List (Oper × List (Nat × Dv))} {K : List (Tmp × List (Nat × Dv))} {e}, e ∈ K → e ∈ KLof L K := by
        intro L
        induction L with
        | nil => exact fun h => h
        | cons a L ih =>
          intro K e he
          refine ih ?_
          cases ha : a.1.dst with
          | none => exact he
          | some s => exact List.mem_cons_of_mem _ he
      exact ⟨x, show (t, x) ∈ KLof L (addL o.dst x K) from this (by rw [ht]; exact List.mem_cons_self ..)⟩
    · exact KLof_mem (L := L) (K := addL o'.dst x' K) h ht
theorem mem_has {l : List Nat} {t : Nat} (h : t ∈ l) : has l t = true := by
  unfold has
  rw [List.any_eq_true]
  exact ⟨t, h, by simp⟩
theorem opAt_take {l : List Oper} {i m : Nat} (hi : i < m) (hm : m ≤ l.length) : opAt l i ∈ l.take m := by
  have hil : i < l.length := by omega
  rw [show opAt l i = l[i] by simp [opAt, hil]]
  exact List.mem_of_getElem? (i := i) (by rw [List.getElem?_take, if_pos hi]; exact List.getElem?_eq_getElem hil)
theorem keptB_av : ∀ (rs : List Rb), keptB rs = avL keepB rs
  | [] => rfl
  | r :: rs => by
    rw [avL_cons]
    unfold keptB keepB
    rw [keptB_av rs]
    cases r.a <;> cases r.c <;> rfl
theorem regB_s (hm : P.follows .mixedOrders = true) (hT : TTok P cf.tt) (hL : ELok P cf.tt) (hC : ∀ s ∈ cf.cs, SigOK P s) (hX : XOK P cf) {N : Nd} {id m : Nat} {l : List Oper} {Q : Qs} {kp : PX → Sg → Option R} {k : Sg → Option R}
    (hP : ∀ q σ', kp q σ' = some r → ∀ env' w, SmO cx env env' → Rel P fr cx σ' env' w → Q (.panic (chOf q)) env' w) (hK : ∀ σ', k σ' = some r → ∀ env' w, SmO cx env env' → Rel P fr cx σ' env' w → Q .normal env' w) (hN : (l.all fun o => okDst N.n o.dst) = true) (hc : drawOK2 l m = true) (h : regB cf cx id l m σ kp k = some r) (hR : Rel P fr cx σ env w) : Wp P N (.region id l.toArray true) Q env w := by
  unfold regB at h
  simp only at h
  obtain ⟨hBs, vs, hsts⟩ := hR
  obtain ⟨hB0, hst⟩ := relV_frzOs (refsL (fzOf cf id) σ.rg) ⟨hBs, hsts⟩
  generalize frzOs σ (refsL (fzOf cf id) σ.rg) = σ0 at h hB0 hst
  have hml : m ≤ l.length := (draw_parts2 hc).1
  obtain ⟨pn', Ls, is, σ', rs, hpr, h1, h2, h3, h4, h5, hinv, hno, hob, hB', hro, hn0⟩ := runB_s (P := P) (fr := fr) (vs := vs) (env0 := env) (Γ := GS P vs env fr cx σ0) (n0 := σ0.nx) (KL := []) hT hL hC hX hB0.o2 h (fun _ _ e => by cases e)
    (fun vs' hv env' S w' hΓ t ht i dv hd => by
      have ht : env' t = env t := ht
      rw [ht]
      have hg : get cx σ0 t i = some dv := hd
      have := gs_lk hΓ t i dv hg
      have hc' : holdC P vs' dv (env t) i = holdC P vs dv (env t) i := by
        unfold holdC
        simp only [hold_vs (P := P) (vs' := vs') (vs := vs) (d := dv) fun o ho => hv o (by
          rcases get_mem hg with hm | hm
          · exact hB0.r1 _ hm o ho
          · exact hB0.r2 _ hm o ho)]
      rw [hc']; exact this) (fun _ he => absurd he List.not_mem_nil) rfl ⟨fun _ he => absurd he List.not_mem_nil, hB0.o2, hB0.r1, hB0.r2⟩ (fun q hq => by
        obtain ⟨e, he, rfl⟩ := List.mem_map.1 hq
        exact hB0.o1 e he) (fun q hq => by
        obtain ⟨e, he, rfl⟩ := List.mem_map.1 hq
        exact ⟨fun j hj => (by cases hj), fun j hj => (by cases hj), fun j hj => absurd hj List.not_mem_nil⟩) (Nat.le_refl _)
  simp only [List.nil_append] at h3
  obtain ⟨hx, h3⟩ := grd_s h3
  have hrx := RX_old h4
  have hobs : ∀ i x I, ((l.take m).zip Ls)[i]? = some x → is[i]? = some I → isD l (pn'.map (·.1)) i = false → ObB P l.toArray fr.we fr.Se (MS vs cx.ob ++ fr.F) (GS P vs env fr cx σ0) env vs σ0.nx rs (KLof (((l.take m).zip Ls).take i) []) i x.1 x.2 I := fun i x I a b c => by
    have := (ObsP_get _ is 0 [] i x I h5 a b).1
    rw [Nat.zero_add] at this
    exact this c
  have hlt : ∀ i0 q, pn' = some (i0, q) → i0 < m := fun i0 q e => by
    rcases hpr with h | ⟨_, i1, q1, g1, g2, g3⟩
    · rw [h] at e; cases e
    · rw [e] at g1; cases g1
      rw [List.length_take] at g3; omega
  refine T_any3P (we := fr.we) (Se := fr.Se) (ms := OS vs fr cx σ0.ob) (mE := MS vs cx.ob ++ fr.F) (pn'.map (·.1)) (qOf pn') m Ls is rs (σ'.rg.map (·.1) ++ cx.rg.map (·.1)) vs σ0.nx hm hc (by rw [h1, List.length_take]; omega) (by rw [h2, List.length_take]; omega) hx (by rw [hrx]) hN (fun i0 e => by
      cases pn' with
      | none => cases e
      | some e' => cases e; exact hlt _ _ rfl) hobs (fun i0 x e hx0 => ?_) (fun hpn env1 w1 vs' hvs hen hst2 => ?_) (fun hpn => ?_) w hst
  · cases pn' with
    | none => cases e
    | some e' =>
      obtain ⟨i1, q1⟩ := e'
      cases e
      have hi0 := hlt _ _ rfl
      have := (ObsP_get _ is 0 [] i1 x (is[i1]'(by rw [h2, List.length_take]; omega)) h5 hx0 (List.getElem?_eq_getElem _)).2 q1
      rw [Nat.zero_add] at this
      exact this rfl
  · cases pn' with
    | none => cases hpn
    | some e' =>
      obtain ⟨i1, q1⟩ := e'
      have hno' : ∀ i, i < m → ∀ t, (opAt l i).dst = some t → notIn cx.rg t = true := fun i hi t ht => by
        have hil : i < l.length := by omega
        obtain ⟨x, hx'⟩ : ∃ x, ((l.take m).zip Ls)[i]? = some (opAt l i, x) := ⟨Ls[i]'(by rw [h1, List.length_take]; omega), by
          rw [List.getElem?_zip_eq_some]
          refine ⟨?_, by simp⟩
          rw [List.getElem?_take, if_pos hi]
          simp [opAt, hil]⟩
        obtain ⟨y, hy⟩ := KLof_mem (K := []) (List.mem_of_getElem? hx') ht
        exact hno _ hy
      have hsm : ∀ e0 ∈ cx.rg, env1 e0.1 = env e0.1 := fun e0 he0 => hen e0.1 fun i hi hd => by
        have := hno' i hi _ hd
        simp only [notIn, List.all_eq_true] at this
        have := this e0 he0
        simp at this
      have hfl : ∀ e ∈ σ0.rg.filter (fun e => !has (dsts (l.take m)) e.1), e ∈ σ0.rg ∧ env1 e.1 = env e.1 := fun e he => by
        obtain ⟨he, hb⟩ := List.mem_filter.1 he
        refine ⟨he, hen e.1 fun i hi hd => ?_⟩
        have : has (dsts (l.take m)) e.1 = true := mem_has (List.mem_filterMap.2 ⟨opAt l i, opAt_take hi (by omega), hd⟩)
        rw [this] at hb; cases hb
      refine hP q1 _ h3 env1 w1 hsm ⟨⟨fun e he => ?_, hB'.o2, fun e he p hp => ?_, hB'.r2⟩, vs', ?_⟩
      · rw [keptB_av] at he
        obtain ⟨q, hq, he⟩ := List.mem_filterMap.1 he
        split at he
        · cases he; exact hro q hq
        · cases he
      · exact Nat.lt_of_lt_of_le (hB0.r1 e (hfl e he).1 p hp) hn0
      · show St fr.we fr.Se (MS vs' (keptB rs) ++ (MS vs' cx.ob ++ fr.F)) (RS P vs' env1 (σ0.rg.filter (fun e => !has (dsts (l.take m)) e.1)) ++ (RS P vs' env1 cx.rg ++ fr.G)) w1
        rw [keptB_av, MS_congr (ob := cx.ob) fun e he => hvs _ (hB0.o2 e he)]
        refine hst2.weak fun S w2 hΓ => All.append ?_ (All.append ?_ (All.right (All.right hΓ)))
        · rw [RS_congr (vs := vs) (env := env) (fun e he o ho => hvs o (hB0.r1 e (hfl e he).1 o ho)) fun e he => (hfl e he).2]
          refine all_mem.2 fun f hf => ?_
          obtain ⟨e, he, rfl⟩ := List.mem_map.1 hf
          exact all_mem.1 (All.left hΓ) _ (List.mem_map.2 ⟨e, (hfl e he).1, rfl⟩)
        · rw [RS_congr (vs := vs) (env := env) (fun e he o ho => hvs o (hB0.r2 e he o ho)) fun e he => hsm e he]
          exact All.left (All.right hΓ)
  obtain rfl : pn' = none := by cases pn' with
    | none => rfl
    | some e => cases hpn
  simp only at h3
  intro env1 w1 vs' hvs hst2
  have hend : endB rs = avL (fun r => r.c.isNone) rs := endB_av rs
  have hmem : ∀ e ∈ endB rs, e.1 < σ'.nx := fun e he => by
    rw [hend] at he
    obtain ⟨q, hq, he⟩ := List.mem_filterMap.1 he
    split at he
    · cases he; exact hro q hq
    · cases he
  obtain ⟨S1, _, hΓ1⟩ := hst2.ex
  have hsm : SmO cx env env1 := fun e0 he0 => by
    have h1 := holdL_mem hΓ1.1 e0.1 (List.mem_append.2 (.inr (List.mem_map.2 ⟨e0, he0, rfl⟩)))
    unfold holdK at h1
    have hf : (KV P vs' (KLof ((l.take m).zip Ls) [])).find? (fun x => Nat.beq x.1 e0.1) = none := by
      rw [List.find?_eq_none]
      intro e he hb
      obtain ⟨e1, he1, rfl⟩ := List.mem_map.1 he
      have := hno e1 he1
      simp only [notIn, List.all_eq_true] at this
      have := this e0 he0
      rw [beq_t hb] at this
      simp at this
    rw [hf] at h1
    exact h1
  refine runL_s (P := P) (fr := fr) hT hL hC hX hK hP hsm (gd_take hN m) h3 ⟨⟨hmem, hB'.o2, fun e he => hB'.r1 e (dd_mem he), hB'.r2⟩, vs', ?_⟩
  show St fr.we fr.Se (MS vs' (endB rs) ++ (MS vs' cx.ob ++ fr.F)) (RS P vs' env1 (dd σ'.rg) ++ (RS P vs' env1 cx.rg ++ fr.G)) w1
  rw [hend, MS_congr (ob := cx.ob) fun e he => hvs _ (hB0.o2 e he)]
  refine hst2.weak fun S w2 hΓ => ?_
  have hk := holdL_mem hΓ.1
  have hcx : ∀ t ∈ cx.rg.map (·.1), env1 t = env t := fun t ht => by
    have h1 := hk t (List.mem_append.2 (.inr ht))
    unfold holdK at h1
    have hf : (KV P vs' (KLof ((l.take m).zip Ls) [])).find? (fun x => Nat.beq x.1 t) = none := by
      rw [List.find?_eq_none]
      intro e he hb
      obtain ⟨e0, he0, rfl⟩ := List.mem_map.1 he
      have := hno e0 he0
      obtain ⟨e', he', rfl⟩ := List.mem_map.1 ht
      simp only [notIn, List.all_eq_true] at this
      have := this e' he'
      rw [beq_t hb] at this
      simp at this
    rw [hf] at h1
    exact h1
  refine All.append ?_ (All.append ?_ (All.right (All.right hΓ.2)))
  · refine all_mem.2 fun f hf => ?_
    obtain ⟨e, he, rfl⟩ := List.mem_map.1 hf
    have hg : get cx σ' e.1 e.2.1 = some e.2.2 := by unfold get; rw [dd_fnd he]
    exact hinv vs' hvs env1 S w2 hΓ.2 e.1 (hk e.1 (List.mem_append.2 (.inl (List.mem_map.2 ⟨e, dd_mem he, rfl⟩)))) _ _ hg
  · rw [RS_congr (vs := vs) (env := env) (fun e he o ho => hvs o (hB0.r2 e he o ho)) fun e he => hcx e.1 (List.mem_map.2 ⟨e, he, rfl⟩)]
    exact All.left (All.right hΓ.2)
theorem region_s (hm : P.follows .mixedOrders = true) (hT : TTok P cf.tt) (hL : ELok P cf.tt) (hC : ∀ s ∈ cf.cs, SigOK P s) (hX : XOK P cf) {N : Nd} {id : Nat} {l : List Oper} {draw : Bool} {Q : Qs} {kp : PX → Sg → Option R} {k : Sg → Option R}
    (hP : ∀ q σ', kp q σ' = some r → ∀ env' w, SmO cx env env' → Rel P fr cx σ' env' w → Q (.panic (chOf q)) env' w) (hK : ∀ σ', k σ' = some r → ∀ env' w, SmO cx env env' → Rel P fr cx σ' env' w → Q .normal env' w) (hN : (l.all fun o => okDst N.n o.dst) = true) (h : regD cf cx id l draw σ kp k = some r) (hR : Rel P fr cx σ env w) : Wp P N (.region id l.toArray draw) Q env w := by
  unfold regD at h
  cases draw
  · exact fun a h1 h2 h3 => wpIn_region_lit (runL_s hT hL hC hX hK hP SmO.refl hN h hR a h1 h2 h3)
  · simp only [cnd] at h
    obtain ⟨hc, h⟩ := grd_s h
    generalize drawnN l l.length l.length = m at hc h
    cases hw : hasB cf id <;> rw [hw] at h
    case true => exact regB_s hm hT hL hC hX hP hK hN hc h hR
    simp only at h
    have hR0 := rel_frzA (cf := cf) (l.take m) [] hR
    generalize frzA cf cx (l.take m) [] σ = σ0 at h hR0
    obtain ⟨hB, vs, hst⟩ := hR0
    have hml : m ≤ l.length := (draw_parts2 hc).1
    obtain ⟨Φs, σ', hl, hobs, h, hinv, hno, hob, hB'⟩ := runE_s (P := P) (fr := fr) (vs := vs) (env0 := env) (σ0 := σ0) (Γ := GS P vs env fr cx σ0) (K := []) hT hL hC hX h
      (fun env' S w' hΓ t ht i dv hd => by
        have ht : env' t = env t := ht
        rw [ht]
        exact gs_lk hΓ t i dv hd) (fun _ he => absurd he List.not_mem_nil) rfl hB
    refine T_draw (we := fr.we) (Se := fr.Se) (ms := OS vs fr cx σ0.ob) (Γ := GS P vs env fr cx σ0) m Φs (σ'.rg.map (·.1) ++ cx.rg.map (·.1)) hm hc (by rw [hl, List.length_take]; omega) hN hobs ?_ w hst
    intro S w1 env1 hS hΓ hh
    have hk := holdL_mem hh
    have hcx : ∀ t ∈ cx.rg.map (·.1), env1 t = env t := fun t ht => by
      have h1 := hk t (List.mem_append.2 (.inr ht))
      unfold holdK at h1
      have hf : (Kof ((l.take m).zip Φs) []).find? (fun x => Nat.beq x.1 t) = none := by
        rw [List.find?_eq_none]
        intro e he hb
        have := hno e he
        obtain ⟨e', he', rfl⟩ := List.mem_map.1 ht
        simp only [notIn, List.all_eq_true] at this
        have := this e' he'
        rw [beq_t hb] at this
        simp at this
      rw [hf] at h1
      exact h1
    have hd : All S (RS P vs env1 (dd σ'.rg)) w1 := all_mem.2 fun f hf => by
      obtain ⟨e, he, rfl⟩ := List.mem_map.1 hf
      have hg : get cx σ' e.1 e.2.1 = some e.2.2 := by unfold get; rw [dd_fnd he]
      exact hinv env1 S w1 hΓ e.1 (hk e.1 (List.mem_append.2 (.inl (List.mem_map.2 ⟨e, dd_mem he, rfl⟩)))) _ _ hg
    have hc2 : All S (RS P vs env1 cx.rg) w1 := by
      rw [RS_congr (env := env) (fun _ _ _ _ => rfl) fun e he => hcx e.1 (List.mem_map.2 ⟨e, he, rfl⟩)]
      exact All.left (All.right hΓ)
    refine ⟨GS P vs env1 fr cx ⟨σ'.nx, dd σ'.rg, σ'.ob⟩, (σ'.rg.map (·.1) ++ cx.rg.map (·.1)).map fun t => (t, env1 t), All.append hd (All.append hc2 (All.right (All.right hΓ))), agree_self _, fun rest w2 hst2 => ?_⟩
    refine runL_s (P := P) (fr := fr) hT hL hC hX hK hP (fun e0 he0 => (L_self (List.mem_append.2 (.inr (List.mem_map.2 ⟨e0, he0, rfl⟩)))).trans (hcx e0.1 (List.mem_map.2 ⟨e0, he0, rfl⟩))) (gd_take hN m) h ⟨⟨hB'.o1, hB'.o2, fun e he => hB'.r1 e (dd_mem he), hB'.r2⟩, vs, ?_⟩
    have e1 : RS P vs (L ((σ'.rg.map (·.1) ++ cx.rg.map (·.1)).map fun t => (t, env1 t)) rest) (dd σ'.rg) = RS P vs env1 (dd σ'.rg) := RS_congr (fun _ _ _ _ => rfl) fun e he => L_self (List.mem_append.2 (.inl (List.mem_map.2 ⟨e, dd_mem he, rfl⟩)))
    have e2 : RS P vs (L ((σ'.rg.map (·.1) ++ cx.rg.map (·.1)).map fun t => (t, env1 t)) rest) cx.rg = RS P vs env1 cx.rg := RS_congr (fun _ _ _ _ => rfl) fun e he => L_self (List.mem_append.2 (.inr (List.mem_map.2 ⟨e, he, rfl⟩)))
    show St _ _ (OS vs fr cx σ'.ob) (RS P vs _ (dd σ'.rg) ++ (RS P vs _ cx.rg ++ fr.G)) w2
    rw [e1, e2, hob]
    exact hst2
end
end
section
section
variable {P : Program} {cf : Cf} {fr : Fr} {cx kp σ : Sg} {vs vs' : Nat → Value} {env env0 : Env} {w : World} {R : Type} {r : R}
def rowV (u : Value) (r : Nat) : Option Value := (hvW u)[r]?
def tfF : (f : TF) → f.D → (Nat → Value) → Value → Value → FF
  | .d t, x, _, _, v => fV t.rep x v
  | .q t, x, _, _, v => fP t.rep x v
  | .own _ _, _, _, u, v => ffT (v = u)
  | .var _ _, _, _, u, v => ffT (v = u ∧ ∃ b, v = .pointer (some ⟨b, 0, none⟩))
  | .mat _ _ _, _, _, u, v => ffT (v = outW u)
  | .matv _ _ _, x, _, u, v => ffT (MvV (outW u) x.2.1 x.2.2 v)
  | .row j, r, U, _, v => ffT (rowV (U j) r = some v)
  | .view j, r, U, _, v => ffT (MvV (outW (U j)) r.1 r.2 v)
  | .bo _ _ _, _, _, u, v => ffT (v = outW u)
  | .vr _ _ _ _ _ _, _, _, u, v => ffT (v = outW u)
def tfM : (f : TF) → f.D → Value → List MF
  | .own t E, xs, u => [mO t.rep E u xs]
  | .var t E, z, u => [mP t.rep.c E u z]
  | .mat t E E1, x, u => [mMt t.rep E E1 u x.1 x.2]
  | .matv t E E1, x, u => [mMt t.rep E E1 u x.1.1 x.1.2]
  | .bo t E E0, xs, u => [mBo t.rep E E0 u xs]
  | .vr t E s E1 n i, x, u => [mVr (vrP s (fld n t i)) t.rep E (offL (fld n t i)) (putL s (fld n t i) []) s.rep E1 u x.1 x.2]
  | _, _, _ => []
def dsF (U : Nat → Value) (env : Env) : (l : List (Nat × TF)) → DsD l → Nat → List FF
  | [], _, _ => []
  | [a], x, i => [tfF a.2 x U (U i) (env a.1)]
  | a :: b :: r, x, i => tfF a.2 x.1 U (U i) (env a.1) :: dsF U env (b :: r) x.2 (i + 1)
def dsM (U : Nat → Value) : (l : List (Nat × TF)) → DsD l → Nat → List MF
  | [], _, _ => []
  | [a], x, i => tfM a.2 x (U i)
  | a :: b :: r, x, i => tfM a.2 x.1 (U i) ++ dsM U (b :: r) x.2 (i + 1)
def valT (f : TF) (dv : Option Dv) (vs : Nat → Value) (v : Value) : Value := match f, dv with
  | .mat _ _ _, some .nil => tupW v []
  | .mat _ _ _, some (.mw o) => vs o
  | .matv _ _ _, some (.mv o _ _) => vs o
  | .bo _ _ _, some (.mw o) => vs o
  | .vr _ _ _ _ _ _, some (.mw o) => vs o
  | _, _ => v
def valU (cx σ : Sg) (ds : List (Nat × TF)) (vs : Nat → Value) (env : Env) (j : Nat) : Value := match ds[j]? with
  | some (t, f) => valT f (get cx σ t 0) vs (env t)
  | none => undef
theorem none_in : ∀ {os l : List Nat}, noneIn os l = true → ∀ o ∈ l, has os o = false
  | os, o :: r, h, p, hp => by
    simp only [noneIn, Bool.and_eq_true, Bool.not_eq_true'] at h
    rcases List.mem_cons.1 hp with rfl | hp
    · exact h.1
    · exact none_in h.2 p hp
theorem gatF_s {ds : List (Nat × TF)} {t : Nat} {f : TF} {k : f.D → List Nat → Option R} (h : gatF cx σ ds t f k = some r) : ∃ x os, k x os = some r ∧ (∀ j, refT f = some j → j < ds.length) ∧
    (∀ (P : Program) vs env S w, (∀ t, Lk P vs env S w cx σ t) → (tfF f x (valU cx σ ds vs env) (valT f (get cx σ t 0) vs (env t)) (env t)).p S w) ∧
    (∀ (P : Program) vs (fr : Fr) env (A : List MF) (Γ : List FF) w (os' : List Nat), (∀ S w, All S Γ w → Lk P vs env S w cx σ t) → (∀ o ∈ os, has os' o = false) → St fr.we fr.Se (A ++ OS vs fr cx (delos σ.ob os')) Γ w →
      St fr.we fr.Se (tfM f x (valT f (get cx σ t 0) vs (env t)) ++ (A ++ OS vs fr cx (delos σ.ob (os ++ os')))) Γ w) := by
  have nr : ∀ {f : TF}, (∀ j, refT f ≠ some j) → ∀ j, refT f = some j → j < ds.length := fun h j e => absurd e (h j)
  cases f with
  | d s =>
    obtain ⟨y, h, hy⟩ := asD_s h
    refine ⟨y, [], h, nr (fun j e => by cases e), fun P vs env S w hl => ?_, fun P vs fr env A Γ w os' _ _ h => h⟩
    cases hg : get cx σ t 0 with
    | none => rename_i h0; simp only [gatF] at h0; rw [hg] at h0; cases h0
    | some v => exact hy P vs S w v _ hg (hl t 0 v hg)
  | q s =>
    simp only [gatF] at h
    split at h
    · next s' x hg =>
      obtain ⟨e, h⟩ := cast_s h
      subst e
      exact ⟨_, [], h, nr (fun j e => by cases e), fun P vs env S w hl => hl t 0 _ hg, fun P vs fr env A Γ w os' _ _ h => h⟩
    · cases h
  | own s E =>
    simp only [gatF] at h
    split at h
    · next o hg =>
      split at h
      · next s' E' xs ho =>
        obtain ⟨hE, h1⟩ := grd_s h
        have hE := beq_t hE
        subst hE
        obtain ⟨e, h2⟩ := cast_s h1
        cases e
        refine ⟨_, [o], h2, nr (fun j e => by cases e), fun _ _ _ _ _ _ => by simp only [hg, valT]; exact rfl, fun P vs fr env A Γ w os' hl hn hst => ?_⟩
        have hp := os_perm (vs := vs) (fr := fr) (cx := cx) ((fndO_delos (hn o (List.mem_cons_self ..))).trans ho)
        have h3 := St.mid (St.perm hst (List.Perm.append_left _ hp))
        obtain ⟨S, _, hΓ⟩ := hst.ex
        have hv : env t = vs o := hl S w hΓ 0 _ hg
        simp only [hg, valT]
        show St _ _ (mO s.rep E (env t) _ :: (A ++ _)) _ _
        rw [hv]; exact h3
      · cases h
    · next hg =>
      refine ⟨_, [], h, nr (fun j e => by cases e), fun _ _ _ _ _ _ => by simp only [hg, valT]; exact rfl, fun P vs fr env A Γ w os' hl hn hst => ?_⟩
      obtain ⟨S, _, hΓ⟩ := hst.ex
      have hv : env t = .slice none 0 0 := hl S w hΓ 0 _ hg
      simp only [hg, valT]
      show St _ _ (mO s.rep E (env t) _ :: (A ++ _)) _ _
      rw [hv]; exact hst.nilO
    · cases h
  | var s E =>
    simp only [gatF] at h
    split at h
    · next o s0 hg =>
      split at h
      · next s' E' z ho =>
        obtain ⟨hE, h1⟩ := grd_s h
        have hE := beq_t hE
        subst hE
        obtain ⟨e, h2⟩ := cast_s h1
        subst e
        refine ⟨_, [o], h2, nr (fun j e => by cases e), fun P vs env S w hl => ?_, fun P vs fr env A Γ w os' hl hn hst => ?_⟩
        · obtain ⟨h3, b, h4⟩ := hl t 0 _ hg
          simp only [hg, valT]
          exact ⟨rfl, b, h3.trans h4⟩
        · have hp := os_perm (vs := vs) (fr := fr) (cx := cx) ((fndO_delos (hn o (List.mem_cons_self ..))).trans ho)
          have h3 := St.mid (St.perm hst (List.Perm.append_left _ hp))
          obtain ⟨S, _, hΓ⟩ := hst.ex
          have hv : env t = vs o := (hl S w hΓ 0 _ hg).1
          simp only [hg, valT]
          show St _ _ (mP s'.rep.c E (env t) _ :: (A ++ _)) _ _
          rw [hv]; exact h3
      · cases h
    · cases h
  | mat s E E1 =>
    simp only [gatF] at h
    split at h
    · next o hg =>
      split at h
      · next s' E' F' xss ix ho =>
        obtain ⟨hE, h1⟩ := grd_s h
        rw [Bool.and_eq_true] at hE
        have hE1 := beq_t hE.1
        have hE2 := beq_t hE.2
        subst hE1
        subst hE2
        obtain ⟨e, h2⟩ := cast_s h1
        cases e
        refine ⟨_, [o], h2, nr (fun j e => by cases e), fun P vs env S w hl => ?_, fun P vs fr env A Γ w os' hl hn hst => ?_⟩
        · simp only [hg, valT]
          exact hl t 0 _ hg
        · have hp := os_perm (vs := vs) (fr := fr) (cx := cx) ((fndO_delos (hn o (List.mem_cons_self ..))).trans ho)
          simp only [hg, valT]
          have h3 := St.mid (St.perm hst (List.Perm.append_left _ hp))
          exact h3
      · cases h
    · next hg =>
      refine ⟨_, [], h, nr (fun j e => by cases e), fun P vs env S w hl => by simp only [hg, valT]; exact rfl, fun P vs fr env A Γ w os' hl hn hst => ?_⟩
      obtain ⟨S, _, hΓ⟩ := hst.ex
      have hv : env t = .slice none 0 0 := hl S w hΓ 0 _ hg
      simp only [hg, valT]
      refine mt_in (u := tupW (env t) []) rfl ?_
      show St _ _ (mO (eHd []) E (env t) [] :: (A ++ _)) _ _
      rw [hv]; exact hst.nilO
    · cases h
  | matv s E E1 =>
    simp only [gatF] at h
    split at h
    · next o lo n hg =>
      split at h
      · next s' E' F' xss ix ho =>
        obtain ⟨hE, h1⟩ := grd_s h
        rw [Bool.and_eq_true] at hE
        have hE1 := beq_t hE.1
        have hE2 := beq_t hE.2
        subst hE1
        subst hE2
        obtain ⟨e, h2⟩ := cast_s h1
        cases e
        refine ⟨_, [o], h2, nr (fun j e => by cases e), fun P vs env S w hl => ?_, fun P vs fr env A Γ w os' hl hn hst => ?_⟩
        · simp only [hg, valT]
          exact hl t 0 _ hg
        · have hp := os_perm (vs := vs) (fr := fr) (cx := cx) ((fndO_delos (hn o (List.mem_cons_self ..))).trans ho)
          simp only [hg, valT]
          have h3 := St.mid (St.perm hst (List.Perm.append_left _ hp))
          exact h3
      · cases h
    · cases h
  | row j =>
    simp only [gatF] at h
    have fin : ∀ (o o' p : Nat), j < ds.length → get cx σ t 0 = some (.rw o p) → Nat.beq o o' = true → k p [] = some r → (∀ vs env, valU cx σ ds vs env j = vs o') → ∃ (x : Nat) (os : List Nat), k x os = some r ∧ (∀ i, refT (TF.row j) = some i → i < ds.length) ∧
        (∀ (P : Program) vs env S w, (∀ t, Lk P vs env S w cx σ t) → (tfF (.row j) x (valU cx σ ds vs env) (valT (.row j) (get cx σ t 0) vs (env t)) (env t)).p S w) ∧
        (∀ (P : Program) vs (fr : Fr) env (A : List MF) (Γ : List FF) w (os' : List Nat), (∀ S w, All S Γ w → Lk P vs env S w cx σ t) → (∀ o ∈ os, has os' o = false) → St fr.we fr.Se (A ++ OS vs fr cx (delos σ.ob os')) Γ w →
          St fr.we fr.Se (tfM (.row j) x (valT (.row j) (get cx σ t 0) vs (env t)) ++ (A ++ OS vs fr cx (delos σ.ob (os ++ os')))) Γ w) := by
      intro o o' p hlt hg h2 h3 h4
      refine ⟨p, [], h3, fun i e => by cases e; exact hlt, fun P vs env S w hl => ?_, fun P vs fr env A Γ w os' _ _ h => h⟩
      have h5 : (hvW (vs o))[p]? = some (env t) := hl t 0 _ hg
      rw [beq_t h2] at h5
      show rowV (valU cx σ ds vs env j) p = some (env t)
      rw [h4]; exact h5
    split at h
    · next o p s _ _ _ hg hj =>
      split at h
      · next o' hs =>
        obtain ⟨hb, h⟩ := grd_s h
        exact fin o o' p (List.getElem?_eq_some_iff.1 hj).1 hg hb h fun vs env => by unfold valU; rw [hj]; simp only [hs, valT]
      · cases h
    · next o p s _ _ _ hg hj =>
      split at h
      · next o' lo n hs =>
        obtain ⟨hb, h⟩ := grd_s h
        exact fin o o' p (List.getElem?_eq_some_iff.1 hj).1 hg hb h fun vs env => by unfold valU; rw [hj]; simp only [hs, valT]
      · cases h
    · cases h
  | view j =>
    simp only [gatF] at h
    have fin : ∀ (o o' p q : Nat), j < ds.length → get cx σ t 0 = some (.mv o p q) → Nat.beq o o' = true → k (p, q) [] = some r → (∀ vs env, valU cx σ ds vs env j = vs o') → ∃ (x : Nat × Nat) (os : List Nat), k x os = some r ∧ (∀ i, refT (TF.view j) = some i → i < ds.length) ∧
        (∀ (P : Program) vs env S w, (∀ t, Lk P vs env S w cx σ t) → (tfF (.view j) x (valU cx σ ds vs env) (valT (.view j) (get cx σ t 0) vs (env t)) (env t)).p S w) ∧
        (∀ (P : Program) vs (fr : Fr) env (A : List MF) (Γ : List FF) w (os' : List Nat), (∀ S w, All S Γ w → Lk P vs env S w cx σ t) → (∀ o ∈ os, has os' o = false) → St fr.we fr.Se (A ++ OS vs fr cx (delos σ.ob os')) Γ w →
          St fr.we fr.Se (tfM (.view j) x (valT (.view j) (get cx σ t 0) vs (env t)) ++ (A ++ OS vs fr cx (delos σ.ob (os ++ os')))) Γ w) := by
      intro o o' p q hlt hg h2 h3 h4
      refine ⟨(p, q), [], h3, fun i e => by cases e; exact hlt, fun P vs env S w hl => ?_, fun P vs fr env A Γ w os' _ _ h => h⟩
      have h5 : MvV (outW (vs o)) p q (env t) := hl t 0 _ hg
      rw [beq_t h2] at h5
      show MvV (outW (valU cx σ ds vs env j)) p q (env t)
      rw [h4]; exact h5
    split at h
    · next o p q s _ _ _ hg hj =>
      split at h
      · next o' hs =>
        obtain ⟨hb, h⟩ := grd_s h
        exact fin o o' p q (List.getElem?_eq_some_iff.1 hj).1 hg hb h fun vs env => by unfold valU; rw [hj]; simp only [hs, valT]
      · cases h
    · next o p q s _ _ _ hg hj =>
      split at h
      · next o' lo n hs =>
        obtain ⟨hb, h⟩ := grd_s h
        exact fin o o' p q (List.getElem?_eq_some_iff.1 hj).1 hg hb h fun vs env => by unfold valU; rw [hj]; simp only [hs, valT]
      · cases h
    · cases h
  | bo s E E0 =>
    simp only [gatF] at h
    split at h
    · next o hg =>
      split at h
      · next s' E' F' xs ho =>
        obtain ⟨hE, h1⟩ := grd_s h
        rw [Bool.and_eq_true] at hE
        have hE1 := beq_t hE.1
        have hE2 := beq_t hE.2
        subst hE1
        subst hE2
        obtain ⟨e, h2⟩ := cast_s h1
        cases e
        refine ⟨_, [o], h2, nr (fun j e => by cases e), fun P vs env S w hl => ?_, fun P vs fr env A Γ w os' hl hn hst => ?_⟩
        · simp only [hg, valT]
          exact hl t 0 _ hg
        · have hp := os_perm (vs := vs) (fr := fr) (cx := cx) ((fndO_delos (hn o (List.mem_cons_self ..))).trans ho)
          simp only [hg, valT]
          have h3 := St.mid (St.perm hst (List.Perm.append_left _ hp))
          exact h3
      · cases h
    · cases h
  | vr s E s2 E1 n i =>
    simp only [gatF] at h
    split at h
    · next o hg =>
      split at h
      · next s' E' s2' F' n' i' z xs ho =>
        obtain ⟨hE, h1⟩ := grd_s h
        rw [Bool.and_eq_true, Bool.and_eq_true, Bool.and_eq_true] at hE
        obtain ⟨e1, h2⟩ := cast_s h1
        obtain ⟨e2, h3⟩ := cast_s h2
        have hE1 := beq_t hE.1
        have hE2 := beq_t hE.2.1
        have hE3 := beq_t hE.2.2.1
        have hE4 := beq_t hE.2.2.2
        subst hE1
        subst hE2
        subst hE3
        subst hE4
        subst e1
        cases e2
        refine ⟨_, [o], h3, nr (fun j e => by cases e), fun P vs env S w hl => ?_, fun P vs fr env A Γ w os' hl hn hst => ?_⟩
        · simp only [hg, valT]
          exact hl t 0 _ hg
        · have hp := os_perm (vs := vs) (fr := fr) (cx := cx) ((fndO_delos (hn o (List.mem_cons_self ..))).trans ho)
          simp only [hg, valT]
          have h3 := St.mid (St.perm hst (List.Perm.append_left _ hp))
          exact h3
      · cases h
    · cases h
theorem valU_at {ds : List (Nat × TF)} {i : Nat} {t : Nat} {f : TF} {env : Env} (h : ds[i]? = some (t, f)) : valU cx σ ds vs env i = valT f (get cx σ t 0) vs (env t) := by unfold valU; rw [h]
theorem gat_s {ds : List (Nat × TF)} : ∀ {l : List (Nat × TF)} {i : Nat} {k : DsD l → List Nat → Option R}, (∀ j a, l[j]? = some a → ds[i + j]? = some a) → gat cx σ ds l k = some r → ∃ x os, k x os = some r ∧ (∀ a ∈ l, ∀ j, refT a.2 = some j → j < ds.length) ∧
    (∀ (P : Program) vs env S w, (∀ t, Lk P vs env S w cx σ t) → All S (dsF (valU cx σ ds vs env) env l x i) w) ∧
    (∀ (P : Program) vs (fr : Fr) env (Γ : List FF) w, (∀ S w, All S Γ w → ∀ t, Lk P vs env S w cx σ t) → St fr.we fr.Se (OS vs fr cx σ.ob) Γ w → St fr.we fr.Se (dsM (valU cx σ ds vs env) l x i ++ OS vs fr cx (delos σ.ob os)) Γ w)
  | [], i, k, _, h => ⟨(), [], h, fun _ h => absurd h List.not_mem_nil, fun _ _ _ _ _ _ => trivial, fun _ _ _ _ _ _ _ h => h⟩
  | [a], i, k, hd, h => by
    obtain ⟨x, os, h1, h0, h2, h3⟩ := gatF_s (h : gatF cx σ ds a.1 a.2 k = some r)
    have ha : ds[i]? = some (a.1, a.2) := hd 0 a rfl
    refine ⟨x, os, h1, fun b hb j e => ?_, fun P vs env S w hl => ⟨?_, trivial⟩, fun P vs fr env Γ w hl hst => ?_⟩
    · obtain rfl := List.mem_singleton.1 hb
      exact h0 j e
    · rw [valU_at ha]; exact h2 P vs env S w hl
    · have := h3 P vs fr env [] Γ w [] (fun S w hΓ => hl S w hΓ a.1) (fun _ _ => rfl) hst
      rw [List.append_nil] at this
      show St _ _ (tfM a.2 x (valU cx σ ds vs env i) ++ _) _ _
      rw [valU_at ha]; exact this
  | a :: b :: l, i, k, hd, h => by
    obtain ⟨x, o, h1, h0, h2, h3⟩ := gatF_s (h : gatF cx σ ds a.1 a.2 _ = some r)
    obtain ⟨y, os, h4, h00, h5, h6⟩ := gat_s (l := b :: l) (i := i + 1) (fun j c hj => by
      have := hd (j + 1) c (by simpa using hj)
      rw [show i + 1 + j = i + (j + 1) by omega]; exact this) h1
    obtain ⟨hn, h4⟩ := grd_s h4
    have ha : ds[i]? = some (a.1, a.2) := hd 0 a rfl
    refine ⟨(x, y), o ++ os, h4, fun c hc j e => ?_, fun P vs env S w hl => ⟨?_, h5 P vs env S w hl⟩, fun P vs fr env Γ w hl hst => ?_⟩
    · rcases List.mem_cons.1 hc with rfl | hc
      · exact h0 j e
      · exact h00 c hc j e
    · rw [valU_at ha]; exact h2 P vs env S w hl
    · have := h3 P vs fr env (dsM (valU cx σ ds vs env) (b :: l) y (i + 1)) Γ w os (fun S w hΓ => hl S w hΓ a.1) (none_in hn) (h6 P vs fr env Γ w hl hst)
      show St _ _ ((tfM a.2 x (valU cx σ ds vs env i) ++ dsM (valU cx σ ds vs env) (b :: l) y (i + 1)) ++ _) _ _
      rw [valU_at ha, List.append_assoc]
      exact this
def nvs (vs : Nat → Value) (U : Nat → Value) (n : Nat) : Nat → Value := fun k => if k < n then vs k else U (k - n)
theorem bld_ob {n0 : Nat} : ∀ {l : List (Nat × TF)} {x : DsD l} {o : Nat}, ∀ e ∈ (bld n0 l x o).2, o ≤ e.1 ∧ e.1 < o + l.length
  | [], _, _, e, he => absurd he List.not_mem_nil
  | [(t, f)], x, o, e, he => by
    cases f <;> simp only [bld, bldF] at he <;> first | exact absurd he List.not_mem_nil | (obtain rfl := List.mem_singleton.1 he; exact ⟨Nat.le_refl _, Nat.lt_succ_self _⟩)
  | (t, f) :: b :: l, x, o, e, he => by
    have ih : ∀ e ∈ (bld n0 (b :: l) x.2 (o + 1)).2, o ≤ e.1 ∧ e.1 < o + ((t, f) :: b :: l).length := fun e he => by
      have := bld_ob e he
      simp only [List.length_cons] at this ⊢
      omega
    cases f <;> simp only [bld, bldF] at he <;> first
      | exact ih e he
      | exact (List.mem_cons.1 he).elim (fun he => by subst he; exact ⟨Nat.le_refl _, by simp only [List.length_cons]; omega⟩) (fun he => ih e he)
theorem bldF_ref {n0 o p n : Nat} {f : TF} {x : f.D} (hn : ∀ j, refT f = some j → j < n) (h : refO (bldF n0 o f x).1 = some p) : p = o ∨ p < n0 + n := by
  cases f <;> simp only [bldF, refO, Option.some.injEq, reduceCtorEq] at h
  · exact .inl h.symm
  · exact .inl h.symm
  · exact .inl h.symm
  · exact .inl h.symm
  · next j => have := hn j rfl; exact .inr (by omega)
  · next j => have := hn j rfl; exact .inr (by omega)
  · exact .inl h.symm
  · exact .inl h.symm
theorem bld_ref {n0 n : Nat} : ∀ {l : List (Nat × TF)} {x : DsD l} {o : Nat}, (∀ a ∈ l, ∀ j, refT a.2 = some j → j < n) → ∀ e ∈ (bld n0 l x o).1, ∀ p, refO e.2.2 = some p → p < o + l.length ∨ p < n0 + n
  | [], _, _, _, e, he => absurd he List.not_mem_nil
  | [(t, f)], x, o, hn, e, he => by
    intro p hp
    obtain rfl := List.mem_singleton.1 (show e ∈ [(t, 0, (bldF n0 o f x).1)] from he)
    rcases bldF_ref (hn _ (List.mem_cons_self ..)) hp with rfl | h
    · exact .inl (Nat.lt_succ_self _)
    · exact .inr h
  | (t, f) :: b :: l, x, o, hn, e, he => by
    intro p hp
    have he : e = (t, 0, (bldF n0 o f x.1).1) ∨ e ∈ (bld n0 (b :: l) x.2 (o + 1)).1 := List.mem_cons.1 he
    rcases he with rfl | he
    · rcases bldF_ref (hn _ (List.mem_cons_self ..)) hp with rfl | h
      · exact .inl (by simp only [List.length_cons]; omega)
      · exact .inr h
    · rcases bld_ref (fun a ha => hn a (List.mem_cons_of_mem _ ha)) e he p hp with h | h
      · simp only [List.length_cons] at h ⊢
        exact .inl (by omega)
      · exact .inr h
theorem bld_ms {U : Nat → Value} {n0 : Nat} : ∀ {l : List (Nat × TF)} {x : DsD l} {o i : Nat}, (∀ j, j < l.length → vs (o + j) = U (i + j)) → MS vs (bld n0 l x o).2 = dsM U l x i
  | [], _, _, _, _ => rfl
  | [(t, f)], x, o, i, h => by
    have h0 : vs o = U i := h 0 (by simp)
    cases f <;> simp only [bld, bldF, MS, List.map_cons, List.map_nil, moF, dsM, tfM, h0] <;> rfl
  | (t, f) :: b :: l, x, o, i, h => by
    have h0 : vs o = U i := h 0 (by simp)
    have ih : MS vs (bld n0 (b :: l) x.2 (o + 1)).2 = dsM U (b :: l) x.2 (i + 1) := bld_ms fun j hj => by
      have := h (j + 1) (by simpa using hj)
      rw [show o + 1 + j = o + (j + 1) by omega, show i + 1 + j = i + (j + 1) by omega]; exact this
    unfold MS at ih
    cases f <;> simp only [bld, bldF, MS, List.map_cons, moF, dsM, tfM, h0, ih, List.nil_append, List.singleton_append] <;> rfl
theorem bldF_hold {U : Nat → Value} {n0 n : Nat} {f : TF} {x : f.D} {o t : Nat} {u : Value} {S : Nat → Prop} (hv : vs o = u) (hn : ∀ j, refT f = some j → j < n) (hU : ∀ j, j < n → vs (n0 + j) = U j) (h : (tfF f x U u (env t)).p S w) : (holdC P vs (bldF n0 o f x).1 (env t) 0).p S w := by
  subst hv
  cases f
  · exact h
  · exact h
  · exact h
  · obtain ⟨h1, b, h2⟩ := h
    exact ⟨h1, b, h1.symm.trans h2⟩
  · exact h
  · exact h
  · next j =>
    have h : rowV (U j) x = some (env t) := h
    show rowV (vs (n0 + j)) x = some (env t)
    rw [hU j (hn j rfl)]
    exact h
  · next j =>
    have h : MvV (outW (U j)) x.1 x.2 (env t) := h
    show MvV (outW (vs (n0 + j))) x.1 x.2 (env t)
    rw [hU j (hn j rfl)]
    exact h
  · exact h
  · exact h
theorem bld_rs {U : Nat → Value} {n0 n : Nat} (hU : ∀ j, j < n → vs (n0 + j) = U j) : ∀ {l : List (Nat × TF)} {x : DsD l} {o i : Nat} {S : Nat → Prop}, (∀ a ∈ l, ∀ j, refT a.2 = some j → j < n) → (∀ j, j < l.length → vs (o + j) = U (i + j)) → All S (dsF U env l x i) w → All S (RS P vs env (bld n0 l x o).1) w
  | [], _, _, _, _, _, _, _ => trivial
  | [(t, f)], x, o, i, S, hn, h, hf => ⟨bldF_hold (h 0 (by simp)) (hn _ (List.mem_cons_self ..)) hU hf.1, trivial⟩
  | (t, f) :: b :: l, x, o, i, S, hn, h, hf => ⟨bldF_hold (h 0 (by simp)) (hn _ (List.mem_cons_self ..)) hU hf.1, bld_rs hU (fun a ha => hn a (List.mem_cons_of_mem _ ha)) (fun j hj => by
      have := h (j + 1) (by simpa using hj)
      rw [show o + 1 + j = o + (j + 1) by omega, show i + 1 + j = i + (j + 1) by omega]; exact this) hf.2⟩
theorem ns_get : ∀ {ns : List (Nat × NF)}, nsOK cx σ ns = true → ∀ t f, (t, f) ∈ ns → (match f, get cx σ t 0 with
    | .kb b, some (.kb c) => b == c
    | .nil, some .nil => true
    | .ci x, some (.d .i y) => eqI x y
    | .cu x, some (.d .u y) => eqU x y
    | .al s, some (.ow o) => (match get cx σ s 0 with
      | some (.ow o') => Nat.beq o o'
      | _ => false)
    | .al s, some (.vs o _) => (match get cx σ s 0 with
      | some (.vs o' _) => Nat.beq o o'
      | _ => false)
    | .al s, some (.mw o) => (match get cx σ s 0 with
      | some (.mw o') => Nat.beq o o'
      | _ => false)
    | .bm s f, some (.bm f' o _) => (match get cx σ s 0 with
      | some (.vs o' _) => Nat.beq o o' && Nat.beq f f'
      | _ => false)
    | _, _ => false) = true
  | (t', f') :: r, h, t, f, hm => by
    unfold nsOK at h
    rw [Bool.and_eq_true] at h
    rcases List.mem_cons.1 hm with heq | hm
    · cases heq; exact h.1
    · exact ns_get h.2 t f hm
theorem bldN_rs {rg : List (Nat × Nat × Dv)} {S : Nat → Prop} (hr : All S (RS P vs env rg) w) : ∀ {ns : List (Nat × NF)}, (∀ t f, (t, f) ∈ ns → match f with
      | .kb b => env t = .bool b
      | .nil => env t = .slice none 0 0
      | .ci x => (fV eI x (env t)).p S w
      | .cu x => (fV eU x (env t)).p S w
      | .al s => env t = env s
      | .bm s f => env t = .func (.func f) #[env s] #[]) → All S (RS P vs env (bldN rg ns)) w
  | [], _ => hr
  | (t, f) :: r, h => by
    have ih := bldN_rs hr (ns := r) fun t f hm => h t f (List.mem_cons_of_mem _ hm)
    have h0 := h t f (List.mem_cons_self ..)
    unfold bldN
    show All S (RS P vs env (_ ++ _)) w
    rw [show RS P vs env (_ ++ bldN rg r) = RS P vs env _ ++ RS P vs env (bldN rg r) from List.map_append]
    refine All.append ?_ ih
    cases f
    · exact ⟨h0, trivial⟩
    · exact ⟨h0, trivial⟩
    · exact ⟨h0, trivial⟩
    · exact ⟨h0, trivial⟩
    · next s =>
      simp only
      split
      · next v hv =>
        have := rs_get hr (fnd_mem hv)
        have h0 : env t = env s := h0
        refine ⟨?_, trivial⟩
        show (holdC P vs v (env t) 0).p S w
        rw [h0]; exact this
      · trivial
    · next s f =>
      simp only
      split
      · next o q hv =>
        obtain ⟨h1, h2⟩ := rs_get hr (fnd_mem hv)
        have h0 : env t = .func (.func f) #[env s] #[] := h0
        exact ⟨⟨by rw [h0, h1], h2⟩, trivial⟩
      · trivial
theorem bldN_ref {rg : List (Nat × Nat × Dv)} {n : Nat} (hr : ∀ e ∈ rg, ∀ p, refO e.2.2 = some p → p < n) : ∀ {ns : List (Nat × NF)}, ∀ e ∈ bldN rg ns, ∀ p, refO e.2.2 = some p → p < n
  | [], e, he => hr e he
  | (t, f) :: r, e, he => by
    intro p hp
    unfold bldN at he
    rcases List.mem_append.1 he with he | he
    · cases f
      · obtain rfl := List.mem_singleton.1 he; cases hp
      · obtain rfl := List.mem_singleton.1 he; cases hp
      · obtain rfl := List.mem_singleton.1 he; cases hp
      · obtain rfl := List.mem_singleton.1 he; cases hp
      · simp only at he
        split at he
        · next v hv =>
          obtain rfl := List.mem_singleton.1 he
          exact hr _ (fnd_mem hv) p hp
        · exact absurd he List.not_mem_nil
      · simp only at he
        split at he
        · next o q hv =>
          obtain rfl := List.mem_singleton.1 he
          cases hp
          exact hr _ (fnd_mem hv) _ rfl
        · exact absurd he List.not_mem_nil
    · exact bldN_ref hr e he p hp
theorem rel_frzS : ∀ (l : List (Nat × TF)) {σ : Sg}, Rel P fr cx σ env w → Rel P fr cx (frzS cx σ l) env w
  | [], _, h => h
  | (t, .d _) :: r, _, h => rel_frzS r (rel_frz _ h)
  | (t, .q _) :: r, _, h => rel_frzS r h
  | (t, .own _ _) :: r, _, h => rel_frzS r h
  | (t, .var _ _) :: r, _, h => rel_frzS r h
  | (t, .mat _ _ _) :: r, _, h => rel_frzS r h
  | (t, .matv _ _ _) :: r, _, h => rel_frzS r h
  | (t, .row _) :: r, _, h => rel_frzS r h
  | (t, .view _) :: r, _, h => rel_frzS r h
  | (t, .bo _ _ _) :: r, _, h => rel_frzS r h
  | (t, .vr _ _ _ _ _ _) :: r, _, h => rel_frzS r h
end
end
end Go.Proofs.YtbaoeefdjpaomaaDoor
