/- What a proof needs: rules of walking, mirrors of functions and their plain laws. No condition. -/
import Derived.Test.YtbaoeefdjpaomaaDoorZk2
import Derived.Laws.IdiomStrings
import Derived.Lib.AppendStr
set_option linter.unusedVariables false
set_option linter.unusedSimpArgs false
namespace Go.Proofs.YtbaoeefdjpaomaaDoor
section
section
variable {P : Program} {cf : Cf} {cx σ : Sg} {F : List MF} {vs : Nat → Value} {env : Env} {S : Nat → Prop} {w : World} {R : Type} {r : R}
  {d : Option Tmp} {ty t yt : TypeId} {pos : String} {aft : Array Edge} {g : Option (Nat × Bool)} {x y : Operand}
theorem tk_int {s : TypeId} {q : Ty} {k : IntKind} {B : Nat} (hT : TTok P cf.tt) (h : tyA cf s = some ⟨q, .int k, B⟩) : P.underlying s = some (.int k) := (hT _ _ h).2.2.2
theorem tk_sl {s E : TypeId} {q : Ty} {B : Nat} (hT : TTok P cf.tt) (h : tyA cf s = some ⟨q, .sl E, B⟩) : P.underlying s = some (.slice E) := (hT _ _ h).2.2.2.1
theorem tk_str {s : TypeId} {q : Ty} {B : Nat} (hT : TTok P cf.tt) (h : tyA cf s = some ⟨q, .str, B⟩) : P.underlying s = some .string := (hT _ _ h).2.2.2
theorem tk_bool (hT : TTok P cf.tt) : isB cf t = true → P.underlying t = some .bool := by
  intro h
  unfold isB at h
  split at h
  · next q B hu => exact (hT _ _ hu).2.2.2
  · cases h
theorem ty_el {s E : TypeId} {e : Ty} {B : Nat} (hT : TTok P cf.tt) (hL : ELok P cf.tt) (h : tyA cf s = some ⟨.l e, .sl E, B⟩) : ∃ bytes zero, TyF P E e.rep.agg e.rep.n bytes zero := by
  obtain ⟨ti, h1, rfl⟩ := hL _ _ _ _ h
  obtain ⟨⟨zero, h2, _⟩, _⟩ := hT _ _ h1
  exact ⟨_, _, h2⟩
theorem ty_of {ti : TI} (hT : TTok P cf.tt) (h : tyA cf t = some ti) : ∃ zero, TyF P t ti.ty.rep.agg ti.ty.rep.n ti.B zero ∧ zero.cells.size = ti.ty.rep.n ∧ ∀ S w, ti.ty.rep.p S ti.ty.z zero.cells.toList w := by
  obtain ⟨zero, h1, h2, h3, _⟩ := (hT _ _ h).1
  exact ⟨zero, h1, h2, h3⟩
theorem ty_nil {ti : TI} {s : Ty} (hT : TTok P cf.tt) (h : tyA cf t = some ti) (hs : ti.ty = .l s) : TyF P t false 1 ti.B (.slice none 0 0) := by
  obtain ⟨zero, h1, _, _, h4⟩ := (hT _ _ h).1
  rw [h4.1 s hs, hs] at h1
  exact h1
theorem ch_r {a : Nat} (h : a < 256) : InR (a : Int) := by unfold InR; omega
theorem ch_u {a : Nat} (h : a < 256) : a < 18446744073709551616 := by omega
theorem ch_c {a : Nat} (h : a < 256) : IntKind.u8.wrap (a : Int) = (a : Int) := by rw [wc_int]; omega
theorem u_c {a : Nat} : IntKind.u8.wrap (a : Int) = ((a % 256 : Nat) : Int) := by rw [wc_int]; omega
theorem elems_ch {S : Nat → Prop} {w : World} : ∀ {xs : List Nat} {cs : List Value}, Elems eCh S xs cs w → cs = xs.map (fun x : Nat => Value.int .u8 (x : Int)) ∧ ∀ x ∈ xs, x < 256
  | [], cs, h => ⟨h, fun x hx => absurd hx List.not_mem_nil⟩
  | x :: xs, cs, ⟨c, r, h1, h2, h3⟩ => by
    obtain ⟨e1, e2⟩ := elems_ch h3
    obtain ⟨e3, e4⟩ := h2
    refine ⟨by rw [h1, e3, e1]; rfl, fun y hy => ?_⟩
    rcases List.mem_cons.1 hy with rfl | hy
    · exact e4
    · exact e2 y hy
theorem r_toTx {s t E : TypeId} {xs : List Nat} {v : Value} {S : Nat → Prop} {w : World} (hs : P.underlying s = some (.slice E)) (hE : P.underlying E = some (.int .u8)) (ht : P.underlying t = some .string) (hv : (fV (eS eCh) xs v).p S w) :
    ∃ u : ByteArray, (convert s t v).run P w = .ok (.string u) w ∧ bytesN u = xs ∧ u.size ≤ 9223372036854775807 := by
  obtain ⟨ao, cap, rfl, hc1, hc2, h⟩ := fV_slice.1 hv
  have key : ∀ a, ao = some a → (∀ x ∈ xs, x < 256) → (∀ j (hj : j < xs.length), w.cell? (a.add j) = some (.int .u8 ((xs[j] : Nat) : Int))) → ∃ u : ByteArray, (convert s t (.slice ao xs.length cap)).run P w = .ok (.string u) w ∧ bytesN u = xs ∧ u.size ≤ 9223372036854775807 := by
    rintro a rfl hx hj
    have hm : (xs.map UInt8.ofNat).map UInt8.toNat = xs := by
      rw [List.map_map]
      conv => rhs; rw [← List.map_id xs]
      exact List.map_congr_left fun x hx' => UInt8.toNat_ofNat_of_lt' (hx x hx')
    have hr := run_convert_bytes_back (P := P) w s t E a cap (xs.map UInt8.ofNat) hs hE ht (fun j hj' => by
      have hj2 : j < xs.length := by simpa using hj'
      rw [hj j hj2, List.getElem_map, UInt8.toNat_ofNat_of_lt' (hx _ (List.getElem_mem hj2))])
    rw [List.length_map] at hr
    refine ⟨_, hr, by unfold bytesN; simpa using hm, ?_⟩
    rw [← bytesN_len]
    unfold bytesN
    rw [List.length_map]
    simp
    unfold maxLen at hc2
    omega
  rcases h with rfl | ⟨b, o, cs, rfl, _, hat, hel⟩
  · cases ao with
    | some a => exact key a rfl (fun x hx => absurd hx List.not_mem_nil) (fun j hj => absurd hj (Nat.not_lt_zero _))
    | none =>
      refine ⟨ByteArray.empty, ?_, rfl, by decide⟩
      rw [run_convert_bytes_string w s t E none _ cap hs hE ht]
      rfl
  · obtain ⟨e1, e2⟩ := elems_ch hel
    refine key _ rfl e2 fun j hj => ?_
    have := hat.2 j (.int .u8 ((xs[j] : Nat) : Int)) (by rw [e1, List.getElem?_map, List.getElem?_eq_getElem hj]; rfl)
    rw [addr_add]
    exact this
theorem e_cvt (hT : TTok P cf.tt) {s t : TypeId} {k : List (Nat × Dv) → Option R} (h : eCvt cf cx σ s t x k = some r) : ∃ l, k l = some r ∧ ES P ⟨d, .convert s t x, ty, pos, aft, g⟩ cx σ F l := by
  have hx : ∀ {vs env S w}, (∀ t' ∈ tmpsOf (.convert s t x), Lk P vs env S w cx σ t') → LkO P vs env S w cx σ x := fun hl => lk_of hl (by simp [Op.operands])
  unfold eCvt at h
  split at h
  · next q k1 B ti hs ht =>
    have hs' := tk_int hT hs
    obtain ⟨tty, tk, tB⟩ := ti
    unfold cvtD at h
    split at h
    · next a hk ha =>
      simp only at hk; subst hk
      exact ⟨_, h, es_val fun env w S vs hl => ⟨_, r_conv hs' (tk_int hT ht) (pd_i ha (hx hl)).1 (w64 (pd_i ha (hx hl)).2) w, one_of (i64_fV (pd_i ha (hx hl)).2)⟩⟩
    · next a hk ha =>
      simp only at hk; subst hk
      exact ⟨_, h, es_val fun env w S vs hl => ⟨_, r_conv hs' (tk_int hT ht) (pd_u ha (hx hl)).1 (wu64_in (pd_u ha (hx hl)).2) w, one_of (u64_fV (pd_u ha (hx hl)).2)⟩⟩
    · next a hk ha =>
      simp only at hk; subst hk
      obtain ⟨z, hz, h⟩ := nm_s h
      exact ⟨_, h, es_val fun env w S vs hl => ⟨_, r_conv hs' (tk_int hT ht) (pd_i ha (hx hl)).1 (wu_x hz (wrap_uns _)) w, one_of (u64_fV (eq_u hz (uns_r _)))⟩⟩
    · next a hk ha =>
      simp only at hk; subst hk
      obtain ⟨z, hz, h⟩ := nm_s h
      exact ⟨_, h, es_val fun env w S vs hl => ⟨_, r_conv hs' (tk_int hT ht) (pd_u ha (hx hl)).1 ((wrap_sgn (pd_u ha (hx hl)).2).trans hz.symm) w, one_of (i64_fV (eq_r hz (sgn_r (pd_u ha (hx hl)).2)))⟩⟩
    · next a hk ha =>
      simp only at hk; subst hk
      exact ⟨_, h, es_val fun env w S vs hl => ⟨_, r_conv hs' (tk_int hT ht) (pd_c ha (hx hl)).1 (w64 (ch_r (pd_c ha (hx hl)).2)) w, one_of (i64_fV (ch_r (pd_c ha (hx hl)).2))⟩⟩
    · next a hk ha =>
      simp only at hk; subst hk
      exact ⟨_, h, es_val fun env w S vs hl => ⟨_, r_conv hs' (tk_int hT ht) (pd_c ha (hx hl)).1 (wu64_in (ch_u (pd_c ha (hx hl)).2)) w, one_of (u64_fV (ch_u (pd_c ha (hx hl)).2))⟩⟩
    · next a hk ha =>
      simp only at hk; subst hk
      exact ⟨_, h, es_val fun env w S vs hl => ⟨_, r_conv hs' (tk_int hT ht) (pd_c ha (hx hl)).1 (ch_c (pd_c ha (hx hl)).2) w, one_of (ch_fV (pd_c ha (hx hl)).2)⟩⟩
    · next a hk ha =>
      simp only at hk; subst hk
      unfold chU at h
      obtain ⟨z, hz, h⟩ := nm_s h
      exact ⟨_, h, es_val fun env w S vs hl => ⟨_, r_conv hs' (tk_int hT ht) (pd_u ha (hx hl)).1 (wu_x hz u_c) w, one_of (ch_fV (mod_c hz))⟩⟩
    · cases h
  · next E B q B' hs ht =>
    split at h
    · next q' B'' hE =>
      obtain ⟨xs, h, hxs⟩ := asO_s h
      refine ⟨_, h, es_val fun env w S vs hl => ?_⟩
      obtain ⟨u, h1, h2, h3⟩ := r_toTx (tk_sl hT hs) (tk_int hT hE) (tk_str hT ht) (hxs P vs env S w (hx hl))
      exact ⟨.string u, by simp [execOp, h1], one_of (tx_fV h2 h3)⟩
    · cases h
  · next B E B' hs ht =>
    split at h
    · next q' B'' xs hE hx0 =>
      refine ⟨_, h, es_oe fun env w S vs hM hl => ?_⟩
      obtain ⟨b, hv, hs1, hs2⟩ := fV_tx (pd_hold hx0 (hx hl))
      have hs1 : bytesN b = xs := hs1
      subst hs1
      exact ⟨_, _, _, _, [], [], oe_bytes (tk_str hT hs) (tk_sl hT ht) (tk_int hT hE) hv hs2, trivial, trivial, fun u w' _ hf => one_of hf.1⟩
    · cases h
  · cases h
theorem at_s {n : Nat} {k : Nat → Option R} (h : atI cx σ x n k = some r) : ∃ j, j < n ∧ k j = some r ∧ ∀ (P : Program) vs env S w, LkO P vs env S w cx σ x → ∃ ik, ev env x = .int ik (j : Int) := by
  unfold atI at h
  split at h
  · next j hj =>
    obtain ⟨i, h1, h2, h⟩ := ckI_s h
    exact ⟨i, h2, h, fun P vs env S w hl => ⟨.i64, by rw [(pd_i hj hl).1, h1]⟩⟩
  · next j hj =>
    obtain ⟨i, h1, h2, h⟩ := ckI_s h
    exact ⟨i, h2, h, fun P vs env S w hl => ⟨.u64, by rw [(pd_u hj hl).1, h1]⟩⟩
  · cases h
theorem bnd_s {x : Option Operand} {k : Option Nat → Option R} (h : bnd cx σ x k = some r) :
    (x = none ∧ k none = some r) ∨ ∃ y j, x = some y ∧ k (some j) = some r ∧ ∀ (P : Program) vs env S w, LkO P vs env S w cx σ y → ev env y = .int .i64 ((j : Nat) : Int) := by
  unfold bnd at h
  split at h
  · exact .inl ⟨rfl, h⟩
  · next y =>
    split at h
    · next j hj =>
      obtain ⟨i, h1, h⟩ := ckN_s h
      exact .inr ⟨y, i, rfl, h, fun P vs env S w hl => by rw [(pd_i hj hl).1, h1]⟩
    · cases h
theorem own_open {α : Type} {e : ERep α} {E : TypeId} {xs : List α} {v : Value} (h : (mO e E v xs).p S w) (h0 : 0 < xs.length) :
    ∃ b cap, v = .slice (some ⟨b, 0, none⟩) xs.length cap ∧ (mB (rowT e cap) E b xs).p S w := by
  obtain ⟨cs, h1, h2⟩ := h
  rcases h1.2 with ⟨rfl, h3⟩ | ⟨g, cap, cur, rfl, hbg, hg, hnc, hcm, hcs, htk⟩
  · omega
  · exact ⟨g, cap, rfl, cur, hg, cs, cur.toList.drop (xs.length * e.n), by rw [← htk, List.take_append_drop], h2, by simpa using hcs⟩
theorem tk_ar {s E : TypeId} {q : Ty} {n B : Nat} (hT : TTok P cf.tt) (h : tyA cf s = some ⟨q, .ar n E, B⟩) : P.underlying s = some (.array n E) := (hT _ _ h).2.2.2.2
theorem el_ty {E : TypeId} {e : Ty} (hT : TTok P cf.tt) (h : elA cf E e = true) : ∃ bytes zero, TyF P E e.rep.agg e.rep.n bytes zero := by
  unfold elA at h
  split at h
  · next ti ht =>
    cases hs : Ty.same ti.ty e with
    | none => rw [hs] at h; cases h
    | some p =>
      obtain ⟨zero, h2, _⟩ := ty_of hT ht
      rw [p.down] at h2
      exact ⟨_, _, h2⟩
  · cases h
theorem nth_ok {n j : Nat} {e : Ty} (hj : j < n) : Fl.ok (.a n e) (nthF n e j) := by
  intro z S w cs hp
  have hp' : List.length z = n ∧ Elems e.rep S z cs w := hp
  have := Sub.nth n e.rep z j (List.getD z j e.z) (getD_some e.z (hp'.1 ▸ hj)) S w cs hp
  rw [e.n_rep] at this
  exact this
theorem e_index (hT : TTok P cf.tt) (hL : ELok P cf.tt) {k : List (Nat × Dv) → Option R} (h : eIndex cf cx σ t x y k = some r) : ∃ l, k l = some r ∧ ES P ⟨d, .indexAddr t x y, ty, pos, aft, g⟩ cx σ F l := by
  have hx : ∀ {vs env S w}, (∀ t' ∈ tmpsOf (.indexAddr t x y), Lk P vs env S w cx σ t') → LkO P vs env S w cx σ x := fun hl => lk_of hl (by simp [Op.operands])
  have hy : ∀ {vs env S w}, (∀ t' ∈ tmpsOf (.indexAddr t x y), Lk P vs env S w cx σ t') → LkO P vs env S w cx σ y := fun hl => lk_of hl (by simp [Op.operands])
  unfold eIndex at h
  split at h
  · next e E B s xs ht hxv =>
    obtain ⟨hse, h⟩ := cast_s h
    cases hse
    obtain ⟨bytes, zero, het⟩ := ty_el hT hL ht
    obtain ⟨j, hj, h, hjv⟩ := at_s h
    obtain ⟨z, hz, h⟩ := nm_s h
    refine ⟨_, h, es_oe fun env w S vs hM hl => ?_⟩
    obtain ⟨ik, hik⟩ := hjv P vs env S w (hy hl)
    exact ⟨_, _, _, _, [fV (eS e.rep) xs (ev env x)], [], oe_index (e := e.rep) (xs := xs) (k := j) (y := z) rfl hik (tk_sl hT ht) het (getE hj hz) (fun S w h => h.1), trivial, ⟨opv_hold hxv (hx hl), trivial⟩, fun u w' _ hf => one_of hf.1⟩
  · next e E B o ht hxv =>
    split at h
    · next s E' xs ho =>
      obtain ⟨hse, h⟩ := cast_s h
      cases hse
      obtain ⟨bytes, zero, het⟩ := ty_el hT hL ht
      obtain ⟨j, hj, h, hjv⟩ := at_s h
      refine ⟨_, h, ?_⟩
      intro env w S vs hS hM hl
      obtain ⟨ik, hik⟩ := hjv P vs env S w (hy hl)
      have hm : (mO e.rep E' (vs o) xs).p S w := geto_M hM ho
      obtain ⟨b, cap, hv, _⟩ := own_open hm (Nat.lt_of_le_of_lt (Nat.zero_le _) hj)
      have hxe : ev env x = vs o := opv_hold hxv (hx hl)
      refine OpR.of_value (r_index (tk_sl hT ht) het (hxe.trans hv) hik hj w) ⟨Keeps.refl _ _, one_of ?_⟩
      exact ⟨fun z => Sub.self e.rep z, b, _, _, hv, hj, by simp [Fl.self]⟩
    · cases h
  · next q n' E B n e xs ht hxv =>
    obtain ⟨hg, h⟩ := grd_s h
    rw [Bool.and_eq_true] at hg
    have hn := beq_t hg.1
    subst hn
    obtain ⟨bytes, zero, het⟩ := el_ty hT hg.2
    obtain ⟨j, hj, h, hjv⟩ := at_s h
    obtain ⟨z, hz, h⟩ := nm_s h
    refine ⟨_, h, es_oe fun env w S vs hM hl => ?_⟩
    obtain ⟨ik, hik⟩ := hjv P vs env S w (hy hl)
    have hp : (fP (Ty.a n' e).rep xs (ev env x)).p S w := opv_hold hxv (hx hl)
    obtain ⟨_, _, _, _, _, _, hlen, _⟩ := id hp
    exact ⟨_, _, _, _, [fP (Ty.a n' e).rep xs (ev env x)], [], oe_indexA (e := (Ty.a n' e).rep) (f := e.rep) (z := xs) (z' := z) (tk_ar hT ht) het rfl hik hj (Sub.nth n' e.rep xs j z (getE (hlen ▸ hj) hz)) (fun S w h => h.1), trivial, ⟨hp, trivial⟩, fun u w' _ hf => one_of hf.1⟩
  · next q n' E B o n e ht hxv =>
    obtain ⟨hg, h⟩ := grd_s h
    rw [Bool.and_eq_true] at hg
    have hn := beq_t hg.1
    subst hn
    obtain ⟨bytes, zero, het⟩ := el_ty hT hg.2
    obtain ⟨j, hj, h, hjv⟩ := at_s h
    refine ⟨_, h, es_val fun env w S vs hl => ?_⟩
    obtain ⟨ik, hik⟩ := hjv P vs env S w (hy hl)
    obtain ⟨h1, b, h2⟩ := opv_hold hxv (hx hl)
    exact ⟨_, r_indexA (tk_ar hT ht) het (h1.trans h2) hik hj w, one_of ⟨nth_ok hj, b, h2, by rw [e.n_rep]; rfl⟩⟩
  · cases h
theorem fld_ok : ∀ {k : Nat} {t : Ty} {i : Nat} {f : Fl t.D}, fld k t i = some f → Fl.ok t f
  | 0, .w1 t, 0, f, h => by
    simp only [fld, Option.some.injEq] at h
    subst h; exact fun z => Sub.wrap t.rep z
  | 0, .w1 t, _ + 1, _, h => by cases h
  | 0, .i, _, _, h => by cases h
  | 0, .u, _, _, h => by cases h
  | 0, .b, _, _, h => by cases h
  | 0, .l _, _, _, h => by cases h
  | 0, .p _ _, _, _, h => by cases h
  | 0, .a _ _, _, _, h => by cases h
  | 0, .ch, _, _, h => by cases h
  | 0, .tx, _, _, h => by cases h
  | 0, .po _, _, _, h => by cases h
  | 0, .tr, _, _, h => by cases h
  | 0, .er, _, _, h => by cases h
  | 1, t, i, f, h => by
    unfold fld at h
    cases hb : Nat.beq i 0 <;> rw [hb] at h
    · cases h
    · simp only [cond_true, Option.some.injEq] at h
      subst h; exact fun z => Sub.self t.rep z
  | k + 2, .p s t, 0, f, h => by
    simp only [fld, Option.some.injEq] at h
    subst h
    exact fun z => Sub.fst s.rep t.rep z
  | k + 2, .p s t, i + 1, f, h => by
    simp only [fld] at h
    split at h
    · next f' hf =>
      simp only [Option.some.injEq] at h
      subst h
      intro z
      have := (Sub.snd s.rep t.rep z).comp (fld_ok hf z.2)
      rw [s.n_rep] at this
      exact this
    · cases h
  | k + 2, .i, i, f, h => by simp [fld] at h
  | k + 2, .u, i, f, h => by simp [fld] at h
  | k + 2, .b, i, f, h => by simp [fld] at h
  | k + 2, .l _, i, f, h => by simp [fld] at h
  | k + 2, .a _ _, i, f, h => by simp [fld] at h
theorem fld_comm : ∀ {k : Nat} {t : Ty} {i j : Nat} {f g : Fl t.D}, fld k t i = some f → fld k t j = some g → i ≠ j →
    (∀ z x, g.get (f.set x z) = g.get z) ∧ (∀ z x y, g.set y (f.set x z) = f.set x (g.set y z)) ∧ (g.off + g.f.n ≤ f.off ∨ f.off + f.f.n ≤ g.off)
  | 0, .w1 _, 0, 0, _, _, _, _, h => absurd rfl h
  | 0, .w1 _, _ + 1, _, _, _, h, _, _ => by cases h
  | 0, .w1 _, 0, _ + 1, _, _, _, h, _ => by cases h
  | 0, .i, _, _, _, _, h, _, _ => by cases h
  | 0, .u, _, _, _, _, h, _, _ => by cases h
  | 0, .b, _, _, _, _, h, _, _ => by cases h
  | 0, .l _, _, _, _, _, h, _, _ => by cases h
  | 0, .p _ _, _, _, _, _, h, _, _ => by cases h
  | 0, .a _ _, _, _, _, _, h, _, _ => by cases h
  | 0, .ch, _, _, _, _, h, _, _ => by cases h
  | 0, .tx, _, _, _, _, h, _, _ => by cases h
  | 0, .po _, _, _, _, _, h, _, _ => by cases h
  | 0, .tr, _, _, _, _, h, _, _ => by cases h
  | 0, .er, _, _, _, _, h, _, _ => by cases h
  | 1, t, i, j, f, g, hf, hg, hn => by
    unfold fld at hf hg
    cases hb : Nat.beq i 0 <;> rw [hb] at hf
    · cases hf
    cases hc : Nat.beq j 0 <;> rw [hc] at hg
    · cases hg
    exact absurd ((beq_t hb).trans (beq_t hc).symm) hn
  | k + 2, .p s t, 0, 0, _, _, _, _, h => absurd rfl h
  | k + 2, .p s t, 0, j + 1, f, g, hf, hg, _ => by
    simp only [fld, Option.some.injEq] at hf hg
    subst hf
    split at hg
    · next g' hg' =>
      simp only [Option.some.injEq] at hg
      subst hg
      exact ⟨fun _ _ => rfl, fun _ _ _ => rfl, .inr (by simp only; omega)⟩
    · cases hg
  | k + 2, .p s t, i + 1, 0, f, g, hf, hg, _ => by
    simp only [fld, Option.some.injEq] at hf hg
    subst hg
    split at hf
    · next f' hf' =>
      simp only [Option.some.injEq] at hf
      subst hf
      exact ⟨fun _ _ => rfl, fun _ _ _ => rfl, .inl (by simp only; omega)⟩
    · cases hf
  | k + 2, .p s t, i + 1, j + 1, f, g, hf, hg, hn => by
    simp only [fld] at hf hg
    split at hf
    · next f' hf' =>
      split at hg
      · next g' hg' =>
        simp only [Option.some.injEq] at hf hg
        subst hf; subst hg
        obtain ⟨h1, h2, h3⟩ := fld_comm hf' hg' (fun e => hn (by rw [e]))
        exact ⟨fun z x => h1 z.2 x, fun z x y => by simp only; rw [h2 z.2 x y], by rcases h3 with h3 | h3; exact .inl (by simp only; omega); exact .inr (by simp only; omega)⟩
      · cases hg
    · cases hf
  | k + 2, .i, i, _, f, _, h, _, _ => by simp [fld] at h
  | k + 2, .u, i, _, f, _, h, _, _ => by simp [fld] at h
  | k + 2, .b, i, _, f, _, h, _, _ => by simp [fld] at h
  | k + 2, .l _, i, _, f, _, h, _, _ => by simp [fld] at h
  | k + 2, .a _ _, i, _, f, _, h, _, _ => by simp [fld] at h
theorem same_self : ∀ t : Ty, ∃ h, Ty.same t t = some ⟨h⟩
  | .i => ⟨rfl, rfl⟩
  | .u => ⟨rfl, rfl⟩
  | .b => ⟨rfl, rfl⟩
  | .ch => ⟨rfl, rfl⟩
  | .tx => ⟨rfl, rfl⟩
  | .tr => ⟨rfl, rfl⟩
  | .er => ⟨rfl, rfl⟩
  | .l t => by obtain ⟨h, e⟩ := same_self t; exact ⟨rfl, by simp only [Ty.same, e]⟩
  | .po t => by obtain ⟨h, e⟩ := same_self t; exact ⟨rfl, by simp only [Ty.same, e]⟩
  | .w1 t => by obtain ⟨h, e⟩ := same_self t; exact ⟨rfl, by simp only [Ty.same, e]⟩
  | .a k t => by obtain ⟨h, e⟩ := same_self t; exact ⟨rfl, by simp only [Ty.same, e, dite_true]⟩
  | .p s t => by obtain ⟨h, e⟩ := same_self s; obtain ⟨h', e'⟩ := same_self t; exact ⟨rfl, by simp only [Ty.same, e, e']⟩
theorem same_t {s t : Ty} (h : (Ty.same s t).isSome = true) : s = t := by
  cases hs : Ty.same s t with
  | none => rw [hs] at h; cases h
  | some p => exact p.down
theorem putL_st {α : Type} {s : Ty} {off : Nat} {g : α → (Ty.l s).D} {st : (Ty.l s).D → α → α} {xs : List s.D} {z : α} : putL s (some ⟨off, .l s, g, st⟩) xs z = st xs z := by
  obtain ⟨h, e⟩ := same_self s
  simp only [putL, e]
theorem sub_oth {n i j : Nat} {t s : Ty} {f : Fl t.D} {hv : List Value} {z : t.D} {r : Nat} (hv1 : vrP s (fld n t j)) (hf : fld n t i = some f) (hn : i ≠ j) :
    Sub (cHo t.rep (offL (fld n t j)) (putL s (fld n t j) []) hv) (z, r) f.off f.f.rep (f.get z) (fun y => (f.set y z, r)) := by
  obtain ⟨off, g, st, hj⟩ := hv1
  obtain ⟨h1, h2, h3⟩ := fld_comm hj hf (Ne.symm hn)
  rw [hj]
  have hp : ∀ z, putL s (some ⟨off, .l s, g, st⟩) [] z = st ([] : List s.D) z := fun z => putL_st
  refine Sub.other ?_ (by rw [f.f.n_rep]; exact h3)
  have h4 := fld_ok hf (putL s (some ⟨off, .l s, g, st⟩) [] z)
  rw [hp] at h4
  rw [h1 z ([] : List s.D)] at h4
  rw [hp]
  have : (fun y => f.set y (st ([] : List s.D) z)) = fun y => putL s (some ⟨off, .l s, g, st⟩) [] (f.set y z) := by
    funext y; rw [hp]; exact h2 z ([] : List s.D) y
  rw [this] at h4
  exact h4
theorem fld_set2 : ∀ {k : Nat} {t : Ty} {i : Nat} {f : Fl t.D}, fld k t i = some f → ∀ x y z, f.set x (f.set y z) = f.set x z
  | 0, .w1 t, 0, f, h => by
    simp only [fld, Option.some.injEq] at h
    subst h; exact fun _ _ _ => rfl
  | 0, .w1 t, _ + 1, _, h => by cases h
  | 0, .i, _, _, h => by cases h
  | 0, .u, _, _, h => by cases h
  | 0, .b, _, _, h => by cases h
  | 0, .l _, _, _, h => by cases h
  | 0, .p _ _, _, _, h => by cases h
  | 0, .a _ _, _, _, h => by cases h
  | 0, .ch, _, _, h => by cases h
  | 0, .tx, _, _, h => by cases h
  | 0, .po _, _, _, h => by cases h
  | 0, .tr, _, _, h => by cases h
  | 0, .er, _, _, h => by cases h
  | 1, t, i, f, h => by
    unfold fld at h
    cases hb : Nat.beq i 0 <;> rw [hb] at h
    · cases h
    · simp only [cond_true, Option.some.injEq] at h
      subst h; exact fun _ _ _ => rfl
  | k + 2, .p s t, 0, f, h => by
    simp only [fld, Option.some.injEq] at h
    subst h; exact fun _ _ _ => rfl
  | k + 2, .p s t, i + 1, f, h => by
    simp only [fld] at h
    split at h
    · next f' hf =>
      simp only [Option.some.injEq] at h
      subst h
      intro x y z
      simp only
      rw [fld_set2 hf]
    · cases h
  | k + 2, .i, i, f, h => by simp [fld] at h
  | k + 2, .u, i, f, h => by simp [fld] at h
  | k + 2, .b, i, f, h => by simp [fld] at h
  | k + 2, .l _, i, f, h => by simp [fld] at h
  | k + 2, .a _ _, i, f, h => by simp [fld] at h
theorem ho_in {S : Nat → Prop} {w : World} {n i off : Nat} {t s : Ty} {g : t.D → (Ty.l s).D} {st : (Ty.l s).D → t.D → t.D} {z : t.D} {cs : List Value} {v : Value} (hf : fld n t i = some ⟨off, .l s, g, st⟩) (h : t.rep.p S z cs w) (hv : cs[off]? = some v) (h1 : v.oneCell' = true) :
    (cHo t.rep off (st ([] : List s.D)) [v]).p S (z, 0) cs w := by
  obtain ⟨pre, c, post, e1, e2, e3, e4⟩ := fld_ok hf z S w cs h
  refine ⟨v, rfl, h1, hv, ?_⟩
  have h5 := e4 w ([] : List s.D) [.slice none 0 0] (Keeps.refl _ _) ⟨_, rfl, SlP.nil⟩
  have hc : c.length = 1 := (Ty.l s).rep.len e3
  obtain ⟨c0, rfl⟩ := List.length_eq_one_iff.1 hc
  have : cs.set off (.slice none 0 0) = pre ++ [.slice none 0 0] ++ post := by
    rw [e1, List.append_assoc, List.set_append_right _ _ (by simp only at e2; omega), show off - pre.length = 0 by simp only at e2; omega, List.append_assoc]; rfl
  rw [this]; exact h5
theorem ho_out {S S' : Nat → Prop} {w : World} {n i off r : Nat} {t s : Ty} {g : t.D → (Ty.l s).D} {st : (Ty.l s).D → t.D → t.D} {z : t.D} {cs : List Value} {v : Value} {hv : List Value} {xs : List s.D} (hf : fld n t i = some ⟨off, .l s, g, st⟩) (h : (cHo t.rep off (st ([] : List s.D)) hv).p S (z, r) cs w)
    (hr : hv[r]? = some v) (hs : ∀ k, S k → S' k) (hx : (fV (eS s.rep) xs v).p S' w) : t.rep.p S' (st xs z) cs w := by
  obtain ⟨u, h1, h2, h3, h4⟩ := h
  rw [hr] at h1; cases h1
  have h4 := t.rep.sub h4 fun k _ => hs k
  obtain ⟨pre, c, post, e1, e2, e3, e4⟩ := fld_ok hf (st ([] : List s.D) z) S' w _ h4
  obtain ⟨cs', hv', hx'⟩ := hx
  have h5 := e4 w xs cs' (Keeps.refl _ _) hx'
  simp only at h5 e2
  rw [show st xs (st ([] : List s.D) z) = st xs z from fld_set2 hf xs ([] : List s.D) z] at h5
  have hc : c.length = 1 := (Ty.l s).rep.len e3
  have hc' : cs'.length = 1 := (eS s.rep).len hx'
  obtain ⟨c0, rfl⟩ := List.length_eq_one_iff.1 hc
  obtain ⟨c1, rfl⟩ := List.length_eq_one_iff.1 hc'
  obtain rfl : v = c1 := hv'
  obtain ⟨hlt, h9⟩ := List.getElem?_eq_some_iff.1 h3
  have : cs = pre ++ [v] ++ post := by
    have e5 : (cs.set off (.slice none 0 0)).set off v = cs := by rw [List.set_set, ← h9, List.set_getElem_self]
    rw [← e5, e1, List.append_assoc, List.set_append_right _ _ (by omega), show off - pre.length = 0 by omega, List.append_assoc]; rfl
  rw [this]; exact h5
theorem comp_ok {t : Ty} {a : Fl t.D} {c : Fl a.f.D} (ha : Fl.ok t a) (hc : Fl.ok a.f c) : Fl.ok t (a.comp c) := fun z => (ha z).comp (hc (a.get z))
theorem tk_st {s : TypeId} {q : Ty} {n B i : Nat} {f : Fl q.D} (hT : TTok P cf.tt) (h : tyA cf s = some ⟨q, .st n, B⟩) (hf : fld n q i = some f) : fldB P s i = some f.off := (hT _ _ h).2.2.2.2.1 i f hf
theorem eqP_s {bo : BinOp} {v : Option Dv} {k : Dv → Option R} (h : eqP bo v k = some r) : ∃ dv b, v = some dv ∧ nilT bo b k = some r ∧ ∀ (P : Program) vs S w u, (hold P vs dv u).p S w → ∃ p : Option Addr, u = .pointer p ∧ p.isNone = b := by
  unfold eqP at h
  split at h
  · exact ⟨_, _, rfl, h, fun P vs S w u hh => ⟨none, hh, rfl⟩⟩
  · exact ⟨_, _, rfl, h, fun P vs S w u ⟨b, o, cs, h1, _⟩ => ⟨_, h1, rfl⟩⟩
  · exact ⟨_, _, rfl, h, fun P vs S w u ⟨h1, b, h2⟩ => ⟨_, h1.trans h2, rfl⟩⟩
  · exact ⟨_, _, rfl, h, fun P vs S w u hh => fV_ptr hh⟩
  · exact ⟨_, _, rfl, h, fun P vs S w u hh => fV_tp hh⟩
  · cases h
theorem tk_pt (hT : TTok P cf.tt) (h : isPt cf t = true) : P.underlying t = some (.pointer (P.pointee t)) := by
  unfold isPt at h
  split at h
  · next q E B hu =>
    have := (hT _ _ hu).2.2.2
    have this : P.underlying t = some (.pointer E) := this
    rw [show P.pointee t = E by simp [Program.pointee, this]]; exact this
  · cases h
theorem bopP (hT : TTok P cf.tt) {bo : BinOp} {k : List (Nat × Dv) → Option R} (hp : isPt cf t = true) (hy : isNp (opv cx σ y) = true) (h : eqP bo (opv cx σ x) (fun v => k [(0, v)]) = some r) :
    ∃ l, k l = some r ∧ ES P ⟨d, .binOp bo t x y yt, ty, pos, aft, g⟩ cx σ F l := by
  obtain ⟨dv, b, hx, h, hv⟩ := eqP_s h
  have hy : opv cx σ y = some .np := by
    unfold isNp at hy
    split at hy
    · assumption
    · cases hy
  have ht := tk_pt hT hp
  have go : ∀ {env : Env} {w : World} {S : Nat → Prop} {vs : Nat → Value}, (∀ t' ∈ tmpsOf (.binOp bo t x y yt), Lk P vs env S w cx σ t') → ∃ p : Option Addr, ev env x = .pointer p ∧ p.isNone = b ∧ ev env y = .pointer none := fun hl => by
    obtain ⟨p, h1, h2⟩ := hv P _ _ _ _ (opv_hold hx (lk_of hl (by simp [Op.operands])))
    exact ⟨p, h1, h2, opv_hold hy (lk_of hl (by simp [Op.operands]))⟩
  cases bo <;> simp only [nilT, reduceCtorEq] at h
  case eql =>
    refine ⟨[(0, .kb (decide (b = true)))], kbS h, es_val fun env w S vs hl => ⟨.bool b, ?_, one_of (by simp [hold, ffT])⟩⟩
    obtain ⟨p, h1, h2, h3⟩ := go hl
    simp [execOp, h1, h3, eqGuard, run_eql_pointer_nil w t p ht, h2]
  case neq =>
    refine ⟨[(0, .kb (!decide (b = true)))], kbN h, es_val fun env w S vs hl => ⟨.bool !b, ?_, one_of (by simp [hold, ffT])⟩⟩
    obtain ⟨p, h1, h2, h3⟩ := go hl
    simp [execOp, h1, h3, eqGuard, run_neq_pointer_nil w t p ht, h2]
theorem eqE_s {bo : BinOp} {v : Option Dv} {k : Dv → Option R} (h : eqE bo v k = some r) : ∃ dv b, v = some dv ∧ nilT bo b k = some r ∧ ∀ (P : Program) vs S w u, (hold P vs dv u).p S w → (b = true ∧ u = .nilIface) ∨ (b = false ∧ ∃ T q, u = .iface T q) := by
  unfold eqE at h
  split at h
  · exact ⟨_, _, rfl, h, fun P vs S w u hh => .inl ⟨rfl, hh⟩⟩
  · refine ⟨_, _, rfl, h, fun P vs S w u hh => ?_⟩
    rcases fV_er (show (fV eEr _ u).p S w from hh) with ⟨rfl, h2⟩ | ⟨rfl, h2⟩
    · exact .inl ⟨rfl, h2⟩
    · exact .inr ⟨rfl, h2⟩
  · cases h
theorem bopE (hT : TTok P cf.tt) {bo : BinOp} {k : List (Nat × Dv) → Option R} (hp : isIf cf t = true) (hy : isNi y = true) (h : eqE bo (opv cx σ x) (fun v => k [(0, v)]) = some r) :
    ∃ l, k l = some r ∧ ES P ⟨d, .binOp bo t x y yt, ty, pos, aft, g⟩ cx σ F l := by
  obtain ⟨dv, b, hx, h, hv⟩ := eqE_s h
  have hy : y = .const .nilIface := by
    unfold isNi at hy
    split at hy
    · rfl
    · cases hy
  subst hy
  have ht : P.underlying t = some (.interface (P.methodsAt t)) := by
    unfold isIf at hp
    split at hp
    · next q B hu => exact (hT _ _ hu).2.2.2
    · cases hp
  have go : ∀ {env : Env} {w : World} {S : Nat → Prop} {vs : Nat → Value}, (∀ t' ∈ tmpsOf (.binOp bo t x (.const .nilIface) yt), Lk P vs env S w cx σ t') → ((b = true ∧ ev env x = .nilIface) ∨ (b = false ∧ ∃ T q, ev env x = .iface T q)) := fun hl =>
    hv P _ _ _ _ (opv_hold hx (lk_of hl (by simp [Op.operands])))
  have h3 : ∀ env : Env, ev env (.const .nilIface) = .nilIface := fun _ => rfl
  cases bo <;> simp only [nilT, reduceCtorEq] at h
  case eql =>
    refine ⟨[(0, .kb (decide (b = true)))], kbS h, es_val fun env w S vs hl => ⟨.bool b, ?_, one_of (by simp [hold, ffT])⟩⟩
    obtain ⟨rfl, h1⟩ | ⟨rfl, T, q, h1⟩ := go hl
    · simp [execOp, h1, h3, eqGuard, run_eql_nil_nil (w := w) t ht]
    · simp [execOp, h1, h3, eqGuard, run_eql_held_nil (w := w) t T q ht]
  case neq =>
    refine ⟨[(0, .kb (!decide (b = true)))], kbN h, es_val fun env w S vs hl => ⟨.bool !b, ?_, one_of (by simp [hold, ffT])⟩⟩
    obtain ⟨rfl, h1⟩ | ⟨rfl, T, q, h1⟩ := go hl
    · simp [execOp, h1, h3, eqGuard, run_neq_nil_nil (w := w) t ht]
    · simp [execOp, h1, h3, eqGuard, run_neq_held_nil (w := w) t T q ht]
theorem e_nil {k : List (Nat × Dv) → Option R} (h : eNil cx σ x k = some r) : ∃ l, k l = some r ∧ ES P ⟨d, .nilCheck x, ty, pos, aft, g⟩ cx σ F l := by
  have hr : ∀ {env : Env} {a : Addr} (w : World), ev env x = .pointer (some a) → (execOp (ev env) ⟨d, .nilCheck x, ty, pos, aft, g⟩).run P w = .ok (.value (ev env x)) w := fun w h => by simp [execOp, h]
  unfold eNil at h
  split at h
  · next s y hx =>
    refine ⟨_, h, es_val fun env w S vs hl => ?_⟩
    have h1 := opv_hold hx (lk_of hl (by simp [Op.operands]))
    obtain ⟨b, o, cs, h2, _⟩ := h1
    exact ⟨_, hr w h2, one_of (opv_hold hx (lk_of hl (by simp [Op.operands])))⟩
  · next o s hx =>
    refine ⟨_, h, es_val fun env w S vs hl => ?_⟩
    obtain ⟨h1, b, h2⟩ := opv_hold hx (lk_of hl (by simp [Op.operands]))
    exact ⟨_, hr w (h1.trans h2), one_of (opv_hold hx (lk_of hl (by simp [Op.operands])))⟩
  · next s y hx =>
    obtain ⟨y', hy, h⟩ := bd_s h
    refine ⟨_, h, es_val fun env w S vs hl => ?_⟩
    have h1 : (fV (eO s.rep) y (ev env x)).p S w := opv_hold hx (lk_of hl (by simp [Op.operands]))
    rw [hy] at h1
    have h2 := fV_sp h1
    obtain ⟨b, o, cs, h3, _⟩ := h2
    exact ⟨_, hr w h3, one_of (fV_sp h1)⟩
  · next y hx =>
    obtain ⟨y', hy, h⟩ := bd_s h
    refine ⟨_, h, es_val fun env w S vs hl => ?_⟩
    have h1 : (fV eTr y (ev env x)).p S w := opv_hold hx (lk_of hl (by simp [Op.operands]))
    have h2 := fV_tr hy h1
    obtain ⟨b, o, cs, h3, _⟩ := h2
    exact ⟨_, hr w h3, one_of (fV_tr hy h1)⟩
  · cases h
theorem e_field (hT : TTok P cf.tt) {i : Nat} {k : List (Nat × Dv) → Option R} (h : eField cf cx σ t x i k = some r) : ∃ l, k l = some r ∧ ES P ⟨d, .fieldAddr t x i, ty, pos, aft, g⟩ cx σ F l := by
  have hx : ∀ {vs env S w}, (∀ t' ∈ tmpsOf (.fieldAddr t x i), Lk P vs env S w cx σ t') → LkO P vs env S w cx σ x := fun hl => lk_of hl (by simp [Op.operands])
  unfold eField at h
  split at h
  · next e n B s y ht hxv =>
    obtain ⟨hse, h⟩ := cast_s h
    subst hse
    split at h
    · next f hf =>
      exact ⟨_, h, es_oe fun env w S vs hM hl => ⟨_, _, _, _, [fP s.rep y (ev env x)], [], oe_field (e := s.rep) (z := y) (tk_st hT ht hf) rfl (fld_ok hf y) (fun S w h => h.1), trivial, ⟨opv_hold hxv (hx hl), trivial⟩, fun u w' _ hf => one_of hf.1⟩⟩
    · cases h
  · next e n B o s ht hxv =>
    split at h
    · next hse f _ hf =>
      obtain ⟨hse⟩ := hse
      subst hse
      refine ⟨_, h, es_val fun env w S vs hl => ?_⟩
      obtain ⟨h1, b, h2⟩ := opv_hold hxv (hx hl)
      exact ⟨_, r_field (tk_st hT ht hf) (h1.trans h2) w, one_of ⟨fld_ok hf, b, h2, rfl⟩⟩
    · cases h
  · next e n B o s g ht hxv =>
    split at h
    · next hse f _ hf =>
      obtain ⟨hse⟩ := hse
      subst hse
      refine ⟨_, h, es_val fun env w S vs hl => ?_⟩
      obtain ⟨h0, b, h1, h2⟩ := opv_hold hxv (hx hl)
      exact ⟨_, r_field (tk_st hT ht hf) h2 w, one_of ⟨comp_ok h0 (fld_ok hf), b, h1, by simp only [Fl.comp, Nat.add_assoc]⟩⟩
    · cases h
  · next e n B o s j g ht hxv =>
    split at h
    · next hse f _ hf =>
      obtain ⟨hse⟩ := hse
      subst hse
      refine ⟨_, h, es_val fun env w S vs hl => ?_⟩
      obtain ⟨h0, b, m, cap, h1, h2, h3⟩ := opv_hold hxv (hx hl)
      exact ⟨_, r_field (tk_st hT ht hf) h3 w, one_of ⟨comp_ok h0 (fld_ok hf), b, m, cap, h1, h2, by simp only [Fl.comp, Nat.add_assoc]⟩⟩
    · cases h
  · cases h
theorem e_load (hT : TTok P cf.tt) {k : List (Nat × Dv) → Option R} (h : eLoad cf cx σ t x k = some r) : ∃ l, k l = some r ∧ ES P ⟨d, .load t x, ty, pos, aft, g⟩ cx σ F l := by
  have hx : ∀ {vs env S w}, (∀ t' ∈ tmpsOf (.load t x), Lk P vs env S w cx σ t') → LkO P vs env S w cx σ x := fun hl => lk_of hl (by simp [Op.operands])
  unfold eLoad at h
  split at h
  · next ti hti =>
    obtain ⟨zero, hty, _⟩ := ty_of hT hti
    unfold loadD at h
    split at h
    · next s y hxv =>
      obtain ⟨hse, h⟩ := cast_s h
      simp only at hse; subst hse
      exact ⟨_, h, es_oe fun env w S vs hM hl => ⟨_, _, _, _, [fP ti.ty.rep y (ev env x)], [], oe_load (e := ti.ty.rep) (y := y) rfl hty (fun S w h => h.1), trivial, ⟨opv_hold hxv (hx hl), trivial⟩, fun u w' _ hf => one_of hf.1⟩⟩
    · next o s hxv =>
      split at h
      · next s' E z ho =>
        obtain ⟨hse, h⟩ := cast_s h
        simp only at hse; subst hse
        refine ⟨_, h, es_oe fun env w S vs hM hl => ?_⟩
        obtain ⟨h1, b, h2⟩ := opv_hold hxv (hx hl)
        obtain ⟨b', h3, h4⟩ : (mP ti.ty.rep.c E (vs o) z).p S w := geto_M hM ho
        exact ⟨_, _, _, _, [], [mB ti.ty.rep.c E b' z], oe_loadM (z' := z) 0 rfl (h1.trans h3) (Sub.self ti.ty.rep z) hty, ⟨h4, trivial⟩, trivial, fun u w' _ hf => one_of hf.1⟩
      · cases h
    · next o s f hxv =>
      split at h
      · next s' E z ho =>
        obtain ⟨hss, h⟩ := cast_s h
        subst hss
        obtain ⟨hse, h⟩ := cast_s h
        simp only at hse
        obtain ⟨off, ff, get, set⟩ := f
        simp only at hse; subst hse
        refine ⟨_, h, es_oe fun env w S vs hM hl => ?_⟩
        obtain ⟨h0, b, h1, h2⟩ := opv_hold hxv (hx hl)
        obtain ⟨b', h3, h4⟩ : (mP s'.rep.c E (vs o) z).p S w := geto_M hM ho
        rw [h1] at h3; cases h3
        exact ⟨_, _, _, _, [], [mB s'.rep.c E b z], oe_loadM (z' := get z) 0 rfl h2 (by rw [Nat.zero_add]; exact h0 z) hty, ⟨h4, trivial⟩, trivial, fun u w' _ hf => one_of hf.1⟩
      · cases h
    · next o s j f hxv =>
      split at h
      · next s' E xs ho =>
        obtain ⟨hss, h⟩ := cast_s h
        cases hss
        obtain ⟨y, hy, h⟩ := nm_s h
        obtain ⟨hse, h⟩ := cast_s h
        simp only at hse
        obtain ⟨off, ff, get, set⟩ := f
        simp only at hse; subst hse
        refine ⟨_, h, es_oe fun env w S vs hM hl => ?_⟩
        obtain ⟨h0, b, m, cap, h1, h2, h3⟩ := opv_hold hxv (hx hl)
        have hm : (mO s.rep E (vs o) xs).p S w := geto_M hM ho
        have hpos : 0 < xs.length := by
          obtain ⟨cs, h5, h6⟩ := hm
          rcases h5.2 with ⟨hv, h7⟩ | ⟨g', cap', cur, hv, _⟩
          · rw [h1] at hv; cases hv
          · rw [h1] at hv; cases hv; omega
        obtain ⟨b', cap', hv, hb⟩ := own_open hm hpos
        rw [h1] at hv; cases hv
        have hsub := (Sub.rowT0 s.rep cap xs j (xs.getD j s.z) (getD_some s.z h2)).comp (h0 (xs.getD j s.z))
        subst hy
        exact ⟨_, _, _, _, [], [mB (rowT s.rep cap) E b xs], oe_loadM 0 rfl h3 hsub hty, ⟨hb, trivial⟩, trivial, fun u w' _ hf => one_of hf.1⟩
      · cases h
    · cases h
  · cases h
theorem cut_a {α : Type} (xs : List α) : xs = (xs.drop 0).take (xs.length - 0) := by simp
theorem cut_l {α : Type} (xs : List α) (l : Nat) : xs.drop l = (xs.drop l).take (xs.length - l) := (List.take_of_length_le (by simp)).symm
theorem r_fieldV {i off n : Nat} {agg : Bool} {cs : Array Value} {v : Value} (h : fldT P t i = some (off, agg, n)) (hx : ev env x = .agg cs) (hv : (if agg = true then Value.agg (cs.extract off (off + n)) else cs.getD off undef) = v) (hlt : agg = false → off < cs.size) (w : World) :
    (execOp (ev env) ⟨d, .field t x i, ty, pos, aft, g⟩).run P w = .ok (.value v) w := by
  unfold fldT at h
  split at h
  · next fs hu =>
    split at h
    · next f hf =>
      split at h
      · next ag n' by' z hty =>
        simp only [Option.some.injEq, Prod.mk.injEq] at h
        obtain ⟨h1, h2, h3⟩ := h
        subst h1; subst h2; subst h3
        have het := TyF.of hty
        have hp : (part f.type cs f.offset).run P w = .ok v w := by
          unfold part
          simp only [Sem.run_bind, run_isAgg het, Result.andThen_ok]
          cases ag with
          | true =>
            simp only [if_true, Sem.run_bind, run_sizeOf het, Result.andThen_ok, Sem.run_pure]
            rw [← hv]; rfl
          | false =>
            simp only [Bool.false_eq_true, if_false]
            have hlt := hlt rfl
            rw [Array.getElem?_eq_getElem hlt]
            simp only [Sem.run_pure]
            rw [← hv]
            simp [Array.getD, hlt]
        simp only [execOp, hx, Instr.field, asAgg, Sem.run_bind, run_underlying hu, Result.andThen_ok, hf, Sem.run_pure, hp]
      · cases h
    · cases h
  · cases h
theorem tk_stT {s : TypeId} {q : Ty} {n B i : Nat} {f : Fl q.D} (hT : TTok P cf.tt) (h : tyA cf s = some ⟨q, .st n, B⟩) (hf : fld n q i = some f) : fldT P s i = some (f.off, f.f.rep.agg, f.f.n) := (hT _ _ h).2.2.2.2.2.2 i f hf
theorem e_fieldV (hT : TTok P cf.tt) {i : Nat} {k : List (Nat × Dv) → Option R} (h : eFieldV cf cx σ t x i k = some r) : ∃ l, k l = some r ∧ ES P ⟨d, .field t x i, ty, pos, aft, g⟩ cx σ F l := by
  have hx : ∀ {vs env S w}, (∀ t' ∈ tmpsOf (.field t x i), Lk P vs env S w cx σ t') → LkO P vs env S w cx σ x := fun hl => lk_of hl (by simp [Op.operands])
  unfold eFieldV at h
  split at h
  · next e n B s y ht hxv =>
    obtain ⟨hse, h⟩ := cast_s h
    subst hse
    split at h
    · next f hf =>
      refine ⟨_, h, es_val fun env w S vs hl => ?_⟩
      obtain ⟨cs, hv, hp⟩ := opv_hold hxv (hx hl)
      have hagg : s.rep.agg = true := (hT _ _ ht).2.2.2.1
      obtain ⟨pre, c, post, hcs, h1, h2, _⟩ := fld_ok hf y S w cs hp
      have hlen := f.f.rep.len h2
      rw [Ty.n_rep] at hlen
      have hv : ev env x = .agg cs.toArray := by rw [hv]; unfold ERep.val; rw [hagg]; rfl
      refine ⟨f.f.rep.val c, r_fieldV (tk_stT hT ht hf) hv ?_ ?_ w, one_of ⟨c, rfl, h2⟩⟩
      · unfold ERep.val
        cases hag : f.f.rep.agg with
        | true =>
          simp only [if_true]
          congr 1
          apply Array.ext'
          rw [Array.toList_extract, hcs, ← h1, ← hlen]
          simp
        | false =>
          simp only [Bool.false_eq_true, if_false]
          have h1' := f.f.rep.n1 hag
          rw [Ty.n_rep] at h1'
          obtain ⟨a, rfl⟩ : ∃ a, c = [a] := by
            match c, hlen.trans h1' with
            | [a], _ => exact ⟨a, rfl⟩
          rw [hcs, ← h1]
          simp [Array.getD]
      · intro hag
        have h1' := f.f.rep.n1 hag
        rw [Ty.n_rep] at h1'
        rw [hcs]
        simp
        omega
    · cases h
  · cases h
theorem mo_shape {α : Type} {e : ERep α} {E : TypeId} {v : Value} {xs : List α} {S : Nat → Prop} {w : World} (h : (mO e E v xs).p S w) : (v = .slice none 0 0 ∧ xs = []) ∨ ∃ b cap, v = .slice (some ⟨b, 0, none⟩) xs.length cap ∧ xs.length ≤ cap ∧ cap ≤ 9223372036854775807 := by
  obtain ⟨cs, h1, h2⟩ := h
  rcases h1.2 with ⟨rfl, h0⟩ | ⟨g, cap, cur, rfl, hbg, hg, hnc, hcm, hcs, htk⟩
  · exact .inl ⟨rfl, List.length_eq_zero_iff.1 h0⟩
  · exact .inr ⟨g, cap, rfl, hnc, hcm⟩
theorem mo_view {α : Type} {e : ERep α} {E : TypeId} {v : Value} {xs : List α} {S : Nat → Prop} {w : World} (h : (mO e E v xs).p S w) {b m cap l n c : Nat} (hv : v = .slice (some ⟨b, 0, none⟩) m cap) (hl : l + n ≤ m) (hnc : n ≤ c) (hc : c ≤ 9223372036854775807) :
    SlQ e S ((xs.drop l).take n) (.slice (some ⟨b, 0 + l * e.n, none⟩) n c) w := by
  obtain ⟨cs, h1, h2⟩ := h
  rcases h1.2 with ⟨h0, _⟩ | ⟨g, cap', cur, h0, hbg, hg, hnc', hcm, hcs, htk⟩
  · rw [hv] at h0; cases h0
  · rw [hv] at h0
    cases h0
    have hlen : ((xs.drop l).take n).length = n := by simp; omega
    refine ⟨some ⟨b, 0 + l * e.n, none⟩, c, by rw [hlen], by omega, by unfold maxLen; omega, .inr ⟨b, 0 + l * e.n, (cs.drop (l * e.n)).take (n * e.n), rfl, ?_, (h2.drop l).take n⟩⟩
    have ha := At.row hg
    have := ha.take (xs.length * e.n)
    rw [htk] at this
    exact (this.drop (l * e.n)).take (n * e.n)
theorem run_sliceG {t : TypeId} {et : TypeId} {ag : Bool} {sz bytes : Nat} {zero : Value} {b o n cap l h : Nat} {lo hi : Option Value} {w : World} (ht : P.underlying t = some (.slice et)) (het : TyF P et ag sz bytes zero)
    (hl : lo = some (.int .i64 (l : Int)) ∨ (lo = none ∧ l = 0)) (hh : hi = some (.int .i64 (h : Int)) ∨ (hi = none ∧ h = n)) (hlh : l ≤ h) (hhn : h ≤ cap) :
    (Instr.sliceAt t (.slice (some ⟨b, o, none⟩) n cap) lo hi none).run P w = .ok (.slice (if cap = l then some ⟨b, o, none⟩ else (some (⟨b, o, none⟩ : Addr)).map (·.add (l * sz))) (h - l) (cap - l)) w := by
  have b1 : (0 : Int) ≤ (l : Int) ∧ (l : Int) ≤ (h : Int) := by omega
  have b2 : (0 : Int) ≤ (h : Int) ∧ (h : Int) ≤ (cap : Int) := by omega
  unfold Instr.sliceAt
  simp only [Sem.run_bind, run_underlying ht, Result.andThen_ok]
  unfold Instr.slice
  simp only [Sem.run_bind, run_underlying ht, Result.andThen_ok]
  unfold Instr.sliceBounds
  rcases hl with rfl | ⟨rfl, rfl⟩ <;> rcases hh with rfl | ⟨rfl, rfl⟩ <;>
    simp only [Instr.sliceBound, asIntOf, Sem.run_bind, Sem.run_pure, Result.andThen_ok, if_pos b1, if_pos b2, run_sizeOf het, Int.toNat_natCast]
theorem run_sliceNil {t : TypeId} {et : TypeId} {ag : Bool} {sz bytes : Nat} {zero : Value} {lo hi : Option Value} {w : World} (ht : P.underlying t = some (.slice et)) (het : TyF P et ag sz bytes zero)
    (hl : lo = some (.int .i64 ((0 : Nat) : Int)) ∨ lo = none) (hh : hi = some (.int .i64 ((0 : Nat) : Int)) ∨ hi = none) :
    (Instr.sliceAt t (.slice none 0 0) lo hi none).run P w = .ok (.slice none 0 0) w := by
  unfold Instr.sliceAt
  simp only [Sem.run_bind, run_underlying ht, Result.andThen_ok]
  unfold Instr.slice
  simp only [Sem.run_bind, run_underlying ht, Result.andThen_ok]
  unfold Instr.sliceBounds
  rcases hl with rfl | rfl <;> rcases hh with rfl | rfl <;>
    simp [Instr.sliceBound, asIntOf, Sem.run_bind, Sem.run_pure, Result.andThen_ok, run_sizeOf het]
theorem cutV_s {m : Nat} {lo hi : Option Nat} {k : Nat → Nat → Option R} (h : cutV m lo hi k = some r) : ∃ l h', l ≤ h' ∧ h' ≤ m ∧ k l (h' - l) = some r ∧ (lo = some l ∨ (lo = none ∧ l = 0)) ∧ (hi = some h' ∨ (hi = none ∧ h' = m)) := by
  unfold cutV at h
  split at h
  · next h' => obtain ⟨h1, h2⟩ := ck_s h; exact ⟨0, h', Nat.zero_le _, h1, h2, .inr ⟨rfl, rfl⟩, .inl rfl⟩
  · next l => obtain ⟨h1, h2⟩ := ck_s h; exact ⟨l, m, h1, Nat.le_refl _, h2, .inl rfl, .inr ⟨rfl, rfl⟩⟩
  · next l h' => obtain ⟨h1, h2⟩ := ck_s h; exact ⟨l, h', h1.1, h1.2, h2, .inl rfl, .inl rfl⟩
  · exact ⟨0, m, Nat.zero_le _, Nat.le_refl _, h, .inr ⟨rfl, rfl⟩, .inr ⟨rfl, rfl⟩⟩
theorem run_sliceT {t : TypeId} {s : ByteArray} {l h : Nat} {lo hi : Option Value} {w : World} (ht : P.underlying t = some .string)
    (hl : lo = some (.int .i64 (l : Int)) ∨ (lo = none ∧ l = 0)) (hh : hi = some (.int .i64 (h : Int)) ∨ (hi = none ∧ h = s.size)) (hlh : l ≤ h) (hhn : h ≤ s.size) :
    (Instr.sliceAt t (.string s) lo hi none).run P w = .ok (.string (s.extract l h)) w := by
  have b1 : (0 : Int) ≤ (l : Int) ∧ (l : Int) ≤ (h : Int) := by omega
  have b2 : (0 : Int) ≤ (h : Int) ∧ (h : Int) ≤ (s.size : Int) := by omega
  unfold Instr.sliceAt
  simp only [Sem.run_bind, run_underlying ht, Result.andThen_ok]
  unfold Instr.slice
  simp only [Sem.run_bind, run_underlying ht, Result.andThen_ok]
  unfold Instr.sliceBounds
  rcases hl with rfl | ⟨rfl, rfl⟩ <;> rcases hh with rfl | ⟨rfl, rfl⟩ <;>
    simp [Instr.sliceBound, asIntOf, if_pos b1, if_pos b2, hlh, hhn]
theorem bytesN_cut (s : ByteArray) (l h : Nat) : bytesN (s.extract l h) = ((bytesN s).drop l).take (h - l) := by simp_all [bytesN]
theorem e_slice (hT : TTok P cf.tt) (hL : ELok P cf.tt) {lo hi : Option Operand} {k : List (Nat × Dv) → Option R} (h : eSlice cf cx σ t x lo hi k = some r) : ∃ l, k l = some r ∧ ES P ⟨d, .slice t x lo hi none, ty, pos, aft, g⟩ cx σ F l := by
  have hx : ∀ {vs env S w}, (∀ t' ∈ tmpsOf (.slice t x lo hi none), Lk P vs env S w cx σ t') → LkO P vs env S w cx σ x := fun hl => lk_of hl (by simp [Op.operands])
  have hlo : ∀ {vs env S w z}, lo = some z → (∀ t' ∈ tmpsOf (.slice t x lo hi none), Lk P vs env S w cx σ t') → LkO P vs env S w cx σ z := fun e hl => lk_of hl (by simp [Op.operands, e])
  have hhi : ∀ {vs env S w z}, hi = some z → (∀ t' ∈ tmpsOf (.slice t x lo hi none), Lk P vs env S w cx σ t') → LkO P vs env S w cx σ z := fun e hl => lk_of hl (by simp [Op.operands, e])
  unfold eSlice at h
  split at h
  · next e E B s xs ht hxv =>
    obtain ⟨hse, h⟩ := cast_s h
    cases hse
    obtain ⟨bytes, zero, het⟩ := ty_el hT hL ht
    have fin : ∀ {l m : Nat} {zs : List e.D}, l ≤ m → m ≤ List.length xs → zs = (List.drop l xs).take (m - l) → (∀ vs env S w, (∀ t' ∈ tmpsOf (.slice t x lo hi none), Lk P vs env S w cx σ t') → ((lo.map (ev env)) = some (.int .i64 (l : Int)) ∨ (lo = none ∧ l = 0)) ∧ ((hi.map (ev env)) = some (.int .i64 (m : Int)) ∨ (hi = none ∧ m = List.length xs))) →
        k [(0, .d (.l e) zs)] = some r → ∃ l, k l = some r ∧ ES P ⟨d, .slice t x lo hi none, ty, pos, aft, g⟩ cx σ F l := by
      intro l m zs h1 h2 h3 h4 h5
      subst h3
      refine ⟨_, h5, es_oe fun env w S vs hM hl => ?_⟩
      obtain ⟨h6, h7⟩ := h4 vs env S w hl
      exact ⟨_, _, _, _, [fV (eS e.rep) xs (ev env x)], [], oe_slice (e := e.rep) (xs := xs) (l := l) (h := m) rfl (tk_sl hT ht) het h6 h7 h1 h2 (fun S w h => h.1), trivial, ⟨opv_hold hxv (hx hl), trivial⟩, fun u w' _ hf => one_of hf.1⟩
    rcases bnd_s h with ⟨e1, h1⟩ | ⟨zl, l, e1, h1, hl1⟩
    · rcases bnd_s h1 with ⟨e2, h2⟩ | ⟨zh, m, e2, h2, hh1⟩
      · exact fin (l := 0) (m := List.length xs) (Nat.zero_le _) (Nat.le_refl _) (cut_a (α := e.D) xs) (fun vs env S w hl => ⟨.inr ⟨e1, rfl⟩, .inr ⟨e2, rfl⟩⟩) h2
      · obtain ⟨h3, h4⟩ := ck_s h2
        obtain ⟨zs, hz, h5⟩ := nm_s h4
        exact fin (l := 0) (m := m) (Nat.zero_le _) h3 hz (fun vs env S w hl => ⟨.inr ⟨e1, rfl⟩, .inl (by rw [e2]; exact congrArg some (hh1 P vs env S w (hhi e2 hl)))⟩) h5
    · rcases bnd_s h1 with ⟨e2, h2⟩ | ⟨zh, m, e2, h2, hh1⟩
      · obtain ⟨h3, h4⟩ := ck_s h2
        obtain ⟨zs, hz, h5⟩ := nm_s h4
        exact fin (l := l) (m := List.length xs) h3 (Nat.le_refl _) (hz.trans (cut_l (α := e.D) xs l)) (fun vs env S w hl => ⟨.inl (by rw [e1]; exact congrArg some (hl1 P vs env S w (hlo e1 hl))), .inr ⟨e2, rfl⟩⟩) h5
      · obtain ⟨h3, h4⟩ := ck_s h2
        obtain ⟨zs, hz, h5⟩ := nm_s h4
        exact fin (l := l) (m := m) h3.1 h3.2 hz (fun vs env S w hl => ⟨.inl (by rw [e1]; exact congrArg some (hl1 P vs env S w (hlo e1 hl))), .inl (by rw [e2]; exact congrArg some (hh1 P vs env S w (hhi e2 hl)))⟩) h5
  · next e E B o ht hxv =>
    split at h
    · next s E' xs ho =>
      obtain ⟨hse, h⟩ := cast_s h
      cases hse
      obtain ⟨bytes, zero, het⟩ := ty_el hT hL ht
      have key : ∀ (l m : Nat), l ≤ m → m ≤ List.length xs → k [(0, .sv o e l (m - l))] = some r → (∀ vs env S w, (∀ t' ∈ tmpsOf (.slice t x lo hi none), Lk P vs env S w cx σ t') → ((lo.map (ev env)) = some (.int .i64 (l : Int)) ∨ (lo = none ∧ l = 0)) ∧ ((hi.map (ev env)) = some (.int .i64 (m : Int)) ∨ (hi = none ∧ m = List.length xs))) →
          ∃ l, k l = some r ∧ ES P ⟨d, .slice t x lo hi none, ty, pos, aft, g⟩ cx σ F l := by
        intro l m h1 h2 h5 h4
        refine ⟨_, h5, fun env w S vs hS hM hl => ?_⟩
        obtain ⟨h6, h7⟩ := h4 vs env S w hl
        have hxe : ev env x = vs o := opv_hold hxv (hx hl)
        rcases mo_shape (show (mO e.rep E' (vs o) xs).p S w from geto_M hM ho) with ⟨hv, hnil⟩ | ⟨b, cap, hv, hc1, hc2⟩
        · refine (oe_slice (e := e.rep) (xs := ([] : List e.D)) (l := l) (h := m) rfl (tk_sl hT ht) het h6 (by rw [hnil] at h7; exact h7) h1 (by rw [hnil] at h2; exact h2) (Γ := [fV (eS e.rep) ([] : List e.D) (ev env x)]) (fun S w h => h.1) (ms := []) w S hS trivial ⟨?_, trivial⟩).mono ?_
          · rw [hxe, hv]; exact fV_slice.2 ⟨none, 0, rfl, Nat.le_refl _, Nat.zero_le _, .inl rfl⟩
          · rintro v w' ⟨u, rfl, _, hx', hf⟩
            refine ⟨hx', one_of (.inr ?_)⟩
            have hm0 : m = 0 := by rw [hnil] at h2; exact Nat.le_zero.1 h2
            obtain ⟨ao, c, q1, q2, q3, _⟩ := fV_slice.1 hf.1
            refine ⟨by omega, ao, c, by unfold maxLen at q3; omega, ?_⟩
            rw [q1]; simp
        · have hr := run_sliceG (P := P) (b := b) (o := 0) (n := List.length xs) (cap := cap) (w := w) (l := l) (h := m) (tk_sl hT ht) het (h6.imp id fun q => ⟨by rw [q.1]; rfl, q.2⟩) (h7.imp id fun q => ⟨by rw [q.1]; rfl, q.2⟩) h1 (Nat.le_trans h2 hc1)
          rw [← hv, ← hxe] at hr
          refine OpR.of_value (v := .slice (if cap = l then some ⟨b, 0, none⟩ else some ((⟨b, 0, none⟩ : Addr).add (l * e.rep.n))) (m - l) (cap - l)) (w' := w) (by simp [execOp, hr]) ⟨Keeps.refl _ _, one_of ?_⟩
          by_cases hcl : cap = l
          · rw [if_pos hcl]
            refine .inr ⟨by omega, some ⟨b, 0, none⟩, cap - l, by omega, ?_⟩
            rw [show m - l = 0 by omega]
          · rw [if_neg hcl]
            exact .inl ⟨b, List.length xs, cap, cap - l, hv, by omega, by omega, by omega, by rw [addr_add]⟩
      rcases bnd_s h with ⟨e1, h1⟩ | ⟨zl, l, e1, h1, hl1⟩
      · rcases bnd_s h1 with ⟨e2, h2⟩ | ⟨zh, m, e2, h2, hh1⟩
        · exact key 0 (List.length xs) (Nat.zero_le _) (Nat.le_refl _) h2 (fun vs env S w hl => ⟨.inr ⟨e1, rfl⟩, .inr ⟨e2, rfl⟩⟩)
        · obtain ⟨h3, h4⟩ := ck_s h2
          exact key 0 m (Nat.zero_le _) h3 h4 (fun vs env S w hl => ⟨.inr ⟨e1, rfl⟩, .inl (by rw [e2]; exact congrArg some (hh1 P vs env S w (hhi e2 hl)))⟩)
      · rcases bnd_s h1 with ⟨e2, h2⟩ | ⟨zh, m, e2, h2, hh1⟩
        · obtain ⟨h3, h4⟩ := ck_s h2
          exact key l (List.length xs) h3 (Nat.le_refl _) h4 (fun vs env S w hl => ⟨.inl (by rw [e1]; exact congrArg some (hl1 P vs env S w (hlo e1 hl))), .inr ⟨e2, rfl⟩⟩)
        · obtain ⟨h3, h4⟩ := ck_s h2
          exact key l m h3.1 h3.2 h4 (fun vs env S w hl => ⟨.inl (by rw [e1]; exact congrArg some (hl1 P vs env S w (hlo e1 hl))), .inl (by rw [e2]; exact congrArg some (hh1 P vs env S w (hhi e2 hl)))⟩)
    · cases h
  · next q B xs ht hxv =>
    have fin : ∀ {l m : Nat} {zs : List Nat}, l ≤ m → m ≤ List.length xs → zs = (List.drop l xs).take (m - l) → (∀ vs env S w, (∀ t' ∈ tmpsOf (.slice t x lo hi none), Lk P vs env S w cx σ t') → ((lo.map (ev env)) = some (.int .i64 (l : Int)) ∨ (lo = none ∧ l = 0)) ∧ ((hi.map (ev env)) = some (.int .i64 (m : Int)) ∨ (hi = none ∧ m = List.length xs))) →
        k [(0, .d .tx zs)] = some r → ∃ l, k l = some r ∧ ES P ⟨d, .slice t x lo hi none, ty, pos, aft, g⟩ cx σ F l := by
      intro l m zs h1 h2 h3 h4 h5
      refine ⟨_, h5, es_val fun env w S vs hl => ?_⟩
      obtain ⟨h6, h7⟩ := h4 vs env S w hl
      obtain ⟨s, e1, e2, e3⟩ := fV_tx (opv_hold hxv (hx hl))
      have hlen : (bytesN s).length = s.size := bytesN_len s
      rw [e2] at hlen
      have hr := run_sliceT (P := P) (s := s) (l := l) (h := m) (w := w) (tk_str hT ht) (h6.imp id fun q => ⟨by rw [q.1]; rfl, q.2⟩) (h7.imp id fun q => ⟨by rw [q.1]; rfl, by rw [q.2]; exact hlen⟩) h1 (by rw [← hlen]; exact h2)
      rw [← e1] at hr
      refine ⟨.string (s.extract l m), by simp [execOp, hr], one_of (tx_fV (by rw [bytesN_cut, e2, h3]) ?_)⟩
      rw [← bytesN_len, bytesN_cut, e2]
      have h2 : m ≤ List.length (α := Nat) xs := h2
      rw [List.length_take]
      omega
    rcases bnd_s h with ⟨e1, h1⟩ | ⟨zl, l, e1, h1, hl1⟩
    · rcases bnd_s h1 with ⟨e2, h2⟩ | ⟨zh, m, e2, h2, hh1⟩
      · exact fin (l := 0) (m := List.length (α := Nat) xs) (Nat.zero_le _) (Nat.le_refl _) (cut_a (α := Nat) xs) (fun vs env S w hl => ⟨.inr ⟨e1, rfl⟩, .inr ⟨e2, rfl⟩⟩) h2
      · obtain ⟨h3, h4⟩ := ck_s h2
        obtain ⟨zs, hz, h5⟩ := nm_s h4
        exact fin (l := 0) (m := m) (Nat.zero_le _) h3 hz (fun vs env S w hl => ⟨.inr ⟨e1, rfl⟩, .inl (by rw [e2]; exact congrArg some (hh1 P vs env S w (hhi e2 hl)))⟩) h5
    · rcases bnd_s h1 with ⟨e2, h2⟩ | ⟨zh, m, e2, h2, hh1⟩
      · obtain ⟨h3, h4⟩ := ck_s h2
        obtain ⟨zs, hz, h5⟩ := nm_s h4
        exact fin (l := l) (m := List.length (α := Nat) xs) h3 (Nat.le_refl _) (hz.trans (cut_l (α := Nat) xs l)) (fun vs env S w hl => ⟨.inl (by rw [e1]; exact congrArg some (hl1 P vs env S w (hlo e1 hl))), .inr ⟨e2, rfl⟩⟩) h5
      · obtain ⟨h3, h4⟩ := ck_s h2
        obtain ⟨zs, hz, h5⟩ := nm_s h4
        exact fin (l := l) (m := m) h3.1 h3.2 hz (fun vs env S w hl => ⟨.inl (by rw [e1]; exact congrArg some (hl1 P vs env S w (hlo e1 hl))), .inl (by rw [e2]; exact congrArg some (hh1 P vs env S w (hhi e2 hl)))⟩) h5
  · cases h
theorem e_idx (hT : TTok P cf.tt) {k : List (Nat × Dv) → Option R} (h : eIdx cf cx σ t x y k = some r) : ∃ l, k l = some r ∧ ES P ⟨d, .index t x y, ty, pos, aft, g⟩ cx σ F l := by
  have hx : ∀ {vs env S w}, (∀ t' ∈ tmpsOf (.index t x y), Lk P vs env S w cx σ t') → LkO P vs env S w cx σ x := fun hl => lk_of hl (by simp [Op.operands])
  have hy : ∀ {vs env S w}, (∀ t' ∈ tmpsOf (.index t x y), Lk P vs env S w cx σ t') → LkO P vs env S w cx σ y := fun hl => lk_of hl (by simp [Op.operands])
  unfold eIdx at h
  split at h
  · next q B xs ht hxv =>
    obtain ⟨j, hj, h, hi⟩ := at_s h
    obtain ⟨z, hz, h⟩ := nm_s h
    refine ⟨_, h, es_val fun env w S vs hl => ?_⟩
    obtain ⟨s, e1, e2, _⟩ := fV_tx (opv_hold hxv (hx hl))
    obtain ⟨ik, e3⟩ := hi P vs env S w (hy hl)
    have hlen : (bytesN s).length = s.size := bytesN_len s
    have hj2 : j < s.size := by rw [← hlen, e2]; exact hj
    have hzv : z = (s[j]'hj2).toNat := by
      rw [hz, ← e2]
      unfold bytesN
      rw [List.getD_eq_getElem?_getD, List.getElem?_map, List.getElem?_eq_getElem (by rw [← hlen] at hj2; simpa [bytesN] using hj2)]
      rfl
    have hr := run_index_string (P := P) w t s ik (j : Int) (tk_str hT ht)
    rw [dif_pos ⟨by omega, by omega⟩] at hr
    refine ⟨.int .u8 (z : Int), ?_, one_of (ch_fV (by rw [hzv]; exact UInt8.toNat_lt _))⟩
    simp only [Int.toNat_natCast] at hr
    rw [hzv]
    simp [execOp, e1, e3, hr]
  · cases h
theorem e_box {E : TypeId} {k : List (Nat × Dv) → Option R} (h : eBox cf cx σ E x k = some r) : ∃ l, k l = some r ∧ ES P ⟨d, .box E x, ty, pos, aft, g⟩ cx σ F l := by
  unfold eBox at h
  split at h
  · next ti hti =>
    obtain ⟨y, h, hy⟩ := asO_s h
    exact ⟨_, h, es_oe fun env w S vs hM hl => ⟨_, _, _, _, [fV ti.ty.rep y (ev env x)], [], oe_box (e := ti.ty.rep) (z := y) rfl (fun S w h => h.1), trivial, ⟨hy P vs env S w (lk_of hl (by simp [Op.operands])), trivial⟩, fun u w' _ hf => one_of hf.1⟩⟩
  · cases h
theorem e_len (hT : TTok P cf.tt) {ags : Array Operand} {ts : Array TypeId} {k : List (Nat × Dv) → Option R} (h : eLen cf cx σ ags.toList ts.toList k = some r) :
    ∃ l, k l = some r ∧ ES P ⟨d, .call ⟨.builtin .len, ags, ts⟩, ty, pos, aft, g⟩ cx σ F l := by
  unfold eLen at h
  split at h
  · next _ _ x t hags hts =>
    obtain rfl : ags = #[x] := by cases ags; simp_all
    obtain rfl : ts = #[t] := by cases ts; simp_all
    have hx : ∀ {vs env S w}, (∀ t' ∈ tmpsOf (.call ⟨.builtin .len, #[x], #[t]⟩), Lk P vs env S w cx σ t') → LkO P vs env S w cx σ x := fun hl => lk_of hl (by simp [Op.operands, Call.operands])
    split at h
    · next e E B ht =>
      have hu := tk_sl hT ht
      split at h
      · next hxv => exact ⟨_, h, es_val fun env w S vs hl => ⟨_, r_len hu (opv_hold hxv (hx hl)) w, one_of (i64_fV (by decide))⟩⟩
      · next s xs hxv =>
        exact ⟨_, h, es_oe fun env w S vs hM hl => ⟨_, _, _, _, [fV (eS s.rep) xs (ev env x)], [], oe_len (e := s.rep) (xs := xs) hu rfl (fun S w h => h.1), trivial, ⟨opv_hold hxv (hx hl), trivial⟩, fun u w' hk hf => one_of (i64_fV (len_r hk))⟩⟩
      · next o hxv =>
        split at h
        · next s E' xs ho =>
          exact ⟨_, h, es_oe fun env w S vs hM hl => ⟨_, _, _, _, [], [mO s.rep E' (vs o) xs], oe_lenM 0 rfl hu (opv_hold hxv (hx hl)), ⟨geto_M hM ho, trivial⟩, trivial, fun u w' hk hf => one_of (i64_fV (len_r hk))⟩⟩
        · cases h
      · cases h
    · next q B ht =>
      have hu := tk_str hT ht
      split at h
      · next xs hxv =>
        refine ⟨_, h, es_val fun env w S vs hl => ?_⟩
        obtain ⟨s, e1, e2, e3⟩ := fV_tx (opv_hold hxv (hx hl))
        have hlen : (bytesN s).length = s.size := bytesN_len s
        rw [e2] at hlen
        have hlen : List.length (α := Nat) xs = s.size := hlen
        refine ⟨.int .i64 ((List.length (α := Nat) xs : Nat) : Int), ?_, one_of (i64_fV (by omega))⟩
        rw [hlen]
        simp [execOp, resolve, invoke, builtin, e1, Builtin.len_, goInt, run_underlying hu]
      · cases h
    · cases h
  · cases h
theorem e_mm {b : Bool} {ags : Array Operand} {ts : Array TypeId} {k : List (Nat × Dv) → Option R} (h : eMM cx b σ ags.toList k = some r) :
    ∃ l, k l = some r ∧ ES P ⟨d, .call ⟨.builtin (if b = true then .max else .min), ags, ts⟩, ty, pos, aft, g⟩ cx σ F l := by
  unfold eMM at h
  split at h
  · next _ x y hags =>
    obtain rfl : ags = #[x, y] := by cases ags; simp_all
    have hx : ∀ {bl vs env S w}, (∀ t' ∈ tmpsOf (.call ⟨.builtin bl, #[x, y], ts⟩), Lk P vs env S w cx σ t') → LkO P vs env S w cx σ x := fun hl => lk_of hl (by simp [Op.operands, Call.operands])
    have hy : ∀ {bl vs env S w}, (∀ t' ∈ tmpsOf (.call ⟨.builtin bl, #[x, y], ts⟩), Lk P vs env S w cx σ t') → LkO P vs env S w cx σ y := fun hl => lk_of hl (by simp [Op.operands, Call.operands])
    split at h
    · next a c ha hc =>
      cases b
      · have h : nm (min (α := Int) a c) (fun z => k [(0, intD z)]) = some r := h
        obtain ⟨z, hz, h⟩ := nm_s h
        exact ⟨_, h, es_val fun env w S vs hl => ⟨_, v_i (r_min (pd_i ha (hx hl)).1 (pd_i hc (hy hl)).1) hz w, one_of (i64_fV (eq_r hz (min_r (pd_i ha (hx hl)).2 (pd_i hc (hy hl)).2)))⟩⟩
      · have h : nm (max (α := Int) a c) (fun z => k [(0, intD z)]) = some r := h
        obtain ⟨z, hz, h⟩ := nm_s h
        exact ⟨_, h, es_val fun env w S vs hl => ⟨_, v_i (r_max (pd_i ha (hx hl)).1 (pd_i hc (hy hl)).1) hz w, one_of (i64_fV (eq_r hz (max_r (pd_i ha (hx hl)).2 (pd_i hc (hy hl)).2)))⟩⟩
    · cases h
  · cases h
end
end
section
def PH (S : Nat → Prop) (w : World) : (ts : List Ty) → TsD ts → List (Nat × Value) → Prop
  | [], _, [] => True
  | t :: ts, y, (_, v) :: r => (fV t.rep y.1 v).p S w ∧ PH S w ts y.2 r
  | _, _, _ => False
theorem PH.keep {S : Nat → Prop} {w w' : World} (k : Keeps S w w') : ∀ {ts : List Ty} {ys : TsD ts} {ps : List (Nat × Value)}, PH S w ts ys ps → PH S w' ts ys ps
  | [], _, [], h => trivial
  | t :: _, y, (_, v) :: _, h => ⟨(fV t.rep y.1 v).keep h.1 k, PH.keep k h.2⟩
  | [], _, _ :: _, h => h.elim
  | _ :: _, _, [], h => h.elim
theorem PH.sub {S S' : Nat → Prop} {w : World} (k : ∀ k, k < w.heap.size → S k → S' k) : ∀ {ts : List Ty} {ys : TsD ts} {ps : List (Nat × Value)}, PH S w ts ys ps → PH S' w ts ys ps
  | [], _, [], h => trivial
  | t :: _, y, (_, v) :: _, h => ⟨(fV t.rep y.1 v).sub h.1 k, PH.sub k h.2⟩
  | [], _, _ :: _, h => h.elim
  | _ :: _, _, [], h => h.elim
def phF (ts : List Ty) (ys : TsD ts) (ps : List (Nat × Value)) : FF := ⟨fun S w => PH S w ts ys ps, fun h k => PH.keep k h, fun h k => PH.sub k h⟩
section
variable {P : Program} {cf : Cf} {cx σ : Sg} {F : List MF} {vs : Nat → Value} {env : Env} {S : Nat → Prop} {w : World} {R : Type} {r : R}
  {d : Option Tmp} {ty t yt : TypeId} {pos : String} {aft : Array Edge} {g : Option (Nat × Bool)} {x y : Operand}
theorem parts_s : ∀ {ts : List Ty} {ps : List (Nat × Operand)} {j : Nat} {k : TsD ts → Option R}, parts cx σ ts ps j k = some r →
    ∃ ys, k ys = some r ∧ ps.map (·.1) = List.range' j ps.length ∧ ∀ (P : Program) vs env S w, (∀ x ∈ ps.map (·.2), LkO P vs env S w cx σ x) → PH S w ts ys (ps.map fun q : Nat × Operand => (q.1, ev env q.2))
  | [], [], j, k, h => ⟨(), h, rfl, fun _ _ _ _ _ _ => trivial⟩
  | t :: ts, (i, x) :: ps, j, k, h => by
    unfold parts at h
    obtain ⟨hij, h⟩ := grd_s h
    obtain ⟨y, h, hy⟩ := asO_s h
    obtain ⟨ys, h1, h2, h3⟩ := parts_s h
    refine ⟨(y, ys), h1, ?_, fun P vs env S w hl => ⟨hy P vs env S w (hl x (List.mem_cons_self ..)), h3 P vs env S w fun z hz => hl z (List.mem_cons_of_mem _ hz)⟩⟩
    simp only [List.map_cons, List.length_cons, List.range'_succ, h2, beq_t hij]
  | [], _ :: _, j, k, h => by simp [parts] at h
  | _ :: _, [], j, k, h => by simp [parts] at h
theorem flat1 {i : Nat} {v : Value} : flat [(i, v)] = v.cells.toList := by simp [flat]
theorem fld0 {k : Nat} {s t : Ty} : fld (k + 2) (.p s t) 0 = some ⟨0, s, fun z => z.1, fun y z => (y, z.2)⟩ := rfl
theorem fldS {k : Nat} {s t : Ty} {i : Nat} {f : Fl t.D} (h : fld (k + 1) t i = some f) : fld (k + 2) (.p s t) (i + 1) = some ⟨s.n + f.off, f.f, fun z => f.get z.2, fun y z => (z.1, f.set y z.2)⟩ := by
  simp only [fld, h]
theorem join_s {pl : Array (Nat × Nat)} : ∀ {k : Nat} {t : Ty} {o j : Nat} {ys : TsD (flds k t)} {ps : List (Nat × Value)} {z : t.D}, (∀ i f, fld k t i = some f → pl[j + i]? = some (o + f.off, f.f.n)) →
    ps.map (·.1) = List.range' j ps.length → PH S w (flds k t) ys ps → joinP k t ys = some z → fillOK (pl[·]?) ps o ∧ t.rep.p S z (flat ps) w
  | 0, _, _, _, _, _, _, _, _, _, h => by simp [joinP] at h
  | 1, t, o, j, ys, [], z, hp, hi, h, hj => h.elim
  | 1, t, o, j, ys, [(i, v)], z, hp, hi, h, hj => by
    simp only [joinP, Option.some.injEq] at hj
    subst hj
    have hij : i = j := by simpa using hi
    subst hij
    have h0 := hp 0 (Fl.self t) rfl
    have hs := fV_sz h.1
    rw [t.n_rep] at hs
    refine ⟨⟨?_, trivial⟩, by rw [flat1]; exact fV_cells h.1⟩
    show pl[i]? = _
    rw [hs]; simpa [Fl.self] using h0
  | 1, t, o, j, ys, _ :: _ :: _, z, hp, hi, h, hj => h.2.elim
  | k + 2, .p s t, o, j, ys, [], z, hp, hi, h, hj => h.elim
  | k + 2, .p s t, o, j, ys, (i, v) :: ps, z, hp, hi, h, hj => by
    unfold joinP at hj
    split at hj
    · next y hy =>
      obtain rfl := Option.some.inj hj
      simp only [List.map_cons, List.length_cons, List.range'_succ, List.cons.injEq] at hi
      obtain ⟨rfl, hi⟩ := hi
      have h0 := hp 0 _ fld0
      have hs := fV_sz h.1
      rw [s.n_rep] at hs
      obtain ⟨h1, h2⟩ := join_s (o := o + s.n) (j := i + 1) (pl := pl) (fun i' f hf => by
        have := hp (i' + 1) _ (fldS hf)
        rw [show i + 1 + i' = i + (i' + 1) by omega, this]
        simp only [Nat.add_assoc]) hi h.2 hy
      refine ⟨⟨?_, by rw [hs]; exact h1⟩, ?_⟩
      · show pl[i]? = _
        rw [hs]; simpa using h0
      · rw [flat_cons]; exact ⟨_, _, rfl, fV_cells h.1, h2⟩
    · cases hj
  | k + 2, .i, _, _, _, _, _, _, _, _, h => by simp [joinP] at h
  | k + 2, .u, _, _, _, _, _, _, _, _, h => by simp [joinP] at h
  | k + 2, .b, _, _, _, _, _, _, _, _, h => by simp [joinP] at h
  | k + 2, .l _, _, _, _, _, _, _, _, _, h => by simp [joinP] at h
  | k + 2, .a _ _, _, _, _, _, _, _, _, _, h => by simp [joinP] at h
def HB (S : Nat → Prop) (w : World) (n : Nat) (t : Ty) : List (Nat × Value) → t.D → t.D → Prop
  | [], z, z' => z = z'
  | (i, v) :: r, z, z' => ∃ (f : Fl t.D) (y : f.f.D), fld n t i = some f ∧ (fV f.f.rep y v).p S w ∧ HB S w n t r (f.set y z) z'
theorem HB.keep {S : Nat → Prop} {w w' : World} (k : Keeps S w w') {n : Nat} {t : Ty} : ∀ {vs : List (Nat × Value)} {z z' : t.D}, HB S w n t vs z z' → HB S w' n t vs z z'
  | [], _, _, h => h
  | _ :: _, _, _, ⟨f, y, h1, h2, h3⟩ => ⟨f, y, h1, (fV f.f.rep y _).keep h2 k, HB.keep k h3⟩
theorem HB.sub {S S' : Nat → Prop} {w : World} (k : ∀ k, k < w.heap.size → S k → S' k) {n : Nat} {t : Ty} : ∀ {vs : List (Nat × Value)} {z z' : t.D}, HB S w n t vs z z' → HB S' w n t vs z z'
  | [], _, _, h => h
  | _ :: _, _, _, ⟨f, y, h1, h2, h3⟩ => ⟨f, y, h1, (fV f.f.rep y _).sub h2 k, HB.sub k h3⟩
def hbF (n : Nat) (t : Ty) (vs : List (Nat × Value)) (z z' : t.D) : FF := ⟨fun S w => HB S w n t vs z z', fun h k => HB.keep k h, fun h k => HB.sub k h⟩
theorem HB.fill {S : Nat → Prop} {w : World} {n : Nat} {t : Ty} {pl : Array (Nat × Nat)} (hp : ∀ i f, fld n t i = some f → pl[i]? = some (f.off, f.f.n)) : ∀ {vs : List (Nat × Value)} {z z' : t.D} {cs : List Value}, HB S w n t vs z z' → t.rep.p S z cs w →
    ∃ out, Instr.fill (pl[·]?) cs.toArray vs = some out.toArray ∧ t.rep.p S z' out w ∧ ∀ j g, fld n t j = some g → (∀ p ∈ vs, p.1 ≠ j) → g.f.n = 1 → out[g.off]? = cs[g.off]?
  | [], z, z', cs, h, hc => ⟨cs, rfl, h ▸ hc, fun _ _ _ _ _ => rfl⟩
  | (i, v) :: r, z, z', cs, ⟨f, y, h1, h2, h3⟩, hc => by
    obtain ⟨pre, c, post, e1, e2, e3, e4⟩ := fld_ok h1 z S w cs hc
    have hv := fV_cells h2
    have hsz := fV_sz h2
    obtain ⟨out, h5, h6, h7⟩ := HB.fill hp h3 (e4 w y v.cells.toList (Keeps.refl _ _) hv)
    refine ⟨out, ?_, h6, fun j g hg hj h1g => ?_⟩
    · rw [e1, fill_step (by rw [hp i f h1, hsz, f.f.n_rep]) e2 (by rw [f.f.rep.len e3, hsz])]
      exact h5
    · rw [h7 j g hg (fun p hp => hj p (List.mem_cons_of_mem _ hp)) h1g, e1]
      obtain ⟨_, _, hd⟩ := fld_comm h1 hg (hj (i, v) (List.mem_cons_self ..))
      have l1 : c.length = f.f.n := by rw [f.f.rep.len e3, f.f.n_rep]
      have l2 : v.cells.toList.length = f.f.n := by rw [f.f.rep.len hv, f.f.n_rep]
      rcases hd with hd | hd
      · rw [List.append_assoc, List.append_assoc, List.getElem?_append_left (by omega), List.getElem?_append_left (by omega)]
      · rw [List.getElem?_append_right (by rw [List.length_append]; omega), List.getElem?_append_right (by rw [List.length_append]; omega), List.length_append, List.length_append, l1, l2]
theorem bldH_s {n : Nat} {t : Ty} : ∀ {ps : List (Nat × Operand)} {z : t.D} {k : t.D → Option R}, bldH cx σ n t ps z k = some r →
    ∃ z', k z' = some r ∧ ∀ (P : Program) vs env S w, (∀ x ∈ ps.map (·.2), LkO P vs env S w cx σ x) → HB S w n t (ps.map fun q : Nat × Operand => (q.1, ev env q.2)) z z'
  | [], z, k, h => ⟨z, h, fun _ _ _ _ _ _ => rfl⟩
  | (i, x) :: ps, z, k, h => by
    unfold bldH at h
    split at h
    · next f hf =>
      obtain ⟨y, h, hy⟩ := asO_s h
      obtain ⟨z', h1, h2⟩ := bldH_s h
      exact ⟨z', h1, fun P vs env S w hl => ⟨f, y, hf, hy P vs env S w (hl x (List.mem_cons_self ..)), h2 P vs env S w fun z hz => hl z (List.mem_cons_of_mem _ hz)⟩⟩
    · cases h
theorem listP_len : ∀ (n : Nat) (t : Ty) (ys : TsD (repT n t)), (listP n t ys).length = n
  | 0, _, _ => rfl
  | n + 1, t, ys => congrArg (· + 1) (listP_len n t ys.2)
theorem list_s {t : Ty} : ∀ {n j : Nat} {ys : TsD (repT n t)} {ps : List (Nat × Value)}, ps.map (·.1) = List.range' j ps.length → PH S w (repT n t) ys ps →
    fillOK (fun i => some (i * t.rep.n, t.rep.n)) ps (j * t.rep.n) ∧ Elems t.rep S (listP n t ys) (flat ps) w
  | 0, _, _, [], _, _ => ⟨trivial, rfl⟩
  | 0, _, _, _ :: _, _, h => h.elim
  | n + 1, _, _, [], _, h => h.elim
  | n + 1, j, ys, (i, v) :: ps, hi, h => by
    simp only [List.map_cons, List.length_cons, List.range'_succ, List.cons.injEq] at hi
    obtain ⟨rfl, hi⟩ := hi
    have hs := fV_sz h.1
    obtain ⟨h1, h2⟩ := list_s hi h.2
    refine ⟨⟨by rw [hs], ?_⟩, ?_⟩
    · rw [hs, show i * t.rep.n + t.rep.n = (i + 1) * t.rep.n by rw [Nat.add_mul, Nat.one_mul]]; exact h1
    · rw [flat_cons]; exact ⟨_, _, rfl, fV_cells h.1, h2⟩
theorem e_build (hT : TTok P cf.tt) {ps : Array (Nat × Operand)} {k : List (Nat × Dv) → Option R} (h : eBuild cf cx σ t ps.toList k = some r) : ∃ l, k l = some r ∧ ES P ⟨d, .build t ps, ty, pos, aft, g⟩ cx σ F l := by
  unfold eBuild at h
  split at h
  · next e n B ht =>
    obtain ⟨zero, hz1, hz2, hz3⟩ := ty_of hT ht
    obtain ⟨hag, _, ⟨fs, hfs, pl, hpl, hpi⟩, _⟩ := (hT _ _ ht).2.2.2
    simp only at hz1 hz2 hz3 hag hpi
    cases hc : Nat.blt ps.toList.length n || Nat.beq n 0 <;> rw [hc] at h
    · obtain ⟨ys, h, hidx, hys⟩ := parts_s h
      split at h
      · next z hz =>
        refine ⟨_, h, es_oe fun env w S vs hM hl => ?_⟩
        have hph := hys P vs env S w fun x hx => lk_of hl (by simpa [Op.operands] using hx)
        have hidx' : (ps.toList.map fun q : Nat × Operand => (q.1, ev env q.2)).map (·.1) = List.range' 0 (ps.toList.map fun q : Nat × Operand => (q.1, ev env q.2)).length := by rw [List.map_map, List.length_map]; exact hidx
        have hj := fun (S : Nat → Prop) (w : World) (h : PH S w (flds n e) ys (ps.toList.map fun q : Nat × Operand => (q.1, ev env q.2))) => join_s (pl := pl) (o := 0) (j := 0) (fun i f hf => by rw [Nat.zero_add, Nat.zero_add]; exact hpi i f hf) hidx' h hz
        exact ⟨_, _, _, _, [phF _ ys (ps.toList.map fun q : Nat × Operand => (q.1, ev env q.2))], [], oe_build (e := e.rep) (z := z) (parts := ps.toList) (hag ▸ hz1) hag hz2 rfl (.inl ⟨fs, hfs, pl, hpl, fun S w h => (hj S w h.1).1⟩) (fun S w h => (hj S w h.1).2), trivial, ⟨hph, trivial⟩, fun u w' _ hf => one_of hf.1⟩
      · cases h
    · obtain ⟨z, h, hH⟩ := bldH_s h
      refine ⟨_, h, es_oe fun env w S vs hM hl => ?_⟩
      have hb := hH P vs env S w fun x hx => lk_of hl (by simpa [Op.operands] using hx)
      exact ⟨_, _, _, _, [hbF n e (ps.toList.map fun q : Nat × Operand => (q.1, ev env q.2)) e.z z], [], oe_buildH (e := e.rep) (z0 := e.z) (z := z) (parts := ps.toList) (hag ▸ hz1) hag hz3 ⟨fs, hfs, hpl⟩ rfl (fun _ => True) (fun S w h cs _ hc => by obtain ⟨out, q1, q2, _⟩ := HB.fill hpi h.1 hc; exact ⟨out, q1, q2, trivial⟩), trivial, ⟨hb, trivial⟩, fun u w' _ hf => one_of hf.1⟩
  · next n e n' E B ht =>
    obtain ⟨hg, h⟩ := grd_s h
    rw [Bool.and_eq_true] at hg
    have hn := beq_t hg.1
    subst hn
    obtain ⟨b2, z2, het⟩ := el_ty hT hg.2
    obtain ⟨ys, h, hidx, hys⟩ := parts_s h
    obtain ⟨zero, hz1, hz2, hz3⟩ := ty_of hT ht
    refine ⟨_, h, es_oe fun env w S vs hM hl => ?_⟩
    have hph := hys P vs env S w fun x hx => lk_of hl (by simpa [Op.operands] using hx)
    have hidx' : (ps.toList.map fun q : Nat × Operand => (q.1, ev env q.2)).map (·.1) = List.range' 0 (ps.toList.map fun q : Nat × Operand => (q.1, ev env q.2)).length := by rw [List.map_map, List.length_map]; exact hidx
    have hj := fun (S : Nat → Prop) (w : World) (h : PH S w (repT n' e) ys (ps.toList.map fun q : Nat × Operand => (q.1, ev env q.2))) => list_s hidx' h
    exact ⟨_, _, _, _, [phF _ ys (ps.toList.map fun q : Nat × Operand => (q.1, ev env q.2))], [], oe_build (e := (Ty.a n' e).rep) (z := listP n' e ys) (parts := ps.toList) hz1 rfl hz2 rfl (.inr ⟨_, _, _, _, _, _, tk_ar hT ht, het, fun S w h => by have := (hj S w h.1).1; rwa [Nat.zero_mul] at this⟩) (fun S w h => ⟨listP_len n' e ys, (hj S w h.1).2⟩), trivial, ⟨hph, trivial⟩, fun u w' _ hf => one_of hf.1⟩
  · cases h
theorem el_pos {s E : TypeId} {e : Ty} {B : Nat} (hT : TTok P cf.tt) (hL : ELok P cf.tt) (h : tyA cf s = some ⟨.l e, .sl E, B⟩) : 0 < e.rep.n := by
  obtain ⟨ti, h1, rfl⟩ := hL _ _ _ _ h
  exact (hT _ _ h1).2.2.1
theorem e_lit (hT : TTok P cf.tt) (hL : ELok P cf.tt) {n : Nat} {ps : Array (Nat × Operand)} {k : List (Nat × Dv) → Option R} (h : eLit cf cx σ t n ps.toList k = some r) : ∃ l, k l = some r ∧ ES P ⟨d, .buildSlice t n ps, ty, pos, aft, g⟩ cx σ F l := by
  unfold eLit at h
  split at h
  · next e E B ht =>
    obtain ⟨hsm, h⟩ := grd_s h
    have hsm := Nat.le_of_ble_eq_true hsm
    rw [← e.n_rep] at hsm
    obtain ⟨ys, h, hidx, hys⟩ := parts_s h
    obtain ⟨bytes, zero, het⟩ := ty_el hT hL ht
    refine ⟨_, h, es_oe fun env w S vs hM hl => ?_⟩
    have hph := hys P vs env S w fun x hx => lk_of hl (by simpa [Op.operands] using hx)
    have hidx' : (ps.toList.map fun q : Nat × Operand => (q.1, ev env q.2)).map (·.1) = List.range' 0 (ps.toList.map fun q : Nat × Operand => (q.1, ev env q.2)).length := by rw [List.map_map, List.length_map]; exact hidx
    have hj := fun (S : Nat → Prop) (w : World) (h : PH S w (repT n e) ys (ps.toList.map fun q : Nat × Operand => (q.1, ev env q.2))) => list_s hidx' h
    exact ⟨_, _, _, _, [phF _ ys (ps.toList.map fun q : Nat × Operand => (q.1, ev env q.2))], [], oe_buildSlice (e := e.rep) (zs := listP n e ys) (parts := ps.toList) (tk_sl hT ht) het (el_pos hT hL ht) (listP_len n e ys) hsm rfl (fun S w h => by have := (hj S w h.1).1; rwa [Nat.zero_mul] at this) (fun S w h => (hj S w h.1).2), trivial, ⟨hph, trivial⟩, fun u w' _ hf => one_of hf.1⟩
  · cases h
theorem caps_s : ∀ {xs : List Operand} {l : List PD}, caps cx σ xs = some l → l.length = xs.length ∧ ∀ (P : Program) vs env S w, (∀ x ∈ xs, LkO P vs env S w cx σ x) → All S (capF l (xs.map (ev env))) w
  | [], l, h => by simp only [caps, Option.some.injEq] at h; subst h; exact ⟨rfl, fun _ _ _ _ _ _ => trivial⟩
  | x :: xs, l, h => by
    unfold caps at h
    split at h
    · next t y l' hx hr =>
      simp only [Option.some.injEq] at h
      subst h
      obtain ⟨h1, h2⟩ := caps_s hr
      exact ⟨by simp [h1], fun P vs env S w hl => ⟨opv_hold hx (hl x (List.mem_cons_self ..)), h2 P vs env S w fun z hz => hl z (List.mem_cons_of_mem _ hz)⟩⟩
    · cases h
theorem e_clo {f : Go.Fn} {first cs : Array Operand} {k : List (Nat × Dv) → Option R} (h : eClo cx σ f first.toList cs.toList k = some r) : ∃ l, k l = some r ∧ ES P ⟨d, .makeFunc f first cs, ty, pos, aft, g⟩ cx σ F l := by
  unfold eClo at h
  split at h
  · next _ _ _ f' l hf hc =>
    obtain rfl : first = #[] := by cases first; simp_all
    obtain ⟨h1, h2⟩ := caps_s hc
    refine ⟨_, h, es_val fun env w S vs hl => ⟨_, r_mk (xs := cs.toList) rfl w, one_of ?_⟩⟩
    exact ⟨_, rfl, by simp [h1], h2 P vs env S w fun x hx => lk_of hl (by simpa [Op.operands] using hx)⟩
  · next _ _ _ f' x hf hc =>
    split at h
    · next o t hx =>
      obtain rfl : first = #[x] := by cases first; simp_all
      have h1 := (caps_s hc).1
      obtain rfl : cs = #[] := by
        cases cs
        simp only [List.length_nil] at h1
        simp [List.eq_nil_of_length_eq_zero h1.symm]
      refine ⟨_, h, es_val fun env w S vs hl => ⟨.func (.func f') #[ev env x] #[], pv_run (by simp [pv]) w, one_of ?_⟩⟩
      obtain ⟨h3, h4⟩ := opv_hold hx (lk_of hl (by simp [Op.operands]))
      exact ⟨by rw [h3], h4⟩
    · cases h
  · cases h
end
end
section
section
variable {P : Program} {cf : Cf} {cx σ : Sg} {F : List MF} {vs : Nat → Value} {env : Env} {S : Nat → Prop} {w : World} {R : Type} {r : R}
  {d : Option Tmp} {ty t yt : TypeId} {pos : String} {aft : Array Edge} {g : Option (Nat × Bool)} {x y : Operand}
theorem pair_cast {A B C : Type} (h : B = C) (p : (A × B) = (A × C)) (x : A × B) : (p ▸ x : A × C) = (x.1, h ▸ x.2) := by subst h; rfl
theorem St.sub' {we : World} {Se : Nat → Prop} {ms : List MF} {Γ Δ : List FF} {w : World} (h : St we Se ms Γ w) (hs : ∀ f ∈ Δ, f ∈ Γ) : St we Se ms Δ w := by grind [St.weak, all_mem]
theorem rs_d {t : Ty} {n : RM} {r : List RM} (x : RsD (.d t :: n :: r)) : (RsD_ty (.d t :: n :: r) ▸ x : CsD ((RM.d t :: n :: r).map RM.ty)) = ((x.1, RsD_ty (n :: r) ▸ x.2) : t.D × CsD ((n :: r).map RM.ty)) :=
  pair_cast (A := t.D) (RsD_ty (n :: r)) (RsD_ty (.d t :: n :: r)) x
theorem rs_o {t : Ty} {E : TypeId} {n : RM} {r : List RM} (x : RsD (.own t E :: n :: r)) : (RsD_ty (.own t E :: n :: r) ▸ x : CsD ((RM.own t E :: n :: r).map RM.ty)) = ((x.1, RsD_ty (n :: r) ▸ x.2) : (Ty.l t).D × CsD ((n :: r).map RM.ty)) :=
  pair_cast (A := List t.D) (RsD_ty (n :: r)) (RsD_ty (.own t E :: n :: r)) x
theorem fz_rs {we : World} {Se : Nat → Prop} : ∀ {rs : List RM} {x : RsD rs} {us : List Value} {F : List MF} {G : List FF} {w : World}, noV rs = true →
    St we Se (resMs rs x us ++ F) (resFs rs x us ++ G) w → St we Se F (csF (rs.map RM.ty) (RsD_ty rs ▸ x) us ++ G) w
  | [], _, _, _, _, _, _, h => h
  | [.d t], x, us, F, G, w, _, h => h
  | .var _ _ :: _, _, _, _, _, _, hv, _ => by cases hv
  | [.own t E], x, us, F, G, w, _, h => by
    have h : St we Se (mO t.rep E (us.headD undef) x :: F) G w := h
    exact fz_own 0 h rfl
  | .d t :: n :: r, x, us, F, G, w, hv, h => by
    rw [rs_d]
    have h : St we Se (resMs (n :: r) x.2 us.tail ++ F) (resFs (n :: r) x.2 us.tail ++ (fV t.rep x.1 (us.headD undef) :: G)) w := St.sub' (by simpa [resMs, resFs, rmM, rmF] using h) (by simp; rintro f (h | h | h) <;> simp [h])
    have := fz_rs (rs := n :: r) hv h
    exact St.sub' this (by
      intro f hf
      rcases List.mem_append.1 hf with hf | hf
      · rcases List.mem_cons.1 hf with rfl | hf
        · exact List.mem_append.2 (.inr (List.mem_cons_self ..))
        · exact List.mem_append.2 (.inl hf)
      · exact List.mem_append.2 (.inr (List.mem_cons_of_mem _ hf)))
  | .own t E :: n :: r, x, us, F, G, w, hv, h => by
    rw [rs_o]
    have h : St we Se (mO t.rep E (us.headD undef) x.1 :: (resMs (n :: r) x.2 us.tail ++ F)) (resFs (n :: r) x.2 us.tail ++ G) w := h
    have h := fz_own 0 h rfl
    have h : St we Se (resMs (n :: r) x.2 us.tail ++ F) (resFs (n :: r) x.2 us.tail ++ (fV (eS t.rep) x.1 (us.headD undef) :: G)) w := St.sub' h (by simp; rintro f (h | h | h) <;> simp [h])
    have := fz_rs (rs := n :: r) hv h
    exact St.sub' this (by
      intro f hf
      rcases List.mem_append.1 hf with hf | hf
      · rcases List.mem_cons.1 hf with rfl | hf
        · exact List.mem_append.2 (.inr (List.mem_cons_self ..))
        · exact List.mem_append.2 (.inl hf)
      · exact List.mem_append.2 (.inr (List.mem_cons_of_mem _ hf)))
theorem resX_T : ∀ {rs : List RM} {x : RsD rs} {i : Nat}, noV rs = true → resX rs x i = resT (rs.map RM.ty) (RsD_ty rs ▸ x) i
  | [], _, _, _ => rfl
  | [.d _], _, _, _ => rfl
  | [.own _ _], _, _, _ => rfl
  | .var _ _ :: _, _, _, h => by cases h
  | .d t :: n :: r, x, i, h => by rw [rs_d]; show (i, Dv.d t x.1) :: resX (n :: r) x.2 (i + 1) = _; rw [resX_T (rs := n :: r) h]; rfl
  | .own t E :: n :: r, x, i, h => by rw [rs_o]; show (i, Dv.d (.l t) x.1) :: resX (n :: r) x.2 (i + 1) = _; rw [resX_T (rs := n :: r) h]; rfl
theorem oneRes_T : ∀ rs : List RM, oneRes rs = oneT (rs.map RM.ty)
  | [] => rfl
  | [_] => rfl
  | _ :: _ :: _ => rfl
theorem resT_s : ∀ {ts : List Ty} {x : CsD ts} {i : Nat} {us : List Value}, All S (csF ts x us) w → us.length = ts.length → ∀ e ∈ resT ts x i, ∃ j u, e.1 = i + j ∧ us[j]? = some u ∧ (hold P vs e.2 u).p S w
  | [], _, _, _, _, _, e, he => absurd he List.not_mem_nil
  | [t], x, i, [], h, hl, e, he => by cases hl
  | [t], x, i, u :: us, h, hl, e, he => by
    obtain rfl := List.mem_singleton.1 he
    exact ⟨0, u, rfl, rfl, h.1⟩
  | t :: s :: r, x, i, [], h, hl, e, he => by cases hl
  | t :: s :: r, x, i, u :: us, h, hl, e, he => by
    rcases List.mem_cons.1 he with rfl | he
    · exact ⟨0, u, rfl, rfl, h.1⟩
    · obtain ⟨j, v, h1, h2, h3⟩ := resT_s (i := i + 1) h.2 (by simpa using hl) e he
      exact ⟨j + 1, v, by omega, by simpa using h2, h3⟩
theorem res_hold : ∀ {ts : List Ty} {x : CsD ts} {us : List Value}, All S (csF ts x us) w → us.length = ts.length → ∀ e ∈ resT ts x (bif oneT ts then 0 else 1), (holdC P vs e.2 (oneOr us) e.1).p S w
  | [], _, _, _, _, e, he => absurd he List.not_mem_nil
  | [t], x, [], _, hl, _, _ => by cases hl
  | [t], x, [v], h, hl, e, he => by
    obtain rfl := List.mem_singleton.1 he
    exact h.1
  | [t], x, _ :: _ :: _, _, hl, _, _ => by simp at hl
  | t :: s :: q, x, [], _, hl, _, _ => by cases hl
  | t :: s :: q, x, [_], _, hl, _, _ => by simp at hl
  | t :: s :: q, x, v :: v' :: us, h, hl, e, he => by
    obtain ⟨j, u, h1, h2, h3⟩ := resT_s (P := P) (vs := vs) h hl e he
    obtain ⟨i, dv⟩ := e
    simp only [oneT, cond_false] at h1
    obtain rfl : i = j + 1 := by omega
    exact ⟨(v :: v' :: us).toArray, u, rfl, by simpa using h2, h3⟩
theorem sigOf_s : ∀ {cs : List Sig} {f : FuncId} {s : Sig}, sigOf cs f = some s → s ∈ cs ∧ s.f = f ∧ noOwn s.dom = true ∧ s.bk = 0 ∧ noV s.cod = true
  | c :: cs, f, s, h => by
    unfold sigOf at h
    cases hb : Nat.beq c.f f && (noOwn c.dom && (Nat.beq c.bk 0 && noV c.cod)) <;> rw [hb] at h
    · obtain ⟨h1, h2⟩ := sigOf_s h; exact ⟨List.mem_cons_of_mem _ h1, h2⟩
    · simp only [cond_true, Option.some.injEq] at h
      subst h
      rw [Bool.and_eq_true, Bool.and_eq_true, Bool.and_eq_true] at hb
      exact ⟨List.mem_cons_self .., beq_t hb.1, hb.2.1, beq_t hb.2.2.1, hb.2.2.2⟩
theorem argMs_no : ∀ {dom : List AM} {x : AsD dom} {us : List Value}, noOwn dom = true → argMs dom x us = []
  | [], _, _, _ => rfl
  | .d _ :: r, x, us, h => argMs_no (dom := r) (x := x.2) (us := us.tail) h
  | .q _ :: r, x, us, h => argMs_no (dom := r) (x := x.2) (us := us.tail) h
  | .fn _ _ :: r, x, us, h => argMs_no (dom := r) (x := x.2) (us := us.tail) h
  | .own _ _ :: _, _, _, h => by cases h
  | .var _ _ :: _, _, _, h => by cases h
theorem feedC_s : ∀ {full : List AM} {cs : List PD} {z : AsD full}, feedC full cs = some z → cs.length = full.length ∧ ∀ {S : Nat → Prop} {w : World} {cvs : List Value}, cvs.length = cs.length → All S (capF cs cvs) w → All S (argFs P full z cvs) w
  | [], [], _, _ => ⟨rfl, fun _ _ => trivial⟩
  | .q t :: r, c :: cs, z, h => by
    simp only [feedC] at h
    obtain ⟨e, h⟩ := cast_s h
    subst e
    split at h
    · next z' hz =>
      obtain rfl := Option.some.inj h
      obtain ⟨h1, h2⟩ := feedC_s hz
      refine ⟨by simp [h1], fun {S w cvs} hl ha => ?_⟩
      cases cvs with
      | nil => cases hl
      | cons v cvs => exact ⟨ha.1, h2 (by simpa using hl) ha.2⟩
    · cases h
  | [], _ :: _, _, h => by simp [feedC] at h
  | .q _ :: _, [], _, h => by simp [feedC] at h
  | .d _ :: _, _, _, h => by simp [feedC] at h
  | .own _ _ :: _, _, _, h => by simp [feedC] at h
  | .var _ _ :: _, _, _, h => by simp [feedC] at h
  | .fn _ _ :: _, _, _, h => by simp [feedC] at h
theorem feed_s : ∀ {full : List AM} {dom : List Ty} {x : TsD dom} {cs : List PD} {z : AsD full}, feed full dom x cs = some z → dom.length + cs.length = full.length ∧
    ∀ {S : Nat → Prop} {w : World} {us cvs : List Value}, us.length = dom.length → cvs.length = cs.length → All S (tsF dom x us) w → All S (capF cs cvs) w → All S (argFs P full z (us ++ cvs)) w
  | full, [], x, cs, z, h => by
    have h : feedC full cs = some z := by cases full <;> (try cases ‹AM›) <;> simpa [feed] using h
    obtain ⟨h1, h2⟩ := feedC_s (P := P) h
    refine ⟨by simp [h1], fun {S w us cvs} hl hl' _ ha => ?_⟩
    obtain rfl := List.length_eq_zero_iff.1 hl
    exact h2 hl' ha
  | .d t :: r, s :: dom, x, cs, z, h => by
    simp only [feed] at h
    obtain ⟨e, h⟩ := cast_s h
    subst e
    split at h
    · next z' hz =>
      obtain rfl := Option.some.inj h
      obtain ⟨h1, h2⟩ := feed_s hz
      refine ⟨by simp; omega, fun {S w us cvs} hl hl' ht ha => ?_⟩
      cases us with
      | nil => cases hl
      | cons v us => exact ⟨ht.1, h2 (by simpa using hl) hl' ht.2 ha⟩
    · cases h
  | [], _ :: _, _, _, _, h => by simp [feed] at h
  | .q _ :: _, _ :: _, _, _, _, h => by simp [feed] at h
  | .own _ _ :: _, _ :: _, _, _, _, h => by simp [feed] at h
  | .var _ _ :: _, _ :: _, _, _, _, h => by simp [feed] at h
  | .fn _ _ :: _, _ :: _, _, _, _, h => by simp [feed] at h
theorem opt_cast {A B : Type} (h : A = B) {o : Option A} {r : B} (ho : (h ▸ o : Option B) = some r) : ∃ r' : A, o = some r' ∧ (h ▸ r' : B) = r := by
  subst h; exact ⟨r, ho, rfl⟩
theorem sig_frozen {s : Sig} (hs : SigOK P s) (hn : noOwn s.dom = true) (hk : s.bk = 0) (hv : noV s.cod = true) {z : AsD s.dom} {q : RsD s.cod} (hz : s.M z = some q) {us : List Value} (hl : us.length = s.dom.length) :
    Fn P s.f us.toArray (argFs P s.dom z us) oneOr (fun us => csF (s.cod.map RM.ty) (RsD_ty s.cod ▸ q) us) (fun us => us.length = s.cod.length) := by
  have h := hs.plain hk hz hl
  rw [argMs_no hn] at h
  refine FnG.frozen h fun u w' we Se hst => ?_
  have := fz_rs (rs := s.cod) (x := q) (us := u) (F := []) (G := []) hv (by simpa using hst)
  simpa using this
theorem Fn.weakΓ {U : Type} {f : FuncId} {args : Array Value} {Γ Γ' : List FF} {val : U → Value} {facts : U → List FF} {ok : U → Prop} (h : Fn P f args Γ val facts ok) (hs : ∀ S w, All S Γ' w → All S Γ w) : Fn P f args Γ' val facts ok :=
  fun w Se h1 h2 => h w Se h1 (hs Se w h2)
theorem asF_s (hC : ∀ s ∈ cf.cs, SigOK P s) {v : Option Dv} {dom cod : List Ty} {k : (TsD dom → Option (CsD cod)) → Option R} (h : asF cf σ v dom cod k = some r) :
    ∃ g, k g = some r ∧ ∀ vs S w (dv : Dv) u, v = some dv → (hold P vs dv u).p S w → (fnF P dom cod g u).p S w := by
  unfold asF at h
  split at h
  · next f c =>
    split at h
    · next s hs =>
      obtain ⟨h1, h2, h3, h4, h5⟩ := sigOf_s hs
      have hok := hC s h1
      split at h
      · next hsame _ =>
        subst hsame
        refine ⟨_, h, fun vs S w dv u hd hh => ?_⟩
        cases hd
        obtain ⟨cs, hu, hcl, hca⟩ := hh
        refine ⟨f, cs, capF c cs, hu, ⟨h2 ▸ hok.1, fun x q hx us hl => ?_⟩, hca⟩
        simp only at hx
        split at hx
        · next z hz =>
          obtain ⟨q', hq1, hq2⟩ := opt_cast _ hx
          obtain ⟨hlen, hfacts⟩ := feed_s (P := P) hz
          have hfn := sig_frozen hok h3 h4 h5 hq1 (us := us ++ cs) (by simp; omega)
          rw [h2] at hfn
          subst hq2
          refine (hfn.weakΓ fun S w ha => hfacts hl hcl (All.left ha) (All.right ha)).ok_mono fun us hus => by simpa using hus
        · cases hx
      · cases h
    · cases h
  · next d' c' g' =>
    split at h
    · next hd hc _ _ =>
      subst hd; subst hc
      exact ⟨_, h, fun vs S w dv u hdv hh => by cases hdv; exact hh⟩
    · cases h
  · cases h
end
end
section
def EXok (P : Program) (ex : List (Nat × Bool)) : Prop := ∀ f b, fndA ex f = some b → ∃ fn, P.funcs[f]? = some fn ∧ (fn.name == "runtime.NumGoroutine") = false ∧ fn.body = none ∧ (Extern.findNext fn).isNone = true ∧
  (b = true → Extern.find fn = some (fun args => do
      let (x, y, c) ← Extern.MathBitsCarry.three "Add64" args
      pure (Extern.MathBitsCarry.pair ((x + y + c) % Extern.MathBitsCarry.m64) ((x + y + c) / Extern.MathBitsCarry.m64)))) ∧
  (b = false → Extern.find fn = some (fun args => do
      let (x, y, b) ← Extern.MathBitsCarry.three "Sub64" args
      pure (Extern.MathBitsCarry.pair ((x + Extern.MathBitsCarry.m64 - y - b) % Extern.MathBitsCarry.m64) (if x < y + b then 1 else 0))))
section
variable {P : Program} {cf : Cf} {cx σ : Sg} {F : List MF} {vs : Nat → Value} {env : Env} {S : Nat → Prop} {w : World} {R : Type} {r : R}
  {d : Option Tmp} {ty t yt : TypeId} {pos : String} {aft : Array Edge} {g : Option (Nat × Bool)} {x y : Operand}
theorem exT_s {x y z : Nat} {k : List (Nat × Dv) → Option R} (h : exU true x y z k = some r) : z ≤ 1 ∧ ∃ p q : Nat, p = (x + y + z) % 18446744073709551616 ∧ q = (x + y + z) / 18446744073709551616 ∧ k [(1, .d .u p), (2, .d .u q)] = some r := by
  obtain ⟨h1, h⟩ := ck_s h
  obtain ⟨p, hp, h⟩ := nm_s h
  obtain ⟨q, hq, h⟩ := nm_s h
  exact ⟨h1, p, q, hp, hq, h⟩
theorem exF_s {x y z : Nat} {k : List (Nat × Dv) → Option R} (h : exU false x y z k = some r) : z ≤ 1 ∧ ∃ p q : Nat, p = (x + 18446744073709551616 - y - z) % 18446744073709551616 ∧ q = (if x < y + z then 1 else 0) ∧ k [(1, .d .u p), (2, .d .u q)] = some r := by
  obtain ⟨h1, h⟩ := ck_s h
  obtain ⟨p, hp, h⟩ := nm_s h
  obtain ⟨q, hq, h⟩ := nm_s h
  exact ⟨h1, p, q, hp, hq, h⟩
theorem argsE_s (hC : ∀ s ∈ cf.cs, SigOK P s) : ∀ {dom : List AM} {xs : List Operand} {cs : List PD} {k : AsD dom → Option R}, argsE cf cx σ dom xs cs k = some r →
    ∃ z, k z = some r ∧ xs.length + cs.length = dom.length ∧ ∀ vs env S w, (∀ x ∈ xs, LkO P vs env S w cx σ x) → ∀ cvs : List Value, cvs.length = cs.length → All S (capF cs cvs) w → All S (argFs P dom z (xs.map (ev env) ++ cvs)) w
  | [], [], [], k, h => ⟨(), h, rfl, fun _ _ _ _ _ _ _ _ => trivial⟩
  | .q t :: dom, [], c :: cs, k, h => by
    simp only [argsE] at h
    obtain ⟨e, h⟩ := cast_s h
    subst e
    obtain ⟨z, h1, h2, h3⟩ := argsE_s hC h
    refine ⟨_, h1, by simp at h2 ⊢; omega, fun vs env S w hl cvs hcl hca => ?_⟩
    cases cvs with
    | nil => cases hcl
    | cons v cvs => exact ⟨hca.1, h3 vs env S w hl cvs (by simpa using hcl) hca.2⟩
  | .d t :: dom, x :: xs, cs, k, h => by
    simp only [argsE] at h
    obtain ⟨y, h, hy⟩ := asO_s h
    obtain ⟨z, h1, h2, h3⟩ := argsE_s hC h
    exact ⟨_, h1, by simp at h2 ⊢; omega, fun vs env S w hl cvs hcl hca => ⟨hy P vs env S w (hl x (List.mem_cons_self ..)), h3 vs env S w (fun z hz => hl z (List.mem_cons_of_mem _ hz)) cvs hcl hca⟩⟩
  | .q t :: dom, x :: xs, cs, k, h => by
    simp only [argsE] at h
    split at h
    · next s y hx =>
      obtain ⟨e, h⟩ := cast_s h
      subst e
      obtain ⟨z, h1, h2, h3⟩ := argsE_s hC h
      exact ⟨_, h1, by simp at h2 ⊢; omega, fun vs env S w hl cvs hcl hca => ⟨opv_hold hx (hl x (List.mem_cons_self ..)), h3 vs env S w (fun z hz => hl z (List.mem_cons_of_mem _ hz)) cvs hcl hca⟩⟩
    · cases h
  | .fn dom' cod :: dom, x :: xs, cs, k, h => by
    simp only [argsE] at h
    obtain ⟨f, h, hf⟩ := asF_s hC h
    obtain ⟨z, h1, h2, h3⟩ := argsE_s hC h
    refine ⟨_, h1, by simp at h2 ⊢; omega, fun vs env S w hl cvs hcl hca => ⟨?_, h3 vs env S w (fun z hz => hl z (List.mem_cons_of_mem _ hz)) cvs hcl hca⟩⟩
    cases hv : opv cx σ x with
    | none => rename_i h0; rw [hv] at h0; simp [asF] at h0
    | some v => exact hf vs S w v _ hv (opv_hold hv (hl x (List.mem_cons_self ..)))
  | [], _ :: _, _, _, h => by simp [argsE] at h
  | [], [], _ :: _, _, h => by simp [argsE] at h
  | .d _ :: _, [], _, _, h => by simp [argsE] at h
  | .own _ _ :: _, _, _, _, h => by simp [argsE] at h
  | .fn _ _ :: _, [], _, _, h => by simp [argsE] at h
  | .q _ :: _, [], [], _, h => by simp [argsE] at h
theorem argsT_s : ∀ {dom : List Ty} {xs : List Operand} {k : TsD dom → Option R}, argsT cx σ dom xs k = some r →
    ∃ z, k z = some r ∧ xs.length = dom.length ∧ ∀ (P : Program) vs env S w, (∀ x ∈ xs, LkO P vs env S w cx σ x) → All S (tsF dom z (xs.map (ev env))) w
  | [], [], k, h => ⟨(), h, rfl, fun _ _ _ _ _ _ => trivial⟩
  | t :: dom, x :: xs, k, h => by
    simp only [argsT] at h
    obtain ⟨y, h, hy⟩ := asO_s h
    obtain ⟨z, h1, h2, h3⟩ := argsT_s h
    exact ⟨_, h1, by simp [h2], fun P vs env S w hl => ⟨hy P vs env S w (hl x (List.mem_cons_self ..)), h3 P vs env S w (fun z hz => hl z (List.mem_cons_of_mem _ hz))⟩⟩
  | [], _ :: _, _, h => by simp [argsT] at h
  | _ :: _, [], _, h => by simp [argsT] at h
theorem e_call (hC : ∀ s ∈ cf.cs, SigOK P s) (hX : EXok P cf.ex) {f : Operand} {ags : Array Operand} {ts : Array TypeId} {k : List (Nat × Dv) → Option R} (h : eCall cf cx σ f ags.toList k = some r) :
    ∃ l, k l = some r ∧ ES P ⟨d, .call ⟨.value f, ags, ts⟩, ty, pos, aft, g⟩ cx σ F l := by
  have hf : ∀ {vs env S w}, (∀ t' ∈ tmpsOf (.call ⟨.value f, ags, ts⟩), Lk P vs env S w cx σ t') → LkO P vs env S w cx σ f := fun hl => lk_of hl (by simp [Op.operands, Call.operands])
  have ha : ∀ {vs env S w}, (∀ t' ∈ tmpsOf (.call ⟨.value f, ags, ts⟩), Lk P vs env S w cx σ t') → ∀ x ∈ ags.toList, LkO P vs env S w cx σ x := fun hl x hx => lk_of hl (by
    simp only [Op.operands, Call.operands, Array.toList_append, List.mem_append]; exact .inr hx)
  unfold eCall at h
  split at h
  · next f0 cs hfv =>
    split at h
    · next s hs =>
      obtain ⟨h1, h2, h3, h4, h5⟩ := sigOf_s hs
      have hok := hC s h1
      obtain ⟨z, h, hlen, hz⟩ := argsE_s hC h
      obtain ⟨q, hq, h⟩ := bd_s h
      refine ⟨_, h, es_oe fun env w S vs hM hl => ?_⟩
      obtain ⟨cvs, hv, hcl, hca⟩ := opv_hold hfv (hf hl)
      have hfn := sig_frozen hok h3 h4 h5 hq (us := ags.toList.map (ev env) ++ cvs) (by simp at hlen ⊢; omega)
      rw [h2] at hfn
      refine ⟨_, _, _, _, argFs P s.dom z (ags.toList.map (ev env) ++ cvs), [], oe_callv (aas := ags.toList) (h2 ▸ hok.1) hv hfn rfl (fun S w h => h), trivial, hz vs env S w (ha hl) cvs hcl hca, fun us w' hus hfs => ?_⟩
      unfold resD
      rw [resX_T h5, oneRes_T]
      exact res_hold hfs (by simpa using hus)
    · split at h
      · next _ _ _ b x y z hb hags =>
        obtain rfl : ags = #[x, y, z] := by cases ags; simp_all
        obtain ⟨hfo, h⟩ := grd_s h
        cases f with
        | func f1 =>
          simp only [opv, Option.some.injEq, Dv.fn.injEq] at hfv
          obtain ⟨rfl, _⟩ := hfv
          obtain ⟨fn, e1, e2, e3, e4, e5, e6⟩ := hX _ _ hb
          unfold exD at h
          split at h
          · next x' y' z' hx hy hz =>
            cases b
            · obtain ⟨hz1, p, q, hp, hq, h⟩ := exF_s h
              refine ⟨_, h, es_val fun env w S vs hl => ?_⟩
              have hx' := pd_u hx (ha hl x (by simp)); have hy' := pd_u hy (ha hl y (by simp)); have hz' := pd_u hz (ha hl z (by simp))
              refine ⟨_, v_2 (r_sub64 e1 e2 e3 e4 (e6 rfl) hx'.1 hy'.1 hz'.1 hz1) hp hq w, fun e he => ?_⟩
              rcases List.mem_cons.1 he with rfl | he
              · exact ⟨_, _, rfl, rfl, u64_fV (eq_mod_r hp)⟩
              · obtain rfl := List.mem_singleton.1 he
                exact ⟨_, _, rfl, rfl, u64_fV (sub64_r hx'.2 hy'.2 hz1 hq)⟩
            · obtain ⟨hz1, p, q, hp, hq, h⟩ := exT_s h
              refine ⟨_, h, es_val fun env w S vs hl => ?_⟩
              have hx' := pd_u hx (ha hl x (by simp)); have hy' := pd_u hy (ha hl y (by simp)); have hz' := pd_u hz (ha hl z (by simp))
              refine ⟨_, v_2 (r_add64 e1 e2 e3 e4 (e5 rfl) hx'.1 hy'.1 hz'.1 hz1) hp hq w, fun e he => ?_⟩
              rcases List.mem_cons.1 he with rfl | he
              · exact ⟨_, _, rfl, rfl, u64_fV (eq_mod_r hp)⟩
              · obtain rfl := List.mem_singleton.1 he
                exact ⟨_, _, rfl, rfl, u64_fV (add64_r hx'.2 hy'.2 hz1 hq)⟩
          · cases h
        | _ => simp [isFn] at hfo
      · cases h
  · next dom cod g' hfv =>
    obtain ⟨z, h, hlen, hz⟩ := argsT_s h
    obtain ⟨q, hq, h⟩ := bd_s h
    refine ⟨_, h, es_oe fun env w S vs hM hl => ?_⟩
    obtain ⟨fid, caps, FG, hv, ⟨hb, hsp⟩, hFG⟩ := opv_hold hfv (hf hl)
    have hfn := hsp z q hq (ags.toList.map (ev env)) (by simpa using hlen)
    exact ⟨_, _, _, _, tsF dom z (ags.toList.map (ev env)) ++ FG, [], oe_callv (aas := ags.toList) hb hv hfn rfl (fun S w h => h), trivial, All.append (hz P vs env S w (ha hl)) hFG, fun us w' hus hfs => res_hold hfs hus⟩
  · cases h
theorem r_ifc {fs : Array Field} {v : Value} (hu : P.underlying t = some (.struct fs)) (hv : ev env x = v) (w : World) : (execOp (ev env) ⟨d, .makeInterface t x, ty, pos, aft, g⟩).run P w = .ok (.value (.iface t v)) w := by
  simp [execOp, Instr.makeInterface, run_underlying hu, hv]
theorem e_ifc (hT : TTok P cf.tt) {k : List (Nat × Dv) → Option R} (h : eIfc cf cx σ t x k = some r) : ∃ l, k l = some r ∧ ES P ⟨d, .makeInterface t x, ty, pos, aft, g⟩ cx σ F l := by
  unfold eIfc at h
  split at h
  · next B s y ht hx =>
    obtain ⟨hse, h⟩ := cast_s h
    subst hse
    refine ⟨_, h, es_val fun env w S vs hl => ?_⟩
    obtain ⟨cs, hv, hp⟩ := opv_hold hx (lk_of hl (by simp [Op.operands]))
    obtain ⟨_, _, ⟨fs, hfs, _⟩, _⟩ := (hT _ _ ht).2.2.2
    obtain rfl : cs = [.int .i64 y] := hp.1
    exact ⟨_, r_ifc hfs hv w, one_of (by exact rfl)⟩
  · cases h
theorem e_all0 (hT : TTok P cf.tt) (hL : ELok P cf.tt) (hC : ∀ s ∈ cf.cs, SigOK P s) (hX : EXok P cf.ex) {op : Op} {k : List (Nat × Dv) → Option R} (h : eOp0 cf cx σ op k = some r) : ∃ l, k l = some r ∧ ES P ⟨d, op, ty, pos, aft, g⟩ cx σ F l := by
  unfold eOp0 at h
  split at h
  · exact e_move (.inl rfl) h
  · exact e_move (.inr rfl) h
  · exact e_ext h
  · exact e_pick h
  · exact e_not h
  · exact e_neg h
  · next bo t x y yt =>
    cases hi : isNi y <;> rw [hi] at h
    · cases hn : isNp (opv cx σ y) <;> rw [hn] at h
      · exact bop h (tk_bool hT)
      · obtain ⟨hp, h⟩ := grd_s h
        exact bopP hT hp hn h
    · obtain ⟨hp, h⟩ := grd_s h
      exact bopE hT hp hi h
  · exact e_nil h
  · exact e_cvt hT h
  · exact e_load hT h
  · exact e_index hT hL h
  · exact e_field hT h
  · exact e_fieldV hT h
  · exact e_slice hT hL h
  · exact e_idx hT h
  · exact e_box h
  · exact e_build hT h
  · exact e_ifc hT h
  · exact e_lit hT hL h
  · exact e_clo h
  · exact e_len hT h
  · exact e_mm (b := true) h
  · exact e_mm (b := false) h
  · exact e_call hC hX h
  · cases h
end
end
section
def CSigOK (P : Program) (s : CSig) : Prop :=
  fnB P s.f = true ∧ ∀ (x : TsD s.dom) (vs : List Value), vs.length = s.dom.length → Fn P s.f vs.toArray (tsF s.dom x vs) (fun v : Value => v) (fun v => [cloF s.g (s.mc x) v]) (fun _ => True)
def MSigOK (P : Program) (s : MSig) : Prop :=
  fnB P s.f = true ∧ ∀ xss ix r a p lo n xss', s.M xss ix r a p lo n = some xss' → ∀ (u hr hv : Value), (hvW u)[r]? = some hr → MvV (outW u) lo n hv → InR a → InR p →
    ∀ we Se F G w, St we Se (mMt s.t.rep s.E s.E1 u xss ix :: F) G w → Calls P s.f #[hr, .int .i64 a, .int .i64 p, hv] w fun e w' => ∃ v u', e = .returned v ∧ outW u' = outW u ∧ St we Se (mMt s.t.rep s.E s.E1 u' xss' ix :: F) G w'
def ISigOK (P : Program) (s : ISig) : Prop :=
  fnB P s.f = true ∧ ∀ (x : AsD s.dom) (X Y : Type) (mX : X → Value → MF) (mY : Y → Value → MF) (g : List s.t.D → X → Option (List s.t.D × (X ⊕ Y))) (x0 : X) (r : X ⊕ Y), s.M x g x0 = some r → ∀ (l : Nat) (vs : List Value), vs.length = s.dom.length → YSpec P l s.t.rep s.E mX mY g →
    ∀ u we Se F G w, St we Se (mX x0 u :: F) (argFs P s.dom x vs ++ G) w → Calls P s.f (.func (.yield l) #[] #[] :: vs).toArray w fun e w' => (∃ v, e = .returned v) ∧ ∃ u', St we Se (Sum.elim (fun x => mX x u') (fun y => mY y u') r :: F) G w'
def POK (P : Program) (p : PSig) : Prop :=
  fnB P p.s.f = true ∧ ∀ (x : AsD p.s.dom) (vs : List Value), vs.length = p.s.dom.length →
    (∀ r, p.M x = some (.inr r) → FnG P p.s.f vs.toArray (argMs p.s.dom x vs) (argFs P p.s.dom x vs) (outV p.s.bk p.s.cod.length) (fun us => resMs p.s.cod r us) (fun us => resFs p.s.cod r us) (outOk p.s.dom vs p.s.bk p.s.cod.length)) ∧
    ∀ q, p.M x = some (.inl q) → ∀ we Se F G w, St we Se (argMs p.s.dom x vs ++ F) (argFs P p.s.dom x vs ++ G) w → Calls P p.s.f vs.toArray w fun e w' => e = .panicked (chOf q) ∧ St we Se F G w'
def PSig.n (p : PSig) : Sig := ⟨p.s.f, p.s.dom, p.s.cod, fun x => (match p.M x with
  | some (.inr r) => some r
  | _ => none), p.s.bk⟩
theorem POK.n {P : Program} {p : PSig} (h : POK P p) : SigOK P p.n := ⟨h.1, fun x r hM vs hl => (h.2 x vs hl).1 r (by
  have hM : (match p.M x with
    | some (.inr r) => some r
    | _ => none) = some r := hM
  split at hM
  · next r' e => cases hM; exact e
  · cases hM)⟩
def vrD (s : VSig) (z : s.t.D) (ys : List s.s.D) (u : Value) : MF := moF (fun _ => u) (0, .vr s.t s.E s.s s.E1 s.n s.i z ys)
def VOK (P : Program) (s : VSig) : Prop :=
  fnB P s.f = true ∧ ∀ z ys x r, s.M z ys x = some r → ∀ (u : Value) (vs : List Value), vs.length = s.dom.length →
    ∀ we Se F G w, St we Se (vrD s z ys u :: F) (tsF s.dom x vs ++ G) w → Calls P s.f (outW u :: vs).toArray w fun e w' => ∃ v u', e = .returned v ∧ outW u' = outW u ∧ St we Se (vrD s r.1 r.2 u' :: F) G w'
structure XOK (P : Program) (cf : Cf) : Prop where
  ex : EXok P cf.ex
  cl : ∀ s ∈ cf.cl, CSigOK P s
  ms : ∀ s ∈ cf.ms, MSigOK P s
  is : ∀ s ∈ cf.is, ISigOK P s
  pp : P = Tryd.prog
  ps : ∀ p ∈ cf.ps, POK P p
  vg : ∀ s ∈ cf.vg, VOK P s
section
variable {P : Program} {cf : Cf} {cx σ : Sg} {F : List MF} {vs : Nat → Value} {env : Env} {S : Nat → Prop} {w : World} {R : Type} {r : R}
  {d : Option Tmp} {ty t yt : TypeId} {pos : String} {aft : Array Edge} {g : Option (Nat × Bool)} {x y : Operand}
theorem fndM_s {f : FuncId} : ∀ {l : List MSig} {s : MSig}, fndM l f = some s → s ∈ l ∧ s.f = f
  | c :: l, s, h => by
    unfold fndM at h
    cases hb : Nat.beq c.f f <;> rw [hb] at h
    · obtain ⟨h1, h2⟩ := fndM_s h; exact ⟨List.mem_cons_of_mem _ h1, h2⟩
    · simp only [cond_true, Option.some.injEq] at h
      subst h; exact ⟨List.mem_cons_self .., beq_t hb⟩
theorem fndV_s {f : FuncId} : ∀ {l : List VSig} {s : VSig}, fndV l f = some s → s ∈ l ∧ s.f = f
  | c :: l, s, h => by
    unfold fndV at h
    cases hb : Nat.beq c.f f <;> rw [hb] at h
    · obtain ⟨h1, h2⟩ := fndV_s h; exact ⟨List.mem_cons_of_mem _ h1, h2⟩
    · simp only [cond_true, Option.some.injEq] at h
      subst h; exact ⟨List.mem_cons_self .., beq_t hb⟩
theorem fndC_s {f : FuncId} : ∀ {l : List CSig} {s : CSig}, fndC l f = some s → s ∈ l ∧ s.f = f
  | c :: l, s, h => by
    unfold fndC at h
    cases hb : Nat.beq c.f f <;> rw [hb] at h
    · obtain ⟨h1, h2⟩ := fndC_s h; exact ⟨List.mem_cons_of_mem _ h1, h2⟩
    · simp only [cond_true, Option.some.injEq] at h
      subst h; exact ⟨List.mem_cons_self .., beq_t hb⟩
theorem fndI_s {f : FuncId} : ∀ {l : List ISig} {s : ISig}, fndI l f = some s → s ∈ l ∧ s.f = f
  | c :: l, s, h => by
    unfold fndI at h
    cases hb : Nat.beq c.f f <;> rw [hb] at h
    · obtain ⟨h1, h2⟩ := fndI_s h; exact ⟨List.mem_cons_of_mem _ h1, h2⟩
    · simp only [cond_true, Option.some.injEq] at h
      subst h; exact ⟨List.mem_cons_self .., beq_t hb⟩
theorem mt_s {α : Type} {e : ERep α} {E E1 : TypeId} {u : Value} {xss : List (List α)} {ix : List Nat} (h : (mMt e E E1 u xss ix).p S w) : (hvW u).length = xss.length ∧ (mO (eHd (hvW u)) E (outW u) ix).p S w ∧ AllM S (mRows e E1 (hvW u) xss) w := ⟨h.1.1, h.1.2.1, h.1.2.2⟩
theorem mt_row {α : Type} {e : ERep α} {E E1 : TypeId} {u v : Value} {xss : List (List α)} {ix : List Nat} {r : Nat} (h : (mMt e E E1 u xss ix).p S w) (hr : (hvW u)[r]? = some v) : (mO e E1 v (rowAt xss r)).p S w ∧ r < xss.length := by
  obtain ⟨h1, _, h3⟩ := mt_s h
  have hl := (List.getElem?_eq_some_iff.1 hr).1
  have h4 : xss[r]? = some (rowAt xss r) := by
    unfold rowAt
    rw [List.getD_eq_getElem?_getD, List.getElem?_eq_getElem (by omega)]; rfl
  exact ⟨AllM.get h3 (mRows_get hr h4), by omega⟩
theorem co_index (hT : TTok P cf.tt) (hL : ELok P cf.tt) {k : List (Nat × Dv) → Option R} (h : coIndex cf cx σ t x y k = some r) : ∃ l, k l = some r ∧ ES P ⟨d, .indexAddr t x y, ty, pos, aft, g⟩ cx σ F l := by
  have hx : ∀ {vs env S w}, (∀ t' ∈ tmpsOf (.indexAddr t x y), Lk P vs env S w cx σ t') → LkO P vs env S w cx σ x := fun hl => lk_of hl (by simp [Op.operands])
  have hy : ∀ {vs env S w}, (∀ t' ∈ tmpsOf (.indexAddr t x y), Lk P vs env S w cx σ t') → LkO P vs env S w cx σ y := fun hl => lk_of hl (by simp [Op.operands])
  unfold coIndex at h
  split at h
  · next e E B o ht hxv =>
    split at h
    · next s E' E1 xss ix ho =>
      obtain ⟨bytes, zero, het⟩ := ty_el hT hL ht
      obtain ⟨j, hj, h, hjv⟩ := at_s h
      refine ⟨_, h, ?_⟩
      intro env w S vs hS hM hl
      obtain ⟨ik, hik⟩ := hjv P vs env S w (hy hl)
      have hm : (mMt s.rep E' E1 (vs o) xss ix).p S w := geto_M hM ho
      obtain ⟨b, cap, hv, _⟩ := own_open (mt_s hm).2.1 (Nat.lt_of_le_of_lt (Nat.zero_le _) hj)
      have hxe : ev env x = outW (vs o) := opv_hold hxv (hx hl)
      exact OpR.of_value (r_index (tk_sl hT ht) het (hxe.trans hv) hik hj w) ⟨Keeps.refl _ _, one_of ⟨b, _, _, hv, hj, rfl⟩⟩
    · cases h
  · next e E B o lo n ht hxv =>
    split at h
    · next s E' E1 xss ix ho =>
      obtain ⟨bytes, zero, het⟩ := ty_el hT hL ht
      obtain ⟨j, hj, h, hjv⟩ := at_s h
      refine ⟨_, h, ?_⟩
      intro env w S vs hS hM hl
      obtain ⟨ik, hik⟩ := hjv P vs env S w (hy hl)
      rcases (opv_hold hxv (hx hl) : MvV _ _ _ _).old with ⟨b, m, cap, c, q1, q2, q3, q4, q5⟩ | ⟨q1, _⟩
      · refine OpR.of_value (r_index (tk_sl hT ht) het q5 hik hj w) ⟨Keeps.refl _ _, one_of ⟨b, _, _, q1, by omega, ?_⟩⟩
        show Value.pointer (some ⟨b, 0 + lo * 1 + j * 1, none⟩) = Value.pointer (some ⟨b, 0 + (lo + j) * 1, none⟩)
        rw [Nat.add_mul, Nat.add_assoc]
      · omega
    · cases h
  · next e E B o p ht hxv =>
    split at h
    · next s E' E1 xss ix ho =>
      obtain ⟨hse, h1⟩ := cast_s h
      cases hse
      obtain ⟨bytes, zero, het⟩ := ty_el hT hL ht
      obtain ⟨j, hj, h, hjv⟩ := at_s h1
      refine ⟨_, h, ?_⟩
      intro env w S vs hS hM hl
      obtain ⟨ik, hik⟩ := hjv P vs env S w (hy hl)
      have hm : (mMt e.rep E' E1 (vs o) xss ix).p S w := geto_M hM ho
      have hxe : (hvW (vs o))[p]? = some (ev env x) := opv_hold hxv (hx hl)
      obtain ⟨b, cap, hv, _⟩ := own_open (mt_row hm hxe).1 (Nat.lt_of_le_of_lt (Nat.zero_le _) hj)
      refine OpR.of_value (r_index (tk_sl hT ht) het hv hik hj w) ⟨Keeps.refl _ _, one_of ⟨fun z => Sub.self e.rep z, b, _, _, by rw [← hv]; exact hxe, hj, by simp [Fl.self]⟩⟩
    · cases h
  · cases h
theorem vr_s {α β : Type} {q : Prop} {e : ERep α} {E off : Nat} {nl : α → α} {s : ERep β} {E1 : TypeId} {u : Value} {z : α} {xs : List β} (h : (mVr q e E off nl s E1 u z xs).p S w) :
    (hvW u).length = 1 ∧ q ∧ ∃ b, outW u = .pointer (some ⟨b, 0, none⟩) ∧ (mB (cHo e off nl (hvW u)) E b (z, 0)).p S w := ⟨h.1.1.1, h.1.1.2, h.1.2.1⟩
theorem vh_s {α : Type} {q : Prop} {e : ERep α} {E off : Nat} {nl : α → α} {u : Value} {z : α} (h : (mVh q e E off nl u z).p S w) :
    (hvW u).length = 1 ∧ q ∧ ∃ b, outW u = .pointer (some ⟨b, 0, none⟩) ∧ (mB (cHo e off nl (hvW u)) E b (z, 0)).p S w := ⟨h.1.1.1, h.1.1.2, h.1.2.1⟩
theorem oth_s {n i j : Nat} {s : Ty} {k : Fl s.D → Option R} (h : othF n s i j k = some r) : i ≠ j ∧ ∃ f, fld n s i = some f ∧ k f = some r := by
  obtain ⟨h1, h⟩ := grd_s h
  split at h
  · next f hf =>
    refine ⟨fun e => ?_, f, hf, h⟩
    subst e
    simp at h1
  · cases h
theorem vo_obj {o : Nat} {s s1 : Ty} {E E1 n j : Nat} {z : s.D} {Y : Od} (ho : geto cx σ o = some Y) (hY : (∃ xs, Y = .vr s E s1 E1 n j z xs) ∨ Y = .vh s E s1 E1 n j z) (hM : AllM S (MS vs σ.ob ++ (MS vs cx.ob ++ F)) w) :
    vrP s1 (fld n s j) ∧ ∃ b, outW (vs o) = .pointer (some ⟨b, 0, none⟩) ∧ (mB (cHo s.rep (offL (fld n s j)) (putL s1 (fld n s j) []) (hvW (vs o))) E b (z, 0)).p S w := by
  have hm := geto_M hM ho
  rcases hY with ⟨xs, rfl⟩ | rfl
  · exact (vr_s hm).2
  · exact (vh_s hm).2
theorem vo_load (hT : TTok P cf.tt) {ti : TI} {o : Nat} {s s1 : Ty} {E E1 n i j : Nat} {f : Fl s.D} {z : s.D} {Y : Od} {k : List (Nat × Dv) → Option R} (ht : tyA cf t = some ti) (hxv : opv cx σ x = some (.vf o s n i)) (ho : geto cx σ o = some Y)
    (hY : (∃ xs, Y = .vr s E s1 E1 n j z xs) ∨ Y = .vh s E s1 E1 n j z) (hij : i ≠ j) (hf : fld n s i = some f) (h : (Ty.cast f.f ti.ty (f.get z) fun y => k [(0, .d ti.ty y)]) = some r) :
    ∃ l, k l = some r ∧ ES P ⟨d, .load t x, ty, pos, aft, g⟩ cx σ F l := by
  obtain ⟨hse, h⟩ := cast_s h
  obtain ⟨zero, hty, _⟩ := ty_of hT ht
  have hfl := hf
  obtain ⟨off, ff, gt, st⟩ := f
  simp only at hse; subst hse
  refine ⟨_, h, es_oe fun env w S vs hM hl => ?_⟩
  obtain ⟨hvp, b, h1, hb⟩ := vo_obj ho hY hM
  obtain ⟨b', f', h2, h3, h4⟩ := opv_hold hxv (lk_of hl (by simp [Op.operands]))
  rw [h1] at h2; cases h2
  rw [hfl] at h3; cases h3
  exact ⟨_, _, _, _, [], [mB (cHo s.rep (offL (fld n s j)) (putL s1 (fld n s j) []) (hvW (vs o))) E b (z, 0)], oe_loadM 0 rfl (h4.trans (by rw [Nat.zero_add])) (sub_oth hvp hfl hij) hty, ⟨hb, trivial⟩, trivial, fun u w' _ hf => one_of hf.1⟩
theorem vo_own (hT : TTok P cf.tt) {e : Ty} {E2 B2 : Nat} {o : Nat} {s s1 : Ty} {E E1 n i : Nat} {z : s.D} {xs : List s1.D} {k : List (Nat × Dv) → Option R} (ht : tyA cf t = some ⟨.l e, .sl E2, B2⟩) (hxv : opv cx σ x = some (.vf o s n i)) (ho : geto cx σ o = some (.vr s E s1 E1 n i z xs))
    (h : k [(0, .rw o 0)] = some r) : ∃ l, k l = some r ∧ ES P ⟨d, .load t x, ty, pos, aft, g⟩ cx σ F l := by
  obtain ⟨zero, hty, _⟩ := ty_of hT ht
  refine ⟨_, h, es_oe fun env w S vs hM hl => ?_⟩
  obtain ⟨⟨off, gt, st, hj⟩, b, h1, hb⟩ := vo_obj ho (.inl ⟨_, rfl⟩) hM
  obtain ⟨b', f', h2, h3, h4⟩ := opv_hold hxv (lk_of hl (by simp [Op.operands]))
  rw [h1] at h2; cases h2
  rw [hj] at h3; cases h3
  exact ⟨_, _, _, _, [], [mB (cHo s.rep (offL (fld n s i)) (putL s1 (fld n s i) []) (hvW (vs o))) E b (z, 0)], oe_loadM 0 rfl (h4.trans (by rw [Nat.zero_add, hj]; rfl)) (Sub.hole (r := 0)) hty, ⟨hb, trivial⟩, trivial, fun u w' _ hf => one_of (fV_hd hf.1)⟩
theorem co_nil {k : List (Nat × Dv) → Option R} (h : coNil cx σ x k = some r) : ∃ l, k l = some r ∧ ES P ⟨d, .nilCheck x, ty, pos, aft, g⟩ cx σ F l := by
  have key : ∀ {o E E1 n j : Nat} {s s1 : Ty} {z : s.D} {Y : Od}, opv cx σ x = some (.mw o) → geto cx σ o = some Y → ((∃ xs, Y = .vr s E s1 E1 n j z xs) ∨ Y = .vh s E s1 E1 n j z) → k [(0, .mw o)] = some r →
      ∃ l, k l = some r ∧ ES P ⟨d, .nilCheck x, ty, pos, aft, g⟩ cx σ F l := fun hxv ho hY h => by
    refine ⟨_, h, ?_⟩
    intro env w S vs hS hM hl
    obtain ⟨_, b, h1, _⟩ := vo_obj ho hY hM
    have hxe : ev env x = outW (vs _) := opv_hold hxv (lk_of hl (by simp [Op.operands]))
    exact OpR.of_value (by simp [execOp, hxe, h1]) ⟨Keeps.refl _ _, one_of h1.symm⟩
  unfold coNil at h
  split at h
  · next o hxv =>
    split at h
    · next s E s1 E1 n' j z xs ho => exact key hxv ho (.inl ⟨_, rfl⟩) h
    · next s E s1 E1 n' j z ho => exact key hxv ho (.inr rfl) h
    · cases h
  · cases h
theorem co_field (hT : TTok P cf.tt) {i : Nat} {k : List (Nat × Dv) → Option R} (h : coField cf cx σ t x i k = some r) : ∃ l, k l = some r ∧ ES P ⟨d, .fieldAddr t x i, ty, pos, aft, g⟩ cx σ F l := by
  have hx : ∀ {vs env S w}, (∀ t' ∈ tmpsOf (.fieldAddr t x i), Lk P vs env S w cx σ t') → LkO P vs env S w cx σ x := fun hl => lk_of hl (by simp [Op.operands])
  have key : ∀ {o E E1 n j : Nat} {s s1 : Ty} {z : s.D} {Y : Od} {B : Nat}, tyA cf t = some ⟨s, .st n, B⟩ → opv cx σ x = some (.mw o) → geto cx σ o = some Y → ((∃ xs, Y = .vr s E s1 E1 n j z xs) ∨ Y = .vh s E s1 E1 n j z) → (fld n s i).isSome = true → k [(0, .vf o s n i)] = some r →
      ∃ l, k l = some r ∧ ES P ⟨d, .fieldAddr t x i, ty, pos, aft, g⟩ cx σ F l := fun ht hxv ho hY hf h => by
    obtain ⟨f, hf⟩ := Option.isSome_iff_exists.1 hf
    refine ⟨_, h, ?_⟩
    intro env w S vs hS hM hl
    obtain ⟨_, b, h1, _⟩ := vo_obj ho hY hM
    have hxe : ev env x = outW (vs _) := opv_hold hxv (hx hl)
    exact OpR.of_value (r_field (tk_st hT ht hf) (hxe.trans h1) w) ⟨Keeps.refl _ _, one_of ⟨b, f, h1, hf, rfl⟩⟩
  unfold coField at h
  split at h
  · next e n B o ht hxv =>
    split at h
    · next s E s1 E1 n' j z xs ho =>
      obtain ⟨hg, h⟩ := grd_s h
      rw [Bool.and_eq_true, Bool.and_eq_true] at hg
      obtain rfl := beq_t hg.1.1
      obtain rfl := same_t hg.1.2
      exact key ht hxv ho (.inl ⟨_, rfl⟩) hg.2 h
    · next s E s1 E1 n' j z ho =>
      obtain ⟨hg, h⟩ := grd_s h
      rw [Bool.and_eq_true, Bool.and_eq_true] at hg
      obtain rfl := beq_t hg.1.1
      obtain rfl := same_t hg.1.2
      exact key ht hxv ho (.inr rfl) hg.2 h
    · cases h
  · cases h
theorem co_load (hT : TTok P cf.tt) {k : List (Nat × Dv) → Option R} (h : coLoad cf cx σ t x k = some r) : ∃ l, k l = some r ∧ ES P ⟨d, .load t x, ty, pos, aft, g⟩ cx σ F l := by
  have hx : ∀ {vs env S w}, (∀ t' ∈ tmpsOf (.load t x), Lk P vs env S w cx σ t') → LkO P vs env S w cx σ x := fun hl => lk_of hl (by simp [Op.operands])
  unfold coLoad at h
  split at h
  · next e E B o j ht hxv =>
    split at h
    · next s E' E1 xss ix ho =>
      obtain ⟨zero, hty, _⟩ := ty_of hT ht
      obtain ⟨q, hq, h⟩ := nm_s h
      refine ⟨_, h, es_oe fun env w S vs hM hl => ?_⟩
      have hm : (mMt s.rep E' E1 (vs o) xss ix).p S w := geto_M hM ho
      obtain ⟨b, m, cap0, h1, h2, h3⟩ := opv_hold hxv (hx hl)
      obtain ⟨a1, a2, a3⟩ := mt_s hm
      have hn : m = ix.length := by
        obtain ⟨cs, h5, h6⟩ := a2
        rcases h5.2 with ⟨hv, h7⟩ | ⟨g', cap', cur, hv, _⟩
        · rw [h1] at hv; cases hv
        · rw [h1] at hv; cases hv; rfl
      obtain ⟨b', cap', hv, hb⟩ := own_open a2 (by omega)
      rw [h1] at hv; cases hv
      have hsub := Sub.rowT0 (eHd (hvW (vs o))) cap0 ix j (ix.getD j 0) (getD_some 0 h2)
      exact ⟨_, _, _, _, [], [mB (rowT (eHd (hvW (vs o))) cap0) E' b ix], oe_loadM 0 rfl h3 hsub hty, ⟨hb, trivial⟩, trivial, fun u w' _ hf => one_of (by
        have := fV_hd hf.1
        rw [← hq] at this
        exact this)⟩
    · cases h
  · next ti o e p j f hti hxv =>
    split at h
    · next s E' E1 xss ix ho =>
      obtain ⟨hse, h1⟩ := cast_s h
      cases hse
      obtain ⟨q, hq, h2⟩ := nm_s h1
      obtain ⟨hse, h⟩ := cast_s h2
      obtain ⟨zero, hty, _⟩ := ty_of hT hti
      obtain ⟨off, ff, gt, st⟩ := f
      simp only at hse; subst hse
      refine ⟨_, h, es_oe fun env w S vs hM hl => ?_⟩
      have hm : (mMt e.rep E' E1 (vs o) xss ix).p S w := geto_M hM ho
      obtain ⟨h0, b, m, cap, h1, h2, h3⟩ := opv_hold hxv (hx hl)
      have hr := (mt_row hm h1).1
      have hn : m = (rowAt (α := e.D) xss p).length := by
        obtain ⟨cs, h5, h6⟩ := hr
        rcases h5.2 with ⟨hv, h7⟩ | ⟨g', cap', cur, hv, _⟩
        · cases hv
        · cases hv; rfl
      obtain ⟨b', cap', hv, hb⟩ := own_open hr (by omega)
      cases hv
      have hsub := (Sub.rowT0 e.rep cap (rowAt (α := e.D) xss p) j ((rowAt (α := e.D) xss p).getD j e.z) (getD_some e.z (by omega))).comp (h0 ((rowAt (α := e.D) xss p).getD j e.z))
      subst hq
      exact ⟨_, _, _, _, [], [mB (rowT e.rep cap) E1 b (rowAt (α := e.D) xss p)], oe_loadM 0 rfl h3 hsub hty, ⟨hb, trivial⟩, trivial, fun u w' _ hf => one_of hf.1⟩
    · cases h
  · next ti o s0 n0 i hti hxv =>
    split at h
    · next s E s1 E1 n j z xs ho =>
      obtain ⟨hg, h⟩ := grd_s h
      rw [Bool.and_eq_true] at hg
      obtain rfl := beq_t hg.1
      obtain rfl := same_t hg.2
      cases hb : Nat.beq i j <;> rw [hb] at h
      · obtain ⟨hij, f, hf, h⟩ := oth_s h
        exact vo_load hT hti hxv ho (.inl ⟨_, rfl⟩) hij hf h
      · obtain rfl := beq_t hb
        have h : ownV ti o k = some r := h
        unfold ownV at h
        split at h
        · next e E2 B2 => exact vo_own hT hti hxv ho h
        · cases h
    · next s E s1 E1 n j z ho =>
      obtain ⟨hg, h⟩ := grd_s h
      rw [Bool.and_eq_true] at hg
      obtain rfl := beq_t hg.1
      obtain rfl := same_t hg.2
      obtain ⟨hij, f, hf, h⟩ := oth_s h
      exact vo_load hT hti hxv ho (.inr rfl) hij hf h
    · cases h
  · cases h
theorem co_slice (hT : TTok P cf.tt) (hL : ELok P cf.tt) {lo hi : Option Operand} {k : List (Nat × Dv) → Option R} (h : coSlice cf cx σ t x lo hi k = some r) : ∃ l, k l = some r ∧ ES P ⟨d, .slice t x lo hi none, ty, pos, aft, g⟩ cx σ F l := by
  have hx : ∀ {vs env S w}, (∀ t' ∈ tmpsOf (.slice t x lo hi none), Lk P vs env S w cx σ t') → LkO P vs env S w cx σ x := fun hl => lk_of hl (by simp [Op.operands])
  have hlo : ∀ {vs env S w z}, lo = some z → (∀ t' ∈ tmpsOf (.slice t x lo hi none), Lk P vs env S w cx σ t') → LkO P vs env S w cx σ z := fun e hl => lk_of hl (by simp [Op.operands, e])
  have hhi : ∀ {vs env S w z}, hi = some z → (∀ t' ∈ tmpsOf (.slice t x lo hi none), Lk P vs env S w cx σ t') → LkO P vs env S w cx σ z := fun e hl => lk_of hl (by simp [Op.operands, e])
  unfold coSlice at h
  split at h
  · next e E B o ht hxv =>
    split at h
    · next s E' E1 xss ix ho =>
      obtain ⟨bytes, zero, het⟩ := ty_el hT hL ht
      have key : ∀ (l m : Nat), l ≤ m → m ≤ ix.length → k [(0, .mv o l (m - l))] = some r → (∀ vs env S w, (∀ t' ∈ tmpsOf (.slice t x lo hi none), Lk P vs env S w cx σ t') → ((lo.map (ev env)) = some (.int .i64 (l : Int)) ∨ (lo = none ∧ l = 0)) ∧ ((hi.map (ev env)) = some (.int .i64 (m : Int)) ∨ (hi = none ∧ m = ix.length))) →
          ∃ l, k l = some r ∧ ES P ⟨d, .slice t x lo hi none, ty, pos, aft, g⟩ cx σ F l := by
        intro l m h1 h2 h5 h4
        refine ⟨_, h5, fun env w S vs hS hM hl => ?_⟩
        obtain ⟨h6, h7⟩ := h4 vs env S w hl
        have hxe : ev env x = outW (vs o) := opv_hold hxv (hx hl)
        have hm : (mMt s.rep E' E1 (vs o) xss ix).p S w := geto_M hM ho
        rcases mo_shape (mt_s hm).2.1 with ⟨hv, hnil⟩ | ⟨b, cap, hv, hc1, hc2⟩
        · rw [hnil] at h2 h7
          obtain rfl : m = 0 := Nat.le_zero.1 h2
          obtain rfl : l = 0 := Nat.le_zero.1 h1
          have hr := run_sliceNil (P := P) (w := w) (tk_sl hT ht) het (h6.imp id fun q => by rw [q.1]; rfl) (h7.imp id fun q => by rw [q.1]; rfl)
          refine OpR.of_value (v := .slice none 0 0) (w' := w) (by simp [execOp, hxe.trans hv, hr]) ⟨Keeps.refl _ _, one_of (.inr ⟨hv, rfl, rfl, rfl⟩)⟩
        · have hr := run_sliceG (P := P) (b := b) (o := 0) (n := ix.length) (cap := cap) (w := w) (l := l) (h := m) (tk_sl hT ht) het (h6.imp id fun q => ⟨by rw [q.1]; rfl, q.2⟩) (h7.imp id fun q => ⟨by rw [q.1]; rfl, q.2⟩) h1 (Nat.le_trans h2 hc1)
          rw [← hv, ← hxe] at hr
          refine OpR.of_value (v := .slice (if cap = l then some ⟨b, 0, none⟩ else some ((⟨b, 0, none⟩ : Addr).add (l * 1))) (m - l) (cap - l)) (w' := w) (by simp [execOp, hr, Ty.rep, eS]) ⟨Keeps.refl _ _, one_of ?_⟩
          exact .inl ⟨b, ix.length, cap, hv, by omega, hc1, by omega, by rw [addr_add]⟩
      rcases bnd_s h with ⟨e1, h1⟩ | ⟨zl, l, e1, h1, hl1⟩
      · rcases bnd_s h1 with ⟨e2, h2⟩ | ⟨zh, m, e2, h2, hh1⟩
        · obtain ⟨a, c, q1, q2, q3, q4, q5⟩ := cutV_s h2
          exact key a c q1 q2 q3 fun vs env S w hl => ⟨.inr ⟨e1, (q4.resolve_left (by simp)).2⟩, .inr ⟨e2, (q5.resolve_left (by simp)).2⟩⟩
        · obtain ⟨a, c, q1, q2, q3, q4, q5⟩ := cutV_s h2
          rcases q5 with q5 | ⟨q5, _⟩
          · cases q5
            exact key a m q1 q2 q3 fun vs env S w hl => ⟨.inr ⟨e1, (q4.resolve_left (by simp)).2⟩, .inl (by rw [e2]; exact congrArg some (hh1 P vs env S w (hhi e2 hl)))⟩
          · cases q5
      · rcases bnd_s h1 with ⟨e2, h2⟩ | ⟨zh, m, e2, h2, hh1⟩
        · obtain ⟨a, c, q1, q2, q3, q4, q5⟩ := cutV_s h2
          rcases q4 with q4 | ⟨q4, _⟩
          · cases q4
            exact key l c q1 q2 q3 fun vs env S w hl => ⟨.inl (by rw [e1]; exact congrArg some (hl1 P vs env S w (hlo e1 hl))), .inr ⟨e2, (q5.resolve_left (by simp)).2⟩⟩
          · cases q4
        · obtain ⟨a, c, q1, q2, q3, q4, q5⟩ := cutV_s h2
          rcases q4 with q4 | ⟨q4, _⟩
          · rcases q5 with q5 | ⟨q5, _⟩
            · cases q4; cases q5
              exact key l m q1 q2 q3 fun vs env S w hl => ⟨.inl (by rw [e1]; exact congrArg some (hl1 P vs env S w (hlo e1 hl))), .inl (by rw [e2]; exact congrArg some (hh1 P vs env S w (hhi e2 hl)))⟩
            · cases q5
          · cases q4
    · cases h
  · cases h
theorem co_len (hT : TTok P cf.tt) {ags : Array Operand} {ts : Array TypeId} {k : List (Nat × Dv) → Option R} (h : coLen cf cx σ ags.toList ts.toList k = some r) :
    ∃ l, k l = some r ∧ ES P ⟨d, .call ⟨.builtin .len, ags, ts⟩, ty, pos, aft, g⟩ cx σ F l := by
  unfold coLen at h
  split at h
  · next _ _ x t hags hts =>
    obtain rfl : ags = #[x] := by cases ags; simp_all
    obtain rfl : ts = #[t] := by cases ts; simp_all
    have hx : ∀ {vs env S w}, (∀ t' ∈ tmpsOf (.call ⟨.builtin .len, #[x], #[t]⟩), Lk P vs env S w cx σ t') → LkO P vs env S w cx σ x := fun hl => lk_of hl (by simp [Op.operands, Call.operands])
    split at h
    · next e E B o ht hxv =>
      split at h
      · next s E' E1 xss ix ho =>
        refine ⟨_, h, es_oe fun env w S vs hM hl => ?_⟩
        have hm : (mMt s.rep E' E1 (vs o) xss ix).p S w := geto_M hM ho
        exact ⟨_, _, _, _, [], [mO (eHd (hvW (vs o))) E' (outW (vs o)) ix], oe_lenM 0 rfl (tk_sl hT ht) (opv_hold hxv (hx hl)), ⟨(mt_s hm).2.1, trivial⟩, trivial, fun u w' hk hf => one_of (i64_fV (len_r hk))⟩
      · cases h
    · next e E B o lo n ht hxv =>
      split at h
      · next s E' E1 xss ix ho =>
        refine ⟨_, h, es_val fun env w S vs hl => ?_⟩
        rcases (opv_hold hxv (hx hl) : MvV _ _ _ _).old with ⟨b, m, cap, c, q1, q2, q3, q4, q5⟩ | ⟨q1, ao, c, q2, q3⟩
        · exact ⟨_, r_len (tk_sl hT ht) q5 w, one_of (i64_fV (len_r (by omega)))⟩
        · subst q1
          exact ⟨_, r_len (tk_sl hT ht) q3 w, one_of (i64_fV (by decide))⟩
      · cases h
    · next e E B o p ht hxv =>
      split at h
      · next s E' E1 xss ix ho =>
        refine ⟨_, h, es_oe fun env w S vs hM hl => ?_⟩
        have hm : (mMt s.rep E' E1 (vs o) xss ix).p S w := geto_M hM ho
        have hxe : (hvW (vs o))[p]? = some (ev env x) := opv_hold hxv (hx hl)
        exact ⟨_, _, _, _, [], [mO s.rep E1 (ev env x) (rowAt xss p)], oe_lenM 0 rfl (tk_sl hT ht) rfl, ⟨(mt_row hm hxe).1, trivial⟩, trivial, fun u w' hk hf => one_of (i64_fV (len_r hk))⟩
      · next s E' s1 E1 n' i' z xs ho =>
        refine ⟨_, h, es_oe fun env w S vs hM hl => ?_⟩
        have hm := geto_M hM ho
        have hxe : (hvW (vs o))[p]? = some (ev env x) := opv_hold hxv (hx hl)
        have hl1 : (hvW (vs o)).length = 1 := hm.1.1.1
        have hm2 : (mO s1.rep E1 ((hvW (vs o)).headD undef) xs).p S w := hm.1.2.2.1
        have hp : (hvW (vs o)).headD undef = ev env x := by
          obtain ⟨a, ha⟩ := List.length_eq_one_iff.1 hl1
          rw [ha] at hxe ⊢
          cases p with
          | zero => simpa using hxe
          | succ p => simp at hxe
        rw [hp] at hm2
        exact ⟨_, _, _, _, [], [mO s1.rep E1 (ev env x) xs], oe_lenM 0 rfl (tk_sl hT ht) rfl, ⟨hm2, trivial⟩, trivial, fun u w' hk hf => one_of (i64_fV (len_r hk))⟩
      · cases h
    · cases h
  · cases h
def Tru : Nat → Prop := fun _ => True
theorem to_tru (f : FF) (h : f.p S w) : f.p Tru w := f.sub h fun _ _ _ => trivial
theorem argsL_s (hC : ∀ s ∈ cf.cs, SigOK P s) : ∀ {dom : List AM} {xs : List Operand} {cs : List PD} {k : AsD dom → Option R}, argsL cf cx σ dom xs cs k = some r →
    ∃ z, k z = some r ∧ xs.length + cs.length = dom.length ∧ ∀ vs env S w, AllM S (MS vs σ.ob ++ (MS vs cx.ob ++ F)) w → (∀ x ∈ xs, LkO P vs env S w cx σ x) → ∀ cvs : List Value, cvs.length = cs.length → All S (capF cs cvs) w → All Tru (argFs P dom z (xs.map (ev env) ++ cvs)) w
  | [], [], [], k, h => ⟨(), h, rfl, fun _ _ _ _ _ _ _ _ _ => trivial⟩
  | .q t :: dom, [], c :: cs, k, h => by
    simp only [argsL] at h
    obtain ⟨e, h⟩ := cast_s h
    subst e
    obtain ⟨z, h1, h2, h3⟩ := argsL_s hC h
    refine ⟨_, h1, by simp at h2 ⊢; omega, fun vs env S w hM hl cvs hcl hca => ?_⟩
    cases cvs with
    | nil => cases hcl
    | cons v cvs => exact ⟨to_tru _ hca.1, h3 vs env S w hM hl cvs (by simpa using hcl) hca.2⟩
  | .d t :: dom, x :: xs, cs, k, h => by
    simp only [argsL] at h
    split at h
    · next o lo n hxv =>
      split at h
      · next s E E1 xss ix ho =>
        obtain ⟨e, h⟩ := cast_s h
        subst e
        obtain ⟨z, h1, h2, h3⟩ := argsL_s hC h
        refine ⟨_, h1, by simp at h2 ⊢; omega, fun vs env S w hM hl cvs hcl hca => ⟨?_, h3 vs env S w hM (fun z hz => hl z (List.mem_cons_of_mem _ hz)) cvs hcl hca⟩⟩
        have hm : (mMt s.rep E E1 (vs o) xss ix).p S w := geto_M hM ho
        obtain ⟨a1, a2, a3⟩ := mt_s hm
        have h4 : (mO (eS s.rep) E (outW (vs o)) (matD xss ix)).p Tru w := by
          obtain ⟨cs', q1, q2⟩ := a2
          refine ⟨cs', by unfold matD; rw [List.length_map]; exact q1, ?_⟩
          exact elems_mat a1 (fun _ _ => trivial) (fun _ _ _ _ => trivial) a3 q2
        show (fV (eS (eS s.rep)) (List.take n (List.drop lo (matD xss ix))) (ev env x)).p Tru w
        rcases (opv_hold hxv (hl x (List.mem_cons_self ..)) : MvV _ _ _ _).old with ⟨b, m, cap, c, q1, q2, q3, q4, q5⟩ | ⟨q1, ao, c, q2, q3⟩
        · have := mo_view h4 q1 q2 q3 q4
          rw [q5]
          obtain ⟨ao, c', p1, p2, p3, p4⟩ := this
          refine fV_slice.2 ⟨ao, c', p1, p2, p3, p4.imp id ?_⟩
          rintro ⟨b', o', cs', r1, r2, r3⟩
          exact ⟨b', o', cs', r1, trivial, r2, r3⟩
        · subst q1
          rw [q3]
          exact fV_slice.2 ⟨ao, c, by simp, by simp, by unfold maxLen; omega, .inl (by simp)⟩
      · cases h
    · obtain ⟨y, h, hy⟩ := asO_s h
      obtain ⟨z, h1, h2, h3⟩ := argsL_s hC h
      exact ⟨_, h1, by simp at h2 ⊢; omega, fun vs env S w hM hl cvs hcl hca => ⟨to_tru _ (hy P vs env S w (hl x (List.mem_cons_self ..))), h3 vs env S w hM (fun z hz => hl z (List.mem_cons_of_mem _ hz)) cvs hcl hca⟩⟩
  | .fn dom' cod :: dom, x :: xs, cs, k, h => by
    simp only [argsL] at h
    obtain ⟨f, h, hf⟩ := asF_s hC h
    obtain ⟨z, h1, h2, h3⟩ := argsL_s hC h
    refine ⟨_, h1, by simp at h2 ⊢; omega, fun vs env S w hM hl cvs hcl hca => ⟨?_, h3 vs env S w hM (fun z hz => hl z (List.mem_cons_of_mem _ hz)) cvs hcl hca⟩⟩
    cases hv : opv cx σ x with
    | none => rename_i h0; rw [hv] at h0; simp [asF] at h0
    | some v => exact to_tru _ (hf vs S w v _ hv (opv_hold hv (hl x (List.mem_cons_self ..))))
  | [], _ :: _, _, _, h => by simp [argsL] at h
  | [], [], _ :: _, _, h => by simp [argsL] at h
  | .d _ :: _, [], _, _, h => by simp [argsL] at h
  | .own _ _ :: _, _, _, _, h => by simp [argsL] at h
  | .q _ :: _, _ :: _, _, _, h => by simp [argsL] at h
  | .fn _ _ :: _, [], _, _, h => by simp [argsL] at h
  | .q _ :: _, [], [], _, h => by simp [argsL] at h
theorem flat_S : ∀ {rs : List RM} {x : CsD (rs.map RM.ty)} {us : List Value}, flatT rs = true → All Tru (csF (rs.map RM.ty) x us) w → All S (csF (rs.map RM.ty) x us) w
  | [], _, _, _, _ => trivial
  | [.d .i], x, us, _, h => ⟨h.1, trivial⟩
  | [.d .u], x, us, _, h => ⟨h.1, trivial⟩
  | [.d .b], x, us, _, h => ⟨h.1, trivial⟩
  | .d .i :: n :: r, x, us, hf, h => ⟨h.1, flat_S (rs := n :: r) (x := x.2) hf h.2⟩
  | .d .u :: n :: r, x, us, hf, h => ⟨h.1, flat_S (rs := n :: r) (x := x.2) hf h.2⟩
  | .d .b :: n :: r, x, us, hf, h => ⟨h.1, flat_S (rs := n :: r) (x := x.2) hf h.2⟩
theorem co_call (hC : ∀ s ∈ cf.cs, SigOK P s) (hX : XOK P cf) {f : Operand} {ags : Array Operand} {ts : Array TypeId} {k : List (Nat × Dv) → Option R} (h : coCall cf cx σ f ags.toList k = some r) :
    ∃ l, k l = some r ∧ ES P ⟨d, .call ⟨.value f, ags, ts⟩, ty, pos, aft, g⟩ cx σ F l := by
  have hf : ∀ {vs env S w}, (∀ t' ∈ tmpsOf (.call ⟨.value f, ags, ts⟩), Lk P vs env S w cx σ t') → LkO P vs env S w cx σ f := fun hl => lk_of hl (by simp [Op.operands, Call.operands])
  have ha : ∀ {vs env S w}, (∀ t' ∈ tmpsOf (.call ⟨.value f, ags, ts⟩), Lk P vs env S w cx σ t') → ∀ x ∈ ags.toList, LkO P vs env S w cx σ x := fun hl x hx => lk_of hl (by
    simp only [Op.operands, Call.operands, Array.toList_append, List.mem_append]; exact .inr hx)
  unfold coCall at h
  split at h
  · next f0 cs hfv =>
    split at h
    · next s hs =>
      obtain ⟨h1, h2⟩ := fndC_s hs
      obtain ⟨hb, hok⟩ := hX.cl s h1
      obtain ⟨z, h, hlen, hz⟩ := argsT_s h
      refine ⟨_, h, es_oe fun env w S vs hM hl => ?_⟩
      obtain ⟨cvs, hv, hcl, hca⟩ := opv_hold hfv (hf hl)
      obtain rfl : cvs = [] := List.length_eq_zero_iff.1 hcl
      have hfn := hok z (ags.toList.map (ev env)) (by simpa using hlen)
      rw [h2] at hfn hb
      rw [← List.append_nil (ags.toList.map (ev env))] at hfn
      exact ⟨_, _, _, _, tsF s.dom z (ags.toList.map (ev env) ++ []), [], oe_callv (aas := ags.toList) hb hv hfn rfl (fun S w h => h), trivial, by rw [List.append_nil]; exact hz P vs env S w (ha hl), fun v w' _ hfs => one_of hfs.1⟩
    · split at h
      · next s hs =>
        obtain ⟨h1, h2, h3, h4, h5⟩ := sigOf_s hs
        have hok := hC s h1
        obtain ⟨hfl, h⟩ := grd_s h
        obtain ⟨z, h, hlen, hz⟩ := argsL_s (F := F) hC h
        obtain ⟨q, hq, h⟩ := bd_s h
        refine ⟨_, h, fun env w S vs hS hM hl => ?_⟩
        obtain ⟨cvs, hv, hcl, hca⟩ := opv_hold hfv (hf hl)
        have hfn := sig_frozen hok h3 h4 h5 hq (us := ags.toList.map (ev env) ++ cvs) (by simp at hlen ⊢; omega)
        rw [h2] at hfn
        have hall := hz vs env S w hM (ha hl) cvs hcl hca
        refine (oe_callv (aas := ags.toList) (ms := []) (Γ := argFs P s.dom z (ags.toList.map (ev env) ++ cvs)) (h2 ▸ hok.1) hv hfn rfl (fun S w h => h) w Tru ⟨fun _ _ => trivial, hS.gv⟩ trivial hall).mono ?_
        rintro v w' ⟨us, rfl, hus, hx, hfs⟩
        refine ⟨hx, ?_⟩
        unfold resD
        rw [resX_T h5, oneRes_T]
        exact res_hold (flat_S hfl hfs) (by simpa using hus)
      · cases h
  · cases h
theorem e_co (hT : TTok P cf.tt) (hL : ELok P cf.tt) (hC : ∀ s ∈ cf.cs, SigOK P s) (hX : XOK P cf) {op : Op} {k : List (Nat × Dv) → Option R} (h : eCo cf cx σ op k = some r) : ∃ l, k l = some r ∧ ES P ⟨d, op, ty, pos, aft, g⟩ cx σ F l := by
  unfold eCo at h
  split at h
  · exact co_load hT h
  · exact co_index hT hL h
  · exact co_field hT h
  · exact co_slice hT hL h
  · exact co_len hT h
  · exact co_call hC hX h
  · exact co_nil h
  · cases h
theorem e_all (hT : TTok P cf.tt) (hL : ELok P cf.tt) (hC : ∀ s ∈ cf.cs, SigOK P s) (hX : XOK P cf) {op : Op} {k : List (Nat × Dv) → Option R} (h : eOp cf cx σ op k = some r) : ∃ l, k l = some r ∧ ES P ⟨d, op, ty, pos, aft, g⟩ cx σ F l := by
  unfold eOp at h
  cases hc : coOp cf cx σ op <;> rw [hc] at h
  · exact e_all0 hT hL hC hX.ex h
  · exact e_co hT hL hC hX h
end
end
section
section
variable {P : Program} {cf : Cf} {fr : Fr} {cx σ : Sg} {vs vs' : Nat → Value} {env : Env} {w : World} {R : Type} {r : R}
  {d : Option Tmp} {ty t yt : TypeId} {pos : String} {aft : Array Edge} {g : Option (Nat × Bool)} {x y : Operand}
abbrev GS (P : Program) (vs : Nat → Value) (env : Env) (fr : Fr) (cx σ : Sg) : List FF := RS P vs env σ.rg ++ (RS P vs env cx.rg ++ fr.G)
abbrev OS (vs : Nat → Value) (fr : Fr) (cx : Sg) (ob : List (Nat × Od)) : List MF := MS vs ob ++ (MS vs cx.ob ++ fr.F)
theorem gs_lk {S : Nat → Prop} (h : All S (GS P vs env fr cx σ) w) (t : Tmp) : Lk P vs env S w cx σ t := by
  intro i dv hd
  rcases get_mem hd with hm | hm
  · exact rs_get (All.left h) hm
  · exact rs_get (All.left (All.right h)) hm
theorem gs_lko {S : Nat → Prop} (h : All S (GS P vs env fr cx σ) w) (x : Operand) : LkO P vs env S w cx σ x := fun t _ => gs_lk h t
def RelV (P : Program) (fr : Fr) (cx σ : Sg) (vs : Nat → Value) (env : Env) (w : World) : Prop := Bd cx σ ∧ St fr.we fr.Se (OS vs fr cx σ.ob) (GS P vs env fr cx σ) w
def RelX (P : Program) (fr : Fr) (cx : Sg) (n : Nat) (vs : Nat → Value) (σ : Sg) (env : Env) (w : World) : Prop := ∃ vs', (∀ o, o < n → vs' o = vs o) ∧ RelV P fr cx σ vs' env w
theorem RelX.rel {n : Nat} (h : RelX P fr cx n vs σ env w) : Rel P fr cx σ env w := by
  obtain ⟨vs', _, h1, h2⟩ := h
  exact ⟨h1, vs', h2⟩
theorem relV_mk {v : Value} {σ' : Sg} {l : List (Nat × Dv)} {Γl : List FF} (hB : Bd cx σ) (hd : okPut cx d = true) (hrg : σ'.rg = putR σ.rg d l) (hn : σ.nx ≤ σ'.nx) (hvs : ∀ o, o < σ.nx → vs' o = vs o)
    (hl : ∀ e ∈ l, ∀ o, refO e.2 = some o → o < σ'.nx) (hob : ∀ e ∈ σ'.ob, e.1 < σ'.nx) (hf : ∀ S w, All S Γl w → ∀ e ∈ l, (holdC P vs' e.2 v e.1).p S w)
    (hst : St fr.we fr.Se (OS vs' fr cx σ'.ob) (Γl ++ GS P vs env fr cx σ) w) : RelV P fr cx σ' vs' (put env d v) w := by
  refine ⟨⟨hob, fun e he => Nat.lt_of_lt_of_le (hB.o2 e he) hn, ?_, fun e he o ho => Nat.lt_of_lt_of_le (hB.r2 e he o ho) hn⟩, hst.weak fun S w h => ?_⟩
  · intro e he o ho
    rw [hrg] at he
    unfold putR at he
    cases d with
    | none => exact Nat.lt_of_lt_of_le (hB.r1 e he o ho) hn
    | some t =>
      rcases List.mem_append.1 he with he | he
      · obtain ⟨e', he', rfl⟩ := List.mem_map.1 he
        exact hl e' he' o ho
      · exact Nat.lt_of_lt_of_le (hB.r1 e (List.mem_filter.1 he).1 o ho) hn
  · have hΓ := All.right h
    have h1 : All S (RS P vs' env σ.rg) w := by rw [RS_congr (fun e he o ho => hvs o (hB.r1 e he o ho)) (fun _ _ => rfl)]; exact All.left hΓ
    have h2 : All S (RS P vs' env cx.rg) w := by rw [RS_congr (fun e he o ho => hvs o (hB.r2 e he o ho)) (fun _ _ => rfl)]; exact All.left (All.right hΓ)
    have h3 := All.right (All.right hΓ)
    cases d with
    | none =>
      unfold GS
      rw [show σ'.rg = σ.rg from hrg]
      exact All.append h1 (All.append h2 h3)
    | some t =>
      have hcx : RS P vs' (put env (some t) v) cx.rg = RS P vs' env cx.rg := RS_congr (fun _ _ _ _ => rfl) fun e he => put_ne fun ht => by
        simp only [okPut, notIn, List.all_eq_true] at hd
        have := hd e he
        simp only [Option.some.injEq] at ht
        rw [ht] at this
        simp at this
      unfold GS
      rw [hrg, hcx]
      refine All.append (all_mem.2 fun f hf' => ?_) (All.append h2 h3)
      obtain ⟨e, he, rfl⟩ := List.mem_map.1 hf'
      rcases List.mem_append.1 he with he | he
      · obtain ⟨e', he', rfl⟩ := List.mem_map.1 he
        simp only [put_eq]
        exact hf S w (All.left h) e' he'
      · obtain ⟨he1, he2⟩ := List.mem_filter.1 he
        have hne : some t ≠ some e.1 := fun hc => by
          simp only [Option.some.injEq] at hc
          rw [hc] at he2; simp at he2
        rw [put_ne hne]
        exact rs_get h1 he1
theorem rel_mk {v : Value} {σ' : Sg} {l : List (Nat × Dv)} {Γl : List FF} (hB : Bd cx σ) (hd : okPut cx d = true) (hrg : σ'.rg = putR σ.rg d l) (hn : σ.nx ≤ σ'.nx) (hvs : ∀ o, o < σ.nx → vs' o = vs o)
    (hl : ∀ e ∈ l, ∀ o, refO e.2 = some o → o < σ'.nx) (hob : ∀ e ∈ σ'.ob, e.1 < σ'.nx) (hf : ∀ S w, All S Γl w → ∀ e ∈ l, (holdC P vs' e.2 v e.1).p S w)
    (hst : St fr.we fr.Se (OS vs' fr cx σ'.ob) (Γl ++ GS P vs env fr cx σ) w) : RelX P fr cx σ.nx vs σ' (put env d v) w := ⟨vs', hvs, relV_mk hB hd hrg hn hvs hl hob hf hst⟩
def resL (P : Program) (vs : Nat → Value) (v : Value) (l : List (Nat × Dv)) : List FF := l.map fun e => holdC P vs e.2 v e.1
theorem okL_s {n : Nat} {l : List (Nat × Dv)} (h : okL n l = true) : ∀ e ∈ l, ∀ o, refO e.2 = some o → o < n := by
  intro e he o ho
  unfold okL at h
  rw [List.all_eq_true] at h
  have := h e he
  rw [ho] at this
  have := Nat.le_of_ble_eq_true this
  omega
theorem ES.mono {o : Oper} {l : List (Nat × Dv)} {F : List MF} (h : ES P o cx σ [] l) : ES P o cx σ F l := by
  intro env w S vs h1 h2 h3
  refine h env w S vs h1 (allM_mem.2 fun m hm => allM_mem.1 h2 m ?_) h3
  rcases List.mem_append.1 hm with hm | hm
  · exact List.mem_append.2 (.inl hm)
  · rw [List.append_nil] at hm
    exact List.mem_append.2 (.inr (List.mem_append.2 (.inl hm)))
theorem rel_E {o : Oper} {l : List (Nat × Dv)} (h : ES P o cx σ fr.F l) (hd : okPut cx o.dst = true) (hl : okL σ.nx l = true) (hR : RelV P fr cx σ vs env w) : OpR P o env w (fun v w' => RelX P fr cx σ.nx vs (σ.put o.dst l) (put env o.dst v) w') := by
  obtain ⟨hB, h1, h2, h3, S, h4, h5, h6, h7, h8⟩ := hR
  refine (h env w S vs (h2.at h1 h5) h7 fun t _ => gs_lk h8 t).mono ?_
  rintro v w' ⟨hx, hf⟩
  refine rel_mk (σ' := σ.put o.dst l) (Γl := resL P vs v l) hB hd rfl (Nat.le_refl _) (fun _ _ => rfl) (okL_s hl) hB.o1 (fun S w ha e he => all_mem.1 ha _ (List.mem_map.2 ⟨e, he, rfl⟩)) ?_
  refine ⟨h1.trans hx, h2, h3, S, h4, fun k hk => h5 k (Nat.le_trans hx.size hk), h6, AllM.keep hx.to (fun m hm i hi => hx.block i (AllM.lt h7 m hm i hi) trivial) h7, All.append (all_mem.2 fun f hf' => ?_) (All.keep hx.to h8)⟩
  obtain ⟨e, he, rfl⟩ := List.mem_map.1 hf'
  exact hf e he
def MOK (P : Program) (cx : Sg) (o : Oper) (σ : Sg) (k : Sg → Option R) (r : R) : Prop := ∃ σ', k σ' = some r ∧ σ.nx ≤ σ'.nx ∧ ∀ (fr : Fr) (vs : Nat → Value) (env : Env) (w : World), RelV P fr cx σ vs env w → OpR P o env w (fun v w' => RelX P fr cx σ.nx vs σ' (put env o.dst v) w')
theorem m_E (hT : TTok P cf.tt) (hL : ELok P cf.tt) (hC : ∀ s ∈ cf.cs, SigOK P s) (hX : XOK P cf) {op : Op} {k : Sg → Option R} (hd : okPut cx d = true) (h : mE cf cx σ d op k = some r) : MOK P cx ⟨d, op, ty, pos, aft, g⟩ σ k r := by
  unfold mE at h
  obtain ⟨l, h, hes⟩ := e_all (P := P) (d := d) (ty := ty) (pos := pos) (aft := aft) (g := g) (F := []) hT hL hC hX h
  obtain ⟨hl, h⟩ := grd_s h
  exact ⟨_, h, Nat.le_refl _, fun fr vs env w hR => rel_E hes.mono hd hl hR⟩
def upv (vs : Nat → Value) (n : Nat) (v : Value) : Nat → Value := fun o => bif Nat.beq o n then v else vs o
theorem upv_new {n : Nat} {v : Value} : upv vs n v n = v := by simp [upv]
theorem upv_old {n o : Nat} {v : Value} (h : o < n) : upv vs n v o = vs o := by unfold upv; rw [beq_no (by omega)]; rfl
theorem ms_upv {n : Nat} {v : Value} {ob : List (Nat × Od)} (h : ∀ e ∈ ob, e.1 < n) : MS (upv vs n v) ob = MS vs ob := MS_congr fun e he => upv_old (h e he)
theorem os_upv {v : Value} {ob : List (Nat × Od)} (hB : Bd cx σ) (h : ∀ e ∈ ob, e.1 < σ.nx) : OS (upv vs σ.nx v) fr cx ob = OS vs fr cx ob := by
  show MS _ ob ++ (MS _ cx.ob ++ _) = _
  rw [ms_upv h, ms_upv hB.o2]
theorem rel_new {v : Value} {mk : Nat → Dv} {X : Od} {ob : List (Nat × Od)} (hB : Bd cx σ) (hd : okPut cx d = true) (hob : ∀ e ∈ ob, e.1 < σ.nx) (href : ∀ o, refO (mk o) = some o) (hmk : ∀ S w, (hold P (upv vs σ.nx v) (mk σ.nx) v).p S w)
    (hst : St fr.we fr.Se (moF (upv vs σ.nx v) (σ.nx, X) :: OS vs fr cx ob) (GS P vs env fr cx σ) w) : RelX P fr cx σ.nx vs ⟨σ.nx + 1, putR σ.rg d [(0, mk σ.nx)], (σ.nx, X) :: ob⟩ (put env d v) w := by
  refine rel_mk (σ' := ⟨σ.nx + 1, putR σ.rg d [(0, mk σ.nx)], (σ.nx, X) :: ob⟩) (vs := vs) (vs' := upv vs σ.nx v) (Γl := []) hB hd rfl (Nat.le_succ _) (fun o ho => upv_old ho) ?_ ?_ ?_ ?_
  · intro e he o ho
    obtain rfl := List.mem_singleton.1 he
    rw [href] at ho
    cases ho; exact Nat.lt_succ_self _
  · intro e he
    rcases List.mem_cons.1 he with rfl | he
    · exact Nat.lt_succ_self _
    · exact Nat.lt_succ_of_lt (hob e he)
  · intro S w _ e he
    obtain rfl := List.mem_singleton.1 he
    exact hmk S w
  · show St _ _ (moF (upv vs σ.nx v) (σ.nx, X) :: OS (upv vs σ.nx v) fr cx ob) _ _
    rw [os_upv hB hob]
    exact hst
theorem hold_ow {v : Value} (S : Nat → Prop) (w : World) : (hold P (upv vs σ.nx v) (.ow σ.nx) v).p S w := (upv_new (vs := vs)).symm
theorem hold_vs' {t : Ty} {b : Nat} (S : Nat → Prop) (w : World) : (hold P (upv vs σ.nx (.pointer (some ⟨b, 0, none⟩))) (.vs σ.nx t) (.pointer (some ⟨b, 0, none⟩))).p S w := ⟨upv_new.symm, b, upv_new⟩
theorem mo_own {t : Ty} {E : TypeId} {xs : List t.D} {n : Nat} {v : Value} : moF (upv vs n v) (n, .own t E xs) = mO t.rep E v xs := by simp only [moF, upv_new]
theorem mo_var {t : Ty} {E : TypeId} {z : t.D} {n : Nat} {v : Value} : moF (upv vs n v) (n, .var t E z) = mP t.rep.c E v z := by simp only [moF, upv_new]
theorem m_alloc (hT : TTok P cf.tt) {E : TypeId} {k : Sg → Option R} (hd : okPut cx d = true) (h : mAlloc cf σ d E k = some r) : MOK P cx ⟨d, .alloc E, ty, pos, aft, g⟩ σ k r := by
  unfold mAlloc at h
  split at h
  · next ti hti =>
    obtain ⟨zero, hz1, hz2, hz3⟩ := ty_of hT hti
    refine ⟨_, h, Nat.le_succ _, fun fr vs env w hR => ?_⟩
    obtain ⟨hB, hst⟩ := hR
    refine (og_allocM (e := ti.ty.rep.c) (z := ti.ty.z) hz1 hz3 w hst).mono ?_
    rintro v w' ⟨b, rfl, _, hs⟩
    refine rel_new (vs := vs) (mk := fun o => .vs o ti.ty) hB hd hB.o1 (fun _ => rfl) (fun S w => hold_vs' S w) ?_
    rw [mo_var]
    exact hs.toP 0 rfl
  · cases h
theorem m_box {E : TypeId} {k : Sg → Option R} (hd : okPut cx d = true) (h : mBox cf cx σ d E x k = some r) : MOK P cx ⟨d, .box E x, ty, pos, aft, g⟩ σ k r := by
  unfold mBox at h
  split at h
  · next ti hti =>
    obtain ⟨y, h, hy⟩ := asO_s h
    refine ⟨_, h, Nat.le_succ _, fun fr vs env w hR => ?_⟩
    obtain ⟨hB, hst⟩ := hR
    refine (og_boxM (e := ti.ty.rep) (z := y) rfl (fun S w ha => hy P vs env S w (gs_lko ha x)) w hst).mono ?_
    rintro v w' ⟨b, rfl, _, hs⟩
    refine rel_new (vs := vs) (mk := fun o => .vs o ti.ty) hB hd hB.o1 (fun _ => rfl) (fun S w => hold_vs' S w) ?_
    rw [mo_var]
    exact hs.toP 0 rfl
  · cases h
theorem same_ev (h : sameX x y = true) : ev env x = ev env y := by
  unfold sameX at h
  split at h
  · rw [beq_t h]
  · simp only [eqI, decide_eq_true_eq] at h
    rw [h]
  · cases h
theorem m_make (hT : TTok P cf.tt) {k : Sg → Option R} (hd : okPut cx d = true) (h : mMake cf cx σ d t x y k = some r) : MOK P cx ⟨d, .makeSlice t x y, ty, pos, aft, g⟩ σ k r := by
  unfold mMake at h
  split at h
  · next s E B ht =>
    obtain ⟨hxy, h⟩ := grd_s h
    split at h
    · next ti n hti hn =>
      obtain ⟨hse, h⟩ := cast_s h
      subst hse
      obtain ⟨zero, hz1, hz2, hz3⟩ := ty_of hT hti
      obtain ⟨j, hj, h⟩ := ckN_s h
      obtain ⟨hb, h⟩ := ck_s h
      obtain ⟨xs, hxs, h⟩ := nm_s h
      refine ⟨_, h, Nat.le_succ _, fun fr vs env w hR => ?_⟩
      obtain ⟨hB, hst⟩ := hR
      obtain ⟨S0, _, hΓ⟩ := hst.ex
      have hx : ev env x = .int .i64 (j : Int) := by rw [(pd_i hn (gs_lko hΓ x)).1, hj]
      have hpos := (hT _ _ hti).2.1
      refine (og_make' (e := ti.ty.rep) (z := ti.ty.z) (xs := xs) (n := j) (tk_sl hT ht) hz1 hx ((same_ev hxy).symm.trans hx) hpos hb hz3 hxs w hst).mono ?_
      rintro v w' ⟨b, rfl, _, hs⟩
      refine rel_new (vs := vs) (mk := .ow) hB hd hB.o1 (fun _ => rfl) (fun S w => hold_ow S w) ?_
      rw [mo_own]
      have hlen : xs.length = j := by rw [hxs]; exact List.length_replicate
      have := hs.closeF 0 rfl (by rw [hlen]; exact Nat.le_refl _) (mk_le hpos hb)
      rw [hlen] at this
      exact this
    · cases h
  · cases h
theorem m_lit (hT : TTok P cf.tt) (hL : ELok P cf.tt) {n : Nat} {ps : Array (Nat × Operand)} {k : Sg → Option R} (hd : okPut cx d = true) (h : mLit cf cx σ d t n ps.toList k = some r) : MOK P cx ⟨d, .buildSlice t n ps, ty, pos, aft, g⟩ σ k r := by
  unfold mLit at h
  split at h
  · next e E B ht =>
    obtain ⟨hsm, h⟩ := grd_s h
    have hsm := Nat.le_of_ble_eq_true hsm
    rw [← e.n_rep] at hsm
    obtain ⟨ys, h, hidx, hys⟩ := parts_s h
    obtain ⟨bytes, zero, het⟩ := ty_el hT hL ht
    refine ⟨_, h, Nat.le_succ _, fun fr vs env w hR => ?_⟩
    obtain ⟨hB, hst⟩ := hR
    have hidx' : (ps.toList.map fun q : Nat × Operand => (q.1, ev env q.2)).map (·.1) = List.range' 0 (ps.toList.map fun q : Nat × Operand => (q.1, ev env q.2)).length := by rw [List.map_map, List.length_map]; exact hidx
    have hj := fun (S : Nat → Prop) (w : World) (ha : All S (GS P vs env fr cx σ) w) => list_s hidx' (hys P vs env S w fun x _ => gs_lko ha x)
    refine (og_lit (e := e.rep) (zs := listP n e ys) (parts := ps.toList) (tk_sl hT ht) het (el_pos hT hL ht) (listP_len n e ys) hsm rfl (fun S w ha => by have := (hj S w ha).1; rwa [Nat.zero_mul] at this) (fun S w ha => (hj S w ha).2) w hst).mono ?_
    rintro v w' ⟨b, rfl, _, hs⟩
    refine rel_new (vs := vs) (mk := .ow) hB hd hB.o1 (fun _ => rfl) (fun S w => hold_ow S w) ?_
    rw [mo_own]
    exact hs
  · cases h
end
end
section
section
variable {P : Program} {cf : Cf} {fr : Fr} {cx σ : Sg} {vs vs' : Nat → Value} {env : Env} {w : World} {R : Type} {r : R}
  {d : Option Tmp} {ty t yt : TypeId} {pos : String} {aft : Array Edge} {g : Option (Nat × Bool)} {x y : Operand}
theorem seto_mem {ob : List (Nat × Od)} {o : Nat} {X Y : Od} (h : fndO ob o = some X) : ∀ e ∈ seto ob o Y, ∃ e' ∈ ob, e'.1 = e.1 := by grind [fndO_some, List.mem_or_eq_of_mem_set, List.mem_of_getElem?]
theorem delo_mem : ∀ {ob : List (Nat × Od)} {o : Nat}, ∀ e ∈ delo ob o, e ∈ ob
  | (o', X) :: r, o, e, he => by
    unfold delo at he
    cases hb : Nat.beq o' o <;> rw [hb] at he
    · rcases List.mem_cons.1 he with rfl | he
      · exact List.mem_cons_self ..
      · exact List.mem_cons_of_mem _ (delo_mem e he)
    · exact List.mem_cons_of_mem _ he
theorem rel_set {o : Nat} {X Y : Od} {v : Value} (hB : Bd cx σ) (ho : fndO σ.ob o = some X) (hst : St fr.we fr.Se (OS vs fr cx (seto σ.ob o Y)) (GS P vs env fr cx σ) w) : RelX P fr cx σ.nx vs ⟨σ.nx, σ.rg, seto σ.ob o Y⟩ (put env none v) w := by
  refine rel_mk (σ' := ⟨σ.nx, σ.rg, seto σ.ob o Y⟩) (d := none) (l := []) (vs := vs) (vs' := vs) (Γl := []) hB rfl rfl (Nat.le_refl _) (fun _ _ => rfl) (fun _ he => absurd he List.not_mem_nil) (fun e he => ?_) (fun S w _ e he => absurd he List.not_mem_nil) hst
  obtain ⟨e', h1, h2⟩ := seto_mem ho e he
  rw [← h2]; exact hB.o1 e' h1
theorem set_set {α : Type _} (l : List α) (i : Nat) (a b : α) : (l.set i a).set i b = l.set i b := by simp
theorem get_set {α : Type _} {l : List α} {i : Nat} {a b : α} (h : l[i]? = some a) : (l.set i b)[i]? = some b := by grind [List.getElem?_eq_some_iff]
theorem erase_set {α : Type _} : ∀ (l : List α) (i : Nat) (a : α), (l.set i a).eraseIdx i = l.eraseIdx i
  | [], _, _ => by simp
  | _ :: _, 0, _ => rfl
  | b :: l, i + 1, a => by simp [erase_set l i a]
theorem own_pos {α : Type} {e : ERep α} {E : TypeId} {xs : List α} {v : Value} {S : Nat → Prop} {b n cap : Nat} (h : (mO e E v xs).p S w) (hv : v = .slice (some ⟨b, 0, none⟩) n cap) : n = xs.length := by
  obtain ⟨cs, h5, h6⟩ := h
  rcases h5.2 with ⟨h, h7⟩ | ⟨g', cap', cur, h, _⟩
  · rw [hv] at h; cases h
  · rw [hv] at h; cases h; rfl
theorem m_store (hT : TTok P cf.tt) {k : Sg → Option R} {ti : TI} (hti : tyA cf t = some ti) (h : mStore σ ti.ty (opv cx σ x) (opv cx σ y) k = some r) : MOK P cx ⟨none, .store t x y, ty, pos, aft, g⟩ σ k r := by
  obtain ⟨zero, hty, _⟩ := ty_of hT hti
  unfold mStore at h
  split at h
  · next o _ hx =>
    split at h
    · next s' E z ho =>
      obtain ⟨hse, h1⟩ := cast_s h
      subst hse
      obtain ⟨q, h, hq⟩ := asO_s h1
      refine ⟨_, h, Nat.le_refl _, fun fr vs env w hR => ?_⟩
      obtain ⟨hB, hst⟩ := hR
      obtain ⟨S0, _, hΓ⟩ := hst.ex
      obtain ⟨i, hi, hset, hdel⟩ := fndO_some ho
      have hm : (OS vs fr cx σ.ob)[i]? = some (mP ti.ty.rep.c E (vs o) z) := ms_idx hi
      obtain ⟨b, hv, hs⟩ := hst.openP i hm
      obtain ⟨hxe, _⟩ := opv_hold hx (gs_lko hΓ x)
      refine (og_storeM (f := ti.ty.rep) (z' := z) (y' := q) (up := id) i (get_set hm) (hxe.trans hv) rfl (Sub.self ti.ty.rep z) hty (fun S w ha => hq P vs env S w (gs_lko ha y)) w hs).mono ?_
      rintro v w' ⟨_, rfl, _, hs'⟩
      refine rel_set (vs := vs) hB ho ?_
      have hs2 := hs'.toP i (get_set (get_set hm))
      rw [set_set, set_set, ← hv] at hs2
      rw [hset]
      show St _ _ (MS vs (σ.ob.set i (o, .var ti.ty E q)) ++ _) _ _
      rw [← ms_set hi]
      exact hs2
    · cases h
  · next o s1 f hx =>
    split at h
    · next s' E z hsame ho _ =>
      obtain ⟨hss, h1⟩ := cast_s h
      subst hss
      obtain ⟨q, h2, hq⟩ := asO_s h1
      obtain ⟨z2, hz2, h⟩ := nm_s h2
      obtain ⟨hsame⟩ := hsame
      refine ⟨_, h, Nat.le_refl _, fun fr vs env w hR => ?_⟩
      obtain ⟨hB, hst⟩ := hR
      obtain ⟨S0, _, hΓ⟩ := hst.ex
      obtain ⟨i, hi, hset, hdel⟩ := fndO_some ho
      have hm : (OS vs fr cx σ.ob)[i]? = some (mP s'.rep.c E (vs o) z) := ms_idx hi
      obtain ⟨b, hv, hs⟩ := hst.openP i hm
      obtain ⟨hok, b', hv', hxe⟩ := opv_hold hx (gs_lko hΓ x)
      rw [hv] at hv'; cases hv'
      rw [← hsame] at hty
      refine (og_storeM (f := f.f.rep) (z' := f.get z) (y' := q) (up := fun y => f.set y z) i (get_set hm) hxe rfl (by rw [Nat.zero_add]; exact hok z) hty (fun S w ha => hq P vs env S w (gs_lko ha y)) w hs).mono ?_
      rintro v w' ⟨_, rfl, _, hs'⟩
      refine rel_set (vs := vs) hB ho ?_
      have hs2 := hs'.toP i (get_set (get_set hm))
      rw [set_set, set_set, ← hv, ← hz2] at hs2
      rw [hset]
      show St _ _ (MS vs (σ.ob.set i (o, .var s' E z2)) ++ _) _ _
      rw [← ms_set hi]
      exact hs2
    · cases h
  · next o s1 j f hx =>
    split at h
    · next s' E xs hsame ho _ =>
      obtain ⟨hss, h1⟩ := cast_s h
      cases hss
      obtain ⟨q, h2, hq⟩ := asO_s h1
      obtain ⟨z2, hz2, h⟩ := nm_s h2
      obtain ⟨hsame⟩ := hsame
      refine ⟨_, h, Nat.le_refl _, fun fr vs env w hR => ?_⟩
      obtain ⟨hB, hst⟩ := hR
      obtain ⟨S0, _, hΓ⟩ := hst.ex
      obtain ⟨i, hi, hset, hdel⟩ := fndO_some ho
      have hm : (OS vs fr cx σ.ob)[i]? = some (mO s1.rep E (vs o) xs) := ms_idx hi
      obtain ⟨hok, b, n, cap, hv, hj, hxe⟩ := opv_hold hx (gs_lko hΓ x)
      have hn : n = List.length xs := mut_frame hst hm fun S hp => own_pos hp hv
      subst hn
      obtain ⟨b', cap', hv', hc1, hc2, hs⟩ := hst.openO i hm (Nat.lt_of_le_of_lt (Nat.zero_le _) hj)
      rw [hv] at hv'; cases hv'
      rw [← hsame] at hty
      have hsub := (Sub.rowT0 s1.rep cap xs j (List.getD xs j s1.z) (getD_some s1.z hj)).comp (hok (List.getD xs j s1.z))
      refine (og_storeM (f := f.f.rep) (y' := q) i (get_set hm) hxe rfl hsub hty (fun S w ha => hq P vs env S w (gs_lko ha y)) w hs).mono ?_
      rintro v w' ⟨_, rfl, _, hs'⟩
      refine rel_set (vs := vs) hB ho ?_
      have hlen : (List.set xs j (f.set q (List.getD xs j s1.z))).length = List.length xs := List.length_set ..
      have hs2 := hs'.closeF i (get_set (get_set hm)) (by rw [hlen]; exact hc1) hc2
      rw [set_set, set_set, hlen, ← hv, ← hz2] at hs2
      rw [hset]
      show St _ _ (MS vs (σ.ob.set i (o, .own s1 E z2)) ++ _) _ _
      rw [← ms_set hi]
      exact hs2
    · cases h
  · cases h
end
end
section
theorem run_appendS {P : Program} (w : World) (t u ty e : TypeId) (i : TypeInfo) (z : Value) (bytes : Nat) (ht : P.underlying t = some (.slice e)) (hu : P.underlying u = some .string) (hi : P.info? e = some i) (hz : i.zero = some z) (hzs : z.cells.size = 1)
    (hsize : i.size = 1) (hby : i.bytes = bytes) (v : Value) (n : Nat) (xs : List Value) (hown : w.ownsRow 0 e 1 v n xs) (s : ByteArray) (h63 : n + s.size ≤ maxLen) (hbytes : (n + s.size) * bytes ≤ 140737488355328) :
    ∃ v' w', (Builtin.append_ #[t, u] ty #[v, .string s]).run P w = .ok v' w' ∧ w'.ownsRow 0 e 1 v' (n + s.size) (xs ++ Lib.strCells s) ∧ w.grownBy w' v.ownBlock ∧ ∀ k, v'.ownBlock = some k → v.ownBlock = some k ∨ w.heap.size ≤ k := by
  subst hby
  have hsmall : n + s.size ≤ 9223372036854775807 := by simp only [maxLen] at h63; omega
  have hxl : xs.length = n := by simpa using hown.1
  have hlen : (xs ++ Lib.strCells s).length = (n + s.size) * 1 := by rw [List.length_append, hxl, Lib.strCells_length, Nat.mul_one]
  have grown : ∀ (old : Nat), old < n + s.size → ∀ (row : Option Nat),
      (w.drew.alloc (.cells (xs.toArray ++ (Lib.strCells s).toArray ++ Builtin.zeroCells z.cells (grownCap w (n + s.size) old e - (n + s.size))) e)).ownsRow 0 e 1
        (.slice (some ⟨w.heap.size, 0, none⟩) (n + s.size) (grownCap w (n + s.size) old e)) (n + s.size) (xs ++ Lib.strCells s) ∧
      w.grownBy (w.drew.alloc (.cells (xs.toArray ++ (Lib.strCells s).toArray ++ Builtin.zeroCells z.cells (grownCap w (n + s.size) old e - (n + s.size))) e)) row := by
    intro old ho row
    have hge := grownCap_ge w (n + s.size) old e
    have hcm : grownCap w (n + s.size) old e ≤ maxLen := grownCap_le_maxLen w (n + s.size) old e h63
    refine ⟨⟨hlen, .inr ⟨w.heap.size, _, _, rfl, Nat.zero_le _, heap_alloc_new w.drew _, hge, hcm, ?_, ?_⟩⟩, ⟨rfl, rfl, rfl, by simp, fun k hk _ => by first | exact heap_alloc_old w.drew _ hk | exact heap_alloc_old w.drew _ k hk⟩⟩
    · simp only [Array.size_append, List.size_toArray, size_zeroCells, hzs, hxl, Lib.strCells_length]
      omega
    · simp only [Array.toList_append, List.append_assoc]
      rw [← List.append_assoc, ← hlen]
      exact List.take_left
  rcases hown.2 with ⟨rfl, rfl⟩ | ⟨g, cap, cur, rfl, hbg, hg, hnc, hcm, hcs, htake⟩
  · have hx : xs = [] := List.eq_nil_of_length_eq_zero hxl
    subst hx
    by_cases hm : s.size = 0
    · have hn : Lib.strCells s = [] := List.eq_nil_of_length_eq_zero (by rw [Lib.strCells_length]; exact hm)
      refine ⟨.slice none 0 0, w, ?_, by rw [hm, hn]; exact World.ownsRow_nil w 0 e 1, ⟨rfl, rfl, rfl, Nat.le_refl _, fun _ _ _ => rfl⟩, fun k hk => .inl hk⟩
      have hf := Lib.run_firstCells_string (P := P) w 1 s
      rw [hm] at hf
      simp [Builtin.append_, run_underlying ht, run_underlying hu, sizeOf, typeInfo, hi, hsize, Builtin.lenOf, hm, hf]
    · have hr := run_append_nil_string (P := P) w t u ty e i z ht hu hi hz s (by omega) (by omega) (by have h9 := hbytes; rw [Nat.zero_add] at h9; omega)
      have hgr := grown 0 (by omega) (Value.ownBlock (.slice none 0 0))
      simp only [Nat.zero_add, List.nil_append, Array.empty_append] at hgr ⊢
      have e1 : (s.data.map fun b => Value.int .u8 b.toNat) = (Lib.strCells s).toArray := by
        apply Array.ext'
        simp [Lib.strCells]
      rw [e1] at hr
      refine ⟨_, _, hr, hgr.1, hgr.2, fun k hk => .inr ?_⟩
      simp [Value.ownBlock] at hk
      omega
  · by_cases hroom : n + s.size ≤ cap
    · have hcs' : cur.size = cap := by simpa using hcs
      have hr := Lib.run_append_room_string (P := P) w t u ty e i ht hu hi hsize g n cap cur hg s hroom (by omega)
      refine ⟨_, _, hr, ⟨hlen, .inr ⟨g, cap, _, rfl, hbg, setRow_heap w g cur _ e _ hg, hroom, hcm, ?_, ?_⟩⟩, ⟨rfl, rfl, rfl, by simp, fun k _ hk => setRow_other w g k _ (fun e => hk (by simp [Value.ownBlock, e]))⟩, fun k hk => .inl hk⟩
      · simp only [List.size_toArray, List.length_append, List.length_take, List.length_drop, Array.length_toList, Lib.strCells_length]
        omega
      · have ht' : cur.toList.take n = xs := by simpa using htake
        rw [ht', ← hlen]
        exact List.take_left
    · have holds : ∀ j u, xs[j]? = some u → w.cell? ((⟨g, 0, none⟩ : Addr).add j) = some u := hown.cells (g := g) rfl
      have hr := Lib.run_append_grow_string (P := P) w t u ty e i z ht hu hi hz ⟨g, 0, none⟩ n cap xs (by rw [hsize]; simpa using hxl) holds s (by omega) (by omega) (growslice_fits (by omega) hbytes)
      have hgr := grown cap (by omega) (Value.ownBlock (.slice (some ⟨g, 0, none⟩) n cap))
      refine ⟨_, _, hr, hgr.1, hgr.2, fun k hk => .inr ?_⟩
      simp [Value.ownBlock] at hk
      omega
theorem elems_str {S : Nat → Prop} {w : World} : ∀ l : List UInt8, Elems eCh S (l.map UInt8.toNat) (l.map fun b => Value.int .u8 b.toNat) w
  | [] => rfl
  | b :: l => ⟨[_], _, rfl, ⟨rfl, b.toNat_lt⟩, elems_str l⟩
section
variable {P : Program} {we : World} {Se : Nat → Prop} {ms : List MF} {Γ : List FF} {env : Env} {d : Option Tmp} {ty t t' : TypeId} {pos : String} {aft : Array Edge} {g : Option (Nat × Bool)} {x y : Operand}
theorem og_appendS {et : TypeId} {xs : List Nat} {s : ByteArray} {v : Value} {bytes : Nat} {zero : Value} (i : Nat) (ht : P.underlying t = some (.slice et)) (hu : P.underlying t' = some .string) (het : TyF P et false 1 bytes zero) (hzs : zero.cells.size = 1)
    (hm : ms[i]? = some (mO eCh et v xs)) (hx : ev env x = v) (hy : ev env y = .string s)
    (h63 : xs.length + s.size ≤ 9223372036854775807) (hb : (xs.length + s.size) * bytes ≤ 140737488355328) : OG P ⟨d, .call ⟨.builtin .append, #[x, y], #[t, t']⟩, ty, pos, aft, g⟩ env we Se ms Γ (fun v' => v') (fun v' => (ms.set i (mO eCh et v' (xs ++ bytesN s)))) (fun _ => Γ) (fun _ => True) := by
  intro w hst
  obtain ⟨S, _, ⟨cs, ho, he⟩, h8, _⟩ := hst.mut hm
  obtain ⟨i', hi, i1, i2, i3⟩ := het.info
  obtain ⟨v', w', hr, ho', hg, hbk⟩ := run_appendS (P := P) w t t' ty et i' zero bytes ht hu hi i3 hzs i1 i2 v xs.length cs ho s (by unfold maxLen; omega) hb
  refine OpR.of_value (w' := w') (v := v') ?_ ⟨v', rfl, trivial, hst.grow hm ⟨hg.os, hg.tape, hg.output, hg.size, fun j hj hs => hg.block j hj (fun e => hs e.symm)⟩ hbk ?_⟩
  · simp only [execOp, resolve, invoke, builtin, List.map_toArray, List.map_cons, List.map_nil, hx, hy, Sem.run_bind, hr, Sem.run_pure, Result.andThen_ok]
  · intro S hS ⟨cs2, ho2, he2⟩ hΓ
    have hcs : cs2 = cs := by
      rcases ho.2 with ⟨rfl, h0⟩ | ⟨g, cap, cur, rfl, _, hgg, _, _, _, htk⟩
      · have a1 := ho.1; have a2 := ho2.1
        rw [h0] at a1 a2
        have c1 : cs = [] := List.eq_nil_of_length_eq_zero (by simpa using a1)
        have c2 : cs2 = [] := List.eq_nil_of_length_eq_zero (by simpa using a2)
        rw [c1, c2]
      · rcases ho2.2 with ⟨hc, _⟩ | ⟨g', cap', cur', hv', _, hgg', _, _, _, htk'⟩
        · cases hc
        · cases hv'
          rw [hgg] at hgg'
          cases hgg'
          rw [← htk, ← htk']
    subst hcs
    have kk : Keeps S w w' := ⟨hg.os, hg.tape, hg.output, hg.size, fun k hk hs => hg.block k hk (fun e => hS k hs e.symm)⟩
    refine ⟨_, by rw [List.length_append, bytesN_len]; exact ho', (he2.keep kk).append ?_⟩
    exact elems_str s.data.toList
end
end
section
section
variable {P : Program} {cf : Cf} {fr : Fr} {cx σ : Sg} {vs vs' : Nat → Value} {env : Env} {w : World} {R : Type} {r : R}
  {d : Option Tmp} {ty t yt : TypeId} {pos : String} {aft : Array Edge} {g : Option (Nat × Bool)} {x y : Operand}
theorem r_sliceN {et : TypeId} {ag : Bool} {sz bytes : Nat} {zero : Value} {hi : Operand} (hx : ev env x = .slice none 0 0) (ht : P.underlying t = some (.slice et)) (het : TyF P et ag sz bytes zero)
    (hh : ev env hi = .int .i64 ((0 : Nat) : Int)) (w : World) : (execOp (ev env) ⟨d, .slice t x none (some hi) none, ty, pos, aft, g⟩).run P w = .ok (.value (.slice none 0 0)) w := by
  have b1 : (0 : Int) ≤ ((0 : Nat) : Int) ∧ ((0 : Nat) : Int) ≤ ((0 : Nat) : Int) := by omega
  have hrun : (Instr.sliceAt t (.slice none 0 0) none (some (.int .i64 ((0 : Nat) : Int))) none).run P w = .ok (.slice none 0 0) w := by
    unfold Instr.sliceAt
    simp only [Sem.run_bind, run_underlying ht, Result.andThen_ok]
    unfold Instr.slice
    simp only [Sem.run_bind, run_underlying ht, Result.andThen_ok]
    unfold Instr.sliceBounds
    simp [Instr.sliceBound, asIntOf, Sem.run_bind, Sem.run_pure, Result.andThen_ok, run_sizeOf het]
  simp [execOp, hx, hh] at hrun ⊢
  simp [hrun]
theorem os_del {i o : Nat} {X : Od} {Y : MF} (hi : σ.ob[i]? = some (o, X)) (hdel : delo σ.ob o = σ.ob.eraseIdx i) {Γ : List FF} (h : St fr.we fr.Se ((OS vs fr cx σ.ob).set i Y) Γ w) : St fr.we fr.Se (Y :: OS vs fr cx (delo σ.ob o)) Γ w := by
  have := St.front i h (get_set (ms_idx hi))
  rw [erase_set, ms_erase hi, ← hdel] at this
  exact this
theorem m_slice (hT : TTok P cf.tt) (hL : ELok P cf.tt) {o : Nat} {hi : Operand} {k : Sg → Option R} (hd : okPut cx d = true) (hx : opv cx σ x = some (.ow o)) (h : mSlice cf cx σ d t o hi k = some r) :
    MOK P cx ⟨d, .slice t x none (some hi) none, ty, pos, aft, g⟩ σ k r := by
  unfold mSlice at h
  split at h
  · next s1 E1 B s E xs ht ho =>
    obtain ⟨hss, h1⟩ := cast_s h
    cases hss
    rcases bnd_s h1 with ⟨e, _⟩ | ⟨z, m, e, h2, hz⟩
    · cases e
    · cases e
      obtain ⟨hm, h3⟩ := ck_s h2
      obtain ⟨ys, hys, h4⟩ := nm_s h3
      obtain ⟨bytes, zero, het⟩ := ty_el hT hL ht
      refine ⟨_, h4, Nat.le_succ _, fun fr vs env w hR => ?_⟩
      obtain ⟨hB, hst⟩ := hR
      obtain ⟨S0, _, hΓ⟩ := hst.ex
      have hxe : ev env x = vs o := opv_hold hx (gs_lko hΓ x)
      have hhi := hz P vs env S0 w (gs_lko hΓ hi)
      obtain ⟨i, hi', hset, hdel⟩ := fndO_some ho
      have hmi : (OS vs fr cx σ.ob)[i]? = some (mO s1.rep E (vs o) xs) := ms_idx hi'
      have fin : ∀ v, (execOp (ev env) ⟨d, .slice t x none (some hi) none, ty, pos, aft, g⟩).run P w = .ok (.value v) w → St fr.we fr.Se ((OS vs fr cx σ.ob).set i (mO s1.rep E v ys)) (GS P vs env fr cx σ) w →
          OpR P ⟨d, .slice t x none (some hi) none, ty, pos, aft, g⟩ env w (fun v w' => RelX P fr cx σ.nx vs ⟨σ.nx + 1, putR σ.rg d [(0, .ow σ.nx)], (σ.nx, .own s1 E ys) :: delo σ.ob o⟩ (put env d v) w') := by
        intro v hrun hs
        refine OpR.of_value hrun (rel_new (vs := vs) (mk := .ow) hB hd (fun e he => hB.o1 e (delo_mem e he)) (fun _ => rfl) (fun S w => hold_ow S w) ?_)
        rw [mo_own]
        exact os_del hi' hdel hs
      rcases Nat.eq_zero_or_pos (List.length xs) with h0 | h0
      · have hm0 : m = 0 := by have : m ≤ List.length xs := hm; omega
        subst hm0
        have hyx : ys = xs := by rw [hys]; exact (List.length_eq_zero_iff.1 h0).symm ▸ rfl
        subst hyx
        have hid : (OS vs fr cx σ.ob).set i (mO s1.rep E (vs o) ys) = OS vs fr cx σ.ob := by
          apply List.ext_getElem?
          intro j
          rw [List.getElem?_set]
          split
          · next hij =>
            subst hij
            split
            · exact hmi.symm
            · next hlt => exact absurd (List.getElem?_eq_some_iff.1 hmi).1 hlt
          · rfl
        have hv : vs o = .slice none 0 0 ∨ ∃ b cap, vs o = .slice (some ⟨b, 0, none⟩) 0 cap := mut_frame hst hmi fun S ⟨cs, h5, _⟩ => by
          rcases h5.2 with ⟨h, _⟩ | ⟨b, cap, cur, h, _⟩
          · exact .inl h
          · rw [h0] at h; exact .inr ⟨b, cap, h⟩
        rcases hv with hv | ⟨b, cap, hv⟩
        · exact fin _ (r_sliceN (hxe.trans hv) (tk_sl hT ht) het hhi w) (by rw [← hv, hid]; exact hst)
        · exact fin _ (r_sliceT (hxe.trans hv) (tk_sl hT ht) het hhi (Nat.zero_le _) w) (by rw [← hv, hid]; exact hst)
      · obtain ⟨b, cap, hv, hc1, hc2, hs⟩ := hst.openO i hmi h0
        have hs2 := hs.closeO i m (get_set hmi) hm (Nat.le_trans hm hc1) hc2
        rw [set_set] at hs2
        exact fin _ (r_sliceT (hxe.trans hv) (tk_sl hT ht) het hhi (Nat.le_trans hm hc1) w) (by rw [hys]; exact hs2)
  · cases h
theorem m_app2 (hT : TTok P cf.tt) {t' : TypeId} {same : Bool} {ti : TI} {E : TypeId} {ob : List (Nat × Od)} {xs : List ti.ty.D} {k : Sg → Option R} (ht : P.underlying t = some (.slice E)) (hti : tyA cf E = some ti) (hd : okPut cx d = true)
    (hsame : same = true → t = t') (h : mApp2 cf cx σ d t' same ti.ty E ti.B ti.ty.z y ob xs k = some r) :
    ∃ σ', k σ' = some r ∧ σ.nx ≤ σ'.nx ∧ ∀ (fr : Fr) (vs : Nat → Value) (env : Env) (w : World) (u : Value), Bd cx σ → (∀ e ∈ ob, e.1 < σ.nx) → ev env x = u → St fr.we fr.Se (mO ti.ty.rep E u xs :: OS vs fr cx ob) (GS P vs env fr cx σ) w →
      OpR P ⟨d, .call ⟨.builtin .append, #[x, y], #[t, t']⟩, ty, pos, aft, g⟩ env w (fun v w' => RelX P fr cx σ.nx vs σ' (put env d v) w') := by
  obtain ⟨zero, hz1, hz2, hz3⟩ := ty_of hT hti
  have hpos := (hT _ _ hti).2.1
  have hn := (hT _ _ hti).2.2.1
  have bnd : ∀ m, m * ti.B ≤ 140737488355328 → m ≤ 9223372036854775807 := fun m hm => by
    have := Nat.le_mul_of_pos_right m hpos
    omega
  unfold mApp2 at h
  split at h
  · next n hn' =>
    split at h
    · next q ik B' ht' =>
      obtain ⟨j, hj, h⟩ := ckN_s h
      obtain ⟨hb, h⟩ := ck_s h
      obtain ⟨zs, hzs, h⟩ := nm_s h
      refine ⟨_, h, Nat.le_succ _, fun fr vs env w u hB hob hx hst => ?_⟩
      obtain ⟨S0, _, hΓ⟩ := hst.ex
      refine (og_appendZ (e := ti.ty.rep) (z := ti.ty.z) (n := j) 0 ht (tk_int hT ht') hz1 hz2 hn rfl hx (by rw [(pd_i hn' (gs_lko hΓ y)).1, hj]) hz3 (bnd _ hb) hb w hst).mono ?_
      rintro v w' ⟨v', rfl, _, hs⟩
      refine rel_new (vs := vs) (mk := .ow) hB hd hob (fun _ => rfl) (fun S w => hold_ow S w) ?_
      rw [mo_own, hzs]
      exact hs
    · cases h
  · next ys hy =>
    split at h
    · next q B' ht' =>
      obtain ⟨hse, h⟩ := cast_s h
      obtain ⟨hb, h⟩ := ck_s h
      obtain ⟨zs, hzs, h⟩ := nm_s h
      refine ⟨_, h, Nat.le_succ _, fun fr vs env w u hB hob hx hst => ?_⟩
      obtain ⟨S0, _, hΓ⟩ := hst.ex
      obtain ⟨s, hv, hs1, hs2⟩ := fV_tx (pd_hold hy (gs_lko hΓ y))
      have hs1 : bytesN s = ys := hs1
      have hl : List.length (α := Nat) ys = s.size := (congrArg List.length hs1).symm.trans (bytesN_len s)
      rcases ti with ⟨q0, k0, B0⟩
      have hse : Ty.l .ch = Ty.l q0 := hse
      cases hse
      have hb : (List.length xs + List.length (α := Nat) ys) * B0 ≤ 140737488355328 := hb
      rw [hl] at hb
      refine (og_appendS (s := s) (xs := xs) (bytes := B0) 0 ht (tk_str hT ht') hz1 hz2 rfl hx hv (bnd _ hb) hb w hst).mono ?_
      rintro v w' ⟨v', rfl, _, hs⟩
      refine rel_new (vs := vs) (mk := .ow) hB hd hob (fun _ => rfl) (fun S w => hold_ow S w) ?_
      rw [mo_own, hzs]
      rw [hs1] at hs
      exact hs
    · cases h
  · split at h
    · next o2 t2 lo n hy =>
      split at h
      · next s2 E2 zs0 ho2 =>
        obtain ⟨hs', h⟩ := grd_s h
        obtain rfl := hsame hs'
        obtain ⟨hse, h⟩ := cast_s h
        cases hse
        obtain ⟨hse, h⟩ := cast_s h
        cases hse
        obtain ⟨ys, hys, h⟩ := nm_s h
        obtain ⟨hb, h⟩ := ck_s h
        obtain ⟨zs, hzs, h⟩ := nm_s h
        refine ⟨_, h, Nat.le_succ _, fun fr vs env w u hB hob hx hst => ?_⟩
        obtain ⟨S0, _, hΓ⟩ := hst.ex
        have hv := opv_hold hy (gs_lko hΓ y)
        refine (og_appendQ (e := ti.ty.rep) (ys := ys) 0 ht hz1 hz2 hn rfl hx rfl (fun S w hM ha => ?_) (bnd _ hb) hb w hst).mono ?_
        · have hm : (mO ti.ty.rep E2 (vs o2) zs0).p S w := geto_M (σ := ⟨σ.nx, σ.rg, ob⟩) (F := fr.F) hM.2 ho2
          rcases hv with ⟨b, m, cap, c, q1, q2, q3, q4, q5⟩ | ⟨q1, ao, c, q2, q3⟩
          · rw [q5, hys]
            exact mo_view hm q1 q2 q3 q4
          · subst q1
            rw [q3, hys]
            exact ⟨ao, c, by simp, by simp, by unfold maxLen; omega, .inl (by simp)⟩
        rintro v w' ⟨v', rfl, _, hs⟩
        refine rel_new (vs := vs) (mk := .ow) hB hd hob (fun _ => rfl) (fun S w => hold_ow S w) ?_
        rw [mo_own, hzs]
        exact hs
      · cases h
    obtain ⟨hs', h⟩ := grd_s h
    obtain rfl := hsame hs'
    obtain ⟨ys, h, hys⟩ := asO_s h
    obtain ⟨hb, h⟩ := ck_s h
    obtain ⟨zs, hzs, h⟩ := nm_s h
    refine ⟨_, h, Nat.le_succ _, fun fr vs env w u hB hob hx hst => ?_⟩
    refine (og_append (e := ti.ty.rep) (ys := ys) 0 ht hz1 hz2 hn rfl hx rfl (fun S w ha => hys P vs env S w (gs_lko ha y)) (bnd _ hb) hb w hst).mono ?_
    rintro v w' ⟨v', rfl, _, hs⟩
    refine rel_new (vs := vs) (mk := .ow) hB hd hob (fun _ => rfl) (fun S w => hold_ow S w) ?_
    rw [mo_own, hzs]
    exact hs
theorem m_app (hT : TTok P cf.tt) {ags : Array Operand} {ts : Array TypeId} {k : Sg → Option R} (hd : okPut cx d = true) (h : mApp cf cx σ d ags.toList ts.toList k = some r) :
    MOK P cx ⟨d, .call ⟨.builtin .append, ags, ts⟩, ty, pos, aft, g⟩ σ k r := by
  unfold mApp at h
  split at h
  · next _ _ x y t t' hags hts =>
    obtain rfl : ags = #[x, y] := by cases ags; simp_all
    obtain rfl : ts = #[t, t'] := by cases ts; simp_all
    split at h
    · next s E B ht =>
      split at h
      · next ti hti =>
        obtain ⟨hse, h1⟩ := cast_s h
        subst hse
        split at h1
        · next hx =>
          obtain ⟨σ', h5, h6, h7⟩ := m_app2 (ty := ty) (pos := pos) (aft := aft) (g := g) (x := x) hT (tk_sl hT ht) hti hd (fun h => beq_t h) h1
          refine ⟨σ', h5, h6, fun fr vs env w hR => ?_⟩
          obtain ⟨hB, hst⟩ := hR
          obtain ⟨S0, _, hΓ⟩ := hst.ex
          exact h7 fr vs env w _ hB hB.o1 (opv_hold hx (gs_lko hΓ x)) hst.nilO
        · next o hx =>
          split at h1
          · next s' E' xs ho =>
            obtain ⟨hE, h2⟩ := grd_s h1
            have hE := beq_t hE
            subst hE
            obtain ⟨hss, h3⟩ := cast_s h2
            cases hss
            obtain ⟨σ', h5, h6, h7⟩ := m_app2 (ty := ty) (pos := pos) (aft := aft) (g := g) (x := x) hT (tk_sl hT ht) hti hd (fun h => beq_t h) h3
            refine ⟨σ', h5, h6, fun fr vs env w hR => ?_⟩
            obtain ⟨hB, hst⟩ := hR
            obtain ⟨S0, _, hΓ⟩ := hst.ex
            obtain ⟨i, hi', hset, hdel⟩ := fndO_some ho
            have hmi : (OS vs fr cx σ.ob)[i]? = some (mO ti.ty.rep E' (vs o) xs) := ms_idx hi'
            have hst2 := hst.front i hmi
            rw [ms_erase hi', ← hdel] at hst2
            exact h7 fr vs env w _ hB (fun e he => hB.o1 e (delo_mem e he)) (opv_hold hx (gs_lko hΓ x)) hst2
          · cases h1
        · cases h1
      · cases h
    · cases h
  · cases h
theorem cpy_len {α : Type} (xs ys : List α) : (cpy xs ys).length = xs.length := by grind [cpy, List.length_append, List.length_take, List.length_drop]
theorem cpy_nil {α : Type} {xs : List α} (ys : List α) (h : xs.length = 0) : cpy xs ys = xs := by grind [cpy, List.length_eq_zero_iff]
theorem cpy_eq {α : Type} (xs ys : List α) : List.take 0 xs ++ List.take (min ys.length xs.length) ys ++ List.drop (0 + min ys.length xs.length) xs = cpy xs ys := by simp [cpy]
theorem cpyAt_zero {α : Type} (lo : Nat) (xs ys : List α) : cpyAt lo 0 xs ys = xs := by simp [cpyAt]
theorem cpyAt_len {α : Type} {lo n : Nat} {xs : List α} (ys : List α) (h : lo + n ≤ xs.length) : (cpyAt lo n xs ys).length = xs.length := by grind [cpyAt, List.length_append, List.length_take, List.length_drop]
theorem m_copy (hT : TTok P cf.tt) (hL : ELok P cf.tt) {ags : Array Operand} {ts : Array TypeId} {k : Sg → Option R} (hd : okPut cx d = true) (h : mCopy cf cx σ d ags.toList ts.toList k = some r) :
    MOK P cx ⟨d, .call ⟨.builtin .copy, ags, ts⟩, ty, pos, aft, g⟩ σ k r := by
  unfold mCopy at h
  split at h
  · next x y t t' hag hts =>
    obtain rfl : ags = #[x, y] := by cases ags; simp_all
    obtain rfl : ts = #[t, t'] := by cases ts; simp_all
    split at h
    · next s E B o ht hx =>
      split at h
      · next s' E' xs ho =>
        obtain ⟨hss, h⟩ := cast_s h
        cases hss
        obtain ⟨ys, h, hy⟩ := asO_s h
        obtain ⟨zs, hzs, h⟩ := nm_s h
        have hzs : zs = cpy (α := s.D) xs ys := hzs
        obtain ⟨bytes, zero, het⟩ := ty_el hT hL ht
        refine ⟨_, h, Nat.le_refl _, fun fr vs env w hR => ?_⟩
        obtain ⟨hB, hst⟩ := hR
        obtain ⟨S0, _, hΓ⟩ := hst.ex
        have hxe : ev env x = vs o := opv_hold hx (gs_lko hΓ x)
        obtain ⟨i, hi, hset, hdel⟩ := fndO_some ho
        have hm : (OS vs fr cx σ.ob)[i]? = some (mO s.rep E' (vs o) xs) := ms_idx hi
        have fin : ∀ v w', St fr.we fr.Se ((OS vs fr cx σ.ob).set i (mO s.rep E' (vs o) zs)) (GS P vs env fr cx σ) w' → RelX P fr cx σ.nx vs ⟨σ.nx, putR σ.rg d [], seto σ.ob o (.own s E' zs)⟩ (put env d v) w' := fun v w' hs => by
          refine rel_mk (σ' := ⟨σ.nx, putR σ.rg d [], seto σ.ob o (.own s E' zs)⟩) (d := d) (l := []) (vs := vs) (vs' := vs) (Γl := []) hB hd rfl (Nat.le_refl _) (fun _ _ => rfl) (fun _ he => absurd he List.not_mem_nil) (fun e he => ?_) (fun S w _ e he => absurd he List.not_mem_nil) ?_
          · obtain ⟨e', h1, h2⟩ := seto_mem ho e he
            rw [← h2]; exact hB.o1 e' h1
          · rw [hset]
            show St _ _ (MS vs (σ.ob.set i (o, .own s E' zs)) ++ _) _ _
            rw [← ms_set hi]
            exact hs
        rcases Nat.eq_zero_or_pos (List.length xs) with h0 | h0
        · have hv : vs o = .slice none 0 0 ∨ ∃ b cap, vs o = .slice (some ⟨b, 0, none⟩) 0 cap := mut_frame hst hm fun S ⟨cs, h5, _⟩ => by
            rcases h5.2 with ⟨h, _⟩ | ⟨b, cap, cur, h, _⟩
            · exact .inl h
            · rw [h0] at h; exact .inr ⟨b, cap, h⟩
          obtain ⟨ba, cap, hv⟩ : ∃ ba cap, vs o = .slice ba 0 cap := by
            rcases hv with hv | ⟨b, cap, hv⟩
            · exact ⟨_, _, hv⟩
            · exact ⟨_, _, hv⟩
          obtain ⟨ao, scap, hu, _⟩ := fV_slice.1 (hy P vs env S0 w (gs_lko hΓ y))
          obtain ⟨ti, hi2, i1, i2, i3⟩ := het.info
          have hs1 : (P.info? E).map (·.size) = some s.rep.n := by rw [hi2]; simp [i1]
          have hr := run_copy_noneN (P := P) w t t' ty E ba ao 0 cap (List.length ys) scap (tk_sl hT ht) hs1 (Nat.min_zero _)
          rw [← hu, ← hv, ← hxe] at hr
          have hz : zs = xs := hzs.trans (cpy_nil (α := s.D) ys h0)
          refine OpR.of_value (v := goInt 0) (w' := w) ?_ (fin _ w ?_)
          · simp only [execOp, resolve, invoke, builtin, List.map_toArray, List.map_cons, List.map_nil, Sem.run_bind, hr, Sem.run_pure, Result.andThen_ok]
          · have : (OS vs fr cx σ.ob).set i (mO s.rep E' (vs o) xs) = OS vs fr cx σ.ob := by
              obtain ⟨hi', h2'⟩ := List.getElem?_eq_some_iff.1 hm
              rw [← h2', List.set_getElem_self]
            rw [hz, this]; exact hst
        · obtain ⟨b, cap, hv, hc1, hc2, hs⟩ := hst.openO i hm h0
          refine (og_copyM (e := s.rep) (l := 0) (dLen := List.length xs) (dCap := cap) i (tk_sl hT ht) het (get_set hm) (by rw [hxe, hv]; simp) rfl (by omega) (fun S w ha => hy P vs env S w (gs_lko ha y)) w hs).mono ?_
          rintro v w' ⟨n, rfl, _, hs'⟩
          refine fin _ w' ?_
          have hz := (cpy_eq (α := s.D) xs ys).trans hzs.symm
          rw [hz] at hs'
          have hlen : List.length zs = List.length xs := by rw [hzs]; exact cpy_len (α := s.D) xs ys
          have hs2 := hs'.closeF i (get_set (get_set hm)) (by rw [hlen]; exact hc1) hc2
          rw [set_set, set_set, hlen, ← hv] at hs2
          exact hs2
      · cases h
    · next s E B o t2 lo n ht hx =>
      split at h
      · next s' E' xs hsame ho _ =>
        obtain ⟨hss, h⟩ := cast_s h
        cases hss
        obtain ⟨ys, h, hy⟩ := asO_s h
        obtain ⟨zs, hzs, h⟩ := nm_s h
        have hzs : zs = cpyAt (α := s.D) lo n xs ys := hzs
        obtain ⟨hsame⟩ := hsame
        subst hsame
        obtain ⟨bytes, zero, het⟩ := ty_el hT hL ht
        refine ⟨_, h, Nat.le_refl _, fun fr vs env w hR => ?_⟩
        obtain ⟨hB, hst⟩ := hR
        obtain ⟨S0, _, hΓ⟩ := hst.ex
        have hxe := opv_hold hx (gs_lko hΓ x)
        obtain ⟨i, hi, hset, hdel⟩ := fndO_some ho
        have hm : (OS vs fr cx σ.ob)[i]? = some (mO t2.rep E' (vs o) xs) := ms_idx hi
        have fin : ∀ v w', St fr.we fr.Se ((OS vs fr cx σ.ob).set i (mO t2.rep E' (vs o) zs)) (GS P vs env fr cx σ) w' → RelX P fr cx σ.nx vs ⟨σ.nx, putR σ.rg d [], seto σ.ob o (.own t2 E' zs)⟩ (put env d v) w' := fun v w' hs => by
          refine rel_mk (σ' := ⟨σ.nx, putR σ.rg d [], seto σ.ob o (.own t2 E' zs)⟩) (d := d) (l := []) (vs := vs) (vs' := vs) (Γl := []) hB hd rfl (Nat.le_refl _) (fun _ _ => rfl) (fun _ he => absurd he List.not_mem_nil) (fun e he => ?_) (fun S w _ e he => absurd he List.not_mem_nil) ?_
          · obtain ⟨e', h1, h2⟩ := seto_mem ho e he
            rw [← h2]; exact hB.o1 e' h1
          · rw [hset]
            show St _ _ (MS vs (σ.ob.set i (o, .own t2 E' zs)) ++ _) _ _
            rw [← ms_set hi]
            exact hs
        rcases Nat.eq_zero_or_pos n with h0 | h0
        · obtain ⟨ba, c, hv⟩ : ∃ ba c, ev env x = .slice ba 0 c := by
            rcases hxe with ⟨b, m, cap, c, q1, q2, q3, q4, q5⟩ | ⟨q1, ao, c, q2, q3⟩
            · exact ⟨_, c, by rw [q5, h0]⟩
            · exact ⟨ao, c, q3⟩
          obtain ⟨ao, scap, hu, _⟩ := fV_slice.1 (hy P vs env S0 w (gs_lko hΓ y))
          obtain ⟨ti, hi2, i1, i2, i3⟩ := het.info
          have hs1 : (P.info? E).map (·.size) = some t2.rep.n := by rw [hi2]; simp [i1]
          have hr := run_copy_noneN (P := P) w t t' ty E ba ao 0 c (List.length ys) scap (tk_sl hT ht) hs1 (Nat.min_zero _)
          rw [← hu, ← hv] at hr
          have hz : zs = xs := by rw [hzs, h0]; exact cpyAt_zero (α := t2.D) lo xs ys
          refine OpR.of_value (v := goInt 0) (w' := w) ?_ (fin _ w ?_)
          · simp only [execOp, resolve, invoke, builtin, List.map_toArray, List.map_cons, List.map_nil, Sem.run_bind, hr, Sem.run_pure, Result.andThen_ok]
          · have : (OS vs fr cx σ.ob).set i (mO t2.rep E' (vs o) xs) = OS vs fr cx σ.ob := by
              obtain ⟨hi', h2'⟩ := List.getElem?_eq_some_iff.1 hm
              rw [← h2', List.set_getElem_self]
            rw [hz, this]; exact hst
        · rcases hxe with ⟨b0, m, cap0, c, q1, q2, q3, q4, q5⟩ | ⟨q1, ao, c, q2, q3⟩
          · have hml : m = List.length xs := mut_frame hst hm fun S hp => own_pos hp q1
            subst hml
            obtain ⟨b, cap, hv, hc1, hc2, hs⟩ := hst.openO i hm (by omega)
            rw [q1] at hv; cases hv
            refine (og_copyM (e := t2.rep) (l := lo) (dLen := n) (dCap := c) i (tk_sl hT ht) het (get_set hm) q5 rfl q2 (fun S w ha => hy P vs env S w (gs_lko ha y)) w hs).mono ?_
            rintro v w' ⟨nn, rfl, _, hs'⟩
            refine fin _ w' ?_
            have hs' : St fr.we fr.Se (((OS vs fr cx σ.ob).set i (mB (rowT t2.rep cap0) E' b0 xs)).set i (mB (rowT t2.rep cap0) E' b0 (cpyAt (α := t2.D) lo n xs ys))) (GS P vs env fr cx σ) w' := hs'
            rw [← hzs] at hs'
            have hlen : List.length zs = List.length xs := by rw [hzs]; exact cpyAt_len (α := t2.D) ys q2
            have hs2 := hs'.closeF i (get_set (get_set hm)) (by rw [hlen]; exact hc1) hc2
            rw [set_set, set_set, hlen, ← q1] at hs2
            exact hs2
          · omega
      · cases h
    · cases h
  · cases h
end
end
section
section
variable {P : Program} {cf : Cf} {fr : Fr} {cx σ : Sg} {vs vs' : Nat → Value} {env : Env} {w : World} {R : Type} {r : R}
  {d : Option Tmp} {ty t yt : TypeId} {pos : String} {aft : Array Edge} {g : Option (Nat × Bool)} {x y : Operand}
theorem beq_f {a b : Nat} (h : a ≠ b) : Nat.beq a b = false := beq_no h
theorem fndO_delo : ∀ {ob : List (Nat × Od)} {o p : Nat}, p ≠ o → fndO (delo ob o) p = fndO ob p
  | [], _, _, _ => rfl
  | (q, X) :: r, o, p, h => by
    unfold delo
    cases hb : Nat.beq q o
    · simp only [cond_false]
      unfold fndO
      rw [fndO_delo h]
    · simp only [cond_true]
      have := beq_t hb
      subst this
      conv => rhs; unfold fndO
      rw [beq_f (fun e => h e.symm)]; rfl
theorem fndO_delos {ob : List (Nat × Od)} {p : Nat} : ∀ {os : List Nat}, has os p = false → fndO (delos ob os) p = fndO ob p
  | [], _ => rfl
  | o :: r, h => by
    simp only [has, List.any_cons, Bool.or_eq_false_iff] at h
    unfold delos
    rw [fndO_delo (fun e => by subst e; simp at h), fndO_delos h.2]
theorem delos_mem {ob : List (Nat × Od)} : ∀ {os : List Nat}, ∀ e ∈ delos ob os, e ∈ ob
  | [], _, h => h
  | o :: r, e, h => delos_mem (os := r) e (delo_mem e h)
theorem perm_er {α : Type _} : ∀ {l : List α} {i : Nat} {a : α}, l[i]? = some a → l.Perm (a :: l.eraseIdx i)
  | [], _, _, h => by simp at h
  | b :: l, 0, a, h => by simp at h; subst h; exact List.Perm.refl _
  | b :: l, i + 1, a, h => ((perm_er (l := l) (i := i) (by simpa using h)).cons b).trans (List.Perm.swap _ _ _)
theorem os_perm {ob : List (Nat × Od)} {o : Nat} {X : Od} (h : fndO ob o = some X) : (OS vs fr cx ob).Perm (moF vs (o, X) :: OS vs fr cx (delo ob o)) := by
  obtain ⟨i, h1, _, h3⟩ := fndO_some h
  show (MS vs ob ++ (MS vs cx.ob ++ fr.F)).Perm (moF vs (o, X) :: (MS vs (delo ob o) ++ (MS vs cx.ob ++ fr.F)))
  rw [h3, ← ms_erase h1]
  exact perm_er (ms_idx h1)
theorem argsG_s (hC : ∀ s ∈ cf.cs, SigOK P s) : ∀ {dom : List AM} {xs : List Operand} {cs : List PD} {k : AsD dom → List Nat → Option R}, argsG cf cx σ dom xs cs k = some r →
    ∃ z os, k z os = some r ∧ xs.length + cs.length = dom.length ∧ (∀ o ∈ os, ∃ X, (o, X) ∈ σ.ob) ∧ ∀ vs (fr : Fr) env S w, (∀ x, LkO P vs env S w cx σ x) → ∀ cvs : List Value, cvs.length = cs.length → All S (capF cs cvs) w →
      All S (argFs P dom z (xs.map (ev env) ++ cvs)) w ∧ (OS vs fr cx σ.ob).Perm (argMs dom z (xs.map (ev env) ++ cvs) ++ OS vs fr cx (delos σ.ob os)) ∧ ownVs dom (xs.map (ev env) ++ cvs) = os.map vs
  | [], [], [], k, h => ⟨(), [], h, rfl, fun _ ho => absurd ho List.not_mem_nil, fun _ _ _ _ _ _ _ _ _ => ⟨trivial, List.Perm.refl _, rfl⟩⟩
  | .q t :: dom, [], c :: cs, k, h => by
    simp only [argsG] at h
    obtain ⟨e, h⟩ := cast_s h
    subst e
    obtain ⟨z, os, h1, h2, ho, h3⟩ := argsG_s hC h
    refine ⟨_, os, h1, by simp at h2 ⊢; omega, ho, fun vs fr env S w hl cvs hcl hca => ?_⟩
    cases cvs with
    | nil => cases hcl
    | cons v cvs => obtain ⟨h4, h5, h6⟩ := h3 vs fr env S w hl cvs (by simpa using hcl) hca.2; exact ⟨⟨hca.1, h4⟩, h5, h6⟩
  | .d t :: dom, x :: xs, cs, k, h => by
    simp only [argsG] at h
    obtain ⟨y, h, hy⟩ := asO_s h
    obtain ⟨z, os, h1, h2, ho, h3⟩ := argsG_s hC h
    exact ⟨_, os, h1, by simp at h2 ⊢; omega, ho, fun vs fr env S w hl cvs hcl hca => by obtain ⟨h4, h5, h6⟩ := h3 vs fr env S w hl cvs hcl hca; exact ⟨⟨hy P vs env S w (hl x), h4⟩, h5, h6⟩⟩
  | .q t :: dom, x :: xs, cs, k, h => by
    simp only [argsG] at h
    split at h
    · next s y hx =>
      obtain ⟨e, h⟩ := cast_s h
      subst e
      obtain ⟨z, os, h1, h2, ho, h3⟩ := argsG_s hC h
      exact ⟨_, os, h1, by simp at h2 ⊢; omega, ho, fun vs fr env S w hl cvs hcl hca => by obtain ⟨h4, h5, h6⟩ := h3 vs fr env S w hl cvs hcl hca; exact ⟨⟨opv_hold hx (hl x), h4⟩, h5, h6⟩⟩
    · cases h
  | .own t E :: dom, x :: xs, cs, k, h => by
    simp only [argsG] at h
    split at h
    · next o hx =>
      split at h
      · next s E' ys hob =>
        obtain ⟨hE, h7⟩ := grd_s h
        have hE := beq_t hE
        subst hE
        obtain ⟨e, h8⟩ := cast_s h7
        cases e
        obtain ⟨z, os, h9, h2, ho, h3⟩ := argsG_s hC h8
        obtain ⟨hn, h1⟩ := grd_s h9
        simp only [Bool.not_eq_true'] at hn
        refine ⟨_, o :: os, h1, by simp at h2 ⊢; omega, fun p hp => ?_, fun vs fr env S w hl cvs hcl hca => ?_⟩
        · rcases List.mem_cons.1 hp with rfl | hp
          · obtain ⟨i, h4, _⟩ := fndO_some hob
            exact ⟨_, List.mem_of_getElem? h4⟩
          · exact ho p hp
        obtain ⟨h4, h5, h6⟩ := h3 vs fr env S w hl cvs hcl hca
        have hv : ev env x = vs o := opv_hold hx (hl x)
        refine ⟨⟨trivial, h4⟩, h5.trans ?_, ?_⟩
        · have hp := os_perm (vs := vs) (fr := fr) (cx := cx) ((fndO_delos hn).trans hob)
          refine (List.Perm.append_left _ hp).trans ?_
          refine List.perm_middle.trans ?_
          show List.Perm _ (mO t.rep E (ev env x) _ :: (argMs dom z (xs.map (ev env) ++ cvs) ++ _))
          rw [hv]
          exact List.Perm.refl _
        · show ev env x :: ownVs dom (xs.map (ev env) ++ cvs) = vs o :: os.map vs
          rw [hv, h6]
      · cases h
    · cases h
  | .var t E :: dom, x :: xs, cs, k, h => by
    simp only [argsG] at h
    split at h
    · next o s0 hx =>
      split at h
      · next s E' y hob =>
        obtain ⟨hE, h7⟩ := grd_s h
        have hE := beq_t hE
        subst hE
        obtain ⟨e, h8⟩ := cast_s h7
        subst e
        obtain ⟨z, os, h9, h2, ho, h3⟩ := argsG_s hC h8
        obtain ⟨hn, h1⟩ := grd_s h9
        simp only [Bool.not_eq_true'] at hn
        refine ⟨_, o :: os, h1, by simp at h2 ⊢; omega, fun p hp => ?_, fun vs fr env S w hl cvs hcl hca => ?_⟩
        · rcases List.mem_cons.1 hp with rfl | hp
          · obtain ⟨i, h4, _⟩ := fndO_some hob
            exact ⟨_, List.mem_of_getElem? h4⟩
          · exact ho p hp
        obtain ⟨h4, h5, h6⟩ := h3 vs fr env S w hl cvs hcl hca
        obtain ⟨hv, b, hb⟩ := opv_hold hx (hl x)
        refine ⟨⟨⟨b, hv.trans hb⟩, h4⟩, h5.trans ?_, ?_⟩
        · have hp := os_perm (vs := vs) (fr := fr) (cx := cx) ((fndO_delos hn).trans hob)
          refine (List.Perm.append_left _ hp).trans ?_
          refine List.perm_middle.trans ?_
          show List.Perm _ (mP s.rep.c E (ev env x) _ :: (argMs dom z (xs.map (ev env) ++ cvs) ++ _))
          rw [hv]
          exact List.Perm.refl _
        · show ev env x :: ownVs dom (xs.map (ev env) ++ cvs) = vs o :: os.map vs
          rw [hv, h6]
      · cases h
    · cases h
  | .fn dom' cod :: dom, x :: xs, cs, k, h => by
    simp only [argsG] at h
    obtain ⟨f, h, hf⟩ := asF_s hC h
    obtain ⟨z, os, h1, h2, ho, h3⟩ := argsG_s hC h
    refine ⟨_, os, h1, by simp at h2 ⊢; omega, ho, fun vs fr env S w hl cvs hcl hca => ?_⟩
    obtain ⟨h4, h5, h6⟩ := h3 vs fr env S w hl cvs hcl hca
    refine ⟨⟨?_, h4⟩, h5, h6⟩
    cases hv : opv cx σ x with
    | none => rename_i h0; rw [hv] at h0; simp [asF] at h0
    | some v => exact hf vs S w v _ hv (opv_hold hv (hl x))
  | [], _ :: _, _, _, h => by simp [argsG] at h
  | [], [], _ :: _, _, h => by simp [argsG] at h
  | .d _ :: _, [], _, _, h => by simp [argsG] at h
  | .own _ _ :: _, [], _, _, h => by simp [argsG] at h
  | .var _ _ :: _, [], _, _, h => by simp [argsG] at h
  | .fn _ _ :: _, [], _, _, h => by simp [argsG] at h
  | .q _ :: _, [], [], _, h => by simp [argsG] at h
def ovs : List RM → List Value → Nat → (Nat → Value) → Nat → Value
  | [], _, _, vs => vs
  | .d _ :: r, us, o, vs => ovs r us.tail o vs
  | .own _ _ :: r, us, o, vs => upv (ovs r us.tail (o + 1) vs) o (us.headD undef)
  | .var _ _ :: r, us, o, vs => upv (ovs r us.tail (o + 1) vs) o (us.headD undef)
theorem ovs_old : ∀ {rs : List RM} {us : List Value} {o k : Nat}, k < o → ovs rs us o vs k = vs k
  | [], _, _, _, _ => rfl
  | .d _ :: r, us, o, k, h => ovs_old (rs := r) h
  | .own _ _ :: r, us, o, k, h => by
    show upv _ o _ k = _
    rw [upv_old h, ovs_old (rs := r) (by omega)]
  | .var _ _ :: r, us, o, k, h => by
    show upv _ o _ k = _
    rw [upv_old h, ovs_old (rs := r) (by omega)]
theorem upv_ne {n o : Nat} {v : Value} (h : o ≠ n) : upv vs n v o = vs o := by unfold upv; rw [beq_no h]; rfl
theorem resG_ge : ∀ {rs : List RM} {x : RsD rs} {i o : Nat}, (∀ e ∈ (resG rs x i o).2, o ≤ e.1 ∧ e.1 < o + (resG rs x i o).2.length)
  | [], _, _, _, e, he => absurd he List.not_mem_nil
  | [.d _], _, _, _, e, he => absurd he List.not_mem_nil
  | [.own _ _], _, _, o, e, he => by
    obtain rfl := List.mem_singleton.1 he
    exact ⟨Nat.le_refl _, Nat.lt_succ_self _⟩
  | [.var _ _], _, _, o, e, he => by
    obtain rfl := List.mem_singleton.1 he
    exact ⟨Nat.le_refl _, Nat.lt_succ_self _⟩
  | .d t :: n :: r, x, i, o, e, he => resG_ge (rs := n :: r) (x := x.2) (i := i + 1) e he
  | .own t E :: n :: r, x, i, o, e, he => by
    have he : e ∈ (o, Od.own t E x.1) :: (resG (n :: r) x.2 (i + 1) (o + 1)).2 := he
    have hlen : (resG (.own t E :: n :: r) x i o).2.length = (resG (n :: r) x.2 (i + 1) (o + 1)).2.length + 1 := rfl
    rw [hlen]
    rcases List.mem_cons.1 he with rfl | he
    · exact ⟨Nat.le_refl _, by show o < _; omega⟩
    · have := resG_ge (rs := n :: r) (x := x.2) (i := i + 1) (o := o + 1) e he
      omega
  | .var t E :: n :: r, x, i, o, e, he => by
    have he : e ∈ (o, Od.var t E x.1) :: (resG (n :: r) x.2 (i + 1) (o + 1)).2 := he
    have hlen : (resG (.var t E :: n :: r) x i o).2.length = (resG (n :: r) x.2 (i + 1) (o + 1)).2.length + 1 := rfl
    rw [hlen]
    rcases List.mem_cons.1 he with rfl | he
    · exact ⟨Nat.le_refl _, by show o < _; omega⟩
    · have := resG_ge (rs := n :: r) (x := x.2) (i := i + 1) (o := o + 1) e he
      omega
theorem resG_ms : ∀ {rs : List RM} {x : RsD rs} {us : List Value} {i o : Nat}, MS (ovs rs us o vs) (resG rs x i o).2 = resMs rs x us
  | [], _, _, _, _ => rfl
  | [.d _], _, _, _, _ => rfl
  | [.own t E], x, us, i, o => by
    exact congrArg (fun m => [m]) (mo_own (vs := vs) (xs := x))
  | [.var t E], x, us, i, o => by
    exact congrArg (fun m => [m]) (mo_var (vs := vs) (z := x))
  | .var t E :: n :: r, x, us, i, o => by
    refine List.cons_eq_cons.2 ⟨mo_var (z := x.1), ?_⟩
    exact (MS_congr (ob := (resG (n :: r) x.2 (i + 1) (o + 1)).2) (vs := ovs (n :: r) us.tail (o + 1) vs) fun e he => upv_ne (by have := resG_ge e he; omega)).trans resG_ms
  | .d t :: n :: r, x, us, i, o => by
    show MS (ovs (n :: r) us.tail o vs) (resG (n :: r) x.2 (i + 1) o).2 = resMs (n :: r) x.2 us.tail
    exact resG_ms
  | .own t E :: n :: r, x, us, i, o => by
    refine List.cons_eq_cons.2 ⟨mo_own (xs := x.1), ?_⟩
    exact (MS_congr (ob := (resG (n :: r) x.2 (i + 1) (o + 1)).2) (vs := ovs (n :: r) us.tail (o + 1) vs) fun e he => upv_ne (by have := resG_ge e he; omega)).trans resG_ms
theorem resG_ref : ∀ {rs : List RM} {x : RsD rs} {i o : Nat}, ∀ e ∈ (resG rs x i o).1, ∀ p, refO e.2 = some p → p < o + (resG rs x i o).2.length
  | [], _, _, _, e, he => absurd he List.not_mem_nil
  | [.d _], _, _, _, e, he => by
    obtain rfl := List.mem_singleton.1 he
    intro p hp; cases hp
  | [.own _ _], _, _, o, e, he => by
    obtain rfl := List.mem_singleton.1 he
    intro p hp; cases hp; exact Nat.lt_succ_self _
  | [.var _ _], _, _, o, e, he => by
    obtain rfl := List.mem_singleton.1 he
    intro p hp; cases hp; exact Nat.lt_succ_self _
  | .var t E :: n :: r, x, i, o, e, he => by
    have hlen : (resG (.var t E :: n :: r) x i o).2.length = (resG (n :: r) x.2 (i + 1) (o + 1)).2.length + 1 := rfl
    rw [hlen]
    rcases List.mem_cons.1 he with rfl | he
    · intro p hp; cases hp; omega
    · intro p hp
      have := resG_ref (rs := n :: r) (x := x.2) (i := i + 1) (o := o + 1) e he p hp
      omega
  | .d t :: n :: r, x, i, o, e, he => by
    rcases List.mem_cons.1 he with rfl | he
    · intro p hp; cases hp
    · exact resG_ref (rs := n :: r) (x := x.2) (i := i + 1) e he
  | .own t E :: n :: r, x, i, o, e, he => by
    have hlen : (resG (.own t E :: n :: r) x i o).2.length = (resG (n :: r) x.2 (i + 1) (o + 1)).2.length + 1 := rfl
    rw [hlen]
    rcases List.mem_cons.1 he with rfl | he
    · intro p hp; cases hp; omega
    · intro p hp
      have := resG_ref (rs := n :: r) (x := x.2) (i := i + 1) (o := o + 1) e he p hp
      omega
theorem resG_lo : ∀ {rs : List RM} {x : RsD rs} {i o : Nat}, ∀ e ∈ (resG rs x i o).1, ∀ p, refO e.2 = some p → o ≤ p
  | [], _, _, _, e, he => absurd he List.not_mem_nil
  | [.d _], _, _, _, e, he => by
    obtain rfl := List.mem_singleton.1 he
    intro p hp; cases hp
  | [.own _ _], _, _, o, e, he => by
    obtain rfl := List.mem_singleton.1 he
    intro p hp; cases hp; exact Nat.le_refl _
  | [.var _ _], _, _, o, e, he => by
    obtain rfl := List.mem_singleton.1 he
    intro p hp; cases hp; exact Nat.le_refl _
  | .var t E :: n :: r, x, i, o, e, he => by
    rcases List.mem_cons.1 he with rfl | he
    · intro p hp; cases hp; exact Nat.le_refl _
    · intro p hp
      have := resG_lo (rs := n :: r) (x := x.2) (i := i + 1) (o := o + 1) e he p hp
      omega
  | .d t :: n :: r, x, i, o, e, he => by
    rcases List.mem_cons.1 he with rfl | he
    · intro p hp; cases hp
    · exact resG_lo (rs := n :: r) (x := x.2) (i := i + 1) e he
  | .own t E :: n :: r, x, i, o, e, he => by
    rcases List.mem_cons.1 he with rfl | he
    · intro p hp; cases hp; exact Nat.le_refl _
    · intro p hp
      have := resG_lo (rs := n :: r) (x := x.2) (i := i + 1) (o := o + 1) e he p hp
      omega
theorem resG_s : ∀ {rs : List RM} {x : RsD rs} {us : List Value} {i o : Nat} {S : Nat → Prop}, All S (resFs rs x us) w → us.length = rs.length → ∀ e ∈ (resG rs x i o).1, ∃ j u, e.1 = i + j ∧ us[j]? = some u ∧ (hold P (ovs rs us o vs) e.2 u).p S w
  | [], _, _, _, _, _, _, _, e, he => absurd he List.not_mem_nil
  | [m], _, [], _, _, _, _, hl, _, _ => by cases hl
  | [.d _], x, u :: us, i, o, S, h, hl, e, he => by
    obtain rfl := List.mem_singleton.1 he
    exact ⟨0, u, rfl, rfl, h.1⟩
  | [.own _ _], x, u :: us, i, o, S, h, hl, e, he => by
    obtain rfl := List.mem_singleton.1 he
    exact ⟨0, u, rfl, rfl, (upv_new (vs := vs)).symm⟩
  | [.var _ _], x, u :: us, i, o, S, h, hl, e, he => by
    obtain rfl := List.mem_singleton.1 he
    have h1 := upv_new (vs := vs) (n := o) (v := u)
    exact ⟨0, u, rfl, rfl, h1.symm, by obtain ⟨b, hb⟩ := h.1; exact ⟨b, h1.trans hb⟩⟩
  | .var t E :: n :: r, x, u :: us, i, o, S, h, hl, e, he => by
    rcases List.mem_cons.1 he with rfl | he
    · have h1 := upv_new (vs := ovs (n :: r) us (o + 1) vs) (n := o) (v := u)
      exact ⟨0, u, rfl, rfl, h1.symm, by obtain ⟨b, hb⟩ := h.1; exact ⟨b, h1.trans hb⟩⟩
    · obtain ⟨j, v, h1, h2, h3⟩ := resG_s (rs := n :: r) (x := x.2) (i := i + 1) (o := o + 1) h.2 (by simpa using hl) e he
      refine ⟨j + 1, v, by omega, by simpa using h2, ?_⟩
      have : hold P (ovs (.var t E :: n :: r) (u :: us) o vs) e.2 v = hold P (ovs (n :: r) us (o + 1) vs) e.2 v := hold_vs (fun p hp => upv_ne (by have := resG_lo (rs := n :: r) (x := x.2) (i := i + 1) (o := o + 1) e he p hp; omega)) v
      rw [this]; exact h3
  | _ :: n :: r, x, [], _, _, _, _, hl, _, _ => by cases hl
  | .d t :: n :: r, x, u :: us, i, o, S, h, hl, e, he => by
    rcases List.mem_cons.1 he with rfl | he
    · exact ⟨0, u, rfl, rfl, h.1⟩
    · obtain ⟨j, v, h1, h2, h3⟩ := resG_s (rs := n :: r) (x := x.2) (i := i + 1) (o := o) h.2 (by simpa using hl) e he
      exact ⟨j + 1, v, by omega, by simpa using h2, h3⟩
  | .own t E :: n :: r, x, u :: us, i, o, S, h, hl, e, he => by
    rcases List.mem_cons.1 he with rfl | he
    · exact ⟨0, u, rfl, rfl, (upv_new (vs := ovs (n :: r) us (o + 1) vs)).symm⟩
    · obtain ⟨j, v, h1, h2, h3⟩ := resG_s (rs := n :: r) (x := x.2) (i := i + 1) (o := o + 1) h (by simpa using hl) e he
      refine ⟨j + 1, v, by omega, by simpa using h2, ?_⟩
      have : hold P (ovs (.own t E :: n :: r) (u :: us) o vs) e.2 v = hold P (ovs (n :: r) us (o + 1) vs) e.2 v := hold_vs (fun p hp => upv_ne (by have := resG_lo (rs := n :: r) (x := x.2) (i := i + 1) (o := o + 1) e he p hp; omega)) v
      rw [this]; exact h3
theorem sigG_s {f : FuncId} {ags : List Operand} : ∀ {cs : List Sig} {s : Sig}, sigG cx σ f ags cs = some s → s ∈ cs ∧ s.f = f
  | c :: cs, s, h => by
    unfold sigG at h
    split at h
    · next hb =>
      simp only [Option.some.injEq] at h
      subst h
      rw [Bool.and_eq_true] at hb
      exact ⟨List.mem_cons_self .., beq_t hb.1⟩
    · obtain ⟨h1, h2⟩ := sigG_s h; exact ⟨List.mem_cons_of_mem _ h1, h2⟩
theorem resG_hold {rs : List RM} {x : RsD rs} {us : List Value} {o : Nat} {S : Nat → Prop} (h : All S (resFs rs x us) w) (hl : us.length = rs.length) : ∀ e ∈ (resG rs x (bif oneRes rs then 0 else 1) o).1, (holdC P (ovs rs us o vs) e.2 (oneOr us) e.1).p S w := by
  intro e he
  obtain ⟨j, u, h1, h2, h3⟩ := resG_s (P := P) (vs := vs) h hl e he
  obtain ⟨i, dv⟩ := e
  match us, hl, h2 with
  | [], _, h2 => simp at h2
  | [v], hl, h2 =>
    obtain rfl : j = 0 := by
      rcases j with _ | j
      · rfl
      · simp at h2
    obtain ⟨m, rfl⟩ := List.length_eq_one_iff.1 hl.symm
    simp only [oneRes, cond_true] at h1
    simp only [List.getElem?_cons_zero, Option.some.injEq] at h2
    subst h1; subst h2
    exact h3
  | v :: v' :: us, hl, h2 =>
    have : oneRes rs = false := by
      match rs, hl with
      | [], _ => rfl
      | _ :: _ :: _, _ => rfl
    rw [this] at h1
    simp only [cond_false] at h1
    obtain rfl : i = j + 1 := by omega
    exact ⟨(v :: v' :: us).toArray, u, rfl, by simpa using h2, h3⟩
def ownUs : List RM → List Value → List Value
  | [], _ => []
  | .d _ :: r, us => ownUs r us.tail
  | .own _ _ :: r, us => us.headD undef :: ownUs r us.tail
  | .var _ _ :: r, us => us.headD undef :: ownUs r us.tail
theorem resG_vals : ∀ {rs : List RM} {x : RsD rs} {us : List Value} {i o : Nat}, (resG rs x i o).2.map (fun e => ovs rs us o vs e.1) = ownUs rs us
  | [], _, _, _, _ => rfl
  | [.d _], x, us, i, o => rfl
  | [.own t E], x, us, i, o => by
    show [upv vs o (us.headD undef) o] = [us.headD undef]
    rw [upv_new]
  | [.var t E], x, us, i, o => by
    show [upv vs o (us.headD undef) o] = [us.headD undef]
    rw [upv_new]
  | .var t E :: n :: r, x, us, i, o => by
    show upv (ovs (n :: r) us.tail (o + 1) vs) o (us.headD undef) o :: (resG (n :: r) x.2 (i + 1) (o + 1)).2.map (fun e => ovs (.var t E :: n :: r) us o vs e.1) = us.headD undef :: ownUs (n :: r) us.tail
    rw [upv_new, ← resG_vals (rs := n :: r) (x := x.2) (us := us.tail) (i := i + 1) (o := o + 1)]
    congr 1
    refine List.map_congr_left fun e he => ?_
    exact upv_ne (by have := resG_ge e he; omega)
  | .d t :: n :: r, x, us, i, o => resG_vals (rs := n :: r) (x := x.2) (us := us.tail) (i := i + 1) (o := o)
  | .own t E :: n :: r, x, us, i, o => by
    show upv (ovs (n :: r) us.tail (o + 1) vs) o (us.headD undef) o :: (resG (n :: r) x.2 (i + 1) (o + 1)).2.map (fun e => ovs (.own t E :: n :: r) us o vs e.1) = us.headD undef :: ownUs (n :: r) us.tail
    rw [upv_new, ← resG_vals (rs := n :: r) (x := x.2) (us := us.tail) (i := i + 1) (o := o + 1)]
    congr 1
    refine List.map_congr_left fun e he => ?_
    exact upv_ne (by have := resG_ge e he; omega)
theorem tail_us : ∀ {m : Nat} {rs : List RM} {us : List Value}, tailOwn m rs = true → us.length = rs.length → ownUs rs us = us.drop m
  | 0, [], us, _, hl => by
    obtain rfl := List.length_eq_zero_iff.1 hl
    rfl
  | 0, .own _ _ :: r, [], _, hl => by cases hl
  | 0, .own _ _ :: r, u :: us, h, hl => by
    show u :: ownUs r us = u :: us
    rw [tail_us (m := 0) (rs := r) (us := us) h (by simpa using hl)]; rfl
  | 0, .var _ _ :: r, [], _, hl => by cases hl
  | 0, .var _ _ :: r, u :: us, h, hl => by
    show u :: ownUs r us = u :: us
    rw [tail_us (m := 0) (rs := r) (us := us) h (by simpa using hl)]; rfl
  | m + 1, .d _ :: r, [], _, hl => by cases hl
  | m + 1, .d _ :: r, u :: us, h, hl => tail_us (m := m) (rs := r) (us := us) h (by simpa using hl)
  | 0, .d _ :: _, _, h, _ => by cases h
  | _ + 1, [], _, h, _ => by cases h
  | _ + 1, .own _ _ :: _, _, h, _ => by cases h
  | _ + 1, .var _ _ :: _, _, h, _ => by cases h
theorem zipB_ms {vs' : Nat → Value} : ∀ {os : List Nat} {ob : List (Nat × Od)}, os.map vs' = ob.map (fun e => vs' e.1) → MS vs' (zipB os ob) = MS vs' ob
  | [], [], _ => rfl
  | [], _ :: _, h => by cases h
  | _ :: _, [], h => by cases h
  | o :: os, (p, X) :: ob, h => by
    simp only [List.map_cons, List.cons.injEq] at h
    show moF vs' (o, X) :: MS vs' (zipB os ob) = moF vs' (p, X) :: MS vs' ob
    rw [zipB_ms h.2]
    congr 1
    cases X <;> simp only [moF] <;> rw [h.1]
theorem zipB_mem : ∀ {os : List Nat} {ob : List (Nat × Od)}, ∀ e ∈ zipB os ob, e.1 ∈ os
  | [], _, e, he => absurd he (by simp [zipB])
  | _ :: _, [], e, he => absurd he (by simp [zipB])
  | o :: os, p :: ob, e, he => by
    rcases List.mem_cons.1 (show e ∈ (o, p.2) :: zipB os ob from he) with rfl | he
    · exact List.mem_cons_self ..
    · exact List.mem_cons_of_mem _ (zipB_mem e he)
theorem resG_holdB {rs : List RM} {x : RsD rs} {us : List Value} {o m : Nat} {S : Nat → Prop} (h : All S (resFs rs x us) w) (hl : us.length = rs.length) (hm : m ≤ us.length) : ∀ e ∈ (resG rs x (one1 m) o).1.filter (fun e => Nat.blt e.1 (one1 m + m)), (holdC P (ovs rs us o vs) e.2 (oneOr (us.take m)) e.1).p S w := by
  intro e he
  obtain ⟨he, hb⟩ := List.mem_filter.1 he
  have hb : e.1 < one1 m + m := Nat.blt_eq.mp hb
  obtain ⟨j, u, h1, h2, h3⟩ := resG_s (P := P) (vs := vs) h hl e he
  obtain ⟨i, dv⟩ := e
  simp only at h1 hb
  have hj : j < m := by omega
  have h4 : (us.take m)[j]? = some u := by rw [List.getElem?_take, if_pos hj]; exact h2
  have h5 : (us.take m).length = m := by rw [List.length_take]; omega
  generalize us.take m = vs' at *
  match vs', h5, h4 with
  | [], h5, h4 => simp at h4
  | [v], h5, h4 =>
    obtain rfl : m = 1 := h5.symm
    obtain rfl : j = 0 := by omega
    simp only [List.getElem?_cons_zero, Option.some.injEq] at h4
    obtain rfl : i = 0 := h1
    subst h4
    exact h3
  | v :: v' :: us', h5, h4 =>
    have : one1 m = 1 := by
      unfold one1
      rw [beq_f (by simp at h5; omega)]; rfl
    rw [this] at h1
    obtain rfl : i = j + 1 := by omega
    exact ⟨(v :: v' :: us').toArray, u, rfl, by simpa using h4, h3⟩
theorem m_callT {f : Operand} {f' : FuncId} {cs : List PD} {s : Sig} {ags : Array Operand} {ts : Array TypeId} {k : Sg → Option R} {z : AsD s.dom} {q : RsD s.cod} {os : List Nat} (hd : okPut cx d = true) (hf : opv cx σ f = some (.fn f' cs))
    (hok : SigOK P s) (h2 : s.f = f') (hlen : ags.toList.length + cs.length = s.dom.length) (hos : ∀ o ∈ os, ∃ X, (o, X) ∈ σ.ob) (hz : ∀ vs (fr : Fr) env S w, (∀ x, LkO P vs env S w cx σ x) → ∀ cvs : List Value, cvs.length = cs.length → All S (capF cs cvs) w →
      All S (argFs P s.dom z (ags.toList.map (ev env) ++ cvs)) w ∧ (OS vs fr cx σ.ob).Perm (argMs s.dom z (ags.toList.map (ev env) ++ cvs) ++ OS vs fr cx (delos σ.ob os)) ∧ ownVs s.dom (ags.toList.map (ev env) ++ cvs) = os.map vs)
    (hq : s.M z = some q) (h : resU σ d s os q k = some r) : MOK P cx ⟨d, .call ⟨.value f, ags, ts⟩, ty, pos, aft, g⟩ σ k r := by
  unfold resU at h
  split at h
  · next hbk =>
      refine ⟨_, h, Nat.le_add_right _ _, fun fr vs env w hR => ?_⟩
      obtain ⟨hB, hst⟩ := hR
      obtain ⟨S0, _, hΓ⟩ := hst.ex
      obtain ⟨cvs, hv, hcl, _⟩ := opv_hold hf (gs_lko hΓ f)
      have hfn := hok.plain hbk hq (vs := ags.toList.map (ev env) ++ cvs) (by simp at hlen ⊢; omega)
      have hrun : (execOp (ev env) ⟨d, .call ⟨.value f, ags, ts⟩, ty, pos, aft, g⟩).run P w = .ok (.enter f' (ags.toList.map (ev env) ++ cvs).toArray) w := by
        simp [execOp, resolve, hv, Deferred.ofValue, invoke, run_callFunc (h2 ▸ hok.1)]
      have hst2 : St fr.we fr.Se (argMs s.dom z (ags.toList.map (ev env) ++ cvs) ++ OS vs fr cx (delos σ.ob os)) (argFs P s.dom z (ags.toList.map (ev env) ++ cvs) ++ GS P vs env fr cx σ) w := by
        refine St.perm (St.weak hst fun S w ha => All.append ?_ ha) (hz vs fr env S0 w (gs_lko hΓ) cvs hcl ?_).2.1
        · obtain ⟨cvs', hv', hcl', hca'⟩ := opv_hold hf (gs_lko ha f)
          rw [hv] at hv'
          have : cvs = cvs' := by simpa using hv'
          subst this
          exact (hz vs fr env S w (gs_lko ha) cvs hcl hca').1
        · obtain ⟨cvs', hv', hcl', hca'⟩ := opv_hold hf (gs_lko hΓ f)
          rw [hv] at hv'
          have : cvs = cvs' := by simpa using hv'
          subst this
          exact hca'
      unfold OpR
      rw [hrun]
      rw [h2] at hfn
      refine (hfn fr.we fr.Se _ _ w hst2).mono ?_
      rintro e w' ⟨us, he, hus, hs'⟩
      refine ⟨oneOr us, he, ?_⟩
      refine rel_mk (vs := vs) (vs' := ovs s.cod us σ.nx vs) (l := (resG s.cod q (bif oneRes s.cod then 0 else 1) σ.nx).1) (Γl := resFs s.cod q us) hB hd rfl (Nat.le_add_right _ _) (fun o ho => ovs_old ho) resG_ref ?_ (fun S w ha => resG_hold ha hus) ?_
      · intro e he
        rcases List.mem_append.1 he with he | he
        · exact (resG_ge e he).2
        · exact Nat.lt_of_lt_of_le (hB.o1 e (delos_mem e he)) (Nat.le_add_right _ _)
      · have e1 : OS (ovs s.cod us σ.nx vs) fr cx ((resG s.cod q (bif oneRes s.cod then 0 else 1) σ.nx).2 ++ delos σ.ob os) = resMs s.cod q us ++ OS vs fr cx (delos σ.ob os) := by
          show MS _ (_ ++ _) ++ (MS _ cx.ob ++ _) = _
          have a1 : MS (ovs s.cod us σ.nx vs) (delos σ.ob os) = MS vs (delos σ.ob os) := MS_congr fun e he => ovs_old (hB.o1 e (delos_mem e he))
          have a2 : MS (ovs s.cod us σ.nx vs) cx.ob = MS vs cx.ob := MS_congr fun e he => ovs_old (hB.o2 e he)
          rw [a2, show MS (ovs s.cod us σ.nx vs) ((resG s.cod q (bif oneRes s.cod then 0 else 1) σ.nx).2 ++ delos σ.ob os) = MS _ _ ++ MS _ _ from List.map_append, a1, resG_ms, List.append_assoc]
        rw [e1]
        exact hs'
  · next b hbk =>
      obtain ⟨ht, h⟩ := grd_s h
      refine ⟨_, h, Nat.le_add_right _ _, fun fr vs env w hR => ?_⟩
      obtain ⟨hB, hst⟩ := hR
      obtain ⟨S0, _, hΓ⟩ := hst.ex
      obtain ⟨cvs, hv, hcl, _⟩ := opv_hold hf (gs_lko hΓ f)
      have hfn := hok.2 z q hq (ags.toList.map (ev env) ++ cvs) (by simp at hlen ⊢; omega)
      rw [hbk] at hfn
      have hrun : (execOp (ev env) ⟨d, .call ⟨.value f, ags, ts⟩, ty, pos, aft, g⟩).run P w = .ok (.enter f' (ags.toList.map (ev env) ++ cvs).toArray) w := by
        simp [execOp, resolve, hv, Deferred.ofValue, invoke, run_callFunc (h2 ▸ hok.1)]
      have hown : ownVs s.dom (ags.toList.map (ev env) ++ cvs) = os.map vs := by
        obtain ⟨cvs', hv', hcl', hca'⟩ := opv_hold hf (gs_lko hΓ f)
        rw [hv] at hv'
        have : cvs = cvs' := by simpa using hv'
        subst this
        exact (hz vs fr env S0 w (gs_lko hΓ) cvs hcl hca').2.2
      have hst2 : St fr.we fr.Se (argMs s.dom z (ags.toList.map (ev env) ++ cvs) ++ OS vs fr cx (delos σ.ob os)) (argFs P s.dom z (ags.toList.map (ev env) ++ cvs) ++ GS P vs env fr cx σ) w := by
        refine St.perm (St.weak hst fun S w ha => All.append ?_ ha) (hz vs fr env S0 w (gs_lko hΓ) cvs hcl ?_).2.1
        · obtain ⟨cvs', hv', hcl', hca'⟩ := opv_hold hf (gs_lko ha f)
          rw [hv] at hv'
          have : cvs = cvs' := by simpa using hv'
          subst this
          exact (hz vs fr env S w (gs_lko ha) cvs hcl hca').1
        · obtain ⟨cvs', hv', hcl', hca'⟩ := opv_hold hf (gs_lko hΓ f)
          rw [hv] at hv'
          have : cvs = cvs' := by simpa using hv'
          subst this
          exact hca'
      unfold OpR
      rw [hrun]
      rw [h2] at hfn
      refine (hfn fr.we fr.Se _ _ w hst2).mono ?_
      rintro e w' ⟨us, he, ⟨hus, hback⟩, hs'⟩
      refine ⟨oneOr (us.take (s.cod.length - (b + 1))), he, ?_⟩
      have hold' : ∀ o, o < σ.nx → ovs s.cod us σ.nx vs o = vs o := fun o ho => ovs_old ho
      have hlt : ∀ o ∈ os, o < σ.nx := fun o ho => by
        obtain ⟨X, hX⟩ := hos o ho
        exact hB.o1 _ hX
      have hms : MS (ovs s.cod us σ.nx vs) (zipB os (resG s.cod q (one1 (s.cod.length - (b + 1))) σ.nx).2) = resMs s.cod q us := by
        rw [zipB_ms, resG_ms]
        rw [resG_vals, tail_us ht hus, hback, hown]
        exact List.map_congr_left fun o ho => hold' o (hlt o ho)
      refine rel_mk (vs := vs) (vs' := ovs s.cod us σ.nx vs) (l := (resG s.cod q (one1 (s.cod.length - (b + 1))) σ.nx).1.filter fun e => Nat.blt e.1 (one1 (s.cod.length - (b + 1)) + (s.cod.length - (b + 1)))) (Γl := resFs s.cod q us) hB hd rfl (Nat.le_add_right _ _) hold' (fun e he => resG_ref e (List.mem_filter.1 he).1) ?_ (fun S w ha => resG_holdB ha hus (by omega)) ?_
      · intro e he
        rcases List.mem_append.1 he with he | he
        · exact Nat.lt_of_lt_of_le (hlt _ (zipB_mem e he)) (Nat.le_add_right _ _)
        · exact Nat.lt_of_lt_of_le (hB.o1 e (delos_mem e he)) (Nat.le_add_right _ _)
      · have e1 : OS (ovs s.cod us σ.nx vs) fr cx (zipB os (resG s.cod q (one1 (s.cod.length - (b + 1))) σ.nx).2 ++ delos σ.ob os) = resMs s.cod q us ++ OS vs fr cx (delos σ.ob os) := by
          show MS _ (_ ++ _) ++ (MS _ cx.ob ++ _) = _
          have a1 : MS (ovs s.cod us σ.nx vs) (delos σ.ob os) = MS vs (delos σ.ob os) := MS_congr fun e he => ovs_old (hB.o1 e (delos_mem e he))
          have a2 : MS (ovs s.cod us σ.nx vs) cx.ob = MS vs cx.ob := MS_congr fun e he => ovs_old (hB.o2 e he)
          rw [a2, show MS (ovs s.cod us σ.nx vs) (zipB os (resG s.cod q (one1 (s.cod.length - (b + 1))) σ.nx).2 ++ delos σ.ob os) = MS _ _ ++ MS _ _ from List.map_append, a1, hms, List.append_assoc]
        rw [e1]
        exact hs'
theorem m_call (hC : ∀ s ∈ cf.cs, SigOK P s) {f : Operand} {f' : FuncId} {cs : List PD} {s : Sig} {ags : Array Operand} {ts : Array TypeId} {k : Sg → Option R} (hd : okPut cx d = true) (hf : opv cx σ f = some (.fn f' cs))
    (hs : sigG cx σ f' ags.toList cf.cs = some s) (h : mCall cf cx σ d s ags.toList cs k = some r) : MOK P cx ⟨d, .call ⟨.value f, ags, ts⟩, ty, pos, aft, g⟩ σ k r := by
  obtain ⟨h1, h2⟩ := sigG_s hs
  unfold mCall at h
  obtain ⟨z, os, h, hlen, hos, hz⟩ := argsG_s hC h
  obtain ⟨q, hq, h⟩ := bd_s h
  exact m_callT hd hf (hC s h1) h2 hlen hos hz hq h
theorem fndP_s {f : FuncId} {ags : List Operand} : ∀ {l : List PSig} {p : PSig}, fndP cx σ f ags l = some p → p ∈ l ∧ p.s.f = f
  | c :: l, p, h => by
    unfold fndP at h
    split at h
    · next hb =>
      cases h
      rw [Bool.and_eq_true] at hb
      exact ⟨List.mem_cons_self .., beq_t hb.1⟩
    · obtain ⟨h1, h2⟩ := fndP_s h; exact ⟨List.mem_cons_of_mem _ h1, h2⟩
def PanOK (P : Program) (cx : Sg) (o : Oper) (σ : Sg) (kp : PX → Sg → Option R) (r : R) : Prop := ∃ q σ', kp q σ' = some r ∧ σ'.nx = σ.nx ∧ ∀ (fr : Fr) (vs : Nat → Value) (env : Env) (w : World), RelV P fr cx σ vs env w → OpP P o env w (fun ch w' => ch = chOf q ∧ RelV P fr cx σ' vs env w')
theorem m_pan (hC : ∀ s ∈ cf.cs, SigOK P s) {f : Operand} {f' : FuncId} {cs : List PD} {p : PSig} {ags : Array Operand} {ts : Array TypeId} {kp : PX → Sg → Option R} {k : Sg → Option R} (hd : okPut cx d = true) (hf : opv cx σ f = some (.fn f' cs))
    (hok : POK P p) (h2 : p.s.f = f') (h : mPan cf cx σ d p ags.toList cs kp k = some r) : MOK P cx ⟨d, .call ⟨.value f, ags, ts⟩, ty, pos, aft, g⟩ σ k r ∨ PanOK P cx ⟨d, .call ⟨.value f, ags, ts⟩, ty, pos, aft, g⟩ σ kp r := by
  unfold mPan at h
  obtain ⟨z, os, h, hlen, hos, hz⟩ := argsG_s hC h
  obtain ⟨y, hy, h⟩ := bd_s h
  cases y with
  | inr q => exact .inl (m_callT (s := p.n) hd hf hok.n h2 hlen hos hz (by show (match p.M z with | some (.inr r) => some r | _ => none) = some q; rw [hy]) h)
  | inl q =>
    refine .inr ⟨q, _, h, rfl, fun fr vs env w hR => ?_⟩
    obtain ⟨hB, hst⟩ := hR
    obtain ⟨S0, _, hΓ⟩ := hst.ex
    obtain ⟨cvs, hv, hcl, _⟩ := opv_hold hf (gs_lko hΓ f)
    have hfn := (hok.2 z (ags.toList.map (ev env) ++ cvs) (by simp at hlen ⊢; omega)).2 q hy
    have hrun : (execOp (ev env) ⟨d, .call ⟨.value f, ags, ts⟩, ty, pos, aft, g⟩).run P w = .ok (.enter f' (ags.toList.map (ev env) ++ cvs).toArray) w := by
      simp [execOp, resolve, hv, Deferred.ofValue, invoke, run_callFunc (h2 ▸ hok.1)]
    have hst2 : St fr.we fr.Se (argMs p.s.dom z (ags.toList.map (ev env) ++ cvs) ++ OS vs fr cx (delos σ.ob os)) (argFs P p.s.dom z (ags.toList.map (ev env) ++ cvs) ++ GS P vs env fr cx σ) w := by
      refine St.perm (St.weak hst fun S w ha => All.append ?_ ha) (hz vs fr env S0 w (gs_lko hΓ) cvs hcl ?_).2.1
      · obtain ⟨cvs', hv', hcl', hca'⟩ := opv_hold hf (gs_lko ha f)
        rw [hv] at hv'
        have : cvs = cvs' := by simpa using hv'
        subst this
        exact (hz vs fr env S w (gs_lko ha) cvs hcl hca').1
      · obtain ⟨cvs', hv', hcl', hca'⟩ := opv_hold hf (gs_lko hΓ f)
        rw [hv] at hv'
        have : cvs = cvs' := by simpa using hv'
        subst this
        exact hca'
    unfold OpP
    rw [hrun]
    rw [h2] at hfn
    refine ⟨fun c hc => (by cases hc), (hfn fr.we fr.Se _ _ w hst2).mono ?_⟩
    rintro e w' ⟨he, hs'⟩
    exact ⟨_, he, rfl, ⟨fun e he => hB.o1 e (delos_mem e he), hB.o2, hB.r1, hB.r2⟩, hs'⟩
end
end
end Go.Proofs.YtbaoeefdjpaomaaDoor
