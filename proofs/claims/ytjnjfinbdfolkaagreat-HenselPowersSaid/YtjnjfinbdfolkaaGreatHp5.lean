/- What a proof needs: rules of walking, mirrors of functions and their plain laws. No condition. -/
import Derived.Test.YtjnjfinbdfolkaaGreatHp4
section
set_option linter.unusedVariables false
set_option linter.unusedSimpArgs false
namespace Go.Proofs.YtjnjfinbdfolkaaGreat
set_option maxRecDepth 100000 in
set_option maxHeartbeats 1000000 in
theorem c_nat_Shr_1 (fu : Nat) (a0 : Int) (qa0 : InR a0) (a1 : Nat) (qa1 : InU a1) (a2 : List Nat) (va2 : Value) (a3 : Int) (va3 : Value) (r0 : Nat) (r1 : Nat) (H : M_nat_Shr_1 fu a0 a1 a2 a3 = some (r0, r1)) : Fn Tryz.prog 246 [iv a0, uv a1, va2, va3].toArray [fP (eS eU) (a2) va2, fP eI (a3) va3] (fun _ : Unit => .tuple #[uv r0, uv r1]) (fun _ => []) (fun _ => InU r0 ∧ InU r1) := by
 unfold M_nat_Shr_1 at H
 refine Fn_intro Tryz.func246 rfl rfl fun we Se rest => T_seq <| T_region <| TL_mv 2 [(0, iv (a0)), (2, va2), (3, va3)] rfl fun rest => TL_nil <| T_seq ?_
 obtain ⟨j1, hj1, hlj1, H⟩ := ckI_s H
 obtain ⟨y1, hy1, H⟩ := nm_s H
 obtain ⟨h01, H⟩ := ck_s H
 obtain ⟨m1, hm1, H⟩ := nm_s H
 obtain ⟨x1, hx1, hrx1, H⟩ := ck64_s H
 obtain ⟨m2, he1, H⟩ := bd_s H
 obtain ⟨m3, hm3, H⟩ := nm_s H
 obtain ⟨x2, hx2, hrx2, H⟩ := ck64_s H
 obtain ⟨h02, H⟩ := ck_s H
 obtain ⟨m4, hm4, H⟩ := nm_s H
 refine T_draw 14 [prE (fun u : Value => u) (fun u => [fV (eS eU) (a2) u]) (fun _ => True), prE (fun _ : Unit => iv (a0)) (fun _ => []) (fun _ => InR a0), prE (fun u : Value => u) (fun u => [fP eU (y1) u]) (fun _ => True), prE (fun _ : Unit => uv y1) (fun _ => []) (fun _ => y1 < 18446744073709551616), prE (fun _ : Unit => iv (a3)) (fun _ => []) (fun _ => -9223372036854775808 ≤ a3 ∧ a3 ≤ 9223372036854775807), prE (fun _ : Unit => uv m1) (fun _ => []) (fun _ => InU m1), prE (fun u : Value => u) (fun u => [fV (eS eU) (a2) u]) (fun _ => True), prE (fun _ : Unit => iv (a0)) (fun _ => []) (fun _ => InR a0), prE (fun _ : Unit => iv (x1)) (fun _ => []) (fun _ => InR x1), prE (fun _ : Unit => uv m2) (fun _ => []) (fun _ => InU m2), prE (fun _ : Unit => uv m3) (fun _ => []) (fun _ => InU m3), prE (fun _ : Unit => iv (a3)) (fun _ => []) (fun _ => -9223372036854775808 ≤ a3 ∧ a3 ≤ 9223372036854775807), prE (fun _ : Unit => iv (x2)) (fun _ => []) (fun _ => InR x2), prE (fun _ : Unit => uv m4) (fun _ => []) (fun _ => InU m4)] [13, 21] rfl (by kernel_rfl) rfl (by kernel_rfl) ⟨?_, ?_, ?_, ?_, ?_, ?_, ?_, ?_, ?_, ?_, ?_, ?_, ?_, ?_, trivial⟩ ?_
 ·intro S w env hS hM hΓ hl
  obtain ⟨e2, _⟩ := hl
  exact ⟨fun _ => ob_E (Γ := [fP (eS eU) (a2) va2, fP eI (a3) va3]) (oe_load (e := (eS eU)) (y := a2) (e2.trans rfl) ty23 (fun S w h => h.1)) hS hM hΓ, fun hc => (by cases hc)⟩
 ·intro S w env hS hM hΓ hl
  obtain ⟨e0, _⟩ := hl
  exact ⟨fun _ => ob_VE (p := InR a0) (r_mv (e0.trans rfl)) qa0, fun hc => (by cases hc)⟩
 ·intro S w env hS hM hΓ hl
  obtain ⟨⟨u1, e8, _, f8⟩, ⟨_, e9, ho1, f9⟩, _⟩ := hl
  exact ⟨fun _ => ob_E (Γ := [fV (eS eU) (a2) u1, fP (eS eU) (a2) va2, fP eI (a3) va3]) (oe_index (e := eU) (xs := a2) (k := j1) (y := y1) e8 (e9.trans (vi hj1)) Tryz.underlying23 ty102 (getE (z := 0) hlj1 hy1) (fun S w h => h.1)) hS hM ⟨f8.1, hΓ⟩, fun hc => (by cases hc)⟩
 ·intro S w env hS hM hΓ hl
  obtain ⟨⟨p1, e10, _, f10⟩, _⟩ := hl
  exact ⟨fun _ => ob_E (Γ := [fP eU (y1) p1, fP (eS eU) (a2) va2, fP eI (a3) va3]) (oe_load_u64 (y := y1) e10 ty102 (fun S w h => h.1)) hS hM ⟨f10.1, hΓ⟩, fun hc => (by cases hc)⟩
 ·intro S w env hS hM hΓ hl
  obtain ⟨e3, _⟩ := hl
  exact ⟨fun _ => ob_E (Γ := [fP (eS eU) (a2) va2, fP eI (a3) va3]) (oe_load_i64 (y := a3) (e3.trans rfl) ty3 (fun S w h => h.2.1)) hS hM hΓ, fun hc => (by cases hc)⟩
 ·intro S w env hS hM hΓ hl
  obtain ⟨⟨_, e11, hv1, f11⟩, ⟨_, e12, hv2, f12⟩, _⟩ := hl
  exact ⟨fun _ => ob_VE (p := InU m1) (r_shr (c := ((m1 : Nat) : Int)) e11 e12 h01 (wu_y hm1 (n_shr_u (a := y1)))) (udiv_r hv1 hm1), fun hc => (by cases hc)⟩
 ·intro S w env hS hM hΓ hl
  obtain ⟨e2, _⟩ := hl
  exact ⟨fun _ => ob_E (Γ := [fP (eS eU) (a2) va2, fP eI (a3) va3]) (oe_load (e := (eS eU)) (y := a2) (e2.trans rfl) ty23 (fun S w h => h.1)) hS hM hΓ, fun hc => (by cases hc)⟩
 ·intro S w env hS hM hΓ hl
  obtain ⟨e0, _⟩ := hl
  exact ⟨fun _ => ob_VE (p := InR a0) (r_mv (e0.trans rfl)) qa0, fun hc => (by cases hc)⟩
 ·intro S w env hS hM hΓ hl
  obtain ⟨⟨_, e15, ho3, f15⟩, _⟩ := hl
  exact ⟨fun _ => ob_VE (p := InR x1) (r_add (c := x1) e15 rfl (w_x hx1 hrx1)) hrx1, fun hc => (by cases hc)⟩
 ·intro S w env hS hM hΓ hl
  obtain ⟨⟨u2, e14, _, f14⟩, ⟨_, e16, ho4, f16⟩, _⟩ := hl
  exact ⟨fun _ => ob_E (Γ := [fV (eS eU) (a2) u2, fP (eS eU) (a2) va2, fP eI (a3) va3]) (oe_call (by kernel_rfl) (c_nat_at fu a2 u2 x1 ho4 m2 he1) (la_cons e14 (la_cons e16 la_nil)) (fun S w h => ⟨h.1, trivial⟩)) hS hM ⟨f14.1, hΓ⟩, fun hc => (by cases hc)⟩
 ·intro S w env hS hM hΓ hl
  obtain ⟨⟨_, e17, hk1, f17⟩, _⟩ := hl
  exact ⟨fun _ => ob_VE (p := InU m3) (r_shl (c := ((m3 : Nat) : Int)) e17 rfl (by decide) (wu_x hm3 (n_shl_u (a := m2)))) (eq_mod_r hm3), fun hc => (by cases hc)⟩
 ·intro S w env hS hM hΓ hl
  obtain ⟨e3, _⟩ := hl
  exact ⟨fun _ => ob_E (Γ := [fP (eS eU) (a2) va2, fP eI (a3) va3]) (oe_load_i64 (y := a3) (e3.trans rfl) ty3 (fun S w h => h.2.1)) hS hM hΓ, fun hc => (by cases hc)⟩
 ·intro S w env hS hM hΓ hl
  obtain ⟨⟨_, e19, hv3, f19⟩, _⟩ := hl
  exact ⟨fun _ => ob_VE (p := InR x2) (r_sub (c := x2) rfl e19 (w_x hx2 hrx2)) hrx2, fun hc => (by cases hc)⟩
 ·intro S w env hS hM hΓ hl
  obtain ⟨⟨_, e18, ho5, f18⟩, ⟨_, e20, ho6, f20⟩, _⟩ := hl
  exact ⟨fun _ => ob_VE (p := InU m4) (r_shl (c := ((m4 : Nat) : Int)) e18 e20 h02 (wu_x hm4 (n_shl_u (a := m3)))) (eq_mod_r hm4), fun hc => (by cases hc)⟩
 intro S w env hS hΓ hl
 obtain ⟨⟨_, e13, ho2, f13⟩, ⟨_, e21, ho7, f21⟩, _⟩ := hl
 refine ⟨[fP (eS eU) (a2) va2, fP eI (a3) va3], [(13, uv m1), (21, uv m4)], hΓ, (agr ⟨e13, e21, trivial⟩), fun rest => ?_⟩
 obtain ⟨m5, hm5, H⟩ := nm_s H
 refine TL_val rfl rfl (r_or (c := ((m5 : Nat) : Int)) rfl rfl (wu_x hm5 (n_or_u (a := m1) (b := m4) ho2 ho7))) <| TL_mv 2 [(6, uv m5), (7, .int .u64 0)] rfl fun rest => TL_nil <| T_ret ?_
 obtain ⟨rfl, rfl⟩ := inj2 H
 exact Ret2 (t := 6) (t' := 7) (ts := []) () Tryz.results246 rfl (And.intro (eq_u hm5 (or_lt_u ho2 ho7)) (show InU 0 by decide)) (fun S w h => trivial)
set_option maxRecDepth 100000 in
set_option maxHeartbeats 1000000 in
theorem c_nat_Shr (fu : Nat) (a0 : List Nat) (va0 : Value) (a1 : Int) (qa1 : InR a1) (r0 : List Nat) (H : M_nat_Shr fu a0 a1 = some r0) : FnG Tryz.prog 194 [va0, iv a1].toArray [] [fV (eS eU) (a0) va0] (fun u : Value => u) (fun u => [mO eU 102 u (r0)]) (fun u => []) (fun _ => True) := by
 unfold M_nat_Shr at H
 refine FnG_intro Tryz.func194 rfl rfl fun we Se F G rest => T_seq <| T_region <| TL_og rfl rfl (og_boxM (e := (eS eU)) (z := a0) rfl (fun S w h => h.1)) fun b1 _ => ?_
 show TL _ _ _ _ (mB (ERep.c (eS eU)) 23 b1 (a0) :: F) (fV (eS eU) (a0) va0 :: G) _ _ _ _
 refine TL_og rfl rfl (og_boxM (e := eI) (z := a1) rfl (fun S w h => (i64_fV qa1))) fun b2 _ => ?_
 show TL _ _ _ _ (mB (ERep.c eI) 3 b2 (a1) :: mB (ERep.c (eS eU)) 23 b1 (a0) :: F) (fV (eS eU) (a0) va0 :: G) _ _ _ _
 refine TL_mv 1 [(2, .pointer (some ⟨b1, 0, none⟩)), (3, .pointer (some ⟨b2, 0, none⟩))] rfl fun rest => TL_nil <| T_seq <| T_region <| TL_step rfl rfl (oe_loadM_i64 (z' := a1) 0 rfl rfl (Sub.self eI (a1)) ty3) fun _ hv1 => ?_
 obtain ⟨x1, hx1, H⟩ := nm_s H
 refine TL_val rfl rfl (v_i (z := x1) (r_max rfl rfl) hx1) <| TL_og rfl rfl (og_store' (f := eI) (y' := x1) (z2 := x1) 0 rfl rfl rfl (Sub.self eI (a1)) ty3 (fun S w h => (i64_fV (eq_r hx1 (max_r hv1 (show InR (0) by decide))))) rfl) fun _ _ => ?_
 show TL _ _ _ _ (mB (ERep.c eI) 3 b2 (x1) :: mB (ERep.c (eS eU)) 23 b1 (a0) :: F) (fV (eS eU) (a0) va0 :: G) _ _ _ _
 refine TL_mv 0 [(2, .pointer (some ⟨b1, 0, none⟩)), (3, .pointer (some ⟨b2, 0, none⟩))] rfl fun rest => TL_nil <| T_seq <| T_seq <| T_region <| TL_step rfl rfl (oe_loadM_i64 (z' := x1) 0 rfl rfl (Sub.self eI (x1)) ty3) fun _ hv2 => ?_
 obtain ⟨x2, hx2, hrx2, H⟩ := ck64_s H
 refine TL_val rfl rfl (r_quo (c := x2) rfl rfl (by decide) (w_x hx2 hrx2)) <| TL_step rfl rfl (oe_loadM (z' := a0) 1 rfl rfl (Sub.self (eS eU) (a0)) ty23) fun u1 _ => TL_step rfl rfl (oe_len (e := eU) (xs := a0) Tryz.underlying23 rfl (fun S w h => h.1)) fun _ hl1 => TL_geq rfl rfl rfl rfl (fun h1 => ?_) (fun h1 => ?_)
 ·replace H := if_t h1 H
  refine TL_mv 0 [(2, .pointer (some ⟨b1, 0, none⟩)), (3, .pointer (some ⟨b2, 0, none⟩)), (13, .bool true)] rfl fun rest => TL_nil <| T_cond_true rfl <| T_seq <| T_region <| TL_mv 1 [(4, .slice none 0 0)] rfl fun rest => ?_
  refine TL_nil <| T_ret <| T_weak_st (fun w h => St.nilO (e := eU) (E := 102) h) ?_
  obtain rfl := inj1 H
  intro w hw
  exact RetG (vs := [(.slice none 0 0)]) (.slice none 0 0) Tryz.results194 (by exact ⟨rfl, trivial⟩) rfl trivial (St.weak (St.drop (i := 1) (St.drop (i := 2) hw)) (fun S w h => h.2.2))
 replace H := if_f h1 H
 refine TL_mv 0 [(2, .pointer (some ⟨b1, 0, none⟩)), (3, .pointer (some ⟨b2, 0, none⟩)), (13, .bool false)] rfl fun rest => TL_nil <| T_cond_false rfl <| T_skip <| T_seq <| T_region ?_
 refine TL_step rfl rfl (oe_loadM (z' := a0) 1 rfl rfl (Sub.self (eS eU) (a0)) ty23) fun u2 _ => TL_step rfl rfl (oe_loadM_i64 (z' := x1) 0 rfl rfl (Sub.self eI (x1)) ty3) fun _ hv3 => ?_
 obtain ⟨x3, hx3, hrx3, H⟩ := ck64_s H
 refine TL_val rfl rfl (r_quo (c := x3) rfl rfl (by decide) (w_x hx3 hrx3)) ?_
 obtain ⟨j1, hj1, H⟩ := ckN_s H
 obtain ⟨hk1, H⟩ := ck_s H
 obtain ⟨y1, hy1, H⟩ := nm_s H
 refine TL_step rfl rfl (oe_as (oe_sliceD (e := eU) (xs := a0) (l := j1) rfl Tryz.underlying23 ty102 (vi hj1) hk1 (fun S w h => h.1)) hy1) fun u3 _ => TL_og rfl rfl (og_store' (f := (eS eU)) (y' := y1) (z2 := y1) 1 rfl rfl rfl (Sub.self (eS eU) (a0)) ty23 (fun S w h => h.1) rfl) fun _ _ => ?_
 show TL _ _ _ _ (mB (ERep.c eI) 3 b2 (x1) :: mB (ERep.c (eS eU)) 23 b1 (y1) :: F) (fV (eS eU) (y1) u3 :: fV (eS eU) (a0) u2 :: fV (eS eU) (a0) u1 :: fV (eS eU) (a0) va0 :: G) _ _ _ _
 refine TL_mv 0 [(2, .pointer (some ⟨b1, 0, none⟩)), (3, .pointer (some ⟨b2, 0, none⟩))] rfl fun rest => TL_nil <| T_seq <| T_region <| TL_step rfl rfl (oe_loadM_i64 (z' := x1) 0 rfl rfl (Sub.self eI (x1)) ty3) fun _ hv4 => ?_
 obtain ⟨x4, hx4, H⟩ := nm_s H
 refine TL_val rfl rfl (r_rem (c := x4) rfl rfl (by decide) hx4.symm) <| TL_og rfl rfl (og_store' (f := eI) (y' := x4) (z2 := x4) 0 rfl rfl rfl (Sub.self eI (x1)) ty3 (fun S w h => (i64_fV (tmod_r hv4 hx4))) rfl) fun _ _ => ?_
 show TL _ _ _ _ (mB (ERep.c eI) 3 b2 (x4) :: mB (ERep.c (eS eU)) 23 b1 (y1) :: F) (fV (eS eU) (y1) u3 :: fV (eS eU) (a0) u2 :: fV (eS eU) (a0) u1 :: fV (eS eU) (a0) va0 :: G) _ _ _ _
 refine TL_mv 0 [(2, .pointer (some ⟨b1, 0, none⟩)), (3, .pointer (some ⟨b2, 0, none⟩))] rfl fun rest => TL_nil <| T_seq <| T_region <| TL_step rfl rfl (oe_loadM (z' := y1) 1 rfl rfl (Sub.self (eS eU) (y1)) ty23) fun u4 _ => TL_step rfl rfl (oe_len (e := eU) (xs := y1) Tryz.underlying23 rfl (fun S w h => h.1)) fun _ hl2 => ?_
 refine TL_weak_st (fun w h => fz_var 1 h rfl) <| TL_weak_st (fun w h => fz_var 0 h rfl) <| TL_val rfl rfl (r_mk (la_cons rfl (la_cons rfl la_nil))) ?_
 obtain ⟨⟨t1, m1⟩, he1, H⟩ := bd_s H
 refine TL_og rfl rfl (og_callG (F := (F)) (by kernel_rfl) (c_nat_carried fu (((y1.length : Nat) : Int)) (len_r hl2) (fun zx0 zx1 => M_nat_Shr_1 fu zx0 zx1 y1 x4) 246 [(.pointer (some ⟨b1, 0, none⟩)), (.pointer (some ⟨b2, 0, none⟩))] [fP (eS eU) (y1) ((.pointer (some ⟨b1, 0, none⟩))), fP eI (x4) ((.pointer (some ⟨b2, 0, none⟩)))] (by kernel_rfl) (fun zx0 qzx0 zx1 qzx1 zy0 zy1 hh => c_nat_Shr_1 fu zx0 qzx0 zx1 qzx1 y1 ((.pointer (some ⟨b1, 0, none⟩))) x4 ((.pointer (some ⟨b2, 0, none⟩))) zy0 zy1 hh) t1 m1 he1) rfl (fun S w h => ⟨h.2.1, h.1, trivial⟩)) fun u5 hk2 => ?_
 show TL _ _ _ _ (mO eU 102 u5 (t1) :: F) (fP eI (x4) ((.pointer (some ⟨b2, 0, none⟩))) :: fP (eS eU) (y1) ((.pointer (some ⟨b1, 0, none⟩))) :: fV (eS eU) (y1) u4 :: fV (eS eU) (y1) u3 :: fV (eS eU) (a0) u2 :: fV (eS eU) (a0) u1 :: fV (eS eU) (a0) va0 :: G) _ _ _ _
 refine TL_mv 5 [(5, u5)] rfl fun rest => TL_sel (G) (fun S w h => h.2.2.2.2.2.2.2) <| TL_nil <| T_seq <| T_region <| TL_mv 1 [(27, u5)] rfl fun rest => ?_
 obtain ⟨t2, he2, H⟩ := bd_s H
 refine TL_og rfl rfl (og_callG (F := (F)) (by kernel_rfl) (c_nat_plain_own fu t1 u5 t2 he2) rfl (fun S w h => trivial)) fun u6 _ => ?_
 show TL _ _ _ _ (mO eU 102 u6 (t2) :: F) (G) _ _ _ _
 refine TL_mv 1 [(4, u6)] rfl fun rest => TL_nil <| T_ret ?_
 obtain rfl := inj1 H
 intro w hw
 exact RetG (vs := [u6]) u6 Tryz.results194 (by exact ⟨rfl, trivial⟩) rfl trivial (St.weak hw (fun S w h => h))
set_option maxRecDepth 100000 in
set_option maxHeartbeats 1000000 in
theorem c_math_bits_LeadingZeros64 (fu : Nat) (a0 : Nat) (qa0 : InU a0) (r0 : Int) (H : M_math_bits_LeadingZeros64 fu a0 = some r0) : Fn Tryz.prog 243 [uv a0].toArray [] (fun _ : Unit => iv (r0)) (fun _ => []) (fun _ => InR r0) := by
 unfold M_math_bits_LeadingZeros64 at H
 refine Fn_intro Tryz.func243 rfl rfl fun we Se rest => T_seq <| T_region <| TL_mv 1 [(0, uv a0)] rfl fun rest => TL_nil <| T_seq ?_
 refine T_region <| TL_mv 1 [(3, uv a0)] rfl fun rest => ?_
 obtain ⟨x1, he1, H⟩ := bd_s H
 refine TL_step rfl rfl (oe_call (by kernel_rfl) (c_math_bits_Len64 fu a0 qa0 x1 he1) rfl (fun S w h => trivial)) fun _ hk1 => ?_
 obtain ⟨x2, hx2, hrx2, H⟩ := ck64_s H
 refine TL_val rfl rfl (r_sub (c := x2) rfl rfl (w_x hx2 hrx2)) <| TL_mv 1 [(2, iv (x2))] rfl fun rest => TL_nil <| T_ret ?_
 obtain rfl := inj1 H
 exact Ret1 () Tryz.results243 rfl hrx2 (fun S w h => trivial)
set_option maxRecDepth 100000 in
set_option maxHeartbeats 1000000 in
theorem c_math_bits_Div64 (fu : Nat) (a0 : Nat) (qa0 : InU a0) (a1 : Nat) (qa1 : InU a1) (a2 : Nat) (qa2 : InU a2) (r0 : Nat) (r1 : Nat) (H : M_math_bits_Div64 fu a0 a1 a2 = some (r0, r1)) : Fn Tryz.prog 258 [uv a0, uv a1, uv a2].toArray [] (fun _ : Unit => .tuple #[uv r0, uv r1]) (fun _ => []) (fun _ => InU r0 ∧ InU r1) := by
 unfold M_math_bits_Div64 at H
 refine Fn_intro Tryz.func258 rfl rfl fun we Se rest => T_seq <| T_region <| TL_mv 2 [(0, uv a0), (1, uv a1), (2, uv a2)] rfl fun rest => TL_nil <| T_seq ?_
 refine T_seq <| T_region <| TL_mv 1 [(0, uv a0), (1, uv a1), (2, uv a2), (19, uv a2)] rfl fun rest => TL_eql rfl rfl rfl rfl (fun h1 => ?_) (fun h1 => ?_)
 ·replace H := if_t h1 H
  refine TL_mv 0 [(0, uv a0), (1, uv a1), (2, uv a2), (20, .bool true)] rfl fun rest => TL_nil <| T_cond_true rfl <| T_region ?_
  exact (none_s H).elim
 replace H := if_f h1 H
 refine TL_mv 0 [(0, uv a0), (1, uv a1), (2, uv a2), (20, .bool false)] rfl fun rest => TL_nil <| T_cond_false rfl <| T_skip <| T_seq <| T_seq ?_
 refine T_region <| TL_mv 2 [(0, uv a0), (1, uv a1), (2, uv a2), (22, uv a2), (23, uv a0)] rfl fun rest => TL_leq rfl rfl rfl rfl (fun h2 => ?_) (fun h2 => ?_)
 ·replace H := if_t h2 H
  refine TL_mv 0 [(0, uv a0), (1, uv a1), (2, uv a2), (24, .bool true)] rfl fun rest => TL_nil <| T_cond_true rfl <| T_region ?_
  exact (none_s H).elim
 replace H := if_f h2 H
 refine TL_mv 0 [(0, uv a0), (1, uv a1), (2, uv a2), (24, .bool false)] rfl fun rest => TL_nil <| T_cond_false rfl <| T_skip <| T_seq <| T_seq ?_
 refine T_region <| TL_mv 1 [(0, uv a0), (1, uv a1), (2, uv a2), (26, uv a0)] rfl fun rest => TL_eql rfl rfl rfl rfl (fun h3 => ?_) (fun h3 => ?_)
 ·replace H := if_t h3 H
  refine TL_mv 0 [(0, uv a0), (1, uv a1), (2, uv a2), (27, .bool true)] rfl fun rest => TL_nil <| T_cond_true rfl <| T_seq ?_
  obtain ⟨h01, H⟩ := ck_s H
  obtain ⟨m1, hm1, H⟩ := nm_s H
  obtain ⟨h02, H⟩ := ck_s H
  obtain ⟨m2, hm2, H⟩ := nm_s H
  refine T_draw 7 [prE (fun _ : Unit => uv a1) (fun _ => []) (fun _ => InU a1), prE (fun _ : Unit => uv a2) (fun _ => []) (fun _ => InU a2), prE (fun _ : Unit => uv m1) (fun _ => []) (fun _ => InU m1), prE (fun _ : Unit => uv a1) (fun _ => []) (fun _ => InU a1), prE (fun _ : Unit => uv a2) (fun _ => []) (fun _ => InU a2), prE (fun _ : Unit => uv m2) (fun _ => []) (fun _ => InU m2), prE (fun _ : Unit => uv m1) (fun _ => []) (fun _ => InU m1)] [6, 33] rfl (by kernel_rfl) rfl (by kernel_rfl) ⟨?_, ?_, ?_, ?_, ?_, ?_, ?_, trivial⟩ ?_
  ·intro S w env hS hM hΓ hl
   obtain ⟨e1, _⟩ := hl
   exact ⟨fun _ => ob_VE (p := InU a1) (r_mv (e1.trans rfl)) qa1, fun hc => (by cases hc)⟩
  ·intro S w env hS hM hΓ hl
   obtain ⟨e2, _⟩ := hl
   exact ⟨fun _ => ob_VE (p := InU a2) (r_mv (e2.trans rfl)) qa2, fun hc => (by cases hc)⟩
  ·intro S w env hS hM hΓ hl
   obtain ⟨⟨_, e28, ho1, f28⟩, ⟨_, e29, ho2, f29⟩, _⟩ := hl
   exact ⟨fun _ => ob_VE (p := InU m1) (r_quo (c := ((m1 : Nat) : Int)) e28 e29 (nz_u h01) (wu_x hm1 (n_quo_u64 (a := a1) (b := a2) ho1))) (udiv_r ho1 hm1), fun hc => (by cases hc)⟩
  ·intro S w env hS hM hΓ hl
   obtain ⟨e1, _⟩ := hl
   exact ⟨fun _ => ob_VE (p := InU a1) (r_mv (e1.trans rfl)) qa1, fun hc => (by cases hc)⟩
  ·intro S w env hS hM hΓ hl
   obtain ⟨e2, _⟩ := hl
   exact ⟨fun _ => ob_VE (p := InU a2) (r_mv (e2.trans rfl)) qa2, fun hc => (by cases hc)⟩
  ·intro S w env hS hM hΓ hl
   obtain ⟨⟨_, e31, ho4, f31⟩, ⟨_, e32, ho5, f32⟩, _⟩ := hl
   exact ⟨fun _ => ob_VE (p := InU m2) (r_rem (c := ((m2 : Nat) : Int)) e31 e32 (nz_u h02) (wu_y hm2 (n_rem (a := a1) (b := a2)))) (umod_r ho4 hm2), fun hc => (by cases hc)⟩
  ·intro S w env hS hM hΓ hl
   obtain ⟨⟨_, e30, ho3, f30⟩, _⟩ := hl
   exact ⟨fun _ => ob_VE (p := InU m1) (r_as e30) ho3, fun hc => (by cases hc)⟩
  intro S w env hS hΓ hl
  obtain ⟨⟨_, e6, ho7, f6⟩, ⟨_, e33, ho6, f33⟩, _⟩ := hl
  refine ⟨[], [(6, uv m1), (33, uv m2)], hΓ, (agr ⟨e6, e33, trivial⟩), fun rest => ?_⟩
  refine TL_mv 1 [(6, uv m1), (7, uv m2)] rfl fun rest => TL_nil <| T_ret ?_
  obtain ⟨rfl, rfl⟩ := inj2 H
  exact Ret2 (t := 6) (t' := 7) (ts := []) () Tryz.results258 rfl (And.intro ho7 ho6) (fun S w h => trivial)
 replace H := if_f h3 H
 refine TL_mv 0 [(0, uv a0), (1, uv a1), (2, uv a2), (27, .bool false)] rfl fun rest => TL_nil <| T_cond_false rfl <| T_skip <| T_seq <| T_region ?_
 refine TL_mv 1 [(0, uv a0), (1, uv a1), (2, uv a2), (34, uv a2)] rfl fun rest => ?_
 obtain ⟨x1, he1, H⟩ := bd_s H
 refine TL_step rfl rfl (oe_call (by kernel_rfl) (c_math_bits_LeadingZeros64 fu a2 qa2 x1 he1) rfl (fun S w h => trivial)) fun _ hk1 => ?_
 obtain ⟨m3, hm3, H⟩ := nm_s H
 refine TL_val rfl rfl (r_conv (c := ((m3 : Nat) : Int)) Tryz.underlying3 Tryz.underlying118 rfl (wu_x hm3 (wrap_uns _))) <| TL_mv 1 [(0, uv a0), (1, uv a1), (2, uv a2), (8, uv m3)] rfl fun rest => TL_nil <| T_seq <| T_region <| TL_mv 2 [(0, uv a0), (1, uv a1), (8, uv m3), (37, uv a2), (38, uv m3)] rfl fun rest => ?_
 obtain ⟨m4, hm4, H⟩ := nm_s H
 refine TL_val rfl rfl (r_shl (c := ((m4 : Nat) : Int)) rfl rfl (Int.natCast_nonneg _) (wu_x hm4 (n_shl_u (a := a2)))) <| TL_mv 1 [(0, uv a0), (1, uv a1), (2, uv m4), (8, uv m3)] rfl fun rest => TL_nil <| T_seq <| T_region <| TL_mv 1 [(0, uv a0), (1, uv a1), (2, uv m4), (8, uv m3), (40, uv m4)] rfl fun rest => ?_
 obtain ⟨m5, hm5, H⟩ := nm_s H
 refine TL_val rfl rfl (r_shr (c := ((m5 : Nat) : Int)) rfl rfl (by decide) (wu_y hm5 (n_shr_u (a := m4)))) <| TL_mv 1 [(0, uv a0), (1, uv a1), (2, uv m4), (8, uv m3), (9, uv m5)] rfl fun rest => TL_nil <| T_seq <| T_region <| TL_mv 1 [(0, uv a0), (1, uv a1), (2, uv m4), (8, uv m3), (9, uv m5), (42, uv m4)] rfl fun rest => ?_
 obtain ⟨m6, hm6, H⟩ := nm_s H
 refine TL_val rfl rfl (r_and (c := ((m6 : Nat) : Int)) rfl rfl (wu_x hm6 (n_and_u (a := m4) (b := (4294967295 : Nat)) (eq_mod_r hm4) (show InU 4294967295 by decide)))) <| TL_mv 1 [(0, uv a0), (1, uv a1), (2, uv m4), (8, uv m3), (9, uv m5), (10, uv m6)] rfl fun rest => TL_nil <| T_seq <| T_region <| TL_mv 2 [(1, uv a1), (2, uv m4), (8, uv m3), (9, uv m5), (10, uv m6), (44, uv a0), (45, uv m3)] rfl fun rest => ?_
 obtain ⟨m7, hm7, H⟩ := nm_s H
 refine TL_val rfl rfl (r_shl (c := ((m7 : Nat) : Int)) rfl rfl (Int.natCast_nonneg _) (wu_x hm7 (n_shl_u (a := a0)))) <| TL_mv 2 [(1, uv a1), (2, uv m4), (8, uv m3), (9, uv m5), (10, uv m6), (46, uv m7), (47, uv a1), (48, uv m3)] rfl fun rest => ?_
 obtain ⟨m8, hm8, H⟩ := nm_s H
 refine TL_val rfl rfl (r_sub (c := ((m8 : Nat) : Int)) rfl rfl (wu_x hm8 (wu_subw (Nat.le_of_lt (eq_u hm3 (uns_r _))) (a := (64 : Nat)) (b := m3)))) ?_
 obtain ⟨m9, hm9, H⟩ := nm_s H
 refine TL_val rfl rfl (r_shr (c := ((m9 : Nat) : Int)) rfl rfl (Int.natCast_nonneg _) (wu_y hm9 (n_shr_u (a := a1)))) ?_
 obtain ⟨m10, hm10, H⟩ := nm_s H
 refine TL_val rfl rfl (r_or (c := ((m10 : Nat) : Int)) rfl rfl (wu_x hm10 (n_or_u (a := m7) (b := m9) (eq_mod_r hm7) (udiv_r qa1 hm9)))) <| TL_mv 1 [(1, uv a1), (2, uv m4), (8, uv m3), (9, uv m5), (10, uv m6), (11, uv m10)] rfl fun rest => TL_nil <| T_seq <| T_region <| TL_mv 2 [(2, uv m4), (8, uv m3), (9, uv m5), (10, uv m6), (11, uv m10), (52, uv a1), (53, uv m3)] rfl fun rest => ?_
 obtain ⟨m11, hm11, H⟩ := nm_s H
 refine TL_val rfl rfl (r_shl (c := ((m11 : Nat) : Int)) rfl rfl (Int.natCast_nonneg _) (wu_x hm11 (n_shl_u (a := a1)))) <| TL_mv 1 [(2, uv m4), (8, uv m3), (9, uv m5), (10, uv m6), (11, uv m10), (12, uv m11)] rfl fun rest => TL_nil <| T_seq <| T_region <| TL_mv 1 [(2, uv m4), (8, uv m3), (9, uv m5), (10, uv m6), (11, uv m10), (12, uv m11), (55, uv m11)] rfl fun rest => ?_
 obtain ⟨m12, hm12, H⟩ := nm_s H
 refine TL_val rfl rfl (r_shr (c := ((m12 : Nat) : Int)) rfl rfl (by decide) (wu_y hm12 (n_shr_u (a := m11)))) <| TL_mv 1 [(2, uv m4), (8, uv m3), (9, uv m5), (10, uv m6), (11, uv m10), (12, uv m11), (13, uv m12)] rfl fun rest => TL_nil <| T_seq <| T_region <| TL_mv 1 [(2, uv m4), (8, uv m3), (9, uv m5), (10, uv m6), (11, uv m10), (13, uv m12), (57, uv m11)] rfl fun rest => ?_
 obtain ⟨m13, hm13, H⟩ := nm_s H
 refine TL_val rfl rfl (r_and (c := ((m13 : Nat) : Int)) rfl rfl (wu_x hm13 (n_and_u (a := m11) (b := (4294967295 : Nat)) (eq_mod_r hm11) (show InU 4294967295 by decide)))) <| TL_mv 1 [(2, uv m4), (8, uv m3), (9, uv m5), (10, uv m6), (11, uv m10), (13, uv m12), (14, uv m13)] rfl fun rest => TL_nil <| T_seq <| T_region <| TL_mv 2 [(2, uv m4), (8, uv m3), (9, uv m5), (10, uv m6), (11, uv m10), (13, uv m12), (14, uv m13), (59, uv m10), (60, uv m5)] rfl fun rest => ?_
 obtain ⟨h03, H⟩ := ck_s H
 obtain ⟨m14, hm14, H⟩ := nm_s H
 refine TL_val rfl rfl (r_quo (c := ((m14 : Nat) : Int)) rfl rfl (nz_u h03) (wu_x hm14 (n_quo_u64 (a := m10) (b := m5) (eq_u hm10 (or_lt_u (eq_mod_r hm7) (udiv_r qa1 hm9)))))) <| TL_mv 1 [(2, uv m4), (8, uv m3), (9, uv m5), (10, uv m6), (11, uv m10), (13, uv m12), (14, uv m13), (15, uv m14)] rfl fun rest => TL_nil <| T_seq <| T_region <| TL_mv 3 [(2, uv m4), (8, uv m3), (9, uv m5), (10, uv m6), (11, uv m10), (13, uv m12), (14, uv m13), (15, uv m14), (62, uv m10), (63, uv m14), (64, uv m5)] rfl fun rest => ?_
 obtain ⟨m15, hm15, H⟩ := nm_s H
 refine TL_val rfl rfl (r_mul (c := ((m15 : Nat) : Int)) rfl rfl (wu_x hm15 wu_mulw)) ?_
 obtain ⟨m16, hm16, H⟩ := nm_s H
 refine TL_val rfl rfl (r_sub (c := ((m16 : Nat) : Int)) rfl rfl (wu_x hm16 (wu_subw (Nat.le_of_lt (eq_mod_r hm15))))) <| TL_mv 1 [(2, uv m4), (8, uv m3), (9, uv m5), (10, uv m6), (11, uv m10), (13, uv m12), (14, uv m13), (15, uv m14), (16, uv m16)] rfl fun rest => TL_nil <| T_seq <| T_block ?_
 obtain ⟨s1, hL, Hc⟩ := bd_s H
 refine T_X [(.x 0, JQ we Se (G := Nat) (fun d7 => (⟨[], [], [(2, uv m4), (8, uv m3), (9, uv m5), (10, uv m6), (11, uv m10), (13, uv m12), (14, uv m13), (15, uv d7)]⟩ : Inv)) (fun d7 => d7 = s1 ∧ InU d7))] ?_ ⟨?_, trivial⟩
 ·refine T_loop_s (G := Nat × Nat × Nat) (s1 := _) (f := _) (k := fun (n1, d5, d6) => n1) (σ := fun (n1, d5, d6) => (d5, d6)) (fun (n1, d5, d6) => (⟨[], [], [(2, uv m4), (8, uv m3), (9, uv m5), (10, uv m6), (11, uv m10), (13, uv m12), (14, uv m13), (15, uv d5), (16, uv d6)]⟩ : Inv)) (fun (n1, d5, d6) => InU d5 ∧ InU d6) (fu, m14, m16) hL (And.intro (udiv_r (eq_u hm10 (or_lt_u (eq_mod_r hm7) (udiv_r qa1 hm9))) hm14) (eq_mod_r hm16)) rfl (fun w h => St.weak h (fun S w h => trivial)) ?_
  rintro ⟨n1, d5, d6⟩ ⟨H, hr5, hr6⟩ rest
  rcases n1 with _ | n1
  ·exact (loopN_z H).elim
  replace H := loopN_s H
  unfold B_math_bits_Div64_0 at H
  refine T_prune [(2, uv m4), (8, uv m3), (9, uv m5), (10, uv m6), (11, uv m10), (13, uv m12), (14, uv m13), (15, uv d5), (16, uv d6)] rfl fun rest => T_weak [] [] (fun w h => h) <| T_seq <| T_seq <| T_region <| TL_mv 1 [(2, uv m4), (8, uv m3), (9, uv m5), (10, uv m6), (11, uv m10), (13, uv m12), (14, uv m13), (15, uv d5), (16, uv d6), (67, uv d5)] rfl fun rest => ?_
  refine TL_geq rfl rfl rfl rfl (fun h4 => ?_) (fun h4 => ?_)
  ·replace H := if_t h4 H
   refine TL_mv 10 [(2, uv m4), (8, uv m3), (9, uv m5), (10, uv m6), (11, uv m10), (13, uv m12), (14, uv m13), (15, uv d5), (16, uv d6), (78, .bool true)] rfl fun rest => TL_nil <| T_cond_true rfl <| T_skip <| T_block <| T_seq ?_
   refine T_region <| TL_mv 1 [(2, uv m4), (8, uv m3), (9, uv m5), (10, uv m6), (11, uv m10), (13, uv m12), (14, uv m13), (16, uv d6), (79, uv d5)] rfl fun rest => ?_
   obtain ⟨m17, hm17, H⟩ := nm_s H
   refine TL_val rfl rfl (r_sub (c := ((m17 : Nat) : Int)) rfl rfl (wu_x hm17 (wu_subw (Nat.le_of_lt (show InU 1 by decide)) (a := d5) (b := (1 : Nat))))) <| TL_mv 1 [(2, uv m4), (8, uv m3), (9, uv m5), (10, uv m6), (11, uv m10), (13, uv m12), (14, uv m13), (15, uv m17), (16, uv d6)] rfl fun rest => TL_nil <| T_seq <| T_region <| TL_mv 2 [(2, uv m4), (8, uv m3), (9, uv m5), (10, uv m6), (11, uv m10), (13, uv m12), (14, uv m13), (15, uv m17), (81, uv d6), (82, uv m5)] rfl fun rest => ?_
   obtain ⟨m18, hm18, H⟩ := nm_s H
   refine TL_val rfl rfl (r_add (c := ((m18 : Nat) : Int)) rfl rfl (wu_x hm18 wu_addw)) <| TL_mv 1 [(2, uv m4), (8, uv m3), (9, uv m5), (10, uv m6), (11, uv m10), (13, uv m12), (14, uv m13), (15, uv m17), (16, uv m18)] rfl fun rest => TL_nil <| T_seq <| T_region <| TL_mv 1 [(2, uv m4), (8, uv m3), (9, uv m5), (10, uv m6), (11, uv m10), (13, uv m12), (14, uv m13), (15, uv m17), (16, uv m18), (84, uv m18)] rfl fun rest => ?_
   refine TL_geq rfl rfl rfl rfl (fun h5 => ?_) (fun h5 => ?_)
   ·replace H := if_t h5 H
    refine TL_mv 0 [(2, uv m4), (8, uv m3), (9, uv m5), (10, uv m6), (11, uv m10), (13, uv m12), (14, uv m13), (15, uv m17), (16, uv m18), (85, .bool true)] rfl fun rest => TL_nil <| T_cond_true rfl <| T_exit ?_
    exact JQ_mk m17 (And.intro (Option.some.inj H) (eq_mod_r hm17)) rfl (fun w h => St.weak h (fun S w h => trivial))
   replace H := if_f h5 H
   refine TL_mv 0 [(2, uv m4), (8, uv m3), (9, uv m5), (10, uv m6), (11, uv m10), (13, uv m12), (14, uv m13), (15, uv m17), (16, uv m18), (85, .bool false)] rfl fun rest => TL_nil <| T_cond_false rfl <| T_skip ?_
   exact St_round_s (n1, m17, m18) H (And.intro (eq_mod_r hm17) (eq_mod_r hm18)) (Nat.lt_succ_self _) rfl (fun w h => St.weak h (fun S w h => trivial))
  replace H := if_f h4 H
  refine TL_mv 3 [(2, uv m4), (8, uv m3), (9, uv m5), (10, uv m6), (11, uv m10), (13, uv m12), (14, uv m13), (15, uv d5), (16, uv d6), (69, .bool false), (70, uv d5), (71, uv m6)] rfl fun rest => ?_
  obtain ⟨m19, hm19, H⟩ := nm_s H
  refine TL_val rfl rfl (r_mul (c := ((m19 : Nat) : Int)) rfl rfl (wu_x hm19 wu_mulw)) <| TL_mv 1 [(2, uv m4), (8, uv m3), (9, uv m5), (10, uv m6), (11, uv m10), (13, uv m12), (14, uv m13), (15, uv d5), (16, uv d6), (69, .bool false), (70, uv d5), (71, uv m6), (72, uv m19), (73, uv d6)] rfl fun rest => ?_
  obtain ⟨m20, hm20, H⟩ := nm_s H
  refine TL_val rfl rfl (r_mul (c := ((m20 : Nat) : Int)) rfl rfl (wu_x hm20 (wu_mulw (a := (4294967296 : Nat)) (b := d6)))) <| TL_mv 1 [(2, uv m4), (8, uv m3), (9, uv m5), (10, uv m6), (11, uv m10), (13, uv m12), (14, uv m13), (15, uv d5), (16, uv d6), (69, .bool false), (70, uv d5), (71, uv m6), (72, uv m19), (73, uv d6), (74, uv m20), (75, uv m12)] rfl fun rest => ?_
  obtain ⟨m21, hm21, H⟩ := nm_s H
  refine TL_val rfl rfl (r_add (c := ((m21 : Nat) : Int)) rfl rfl (wu_x hm21 wu_addw)) <| TL_gtr rfl rfl rfl rfl (fun h6 => ?_) (fun h6 => ?_)
  ·replace H := if_t h6 H
   refine TL_mv 1 [(2, uv m4), (8, uv m3), (9, uv m5), (10, uv m6), (11, uv m10), (13, uv m12), (14, uv m13), (15, uv d5), (16, uv d6), (70, uv d5), (71, uv m6), (72, uv m19), (73, uv d6), (74, uv m20), (75, uv m12), (76, uv m21), (77, .bool true), (78, .bool true)] rfl fun rest => TL_nil <| T_cond_true rfl <| T_skip <| T_block <| T_seq ?_
   refine T_region <| TL_mv 1 [(2, uv m4), (8, uv m3), (9, uv m5), (10, uv m6), (11, uv m10), (13, uv m12), (14, uv m13), (16, uv d6), (70, uv d5), (71, uv m6), (72, uv m19), (73, uv d6), (74, uv m20), (75, uv m12), (76, uv m21), (77, .bool true), (79, uv d5)] rfl fun rest => ?_
   obtain ⟨m22, hm22, H⟩ := nm_s H
   refine TL_val rfl rfl (r_sub (c := ((m22 : Nat) : Int)) rfl rfl (wu_x hm22 (wu_subw (Nat.le_of_lt (show InU 1 by decide)) (a := d5) (b := (1 : Nat))))) <| TL_mv 1 [(2, uv m4), (8, uv m3), (9, uv m5), (10, uv m6), (11, uv m10), (13, uv m12), (14, uv m13), (15, uv m22), (16, uv d6), (70, uv d5), (71, uv m6), (72, uv m19), (73, uv d6), (74, uv m20), (75, uv m12), (76, uv m21), (77, .bool true)] rfl fun rest => TL_nil <| T_seq <| T_region <| TL_mv 2 [(2, uv m4), (8, uv m3), (9, uv m5), (10, uv m6), (11, uv m10), (13, uv m12), (14, uv m13), (15, uv m22), (70, uv d5), (71, uv m6), (72, uv m19), (73, uv d6), (74, uv m20), (75, uv m12), (76, uv m21), (77, .bool true), (81, uv d6), (82, uv m5)] rfl fun rest => ?_
   obtain ⟨m23, hm23, H⟩ := nm_s H
   refine TL_val rfl rfl (r_add (c := ((m23 : Nat) : Int)) rfl rfl (wu_x hm23 wu_addw)) <| TL_mv 1 [(2, uv m4), (8, uv m3), (9, uv m5), (10, uv m6), (11, uv m10), (13, uv m12), (14, uv m13), (15, uv m22), (16, uv m23), (70, uv d5), (71, uv m6), (72, uv m19), (73, uv d6), (74, uv m20), (75, uv m12), (76, uv m21), (77, .bool true)] rfl fun rest => TL_nil <| T_seq <| T_region <| TL_mv 1 [(2, uv m4), (8, uv m3), (9, uv m5), (10, uv m6), (11, uv m10), (13, uv m12), (14, uv m13), (15, uv m22), (16, uv m23), (70, uv d5), (71, uv m6), (72, uv m19), (73, uv d6), (74, uv m20), (75, uv m12), (76, uv m21), (77, .bool true), (84, uv m23)] rfl fun rest => ?_
   refine TL_geq rfl rfl rfl rfl (fun h7 => ?_) (fun h7 => ?_)
   ·replace H := if_t h7 H
    refine TL_mv 0 [(2, uv m4), (8, uv m3), (9, uv m5), (10, uv m6), (11, uv m10), (13, uv m12), (14, uv m13), (15, uv m22), (16, uv m23), (70, uv d5), (71, uv m6), (72, uv m19), (73, uv d6), (74, uv m20), (75, uv m12), (76, uv m21), (77, .bool true), (85, .bool true)] rfl fun rest => TL_nil <| T_cond_true rfl <| T_exit ?_
    exact JQ_mk m22 (And.intro (Option.some.inj H) (eq_mod_r hm22)) rfl (fun w h => St.weak h (fun S w h => trivial))
   replace H := if_f h7 H
   refine TL_mv 0 [(2, uv m4), (8, uv m3), (9, uv m5), (10, uv m6), (11, uv m10), (13, uv m12), (14, uv m13), (15, uv m22), (16, uv m23), (70, uv d5), (71, uv m6), (72, uv m19), (73, uv d6), (74, uv m20), (75, uv m12), (76, uv m21), (77, .bool true), (85, .bool false)] rfl fun rest => TL_nil <| T_cond_false rfl <| T_skip ?_
   exact St_round_s (n1, m22, m23) H (And.intro (eq_mod_r hm22) (eq_mod_r hm23)) (Nat.lt_succ_self _) rfl (fun w h => St.weak h (fun S w h => trivial))
  replace H := if_f h6 H
  refine TL_mv 1 [(2, uv m4), (8, uv m3), (9, uv m5), (10, uv m6), (11, uv m10), (13, uv m12), (14, uv m13), (15, uv d5), (16, uv d6), (70, uv d5), (71, uv m6), (72, uv m19), (73, uv d6), (74, uv m20), (75, uv m12), (76, uv m21), (77, .bool false), (78, .bool false)] rfl fun rest => TL_nil <| T_cond_false rfl <| T_exit ?_
  exact JQ_mk d5 (And.intro (Option.some.inj H) hr5) rfl (fun w h => St.weak h (fun S w h => trivial))
 refine JQ_el' ?_
 rintro d7 ⟨hs, hr7⟩ rest
 subst hs
 replace H := Hc
 clear hL
 refine JG_to (ms' := []) (Γ' := []) (live' := [(2, uv m4), (8, uv m3), (9, uv m5), (10, uv m6), (11, uv m10), (13, uv m12), (14, uv m13), (15, uv d7)]) rfl <| T_seq <| T_region <| TL_mv 1 [(2, uv m4), (8, uv m3), (9, uv m5), (10, uv m6), (13, uv m12), (14, uv m13), (15, uv d7), (86, uv m10)] rfl fun rest => ?_
 obtain ⟨m24, hm24, H⟩ := nm_s H
 refine TL_val rfl rfl (r_mul (c := ((m24 : Nat) : Int)) rfl rfl (wu_x hm24 (wu_mulw (a := m10) (b := (4294967296 : Nat))))) <| TL_mv 1 [(2, uv m4), (8, uv m3), (9, uv m5), (10, uv m6), (14, uv m13), (15, uv d7), (87, uv m24), (88, uv m12)] rfl fun rest => ?_
 obtain ⟨m25, hm25, H⟩ := nm_s H
 refine TL_val rfl rfl (r_add (c := ((m25 : Nat) : Int)) rfl rfl (wu_x hm25 wu_addw)) <| TL_mv 2 [(2, uv m4), (8, uv m3), (9, uv m5), (10, uv m6), (14, uv m13), (15, uv d7), (89, uv m25), (90, uv d7), (91, uv m4)] rfl fun rest => ?_
 obtain ⟨m26, hm26, H⟩ := nm_s H
 refine TL_val rfl rfl (r_mul (c := ((m26 : Nat) : Int)) rfl rfl (wu_x hm26 wu_mulw)) ?_
 obtain ⟨m27, hm27, H⟩ := nm_s H
 refine TL_val rfl rfl (r_sub (c := ((m27 : Nat) : Int)) rfl rfl (wu_x hm27 (wu_subw (Nat.le_of_lt (eq_mod_r hm26))))) <| TL_mv 1 [(2, uv m4), (8, uv m3), (9, uv m5), (10, uv m6), (14, uv m13), (15, uv d7), (17, uv m27)] rfl fun rest => TL_nil <| T_seq <| T_region <| TL_mv 2 [(2, uv m4), (8, uv m3), (9, uv m5), (10, uv m6), (14, uv m13), (15, uv d7), (17, uv m27), (94, uv m27), (95, uv m5)] rfl fun rest => ?_
 obtain ⟨h04, H⟩ := ck_s H
 obtain ⟨m28, hm28, H⟩ := nm_s H
 refine TL_val rfl rfl (r_quo (c := ((m28 : Nat) : Int)) rfl rfl (nz_u h04) (wu_x hm28 (n_quo_u64 (a := m27) (b := m5) (eq_mod_r hm27)))) <| TL_mv 1 [(2, uv m4), (8, uv m3), (9, uv m5), (10, uv m6), (14, uv m13), (15, uv d7), (17, uv m27), (18, uv m28)] rfl fun rest => TL_nil <| T_seq <| T_region <| TL_mv 3 [(2, uv m4), (8, uv m3), (9, uv m5), (10, uv m6), (14, uv m13), (15, uv d7), (17, uv m27), (18, uv m28), (97, uv m27), (98, uv m28), (99, uv m5)] rfl fun rest => ?_
 obtain ⟨m29, hm29, H⟩ := nm_s H
 refine TL_val rfl rfl (r_mul (c := ((m29 : Nat) : Int)) rfl rfl (wu_x hm29 wu_mulw)) ?_
 obtain ⟨m30, hm30, H⟩ := nm_s H
 refine TL_val rfl rfl (r_sub (c := ((m30 : Nat) : Int)) rfl rfl (wu_x hm30 (wu_subw (Nat.le_of_lt (eq_mod_r hm29))))) <| TL_mv 1 [(2, uv m4), (8, uv m3), (9, uv m5), (10, uv m6), (14, uv m13), (15, uv d7), (16, uv m30), (17, uv m27), (18, uv m28)] rfl fun rest => TL_nil <| T_seq <| T_block ?_
 obtain ⟨s2, hL, Hc⟩ := bd_s H
 refine T_X [(.x 2, JQ we Se (G := Nat) (fun d14 => (⟨[], [], [(2, uv m4), (8, uv m3), (14, uv m13), (15, uv d7), (17, uv m27), (18, uv d14)]⟩ : Inv)) (fun d14 => d14 = s2 ∧ InU d14))] ?_ ⟨?_, trivial⟩
 ·refine T_loop_s (G := Nat × Nat × Nat) (s1 := _) (f := _) (k := fun (n2, d12, d13) => n2) (σ := fun (n2, d12, d13) => (d12, d13)) (fun (n2, d12, d13) => (⟨[], [], [(2, uv m4), (8, uv m3), (9, uv m5), (10, uv m6), (14, uv m13), (15, uv d7), (16, uv d12), (17, uv m27), (18, uv d13)]⟩ : Inv)) (fun (n2, d12, d13) => InU d12 ∧ InU d13) (fu, m30, m28) hL (And.intro (eq_mod_r hm30) (udiv_r (eq_mod_r hm27) hm28)) rfl (fun w h => St.weak h (fun S w h => trivial)) ?_
  rintro ⟨n2, d12, d13⟩ ⟨H, hr12, hr13⟩ rest
  rcases n2 with _ | n2
  ·exact (loopN_z H).elim
  replace H := loopN_s H
  unfold B_math_bits_Div64_1 at H
  refine T_prune [(2, uv m4), (8, uv m3), (9, uv m5), (10, uv m6), (14, uv m13), (15, uv d7), (16, uv d12), (17, uv m27), (18, uv d13)] rfl fun rest => T_weak [] [] (fun w h => h) <| T_seq <| T_seq <| T_region <| TL_mv 1 [(2, uv m4), (8, uv m3), (9, uv m5), (10, uv m6), (14, uv m13), (15, uv d7), (16, uv d12), (17, uv m27), (18, uv d13), (102, uv d13)] rfl fun rest => ?_
  refine TL_geq rfl rfl rfl rfl (fun h8 => ?_) (fun h8 => ?_)
  ·replace H := if_t h8 H
   refine TL_mv 10 [(2, uv m4), (8, uv m3), (9, uv m5), (10, uv m6), (14, uv m13), (15, uv d7), (16, uv d12), (17, uv m27), (18, uv d13), (113, .bool true)] rfl fun rest => TL_nil <| T_cond_true rfl <| T_skip <| T_block <| T_seq ?_
   refine T_region <| TL_mv 1 [(2, uv m4), (8, uv m3), (9, uv m5), (10, uv m6), (14, uv m13), (15, uv d7), (16, uv d12), (17, uv m27), (114, uv d13)] rfl fun rest => ?_
   obtain ⟨m31, hm31, H⟩ := nm_s H
   refine TL_val rfl rfl (r_sub (c := ((m31 : Nat) : Int)) rfl rfl (wu_x hm31 (wu_subw (Nat.le_of_lt (show InU 1 by decide)) (a := d13) (b := (1 : Nat))))) <| TL_mv 1 [(2, uv m4), (8, uv m3), (9, uv m5), (10, uv m6), (14, uv m13), (15, uv d7), (16, uv d12), (17, uv m27), (18, uv m31)] rfl fun rest => TL_nil <| T_seq <| T_region <| TL_mv 2 [(2, uv m4), (8, uv m3), (9, uv m5), (10, uv m6), (14, uv m13), (15, uv d7), (17, uv m27), (18, uv m31), (116, uv d12), (117, uv m5)] rfl fun rest => ?_
   obtain ⟨m32, hm32, H⟩ := nm_s H
   refine TL_val rfl rfl (r_add (c := ((m32 : Nat) : Int)) rfl rfl (wu_x hm32 wu_addw)) <| TL_mv 1 [(2, uv m4), (8, uv m3), (9, uv m5), (10, uv m6), (14, uv m13), (15, uv d7), (16, uv m32), (17, uv m27), (18, uv m31)] rfl fun rest => TL_nil <| T_seq <| T_region <| TL_mv 1 [(2, uv m4), (8, uv m3), (9, uv m5), (10, uv m6), (14, uv m13), (15, uv d7), (16, uv m32), (17, uv m27), (18, uv m31), (119, uv m32)] rfl fun rest => ?_
   refine TL_geq rfl rfl rfl rfl (fun h9 => ?_) (fun h9 => ?_)
   ·replace H := if_t h9 H
    refine TL_mv 0 [(2, uv m4), (8, uv m3), (9, uv m5), (10, uv m6), (14, uv m13), (15, uv d7), (16, uv m32), (17, uv m27), (18, uv m31), (120, .bool true)] rfl fun rest => TL_nil <| T_cond_true rfl <| T_exit ?_
    exact JQ_mk m31 (And.intro (Option.some.inj H) (eq_mod_r hm31)) rfl (fun w h => St.weak h (fun S w h => trivial))
   replace H := if_f h9 H
   refine TL_mv 0 [(2, uv m4), (8, uv m3), (9, uv m5), (10, uv m6), (14, uv m13), (15, uv d7), (16, uv m32), (17, uv m27), (18, uv m31), (120, .bool false)] rfl fun rest => TL_nil <| T_cond_false rfl <| T_skip ?_
   exact St_round_s (n2, m32, m31) H (And.intro (eq_mod_r hm32) (eq_mod_r hm31)) (Nat.lt_succ_self _) rfl (fun w h => St.weak h (fun S w h => trivial))
  replace H := if_f h8 H
  refine TL_mv 3 [(2, uv m4), (8, uv m3), (9, uv m5), (10, uv m6), (14, uv m13), (15, uv d7), (16, uv d12), (17, uv m27), (18, uv d13), (104, .bool false), (105, uv d13), (106, uv m6)] rfl fun rest => ?_
  obtain ⟨m33, hm33, H⟩ := nm_s H
  refine TL_val rfl rfl (r_mul (c := ((m33 : Nat) : Int)) rfl rfl (wu_x hm33 wu_mulw)) <| TL_mv 1 [(2, uv m4), (8, uv m3), (9, uv m5), (10, uv m6), (14, uv m13), (15, uv d7), (16, uv d12), (17, uv m27), (18, uv d13), (104, .bool false), (105, uv d13), (106, uv m6), (107, uv m33), (108, uv d12)] rfl fun rest => ?_
  obtain ⟨m34, hm34, H⟩ := nm_s H
  refine TL_val rfl rfl (r_mul (c := ((m34 : Nat) : Int)) rfl rfl (wu_x hm34 (wu_mulw (a := (4294967296 : Nat)) (b := d12)))) <| TL_mv 1 [(2, uv m4), (8, uv m3), (9, uv m5), (10, uv m6), (14, uv m13), (15, uv d7), (16, uv d12), (17, uv m27), (18, uv d13), (104, .bool false), (105, uv d13), (106, uv m6), (107, uv m33), (108, uv d12), (109, uv m34), (110, uv m13)] rfl fun rest => ?_
  obtain ⟨m35, hm35, H⟩ := nm_s H
  refine TL_val rfl rfl (r_add (c := ((m35 : Nat) : Int)) rfl rfl (wu_x hm35 wu_addw)) <| TL_gtr rfl rfl rfl rfl (fun h10 => ?_) (fun h10 => ?_)
  ·replace H := if_t h10 H
   refine TL_mv 1 [(2, uv m4), (8, uv m3), (9, uv m5), (10, uv m6), (14, uv m13), (15, uv d7), (16, uv d12), (17, uv m27), (18, uv d13), (105, uv d13), (106, uv m6), (107, uv m33), (108, uv d12), (109, uv m34), (110, uv m13), (111, uv m35), (112, .bool true), (113, .bool true)] rfl fun rest => TL_nil <| T_cond_true rfl <| T_skip <| T_block <| T_seq ?_
   refine T_region <| TL_mv 1 [(2, uv m4), (8, uv m3), (9, uv m5), (10, uv m6), (14, uv m13), (15, uv d7), (16, uv d12), (17, uv m27), (105, uv d13), (106, uv m6), (107, uv m33), (108, uv d12), (109, uv m34), (110, uv m13), (111, uv m35), (112, .bool true), (114, uv d13)] rfl fun rest => ?_
   obtain ⟨m36, hm36, H⟩ := nm_s H
   refine TL_val rfl rfl (r_sub (c := ((m36 : Nat) : Int)) rfl rfl (wu_x hm36 (wu_subw (Nat.le_of_lt (show InU 1 by decide)) (a := d13) (b := (1 : Nat))))) <| TL_mv 1 [(2, uv m4), (8, uv m3), (9, uv m5), (10, uv m6), (14, uv m13), (15, uv d7), (16, uv d12), (17, uv m27), (18, uv m36), (105, uv d13), (106, uv m6), (107, uv m33), (108, uv d12), (109, uv m34), (110, uv m13), (111, uv m35), (112, .bool true)] rfl fun rest => TL_nil <| T_seq <| T_region <| TL_mv 2 [(2, uv m4), (8, uv m3), (9, uv m5), (10, uv m6), (14, uv m13), (15, uv d7), (17, uv m27), (18, uv m36), (105, uv d13), (106, uv m6), (107, uv m33), (108, uv d12), (109, uv m34), (110, uv m13), (111, uv m35), (112, .bool true), (116, uv d12), (117, uv m5)] rfl fun rest => ?_
   obtain ⟨m37, hm37, H⟩ := nm_s H
   refine TL_val rfl rfl (r_add (c := ((m37 : Nat) : Int)) rfl rfl (wu_x hm37 wu_addw)) <| TL_mv 1 [(2, uv m4), (8, uv m3), (9, uv m5), (10, uv m6), (14, uv m13), (15, uv d7), (16, uv m37), (17, uv m27), (18, uv m36), (105, uv d13), (106, uv m6), (107, uv m33), (108, uv d12), (109, uv m34), (110, uv m13), (111, uv m35), (112, .bool true)] rfl fun rest => TL_nil <| T_seq <| T_region <| TL_mv 1 [(2, uv m4), (8, uv m3), (9, uv m5), (10, uv m6), (14, uv m13), (15, uv d7), (16, uv m37), (17, uv m27), (18, uv m36), (105, uv d13), (106, uv m6), (107, uv m33), (108, uv d12), (109, uv m34), (110, uv m13), (111, uv m35), (112, .bool true), (119, uv m37)] rfl fun rest => ?_
   refine TL_geq rfl rfl rfl rfl (fun h11 => ?_) (fun h11 => ?_)
   ·replace H := if_t h11 H
    refine TL_mv 0 [(2, uv m4), (8, uv m3), (9, uv m5), (10, uv m6), (14, uv m13), (15, uv d7), (16, uv m37), (17, uv m27), (18, uv m36), (105, uv d13), (106, uv m6), (107, uv m33), (108, uv d12), (109, uv m34), (110, uv m13), (111, uv m35), (112, .bool true), (120, .bool true)] rfl fun rest => TL_nil <| T_cond_true rfl <| T_exit ?_
    exact JQ_mk m36 (And.intro (Option.some.inj H) (eq_mod_r hm36)) rfl (fun w h => St.weak h (fun S w h => trivial))
   replace H := if_f h11 H
   refine TL_mv 0 [(2, uv m4), (8, uv m3), (9, uv m5), (10, uv m6), (14, uv m13), (15, uv d7), (16, uv m37), (17, uv m27), (18, uv m36), (105, uv d13), (106, uv m6), (107, uv m33), (108, uv d12), (109, uv m34), (110, uv m13), (111, uv m35), (112, .bool true), (120, .bool false)] rfl fun rest => TL_nil <| T_cond_false rfl <| T_skip ?_
   exact St_round_s (n2, m37, m36) H (And.intro (eq_mod_r hm37) (eq_mod_r hm36)) (Nat.lt_succ_self _) rfl (fun w h => St.weak h (fun S w h => trivial))
  replace H := if_f h10 H
  refine TL_mv 1 [(2, uv m4), (8, uv m3), (9, uv m5), (10, uv m6), (14, uv m13), (15, uv d7), (16, uv d12), (17, uv m27), (18, uv d13), (105, uv d13), (106, uv m6), (107, uv m33), (108, uv d12), (109, uv m34), (110, uv m13), (111, uv m35), (112, .bool false), (113, .bool false)] rfl fun rest => TL_nil <| T_cond_false rfl <| T_exit ?_
  exact JQ_mk d13 (And.intro (Option.some.inj H) hr13) rfl (fun w h => St.weak h (fun S w h => trivial))
 refine JQ_el' ?_
 rintro d14 ⟨hs, hr14⟩ rest
 subst hs
 replace H := Hc
 clear hL
 refine JG_to (ms' := []) (Γ' := []) (live' := [(2, uv m4), (8, uv m3), (14, uv m13), (15, uv d7), (17, uv m27), (18, uv d14)]) rfl <| T_seq <| T_region <| TL_mv 1 [(2, uv m4), (8, uv m3), (14, uv m13), (17, uv m27), (18, uv d14), (121, uv d7)] rfl fun rest => ?_
 obtain ⟨m38, hm38, H⟩ := nm_s H
 refine TL_val rfl rfl (r_mul (c := ((m38 : Nat) : Int)) rfl rfl (wu_x hm38 (wu_mulw (a := d7) (b := (4294967296 : Nat))))) <| TL_mv 1 [(2, uv m4), (8, uv m3), (14, uv m13), (17, uv m27), (18, uv d14), (122, uv m38), (123, uv d14)] rfl fun rest => ?_
 obtain ⟨m39, hm39, H⟩ := nm_s H
 refine TL_val rfl rfl (r_add (c := ((m39 : Nat) : Int)) rfl rfl (wu_x hm39 wu_addw)) <| TL_mv 1 [(2, uv m4), (8, uv m3), (14, uv m13), (18, uv d14), (124, uv m39), (125, uv m27)] rfl fun rest => ?_
 obtain ⟨m40, hm40, H⟩ := nm_s H
 refine TL_val rfl rfl (r_mul (c := ((m40 : Nat) : Int)) rfl rfl (wu_x hm40 (wu_mulw (a := m27) (b := (4294967296 : Nat))))) <| TL_mv 1 [(2, uv m4), (8, uv m3), (18, uv d14), (124, uv m39), (126, uv m40), (127, uv m13)] rfl fun rest => ?_
 obtain ⟨m41, hm41, H⟩ := nm_s H
 refine TL_val rfl rfl (r_add (c := ((m41 : Nat) : Int)) rfl rfl (wu_x hm41 wu_addw)) <| TL_mv 2 [(8, uv m3), (124, uv m39), (128, uv m41), (129, uv d14), (130, uv m4)] rfl fun rest => ?_
 obtain ⟨m42, hm42, H⟩ := nm_s H
 refine TL_val rfl rfl (r_mul (c := ((m42 : Nat) : Int)) rfl rfl (wu_x hm42 wu_mulw)) ?_
 obtain ⟨m43, hm43, H⟩ := nm_s H
 refine TL_val rfl rfl (r_sub (c := ((m43 : Nat) : Int)) rfl rfl (wu_x hm43 (wu_subw (Nat.le_of_lt (eq_mod_r hm42))))) <| TL_mv 1 [(124, uv m39), (132, uv m43), (133, uv m3)] rfl fun rest => ?_
 obtain ⟨m44, hm44, H⟩ := nm_s H
 refine TL_val rfl rfl (r_shr (c := ((m44 : Nat) : Int)) rfl rfl (Int.natCast_nonneg _) (wu_y hm44 (n_shr_u (a := m43)))) <| TL_mv 2 [(6, uv m39), (7, uv m44)] rfl fun rest => TL_nil <| T_ret ?_
 obtain ⟨rfl, rfl⟩ := inj2 H
 exact Ret2 (t := 6) (t' := 7) (ts := []) () Tryz.results258 rfl (And.intro (eq_mod_r hm39) (udiv_r (eq_mod_r hm43) hm44)) (fun S w h => trivial)
set_option maxRecDepth 100000 in
set_option maxHeartbeats 1000000 in
theorem c_nat_guess (fu : Nat) (a0 : Nat) (qa0 : InU a0) (a1 : Nat) (qa1 : InU a1) (a2 : Nat) (qa2 : InU a2) (a3 : Nat) (qa3 : InU a3) (a4 : Nat) (qa4 : InU a4) (r0 : Nat) (H : M_nat_guess fu a0 a1 a2 a3 a4 = some r0) : Fn Tryz.prog 244 [uv a0, uv a1, uv a2, uv a3, uv a4].toArray [] (fun _ : Unit => uv r0) (fun _ => []) (fun _ => InU r0) := by
 unfold M_nat_guess at H
 refine Fn_intro Tryz.func244 rfl rfl fun we Se rest => T_seq <| T_region <| TL_mv 1 [(0, uv a0), (1, uv a1), (2, uv a2), (3, uv a3), (4, uv a4)] rfl fun rest => TL_nil <| T_seq ?_
 refine T_seq <| T_region <| TL_mv 2 [(0, uv a0), (1, uv a1), (2, uv a2), (3, uv a3), (4, uv a4), (17, uv a0), (18, uv a3)] rfl fun rest => TL_geq rfl rfl rfl rfl (fun h1 => ?_) (fun h1 => ?_)
 ·replace H := if_t h1 H
  refine TL_mv 0 [(0, uv a0), (1, uv a1), (2, uv a2), (3, uv a3), (4, uv a4), (19, .bool true)] rfl fun rest => TL_nil <| T_cond_true rfl <| T_seq <| T_region <| TL_mv 1 [(10, .int .u64 18446744073709551615)] rfl fun rest => ?_
  refine TL_nil <| T_ret ?_
  obtain rfl := inj1 H
  exact Ret1 () Tryz.results244 rfl (show InU 18446744073709551615 by decide) (fun S w h => trivial)
 replace H := if_f h1 H
 refine TL_mv 0 [(0, uv a0), (1, uv a1), (2, uv a2), (3, uv a3), (4, uv a4), (19, .bool false)] rfl fun rest => TL_nil <| T_cond_false rfl <| T_skip <| T_seq <| T_region ?_
 refine TL_mv 3 [(2, uv a2), (3, uv a3), (4, uv a4), (21, uv a0), (22, uv a1), (23, uv a3)] rfl fun rest => ?_
 obtain ⟨⟨m1, m2⟩, he1, H⟩ := bd_s H
 refine TL_step rfl rfl (oe_call (by kernel_rfl) (c_math_bits_Div64 fu a0 qa0 a1 qa1 a3 qa3 m1 m2 he1) rfl (fun S w h => trivial)) fun _ hk1 => TL_mv 5 [(2, uv a2), (3, uv a3), (4, uv a4), (11, uv m1), (12, uv m2)] rfl fun rest => TL_nil <| T_block ?_
 obtain ⟨s1, hL, Hc⟩ := bd_s H
 refine T_X [(.r, JQ we Se (G := Nat) (fun d7 => (⟨[], [], [(10, uv d7)]⟩ : Inv)) (fun d7 => d7 = s1 ∧ InU d7))] ?_ ⟨?_, trivial⟩
 ·refine T_loop_s (G := Nat × Nat × Nat) (s1 := _) (f := _) (k := fun (n1, d5, d6) => n1) (σ := fun (n1, d5, d6) => (d5, d6)) (fun (n1, d5, d6) => (⟨[], [], [(2, uv a2), (3, uv a3), (4, uv a4), (11, uv d5), (12, uv d6)]⟩ : Inv)) (fun (n1, d5, d6) => InU d5 ∧ InU d6) (fu, m1, m2) hL (And.intro hk1.1 hk1.2) rfl (fun w h => St.weak h (fun S w h => trivial)) ?_
  rintro ⟨n1, d5, d6⟩ ⟨H, hr5, hr6⟩ rest
  rcases n1 with _ | n1
  ·exact (loopN_z H).elim
  replace H := loopN_s H
  unfold B_nat_guess_0 at H
  refine T_prune [(2, uv a2), (3, uv a3), (4, uv a4), (11, uv d5), (12, uv d6)] rfl fun rest => T_weak [] [] (fun w h => h) <| T_block <| T_seq <| T_region <| TL_mv 2 [(2, uv a2), (3, uv a3), (4, uv a4), (11, uv d5), (12, uv d6), (28, uv d5), (29, uv a4)] rfl fun rest => ?_
  obtain ⟨⟨m3, m4⟩, he2, H⟩ := bd_s H
  refine TL_step rfl rfl (oe_call (by kernel_rfl) (c_math_bits_Mul64 fu d5 hr5 a4 qa4 m3 m4 he2) rfl (fun S w h => trivial)) fun _ hk2 => TL_mv 5 [(2, uv a2), (3, uv a3), (4, uv a4), (11, uv d5), (12, uv d6), (13, uv m3), (14, uv m4)] rfl fun rest => TL_nil <| T_seq <| T_seq <| T_region ?_
  refine TL_mv 2 [(2, uv a2), (3, uv a3), (4, uv a4), (11, uv d5), (12, uv d6), (13, uv m3), (14, uv m4), (33, uv m3), (34, uv d6)] rfl fun rest => TL_lss rfl rfl rfl rfl (fun h2 => ?_) (fun h2 => ?_)
  ·replace H := if_t h2 H
   refine TL_mv 5 [(2, uv a2), (3, uv a3), (4, uv a4), (11, uv d5), (12, uv d6), (14, uv m4), (36, .bool true), (40, undef)] rfl fun rest => TL_not rfl rfl <| TL_not rfl rfl <| TL_not rfl rfl <| TL_mv 2 [(2, uv a2), (3, uv a3), (4, uv a4), (11, uv d5), (12, uv d6), (45, .bool true)] rfl fun rest => TL_nil ?_
   refine T_cond_true rfl <| T_seq <| T_region <| TL_mv 2 [(10, uv d5)] rfl fun rest => TL_nil <| T_ret ?_
   exact JQ_mk d5 (And.intro (Option.some.inj H) hr5) rfl (fun w h => St.weak h (fun S w h => trivial))
  replace H := if_f h2 H
  refine TL_mv 3 [(2, uv a2), (3, uv a3), (4, uv a4), (11, uv d5), (12, uv d6), (14, uv m4), (36, .bool false), (37, uv m3), (38, uv d6)] rfl fun rest => TL_eql rfl rfl rfl rfl (fun h3 => ?_) (fun h3 => ?_)
  ·replace H := if_t h3 H
   refine TL_mv 3 [(2, uv a2), (3, uv a3), (4, uv a4), (11, uv d5), (12, uv d6), (36, .bool false), (37, uv m3), (38, uv d6), (39, .bool true), (40, .bool true), (41, uv m4), (42, uv a2)] rfl fun rest => TL_leq rfl rfl rfl rfl (fun h4 => ?_) (fun h4 => ?_)
   ·replace H := if_t h4 H
    refine TL_mv 2 [(2, uv a2), (3, uv a3), (4, uv a4), (11, uv d5), (12, uv d6), (37, uv m3), (38, uv d6), (39, .bool true), (40, .bool true), (41, uv m4), (42, uv a2), (43, .bool true), (44, .bool true), (45, .bool true)] rfl fun rest => TL_nil <| T_cond_true rfl <| T_seq <| T_region <| TL_mv 2 [(10, uv d5)] rfl fun rest => ?_
    refine TL_nil <| T_ret ?_
    exact JQ_mk d5 (And.intro (Option.some.inj H) hr5) rfl (fun w h => St.weak h (fun S w h => trivial))
   replace H := if_f h4 H
   refine TL_mv 2 [(2, uv a2), (3, uv a3), (4, uv a4), (11, uv d5), (12, uv d6), (37, uv m3), (38, uv d6), (39, .bool true), (40, .bool true), (41, uv m4), (42, uv a2), (43, .bool false), (44, .bool false), (45, .bool false)] rfl fun rest => TL_nil <| T_cond_false rfl <| T_skip <| T_seq <| T_region ?_
   refine TL_mv 1 [(2, uv a2), (3, uv a3), (4, uv a4), (12, uv d6), (37, uv m3), (38, uv d6), (39, .bool true), (40, .bool true), (41, uv m4), (42, uv a2), (43, .bool false), (44, .bool false), (47, uv d5)] rfl fun rest => ?_
   obtain ⟨m5, hm5, H⟩ := nm_s H
   refine TL_val rfl rfl (r_sub (c := ((m5 : Nat) : Int)) rfl rfl (wu_x hm5 (wu_subw (Nat.le_of_lt (show InU 1 by decide)) (a := d5) (b := (1 : Nat))))) <| TL_mv 1 [(2, uv a2), (3, uv a3), (4, uv a4), (11, uv m5), (12, uv d6), (37, uv m3), (38, uv d6), (39, .bool true), (40, .bool true), (41, uv m4), (42, uv a2), (43, .bool false), (44, .bool false)] rfl fun rest => TL_nil <| T_seq <| T_region <| TL_mv 2 [(2, uv a2), (3, uv a3), (4, uv a4), (11, uv m5), (37, uv m3), (38, uv d6), (39, .bool true), (40, .bool true), (41, uv m4), (42, uv a2), (43, .bool false), (44, .bool false), (50, uv d6), (51, uv a3)] rfl fun rest => ?_
   obtain ⟨m6, hm6, H⟩ := nm_s H
   obtain ⟨m7, hm7, H⟩ := nm_s H
   refine TL_val rfl rfl (v_2 (x := m6) (y := m7) (r_add64 (x := d6) (y := a3) (z := (0 : Nat)) Tryz.func212 xh212 rfl xn212 xf212 rfl rfl rfl (by decide)) hm6 hm7) <| TL_mv 5 [(2, uv a2), (3, uv a3), (4, uv a4), (11, uv m5), (15, uv m6), (16, uv m7), (37, uv m3), (38, uv d6), (39, .bool true), (40, .bool true), (41, uv m4), (42, uv a2), (43, .bool false), (44, .bool false)] rfl fun rest => TL_nil <| T_seq <| T_seq <| T_region ?_
   refine TL_mv 1 [(2, uv a2), (3, uv a3), (4, uv a4), (11, uv m5), (15, uv m6), (37, uv m3), (38, uv d6), (39, .bool true), (40, .bool true), (41, uv m4), (42, uv a2), (43, .bool false), (44, .bool false), (55, uv m7)] rfl fun rest => TL_gtr rfl rfl rfl rfl (fun h5 => ?_) (fun h5 => ?_)
   ·replace H := if_t h5 H
    refine TL_mv 0 [(2, uv a2), (3, uv a3), (4, uv a4), (11, uv m5), (15, uv m6), (37, uv m3), (38, uv d6), (39, .bool true), (40, .bool true), (41, uv m4), (42, uv a2), (43, .bool false), (44, .bool false), (56, .bool true)] rfl fun rest => TL_nil <| T_cond_true rfl <| T_seq <| T_region <| TL_mv 2 [(10, uv m5)] rfl fun rest => ?_
    refine TL_nil <| T_ret ?_
    exact JQ_mk m5 (And.intro (Option.some.inj H) (eq_mod_r hm5)) rfl (fun w h => St.weak h (fun S w h => trivial))
   replace H := if_f h5 H
   refine TL_mv 0 [(2, uv a2), (3, uv a3), (4, uv a4), (11, uv m5), (15, uv m6), (37, uv m3), (38, uv d6), (39, .bool true), (40, .bool true), (41, uv m4), (42, uv a2), (43, .bool false), (44, .bool false), (56, .bool false)] rfl fun rest => TL_nil <| T_cond_false rfl <| T_skip <| T_region <| TL_mv 2 [(2, uv a2), (3, uv a3), (4, uv a4), (11, uv m5), (12, uv m6), (37, uv m3), (38, uv d6), (39, .bool true), (40, .bool true), (41, uv m4), (42, uv a2), (43, .bool false), (44, .bool false)] rfl fun rest => ?_
   refine TL_nil ?_
   exact St_round_s (n1, m5, m6) H (And.intro (eq_mod_r hm5) (eq_mod_r hm6)) (Nat.lt_succ_self _) rfl (fun w h => St.weak h (fun S w h => trivial))
  replace H := if_f h3 H
  refine TL_mv 6 [(2, uv a2), (3, uv a3), (4, uv a4), (11, uv d5), (12, uv d6), (37, uv m3), (38, uv d6), (39, .bool false), (40, .bool false), (44, .bool false), (45, .bool false)] rfl fun rest => TL_nil <| T_cond_false rfl <| T_skip <| T_seq <| T_region ?_
  refine TL_mv 1 [(2, uv a2), (3, uv a3), (4, uv a4), (12, uv d6), (37, uv m3), (38, uv d6), (39, .bool false), (40, .bool false), (44, .bool false), (47, uv d5)] rfl fun rest => ?_
  obtain ⟨m8, hm8, H⟩ := nm_s H
  refine TL_val rfl rfl (r_sub (c := ((m8 : Nat) : Int)) rfl rfl (wu_x hm8 (wu_subw (Nat.le_of_lt (show InU 1 by decide)) (a := d5) (b := (1 : Nat))))) <| TL_mv 1 [(2, uv a2), (3, uv a3), (4, uv a4), (11, uv m8), (12, uv d6), (37, uv m3), (38, uv d6), (39, .bool false), (40, .bool false), (44, .bool false)] rfl fun rest => TL_nil <| T_seq <| T_region <| TL_mv 2 [(2, uv a2), (3, uv a3), (4, uv a4), (11, uv m8), (37, uv m3), (38, uv d6), (39, .bool false), (40, .bool false), (44, .bool false), (50, uv d6), (51, uv a3)] rfl fun rest => ?_
  obtain ⟨m9, hm9, H⟩ := nm_s H
  obtain ⟨m10, hm10, H⟩ := nm_s H
  refine TL_val rfl rfl (v_2 (x := m9) (y := m10) (r_add64 (x := d6) (y := a3) (z := (0 : Nat)) Tryz.func212 xh212 rfl xn212 xf212 rfl rfl rfl (by decide)) hm9 hm10) <| TL_mv 5 [(2, uv a2), (3, uv a3), (4, uv a4), (11, uv m8), (15, uv m9), (16, uv m10), (37, uv m3), (38, uv d6), (39, .bool false), (40, .bool false), (44, .bool false)] rfl fun rest => TL_nil <| T_seq <| T_seq <| T_region ?_
  refine TL_mv 1 [(2, uv a2), (3, uv a3), (4, uv a4), (11, uv m8), (15, uv m9), (37, uv m3), (38, uv d6), (39, .bool false), (40, .bool false), (44, .bool false), (55, uv m10)] rfl fun rest => TL_gtr rfl rfl rfl rfl (fun h6 => ?_) (fun h6 => ?_)
  ·replace H := if_t h6 H
   refine TL_mv 0 [(2, uv a2), (3, uv a3), (4, uv a4), (11, uv m8), (15, uv m9), (37, uv m3), (38, uv d6), (39, .bool false), (40, .bool false), (44, .bool false), (56, .bool true)] rfl fun rest => TL_nil <| T_cond_true rfl <| T_seq <| T_region <| TL_mv 2 [(10, uv m8)] rfl fun rest => ?_
   refine TL_nil <| T_ret ?_
   exact JQ_mk m8 (And.intro (Option.some.inj H) (eq_mod_r hm8)) rfl (fun w h => St.weak h (fun S w h => trivial))
  replace H := if_f h6 H
  refine TL_mv 0 [(2, uv a2), (3, uv a3), (4, uv a4), (11, uv m8), (15, uv m9), (37, uv m3), (38, uv d6), (39, .bool false), (40, .bool false), (44, .bool false), (56, .bool false)] rfl fun rest => TL_nil <| T_cond_false rfl <| T_skip <| T_region <| TL_mv 2 [(2, uv a2), (3, uv a3), (4, uv a4), (11, uv m8), (12, uv m9), (37, uv m3), (38, uv d6), (39, .bool false), (40, .bool false), (44, .bool false)] rfl fun rest => ?_
  refine TL_nil ?_
  exact St_round_s (n1, m8, m9) H (And.intro (eq_mod_r hm8) (eq_mod_r hm9)) (Nat.lt_succ_self _) rfl (fun w h => St.weak h (fun S w h => trivial))
 refine JQ_el' ?_
 rintro d7 ⟨hs, hr7⟩ rest
 subst hs
 replace H := Hc
 clear hL
 refine JG_to (ms' := []) (Γ' := []) (live' := [(10, uv d7)]) rfl ?_
 obtain rfl := inj1 H
 exact Ret1 () Tryz.results244 rfl hr7 (fun S w h => trivial)
set_option maxRecDepth 100000 in
set_option maxHeartbeats 1000000 in
theorem c_nat_short (fu : Nat) (a0 : List Nat) (va0 : Value) (a1 : Nat) (qa1 : InU a1) (r0 : List Nat) (r1 : Nat) (H : M_nat_short fu a0 a1 = some (r0, r1)) : FnG Tryz.prog 242 [va0, uv a1].toArray [] [fV (eS eU) (a0) va0] (fun u : Value => .tuple #[u, uv r1]) (fun u => [mO eU 102 u (r0)]) (fun u => []) (fun _ => InU r1) := by
 unfold M_nat_short at H
 refine FnG_intro Tryz.func242 rfl rfl fun we Se F G rest => T_seq <| T_region <| TL_mv 2 [(0, va0), (1, uv a1)] rfl fun rest => TL_nil <| T_seq ?_
 refine T_region <| TL_mv 1 [(0, va0), (1, uv a1), (9, va0)] rfl fun rest => TL_step rfl rfl (oe_len (e := eU) (xs := a0) Tryz.underlying23 rfl (fun S w h => h.1)) fun _ hl1 => ?_
 obtain ⟨hk1, H⟩ := ck_s H
 obtain ⟨t1, ht1, H⟩ := nm_s H
 refine TL_og rfl rfl (og_make' (e := eU) (z := 0) (xs := t1) (n := a0.length) Tryz.underlying23 ty102 rfl rfl (by decide) hk1 (fun S w => z102 S w) ht1) fun b1 _ => ?_
 show TL _ _ _ _ (mB (rowT eU a0.length) 102 b1 (t1) :: F) (fV (eS eU) (a0) va0 :: G) _ _ _ _
 refine TL_mv 2 [(0, va0), (1, uv a1), (6, .slice (some ⟨b1, 0, none⟩) a0.length a0.length), (7, .int .u64 0)] rfl fun rest => TL_nil <| T_seq <| T_seq <| T_region <| TL_mv 1 [(0, va0), (1, uv a1), (6, .slice (some ⟨b1, 0, none⟩) a0.length a0.length), (7, .int .u64 0), (12, va0)] rfl fun rest => ?_
 refine TL_step rfl rfl (oe_len (e := eU) (xs := a0) Tryz.underlying23 rfl (fun S w h => h.1)) fun _ hl2 => ?_
 obtain ⟨x1, hx1, hrx1, H⟩ := ck64_s H
 refine TL_val rfl rfl (r_sub (c := x1) rfl rfl (w_x hx1 hrx1)) <| TL_mv 1 [(0, va0), (1, uv a1), (6, .slice (some ⟨b1, 0, none⟩) a0.length a0.length), (7, .int .u64 0), (8, iv (x1))] rfl fun rest => TL_nil <| T_block ?_
 obtain ⟨s1, hL, Hc⟩ := bd_s H
 refine T_X [(.x 0, JQ we Se (G := Nat × (List Nat)) (fun (d4, t5) => (⟨(mB (rowT eU a0.length) 102 b1 (t5) :: F), (G), [(6, .slice (some ⟨b1, 0, none⟩) a0.length a0.length), (7, uv d4)]⟩ : Inv)) (fun (d4, t5) => (d4, t5) = s1 ∧ InU d4 ∧ t5.length = a0.length))] ?_ ⟨?_, trivial⟩
 ·refine T_loop_s (G := Nat × Nat × Int × (List Nat)) (s1 := _) (f := _) (k := fun (n1, d3, i3, t4) => n1) (σ := fun (n1, d3, i3, t4) => (d3, i3, t4)) (fun (n1, d3, i3, t4) => (⟨(mB (rowT eU a0.length) 102 b1 (t4) :: F), (fV (eS eU) (a0) va0 :: G), [(0, va0), (1, uv a1), (6, .slice (some ⟨b1, 0, none⟩) a0.length a0.length), (7, uv d3), (8, iv (i3))]⟩ : Inv)) (fun (n1, d3, i3, t4) => InU d3 ∧ InR i3 ∧ t4.length = a0.length) (fu, (0 : Nat), x1, t1) hL (And.intro (show InU 0 by decide) (And.intro hrx1 (rep_len ht1))) rfl (fun w h => St.weak h (fun S w h => ⟨h.1, h.2⟩)) ?_
  rintro ⟨n1, d3, i3, t4⟩ ⟨H, hr5, hr6, hz3⟩ rest
  rcases n1 with _ | n1
  ·exact (loopN_z H).elim
  replace H := loopN_s H
  unfold B_nat_short_0 at H
  refine T_prune [(0, va0), (1, uv a1), (6, .slice (some ⟨b1, 0, none⟩) a0.length a0.length), (7, uv d3), (8, iv (i3))] rfl fun rest => T_weak (mB (rowT eU a0.length) 102 b1 (t4) :: F) (fV (eS eU) (a0) va0 :: G) (fun w h => h) <| T_seq <| T_seq <| T_region <| TL_mv 1 [(0, va0), (1, uv a1), (6, .slice (some ⟨b1, 0, none⟩) a0.length a0.length), (7, uv d3), (8, iv (i3)), (15, iv (i3))] rfl fun rest => ?_
  refine TL_geq rfl rfl rfl rfl (fun h1 => ?_) (fun h1 => ?_)
  ·replace H := if_t h1 H
   refine TL_mv 0 [(0, va0), (1, uv a1), (6, .slice (some ⟨b1, 0, none⟩) a0.length a0.length), (7, uv d3), (8, iv (i3)), (16, .bool true)] rfl fun rest => TL_nil <| T_cond_true rfl <| T_skip <| T_seq <| T_block ?_
   refine T_region <| TL_mv 5 [(0, va0), (1, uv a1), (6, .slice (some ⟨b1, 0, none⟩) a0.length a0.length), (8, iv (i3)), (20, .slice (some ⟨b1, 0, none⟩) a0.length a0.length), (21, iv (i3)), (22, uv d3), (23, va0), (24, iv (i3))] rfl fun rest => ?_
   obtain ⟨j1, hj1, hlj1, H⟩ := ckI_s H
   obtain ⟨y1, hy1, H⟩ := nm_s H
   refine TL_step rfl rfl (oe_index (e := eU) (xs := a0) (k := j1) (y := y1) rfl (vi hj1) Tryz.underlying23 ty102 (getE (z := 0) hlj1 hy1) (fun S w h => h.1)) fun p1 _ => TL_step rfl rfl (oe_load_u64 (y := y1) rfl ty102 (fun S w h => h.1)) fun _ hv1 => TL_mv 1 [(0, va0), (1, uv a1), (6, .slice (some ⟨b1, 0, none⟩) a0.length a0.length), (8, iv (i3)), (20, .slice (some ⟨b1, 0, none⟩) a0.length a0.length), (21, iv (i3)), (22, uv d3), (26, uv y1), (27, uv a1)] rfl fun rest => ?_
   obtain ⟨⟨m1, m2⟩, he1, H⟩ := bd_s H
   refine TL_step rfl rfl (oe_call (by kernel_rfl) (c_math_bits_Div64 fu d3 hr5 y1 hv1 a1 qa1 m1 m2 he1) rfl (fun S w h => trivial)) fun _ hk2 => TL_mv 3 [(0, va0), (1, uv a1), (6, .slice (some ⟨b1, 0, none⟩) a0.length a0.length), (8, iv (i3)), (20, .slice (some ⟨b1, 0, none⟩) a0.length a0.length), (21, iv (i3)), (29, uv m1), (30, uv m2)] rfl fun rest => ?_
   obtain ⟨j2, hj2, hlj2, H⟩ := ckI_s H
   refine TL_val rfl rfl (r_index Tryz.underlying23 ty102 rfl (vi hj2) (k := j2) (lt_of_len hlj2 hz3)) ?_
   obtain ⟨t6, ht6, H⟩ := nm_s H
   refine TL_og rfl rfl (og_store' (f := eU) (y' := m1) (z2 := t6) 0 rfl rfl rfl (Sub.rowT0 eU a0.length (t4) j2 _ (getD_some 0 (lt_of_len' (lt_of_len hlj2 hz3) hz3))) ty102 (fun S w h => (u64_fV hk2.1)) ht6) fun _ _ => ?_
   show TL _ _ _ _ (mB (rowT eU a0.length) 102 b1 (t6) :: F) (fP eU (y1) p1 :: fV (eS eU) (a0) va0 :: G) _ _ _ _
   refine TL_mv 1 [(0, va0), (1, uv a1), (6, .slice (some ⟨b1, 0, none⟩) a0.length a0.length), (7, uv m2), (8, iv (i3))] rfl fun rest => TL_nil <| T_region <| TL_mv 1 [(0, va0), (1, uv a1), (6, .slice (some ⟨b1, 0, none⟩) a0.length a0.length), (7, uv m2), (17, iv (i3))] rfl fun rest => ?_
   obtain ⟨x2, hx2, hrx2, H⟩ := ck64_s H
   refine TL_val rfl rfl (r_sub (c := x2) rfl rfl (w_x hx2 hrx2)) <| TL_mv 1 [(0, va0), (1, uv a1), (6, .slice (some ⟨b1, 0, none⟩) a0.length a0.length), (7, uv m2), (8, iv (x2))] rfl fun rest => TL_nil ?_
   exact St_round_s (n1, m2, x2, t6) H (And.intro hk2.2 (And.intro hrx2 (set_len ht6 hz3))) (Nat.lt_succ_self _) rfl (fun w h => St.weak h (fun S w h => ⟨h.2.1, h.2.2⟩))
  replace H := if_f h1 H
  refine TL_mv 0 [(0, va0), (1, uv a1), (6, .slice (some ⟨b1, 0, none⟩) a0.length a0.length), (7, uv d3), (8, iv (i3)), (16, .bool false)] rfl fun rest => TL_nil <| T_cond_false rfl <| T_exit ?_
  exact JQ_mk (d3, t4) (And.intro (Option.some.inj H) (And.intro hr5 hz3)) rfl (fun w h => St.weak h (fun S w h => h.2))
 refine JQ_el' ?_
 rintro ⟨d4, t5⟩ ⟨hs, hr7, hz4⟩ rest
 subst hs
 replace H := Hc
 clear hL
 refine JG_to (ms' := (mB (rowT eU a0.length) 102 b1 (t5) :: F)) (Γ' := (G)) (live' := [(6, .slice (some ⟨b1, 0, none⟩) a0.length a0.length), (7, uv d4)]) rfl <| T_seq <| T_region <| TL_mv 1 [(7, uv d4), (32, .slice (some ⟨b1, 0, none⟩) a0.length a0.length)] rfl fun rest => TL_weak_st (fun w h => close_all 0 h rfl hz4 (Nat.le_refl _) (mk_le (B := 8) (by decide) hk1)) ?_
 show TL _ _ _ _ (mO eU 102 ((.slice (some ⟨b1, 0, none⟩) a0.length a0.length)) (t5) :: F) _ _ _ _ _
 obtain ⟨t7, he2, H⟩ := bd_s H
 refine TL_og rfl rfl (og_callG (F := (F)) (by kernel_rfl) (c_nat_plain_own fu t5 ((.slice (some ⟨b1, 0, none⟩) a0.length a0.length)) t7 he2) rfl (fun S w h => trivial)) fun u1 _ => ?_
 show TL _ _ _ _ (mO eU 102 u1 (t7) :: F) (G) _ _ _ _
 refine TL_mv 3 [(4, u1), (5, uv d4)] rfl fun rest => TL_nil <| T_ret ?_
 obtain ⟨rfl, rfl⟩ := inj2 H
 intro w hw
 exact RetG (vs := [u1, (uv d4 : Value)]) u1 Tryz.results242 (by exact ⟨rfl, rfl, trivial⟩) rfl hr7 (St.weak hw (fun S w h => h))
end Go.Proofs.YtjnjfinbdfolkaaGreat
end

section
set_option linter.unusedVariables false
set_option linter.unusedSimpArgs false
namespace Go.Proofs.YtjnjfinbdfolkaaGreat
set_option maxRecDepth 100000 in
set_option maxHeartbeats 1000000 in
theorem c_nat_Div (fu : Nat) (a0 : List Nat) (va0 : Value) (a1 : List Nat) (va1 : Value) (r0 : List Nat) (r1 : List Nat) (r2 : Int) (H : M_nat_Div fu a0 a1 = some (r0, r1, r2)) : FnG Tryz.prog 193 [va0, va1].toArray [] [fV (eS eU) (a0) va0, fV (eS eU) (a1) va1] (fun u : Value × Value => .tuple #[u.1, u.2, iv (r2)]) (fun u => [mO eU 102 u.1 (r0)]) (fun u => [fV (eS eU) (r1) u.2]) (fun _ => InR r2) := by
 unfold M_nat_Div at H
 refine FnG_intro Tryz.func193 rfl rfl fun we Se F G rest => T_seq <| T_region <| TL_mv 3 [(0, va0), (1, va1)] rfl fun rest => TL_nil <| T_seq ?_
 refine T_region <| TL_mv 1 [(1, va1), (19, va0)] rfl fun rest => ?_
 obtain ⟨t1, he1, H⟩ := bd_s H
 refine TL_step rfl rfl (oe_call (by kernel_rfl) (c_nat_plain fu a0 va0 t1 he1) rfl (fun S w h => ⟨h.1, trivial⟩)) fun u1 _ => TL_mv 1 [(20, u1), (21, va1)] rfl fun rest => ?_
 obtain ⟨t2, he2, H⟩ := bd_s H
 refine TL_step rfl rfl (oe_call (by kernel_rfl) (c_nat_plain fu a1 va1 t2 he2) rfl (fun S w h => ⟨h.2.2.1, trivial⟩)) fun u2 _ => TL_mv 2 [(0, u1), (1, u2)] rfl fun rest => TL_nil <| T_seq <| T_block <| T_seq ?_
 obtain ⟨s1, hL, Hc⟩ := bd_s H
 refine T_X [(.n, JQ we Se (G := Bool) (fun b1 => (⟨(F), (fV (eS eU) (t2) u2 :: fV (eS eU) (t1) u1 :: G), [(0, u1), (1, u2), (23, .bool (b1))]⟩ : Inv)) (fun b1 => b1 = s1))] ?_ ⟨?_, trivial⟩
 ·replace H := hL
  refine T_region <| TL_mv 1 [(0, u1), (1, u2), (24, u2)] rfl fun rest => TL_step rfl rfl (oe_len (e := eU) (xs := t2) Tryz.underlying23 rfl (fun S w h => h.1)) fun _ hl1 => TL_eql rfl rfl rfl rfl (fun h1 => ?_) (fun h1 => ?_)
  ·replace H := if_t h1 H
   refine TL_mv 1 [(0, u1), (1, u2), (23, .bool true)] rfl fun rest => TL_nil ?_
   exact JQ_mk true (Option.some.inj H) rfl (fun w h => St.weak h (fun S w h => ⟨h.1, h.2.1, h.2.2.2.2⟩))
  replace H := if_f h1 H
  refine TL_mv 1 [(0, u1), (1, u2), (23, .bool false)] rfl fun rest => TL_nil ?_
  exact JQ_mk false (Option.some.inj H) rfl (fun w h => St.weak h (fun S w h => ⟨h.1, h.2.1, h.2.2.2.2⟩))
 refine JQ_el' ?_
 rintro b1 hs rest
 subst hs
 replace H := Hc
 clear hL
 refine JG_to (ms' := (F)) (Γ' := (fV (eS eU) (t2) u2 :: fV (eS eU) (t1) u1 :: G)) (live' := [(0, u1), (1, u2), (23, .bool (b1))]) rfl <| T_cond (b1) rfl (fun hb1 => ?_) (fun hb1 => ?_)
 ·replace H := if_t hb1 H
  refine T_seq <| T_region <| TL_mv 3 [(4, .slice none 0 0), (5, .slice none 0 0), (6, iv 3)] rfl fun rest => TL_nil <| T_ret <| T_weak_st (fun w h => St.nilO (e := eU) (E := 102) h) ?_
  obtain ⟨rfl, rfl, rfl⟩ := inj3 H
  intro w hw
  exact RetG (vs := [(.slice none 0 0), (.slice none 0 0 : Value), (iv 3 : Value)]) ((.slice none 0 0), (.slice none 0 0 : Value)) Tryz.results193 (by exact ⟨rfl, rfl, rfl, trivial⟩) rfl (show InR (3) by decide) (St.weak hw (fun S w h => ⟨nil_fV, h.2.2⟩))
 replace H := ifb_f hb1 H
 refine T_seq ?_
 obtain ⟨s2, hL, Hc⟩ := bd_s H
 refine T_X [(.n, JQ we Se (G := Bool) (fun b2 => (⟨(F), (fV (eS eU) (t2) u2 :: fV (eS eU) (t1) u1 :: G), [(0, u1), (1, u2), (27, .bool (b2))]⟩ : Inv)) (fun b2 => b2 = s2))] ?_ ⟨?_, trivial⟩
 ·replace H := hL
  refine T_region <| TL_mv 2 [(0, u1), (1, u2), (28, u1), (29, u2)] rfl fun rest => ?_
  obtain ⟨x1, he3, H⟩ := bd_s H
  refine TL_step rfl rfl (oe_call (by kernel_rfl) (c_nat_Cmp fu t1 u1 t2 u2 x1 he3) rfl (fun S w h => ⟨h.2.1, h.1, trivial⟩)) fun _ hk1 => TL_lss rfl rfl rfl rfl (fun h2 => ?_) (fun h2 => ?_)
  ·replace H := if_t h2 H
   refine TL_mv 1 [(0, u1), (1, u2), (27, .bool true)] rfl fun rest => TL_nil ?_
   exact JQ_mk true (Option.some.inj H) rfl (fun w h => St.weak h (fun S w h => ⟨h.1, h.2.1, h.2.2⟩))
  replace H := if_f h2 H
  refine TL_mv 1 [(0, u1), (1, u2), (27, .bool false)] rfl fun rest => TL_nil ?_
  exact JQ_mk false (Option.some.inj H) rfl (fun w h => St.weak h (fun S w h => ⟨h.1, h.2.1, h.2.2⟩))
 refine JQ_el' ?_
 rintro b2 hs rest
 subst hs
 replace H := Hc
 clear hL
 refine JG_to (ms' := (F)) (Γ' := (fV (eS eU) (t2) u2 :: fV (eS eU) (t1) u1 :: G)) (live' := [(0, u1), (1, u2), (27, .bool (b2))]) rfl <| T_cond (b2) rfl (fun hb2 => ?_) (fun hb2 => ?_)
 ·replace H := if_t hb2 H
  refine T_seq <| T_region <| TL_mv 1 [(32, u1)] rfl fun rest => ?_
  obtain ⟨t3, he4, H⟩ := bd_s H
  refine TL_step rfl rfl (oe_call (by kernel_rfl) (c_nat_Norm fu t1 u1 t3 he4) rfl (fun S w h => ⟨h.2.1, trivial⟩)) fun u3 _ => TL_mv 3 [(4, .slice none 0 0), (5, u3), (6, iv 0)] rfl fun rest => TL_nil <| T_ret <| T_weak_st (fun w h => St.nilO (e := eU) (E := 102) h) ?_
  obtain ⟨rfl, rfl, rfl⟩ := inj3 H
  intro w hw
  exact RetG (vs := [(.slice none 0 0), u3, (iv 0 : Value)]) ((.slice none 0 0), u3) Tryz.results193 (by exact ⟨rfl, rfl, rfl, trivial⟩) rfl (show InR (0) by decide) (St.weak hw (fun S w h => ⟨h.1, h.2.2.2⟩))
 replace H := ifb_f hb2 H
 refine T_seq <| T_region <| TL_mv 1 [(0, u1), (1, u2), (35, u2)] rfl fun rest => TL_step rfl rfl (oe_len (e := eU) (xs := t2) Tryz.underlying23 rfl (fun S w h => h.1)) fun _ hl2 => TL_eql rfl rfl rfl rfl (fun h3 => ?_) (fun h3 => ?_)
 ·replace H := if_t h3 H
  refine TL_mv 1 [(0, u1), (1, u2), (34, .bool true)] rfl fun rest => TL_nil <| T_cond_true rfl <| T_seq <| T_region <| TL_mv 2 [(39, u1), (40, u2)] rfl fun rest => ?_
  obtain ⟨j1, hj1, hlj1, H⟩ := ckI_s H
  obtain ⟨y1, hy1, H⟩ := nm_s H
  refine TL_step rfl rfl (oe_index (e := eU) (xs := t2) (k := j1) (y := y1) rfl (vi hj1) Tryz.underlying23 ty102 (getE (z := 0) hlj1 hy1) (fun S w h => h.1)) fun p1 _ => TL_step rfl rfl (oe_load_u64 (y := y1) rfl ty102 (fun S w h => h.1)) fun _ hv1 => ?_
  obtain ⟨⟨t4, m1⟩, he5, H⟩ := bd_s H
  refine TL_og rfl rfl (og_callG (F := (F)) (by kernel_rfl) (c_nat_short fu t1 u1 y1 hv1 t4 m1 he5) rfl (fun S w h => ⟨h.2.2.1, trivial⟩)) fun u4 hk2 => ?_
  show TL _ _ _ _ (mO eU 102 u4 (t4) :: F) (fP eU (y1) p1 :: fV (eS eU) (t2) u2 :: fV (eS eU) (t1) u1 :: G) _ _ _ _
  refine TL_mv 5 [(7, u4), (8, uv m1)] rfl fun rest => TL_nil <| T_seq <| T_region <| TL_mv 2 [(46, u4), (47, uv m1)] rfl fun rest => TL_step rfl rfl (oe_lit (e := eU) (zs := [m1]) Tryz.underlying23 ty102 (by decide) rfl (by decide) (vs := [(0, uv m1)]) rfl (fun S w h => (by refine fill_eq eU ?_; exact ⟨fV_sz (S := S) (w := w) (u64_fV hk2), trivial⟩)) (fun S w h => (elems_one (u64_fV hk2)))) fun u5 _ => ?_
  obtain ⟨t5, he6, H⟩ := bd_s H
  refine TL_step rfl rfl (oe_call (by kernel_rfl) (c_nat_plain fu [m1] u5 t5 he6) rfl (fun S w h => ⟨h.1, trivial⟩)) fun u6 _ => TL_mv 3 [(4, u4), (5, u6), (6, iv 0)] rfl fun rest => TL_nil <| T_ret ?_
  obtain ⟨rfl, rfl, rfl⟩ := inj3 H
  intro w hw
  exact RetG (vs := [u4, u6, (iv 0 : Value)]) (u4, u6) Tryz.results193 (by exact ⟨rfl, rfl, rfl, trivial⟩) rfl (show InR (0) by decide) (St.weak hw (fun S w h => ⟨h.1, h.2.2.2.2.2⟩))
 replace H := if_f h3 H
 refine TL_mv 1 [(0, u1), (1, u2), (34, .bool false)] rfl fun rest => TL_nil <| T_cond_false rfl <| T_skip <| T_seq <| T_region ?_
 refine TL_mv 2 [(0, u1), (1, u2), (50, u2), (51, u2)] rfl fun rest => TL_step rfl rfl (oe_len (e := eU) (xs := t2) Tryz.underlying23 rfl (fun S w h => h.1)) fun _ hl3 => ?_
 obtain ⟨x2, hx2, hrx2, H⟩ := ck64_s H
 refine TL_val rfl rfl (r_sub (c := x2) rfl rfl (w_x hx2 hrx2)) ?_
 obtain ⟨j2, hj2, hlj2, H⟩ := ckI_s H
 obtain ⟨y2, hy2, H⟩ := nm_s H
 refine TL_step rfl rfl (oe_index (e := eU) (xs := t2) (k := j2) (y := y2) rfl (vi hj2) Tryz.underlying23 ty102 (getE (z := 0) hlj2 hy2) (fun S w h => h.1)) fun p2 _ => TL_step rfl rfl (oe_load_u64 (y := y2) rfl ty102 (fun S w h => h.1)) fun _ hv2 => ?_
 obtain ⟨x3, he7, H⟩ := bd_s H
 refine TL_step rfl rfl (oe_call (by kernel_rfl) (c_math_bits_LeadingZeros64 fu y2 hv2 x3 he7) rfl (fun S w h => trivial)) fun _ hk3 => TL_mv 1 [(0, u1), (1, u2), (9, iv (x3))] rfl fun rest => TL_nil <| T_seq <| T_region <| TL_mv 2 [(0, u1), (9, iv (x3)), (58, u2), (59, iv (x3))] rfl fun rest => ?_
 obtain ⟨⟨t6, x4⟩, he8, H⟩ := bd_s H
 refine TL_og rfl rfl (og_callG (F := (F)) (by kernel_rfl) (c_nat_Shl fu t2 u2 x3 hk3 t6 x4 he8) rfl (fun S w h => ⟨h.2.1, trivial⟩)) fun u7 hk4 => ?_
 show TL _ _ _ _ (mO eU 102 u7 (t6) :: F) (fP eU (y2) p2 :: fV (eS eU) (t2) u2 :: fV (eS eU) (t1) u1 :: G) _ _ _ _
 refine TL_mv 5 [(0, u1), (9, iv (x3)), (10, u7)] rfl fun rest => TL_nil <| T_seq <| T_region <| TL_mv 2 [(0, u1), (9, iv (x3)), (10, u7), (64, u1), (65, iv (x3))] rfl fun rest => ?_
 obtain ⟨⟨t7, x5⟩, he9, H⟩ := bd_s H
 refine TL_og rfl rfl (og_callG (F := (mO eU 102 u7 (t6) :: F)) (by kernel_rfl) (c_nat_Shl fu t1 u1 x3 hk3 t7 x5 he9) rfl (fun S w h => ⟨h.2.2.1, trivial⟩)) fun u8 hk5 => ?_
 show TL _ _ _ _ (mO eU 102 u8 (t7) :: mO eU 102 u7 (t6) :: F) (fP eU (y2) p2 :: fV (eS eU) (t2) u2 :: fV (eS eU) (t1) u1 :: G) _ _ _ _
 refine TL_mv 5 [(0, u1), (9, iv (x3)), (10, u7), (12, u8)] rfl fun rest => TL_nil <| T_seq <| T_region <| TL_mv 1 [(0, u1), (9, iv (x3)), (10, u7), (12, u8), (69, u7)] rfl fun rest => TL_step rfl rfl (oe_lenM 1 rfl Tryz.underlying23 rfl) fun _ hl4 => ?_
 refine TL_mv 1 [(0, u1), (9, iv (x3)), (10, u7), (12, u8), (14, iv ((t6.length : Nat) : Int))] rfl fun rest => TL_nil <| T_seq <| T_region <| TL_mv 2 [(9, iv (x3)), (10, u7), (12, u8), (14, iv ((t6.length : Nat) : Int)), (71, u8), (72, u1)] rfl fun rest => TL_step rfl rfl (oe_len (e := eU) (xs := t1) Tryz.underlying23 rfl (fun S w h => h.2.2.1)) fun _ hl5 => ?_
 obtain ⟨x6, hx6, hrx6, H⟩ := ck64_s H
 refine TL_val rfl rfl (r_add (c := x6) rfl rfl (w_x hx6 hrx6)) <| TL_mv 1 [(9, iv (x3)), (10, u7), (14, iv ((t6.length : Nat) : Int)), (71, u8), (74, iv (x6)), (75, u8)] rfl fun rest => TL_step rfl rfl (oe_lenM 0 rfl Tryz.underlying23 rfl) fun _ hl6 => ?_
 obtain ⟨x7, hx7, hrx7, H⟩ := ck64_s H
 refine TL_val rfl rfl (r_sub (c := x7) rfl rfl (w_x hx7 hrx7)) ?_
 obtain ⟨j3, hj3, H⟩ := ckN_s H
 obtain ⟨hk6, H⟩ := ck_s H
 obtain ⟨t8, ht8, H⟩ := nm_s H
 refine TL_og rfl rfl (og_appendZ' (e := eU) (xs := t7) (z := 0) (n := j3) 0 Tryz.underlying23 Tryz.underlying3 ty102 rfl (by decide) (by decide) rfl rfl (vi hj3) (fun S w => z102 S w) hk6 ht8) fun w1 _ => ?_
 show TL _ _ _ _ (mO eU 102 w1 (t8) :: mO eU 102 u7 (t6) :: F) (fP eU (y2) p2 :: fV (eS eU) (t2) u2 :: fV (eS eU) (t1) u1 :: G) _ _ _ _
 refine TL_mv 1 [(9, iv (x3)), (10, u7), (12, w1), (14, iv ((t6.length : Nat) : Int))] rfl fun rest => TL_nil <| T_seq <| T_region <| TL_mv 1 [(9, iv (x3)), (10, u7), (12, w1), (14, iv ((t6.length : Nat) : Int)), (79, w1)] rfl fun rest => TL_step rfl rfl (oe_lenM 0 rfl Tryz.underlying23 rfl) fun _ hl7 => ?_
 refine TL_mv 1 [(9, iv (x3)), (10, u7), (12, w1), (14, iv ((t6.length : Nat) : Int)), (80, iv ((t8.length : Nat) : Int)), (81, iv ((t6.length : Nat) : Int))] rfl fun rest => ?_
 obtain ⟨x8, hx8, hrx8, H⟩ := ck64_s H
 refine TL_val rfl rfl (r_sub (c := x8) rfl rfl (w_x hx8 hrx8)) ?_
 obtain ⟨j4, hj4, H⟩ := ckN_s H
 obtain ⟨hk7, H⟩ := ck_s H
 obtain ⟨t9, ht9, H⟩ := nm_s H
 refine TL_og rfl rfl (og_make' (e := eU) (z := 0) (xs := t9) (n := j4) Tryz.underlying23 ty102 (vi hj4) (vi hj4) (by decide) hk7 (fun S w => z102 S w) ht9) fun b3 _ => ?_
 show TL _ _ _ _ (mB (rowT eU j4) 102 b3 (t9) :: mO eU 102 w1 (t8) :: mO eU 102 u7 (t6) :: F) (fP eU (y2) p2 :: fV (eS eU) (t2) u2 :: fV (eS eU) (t1) u1 :: G) _ _ _ _
 refine TL_mv 1 [(9, iv (x3)), (10, u7), (12, w1), (14, iv ((t6.length : Nat) : Int)), (15, .slice (some ⟨b3, 0, none⟩) j4 j4)] rfl fun rest => TL_nil <| T_seq <| T_seq <| T_region <| TL_mv 1 [(9, iv (x3)), (10, u7), (12, w1), (14, iv ((t6.length : Nat) : Int)), (15, .slice (some ⟨b3, 0, none⟩) j4 j4), (84, .slice (some ⟨b3, 0, none⟩) j4 j4)] rfl fun rest => ?_
 refine TL_val rfl rfl (r_len Tryz.underlying23 rfl) ?_
 obtain ⟨x9, hx9, hrx9, H⟩ := ck64_s H
 refine TL_val rfl rfl (r_sub (c := x9) rfl rfl (w_x hx9 hrx9)) <| TL_mv 1 [(9, iv (x3)), (10, u7), (12, w1), (14, iv ((t6.length : Nat) : Int)), (15, .slice (some ⟨b3, 0, none⟩) j4 j4), (16, iv (x9))] rfl fun rest => TL_nil <| T_block ?_
 obtain ⟨s3, hL, Hc⟩ := bd_s H
 refine T_X [(.x 1, JQ we Se (G := (List Nat) × (List Nat) × Value) (fun (t20, t19, w8) => (⟨(mO eU 102 w8 (t20) :: mB (rowT eU j4) 102 b3 (t19) :: F), (G), [(9, iv (x3)), (12, w8), (15, .slice (some ⟨b3, 0, none⟩) j4 j4)]⟩ : Inv)) (fun (t20, t19, w8) => (t20, t19) = s3 ∧ t19.length = j4))] ?_ ⟨?_, trivial⟩
 ·refine T_weak_st (fun w h => fz_own 2 h rfl) <| T_loop_s (G := Nat × (List Nat) × (List Nat) × Int × (List Nat) × Value × Value) (s1 := _) (f := _) (k := fun (n1, t17, t18, i3, t16, w6, w7) => n1) (σ := fun (n1, t17, t18, i3, t16, w6, w7) => (t17, t18, i3, t16)) (fun (n1, t17, t18, i3, t16, w6, w7) => (⟨(mO eU 102 w7 (t18) :: mB (rowT eU j4) 102 b3 (t16) :: F), (fV (eS eU) (t17) w6 :: G), [(9, iv (x3)), (10, w6), (12, w7), (14, iv ((t6.length : Nat) : Int)), (15, .slice (some ⟨b3, 0, none⟩) j4 j4), (16, iv (i3))]⟩ : Inv)) (fun (n1, t17, t18, i3, t16, w6, w7) => InR i3 ∧ t16.length = j4) (fu, t6, t8, x9, t9, u7, w1) hL (And.intro hrx9 (rep_len ht9)) rfl (fun w h => St.weak (St.front 1 (St.front 0 h rfl) rfl) (fun S w h => ⟨h.1, h.2.2.2.2⟩)) ?_
  rintro ⟨n1, t17, t18, i3, t16, w6, w7⟩ ⟨H, hr3, hz3⟩ rest
  rcases n1 with _ | n1
  ·exact (loopN_z H).elim
  replace H := loopN_s H
  unfold B_nat_Div_0 at H
  refine T_prune [(9, iv (x3)), (10, w6), (12, w7), (14, iv ((t6.length : Nat) : Int)), (15, .slice (some ⟨b3, 0, none⟩) j4 j4), (16, iv (i3))] rfl fun rest => T_weak (mO eU 102 w7 (t18) :: mB (rowT eU j4) 102 b3 (t16) :: F) (fV (eS eU) (t17) w6 :: G) (fun w h => h) <| T_seq <| T_seq <| T_region <| TL_mv 1 [(9, iv (x3)), (10, w6), (12, w7), (14, iv ((t6.length : Nat) : Int)), (15, .slice (some ⟨b3, 0, none⟩) j4 j4), (16, iv (i3)), (87, iv (i3))] rfl fun rest => ?_
  refine TL_geq rfl rfl rfl rfl (fun h4 => ?_) (fun h4 => ?_)
  ·replace H := if_t h4 H
   refine TL_mv 0 [(9, iv (x3)), (10, w6), (12, w7), (14, iv ((t6.length : Nat) : Int)), (15, .slice (some ⟨b3, 0, none⟩) j4 j4), (16, iv (i3)), (88, .bool true)] rfl fun rest => TL_nil <| T_cond_true rfl <| T_skip <| T_seq <| T_block ?_
   refine T_seq ?_
   obtain ⟨x10, hx10, hrx10, H⟩ := ck64_s H
   obtain ⟨j5, hj5, hlj5, H⟩ := ckI_s H
   refine T_openO 0 rfl (pos_of_lt hlj5) fun b4 cap1 hvb4 hcb4 hmb4 => ?_
   cases hvb4
   obtain ⟨y3, hy3, H⟩ := nm_s H
   obtain ⟨x11, hx11, hrx11, H⟩ := ck64_s H
   obtain ⟨x12, hx12, hrx12, H⟩ := ck64_s H
   obtain ⟨j6, hj6, hlj6, H⟩ := ckI_s H
   obtain ⟨y4, hy4, H⟩ := nm_s H
   obtain ⟨x13, hx13, hrx13, H⟩ := ck64_s H
   obtain ⟨x14, hx14, hrx14, H⟩ := ck64_s H
   obtain ⟨j7, hj7, hlj7, H⟩ := ckI_s H
   obtain ⟨y5, hy5, H⟩ := nm_s H
   obtain ⟨x15, hx15, hrx15, H⟩ := ck64_s H
   obtain ⟨j8, hj8, hlj8, H⟩ := ckI_s H
   obtain ⟨y6, hy6, H⟩ := nm_s H
   obtain ⟨x16, hx16, hrx16, H⟩ := ck64_s H
   obtain ⟨j9, hj9, hlj9, H⟩ := ckI_s H
   obtain ⟨y7, hy7, H⟩ := nm_s H
   refine T_draw 30 [prV (.slice (some ⟨b4, 0, none⟩) t18.length cap1), prE (fun _ : Unit => iv (i3)) (fun _ => []) (fun _ => InR i3), prE (fun _ : Unit => iv ((t6.length : Nat) : Int)) (fun _ => []) (fun _ => InR (((t6.length : Nat) : Int))), prE (fun _ : Unit => iv (x10)) (fun _ => []) (fun _ => InR x10), prV (.pointer (some ⟨b4, 0 + j5 * 1, none⟩)), prE (fun _ : Unit => uv y3) (fun _ => []) (fun _ => y3 < 18446744073709551616), prV (.slice (some ⟨b4, 0, none⟩) t18.length cap1), prE (fun _ : Unit => iv (i3)) (fun _ => []) (fun _ => InR i3), prE (fun _ : Unit => iv ((t6.length : Nat) : Int)) (fun _ => []) (fun _ => InR (((t6.length : Nat) : Int))), prE (fun _ : Unit => iv (x11)) (fun _ => []) (fun _ => InR x11), prE (fun _ : Unit => iv (x12)) (fun _ => []) (fun _ => InR x12), prV (.pointer (some ⟨b4, 0 + j6 * 1, none⟩)), prE (fun _ : Unit => uv y4) (fun _ => []) (fun _ => y4 < 18446744073709551616), prV (.slice (some ⟨b4, 0, none⟩) t18.length cap1), prE (fun _ : Unit => iv (i3)) (fun _ => []) (fun _ => InR i3), prE (fun _ : Unit => iv ((t6.length : Nat) : Int)) (fun _ => []) (fun _ => InR (((t6.length : Nat) : Int))), prE (fun _ : Unit => iv (x13)) (fun _ => []) (fun _ => InR x13), prE (fun _ : Unit => iv (x14)) (fun _ => []) (fun _ => InR x14), prV (.pointer (some ⟨b4, 0 + j7 * 1, none⟩)), prE (fun _ : Unit => uv y5) (fun _ => []) (fun _ => y5 < 18446744073709551616), prV (w6), prE (fun _ : Unit => iv ((t6.length : Nat) : Int)) (fun _ => []) (fun _ => InR (((t6.length : Nat) : Int))), prE (fun _ : Unit => iv (x15)) (fun _ => []) (fun _ => InR x15), prE (fun u : Value => u) (fun u => [fP eU (y6) u]) (fun _ => True), prE (fun _ : Unit => uv y6) (fun _ => []) (fun _ => y6 < 18446744073709551616), prV (w6), prE (fun _ : Unit => iv ((t6.length : Nat) : Int)) (fun _ => []) (fun _ => InR (((t6.length : Nat) : Int))), prE (fun _ : Unit => iv (x16)) (fun _ => []) (fun _ => InR x16), prE (fun u : Value => u) (fun u => [fP eU (y7) u]) (fun _ => True), prE (fun _ : Unit => uv y7) (fun _ => []) (fun _ => y7 < 18446744073709551616)] [9, 10, 12, 14, 15, 16, 96, 103, 110, 115, 120] rfl (by kernel_rfl) rfl (by kernel_rfl) ⟨?_, ?_, ?_, ?_, ?_, ?_, ?_, ?_, ?_, ?_, ?_, ?_, ?_, ?_, ?_, ?_, ?_, ?_, ?_, ?_, ?_, ?_, ?_, ?_, ?_, ?_, ?_, ?_, ?_, ?_, trivial⟩ ?_
   ·intro S w env hS hM hΓ hl
    obtain ⟨e12, _⟩ := hl
    exact ⟨fun _ => ob_mv (e12.trans rfl), fun hc => (by cases hc)⟩
   ·intro S w env hS hM hΓ hl
    obtain ⟨e16, _⟩ := hl
    exact ⟨fun _ => ob_VE (p := InR i3) (r_mv (e16.trans rfl)) hr3, fun hc => (by cases hc)⟩
   ·intro S w env hS hM hΓ hl
    obtain ⟨e14, _⟩ := hl
    exact ⟨fun _ => ob_VE (p := InR (((t6.length : Nat) : Int))) (r_mv (e14.trans rfl)) (len_r hl4), fun hc => (by cases hc)⟩
   ·intro S w env hS hM hΓ hl
    obtain ⟨⟨_, e92, ho1, f92⟩, ⟨_, e93, ho2, f93⟩, _⟩ := hl
    exact ⟨fun _ => ob_VE (p := InR x10) (r_add (c := x10) e92 e93 (w_x hx10 hrx10)) hrx10, fun hc => (by cases hc)⟩
   ·intro S w env hS hM hΓ hl
    obtain ⟨e91, ⟨_, e94, ho3, f94⟩, _⟩ := hl
    exact ⟨fun _ => ob_V (r_index Tryz.underlying23 ty102 e91 (e94.trans (vi hj5)) (k := j5) (lt_of_len hlj5 rfl)), fun hc => (by cases hc)⟩
   ·intro S w env hS hM hΓ hl
    obtain ⟨e95, _⟩ := hl
    exact ⟨fun _ => ob_E (Γ := (fV (eS eU) (t17) w6 :: G)) (oe_loadM_u64 (z' := y3) 0 rfl e95 (Sub.rowT0 eU cap1 (t18) j5 _ (getE (z := 0) (lt_of_len' (lt_of_len hlj5 rfl) rfl) hy3)) ty102) hS hM hΓ, fun hc => (by cases hc)⟩
   ·intro S w env hS hM hΓ hl
    obtain ⟨e12, _⟩ := hl
    exact ⟨fun _ => ob_mv (e12.trans rfl), fun hc => (by cases hc)⟩
   ·intro S w env hS hM hΓ hl
    obtain ⟨e16, _⟩ := hl
    exact ⟨fun _ => ob_VE (p := InR i3) (r_mv (e16.trans rfl)) hr3, fun hc => (by cases hc)⟩
   ·intro S w env hS hM hΓ hl
    obtain ⟨e14, _⟩ := hl
    exact ⟨fun _ => ob_VE (p := InR (((t6.length : Nat) : Int))) (r_mv (e14.trans rfl)) (len_r hl4), fun hc => (by cases hc)⟩
   ·intro S w env hS hM hΓ hl
    obtain ⟨⟨_, e98, ho4, f98⟩, ⟨_, e99, ho5, f99⟩, _⟩ := hl
    exact ⟨fun _ => ob_VE (p := InR x11) (r_add (c := x11) e98 e99 (w_x hx11 hrx11)) hrx11, fun hc => (by cases hc)⟩
   ·intro S w env hS hM hΓ hl
    obtain ⟨⟨_, e100, ho6, f100⟩, _⟩ := hl
    exact ⟨fun _ => ob_VE (p := InR x12) (r_sub (c := x12) e100 rfl (w_x hx12 hrx12)) hrx12, fun hc => (by cases hc)⟩
   ·intro S w env hS hM hΓ hl
    obtain ⟨e97, ⟨_, e101, ho7, f101⟩, _⟩ := hl
    exact ⟨fun _ => ob_V (r_index Tryz.underlying23 ty102 e97 (e101.trans (vi hj6)) (k := j6) (lt_of_len hlj6 rfl)), fun hc => (by cases hc)⟩
   ·intro S w env hS hM hΓ hl
    obtain ⟨e102, _⟩ := hl
    exact ⟨fun _ => ob_E (Γ := (fV (eS eU) (t17) w6 :: G)) (oe_loadM_u64 (z' := y4) 0 rfl e102 (Sub.rowT0 eU cap1 (t18) j6 _ (getE (z := 0) (lt_of_len' (lt_of_len hlj6 rfl) rfl) hy4)) ty102) hS hM hΓ, fun hc => (by cases hc)⟩
   ·intro S w env hS hM hΓ hl
    obtain ⟨e12, _⟩ := hl
    exact ⟨fun _ => ob_mv (e12.trans rfl), fun hc => (by cases hc)⟩
   ·intro S w env hS hM hΓ hl
    obtain ⟨e16, _⟩ := hl
    exact ⟨fun _ => ob_VE (p := InR i3) (r_mv (e16.trans rfl)) hr3, fun hc => (by cases hc)⟩
   ·intro S w env hS hM hΓ hl
    obtain ⟨e14, _⟩ := hl
    exact ⟨fun _ => ob_VE (p := InR (((t6.length : Nat) : Int))) (r_mv (e14.trans rfl)) (len_r hl4), fun hc => (by cases hc)⟩
   ·intro S w env hS hM hΓ hl
    obtain ⟨⟨_, e105, ho8, f105⟩, ⟨_, e106, ho9, f106⟩, _⟩ := hl
    exact ⟨fun _ => ob_VE (p := InR x13) (r_add (c := x13) e105 e106 (w_x hx13 hrx13)) hrx13, fun hc => (by cases hc)⟩
   ·intro S w env hS hM hΓ hl
    obtain ⟨⟨_, e107, ho10, f107⟩, _⟩ := hl
    exact ⟨fun _ => ob_VE (p := InR x14) (r_sub (c := x14) e107 rfl (w_x hx14 hrx14)) hrx14, fun hc => (by cases hc)⟩
   ·intro S w env hS hM hΓ hl
    obtain ⟨e104, ⟨_, e108, ho11, f108⟩, _⟩ := hl
    exact ⟨fun _ => ob_V (r_index Tryz.underlying23 ty102 e104 (e108.trans (vi hj7)) (k := j7) (lt_of_len hlj7 rfl)), fun hc => (by cases hc)⟩
   ·intro S w env hS hM hΓ hl
    obtain ⟨e109, _⟩ := hl
    exact ⟨fun _ => ob_E (Γ := (fV (eS eU) (t17) w6 :: G)) (oe_loadM_u64 (z' := y5) 0 rfl e109 (Sub.rowT0 eU cap1 (t18) j7 _ (getE (z := 0) (lt_of_len' (lt_of_len hlj7 rfl) rfl) hy5)) ty102) hS hM hΓ, fun hc => (by cases hc)⟩
   ·intro S w env hS hM hΓ hl
    obtain ⟨e10, _⟩ := hl
    exact ⟨fun _ => ob_mv (e10.trans rfl), fun hc => (by cases hc)⟩
   ·intro S w env hS hM hΓ hl
    obtain ⟨e14, _⟩ := hl
    exact ⟨fun _ => ob_VE (p := InR (((t6.length : Nat) : Int))) (r_mv (e14.trans rfl)) (len_r hl4), fun hc => (by cases hc)⟩
   ·intro S w env hS hM hΓ hl
    obtain ⟨⟨_, e112, ho12, f112⟩, _⟩ := hl
    exact ⟨fun _ => ob_VE (p := InR x15) (r_sub (c := x15) e112 rfl (w_x hx15 hrx15)) hrx15, fun hc => (by cases hc)⟩
   ·intro S w env hS hM hΓ hl
    obtain ⟨e111, ⟨_, e113, ho13, f113⟩, _⟩ := hl
    exact ⟨fun _ => ob_E (Γ := (fV (eS eU) (t17) w6 :: G)) (oe_index (e := eU) (xs := t17) (k := j8) (y := y6) e111 (e113.trans (vi hj8)) Tryz.underlying23 ty102 (getE (z := 0) hlj8 hy6) (fun S w h => h.1)) hS hM hΓ, fun hc => (by cases hc)⟩
   ·intro S w env hS hM hΓ hl
    obtain ⟨⟨p3, e114, _, f114⟩, _⟩ := hl
    exact ⟨fun _ => ob_E (Γ := (fP eU (y6) p3 :: fV (eS eU) (t17) w6 :: G)) (oe_load_u64 (y := y6) e114 ty102 (fun S w h => h.1)) hS hM ⟨f114.1, hΓ⟩, fun hc => (by cases hc)⟩
   ·intro S w env hS hM hΓ hl
    obtain ⟨e10, _⟩ := hl
    exact ⟨fun _ => ob_mv (e10.trans rfl), fun hc => (by cases hc)⟩
   ·intro S w env hS hM hΓ hl
    obtain ⟨e14, _⟩ := hl
    exact ⟨fun _ => ob_VE (p := InR (((t6.length : Nat) : Int))) (r_mv (e14.trans rfl)) (len_r hl4), fun hc => (by cases hc)⟩
   ·intro S w env hS hM hΓ hl
    obtain ⟨⟨_, e117, ho14, f117⟩, _⟩ := hl
    exact ⟨fun _ => ob_VE (p := InR x16) (r_sub (c := x16) e117 rfl (w_x hx16 hrx16)) hrx16, fun hc => (by cases hc)⟩
   ·intro S w env hS hM hΓ hl
    obtain ⟨e116, ⟨_, e118, ho15, f118⟩, _⟩ := hl
    exact ⟨fun _ => ob_E (Γ := (fV (eS eU) (t17) w6 :: G)) (oe_index (e := eU) (xs := t17) (k := j9) (y := y7) e116 (e118.trans (vi hj9)) Tryz.underlying23 ty102 (getE (z := 0) hlj9 hy7) (fun S w h => h.1)) hS hM hΓ, fun hc => (by cases hc)⟩
   ·intro S w env hS hM hΓ hl
    obtain ⟨⟨p4, e119, _, f119⟩, _⟩ := hl
    exact ⟨fun _ => ob_E (Γ := (fP eU (y7) p4 :: fV (eS eU) (t17) w6 :: G)) (oe_load_u64 (y := y7) e119 ty102 (fun S w h => h.1)) hS hM ⟨f119.1, hΓ⟩, fun hc => (by cases hc)⟩
   intro S w env hS hΓ hl
   obtain ⟨e9, e10, e12, e14, e15, e16, ⟨_, e96, hv3, f96⟩, ⟨_, e103, hv4, f103⟩, ⟨_, e110, hv5, f110⟩, ⟨_, e115, hv6, f115⟩, ⟨_, e120, hv7, f120⟩, _⟩ := hl
   refine ⟨(fV (eS eU) (t17) w6 :: G), [(9, iv (x3)), (10, w6), (12, .slice (some ⟨b4, 0, none⟩) t18.length cap1), (14, iv ((t6.length : Nat) : Int)), (15, .slice (some ⟨b3, 0, none⟩) j4 j4), (16, iv (i3)), (96, uv y3), (103, uv y4), (110, uv y5), (115, uv y6), (120, uv y7)], hΓ, (agr ⟨(e9.trans rfl), (e10.trans rfl), (e12.trans rfl), (e14.trans rfl), (e15.trans rfl), (e16.trans rfl), e96, e103, e110, e115, e120, trivial⟩), fun rest => ?_⟩
   obtain ⟨m2, he10, H⟩ := bd_s H
   refine TL_step rfl rfl (oe_call (by kernel_rfl) (c_nat_guess fu y3 hv3 y4 hv4 y5 hv5 y6 hv6 y7 hv7 m2 he10) rfl (fun S w h => trivial)) fun _ hk8 => TL_mv 1 [(9, iv (x3)), (10, w6), (12, .slice (some ⟨b4, 0, none⟩) t18.length cap1), (14, iv ((t6.length : Nat) : Int)), (15, .slice (some ⟨b3, 0, none⟩) j4 j4), (16, iv (i3)), (17, uv m2)] rfl fun rest => TL_nil <| T_seq <| T_region <| TL_og rfl rfl (og_empty (e := eU) Tryz.underlying23 ty102) fun w9 _ => ?_
   show TL _ _ _ _ (mO eU 102 w9 (([] : List Nat)) :: mB (rowT eU cap1) 102 b4 (t18) :: mB (rowT eU j4) 102 b3 (t16) :: F) (fV (eS eU) (t17) w6 :: G) _ _ _ _
   refine TL_mv 4 [(9, iv (x3)), (10, w6), (12, .slice (some ⟨b4, 0, none⟩) t18.length cap1), (14, iv ((t6.length : Nat) : Int)), (15, .slice (some ⟨b3, 0, none⟩) j4 j4), (16, iv (i3)), (17, uv m2), (122, w9), (123, .slice (some ⟨b4, 0, none⟩) t18.length cap1), (124, iv (i3)), (125, iv (i3)), (126, iv ((t6.length : Nat) : Int))] rfl fun rest => ?_
   obtain ⟨x17, hx17, hrx17, H⟩ := ck64_s H
   refine TL_val rfl rfl (r_add (c := x17) rfl rfl (w_x hx17 hrx17)) ?_
   obtain ⟨x18, hx18, hrx18, H⟩ := ck64_s H
   refine TL_val rfl rfl (r_add (c := x18) rfl rfl (w_x hx18 hrx18)) ?_
   obtain ⟨j10, hj10, H⟩ := ckN_s H
   obtain ⟨j11, hj11, H⟩ := ckN_s H
   obtain ⟨hk9, H⟩ := ck_s H
   obtain ⟨t21, ht21, H⟩ := nm_s H
   refine TL_val rfl rfl (r_sliceB (l := j10) (h := j11) rfl Tryz.underlying23 ty102 (vi hj10) (vi hj11) hk9.1 (Nat.le_trans hk9.2.1 hcb4) (Nat.lt_of_lt_of_le hk9.2.2 hcb4)) ?_
   obtain ⟨hk10, H⟩ := ck_s H
   obtain ⟨t22, ht22, H⟩ := nm_s H
   refine TL_og rfl rfl (og_appendQ' (e := eU) (xs := ([] : List Nat)) (ys := t21) 0 Tryz.underlying23 ty102 rfl (by decide) (by decide) rfl rfl rfl (src_part (e := eU) 1 rfl rfl (sl_2 hk9.1 hk9.2.1) (Nat.sub_le_sub_right (Nat.le_trans hk9.2.1 hcb4) _) (Nat.le_trans (Nat.sub_le _ _) hmb4) ht21) hk10 ht22) fun w10 _ => ?_
   show TL _ _ _ _ (mO eU 102 w10 (t22) :: mB (rowT eU cap1) 102 b4 (t18) :: mB (rowT eU j4) 102 b3 (t16) :: F) (fV (eS eU) (t17) w6 :: G) _ _ _ _
   refine TL_mv 1 [(9, iv (x3)), (10, w6), (12, .slice (some ⟨b4, 0, none⟩) t18.length cap1), (14, iv ((t6.length : Nat) : Int)), (15, .slice (some ⟨b3, 0, none⟩) j4 j4), (16, iv (i3)), (17, uv m2), (18, w10)] rfl fun rest => TL_nil <| T_seq <| T_block ?_
   obtain ⟨s4, hL, Hc⟩ := bd_s H
   refine T_X [(.x 3, JQ we Se (G := Nat × (List Nat) × Value) (fun (d4, t26, w14) => (⟨(mB (rowT eU cap1) 102 b4 (t18) :: mB (rowT eU j4) 102 b3 (t16) :: F), (fV (eS eU) (t26) w14 :: fV (eS eU) (t17) w6 :: G), [(9, iv (x3)), (10, w6), (12, .slice (some ⟨b4, 0, none⟩) t18.length cap1), (14, iv ((t6.length : Nat) : Int)), (15, .slice (some ⟨b3, 0, none⟩) j4 j4), (16, iv (i3)), (17, uv d4), (18, w14)]⟩ : Inv)) (fun (d4, t26, w14) => (d4, t26) = s4 ∧ InU d4))] ?_ ⟨?_, trivial⟩
   ·refine T_weak_st (fun w h => fz_own 0 h rfl) <| T_loop_s (G := Nat × Nat × (List Nat) × Value) (s1 := _) (f := _) (k := fun (n2, d3, t25, w13) => n2) (σ := fun (n2, d3, t25, w13) => (d3, t25)) (fun (n2, d3, t25, w13) => (⟨(mB (rowT eU cap1) 102 b4 (t18) :: mB (rowT eU j4) 102 b3 (t16) :: F), (fV (eS eU) (t25) w13 :: fV (eS eU) (t17) w6 :: G), [(9, iv (x3)), (10, w6), (12, .slice (some ⟨b4, 0, none⟩) t18.length cap1), (14, iv ((t6.length : Nat) : Int)), (15, .slice (some ⟨b3, 0, none⟩) j4 j4), (16, iv (i3)), (17, uv d3), (18, w13)]⟩ : Inv)) (fun (n2, d3, t25, w13) => InU d3) (fu, m2, t22, w10) hL hk8 rfl (fun w h => St.weak h (fun S w h => ⟨h.1, h.2.1, h.2.2⟩)) ?_
    rintro ⟨n2, d3, t25, w13⟩ ⟨H, hr6⟩ rest
    rcases n2 with _ | n2
    ·exact (loopN_z H).elim
    replace H := loopN_s H
    unfold B_nat_Div_1 at H
    refine T_prune [(9, iv (x3)), (10, w6), (12, .slice (some ⟨b4, 0, none⟩) t18.length cap1), (14, iv ((t6.length : Nat) : Int)), (15, .slice (some ⟨b3, 0, none⟩) j4 j4), (16, iv (i3)), (17, uv d3), (18, w13)] rfl fun rest => T_weak (mB (rowT eU cap1) 102 b4 (t18) :: mB (rowT eU j4) 102 b3 (t16) :: F) (fV (eS eU) (t25) w13 :: fV (eS eU) (t17) w6 :: G) (fun w h => h) <| T_seq <| T_seq <| T_region <| TL_mv 2 [(9, iv (x3)), (10, w6), (12, .slice (some ⟨b4, 0, none⟩) t18.length cap1), (14, iv ((t6.length : Nat) : Int)), (15, .slice (some ⟨b3, 0, none⟩) j4 j4), (16, iv (i3)), (17, uv d3), (18, w13), (131, w6), (132, uv d3)] rfl fun rest => ?_
    obtain ⟨t27, he11, H⟩ := bd_s H
    refine TL_og rfl rfl (og_callG (F := (mB (rowT eU cap1) 102 b4 (t18) :: mB (rowT eU j4) 102 b3 (t16) :: F)) (by kernel_rfl) (c_nat_row fu t17 w6 d3 hr6 t27 he11) rfl (fun S w h => ⟨h.2.1, trivial⟩)) fun u9 _ => ?_
    show TL _ _ _ _ (mO eU 102 u9 (t27) :: mB (rowT eU cap1) 102 b4 (t18) :: mB (rowT eU j4) 102 b3 (t16) :: F) (fV (eS eU) (t25) w13 :: fV (eS eU) (t17) w6 :: G) _ _ _ _
    refine TL_mv 1 [(9, iv (x3)), (10, w6), (12, .slice (some ⟨b4, 0, none⟩) t18.length cap1), (14, iv ((t6.length : Nat) : Int)), (15, .slice (some ⟨b3, 0, none⟩) j4 j4), (16, iv (i3)), (17, uv d3), (18, w13), (133, u9), (134, w13)] rfl fun rest => TL_weak_st (fun w h => fz_own 0 h rfl) ?_
    obtain ⟨x19, he12, H⟩ := bd_s H
    refine TL_step rfl rfl (oe_call (by kernel_rfl) (c_nat_Cmp fu t27 u9 t25 w13 x19 he12) rfl (fun S w h => ⟨h.1, h.2.1, trivial⟩)) fun _ hk11 => TL_gtr rfl rfl rfl rfl (fun h5 => ?_) (fun h5 => ?_)
    ·replace H := if_t h5 H
     refine TL_mv 0 [(9, iv (x3)), (10, w6), (12, .slice (some ⟨b4, 0, none⟩) t18.length cap1), (14, iv ((t6.length : Nat) : Int)), (15, .slice (some ⟨b3, 0, none⟩) j4 j4), (16, iv (i3)), (17, uv d3), (18, w13), (136, .bool true)] rfl fun rest => TL_nil <| T_cond_true rfl <| T_skip <| T_block <| T_region ?_
     refine TL_mv 1 [(9, iv (x3)), (10, w6), (12, .slice (some ⟨b4, 0, none⟩) t18.length cap1), (14, iv ((t6.length : Nat) : Int)), (15, .slice (some ⟨b3, 0, none⟩) j4 j4), (16, iv (i3)), (18, w13), (137, uv d3)] rfl fun rest => ?_
     obtain ⟨m3, hm3, H⟩ := nm_s H
     refine TL_val rfl rfl (r_sub (c := ((m3 : Nat) : Int)) rfl rfl (wu_x hm3 (wu_subw (Nat.le_of_lt (show InU 1 by decide)) (a := d3) (b := (1 : Nat))))) <| TL_mv 1 [(9, iv (x3)), (10, w6), (12, .slice (some ⟨b4, 0, none⟩) t18.length cap1), (14, iv ((t6.length : Nat) : Int)), (15, .slice (some ⟨b3, 0, none⟩) j4 j4), (16, iv (i3)), (17, uv m3), (18, w13)] rfl fun rest => TL_nil ?_
     exact St_round_s (n2, m3, t25, w13) H (eq_mod_r hm3) (Nat.lt_succ_self _) rfl (fun w h => St.weak h (fun S w h => ⟨h.2.1, h.2.2.1, h.2.2.2⟩))
    replace H := if_f h5 H
    refine TL_mv 0 [(9, iv (x3)), (10, w6), (12, .slice (some ⟨b4, 0, none⟩) t18.length cap1), (14, iv ((t6.length : Nat) : Int)), (15, .slice (some ⟨b3, 0, none⟩) j4 j4), (16, iv (i3)), (17, uv d3), (18, w13), (136, .bool false)] rfl fun rest => TL_nil <| T_cond_false rfl <| T_exit ?_
    exact JQ_mk (d3, t25, w13) (And.intro (Option.some.inj H) hr6) rfl (fun w h => St.weak h (fun S w h => ⟨h.2.1, h.2.2.1, h.2.2.2⟩))
   refine JQ_el' ?_
   rintro ⟨d4, t26, w14⟩ ⟨hs, hr7⟩ rest
   subst hs
   replace H := Hc
   clear hL
   refine JG_to (ms' := (mB (rowT eU cap1) 102 b4 (t18) :: mB (rowT eU j4) 102 b3 (t16) :: F)) (Γ' := (fV (eS eU) (t26) w14 :: fV (eS eU) (t17) w6 :: G)) (live' := [(9, iv (x3)), (10, w6), (12, .slice (some ⟨b4, 0, none⟩) t18.length cap1), (14, iv ((t6.length : Nat) : Int)), (15, .slice (some ⟨b3, 0, none⟩) j4 j4), (16, iv (i3)), (17, uv d4), (18, w14)]) rfl <| T_seq <| T_region <| TL_mv 3 [(9, iv (x3)), (10, w6), (12, .slice (some ⟨b4, 0, none⟩) t18.length cap1), (14, iv ((t6.length : Nat) : Int)), (15, .slice (some ⟨b3, 0, none⟩) j4 j4), (16, iv (i3)), (17, uv d4), (18, w14), (139, .slice (some ⟨b3, 0, none⟩) j4 j4), (140, iv (i3)), (141, uv d4)] rfl fun rest => ?_
   obtain ⟨j12, hj12, hlj12, H⟩ := ckI_s H
   refine TL_val rfl rfl (r_index Tryz.underlying23 ty102 rfl (vi hj12) (k := j12) (lt_of_len hlj12 hz3)) ?_
   obtain ⟨t28, ht28, H⟩ := nm_s H
   refine TL_og rfl rfl (og_store' (f := eU) (y' := d4) (z2 := t28) 1 rfl rfl rfl (Sub.rowT0 eU j4 (t16) j12 _ (getD_some 0 (lt_of_len' (lt_of_len hlj12 hz3) hz3))) ty102 (fun S w h => (u64_fV hr7)) ht28) fun _ _ => ?_
   show TL _ _ _ _ (mB (rowT eU cap1) 102 b4 (t18) :: mB (rowT eU j4) 102 b3 (t28) :: F) (fV (eS eU) (t26) w14 :: fV (eS eU) (t17) w6 :: G) _ _ _ _
   refine TL_mv 0 [(9, iv (x3)), (10, w6), (12, .slice (some ⟨b4, 0, none⟩) t18.length cap1), (14, iv ((t6.length : Nat) : Int)), (15, .slice (some ⟨b3, 0, none⟩) j4 j4), (16, iv (i3)), (17, uv d4), (18, w14)] rfl fun rest => TL_nil ?_
   obtain ⟨j13, hj13, H⟩ := ckN_s H
   obtain ⟨hk12, H⟩ := ck_s H
   obtain ⟨t29, ht29, H⟩ := nm_s H
   obtain ⟨t30, he13, H⟩ := bd_s H
   obtain ⟨t31, he14, H⟩ := bd_s H
   obtain ⟨x20, hx20, hrx20, H⟩ := ck64_s H
   obtain ⟨j14, hj14, H⟩ := ckN_s H
   obtain ⟨hk13, H⟩ := ck_s H
   obtain ⟨t32, ht32, H⟩ := nm_s H
   obtain ⟨x21, hx21, hrx21, H⟩ := ck64_s H
   obtain ⟨j15, hj15, H⟩ := ckN_s H
   obtain ⟨hk14, H⟩ := ck_s H
   obtain ⟨y8, hy8, H⟩ := nm_s H
   obtain ⟨t33, ht33, H⟩ := nm_s H
   refine T_float 15 [6, 7, 10, 13, 14] [0, 1, 2, 3, 4, 5, 8, 9, 11, 12] rfl (by kernel_rfl) (by kernel_rfl) fun w0 S0 hS0 hM0 hΓ0 => ⟨[.slice (some ⟨b4, 0, none⟩) t18.length cap1, iv (i3), .slice (some ⟨b4, 0 + j13 * 1, none⟩) ((t18.length - j13)) ((cap1 - j13)), w14, w6, uv d4, iv ((t6.length : Nat) : Int), iv (x20), iv ((t6.length : Nat) : Int), iv (x21)], [], rfl, trivial, ⟨(fun w _ => (r_mv rfl) w), (fun w _ => (r_mv rfl) w), (fun w _ => (r_sliceD (l := j13) rfl Tryz.underlying23 ty102 (by exact vi hj13) hk12.1 hcb4 (Nat.lt_of_lt_of_le hk12.2 hcb4)) w), (fun w _ => (r_mv rfl) w), (fun w _ => (r_mv rfl) w), (fun w _ => (r_mv rfl) w), (fun w _ => (r_mv rfl) w), (fun w _ => (r_add (c := x20) rfl rfl (w_x hx20 hrx20)) w), (fun w _ => (r_mv rfl) w), (fun w _ => (r_add (c := x21) rfl rfl (w_x hx21 hrx21)) w), trivial⟩, ?_⟩
   refine TLc_prune [(9, iv (x3)), (10, w6), (12, .slice (some ⟨b4, 0, none⟩) t18.length cap1), (14, iv ((t6.length : Nat) : Int)), (15, .slice (some ⟨b3, 0, none⟩) j4 j4), (16, iv (i3)), (145, .slice (some ⟨b4, 0 + j13 * 1, none⟩) ((t18.length - j13)) ((cap1 - j13))), (146, w14), (147, w6), (148, uv d4), (152, iv (x20)), (155, iv (x21))] rfl fun rest => ?_
   show TLc _ _ _ _ _ (mB (rowT eU cap1) 102 b4 (t18) :: mB (rowT eU j4) 102 b3 (t28) :: F) (fV (eS eU) (t26) w14 :: fV (eS eU) (t17) w6 :: (G ++ [ffK w0 S0])) _ _ _
   refine TLc_og (fun S w h => kept_of (All.right h.2.2).1) rfl (og_callG (F := (mB (rowT eU cap1) 102 b4 (t18) :: mB (rowT eU j4) 102 b3 (t28) :: F)) (by kernel_rfl) (c_nat_row fu t17 w6 d4 hr7 t30 he13) rfl (fun S w h => ⟨h.2.1, trivial⟩)) fun u10 _ => ?_
   show TLc _ _ _ _ _ (mO eU 102 u10 (t30) :: mB (rowT eU cap1) 102 b4 (t18) :: mB (rowT eU j4) 102 b3 (t28) :: F) (fV (eS eU) (t26) w14 :: fV (eS eU) (t17) w6 :: (G ++ [ffK w0 S0])) _ _ _
   refine TLc_weak_st (fun w h => fz_own 0 h rfl) ?_
   show TLc _ _ _ _ _ (mB (rowT eU cap1) 102 b4 (t18) :: mB (rowT eU j4) 102 b3 (t28) :: F) (fV (eS eU) (t30) u10 :: fV (eS eU) (t26) w14 :: fV (eS eU) (t17) w6 :: (G ++ [ffK w0 S0])) _ _ _
   refine TLc_og (fun S w h => kept_of (All.right h.2.2.2).1) rfl (og_callG (F := (mB (rowT eU cap1) 102 b4 (t18) :: mB (rowT eU j4) 102 b3 (t28) :: F)) (by kernel_rfl) (c_nat_less fu t26 w14 t30 u10 t31 he14) rfl (fun S w h => ⟨h.2.1, h.1, trivial⟩)) fun u11 _ => ?_
   show TLc _ _ _ _ _ (mO eU 102 u11 (t31) :: mB (rowT eU cap1) 102 b4 (t18) :: mB (rowT eU j4) 102 b3 (t28) :: F) (fV (eS eU) (t30) u10 :: fV (eS eU) (t26) w14 :: fV (eS eU) (t17) w6 :: (G ++ [ffK w0 S0])) _ _ _
   refine TLc_og (fun S w h => kept_of (All.right h.2.2.2).1) rfl (og_appendZ' (e := eU) (xs := t31) (z := 0) (n := j14) 0 Tryz.underlying23 Tryz.underlying3 ty102 rfl (by decide) (by decide) rfl rfl (by exact vi hj14) (fun S w => z102 S w) hk13 ht32) fun w15 _ => ?_
   show TLc _ _ _ _ _ (mO eU 102 w15 (t32) :: mB (rowT eU cap1) 102 b4 (t18) :: mB (rowT eU j4) 102 b3 (t28) :: F) (fV (eS eU) (t30) u10 :: fV (eS eU) (t26) w14 :: fV (eS eU) (t17) w6 :: (G ++ [ffK w0 S0])) _ _ _
   refine TLc_weak_st (fun w h => fz_own 0 h rfl) ?_
   show TLc _ _ _ _ _ (mB (rowT eU cap1) 102 b4 (t18) :: mB (rowT eU j4) 102 b3 (t28) :: F) (fV (eS eU) (t32) w15 :: fV (eS eU) (t30) u10 :: fV (eS eU) (t26) w14 :: fV (eS eU) (t17) w6 :: (G ++ [ffK w0 S0])) _ _ _
   refine TLc_og (fun S w h => kept_of (All.right h.2.2.2.2).1) rfl (og_of_oe (oe_as (oe_sliceT (e := eU) (xs := t32) (h := j15) rfl Tryz.underlying23 ty102 (by exact vi hj15) hk14 (fun S w h => h.1)) hy8)) fun u12 _ => ?_
   show TLc _ _ _ _ _ (mB (rowT eU cap1) 102 b4 (t18) :: mB (rowT eU j4) 102 b3 (t28) :: F) (fV (eS eU) (y8) u12 :: fV (eS eU) (t32) w15 :: fV (eS eU) (t30) u10 :: fV (eS eU) (t26) w14 :: fV (eS eU) (t17) w6 :: (G ++ [ffK w0 S0])) _ _ _
   refine TLc_og (fun S w h => kept_of (All.right h.2.2.2.2.2).1) rfl (og_copy' (e := eU) (xs := t18) (ys := y8) (l := j13) (dLen := (t18.length - j13)) 0 Tryz.underlying23 ty102 rfl rfl rfl rfl (Nat.le_trans (sl_1 hk12.1) (Nat.le_of_eq rfl.symm)) (fun S w h => h.1) ht33) fun n3 _ => ?_
   show TLc _ _ _ _ _ (mB (rowT eU cap1) 102 b4 (t33) :: mB (rowT eU j4) 102 b3 (t28) :: F) (fV (eS eU) (y8) u12 :: fV (eS eU) (t32) w15 :: fV (eS eU) (t30) u10 :: fV (eS eU) (t26) w14 :: fV (eS eU) (t17) w6 :: (G ++ [ffK w0 S0])) _ _ _
   refine TLc_nil (fun S w h => kept_of (All.right h.2.2.2.2.2).1) <| TL_sel (fV (eS eU) (y8) u12 :: fV (eS eU) (t32) w15 :: fV (eS eU) (t30) u10 :: fV (eS eU) (t26) w14 :: fV (eS eU) (t17) w6 :: G) (fun S w h => ⟨h.1, h.2.1, h.2.2.1, h.2.2.2.1, h.2.2.2.2.1, (All.left h.2.2.2.2.2)⟩) <| TL_prune [(9, iv (x3)), (10, w6), (12, .slice (some ⟨b4, 0, none⟩) t18.length cap1), (14, iv ((t6.length : Nat) : Int)), (15, .slice (some ⟨b3, 0, none⟩) j4 j4), (16, iv (i3))] rfl fun rest => TL_nil <| T_region <| TL_mv 1 [(9, iv (x3)), (10, w6), (12, .slice (some ⟨b4, 0, none⟩) t18.length cap1), (14, iv ((t6.length : Nat) : Int)), (15, .slice (some ⟨b3, 0, none⟩) j4 j4), (89, iv (i3))] rfl fun rest => ?_
   obtain ⟨x22, hx22, hrx22, H⟩ := ck64_s H
   refine TL_val rfl rfl (r_sub (c := x22) rfl rfl (w_x hx22 hrx22)) <| TL_mv 1 [(9, iv (x3)), (10, w6), (12, .slice (some ⟨b4, 0, none⟩) t18.length cap1), (14, iv ((t6.length : Nat) : Int)), (15, .slice (some ⟨b3, 0, none⟩) j4 j4), (16, iv (x22))] rfl fun rest => TL_nil <| T_weak_st (fun w h => close_all 0 h rfl (copy_len ht33 (Nat.le_trans (sl_1 hk12.1) (Nat.le_of_eq rfl.symm)) rfl) hcb4 hmb4) ?_
   exact St_round_s (n1, t17, t33, x22, t28, w6, (.slice (some ⟨b4, 0, none⟩) t18.length cap1 : Value)) H (And.intro hrx22 (set_len ht28 hz3)) (Nat.lt_succ_self _) rfl (fun w h => St.weak h (fun S w h => ⟨h.2.2.2.2.1, h.2.2.2.2.2⟩))
  replace H := if_f h4 H
  refine TL_mv 0 [(9, iv (x3)), (10, w6), (12, w7), (14, iv ((t6.length : Nat) : Int)), (15, .slice (some ⟨b3, 0, none⟩) j4 j4), (16, iv (i3)), (88, .bool false)] rfl fun rest => TL_nil <| T_cond_false rfl <| T_exit ?_
  exact JQ_mk (t18, t16, w7) (And.intro (Option.some.inj H) hz3) rfl (fun w h => St.weak h (fun S w h => h.2))
 refine JQ_el' ?_
 rintro ⟨t20, t19, w8⟩ ⟨hs, hz4⟩ rest
 subst hs
 replace H := Hc
 clear hL
 refine JG_to (ms' := (mO eU 102 w8 (t20) :: mB (rowT eU j4) 102 b3 (t19) :: F)) (Γ' := (G)) (live' := [(9, iv (x3)), (12, w8), (15, .slice (some ⟨b3, 0, none⟩) j4 j4)]) rfl <| T_seq <| T_region <| TL_mv 1 [(9, iv (x3)), (12, w8), (158, .slice (some ⟨b3, 0, none⟩) j4 j4)] rfl fun rest => TL_weak_st (fun w h => close_all 1 h rfl hz4 (Nat.le_refl _) (mk_le (B := 8) (by decide) hk7)) ?_
 show TL _ _ _ _ (mO eU 102 w8 (t20) :: mO eU 102 ((.slice (some ⟨b3, 0, none⟩) j4 j4)) (t19) :: F) _ _ _ _ _
 obtain ⟨t34, he15, H⟩ := bd_s H
 refine TL_weak_st (fun w h => St.front 1 h rfl) ?_
 show TL _ _ _ _ (mO eU 102 ((.slice (some ⟨b3, 0, none⟩) j4 j4)) (t19) :: mO eU 102 w8 (t20) :: F) _ _ _ _ _
 refine TL_og rfl rfl (og_callG (F := (mO eU 102 w8 (t20) :: F)) (by kernel_rfl) (c_nat_plain_own fu t19 ((.slice (some ⟨b3, 0, none⟩) j4 j4)) t34 he15) rfl (fun S w h => trivial)) fun u13 _ => ?_
 show TL _ _ _ _ (mO eU 102 u13 (t34) :: mO eU 102 w8 (t20) :: F) (G) _ _ _ _
 refine TL_mv 2 [(159, u13), (160, w8), (161, iv (x3))] rfl fun rest => TL_weak_st (fun w h => fz_own 1 h rfl) ?_
 obtain ⟨t35, he16, H⟩ := bd_s H
 refine TL_og rfl rfl (og_callG (F := (mO eU 102 u13 (t34) :: F)) (by kernel_rfl) (c_nat_Shr fu t20 w8 x3 hk3 t35 he16) rfl (fun S w h => ⟨h.1, trivial⟩)) fun u14 _ => ?_
 show TL _ _ _ _ (mO eU 102 u14 (t35) :: mO eU 102 u13 (t34) :: F) (fV (eS eU) (t20) w8 :: G) _ _ _ _
 refine TL_mv 3 [(4, u13), (5, u14), (6, iv 0)] rfl fun rest => TL_nil <| T_ret <| T_weak_st (fun w h => fz_own 0 h rfl) ?_
 obtain ⟨rfl, rfl, rfl⟩ := inj3 H
 intro w hw
 exact RetG (vs := [u13, u14, (iv 0 : Value)]) (u13, u14) Tryz.results193 (by exact ⟨rfl, rfl, rfl, trivial⟩) rfl (show InR (0) by decide) (St.weak hw (fun S w h => ⟨h.1, h.2.2⟩))
set_option maxRecDepth 100000 in
set_option maxHeartbeats 1000000 in
theorem c_zint_Div (fu : Nat) (a0 : Zr) (va0 : Value) (a1 : Zr) (va1 : Value) (r0 : Zr) (r1 : Zr) (r2 : Int) (H : M_zint_Div fu a0 a1 = some (r0, r1, r2)) : Fn Tryz.prog 137 [va0, va1].toArray [fV eZ (a0) va0, fV eZ (a1) va1] (fun u : Value × Value => .tuple #[u.1, u.2, iv (r2)]) (fun u => [fV eZ (r0) u.1, fV eZ (r1) u.2]) (fun _ => InR r2) := by
 unfold M_zint_Div at H
 refine Fn_intro Tryz.func137 rfl rfl fun we Se rest => T_seq <| T_region <| TL_step rfl rfl (oe_box (e := eZ) (z := a0) rfl (fun S w h => h.1)) fun p1 _ => TL_step rfl rfl (oe_box (e := eZ) (z := a1) rfl (fun S w h => h.2.2.1)) fun p2 _ => TL_og rfl rfl (og_allocM (e := ERep.c eZ) (z := (false, [])) ty25 (fun S w => z25 S w)) fun b1 _ => ?_
 show TL _ _ _ _ [mB (ERep.c eZ) 25 b1 ((false, []))] [fP eZ (a1) p2, fP eZ (a0) p1, fV eZ (a0) va0, fV eZ (a1) va1] _ _ _ _
 refine TL_og rfl rfl (og_allocM (e := ERep.c eZ) (z := (false, [])) ty25 (fun S w => z25 S w)) fun b2 _ => ?_
 show TL _ _ _ _ [mB (ERep.c eZ) 25 b2 ((false, [])), mB (ERep.c eZ) 25 b1 ((false, []))] [fP eZ (a1) p2, fP eZ (a0) p1, fV eZ (a0) va0, fV eZ (a1) va1] _ _ _ _
 refine TL_mv 1 [(2, p1), (3, p2), (4, .pointer (some ⟨b1, 0, none⟩)), (5, .pointer (some ⟨b2, 0, none⟩))] rfl fun rest => TL_nil <| T_seq <| T_region <| TL_step rfl rfl (oe_field (e := eZ) (z := a0) fl25_1 rfl (Sub.snd eBool (eS eU) (a0)) (fun S w h => h.2.1)) fun p3 _ => TL_step rfl rfl (oe_load (e := (eS eU)) (y := a0.2) rfl ty23 (fun S w h => h.1)) fun u1 _ => ?_
 refine TL_step rfl rfl (oe_field (e := eZ) (z := a1) fl25_1 rfl (Sub.snd eBool (eS eU) (a1)) (fun S w h => h.2.2.1)) fun p4 _ => TL_step rfl rfl (oe_load (e := (eS eU)) (y := a1.2) rfl ty23 (fun S w h => h.1)) fun u2 _ => ?_
 obtain ⟨⟨t1, t2, x1⟩, he1, H⟩ := bd_s H
 refine TL_og rfl rfl (og_callG (F := [mB (ERep.c eZ) 25 b2 ((false, [])), mB (ERep.c eZ) 25 b1 ((false, []))]) (by kernel_rfl) (c_nat_Div fu a0.2 u1 a1.2 u2 t1 t2 x1 he1) rfl (fun S w h => ⟨h.2.2.1, h.1, trivial⟩)) fun ⟨u3, u4⟩ hk1 => ?_
 show TL _ _ _ _ [mO eU 102 u3 (t1), mB (ERep.c eZ) 25 b2 ((false, [])), mB (ERep.c eZ) 25 b1 ((false, []))] [fV (eS eU) (t2) u4, fV (eS eU) (a1.2) u2, fP (eS eU) (a1.2) p4, fV (eS eU) (a0.2) u1, fP (eS eU) (a0.2) p3, fP eZ (a1) p2, fP eZ (a0) p1, fV eZ (a0) va0, fV eZ (a1) va1] _ _ _ _
 refine TL_mv 7 [(2, p1), (3, p2), (4, .pointer (some ⟨b1, 0, none⟩)), (5, .pointer (some ⟨b2, 0, none⟩)), (7, u3), (8, u4), (9, iv (x1))] rfl fun rest => TL_sel [fV (eS eU) (t2) u4, fP eZ (a1) p2, fP eZ (a0) p1] (fun S w h => ⟨h.1, h.2.2.2.2.2.1, h.2.2.2.2.2.2.1, trivial⟩) <| TL_nil <| T_seq <| T_seq <| T_region ?_
 refine TL_mv 1 [(2, p1), (3, p2), (4, .pointer (some ⟨b1, 0, none⟩)), (5, .pointer (some ⟨b2, 0, none⟩)), (7, u3), (8, u4), (9, iv (x1)), (19, iv (x1))] rfl fun rest => TL_neq rfl rfl rfl rfl (fun h1 => ?_) (fun h1 => ?_)
 ·replace H := if_f h1 H
  refine TL_mv 0 [(2, p1), (3, p2), (4, .pointer (some ⟨b1, 0, none⟩)), (5, .pointer (some ⟨b2, 0, none⟩)), (7, u3), (8, u4), (9, iv (x1)), (20, .bool true)] rfl fun rest => TL_nil <| T_cond_true rfl <| T_seq <| T_region <| TL_step rfl rfl (oe_zero (e := eZ) (z := (false, [])) ty25 rfl rfl (.inl (plz pl25)) (fun S w => z25 S w)) fun u5 _ => ?_
  refine TL_step rfl rfl (oe_zero (e := eZ) (z := (false, [])) ty25 rfl rfl (.inl (plz pl25)) (fun S w => z25 S w)) fun u6 _ => TL_mv 1 [(4, .pointer (some ⟨b1, 0, none⟩)), (5, .pointer (some ⟨b2, 0, none⟩)), (21, u5), (22, u6), (23, iv (x1))] rfl fun rest => TL_og rfl rfl (og_store' (f := eZ) (y' := (false, [])) (z2 := (false, [])) 2 rfl rfl rfl (Sub.self eZ ((false, []))) ty25 (fun S w h => h.2.1) rfl) fun _ _ => ?_
  show TL _ _ _ _ [mO eU 102 u3 (t1), mB (ERep.c eZ) 25 b2 ((false, [])), mB (ERep.c eZ) 25 b1 ((false, []))] [fV eZ ((false, [])) u6, fV eZ ((false, [])) u5, fV (eS eU) (t2) u4, fP eZ (a1) p2, fP eZ (a0) p1] _ _ _ _
  refine TL_og rfl rfl (og_store' (f := eZ) (y' := (false, [])) (z2 := (false, [])) 1 rfl rfl rfl (Sub.self eZ ((false, []))) ty25 (fun S w h => h.1) rfl) fun _ _ => ?_
  show TL _ _ _ _ [mO eU 102 u3 (t1), mB (ERep.c eZ) 25 b2 ((false, [])), mB (ERep.c eZ) 25 b1 ((false, []))] [fV eZ ((false, [])) u6, fV eZ ((false, [])) u5, fV (eS eU) (t2) u4, fP eZ (a1) p2, fP eZ (a0) p1] _ _ _ _
  refine TL_mv 1 [(4, .pointer (some ⟨b1, 0, none⟩)), (5, .pointer (some ⟨b2, 0, none⟩)), (6, iv (x1))] rfl fun rest => TL_nil <| T_ret ?_
  obtain ⟨rfl, rfl, rfl⟩ := inj3 H
  intro w hw
  change RetQ _ _ _ _ _ _ _ .ret _ w
  refine Ret_cN (e := eZ) (z := (false, [])) 4 2 hw rfl (by exact rfl) ty25 fun r_1 hw hr_1 => Ret_cN (e := eZ) (z := (false, [])) 5 1 hw rfl (by exact rfl) ty25 fun r_2 hw hr_2 => ?_
  exact RetN (vs := [r_1, r_2, (iv (x1) : Value)]) (r_1, r_2) Tryz.results137 (by exact ⟨hr_1, hr_2, rfl, trivial⟩) rfl hk1 hw (fun S w h => ⟨h.2.1, h.1, trivial⟩)
 replace H := if_t h1 H
 refine TL_mv 0 [(2, p1), (3, p2), (4, .pointer (some ⟨b1, 0, none⟩)), (5, .pointer (some ⟨b2, 0, none⟩)), (7, u3), (8, u4), (9, iv (x1)), (20, .bool false)] rfl fun rest => TL_nil <| T_cond_false rfl <| T_skip <| T_seq ?_
 obtain ⟨s1, hL, Hc⟩ := bd_s H
 refine T_X [(.n, JQ we Se (G := (List Nat) × (List Nat) × Value × Value) (fun (t3, t4, w1, w2) => (⟨[mO eU 102 w1 (t3), mB (ERep.c eZ) 25 b2 ((false, [])), mB (ERep.c eZ) 25 b1 ((false, []))], [fV (eS eU) (t4) w2, fP eZ (a1) p2, fP eZ (a0) p1], [(2, p1), (3, p2), (4, .pointer (some ⟨b1, 0, none⟩)), (5, .pointer (some ⟨b2, 0, none⟩)), (7, w1), (8, w2)]⟩ : Inv)) (fun (t3, t4, w1, w2) => (t3, t4) = s1))] ?_ ⟨?_, trivial⟩
 ·replace H := hL
  refine T_seq <| T_region <| TL_step rfl rfl (oe_field (e := eZ) (z := a0) fl25_0 rfl (Sub.fst eBool (eS eU) (a0)) (fun S w h => h.2.2.1)) fun p5 _ => TL_step rfl rfl (oe_load_bool (y := a0.1) rfl ty4 (fun S w h => h.1)) fun _ _ => TL_mv 1 [(2, p1), (3, p2), (4, .pointer (some ⟨b1, 0, none⟩)), (5, .pointer (some ⟨b2, 0, none⟩)), (7, u3), (8, u4), (26, .bool (a0.1))] rfl fun rest => ?_
  rcases Bool.eq_false_or_eq_true (a0.1) with hd1 | hd1
  ·refine TL_prune [(2, p1), (3, p2), (4, .pointer (some ⟨b1, 0, none⟩)), (5, .pointer (some ⟨b2, 0, none⟩)), (7, u3), (8, u4), (26, .bool true)] (agr ⟨rfl, rfl, rfl, rfl, rfl, rfl, (congrArg Value.bool hd1), trivial⟩) fun rest => ?_
   replace H := if_t hd1 H
   refine TL_mv 1 [(2, p1), (3, p2), (4, .pointer (some ⟨b1, 0, none⟩)), (5, .pointer (some ⟨b2, 0, none⟩)), (7, u3), (8, u4), (26, .bool true), (27, u4)] rfl fun rest => TL_step rfl rfl (oe_len (e := eU) (xs := t2) Tryz.underlying23 rfl (fun S w h => h.2.1)) fun _ hl1 => TL_gtr rfl rfl rfl rfl (fun h2 => ?_) (fun h2 => ?_)
   ·replace H := if_t h2 H
    refine TL_mv 1 [(2, p1), (3, p2), (4, .pointer (some ⟨b1, 0, none⟩)), (5, .pointer (some ⟨b2, 0, none⟩)), (7, u3), (8, u4), (30, .bool true)] rfl fun rest => TL_nil <| T_cond_true rfl <| T_seq <| T_region <| TL_mv 1 [(2, p1), (3, p2), (4, .pointer (some ⟨b1, 0, none⟩)), (5, .pointer (some ⟨b2, 0, none⟩)), (8, u4), (31, u3)] rfl fun rest => ?_
    refine TL_step rfl rfl (oe_lit (e := eU) (zs := [(1 : Nat)]) Tryz.underlying23 ty102 (by decide) rfl (by decide) (vs := [(0, .int .u64 1)]) rfl (fun S w h => (by refine fill_eq eU ?_; exact ⟨fV_sz (S := S) (w := w) (u64_fV (x := 1) (show InU 1 by decide)), trivial⟩)) (fun S w h => (elems_one (u64_fV (x := 1) (show InU 1 by decide))))) fun u7 _ => ?_
    refine TL_weak_st (fun w h => fz_own 0 h rfl) ?_
    obtain ⟨t5, he2, H⟩ := bd_s H
    refine TL_og rfl rfl (og_callG (F := [mB (ERep.c eZ) 25 b2 ((false, [])), mB (ERep.c eZ) 25 b1 ((false, []))]) (by kernel_rfl) (c_nat_Add fu t1 u3 [(1 : Nat)] u7 t5 he2) rfl (fun S w h => ⟨h.1, h.2.1, trivial⟩)) fun u8 _ => ?_
    show TL _ _ _ _ [mO eU 102 u8 (t5), mB (ERep.c eZ) 25 b2 ((false, [])), mB (ERep.c eZ) 25 b1 ((false, []))] [fV (eS eU) (t1) u3, fV (eS eU) ([(1 : Nat)]) u7, fP eBool (a0.1) p5, fV (eS eU) (t2) u4, fP eZ (a1) p2, fP eZ (a0) p1] _ _ _ _
    refine TL_mv 1 [(2, p1), (3, p2), (4, .pointer (some ⟨b1, 0, none⟩)), (5, .pointer (some ⟨b2, 0, none⟩)), (7, u8), (8, u4)] rfl fun rest => TL_nil <| T_region <| TL_step rfl rfl (oe_field (e := eZ) (z := a1) fl25_1 rfl (Sub.snd eBool (eS eU) (a1)) (fun S w h => h.2.2.2.2.1)) fun p6 _ => TL_step rfl rfl (oe_load (e := (eS eU)) (y := a1.2) rfl ty23 (fun S w h => h.1)) fun u9 _ => TL_mv 1 [(2, p1), (3, p2), (4, .pointer (some ⟨b1, 0, none⟩)), (5, .pointer (some ⟨b2, 0, none⟩)), (7, u8), (36, u9), (37, u4)] rfl fun rest => ?_
    obtain ⟨⟨t6, x2⟩, he3, H⟩ := bd_s H
    refine TL_og rfl rfl (og_callG (F := [mO eU 102 u8 (t5), mB (ERep.c eZ) 25 b2 ((false, [])), mB (ERep.c eZ) 25 b1 ((false, []))]) (by kernel_rfl) (c_nat_Sub fu a1.2 u9 t2 u4 t6 x2 he3) rfl (fun S w h => ⟨h.1, h.2.2.2.2.2.1, trivial⟩)) fun u10 hk2 => ?_
    show TL _ _ _ _ [mO eU 102 u10 (t6), mO eU 102 u8 (t5), mB (ERep.c eZ) 25 b2 ((false, [])), mB (ERep.c eZ) 25 b1 ((false, []))] [fV (eS eU) (a1.2) u9, fP (eS eU) (a1.2) p6, fV (eS eU) (t1) u3, fV (eS eU) ([(1 : Nat)]) u7, fP eBool (a0.1) p5, fV (eS eU) (t2) u4, fP eZ (a1) p2, fP eZ (a0) p1] _ _ _ _
    refine TL_mv 4 [(2, p1), (3, p2), (4, .pointer (some ⟨b1, 0, none⟩)), (5, .pointer (some ⟨b2, 0, none⟩)), (7, u8), (8, u10)] rfl fun rest => TL_sel [fP eZ (a1) p2, fP eZ (a0) p1] (fun S w h => ⟨h.2.2.2.2.2.2.1, h.2.2.2.2.2.2.2.1, trivial⟩) <| TL_nil <| T_weak_st (fun w h => fz_own 0 h rfl) ?_
    exact JQ_mk (t5, t6, u8, u10) (Option.some.inj H) rfl (fun w h => St.weak h (fun S w h => ⟨h.1, h.2.1, h.2.2.1, trivial⟩))
   replace H := if_f h2 H
   refine TL_mv 1 [(2, p1), (3, p2), (4, .pointer (some ⟨b1, 0, none⟩)), (5, .pointer (some ⟨b2, 0, none⟩)), (7, u3), (8, u4), (30, .bool false)] rfl fun rest => TL_nil <| T_cond_false rfl <| T_skip ?_
   exact JQ_mk (t1, t2, u3, u4) (Option.some.inj H) rfl (fun w h => St.weak h (fun S w h => ⟨h.2.1, h.2.2.1, h.2.2.2.1, trivial⟩))
  refine TL_prune [(2, p1), (3, p2), (4, .pointer (some ⟨b1, 0, none⟩)), (5, .pointer (some ⟨b2, 0, none⟩)), (7, u3), (8, u4), (26, .bool false)] (agr ⟨rfl, rfl, rfl, rfl, rfl, rfl, (congrArg Value.bool hd1), trivial⟩) fun rest => ?_
  replace H := ifb_f hd1 H
  refine TL_mv 4 [(2, p1), (3, p2), (4, .pointer (some ⟨b1, 0, none⟩)), (5, .pointer (some ⟨b2, 0, none⟩)), (7, u3), (8, u4), (30, .bool false)] rfl fun rest => TL_nil <| T_cond_false rfl <| T_skip ?_
  exact JQ_mk (t1, t2, u3, u4) (Option.some.inj H) rfl (fun w h => St.weak h (fun S w h => ⟨h.2.1, h.2.2.1, h.2.2.2.1, trivial⟩))
 refine JQ_el' ?_
 rintro ⟨t3, t4, w1, w2⟩ hs rest
 subst hs
 replace H := Hc
 clear hL
 refine JG_to (ms' := [mO eU 102 w1 (t3), mB (ERep.c eZ) 25 b2 ((false, [])), mB (ERep.c eZ) 25 b1 ((false, []))]) (Γ' := [fV (eS eU) (t4) w2, fP eZ (a1) p2, fP eZ (a0) p1]) (live' := [(2, p1), (3, p2), (4, .pointer (some ⟨b1, 0, none⟩)), (5, .pointer (some ⟨b2, 0, none⟩)), (7, w1), (8, w2)]) rfl <| T_seq <| T_region <| TL_step rfl rfl (oe_field (e := eZ) (z := a0) fl25_0 rfl (Sub.fst eBool (eS eU) (a0)) (fun S w h => h.2.2.1)) fun p7 _ => TL_step rfl rfl (oe_load_bool (y := a0.1) rfl ty4 (fun S w h => h.1)) fun _ _ => TL_step rfl rfl (oe_field (e := eZ) (z := a1) fl25_0 rfl (Sub.fst eBool (eS eU) (a1)) (fun S w h => h.2.2.1)) fun p8 _ => ?_
 refine TL_step rfl rfl (oe_load_bool (y := a1.1) rfl ty4 (fun S w h => h.1)) fun _ _ => ?_
 obtain ⟨c1, hc1, H⟩ := nm_s H
 refine TL_val rfl rfl (v_bool (z := c1) (r_bne Tryz.underlying4 rfl rfl) hc1) <| TL_mv 1 [(4, .pointer (some ⟨b1, 0, none⟩)), (5, .pointer (some ⟨b2, 0, none⟩)), (8, w2), (45, .bool (c1)), (46, w1)] rfl fun rest => TL_weak_st (fun w h => fz_own 0 h rfl) ?_
 obtain ⟨t7, he4, H⟩ := bd_s H
 refine TL_step rfl rfl (oe_call (by kernel_rfl) (c_zint_made fu c1 t3 w1 t7 he4) rfl (fun S w h => ⟨h.1, trivial⟩)) fun u11 _ => TL_mv 1 [(4, .pointer (some ⟨b1, 0, none⟩)), (5, .pointer (some ⟨b2, 0, none⟩)), (47, u11), (48, w2)] rfl fun rest => ?_
 obtain ⟨t8, he5, H⟩ := bd_s H
 refine TL_step rfl rfl (oe_call (by kernel_rfl) (c_zint_made fu false t4 w2 t8 he5) rfl (fun S w h => ⟨h.2.2.2.2.1, trivial⟩)) fun u12 _ => TL_og rfl rfl (og_store' (f := eZ) (y' := t7) (z2 := t7) 1 rfl rfl rfl (Sub.self eZ ((false, []))) ty25 (fun S w h => h.2.1) rfl) fun _ _ => ?_
 show TL _ _ _ _ [mB (ERep.c eZ) 25 b2 ((false, [])), mB (ERep.c eZ) 25 b1 (t7)] [fV eZ (t8) u12, fV eZ (t7) u11, fV (eS eU) (t3) w1, fP eBool (a1.1) p8, fP eBool (a0.1) p7, fV (eS eU) (t4) w2, fP eZ (a1) p2, fP eZ (a0) p1] _ _ _ _
 refine TL_og rfl rfl (og_store' (f := eZ) (y' := t8) (z2 := t8) 0 rfl rfl rfl (Sub.self eZ ((false, []))) ty25 (fun S w h => h.1) rfl) fun _ _ => ?_
 show TL _ _ _ _ [mB (ERep.c eZ) 25 b2 (t8), mB (ERep.c eZ) 25 b1 (t7)] [fV eZ (t8) u12, fV eZ (t7) u11, fV (eS eU) (t3) w1, fP eBool (a1.1) p8, fP eBool (a0.1) p7, fV (eS eU) (t4) w2, fP eZ (a1) p2, fP eZ (a0) p1] _ _ _ _
 refine TL_mv 1 [(4, .pointer (some ⟨b1, 0, none⟩)), (5, .pointer (some ⟨b2, 0, none⟩)), (6, iv 0)] rfl fun rest => TL_sel [] (fun S w h => trivial) <| TL_nil <| T_ret ?_
 obtain ⟨rfl, rfl, rfl⟩ := inj3 H
 intro w hw
 change RetQ _ _ _ _ _ _ _ .ret _ w
 refine Ret_cN (e := eZ) (z := t7) 4 1 hw rfl (by exact rfl) ty25 fun r_3 hw hr_3 => Ret_cN (e := eZ) (z := t8) 5 0 hw rfl (by exact rfl) ty25 fun r_4 hw hr_4 => ?_
 exact RetN (vs := [r_3, r_4, (iv 0 : Value)]) (r_3, r_4) Tryz.results137 (by exact ⟨hr_3, hr_4, rfl, trivial⟩) rfl (show InR (0) by decide) hw (fun S w h => ⟨h.2.1, h.1, trivial⟩)
set_option maxRecDepth 100000 in
set_option maxHeartbeats 1000000 in
theorem c_prime_Rest (fu : Nat) (a0 : Zr) (va0 : Value) (a1 : Zr) (va1 : Value) (r0 : Zr) (r1 : Int) (H : M_prime_Rest fu a0 a1 = some (r0, r1)) : Fn Tryz.prog 79 [va0, va1].toArray [fV eZ (a0) va0, fV eZ (a1) va1] (fun u : Value => .tuple #[u, iv (r1)]) (fun u => [fV eZ (r0) u]) (fun _ => InR r1) := by
 unfold M_prime_Rest at H
 refine Fn_intro Tryz.func79 rfl rfl fun we Se rest => T_seq <| T_region <| TL_step rfl rfl (oe_box (e := eZ) (z := a0) rfl (fun S w h => h.1)) fun p1 _ => TL_step rfl rfl (oe_box (e := eZ) (z := a1) rfl (fun S w h => h.2.2.1)) fun p2 _ => TL_og rfl rfl (og_allocM (e := ERep.c eZ) (z := (false, [])) ty25 (fun S w => z25 S w)) fun b1 _ => ?_
 show TL _ _ _ _ [mB (ERep.c eZ) 25 b1 ((false, []))] [fP eZ (a1) p2, fP eZ (a0) p1, fV eZ (a0) va0, fV eZ (a1) va1] _ _ _ _
 refine TL_mv 1 [(2, p1), (3, p2), (4, .pointer (some ⟨b1, 0, none⟩))] rfl fun rest => TL_nil <| T_seq <| T_seq <| T_region <| TL_step rfl rfl (oe_load (e := eZ) (y := a1) rfl ty25 (fun S w h => h.1)) fun u1 _ => ?_
 obtain ⟨x1, he1, H⟩ := bd_s H
 refine TL_step rfl rfl (oe_call (by kernel_rfl) (c_zint_Sign fu a1 u1 x1 he1) rfl (fun S w h => ⟨h.1, trivial⟩)) fun _ hk1 => TL_leq rfl rfl rfl rfl (fun h1 => ?_) (fun h1 => ?_)
 ·replace H := if_t h1 H
  refine TL_mv 0 [(2, p1), (3, p2), (4, .pointer (some ⟨b1, 0, none⟩)), (11, .bool true)] rfl fun rest => TL_nil <| T_cond_true rfl <| T_seq <| T_region <| TL_step rfl rfl (oe_zero (e := eZ) (z := (false, [])) ty25 rfl rfl (.inl (plz pl25)) (fun S w => z25 S w)) fun u2 _ => ?_
  refine TL_og rfl rfl (og_store' (f := eZ) (y' := (false, [])) (z2 := (false, [])) 0 rfl rfl rfl (Sub.self eZ ((false, []))) ty25 (fun S w h => h.1) rfl) fun _ _ => ?_
  show TL _ _ _ _ [mB (ERep.c eZ) 25 b1 ((false, []))] [fV eZ ((false, [])) u2, fV eZ (a1) u1, fP eZ (a1) p2, fP eZ (a0) p1, fV eZ (a0) va0, fV eZ (a1) va1] _ _ _ _
  refine TL_mv 1 [(4, .pointer (some ⟨b1, 0, none⟩)), (5, iv 1)] rfl fun rest => TL_nil <| T_ret ?_
  obtain ⟨rfl, rfl⟩ := inj2 H
  intro w hw
  change RetQ _ _ _ _ _ _ _ .ret _ w
  refine Ret_cN (e := eZ) (z := (false, [])) 4 0 hw rfl (by exact rfl) ty25 fun r_1 hw hr_1 => ?_
  exact RetN (vs := [r_1, (iv 1 : Value)]) r_1 Tryz.results79 (by exact ⟨hr_1, rfl, trivial⟩) rfl (show InR (1) by decide) hw (fun S w h => ⟨h.1, trivial⟩)
 replace H := if_f h1 H
 refine TL_mv 0 [(2, p1), (3, p2), (4, .pointer (some ⟨b1, 0, none⟩)), (11, .bool false)] rfl fun rest => TL_nil <| T_cond_false rfl <| T_skip <| T_seq <| T_region ?_
 refine TL_step rfl rfl (oe_load (e := eZ) (y := a0) rfl ty25 (fun S w h => h.2.2.1)) fun u3 _ => TL_step rfl rfl (oe_load (e := eZ) (y := a1) rfl ty25 (fun S w h => h.2.2.1)) fun u4 _ => ?_
 obtain ⟨⟨t1, t2, x2⟩, he2, H⟩ := bd_s H
 refine TL_step rfl rfl (oe_call (by kernel_rfl) (c_zint_Div fu a0 u3 a1 u4 t1 t2 x2 he2) rfl (fun S w h => ⟨h.2.1, h.1, trivial⟩)) fun ⟨u5, u6⟩ hk2 => TL_mv 4 [(4, .pointer (some ⟨b1, 0, none⟩)), (17, u5), (18, u6), (19, iv (x2))] rfl fun rest => TL_og rfl rfl (og_allocM (e := ERep.c eZ) (z := (false, [])) ty25 (fun S w => z25 S w)) fun b2 _ => ?_
 show TL _ _ _ _ [mB (ERep.c eZ) 25 b2 ((false, [])), mB (ERep.c eZ) 25 b1 ((false, []))] [fV eZ (t1) u5, fV eZ (t2) u6, fV eZ (a1) u4, fV eZ (a0) u3, fV eZ (a1) u1, fP eZ (a1) p2, fP eZ (a0) p1, fV eZ (a0) va0, fV eZ (a1) va1] _ _ _ _
 refine TL_og rfl rfl (og_allocM (e := ERep.c eZ) (z := (false, [])) ty25 (fun S w => z25 S w)) fun b3 _ => ?_
 show TL _ _ _ _ [mB (ERep.c eZ) 25 b3 ((false, [])), mB (ERep.c eZ) 25 b2 ((false, [])), mB (ERep.c eZ) 25 b1 ((false, []))] [fV eZ (t1) u5, fV eZ (t2) u6, fV eZ (a1) u4, fV eZ (a0) u3, fV eZ (a1) u1, fP eZ (a1) p2, fP eZ (a0) p1, fV eZ (a0) va0, fV eZ (a1) va1] _ _ _ _
 refine TL_og rfl rfl (og_store' (f := eZ) (y' := t1) (z2 := t1) 1 rfl rfl rfl (Sub.self eZ ((false, []))) ty25 (fun S w h => h.1) rfl) fun _ _ => ?_
 show TL _ _ _ _ [mB (ERep.c eZ) 25 b3 ((false, [])), mB (ERep.c eZ) 25 b2 (t1), mB (ERep.c eZ) 25 b1 ((false, []))] [fV eZ (t1) u5, fV eZ (t2) u6, fV eZ (a1) u4, fV eZ (a0) u3, fV eZ (a1) u1, fP eZ (a1) p2, fP eZ (a0) p1, fV eZ (a0) va0, fV eZ (a1) va1] _ _ _ _
 refine TL_og rfl rfl (og_store' (f := eZ) (y' := t2) (z2 := t2) 0 rfl rfl rfl (Sub.self eZ ((false, []))) ty25 (fun S w h => h.2.1) rfl) fun _ _ => ?_
 show TL _ _ _ _ [mB (ERep.c eZ) 25 b3 (t2), mB (ERep.c eZ) 25 b2 (t1), mB (ERep.c eZ) 25 b1 ((false, []))] [fV eZ (t1) u5, fV eZ (t2) u6, fV eZ (a1) u4, fV eZ (a0) u3, fV eZ (a1) u1, fP eZ (a1) p2, fP eZ (a0) p1, fV eZ (a0) va0, fV eZ (a1) va1] _ _ _ _
 refine TL_mv 1 [(4, .pointer (some ⟨b1, 0, none⟩)), (7, .pointer (some ⟨b3, 0, none⟩))] rfl fun rest => TL_sel [] (fun S w h => trivial) <| TL_nil <| T_seq <| T_region <| TL_step rfl rfl (oe_loadM (z' := t2) 0 rfl rfl (Sub.self eZ (t2)) ty25) fun u7 _ => ?_
 refine TL_og rfl rfl (og_store' (f := eZ) (y' := t2) (z2 := t2) 2 rfl rfl rfl (Sub.self eZ ((false, []))) ty25 (fun S w h => h.1) rfl) fun _ _ => ?_
 show TL _ _ _ _ [mB (ERep.c eZ) 25 b3 (t2), mB (ERep.c eZ) 25 b2 (t1), mB (ERep.c eZ) 25 b1 (t2)] [fV eZ (t2) u7] _ _ _ _
 refine TL_mv 1 [(4, .pointer (some ⟨b1, 0, none⟩)), (5, iv 0)] rfl fun rest => TL_nil <| T_ret ?_
 obtain ⟨rfl, rfl⟩ := inj2 H
 intro w hw
 change RetQ _ _ _ _ _ _ _ .ret _ w
 refine Ret_cN (e := eZ) (z := t2) 4 2 hw rfl (by exact rfl) ty25 fun r_2 hw hr_2 => ?_
 exact RetN (vs := [r_2, (iv 0 : Value)]) r_2 Tryz.results79 (by exact ⟨hr_2, rfl, trivial⟩) rfl (show InR (0) by decide) hw (fun S w h => ⟨h.1, trivial⟩)
set_option maxRecDepth 100000 in
set_option maxHeartbeats 1000000 in
theorem c_hensel_Red (fu : Nat) (a0 : List Zr) (va0 : Value) (a1 : Zr) (va1 : Value) (r0 : List Zr) (r1 : Int) (H : M_hensel_Red fu a0 a1 = some (r0, r1)) : FnG Tryz.prog 22 [va0, va1].toArray [] [fV (eS eZ) (a0) va0, fV eZ (a1) va1] (fun u : Value => .tuple #[u, iv (r1)]) (fun u => [mO eZ 25 u (r0)]) (fun u => []) (fun _ => InR r1) := by
 unfold M_hensel_Red at H
 refine FnG_intro Tryz.func22 rfl rfl fun we Se F G rest => T_seq <| T_region <| TL_step rfl rfl (oe_box (e := eZ) (z := a1) rfl (fun S w h => h.2.1)) fun p1 _ => TL_mv 2 [(0, va0), (3, p1)] rfl fun rest => TL_nil ?_
 refine T_seq <| T_region <| TL_mv 1 [(3, p1), (6, va0)] rfl fun rest => TL_step rfl rfl (oe_load (e := eZ) (y := a1) rfl ty25 (fun S w h => h.1)) fun u1 _ => ?_
 obtain ⟨⟨t1, x1⟩, he1, H⟩ := bd_s H
 refine TL_og rfl rfl (og_callG (F := (F)) (by kernel_rfl) (c_hensel_rests fu a0 va0 a1 u1 (fun zx0 zx1 => M_prime_Rest fu zx0 zx1) 79 [] [] (by kernel_rfl) (fun zx0 vzx0 zx1 vzx1 zy0 zy1 hh => c_prime_Rest fu zx0 vzx0 zx1 vzx1 zy0 zy1 hh) t1 x1 he1) rfl (fun S w h => ⟨h.2.2.1, h.1, trivial⟩)) fun u2 hk1 => ?_
 show TL _ _ _ _ (mO eZ 25 u2 (t1) :: F) (fV eZ (a1) u1 :: fP eZ (a1) p1 :: fV (eS eZ) (a0) va0 :: fV eZ (a1) va1 :: G) _ _ _ _
 refine TL_mv 4 [(4, u2), (5, iv (x1))] rfl fun rest => TL_nil <| T_ret ?_
 obtain ⟨rfl, rfl⟩ := inj2 H
 intro w hw
 exact RetG (vs := [u2, (iv (x1) : Value)]) u2 Tryz.results22 (by exact ⟨rfl, rfl, trivial⟩) rfl hk1 (St.weak hw (fun S w h => h.2.2.2.2))
set_option maxRecDepth 100000 in
set_option maxHeartbeats 1000000 in
theorem c_hensel_red (fu : Nat) (a0 : List Zr) (va0 : Value) (a1 : Zr) (va1 : Value) (r0 : List Zr) (H : M_hensel_red fu a0 a1 = some r0) : FnG Tryz.prog 67 [va0, va1].toArray [] [fV (eS eZ) (a0) va0, fV eZ (a1) va1] (fun u : Value => u) (fun u => [mO eZ 25 u (r0)]) (fun u => []) (fun _ => True) := by
 unfold M_hensel_red at H
 refine FnG_intro Tryz.func67 rfl rfl fun we Se F G rest => T_seq <| T_region <| TL_step rfl rfl (oe_box (e := eZ) (z := a1) rfl (fun S w h => h.2.1)) fun p1 _ => TL_mv 1 [(0, va0), (3, p1)] rfl fun rest => TL_nil ?_
 refine T_seq <| T_region <| TL_mv 1 [(3, p1), (8, va0)] rfl fun rest => TL_step rfl rfl (oe_load (e := eZ) (y := a1) rfl ty25 (fun S w h => h.1)) fun u1 _ => ?_
 obtain ⟨⟨t1, x1⟩, he1, H⟩ := bd_s H
 refine TL_og rfl rfl (og_callG (F := (F)) (by kernel_rfl) (c_hensel_Red fu a0 va0 a1 u1 t1 x1 he1) rfl (fun S w h => ⟨h.2.2.1, h.1, trivial⟩)) fun u2 hk1 => ?_
 show TL _ _ _ _ (mO eZ 25 u2 (t1) :: F) (fV eZ (a1) u1 :: fP eZ (a1) p1 :: fV (eS eZ) (a0) va0 :: fV eZ (a1) va1 :: G) _ _ _ _
 refine TL_mv 5 [(5, u2)] rfl fun rest => TL_nil <| T_seq <| T_region <| TL_mv 2 [(4, u2)] rfl fun rest => TL_nil ?_
 refine T_ret ?_
 obtain rfl := inj1 H
 intro w hw
 exact RetG (vs := [u2]) u2 Tryz.results67 (by exact ⟨rfl, trivial⟩) rfl trivial (St.weak hw (fun S w h => h.2.2.2.2))
theorem z_hensel_red (fu : Nat) (a0 : List Zr) (va0 : Value) (a1 : Zr) (va1 : Value) (r0 : List Zr) (H : M_hensel_red fu a0 a1 = some r0) : Fn Tryz.prog 67 [va0, va1].toArray [fV (eS eZ) (a0) va0, fV eZ (a1) va1] (fun u : Value => u) (fun u => [fV (eS eZ) (r0) u]) (fun _ => True) :=
  FnG.frozen (c_hensel_red fu a0 va0 a1 va1 r0 H) fun u w we Se h => (fz_own 0 h rfl)
set_option maxRecDepth 100000 in
set_option maxHeartbeats 1000000 in
theorem c_fp_Check (fu : Nat) (a0 : Int) (qa0 : InR a0) (r0 : Int) (H : M_fp_Check fu a0 = some r0) : Fn Tryz.prog 182 [iv a0].toArray [] (fun _ : Unit => iv (r0)) (fun _ => []) (fun _ => InR r0) := by
 unfold M_fp_Check at H
 refine Fn_intro Tryz.func182 rfl rfl fun we Se rest => T_seq <| T_region <| TL_mv 1 [(0, iv (a0))] rfl fun rest => TL_nil <| T_seq ?_
 refine T_seq <| T_region <| TL_mv 1 [(3, iv (a0))] rfl fun rest => ?_
 obtain ⟨c1, he1, H⟩ := bd_s H
 refine TL_step rfl rfl (oe_call (by kernel_rfl) (c_prime_Is fu a0 qa0 c1 he1) rfl (fun S w h => trivial)) fun _ _ => TL_mv 1 [(5, .bool (!c1))] rfl fun rest => TL_nil <| T_cond (!c1) rfl (fun hb1 => ?_) (fun hb1 => ?_)
 ·replace H := if_t hb1 H
  refine T_seq <| T_region <| TL_mv 1 [(2, iv 1)] rfl fun rest => TL_nil <| T_ret ?_
  obtain rfl := inj1 H
  exact Ret1 () Tryz.results182 rfl (show InR (1) by decide) (fun S w h => trivial)
 replace H := ifb_f hb1 H
 refine T_skip <| T_seq <| T_region <| TL_mv 1 [(2, iv 0)] rfl fun rest => TL_nil <| T_ret ?_
 obtain rfl := inj1 H
 exact Ret1 () Tryz.results182 rfl (show InR (0) by decide) (fun S w h => trivial)
set_option maxRecDepth 100000 in
set_option maxHeartbeats 1000000 in
theorem c_fp_Red (fu : Nat) (a0 : Int) (qa0 : InR a0) (a1 : Int) (qa1 : InR a1) (r0 : Int) (H : M_fp_Red fu a0 a1 = some r0) : Fn Tryz.prog 235 [iv a0, iv a1].toArray [] (fun _ : Unit => iv (r0)) (fun _ => []) (fun _ => InR r0) := by
 unfold M_fp_Red at H
 refine Fn_intro Tryz.func235 rfl rfl fun we Se rest => T_seq <| T_region <| TL_mv 1 [(0, iv (a0)), (1, iv (a1))] rfl fun rest => TL_nil <| T_seq ?_
 refine T_seq <| T_region <| TL_mv 1 [(0, iv (a0)), (1, iv (a1)), (6, iv (a1))] rfl fun rest => TL_lss rfl rfl rfl rfl (fun h1 => ?_) (fun h1 => ?_)
 ·replace H := if_t h1 H
  refine TL_mv 0 [(0, iv (a0)), (1, iv (a1)), (7, .bool true)] rfl fun rest => TL_nil <| T_cond_true rfl <| T_seq <| T_region <| TL_mv 1 [(4, iv 0)] rfl fun rest => ?_
  refine TL_nil <| T_ret ?_
  obtain rfl := inj1 H
  exact Ret1 () Tryz.results235 rfl (show InR (0) by decide) (fun S w h => trivial)
 replace H := if_f h1 H
 refine TL_mv 0 [(0, iv (a0)), (1, iv (a1)), (7, .bool false)] rfl fun rest => TL_nil <| T_cond_false rfl <| T_skip <| T_seq <| T_region ?_
 refine TL_mv 2 [(1, iv (a1)), (8, iv (a0)), (9, iv (a1))] rfl fun rest => ?_
 obtain ⟨h01, H⟩ := ck_s H
 obtain ⟨x1, hx1, H⟩ := nm_s H
 refine TL_val rfl rfl (r_rem (c := x1) rfl rfl h01 hx1.symm) <| TL_mv 1 [(1, iv (a1)), (5, iv (x1))] rfl fun rest => TL_nil <| T_seq <| T_seq <| T_region ?_
 refine TL_mv 1 [(1, iv (a1)), (5, iv (x1)), (11, iv (x1))] rfl fun rest => TL_lss rfl rfl rfl rfl (fun h2 => ?_) (fun h2 => ?_)
 ·replace H := if_t h2 H
  refine TL_mv 0 [(1, iv (a1)), (5, iv (x1)), (12, .bool true)] rfl fun rest => TL_nil <| T_cond_true rfl <| T_region <| TL_mv 2 [(13, iv (x1)), (14, iv (a1))] rfl fun rest => ?_
  obtain ⟨x2, hx2, hrx2, H⟩ := ck64_s H
  refine TL_val rfl rfl (r_add (c := x2) rfl rfl (w_x hx2 hrx2)) <| TL_mv 1 [(5, iv (x2))] rfl fun rest => TL_nil <| T_seq <| T_region <| TL_mv 2 [(4, iv (x2))] rfl fun rest => ?_
  refine TL_nil <| T_ret ?_
  obtain rfl := inj1 H
  exact Ret1 () Tryz.results235 rfl hrx2 (fun S w h => trivial)
 replace H := if_f h2 H
 refine TL_mv 0 [(1, iv (a1)), (5, iv (x1)), (12, .bool false)] rfl fun rest => TL_nil <| T_cond_false rfl <| T_skip <| T_seq <| T_region ?_
 refine TL_mv 2 [(4, iv (x1))] rfl fun rest => TL_nil <| T_ret ?_
 obtain rfl := inj1 H
 exact Ret1 () Tryz.results235 rfl (tmod_r qa0 hx1) (fun S w h => trivial)
set_option maxRecDepth 100000 in
set_option maxHeartbeats 1000000 in
theorem c_fp_Inv (fu : Nat) (a0 : Int) (qa0 : InR a0) (a1 : Int) (qa1 : InR a1) (r0 : Int) (r1 : Int) (H : M_fp_Inv fu a0 a1 = some (r0, r1)) : Fn Tryz.prog 240 [iv a0, iv a1].toArray [] (fun _ : Unit => .tuple #[iv (r0), iv (r1)]) (fun _ => []) (fun _ => InR r0 ∧ InR r1) := by
 unfold M_fp_Inv at H
 refine Fn_intro Tryz.func240 rfl rfl fun we Se rest => T_seq <| T_region <| TL_mv 2 [(0, iv (a0)), (1, iv (a1))] rfl fun rest => TL_nil <| T_scope ?_
 refine T_seq <| T_seq <| T_region <| TL_mv 1 [(0, iv (a0)), (1, iv (a1)), (12, iv (a1))] rfl fun rest => ?_
 obtain ⟨x1, he1, H⟩ := bd_s H
 refine TL_step rfl rfl (oe_call (by kernel_rfl) (c_fp_Check fu a1 qa1 x1 he1) rfl (fun S w h => trivial)) fun _ hk1 => TL_mv 1 [(0, iv (a0)), (1, iv (a1)), (6, iv (x1))] rfl fun rest => TL_nil <| T_seq <| T_region <| TL_mv 1 [(0, iv (a0)), (1, iv (a1)), (6, iv (x1)), (14, iv (x1))] rfl fun rest => ?_
 refine TL_neq rfl rfl rfl rfl (fun h1 => ?_) (fun h1 => ?_)
 ·replace H := if_f h1 H
  refine TL_mv 0 [(0, iv (a0)), (1, iv (a1)), (6, iv (x1)), (15, .bool true)] rfl fun rest => TL_nil <| T_cond_true rfl <| T_seq <| T_region <| TL_mv 3 [(4, iv 0), (5, iv (x1))] rfl fun rest => ?_
  refine TL_nil <| T_ret ?_
  obtain ⟨rfl, rfl⟩ := inj2 H
  exact Ret2 (t := 4) (t' := 5) (ts := []) () Tryz.results240 rfl (And.intro (show InR (0) by decide) hk1) (fun S w h => trivial)
 replace H := if_t h1 H
 refine TL_mv 0 [(0, iv (a0)), (1, iv (a1)), (6, iv (x1)), (15, .bool false)] rfl fun rest => TL_nil <| T_cond_false rfl <| T_skip <| T_seq <| T_region ?_
 refine TL_mv 3 [(1, iv (a1)), (17, iv (a1)), (18, iv (a0)), (19, iv (a1))] rfl fun rest => ?_
 obtain ⟨x2, he2, H⟩ := bd_s H
 refine TL_step rfl rfl (oe_call (by kernel_rfl) (c_fp_Red fu a0 qa0 a1 qa1 x2 he2) rfl (fun S w h => trivial)) fun _ hk2 => TL_mv 4 [(1, iv (a1)), (7, iv (a1)), (8, iv (x2)), (9, iv 0), (10, iv 1)] rfl fun rest => TL_nil <| T_seq <| T_label <| T_seq ?_
 refine T_block ?_
 obtain ⟨s1, hL, Hc⟩ := bd_s H
 refine T_X [(.x 0, JQ we Se (G := Int) (fun i13 => (⟨[], [], [(1, iv (a1)), (10, iv (i13))]⟩ : Inv)) (fun i13 => .inl i13 = s1 ∧ InR i13)), (.r, JQ we Se (G := Unit) (fun _ => (⟨[], [], [(4, iv 0), (5, iv 3)]⟩ : Inv)) (fun _ => .inr () = s1))] ?_ ⟨?_, ?_, trivial⟩
 ·refine T_loop_s (G := Nat × Int × Int × Int × Int) (s1 := _) (f := _) (k := fun (n1, i9, i10, i11, i12) => n1) (σ := fun (n1, i9, i10, i11, i12) => (i9, i10, i11, i12)) (fun (n1, i9, i10, i11, i12) => (⟨[], [], [(1, iv (a1)), (7, iv (i9)), (8, iv (i10)), (9, iv (i11)), (10, iv (i12))]⟩ : Inv)) (fun (n1, i9, i10, i11, i12) => InR i9 ∧ InR i10 ∧ InR i11 ∧ InR i12) (fu, a1, x2, 0, 1) hL (And.intro qa1 (And.intro hk2 (And.intro (show InR (0) by decide) (show InR (1) by decide)))) rfl (fun w h => St.weak h (fun S w h => trivial)) ?_
  rintro ⟨n1, i9, i10, i11, i12⟩ ⟨H, hr9, hr10, hr11, hr12⟩ rest
  rcases n1 with _ | n1
  ·exact (loopN_z H).elim
  replace H := loopN_s H
  unfold B_fp_Inv_0 at H
  refine T_prune [(1, iv (a1)), (7, iv (i9)), (8, iv (i10)), (9, iv (i11)), (10, iv (i12))] rfl fun rest => T_weak [] [] (fun w h => h) <| T_block <| T_seq <| T_seq <| T_region ?_
  refine TL_mv 1 [(1, iv (a1)), (7, iv (i9)), (8, iv (i10)), (9, iv (i11)), (10, iv (i12)), (21, iv (i10))] rfl fun rest => TL_nil <| T_block <| T_seq <| T_region <| TL_eql rfl rfl rfl rfl (fun h2 => ?_) (fun h2 => ?_)
  ·replace H := if_t h2 H
   refine TL_mv 1 [(1, iv (a1)), (7, iv (i9)), (8, iv (i10)), (9, iv (i11)), (10, iv (i12)), (21, iv (i10)), (22, .bool true)] rfl fun rest => TL_nil <| T_cond_true rfl <| T_seq <| T_region <| TL_mv 2 [(4, iv 0), (5, iv 3)] rfl fun rest => ?_
   refine TL_nil <| T_ret ?_
   exact JQ_mk () (Option.some.inj H) rfl (fun w h => St.weak h (fun S w h => trivial))
  replace H := if_f h2 H
  refine TL_mv 1 [(1, iv (a1)), (7, iv (i9)), (8, iv (i10)), (9, iv (i11)), (10, iv (i12)), (21, iv (i10)), (22, .bool false)] rfl fun rest => TL_nil <| T_cond_false rfl <| T_seq <| T_region <| TL_eql rfl rfl rfl rfl (fun h3 => ?_) (fun h3 => ?_)
  ·replace H := if_t h3 H
   refine TL_mv 1 [(1, iv (a1)), (7, iv (i9)), (8, iv (i10)), (9, iv (i11)), (10, iv (i12)), (24, .bool true)] rfl fun rest => TL_nil <| T_cond_true rfl <| T_exit ?_
   exact JQ_mk i12 (And.intro (Option.some.inj H) hr12) rfl (fun w h => St.weak h (fun S w h => trivial))
  replace H := if_f h3 H
  refine TL_mv 1 [(1, iv (a1)), (7, iv (i9)), (8, iv (i10)), (9, iv (i11)), (10, iv (i12)), (24, .bool false)] rfl fun rest => TL_nil <| T_cond_false rfl <| T_skip <| T_seq <| T_region ?_
  refine TL_mv 2 [(1, iv (a1)), (7, iv (i9)), (8, iv (i10)), (9, iv (i11)), (10, iv (i12)), (26, iv (i9)), (27, iv (i10))] rfl fun rest => ?_
  obtain ⟨h01, H⟩ := ck_s H
  obtain ⟨x3, hx3, hrx3, H⟩ := ck64_s H
  refine TL_val rfl rfl (r_quo (c := x3) rfl rfl h01 (w_x hx3 hrx3)) <| TL_mv 1 [(1, iv (a1)), (7, iv (i9)), (8, iv (i10)), (9, iv (i11)), (10, iv (i12)), (11, iv (x3))] rfl fun rest => TL_nil <| T_region <| TL_mv 4 [(1, iv (a1)), (9, iv (i11)), (10, iv (i12)), (11, iv (x3)), (29, iv (i10)), (30, iv (i9)), (31, iv (x3)), (32, iv (i10))] rfl fun rest => ?_
  obtain ⟨x4, hx4, hrx4, H⟩ := ck64_s H
  refine TL_val rfl rfl (r_mul (c := x4) rfl rfl (w_x hx4 hrx4)) ?_
  obtain ⟨x5, hx5, hrx5, H⟩ := ck64_s H
  refine TL_val rfl rfl (r_sub (c := x5) rfl rfl (w_x hx5 hrx5)) <| TL_mv 4 [(1, iv (a1)), (29, iv (i10)), (34, iv (x5)), (35, iv (i12)), (36, iv (i11)), (37, iv (x3)), (38, iv (i12))] rfl fun rest => ?_
  obtain ⟨x6, hx6, hrx6, H⟩ := ck64_s H
  refine TL_val rfl rfl (r_mul (c := x6) rfl rfl (w_x hx6 hrx6)) ?_
  obtain ⟨x7, hx7, hrx7, H⟩ := ck64_s H
  refine TL_val rfl rfl (r_sub (c := x7) rfl rfl (w_x hx7 hrx7)) <| TL_mv 4 [(1, iv (a1)), (7, iv (i10)), (8, iv (x5)), (9, iv (i12)), (10, iv (x7))] rfl fun rest => TL_nil ?_
  exact St_round_s (n1, i10, x5, i12, x7) H (And.intro hr10 (And.intro hrx5 (And.intro hr12 hrx7))) (Nat.lt_succ_self _) rfl (fun w h => St.weak h (fun S w h => trivial))
 ·refine JQ_el' ?_
  rintro i13 ⟨hs, hr13⟩ rest
  subst hs
  replace H := Hc
  clear hL
  refine JG_to (ms' := []) (Γ' := []) (live' := [(1, iv (a1)), (10, iv (i13))]) rfl <| T_seq <| T_region <| TL_mv 2 [(41, iv (i13)), (42, iv (a1))] rfl fun rest => ?_
  obtain ⟨x8, he3, H⟩ := bd_s H
  refine TL_step rfl rfl (oe_call (by kernel_rfl) (c_fp_Red fu i13 hr13 a1 qa1 x8 he3) rfl (fun S w h => trivial)) fun _ hk3 => TL_mv 2 [(4, iv (x8)), (5, iv 0)] rfl fun rest => TL_nil <| T_ret ?_
  obtain ⟨rfl, rfl⟩ := inj2 H
  exact Ret2 (t := 4) (t' := 5) (ts := []) () Tryz.results240 rfl (And.intro hk3 (show InR (0) by decide)) (fun S w h => trivial)
 refine JQ_el' ?_
 rintro _ hs rest
 subst hs
 replace H := Hc
 clear hL
 refine JG_to (ms' := []) (Γ' := []) (live' := [(4, iv 0), (5, iv 3)]) rfl ?_
 obtain ⟨rfl, rfl⟩ := inj2 H
 exact Ret2 (t := 4) (t' := 5) (ts := []) () Tryz.results240 rfl (And.intro (show InR (0) by decide) (show InR (3) by decide)) (fun S w h => trivial)
set_option maxRecDepth 100000 in
set_option maxHeartbeats 1000000 in
theorem c_fpoly_plain (fu : Nat) (a0 : List Int) (va0 : Value) (a1 : Int) (qa1 : InR a1) (r0 : List Int) (H : M_fpoly_plain fu a0 a1 = some r0) : FnG Tryz.prog 184 [va0, iv a1].toArray [] [fV (eS eI) (a0) va0] (fun u : Value => u) (fun u => [mO eI 3 u (r0)]) (fun u => []) (fun _ => True) := by
 unfold M_fpoly_plain at H
 refine FnG_intro Tryz.func184 rfl rfl fun we Se F G rest => T_seq <| T_region <| TL_mv 1 [(0, va0), (1, iv (a1))] rfl fun rest => TL_nil <| T_seq ?_
 refine T_region <| TL_mv 1 [(0, va0), (1, iv (a1)), (8, va0)] rfl fun rest => TL_step rfl rfl (oe_len (e := eI) (xs := a0) Tryz.underlying51 rfl (fun S w h => h.1)) fun _ hl1 => ?_
 obtain ⟨hk1, H⟩ := ck_s H
 obtain ⟨t1, ht1, H⟩ := nm_s H
 refine TL_og rfl rfl (og_make' (e := eI) (z := 0) (xs := t1) (n := a0.length) Tryz.underlying51 ty3 rfl rfl (by decide) hk1 (fun S w => z3 S w) ht1) fun b1 _ => ?_
 show TL _ _ _ _ (mB (rowT eI a0.length) 3 b1 (t1) :: F) (fV (eS eI) (a0) va0 :: G) _ _ _ _
 refine TL_mv 1 [(0, va0), (1, iv (a1)), (5, .slice (some ⟨b1, 0, none⟩) a0.length a0.length)] rfl fun rest => TL_nil <| T_seq <| T_seq <| T_region <| TL_mv 1 [(1, iv (a1)), (5, .slice (some ⟨b1, 0, none⟩) a0.length a0.length), (11, va0)] rfl fun rest => ?_
 refine TL_step rfl rfl (oe_len (e := eI) (xs := a0) Tryz.underlying51 rfl (fun S w h => h.1)) fun _ hl2 => TL_mv 1 [(1, iv (a1)), (5, .slice (some ⟨b1, 0, none⟩) a0.length a0.length), (11, va0), (12, iv ((a0.length : Nat) : Int)), (13, iv 0)] rfl fun rest => TL_nil <| T_block ?_
 obtain ⟨s1, hL, Hc⟩ := bd_s H
 refine T_X [(.x 0, JQ we Se (G := List Int) (fun t5 => (⟨(mB (rowT eI a0.length) 3 b1 (t5) :: F), (G), [(5, .slice (some ⟨b1, 0, none⟩) a0.length a0.length)]⟩ : Inv)) (fun t5 => t5 = s1 ∧ t5.length = a0.length))] ?_ ⟨?_, trivial⟩
 ·refine T_loop_s (G := Nat × Int × (List Int)) (s1 := _) (f := _) (k := fun (n1, i3, t4) => n1) (σ := fun (n1, i3, t4) => (i3, t4)) (fun (n1, i3, t4) => (⟨(mB (rowT eI a0.length) 3 b1 (t4) :: F), (fV (eS eI) (a0) va0 :: G), [(1, iv (a1)), (5, .slice (some ⟨b1, 0, none⟩) a0.length a0.length), (11, va0), (12, iv ((a0.length : Nat) : Int)), (13, iv (i3))]⟩ : Inv)) (fun (n1, i3, t4) => InR i3 ∧ t4.length = a0.length) (fu, 0, t1) hL (And.intro (show InR (0) by decide) (rep_len ht1)) rfl (fun w h => St.weak h (fun S w h => ⟨h.1, h.2⟩)) ?_
  rintro ⟨n1, i3, t4⟩ ⟨H, hr3, hz3⟩ rest
  rcases n1 with _ | n1
  ·exact (loopN_z H).elim
  replace H := loopN_s H
  unfold B_fpoly_plain_0 at H
  refine T_prune [(1, iv (a1)), (5, .slice (some ⟨b1, 0, none⟩) a0.length a0.length), (11, va0), (12, iv ((a0.length : Nat) : Int)), (13, iv (i3))] rfl fun rest => T_weak (mB (rowT eI a0.length) 3 b1 (t4) :: F) (fV (eS eI) (a0) va0 :: G) (fun w h => h) <| T_seq <| T_region <| TL_lss rfl rfl rfl rfl (fun h1 => ?_) (fun h1 => ?_)
  ·replace H := if_t h1 H
   refine TL_mv 0 [(1, iv (a1)), (5, .slice (some ⟨b1, 0, none⟩) a0.length a0.length), (11, va0), (12, iv ((a0.length : Nat) : Int)), (13, iv (i3)), (14, .bool true)] rfl fun rest => TL_nil <| T_seq <| T_cond_true rfl <| T_skip <| T_seq ?_
   refine T_block <| T_seq <| T_region <| TL_mv 1 [(1, iv (a1)), (5, .slice (some ⟨b1, 0, none⟩) a0.length a0.length), (11, va0), (12, iv ((a0.length : Nat) : Int)), (13, iv (i3)), (15, iv (i3))] rfl fun rest => ?_
   obtain ⟨j1, hj1, hlj1, H⟩ := ckI_s H
   obtain ⟨y1, hy1, H⟩ := nm_s H
   refine TL_step rfl rfl (oe_index (e := eI) (xs := a0) (k := j1) (y := y1) rfl (vi hj1) Tryz.underlying51 ty3 (getE (z := 0) hlj1 hy1) (fun S w h => h.1)) fun p1 _ => TL_step rfl rfl (oe_load_i64 (y := y1) rfl ty3 (fun S w h => h.1)) fun _ hv1 => TL_mv 2 [(1, iv (a1)), (5, .slice (some ⟨b1, 0, none⟩) a0.length a0.length), (6, iv (i3)), (7, iv (y1)), (11, va0), (12, iv ((a0.length : Nat) : Int)), (13, iv (i3))] rfl fun rest => TL_nil <| T_region <| TL_mv 4 [(1, iv (a1)), (5, .slice (some ⟨b1, 0, none⟩) a0.length a0.length), (11, va0), (12, iv ((a0.length : Nat) : Int)), (13, iv (i3)), (18, .slice (some ⟨b1, 0, none⟩) a0.length a0.length), (19, iv (i3)), (20, iv (y1)), (21, iv (a1))] rfl fun rest => ?_
   obtain ⟨x1, he1, H⟩ := bd_s H
   refine TL_step rfl rfl (oe_call (by kernel_rfl) (c_fp_Red fu y1 hv1 a1 qa1 x1 he1) rfl (fun S w h => trivial)) fun _ hk2 => ?_
   obtain ⟨j2, hj2, hlj2, H⟩ := ckI_s H
   refine TL_val rfl rfl (r_index Tryz.underlying51 ty3 rfl (vi hj2) (k := j2) (lt_of_len hlj2 hz3)) ?_
   obtain ⟨t6, ht6, H⟩ := nm_s H
   refine TL_og rfl rfl (og_store' (f := eI) (y' := x1) (z2 := t6) 0 rfl rfl rfl (Sub.rowT0 eI a0.length (t4) j2 _ (getD_some 0 (lt_of_len' (lt_of_len hlj2 hz3) hz3))) ty3 (fun S w h => (i64_fV hk2)) ht6) fun _ _ => ?_
   show TL _ _ _ _ (mB (rowT eI a0.length) 3 b1 (t6) :: F) (fP eI (y1) p1 :: fV (eS eI) (a0) va0 :: G) _ _ _ _
   refine TL_mv 0 [(1, iv (a1)), (5, .slice (some ⟨b1, 0, none⟩) a0.length a0.length), (11, va0), (12, iv ((a0.length : Nat) : Int)), (13, iv (i3))] rfl fun rest => TL_nil <| T_region ?_
   obtain ⟨x2, hx2, hrx2, H⟩ := ck64_s H
   refine TL_val rfl rfl (r_add (c := x2) rfl rfl (w_x hx2 hrx2)) <| TL_mv 1 [(1, iv (a1)), (5, .slice (some ⟨b1, 0, none⟩) a0.length a0.length), (11, va0), (12, iv ((a0.length : Nat) : Int)), (13, iv (x2))] rfl fun rest => TL_nil ?_
   exact St_round_s (n1, x2, t6) H (And.intro hrx2 (set_len ht6 hz3)) (Nat.lt_succ_self _) rfl (fun w h => St.weak h (fun S w h => ⟨h.2.1, h.2.2⟩))
  replace H := if_f h1 H
  refine TL_mv 0 [(1, iv (a1)), (5, .slice (some ⟨b1, 0, none⟩) a0.length a0.length), (11, va0), (12, iv ((a0.length : Nat) : Int)), (13, iv (i3)), (14, .bool false)] rfl fun rest => TL_nil <| T_seq <| T_cond_false rfl <| T_exit ?_
  exact JQ_mk t4 (And.intro (Option.some.inj H) hz3) rfl (fun w h => St.weak h (fun S w h => h.2))
 refine JQ_el' ?_
 rintro t5 ⟨hs, hz4⟩ rest
 subst hs
 replace H := Hc
 clear hL
 refine JG_to (ms' := (mB (rowT eI a0.length) 3 b1 (t5) :: F)) (Γ' := (G)) (live' := [(5, .slice (some ⟨b1, 0, none⟩) a0.length a0.length)]) rfl <| T_seq <| T_block ?_
 obtain ⟨s2, hL, Hc⟩ := bd_s H
 refine T_X [(.x 2, JQ we Se (G := (List Int) × Value) (fun (t10, w4) => (⟨(mO eI 3 w4 (t10) :: F), (G), [(5, w4)]⟩ : Inv)) (fun (t10, w4) => t10 = s2))] ?_ ⟨?_, trivial⟩
 ·refine T_weak_st (fun w h => close_all 0 h rfl hz4 (Nat.le_refl _) (mk_le (B := 8) (by decide) hk1)) <| T_loop_s (G := Nat × (List Int) × Value) (s1 := _) (f := _) (k := fun (n2, t9, w3) => n2) (σ := fun (n2, t9, w3) => t9) (fun (n2, t9, w3) => (⟨(mO eI 3 w3 (t9) :: F), (G), [(5, w3)]⟩ : Inv)) (fun (n2, t9, w3) => True) (fu, t5, (.slice (some ⟨b1, 0, none⟩) a0.length a0.length : Value)) hL trivial rfl (fun w h => St.weak h (fun S w h => h)) ?_
  rintro ⟨n2, t9, w3⟩ ⟨H, _⟩ rest
  rcases n2 with _ | n2
  ·exact (loopN_z H).elim
  replace H := loopN_s H
  unfold B_fpoly_plain_1 at H
  refine T_prune [(5, w3)] rfl fun rest => T_weak (mO eI 3 w3 (t9) :: F) (G) (fun w h => h) <| T_seq <| T_seq <| T_region <| TL_mv 1 [(5, w3), (25, w3)] rfl fun rest => ?_
  refine TL_step rfl rfl (oe_lenM 0 rfl Tryz.underlying51 rfl) fun _ hl3 => TL_gtr rfl rfl rfl rfl (fun h2 => ?_) (fun h2 => ?_)
  ·replace H := if_t h2 H
   refine TL_mv 3 [(5, w3), (28, .bool true), (29, w3), (30, w3)] rfl fun rest => TL_step rfl rfl (oe_lenM 0 rfl Tryz.underlying51 rfl) fun _ hl4 => ?_
   obtain ⟨x3, hx3, hrx3, H⟩ := ck64_s H
   refine TL_val rfl rfl (r_sub (c := x3) rfl rfl (w_x hx3 hrx3)) ?_
   obtain ⟨j3, hj3, hlj3, H⟩ := ckI_s H
   refine TL_openO 0 rfl (pos_of_lt hlj3) fun b2 cap1 hvb2 hcb2 hmb2 => ?_
   cases hvb2
   refine TL_val rfl rfl (r_index Tryz.underlying51 ty3 rfl (vi hj3) (k := j3) hlj3) ?_
   obtain ⟨y2, hy2, H⟩ := nm_s H
   refine TL_step rfl rfl (oe_loadM_i64 (z' := y2) 0 rfl rfl (Sub.rowT0 eI cap1 (t9) j3 _ (getE (z := 0) (lt_of_len' hlj3 rfl) hy2)) ty3) fun _ hv2 => TL_eql rfl rfl rfl rfl (fun h3 => ?_) (fun h3 => ?_)
   ·replace H := if_t h3 H
    refine TL_mv 1 [(5, .slice (some ⟨b2, 0, none⟩) t9.length cap1), (29, .slice (some ⟨b2, 0, none⟩) t9.length cap1), (30, .slice (some ⟨b2, 0, none⟩) t9.length cap1), (31, iv ((t9.length : Nat) : Int)), (32, iv (x3)), (33, .pointer (some ⟨b2, 0 + j3 * 1, none⟩)), (34, iv (y2)), (35, .bool true), (36, .bool true)] rfl fun rest => TL_nil <| T_cond_true rfl <| T_skip <| T_block <| T_region ?_
    refine TL_mv 2 [(29, .slice (some ⟨b2, 0, none⟩) t9.length cap1), (30, .slice (some ⟨b2, 0, none⟩) t9.length cap1), (31, iv ((t9.length : Nat) : Int)), (32, iv (x3)), (33, .pointer (some ⟨b2, 0 + j3 * 1, none⟩)), (34, iv (y2)), (35, .bool true), (37, .slice (some ⟨b2, 0, none⟩) t9.length cap1), (38, .slice (some ⟨b2, 0, none⟩) t9.length cap1)] rfl fun rest => TL_val rfl rfl (r_len Tryz.underlying51 rfl) ?_
    obtain ⟨x4, hx4, hrx4, H⟩ := ck64_s H
    refine TL_val rfl rfl (r_sub (c := x4) rfl rfl (w_x hx4 hrx4)) ?_
    obtain ⟨j4, hj4, H⟩ := ckN_s H
    obtain ⟨hk3, H⟩ := ck_s H
    obtain ⟨t11, ht11, H⟩ := nm_s H
    refine TL_val rfl rfl (r_sliceT (h := j4) rfl Tryz.underlying51 ty3 (vi hj4) (Nat.le_trans hk3 hcb2)) <| TL_mv 1 [(5, .slice (some ⟨b2, 0, none⟩) j4 cap1), (29, .slice (some ⟨b2, 0, none⟩) t9.length cap1), (30, .slice (some ⟨b2, 0, none⟩) t9.length cap1), (31, iv ((t9.length : Nat) : Int)), (32, iv (x3)), (33, .pointer (some ⟨b2, 0 + j3 * 1, none⟩)), (34, iv (y2)), (35, .bool true)] rfl fun rest => TL_nil <| T_weak_st (fun w h => close_cut (n := j4) (ys := t11) 0 h rfl rfl hcb2 hk3 hmb2 ht11) ?_
    exact St_round_s (n2, t11, (.slice (some ⟨b2, 0, none⟩) j4 cap1 : Value)) H trivial (Nat.lt_succ_self _) rfl (fun w h => St.weak h (fun S w h => h))
   replace H := if_f h3 H
   refine TL_mv 1 [(5, .slice (some ⟨b2, 0, none⟩) t9.length cap1), (29, .slice (some ⟨b2, 0, none⟩) t9.length cap1), (30, .slice (some ⟨b2, 0, none⟩) t9.length cap1), (31, iv ((t9.length : Nat) : Int)), (32, iv (x3)), (33, .pointer (some ⟨b2, 0 + j3 * 1, none⟩)), (34, iv (y2)), (35, .bool false), (36, .bool false)] rfl fun rest => TL_nil <| T_cond_false rfl <| T_exit <| T_weak_st (fun w h => close_all 0 h rfl rfl hcb2 hmb2) ?_
   exact JQ_mk (t9, (.slice (some ⟨b2, 0, none⟩) t9.length cap1 : Value)) (Option.some.inj H) rfl (fun w h => St.weak h (fun S w h => h))
  replace H := if_f h2 H
  refine TL_mv 9 [(5, w3), (36, .bool false)] rfl fun rest => TL_nil <| T_cond_false rfl <| T_exit ?_
  exact JQ_mk (t9, w3) (Option.some.inj H) rfl (fun w h => St.weak h (fun S w h => h))
 refine JQ_el' ?_
 rintro ⟨t10, w4⟩ hs rest
 subst hs
 replace H := Hc
 clear hL
 refine JG_to (ms' := (mO eI 3 w4 (t10) :: F)) (Γ' := (G)) (live' := [(5, w4)]) rfl <| T_seq <| T_region <| TL_mv 2 [(4, w4)] rfl fun rest => TL_nil <| T_ret ?_
 obtain rfl := inj1 H
 intro w hw
 exact RetG (vs := [w4]) w4 Tryz.results184 (by exact ⟨rfl, trivial⟩) rfl trivial (St.weak hw (fun S w h => h))
end Go.Proofs.YtjnjfinbdfolkaaGreat
end

