/- What a proof needs: rules of walking, mirrors of functions and their plain laws. No condition. -/
import Derived.Test.YtjnjfinbdfolkaaGreatHp6
section
set_option linter.unusedVariables false
set_option linter.unusedSimpArgs false
namespace Go.Proofs.YtjnjfinbdfolkaaGreat
set_option maxRecDepth 100000 in
set_option maxHeartbeats 1000000 in
theorem c_hensel_divided (fu : Nat) (a0 : List Zr) (va0 : Value) (a1 : List Zr) (va1 : Value) (a2 : Zr) (va2 : Value) (r0 : List Zr) (r1 : List Zr) (H : M_hensel_divided fu a0 a1 a2 = some (r0, r1)) : FnG Tryz.prog 102 [va0, va1, va2].toArray [] [fV (eS eZ) (a0) va0, fV (eS eZ) (a1) va1, fV eZ (a2) va2] (fun u : Value × Value => .tuple #[u.1, u.2]) (fun u => [mO eZ 25 u.2 (r1)]) (fun u => [fV (eS eZ) (r0) u.1]) (fun _ => True) := by
 unfold M_hensel_divided at H
 refine FnG_intro Tryz.func102 rfl rfl fun we Se F G rest => T_seq <| T_region <| TL_step rfl rfl (oe_box (e := eZ) (z := a2) rfl (fun S w h => h.2.2.1)) fun p1 _ => TL_mv 2 [(0, va0), (1, va1), (5, p1)] rfl fun rest => TL_nil ?_
 refine T_seq <| T_region <| TL_mv 1 [(1, va1), (5, p1), (13, va0)] rfl fun rest => TL_step rfl rfl (oe_load (e := eZ) (y := a2) rfl ty25 (fun S w h => h.1)) fun u1 _ => ?_
 obtain ⟨t1, he1, H⟩ := bd_s H
 refine TL_og rfl rfl (og_callG (F := (F)) (by kernel_rfl) (c_hensel_red fu a0 va0 a2 u1 t1 he1) rfl (fun S w h => ⟨h.2.2.1, h.1, trivial⟩)) fun u2 _ => ?_
 show TL _ _ _ _ (mO eZ 25 u2 (t1) :: F) (fV eZ (a2) u1 :: fP eZ (a2) p1 :: fV (eS eZ) (a0) va0 :: fV (eS eZ) (a1) va1 :: fV eZ (a2) va2 :: G) _ _ _ _
 refine TL_mv 1 [(1, va1), (5, p1), (8, u2)] rfl fun rest => TL_nil <| T_seq <| T_region <| TL_mv 1 [(1, va1), (5, p1), (8, u2), (16, u2)] rfl fun rest => TL_step rfl rfl (oe_lenM 0 rfl Tryz.underlying31 rfl) fun _ hl1 => ?_
 refine TL_mv 1 [(1, va1), (5, p1), (8, u2), (17, iv ((t1.length : Nat) : Int)), (18, va1)] rfl fun rest => TL_step rfl rfl (oe_len (e := eZ) (xs := a1) Tryz.underlying31 rfl (fun S w h => h.2.2.2.1)) fun _ hl2 => ?_
 obtain ⟨x1, hx1, hrx1, H⟩ := ck64_s H
 refine TL_val rfl rfl (r_sub (c := x1) rfl rfl (w_x hx1 hrx1)) ?_
 obtain ⟨x2, hx2, hrx2, H⟩ := ck64_s H
 refine TL_val rfl rfl (r_add (c := x2) rfl rfl (w_x hx2 hrx2)) ?_
 obtain ⟨x3, hx3, H⟩ := nm_s H
 refine TL_val rfl rfl (v_i (z := x3) (r_max rfl rfl) hx3) ?_
 obtain ⟨j1, hj1, H⟩ := ckN_s H
 obtain ⟨hk1, H⟩ := ck_s H
 obtain ⟨t2, ht2, H⟩ := nm_s H
 refine TL_og rfl rfl (og_make' (e := eZ) (z := (false, [])) (xs := t2) (n := j1) Tryz.underlying31 ty25 (vi hj1) (vi hj1) (by decide) hk1 (fun S w => z25 S w) ht2) fun b1 _ => ?_
 show TL _ _ _ _ (mB (rowT eZ j1) 25 b1 (t2) :: mO eZ 25 u2 (t1) :: F) (fV eZ (a2) u1 :: fP eZ (a2) p1 :: fV (eS eZ) (a0) va0 :: fV (eS eZ) (a1) va1 :: fV eZ (a2) va2 :: G) _ _ _ _
 refine TL_mv 1 [(1, va1), (5, p1), (8, u2), (9, .slice (some ⟨b1, 0, none⟩) j1 j1)] rfl fun rest => TL_nil <| T_seq <| T_seq <| T_region <| TL_mv 1 [(1, va1), (5, p1), (8, u2), (9, .slice (some ⟨b1, 0, none⟩) j1 j1), (24, .slice (some ⟨b1, 0, none⟩) j1 j1)] rfl fun rest => ?_
 refine TL_val rfl rfl (r_len Tryz.underlying31 rfl) ?_
 obtain ⟨x4, hx4, hrx4, H⟩ := ck64_s H
 refine TL_val rfl rfl (r_sub (c := x4) rfl rfl (w_x hx4 hrx4)) <| TL_mv 1 [(1, va1), (5, p1), (8, u2), (9, .slice (some ⟨b1, 0, none⟩) j1 j1), (10, iv (x4))] rfl fun rest => TL_nil <| T_block ?_
 obtain ⟨s1, hL, Hc⟩ := bd_s H
 refine T_X [(.x 0, JQ we Se (G := (List Zr) × (List Zr) × Value) (fun (t10, t9, w4) => (⟨(mO eZ 25 w4 (t10) :: mB (rowT eZ j1) 25 b1 (t9) :: F), (fP eZ (a2) p1 :: G), [(5, p1), (8, w4), (9, .slice (some ⟨b1, 0, none⟩) j1 j1)]⟩ : Inv)) (fun (t10, t9, w4) => (t10, t9) = s1 ∧ t9.length = j1))] ?_ ⟨?_, trivial⟩
 ·refine T_loop_s (G := Nat × (List Zr) × Int × (List Zr) × Value) (s1 := _) (f := _) (k := fun (n1, t8, i3, t7, w3) => n1) (σ := fun (n1, t8, i3, t7, w3) => (t8, i3, t7)) (fun (n1, t8, i3, t7, w3) => (⟨(mO eZ 25 w3 (t8) :: mB (rowT eZ j1) 25 b1 (t7) :: F), (fP eZ (a2) p1 :: fV (eS eZ) (a1) va1 :: G), [(1, va1), (5, p1), (8, w3), (9, .slice (some ⟨b1, 0, none⟩) j1 j1), (10, iv (i3))]⟩ : Inv)) (fun (n1, t8, i3, t7, w3) => InR i3 ∧ t7.length = j1) (fu, t1, x4, t2, u2) hL (And.intro hrx4 (rep_len ht2)) rfl (fun w h => St.weak (St.front 1 (St.front 0 h rfl) rfl) (fun S w h => ⟨h.2.1, h.2.2.2.1, h.2.2.2.2.2⟩)) ?_
  rintro ⟨n1, t8, i3, t7, w3⟩ ⟨H, hr3, hz3⟩ rest
  rcases n1 with _ | n1
  ·exact (loopN_z H).elim
  replace H := loopN_s H
  unfold B_hensel_divided_0 at H
  refine T_prune [(1, va1), (5, p1), (8, w3), (9, .slice (some ⟨b1, 0, none⟩) j1 j1), (10, iv (i3))] rfl fun rest => T_weak (mO eZ 25 w3 (t8) :: mB (rowT eZ j1) 25 b1 (t7) :: F) (fP eZ (a2) p1 :: fV (eS eZ) (a1) va1 :: G) (fun w h => h) <| T_seq <| T_seq <| T_region <| TL_mv 1 [(1, va1), (5, p1), (8, w3), (9, .slice (some ⟨b1, 0, none⟩) j1 j1), (10, iv (i3)), (27, iv (i3))] rfl fun rest => ?_
  refine TL_geq rfl rfl rfl rfl (fun h1 => ?_) (fun h1 => ?_)
  ·replace H := if_t h1 H
   refine TL_mv 0 [(1, va1), (5, p1), (8, w3), (9, .slice (some ⟨b1, 0, none⟩) j1 j1), (10, iv (i3)), (28, .bool true)] rfl fun rest => TL_nil <| T_cond_true rfl <| T_skip <| T_seq <| T_block ?_
   refine T_seq ?_
   obtain ⟨x5, hx5, hrx5, H⟩ := ck64_s H
   obtain ⟨x6, hx6, hrx6, H⟩ := ck64_s H
   obtain ⟨j2, hj2, hlj2, H⟩ := ckI_s H
   refine T_openO 0 rfl (pos_of_lt hlj2) fun b2 cap1 hvb2 hcb2 hmb2 => ?_
   cases hvb2
   obtain ⟨y1, hy1, H⟩ := nm_s H
   obtain ⟨⟨t11, x7⟩, he2, H⟩ := bd_s H
   obtain ⟨j3, hj3, hlj3, H⟩ := ckI_s H
   obtain ⟨t12, ht12, H⟩ := nm_s H
   refine T_weak_st (fun w h => St.front 1 h rfl) <| T_weak (mB (rowT eZ j1) 25 b1 (t7) :: mB (rowT eZ cap1) 25 b2 (t8) :: F) (fP eZ (a2) p1 :: fV (eS eZ) (a1) va1 :: G) (fun w h => h) <| T_any (mE := (mB (rowT eZ cap1) 25 b2 (t8) :: F)) 17 [prV (.slice (some ⟨b1, 0, none⟩) j1 j1), prE (fun _ : Unit => iv (i3)) (fun _ => []) (fun _ => InR i3), prV (.slice (some ⟨b2, 0, none⟩) t8.length cap1), prE (fun _ : Unit => iv (i3)) (fun _ => []) (fun _ => InR i3), prV (va1), prE (fun _ : Unit => iv ((a1.length : Nat) : Int)) (fun _ => []) (fun _ => a1.length ≤ 9223372036854775807), prE (fun _ : Unit => iv (x5)) (fun _ => []) (fun _ => InR x5), prE (fun _ : Unit => iv (x6)) (fun _ => []) (fun _ => InR x6), prV (.pointer (some ⟨b2, 0 + j2 * 2, none⟩)), prE (fun u : Value => u) (fun u => [fV eZ (y1) u]) (fun _ => True), prE (fun u : Value => u) (fun u => [fV eZ (a2) u]) (fun _ => True), prE (fun u : Value => .tuple #[u, iv (x7)]) (fun u => [fV eZ (t11) u]) (fun _ => InR x7), prE (fun u : Value => .tuple #[u, iv (x7)]) (fun u => [fV eZ (t11) u]) (fun _ => InR x7), prE (fun u : Value => u) (fun u => [fV eZ (t11) u]) (fun _ => True), prE (fun _ : Unit => iv (x7)) (fun _ => []) (fun _ => InR x7), prV (.pointer (some ⟨b1, 0 + j3 * 2, none⟩)), prT] [none, none, none, none, none, none, none, none, none, none, none, none, none, none, none, none, some (0, true)] [⟨none, 1000000, some 16, fun b v => bif b then mB (rowT eZ j1) 25 b1 (t12) else mB (rowT eZ j1) 25 b1 (t7)⟩] [1, 5, 8, 9, 10] rfl (by kernel_rfl) rfl rfl (by kernel_rfl) rfl (by kernel_rfl) ⟨?_, ?_, ?_, ?_, ?_, ?_, ?_, ?_, ?_, ?_, ?_, ?_, ?_, ?_, ?_, ?_, ?_, trivial⟩ ?_
   ·intro S w env hS hM hΓ hl
    obtain ⟨e9, _⟩ := hl
    exact ⟨fun _ => ob_mv (e9.trans rfl), fun hc => (by cases hc)⟩
   ·intro S w env hS hM hΓ hl
    obtain ⟨e10, _⟩ := hl
    exact ⟨fun _ => ob_VE (p := InR i3) (r_mv (e10.trans rfl)) hr3, fun hc => (by cases hc)⟩
   ·intro S w env hS hM hΓ hl
    obtain ⟨e8, _⟩ := hl
    exact ⟨fun _ => ob_mv (e8.trans rfl), fun hc => (by cases hc)⟩
   ·intro S w env hS hM hΓ hl
    obtain ⟨e10, _⟩ := hl
    exact ⟨fun _ => ob_VE (p := InR i3) (r_mv (e10.trans rfl)) hr3, fun hc => (by cases hc)⟩
   ·intro S w env hS hM hΓ hl
    obtain ⟨e1, _⟩ := hl
    exact ⟨fun _ => ob_mv (e1.trans rfl), fun hc => (by cases hc)⟩
   ·intro S w env hS hM hΓ hl
    obtain ⟨e36, _⟩ := hl
    exact ⟨fun _ => ob_E (Γ := (fP eZ (a2) p1 :: fV (eS eZ) (a1) va1 :: G)) (oe_len (e := eZ) (xs := a1) Tryz.underlying31 e36 (fun S w h => h.2.1)) hS hM hΓ, fun hc => (by cases hc)⟩
   ·intro S w env hS hM hΓ hl
    obtain ⟨⟨_, e35, ho2, f35⟩, ⟨_, e37, hl3, f37⟩, _⟩ := hl
    exact ⟨fun _ => ob_VE (p := InR x5) (r_add (c := x5) e35 e37 (w_x hx5 hrx5)) hrx5, fun hc => (by cases hc)⟩
   ·intro S w env hS hM hΓ hl
    obtain ⟨⟨_, e38, ho3, f38⟩, _⟩ := hl
    exact ⟨fun _ => ob_VE (p := InR x6) (r_sub (c := x6) e38 rfl (w_x hx6 hrx6)) hrx6, fun hc => (by cases hc)⟩
   ·intro S w env hS hM hΓ hl
    obtain ⟨e34, ⟨_, e39, ho4, f39⟩, _⟩ := hl
    exact ⟨fun _ => ob_V (r_index Tryz.underlying31 ty25 e34 (e39.trans (vi hj2)) (k := j2) (lt_of_len hlj2 rfl)), fun hc => (by cases hc)⟩
   ·intro S w env hS hM hΓ hl
    obtain ⟨e40, _⟩ := hl
    exact ⟨fun _ => ob_E (Γ := (fP eZ (a2) p1 :: fV (eS eZ) (a1) va1 :: G)) (oe_loadM (z' := y1) 0 rfl e40 (Sub.rowT0 eZ cap1 (t8) j2 _ (getE (z := (false, [])) (lt_of_len' (lt_of_len hlj2 rfl) rfl) hy1)) ty25) hS hM hΓ, fun hc => (by cases hc)⟩
   ·intro S w env hS hM hΓ hl
    obtain ⟨e5, _⟩ := hl
    exact ⟨fun _ => ob_E (Γ := (fP eZ (a2) p1 :: fV (eS eZ) (a1) va1 :: G)) (oe_load (e := eZ) (y := a2) (e5.trans rfl) ty25 (fun S w h => h.1)) hS hM hΓ, fun hc => (by cases hc)⟩
   ·intro S w env hS hM hΓ hl
    obtain ⟨⟨u3, e41, _, f41⟩, ⟨u4, e42, _, f42⟩, _⟩ := hl
    exact ⟨fun _ => ob_E (Γ := (fV eZ (y1) u3 :: fV eZ (a2) u4 :: fP eZ (a2) p1 :: fV (eS eZ) (a1) va1 :: G)) (oe_call (by kernel_rfl) (c_prime_Rest fu y1 u3 a2 u4 t11 x7 he2) (la_cons e41 (la_cons e42 la_nil)) (fun S w h => ⟨h.1, h.2.1, trivial⟩)) hS hM ⟨f41.1, f42.1, hΓ⟩, fun hc => (by cases hc)⟩
   ·intro S w env hS hM hΓ hl
    obtain ⟨⟨u5, e43, hk2, f43⟩, _⟩ := hl
    exact ⟨fun _ => ob_any u5 (r_mv e43) hk2 ⟨f43.1, trivial⟩, fun hc => (by cases hc)⟩
   ·intro S w env hS hM hΓ hl
    obtain ⟨⟨u6, e31, ho5, f31⟩, _⟩ := hl
    exact ⟨fun _ => ob_opq (r_ex e31 rfl) ⟨f31.1, trivial⟩, fun hc => (by cases hc)⟩
   ·intro S w env hS hM hΓ hl
    obtain ⟨⟨u6, e31, ho5, f31⟩, _⟩ := hl
    exact ⟨fun _ => ob_VE (p := InR x7) (r_ex e31 rfl) ho5, fun hc => (by cases hc)⟩
   ·intro S w env hS hM hΓ hl
    obtain ⟨e32, ⟨_, e33, ho1, f33⟩, _⟩ := hl
    exact ⟨fun _ => ob_V (r_index Tryz.underlying31 ty25 e32 (e33.trans (vi hj3)) (k := j3) (lt_of_len hlj3 hz3)), fun hc => (by cases hc)⟩
   ·refine ⟨rfl, rfl, fun r hr => ?_⟩
    cases hr
    intro env F G w hst
    have hst : St we Se (mB (rowT eZ j1) 25 b1 (t7) :: F) (fHold _ _ env [46, 44] :: _) w := hst
    obtain ⟨e46, hst⟩ := St.openV hst rfl
    obtain ⟨u7, e44, _, hst⟩ := St.openE hst rfl
    refine ((og_store' (f := eZ) (y' := t11) (z2 := t12) 0 (by exact rfl) (by exact e46) (by exact e44) (Sub.rowT0 eZ j1 (t7) j3 _ (getD_some ((false, [])) (lt_of_len' (lt_of_len hlj3 hz3) hz3))) ty25 (by exact fun S w h => h.2.1) ht12) w hst).mono ?_
    rintro v w' ⟨_, _, _, h3⟩
    exact St.weak h3 fun S w h => h.2.2
   intro env w hst
   have hst : St we Se _ (fHold _ _ env [1, 5, 8, 9, 10] :: _) w := hst
   obtain ⟨e1, hst⟩ := St.open0 hst rfl rfl
   obtain ⟨e5, hst⟩ := St.open0 hst rfl rfl
   obtain ⟨e8, hst⟩ := St.open0 hst rfl rfl
   obtain ⟨e9, hst⟩ := St.open0 hst rfl rfl
   obtain ⟨e10, hst⟩ := St.open0 hst rfl rfl
   refine fin_TL (ms' := (mB (rowT eZ j1) 25 b1 (t12) :: mB (rowT eZ cap1) 25 b2 (t8) :: F)) (Γ' := (fP eZ (a2) p1 :: fV (eS eZ) (a1) va1 :: G)) [(1, va1), (5, p1), (8, .slice (some ⟨b2, 0, none⟩) t8.length cap1), (9, .slice (some ⟨b1, 0, none⟩) j1 j1), (10, iv (i3))] (agr ⟨(e1.trans rfl), (e5.trans rfl), (e8.trans rfl), (e9.trans rfl), (e10.trans rfl), trivial⟩) (St.weak hst fun S w h => h.2) fun rest => TL_nil <| T_seq <| T_region <| TL_mv 1 [(1, va1), (5, p1), (8, .slice (some ⟨b2, 0, none⟩) t8.length cap1), (9, .slice (some ⟨b1, 0, none⟩) j1 j1), (10, iv (i3)), (47, va1)] rfl fun rest => TL_step rfl rfl (oe_len (e := eZ) (xs := a1) Tryz.underlying31 rfl (fun S w h => h.2.1)) fun _ hl4 => ?_
   refine TL_mv 1 [(1, va1), (5, p1), (8, .slice (some ⟨b2, 0, none⟩) t8.length cap1), (9, .slice (some ⟨b1, 0, none⟩) j1 j1), (10, iv (i3)), (47, va1), (48, iv ((a1.length : Nat) : Int)), (49, iv 0)] rfl fun rest => TL_nil <| T_block ?_
   obtain ⟨s2, hL, Hc⟩ := bd_s H
   refine T_X [(.x 2, JQ we Se (G := List Zr) (fun t16 => (⟨(mB (rowT eZ j1) 25 b1 (t12) :: mB (rowT eZ cap1) 25 b2 (t16) :: F), (fP eZ (a2) p1 :: fV (eS eZ) (a1) va1 :: G), [(1, va1), (5, p1), (8, .slice (some ⟨b2, 0, none⟩) t8.length cap1), (9, .slice (some ⟨b1, 0, none⟩) j1 j1), (10, iv (i3))]⟩ : Inv)) (fun t16 => t16 = s2 ∧ t16.length = t8.length))] ?_ ⟨?_, trivial⟩
   ·refine T_loop_s (G := Nat × Int × (List Zr)) (s1 := _) (f := _) (k := fun (n2, i6, t15) => n2) (σ := fun (n2, i6, t15) => (i6, t15)) (fun (n2, i6, t15) => (⟨(mB (rowT eZ j1) 25 b1 (t12) :: mB (rowT eZ cap1) 25 b2 (t15) :: F), (fP eZ (a2) p1 :: fV (eS eZ) (a1) va1 :: G), [(1, va1), (5, p1), (8, .slice (some ⟨b2, 0, none⟩) t8.length cap1), (9, .slice (some ⟨b1, 0, none⟩) j1 j1), (10, iv (i3)), (47, va1), (48, iv ((a1.length : Nat) : Int)), (49, iv (i6))]⟩ : Inv)) (fun (n2, i6, t15) => InR i6 ∧ t15.length = t8.length) (fu, 0, t8) hL (And.intro (show InR (0) by decide) rfl) rfl (fun w h => St.weak h (fun S w h => ⟨h.1, h.2.1, h.2.2⟩)) ?_
    rintro ⟨n2, i6, t15⟩ ⟨H, hr6, hz7⟩ rest
    rcases n2 with _ | n2
    ·exact (loopN_z H).elim
    replace H := loopN_s H
    unfold B_hensel_divided_1 at H
    refine T_prune [(1, va1), (5, p1), (8, .slice (some ⟨b2, 0, none⟩) t8.length cap1), (9, .slice (some ⟨b1, 0, none⟩) j1 j1), (10, iv (i3)), (47, va1), (48, iv ((a1.length : Nat) : Int)), (49, iv (i6))] rfl fun rest => T_weak (mB (rowT eZ j1) 25 b1 (t12) :: mB (rowT eZ cap1) 25 b2 (t15) :: F) (fP eZ (a2) p1 :: fV (eS eZ) (a1) va1 :: G) (fun w h => h) <| T_seq ?_
    obtain ⟨s3, hL, Hc⟩ := bd_s H
    refine T_X [(.n, JQ we Se (G := Bool) (fun b3 => (⟨(mB (rowT eZ j1) 25 b1 (t12) :: mB (rowT eZ cap1) 25 b2 (t15) :: F), (fP eZ (a2) p1 :: fV (eS eZ) (a1) va1 :: G), [(1, va1), (5, p1), (8, .slice (some ⟨b2, 0, none⟩) t8.length cap1), (9, .slice (some ⟨b1, 0, none⟩) j1 j1), (10, iv (i3)), (47, va1), (48, iv ((a1.length : Nat) : Int)), (49, iv (i6)), (50, .bool (b3))]⟩ : Inv)) (fun b3 => b3 = s3))] ?_ ⟨?_, trivial⟩
    ·replace H := hL
     refine T_region <| TL_lss rfl rfl rfl rfl (fun h2 => ?_) (fun h2 => ?_)
     ·replace H := if_t h2 H
      refine TL_mv 0 [(1, va1), (5, p1), (8, .slice (some ⟨b2, 0, none⟩) t8.length cap1), (9, .slice (some ⟨b1, 0, none⟩) j1 j1), (10, iv (i3)), (47, va1), (48, iv ((a1.length : Nat) : Int)), (49, iv (i6)), (50, .bool true)] rfl fun rest => TL_nil ?_
      exact JQ_mk true (Option.some.inj H) rfl (fun w h => St.weak h (fun S w h => ⟨h.1, h.2.1, h.2.2⟩))
     replace H := if_f h2 H
     refine TL_mv 0 [(1, va1), (5, p1), (8, .slice (some ⟨b2, 0, none⟩) t8.length cap1), (9, .slice (some ⟨b1, 0, none⟩) j1 j1), (10, iv (i3)), (47, va1), (48, iv ((a1.length : Nat) : Int)), (49, iv (i6)), (50, .bool false)] rfl fun rest => TL_nil ?_
     exact JQ_mk false (Option.some.inj H) rfl (fun w h => St.weak h (fun S w h => ⟨h.1, h.2.1, h.2.2⟩))
    refine JQ_el' ?_
    rintro b3 hs rest
    subst hs
    replace H := Hc
    clear hL
    refine JG_to (ms' := (mB (rowT eZ j1) 25 b1 (t12) :: mB (rowT eZ cap1) 25 b2 (t15) :: F)) (Γ' := (fP eZ (a2) p1 :: fV (eS eZ) (a1) va1 :: G)) (live' := [(1, va1), (5, p1), (8, .slice (some ⟨b2, 0, none⟩) t8.length cap1), (9, .slice (some ⟨b1, 0, none⟩) j1 j1), (10, iv (i3)), (47, va1), (48, iv ((a1.length : Nat) : Int)), (49, iv (i6)), (50, .bool (b3))]) rfl <| T_seq <| T_cond (b3) rfl (fun hb1 => ?_) (fun hb1 => ?_)
    ·replace H := if_t hb1 H
     refine T_skip <| T_seq <| T_block <| T_seq <| T_region <| TL_mv 1 [(1, va1), (5, p1), (8, .slice (some ⟨b2, 0, none⟩) t8.length cap1), (9, .slice (some ⟨b1, 0, none⟩) j1 j1), (10, iv (i3)), (47, va1), (48, iv ((a1.length : Nat) : Int)), (49, iv (i6)), (51, iv (i6))] rfl fun rest => ?_
     obtain ⟨j4, hj4, hlj4, H⟩ := ckI_s H
     obtain ⟨y2, hy2, H⟩ := nm_s H
     refine TL_step rfl rfl (oe_index (e := eZ) (xs := a1) (k := j4) (y := y2) rfl (vi hj4) Tryz.underlying31 ty25 (getE (z := (false, [])) hlj4 hy2) (fun S w h => h.2.1)) fun p2 _ => TL_step rfl rfl (oe_load (e := eZ) (y := y2) rfl ty25 (fun S w h => h.1)) fun u8 _ => TL_og rfl rfl (og_allocM (e := ERep.c eZ) (z := (false, [])) ty25 (fun S w => z25 S w)) fun b4 _ => ?_
     show TL _ _ _ _ (mB (ERep.c eZ) 25 b4 ((false, [])) :: mB (rowT eZ j1) 25 b1 (t12) :: mB (rowT eZ cap1) 25 b2 (t15) :: F) (fV eZ (y2) u8 :: fP eZ (y2) p2 :: fP eZ (a2) p1 :: fV (eS eZ) (a1) va1 :: G) _ _ _ _
     refine TL_mv 1 [(1, va1), (5, p1), (8, .slice (some ⟨b2, 0, none⟩) t8.length cap1), (9, .slice (some ⟨b1, 0, none⟩) j1 j1), (10, iv (i3)), (11, iv (i6)), (12, .pointer (some ⟨b4, 0, none⟩)), (47, va1), (48, iv ((a1.length : Nat) : Int)), (49, iv (i6)), (53, u8)] rfl fun rest => TL_og rfl rfl (og_store' (f := eZ) (y' := y2) (z2 := y2) 0 rfl rfl rfl (Sub.self eZ ((false, []))) ty25 (fun S w h => h.1) rfl) fun _ _ => ?_
     show TL _ _ _ _ (mB (ERep.c eZ) 25 b4 (y2) :: mB (rowT eZ j1) 25 b1 (t12) :: mB (rowT eZ cap1) 25 b2 (t15) :: F) (fV eZ (y2) u8 :: fP eZ (y2) p2 :: fP eZ (a2) p1 :: fV (eS eZ) (a1) va1 :: G) _ _ _ _
     refine TL_mv 0 [(1, va1), (5, p1), (8, .slice (some ⟨b2, 0, none⟩) t8.length cap1), (9, .slice (some ⟨b1, 0, none⟩) j1 j1), (10, iv (i3)), (11, iv (i6)), (12, .pointer (some ⟨b4, 0, none⟩)), (47, va1), (48, iv ((a1.length : Nat) : Int)), (49, iv (i6))] rfl fun rest => TL_nil ?_
     obtain ⟨x8, hx8, hrx8, H⟩ := ck64_s H
     obtain ⟨x9, hx9, hrx9, H⟩ := ck64_s H
     obtain ⟨j5, hj5, hlj5, H⟩ := ckI_s H
     obtain ⟨y3, hy3, H⟩ := nm_s H
     obtain ⟨j6, hj6, hlj6, H⟩ := ckI_s H
     obtain ⟨y4, hy4, H⟩ := nm_s H
     obtain ⟨t17, he3, H⟩ := bd_s H
     obtain ⟨t18, he4, H⟩ := bd_s H
     refine T_draw 17 [prV (.slice (some ⟨b2, 0, none⟩) t8.length cap1), prE (fun _ : Unit => iv (i3)) (fun _ => []) (fun _ => InR i3), prE (fun _ : Unit => iv (i6)) (fun _ => []) (fun _ => InR i6), prE (fun _ : Unit => iv (x8)) (fun _ => []) (fun _ => InR x8), prV (.slice (some ⟨b2, 0, none⟩) t8.length cap1), prE (fun _ : Unit => iv (i3)) (fun _ => []) (fun _ => InR i3), prE (fun _ : Unit => iv (i6)) (fun _ => []) (fun _ => InR i6), prE (fun _ : Unit => iv (x9)) (fun _ => []) (fun _ => InR x9), prV (.pointer (some ⟨b2, 0 + j5 * 2, none⟩)), prE (fun u : Value => u) (fun u => [fV eZ (y3) u]) (fun _ => True), prV (.slice (some ⟨b1, 0, none⟩) j1 j1), prE (fun _ : Unit => iv (i3)) (fun _ => []) (fun _ => InR i3), prV (.pointer (some ⟨b1, 0 + j6 * 2, none⟩)), prE (fun u : Value => u) (fun u => [fV eZ (y4) u]) (fun _ => True), prE (fun u : Value => u) (fun u => [fV eZ (y2) u]) (fun _ => True), prE (fun u : Value => u) (fun u => [fV eZ (t17) u]) (fun _ => True), prE (fun u : Value => u) (fun u => [fV eZ (t18) u]) (fun _ => True)] [1, 5, 8, 9, 10, 47, 48, 49, 54, 57, 70] rfl (by kernel_rfl) rfl (by kernel_rfl) ⟨?_, ?_, ?_, ?_, ?_, ?_, ?_, ?_, ?_, ?_, ?_, ?_, ?_, ?_, ?_, ?_, ?_, trivial⟩ ?_
     ·intro S w env hS hM hΓ hl
      obtain ⟨e8, _⟩ := hl
      exact ⟨fun _ => ob_mv (e8.trans rfl), fun hc => (by cases hc)⟩
     ·intro S w env hS hM hΓ hl
      obtain ⟨e10, _⟩ := hl
      exact ⟨fun _ => ob_VE (p := InR i3) (r_mv (e10.trans rfl)) hr3, fun hc => (by cases hc)⟩
     ·intro S w env hS hM hΓ hl
      obtain ⟨e11, _⟩ := hl
      exact ⟨fun _ => ob_VE (p := InR i6) (r_mv (e11.trans rfl)) hr6, fun hc => (by cases hc)⟩
     ·intro S w env hS hM hΓ hl
      obtain ⟨⟨_, e55, ho7, f55⟩, ⟨_, e56, ho8, f56⟩, _⟩ := hl
      exact ⟨fun _ => ob_VE (p := InR x8) (r_add (c := x8) e55 e56 (w_x hx8 hrx8)) hrx8, fun hc => (by cases hc)⟩
     ·intro S w env hS hM hΓ hl
      obtain ⟨e8, _⟩ := hl
      exact ⟨fun _ => ob_mv (e8.trans rfl), fun hc => (by cases hc)⟩
     ·intro S w env hS hM hΓ hl
      obtain ⟨e10, _⟩ := hl
      exact ⟨fun _ => ob_VE (p := InR i3) (r_mv (e10.trans rfl)) hr3, fun hc => (by cases hc)⟩
     ·intro S w env hS hM hΓ hl
      obtain ⟨e11, _⟩ := hl
      exact ⟨fun _ => ob_VE (p := InR i6) (r_mv (e11.trans rfl)) hr6, fun hc => (by cases hc)⟩
     ·intro S w env hS hM hΓ hl
      obtain ⟨⟨_, e59, ho10, f59⟩, ⟨_, e60, ho11, f60⟩, _⟩ := hl
      exact ⟨fun _ => ob_VE (p := InR x9) (r_add (c := x9) e59 e60 (w_x hx9 hrx9)) hrx9, fun hc => (by cases hc)⟩
     ·intro S w env hS hM hΓ hl
      obtain ⟨e58, ⟨_, e61, ho12, f61⟩, _⟩ := hl
      exact ⟨fun _ => ob_V (r_index Tryz.underlying31 ty25 e58 (e61.trans (vi hj5)) (k := j5) (lt_of_len hlj5 hz7)), fun hc => (by cases hc)⟩
     ·intro S w env hS hM hΓ hl
      obtain ⟨e62, _⟩ := hl
      exact ⟨fun _ => ob_E (Γ := (fV eZ (y2) u8 :: fP eZ (y2) p2 :: fP eZ (a2) p1 :: fV (eS eZ) (a1) va1 :: G)) (oe_loadM (z' := y3) 2 rfl e62 (Sub.rowT0 eZ cap1 (t15) j5 _ (getE (z := (false, [])) (lt_of_len' (lt_of_len hlj5 hz7) hz7) hy3)) ty25) hS hM hΓ, fun hc => (by cases hc)⟩
     ·intro S w env hS hM hΓ hl
      obtain ⟨e9, _⟩ := hl
      exact ⟨fun _ => ob_mv (e9.trans rfl), fun hc => (by cases hc)⟩
     ·intro S w env hS hM hΓ hl
      obtain ⟨e10, _⟩ := hl
      exact ⟨fun _ => ob_VE (p := InR i3) (r_mv (e10.trans rfl)) hr3, fun hc => (by cases hc)⟩
     ·intro S w env hS hM hΓ hl
      obtain ⟨e64, ⟨_, e65, ho13, f65⟩, _⟩ := hl
      exact ⟨fun _ => ob_V (r_index Tryz.underlying31 ty25 e64 (e65.trans (vi hj6)) (k := j6) (lt_of_len hlj6 (set_len ht12 hz3))), fun hc => (by cases hc)⟩
     ·intro S w env hS hM hΓ hl
      obtain ⟨e66, _⟩ := hl
      exact ⟨fun _ => ob_E (Γ := (fV eZ (y2) u8 :: fP eZ (y2) p2 :: fP eZ (a2) p1 :: fV (eS eZ) (a1) va1 :: G)) (oe_loadM (z' := y4) 1 rfl e66 (Sub.rowT0 eZ j1 (t12) j6 _ (getE (z := (false, [])) (lt_of_len' (lt_of_len hlj6 (set_len ht12 hz3)) (set_len ht12 hz3)) hy4)) ty25) hS hM hΓ, fun hc => (by cases hc)⟩
     ·intro S w env hS hM hΓ hl
      obtain ⟨e12, _⟩ := hl
      exact ⟨fun _ => ob_E (Γ := (fV eZ (y2) u8 :: fP eZ (y2) p2 :: fP eZ (a2) p1 :: fV (eS eZ) (a1) va1 :: G)) (oe_loadM (z' := y2) 0 rfl (e12.trans rfl) (Sub.self eZ (y2)) ty25) hS hM hΓ, fun hc => (by cases hc)⟩
     ·intro S w env hS hM hΓ hl
      obtain ⟨⟨u10, e67, _, f67⟩, ⟨u11, e68, _, f68⟩, _⟩ := hl
      exact ⟨fun _ => ob_E (Γ := (fV eZ (y4) u10 :: fV eZ (y2) u11 :: fV eZ (y2) u8 :: fP eZ (y2) p2 :: fP eZ (a2) p1 :: fV (eS eZ) (a1) va1 :: G)) (oe_call (by kernel_rfl) (c_zint_Mul fu y4 u10 y2 u11 t17 he3) (la_cons e67 (la_cons e68 la_nil)) (fun S w h => ⟨h.1, h.2.1, trivial⟩)) hS hM ⟨f67.1, f68.1, hΓ⟩, fun hc => (by cases hc)⟩
     ·intro S w env hS hM hΓ hl
      obtain ⟨⟨u9, e63, _, f63⟩, ⟨u12, e69, _, f69⟩, _⟩ := hl
      exact ⟨fun _ => ob_E (Γ := (fV eZ (y3) u9 :: fV eZ (t17) u12 :: fV eZ (y2) u8 :: fP eZ (y2) p2 :: fP eZ (a2) p1 :: fV (eS eZ) (a1) va1 :: G)) (oe_call (by kernel_rfl) (c_zint_Sub fu y3 u9 t17 u12 t18 he4) (la_cons e63 (la_cons e69 la_nil)) (fun S w h => ⟨h.1, h.2.1, trivial⟩)) hS hM ⟨f63.1, f69.1, hΓ⟩, fun hc => (by cases hc)⟩
     intro S w env hS hΓ hl
     obtain ⟨e1, e5, e8, e9, e10, e47, e48, e49, e54, ⟨_, e57, ho9, f57⟩, ⟨u13, e70, _, f70⟩, _⟩ := hl
     refine ⟨(fV eZ (t18) u13 :: fV eZ (y2) u8 :: fP eZ (y2) p2 :: fP eZ (a2) p1 :: fV (eS eZ) (a1) va1 :: G), [(1, va1), (5, p1), (8, .slice (some ⟨b2, 0, none⟩) t8.length cap1), (9, .slice (some ⟨b1, 0, none⟩) j1 j1), (10, iv (i3)), (47, va1), (48, iv ((a1.length : Nat) : Int)), (49, iv (i6)), (54, .slice (some ⟨b2, 0, none⟩) t8.length cap1), (57, iv (x8)), (70, u13)], ⟨f70.1, hΓ⟩, (agr ⟨(e1.trans rfl), (e5.trans rfl), (e8.trans rfl), (e9.trans rfl), (e10.trans rfl), (e47.trans rfl), (e48.trans rfl), (e49.trans rfl), e54, e57, e70, trivial⟩), fun rest => ?_⟩
     obtain ⟨j7, hj7, hlj7, H⟩ := ckI_s H
     refine TL_val rfl rfl (r_index Tryz.underlying31 ty25 rfl (vi hj7) (k := j7) (lt_of_len hlj7 hz7)) ?_
     obtain ⟨t19, ht19, H⟩ := nm_s H
     refine TL_og rfl rfl (og_store' (f := eZ) (y' := t18) (z2 := t19) 2 rfl rfl rfl (Sub.rowT0 eZ cap1 (t15) j7 _ (getD_some ((false, [])) (lt_of_len' (lt_of_len hlj7 hz7) hz7))) ty25 (fun S w h => h.1) ht19) fun _ _ => ?_
     show TL _ _ _ _ (mB (ERep.c eZ) 25 b4 (y2) :: mB (rowT eZ j1) 25 b1 (t12) :: mB (rowT eZ cap1) 25 b2 (t19) :: F) (fV eZ (t18) u13 :: fV eZ (y2) u8 :: fP eZ (y2) p2 :: fP eZ (a2) p1 :: fV (eS eZ) (a1) va1 :: G) _ _ _ _
     refine TL_mv 0 [(1, va1), (5, p1), (8, .slice (some ⟨b2, 0, none⟩) t8.length cap1), (9, .slice (some ⟨b1, 0, none⟩) j1 j1), (10, iv (i3)), (47, va1), (48, iv ((a1.length : Nat) : Int)), (49, iv (i6))] rfl fun rest => TL_nil <| T_region ?_
     obtain ⟨x10, hx10, hrx10, H⟩ := ck64_s H
     refine TL_val rfl rfl (r_add (c := x10) rfl rfl (w_x hx10 hrx10)) <| TL_mv 1 [(1, va1), (5, p1), (8, .slice (some ⟨b2, 0, none⟩) t8.length cap1), (9, .slice (some ⟨b1, 0, none⟩) j1 j1), (10, iv (i3)), (47, va1), (48, iv ((a1.length : Nat) : Int)), (49, iv (x10))] rfl fun rest => TL_nil ?_
     exact St_round_s (n2, x10, t19) H (And.intro hrx10 (set_len ht19 hz7)) (Nat.lt_succ_self _) rfl (fun w h => St.weak (St.drop (i := 0) h) (fun S w h => ⟨h.2.2.2.1, h.2.2.2.2.1, h.2.2.2.2.2⟩))
    replace H := ifb_f hb1 H
    refine T_exit ?_
    exact JQ_mk t15 (And.intro (Option.some.inj H) hz7) rfl (fun w h => St.weak h (fun S w h => ⟨h.1, h.2.1, h.2.2⟩))
   refine JQ_el' ?_
   rintro t16 ⟨hs, hz8⟩ rest
   subst hs
   replace H := Hc
   clear hL
   refine JG_to (ms' := (mB (rowT eZ j1) 25 b1 (t12) :: mB (rowT eZ cap1) 25 b2 (t16) :: F)) (Γ' := (fP eZ (a2) p1 :: fV (eS eZ) (a1) va1 :: G)) (live' := [(1, va1), (5, p1), (8, .slice (some ⟨b2, 0, none⟩) t8.length cap1), (9, .slice (some ⟨b1, 0, none⟩) j1 j1), (10, iv (i3))]) rfl <| T_region <| TL_mv 1 [(1, va1), (5, p1), (8, .slice (some ⟨b2, 0, none⟩) t8.length cap1), (9, .slice (some ⟨b1, 0, none⟩) j1 j1), (29, iv (i3))] rfl fun rest => ?_
   obtain ⟨x11, hx11, hrx11, H⟩ := ck64_s H
   refine TL_val rfl rfl (r_sub (c := x11) rfl rfl (w_x hx11 hrx11)) <| TL_mv 1 [(1, va1), (5, p1), (8, .slice (some ⟨b2, 0, none⟩) t8.length cap1), (9, .slice (some ⟨b1, 0, none⟩) j1 j1), (10, iv (x11))] rfl fun rest => TL_nil <| T_weak_st (fun w h => close_all 1 h rfl hz8 hcb2 hmb2) ?_
   exact St_round_s (n1, t16, x11, t12, (.slice (some ⟨b2, 0, none⟩) t8.length cap1 : Value)) H (And.intro hrx11 (set_len ht12 hz3)) (Nat.lt_succ_self _) rfl (fun w h => St.weak (St.front 1 (St.front 0 h rfl) rfl) (fun S w h => ⟨h.1, h.2.1, h.2.2⟩))
  replace H := if_f h1 H
  refine TL_mv 0 [(1, va1), (5, p1), (8, w3), (9, .slice (some ⟨b1, 0, none⟩) j1 j1), (10, iv (i3)), (28, .bool false)] rfl fun rest => TL_nil <| T_cond_false rfl <| T_exit ?_
  exact JQ_mk (t8, t7, w3) (And.intro (Option.some.inj H) hz3) rfl (fun w h => St.weak h (fun S w h => ⟨h.1, h.2.2⟩))
 refine JQ_el' ?_
 rintro ⟨t10, t9, w4⟩ ⟨hs, hz4⟩ rest
 subst hs
 replace H := Hc
 clear hL
 refine JG_to (ms' := (mO eZ 25 w4 (t10) :: mB (rowT eZ j1) 25 b1 (t9) :: F)) (Γ' := (fP eZ (a2) p1 :: G)) (live' := [(5, p1), (8, w4), (9, .slice (some ⟨b1, 0, none⟩) j1 j1)]) rfl <| T_seq <| T_weak_st (fun w h => fz_all 1 h rfl hz4 (Nat.le_refl _) (mk_le (B := 32) (by decide) hk1)) ?_
 obtain ⟨t20, he5, H⟩ := bd_s H
 refine T_draw 5 [prV ((.slice (some ⟨b1, 0, none⟩) j1 j1)), prE (fun u : Value => u) (fun u => [fV eZ (a2) u]) (fun _ => True), prE (fun u : Value => u) (fun u => [fV (eS eZ) (t20) u]) (fun _ => True), prV (w4), prE (fun u : Value => u) (fun u => [fV eZ (a2) u]) (fun _ => True)] [75, 76, 77] rfl (by kernel_rfl) rfl (by kernel_rfl) ⟨?_, ?_, ?_, ?_, ?_, trivial⟩ ?_
 ·intro S w env hS hM hΓ hl
  obtain ⟨e9, _⟩ := hl
  exact ⟨fun _ => ob_mv (e9.trans rfl), fun hc => (by cases hc)⟩
 ·intro S w env hS hM hΓ hl
  obtain ⟨e5, _⟩ := hl
  exact ⟨fun _ => ob_E (Γ := (fV (eS eZ) (t9) ((.slice (some ⟨b1, 0, none⟩) j1 j1)) :: fP eZ (a2) p1 :: G)) (oe_load (e := eZ) (y := a2) (e5.trans rfl) ty25 (fun S w h => h.2.1)) hS hM hΓ, fun hc => (by cases hc)⟩
 ·intro S w env hS hM hΓ hl
  obtain ⟨e73, ⟨u14, e74, _, f74⟩, _⟩ := hl
  exact ⟨fun _ => ob_E (Γ := (fV eZ (a2) u14 :: fV (eS eZ) (t9) ((.slice (some ⟨b1, 0, none⟩) j1 j1)) :: fP eZ (a2) p1 :: G)) (oe_call (by kernel_rfl) (z_hensel_red fu t9 ((.slice (some ⟨b1, 0, none⟩) j1 j1)) a2 u14 t20 he5) (la_cons e73 (la_cons e74 la_nil)) (fun S w h => ⟨h.2.1, h.1, trivial⟩)) hS hM ⟨f74.1, hΓ⟩, fun hc => (by cases hc)⟩
 ·intro S w env hS hM hΓ hl
  obtain ⟨e8, _⟩ := hl
  exact ⟨fun _ => ob_mv (e8.trans rfl), fun hc => (by cases hc)⟩
 ·intro S w env hS hM hΓ hl
  obtain ⟨e5, _⟩ := hl
  exact ⟨fun _ => ob_E (Γ := (fV (eS eZ) (t9) ((.slice (some ⟨b1, 0, none⟩) j1 j1)) :: fP eZ (a2) p1 :: G)) (oe_load (e := eZ) (y := a2) (e5.trans rfl) ty25 (fun S w h => h.2.1)) hS hM hΓ, fun hc => (by cases hc)⟩
 intro S w env hS hΓ hl
 obtain ⟨⟨u15, e75, _, f75⟩, e76, ⟨u16, e77, _, f77⟩, _⟩ := hl
 refine ⟨(fV (eS eZ) (t20) u15 :: fV eZ (a2) u16 :: fV (eS eZ) (t9) ((.slice (some ⟨b1, 0, none⟩) j1 j1)) :: fP eZ (a2) p1 :: G), [(75, u15), (76, w4), (77, u16)], ⟨f75.1, f77.1, hΓ⟩, (agr ⟨e75, e76, e77, trivial⟩), fun rest => ?_⟩
 refine TL_weak_st (fun w h => fz_own 0 h rfl) ?_
 obtain ⟨t21, he6, H⟩ := bd_s H
 refine TL_og rfl rfl (og_callG (F := (F)) (by kernel_rfl) (c_hensel_red fu t10 w4 a2 u16 t21 he6) rfl (fun S w h => ⟨h.1, h.2.2.1, trivial⟩)) fun u17 _ => ?_
 show TL _ _ _ _ (mO eZ 25 u17 (t21) :: F) (fV (eS eZ) (t10) w4 :: fV (eS eZ) (t20) u15 :: fV eZ (a2) u16 :: fV (eS eZ) (t9) ((.slice (some ⟨b1, 0, none⟩) j1 j1)) :: fP eZ (a2) p1 :: G) _ _ _ _
 refine TL_mv 2 [(6, u15), (7, u17)] rfl fun rest => TL_nil <| T_ret ?_
 obtain ⟨rfl, rfl⟩ := inj2 H
 intro w hw
 exact RetG (vs := [u15, u17]) (u15, u17) Tryz.results102 (by exact ⟨rfl, rfl, trivial⟩) rfl trivial (St.weak hw (fun S w h => ⟨h.2.1, h.2.2.2.2.2⟩))
theorem z_hensel_divided (fu : Nat) (a0 : List Zr) (va0 : Value) (a1 : List Zr) (va1 : Value) (a2 : Zr) (va2 : Value) (r0 : List Zr) (r1 : List Zr) (H : M_hensel_divided fu a0 a1 a2 = some (r0, r1)) : Fn Tryz.prog 102 [va0, va1, va2].toArray [fV (eS eZ) (a0) va0, fV (eS eZ) (a1) va1, fV eZ (a2) va2] (fun u : Value × Value => .tuple #[u.1, u.2]) (fun u => [fV (eS eZ) (r0) u.1, fV (eS eZ) (r1) u.2]) (fun _ => True) :=
  FnG.frozen (c_hensel_divided fu a0 va0 a1 va1 a2 va2 r0 r1 H) fun u w we Se h => St.weak (fz_own 0 h rfl) fun S w h => ⟨h.2.1, h.1, trivial⟩
set_option maxRecDepth 100000 in
set_option maxHeartbeats 1000000 in
theorem c_zpoly_Add_1 (fu : Nat) (a0 : Int) (qa0 : InR a0) (a1 : Zr) (va1 : Value) (a2 : List Zr) (va2 : Value) (r0 : Zr) (H : M_zpoly_Add_1 fu a0 a1 a2 = some r0) : Fn Tryz.prog 103 [iv a0, va1, va2].toArray [fV eZ (a1) va1, fP (eS eZ) (a2) va2] (fun u : Value => u) (fun u => [fV eZ (r0) u]) (fun _ => True) := by
 unfold M_zpoly_Add_1 at H
 refine Fn_intro Tryz.func103 rfl rfl fun we Se rest => T_seq <| T_region <| TL_step rfl rfl (oe_box (e := eZ) (z := a1) rfl (fun S w h => h.1)) fun p1 _ => TL_og rfl rfl (og_allocM (e := ERep.c eZ) (z := (false, [])) ty25 (fun S w => z25 S w)) fun b1 _ => ?_
 show TL _ _ _ _ [mB (ERep.c eZ) 25 b1 ((false, []))] [fP eZ (a1) p1, fV eZ (a1) va1, fP (eS eZ) (a2) va2] _ _ _ _
 refine TL_mv 0 [(0, iv (a0)), (2, va2), (4, p1), (5, .pointer (some ⟨b1, 0, none⟩))] rfl fun rest => TL_nil <| T_seq <| T_seq <| T_region <| TL_mv 1 [(0, iv (a0)), (2, va2), (4, p1), (5, .pointer (some ⟨b1, 0, none⟩)), (6, iv (a0))] rfl fun rest => ?_
 refine TL_step rfl rfl (oe_load (e := (eS eZ)) (y := a2) rfl ty31 (fun S w h => h.2.2.1)) fun u1 _ => TL_step rfl rfl (oe_len (e := eZ) (xs := a2) Tryz.underlying31 rfl (fun S w h => h.1)) fun _ hl1 => TL_lss rfl rfl rfl rfl (fun h1 => ?_) (fun h1 => ?_)
 ·replace H := if_t h1 H
  refine TL_mv 0 [(0, iv (a0)), (2, va2), (4, p1), (5, .pointer (some ⟨b1, 0, none⟩)), (9, .bool true)] rfl fun rest => TL_nil <| T_cond_true rfl <| T_seq ?_
  obtain ⟨j1, hj1, hlj1, H⟩ := ckI_s H
  obtain ⟨y1, hy1, H⟩ := nm_s H
  refine T_draw 5 [prE (fun u : Value => u) (fun u => [fV eZ (a1) u]) (fun _ => True), prE (fun u : Value => u) (fun u => [fV (eS eZ) (a2) u]) (fun _ => True), prE (fun _ : Unit => iv (a0)) (fun _ => []) (fun _ => InR a0), prE (fun u : Value => u) (fun u => [fP eZ (y1) u]) (fun _ => True), prE (fun u : Value => u) (fun u => [fV eZ (y1) u]) (fun _ => True)] [5, 10, 14] rfl (by kernel_rfl) rfl (by kernel_rfl) ⟨?_, ?_, ?_, ?_, ?_, trivial⟩ ?_
  ·intro S w env hS hM hΓ hl
   obtain ⟨e4, _⟩ := hl
   exact ⟨fun _ => ob_E (Γ := [fV (eS eZ) (a2) u1, fP eZ (a1) p1, fV eZ (a1) va1, fP (eS eZ) (a2) va2]) (oe_load (e := eZ) (y := a1) (e4.trans rfl) ty25 (fun S w h => h.2.1)) hS hM hΓ, fun hc => (by cases hc)⟩
  ·intro S w env hS hM hΓ hl
   obtain ⟨e2, _⟩ := hl
   exact ⟨fun _ => ob_E (Γ := [fV (eS eZ) (a2) u1, fP eZ (a1) p1, fV eZ (a1) va1, fP (eS eZ) (a2) va2]) (oe_load (e := (eS eZ)) (y := a2) (e2.trans rfl) ty31 (fun S w h => h.2.2.2.1)) hS hM hΓ, fun hc => (by cases hc)⟩
  ·intro S w env hS hM hΓ hl
   obtain ⟨e0, _⟩ := hl
   exact ⟨fun _ => ob_VE (p := InR a0) (r_mv (e0.trans rfl)) qa0, fun hc => (by cases hc)⟩
  ·intro S w env hS hM hΓ hl
   obtain ⟨⟨u3, e11, _, f11⟩, ⟨_, e12, ho1, f12⟩, _⟩ := hl
   exact ⟨fun _ => ob_E (Γ := [fV (eS eZ) (a2) u3, fV (eS eZ) (a2) u1, fP eZ (a1) p1, fV eZ (a1) va1, fP (eS eZ) (a2) va2]) (oe_index (e := eZ) (xs := a2) (k := j1) (y := y1) e11 (e12.trans (vi hj1)) Tryz.underlying31 ty25 (getE (z := (false, [])) hlj1 hy1) (fun S w h => h.1)) hS hM ⟨f11.1, hΓ⟩, fun hc => (by cases hc)⟩
  ·intro S w env hS hM hΓ hl
   obtain ⟨⟨p2, e13, _, f13⟩, _⟩ := hl
   exact ⟨fun _ => ob_E (Γ := [fP eZ (y1) p2, fV (eS eZ) (a2) u1, fP eZ (a1) p1, fV eZ (a1) va1, fP (eS eZ) (a2) va2]) (oe_load (e := eZ) (y := y1) e13 ty25 (fun S w h => h.1)) hS hM ⟨f13.1, hΓ⟩, fun hc => (by cases hc)⟩
  intro S w env hS hΓ hl
  obtain ⟨e5, ⟨u2, e10, _, f10⟩, ⟨u4, e14, _, f14⟩, _⟩ := hl
  refine ⟨[fV eZ (a1) u2, fV eZ (y1) u4, fV (eS eZ) (a2) u1, fP eZ (a1) p1, fV eZ (a1) va1, fP (eS eZ) (a2) va2], [(5, .pointer (some ⟨b1, 0, none⟩)), (10, u2), (14, u4)], ⟨f10.1, f14.1, hΓ⟩, (agr ⟨(e5.trans rfl), e10, e14, trivial⟩), fun rest => ?_⟩
  obtain ⟨t1, he1, H⟩ := bd_s H
  refine TL_step rfl rfl (oe_call (by kernel_rfl) (c_zint_Add fu a1 u2 y1 u4 t1 he1) rfl (fun S w h => ⟨h.1, h.2.1, trivial⟩)) fun u5 _ => TL_og rfl rfl (og_store' (f := eZ) (y' := t1) (z2 := t1) 0 rfl rfl rfl (Sub.self eZ ((false, []))) ty25 (fun S w h => h.1) rfl) fun _ _ => ?_
  show TL _ _ _ _ [mB (ERep.c eZ) 25 b1 (t1)] [fV eZ (t1) u5, fV eZ (a1) u2, fV eZ (y1) u4, fV (eS eZ) (a2) u1, fP eZ (a1) p1, fV eZ (a1) va1, fP (eS eZ) (a2) va2] _ _ _ _
  refine TL_mv 0 [(5, .pointer (some ⟨b1, 0, none⟩))] rfl fun rest => TL_sel [] (fun S w h => trivial) <| TL_nil <| T_ret ?_
  obtain rfl := inj1 H
  intro w hw
  change RetQ _ _ _ _ _ _ _ .ret _ w
  refine Ret_cN (e := eZ) (z := t1) 5 0 hw rfl (by exact rfl) ty25 fun r_1 hw hr_1 => ?_
  exact RetN (vs := [r_1]) r_1 Tryz.results103 (by exact ⟨hr_1, trivial⟩) rfl trivial hw (fun S w h => ⟨h.1, trivial⟩)
 replace H := if_f h1 H
 refine TL_mv 0 [(0, iv (a0)), (2, va2), (4, p1), (5, .pointer (some ⟨b1, 0, none⟩)), (9, .bool false)] rfl fun rest => TL_nil <| T_cond_false rfl <| T_skip <| T_seq <| T_region ?_
 refine TL_step rfl rfl (oe_load (e := eZ) (y := a1) rfl ty25 (fun S w h => h.2.1)) fun u6 _ => TL_og rfl rfl (og_store' (f := eZ) (y' := a1) (z2 := a1) 0 rfl rfl rfl (Sub.self eZ ((false, []))) ty25 (fun S w h => h.1) rfl) fun _ _ => ?_
 show TL _ _ _ _ [mB (ERep.c eZ) 25 b1 (a1)] [fV eZ (a1) u6, fV (eS eZ) (a2) u1, fP eZ (a1) p1, fV eZ (a1) va1, fP (eS eZ) (a2) va2] _ _ _ _
 refine TL_mv 0 [(5, .pointer (some ⟨b1, 0, none⟩))] rfl fun rest => TL_nil <| T_ret ?_
 obtain rfl := inj1 H
 intro w hw
 change RetQ _ _ _ _ _ _ _ .ret _ w
 refine Ret_cN (e := eZ) (z := a1) 5 0 hw rfl (by exact rfl) ty25 fun r_2 hw hr_2 => ?_
 exact RetN (vs := [r_2]) r_2 Tryz.results103 (by exact ⟨hr_2, trivial⟩) rfl trivial hw (fun S w h => ⟨h.1, trivial⟩)
set_option maxRecDepth 100000 in
set_option maxHeartbeats 1000000 in
theorem c_zpoly_Add (fu : Nat) (a0 : List Zr) (va0 : Value) (a1 : List Zr) (va1 : Value) (r0 : List Zr) (H : M_zpoly_Add fu a0 a1 = some r0) : FnG Tryz.prog 38 [va0, va1].toArray [] [fV (eS eZ) (a0) va0, fV (eS eZ) (a1) va1] (fun u : Value => u) (fun u => [mO eZ 25 u (r0)]) (fun u => []) (fun _ => True) := by
 unfold M_zpoly_Add at H
 refine FnG_intro Tryz.func38 rfl rfl fun we Se F G rest => T_seq <| T_region <| TL_og rfl rfl (og_boxM (e := (eS eZ)) (z := a1) rfl (fun S w h => h.2.1)) fun b1 _ => ?_
 show TL _ _ _ _ (mB (ERep.c (eS eZ)) 31 b1 (a1) :: F) (fV (eS eZ) (a0) va0 :: fV (eS eZ) (a1) va1 :: G) _ _ _ _
 refine TL_mv 1 [(0, va0), (3, .pointer (some ⟨b1, 0, none⟩))] rfl fun rest => TL_nil <| T_seq <| T_seq <| T_region <| TL_mv 1 [(0, va0), (3, .pointer (some ⟨b1, 0, none⟩)), (5, va0)] rfl fun rest => ?_
 refine TL_step rfl rfl (oe_len (e := eZ) (xs := a0) Tryz.underlying31 rfl (fun S w h => h.1)) fun _ hl1 => TL_step rfl rfl (oe_loadM (z' := a1) 0 rfl rfl (Sub.self (eS eZ) (a1)) ty31) fun u1 _ => TL_step rfl rfl (oe_len (e := eZ) (xs := a1) Tryz.underlying31 rfl (fun S w h => h.1)) fun _ hl2 => TL_lss rfl rfl rfl rfl (fun h1 => ?_) (fun h1 => ?_)
 ·replace H := if_t h1 H
  refine TL_mv 0 [(0, va0), (3, .pointer (some ⟨b1, 0, none⟩)), (9, .bool true)] rfl fun rest => TL_nil <| T_cond_true rfl <| T_region <| TL_step rfl rfl (oe_loadM (z' := a1) 0 rfl rfl (Sub.self (eS eZ) (a1)) ty31) fun u2 _ => TL_mv 2 [(0, u2), (3, .pointer (some ⟨b1, 0, none⟩)), (11, va0)] rfl fun rest => ?_
  refine TL_og rfl rfl (og_store' (f := (eS eZ)) (y' := a0) (z2 := a0) 0 rfl rfl rfl (Sub.self (eS eZ) (a1)) ty31 (fun S w h => h.2.2.1) rfl) fun _ _ => ?_
  show TL _ _ _ _ (mB (ERep.c (eS eZ)) 31 b1 (a0) :: F) (fV (eS eZ) (a1) u2 :: fV (eS eZ) (a1) u1 :: fV (eS eZ) (a0) va0 :: fV (eS eZ) (a1) va1 :: G) _ _ _ _
  refine TL_mv 0 [(0, u2), (3, .pointer (some ⟨b1, 0, none⟩))] rfl fun rest => TL_nil <| T_seq <| T_region <| TL_mv 1 [(3, .pointer (some ⟨b1, 0, none⟩)), (12, u2)] rfl fun rest => TL_weak_st (fun w h => fz_var 0 h rfl) ?_
  refine TL_val rfl rfl (r_mk (la_cons rfl la_nil)) ?_
  obtain ⟨t1, he1, H⟩ := bd_s H
  refine TL_og rfl rfl (og_callG (F := (F)) (by kernel_rfl) (c_zpoly_each_api_Int_api_Int fu a1 u2 (fun zx0 zx1 => M_zpoly_Add_1 fu zx0 zx1 a0) 103 [(.pointer (some ⟨b1, 0, none⟩))] [fP (eS eZ) (a0) ((.pointer (some ⟨b1, 0, none⟩)))] (by kernel_rfl) (fun zx0 qzx0 zx1 vzx1 zy0 hh => c_zpoly_Add_1 fu zx0 qzx0 zx1 vzx1 a0 ((.pointer (some ⟨b1, 0, none⟩))) zy0 hh) t1 he1) rfl (fun S w h => ⟨h.2.1, ⟨h.1, trivial⟩⟩)) fun u3 _ => ?_
  show TL _ _ _ _ (mO eZ 25 u3 (t1) :: F) (fP (eS eZ) (a0) ((.pointer (some ⟨b1, 0, none⟩))) :: fV (eS eZ) (a1) u2 :: fV (eS eZ) (a1) u1 :: fV (eS eZ) (a0) va0 :: fV (eS eZ) (a1) va1 :: G) _ _ _ _
  refine TL_weak_st (fun w h => fz_own 0 h rfl) ?_
  obtain ⟨t2, he2, H⟩ := bd_s H
  refine TL_og rfl rfl (og_callG (F := (F)) (by kernel_rfl) (c_zpoly_Norm fu t1 u3 t2 he2) rfl (fun S w h => ⟨h.1, trivial⟩)) fun u4 _ => ?_
  show TL _ _ _ _ (mO eZ 25 u4 (t2) :: F) (fV (eS eZ) (t1) u3 :: fP (eS eZ) (a0) ((.pointer (some ⟨b1, 0, none⟩))) :: fV (eS eZ) (a1) u2 :: fV (eS eZ) (a1) u1 :: fV (eS eZ) (a0) va0 :: fV (eS eZ) (a1) va1 :: G) _ _ _ _
  refine TL_mv 1 [(4, u4)] rfl fun rest => TL_nil <| T_ret ?_
  obtain rfl := inj1 H
  intro w hw
  exact RetG (vs := [u4]) u4 Tryz.results38 (by exact ⟨rfl, trivial⟩) rfl trivial (St.weak hw (fun S w h => h.2.2.2.2.2.2))
 replace H := if_f h1 H
 refine TL_mv 0 [(0, va0), (3, .pointer (some ⟨b1, 0, none⟩)), (9, .bool false)] rfl fun rest => TL_nil <| T_cond_false rfl <| T_skip <| T_seq <| T_region ?_
 refine TL_mv 1 [(3, .pointer (some ⟨b1, 0, none⟩)), (12, va0)] rfl fun rest => TL_weak_st (fun w h => fz_var 0 h rfl) <| TL_val rfl rfl (r_mk (la_cons rfl la_nil)) ?_
 obtain ⟨t3, he3, H⟩ := bd_s H
 refine TL_og rfl rfl (og_callG (F := (F)) (by kernel_rfl) (c_zpoly_each_api_Int_api_Int fu a0 va0 (fun zx0 zx1 => M_zpoly_Add_1 fu zx0 zx1 a1) 103 [(.pointer (some ⟨b1, 0, none⟩))] [fP (eS eZ) (a1) ((.pointer (some ⟨b1, 0, none⟩)))] (by kernel_rfl) (fun zx0 qzx0 zx1 vzx1 zy0 hh => c_zpoly_Add_1 fu zx0 qzx0 zx1 vzx1 a1 ((.pointer (some ⟨b1, 0, none⟩))) zy0 hh) t3 he3) rfl (fun S w h => ⟨h.2.2.1, ⟨h.1, trivial⟩⟩)) fun u5 _ => ?_
 show TL _ _ _ _ (mO eZ 25 u5 (t3) :: F) (fP (eS eZ) (a1) ((.pointer (some ⟨b1, 0, none⟩))) :: fV (eS eZ) (a1) u1 :: fV (eS eZ) (a0) va0 :: fV (eS eZ) (a1) va1 :: G) _ _ _ _
 refine TL_weak_st (fun w h => fz_own 0 h rfl) ?_
 obtain ⟨t4, he4, H⟩ := bd_s H
 refine TL_og rfl rfl (og_callG (F := (F)) (by kernel_rfl) (c_zpoly_Norm fu t3 u5 t4 he4) rfl (fun S w h => ⟨h.1, trivial⟩)) fun u6 _ => ?_
 show TL _ _ _ _ (mO eZ 25 u6 (t4) :: F) (fV (eS eZ) (t3) u5 :: fP (eS eZ) (a1) ((.pointer (some ⟨b1, 0, none⟩))) :: fV (eS eZ) (a1) u1 :: fV (eS eZ) (a0) va0 :: fV (eS eZ) (a1) va1 :: G) _ _ _ _
 refine TL_mv 1 [(4, u6)] rfl fun rest => TL_nil <| T_ret ?_
 obtain rfl := inj1 H
 intro w hw
 exact RetG (vs := [u6]) u6 Tryz.results38 (by exact ⟨rfl, trivial⟩) rfl trivial (St.weak hw (fun S w h => h.2.2.2.2.2))
theorem z_zpoly_Add (fu : Nat) (a0 : List Zr) (va0 : Value) (a1 : List Zr) (va1 : Value) (r0 : List Zr) (H : M_zpoly_Add fu a0 a1 = some r0) : Fn Tryz.prog 38 [va0, va1].toArray [fV (eS eZ) (a0) va0, fV (eS eZ) (a1) va1] (fun u : Value => u) (fun u => [fV (eS eZ) (r0) u]) (fun _ => True) :=
  FnG.frozen (c_zpoly_Add fu a0 va0 a1 va1 r0 H) fun u w we Se h => (fz_own 0 h rfl)
set_option maxRecDepth 100000 in
set_option maxHeartbeats 1000000 in
theorem c_zpoly_Mul (fu : Nat) (a0 : List Zr) (va0 : Value) (a1 : List Zr) (va1 : Value) (r0 : List Zr) (H : M_zpoly_Mul fu a0 a1 = some r0) : FnG Tryz.prog 39 [va0, va1].toArray [] [fV (eS eZ) (a0) va0, fV (eS eZ) (a1) va1] (fun u : Value => u) (fun u => [mO eZ 25 u (r0)]) (fun u => []) (fun _ => True) := by
 unfold M_zpoly_Mul at H
 refine FnG_intro Tryz.func39 rfl rfl fun we Se F G rest => T_seq <| T_region <| TL_mv 1 [(0, va0), (1, va1)] rfl fun rest => TL_nil <| T_seq ?_
 refine T_region <| TL_mv 1 [(0, va0), (1, va1), (10, va0)] rfl fun rest => TL_step rfl rfl (oe_len (e := eZ) (xs := a0) Tryz.underlying31 rfl (fun S w h => h.1)) fun _ hl1 => TL_mv 1 [(0, va0), (1, va1), (11, iv ((a0.length : Nat) : Int)), (12, va1)] rfl fun rest => TL_step rfl rfl (oe_len (e := eZ) (xs := a1) Tryz.underlying31 rfl (fun S w h => h.2.1)) fun _ hl2 => ?_
 obtain ⟨x1, hx1, hrx1, H⟩ := ck64_s H
 refine TL_val rfl rfl (r_add (c := x1) rfl rfl (w_x hx1 hrx1)) ?_
 obtain ⟨j1, hj1, H⟩ := ckN_s H
 obtain ⟨hk1, H⟩ := ck_s H
 obtain ⟨t1, ht1, H⟩ := nm_s H
 refine TL_og rfl rfl (og_make' (e := eZ) (z := (false, [])) (xs := t1) (n := j1) Tryz.underlying31 ty25 (vi hj1) (vi hj1) (by decide) hk1 (fun S w => z25 S w) ht1) fun b1 _ => ?_
 show TL _ _ _ _ (mB (rowT eZ j1) 25 b1 (t1) :: F) (fV (eS eZ) (a0) va0 :: fV (eS eZ) (a1) va1 :: G) _ _ _ _
 refine TL_mv 1 [(0, va0), (1, va1), (5, .slice (some ⟨b1, 0, none⟩) j1 j1)] rfl fun rest => TL_nil <| T_seq <| T_seq <| T_region <| TL_mv 1 [(1, va1), (5, .slice (some ⟨b1, 0, none⟩) j1 j1), (16, va0)] rfl fun rest => ?_
 refine TL_step rfl rfl (oe_len (e := eZ) (xs := a0) Tryz.underlying31 rfl (fun S w h => h.1)) fun _ hl3 => TL_mv 1 [(1, va1), (5, .slice (some ⟨b1, 0, none⟩) j1 j1), (16, va0), (17, iv ((a0.length : Nat) : Int)), (18, iv 0)] rfl fun rest => TL_nil <| T_block ?_
 obtain ⟨s1, hL, Hc⟩ := bd_s H
 refine T_X [(.x 0, JQ we Se (G := List Zr) (fun t5 => (⟨(mB (rowT eZ j1) 25 b1 (t5) :: F), (G), [(5, .slice (some ⟨b1, 0, none⟩) j1 j1)]⟩ : Inv)) (fun t5 => t5 = s1 ∧ t5.length = j1))] ?_ ⟨?_, trivial⟩
 ·refine T_loop_s (G := Nat × Int × (List Zr)) (s1 := _) (f := _) (k := fun (n1, i3, t4) => n1) (σ := fun (n1, i3, t4) => (i3, t4)) (fun (n1, i3, t4) => (⟨(mB (rowT eZ j1) 25 b1 (t4) :: F), (fV (eS eZ) (a0) va0 :: fV (eS eZ) (a1) va1 :: G), [(1, va1), (5, .slice (some ⟨b1, 0, none⟩) j1 j1), (16, va0), (17, iv ((a0.length : Nat) : Int)), (18, iv (i3))]⟩ : Inv)) (fun (n1, i3, t4) => InR i3 ∧ t4.length = j1) (fu, 0, t1) hL (And.intro (show InR (0) by decide) (rep_len ht1)) rfl (fun w h => St.weak h (fun S w h => ⟨h.1, h.2.1, h.2.2⟩)) ?_
  rintro ⟨n1, i3, t4⟩ ⟨H, hr3, hz3⟩ rest
  rcases n1 with _ | n1
  ·exact (loopN_z H).elim
  replace H := loopN_s H
  unfold B_zpoly_Mul_0 at H
  refine T_prune [(1, va1), (5, .slice (some ⟨b1, 0, none⟩) j1 j1), (16, va0), (17, iv ((a0.length : Nat) : Int)), (18, iv (i3))] rfl fun rest => T_weak (mB (rowT eZ j1) 25 b1 (t4) :: F) (fV (eS eZ) (a0) va0 :: fV (eS eZ) (a1) va1 :: G) (fun w h => h) <| T_seq ?_
  obtain ⟨s2, hL, Hc⟩ := bd_s H
  refine T_X [(.n, JQ we Se (G := Bool) (fun b2 => (⟨(mB (rowT eZ j1) 25 b1 (t4) :: F), (fV (eS eZ) (a0) va0 :: fV (eS eZ) (a1) va1 :: G), [(1, va1), (5, .slice (some ⟨b1, 0, none⟩) j1 j1), (16, va0), (17, iv ((a0.length : Nat) : Int)), (18, iv (i3)), (19, .bool (b2))]⟩ : Inv)) (fun b2 => b2 = s2))] ?_ ⟨?_, trivial⟩
  ·replace H := hL
   refine T_region <| TL_lss rfl rfl rfl rfl (fun h1 => ?_) (fun h1 => ?_)
   ·replace H := if_t h1 H
    refine TL_mv 0 [(1, va1), (5, .slice (some ⟨b1, 0, none⟩) j1 j1), (16, va0), (17, iv ((a0.length : Nat) : Int)), (18, iv (i3)), (19, .bool true)] rfl fun rest => TL_nil ?_
    exact JQ_mk true (Option.some.inj H) rfl (fun w h => St.weak h (fun S w h => ⟨h.1, h.2.1, h.2.2⟩))
   replace H := if_f h1 H
   refine TL_mv 0 [(1, va1), (5, .slice (some ⟨b1, 0, none⟩) j1 j1), (16, va0), (17, iv ((a0.length : Nat) : Int)), (18, iv (i3)), (19, .bool false)] rfl fun rest => TL_nil ?_
   exact JQ_mk false (Option.some.inj H) rfl (fun w h => St.weak h (fun S w h => ⟨h.1, h.2.1, h.2.2⟩))
  refine JQ_el' ?_
  rintro b2 hs rest
  subst hs
  replace H := Hc
  clear hL
  refine JG_to (ms' := (mB (rowT eZ j1) 25 b1 (t4) :: F)) (Γ' := (fV (eS eZ) (a0) va0 :: fV (eS eZ) (a1) va1 :: G)) (live' := [(1, va1), (5, .slice (some ⟨b1, 0, none⟩) j1 j1), (16, va0), (17, iv ((a0.length : Nat) : Int)), (18, iv (i3)), (19, .bool (b2))]) rfl <| T_seq <| T_cond (b2) rfl (fun hb1 => ?_) (fun hb1 => ?_)
  ·replace H := if_t hb1 H
   refine T_skip <| T_seq <| T_block <| T_seq <| T_region <| TL_mv 1 [(1, va1), (5, .slice (some ⟨b1, 0, none⟩) j1 j1), (16, va0), (17, iv ((a0.length : Nat) : Int)), (18, iv (i3)), (20, iv (i3))] rfl fun rest => ?_
   obtain ⟨j2, hj2, hlj2, H⟩ := ckI_s H
   obtain ⟨y1, hy1, H⟩ := nm_s H
   refine TL_step rfl rfl (oe_index (e := eZ) (xs := a0) (k := j2) (y := y1) rfl (vi hj2) Tryz.underlying31 ty25 (getE (z := (false, [])) hlj2 hy1) (fun S w h => h.1)) fun p1 _ => TL_step rfl rfl (oe_load (e := eZ) (y := y1) rfl ty25 (fun S w h => h.1)) fun u1 _ => TL_og rfl rfl (og_allocM (e := ERep.c eZ) (z := (false, [])) ty25 (fun S w => z25 S w)) fun b3 _ => ?_
   show TL _ _ _ _ (mB (ERep.c eZ) 25 b3 ((false, [])) :: mB (rowT eZ j1) 25 b1 (t4) :: F) (fV eZ (y1) u1 :: fP eZ (y1) p1 :: fV (eS eZ) (a0) va0 :: fV (eS eZ) (a1) va1 :: G) _ _ _ _
   refine TL_mv 1 [(1, va1), (5, .slice (some ⟨b1, 0, none⟩) j1 j1), (6, iv (i3)), (7, .pointer (some ⟨b3, 0, none⟩)), (16, va0), (17, iv ((a0.length : Nat) : Int)), (18, iv (i3)), (22, u1)] rfl fun rest => TL_og rfl rfl (og_store' (f := eZ) (y' := y1) (z2 := y1) 0 rfl rfl rfl (Sub.self eZ ((false, []))) ty25 (fun S w h => h.1) rfl) fun _ _ => ?_
   show TL _ _ _ _ (mB (ERep.c eZ) 25 b3 (y1) :: mB (rowT eZ j1) 25 b1 (t4) :: F) (fV eZ (y1) u1 :: fP eZ (y1) p1 :: fV (eS eZ) (a0) va0 :: fV (eS eZ) (a1) va1 :: G) _ _ _ _
   refine TL_mv 0 [(1, va1), (5, .slice (some ⟨b1, 0, none⟩) j1 j1), (6, iv (i3)), (7, .pointer (some ⟨b3, 0, none⟩)), (16, va0), (17, iv ((a0.length : Nat) : Int)), (18, iv (i3))] rfl fun rest => TL_nil <| T_seq <| T_region <| TL_mv 1 [(1, va1), (5, .slice (some ⟨b1, 0, none⟩) j1 j1), (6, iv (i3)), (7, .pointer (some ⟨b3, 0, none⟩)), (16, va0), (17, iv ((a0.length : Nat) : Int)), (18, iv (i3)), (23, va1)] rfl fun rest => TL_step rfl rfl (oe_len (e := eZ) (xs := a1) Tryz.underlying31 rfl (fun S w h => h.2.2.2.1)) fun _ hl4 => ?_
   refine TL_mv 1 [(1, va1), (5, .slice (some ⟨b1, 0, none⟩) j1 j1), (6, iv (i3)), (7, .pointer (some ⟨b3, 0, none⟩)), (16, va0), (17, iv ((a0.length : Nat) : Int)), (18, iv (i3)), (23, va1), (24, iv ((a1.length : Nat) : Int)), (25, iv 0)] rfl fun rest => TL_nil <| T_block ?_
   obtain ⟨s3, hL, Hc⟩ := bd_s H
   refine T_X [(.x 2, JQ we Se (G := List Zr) (fun t9 => (⟨(mB (rowT eZ j1) 25 b1 (t9) :: F), (fV (eS eZ) (a0) va0 :: fV (eS eZ) (a1) va1 :: G), [(1, va1), (5, .slice (some ⟨b1, 0, none⟩) j1 j1), (16, va0), (17, iv ((a0.length : Nat) : Int)), (18, iv (i3))]⟩ : Inv)) (fun t9 => t9 = s3 ∧ t9.length = j1))] ?_ ⟨?_, trivial⟩
   ·refine T_loop_s (G := Nat × Int × (List Zr)) (s1 := _) (f := _) (k := fun (n2, i6, t8) => n2) (σ := fun (n2, i6, t8) => (i6, t8)) (fun (n2, i6, t8) => (⟨(mB (ERep.c eZ) 25 b3 (y1) :: mB (rowT eZ j1) 25 b1 (t8) :: F), (fV (eS eZ) (a0) va0 :: fV (eS eZ) (a1) va1 :: G), [(1, va1), (5, .slice (some ⟨b1, 0, none⟩) j1 j1), (6, iv (i3)), (7, .pointer (some ⟨b3, 0, none⟩)), (16, va0), (17, iv ((a0.length : Nat) : Int)), (18, iv (i3)), (23, va1), (24, iv ((a1.length : Nat) : Int)), (25, iv (i6))]⟩ : Inv)) (fun (n2, i6, t8) => InR i6 ∧ t8.length = j1) (fu, 0, t4) hL (And.intro (show InR (0) by decide) hz3) rfl (fun w h => St.weak h (fun S w h => ⟨h.2.2.1, h.2.2.2.1, h.2.2.2.2⟩)) ?_
    rintro ⟨n2, i6, t8⟩ ⟨H, hr6, hz7⟩ rest
    rcases n2 with _ | n2
    ·exact (loopN_z H).elim
    replace H := loopN_s H
    unfold B_zpoly_Mul_1 at H
    refine T_prune [(1, va1), (5, .slice (some ⟨b1, 0, none⟩) j1 j1), (6, iv (i3)), (7, .pointer (some ⟨b3, 0, none⟩)), (16, va0), (17, iv ((a0.length : Nat) : Int)), (18, iv (i3)), (23, va1), (24, iv ((a1.length : Nat) : Int)), (25, iv (i6))] rfl fun rest => T_weak (mB (ERep.c eZ) 25 b3 (y1) :: mB (rowT eZ j1) 25 b1 (t8) :: F) (fV (eS eZ) (a0) va0 :: fV (eS eZ) (a1) va1 :: G) (fun w h => h) <| T_seq ?_
    obtain ⟨s4, hL, Hc⟩ := bd_s H
    refine T_X [(.n, JQ we Se (G := Bool) (fun b4 => (⟨(mB (ERep.c eZ) 25 b3 (y1) :: mB (rowT eZ j1) 25 b1 (t8) :: F), (fV (eS eZ) (a0) va0 :: fV (eS eZ) (a1) va1 :: G), [(1, va1), (5, .slice (some ⟨b1, 0, none⟩) j1 j1), (6, iv (i3)), (7, .pointer (some ⟨b3, 0, none⟩)), (16, va0), (17, iv ((a0.length : Nat) : Int)), (18, iv (i3)), (23, va1), (24, iv ((a1.length : Nat) : Int)), (25, iv (i6)), (26, .bool (b4))]⟩ : Inv)) (fun b4 => b4 = s4))] ?_ ⟨?_, trivial⟩
    ·replace H := hL
     refine T_region <| TL_lss rfl rfl rfl rfl (fun h2 => ?_) (fun h2 => ?_)
     ·replace H := if_t h2 H
      refine TL_mv 0 [(1, va1), (5, .slice (some ⟨b1, 0, none⟩) j1 j1), (6, iv (i3)), (7, .pointer (some ⟨b3, 0, none⟩)), (16, va0), (17, iv ((a0.length : Nat) : Int)), (18, iv (i3)), (23, va1), (24, iv ((a1.length : Nat) : Int)), (25, iv (i6)), (26, .bool true)] rfl fun rest => TL_nil ?_
      exact JQ_mk true (Option.some.inj H) rfl (fun w h => St.weak h (fun S w h => ⟨h.1, h.2.1, h.2.2⟩))
     replace H := if_f h2 H
     refine TL_mv 0 [(1, va1), (5, .slice (some ⟨b1, 0, none⟩) j1 j1), (6, iv (i3)), (7, .pointer (some ⟨b3, 0, none⟩)), (16, va0), (17, iv ((a0.length : Nat) : Int)), (18, iv (i3)), (23, va1), (24, iv ((a1.length : Nat) : Int)), (25, iv (i6)), (26, .bool false)] rfl fun rest => TL_nil ?_
     exact JQ_mk false (Option.some.inj H) rfl (fun w h => St.weak h (fun S w h => ⟨h.1, h.2.1, h.2.2⟩))
    refine JQ_el' ?_
    rintro b4 hs rest
    subst hs
    replace H := Hc
    clear hL
    refine JG_to (ms' := (mB (ERep.c eZ) 25 b3 (y1) :: mB (rowT eZ j1) 25 b1 (t8) :: F)) (Γ' := (fV (eS eZ) (a0) va0 :: fV (eS eZ) (a1) va1 :: G)) (live' := [(1, va1), (5, .slice (some ⟨b1, 0, none⟩) j1 j1), (6, iv (i3)), (7, .pointer (some ⟨b3, 0, none⟩)), (16, va0), (17, iv ((a0.length : Nat) : Int)), (18, iv (i3)), (23, va1), (24, iv ((a1.length : Nat) : Int)), (25, iv (i6)), (26, .bool (b4))]) rfl <| T_seq <| T_cond (b4) rfl (fun hb2 => ?_) (fun hb2 => ?_)
    ·replace H := if_t hb2 H
     refine T_skip <| T_seq <| T_block <| T_seq <| T_region <| TL_mv 1 [(1, va1), (5, .slice (some ⟨b1, 0, none⟩) j1 j1), (6, iv (i3)), (7, .pointer (some ⟨b3, 0, none⟩)), (16, va0), (17, iv ((a0.length : Nat) : Int)), (18, iv (i3)), (23, va1), (24, iv ((a1.length : Nat) : Int)), (25, iv (i6)), (27, iv (i6))] rfl fun rest => ?_
     obtain ⟨j3, hj3, hlj3, H⟩ := ckI_s H
     obtain ⟨y2, hy2, H⟩ := nm_s H
     refine TL_step rfl rfl (oe_index (e := eZ) (xs := a1) (k := j3) (y := y2) rfl (vi hj3) Tryz.underlying31 ty25 (getE (z := (false, [])) hlj3 hy2) (fun S w h => h.2.1)) fun p2 _ => TL_step rfl rfl (oe_load (e := eZ) (y := y2) rfl ty25 (fun S w h => h.1)) fun u2 _ => TL_og rfl rfl (og_allocM (e := ERep.c eZ) (z := (false, [])) ty25 (fun S w => z25 S w)) fun b5 _ => ?_
     show TL _ _ _ _ (mB (ERep.c eZ) 25 b5 ((false, [])) :: mB (ERep.c eZ) 25 b3 (y1) :: mB (rowT eZ j1) 25 b1 (t8) :: F) (fV eZ (y2) u2 :: fP eZ (y2) p2 :: fV (eS eZ) (a0) va0 :: fV (eS eZ) (a1) va1 :: G) _ _ _ _
     refine TL_mv 1 [(1, va1), (5, .slice (some ⟨b1, 0, none⟩) j1 j1), (6, iv (i3)), (7, .pointer (some ⟨b3, 0, none⟩)), (8, iv (i6)), (9, .pointer (some ⟨b5, 0, none⟩)), (16, va0), (17, iv ((a0.length : Nat) : Int)), (18, iv (i3)), (23, va1), (24, iv ((a1.length : Nat) : Int)), (25, iv (i6)), (29, u2)] rfl fun rest => TL_og rfl rfl (og_store' (f := eZ) (y' := y2) (z2 := y2) 0 rfl rfl rfl (Sub.self eZ ((false, []))) ty25 (fun S w h => h.1) rfl) fun _ _ => ?_
     show TL _ _ _ _ (mB (ERep.c eZ) 25 b5 (y2) :: mB (ERep.c eZ) 25 b3 (y1) :: mB (rowT eZ j1) 25 b1 (t8) :: F) (fV eZ (y2) u2 :: fP eZ (y2) p2 :: fV (eS eZ) (a0) va0 :: fV (eS eZ) (a1) va1 :: G) _ _ _ _
     refine TL_mv 0 [(1, va1), (5, .slice (some ⟨b1, 0, none⟩) j1 j1), (6, iv (i3)), (7, .pointer (some ⟨b3, 0, none⟩)), (8, iv (i6)), (9, .pointer (some ⟨b5, 0, none⟩)), (16, va0), (17, iv ((a0.length : Nat) : Int)), (18, iv (i3)), (23, va1), (24, iv ((a1.length : Nat) : Int)), (25, iv (i6))] rfl fun rest => TL_nil ?_
     obtain ⟨x2, hx2, hrx2, H⟩ := ck64_s H
     obtain ⟨x3, hx3, hrx3, H⟩ := ck64_s H
     obtain ⟨j4, hj4, hlj4, H⟩ := ckI_s H
     obtain ⟨y3, hy3, H⟩ := nm_s H
     obtain ⟨t10, he1, H⟩ := bd_s H
     obtain ⟨t11, he2, H⟩ := bd_s H
     refine T_draw 14 [prV (.slice (some ⟨b1, 0, none⟩) j1 j1), prE (fun _ : Unit => iv (i3)) (fun _ => []) (fun _ => InR i3), prE (fun _ : Unit => iv (i6)) (fun _ => []) (fun _ => InR i6), prE (fun _ : Unit => iv (x2)) (fun _ => []) (fun _ => InR x2), prV (.slice (some ⟨b1, 0, none⟩) j1 j1), prE (fun _ : Unit => iv (i3)) (fun _ => []) (fun _ => InR i3), prE (fun _ : Unit => iv (i6)) (fun _ => []) (fun _ => InR i6), prE (fun _ : Unit => iv (x3)) (fun _ => []) (fun _ => InR x3), prV (.pointer (some ⟨b1, 0 + j4 * 2, none⟩)), prE (fun u : Value => u) (fun u => [fV eZ (y3) u]) (fun _ => True), prE (fun u : Value => u) (fun u => [fV eZ (y1) u]) (fun _ => True), prE (fun u : Value => u) (fun u => [fV eZ (y2) u]) (fun _ => True), prE (fun u : Value => u) (fun u => [fV eZ (t10) u]) (fun _ => True), prE (fun u : Value => u) (fun u => [fV eZ (t11) u]) (fun _ => True)] [1, 5, 6, 7, 16, 17, 18, 23, 24, 25, 30, 33, 43] rfl (by kernel_rfl) rfl (by kernel_rfl) ⟨?_, ?_, ?_, ?_, ?_, ?_, ?_, ?_, ?_, ?_, ?_, ?_, ?_, ?_, trivial⟩ ?_
     ·intro S w env hS hM hΓ hl
      obtain ⟨e5, _⟩ := hl
      exact ⟨fun _ => ob_mv (e5.trans rfl), fun hc => (by cases hc)⟩
     ·intro S w env hS hM hΓ hl
      obtain ⟨e6, _⟩ := hl
      exact ⟨fun _ => ob_VE (p := InR i3) (r_mv (e6.trans rfl)) hr3, fun hc => (by cases hc)⟩
     ·intro S w env hS hM hΓ hl
      obtain ⟨e8, _⟩ := hl
      exact ⟨fun _ => ob_VE (p := InR i6) (r_mv (e8.trans rfl)) hr6, fun hc => (by cases hc)⟩
     ·intro S w env hS hM hΓ hl
      obtain ⟨⟨_, e31, ho1, f31⟩, ⟨_, e32, ho2, f32⟩, _⟩ := hl
      exact ⟨fun _ => ob_VE (p := InR x2) (r_add (c := x2) e31 e32 (w_x hx2 hrx2)) hrx2, fun hc => (by cases hc)⟩
     ·intro S w env hS hM hΓ hl
      obtain ⟨e5, _⟩ := hl
      exact ⟨fun _ => ob_mv (e5.trans rfl), fun hc => (by cases hc)⟩
     ·intro S w env hS hM hΓ hl
      obtain ⟨e6, _⟩ := hl
      exact ⟨fun _ => ob_VE (p := InR i3) (r_mv (e6.trans rfl)) hr3, fun hc => (by cases hc)⟩
     ·intro S w env hS hM hΓ hl
      obtain ⟨e8, _⟩ := hl
      exact ⟨fun _ => ob_VE (p := InR i6) (r_mv (e8.trans rfl)) hr6, fun hc => (by cases hc)⟩
     ·intro S w env hS hM hΓ hl
      obtain ⟨⟨_, e35, ho4, f35⟩, ⟨_, e36, ho5, f36⟩, _⟩ := hl
      exact ⟨fun _ => ob_VE (p := InR x3) (r_add (c := x3) e35 e36 (w_x hx3 hrx3)) hrx3, fun hc => (by cases hc)⟩
     ·intro S w env hS hM hΓ hl
      obtain ⟨e34, ⟨_, e37, ho6, f37⟩, _⟩ := hl
      exact ⟨fun _ => ob_V (r_index Tryz.underlying31 ty25 e34 (e37.trans (vi hj4)) (k := j4) (lt_of_len hlj4 hz7)), fun hc => (by cases hc)⟩
     ·intro S w env hS hM hΓ hl
      obtain ⟨e38, _⟩ := hl
      exact ⟨fun _ => ob_E (Γ := (fV eZ (y2) u2 :: fP eZ (y2) p2 :: fV (eS eZ) (a0) va0 :: fV (eS eZ) (a1) va1 :: G)) (oe_loadM (z' := y3) 2 rfl e38 (Sub.rowT0 eZ j1 (t8) j4 _ (getE (z := (false, [])) (lt_of_len' (lt_of_len hlj4 hz7) hz7) hy3)) ty25) hS hM hΓ, fun hc => (by cases hc)⟩
     ·intro S w env hS hM hΓ hl
      obtain ⟨e7, _⟩ := hl
      exact ⟨fun _ => ob_E (Γ := (fV eZ (y2) u2 :: fP eZ (y2) p2 :: fV (eS eZ) (a0) va0 :: fV (eS eZ) (a1) va1 :: G)) (oe_loadM (z' := y1) 1 rfl (e7.trans rfl) (Sub.self eZ (y1)) ty25) hS hM hΓ, fun hc => (by cases hc)⟩
     ·intro S w env hS hM hΓ hl
      obtain ⟨e9, _⟩ := hl
      exact ⟨fun _ => ob_E (Γ := (fV eZ (y2) u2 :: fP eZ (y2) p2 :: fV (eS eZ) (a0) va0 :: fV (eS eZ) (a1) va1 :: G)) (oe_loadM (z' := y2) 0 rfl (e9.trans rfl) (Sub.self eZ (y2)) ty25) hS hM hΓ, fun hc => (by cases hc)⟩
     ·intro S w env hS hM hΓ hl
      obtain ⟨⟨u4, e40, _, f40⟩, ⟨u5, e41, _, f41⟩, _⟩ := hl
      exact ⟨fun _ => ob_E (Γ := (fV eZ (y1) u4 :: fV eZ (y2) u5 :: fV eZ (y2) u2 :: fP eZ (y2) p2 :: fV (eS eZ) (a0) va0 :: fV (eS eZ) (a1) va1 :: G)) (oe_call (by kernel_rfl) (c_zint_Mul fu y1 u4 y2 u5 t10 he1) (la_cons e40 (la_cons e41 la_nil)) (fun S w h => ⟨h.1, h.2.1, trivial⟩)) hS hM ⟨f40.1, f41.1, hΓ⟩, fun hc => (by cases hc)⟩
     ·intro S w env hS hM hΓ hl
      obtain ⟨⟨u3, e39, _, f39⟩, ⟨u6, e42, _, f42⟩, _⟩ := hl
      exact ⟨fun _ => ob_E (Γ := (fV eZ (y3) u3 :: fV eZ (t10) u6 :: fV eZ (y2) u2 :: fP eZ (y2) p2 :: fV (eS eZ) (a0) va0 :: fV (eS eZ) (a1) va1 :: G)) (oe_call (by kernel_rfl) (c_zint_Add fu y3 u3 t10 u6 t11 he2) (la_cons e39 (la_cons e42 la_nil)) (fun S w h => ⟨h.1, h.2.1, trivial⟩)) hS hM ⟨f39.1, f42.1, hΓ⟩, fun hc => (by cases hc)⟩
     intro S w env hS hΓ hl
     obtain ⟨e1, e5, e6, e7, e16, e17, e18, e23, e24, e25, e30, ⟨_, e33, ho3, f33⟩, ⟨u7, e43, _, f43⟩, _⟩ := hl
     refine ⟨(fV eZ (t11) u7 :: fV eZ (y2) u2 :: fP eZ (y2) p2 :: fV (eS eZ) (a0) va0 :: fV (eS eZ) (a1) va1 :: G), [(1, va1), (5, .slice (some ⟨b1, 0, none⟩) j1 j1), (6, iv (i3)), (7, .pointer (some ⟨b3, 0, none⟩)), (16, va0), (17, iv ((a0.length : Nat) : Int)), (18, iv (i3)), (23, va1), (24, iv ((a1.length : Nat) : Int)), (25, iv (i6)), (30, .slice (some ⟨b1, 0, none⟩) j1 j1), (33, iv (x2)), (43, u7)], ⟨f43.1, hΓ⟩, (agr ⟨(e1.trans rfl), (e5.trans rfl), (e6.trans rfl), (e7.trans rfl), (e16.trans rfl), (e17.trans rfl), (e18.trans rfl), (e23.trans rfl), (e24.trans rfl), (e25.trans rfl), e30, e33, e43, trivial⟩), fun rest => ?_⟩
     obtain ⟨j5, hj5, hlj5, H⟩ := ckI_s H
     refine TL_val rfl rfl (r_index Tryz.underlying31 ty25 rfl (vi hj5) (k := j5) (lt_of_len hlj5 hz7)) ?_
     obtain ⟨t12, ht12, H⟩ := nm_s H
     refine TL_og rfl rfl (og_store' (f := eZ) (y' := t11) (z2 := t12) 2 rfl rfl rfl (Sub.rowT0 eZ j1 (t8) j5 _ (getD_some ((false, [])) (lt_of_len' (lt_of_len hlj5 hz7) hz7))) ty25 (fun S w h => h.1) ht12) fun _ _ => ?_
     show TL _ _ _ _ (mB (ERep.c eZ) 25 b5 (y2) :: mB (ERep.c eZ) 25 b3 (y1) :: mB (rowT eZ j1) 25 b1 (t12) :: F) (fV eZ (t11) u7 :: fV eZ (y2) u2 :: fP eZ (y2) p2 :: fV (eS eZ) (a0) va0 :: fV (eS eZ) (a1) va1 :: G) _ _ _ _
     refine TL_mv 0 [(1, va1), (5, .slice (some ⟨b1, 0, none⟩) j1 j1), (6, iv (i3)), (7, .pointer (some ⟨b3, 0, none⟩)), (16, va0), (17, iv ((a0.length : Nat) : Int)), (18, iv (i3)), (23, va1), (24, iv ((a1.length : Nat) : Int)), (25, iv (i6))] rfl fun rest => TL_nil <| T_region ?_
     obtain ⟨x4, hx4, hrx4, H⟩ := ck64_s H
     refine TL_val rfl rfl (r_add (c := x4) rfl rfl (w_x hx4 hrx4)) <| TL_mv 1 [(1, va1), (5, .slice (some ⟨b1, 0, none⟩) j1 j1), (6, iv (i3)), (7, .pointer (some ⟨b3, 0, none⟩)), (16, va0), (17, iv ((a0.length : Nat) : Int)), (18, iv (i3)), (23, va1), (24, iv ((a1.length : Nat) : Int)), (25, iv (x4))] rfl fun rest => TL_nil ?_
     exact St_round_s (n2, x4, t12) H (And.intro hrx4 (set_len ht12 hz7)) (Nat.lt_succ_self _) rfl (fun w h => St.weak (St.drop (i := 0) h) (fun S w h => ⟨h.2.2.2.1, h.2.2.2.2.1, h.2.2.2.2.2⟩))
    replace H := ifb_f hb2 H
    refine T_exit ?_
    exact JQ_mk t8 (And.intro (Option.some.inj H) hz7) rfl (fun w h => St.weak (St.drop (i := 0) h) (fun S w h => ⟨h.1, h.2.1, h.2.2⟩))
   refine JQ_el' ?_
   rintro t9 ⟨hs, hz8⟩ rest
   subst hs
   replace H := Hc
   clear hL
   refine JG_to (ms' := (mB (rowT eZ j1) 25 b1 (t9) :: F)) (Γ' := (fV (eS eZ) (a0) va0 :: fV (eS eZ) (a1) va1 :: G)) (live' := [(1, va1), (5, .slice (some ⟨b1, 0, none⟩) j1 j1), (16, va0), (17, iv ((a0.length : Nat) : Int)), (18, iv (i3))]) rfl <| T_region ?_
   obtain ⟨x5, hx5, hrx5, H⟩ := ck64_s H
   refine TL_val rfl rfl (r_add (c := x5) rfl rfl (w_x hx5 hrx5)) <| TL_mv 1 [(1, va1), (5, .slice (some ⟨b1, 0, none⟩) j1 j1), (16, va0), (17, iv ((a0.length : Nat) : Int)), (18, iv (x5))] rfl fun rest => TL_nil ?_
   exact St_round_s (n1, x5, t9) H (And.intro hrx5 hz8) (Nat.lt_succ_self _) rfl (fun w h => St.weak h (fun S w h => ⟨h.1, h.2.1, h.2.2⟩))
  replace H := ifb_f hb1 H
  refine T_exit ?_
  exact JQ_mk t4 (And.intro (Option.some.inj H) hz3) rfl (fun w h => St.weak h (fun S w h => h.2.2))
 refine JQ_el' ?_
 rintro t5 ⟨hs, hz4⟩ rest
 subst hs
 replace H := Hc
 clear hL
 refine JG_to (ms' := (mB (rowT eZ j1) 25 b1 (t5) :: F)) (Γ' := (G)) (live' := [(5, .slice (some ⟨b1, 0, none⟩) j1 j1)]) rfl <| T_seq <| T_region <| TL_mv 1 [(47, .slice (some ⟨b1, 0, none⟩) j1 j1)] rfl fun rest => TL_weak_st (fun w h => fz_all 0 h rfl hz4 (Nat.le_refl _) (mk_le (B := 32) (by decide) hk1)) ?_
 obtain ⟨t13, he3, H⟩ := bd_s H
 refine TL_og rfl rfl (og_callG (F := (F)) (by kernel_rfl) (c_zpoly_Norm fu t5 ((.slice (some ⟨b1, 0, none⟩) j1 j1)) t13 he3) rfl (fun S w h => ⟨h.1, trivial⟩)) fun u8 _ => ?_
 show TL _ _ _ _ (mO eZ 25 u8 (t13) :: F) (fV (eS eZ) (t5) ((.slice (some ⟨b1, 0, none⟩) j1 j1)) :: G) _ _ _ _
 refine TL_mv 1 [(4, u8)] rfl fun rest => TL_nil <| T_ret ?_
 obtain rfl := inj1 H
 intro w hw
 exact RetG (vs := [u8]) u8 Tryz.results39 (by exact ⟨rfl, trivial⟩) rfl trivial (St.weak hw (fun S w h => h.2))
theorem z_zpoly_Mul (fu : Nat) (a0 : List Zr) (va0 : Value) (a1 : List Zr) (va1 : Value) (r0 : List Zr) (H : M_zpoly_Mul fu a0 a1 = some r0) : Fn Tryz.prog 39 [va0, va1].toArray [fV (eS eZ) (a0) va0, fV (eS eZ) (a1) va1] (fun u : Value => u) (fun u => [fV (eS eZ) (r0) u]) (fun _ => True) :=
  FnG.frozen (c_zpoly_Mul fu a0 va0 a1 va1 r0 H) fun u w we Se h => (fz_own 0 h rfl)
set_option maxRecDepth 100000 in
set_option maxHeartbeats 1000000 in
theorem c_zpoly_Lift_1 (fu : Nat) (a0 : Int) (qa0 : InR a0) (a1 : Int) (qa1 : InR a1) (r0 : Zr) (H : M_zpoly_Lift_1 fu a0 a1 = some r0) : Fn Tryz.prog 170 [iv a0, iv a1].toArray [] (fun u : Value => u) (fun u => [fV eZ (r0) u]) (fun _ => True) := by
 unfold M_zpoly_Lift_1 at H
 refine Fn_intro Tryz.func170 rfl rfl fun we Se rest => T_seq <| T_region <| TL_og rfl rfl (og_allocM (e := ERep.c eZ) (z := (false, [])) ty25 (fun S w => z25 S w)) fun b1 _ => ?_
 show TL _ _ _ _ [mB (ERep.c eZ) 25 b1 ((false, []))] [] _ _ _ _
 refine TL_mv 0 [(1, iv (a1)), (4, .pointer (some ⟨b1, 0, none⟩))] rfl fun rest => TL_nil <| T_seq <| T_region <| TL_mv 1 [(4, .pointer (some ⟨b1, 0, none⟩)), (5, iv (a1))] rfl fun rest => ?_
 obtain ⟨t1, he1, H⟩ := bd_s H
 refine TL_step rfl rfl (oe_call (by kernel_rfl) (c_zint_Of fu a1 qa1 t1 he1) rfl (fun S w h => trivial)) fun u1 _ => TL_og rfl rfl (og_store' (f := eZ) (y' := t1) (z2 := t1) 0 rfl rfl rfl (Sub.self eZ ((false, []))) ty25 (fun S w h => h.1) rfl) fun _ _ => ?_
 show TL _ _ _ _ [mB (ERep.c eZ) 25 b1 (t1)] [fV eZ (t1) u1] _ _ _ _
 refine TL_mv 0 [(4, .pointer (some ⟨b1, 0, none⟩))] rfl fun rest => TL_nil <| T_ret ?_
 obtain rfl := inj1 H
 intro w hw
 change RetQ _ _ _ _ _ _ _ .ret _ w
 refine Ret_cN (e := eZ) (z := t1) 4 0 hw rfl (by exact rfl) ty25 fun r_1 hw hr_1 => ?_
 exact RetN (vs := [r_1]) r_1 Tryz.results170 (by exact ⟨hr_1, trivial⟩) rfl trivial hw (fun S w h => ⟨h.1, trivial⟩)
set_option maxRecDepth 100000 in
set_option maxHeartbeats 1000000 in
theorem c_zpoly_each_int_api_Int (fu : Nat) (a0 : List Int) (va0 : Value) (a1 : Int → Int → Option Zr) (fid : Nat) (caps : List Value) (FG : List FF) (hB : fnB Tryz.prog fid = true) (hF : ∀ (xa0 : Int) (qxa0 : InR xa0) (xa1 : Int) (qxa1 : InR xa1) (y0 : Zr), a1 xa0 xa1 = some y0 → Fn Tryz.prog fid ([(iv xa0 : Value), (iv xa1 : Value)] ++ caps).toArray ([] ++ FG) (fun u : Value => u) (fun u => [fV eZ (y0) u]) (fun _ => True)) (r0 : List Zr) (H : M_zpoly_each_int_api_Int fu a0 a1 = some r0) : FnG Tryz.prog 169 [va0, .func (.func fid) #[] caps.toArray].toArray [] ([fV (eS eI) (a0) va0] ++ FG) (fun u : Value => u) (fun u => [mO eZ 25 u (r0)]) (fun u => []) (fun _ => True) := by
 unfold M_zpoly_each_int_api_Int at H
 refine FnG_intro Tryz.func169 rfl rfl fun we Se F G rest => T_seq <| T_region <| TL_mv 1 [(0, va0), (1, .func (.func fid) #[] caps.toArray)] rfl fun rest => TL_nil <| T_seq ?_
 refine T_region <| TL_mv 1 [(0, va0), (1, .func (.func fid) #[] caps.toArray), (8, va0)] rfl fun rest => TL_step rfl rfl (oe_len (e := eI) (xs := a0) Tryz.underlying51 rfl (fun S w h => h.1)) fun _ hl1 => ?_
 obtain ⟨hk1, H⟩ := ck_s H
 obtain ⟨t1, ht1, H⟩ := nm_s H
 refine TL_og rfl rfl (og_make' (e := eZ) (z := (false, [])) (xs := t1) (n := a0.length) Tryz.underlying31 ty25 rfl rfl (by decide) hk1 (fun S w => z25 S w) ht1) fun b1 _ => ?_
 show TL _ _ _ _ (mB (rowT eZ a0.length) 25 b1 (t1) :: F) (fV (eS eI) (a0) va0 :: (FG ++ G)) _ _ _ _
 refine TL_mv 1 [(0, va0), (1, .func (.func fid) #[] caps.toArray), (5, .slice (some ⟨b1, 0, none⟩) a0.length a0.length)] rfl fun rest => TL_nil <| T_seq <| T_seq <| T_region <| TL_mv 1 [(1, .func (.func fid) #[] caps.toArray), (5, .slice (some ⟨b1, 0, none⟩) a0.length a0.length), (11, va0)] rfl fun rest => ?_
 refine TL_step rfl rfl (oe_len (e := eI) (xs := a0) Tryz.underlying51 rfl (fun S w h => h.1)) fun _ hl2 => TL_mv 1 [(1, .func (.func fid) #[] caps.toArray), (5, .slice (some ⟨b1, 0, none⟩) a0.length a0.length), (11, va0), (12, iv ((a0.length : Nat) : Int)), (13, iv 0)] rfl fun rest => TL_nil <| T_block ?_
 obtain ⟨s1, hL, Hc⟩ := bd_s H
 refine T_X [(.x 0, JQ we Se (G := List Zr) (fun t5 => (⟨(mB (rowT eZ a0.length) 25 b1 (t5) :: F), ((FG ++ G)), [(5, .slice (some ⟨b1, 0, none⟩) a0.length a0.length)]⟩ : Inv)) (fun t5 => t5 = s1 ∧ t5.length = a0.length))] ?_ ⟨?_, trivial⟩
 ·refine T_loop_s (G := Nat × Int × (List Zr)) (s1 := _) (f := _) (k := fun (n1, i3, t4) => n1) (σ := fun (n1, i3, t4) => (i3, t4)) (fun (n1, i3, t4) => (⟨(mB (rowT eZ a0.length) 25 b1 (t4) :: F), (fV (eS eI) (a0) va0 :: (FG ++ G)), [(1, .func (.func fid) #[] caps.toArray), (5, .slice (some ⟨b1, 0, none⟩) a0.length a0.length), (11, va0), (12, iv ((a0.length : Nat) : Int)), (13, iv (i3))]⟩ : Inv)) (fun (n1, i3, t4) => InR i3 ∧ t4.length = a0.length) (fu, 0, t1) hL (And.intro (show InR (0) by decide) (rep_len ht1)) rfl (fun w h => St.weak h (fun S w h => ⟨h.1, h.2⟩)) ?_
  rintro ⟨n1, i3, t4⟩ ⟨H, hr3, hz3⟩ rest
  rcases n1 with _ | n1
  ·exact (loopN_z H).elim
  replace H := loopN_s H
  unfold B_zpoly_each_int_api_Int_0 at H
  refine T_prune [(1, .func (.func fid) #[] caps.toArray), (5, .slice (some ⟨b1, 0, none⟩) a0.length a0.length), (11, va0), (12, iv ((a0.length : Nat) : Int)), (13, iv (i3))] rfl fun rest => T_weak (mB (rowT eZ a0.length) 25 b1 (t4) :: F) (fV (eS eI) (a0) va0 :: (FG ++ G)) (fun w h => h) <| T_seq <| T_region <| TL_lss rfl rfl rfl rfl (fun h1 => ?_) (fun h1 => ?_)
  ·replace H := if_t h1 H
   refine TL_mv 0 [(1, .func (.func fid) #[] caps.toArray), (5, .slice (some ⟨b1, 0, none⟩) a0.length a0.length), (11, va0), (12, iv ((a0.length : Nat) : Int)), (13, iv (i3)), (14, .bool true)] rfl fun rest => TL_nil <| T_seq <| T_cond_true rfl <| T_skip <| T_seq ?_
   refine T_block <| T_seq <| T_region <| TL_mv 1 [(1, .func (.func fid) #[] caps.toArray), (5, .slice (some ⟨b1, 0, none⟩) a0.length a0.length), (11, va0), (12, iv ((a0.length : Nat) : Int)), (13, iv (i3)), (15, iv (i3))] rfl fun rest => ?_
   obtain ⟨j1, hj1, hlj1, H⟩ := ckI_s H
   obtain ⟨y1, hy1, H⟩ := nm_s H
   refine TL_step rfl rfl (oe_index (e := eI) (xs := a0) (k := j1) (y := y1) rfl (vi hj1) Tryz.underlying51 ty3 (getE (z := 0) hlj1 hy1) (fun S w h => h.1)) fun p1 _ => TL_step rfl rfl (oe_load_i64 (y := y1) rfl ty3 (fun S w h => h.1)) fun _ hv1 => TL_mv 2 [(1, .func (.func fid) #[] caps.toArray), (5, .slice (some ⟨b1, 0, none⟩) a0.length a0.length), (6, iv (i3)), (7, iv (y1)), (11, va0), (12, iv ((a0.length : Nat) : Int)), (13, iv (i3))] rfl fun rest => TL_nil <| T_region <| TL_mv 5 [(1, .func (.func fid) #[] caps.toArray), (5, .slice (some ⟨b1, 0, none⟩) a0.length a0.length), (11, va0), (12, iv ((a0.length : Nat) : Int)), (13, iv (i3)), (18, .slice (some ⟨b1, 0, none⟩) a0.length a0.length), (19, iv (i3)), (20, .func (.func fid) #[] caps.toArray), (21, iv (i3)), (22, iv (y1))] rfl fun rest => ?_
   obtain ⟨t6, he1, H⟩ := bd_s H
   refine TL_step rfl rfl (oe_callv (args := [(iv (i3) : Value), (iv (y1) : Value)]) (caps := caps) hB rfl (hF i3 hr3 y1 hv1 t6 he1) rfl (fun S w h => (All.left h.2.2))) fun u1 _ => ?_
   obtain ⟨j2, hj2, hlj2, H⟩ := ckI_s H
   refine TL_val rfl rfl (r_index Tryz.underlying31 ty25 rfl (vi hj2) (k := j2) (lt_of_len hlj2 hz3)) ?_
   obtain ⟨t7, ht7, H⟩ := nm_s H
   refine TL_og rfl rfl (og_store' (f := eZ) (y' := t6) (z2 := t7) 0 rfl rfl rfl (Sub.rowT0 eZ a0.length (t4) j2 _ (getD_some ((false, [])) (lt_of_len' (lt_of_len hlj2 hz3) hz3))) ty25 (fun S w h => h.1) ht7) fun _ _ => ?_
   show TL _ _ _ _ (mB (rowT eZ a0.length) 25 b1 (t7) :: F) (fV eZ (t6) u1 :: fP eI (y1) p1 :: fV (eS eI) (a0) va0 :: (FG ++ G)) _ _ _ _
   refine TL_mv 0 [(1, .func (.func fid) #[] caps.toArray), (5, .slice (some ⟨b1, 0, none⟩) a0.length a0.length), (11, va0), (12, iv ((a0.length : Nat) : Int)), (13, iv (i3))] rfl fun rest => TL_nil <| T_region ?_
   obtain ⟨x1, hx1, hrx1, H⟩ := ck64_s H
   refine TL_val rfl rfl (r_add (c := x1) rfl rfl (w_x hx1 hrx1)) <| TL_mv 1 [(1, .func (.func fid) #[] caps.toArray), (5, .slice (some ⟨b1, 0, none⟩) a0.length a0.length), (11, va0), (12, iv ((a0.length : Nat) : Int)), (13, iv (x1))] rfl fun rest => TL_nil ?_
   exact St_round_s (n1, x1, t7) H (And.intro hrx1 (set_len ht7 hz3)) (Nat.lt_succ_self _) rfl (fun w h => St.weak h (fun S w h => ⟨h.2.2.1, h.2.2.2⟩))
  replace H := if_f h1 H
  refine TL_mv 0 [(1, .func (.func fid) #[] caps.toArray), (5, .slice (some ⟨b1, 0, none⟩) a0.length a0.length), (11, va0), (12, iv ((a0.length : Nat) : Int)), (13, iv (i3)), (14, .bool false)] rfl fun rest => TL_nil <| T_seq <| T_cond_false rfl <| T_exit ?_
  exact JQ_mk t4 (And.intro (Option.some.inj H) hz3) rfl (fun w h => St.weak h (fun S w h => h.2))
 refine JQ_el' ?_
 rintro t5 ⟨hs, hz4⟩ rest
 subst hs
 replace H := Hc
 clear hL
 refine JG_to (ms' := (mB (rowT eZ a0.length) 25 b1 (t5) :: F)) (Γ' := ((FG ++ G))) (live' := [(5, .slice (some ⟨b1, 0, none⟩) a0.length a0.length)]) rfl <| T_seq <| T_region <| TL_mv 2 [(4, .slice (some ⟨b1, 0, none⟩) a0.length a0.length)] rfl fun rest => TL_nil <| T_ret ?_
 refine T_weak_st (fun w h => close_all 0 h rfl hz4 (Nat.le_refl _) (mk_le (B := 32) (by decide) hk1)) ?_
 obtain rfl := inj1 H
 intro w hw
 exact RetG (vs := [(.slice (some ⟨b1, 0, none⟩) a0.length a0.length)]) (.slice (some ⟨b1, 0, none⟩) a0.length a0.length) Tryz.results169 (by exact ⟨rfl, trivial⟩) rfl trivial (St.weak hw (fun S w h => (All.right h)))
set_option maxRecDepth 100000 in
set_option maxHeartbeats 1000000 in
theorem c_zpoly_Lift (fu : Nat) (a0 : List Int) (va0 : Value) (r0 : List Zr) (H : M_zpoly_Lift fu a0 = some r0) : FnG Tryz.prog 114 [va0].toArray [] [fV (eS eI) (a0) va0] (fun u : Value => u) (fun u => [mO eZ 25 u (r0)]) (fun u => []) (fun _ => True) := by
 unfold M_zpoly_Lift at H
 refine FnG_intro Tryz.func114 rfl rfl fun we Se F G rest => T_seq <| T_region <| TL_mv 1 [(0, va0)] rfl fun rest => TL_nil <| T_seq ?_
 refine T_region <| TL_mv 1 [(3, va0)] rfl fun rest => ?_
 obtain ⟨t1, he1, H⟩ := bd_s H
 refine TL_og rfl rfl (og_callG (F := (F)) (by kernel_rfl) (c_zpoly_each_int_api_Int fu a0 va0 (fun zx0 zx1 => M_zpoly_Lift_1 fu zx0 zx1) 170 [] [] (by kernel_rfl) (fun zx0 qzx0 zx1 qzx1 zy0 hh => c_zpoly_Lift_1 fu zx0 qzx0 zx1 qzx1 zy0 hh) t1 he1) rfl (fun S w h => ⟨h.1, trivial⟩)) fun u1 _ => ?_
 show TL _ _ _ _ (mO eZ 25 u1 (t1) :: F) (fV (eS eI) (a0) va0 :: G) _ _ _ _
 refine TL_weak_st (fun w h => fz_own 0 h rfl) ?_
 obtain ⟨t2, he2, H⟩ := bd_s H
 refine TL_og rfl rfl (og_callG (F := (F)) (by kernel_rfl) (c_zpoly_Norm fu t1 u1 t2 he2) rfl (fun S w h => ⟨h.1, trivial⟩)) fun u2 _ => ?_
 show TL _ _ _ _ (mO eZ 25 u2 (t2) :: F) (fV (eS eZ) (t1) u1 :: fV (eS eI) (a0) va0 :: G) _ _ _ _
 refine TL_mv 1 [(2, u2)] rfl fun rest => TL_nil <| T_ret ?_
 obtain rfl := inj1 H
 intro w hw
 exact RetG (vs := [u2]) u2 Tryz.results114 (by exact ⟨rfl, trivial⟩) rfl trivial (St.weak hw (fun S w h => h.2.2))
set_option maxRecDepth 100000 in
set_option maxHeartbeats 1000000 in
theorem c_zpoly_Of (fu : Nat) (a0 : List Int) (va0 : Value) (r0 : List Zr) (H : M_zpoly_Of fu a0 = some r0) : FnG Tryz.prog 50 [va0].toArray [] [fV (eS eI) (a0) va0] (fun u : Value => u) (fun u => [mO eZ 25 u (r0)]) (fun u => []) (fun _ => True) := by
 unfold M_zpoly_Of at H
 refine FnG_intro Tryz.func50 rfl rfl fun we Se F G rest => T_seq <| T_region <| TL_mv 1 [(0, va0)] rfl fun rest => TL_nil <| T_seq ?_
 refine T_region <| TL_mv 1 [(3, va0)] rfl fun rest => ?_
 obtain ⟨t1, he1, H⟩ := bd_s H
 refine TL_og rfl rfl (og_callG (F := (F)) (by kernel_rfl) (c_zpoly_Lift fu a0 va0 t1 he1) rfl (fun S w h => ⟨h.1, trivial⟩)) fun u1 _ => ?_
 show TL _ _ _ _ (mO eZ 25 u1 (t1) :: F) (fV (eS eI) (a0) va0 :: G) _ _ _ _
 refine TL_mv 1 [(2, u1)] rfl fun rest => TL_nil <| T_ret ?_
 obtain rfl := inj1 H
 intro w hw
 exact RetG (vs := [u1]) u1 Tryz.results50 (by exact ⟨rfl, trivial⟩) rfl trivial (St.weak hw (fun S w h => h.2))
theorem z_zpoly_Of (fu : Nat) (a0 : List Int) (va0 : Value) (r0 : List Zr) (H : M_zpoly_Of fu a0 = some r0) : Fn Tryz.prog 50 [va0].toArray [fV (eS eI) (a0) va0] (fun u : Value => u) (fun u => [fV (eS eZ) (r0) u]) (fun _ => True) :=
  FnG.frozen (c_zpoly_Of fu a0 va0 r0 H) fun u w we Se h => (fz_own 0 h rfl)
set_option maxRecDepth 100000 in
set_option maxHeartbeats 1000000 in
theorem c_zpoly_Scale_1 (fu : Nat) (a0 : Int) (qa0 : InR a0) (a1 : Zr) (va1 : Value) (a2 : Zr) (va2 : Value) (r0 : Zr) (H : M_zpoly_Scale_1 fu a0 a1 a2 = some r0) : Fn Tryz.prog 238 [iv a0, va1, va2].toArray [fV eZ (a1) va1, fP eZ (a2) va2] (fun u : Value => u) (fun u => [fV eZ (r0) u]) (fun _ => True) := by
 unfold M_zpoly_Scale_1 at H
 refine Fn_intro Tryz.func238 rfl rfl fun we Se rest => T_seq <| T_region <| TL_step rfl rfl (oe_box (e := eZ) (z := a1) rfl (fun S w h => h.1)) fun p1 _ => TL_og rfl rfl (og_allocM (e := ERep.c eZ) (z := (false, [])) ty25 (fun S w => z25 S w)) fun b1 _ => ?_
 show TL _ _ _ _ [mB (ERep.c eZ) 25 b1 ((false, []))] [fP eZ (a1) p1, fV eZ (a1) va1, fP eZ (a2) va2] _ _ _ _
 refine TL_mv 0 [(2, va2), (4, p1), (5, .pointer (some ⟨b1, 0, none⟩))] rfl fun rest => TL_nil <| T_seq <| T_region <| TL_step rfl rfl (oe_load (e := eZ) (y := a1) rfl ty25 (fun S w h => h.1)) fun u1 _ => TL_step rfl rfl (oe_load (e := eZ) (y := a2) rfl ty25 (fun S w h => h.2.2.2.1)) fun u2 _ => ?_
 obtain ⟨t1, he1, H⟩ := bd_s H
 refine TL_step rfl rfl (oe_call (by kernel_rfl) (c_zint_Mul fu a1 u1 a2 u2 t1 he1) rfl (fun S w h => ⟨h.2.1, h.1, trivial⟩)) fun u3 _ => TL_og rfl rfl (og_store' (f := eZ) (y' := t1) (z2 := t1) 0 rfl rfl rfl (Sub.self eZ ((false, []))) ty25 (fun S w h => h.1) rfl) fun _ _ => ?_
 show TL _ _ _ _ [mB (ERep.c eZ) 25 b1 (t1)] [fV eZ (t1) u3, fV eZ (a2) u2, fV eZ (a1) u1, fP eZ (a1) p1, fV eZ (a1) va1, fP eZ (a2) va2] _ _ _ _
 refine TL_mv 0 [(5, .pointer (some ⟨b1, 0, none⟩))] rfl fun rest => TL_nil <| T_ret ?_
 obtain rfl := inj1 H
 intro w hw
 change RetQ _ _ _ _ _ _ _ .ret _ w
 refine Ret_cN (e := eZ) (z := t1) 5 0 hw rfl (by exact rfl) ty25 fun r_1 hw hr_1 => ?_
 exact RetN (vs := [r_1]) r_1 Tryz.results238 (by exact ⟨hr_1, trivial⟩) rfl trivial hw (fun S w h => ⟨h.1, trivial⟩)
set_option maxRecDepth 100000 in
set_option maxHeartbeats 1000000 in
theorem c_zpoly_Scale (fu : Nat) (a0 : List Zr) (va0 : Value) (a1 : Zr) (va1 : Value) (r0 : List Zr) (H : M_zpoly_Scale fu a0 a1 = some r0) : FnG Tryz.prog 187 [va0, va1].toArray [] [fV (eS eZ) (a0) va0, fV eZ (a1) va1] (fun u : Value => u) (fun u => [mO eZ 25 u (r0)]) (fun u => []) (fun _ => True) := by
 unfold M_zpoly_Scale at H
 refine FnG_intro Tryz.func187 rfl rfl fun we Se F G rest => T_seq <| T_region <| TL_step rfl rfl (oe_box (e := eZ) (z := a1) rfl (fun S w h => h.2.1)) fun p1 _ => TL_mv 1 [(0, va0), (3, p1)] rfl fun rest => TL_nil ?_
 refine T_seq <| T_region <| TL_mv 1 [(3, p1), (5, va0)] rfl fun rest => TL_val rfl rfl (r_mk (la_cons rfl la_nil)) ?_
 obtain ⟨t1, he1, H⟩ := bd_s H
 refine TL_og rfl rfl (og_callG (F := (F)) (by kernel_rfl) (c_zpoly_each_api_Int_api_Int fu a0 va0 (fun zx0 zx1 => M_zpoly_Scale_1 fu zx0 zx1 a1) 238 [p1] [fP eZ (a1) p1] (by kernel_rfl) (fun zx0 qzx0 zx1 vzx1 zy0 hh => c_zpoly_Scale_1 fu zx0 qzx0 zx1 vzx1 a1 p1 zy0 hh) t1 he1) rfl (fun S w h => ⟨h.2.1, ⟨h.1, trivial⟩⟩)) fun u1 _ => ?_
 show TL _ _ _ _ (mO eZ 25 u1 (t1) :: F) (fP eZ (a1) p1 :: fV (eS eZ) (a0) va0 :: fV eZ (a1) va1 :: G) _ _ _ _
 refine TL_weak_st (fun w h => fz_own 0 h rfl) ?_
 obtain ⟨t2, he2, H⟩ := bd_s H
 refine TL_og rfl rfl (og_callG (F := (F)) (by kernel_rfl) (c_zpoly_Norm fu t1 u1 t2 he2) rfl (fun S w h => ⟨h.1, trivial⟩)) fun u2 _ => ?_
 show TL _ _ _ _ (mO eZ 25 u2 (t2) :: F) (fV (eS eZ) (t1) u1 :: fP eZ (a1) p1 :: fV (eS eZ) (a0) va0 :: fV eZ (a1) va1 :: G) _ _ _ _
 refine TL_mv 1 [(4, u2)] rfl fun rest => TL_nil <| T_ret ?_
 obtain rfl := inj1 H
 intro w hw
 exact RetG (vs := [u2]) u2 Tryz.results187 (by exact ⟨rfl, trivial⟩) rfl trivial (St.weak hw (fun S w h => h.2.2.2.2))
theorem z_zpoly_Scale (fu : Nat) (a0 : List Zr) (va0 : Value) (a1 : Zr) (va1 : Value) (r0 : List Zr) (H : M_zpoly_Scale fu a0 a1 = some r0) : Fn Tryz.prog 187 [va0, va1].toArray [fV (eS eZ) (a0) va0, fV eZ (a1) va1] (fun u : Value => u) (fun u => [fV (eS eZ) (r0) u]) (fun _ => True) :=
  FnG.frozen (c_zpoly_Scale fu a0 va0 a1 va1 r0 H) fun u w we Se h => (fz_own 0 h rfl)
set_option maxRecDepth 100000 in
set_option maxHeartbeats 1000000 in
theorem c_zpoly_Sub (fu : Nat) (a0 : List Zr) (va0 : Value) (a1 : List Zr) (va1 : Value) (r0 : List Zr) (H : M_zpoly_Sub fu a0 a1 = some r0) : FnG Tryz.prog 190 [va0, va1].toArray [] [fV (eS eZ) (a0) va0, fV (eS eZ) (a1) va1] (fun u : Value => u) (fun u => [mO eZ 25 u (r0)]) (fun u => []) (fun _ => True) := by
 unfold M_zpoly_Sub at H
 refine FnG_intro Tryz.func190 rfl rfl fun we Se F G rest => T_seq <| T_region <| TL_mv 1 [(0, va0), (1, va1)] rfl fun rest => TL_nil <| T_seq ?_
 refine T_region <| TL_mv 2 [(5, va0), (6, va1)] rfl fun rest => ?_
 obtain ⟨t1, he1, H⟩ := bd_s H
 refine TL_step rfl rfl (oe_call (by kernel_rfl) (c_zint_Of fu ((-1)) (show InR (-1) by decide) t1 he1) rfl (fun S w h => trivial)) fun u1 _ => ?_
 obtain ⟨t2, he2, H⟩ := bd_s H
 refine TL_og rfl rfl (og_callG (F := (F)) (by kernel_rfl) (c_zpoly_Scale fu a1 va1 t1 u1 t2 he2) rfl (fun S w h => ⟨h.2.2.1, h.1, trivial⟩)) fun u2 _ => ?_
 show TL _ _ _ _ (mO eZ 25 u2 (t2) :: F) (fV eZ (t1) u1 :: fV (eS eZ) (a0) va0 :: fV (eS eZ) (a1) va1 :: G) _ _ _ _
 refine TL_weak_st (fun w h => fz_own 0 h rfl) ?_
 obtain ⟨t3, he3, H⟩ := bd_s H
 refine TL_og rfl rfl (og_callG (F := (F)) (by kernel_rfl) (c_zpoly_Add fu a0 va0 t2 u2 t3 he3) rfl (fun S w h => ⟨h.2.2.1, h.1, trivial⟩)) fun u3 _ => ?_
 show TL _ _ _ _ (mO eZ 25 u3 (t3) :: F) (fV (eS eZ) (t2) u2 :: fV eZ (t1) u1 :: fV (eS eZ) (a0) va0 :: fV (eS eZ) (a1) va1 :: G) _ _ _ _
 refine TL_mv 1 [(4, u3)] rfl fun rest => TL_nil <| T_ret ?_
 obtain rfl := inj1 H
 intro w hw
 exact RetG (vs := [u3]) u3 Tryz.results190 (by exact ⟨rfl, trivial⟩) rfl trivial (St.weak hw (fun S w h => h.2.2.2.2))
theorem z_zpoly_Sub (fu : Nat) (a0 : List Zr) (va0 : Value) (a1 : List Zr) (va1 : Value) (r0 : List Zr) (H : M_zpoly_Sub fu a0 a1 = some r0) : Fn Tryz.prog 190 [va0, va1].toArray [fV (eS eZ) (a0) va0, fV (eS eZ) (a1) va1] (fun u : Value => u) (fun u => [fV (eS eZ) (r0) u]) (fun _ => True) :=
  FnG.frozen (c_zpoly_Sub fu a0 va0 a1 va1 r0 H) fun u w we Se h => (fz_own 0 h rfl)
end Go.Proofs.YtjnjfinbdfolkaaGreat
end

section
set_option linter.unusedVariables false
set_option linter.unusedSimpArgs false
namespace Go.Proofs.YtjnjfinbdfolkaaGreat
set_option maxRecDepth 100000 in
set_option maxHeartbeats 1000000 in
theorem c_hensel_pair_up (fu : Nat) (a0 : List (List Zr)) (va0 : Value) (a1 : List Zr) (va1 : Value) (a2 : Zr) (va2 : Value) (r0 : List (List Zr)) (H : M_hensel_pair_up fu a0 a1 a2 = some r0) : Fn Tryz.prog 133 [va0, va1, va2].toArray [fV (eA 4 (eS eZ)) (a0) va0, fV (eS eZ) (a1) va1, fV eZ (a2) va2] (fun u : Value => u) (fun u => [fV (eA 4 (eS eZ)) (r0) u]) (fun _ => True) := by
 unfold M_hensel_pair_up at H
 refine Fn_intro Tryz.func133 rfl rfl fun we Se rest => T_seq <| T_region <| TL_step rfl rfl (oe_box (e := (eA 4 (eS eZ))) (z := a0) rfl (fun S w h => h.1)) fun p1 _ => TL_step rfl rfl (oe_box (e := eZ) (z := a2) rfl (fun S w h => h.2.2.2.1)) fun p2 _ => TL_og rfl rfl (og_allocM (e := ERep.c (eA 4 (eS eZ))) (z := (List.replicate 4 [])) ty125 (fun S w => z125 S w)) fun b1 _ => ?_
 show TL _ _ _ _ [mB (ERep.c (eA 4 (eS eZ))) 125 b1 ((List.replicate 4 []))] [fP eZ (a2) p2, fP (eA 4 (eS eZ)) (a0) p1, fV (eA 4 (eS eZ)) (a0) va0, fV (eS eZ) (a1) va1, fV eZ (a2) va2] _ _ _ _
 refine TL_mv 0 [(1, va1), (3, p1), (5, p2), (6, .pointer (some ⟨b1, 0, none⟩))] rfl fun rest => TL_nil <| T_seq <| T_fact (fun S w h => fP_alen h.2.1) fun ha1 => T_fact (fun S w h => fP_alen h.2.1) fun ha2 => T_fact (fun S w h => fP_alen h.2.1) fun ha3 => ?_
 refine T_fact (fun S w h => fP_alen h.2.1) fun ha4 => T_draw 11 [prE (fun u : Value => u) (fun u => [fP (eS eZ) (a0.getD 0 ([])) u]) (fun _ => True), prE (fun u : Value => u) (fun u => [fV (eS eZ) (a0.getD 0 ([])) u]) (fun _ => True), prE (fun u : Value => u) (fun u => [fP (eS eZ) (a0.getD 1 ([])) u]) (fun _ => True), prE (fun u : Value => u) (fun u => [fV (eS eZ) (a0.getD 1 ([])) u]) (fun _ => True), prE (fun u : Value => u) (fun u => [fP (eS eZ) (a0.getD 2 ([])) u]) (fun _ => True), prE (fun u : Value => u) (fun u => [fV (eS eZ) (a0.getD 2 ([])) u]) (fun _ => True), prE (fun u : Value => u) (fun u => [fP (eS eZ) (a0.getD 3 ([])) u]) (fun _ => True), prE (fun u : Value => u) (fun u => [fV (eS eZ) (a0.getD 3 ([])) u]) (fun _ => True), prE (fun u : Value => u) (fun u => [fV (eS eZ) (a0.getD 0 ([])) u]) (fun _ => True), prE (fun u : Value => u) (fun u => [fV (eS eZ) (a0.getD 1 ([])) u]) (fun _ => True), prE (fun u : Value => u) (fun u => [fV (eS eZ) (a0.getD 2 ([])) u]) (fun _ => True)] [1, 5, 6, 7, 8, 9, 24] rfl (by kernel_rfl) rfl (by kernel_rfl) ⟨?_, ?_, ?_, ?_, ?_, ?_, ?_, ?_, ?_, ?_, ?_, trivial⟩ ?_
 ·intro S w env hS hM hΓ hl
  obtain ⟨e3, _⟩ := hl
  exact ⟨fun _ => ob_E (Γ := [fP eZ (a2) p2, fP (eA 4 (eS eZ)) (a0) p1, fV (eA 4 (eS eZ)) (a0) va0, fV (eS eZ) (a1) va1, fV eZ (a2) va2]) (oe_indexA Tryz.underlying125 ty31 (e3.trans rfl) rfl (k := 0) (by decide) (Sub.nth 4 (eS eZ) (a0) 0 _ (getD_some ([]) (alt (by decide) ha1))) (fun S w h => h.2.1)) hS hM hΓ, fun hc => (by cases hc)⟩
 ·intro S w env hS hM hΓ hl
  obtain ⟨⟨p3, e17, _, f17⟩, _⟩ := hl
  exact ⟨fun _ => ob_E (Γ := [fP (eS eZ) (a0.getD 0 ([])) p3, fP eZ (a2) p2, fP (eA 4 (eS eZ)) (a0) p1, fV (eA 4 (eS eZ)) (a0) va0, fV (eS eZ) (a1) va1, fV eZ (a2) va2]) (oe_load (e := (eS eZ)) (y := a0.getD 0 ([])) e17 ty31 (fun S w h => h.1)) hS hM ⟨f17.1, hΓ⟩, fun hc => (by cases hc)⟩
 ·intro S w env hS hM hΓ hl
  obtain ⟨e3, _⟩ := hl
  exact ⟨fun _ => ob_E (Γ := [fP eZ (a2) p2, fP (eA 4 (eS eZ)) (a0) p1, fV (eA 4 (eS eZ)) (a0) va0, fV (eS eZ) (a1) va1, fV eZ (a2) va2]) (oe_indexA Tryz.underlying125 ty31 (e3.trans rfl) rfl (k := 1) (by decide) (Sub.nth 4 (eS eZ) (a0) 1 _ (getD_some ([]) (alt (by decide) ha2))) (fun S w h => h.2.1)) hS hM hΓ, fun hc => (by cases hc)⟩
 ·intro S w env hS hM hΓ hl
  obtain ⟨⟨p4, e19, _, f19⟩, _⟩ := hl
  exact ⟨fun _ => ob_E (Γ := [fP (eS eZ) (a0.getD 1 ([])) p4, fP eZ (a2) p2, fP (eA 4 (eS eZ)) (a0) p1, fV (eA 4 (eS eZ)) (a0) va0, fV (eS eZ) (a1) va1, fV eZ (a2) va2]) (oe_load (e := (eS eZ)) (y := a0.getD 1 ([])) e19 ty31 (fun S w h => h.1)) hS hM ⟨f19.1, hΓ⟩, fun hc => (by cases hc)⟩
 ·intro S w env hS hM hΓ hl
  obtain ⟨e3, _⟩ := hl
  exact ⟨fun _ => ob_E (Γ := [fP eZ (a2) p2, fP (eA 4 (eS eZ)) (a0) p1, fV (eA 4 (eS eZ)) (a0) va0, fV (eS eZ) (a1) va1, fV eZ (a2) va2]) (oe_indexA Tryz.underlying125 ty31 (e3.trans rfl) rfl (k := 2) (by decide) (Sub.nth 4 (eS eZ) (a0) 2 _ (getD_some ([]) (alt (by decide) ha3))) (fun S w h => h.2.1)) hS hM hΓ, fun hc => (by cases hc)⟩
 ·intro S w env hS hM hΓ hl
  obtain ⟨⟨p5, e21, _, f21⟩, _⟩ := hl
  exact ⟨fun _ => ob_E (Γ := [fP (eS eZ) (a0.getD 2 ([])) p5, fP eZ (a2) p2, fP (eA 4 (eS eZ)) (a0) p1, fV (eA 4 (eS eZ)) (a0) va0, fV (eS eZ) (a1) va1, fV eZ (a2) va2]) (oe_load (e := (eS eZ)) (y := a0.getD 2 ([])) e21 ty31 (fun S w h => h.1)) hS hM ⟨f21.1, hΓ⟩, fun hc => (by cases hc)⟩
 ·intro S w env hS hM hΓ hl
  obtain ⟨e3, _⟩ := hl
  exact ⟨fun _ => ob_E (Γ := [fP eZ (a2) p2, fP (eA 4 (eS eZ)) (a0) p1, fV (eA 4 (eS eZ)) (a0) va0, fV (eS eZ) (a1) va1, fV eZ (a2) va2]) (oe_indexA Tryz.underlying125 ty31 (e3.trans rfl) rfl (k := 3) (by decide) (Sub.nth 4 (eS eZ) (a0) 3 _ (getD_some ([]) (alt (by decide) ha4))) (fun S w h => h.2.1)) hS hM hΓ, fun hc => (by cases hc)⟩
 ·intro S w env hS hM hΓ hl
  obtain ⟨⟨p6, e23, _, f23⟩, _⟩ := hl
  exact ⟨fun _ => ob_E (Γ := [fP (eS eZ) (a0.getD 3 ([])) p6, fP eZ (a2) p2, fP (eA 4 (eS eZ)) (a0) p1, fV (eA 4 (eS eZ)) (a0) va0, fV (eS eZ) (a1) va1, fV eZ (a2) va2]) (oe_load (e := (eS eZ)) (y := a0.getD 3 ([])) e23 ty31 (fun S w h => h.1)) hS hM ⟨f23.1, hΓ⟩, fun hc => (by cases hc)⟩
 ·intro S w env hS hM hΓ hl
  obtain ⟨⟨u1, e18, _, f18⟩, _⟩ := hl
  exact ⟨fun _ => ob_opq (r_as e18) ⟨f18.1, trivial⟩, fun hc => (by cases hc)⟩
 ·intro S w env hS hM hΓ hl
  obtain ⟨⟨u2, e20, _, f20⟩, _⟩ := hl
  exact ⟨fun _ => ob_opq (r_as e20) ⟨f20.1, trivial⟩, fun hc => (by cases hc)⟩
 ·intro S w env hS hM hΓ hl
  obtain ⟨⟨u3, e22, _, f22⟩, _⟩ := hl
  exact ⟨fun _ => ob_opq (r_as e22) ⟨f22.1, trivial⟩, fun hc => (by cases hc)⟩
 intro S w env hS hΓ hl
 obtain ⟨e1, e5, e6, ⟨u5, e7, _, f7⟩, ⟨u6, e8, _, f8⟩, ⟨u7, e9, _, f9⟩, ⟨u4, e24, _, f24⟩, _⟩ := hl
 refine ⟨[fV (eS eZ) (a0.getD 0 ([])) u5, fV (eS eZ) (a0.getD 1 ([])) u6, fV (eS eZ) (a0.getD 2 ([])) u7, fV (eS eZ) (a0.getD 3 ([])) u4, fP eZ (a2) p2, fP (eA 4 (eS eZ)) (a0) p1, fV (eA 4 (eS eZ)) (a0) va0, fV (eS eZ) (a1) va1, fV eZ (a2) va2], [(1, va1), (5, p2), (6, .pointer (some ⟨b1, 0, none⟩)), (7, u5), (8, u6), (9, u7), (24, u4)], ⟨f7.1, f8.1, f9.1, f24.1, hΓ⟩, (agr ⟨(e1.trans rfl), (e5.trans rfl), (e6.trans rfl), e7, e8, e9, e24, trivial⟩), fun rest => ?_⟩
 refine TL_mv 1 [(1, va1), (5, p2), (6, .pointer (some ⟨b1, 0, none⟩)), (7, u5), (8, u6), (9, u7), (10, u4)] rfl fun rest => TL_sel [fV (eS eZ) (a0.getD 0 ([])) u5, fV (eS eZ) (a0.getD 1 ([])) u6, fV (eS eZ) (a0.getD 2 ([])) u7, fV (eS eZ) (a0.getD 3 ([])) u4, fP eZ (a2) p2, fV (eS eZ) (a1) va1] (fun S w h => ⟨h.1, h.2.1, h.2.2.1, h.2.2.2.1, h.2.2.2.2.1, h.2.2.2.2.2.2.2.1, trivial⟩) <| TL_nil <| T_seq ?_
 obtain ⟨t1, he1, H⟩ := bd_s H
 obtain ⟨t2, he2, H⟩ := bd_s H
 refine T_draw 6 [prV (va1), prV (u5), prV (u6), prE (fun u : Value => u) (fun u => [fV (eS eZ) (t1) u]) (fun _ => True), prE (fun u : Value => u) (fun u => [fV (eS eZ) (t2) u]) (fun _ => True), prE (fun u : Value => u) (fun u => [fV eZ (a2) u]) (fun _ => True)] [5, 6, 7, 8, 9, 10, 29, 30] rfl (by kernel_rfl) rfl (by kernel_rfl) ⟨?_, ?_, ?_, ?_, ?_, ?_, trivial⟩ ?_
 ·intro S w env hS hM hΓ hl
  obtain ⟨e1, _⟩ := hl
  exact ⟨fun _ => ob_mv (e1.trans rfl), fun hc => (by cases hc)⟩
 ·intro S w env hS hM hΓ hl
  obtain ⟨e7, _⟩ := hl
  exact ⟨fun _ => ob_mv (e7.trans rfl), fun hc => (by cases hc)⟩
 ·intro S w env hS hM hΓ hl
  obtain ⟨e8, _⟩ := hl
  exact ⟨fun _ => ob_mv (e8.trans rfl), fun hc => (by cases hc)⟩
 ·intro S w env hS hM hΓ hl
  obtain ⟨e26, e27, _⟩ := hl
  exact ⟨fun _ => ob_E (Γ := [fV (eS eZ) (a0.getD 0 ([])) u5, fV (eS eZ) (a0.getD 1 ([])) u6, fV (eS eZ) (a0.getD 2 ([])) u7, fV (eS eZ) (a0.getD 3 ([])) u4, fP eZ (a2) p2, fV (eS eZ) (a1) va1]) (oe_call (by kernel_rfl) (z_zpoly_Mul fu (a0.getD 0 ([])) u5 (a0.getD 1 ([])) u6 t1 he1) (la_cons e26 (la_cons e27 la_nil)) (fun S w h => ⟨h.1, h.2.1, trivial⟩)) hS hM hΓ, fun hc => (by cases hc)⟩
 ·intro S w env hS hM hΓ hl
  obtain ⟨e25, ⟨u8, e28, _, f28⟩, _⟩ := hl
  exact ⟨fun _ => ob_E (Γ := [fV (eS eZ) (t1) u8, fV (eS eZ) (a0.getD 0 ([])) u5, fV (eS eZ) (a0.getD 1 ([])) u6, fV (eS eZ) (a0.getD 2 ([])) u7, fV (eS eZ) (a0.getD 3 ([])) u4, fP eZ (a2) p2, fV (eS eZ) (a1) va1]) (oe_call (by kernel_rfl) (z_zpoly_Sub fu a1 va1 t1 u8 t2 he2) (la_cons e25 (la_cons e28 la_nil)) (fun S w h => ⟨h.2.2.2.2.2.2.1, h.1, trivial⟩)) hS hM ⟨f28.1, hΓ⟩, fun hc => (by cases hc)⟩
 ·intro S w env hS hM hΓ hl
  obtain ⟨e5, _⟩ := hl
  exact ⟨fun _ => ob_E (Γ := [fV (eS eZ) (a0.getD 0 ([])) u5, fV (eS eZ) (a0.getD 1 ([])) u6, fV (eS eZ) (a0.getD 2 ([])) u7, fV (eS eZ) (a0.getD 3 ([])) u4, fP eZ (a2) p2, fV (eS eZ) (a1) va1]) (oe_load (e := eZ) (y := a2) (e5.trans rfl) ty25 (fun S w h => h.2.2.2.2.1)) hS hM hΓ, fun hc => (by cases hc)⟩
 intro S w env hS hΓ hl
 obtain ⟨e5, e6, e7, e8, e9, e10, ⟨u9, e29, _, f29⟩, ⟨u10, e30, _, f30⟩, _⟩ := hl
 refine ⟨[fV (eS eZ) (t2) u9, fV eZ (a2) u10, fV (eS eZ) (a0.getD 0 ([])) u5, fV (eS eZ) (a0.getD 1 ([])) u6, fV (eS eZ) (a0.getD 2 ([])) u7, fV (eS eZ) (a0.getD 3 ([])) u4, fP eZ (a2) p2, fV (eS eZ) (a1) va1], [(5, p2), (6, .pointer (some ⟨b1, 0, none⟩)), (7, u5), (8, u6), (9, u7), (10, u4), (29, u9), (30, u10)], ⟨f29.1, f30.1, hΓ⟩, (agr ⟨(e5.trans rfl), (e6.trans rfl), (e7.trans rfl), (e8.trans rfl), (e9.trans rfl), (e10.trans rfl), e29, e30, trivial⟩), fun rest => ?_⟩
 obtain ⟨t3, he3, H⟩ := bd_s H
 refine TL_og rfl rfl (og_callG (F := [mB (ERep.c (eA 4 (eS eZ))) 125 b1 ((List.replicate 4 []))]) (by kernel_rfl) (c_hensel_red fu t2 u9 a2 u10 t3 he3) rfl (fun S w h => ⟨h.1, h.2.1, trivial⟩)) fun u11 _ => ?_
 show TL _ _ _ _ [mO eZ 25 u11 (t3), mB (ERep.c (eA 4 (eS eZ))) 125 b1 ((List.replicate 4 []))] [fV (eS eZ) (t2) u9, fV eZ (a2) u10, fV (eS eZ) (a0.getD 0 ([])) u5, fV (eS eZ) (a0.getD 1 ([])) u6, fV (eS eZ) (a0.getD 2 ([])) u7, fV (eS eZ) (a0.getD 3 ([])) u4, fP eZ (a2) p2, fV (eS eZ) (a1) va1] _ _ _ _
 refine TL_mv 1 [(5, p2), (6, .pointer (some ⟨b1, 0, none⟩)), (7, u5), (8, u6), (9, u7), (10, u4), (11, u11)] rfl fun rest => TL_sel [fV (eS eZ) (a0.getD 0 ([])) u5, fV (eS eZ) (a0.getD 1 ([])) u6, fV (eS eZ) (a0.getD 2 ([])) u7, fV (eS eZ) (a0.getD 3 ([])) u4, fP eZ (a2) p2] (fun S w h => ⟨h.2.2.1, h.2.2.2.1, h.2.2.2.2.1, h.2.2.2.2.2.1, h.2.2.2.2.2.2.1, trivial⟩) <| TL_nil <| T_seq <| T_weak_st (fun w h => fz_own 0 h rfl) ?_
 obtain ⟨t4, he4, H⟩ := bd_s H
 obtain ⟨⟨t5, t6⟩, he5, H⟩ := bd_s H
 refine T_draw 10 [prV (u7), prV (u11), prE (fun u : Value => u) (fun u => [fV (eS eZ) (t4) u]) (fun _ => True), prV (u6), prE (fun u : Value => u) (fun u => [fV eZ (a2) u]) (fun _ => True), prE (fun u : Value × Value => .tuple #[u.1, u.2]) (fun u => [fV (eS eZ) (t5) u.1, fV (eS eZ) (t6) u.2]) (fun _ => True), prE (fun u : Value × Value => .tuple #[u.1, u.2]) (fun u => [fV (eS eZ) (t5) u.1, fV (eS eZ) (t6) u.2]) (fun _ => True), prE (fun u : Value => u) (fun u => [fV (eS eZ) (t5) u]) (fun _ => True), prE (fun u : Value => u) (fun u => [fV (eS eZ) (t6) u]) (fun _ => True), prE (fun u : Value => u) (fun u => [fV (eS eZ) (t5) u]) (fun _ => True)] [5, 6, 7, 8, 9, 10, 11, 12, 40] rfl (by kernel_rfl) rfl (by kernel_rfl) ⟨?_, ?_, ?_, ?_, ?_, ?_, ?_, ?_, ?_, ?_, trivial⟩ ?_
 ·intro S w env hS hM hΓ hl
  obtain ⟨e9, _⟩ := hl
  exact ⟨fun _ => ob_mv (e9.trans rfl), fun hc => (by cases hc)⟩
 ·intro S w env hS hM hΓ hl
  obtain ⟨e11, _⟩ := hl
  exact ⟨fun _ => ob_mv (e11.trans rfl), fun hc => (by cases hc)⟩
 ·intro S w env hS hM hΓ hl
  obtain ⟨e33, e34, _⟩ := hl
  exact ⟨fun _ => ob_E (Γ := [fV (eS eZ) (t3) u11, fV (eS eZ) (a0.getD 0 ([])) u5, fV (eS eZ) (a0.getD 1 ([])) u6, fV (eS eZ) (a0.getD 2 ([])) u7, fV (eS eZ) (a0.getD 3 ([])) u4, fP eZ (a2) p2]) (oe_call (by kernel_rfl) (z_zpoly_Mul fu (a0.getD 2 ([])) u7 t3 u11 t4 he4) (la_cons e33 (la_cons e34 la_nil)) (fun S w h => ⟨h.2.2.2.1, h.1, trivial⟩)) hS hM hΓ, fun hc => (by cases hc)⟩
 ·intro S w env hS hM hΓ hl
  obtain ⟨e8, _⟩ := hl
  exact ⟨fun _ => ob_mv (e8.trans rfl), fun hc => (by cases hc)⟩
 ·intro S w env hS hM hΓ hl
  obtain ⟨e5, _⟩ := hl
  exact ⟨fun _ => ob_E (Γ := [fV (eS eZ) (t3) u11, fV (eS eZ) (a0.getD 0 ([])) u5, fV (eS eZ) (a0.getD 1 ([])) u6, fV (eS eZ) (a0.getD 2 ([])) u7, fV (eS eZ) (a0.getD 3 ([])) u4, fP eZ (a2) p2]) (oe_load (e := eZ) (y := a2) (e5.trans rfl) ty25 (fun S w h => h.2.2.2.2.2.1)) hS hM hΓ, fun hc => (by cases hc)⟩
 ·intro S w env hS hM hΓ hl
  obtain ⟨⟨u12, e35, _, f35⟩, e36, ⟨u13, e37, _, f37⟩, _⟩ := hl
  exact ⟨fun _ => ob_E (Γ := [fV (eS eZ) (t4) u12, fV eZ (a2) u13, fV (eS eZ) (t3) u11, fV (eS eZ) (a0.getD 0 ([])) u5, fV (eS eZ) (a0.getD 1 ([])) u6, fV (eS eZ) (a0.getD 2 ([])) u7, fV (eS eZ) (a0.getD 3 ([])) u4, fP eZ (a2) p2]) (oe_call (by kernel_rfl) (z_hensel_divided fu t4 u12 (a0.getD 1 ([])) u6 a2 u13 t5 t6 he5) (la_cons e35 (la_cons e36 (la_cons e37 la_nil))) (fun S w h => ⟨h.1, h.2.2.2.2.1, h.2.1, trivial⟩)) hS hM ⟨f35.1, f37.1, hΓ⟩, fun hc => (by cases hc)⟩
 ·intro S w env hS hM hΓ hl
  obtain ⟨⟨⟨u14, u15⟩, e38, _, f38⟩, _⟩ := hl
  exact ⟨fun _ => ob_any (u14, u15) (r_mv e38) trivial ⟨f38.1, f38.2.1, trivial⟩, fun hc => (by cases hc)⟩
 ·intro S w env hS hM hΓ hl
  obtain ⟨⟨⟨u16, u17⟩, e32, _, f32⟩, _⟩ := hl
  exact ⟨fun _ => ob_opq (r_ex e32 rfl) ⟨f32.1, trivial⟩, fun hc => (by cases hc)⟩
 ·intro S w env hS hM hΓ hl
  obtain ⟨⟨⟨u16, u17⟩, e32, _, f32⟩, _⟩ := hl
  exact ⟨fun _ => ob_opq (r_ex e32 rfl) ⟨f32.2.1, trivial⟩, fun hc => (by cases hc)⟩
 ·intro S w env hS hM hΓ hl
  obtain ⟨⟨u18, e39, _, f39⟩, _⟩ := hl
  exact ⟨fun _ => ob_opq (r_as e39) ⟨f39.1, trivial⟩, fun hc => (by cases hc)⟩
 intro S w env hS hΓ hl
 obtain ⟨e5, e6, e7, e8, e9, e10, e11, ⟨u20, e12, _, f12⟩, ⟨u19, e40, _, f40⟩, _⟩ := hl
 refine ⟨[fV (eS eZ) (t5) u20, fV (eS eZ) (t6) u19, fV (eS eZ) (t3) u11, fV (eS eZ) (a0.getD 0 ([])) u5, fV (eS eZ) (a0.getD 1 ([])) u6, fV (eS eZ) (a0.getD 2 ([])) u7, fV (eS eZ) (a0.getD 3 ([])) u4, fP eZ (a2) p2], [(5, p2), (6, .pointer (some ⟨b1, 0, none⟩)), (7, u5), (8, u6), (9, u7), (10, u4), (11, u11), (12, u20), (40, u19)], ⟨f12.1, f40.1, hΓ⟩, (agr ⟨(e5.trans rfl), (e6.trans rfl), (e7.trans rfl), (e8.trans rfl), (e9.trans rfl), (e10.trans rfl), (e11.trans rfl), e12, e40, trivial⟩), fun rest => ?_⟩
 refine TL_mv 1 [(5, p2), (6, .pointer (some ⟨b1, 0, none⟩)), (7, u5), (8, u6), (9, u7), (10, u4), (11, u11), (12, u20), (13, u19)] rfl fun rest => TL_nil <| T_seq ?_
 obtain ⟨t7, he6, H⟩ := bd_s H
 obtain ⟨t8, he7, H⟩ := bd_s H
 obtain ⟨t9, he8, H⟩ := bd_s H
 obtain ⟨t10, he9, H⟩ := bd_s H
 refine T_draw 10 [prV (u5), prV (u4), prV (u11), prE (fun u : Value => u) (fun u => [fV (eS eZ) (t7) u]) (fun _ => True), prV (u20), prV (u5), prE (fun u : Value => u) (fun u => [fV (eS eZ) (t8) u]) (fun _ => True), prE (fun u : Value => u) (fun u => [fV (eS eZ) (t9) u]) (fun _ => True), prE (fun u : Value => u) (fun u => [fV (eS eZ) (t10) u]) (fun _ => True), prE (fun u : Value => u) (fun u => [fV eZ (a2) u]) (fun _ => True)] [5, 6, 8, 9, 10, 13, 49, 50] rfl (by kernel_rfl) rfl (by kernel_rfl) ⟨?_, ?_, ?_, ?_, ?_, ?_, ?_, ?_, ?_, ?_, trivial⟩ ?_
 ·intro S w env hS hM hΓ hl
  obtain ⟨e7, _⟩ := hl
  exact ⟨fun _ => ob_mv (e7.trans rfl), fun hc => (by cases hc)⟩
 ·intro S w env hS hM hΓ hl
  obtain ⟨e10, _⟩ := hl
  exact ⟨fun _ => ob_mv (e10.trans rfl), fun hc => (by cases hc)⟩
 ·intro S w env hS hM hΓ hl
  obtain ⟨e11, _⟩ := hl
  exact ⟨fun _ => ob_mv (e11.trans rfl), fun hc => (by cases hc)⟩
 ·intro S w env hS hM hΓ hl
  obtain ⟨e42, e43, _⟩ := hl
  exact ⟨fun _ => ob_E (Γ := [fV (eS eZ) (t5) u20, fV (eS eZ) (t6) u19, fV (eS eZ) (t3) u11, fV (eS eZ) (a0.getD 0 ([])) u5, fV (eS eZ) (a0.getD 1 ([])) u6, fV (eS eZ) (a0.getD 2 ([])) u7, fV (eS eZ) (a0.getD 3 ([])) u4, fP eZ (a2) p2]) (oe_call (by kernel_rfl) (z_zpoly_Mul fu (a0.getD 3 ([])) u4 t3 u11 t7 he6) (la_cons e42 (la_cons e43 la_nil)) (fun S w h => ⟨h.2.2.2.2.2.2.1, h.2.2.1, trivial⟩)) hS hM hΓ, fun hc => (by cases hc)⟩
 ·intro S w env hS hM hΓ hl
  obtain ⟨e12, _⟩ := hl
  exact ⟨fun _ => ob_mv (e12.trans rfl), fun hc => (by cases hc)⟩
 ·intro S w env hS hM hΓ hl
  obtain ⟨e7, _⟩ := hl
  exact ⟨fun _ => ob_mv (e7.trans rfl), fun hc => (by cases hc)⟩
 ·intro S w env hS hM hΓ hl
  obtain ⟨e45, e46, _⟩ := hl
  exact ⟨fun _ => ob_E (Γ := [fV (eS eZ) (t5) u20, fV (eS eZ) (t6) u19, fV (eS eZ) (t3) u11, fV (eS eZ) (a0.getD 0 ([])) u5, fV (eS eZ) (a0.getD 1 ([])) u6, fV (eS eZ) (a0.getD 2 ([])) u7, fV (eS eZ) (a0.getD 3 ([])) u4, fP eZ (a2) p2]) (oe_call (by kernel_rfl) (z_zpoly_Mul fu t5 u20 (a0.getD 0 ([])) u5 t8 he7) (la_cons e45 (la_cons e46 la_nil)) (fun S w h => ⟨h.1, h.2.2.2.1, trivial⟩)) hS hM hΓ, fun hc => (by cases hc)⟩
 ·intro S w env hS hM hΓ hl
  obtain ⟨⟨u21, e44, _, f44⟩, ⟨u22, e47, _, f47⟩, _⟩ := hl
  exact ⟨fun _ => ob_E (Γ := [fV (eS eZ) (t7) u21, fV (eS eZ) (t8) u22, fV (eS eZ) (t5) u20, fV (eS eZ) (t6) u19, fV (eS eZ) (t3) u11, fV (eS eZ) (a0.getD 0 ([])) u5, fV (eS eZ) (a0.getD 1 ([])) u6, fV (eS eZ) (a0.getD 2 ([])) u7, fV (eS eZ) (a0.getD 3 ([])) u4, fP eZ (a2) p2]) (oe_call (by kernel_rfl) (z_zpoly_Add fu t7 u21 t8 u22 t9 he8) (la_cons e44 (la_cons e47 la_nil)) (fun S w h => ⟨h.1, h.2.1, trivial⟩)) hS hM ⟨f44.1, f47.1, hΓ⟩, fun hc => (by cases hc)⟩
 ·intro S w env hS hM hΓ hl
  obtain ⟨e41, ⟨u23, e48, _, f48⟩, _⟩ := hl
  exact ⟨fun _ => ob_E (Γ := [fV (eS eZ) (t9) u23, fV (eS eZ) (t5) u20, fV (eS eZ) (t6) u19, fV (eS eZ) (t3) u11, fV (eS eZ) (a0.getD 0 ([])) u5, fV (eS eZ) (a0.getD 1 ([])) u6, fV (eS eZ) (a0.getD 2 ([])) u7, fV (eS eZ) (a0.getD 3 ([])) u4, fP eZ (a2) p2]) (oe_call (by kernel_rfl) (z_zpoly_Add fu (a0.getD 0 ([])) u5 t9 u23 t10 he9) (la_cons e41 (la_cons e48 la_nil)) (fun S w h => ⟨h.2.2.2.2.1, h.1, trivial⟩)) hS hM ⟨f48.1, hΓ⟩, fun hc => (by cases hc)⟩
 ·intro S w env hS hM hΓ hl
  obtain ⟨e5, _⟩ := hl
  exact ⟨fun _ => ob_E (Γ := [fV (eS eZ) (t5) u20, fV (eS eZ) (t6) u19, fV (eS eZ) (t3) u11, fV (eS eZ) (a0.getD 0 ([])) u5, fV (eS eZ) (a0.getD 1 ([])) u6, fV (eS eZ) (a0.getD 2 ([])) u7, fV (eS eZ) (a0.getD 3 ([])) u4, fP eZ (a2) p2]) (oe_load (e := eZ) (y := a2) (e5.trans rfl) ty25 (fun S w h => h.2.2.2.2.2.2.2.1)) hS hM hΓ, fun hc => (by cases hc)⟩
 intro S w env hS hΓ hl
 obtain ⟨e5, e6, e8, e9, e10, e13, ⟨u24, e49, _, f49⟩, ⟨u25, e50, _, f50⟩, _⟩ := hl
 refine ⟨[fV (eS eZ) (t10) u24, fV eZ (a2) u25, fV (eS eZ) (t5) u20, fV (eS eZ) (t6) u19, fV (eS eZ) (t3) u11, fV (eS eZ) (a0.getD 0 ([])) u5, fV (eS eZ) (a0.getD 1 ([])) u6, fV (eS eZ) (a0.getD 2 ([])) u7, fV (eS eZ) (a0.getD 3 ([])) u4, fP eZ (a2) p2], [(5, p2), (6, .pointer (some ⟨b1, 0, none⟩)), (8, u6), (9, u7), (10, u4), (13, u19), (49, u24), (50, u25)], ⟨f49.1, f50.1, hΓ⟩, (agr ⟨(e5.trans rfl), (e6.trans rfl), (e8.trans rfl), (e9.trans rfl), (e10.trans rfl), (e13.trans rfl), e49, e50, trivial⟩), fun rest => ?_⟩
 obtain ⟨t11, he10, H⟩ := bd_s H
 refine TL_og rfl rfl (og_callG (F := [mB (ERep.c (eA 4 (eS eZ))) 125 b1 ((List.replicate 4 []))]) (by kernel_rfl) (c_hensel_red fu t10 u24 a2 u25 t11 he10) rfl (fun S w h => ⟨h.1, h.2.1, trivial⟩)) fun u26 _ => ?_
 show TL _ _ _ _ [mO eZ 25 u26 (t11), mB (ERep.c (eA 4 (eS eZ))) 125 b1 ((List.replicate 4 []))] [fV (eS eZ) (t10) u24, fV eZ (a2) u25, fV (eS eZ) (t5) u20, fV (eS eZ) (t6) u19, fV (eS eZ) (t3) u11, fV (eS eZ) (a0.getD 0 ([])) u5, fV (eS eZ) (a0.getD 1 ([])) u6, fV (eS eZ) (a0.getD 2 ([])) u7, fV (eS eZ) (a0.getD 3 ([])) u4, fP eZ (a2) p2] _ _ _ _
 refine TL_mv 1 [(5, p2), (6, .pointer (some ⟨b1, 0, none⟩)), (7, u26), (8, u6), (9, u7), (10, u4), (13, u19)] rfl fun rest => TL_sel [fV (eS eZ) (t6) u19, fV (eS eZ) (a0.getD 1 ([])) u6, fV (eS eZ) (a0.getD 2 ([])) u7, fV (eS eZ) (a0.getD 3 ([])) u4, fP eZ (a2) p2] (fun S w h => ⟨h.2.2.2.1, h.2.2.2.2.2.2.1, h.2.2.2.2.2.2.2.1, h.2.2.2.2.2.2.2.2.1, h.2.2.2.2.2.2.2.2.2.1, trivial⟩) <| TL_nil <| T_seq ?_
 obtain ⟨t12, he11, H⟩ := bd_s H
 refine T_draw 4 [prV (u6), prV (u19), prE (fun u : Value => u) (fun u => [fV (eS eZ) (t12) u]) (fun _ => True), prE (fun u : Value => u) (fun u => [fV eZ (a2) u]) (fun _ => True)] [5, 6, 7, 9, 10, 54, 55] rfl (by kernel_rfl) rfl (by kernel_rfl) ⟨?_, ?_, ?_, ?_, trivial⟩ ?_
 ·intro S w env hS hM hΓ hl
  obtain ⟨e8, _⟩ := hl
  exact ⟨fun _ => ob_mv (e8.trans rfl), fun hc => (by cases hc)⟩
 ·intro S w env hS hM hΓ hl
  obtain ⟨e13, _⟩ := hl
  exact ⟨fun _ => ob_mv (e13.trans rfl), fun hc => (by cases hc)⟩
 ·intro S w env hS hM hΓ hl
  obtain ⟨e52, e53, _⟩ := hl
  exact ⟨fun _ => ob_E (Γ := [fV (eS eZ) (t6) u19, fV (eS eZ) (a0.getD 1 ([])) u6, fV (eS eZ) (a0.getD 2 ([])) u7, fV (eS eZ) (a0.getD 3 ([])) u4, fP eZ (a2) p2]) (oe_call (by kernel_rfl) (z_zpoly_Add fu (a0.getD 1 ([])) u6 t6 u19 t12 he11) (la_cons e52 (la_cons e53 la_nil)) (fun S w h => ⟨h.2.1, h.1, trivial⟩)) hS hM hΓ, fun hc => (by cases hc)⟩
 ·intro S w env hS hM hΓ hl
  obtain ⟨e5, _⟩ := hl
  exact ⟨fun _ => ob_E (Γ := [fV (eS eZ) (t6) u19, fV (eS eZ) (a0.getD 1 ([])) u6, fV (eS eZ) (a0.getD 2 ([])) u7, fV (eS eZ) (a0.getD 3 ([])) u4, fP eZ (a2) p2]) (oe_load (e := eZ) (y := a2) (e5.trans rfl) ty25 (fun S w h => h.2.2.2.2.1)) hS hM hΓ, fun hc => (by cases hc)⟩
 intro S w env hS hΓ hl
 obtain ⟨e5, e6, e7, e9, e10, ⟨u27, e54, _, f54⟩, ⟨u28, e55, _, f55⟩, _⟩ := hl
 refine ⟨[fV (eS eZ) (t12) u27, fV eZ (a2) u28, fV (eS eZ) (t6) u19, fV (eS eZ) (a0.getD 1 ([])) u6, fV (eS eZ) (a0.getD 2 ([])) u7, fV (eS eZ) (a0.getD 3 ([])) u4, fP eZ (a2) p2], [(5, p2), (6, .pointer (some ⟨b1, 0, none⟩)), (7, u26), (9, u7), (10, u4), (54, u27), (55, u28)], ⟨f54.1, f55.1, hΓ⟩, (agr ⟨(e5.trans rfl), (e6.trans rfl), (e7.trans rfl), (e9.trans rfl), (e10.trans rfl), e54, e55, trivial⟩), fun rest => ?_⟩
 obtain ⟨t13, he12, H⟩ := bd_s H
 refine TL_og rfl rfl (og_callG (F := [mO eZ 25 u26 (t11), mB (ERep.c (eA 4 (eS eZ))) 125 b1 ((List.replicate 4 []))]) (by kernel_rfl) (c_hensel_red fu t12 u27 a2 u28 t13 he12) rfl (fun S w h => ⟨h.1, h.2.1, trivial⟩)) fun u29 _ => ?_
 show TL _ _ _ _ [mO eZ 25 u29 (t13), mO eZ 25 u26 (t11), mB (ERep.c (eA 4 (eS eZ))) 125 b1 ((List.replicate 4 []))] [fV (eS eZ) (t12) u27, fV eZ (a2) u28, fV (eS eZ) (t6) u19, fV (eS eZ) (a0.getD 1 ([])) u6, fV (eS eZ) (a0.getD 2 ([])) u7, fV (eS eZ) (a0.getD 3 ([])) u4, fP eZ (a2) p2] _ _ _ _
 refine TL_mv 1 [(5, p2), (6, .pointer (some ⟨b1, 0, none⟩)), (7, u26), (8, u29), (9, u7), (10, u4)] rfl fun rest => TL_sel [fV (eS eZ) (a0.getD 2 ([])) u7, fV (eS eZ) (a0.getD 3 ([])) u4, fP eZ (a2) p2] (fun S w h => ⟨h.2.2.2.2.1, h.2.2.2.2.2.1, h.2.2.2.2.2.2.1, trivial⟩) <| TL_nil <| T_seq <| T_weak_st (fun w h => fz_own 1 h rfl) ?_
 obtain ⟨t14, he13, H⟩ := bd_s H
 refine T_weak_st (fun w h => fz_own 0 h rfl) ?_
 obtain ⟨t15, he14, H⟩ := bd_s H
 obtain ⟨t16, he15, H⟩ := bd_s H
 obtain ⟨t17, he16, H⟩ := bd_s H
 obtain ⟨t18, he17, H⟩ := bd_s H
 refine T_draw 11 [prV (u7), prV (u26), prE (fun u : Value => u) (fun u => [fV (eS eZ) (t14) u]) (fun _ => True), prV (u4), prV (u29), prE (fun u : Value => u) (fun u => [fV (eS eZ) (t15) u]) (fun _ => True), prE (fun u : Value => u) (fun u => [fV (eS eZ) (t16) u]) (fun _ => True), prE (fun u : Value => u) (fun u => [fV (eS eI) ([1]) u]) (fun _ => True), prE (fun u : Value => u) (fun u => [fV (eS eZ) (t17) u]) (fun _ => True), prE (fun u : Value => u) (fun u => [fV (eS eZ) (t18) u]) (fun _ => True), prE (fun u : Value => u) (fun u => [fV eZ (a2) u]) (fun _ => True)] [5, 6, 7, 8, 9, 10, 66, 67] rfl (by kernel_rfl) rfl (by kernel_rfl) ⟨?_, ?_, ?_, ?_, ?_, ?_, ?_, ?_, ?_, ?_, ?_, trivial⟩ ?_
 ·intro S w env hS hM hΓ hl
  obtain ⟨e9, _⟩ := hl
  exact ⟨fun _ => ob_mv (e9.trans rfl), fun hc => (by cases hc)⟩
 ·intro S w env hS hM hΓ hl
  obtain ⟨e7, _⟩ := hl
  exact ⟨fun _ => ob_mv (e7.trans rfl), fun hc => (by cases hc)⟩
 ·intro S w env hS hM hΓ hl
  obtain ⟨e57, e58, _⟩ := hl
  exact ⟨fun _ => ob_E (Γ := [fV (eS eZ) (t13) u29, fV (eS eZ) (t11) u26, fV (eS eZ) (a0.getD 2 ([])) u7, fV (eS eZ) (a0.getD 3 ([])) u4, fP eZ (a2) p2]) (oe_call (by kernel_rfl) (z_zpoly_Mul fu (a0.getD 2 ([])) u7 t11 u26 t14 he13) (la_cons e57 (la_cons e58 la_nil)) (fun S w h => ⟨h.2.2.1, h.2.1, trivial⟩)) hS hM hΓ, fun hc => (by cases hc)⟩
 ·intro S w env hS hM hΓ hl
  obtain ⟨e10, _⟩ := hl
  exact ⟨fun _ => ob_mv (e10.trans rfl), fun hc => (by cases hc)⟩
 ·intro S w env hS hM hΓ hl
  obtain ⟨e8, _⟩ := hl
  exact ⟨fun _ => ob_mv (e8.trans rfl), fun hc => (by cases hc)⟩
 ·intro S w env hS hM hΓ hl
  obtain ⟨e60, e61, _⟩ := hl
  exact ⟨fun _ => ob_E (Γ := [fV (eS eZ) (t13) u29, fV (eS eZ) (t11) u26, fV (eS eZ) (a0.getD 2 ([])) u7, fV (eS eZ) (a0.getD 3 ([])) u4, fP eZ (a2) p2]) (oe_call (by kernel_rfl) (z_zpoly_Mul fu (a0.getD 3 ([])) u4 t13 u29 t15 he14) (la_cons e60 (la_cons e61 la_nil)) (fun S w h => ⟨h.2.2.2.1, h.1, trivial⟩)) hS hM hΓ, fun hc => (by cases hc)⟩
 ·intro S w env hS hM hΓ hl
  obtain ⟨⟨u30, e59, _, f59⟩, ⟨u31, e62, _, f62⟩, _⟩ := hl
  exact ⟨fun _ => ob_E (Γ := [fV (eS eZ) (t14) u30, fV (eS eZ) (t15) u31, fV (eS eZ) (t13) u29, fV (eS eZ) (t11) u26, fV (eS eZ) (a0.getD 2 ([])) u7, fV (eS eZ) (a0.getD 3 ([])) u4, fP eZ (a2) p2]) (oe_call (by kernel_rfl) (z_zpoly_Add fu t14 u30 t15 u31 t16 he15) (la_cons e59 (la_cons e62 la_nil)) (fun S w h => ⟨h.1, h.2.1, trivial⟩)) hS hM ⟨f59.1, f62.1, hΓ⟩, fun hc => (by cases hc)⟩
 ·intro S w env hS hM hΓ hl
  obtain ⟨_⟩ := hl
  exact ⟨fun _ => ob_E (Γ := [fV (eS eZ) (t13) u29, fV (eS eZ) (t11) u26, fV (eS eZ) (a0.getD 2 ([])) u7, fV (eS eZ) (a0.getD 3 ([])) u4, fP eZ (a2) p2]) (oe_lit (e := eI) (zs := [1]) Tryz.underlying51 ty3 (by decide) rfl (by decide) (vs := [(0, iv 1)]) rfl (fun S w h => (by refine fill_eq eI ?_; exact ⟨fV_sz (S := S) (w := w) (i64_fV (show InR (1) by decide)), trivial⟩)) (fun S w h => (elems_one (i64_fV (show InR (1) by decide))))) hS hM hΓ, fun hc => (by cases hc)⟩
 ·intro S w env hS hM hΓ hl
  obtain ⟨⟨u33, e64, _, f64⟩, _⟩ := hl
  exact ⟨fun _ => ob_E (Γ := [fV (eS eI) ([1]) u33, fV (eS eZ) (t13) u29, fV (eS eZ) (t11) u26, fV (eS eZ) (a0.getD 2 ([])) u7, fV (eS eZ) (a0.getD 3 ([])) u4, fP eZ (a2) p2]) (oe_call (by kernel_rfl) (z_zpoly_Of fu [1] u33 t17 he16) (la_cons e64 la_nil) (fun S w h => ⟨h.1, trivial⟩)) hS hM ⟨f64.1, hΓ⟩, fun hc => (by cases hc)⟩
 ·intro S w env hS hM hΓ hl
  obtain ⟨⟨u32, e63, _, f63⟩, ⟨u34, e65, _, f65⟩, _⟩ := hl
  exact ⟨fun _ => ob_E (Γ := [fV (eS eZ) (t16) u32, fV (eS eZ) (t17) u34, fV (eS eZ) (t13) u29, fV (eS eZ) (t11) u26, fV (eS eZ) (a0.getD 2 ([])) u7, fV (eS eZ) (a0.getD 3 ([])) u4, fP eZ (a2) p2]) (oe_call (by kernel_rfl) (z_zpoly_Sub fu t16 u32 t17 u34 t18 he17) (la_cons e63 (la_cons e65 la_nil)) (fun S w h => ⟨h.1, h.2.1, trivial⟩)) hS hM ⟨f63.1, f65.1, hΓ⟩, fun hc => (by cases hc)⟩
 ·intro S w env hS hM hΓ hl
  obtain ⟨e5, _⟩ := hl
  exact ⟨fun _ => ob_E (Γ := [fV (eS eZ) (t13) u29, fV (eS eZ) (t11) u26, fV (eS eZ) (a0.getD 2 ([])) u7, fV (eS eZ) (a0.getD 3 ([])) u4, fP eZ (a2) p2]) (oe_load (e := eZ) (y := a2) (e5.trans rfl) ty25 (fun S w h => h.2.2.2.2.1)) hS hM hΓ, fun hc => (by cases hc)⟩
 intro S w env hS hΓ hl
 obtain ⟨e5, e6, e7, e8, e9, e10, ⟨u35, e66, _, f66⟩, ⟨u36, e67, _, f67⟩, _⟩ := hl
 refine ⟨[fV (eS eZ) (t18) u35, fV eZ (a2) u36, fV (eS eZ) (t13) u29, fV (eS eZ) (t11) u26, fV (eS eZ) (a0.getD 2 ([])) u7, fV (eS eZ) (a0.getD 3 ([])) u4, fP eZ (a2) p2], [(5, p2), (6, .pointer (some ⟨b1, 0, none⟩)), (7, u26), (8, u29), (9, u7), (10, u4), (66, u35), (67, u36)], ⟨f66.1, f67.1, hΓ⟩, (agr ⟨(e5.trans rfl), (e6.trans rfl), (e7.trans rfl), (e8.trans rfl), (e9.trans rfl), (e10.trans rfl), e66, e67, trivial⟩), fun rest => ?_⟩
 obtain ⟨t19, he18, H⟩ := bd_s H
 refine TL_og rfl rfl (og_callG (F := [mB (ERep.c (eA 4 (eS eZ))) 125 b1 ((List.replicate 4 []))]) (by kernel_rfl) (c_hensel_red fu t18 u35 a2 u36 t19 he18) rfl (fun S w h => ⟨h.1, h.2.1, trivial⟩)) fun u37 _ => ?_
 show TL _ _ _ _ [mO eZ 25 u37 (t19), mB (ERep.c (eA 4 (eS eZ))) 125 b1 ((List.replicate 4 []))] [fV (eS eZ) (t18) u35, fV eZ (a2) u36, fV (eS eZ) (t13) u29, fV (eS eZ) (t11) u26, fV (eS eZ) (a0.getD 2 ([])) u7, fV (eS eZ) (a0.getD 3 ([])) u4, fP eZ (a2) p2] _ _ _ _
 refine TL_mv 1 [(5, p2), (6, .pointer (some ⟨b1, 0, none⟩)), (7, u26), (8, u29), (9, u7), (10, u4), (14, u37)] rfl fun rest => TL_sel [fV (eS eZ) (t13) u29, fV (eS eZ) (t11) u26, fV (eS eZ) (a0.getD 2 ([])) u7, fV (eS eZ) (a0.getD 3 ([])) u4, fP eZ (a2) p2] (fun S w h => ⟨h.2.2.1, h.2.2.2.1, h.2.2.2.2.1, h.2.2.2.2.2.1, h.2.2.2.2.2.2.1, trivial⟩) <| TL_nil <| T_seq <| T_weak_st (fun w h => fz_own 0 h rfl) ?_
 obtain ⟨t20, he19, H⟩ := bd_s H
 obtain ⟨⟨t21, t22⟩, he20, H⟩ := bd_s H
 refine T_draw 10 [prV (u7), prV (u37), prE (fun u : Value => u) (fun u => [fV (eS eZ) (t20) u]) (fun _ => True), prV (u29), prE (fun u : Value => u) (fun u => [fV eZ (a2) u]) (fun _ => True), prE (fun u : Value × Value => .tuple #[u.1, u.2]) (fun u => [fV (eS eZ) (t21) u.1, fV (eS eZ) (t22) u.2]) (fun _ => True), prE (fun u : Value × Value => .tuple #[u.1, u.2]) (fun u => [fV (eS eZ) (t21) u.1, fV (eS eZ) (t22) u.2]) (fun _ => True), prE (fun u : Value => u) (fun u => [fV (eS eZ) (t21) u]) (fun _ => True), prE (fun u : Value => u) (fun u => [fV (eS eZ) (t22) u]) (fun _ => True), prE (fun u : Value => u) (fun u => [fV (eS eZ) (t21) u]) (fun _ => True)] [5, 6, 7, 8, 9, 10, 14, 15, 77] rfl (by kernel_rfl) rfl (by kernel_rfl) ⟨?_, ?_, ?_, ?_, ?_, ?_, ?_, ?_, ?_, ?_, trivial⟩ ?_
 ·intro S w env hS hM hΓ hl
  obtain ⟨e9, _⟩ := hl
  exact ⟨fun _ => ob_mv (e9.trans rfl), fun hc => (by cases hc)⟩
 ·intro S w env hS hM hΓ hl
  obtain ⟨e14, _⟩ := hl
  exact ⟨fun _ => ob_mv (e14.trans rfl), fun hc => (by cases hc)⟩
 ·intro S w env hS hM hΓ hl
  obtain ⟨e70, e71, _⟩ := hl
  exact ⟨fun _ => ob_E (Γ := [fV (eS eZ) (t19) u37, fV (eS eZ) (t13) u29, fV (eS eZ) (t11) u26, fV (eS eZ) (a0.getD 2 ([])) u7, fV (eS eZ) (a0.getD 3 ([])) u4, fP eZ (a2) p2]) (oe_call (by kernel_rfl) (z_zpoly_Mul fu (a0.getD 2 ([])) u7 t19 u37 t20 he19) (la_cons e70 (la_cons e71 la_nil)) (fun S w h => ⟨h.2.2.2.1, h.1, trivial⟩)) hS hM hΓ, fun hc => (by cases hc)⟩
 ·intro S w env hS hM hΓ hl
  obtain ⟨e8, _⟩ := hl
  exact ⟨fun _ => ob_mv (e8.trans rfl), fun hc => (by cases hc)⟩
 ·intro S w env hS hM hΓ hl
  obtain ⟨e5, _⟩ := hl
  exact ⟨fun _ => ob_E (Γ := [fV (eS eZ) (t19) u37, fV (eS eZ) (t13) u29, fV (eS eZ) (t11) u26, fV (eS eZ) (a0.getD 2 ([])) u7, fV (eS eZ) (a0.getD 3 ([])) u4, fP eZ (a2) p2]) (oe_load (e := eZ) (y := a2) (e5.trans rfl) ty25 (fun S w h => h.2.2.2.2.2.1)) hS hM hΓ, fun hc => (by cases hc)⟩
 ·intro S w env hS hM hΓ hl
  obtain ⟨⟨u38, e72, _, f72⟩, e73, ⟨u39, e74, _, f74⟩, _⟩ := hl
  exact ⟨fun _ => ob_E (Γ := [fV (eS eZ) (t20) u38, fV eZ (a2) u39, fV (eS eZ) (t19) u37, fV (eS eZ) (t13) u29, fV (eS eZ) (t11) u26, fV (eS eZ) (a0.getD 2 ([])) u7, fV (eS eZ) (a0.getD 3 ([])) u4, fP eZ (a2) p2]) (oe_call (by kernel_rfl) (z_hensel_divided fu t20 u38 t13 u29 a2 u39 t21 t22 he20) (la_cons e72 (la_cons e73 (la_cons e74 la_nil))) (fun S w h => ⟨h.1, h.2.2.2.1, h.2.1, trivial⟩)) hS hM ⟨f72.1, f74.1, hΓ⟩, fun hc => (by cases hc)⟩
 ·intro S w env hS hM hΓ hl
  obtain ⟨⟨⟨u40, u41⟩, e75, _, f75⟩, _⟩ := hl
  exact ⟨fun _ => ob_any (u40, u41) (r_mv e75) trivial ⟨f75.1, f75.2.1, trivial⟩, fun hc => (by cases hc)⟩
 ·intro S w env hS hM hΓ hl
  obtain ⟨⟨⟨u42, u43⟩, e69, _, f69⟩, _⟩ := hl
  exact ⟨fun _ => ob_opq (r_ex e69 rfl) ⟨f69.1, trivial⟩, fun hc => (by cases hc)⟩
 ·intro S w env hS hM hΓ hl
  obtain ⟨⟨⟨u42, u43⟩, e69, _, f69⟩, _⟩ := hl
  exact ⟨fun _ => ob_opq (r_ex e69 rfl) ⟨f69.2.1, trivial⟩, fun hc => (by cases hc)⟩
 ·intro S w env hS hM hΓ hl
  obtain ⟨⟨u44, e76, _, f76⟩, _⟩ := hl
  exact ⟨fun _ => ob_opq (r_as e76) ⟨f76.1, trivial⟩, fun hc => (by cases hc)⟩
 intro S w env hS hΓ hl
 obtain ⟨e5, e6, e7, e8, e9, e10, e14, ⟨u46, e15, _, f15⟩, ⟨u45, e77, _, f77⟩, _⟩ := hl
 refine ⟨[fV (eS eZ) (t21) u46, fV (eS eZ) (t22) u45, fV (eS eZ) (t19) u37, fV (eS eZ) (t13) u29, fV (eS eZ) (t11) u26, fV (eS eZ) (a0.getD 2 ([])) u7, fV (eS eZ) (a0.getD 3 ([])) u4, fP eZ (a2) p2], [(5, p2), (6, .pointer (some ⟨b1, 0, none⟩)), (7, u26), (8, u29), (9, u7), (10, u4), (14, u37), (15, u46), (77, u45)], ⟨f15.1, f77.1, hΓ⟩, (agr ⟨(e5.trans rfl), (e6.trans rfl), (e7.trans rfl), (e8.trans rfl), (e9.trans rfl), (e10.trans rfl), (e14.trans rfl), e15, e77, trivial⟩), fun rest => ?_⟩
 refine TL_mv 1 [(5, p2), (6, .pointer (some ⟨b1, 0, none⟩)), (7, u26), (8, u29), (9, u7), (10, u4), (14, u37), (15, u46), (16, u45)] rfl fun rest => TL_nil <| T_seq ?_
 obtain ⟨t23, he21, H⟩ := bd_s H
 refine T_draw 4 [prV (u7), prV (u45), prE (fun u : Value => u) (fun u => [fV (eS eZ) (t23) u]) (fun _ => True), prE (fun u : Value => u) (fun u => [fV eZ (a2) u]) (fun _ => True)] [5, 6, 7, 8, 10, 14, 15, 80, 81] rfl (by kernel_rfl) rfl (by kernel_rfl) ⟨?_, ?_, ?_, ?_, trivial⟩ ?_
 ·intro S w env hS hM hΓ hl
  obtain ⟨e9, _⟩ := hl
  exact ⟨fun _ => ob_mv (e9.trans rfl), fun hc => (by cases hc)⟩
 ·intro S w env hS hM hΓ hl
  obtain ⟨e16, _⟩ := hl
  exact ⟨fun _ => ob_mv (e16.trans rfl), fun hc => (by cases hc)⟩
 ·intro S w env hS hM hΓ hl
  obtain ⟨e78, e79, _⟩ := hl
  exact ⟨fun _ => ob_E (Γ := [fV (eS eZ) (t21) u46, fV (eS eZ) (t22) u45, fV (eS eZ) (t19) u37, fV (eS eZ) (t13) u29, fV (eS eZ) (t11) u26, fV (eS eZ) (a0.getD 2 ([])) u7, fV (eS eZ) (a0.getD 3 ([])) u4, fP eZ (a2) p2]) (oe_call (by kernel_rfl) (z_zpoly_Sub fu (a0.getD 2 ([])) u7 t22 u45 t23 he21) (la_cons e78 (la_cons e79 la_nil)) (fun S w h => ⟨h.2.2.2.2.2.1, h.2.1, trivial⟩)) hS hM hΓ, fun hc => (by cases hc)⟩
 ·intro S w env hS hM hΓ hl
  obtain ⟨e5, _⟩ := hl
  exact ⟨fun _ => ob_E (Γ := [fV (eS eZ) (t21) u46, fV (eS eZ) (t22) u45, fV (eS eZ) (t19) u37, fV (eS eZ) (t13) u29, fV (eS eZ) (t11) u26, fV (eS eZ) (a0.getD 2 ([])) u7, fV (eS eZ) (a0.getD 3 ([])) u4, fP eZ (a2) p2]) (oe_load (e := eZ) (y := a2) (e5.trans rfl) ty25 (fun S w h => h.2.2.2.2.2.2.2.1)) hS hM hΓ, fun hc => (by cases hc)⟩
 intro S w env hS hΓ hl
 obtain ⟨e5, e6, e7, e8, e10, e14, e15, ⟨u47, e80, _, f80⟩, ⟨u48, e81, _, f81⟩, _⟩ := hl
 refine ⟨[fV (eS eZ) (t23) u47, fV eZ (a2) u48, fV (eS eZ) (t21) u46, fV (eS eZ) (t22) u45, fV (eS eZ) (t19) u37, fV (eS eZ) (t13) u29, fV (eS eZ) (t11) u26, fV (eS eZ) (a0.getD 2 ([])) u7, fV (eS eZ) (a0.getD 3 ([])) u4, fP eZ (a2) p2], [(5, p2), (6, .pointer (some ⟨b1, 0, none⟩)), (7, u26), (8, u29), (10, u4), (14, u37), (15, u46), (80, u47), (81, u48)], ⟨f80.1, f81.1, hΓ⟩, (agr ⟨(e5.trans rfl), (e6.trans rfl), (e7.trans rfl), (e8.trans rfl), (e10.trans rfl), (e14.trans rfl), (e15.trans rfl), e80, e81, trivial⟩), fun rest => ?_⟩
 obtain ⟨t24, he22, H⟩ := bd_s H
 refine TL_og rfl rfl (og_callG (F := [mB (ERep.c (eA 4 (eS eZ))) 125 b1 ((List.replicate 4 []))]) (by kernel_rfl) (c_hensel_red fu t23 u47 a2 u48 t24 he22) rfl (fun S w h => ⟨h.1, h.2.1, trivial⟩)) fun u49 _ => ?_
 show TL _ _ _ _ [mO eZ 25 u49 (t24), mB (ERep.c (eA 4 (eS eZ))) 125 b1 ((List.replicate 4 []))] [fV (eS eZ) (t23) u47, fV eZ (a2) u48, fV (eS eZ) (t21) u46, fV (eS eZ) (t22) u45, fV (eS eZ) (t19) u37, fV (eS eZ) (t13) u29, fV (eS eZ) (t11) u26, fV (eS eZ) (a0.getD 2 ([])) u7, fV (eS eZ) (a0.getD 3 ([])) u4, fP eZ (a2) p2] _ _ _ _
 refine TL_mv 1 [(5, p2), (6, .pointer (some ⟨b1, 0, none⟩)), (7, u26), (8, u29), (9, u49), (10, u4), (14, u37), (15, u46)] rfl fun rest => TL_sel [fV (eS eZ) (t21) u46, fV (eS eZ) (t19) u37, fV (eS eZ) (t13) u29, fV (eS eZ) (t11) u26, fV (eS eZ) (a0.getD 3 ([])) u4, fP eZ (a2) p2] (fun S w h => ⟨h.2.2.1, h.2.2.2.2.1, h.2.2.2.2.2.1, h.2.2.2.2.2.2.1, h.2.2.2.2.2.2.2.2.1, h.2.2.2.2.2.2.2.2.2.1, trivial⟩) <| TL_nil <| T_seq ?_
 obtain ⟨t25, he23, H⟩ := bd_s H
 obtain ⟨t26, he24, H⟩ := bd_s H
 obtain ⟨t27, he25, H⟩ := bd_s H
 obtain ⟨t28, he26, H⟩ := bd_s H
 refine T_draw 10 [prV (u4), prV (u4), prV (u37), prE (fun u : Value => u) (fun u => [fV (eS eZ) (t25) u]) (fun _ => True), prV (u46), prV (u26), prE (fun u : Value => u) (fun u => [fV (eS eZ) (t26) u]) (fun _ => True), prE (fun u : Value => u) (fun u => [fV (eS eZ) (t27) u]) (fun _ => True), prE (fun u : Value => u) (fun u => [fV (eS eZ) (t28) u]) (fun _ => True), prE (fun u : Value => u) (fun u => [fV eZ (a2) u]) (fun _ => True)] [6, 7, 8, 9, 91, 92] rfl (by kernel_rfl) rfl (by kernel_rfl) ⟨?_, ?_, ?_, ?_, ?_, ?_, ?_, ?_, ?_, ?_, trivial⟩ ?_
 ·intro S w env hS hM hΓ hl
  obtain ⟨e10, _⟩ := hl
  exact ⟨fun _ => ob_mv (e10.trans rfl), fun hc => (by cases hc)⟩
 ·intro S w env hS hM hΓ hl
  obtain ⟨e10, _⟩ := hl
  exact ⟨fun _ => ob_mv (e10.trans rfl), fun hc => (by cases hc)⟩
 ·intro S w env hS hM hΓ hl
  obtain ⟨e14, _⟩ := hl
  exact ⟨fun _ => ob_mv (e14.trans rfl), fun hc => (by cases hc)⟩
 ·intro S w env hS hM hΓ hl
  obtain ⟨e84, e85, _⟩ := hl
  exact ⟨fun _ => ob_E (Γ := [fV (eS eZ) (t21) u46, fV (eS eZ) (t19) u37, fV (eS eZ) (t13) u29, fV (eS eZ) (t11) u26, fV (eS eZ) (a0.getD 3 ([])) u4, fP eZ (a2) p2]) (oe_call (by kernel_rfl) (z_zpoly_Mul fu (a0.getD 3 ([])) u4 t19 u37 t25 he23) (la_cons e84 (la_cons e85 la_nil)) (fun S w h => ⟨h.2.2.2.2.1, h.2.1, trivial⟩)) hS hM hΓ, fun hc => (by cases hc)⟩
 ·intro S w env hS hM hΓ hl
  obtain ⟨e15, _⟩ := hl
  exact ⟨fun _ => ob_mv (e15.trans rfl), fun hc => (by cases hc)⟩
 ·intro S w env hS hM hΓ hl
  obtain ⟨e7, _⟩ := hl
  exact ⟨fun _ => ob_mv (e7.trans rfl), fun hc => (by cases hc)⟩
 ·intro S w env hS hM hΓ hl
  obtain ⟨e87, e88, _⟩ := hl
  exact ⟨fun _ => ob_E (Γ := [fV (eS eZ) (t21) u46, fV (eS eZ) (t19) u37, fV (eS eZ) (t13) u29, fV (eS eZ) (t11) u26, fV (eS eZ) (a0.getD 3 ([])) u4, fP eZ (a2) p2]) (oe_call (by kernel_rfl) (z_zpoly_Mul fu t21 u46 t11 u26 t26 he24) (la_cons e87 (la_cons e88 la_nil)) (fun S w h => ⟨h.1, h.2.2.2.1, trivial⟩)) hS hM hΓ, fun hc => (by cases hc)⟩
 ·intro S w env hS hM hΓ hl
  obtain ⟨⟨u50, e86, _, f86⟩, ⟨u51, e89, _, f89⟩, _⟩ := hl
  exact ⟨fun _ => ob_E (Γ := [fV (eS eZ) (t25) u50, fV (eS eZ) (t26) u51, fV (eS eZ) (t21) u46, fV (eS eZ) (t19) u37, fV (eS eZ) (t13) u29, fV (eS eZ) (t11) u26, fV (eS eZ) (a0.getD 3 ([])) u4, fP eZ (a2) p2]) (oe_call (by kernel_rfl) (z_zpoly_Add fu t25 u50 t26 u51 t27 he25) (la_cons e86 (la_cons e89 la_nil)) (fun S w h => ⟨h.1, h.2.1, trivial⟩)) hS hM ⟨f86.1, f89.1, hΓ⟩, fun hc => (by cases hc)⟩
 ·intro S w env hS hM hΓ hl
  obtain ⟨e83, ⟨u52, e90, _, f90⟩, _⟩ := hl
  exact ⟨fun _ => ob_E (Γ := [fV (eS eZ) (t27) u52, fV (eS eZ) (t21) u46, fV (eS eZ) (t19) u37, fV (eS eZ) (t13) u29, fV (eS eZ) (t11) u26, fV (eS eZ) (a0.getD 3 ([])) u4, fP eZ (a2) p2]) (oe_call (by kernel_rfl) (z_zpoly_Sub fu (a0.getD 3 ([])) u4 t27 u52 t28 he26) (la_cons e83 (la_cons e90 la_nil)) (fun S w h => ⟨h.2.2.2.2.2.1, h.1, trivial⟩)) hS hM ⟨f90.1, hΓ⟩, fun hc => (by cases hc)⟩
 ·intro S w env hS hM hΓ hl
  obtain ⟨e5, _⟩ := hl
  exact ⟨fun _ => ob_E (Γ := [fV (eS eZ) (t21) u46, fV (eS eZ) (t19) u37, fV (eS eZ) (t13) u29, fV (eS eZ) (t11) u26, fV (eS eZ) (a0.getD 3 ([])) u4, fP eZ (a2) p2]) (oe_load (e := eZ) (y := a2) (e5.trans rfl) ty25 (fun S w h => h.2.2.2.2.2.1)) hS hM hΓ, fun hc => (by cases hc)⟩
 intro S w env hS hΓ hl
 obtain ⟨e6, e7, e8, e9, ⟨u53, e91, _, f91⟩, ⟨u54, e92, _, f92⟩, _⟩ := hl
 refine ⟨[fV (eS eZ) (t28) u53, fV eZ (a2) u54, fV (eS eZ) (t21) u46, fV (eS eZ) (t19) u37, fV (eS eZ) (t13) u29, fV (eS eZ) (t11) u26, fV (eS eZ) (a0.getD 3 ([])) u4, fP eZ (a2) p2], [(6, .pointer (some ⟨b1, 0, none⟩)), (7, u26), (8, u29), (9, u49), (91, u53), (92, u54)], ⟨f91.1, f92.1, hΓ⟩, (agr ⟨(e6.trans rfl), (e7.trans rfl), (e8.trans rfl), (e9.trans rfl), e91, e92, trivial⟩), fun rest => ?_⟩
 obtain ⟨t29, he27, H⟩ := bd_s H
 refine TL_og rfl rfl (og_callG (F := [mO eZ 25 u49 (t24), mB (ERep.c (eA 4 (eS eZ))) 125 b1 ((List.replicate 4 []))]) (by kernel_rfl) (c_hensel_red fu t28 u53 a2 u54 t29 he27) rfl (fun S w h => ⟨h.1, h.2.1, trivial⟩)) fun u55 _ => ?_
 show TL _ _ _ _ [mO eZ 25 u55 (t29), mO eZ 25 u49 (t24), mB (ERep.c (eA 4 (eS eZ))) 125 b1 ((List.replicate 4 []))] [fV (eS eZ) (t28) u53, fV eZ (a2) u54, fV (eS eZ) (t21) u46, fV (eS eZ) (t19) u37, fV (eS eZ) (t13) u29, fV (eS eZ) (t11) u26, fV (eS eZ) (a0.getD 3 ([])) u4, fP eZ (a2) p2] _ _ _ _
 refine TL_mv 1 [(6, .pointer (some ⟨b1, 0, none⟩)), (7, u26), (8, u29), (9, u49), (10, u55)] rfl fun rest => TL_sel [fV (eS eZ) (t13) u29, fV (eS eZ) (t11) u26] (fun S w h => ⟨h.2.2.2.2.1, h.2.2.2.2.2.1, trivial⟩) <| TL_nil <| T_seq <| T_region <| TL_mv 4 [(6, .pointer (some ⟨b1, 0, none⟩)), (94, u26), (95, u29), (96, u49), (97, u55)] rfl fun rest => ?_
 refine TL_weak_st (fun w h => fz_own 1 h rfl) <| TL_weak_st (fun w h => fz_own 0 h rfl) <| TL_step rfl rfl (oe_build (e := (eA 4 (eS eZ))) (z := [t11, t13, t24, t29]) ty125 rfl rfl (vs := [(0, u26), (1, u29), (2, u49), (3, u55)]) rfl (.inr ⟨_, _, _, _, _, _, Tryz.underlying125, ty31, fun S w h => (by refine fill_eq (eS eZ) ?_; exact ⟨fV_sz (S := S) (w := w) h.2.2.2.1, fV_sz (S := S) (w := w) h.2.2.1, fV_sz (S := S) (w := w) h.2.1, fV_sz (S := S) (w := w) h.1, trivial⟩)⟩) (fun S w h => ⟨rfl, (elems_cons h.2.2.2.1 (elems_cons h.2.2.1 (elems_cons h.2.1 (elems_one h.1))))⟩)) fun u58 _ => ?_
 refine TL_og rfl rfl (og_store' (f := (eA 4 (eS eZ))) (y' := [t11, t13, t24, t29]) (z2 := [t11, t13, t24, t29]) 0 rfl rfl rfl (Sub.self (eA 4 (eS eZ)) ((List.replicate 4 []))) ty125 (fun S w h => h.1) rfl) fun _ _ => ?_
 show TL _ _ _ _ [mB (ERep.c (eA 4 (eS eZ))) 125 b1 ([t11, t13, t24, t29])] [fV (eA 4 (eS eZ)) ([t11, t13, t24, t29]) u58, fV (eS eZ) (t29) u55, fV (eS eZ) (t24) u49, fV (eS eZ) (t13) u29, fV (eS eZ) (t11) u26] _ _ _ _
 refine TL_mv 0 [(6, .pointer (some ⟨b1, 0, none⟩))] rfl fun rest => TL_nil <| T_ret ?_
 obtain rfl := inj1 H
 intro w hw
 change RetQ _ _ _ _ _ _ _ .ret _ w
 refine Ret_cN (e := (eA 4 (eS eZ))) (z := [t11, t13, t24, t29]) 6 0 hw rfl (by exact rfl) ty125 fun r_1 hw hr_1 => ?_
 exact RetN (vs := [r_1]) r_1 Tryz.results133 (by exact ⟨hr_1, trivial⟩) rfl trivial hw (fun S w h => ⟨h.1, trivial⟩)
set_option maxRecDepth 100000 in
set_option maxHeartbeats 1000000 in
theorem c_zint_line_less (fu : Nat) (a0 : Zr × (Zr × Zr)) (va0 : Value) (a1 : Zr) (va1 : Value) (a2 : Zr × (Zr × Zr)) (va2 : Value) (r0 : Zr × (Zr × Zr)) (H : M_zint_line_less fu a0 a1 a2 = some r0) : Fn Tryz.prog 237 [va0, va1, va2].toArray [fV (eP eZ (eP eZ eZ)) (a0) va0, fV eZ (a1) va1, fV (eP eZ (eP eZ eZ)) (a2) va2] (fun u : Value => u) (fun u => [fV (eP eZ (eP eZ eZ)) (r0) u]) (fun _ => True) := by
 unfold M_zint_line_less at H
 refine Fn_intro Tryz.func237 rfl rfl fun we Se rest => T_seq <| T_region <| TL_step rfl rfl (oe_box (e := (eP eZ (eP eZ eZ))) (z := a0) rfl (fun S w h => h.1)) fun p1 _ => TL_step rfl rfl (oe_box (e := eZ) (z := a1) rfl (fun S w h => h.2.2.1)) fun p2 _ => TL_step rfl rfl (oe_box (e := (eP eZ (eP eZ eZ))) (z := a2) rfl (fun S w h => h.2.2.2.2.1)) fun p3 _ => ?_
 refine TL_og rfl rfl (og_allocM (e := ERep.c (eP eZ (eP eZ eZ))) (z := ((false, []), ((false, []), (false, [])))) ty190 (fun S w => z190 S w)) fun b1 _ => ?_
 show TL _ _ _ _ [mB (ERep.c (eP eZ (eP eZ eZ))) 190 b1 (((false, []), ((false, []), (false, []))))] [fP (eP eZ (eP eZ eZ)) (a2) p3, fP eZ (a1) p2, fP (eP eZ (eP eZ eZ)) (a0) p1, fV (eP eZ (eP eZ eZ)) (a0) va0, fV eZ (a1) va1, fV (eP eZ (eP eZ eZ)) (a2) va2] _ _ _ _
 refine TL_mv 0 [(3, p1), (4, p2), (5, p3), (6, .pointer (some ⟨b1, 0, none⟩))] rfl fun rest => TL_nil <| T_seq ?_
 obtain ⟨t1, he1, H⟩ := bd_s H
 obtain ⟨t2, he2, H⟩ := bd_s H
 obtain ⟨t3, he3, H⟩ := bd_s H
 obtain ⟨t4, he4, H⟩ := bd_s H
 obtain ⟨t5, he5, H⟩ := bd_s H
 refine T_draw 20 [prE (fun u : Value => u) (fun u => [fP eZ (a0.1) u]) (fun _ => True), prE (fun u : Value => u) (fun u => [fV eZ (a0.1) u]) (fun _ => True), prE (fun u : Value => u) (fun u => [fV eZ (a1) u]) (fun _ => True), prE (fun u : Value => u) (fun u => [fP eZ (a2.1) u]) (fun _ => True), prE (fun u : Value => u) (fun u => [fV eZ (a2.1) u]) (fun _ => True), prE (fun u : Value => u) (fun u => [fV eZ (t1) u]) (fun _ => True), prE (fun u : Value => u) (fun u => [fV eZ (t2) u]) (fun _ => True), prE (fun u : Value => u) (fun u => [fP eZ (a0.2.1) u]) (fun _ => True), prE (fun u : Value => u) (fun u => [fV eZ (a0.2.1) u]) (fun _ => True), prE (fun u : Value => u) (fun u => [fV eZ (a1) u]) (fun _ => True), prE (fun u : Value => u) (fun u => [fP eZ (a2.2.1) u]) (fun _ => True), prE (fun u : Value => u) (fun u => [fV eZ (a2.2.1) u]) (fun _ => True), prE (fun u : Value => u) (fun u => [fV eZ (t3) u]) (fun _ => True), prE (fun u : Value => u) (fun u => [fV eZ (t4) u]) (fun _ => True), prE (fun u : Value => u) (fun u => [fP eZ (a0.2.2) u]) (fun _ => True), prE (fun u : Value => u) (fun u => [fV eZ (a0.2.2) u]) (fun _ => True), prE (fun u : Value => u) (fun u => [fV eZ (a1) u]) (fun _ => True), prE (fun u : Value => u) (fun u => [fP eZ (a2.2.2) u]) (fun _ => True), prE (fun u : Value => u) (fun u => [fV eZ (a2.2.2) u]) (fun _ => True), prE (fun u : Value => u) (fun u => [fV eZ (t5) u]) (fun _ => True)] [6, 13, 20, 22, 26] rfl (by kernel_rfl) rfl (by kernel_rfl) ⟨?_, ?_, ?_, ?_, ?_, ?_, ?_, ?_, ?_, ?_, ?_, ?_, ?_, ?_, ?_, ?_, ?_, ?_, ?_, ?_, trivial⟩ ?_
 ·intro S w env hS hM hΓ hl
  obtain ⟨e3, _⟩ := hl
  exact ⟨fun _ => ob_E (Γ := [fP (eP eZ (eP eZ eZ)) (a2) p3, fP eZ (a1) p2, fP (eP eZ (eP eZ eZ)) (a0) p1, fV (eP eZ (eP eZ eZ)) (a0) va0, fV eZ (a1) va1, fV (eP eZ (eP eZ eZ)) (a2) va2]) (oe_field (e := (eP eZ (eP eZ eZ))) (z := a0) fl190_0 (e3.trans rfl) (Sub.fst eZ (eP eZ eZ) (a0)) (fun S w h => h.2.2.1)) hS hM hΓ, fun hc => (by cases hc)⟩
 ·intro S w env hS hM hΓ hl
  obtain ⟨⟨p4, e7, _, f7⟩, _⟩ := hl
  exact ⟨fun _ => ob_E (Γ := [fP eZ (a0.1) p4, fP (eP eZ (eP eZ eZ)) (a2) p3, fP eZ (a1) p2, fP (eP eZ (eP eZ eZ)) (a0) p1, fV (eP eZ (eP eZ eZ)) (a0) va0, fV eZ (a1) va1, fV (eP eZ (eP eZ eZ)) (a2) va2]) (oe_load (e := eZ) (y := a0.1) e7 ty25 (fun S w h => h.1)) hS hM ⟨f7.1, hΓ⟩, fun hc => (by cases hc)⟩
 ·intro S w env hS hM hΓ hl
  obtain ⟨e4, _⟩ := hl
  exact ⟨fun _ => ob_E (Γ := [fP (eP eZ (eP eZ eZ)) (a2) p3, fP eZ (a1) p2, fP (eP eZ (eP eZ eZ)) (a0) p1, fV (eP eZ (eP eZ eZ)) (a0) va0, fV eZ (a1) va1, fV (eP eZ (eP eZ eZ)) (a2) va2]) (oe_load (e := eZ) (y := a1) (e4.trans rfl) ty25 (fun S w h => h.2.1)) hS hM hΓ, fun hc => (by cases hc)⟩
 ·intro S w env hS hM hΓ hl
  obtain ⟨e5, _⟩ := hl
  exact ⟨fun _ => ob_E (Γ := [fP (eP eZ (eP eZ eZ)) (a2) p3, fP eZ (a1) p2, fP (eP eZ (eP eZ eZ)) (a0) p1, fV (eP eZ (eP eZ eZ)) (a0) va0, fV eZ (a1) va1, fV (eP eZ (eP eZ eZ)) (a2) va2]) (oe_field (e := (eP eZ (eP eZ eZ))) (z := a2) fl190_0 (e5.trans rfl) (Sub.fst eZ (eP eZ eZ) (a2)) (fun S w h => h.1)) hS hM hΓ, fun hc => (by cases hc)⟩
 ·intro S w env hS hM hΓ hl
  obtain ⟨⟨p5, e10, _, f10⟩, _⟩ := hl
  exact ⟨fun _ => ob_E (Γ := [fP eZ (a2.1) p5, fP (eP eZ (eP eZ eZ)) (a2) p3, fP eZ (a1) p2, fP (eP eZ (eP eZ eZ)) (a0) p1, fV (eP eZ (eP eZ eZ)) (a0) va0, fV eZ (a1) va1, fV (eP eZ (eP eZ eZ)) (a2) va2]) (oe_load (e := eZ) (y := a2.1) e10 ty25 (fun S w h => h.1)) hS hM ⟨f10.1, hΓ⟩, fun hc => (by cases hc)⟩
 ·intro S w env hS hM hΓ hl
  obtain ⟨⟨u2, e9, _, f9⟩, ⟨u3, e11, _, f11⟩, _⟩ := hl
  exact ⟨fun _ => ob_E (Γ := [fV eZ (a1) u2, fV eZ (a2.1) u3, fP (eP eZ (eP eZ eZ)) (a2) p3, fP eZ (a1) p2, fP (eP eZ (eP eZ eZ)) (a0) p1, fV (eP eZ (eP eZ eZ)) (a0) va0, fV eZ (a1) va1, fV (eP eZ (eP eZ eZ)) (a2) va2]) (oe_call (by kernel_rfl) (c_zint_Mul fu a1 u2 a2.1 u3 t1 he1) (la_cons e9 (la_cons e11 la_nil)) (fun S w h => ⟨h.1, h.2.1, trivial⟩)) hS hM ⟨f9.1, f11.1, hΓ⟩, fun hc => (by cases hc)⟩
 ·intro S w env hS hM hΓ hl
  obtain ⟨⟨u1, e8, _, f8⟩, ⟨u4, e12, _, f12⟩, _⟩ := hl
  exact ⟨fun _ => ob_E (Γ := [fV eZ (a0.1) u1, fV eZ (t1) u4, fP (eP eZ (eP eZ eZ)) (a2) p3, fP eZ (a1) p2, fP (eP eZ (eP eZ eZ)) (a0) p1, fV (eP eZ (eP eZ eZ)) (a0) va0, fV eZ (a1) va1, fV (eP eZ (eP eZ eZ)) (a2) va2]) (oe_call (by kernel_rfl) (c_zint_Sub fu a0.1 u1 t1 u4 t2 he2) (la_cons e8 (la_cons e12 la_nil)) (fun S w h => ⟨h.1, h.2.1, trivial⟩)) hS hM ⟨f8.1, f12.1, hΓ⟩, fun hc => (by cases hc)⟩
 ·intro S w env hS hM hΓ hl
  obtain ⟨e3, _⟩ := hl
  exact ⟨fun _ => ob_E (Γ := [fP (eP eZ (eP eZ eZ)) (a2) p3, fP eZ (a1) p2, fP (eP eZ (eP eZ eZ)) (a0) p1, fV (eP eZ (eP eZ eZ)) (a0) va0, fV eZ (a1) va1, fV (eP eZ (eP eZ eZ)) (a2) va2]) (oe_field (e := (eP eZ (eP eZ eZ))) (z := a0) fl190_1 (e3.trans rfl) (Sub.off (Sub.comp (Sub.snd eZ (eP eZ eZ) (a0)) (Sub.fst eZ eZ (a0.2))) rfl) (fun S w h => h.2.2.1)) hS hM hΓ, fun hc => (by cases hc)⟩
 ·intro S w env hS hM hΓ hl
  obtain ⟨⟨p6, e14, _, f14⟩, _⟩ := hl
  exact ⟨fun _ => ob_E (Γ := [fP eZ (a0.2.1) p6, fP (eP eZ (eP eZ eZ)) (a2) p3, fP eZ (a1) p2, fP (eP eZ (eP eZ eZ)) (a0) p1, fV (eP eZ (eP eZ eZ)) (a0) va0, fV eZ (a1) va1, fV (eP eZ (eP eZ eZ)) (a2) va2]) (oe_load (e := eZ) (y := a0.2.1) e14 ty25 (fun S w h => h.1)) hS hM ⟨f14.1, hΓ⟩, fun hc => (by cases hc)⟩
 ·intro S w env hS hM hΓ hl
  obtain ⟨e4, _⟩ := hl
  exact ⟨fun _ => ob_E (Γ := [fP (eP eZ (eP eZ eZ)) (a2) p3, fP eZ (a1) p2, fP (eP eZ (eP eZ eZ)) (a0) p1, fV (eP eZ (eP eZ eZ)) (a0) va0, fV eZ (a1) va1, fV (eP eZ (eP eZ eZ)) (a2) va2]) (oe_load (e := eZ) (y := a1) (e4.trans rfl) ty25 (fun S w h => h.2.1)) hS hM hΓ, fun hc => (by cases hc)⟩
 ·intro S w env hS hM hΓ hl
  obtain ⟨e5, _⟩ := hl
  exact ⟨fun _ => ob_E (Γ := [fP (eP eZ (eP eZ eZ)) (a2) p3, fP eZ (a1) p2, fP (eP eZ (eP eZ eZ)) (a0) p1, fV (eP eZ (eP eZ eZ)) (a0) va0, fV eZ (a1) va1, fV (eP eZ (eP eZ eZ)) (a2) va2]) (oe_field (e := (eP eZ (eP eZ eZ))) (z := a2) fl190_1 (e5.trans rfl) (Sub.off (Sub.comp (Sub.snd eZ (eP eZ eZ) (a2)) (Sub.fst eZ eZ (a2.2))) rfl) (fun S w h => h.1)) hS hM hΓ, fun hc => (by cases hc)⟩
 ·intro S w env hS hM hΓ hl
  obtain ⟨⟨p7, e17, _, f17⟩, _⟩ := hl
  exact ⟨fun _ => ob_E (Γ := [fP eZ (a2.2.1) p7, fP (eP eZ (eP eZ eZ)) (a2) p3, fP eZ (a1) p2, fP (eP eZ (eP eZ eZ)) (a0) p1, fV (eP eZ (eP eZ eZ)) (a0) va0, fV eZ (a1) va1, fV (eP eZ (eP eZ eZ)) (a2) va2]) (oe_load (e := eZ) (y := a2.2.1) e17 ty25 (fun S w h => h.1)) hS hM ⟨f17.1, hΓ⟩, fun hc => (by cases hc)⟩
 ·intro S w env hS hM hΓ hl
  obtain ⟨⟨u7, e16, _, f16⟩, ⟨u8, e18, _, f18⟩, _⟩ := hl
  exact ⟨fun _ => ob_E (Γ := [fV eZ (a1) u7, fV eZ (a2.2.1) u8, fP (eP eZ (eP eZ eZ)) (a2) p3, fP eZ (a1) p2, fP (eP eZ (eP eZ eZ)) (a0) p1, fV (eP eZ (eP eZ eZ)) (a0) va0, fV eZ (a1) va1, fV (eP eZ (eP eZ eZ)) (a2) va2]) (oe_call (by kernel_rfl) (c_zint_Mul fu a1 u7 a2.2.1 u8 t3 he3) (la_cons e16 (la_cons e18 la_nil)) (fun S w h => ⟨h.1, h.2.1, trivial⟩)) hS hM ⟨f16.1, f18.1, hΓ⟩, fun hc => (by cases hc)⟩
 ·intro S w env hS hM hΓ hl
  obtain ⟨⟨u6, e15, _, f15⟩, ⟨u9, e19, _, f19⟩, _⟩ := hl
  exact ⟨fun _ => ob_E (Γ := [fV eZ (a0.2.1) u6, fV eZ (t3) u9, fP (eP eZ (eP eZ eZ)) (a2) p3, fP eZ (a1) p2, fP (eP eZ (eP eZ eZ)) (a0) p1, fV (eP eZ (eP eZ eZ)) (a0) va0, fV eZ (a1) va1, fV (eP eZ (eP eZ eZ)) (a2) va2]) (oe_call (by kernel_rfl) (c_zint_Sub fu a0.2.1 u6 t3 u9 t4 he4) (la_cons e15 (la_cons e19 la_nil)) (fun S w h => ⟨h.1, h.2.1, trivial⟩)) hS hM ⟨f15.1, f19.1, hΓ⟩, fun hc => (by cases hc)⟩
 ·intro S w env hS hM hΓ hl
  obtain ⟨e3, _⟩ := hl
  exact ⟨fun _ => ob_E (Γ := [fP (eP eZ (eP eZ eZ)) (a2) p3, fP eZ (a1) p2, fP (eP eZ (eP eZ eZ)) (a0) p1, fV (eP eZ (eP eZ eZ)) (a0) va0, fV eZ (a1) va1, fV (eP eZ (eP eZ eZ)) (a2) va2]) (oe_field (e := (eP eZ (eP eZ eZ))) (z := a0) fl190_2 (e3.trans rfl) (Sub.off (Sub.comp (Sub.snd eZ (eP eZ eZ) (a0)) (Sub.snd eZ eZ (a0.2))) rfl) (fun S w h => h.2.2.1)) hS hM hΓ, fun hc => (by cases hc)⟩
 ·intro S w env hS hM hΓ hl
  obtain ⟨⟨p8, e21, _, f21⟩, _⟩ := hl
  exact ⟨fun _ => ob_E (Γ := [fP eZ (a0.2.2) p8, fP (eP eZ (eP eZ eZ)) (a2) p3, fP eZ (a1) p2, fP (eP eZ (eP eZ eZ)) (a0) p1, fV (eP eZ (eP eZ eZ)) (a0) va0, fV eZ (a1) va1, fV (eP eZ (eP eZ eZ)) (a2) va2]) (oe_load (e := eZ) (y := a0.2.2) e21 ty25 (fun S w h => h.1)) hS hM ⟨f21.1, hΓ⟩, fun hc => (by cases hc)⟩
 ·intro S w env hS hM hΓ hl
  obtain ⟨e4, _⟩ := hl
  exact ⟨fun _ => ob_E (Γ := [fP (eP eZ (eP eZ eZ)) (a2) p3, fP eZ (a1) p2, fP (eP eZ (eP eZ eZ)) (a0) p1, fV (eP eZ (eP eZ eZ)) (a0) va0, fV eZ (a1) va1, fV (eP eZ (eP eZ eZ)) (a2) va2]) (oe_load (e := eZ) (y := a1) (e4.trans rfl) ty25 (fun S w h => h.2.1)) hS hM hΓ, fun hc => (by cases hc)⟩
 ·intro S w env hS hM hΓ hl
  obtain ⟨e5, _⟩ := hl
  exact ⟨fun _ => ob_E (Γ := [fP (eP eZ (eP eZ eZ)) (a2) p3, fP eZ (a1) p2, fP (eP eZ (eP eZ eZ)) (a0) p1, fV (eP eZ (eP eZ eZ)) (a0) va0, fV eZ (a1) va1, fV (eP eZ (eP eZ eZ)) (a2) va2]) (oe_field (e := (eP eZ (eP eZ eZ))) (z := a2) fl190_2 (e5.trans rfl) (Sub.off (Sub.comp (Sub.snd eZ (eP eZ eZ) (a2)) (Sub.snd eZ eZ (a2.2))) rfl) (fun S w h => h.1)) hS hM hΓ, fun hc => (by cases hc)⟩
 ·intro S w env hS hM hΓ hl
  obtain ⟨⟨p9, e24, _, f24⟩, _⟩ := hl
  exact ⟨fun _ => ob_E (Γ := [fP eZ (a2.2.2) p9, fP (eP eZ (eP eZ eZ)) (a2) p3, fP eZ (a1) p2, fP (eP eZ (eP eZ eZ)) (a0) p1, fV (eP eZ (eP eZ eZ)) (a0) va0, fV eZ (a1) va1, fV (eP eZ (eP eZ eZ)) (a2) va2]) (oe_load (e := eZ) (y := a2.2.2) e24 ty25 (fun S w h => h.1)) hS hM ⟨f24.1, hΓ⟩, fun hc => (by cases hc)⟩
 ·intro S w env hS hM hΓ hl
  obtain ⟨⟨u12, e23, _, f23⟩, ⟨u13, e25, _, f25⟩, _⟩ := hl
  exact ⟨fun _ => ob_E (Γ := [fV eZ (a1) u12, fV eZ (a2.2.2) u13, fP (eP eZ (eP eZ eZ)) (a2) p3, fP eZ (a1) p2, fP (eP eZ (eP eZ eZ)) (a0) p1, fV (eP eZ (eP eZ eZ)) (a0) va0, fV eZ (a1) va1, fV (eP eZ (eP eZ eZ)) (a2) va2]) (oe_call (by kernel_rfl) (c_zint_Mul fu a1 u12 a2.2.2 u13 t5 he5) (la_cons e23 (la_cons e25 la_nil)) (fun S w h => ⟨h.1, h.2.1, trivial⟩)) hS hM ⟨f23.1, f25.1, hΓ⟩, fun hc => (by cases hc)⟩
 intro S w env hS hΓ hl
 obtain ⟨e6, ⟨u5, e13, _, f13⟩, ⟨u10, e20, _, f20⟩, ⟨u11, e22, _, f22⟩, ⟨u14, e26, _, f26⟩, _⟩ := hl
 refine ⟨[fV eZ (t2) u5, fV eZ (t4) u10, fV eZ (a0.2.2) u11, fV eZ (t5) u14, fP (eP eZ (eP eZ eZ)) (a2) p3, fP eZ (a1) p2, fP (eP eZ (eP eZ eZ)) (a0) p1, fV (eP eZ (eP eZ eZ)) (a0) va0, fV eZ (a1) va1, fV (eP eZ (eP eZ eZ)) (a2) va2], [(6, .pointer (some ⟨b1, 0, none⟩)), (13, u5), (20, u10), (22, u11), (26, u14)], ⟨f13.1, f20.1, f22.1, f26.1, hΓ⟩, (agr ⟨(e6.trans rfl), e13, e20, e22, e26, trivial⟩), fun rest => ?_⟩
 obtain ⟨t6, he6, H⟩ := bd_s H
 refine TL_step rfl rfl (oe_call (by kernel_rfl) (c_zint_Sub fu a0.2.2 u11 t5 u14 t6 he6) rfl (fun S w h => ⟨h.2.2.1, h.2.2.2.1, trivial⟩)) fun u15 _ => TL_step rfl rfl (oe_build (e := (eP eZ (eP eZ eZ))) (z := (t2, t4, t6)) ty190 rfl rfl (vs := [(0, u5), (1, u10), (2, u15)]) rfl (.inl (plx pl190 fun S w h => (by refine pl_eq [2, 2, 2] ?_ ?_; exact ⟨fV_sz (S := S) (w := w) h.2.1, fV_sz (S := S) (w := w) h.2.2.1, fV_sz (S := S) (w := w) h.1, trivial⟩; rfl))) (fun S w h => bp_cons h.2.1 (bp_cons h.2.2.1 (bp_last h.1)))) fun u16 _ => ?_
 refine TL_og rfl rfl (og_store' (f := (eP eZ (eP eZ eZ))) (y' := (t2, t4, t6)) (z2 := (t2, t4, t6)) 0 rfl rfl rfl (Sub.self (eP eZ (eP eZ eZ)) (((false, []), ((false, []), (false, []))))) ty190 (fun S w h => h.1) rfl) fun _ _ => ?_
 show TL _ _ _ _ [mB (ERep.c (eP eZ (eP eZ eZ))) 190 b1 ((t2, t4, t6))] [fV (eP eZ (eP eZ eZ)) ((t2, t4, t6)) u16, fV eZ (t6) u15, fV eZ (t2) u5, fV eZ (t4) u10, fV eZ (a0.2.2) u11, fV eZ (t5) u14, fP (eP eZ (eP eZ eZ)) (a2) p3, fP eZ (a1) p2, fP (eP eZ (eP eZ eZ)) (a0) p1, fV (eP eZ (eP eZ eZ)) (a0) va0, fV eZ (a1) va1, fV (eP eZ (eP eZ eZ)) (a2) va2] _ _ _ _
 refine TL_mv 0 [(6, .pointer (some ⟨b1, 0, none⟩))] rfl fun rest => TL_sel [] (fun S w h => trivial) <| TL_nil <| T_ret ?_
 obtain rfl := inj1 H
 intro w hw
 change RetQ _ _ _ _ _ _ _ .ret _ w
 refine Ret_cN (e := (eP eZ (eP eZ eZ))) (z := (t2, t4, t6)) 6 0 hw rfl (by exact rfl) ty190 fun r_1 hw hr_1 => ?_
 exact RetN (vs := [r_1]) r_1 Tryz.results237 (by exact ⟨hr_1, trivial⟩) rfl trivial hw (fun S w h => ⟨h.1, trivial⟩)
set_option maxRecDepth 100000 in
set_option maxHeartbeats 1000000 in
theorem c_zint_Bezout (fu : Nat) (a0 : Zr) (va0 : Value) (a1 : Zr) (va1 : Value) (r0 : Zr) (r1 : Zr) (r2 : Zr) (H : M_zint_Bezout fu a0 a1 = some (r0, r1, r2)) : Fn Tryz.prog 186 [va0, va1].toArray [fV eZ (a0) va0, fV eZ (a1) va1] (fun u : Value × Value × Value => .tuple #[u.1, u.2.1, u.2.2]) (fun u => [fV eZ (r0) u.1, fV eZ (r1) u.2.1, fV eZ (r2) u.2.2]) (fun _ => True) := by
 unfold M_zint_Bezout at H
 refine Fn_intro Tryz.func186 rfl rfl fun we Se rest => T_seq <| T_region <| TL_step rfl rfl (oe_box (e := eZ) (z := a0) rfl (fun S w h => h.1)) fun p1 _ => TL_step rfl rfl (oe_box (e := eZ) (z := a1) rfl (fun S w h => h.2.2.1)) fun p2 _ => TL_og rfl rfl (og_allocM (e := ERep.c eZ) (z := (false, [])) ty25 (fun S w => z25 S w)) fun b1 _ => ?_
 show TL _ _ _ _ [mB (ERep.c eZ) 25 b1 ((false, []))] [fP eZ (a1) p2, fP eZ (a0) p1, fV eZ (a0) va0, fV eZ (a1) va1] _ _ _ _
 refine TL_og rfl rfl (og_allocM (e := ERep.c eZ) (z := (false, [])) ty25 (fun S w => z25 S w)) fun b2 _ => ?_
 show TL _ _ _ _ [mB (ERep.c eZ) 25 b2 ((false, [])), mB (ERep.c eZ) 25 b1 ((false, []))] [fP eZ (a1) p2, fP eZ (a0) p1, fV eZ (a0) va0, fV eZ (a1) va1] _ _ _ _
 refine TL_og rfl rfl (og_allocM (e := ERep.c eZ) (z := (false, [])) ty25 (fun S w => z25 S w)) fun b3 _ => ?_
 show TL _ _ _ _ [mB (ERep.c eZ) 25 b3 ((false, [])), mB (ERep.c eZ) 25 b2 ((false, [])), mB (ERep.c eZ) 25 b1 ((false, []))] [fP eZ (a1) p2, fP eZ (a0) p1, fV eZ (a0) va0, fV eZ (a1) va1] _ _ _ _
 refine TL_mv 0 [(2, p1), (3, p2), (4, .pointer (some ⟨b1, 0, none⟩)), (5, .pointer (some ⟨b2, 0, none⟩)), (6, .pointer (some ⟨b3, 0, none⟩))] rfl fun rest => TL_nil <| T_seq ?_
 obtain ⟨t1, he1, H⟩ := bd_s H
 obtain ⟨t2, he2, H⟩ := bd_s H
 obtain ⟨t3, he3, H⟩ := bd_s H
 obtain ⟨t4, he4, H⟩ := bd_s H
 obtain ⟨t5, he5, H⟩ := bd_s H
 obtain ⟨t6, he6, H⟩ := bd_s H
 refine T_any (mE := [mB (ERep.c eZ) 25 b3 ((false, [])), mB (ERep.c eZ) 25 b2 ((false, [])), mB (ERep.c eZ) 25 b1 ((false, []))]) 15 [prE (fun u : Value => u) (fun u => [fP (eS eU) (a0.2) u]) (fun _ => True), prE (fun u : Value => u) (fun u => [fV (eS eU) (a0.2) u]) (fun _ => True), prE (fun u : Value => u) (fun u => [fV eZ (t1) u]) (fun _ => True), prE (fun u : Value => u) (fun u => [fV eZ (t2) u]) (fun _ => True), prE (fun u : Value => u) (fun u => [fV eZ (t3) u]) (fun _ => True), prE (fun u : Value => u) (fun u => [fV (eP eZ (eP eZ eZ)) ((t1, t2, t3)) u]) (fun _ => True), prE (fun u : Value => u) (fun u => [fP (eS eU) (a1.2) u]) (fun _ => True), prE (fun u : Value => u) (fun u => [fV (eS eU) (a1.2) u]) (fun _ => True), prE (fun u : Value => u) (fun u => [fV eZ (t4) u]) (fun _ => True), prE (fun u : Value => u) (fun u => [fV eZ (t5) u]) (fun _ => True), prE (fun u : Value => u) (fun u => [fV eZ (t6) u]) (fun _ => True), prE (fun u : Value => u) (fun u => [fV (eP eZ (eP eZ eZ)) ((t4, t5, t6)) u]) (fun _ => True), prT, prT, prT] [none, none, none, none, none, none, none, none, none, none, none, none, some (0, false), some (1, false), some (0, true)] [⟨some 12, 7, some 14, fun b v => mP (ERep.c (eP eZ (eP eZ eZ))) 190 v (bif b then (t1, t2, t3) else ((false, []), ((false, []), (false, []))))⟩, ⟨some 13, 8, none, fun b v => mP (ERep.c (eP eZ (eP eZ eZ))) 190 v (((false, []), ((false, []), (false, []))))⟩] [2, 3, 4, 5, 6, 7, 8, 23] rfl (by kernel_rfl) rfl rfl (by kernel_rfl) rfl (by kernel_rfl) ⟨?_, ?_, ?_, ?_, ?_, ?_, ?_, ?_, ?_, ?_, ?_, ?_, ?_, ?_, ?_, trivial⟩ ?_
 ·intro S w env hS hM hΓ hl
  obtain ⟨e2, _⟩ := hl
  exact ⟨fun _ => ob_E (Γ := [fP eZ (a1) p2, fP eZ (a0) p1, fV eZ (a0) va0, fV eZ (a1) va1]) (oe_field (e := eZ) (z := a0) fl25_1 (e2.trans rfl) (Sub.snd eBool (eS eU) (a0)) (fun S w h => h.2.1)) hS hM hΓ, fun hc => (by cases hc)⟩
 ·intro S w env hS hM hΓ hl
  obtain ⟨⟨p3, e12, _, f12⟩, _⟩ := hl
  exact ⟨fun _ => ob_E (Γ := [fP (eS eU) (a0.2) p3, fP eZ (a1) p2, fP eZ (a0) p1, fV eZ (a0) va0, fV eZ (a1) va1]) (oe_load (e := (eS eU)) (y := a0.2) e12 ty23 (fun S w h => h.1)) hS hM ⟨f12.1, hΓ⟩, fun hc => (by cases hc)⟩
 ·intro S w env hS hM hΓ hl
  obtain ⟨⟨u1, e13, _, f13⟩, _⟩ := hl
  exact ⟨fun _ => ob_E (Γ := [fV (eS eU) (a0.2) u1, fP eZ (a1) p2, fP eZ (a0) p1, fV eZ (a0) va0, fV eZ (a1) va1]) (oe_call (by kernel_rfl) (c_zint_made fu false a0.2 u1 t1 he1) (la_cons rfl (la_cons e13 la_nil)) (fun S w h => ⟨h.1, trivial⟩)) hS hM ⟨f13.1, hΓ⟩, fun hc => (by cases hc)⟩
 ·intro S w env hS hM hΓ hl
  obtain ⟨_⟩ := hl
  exact ⟨fun _ => ob_E (Γ := [fP eZ (a1) p2, fP eZ (a0) p1, fV eZ (a0) va0, fV eZ (a1) va1]) (oe_call (by kernel_rfl) (c_zint_Of fu 1 (show InR (1) by decide) t2 he2) rfl (fun S w h => trivial)) hS hM hΓ, fun hc => (by cases hc)⟩
 ·intro S w env hS hM hΓ hl
  obtain ⟨_⟩ := hl
  exact ⟨fun _ => ob_E (Γ := [fP eZ (a1) p2, fP eZ (a0) p1, fV eZ (a0) va0, fV eZ (a1) va1]) (oe_call (by kernel_rfl) (c_zint_Of fu 0 (show InR (0) by decide) t3 he3) rfl (fun S w h => trivial)) hS hM hΓ, fun hc => (by cases hc)⟩
 ·intro S w env hS hM hΓ hl
  obtain ⟨⟨u2, e14, _, f14⟩, ⟨u3, e15, _, f15⟩, ⟨u4, e16, _, f16⟩, _⟩ := hl
  exact ⟨fun _ => ob_E (Γ := [fV eZ (t1) u2, fV eZ (t2) u3, fV eZ (t3) u4, fP eZ (a1) p2, fP eZ (a0) p1, fV eZ (a0) va0, fV eZ (a1) va1]) (oe_build (e := (eP eZ (eP eZ eZ))) (z := (t1, t2, t3)) ty190 rfl rfl (vs := [(0, u2), (1, u3), (2, u4)]) (lb_cons e14 (lb_cons e15 (lb_cons e16 lb_nil))) (.inl (plx pl190 fun S w h => (by refine pl_eq [2, 2, 2] ?_ ?_; exact ⟨fV_sz (S := S) (w := w) h.1, fV_sz (S := S) (w := w) h.2.1, fV_sz (S := S) (w := w) h.2.2.1, trivial⟩; rfl))) (fun S w h => bp_cons h.1 (bp_cons h.2.1 (bp_last h.2.2.1)))) hS hM ⟨f14.1, f15.1, f16.1, hΓ⟩, fun hc => (by cases hc)⟩
 ·intro S w env hS hM hΓ hl
  obtain ⟨e3, _⟩ := hl
  exact ⟨fun _ => ob_E (Γ := [fP eZ (a1) p2, fP eZ (a0) p1, fV eZ (a0) va0, fV eZ (a1) va1]) (oe_field (e := eZ) (z := a1) fl25_1 (e3.trans rfl) (Sub.snd eBool (eS eU) (a1)) (fun S w h => h.1)) hS hM hΓ, fun hc => (by cases hc)⟩
 ·intro S w env hS hM hΓ hl
  obtain ⟨⟨p4, e18, _, f18⟩, _⟩ := hl
  exact ⟨fun _ => ob_E (Γ := [fP (eS eU) (a1.2) p4, fP eZ (a1) p2, fP eZ (a0) p1, fV eZ (a0) va0, fV eZ (a1) va1]) (oe_load (e := (eS eU)) (y := a1.2) e18 ty23 (fun S w h => h.1)) hS hM ⟨f18.1, hΓ⟩, fun hc => (by cases hc)⟩
 ·intro S w env hS hM hΓ hl
  obtain ⟨⟨u6, e19, _, f19⟩, _⟩ := hl
  exact ⟨fun _ => ob_E (Γ := [fV (eS eU) (a1.2) u6, fP eZ (a1) p2, fP eZ (a0) p1, fV eZ (a0) va0, fV eZ (a1) va1]) (oe_call (by kernel_rfl) (c_zint_made fu false a1.2 u6 t4 he4) (la_cons rfl (la_cons e19 la_nil)) (fun S w h => ⟨h.1, trivial⟩)) hS hM ⟨f19.1, hΓ⟩, fun hc => (by cases hc)⟩
 ·intro S w env hS hM hΓ hl
  obtain ⟨_⟩ := hl
  exact ⟨fun _ => ob_E (Γ := [fP eZ (a1) p2, fP eZ (a0) p1, fV eZ (a0) va0, fV eZ (a1) va1]) (oe_call (by kernel_rfl) (c_zint_Of fu 0 (show InR (0) by decide) t5 he5) rfl (fun S w h => trivial)) hS hM hΓ, fun hc => (by cases hc)⟩
 ·intro S w env hS hM hΓ hl
  obtain ⟨_⟩ := hl
  exact ⟨fun _ => ob_E (Γ := [fP eZ (a1) p2, fP eZ (a0) p1, fV eZ (a0) va0, fV eZ (a1) va1]) (oe_call (by kernel_rfl) (c_zint_Of fu 1 (show InR (1) by decide) t6 he6) rfl (fun S w h => trivial)) hS hM hΓ, fun hc => (by cases hc)⟩
 ·intro S w env hS hM hΓ hl
  obtain ⟨⟨u7, e20, _, f20⟩, ⟨u8, e21, _, f21⟩, ⟨u9, e22, _, f22⟩, _⟩ := hl
  exact ⟨fun _ => ob_E (Γ := [fV eZ (t4) u7, fV eZ (t5) u8, fV eZ (t6) u9, fP eZ (a1) p2, fP eZ (a0) p1, fV eZ (a0) va0, fV eZ (a1) va1]) (oe_build (e := (eP eZ (eP eZ eZ))) (z := (t4, t5, t6)) ty190 rfl rfl (vs := [(0, u7), (1, u8), (2, u9)]) (lb_cons e20 (lb_cons e21 (lb_cons e22 lb_nil))) (.inl (plx pl190 fun S w h => (by refine pl_eq [2, 2, 2] ?_ ?_; exact ⟨fV_sz (S := S) (w := w) h.1, fV_sz (S := S) (w := w) h.2.1, fV_sz (S := S) (w := w) h.2.2.1, trivial⟩; rfl))) (fun S w h => bp_cons h.1 (bp_cons h.2.1 (bp_last h.2.2.1)))) hS hM ⟨f20.1, f21.1, f22.1, hΓ⟩, fun hc => (by cases hc)⟩
 ·refine ⟨rfl, rfl, fun r hr => ?_⟩
  cases hr
  intro env F G w hst
  refine (og_allocM (e := ERep.c (eP eZ (eP eZ eZ))) (z := ((false, []), ((false, []), (false, [])))) ty190 (fun S w => z190 S w) w hst).mono ?_
  rintro v w' ⟨b, rfl, _, h3⟩
  exact St.weak (h3.toP 0 rfl) fun S w h => h.2
 ·refine ⟨rfl, rfl, fun r hr => ?_⟩
  cases hr
  intro env F G w hst
  refine (og_allocM (e := ERep.c (eP eZ (eP eZ eZ))) (z := ((false, []), ((false, []), (false, [])))) ty190 (fun S w => z190 S w) w hst).mono ?_
  rintro v w' ⟨b, rfl, _, h3⟩
  exact St.weak (h3.toP 0 rfl) fun S w h => h.2
 ·refine ⟨rfl, rfl, fun r hr => ?_⟩
  cases hr
  intro env F G w hst
  have hst : St we Se _ (fHold _ _ env [7, 17] :: _) w := hst
  have hst := St.openT hst
  obtain ⟨u5, e17, _, hst⟩ := St.openE hst rfl
  obtain ⟨bq, hPq, hst⟩ := St.openP 0 hst rfl
  refine (og_store' (f := (eP eZ (eP eZ eZ))) (y' := (t1, t2, t3)) (z2 := (t1, t2, t3)) 0 (by exact rfl) (by exact hPq) (by exact e17) (Sub.self (eP eZ (eP eZ eZ)) (((false, []), ((false, []), (false, []))))) ty190 (by exact fun S w h => h.2.1) rfl w hst).mono ?_
  rintro v w' ⟨_, _, _, h3⟩
  show St _ _ (mP (ERep.c (eP eZ (eP eZ eZ))) 190 (env 7) ((t1, t2, t3)) :: F) _ _
  rw [show env 7 = _ from hPq]
  exact St.weak (h3.toP 0 rfl) fun S w h => h.2.2
 intro env w hst
 have hst : St we Se _ (fHold _ _ env [2, 3, 4, 5, 6, 7, 8, 23] :: _) w := hst
 obtain ⟨e2, hst⟩ := St.open0 hst rfl rfl
 obtain ⟨e3, hst⟩ := St.open0 hst rfl rfl
 obtain ⟨e4, hst⟩ := St.open0 hst rfl rfl
 obtain ⟨e5, hst⟩ := St.open0 hst rfl rfl
 obtain ⟨e6, hst⟩ := St.open0 hst rfl rfl
 have hst := St.openT hst
 have hst := St.openT hst
 obtain ⟨u10, e23, _, hst⟩ := St.openE hst rfl
 obtain ⟨b6, hPq0, hst⟩ := St.openP 0 hst rfl
 obtain ⟨b7, hPq1, hst⟩ := St.openP 1 hst rfl
 refine fin_TL (ms' := [mB (ERep.c (eP eZ (eP eZ eZ))) 190 b6 ((t1, t2, t3)), mB (ERep.c (eP eZ (eP eZ eZ))) 190 b7 (((false, []), ((false, []), (false, [])))), mB (ERep.c eZ) 25 b3 ((false, [])), mB (ERep.c eZ) 25 b2 ((false, [])), mB (ERep.c eZ) 25 b1 ((false, []))]) (Γ' := [fV (eP eZ (eP eZ eZ)) ((t4, t5, t6)) u10, fP eZ (a1) p2, fP eZ (a0) p1, fV eZ (a0) va0, fV eZ (a1) va1]) [(2, p1), (3, p2), (4, .pointer (some ⟨b1, 0, none⟩)), (5, .pointer (some ⟨b2, 0, none⟩)), (6, .pointer (some ⟨b3, 0, none⟩)), (7, .pointer (some ⟨b6, 0, none⟩)), (8, .pointer (some ⟨b7, 0, none⟩)), (23, u10)] (agr ⟨(e2.trans rfl), (e3.trans rfl), (e4.trans rfl), (e5.trans rfl), (e6.trans rfl), hPq0, hPq1, e23, trivial⟩) (St.weak hst fun S w h => h.2) fun rest => TL_og rfl rfl (og_store' (f := (eP eZ (eP eZ eZ))) (y' := (t4, t5, t6)) (z2 := (t4, t5, t6)) 1 rfl rfl rfl (Sub.self (eP eZ (eP eZ eZ)) (((false, []), ((false, []), (false, []))))) ty190 (fun S w h => h.1) rfl) fun _ _ => ?_
 show TL _ _ _ _ [mB (ERep.c (eP eZ (eP eZ eZ))) 190 b6 ((t1, t2, t3)), mB (ERep.c (eP eZ (eP eZ eZ))) 190 b7 ((t4, t5, t6)), mB (ERep.c eZ) 25 b3 ((false, [])), mB (ERep.c eZ) 25 b2 ((false, [])), mB (ERep.c eZ) 25 b1 ((false, []))] [fV (eP eZ (eP eZ eZ)) ((t4, t5, t6)) u10, fP eZ (a1) p2, fP eZ (a0) p1, fV eZ (a0) va0, fV eZ (a1) va1] _ _ _ _
 refine TL_mv 0 [(2, p1), (3, p2), (4, .pointer (some ⟨b1, 0, none⟩)), (5, .pointer (some ⟨b2, 0, none⟩)), (6, .pointer (some ⟨b3, 0, none⟩)), (7, .pointer (some ⟨b6, 0, none⟩)), (8, .pointer (some ⟨b7, 0, none⟩))] rfl fun rest => TL_nil <| T_seq <| T_block ?_
 obtain ⟨s1, hL, Hc⟩ := bd_s H
 refine T_X [(.x 0, JQ we Se (G := Zr × (Zr × Zr)) (fun t13 => (⟨[mB (ERep.c (eP eZ (eP eZ eZ))) 190 b6 (t13), mB (ERep.c eZ) 25 b3 ((false, [])), mB (ERep.c eZ) 25 b2 ((false, [])), mB (ERep.c eZ) 25 b1 ((false, []))], [fP eZ (a1) p2, fP eZ (a0) p1], [(2, p1), (3, p2), (4, .pointer (some ⟨b1, 0, none⟩)), (5, .pointer (some ⟨b2, 0, none⟩)), (6, .pointer (some ⟨b3, 0, none⟩)), (7, .pointer (some ⟨b6, 0, none⟩))]⟩ : Inv)) (fun t13 => t13 = s1))] ?_ ⟨?_, trivial⟩
 ·refine T_loop_s (G := Nat × (Zr × (Zr × Zr)) × (Zr × (Zr × Zr))) (s1 := _) (f := _) (k := fun (n1, t11, t12) => n1) (σ := fun (n1, t11, t12) => (t11, t12)) (fun (n1, t11, t12) => (⟨[mB (ERep.c (eP eZ (eP eZ eZ))) 190 b6 (t11), mB (ERep.c (eP eZ (eP eZ eZ))) 190 b7 (t12), mB (ERep.c eZ) 25 b3 ((false, [])), mB (ERep.c eZ) 25 b2 ((false, [])), mB (ERep.c eZ) 25 b1 ((false, []))], [fP eZ (a1) p2, fP eZ (a0) p1], [(2, p1), (3, p2), (4, .pointer (some ⟨b1, 0, none⟩)), (5, .pointer (some ⟨b2, 0, none⟩)), (6, .pointer (some ⟨b3, 0, none⟩)), (7, .pointer (some ⟨b6, 0, none⟩)), (8, .pointer (some ⟨b7, 0, none⟩))]⟩ : Inv)) (fun (n1, t11, t12) => True) (fu, (t1, t2, t3), (t4, t5, t6)) hL trivial rfl (fun w h => St.weak h (fun S w h => ⟨h.2.1, h.2.2.1, trivial⟩)) ?_
  rintro ⟨n1, t11, t12⟩ ⟨H, _⟩ rest
  rcases n1 with _ | n1
  ·exact (loopN_z H).elim
  replace H := loopN_s H
  unfold B_zint_Bezout_0 at H
  refine T_prune [(2, p1), (3, p2), (4, .pointer (some ⟨b1, 0, none⟩)), (5, .pointer (some ⟨b2, 0, none⟩)), (6, .pointer (some ⟨b3, 0, none⟩)), (7, .pointer (some ⟨b6, 0, none⟩)), (8, .pointer (some ⟨b7, 0, none⟩))] rfl fun rest => T_weak [mB (ERep.c (eP eZ (eP eZ eZ))) 190 b6 (t11), mB (ERep.c (eP eZ (eP eZ eZ))) 190 b7 (t12), mB (ERep.c eZ) 25 b3 ((false, [])), mB (ERep.c eZ) 25 b2 ((false, [])), mB (ERep.c eZ) 25 b1 ((false, []))] [fP eZ (a1) p2, fP eZ (a0) p1] (fun w h => h) <| T_seq <| T_seq <| T_region <| TL_val rfl rfl (r_field fl190_0 rfl) ?_
  refine TL_step rfl rfl (oe_loadM (z' := t12.1) 1 rfl rfl (Sub.fst eZ (eP eZ eZ) (t12)) ty25) fun u11 _ => ?_
  obtain ⟨x1, he7, H⟩ := bd_s H
  refine TL_step rfl rfl (oe_call (by kernel_rfl) (c_zint_Sign fu t12.1 u11 x1 he7) rfl (fun S w h => ⟨h.1, trivial⟩)) fun _ hk1 => TL_neq rfl rfl rfl rfl (fun h1 => ?_) (fun h1 => ?_)
  ·replace H := if_f h1 H
   refine TL_mv 0 [(2, p1), (3, p2), (4, .pointer (some ⟨b1, 0, none⟩)), (5, .pointer (some ⟨b2, 0, none⟩)), (6, .pointer (some ⟨b3, 0, none⟩)), (7, .pointer (some ⟨b6, 0, none⟩)), (8, .pointer (some ⟨b7, 0, none⟩)), (27, .bool true)] rfl fun rest => TL_nil <| T_cond_true rfl <| T_skip <| T_block <| T_seq ?_
   refine T_region <| TL_val rfl rfl (r_field fl190_0 rfl) <| TL_step rfl rfl (oe_loadM (z' := t11.1) 0 rfl rfl (Sub.fst eZ (eP eZ eZ) (t11)) ty25) fun u12 _ => TL_val rfl rfl (r_field fl190_0 rfl) <| TL_step rfl rfl (oe_loadM (z' := t12.1) 1 rfl rfl (Sub.fst eZ (eP eZ eZ) (t12)) ty25) fun u13 _ => ?_
   obtain ⟨⟨t15, t16, x2⟩, he8, H⟩ := bd_s H
   refine TL_step rfl rfl (oe_call (by kernel_rfl) (c_zint_Div fu t11.1 u12 t12.1 u13 t15 t16 x2 he8) rfl (fun S w h => ⟨h.2.1, h.1, trivial⟩)) fun ⟨u14, u15⟩ hk2 => TL_mv 4 [(2, p1), (3, p2), (4, .pointer (some ⟨b1, 0, none⟩)), (5, .pointer (some ⟨b2, 0, none⟩)), (6, .pointer (some ⟨b3, 0, none⟩)), (7, .pointer (some ⟨b6, 0, none⟩)), (8, .pointer (some ⟨b7, 0, none⟩)), (34, u14), (35, u15), (36, iv (x2))] rfl fun rest => TL_og rfl rfl (og_allocM (e := ERep.c eZ) (z := (false, [])) ty25 (fun S w => z25 S w)) fun b8 _ => ?_
   show TL _ _ _ _ [mB (ERep.c eZ) 25 b8 ((false, [])), mB (ERep.c (eP eZ (eP eZ eZ))) 190 b6 (t11), mB (ERep.c (eP eZ (eP eZ eZ))) 190 b7 (t12), mB (ERep.c eZ) 25 b3 ((false, [])), mB (ERep.c eZ) 25 b2 ((false, [])), mB (ERep.c eZ) 25 b1 ((false, []))] [fV eZ (t15) u14, fV eZ (t16) u15, fV eZ (t12.1) u13, fV eZ (t11.1) u12, fV eZ (t12.1) u11, fP eZ (a1) p2, fP eZ (a0) p1] _ _ _ _
   refine TL_og rfl rfl (og_allocM (e := ERep.c eZ) (z := (false, [])) ty25 (fun S w => z25 S w)) fun b9 _ => ?_
   show TL _ _ _ _ [mB (ERep.c eZ) 25 b9 ((false, [])), mB (ERep.c eZ) 25 b8 ((false, [])), mB (ERep.c (eP eZ (eP eZ eZ))) 190 b6 (t11), mB (ERep.c (eP eZ (eP eZ eZ))) 190 b7 (t12), mB (ERep.c eZ) 25 b3 ((false, [])), mB (ERep.c eZ) 25 b2 ((false, [])), mB (ERep.c eZ) 25 b1 ((false, []))] [fV eZ (t15) u14, fV eZ (t16) u15, fV eZ (t12.1) u13, fV eZ (t11.1) u12, fV eZ (t12.1) u11, fP eZ (a1) p2, fP eZ (a0) p1] _ _ _ _
   refine TL_og rfl rfl (og_store' (f := eZ) (y' := t15) (z2 := t15) 1 rfl rfl rfl (Sub.self eZ ((false, []))) ty25 (fun S w h => h.1) rfl) fun _ _ => ?_
   show TL _ _ _ _ [mB (ERep.c eZ) 25 b9 ((false, [])), mB (ERep.c eZ) 25 b8 (t15), mB (ERep.c (eP eZ (eP eZ eZ))) 190 b6 (t11), mB (ERep.c (eP eZ (eP eZ eZ))) 190 b7 (t12), mB (ERep.c eZ) 25 b3 ((false, [])), mB (ERep.c eZ) 25 b2 ((false, [])), mB (ERep.c eZ) 25 b1 ((false, []))] [fV eZ (t15) u14, fV eZ (t16) u15, fV eZ (t12.1) u13, fV eZ (t11.1) u12, fV eZ (t12.1) u11, fP eZ (a1) p2, fP eZ (a0) p1] _ _ _ _
   refine TL_og rfl rfl (og_store' (f := eZ) (y' := t16) (z2 := t16) 0 rfl rfl rfl (Sub.self eZ ((false, []))) ty25 (fun S w h => h.2.1) rfl) fun _ _ => ?_
   show TL _ _ _ _ [mB (ERep.c eZ) 25 b9 (t16), mB (ERep.c eZ) 25 b8 (t15), mB (ERep.c (eP eZ (eP eZ eZ))) 190 b6 (t11), mB (ERep.c (eP eZ (eP eZ eZ))) 190 b7 (t12), mB (ERep.c eZ) 25 b3 ((false, [])), mB (ERep.c eZ) 25 b2 ((false, [])), mB (ERep.c eZ) 25 b1 ((false, []))] [fV eZ (t15) u14, fV eZ (t16) u15, fV eZ (t12.1) u13, fV eZ (t11.1) u12, fV eZ (t12.1) u11, fP eZ (a1) p2, fP eZ (a0) p1] _ _ _ _
   refine TL_mv 1 [(2, p1), (3, p2), (4, .pointer (some ⟨b1, 0, none⟩)), (5, .pointer (some ⟨b2, 0, none⟩)), (6, .pointer (some ⟨b3, 0, none⟩)), (7, .pointer (some ⟨b6, 0, none⟩)), (8, .pointer (some ⟨b7, 0, none⟩)), (9, .pointer (some ⟨b8, 0, none⟩))] rfl fun rest => TL_sel [fP eZ (a1) p2, fP eZ (a0) p1] (fun S w h => ⟨h.2.2.2.2.2.1, h.2.2.2.2.2.2.1, trivial⟩) <| TL_nil ?_
   obtain ⟨t17, he9, H⟩ := bd_s H
   refine T_draw 5 [prE (fun u : Value => u) (fun u => [fV (eP eZ (eP eZ eZ)) (t12) u]) (fun _ => True), prE (fun u : Value => u) (fun u => [fV (eP eZ (eP eZ eZ)) (t11) u]) (fun _ => True), prE (fun u : Value => u) (fun u => [fV eZ (t15) u]) (fun _ => True), prE (fun u : Value => u) (fun u => [fV (eP eZ (eP eZ eZ)) (t12) u]) (fun _ => True), prE (fun u : Value => u) (fun u => [fV (eP eZ (eP eZ eZ)) (t17) u]) (fun _ => True)] [2, 3, 4, 5, 6, 7, 8, 37, 41] rfl (by kernel_rfl) rfl (by kernel_rfl) ⟨?_, ?_, ?_, ?_, ?_, trivial⟩ ?_
   ·intro S w env hS hM hΓ hl
    obtain ⟨e8, _⟩ := hl
    exact ⟨fun _ => ob_E (Γ := [fP eZ (a1) p2, fP eZ (a0) p1]) (oe_loadM (z' := t12) 3 rfl (e8.trans rfl) (Sub.self (eP eZ (eP eZ eZ)) (t12)) ty190) hS hM hΓ, fun hc => (by cases hc)⟩
   ·intro S w env hS hM hΓ hl
    obtain ⟨e7, _⟩ := hl
    exact ⟨fun _ => ob_E (Γ := [fP eZ (a1) p2, fP eZ (a0) p1]) (oe_loadM (z' := t11) 2 rfl (e7.trans rfl) (Sub.self (eP eZ (eP eZ eZ)) (t11)) ty190) hS hM hΓ, fun hc => (by cases hc)⟩
   ·intro S w env hS hM hΓ hl
    obtain ⟨e9, _⟩ := hl
    exact ⟨fun _ => ob_E (Γ := [fP eZ (a1) p2, fP eZ (a0) p1]) (oe_loadM (z' := t15) 1 rfl (e9.trans rfl) (Sub.self eZ (t15)) ty25) hS hM hΓ, fun hc => (by cases hc)⟩
   ·intro S w env hS hM hΓ hl
    obtain ⟨e8, _⟩ := hl
    exact ⟨fun _ => ob_E (Γ := [fP eZ (a1) p2, fP eZ (a0) p1]) (oe_loadM (z' := t12) 3 rfl (e8.trans rfl) (Sub.self (eP eZ (eP eZ eZ)) (t12)) ty190) hS hM hΓ, fun hc => (by cases hc)⟩
   ·intro S w env hS hM hΓ hl
    obtain ⟨⟨u17, e38, _, f38⟩, ⟨u18, e39, _, f39⟩, ⟨u19, e40, _, f40⟩, _⟩ := hl
    exact ⟨fun _ => ob_E (Γ := [fV (eP eZ (eP eZ eZ)) (t11) u17, fV eZ (t15) u18, fV (eP eZ (eP eZ eZ)) (t12) u19, fP eZ (a1) p2, fP eZ (a0) p1]) (oe_call (by kernel_rfl) (c_zint_line_less fu t11 u17 t15 u18 t12 u19 t17 he9) (la_cons e38 (la_cons e39 (la_cons e40 la_nil))) (fun S w h => ⟨h.1, h.2.1, h.2.2.1, trivial⟩)) hS hM ⟨f38.1, f39.1, f40.1, hΓ⟩, fun hc => (by cases hc)⟩
   intro S w env hS hΓ hl
   obtain ⟨e2, e3, e4, e5, e6, e7, e8, ⟨u16, e37, _, f37⟩, ⟨u20, e41, _, f41⟩, _⟩ := hl
   refine ⟨[fV (eP eZ (eP eZ eZ)) (t12) u16, fV (eP eZ (eP eZ eZ)) (t17) u20, fP eZ (a1) p2, fP eZ (a0) p1], [(2, p1), (3, p2), (4, .pointer (some ⟨b1, 0, none⟩)), (5, .pointer (some ⟨b2, 0, none⟩)), (6, .pointer (some ⟨b3, 0, none⟩)), (7, .pointer (some ⟨b6, 0, none⟩)), (8, .pointer (some ⟨b7, 0, none⟩)), (37, u16), (41, u20)], ⟨f37.1, f41.1, hΓ⟩, (agr ⟨(e2.trans rfl), (e3.trans rfl), (e4.trans rfl), (e5.trans rfl), (e6.trans rfl), (e7.trans rfl), (e8.trans rfl), e37, e41, trivial⟩), fun rest => ?_⟩
   refine TL_og rfl rfl (og_store' (f := (eP eZ (eP eZ eZ))) (y' := t12) (z2 := t12) 2 rfl rfl rfl (Sub.self (eP eZ (eP eZ eZ)) (t11)) ty190 (fun S w h => h.1) rfl) fun _ _ => ?_
   show TL _ _ _ _ [mB (ERep.c eZ) 25 b9 (t16), mB (ERep.c eZ) 25 b8 (t15), mB (ERep.c (eP eZ (eP eZ eZ))) 190 b6 (t12), mB (ERep.c (eP eZ (eP eZ eZ))) 190 b7 (t12), mB (ERep.c eZ) 25 b3 ((false, [])), mB (ERep.c eZ) 25 b2 ((false, [])), mB (ERep.c eZ) 25 b1 ((false, []))] [fV (eP eZ (eP eZ eZ)) (t12) u16, fV (eP eZ (eP eZ eZ)) (t17) u20, fP eZ (a1) p2, fP eZ (a0) p1] _ _ _ _
   refine TL_og rfl rfl (og_store' (f := (eP eZ (eP eZ eZ))) (y' := t17) (z2 := t17) 3 rfl rfl rfl (Sub.self (eP eZ (eP eZ eZ)) (t12)) ty190 (fun S w h => h.2.1) rfl) fun _ _ => ?_
   show TL _ _ _ _ [mB (ERep.c eZ) 25 b9 (t16), mB (ERep.c eZ) 25 b8 (t15), mB (ERep.c (eP eZ (eP eZ eZ))) 190 b6 (t12), mB (ERep.c (eP eZ (eP eZ eZ))) 190 b7 (t17), mB (ERep.c eZ) 25 b3 ((false, [])), mB (ERep.c eZ) 25 b2 ((false, [])), mB (ERep.c eZ) 25 b1 ((false, []))] [fV (eP eZ (eP eZ eZ)) (t12) u16, fV (eP eZ (eP eZ eZ)) (t17) u20, fP eZ (a1) p2, fP eZ (a0) p1] _ _ _ _
   refine TL_mv 0 [(2, p1), (3, p2), (4, .pointer (some ⟨b1, 0, none⟩)), (5, .pointer (some ⟨b2, 0, none⟩)), (6, .pointer (some ⟨b3, 0, none⟩)), (7, .pointer (some ⟨b6, 0, none⟩)), (8, .pointer (some ⟨b7, 0, none⟩))] rfl fun rest => TL_nil ?_
   exact St_round_s (n1, t12, t17) H trivial (Nat.lt_succ_self _) rfl (fun w h => St.weak (St.drop (i := 0) (St.drop (i := 0) h)) (fun S w h => ⟨h.2.2.1, h.2.2.2.1, trivial⟩))
  replace H := if_t h1 H
  refine TL_mv 0 [(2, p1), (3, p2), (4, .pointer (some ⟨b1, 0, none⟩)), (5, .pointer (some ⟨b2, 0, none⟩)), (6, .pointer (some ⟨b3, 0, none⟩)), (7, .pointer (some ⟨b6, 0, none⟩)), (8, .pointer (some ⟨b7, 0, none⟩)), (27, .bool false)] rfl fun rest => TL_nil <| T_cond_false rfl <| T_exit ?_
  exact JQ_mk t11 (Option.some.inj H) rfl (fun w h => St.weak (St.drop (i := 1) h) (fun S w h => ⟨h.2.1, h.2.2.1, trivial⟩))
 refine JQ_el' ?_
 rintro t13 hs rest
 subst hs
 replace H := Hc
 clear hL
 refine JG_to (ms' := [mB (ERep.c (eP eZ (eP eZ eZ))) 190 b6 (t13), mB (ERep.c eZ) 25 b3 ((false, [])), mB (ERep.c eZ) 25 b2 ((false, [])), mB (ERep.c eZ) 25 b1 ((false, []))]) (Γ' := [fP eZ (a1) p2, fP eZ (a0) p1]) (live' := [(2, p1), (3, p2), (4, .pointer (some ⟨b1, 0, none⟩)), (5, .pointer (some ⟨b2, 0, none⟩)), (6, .pointer (some ⟨b3, 0, none⟩)), (7, .pointer (some ⟨b6, 0, none⟩))]) rfl <| T_seq ?_
 obtain ⟨s2, hL, Hc⟩ := bd_s H
 refine T_X [(.n, JQ we Se (G := Zr × (Zr × Zr)) (fun t18 => (⟨[mB (ERep.c (eP eZ (eP eZ eZ))) 190 b6 (t18), mB (ERep.c eZ) 25 b3 ((false, [])), mB (ERep.c eZ) 25 b2 ((false, [])), mB (ERep.c eZ) 25 b1 ((false, []))], [fP eZ (a1) p2], [(3, p2), (4, .pointer (some ⟨b1, 0, none⟩)), (5, .pointer (some ⟨b2, 0, none⟩)), (6, .pointer (some ⟨b3, 0, none⟩)), (7, .pointer (some ⟨b6, 0, none⟩))]⟩ : Inv)) (fun t18 => t18 = s2))] ?_ ⟨?_, trivial⟩
 ·replace H := hL
  refine T_seq <| T_region <| TL_step rfl rfl (oe_load (e := eZ) (y := a0) rfl ty25 (fun S w h => h.2.1)) fun u21 _ => ?_
  obtain ⟨x3, he10, H⟩ := bd_s H
  refine TL_step rfl rfl (oe_call (by kernel_rfl) (c_zint_Sign fu a0 u21 x3 he10) rfl (fun S w h => ⟨h.1, trivial⟩)) fun _ hk3 => TL_lss rfl rfl rfl rfl (fun h2 => ?_) (fun h2 => ?_)
  ·replace H := if_t h2 H
   refine TL_mv 0 [(3, p2), (4, .pointer (some ⟨b1, 0, none⟩)), (5, .pointer (some ⟨b2, 0, none⟩)), (6, .pointer (some ⟨b3, 0, none⟩)), (7, .pointer (some ⟨b6, 0, none⟩)), (44, .bool true)] rfl fun rest => TL_nil <| T_cond_true rfl <| T_region <| TL_val rfl rfl (r_field fl190_1 rfl) <| TL_step rfl rfl (oe_loadM (z' := t13.2.1) 0 rfl rfl (Sub.off (Sub.comp (Sub.snd eZ (eP eZ eZ) (t13)) (Sub.fst eZ eZ (t13.2))) rfl) ty25) fun u22 _ => ?_
   obtain ⟨t19, he11, H⟩ := bd_s H
   refine TL_step rfl rfl (oe_call (by kernel_rfl) (c_zint_Neg fu t13.2.1 u22 t19 he11) rfl (fun S w h => ⟨h.1, trivial⟩)) fun u23 _ => TL_val rfl rfl (r_field fl190_1 rfl) ?_
   obtain ⟨t20, ht20, H⟩ := nm_s H
   refine TL_og rfl rfl (og_store' (f := eZ) (y' := t19) (z2 := t20) 0 rfl rfl rfl (Sub.off (Sub.comp (Sub.snd eZ (eP eZ eZ) (t13)) (Sub.fst eZ eZ (t13.2))) rfl) ty25 (fun S w h => h.1) ht20) fun _ _ => ?_
   show TL _ _ _ _ [mB (ERep.c (eP eZ (eP eZ eZ))) 190 b6 (t20), mB (ERep.c eZ) 25 b3 ((false, [])), mB (ERep.c eZ) 25 b2 ((false, [])), mB (ERep.c eZ) 25 b1 ((false, []))] [fV eZ (t19) u23, fV eZ (t13.2.1) u22, fV eZ (a0) u21, fP eZ (a1) p2, fP eZ (a0) p1] _ _ _ _
   refine TL_mv 0 [(3, p2), (4, .pointer (some ⟨b1, 0, none⟩)), (5, .pointer (some ⟨b2, 0, none⟩)), (6, .pointer (some ⟨b3, 0, none⟩)), (7, .pointer (some ⟨b6, 0, none⟩))] rfl fun rest => TL_nil ?_
   exact JQ_mk t20 (Option.some.inj H) rfl (fun w h => St.weak h (fun S w h => ⟨h.2.2.2.1, trivial⟩))
  replace H := if_f h2 H
  refine TL_mv 0 [(3, p2), (4, .pointer (some ⟨b1, 0, none⟩)), (5, .pointer (some ⟨b2, 0, none⟩)), (6, .pointer (some ⟨b3, 0, none⟩)), (7, .pointer (some ⟨b6, 0, none⟩)), (44, .bool false)] rfl fun rest => TL_nil <| T_cond_false rfl <| T_skip ?_
  exact JQ_mk t13 (Option.some.inj H) rfl (fun w h => St.weak h (fun S w h => ⟨h.2.1, trivial⟩))
 refine JQ_el' ?_
 rintro t18 hs rest
 subst hs
 replace H := Hc
 clear hL
 refine JG_to (ms' := [mB (ERep.c (eP eZ (eP eZ eZ))) 190 b6 (t18), mB (ERep.c eZ) 25 b3 ((false, [])), mB (ERep.c eZ) 25 b2 ((false, [])), mB (ERep.c eZ) 25 b1 ((false, []))]) (Γ' := [fP eZ (a1) p2]) (live' := [(3, p2), (4, .pointer (some ⟨b1, 0, none⟩)), (5, .pointer (some ⟨b2, 0, none⟩)), (6, .pointer (some ⟨b3, 0, none⟩)), (7, .pointer (some ⟨b6, 0, none⟩))]) rfl <| T_seq ?_
 obtain ⟨s3, hL, Hc⟩ := bd_s H
 refine T_X [(.n, JQ we Se (G := Zr × (Zr × Zr)) (fun t21 => (⟨[mB (ERep.c (eP eZ (eP eZ eZ))) 190 b6 (t21), mB (ERep.c eZ) 25 b3 ((false, [])), mB (ERep.c eZ) 25 b2 ((false, [])), mB (ERep.c eZ) 25 b1 ((false, []))], [], [(4, .pointer (some ⟨b1, 0, none⟩)), (5, .pointer (some ⟨b2, 0, none⟩)), (6, .pointer (some ⟨b3, 0, none⟩)), (7, .pointer (some ⟨b6, 0, none⟩))]⟩ : Inv)) (fun t21 => t21 = s3))] ?_ ⟨?_, trivial⟩
 ·replace H := hL
  refine T_seq <| T_region <| TL_step rfl rfl (oe_load (e := eZ) (y := a1) rfl ty25 (fun S w h => h.1)) fun u24 _ => ?_
  obtain ⟨x4, he12, H⟩ := bd_s H
  refine TL_step rfl rfl (oe_call (by kernel_rfl) (c_zint_Sign fu a1 u24 x4 he12) rfl (fun S w h => ⟨h.1, trivial⟩)) fun _ hk4 => TL_lss rfl rfl rfl rfl (fun h3 => ?_) (fun h3 => ?_)
  ·replace H := if_t h3 H
   refine TL_mv 0 [(4, .pointer (some ⟨b1, 0, none⟩)), (5, .pointer (some ⟨b2, 0, none⟩)), (6, .pointer (some ⟨b3, 0, none⟩)), (7, .pointer (some ⟨b6, 0, none⟩)), (51, .bool true)] rfl fun rest => TL_nil <| T_cond_true rfl <| T_region <| TL_val rfl rfl (r_field fl190_2 rfl) <| TL_step rfl rfl (oe_loadM (z' := t18.2.2) 0 rfl rfl (Sub.off (Sub.comp (Sub.snd eZ (eP eZ eZ) (t18)) (Sub.snd eZ eZ (t18.2))) rfl) ty25) fun u25 _ => ?_
   obtain ⟨t22, he13, H⟩ := bd_s H
   refine TL_step rfl rfl (oe_call (by kernel_rfl) (c_zint_Neg fu t18.2.2 u25 t22 he13) rfl (fun S w h => ⟨h.1, trivial⟩)) fun u26 _ => TL_val rfl rfl (r_field fl190_2 rfl) ?_
   obtain ⟨t23, ht23, H⟩ := nm_s H
   refine TL_og rfl rfl (og_store' (f := eZ) (y' := t22) (z2 := t23) 0 rfl rfl rfl (Sub.off (Sub.comp (Sub.snd eZ (eP eZ eZ) (t18)) (Sub.snd eZ eZ (t18.2))) rfl) ty25 (fun S w h => h.1) ht23) fun _ _ => ?_
   show TL _ _ _ _ [mB (ERep.c (eP eZ (eP eZ eZ))) 190 b6 (t23), mB (ERep.c eZ) 25 b3 ((false, [])), mB (ERep.c eZ) 25 b2 ((false, [])), mB (ERep.c eZ) 25 b1 ((false, []))] [fV eZ (t22) u26, fV eZ (t18.2.2) u25, fV eZ (a1) u24, fP eZ (a1) p2] _ _ _ _
   refine TL_mv 0 [(4, .pointer (some ⟨b1, 0, none⟩)), (5, .pointer (some ⟨b2, 0, none⟩)), (6, .pointer (some ⟨b3, 0, none⟩)), (7, .pointer (some ⟨b6, 0, none⟩))] rfl fun rest => TL_nil ?_
   exact JQ_mk t23 (Option.some.inj H) rfl (fun w h => St.weak h (fun S w h => trivial))
  replace H := if_f h3 H
  refine TL_mv 0 [(4, .pointer (some ⟨b1, 0, none⟩)), (5, .pointer (some ⟨b2, 0, none⟩)), (6, .pointer (some ⟨b3, 0, none⟩)), (7, .pointer (some ⟨b6, 0, none⟩)), (51, .bool false)] rfl fun rest => TL_nil <| T_cond_false rfl <| T_skip ?_
  exact JQ_mk t18 (Option.some.inj H) rfl (fun w h => St.weak h (fun S w h => trivial))
 refine JQ_el' ?_
 rintro t21 hs rest
 subst hs
 replace H := Hc
 clear hL
 refine JG_to (ms' := [mB (ERep.c (eP eZ (eP eZ eZ))) 190 b6 (t21), mB (ERep.c eZ) 25 b3 ((false, [])), mB (ERep.c eZ) 25 b2 ((false, [])), mB (ERep.c eZ) 25 b1 ((false, []))]) (Γ' := []) (live' := [(4, .pointer (some ⟨b1, 0, none⟩)), (5, .pointer (some ⟨b2, 0, none⟩)), (6, .pointer (some ⟨b3, 0, none⟩)), (7, .pointer (some ⟨b6, 0, none⟩))]) rfl <| T_seq <| T_weak_st (fun w h => St.front 2 h rfl) <| T_weak_st (fun w h => St.front 3 h rfl) <| T_weak [mB (ERep.c eZ) 25 b1 ((false, [])), mB (ERep.c eZ) 25 b2 ((false, [])), mB (ERep.c (eP eZ (eP eZ eZ))) 190 b6 (t21), mB (ERep.c eZ) 25 b3 ((false, []))] [] (fun w h => h) <| T_any (mE := [mB (ERep.c (eP eZ (eP eZ eZ))) 190 b6 (t21), mB (ERep.c eZ) 25 b3 ((false, []))]) 8 [prV (.pointer (some ⟨b6, 0, none⟩)), prE (fun u : Value => u) (fun u => [fV eZ (t21.1) u]) (fun _ => True), prV (.pointer (some ⟨b6, 2, none⟩)), prE (fun u : Value => u) (fun u => [fV eZ (t21.2.1) u]) (fun _ => True), prV (.pointer (some ⟨b6, 4, none⟩)), prE (fun u : Value => u) (fun u => [fV eZ (t21.2.2) u]) (fun _ => True), prT, prT] [none, none, none, none, none, none, some (0, true), some (1, true)] [⟨none, 1000000, some 6, fun b v => bif b then mB (ERep.c eZ) 25 b1 (t21.1) else mB (ERep.c eZ) 25 b1 ((false, []))⟩, ⟨none, 1000000, some 7, fun b v => bif b then mB (ERep.c eZ) 25 b2 (t21.2.1) else mB (ERep.c eZ) 25 b2 ((false, []))⟩] [4, 5, 6, 61] rfl (by kernel_rfl) rfl rfl (by kernel_rfl) rfl (by kernel_rfl) ⟨?_, ?_, ?_, ?_, ?_, ?_, ?_, ?_, trivial⟩ ?_
 ·intro S w env hS hM hΓ hl
  obtain ⟨e7, _⟩ := hl
  exact ⟨fun _ => ob_V (r_field fl190_0 (e7.trans rfl)), fun hc => (by cases hc)⟩
 ·intro S w env hS hM hΓ hl
  obtain ⟨e56, _⟩ := hl
  exact ⟨fun _ => ob_E (Γ := []) (oe_loadM (z' := t21.1) 0 rfl e56 (Sub.fst eZ (eP eZ eZ) (t21)) ty25) hS hM hΓ, fun hc => (by cases hc)⟩
 ·intro S w env hS hM hΓ hl
  obtain ⟨e7, _⟩ := hl
  exact ⟨fun _ => ob_V (r_field fl190_1 (e7.trans rfl)), fun hc => (by cases hc)⟩
 ·intro S w env hS hM hΓ hl
  obtain ⟨e58, _⟩ := hl
  exact ⟨fun _ => ob_E (Γ := []) (oe_loadM (z' := t21.2.1) 0 rfl e58 (Sub.off (Sub.comp (Sub.snd eZ (eP eZ eZ) (t21)) (Sub.fst eZ eZ (t21.2))) rfl) ty25) hS hM hΓ, fun hc => (by cases hc)⟩
 ·intro S w env hS hM hΓ hl
  obtain ⟨e7, _⟩ := hl
  exact ⟨fun _ => ob_V (r_field fl190_2 (e7.trans rfl)), fun hc => (by cases hc)⟩
 ·intro S w env hS hM hΓ hl
  obtain ⟨e60, _⟩ := hl
  exact ⟨fun _ => ob_E (Γ := []) (oe_loadM (z' := t21.2.2) 0 rfl e60 (Sub.off (Sub.comp (Sub.snd eZ (eP eZ eZ) (t21)) (Sub.snd eZ eZ (t21.2))) rfl) ty25) hS hM hΓ, fun hc => (by cases hc)⟩
 ·refine ⟨rfl, rfl, fun r hr => ?_⟩
  cases hr
  intro env F G w hst
  have hst : St we Se (mB (ERep.c eZ) 25 b1 ((false, [])) :: F) (fHold _ _ env [4, 57] :: _) w := hst
  obtain ⟨e4, hst⟩ := St.open0 hst rfl rfl
  obtain ⟨u27, e57, _, hst⟩ := St.openE hst rfl
  refine ((og_store' (f := eZ) (y' := t21.1) (z2 := t21.1) 0 (by exact rfl) (by exact (e4.trans rfl)) (by exact e57) (Sub.self eZ ((false, []))) ty25 (by exact fun S w h => h.2.1) rfl) w hst).mono ?_
  rintro v w' ⟨_, _, _, h3⟩
  exact St.weak h3 fun S w h => h.2.2
 ·refine ⟨rfl, rfl, fun r hr => ?_⟩
  cases hr
  intro env F G w hst
  have hst : St we Se (mB (ERep.c eZ) 25 b2 ((false, [])) :: F) (fHold _ _ env [5, 59] :: _) w := hst
  obtain ⟨e5, hst⟩ := St.open0 hst rfl rfl
  obtain ⟨u28, e59, _, hst⟩ := St.openE hst rfl
  refine ((og_store' (f := eZ) (y' := t21.2.1) (z2 := t21.2.1) 0 (by exact rfl) (by exact (e5.trans rfl)) (by exact e59) (Sub.self eZ ((false, []))) ty25 (by exact fun S w h => h.2.1) rfl) w hst).mono ?_
  rintro v w' ⟨_, _, _, h3⟩
  exact St.weak h3 fun S w h => h.2.2
 intro env w hst
 have hst : St we Se _ (fHold _ _ env [4, 5, 6, 61] :: _) w := hst
 obtain ⟨e4, hst⟩ := St.open0 hst rfl rfl
 obtain ⟨e5, hst⟩ := St.open0 hst rfl rfl
 obtain ⟨e6, hst⟩ := St.open0 hst rfl rfl
 obtain ⟨u29, e61, _, hst⟩ := St.openE hst rfl
 refine fin_TL (ms' := [mB (ERep.c eZ) 25 b1 (t21.1), mB (ERep.c eZ) 25 b2 (t21.2.1), mB (ERep.c (eP eZ (eP eZ eZ))) 190 b6 (t21), mB (ERep.c eZ) 25 b3 ((false, []))]) (Γ' := [fV eZ (t21.2.2) u29]) [(4, .pointer (some ⟨b1, 0, none⟩)), (5, .pointer (some ⟨b2, 0, none⟩)), (6, .pointer (some ⟨b3, 0, none⟩)), (61, u29)] (agr ⟨(e4.trans rfl), (e5.trans rfl), (e6.trans rfl), e61, trivial⟩) (St.weak hst fun S w h => h.2) fun rest => TL_og rfl rfl (og_store' (f := eZ) (y' := t21.2.2) (z2 := t21.2.2) 3 rfl rfl rfl (Sub.self eZ ((false, []))) ty25 (fun S w h => h.1) rfl) fun _ _ => ?_
 show TL _ _ _ _ [mB (ERep.c eZ) 25 b1 (t21.1), mB (ERep.c eZ) 25 b2 (t21.2.1), mB (ERep.c (eP eZ (eP eZ eZ))) 190 b6 (t21), mB (ERep.c eZ) 25 b3 (t21.2.2)] [fV eZ (t21.2.2) u29] _ _ _ _
 refine TL_mv 0 [(4, .pointer (some ⟨b1, 0, none⟩)), (5, .pointer (some ⟨b2, 0, none⟩)), (6, .pointer (some ⟨b3, 0, none⟩))] rfl fun rest => TL_nil <| T_ret ?_
 obtain ⟨rfl, rfl, rfl⟩ := inj3 H
 intro w hw
 change RetQ _ _ _ _ _ _ _ .ret _ w
 refine Ret_cN (e := eZ) (z := t21.1) 4 0 hw rfl (by exact rfl) ty25 fun r_1 hw hr_1 => Ret_cN (e := eZ) (z := t21.2.1) 5 1 hw rfl (by exact rfl) ty25 fun r_2 hw hr_2 => Ret_cN (e := eZ) (z := t21.2.2) 6 3 hw rfl (by exact rfl) ty25 fun r_3 hw hr_3 => ?_
 exact RetN (vs := [r_1, r_2, r_3]) (r_1, r_2, r_3) Tryz.results186 (by exact ⟨hr_1, hr_2, hr_3, trivial⟩) rfl trivial hw (fun S w h => ⟨h.2.2.1, h.2.1, h.1, trivial⟩)
set_option maxRecDepth 100000 in
set_option maxHeartbeats 1000000 in
theorem c_hensel_one (fu : Nat) (a0 : List Zr) (va0 : Value) (a1 : Zr) (va1 : Value) (r0 : List Zr) (H : M_hensel_one fu a0 a1 = some r0) : FnG Tryz.prog 131 [va0, va1].toArray [] [fV (eS eZ) (a0) va0, fV eZ (a1) va1] (fun u : Value => u) (fun u => [mO eZ 25 u (r0)]) (fun u => []) (fun _ => True) := by
 unfold M_hensel_one at H
 refine FnG_intro Tryz.func131 rfl rfl fun we Se F G rest => T_seq <| T_region <| TL_step rfl rfl (oe_box (e := eZ) (z := a1) rfl (fun S w h => h.2.1)) fun p1 _ => TL_mv 1 [(0, va0), (3, p1)] rfl fun rest => TL_nil ?_
 refine T_seq ?_
 obtain ⟨x1, hx1, hrx1, H⟩ := ck64_s H
 obtain ⟨j1, hj1, hlj1, H⟩ := ckI_s H
 obtain ⟨y1, hy1, H⟩ := nm_s H
 obtain ⟨⟨t1, t2, t3⟩, he1, H⟩ := bd_s H
 refine T_any (mE := (F)) 17 [prV (va0), prV (va0), prE (fun _ : Unit => iv ((a0.length : Nat) : Int)) (fun _ => []) (fun _ => a0.length ≤ 9223372036854775807), prE (fun _ : Unit => iv (x1)) (fun _ => []) (fun _ => InR x1), prE (fun u : Value => u) (fun u => [fP eZ (y1) u]) (fun _ => True), prE (fun u : Value => u) (fun u => [fV eZ (y1) u]) (fun _ => True), prE (fun u : Value => u) (fun u => [fV eZ (a1) u]) (fun _ => True), prE (fun u : Value × Value × Value => .tuple #[u.1, u.2.1, u.2.2]) (fun u => [fV eZ (t1) u.1, fV eZ (t2) u.2.1, fV eZ (t3) u.2.2]) (fun _ => True), prE (fun u : Value × Value × Value => .tuple #[u.1, u.2.1, u.2.2]) (fun u => [fV eZ (t1) u.1, fV eZ (t2) u.2.1, fV eZ (t3) u.2.2]) (fun _ => True), prE (fun u : Value => u) (fun u => [fV eZ (t1) u]) (fun _ => True), prE (fun u : Value => u) (fun u => [fV eZ (t2) u]) (fun _ => True), prE (fun u : Value => u) (fun u => [fV eZ (t3) u]) (fun _ => True), prT, prT, prT, prT, prT] [none, none, none, none, none, none, none, none, none, none, none, none, some (0, false), some (1, false), some (2, false), some (0, true), some (1, true)] [⟨some 12, 5, some 15, fun b v => mP (ERep.c eZ) 25 v (bif b then t1 else (false, []))⟩, ⟨some 13, 6, some 16, fun b v => mP (ERep.c eZ) 25 v (bif b then t2 else (false, []))⟩, ⟨some 14, 7, none, fun b v => mP (ERep.c eZ) 25 v ((false, []))⟩] [0, 3, 6, 7, 19] rfl (by kernel_rfl) rfl rfl (by kernel_rfl) rfl (by kernel_rfl) ⟨?_, ?_, ?_, ?_, ?_, ?_, ?_, ?_, ?_, ?_, ?_, ?_, ?_, ?_, ?_, ?_, ?_, trivial⟩ ?_
 ·intro S w env hS hM hΓ hl
  obtain ⟨e0, _⟩ := hl
  exact ⟨fun _ => ob_mv (e0.trans rfl), fun hc => (by cases hc)⟩
 ·intro S w env hS hM hΓ hl
  obtain ⟨e0, _⟩ := hl
  exact ⟨fun _ => ob_mv (e0.trans rfl), fun hc => (by cases hc)⟩
 ·intro S w env hS hM hΓ hl
  obtain ⟨e10, _⟩ := hl
  exact ⟨fun _ => ob_E (Γ := (fP eZ (a1) p1 :: fV (eS eZ) (a0) va0 :: fV eZ (a1) va1 :: G)) (oe_len (e := eZ) (xs := a0) Tryz.underlying31 e10 (fun S w h => h.2.1)) hS hM hΓ, fun hc => (by cases hc)⟩
 ·intro S w env hS hM hΓ hl
  obtain ⟨⟨_, e11, hl1, f11⟩, _⟩ := hl
  exact ⟨fun _ => ob_VE (p := InR x1) (r_sub (c := x1) e11 rfl (w_x hx1 hrx1)) hrx1, fun hc => (by cases hc)⟩
 ·intro S w env hS hM hΓ hl
  obtain ⟨e9, ⟨_, e12, ho1, f12⟩, _⟩ := hl
  exact ⟨fun _ => ob_E (Γ := (fP eZ (a1) p1 :: fV (eS eZ) (a0) va0 :: fV eZ (a1) va1 :: G)) (oe_index (e := eZ) (xs := a0) (k := j1) (y := y1) e9 (e12.trans (vi hj1)) Tryz.underlying31 ty25 (getE (z := (false, [])) hlj1 hy1) (fun S w h => h.2.1)) hS hM hΓ, fun hc => (by cases hc)⟩
 ·intro S w env hS hM hΓ hl
  obtain ⟨⟨p2, e13, _, f13⟩, _⟩ := hl
  exact ⟨fun _ => ob_E (Γ := (fP eZ (y1) p2 :: fP eZ (a1) p1 :: fV (eS eZ) (a0) va0 :: fV eZ (a1) va1 :: G)) (oe_load (e := eZ) (y := y1) e13 ty25 (fun S w h => h.1)) hS hM ⟨f13.1, hΓ⟩, fun hc => (by cases hc)⟩
 ·intro S w env hS hM hΓ hl
  obtain ⟨e3, _⟩ := hl
  exact ⟨fun _ => ob_E (Γ := (fP eZ (a1) p1 :: fV (eS eZ) (a0) va0 :: fV eZ (a1) va1 :: G)) (oe_load (e := eZ) (y := a1) (e3.trans rfl) ty25 (fun S w h => h.1)) hS hM hΓ, fun hc => (by cases hc)⟩
 ·intro S w env hS hM hΓ hl
  obtain ⟨⟨u1, e14, _, f14⟩, ⟨u2, e15, _, f15⟩, _⟩ := hl
  exact ⟨fun _ => ob_E (Γ := (fV eZ (y1) u1 :: fV eZ (a1) u2 :: fP eZ (a1) p1 :: fV (eS eZ) (a0) va0 :: fV eZ (a1) va1 :: G)) (oe_call (by kernel_rfl) (c_zint_Bezout fu y1 u1 a1 u2 t1 t2 t3 he1) (la_cons e14 (la_cons e15 la_nil)) (fun S w h => ⟨h.1, h.2.1, trivial⟩)) hS hM ⟨f14.1, f15.1, hΓ⟩, fun hc => (by cases hc)⟩
 ·intro S w env hS hM hΓ hl
  obtain ⟨⟨⟨u3, u4, u5⟩, e16, _, f16⟩, _⟩ := hl
  exact ⟨fun _ => ob_any (u3, u4, u5) (r_mv e16) trivial ⟨f16.1, f16.2.1, f16.2.2.1, trivial⟩, fun hc => (by cases hc)⟩
 ·intro S w env hS hM hΓ hl
  obtain ⟨⟨⟨u6, u7, u8⟩, e8, _, f8⟩, _⟩ := hl
  exact ⟨fun _ => ob_opq (r_ex e8 rfl) ⟨f8.1, trivial⟩, fun hc => (by cases hc)⟩
 ·intro S w env hS hM hΓ hl
  obtain ⟨⟨⟨u6, u7, u8⟩, e8, _, f8⟩, _⟩ := hl
  exact ⟨fun _ => ob_opq (r_ex e8 rfl) ⟨f8.2.1, trivial⟩, fun hc => (by cases hc)⟩
 ·intro S w env hS hM hΓ hl
  obtain ⟨⟨⟨u6, u7, u8⟩, e8, _, f8⟩, _⟩ := hl
  exact ⟨fun _ => ob_opq (r_ex e8 rfl) ⟨f8.2.2.1, trivial⟩, fun hc => (by cases hc)⟩
 ·refine ⟨rfl, rfl, fun r hr => ?_⟩
  cases hr
  intro env F G w hst
  refine (og_allocM (e := ERep.c eZ) (z := (false, [])) ty25 (fun S w => z25 S w) w hst).mono ?_
  rintro v w' ⟨b, rfl, _, h3⟩
  exact St.weak (h3.toP 0 rfl) fun S w h => h.2
 ·refine ⟨rfl, rfl, fun r hr => ?_⟩
  cases hr
  intro env F G w hst
  refine (og_allocM (e := ERep.c eZ) (z := (false, [])) ty25 (fun S w => z25 S w) w hst).mono ?_
  rintro v w' ⟨b, rfl, _, h3⟩
  exact St.weak (h3.toP 0 rfl) fun S w h => h.2
 ·refine ⟨rfl, rfl, fun r hr => ?_⟩
  cases hr
  intro env F G w hst
  refine (og_allocM (e := ERep.c eZ) (z := (false, [])) ty25 (fun S w => z25 S w) w hst).mono ?_
  rintro v w' ⟨b, rfl, _, h3⟩
  exact St.weak (h3.toP 0 rfl) fun S w h => h.2
 ·refine ⟨rfl, rfl, fun r hr => ?_⟩
  cases hr
  intro env F G w hst
  have hst : St we Se _ (fHold _ _ env [5, 17] :: _) w := hst
  have hst := St.openT hst
  obtain ⟨u9, e17, _, hst⟩ := St.openE hst rfl
  obtain ⟨bq, hPq, hst⟩ := St.openP 0 hst rfl
  refine (og_store' (f := eZ) (y' := t1) (z2 := t1) 0 (by exact rfl) (by exact hPq) (by exact e17) (Sub.self eZ ((false, []))) ty25 (by exact fun S w h => h.2.1) rfl w hst).mono ?_
  rintro v w' ⟨_, _, _, h3⟩
  show St _ _ (mP (ERep.c eZ) 25 (env 5) (t1) :: F) _ _
  rw [show env 5 = _ from hPq]
  exact St.weak (h3.toP 0 rfl) fun S w h => h.2.2
 ·refine ⟨rfl, rfl, fun r hr => ?_⟩
  cases hr
  intro env F G w hst
  have hst : St we Se _ (fHold _ _ env [6, 18] :: _) w := hst
  have hst := St.openT hst
  obtain ⟨u10, e18, _, hst⟩ := St.openE hst rfl
  obtain ⟨bq, hPq, hst⟩ := St.openP 0 hst rfl
  refine (og_store' (f := eZ) (y' := t2) (z2 := t2) 0 (by exact rfl) (by exact hPq) (by exact e18) (Sub.self eZ ((false, []))) ty25 (by exact fun S w h => h.2.1) rfl w hst).mono ?_
  rintro v w' ⟨_, _, _, h3⟩
  show St _ _ (mP (ERep.c eZ) 25 (env 6) (t2) :: F) _ _
  rw [show env 6 = _ from hPq]
  exact St.weak (h3.toP 0 rfl) fun S w h => h.2.2
 intro env w hst
 have hst : St we Se _ (fHold _ _ env [0, 3, 6, 7, 19] :: _) w := hst
 obtain ⟨e0, hst⟩ := St.open0 hst rfl rfl
 obtain ⟨e3, hst⟩ := St.open0 hst rfl rfl
 have hst := St.openT hst
 have hst := St.openT hst
 obtain ⟨u11, e19, _, hst⟩ := St.openE hst rfl
 obtain ⟨b4, hPq0, hst⟩ := St.openP 0 hst rfl
 obtain ⟨b5, hPq1, hst⟩ := St.openP 1 hst rfl
 obtain ⟨b6, hPq2, hst⟩ := St.openP 2 hst rfl
 refine fin_TL (ms' := (mB (ERep.c eZ) 25 b4 (t1) :: mB (ERep.c eZ) 25 b5 (t2) :: mB (ERep.c eZ) 25 b6 ((false, [])) :: F)) (Γ' := (fV eZ (t3) u11 :: fP eZ (a1) p1 :: fV (eS eZ) (a0) va0 :: fV eZ (a1) va1 :: G)) [(0, va0), (3, p1), (6, .pointer (some ⟨b5, 0, none⟩)), (7, .pointer (some ⟨b6, 0, none⟩)), (19, u11)] (agr ⟨(e0.trans rfl), (e3.trans rfl), hPq1, hPq2, e19, trivial⟩) (St.weak hst fun S w h => h.2) fun rest => TL_og rfl rfl (og_store' (f := eZ) (y' := t3) (z2 := t3) 2 rfl rfl rfl (Sub.self eZ ((false, []))) ty25 (fun S w h => h.1) rfl) fun _ _ => ?_
 show TL _ _ _ _ (mB (ERep.c eZ) 25 b4 (t1) :: mB (ERep.c eZ) 25 b5 (t2) :: mB (ERep.c eZ) 25 b6 (t3) :: F) (fV eZ (t3) u11 :: fP eZ (a1) p1 :: fV (eS eZ) (a0) va0 :: fV eZ (a1) va1 :: G) _ _ _ _
 refine TL_mv 0 [(0, va0), (3, p1), (6, .pointer (some ⟨b5, 0, none⟩))] rfl fun rest => TL_nil <| T_seq ?_
 obtain ⟨t4, he2, H⟩ := bd_s H
 refine T_draw 4 [prV (va0), prE (fun u : Value => u) (fun u => [fV eZ (t2) u]) (fun _ => True), prE (fun u : Value => u) (fun u => [fV (eS eZ) (t4) u]) (fun _ => True), prE (fun u : Value => u) (fun u => [fV eZ (a1) u]) (fun _ => True)] [22, 23] rfl (by kernel_rfl) rfl (by kernel_rfl) ⟨?_, ?_, ?_, ?_, trivial⟩ ?_
 ·intro S w env hS hM hΓ hl
  obtain ⟨e0, _⟩ := hl
  exact ⟨fun _ => ob_mv (e0.trans rfl), fun hc => (by cases hc)⟩
 ·intro S w env hS hM hΓ hl
  obtain ⟨e6, _⟩ := hl
  exact ⟨fun _ => ob_E (Γ := (fV eZ (t3) u11 :: fP eZ (a1) p1 :: fV (eS eZ) (a0) va0 :: fV eZ (a1) va1 :: G)) (oe_loadM (z' := t2) 1 rfl (e6.trans rfl) (Sub.self eZ (t2)) ty25) hS hM hΓ, fun hc => (by cases hc)⟩
 ·intro S w env hS hM hΓ hl
  obtain ⟨e20, ⟨u12, e21, _, f21⟩, _⟩ := hl
  exact ⟨fun _ => ob_E (Γ := (fV eZ (t2) u12 :: fV eZ (t3) u11 :: fP eZ (a1) p1 :: fV (eS eZ) (a0) va0 :: fV eZ (a1) va1 :: G)) (oe_call (by kernel_rfl) (z_zpoly_Scale fu a0 va0 t2 u12 t4 he2) (la_cons e20 (la_cons e21 la_nil)) (fun S w h => ⟨h.2.2.2.1, h.1, trivial⟩)) hS hM ⟨f21.1, hΓ⟩, fun hc => (by cases hc)⟩
 ·intro S w env hS hM hΓ hl
  obtain ⟨e3, _⟩ := hl
  exact ⟨fun _ => ob_E (Γ := (fV eZ (t3) u11 :: fP eZ (a1) p1 :: fV (eS eZ) (a0) va0 :: fV eZ (a1) va1 :: G)) (oe_load (e := eZ) (y := a1) (e3.trans rfl) ty25 (fun S w h => h.2.1)) hS hM hΓ, fun hc => (by cases hc)⟩
 intro S w env hS hΓ hl
 obtain ⟨⟨u13, e22, _, f22⟩, ⟨u14, e23, _, f23⟩, _⟩ := hl
 refine ⟨(fV (eS eZ) (t4) u13 :: fV eZ (a1) u14 :: fV eZ (t3) u11 :: fP eZ (a1) p1 :: fV (eS eZ) (a0) va0 :: fV eZ (a1) va1 :: G), [(22, u13), (23, u14)], ⟨f22.1, f23.1, hΓ⟩, (agr ⟨e22, e23, trivial⟩), fun rest => ?_⟩
 obtain ⟨t5, he3, H⟩ := bd_s H
 refine TL_og rfl rfl (og_callG (F := (mB (ERep.c eZ) 25 b4 (t1) :: mB (ERep.c eZ) 25 b5 (t2) :: mB (ERep.c eZ) 25 b6 (t3) :: F)) (by kernel_rfl) (c_hensel_red fu t4 u13 a1 u14 t5 he3) rfl (fun S w h => ⟨h.1, h.2.1, trivial⟩)) fun u15 _ => ?_
 show TL _ _ _ _ (mO eZ 25 u15 (t5) :: mB (ERep.c eZ) 25 b4 (t1) :: mB (ERep.c eZ) 25 b5 (t2) :: mB (ERep.c eZ) 25 b6 (t3) :: F) (fV (eS eZ) (t4) u13 :: fV eZ (a1) u14 :: fV eZ (t3) u11 :: fP eZ (a1) p1 :: fV (eS eZ) (a0) va0 :: fV eZ (a1) va1 :: G) _ _ _ _
 refine TL_mv 1 [(4, u15)] rfl fun rest => TL_nil <| T_ret ?_
 obtain rfl := inj1 H
 intro w hw
 exact RetG (vs := [u15]) u15 Tryz.results131 (by exact ⟨rfl, trivial⟩) rfl trivial (St.weak (St.drop (i := 1) (St.drop (i := 2) (St.drop (i := 3) hw))) (fun S w h => h.2.2.2.2.2.2))
end Go.Proofs.YtjnjfinbdfolkaaGreat
end

