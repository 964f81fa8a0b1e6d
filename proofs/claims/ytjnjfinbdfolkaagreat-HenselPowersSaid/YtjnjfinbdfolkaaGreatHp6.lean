/- What a proof needs: rules of walking, mirrors of functions and their plain laws. No condition. -/
import Derived.Test.YtjnjfinbdfolkaaGreatHp5
section
set_option linter.unusedVariables false
set_option linter.unusedSimpArgs false
namespace Go.Proofs.YtjnjfinbdfolkaaGreat
set_option maxRecDepth 100000 in
set_option maxHeartbeats 1000000 in
theorem c_fpoly_divided (fu : Nat) (a0 : List Int) (va0 : Value) (a1 : List Int) (va1 : Value) (a2 : Int) (qa2 : InR a2) (r0 : List Int) (r1 : List Int) (H : M_fpoly_divided fu a0 a1 a2 = some (r0, r1)) : FnG Tryz.prog 239 [va0, va1, iv a2].toArray [] [fV (eS eI) (a0) va0, fV (eS eI) (a1) va1] (fun u : Value × Value => .tuple #[u.1, u.2]) (fun u => [mO eI 3 u.1 (r0), mO eI 3 u.2 (r1)]) (fun u => []) (fun _ => True) := by
 unfold M_fpoly_divided at H
 refine FnG_intro Tryz.func239 rfl rfl fun we Se F G rest => T_seq <| T_region <| TL_mv 2 [(0, va0), (1, va1), (2, iv (a2))] rfl fun rest => TL_nil <| T_seq ?_
 refine T_region <| TL_og rfl rfl (og_empty (e := eI) Tryz.underlying51 ty3) fun w1 _ => ?_
 show TL _ _ _ _ (mO eI 3 w1 (([] : List Int)) :: F) (fV (eS eI) (a0) va0 :: fV (eS eI) (a1) va1 :: G) _ _ _ _
 refine TL_mv 1 [(1, va1), (2, iv (a2)), (16, w1), (17, va0)] rfl fun rest => ?_
 obtain ⟨hk1, H⟩ := ck_s H
 obtain ⟨t1, ht1, H⟩ := nm_s H
 refine TL_og rfl rfl (og_append' (e := eI) (xs := ([] : List Int)) (ys := a0) 0 Tryz.underlying51 ty3 rfl (by decide) (by decide) rfl rfl rfl (fun S w h => h.1) hk1 ht1) fun w2 _ => ?_
 show TL _ _ _ _ (mO eI 3 w2 (t1) :: F) (fV (eS eI) (a0) va0 :: fV (eS eI) (a1) va1 :: G) _ _ _ _
 refine TL_mv 1 [(1, va1), (2, iv (a2)), (8, w2)] rfl fun rest => TL_nil <| T_seq <| T_region <| TL_mv 1 [(1, va1), (2, iv (a2)), (8, w2), (19, w2)] rfl fun rest => TL_step rfl rfl (oe_lenM 0 rfl Tryz.underlying51 rfl) fun _ hl1 => ?_
 refine TL_mv 1 [(1, va1), (2, iv (a2)), (8, w2), (20, iv ((t1.length : Nat) : Int)), (21, va1)] rfl fun rest => TL_step rfl rfl (oe_len (e := eI) (xs := a1) Tryz.underlying51 rfl (fun S w h => h.2.1)) fun _ hl2 => ?_
 obtain ⟨x1, hx1, hrx1, H⟩ := ck64_s H
 refine TL_val rfl rfl (r_sub (c := x1) rfl rfl (w_x hx1 hrx1)) <| TL_mv 1 [(1, va1), (2, iv (a2)), (8, w2), (9, iv (x1))] rfl fun rest => TL_nil <| T_seq <| T_seq <| T_region ?_
 refine TL_mv 1 [(1, va1), (2, iv (a2)), (8, w2), (9, iv (x1)), (24, iv (x1))] rfl fun rest => TL_lss rfl rfl rfl rfl (fun h1 => ?_) (fun h1 => ?_)
 ·replace H := if_t h1 H
  refine TL_mv 0 [(1, va1), (2, iv (a2)), (8, w2), (9, iv (x1)), (25, .bool true)] rfl fun rest => TL_nil <| T_cond_true rfl <| T_seq <| T_region <| TL_mv 3 [(6, .slice none 0 0), (7, w2)] rfl fun rest => ?_
  refine TL_nil <| T_ret <| T_weak_st (fun w h => St.nilO (e := eI) (E := 3) h) ?_
  obtain ⟨rfl, rfl⟩ := inj2 H
  intro w hw
  exact RetG (vs := [(.slice none 0 0), w2]) ((.slice none 0 0), w2) Tryz.results239 (by exact ⟨rfl, rfl, trivial⟩) rfl trivial (St.weak hw (fun S w h => h.2.2))
 replace H := if_f h1 H
 refine TL_mv 0 [(1, va1), (2, iv (a2)), (8, w2), (9, iv (x1)), (25, .bool false)] rfl fun rest => TL_nil <| T_cond_false rfl <| T_skip <| T_seq <| T_region ?_
 refine TL_mv 2 [(1, va1), (2, iv (a2)), (8, w2), (9, iv (x1)), (28, va1), (29, va1)] rfl fun rest => TL_step rfl rfl (oe_len (e := eI) (xs := a1) Tryz.underlying51 rfl (fun S w h => h.2.1)) fun _ hl3 => ?_
 obtain ⟨x2, hx2, hrx2, H⟩ := ck64_s H
 refine TL_val rfl rfl (r_sub (c := x2) rfl rfl (w_x hx2 hrx2)) ?_
 obtain ⟨j1, hj1, hlj1, H⟩ := ckI_s H
 obtain ⟨y1, hy1, H⟩ := nm_s H
 refine TL_step rfl rfl (oe_index (e := eI) (xs := a1) (k := j1) (y := y1) rfl (vi hj1) Tryz.underlying51 ty3 (getE (z := 0) hlj1 hy1) (fun S w h => h.2.1)) fun p1 _ => TL_step rfl rfl (oe_load_i64 (y := y1) rfl ty3 (fun S w h => h.1)) fun _ hv1 => TL_mv 1 [(1, va1), (2, iv (a2)), (8, w2), (9, iv (x1)), (33, iv (y1)), (34, iv (a2))] rfl fun rest => ?_
 obtain ⟨⟨x3, x4⟩, he1, H⟩ := bd_s H
 refine TL_step rfl rfl (oe_call (by kernel_rfl) (c_fp_Inv fu y1 hv1 a2 qa2 x3 x4 he1) rfl (fun S w h => trivial)) fun _ hk2 => TL_mv 5 [(1, va1), (2, iv (a2)), (8, w2), (9, iv (x1)), (10, iv (x3))] rfl fun rest => TL_nil <| T_seq <| T_region <| TL_mv 1 [(1, va1), (2, iv (a2)), (8, w2), (9, iv (x1)), (10, iv (x3)), (38, iv (x1))] rfl fun rest => ?_
 obtain ⟨x5, hx5, hrx5, H⟩ := ck64_s H
 refine TL_val rfl rfl (r_add (c := x5) rfl rfl (w_x hx5 hrx5)) ?_
 obtain ⟨j2, hj2, H⟩ := ckN_s H
 obtain ⟨hk3, H⟩ := ck_s H
 obtain ⟨t2, ht2, H⟩ := nm_s H
 refine TL_og rfl rfl (og_make' (e := eI) (z := 0) (xs := t2) (n := j2) Tryz.underlying51 ty3 (vi hj2) (vi hj2) (by decide) hk3 (fun S w => z3 S w) ht2) fun b1 _ => ?_
 show TL _ _ _ _ (mB (rowT eI j2) 3 b1 (t2) :: mO eI 3 w2 (t1) :: F) (fP eI (y1) p1 :: fV (eS eI) (a0) va0 :: fV (eS eI) (a1) va1 :: G) _ _ _ _
 refine TL_mv 1 [(1, va1), (2, iv (a2)), (8, w2), (9, iv (x1)), (10, iv (x3)), (12, .slice (some ⟨b1, 0, none⟩) j2 j2)] rfl fun rest => TL_nil <| T_seq <| T_block ?_
 obtain ⟨s1, hL, Hc⟩ := bd_s H
 refine T_X [(.x 0, JQ we Se (G := (List Int) × (List Int) × Value) (fun (t10, t9, w6) => (⟨(mO eI 3 w6 (t10) :: mB (rowT eI j2) 3 b1 (t9) :: F), (G), [(2, iv (a2)), (8, w6), (12, .slice (some ⟨b1, 0, none⟩) j2 j2)]⟩ : Inv)) (fun (t10, t9, w6) => (t10, t9) = s1 ∧ t9.length = j2))] ?_ ⟨?_, trivial⟩
 ·refine T_loop_s (G := Nat × (List Int) × Int × (List Int) × Value) (s1 := _) (f := _) (k := fun (n1, t8, i3, t7, w5) => n1) (σ := fun (n1, t8, i3, t7, w5) => (t8, i3, t7)) (fun (n1, t8, i3, t7, w5) => (⟨(mO eI 3 w5 (t8) :: mB (rowT eI j2) 3 b1 (t7) :: F), (fV (eS eI) (a1) va1 :: G), [(1, va1), (2, iv (a2)), (8, w5), (9, iv (i3)), (10, iv (x3)), (12, .slice (some ⟨b1, 0, none⟩) j2 j2)]⟩ : Inv)) (fun (n1, t8, i3, t7, w5) => InR i3 ∧ t7.length = j2) (fu, t1, x1, t2, w2) hL (And.intro hrx1 (rep_len ht2)) rfl (fun w h => St.weak (St.front 1 (St.front 0 h rfl) rfl) (fun S w h => ⟨h.2.2.1, h.2.2.2⟩)) ?_
  rintro ⟨n1, t8, i3, t7, w5⟩ ⟨H, hr3, hz3⟩ rest
  rcases n1 with _ | n1
  ·exact (loopN_z H).elim
  replace H := loopN_s H
  unfold B_fpoly_divided_0 at H
  refine T_prune [(1, va1), (2, iv (a2)), (8, w5), (9, iv (i3)), (10, iv (x3)), (12, .slice (some ⟨b1, 0, none⟩) j2 j2)] rfl fun rest => T_weak (mO eI 3 w5 (t8) :: mB (rowT eI j2) 3 b1 (t7) :: F) (fV (eS eI) (a1) va1 :: G) (fun w h => h) <| T_seq <| T_seq <| T_region <| TL_mv 1 [(1, va1), (2, iv (a2)), (8, w5), (9, iv (i3)), (10, iv (x3)), (12, .slice (some ⟨b1, 0, none⟩) j2 j2), (41, iv (i3))] rfl fun rest => ?_
  refine TL_geq rfl rfl rfl rfl (fun h2 => ?_) (fun h2 => ?_)
  ·replace H := if_t h2 H
   refine TL_mv 0 [(1, va1), (2, iv (a2)), (8, w5), (9, iv (i3)), (10, iv (x3)), (12, .slice (some ⟨b1, 0, none⟩) j2 j2), (42, .bool true)] rfl fun rest => TL_nil <| T_cond_true rfl <| T_skip <| T_seq <| T_block ?_
   refine T_seq <| T_region <| TL_mv 3 [(1, va1), (2, iv (a2)), (8, w5), (9, iv (i3)), (10, iv (x3)), (12, .slice (some ⟨b1, 0, none⟩) j2 j2), (45, w5), (46, iv (i3)), (47, va1)] rfl fun rest => TL_step rfl rfl (oe_len (e := eI) (xs := a1) Tryz.underlying51 rfl (fun S w h => h.1)) fun _ hl4 => ?_
   obtain ⟨x6, hx6, hrx6, H⟩ := ck64_s H
   refine TL_val rfl rfl (r_add (c := x6) rfl rfl (w_x hx6 hrx6)) ?_
   obtain ⟨x7, hx7, hrx7, H⟩ := ck64_s H
   refine TL_val rfl rfl (r_sub (c := x7) rfl rfl (w_x hx7 hrx7)) ?_
   obtain ⟨j3, hj3, hlj3, H⟩ := ckI_s H
   refine TL_openO 0 rfl (pos_of_lt hlj3) fun b2 cap1 hvb2 hcb2 hmb2 => ?_
   cases hvb2
   refine TL_val rfl rfl (r_index Tryz.underlying51 ty3 rfl (vi hj3) (k := j3) hlj3) ?_
   obtain ⟨y2, hy2, H⟩ := nm_s H
   refine TL_step rfl rfl (oe_loadM_i64 (z' := y2) 0 rfl rfl (Sub.rowT0 eI cap1 (t8) j3 _ (getE (z := 0) (lt_of_len' hlj3 rfl) hy2)) ty3) fun _ hv2 => TL_mv 1 [(1, va1), (2, iv (a2)), (8, .slice (some ⟨b2, 0, none⟩) t8.length cap1), (9, iv (i3)), (10, iv (x3)), (12, .slice (some ⟨b1, 0, none⟩) j2 j2), (52, iv (y2)), (53, iv (x3))] rfl fun rest => ?_
   obtain ⟨x8, hx8, hrx8, H⟩ := ck64_s H
   refine TL_val rfl rfl (r_mul (c := x8) rfl rfl (w_x hx8 hrx8)) <| TL_mv 1 [(1, va1), (2, iv (a2)), (8, .slice (some ⟨b2, 0, none⟩) t8.length cap1), (9, iv (i3)), (10, iv (x3)), (12, .slice (some ⟨b1, 0, none⟩) j2 j2), (54, iv (x8)), (55, iv (a2))] rfl fun rest => ?_
   obtain ⟨h01, H⟩ := ck_s H
   obtain ⟨x9, hx9, H⟩ := nm_s H
   refine TL_val rfl rfl (r_rem (c := x9) rfl rfl h01 hx9.symm) <| TL_mv 1 [(1, va1), (2, iv (a2)), (8, .slice (some ⟨b2, 0, none⟩) t8.length cap1), (9, iv (i3)), (10, iv (x3)), (12, .slice (some ⟨b1, 0, none⟩) j2 j2), (13, iv (x9))] rfl fun rest => TL_nil <| T_seq <| T_region <| TL_mv 3 [(1, va1), (2, iv (a2)), (8, .slice (some ⟨b2, 0, none⟩) t8.length cap1), (9, iv (i3)), (10, iv (x3)), (12, .slice (some ⟨b1, 0, none⟩) j2 j2), (13, iv (x9)), (57, .slice (some ⟨b1, 0, none⟩) j2 j2), (58, iv (i3)), (59, iv (x9))] rfl fun rest => ?_
   obtain ⟨j4, hj4, hlj4, H⟩ := ckI_s H
   refine TL_val rfl rfl (r_index Tryz.underlying51 ty3 rfl (vi hj4) (k := j4) (lt_of_len hlj4 hz3)) ?_
   obtain ⟨t11, ht11, H⟩ := nm_s H
   refine TL_og rfl rfl (og_store' (f := eI) (y' := x9) (z2 := t11) 1 rfl rfl rfl (Sub.rowT0 eI j2 (t7) j4 _ (getD_some 0 (lt_of_len' (lt_of_len hlj4 hz3) hz3))) ty3 (fun S w h => (i64_fV (tmod_r hrx8 hx9))) ht11) fun _ _ => ?_
   show TL _ _ _ _ (mB (rowT eI cap1) 3 b2 (t8) :: mB (rowT eI j2) 3 b1 (t11) :: F) (fV (eS eI) (a1) va1 :: G) _ _ _ _
   refine TL_mv 0 [(1, va1), (2, iv (a2)), (8, .slice (some ⟨b2, 0, none⟩) t8.length cap1), (9, iv (i3)), (10, iv (x3)), (12, .slice (some ⟨b1, 0, none⟩) j2 j2), (13, iv (x9))] rfl fun rest => TL_nil <| T_seq <| T_region <| TL_mv 1 [(1, va1), (2, iv (a2)), (8, .slice (some ⟨b2, 0, none⟩) t8.length cap1), (9, iv (i3)), (10, iv (x3)), (12, .slice (some ⟨b1, 0, none⟩) j2 j2), (13, iv (x9)), (61, va1)] rfl fun rest => TL_step rfl rfl (oe_len (e := eI) (xs := a1) Tryz.underlying51 rfl (fun S w h => h.1)) fun _ hl5 => ?_
   refine TL_mv 1 [(1, va1), (2, iv (a2)), (8, .slice (some ⟨b2, 0, none⟩) t8.length cap1), (9, iv (i3)), (10, iv (x3)), (12, .slice (some ⟨b1, 0, none⟩) j2 j2), (13, iv (x9)), (61, va1), (62, iv ((a1.length : Nat) : Int)), (63, iv 0)] rfl fun rest => TL_nil <| T_block ?_
   obtain ⟨s2, hL, Hc⟩ := bd_s H
   refine T_X [(.x 2, JQ we Se (G := List Int) (fun t15 => (⟨(mB (rowT eI cap1) 3 b2 (t15) :: mB (rowT eI j2) 3 b1 (t11) :: F), (fV (eS eI) (a1) va1 :: G), [(1, va1), (2, iv (a2)), (8, .slice (some ⟨b2, 0, none⟩) t8.length cap1), (9, iv (i3)), (10, iv (x3)), (12, .slice (some ⟨b1, 0, none⟩) j2 j2)]⟩ : Inv)) (fun t15 => t15 = s2 ∧ t15.length = t8.length))] ?_ ⟨?_, trivial⟩
   ·refine T_loop_s (G := Nat × Int × (List Int)) (s1 := _) (f := _) (k := fun (n2, i6, t14) => n2) (σ := fun (n2, i6, t14) => (i6, t14)) (fun (n2, i6, t14) => (⟨(mB (rowT eI cap1) 3 b2 (t14) :: mB (rowT eI j2) 3 b1 (t11) :: F), (fV (eS eI) (a1) va1 :: G), [(1, va1), (2, iv (a2)), (8, .slice (some ⟨b2, 0, none⟩) t8.length cap1), (9, iv (i3)), (10, iv (x3)), (12, .slice (some ⟨b1, 0, none⟩) j2 j2), (13, iv (x9)), (61, va1), (62, iv ((a1.length : Nat) : Int)), (63, iv (i6))]⟩ : Inv)) (fun (n2, i6, t14) => InR i6 ∧ t14.length = t8.length) (fu, 0, t8) hL (And.intro (show InR (0) by decide) rfl) rfl (fun w h => St.weak h (fun S w h => ⟨h.1, h.2⟩)) ?_
    rintro ⟨n2, i6, t14⟩ ⟨H, hr6, hz7⟩ rest
    rcases n2 with _ | n2
    ·exact (loopN_z H).elim
    replace H := loopN_s H
    unfold B_fpoly_divided_1 at H
    refine T_prune [(1, va1), (2, iv (a2)), (8, .slice (some ⟨b2, 0, none⟩) t8.length cap1), (9, iv (i3)), (10, iv (x3)), (12, .slice (some ⟨b1, 0, none⟩) j2 j2), (13, iv (x9)), (61, va1), (62, iv ((a1.length : Nat) : Int)), (63, iv (i6))] rfl fun rest => T_weak (mB (rowT eI cap1) 3 b2 (t14) :: mB (rowT eI j2) 3 b1 (t11) :: F) (fV (eS eI) (a1) va1 :: G) (fun w h => h) <| T_seq ?_
    obtain ⟨s3, hL, Hc⟩ := bd_s H
    refine T_X [(.n, JQ we Se (G := Bool) (fun b3 => (⟨(mB (rowT eI cap1) 3 b2 (t14) :: mB (rowT eI j2) 3 b1 (t11) :: F), (fV (eS eI) (a1) va1 :: G), [(1, va1), (2, iv (a2)), (8, .slice (some ⟨b2, 0, none⟩) t8.length cap1), (9, iv (i3)), (10, iv (x3)), (12, .slice (some ⟨b1, 0, none⟩) j2 j2), (13, iv (x9)), (61, va1), (62, iv ((a1.length : Nat) : Int)), (63, iv (i6)), (64, .bool (b3))]⟩ : Inv)) (fun b3 => b3 = s3))] ?_ ⟨?_, trivial⟩
    ·replace H := hL
     refine T_region <| TL_lss rfl rfl rfl rfl (fun h3 => ?_) (fun h3 => ?_)
     ·replace H := if_t h3 H
      refine TL_mv 0 [(1, va1), (2, iv (a2)), (8, .slice (some ⟨b2, 0, none⟩) t8.length cap1), (9, iv (i3)), (10, iv (x3)), (12, .slice (some ⟨b1, 0, none⟩) j2 j2), (13, iv (x9)), (61, va1), (62, iv ((a1.length : Nat) : Int)), (63, iv (i6)), (64, .bool true)] rfl fun rest => TL_nil ?_
      exact JQ_mk true (Option.some.inj H) rfl (fun w h => St.weak h (fun S w h => ⟨h.1, h.2⟩))
     replace H := if_f h3 H
     refine TL_mv 0 [(1, va1), (2, iv (a2)), (8, .slice (some ⟨b2, 0, none⟩) t8.length cap1), (9, iv (i3)), (10, iv (x3)), (12, .slice (some ⟨b1, 0, none⟩) j2 j2), (13, iv (x9)), (61, va1), (62, iv ((a1.length : Nat) : Int)), (63, iv (i6)), (64, .bool false)] rfl fun rest => TL_nil ?_
     exact JQ_mk false (Option.some.inj H) rfl (fun w h => St.weak h (fun S w h => ⟨h.1, h.2⟩))
    refine JQ_el' ?_
    rintro b3 hs rest
    subst hs
    replace H := Hc
    clear hL
    refine JG_to (ms' := (mB (rowT eI cap1) 3 b2 (t14) :: mB (rowT eI j2) 3 b1 (t11) :: F)) (Γ' := (fV (eS eI) (a1) va1 :: G)) (live' := [(1, va1), (2, iv (a2)), (8, .slice (some ⟨b2, 0, none⟩) t8.length cap1), (9, iv (i3)), (10, iv (x3)), (12, .slice (some ⟨b1, 0, none⟩) j2 j2), (13, iv (x9)), (61, va1), (62, iv ((a1.length : Nat) : Int)), (63, iv (i6)), (64, .bool (b3))]) rfl <| T_seq <| T_cond (b3) rfl (fun hb1 => ?_) (fun hb1 => ?_)
    ·replace H := if_t hb1 H
     refine T_skip <| T_seq <| T_block <| T_seq <| T_region <| TL_mv 1 [(1, va1), (2, iv (a2)), (8, .slice (some ⟨b2, 0, none⟩) t8.length cap1), (9, iv (i3)), (10, iv (x3)), (12, .slice (some ⟨b1, 0, none⟩) j2 j2), (13, iv (x9)), (61, va1), (62, iv ((a1.length : Nat) : Int)), (63, iv (i6)), (65, iv (i6))] rfl fun rest => ?_
     obtain ⟨j5, hj5, hlj5, H⟩ := ckI_s H
     obtain ⟨y3, hy3, H⟩ := nm_s H
     refine TL_step rfl rfl (oe_index (e := eI) (xs := a1) (k := j5) (y := y3) rfl (vi hj5) Tryz.underlying51 ty3 (getE (z := 0) hlj5 hy3) (fun S w h => h.1)) fun p2 _ => TL_step rfl rfl (oe_load_i64 (y := y3) rfl ty3 (fun S w h => h.1)) fun _ hv3 => TL_mv 2 [(1, va1), (2, iv (a2)), (8, .slice (some ⟨b2, 0, none⟩) t8.length cap1), (9, iv (i3)), (10, iv (x3)), (12, .slice (some ⟨b1, 0, none⟩) j2 j2), (13, iv (x9)), (14, iv (i6)), (15, iv (y3)), (61, va1), (62, iv ((a1.length : Nat) : Int)), (63, iv (i6))] rfl fun rest => TL_nil <| T_region <| TL_mv 3 [(1, va1), (2, iv (a2)), (8, .slice (some ⟨b2, 0, none⟩) t8.length cap1), (9, iv (i3)), (10, iv (x3)), (12, .slice (some ⟨b1, 0, none⟩) j2 j2), (13, iv (x9)), (14, iv (i6)), (15, iv (y3)), (61, va1), (62, iv ((a1.length : Nat) : Int)), (63, iv (i6)), (68, .slice (some ⟨b2, 0, none⟩) t8.length cap1), (69, iv (i3)), (70, iv (i6))] rfl fun rest => ?_
     obtain ⟨x10, hx10, hrx10, H⟩ := ck64_s H
     refine TL_val rfl rfl (r_add (c := x10) rfl rfl (w_x hx10 hrx10)) <| TL_mv 3 [(1, va1), (2, iv (a2)), (8, .slice (some ⟨b2, 0, none⟩) t8.length cap1), (9, iv (i3)), (10, iv (x3)), (12, .slice (some ⟨b1, 0, none⟩) j2 j2), (13, iv (x9)), (15, iv (y3)), (61, va1), (62, iv ((a1.length : Nat) : Int)), (63, iv (i6)), (68, .slice (some ⟨b2, 0, none⟩) t8.length cap1), (71, iv (x10)), (72, .slice (some ⟨b2, 0, none⟩) t8.length cap1), (73, iv (i3)), (74, iv (i6))] rfl fun rest => ?_
     obtain ⟨x11, hx11, hrx11, H⟩ := ck64_s H
     refine TL_val rfl rfl (r_add (c := x11) rfl rfl (w_x hx11 hrx11)) ?_
     obtain ⟨j6, hj6, hlj6, H⟩ := ckI_s H
     refine TL_val rfl rfl (r_index Tryz.underlying51 ty3 rfl (vi hj6) (k := j6) (lt_of_len hlj6 hz7)) ?_
     obtain ⟨y4, hy4, H⟩ := nm_s H
     refine TL_step rfl rfl (oe_loadM_i64 (z' := y4) 0 rfl rfl (Sub.rowT0 eI cap1 (t14) j6 _ (getE (z := 0) (lt_of_len' (lt_of_len hlj6 hz7) hz7) hy4)) ty3) fun _ hv4 => TL_mv 2 [(1, va1), (2, iv (a2)), (8, .slice (some ⟨b2, 0, none⟩) t8.length cap1), (9, iv (i3)), (10, iv (x3)), (12, .slice (some ⟨b1, 0, none⟩) j2 j2), (13, iv (x9)), (15, iv (y3)), (61, va1), (62, iv ((a1.length : Nat) : Int)), (63, iv (i6)), (68, .slice (some ⟨b2, 0, none⟩) t8.length cap1), (71, iv (x10)), (77, iv (y4)), (78, iv (a2)), (79, iv (x9))] rfl fun rest => ?_
     obtain ⟨x12, hx12, hrx12, H⟩ := ck64_s H
     refine TL_val rfl rfl (r_sub (c := x12) rfl rfl (w_x hx12 hrx12)) <| TL_mv 1 [(1, va1), (2, iv (a2)), (8, .slice (some ⟨b2, 0, none⟩) t8.length cap1), (9, iv (i3)), (10, iv (x3)), (12, .slice (some ⟨b1, 0, none⟩) j2 j2), (13, iv (x9)), (61, va1), (62, iv ((a1.length : Nat) : Int)), (63, iv (i6)), (68, .slice (some ⟨b2, 0, none⟩) t8.length cap1), (71, iv (x10)), (77, iv (y4)), (80, iv (x12)), (81, iv (y3))] rfl fun rest => ?_
     obtain ⟨x13, hx13, hrx13, H⟩ := ck64_s H
     refine TL_val rfl rfl (r_mul (c := x13) rfl rfl (w_x hx13 hrx13)) ?_
     obtain ⟨x14, hx14, hrx14, H⟩ := ck64_s H
     refine TL_val rfl rfl (r_add (c := x14) rfl rfl (w_x hx14 hrx14)) <| TL_mv 1 [(1, va1), (2, iv (a2)), (8, .slice (some ⟨b2, 0, none⟩) t8.length cap1), (9, iv (i3)), (10, iv (x3)), (12, .slice (some ⟨b1, 0, none⟩) j2 j2), (13, iv (x9)), (61, va1), (62, iv ((a1.length : Nat) : Int)), (63, iv (i6)), (68, .slice (some ⟨b2, 0, none⟩) t8.length cap1), (71, iv (x10)), (83, iv (x14)), (84, iv (a2))] rfl fun rest => ?_
     obtain ⟨h02, H⟩ := ck_s H
     obtain ⟨x15, hx15, H⟩ := nm_s H
     refine TL_val rfl rfl (r_rem (c := x15) rfl rfl h02 hx15.symm) ?_
     obtain ⟨j7, hj7, hlj7, H⟩ := ckI_s H
     refine TL_val rfl rfl (r_index Tryz.underlying51 ty3 rfl (vi hj7) (k := j7) (lt_of_len hlj7 hz7)) ?_
     obtain ⟨t16, ht16, H⟩ := nm_s H
     refine TL_og rfl rfl (og_store' (f := eI) (y' := x15) (z2 := t16) 0 rfl rfl rfl (Sub.rowT0 eI cap1 (t14) j7 _ (getD_some 0 (lt_of_len' (lt_of_len hlj7 hz7) hz7))) ty3 (fun S w h => (i64_fV (tmod_r hrx14 hx15))) ht16) fun _ _ => ?_
     show TL _ _ _ _ (mB (rowT eI cap1) 3 b2 (t16) :: mB (rowT eI j2) 3 b1 (t11) :: F) (fP eI (y3) p2 :: fV (eS eI) (a1) va1 :: G) _ _ _ _
     refine TL_mv 0 [(1, va1), (2, iv (a2)), (8, .slice (some ⟨b2, 0, none⟩) t8.length cap1), (9, iv (i3)), (10, iv (x3)), (12, .slice (some ⟨b1, 0, none⟩) j2 j2), (13, iv (x9)), (61, va1), (62, iv ((a1.length : Nat) : Int)), (63, iv (i6))] rfl fun rest => TL_nil <| T_region ?_
     obtain ⟨x16, hx16, hrx16, H⟩ := ck64_s H
     refine TL_val rfl rfl (r_add (c := x16) rfl rfl (w_x hx16 hrx16)) <| TL_mv 1 [(1, va1), (2, iv (a2)), (8, .slice (some ⟨b2, 0, none⟩) t8.length cap1), (9, iv (i3)), (10, iv (x3)), (12, .slice (some ⟨b1, 0, none⟩) j2 j2), (13, iv (x9)), (61, va1), (62, iv ((a1.length : Nat) : Int)), (63, iv (x16))] rfl fun rest => TL_nil ?_
     exact St_round_s (n2, x16, t16) H (And.intro hrx16 (set_len ht16 hz7)) (Nat.lt_succ_self _) rfl (fun w h => St.weak h (fun S w h => ⟨h.2.1, h.2.2⟩))
    replace H := ifb_f hb1 H
    refine T_exit ?_
    exact JQ_mk t14 (And.intro (Option.some.inj H) hz7) rfl (fun w h => St.weak h (fun S w h => ⟨h.1, h.2⟩))
   refine JQ_el' ?_
   rintro t15 ⟨hs, hz8⟩ rest
   subst hs
   replace H := Hc
   clear hL
   refine JG_to (ms' := (mB (rowT eI cap1) 3 b2 (t15) :: mB (rowT eI j2) 3 b1 (t11) :: F)) (Γ' := (fV (eS eI) (a1) va1 :: G)) (live' := [(1, va1), (2, iv (a2)), (8, .slice (some ⟨b2, 0, none⟩) t8.length cap1), (9, iv (i3)), (10, iv (x3)), (12, .slice (some ⟨b1, 0, none⟩) j2 j2)]) rfl <| T_region <| TL_mv 1 [(1, va1), (2, iv (a2)), (8, .slice (some ⟨b2, 0, none⟩) t8.length cap1), (10, iv (x3)), (12, .slice (some ⟨b1, 0, none⟩) j2 j2), (43, iv (i3))] rfl fun rest => ?_
   obtain ⟨x17, hx17, hrx17, H⟩ := ck64_s H
   refine TL_val rfl rfl (r_sub (c := x17) rfl rfl (w_x hx17 hrx17)) <| TL_mv 1 [(1, va1), (2, iv (a2)), (8, .slice (some ⟨b2, 0, none⟩) t8.length cap1), (9, iv (x17)), (10, iv (x3)), (12, .slice (some ⟨b1, 0, none⟩) j2 j2)] rfl fun rest => TL_nil <| T_weak_st (fun w h => close_all 0 h rfl hz8 hcb2 hmb2) ?_
   exact St_round_s (n1, t15, x17, t11, (.slice (some ⟨b2, 0, none⟩) t8.length cap1 : Value)) H (And.intro hrx17 (set_len ht11 hz3)) (Nat.lt_succ_self _) rfl (fun w h => St.weak h (fun S w h => ⟨h.1, h.2⟩))
  replace H := if_f h2 H
  refine TL_mv 0 [(1, va1), (2, iv (a2)), (8, w5), (9, iv (i3)), (10, iv (x3)), (12, .slice (some ⟨b1, 0, none⟩) j2 j2), (42, .bool false)] rfl fun rest => TL_nil <| T_cond_false rfl <| T_exit ?_
  exact JQ_mk (t8, t7, w5) (And.intro (Option.some.inj H) hz3) rfl (fun w h => St.weak h (fun S w h => h.2))
 refine JQ_el' ?_
 rintro ⟨t10, t9, w6⟩ ⟨hs, hz4⟩ rest
 subst hs
 replace H := Hc
 clear hL
 refine JG_to (ms' := (mO eI 3 w6 (t10) :: mB (rowT eI j2) 3 b1 (t9) :: F)) (Γ' := (G)) (live' := [(2, iv (a2)), (8, w6), (12, .slice (some ⟨b1, 0, none⟩) j2 j2)]) rfl <| T_seq <| T_region <| TL_mv 2 [(2, iv (a2)), (8, w6), (88, .slice (some ⟨b1, 0, none⟩) j2 j2), (89, iv (a2))] rfl fun rest => TL_weak_st (fun w h => fz_all 1 h rfl hz4 (Nat.le_refl _) (mk_le (B := 8) (by decide) hk3)) ?_
 obtain ⟨t17, he2, H⟩ := bd_s H
 refine TL_og rfl rfl (og_callG (F := (mO eI 3 w6 (t10) :: F)) (by kernel_rfl) (c_fpoly_plain fu t9 ((.slice (some ⟨b1, 0, none⟩) j2 j2)) a2 qa2 t17 he2) rfl (fun S w h => ⟨h.1, trivial⟩)) fun u1 _ => ?_
 show TL _ _ _ _ (mO eI 3 u1 (t17) :: mO eI 3 w6 (t10) :: F) (fV (eS eI) (t9) ((.slice (some ⟨b1, 0, none⟩) j2 j2)) :: G) _ _ _ _
 refine TL_mv 2 [(90, u1), (91, w6), (92, iv (a2))] rfl fun rest => TL_weak_st (fun w h => fz_own 1 h rfl) ?_
 obtain ⟨t18, he3, H⟩ := bd_s H
 refine TL_og rfl rfl (og_callG (F := (mO eI 3 u1 (t17) :: F)) (by kernel_rfl) (c_fpoly_plain fu t10 w6 a2 qa2 t18 he3) rfl (fun S w h => ⟨h.1, trivial⟩)) fun u2 _ => ?_
 show TL _ _ _ _ (mO eI 3 u2 (t18) :: mO eI 3 u1 (t17) :: F) (fV (eS eI) (t10) w6 :: fV (eS eI) (t9) ((.slice (some ⟨b1, 0, none⟩) j2 j2)) :: G) _ _ _ _
 refine TL_mv 2 [(6, u1), (7, u2)] rfl fun rest => TL_nil <| T_ret ?_
 obtain ⟨rfl, rfl⟩ := inj2 H
 intro w hw
 exact RetG (vs := [u1, u2]) (u1, u2) Tryz.results239 (by exact ⟨rfl, rfl, trivial⟩) rfl trivial (St.weak (St.front 1 (St.front 0 hw rfl) rfl) (fun S w h => h.2.2))
set_option maxRecDepth 100000 in
set_option maxHeartbeats 1000000 in
theorem c_fpoly_product (fu : Nat) (a0 : List Int) (va0 : Value) (a1 : List Int) (va1 : Value) (a2 : Int) (qa2 : InR a2) (r0 : List Int) (H : M_fpoly_product fu a0 a1 a2 = some r0) : FnG Tryz.prog 183 [va0, va1, iv a2].toArray [] [fV (eS eI) (a0) va0, fV (eS eI) (a1) va1] (fun u : Value => u) (fun u => [mO eI 3 u (r0)]) (fun u => []) (fun _ => True) := by
 unfold M_fpoly_product at H
 refine FnG_intro Tryz.func183 rfl rfl fun we Se F G rest => T_seq <| T_region <| TL_mv 1 [(0, va0), (1, va1), (2, iv (a2))] rfl fun rest => TL_nil <| T_seq ?_
 refine T_region <| TL_mv 1 [(0, va0), (1, va1), (2, iv (a2)), (12, va0)] rfl fun rest => TL_step rfl rfl (oe_len (e := eI) (xs := a0) Tryz.underlying51 rfl (fun S w h => h.1)) fun _ hl1 => TL_mv 1 [(0, va0), (1, va1), (2, iv (a2)), (13, iv ((a0.length : Nat) : Int)), (14, va1)] rfl fun rest => TL_step rfl rfl (oe_len (e := eI) (xs := a1) Tryz.underlying51 rfl (fun S w h => h.2.1)) fun _ hl2 => ?_
 obtain ⟨x1, hx1, hrx1, H⟩ := ck64_s H
 refine TL_val rfl rfl (r_add (c := x1) rfl rfl (w_x hx1 hrx1)) ?_
 obtain ⟨j1, hj1, H⟩ := ckN_s H
 obtain ⟨hk1, H⟩ := ck_s H
 obtain ⟨t1, ht1, H⟩ := nm_s H
 refine TL_og rfl rfl (og_make' (e := eI) (z := 0) (xs := t1) (n := j1) Tryz.underlying51 ty3 (vi hj1) (vi hj1) (by decide) hk1 (fun S w => z3 S w) ht1) fun b1 _ => ?_
 show TL _ _ _ _ (mB (rowT eI j1) 3 b1 (t1) :: F) (fV (eS eI) (a0) va0 :: fV (eS eI) (a1) va1 :: G) _ _ _ _
 refine TL_mv 1 [(0, va0), (1, va1), (2, iv (a2)), (7, .slice (some ⟨b1, 0, none⟩) j1 j1)] rfl fun rest => TL_nil <| T_seq <| T_seq <| T_region <| TL_mv 1 [(1, va1), (2, iv (a2)), (7, .slice (some ⟨b1, 0, none⟩) j1 j1), (18, va0)] rfl fun rest => ?_
 refine TL_step rfl rfl (oe_len (e := eI) (xs := a0) Tryz.underlying51 rfl (fun S w h => h.1)) fun _ hl3 => TL_mv 1 [(1, va1), (2, iv (a2)), (7, .slice (some ⟨b1, 0, none⟩) j1 j1), (18, va0), (19, iv ((a0.length : Nat) : Int)), (20, iv 0)] rfl fun rest => TL_nil <| T_block ?_
 obtain ⟨s1, hL, Hc⟩ := bd_s H
 refine T_X [(.x 0, JQ we Se (G := List Int) (fun t5 => (⟨(mB (rowT eI j1) 3 b1 (t5) :: F), (G), [(2, iv (a2)), (7, .slice (some ⟨b1, 0, none⟩) j1 j1)]⟩ : Inv)) (fun t5 => t5 = s1 ∧ t5.length = j1))] ?_ ⟨?_, trivial⟩
 ·refine T_loop_s (G := Nat × Int × (List Int)) (s1 := _) (f := _) (k := fun (n1, i3, t4) => n1) (σ := fun (n1, i3, t4) => (i3, t4)) (fun (n1, i3, t4) => (⟨(mB (rowT eI j1) 3 b1 (t4) :: F), (fV (eS eI) (a0) va0 :: fV (eS eI) (a1) va1 :: G), [(1, va1), (2, iv (a2)), (7, .slice (some ⟨b1, 0, none⟩) j1 j1), (18, va0), (19, iv ((a0.length : Nat) : Int)), (20, iv (i3))]⟩ : Inv)) (fun (n1, i3, t4) => InR i3 ∧ t4.length = j1) (fu, 0, t1) hL (And.intro (show InR (0) by decide) (rep_len ht1)) rfl (fun w h => St.weak h (fun S w h => ⟨h.1, h.2.1, h.2.2⟩)) ?_
  rintro ⟨n1, i3, t4⟩ ⟨H, hr3, hz3⟩ rest
  rcases n1 with _ | n1
  ·exact (loopN_z H).elim
  replace H := loopN_s H
  unfold B_fpoly_product_0 at H
  refine T_prune [(1, va1), (2, iv (a2)), (7, .slice (some ⟨b1, 0, none⟩) j1 j1), (18, va0), (19, iv ((a0.length : Nat) : Int)), (20, iv (i3))] rfl fun rest => T_weak (mB (rowT eI j1) 3 b1 (t4) :: F) (fV (eS eI) (a0) va0 :: fV (eS eI) (a1) va1 :: G) (fun w h => h) <| T_seq ?_
  obtain ⟨s2, hL, Hc⟩ := bd_s H
  refine T_X [(.n, JQ we Se (G := Bool) (fun b2 => (⟨(mB (rowT eI j1) 3 b1 (t4) :: F), (fV (eS eI) (a0) va0 :: fV (eS eI) (a1) va1 :: G), [(1, va1), (2, iv (a2)), (7, .slice (some ⟨b1, 0, none⟩) j1 j1), (18, va0), (19, iv ((a0.length : Nat) : Int)), (20, iv (i3)), (21, .bool (b2))]⟩ : Inv)) (fun b2 => b2 = s2))] ?_ ⟨?_, trivial⟩
  ·replace H := hL
   refine T_region <| TL_lss rfl rfl rfl rfl (fun h1 => ?_) (fun h1 => ?_)
   ·replace H := if_t h1 H
    refine TL_mv 0 [(1, va1), (2, iv (a2)), (7, .slice (some ⟨b1, 0, none⟩) j1 j1), (18, va0), (19, iv ((a0.length : Nat) : Int)), (20, iv (i3)), (21, .bool true)] rfl fun rest => TL_nil ?_
    exact JQ_mk true (Option.some.inj H) rfl (fun w h => St.weak h (fun S w h => ⟨h.1, h.2.1, h.2.2⟩))
   replace H := if_f h1 H
   refine TL_mv 0 [(1, va1), (2, iv (a2)), (7, .slice (some ⟨b1, 0, none⟩) j1 j1), (18, va0), (19, iv ((a0.length : Nat) : Int)), (20, iv (i3)), (21, .bool false)] rfl fun rest => TL_nil ?_
   exact JQ_mk false (Option.some.inj H) rfl (fun w h => St.weak h (fun S w h => ⟨h.1, h.2.1, h.2.2⟩))
  refine JQ_el' ?_
  rintro b2 hs rest
  subst hs
  replace H := Hc
  clear hL
  refine JG_to (ms' := (mB (rowT eI j1) 3 b1 (t4) :: F)) (Γ' := (fV (eS eI) (a0) va0 :: fV (eS eI) (a1) va1 :: G)) (live' := [(1, va1), (2, iv (a2)), (7, .slice (some ⟨b1, 0, none⟩) j1 j1), (18, va0), (19, iv ((a0.length : Nat) : Int)), (20, iv (i3)), (21, .bool (b2))]) rfl <| T_seq <| T_cond (b2) rfl (fun hb1 => ?_) (fun hb1 => ?_)
  ·replace H := if_t hb1 H
   refine T_skip <| T_seq <| T_block <| T_seq <| T_region <| TL_mv 1 [(1, va1), (2, iv (a2)), (7, .slice (some ⟨b1, 0, none⟩) j1 j1), (18, va0), (19, iv ((a0.length : Nat) : Int)), (20, iv (i3)), (22, iv (i3))] rfl fun rest => ?_
   obtain ⟨j2, hj2, hlj2, H⟩ := ckI_s H
   obtain ⟨y1, hy1, H⟩ := nm_s H
   refine TL_step rfl rfl (oe_index (e := eI) (xs := a0) (k := j2) (y := y1) rfl (vi hj2) Tryz.underlying51 ty3 (getE (z := 0) hlj2 hy1) (fun S w h => h.1)) fun p1 _ => TL_step rfl rfl (oe_load_i64 (y := y1) rfl ty3 (fun S w h => h.1)) fun _ hv1 => TL_mv 2 [(1, va1), (2, iv (a2)), (7, .slice (some ⟨b1, 0, none⟩) j1 j1), (8, iv (i3)), (9, iv (y1)), (18, va0), (19, iv ((a0.length : Nat) : Int)), (20, iv (i3))] rfl fun rest => TL_nil <| T_seq <| T_region ?_
   refine TL_mv 1 [(1, va1), (2, iv (a2)), (7, .slice (some ⟨b1, 0, none⟩) j1 j1), (8, iv (i3)), (9, iv (y1)), (18, va0), (19, iv ((a0.length : Nat) : Int)), (20, iv (i3)), (25, va1)] rfl fun rest => TL_step rfl rfl (oe_len (e := eI) (xs := a1) Tryz.underlying51 rfl (fun S w h => h.2.2.1)) fun _ hl4 => TL_mv 1 [(1, va1), (2, iv (a2)), (7, .slice (some ⟨b1, 0, none⟩) j1 j1), (8, iv (i3)), (9, iv (y1)), (18, va0), (19, iv ((a0.length : Nat) : Int)), (20, iv (i3)), (25, va1), (26, iv ((a1.length : Nat) : Int)), (27, iv 0)] rfl fun rest => TL_nil <| T_block ?_
   obtain ⟨s3, hL, Hc⟩ := bd_s H
   refine T_X [(.x 2, JQ we Se (G := List Int) (fun t9 => (⟨(mB (rowT eI j1) 3 b1 (t9) :: F), (fV (eS eI) (a0) va0 :: fV (eS eI) (a1) va1 :: G), [(1, va1), (2, iv (a2)), (7, .slice (some ⟨b1, 0, none⟩) j1 j1), (18, va0), (19, iv ((a0.length : Nat) : Int)), (20, iv (i3))]⟩ : Inv)) (fun t9 => t9 = s3 ∧ t9.length = j1))] ?_ ⟨?_, trivial⟩
   ·refine T_loop_s (G := Nat × Int × (List Int)) (s1 := _) (f := _) (k := fun (n2, i6, t8) => n2) (σ := fun (n2, i6, t8) => (i6, t8)) (fun (n2, i6, t8) => (⟨(mB (rowT eI j1) 3 b1 (t8) :: F), (fV (eS eI) (a0) va0 :: fV (eS eI) (a1) va1 :: G), [(1, va1), (2, iv (a2)), (7, .slice (some ⟨b1, 0, none⟩) j1 j1), (8, iv (i3)), (9, iv (y1)), (18, va0), (19, iv ((a0.length : Nat) : Int)), (20, iv (i3)), (25, va1), (26, iv ((a1.length : Nat) : Int)), (27, iv (i6))]⟩ : Inv)) (fun (n2, i6, t8) => InR i6 ∧ t8.length = j1) (fu, 0, t4) hL (And.intro (show InR (0) by decide) hz3) rfl (fun w h => St.weak h (fun S w h => ⟨h.2.1, h.2.2.1, h.2.2.2⟩)) ?_
    rintro ⟨n2, i6, t8⟩ ⟨H, hr6, hz7⟩ rest
    rcases n2 with _ | n2
    ·exact (loopN_z H).elim
    replace H := loopN_s H
    unfold B_fpoly_product_1 at H
    refine T_prune [(1, va1), (2, iv (a2)), (7, .slice (some ⟨b1, 0, none⟩) j1 j1), (8, iv (i3)), (9, iv (y1)), (18, va0), (19, iv ((a0.length : Nat) : Int)), (20, iv (i3)), (25, va1), (26, iv ((a1.length : Nat) : Int)), (27, iv (i6))] rfl fun rest => T_weak (mB (rowT eI j1) 3 b1 (t8) :: F) (fV (eS eI) (a0) va0 :: fV (eS eI) (a1) va1 :: G) (fun w h => h) <| T_seq ?_
    obtain ⟨s4, hL, Hc⟩ := bd_s H
    refine T_X [(.n, JQ we Se (G := Bool) (fun b3 => (⟨(mB (rowT eI j1) 3 b1 (t8) :: F), (fV (eS eI) (a0) va0 :: fV (eS eI) (a1) va1 :: G), [(1, va1), (2, iv (a2)), (7, .slice (some ⟨b1, 0, none⟩) j1 j1), (8, iv (i3)), (9, iv (y1)), (18, va0), (19, iv ((a0.length : Nat) : Int)), (20, iv (i3)), (25, va1), (26, iv ((a1.length : Nat) : Int)), (27, iv (i6)), (28, .bool (b3))]⟩ : Inv)) (fun b3 => b3 = s4))] ?_ ⟨?_, trivial⟩
    ·replace H := hL
     refine T_region <| TL_lss rfl rfl rfl rfl (fun h2 => ?_) (fun h2 => ?_)
     ·replace H := if_t h2 H
      refine TL_mv 0 [(1, va1), (2, iv (a2)), (7, .slice (some ⟨b1, 0, none⟩) j1 j1), (8, iv (i3)), (9, iv (y1)), (18, va0), (19, iv ((a0.length : Nat) : Int)), (20, iv (i3)), (25, va1), (26, iv ((a1.length : Nat) : Int)), (27, iv (i6)), (28, .bool true)] rfl fun rest => TL_nil ?_
      exact JQ_mk true (Option.some.inj H) rfl (fun w h => St.weak h (fun S w h => ⟨h.1, h.2.1, h.2.2⟩))
     replace H := if_f h2 H
     refine TL_mv 0 [(1, va1), (2, iv (a2)), (7, .slice (some ⟨b1, 0, none⟩) j1 j1), (8, iv (i3)), (9, iv (y1)), (18, va0), (19, iv ((a0.length : Nat) : Int)), (20, iv (i3)), (25, va1), (26, iv ((a1.length : Nat) : Int)), (27, iv (i6)), (28, .bool false)] rfl fun rest => TL_nil ?_
     exact JQ_mk false (Option.some.inj H) rfl (fun w h => St.weak h (fun S w h => ⟨h.1, h.2.1, h.2.2⟩))
    refine JQ_el' ?_
    rintro b3 hs rest
    subst hs
    replace H := Hc
    clear hL
    refine JG_to (ms' := (mB (rowT eI j1) 3 b1 (t8) :: F)) (Γ' := (fV (eS eI) (a0) va0 :: fV (eS eI) (a1) va1 :: G)) (live' := [(1, va1), (2, iv (a2)), (7, .slice (some ⟨b1, 0, none⟩) j1 j1), (8, iv (i3)), (9, iv (y1)), (18, va0), (19, iv ((a0.length : Nat) : Int)), (20, iv (i3)), (25, va1), (26, iv ((a1.length : Nat) : Int)), (27, iv (i6)), (28, .bool (b3))]) rfl <| T_seq <| T_cond (b3) rfl (fun hb2 => ?_) (fun hb2 => ?_)
    ·replace H := if_t hb2 H
     refine T_skip <| T_seq <| T_block <| T_seq <| T_region <| TL_mv 1 [(1, va1), (2, iv (a2)), (7, .slice (some ⟨b1, 0, none⟩) j1 j1), (8, iv (i3)), (9, iv (y1)), (18, va0), (19, iv ((a0.length : Nat) : Int)), (20, iv (i3)), (25, va1), (26, iv ((a1.length : Nat) : Int)), (27, iv (i6)), (29, iv (i6))] rfl fun rest => ?_
     obtain ⟨j3, hj3, hlj3, H⟩ := ckI_s H
     obtain ⟨y2, hy2, H⟩ := nm_s H
     refine TL_step rfl rfl (oe_index (e := eI) (xs := a1) (k := j3) (y := y2) rfl (vi hj3) Tryz.underlying51 ty3 (getE (z := 0) hlj3 hy2) (fun S w h => h.2.1)) fun p2 _ => TL_step rfl rfl (oe_load_i64 (y := y2) rfl ty3 (fun S w h => h.1)) fun _ hv2 => TL_mv 2 [(1, va1), (2, iv (a2)), (7, .slice (some ⟨b1, 0, none⟩) j1 j1), (8, iv (i3)), (9, iv (y1)), (10, iv (i6)), (11, iv (y2)), (18, va0), (19, iv ((a0.length : Nat) : Int)), (20, iv (i3)), (25, va1), (26, iv ((a1.length : Nat) : Int)), (27, iv (i6))] rfl fun rest => TL_nil <| T_region <| TL_mv 3 [(1, va1), (2, iv (a2)), (7, .slice (some ⟨b1, 0, none⟩) j1 j1), (8, iv (i3)), (9, iv (y1)), (10, iv (i6)), (11, iv (y2)), (18, va0), (19, iv ((a0.length : Nat) : Int)), (20, iv (i3)), (25, va1), (26, iv ((a1.length : Nat) : Int)), (27, iv (i6)), (32, .slice (some ⟨b1, 0, none⟩) j1 j1), (33, iv (i3)), (34, iv (i6))] rfl fun rest => ?_
     obtain ⟨x2, hx2, hrx2, H⟩ := ck64_s H
     refine TL_val rfl rfl (r_add (c := x2) rfl rfl (w_x hx2 hrx2)) <| TL_mv 3 [(1, va1), (2, iv (a2)), (7, .slice (some ⟨b1, 0, none⟩) j1 j1), (8, iv (i3)), (9, iv (y1)), (11, iv (y2)), (18, va0), (19, iv ((a0.length : Nat) : Int)), (20, iv (i3)), (25, va1), (26, iv ((a1.length : Nat) : Int)), (27, iv (i6)), (32, .slice (some ⟨b1, 0, none⟩) j1 j1), (35, iv (x2)), (36, .slice (some ⟨b1, 0, none⟩) j1 j1), (37, iv (i3)), (38, iv (i6))] rfl fun rest => ?_
     obtain ⟨x3, hx3, hrx3, H⟩ := ck64_s H
     refine TL_val rfl rfl (r_add (c := x3) rfl rfl (w_x hx3 hrx3)) ?_
     obtain ⟨j4, hj4, hlj4, H⟩ := ckI_s H
     refine TL_val rfl rfl (r_index Tryz.underlying51 ty3 rfl (vi hj4) (k := j4) (lt_of_len hlj4 hz7)) ?_
     obtain ⟨y3, hy3, H⟩ := nm_s H
     refine TL_step rfl rfl (oe_loadM_i64 (z' := y3) 0 rfl rfl (Sub.rowT0 eI j1 (t8) j4 _ (getE (z := 0) (lt_of_len' (lt_of_len hlj4 hz7) hz7) hy3)) ty3) fun _ hv3 => TL_mv 2 [(1, va1), (2, iv (a2)), (7, .slice (some ⟨b1, 0, none⟩) j1 j1), (8, iv (i3)), (9, iv (y1)), (18, va0), (19, iv ((a0.length : Nat) : Int)), (20, iv (i3)), (25, va1), (26, iv ((a1.length : Nat) : Int)), (27, iv (i6)), (32, .slice (some ⟨b1, 0, none⟩) j1 j1), (35, iv (x2)), (41, iv (y3)), (42, iv (y1)), (43, iv (y2))] rfl fun rest => ?_
     obtain ⟨x4, hx4, hrx4, H⟩ := ck64_s H
     refine TL_val rfl rfl (r_mul (c := x4) rfl rfl (w_x hx4 hrx4)) ?_
     obtain ⟨x5, hx5, hrx5, H⟩ := ck64_s H
     refine TL_val rfl rfl (r_add (c := x5) rfl rfl (w_x hx5 hrx5)) <| TL_mv 1 [(1, va1), (2, iv (a2)), (7, .slice (some ⟨b1, 0, none⟩) j1 j1), (8, iv (i3)), (9, iv (y1)), (18, va0), (19, iv ((a0.length : Nat) : Int)), (20, iv (i3)), (25, va1), (26, iv ((a1.length : Nat) : Int)), (27, iv (i6)), (32, .slice (some ⟨b1, 0, none⟩) j1 j1), (35, iv (x2)), (45, iv (x5)), (46, iv (a2))] rfl fun rest => ?_
     obtain ⟨h01, H⟩ := ck_s H
     obtain ⟨x6, hx6, H⟩ := nm_s H
     refine TL_val rfl rfl (r_rem (c := x6) rfl rfl h01 hx6.symm) ?_
     obtain ⟨j5, hj5, hlj5, H⟩ := ckI_s H
     refine TL_val rfl rfl (r_index Tryz.underlying51 ty3 rfl (vi hj5) (k := j5) (lt_of_len hlj5 hz7)) ?_
     obtain ⟨t10, ht10, H⟩ := nm_s H
     refine TL_og rfl rfl (og_store' (f := eI) (y' := x6) (z2 := t10) 0 rfl rfl rfl (Sub.rowT0 eI j1 (t8) j5 _ (getD_some 0 (lt_of_len' (lt_of_len hlj5 hz7) hz7))) ty3 (fun S w h => (i64_fV (tmod_r hrx5 hx6))) ht10) fun _ _ => ?_
     show TL _ _ _ _ (mB (rowT eI j1) 3 b1 (t10) :: F) (fP eI (y2) p2 :: fV (eS eI) (a0) va0 :: fV (eS eI) (a1) va1 :: G) _ _ _ _
     refine TL_mv 0 [(1, va1), (2, iv (a2)), (7, .slice (some ⟨b1, 0, none⟩) j1 j1), (8, iv (i3)), (9, iv (y1)), (18, va0), (19, iv ((a0.length : Nat) : Int)), (20, iv (i3)), (25, va1), (26, iv ((a1.length : Nat) : Int)), (27, iv (i6))] rfl fun rest => TL_nil <| T_region ?_
     obtain ⟨x7, hx7, hrx7, H⟩ := ck64_s H
     refine TL_val rfl rfl (r_add (c := x7) rfl rfl (w_x hx7 hrx7)) <| TL_mv 1 [(1, va1), (2, iv (a2)), (7, .slice (some ⟨b1, 0, none⟩) j1 j1), (8, iv (i3)), (9, iv (y1)), (18, va0), (19, iv ((a0.length : Nat) : Int)), (20, iv (i3)), (25, va1), (26, iv ((a1.length : Nat) : Int)), (27, iv (x7))] rfl fun rest => TL_nil ?_
     exact St_round_s (n2, x7, t10) H (And.intro hrx7 (set_len ht10 hz7)) (Nat.lt_succ_self _) rfl (fun w h => St.weak h (fun S w h => ⟨h.2.1, h.2.2.1, h.2.2.2⟩))
    replace H := ifb_f hb2 H
    refine T_exit ?_
    exact JQ_mk t8 (And.intro (Option.some.inj H) hz7) rfl (fun w h => St.weak h (fun S w h => ⟨h.1, h.2.1, h.2.2⟩))
   refine JQ_el' ?_
   rintro t9 ⟨hs, hz8⟩ rest
   subst hs
   replace H := Hc
   clear hL
   refine JG_to (ms' := (mB (rowT eI j1) 3 b1 (t9) :: F)) (Γ' := (fV (eS eI) (a0) va0 :: fV (eS eI) (a1) va1 :: G)) (live' := [(1, va1), (2, iv (a2)), (7, .slice (some ⟨b1, 0, none⟩) j1 j1), (18, va0), (19, iv ((a0.length : Nat) : Int)), (20, iv (i3))]) rfl <| T_region ?_
   obtain ⟨x8, hx8, hrx8, H⟩ := ck64_s H
   refine TL_val rfl rfl (r_add (c := x8) rfl rfl (w_x hx8 hrx8)) <| TL_mv 1 [(1, va1), (2, iv (a2)), (7, .slice (some ⟨b1, 0, none⟩) j1 j1), (18, va0), (19, iv ((a0.length : Nat) : Int)), (20, iv (x8))] rfl fun rest => TL_nil ?_
   exact St_round_s (n1, x8, t9) H (And.intro hrx8 hz8) (Nat.lt_succ_self _) rfl (fun w h => St.weak h (fun S w h => ⟨h.1, h.2.1, h.2.2⟩))
  replace H := ifb_f hb1 H
  refine T_exit ?_
  exact JQ_mk t4 (And.intro (Option.some.inj H) hz3) rfl (fun w h => St.weak h (fun S w h => h.2.2))
 refine JQ_el' ?_
 rintro t5 ⟨hs, hz4⟩ rest
 subst hs
 replace H := Hc
 clear hL
 refine JG_to (ms' := (mB (rowT eI j1) 3 b1 (t5) :: F)) (Γ' := (G)) (live' := [(2, iv (a2)), (7, .slice (some ⟨b1, 0, none⟩) j1 j1)]) rfl <| T_seq <| T_region <| TL_mv 2 [(51, .slice (some ⟨b1, 0, none⟩) j1 j1), (52, iv (a2))] rfl fun rest => TL_weak_st (fun w h => fz_all 0 h rfl hz4 (Nat.le_refl _) (mk_le (B := 8) (by decide) hk1)) ?_
 obtain ⟨t11, he1, H⟩ := bd_s H
 refine TL_og rfl rfl (og_callG (F := (F)) (by kernel_rfl) (c_fpoly_plain fu t5 ((.slice (some ⟨b1, 0, none⟩) j1 j1)) a2 qa2 t11 he1) rfl (fun S w h => ⟨h.1, trivial⟩)) fun u1 _ => ?_
 show TL _ _ _ _ (mO eI 3 u1 (t11) :: F) (fV (eS eI) (t5) ((.slice (some ⟨b1, 0, none⟩) j1 j1)) :: G) _ _ _ _
 refine TL_mv 1 [(6, u1)] rfl fun rest => TL_nil <| T_ret ?_
 obtain rfl := inj1 H
 intro w hw
 exact RetG (vs := [u1]) u1 Tryz.results183 (by exact ⟨rfl, trivial⟩) rfl trivial (St.weak hw (fun S w h => h.2))
theorem z_fpoly_product (fu : Nat) (a0 : List Int) (va0 : Value) (a1 : List Int) (va1 : Value) (a2 : Int) (qa2 : InR a2) (r0 : List Int) (H : M_fpoly_product fu a0 a1 a2 = some r0) : Fn Tryz.prog 183 [va0, va1, .int .i64 a2].toArray [fV (eS eI) (a0) va0, fV (eS eI) (a1) va1] (fun u : Value => u) (fun u => [fV (eS eI) (r0) u]) (fun _ => True) :=
  FnG.frozen (c_fpoly_product fu a0 va0 a1 va1 a2 qa2 r0 H) fun u w we Se h => (fz_own 0 h rfl)
set_option maxRecDepth 100000 in
set_option maxHeartbeats 1000000 in
theorem c_fpoly_sum (fu : Nat) (a0 : List Int) (va0 : Value) (a1 : List Int) (va1 : Value) (a2 : Int) (qa2 : InR a2) (a3 : Int) (qa3 : InR a3) (r0 : List Int) (H : M_fpoly_sum fu a0 a1 a2 a3 = some r0) : FnG Tryz.prog 236 [va0, va1, iv a2, iv a3].toArray [] [fV (eS eI) (a0) va0, fV (eS eI) (a1) va1] (fun u : Value => u) (fun u => [mO eI 3 u (r0)]) (fun u => []) (fun _ => True) := by
 unfold M_fpoly_sum at H
 refine FnG_intro Tryz.func236 rfl rfl fun we Se F G rest => T_seq <| T_region <| TL_mv 1 [(0, va0), (1, va1), (2, iv (a2)), (3, iv (a3))] rfl fun rest => TL_nil <| T_seq ?_
 refine T_region <| TL_mv 1 [(0, va0), (1, va1), (2, iv (a2)), (3, iv (a3)), (12, va0)] rfl fun rest => TL_step rfl rfl (oe_len (e := eI) (xs := a0) Tryz.underlying51 rfl (fun S w h => h.1)) fun _ hl1 => TL_mv 1 [(0, va0), (1, va1), (2, iv (a2)), (3, iv (a3)), (13, iv ((a0.length : Nat) : Int)), (14, va1)] rfl fun rest => TL_step rfl rfl (oe_len (e := eI) (xs := a1) Tryz.underlying51 rfl (fun S w h => h.2.1)) fun _ hl2 => ?_
 obtain ⟨x1, hx1, H⟩ := nm_s H
 refine TL_val rfl rfl (v_i (z := x1) (r_max rfl rfl) hx1) ?_
 obtain ⟨j1, hj1, H⟩ := ckN_s H
 obtain ⟨hk1, H⟩ := ck_s H
 obtain ⟨t1, ht1, H⟩ := nm_s H
 refine TL_og rfl rfl (og_make' (e := eI) (z := 0) (xs := t1) (n := j1) Tryz.underlying51 ty3 (vi hj1) (vi hj1) (by decide) hk1 (fun S w => z3 S w) ht1) fun b1 _ => ?_
 show TL _ _ _ _ (mB (rowT eI j1) 3 b1 (t1) :: F) (fV (eS eI) (a0) va0 :: fV (eS eI) (a1) va1 :: G) _ _ _ _
 refine TL_mv 1 [(0, va0), (1, va1), (2, iv (a2)), (3, iv (a3)), (9, .slice (some ⟨b1, 0, none⟩) j1 j1)] rfl fun rest => TL_nil <| T_seq <| T_region <| TL_mv 2 [(1, va1), (2, iv (a2)), (3, iv (a3)), (9, .slice (some ⟨b1, 0, none⟩) j1 j1), (18, .slice (some ⟨b1, 0, none⟩) j1 j1), (19, va0)] rfl fun rest => ?_
 obtain ⟨t2, ht2, H⟩ := nm_s H
 refine TL_og rfl rfl (og_copy' (e := eI) (xs := t1) (ys := a0) (l := 0) (dLen := j1) 0 Tryz.underlying51 ty3 rfl rfl rfl rfl (Nat.le_of_eq ((Nat.zero_add _).trans (rep_len ht1).symm)) (fun S w h => h.1) ht2) fun n1 _ => ?_
 show TL _ _ _ _ (mB (rowT eI j1) 3 b1 (t2) :: F) (fV (eS eI) (a0) va0 :: fV (eS eI) (a1) va1 :: G) _ _ _ _
 refine TL_mv 0 [(1, va1), (2, iv (a2)), (3, iv (a3)), (9, .slice (some ⟨b1, 0, none⟩) j1 j1)] rfl fun rest => TL_nil <| T_seq <| T_seq <| T_region <| TL_mv 1 [(2, iv (a2)), (3, iv (a3)), (9, .slice (some ⟨b1, 0, none⟩) j1 j1), (21, va1)] rfl fun rest => ?_
 refine TL_step rfl rfl (oe_len (e := eI) (xs := a1) Tryz.underlying51 rfl (fun S w h => h.2.1)) fun _ hl3 => TL_mv 1 [(2, iv (a2)), (3, iv (a3)), (9, .slice (some ⟨b1, 0, none⟩) j1 j1), (21, va1), (22, iv ((a1.length : Nat) : Int)), (23, iv 0)] rfl fun rest => TL_nil <| T_block ?_
 obtain ⟨s1, hL, Hc⟩ := bd_s H
 refine T_X [(.x 0, JQ we Se (G := List Int) (fun t6 => (⟨(mB (rowT eI j1) 3 b1 (t6) :: F), (G), [(3, iv (a3)), (9, .slice (some ⟨b1, 0, none⟩) j1 j1)]⟩ : Inv)) (fun t6 => t6 = s1 ∧ t6.length = j1))] ?_ ⟨?_, trivial⟩
 ·refine T_loop_s (G := Nat × Int × (List Int)) (s1 := _) (f := _) (k := fun (n2, i3, t5) => n2) (σ := fun (n2, i3, t5) => (i3, t5)) (fun (n2, i3, t5) => (⟨(mB (rowT eI j1) 3 b1 (t5) :: F), (fV (eS eI) (a1) va1 :: G), [(2, iv (a2)), (3, iv (a3)), (9, .slice (some ⟨b1, 0, none⟩) j1 j1), (21, va1), (22, iv ((a1.length : Nat) : Int)), (23, iv (i3))]⟩ : Inv)) (fun (n2, i3, t5) => InR i3 ∧ t5.length = j1) (fu, 0, t2) hL (And.intro (show InR (0) by decide) (copy_len ht2 (Nat.le_of_eq ((Nat.zero_add _).trans (rep_len ht1).symm)) (rep_len ht1))) rfl (fun w h => St.weak h (fun S w h => ⟨h.2.1, h.2.2⟩)) ?_
  rintro ⟨n2, i3, t5⟩ ⟨H, hr3, hz3⟩ rest
  rcases n2 with _ | n2
  ·exact (loopN_z H).elim
  replace H := loopN_s H
  unfold B_fpoly_sum_0 at H
  refine T_prune [(2, iv (a2)), (3, iv (a3)), (9, .slice (some ⟨b1, 0, none⟩) j1 j1), (21, va1), (22, iv ((a1.length : Nat) : Int)), (23, iv (i3))] rfl fun rest => T_weak (mB (rowT eI j1) 3 b1 (t5) :: F) (fV (eS eI) (a1) va1 :: G) (fun w h => h) <| T_seq ?_
  obtain ⟨s2, hL, Hc⟩ := bd_s H
  refine T_X [(.n, JQ we Se (G := Bool) (fun b2 => (⟨(mB (rowT eI j1) 3 b1 (t5) :: F), (fV (eS eI) (a1) va1 :: G), [(2, iv (a2)), (3, iv (a3)), (9, .slice (some ⟨b1, 0, none⟩) j1 j1), (21, va1), (22, iv ((a1.length : Nat) : Int)), (23, iv (i3)), (24, .bool (b2))]⟩ : Inv)) (fun b2 => b2 = s2))] ?_ ⟨?_, trivial⟩
  ·replace H := hL
   refine T_region <| TL_lss rfl rfl rfl rfl (fun h1 => ?_) (fun h1 => ?_)
   ·replace H := if_t h1 H
    refine TL_mv 0 [(2, iv (a2)), (3, iv (a3)), (9, .slice (some ⟨b1, 0, none⟩) j1 j1), (21, va1), (22, iv ((a1.length : Nat) : Int)), (23, iv (i3)), (24, .bool true)] rfl fun rest => TL_nil ?_
    exact JQ_mk true (Option.some.inj H) rfl (fun w h => St.weak h (fun S w h => ⟨h.1, h.2⟩))
   replace H := if_f h1 H
   refine TL_mv 0 [(2, iv (a2)), (3, iv (a3)), (9, .slice (some ⟨b1, 0, none⟩) j1 j1), (21, va1), (22, iv ((a1.length : Nat) : Int)), (23, iv (i3)), (24, .bool false)] rfl fun rest => TL_nil ?_
   exact JQ_mk false (Option.some.inj H) rfl (fun w h => St.weak h (fun S w h => ⟨h.1, h.2⟩))
  refine JQ_el' ?_
  rintro b2 hs rest
  subst hs
  replace H := Hc
  clear hL
  refine JG_to (ms' := (mB (rowT eI j1) 3 b1 (t5) :: F)) (Γ' := (fV (eS eI) (a1) va1 :: G)) (live' := [(2, iv (a2)), (3, iv (a3)), (9, .slice (some ⟨b1, 0, none⟩) j1 j1), (21, va1), (22, iv ((a1.length : Nat) : Int)), (23, iv (i3)), (24, .bool (b2))]) rfl <| T_seq <| T_cond (b2) rfl (fun hb1 => ?_) (fun hb1 => ?_)
  ·replace H := if_t hb1 H
   refine T_skip <| T_seq <| T_block <| T_seq <| T_region <| TL_mv 1 [(2, iv (a2)), (3, iv (a3)), (9, .slice (some ⟨b1, 0, none⟩) j1 j1), (21, va1), (22, iv ((a1.length : Nat) : Int)), (23, iv (i3)), (25, iv (i3))] rfl fun rest => ?_
   obtain ⟨j2, hj2, hlj2, H⟩ := ckI_s H
   obtain ⟨y1, hy1, H⟩ := nm_s H
   refine TL_step rfl rfl (oe_index (e := eI) (xs := a1) (k := j2) (y := y1) rfl (vi hj2) Tryz.underlying51 ty3 (getE (z := 0) hlj2 hy1) (fun S w h => h.1)) fun p1 _ => TL_step rfl rfl (oe_load_i64 (y := y1) rfl ty3 (fun S w h => h.1)) fun _ hv1 => TL_mv 2 [(2, iv (a2)), (3, iv (a3)), (9, .slice (some ⟨b1, 0, none⟩) j1 j1), (10, iv (i3)), (11, iv (y1)), (21, va1), (22, iv ((a1.length : Nat) : Int)), (23, iv (i3))] rfl fun rest => TL_nil <| T_region <| TL_mv 2 [(2, iv (a2)), (3, iv (a3)), (9, .slice (some ⟨b1, 0, none⟩) j1 j1), (11, iv (y1)), (21, va1), (22, iv ((a1.length : Nat) : Int)), (23, iv (i3)), (28, .slice (some ⟨b1, 0, none⟩) j1 j1), (29, iv (i3))] rfl fun rest => ?_
   obtain ⟨j3, hj3, hlj3, H⟩ := ckI_s H
   refine TL_val rfl rfl (r_index Tryz.underlying51 ty3 rfl (vi hj3) (k := j3) (lt_of_len hlj3 hz3)) ?_
   obtain ⟨y2, hy2, H⟩ := nm_s H
   refine TL_step rfl rfl (oe_loadM_i64 (z' := y2) 0 rfl rfl (Sub.rowT0 eI j1 (t5) j3 _ (getE (z := 0) (lt_of_len' (lt_of_len hlj3 hz3) hz3) hy2)) ty3) fun _ hv2 => TL_mv 2 [(2, iv (a2)), (3, iv (a3)), (9, .slice (some ⟨b1, 0, none⟩) j1 j1), (21, va1), (22, iv ((a1.length : Nat) : Int)), (23, iv (i3)), (28, .slice (some ⟨b1, 0, none⟩) j1 j1), (29, iv (i3)), (31, iv (y2)), (32, iv (a2)), (33, iv (y1))] rfl fun rest => ?_
   obtain ⟨x2, hx2, hrx2, H⟩ := ck64_s H
   refine TL_val rfl rfl (r_mul (c := x2) rfl rfl (w_x hx2 hrx2)) ?_
   obtain ⟨x3, hx3, hrx3, H⟩ := ck64_s H
   refine TL_val rfl rfl (r_add (c := x3) rfl rfl (w_x hx3 hrx3)) ?_
   obtain ⟨j4, hj4, hlj4, H⟩ := ckI_s H
   refine TL_val rfl rfl (r_index Tryz.underlying51 ty3 rfl (vi hj4) (k := j4) (lt_of_len hlj4 hz3)) ?_
   obtain ⟨t7, ht7, H⟩ := nm_s H
   refine TL_og rfl rfl (og_store' (f := eI) (y' := x3) (z2 := t7) 0 rfl rfl rfl (Sub.rowT0 eI j1 (t5) j4 _ (getD_some 0 (lt_of_len' (lt_of_len hlj4 hz3) hz3))) ty3 (fun S w h => (i64_fV hrx3)) ht7) fun _ _ => ?_
   show TL _ _ _ _ (mB (rowT eI j1) 3 b1 (t7) :: F) (fP eI (y1) p1 :: fV (eS eI) (a1) va1 :: G) _ _ _ _
   refine TL_mv 0 [(2, iv (a2)), (3, iv (a3)), (9, .slice (some ⟨b1, 0, none⟩) j1 j1), (21, va1), (22, iv ((a1.length : Nat) : Int)), (23, iv (i3))] rfl fun rest => TL_nil <| T_region ?_
   obtain ⟨x4, hx4, hrx4, H⟩ := ck64_s H
   refine TL_val rfl rfl (r_add (c := x4) rfl rfl (w_x hx4 hrx4)) <| TL_mv 1 [(2, iv (a2)), (3, iv (a3)), (9, .slice (some ⟨b1, 0, none⟩) j1 j1), (21, va1), (22, iv ((a1.length : Nat) : Int)), (23, iv (x4))] rfl fun rest => TL_nil ?_
   exact St_round_s (n2, x4, t7) H (And.intro hrx4 (set_len ht7 hz3)) (Nat.lt_succ_self _) rfl (fun w h => St.weak h (fun S w h => ⟨h.2.1, h.2.2⟩))
  replace H := ifb_f hb1 H
  refine T_exit ?_
  exact JQ_mk t5 (And.intro (Option.some.inj H) hz3) rfl (fun w h => St.weak h (fun S w h => h.2))
 refine JQ_el' ?_
 rintro t6 ⟨hs, hz4⟩ rest
 subst hs
 replace H := Hc
 clear hL
 refine JG_to (ms' := (mB (rowT eI j1) 3 b1 (t6) :: F)) (Γ' := (G)) (live' := [(3, iv (a3)), (9, .slice (some ⟨b1, 0, none⟩) j1 j1)]) rfl <| T_seq <| T_region <| TL_mv 2 [(38, .slice (some ⟨b1, 0, none⟩) j1 j1), (39, iv (a3))] rfl fun rest => TL_weak_st (fun w h => fz_all 0 h rfl hz4 (Nat.le_refl _) (mk_le (B := 8) (by decide) hk1)) ?_
 obtain ⟨t8, he1, H⟩ := bd_s H
 refine TL_og rfl rfl (og_callG (F := (F)) (by kernel_rfl) (c_fpoly_plain fu t6 ((.slice (some ⟨b1, 0, none⟩) j1 j1)) a3 qa3 t8 he1) rfl (fun S w h => ⟨h.1, trivial⟩)) fun u1 _ => ?_
 show TL _ _ _ _ (mO eI 3 u1 (t8) :: F) (fV (eS eI) (t6) ((.slice (some ⟨b1, 0, none⟩) j1 j1)) :: G) _ _ _ _
 refine TL_mv 1 [(8, u1)] rfl fun rest => TL_nil <| T_ret ?_
 obtain rfl := inj1 H
 intro w hw
 exact RetG (vs := [u1]) u1 Tryz.results236 (by exact ⟨rfl, trivial⟩) rfl trivial (St.weak hw (fun S w h => h.2))
theorem z_fpoly_sum (fu : Nat) (a0 : List Int) (va0 : Value) (a1 : List Int) (va1 : Value) (a2 : Int) (qa2 : InR a2) (a3 : Int) (qa3 : InR a3) (r0 : List Int) (H : M_fpoly_sum fu a0 a1 a2 a3 = some r0) : Fn Tryz.prog 236 [va0, va1, .int .i64 a2, .int .i64 a3].toArray [fV (eS eI) (a0) va0, fV (eS eI) (a1) va1] (fun u : Value => u) (fun u => [fV (eS eI) (r0) u]) (fun _ => True) :=
  FnG.frozen (c_fpoly_sum fu a0 va0 a1 va1 a2 qa2 a3 qa3 r0 H) fun u w we Se h => (fz_own 0 h rfl)
set_option maxRecDepth 100000 in
set_option maxHeartbeats 1000000 in
theorem c_fpoly_next (fu : Nat) (a0 : List (List Int)) (va0 : Value) (a1 : List (List Int)) (va1 : Value) (a2 : Int) (qa2 : InR a2) (r0 : List (List Int)) (H : M_fpoly_next fu a0 a1 a2 = some r0) : Fn Tryz.prog 188 [va0, va1, iv a2].toArray [fV (eA 3 (eS eI)) (a0) va0, fV (eA 3 (eS eI)) (a1) va1] (fun u : Value => u) (fun u => [fV (eA 3 (eS eI)) (r0) u]) (fun _ => True) := by
 unfold M_fpoly_next at H
 refine Fn_intro Tryz.func188 rfl rfl fun we Se rest => T_seq <| T_region <| TL_og rfl rfl (og_boxM (e := (eA 3 (eS eI))) (z := a0) rfl (fun S w h => h.1)) fun b1 _ => ?_
 show TL _ _ _ _ [mB (ERep.c (eA 3 (eS eI))) 161 b1 (a0)] [fV (eA 3 (eS eI)) (a0) va0, fV (eA 3 (eS eI)) (a1) va1] _ _ _ _
 refine TL_step rfl rfl (oe_box (e := (eA 3 (eS eI))) (z := a1) rfl (fun S w h => h.2.1)) fun p1 _ => TL_og rfl rfl (og_allocM (e := ERep.c (eA 3 (eS eI))) (z := (List.replicate 3 [])) ty161 (fun S w => z161 S w)) fun b2 _ => ?_
 show TL _ _ _ _ [mB (ERep.c (eA 3 (eS eI))) 161 b2 ((List.replicate 3 [])), mB (ERep.c (eA 3 (eS eI))) 161 b1 (a0)] [fP (eA 3 (eS eI)) (a1) p1, fV (eA 3 (eS eI)) (a0) va0, fV (eA 3 (eS eI)) (a1) va1] _ _ _ _
 refine TL_mv 0 [(2, iv (a2)), (3, .pointer (some ⟨b1, 0, none⟩)), (4, p1), (6, .pointer (some ⟨b2, 0, none⟩))] rfl fun rest => TL_nil <| T_seq <| T_region <| TL_alen 1 rfl fun ha1 => TL_val rfl rfl (r_indexA Tryz.underlying161 ty51 rfl rfl (k := 0) (by decide)) ?_
 obtain ⟨y1, hy1, H⟩ := nm_s H
 refine TL_step rfl rfl (oe_loadM (z' := y1) 1 rfl rfl (Sub.nth0 3 (eS eI) (a0) 0 _ (getE (z := ([])) (alt (by decide) ha1) hy1)) ty51) fun u1 _ => TL_pure (fun S w h => fP_alen h.2.1) fun ha2 => TL_step rfl rfl (oe_indexA Tryz.underlying161 ty51 rfl rfl (k := 0) (by decide) (Sub.nth 3 (eS eI) (a1) 0 _ (getD_some ([]) (alt (by decide) ha2))) (fun S w h => h.2.1)) fun p2 _ => TL_step rfl rfl (oe_load (e := (eS eI)) (y := a1.getD 0 ([])) rfl ty51 (fun S w h => h.1)) fun u2 _ => TL_mv 1 [(2, iv (a2)), (3, .pointer (some ⟨b1, 0, none⟩)), (4, p1), (6, .pointer (some ⟨b2, 0, none⟩)), (12, u1), (14, u2), (15, iv (a2))] rfl fun rest => ?_
 obtain ⟨⟨t1, t2⟩, he1, H⟩ := bd_s H
 refine TL_og rfl rfl (og_callG (F := [mB (ERep.c (eA 3 (eS eI))) 161 b2 ((List.replicate 3 [])), mB (ERep.c (eA 3 (eS eI))) 161 b1 (a0)]) (by kernel_rfl) (c_fpoly_divided fu y1 u1 (a1.getD 0 ([])) u2 a2 qa2 t1 t2 he1) rfl (fun S w h => ⟨h.2.2.1, h.1, trivial⟩)) fun ⟨u3, u4⟩ _ => ?_
 show TL _ _ _ _ [mO eI 3 u3 (t1), mO eI 3 u4 (t2), mB (ERep.c (eA 3 (eS eI))) 161 b2 ((List.replicate 3 [])), mB (ERep.c (eA 3 (eS eI))) 161 b1 (a0)] [fV (eS eI) (a1.getD 0 ([])) u2, fP (eS eI) (a1.getD 0 ([])) p2, fV (eS eI) (y1) u1, fP (eA 3 (eS eI)) (a1) p1, fV (eA 3 (eS eI)) (a0) va0, fV (eA 3 (eS eI)) (a1) va1] _ _ _ _
 refine TL_mv 5 [(2, iv (a2)), (3, .pointer (some ⟨b1, 0, none⟩)), (4, p1), (6, .pointer (some ⟨b2, 0, none⟩)), (7, u3)] rfl fun rest => TL_nil <| T_seq <| T_seq <| T_region <| TL_mv 1 [(2, iv (a2)), (3, .pointer (some ⟨b1, 0, none⟩)), (4, p1), (6, .pointer (some ⟨b2, 0, none⟩)), (7, u3), (19, iv 0)] rfl fun rest => ?_
 refine TL_nil <| T_block ?_
 obtain ⟨s1, hL, Hc⟩ := bd_s H
 refine T_X [(.x 0, JQ we Se (G := List (List Int)) (fun t9 => (⟨[mB (ERep.c (eA 3 (eS eI))) 161 b2 ((List.replicate 3 [])), mB (ERep.c (eA 3 (eS eI))) 161 b1 (t9)], [], [(3, .pointer (some ⟨b1, 0, none⟩)), (6, .pointer (some ⟨b2, 0, none⟩))]⟩ : Inv)) (fun t9 => t9 = s1))] ?_ ⟨?_, trivial⟩
 ·refine T_weak_st (fun w h => fz_own 0 h rfl) <| T_loop_s (G := Nat × (List Int) × Int × (List (List Int)) × Value) (s1 := _) (f := _) (k := fun (n1, t8, i3, t7, w3) => n1) (σ := fun (n1, t8, i3, t7, w3) => (t8, i3, t7)) (fun (n1, t8, i3, t7, w3) => (⟨[mB (ERep.c (eA 3 (eS eI))) 161 b2 ((List.replicate 3 [])), mB (ERep.c (eA 3 (eS eI))) 161 b1 (t7)], [fV (eS eI) (t8) w3, fP (eA 3 (eS eI)) (a1) p1], [(2, iv (a2)), (3, .pointer (some ⟨b1, 0, none⟩)), (4, p1), (6, .pointer (some ⟨b2, 0, none⟩)), (7, w3), (19, iv (i3))]⟩ : Inv)) (fun (n1, t8, i3, t7, w3) => InR i3) (fu, t1, 0, a0, u3) hL (show InR (0) by decide) rfl (fun w h => St.weak (St.drop (i := 0) h) (fun S w h => ⟨h.1, h.2.2.2.2.1, trivial⟩)) ?_
  rintro ⟨n1, t8, i3, t7, w3⟩ ⟨H, hr3⟩ rest
  rcases n1 with _ | n1
  ·exact (loopN_z H).elim
  replace H := loopN_s H
  unfold B_fpoly_next_0 at H
  refine T_prune [(2, iv (a2)), (3, .pointer (some ⟨b1, 0, none⟩)), (4, p1), (6, .pointer (some ⟨b2, 0, none⟩)), (7, w3), (19, iv (i3))] rfl fun rest => T_weak [mB (ERep.c (eA 3 (eS eI))) 161 b2 ((List.replicate 3 [])), mB (ERep.c (eA 3 (eS eI))) 161 b1 (t7)] [fV (eS eI) (t8) w3, fP (eA 3 (eS eI)) (a1) p1] (fun w h => h) <| T_seq <| T_region <| TL_lss rfl rfl rfl rfl (fun h1 => ?_) (fun h1 => ?_)
  ·replace H := if_t h1 H
   refine TL_mv 0 [(2, iv (a2)), (3, .pointer (some ⟨b1, 0, none⟩)), (4, p1), (6, .pointer (some ⟨b2, 0, none⟩)), (7, w3), (19, iv (i3)), (20, .bool true)] rfl fun rest => TL_nil <| T_seq <| T_cond_true rfl <| T_skip <| T_seq ?_
   refine T_block <| T_seq <| T_region <| TL_mv 2 [(2, iv (a2)), (3, .pointer (some ⟨b1, 0, none⟩)), (4, p1), (6, .pointer (some ⟨b2, 0, none⟩)), (7, w3), (9, iv (i3)), (19, iv (i3))] rfl fun rest => TL_nil ?_
   obtain ⟨j1, hj1, hlj1, H⟩ := ckI_s H
   refine T_alen 1 rfl fun ha3 => ?_
   obtain ⟨y2, hy2, H⟩ := nm_s H
   obtain ⟨j2, hj2, hlj2, H⟩ := ckI_s H
   refine T_fact (fun S w h => fP_alen h.2.1) fun ha4 => ?_
   obtain ⟨t10, he2, H⟩ := bd_s H
   obtain ⟨x1, hx1, hrx1, H⟩ := ck64_s H
   obtain ⟨t11, he3, H⟩ := bd_s H
   refine T_draw 14 [prE (fun _ : Unit => iv (i3)) (fun _ => []) (fun _ => InR i3), prE (fun _ : Unit => iv (i3)) (fun _ => []) (fun _ => InR i3), prV (.pointer (some ⟨b1, 0 + j1 * 1, none⟩)), prE (fun u : Value => u) (fun u => [fV (eS eI) (y2) u]) (fun _ => True), prV (w3), prE (fun _ : Unit => iv (i3)) (fun _ => []) (fun _ => InR i3), prE (fun u : Value => u) (fun u => [fP (eS eI) (a1.getD j2 ([])) u]) (fun _ => True), prE (fun u : Value => u) (fun u => [fV (eS eI) (a1.getD j2 ([])) u]) (fun _ => True), prE (fun _ : Unit => iv (a2)) (fun _ => []) (fun _ => InR a2), prE (fun u : Value => u) (fun u => [fV (eS eI) (t10) u]) (fun _ => True), prE (fun _ : Unit => iv (a2)) (fun _ => []) (fun _ => InR a2), prE (fun _ : Unit => iv (x1)) (fun _ => []) (fun _ => InR x1), prE (fun _ : Unit => iv (a2)) (fun _ => []) (fun _ => InR a2), prE (fun u : Value => u) (fun u => [fV (eS eI) (t11) u]) (fun _ => True)] [2, 3, 4, 6, 7, 19, 22, 35] rfl (by kernel_rfl) rfl (by kernel_rfl) ⟨?_, ?_, ?_, ?_, ?_, ?_, ?_, ?_, ?_, ?_, ?_, ?_, ?_, ?_, trivial⟩ ?_
   ·intro S w env hS hM hΓ hl
    obtain ⟨e9, _⟩ := hl
    exact ⟨fun _ => ob_VE (p := InR i3) (r_mv (e9.trans rfl)) hr3, fun hc => (by cases hc)⟩
   ·intro S w env hS hM hΓ hl
    obtain ⟨e9, _⟩ := hl
    exact ⟨fun _ => ob_VE (p := InR i3) (r_mv (e9.trans rfl)) hr3, fun hc => (by cases hc)⟩
   ·intro S w env hS hM hΓ hl
    obtain ⟨e3, ⟨_, e23, ho2, f23⟩, _⟩ := hl
    exact ⟨fun _ => ob_V (r_indexA Tryz.underlying161 ty51 (e3.trans rfl) (e23.trans (vi hj1)) (k := j1) hlj1), fun hc => (by cases hc)⟩
   ·intro S w env hS hM hΓ hl
    obtain ⟨e24, _⟩ := hl
    exact ⟨fun _ => ob_E (Γ := [fV (eS eI) (t8) w3, fP (eA 3 (eS eI)) (a1) p1]) (oe_loadM (z' := y2) 1 rfl e24 (Sub.nth0 3 (eS eI) (t7) j1 _ (getE (z := ([])) (alt hlj1 ha3) hy2)) ty51) hS hM hΓ, fun hc => (by cases hc)⟩
   ·intro S w env hS hM hΓ hl
    obtain ⟨e7, _⟩ := hl
    exact ⟨fun _ => ob_mv (e7.trans rfl), fun hc => (by cases hc)⟩
   ·intro S w env hS hM hΓ hl
    obtain ⟨e9, _⟩ := hl
    exact ⟨fun _ => ob_VE (p := InR i3) (r_mv (e9.trans rfl)) hr3, fun hc => (by cases hc)⟩
   ·intro S w env hS hM hΓ hl
    obtain ⟨e4, ⟨_, e27, ho3, f27⟩, _⟩ := hl
    exact ⟨fun _ => ob_E (Γ := [fV (eS eI) (t8) w3, fP (eA 3 (eS eI)) (a1) p1]) (oe_indexA Tryz.underlying161 ty51 (e4.trans rfl) (e27.trans (vi hj2)) (k := j2) hlj2 (Sub.nth 3 (eS eI) (a1) j2 _ (getD_some ([]) (alt hlj2 ha4))) (fun S w h => h.2.1)) hS hM hΓ, fun hc => (by cases hc)⟩
   ·intro S w env hS hM hΓ hl
    obtain ⟨⟨p3, e28, _, f28⟩, _⟩ := hl
    exact ⟨fun _ => ob_E (Γ := [fP (eS eI) (a1.getD j2 ([])) p3, fV (eS eI) (t8) w3, fP (eA 3 (eS eI)) (a1) p1]) (oe_load (e := (eS eI)) (y := a1.getD j2 ([])) e28 ty51 (fun S w h => h.1)) hS hM ⟨f28.1, hΓ⟩, fun hc => (by cases hc)⟩
   ·intro S w env hS hM hΓ hl
    obtain ⟨e2, _⟩ := hl
    exact ⟨fun _ => ob_VE (p := InR a2) (r_mv (e2.trans rfl)) qa2, fun hc => (by cases hc)⟩
   ·intro S w env hS hM hΓ hl
    obtain ⟨e26, ⟨u6, e29, _, f29⟩, ⟨_, e30, ho4, f30⟩, _⟩ := hl
    exact ⟨fun _ => ob_E (Γ := [fV (eS eI) (a1.getD j2 ([])) u6, fV (eS eI) (t8) w3, fP (eA 3 (eS eI)) (a1) p1]) (oe_call (by kernel_rfl) (z_fpoly_product fu t8 w3 (a1.getD j2 ([])) u6 a2 ho4 t10 he2) (la_cons e26 (la_cons e29 (la_cons e30 la_nil))) (fun S w h => ⟨h.2.1, h.1, trivial⟩)) hS hM ⟨f29.1, hΓ⟩, fun hc => (by cases hc)⟩
   ·intro S w env hS hM hΓ hl
    obtain ⟨e2, _⟩ := hl
    exact ⟨fun _ => ob_VE (p := InR a2) (r_mv (e2.trans rfl)) qa2, fun hc => (by cases hc)⟩
   ·intro S w env hS hM hΓ hl
    obtain ⟨⟨_, e32, ho5, f32⟩, _⟩ := hl
    exact ⟨fun _ => ob_VE (p := InR x1) (r_sub (c := x1) e32 rfl (w_x hx1 hrx1)) hrx1, fun hc => (by cases hc)⟩
   ·intro S w env hS hM hΓ hl
    obtain ⟨e2, _⟩ := hl
    exact ⟨fun _ => ob_VE (p := InR a2) (r_mv (e2.trans rfl)) qa2, fun hc => (by cases hc)⟩
   ·intro S w env hS hM hΓ hl
    obtain ⟨⟨u5, e25, _, f25⟩, ⟨u7, e31, _, f31⟩, ⟨_, e33, ho6, f33⟩, ⟨_, e34, ho7, f34⟩, _⟩ := hl
    exact ⟨fun _ => ob_E (Γ := [fV (eS eI) (y2) u5, fV (eS eI) (t10) u7, fV (eS eI) (t8) w3, fP (eA 3 (eS eI)) (a1) p1]) (oe_call (by kernel_rfl) (z_fpoly_sum fu y2 u5 t10 u7 x1 ho6 a2 ho7 t11 he3) (la_cons e25 (la_cons e31 (la_cons e33 (la_cons e34 la_nil)))) (fun S w h => ⟨h.1, h.2.1, trivial⟩)) hS hM ⟨f25.1, f31.1, hΓ⟩, fun hc => (by cases hc)⟩
   intro S w env hS hΓ hl
   obtain ⟨e2, e3, e4, e6, e7, e19, ⟨_, e22, ho1, f22⟩, ⟨u8, e35, _, f35⟩, _⟩ := hl
   refine ⟨[fV (eS eI) (t11) u8, fV (eS eI) (t8) w3, fP (eA 3 (eS eI)) (a1) p1], [(2, iv (a2)), (3, .pointer (some ⟨b1, 0, none⟩)), (4, p1), (6, .pointer (some ⟨b2, 0, none⟩)), (7, w3), (19, iv (i3)), (22, iv (i3)), (35, u8)], ⟨f35.1, hΓ⟩, (agr ⟨(e2.trans rfl), (e3.trans rfl), (e4.trans rfl), (e6.trans rfl), (e7.trans rfl), (e19.trans rfl), e22, e35, trivial⟩), fun rest => ?_⟩
   obtain ⟨j3, hj3, hlj3, H⟩ := ckI_s H
   refine TL_alen 1 rfl fun ha5 => TL_val rfl rfl (r_indexA Tryz.underlying161 ty51 rfl (vi hj3) (k := j3) hlj3) ?_
   obtain ⟨t12, ht12, H⟩ := nm_s H
   refine TL_og rfl rfl (og_store' (f := (eS eI)) (y' := t11) (z2 := t12) 1 rfl rfl rfl (Sub.nth0 3 (eS eI) (t7) j3 _ (getD_some ([]) (alt hlj3 ha5))) ty51 (fun S w h => h.1) ht12) fun _ _ => ?_
   show TL _ _ _ _ [mB (ERep.c (eA 3 (eS eI))) 161 b2 ((List.replicate 3 [])), mB (ERep.c (eA 3 (eS eI))) 161 b1 (t12)] [fV (eS eI) (t11) u8, fV (eS eI) (t8) w3, fP (eA 3 (eS eI)) (a1) p1] _ _ _ _
   refine TL_mv 0 [(2, iv (a2)), (3, .pointer (some ⟨b1, 0, none⟩)), (4, p1), (6, .pointer (some ⟨b2, 0, none⟩)), (7, w3), (19, iv (i3))] rfl fun rest => TL_nil <| T_region ?_
   obtain ⟨x2, hx2, hrx2, H⟩ := ck64_s H
   refine TL_val rfl rfl (r_add (c := x2) rfl rfl (w_x hx2 hrx2)) <| TL_mv 1 [(2, iv (a2)), (3, .pointer (some ⟨b1, 0, none⟩)), (4, p1), (6, .pointer (some ⟨b2, 0, none⟩)), (7, w3), (19, iv (x2))] rfl fun rest => TL_nil ?_
   exact St_round_s (n1, t8, x2, t12, w3) H hrx2 (Nat.lt_succ_self _) rfl (fun w h => St.weak h (fun S w h => ⟨h.2.1, h.2.2.1, trivial⟩))
  replace H := if_f h1 H
  refine TL_mv 0 [(2, iv (a2)), (3, .pointer (some ⟨b1, 0, none⟩)), (4, p1), (6, .pointer (some ⟨b2, 0, none⟩)), (7, w3), (19, iv (i3)), (20, .bool false)] rfl fun rest => TL_nil <| T_seq <| T_cond_false rfl <| T_exit ?_
  exact JQ_mk t7 (Option.some.inj H) rfl (fun w h => St.weak h (fun S w h => trivial))
 refine JQ_el' ?_
 rintro t9 hs rest
 subst hs
 replace H := Hc
 clear hL
 refine JG_to (ms' := [mB (ERep.c (eA 3 (eS eI))) 161 b2 ((List.replicate 3 [])), mB (ERep.c (eA 3 (eS eI))) 161 b1 (t9)]) (Γ' := []) (live' := [(3, .pointer (some ⟨b1, 0, none⟩)), (6, .pointer (some ⟨b2, 0, none⟩))]) rfl <| T_seq <| T_region <| TL_step rfl rfl (oe_loadM (z' := t9) 1 rfl rfl (Sub.self (eA 3 (eS eI)) (t9)) ty161) fun u9 _ => TL_og rfl rfl (og_store' (f := (eA 3 (eS eI))) (y' := t9) (z2 := t9) 0 rfl rfl rfl (Sub.self (eA 3 (eS eI)) ((List.replicate 3 []))) ty161 (fun S w h => h.1) rfl) fun _ _ => ?_
 show TL _ _ _ _ [mB (ERep.c (eA 3 (eS eI))) 161 b2 (t9), mB (ERep.c (eA 3 (eS eI))) 161 b1 (t9)] [fV (eA 3 (eS eI)) (t9) u9] _ _ _ _
 refine TL_mv 0 [(6, .pointer (some ⟨b2, 0, none⟩))] rfl fun rest => TL_nil <| T_ret ?_
 obtain rfl := inj1 H
 intro w hw
 change RetQ _ _ _ _ _ _ _ .ret _ w
 refine Ret_cN (e := (eA 3 (eS eI))) (z := t9) 6 0 hw rfl (by exact rfl) ty161 fun r_1 hw hr_1 => ?_
 exact RetN (vs := [r_1]) r_1 Tryz.results188 (by exact ⟨hr_1, trivial⟩) rfl trivial hw (fun S w h => ⟨h.1, trivial⟩)
set_option maxRecDepth 100000 in
set_option maxHeartbeats 1000000 in
theorem c_fpoly_scaled (fu : Nat) (a0 : List Int) (va0 : Value) (a1 : Int) (qa1 : InR a1) (a2 : Int) (qa2 : InR a2) (r0 : List Int) (H : M_fpoly_scaled fu a0 a1 a2 = some r0) : FnG Tryz.prog 189 [va0, iv a1, iv a2].toArray [] [fV (eS eI) (a0) va0] (fun u : Value => u) (fun u => [mO eI 3 u (r0)]) (fun u => []) (fun _ => True) := by
 unfold M_fpoly_scaled at H
 refine FnG_intro Tryz.func189 rfl rfl fun we Se F G rest => T_seq <| T_region <| TL_mv 1 [(0, va0), (1, iv (a1)), (2, iv (a2))] rfl fun rest => TL_nil <| T_seq ?_
 refine T_region <| TL_mv 2 [(0, va0), (2, iv (a2)), (10, iv (a1)), (11, iv (a2))] rfl fun rest => ?_
 obtain ⟨⟨x1, x2⟩, he1, H⟩ := bd_s H
 refine TL_step rfl rfl (oe_call (by kernel_rfl) (c_fp_Inv fu a1 qa1 a2 qa2 x1 x2 he1) rfl (fun S w h => trivial)) fun _ hk1 => TL_mv 5 [(0, va0), (2, iv (a2)), (7, iv (x1))] rfl fun rest => TL_nil <| T_seq <| T_region <| TL_mv 2 [(2, iv (a2)), (15, va0), (16, iv (x1))] rfl fun rest => ?_
 refine TL_step rfl rfl (oe_lit (e := eI) (zs := [x1]) Tryz.underlying51 ty3 (by decide) rfl (by decide) (vs := [(0, iv (x1))]) rfl (fun S w h => (by refine fill_eq eI ?_; exact ⟨fV_sz (S := S) (w := w) (i64_fV hk1.1), trivial⟩)) (fun S w h => (elems_one (i64_fV hk1.1)))) fun u1 _ => ?_
 refine TL_mv 1 [(15, va0), (17, u1), (18, iv (a2))] rfl fun rest => ?_
 obtain ⟨t1, he2, H⟩ := bd_s H
 refine TL_og rfl rfl (og_callG (F := (F)) (by kernel_rfl) (c_fpoly_product fu a0 va0 [x1] u1 a2 qa2 t1 he2) rfl (fun S w h => ⟨h.2.1, h.1, trivial⟩)) fun u2 _ => ?_
 show TL _ _ _ _ (mO eI 3 u2 (t1) :: F) (fV (eS eI) ([x1]) u1 :: fV (eS eI) (a0) va0 :: G) _ _ _ _
 refine TL_mv 1 [(6, u2)] rfl fun rest => TL_nil <| T_ret ?_
 obtain rfl := inj1 H
 intro w hw
 exact RetG (vs := [u2]) u2 Tryz.results189 (by exact ⟨rfl, trivial⟩) rfl trivial (St.weak hw (fun S w h => h.2.2))
set_option maxRecDepth 100000 in
set_option maxHeartbeats 1000000 in
theorem c_fpoly_Bezout (fu : Nat) (a0 : List Int) (va0 : Value) (a1 : List Int) (va1 : Value) (a2 : Int) (qa2 : InR a2) (r0 : List Int) (r1 : List Int) (r2 : List Int) (r3 : Int) (H : M_fpoly_Bezout fu a0 a1 a2 = some (r0, r1, r2, r3)) : Fn Tryz.prog 132 [va0, va1, iv a2].toArray [fV (eS eI) (a0) va0, fV (eS eI) (a1) va1] (fun u : Value × Value × Value => .tuple #[u.1, u.2.1, u.2.2, iv (r3)]) (fun u => [fV (eS eI) (r0) u.1, fV (eS eI) (r1) u.2.1, fV (eS eI) (r2) u.2.2]) (fun _ => InR r3) := by
 unfold M_fpoly_Bezout at H
 refine Fn_intro Tryz.func132 rfl rfl fun we Se rest => T_seq <| T_region <| TL_mv 4 [(0, va0), (1, va1), (2, iv (a2))] rfl fun rest => TL_nil <| T_seq ?_
 refine T_seq <| T_region <| TL_mv 1 [(0, va0), (1, va1), (2, iv (a2)), (16, iv (a2))] rfl fun rest => ?_
 obtain ⟨x1, he1, H⟩ := bd_s H
 refine TL_step rfl rfl (oe_call (by kernel_rfl) (c_fp_Check fu a2 qa2 x1 he1) rfl (fun S w h => trivial)) fun _ hk1 => TL_mv 1 [(0, va0), (1, va1), (2, iv (a2)), (10, iv (x1))] rfl fun rest => TL_nil <| T_seq <| T_region <| TL_mv 1 [(0, va0), (1, va1), (2, iv (a2)), (10, iv (x1)), (18, iv (x1))] rfl fun rest => ?_
 refine TL_neq rfl rfl rfl rfl (fun h1 => ?_) (fun h1 => ?_)
 ·replace H := if_f h1 H
  refine TL_mv 0 [(0, va0), (1, va1), (2, iv (a2)), (10, iv (x1)), (19, .bool true)] rfl fun rest => TL_nil <| T_cond_true rfl <| T_seq <| T_region <| TL_mv 5 [(6, .slice none 0 0), (7, .slice none 0 0), (8, .slice none 0 0), (9, iv (x1))] rfl fun rest => ?_
  refine TL_nil <| T_ret ?_
  obtain ⟨rfl, rfl, rfl, rfl⟩ := inj4 H
  exact Ret2 (t := 6) (t' := 7) (ts := [8, 9]) ((.slice none 0 0 : Value), (.slice none 0 0 : Value), (.slice none 0 0 : Value)) Tryz.results132 rfl hk1 (fun S w h => ⟨nil_fV, nil_fV, nil_fV, trivial⟩)
 replace H := if_t h1 H
 refine TL_mv 0 [(0, va0), (1, va1), (2, iv (a2)), (10, iv (x1)), (19, .bool false)] rfl fun rest => TL_nil <| T_cond_false rfl <| T_skip <| T_seq <| T_region ?_
 refine TL_mv 2 [(1, va1), (2, iv (a2)), (21, va0), (22, iv (a2))] rfl fun rest => ?_
 obtain ⟨t1, he2, H⟩ := bd_s H
 refine TL_og rfl rfl (og_callG (F := []) (by kernel_rfl) (c_fpoly_plain fu a0 va0 a2 qa2 t1 he2) rfl (fun S w h => ⟨h.1, trivial⟩)) fun u1 _ => ?_
 show TL _ _ _ _ [mO eI 3 u1 (t1)] [fV (eS eI) (a0) va0, fV (eS eI) (a1) va1] _ _ _ _
 refine TL_step rfl rfl (oe_lit (e := eI) (zs := [1]) Tryz.underlying51 ty3 (by decide) rfl (by decide) (vs := [(0, iv 1)]) rfl (fun S w h => (by refine fill_eq eI ?_; exact ⟨fV_sz (S := S) (w := w) (i64_fV (show InR (1) by decide)), trivial⟩)) (fun S w h => (elems_one (i64_fV (show InR (1) by decide))))) fun u2 _ => ?_
 refine TL_weak_st (fun w h => fz_own 0 h rfl) <| TL_step rfl rfl (oe_build (e := (eA 3 (eS eI))) (z := [t1, [1], []]) ty161 rfl rfl (vs := [(0, u1), (1, u2), (2, .slice none 0 0)]) rfl (.inr ⟨_, _, _, _, _, _, Tryz.underlying161, ty51, fun S w h => (by refine fill_eq (eS eI) ?_; exact ⟨fV_sz (S := S) (w := w) h.1, fV_sz (S := S) (w := w) h.2.1, fV_sz (S := S) (w := w) nil_fV, trivial⟩)⟩) (fun S w h => ⟨rfl, (elems_cons h.1 (elems_cons h.2.1 (elems_one nil_fV)))⟩)) fun u4 _ => ?_
 refine TL_mv 2 [(2, iv (a2)), (25, u4), (26, va1), (27, iv (a2))] rfl fun rest => ?_
 obtain ⟨t2, he3, H⟩ := bd_s H
 refine TL_og rfl rfl (og_callG (F := []) (by kernel_rfl) (c_fpoly_plain fu a1 va1 a2 qa2 t2 he3) rfl (fun S w h => ⟨h.2.2.2.2.1, trivial⟩)) fun u5 _ => ?_
 show TL _ _ _ _ [mO eI 3 u5 (t2)] [fV (eA 3 (eS eI)) ([t1, [1], []]) u4, fV (eS eI) (t1) u1, fV (eS eI) ([1]) u2, fV (eS eI) (a0) va0, fV (eS eI) (a1) va1] _ _ _ _
 refine TL_step rfl rfl (oe_lit (e := eI) (zs := [1]) Tryz.underlying51 ty3 (by decide) rfl (by decide) (vs := [(0, iv 1)]) rfl (fun S w h => (by refine fill_eq eI ?_; exact ⟨fV_sz (S := S) (w := w) (i64_fV (show InR (1) by decide)), trivial⟩)) (fun S w h => (elems_one (i64_fV (show InR (1) by decide))))) fun u6 _ => ?_
 refine TL_weak_st (fun w h => fz_own 0 h rfl) <| TL_step rfl rfl (oe_build (e := (eA 3 (eS eI))) (z := [t2, [], [1]]) ty161 rfl rfl (vs := [(0, u5), (1, .slice none 0 0), (2, u6)]) rfl (.inr ⟨_, _, _, _, _, _, Tryz.underlying161, ty51, fun S w h => (by refine fill_eq (eS eI) ?_; exact ⟨fV_sz (S := S) (w := w) h.1, fV_sz (S := S) (w := w) nil_fV, fV_sz (S := S) (w := w) h.2.1, trivial⟩)⟩) (fun S w h => ⟨rfl, (elems_cons h.1 (elems_cons nil_fV (elems_one h.2.1)))⟩)) fun u8 _ => ?_
 refine TL_og rfl rfl (og_allocM (e := ERep.c (eA 3 (eS eI))) (z := (List.replicate 3 [])) ty161 (fun S w => z161 S w)) fun b1 _ => ?_
 show TL _ _ _ _ [mB (ERep.c (eA 3 (eS eI))) 161 b1 ((List.replicate 3 []))] [fV (eA 3 (eS eI)) ([t2, [], [1]]) u8, fV (eS eI) (t2) u5, fV (eS eI) ([1]) u6, fV (eA 3 (eS eI)) ([t1, [1], []]) u4, fV (eS eI) (t1) u1, fV (eS eI) ([1]) u2, fV (eS eI) (a0) va0, fV (eS eI) (a1) va1] _ _ _ _
 refine TL_og rfl rfl (og_allocM (e := ERep.c (eA 3 (eS eI))) (z := (List.replicate 3 [])) ty161 (fun S w => z161 S w)) fun b2 _ => ?_
 show TL _ _ _ _ [mB (ERep.c (eA 3 (eS eI))) 161 b2 ((List.replicate 3 [])), mB (ERep.c (eA 3 (eS eI))) 161 b1 ((List.replicate 3 []))] [fV (eA 3 (eS eI)) ([t2, [], [1]]) u8, fV (eS eI) (t2) u5, fV (eS eI) ([1]) u6, fV (eA 3 (eS eI)) ([t1, [1], []]) u4, fV (eS eI) (t1) u1, fV (eS eI) ([1]) u2, fV (eS eI) (a0) va0, fV (eS eI) (a1) va1] _ _ _ _
 refine TL_og rfl rfl (og_store' (f := (eA 3 (eS eI))) (y' := [t1, [1], []]) (z2 := [t1, [1], []]) 1 rfl rfl rfl (Sub.self (eA 3 (eS eI)) ((List.replicate 3 []))) ty161 (fun S w h => h.2.2.2.1) rfl) fun _ _ => ?_
 show TL _ _ _ _ [mB (ERep.c (eA 3 (eS eI))) 161 b2 ((List.replicate 3 [])), mB (ERep.c (eA 3 (eS eI))) 161 b1 ([t1, [1], []])] [fV (eA 3 (eS eI)) ([t2, [], [1]]) u8, fV (eS eI) (t2) u5, fV (eS eI) ([1]) u6, fV (eA 3 (eS eI)) ([t1, [1], []]) u4, fV (eS eI) (t1) u1, fV (eS eI) ([1]) u2, fV (eS eI) (a0) va0, fV (eS eI) (a1) va1] _ _ _ _
 refine TL_og rfl rfl (og_store' (f := (eA 3 (eS eI))) (y' := [t2, [], [1]]) (z2 := [t2, [], [1]]) 0 rfl rfl rfl (Sub.self (eA 3 (eS eI)) ((List.replicate 3 []))) ty161 (fun S w h => h.1) rfl) fun _ _ => ?_
 show TL _ _ _ _ [mB (ERep.c (eA 3 (eS eI))) 161 b2 ([t2, [], [1]]), mB (ERep.c (eA 3 (eS eI))) 161 b1 ([t1, [1], []])] [fV (eA 3 (eS eI)) ([t2, [], [1]]) u8, fV (eS eI) (t2) u5, fV (eS eI) ([1]) u6, fV (eA 3 (eS eI)) ([t1, [1], []]) u4, fV (eS eI) (t1) u1, fV (eS eI) ([1]) u2, fV (eS eI) (a0) va0, fV (eS eI) (a1) va1] _ _ _ _
 refine TL_mv 0 [(2, iv (a2)), (11, .pointer (some ⟨b1, 0, none⟩)), (12, .pointer (some ⟨b2, 0, none⟩))] rfl fun rest => TL_sel [] (fun S w h => trivial) <| TL_nil <| T_seq <| T_block ?_
 obtain ⟨s1, hL, Hc⟩ := bd_s H
 refine T_X [(.x 0, JQ we Se (G := List (List Int)) (fun t10 => (⟨[mB (ERep.c (eA 3 (eS eI))) 161 b1 (t10)], [], [(2, iv (a2)), (11, .pointer (some ⟨b1, 0, none⟩))]⟩ : Inv)) (fun t10 => t10 = s1))] ?_ ⟨?_, trivial⟩
 ·refine T_loop_s (G := Nat × (List (List Int)) × (List (List Int))) (s1 := _) (f := _) (k := fun (n1, t7, t8) => n1) (σ := fun (n1, t7, t8) => (t7, t8)) (fun (n1, t7, t8) => (⟨[mB (ERep.c (eA 3 (eS eI))) 161 b2 (t7), mB (ERep.c (eA 3 (eS eI))) 161 b1 (t8)], [], [(2, iv (a2)), (11, .pointer (some ⟨b1, 0, none⟩)), (12, .pointer (some ⟨b2, 0, none⟩))]⟩ : Inv)) (fun (n1, t7, t8) => True) (fu, [t2, [], [1]], [t1, [1], []]) hL trivial rfl (fun w h => St.weak h (fun S w h => trivial)) ?_
  rintro ⟨n1, t7, t8⟩ ⟨H, _⟩ rest
  rcases n1 with _ | n1
  ·exact (loopN_z H).elim
  replace H := loopN_s H
  unfold B_fpoly_Bezout_0 at H
  refine T_prune [(2, iv (a2)), (11, .pointer (some ⟨b1, 0, none⟩)), (12, .pointer (some ⟨b2, 0, none⟩))] rfl fun rest => T_weak [mB (ERep.c (eA 3 (eS eI))) 161 b2 (t7), mB (ERep.c (eA 3 (eS eI))) 161 b1 (t8)] [] (fun w h => h) <| T_seq <| T_seq <| T_region <| TL_alen 0 rfl fun ha1 => ?_
  refine TL_val rfl rfl (r_indexA Tryz.underlying161 ty51 rfl rfl (k := 0) (by decide)) ?_
  obtain ⟨y1, hy1, H⟩ := nm_s H
  refine TL_step rfl rfl (oe_loadM (z' := y1) 0 rfl rfl (Sub.nth0 3 (eS eI) (t7) 0 _ (getE (z := ([])) (alt (by decide) ha1) hy1)) ty51) fun u9 _ => TL_step rfl rfl (oe_len (e := eI) (xs := y1) Tryz.underlying51 rfl (fun S w h => h.1)) fun _ hl1 => TL_gtr rfl rfl rfl rfl (fun h2 => ?_) (fun h2 => ?_)
  ·replace H := if_t h2 H
   refine TL_mv 0 [(2, iv (a2)), (11, .pointer (some ⟨b1, 0, none⟩)), (12, .pointer (some ⟨b2, 0, none⟩)), (34, .bool true)] rfl fun rest => TL_nil <| T_cond_true rfl <| T_skip <| T_block ?_
   obtain ⟨t11, he4, H⟩ := bd_s H
   refine T_draw 5 [prE (fun u : Value => u) (fun u => [fV (eA 3 (eS eI)) (t7) u]) (fun _ => True), prE (fun u : Value => u) (fun u => [fV (eA 3 (eS eI)) (t8) u]) (fun _ => True), prE (fun u : Value => u) (fun u => [fV (eA 3 (eS eI)) (t7) u]) (fun _ => True), prE (fun _ : Unit => iv (a2)) (fun _ => []) (fun _ => InR a2), prE (fun u : Value => u) (fun u => [fV (eA 3 (eS eI)) (t11) u]) (fun _ => True)] [2, 11, 12, 35, 39] rfl (by kernel_rfl) rfl (by kernel_rfl) ⟨?_, ?_, ?_, ?_, ?_, trivial⟩ ?_
   ·intro S w env hS hM hΓ hl
    obtain ⟨e12, _⟩ := hl
    exact ⟨fun _ => ob_E (Γ := [fV (eS eI) (y1) u9]) (oe_loadM (z' := t7) 0 rfl (e12.trans rfl) (Sub.self (eA 3 (eS eI)) (t7)) ty161) hS hM hΓ, fun hc => (by cases hc)⟩
   ·intro S w env hS hM hΓ hl
    obtain ⟨e11, _⟩ := hl
    exact ⟨fun _ => ob_E (Γ := [fV (eS eI) (y1) u9]) (oe_loadM (z' := t8) 1 rfl (e11.trans rfl) (Sub.self (eA 3 (eS eI)) (t8)) ty161) hS hM hΓ, fun hc => (by cases hc)⟩
   ·intro S w env hS hM hΓ hl
    obtain ⟨e12, _⟩ := hl
    exact ⟨fun _ => ob_E (Γ := [fV (eS eI) (y1) u9]) (oe_loadM (z' := t7) 0 rfl (e12.trans rfl) (Sub.self (eA 3 (eS eI)) (t7)) ty161) hS hM hΓ, fun hc => (by cases hc)⟩
   ·intro S w env hS hM hΓ hl
    obtain ⟨e2, _⟩ := hl
    exact ⟨fun _ => ob_VE (p := InR a2) (r_mv (e2.trans rfl)) qa2, fun hc => (by cases hc)⟩
   ·intro S w env hS hM hΓ hl
    obtain ⟨⟨u11, e36, _, f36⟩, ⟨u12, e37, _, f37⟩, ⟨_, e38, ho1, f38⟩, _⟩ := hl
    exact ⟨fun _ => ob_E (Γ := [fV (eA 3 (eS eI)) (t8) u11, fV (eA 3 (eS eI)) (t7) u12, fV (eS eI) (y1) u9]) (oe_call (by kernel_rfl) (c_fpoly_next fu t8 u11 t7 u12 a2 ho1 t11 he4) (la_cons e36 (la_cons e37 (la_cons e38 la_nil))) (fun S w h => ⟨h.1, h.2.1, trivial⟩)) hS hM ⟨f36.1, f37.1, hΓ⟩, fun hc => (by cases hc)⟩
   intro S w env hS hΓ hl
   obtain ⟨e2, e11, e12, ⟨u10, e35, _, f35⟩, ⟨u13, e39, _, f39⟩, _⟩ := hl
   refine ⟨[fV (eA 3 (eS eI)) (t7) u10, fV (eA 3 (eS eI)) (t11) u13, fV (eS eI) (y1) u9], [(2, iv (a2)), (11, .pointer (some ⟨b1, 0, none⟩)), (12, .pointer (some ⟨b2, 0, none⟩)), (35, u10), (39, u13)], ⟨f35.1, f39.1, hΓ⟩, (agr ⟨(e2.trans rfl), (e11.trans rfl), (e12.trans rfl), e35, e39, trivial⟩), fun rest => ?_⟩
   refine TL_og rfl rfl (og_store' (f := (eA 3 (eS eI))) (y' := t7) (z2 := t7) 1 rfl rfl rfl (Sub.self (eA 3 (eS eI)) (t8)) ty161 (fun S w h => h.1) rfl) fun _ _ => ?_
   show TL _ _ _ _ [mB (ERep.c (eA 3 (eS eI))) 161 b2 (t7), mB (ERep.c (eA 3 (eS eI))) 161 b1 (t7)] [fV (eA 3 (eS eI)) (t7) u10, fV (eA 3 (eS eI)) (t11) u13, fV (eS eI) (y1) u9] _ _ _ _
   refine TL_og rfl rfl (og_store' (f := (eA 3 (eS eI))) (y' := t11) (z2 := t11) 0 rfl rfl rfl (Sub.self (eA 3 (eS eI)) (t7)) ty161 (fun S w h => h.2.1) rfl) fun _ _ => ?_
   show TL _ _ _ _ [mB (ERep.c (eA 3 (eS eI))) 161 b2 (t11), mB (ERep.c (eA 3 (eS eI))) 161 b1 (t7)] [fV (eA 3 (eS eI)) (t7) u10, fV (eA 3 (eS eI)) (t11) u13, fV (eS eI) (y1) u9] _ _ _ _
   refine TL_mv 0 [(2, iv (a2)), (11, .pointer (some ⟨b1, 0, none⟩)), (12, .pointer (some ⟨b2, 0, none⟩))] rfl fun rest => TL_nil ?_
   exact St_round_s (n1, t11, t7) H trivial (Nat.lt_succ_self _) rfl (fun w h => St.weak h (fun S w h => trivial))
  replace H := if_f h2 H
  refine TL_mv 0 [(2, iv (a2)), (11, .pointer (some ⟨b1, 0, none⟩)), (12, .pointer (some ⟨b2, 0, none⟩)), (34, .bool false)] rfl fun rest => TL_nil <| T_cond_false rfl <| T_exit ?_
  exact JQ_mk t8 (Option.some.inj H) rfl (fun w h => St.weak (St.drop (i := 0) h) (fun S w h => trivial))
 refine JQ_el' ?_
 rintro t10 hs rest
 subst hs
 replace H := Hc
 clear hL
 refine JG_to (ms' := [mB (ERep.c (eA 3 (eS eI))) 161 b1 (t10)]) (Γ' := []) (live' := [(2, iv (a2)), (11, .pointer (some ⟨b1, 0, none⟩))]) rfl <| T_seq <| T_seq <| T_region <| TL_alen 0 rfl fun ha2 => TL_val rfl rfl (r_indexA Tryz.underlying161 ty51 rfl rfl (k := 0) (by decide)) ?_
 obtain ⟨y2, hy2, H⟩ := nm_s H
 refine TL_step rfl rfl (oe_loadM (z' := y2) 0 rfl rfl (Sub.nth0 3 (eS eI) (t10) 0 _ (getE (z := ([])) (alt (by decide) ha2) hy2)) ty51) fun u14 _ => TL_step rfl rfl (oe_len (e := eI) (xs := y2) Tryz.underlying51 rfl (fun S w h => h.1)) fun _ hl2 => TL_mv 1 [(2, iv (a2)), (11, .pointer (some ⟨b1, 0, none⟩)), (13, iv ((y2.length : Nat) : Int))] rfl fun rest => TL_nil <| T_seq ?_
 obtain ⟨s2, hL, Hc⟩ := bd_s H
 refine T_X [(.n, JQ we Se (G := Bool) (fun b3 => (⟨[mB (ERep.c (eA 3 (eS eI))) 161 b1 (t10)], [], [(2, iv (a2)), (11, .pointer (some ⟨b1, 0, none⟩)), (13, iv ((y2.length : Nat) : Int)), (44, .bool (b3))]⟩ : Inv)) (fun b3 => b3 = s2))] ?_ ⟨?_, trivial⟩
 ·replace H := hL
  refine T_region <| TL_mv 1 [(2, iv (a2)), (11, .pointer (some ⟨b1, 0, none⟩)), (13, iv ((y2.length : Nat) : Int)), (43, iv ((y2.length : Nat) : Int))] rfl fun rest => TL_gtr rfl rfl rfl rfl (fun h3 => ?_) (fun h3 => ?_)
  ·replace H := if_t h3 H
   refine TL_mv 0 [(2, iv (a2)), (11, .pointer (some ⟨b1, 0, none⟩)), (13, iv ((y2.length : Nat) : Int)), (44, .bool true)] rfl fun rest => TL_nil ?_
   exact JQ_mk true (Option.some.inj H) rfl (fun w h => St.weak h (fun S w h => trivial))
  replace H := if_f h3 H
  refine TL_mv 0 [(2, iv (a2)), (11, .pointer (some ⟨b1, 0, none⟩)), (13, iv ((y2.length : Nat) : Int)), (44, .bool false)] rfl fun rest => TL_nil ?_
  exact JQ_mk false (Option.some.inj H) rfl (fun w h => St.weak h (fun S w h => trivial))
 refine JQ_el' ?_
 rintro b3 hs rest
 subst hs
 replace H := Hc
 clear hL
 refine JG_to (ms' := [mB (ERep.c (eA 3 (eS eI))) 161 b1 (t10)]) (Γ' := []) (live' := [(2, iv (a2)), (11, .pointer (some ⟨b1, 0, none⟩)), (13, iv ((y2.length : Nat) : Int)), (44, .bool (b3))]) rfl <| T_cond (b3) rfl (fun hb1 => ?_) (fun hb1 => ?_)
 ·replace H := if_t hb1 H
  refine T_seq <| T_region <| TL_alen 0 rfl fun ha3 => TL_val rfl rfl (r_indexA Tryz.underlying161 ty51 rfl rfl (k := 0) (by decide)) ?_
  obtain ⟨y3, hy3, H⟩ := nm_s H
  refine TL_step rfl rfl (oe_loadM (z' := y3) 0 rfl rfl (Sub.nth0 3 (eS eI) (t10) 0 _ (getE (z := ([])) (alt (by decide) ha3) hy3)) ty51) fun u15 _ => TL_mv 1 [(2, iv (a2)), (11, .pointer (some ⟨b1, 0, none⟩)), (46, u15), (47, iv ((y2.length : Nat) : Int))] rfl fun rest => ?_
  obtain ⟨x2, hx2, hrx2, H⟩ := ck64_s H
  refine TL_val rfl rfl (r_sub (c := x2) rfl rfl (w_x hx2 hrx2)) ?_
  obtain ⟨j1, hj1, hlj1, H⟩ := ckI_s H
  obtain ⟨y4, hy4, H⟩ := nm_s H
  refine TL_step rfl rfl (oe_index (e := eI) (xs := y3) (k := j1) (y := y4) rfl (vi hj1) Tryz.underlying51 ty3 (getE (z := 0) hlj1 hy4) (fun S w h => h.1)) fun p1 _ => TL_step rfl rfl (oe_load_i64 (y := y4) rfl ty3 (fun S w h => h.1)) fun _ hv1 => TL_mv 1 [(2, iv (a2)), (11, .pointer (some ⟨b1, 0, none⟩)), (14, iv (y4))] rfl fun rest => TL_nil <| T_seq <| T_region ?_
  refine TL_mv 1 [(2, iv (a2)), (11, .pointer (some ⟨b1, 0, none⟩)), (14, iv (y4)), (51, iv 0)] rfl fun rest => TL_nil <| T_block ?_
  obtain ⟨s3, hL, Hc⟩ := bd_s H
  refine T_X [(.x 2, JQ we Se (G := List (List Int)) (fun t15 => (⟨[mB (ERep.c (eA 3 (eS eI))) 161 b1 (t15)], [], [(11, .pointer (some ⟨b1, 0, none⟩))]⟩ : Inv)) (fun t15 => t15 = s3))] ?_ ⟨?_, trivial⟩
  ·refine T_loop_s (G := Nat × Int × (List (List Int))) (s1 := _) (f := _) (k := fun (n2, i3, t14) => n2) (σ := fun (n2, i3, t14) => (i3, t14)) (fun (n2, i3, t14) => (⟨[mB (ERep.c (eA 3 (eS eI))) 161 b1 (t14)], [], [(2, iv (a2)), (11, .pointer (some ⟨b1, 0, none⟩)), (14, iv (y4)), (51, iv (i3))]⟩ : Inv)) (fun (n2, i3, t14) => InR i3) (fu, 0, t10) hL (show InR (0) by decide) rfl (fun w h => St.weak h (fun S w h => trivial)) ?_
   rintro ⟨n2, i3, t14⟩ ⟨H, hr3⟩ rest
   rcases n2 with _ | n2
   ·exact (loopN_z H).elim
   replace H := loopN_s H
   unfold B_fpoly_Bezout_1 at H
   refine T_prune [(2, iv (a2)), (11, .pointer (some ⟨b1, 0, none⟩)), (14, iv (y4)), (51, iv (i3))] rfl fun rest => T_weak [mB (ERep.c (eA 3 (eS eI))) 161 b1 (t14)] [] (fun w h => h) <| T_seq <| T_region <| TL_lss rfl rfl rfl rfl (fun h4 => ?_) (fun h4 => ?_)
   ·replace H := if_t h4 H
    refine TL_mv 0 [(2, iv (a2)), (11, .pointer (some ⟨b1, 0, none⟩)), (14, iv (y4)), (51, iv (i3)), (52, .bool true)] rfl fun rest => TL_nil <| T_seq <| T_cond_true rfl <| T_skip <| T_seq ?_
    refine T_block <| T_seq <| T_region <| TL_mv 2 [(2, iv (a2)), (11, .pointer (some ⟨b1, 0, none⟩)), (14, iv (y4)), (15, iv (i3)), (51, iv (i3))] rfl fun rest => TL_nil <| T_region ?_
    refine TL_mv 2 [(2, iv (a2)), (11, .pointer (some ⟨b1, 0, none⟩)), (14, iv (y4)), (51, iv (i3)), (54, iv (i3)), (55, iv (i3))] rfl fun rest => ?_
    obtain ⟨j2, hj2, hlj2, H⟩ := ckI_s H
    refine TL_alen 0 rfl fun ha4 => TL_val rfl rfl (r_indexA Tryz.underlying161 ty51 rfl (vi hj2) (k := j2) hlj2) ?_
    obtain ⟨y5, hy5, H⟩ := nm_s H
    refine TL_step rfl rfl (oe_loadM (z' := y5) 0 rfl rfl (Sub.nth0 3 (eS eI) (t14) j2 _ (getE (z := ([])) (alt hlj2 ha4) hy5)) ty51) fun u16 _ => TL_mv 2 [(2, iv (a2)), (11, .pointer (some ⟨b1, 0, none⟩)), (14, iv (y4)), (51, iv (i3)), (54, iv (i3)), (57, u16), (58, iv (y4)), (59, iv (a2))] rfl fun rest => ?_
    obtain ⟨t16, he5, H⟩ := bd_s H
    refine TL_og rfl rfl (og_callG (F := [mB (ERep.c (eA 3 (eS eI))) 161 b1 (t14)]) (by kernel_rfl) (c_fpoly_scaled fu y5 u16 y4 hv1 a2 qa2 t16 he5) rfl (fun S w h => ⟨h.1, trivial⟩)) fun u17 _ => ?_
    show TL _ _ _ _ [mO eI 3 u17 (t16), mB (ERep.c (eA 3 (eS eI))) 161 b1 (t14)] [fV (eS eI) (y5) u16] _ _ _ _
    obtain ⟨j3, hj3, hlj3, H⟩ := ckI_s H
    refine TL_alen 1 rfl fun ha5 => TL_val rfl rfl (r_indexA Tryz.underlying161 ty51 rfl (vi hj3) (k := j3) hlj3) <| TL_weak_st (fun w h => fz_own 0 h rfl) ?_
    obtain ⟨t17, ht17, H⟩ := nm_s H
    refine TL_og rfl rfl (og_store' (f := (eS eI)) (y' := t16) (z2 := t17) 0 rfl rfl rfl (Sub.nth0 3 (eS eI) (t14) j3 _ (getD_some ([]) (alt hlj3 ha5))) ty51 (fun S w h => h.1) ht17) fun _ _ => ?_
    show TL _ _ _ _ [mB (ERep.c (eA 3 (eS eI))) 161 b1 (t17)] [fV (eS eI) (t16) u17, fV (eS eI) (y5) u16] _ _ _ _
    refine TL_mv 0 [(2, iv (a2)), (11, .pointer (some ⟨b1, 0, none⟩)), (14, iv (y4)), (51, iv (i3))] rfl fun rest => TL_nil <| T_region ?_
    obtain ⟨x3, hx3, hrx3, H⟩ := ck64_s H
    refine TL_val rfl rfl (r_add (c := x3) rfl rfl (w_x hx3 hrx3)) <| TL_mv 1 [(2, iv (a2)), (11, .pointer (some ⟨b1, 0, none⟩)), (14, iv (y4)), (51, iv (x3))] rfl fun rest => TL_nil ?_
    exact St_round_s (n2, x3, t17) H hrx3 (Nat.lt_succ_self _) rfl (fun w h => St.weak h (fun S w h => trivial))
   replace H := if_f h4 H
   refine TL_mv 0 [(2, iv (a2)), (11, .pointer (some ⟨b1, 0, none⟩)), (14, iv (y4)), (51, iv (i3)), (52, .bool false)] rfl fun rest => TL_nil <| T_seq <| T_cond_false rfl <| T_exit ?_
   exact JQ_mk t14 (Option.some.inj H) rfl (fun w h => St.weak h (fun S w h => trivial))
  refine JQ_el' ?_
  rintro t15 hs rest
  subst hs
  replace H := Hc
  clear hL
  refine JG_to (ms' := [mB (ERep.c (eA 3 (eS eI))) 161 b1 (t15)]) (Γ' := []) (live' := [(11, .pointer (some ⟨b1, 0, none⟩))]) rfl <| T_seq <| T_alen 0 rfl fun ha6 => ?_
  obtain ⟨y6, hy6, H⟩ := nm_s H
  refine T_alen 0 rfl fun ha7 => ?_
  obtain ⟨y7, hy7, H⟩ := nm_s H
  refine T_alen 0 rfl fun ha8 => ?_
  obtain ⟨y8, hy8, H⟩ := nm_s H
  refine T_draw 8 [prV (.pointer (some ⟨b1, 0 + 0 * 1, none⟩)), prE (fun u : Value => u) (fun u => [fV (eS eI) (y6) u]) (fun _ => True), prV (.pointer (some ⟨b1, 0 + 1 * 1, none⟩)), prE (fun u : Value => u) (fun u => [fV (eS eI) (y7) u]) (fun _ => True), prV (.pointer (some ⟨b1, 0 + 2 * 1, none⟩)), prE (fun u : Value => u) (fun u => [fV (eS eI) (y8) u]) (fun _ => True), prE (fun u : Value => u) (fun u => [fV (eS eI) (y6) u]) (fun _ => True), prE (fun u : Value => u) (fun u => [fV (eS eI) (y7) u]) (fun _ => True)] [6, 7, 68] rfl (by kernel_rfl) rfl (by kernel_rfl) ⟨?_, ?_, ?_, ?_, ?_, ?_, ?_, ?_, trivial⟩ ?_
  ·intro S w env hS hM hΓ hl
   obtain ⟨e11, _⟩ := hl
   exact ⟨fun _ => ob_V (r_indexA Tryz.underlying161 ty51 (e11.trans rfl) rfl (k := 0) (by decide)), fun hc => (by cases hc)⟩
  ·intro S w env hS hM hΓ hl
   obtain ⟨e63, _⟩ := hl
   exact ⟨fun _ => ob_E (Γ := []) (oe_loadM (z' := y6) 0 rfl e63 (Sub.nth0 3 (eS eI) (t15) 0 _ (getE (z := ([])) (alt (by decide) ha6) hy6)) ty51) hS hM hΓ, fun hc => (by cases hc)⟩
  ·intro S w env hS hM hΓ hl
   obtain ⟨e11, _⟩ := hl
   exact ⟨fun _ => ob_V (r_indexA Tryz.underlying161 ty51 (e11.trans rfl) rfl (k := 1) (by decide)), fun hc => (by cases hc)⟩
  ·intro S w env hS hM hΓ hl
   obtain ⟨e65, _⟩ := hl
   exact ⟨fun _ => ob_E (Γ := []) (oe_loadM (z' := y7) 0 rfl e65 (Sub.nth0 3 (eS eI) (t15) 1 _ (getE (z := ([])) (alt (by decide) ha7) hy7)) ty51) hS hM hΓ, fun hc => (by cases hc)⟩
  ·intro S w env hS hM hΓ hl
   obtain ⟨e11, _⟩ := hl
   exact ⟨fun _ => ob_V (r_indexA Tryz.underlying161 ty51 (e11.trans rfl) rfl (k := 2) (by decide)), fun hc => (by cases hc)⟩
  ·intro S w env hS hM hΓ hl
   obtain ⟨e67, _⟩ := hl
   exact ⟨fun _ => ob_E (Γ := []) (oe_loadM (z' := y8) 0 rfl e67 (Sub.nth0 3 (eS eI) (t15) 2 _ (getE (z := ([])) (alt (by decide) ha8) hy8)) ty51) hS hM hΓ, fun hc => (by cases hc)⟩
  ·intro S w env hS hM hΓ hl
   obtain ⟨⟨u18, e64, _, f64⟩, _⟩ := hl
   exact ⟨fun _ => ob_opq (r_as e64) ⟨f64.1, trivial⟩, fun hc => (by cases hc)⟩
  ·intro S w env hS hM hΓ hl
   obtain ⟨⟨u19, e66, _, f66⟩, _⟩ := hl
   exact ⟨fun _ => ob_opq (r_as e66) ⟨f66.1, trivial⟩, fun hc => (by cases hc)⟩
  intro S w env hS hΓ hl
  obtain ⟨⟨u21, e6, _, f6⟩, ⟨u22, e7, _, f7⟩, ⟨u20, e68, _, f68⟩, _⟩ := hl
  refine ⟨[fV (eS eI) (y6) u21, fV (eS eI) (y7) u22, fV (eS eI) (y8) u20], [(6, u21), (7, u22), (68, u20)], ⟨f6.1, f7.1, f68.1, hΓ⟩, (agr ⟨e6, e7, e68, trivial⟩), fun rest => ?_⟩
  refine TL_mv 2 [(6, u21), (7, u22), (8, u20), (9, iv 0)] rfl fun rest => TL_nil <| T_ret ?_
  obtain ⟨rfl, rfl, rfl, rfl⟩ := inj4 H
  exact Ret2 (t := 6) (t' := 7) (ts := [8, 9]) (u21, u22, u20) Tryz.results132 rfl (show InR (0) by decide) (fun S w h => ⟨h.1, h.2.1, h.2.2.1, trivial⟩)
 replace H := ifb_f hb1 H
 refine T_skip <| T_seq <| T_alen 0 rfl fun ha9 => ?_
 obtain ⟨y9, hy9, H⟩ := nm_s H
 refine T_alen 0 rfl fun ha10 => ?_
 obtain ⟨y10, hy10, H⟩ := nm_s H
 refine T_alen 0 rfl fun ha11 => ?_
 obtain ⟨y11, hy11, H⟩ := nm_s H
 refine T_draw 8 [prV (.pointer (some ⟨b1, 0 + 0 * 1, none⟩)), prE (fun u : Value => u) (fun u => [fV (eS eI) (y9) u]) (fun _ => True), prV (.pointer (some ⟨b1, 0 + 1 * 1, none⟩)), prE (fun u : Value => u) (fun u => [fV (eS eI) (y10) u]) (fun _ => True), prV (.pointer (some ⟨b1, 0 + 2 * 1, none⟩)), prE (fun u : Value => u) (fun u => [fV (eS eI) (y11) u]) (fun _ => True), prE (fun u : Value => u) (fun u => [fV (eS eI) (y9) u]) (fun _ => True), prE (fun u : Value => u) (fun u => [fV (eS eI) (y10) u]) (fun _ => True)] [6, 7, 68] rfl (by kernel_rfl) rfl (by kernel_rfl) ⟨?_, ?_, ?_, ?_, ?_, ?_, ?_, ?_, trivial⟩ ?_
 ·intro S w env hS hM hΓ hl
  obtain ⟨e11, _⟩ := hl
  exact ⟨fun _ => ob_V (r_indexA Tryz.underlying161 ty51 (e11.trans rfl) rfl (k := 0) (by decide)), fun hc => (by cases hc)⟩
 ·intro S w env hS hM hΓ hl
  obtain ⟨e63, _⟩ := hl
  exact ⟨fun _ => ob_E (Γ := []) (oe_loadM (z' := y9) 0 rfl e63 (Sub.nth0 3 (eS eI) (t10) 0 _ (getE (z := ([])) (alt (by decide) ha9) hy9)) ty51) hS hM hΓ, fun hc => (by cases hc)⟩
 ·intro S w env hS hM hΓ hl
  obtain ⟨e11, _⟩ := hl
  exact ⟨fun _ => ob_V (r_indexA Tryz.underlying161 ty51 (e11.trans rfl) rfl (k := 1) (by decide)), fun hc => (by cases hc)⟩
 ·intro S w env hS hM hΓ hl
  obtain ⟨e65, _⟩ := hl
  exact ⟨fun _ => ob_E (Γ := []) (oe_loadM (z' := y10) 0 rfl e65 (Sub.nth0 3 (eS eI) (t10) 1 _ (getE (z := ([])) (alt (by decide) ha10) hy10)) ty51) hS hM hΓ, fun hc => (by cases hc)⟩
 ·intro S w env hS hM hΓ hl
  obtain ⟨e11, _⟩ := hl
  exact ⟨fun _ => ob_V (r_indexA Tryz.underlying161 ty51 (e11.trans rfl) rfl (k := 2) (by decide)), fun hc => (by cases hc)⟩
 ·intro S w env hS hM hΓ hl
  obtain ⟨e67, _⟩ := hl
  exact ⟨fun _ => ob_E (Γ := []) (oe_loadM (z' := y11) 0 rfl e67 (Sub.nth0 3 (eS eI) (t10) 2 _ (getE (z := ([])) (alt (by decide) ha11) hy11)) ty51) hS hM hΓ, fun hc => (by cases hc)⟩
 ·intro S w env hS hM hΓ hl
  obtain ⟨⟨u23, e64, _, f64⟩, _⟩ := hl
  exact ⟨fun _ => ob_opq (r_as e64) ⟨f64.1, trivial⟩, fun hc => (by cases hc)⟩
 ·intro S w env hS hM hΓ hl
  obtain ⟨⟨u24, e66, _, f66⟩, _⟩ := hl
  exact ⟨fun _ => ob_opq (r_as e66) ⟨f66.1, trivial⟩, fun hc => (by cases hc)⟩
 intro S w env hS hΓ hl
 obtain ⟨⟨u26, e6, _, f6⟩, ⟨u27, e7, _, f7⟩, ⟨u25, e68, _, f68⟩, _⟩ := hl
 refine ⟨[fV (eS eI) (y9) u26, fV (eS eI) (y10) u27, fV (eS eI) (y11) u25], [(6, u26), (7, u27), (68, u25)], ⟨f6.1, f7.1, f68.1, hΓ⟩, (agr ⟨e6, e7, e68, trivial⟩), fun rest => ?_⟩
 refine TL_mv 2 [(6, u26), (7, u27), (8, u25), (9, iv 0)] rfl fun rest => TL_nil <| T_ret ?_
 obtain ⟨rfl, rfl, rfl, rfl⟩ := inj4 H
 exact Ret2 (t := 6) (t' := 7) (ts := [8, 9]) (u26, u27, u25) Tryz.results132 rfl (show InR (0) by decide) (fun S w h => ⟨h.1, h.2.1, h.2.2.1, trivial⟩)
set_option maxRecDepth 100000 in
set_option maxHeartbeats 1000000 in
theorem c_fpoly_Gcd (fu : Nat) (a0 : List Int) (va0 : Value) (a1 : List Int) (va1 : Value) (a2 : Int) (qa2 : InR a2) (r0 : List Int) (r1 : Int) (H : M_fpoly_Gcd fu a0 a1 a2 = some (r0, r1)) : Fn Tryz.prog 127 [va0, va1, iv a2].toArray [fV (eS eI) (a0) va0, fV (eS eI) (a1) va1] (fun u : Value => .tuple #[u, iv (r1)]) (fun u => [fV (eS eI) (r0) u]) (fun _ => InR r1) := by
 unfold M_fpoly_Gcd at H
 refine Fn_intro Tryz.func127 rfl rfl fun we Se rest => T_seq <| T_region <| TL_mv 2 [(0, va0), (1, va1), (2, iv (a2))] rfl fun rest => TL_nil <| T_seq ?_
 refine T_region <| TL_mv 3 [(13, va0), (14, va1), (15, iv (a2))] rfl fun rest => ?_
 obtain ⟨⟨t1, t2, t3, x1⟩, he1, H⟩ := bd_s H
 refine TL_step rfl rfl (oe_call (by kernel_rfl) (c_fpoly_Bezout fu a0 va0 a1 va1 a2 qa2 t1 t2 t3 x1 he1) rfl (fun S w h => ⟨h.1, h.2.1, trivial⟩)) fun ⟨u1, u2, u3⟩ hk1 => TL_mv 9 [(8, u1), (11, iv (x1))] rfl fun rest => TL_nil <| T_seq <| T_region <| TL_mv 4 [(6, u1), (7, iv (x1))] rfl fun rest => ?_
 refine TL_nil <| T_ret ?_
 obtain ⟨rfl, rfl⟩ := inj2 H
 exact Ret2 (t := 6) (t' := 7) (ts := []) u1 Tryz.results127 rfl hk1 (fun S w h => ⟨h.1, trivial⟩)
set_option maxRecDepth 100000 in
set_option maxHeartbeats 1000000 in
theorem c_fpoly_Mul (fu : Nat) (a0 : List Int) (va0 : Value) (a1 : List Int) (va1 : Value) (a2 : Int) (qa2 : InR a2) (r0 : List Int) (r1 : Int) (H : M_fpoly_Mul fu a0 a1 a2 = some (r0, r1)) : FnG Tryz.prog 128 [va0, va1, iv a2].toArray [] [fV (eS eI) (a0) va0, fV (eS eI) (a1) va1] (fun u : Value => .tuple #[u, iv (r1)]) (fun u => [mO eI 3 u (r0)]) (fun u => []) (fun _ => InR r1) := by
 unfold M_fpoly_Mul at H
 refine FnG_intro Tryz.func128 rfl rfl fun we Se F G rest => T_seq <| T_region <| TL_mv 2 [(0, va0), (1, va1), (2, iv (a2))] rfl fun rest => TL_nil <| T_seq ?_
 refine T_seq <| T_region <| TL_mv 1 [(0, va0), (1, va1), (2, iv (a2)), (9, iv (a2))] rfl fun rest => ?_
 obtain ⟨x1, he1, H⟩ := bd_s H
 refine TL_step rfl rfl (oe_call (by kernel_rfl) (c_fp_Check fu a2 qa2 x1 he1) rfl (fun S w h => trivial)) fun _ hk1 => TL_mv 1 [(0, va0), (1, va1), (2, iv (a2)), (8, iv (x1))] rfl fun rest => TL_nil <| T_seq <| T_region <| TL_mv 1 [(0, va0), (1, va1), (2, iv (a2)), (8, iv (x1)), (11, iv (x1))] rfl fun rest => ?_
 refine TL_neq rfl rfl rfl rfl (fun h1 => ?_) (fun h1 => ?_)
 ·replace H := if_f h1 H
  refine TL_mv 0 [(0, va0), (1, va1), (2, iv (a2)), (8, iv (x1)), (12, .bool true)] rfl fun rest => TL_nil <| T_cond_true rfl <| T_seq <| T_region <| TL_mv 3 [(6, .slice none 0 0), (7, iv (x1))] rfl fun rest => ?_
  refine TL_nil <| T_ret <| T_weak_st (fun w h => St.nilO (e := eI) (E := 3) h) ?_
  obtain ⟨rfl, rfl⟩ := inj2 H
  intro w hw
  exact RetG (vs := [(.slice none 0 0), (iv (x1) : Value)]) (.slice none 0 0) Tryz.results128 (by exact ⟨rfl, rfl, trivial⟩) rfl hk1 (St.weak hw (fun S w h => h.2.2))
 replace H := if_t h1 H
 refine TL_mv 0 [(0, va0), (1, va1), (2, iv (a2)), (8, iv (x1)), (12, .bool false)] rfl fun rest => TL_nil <| T_cond_false rfl <| T_skip <| T_seq <| T_region ?_
 refine TL_mv 2 [(1, va1), (2, iv (a2)), (14, va0), (15, iv (a2))] rfl fun rest => ?_
 obtain ⟨t1, he2, H⟩ := bd_s H
 refine TL_og rfl rfl (og_callG (F := (F)) (by kernel_rfl) (c_fpoly_plain fu a0 va0 a2 qa2 t1 he2) rfl (fun S w h => ⟨h.1, trivial⟩)) fun u1 _ => ?_
 show TL _ _ _ _ (mO eI 3 u1 (t1) :: F) (fV (eS eI) (a0) va0 :: fV (eS eI) (a1) va1 :: G) _ _ _ _
 refine TL_mv 2 [(2, iv (a2)), (16, u1), (17, va1), (18, iv (a2))] rfl fun rest => ?_
 obtain ⟨t2, he3, H⟩ := bd_s H
 refine TL_og rfl rfl (og_callG (F := (mO eI 3 u1 (t1) :: F)) (by kernel_rfl) (c_fpoly_plain fu a1 va1 a2 qa2 t2 he3) rfl (fun S w h => ⟨h.2.1, trivial⟩)) fun u2 _ => ?_
 show TL _ _ _ _ (mO eI 3 u2 (t2) :: mO eI 3 u1 (t1) :: F) (fV (eS eI) (a0) va0 :: fV (eS eI) (a1) va1 :: G) _ _ _ _
 refine TL_mv 1 [(16, u1), (19, u2), (20, iv (a2))] rfl fun rest => TL_weak_st (fun w h => fz_own 1 h rfl) <| TL_weak_st (fun w h => fz_own 0 h rfl) ?_
 obtain ⟨t3, he4, H⟩ := bd_s H
 refine TL_og rfl rfl (og_callG (F := (F)) (by kernel_rfl) (c_fpoly_product fu t1 u1 t2 u2 a2 qa2 t3 he4) rfl (fun S w h => ⟨h.2.1, h.1, trivial⟩)) fun u3 _ => ?_
 show TL _ _ _ _ (mO eI 3 u3 (t3) :: F) (fV (eS eI) (t2) u2 :: fV (eS eI) (t1) u1 :: fV (eS eI) (a0) va0 :: fV (eS eI) (a1) va1 :: G) _ _ _ _
 refine TL_mv 2 [(6, u3), (7, iv 0)] rfl fun rest => TL_nil <| T_ret ?_
 obtain ⟨rfl, rfl⟩ := inj2 H
 intro w hw
 exact RetG (vs := [u3, (iv 0 : Value)]) u3 Tryz.results128 (by exact ⟨rfl, rfl, trivial⟩) rfl (show InR (0) by decide) (St.weak hw (fun S w h => h.2.2.2.2))
theorem z_fpoly_Mul (fu : Nat) (a0 : List Int) (va0 : Value) (a1 : List Int) (va1 : Value) (a2 : Int) (qa2 : InR a2) (r0 : List Int) (r1 : Int) (H : M_fpoly_Mul fu a0 a1 a2 = some (r0, r1)) : Fn Tryz.prog 128 [va0, va1, .int .i64 a2].toArray [fV (eS eI) (a0) va0, fV (eS eI) (a1) va1] (fun u : Value => .tuple #[u, .int .i64 (r1)]) (fun u => [fV (eS eI) (r0) u]) (fun _ => InR r1) :=
  FnG.frozen (c_fpoly_Mul fu a0 va0 a1 va1 a2 qa2 r0 r1 H) fun u w we Se h => (fz_own 0 h rfl)
set_option maxRecDepth 100000 in
set_option maxHeartbeats 1000000 in
theorem c_fpoly_Sub (fu : Nat) (a0 : List Int) (va0 : Value) (a1 : List Int) (va1 : Value) (a2 : Int) (qa2 : InR a2) (r0 : List Int) (r1 : Int) (H : M_fpoly_Sub fu a0 a1 a2 = some (r0, r1)) : FnG Tryz.prog 185 [va0, va1, iv a2].toArray [] [fV (eS eI) (a0) va0, fV (eS eI) (a1) va1] (fun u : Value => .tuple #[u, iv (r1)]) (fun u => [mO eI 3 u (r0)]) (fun u => []) (fun _ => InR r1) := by
 unfold M_fpoly_Sub at H
 refine FnG_intro Tryz.func185 rfl rfl fun we Se F G rest => T_seq <| T_region <| TL_mv 2 [(0, va0), (1, va1), (2, iv (a2))] rfl fun rest => TL_nil <| T_seq ?_
 refine T_seq <| T_region <| TL_mv 1 [(0, va0), (1, va1), (2, iv (a2)), (9, iv (a2))] rfl fun rest => ?_
 obtain ⟨x1, he1, H⟩ := bd_s H
 refine TL_step rfl rfl (oe_call (by kernel_rfl) (c_fp_Check fu a2 qa2 x1 he1) rfl (fun S w h => trivial)) fun _ hk1 => TL_mv 1 [(0, va0), (1, va1), (2, iv (a2)), (8, iv (x1))] rfl fun rest => TL_nil <| T_seq <| T_region <| TL_mv 1 [(0, va0), (1, va1), (2, iv (a2)), (8, iv (x1)), (11, iv (x1))] rfl fun rest => ?_
 refine TL_neq rfl rfl rfl rfl (fun h1 => ?_) (fun h1 => ?_)
 ·replace H := if_f h1 H
  refine TL_mv 0 [(0, va0), (1, va1), (2, iv (a2)), (8, iv (x1)), (12, .bool true)] rfl fun rest => TL_nil <| T_cond_true rfl <| T_seq <| T_region <| TL_mv 3 [(6, .slice none 0 0), (7, iv (x1))] rfl fun rest => ?_
  refine TL_nil <| T_ret <| T_weak_st (fun w h => St.nilO (e := eI) (E := 3) h) ?_
  obtain ⟨rfl, rfl⟩ := inj2 H
  intro w hw
  exact RetG (vs := [(.slice none 0 0), (iv (x1) : Value)]) (.slice none 0 0) Tryz.results185 (by exact ⟨rfl, rfl, trivial⟩) rfl hk1 (St.weak hw (fun S w h => h.2.2))
 replace H := if_t h1 H
 refine TL_mv 0 [(0, va0), (1, va1), (2, iv (a2)), (8, iv (x1)), (12, .bool false)] rfl fun rest => TL_nil <| T_cond_false rfl <| T_skip <| T_seq <| T_region ?_
 refine TL_mv 2 [(1, va1), (2, iv (a2)), (14, va0), (15, iv (a2))] rfl fun rest => ?_
 obtain ⟨t1, he2, H⟩ := bd_s H
 refine TL_og rfl rfl (og_callG (F := (F)) (by kernel_rfl) (c_fpoly_plain fu a0 va0 a2 qa2 t1 he2) rfl (fun S w h => ⟨h.1, trivial⟩)) fun u1 _ => ?_
 show TL _ _ _ _ (mO eI 3 u1 (t1) :: F) (fV (eS eI) (a0) va0 :: fV (eS eI) (a1) va1 :: G) _ _ _ _
 refine TL_mv 2 [(2, iv (a2)), (16, u1), (17, va1), (18, iv (a2))] rfl fun rest => ?_
 obtain ⟨t2, he3, H⟩ := bd_s H
 refine TL_og rfl rfl (og_callG (F := (mO eI 3 u1 (t1) :: F)) (by kernel_rfl) (c_fpoly_plain fu a1 va1 a2 qa2 t2 he3) rfl (fun S w h => ⟨h.2.1, trivial⟩)) fun u2 _ => ?_
 show TL _ _ _ _ (mO eI 3 u2 (t2) :: mO eI 3 u1 (t1) :: F) (fV (eS eI) (a0) va0 :: fV (eS eI) (a1) va1 :: G) _ _ _ _
 refine TL_mv 1 [(2, iv (a2)), (16, u1), (19, u2), (20, iv (a2))] rfl fun rest => ?_
 obtain ⟨x2, hx2, hrx2, H⟩ := ck64_s H
 refine TL_val rfl rfl (r_sub (c := x2) rfl rfl (w_x hx2 hrx2)) <| TL_mv 1 [(16, u1), (19, u2), (21, iv (x2)), (22, iv (a2))] rfl fun rest => TL_weak_st (fun w h => fz_own 1 h rfl) <| TL_weak_st (fun w h => fz_own 0 h rfl) ?_
 obtain ⟨t3, he4, H⟩ := bd_s H
 refine TL_og rfl rfl (og_callG (F := (F)) (by kernel_rfl) (c_fpoly_sum fu t1 u1 t2 u2 x2 hrx2 a2 qa2 t3 he4) rfl (fun S w h => ⟨h.2.1, h.1, trivial⟩)) fun u3 _ => ?_
 show TL _ _ _ _ (mO eI 3 u3 (t3) :: F) (fV (eS eI) (t2) u2 :: fV (eS eI) (t1) u1 :: fV (eS eI) (a0) va0 :: fV (eS eI) (a1) va1 :: G) _ _ _ _
 refine TL_mv 2 [(6, u3), (7, iv 0)] rfl fun rest => TL_nil <| T_ret ?_
 obtain ⟨rfl, rfl⟩ := inj2 H
 intro w hw
 exact RetG (vs := [u3, (iv 0 : Value)]) u3 Tryz.results185 (by exact ⟨rfl, rfl, trivial⟩) rfl (show InR (0) by decide) (St.weak hw (fun S w h => h.2.2.2.2))
end Go.Proofs.YtjnjfinbdfolkaaGreat
end

section
set_option linter.unusedVariables false
set_option linter.unusedSimpArgs false
namespace Go.Proofs.YtjnjfinbdfolkaaGreat
set_option maxRecDepth 100000 in
set_option maxHeartbeats 1000000 in
theorem c_hensel_equal (fu : Nat) (a0 : List Int) (va0 : Value) (a1 : List Int) (va1 : Value) (a2 : Int) (qa2 : InR a2) (r0 : Bool) (H : M_hensel_equal fu a0 a1 a2 = some r0) : Fn Tryz.prog 130 [va0, va1, iv a2].toArray [fV (eS eI) (a0) va0, fV (eS eI) (a1) va1] (fun _ : Unit => .bool (r0)) (fun _ => []) (fun _ => True) := by
 unfold M_hensel_equal at H
 refine Fn_intro Tryz.func130 rfl rfl fun we Se rest => T_seq <| T_region <| TL_mv 1 [(0, va0), (1, va1), (2, iv (a2))] rfl fun rest => TL_nil <| T_seq ?_
 refine T_region <| TL_mv 3 [(10, va0), (11, va1), (12, iv (a2))] rfl fun rest => ?_
 obtain ⟨⟨t1, x1⟩, he1, H⟩ := bd_s H
 refine TL_og rfl rfl (og_callG (F := []) (by kernel_rfl) (c_fpoly_Sub fu a0 va0 a1 va1 a2 qa2 t1 x1 he1) rfl (fun S w h => ⟨h.1, h.2.1, trivial⟩)) fun u1 hk1 => ?_
 show TL _ _ _ _ [mO eI 3 u1 (t1)] [fV (eS eI) (a0) va0, fV (eS eI) (a1) va1] _ _ _ _
 refine TL_mv 5 [(7, u1)] rfl fun rest => TL_nil <| T_seq <| T_region <| TL_mv 1 [(16, u1)] rfl fun rest => TL_step rfl rfl (oe_lenM 0 rfl Tryz.underlying51 rfl) fun _ hl1 => ?_
 refine TL_eql rfl rfl rfl rfl (fun h1 => ?_) (fun h1 => ?_)
 ·replace H := if_t h1 H
  refine TL_mv 1 [(6, .bool true)] rfl fun rest => TL_nil <| T_ret ?_
  obtain rfl := inj1 H
  exact Ret1 () Tryz.results130 rfl trivial (fun S w h => trivial)
 replace H := if_f h1 H
 refine TL_mv 1 [(6, .bool false)] rfl fun rest => TL_nil <| T_ret ?_
 obtain rfl := inj1 H
 exact Ret1 () Tryz.results130 rfl trivial (fun S w h => trivial)
set_option maxRecDepth 100000 in
set_option maxHeartbeats 1000000 in
theorem c_hensel_plain (fu : Nat) (a0 : List Int) (va0 : Value) (a1 : Int) (qa1 : InR a1) (r0 : Bool) (H : M_hensel_plain fu a0 a1 = some r0) : Fn Tryz.prog 126 [va0, iv a1].toArray [fV (eS eI) (a0) va0] (fun _ : Unit => .bool (r0)) (fun _ => []) (fun _ => True) := by
 unfold M_hensel_plain at H
 refine Fn_intro Tryz.func126 rfl rfl fun we Se rest => T_seq <| T_region <| TL_mv 1 [(0, va0), (1, iv (a1))] rfl fun rest => TL_nil <| T_seq ?_
 refine T_seq <| T_region <| TL_mv 1 [(0, va0), (1, iv (a1)), (7, va0)] rfl fun rest => TL_step rfl rfl (oe_len (e := eI) (xs := a0) Tryz.underlying51 rfl (fun S w h => h.1)) fun _ hl1 => TL_mv 1 [(0, va0), (1, iv (a1)), (7, va0), (8, iv ((a0.length : Nat) : Int)), (9, iv 0)] rfl fun rest => TL_nil ?_
 refine T_block ?_
 obtain ⟨s1, hL, Hc⟩ := bd_s H
 refine T_X [(.x 0, JQ we Se (G := Unit) (fun _ => (⟨[], [fV (eS eI) (a0) va0], [(0, va0)]⟩ : Inv)) (fun _ => .inl () = s1)), (.r, JQ we Se (G := Unit) (fun _ => (⟨[], [], [(4, .bool false)]⟩ : Inv)) (fun _ => .inr () = s1))] ?_ ⟨?_, ?_, trivial⟩
 ·refine T_loop_s (G := Nat × Int) (s1 := _) (f := _) (k := fun (n1, i3) => n1) (σ := fun (n1, i3) => i3) (fun (n1, i3) => (⟨[], [fV (eS eI) (a0) va0], [(0, va0), (1, iv (a1)), (7, va0), (8, iv ((a0.length : Nat) : Int)), (9, iv (i3))]⟩ : Inv)) (fun (n1, i3) => InR i3) (fu, 0) hL (show InR (0) by decide) rfl (fun w h => St.weak h (fun S w h => ⟨h.1, trivial⟩)) ?_
  rintro ⟨n1, i3⟩ ⟨H, hr3⟩ rest
  rcases n1 with _ | n1
  ·exact (loopN_z H).elim
  replace H := loopN_s H
  unfold B_hensel_plain_0 at H
  refine T_prune [(0, va0), (1, iv (a1)), (7, va0), (8, iv ((a0.length : Nat) : Int)), (9, iv (i3))] rfl fun rest => T_weak [] [fV (eS eI) (a0) va0] (fun w h => h) <| T_seq <| T_region <| TL_lss rfl rfl rfl rfl (fun h1 => ?_) (fun h1 => ?_)
  ·replace H := if_t h1 H
   refine TL_mv 0 [(0, va0), (1, iv (a1)), (7, va0), (8, iv ((a0.length : Nat) : Int)), (9, iv (i3)), (10, .bool true)] rfl fun rest => TL_nil <| T_seq <| T_cond_true rfl <| T_skip <| T_seq ?_
   refine T_block <| T_seq <| T_region ?_
   obtain ⟨j1, hj1, hlj1, H⟩ := ckI_s H
   obtain ⟨y1, hy1, H⟩ := nm_s H
   refine TL_step rfl rfl (oe_index (e := eI) (xs := a0) (k := j1) (y := y1) rfl (vi hj1) Tryz.underlying51 ty3 (getE (z := 0) hlj1 hy1) (fun S w h => h.1)) fun p1 _ => TL_step rfl rfl (oe_load_i64 (y := y1) rfl ty3 (fun S w h => h.1)) fun _ hv1 => TL_mv 1 [(0, va0), (1, iv (a1)), (6, iv (y1)), (7, va0), (8, iv ((a0.length : Nat) : Int)), (9, iv (i3))] rfl fun rest => TL_nil <| T_seq <| T_region ?_
   refine TL_mv 1 [(0, va0), (1, iv (a1)), (6, iv (y1)), (7, va0), (8, iv ((a0.length : Nat) : Int)), (9, iv (i3)), (13, iv (y1))] rfl fun rest => TL_lss rfl rfl rfl rfl (fun h2 => ?_) (fun h2 => ?_)
   ·replace H := if_t h2 H
    refine TL_mv 5 [(0, va0), (1, iv (a1)), (7, va0), (8, iv ((a0.length : Nat) : Int)), (9, iv (i3)), (19, .bool true)] rfl fun rest => TL_nil <| T_cond_true rfl <| T_seq <| T_region <| TL_mv 1 [(4, .bool false)] rfl fun rest => ?_
    refine TL_nil <| T_ret ?_
    exact JQ_mk () (Option.some.inj H) rfl (fun w h => St.weak h (fun S w h => trivial))
   replace H := if_f h2 H
   refine TL_mv 3 [(0, va0), (1, iv (a1)), (7, va0), (8, iv ((a0.length : Nat) : Int)), (9, iv (i3)), (15, .bool false), (16, iv (y1)), (17, iv (a1))] rfl fun rest => TL_geq rfl rfl rfl rfl (fun h3 => ?_) (fun h3 => ?_)
   ·replace H := if_t h3 H
    refine TL_mv 1 [(0, va0), (1, iv (a1)), (7, va0), (8, iv ((a0.length : Nat) : Int)), (9, iv (i3)), (16, iv (y1)), (17, iv (a1)), (18, .bool true), (19, .bool true)] rfl fun rest => TL_nil <| T_cond_true rfl <| T_seq <| T_region <| TL_mv 1 [(4, .bool false)] rfl fun rest => ?_
    refine TL_nil <| T_ret ?_
    exact JQ_mk () (Option.some.inj H) rfl (fun w h => St.weak h (fun S w h => trivial))
   replace H := if_f h3 H
   refine TL_mv 1 [(0, va0), (1, iv (a1)), (7, va0), (8, iv ((a0.length : Nat) : Int)), (9, iv (i3)), (16, iv (y1)), (17, iv (a1)), (18, .bool false), (19, .bool false)] rfl fun rest => TL_nil <| T_cond_false rfl <| T_skip <| T_region ?_
   obtain ⟨x1, hx1, hrx1, H⟩ := ck64_s H
   refine TL_val rfl rfl (r_add (c := x1) rfl rfl (w_x hx1 hrx1)) <| TL_mv 1 [(0, va0), (1, iv (a1)), (7, va0), (8, iv ((a0.length : Nat) : Int)), (9, iv (x1)), (16, iv (y1)), (17, iv (a1)), (18, .bool false)] rfl fun rest => TL_nil ?_
   exact St_round_s (n1, x1) H hrx1 (Nat.lt_succ_self _) rfl (fun w h => St.weak h (fun S w h => ⟨h.2.1, trivial⟩))
  replace H := if_f h1 H
  refine TL_mv 0 [(0, va0), (1, iv (a1)), (7, va0), (8, iv ((a0.length : Nat) : Int)), (9, iv (i3)), (10, .bool false)] rfl fun rest => TL_nil <| T_seq <| T_cond_false rfl <| T_exit ?_
  exact JQ_mk () (Option.some.inj H) rfl (fun w h => St.weak h (fun S w h => ⟨h.1, trivial⟩))
 ·refine JQ_el' ?_
  rintro _ hs rest
  subst hs
  replace H := Hc
  clear hL
  refine JG_to (ms' := []) (Γ' := [fV (eS eI) (a0) va0]) (live' := [(0, va0)]) rfl <| T_seq <| T_region <| TL_mv 1 [(0, va0), (21, va0)] rfl fun rest => TL_step rfl rfl (oe_len (e := eI) (xs := a0) Tryz.underlying51 rfl (fun S w h => h.1)) fun _ hl2 => TL_gtr rfl rfl rfl rfl (fun h4 => ?_) (fun h4 => ?_)
  ·replace H := if_t h4 H
   refine TL_mv 3 [(24, .bool true), (25, va0), (26, va0)] rfl fun rest => TL_step rfl rfl (oe_len (e := eI) (xs := a0) Tryz.underlying51 rfl (fun S w h => h.1)) fun _ hl3 => ?_
   obtain ⟨x2, hx2, hrx2, H⟩ := ck64_s H
   refine TL_val rfl rfl (r_sub (c := x2) rfl rfl (w_x hx2 hrx2)) ?_
   obtain ⟨j2, hj2, hlj2, H⟩ := ckI_s H
   obtain ⟨y2, hy2, H⟩ := nm_s H
   refine TL_step rfl rfl (oe_index (e := eI) (xs := a0) (k := j2) (y := y2) rfl (vi hj2) Tryz.underlying51 ty3 (getE (z := 0) hlj2 hy2) (fun S w h => h.1)) fun p2 _ => TL_step rfl rfl (oe_load_i64 (y := y2) rfl ty3 (fun S w h => h.1)) fun _ hv2 => TL_eql rfl rfl rfl rfl (fun h5 => ?_) (fun h5 => ?_)
   ·replace H := if_t h5 H
    refine TL_mv 2 [(4, .bool true)] rfl fun rest => TL_nil <| T_ret ?_
    obtain rfl := inj1 H
    exact Ret1 () Tryz.results126 rfl trivial (fun S w h => trivial)
   replace H := if_f h5 H
   refine TL_mv 2 [(4, .bool false)] rfl fun rest => TL_nil <| T_ret ?_
   obtain rfl := inj1 H
   exact Ret1 () Tryz.results126 rfl trivial (fun S w h => trivial)
  replace H := if_f h4 H
  refine TL_mv 10 [(4, .bool false)] rfl fun rest => TL_nil <| T_ret ?_
  obtain rfl := inj1 H
  exact Ret1 () Tryz.results126 rfl trivial (fun S w h => trivial)
 refine JQ_el' ?_
 rintro _ hs rest
 subst hs
 replace H := Hc
 clear hL
 refine JG_to (ms' := []) (Γ' := []) (live' := [(4, .bool false)]) rfl ?_
 obtain rfl := inj1 H
 exact Ret1 () Tryz.results126 rfl trivial (fun S w h => trivial)
set_option maxRecDepth 100000 in
set_option maxHeartbeats 1000000 in
theorem c_hensel_product (fu : Nat) (a0 : List (List Int)) (va0 : Value) (a1 : Int) (qa1 : InR a1) (r0 : List Int) (H : M_hensel_product fu a0 a1 = some r0) : FnG Tryz.prog 129 [va0, iv a1].toArray [] [fV (eS (eS eI)) (a0) va0] (fun u : Value => u) (fun u => [mO eI 3 u (r0)]) (fun u => []) (fun _ => True) := by
 unfold M_hensel_product at H
 refine FnG_intro Tryz.func129 rfl rfl fun we Se F G rest => T_seq <| T_region <| TL_mv 1 [(0, va0), (1, iv (a1))] rfl fun rest => TL_nil <| T_seq ?_
 refine T_region <| TL_og rfl rfl (og_lit (e := eI) (zs := [1]) Tryz.underlying51 ty3 (by decide) rfl (by decide) (vs := [(0, iv 1)]) rfl (fun S w h => (by refine fill_eq eI ?_; exact ⟨fV_sz (S := S) (w := w) (i64_fV (show InR (1) by decide)), trivial⟩)) (fun S w h => (elems_one (i64_fV (show InR (1) by decide))))) fun u1 _ => ?_
 show TL _ _ _ _ (mO eI 3 u1 ([1]) :: F) (fV (eS (eS eI)) (a0) va0 :: G) _ _ _ _
 refine TL_mv 1 [(0, va0), (1, iv (a1)), (5, u1)] rfl fun rest => TL_nil <| T_seq <| T_seq <| T_region <| TL_mv 1 [(1, iv (a1)), (5, u1), (9, va0)] rfl fun rest => ?_
 refine TL_step rfl rfl (oe_len (e := (eS eI)) (xs := a0) Tryz.underlying32 rfl (fun S w h => h.1)) fun _ hl1 => TL_mv 1 [(1, iv (a1)), (5, u1), (9, va0), (10, iv ((a0.length : Nat) : Int)), (11, iv 0)] rfl fun rest => TL_nil <| T_block ?_
 obtain ⟨s1, hL, Hc⟩ := bd_s H
 refine T_X [(.x 0, JQ we Se (G := (List Int) × Value) (fun (t4, w4) => (⟨(mO eI 3 w4 (t4) :: F), (G), [(5, w4)]⟩ : Inv)) (fun (t4, w4) => t4 = s1))] ?_ ⟨?_, trivial⟩
 ·refine T_loop_s (G := Nat × (List Int) × Int × Value) (s1 := _) (f := _) (k := fun (n1, t3, i3, w3) => n1) (σ := fun (n1, t3, i3, w3) => (t3, i3)) (fun (n1, t3, i3, w3) => (⟨(mO eI 3 w3 (t3) :: F), (fV (eS (eS eI)) (a0) va0 :: G), [(1, iv (a1)), (5, w3), (9, va0), (10, iv ((a0.length : Nat) : Int)), (11, iv (i3))]⟩ : Inv)) (fun (n1, t3, i3, w3) => InR i3) (fu, [1], 0, u1) hL (show InR (0) by decide) rfl (fun w h => St.weak h (fun S w h => ⟨h.1, h.2⟩)) ?_
  rintro ⟨n1, t3, i3, w3⟩ ⟨H, hr3⟩ rest
  rcases n1 with _ | n1
  ·exact (loopN_z H).elim
  replace H := loopN_s H
  unfold B_hensel_product_0 at H
  refine T_prune [(1, iv (a1)), (5, w3), (9, va0), (10, iv ((a0.length : Nat) : Int)), (11, iv (i3))] rfl fun rest => T_weak (mO eI 3 w3 (t3) :: F) (fV (eS (eS eI)) (a0) va0 :: G) (fun w h => h) <| T_seq <| T_region <| TL_lss rfl rfl rfl rfl (fun h1 => ?_) (fun h1 => ?_)
  ·replace H := if_t h1 H
   refine TL_mv 0 [(1, iv (a1)), (5, w3), (9, va0), (10, iv ((a0.length : Nat) : Int)), (11, iv (i3)), (12, .bool true)] rfl fun rest => TL_nil <| T_seq <| T_cond_true rfl <| T_skip <| T_seq ?_
   refine T_block <| T_seq <| T_region ?_
   obtain ⟨j1, hj1, hlj1, H⟩ := ckI_s H
   obtain ⟨y1, hy1, H⟩ := nm_s H
   refine TL_step rfl rfl (oe_index (e := (eS eI)) (xs := a0) (k := j1) (y := y1) rfl (vi hj1) Tryz.underlying32 ty51 (getE (z := []) hlj1 hy1) (fun S w h => h.1)) fun p1 _ => TL_step rfl rfl (oe_load (e := (eS eI)) (y := y1) rfl ty51 (fun S w h => h.1)) fun u2 _ => TL_mv 1 [(1, iv (a1)), (5, w3), (7, u2), (9, va0), (10, iv ((a0.length : Nat) : Int)), (11, iv (i3))] rfl fun rest => TL_nil <| T_region <| TL_mv 3 [(1, iv (a1)), (9, va0), (10, iv ((a0.length : Nat) : Int)), (11, iv (i3)), (16, w3), (17, u2), (18, iv (a1))] rfl fun rest => ?_
   refine TL_weak_st (fun w h => fz_own 0 h rfl) ?_
   obtain ⟨⟨t5, x1⟩, he1, H⟩ := bd_s H
   refine TL_og rfl rfl (og_callG (F := (F)) (by kernel_rfl) (c_fpoly_Mul fu t3 w3 y1 u2 a1 qa1 t5 x1 he1) rfl (fun S w h => ⟨h.1, h.2.1, trivial⟩)) fun u3 hk1 => ?_
   show TL _ _ _ _ (mO eI 3 u3 (t5) :: F) (fV (eS eI) (t3) w3 :: fV (eS eI) (y1) u2 :: fP (eS eI) (y1) p1 :: fV (eS (eS eI)) (a0) va0 :: G) _ _ _ _
   refine TL_mv 4 [(1, iv (a1)), (5, u3), (9, va0), (10, iv ((a0.length : Nat) : Int)), (11, iv (i3))] rfl fun rest => TL_nil <| T_region ?_
   obtain ⟨x2, hx2, hrx2, H⟩ := ck64_s H
   refine TL_val rfl rfl (r_add (c := x2) rfl rfl (w_x hx2 hrx2)) <| TL_mv 1 [(1, iv (a1)), (5, u3), (9, va0), (10, iv ((a0.length : Nat) : Int)), (11, iv (x2))] rfl fun rest => TL_nil ?_
   exact St_round_s (n1, t5, x2, u3) H hrx2 (Nat.lt_succ_self _) rfl (fun w h => St.weak h (fun S w h => ⟨h.2.2.2.1, h.2.2.2.2⟩))
  replace H := if_f h1 H
  refine TL_mv 0 [(1, iv (a1)), (5, w3), (9, va0), (10, iv ((a0.length : Nat) : Int)), (11, iv (i3)), (12, .bool false)] rfl fun rest => TL_nil <| T_seq <| T_cond_false rfl <| T_exit ?_
  exact JQ_mk (t3, w3) (Option.some.inj H) rfl (fun w h => St.weak h (fun S w h => h.2))
 refine JQ_el' ?_
 rintro ⟨t4, w4⟩ hs rest
 subst hs
 replace H := Hc
 clear hL
 refine JG_to (ms' := (mO eI 3 w4 (t4) :: F)) (Γ' := (G)) (live' := [(5, w4)]) rfl <| T_seq <| T_region <| TL_mv 2 [(4, w4)] rfl fun rest => TL_nil <| T_ret ?_
 obtain rfl := inj1 H
 intro w hw
 exact RetG (vs := [w4]) w4 Tryz.results129 (by exact ⟨rfl, trivial⟩) rfl trivial (St.weak hw (fun S w h => h))
theorem z_hensel_product (fu : Nat) (a0 : List (List Int)) (va0 : Value) (a1 : Int) (qa1 : InR a1) (r0 : List Int) (H : M_hensel_product fu a0 a1 = some r0) : Fn Tryz.prog 129 [va0, .int .i64 a1].toArray [fV (eS (eS eI)) (a0) va0] (fun u : Value => u) (fun u => [fV (eS eI) (r0) u]) (fun _ => True) :=
  FnG.frozen (c_hensel_product fu a0 va0 a1 qa1 r0 H) fun u w we Se h => (fz_own 0 h rfl)
set_option maxRecDepth 100000 in
set_option maxHeartbeats 1000000 in
theorem c_zint_Small (fu : Nat) (a0 : Zr) (va0 : Value) (r0 : Int) (r1 : Bool) (H : M_zint_Small fu a0 = some (r0, r1)) : Fn Tryz.prog 154 [va0].toArray [fV eZ (a0) va0] (fun _ : Unit => .tuple #[iv (r0), .bool (r1)]) (fun _ => []) (fun _ => InR r0) := by
 unfold M_zint_Small at H
 refine Fn_intro Tryz.func154 rfl rfl fun we Se rest => T_seq <| T_region <| TL_og rfl rfl (og_boxM (e := eZ) (z := a0) rfl (fun S w h => h.1)) fun b1 _ => ?_
 show TL _ _ _ _ [mB (ERep.c eZ) 25 b1 (a0)] [fV eZ (a0) va0] _ _ _ _
 refine TL_mv 2 [(1, .pointer (some ⟨b1, 0, none⟩))] rfl fun rest => TL_nil <| T_seq <| T_region <| TL_step rfl rfl (oe_loadM (z' := a0) 0 rfl rfl (Sub.self eZ (a0)) ty25) fun u1 _ => ?_
 obtain ⟨t1, he1, H⟩ := bd_s H
 refine TL_step rfl rfl (oe_call (by kernel_rfl) (c_zint_Norm fu a0 u1 t1 he1) rfl (fun S w h => ⟨h.1, trivial⟩)) fun u2 _ => TL_og rfl rfl (og_store' (f := eZ) (y' := t1) (z2 := t1) 0 rfl rfl rfl (Sub.self eZ (a0)) ty25 (fun S w h => h.1) rfl) fun _ _ => ?_
 show TL _ _ _ _ [mB (ERep.c eZ) 25 b1 (t1)] [fV eZ (t1) u2, fV eZ (a0) u1, fV eZ (a0) va0] _ _ _ _
 refine TL_mv 0 [(1, .pointer (some ⟨b1, 0, none⟩))] rfl fun rest => TL_nil <| T_seq <| T_block <| T_seq ?_
 obtain ⟨s1, hL, Hc⟩ := bd_s H
 refine T_X [(.n, JQ we Se (G := Bool) (fun b2 => (⟨[mB (ERep.c eZ) 25 b1 (t1)], [], [(1, .pointer (some ⟨b1, 0, none⟩)), (6, .bool (b2))]⟩ : Inv)) (fun b2 => b2 = s1))] ?_ ⟨?_, trivial⟩
 ·replace H := hL
  refine T_region <| TL_val rfl rfl (r_field fl25_1 rfl) <| TL_step rfl rfl (oe_loadM (z' := t1.2) 0 rfl rfl (Sub.snd eBool (eS eU) (t1)) ty23) fun u3 _ => TL_step rfl rfl (oe_len (e := eU) (xs := t1.2) Tryz.underlying23 rfl (fun S w h => h.1)) fun _ hl1 => TL_eql rfl rfl rfl rfl (fun h1 => ?_) (fun h1 => ?_)
  ·replace H := if_t h1 H
   refine TL_mv 1 [(1, .pointer (some ⟨b1, 0, none⟩)), (6, .bool true)] rfl fun rest => TL_nil ?_
   exact JQ_mk true (Option.some.inj H) rfl (fun w h => St.weak h (fun S w h => trivial))
  replace H := if_f h1 H
  refine TL_mv 1 [(1, .pointer (some ⟨b1, 0, none⟩)), (6, .bool false)] rfl fun rest => TL_nil ?_
  exact JQ_mk false (Option.some.inj H) rfl (fun w h => St.weak h (fun S w h => trivial))
 refine JQ_el' ?_
 rintro b2 hs rest
 subst hs
 replace H := Hc
 clear hL
 refine JG_to (ms' := [mB (ERep.c eZ) 25 b1 (t1)]) (Γ' := []) (live' := [(1, .pointer (some ⟨b1, 0, none⟩)), (6, .bool (b2))]) rfl <| T_cond (b2) rfl (fun hb1 => ?_) (fun hb1 => ?_)
 ·replace H := if_t hb1 H
  refine T_seq <| T_region <| TL_mv 2 [(2, iv 0), (3, .bool true)] rfl fun rest => TL_nil <| T_ret ?_
  obtain ⟨rfl, rfl⟩ := inj2 H
  exact Ret2 (t := 2) (t' := 3) (ts := []) () Tryz.results154 rfl (show InR (0) by decide) (fun S w h => trivial)
 replace H := ifb_f hb1 H
 refine T_seq ?_
 obtain ⟨s2, hL, Hc⟩ := bd_s H
 refine T_X [(.n, JQ we Se (G := Bool) (fun b3 => (⟨[mB (ERep.c eZ) 25 b1 (t1)], [], [(1, .pointer (some ⟨b1, 0, none⟩)), (11, .bool (b3))]⟩ : Inv)) (fun b3 => b3 = s2))] ?_ ⟨?_, trivial⟩
 ·replace H := hL
  refine T_region <| TL_val rfl rfl (r_field fl25_1 rfl) <| TL_step rfl rfl (oe_loadM (z' := t1.2) 0 rfl rfl (Sub.snd eBool (eS eU) (t1)) ty23) fun u4 _ => TL_step rfl rfl (oe_len (e := eU) (xs := t1.2) Tryz.underlying23 rfl (fun S w h => h.1)) fun _ hl2 => TL_gtr rfl rfl rfl rfl (fun h2 => ?_) (fun h2 => ?_)
  ·replace H := if_t h2 H
   refine TL_mv 1 [(1, .pointer (some ⟨b1, 0, none⟩)), (11, .bool true)] rfl fun rest => TL_nil ?_
   exact JQ_mk true (Option.some.inj H) rfl (fun w h => St.weak h (fun S w h => trivial))
  replace H := if_f h2 H
  refine TL_mv 1 [(1, .pointer (some ⟨b1, 0, none⟩)), (11, .bool false)] rfl fun rest => TL_nil ?_
  exact JQ_mk false (Option.some.inj H) rfl (fun w h => St.weak h (fun S w h => trivial))
 refine JQ_el' ?_
 rintro b3 hs rest
 subst hs
 replace H := Hc
 clear hL
 refine JG_to (ms' := [mB (ERep.c eZ) 25 b1 (t1)]) (Γ' := []) (live' := [(1, .pointer (some ⟨b1, 0, none⟩)), (11, .bool (b3))]) rfl <| T_cond (b3) rfl (fun hb2 => ?_) (fun hb2 => ?_)
 ·replace H := if_t hb2 H
  refine T_seq <| T_region <| TL_mv 2 [(2, iv 0), (3, .bool false)] rfl fun rest => TL_nil <| T_ret ?_
  obtain ⟨rfl, rfl⟩ := inj2 H
  exact Ret2 (t := 2) (t' := 3) (ts := []) () Tryz.results154 rfl (show InR (0) by decide) (fun S w h => trivial)
 replace H := ifb_f hb2 H
 refine T_seq ?_
 obtain ⟨s3, hL, Hc⟩ := bd_s H
 refine T_X [(.n, JQ we Se (G := Bool) (fun b4 => (⟨[mB (ERep.c eZ) 25 b1 (t1)], [], [(1, .pointer (some ⟨b1, 0, none⟩)), (16, .bool (b4))]⟩ : Inv)) (fun b4 => b4 = s3))] ?_ ⟨?_, trivial⟩
 ·replace H := hL
  refine T_region <| TL_val rfl rfl (r_field fl25_0 rfl) <| TL_step rfl rfl (oe_loadM_bool (z' := t1.1) 0 rfl rfl (Sub.fst eBool (eS eU) (t1)) ty4) fun _ _ => TL_mv 1 [(1, .pointer (some ⟨b1, 0, none⟩)), (19, .bool (t1.1))] rfl fun rest => ?_
  rcases Bool.eq_false_or_eq_true (t1.1) with hd1 | hd1
  ·refine TL_prune [(1, .pointer (some ⟨b1, 0, none⟩)), (19, .bool true)] (agr ⟨rfl, (congrArg Value.bool hd1), trivial⟩) fun rest => ?_
   replace H := if_t hd1 H
   refine TL_val rfl rfl (r_field fl25_1 rfl) <| TL_step rfl rfl (oe_loadM (z' := t1.2) 0 rfl rfl (Sub.snd eBool (eS eU) (t1)) ty23) fun u5 _ => ?_
   obtain ⟨j1, hj1, hlj1, H⟩ := ckI_s H
   obtain ⟨y1, hy1, H⟩ := nm_s H
   refine TL_step rfl rfl (oe_index (e := eU) (xs := t1.2) (k := j1) (y := y1) rfl (vi hj1) Tryz.underlying23 ty102 (getE (z := 0) hlj1 hy1) (fun S w h => h.1)) fun p1 _ => TL_step rfl rfl (oe_load_u64 (y := y1) rfl ty102 (fun S w h => h.1)) fun _ hv1 => TL_leq rfl rfl rfl rfl (fun h3 => ?_) (fun h3 => ?_)
   ·replace H := if_t h3 H
    refine TL_mv 2 [(1, .pointer (some ⟨b1, 0, none⟩)), (16, .bool true)] rfl fun rest => TL_nil ?_
    exact JQ_mk true (Option.some.inj H) rfl (fun w h => St.weak h (fun S w h => trivial))
   replace H := if_f h3 H
   refine TL_mv 2 [(1, .pointer (some ⟨b1, 0, none⟩)), (16, .bool false)] rfl fun rest => TL_nil ?_
   exact JQ_mk false (Option.some.inj H) rfl (fun w h => St.weak h (fun S w h => trivial))
  refine TL_prune [(1, .pointer (some ⟨b1, 0, none⟩)), (19, .bool false)] (agr ⟨rfl, (congrArg Value.bool hd1), trivial⟩) fun rest => ?_
  replace H := ifb_f hd1 H
  refine TL_mv 7 [(1, .pointer (some ⟨b1, 0, none⟩)), (16, .bool false)] rfl fun rest => TL_nil ?_
  exact JQ_mk false (Option.some.inj H) rfl (fun w h => St.weak h (fun S w h => trivial))
 refine JQ_el' ?_
 rintro b4 hs rest
 subst hs
 replace H := Hc
 clear hL
 refine JG_to (ms' := [mB (ERep.c eZ) 25 b1 (t1)]) (Γ' := []) (live' := [(1, .pointer (some ⟨b1, 0, none⟩)), (16, .bool (b4))]) rfl <| T_cond (b4) rfl (fun hb3 => ?_) (fun hb3 => ?_)
 ·replace H := if_t hb3 H
  refine T_seq <| T_region <| TL_val rfl rfl (r_field fl25_1 rfl) <| TL_step rfl rfl (oe_loadM (z' := t1.2) 0 rfl rfl (Sub.snd eBool (eS eU) (t1)) ty23) fun u6 _ => ?_
  obtain ⟨j2, hj2, hlj2, H⟩ := ckI_s H
  obtain ⟨y2, hy2, H⟩ := nm_s H
  refine TL_step rfl rfl (oe_index (e := eU) (xs := t1.2) (k := j2) (y := y2) rfl (vi hj2) Tryz.underlying23 ty102 (getE (z := 0) hlj2 hy2) (fun S w h => h.1)) fun p2 _ => TL_step rfl rfl (oe_load_u64 (y := y2) rfl ty102 (fun S w h => h.1)) fun _ hv2 => ?_
  obtain ⟨m1, hm1, H⟩ := nm_s H
  refine TL_val rfl rfl (r_neg (c := ((m1 : Nat) : Int)) rfl (wu_x hm1 (wu_neg (a := y2) hv2))) ?_
  obtain ⟨x1, hx1, H⟩ := nm_s H
  refine TL_val rfl rfl (r_conv (c := x1) Tryz.underlying102 Tryz.underlying3 rfl ((wrap_sgn (eq_mod_r hm1)).trans hx1.symm)) <| TL_mv 2 [(2, iv (x1)), (3, .bool true)] rfl fun rest => TL_nil <| T_ret ?_
  obtain ⟨rfl, rfl⟩ := inj2 H
  exact Ret2 (t := 2) (t' := 3) (ts := []) () Tryz.results154 rfl (eq_r hx1 (sgn_r (eq_mod_r hm1))) (fun S w h => trivial)
 replace H := ifb_f hb3 H
 refine T_seq <| T_region <| TL_val rfl rfl (r_field fl25_0 rfl) <| TL_step rfl rfl (oe_loadM_bool (z' := t1.1) 0 rfl rfl (Sub.fst eBool (eS eU) (t1)) ty4) fun _ _ => TL_mv 1 [(1, .pointer (some ⟨b1, 0, none⟩)), (35, .bool (t1.1))] rfl fun rest => ?_
 rcases Bool.eq_false_or_eq_true (t1.1) with hd2 | hd2
 ·refine TL_prune [(1, .pointer (some ⟨b1, 0, none⟩)), (35, .bool true)] (agr ⟨rfl, (congrArg Value.bool hd2), trivial⟩) fun rest => ?_
  replace H := if_t hd2 H
  refine TL_mv 7 [(1, .pointer (some ⟨b1, 0, none⟩)), (32, .bool true)] rfl fun rest => TL_nil <| T_cond_true rfl <| T_seq <| T_region <| TL_mv 2 [(2, iv 0), (3, .bool false)] rfl fun rest => ?_
  refine TL_nil <| T_ret ?_
  obtain ⟨rfl, rfl⟩ := inj2 H
  exact Ret2 (t := 2) (t' := 3) (ts := []) () Tryz.results154 rfl (show InR (0) by decide) (fun S w h => trivial)
 refine TL_prune [(1, .pointer (some ⟨b1, 0, none⟩)), (35, .bool false)] (agr ⟨rfl, (congrArg Value.bool hd2), trivial⟩) fun rest => ?_
 replace H := ifb_f hd2 H
 refine TL_val rfl rfl (r_field fl25_1 rfl) <| TL_step rfl rfl (oe_loadM (z' := t1.2) 0 rfl rfl (Sub.snd eBool (eS eU) (t1)) ty23) fun u7 _ => ?_
 obtain ⟨j3, hj3, hlj3, H⟩ := ckI_s H
 obtain ⟨y3, hy3, H⟩ := nm_s H
 refine TL_step rfl rfl (oe_index (e := eU) (xs := t1.2) (k := j3) (y := y3) rfl (vi hj3) Tryz.underlying23 ty102 (getE (z := 0) hlj3 hy3) (fun S w h => h.1)) fun p3 _ => TL_step rfl rfl (oe_load_u64 (y := y3) rfl ty102 (fun S w h => h.1)) fun _ hv3 => TL_gtr rfl rfl rfl rfl (fun h4 => ?_) (fun h4 => ?_)
 ·replace H := if_t h4 H
  refine TL_mv 2 [(1, .pointer (some ⟨b1, 0, none⟩)), (32, .bool true)] rfl fun rest => TL_nil <| T_cond_true rfl <| T_seq <| T_region <| TL_mv 2 [(2, iv 0), (3, .bool false)] rfl fun rest => ?_
  refine TL_nil <| T_ret ?_
  obtain ⟨rfl, rfl⟩ := inj2 H
  exact Ret2 (t := 2) (t' := 3) (ts := []) () Tryz.results154 rfl (show InR (0) by decide) (fun S w h => trivial)
 replace H := if_f h4 H
 refine TL_mv 2 [(1, .pointer (some ⟨b1, 0, none⟩)), (32, .bool false)] rfl fun rest => TL_nil <| T_cond_false rfl <| T_skip <| T_seq <| T_region ?_
 refine TL_val rfl rfl (r_field fl25_1 rfl) <| TL_step rfl rfl (oe_loadM (z' := t1.2) 0 rfl rfl (Sub.snd eBool (eS eU) (t1)) ty23) fun u8 _ => ?_
 obtain ⟨j4, hj4, hlj4, H⟩ := ckI_s H
 obtain ⟨y4, hy4, H⟩ := nm_s H
 refine TL_step rfl rfl (oe_index (e := eU) (xs := t1.2) (k := j4) (y := y4) rfl (vi hj4) Tryz.underlying23 ty102 (getE (z := 0) hlj4 hy4) (fun S w h => h.1)) fun p4 _ => TL_step rfl rfl (oe_load_u64 (y := y4) rfl ty102 (fun S w h => h.1)) fun _ hv4 => ?_
 obtain ⟨x2, hx2, H⟩ := nm_s H
 refine TL_val rfl rfl (r_conv (c := x2) Tryz.underlying102 Tryz.underlying3 rfl ((wrap_sgn hv4).trans hx2.symm)) <| TL_mv 2 [(2, iv (x2)), (3, .bool true)] rfl fun rest => TL_nil <| T_ret ?_
 obtain ⟨rfl, rfl⟩ := inj2 H
 exact Ret2 (t := 2) (t' := 3) (ts := []) () Tryz.results154 rfl (eq_r hx2 (sgn_r hv4)) (fun S w h => trivial)
set_option maxRecDepth 100000 in
set_option maxHeartbeats 1000000 in
theorem c_prime_Mod (fu : Nat) (a0 : Zr) (va0 : Value) (a1 : Int) (qa1 : InR a1) (r0 : Int) (r1 : Int) (H : M_prime_Mod fu a0 a1 = some (r0, r1)) : Fn Tryz.prog 99 [va0, iv a1].toArray [fV eZ (a0) va0] (fun _ : Unit => .tuple #[iv (r0), iv (r1)]) (fun _ => []) (fun _ => InR r0 ∧ InR r1) := by
 unfold M_prime_Mod at H
 refine Fn_intro Tryz.func99 rfl rfl fun we Se rest => T_seq <| T_region <| TL_step rfl rfl (oe_box (e := eZ) (z := a0) rfl (fun S w h => h.1)) fun p1 _ => TL_mv 2 [(1, iv (a1)), (2, p1)] rfl fun rest => TL_nil ?_
 refine T_seq ?_
 obtain ⟨t1, he1, H⟩ := bd_s H
 obtain ⟨⟨t2, x1⟩, he2, H⟩ := bd_s H
 refine T_any (mE := []) 9 [prE (fun u : Value => u) (fun u => [fV eZ (a0) u]) (fun _ => True), prE (fun _ : Unit => iv (a1)) (fun _ => []) (fun _ => InR a1), prE (fun u : Value => u) (fun u => [fV eZ (t1) u]) (fun _ => True), prE (fun u : Value => .tuple #[u, iv (x1)]) (fun u => [fV eZ (t2) u]) (fun _ => InR x1), prE (fun u : Value => .tuple #[u, iv (x1)]) (fun u => [fV eZ (t2) u]) (fun _ => InR x1), prE (fun u : Value => u) (fun u => [fV eZ (t2) u]) (fun _ => True), prE (fun _ : Unit => iv (x1)) (fun _ => []) (fun _ => InR x1), prT, prT] [none, none, none, none, none, none, none, some (0, false), some (0, true)] [⟨some 7, 6, some 8, fun b v => mP (ERep.c eZ) 25 v (bif b then t2 else (false, []))⟩] [6, 16] rfl (by kernel_rfl) rfl rfl (by kernel_rfl) rfl (by kernel_rfl) ⟨?_, ?_, ?_, ?_, ?_, ?_, ?_, ?_, ?_, trivial⟩ ?_
 ·intro S w env hS hM hΓ hl
  obtain ⟨e2, _⟩ := hl
  exact ⟨fun _ => ob_E (Γ := [fP eZ (a0) p1, fV eZ (a0) va0]) (oe_load (e := eZ) (y := a0) (e2.trans rfl) ty25 (fun S w h => h.1)) hS hM hΓ, fun hc => (by cases hc)⟩
 ·intro S w env hS hM hΓ hl
  obtain ⟨e1, _⟩ := hl
  exact ⟨fun _ => ob_VE (p := InR a1) (r_mv (e1.trans rfl)) qa1, fun hc => (by cases hc)⟩
 ·intro S w env hS hM hΓ hl
  obtain ⟨⟨_, e12, ho1, f12⟩, _⟩ := hl
  exact ⟨fun _ => ob_E (Γ := [fP eZ (a0) p1, fV eZ (a0) va0]) (oe_call (by kernel_rfl) (c_zint_Of fu a1 ho1 t1 he1) (la_cons e12 la_nil) (fun S w h => trivial)) hS hM hΓ, fun hc => (by cases hc)⟩
 ·intro S w env hS hM hΓ hl
  obtain ⟨⟨u1, e11, _, f11⟩, ⟨u2, e13, _, f13⟩, _⟩ := hl
  exact ⟨fun _ => ob_E (Γ := [fV eZ (a0) u1, fV eZ (t1) u2, fP eZ (a0) p1, fV eZ (a0) va0]) (oe_call (by kernel_rfl) (c_prime_Rest fu a0 u1 t1 u2 t2 x1 he2) (la_cons e11 (la_cons e13 la_nil)) (fun S w h => ⟨h.1, h.2.1, trivial⟩)) hS hM ⟨f11.1, f13.1, hΓ⟩, fun hc => (by cases hc)⟩
 ·intro S w env hS hM hΓ hl
  obtain ⟨⟨u3, e14, hk1, f14⟩, _⟩ := hl
  exact ⟨fun _ => ob_any u3 (r_mv e14) hk1 ⟨f14.1, trivial⟩, fun hc => (by cases hc)⟩
 ·intro S w env hS hM hΓ hl
  obtain ⟨⟨u4, e10, ho2, f10⟩, _⟩ := hl
  exact ⟨fun _ => ob_opq (r_ex e10 rfl) ⟨f10.1, trivial⟩, fun hc => (by cases hc)⟩
 ·intro S w env hS hM hΓ hl
  obtain ⟨⟨u4, e10, ho2, f10⟩, _⟩ := hl
  exact ⟨fun _ => ob_VE (p := InR x1) (r_ex e10 rfl) ho2, fun hc => (by cases hc)⟩
 ·refine ⟨rfl, rfl, fun r hr => ?_⟩
  cases hr
  intro env F G w hst
  refine (og_allocM (e := ERep.c eZ) (z := (false, [])) ty25 (fun S w => z25 S w) w hst).mono ?_
  rintro v w' ⟨b, rfl, _, h3⟩
  exact St.weak (h3.toP 0 rfl) fun S w h => h.2
 ·refine ⟨rfl, rfl, fun r hr => ?_⟩
  cases hr
  intro env F G w hst
  have hst : St we Se _ (fHold _ _ env [6, 15] :: _) w := hst
  have hst := St.openT hst
  obtain ⟨u5, e15, _, hst⟩ := St.openE hst rfl
  obtain ⟨bq, hPq, hst⟩ := St.openP 0 hst rfl
  refine (og_store' (f := eZ) (y' := t2) (z2 := t2) 0 (by exact rfl) (by exact hPq) (by exact e15) (Sub.self eZ ((false, []))) ty25 (by exact fun S w h => h.2.1) rfl w hst).mono ?_
  rintro v w' ⟨_, _, _, h3⟩
  show St _ _ (mP (ERep.c eZ) 25 (env 6) (t2) :: F) _ _
  rw [show env 6 = _ from hPq]
  exact St.weak (h3.toP 0 rfl) fun S w h => h.2.2
 intro env w hst
 have hst : St we Se _ (fHold _ _ env [6, 16] :: _) w := hst
 have hst := St.openT hst
 obtain ⟨_, e16, ho3, hst⟩ := St.openE hst rfl
 obtain ⟨b2, hPq0, hst⟩ := St.openP 0 hst rfl
 refine fin_TL (ms' := [mB (ERep.c eZ) 25 b2 (t2)]) (Γ' := [fP eZ (a0) p1, fV eZ (a0) va0]) [(6, .pointer (some ⟨b2, 0, none⟩)), (16, iv (x1))] (agr ⟨hPq0, e16, trivial⟩) (St.weak hst fun S w h => h.2) fun rest => TL_mv 1 [(6, .pointer (some ⟨b2, 0, none⟩)), (7, iv (x1))] rfl fun rest => TL_nil <| T_seq <| T_seq <| T_region ?_
 refine TL_mv 1 [(6, .pointer (some ⟨b2, 0, none⟩)), (7, iv (x1)), (17, iv (x1))] rfl fun rest => TL_neq rfl rfl rfl rfl (fun h1 => ?_) (fun h1 => ?_)
 ·replace H := if_f h1 H
  refine TL_mv 0 [(6, .pointer (some ⟨b2, 0, none⟩)), (7, iv (x1)), (18, .bool true)] rfl fun rest => TL_nil <| T_cond_true rfl <| T_seq <| T_region <| TL_mv 3 [(4, iv 0), (5, iv (x1))] rfl fun rest => ?_
  refine TL_nil <| T_ret ?_
  obtain ⟨rfl, rfl⟩ := inj2 H
  exact Ret2 (t := 4) (t' := 5) (ts := []) () Tryz.results99 rfl (And.intro (show InR (0) by decide) ho3) (fun S w h => trivial)
 replace H := if_t h1 H
 refine TL_mv 0 [(6, .pointer (some ⟨b2, 0, none⟩)), (7, iv (x1)), (18, .bool false)] rfl fun rest => TL_nil <| T_cond_false rfl <| T_skip <| T_seq <| T_region ?_
 refine TL_step rfl rfl (oe_loadM (z' := t2) 0 rfl rfl (Sub.self eZ (t2)) ty25) fun u6 _ => ?_
 obtain ⟨⟨x2, c1⟩, he3, H⟩ := bd_s H
 refine TL_step rfl rfl (oe_call (by kernel_rfl) (c_zint_Small fu t2 u6 x2 c1 he3) rfl (fun S w h => ⟨h.1, trivial⟩)) fun _ hk2 => TL_mv 5 [(8, iv (x2))] rfl fun rest => TL_nil <| T_seq <| T_region <| TL_mv 3 [(4, iv (x2)), (5, iv 0)] rfl fun rest => ?_
 refine TL_nil <| T_ret ?_
 obtain ⟨rfl, rfl⟩ := inj2 H
 exact Ret2 (t := 4) (t' := 5) (ts := []) () Tryz.results99 rfl (And.intro hk2 (show InR (0) by decide)) (fun S w h => trivial)
set_option maxRecDepth 100000 in
set_option maxHeartbeats 1000000 in
theorem c_zpoly_Mod_1 (fu : Nat) (a0 : Int) (qa0 : InR a0) (a1 : Zr) (va1 : Value) (a2 : Int) (va2 : Value) (r0 : Int) (H : M_zpoly_Mod_1 fu a0 a1 a2 = some r0) : Fn Tryz.prog 98 [iv a0, va1, va2].toArray [fV eZ (a1) va1, fP eI (a2) va2] (fun _ : Unit => iv (r0)) (fun _ => []) (fun _ => InR r0) := by
 unfold M_zpoly_Mod_1 at H
 refine Fn_intro Tryz.func98 rfl rfl fun we Se rest => T_seq <| T_region <| TL_step rfl rfl (oe_box (e := eZ) (z := a1) rfl (fun S w h => h.1)) fun p1 _ => TL_mv 1 [(2, va2), (4, p1)] rfl fun rest => TL_nil ?_
 refine T_seq <| T_region <| TL_step rfl rfl (oe_load (e := eZ) (y := a1) rfl ty25 (fun S w h => h.1)) fun u1 _ => TL_step rfl rfl (oe_load_i64 (y := a2) rfl ty3 (fun S w h => h.2.2.2.1)) fun _ hv1 => ?_
 obtain ⟨⟨x1, x2⟩, he1, H⟩ := bd_s H
 refine TL_step rfl rfl (oe_call (by kernel_rfl) (c_prime_Mod fu a1 u1 a2 hv1 x1 x2 he1) rfl (fun S w h => ⟨h.1, trivial⟩)) fun _ hk1 => TL_mv 5 [(6, iv (x1))] rfl fun rest => TL_nil <| T_seq <| T_region <| TL_mv 2 [(5, iv (x1))] rfl fun rest => ?_
 refine TL_nil <| T_ret ?_
 obtain rfl := inj1 H
 exact Ret1 () Tryz.results98 rfl hk1.1 (fun S w h => trivial)
set_option maxRecDepth 100000 in
set_option maxHeartbeats 1000000 in
theorem c_zpoly_each_api_Int_int (fu : Nat) (a0 : List Zr) (va0 : Value) (a1 : Int → Zr → Option Int) (fid : Nat) (caps : List Value) (FG : List FF) (hB : fnB Tryz.prog fid = true) (hF : ∀ (xa0 : Int) (qxa0 : InR xa0) (xa1 : Zr) (vxa1 : Value) (y0 : Int), a1 xa0 xa1 = some y0 → Fn Tryz.prog fid ([(iv xa0 : Value), (vxa1 : Value)] ++ caps).toArray ([fV eZ (xa1) vxa1] ++ FG) (fun _ : Unit => iv (y0)) (fun _ => []) (fun _ => InR y0)) (r0 : List Int) (H : M_zpoly_each_api_Int_int fu a0 a1 = some r0) : FnG Tryz.prog 97 [va0, .func (.func fid) #[] caps.toArray].toArray [] ([fV (eS eZ) (a0) va0] ++ FG) (fun u : Value => u) (fun u => [mO eI 3 u (r0)]) (fun u => []) (fun _ => True) := by
 unfold M_zpoly_each_api_Int_int at H
 refine FnG_intro Tryz.func97 rfl rfl fun we Se F G rest => T_seq <| T_region <| TL_mv 1 [(0, va0), (1, .func (.func fid) #[] caps.toArray)] rfl fun rest => TL_nil <| T_seq ?_
 refine T_region <| TL_mv 1 [(0, va0), (1, .func (.func fid) #[] caps.toArray), (8, va0)] rfl fun rest => TL_step rfl rfl (oe_len (e := eZ) (xs := a0) Tryz.underlying31 rfl (fun S w h => h.1)) fun _ hl1 => ?_
 obtain ⟨hk1, H⟩ := ck_s H
 obtain ⟨t1, ht1, H⟩ := nm_s H
 refine TL_og rfl rfl (og_make' (e := eI) (z := 0) (xs := t1) (n := a0.length) Tryz.underlying51 ty3 rfl rfl (by decide) hk1 (fun S w => z3 S w) ht1) fun b1 _ => ?_
 show TL _ _ _ _ (mB (rowT eI a0.length) 3 b1 (t1) :: F) (fV (eS eZ) (a0) va0 :: (FG ++ G)) _ _ _ _
 refine TL_mv 1 [(0, va0), (1, .func (.func fid) #[] caps.toArray), (5, .slice (some ⟨b1, 0, none⟩) a0.length a0.length)] rfl fun rest => TL_nil <| T_seq <| T_seq <| T_region <| TL_mv 1 [(1, .func (.func fid) #[] caps.toArray), (5, .slice (some ⟨b1, 0, none⟩) a0.length a0.length), (11, va0)] rfl fun rest => ?_
 refine TL_step rfl rfl (oe_len (e := eZ) (xs := a0) Tryz.underlying31 rfl (fun S w h => h.1)) fun _ hl2 => TL_mv 1 [(1, .func (.func fid) #[] caps.toArray), (5, .slice (some ⟨b1, 0, none⟩) a0.length a0.length), (11, va0), (12, iv ((a0.length : Nat) : Int)), (13, iv 0)] rfl fun rest => TL_nil <| T_block ?_
 obtain ⟨s1, hL, Hc⟩ := bd_s H
 refine T_X [(.x 0, JQ we Se (G := List Int) (fun t5 => (⟨(mB (rowT eI a0.length) 3 b1 (t5) :: F), ((FG ++ G)), [(5, .slice (some ⟨b1, 0, none⟩) a0.length a0.length)]⟩ : Inv)) (fun t5 => t5 = s1 ∧ t5.length = a0.length))] ?_ ⟨?_, trivial⟩
 ·refine T_loop_s (G := Nat × Int × (List Int)) (s1 := _) (f := _) (k := fun (n1, i3, t4) => n1) (σ := fun (n1, i3, t4) => (i3, t4)) (fun (n1, i3, t4) => (⟨(mB (rowT eI a0.length) 3 b1 (t4) :: F), (fV (eS eZ) (a0) va0 :: (FG ++ G)), [(1, .func (.func fid) #[] caps.toArray), (5, .slice (some ⟨b1, 0, none⟩) a0.length a0.length), (11, va0), (12, iv ((a0.length : Nat) : Int)), (13, iv (i3))]⟩ : Inv)) (fun (n1, i3, t4) => InR i3 ∧ t4.length = a0.length) (fu, 0, t1) hL (And.intro (show InR (0) by decide) (rep_len ht1)) rfl (fun w h => St.weak h (fun S w h => ⟨h.1, h.2⟩)) ?_
  rintro ⟨n1, i3, t4⟩ ⟨H, hr3, hz3⟩ rest
  rcases n1 with _ | n1
  ·exact (loopN_z H).elim
  replace H := loopN_s H
  unfold B_zpoly_each_api_Int_int_0 at H
  refine T_prune [(1, .func (.func fid) #[] caps.toArray), (5, .slice (some ⟨b1, 0, none⟩) a0.length a0.length), (11, va0), (12, iv ((a0.length : Nat) : Int)), (13, iv (i3))] rfl fun rest => T_weak (mB (rowT eI a0.length) 3 b1 (t4) :: F) (fV (eS eZ) (a0) va0 :: (FG ++ G)) (fun w h => h) <| T_seq ?_
  obtain ⟨s2, hL, Hc⟩ := bd_s H
  refine T_X [(.n, JQ we Se (G := Bool) (fun b2 => (⟨(mB (rowT eI a0.length) 3 b1 (t4) :: F), (fV (eS eZ) (a0) va0 :: (FG ++ G)), [(1, .func (.func fid) #[] caps.toArray), (5, .slice (some ⟨b1, 0, none⟩) a0.length a0.length), (11, va0), (12, iv ((a0.length : Nat) : Int)), (13, iv (i3)), (14, .bool (b2))]⟩ : Inv)) (fun b2 => b2 = s2))] ?_ ⟨?_, trivial⟩
  ·replace H := hL
   refine T_region <| TL_lss rfl rfl rfl rfl (fun h1 => ?_) (fun h1 => ?_)
   ·replace H := if_t h1 H
    refine TL_mv 0 [(1, .func (.func fid) #[] caps.toArray), (5, .slice (some ⟨b1, 0, none⟩) a0.length a0.length), (11, va0), (12, iv ((a0.length : Nat) : Int)), (13, iv (i3)), (14, .bool true)] rfl fun rest => TL_nil ?_
    exact JQ_mk true (Option.some.inj H) rfl (fun w h => St.weak h (fun S w h => ⟨h.1, h.2⟩))
   replace H := if_f h1 H
   refine TL_mv 0 [(1, .func (.func fid) #[] caps.toArray), (5, .slice (some ⟨b1, 0, none⟩) a0.length a0.length), (11, va0), (12, iv ((a0.length : Nat) : Int)), (13, iv (i3)), (14, .bool false)] rfl fun rest => TL_nil ?_
   exact JQ_mk false (Option.some.inj H) rfl (fun w h => St.weak h (fun S w h => ⟨h.1, h.2⟩))
  refine JQ_el' ?_
  rintro b2 hs rest
  subst hs
  replace H := Hc
  clear hL
  refine JG_to (ms' := (mB (rowT eI a0.length) 3 b1 (t4) :: F)) (Γ' := (fV (eS eZ) (a0) va0 :: (FG ++ G))) (live' := [(1, .func (.func fid) #[] caps.toArray), (5, .slice (some ⟨b1, 0, none⟩) a0.length a0.length), (11, va0), (12, iv ((a0.length : Nat) : Int)), (13, iv (i3)), (14, .bool (b2))]) rfl <| T_seq <| T_cond (b2) rfl (fun hb1 => ?_) (fun hb1 => ?_)
  ·replace H := if_t hb1 H
   refine T_skip <| T_seq <| T_block <| T_seq <| T_region <| TL_mv 1 [(1, .func (.func fid) #[] caps.toArray), (5, .slice (some ⟨b1, 0, none⟩) a0.length a0.length), (11, va0), (12, iv ((a0.length : Nat) : Int)), (13, iv (i3)), (15, iv (i3))] rfl fun rest => ?_
   obtain ⟨j1, hj1, hlj1, H⟩ := ckI_s H
   obtain ⟨y1, hy1, H⟩ := nm_s H
   refine TL_step rfl rfl (oe_index (e := eZ) (xs := a0) (k := j1) (y := y1) rfl (vi hj1) Tryz.underlying31 ty25 (getE (z := (false, [])) hlj1 hy1) (fun S w h => h.1)) fun p1 _ => TL_step rfl rfl (oe_load (e := eZ) (y := y1) rfl ty25 (fun S w h => h.1)) fun u1 _ => TL_og rfl rfl (og_allocM (e := ERep.c eZ) (z := (false, [])) ty25 (fun S w => z25 S w)) fun b3 _ => ?_
   show TL _ _ _ _ (mB (ERep.c eZ) 25 b3 ((false, [])) :: mB (rowT eI a0.length) 3 b1 (t4) :: F) (fV eZ (y1) u1 :: fP eZ (y1) p1 :: fV (eS eZ) (a0) va0 :: (FG ++ G)) _ _ _ _
   refine TL_mv 1 [(1, .func (.func fid) #[] caps.toArray), (5, .slice (some ⟨b1, 0, none⟩) a0.length a0.length), (6, iv (i3)), (7, .pointer (some ⟨b3, 0, none⟩)), (11, va0), (12, iv ((a0.length : Nat) : Int)), (13, iv (i3)), (17, u1)] rfl fun rest => TL_og rfl rfl (og_store' (f := eZ) (y' := y1) (z2 := y1) 0 rfl rfl rfl (Sub.self eZ ((false, []))) ty25 (fun S w h => h.1) rfl) fun _ _ => ?_
   show TL _ _ _ _ (mB (ERep.c eZ) 25 b3 (y1) :: mB (rowT eI a0.length) 3 b1 (t4) :: F) (fV eZ (y1) u1 :: fP eZ (y1) p1 :: fV (eS eZ) (a0) va0 :: (FG ++ G)) _ _ _ _
   refine TL_mv 0 [(1, .func (.func fid) #[] caps.toArray), (5, .slice (some ⟨b1, 0, none⟩) a0.length a0.length), (6, iv (i3)), (7, .pointer (some ⟨b3, 0, none⟩)), (11, va0), (12, iv ((a0.length : Nat) : Int)), (13, iv (i3))] rfl fun rest => TL_nil <| T_region <| TL_mv 4 [(1, .func (.func fid) #[] caps.toArray), (5, .slice (some ⟨b1, 0, none⟩) a0.length a0.length), (7, .pointer (some ⟨b3, 0, none⟩)), (11, va0), (12, iv ((a0.length : Nat) : Int)), (13, iv (i3)), (18, .slice (some ⟨b1, 0, none⟩) a0.length a0.length), (19, iv (i3)), (20, .func (.func fid) #[] caps.toArray), (21, iv (i3))] rfl fun rest => TL_step rfl rfl (oe_loadM (z' := y1) 0 rfl rfl (Sub.self eZ (y1)) ty25) fun u2 _ => ?_
   obtain ⟨x1, he1, H⟩ := bd_s H
   refine TL_step rfl rfl (oe_callv (args := [(iv (i3) : Value), u2]) (caps := caps) hB rfl (hF i3 hr3 y1 u2 x1 he1) rfl (fun S w h => ⟨h.1, (All.left h.2.2.2.2)⟩)) fun _ hk2 => ?_
   obtain ⟨j2, hj2, hlj2, H⟩ := ckI_s H
   refine TL_val rfl rfl (r_index Tryz.underlying51 ty3 rfl (vi hj2) (k := j2) (lt_of_len hlj2 hz3)) ?_
   obtain ⟨t6, ht6, H⟩ := nm_s H
   refine TL_og rfl rfl (og_store' (f := eI) (y' := x1) (z2 := t6) 1 rfl rfl rfl (Sub.rowT0 eI a0.length (t4) j2 _ (getD_some 0 (lt_of_len' (lt_of_len hlj2 hz3) hz3))) ty3 (fun S w h => (i64_fV hk2)) ht6) fun _ _ => ?_
   show TL _ _ _ _ (mB (ERep.c eZ) 25 b3 (y1) :: mB (rowT eI a0.length) 3 b1 (t6) :: F) (fV eZ (y1) u2 :: fV eZ (y1) u1 :: fP eZ (y1) p1 :: fV (eS eZ) (a0) va0 :: (FG ++ G)) _ _ _ _
   refine TL_mv 0 [(1, .func (.func fid) #[] caps.toArray), (5, .slice (some ⟨b1, 0, none⟩) a0.length a0.length), (11, va0), (12, iv ((a0.length : Nat) : Int)), (13, iv (i3))] rfl fun rest => TL_nil <| T_region ?_
   obtain ⟨x2, hx2, hrx2, H⟩ := ck64_s H
   refine TL_val rfl rfl (r_add (c := x2) rfl rfl (w_x hx2 hrx2)) <| TL_mv 1 [(1, .func (.func fid) #[] caps.toArray), (5, .slice (some ⟨b1, 0, none⟩) a0.length a0.length), (11, va0), (12, iv ((a0.length : Nat) : Int)), (13, iv (x2))] rfl fun rest => TL_nil ?_
   exact St_round_s (n1, x2, t6) H (And.intro hrx2 (set_len ht6 hz3)) (Nat.lt_succ_self _) rfl (fun w h => St.weak (St.drop (i := 0) h) (fun S w h => ⟨h.2.2.2.1, h.2.2.2.2⟩))
  replace H := ifb_f hb1 H
  refine T_exit ?_
  exact JQ_mk t4 (And.intro (Option.some.inj H) hz3) rfl (fun w h => St.weak h (fun S w h => h.2))
 refine JQ_el' ?_
 rintro t5 ⟨hs, hz4⟩ rest
 subst hs
 replace H := Hc
 clear hL
 refine JG_to (ms' := (mB (rowT eI a0.length) 3 b1 (t5) :: F)) (Γ' := ((FG ++ G))) (live' := [(5, .slice (some ⟨b1, 0, none⟩) a0.length a0.length)]) rfl <| T_seq <| T_region <| TL_mv 2 [(4, .slice (some ⟨b1, 0, none⟩) a0.length a0.length)] rfl fun rest => TL_nil <| T_ret ?_
 refine T_weak_st (fun w h => close_all 0 h rfl hz4 (Nat.le_refl _) (mk_le (B := 8) (by decide) hk1)) ?_
 obtain rfl := inj1 H
 intro w hw
 exact RetG (vs := [(.slice (some ⟨b1, 0, none⟩) a0.length a0.length)]) (.slice (some ⟨b1, 0, none⟩) a0.length a0.length) Tryz.results97 (by exact ⟨rfl, trivial⟩) rfl trivial (St.weak hw (fun S w h => (All.right h)))
set_option maxRecDepth 100000 in
set_option maxHeartbeats 1000000 in
theorem c_zpoly_Mod (fu : Nat) (a0 : List Zr) (va0 : Value) (a1 : Int) (qa1 : InR a1) (r0 : List Int) (r1 : Int) (H : M_zpoly_Mod fu a0 a1 = some (r0, r1)) : FnG Tryz.prog 31 [va0, iv a1].toArray [] [fV (eS eZ) (a0) va0] (fun u : Value => .tuple #[u, iv (r1)]) (fun u => [mO eI 3 u (r0)]) (fun u => []) (fun _ => InR r1) := by
 unfold M_zpoly_Mod at H
 refine FnG_intro Tryz.func31 rfl rfl fun we Se F G rest => T_seq <| T_region <| TL_step rfl rfl (oe_box (e := eI) (z := a1) rfl (fun S w h => (i64_fV qa1))) fun p1 _ => TL_mv 2 [(0, va0), (3, p1)] rfl fun rest => TL_nil ?_
 refine T_seq <| T_seq <| T_region <| TL_step rfl rfl (oe_load_i64 (y := a1) rfl ty3 (fun S w h => h.1)) fun _ hv1 => TL_lss rfl rfl rfl rfl (fun h1 => ?_) (fun h1 => ?_)
 ·replace H := if_t h1 H
  refine TL_mv 0 [(0, va0), (3, p1), (8, .bool true)] rfl fun rest => TL_nil <| T_cond_true rfl <| T_seq <| T_region <| TL_mv 2 [(4, .slice none 0 0), (5, iv 1)] rfl fun rest => ?_
  refine TL_nil <| T_ret <| T_weak_st (fun w h => St.nilO (e := eI) (E := 3) h) ?_
  obtain ⟨rfl, rfl⟩ := inj2 H
  intro w hw
  exact RetG (vs := [(.slice none 0 0), (iv 1 : Value)]) (.slice none 0 0) Tryz.results31 (by exact ⟨rfl, rfl, trivial⟩) rfl (show InR (1) by decide) (St.weak hw (fun S w h => h.2.2))
 replace H := if_f h1 H
 refine TL_mv 0 [(0, va0), (3, p1), (8, .bool false)] rfl fun rest => TL_nil <| T_cond_false rfl <| T_skip <| T_seq <| T_region ?_
 refine TL_mv 1 [(3, p1), (9, va0)] rfl fun rest => TL_val rfl rfl (r_mk (la_cons rfl la_nil)) ?_
 obtain ⟨t1, he1, H⟩ := bd_s H
 refine TL_og rfl rfl (og_callG (F := (F)) (by kernel_rfl) (c_zpoly_each_api_Int_int fu a0 va0 (fun zx0 zx1 => M_zpoly_Mod_1 fu zx0 zx1 a1) 98 [p1] [fP eI (a1) p1] (by kernel_rfl) (fun zx0 qzx0 zx1 vzx1 zy0 hh => c_zpoly_Mod_1 fu zx0 qzx0 zx1 vzx1 a1 p1 zy0 hh) t1 he1) rfl (fun S w h => ⟨h.2.1, ⟨h.1, trivial⟩⟩)) fun u1 _ => ?_
 show TL _ _ _ _ (mO eI 3 u1 (t1) :: F) (fP eI (a1) p1 :: fV (eS eZ) (a0) va0 :: G) _ _ _ _
 refine TL_mv 1 [(6, u1)] rfl fun rest => TL_nil <| T_seq <| T_block ?_
 obtain ⟨s1, hL, Hc⟩ := bd_s H
 refine T_X [(.x 0, JQ we Se (G := (List Int) × Value) (fun (t4, w3) => (⟨(mO eI 3 w3 (t4) :: F), (G), [(6, w3)]⟩ : Inv)) (fun (t4, w3) => t4 = s1))] ?_ ⟨?_, trivial⟩
 ·refine T_loop_s (G := Nat × (List Int) × Value) (s1 := _) (f := _) (k := fun (n1, t3, w2) => n1) (σ := fun (n1, t3, w2) => t3) (fun (n1, t3, w2) => (⟨(mO eI 3 w2 (t3) :: F), (G), [(6, w2)]⟩ : Inv)) (fun (n1, t3, w2) => True) (fu, t1, u1) hL trivial rfl (fun w h => St.weak h (fun S w h => h.2.2)) ?_
  rintro ⟨n1, t3, w2⟩ ⟨H, _⟩ rest
  rcases n1 with _ | n1
  ·exact (loopN_z H).elim
  replace H := loopN_s H
  unfold B_zpoly_Mod_0 at H
  refine T_prune [(6, w2)] rfl fun rest => T_weak (mO eI 3 w2 (t3) :: F) (G) (fun w h => h) <| T_seq <| T_seq <| T_region <| TL_mv 1 [(6, w2), (12, w2)] rfl fun rest => ?_
  refine TL_step rfl rfl (oe_lenM 0 rfl Tryz.underlying51 rfl) fun _ hl1 => TL_gtr rfl rfl rfl rfl (fun h2 => ?_) (fun h2 => ?_)
  ·replace H := if_t h2 H
   refine TL_mv 3 [(6, w2), (15, .bool true), (16, w2), (17, w2)] rfl fun rest => TL_step rfl rfl (oe_lenM 0 rfl Tryz.underlying51 rfl) fun _ hl2 => ?_
   obtain ⟨x1, hx1, hrx1, H⟩ := ck64_s H
   refine TL_val rfl rfl (r_sub (c := x1) rfl rfl (w_x hx1 hrx1)) ?_
   obtain ⟨j1, hj1, hlj1, H⟩ := ckI_s H
   refine TL_openO 0 rfl (pos_of_lt hlj1) fun b1 cap1 hvb1 hcb1 hmb1 => ?_
   cases hvb1
   refine TL_val rfl rfl (r_index Tryz.underlying51 ty3 rfl (vi hj1) (k := j1) hlj1) ?_
   obtain ⟨y1, hy1, H⟩ := nm_s H
   refine TL_step rfl rfl (oe_loadM_i64 (z' := y1) 0 rfl rfl (Sub.rowT0 eI cap1 (t3) j1 _ (getE (z := 0) (lt_of_len' hlj1 rfl) hy1)) ty3) fun _ hv2 => TL_eql rfl rfl rfl rfl (fun h3 => ?_) (fun h3 => ?_)
   ·replace H := if_t h3 H
    refine TL_mv 1 [(6, .slice (some ⟨b1, 0, none⟩) t3.length cap1), (16, .slice (some ⟨b1, 0, none⟩) t3.length cap1), (17, .slice (some ⟨b1, 0, none⟩) t3.length cap1), (18, iv ((t3.length : Nat) : Int)), (19, iv (x1)), (20, .pointer (some ⟨b1, 0 + j1 * 1, none⟩)), (21, iv (y1)), (22, .bool true), (23, .bool true)] rfl fun rest => TL_nil <| T_cond_true rfl <| T_skip <| T_block <| T_region ?_
    refine TL_mv 2 [(16, .slice (some ⟨b1, 0, none⟩) t3.length cap1), (17, .slice (some ⟨b1, 0, none⟩) t3.length cap1), (18, iv ((t3.length : Nat) : Int)), (19, iv (x1)), (20, .pointer (some ⟨b1, 0 + j1 * 1, none⟩)), (21, iv (y1)), (22, .bool true), (24, .slice (some ⟨b1, 0, none⟩) t3.length cap1), (25, .slice (some ⟨b1, 0, none⟩) t3.length cap1)] rfl fun rest => TL_val rfl rfl (r_len Tryz.underlying51 rfl) ?_
    obtain ⟨x2, hx2, hrx2, H⟩ := ck64_s H
    refine TL_val rfl rfl (r_sub (c := x2) rfl rfl (w_x hx2 hrx2)) ?_
    obtain ⟨j2, hj2, H⟩ := ckN_s H
    obtain ⟨hk1, H⟩ := ck_s H
    obtain ⟨t5, ht5, H⟩ := nm_s H
    refine TL_val rfl rfl (r_sliceT (h := j2) rfl Tryz.underlying51 ty3 (vi hj2) (Nat.le_trans hk1 hcb1)) <| TL_mv 1 [(6, .slice (some ⟨b1, 0, none⟩) j2 cap1), (16, .slice (some ⟨b1, 0, none⟩) t3.length cap1), (17, .slice (some ⟨b1, 0, none⟩) t3.length cap1), (18, iv ((t3.length : Nat) : Int)), (19, iv (x1)), (20, .pointer (some ⟨b1, 0 + j1 * 1, none⟩)), (21, iv (y1)), (22, .bool true)] rfl fun rest => TL_nil <| T_weak_st (fun w h => close_cut (n := j2) (ys := t5) 0 h rfl rfl hcb1 hk1 hmb1 ht5) ?_
    exact St_round_s (n1, t5, (.slice (some ⟨b1, 0, none⟩) j2 cap1 : Value)) H trivial (Nat.lt_succ_self _) rfl (fun w h => St.weak h (fun S w h => h))
   replace H := if_f h3 H
   refine TL_mv 1 [(6, .slice (some ⟨b1, 0, none⟩) t3.length cap1), (16, .slice (some ⟨b1, 0, none⟩) t3.length cap1), (17, .slice (some ⟨b1, 0, none⟩) t3.length cap1), (18, iv ((t3.length : Nat) : Int)), (19, iv (x1)), (20, .pointer (some ⟨b1, 0 + j1 * 1, none⟩)), (21, iv (y1)), (22, .bool false), (23, .bool false)] rfl fun rest => TL_nil <| T_cond_false rfl <| T_exit <| T_weak_st (fun w h => close_all 0 h rfl rfl hcb1 hmb1) ?_
   exact JQ_mk (t3, (.slice (some ⟨b1, 0, none⟩) t3.length cap1 : Value)) (Option.some.inj H) rfl (fun w h => St.weak h (fun S w h => h))
  replace H := if_f h2 H
  refine TL_mv 9 [(6, w2), (23, .bool false)] rfl fun rest => TL_nil <| T_cond_false rfl <| T_exit ?_
  exact JQ_mk (t3, w2) (Option.some.inj H) rfl (fun w h => St.weak h (fun S w h => h))
 refine JQ_el' ?_
 rintro ⟨t4, w3⟩ hs rest
 subst hs
 replace H := Hc
 clear hL
 refine JG_to (ms' := (mO eI 3 w3 (t4) :: F)) (Γ' := (G)) (live' := [(6, w3)]) rfl <| T_seq <| T_region <| TL_mv 3 [(4, w3), (5, iv 0)] rfl fun rest => TL_nil <| T_ret ?_
 obtain ⟨rfl, rfl⟩ := inj2 H
 intro w hw
 exact RetG (vs := [w3, (iv 0 : Value)]) w3 Tryz.results31 (by exact ⟨rfl, rfl, trivial⟩) rfl (show InR (0) by decide) (St.weak hw (fun S w h => h))
set_option maxRecDepth 100000 in
set_option maxHeartbeats 1000000 in
theorem c_hensel_right (fu : Nat) (a0 : List Zr) (va0 : Value) (a1 : List (List Int)) (va1 : Value) (a2 : Int) (qa2 : InR a2) (r0 : Bool) (H : M_hensel_right fu a0 a1 a2 = some r0) : Fn Tryz.prog 65 [va0, va1, iv a2].toArray [fV (eS eZ) (a0) va0, fV (eS (eS eI)) (a1) va1] (fun _ : Unit => .bool (r0)) (fun _ => []) (fun _ => True) := by
 unfold M_hensel_right at H
 refine Fn_intro Tryz.func65 rfl rfl fun we Se rest => T_seq <| T_region <| TL_mv 1 [(0, va0), (1, va1), (2, iv (a2))] rfl fun rest => TL_nil <| T_seq ?_
 refine T_region <| TL_mv 2 [(0, va0), (1, va1), (2, iv (a2)), (18, va0), (19, iv (a2))] rfl fun rest => ?_
 obtain ⟨⟨t1, x1⟩, he1, H⟩ := bd_s H
 refine TL_og rfl rfl (og_callG (F := []) (by kernel_rfl) (c_zpoly_Mod fu a0 va0 a2 qa2 t1 x1 he1) rfl (fun S w h => ⟨h.1, trivial⟩)) fun u1 hk1 => ?_
 show TL _ _ _ _ [mO eI 3 u1 (t1)] [fV (eS eZ) (a0) va0, fV (eS (eS eI)) (a1) va1] _ _ _ _
 refine TL_mv 5 [(0, va0), (1, va1), (2, iv (a2)), (7, u1)] rfl fun rest => TL_nil <| T_seq <| T_seq <| T_region <| TL_mv 1 [(0, va0), (1, va1), (2, iv (a2)), (7, u1), (23, va0)] rfl fun rest => ?_
 refine TL_step rfl rfl (oe_len (e := eZ) (xs := a0) Tryz.underlying31 rfl (fun S w h => h.1)) fun _ hl1 => TL_eql rfl rfl rfl rfl (fun h1 => ?_) (fun h1 => ?_)
 ·replace H := if_t h1 H
  refine TL_mv 14 [(0, va0), (1, va1), (2, iv (a2)), (7, u1), (39, .bool true)] rfl fun rest => TL_nil <| T_cond_true rfl <| T_seq <| T_region <| TL_mv 1 [(6, .bool false)] rfl fun rest => ?_
  refine TL_nil <| T_ret ?_
  obtain rfl := inj1 H
  exact Ret1 () Tryz.results65 rfl trivial (fun S w h => trivial)
 replace H := if_f h1 H
 refine TL_mv 2 [(0, va0), (1, va1), (2, iv (a2)), (7, u1), (26, .bool false), (27, u1)] rfl fun rest => TL_step rfl rfl (oe_lenM 0 rfl Tryz.underlying51 rfl) fun _ hl2 => TL_mv 1 [(0, va0), (1, va1), (2, iv (a2)), (7, u1), (26, .bool false), (28, iv ((t1.length : Nat) : Int)), (29, va0)] rfl fun rest => TL_step rfl rfl (oe_len (e := eZ) (xs := a0) Tryz.underlying31 rfl (fun S w h => h.1)) fun _ hl3 => TL_neq rfl rfl rfl rfl (fun h2 => ?_) (fun h2 => ?_)
 ·replace H := if_f h2 H
  refine TL_mv 8 [(0, va0), (1, va1), (2, iv (a2)), (7, u1), (39, .bool true)] rfl fun rest => TL_nil <| T_cond_true rfl <| T_seq <| T_region <| TL_mv 1 [(6, .bool false)] rfl fun rest => ?_
  refine TL_nil <| T_ret ?_
  obtain rfl := inj1 H
  exact Ret1 () Tryz.results65 rfl trivial (fun S w h => trivial)
 replace H := if_t h2 H
 refine TL_mv 3 [(0, va0), (1, va1), (2, iv (a2)), (7, u1), (33, .bool false), (34, va1)] rfl fun rest => TL_step rfl rfl (oe_len (e := (eS eI)) (xs := a1) Tryz.underlying32 rfl (fun S w h => h.2.1)) fun _ hl4 => TL_mv 1 [(0, va0), (1, va1), (2, iv (a2)), (7, u1), (33, .bool false), (35, iv ((a1.length : Nat) : Int)), (36, va0)] rfl fun rest => TL_step rfl rfl (oe_len (e := eZ) (xs := a0) Tryz.underlying31 rfl (fun S w h => h.1)) fun _ hl5 => TL_gtr rfl rfl rfl rfl (fun h3 => ?_) (fun h3 => ?_)
 ·replace H := if_t h3 H
  refine TL_mv 1 [(0, va0), (1, va1), (2, iv (a2)), (7, u1), (39, .bool true)] rfl fun rest => TL_nil <| T_cond_true rfl <| T_seq <| T_region <| TL_mv 1 [(6, .bool false)] rfl fun rest => ?_
  refine TL_nil <| T_ret ?_
  obtain rfl := inj1 H
  exact Ret1 () Tryz.results65 rfl trivial (fun S w h => trivial)
 replace H := if_f h3 H
 refine TL_mv 1 [(0, va0), (1, va1), (2, iv (a2)), (7, u1), (39, .bool false)] rfl fun rest => TL_nil <| T_cond_false rfl <| T_skip <| T_seq <| T_seq ?_
 refine T_region <| TL_mv 1 [(0, va0), (1, va1), (2, iv (a2)), (7, u1), (40, va1)] rfl fun rest => TL_step rfl rfl (oe_len (e := (eS eI)) (xs := a1) Tryz.underlying32 rfl (fun S w h => h.2.1)) fun _ hl6 => TL_mv 1 [(0, va0), (1, va1), (2, iv (a2)), (7, u1), (40, va1), (41, iv ((a1.length : Nat) : Int)), (42, iv 0)] rfl fun rest => TL_nil <| T_block ?_
 obtain ⟨s1, hL, Hc⟩ := bd_s H
 refine T_X [(.x 0, JQ we Se (G := (List Int) × Value) (fun (t5, w4) => (⟨[mO eI 3 w4 (t5)], [fV (eS (eS eI)) (a1) va1], [(1, va1), (2, iv (a2)), (7, w4)]⟩ : Inv)) (fun (t5, w4) => .inl t5 = s1)), (.r, JQ we Se (G := Unit) (fun _ => (⟨[], [], [(6, .bool false)]⟩ : Inv)) (fun _ => .inr () = s1))] ?_ ⟨?_, ?_, trivial⟩
 ·refine T_loop_s (G := Nat × (List Int) × Int × Value) (s1 := _) (f := _) (k := fun (n1, t4, i3, w3) => n1) (σ := fun (n1, t4, i3, w3) => (t4, i3)) (fun (n1, t4, i3, w3) => (⟨[mO eI 3 w3 (t4)], [fV (eS eZ) (a0) va0, fV (eS (eS eI)) (a1) va1], [(0, va0), (1, va1), (2, iv (a2)), (7, w3), (40, va1), (41, iv ((a1.length : Nat) : Int)), (42, iv (i3))]⟩ : Inv)) (fun (n1, t4, i3, w3) => InR i3) (fu, t1, 0, u1) hL (show InR (0) by decide) rfl (fun w h => St.weak h (fun S w h => ⟨h.1, h.2.1, trivial⟩)) ?_
  rintro ⟨n1, t4, i3, w3⟩ ⟨H, hr3⟩ rest
  rcases n1 with _ | n1
  ·exact (loopN_z H).elim
  replace H := loopN_s H
  unfold B_hensel_right_0 at H
  refine T_prune [(0, va0), (1, va1), (2, iv (a2)), (7, w3), (40, va1), (41, iv ((a1.length : Nat) : Int)), (42, iv (i3))] rfl fun rest => T_weak [mO eI 3 w3 (t4)] [fV (eS eZ) (a0) va0, fV (eS (eS eI)) (a1) va1] (fun w h => h) <| T_seq ?_
  obtain ⟨s2, hL, Hc⟩ := bd_s H
  refine T_X [(.n, JQ we Se (G := (List Int) × Bool × Value) (fun (t6, b1, w5) => (⟨[mO eI 3 w5 (t6)], [fV (eS eZ) (a0) va0, fV (eS (eS eI)) (a1) va1], [(0, va0), (1, va1), (2, iv (a2)), (7, w5), (40, va1), (41, iv ((a1.length : Nat) : Int)), (42, iv (i3)), (43, .bool (b1))]⟩ : Inv)) (fun (t6, b1, w5) => (t6, b1) = s2))] ?_ ⟨?_, trivial⟩
  ·replace H := hL
   refine T_region <| TL_lss rfl rfl rfl rfl (fun h4 => ?_) (fun h4 => ?_)
   ·replace H := if_t h4 H
    refine TL_mv 0 [(0, va0), (1, va1), (2, iv (a2)), (7, w3), (40, va1), (41, iv ((a1.length : Nat) : Int)), (42, iv (i3)), (43, .bool true)] rfl fun rest => TL_nil ?_
    exact JQ_mk (t4, true, w3) (Option.some.inj H) rfl (fun w h => St.weak h (fun S w h => ⟨h.1, h.2.1, trivial⟩))
   replace H := if_f h4 H
   refine TL_mv 0 [(0, va0), (1, va1), (2, iv (a2)), (7, w3), (40, va1), (41, iv ((a1.length : Nat) : Int)), (42, iv (i3)), (43, .bool false)] rfl fun rest => TL_nil ?_
   exact JQ_mk (t4, false, w3) (Option.some.inj H) rfl (fun w h => St.weak h (fun S w h => ⟨h.1, h.2.1, trivial⟩))
  refine JQ_el' ?_
  rintro ⟨t6, b1, w5⟩ hs rest
  subst hs
  replace H := Hc
  clear hL
  refine JG_to (ms' := [mO eI 3 w5 (t6)]) (Γ' := [fV (eS eZ) (a0) va0, fV (eS (eS eI)) (a1) va1]) (live' := [(0, va0), (1, va1), (2, iv (a2)), (7, w5), (40, va1), (41, iv ((a1.length : Nat) : Int)), (42, iv (i3)), (43, .bool (b1))]) rfl <| T_seq <| T_cond (b1) rfl (fun hb1 => ?_) (fun hb1 => ?_)
  ·replace H := if_t hb1 H
   refine T_skip <| T_seq <| T_block <| T_seq <| T_region <| TL_mv 1 [(0, va0), (1, va1), (2, iv (a2)), (7, w5), (40, va1), (41, iv ((a1.length : Nat) : Int)), (42, iv (i3)), (44, iv (i3))] rfl fun rest => ?_
   obtain ⟨j1, hj1, hlj1, H⟩ := ckI_s H
   obtain ⟨y1, hy1, H⟩ := nm_s H
   refine TL_step rfl rfl (oe_index (e := (eS eI)) (xs := a1) (k := j1) (y := y1) rfl (vi hj1) Tryz.underlying32 ty51 (getE (z := []) hlj1 hy1) (fun S w h => h.2.1)) fun p1 _ => TL_step rfl rfl (oe_load (e := (eS eI)) (y := y1) rfl ty51 (fun S w h => h.1)) fun u2 _ => TL_mv 2 [(0, va0), (1, va1), (2, iv (a2)), (7, w5), (9, iv (i3)), (10, u2), (40, va1), (41, iv ((a1.length : Nat) : Int)), (42, iv (i3))] rfl fun rest => TL_nil <| T_seq <| T_seq ?_
   refine T_region <| TL_mv 1 [(0, va0), (1, va1), (2, iv (a2)), (7, w5), (9, iv (i3)), (10, u2), (40, va1), (41, iv ((a1.length : Nat) : Int)), (42, iv (i3)), (47, u2)] rfl fun rest => TL_step rfl rfl (oe_len (e := eI) (xs := y1) Tryz.underlying51 rfl (fun S w h => h.1)) fun _ hl7 => TL_mv 1 [(0, va0), (1, va1), (2, iv (a2)), (7, w5), (9, iv (i3)), (10, u2), (40, va1), (41, iv ((a1.length : Nat) : Int)), (42, iv (i3)), (48, iv ((y1.length : Nat) : Int)), (49, va0)] rfl fun rest => TL_step rfl rfl (oe_len (e := eZ) (xs := a0) Tryz.underlying31 rfl (fun S w h => h.2.2.1)) fun _ hl8 => TL_gtr rfl rfl rfl rfl (fun h5 => ?_) (fun h5 => ?_)
   ·replace H := if_t h5 H
    refine TL_mv 6 [(0, va0), (1, va1), (2, iv (a2)), (7, w5), (9, iv (i3)), (10, u2), (40, va1), (41, iv ((a1.length : Nat) : Int)), (42, iv (i3)), (57, .bool true)] rfl fun rest => TL_nil <| T_cond_true rfl <| T_seq <| T_region <| TL_mv 1 [(6, .bool false)] rfl fun rest => ?_
    refine TL_nil <| T_ret ?_
    exact JQ_mk () (Option.some.inj H) rfl (fun w h => St.weak (St.drop (i := 0) h) (fun S w h => trivial))
   replace H := if_f h5 H
   refine TL_mv 3 [(0, va0), (1, va1), (2, iv (a2)), (7, w5), (9, iv (i3)), (10, u2), (40, va1), (41, iv ((a1.length : Nat) : Int)), (42, iv (i3)), (52, .bool false), (53, u2), (54, iv (a2))] rfl fun rest => ?_
   obtain ⟨c1, he2, H⟩ := bd_s H
   refine TL_step rfl rfl (oe_call (by kernel_rfl) (c_hensel_plain fu y1 u2 a2 qa2 c1 he2) rfl (fun S w h => ⟨h.1, trivial⟩)) fun _ _ => TL_mv 2 [(0, va0), (1, va1), (2, iv (a2)), (7, w5), (9, iv (i3)), (10, u2), (40, va1), (41, iv ((a1.length : Nat) : Int)), (42, iv (i3)), (53, u2), (54, iv (a2)), (55, .bool (c1)), (56, .bool (!c1)), (57, .bool (!c1))] rfl fun rest => TL_nil <| T_cond (!c1) rfl (fun hb2 => ?_) (fun hb2 => ?_)
   ·replace H := if_t hb2 H
    refine T_seq <| T_region <| TL_mv 1 [(6, .bool false)] rfl fun rest => TL_nil <| T_ret ?_
    exact JQ_mk () (Option.some.inj H) rfl (fun w h => St.weak (St.drop (i := 0) h) (fun S w h => trivial))
   replace H := ifb_f hb2 H
   refine T_skip <| T_seq <| T_region <| TL_mv 2 [(0, va0), (1, va1), (2, iv (a2)), (7, w5), (10, u2), (40, va1), (41, iv ((a1.length : Nat) : Int)), (42, iv (i3)), (53, u2), (54, iv (a2)), (55, .bool (c1)), (56, .bool (!c1)), (58, va1), (59, iv (i3))] rfl fun rest => ?_
   obtain ⟨j2, hj2, H⟩ := ckN_s H
   obtain ⟨hk2, H⟩ := ck_s H
   obtain ⟨y2, hy2, H⟩ := nm_s H
   refine TL_step rfl rfl (oe_as (oe_sliceT (e := (eS eI)) (xs := a1) (h := j2) rfl Tryz.underlying32 ty51 (vi hj2) hk2 (fun S w h => h.2.2.2.1)) hy2) fun u3 _ => TL_step rfl rfl (oe_len (e := (eS eI)) (xs := y2) Tryz.underlying32 rfl (fun S w h => h.1)) fun _ hl9 => TL_mv 1 [(0, va0), (1, va1), (2, iv (a2)), (7, w5), (10, u2), (40, va1), (41, iv ((a1.length : Nat) : Int)), (42, iv (i3)), (53, u2), (54, iv (a2)), (55, .bool (c1)), (56, .bool (!c1)), (60, u3), (61, iv ((y2.length : Nat) : Int)), (62, iv 0)] rfl fun rest => TL_nil <| T_block ?_
   obtain ⟨s3, hL, Hc⟩ := bd_s H
   refine T_X [(.x 2, JQ we Se (G := (List Int) × Value) (fun (t10, w9) => (⟨[mO eI 3 w9 (t10)], [fV (eS eI) (y1) u2, fV (eS eZ) (a0) va0, fV (eS (eS eI)) (a1) va1], [(0, va0), (1, va1), (2, iv (a2)), (7, w9), (40, va1), (41, iv ((a1.length : Nat) : Int)), (42, iv (i3)), (53, u2), (54, iv (a2)), (55, .bool (c1)), (56, .bool (!c1))]⟩ : Inv)) (fun (t10, w9) => .inl t10 = s3)), (.r, JQ we Se (G := Unit) (fun _ => (⟨[], [], [(6, .bool false)]⟩ : Inv)) (fun _ => .inr () = s3))] ?_ ⟨?_, ?_, trivial⟩
   ·refine T_loop_s (G := Nat × (List Int) × Int × Value) (s1 := _) (f := _) (k := fun (n2, t9, i6, w8) => n2) (σ := fun (n2, t9, i6, w8) => (t9, i6)) (fun (n2, t9, i6, w8) => (⟨[mO eI 3 w8 (t9)], [fV (eS (eS eI)) (y2) u3, fV (eS eI) (y1) u2, fV (eS eZ) (a0) va0, fV (eS (eS eI)) (a1) va1], [(0, va0), (1, va1), (2, iv (a2)), (7, w8), (10, u2), (40, va1), (41, iv ((a1.length : Nat) : Int)), (42, iv (i3)), (53, u2), (54, iv (a2)), (55, .bool (c1)), (56, .bool (!c1)), (60, u3), (61, iv ((y2.length : Nat) : Int)), (62, iv (i6))]⟩ : Inv)) (fun (n2, t9, i6, w8) => InR i6) (fu, t6, 0, w5) hL (show InR (0) by decide) rfl (fun w h => St.weak h (fun S w h => ⟨h.1, h.2.1, h.2.2.2.1, h.2.2.2.2.1, trivial⟩)) ?_
    rintro ⟨n2, t9, i6, w8⟩ ⟨H, hr6⟩ rest
    rcases n2 with _ | n2
    ·exact (loopN_z H).elim
    replace H := loopN_s H
    unfold B_hensel_right_1 at H
    refine T_prune [(0, va0), (1, va1), (2, iv (a2)), (7, w8), (10, u2), (40, va1), (41, iv ((a1.length : Nat) : Int)), (42, iv (i3)), (53, u2), (54, iv (a2)), (55, .bool (c1)), (56, .bool (!c1)), (60, u3), (61, iv ((y2.length : Nat) : Int)), (62, iv (i6))] rfl fun rest => T_weak [mO eI 3 w8 (t9)] [fV (eS (eS eI)) (y2) u3, fV (eS eI) (y1) u2, fV (eS eZ) (a0) va0, fV (eS (eS eI)) (a1) va1] (fun w h => h) <| T_seq <| T_region <| TL_lss rfl rfl rfl rfl (fun h6 => ?_) (fun h6 => ?_)
    ·replace H := if_t h6 H
     refine TL_mv 0 [(0, va0), (1, va1), (2, iv (a2)), (7, w8), (10, u2), (40, va1), (41, iv ((a1.length : Nat) : Int)), (42, iv (i3)), (53, u2), (54, iv (a2)), (55, .bool (c1)), (56, .bool (!c1)), (60, u3), (61, iv ((y2.length : Nat) : Int)), (62, iv (i6)), (63, .bool true)] rfl fun rest => TL_nil <| T_seq <| T_cond_true rfl <| T_skip <| T_seq ?_
     refine T_block <| T_seq <| T_region ?_
     obtain ⟨j3, hj3, hlj3, H⟩ := ckI_s H
     obtain ⟨y3, hy3, H⟩ := nm_s H
     refine TL_step rfl rfl (oe_index (e := (eS eI)) (xs := y2) (k := j3) (y := y3) rfl (vi hj3) Tryz.underlying32 ty51 (getE (z := []) hlj3 hy3) (fun S w h => h.1)) fun p2 _ => TL_step rfl rfl (oe_load (e := (eS eI)) (y := y3) rfl ty51 (fun S w h => h.1)) fun u4 _ => TL_mv 1 [(0, va0), (1, va1), (2, iv (a2)), (7, w8), (10, u2), (12, u4), (40, va1), (41, iv ((a1.length : Nat) : Int)), (42, iv (i3)), (53, u2), (54, iv (a2)), (55, .bool (c1)), (56, .bool (!c1)), (60, u3), (61, iv ((y2.length : Nat) : Int)), (62, iv (i6))] rfl fun rest => TL_nil <| T_seq <| T_region ?_
     refine TL_mv 3 [(0, va0), (1, va1), (2, iv (a2)), (7, w8), (10, u2), (40, va1), (41, iv ((a1.length : Nat) : Int)), (42, iv (i3)), (53, u2), (54, iv (a2)), (55, .bool (c1)), (56, .bool (!c1)), (60, u3), (61, iv ((y2.length : Nat) : Int)), (62, iv (i6)), (67, u2), (68, u4), (69, iv (a2))] rfl fun rest => ?_
     obtain ⟨⟨t11, x2⟩, he3, H⟩ := bd_s H
     refine TL_step rfl rfl (oe_call (by kernel_rfl) (c_fpoly_Gcd fu y1 u2 y3 u4 a2 qa2 t11 x2 he3) rfl (fun S w h => ⟨h.2.2.2.1, h.1, trivial⟩)) fun u5 hk3 => TL_mv 5 [(0, va0), (1, va1), (2, iv (a2)), (7, w8), (10, u2), (13, u5), (40, va1), (41, iv ((a1.length : Nat) : Int)), (42, iv (i3)), (53, u2), (54, iv (a2)), (55, .bool (c1)), (56, .bool (!c1)), (60, u3), (61, iv ((y2.length : Nat) : Int)), (62, iv (i6))] rfl fun rest => TL_sel [fV (eS eI) (t11) u5, fV (eS (eS eI)) (y2) u3, fV (eS eI) (y1) u2, fV (eS eZ) (a0) va0, fV (eS (eS eI)) (a1) va1] (fun S w h => ⟨h.1, h.2.2.2.1, h.2.2.2.2.1, h.2.2.2.2.2.1, h.2.2.2.2.2.2.1, trivial⟩) <| TL_nil <| T_seq <| T_region ?_
     refine TL_mv 1 [(0, va0), (1, va1), (2, iv (a2)), (7, w8), (10, u2), (40, va1), (41, iv ((a1.length : Nat) : Int)), (42, iv (i3)), (53, u2), (54, iv (a2)), (55, .bool (c1)), (56, .bool (!c1)), (60, u3), (61, iv ((y2.length : Nat) : Int)), (62, iv (i6)), (73, u5)] rfl fun rest => TL_step rfl rfl (oe_len (e := eI) (xs := t11) Tryz.underlying51 rfl (fun S w h => h.1)) fun _ hl10 => TL_neq rfl rfl rfl rfl (fun h7 => ?_) (fun h7 => ?_)
     ·replace H := if_f h7 H
      refine TL_mv 0 [(0, va0), (1, va1), (2, iv (a2)), (7, w8), (10, u2), (40, va1), (41, iv ((a1.length : Nat) : Int)), (42, iv (i3)), (53, u2), (54, iv (a2)), (55, .bool (c1)), (56, .bool (!c1)), (60, u3), (61, iv ((y2.length : Nat) : Int)), (62, iv (i6)), (75, .bool true)] rfl fun rest => TL_nil <| T_cond_true rfl <| T_seq <| T_region <| TL_mv 1 [(6, .bool false)] rfl fun rest => ?_
      refine TL_nil <| T_ret ?_
      exact JQ_mk () (Option.some.inj H) rfl (fun w h => St.weak (St.drop (i := 0) h) (fun S w h => trivial))
     replace H := if_t h7 H
     refine TL_mv 0 [(0, va0), (1, va1), (2, iv (a2)), (7, w8), (10, u2), (40, va1), (41, iv ((a1.length : Nat) : Int)), (42, iv (i3)), (53, u2), (54, iv (a2)), (55, .bool (c1)), (56, .bool (!c1)), (60, u3), (61, iv ((y2.length : Nat) : Int)), (62, iv (i6)), (75, .bool false)] rfl fun rest => TL_nil <| T_cond_false rfl <| T_skip <| T_region ?_
     obtain ⟨x3, hx3, hrx3, H⟩ := ck64_s H
     refine TL_val rfl rfl (r_add (c := x3) rfl rfl (w_x hx3 hrx3)) <| TL_mv 1 [(0, va0), (1, va1), (2, iv (a2)), (7, w8), (10, u2), (40, va1), (41, iv ((a1.length : Nat) : Int)), (42, iv (i3)), (53, u2), (54, iv (a2)), (55, .bool (c1)), (56, .bool (!c1)), (60, u3), (61, iv ((y2.length : Nat) : Int)), (62, iv (x3))] rfl fun rest => TL_nil ?_
     exact St_round_s (n2, t9, x3, w8) H hrx3 (Nat.lt_succ_self _) rfl (fun w h => St.weak h (fun S w h => ⟨h.2.1, h.2.2.1, h.2.2.2.1, h.2.2.2.2.1, trivial⟩))
    replace H := if_f h6 H
    refine TL_mv 0 [(0, va0), (1, va1), (2, iv (a2)), (7, w8), (10, u2), (40, va1), (41, iv ((a1.length : Nat) : Int)), (42, iv (i3)), (53, u2), (54, iv (a2)), (55, .bool (c1)), (56, .bool (!c1)), (60, u3), (61, iv ((y2.length : Nat) : Int)), (62, iv (i6)), (63, .bool false)] rfl fun rest => TL_nil <| T_seq <| T_cond_false rfl <| T_exit ?_
    exact JQ_mk (t9, w8) (Option.some.inj H) rfl (fun w h => St.weak h (fun S w h => ⟨h.2.1, h.2.2.1, h.2.2.2.1, trivial⟩))
   ·refine JQ_el' ?_
    rintro ⟨t10, w9⟩ hs rest
    subst hs
    replace H := Hc
    clear hL
    refine JG_to (ms' := [mO eI 3 w9 (t10)]) (Γ' := [fV (eS eI) (y1) u2, fV (eS eZ) (a0) va0, fV (eS (eS eI)) (a1) va1]) (live' := [(0, va0), (1, va1), (2, iv (a2)), (7, w9), (40, va1), (41, iv ((a1.length : Nat) : Int)), (42, iv (i3)), (53, u2), (54, iv (a2)), (55, .bool (c1)), (56, .bool (!c1))]) rfl <| T_region ?_
    obtain ⟨x4, hx4, hrx4, H⟩ := ck64_s H
    refine TL_val rfl rfl (r_add (c := x4) rfl rfl (w_x hx4 hrx4)) <| TL_mv 1 [(0, va0), (1, va1), (2, iv (a2)), (7, w9), (40, va1), (41, iv ((a1.length : Nat) : Int)), (42, iv (x4)), (53, u2), (54, iv (a2)), (55, .bool (c1)), (56, .bool (!c1))] rfl fun rest => TL_nil ?_
    exact St_round_s (n1, t10, x4, w9) H hrx4 (Nat.lt_succ_self _) rfl (fun w h => St.weak h (fun S w h => ⟨h.2.1, h.2.2.1, trivial⟩))
   refine JQ_el' ?_
   rintro _ hs rest
   subst hs
   replace H := Hc
   clear hL
   refine JG_to (ms' := []) (Γ' := []) (live' := [(6, .bool false)]) rfl ?_
   exact JQ_mk () (Option.some.inj H) rfl (fun w h => St.weak h (fun S w h => trivial))
  replace H := ifb_f hb1 H
  refine T_exit ?_
  exact JQ_mk (t6, w5) (Option.some.inj H) rfl (fun w h => St.weak h (fun S w h => ⟨h.2.1, trivial⟩))
 ·refine JQ_el' ?_
  rintro ⟨t5, w4⟩ hs rest
  subst hs
  replace H := Hc
  clear hL
  refine JG_to (ms' := [mO eI 3 w4 (t5)]) (Γ' := [fV (eS (eS eI)) (a1) va1]) (live' := [(1, va1), (2, iv (a2)), (7, w4)]) rfl <| T_seq ?_
  obtain ⟨t12, he4, H⟩ := bd_s H
  obtain ⟨x5, hx5, hrx5, H⟩ := ck64_s H
  refine T_weak_st (fun w h => fz_own 0 h rfl) ?_
  obtain ⟨j4, hj4, H⟩ := ckN_s H
  obtain ⟨hk4, H⟩ := ck_s H
  obtain ⟨y4, hy4, H⟩ := nm_s H
  obtain ⟨⟨t13, x6⟩, he5, H⟩ := bd_s H
  refine T_draw 14 [prV (va1), prE (fun _ : Unit => iv (a2)) (fun _ => []) (fun _ => InR a2), prE (fun u : Value => u) (fun u => [fV (eS eI) (t12) u]) (fun _ => True), prV (w4), prV (w4), prE (fun _ : Unit => iv ((t5.length : Nat) : Int)) (fun _ => []) (fun _ => t5.length ≤ 9223372036854775807), prE (fun _ : Unit => iv (x5)) (fun _ => []) (fun _ => InR x5), prE (fun u : Value => u) (fun u => [fV (eS eI) (y4) u]) (fun _ => True), prE (fun _ : Unit => iv (a2)) (fun _ => []) (fun _ => InR a2), prE (fun u : Value => .tuple #[u, iv (x6)]) (fun u => [fV (eS eI) (t13) u]) (fun _ => InR x6), prE (fun u : Value => .tuple #[u, iv (x6)]) (fun u => [fV (eS eI) (t13) u]) (fun _ => InR x6), prE (fun u : Value => u) (fun u => [fV (eS eI) (t13) u]) (fun _ => True), prE (fun _ : Unit => iv (x6)) (fun _ => []) (fun _ => InR x6), prE (fun u : Value => u) (fun u => [fV (eS eI) (t13) u]) (fun _ => True)] [2, 7, 15, 90] rfl (by kernel_rfl) rfl (by kernel_rfl) ⟨?_, ?_, ?_, ?_, ?_, ?_, ?_, ?_, ?_, ?_, ?_, ?_, ?_, ?_, trivial⟩ ?_
  ·intro S w env hS hM hΓ hl
   obtain ⟨e1, _⟩ := hl
   exact ⟨fun _ => ob_mv (e1.trans rfl), fun hc => (by cases hc)⟩
  ·intro S w env hS hM hΓ hl
   obtain ⟨e2, _⟩ := hl
   exact ⟨fun _ => ob_VE (p := InR a2) (r_mv (e2.trans rfl)) qa2, fun hc => (by cases hc)⟩
  ·intro S w env hS hM hΓ hl
   obtain ⟨e79, ⟨_, e80, ho1, f80⟩, _⟩ := hl
   exact ⟨fun _ => ob_E (Γ := [fV (eS eI) (t5) w4, fV (eS (eS eI)) (a1) va1]) (oe_call (by kernel_rfl) (z_hensel_product fu a1 va1 a2 ho1 t12 he4) (la_cons e79 (la_cons e80 la_nil)) (fun S w h => ⟨h.2.1, trivial⟩)) hS hM hΓ, fun hc => (by cases hc)⟩
  ·intro S w env hS hM hΓ hl
   obtain ⟨e7, _⟩ := hl
   exact ⟨fun _ => ob_mv (e7.trans rfl), fun hc => (by cases hc)⟩
  ·intro S w env hS hM hΓ hl
   obtain ⟨e7, _⟩ := hl
   exact ⟨fun _ => ob_mv (e7.trans rfl), fun hc => (by cases hc)⟩
  ·intro S w env hS hM hΓ hl
   obtain ⟨e83, _⟩ := hl
   exact ⟨fun _ => ob_E (Γ := [fV (eS eI) (t5) w4, fV (eS (eS eI)) (a1) va1]) (oe_len (e := eI) (xs := t5) Tryz.underlying51 e83 (fun S w h => h.1)) hS hM hΓ, fun hc => (by cases hc)⟩
  ·intro S w env hS hM hΓ hl
   obtain ⟨⟨_, e84, hl11, f84⟩, _⟩ := hl
   exact ⟨fun _ => ob_VE (p := InR x5) (r_sub (c := x5) e84 rfl (w_x hx5 hrx5)) hrx5, fun hc => (by cases hc)⟩
  ·intro S w env hS hM hΓ hl
   obtain ⟨e82, ⟨_, e85, ho2, f85⟩, _⟩ := hl
   exact ⟨fun _ => ob_E (Γ := [fV (eS eI) (t5) w4, fV (eS (eS eI)) (a1) va1]) (oe_as (oe_sliceD (e := eI) (xs := t5) (l := j4) e82 Tryz.underlying51 ty3 (e85.trans (vi hj4)) hk4 (fun S w h => h.1)) hy4) hS hM hΓ, fun hc => (by cases hc)⟩
  ·intro S w env hS hM hΓ hl
   obtain ⟨e2, _⟩ := hl
   exact ⟨fun _ => ob_VE (p := InR a2) (r_mv (e2.trans rfl)) qa2, fun hc => (by cases hc)⟩
  ·intro S w env hS hM hΓ hl
   obtain ⟨⟨u6, e81, _, f81⟩, ⟨u7, e86, _, f86⟩, ⟨_, e87, ho3, f87⟩, _⟩ := hl
   exact ⟨fun _ => ob_E (Γ := [fV (eS eI) (t12) u6, fV (eS eI) (y4) u7, fV (eS eI) (t5) w4, fV (eS (eS eI)) (a1) va1]) (oe_call (by kernel_rfl) (z_fpoly_Mul fu t12 u6 y4 u7 a2 ho3 t13 x6 he5) (la_cons e81 (la_cons e86 (la_cons e87 la_nil))) (fun S w h => ⟨h.1, h.2.1, trivial⟩)) hS hM ⟨f81.1, f86.1, hΓ⟩, fun hc => (by cases hc)⟩
  ·intro S w env hS hM hΓ hl
   obtain ⟨⟨u8, e88, hk5, f88⟩, _⟩ := hl
   exact ⟨fun _ => ob_any u8 (r_mv e88) hk5 ⟨f88.1, trivial⟩, fun hc => (by cases hc)⟩
  ·intro S w env hS hM hΓ hl
   obtain ⟨⟨u9, e78, ho4, f78⟩, _⟩ := hl
   exact ⟨fun _ => ob_opq (r_ex e78 rfl) ⟨f78.1, trivial⟩, fun hc => (by cases hc)⟩
  ·intro S w env hS hM hΓ hl
   obtain ⟨⟨u9, e78, ho4, f78⟩, _⟩ := hl
   exact ⟨fun _ => ob_VE (p := InR x6) (r_ex e78 rfl) ho4, fun hc => (by cases hc)⟩
  ·intro S w env hS hM hΓ hl
   obtain ⟨⟨u10, e89, _, f89⟩, _⟩ := hl
   exact ⟨fun _ => ob_opq (r_as e89) ⟨f89.1, trivial⟩, fun hc => (by cases hc)⟩
  intro S w env hS hΓ hl
  obtain ⟨e2, e7, ⟨u11, e15, _, f15⟩, ⟨_, e90, ho5, f90⟩, _⟩ := hl
  refine ⟨[fV (eS eI) (t13) u11, fV (eS eI) (t5) w4, fV (eS (eS eI)) (a1) va1], [(2, iv (a2)), (7, w4), (15, u11), (90, iv (x6))], ⟨f15.1, hΓ⟩, (agr ⟨(e2.trans rfl), (e7.trans rfl), e15, e90, trivial⟩), fun rest => ?_⟩
  refine TL_mv 1 [(2, iv (a2)), (7, w4), (15, u11)] rfl fun rest => TL_nil <| T_seq <| T_region <| TL_mv 3 [(91, u11), (92, w4), (93, iv (a2))] rfl fun rest => ?_
  obtain ⟨c2, he6, H⟩ := bd_s H
  refine TL_step rfl rfl (oe_call (by kernel_rfl) (c_hensel_equal fu t13 u11 t5 w4 a2 qa2 c2 he6) rfl (fun S w h => ⟨h.1, h.2.1, trivial⟩)) fun _ _ => TL_mv 1 [(6, .bool (c2))] rfl fun rest => TL_nil <| T_ret ?_
  obtain rfl := inj1 H
  exact Ret1 () Tryz.results65 rfl trivial (fun S w h => trivial)
 refine JQ_el' ?_
 rintro _ hs rest
 subst hs
 replace H := Hc
 clear hL
 refine JG_to (ms' := []) (Γ' := []) (live' := [(6, .bool false)]) rfl ?_
 obtain rfl := inj1 H
 exact Ret1 () Tryz.results65 rfl trivial (fun S w h => trivial)
set_option maxRecDepth 100000 in
set_option maxHeartbeats 1000000 in
theorem c_zint_Add (fu : Nat) (a0 : Zr) (va0 : Value) (a1 : Zr) (va1 : Value) (r0 : Zr) (H : M_zint_Add fu a0 a1 = some r0) : Fn Tryz.prog 104 [va0, va1].toArray [fV eZ (a0) va0, fV eZ (a1) va1] (fun u : Value => u) (fun u => [fV eZ (r0) u]) (fun _ => True) := by
 unfold M_zint_Add at H
 refine Fn_intro Tryz.func104 rfl rfl fun we Se rest => T_seq <| T_region <| TL_og rfl rfl (og_boxM (e := eZ) (z := a0) rfl (fun S w h => h.1)) fun b1 _ => ?_
 show TL _ _ _ _ [mB (ERep.c eZ) 25 b1 (a0)] [fV eZ (a0) va0, fV eZ (a1) va1] _ _ _ _
 refine TL_og rfl rfl (og_boxM (e := eZ) (z := a1) rfl (fun S w h => h.2.1)) fun b2 _ => ?_
 show TL _ _ _ _ [mB (ERep.c eZ) 25 b2 (a1), mB (ERep.c eZ) 25 b1 (a0)] [fV eZ (a0) va0, fV eZ (a1) va1] _ _ _ _
 refine TL_og rfl rfl (og_allocM (e := ERep.c eZ) (z := (false, [])) ty25 (fun S w => z25 S w)) fun b3 _ => ?_
 show TL _ _ _ _ [mB (ERep.c eZ) 25 b3 ((false, [])), mB (ERep.c eZ) 25 b2 (a1), mB (ERep.c eZ) 25 b1 (a0)] [fV eZ (a0) va0, fV eZ (a1) va1] _ _ _ _
 refine TL_mv 0 [(2, .pointer (some ⟨b1, 0, none⟩)), (3, .pointer (some ⟨b2, 0, none⟩)), (4, .pointer (some ⟨b3, 0, none⟩))] rfl fun rest => TL_nil <| T_seq <| T_seq <| T_region <| TL_val rfl rfl (r_field fl25_0 rfl) ?_
 refine TL_step rfl rfl (oe_loadM_bool (z' := a0.1) 2 rfl rfl (Sub.fst eBool (eS eU) (a0)) ty4) fun _ _ => TL_val rfl rfl (r_field fl25_0 rfl) <| TL_step rfl rfl (oe_loadM_bool (z' := a1.1) 1 rfl rfl (Sub.fst eBool (eS eU) (a1)) ty4) fun _ _ => ?_
 obtain ⟨c1, hc1, H⟩ := nm_s H
 refine TL_val rfl rfl (v_bool (z := c1) (r_beq Tryz.underlying4 rfl rfl) hc1) <| TL_mv 0 [(2, .pointer (some ⟨b1, 0, none⟩)), (3, .pointer (some ⟨b2, 0, none⟩)), (4, .pointer (some ⟨b3, 0, none⟩)), (11, .bool (c1))] rfl fun rest => TL_nil <| T_cond (c1) rfl (fun hb1 => ?_) (fun hb1 => ?_)
 ·replace H := if_t hb1 H
  refine T_seq ?_
  obtain ⟨t1, he1, H⟩ := bd_s H
  refine T_draw 7 [prV (.pointer (some ⟨b1, 0, none⟩)), prE (fun _ : Unit => .bool (a0.1)) (fun _ => []) (fun _ => True), prV (.pointer (some ⟨b1, 1, none⟩)), prE (fun u : Value => u) (fun u => [fV (eS eU) (a0.2) u]) (fun _ => True), prV (.pointer (some ⟨b2, 1, none⟩)), prE (fun u : Value => u) (fun u => [fV (eS eU) (a1.2) u]) (fun _ => True), prE (fun u : Value => u) (fun u => [fV (eS eU) (t1) u]) (fun _ => True)] [4, 13, 18] rfl (by kernel_rfl) rfl (by kernel_rfl) ⟨?_, ?_, ?_, ?_, ?_, ?_, ?_, trivial⟩ ?_
  ·intro S w env hS hM hΓ hl
   obtain ⟨e2, _⟩ := hl
   exact ⟨fun _ => ob_V (r_field fl25_0 (e2.trans rfl)), fun hc => (by cases hc)⟩
  ·intro S w env hS hM hΓ hl
   obtain ⟨e12, _⟩ := hl
   exact ⟨fun _ => ob_E (Γ := [fV eZ (a0) va0, fV eZ (a1) va1]) (oe_loadM_bool (z' := a0.1) 2 rfl e12 (Sub.fst eBool (eS eU) (a0)) ty4) hS hM hΓ, fun hc => (by cases hc)⟩
  ·intro S w env hS hM hΓ hl
   obtain ⟨e2, _⟩ := hl
   exact ⟨fun _ => ob_V (r_field fl25_1 (e2.trans rfl)), fun hc => (by cases hc)⟩
  ·intro S w env hS hM hΓ hl
   obtain ⟨e14, _⟩ := hl
   exact ⟨fun _ => ob_E (Γ := [fV eZ (a0) va0, fV eZ (a1) va1]) (oe_loadM (z' := a0.2) 2 rfl e14 (Sub.snd eBool (eS eU) (a0)) ty23) hS hM hΓ, fun hc => (by cases hc)⟩
  ·intro S w env hS hM hΓ hl
   obtain ⟨e3, _⟩ := hl
   exact ⟨fun _ => ob_V (r_field fl25_1 (e3.trans rfl)), fun hc => (by cases hc)⟩
  ·intro S w env hS hM hΓ hl
   obtain ⟨e16, _⟩ := hl
   exact ⟨fun _ => ob_E (Γ := [fV eZ (a0) va0, fV eZ (a1) va1]) (oe_loadM (z' := a1.2) 1 rfl e16 (Sub.snd eBool (eS eU) (a1)) ty23) hS hM hΓ, fun hc => (by cases hc)⟩
  ·intro S w env hS hM hΓ hl
   obtain ⟨⟨u1, e15, _, f15⟩, ⟨u2, e17, _, f17⟩, _⟩ := hl
   exact ⟨fun _ => ob_E (Γ := [fV (eS eU) (a0.2) u1, fV (eS eU) (a1.2) u2, fV eZ (a0) va0, fV eZ (a1) va1]) (oe_call (by kernel_rfl) (z_nat_Add fu a0.2 u1 a1.2 u2 t1 he1) (la_cons e15 (la_cons e17 la_nil)) (fun S w h => ⟨h.1, h.2.1, trivial⟩)) hS hM ⟨f15.1, f17.1, hΓ⟩, fun hc => (by cases hc)⟩
  intro S w env hS hΓ hl
  obtain ⟨e4, ⟨_, e13, _, f13⟩, ⟨u3, e18, _, f18⟩, _⟩ := hl
  refine ⟨[fV (eS eU) (t1) u3, fV eZ (a0) va0, fV eZ (a1) va1], [(4, .pointer (some ⟨b3, 0, none⟩)), (13, .bool (a0.1)), (18, u3)], ⟨f18.1, hΓ⟩, (agr ⟨(e4.trans rfl), e13, e18, trivial⟩), fun rest => ?_⟩
  obtain ⟨t2, he2, H⟩ := bd_s H
  refine TL_step rfl rfl (oe_call (by kernel_rfl) (c_zint_made fu a0.1 t1 u3 t2 he2) rfl (fun S w h => ⟨h.1, trivial⟩)) fun u4 _ => TL_og rfl rfl (og_store' (f := eZ) (y' := t2) (z2 := t2) 0 rfl rfl rfl (Sub.self eZ ((false, []))) ty25 (fun S w h => h.1) rfl) fun _ _ => ?_
  show TL _ _ _ _ [mB (ERep.c eZ) 25 b3 (t2), mB (ERep.c eZ) 25 b2 (a1), mB (ERep.c eZ) 25 b1 (a0)] [fV eZ (t2) u4, fV (eS eU) (t1) u3, fV eZ (a0) va0, fV eZ (a1) va1] _ _ _ _
  refine TL_mv 0 [(4, .pointer (some ⟨b3, 0, none⟩))] rfl fun rest => TL_nil <| T_ret ?_
  obtain rfl := inj1 H
  intro w hw
  change RetQ _ _ _ _ _ _ _ .ret _ w
  refine Ret_cN (e := eZ) (z := t2) 4 0 hw rfl (by exact rfl) ty25 fun r_1 hw hr_1 => ?_
  exact RetN (vs := [r_1]) r_1 Tryz.results104 (by exact ⟨hr_1, trivial⟩) rfl trivial hw (fun S w h => ⟨h.1, trivial⟩)
 replace H := ifb_f hb1 H
 refine T_skip <| T_seq ?_
 obtain ⟨s1, hL, Hc⟩ := bd_s H
 refine T_X [(.n, JQ we Se (G := Zr × Zr) (fun (t3, t4) => (⟨[mB (ERep.c eZ) 25 b3 ((false, [])), mB (ERep.c eZ) 25 b2 (t3), mB (ERep.c eZ) 25 b1 (t4)], [], [(2, .pointer (some ⟨b1, 0, none⟩)), (3, .pointer (some ⟨b2, 0, none⟩)), (4, .pointer (some ⟨b3, 0, none⟩))]⟩ : Inv)) (fun (t3, t4) => (t3, t4) = s1))] ?_ ⟨?_, trivial⟩
 ·replace H := hL
  refine T_seq <| T_region <| TL_val rfl rfl (r_field fl25_1 rfl) <| TL_step rfl rfl (oe_loadM (z' := a0.2) 2 rfl rfl (Sub.snd eBool (eS eU) (a0)) ty23) fun u5 _ => TL_val rfl rfl (r_field fl25_1 rfl) <| TL_step rfl rfl (oe_loadM (z' := a1.2) 1 rfl rfl (Sub.snd eBool (eS eU) (a1)) ty23) fun u6 _ => ?_
  obtain ⟨x1, he3, H⟩ := bd_s H
  refine TL_step rfl rfl (oe_call (by kernel_rfl) (c_nat_Cmp fu a0.2 u5 a1.2 u6 x1 he3) rfl (fun S w h => ⟨h.2.1, h.1, trivial⟩)) fun _ hk1 => TL_lss rfl rfl rfl rfl (fun h1 => ?_) (fun h1 => ?_)
  ·replace H := if_t h1 H
   refine TL_mv 0 [(2, .pointer (some ⟨b1, 0, none⟩)), (3, .pointer (some ⟨b2, 0, none⟩)), (4, .pointer (some ⟨b3, 0, none⟩)), (25, .bool true)] rfl fun rest => TL_nil <| T_cond_true rfl <| T_region <| TL_step rfl rfl (oe_loadM (z' := a1) 1 rfl rfl (Sub.self eZ (a1)) ty25) fun u7 _ => TL_step rfl rfl (oe_loadM (z' := a0) 2 rfl rfl (Sub.self eZ (a0)) ty25) fun u8 _ => ?_
   refine TL_og rfl rfl (og_store' (f := eZ) (y' := a1) (z2 := a1) 2 rfl rfl rfl (Sub.self eZ (a0)) ty25 (fun S w h => h.2.1) rfl) fun _ _ => ?_
   show TL _ _ _ _ [mB (ERep.c eZ) 25 b3 ((false, [])), mB (ERep.c eZ) 25 b2 (a1), mB (ERep.c eZ) 25 b1 (a1)] [fV eZ (a0) u8, fV eZ (a1) u7, fV (eS eU) (a1.2) u6, fV (eS eU) (a0.2) u5, fV eZ (a0) va0, fV eZ (a1) va1] _ _ _ _
   refine TL_og rfl rfl (og_store' (f := eZ) (y' := a0) (z2 := a0) 1 rfl rfl rfl (Sub.self eZ (a1)) ty25 (fun S w h => h.1) rfl) fun _ _ => ?_
   show TL _ _ _ _ [mB (ERep.c eZ) 25 b3 ((false, [])), mB (ERep.c eZ) 25 b2 (a0), mB (ERep.c eZ) 25 b1 (a1)] [fV eZ (a0) u8, fV eZ (a1) u7, fV (eS eU) (a1.2) u6, fV (eS eU) (a0.2) u5, fV eZ (a0) va0, fV eZ (a1) va1] _ _ _ _
   refine TL_mv 0 [(2, .pointer (some ⟨b1, 0, none⟩)), (3, .pointer (some ⟨b2, 0, none⟩)), (4, .pointer (some ⟨b3, 0, none⟩))] rfl fun rest => TL_nil ?_
   exact JQ_mk (a0, a1) (Option.some.inj H) rfl (fun w h => St.weak h (fun S w h => trivial))
  replace H := if_f h1 H
  refine TL_mv 0 [(2, .pointer (some ⟨b1, 0, none⟩)), (3, .pointer (some ⟨b2, 0, none⟩)), (4, .pointer (some ⟨b3, 0, none⟩)), (25, .bool false)] rfl fun rest => TL_nil <| T_cond_false rfl <| T_skip ?_
  exact JQ_mk (a1, a0) (Option.some.inj H) rfl (fun w h => St.weak h (fun S w h => trivial))
 refine JQ_el' ?_
 rintro ⟨t3, t4⟩ hs rest
 subst hs
 replace H := Hc
 clear hL
 refine JG_to (ms' := [mB (ERep.c eZ) 25 b3 ((false, [])), mB (ERep.c eZ) 25 b2 (t3), mB (ERep.c eZ) 25 b1 (t4)]) (Γ' := []) (live' := [(2, .pointer (some ⟨b1, 0, none⟩)), (3, .pointer (some ⟨b2, 0, none⟩)), (4, .pointer (some ⟨b3, 0, none⟩))]) rfl <| T_seq <| T_region <| TL_val rfl rfl (r_field fl25_1 rfl) <| TL_step rfl rfl (oe_loadM (z' := t4.2) 2 rfl rfl (Sub.snd eBool (eS eU) (t4)) ty23) fun u9 _ => TL_val rfl rfl (r_field fl25_1 rfl) ?_
 refine TL_step rfl rfl (oe_loadM (z' := t3.2) 1 rfl rfl (Sub.snd eBool (eS eU) (t3)) ty23) fun u10 _ => ?_
 obtain ⟨⟨t5, x2⟩, he4, H⟩ := bd_s H
 refine TL_og rfl rfl (og_callG (F := [mB (ERep.c eZ) 25 b3 ((false, [])), mB (ERep.c eZ) 25 b2 (t3), mB (ERep.c eZ) 25 b1 (t4)]) (by kernel_rfl) (c_nat_Sub fu t4.2 u9 t3.2 u10 t5 x2 he4) rfl (fun S w h => ⟨h.2.1, h.1, trivial⟩)) fun u11 hk2 => ?_
 show TL _ _ _ _ [mO eU 102 u11 (t5), mB (ERep.c eZ) 25 b3 ((false, [])), mB (ERep.c eZ) 25 b2 (t3), mB (ERep.c eZ) 25 b1 (t4)] [fV (eS eU) (t3.2) u10, fV (eS eU) (t4.2) u9] _ _ _ _
 refine TL_mv 5 [(2, .pointer (some ⟨b1, 0, none⟩)), (4, .pointer (some ⟨b3, 0, none⟩)), (5, u11)] rfl fun rest => TL_nil <| T_seq <| T_region <| TL_val rfl rfl (r_field fl25_0 rfl) <| TL_step rfl rfl (oe_loadM_bool (z' := t4.1) 3 rfl rfl (Sub.fst eBool (eS eU) (t4)) ty4) fun _ _ => ?_
 refine TL_mv 1 [(4, .pointer (some ⟨b3, 0, none⟩)), (37, .bool (t4.1)), (38, u11)] rfl fun rest => TL_weak_st (fun w h => fz_own 0 h rfl) ?_
 obtain ⟨t6, he5, H⟩ := bd_s H
 refine TL_step rfl rfl (oe_call (by kernel_rfl) (c_zint_made fu t4.1 t5 u11 t6 he5) rfl (fun S w h => ⟨h.1, trivial⟩)) fun u12 _ => TL_og rfl rfl (og_store' (f := eZ) (y' := t6) (z2 := t6) 0 rfl rfl rfl (Sub.self eZ ((false, []))) ty25 (fun S w h => h.1) rfl) fun _ _ => ?_
 show TL _ _ _ _ [mB (ERep.c eZ) 25 b3 (t6), mB (ERep.c eZ) 25 b2 (t3), mB (ERep.c eZ) 25 b1 (t4)] [fV eZ (t6) u12, fV (eS eU) (t5) u11, fV (eS eU) (t3.2) u10, fV (eS eU) (t4.2) u9] _ _ _ _
 refine TL_mv 0 [(4, .pointer (some ⟨b3, 0, none⟩))] rfl fun rest => TL_nil <| T_ret ?_
 obtain rfl := inj1 H
 intro w hw
 change RetQ _ _ _ _ _ _ _ .ret _ w
 refine Ret_cN (e := eZ) (z := t6) 4 0 hw rfl (by exact rfl) ty25 fun r_2 hw hr_2 => ?_
 exact RetN (vs := [r_2]) r_2 Tryz.results104 (by exact ⟨hr_2, trivial⟩) rfl trivial hw (fun S w h => ⟨h.1, trivial⟩)
set_option maxRecDepth 100000 in
set_option maxHeartbeats 1000000 in
theorem c_zint_Neg (fu : Nat) (a0 : Zr) (va0 : Value) (r0 : Zr) (H : M_zint_Neg fu a0 = some r0) : Fn Tryz.prog 155 [va0].toArray [fV eZ (a0) va0] (fun u : Value => u) (fun u => [fV eZ (r0) u]) (fun _ => True) := by
 unfold M_zint_Neg at H
 refine Fn_intro Tryz.func155 rfl rfl fun we Se rest => T_seq <| T_region <| TL_step rfl rfl (oe_box (e := eZ) (z := a0) rfl (fun S w h => h.1)) fun p1 _ => TL_og rfl rfl (og_allocM (e := ERep.c eZ) (z := (false, [])) ty25 (fun S w => z25 S w)) fun b1 _ => ?_
 show TL _ _ _ _ [mB (ERep.c eZ) 25 b1 ((false, []))] [fP eZ (a0) p1, fV eZ (a0) va0] _ _ _ _
 refine TL_mv 0 [(1, p1), (2, .pointer (some ⟨b1, 0, none⟩))] rfl fun rest => TL_nil <| T_seq <| T_region <| TL_step rfl rfl (oe_field (e := eZ) (z := a0) fl25_0 rfl (Sub.fst eBool (eS eU) (a0)) (fun S w h => h.1)) fun p2 _ => TL_step rfl rfl (oe_load_bool (y := a0.1) rfl ty4 (fun S w h => h.1)) fun _ _ => ?_
 refine TL_mv 1 [(1, p1), (2, .pointer (some ⟨b1, 0, none⟩)), (5, .bool (!a0.1))] rfl fun rest => TL_step rfl rfl (oe_field (e := eZ) (z := a0) fl25_1 rfl (Sub.snd eBool (eS eU) (a0)) (fun S w h => h.2.1)) fun p3 _ => TL_step rfl rfl (oe_load (e := (eS eU)) (y := a0.2) rfl ty23 (fun S w h => h.1)) fun u1 _ => ?_
 obtain ⟨t1, he1, H⟩ := bd_s H
 refine TL_step rfl rfl (oe_call (by kernel_rfl) (c_zint_made fu (!a0.1) a0.2 u1 t1 he1) rfl (fun S w h => ⟨h.1, trivial⟩)) fun u2 _ => TL_og rfl rfl (og_store' (f := eZ) (y' := t1) (z2 := t1) 0 rfl rfl rfl (Sub.self eZ ((false, []))) ty25 (fun S w h => h.1) rfl) fun _ _ => ?_
 show TL _ _ _ _ [mB (ERep.c eZ) 25 b1 (t1)] [fV eZ (t1) u2, fV (eS eU) (a0.2) u1, fP (eS eU) (a0.2) p3, fP eBool (a0.1) p2, fP eZ (a0) p1, fV eZ (a0) va0] _ _ _ _
 refine TL_mv 0 [(2, .pointer (some ⟨b1, 0, none⟩))] rfl fun rest => TL_nil <| T_ret ?_
 obtain rfl := inj1 H
 intro w hw
 change RetQ _ _ _ _ _ _ _ .ret _ w
 refine Ret_cN (e := eZ) (z := t1) 2 0 hw rfl (by exact rfl) ty25 fun r_1 hw hr_1 => ?_
 exact RetN (vs := [r_1]) r_1 Tryz.results155 (by exact ⟨hr_1, trivial⟩) rfl trivial hw (fun S w h => ⟨h.1, trivial⟩)
set_option maxRecDepth 100000 in
set_option maxHeartbeats 1000000 in
theorem c_zint_Sub (fu : Nat) (a0 : Zr) (va0 : Value) (a1 : Zr) (va1 : Value) (r0 : Zr) (H : M_zint_Sub fu a0 a1 = some r0) : Fn Tryz.prog 100 [va0, va1].toArray [fV eZ (a0) va0, fV eZ (a1) va1] (fun u : Value => u) (fun u => [fV eZ (r0) u]) (fun _ => True) := by
 unfold M_zint_Sub at H
 refine Fn_intro Tryz.func100 rfl rfl fun we Se rest => T_seq <| T_region <| TL_step rfl rfl (oe_box (e := eZ) (z := a0) rfl (fun S w h => h.1)) fun p1 _ => TL_step rfl rfl (oe_box (e := eZ) (z := a1) rfl (fun S w h => h.2.2.1)) fun p2 _ => TL_og rfl rfl (og_allocM (e := ERep.c eZ) (z := (false, [])) ty25 (fun S w => z25 S w)) fun b1 _ => ?_
 show TL _ _ _ _ [mB (ERep.c eZ) 25 b1 ((false, []))] [fP eZ (a1) p2, fP eZ (a0) p1, fV eZ (a0) va0, fV eZ (a1) va1] _ _ _ _
 refine TL_mv 0 [(2, p1), (3, p2), (4, .pointer (some ⟨b1, 0, none⟩))] rfl fun rest => TL_nil <| T_seq ?_
 obtain ⟨t1, he1, H⟩ := bd_s H
 refine T_draw 3 [prE (fun u : Value => u) (fun u => [fV eZ (a0) u]) (fun _ => True), prE (fun u : Value => u) (fun u => [fV eZ (a1) u]) (fun _ => True), prE (fun u : Value => u) (fun u => [fV eZ (t1) u]) (fun _ => True)] [4, 5, 7] rfl (by kernel_rfl) rfl (by kernel_rfl) ⟨?_, ?_, ?_, trivial⟩ ?_
 ·intro S w env hS hM hΓ hl
  obtain ⟨e2, _⟩ := hl
  exact ⟨fun _ => ob_E (Γ := [fP eZ (a1) p2, fP eZ (a0) p1, fV eZ (a0) va0, fV eZ (a1) va1]) (oe_load (e := eZ) (y := a0) (e2.trans rfl) ty25 (fun S w h => h.2.1)) hS hM hΓ, fun hc => (by cases hc)⟩
 ·intro S w env hS hM hΓ hl
  obtain ⟨e3, _⟩ := hl
  exact ⟨fun _ => ob_E (Γ := [fP eZ (a1) p2, fP eZ (a0) p1, fV eZ (a0) va0, fV eZ (a1) va1]) (oe_load (e := eZ) (y := a1) (e3.trans rfl) ty25 (fun S w h => h.1)) hS hM hΓ, fun hc => (by cases hc)⟩
 ·intro S w env hS hM hΓ hl
  obtain ⟨⟨u2, e6, _, f6⟩, _⟩ := hl
  exact ⟨fun _ => ob_E (Γ := [fV eZ (a1) u2, fP eZ (a1) p2, fP eZ (a0) p1, fV eZ (a0) va0, fV eZ (a1) va1]) (oe_call (by kernel_rfl) (c_zint_Neg fu a1 u2 t1 he1) (la_cons e6 la_nil) (fun S w h => ⟨h.1, trivial⟩)) hS hM ⟨f6.1, hΓ⟩, fun hc => (by cases hc)⟩
 intro S w env hS hΓ hl
 obtain ⟨e4, ⟨u1, e5, _, f5⟩, ⟨u3, e7, _, f7⟩, _⟩ := hl
 refine ⟨[fV eZ (a0) u1, fV eZ (t1) u3, fP eZ (a1) p2, fP eZ (a0) p1, fV eZ (a0) va0, fV eZ (a1) va1], [(4, .pointer (some ⟨b1, 0, none⟩)), (5, u1), (7, u3)], ⟨f5.1, f7.1, hΓ⟩, (agr ⟨(e4.trans rfl), e5, e7, trivial⟩), fun rest => ?_⟩
 obtain ⟨t2, he2, H⟩ := bd_s H
 refine TL_step rfl rfl (oe_call (by kernel_rfl) (c_zint_Add fu a0 u1 t1 u3 t2 he2) rfl (fun S w h => ⟨h.1, h.2.1, trivial⟩)) fun u4 _ => TL_og rfl rfl (og_store' (f := eZ) (y' := t2) (z2 := t2) 0 rfl rfl rfl (Sub.self eZ ((false, []))) ty25 (fun S w h => h.1) rfl) fun _ _ => ?_
 show TL _ _ _ _ [mB (ERep.c eZ) 25 b1 (t2)] [fV eZ (t2) u4, fV eZ (a0) u1, fV eZ (t1) u3, fP eZ (a1) p2, fP eZ (a0) p1, fV eZ (a0) va0, fV eZ (a1) va1] _ _ _ _
 refine TL_mv 0 [(4, .pointer (some ⟨b1, 0, none⟩))] rfl fun rest => TL_sel [] (fun S w h => trivial) <| TL_nil <| T_ret ?_
 obtain rfl := inj1 H
 intro w hw
 change RetQ _ _ _ _ _ _ _ .ret _ w
 refine Ret_cN (e := eZ) (z := t2) 4 0 hw rfl (by exact rfl) ty25 fun r_1 hw hr_1 => ?_
 exact RetN (vs := [r_1]) r_1 Tryz.results100 (by exact ⟨hr_1, trivial⟩) rfl trivial hw (fun S w h => ⟨h.1, trivial⟩)
end Go.Proofs.YtjnjfinbdfolkaaGreat
end

