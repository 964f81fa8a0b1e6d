/- What a proof needs: rules of walking, mirrors of functions and their plain laws. No condition. -/
import Derived.Test.YtjnjfinbdfolkaaGreatHp7
section
set_option linter.unusedVariables false
set_option linter.unusedSimpArgs false
namespace Go.Proofs.YtjnjfinbdfolkaaGreat
set_option maxRecDepth 100000 in
set_option maxHeartbeats 1000000 in
theorem c_hensel_tree : ∀ (fu : Nat) (a0 : List Zr) (va0 : Value) (a1 : List (List Int)) (va1 : Value) (a2 : Int) (qa2 : InR a2) (a3 : Int) (qa3 : InR a3) (a4 : Zr) (va4 : Value) (r0 : List (List Zr)) (H : M_hensel_tree fu a0 a1 a2 a3 a4 = some r0), FnG Tryz.prog 66 [va0, va1, iv a2, iv a3, va4].toArray [] [fV (eS eZ) (a0) va0, fV (eS (eS eI)) (a1) va1, fV eZ (a4) va4] (fun u : Value => u) (fun u => [mO (eS eZ) 31 u (r0)]) (fun u => []) (fun _ => True) := by
 intro fu
 induction fu with
 | zero => intro a0 va0 a1 va1 a2 qa2 a3 qa3 a4 va4 r0 H; cases H
 | succ fu ih =>
  intro a0 va0 a1 va1 a2 qa2 a3 qa3 a4 va4 r0 H
  unfold M_hensel_tree at H
  refine FnG_intro Tryz.func66 rfl rfl fun we Se F G rest => T_seq <| T_region <| TL_step rfl rfl (oe_box (e := eZ) (z := a4) rfl (fun S w h => h.2.2.1)) fun p1 _ => TL_mv 1 [(0, va0), (1, va1), (2, iv (a2)), (3, iv (a3)), (9, p1)] rfl fun rest => TL_nil ?_
  refine T_seq <| T_seq <| T_region <| TL_mv 1 [(0, va0), (1, va1), (2, iv (a2)), (3, iv (a3)), (9, p1), (25, va1)] rfl fun rest => TL_step rfl rfl (oe_len (e := (eS eI)) (xs := a1) Tryz.underlying32 rfl (fun S w h => h.2.2.1)) fun _ hl1 => TL_eql rfl rfl rfl rfl (fun h1 => ?_) (fun h1 => ?_)
  ·replace H := if_t h1 H
   refine TL_mv 0 [(0, va0), (1, va1), (2, iv (a2)), (3, iv (a3)), (9, p1), (27, .bool true)] rfl fun rest => TL_nil <| T_cond_true rfl <| T_seq <| T_region <| TL_mv 1 [(9, p1), (28, va0)] rfl fun rest => ?_
   refine TL_step rfl rfl (oe_load (e := eZ) (y := a4) rfl ty25 (fun S w h => h.1)) fun u1 _ => ?_
   obtain ⟨t1, he1, H⟩ := bd_s H
   refine TL_og rfl rfl (og_callG (F := (F)) (by kernel_rfl) (c_hensel_one fu a0 va0 a4 u1 t1 he1) rfl (fun S w h => ⟨h.2.2.1, h.1, trivial⟩)) fun u2 _ => ?_
   show TL _ _ _ _ (mO eZ 25 u2 (t1) :: F) (fV eZ (a4) u1 :: fP eZ (a4) p1 :: fV (eS eZ) (a0) va0 :: fV (eS (eS eI)) (a1) va1 :: fV eZ (a4) va4 :: G) _ _ _ _
   refine TL_weak_st (fun w h => fz_own 0 h rfl) <| TL_og rfl rfl (og_lit (e := (eS eZ)) (zs := [t1]) Tryz.underlying36 ty31 (by decide) rfl (by decide) (vs := [(0, u2)]) rfl (fun S w h => (by refine fill_eq (eS eZ) ?_; exact ⟨fV_sz (S := S) (w := w) h.1, trivial⟩)) (fun S w h => (elems_one h.1))) fun u4 _ => ?_
   show TL _ _ _ _ (mO (eS eZ) 31 u4 ([t1]) :: F) (fV (eS eZ) (t1) u2 :: fV eZ (a4) u1 :: fP eZ (a4) p1 :: fV (eS eZ) (a0) va0 :: fV (eS (eS eI)) (a1) va1 :: fV eZ (a4) va4 :: G) _ _ _ _
   refine TL_mv 1 [(10, u4)] rfl fun rest => TL_nil <| T_ret ?_
   obtain rfl := inj1 H
   intro w hw
   exact RetG (vs := [u4]) u4 Tryz.results66 (by exact ⟨rfl, trivial⟩) rfl trivial (St.weak hw (fun S w h => h.2.2.2.2.2.2))
  replace H := if_f h1 H
  refine TL_mv 0 [(0, va0), (1, va1), (2, iv (a2)), (3, iv (a3)), (9, p1), (27, .bool false)] rfl fun rest => TL_nil <| T_cond_false rfl <| T_skip <| T_seq <| T_region ?_
  refine TL_mv 1 [(0, va0), (1, va1), (2, iv (a2)), (3, iv (a3)), (9, p1), (32, va1)] rfl fun rest => TL_step rfl rfl (oe_len (e := (eS eI)) (xs := a1) Tryz.underlying32 rfl (fun S w h => h.2.2.1)) fun _ hl2 => ?_
  obtain ⟨x1, hx1, hrx1, H⟩ := ck64_s H
  refine TL_val rfl rfl (r_quo (c := x1) rfl rfl (by decide) (w_x hx1 hrx1)) <| TL_mv 1 [(0, va0), (1, va1), (2, iv (a2)), (3, iv (a3)), (9, p1), (11, iv (x1))] rfl fun rest => TL_nil <| T_seq <| T_region <| TL_mv 2 [(0, va0), (1, va1), (2, iv (a2)), (3, iv (a3)), (9, p1), (11, iv (x1)), (36, va0), (37, va0)] rfl fun rest => ?_
  refine TL_step rfl rfl (oe_len (e := eZ) (xs := a0) Tryz.underlying31 rfl (fun S w h => h.2.1)) fun _ hl3 => ?_
  obtain ⟨x2, hx2, hrx2, H⟩ := ck64_s H
  refine TL_val rfl rfl (r_sub (c := x2) rfl rfl (w_x hx2 hrx2)) ?_
  obtain ⟨j1, hj1, H⟩ := ckN_s H
  obtain ⟨hk1, H⟩ := ck_s H
  obtain ⟨y1, hy1, H⟩ := nm_s H
  refine TL_step rfl rfl (oe_as (oe_sliceD (e := eZ) (xs := a0) (l := j1) rfl Tryz.underlying31 ty25 (vi hj1) hk1 (fun S w h => h.2.1)) hy1) fun u5 _ => TL_mv 1 [(0, va0), (1, va1), (2, iv (a2)), (3, iv (a3)), (9, p1), (11, iv (x1)), (40, u5), (41, iv (a2))] rfl fun rest => ?_
  obtain ⟨⟨t2, x3⟩, he2, H⟩ := bd_s H
  refine TL_og rfl rfl (og_callG (F := (F)) (by kernel_rfl) (c_zpoly_Mod fu y1 u5 a2 qa2 t2 x3 he2) rfl (fun S w h => ⟨h.1, trivial⟩)) fun u6 hk2 => ?_
  show TL _ _ _ _ (mO eI 3 u6 (t2) :: F) (fV (eS eZ) (y1) u5 :: fP eZ (a4) p1 :: fV (eS eZ) (a0) va0 :: fV (eS (eS eI)) (a1) va1 :: fV eZ (a4) va4 :: G) _ _ _ _
  refine TL_mv 5 [(0, va0), (1, va1), (2, iv (a2)), (3, iv (a3)), (9, p1), (11, iv (x1)), (12, u6)] rfl fun rest => TL_nil <| T_seq <| T_region <| TL_mv 2 [(0, va0), (1, va1), (2, iv (a2)), (3, iv (a3)), (9, p1), (11, iv (x1)), (12, u6), (46, va1), (47, iv (x1))] rfl fun rest => ?_
  obtain ⟨j2, hj2, H⟩ := ckN_s H
  obtain ⟨hk3, H⟩ := ck_s H
  obtain ⟨y2, hy2, H⟩ := nm_s H
  refine TL_step rfl rfl (oe_as (oe_sliceT (e := (eS eI)) (xs := a1) (h := j2) rfl Tryz.underlying32 ty51 (vi hj2) hk3 (fun S w h => h.2.2.2.1)) hy2) fun u7 _ => TL_mv 1 [(0, va0), (1, va1), (2, iv (a2)), (3, iv (a3)), (9, p1), (11, iv (x1)), (12, u6), (48, u7), (49, iv (a2))] rfl fun rest => ?_
  obtain ⟨t3, he3, H⟩ := bd_s H
  refine TL_og rfl rfl (og_callG (F := (mO eI 3 u6 (t2) :: F)) (by kernel_rfl) (c_hensel_product fu y2 u7 a2 qa2 t3 he3) rfl (fun S w h => ⟨h.1, trivial⟩)) fun u8 _ => ?_
  show TL _ _ _ _ (mO eI 3 u8 (t3) :: mO eI 3 u6 (t2) :: F) (fV (eS (eS eI)) (y2) u7 :: fV (eS eZ) (y1) u5 :: fP eZ (a4) p1 :: fV (eS eZ) (a0) va0 :: fV (eS (eS eI)) (a1) va1 :: fV eZ (a4) va4 :: G) _ _ _ _
  refine TL_mv 2 [(0, va0), (1, va1), (2, iv (a2)), (3, iv (a3)), (9, p1), (11, iv (x1)), (50, u8), (51, u6), (52, iv (a2))] rfl fun rest => TL_weak_st (fun w h => fz_own 0 h rfl) <| TL_weak_st (fun w h => fz_own 0 h rfl) ?_
  obtain ⟨⟨t4, x4⟩, he4, H⟩ := bd_s H
  refine TL_og rfl rfl (og_callG (F := (F)) (by kernel_rfl) (c_fpoly_Mul fu t3 u8 t2 u6 a2 qa2 t4 x4 he4) rfl (fun S w h => ⟨h.2.1, h.1, trivial⟩)) fun u9 hk4 => ?_
  show TL _ _ _ _ (mO eI 3 u9 (t4) :: F) (fV (eS eI) (t2) u6 :: fV (eS eI) (t3) u8 :: fV (eS (eS eI)) (y2) u7 :: fV (eS eZ) (y1) u5 :: fP eZ (a4) p1 :: fV (eS eZ) (a0) va0 :: fV (eS (eS eI)) (a1) va1 :: fV eZ (a4) va4 :: G) _ _ _ _
  refine TL_mv 5 [(0, va0), (1, va1), (2, iv (a2)), (3, iv (a3)), (9, p1), (11, iv (x1)), (14, u9)] rfl fun rest => TL_sel (fP eZ (a4) p1 :: fV (eS eZ) (a0) va0 :: fV (eS (eS eI)) (a1) va1 :: G) (fun S w h => ⟨h.2.2.2.2.1, h.2.2.2.2.2.1, h.2.2.2.2.2.2.1, h.2.2.2.2.2.2.2.2⟩) <| TL_nil <| T_seq <| T_region <| TL_mv 2 [(0, va0), (1, va1), (2, iv (a2)), (3, iv (a3)), (9, p1), (11, iv (x1)), (14, u9), (56, va1), (57, iv (x1))] rfl fun rest => ?_
  obtain ⟨j3, hj3, H⟩ := ckN_s H
  obtain ⟨hk5, H⟩ := ck_s H
  obtain ⟨y3, hy3, H⟩ := nm_s H
  refine TL_step rfl rfl (oe_as (oe_sliceD (e := (eS eI)) (xs := a1) (l := j3) rfl Tryz.underlying32 ty51 (vi hj3) hk5 (fun S w h => h.2.2.1)) hy3) fun u10 _ => TL_mv 1 [(0, va0), (1, va1), (2, iv (a2)), (3, iv (a3)), (9, p1), (11, iv (x1)), (14, u9), (58, u10), (59, iv (a2))] rfl fun rest => ?_
  obtain ⟨t5, he5, H⟩ := bd_s H
  refine TL_og rfl rfl (og_callG (F := (mO eI 3 u9 (t4) :: F)) (by kernel_rfl) (c_hensel_product fu y3 u10 a2 qa2 t5 he5) rfl (fun S w h => ⟨h.1, trivial⟩)) fun u11 _ => ?_
  show TL _ _ _ _ (mO eI 3 u11 (t5) :: mO eI 3 u9 (t4) :: F) (fV (eS (eS eI)) (y3) u10 :: fP eZ (a4) p1 :: fV (eS eZ) (a0) va0 :: fV (eS (eS eI)) (a1) va1 :: G) _ _ _ _
  refine TL_mv 1 [(0, va0), (1, va1), (2, iv (a2)), (3, iv (a3)), (9, p1), (11, iv (x1)), (14, u9), (16, u11)] rfl fun rest => TL_nil <| T_seq <| T_region <| TL_mv 3 [(0, va0), (1, va1), (2, iv (a2)), (3, iv (a3)), (9, p1), (11, iv (x1)), (14, u9), (16, u11), (62, u9), (63, u11), (64, iv (a2))] rfl fun rest => TL_weak_st (fun w h => fz_own 1 h rfl) ?_
  refine TL_weak_st (fun w h => fz_own 0 h rfl) ?_
  obtain ⟨⟨t6, t7, t8, x5⟩, he6, H⟩ := bd_s H
  refine TL_step rfl rfl (oe_call (by kernel_rfl) (c_fpoly_Bezout fu t4 u9 t5 u11 a2 qa2 t6 t7 t8 x5 he6) rfl (fun S w h => ⟨h.2.1, h.1, trivial⟩)) fun ⟨u12, u13, u14⟩ hk6 => TL_mv 9 [(0, va0), (1, va1), (2, iv (a2)), (3, iv (a3)), (9, p1), (11, iv (x1)), (14, u9), (16, u11), (18, u13), (19, u14)] rfl fun rest => TL_sel (fV (eS eI) (t7) u13 :: fV (eS eI) (t8) u14 :: fV (eS eI) (t5) u11 :: fV (eS eI) (t4) u9 :: fP eZ (a4) p1 :: fV (eS eZ) (a0) va0 :: fV (eS (eS eI)) (a1) va1 :: G) (fun S w h => ⟨h.2.1, h.2.2.1, h.2.2.2.1, h.2.2.2.2.1, h.2.2.2.2.2.2.1, h.2.2.2.2.2.2.2.1, h.2.2.2.2.2.2.2.2.1, h.2.2.2.2.2.2.2.2.2⟩) <| TL_nil <| T_seq <| T_region ?_
  refine TL_mv 1 [(0, va0), (1, va1), (2, iv (a2)), (3, iv (a3)), (9, p1), (11, iv (x1)), (16, u11), (18, u13), (19, u14), (70, u9)] rfl fun rest => ?_
  obtain ⟨t9, he7, H⟩ := bd_s H
  refine TL_og rfl rfl (og_callG (F := (F)) (by kernel_rfl) (c_zpoly_Lift fu t4 u9 t9 he7) rfl (fun S w h => ⟨h.2.2.2.1, trivial⟩)) fun u15 _ => ?_
  show TL _ _ _ _ (mO eZ 25 u15 (t9) :: F) (fV (eS eI) (t7) u13 :: fV (eS eI) (t8) u14 :: fV (eS eI) (t5) u11 :: fV (eS eI) (t4) u9 :: fP eZ (a4) p1 :: fV (eS eZ) (a0) va0 :: fV (eS (eS eI)) (a1) va1 :: G) _ _ _ _
  refine TL_mv 1 [(0, va0), (1, va1), (2, iv (a2)), (3, iv (a3)), (9, p1), (11, iv (x1)), (18, u13), (19, u14), (71, u15), (72, u11)] rfl fun rest => ?_
  obtain ⟨t10, he8, H⟩ := bd_s H
  refine TL_og rfl rfl (og_callG (F := (mO eZ 25 u15 (t9) :: F)) (by kernel_rfl) (c_zpoly_Lift fu t5 u11 t10 he8) rfl (fun S w h => ⟨h.2.2.1, trivial⟩)) fun u16 _ => ?_
  show TL _ _ _ _ (mO eZ 25 u16 (t10) :: mO eZ 25 u15 (t9) :: F) (fV (eS eI) (t7) u13 :: fV (eS eI) (t8) u14 :: fV (eS eI) (t5) u11 :: fV (eS eI) (t4) u9 :: fP eZ (a4) p1 :: fV (eS eZ) (a0) va0 :: fV (eS (eS eI)) (a1) va1 :: G) _ _ _ _
  refine TL_mv 1 [(0, va0), (1, va1), (2, iv (a2)), (3, iv (a3)), (9, p1), (11, iv (x1)), (19, u14), (71, u15), (73, u16), (74, u13)] rfl fun rest => ?_
  obtain ⟨t11, he9, H⟩ := bd_s H
  refine TL_og rfl rfl (og_callG (F := (mO eZ 25 u16 (t10) :: mO eZ 25 u15 (t9) :: F)) (by kernel_rfl) (c_zpoly_Lift fu t7 u13 t11 he9) rfl (fun S w h => ⟨h.1, trivial⟩)) fun u17 _ => ?_
  show TL _ _ _ _ (mO eZ 25 u17 (t11) :: mO eZ 25 u16 (t10) :: mO eZ 25 u15 (t9) :: F) (fV (eS eI) (t7) u13 :: fV (eS eI) (t8) u14 :: fV (eS eI) (t5) u11 :: fV (eS eI) (t4) u9 :: fP eZ (a4) p1 :: fV (eS eZ) (a0) va0 :: fV (eS (eS eI)) (a1) va1 :: G) _ _ _ _
  refine TL_mv 1 [(0, va0), (1, va1), (2, iv (a2)), (3, iv (a3)), (9, p1), (11, iv (x1)), (71, u15), (73, u16), (75, u17), (76, u14)] rfl fun rest => ?_
  obtain ⟨t12, he10, H⟩ := bd_s H
  refine TL_og rfl rfl (og_callG (F := (mO eZ 25 u17 (t11) :: mO eZ 25 u16 (t10) :: mO eZ 25 u15 (t9) :: F)) (by kernel_rfl) (c_zpoly_Lift fu t8 u14 t12 he10) rfl (fun S w h => ⟨h.2.1, trivial⟩)) fun u18 _ => ?_
  show TL _ _ _ _ (mO eZ 25 u18 (t12) :: mO eZ 25 u17 (t11) :: mO eZ 25 u16 (t10) :: mO eZ 25 u15 (t9) :: F) (fV (eS eI) (t7) u13 :: fV (eS eI) (t8) u14 :: fV (eS eI) (t5) u11 :: fV (eS eI) (t4) u9 :: fP eZ (a4) p1 :: fV (eS eZ) (a0) va0 :: fV (eS (eS eI)) (a1) va1 :: G) _ _ _ _
  refine TL_weak_st (fun w h => fz_own 3 h rfl) <| TL_weak_st (fun w h => fz_own 2 h rfl) <| TL_weak_st (fun w h => fz_own 1 h rfl) <| TL_weak_st (fun w h => fz_own 0 h rfl) <| TL_step rfl rfl (oe_build (e := (eA 4 (eS eZ))) (z := [t9, t10, t11, t12]) ty125 rfl rfl (vs := [(0, u15), (1, u16), (2, u17), (3, u18)]) rfl (.inr ⟨_, _, _, _, _, _, Tryz.underlying125, ty31, fun S w h => (by refine fill_eq (eS eZ) ?_; exact ⟨fV_sz (S := S) (w := w) h.2.2.2.1, fV_sz (S := S) (w := w) h.2.2.1, fV_sz (S := S) (w := w) h.2.1, fV_sz (S := S) (w := w) h.1, trivial⟩)⟩) (fun S w h => ⟨rfl, (elems_cons h.2.2.2.1 (elems_cons h.2.2.1 (elems_cons h.2.1 (elems_one h.1))))⟩)) fun u23 _ => ?_
  refine TL_og rfl rfl (og_allocM (e := ERep.c (eA 4 (eS eZ))) (z := (List.replicate 4 [])) ty125 (fun S w => z125 S w)) fun b1 _ => ?_
  show TL _ _ _ _ (mB (ERep.c (eA 4 (eS eZ))) 125 b1 ((List.replicate 4 [])) :: F) (fV (eA 4 (eS eZ)) ([t9, t10, t11, t12]) u23 :: fV (eS eZ) (t12) u18 :: fV (eS eZ) (t11) u17 :: fV (eS eZ) (t10) u16 :: fV (eS eZ) (t9) u15 :: fV (eS eI) (t7) u13 :: fV (eS eI) (t8) u14 :: fV (eS eI) (t5) u11 :: fV (eS eI) (t4) u9 :: fP eZ (a4) p1 :: fV (eS eZ) (a0) va0 :: fV (eS (eS eI)) (a1) va1 :: G) _ _ _ _
  refine TL_og rfl rfl (og_store' (f := (eA 4 (eS eZ))) (y' := [t9, t10, t11, t12]) (z2 := [t9, t10, t11, t12]) 0 rfl rfl rfl (Sub.self (eA 4 (eS eZ)) ((List.replicate 4 []))) ty125 (fun S w h => h.1) rfl) fun _ _ => ?_
  show TL _ _ _ _ (mB (ERep.c (eA 4 (eS eZ))) 125 b1 ([t9, t10, t11, t12]) :: F) (fV (eA 4 (eS eZ)) ([t9, t10, t11, t12]) u23 :: fV (eS eZ) (t12) u18 :: fV (eS eZ) (t11) u17 :: fV (eS eZ) (t10) u16 :: fV (eS eZ) (t9) u15 :: fV (eS eI) (t7) u13 :: fV (eS eI) (t8) u14 :: fV (eS eI) (t5) u11 :: fV (eS eI) (t4) u9 :: fP eZ (a4) p1 :: fV (eS eZ) (a0) va0 :: fV (eS (eS eI)) (a1) va1 :: G) _ _ _ _
  refine TL_mv 0 [(0, va0), (1, va1), (2, iv (a2)), (3, iv (a3)), (9, p1), (11, iv (x1)), (21, .pointer (some ⟨b1, 0, none⟩))] rfl fun rest => TL_sel (fP eZ (a4) p1 :: fV (eS eZ) (a0) va0 :: fV (eS (eS eI)) (a1) va1 :: G) (fun S w h => ⟨h.2.2.2.2.2.2.2.2.2.1, h.2.2.2.2.2.2.2.2.2.2.1, h.2.2.2.2.2.2.2.2.2.2.2.1, h.2.2.2.2.2.2.2.2.2.2.2.2⟩) <| TL_nil <| T_seq <| T_seq <| T_region ?_
  refine TL_mv 1 [(0, va0), (1, va1), (2, iv (a2)), (3, iv (a3)), (9, p1), (11, iv (x1)), (21, .pointer (some ⟨b1, 0, none⟩)), (22, iv 1)] rfl fun rest => TL_nil <| T_block ?_
  obtain ⟨s1, hL, Hc⟩ := bd_s H
  refine T_X [(.x 0, JQ we Se (G := List (List Zr)) (fun t16 => (⟨(mB (ERep.c (eA 4 (eS eZ))) 125 b1 (t16) :: F), (fP eZ (a4) p1 :: fV (eS (eS eI)) (a1) va1 :: G), [(1, va1), (2, iv (a2)), (3, iv (a3)), (9, p1), (11, iv (x1)), (21, .pointer (some ⟨b1, 0, none⟩))]⟩ : Inv)) (fun t16 => t16 = s1))] ?_ ⟨?_, trivial⟩
  ·refine T_loop_s (G := Nat × Int × (List (List Zr))) (s1 := _) (f := _) (k := fun (n1, i3, t15) => n1) (σ := fun (n1, i3, t15) => (i3, t15)) (fun (n1, i3, t15) => (⟨(mB (ERep.c (eA 4 (eS eZ))) 125 b1 (t15) :: F), (fP eZ (a4) p1 :: fV (eS eZ) (a0) va0 :: fV (eS (eS eI)) (a1) va1 :: G), [(0, va0), (1, va1), (2, iv (a2)), (3, iv (a3)), (9, p1), (11, iv (x1)), (21, .pointer (some ⟨b1, 0, none⟩)), (22, iv (i3))]⟩ : Inv)) (fun (n1, i3, t15) => InR i3) (fu, 1, [t9, t10, t11, t12]) hL (show InR (1) by decide) rfl (fun w h => St.weak h (fun S w h => ⟨h.1, h.2.1, h.2.2.1, h.2.2.2⟩)) ?_
   rintro ⟨n1, i3, t15⟩ ⟨H, hr3⟩ rest
   rcases n1 with _ | n1
   ·exact (loopN_z H).elim
   replace H := loopN_s H
   unfold B_hensel_tree_0 at H
   refine T_prune [(0, va0), (1, va1), (2, iv (a2)), (3, iv (a3)), (9, p1), (11, iv (x1)), (21, .pointer (some ⟨b1, 0, none⟩)), (22, iv (i3))] rfl fun rest => T_weak (mB (ERep.c (eA 4 (eS eZ))) 125 b1 (t15) :: F) (fP eZ (a4) p1 :: fV (eS eZ) (a0) va0 :: fV (eS (eS eI)) (a1) va1 :: G) (fun w h => h) <| T_seq <| T_seq <| T_region <| TL_mv 2 [(0, va0), (1, va1), (2, iv (a2)), (3, iv (a3)), (9, p1), (11, iv (x1)), (21, .pointer (some ⟨b1, 0, none⟩)), (22, iv (i3)), (79, iv (i3)), (80, iv (a3))] rfl fun rest => ?_
   refine TL_lss rfl rfl rfl rfl (fun h2 => ?_) (fun h2 => ?_)
   ·replace H := if_t h2 H
    refine TL_mv 0 [(0, va0), (1, va1), (2, iv (a2)), (3, iv (a3)), (9, p1), (11, iv (x1)), (21, .pointer (some ⟨b1, 0, none⟩)), (22, iv (i3)), (81, .bool true)] rfl fun rest => TL_nil <| T_cond_true rfl <| T_skip <| T_block <| T_seq ?_
    refine T_region <| TL_mv 1 [(0, va0), (1, va1), (2, iv (a2)), (3, iv (a3)), (9, p1), (11, iv (x1)), (21, .pointer (some ⟨b1, 0, none⟩)), (82, iv (i3))] rfl fun rest => ?_
    obtain ⟨x6, hx6, hrx6, H⟩ := ck64_s H
    refine TL_val rfl rfl (r_mul (c := x6) rfl rfl (w_x hx6 hrx6)) <| TL_mv 1 [(0, va0), (1, va1), (2, iv (a2)), (3, iv (a3)), (9, p1), (11, iv (x1)), (21, .pointer (some ⟨b1, 0, none⟩)), (83, iv (x6)), (84, iv (a3))] rfl fun rest => ?_
    obtain ⟨x7, hx7, H⟩ := nm_s H
    refine TL_val rfl rfl (v_i (z := x7) (r_min rfl rfl) hx7) <| TL_mv 1 [(0, va0), (1, va1), (2, iv (a2)), (3, iv (a3)), (9, p1), (11, iv (x1)), (21, .pointer (some ⟨b1, 0, none⟩)), (22, iv (x7))] rfl fun rest => TL_nil <| T_seq <| T_region <| TL_mv 2 [(0, va0), (1, va1), (2, iv (a2)), (3, iv (a3)), (9, p1), (11, iv (x1)), (21, .pointer (some ⟨b1, 0, none⟩)), (22, iv (x7)), (87, iv (a2)), (88, iv (x7))] rfl fun rest => ?_
    obtain ⟨⟨t17, x8⟩, he11, H⟩ := bd_s H
    refine TL_step rfl rfl (oe_call (by kernel_rfl) (c_hensel_Power fu a2 qa2 x7 (eq_r hx7 (min_r hrx6 qa3)) t17 x8 he11) rfl (fun S w h => trivial)) fun u24 hk7 => TL_mv 3 [(0, va0), (1, va1), (2, iv (a2)), (3, iv (a3)), (9, p1), (11, iv (x1)), (21, .pointer (some ⟨b1, 0, none⟩)), (22, iv (x7)), (90, u24), (91, iv (x8))] rfl fun rest => TL_og rfl rfl (og_allocM (e := ERep.c eZ) (z := (false, [])) ty25 (fun S w => z25 S w)) fun b2 _ => ?_
    show TL _ _ _ _ (mB (ERep.c eZ) 25 b2 ((false, [])) :: mB (ERep.c (eA 4 (eS eZ))) 125 b1 (t15) :: F) (fV eZ (t17) u24 :: fP eZ (a4) p1 :: fV (eS eZ) (a0) va0 :: fV (eS (eS eI)) (a1) va1 :: G) _ _ _ _
    refine TL_og rfl rfl (og_store' (f := eZ) (y' := t17) (z2 := t17) 0 rfl rfl rfl (Sub.self eZ ((false, []))) ty25 (fun S w h => h.1) rfl) fun _ _ => ?_
    show TL _ _ _ _ (mB (ERep.c eZ) 25 b2 (t17) :: mB (ERep.c (eA 4 (eS eZ))) 125 b1 (t15) :: F) (fV eZ (t17) u24 :: fP eZ (a4) p1 :: fV (eS eZ) (a0) va0 :: fV (eS (eS eI)) (a1) va1 :: G) _ _ _ _
    refine TL_mv 1 [(0, va0), (1, va1), (2, iv (a2)), (3, iv (a3)), (9, p1), (11, iv (x1)), (21, .pointer (some ⟨b1, 0, none⟩)), (22, iv (x7)), (23, .pointer (some ⟨b2, 0, none⟩))] rfl fun rest => TL_nil <| T_region <| TL_step rfl rfl (oe_loadM (z' := t15) 1 rfl rfl (Sub.self (eA 4 (eS eZ)) (t15)) ty125) fun u25 _ => TL_mv 1 [(0, va0), (1, va1), (2, iv (a2)), (3, iv (a3)), (9, p1), (11, iv (x1)), (21, .pointer (some ⟨b1, 0, none⟩)), (22, iv (x7)), (23, .pointer (some ⟨b2, 0, none⟩)), (92, u25), (93, va0)] rfl fun rest => TL_step rfl rfl (oe_loadM (z' := t17) 0 rfl rfl (Sub.self eZ (t17)) ty25) fun u26 _ => ?_
    obtain ⟨t18, he12, H⟩ := bd_s H
    refine TL_step rfl rfl (oe_call (by kernel_rfl) (c_hensel_pair_up fu t15 u25 a0 va0 t17 u26 t18 he12) rfl (fun S w h => ⟨h.2.1, h.2.2.2.2.1, h.1, trivial⟩)) fun u27 _ => TL_og rfl rfl (og_store' (f := (eA 4 (eS eZ))) (y' := t18) (z2 := t18) 1 rfl rfl rfl (Sub.self (eA 4 (eS eZ)) (t15)) ty125 (fun S w h => h.1) rfl) fun _ _ => ?_
    show TL _ _ _ _ (mB (ERep.c eZ) 25 b2 (t17) :: mB (ERep.c (eA 4 (eS eZ))) 125 b1 (t18) :: F) (fV (eA 4 (eS eZ)) (t18) u27 :: fV eZ (t17) u26 :: fV (eA 4 (eS eZ)) (t15) u25 :: fV eZ (t17) u24 :: fP eZ (a4) p1 :: fV (eS eZ) (a0) va0 :: fV (eS (eS eI)) (a1) va1 :: G) _ _ _ _
    refine TL_mv 0 [(0, va0), (1, va1), (2, iv (a2)), (3, iv (a3)), (9, p1), (11, iv (x1)), (21, .pointer (some ⟨b1, 0, none⟩)), (22, iv (x7))] rfl fun rest => TL_sel (fP eZ (a4) p1 :: fV (eS eZ) (a0) va0 :: fV (eS (eS eI)) (a1) va1 :: G) (fun S w h => ⟨h.2.2.2.2.1, h.2.2.2.2.2.1, h.2.2.2.2.2.2.1, h.2.2.2.2.2.2.2⟩) <| TL_nil ?_
    exact St_round_s (n1, x7, t18) H (eq_r hx7 (min_r hrx6 qa3)) (Nat.lt_succ_self _) rfl (fun w h => St.weak (St.drop (i := 0) h) (fun S w h => ⟨h.1, h.2.1, h.2.2.1, h.2.2.2⟩))
   replace H := if_f h2 H
   refine TL_mv 0 [(0, va0), (1, va1), (2, iv (a2)), (3, iv (a3)), (9, p1), (11, iv (x1)), (21, .pointer (some ⟨b1, 0, none⟩)), (22, iv (i3)), (81, .bool false)] rfl fun rest => TL_nil <| T_cond_false rfl <| T_exit ?_
   exact JQ_mk t15 (Option.some.inj H) rfl (fun w h => St.weak h (fun S w h => ⟨h.1, h.2.2.1, h.2.2.2⟩))
  refine JQ_el' ?_
  rintro t16 hs rest
  subst hs
  replace H := Hc
  clear hL
  refine JG_to (ms' := (mB (ERep.c (eA 4 (eS eZ))) 125 b1 (t16) :: F)) (Γ' := (fP eZ (a4) p1 :: fV (eS (eS eI)) (a1) va1 :: G)) (live' := [(1, va1), (2, iv (a2)), (3, iv (a3)), (9, p1), (11, iv (x1)), (21, .pointer (some ⟨b1, 0, none⟩))]) rfl <| T_seq <| T_alen 0 rfl fun ha1 => ?_
  obtain ⟨y4, hy4, H⟩ := nm_s H
  obtain ⟨j4, hj4, H⟩ := ckN_s H
  obtain ⟨hk8, H⟩ := ck_s H
  obtain ⟨y5, hy5, H⟩ := nm_s H
  obtain ⟨t19, he13, H⟩ := bd_s H
  refine T_alen 0 rfl fun ha2 => ?_
  obtain ⟨y6, hy6, H⟩ := nm_s H
  obtain ⟨j5, hj5, H⟩ := ckN_s H
  obtain ⟨hk9, H⟩ := ck_s H
  obtain ⟨y7, hy7, H⟩ := nm_s H
  refine T_any (mE := (mB (ERep.c (eA 4 (eS eZ))) 125 b1 (t16) :: F)) 17 [prV (.pointer (some ⟨b1, 0 + 0 * 1, none⟩)), prE (fun u : Value => u) (fun u => [fV (eS eZ) (y4) u]) (fun _ => True), prV (va1), prE (fun _ : Unit => iv (x1)) (fun _ => []) (fun _ => InR x1), prE (fun u : Value => u) (fun u => [fV (eS (eS eI)) (y5) u]) (fun _ => True), prE (fun _ : Unit => iv (a2)) (fun _ => []) (fun _ => InR a2), prE (fun _ : Unit => iv (a3)) (fun _ => []) (fun _ => InR a3), prE (fun u : Value => u) (fun u => [fV eZ (a4) u]) (fun _ => True), prT, prV (.pointer (some ⟨b1, 0 + 1 * 1, none⟩)), prE (fun u : Value => u) (fun u => [fV (eS eZ) (y6) u]) (fun _ => True), prV (va1), prE (fun _ : Unit => iv (x1)) (fun _ => []) (fun _ => InR x1), prE (fun u : Value => u) (fun u => [fV (eS (eS eI)) (y7) u]) (fun _ => True), prE (fun _ : Unit => iv (a2)) (fun _ => []) (fun _ => InR a2), prE (fun _ : Unit => iv (a3)) (fun _ => []) (fun _ => InR a3), prE (fun u : Value => u) (fun u => [fV eZ (a4) u]) (fun _ => True)] [none, none, none, none, none, none, none, none, some (0, false), none, none, none, none, none, none, none, none] [⟨some 8, 104, none, fun b v => mO (eS eZ) 31 v (t19)⟩] [106, 109, 110, 111, 112] rfl (by kernel_rfl) rfl rfl (by kernel_rfl) rfl (by kernel_rfl) ⟨?_, ?_, ?_, ?_, ?_, ?_, ?_, ?_, ?_, ?_, ?_, ?_, ?_, ?_, ?_, ?_, ?_, trivial⟩ ?_
  ·intro S w env hS hM hΓ hl
   obtain ⟨e21, _⟩ := hl
   exact ⟨fun _ => ob_V (r_indexA Tryz.underlying125 ty31 (e21.trans rfl) rfl (k := 0) (by decide)), fun hc => (by cases hc)⟩
  ·intro S w env hS hM hΓ hl
   obtain ⟨e96, _⟩ := hl
   exact ⟨fun _ => ob_E (Γ := (fP eZ (a4) p1 :: fV (eS (eS eI)) (a1) va1 :: G)) (oe_loadM (z' := y4) 0 rfl e96 (Sub.nth0 4 (eS eZ) (t16) 0 _ (getE (z := ([])) (alt (by decide) ha1) hy4)) ty31) hS hM hΓ, fun hc => (by cases hc)⟩
  ·intro S w env hS hM hΓ hl
   obtain ⟨e1, _⟩ := hl
   exact ⟨fun _ => ob_mv (e1.trans rfl), fun hc => (by cases hc)⟩
  ·intro S w env hS hM hΓ hl
   obtain ⟨e11, _⟩ := hl
   exact ⟨fun _ => ob_VE (p := InR x1) (r_mv (e11.trans rfl)) hrx1, fun hc => (by cases hc)⟩
  ·intro S w env hS hM hΓ hl
   obtain ⟨e98, ⟨_, e99, ho1, f99⟩, _⟩ := hl
   exact ⟨fun _ => ob_E (Γ := (fP eZ (a4) p1 :: fV (eS (eS eI)) (a1) va1 :: G)) (oe_as (oe_sliceT (e := (eS eI)) (xs := a1) (h := j4) e98 Tryz.underlying32 ty51 (e99.trans (vi hj4)) hk8 (fun S w h => h.2.1)) hy5) hS hM hΓ, fun hc => (by cases hc)⟩
  ·intro S w env hS hM hΓ hl
   obtain ⟨e2, _⟩ := hl
   exact ⟨fun _ => ob_VE (p := InR a2) (r_mv (e2.trans rfl)) qa2, fun hc => (by cases hc)⟩
  ·intro S w env hS hM hΓ hl
   obtain ⟨e3, _⟩ := hl
   exact ⟨fun _ => ob_VE (p := InR a3) (r_mv (e3.trans rfl)) qa3, fun hc => (by cases hc)⟩
  ·intro S w env hS hM hΓ hl
   obtain ⟨e9, _⟩ := hl
   exact ⟨fun _ => ob_E (Γ := (fP eZ (a4) p1 :: fV (eS (eS eI)) (a1) va1 :: G)) (oe_load (e := eZ) (y := a4) (e9.trans rfl) ty25 (fun S w h => h.1)) hS hM hΓ, fun hc => (by cases hc)⟩
  ·refine ⟨rfl, rfl, fun r hr => ?_⟩
   cases hr
   intro env F G w hst
   have hst : St we Se F (fHold _ _ env [97, 100, 101, 102, 103] :: _) w := hst
   obtain ⟨u28, e97, _, hst⟩ := St.openE hst rfl
   obtain ⟨u29, e100, _, hst⟩ := St.openE hst rfl
   obtain ⟨_, e101, ho2, hst⟩ := St.openE hst rfl
   obtain ⟨_, e102, ho3, hst⟩ := St.openE hst rfl
   obtain ⟨u30, e103, _, hst⟩ := St.openE hst rfl
   refine ((og_callG (F := (F)) (by kernel_rfl) (ih y4 u28 y5 u29 a2 ho2 a3 ho3 a4 u30 t19 he13) (la_cons (by exact e97) (la_cons (by exact e100) (la_cons (by exact e101) (la_cons (by exact e102) (la_cons (by exact e103) la_nil))))) (by exact fun S w h => ⟨h.2.2.2.1, h.2.2.1, h.2.1, trivial⟩)) w hst).mono ?_
   rintro v w' ⟨u, rfl, _, h3⟩
   exact St.weak h3 fun S w h => h.2.2.2.2
  ·intro S w env hS hM hΓ hl
   obtain ⟨e21, _⟩ := hl
   exact ⟨fun _ => ob_V (r_indexA Tryz.underlying125 ty31 (e21.trans rfl) rfl (k := 1) (by decide)), fun hc => (by cases hc)⟩
  ·intro S w env hS hM hΓ hl
   obtain ⟨e105, _⟩ := hl
   exact ⟨fun _ => ob_E (Γ := (fP eZ (a4) p1 :: fV (eS (eS eI)) (a1) va1 :: G)) (oe_loadM (z' := y6) 0 rfl e105 (Sub.nth0 4 (eS eZ) (t16) 1 _ (getE (z := ([])) (alt (by decide) ha2) hy6)) ty31) hS hM hΓ, fun hc => (by cases hc)⟩
  ·intro S w env hS hM hΓ hl
   obtain ⟨e1, _⟩ := hl
   exact ⟨fun _ => ob_mv (e1.trans rfl), fun hc => (by cases hc)⟩
  ·intro S w env hS hM hΓ hl
   obtain ⟨e11, _⟩ := hl
   exact ⟨fun _ => ob_VE (p := InR x1) (r_mv (e11.trans rfl)) hrx1, fun hc => (by cases hc)⟩
  ·intro S w env hS hM hΓ hl
   obtain ⟨e107, ⟨_, e108, ho4, f108⟩, _⟩ := hl
   exact ⟨fun _ => ob_E (Γ := (fP eZ (a4) p1 :: fV (eS (eS eI)) (a1) va1 :: G)) (oe_as (oe_sliceD (e := (eS eI)) (xs := a1) (l := j5) e107 Tryz.underlying32 ty51 (e108.trans (vi hj5)) hk9 (fun S w h => h.2.1)) hy7) hS hM hΓ, fun hc => (by cases hc)⟩
  ·intro S w env hS hM hΓ hl
   obtain ⟨e2, _⟩ := hl
   exact ⟨fun _ => ob_VE (p := InR a2) (r_mv (e2.trans rfl)) qa2, fun hc => (by cases hc)⟩
  ·intro S w env hS hM hΓ hl
   obtain ⟨e3, _⟩ := hl
   exact ⟨fun _ => ob_VE (p := InR a3) (r_mv (e3.trans rfl)) qa3, fun hc => (by cases hc)⟩
  ·intro S w env hS hM hΓ hl
   obtain ⟨e9, _⟩ := hl
   exact ⟨fun _ => ob_E (Γ := (fP eZ (a4) p1 :: fV (eS (eS eI)) (a1) va1 :: G)) (oe_load (e := eZ) (y := a4) (e9.trans rfl) ty25 (fun S w h => h.1)) hS hM hΓ, fun hc => (by cases hc)⟩
  intro env w hst
  have hst : St we Se _ (fHold _ _ env [106, 109, 110, 111, 112] :: _) w := hst
  obtain ⟨u32, e106, _, hst⟩ := St.openE hst rfl
  obtain ⟨u33, e109, _, hst⟩ := St.openE hst rfl
  obtain ⟨_, e110, ho5, hst⟩ := St.openE hst rfl
  obtain ⟨_, e111, ho6, hst⟩ := St.openE hst rfl
  obtain ⟨u34, e112, _, hst⟩ := St.openE hst rfl
  have hst := (show St we Se (mO (eS eZ) 31 ((env 104)) (t19) :: mB (ERep.c (eA 4 (eS eZ))) 125 b1 (t16) :: F) _ w from hst)
  generalize hPq0 : env 104 = w1 at hst
  refine fin_TL (ms' := (mO (eS eZ) 31 w1 (t19) :: mB (ERep.c (eA 4 (eS eZ))) 125 b1 (t16) :: F)) (Γ' := (fV eZ (a4) u34 :: fV (eS (eS eI)) (y7) u33 :: fV (eS eZ) (y6) u32 :: fP eZ (a4) p1 :: fV (eS (eS eI)) (a1) va1 :: G)) [(104, w1), (106, u32), (109, u33), (110, iv (a2)), (111, iv (a3)), (112, u34)] (agr ⟨hPq0, e106, e109, e110, e111, e112, trivial⟩) (St.weak hst fun S w h => h.2) fun rest => ?_
  obtain ⟨t20, he14, H⟩ := bd_s H
  refine TL_og rfl rfl (og_callG (F := (mO (eS eZ) 31 w1 (t19) :: mB (ERep.c (eA 4 (eS eZ))) 125 b1 (t16) :: F)) (by kernel_rfl) (ih y6 u32 y7 u33 a2 ho5 a3 ho6 a4 u34 t20 he14) rfl (fun S w h => ⟨h.2.2.1, h.2.1, h.1, trivial⟩)) fun u35 _ => ?_
  show TL _ _ _ _ (mO (eS eZ) 31 u35 (t20) :: mO (eS eZ) 31 w1 (t19) :: mB (ERep.c (eA 4 (eS eZ))) 125 b1 (t16) :: F) (fV eZ (a4) u34 :: fV (eS (eS eI)) (y7) u33 :: fV (eS eZ) (y6) u32 :: fP eZ (a4) p1 :: fV (eS (eS eI)) (a1) va1 :: G) _ _ _ _
  refine TL_weak_st (fun w h => fz_own 0 h rfl) ?_
  obtain ⟨hk10, H⟩ := ck_s H
  obtain ⟨t21, ht21, H⟩ := nm_s H
  refine TL_og rfl rfl (og_append' (e := (eS eZ)) (xs := t19) (ys := t20) 0 Tryz.underlying36 ty31 rfl (by decide) (by decide) rfl rfl rfl (fun S w h => h.1) hk10 ht21) fun w2 _ => ?_
  show TL _ _ _ _ (mO (eS eZ) 31 w2 (t21) :: mB (ERep.c (eA 4 (eS eZ))) 125 b1 (t16) :: F) (fV (eS (eS eZ)) (t20) u35 :: fV eZ (a4) u34 :: fV (eS (eS eI)) (y7) u33 :: fV (eS eZ) (y6) u32 :: fP eZ (a4) p1 :: fV (eS (eS eI)) (a1) va1 :: G) _ _ _ _
  refine TL_mv 1 [(10, w2)] rfl fun rest => TL_nil <| T_ret ?_
  obtain rfl := inj1 H
  intro w hw
  exact RetG (vs := [w2]) w2 Tryz.results66 (by exact ⟨rfl, trivial⟩) rfl trivial (St.weak (St.drop (i := 1) hw) (fun S w h => h.2.2.2.2.2.2))
set_option maxRecDepth 100000 in
set_option maxHeartbeats 1000000 in
theorem c_hensel_Lift (fu : Nat) (a0 : List Zr) (va0 : Value) (a1 : List (List Int)) (va1 : Value) (a2 : Int) (qa2 : InR a2) (a3 : Int) (qa3 : InR a3) (r0 : List (List Zr)) (r1 : Int) (H : M_hensel_Lift fu a0 a1 a2 a3 = some (r0, r1)) : FnG Tryz.prog 19 [va0, va1, iv a2, iv a3].toArray [] [fV (eS eZ) (a0) va0, fV (eS (eS eI)) (a1) va1] (fun u : Value => .tuple #[u, iv (r1)]) (fun u => [mO (eS eZ) 31 u (r0)]) (fun u => []) (fun _ => InR r1) := by
 unfold M_hensel_Lift at H
 refine FnG_intro Tryz.func19 rfl rfl fun we Se F G rest => T_seq <| T_region <| TL_mv 2 [(0, va0), (1, va1), (2, iv (a2)), (3, iv (a3))] rfl fun rest => TL_nil <| T_seq ?_
 refine T_region <| TL_mv 2 [(0, va0), (1, va1), (2, iv (a2)), (3, iv (a3)), (13, iv (a2)), (14, iv (a3))] rfl fun rest => ?_
 obtain ⟨⟨t1, x1⟩, he1, H⟩ := bd_s H
 refine TL_step rfl rfl (oe_call (by kernel_rfl) (c_hensel_Power fu a2 qa2 a3 qa3 t1 x1 he1) rfl (fun S w h => trivial)) fun u1 hk1 => TL_mv 3 [(0, va0), (1, va1), (2, iv (a2)), (3, iv (a3)), (16, u1), (17, iv (x1))] rfl fun rest => TL_og rfl rfl (og_allocM (e := ERep.c eZ) (z := (false, [])) ty25 (fun S w => z25 S w)) fun b1 _ => ?_
 show TL _ _ _ _ (mB (ERep.c eZ) 25 b1 ((false, [])) :: F) (fV eZ (t1) u1 :: fV (eS eZ) (a0) va0 :: fV (eS (eS eI)) (a1) va1 :: G) _ _ _ _
 refine TL_og rfl rfl (og_store' (f := eZ) (y' := t1) (z2 := t1) 0 rfl rfl rfl (Sub.self eZ ((false, []))) ty25 (fun S w h => h.1) rfl) fun _ _ => ?_
 show TL _ _ _ _ (mB (ERep.c eZ) 25 b1 (t1) :: F) (fV eZ (t1) u1 :: fV (eS eZ) (a0) va0 :: fV (eS (eS eI)) (a1) va1 :: G) _ _ _ _
 refine TL_mv 1 [(0, va0), (1, va1), (2, iv (a2)), (3, iv (a3)), (10, .pointer (some ⟨b1, 0, none⟩)), (11, iv (x1))] rfl fun rest => TL_nil <| T_seq <| T_region <| TL_mv 1 [(1, va1), (2, iv (a2)), (3, iv (a3)), (10, .pointer (some ⟨b1, 0, none⟩)), (11, iv (x1)), (18, va0)] rfl fun rest => ?_
 obtain ⟨t2, he2, H⟩ := bd_s H
 refine TL_og rfl rfl (og_callG (F := (mB (ERep.c eZ) 25 b1 (t1) :: F)) (by kernel_rfl) (c_zpoly_Norm fu a0 va0 t2 he2) rfl (fun S w h => ⟨h.2.1, trivial⟩)) fun u2 _ => ?_
 show TL _ _ _ _ (mO eZ 25 u2 (t2) :: mB (ERep.c eZ) 25 b1 (t1) :: F) (fV eZ (t1) u1 :: fV (eS eZ) (a0) va0 :: fV (eS (eS eI)) (a1) va1 :: G) _ _ _ _
 refine TL_mv 1 [(0, u2), (1, va1), (2, iv (a2)), (3, iv (a3)), (10, .pointer (some ⟨b1, 0, none⟩)), (11, iv (x1))] rfl fun rest => TL_nil <| T_seq <| T_block <| T_seq <| T_region ?_
 refine TL_mv 1 [(0, u2), (1, va1), (2, iv (a2)), (3, iv (a3)), (10, .pointer (some ⟨b1, 0, none⟩)), (11, iv (x1)), (21, iv (x1))] rfl fun rest => TL_neq rfl rfl rfl rfl (fun h1 => ?_) (fun h1 => ?_)
 ·replace H := if_f h1 H
  refine TL_mv 1 [(0, u2), (1, va1), (2, iv (a2)), (3, iv (a3)), (10, .pointer (some ⟨b1, 0, none⟩)), (11, iv (x1)), (20, .bool true)] rfl fun rest => TL_nil <| T_cond_true rfl <| T_seq <| T_region <| TL_mv 3 [(8, .slice none 0 0), (9, iv (x1))] rfl fun rest => ?_
  refine TL_nil <| T_ret <| T_weak_st (fun w h => St.nilO (e := (eS eZ)) (E := 31) h) ?_
  obtain ⟨rfl, rfl⟩ := inj2 H
  intro w hw
  exact RetG (vs := [(.slice none 0 0), (iv (x1) : Value)]) (.slice none 0 0) Tryz.results19 (by exact ⟨rfl, rfl, trivial⟩) rfl hk1 (St.weak (St.drop (i := 1) (St.drop (i := 2) hw)) (fun S w h => h.2.2.2))
 replace H := if_t h1 H
 refine TL_mv 1 [(0, u2), (1, va1), (2, iv (a2)), (3, iv (a3)), (10, .pointer (some ⟨b1, 0, none⟩)), (11, iv (x1)), (20, .bool false)] rfl fun rest => TL_nil <| T_cond_false rfl <| T_seq <| T_region <| TL_mv 1 [(0, u2), (1, va1), (2, iv (a2)), (3, iv (a3)), (10, .pointer (some ⟨b1, 0, none⟩)), (25, u2)] rfl fun rest => ?_
 refine TL_step rfl rfl (oe_lenM 0 rfl Tryz.underlying31 rfl) fun _ hl1 => TL_gtr rfl rfl rfl rfl (fun h2 => ?_) (fun h2 => ?_)
 ·replace H := if_t h2 H
  refine TL_mv 1 [(0, u2), (1, va1), (2, iv (a2)), (3, iv (a3)), (10, .pointer (some ⟨b1, 0, none⟩)), (24, .bool true)] rfl fun rest => TL_nil <| T_cond_true rfl <| T_seq <| T_region <| TL_mv 2 [(8, .slice none 0 0), (9, iv 6)] rfl fun rest => ?_
  refine TL_nil <| T_ret <| T_weak_st (fun w h => St.nilO (e := (eS eZ)) (E := 31) h) ?_
  obtain ⟨rfl, rfl⟩ := inj2 H
  intro w hw
  exact RetG (vs := [(.slice none 0 0), (iv 6 : Value)]) (.slice none 0 0) Tryz.results19 (by exact ⟨rfl, rfl, trivial⟩) rfl (show InR (6) by decide) (St.weak (St.drop (i := 1) (St.drop (i := 2) hw)) (fun S w h => h.2.2.2))
 replace H := if_f h2 H
 refine TL_mv 1 [(0, u2), (1, va1), (2, iv (a2)), (3, iv (a3)), (10, .pointer (some ⟨b1, 0, none⟩)), (24, .bool false)] rfl fun rest => TL_nil <| T_cond_false rfl <| T_seq <| T_region <| TL_mv 3 [(0, u2), (1, va1), (2, iv (a2)), (3, iv (a3)), (10, .pointer (some ⟨b1, 0, none⟩)), (29, u2), (30, va1), (31, iv (a2))] rfl fun rest => ?_
 refine TL_weak_st (fun w h => fz_own 0 h rfl) ?_
 obtain ⟨c1, he3, H⟩ := bd_s H
 refine TL_step rfl rfl (oe_call (by kernel_rfl) (c_hensel_right fu t2 u2 a1 va1 a2 qa2 c1 he3) rfl (fun S w h => ⟨h.1, h.2.2.2.1, trivial⟩)) fun _ _ => TL_mv 2 [(0, u2), (1, va1), (2, iv (a2)), (3, iv (a3)), (10, .pointer (some ⟨b1, 0, none⟩)), (28, .bool (!c1))] rfl fun rest => TL_nil <| T_cond (!c1) rfl (fun hb1 => ?_) (fun hb1 => ?_)
 ·replace H := if_t hb1 H
  refine T_seq <| T_region <| TL_mv 2 [(8, .slice none 0 0), (9, iv 1)] rfl fun rest => TL_nil <| T_ret <| T_weak_st (fun w h => St.nilO (e := (eS eZ)) (E := 31) h) ?_
  obtain ⟨rfl, rfl⟩ := inj2 H
  intro w hw
  exact RetG (vs := [(.slice none 0 0), (iv 1 : Value)]) (.slice none 0 0) Tryz.results19 (by exact ⟨rfl, rfl, trivial⟩) rfl (show InR (1) by decide) (St.weak (St.drop (i := 1) hw) (fun S w h => h.2.2.2.2))
 replace H := ifb_f hb1 H
 refine T_seq <| T_region <| TL_mv 1 [(0, u2), (1, va1), (2, iv (a2)), (3, iv (a3)), (10, .pointer (some ⟨b1, 0, none⟩)), (35, va1)] rfl fun rest => TL_step rfl rfl (oe_len (e := (eS eI)) (xs := a1) Tryz.underlying32 rfl (fun S w h => h.2.2.2.1)) fun _ hl2 => TL_eql rfl rfl rfl rfl (fun h3 => ?_) (fun h3 => ?_)
 ·replace H := if_t h3 H
  refine TL_mv 1 [(0, u2), (1, va1), (2, iv (a2)), (3, iv (a3)), (10, .pointer (some ⟨b1, 0, none⟩)), (34, .bool true)] rfl fun rest => TL_nil <| T_cond_true rfl <| T_seq <| T_region <| TL_mv 2 [(8, .slice none 0 0), (9, iv 0)] rfl fun rest => ?_
  refine TL_nil <| T_ret <| T_weak_st (fun w h => St.nilO (e := (eS eZ)) (E := 31) h) ?_
  obtain ⟨rfl, rfl⟩ := inj2 H
  intro w hw
  exact RetG (vs := [(.slice none 0 0), (iv 0 : Value)]) (.slice none 0 0) Tryz.results19 (by exact ⟨rfl, rfl, trivial⟩) rfl (show InR (0) by decide) (St.weak (St.drop (i := 1) hw) (fun S w h => h.2.2.2.2))
 replace H := if_f h3 H
 refine TL_mv 1 [(0, u2), (1, va1), (2, iv (a2)), (3, iv (a3)), (10, .pointer (some ⟨b1, 0, none⟩)), (34, .bool false)] rfl fun rest => TL_nil <| T_cond_false rfl <| T_skip <| T_seq ?_
 obtain ⟨t3, he4, H⟩ := bd_s H
 refine T_draw 7 [prV (u2), prE (fun u : Value => u) (fun u => [fV eZ (t1) u]) (fun _ => True), prE (fun u : Value => u) (fun u => [fV (eS eZ) (t3) u]) (fun _ => True), prV (va1), prE (fun _ : Unit => iv (a2)) (fun _ => []) (fun _ => InR a2), prE (fun _ : Unit => iv (a3)) (fun _ => []) (fun _ => InR a3), prE (fun u : Value => u) (fun u => [fV eZ (t1) u]) (fun _ => True)] [40, 41, 42, 43, 44] rfl (by kernel_rfl) rfl (by kernel_rfl) ⟨?_, ?_, ?_, ?_, ?_, ?_, ?_, trivial⟩ ?_
 ·intro S w env hS hM hΓ hl
  obtain ⟨e0, _⟩ := hl
  exact ⟨fun _ => ob_mv (e0.trans rfl), fun hc => (by cases hc)⟩
 ·intro S w env hS hM hΓ hl
  obtain ⟨e10, _⟩ := hl
  exact ⟨fun _ => ob_E (Γ := (fV (eS eZ) (t2) u2 :: fV eZ (t1) u1 :: fV (eS eZ) (a0) va0 :: fV (eS (eS eI)) (a1) va1 :: G)) (oe_loadM (z' := t1) 0 rfl (e10.trans rfl) (Sub.self eZ (t1)) ty25) hS hM hΓ, fun hc => (by cases hc)⟩
 ·intro S w env hS hM hΓ hl
  obtain ⟨e38, ⟨u3, e39, _, f39⟩, _⟩ := hl
  exact ⟨fun _ => ob_E (Γ := (fV eZ (t1) u3 :: fV (eS eZ) (t2) u2 :: fV eZ (t1) u1 :: fV (eS eZ) (a0) va0 :: fV (eS (eS eI)) (a1) va1 :: G)) (oe_call (by kernel_rfl) (z_hensel_red fu t2 u2 t1 u3 t3 he4) (la_cons e38 (la_cons e39 la_nil)) (fun S w h => ⟨h.2.1, h.1, trivial⟩)) hS hM ⟨f39.1, hΓ⟩, fun hc => (by cases hc)⟩
 ·intro S w env hS hM hΓ hl
  obtain ⟨e1, _⟩ := hl
  exact ⟨fun _ => ob_mv (e1.trans rfl), fun hc => (by cases hc)⟩
 ·intro S w env hS hM hΓ hl
  obtain ⟨e2, _⟩ := hl
  exact ⟨fun _ => ob_VE (p := InR a2) (r_mv (e2.trans rfl)) qa2, fun hc => (by cases hc)⟩
 ·intro S w env hS hM hΓ hl
  obtain ⟨e3, _⟩ := hl
  exact ⟨fun _ => ob_VE (p := InR a3) (r_mv (e3.trans rfl)) qa3, fun hc => (by cases hc)⟩
 ·intro S w env hS hM hΓ hl
  obtain ⟨e10, _⟩ := hl
  exact ⟨fun _ => ob_E (Γ := (fV (eS eZ) (t2) u2 :: fV eZ (t1) u1 :: fV (eS eZ) (a0) va0 :: fV (eS (eS eI)) (a1) va1 :: G)) (oe_loadM (z' := t1) 0 rfl (e10.trans rfl) (Sub.self eZ (t1)) ty25) hS hM hΓ, fun hc => (by cases hc)⟩
 intro S w env hS hΓ hl
 obtain ⟨⟨u4, e40, _, f40⟩, e41, ⟨_, e42, ho1, f42⟩, ⟨_, e43, ho2, f43⟩, ⟨u5, e44, _, f44⟩, _⟩ := hl
 refine ⟨(fV (eS eZ) (t3) u4 :: fV eZ (t1) u5 :: fV (eS eZ) (t2) u2 :: fV eZ (t1) u1 :: fV (eS eZ) (a0) va0 :: fV (eS (eS eI)) (a1) va1 :: G), [(40, u4), (41, va1), (42, iv (a2)), (43, iv (a3)), (44, u5)], ⟨f40.1, f44.1, hΓ⟩, (agr ⟨e40, e41, e42, e43, e44, trivial⟩), fun rest => ?_⟩
 obtain ⟨t4, he5, H⟩ := bd_s H
 refine TL_og rfl rfl (og_callG (F := (mB (ERep.c eZ) 25 b1 (t1) :: F)) (by kernel_rfl) (c_hensel_tree fu t3 u4 a1 va1 a2 ho1 a3 ho2 t1 u5 t4 he5) rfl (fun S w h => ⟨h.1, h.2.2.2.2.2.1, h.2.1, trivial⟩)) fun u6 _ => ?_
 show TL _ _ _ _ (mO (eS eZ) 31 u6 (t4) :: mB (ERep.c eZ) 25 b1 (t1) :: F) (fV (eS eZ) (t3) u4 :: fV eZ (t1) u5 :: fV (eS eZ) (t2) u2 :: fV eZ (t1) u1 :: fV (eS eZ) (a0) va0 :: fV (eS (eS eI)) (a1) va1 :: G) _ _ _ _
 refine TL_mv 2 [(8, u6), (9, iv 0)] rfl fun rest => TL_nil <| T_ret ?_
 obtain ⟨rfl, rfl⟩ := inj2 H
 intro w hw
 exact RetG (vs := [u6, (iv 0 : Value)]) u6 Tryz.results19 (by exact ⟨rfl, rfl, trivial⟩) rfl (show InR (0) by decide) (St.weak (St.drop (i := 1) hw) (fun S w h => h.2.2.2.2.2.2))
set_option maxRecDepth 100000 in
set_option maxHeartbeats 1000000 in
theorem c_law13_awake (fu : Nat)  (r0 : Bool) (H : M_law13_awake fu  = some r0) : Fn Tryz.prog 12 [].toArray [] (fun _ : Unit => .bool (r0)) (fun _ => []) (fun _ => True) := by
 unfold M_law13_awake at H
 refine Fn_intro Tryz.func12 rfl rfl fun we Se rest => T_seq <| T_region <| TL_mv 1 [] rfl fun rest => TL_nil <| T_seq ?_
 refine T_region <| TL_step rfl rfl (oe_lit (e := eI) (zs := [1, 0, 1]) Tryz.underlying51 ty3 (by decide) rfl (by decide) (vs := [(0, iv 1), (1, iv 0), (2, iv 1)]) rfl (fun S w h => (by refine fill_eq eI ?_; exact ⟨fV_sz (S := S) (w := w) (i64_fV (show InR (1) by decide)), fV_sz (S := S) (w := w) (i64_fV (show InR (0) by decide)), fV_sz (S := S) (w := w) (i64_fV (show InR (1) by decide)), trivial⟩)) (fun S w h => (elems_cons (i64_fV (show InR (1) by decide)) (elems_cons (i64_fV (show InR (0) by decide)) (elems_one (i64_fV (show InR (1) by decide))))))) fun u1 _ => ?_
 obtain ⟨t1, he1, H⟩ := bd_s H
 refine TL_og rfl rfl (og_callG (F := []) (by kernel_rfl) (c_zpoly_Of fu [1, 0, 1] u1 t1 he1) rfl (fun S w h => ⟨h.1, trivial⟩)) fun u2 _ => ?_
 show TL _ _ _ _ [mO eZ 25 u2 (t1)] [fV (eS eI) ([1, 0, 1]) u1] _ _ _ _
 refine TL_step rfl rfl (oe_lit (e := eI) (zs := [2, 1]) Tryz.underlying51 ty3 (by decide) rfl (by decide) (vs := [(0, iv 2), (1, iv 1)]) rfl (fun S w h => (by refine fill_eq eI ?_; exact ⟨fV_sz (S := S) (w := w) (i64_fV (show InR (2) by decide)), fV_sz (S := S) (w := w) (i64_fV (show InR (1) by decide)), trivial⟩)) (fun S w h => (elems_cons (i64_fV (show InR (2) by decide)) (elems_one (i64_fV (show InR (1) by decide)))))) fun u3 _ => ?_
 refine TL_step rfl rfl (oe_lit (e := eI) (zs := [3, 1]) Tryz.underlying51 ty3 (by decide) rfl (by decide) (vs := [(0, iv 3), (1, iv 1)]) rfl (fun S w h => (by refine fill_eq eI ?_; exact ⟨fV_sz (S := S) (w := w) (i64_fV (show InR (3) by decide)), fV_sz (S := S) (w := w) (i64_fV (show InR (1) by decide)), trivial⟩)) (fun S w h => (elems_cons (i64_fV (show InR (3) by decide)) (elems_one (i64_fV (show InR (1) by decide)))))) fun u4 _ => ?_
 refine TL_step rfl rfl (oe_lit (e := (eS eI)) (zs := [[2, 1], [3, 1]]) Tryz.underlying32 ty51 (by decide) rfl (by decide) (vs := [(0, u3), (1, u4)]) rfl (fun S w h => (by refine fill_eq (eS eI) ?_; exact ⟨fV_sz (S := S) (w := w) h.2.1, fV_sz (S := S) (w := w) h.1, trivial⟩)) (fun S w h => (elems_cons h.2.1 (elems_one h.1)))) fun u5 _ => ?_
 refine TL_weak_st (fun w h => fz_own 0 h rfl) ?_
 obtain ⟨⟨t2, x1⟩, he2, H⟩ := bd_s H
 refine TL_og rfl rfl (og_callG (F := []) (by kernel_rfl) (c_hensel_Lift fu t1 u2 ([[2, 1], [3, 1]]) u5 5 (show InR (5) by decide) 2 (show InR (2) by decide) t2 x1 he2) rfl (fun S w h => ⟨h.1, h.2.1, trivial⟩)) fun u6 hk1 => ?_
 show TL _ _ _ _ [mO (eS eZ) 31 u6 (t2)] [fV (eS eZ) (t1) u2, fV (eS (eS eI)) ([[2, 1], [3, 1]]) u5, fV (eS eI) ([3, 1]) u4, fV (eS eI) ([2, 1]) u3, fV (eS eI) ([1, 0, 1]) u1] _ _ _ _
 refine TL_mv 5 [(1, u6), (2, iv (x1))] rfl fun rest => TL_nil <| T_seq <| T_region <| TL_mv 1 [(1, u6), (12, iv (x1))] rfl fun rest => TL_eql rfl rfl rfl rfl (fun h1 => ?_) (fun h1 => ?_)
 ·replace H := if_t h1 H
  refine TL_mv 2 [(14, .bool true), (15, u6)] rfl fun rest => TL_step rfl rfl (oe_lit (e := eI) (zs := [7, 1]) Tryz.underlying51 ty3 (by decide) rfl (by decide) (vs := [(0, iv 7), (1, iv 1)]) rfl (fun S w h => (by refine fill_eq eI ?_; exact ⟨fV_sz (S := S) (w := w) (i64_fV (show InR (7) by decide)), fV_sz (S := S) (w := w) (i64_fV (show InR (1) by decide)), trivial⟩)) (fun S w h => (elems_cons (i64_fV (show InR (7) by decide)) (elems_one (i64_fV (show InR (1) by decide)))))) fun u7 _ => ?_
  obtain ⟨t3, he3, H⟩ := bd_s H
  refine TL_og rfl rfl (og_callG (F := [mO (eS eZ) 31 u6 (t2)]) (by kernel_rfl) (c_ref10_Of fu [7, 1] u7 t3 he3) rfl (fun S w h => ⟨h.1, trivial⟩)) fun u8 _ => ?_
  show TL _ _ _ _ [mO eZ 25 u8 (t3), mO (eS eZ) 31 u6 (t2)] [fV (eS eI) ([7, 1]) u7, fV (eS eZ) (t1) u2, fV (eS (eS eI)) ([[2, 1], [3, 1]]) u5, fV (eS eI) ([3, 1]) u4, fV (eS eI) ([2, 1]) u3, fV (eS eI) ([1, 0, 1]) u1] _ _ _ _
  refine TL_step rfl rfl (oe_lit (e := eI) (zs := [18, 1]) Tryz.underlying51 ty3 (by decide) rfl (by decide) (vs := [(0, iv 18), (1, iv 1)]) rfl (fun S w h => (by refine fill_eq eI ?_; exact ⟨fV_sz (S := S) (w := w) (i64_fV (show InR (18) by decide)), fV_sz (S := S) (w := w) (i64_fV (show InR (1) by decide)), trivial⟩)) (fun S w h => (elems_cons (i64_fV (show InR (18) by decide)) (elems_one (i64_fV (show InR (1) by decide)))))) fun u9 _ => ?_
  obtain ⟨t4, he4, H⟩ := bd_s H
  refine TL_og rfl rfl (og_callG (F := [mO eZ 25 u8 (t3), mO (eS eZ) 31 u6 (t2)]) (by kernel_rfl) (c_ref10_Of fu [18, 1] u9 t4 he4) rfl (fun S w h => ⟨h.1, trivial⟩)) fun u10 _ => ?_
  show TL _ _ _ _ [mO eZ 25 u10 (t4), mO eZ 25 u8 (t3), mO (eS eZ) 31 u6 (t2)] [fV (eS eI) ([18, 1]) u9, fV (eS eI) ([7, 1]) u7, fV (eS eZ) (t1) u2, fV (eS (eS eI)) ([[2, 1], [3, 1]]) u5, fV (eS eI) ([3, 1]) u4, fV (eS eI) ([2, 1]) u3, fV (eS eI) ([1, 0, 1]) u1] _ _ _ _
  refine TL_weak_st (fun w h => fz_own 1 h rfl) <| TL_weak_st (fun w h => fz_own 0 h rfl) <| TL_step rfl rfl (oe_lit (e := (eS eZ)) (zs := [t3, t4]) Tryz.underlying36 ty31 (by decide) rfl (by decide) (vs := [(0, u8), (1, u10)]) rfl (fun S w h => (by refine fill_eq (eS eZ) ?_; exact ⟨fV_sz (S := S) (w := w) h.2.1, fV_sz (S := S) (w := w) h.1, trivial⟩)) (fun S w h => (elems_cons h.2.1 (elems_one h.1)))) fun u13 _ => ?_
  refine TL_weak_st (fun w h => fz_own 0 h rfl) ?_
  obtain ⟨c1, he5, H⟩ := bd_s H
  refine TL_step rfl rfl (oe_call (by kernel_rfl) (c_ref13_Same fu t2 u6 [t3, t4] u13 c1 he5) rfl (fun S w h => ⟨h.1, h.2.1, trivial⟩)) fun _ _ => TL_mv 2 [(0, .bool (c1))] rfl fun rest => TL_sel [] (fun S w h => trivial) <| TL_nil <| T_ret ?_
  obtain rfl := inj1 H
  exact Ret1 () Tryz.results12 rfl trivial (fun S w h => trivial)
 replace H := if_f h1 H
 refine TL_mv 10 [(0, .bool false)] rfl fun rest => TL_nil <| T_ret ?_
 obtain rfl := inj1 H
 exact Ret1 () Tryz.results12 rfl trivial (fun S w h => trivial)
set_option maxRecDepth 100000 in
set_option maxHeartbeats 1000000 in
theorem c_ref01_Bits (fu : Nat) (a0 : List Nat) (va0 : Value) (r0 : Int) (H : M_ref01_Bits fu a0 = some r0) : Fn Tryz.prog 124 [va0].toArray [fV (eS eU) (a0) va0] (fun _ : Unit => iv (r0)) (fun _ => []) (fun _ => InR r0) := by
 unfold M_ref01_Bits at H
 refine Fn_intro Tryz.func124 rfl rfl fun we Se rest => T_seq <| T_region <| TL_mv 1 [(0, va0)] rfl fun rest => TL_nil <| T_seq ?_
 refine T_region <| TL_mv 1 [(6, va0)] rfl fun rest => ?_
 obtain ⟨t1, he1, H⟩ := bd_s H
 refine TL_og rfl rfl (og_callG (F := []) (by kernel_rfl) (c_ref01_Norm fu a0 va0 t1 he1) rfl (fun S w h => ⟨h.1, trivial⟩)) fun u1 _ => ?_
 show TL _ _ _ _ [mO eU 102 u1 (t1)] [fV (eS eU) (a0) va0] _ _ _ _
 refine TL_mv 1 [(3, u1)] rfl fun rest => TL_nil <| T_seq <| T_seq <| T_region <| TL_mv 1 [(3, u1), (8, u1)] rfl fun rest => ?_
 refine TL_step rfl rfl (oe_lenM 0 rfl Tryz.underlying23 rfl) fun _ hl1 => TL_eql rfl rfl rfl rfl (fun h1 => ?_) (fun h1 => ?_)
 ·replace H := if_t h1 H
  refine TL_mv 0 [(3, u1), (10, .bool true)] rfl fun rest => TL_nil <| T_cond_true rfl <| T_seq <| T_region <| TL_mv 1 [(2, iv 0)] rfl fun rest => ?_
  refine TL_nil <| T_ret ?_
  obtain rfl := inj1 H
  exact Ret1 () Tryz.results124 rfl (show InR (0) by decide) (fun S w h => trivial)
 replace H := if_f h1 H
 refine TL_mv 0 [(3, u1), (10, .bool false)] rfl fun rest => TL_nil <| T_cond_false rfl <| T_skip <| T_seq <| T_region ?_
 refine TL_mv 1 [(3, u1), (11, u1)] rfl fun rest => TL_step rfl rfl (oe_lenM 0 rfl Tryz.underlying23 rfl) fun _ hl2 => ?_
 obtain ⟨x1, hx1, hrx1, H⟩ := ck64_s H
 refine TL_val rfl rfl (r_sub (c := x1) rfl rfl (w_x hx1 hrx1)) ?_
 obtain ⟨x2, hx2, hrx2, H⟩ := ck64_s H
 refine TL_val rfl rfl (r_mul (c := x2) rfl rfl (w_x hx2 hrx2)) <| TL_mv 1 [(3, u1), (4, iv (x2))] rfl fun rest => TL_nil <| T_seq <| T_seq <| T_region ?_
 refine TL_mv 2 [(4, iv (x2)), (15, u1), (16, u1)] rfl fun rest => TL_step rfl rfl (oe_lenM 0 rfl Tryz.underlying23 rfl) fun _ hl3 => ?_
 obtain ⟨x3, hx3, hrx3, H⟩ := ck64_s H
 refine TL_val rfl rfl (r_sub (c := x3) rfl rfl (w_x hx3 hrx3)) ?_
 obtain ⟨j1, hj1, hlj1, H⟩ := ckI_s H
 refine TL_openO 0 rfl (pos_of_lt hlj1) fun b1 cap1 hvb1 hcb1 hmb1 => ?_
 cases hvb1
 refine TL_val rfl rfl (r_index Tryz.underlying23 ty102 rfl (vi hj1) (k := j1) hlj1) ?_
 obtain ⟨y1, hy1, H⟩ := nm_s H
 refine TL_step rfl rfl (oe_loadM_u64 (z' := y1) 0 rfl rfl (Sub.rowT0 eU cap1 (t1) j1 _ (getE (z := 0) (lt_of_len' hlj1 rfl) hy1)) ty102) fun _ hv1 => TL_mv 1 [(4, iv (x2)), (5, uv y1)] rfl fun rest => TL_nil <| T_block ?_
 obtain ⟨s1, hL, Hc⟩ := bd_s H
 refine T_X [(.x 0, JQ we Se (G := Int) (fun i4 => (⟨[], [], [(4, iv (i4))]⟩ : Inv)) (fun i4 => i4 = s1 ∧ InR i4))] ?_ ⟨?_, trivial⟩
 ·refine T_loop_s (G := Nat × Int × Nat) (s1 := _) (f := _) (k := fun (n1, i3, d3) => n1) (σ := fun (n1, i3, d3) => (i3, d3)) (fun (n1, i3, d3) => (⟨[], [], [(4, iv (i3)), (5, uv d3)]⟩ : Inv)) (fun (n1, i3, d3) => InR i3 ∧ InU d3) (fu, x2, y1) hL (And.intro hrx2 hv1) rfl (fun w h => St.weak (St.drop (i := 0) h) (fun S w h => trivial)) ?_
  rintro ⟨n1, i3, d3⟩ ⟨H, hr5, hr6⟩ rest
  rcases n1 with _ | n1
  ·exact (loopN_z H).elim
  replace H := loopN_s H
  unfold B_ref01_Bits_0 at H
  refine T_prune [(4, iv (i3)), (5, uv d3)] rfl fun rest => T_weak [] [] (fun w h => h) <| T_seq <| T_seq <| T_region <| TL_mv 1 [(4, iv (i3)), (5, uv d3), (21, uv d3)] rfl fun rest => ?_
  refine TL_gtr rfl rfl rfl rfl (fun h2 => ?_) (fun h2 => ?_)
  ·replace H := if_t h2 H
   refine TL_mv 0 [(4, iv (i3)), (5, uv d3), (22, .bool true)] rfl fun rest => TL_nil <| T_cond_true rfl <| T_skip <| T_seq <| T_block ?_
   refine T_region <| TL_mv 1 [(5, uv d3), (25, iv (i3))] rfl fun rest => ?_
   obtain ⟨x4, hx4, hrx4, H⟩ := ck64_s H
   refine TL_val rfl rfl (r_add (c := x4) rfl rfl (w_x hx4 hrx4)) <| TL_mv 1 [(4, iv (x4)), (5, uv d3)] rfl fun rest => TL_nil <| T_region <| TL_mv 1 [(4, iv (x4)), (23, uv d3)] rfl fun rest => ?_
   obtain ⟨m1, hm1, H⟩ := nm_s H
   refine TL_val rfl rfl (r_quo (c := ((m1 : Nat) : Int)) rfl rfl (by decide) (wu_x hm1 (n_quo_u64 (a := d3) (b := (2 : Nat)) hr6))) <| TL_mv 1 [(4, iv (x4)), (5, uv m1)] rfl fun rest => TL_nil ?_
   exact St_round_s (n1, x4, m1) H (And.intro hrx4 (udiv_r hr6 hm1)) (Nat.lt_succ_self _) rfl (fun w h => St.weak h (fun S w h => trivial))
  replace H := if_f h2 H
  refine TL_mv 0 [(4, iv (i3)), (5, uv d3), (22, .bool false)] rfl fun rest => TL_nil <| T_cond_false rfl <| T_exit ?_
  exact JQ_mk i3 (And.intro (Option.some.inj H) hr5) rfl (fun w h => St.weak h (fun S w h => trivial))
 refine JQ_el' ?_
 rintro i4 ⟨hs, hr7⟩ rest
 subst hs
 replace H := Hc
 clear hL
 refine JG_to (ms' := []) (Γ' := []) (live' := [(4, iv (i4))]) rfl <| T_seq <| T_region <| TL_mv 2 [(2, iv (i4))] rfl fun rest => TL_nil <| T_ret ?_
 obtain rfl := inj1 H
 exact Ret1 () Tryz.results124 rfl hr7 (fun S w h => trivial)
set_option maxRecDepth 100000 in
set_option maxHeartbeats 1000000 in
theorem c_ref01_cut (fu : Nat) (a0 : List Nat) (va0 : Value) (r0 : List Nat) (H : M_ref01_cut fu a0 = some r0) : Fn Tryz.prog 241 [va0].toArray [fV (eS eU) (a0) va0] (fun u : Value => u) (fun u => [fV (eS eU) (r0) u]) (fun _ => True) := by
 unfold M_ref01_cut at H
 refine Fn_intro Tryz.func241 rfl rfl fun we Se rest => T_seq <| T_region <| TL_mv 1 [(0, va0)] rfl fun rest => TL_nil <| T_seq ?_
 refine T_region <| TL_mv 1 [(0, va0), (4, va0)] rfl fun rest => TL_step rfl rfl (oe_len (e := eU) (xs := a0) Tryz.underlying23 rfl (fun S w h => h.1)) fun _ hl1 => TL_mv 1 [(0, va0), (3, iv ((a0.length : Nat) : Int))] rfl fun rest => TL_nil <| T_seq ?_
 refine T_block ?_
 obtain ⟨s1, hL, Hc⟩ := bd_s H
 refine T_X [(.x 0, JQ we Se (G := Int) (fun i4 => (⟨[], [fV (eS eU) (a0) va0], [(0, va0), (3, iv (i4))]⟩ : Inv)) (fun i4 => i4 = s1 ∧ InR i4))] ?_ ⟨?_, trivial⟩
 ·refine T_loop_s (G := Nat × Int) (s1 := _) (f := _) (k := fun (n1, i3) => n1) (σ := fun (n1, i3) => i3) (fun (n1, i3) => (⟨[], [fV (eS eU) (a0) va0], [(0, va0), (3, iv (i3))]⟩ : Inv)) (fun (n1, i3) => InR i3) (fu, ((a0.length : Nat) : Int)) hL (len_r hl1) rfl (fun w h => St.weak h (fun S w h => ⟨h.1, trivial⟩)) ?_
  rintro ⟨n1, i3⟩ ⟨H, hr3⟩ rest
  rcases n1 with _ | n1
  ·exact (loopN_z H).elim
  replace H := loopN_s H
  unfold B_ref01_cut_0 at H
  refine T_prune [(0, va0), (3, iv (i3))] rfl fun rest => T_weak [] [fV (eS eU) (a0) va0] (fun w h => h) <| T_seq <| T_seq <| T_region <| TL_mv 1 [(0, va0), (3, iv (i3)), (6, iv (i3))] rfl fun rest => ?_
  refine TL_gtr rfl rfl rfl rfl (fun h1 => ?_) (fun h1 => ?_)
  ·replace H := if_t h1 H
   refine TL_mv 3 [(0, va0), (3, iv (i3)), (8, .bool true), (9, va0), (10, iv (i3))] rfl fun rest => ?_
   obtain ⟨x1, hx1, hrx1, H⟩ := ck64_s H
   refine TL_val rfl rfl (r_sub (c := x1) rfl rfl (w_x hx1 hrx1)) ?_
   obtain ⟨j1, hj1, hlj1, H⟩ := ckI_s H
   obtain ⟨y1, hy1, H⟩ := nm_s H
   refine TL_step rfl rfl (oe_index (e := eU) (xs := a0) (k := j1) (y := y1) rfl (vi hj1) Tryz.underlying23 ty102 (getE (z := 0) hlj1 hy1) (fun S w h => h.1)) fun p1 _ => TL_step rfl rfl (oe_load_u64 (y := y1) rfl ty102 (fun S w h => h.1)) fun _ hv1 => TL_eql rfl rfl rfl rfl (fun h2 => ?_) (fun h2 => ?_)
   ·replace H := if_t h2 H
    refine TL_mv 1 [(0, va0), (3, iv (i3)), (9, va0), (10, iv (i3)), (11, iv (x1)), (12, p1), (13, uv y1), (14, .bool true), (15, .bool true)] rfl fun rest => TL_nil <| T_cond_true rfl <| T_skip <| T_block <| T_region ?_
    refine TL_mv 1 [(0, va0), (9, va0), (10, iv (i3)), (11, iv (x1)), (12, p1), (13, uv y1), (14, .bool true), (16, iv (i3))] rfl fun rest => ?_
    obtain ⟨x2, hx2, hrx2, H⟩ := ck64_s H
    refine TL_val rfl rfl (r_sub (c := x2) rfl rfl (w_x hx2 hrx2)) <| TL_mv 1 [(0, va0), (3, iv (x2)), (9, va0), (10, iv (i3)), (11, iv (x1)), (12, p1), (13, uv y1), (14, .bool true)] rfl fun rest => TL_nil ?_
    exact St_round_s (n1, x2) H hrx2 (Nat.lt_succ_self _) rfl (fun w h => St.weak h (fun S w h => ⟨h.2.1, trivial⟩))
   replace H := if_f h2 H
   refine TL_mv 1 [(0, va0), (3, iv (i3)), (9, va0), (10, iv (i3)), (11, iv (x1)), (12, p1), (13, uv y1), (14, .bool false), (15, .bool false)] rfl fun rest => TL_nil <| T_cond_false rfl <| T_exit ?_
   exact JQ_mk i3 (And.intro (Option.some.inj H) hr3) rfl (fun w h => St.weak h (fun S w h => ⟨h.2.1, trivial⟩))
  replace H := if_f h1 H
  refine TL_mv 8 [(0, va0), (3, iv (i3)), (15, .bool false)] rfl fun rest => TL_nil <| T_cond_false rfl <| T_exit ?_
  exact JQ_mk i3 (And.intro (Option.some.inj H) hr3) rfl (fun w h => St.weak h (fun S w h => ⟨h.1, trivial⟩))
 refine JQ_el' ?_
 rintro i4 ⟨hs, hr4⟩ rest
 subst hs
 replace H := Hc
 clear hL
 refine JG_to (ms' := []) (Γ' := [fV (eS eU) (a0) va0]) (live' := [(0, va0), (3, iv (i4))]) rfl <| T_seq <| T_region <| TL_mv 2 [(18, va0), (19, iv (i4))] rfl fun rest => ?_
 obtain ⟨j2, hj2, H⟩ := ckN_s H
 obtain ⟨hk1, H⟩ := ck_s H
 obtain ⟨y2, hy2, H⟩ := nm_s H
 refine TL_step rfl rfl (oe_as (oe_sliceT (e := eU) (xs := a0) (h := j2) rfl Tryz.underlying23 ty102 (vi hj2) hk1 (fun S w h => h.1)) hy2) fun u1 _ => TL_mv 1 [(2, u1)] rfl fun rest => TL_nil <| T_ret ?_
 obtain rfl := inj1 H
 exact Ret1 u1 Tryz.results241 rfl trivial (fun S w h => ⟨h.1, trivial⟩)
set_option maxRecDepth 100000 in
set_option maxHeartbeats 1000000 in
theorem c_ref01_digits (fu : Nat) (a0 : List Nat) (va0 : Value) (r0 : List Nat) (H : M_ref01_digits fu a0 = some r0) : Fn Tryz.prog 191 [va0].toArray [fV (eS eU) (a0) va0] (fun u : Value => u) (fun u => [fV (eS eU) (r0) u]) (fun _ => True) := by
 unfold M_ref01_digits at H
 refine Fn_intro Tryz.func191 rfl rfl fun we Se rest => T_seq <| T_region <| TL_mv 1 [(0, va0)] rfl fun rest => TL_nil <| T_seq ?_
 refine T_region <| TL_mv 1 [(0, va0), (3, .slice none 0 0)] rfl fun rest => TL_nil <| T_seq <| T_seq <| T_region ?_
 refine TL_mv 1 [(0, va0), (3, .slice none 0 0), (4, iv 0)] rfl fun rest => TL_nil <| T_block ?_
 obtain ⟨s1, hL, Hc⟩ := bd_s H
 refine T_X [(.x 0, JQ we Se (G := (List Nat) × Value) (fun (t4, w4) => (⟨[mO eU 102 w4 (t4)], [], [(3, w4)]⟩ : Inv)) (fun (t4, w4) => t4 = s1))] ?_ ⟨?_, trivial⟩
 ·refine T_weak_st (fun w h => St.nilO (e := eU) (E := 102) h) <| T_loop_s (G := Nat × (List Nat) × Int × Value) (s1 := _) (f := _) (k := fun (n1, t3, i3, w3) => n1) (σ := fun (n1, t3, i3, w3) => (t3, i3)) (fun (n1, t3, i3, w3) => (⟨[mO eU 102 w3 (t3)], [fV (eS eU) (a0) va0], [(0, va0), (3, w3), (4, iv (i3))]⟩ : Inv)) (fun (n1, t3, i3, w3) => InR i3) (fu, ([] : List Nat), 0, (.slice none 0 0 : Value)) hL (show InR (0) by decide) rfl (fun w h => St.weak h (fun S w h => ⟨h.1, trivial⟩)) ?_
  rintro ⟨n1, t3, i3, w3⟩ ⟨H, hr3⟩ rest
  rcases n1 with _ | n1
  ·exact (loopN_z H).elim
  replace H := loopN_s H
  unfold B_ref01_digits_0 at H
  refine T_prune [(0, va0), (3, w3), (4, iv (i3))] rfl fun rest => T_weak [mO eU 102 w3 (t3)] [fV (eS eU) (a0) va0] (fun w h => h) <| T_seq <| T_seq <| T_region <| TL_mv 2 [(0, va0), (3, w3), (4, iv (i3)), (5, iv (i3)), (6, va0)] rfl fun rest => ?_
  refine TL_step rfl rfl (oe_len (e := eU) (xs := a0) Tryz.underlying23 rfl (fun S w h => h.1)) fun _ hl1 => TL_lss rfl rfl rfl rfl (fun h1 => ?_) (fun h1 => ?_)
  ·replace H := if_t h1 H
   refine TL_mv 0 [(0, va0), (3, w3), (4, iv (i3)), (8, .bool true)] rfl fun rest => TL_nil <| T_cond_true rfl <| T_skip <| T_seq <| T_block ?_
   obtain ⟨j1, hj1, hlj1, H⟩ := ckI_s H
   obtain ⟨y1, hy1, H⟩ := nm_s H
   obtain ⟨m1, hm1, H⟩ := nm_s H
   obtain ⟨j2, hj2, hlj2, H⟩ := ckI_s H
   obtain ⟨y2, hy2, H⟩ := nm_s H
   obtain ⟨m2, hm2, H⟩ := nm_s H
   refine T_draw 12 [prV (w3), prV (va0), prE (fun _ : Unit => iv (i3)) (fun _ => []) (fun _ => InR i3), prE (fun u : Value => u) (fun u => [fP eU (y1) u]) (fun _ => True), prE (fun _ : Unit => uv y1) (fun _ => []) (fun _ => y1 < 18446744073709551616), prE (fun _ : Unit => uv m1) (fun _ => []) (fun _ => InU m1), prV (va0), prE (fun _ : Unit => iv (i3)) (fun _ => []) (fun _ => InR i3), prE (fun u : Value => u) (fun u => [fP eU (y2) u]) (fun _ => True), prE (fun _ : Unit => uv y2) (fun _ => []) (fun _ => y2 < 18446744073709551616), prE (fun _ : Unit => uv m2) (fun _ => []) (fun _ => InU m2), prE (fun u : Value => u) (fun u => [fV (eS eU) ([m1, m2]) u]) (fun _ => True)] [0, 4, 11, 22] rfl (by kernel_rfl) rfl (by kernel_rfl) ⟨?_, ?_, ?_, ?_, ?_, ?_, ?_, ?_, ?_, ?_, ?_, ?_, trivial⟩ ?_
   ·intro S w env hS hM hΓ hl
    obtain ⟨e3, _⟩ := hl
    exact ⟨fun _ => ob_mv (e3.trans rfl), fun hc => (by cases hc)⟩
   ·intro S w env hS hM hΓ hl
    obtain ⟨e0, _⟩ := hl
    exact ⟨fun _ => ob_mv (e0.trans rfl), fun hc => (by cases hc)⟩
   ·intro S w env hS hM hΓ hl
    obtain ⟨e4, _⟩ := hl
    exact ⟨fun _ => ob_VE (p := InR i3) (r_mv (e4.trans rfl)) hr3, fun hc => (by cases hc)⟩
   ·intro S w env hS hM hΓ hl
    obtain ⟨e12, ⟨_, e13, ho1, f13⟩, _⟩ := hl
    exact ⟨fun _ => ob_E (Γ := [fV (eS eU) (a0) va0]) (oe_index (e := eU) (xs := a0) (k := j1) (y := y1) e12 (e13.trans (vi hj1)) Tryz.underlying23 ty102 (getE (z := 0) hlj1 hy1) (fun S w h => h.1)) hS hM hΓ, fun hc => (by cases hc)⟩
   ·intro S w env hS hM hΓ hl
    obtain ⟨⟨p1, e14, _, f14⟩, _⟩ := hl
    exact ⟨fun _ => ob_E (Γ := [fP eU (y1) p1, fV (eS eU) (a0) va0]) (oe_load_u64 (y := y1) e14 ty102 (fun S w h => h.1)) hS hM ⟨f14.1, hΓ⟩, fun hc => (by cases hc)⟩
   ·intro S w env hS hM hΓ hl
    obtain ⟨⟨_, e15, hv1, f15⟩, _⟩ := hl
    exact ⟨fun _ => ob_VE (p := InU m1) (r_and (c := ((m1 : Nat) : Int)) e15 rfl (wu_x hm1 (n_and_u (a := y1) (b := (4294967295 : Nat)) hv1 (show InU 4294967295 by decide)))) (eq_u hm1 (and_lt_u hv1)), fun hc => (by cases hc)⟩
   ·intro S w env hS hM hΓ hl
    obtain ⟨e0, _⟩ := hl
    exact ⟨fun _ => ob_mv (e0.trans rfl), fun hc => (by cases hc)⟩
   ·intro S w env hS hM hΓ hl
    obtain ⟨e4, _⟩ := hl
    exact ⟨fun _ => ob_VE (p := InR i3) (r_mv (e4.trans rfl)) hr3, fun hc => (by cases hc)⟩
   ·intro S w env hS hM hΓ hl
    obtain ⟨e17, ⟨_, e18, ho3, f18⟩, _⟩ := hl
    exact ⟨fun _ => ob_E (Γ := [fV (eS eU) (a0) va0]) (oe_index (e := eU) (xs := a0) (k := j2) (y := y2) e17 (e18.trans (vi hj2)) Tryz.underlying23 ty102 (getE (z := 0) hlj2 hy2) (fun S w h => h.1)) hS hM hΓ, fun hc => (by cases hc)⟩
   ·intro S w env hS hM hΓ hl
    obtain ⟨⟨p2, e19, _, f19⟩, _⟩ := hl
    exact ⟨fun _ => ob_E (Γ := [fP eU (y2) p2, fV (eS eU) (a0) va0]) (oe_load_u64 (y := y2) e19 ty102 (fun S w h => h.1)) hS hM ⟨f19.1, hΓ⟩, fun hc => (by cases hc)⟩
   ·intro S w env hS hM hΓ hl
    obtain ⟨⟨_, e20, hv2, f20⟩, _⟩ := hl
    exact ⟨fun _ => ob_VE (p := InU m2) (r_shr (c := ((m2 : Nat) : Int)) e20 rfl (by decide) (wu_y hm2 (n_shr_u (a := y2)))) (udiv_r hv2 hm2), fun hc => (by cases hc)⟩
   ·intro S w env hS hM hΓ hl
    obtain ⟨⟨_, e16, ho2, f16⟩, ⟨_, e21, ho4, f21⟩, _⟩ := hl
    exact ⟨fun _ => ob_E (Γ := [fV (eS eU) (a0) va0]) (oe_lit (e := eU) (zs := [m1, m2]) Tryz.underlying23 ty102 (by decide) rfl (by decide) (vs := [(0, uv m1), (1, uv m2)]) (lb_cons e16 (lb_cons e21 lb_nil)) (fun S w h => (by refine fill_eq eU ?_; exact ⟨fV_sz (S := S) (w := w) (u64_fV ho2), fV_sz (S := S) (w := w) (u64_fV ho4), trivial⟩)) (fun S w h => (elems_cons (u64_fV ho2) (elems_one (u64_fV ho4))))) hS hM hΓ, fun hc => (by cases hc)⟩
   intro S w env hS hΓ hl
   obtain ⟨e0, e4, e11, ⟨u1, e22, _, f22⟩, _⟩ := hl
   refine ⟨[fV (eS eU) ([m1, m2]) u1, fV (eS eU) (a0) va0], [(0, va0), (4, iv (i3)), (11, w3), (22, u1)], ⟨f22.1, hΓ⟩, (agr ⟨(e0.trans rfl), (e4.trans rfl), e11, e22, trivial⟩), fun rest => ?_⟩
   obtain ⟨hk1, H⟩ := ck_s H
   obtain ⟨t5, ht5, H⟩ := nm_s H
   refine TL_og rfl rfl (og_append' (e := eU) (xs := t3) (ys := [m1, m2]) 0 Tryz.underlying23 ty102 rfl (by decide) (by decide) rfl rfl rfl (fun S w h => h.1) hk1 ht5) fun w5 _ => ?_
   show TL _ _ _ _ [mO eU 102 w5 (t5)] [fV (eS eU) ([m1, m2]) u1, fV (eS eU) (a0) va0] _ _ _ _
   refine TL_mv 1 [(0, va0), (3, w5), (4, iv (i3))] rfl fun rest => TL_nil <| T_region <| TL_mv 1 [(0, va0), (3, w5), (9, iv (i3))] rfl fun rest => ?_
   obtain ⟨x1, hx1, hrx1, H⟩ := ck64_s H
   refine TL_val rfl rfl (r_add (c := x1) rfl rfl (w_x hx1 hrx1)) <| TL_mv 1 [(0, va0), (3, w5), (4, iv (x1))] rfl fun rest => TL_nil ?_
   exact St_round_s (n1, t5, x1, w5) H hrx1 (Nat.lt_succ_self _) rfl (fun w h => St.weak h (fun S w h => ⟨h.2.1, trivial⟩))
  replace H := if_f h1 H
  refine TL_mv 0 [(0, va0), (3, w3), (4, iv (i3)), (8, .bool false)] rfl fun rest => TL_nil <| T_cond_false rfl <| T_exit ?_
  exact JQ_mk (t3, w3) (Option.some.inj H) rfl (fun w h => St.weak h (fun S w h => trivial))
 refine JQ_el' ?_
 rintro ⟨t4, w4⟩ hs rest
 subst hs
 replace H := Hc
 clear hL
 refine JG_to (ms' := [mO eU 102 w4 (t4)]) (Γ' := []) (live' := [(3, w4)]) rfl <| T_seq <| T_region <| TL_mv 1 [(24, w4)] rfl fun rest => TL_weak_st (fun w h => fz_own 0 h rfl) ?_
 obtain ⟨t6, he1, H⟩ := bd_s H
 refine TL_step rfl rfl (oe_call (by kernel_rfl) (c_ref01_cut fu t4 w4 t6 he1) rfl (fun S w h => ⟨h.1, trivial⟩)) fun u2 _ => TL_mv 1 [(2, u2)] rfl fun rest => TL_nil <| T_ret ?_
 obtain rfl := inj1 H
 exact Ret1 u2 Tryz.results191 rfl trivial (fun S w h => ⟨h.1, trivial⟩)
set_option maxRecDepth 100000 in
set_option maxHeartbeats 1000000 in
theorem c_ref01_limbs (fu : Nat) (a0 : List Nat) (va0 : Value) (r0 : List Nat) (H : M_ref01_limbs fu a0 = some r0) : FnG Tryz.prog 192 [va0].toArray [] [fV (eS eU) (a0) va0] (fun u : Value => u) (fun u => [mO eU 102 u (r0)]) (fun u => []) (fun _ => True) := by
 unfold M_ref01_limbs at H
 refine FnG_intro Tryz.func192 rfl rfl fun we Se F G rest => T_seq <| T_region <| TL_mv 1 [(0, va0)] rfl fun rest => TL_nil <| T_seq ?_
 refine T_region <| TL_mv 1 [(0, va0), (3, .slice none 0 0)] rfl fun rest => TL_nil <| T_seq <| T_seq <| T_region ?_
 refine TL_mv 1 [(0, va0), (3, .slice none 0 0), (4, iv 0)] rfl fun rest => TL_nil <| T_block ?_
 obtain ⟨s1, hL, Hc⟩ := bd_s H
 refine T_X [(.x 0, JQ we Se (G := (List Nat) × Value) (fun (t4, w4) => (⟨(mO eU 102 w4 (t4) :: F), (G), [(3, w4)]⟩ : Inv)) (fun (t4, w4) => t4 = s1))] ?_ ⟨?_, trivial⟩
 ·refine T_weak_st (fun w h => St.nilO (e := eU) (E := 102) h) <| T_loop_s (G := Nat × (List Nat) × Int × Value) (s1 := _) (f := _) (k := fun (n1, t3, i3, w3) => n1) (σ := fun (n1, t3, i3, w3) => (t3, i3)) (fun (n1, t3, i3, w3) => (⟨(mO eU 102 w3 (t3) :: F), (fV (eS eU) (a0) va0 :: G), [(0, va0), (3, w3), (4, iv (i3))]⟩ : Inv)) (fun (n1, t3, i3, w3) => InR i3) (fu, ([] : List Nat), 0, (.slice none 0 0 : Value)) hL (show InR (0) by decide) rfl (fun w h => St.weak h (fun S w h => ⟨h.1, h.2⟩)) ?_
  rintro ⟨n1, t3, i3, w3⟩ ⟨H, hr3⟩ rest
  rcases n1 with _ | n1
  ·exact (loopN_z H).elim
  replace H := loopN_s H
  unfold B_ref01_limbs_0 at H
  refine T_prune [(0, va0), (3, w3), (4, iv (i3))] rfl fun rest => T_weak (mO eU 102 w3 (t3) :: F) (fV (eS eU) (a0) va0 :: G) (fun w h => h) <| T_seq <| T_seq <| T_region <| TL_mv 2 [(0, va0), (3, w3), (4, iv (i3)), (6, iv (i3)), (7, va0)] rfl fun rest => ?_
  refine TL_step rfl rfl (oe_len (e := eU) (xs := a0) Tryz.underlying23 rfl (fun S w h => h.1)) fun _ hl1 => TL_lss rfl rfl rfl rfl (fun h1 => ?_) (fun h1 => ?_)
  ·replace H := if_t h1 H
   refine TL_mv 0 [(0, va0), (3, w3), (4, iv (i3)), (9, .bool true)] rfl fun rest => TL_nil <| T_cond_true rfl <| T_skip <| T_seq <| T_block ?_
   refine T_seq <| T_region <| TL_mv 2 [(0, va0), (3, w3), (4, iv (i3)), (12, va0), (13, iv (i3))] rfl fun rest => ?_
   obtain ⟨j1, hj1, hlj1, H⟩ := ckI_s H
   obtain ⟨y1, hy1, H⟩ := nm_s H
   refine TL_step rfl rfl (oe_index (e := eU) (xs := a0) (k := j1) (y := y1) rfl (vi hj1) Tryz.underlying23 ty102 (getE (z := 0) hlj1 hy1) (fun S w h => h.1)) fun p1 _ => TL_step rfl rfl (oe_load_u64 (y := y1) rfl ty102 (fun S w h => h.1)) fun _ hv1 => TL_mv 1 [(0, va0), (3, w3), (4, iv (i3)), (5, uv y1)] rfl fun rest => TL_nil <| T_seq <| T_seq ?_
   refine T_region <| TL_mv 1 [(0, va0), (3, w3), (4, iv (i3)), (5, uv y1), (16, iv (i3))] rfl fun rest => ?_
   obtain ⟨x1, hx1, hrx1, H⟩ := ck64_s H
   refine TL_val rfl rfl (r_add (c := x1) rfl rfl (w_x hx1 hrx1)) <| TL_mv 1 [(0, va0), (3, w3), (4, iv (i3)), (5, uv y1), (17, iv (x1)), (18, va0)] rfl fun rest => TL_step rfl rfl (oe_len (e := eU) (xs := a0) Tryz.underlying23 rfl (fun S w h => h.2.1)) fun _ hl2 => TL_lss rfl rfl rfl rfl (fun h2 => ?_) (fun h2 => ?_)
   ·replace H := if_t h2 H
    refine TL_mv 0 [(0, va0), (3, w3), (4, iv (i3)), (5, uv y1), (20, .bool true)] rfl fun rest => TL_nil <| T_cond_true rfl <| T_region <| TL_mv 3 [(0, va0), (3, w3), (4, iv (i3)), (21, uv y1), (22, va0), (23, iv (i3))] rfl fun rest => ?_
    obtain ⟨x2, hx2, hrx2, H⟩ := ck64_s H
    refine TL_val rfl rfl (r_add (c := x2) rfl rfl (w_x hx2 hrx2)) ?_
    obtain ⟨j2, hj2, hlj2, H⟩ := ckI_s H
    obtain ⟨y2, hy2, H⟩ := nm_s H
    refine TL_step rfl rfl (oe_index (e := eU) (xs := a0) (k := j2) (y := y2) rfl (vi hj2) Tryz.underlying23 ty102 (getE (z := 0) hlj2 hy2) (fun S w h => h.2.1)) fun p2 _ => TL_step rfl rfl (oe_load_u64 (y := y2) rfl ty102 (fun S w h => h.1)) fun _ hv2 => ?_
    obtain ⟨m1, hm1, H⟩ := nm_s H
    refine TL_val rfl rfl (r_shl (c := ((m1 : Nat) : Int)) rfl rfl (by decide) (wu_x hm1 (n_shl_u (a := y2)))) ?_
    obtain ⟨m2, hm2, H⟩ := nm_s H
    refine TL_val rfl rfl (r_add (c := ((m2 : Nat) : Int)) rfl rfl (wu_x hm2 wu_addw)) <| TL_mv 1 [(0, va0), (3, w3), (4, iv (i3)), (5, uv m2)] rfl fun rest => TL_nil <| T_region <| TL_mv 2 [(0, va0), (4, iv (i3)), (29, w3), (30, uv m2)] rfl fun rest => TL_step rfl rfl (oe_lit (e := eU) (zs := [m2]) Tryz.underlying23 ty102 (by decide) rfl (by decide) (vs := [(0, uv m2)]) rfl (fun S w h => (by refine fill_eq eU ?_; exact ⟨fV_sz (S := S) (w := w) (u64_fV (eq_mod_r hm2)), trivial⟩)) (fun S w h => (elems_one (u64_fV (eq_mod_r hm2))))) fun u1 _ => ?_
    obtain ⟨hk1, H⟩ := ck_s H
    obtain ⟨t5, ht5, H⟩ := nm_s H
    refine TL_og rfl rfl (og_append' (e := eU) (xs := t3) (ys := [m2]) 0 Tryz.underlying23 ty102 rfl (by decide) (by decide) rfl rfl rfl (fun S w h => h.1) hk1 ht5) fun w5 _ => ?_
    show TL _ _ _ _ (mO eU 102 w5 (t5) :: F) (fV (eS eU) ([m2]) u1 :: fP eU (y2) p2 :: fP eU (y1) p1 :: fV (eS eU) (a0) va0 :: G) _ _ _ _
    refine TL_mv 1 [(0, va0), (3, w5), (4, iv (i3))] rfl fun rest => TL_nil <| T_region <| TL_mv 1 [(0, va0), (3, w5), (10, iv (i3))] rfl fun rest => ?_
    obtain ⟨x3, hx3, hrx3, H⟩ := ck64_s H
    refine TL_val rfl rfl (r_add (c := x3) rfl rfl (w_x hx3 hrx3)) <| TL_mv 1 [(0, va0), (3, w5), (4, iv (x3))] rfl fun rest => TL_nil ?_
    exact St_round_s (n1, t5, x3, w5) H hrx3 (Nat.lt_succ_self _) rfl (fun w h => St.weak h (fun S w h => ⟨h.2.2.2.1, h.2.2.2.2⟩))
   replace H := if_f h2 H
   refine TL_mv 0 [(0, va0), (3, w3), (4, iv (i3)), (5, uv y1), (20, .bool false)] rfl fun rest => TL_nil <| T_cond_false rfl <| T_skip <| T_region <| TL_mv 2 [(0, va0), (4, iv (i3)), (29, w3), (30, uv y1)] rfl fun rest => ?_
   refine TL_step rfl rfl (oe_lit (e := eU) (zs := [y1]) Tryz.underlying23 ty102 (by decide) rfl (by decide) (vs := [(0, uv y1)]) rfl (fun S w h => (by refine fill_eq eU ?_; exact ⟨fV_sz (S := S) (w := w) (u64_fV hv1), trivial⟩)) (fun S w h => (elems_one (u64_fV hv1)))) fun u2 _ => ?_
   obtain ⟨hk2, H⟩ := ck_s H
   obtain ⟨t6, ht6, H⟩ := nm_s H
   refine TL_og rfl rfl (og_append' (e := eU) (xs := t3) (ys := [y1]) 0 Tryz.underlying23 ty102 rfl (by decide) (by decide) rfl rfl rfl (fun S w h => h.1) hk2 ht6) fun w6 _ => ?_
   show TL _ _ _ _ (mO eU 102 w6 (t6) :: F) (fV (eS eU) ([y1]) u2 :: fP eU (y1) p1 :: fV (eS eU) (a0) va0 :: G) _ _ _ _
   refine TL_mv 1 [(0, va0), (3, w6), (4, iv (i3))] rfl fun rest => TL_nil <| T_region <| TL_mv 1 [(0, va0), (3, w6), (10, iv (i3))] rfl fun rest => ?_
   obtain ⟨x4, hx4, hrx4, H⟩ := ck64_s H
   refine TL_val rfl rfl (r_add (c := x4) rfl rfl (w_x hx4 hrx4)) <| TL_mv 1 [(0, va0), (3, w6), (4, iv (x4))] rfl fun rest => TL_nil ?_
   exact St_round_s (n1, t6, x4, w6) H hrx4 (Nat.lt_succ_self _) rfl (fun w h => St.weak h (fun S w h => ⟨h.2.2.1, h.2.2.2⟩))
  replace H := if_f h1 H
  refine TL_mv 0 [(0, va0), (3, w3), (4, iv (i3)), (9, .bool false)] rfl fun rest => TL_nil <| T_cond_false rfl <| T_exit ?_
  exact JQ_mk (t3, w3) (Option.some.inj H) rfl (fun w h => St.weak h (fun S w h => h.2))
 refine JQ_el' ?_
 rintro ⟨t4, w4⟩ hs rest
 subst hs
 replace H := Hc
 clear hL
 refine JG_to (ms' := (mO eU 102 w4 (t4) :: F)) (Γ' := (G)) (live' := [(3, w4)]) rfl <| T_seq <| T_region <| TL_mv 1 [(33, w4)] rfl fun rest => TL_weak_st (fun w h => fz_own 0 h rfl) ?_
 obtain ⟨t7, he1, H⟩ := bd_s H
 refine TL_og rfl rfl (og_callG (F := (F)) (by kernel_rfl) (c_ref01_Norm fu t4 w4 t7 he1) rfl (fun S w h => ⟨h.1, trivial⟩)) fun u3 _ => ?_
 show TL _ _ _ _ (mO eU 102 u3 (t7) :: F) (fV (eS eU) (t4) w4 :: G) _ _ _ _
 refine TL_mv 1 [(2, u3)] rfl fun rest => TL_nil <| T_ret ?_
 obtain rfl := inj1 H
 intro w hw
 exact RetG (vs := [u3]) u3 Tryz.results192 (by exact ⟨rfl, trivial⟩) rfl trivial (St.weak hw (fun S w h => h.2))
set_option maxRecDepth 100000 in
set_option maxHeartbeats 1000000 in
theorem c_ref01_Mul (fu : Nat) (a0 : List Nat) (va0 : Value) (a1 : List Nat) (va1 : Value) (r0 : List Nat) (H : M_ref01_Mul fu a0 a1 = some r0) : FnG Tryz.prog 136 [va0, va1].toArray [] [fV (eS eU) (a0) va0, fV (eS eU) (a1) va1] (fun u : Value => u) (fun u => [mO eU 102 u (r0)]) (fun u => []) (fun _ => True) := by
 unfold M_ref01_Mul at H
 refine FnG_intro Tryz.func136 rfl rfl fun we Se F G rest => T_seq <| T_region <| TL_mv 1 [(0, va0), (1, va1)] rfl fun rest => TL_nil <| T_seq ?_
 refine T_region <| TL_mv 1 [(1, va1), (12, va0)] rfl fun rest => ?_
 obtain ⟨t1, he1, H⟩ := bd_s H
 refine TL_step rfl rfl (oe_call (by kernel_rfl) (c_ref01_digits fu a0 va0 t1 he1) rfl (fun S w h => ⟨h.1, trivial⟩)) fun u1 _ => TL_mv 1 [(1, va1), (5, u1)] rfl fun rest => TL_nil <| T_seq <| T_region <| TL_mv 1 [(5, u1), (14, va1)] rfl fun rest => ?_
 obtain ⟨t2, he2, H⟩ := bd_s H
 refine TL_step rfl rfl (oe_call (by kernel_rfl) (c_ref01_digits fu a1 va1 t2 he2) rfl (fun S w h => ⟨h.2.2.1, trivial⟩)) fun u2 _ => TL_mv 1 [(5, u1), (6, u2)] rfl fun rest => TL_nil <| T_seq <| T_region <| TL_mv 1 [(5, u1), (6, u2), (16, u1)] rfl fun rest => ?_
 refine TL_step rfl rfl (oe_len (e := eU) (xs := t1) Tryz.underlying23 rfl (fun S w h => h.2.1)) fun _ hl1 => TL_mv 1 [(5, u1), (6, u2), (17, iv ((t1.length : Nat) : Int)), (18, u2)] rfl fun rest => TL_step rfl rfl (oe_len (e := eU) (xs := t2) Tryz.underlying23 rfl (fun S w h => h.1)) fun _ hl2 => ?_
 obtain ⟨x1, hx1, hrx1, H⟩ := ck64_s H
 refine TL_val rfl rfl (r_add (c := x1) rfl rfl (w_x hx1 hrx1)) ?_
 obtain ⟨j1, hj1, H⟩ := ckN_s H
 obtain ⟨hk1, H⟩ := ck_s H
 obtain ⟨t3, ht3, H⟩ := nm_s H
 refine TL_og rfl rfl (og_make' (e := eU) (z := 0) (xs := t3) (n := j1) Tryz.underlying23 ty102 (vi hj1) (vi hj1) (by decide) hk1 (fun S w => z102 S w) ht3) fun b1 _ => ?_
 show TL _ _ _ _ (mB (rowT eU j1) 102 b1 (t3) :: F) (fV (eS eU) (t2) u2 :: fV (eS eU) (t1) u1 :: fV (eS eU) (a0) va0 :: fV (eS eU) (a1) va1 :: G) _ _ _ _
 refine TL_mv 1 [(5, u1), (6, u2), (7, .slice (some ⟨b1, 0, none⟩) j1 j1)] rfl fun rest => TL_nil <| T_seq <| T_seq <| T_region <| TL_mv 1 [(5, u1), (6, u2), (7, .slice (some ⟨b1, 0, none⟩) j1 j1), (8, iv 0)] rfl fun rest => ?_
 refine TL_nil <| T_block ?_
 obtain ⟨s1, hL, Hc⟩ := bd_s H
 refine T_X [(.x 0, JQ we Se (G := List Nat) (fun t7 => (⟨(mB (rowT eU j1) 102 b1 (t7) :: F), (G), [(7, .slice (some ⟨b1, 0, none⟩) j1 j1)]⟩ : Inv)) (fun t7 => t7 = s1 ∧ t7.length = j1))] ?_ ⟨?_, trivial⟩
 ·refine T_loop_s (G := Nat × Int × (List Nat)) (s1 := _) (f := _) (k := fun (n1, i3, t6) => n1) (σ := fun (n1, i3, t6) => (i3, t6)) (fun (n1, i3, t6) => (⟨(mB (rowT eU j1) 102 b1 (t6) :: F), (fV (eS eU) (t2) u2 :: fV (eS eU) (t1) u1 :: G), [(5, u1), (6, u2), (7, .slice (some ⟨b1, 0, none⟩) j1 j1), (8, iv (i3))]⟩ : Inv)) (fun (n1, i3, t6) => InR i3 ∧ t6.length = j1) (fu, 0, t3) hL (And.intro (show InR (0) by decide) (rep_len ht3)) rfl (fun w h => St.weak h (fun S w h => ⟨h.1, h.2.1, h.2.2.2.2⟩)) ?_
  rintro ⟨n1, i3, t6⟩ ⟨H, hr3, hz3⟩ rest
  rcases n1 with _ | n1
  ·exact (loopN_z H).elim
  replace H := loopN_s H
  unfold B_ref01_Mul_0 at H
  refine T_prune [(5, u1), (6, u2), (7, .slice (some ⟨b1, 0, none⟩) j1 j1), (8, iv (i3))] rfl fun rest => T_weak (mB (rowT eU j1) 102 b1 (t6) :: F) (fV (eS eU) (t2) u2 :: fV (eS eU) (t1) u1 :: G) (fun w h => h) <| T_seq <| T_seq <| T_region <| TL_mv 2 [(5, u1), (6, u2), (7, .slice (some ⟨b1, 0, none⟩) j1 j1), (8, iv (i3)), (22, iv (i3)), (23, u1)] rfl fun rest => ?_
  refine TL_step rfl rfl (oe_len (e := eU) (xs := t1) Tryz.underlying23 rfl (fun S w h => h.2.1)) fun _ hl3 => TL_lss rfl rfl rfl rfl (fun h1 => ?_) (fun h1 => ?_)
  ·replace H := if_t h1 H
   refine TL_mv 0 [(5, u1), (6, u2), (7, .slice (some ⟨b1, 0, none⟩) j1 j1), (8, iv (i3)), (25, .bool true)] rfl fun rest => TL_nil <| T_cond_true rfl <| T_skip <| T_seq <| T_block ?_
   refine T_seq <| T_region <| TL_mv 1 [(5, u1), (6, u2), (7, .slice (some ⟨b1, 0, none⟩) j1 j1), (8, iv (i3)), (9, .int .u64 0)] rfl fun rest => TL_nil <| T_seq <| T_seq ?_
   refine T_region <| TL_mv 1 [(5, u1), (6, u2), (7, .slice (some ⟨b1, 0, none⟩) j1 j1), (8, iv (i3)), (9, .int .u64 0), (10, iv 0)] rfl fun rest => TL_nil <| T_block ?_
   obtain ⟨s2, hL, Hc⟩ := bd_s H
   refine T_X [(.x 2, JQ we Se (G := Nat × (List Nat)) (fun (d4, t11) => (⟨(mB (rowT eU j1) 102 b1 (t11) :: F), (fV (eS eU) (t2) u2 :: fV (eS eU) (t1) u1 :: G), [(5, u1), (6, u2), (7, .slice (some ⟨b1, 0, none⟩) j1 j1), (8, iv (i3)), (9, uv d4)]⟩ : Inv)) (fun (d4, t11) => (d4, t11) = s2 ∧ InU d4 ∧ t11.length = j1))] ?_ ⟨?_, trivial⟩
   ·refine T_loop_s (G := Nat × Nat × Int × (List Nat)) (s1 := _) (f := _) (k := fun (n2, d3, i6, t10) => n2) (σ := fun (n2, d3, i6, t10) => (d3, i6, t10)) (fun (n2, d3, i6, t10) => (⟨(mB (rowT eU j1) 102 b1 (t10) :: F), (fV (eS eU) (t2) u2 :: fV (eS eU) (t1) u1 :: G), [(5, u1), (6, u2), (7, .slice (some ⟨b1, 0, none⟩) j1 j1), (8, iv (i3)), (9, uv d3), (10, iv (i6))]⟩ : Inv)) (fun (n2, d3, i6, t10) => InU d3 ∧ InR i6 ∧ t10.length = j1) (fu, (0 : Nat), 0, t6) hL (And.intro (show InU 0 by decide) (And.intro (show InR (0) by decide) hz3)) rfl (fun w h => St.weak h (fun S w h => ⟨h.1, h.2.1, h.2.2⟩)) ?_
    rintro ⟨n2, d3, i6, t10⟩ ⟨H, hr8, hr9, hz7⟩ rest
    rcases n2 with _ | n2
    ·exact (loopN_z H).elim
    replace H := loopN_s H
    unfold B_ref01_Mul_1 at H
    refine T_prune [(5, u1), (6, u2), (7, .slice (some ⟨b1, 0, none⟩) j1 j1), (8, iv (i3)), (9, uv d3), (10, iv (i6))] rfl fun rest => T_weak (mB (rowT eU j1) 102 b1 (t10) :: F) (fV (eS eU) (t2) u2 :: fV (eS eU) (t1) u1 :: G) (fun w h => h) <| T_seq <| T_seq <| T_region <| TL_mv 2 [(5, u1), (6, u2), (7, .slice (some ⟨b1, 0, none⟩) j1 j1), (8, iv (i3)), (9, uv d3), (10, iv (i6)), (28, iv (i6)), (29, u2)] rfl fun rest => ?_
    refine TL_step rfl rfl (oe_len (e := eU) (xs := t2) Tryz.underlying23 rfl (fun S w h => h.1)) fun _ hl4 => TL_lss rfl rfl rfl rfl (fun h2 => ?_) (fun h2 => ?_)
    ·replace H := if_t h2 H
     refine TL_mv 0 [(5, u1), (6, u2), (7, .slice (some ⟨b1, 0, none⟩) j1 j1), (8, iv (i3)), (9, uv d3), (10, iv (i6)), (31, .bool true)] rfl fun rest => TL_nil <| T_cond_true rfl <| T_skip <| T_seq <| T_block ?_
     refine T_seq ?_
     obtain ⟨j2, hj2, hlj2, H⟩ := ckI_s H
     obtain ⟨y1, hy1, H⟩ := nm_s H
     obtain ⟨j3, hj3, hlj3, H⟩ := ckI_s H
     obtain ⟨y2, hy2, H⟩ := nm_s H
     obtain ⟨m1, hm1, H⟩ := nm_s H
     obtain ⟨x2, hx2, hrx2, H⟩ := ck64_s H
     obtain ⟨j4, hj4, hlj4, H⟩ := ckI_s H
     obtain ⟨y3, hy3, H⟩ := nm_s H
     obtain ⟨m2, hm2, H⟩ := nm_s H
     refine T_draw 17 [prV (u1), prE (fun _ : Unit => iv (i3)) (fun _ => []) (fun _ => InR i3), prE (fun u : Value => u) (fun u => [fP eU (y1) u]) (fun _ => True), prE (fun _ : Unit => uv y1) (fun _ => []) (fun _ => y1 < 18446744073709551616), prV (u2), prE (fun _ : Unit => iv (i6)) (fun _ => []) (fun _ => InR i6), prE (fun u : Value => u) (fun u => [fP eU (y2) u]) (fun _ => True), prE (fun _ : Unit => uv y2) (fun _ => []) (fun _ => y2 < 18446744073709551616), prE (fun _ : Unit => uv m1) (fun _ => []) (fun _ => InU m1), prV (.slice (some ⟨b1, 0, none⟩) j1 j1), prE (fun _ : Unit => iv (i3)) (fun _ => []) (fun _ => InR i3), prE (fun _ : Unit => iv (i6)) (fun _ => []) (fun _ => InR i6), prE (fun _ : Unit => iv (x2)) (fun _ => []) (fun _ => InR x2), prV (.pointer (some ⟨b1, 0 + j4 * 1, none⟩)), prE (fun _ : Unit => uv y3) (fun _ => []) (fun _ => y3 < 18446744073709551616), prE (fun _ : Unit => uv m2) (fun _ => []) (fun _ => InU m2), prE (fun _ : Unit => uv d3) (fun _ => []) (fun _ => InU d3)] [5, 6, 7, 8, 10, 49, 50] rfl (by kernel_rfl) rfl (by kernel_rfl) ⟨?_, ?_, ?_, ?_, ?_, ?_, ?_, ?_, ?_, ?_, ?_, ?_, ?_, ?_, ?_, ?_, ?_, trivial⟩ ?_
     ·intro S w env hS hM hΓ hl
      obtain ⟨e5, _⟩ := hl
      exact ⟨fun _ => ob_mv (e5.trans rfl), fun hc => (by cases hc)⟩
     ·intro S w env hS hM hΓ hl
      obtain ⟨e8, _⟩ := hl
      exact ⟨fun _ => ob_VE (p := InR i3) (r_mv (e8.trans rfl)) hr3, fun hc => (by cases hc)⟩
     ·intro S w env hS hM hΓ hl
      obtain ⟨e34, ⟨_, e35, ho1, f35⟩, _⟩ := hl
      exact ⟨fun _ => ob_E (Γ := (fV (eS eU) (t2) u2 :: fV (eS eU) (t1) u1 :: G)) (oe_index (e := eU) (xs := t1) (k := j2) (y := y1) e34 (e35.trans (vi hj2)) Tryz.underlying23 ty102 (getE (z := 0) hlj2 hy1) (fun S w h => h.2.1)) hS hM hΓ, fun hc => (by cases hc)⟩
     ·intro S w env hS hM hΓ hl
      obtain ⟨⟨p1, e36, _, f36⟩, _⟩ := hl
      exact ⟨fun _ => ob_E (Γ := (fP eU (y1) p1 :: fV (eS eU) (t2) u2 :: fV (eS eU) (t1) u1 :: G)) (oe_load_u64 (y := y1) e36 ty102 (fun S w h => h.1)) hS hM ⟨f36.1, hΓ⟩, fun hc => (by cases hc)⟩
     ·intro S w env hS hM hΓ hl
      obtain ⟨e6, _⟩ := hl
      exact ⟨fun _ => ob_mv (e6.trans rfl), fun hc => (by cases hc)⟩
     ·intro S w env hS hM hΓ hl
      obtain ⟨e10, _⟩ := hl
      exact ⟨fun _ => ob_VE (p := InR i6) (r_mv (e10.trans rfl)) hr9, fun hc => (by cases hc)⟩
     ·intro S w env hS hM hΓ hl
      obtain ⟨e38, ⟨_, e39, ho2, f39⟩, _⟩ := hl
      exact ⟨fun _ => ob_E (Γ := (fV (eS eU) (t2) u2 :: fV (eS eU) (t1) u1 :: G)) (oe_index (e := eU) (xs := t2) (k := j3) (y := y2) e38 (e39.trans (vi hj3)) Tryz.underlying23 ty102 (getE (z := 0) hlj3 hy2) (fun S w h => h.1)) hS hM hΓ, fun hc => (by cases hc)⟩
     ·intro S w env hS hM hΓ hl
      obtain ⟨⟨p2, e40, _, f40⟩, _⟩ := hl
      exact ⟨fun _ => ob_E (Γ := (fP eU (y2) p2 :: fV (eS eU) (t2) u2 :: fV (eS eU) (t1) u1 :: G)) (oe_load_u64 (y := y2) e40 ty102 (fun S w h => h.1)) hS hM ⟨f40.1, hΓ⟩, fun hc => (by cases hc)⟩
     ·intro S w env hS hM hΓ hl
      obtain ⟨⟨_, e37, hv1, f37⟩, ⟨_, e41, hv2, f41⟩, _⟩ := hl
      exact ⟨fun _ => ob_VE (p := InU m1) (r_mul (c := ((m1 : Nat) : Int)) e37 e41 (wu_x hm1 wu_mulw)) (eq_mod_r hm1), fun hc => (by cases hc)⟩
     ·intro S w env hS hM hΓ hl
      obtain ⟨e7, _⟩ := hl
      exact ⟨fun _ => ob_mv (e7.trans rfl), fun hc => (by cases hc)⟩
     ·intro S w env hS hM hΓ hl
      obtain ⟨e8, _⟩ := hl
      exact ⟨fun _ => ob_VE (p := InR i3) (r_mv (e8.trans rfl)) hr3, fun hc => (by cases hc)⟩
     ·intro S w env hS hM hΓ hl
      obtain ⟨e10, _⟩ := hl
      exact ⟨fun _ => ob_VE (p := InR i6) (r_mv (e10.trans rfl)) hr9, fun hc => (by cases hc)⟩
     ·intro S w env hS hM hΓ hl
      obtain ⟨⟨_, e44, ho4, f44⟩, ⟨_, e45, ho5, f45⟩, _⟩ := hl
      exact ⟨fun _ => ob_VE (p := InR x2) (r_add (c := x2) e44 e45 (w_x hx2 hrx2)) hrx2, fun hc => (by cases hc)⟩
     ·intro S w env hS hM hΓ hl
      obtain ⟨e43, ⟨_, e46, ho6, f46⟩, _⟩ := hl
      exact ⟨fun _ => ob_V (r_index Tryz.underlying23 ty102 e43 (e46.trans (vi hj4)) (k := j4) (lt_of_len hlj4 hz7)), fun hc => (by cases hc)⟩
     ·intro S w env hS hM hΓ hl
      obtain ⟨e47, _⟩ := hl
      exact ⟨fun _ => ob_E (Γ := (fV (eS eU) (t2) u2 :: fV (eS eU) (t1) u1 :: G)) (oe_loadM_u64 (z' := y3) 0 rfl e47 (Sub.rowT0 eU j1 (t10) j4 _ (getE (z := 0) (lt_of_len' (lt_of_len hlj4 hz7) hz7) hy3)) ty102) hS hM hΓ, fun hc => (by cases hc)⟩
     ·intro S w env hS hM hΓ hl
      obtain ⟨⟨_, e42, ho3, f42⟩, ⟨_, e48, hv3, f48⟩, _⟩ := hl
      exact ⟨fun _ => ob_VE (p := InU m2) (r_add (c := ((m2 : Nat) : Int)) e42 e48 (wu_x hm2 wu_addw)) (eq_mod_r hm2), fun hc => (by cases hc)⟩
     ·intro S w env hS hM hΓ hl
      obtain ⟨e9, _⟩ := hl
      exact ⟨fun _ => ob_VE (p := InU d3) (r_mv (e9.trans rfl)) hr8, fun hc => (by cases hc)⟩
     intro S w env hS hΓ hl
     obtain ⟨e5, e6, e7, e8, e10, ⟨_, e49, ho7, f49⟩, ⟨_, e50, ho8, f50⟩, _⟩ := hl
     refine ⟨(fV (eS eU) (t2) u2 :: fV (eS eU) (t1) u1 :: G), [(5, u1), (6, u2), (7, .slice (some ⟨b1, 0, none⟩) j1 j1), (8, iv (i3)), (10, iv (i6)), (49, uv m2), (50, uv d3)], hΓ, (agr ⟨(e5.trans rfl), (e6.trans rfl), (e7.trans rfl), (e8.trans rfl), (e10.trans rfl), e49, e50, trivial⟩), fun rest => ?_⟩
     obtain ⟨m3, hm3, H⟩ := nm_s H
     refine TL_val rfl rfl (r_add (c := ((m3 : Nat) : Int)) rfl rfl (wu_x hm3 wu_addw)) <| TL_mv 1 [(5, u1), (6, u2), (7, .slice (some ⟨b1, 0, none⟩) j1 j1), (8, iv (i3)), (10, iv (i6)), (11, uv m3)] rfl fun rest => TL_nil <| T_seq <| T_region <| TL_mv 3 [(5, u1), (6, u2), (7, .slice (some ⟨b1, 0, none⟩) j1 j1), (8, iv (i3)), (10, iv (i6)), (11, uv m3), (52, .slice (some ⟨b1, 0, none⟩) j1 j1), (53, iv (i3)), (54, iv (i6))] rfl fun rest => ?_
     obtain ⟨x3, hx3, hrx3, H⟩ := ck64_s H
     refine TL_val rfl rfl (r_add (c := x3) rfl rfl (w_x hx3 hrx3)) <| TL_mv 1 [(5, u1), (6, u2), (7, .slice (some ⟨b1, 0, none⟩) j1 j1), (8, iv (i3)), (10, iv (i6)), (11, uv m3), (52, .slice (some ⟨b1, 0, none⟩) j1 j1), (55, iv (x3)), (56, uv m3)] rfl fun rest => ?_
     obtain ⟨m4, hm4, H⟩ := nm_s H
     refine TL_val rfl rfl (r_and (c := ((m4 : Nat) : Int)) rfl rfl (wu_x hm4 (n_and_u (a := m3) (b := (4294967295 : Nat)) (eq_mod_r hm3) (show InU 4294967295 by decide)))) ?_
     obtain ⟨j5, hj5, hlj5, H⟩ := ckI_s H
     refine TL_val rfl rfl (r_index Tryz.underlying23 ty102 rfl (vi hj5) (k := j5) (lt_of_len hlj5 hz7)) ?_
     obtain ⟨t12, ht12, H⟩ := nm_s H
     refine TL_og rfl rfl (og_store' (f := eU) (y' := m4) (z2 := t12) 0 rfl rfl rfl (Sub.rowT0 eU j1 (t10) j5 _ (getD_some 0 (lt_of_len' (lt_of_len hlj5 hz7) hz7))) ty102 (fun S w h => (u64_fV (eq_u hm4 (and_lt_u (eq_mod_r hm3))))) ht12) fun _ _ => ?_
     show TL _ _ _ _ (mB (rowT eU j1) 102 b1 (t12) :: F) (fV (eS eU) (t2) u2 :: fV (eS eU) (t1) u1 :: G) _ _ _ _
     refine TL_mv 0 [(5, u1), (6, u2), (7, .slice (some ⟨b1, 0, none⟩) j1 j1), (8, iv (i3)), (10, iv (i6)), (11, uv m3)] rfl fun rest => TL_nil <| T_region <| TL_mv 1 [(5, u1), (6, u2), (7, .slice (some ⟨b1, 0, none⟩) j1 j1), (8, iv (i3)), (10, iv (i6)), (59, uv m3)] rfl fun rest => ?_
     obtain ⟨m5, hm5, H⟩ := nm_s H
     refine TL_val rfl rfl (r_shr (c := ((m5 : Nat) : Int)) rfl rfl (by decide) (wu_y hm5 (n_shr_u (a := m3)))) <| TL_mv 1 [(5, u1), (6, u2), (7, .slice (some ⟨b1, 0, none⟩) j1 j1), (8, iv (i3)), (9, uv m5), (10, iv (i6))] rfl fun rest => TL_nil <| T_region <| TL_mv 1 [(5, u1), (6, u2), (7, .slice (some ⟨b1, 0, none⟩) j1 j1), (8, iv (i3)), (9, uv m5), (32, iv (i6))] rfl fun rest => ?_
     obtain ⟨x4, hx4, hrx4, H⟩ := ck64_s H
     refine TL_val rfl rfl (r_add (c := x4) rfl rfl (w_x hx4 hrx4)) <| TL_mv 1 [(5, u1), (6, u2), (7, .slice (some ⟨b1, 0, none⟩) j1 j1), (8, iv (i3)), (9, uv m5), (10, iv (x4))] rfl fun rest => TL_nil ?_
     exact St_round_s (n2, m5, x4, t12) H (And.intro (udiv_r (eq_mod_r hm3) hm5) (And.intro hrx4 (set_len ht12 hz7))) (Nat.lt_succ_self _) rfl (fun w h => St.weak h (fun S w h => ⟨h.1, h.2.1, h.2.2⟩))
    replace H := if_f h2 H
    refine TL_mv 0 [(5, u1), (6, u2), (7, .slice (some ⟨b1, 0, none⟩) j1 j1), (8, iv (i3)), (9, uv d3), (10, iv (i6)), (31, .bool false)] rfl fun rest => TL_nil <| T_cond_false rfl <| T_exit ?_
    exact JQ_mk (d3, t10) (And.intro (Option.some.inj H) (And.intro hr8 hz7)) rfl (fun w h => St.weak h (fun S w h => ⟨h.1, h.2.1, h.2.2⟩))
   refine JQ_el' ?_
   rintro ⟨d4, t11⟩ ⟨hs, hr10, hz8⟩ rest
   subst hs
   replace H := Hc
   clear hL
   refine JG_to (ms' := (mB (rowT eU j1) 102 b1 (t11) :: F)) (Γ' := (fV (eS eU) (t2) u2 :: fV (eS eU) (t1) u1 :: G)) (live' := [(5, u1), (6, u2), (7, .slice (some ⟨b1, 0, none⟩) j1 j1), (8, iv (i3)), (9, uv d4)]) rfl <| T_region <| TL_mv 3 [(5, u1), (6, u2), (7, .slice (some ⟨b1, 0, none⟩) j1 j1), (8, iv (i3)), (9, uv d4), (61, .slice (some ⟨b1, 0, none⟩) j1 j1), (62, iv (i3)), (63, u2)] rfl fun rest => TL_step rfl rfl (oe_len (e := eU) (xs := t2) Tryz.underlying23 rfl (fun S w h => h.1)) fun _ hl5 => ?_
   obtain ⟨x5, hx5, hrx5, H⟩ := ck64_s H
   refine TL_val rfl rfl (r_add (c := x5) rfl rfl (w_x hx5 hrx5)) <| TL_mv 1 [(5, u1), (6, u2), (7, .slice (some ⟨b1, 0, none⟩) j1 j1), (8, iv (i3)), (61, .slice (some ⟨b1, 0, none⟩) j1 j1), (65, iv (x5)), (66, uv d4)] rfl fun rest => ?_
   obtain ⟨j6, hj6, hlj6, H⟩ := ckI_s H
   refine TL_val rfl rfl (r_index Tryz.underlying23 ty102 rfl (vi hj6) (k := j6) (lt_of_len hlj6 hz8)) ?_
   obtain ⟨t13, ht13, H⟩ := nm_s H
   refine TL_og rfl rfl (og_store' (f := eU) (y' := d4) (z2 := t13) 0 rfl rfl rfl (Sub.rowT0 eU j1 (t11) j6 _ (getD_some 0 (lt_of_len' (lt_of_len hlj6 hz8) hz8))) ty102 (fun S w h => (u64_fV hr10)) ht13) fun _ _ => ?_
   show TL _ _ _ _ (mB (rowT eU j1) 102 b1 (t13) :: F) (fV (eS eU) (t2) u2 :: fV (eS eU) (t1) u1 :: G) _ _ _ _
   refine TL_mv 0 [(5, u1), (6, u2), (7, .slice (some ⟨b1, 0, none⟩) j1 j1), (8, iv (i3))] rfl fun rest => TL_nil <| T_region <| TL_mv 1 [(5, u1), (6, u2), (7, .slice (some ⟨b1, 0, none⟩) j1 j1), (26, iv (i3))] rfl fun rest => ?_
   obtain ⟨x6, hx6, hrx6, H⟩ := ck64_s H
   refine TL_val rfl rfl (r_add (c := x6) rfl rfl (w_x hx6 hrx6)) <| TL_mv 1 [(5, u1), (6, u2), (7, .slice (some ⟨b1, 0, none⟩) j1 j1), (8, iv (x6))] rfl fun rest => TL_nil ?_
   exact St_round_s (n1, x6, t13) H (And.intro hrx6 (set_len ht13 hz8)) (Nat.lt_succ_self _) rfl (fun w h => St.weak h (fun S w h => ⟨h.1, h.2.1, h.2.2⟩))
  replace H := if_f h1 H
  refine TL_mv 0 [(5, u1), (6, u2), (7, .slice (some ⟨b1, 0, none⟩) j1 j1), (8, iv (i3)), (25, .bool false)] rfl fun rest => TL_nil <| T_cond_false rfl <| T_exit ?_
  exact JQ_mk t6 (And.intro (Option.some.inj H) hz3) rfl (fun w h => St.weak h (fun S w h => h.2.2))
 refine JQ_el' ?_
 rintro t7 ⟨hs, hz4⟩ rest
 subst hs
 replace H := Hc
 clear hL
 refine JG_to (ms' := (mB (rowT eU j1) 102 b1 (t7) :: F)) (Γ' := (G)) (live' := [(7, .slice (some ⟨b1, 0, none⟩) j1 j1)]) rfl <| T_seq <| T_region <| TL_mv 1 [(68, .slice (some ⟨b1, 0, none⟩) j1 j1)] rfl fun rest => TL_weak_st (fun w h => fz_all 0 h rfl hz4 (Nat.le_refl _) (mk_le (B := 8) (by decide) hk1)) ?_
 obtain ⟨t14, he3, H⟩ := bd_s H
 refine TL_og rfl rfl (og_callG (F := (F)) (by kernel_rfl) (c_ref01_limbs fu t7 ((.slice (some ⟨b1, 0, none⟩) j1 j1)) t14 he3) rfl (fun S w h => ⟨h.1, trivial⟩)) fun u3 _ => ?_
 show TL _ _ _ _ (mO eU 102 u3 (t14) :: F) (fV (eS eU) (t7) ((.slice (some ⟨b1, 0, none⟩) j1 j1)) :: G) _ _ _ _
 refine TL_mv 1 [(4, u3)] rfl fun rest => TL_nil <| T_ret ?_
 obtain rfl := inj1 H
 intro w hw
 exact RetG (vs := [u3]) u3 Tryz.results136 (by exact ⟨rfl, trivial⟩) rfl trivial (St.weak hw (fun S w h => h.2))
theorem z_ref01_Mul (fu : Nat) (a0 : List Nat) (va0 : Value) (a1 : List Nat) (va1 : Value) (r0 : List Nat) (H : M_ref01_Mul fu a0 a1 = some r0) : Fn Tryz.prog 136 [va0, va1].toArray [fV (eS eU) (a0) va0, fV (eS eU) (a1) va1] (fun u : Value => u) (fun u => [fV (eS eU) (r0) u]) (fun _ => True) :=
  FnG.frozen (c_ref01_Mul fu a0 va0 a1 va1 r0 H) fun u w we Se h => (fz_own 0 h rfl)
set_option maxRecDepth 100000 in
set_option maxHeartbeats 1000000 in
theorem c_ref02_Mul (fu : Nat) (a0 : Zr) (va0 : Value) (a1 : Zr) (va1 : Value) (r0 : Zr) (H : M_ref02_Mul fu a0 a1 = some r0) : Fn Tryz.prog 76 [va0, va1].toArray [fV eZ (a0) va0, fV eZ (a1) va1] (fun u : Value => u) (fun u => [fV eZ (r0) u]) (fun _ => True) := by
 unfold M_ref02_Mul at H
 refine Fn_intro Tryz.func76 rfl rfl fun we Se rest => T_seq <| T_region <| TL_step rfl rfl (oe_box (e := eZ) (z := a0) rfl (fun S w h => h.1)) fun p1 _ => TL_step rfl rfl (oe_box (e := eZ) (z := a1) rfl (fun S w h => h.2.2.1)) fun p2 _ => TL_og rfl rfl (og_allocM (e := ERep.c eZ) (z := (false, [])) ty25 (fun S w => z25 S w)) fun b1 _ => ?_
 show TL _ _ _ _ [mB (ERep.c eZ) 25 b1 ((false, []))] [fP eZ (a1) p2, fP eZ (a0) p1, fV eZ (a0) va0, fV eZ (a1) va1] _ _ _ _
 refine TL_mv 0 [(2, p1), (3, p2), (4, .pointer (some ⟨b1, 0, none⟩))] rfl fun rest => TL_nil <| T_seq ?_
 obtain ⟨c1, hc1, H⟩ := nm_s H
 obtain ⟨t1, he1, H⟩ := bd_s H
 refine T_draw 10 [prE (fun u : Value => u) (fun u => [fP eBool (a0.1) u]) (fun _ => True), prE (fun _ : Unit => .bool (a0.1)) (fun _ => []) (fun _ => True), prE (fun u : Value => u) (fun u => [fP eBool (a1.1) u]) (fun _ => True), prE (fun _ : Unit => .bool (a1.1)) (fun _ => []) (fun _ => True), prV (.bool (c1)), prE (fun u : Value => u) (fun u => [fP (eS eU) (a0.2) u]) (fun _ => True), prE (fun u : Value => u) (fun u => [fV (eS eU) (a0.2) u]) (fun _ => True), prE (fun u : Value => u) (fun u => [fP (eS eU) (a1.2) u]) (fun _ => True), prE (fun u : Value => u) (fun u => [fV (eS eU) (a1.2) u]) (fun _ => True), prE (fun u : Value => u) (fun u => [fV (eS eU) (t1) u]) (fun _ => True)] [4, 9, 14] rfl (by kernel_rfl) rfl (by kernel_rfl) ⟨?_, ?_, ?_, ?_, ?_, ?_, ?_, ?_, ?_, ?_, trivial⟩ ?_
 ·intro S w env hS hM hΓ hl
  obtain ⟨e2, _⟩ := hl
  exact ⟨fun _ => ob_E (Γ := [fP eZ (a1) p2, fP eZ (a0) p1, fV eZ (a0) va0, fV eZ (a1) va1]) (oe_field (e := eZ) (z := a0) fl25_0 (e2.trans rfl) (Sub.fst eBool (eS eU) (a0)) (fun S w h => h.2.1)) hS hM hΓ, fun hc => (by cases hc)⟩
 ·intro S w env hS hM hΓ hl
  obtain ⟨⟨p3, e5, _, f5⟩, _⟩ := hl
  exact ⟨fun _ => ob_E (Γ := [fP eBool (a0.1) p3, fP eZ (a1) p2, fP eZ (a0) p1, fV eZ (a0) va0, fV eZ (a1) va1]) (oe_load_bool (y := a0.1) e5 ty4 (fun S w h => h.1)) hS hM ⟨f5.1, hΓ⟩, fun hc => (by cases hc)⟩
 ·intro S w env hS hM hΓ hl
  obtain ⟨e3, _⟩ := hl
  exact ⟨fun _ => ob_E (Γ := [fP eZ (a1) p2, fP eZ (a0) p1, fV eZ (a0) va0, fV eZ (a1) va1]) (oe_field (e := eZ) (z := a1) fl25_0 (e3.trans rfl) (Sub.fst eBool (eS eU) (a1)) (fun S w h => h.1)) hS hM hΓ, fun hc => (by cases hc)⟩
 ·intro S w env hS hM hΓ hl
  obtain ⟨⟨p4, e7, _, f7⟩, _⟩ := hl
  exact ⟨fun _ => ob_E (Γ := [fP eBool (a1.1) p4, fP eZ (a1) p2, fP eZ (a0) p1, fV eZ (a0) va0, fV eZ (a1) va1]) (oe_load_bool (y := a1.1) e7 ty4 (fun S w h => h.1)) hS hM ⟨f7.1, hΓ⟩, fun hc => (by cases hc)⟩
 ·intro S w env hS hM hΓ hl
  obtain ⟨⟨_, e6, _, f6⟩, ⟨_, e8, _, f8⟩, _⟩ := hl
  exact ⟨fun _ => ob_V (v_bool (z := c1) (r_bne Tryz.underlying4 e6 e8) hc1), fun hc => (by cases hc)⟩
 ·intro S w env hS hM hΓ hl
  obtain ⟨e2, _⟩ := hl
  exact ⟨fun _ => ob_E (Γ := [fP eZ (a1) p2, fP eZ (a0) p1, fV eZ (a0) va0, fV eZ (a1) va1]) (oe_field (e := eZ) (z := a0) fl25_1 (e2.trans rfl) (Sub.snd eBool (eS eU) (a0)) (fun S w h => h.2.1)) hS hM hΓ, fun hc => (by cases hc)⟩
 ·intro S w env hS hM hΓ hl
  obtain ⟨⟨p5, e10, _, f10⟩, _⟩ := hl
  exact ⟨fun _ => ob_E (Γ := [fP (eS eU) (a0.2) p5, fP eZ (a1) p2, fP eZ (a0) p1, fV eZ (a0) va0, fV eZ (a1) va1]) (oe_load (e := (eS eU)) (y := a0.2) e10 ty23 (fun S w h => h.1)) hS hM ⟨f10.1, hΓ⟩, fun hc => (by cases hc)⟩
 ·intro S w env hS hM hΓ hl
  obtain ⟨e3, _⟩ := hl
  exact ⟨fun _ => ob_E (Γ := [fP eZ (a1) p2, fP eZ (a0) p1, fV eZ (a0) va0, fV eZ (a1) va1]) (oe_field (e := eZ) (z := a1) fl25_1 (e3.trans rfl) (Sub.snd eBool (eS eU) (a1)) (fun S w h => h.1)) hS hM hΓ, fun hc => (by cases hc)⟩
 ·intro S w env hS hM hΓ hl
  obtain ⟨⟨p6, e12, _, f12⟩, _⟩ := hl
  exact ⟨fun _ => ob_E (Γ := [fP (eS eU) (a1.2) p6, fP eZ (a1) p2, fP eZ (a0) p1, fV eZ (a0) va0, fV eZ (a1) va1]) (oe_load (e := (eS eU)) (y := a1.2) e12 ty23 (fun S w h => h.1)) hS hM ⟨f12.1, hΓ⟩, fun hc => (by cases hc)⟩
 ·intro S w env hS hM hΓ hl
  obtain ⟨⟨u1, e11, _, f11⟩, ⟨u2, e13, _, f13⟩, _⟩ := hl
  exact ⟨fun _ => ob_E (Γ := [fV (eS eU) (a0.2) u1, fV (eS eU) (a1.2) u2, fP eZ (a1) p2, fP eZ (a0) p1, fV eZ (a0) va0, fV eZ (a1) va1]) (oe_call (by kernel_rfl) (z_ref01_Mul fu a0.2 u1 a1.2 u2 t1 he1) (la_cons e11 (la_cons e13 la_nil)) (fun S w h => ⟨h.1, h.2.1, trivial⟩)) hS hM ⟨f11.1, f13.1, hΓ⟩, fun hc => (by cases hc)⟩
 intro S w env hS hΓ hl
 obtain ⟨e4, e9, ⟨u3, e14, _, f14⟩, _⟩ := hl
 refine ⟨[fV (eS eU) (t1) u3, fP eZ (a1) p2, fP eZ (a0) p1, fV eZ (a0) va0, fV eZ (a1) va1], [(4, .pointer (some ⟨b1, 0, none⟩)), (9, .bool (c1)), (14, u3)], ⟨f14.1, hΓ⟩, (agr ⟨(e4.trans rfl), e9, e14, trivial⟩), fun rest => ?_⟩
 refine TL_step rfl rfl (oe_build (e := eZ) (z := (c1, t1)) ty25 rfl rfl (vs := [(0, .bool (c1)), (1, u3)]) rfl (.inl (plx pl25 fun S w h => (by refine pl_eq [1, 1] ?_ ?_; exact ⟨fV_sz (S := S) (w := w) bool_fV, fV_sz (S := S) (w := w) h.1, trivial⟩; rfl))) (fun S w h => bp_cons bool_fV (bp_last h.1))) fun u4 _ => ?_
 obtain ⟨t2, he2, H⟩ := bd_s H
 refine TL_step rfl rfl (oe_call (by kernel_rfl) (c_ref02_Norm fu (c1, t1) u4 t2 he2) rfl (fun S w h => ⟨h.1, trivial⟩)) fun u5 _ => TL_og rfl rfl (og_store' (f := eZ) (y' := t2) (z2 := t2) 0 rfl rfl rfl (Sub.self eZ ((false, []))) ty25 (fun S w h => h.1) rfl) fun _ _ => ?_
 show TL _ _ _ _ [mB (ERep.c eZ) 25 b1 (t2)] [fV eZ (t2) u5, fV eZ ((c1, t1)) u4, fV (eS eU) (t1) u3, fP eZ (a1) p2, fP eZ (a0) p1, fV eZ (a0) va0, fV eZ (a1) va1] _ _ _ _
 refine TL_mv 0 [(4, .pointer (some ⟨b1, 0, none⟩))] rfl fun rest => TL_sel [] (fun S w h => trivial) <| TL_nil <| T_ret ?_
 obtain rfl := inj1 H
 intro w hw
 change RetQ _ _ _ _ _ _ _ .ret _ w
 refine Ret_cN (e := eZ) (z := t2) 4 0 hw rfl (by exact rfl) ty25 fun r_1 hw hr_1 => ?_
 exact RetN (vs := [r_1]) r_1 Tryz.results76 (by exact ⟨hr_1, trivial⟩) rfl trivial hw (fun S w h => ⟨h.1, trivial⟩)
end Go.Proofs.YtjnjfinbdfolkaaGreat
end

section
set_option linter.unusedVariables false
set_option linter.unusedSimpArgs false
namespace Go.Proofs.YtjnjfinbdfolkaaGreat
set_option maxRecDepth 100000 in
set_option maxHeartbeats 1000000 in
theorem c_ref02_Pow (fu : Nat) (a0 : Zr) (va0 : Value) (a1 : Int) (qa1 : InR a1) (r0 : Zr) (r1 : Int) (H : M_ref02_Pow fu a0 a1 = some (r0, r1)) : Fn Tryz.prog 60 [va0, iv a1].toArray [fV eZ (a0) va0] (fun u : Value => .tuple #[u, iv (r1)]) (fun u => [fV eZ (r0) u]) (fun _ => InR r1) := by
 unfold M_ref02_Pow at H
 refine Fn_intro Tryz.func60 rfl rfl fun we Se rest => T_seq <| T_region <| TL_step rfl rfl (oe_box (e := eZ) (z := a0) rfl (fun S w h => h.1)) fun p1 _ => TL_og rfl rfl (og_allocM (e := ERep.c eZ) (z := (false, [])) ty25 (fun S w => z25 S w)) fun b1 _ => ?_
 show TL _ _ _ _ [mB (ERep.c eZ) 25 b1 ((false, []))] [fP eZ (a0) p1, fV eZ (a0) va0] _ _ _ _
 refine TL_mv 1 [(1, iv (a1)), (2, p1), (4, .pointer (some ⟨b1, 0, none⟩))] rfl fun rest => TL_nil <| T_seq <| T_seq <| T_region <| TL_mv 1 [(1, iv (a1)), (2, p1), (4, .pointer (some ⟨b1, 0, none⟩)), (8, iv (a1))] rfl fun rest => ?_
 refine TL_lss rfl rfl rfl rfl (fun h1 => ?_) (fun h1 => ?_)
 ·replace H := if_t h1 H
  refine TL_mv 4 [(1, iv (a1)), (2, p1), (4, .pointer (some ⟨b1, 0, none⟩)), (13, .bool true)] rfl fun rest => TL_nil <| T_cond_true rfl <| T_seq <| T_region <| TL_step rfl rfl (oe_zero (e := eZ) (z := (false, [])) ty25 rfl rfl (.inl (plz pl25)) (fun S w => z25 S w)) fun u1 _ => ?_
  refine TL_og rfl rfl (og_store' (f := eZ) (y' := (false, [])) (z2 := (false, [])) 0 rfl rfl rfl (Sub.self eZ ((false, []))) ty25 (fun S w h => h.1) rfl) fun _ _ => ?_
  show TL _ _ _ _ [mB (ERep.c eZ) 25 b1 ((false, []))] [fV eZ ((false, [])) u1, fP eZ (a0) p1, fV eZ (a0) va0] _ _ _ _
  refine TL_mv 1 [(4, .pointer (some ⟨b1, 0, none⟩)), (5, iv 1)] rfl fun rest => TL_nil <| T_ret ?_
  obtain ⟨rfl, rfl⟩ := inj2 H
  intro w hw
  change RetQ _ _ _ _ _ _ _ .ret _ w
  refine Ret_cN (e := eZ) (z := (false, [])) 4 0 hw rfl (by exact rfl) ty25 fun r_1 hw hr_1 => ?_
  exact RetN (vs := [r_1, (iv 1 : Value)]) r_1 Tryz.results60 (by exact ⟨hr_1, rfl, trivial⟩) rfl (show InR (1) by decide) hw (fun S w h => ⟨h.1, trivial⟩)
 replace H := if_f h1 H
 refine TL_mv 2 [(1, iv (a1)), (2, p1), (4, .pointer (some ⟨b1, 0, none⟩)), (10, .bool false), (11, iv (a1))] rfl fun rest => TL_gtr rfl rfl rfl rfl (fun h2 => ?_) (fun h2 => ?_)
 ·replace H := if_t h2 H
  refine TL_mv 1 [(1, iv (a1)), (2, p1), (4, .pointer (some ⟨b1, 0, none⟩)), (13, .bool true)] rfl fun rest => TL_nil <| T_cond_true rfl <| T_seq <| T_region <| TL_step rfl rfl (oe_zero (e := eZ) (z := (false, [])) ty25 rfl rfl (.inl (plz pl25)) (fun S w => z25 S w)) fun u2 _ => ?_
  refine TL_og rfl rfl (og_store' (f := eZ) (y' := (false, [])) (z2 := (false, [])) 0 rfl rfl rfl (Sub.self eZ ((false, []))) ty25 (fun S w h => h.1) rfl) fun _ _ => ?_
  show TL _ _ _ _ [mB (ERep.c eZ) 25 b1 ((false, []))] [fV eZ ((false, [])) u2, fP eZ (a0) p1, fV eZ (a0) va0] _ _ _ _
  refine TL_mv 1 [(4, .pointer (some ⟨b1, 0, none⟩)), (5, iv 1)] rfl fun rest => TL_nil <| T_ret ?_
  obtain ⟨rfl, rfl⟩ := inj2 H
  intro w hw
  change RetQ _ _ _ _ _ _ _ .ret _ w
  refine Ret_cN (e := eZ) (z := (false, [])) 4 0 hw rfl (by exact rfl) ty25 fun r_2 hw hr_2 => ?_
  exact RetN (vs := [r_2, (iv 1 : Value)]) r_2 Tryz.results60 (by exact ⟨hr_2, rfl, trivial⟩) rfl (show InR (1) by decide) hw (fun S w h => ⟨h.1, trivial⟩)
 replace H := if_f h2 H
 refine TL_mv 1 [(1, iv (a1)), (2, p1), (4, .pointer (some ⟨b1, 0, none⟩)), (13, .bool false)] rfl fun rest => TL_nil <| T_cond_false rfl <| T_skip <| T_seq <| T_seq ?_
 refine T_region <| TL_step rfl rfl (oe_field (e := eZ) (z := a0) fl25_1 rfl (Sub.snd eBool (eS eU) (a0)) (fun S w h => h.1)) fun p2 _ => TL_step rfl rfl (oe_load (e := (eS eU)) (y := a0.2) rfl ty23 (fun S w h => h.1)) fun u3 _ => ?_
 obtain ⟨x1, he1, H⟩ := bd_s H
 refine TL_step rfl rfl (oe_call (by kernel_rfl) (c_ref01_Bits fu a0.2 u3 x1 he1) rfl (fun S w h => ⟨h.1, trivial⟩)) fun _ hk1 => TL_mv 1 [(1, iv (a1)), (2, p1), (4, .pointer (some ⟨b1, 0, none⟩)), (17, iv (x1)), (18, iv (a1))] rfl fun rest => ?_
 obtain ⟨x2, hx2, hrx2, H⟩ := ck64_s H
 refine TL_val rfl rfl (r_mul (c := x2) rfl rfl (w_x hx2 hrx2)) <| TL_gtr rfl rfl rfl rfl (fun h3 => ?_) (fun h3 => ?_)
 ·replace H := if_t h3 H
  refine TL_mv 0 [(1, iv (a1)), (2, p1), (4, .pointer (some ⟨b1, 0, none⟩)), (20, .bool true)] rfl fun rest => TL_nil <| T_cond_true rfl <| T_seq <| T_region <| TL_step rfl rfl (oe_zero (e := eZ) (z := (false, [])) ty25 rfl rfl (.inl (plz pl25)) (fun S w => z25 S w)) fun u4 _ => ?_
  refine TL_og rfl rfl (og_store' (f := eZ) (y' := (false, [])) (z2 := (false, [])) 0 rfl rfl rfl (Sub.self eZ ((false, []))) ty25 (fun S w h => h.1) rfl) fun _ _ => ?_
  show TL _ _ _ _ [mB (ERep.c eZ) 25 b1 ((false, []))] [fV eZ ((false, [])) u4, fV (eS eU) (a0.2) u3, fP (eS eU) (a0.2) p2, fP eZ (a0) p1, fV eZ (a0) va0] _ _ _ _
  refine TL_mv 1 [(4, .pointer (some ⟨b1, 0, none⟩)), (5, iv 6)] rfl fun rest => TL_nil <| T_ret ?_
  obtain ⟨rfl, rfl⟩ := inj2 H
  intro w hw
  change RetQ _ _ _ _ _ _ _ .ret _ w
  refine Ret_cN (e := eZ) (z := (false, [])) 4 0 hw rfl (by exact rfl) ty25 fun r_3 hw hr_3 => ?_
  exact RetN (vs := [r_3, (iv 6 : Value)]) r_3 Tryz.results60 (by exact ⟨hr_3, rfl, trivial⟩) rfl (show InR (6) by decide) hw (fun S w h => ⟨h.1, trivial⟩)
 replace H := if_f h3 H
 refine TL_mv 0 [(1, iv (a1)), (2, p1), (4, .pointer (some ⟨b1, 0, none⟩)), (20, .bool false)] rfl fun rest => TL_nil <| T_cond_false rfl <| T_skip <| T_seq <| T_region ?_
 obtain ⟨t1, he2, H⟩ := bd_s H
 refine TL_step rfl rfl (oe_call (by kernel_rfl) (c_ref02_Of fu 1 (show InR (1) by decide) t1 he2) rfl (fun S w h => trivial)) fun u5 _ => TL_og rfl rfl (og_allocM (e := ERep.c eZ) (z := (false, [])) ty25 (fun S w => z25 S w)) fun b2 _ => ?_
 show TL _ _ _ _ [mB (ERep.c eZ) 25 b2 ((false, [])), mB (ERep.c eZ) 25 b1 ((false, []))] [fV eZ (t1) u5, fV (eS eU) (a0.2) u3, fP (eS eU) (a0.2) p2, fP eZ (a0) p1, fV eZ (a0) va0] _ _ _ _
 refine TL_og rfl rfl (og_store' (f := eZ) (y' := t1) (z2 := t1) 0 rfl rfl rfl (Sub.self eZ ((false, []))) ty25 (fun S w h => h.1) rfl) fun _ _ => ?_
 show TL _ _ _ _ [mB (ERep.c eZ) 25 b2 (t1), mB (ERep.c eZ) 25 b1 ((false, []))] [fV eZ (t1) u5, fV (eS eU) (a0.2) u3, fP (eS eU) (a0.2) p2, fP eZ (a0) p1, fV eZ (a0) va0] _ _ _ _
 refine TL_mv 0 [(1, iv (a1)), (2, p1), (4, .pointer (some ⟨b1, 0, none⟩)), (6, .pointer (some ⟨b2, 0, none⟩))] rfl fun rest => TL_nil <| T_seq ?_
 obtain ⟨s1, hL, Hc⟩ := bd_s H
 refine T_X [(.n, JQ we Se (G := Int) (fun i1 => (⟨[mB (ERep.c eZ) 25 b2 (t1), mB (ERep.c eZ) 25 b1 ((false, []))], [fP eZ (a0) p1], [(1, iv (i1)), (2, p1), (4, .pointer (some ⟨b1, 0, none⟩)), (6, .pointer (some ⟨b2, 0, none⟩))]⟩ : Inv)) (fun i1 => i1 = s1 ∧ InR i1))] ?_ ⟨?_, trivial⟩
 ·replace H := hL
  refine T_seq <| T_region <| TL_step rfl rfl (oe_field (e := eZ) (z := a0) fl25_1 rfl (Sub.snd eBool (eS eU) (a0)) (fun S w h => h.2.2.2.1)) fun p3 _ => TL_step rfl rfl (oe_load (e := (eS eU)) (y := a0.2) rfl ty23 (fun S w h => h.1)) fun u6 _ => ?_
  obtain ⟨x3, he3, H⟩ := bd_s H
  refine TL_step rfl rfl (oe_call (by kernel_rfl) (c_ref01_Bits fu a0.2 u6 x3 he3) rfl (fun S w h => ⟨h.1, trivial⟩)) fun _ hk2 => TL_leq rfl rfl rfl rfl (fun h4 => ?_) (fun h4 => ?_)
  ·replace H := if_t h4 H
   refine TL_mv 0 [(1, iv (a1)), (2, p1), (4, .pointer (some ⟨b1, 0, none⟩)), (6, .pointer (some ⟨b2, 0, none⟩)), (26, .bool true)] rfl fun rest => TL_sel [fP eZ (a0) p1] (fun S w h => ⟨h.2.2.2.2.2.1, trivial⟩) <| TL_nil <| T_cond_true rfl <| T_region <| TL_mv 1 [(1, iv (a1)), (2, p1), (4, .pointer (some ⟨b1, 0, none⟩)), (6, .pointer (some ⟨b2, 0, none⟩)), (27, iv (a1))] rfl fun rest => ?_
   obtain ⟨x4, hx4, H⟩ := nm_s H
   refine TL_val rfl rfl (v_i (z := x4) (r_min rfl rfl) hx4) ?_
   obtain ⟨x5, hx5, hrx5, H⟩ := ck64_s H
   refine TL_val rfl rfl (r_mul (c := x5) rfl rfl (w_x hx5 hrx5)) <| TL_mv 1 [(2, p1), (4, .pointer (some ⟨b1, 0, none⟩)), (6, .pointer (some ⟨b2, 0, none⟩)), (29, iv (x5)), (30, iv (a1))] rfl fun rest => ?_
   obtain ⟨x6, hx6, H⟩ := nm_s H
   refine TL_val rfl rfl (r_rem (c := x6) rfl rfl (by decide) hx6.symm) ?_
   obtain ⟨x7, hx7, hrx7, H⟩ := ck64_s H
   refine TL_val rfl rfl (r_sub (c := x7) rfl rfl (w_x hx7 hrx7)) <| TL_mv 1 [(1, iv (x7)), (2, p1), (4, .pointer (some ⟨b1, 0, none⟩)), (6, .pointer (some ⟨b2, 0, none⟩))] rfl fun rest => TL_nil ?_
   exact JQ_mk x7 (And.intro (Option.some.inj H) hrx7) rfl (fun w h => St.weak h (fun S w h => ⟨h.1, trivial⟩))
  replace H := if_f h4 H
  refine TL_mv 0 [(1, iv (a1)), (2, p1), (4, .pointer (some ⟨b1, 0, none⟩)), (6, .pointer (some ⟨b2, 0, none⟩)), (26, .bool false)] rfl fun rest => TL_sel [fP eZ (a0) p1] (fun S w h => ⟨h.2.2.2.2.2.1, trivial⟩) <| TL_nil <| T_cond_false rfl <| T_skip ?_
  exact JQ_mk a1 (And.intro (Option.some.inj H) qa1) rfl (fun w h => St.weak h (fun S w h => ⟨h.1, trivial⟩))
 refine JQ_el' ?_
 rintro i1 ⟨hs, hr1⟩ rest
 subst hs
 replace H := Hc
 clear hL
 refine JG_to (ms' := [mB (ERep.c eZ) 25 b2 (t1), mB (ERep.c eZ) 25 b1 ((false, []))]) (Γ' := [fP eZ (a0) p1]) (live' := [(1, iv (i1)), (2, p1), (4, .pointer (some ⟨b1, 0, none⟩)), (6, .pointer (some ⟨b2, 0, none⟩))]) rfl <| T_seq <| T_seq <| T_region <| TL_mv 1 [(1, iv (i1)), (2, p1), (4, .pointer (some ⟨b1, 0, none⟩)), (6, .pointer (some ⟨b2, 0, none⟩)), (7, iv 0)] rfl fun rest => TL_nil ?_
 refine T_block ?_
 obtain ⟨s2, hL, Hc⟩ := bd_s H
 refine T_X [(.x 0, JQ we Se (G := Zr) (fun t5 => (⟨[mB (ERep.c eZ) 25 b2 (t5), mB (ERep.c eZ) 25 b1 ((false, []))], [], [(4, .pointer (some ⟨b1, 0, none⟩)), (6, .pointer (some ⟨b2, 0, none⟩))]⟩ : Inv)) (fun t5 => t5 = s2))] ?_ ⟨?_, trivial⟩
 ·refine T_loop_s (G := Nat × Int × Zr) (s1 := _) (f := _) (k := fun (n1, i4, t4) => n1) (σ := fun (n1, i4, t4) => (i4, t4)) (fun (n1, i4, t4) => (⟨[mB (ERep.c eZ) 25 b2 (t4), mB (ERep.c eZ) 25 b1 ((false, []))], [fP eZ (a0) p1], [(1, iv (i1)), (2, p1), (4, .pointer (some ⟨b1, 0, none⟩)), (6, .pointer (some ⟨b2, 0, none⟩)), (7, iv (i4))]⟩ : Inv)) (fun (n1, i4, t4) => InR i4) (fu, 0, t1) hL (show InR (0) by decide) rfl (fun w h => St.weak h (fun S w h => ⟨h.1, trivial⟩)) ?_
  rintro ⟨n1, i4, t4⟩ ⟨H, hr4⟩ rest
  rcases n1 with _ | n1
  ·exact (loopN_z H).elim
  replace H := loopN_s H
  unfold B_ref02_Pow_0 at H
  refine T_prune [(1, iv (i1)), (2, p1), (4, .pointer (some ⟨b1, 0, none⟩)), (6, .pointer (some ⟨b2, 0, none⟩)), (7, iv (i4))] rfl fun rest => T_weak [mB (ERep.c eZ) 25 b2 (t4), mB (ERep.c eZ) 25 b1 ((false, []))] [fP eZ (a0) p1] (fun w h => h) <| T_seq <| T_seq <| T_region <| TL_mv 2 [(1, iv (i1)), (2, p1), (4, .pointer (some ⟨b1, 0, none⟩)), (6, .pointer (some ⟨b2, 0, none⟩)), (7, iv (i4)), (33, iv (i4)), (34, iv (i1))] rfl fun rest => ?_
  refine TL_lss rfl rfl rfl rfl (fun h5 => ?_) (fun h5 => ?_)
  ·replace H := if_t h5 H
   refine TL_mv 0 [(1, iv (i1)), (2, p1), (4, .pointer (some ⟨b1, 0, none⟩)), (6, .pointer (some ⟨b2, 0, none⟩)), (7, iv (i4)), (35, .bool true)] rfl fun rest => TL_nil <| T_cond_true rfl <| T_skip <| T_seq <| T_block ?_
   refine T_region <| TL_step rfl rfl (oe_loadM (z' := t4) 0 rfl rfl (Sub.self eZ (t4)) ty25) fun u7 _ => TL_step rfl rfl (oe_load (e := eZ) (y := a0) rfl ty25 (fun S w h => h.2.1)) fun u8 _ => ?_
   obtain ⟨t6, he4, H⟩ := bd_s H
   refine TL_step rfl rfl (oe_call (by kernel_rfl) (c_ref02_Mul fu t4 u7 a0 u8 t6 he4) rfl (fun S w h => ⟨h.2.1, h.1, trivial⟩)) fun u9 _ => TL_og rfl rfl (og_store' (f := eZ) (y' := t6) (z2 := t6) 0 rfl rfl rfl (Sub.self eZ (t4)) ty25 (fun S w h => h.1) rfl) fun _ _ => ?_
   show TL _ _ _ _ [mB (ERep.c eZ) 25 b2 (t6), mB (ERep.c eZ) 25 b1 ((false, []))] [fV eZ (t6) u9, fV eZ (a0) u8, fV eZ (t4) u7, fP eZ (a0) p1] _ _ _ _
   refine TL_mv 0 [(1, iv (i1)), (2, p1), (4, .pointer (some ⟨b1, 0, none⟩)), (6, .pointer (some ⟨b2, 0, none⟩)), (7, iv (i4))] rfl fun rest => TL_nil <| T_region <| TL_mv 1 [(1, iv (i1)), (2, p1), (4, .pointer (some ⟨b1, 0, none⟩)), (6, .pointer (some ⟨b2, 0, none⟩)), (36, iv (i4))] rfl fun rest => ?_
   obtain ⟨x8, hx8, hrx8, H⟩ := ck64_s H
   refine TL_val rfl rfl (r_add (c := x8) rfl rfl (w_x hx8 hrx8)) <| TL_mv 1 [(1, iv (i1)), (2, p1), (4, .pointer (some ⟨b1, 0, none⟩)), (6, .pointer (some ⟨b2, 0, none⟩)), (7, iv (x8))] rfl fun rest => TL_nil ?_
   exact St_round_s (n1, x8, t6) H hrx8 (Nat.lt_succ_self _) rfl (fun w h => St.weak h (fun S w h => ⟨h.2.2.2.1, trivial⟩))
  replace H := if_f h5 H
  refine TL_mv 0 [(1, iv (i1)), (2, p1), (4, .pointer (some ⟨b1, 0, none⟩)), (6, .pointer (some ⟨b2, 0, none⟩)), (7, iv (i4)), (35, .bool false)] rfl fun rest => TL_nil <| T_cond_false rfl <| T_exit ?_
  exact JQ_mk t4 (Option.some.inj H) rfl (fun w h => St.weak h (fun S w h => trivial))
 refine JQ_el' ?_
 rintro t5 hs rest
 subst hs
 replace H := Hc
 clear hL
 refine JG_to (ms' := [mB (ERep.c eZ) 25 b2 (t5), mB (ERep.c eZ) 25 b1 ((false, []))]) (Γ' := []) (live' := [(4, .pointer (some ⟨b1, 0, none⟩)), (6, .pointer (some ⟨b2, 0, none⟩))]) rfl <| T_seq <| T_region <| TL_step rfl rfl (oe_loadM (z' := t5) 0 rfl rfl (Sub.self eZ (t5)) ty25) fun u10 _ => TL_og rfl rfl (og_store' (f := eZ) (y' := t5) (z2 := t5) 1 rfl rfl rfl (Sub.self eZ ((false, []))) ty25 (fun S w h => h.1) rfl) fun _ _ => ?_
 show TL _ _ _ _ [mB (ERep.c eZ) 25 b2 (t5), mB (ERep.c eZ) 25 b1 (t5)] [fV eZ (t5) u10] _ _ _ _
 refine TL_mv 1 [(4, .pointer (some ⟨b1, 0, none⟩)), (5, iv 0)] rfl fun rest => TL_nil <| T_ret ?_
 obtain ⟨rfl, rfl⟩ := inj2 H
 intro w hw
 change RetQ _ _ _ _ _ _ _ .ret _ w
 refine Ret_cN (e := eZ) (z := t5) 4 1 hw rfl (by exact rfl) ty25 fun r_4 hw hr_4 => ?_
 exact RetN (vs := [r_4, (iv 0 : Value)]) r_4 Tryz.results60 (by exact ⟨hr_4, rfl, trivial⟩) rfl (show InR (0) by decide) hw (fun S w h => ⟨h.1, trivial⟩)
set_option maxRecDepth 100000 in
set_option maxHeartbeats 1000000 in
theorem c_ref04_Is (fu : Nat) (a0 : Int) (qa0 : InR a0) (r0 : Bool) (H : M_ref04_Is fu a0 = some r0) : Fn Tryz.prog 59 [iv a0].toArray [] (fun _ : Unit => .bool (r0)) (fun _ => []) (fun _ => True) := by
 unfold M_ref04_Is at H
 refine Fn_intro Tryz.func59 rfl rfl fun we Se rest => T_seq <| T_region <| TL_mv 1 [(0, iv (a0))] rfl fun rest => TL_nil <| T_seq ?_
 refine T_seq <| T_region <| TL_mv 1 [(0, iv (a0)), (4, iv (a0))] rfl fun rest => TL_lss rfl rfl rfl rfl (fun h1 => ?_) (fun h1 => ?_)
 ·replace H := if_t h1 H
  refine TL_mv 4 [(0, iv (a0)), (9, .bool true)] rfl fun rest => TL_nil <| T_cond_true rfl <| T_seq <| T_region <| TL_mv 1 [(2, .bool false)] rfl fun rest => ?_
  refine TL_nil <| T_ret ?_
  obtain rfl := inj1 H
  exact Ret1 () Tryz.results59 rfl trivial (fun S w h => trivial)
 replace H := if_f h1 H
 refine TL_mv 2 [(0, iv (a0)), (6, .bool false), (7, iv (a0))] rfl fun rest => TL_gtr rfl rfl rfl rfl (fun h2 => ?_) (fun h2 => ?_)
 ·replace H := if_t h2 H
  refine TL_mv 1 [(0, iv (a0)), (9, .bool true)] rfl fun rest => TL_nil <| T_cond_true rfl <| T_seq <| T_region <| TL_mv 1 [(2, .bool false)] rfl fun rest => ?_
  refine TL_nil <| T_ret ?_
  obtain rfl := inj1 H
  exact Ret1 () Tryz.results59 rfl trivial (fun S w h => trivial)
 replace H := if_f h2 H
 refine TL_mv 1 [(0, iv (a0)), (9, .bool false)] rfl fun rest => TL_nil <| T_cond_false rfl <| T_skip <| T_seq <| T_seq ?_
 refine T_region <| TL_mv 1 [(0, iv (a0)), (3, iv 2)] rfl fun rest => TL_nil <| T_block ?_
 obtain ⟨s1, hL, Hc⟩ := bd_s H
 refine T_X [(.x 0, JQ we Se (G := Unit) (fun _ => (⟨[], [], []⟩ : Inv)) (fun _ => .inl () = s1)), (.r, JQ we Se (G := Unit) (fun _ => (⟨[], [], [(2, .bool false)]⟩ : Inv)) (fun _ => .inr () = s1))] ?_ ⟨?_, ?_, trivial⟩
 ·refine T_loop_s (G := Nat × Int) (s1 := _) (f := _) (k := fun (n1, i3) => n1) (σ := fun (n1, i3) => i3) (fun (n1, i3) => (⟨[], [], [(0, iv (a0)), (3, iv (i3))]⟩ : Inv)) (fun (n1, i3) => InR i3) (fu, 2) hL (show InR (2) by decide) rfl (fun w h => St.weak h (fun S w h => trivial)) ?_
  rintro ⟨n1, i3⟩ ⟨H, hr3⟩ rest
  rcases n1 with _ | n1
  ·exact (loopN_z H).elim
  replace H := loopN_s H
  unfold B_ref04_Is_0 at H
  refine T_prune [(0, iv (a0)), (3, iv (i3))] rfl fun rest => T_weak [] [] (fun w h => h) <| T_seq <| T_seq <| T_region <| TL_mv 2 [(0, iv (a0)), (3, iv (i3)), (10, iv (i3)), (11, iv (i3))] rfl fun rest => ?_
  obtain ⟨x1, hx1, hrx1, H⟩ := ck64_s H
  refine TL_val rfl rfl (r_mul (c := x1) rfl rfl (w_x hx1 hrx1)) <| TL_mv 1 [(0, iv (a0)), (3, iv (i3)), (12, iv (x1)), (13, iv (a0))] rfl fun rest => TL_leq rfl rfl rfl rfl (fun h3 => ?_) (fun h3 => ?_)
  ·replace H := if_t h3 H
   refine TL_mv 0 [(0, iv (a0)), (3, iv (i3)), (14, .bool true)] rfl fun rest => TL_nil <| T_cond_true rfl <| T_skip <| T_seq <| T_block ?_
   refine T_seq <| T_region <| TL_mv 2 [(0, iv (a0)), (3, iv (i3)), (17, iv (a0)), (18, iv (i3))] rfl fun rest => ?_
   obtain ⟨h01, H⟩ := ck_s H
   obtain ⟨x2, hx2, H⟩ := nm_s H
   refine TL_val rfl rfl (r_rem (c := x2) rfl rfl h01 hx2.symm) <| TL_eql rfl rfl rfl rfl (fun h4 => ?_) (fun h4 => ?_)
   ·replace H := if_t h4 H
    refine TL_mv 0 [(0, iv (a0)), (3, iv (i3)), (20, .bool true)] rfl fun rest => TL_nil <| T_cond_true rfl <| T_seq <| T_region <| TL_mv 1 [(2, .bool false)] rfl fun rest => ?_
    refine TL_nil <| T_ret ?_
    exact JQ_mk () (Option.some.inj H) rfl (fun w h => St.weak h (fun S w h => trivial))
   replace H := if_f h4 H
   refine TL_mv 0 [(0, iv (a0)), (3, iv (i3)), (20, .bool false)] rfl fun rest => TL_nil <| T_cond_false rfl <| T_skip <| T_region <| TL_mv 1 [(0, iv (a0)), (15, iv (i3))] rfl fun rest => ?_
   obtain ⟨x3, hx3, hrx3, H⟩ := ck64_s H
   refine TL_val rfl rfl (r_add (c := x3) rfl rfl (w_x hx3 hrx3)) <| TL_mv 1 [(0, iv (a0)), (3, iv (x3))] rfl fun rest => TL_nil ?_
   exact St_round_s (n1, x3) H hrx3 (Nat.lt_succ_self _) rfl (fun w h => St.weak h (fun S w h => trivial))
  replace H := if_f h3 H
  refine TL_mv 0 [(0, iv (a0)), (3, iv (i3)), (14, .bool false)] rfl fun rest => TL_nil <| T_cond_false rfl <| T_exit ?_
  exact JQ_mk () (Option.some.inj H) rfl (fun w h => St.weak h (fun S w h => trivial))
 ·refine JQ_el' ?_
  rintro _ hs rest
  subst hs
  replace H := Hc
  clear hL
  refine JG_to (ms' := []) (Γ' := []) (live' := []) rfl <| T_seq <| T_region <| TL_mv 1 [(2, .bool true)] rfl fun rest => TL_nil <| T_ret ?_
  obtain rfl := inj1 H
  exact Ret1 () Tryz.results59 rfl trivial (fun S w h => trivial)
 refine JQ_el' ?_
 rintro _ hs rest
 subst hs
 replace H := Hc
 clear hL
 refine JG_to (ms' := []) (Γ' := []) (live' := [(2, .bool false)]) rfl ?_
 obtain rfl := inj1 H
 exact Ret1 () Tryz.results59 rfl trivial (fun S w h => trivial)
set_option maxRecDepth 100000 in
set_option maxHeartbeats 1000000 in
theorem c_ref13_Power (fu : Nat) (a0 : Int) (qa0 : InR a0) (a1 : Int) (qa1 : InR a1) (r0 : Zr) (r1 : Int) (H : M_ref13_Power fu a0 a1 = some (r0, r1)) : Fn Tryz.prog 14 [iv a0, iv a1].toArray [] (fun u : Value => .tuple #[u, iv (r1)]) (fun u => [fV eZ (r0) u]) (fun _ => InR r1) := by
 unfold M_ref13_Power at H
 refine Fn_intro Tryz.func14 rfl rfl fun we Se rest => T_seq <| T_region <| TL_og rfl rfl (og_allocM (e := ERep.c eZ) (z := (false, [])) ty25 (fun S w => z25 S w)) fun b1 _ => ?_
 show TL _ _ _ _ [mB (ERep.c eZ) 25 b1 ((false, []))] [] _ _ _ _
 refine TL_mv 1 [(0, iv (a0)), (1, iv (a1)), (4, .pointer (some ⟨b1, 0, none⟩))] rfl fun rest => TL_nil <| T_seq <| T_seq <| T_region <| TL_mv 1 [(0, iv (a0)), (1, iv (a1)), (4, .pointer (some ⟨b1, 0, none⟩)), (6, iv (a0))] rfl fun rest => ?_
 obtain ⟨c1, he1, H⟩ := bd_s H
 refine TL_step rfl rfl (oe_call (by kernel_rfl) (c_ref04_Is fu a0 qa0 c1 he1) rfl (fun S w h => trivial)) fun _ _ => TL_mv 2 [(0, iv (a0)), (1, iv (a1)), (4, .pointer (some ⟨b1, 0, none⟩)), (9, .bool (!c1))] rfl fun rest => ?_
 rcases Bool.eq_false_or_eq_true (!c1) with hd1 | hd1
 ·refine TL_prune [(0, iv (a0)), (1, iv (a1)), (4, .pointer (some ⟨b1, 0, none⟩)), (9, .bool true)] (agr ⟨rfl, rfl, rfl, (congrArg Value.bool hd1), trivial⟩) fun rest => ?_
  replace H := if_t hd1 H
  refine TL_mv 7 [(0, iv (a0)), (1, iv (a1)), (4, .pointer (some ⟨b1, 0, none⟩)), (16, .bool true)] rfl fun rest => TL_nil <| T_cond_true rfl <| T_seq <| T_region <| TL_step rfl rfl (oe_zero (e := eZ) (z := (false, [])) ty25 rfl rfl (.inl (plz pl25)) (fun S w => z25 S w)) fun u1 _ => ?_
  refine TL_og rfl rfl (og_store' (f := eZ) (y' := (false, [])) (z2 := (false, [])) 0 rfl rfl rfl (Sub.self eZ ((false, []))) ty25 (fun S w h => h.1) rfl) fun _ _ => ?_
  show TL _ _ _ _ [mB (ERep.c eZ) 25 b1 ((false, []))] [fV eZ ((false, [])) u1] _ _ _ _
  refine TL_mv 1 [(4, .pointer (some ⟨b1, 0, none⟩)), (5, iv 1)] rfl fun rest => TL_nil <| T_ret ?_
  obtain ⟨rfl, rfl⟩ := inj2 H
  intro w hw
  change RetQ _ _ _ _ _ _ _ .ret _ w
  refine Ret_cN (e := eZ) (z := (false, [])) 4 0 hw rfl (by exact rfl) ty25 fun r_1 hw hr_1 => ?_
  exact RetN (vs := [r_1, (iv 1 : Value)]) r_1 Tryz.results14 (by exact ⟨hr_1, rfl, trivial⟩) rfl (show InR (1) by decide) hw (fun S w h => ⟨h.1, trivial⟩)
 refine TL_prune [(0, iv (a0)), (1, iv (a1)), (4, .pointer (some ⟨b1, 0, none⟩)), (9, .bool false)] (agr ⟨rfl, rfl, rfl, (congrArg Value.bool hd1), trivial⟩) fun rest => ?_
 replace H := ifb_f hd1 H
 refine TL_mv 1 [(0, iv (a0)), (1, iv (a1)), (4, .pointer (some ⟨b1, 0, none⟩)), (9, .bool false), (10, iv (a1))] rfl fun rest => TL_lss rfl rfl rfl rfl (fun h1 => ?_) (fun h1 => ?_)
 ·replace H := if_t h1 H
  refine TL_mv 5 [(0, iv (a0)), (1, iv (a1)), (4, .pointer (some ⟨b1, 0, none⟩)), (16, .bool true)] rfl fun rest => TL_nil <| T_cond_true rfl <| T_seq <| T_region <| TL_step rfl rfl (oe_zero (e := eZ) (z := (false, [])) ty25 rfl rfl (.inl (plz pl25)) (fun S w => z25 S w)) fun u2 _ => ?_
  refine TL_og rfl rfl (og_store' (f := eZ) (y' := (false, [])) (z2 := (false, [])) 0 rfl rfl rfl (Sub.self eZ ((false, []))) ty25 (fun S w h => h.1) rfl) fun _ _ => ?_
  show TL _ _ _ _ [mB (ERep.c eZ) 25 b1 ((false, []))] [fV eZ ((false, [])) u2] _ _ _ _
  refine TL_mv 1 [(4, .pointer (some ⟨b1, 0, none⟩)), (5, iv 1)] rfl fun rest => TL_nil <| T_ret ?_
  obtain ⟨rfl, rfl⟩ := inj2 H
  intro w hw
  change RetQ _ _ _ _ _ _ _ .ret _ w
  refine Ret_cN (e := eZ) (z := (false, [])) 4 0 hw rfl (by exact rfl) ty25 fun r_2 hw hr_2 => ?_
  exact RetN (vs := [r_2, (iv 1 : Value)]) r_2 Tryz.results14 (by exact ⟨hr_2, rfl, trivial⟩) rfl (show InR (1) by decide) hw (fun S w h => ⟨h.1, trivial⟩)
 replace H := if_f h1 H
 refine TL_mv 3 [(0, iv (a0)), (1, iv (a1)), (4, .pointer (some ⟨b1, 0, none⟩)), (13, .bool false), (14, iv (a1))] rfl fun rest => TL_gtr rfl rfl rfl rfl (fun h2 => ?_) (fun h2 => ?_)
 ·replace H := if_t h2 H
  refine TL_mv 1 [(0, iv (a0)), (1, iv (a1)), (4, .pointer (some ⟨b1, 0, none⟩)), (16, .bool true)] rfl fun rest => TL_nil <| T_cond_true rfl <| T_seq <| T_region <| TL_step rfl rfl (oe_zero (e := eZ) (z := (false, [])) ty25 rfl rfl (.inl (plz pl25)) (fun S w => z25 S w)) fun u3 _ => ?_
  refine TL_og rfl rfl (og_store' (f := eZ) (y' := (false, [])) (z2 := (false, [])) 0 rfl rfl rfl (Sub.self eZ ((false, []))) ty25 (fun S w h => h.1) rfl) fun _ _ => ?_
  show TL _ _ _ _ [mB (ERep.c eZ) 25 b1 ((false, []))] [fV eZ ((false, [])) u3] _ _ _ _
  refine TL_mv 1 [(4, .pointer (some ⟨b1, 0, none⟩)), (5, iv 1)] rfl fun rest => TL_nil <| T_ret ?_
  obtain ⟨rfl, rfl⟩ := inj2 H
  intro w hw
  change RetQ _ _ _ _ _ _ _ .ret _ w
  refine Ret_cN (e := eZ) (z := (false, [])) 4 0 hw rfl (by exact rfl) ty25 fun r_3 hw hr_3 => ?_
  exact RetN (vs := [r_3, (iv 1 : Value)]) r_3 Tryz.results14 (by exact ⟨hr_3, rfl, trivial⟩) rfl (show InR (1) by decide) hw (fun S w h => ⟨h.1, trivial⟩)
 replace H := if_f h2 H
 refine TL_mv 1 [(0, iv (a0)), (1, iv (a1)), (4, .pointer (some ⟨b1, 0, none⟩)), (16, .bool false)] rfl fun rest => TL_nil <| T_cond_false rfl <| T_skip <| T_seq <| T_region ?_
 refine TL_mv 1 [(1, iv (a1)), (4, .pointer (some ⟨b1, 0, none⟩)), (18, iv (a0))] rfl fun rest => ?_
 obtain ⟨t1, he2, H⟩ := bd_s H
 refine TL_step rfl rfl (oe_call (by kernel_rfl) (c_ref02_Of fu a0 qa0 t1 he2) rfl (fun S w h => trivial)) fun u4 _ => TL_mv 1 [(4, .pointer (some ⟨b1, 0, none⟩)), (19, u4), (20, iv (a1))] rfl fun rest => ?_
 obtain ⟨⟨t2, x1⟩, he3, H⟩ := bd_s H
 refine TL_step rfl rfl (oe_call (by kernel_rfl) (c_ref02_Pow fu t1 u4 a1 qa1 t2 x1 he3) rfl (fun S w h => ⟨h.1, trivial⟩)) fun u5 hk1 => TL_mv 2 [(4, .pointer (some ⟨b1, 0, none⟩)), (22, u5), (23, iv (x1))] rfl fun rest => TL_og rfl rfl (og_store' (f := eZ) (y' := t2) (z2 := t2) 0 rfl rfl rfl (Sub.self eZ ((false, []))) ty25 (fun S w h => h.1) rfl) fun _ _ => ?_
 show TL _ _ _ _ [mB (ERep.c eZ) 25 b1 (t2)] [fV eZ (t2) u5, fV eZ (t1) u4] _ _ _ _
 refine TL_mv 1 [(4, .pointer (some ⟨b1, 0, none⟩)), (5, iv (x1))] rfl fun rest => TL_nil <| T_ret ?_
 obtain ⟨rfl, rfl⟩ := inj2 H
 intro w hw
 change RetQ _ _ _ _ _ _ _ .ret _ w
 refine Ret_cN (e := eZ) (z := t2) 4 0 hw rfl (by exact rfl) ty25 fun r_4 hw hr_4 => ?_
 exact RetN (vs := [r_4, (iv (x1) : Value)]) r_4 Tryz.results14 (by exact ⟨hr_4, rfl, trivial⟩) rfl hk1 hw (fun S w h => ⟨h.1, trivial⟩)
set_option maxRecDepth 100000 in
set_option maxHeartbeats 1000000 in
theorem c_law13_HenselPowers (fu : Nat) (a0 : Int) (qa0 : InR a0) (a1 : Int) (qa1 : InR a1) (r0 : Bool) (H : M_law13_HenselPowers fu a0 a1 = some r0) : Fn Tryz.prog 3 [iv a0, iv a1].toArray [] (fun _ : Unit => .bool (r0)) (fun _ => []) (fun _ => True) := by
 unfold M_law13_HenselPowers at H
 refine Fn_intro Tryz.func3 rfl rfl fun we Se rest => T_seq <| T_region <| TL_mv 1 [(0, iv (a0)), (1, iv (a1))] rfl fun rest => TL_nil <| T_seq ?_
 refine T_region ?_
 obtain ⟨c1, he1, H⟩ := bd_s H
 refine TL_step rfl rfl (oe_call (by kernel_rfl) (c_law13_awake fu c1 he1) rfl (fun S w h => trivial)) fun _ _ => TL_mv 1 [(0, iv (a0)), (1, iv (a1)), (5, .bool (c1))] rfl fun rest => TL_nil <| T_seq ?_
 obtain ⟨s1, hL, Hc⟩ := bd_s H
 refine T_X [(.n, JQ we Se (G := Unit) (fun _ => (⟨[], [], [(0, iv (a0)), (1, iv (a1)), (5, .bool (c1))]⟩ : Inv)) (fun _ => .inl () = s1)), (.r, JQ we Se (G := Bool) (fun b1 => (⟨[], [], [(4, .bool (b1))]⟩ : Inv)) (fun b1 => .inr b1 = s1))] ?_ ⟨?_, ?_, trivial⟩
 ·replace H := hL
  refine T_seq <| T_region <| TL_mv 1 [(0, iv (a0)), (1, iv (a1)), (5, .bool (c1)), (11, iv (a1))] rfl fun rest => TL_gtr rfl rfl rfl rfl (fun h1 => ?_) (fun h1 => ?_)
  ·replace H := if_t h1 H
   refine TL_mv 2 [(0, iv (a0)), (1, iv (a1)), (5, .bool (c1)), (13, .bool true), (14, iv (a1))] rfl fun rest => TL_leq rfl rfl rfl rfl (fun h2 => ?_) (fun h2 => ?_)
   ·replace H := if_t h2 H
    refine TL_mv 1 [(0, iv (a0)), (1, iv (a1)), (5, .bool (c1)), (16, .bool true)] rfl fun rest => TL_nil <| T_cond_true rfl <| T_seq <| T_region <| TL_mv 2 [(4, .bool (c1))] rfl fun rest => ?_
    refine TL_nil <| T_ret ?_
    exact JQ_mk c1 (Option.some.inj H) rfl (fun w h => St.weak h (fun S w h => trivial))
   replace H := if_f h2 H
   refine TL_mv 1 [(0, iv (a0)), (1, iv (a1)), (5, .bool (c1)), (16, .bool false)] rfl fun rest => TL_nil <| T_cond_false rfl <| T_skip ?_
   exact JQ_mk () (Option.some.inj H) rfl (fun w h => St.weak h (fun S w h => trivial))
  replace H := if_f h1 H
  refine TL_mv 4 [(0, iv (a0)), (1, iv (a1)), (5, .bool (c1)), (16, .bool false)] rfl fun rest => TL_nil <| T_cond_false rfl <| T_skip ?_
  exact JQ_mk () (Option.some.inj H) rfl (fun w h => St.weak h (fun S w h => trivial))
 ·refine JQ_el' ?_
  rintro _ hs rest
  subst hs
  replace H := Hc
  clear hL
  refine JG_to (ms' := []) (Γ' := []) (live' := [(0, iv (a0)), (1, iv (a1)), (5, .bool (c1))]) rfl <| T_seq <| T_region <| TL_mv 2 [(0, iv (a0)), (1, iv (a1)), (5, .bool (c1)), (19, iv (a0)), (20, iv (a1))] rfl fun rest => ?_
  obtain ⟨⟨t1, x1⟩, he2, H⟩ := bd_s H
  refine TL_step rfl rfl (oe_call (by kernel_rfl) (c_hensel_Power fu a0 qa0 a1 qa1 t1 x1 he2) rfl (fun S w h => trivial)) fun u1 hk1 => TL_mv 3 [(0, iv (a0)), (1, iv (a1)), (5, .bool (c1)), (22, u1), (23, iv (x1))] rfl fun rest => TL_og rfl rfl (og_allocM (e := ERep.c eZ) (z := (false, [])) ty25 (fun S w => z25 S w)) fun b2 _ => ?_
  show TL _ _ _ _ [mB (ERep.c eZ) 25 b2 ((false, []))] [fV eZ (t1) u1] _ _ _ _
  refine TL_og rfl rfl (og_store' (f := eZ) (y' := t1) (z2 := t1) 0 rfl rfl rfl (Sub.self eZ ((false, []))) ty25 (fun S w h => h.1) rfl) fun _ _ => ?_
  show TL _ _ _ _ [mB (ERep.c eZ) 25 b2 (t1)] [fV eZ (t1) u1] _ _ _ _
  refine TL_mv 1 [(0, iv (a0)), (1, iv (a1)), (5, .bool (c1)), (6, .pointer (some ⟨b2, 0, none⟩)), (7, iv (x1))] rfl fun rest => TL_nil <| T_seq <| T_region <| TL_mv 2 [(5, .bool (c1)), (6, .pointer (some ⟨b2, 0, none⟩)), (7, iv (x1)), (25, iv (a0)), (26, iv (a1))] rfl fun rest => ?_
  obtain ⟨⟨t2, x2⟩, he3, H⟩ := bd_s H
  refine TL_step rfl rfl (oe_call (by kernel_rfl) (c_ref13_Power fu a0 qa0 a1 qa1 t2 x2 he3) rfl (fun S w h => trivial)) fun u2 hk2 => TL_mv 3 [(5, .bool (c1)), (6, .pointer (some ⟨b2, 0, none⟩)), (7, iv (x1)), (28, u2), (29, iv (x2))] rfl fun rest => TL_og rfl rfl (og_allocM (e := ERep.c eZ) (z := (false, [])) ty25 (fun S w => z25 S w)) fun b3 _ => ?_
  show TL _ _ _ _ [mB (ERep.c eZ) 25 b3 ((false, [])), mB (ERep.c eZ) 25 b2 (t1)] [fV eZ (t2) u2, fV eZ (t1) u1] _ _ _ _
  refine TL_og rfl rfl (og_store' (f := eZ) (y' := t2) (z2 := t2) 0 rfl rfl rfl (Sub.self eZ ((false, []))) ty25 (fun S w h => h.1) rfl) fun _ _ => ?_
  show TL _ _ _ _ [mB (ERep.c eZ) 25 b3 (t2), mB (ERep.c eZ) 25 b2 (t1)] [fV eZ (t2) u2, fV eZ (t1) u1] _ _ _ _
  refine TL_mv 1 [(5, .bool (c1)), (6, .pointer (some ⟨b2, 0, none⟩)), (7, iv (x1)), (8, .pointer (some ⟨b3, 0, none⟩)), (9, iv (x2))] rfl fun rest => TL_nil <| T_seq <| T_region <| TL_mv 2 [(6, .pointer (some ⟨b2, 0, none⟩)), (7, iv (x1)), (8, .pointer (some ⟨b3, 0, none⟩)), (9, iv (x2)), (31, .bool (c1))] rfl fun rest => ?_
  rcases Bool.eq_false_or_eq_true (c1) with hd1 | hd1
  ·refine TL_prune [(6, .pointer (some ⟨b2, 0, none⟩)), (7, iv (x1)), (8, .pointer (some ⟨b3, 0, none⟩)), (9, iv (x2)), (31, .bool true)] (agr ⟨rfl, rfl, rfl, rfl, (congrArg Value.bool hd1), trivial⟩) fun rest => ?_
   replace H := if_t hd1 H
   refine TL_mv 2 [(6, .pointer (some ⟨b2, 0, none⟩)), (8, .pointer (some ⟨b3, 0, none⟩)), (31, .bool true), (32, iv (x1)), (33, iv (x2))] rfl fun rest => TL_eql rfl rfl rfl rfl (fun h3 => ?_) (fun h3 => ?_)
   ·replace H := if_t h3 H
    refine TL_mv 2 [(6, .pointer (some ⟨b2, 0, none⟩)), (8, .pointer (some ⟨b3, 0, none⟩)), (36, .bool true)] rfl fun rest => TL_step rfl rfl (oe_loadM (z' := t1) 1 rfl rfl (Sub.self eZ (t1)) ty25) fun u3 _ => TL_step rfl rfl (oe_loadM (z' := t2) 0 rfl rfl (Sub.self eZ (t2)) ty25) fun u4 _ => ?_
    obtain ⟨c2, he4, H⟩ := bd_s H
    refine TL_step rfl rfl (oe_call (by kernel_rfl) (c_ref02_Same fu t1 u3 t2 u4 c2 he4) rfl (fun S w h => ⟨h.2.1, h.1, trivial⟩)) fun _ _ => TL_mv 2 [(4, .bool (c2))] rfl fun rest => TL_nil <| T_ret ?_
    obtain rfl := inj1 H
    exact Ret1 () Tryz.results3 rfl trivial (fun S w h => trivial)
   replace H := if_f h3 H
   refine TL_mv 7 [(4, .bool false)] rfl fun rest => TL_nil <| T_ret ?_
   obtain rfl := inj1 H
   exact Ret1 () Tryz.results3 rfl trivial (fun S w h => trivial)
  refine TL_prune [(6, .pointer (some ⟨b2, 0, none⟩)), (7, iv (x1)), (8, .pointer (some ⟨b3, 0, none⟩)), (9, iv (x2)), (31, .bool false)] (agr ⟨rfl, rfl, rfl, rfl, (congrArg Value.bool hd1), trivial⟩) fun rest => ?_
  replace H := ifb_f hd1 H
  refine TL_mv 10 [(4, .bool false)] rfl fun rest => TL_nil <| T_ret ?_
  obtain rfl := inj1 H
  exact Ret1 () Tryz.results3 rfl trivial (fun S w h => trivial)
 refine JQ_el' ?_
 rintro b1 hs rest
 subst hs
 replace H := Hc
 clear hL
 refine JG_to (ms' := []) (Γ' := []) (live' := [(4, .bool (b1))]) rfl ?_
 obtain rfl := inj1 H
 exact Ret1 () Tryz.results3 rfl trivial (fun S w h => trivial)
end Go.Proofs.YtjnjfinbdfolkaaGreat
end

section
set_option linter.unusedVariables false
set_option linter.unusedSimpArgs false
namespace Go.Proofs.YtjnjfinbdfolkaaGreat
end Go.Proofs.YtjnjfinbdfolkaaGreat
end

