/- What a proof needs: rules of walking, mirrors of functions and their plain laws. No condition. -/
import Derived.Test.YtjnjfinbdfolkaaGreatHp3
section
set_option linter.unusedVariables false
set_option linter.unusedSimpArgs false
namespace Go.Proofs.YtjnjfinbdfolkaaGreat
set_option maxRecDepth 100000 in
set_option maxHeartbeats 1000000 in
theorem c_nat_Add_1 (fu : Nat) (a0 : Int) (qa0 : InR a0) (a1 : Nat) (qa1 : InU a1) (a2 : List Nat) (va2 : Value) (a3 : List Nat) (va3 : Value) (r0 : Nat) (r1 : Nat) (H : M_nat_Add_1 fu a0 a1 a2 a3 = some (r0, r1)) : Fn Tryz.prog 211 [iv a0, uv a1, va2, va3].toArray [fP (eS eU) (a2) va2, fP (eS eU) (a3) va3] (fun _ : Unit => .tuple #[uv r0, uv r1]) (fun _ => []) (fun _ => InU r0 ∧ InU r1) := by
 unfold M_nat_Add_1 at H
 refine Fn_intro Tryz.func211 rfl rfl fun we Se rest => T_seq <| T_region <| TL_mv 2 [(0, iv (a0)), (1, uv a1), (2, va2), (3, va3)] rfl fun rest => TL_nil <| T_seq ?_
 obtain ⟨m1, he1, H⟩ := bd_s H
 obtain ⟨m2, he2, H⟩ := bd_s H
 obtain ⟨hk3, H⟩ := ck_s H
 obtain ⟨m3, hm3, H⟩ := nm_s H
 obtain ⟨m4, hm4, H⟩ := nm_s H
 refine T_draw 10 [prE (fun u : Value => u) (fun u => [fV (eS eU) (a2) u]) (fun _ => True), prE (fun _ : Unit => iv (a0)) (fun _ => []) (fun _ => InR a0), prE (fun _ : Unit => uv m1) (fun _ => []) (fun _ => InU m1), prE (fun u : Value => u) (fun u => [fV (eS eU) (a3) u]) (fun _ => True), prE (fun _ : Unit => iv (a0)) (fun _ => []) (fun _ => InR a0), prE (fun _ : Unit => uv m2) (fun _ => []) (fun _ => InU m2), prE (fun _ : Unit => uv a1) (fun _ => []) (fun _ => InU a1), prE (fun _ : Unit => .tuple #[uv m3, uv m4]) (fun _ => []) (fun _ => InU m3 ∧ InU m4), prE (fun _ : Unit => uv m3) (fun _ => []) (fun _ => InU m3), prE (fun _ : Unit => uv m4) (fun _ => []) (fun _ => InU m4)] [16, 17] rfl (by kernel_rfl) rfl (by kernel_rfl) ⟨?_, ?_, ?_, ?_, ?_, ?_, ?_, ?_, ?_, ?_, trivial⟩ ?_
 ·intro S w env hS hM hΓ hl
  obtain ⟨e2, _⟩ := hl
  exact ⟨fun _ => ob_E (Γ := [fP (eS eU) (a2) va2, fP (eS eU) (a3) va3]) (oe_load (e := (eS eU)) (y := a2) (e2.trans rfl) ty23 (fun S w h => h.1)) hS hM hΓ, fun hc => (by cases hc)⟩
 ·intro S w env hS hM hΓ hl
  obtain ⟨e0, _⟩ := hl
  exact ⟨fun _ => ob_VE (p := InR a0) (r_mv (e0.trans rfl)) qa0, fun hc => (by cases hc)⟩
 ·intro S w env hS hM hΓ hl
  obtain ⟨⟨u1, e8, _, f8⟩, ⟨_, e9, ho1, f9⟩, _⟩ := hl
  exact ⟨fun _ => ob_E (Γ := [fV (eS eU) (a2) u1, fP (eS eU) (a2) va2, fP (eS eU) (a3) va3]) (oe_call (by kernel_rfl) (c_nat_at fu a2 u1 a0 ho1 m1 he1) (la_cons e8 (la_cons e9 la_nil)) (fun S w h => ⟨h.1, trivial⟩)) hS hM ⟨f8.1, hΓ⟩, fun hc => (by cases hc)⟩
 ·intro S w env hS hM hΓ hl
  obtain ⟨e3, _⟩ := hl
  exact ⟨fun _ => ob_E (Γ := [fP (eS eU) (a2) va2, fP (eS eU) (a3) va3]) (oe_load (e := (eS eU)) (y := a3) (e3.trans rfl) ty23 (fun S w h => h.2.1)) hS hM hΓ, fun hc => (by cases hc)⟩
 ·intro S w env hS hM hΓ hl
  obtain ⟨e0, _⟩ := hl
  exact ⟨fun _ => ob_VE (p := InR a0) (r_mv (e0.trans rfl)) qa0, fun hc => (by cases hc)⟩
 ·intro S w env hS hM hΓ hl
  obtain ⟨⟨u2, e11, _, f11⟩, ⟨_, e12, ho2, f12⟩, _⟩ := hl
  exact ⟨fun _ => ob_E (Γ := [fV (eS eU) (a3) u2, fP (eS eU) (a2) va2, fP (eS eU) (a3) va3]) (oe_call (by kernel_rfl) (c_nat_at fu a3 u2 a0 ho2 m2 he2) (la_cons e11 (la_cons e12 la_nil)) (fun S w h => ⟨h.1, trivial⟩)) hS hM ⟨f11.1, hΓ⟩, fun hc => (by cases hc)⟩
 ·intro S w env hS hM hΓ hl
  obtain ⟨e1, _⟩ := hl
  exact ⟨fun _ => ob_VE (p := InU a1) (r_mv (e1.trans rfl)) qa1, fun hc => (by cases hc)⟩
 ·intro S w env hS hM hΓ hl
  obtain ⟨⟨_, e10, hk1, f10⟩, ⟨_, e13, hk2, f13⟩, ⟨_, e14, ho3, f14⟩, _⟩ := hl
  refine ⟨fun _ => ?_, fun hc => (by cases hc)⟩
  refine ob_VE ?_ ?_
  ·exact v_2 (x := m3) (y := m4) (r_add64 (x := m1) (y := m2) (z := a1) Tryz.func212 xh212 rfl xn212 xf212 e10 e13 e14 hk3) hm3 hm4
  ·exact (And.intro (eq_mod_r hm3) (add64_r hk1 hk2 hk3 hm4))
 ·intro S w env hS hM hΓ hl
  obtain ⟨⟨_, e15, ho4, f15⟩, _⟩ := hl
  exact ⟨fun _ => ob_VE (p := InU m3) (r_ex e15 rfl) ho4.1, fun hc => (by cases hc)⟩
 ·intro S w env hS hM hΓ hl
  obtain ⟨⟨_, e15, ho4, f15⟩, _⟩ := hl
  exact ⟨fun _ => ob_VE (p := InU m4) (r_ex e15 rfl) ho4.2, fun hc => (by cases hc)⟩
 intro S w env hS hΓ hl
 obtain ⟨⟨_, e16, ho5, f16⟩, ⟨_, e17, ho6, f17⟩, _⟩ := hl
 refine ⟨[fP (eS eU) (a2) va2, fP (eS eU) (a3) va3], [(16, uv m3), (17, uv m4)], hΓ, (agr ⟨e16, e17, trivial⟩), fun rest => ?_⟩
 refine TL_mv 2 [(6, uv m3), (7, uv m4)] rfl fun rest => TL_nil <| T_ret ?_
 obtain ⟨rfl, rfl⟩ := inj2 H
 exact Ret2 (t := 6) (t' := 7) (ts := []) () Tryz.results211 rfl (And.intro ho5 ho6) (fun S w h => trivial)
set_option maxRecDepth 100000 in
set_option maxHeartbeats 1000000 in
theorem c_nat_carried (fu : Nat) (a0 : Int) (qa0 : InR a0) (a1 : Int → Nat → Option (Nat × Nat)) (fid : Nat) (caps : List Value) (FG : List FF) (hB : fnB Tryz.prog fid = true) (hF : ∀ (xa0 : Int) (qxa0 : InR xa0) (xa1 : Nat) (qxa1 : InU xa1) (y0 : Nat) (y1 : Nat), a1 xa0 xa1 = some (y0, y1) → Fn Tryz.prog fid ([(iv xa0 : Value), (uv xa1 : Value)] ++ caps).toArray ([] ++ FG) (fun _ : Unit => .tuple #[uv y0, uv y1]) (fun _ => []) (fun _ => InU y0 ∧ InU y1)) (r0 : List Nat) (r1 : Nat) (H : M_nat_carried fu a0 a1 = some (r0, r1)) : FnG Tryz.prog 195 [iv a0, .func (.func fid) #[] caps.toArray].toArray [] ([] ++ FG) (fun u : Value => .tuple #[u, uv r1]) (fun u => [mO eU 102 u (r0)]) (fun u => []) (fun _ => InU r1) := by
 unfold M_nat_carried at H
 refine FnG_intro Tryz.func195 rfl rfl fun we Se F G rest => T_seq <| T_region <| TL_mv 2 [(0, iv (a0)), (1, .func (.func fid) #[] caps.toArray)] rfl fun rest => TL_nil <| T_seq ?_
 refine T_region <| TL_mv 1 [(1, .func (.func fid) #[] caps.toArray), (9, iv (a0))] rfl fun rest => ?_
 obtain ⟨j1, hj1, H⟩ := ckN_s H
 obtain ⟨hk1, H⟩ := ck_s H
 obtain ⟨t1, ht1, H⟩ := nm_s H
 refine TL_og rfl rfl (og_make' (e := eU) (z := 0) (xs := t1) (n := j1) Tryz.underlying23 ty102 (vi hj1) (vi hj1) (by decide) hk1 (fun S w => z102 S w) ht1) fun b1 _ => ?_
 show TL _ _ _ _ (mB (rowT eU j1) 102 b1 (t1) :: F) ((FG ++ G)) _ _ _ _
 refine TL_mv 1 [(1, .func (.func fid) #[] caps.toArray), (6, .slice (some ⟨b1, 0, none⟩) j1 j1)] rfl fun rest => TL_nil <| T_seq <| T_region <| TL_mv 1 [(1, .func (.func fid) #[] caps.toArray), (6, .slice (some ⟨b1, 0, none⟩) j1 j1), (7, .int .u64 0)] rfl fun rest => TL_nil ?_
 refine T_seq <| T_seq <| T_region <| TL_mv 1 [(1, .func (.func fid) #[] caps.toArray), (6, .slice (some ⟨b1, 0, none⟩) j1 j1), (7, .int .u64 0), (11, .slice (some ⟨b1, 0, none⟩) j1 j1)] rfl fun rest => TL_val rfl rfl (r_len Tryz.underlying23 rfl) <| TL_mv 1 [(1, .func (.func fid) #[] caps.toArray), (6, .slice (some ⟨b1, 0, none⟩) j1 j1), (7, .int .u64 0), (12, iv ((j1 : Nat) : Int)), (13, iv 0)] rfl fun rest => ?_
 refine TL_nil <| T_block ?_
 obtain ⟨s1, hL, Hc⟩ := bd_s H
 refine T_X [(.x 0, JQ we Se (G := Nat × (List Nat)) (fun (d4, t5) => (⟨(mB (rowT eU j1) 102 b1 (t5) :: F), ((FG ++ G)), [(6, .slice (some ⟨b1, 0, none⟩) j1 j1), (7, uv d4)]⟩ : Inv)) (fun (d4, t5) => (d4, t5) = s1 ∧ InU d4 ∧ t5.length = j1))] ?_ ⟨?_, trivial⟩
 ·refine T_loop_s (G := Nat × Nat × Int × (List Nat)) (s1 := _) (f := _) (k := fun (n1, d3, i3, t4) => n1) (σ := fun (n1, d3, i3, t4) => (d3, i3, t4)) (fun (n1, d3, i3, t4) => (⟨(mB (rowT eU j1) 102 b1 (t4) :: F), ((FG ++ G)), [(1, .func (.func fid) #[] caps.toArray), (6, .slice (some ⟨b1, 0, none⟩) j1 j1), (7, uv d3), (12, iv ((j1 : Nat) : Int)), (13, iv (i3))]⟩ : Inv)) (fun (n1, d3, i3, t4) => InU d3 ∧ InR i3 ∧ t4.length = j1) (fu, (0 : Nat), 0, t1) hL (And.intro (show InU 0 by decide) (And.intro (show InR (0) by decide) (rep_len ht1))) rfl (fun w h => St.weak h (fun S w h => h)) ?_
  rintro ⟨n1, d3, i3, t4⟩ ⟨H, hr5, hr6, hz3⟩ rest
  rcases n1 with _ | n1
  ·exact (loopN_z H).elim
  replace H := loopN_s H
  unfold B_nat_carried_0 at H
  refine T_prune [(1, .func (.func fid) #[] caps.toArray), (6, .slice (some ⟨b1, 0, none⟩) j1 j1), (7, uv d3), (12, iv ((j1 : Nat) : Int)), (13, iv (i3))] rfl fun rest => T_weak (mB (rowT eU j1) 102 b1 (t4) :: F) ((FG ++ G)) (fun w h => h) <| T_seq <| T_region <| TL_lss rfl rfl rfl rfl (fun h1 => ?_) (fun h1 => ?_)
  ·replace H := if_t h1 H
   refine TL_mv 0 [(1, .func (.func fid) #[] caps.toArray), (6, .slice (some ⟨b1, 0, none⟩) j1 j1), (7, uv d3), (12, iv ((j1 : Nat) : Int)), (13, iv (i3)), (14, .bool true)] rfl fun rest => TL_nil <| T_seq <| T_cond_true rfl <| T_skip <| T_seq ?_
   refine T_block <| T_seq <| T_region <| TL_mv 2 [(1, .func (.func fid) #[] caps.toArray), (6, .slice (some ⟨b1, 0, none⟩) j1 j1), (7, uv d3), (8, iv (i3)), (12, iv ((j1 : Nat) : Int)), (13, iv (i3))] rfl fun rest => TL_nil <| T_region ?_
   refine TL_mv 5 [(1, .func (.func fid) #[] caps.toArray), (6, .slice (some ⟨b1, 0, none⟩) j1 j1), (12, iv ((j1 : Nat) : Int)), (13, iv (i3)), (17, .slice (some ⟨b1, 0, none⟩) j1 j1), (18, iv (i3)), (19, .func (.func fid) #[] caps.toArray), (20, iv (i3)), (21, uv d3)] rfl fun rest => ?_
   obtain ⟨⟨m1, m2⟩, he1, H⟩ := bd_s H
   refine TL_step rfl rfl (oe_callv (args := [(iv (i3) : Value), (uv d3 : Value)]) (caps := caps) hB rfl (hF i3 hr6 d3 hr5 m1 m2 he1) rfl (fun S w h => (All.left h))) fun _ hk2 => TL_mv 3 [(1, .func (.func fid) #[] caps.toArray), (6, .slice (some ⟨b1, 0, none⟩) j1 j1), (12, iv ((j1 : Nat) : Int)), (13, iv (i3)), (17, .slice (some ⟨b1, 0, none⟩) j1 j1), (18, iv (i3)), (23, uv m1), (24, uv m2)] rfl fun rest => ?_
   obtain ⟨j2, hj2, hlj2, H⟩ := ckI_s H
   refine TL_val rfl rfl (r_index Tryz.underlying23 ty102 rfl (vi hj2) (k := j2) (lt_of_len hlj2 hz3)) ?_
   obtain ⟨t6, ht6, H⟩ := nm_s H
   refine TL_og rfl rfl (og_store' (f := eU) (y' := m1) (z2 := t6) 0 rfl rfl rfl (Sub.rowT0 eU j1 (t4) j2 _ (getD_some 0 (lt_of_len' (lt_of_len hlj2 hz3) hz3))) ty102 (fun S w h => (u64_fV hk2.1)) ht6) fun _ _ => ?_
   show TL _ _ _ _ (mB (rowT eU j1) 102 b1 (t6) :: F) ((FG ++ G)) _ _ _ _
   refine TL_mv 1 [(1, .func (.func fid) #[] caps.toArray), (6, .slice (some ⟨b1, 0, none⟩) j1 j1), (7, uv m2), (12, iv ((j1 : Nat) : Int)), (13, iv (i3))] rfl fun rest => TL_nil <| T_region ?_
   obtain ⟨x1, hx1, hrx1, H⟩ := ck64_s H
   refine TL_val rfl rfl (r_add (c := x1) rfl rfl (w_x hx1 hrx1)) <| TL_mv 1 [(1, .func (.func fid) #[] caps.toArray), (6, .slice (some ⟨b1, 0, none⟩) j1 j1), (7, uv m2), (12, iv ((j1 : Nat) : Int)), (13, iv (x1))] rfl fun rest => TL_nil ?_
   exact St_round_s (n1, m2, x1, t6) H (And.intro hk2.2 (And.intro hrx1 (set_len ht6 hz3))) (Nat.lt_succ_self _) rfl (fun w h => St.weak h (fun S w h => h))
  replace H := if_f h1 H
  refine TL_mv 0 [(1, .func (.func fid) #[] caps.toArray), (6, .slice (some ⟨b1, 0, none⟩) j1 j1), (7, uv d3), (12, iv ((j1 : Nat) : Int)), (13, iv (i3)), (14, .bool false)] rfl fun rest => TL_nil <| T_seq <| T_cond_false rfl <| T_exit ?_
  exact JQ_mk (d3, t4) (And.intro (Option.some.inj H) (And.intro hr5 hz3)) rfl (fun w h => St.weak h (fun S w h => h))
 refine JQ_el' ?_
 rintro ⟨d4, t5⟩ ⟨hs, hr7, hz4⟩ rest
 subst hs
 replace H := Hc
 clear hL
 refine JG_to (ms' := (mB (rowT eU j1) 102 b1 (t5) :: F)) (Γ' := ((FG ++ G))) (live' := [(6, .slice (some ⟨b1, 0, none⟩) j1 j1), (7, uv d4)]) rfl <| T_seq <| T_region <| TL_mv 4 [(4, .slice (some ⟨b1, 0, none⟩) j1 j1), (5, uv d4)] rfl fun rest => TL_nil <| T_ret ?_
 refine T_weak_st (fun w h => close_all 0 h rfl hz4 (Nat.le_refl _) (mk_le (B := 8) (by decide) hk1)) ?_
 obtain ⟨rfl, rfl⟩ := inj2 H
 intro w hw
 exact RetG (vs := [(.slice (some ⟨b1, 0, none⟩) j1 j1), (uv d4 : Value)]) (.slice (some ⟨b1, 0, none⟩) j1 j1) Tryz.results195 (by exact ⟨rfl, rfl, trivial⟩) rfl hr7 (St.weak hw (fun S w h => (All.right h)))
set_option maxRecDepth 100000 in
set_option maxHeartbeats 1000000 in
theorem c_nat_Add (fu : Nat) (a0 : List Nat) (va0 : Value) (a1 : List Nat) (va1 : Value) (r0 : List Nat) (H : M_nat_Add fu a0 a1 = some r0) : FnG Tryz.prog 157 [va0, va1].toArray [] [fV (eS eU) (a0) va0, fV (eS eU) (a1) va1] (fun u : Value => u) (fun u => [mO eU 102 u (r0)]) (fun u => []) (fun _ => True) := by
 unfold M_nat_Add at H
 refine FnG_intro Tryz.func157 rfl rfl fun we Se F G rest => T_seq <| T_region <| TL_step rfl rfl (oe_box (e := (eS eU)) (z := a0) rfl (fun S w h => h.1)) fun p1 _ => TL_step rfl rfl (oe_box (e := (eS eU)) (z := a1) rfl (fun S w h => h.2.2.1)) fun p2 _ => TL_mv 1 [(2, p1), (3, p2)] rfl fun rest => ?_
 refine TL_nil <| T_seq <| T_region <| TL_step rfl rfl (oe_load (e := (eS eU)) (y := a0) rfl ty23 (fun S w h => h.2.1)) fun u1 _ => TL_step rfl rfl (oe_len (e := eU) (xs := a0) Tryz.underlying23 rfl (fun S w h => h.1)) fun _ hl1 => TL_step rfl rfl (oe_load (e := (eS eU)) (y := a1) rfl ty23 (fun S w h => h.2.1)) fun u2 _ => ?_
 refine TL_step rfl rfl (oe_len (e := eU) (xs := a1) Tryz.underlying23 rfl (fun S w h => h.1)) fun _ hl2 => ?_
 obtain ⟨x1, hx1, H⟩ := nm_s H
 refine TL_val rfl rfl (v_i (z := x1) (r_max rfl rfl) hx1) <| TL_val rfl rfl (r_mk (la_cons rfl (la_cons rfl la_nil))) ?_
 obtain ⟨⟨t1, m1⟩, he1, H⟩ := bd_s H
 refine TL_og rfl rfl (og_callG (F := (F)) (by kernel_rfl) (c_nat_carried fu x1 (eq_r hx1 (max_r (len_r hl1) (len_r hl2))) (fun zx0 zx1 => M_nat_Add_1 fu zx0 zx1 a0 a1) 211 [p1, p2] [fP (eS eU) (a0) p1, fP (eS eU) (a1) p2] (by kernel_rfl) (fun zx0 qzx0 zx1 qzx1 zy0 zy1 hh => c_nat_Add_1 fu zx0 qzx0 zx1 qzx1 a0 p1 a1 p2 zy0 zy1 hh) t1 m1 he1) rfl (fun S w h => ⟨h.2.2.2.1, h.2.2.1, trivial⟩)) fun u3 hk1 => ?_
 show TL _ _ _ _ (mO eU 102 u3 (t1) :: F) (fV (eS eU) (a1) u2 :: fV (eS eU) (a0) u1 :: fP (eS eU) (a1) p2 :: fP (eS eU) (a0) p1 :: fV (eS eU) (a0) va0 :: fV (eS eU) (a1) va1 :: G) _ _ _ _
 refine TL_mv 5 [(5, u3), (6, uv m1)] rfl fun rest => TL_nil <| T_seq <| T_region <| TL_mv 2 [(17, u3), (18, uv m1)] rfl fun rest => TL_step rfl rfl (oe_lit (e := eU) (zs := [m1]) Tryz.underlying23 ty102 (by decide) rfl (by decide) (vs := [(0, uv m1)]) rfl (fun S w h => (by refine fill_eq eU ?_; exact ⟨fV_sz (S := S) (w := w) (u64_fV hk1), trivial⟩)) (fun S w h => (elems_one (u64_fV hk1)))) fun u4 _ => ?_
 obtain ⟨hk2, H⟩ := ck_s H
 obtain ⟨t2, ht2, H⟩ := nm_s H
 refine TL_og rfl rfl (og_append' (e := eU) (xs := t1) (ys := [m1]) 0 Tryz.underlying23 ty102 rfl (by decide) (by decide) rfl rfl rfl (fun S w h => h.1) hk2 ht2) fun w1 _ => ?_
 show TL _ _ _ _ (mO eU 102 w1 (t2) :: F) (fV (eS eU) ([m1]) u4 :: fV (eS eU) (a1) u2 :: fV (eS eU) (a0) u1 :: fP (eS eU) (a1) p2 :: fP (eS eU) (a0) p1 :: fV (eS eU) (a0) va0 :: fV (eS eU) (a1) va1 :: G) _ _ _ _
 obtain ⟨t3, he2, H⟩ := bd_s H
 refine TL_og rfl rfl (og_callG (F := (F)) (by kernel_rfl) (c_nat_plain_own fu t2 w1 t3 he2) rfl (fun S w h => trivial)) fun u5 _ => ?_
 show TL _ _ _ _ (mO eU 102 u5 (t3) :: F) (fV (eS eU) ([m1]) u4 :: fV (eS eU) (a1) u2 :: fV (eS eU) (a0) u1 :: fP (eS eU) (a1) p2 :: fP (eS eU) (a0) p1 :: fV (eS eU) (a0) va0 :: fV (eS eU) (a1) va1 :: G) _ _ _ _
 refine TL_mv 1 [(4, u5)] rfl fun rest => TL_sel (G) (fun S w h => h.2.2.2.2.2.2.2) <| TL_nil <| T_ret ?_
 obtain rfl := inj1 H
 intro w hw
 exact RetG (vs := [u5]) u5 Tryz.results157 (by exact ⟨rfl, trivial⟩) rfl trivial (St.weak hw (fun S w h => h))
theorem z_nat_Add (fu : Nat) (a0 : List Nat) (va0 : Value) (a1 : List Nat) (va1 : Value) (r0 : List Nat) (H : M_nat_Add fu a0 a1 = some r0) : Fn Tryz.prog 157 [va0, va1].toArray [fV (eS eU) (a0) va0, fV (eS eU) (a1) va1] (fun u : Value => u) (fun u => [fV (eS eU) (r0) u]) (fun _ => True) :=
  FnG.frozen (c_nat_Add fu a0 va0 a1 va1 r0 H) fun u w we Se h => (fz_own 0 h rfl)
set_option maxRecDepth 100000 in
set_option maxHeartbeats 1000000 in
theorem c_nat_Sub_1 (fu : Nat) (a0 : Int) (qa0 : InR a0) (a1 : Nat) (qa1 : InU a1) (a2 : List Nat) (va2 : Value) (a3 : List Nat) (va3 : Value) (r0 : Nat) (r1 : Nat) (H : M_nat_Sub_1 fu a0 a1 a2 a3 = some (r0, r1)) : Fn Tryz.prog 216 [iv a0, uv a1, va2, va3].toArray [fP (eS eU) (a2) va2, fP (eS eU) (a3) va3] (fun _ : Unit => .tuple #[uv r0, uv r1]) (fun _ => []) (fun _ => InU r0 ∧ InU r1) := by
 unfold M_nat_Sub_1 at H
 refine Fn_intro Tryz.func216 rfl rfl fun we Se rest => T_seq <| T_region <| TL_mv 2 [(0, iv (a0)), (1, uv a1), (2, va2), (3, va3)] rfl fun rest => TL_nil <| T_seq ?_
 obtain ⟨m1, he1, H⟩ := bd_s H
 obtain ⟨m2, he2, H⟩ := bd_s H
 obtain ⟨hk3, H⟩ := ck_s H
 obtain ⟨m3, hm3, H⟩ := nm_s H
 obtain ⟨m4, hm4, H⟩ := nm_s H
 refine T_draw 10 [prE (fun u : Value => u) (fun u => [fV (eS eU) (a2) u]) (fun _ => True), prE (fun _ : Unit => iv (a0)) (fun _ => []) (fun _ => InR a0), prE (fun _ : Unit => uv m1) (fun _ => []) (fun _ => InU m1), prE (fun u : Value => u) (fun u => [fV (eS eU) (a3) u]) (fun _ => True), prE (fun _ : Unit => iv (a0)) (fun _ => []) (fun _ => InR a0), prE (fun _ : Unit => uv m2) (fun _ => []) (fun _ => InU m2), prE (fun _ : Unit => uv a1) (fun _ => []) (fun _ => InU a1), prE (fun _ : Unit => .tuple #[uv m3, uv m4]) (fun _ => []) (fun _ => InU m3 ∧ InU m4), prE (fun _ : Unit => uv m3) (fun _ => []) (fun _ => InU m3), prE (fun _ : Unit => uv m4) (fun _ => []) (fun _ => InU m4)] [16, 17] rfl (by kernel_rfl) rfl (by kernel_rfl) ⟨?_, ?_, ?_, ?_, ?_, ?_, ?_, ?_, ?_, ?_, trivial⟩ ?_
 ·intro S w env hS hM hΓ hl
  obtain ⟨e2, _⟩ := hl
  exact ⟨fun _ => ob_E (Γ := [fP (eS eU) (a2) va2, fP (eS eU) (a3) va3]) (oe_load (e := (eS eU)) (y := a2) (e2.trans rfl) ty23 (fun S w h => h.1)) hS hM hΓ, fun hc => (by cases hc)⟩
 ·intro S w env hS hM hΓ hl
  obtain ⟨e0, _⟩ := hl
  exact ⟨fun _ => ob_VE (p := InR a0) (r_mv (e0.trans rfl)) qa0, fun hc => (by cases hc)⟩
 ·intro S w env hS hM hΓ hl
  obtain ⟨⟨u1, e8, _, f8⟩, ⟨_, e9, ho1, f9⟩, _⟩ := hl
  exact ⟨fun _ => ob_E (Γ := [fV (eS eU) (a2) u1, fP (eS eU) (a2) va2, fP (eS eU) (a3) va3]) (oe_call (by kernel_rfl) (c_nat_at fu a2 u1 a0 ho1 m1 he1) (la_cons e8 (la_cons e9 la_nil)) (fun S w h => ⟨h.1, trivial⟩)) hS hM ⟨f8.1, hΓ⟩, fun hc => (by cases hc)⟩
 ·intro S w env hS hM hΓ hl
  obtain ⟨e3, _⟩ := hl
  exact ⟨fun _ => ob_E (Γ := [fP (eS eU) (a2) va2, fP (eS eU) (a3) va3]) (oe_load (e := (eS eU)) (y := a3) (e3.trans rfl) ty23 (fun S w h => h.2.1)) hS hM hΓ, fun hc => (by cases hc)⟩
 ·intro S w env hS hM hΓ hl
  obtain ⟨e0, _⟩ := hl
  exact ⟨fun _ => ob_VE (p := InR a0) (r_mv (e0.trans rfl)) qa0, fun hc => (by cases hc)⟩
 ·intro S w env hS hM hΓ hl
  obtain ⟨⟨u2, e11, _, f11⟩, ⟨_, e12, ho2, f12⟩, _⟩ := hl
  exact ⟨fun _ => ob_E (Γ := [fV (eS eU) (a3) u2, fP (eS eU) (a2) va2, fP (eS eU) (a3) va3]) (oe_call (by kernel_rfl) (c_nat_at fu a3 u2 a0 ho2 m2 he2) (la_cons e11 (la_cons e12 la_nil)) (fun S w h => ⟨h.1, trivial⟩)) hS hM ⟨f11.1, hΓ⟩, fun hc => (by cases hc)⟩
 ·intro S w env hS hM hΓ hl
  obtain ⟨e1, _⟩ := hl
  exact ⟨fun _ => ob_VE (p := InU a1) (r_mv (e1.trans rfl)) qa1, fun hc => (by cases hc)⟩
 ·intro S w env hS hM hΓ hl
  obtain ⟨⟨_, e10, hk1, f10⟩, ⟨_, e13, hk2, f13⟩, ⟨_, e14, ho3, f14⟩, _⟩ := hl
  refine ⟨fun _ => ?_, fun hc => (by cases hc)⟩
  refine ob_VE ?_ ?_
  ·exact v_2 (x := m3) (y := m4) (r_sub64 (x := m1) (y := m2) (z := a1) Tryz.func217 xh217 rfl xn217 xf217 e10 e13 e14 hk3) hm3 hm4
  ·exact (And.intro (eq_mod_r hm3) (sub64_r hk1 hk2 hk3 hm4))
 ·intro S w env hS hM hΓ hl
  obtain ⟨⟨_, e15, ho4, f15⟩, _⟩ := hl
  exact ⟨fun _ => ob_VE (p := InU m3) (r_ex e15 rfl) ho4.1, fun hc => (by cases hc)⟩
 ·intro S w env hS hM hΓ hl
  obtain ⟨⟨_, e15, ho4, f15⟩, _⟩ := hl
  exact ⟨fun _ => ob_VE (p := InU m4) (r_ex e15 rfl) ho4.2, fun hc => (by cases hc)⟩
 intro S w env hS hΓ hl
 obtain ⟨⟨_, e16, ho5, f16⟩, ⟨_, e17, ho6, f17⟩, _⟩ := hl
 refine ⟨[fP (eS eU) (a2) va2, fP (eS eU) (a3) va3], [(16, uv m3), (17, uv m4)], hΓ, (agr ⟨e16, e17, trivial⟩), fun rest => ?_⟩
 refine TL_mv 2 [(6, uv m3), (7, uv m4)] rfl fun rest => TL_nil <| T_ret ?_
 obtain ⟨rfl, rfl⟩ := inj2 H
 exact Ret2 (t := 6) (t' := 7) (ts := []) () Tryz.results216 rfl (And.intro ho5 ho6) (fun S w h => trivial)
set_option maxRecDepth 100000 in
set_option maxHeartbeats 1000000 in
theorem c_nat_Sub (fu : Nat) (a0 : List Nat) (va0 : Value) (a1 : List Nat) (va1 : Value) (r0 : List Nat) (r1 : Int) (H : M_nat_Sub fu a0 a1 = some (r0, r1)) : FnG Tryz.prog 159 [va0, va1].toArray [] [fV (eS eU) (a0) va0, fV (eS eU) (a1) va1] (fun u : Value => .tuple #[u, iv (r1)]) (fun u => [mO eU 102 u (r0)]) (fun u => []) (fun _ => InR r1) := by
 unfold M_nat_Sub at H
 refine FnG_intro Tryz.func159 rfl rfl fun we Se F G rest => T_seq <| T_region <| TL_step rfl rfl (oe_box (e := (eS eU)) (z := a0) rfl (fun S w h => h.1)) fun p1 _ => TL_step rfl rfl (oe_box (e := (eS eU)) (z := a1) rfl (fun S w h => h.2.2.1)) fun p2 _ => TL_mv 2 [(2, p1), (3, p2)] rfl fun rest => ?_
 refine TL_nil <| T_seq <| T_region <| TL_step rfl rfl (oe_load (e := (eS eU)) (y := a0) rfl ty23 (fun S w h => h.2.1)) fun u1 _ => TL_step rfl rfl (oe_len (e := eU) (xs := a0) Tryz.underlying23 rfl (fun S w h => h.1)) fun _ hl1 => TL_step rfl rfl (oe_load (e := (eS eU)) (y := a1) rfl ty23 (fun S w h => h.2.1)) fun u2 _ => ?_
 refine TL_step rfl rfl (oe_len (e := eU) (xs := a1) Tryz.underlying23 rfl (fun S w h => h.1)) fun _ hl2 => ?_
 obtain ⟨x1, hx1, H⟩ := nm_s H
 refine TL_val rfl rfl (v_i (z := x1) (r_max rfl rfl) hx1) <| TL_val rfl rfl (r_mk (la_cons rfl (la_cons rfl la_nil))) ?_
 obtain ⟨⟨t1, m1⟩, he1, H⟩ := bd_s H
 refine TL_og rfl rfl (og_callG (F := (F)) (by kernel_rfl) (c_nat_carried fu x1 (eq_r hx1 (max_r (len_r hl1) (len_r hl2))) (fun zx0 zx1 => M_nat_Sub_1 fu zx0 zx1 a0 a1) 216 [p1, p2] [fP (eS eU) (a0) p1, fP (eS eU) (a1) p2] (by kernel_rfl) (fun zx0 qzx0 zx1 qzx1 zy0 zy1 hh => c_nat_Sub_1 fu zx0 qzx0 zx1 qzx1 a0 p1 a1 p2 zy0 zy1 hh) t1 m1 he1) rfl (fun S w h => ⟨h.2.2.2.1, h.2.2.1, trivial⟩)) fun u3 hk1 => ?_
 show TL _ _ _ _ (mO eU 102 u3 (t1) :: F) (fV (eS eU) (a1) u2 :: fV (eS eU) (a0) u1 :: fP (eS eU) (a1) p2 :: fP (eS eU) (a0) p1 :: fV (eS eU) (a0) va0 :: fV (eS eU) (a1) va1 :: G) _ _ _ _
 refine TL_mv 5 [(6, u3), (7, uv m1)] rfl fun rest => TL_nil <| T_seq <| T_seq <| T_region <| TL_mv 1 [(6, u3), (18, uv m1)] rfl fun rest => ?_
 refine TL_gtr rfl rfl rfl rfl (fun h1 => ?_) (fun h1 => ?_)
 ·replace H := if_t h1 H
  refine TL_mv 0 [(6, u3), (19, .bool true)] rfl fun rest => TL_nil <| T_cond_true rfl <| T_seq <| T_region <| TL_mv 2 [(4, .slice none 0 0), (5, iv 1)] rfl fun rest => ?_
  refine TL_nil <| T_ret <| T_weak_st (fun w h => St.nilO (e := eU) (E := 102) h) ?_
  obtain ⟨rfl, rfl⟩ := inj2 H
  intro w hw
  exact RetG (vs := [(.slice none 0 0), (iv 1 : Value)]) (.slice none 0 0) Tryz.results159 (by exact ⟨rfl, rfl, trivial⟩) rfl (show InR (1) by decide) (St.weak (St.drop (i := 1) hw) (fun S w h => h.2.2.2.2.2.2))
 replace H := if_f h1 H
 refine TL_mv 0 [(6, u3), (19, .bool false)] rfl fun rest => TL_nil <| T_cond_false rfl <| T_skip <| T_seq <| T_region ?_
 refine TL_mv 1 [(20, u3)] rfl fun rest => ?_
 obtain ⟨t2, he2, H⟩ := bd_s H
 refine TL_og rfl rfl (og_callG (F := (F)) (by kernel_rfl) (c_nat_plain_own fu t1 u3 t2 he2) rfl (fun S w h => trivial)) fun u4 _ => ?_
 show TL _ _ _ _ (mO eU 102 u4 (t2) :: F) (fV (eS eU) (a1) u2 :: fV (eS eU) (a0) u1 :: fP (eS eU) (a1) p2 :: fP (eS eU) (a0) p1 :: fV (eS eU) (a0) va0 :: fV (eS eU) (a1) va1 :: G) _ _ _ _
 refine TL_mv 2 [(4, u4), (5, iv 0)] rfl fun rest => TL_nil <| T_ret ?_
 obtain ⟨rfl, rfl⟩ := inj2 H
 intro w hw
 exact RetG (vs := [u4, (iv 0 : Value)]) u4 Tryz.results159 (by exact ⟨rfl, rfl, trivial⟩) rfl (show InR (0) by decide) (St.weak hw (fun S w h => h.2.2.2.2.2.2))
set_option maxRecDepth 100000 in
set_option maxHeartbeats 1000000 in
theorem c_nat_less (fu : Nat) (a0 : List Nat) (va0 : Value) (a1 : List Nat) (va1 : Value) (r0 : List Nat) (H : M_nat_less fu a0 a1 = some r0) : FnG Tryz.prog 205 [va0, va1].toArray [] [fV (eS eU) (a0) va0, fV (eS eU) (a1) va1] (fun u : Value => u) (fun u => [mO eU 102 u (r0)]) (fun u => []) (fun _ => True) := by
 unfold M_nat_less at H
 refine FnG_intro Tryz.func205 rfl rfl fun we Se F G rest => T_seq <| T_region <| TL_mv 1 [(0, va0), (1, va1)] rfl fun rest => TL_nil <| T_seq ?_
 refine T_region <| TL_mv 2 [(8, va0), (9, va1)] rfl fun rest => ?_
 obtain ⟨⟨t1, x1⟩, he1, H⟩ := bd_s H
 refine TL_og rfl rfl (og_callG (F := (F)) (by kernel_rfl) (c_nat_Sub fu a0 va0 a1 va1 t1 x1 he1) rfl (fun S w h => ⟨h.1, h.2.1, trivial⟩)) fun u1 hk1 => ?_
 show TL _ _ _ _ (mO eU 102 u1 (t1) :: F) (fV (eS eU) (a0) va0 :: fV (eS eU) (a1) va1 :: G) _ _ _ _
 refine TL_mv 5 [(5, u1)] rfl fun rest => TL_nil <| T_seq <| T_region <| TL_mv 2 [(4, u1)] rfl fun rest => TL_nil ?_
 refine T_ret ?_
 obtain rfl := inj1 H
 intro w hw
 exact RetG (vs := [u1]) u1 Tryz.results205 (by exact ⟨rfl, trivial⟩) rfl trivial (St.weak hw (fun S w h => h.2.2))
set_option maxRecDepth 100000 in
set_option maxHeartbeats 1000000 in
theorem c_nat_moved (fu : Nat) (a0 : List Nat) (va0 : Value) (a1 : Int) (qa1 : InR a1) (r0 : List Nat) (H : M_nat_moved fu a0 a1 = some r0) : FnG Tryz.prog 197 [va0, iv a1].toArray [] [fV (eS eU) (a0) va0] (fun u : Value => u) (fun u => [mO eU 102 u (r0)]) (fun u => []) (fun _ => True) := by
 unfold M_nat_moved at H
 refine FnG_intro Tryz.func197 rfl rfl fun we Se F G rest => T_seq <| T_region <| TL_mv 1 [(0, va0), (1, iv (a1))] rfl fun rest => TL_nil <| T_seq ?_
 refine T_region <| TL_mv 1 [(0, va0), (5, iv (a1))] rfl fun rest => ?_
 obtain ⟨j1, hj1, H⟩ := ckN_s H
 obtain ⟨hk1, H⟩ := ck_s H
 obtain ⟨t1, ht1, H⟩ := nm_s H
 refine TL_og rfl rfl (og_make' (e := eU) (z := 0) (xs := t1) (n := j1) Tryz.underlying23 ty102 (vi hj1) (vi hj1) (by decide) hk1 (fun S w => z102 S w) ht1) fun b1 _ => ?_
 show TL _ _ _ _ (mB (rowT eU j1) 102 b1 (t1) :: F) (fV (eS eU) (a0) va0 :: G) _ _ _ _
 refine TL_mv 1 [(6, .slice (some ⟨b1, 0, none⟩) j1 j1), (7, va0)] rfl fun rest => TL_weak_st (fun w h => close_all 0 h rfl (rep_len ht1) (Nat.le_refl _) (mk_le (B := 8) (by decide) hk1)) ?_
 show TL _ _ _ _ (mO eU 102 ((.slice (some ⟨b1, 0, none⟩) j1 j1)) (t1) :: F) _ _ _ _ _
 obtain ⟨hk2, H⟩ := ck_s H
 obtain ⟨t2, ht2, H⟩ := nm_s H
 refine TL_og rfl rfl (og_append' (e := eU) (xs := t1) (ys := a0) 0 Tryz.underlying23 ty102 rfl (by decide) (by decide) rfl rfl rfl (fun S w h => h.1) hk2 ht2) fun w1 _ => ?_
 show TL _ _ _ _ (mO eU 102 w1 (t2) :: F) (fV (eS eU) (a0) va0 :: G) _ _ _ _
 refine TL_mv 1 [(4, w1)] rfl fun rest => TL_nil <| T_ret ?_
 obtain rfl := inj1 H
 intro w hw
 exact RetG (vs := [w1]) w1 Tryz.results197 (by exact ⟨rfl, trivial⟩) rfl trivial (St.weak hw (fun S w h => h.2))
set_option maxRecDepth 100000 in
set_option maxHeartbeats 1000000 in
theorem c_math_bits_Mul64 (fu : Nat) (a0 : Nat) (qa0 : InU a0) (a1 : Nat) (qa1 : InU a1) (r0 : Nat) (r1 : Nat) (H : M_math_bits_Mul64 fu a0 a1 = some (r0, r1)) : Fn Tryz.prog 259 [uv a0, uv a1].toArray [] (fun _ : Unit => .tuple #[uv r0, uv r1]) (fun _ => []) (fun _ => InU r0 ∧ InU r1) := by
 unfold M_math_bits_Mul64 at H
 refine Fn_intro Tryz.func259 rfl rfl fun we Se rest => T_seq <| T_region <| TL_mv 2 [(0, uv a0), (1, uv a1)] rfl fun rest => TL_nil <| T_seq ?_
 refine T_region <| TL_mv 1 [(0, uv a0), (1, uv a1), (14, uv a0)] rfl fun rest => ?_
 obtain ⟨m1, hm1, H⟩ := nm_s H
 refine TL_val rfl rfl (r_and (c := ((m1 : Nat) : Int)) rfl rfl (wu_x hm1 (n_and_u (a := a0) (b := (4294967295 : Nat)) qa0 (show InU 4294967295 by decide)))) <| TL_mv 1 [(0, uv a0), (1, uv a1), (6, uv m1)] rfl fun rest => TL_nil <| T_seq <| T_region <| TL_mv 1 [(0, uv a0), (1, uv a1), (6, uv m1), (16, uv a0)] rfl fun rest => ?_
 obtain ⟨m2, hm2, H⟩ := nm_s H
 refine TL_val rfl rfl (r_shr (c := ((m2 : Nat) : Int)) rfl rfl (by decide) (wu_y hm2 (n_shr_u (a := a0)))) <| TL_mv 1 [(0, uv a0), (1, uv a1), (6, uv m1), (7, uv m2)] rfl fun rest => TL_nil <| T_seq <| T_region <| TL_mv 1 [(0, uv a0), (1, uv a1), (6, uv m1), (7, uv m2), (18, uv a1)] rfl fun rest => ?_
 obtain ⟨m3, hm3, H⟩ := nm_s H
 refine TL_val rfl rfl (r_and (c := ((m3 : Nat) : Int)) rfl rfl (wu_x hm3 (n_and_u (a := a1) (b := (4294967295 : Nat)) qa1 (show InU 4294967295 by decide)))) <| TL_mv 1 [(0, uv a0), (1, uv a1), (6, uv m1), (7, uv m2), (8, uv m3)] rfl fun rest => TL_nil <| T_seq <| T_region <| TL_mv 1 [(0, uv a0), (1, uv a1), (6, uv m1), (7, uv m2), (8, uv m3), (20, uv a1)] rfl fun rest => ?_
 obtain ⟨m4, hm4, H⟩ := nm_s H
 refine TL_val rfl rfl (r_shr (c := ((m4 : Nat) : Int)) rfl rfl (by decide) (wu_y hm4 (n_shr_u (a := a1)))) <| TL_mv 1 [(0, uv a0), (1, uv a1), (6, uv m1), (7, uv m2), (8, uv m3), (9, uv m4)] rfl fun rest => TL_nil <| T_seq <| T_region <| TL_mv 2 [(0, uv a0), (1, uv a1), (6, uv m1), (7, uv m2), (8, uv m3), (9, uv m4), (22, uv m1), (23, uv m3)] rfl fun rest => ?_
 obtain ⟨m5, hm5, H⟩ := nm_s H
 refine TL_val rfl rfl (r_mul (c := ((m5 : Nat) : Int)) rfl rfl (wu_x hm5 wu_mulw)) <| TL_mv 1 [(0, uv a0), (1, uv a1), (6, uv m1), (7, uv m2), (8, uv m3), (9, uv m4), (10, uv m5)] rfl fun rest => TL_nil <| T_seq <| T_region <| TL_mv 2 [(0, uv a0), (1, uv a1), (6, uv m1), (7, uv m2), (9, uv m4), (10, uv m5), (25, uv m2), (26, uv m3)] rfl fun rest => ?_
 obtain ⟨m6, hm6, H⟩ := nm_s H
 refine TL_val rfl rfl (r_mul (c := ((m6 : Nat) : Int)) rfl rfl (wu_x hm6 wu_mulw)) <| TL_mv 1 [(0, uv a0), (1, uv a1), (6, uv m1), (7, uv m2), (9, uv m4), (27, uv m6), (28, uv m5)] rfl fun rest => ?_
 obtain ⟨m7, hm7, H⟩ := nm_s H
 refine TL_val rfl rfl (r_shr (c := ((m7 : Nat) : Int)) rfl rfl (by decide) (wu_y hm7 (n_shr_u (a := m5)))) ?_
 obtain ⟨m8, hm8, H⟩ := nm_s H
 refine TL_val rfl rfl (r_add (c := ((m8 : Nat) : Int)) rfl rfl (wu_x hm8 wu_addw)) <| TL_mv 1 [(0, uv a0), (1, uv a1), (6, uv m1), (7, uv m2), (9, uv m4), (11, uv m8)] rfl fun rest => TL_nil <| T_seq <| T_region <| TL_mv 1 [(0, uv a0), (1, uv a1), (6, uv m1), (7, uv m2), (9, uv m4), (11, uv m8), (31, uv m8)] rfl fun rest => ?_
 obtain ⟨m9, hm9, H⟩ := nm_s H
 refine TL_val rfl rfl (r_and (c := ((m9 : Nat) : Int)) rfl rfl (wu_x hm9 (n_and_u (a := m8) (b := (4294967295 : Nat)) (eq_mod_r hm8) (show InU 4294967295 by decide)))) <| TL_mv 1 [(0, uv a0), (1, uv a1), (6, uv m1), (7, uv m2), (9, uv m4), (11, uv m8), (12, uv m9)] rfl fun rest => TL_nil <| T_seq <| T_region <| TL_mv 1 [(0, uv a0), (1, uv a1), (6, uv m1), (7, uv m2), (9, uv m4), (12, uv m9), (33, uv m8)] rfl fun rest => ?_
 obtain ⟨m10, hm10, H⟩ := nm_s H
 refine TL_val rfl rfl (r_shr (c := ((m10 : Nat) : Int)) rfl rfl (by decide) (wu_y hm10 (n_shr_u (a := m8)))) <| TL_mv 1 [(0, uv a0), (1, uv a1), (6, uv m1), (7, uv m2), (9, uv m4), (12, uv m9), (13, uv m10)] rfl fun rest => TL_nil <| T_seq <| T_region <| TL_mv 3 [(0, uv a0), (1, uv a1), (7, uv m2), (9, uv m4), (13, uv m10), (35, uv m9), (36, uv m1), (37, uv m4)] rfl fun rest => ?_
 obtain ⟨m11, hm11, H⟩ := nm_s H
 refine TL_val rfl rfl (r_mul (c := ((m11 : Nat) : Int)) rfl rfl (wu_x hm11 wu_mulw)) ?_
 obtain ⟨m12, hm12, H⟩ := nm_s H
 refine TL_val rfl rfl (r_add (c := ((m12 : Nat) : Int)) rfl rfl (wu_x hm12 wu_addw)) <| TL_mv 1 [(0, uv a0), (1, uv a1), (7, uv m2), (9, uv m4), (12, uv m12), (13, uv m10)] rfl fun rest => TL_nil <| T_seq <| T_region <| TL_mv 2 [(0, uv a0), (1, uv a1), (12, uv m12), (13, uv m10), (40, uv m2), (41, uv m4)] rfl fun rest => ?_
 obtain ⟨m13, hm13, H⟩ := nm_s H
 refine TL_val rfl rfl (r_mul (c := ((m13 : Nat) : Int)) rfl rfl (wu_x hm13 wu_mulw)) <| TL_mv 1 [(0, uv a0), (1, uv a1), (12, uv m12), (42, uv m13), (43, uv m10)] rfl fun rest => ?_
 obtain ⟨m14, hm14, H⟩ := nm_s H
 refine TL_val rfl rfl (r_add (c := ((m14 : Nat) : Int)) rfl rfl (wu_x hm14 wu_addw)) <| TL_mv 1 [(0, uv a0), (1, uv a1), (44, uv m14), (45, uv m12)] rfl fun rest => ?_
 obtain ⟨m15, hm15, H⟩ := nm_s H
 refine TL_val rfl rfl (r_shr (c := ((m15 : Nat) : Int)) rfl rfl (by decide) (wu_y hm15 (n_shr_u (a := m12)))) ?_
 obtain ⟨m16, hm16, H⟩ := nm_s H
 refine TL_val rfl rfl (r_add (c := ((m16 : Nat) : Int)) rfl rfl (wu_x hm16 wu_addw)) <| TL_mv 1 [(0, uv a0), (1, uv a1), (4, uv m16)] rfl fun rest => TL_nil <| T_seq <| T_region <| TL_mv 2 [(4, uv m16), (48, uv a0), (49, uv a1)] rfl fun rest => ?_
 obtain ⟨m17, hm17, H⟩ := nm_s H
 refine TL_val rfl rfl (r_mul (c := ((m17 : Nat) : Int)) rfl rfl (wu_x hm17 wu_mulw)) <| TL_mv 1 [(4, uv m16), (5, uv m17)] rfl fun rest => TL_nil <| T_ret ?_
 obtain ⟨rfl, rfl⟩ := inj2 H
 exact Ret2 (t := 4) (t' := 5) (ts := []) () Tryz.results259 rfl (And.intro (eq_mod_r hm16) (eq_mod_r hm17)) (fun S w h => trivial)
set_option maxRecDepth 100000 in
set_option maxHeartbeats 1000000 in
theorem c_nat_row_1 (fu : Nat) (a0 : Int) (qa0 : InR a0) (a1 : Nat) (qa1 : InU a1) (a2 : List Nat) (va2 : Value) (a3 : Nat) (va3 : Value) (r0 : Nat) (r1 : Nat) (H : M_nat_row_1 fu a0 a1 a2 a3 = some (r0, r1)) : Fn Tryz.prog 260 [iv a0, uv a1, va2, va3].toArray [fP (eS eU) (a2) va2, fP eU (a3) va3] (fun _ : Unit => .tuple #[uv r0, uv r1]) (fun _ => []) (fun _ => InU r0 ∧ InU r1) := by
 unfold M_nat_row_1 at H
 refine Fn_intro Tryz.func260 rfl rfl fun we Se rest => T_seq <| T_region <| TL_mv 2 [(0, iv (a0)), (1, uv a1), (2, va2), (3, va3)] rfl fun rest => TL_nil <| T_seq ?_
 obtain ⟨j1, hj1, hlj1, H⟩ := ckI_s H
 obtain ⟨y1, hy1, H⟩ := nm_s H
 obtain ⟨⟨m1, m2⟩, he1, H⟩ := bd_s H
 refine T_draw 10 [prE (fun u : Value => u) (fun u => [fV (eS eU) (a2) u]) (fun _ => True), prE (fun _ : Unit => iv (a0)) (fun _ => []) (fun _ => InR a0), prE (fun u : Value => u) (fun u => [fP eU (y1) u]) (fun _ => True), prE (fun _ : Unit => uv y1) (fun _ => []) (fun _ => y1 < 18446744073709551616), prE (fun _ : Unit => uv a3) (fun _ => []) (fun _ => a3 < 18446744073709551616), prE (fun _ : Unit => .tuple #[uv m1, uv m2]) (fun _ => []) (fun _ => InU m1 ∧ InU m2), prE (fun _ : Unit => .tuple #[uv m1, uv m2]) (fun _ => []) (fun _ => InU m1 ∧ InU m2), prE (fun _ : Unit => uv m1) (fun _ => []) (fun _ => InU m1), prE (fun _ : Unit => uv m2) (fun _ => []) (fun _ => InU m2), prE (fun _ : Unit => uv m1) (fun _ => []) (fun _ => InU m1)] [1, 8, 19] rfl (by kernel_rfl) rfl (by kernel_rfl) ⟨?_, ?_, ?_, ?_, ?_, ?_, ?_, ?_, ?_, ?_, trivial⟩ ?_
 ·intro S w env hS hM hΓ hl
  obtain ⟨e2, _⟩ := hl
  exact ⟨fun _ => ob_E (Γ := [fP (eS eU) (a2) va2, fP eU (a3) va3]) (oe_load (e := (eS eU)) (y := a2) (e2.trans rfl) ty23 (fun S w h => h.1)) hS hM hΓ, fun hc => (by cases hc)⟩
 ·intro S w env hS hM hΓ hl
  obtain ⟨e0, _⟩ := hl
  exact ⟨fun _ => ob_VE (p := InR a0) (r_mv (e0.trans rfl)) qa0, fun hc => (by cases hc)⟩
 ·intro S w env hS hM hΓ hl
  obtain ⟨⟨u1, e12, _, f12⟩, ⟨_, e13, ho1, f13⟩, _⟩ := hl
  exact ⟨fun _ => ob_E (Γ := [fV (eS eU) (a2) u1, fP (eS eU) (a2) va2, fP eU (a3) va3]) (oe_index (e := eU) (xs := a2) (k := j1) (y := y1) e12 (e13.trans (vi hj1)) Tryz.underlying23 ty102 (getE (z := 0) hlj1 hy1) (fun S w h => h.1)) hS hM ⟨f12.1, hΓ⟩, fun hc => (by cases hc)⟩
 ·intro S w env hS hM hΓ hl
  obtain ⟨⟨p1, e14, _, f14⟩, _⟩ := hl
  exact ⟨fun _ => ob_E (Γ := [fP eU (y1) p1, fP (eS eU) (a2) va2, fP eU (a3) va3]) (oe_load_u64 (y := y1) e14 ty102 (fun S w h => h.1)) hS hM ⟨f14.1, hΓ⟩, fun hc => (by cases hc)⟩
 ·intro S w env hS hM hΓ hl
  obtain ⟨e3, _⟩ := hl
  exact ⟨fun _ => ob_E (Γ := [fP (eS eU) (a2) va2, fP eU (a3) va3]) (oe_load_u64 (y := a3) (e3.trans rfl) ty102 (fun S w h => h.2.1)) hS hM hΓ, fun hc => (by cases hc)⟩
 ·intro S w env hS hM hΓ hl
  obtain ⟨⟨_, e15, hv1, f15⟩, ⟨_, e16, hv2, f16⟩, _⟩ := hl
  exact ⟨fun _ => ob_E (Γ := [fP (eS eU) (a2) va2, fP eU (a3) va3]) (oe_call (by kernel_rfl) (c_math_bits_Mul64 fu y1 hv1 a3 hv2 m1 m2 he1) (la_cons e15 (la_cons e16 la_nil)) (fun S w h => trivial)) hS hM hΓ, fun hc => (by cases hc)⟩
 ·intro S w env hS hM hΓ hl
  obtain ⟨⟨_, e17, hk1, f17⟩, _⟩ := hl
  refine ⟨fun _ => ?_, fun hc => (by cases hc)⟩
  refine ob_VE ?_ ?_
  ·exact r_mv e17
  ·exact (And.intro hk1.1 hk1.2)
 ·intro S w env hS hM hΓ hl
  obtain ⟨⟨_, e11, ho2, f11⟩, _⟩ := hl
  exact ⟨fun _ => ob_VE (p := InU m1) (r_ex e11 rfl) ho2.1, fun hc => (by cases hc)⟩
 ·intro S w env hS hM hΓ hl
  obtain ⟨⟨_, e11, ho2, f11⟩, _⟩ := hl
  exact ⟨fun _ => ob_VE (p := InU m2) (r_ex e11 rfl) ho2.2, fun hc => (by cases hc)⟩
 ·intro S w env hS hM hΓ hl
  obtain ⟨⟨_, e18, ho3, f18⟩, _⟩ := hl
  exact ⟨fun _ => ob_VE (p := InU m1) (r_as e18) ho3, fun hc => (by cases hc)⟩
 intro S w env hS hΓ hl
 obtain ⟨e1, ⟨_, e8, ho5, f8⟩, ⟨_, e19, ho4, f19⟩, _⟩ := hl
 refine ⟨[fP (eS eU) (a2) va2, fP eU (a3) va3], [(1, uv a1), (8, uv m1), (19, uv m2)], hΓ, (agr ⟨(e1.trans rfl), e8, e19, trivial⟩), fun rest => ?_⟩
 refine TL_mv 1 [(1, uv a1), (8, uv m1), (9, uv m2)] rfl fun rest => TL_nil <| T_seq <| T_region <| TL_mv 2 [(8, uv m1), (21, uv m2), (22, uv a1)] rfl fun rest => ?_
 obtain ⟨m3, hm3, H⟩ := nm_s H
 obtain ⟨m4, hm4, H⟩ := nm_s H
 refine TL_val rfl rfl (v_2 (x := m3) (y := m4) (r_add64 (x := m2) (y := a1) (z := (0 : Nat)) Tryz.func212 xh212 rfl xn212 xf212 rfl rfl rfl (by decide)) hm3 hm4) <| TL_mv 5 [(8, uv m1), (9, uv m3), (10, uv m4)] rfl fun rest => TL_nil <| T_seq <| T_region <| TL_mv 3 [(26, uv m3), (27, uv m1), (28, uv m4)] rfl fun rest => ?_
 obtain ⟨m5, hm5, H⟩ := nm_s H
 refine TL_val rfl rfl (r_add (c := ((m5 : Nat) : Int)) rfl rfl (wu_x hm5 wu_addw)) <| TL_mv 2 [(6, uv m3), (7, uv m5)] rfl fun rest => TL_nil <| T_ret ?_
 obtain ⟨rfl, rfl⟩ := inj2 H
 exact Ret2 (t := 6) (t' := 7) (ts := []) () Tryz.results260 rfl (And.intro (eq_mod_r hm3) (eq_mod_r hm5)) (fun S w h => trivial)
set_option maxRecDepth 100000 in
set_option maxHeartbeats 1000000 in
theorem c_nat_row (fu : Nat) (a0 : List Nat) (va0 : Value) (a1 : Nat) (qa1 : InU a1) (r0 : List Nat) (H : M_nat_row fu a0 a1 = some r0) : FnG Tryz.prog 245 [va0, uv a1].toArray [] [fV (eS eU) (a0) va0] (fun u : Value => u) (fun u => [mO eU 102 u (r0)]) (fun u => []) (fun _ => True) := by
 unfold M_nat_row at H
 refine FnG_intro Tryz.func245 rfl rfl fun we Se F G rest => T_seq <| T_region <| TL_step rfl rfl (oe_box (e := (eS eU)) (z := a0) rfl (fun S w h => h.1)) fun p1 _ => TL_step rfl rfl (oe_box (e := eU) (z := a1) rfl (fun S w h => (u64_fV qa1))) fun p2 _ => TL_mv 1 [(2, p1), (3, p2)] rfl fun rest => ?_
 refine TL_nil <| T_seq <| T_region <| TL_step rfl rfl (oe_load (e := (eS eU)) (y := a0) rfl ty23 (fun S w h => h.2.1)) fun u1 _ => TL_step rfl rfl (oe_len (e := eU) (xs := a0) Tryz.underlying23 rfl (fun S w h => h.1)) fun _ hl1 => TL_val rfl rfl (r_mk (la_cons rfl (la_cons rfl la_nil))) ?_
 obtain ⟨⟨t1, m1⟩, he1, H⟩ := bd_s H
 refine TL_og rfl rfl (og_callG (F := (F)) (by kernel_rfl) (c_nat_carried fu (((a0.length : Nat) : Int)) (len_r hl1) (fun zx0 zx1 => M_nat_row_1 fu zx0 zx1 a0 a1) 260 [p1, p2] [fP (eS eU) (a0) p1, fP eU (a1) p2] (by kernel_rfl) (fun zx0 qzx0 zx1 qzx1 zy0 zy1 hh => c_nat_row_1 fu zx0 qzx0 zx1 qzx1 a0 p1 a1 p2 zy0 zy1 hh) t1 m1 he1) rfl (fun S w h => ⟨h.2.2.1, h.2.1, trivial⟩)) fun u2 hk1 => ?_
 show TL _ _ _ _ (mO eU 102 u2 (t1) :: F) (fV (eS eU) (a0) u1 :: fP eU (a1) p2 :: fP (eS eU) (a0) p1 :: fV (eS eU) (a0) va0 :: G) _ _ _ _
 refine TL_mv 5 [(5, u2), (6, uv m1)] rfl fun rest => TL_nil <| T_seq <| T_region <| TL_mv 2 [(14, u2), (15, uv m1)] rfl fun rest => TL_step rfl rfl (oe_lit (e := eU) (zs := [m1]) Tryz.underlying23 ty102 (by decide) rfl (by decide) (vs := [(0, uv m1)]) rfl (fun S w h => (by refine fill_eq eU ?_; exact ⟨fV_sz (S := S) (w := w) (u64_fV hk1), trivial⟩)) (fun S w h => (elems_one (u64_fV hk1)))) fun u3 _ => ?_
 obtain ⟨hk2, H⟩ := ck_s H
 obtain ⟨t2, ht2, H⟩ := nm_s H
 refine TL_og rfl rfl (og_append' (e := eU) (xs := t1) (ys := [m1]) 0 Tryz.underlying23 ty102 rfl (by decide) (by decide) rfl rfl rfl (fun S w h => h.1) hk2 ht2) fun w1 _ => ?_
 show TL _ _ _ _ (mO eU 102 w1 (t2) :: F) (fV (eS eU) ([m1]) u3 :: fV (eS eU) (a0) u1 :: fP eU (a1) p2 :: fP (eS eU) (a0) p1 :: fV (eS eU) (a0) va0 :: G) _ _ _ _
 refine TL_mv 1 [(4, w1)] rfl fun rest => TL_nil <| T_ret ?_
 obtain rfl := inj1 H
 intro w hw
 exact RetG (vs := [w1]) w1 Tryz.results245 (by exact ⟨rfl, trivial⟩) rfl trivial (St.weak hw (fun S w h => h.2.2.2.2.2))
set_option maxRecDepth 100000 in
set_option maxHeartbeats 1000000 in
theorem c_nat_school (fu : Nat) (a0 : List Nat) (va0 : Value) (a1 : List Nat) (va1 : Value) (r0 : List Nat) (H : M_nat_school fu a0 a1 = some r0) : FnG Tryz.prog 204 [va0, va1].toArray [] [fV (eS eU) (a0) va0, fV (eS eU) (a1) va1] (fun u : Value => u) (fun u => [mO eU 102 u (r0)]) (fun u => []) (fun _ => True) := by
 unfold M_nat_school at H
 refine FnG_intro Tryz.func204 rfl rfl fun we Se F G rest => T_seq <| T_region <| TL_mv 1 [(0, va0), (1, va1)] rfl fun rest => TL_nil <| T_seq ?_
 refine T_region <| TL_mv 1 [(0, va0), (1, va1), (11, va0)] rfl fun rest => TL_step rfl rfl (oe_len (e := eU) (xs := a0) Tryz.underlying23 rfl (fun S w h => h.1)) fun _ hl1 => TL_mv 1 [(0, va0), (1, va1), (12, iv ((a0.length : Nat) : Int)), (13, va1)] rfl fun rest => TL_step rfl rfl (oe_len (e := eU) (xs := a1) Tryz.underlying23 rfl (fun S w h => h.2.1)) fun _ hl2 => ?_
 obtain ⟨x1, hx1, hrx1, H⟩ := ck64_s H
 refine TL_val rfl rfl (r_add (c := x1) rfl rfl (w_x hx1 hrx1)) ?_
 obtain ⟨x2, hx2, hrx2, H⟩ := ck64_s H
 refine TL_val rfl rfl (r_add (c := x2) rfl rfl (w_x hx2 hrx2)) ?_
 obtain ⟨j1, hj1, H⟩ := ckN_s H
 obtain ⟨hk1, H⟩ := ck_s H
 obtain ⟨t1, ht1, H⟩ := nm_s H
 refine TL_og rfl rfl (og_make' (e := eU) (z := 0) (xs := t1) (n := j1) Tryz.underlying23 ty102 (vi hj1) (vi hj1) (by decide) hk1 (fun S w => z102 S w) ht1) fun b1 _ => ?_
 show TL _ _ _ _ (mB (rowT eU j1) 102 b1 (t1) :: F) (fV (eS eU) (a0) va0 :: fV (eS eU) (a1) va1 :: G) _ _ _ _
 refine TL_mv 1 [(0, va0), (1, va1), (5, .slice (some ⟨b1, 0, none⟩) j1 j1)] rfl fun rest => TL_nil <| T_seq <| T_seq <| T_region <| TL_mv 1 [(0, va0), (5, .slice (some ⟨b1, 0, none⟩) j1 j1), (18, va1)] rfl fun rest => ?_
 refine TL_step rfl rfl (oe_len (e := eU) (xs := a1) Tryz.underlying23 rfl (fun S w h => h.2.1)) fun _ hl3 => TL_mv 1 [(0, va0), (5, .slice (some ⟨b1, 0, none⟩) j1 j1), (18, va1), (19, iv ((a1.length : Nat) : Int)), (20, iv 0)] rfl fun rest => TL_nil <| T_block ?_
 obtain ⟨s1, hL, Hc⟩ := bd_s H
 refine T_X [(.x 0, JQ we Se (G := List Nat) (fun t5 => (⟨(mB (rowT eU j1) 102 b1 (t5) :: F), (G), [(5, .slice (some ⟨b1, 0, none⟩) j1 j1)]⟩ : Inv)) (fun t5 => t5 = s1 ∧ t5.length = j1))] ?_ ⟨?_, trivial⟩
 ·refine T_loop_s (G := Nat × Int × (List Nat)) (s1 := _) (f := _) (k := fun (n1, i3, t4) => n1) (σ := fun (n1, i3, t4) => (i3, t4)) (fun (n1, i3, t4) => (⟨(mB (rowT eU j1) 102 b1 (t4) :: F), (fV (eS eU) (a0) va0 :: fV (eS eU) (a1) va1 :: G), [(0, va0), (5, .slice (some ⟨b1, 0, none⟩) j1 j1), (18, va1), (19, iv ((a1.length : Nat) : Int)), (20, iv (i3))]⟩ : Inv)) (fun (n1, i3, t4) => InR i3 ∧ t4.length = j1) (fu, 0, t1) hL (And.intro (show InR (0) by decide) (rep_len ht1)) rfl (fun w h => St.weak h (fun S w h => ⟨h.1, h.2.1, h.2.2⟩)) ?_
  rintro ⟨n1, i3, t4⟩ ⟨H, hr3, hz3⟩ rest
  rcases n1 with _ | n1
  ·exact (loopN_z H).elim
  replace H := loopN_s H
  unfold B_nat_school_0 at H
  refine T_prune [(0, va0), (5, .slice (some ⟨b1, 0, none⟩) j1 j1), (18, va1), (19, iv ((a1.length : Nat) : Int)), (20, iv (i3))] rfl fun rest => T_weak (mB (rowT eU j1) 102 b1 (t4) :: F) (fV (eS eU) (a0) va0 :: fV (eS eU) (a1) va1 :: G) (fun w h => h) <| T_seq ?_
  obtain ⟨s2, hL, Hc⟩ := bd_s H
  refine T_X [(.n, JQ we Se (G := Bool) (fun b2 => (⟨(mB (rowT eU j1) 102 b1 (t4) :: F), (fV (eS eU) (a0) va0 :: fV (eS eU) (a1) va1 :: G), [(0, va0), (5, .slice (some ⟨b1, 0, none⟩) j1 j1), (18, va1), (19, iv ((a1.length : Nat) : Int)), (20, iv (i3)), (21, .bool (b2))]⟩ : Inv)) (fun b2 => b2 = s2))] ?_ ⟨?_, trivial⟩
  ·replace H := hL
   refine T_region <| TL_lss rfl rfl rfl rfl (fun h1 => ?_) (fun h1 => ?_)
   ·replace H := if_t h1 H
    refine TL_mv 0 [(0, va0), (5, .slice (some ⟨b1, 0, none⟩) j1 j1), (18, va1), (19, iv ((a1.length : Nat) : Int)), (20, iv (i3)), (21, .bool true)] rfl fun rest => TL_nil ?_
    exact JQ_mk true (Option.some.inj H) rfl (fun w h => St.weak h (fun S w h => ⟨h.1, h.2.1, h.2.2⟩))
   replace H := if_f h1 H
   refine TL_mv 0 [(0, va0), (5, .slice (some ⟨b1, 0, none⟩) j1 j1), (18, va1), (19, iv ((a1.length : Nat) : Int)), (20, iv (i3)), (21, .bool false)] rfl fun rest => TL_nil ?_
   exact JQ_mk false (Option.some.inj H) rfl (fun w h => St.weak h (fun S w h => ⟨h.1, h.2.1, h.2.2⟩))
  refine JQ_el' ?_
  rintro b2 hs rest
  subst hs
  replace H := Hc
  clear hL
  refine JG_to (ms' := (mB (rowT eU j1) 102 b1 (t4) :: F)) (Γ' := (fV (eS eU) (a0) va0 :: fV (eS eU) (a1) va1 :: G)) (live' := [(0, va0), (5, .slice (some ⟨b1, 0, none⟩) j1 j1), (18, va1), (19, iv ((a1.length : Nat) : Int)), (20, iv (i3)), (21, .bool (b2))]) rfl <| T_seq <| T_cond (b2) rfl (fun hb1 => ?_) (fun hb1 => ?_)
  ·replace H := if_t hb1 H
   refine T_skip <| T_seq <| T_block <| T_seq <| T_region <| TL_mv 1 [(0, va0), (5, .slice (some ⟨b1, 0, none⟩) j1 j1), (18, va1), (19, iv ((a1.length : Nat) : Int)), (20, iv (i3)), (22, iv (i3))] rfl fun rest => ?_
   obtain ⟨j2, hj2, hlj2, H⟩ := ckI_s H
   obtain ⟨y1, hy1, H⟩ := nm_s H
   refine TL_step rfl rfl (oe_index (e := eU) (xs := a1) (k := j2) (y := y1) rfl (vi hj2) Tryz.underlying23 ty102 (getE (z := 0) hlj2 hy1) (fun S w h => h.2.1)) fun p1 _ => TL_step rfl rfl (oe_load_u64 (y := y1) rfl ty102 (fun S w h => h.1)) fun _ hv1 => TL_mv 2 [(0, va0), (5, .slice (some ⟨b1, 0, none⟩) j1 j1), (6, iv (i3)), (7, uv y1), (18, va1), (19, iv ((a1.length : Nat) : Int)), (20, iv (i3))] rfl fun rest => TL_nil <| T_seq <| T_region ?_
   refine TL_mv 1 [(0, va0), (5, .slice (some ⟨b1, 0, none⟩) j1 j1), (6, iv (i3)), (7, uv y1), (8, .int .u64 0), (18, va1), (19, iv ((a1.length : Nat) : Int)), (20, iv (i3))] rfl fun rest => TL_nil <| T_seq <| T_region <| TL_mv 2 [(0, va0), (5, .slice (some ⟨b1, 0, none⟩) j1 j1), (6, iv (i3)), (8, .int .u64 0), (18, va1), (19, iv ((a1.length : Nat) : Int)), (20, iv (i3)), (25, va0), (26, uv y1)] rfl fun rest => ?_
   obtain ⟨t6, he1, H⟩ := bd_s H
   refine TL_og rfl rfl (og_callG (F := (mB (rowT eU j1) 102 b1 (t4) :: F)) (by kernel_rfl) (c_nat_row fu a0 va0 y1 hv1 t6 he1) rfl (fun S w h => ⟨h.2.1, trivial⟩)) fun u1 _ => ?_
   show TL _ _ _ _ (mO eU 102 u1 (t6) :: mB (rowT eU j1) 102 b1 (t4) :: F) (fP eU (y1) p1 :: fV (eS eU) (a0) va0 :: fV (eS eU) (a1) va1 :: G) _ _ _ _
   refine TL_step rfl rfl (oe_lenM 0 rfl Tryz.underlying23 rfl) fun _ hl4 => TL_mv 1 [(0, va0), (5, .slice (some ⟨b1, 0, none⟩) j1 j1), (6, iv (i3)), (8, .int .u64 0), (18, va1), (19, iv ((a1.length : Nat) : Int)), (20, iv (i3)), (27, u1), (28, iv ((t6.length : Nat) : Int)), (29, iv 0)] rfl fun rest => TL_nil <| T_block ?_
   obtain ⟨s3, hL, Hc⟩ := bd_s H
   refine T_X [(.x 2, JQ we Se (G := List Nat) (fun t13 => (⟨(mB (rowT eU j1) 102 b1 (t13) :: F), (fV (eS eU) (a0) va0 :: fV (eS eU) (a1) va1 :: G), [(0, va0), (5, .slice (some ⟨b1, 0, none⟩) j1 j1), (18, va1), (19, iv ((a1.length : Nat) : Int)), (20, iv (i3))]⟩ : Inv)) (fun t13 => t13 = s3 ∧ t13.length = j1))] ?_ ⟨?_, trivial⟩
   ·refine T_loop_s (G := Nat × Nat × (List Nat) × Int × (List Nat) × Value) (s1 := _) (f := _) (k := fun (n2, d3, t12, i6, t11, w3) => n2) (σ := fun (n2, d3, t12, i6, t11, w3) => (d3, t12, i6, t11)) (fun (n2, d3, t12, i6, t11, w3) => (⟨(mO eU 102 w3 (t12) :: mB (rowT eU j1) 102 b1 (t11) :: F), (fV (eS eU) (a0) va0 :: fV (eS eU) (a1) va1 :: G), [(0, va0), (5, .slice (some ⟨b1, 0, none⟩) j1 j1), (6, iv (i3)), (8, uv d3), (18, va1), (19, iv ((a1.length : Nat) : Int)), (20, iv (i3)), (27, w3), (28, iv ((t6.length : Nat) : Int)), (29, iv (i6))]⟩ : Inv)) (fun (n2, d3, t12, i6, t11, w3) => InU d3 ∧ InR i6 ∧ t11.length = j1) (fu, (0 : Nat), t6, 0, t4, u1) hL (And.intro (show InU 0 by decide) (And.intro (show InR (0) by decide) hz3)) rfl (fun w h => St.weak h (fun S w h => ⟨h.2.1, h.2.2.1, h.2.2.2⟩)) ?_
    rintro ⟨n2, d3, t12, i6, t11, w3⟩ ⟨H, hr8, hr9, hz7⟩ rest
    rcases n2 with _ | n2
    ·exact (loopN_z H).elim
    replace H := loopN_s H
    unfold B_nat_school_1 at H
    refine T_prune [(0, va0), (5, .slice (some ⟨b1, 0, none⟩) j1 j1), (6, iv (i3)), (8, uv d3), (18, va1), (19, iv ((a1.length : Nat) : Int)), (20, iv (i3)), (27, w3), (28, iv ((t6.length : Nat) : Int)), (29, iv (i6))] rfl fun rest => T_weak (mO eU 102 w3 (t12) :: mB (rowT eU j1) 102 b1 (t11) :: F) (fV (eS eU) (a0) va0 :: fV (eS eU) (a1) va1 :: G) (fun w h => h) <| T_seq ?_
    obtain ⟨s4, hL, Hc⟩ := bd_s H
    refine T_X [(.n, JQ we Se (G := (List Nat) × Bool × Value) (fun (t14, b3, w4) => (⟨(mO eU 102 w4 (t14) :: mB (rowT eU j1) 102 b1 (t11) :: F), (fV (eS eU) (a0) va0 :: fV (eS eU) (a1) va1 :: G), [(0, va0), (5, .slice (some ⟨b1, 0, none⟩) j1 j1), (6, iv (i3)), (8, uv d3), (18, va1), (19, iv ((a1.length : Nat) : Int)), (20, iv (i3)), (27, w4), (28, iv ((t6.length : Nat) : Int)), (29, iv (i6)), (30, .bool (b3))]⟩ : Inv)) (fun (t14, b3, w4) => (t14, b3) = s4))] ?_ ⟨?_, trivial⟩
    ·replace H := hL
     refine T_region <| TL_lss rfl rfl rfl rfl (fun h2 => ?_) (fun h2 => ?_)
     ·replace H := if_t h2 H
      refine TL_mv 0 [(0, va0), (5, .slice (some ⟨b1, 0, none⟩) j1 j1), (6, iv (i3)), (8, uv d3), (18, va1), (19, iv ((a1.length : Nat) : Int)), (20, iv (i3)), (27, w3), (28, iv ((t6.length : Nat) : Int)), (29, iv (i6)), (30, .bool true)] rfl fun rest => TL_nil ?_
      exact JQ_mk (t12, true, w3) (Option.some.inj H) rfl (fun w h => St.weak h (fun S w h => ⟨h.1, h.2.1, h.2.2⟩))
     replace H := if_f h2 H
     refine TL_mv 0 [(0, va0), (5, .slice (some ⟨b1, 0, none⟩) j1 j1), (6, iv (i3)), (8, uv d3), (18, va1), (19, iv ((a1.length : Nat) : Int)), (20, iv (i3)), (27, w3), (28, iv ((t6.length : Nat) : Int)), (29, iv (i6)), (30, .bool false)] rfl fun rest => TL_nil ?_
     exact JQ_mk (t12, false, w3) (Option.some.inj H) rfl (fun w h => St.weak h (fun S w h => ⟨h.1, h.2.1, h.2.2⟩))
    refine JQ_el' ?_
    rintro ⟨t14, b3, w4⟩ hs rest
    subst hs
    replace H := Hc
    clear hL
    refine JG_to (ms' := (mO eU 102 w4 (t14) :: mB (rowT eU j1) 102 b1 (t11) :: F)) (Γ' := (fV (eS eU) (a0) va0 :: fV (eS eU) (a1) va1 :: G)) (live' := [(0, va0), (5, .slice (some ⟨b1, 0, none⟩) j1 j1), (6, iv (i3)), (8, uv d3), (18, va1), (19, iv ((a1.length : Nat) : Int)), (20, iv (i3)), (27, w4), (28, iv ((t6.length : Nat) : Int)), (29, iv (i6)), (30, .bool (b3))]) rfl <| T_seq <| T_cond (b3) rfl (fun hb2 => ?_) (fun hb2 => ?_)
    ·replace H := if_t hb2 H
     refine T_skip <| T_seq <| T_block <| T_seq <| T_region <| TL_mv 1 [(0, va0), (5, .slice (some ⟨b1, 0, none⟩) j1 j1), (6, iv (i3)), (8, uv d3), (18, va1), (19, iv ((a1.length : Nat) : Int)), (20, iv (i3)), (27, w4), (28, iv ((t6.length : Nat) : Int)), (29, iv (i6)), (31, iv (i6))] rfl fun rest => ?_
     obtain ⟨j3, hj3, hlj3, H⟩ := ckI_s H
     refine TL_openO 0 rfl (pos_of_lt hlj3) fun b4 cap1 hvb4 hcb4 hmb4 => ?_
     cases hvb4
     refine TL_val rfl rfl (r_index Tryz.underlying23 ty102 rfl (vi hj3) (k := j3) hlj3) ?_
     obtain ⟨y2, hy2, H⟩ := nm_s H
     refine TL_step rfl rfl (oe_loadM_u64 (z' := y2) 0 rfl rfl (Sub.rowT0 eU cap1 (t14) j3 _ (getE (z := 0) (lt_of_len' hlj3 rfl) hy2)) ty102) fun _ hv2 => TL_mv 2 [(0, va0), (5, .slice (some ⟨b1, 0, none⟩) j1 j1), (6, iv (i3)), (8, uv d3), (9, iv (i6)), (10, uv y2), (18, va1), (19, iv ((a1.length : Nat) : Int)), (20, iv (i3)), (27, .slice (some ⟨b4, 0, none⟩) t14.length cap1), (28, iv ((t6.length : Nat) : Int)), (29, iv (i6))] rfl fun rest => TL_nil <| T_region <| TL_mv 3 [(0, va0), (5, .slice (some ⟨b1, 0, none⟩) j1 j1), (6, iv (i3)), (8, uv d3), (9, iv (i6)), (10, uv y2), (18, va1), (19, iv ((a1.length : Nat) : Int)), (20, iv (i3)), (27, .slice (some ⟨b4, 0, none⟩) t14.length cap1), (28, iv ((t6.length : Nat) : Int)), (29, iv (i6)), (35, .slice (some ⟨b1, 0, none⟩) j1 j1), (36, iv (i3)), (37, iv (i6))] rfl fun rest => ?_
     obtain ⟨x3, hx3, hrx3, H⟩ := ck64_s H
     refine TL_val rfl rfl (r_add (c := x3) rfl rfl (w_x hx3 hrx3)) <| TL_mv 3 [(0, va0), (5, .slice (some ⟨b1, 0, none⟩) j1 j1), (6, iv (i3)), (8, uv d3), (10, uv y2), (18, va1), (19, iv ((a1.length : Nat) : Int)), (20, iv (i3)), (27, .slice (some ⟨b4, 0, none⟩) t14.length cap1), (28, iv ((t6.length : Nat) : Int)), (29, iv (i6)), (35, .slice (some ⟨b1, 0, none⟩) j1 j1), (38, iv (x3)), (39, .slice (some ⟨b1, 0, none⟩) j1 j1), (40, iv (i3)), (41, iv (i6))] rfl fun rest => ?_
     obtain ⟨x4, hx4, hrx4, H⟩ := ck64_s H
     refine TL_val rfl rfl (r_add (c := x4) rfl rfl (w_x hx4 hrx4)) ?_
     obtain ⟨j4, hj4, hlj4, H⟩ := ckI_s H
     refine TL_val rfl rfl (r_index Tryz.underlying23 ty102 rfl (vi hj4) (k := j4) (lt_of_len hlj4 hz7)) ?_
     obtain ⟨y3, hy3, H⟩ := nm_s H
     refine TL_step rfl rfl (oe_loadM_u64 (z' := y3) 1 rfl rfl (Sub.rowT0 eU j1 (t11) j4 _ (getE (z := 0) (lt_of_len' (lt_of_len hlj4 hz7) hz7) hy3)) ty102) fun _ hv3 => TL_mv 2 [(0, va0), (5, .slice (some ⟨b1, 0, none⟩) j1 j1), (6, iv (i3)), (18, va1), (19, iv ((a1.length : Nat) : Int)), (20, iv (i3)), (27, .slice (some ⟨b4, 0, none⟩) t14.length cap1), (28, iv ((t6.length : Nat) : Int)), (29, iv (i6)), (35, .slice (some ⟨b1, 0, none⟩) j1 j1), (38, iv (x3)), (44, uv y3), (45, uv y2), (46, uv d3)] rfl fun rest => ?_
     obtain ⟨hk2, H⟩ := ck_s H
     obtain ⟨m1, hm1, H⟩ := nm_s H
     obtain ⟨m2, hm2, H⟩ := nm_s H
     refine TL_val rfl rfl (v_2 (x := m1) (y := m2) (r_add64 (x := y3) (y := y2) (z := d3) Tryz.func212 xh212 rfl xn212 xf212 rfl rfl rfl hk2) hm1 hm2) <| TL_mv 3 [(0, va0), (5, .slice (some ⟨b1, 0, none⟩) j1 j1), (6, iv (i3)), (18, va1), (19, iv ((a1.length : Nat) : Int)), (20, iv (i3)), (27, .slice (some ⟨b4, 0, none⟩) t14.length cap1), (28, iv ((t6.length : Nat) : Int)), (29, iv (i6)), (35, .slice (some ⟨b1, 0, none⟩) j1 j1), (38, iv (x3)), (48, uv m1), (49, uv m2)] rfl fun rest => ?_
     obtain ⟨j5, hj5, hlj5, H⟩ := ckI_s H
     refine TL_val rfl rfl (r_index Tryz.underlying23 ty102 rfl (vi hj5) (k := j5) (lt_of_len hlj5 hz7)) ?_
     obtain ⟨t15, ht15, H⟩ := nm_s H
     refine TL_og rfl rfl (og_store' (f := eU) (y' := m1) (z2 := t15) 1 rfl rfl rfl (Sub.rowT0 eU j1 (t11) j5 _ (getD_some 0 (lt_of_len' (lt_of_len hlj5 hz7) hz7))) ty102 (fun S w h => (u64_fV (eq_mod_r hm1))) ht15) fun _ _ => ?_
     show TL _ _ _ _ (mB (rowT eU cap1) 102 b4 (t14) :: mB (rowT eU j1) 102 b1 (t15) :: F) (fV (eS eU) (a0) va0 :: fV (eS eU) (a1) va1 :: G) _ _ _ _
     refine TL_mv 1 [(0, va0), (5, .slice (some ⟨b1, 0, none⟩) j1 j1), (6, iv (i3)), (8, uv m2), (18, va1), (19, iv ((a1.length : Nat) : Int)), (20, iv (i3)), (27, .slice (some ⟨b4, 0, none⟩) t14.length cap1), (28, iv ((t6.length : Nat) : Int)), (29, iv (i6))] rfl fun rest => TL_nil <| T_region ?_
     obtain ⟨x5, hx5, hrx5, H⟩ := ck64_s H
     refine TL_val rfl rfl (r_add (c := x5) rfl rfl (w_x hx5 hrx5)) <| TL_mv 1 [(0, va0), (5, .slice (some ⟨b1, 0, none⟩) j1 j1), (6, iv (i3)), (8, uv m2), (18, va1), (19, iv ((a1.length : Nat) : Int)), (20, iv (i3)), (27, .slice (some ⟨b4, 0, none⟩) t14.length cap1), (28, iv ((t6.length : Nat) : Int)), (29, iv (x5))] rfl fun rest => TL_nil <| T_weak_st (fun w h => close_all 0 h rfl rfl hcb4 hmb4) ?_
     exact St_round_s (n2, m2, t14, x5, t15, (.slice (some ⟨b4, 0, none⟩) t14.length cap1 : Value)) H (And.intro (add64_r hv3 hv2 hk2 hm2) (And.intro hrx5 (set_len ht15 hz7))) (Nat.lt_succ_self _) rfl (fun w h => St.weak h (fun S w h => ⟨h.1, h.2.1, h.2.2⟩))
    replace H := ifb_f hb2 H
    refine T_exit ?_
    exact JQ_mk t11 (And.intro (Option.some.inj H) hz7) rfl (fun w h => St.weak (St.drop (i := 0) h) (fun S w h => ⟨h.1, h.2.1, h.2.2⟩))
   refine JQ_el' ?_
   rintro t13 ⟨hs, hz8⟩ rest
   subst hs
   replace H := Hc
   clear hL
   refine JG_to (ms' := (mB (rowT eU j1) 102 b1 (t13) :: F)) (Γ' := (fV (eS eU) (a0) va0 :: fV (eS eU) (a1) va1 :: G)) (live' := [(0, va0), (5, .slice (some ⟨b1, 0, none⟩) j1 j1), (18, va1), (19, iv ((a1.length : Nat) : Int)), (20, iv (i3))]) rfl <| T_region ?_
   obtain ⟨x6, hx6, hrx6, H⟩ := ck64_s H
   refine TL_val rfl rfl (r_add (c := x6) rfl rfl (w_x hx6 hrx6)) <| TL_mv 1 [(0, va0), (5, .slice (some ⟨b1, 0, none⟩) j1 j1), (18, va1), (19, iv ((a1.length : Nat) : Int)), (20, iv (x6))] rfl fun rest => TL_nil ?_
   exact St_round_s (n1, x6, t13) H (And.intro hrx6 hz8) (Nat.lt_succ_self _) rfl (fun w h => St.weak h (fun S w h => ⟨h.1, h.2.1, h.2.2⟩))
  replace H := ifb_f hb1 H
  refine T_exit ?_
  exact JQ_mk t4 (And.intro (Option.some.inj H) hz3) rfl (fun w h => St.weak h (fun S w h => h.2.2))
 refine JQ_el' ?_
 rintro t5 ⟨hs, hz4⟩ rest
 subst hs
 replace H := Hc
 clear hL
 refine JG_to (ms' := (mB (rowT eU j1) 102 b1 (t5) :: F)) (Γ' := (G)) (live' := [(5, .slice (some ⟨b1, 0, none⟩) j1 j1)]) rfl <| T_seq <| T_region <| TL_mv 1 [(53, .slice (some ⟨b1, 0, none⟩) j1 j1)] rfl fun rest => TL_weak_st (fun w h => close_all 0 h rfl hz4 (Nat.le_refl _) (mk_le (B := 8) (by decide) hk1)) ?_
 show TL _ _ _ _ (mO eU 102 ((.slice (some ⟨b1, 0, none⟩) j1 j1)) (t5) :: F) _ _ _ _ _
 obtain ⟨t16, he2, H⟩ := bd_s H
 refine TL_og rfl rfl (og_callG (F := (F)) (by kernel_rfl) (c_nat_plain_own fu t5 ((.slice (some ⟨b1, 0, none⟩) j1 j1)) t16 he2) rfl (fun S w h => trivial)) fun u2 _ => ?_
 show TL _ _ _ _ (mO eU 102 u2 (t16) :: F) (G) _ _ _ _
 refine TL_mv 1 [(4, u2)] rfl fun rest => TL_nil <| T_ret ?_
 obtain rfl := inj1 H
 intro w hw
 exact RetG (vs := [u2]) u2 Tryz.results204 (by exact ⟨rfl, trivial⟩) rfl trivial (St.weak hw (fun S w h => h))
set_option maxRecDepth 100000 in
set_option maxHeartbeats 1000000 in
theorem c_nat_Mul : ∀ (fu : Nat) (a0 : List Nat) (va0 : Value) (a1 : List Nat) (va1 : Value) (r0 : List Nat) (H : M_nat_Mul fu a0 a1 = some r0), FnG Tryz.prog 149 [va0, va1].toArray [] [fV (eS eU) (a0) va0, fV (eS eU) (a1) va1] (fun u : Value => u) (fun u => [mO eU 102 u (r0)]) (fun u => []) (fun _ => True) := by
 intro fu
 induction fu with
 | zero => intro a0 va0 a1 va1 r0 H; cases H
 | succ fu ih =>
  intro a0 va0 a1 va1 r0 H
  unfold M_nat_Mul at H
  refine FnG_intro Tryz.func149 rfl rfl fun we Se F G rest => T_seq <| T_region <| TL_mv 1 [(0, va0), (1, va1)] rfl fun rest => TL_nil <| T_seq ?_
  refine T_region <| TL_mv 1 [(1, va1), (13, va0)] rfl fun rest => ?_
  obtain ⟨t1, he1, H⟩ := bd_s H
  refine TL_step rfl rfl (oe_call (by kernel_rfl) (c_nat_plain fu a0 va0 t1 he1) rfl (fun S w h => ⟨h.1, trivial⟩)) fun u1 _ => TL_mv 1 [(14, u1), (15, va1)] rfl fun rest => ?_
  obtain ⟨t2, he2, H⟩ := bd_s H
  refine TL_step rfl rfl (oe_call (by kernel_rfl) (c_nat_plain fu a1 va1 t2 he2) rfl (fun S w h => ⟨h.2.2.1, trivial⟩)) fun u2 _ => TL_mv 2 [(0, u1), (1, u2)] rfl fun rest => TL_nil <| T_seq <| T_seq <| T_region ?_
  refine TL_mv 1 [(0, u1), (1, u2), (17, u1)] rfl fun rest => TL_step rfl rfl (oe_len (e := eU) (xs := t1) Tryz.underlying23 rfl (fun S w h => h.2.1)) fun _ hl1 => TL_mv 1 [(0, u1), (1, u2), (18, iv ((t1.length : Nat) : Int)), (19, u2)] rfl fun rest => TL_step rfl rfl (oe_len (e := eU) (xs := t2) Tryz.underlying23 rfl (fun S w h => h.1)) fun _ hl2 => ?_
  obtain ⟨x1, hx1, H⟩ := nm_s H
  refine TL_val rfl rfl (v_i (z := x1) (r_min rfl rfl) hx1) <| TL_lss rfl rfl rfl rfl (fun h1 => ?_) (fun h1 => ?_)
  ·replace H := if_t h1 H
   refine TL_mv 0 [(0, u1), (1, u2), (22, .bool true)] rfl fun rest => TL_nil <| T_cond_true rfl <| T_seq <| T_region <| TL_mv 2 [(23, u1), (24, u2)] rfl fun rest => ?_
   obtain ⟨t3, he3, H⟩ := bd_s H
   refine TL_og rfl rfl (og_callG (F := (F)) (by kernel_rfl) (c_nat_school fu t1 u1 t2 u2 t3 he3) rfl (fun S w h => ⟨h.2.1, h.1, trivial⟩)) fun u3 _ => ?_
   show TL _ _ _ _ (mO eU 102 u3 (t3) :: F) (fV (eS eU) (t2) u2 :: fV (eS eU) (t1) u1 :: fV (eS eU) (a0) va0 :: fV (eS eU) (a1) va1 :: G) _ _ _ _
   refine TL_mv 1 [(4, u3)] rfl fun rest => TL_nil <| T_ret ?_
   obtain rfl := inj1 H
   intro w hw
   exact RetG (vs := [u3]) u3 Tryz.results149 (by exact ⟨rfl, trivial⟩) rfl trivial (St.weak hw (fun S w h => h.2.2.2.2))
  replace H := if_f h1 H
  refine TL_mv 0 [(0, u1), (1, u2), (22, .bool false)] rfl fun rest => TL_nil <| T_cond_false rfl <| T_skip <| T_seq <| T_region ?_
  refine TL_mv 1 [(0, u1), (1, u2), (26, u1)] rfl fun rest => TL_step rfl rfl (oe_len (e := eU) (xs := t1) Tryz.underlying23 rfl (fun S w h => h.2.1)) fun _ hl3 => TL_mv 1 [(0, u1), (1, u2), (27, iv ((t1.length : Nat) : Int)), (28, u2)] rfl fun rest => TL_step rfl rfl (oe_len (e := eU) (xs := t2) Tryz.underlying23 rfl (fun S w h => h.1)) fun _ hl4 => ?_
  obtain ⟨x2, hx2, H⟩ := nm_s H
  refine TL_val rfl rfl (v_i (z := x2) (r_max rfl rfl) hx2) ?_
  obtain ⟨x3, hx3, hrx3, H⟩ := ck64_s H
  refine TL_val rfl rfl (r_quo (c := x3) rfl rfl (by decide) (w_x hx3 hrx3)) <| TL_mv 1 [(0, u1), (1, u2), (5, iv (x3))] rfl fun rest => TL_nil <| T_seq ?_
  obtain ⟨x4, hx4, H⟩ := nm_s H
  obtain ⟨j1, hj1, H⟩ := ckN_s H
  obtain ⟨hk1, H⟩ := ck_s H
  obtain ⟨y1, hy1, H⟩ := nm_s H
  obtain ⟨t4, he4, H⟩ := bd_s H
  obtain ⟨x5, hx5, H⟩ := nm_s H
  obtain ⟨j2, hj2, H⟩ := ckN_s H
  obtain ⟨hk2, H⟩ := ck_s H
  obtain ⟨y2, hy2, H⟩ := nm_s H
  refine T_draw 14 [prV (u1), prE (fun _ : Unit => iv (x3)) (fun _ => []) (fun _ => InR x3), prV (u1), prE (fun _ : Unit => iv ((t1.length : Nat) : Int)) (fun _ => []) (fun _ => t1.length ≤ 9223372036854775807), prE (fun _ : Unit => iv (x4)) (fun _ => []) (fun _ => InR x4), prE (fun u : Value => u) (fun u => [fV (eS eU) (y1) u]) (fun _ => True), prE (fun u : Value => u) (fun u => [fV (eS eU) (t4) u]) (fun _ => True), prV (u1), prE (fun _ : Unit => iv (x3)) (fun _ => []) (fun _ => InR x3), prV (u1), prE (fun _ : Unit => iv ((t1.length : Nat) : Int)) (fun _ => []) (fun _ => t1.length ≤ 9223372036854775807), prE (fun _ : Unit => iv (x5)) (fun _ => []) (fun _ => InR x5), prE (fun u : Value => u) (fun u => [fV (eS eU) (y2) u]) (fun _ => True), prE (fun u : Value => u) (fun u => [fV (eS eU) (t4) u]) (fun _ => True)] [1, 5, 6, 44] rfl (by kernel_rfl) rfl (by kernel_rfl) ⟨?_, ?_, ?_, ?_, ?_, ?_, ?_, ?_, ?_, ?_, ?_, ?_, ?_, ?_, trivial⟩ ?_
  ·intro S w env hS hM hΓ hl
   obtain ⟨e0, _⟩ := hl
   exact ⟨fun _ => ob_mv (e0.trans rfl), fun hc => (by cases hc)⟩
  ·intro S w env hS hM hΓ hl
   obtain ⟨e5, _⟩ := hl
   exact ⟨fun _ => ob_VE (p := InR x3) (r_mv (e5.trans rfl)) hrx3, fun hc => (by cases hc)⟩
  ·intro S w env hS hM hΓ hl
   obtain ⟨e0, _⟩ := hl
   exact ⟨fun _ => ob_mv (e0.trans rfl), fun hc => (by cases hc)⟩
  ·intro S w env hS hM hΓ hl
   obtain ⟨e34, _⟩ := hl
   exact ⟨fun _ => ob_E (Γ := (fV (eS eU) (t2) u2 :: fV (eS eU) (t1) u1 :: fV (eS eU) (a0) va0 :: fV (eS eU) (a1) va1 :: G)) (oe_len (e := eU) (xs := t1) Tryz.underlying23 e34 (fun S w h => h.2.1)) hS hM hΓ, fun hc => (by cases hc)⟩
  ·intro S w env hS hM hΓ hl
   obtain ⟨⟨_, e33, ho1, f33⟩, ⟨_, e35, hl5, f35⟩, _⟩ := hl
   exact ⟨fun _ => ob_VE (p := InR x4) (v_i (z := x4) (r_min e33 e35) hx4) (eq_r hx4 (min_r ho1 (len_r hl5))), fun hc => (by cases hc)⟩
  ·intro S w env hS hM hΓ hl
   obtain ⟨e32, ⟨_, e36, ho2, f36⟩, _⟩ := hl
   exact ⟨fun _ => ob_E (Γ := (fV (eS eU) (t2) u2 :: fV (eS eU) (t1) u1 :: fV (eS eU) (a0) va0 :: fV (eS eU) (a1) va1 :: G)) (oe_as (oe_sliceT (e := eU) (xs := t1) (h := j1) e32 Tryz.underlying23 ty102 (e36.trans (vi hj1)) hk1 (fun S w h => h.2.1)) hy1) hS hM hΓ, fun hc => (by cases hc)⟩
  ·intro S w env hS hM hΓ hl
   obtain ⟨⟨u4, e37, _, f37⟩, _⟩ := hl
   exact ⟨fun _ => ob_E (Γ := (fV (eS eU) (y1) u4 :: fV (eS eU) (t2) u2 :: fV (eS eU) (t1) u1 :: fV (eS eU) (a0) va0 :: fV (eS eU) (a1) va1 :: G)) (oe_call (by kernel_rfl) (c_nat_plain fu y1 u4 t4 he4) (la_cons e37 la_nil) (fun S w h => ⟨h.1, trivial⟩)) hS hM ⟨f37.1, hΓ⟩, fun hc => (by cases hc)⟩
  ·intro S w env hS hM hΓ hl
   obtain ⟨e0, _⟩ := hl
   exact ⟨fun _ => ob_mv (e0.trans rfl), fun hc => (by cases hc)⟩
  ·intro S w env hS hM hΓ hl
   obtain ⟨e5, _⟩ := hl
   exact ⟨fun _ => ob_VE (p := InR x3) (r_mv (e5.trans rfl)) hrx3, fun hc => (by cases hc)⟩
  ·intro S w env hS hM hΓ hl
   obtain ⟨e0, _⟩ := hl
   exact ⟨fun _ => ob_mv (e0.trans rfl), fun hc => (by cases hc)⟩
  ·intro S w env hS hM hΓ hl
   obtain ⟨e41, _⟩ := hl
   exact ⟨fun _ => ob_E (Γ := (fV (eS eU) (t2) u2 :: fV (eS eU) (t1) u1 :: fV (eS eU) (a0) va0 :: fV (eS eU) (a1) va1 :: G)) (oe_len (e := eU) (xs := t1) Tryz.underlying23 e41 (fun S w h => h.2.1)) hS hM hΓ, fun hc => (by cases hc)⟩
  ·intro S w env hS hM hΓ hl
   obtain ⟨⟨_, e40, ho3, f40⟩, ⟨_, e42, hl6, f42⟩, _⟩ := hl
   exact ⟨fun _ => ob_VE (p := InR x5) (v_i (z := x5) (r_min e40 e42) hx5) (eq_r hx5 (min_r ho3 (len_r hl6))), fun hc => (by cases hc)⟩
  ·intro S w env hS hM hΓ hl
   obtain ⟨e39, ⟨_, e43, ho4, f43⟩, _⟩ := hl
   exact ⟨fun _ => ob_E (Γ := (fV (eS eU) (t2) u2 :: fV (eS eU) (t1) u1 :: fV (eS eU) (a0) va0 :: fV (eS eU) (a1) va1 :: G)) (oe_as (oe_sliceD (e := eU) (xs := t1) (l := j2) e39 Tryz.underlying23 ty102 (e43.trans (vi hj2)) hk2 (fun S w h => h.2.1)) hy2) hS hM hΓ, fun hc => (by cases hc)⟩
  ·intro S w env hS hM hΓ hl
   obtain ⟨⟨u5, e38, _, f38⟩, _⟩ := hl
   exact ⟨fun _ => ob_opq (r_as e38) ⟨f38.1, trivial⟩, fun hc => (by cases hc)⟩
  intro S w env hS hΓ hl
  obtain ⟨e1, e5, ⟨u7, e6, _, f6⟩, ⟨u6, e44, _, f44⟩, _⟩ := hl
  refine ⟨(fV (eS eU) (t4) u7 :: fV (eS eU) (y2) u6 :: fV (eS eU) (t2) u2 :: fV (eS eU) (t1) u1 :: fV (eS eU) (a0) va0 :: fV (eS eU) (a1) va1 :: G), [(1, u2), (5, iv (x3)), (6, u7), (44, u6)], ⟨f6.1, f44.1, hΓ⟩, (agr ⟨(e1.trans rfl), (e5.trans rfl), e6, e44, trivial⟩), fun rest => ?_⟩
  refine TL_mv 1 [(1, u2), (5, iv (x3)), (6, u7), (7, u6)] rfl fun rest => TL_nil <| T_seq ?_
  obtain ⟨x6, hx6, H⟩ := nm_s H
  obtain ⟨j3, hj3, H⟩ := ckN_s H
  obtain ⟨hk3, H⟩ := ck_s H
  obtain ⟨y3, hy3, H⟩ := nm_s H
  obtain ⟨t5, he5, H⟩ := bd_s H
  obtain ⟨x7, hx7, H⟩ := nm_s H
  obtain ⟨j4, hj4, H⟩ := ckN_s H
  obtain ⟨hk4, H⟩ := ck_s H
  obtain ⟨y4, hy4, H⟩ := nm_s H
  refine T_draw 14 [prV (u2), prE (fun _ : Unit => iv (x3)) (fun _ => []) (fun _ => InR x3), prV (u2), prE (fun _ : Unit => iv ((t2.length : Nat) : Int)) (fun _ => []) (fun _ => t2.length ≤ 9223372036854775807), prE (fun _ : Unit => iv (x6)) (fun _ => []) (fun _ => InR x6), prE (fun u : Value => u) (fun u => [fV (eS eU) (y3) u]) (fun _ => True), prE (fun u : Value => u) (fun u => [fV (eS eU) (t5) u]) (fun _ => True), prV (u2), prE (fun _ : Unit => iv (x3)) (fun _ => []) (fun _ => InR x3), prV (u2), prE (fun _ : Unit => iv ((t2.length : Nat) : Int)) (fun _ => []) (fun _ => t2.length ≤ 9223372036854775807), prE (fun _ : Unit => iv (x7)) (fun _ => []) (fun _ => InR x7), prE (fun u : Value => u) (fun u => [fV (eS eU) (y4) u]) (fun _ => True), prE (fun u : Value => u) (fun u => [fV (eS eU) (t5) u]) (fun _ => True)] [5, 6, 7, 8, 57] rfl (by kernel_rfl) rfl (by kernel_rfl) ⟨?_, ?_, ?_, ?_, ?_, ?_, ?_, ?_, ?_, ?_, ?_, ?_, ?_, ?_, trivial⟩ ?_
  ·intro S w env hS hM hΓ hl
   obtain ⟨e1, _⟩ := hl
   exact ⟨fun _ => ob_mv (e1.trans rfl), fun hc => (by cases hc)⟩
  ·intro S w env hS hM hΓ hl
   obtain ⟨e5, _⟩ := hl
   exact ⟨fun _ => ob_VE (p := InR x3) (r_mv (e5.trans rfl)) hrx3, fun hc => (by cases hc)⟩
  ·intro S w env hS hM hΓ hl
   obtain ⟨e1, _⟩ := hl
   exact ⟨fun _ => ob_mv (e1.trans rfl), fun hc => (by cases hc)⟩
  ·intro S w env hS hM hΓ hl
   obtain ⟨e47, _⟩ := hl
   exact ⟨fun _ => ob_E (Γ := (fV (eS eU) (t4) u7 :: fV (eS eU) (y2) u6 :: fV (eS eU) (t2) u2 :: fV (eS eU) (t1) u1 :: fV (eS eU) (a0) va0 :: fV (eS eU) (a1) va1 :: G)) (oe_len (e := eU) (xs := t2) Tryz.underlying23 e47 (fun S w h => h.2.2.1)) hS hM hΓ, fun hc => (by cases hc)⟩
  ·intro S w env hS hM hΓ hl
   obtain ⟨⟨_, e46, ho5, f46⟩, ⟨_, e48, hl7, f48⟩, _⟩ := hl
   exact ⟨fun _ => ob_VE (p := InR x6) (v_i (z := x6) (r_min e46 e48) hx6) (eq_r hx6 (min_r ho5 (len_r hl7))), fun hc => (by cases hc)⟩
  ·intro S w env hS hM hΓ hl
   obtain ⟨e45, ⟨_, e49, ho6, f49⟩, _⟩ := hl
   exact ⟨fun _ => ob_E (Γ := (fV (eS eU) (t4) u7 :: fV (eS eU) (y2) u6 :: fV (eS eU) (t2) u2 :: fV (eS eU) (t1) u1 :: fV (eS eU) (a0) va0 :: fV (eS eU) (a1) va1 :: G)) (oe_as (oe_sliceT (e := eU) (xs := t2) (h := j3) e45 Tryz.underlying23 ty102 (e49.trans (vi hj3)) hk3 (fun S w h => h.2.2.1)) hy3) hS hM hΓ, fun hc => (by cases hc)⟩
  ·intro S w env hS hM hΓ hl
   obtain ⟨⟨u8, e50, _, f50⟩, _⟩ := hl
   exact ⟨fun _ => ob_E (Γ := (fV (eS eU) (y3) u8 :: fV (eS eU) (t4) u7 :: fV (eS eU) (y2) u6 :: fV (eS eU) (t2) u2 :: fV (eS eU) (t1) u1 :: fV (eS eU) (a0) va0 :: fV (eS eU) (a1) va1 :: G)) (oe_call (by kernel_rfl) (c_nat_plain fu y3 u8 t5 he5) (la_cons e50 la_nil) (fun S w h => ⟨h.1, trivial⟩)) hS hM ⟨f50.1, hΓ⟩, fun hc => (by cases hc)⟩
  ·intro S w env hS hM hΓ hl
   obtain ⟨e1, _⟩ := hl
   exact ⟨fun _ => ob_mv (e1.trans rfl), fun hc => (by cases hc)⟩
  ·intro S w env hS hM hΓ hl
   obtain ⟨e5, _⟩ := hl
   exact ⟨fun _ => ob_VE (p := InR x3) (r_mv (e5.trans rfl)) hrx3, fun hc => (by cases hc)⟩
  ·intro S w env hS hM hΓ hl
   obtain ⟨e1, _⟩ := hl
   exact ⟨fun _ => ob_mv (e1.trans rfl), fun hc => (by cases hc)⟩
  ·intro S w env hS hM hΓ hl
   obtain ⟨e54, _⟩ := hl
   exact ⟨fun _ => ob_E (Γ := (fV (eS eU) (t4) u7 :: fV (eS eU) (y2) u6 :: fV (eS eU) (t2) u2 :: fV (eS eU) (t1) u1 :: fV (eS eU) (a0) va0 :: fV (eS eU) (a1) va1 :: G)) (oe_len (e := eU) (xs := t2) Tryz.underlying23 e54 (fun S w h => h.2.2.1)) hS hM hΓ, fun hc => (by cases hc)⟩
  ·intro S w env hS hM hΓ hl
   obtain ⟨⟨_, e53, ho7, f53⟩, ⟨_, e55, hl8, f55⟩, _⟩ := hl
   exact ⟨fun _ => ob_VE (p := InR x7) (v_i (z := x7) (r_min e53 e55) hx7) (eq_r hx7 (min_r ho7 (len_r hl8))), fun hc => (by cases hc)⟩
  ·intro S w env hS hM hΓ hl
   obtain ⟨e52, ⟨_, e56, ho8, f56⟩, _⟩ := hl
   exact ⟨fun _ => ob_E (Γ := (fV (eS eU) (t4) u7 :: fV (eS eU) (y2) u6 :: fV (eS eU) (t2) u2 :: fV (eS eU) (t1) u1 :: fV (eS eU) (a0) va0 :: fV (eS eU) (a1) va1 :: G)) (oe_as (oe_sliceD (e := eU) (xs := t2) (l := j4) e52 Tryz.underlying23 ty102 (e56.trans (vi hj4)) hk4 (fun S w h => h.2.2.1)) hy4) hS hM hΓ, fun hc => (by cases hc)⟩
  ·intro S w env hS hM hΓ hl
   obtain ⟨⟨u9, e51, _, f51⟩, _⟩ := hl
   exact ⟨fun _ => ob_opq (r_as e51) ⟨f51.1, trivial⟩, fun hc => (by cases hc)⟩
  intro S w env hS hΓ hl
  obtain ⟨e5, e6, e7, ⟨u11, e8, _, f8⟩, ⟨u10, e57, _, f57⟩, _⟩ := hl
  refine ⟨(fV (eS eU) (t5) u11 :: fV (eS eU) (y4) u10 :: fV (eS eU) (t4) u7 :: fV (eS eU) (y2) u6 :: fV (eS eU) (t2) u2 :: fV (eS eU) (t1) u1 :: fV (eS eU) (a0) va0 :: fV (eS eU) (a1) va1 :: G), [(5, iv (x3)), (6, u7), (7, u6), (8, u11), (57, u10)], ⟨f8.1, f57.1, hΓ⟩, (agr ⟨(e5.trans rfl), (e6.trans rfl), (e7.trans rfl), e8, e57, trivial⟩), fun rest => ?_⟩
  refine TL_mv 1 [(5, iv (x3)), (6, u7), (7, u6), (8, u11), (9, u10)] rfl fun rest => TL_sel (fV (eS eU) (t5) u11 :: fV (eS eU) (y4) u10 :: fV (eS eU) (t4) u7 :: fV (eS eU) (y2) u6 :: G) (fun S w h => ⟨h.1, h.2.1, h.2.2.1, h.2.2.2.1, h.2.2.2.2.2.2.2.2⟩) <| TL_nil <| T_seq <| T_region <| TL_mv 2 [(5, iv (x3)), (6, u7), (7, u6), (8, u11), (9, u10), (58, u7), (59, u11)] rfl fun rest => ?_
  obtain ⟨t6, he6, H⟩ := bd_s H
  refine TL_og rfl rfl (og_callG (F := (F)) (by kernel_rfl) (ih t4 u7 t5 u11 t6 he6) rfl (fun S w h => ⟨h.2.2.1, h.1, trivial⟩)) fun u12 _ => ?_
  show TL _ _ _ _ (mO eU 102 u12 (t6) :: F) (fV (eS eU) (t5) u11 :: fV (eS eU) (y4) u10 :: fV (eS eU) (t4) u7 :: fV (eS eU) (y2) u6 :: G) _ _ _ _
  refine TL_mv 2 [(5, iv (x3)), (6, u7), (7, u6), (8, u11), (9, u10), (60, u12), (61, u6), (62, u10)] rfl fun rest => ?_
  obtain ⟨t7, he7, H⟩ := bd_s H
  refine TL_og rfl rfl (og_callG (F := (mO eU 102 u12 (t6) :: F)) (by kernel_rfl) (ih y2 u6 y4 u10 t7 he7) rfl (fun S w h => ⟨h.2.2.2.1, h.2.1, trivial⟩)) fun u13 _ => ?_
  show TL _ _ _ _ (mO eU 102 u13 (t7) :: mO eU 102 u12 (t6) :: F) (fV (eS eU) (t5) u11 :: fV (eS eU) (y4) u10 :: fV (eS eU) (t4) u7 :: fV (eS eU) (y2) u6 :: G) _ _ _ _
  refine TL_mv 2 [(5, iv (x3)), (6, u7), (7, u6), (8, u11), (9, u10), (10, u12), (11, u13)] rfl fun rest => TL_nil <| T_seq <| T_region <| TL_mv 2 [(5, iv (x3)), (8, u11), (9, u10), (10, u12), (11, u13), (64, u7), (65, u6)] rfl fun rest => ?_
  obtain ⟨t8, he8, H⟩ := bd_s H
  refine TL_og rfl rfl (og_callG (F := (mO eU 102 u13 (t7) :: mO eU 102 u12 (t6) :: F)) (by kernel_rfl) (c_nat_Add fu t4 u7 y2 u6 t8 he8) rfl (fun S w h => ⟨h.2.2.1, h.2.2.2.1, trivial⟩)) fun u14 _ => ?_
  show TL _ _ _ _ (mO eU 102 u14 (t8) :: mO eU 102 u13 (t7) :: mO eU 102 u12 (t6) :: F) (fV (eS eU) (t5) u11 :: fV (eS eU) (y4) u10 :: fV (eS eU) (t4) u7 :: fV (eS eU) (y2) u6 :: G) _ _ _ _
  refine TL_mv 2 [(5, iv (x3)), (10, u12), (11, u13), (66, u14), (67, u11), (68, u10)] rfl fun rest => ?_
  obtain ⟨t9, he9, H⟩ := bd_s H
  refine TL_og rfl rfl (og_callG (F := (mO eU 102 u14 (t8) :: mO eU 102 u13 (t7) :: mO eU 102 u12 (t6) :: F)) (by kernel_rfl) (c_nat_Add fu t5 u11 y4 u10 t9 he9) rfl (fun S w h => ⟨h.1, h.2.1, trivial⟩)) fun u15 _ => ?_
  show TL _ _ _ _ (mO eU 102 u15 (t9) :: mO eU 102 u14 (t8) :: mO eU 102 u13 (t7) :: mO eU 102 u12 (t6) :: F) (fV (eS eU) (t5) u11 :: fV (eS eU) (y4) u10 :: fV (eS eU) (t4) u7 :: fV (eS eU) (y2) u6 :: G) _ _ _ _
  refine TL_weak_st (fun w h => fz_own 1 h rfl) <| TL_weak_st (fun w h => fz_own 0 h rfl) ?_
  obtain ⟨t10, he10, H⟩ := bd_s H
  refine TL_og rfl rfl (og_callG (F := (mO eU 102 u13 (t7) :: mO eU 102 u12 (t6) :: F)) (by kernel_rfl) (ih t8 u14 t9 u15 t10 he10) rfl (fun S w h => ⟨h.2.1, h.1, trivial⟩)) fun u16 _ => ?_
  show TL _ _ _ _ (mO eU 102 u16 (t10) :: mO eU 102 u13 (t7) :: mO eU 102 u12 (t6) :: F) (fV (eS eU) (t9) u15 :: fV (eS eU) (t8) u14 :: fV (eS eU) (t5) u11 :: fV (eS eU) (y4) u10 :: fV (eS eU) (t4) u7 :: fV (eS eU) (y2) u6 :: G) _ _ _ _
  refine TL_mv 1 [(5, iv (x3)), (10, u12), (11, u13), (70, u16), (71, u12)] rfl fun rest => TL_weak_st (fun w h => fz_own 0 h rfl) <| TL_weak_st (fun w h => fz_own 1 h rfl) ?_
  obtain ⟨t11, he11, H⟩ := bd_s H
  refine TL_og rfl rfl (og_callG (F := (mO eU 102 u13 (t7) :: F)) (by kernel_rfl) (c_nat_less fu t10 u16 t6 u12 t11 he11) rfl (fun S w h => ⟨h.2.1, h.1, trivial⟩)) fun u17 _ => ?_
  show TL _ _ _ _ (mO eU 102 u17 (t11) :: mO eU 102 u13 (t7) :: F) (fV (eS eU) (t6) u12 :: fV (eS eU) (t10) u16 :: fV (eS eU) (t9) u15 :: fV (eS eU) (t8) u14 :: fV (eS eU) (t5) u11 :: fV (eS eU) (y4) u10 :: fV (eS eU) (t4) u7 :: fV (eS eU) (y2) u6 :: G) _ _ _ _
  refine TL_mv 1 [(5, iv (x3)), (10, u12), (11, u13), (72, u17), (73, u13)] rfl fun rest => TL_weak_st (fun w h => fz_own 0 h rfl) <| TL_weak_st (fun w h => fz_own 0 h rfl) ?_
  obtain ⟨t12, he12, H⟩ := bd_s H
  refine TL_og rfl rfl (og_callG (F := (F)) (by kernel_rfl) (c_nat_less fu t11 u17 t7 u13 t12 he12) rfl (fun S w h => ⟨h.2.1, h.1, trivial⟩)) fun u18 _ => ?_
  show TL _ _ _ _ (mO eU 102 u18 (t12) :: F) (fV (eS eU) (t7) u13 :: fV (eS eU) (t11) u17 :: fV (eS eU) (t6) u12 :: fV (eS eU) (t10) u16 :: fV (eS eU) (t9) u15 :: fV (eS eU) (t8) u14 :: fV (eS eU) (t5) u11 :: fV (eS eU) (y4) u10 :: fV (eS eU) (t4) u7 :: fV (eS eU) (y2) u6 :: G) _ _ _ _
  refine TL_mv 1 [(5, iv (x3)), (10, u12), (11, u13), (12, u18)] rfl fun rest => TL_sel (fV (eS eU) (t7) u13 :: fV (eS eU) (t6) u12 :: G) (fun S w h => ⟨h.1, h.2.2.1, h.2.2.2.2.2.2.2.2.2.2⟩) <| TL_nil <| T_seq <| T_region <| TL_mv 3 [(5, iv (x3)), (11, u13), (75, u12), (76, u18), (77, iv (x3))] rfl fun rest => ?_
  refine TL_weak_st (fun w h => fz_own 0 h rfl) ?_
  obtain ⟨t13, he13, H⟩ := bd_s H
  refine TL_og rfl rfl (og_callG (F := (F)) (by kernel_rfl) (c_nat_moved fu t12 u18 x3 hrx3 t13 he13) rfl (fun S w h => ⟨h.1, trivial⟩)) fun u19 _ => ?_
  show TL _ _ _ _ (mO eU 102 u19 (t13) :: F) (fV (eS eU) (t12) u18 :: fV (eS eU) (t7) u13 :: fV (eS eU) (t6) u12 :: G) _ _ _ _
  refine TL_weak_st (fun w h => fz_own 0 h rfl) ?_
  obtain ⟨t14, he14, H⟩ := bd_s H
  refine TL_og rfl rfl (og_callG (F := (F)) (by kernel_rfl) (c_nat_Add fu t6 u12 t13 u19 t14 he14) rfl (fun S w h => ⟨h.2.2.2.1, h.1, trivial⟩)) fun u20 _ => ?_
  show TL _ _ _ _ (mO eU 102 u20 (t14) :: F) (fV (eS eU) (t13) u19 :: fV (eS eU) (t12) u18 :: fV (eS eU) (t7) u13 :: fV (eS eU) (t6) u12 :: G) _ _ _ _
  refine TL_mv 2 [(79, u20), (80, u13), (81, iv (x3))] rfl fun rest => ?_
  obtain ⟨x8, hx8, hrx8, H⟩ := ck64_s H
  refine TL_val rfl rfl (r_mul (c := x8) rfl rfl (w_x hx8 hrx8)) ?_
  obtain ⟨t15, he15, H⟩ := bd_s H
  refine TL_og rfl rfl (og_callG (F := (mO eU 102 u20 (t14) :: F)) (by kernel_rfl) (c_nat_moved fu t7 u13 x8 hrx8 t15 he15) rfl (fun S w h => ⟨h.2.2.1, trivial⟩)) fun u21 _ => ?_
  show TL _ _ _ _ (mO eU 102 u21 (t15) :: mO eU 102 u20 (t14) :: F) (fV (eS eU) (t13) u19 :: fV (eS eU) (t12) u18 :: fV (eS eU) (t7) u13 :: fV (eS eU) (t6) u12 :: G) _ _ _ _
  refine TL_weak_st (fun w h => fz_own 1 h rfl) <| TL_weak_st (fun w h => fz_own 0 h rfl) ?_
  obtain ⟨t16, he16, H⟩ := bd_s H
  refine TL_og rfl rfl (og_callG (F := (F)) (by kernel_rfl) (c_nat_Add fu t14 u20 t15 u21 t16 he16) rfl (fun S w h => ⟨h.2.1, h.1, trivial⟩)) fun u22 _ => ?_
  show TL _ _ _ _ (mO eU 102 u22 (t16) :: F) (fV (eS eU) (t15) u21 :: fV (eS eU) (t14) u20 :: fV (eS eU) (t13) u19 :: fV (eS eU) (t12) u18 :: fV (eS eU) (t7) u13 :: fV (eS eU) (t6) u12 :: G) _ _ _ _
  refine TL_mv 1 [(4, u22)] rfl fun rest => TL_nil <| T_ret ?_
  obtain rfl := inj1 H
  intro w hw
  exact RetG (vs := [u22]) u22 Tryz.results149 (by exact ⟨rfl, trivial⟩) rfl trivial (St.weak hw (fun S w h => h.2.2.2.2.2.2))
theorem z_nat_Mul (fu : Nat) (a0 : List Nat) (va0 : Value) (a1 : List Nat) (va1 : Value) (r0 : List Nat) (H : M_nat_Mul fu a0 a1 = some r0) : Fn Tryz.prog 149 [va0, va1].toArray [fV (eS eU) (a0) va0, fV (eS eU) (a1) va1] (fun u : Value => u) (fun u => [fV (eS eU) (r0) u]) (fun _ => True) :=
  FnG.frozen (c_nat_Mul fu a0 va0 a1 va1 r0 H) fun u w we Se h => (fz_own 0 h rfl)
set_option maxRecDepth 100000 in
set_option maxHeartbeats 1000000 in
theorem c_zint_Mul (fu : Nat) (a0 : Zr) (va0 : Value) (a1 : Zr) (va1 : Value) (r0 : Zr) (H : M_zint_Mul fu a0 a1 = some r0) : Fn Tryz.prog 86 [va0, va1].toArray [fV eZ (a0) va0, fV eZ (a1) va1] (fun u : Value => u) (fun u => [fV eZ (r0) u]) (fun _ => True) := by
 unfold M_zint_Mul at H
 refine Fn_intro Tryz.func86 rfl rfl fun we Se rest => T_seq <| T_region <| TL_step rfl rfl (oe_box (e := eZ) (z := a0) rfl (fun S w h => h.1)) fun p1 _ => TL_step rfl rfl (oe_box (e := eZ) (z := a1) rfl (fun S w h => h.2.2.1)) fun p2 _ => TL_og rfl rfl (og_allocM (e := ERep.c eZ) (z := (false, [])) ty25 (fun S w => z25 S w)) fun b1 _ => ?_
 show TL _ _ _ _ [mB (ERep.c eZ) 25 b1 ((false, []))] [fP eZ (a1) p2, fP eZ (a0) p1, fV eZ (a0) va0, fV eZ (a1) va1] _ _ _ _
 refine TL_mv 0 [(2, p1), (3, p2), (4, .pointer (some ⟨b1, 0, none⟩))] rfl fun rest => TL_nil <| T_seq ?_
 obtain ⟨c1, hc1, H⟩ := nm_s H
 obtain ⟨t1, he1, H⟩ := bd_s H
 refine T_draw 10 [prE (fun u : Value => u) (fun u => [fP eBool (a0.1) u]) (fun _ => True), prE (fun _ : Unit => .bool (a0.1)) (fun _ => []) (fun _ => True), prE (fun u : Value => u) (fun u => [fP eBool (a1.1) u]) (fun _ => True), prE (fun _ : Unit => .bool (a1.1)) (fun _ => []) (fun _ => True), prV (.bool (c1)), prE (fun u : Value => u) (fun u => [fP (eS eU) (a0.2) u]) (fun _ => True), prE (fun u : Value => u) (fun u => [fV (eS eU) (a0.2) u]) (fun _ => True), prE (fun u : Value => u) (fun u => [fP (eS eU) (a1.2) u]) (fun _ => True), prE (fun u : Value => u) (fun u => [fV (eS eU) (a1.2) u]) (fun _ => True), prE (fun u : Value => u) (fun u => [fV (eS eU) (t1) u]) (fun _ => True)] [4, 9, 14] rfl (by kernel_rfl) rfl (by kernel_rfl) ⟨?_, ?_, ?_, ?_, ?_, ?_, ?_, ?_, ?_, ?_, trivial⟩ ?_
 ·intro S w env hS hM hΓ hl
  obtain ⟨e2, _⟩ := hl
  exact ⟨fun _ => ob_E (Γ := [fP eZ (a1) p2, fP eZ (a0) p1, fV eZ (a0) va0, fV eZ (a1) va1]) (oe_field (e := eZ) (z := a0) fl25_0 (e2.trans rfl) (Sub.fst eBool (eS eU) (a0)) (fun S w h => h.2.1)) hS hM hΓ, fun hc => (by cases hc)⟩
 ·intro S w env hS hM hΓ hl
  obtain ⟨⟨p3, e5, _, f5⟩, _⟩ := hl
  exact ⟨fun _ => ob_E (Γ := [fP eBool (a0.1) p3, fP eZ (a1) p2, fP eZ (a0) p1, fV eZ (a0) va0, fV eZ (a1) va1]) (oe_load_bool (y := a0.1) e5 ty4 (fun S w h => h.1)) hS hM ⟨f5.1, hΓ⟩, fun hc => (by cases hc)⟩
 ·intro S w env hS hM hΓ hl
  obtain ⟨e3, _⟩ := hl
  exact ⟨fun _ => ob_E (Γ := [fP eZ (a1) p2, fP eZ (a0) p1, fV eZ (a0) va0, fV eZ (a1) va1]) (oe_field (e := eZ) (z := a1) fl25_0 (e3.trans rfl) (Sub.fst eBool (eS eU) (a1)) (fun S w h => h.1)) hS hM hΓ, fun hc => (by cases hc)⟩
 ·intro S w env hS hM hΓ hl
  obtain ⟨⟨p4, e7, _, f7⟩, _⟩ := hl
  exact ⟨fun _ => ob_E (Γ := [fP eBool (a1.1) p4, fP eZ (a1) p2, fP eZ (a0) p1, fV eZ (a0) va0, fV eZ (a1) va1]) (oe_load_bool (y := a1.1) e7 ty4 (fun S w h => h.1)) hS hM ⟨f7.1, hΓ⟩, fun hc => (by cases hc)⟩
 ·intro S w env hS hM hΓ hl
  obtain ⟨⟨_, e6, _, f6⟩, ⟨_, e8, _, f8⟩, _⟩ := hl
  exact ⟨fun _ => ob_V (v_bool (z := c1) (r_bne Tryz.underlying4 e6 e8) hc1), fun hc => (by cases hc)⟩
 ·intro S w env hS hM hΓ hl
  obtain ⟨e2, _⟩ := hl
  exact ⟨fun _ => ob_E (Γ := [fP eZ (a1) p2, fP eZ (a0) p1, fV eZ (a0) va0, fV eZ (a1) va1]) (oe_field (e := eZ) (z := a0) fl25_1 (e2.trans rfl) (Sub.snd eBool (eS eU) (a0)) (fun S w h => h.2.1)) hS hM hΓ, fun hc => (by cases hc)⟩
 ·intro S w env hS hM hΓ hl
  obtain ⟨⟨p5, e10, _, f10⟩, _⟩ := hl
  exact ⟨fun _ => ob_E (Γ := [fP (eS eU) (a0.2) p5, fP eZ (a1) p2, fP eZ (a0) p1, fV eZ (a0) va0, fV eZ (a1) va1]) (oe_load (e := (eS eU)) (y := a0.2) e10 ty23 (fun S w h => h.1)) hS hM ⟨f10.1, hΓ⟩, fun hc => (by cases hc)⟩
 ·intro S w env hS hM hΓ hl
  obtain ⟨e3, _⟩ := hl
  exact ⟨fun _ => ob_E (Γ := [fP eZ (a1) p2, fP eZ (a0) p1, fV eZ (a0) va0, fV eZ (a1) va1]) (oe_field (e := eZ) (z := a1) fl25_1 (e3.trans rfl) (Sub.snd eBool (eS eU) (a1)) (fun S w h => h.1)) hS hM hΓ, fun hc => (by cases hc)⟩
 ·intro S w env hS hM hΓ hl
  obtain ⟨⟨p6, e12, _, f12⟩, _⟩ := hl
  exact ⟨fun _ => ob_E (Γ := [fP (eS eU) (a1.2) p6, fP eZ (a1) p2, fP eZ (a0) p1, fV eZ (a0) va0, fV eZ (a1) va1]) (oe_load (e := (eS eU)) (y := a1.2) e12 ty23 (fun S w h => h.1)) hS hM ⟨f12.1, hΓ⟩, fun hc => (by cases hc)⟩
 ·intro S w env hS hM hΓ hl
  obtain ⟨⟨u1, e11, _, f11⟩, ⟨u2, e13, _, f13⟩, _⟩ := hl
  exact ⟨fun _ => ob_E (Γ := [fV (eS eU) (a0.2) u1, fV (eS eU) (a1.2) u2, fP eZ (a1) p2, fP eZ (a0) p1, fV eZ (a0) va0, fV eZ (a1) va1]) (oe_call (by kernel_rfl) (z_nat_Mul fu a0.2 u1 a1.2 u2 t1 he1) (la_cons e11 (la_cons e13 la_nil)) (fun S w h => ⟨h.1, h.2.1, trivial⟩)) hS hM ⟨f11.1, f13.1, hΓ⟩, fun hc => (by cases hc)⟩
 intro S w env hS hΓ hl
 obtain ⟨e4, e9, ⟨u3, e14, _, f14⟩, _⟩ := hl
 refine ⟨[fV (eS eU) (t1) u3, fP eZ (a1) p2, fP eZ (a0) p1, fV eZ (a0) va0, fV eZ (a1) va1], [(4, .pointer (some ⟨b1, 0, none⟩)), (9, .bool (c1)), (14, u3)], ⟨f14.1, hΓ⟩, (agr ⟨(e4.trans rfl), e9, e14, trivial⟩), fun rest => ?_⟩
 obtain ⟨t2, he2, H⟩ := bd_s H
 refine TL_step rfl rfl (oe_call (by kernel_rfl) (c_zint_made fu c1 t1 u3 t2 he2) rfl (fun S w h => ⟨h.1, trivial⟩)) fun u4 _ => TL_og rfl rfl (og_store' (f := eZ) (y' := t2) (z2 := t2) 0 rfl rfl rfl (Sub.self eZ ((false, []))) ty25 (fun S w h => h.1) rfl) fun _ _ => ?_
 show TL _ _ _ _ [mB (ERep.c eZ) 25 b1 (t2)] [fV eZ (t2) u4, fV (eS eU) (t1) u3, fP eZ (a1) p2, fP eZ (a0) p1, fV eZ (a0) va0, fV eZ (a1) va1] _ _ _ _
 refine TL_mv 0 [(4, .pointer (some ⟨b1, 0, none⟩))] rfl fun rest => TL_nil <| T_ret ?_
 obtain rfl := inj1 H
 intro w hw
 change RetQ _ _ _ _ _ _ _ .ret _ w
 refine Ret_cN (e := eZ) (z := t2) 4 0 hw rfl (by exact rfl) ty25 fun r_1 hw hr_1 => ?_
 exact RetN (vs := [r_1]) r_1 Tryz.results86 (by exact ⟨hr_1, trivial⟩) rfl trivial hw (fun S w h => ⟨h.1, trivial⟩)
set_option maxRecDepth 100000 in
set_option maxHeartbeats 1000000 in
theorem c_zint_Norm (fu : Nat) (a0 : Zr) (va0 : Value) (r0 : Zr) (H : M_zint_Norm fu a0 = some r0) : Fn Tryz.prog 96 [va0].toArray [fV eZ (a0) va0] (fun u : Value => u) (fun u => [fV eZ (r0) u]) (fun _ => True) := by
 unfold M_zint_Norm at H
 refine Fn_intro Tryz.func96 rfl rfl fun we Se rest => T_seq <| T_region <| TL_step rfl rfl (oe_box (e := eZ) (z := a0) rfl (fun S w h => h.1)) fun p1 _ => TL_og rfl rfl (og_allocM (e := ERep.c eZ) (z := (false, [])) ty25 (fun S w => z25 S w)) fun b1 _ => ?_
 show TL _ _ _ _ [mB (ERep.c eZ) 25 b1 ((false, []))] [fP eZ (a0) p1, fV eZ (a0) va0] _ _ _ _
 refine TL_mv 0 [(1, p1), (2, .pointer (some ⟨b1, 0, none⟩))] rfl fun rest => TL_nil <| T_seq <| T_region <| TL_step rfl rfl (oe_field (e := eZ) (z := a0) fl25_0 rfl (Sub.fst eBool (eS eU) (a0)) (fun S w h => h.1)) fun p2 _ => TL_step rfl rfl (oe_load_bool (y := a0.1) rfl ty4 (fun S w h => h.1)) fun _ _ => ?_
 refine TL_step rfl rfl (oe_field (e := eZ) (z := a0) fl25_1 rfl (Sub.snd eBool (eS eU) (a0)) (fun S w h => h.2.1)) fun p3 _ => TL_step rfl rfl (oe_load (e := (eS eU)) (y := a0.2) rfl ty23 (fun S w h => h.1)) fun u1 _ => ?_
 obtain ⟨t1, he1, H⟩ := bd_s H
 refine TL_step rfl rfl (oe_call (by kernel_rfl) (c_zint_made fu a0.1 a0.2 u1 t1 he1) rfl (fun S w h => ⟨h.1, trivial⟩)) fun u2 _ => TL_og rfl rfl (og_store' (f := eZ) (y' := t1) (z2 := t1) 0 rfl rfl rfl (Sub.self eZ ((false, []))) ty25 (fun S w h => h.1) rfl) fun _ _ => ?_
 show TL _ _ _ _ [mB (ERep.c eZ) 25 b1 (t1)] [fV eZ (t1) u2, fV (eS eU) (a0.2) u1, fP (eS eU) (a0.2) p3, fP eBool (a0.1) p2, fP eZ (a0) p1, fV eZ (a0) va0] _ _ _ _
 refine TL_mv 0 [(2, .pointer (some ⟨b1, 0, none⟩))] rfl fun rest => TL_nil <| T_ret ?_
 obtain rfl := inj1 H
 intro w hw
 change RetQ _ _ _ _ _ _ _ .ret _ w
 refine Ret_cN (e := eZ) (z := t1) 2 0 hw rfl (by exact rfl) ty25 fun r_1 hw hr_1 => ?_
 exact RetN (vs := [r_1]) r_1 Tryz.results96 (by exact ⟨hr_1, trivial⟩) rfl trivial hw (fun S w h => ⟨h.1, trivial⟩)
end Go.Proofs.YtjnjfinbdfolkaaGreat
end

section
set_option linter.unusedVariables false
set_option linter.unusedSimpArgs false
namespace Go.Proofs.YtjnjfinbdfolkaaGreat
set_option maxRecDepth 100000 in
set_option maxHeartbeats 1000000 in
theorem c_zint_Pow (fu : Nat) (a0 : Zr) (va0 : Value) (a1 : Int) (qa1 : InR a1) (r0 : Zr) (r1 : Int) (H : M_zint_Pow fu a0 a1 = some (r0, r1)) : Fn Tryz.prog 58 [va0, iv a1].toArray [fV eZ (a0) va0] (fun u : Value => .tuple #[u, iv (r1)]) (fun u => [fV eZ (r0) u]) (fun _ => InR r1) := by
 unfold M_zint_Pow at H
 refine Fn_intro Tryz.func58 rfl rfl fun we Se rest => T_seq <| T_region <| TL_step rfl rfl (oe_box (e := eZ) (z := a0) rfl (fun S w h => h.1)) fun p1 _ => TL_og rfl rfl (og_allocM (e := ERep.c eZ) (z := (false, [])) ty25 (fun S w => z25 S w)) fun b1 _ => ?_
 show TL _ _ _ _ [mB (ERep.c eZ) 25 b1 ((false, []))] [fP eZ (a0) p1, fV eZ (a0) va0] _ _ _ _
 refine TL_mv 1 [(1, iv (a1)), (2, p1), (4, .pointer (some ⟨b1, 0, none⟩))] rfl fun rest => TL_nil <| T_seq <| T_block <| T_seq ?_
 obtain ⟨s1, hL, Hc⟩ := bd_s H
 refine T_X [(.n, JQ we Se (G := Bool) (fun b2 => (⟨[mB (ERep.c eZ) 25 b1 ((false, []))], [fP eZ (a0) p1], [(1, iv (a1)), (2, p1), (4, .pointer (some ⟨b1, 0, none⟩)), (8, .bool (b2))]⟩ : Inv)) (fun b2 => b2 = s1))] ?_ ⟨?_, trivial⟩
 ·replace H := hL
  refine T_region <| TL_mv 1 [(1, iv (a1)), (2, p1), (4, .pointer (some ⟨b1, 0, none⟩)), (9, iv (a1))] rfl fun rest => TL_lss rfl rfl rfl rfl (fun h1 => ?_) (fun h1 => ?_)
  ·replace H := if_t h1 H
   refine TL_mv 5 [(1, iv (a1)), (2, p1), (4, .pointer (some ⟨b1, 0, none⟩)), (8, .bool true)] rfl fun rest => TL_nil ?_
   exact JQ_mk true (Option.some.inj H) rfl (fun w h => St.weak h (fun S w h => ⟨h.1, trivial⟩))
  replace H := if_f h1 H
  refine TL_mv 2 [(1, iv (a1)), (2, p1), (4, .pointer (some ⟨b1, 0, none⟩)), (11, .bool false), (12, iv (a1))] rfl fun rest => TL_gtr rfl rfl rfl rfl (fun h2 => ?_) (fun h2 => ?_)
  ·replace H := if_t h2 H
   refine TL_mv 2 [(1, iv (a1)), (2, p1), (4, .pointer (some ⟨b1, 0, none⟩)), (8, .bool true)] rfl fun rest => TL_nil ?_
   exact JQ_mk true (Option.some.inj H) rfl (fun w h => St.weak h (fun S w h => ⟨h.1, trivial⟩))
  replace H := if_f h2 H
  refine TL_mv 2 [(1, iv (a1)), (2, p1), (4, .pointer (some ⟨b1, 0, none⟩)), (8, .bool false)] rfl fun rest => TL_nil ?_
  exact JQ_mk false (Option.some.inj H) rfl (fun w h => St.weak h (fun S w h => ⟨h.1, trivial⟩))
 refine JQ_el' ?_
 rintro b2 hs rest
 subst hs
 replace H := Hc
 clear hL
 refine JG_to (ms' := [mB (ERep.c eZ) 25 b1 ((false, []))]) (Γ' := [fP eZ (a0) p1]) (live' := [(1, iv (a1)), (2, p1), (4, .pointer (some ⟨b1, 0, none⟩)), (8, .bool (b2))]) rfl <| T_cond (b2) rfl (fun hb1 => ?_) (fun hb1 => ?_)
 ·replace H := if_t hb1 H
  refine T_seq <| T_region <| TL_step rfl rfl (oe_zero (e := eZ) (z := (false, [])) ty25 rfl rfl (.inl (plz pl25)) (fun S w => z25 S w)) fun u1 _ => TL_og rfl rfl (og_store' (f := eZ) (y' := (false, [])) (z2 := (false, [])) 0 rfl rfl rfl (Sub.self eZ ((false, []))) ty25 (fun S w h => h.1) rfl) fun _ _ => ?_
  show TL _ _ _ _ [mB (ERep.c eZ) 25 b1 ((false, []))] [fV eZ ((false, [])) u1, fP eZ (a0) p1] _ _ _ _
  refine TL_mv 1 [(4, .pointer (some ⟨b1, 0, none⟩)), (5, iv 1)] rfl fun rest => TL_nil <| T_ret ?_
  obtain ⟨rfl, rfl⟩ := inj2 H
  intro w hw
  change RetQ _ _ _ _ _ _ _ .ret _ w
  refine Ret_cN (e := eZ) (z := (false, [])) 4 0 hw rfl (by exact rfl) ty25 fun r_1 hw hr_1 => ?_
  exact RetN (vs := [r_1, (iv 1 : Value)]) r_1 Tryz.results58 (by exact ⟨hr_1, rfl, trivial⟩) rfl (show InR (1) by decide) hw (fun S w h => ⟨h.1, trivial⟩)
 replace H := ifb_f hb1 H
 refine T_seq <| T_region <| TL_step rfl rfl (oe_field (e := eZ) (z := a0) fl25_1 rfl (Sub.snd eBool (eS eU) (a0)) (fun S w h => h.1)) fun p2 _ => TL_step rfl rfl (oe_load (e := (eS eU)) (y := a0.2) rfl ty23 (fun S w h => h.1)) fun u2 _ => ?_
 obtain ⟨x1, he1, H⟩ := bd_s H
 refine TL_step rfl rfl (oe_call (by kernel_rfl) (c_nat_Bits fu a0.2 u2 x1 he1) rfl (fun S w h => ⟨h.1, trivial⟩)) fun _ hk1 => TL_mv 1 [(1, iv (a1)), (2, p1), (4, .pointer (some ⟨b1, 0, none⟩)), (19, iv (x1)), (20, iv (a1))] rfl fun rest => ?_
 obtain ⟨x2, hx2, hrx2, H⟩ := ck64_s H
 refine TL_val rfl rfl (r_mul (c := x2) rfl rfl (w_x hx2 hrx2)) <| TL_gtr rfl rfl rfl rfl (fun h3 => ?_) (fun h3 => ?_)
 ·replace H := if_t h3 H
  refine TL_mv 1 [(1, iv (a1)), (2, p1), (4, .pointer (some ⟨b1, 0, none⟩)), (16, .bool true)] rfl fun rest => TL_nil <| T_cond_true rfl <| T_seq <| T_region <| TL_step rfl rfl (oe_zero (e := eZ) (z := (false, [])) ty25 rfl rfl (.inl (plz pl25)) (fun S w => z25 S w)) fun u3 _ => ?_
  refine TL_og rfl rfl (og_store' (f := eZ) (y' := (false, [])) (z2 := (false, [])) 0 rfl rfl rfl (Sub.self eZ ((false, []))) ty25 (fun S w h => h.1) rfl) fun _ _ => ?_
  show TL _ _ _ _ [mB (ERep.c eZ) 25 b1 ((false, []))] [fV eZ ((false, [])) u3, fV (eS eU) (a0.2) u2, fP (eS eU) (a0.2) p2, fP eZ (a0) p1] _ _ _ _
  refine TL_mv 1 [(4, .pointer (some ⟨b1, 0, none⟩)), (5, iv 6)] rfl fun rest => TL_nil <| T_ret ?_
  obtain ⟨rfl, rfl⟩ := inj2 H
  intro w hw
  change RetQ _ _ _ _ _ _ _ .ret _ w
  refine Ret_cN (e := eZ) (z := (false, [])) 4 0 hw rfl (by exact rfl) ty25 fun r_2 hw hr_2 => ?_
  exact RetN (vs := [r_2, (iv 6 : Value)]) r_2 Tryz.results58 (by exact ⟨hr_2, rfl, trivial⟩) rfl (show InR (6) by decide) hw (fun S w h => ⟨h.1, trivial⟩)
 replace H := if_f h3 H
 refine TL_mv 1 [(1, iv (a1)), (2, p1), (4, .pointer (some ⟨b1, 0, none⟩)), (16, .bool false)] rfl fun rest => TL_nil <| T_cond_false rfl <| T_skip <| T_seq <| T_region ?_
 obtain ⟨t1, he2, H⟩ := bd_s H
 refine TL_step rfl rfl (oe_call (by kernel_rfl) (c_zint_Of fu 1 (show InR (1) by decide) t1 he2) rfl (fun S w h => trivial)) fun u4 _ => TL_og rfl rfl (og_allocM (e := ERep.c eZ) (z := (false, [])) ty25 (fun S w => z25 S w)) fun b3 _ => ?_
 show TL _ _ _ _ [mB (ERep.c eZ) 25 b3 ((false, [])), mB (ERep.c eZ) 25 b1 ((false, []))] [fV eZ (t1) u4, fV (eS eU) (a0.2) u2, fP (eS eU) (a0.2) p2, fP eZ (a0) p1] _ _ _ _
 refine TL_og rfl rfl (og_store' (f := eZ) (y' := t1) (z2 := t1) 0 rfl rfl rfl (Sub.self eZ ((false, []))) ty25 (fun S w h => h.1) rfl) fun _ _ => ?_
 show TL _ _ _ _ [mB (ERep.c eZ) 25 b3 (t1), mB (ERep.c eZ) 25 b1 ((false, []))] [fV eZ (t1) u4, fV (eS eU) (a0.2) u2, fP (eS eU) (a0.2) p2, fP eZ (a0) p1] _ _ _ _
 refine TL_mv 0 [(1, iv (a1)), (2, p1), (4, .pointer (some ⟨b1, 0, none⟩)), (6, .pointer (some ⟨b3, 0, none⟩))] rfl fun rest => TL_nil <| T_seq <| T_seq <| T_region <| TL_step rfl rfl (oe_load (e := eZ) (y := a0) rfl ty25 (fun S w h => h.2.2.2.1)) fun u5 _ => ?_
 obtain ⟨t2, he3, H⟩ := bd_s H
 refine TL_step rfl rfl (oe_call (by kernel_rfl) (c_zint_Norm fu a0 u5 t2 he3) rfl (fun S w h => ⟨h.1, trivial⟩)) fun u6 _ => TL_og rfl rfl (og_allocM (e := ERep.c eZ) (z := (false, [])) ty25 (fun S w => z25 S w)) fun b4 _ => ?_
 show TL _ _ _ _ [mB (ERep.c eZ) 25 b4 ((false, [])), mB (ERep.c eZ) 25 b3 (t1), mB (ERep.c eZ) 25 b1 ((false, []))] [fV eZ (t2) u6, fV eZ (a0) u5, fV eZ (t1) u4, fV (eS eU) (a0.2) u2, fP (eS eU) (a0.2) p2, fP eZ (a0) p1] _ _ _ _
 refine TL_og rfl rfl (og_store' (f := eZ) (y' := t2) (z2 := t2) 0 rfl rfl rfl (Sub.self eZ ((false, []))) ty25 (fun S w h => h.1) rfl) fun _ _ => ?_
 show TL _ _ _ _ [mB (ERep.c eZ) 25 b4 (t2), mB (ERep.c eZ) 25 b3 (t1), mB (ERep.c eZ) 25 b1 ((false, []))] [fV eZ (t2) u6, fV eZ (a0) u5, fV eZ (t1) u4, fV (eS eU) (a0.2) u2, fP (eS eU) (a0.2) p2, fP eZ (a0) p1] _ _ _ _
 refine TL_mv 0 [(1, iv (a1)), (4, .pointer (some ⟨b1, 0, none⟩)), (6, .pointer (some ⟨b3, 0, none⟩)), (7, .pointer (some ⟨b4, 0, none⟩))] rfl fun rest => TL_nil <| T_block ?_
 obtain ⟨s2, hL, Hc⟩ := bd_s H
 refine T_X [(.x 1, JQ we Se (G := Zr) (fun t10 => (⟨[mB (ERep.c eZ) 25 b3 (t10), mB (ERep.c eZ) 25 b1 ((false, []))], [], [(4, .pointer (some ⟨b1, 0, none⟩)), (6, .pointer (some ⟨b3, 0, none⟩))]⟩ : Inv)) (fun t10 => t10 = s2))] ?_ ⟨?_, trivial⟩
 ·refine T_loop_s (G := Nat × Int × Zr × Zr × Nat) (s1 := _) (f := _) (k := fun (n1, i3, t9, t8, b7) => n1) (σ := fun (n1, i3, t9, t8, b7) => (i3, t9, t8)) (fun (n1, i3, t9, t8, b7) => (⟨[mB (ERep.c eZ) 25 b7 (t9), mB (ERep.c eZ) 25 b3 (t8), mB (ERep.c eZ) 25 b1 ((false, []))], [], [(1, iv (i3)), (4, .pointer (some ⟨b1, 0, none⟩)), (6, .pointer (some ⟨b3, 0, none⟩)), (7, .pointer (some ⟨b7, 0, none⟩))]⟩ : Inv)) (fun (n1, i3, t9, t8, b7) => InR i3) (fu, a1, t2, t1, b4) hL qa1 rfl (fun w h => St.weak h (fun S w h => trivial)) ?_
  rintro ⟨n1, i3, t9, t8, b7⟩ ⟨H, hr3⟩ rest
  rcases n1 with _ | n1
  ·exact (loopN_z H).elim
  replace H := loopN_s H
  unfold B_zint_Pow_0 at H
  refine T_prune [(1, iv (i3)), (4, .pointer (some ⟨b1, 0, none⟩)), (6, .pointer (some ⟨b3, 0, none⟩)), (7, .pointer (some ⟨b7, 0, none⟩))] rfl fun rest => T_weak [mB (ERep.c eZ) 25 b7 (t9), mB (ERep.c eZ) 25 b3 (t8), mB (ERep.c eZ) 25 b1 ((false, []))] [] (fun w h => h) <| T_seq <| T_seq <| T_region <| TL_mv 1 [(1, iv (i3)), (4, .pointer (some ⟨b1, 0, none⟩)), (6, .pointer (some ⟨b3, 0, none⟩)), (7, .pointer (some ⟨b7, 0, none⟩)), (27, iv (i3))] rfl fun rest => ?_
  refine TL_gtr rfl rfl rfl rfl (fun h4 => ?_) (fun h4 => ?_)
  ·replace H := if_t h4 H
   refine TL_mv 0 [(1, iv (i3)), (4, .pointer (some ⟨b1, 0, none⟩)), (6, .pointer (some ⟨b3, 0, none⟩)), (7, .pointer (some ⟨b7, 0, none⟩)), (28, .bool true)] rfl fun rest => TL_nil <| T_cond_true rfl <| T_skip <| T_seq <| T_block ?_
   refine T_seq <| T_seq <| T_region <| TL_mv 1 [(1, iv (i3)), (4, .pointer (some ⟨b1, 0, none⟩)), (6, .pointer (some ⟨b3, 0, none⟩)), (7, .pointer (some ⟨b7, 0, none⟩)), (31, iv (i3))] rfl fun rest => ?_
   obtain ⟨x3, hx3, H⟩ := nm_s H
   refine TL_val rfl rfl (r_and (c := x3) rfl rfl (n_and_i.trans hx3.symm)) <| TL_eql rfl rfl rfl rfl (fun h5 => ?_) (fun h5 => ?_)
   ·replace H := if_t h5 H
    refine TL_mv 0 [(1, iv (i3)), (4, .pointer (some ⟨b1, 0, none⟩)), (6, .pointer (some ⟨b3, 0, none⟩)), (7, .pointer (some ⟨b7, 0, none⟩)), (33, .bool true)] rfl fun rest => TL_nil <| T_cond_true rfl <| T_region <| TL_step rfl rfl (oe_loadM (z' := t8) 1 rfl rfl (Sub.self eZ (t8)) ty25) fun u7 _ => TL_step rfl rfl (oe_loadM (z' := t9) 0 rfl rfl (Sub.self eZ (t9)) ty25) fun u8 _ => ?_
    obtain ⟨t11, he4, H⟩ := bd_s H
    refine TL_step rfl rfl (oe_call (by kernel_rfl) (c_zint_Mul fu t8 u7 t9 u8 t11 he4) rfl (fun S w h => ⟨h.2.1, h.1, trivial⟩)) fun u9 _ => TL_og rfl rfl (og_store' (f := eZ) (y' := t11) (z2 := t11) 1 rfl rfl rfl (Sub.self eZ (t8)) ty25 (fun S w h => h.1) rfl) fun _ _ => ?_
    show TL _ _ _ _ [mB (ERep.c eZ) 25 b7 (t9), mB (ERep.c eZ) 25 b3 (t11), mB (ERep.c eZ) 25 b1 ((false, []))] [fV eZ (t11) u9, fV eZ (t9) u8, fV eZ (t8) u7] _ _ _ _
    refine TL_mv 0 [(1, iv (i3)), (4, .pointer (some ⟨b1, 0, none⟩)), (6, .pointer (some ⟨b3, 0, none⟩)), (7, .pointer (some ⟨b7, 0, none⟩))] rfl fun rest => TL_nil <| T_seq <| T_region <| TL_mv 1 [(1, iv (i3)), (4, .pointer (some ⟨b1, 0, none⟩)), (6, .pointer (some ⟨b3, 0, none⟩)), (7, .pointer (some ⟨b7, 0, none⟩)), (37, iv (i3))] rfl fun rest => TL_gtr rfl rfl rfl rfl (fun h6 => ?_) (fun h6 => ?_)
    ·replace H := if_t h6 H
     refine TL_mv 0 [(1, iv (i3)), (4, .pointer (some ⟨b1, 0, none⟩)), (6, .pointer (some ⟨b3, 0, none⟩)), (7, .pointer (some ⟨b7, 0, none⟩)), (38, .bool true)] rfl fun rest => TL_nil <| T_cond_true rfl <| T_region <| TL_step rfl rfl (oe_loadM (z' := t9) 0 rfl rfl (Sub.self eZ (t9)) ty25) fun u10 _ => TL_step rfl rfl (oe_loadM (z' := t9) 0 rfl rfl (Sub.self eZ (t9)) ty25) fun u11 _ => ?_
     obtain ⟨t12, he5, H⟩ := bd_s H
     refine TL_step rfl rfl (oe_call (by kernel_rfl) (c_zint_Mul fu t9 u10 t9 u11 t12 he5) rfl (fun S w h => ⟨h.2.1, h.1, trivial⟩)) fun u12 _ => TL_og rfl rfl (og_store' (f := eZ) (y' := t12) (z2 := t12) 0 rfl rfl rfl (Sub.self eZ (t9)) ty25 (fun S w h => h.1) rfl) fun _ _ => ?_
     show TL _ _ _ _ [mB (ERep.c eZ) 25 b7 (t12), mB (ERep.c eZ) 25 b3 (t11), mB (ERep.c eZ) 25 b1 ((false, []))] [fV eZ (t12) u12, fV eZ (t9) u11, fV eZ (t9) u10, fV eZ (t11) u9, fV eZ (t9) u8, fV eZ (t8) u7] _ _ _ _
     refine TL_mv 0 [(1, iv (i3)), (4, .pointer (some ⟨b1, 0, none⟩)), (6, .pointer (some ⟨b3, 0, none⟩)), (7, .pointer (some ⟨b7, 0, none⟩))] rfl fun rest => TL_nil <| T_seq <| T_seq <| T_region <| TL_step rfl rfl (oe_loadM (z' := t12) 0 rfl rfl (Sub.self eZ (t12)) ty25) fun u13 _ => ?_
     refine TL_mv 0 [(1, iv (i3)), (4, .pointer (some ⟨b1, 0, none⟩)), (6, .pointer (some ⟨b3, 0, none⟩)), (42, u13)] rfl fun rest => TL_sel [fV eZ (t12) u13] (fun S w h => ⟨h.1, trivial⟩) <| TL_nil <| T_region <| TL_og rfl rfl (og_allocM (e := ERep.c eZ) (z := (false, [])) ty25 (fun S w => z25 S w)) fun b8 _ => ?_
     show TL _ _ _ _ [mB (ERep.c eZ) 25 b8 ((false, [])), mB (ERep.c eZ) 25 b7 (t12), mB (ERep.c eZ) 25 b3 (t11), mB (ERep.c eZ) 25 b1 ((false, []))] [fV eZ (t12) u13] _ _ _ _
     refine TL_og rfl rfl (og_store' (f := eZ) (y' := t12) (z2 := t12) 0 rfl rfl rfl (Sub.self eZ ((false, []))) ty25 (fun S w h => h.1) rfl) fun _ _ => ?_
     show TL _ _ _ _ [mB (ERep.c eZ) 25 b8 (t12), mB (ERep.c eZ) 25 b7 (t12), mB (ERep.c eZ) 25 b3 (t11), mB (ERep.c eZ) 25 b1 ((false, []))] [fV eZ (t12) u13] _ _ _ _
     refine TL_mv 0 [(1, iv (i3)), (4, .pointer (some ⟨b1, 0, none⟩)), (6, .pointer (some ⟨b3, 0, none⟩)), (7, .pointer (some ⟨b8, 0, none⟩))] rfl fun rest => TL_nil <| T_region <| TL_mv 1 [(4, .pointer (some ⟨b1, 0, none⟩)), (6, .pointer (some ⟨b3, 0, none⟩)), (7, .pointer (some ⟨b8, 0, none⟩)), (29, iv (i3))] rfl fun rest => ?_
     obtain ⟨x4, hx4, H⟩ := nm_s H
     refine TL_val rfl rfl (r_shr (c := x4) rfl rfl (by decide) hx4.symm) <| TL_mv 1 [(1, iv (x4)), (4, .pointer (some ⟨b1, 0, none⟩)), (6, .pointer (some ⟨b3, 0, none⟩)), (7, .pointer (some ⟨b8, 0, none⟩))] rfl fun rest => TL_nil ?_
     exact St_round_s (n1, x4, t12, t11, b8) H (fdiv_r hr3 hx4) (Nat.lt_succ_self _) rfl (fun w h => St.weak (St.drop (i := 1) h) (fun S w h => trivial))
    replace H := if_f h6 H
    refine TL_mv 0 [(1, iv (i3)), (4, .pointer (some ⟨b1, 0, none⟩)), (6, .pointer (some ⟨b3, 0, none⟩)), (7, .pointer (some ⟨b7, 0, none⟩)), (38, .bool false)] rfl fun rest => TL_nil <| T_cond_false rfl <| T_skip <| T_seq <| T_seq ?_
    refine T_region <| TL_step rfl rfl (oe_loadM (z' := t9) 0 rfl rfl (Sub.self eZ (t9)) ty25) fun u14 _ => TL_mv 0 [(1, iv (i3)), (4, .pointer (some ⟨b1, 0, none⟩)), (6, .pointer (some ⟨b3, 0, none⟩)), (42, u14)] rfl fun rest => TL_nil <| T_region <| TL_og rfl rfl (og_allocM (e := ERep.c eZ) (z := (false, [])) ty25 (fun S w => z25 S w)) fun b9 _ => ?_
    show TL _ _ _ _ [mB (ERep.c eZ) 25 b9 ((false, [])), mB (ERep.c eZ) 25 b7 (t9), mB (ERep.c eZ) 25 b3 (t11), mB (ERep.c eZ) 25 b1 ((false, []))] [fV eZ (t9) u14, fV eZ (t11) u9, fV eZ (t9) u8, fV eZ (t8) u7] _ _ _ _
    refine TL_og rfl rfl (og_store' (f := eZ) (y' := t9) (z2 := t9) 0 rfl rfl rfl (Sub.self eZ ((false, []))) ty25 (fun S w h => h.1) rfl) fun _ _ => ?_
    show TL _ _ _ _ [mB (ERep.c eZ) 25 b9 (t9), mB (ERep.c eZ) 25 b7 (t9), mB (ERep.c eZ) 25 b3 (t11), mB (ERep.c eZ) 25 b1 ((false, []))] [fV eZ (t9) u14, fV eZ (t11) u9, fV eZ (t9) u8, fV eZ (t8) u7] _ _ _ _
    refine TL_mv 0 [(1, iv (i3)), (4, .pointer (some ⟨b1, 0, none⟩)), (6, .pointer (some ⟨b3, 0, none⟩)), (7, .pointer (some ⟨b9, 0, none⟩))] rfl fun rest => TL_nil <| T_region <| TL_mv 1 [(4, .pointer (some ⟨b1, 0, none⟩)), (6, .pointer (some ⟨b3, 0, none⟩)), (7, .pointer (some ⟨b9, 0, none⟩)), (29, iv (i3))] rfl fun rest => ?_
    obtain ⟨x5, hx5, H⟩ := nm_s H
    refine TL_val rfl rfl (r_shr (c := x5) rfl rfl (by decide) hx5.symm) <| TL_mv 1 [(1, iv (x5)), (4, .pointer (some ⟨b1, 0, none⟩)), (6, .pointer (some ⟨b3, 0, none⟩)), (7, .pointer (some ⟨b9, 0, none⟩))] rfl fun rest => TL_nil ?_
    exact St_round_s (n1, x5, t9, t11, b9) H (fdiv_r hr3 hx5) (Nat.lt_succ_self _) rfl (fun w h => St.weak (St.drop (i := 1) h) (fun S w h => trivial))
   replace H := if_f h5 H
   refine TL_mv 0 [(1, iv (i3)), (4, .pointer (some ⟨b1, 0, none⟩)), (6, .pointer (some ⟨b3, 0, none⟩)), (7, .pointer (some ⟨b7, 0, none⟩)), (33, .bool false)] rfl fun rest => TL_nil <| T_cond_false rfl <| T_skip <| T_seq <| T_region ?_
   refine TL_mv 1 [(1, iv (i3)), (4, .pointer (some ⟨b1, 0, none⟩)), (6, .pointer (some ⟨b3, 0, none⟩)), (7, .pointer (some ⟨b7, 0, none⟩)), (37, iv (i3))] rfl fun rest => TL_gtr rfl rfl rfl rfl (fun h7 => ?_) (fun h7 => ?_)
   ·replace H := if_t h7 H
    refine TL_mv 0 [(1, iv (i3)), (4, .pointer (some ⟨b1, 0, none⟩)), (6, .pointer (some ⟨b3, 0, none⟩)), (7, .pointer (some ⟨b7, 0, none⟩)), (38, .bool true)] rfl fun rest => TL_nil <| T_cond_true rfl <| T_region <| TL_step rfl rfl (oe_loadM (z' := t9) 0 rfl rfl (Sub.self eZ (t9)) ty25) fun u15 _ => TL_step rfl rfl (oe_loadM (z' := t9) 0 rfl rfl (Sub.self eZ (t9)) ty25) fun u16 _ => ?_
    obtain ⟨t13, he6, H⟩ := bd_s H
    refine TL_step rfl rfl (oe_call (by kernel_rfl) (c_zint_Mul fu t9 u15 t9 u16 t13 he6) rfl (fun S w h => ⟨h.2.1, h.1, trivial⟩)) fun u17 _ => TL_og rfl rfl (og_store' (f := eZ) (y' := t13) (z2 := t13) 0 rfl rfl rfl (Sub.self eZ (t9)) ty25 (fun S w h => h.1) rfl) fun _ _ => ?_
    show TL _ _ _ _ [mB (ERep.c eZ) 25 b7 (t13), mB (ERep.c eZ) 25 b3 (t8), mB (ERep.c eZ) 25 b1 ((false, []))] [fV eZ (t13) u17, fV eZ (t9) u16, fV eZ (t9) u15] _ _ _ _
    refine TL_mv 0 [(1, iv (i3)), (4, .pointer (some ⟨b1, 0, none⟩)), (6, .pointer (some ⟨b3, 0, none⟩)), (7, .pointer (some ⟨b7, 0, none⟩))] rfl fun rest => TL_nil <| T_seq <| T_seq <| T_region <| TL_step rfl rfl (oe_loadM (z' := t13) 0 rfl rfl (Sub.self eZ (t13)) ty25) fun u18 _ => ?_
    refine TL_mv 0 [(1, iv (i3)), (4, .pointer (some ⟨b1, 0, none⟩)), (6, .pointer (some ⟨b3, 0, none⟩)), (42, u18)] rfl fun rest => TL_nil <| T_region <| TL_og rfl rfl (og_allocM (e := ERep.c eZ) (z := (false, [])) ty25 (fun S w => z25 S w)) fun b10 _ => ?_
    show TL _ _ _ _ [mB (ERep.c eZ) 25 b10 ((false, [])), mB (ERep.c eZ) 25 b7 (t13), mB (ERep.c eZ) 25 b3 (t8), mB (ERep.c eZ) 25 b1 ((false, []))] [fV eZ (t13) u18, fV eZ (t13) u17, fV eZ (t9) u16, fV eZ (t9) u15] _ _ _ _
    refine TL_og rfl rfl (og_store' (f := eZ) (y' := t13) (z2 := t13) 0 rfl rfl rfl (Sub.self eZ ((false, []))) ty25 (fun S w h => h.1) rfl) fun _ _ => ?_
    show TL _ _ _ _ [mB (ERep.c eZ) 25 b10 (t13), mB (ERep.c eZ) 25 b7 (t13), mB (ERep.c eZ) 25 b3 (t8), mB (ERep.c eZ) 25 b1 ((false, []))] [fV eZ (t13) u18, fV eZ (t13) u17, fV eZ (t9) u16, fV eZ (t9) u15] _ _ _ _
    refine TL_mv 0 [(1, iv (i3)), (4, .pointer (some ⟨b1, 0, none⟩)), (6, .pointer (some ⟨b3, 0, none⟩)), (7, .pointer (some ⟨b10, 0, none⟩))] rfl fun rest => TL_nil <| T_region <| TL_mv 1 [(4, .pointer (some ⟨b1, 0, none⟩)), (6, .pointer (some ⟨b3, 0, none⟩)), (7, .pointer (some ⟨b10, 0, none⟩)), (29, iv (i3))] rfl fun rest => ?_
    obtain ⟨x6, hx6, H⟩ := nm_s H
    refine TL_val rfl rfl (r_shr (c := x6) rfl rfl (by decide) hx6.symm) <| TL_mv 1 [(1, iv (x6)), (4, .pointer (some ⟨b1, 0, none⟩)), (6, .pointer (some ⟨b3, 0, none⟩)), (7, .pointer (some ⟨b10, 0, none⟩))] rfl fun rest => TL_nil ?_
    exact St_round_s (n1, x6, t13, t8, b10) H (fdiv_r hr3 hx6) (Nat.lt_succ_self _) rfl (fun w h => St.weak (St.drop (i := 1) h) (fun S w h => trivial))
   replace H := if_f h7 H
   refine TL_mv 0 [(1, iv (i3)), (4, .pointer (some ⟨b1, 0, none⟩)), (6, .pointer (some ⟨b3, 0, none⟩)), (7, .pointer (some ⟨b7, 0, none⟩)), (38, .bool false)] rfl fun rest => TL_nil <| T_cond_false rfl <| T_skip <| T_seq <| T_seq ?_
   refine T_region <| TL_step rfl rfl (oe_loadM (z' := t9) 0 rfl rfl (Sub.self eZ (t9)) ty25) fun u19 _ => TL_mv 0 [(1, iv (i3)), (4, .pointer (some ⟨b1, 0, none⟩)), (6, .pointer (some ⟨b3, 0, none⟩)), (42, u19)] rfl fun rest => TL_nil <| T_region <| TL_og rfl rfl (og_allocM (e := ERep.c eZ) (z := (false, [])) ty25 (fun S w => z25 S w)) fun b11 _ => ?_
   show TL _ _ _ _ [mB (ERep.c eZ) 25 b11 ((false, [])), mB (ERep.c eZ) 25 b7 (t9), mB (ERep.c eZ) 25 b3 (t8), mB (ERep.c eZ) 25 b1 ((false, []))] [fV eZ (t9) u19] _ _ _ _
   refine TL_og rfl rfl (og_store' (f := eZ) (y' := t9) (z2 := t9) 0 rfl rfl rfl (Sub.self eZ ((false, []))) ty25 (fun S w h => h.1) rfl) fun _ _ => ?_
   show TL _ _ _ _ [mB (ERep.c eZ) 25 b11 (t9), mB (ERep.c eZ) 25 b7 (t9), mB (ERep.c eZ) 25 b3 (t8), mB (ERep.c eZ) 25 b1 ((false, []))] [fV eZ (t9) u19] _ _ _ _
   refine TL_mv 0 [(1, iv (i3)), (4, .pointer (some ⟨b1, 0, none⟩)), (6, .pointer (some ⟨b3, 0, none⟩)), (7, .pointer (some ⟨b11, 0, none⟩))] rfl fun rest => TL_nil <| T_region <| TL_mv 1 [(4, .pointer (some ⟨b1, 0, none⟩)), (6, .pointer (some ⟨b3, 0, none⟩)), (7, .pointer (some ⟨b11, 0, none⟩)), (29, iv (i3))] rfl fun rest => ?_
   obtain ⟨x7, hx7, H⟩ := nm_s H
   refine TL_val rfl rfl (r_shr (c := x7) rfl rfl (by decide) hx7.symm) <| TL_mv 1 [(1, iv (x7)), (4, .pointer (some ⟨b1, 0, none⟩)), (6, .pointer (some ⟨b3, 0, none⟩)), (7, .pointer (some ⟨b11, 0, none⟩))] rfl fun rest => TL_nil ?_
   exact St_round_s (n1, x7, t9, t8, b11) H (fdiv_r hr3 hx7) (Nat.lt_succ_self _) rfl (fun w h => St.weak (St.drop (i := 1) h) (fun S w h => trivial))
  replace H := if_f h4 H
  refine TL_mv 0 [(1, iv (i3)), (4, .pointer (some ⟨b1, 0, none⟩)), (6, .pointer (some ⟨b3, 0, none⟩)), (7, .pointer (some ⟨b7, 0, none⟩)), (28, .bool false)] rfl fun rest => TL_nil <| T_cond_false rfl <| T_exit ?_
  exact JQ_mk t8 (Option.some.inj H) rfl (fun w h => St.weak (St.drop (i := 0) h) (fun S w h => trivial))
 refine JQ_el' ?_
 rintro t10 hs rest
 subst hs
 replace H := Hc
 clear hL
 refine JG_to (ms' := [mB (ERep.c eZ) 25 b3 (t10), mB (ERep.c eZ) 25 b1 ((false, []))]) (Γ' := []) (live' := [(4, .pointer (some ⟨b1, 0, none⟩)), (6, .pointer (some ⟨b3, 0, none⟩))]) rfl <| T_seq <| T_region <| TL_step rfl rfl (oe_loadM (z' := t10) 0 rfl rfl (Sub.self eZ (t10)) ty25) fun u20 _ => TL_og rfl rfl (og_store' (f := eZ) (y' := t10) (z2 := t10) 1 rfl rfl rfl (Sub.self eZ ((false, []))) ty25 (fun S w h => h.1) rfl) fun _ _ => ?_
 show TL _ _ _ _ [mB (ERep.c eZ) 25 b3 (t10), mB (ERep.c eZ) 25 b1 (t10)] [fV eZ (t10) u20] _ _ _ _
 refine TL_mv 1 [(4, .pointer (some ⟨b1, 0, none⟩)), (5, iv 0)] rfl fun rest => TL_nil <| T_ret ?_
 obtain ⟨rfl, rfl⟩ := inj2 H
 intro w hw
 change RetQ _ _ _ _ _ _ _ .ret _ w
 refine Ret_cN (e := eZ) (z := t10) 4 1 hw rfl (by exact rfl) ty25 fun r_3 hw hr_3 => ?_
 exact RetN (vs := [r_3, (iv 0 : Value)]) r_3 Tryz.results58 (by exact ⟨hr_3, rfl, trivial⟩) rfl (show InR (0) by decide) hw (fun S w h => ⟨h.1, trivial⟩)
set_option maxRecDepth 100000 in
set_option maxHeartbeats 1000000 in
theorem c_hensel_Power (fu : Nat) (a0 : Int) (qa0 : InR a0) (a1 : Int) (qa1 : InR a1) (r0 : Zr) (r1 : Int) (H : M_hensel_Power fu a0 a1 = some (r0, r1)) : Fn Tryz.prog 13 [iv a0, iv a1].toArray [] (fun u : Value => .tuple #[u, iv (r1)]) (fun u => [fV eZ (r0) u]) (fun _ => InR r1) := by
 unfold M_hensel_Power at H
 refine Fn_intro Tryz.func13 rfl rfl fun we Se rest => T_seq <| T_region <| TL_og rfl rfl (og_allocM (e := ERep.c eZ) (z := (false, [])) ty25 (fun S w => z25 S w)) fun b1 _ => ?_
 show TL _ _ _ _ [mB (ERep.c eZ) 25 b1 ((false, []))] [] _ _ _ _
 refine TL_mv 1 [(0, iv (a0)), (1, iv (a1)), (4, .pointer (some ⟨b1, 0, none⟩))] rfl fun rest => TL_nil <| T_seq <| T_seq <| T_region <| TL_mv 1 [(0, iv (a0)), (1, iv (a1)), (4, .pointer (some ⟨b1, 0, none⟩)), (6, iv (a0))] rfl fun rest => ?_
 obtain ⟨c1, he1, H⟩ := bd_s H
 refine TL_step rfl rfl (oe_call (by kernel_rfl) (c_prime_Is fu a0 qa0 c1 he1) rfl (fun S w h => trivial)) fun _ _ => TL_mv 2 [(0, iv (a0)), (1, iv (a1)), (4, .pointer (some ⟨b1, 0, none⟩)), (9, .bool (!c1))] rfl fun rest => ?_
 rcases Bool.eq_false_or_eq_true (!c1) with hd1 | hd1
 ·refine TL_prune [(0, iv (a0)), (1, iv (a1)), (4, .pointer (some ⟨b1, 0, none⟩)), (9, .bool true)] (agr ⟨rfl, rfl, rfl, (congrArg Value.bool hd1), trivial⟩) fun rest => ?_
  replace H := if_t hd1 H
  refine TL_mv 7 [(0, iv (a0)), (1, iv (a1)), (4, .pointer (some ⟨b1, 0, none⟩)), (16, .bool true)] rfl fun rest => TL_nil <| T_cond_true rfl <| T_seq <| T_region <| TL_step rfl rfl (oe_zero (e := eZ) (z := (false, [])) ty25 rfl rfl (.inl (plz pl25)) (fun S w => z25 S w)) fun u1 _ => ?_
  refine TL_og rfl rfl (og_store' (f := eZ) (y' := (false, [])) (z2 := (false, [])) 0 rfl rfl rfl (Sub.self eZ ((false, []))) ty25 (fun S w h => h.1) rfl) fun _ _ => ?_
  show TL _ _ _ _ [mB (ERep.c eZ) 25 b1 ((false, []))] [fV eZ ((false, [])) u1] _ _ _ _
  refine TL_mv 1 [(4, .pointer (some ⟨b1, 0, none⟩)), (5, iv 1)] rfl fun rest => TL_nil <| T_ret ?_
  obtain ⟨rfl, rfl⟩ := inj2 H
  intro w hw
  change RetQ _ _ _ _ _ _ _ .ret _ w
  refine Ret_cN (e := eZ) (z := (false, [])) 4 0 hw rfl (by exact rfl) ty25 fun r_1 hw hr_1 => ?_
  exact RetN (vs := [r_1, (iv 1 : Value)]) r_1 Tryz.results13 (by exact ⟨hr_1, rfl, trivial⟩) rfl (show InR (1) by decide) hw (fun S w h => ⟨h.1, trivial⟩)
 refine TL_prune [(0, iv (a0)), (1, iv (a1)), (4, .pointer (some ⟨b1, 0, none⟩)), (9, .bool false)] (agr ⟨rfl, rfl, rfl, (congrArg Value.bool hd1), trivial⟩) fun rest => ?_
 replace H := ifb_f hd1 H
 refine TL_mv 1 [(0, iv (a0)), (1, iv (a1)), (4, .pointer (some ⟨b1, 0, none⟩)), (9, .bool false), (10, iv (a1))] rfl fun rest => TL_lss rfl rfl rfl rfl (fun h1 => ?_) (fun h1 => ?_)
 ·replace H := if_t h1 H
  refine TL_mv 5 [(0, iv (a0)), (1, iv (a1)), (4, .pointer (some ⟨b1, 0, none⟩)), (16, .bool true)] rfl fun rest => TL_nil <| T_cond_true rfl <| T_seq <| T_region <| TL_step rfl rfl (oe_zero (e := eZ) (z := (false, [])) ty25 rfl rfl (.inl (plz pl25)) (fun S w => z25 S w)) fun u2 _ => ?_
  refine TL_og rfl rfl (og_store' (f := eZ) (y' := (false, [])) (z2 := (false, [])) 0 rfl rfl rfl (Sub.self eZ ((false, []))) ty25 (fun S w h => h.1) rfl) fun _ _ => ?_
  show TL _ _ _ _ [mB (ERep.c eZ) 25 b1 ((false, []))] [fV eZ ((false, [])) u2] _ _ _ _
  refine TL_mv 1 [(4, .pointer (some ⟨b1, 0, none⟩)), (5, iv 1)] rfl fun rest => TL_nil <| T_ret ?_
  obtain ⟨rfl, rfl⟩ := inj2 H
  intro w hw
  change RetQ _ _ _ _ _ _ _ .ret _ w
  refine Ret_cN (e := eZ) (z := (false, [])) 4 0 hw rfl (by exact rfl) ty25 fun r_2 hw hr_2 => ?_
  exact RetN (vs := [r_2, (iv 1 : Value)]) r_2 Tryz.results13 (by exact ⟨hr_2, rfl, trivial⟩) rfl (show InR (1) by decide) hw (fun S w h => ⟨h.1, trivial⟩)
 replace H := if_f h1 H
 refine TL_mv 3 [(0, iv (a0)), (1, iv (a1)), (4, .pointer (some ⟨b1, 0, none⟩)), (13, .bool false), (14, iv (a1))] rfl fun rest => TL_gtr rfl rfl rfl rfl (fun h2 => ?_) (fun h2 => ?_)
 ·replace H := if_t h2 H
  refine TL_mv 1 [(0, iv (a0)), (1, iv (a1)), (4, .pointer (some ⟨b1, 0, none⟩)), (16, .bool true)] rfl fun rest => TL_nil <| T_cond_true rfl <| T_seq <| T_region <| TL_step rfl rfl (oe_zero (e := eZ) (z := (false, [])) ty25 rfl rfl (.inl (plz pl25)) (fun S w => z25 S w)) fun u3 _ => ?_
  refine TL_og rfl rfl (og_store' (f := eZ) (y' := (false, [])) (z2 := (false, [])) 0 rfl rfl rfl (Sub.self eZ ((false, []))) ty25 (fun S w h => h.1) rfl) fun _ _ => ?_
  show TL _ _ _ _ [mB (ERep.c eZ) 25 b1 ((false, []))] [fV eZ ((false, [])) u3] _ _ _ _
  refine TL_mv 1 [(4, .pointer (some ⟨b1, 0, none⟩)), (5, iv 1)] rfl fun rest => TL_nil <| T_ret ?_
  obtain ⟨rfl, rfl⟩ := inj2 H
  intro w hw
  change RetQ _ _ _ _ _ _ _ .ret _ w
  refine Ret_cN (e := eZ) (z := (false, [])) 4 0 hw rfl (by exact rfl) ty25 fun r_3 hw hr_3 => ?_
  exact RetN (vs := [r_3, (iv 1 : Value)]) r_3 Tryz.results13 (by exact ⟨hr_3, rfl, trivial⟩) rfl (show InR (1) by decide) hw (fun S w h => ⟨h.1, trivial⟩)
 replace H := if_f h2 H
 refine TL_mv 1 [(0, iv (a0)), (1, iv (a1)), (4, .pointer (some ⟨b1, 0, none⟩)), (16, .bool false)] rfl fun rest => TL_nil <| T_cond_false rfl <| T_skip <| T_seq <| T_region ?_
 refine TL_mv 1 [(1, iv (a1)), (4, .pointer (some ⟨b1, 0, none⟩)), (18, iv (a0))] rfl fun rest => ?_
 obtain ⟨t1, he2, H⟩ := bd_s H
 refine TL_step rfl rfl (oe_call (by kernel_rfl) (c_zint_Of fu a0 qa0 t1 he2) rfl (fun S w h => trivial)) fun u4 _ => TL_mv 1 [(4, .pointer (some ⟨b1, 0, none⟩)), (19, u4), (20, iv (a1))] rfl fun rest => ?_
 obtain ⟨⟨t2, x1⟩, he3, H⟩ := bd_s H
 refine TL_step rfl rfl (oe_call (by kernel_rfl) (c_zint_Pow fu t1 u4 a1 qa1 t2 x1 he3) rfl (fun S w h => ⟨h.1, trivial⟩)) fun u5 hk1 => TL_mv 2 [(4, .pointer (some ⟨b1, 0, none⟩)), (22, u5), (23, iv (x1))] rfl fun rest => TL_og rfl rfl (og_store' (f := eZ) (y' := t2) (z2 := t2) 0 rfl rfl rfl (Sub.self eZ ((false, []))) ty25 (fun S w h => h.1) rfl) fun _ _ => ?_
 show TL _ _ _ _ [mB (ERep.c eZ) 25 b1 (t2)] [fV eZ (t2) u5, fV eZ (t1) u4] _ _ _ _
 refine TL_mv 1 [(4, .pointer (some ⟨b1, 0, none⟩)), (5, iv (x1))] rfl fun rest => TL_nil <| T_ret ?_
 obtain ⟨rfl, rfl⟩ := inj2 H
 intro w hw
 change RetQ _ _ _ _ _ _ _ .ret _ w
 refine Ret_cN (e := eZ) (z := t2) 4 0 hw rfl (by exact rfl) ty25 fun r_4 hw hr_4 => ?_
 exact RetN (vs := [r_4, (iv (x1) : Value)]) r_4 Tryz.results13 (by exact ⟨hr_4, rfl, trivial⟩) rfl hk1 hw (fun S w h => ⟨h.1, trivial⟩)
set_option maxRecDepth 100000 in
set_option maxHeartbeats 1000000 in
theorem c_zint_Sign (fu : Nat) (a0 : Zr) (va0 : Value) (r0 : Int) (H : M_zint_Sign fu a0 = some r0) : Fn Tryz.prog 36 [va0].toArray [fV eZ (a0) va0] (fun _ : Unit => iv (r0)) (fun _ => []) (fun _ => InR r0) := by
 unfold M_zint_Sign at H
 refine Fn_intro Tryz.func36 rfl rfl fun we Se rest => T_seq <| T_region <| TL_og rfl rfl (og_boxM (e := eZ) (z := a0) rfl (fun S w h => h.1)) fun b1 _ => ?_
 show TL _ _ _ _ [mB (ERep.c eZ) 25 b1 (a0)] [fV eZ (a0) va0] _ _ _ _
 refine TL_mv 1 [(1, .pointer (some ⟨b1, 0, none⟩))] rfl fun rest => TL_nil <| T_seq <| T_region <| TL_step rfl rfl (oe_loadM (z' := a0) 0 rfl rfl (Sub.self eZ (a0)) ty25) fun u1 _ => ?_
 obtain ⟨t1, he1, H⟩ := bd_s H
 refine TL_step rfl rfl (oe_call (by kernel_rfl) (c_zint_Norm fu a0 u1 t1 he1) rfl (fun S w h => ⟨h.1, trivial⟩)) fun u2 _ => TL_og rfl rfl (og_store' (f := eZ) (y' := t1) (z2 := t1) 0 rfl rfl rfl (Sub.self eZ (a0)) ty25 (fun S w h => h.1) rfl) fun _ _ => ?_
 show TL _ _ _ _ [mB (ERep.c eZ) 25 b1 (t1)] [fV eZ (t1) u2, fV eZ (a0) u1, fV eZ (a0) va0] _ _ _ _
 refine TL_mv 0 [(1, .pointer (some ⟨b1, 0, none⟩))] rfl fun rest => TL_nil <| T_seq <| T_region <| TL_mv 1 [(1, .pointer (some ⟨b1, 0, none⟩)), (3, iv 0)] rfl fun rest => TL_nil ?_
 refine T_seq <| T_block <| T_seq <| T_block <| T_seq <| T_block ?_
 refine T_seq <| T_seq <| T_seq <| T_region <| TL_val rfl rfl (r_field fl25_0 rfl) <| TL_step rfl rfl (oe_loadM_bool (z' := t1.1) 0 rfl rfl (Sub.fst eBool (eS eU) (t1)) ty4) fun _ _ => ?_
 refine TL_mv 1 [(1, .pointer (some ⟨b1, 0, none⟩)), (3, iv 0), (6, .bool (t1.1))] rfl fun rest => TL_nil <| T_cond (t1.1) rfl (fun hb1 => ?_) (fun hb1 => ?_)
 ·replace H := if_t hb1 H
  refine T_exit <| T_region <| TL_mv 1 [(14, iv 0)] rfl fun rest => ?_
  obtain ⟨x1, hx1, hrx1, H⟩ := ck64_s H
  refine TL_val rfl rfl (r_sub (c := x1) rfl rfl (w_x hx1 hrx1)) <| TL_mv 1 [(3, iv (x1))] rfl fun rest => TL_nil <| T_seq <| T_region <| TL_mv 1 [(16, iv (x1))] rfl fun rest => ?_
  obtain ⟨x2, hx2, hrx2, H⟩ := ck64_s H
  refine TL_val rfl rfl (r_add (c := x2) rfl rfl (w_x hx2 hrx2)) <| TL_mv 1 [(3, iv (x2))] rfl fun rest => TL_nil <| T_exit <| T_seq <| T_region ?_
  refine TL_mv 2 [(2, iv (x2))] rfl fun rest => TL_nil <| T_ret ?_
  obtain rfl := inj1 H
  exact Ret1 () Tryz.results36 rfl hrx2 (fun S w h => trivial)
 replace H := ifb_f hb1 H
 refine T_skip <| T_seq <| T_region <| TL_val rfl rfl (r_field fl25_1 rfl) <| TL_step rfl rfl (oe_loadM (z' := t1.2) 0 rfl rfl (Sub.snd eBool (eS eU) (t1)) ty23) fun u3 _ => TL_step rfl rfl (oe_len (e := eU) (xs := t1.2) Tryz.underlying23 rfl (fun S w h => h.1)) fun _ hl1 => ?_
 refine TL_gtr rfl rfl rfl rfl (fun h1 => ?_) (fun h1 => ?_)
 ·replace H := if_t h1 H
  refine TL_mv 1 [(3, iv 0), (9, .bool true)] rfl fun rest => TL_nil <| T_cond_true rfl <| T_exit <| T_seq <| T_region ?_
  refine TL_mv 1 [(16, iv 0)] rfl fun rest => ?_
  obtain ⟨x3, hx3, hrx3, H⟩ := ck64_s H
  refine TL_val rfl rfl (r_add (c := x3) rfl rfl (w_x hx3 hrx3)) <| TL_mv 1 [(3, iv (x3))] rfl fun rest => TL_nil <| T_exit <| T_seq <| T_region ?_
  refine TL_mv 2 [(2, iv (x3))] rfl fun rest => TL_nil <| T_ret ?_
  obtain rfl := inj1 H
  exact Ret1 () Tryz.results36 rfl hrx3 (fun S w h => trivial)
 replace H := if_f h1 H
 refine TL_mv 1 [(3, iv 0), (9, .bool false)] rfl fun rest => TL_nil <| T_cond_false rfl <| T_skip <| T_exit <| T_seq ?_
 refine T_region <| TL_mv 2 [(2, iv 0)] rfl fun rest => TL_nil <| T_ret ?_
 obtain rfl := inj1 H
 exact Ret1 () Tryz.results36 rfl (show InR (0) by decide) (fun S w h => trivial)
set_option maxRecDepth 100000 in
set_option maxHeartbeats 1000000 in
theorem c_zpoly_Norm_1 (fu : Nat) (a0 : Int) (qa0 : InR a0) (a1 : Zr) (va1 : Value) (r0 : Zr) (H : M_zpoly_Norm_1 fu a0 a1 = some r0) : Fn Tryz.prog 95 [iv a0, va1].toArray [fV eZ (a1) va1] (fun u : Value => u) (fun u => [fV eZ (r0) u]) (fun _ => True) := by
 unfold M_zpoly_Norm_1 at H
 refine Fn_intro Tryz.func95 rfl rfl fun we Se rest => T_seq <| T_region <| TL_step rfl rfl (oe_box (e := eZ) (z := a1) rfl (fun S w h => h.1)) fun p1 _ => TL_og rfl rfl (og_allocM (e := ERep.c eZ) (z := (false, [])) ty25 (fun S w => z25 S w)) fun b1 _ => ?_
 show TL _ _ _ _ [mB (ERep.c eZ) 25 b1 ((false, []))] [fP eZ (a1) p1, fV eZ (a1) va1] _ _ _ _
 refine TL_mv 0 [(3, p1), (4, .pointer (some ⟨b1, 0, none⟩))] rfl fun rest => TL_nil <| T_seq <| T_region <| TL_step rfl rfl (oe_load (e := eZ) (y := a1) rfl ty25 (fun S w h => h.1)) fun u1 _ => ?_
 obtain ⟨t1, he1, H⟩ := bd_s H
 refine TL_step rfl rfl (oe_call (by kernel_rfl) (c_zint_Norm fu a1 u1 t1 he1) rfl (fun S w h => ⟨h.1, trivial⟩)) fun u2 _ => TL_og rfl rfl (og_store' (f := eZ) (y' := t1) (z2 := t1) 0 rfl rfl rfl (Sub.self eZ ((false, []))) ty25 (fun S w h => h.1) rfl) fun _ _ => ?_
 show TL _ _ _ _ [mB (ERep.c eZ) 25 b1 (t1)] [fV eZ (t1) u2, fV eZ (a1) u1, fP eZ (a1) p1, fV eZ (a1) va1] _ _ _ _
 refine TL_mv 0 [(4, .pointer (some ⟨b1, 0, none⟩))] rfl fun rest => TL_nil <| T_ret ?_
 obtain rfl := inj1 H
 intro w hw
 change RetQ _ _ _ _ _ _ _ .ret _ w
 refine Ret_cN (e := eZ) (z := t1) 4 0 hw rfl (by exact rfl) ty25 fun r_1 hw hr_1 => ?_
 exact RetN (vs := [r_1]) r_1 Tryz.results95 (by exact ⟨hr_1, trivial⟩) rfl trivial hw (fun S w h => ⟨h.1, trivial⟩)
set_option maxRecDepth 100000 in
set_option maxHeartbeats 1000000 in
theorem c_zpoly_each_api_Int_api_Int (fu : Nat) (a0 : List Zr) (va0 : Value) (a1 : Int → Zr → Option Zr) (fid : Nat) (caps : List Value) (FG : List FF) (hB : fnB Tryz.prog fid = true) (hF : ∀ (xa0 : Int) (qxa0 : InR xa0) (xa1 : Zr) (vxa1 : Value) (y0 : Zr), a1 xa0 xa1 = some y0 → Fn Tryz.prog fid ([(iv xa0 : Value), (vxa1 : Value)] ++ caps).toArray ([fV eZ (xa1) vxa1] ++ FG) (fun u : Value => u) (fun u => [fV eZ (y0) u]) (fun _ => True)) (r0 : List Zr) (H : M_zpoly_each_api_Int_api_Int fu a0 a1 = some r0) : FnG Tryz.prog 94 [va0, .func (.func fid) #[] caps.toArray].toArray [] ([fV (eS eZ) (a0) va0] ++ FG) (fun u : Value => u) (fun u => [mO eZ 25 u (r0)]) (fun u => []) (fun _ => True) := by
 unfold M_zpoly_each_api_Int_api_Int at H
 refine FnG_intro Tryz.func94 rfl rfl fun we Se F G rest => T_seq <| T_region <| TL_mv 1 [(0, va0), (1, .func (.func fid) #[] caps.toArray)] rfl fun rest => TL_nil <| T_seq ?_
 refine T_region <| TL_mv 1 [(0, va0), (1, .func (.func fid) #[] caps.toArray), (8, va0)] rfl fun rest => TL_step rfl rfl (oe_len (e := eZ) (xs := a0) Tryz.underlying31 rfl (fun S w h => h.1)) fun _ hl1 => ?_
 obtain ⟨hk1, H⟩ := ck_s H
 obtain ⟨t1, ht1, H⟩ := nm_s H
 refine TL_og rfl rfl (og_make' (e := eZ) (z := (false, [])) (xs := t1) (n := a0.length) Tryz.underlying31 ty25 rfl rfl (by decide) hk1 (fun S w => z25 S w) ht1) fun b1 _ => ?_
 show TL _ _ _ _ (mB (rowT eZ a0.length) 25 b1 (t1) :: F) (fV (eS eZ) (a0) va0 :: (FG ++ G)) _ _ _ _
 refine TL_mv 1 [(0, va0), (1, .func (.func fid) #[] caps.toArray), (5, .slice (some ⟨b1, 0, none⟩) a0.length a0.length)] rfl fun rest => TL_nil <| T_seq <| T_seq <| T_region <| TL_mv 1 [(1, .func (.func fid) #[] caps.toArray), (5, .slice (some ⟨b1, 0, none⟩) a0.length a0.length), (11, va0)] rfl fun rest => ?_
 refine TL_step rfl rfl (oe_len (e := eZ) (xs := a0) Tryz.underlying31 rfl (fun S w h => h.1)) fun _ hl2 => TL_mv 1 [(1, .func (.func fid) #[] caps.toArray), (5, .slice (some ⟨b1, 0, none⟩) a0.length a0.length), (11, va0), (12, iv ((a0.length : Nat) : Int)), (13, iv 0)] rfl fun rest => TL_nil <| T_block ?_
 obtain ⟨s1, hL, Hc⟩ := bd_s H
 refine T_X [(.x 0, JQ we Se (G := List Zr) (fun t5 => (⟨(mB (rowT eZ a0.length) 25 b1 (t5) :: F), ((FG ++ G)), [(5, .slice (some ⟨b1, 0, none⟩) a0.length a0.length)]⟩ : Inv)) (fun t5 => t5 = s1 ∧ t5.length = a0.length))] ?_ ⟨?_, trivial⟩
 ·refine T_loop_s (G := Nat × Int × (List Zr)) (s1 := _) (f := _) (k := fun (n1, i3, t4) => n1) (σ := fun (n1, i3, t4) => (i3, t4)) (fun (n1, i3, t4) => (⟨(mB (rowT eZ a0.length) 25 b1 (t4) :: F), (fV (eS eZ) (a0) va0 :: (FG ++ G)), [(1, .func (.func fid) #[] caps.toArray), (5, .slice (some ⟨b1, 0, none⟩) a0.length a0.length), (11, va0), (12, iv ((a0.length : Nat) : Int)), (13, iv (i3))]⟩ : Inv)) (fun (n1, i3, t4) => InR i3 ∧ t4.length = a0.length) (fu, 0, t1) hL (And.intro (show InR (0) by decide) (rep_len ht1)) rfl (fun w h => St.weak h (fun S w h => ⟨h.1, h.2⟩)) ?_
  rintro ⟨n1, i3, t4⟩ ⟨H, hr3, hz3⟩ rest
  rcases n1 with _ | n1
  ·exact (loopN_z H).elim
  replace H := loopN_s H
  unfold B_zpoly_each_api_Int_api_Int_0 at H
  refine T_prune [(1, .func (.func fid) #[] caps.toArray), (5, .slice (some ⟨b1, 0, none⟩) a0.length a0.length), (11, va0), (12, iv ((a0.length : Nat) : Int)), (13, iv (i3))] rfl fun rest => T_weak (mB (rowT eZ a0.length) 25 b1 (t4) :: F) (fV (eS eZ) (a0) va0 :: (FG ++ G)) (fun w h => h) <| T_seq ?_
  obtain ⟨s2, hL, Hc⟩ := bd_s H
  refine T_X [(.n, JQ we Se (G := Bool) (fun b2 => (⟨(mB (rowT eZ a0.length) 25 b1 (t4) :: F), (fV (eS eZ) (a0) va0 :: (FG ++ G)), [(1, .func (.func fid) #[] caps.toArray), (5, .slice (some ⟨b1, 0, none⟩) a0.length a0.length), (11, va0), (12, iv ((a0.length : Nat) : Int)), (13, iv (i3)), (14, .bool (b2))]⟩ : Inv)) (fun b2 => b2 = s2))] ?_ ⟨?_, trivial⟩
  ·replace H := hL
   refine T_region <| TL_lss rfl rfl rfl rfl (fun h1 => ?_) (fun h1 => ?_)
   ·replace H := if_t h1 H
    refine TL_mv 0 [(1, .func (.func fid) #[] caps.toArray), (5, .slice (some ⟨b1, 0, none⟩) a0.length a0.length), (11, va0), (12, iv ((a0.length : Nat) : Int)), (13, iv (i3)), (14, .bool true)] rfl fun rest => TL_nil ?_
    exact JQ_mk true (Option.some.inj H) rfl (fun w h => St.weak h (fun S w h => ⟨h.1, h.2⟩))
   replace H := if_f h1 H
   refine TL_mv 0 [(1, .func (.func fid) #[] caps.toArray), (5, .slice (some ⟨b1, 0, none⟩) a0.length a0.length), (11, va0), (12, iv ((a0.length : Nat) : Int)), (13, iv (i3)), (14, .bool false)] rfl fun rest => TL_nil ?_
   exact JQ_mk false (Option.some.inj H) rfl (fun w h => St.weak h (fun S w h => ⟨h.1, h.2⟩))
  refine JQ_el' ?_
  rintro b2 hs rest
  subst hs
  replace H := Hc
  clear hL
  refine JG_to (ms' := (mB (rowT eZ a0.length) 25 b1 (t4) :: F)) (Γ' := (fV (eS eZ) (a0) va0 :: (FG ++ G))) (live' := [(1, .func (.func fid) #[] caps.toArray), (5, .slice (some ⟨b1, 0, none⟩) a0.length a0.length), (11, va0), (12, iv ((a0.length : Nat) : Int)), (13, iv (i3)), (14, .bool (b2))]) rfl <| T_seq <| T_cond (b2) rfl (fun hb1 => ?_) (fun hb1 => ?_)
  ·replace H := if_t hb1 H
   refine T_skip <| T_seq <| T_block <| T_seq <| T_region <| TL_mv 1 [(1, .func (.func fid) #[] caps.toArray), (5, .slice (some ⟨b1, 0, none⟩) a0.length a0.length), (11, va0), (12, iv ((a0.length : Nat) : Int)), (13, iv (i3)), (15, iv (i3))] rfl fun rest => ?_
   obtain ⟨j1, hj1, hlj1, H⟩ := ckI_s H
   obtain ⟨y1, hy1, H⟩ := nm_s H
   refine TL_step rfl rfl (oe_index (e := eZ) (xs := a0) (k := j1) (y := y1) rfl (vi hj1) Tryz.underlying31 ty25 (getE (z := (false, [])) hlj1 hy1) (fun S w h => h.1)) fun p1 _ => TL_step rfl rfl (oe_load (e := eZ) (y := y1) rfl ty25 (fun S w h => h.1)) fun u1 _ => TL_og rfl rfl (og_allocM (e := ERep.c eZ) (z := (false, [])) ty25 (fun S w => z25 S w)) fun b3 _ => ?_
   show TL _ _ _ _ (mB (ERep.c eZ) 25 b3 ((false, [])) :: mB (rowT eZ a0.length) 25 b1 (t4) :: F) (fV eZ (y1) u1 :: fP eZ (y1) p1 :: fV (eS eZ) (a0) va0 :: (FG ++ G)) _ _ _ _
   refine TL_mv 1 [(1, .func (.func fid) #[] caps.toArray), (5, .slice (some ⟨b1, 0, none⟩) a0.length a0.length), (6, iv (i3)), (7, .pointer (some ⟨b3, 0, none⟩)), (11, va0), (12, iv ((a0.length : Nat) : Int)), (13, iv (i3)), (17, u1)] rfl fun rest => TL_og rfl rfl (og_store' (f := eZ) (y' := y1) (z2 := y1) 0 rfl rfl rfl (Sub.self eZ ((false, []))) ty25 (fun S w h => h.1) rfl) fun _ _ => ?_
   show TL _ _ _ _ (mB (ERep.c eZ) 25 b3 (y1) :: mB (rowT eZ a0.length) 25 b1 (t4) :: F) (fV eZ (y1) u1 :: fP eZ (y1) p1 :: fV (eS eZ) (a0) va0 :: (FG ++ G)) _ _ _ _
   refine TL_mv 0 [(1, .func (.func fid) #[] caps.toArray), (5, .slice (some ⟨b1, 0, none⟩) a0.length a0.length), (6, iv (i3)), (7, .pointer (some ⟨b3, 0, none⟩)), (11, va0), (12, iv ((a0.length : Nat) : Int)), (13, iv (i3))] rfl fun rest => TL_nil <| T_region <| TL_mv 4 [(1, .func (.func fid) #[] caps.toArray), (5, .slice (some ⟨b1, 0, none⟩) a0.length a0.length), (7, .pointer (some ⟨b3, 0, none⟩)), (11, va0), (12, iv ((a0.length : Nat) : Int)), (13, iv (i3)), (18, .slice (some ⟨b1, 0, none⟩) a0.length a0.length), (19, iv (i3)), (20, .func (.func fid) #[] caps.toArray), (21, iv (i3))] rfl fun rest => TL_step rfl rfl (oe_loadM (z' := y1) 0 rfl rfl (Sub.self eZ (y1)) ty25) fun u2 _ => ?_
   obtain ⟨t6, he1, H⟩ := bd_s H
   refine TL_step rfl rfl (oe_callv (args := [(iv (i3) : Value), u2]) (caps := caps) hB rfl (hF i3 hr3 y1 u2 t6 he1) rfl (fun S w h => ⟨h.1, (All.left h.2.2.2.2)⟩)) fun u3 _ => ?_
   obtain ⟨j2, hj2, hlj2, H⟩ := ckI_s H
   refine TL_val rfl rfl (r_index Tryz.underlying31 ty25 rfl (vi hj2) (k := j2) (lt_of_len hlj2 hz3)) ?_
   obtain ⟨t7, ht7, H⟩ := nm_s H
   refine TL_og rfl rfl (og_store' (f := eZ) (y' := t6) (z2 := t7) 1 rfl rfl rfl (Sub.rowT0 eZ a0.length (t4) j2 _ (getD_some ((false, [])) (lt_of_len' (lt_of_len hlj2 hz3) hz3))) ty25 (fun S w h => h.1) ht7) fun _ _ => ?_
   show TL _ _ _ _ (mB (ERep.c eZ) 25 b3 (y1) :: mB (rowT eZ a0.length) 25 b1 (t7) :: F) (fV eZ (t6) u3 :: fV eZ (y1) u2 :: fV eZ (y1) u1 :: fP eZ (y1) p1 :: fV (eS eZ) (a0) va0 :: (FG ++ G)) _ _ _ _
   refine TL_mv 0 [(1, .func (.func fid) #[] caps.toArray), (5, .slice (some ⟨b1, 0, none⟩) a0.length a0.length), (11, va0), (12, iv ((a0.length : Nat) : Int)), (13, iv (i3))] rfl fun rest => TL_nil <| T_region ?_
   obtain ⟨x1, hx1, hrx1, H⟩ := ck64_s H
   refine TL_val rfl rfl (r_add (c := x1) rfl rfl (w_x hx1 hrx1)) <| TL_mv 1 [(1, .func (.func fid) #[] caps.toArray), (5, .slice (some ⟨b1, 0, none⟩) a0.length a0.length), (11, va0), (12, iv ((a0.length : Nat) : Int)), (13, iv (x1))] rfl fun rest => TL_nil ?_
   exact St_round_s (n1, x1, t7) H (And.intro hrx1 (set_len ht7 hz3)) (Nat.lt_succ_self _) rfl (fun w h => St.weak (St.drop (i := 0) h) (fun S w h => ⟨h.2.2.2.2.1, h.2.2.2.2.2⟩))
  replace H := ifb_f hb1 H
  refine T_exit ?_
  exact JQ_mk t4 (And.intro (Option.some.inj H) hz3) rfl (fun w h => St.weak h (fun S w h => h.2))
 refine JQ_el' ?_
 rintro t5 ⟨hs, hz4⟩ rest
 subst hs
 replace H := Hc
 clear hL
 refine JG_to (ms' := (mB (rowT eZ a0.length) 25 b1 (t5) :: F)) (Γ' := ((FG ++ G))) (live' := [(5, .slice (some ⟨b1, 0, none⟩) a0.length a0.length)]) rfl <| T_seq <| T_region <| TL_mv 2 [(4, .slice (some ⟨b1, 0, none⟩) a0.length a0.length)] rfl fun rest => TL_nil <| T_ret ?_
 refine T_weak_st (fun w h => close_all 0 h rfl hz4 (Nat.le_refl _) (mk_le (B := 32) (by decide) hk1)) ?_
 obtain rfl := inj1 H
 intro w hw
 exact RetG (vs := [(.slice (some ⟨b1, 0, none⟩) a0.length a0.length)]) (.slice (some ⟨b1, 0, none⟩) a0.length a0.length) Tryz.results94 (by exact ⟨rfl, trivial⟩) rfl trivial (St.weak hw (fun S w h => (All.right h)))
set_option maxRecDepth 100000 in
set_option maxHeartbeats 1000000 in
theorem c_zpoly_Norm (fu : Nat) (a0 : List Zr) (va0 : Value) (r0 : List Zr) (H : M_zpoly_Norm fu a0 = some r0) : FnG Tryz.prog 30 [va0].toArray [] [fV (eS eZ) (a0) va0] (fun u : Value => u) (fun u => [mO eZ 25 u (r0)]) (fun u => []) (fun _ => True) := by
 unfold M_zpoly_Norm at H
 refine FnG_intro Tryz.func30 rfl rfl fun we Se F G rest => T_seq <| T_region <| TL_mv 1 [(0, va0)] rfl fun rest => TL_nil <| T_seq ?_
 refine T_block ?_
 obtain ⟨s1, hL, Hc⟩ := bd_s H
 refine T_X [(.x 0, JQ we Se (G := (List Zr) × Value) (fun (t4, w4) => (⟨(F), (fV (eS eZ) (t4) w4 :: G), [(0, w4)]⟩ : Inv)) (fun (t4, w4) => t4 = s1))] ?_ ⟨?_, trivial⟩
 ·refine T_loop_s (G := Nat × (List Zr) × Value) (s1 := _) (f := _) (k := fun (n1, t3, w3) => n1) (σ := fun (n1, t3, w3) => t3) (fun (n1, t3, w3) => (⟨(F), (fV (eS eZ) (t3) w3 :: G), [(0, w3)]⟩ : Inv)) (fun (n1, t3, w3) => True) (fu, a0, va0) hL trivial rfl (fun w h => St.weak h (fun S w h => ⟨h.1, h.2⟩)) ?_
  rintro ⟨n1, t3, w3⟩ ⟨H, _⟩ rest
  rcases n1 with _ | n1
  ·exact (loopN_z H).elim
  replace H := loopN_s H
  unfold B_zpoly_Norm_0 at H
  refine T_prune [(0, w3)] rfl fun rest => T_weak (F) (fV (eS eZ) (t3) w3 :: G) (fun w h => h) <| T_seq <| T_seq <| T_region <| TL_mv 1 [(0, w3), (3, w3)] rfl fun rest => ?_
  refine TL_step rfl rfl (oe_len (e := eZ) (xs := t3) Tryz.underlying31 rfl (fun S w h => h.1)) fun _ hl1 => TL_gtr rfl rfl rfl rfl (fun h1 => ?_) (fun h1 => ?_)
  ·replace H := if_t h1 H
   refine TL_mv 3 [(0, w3), (6, .bool true), (7, w3), (8, w3)] rfl fun rest => TL_step rfl rfl (oe_len (e := eZ) (xs := t3) Tryz.underlying31 rfl (fun S w h => h.1)) fun _ hl2 => ?_
   obtain ⟨x1, hx1, hrx1, H⟩ := ck64_s H
   refine TL_val rfl rfl (r_sub (c := x1) rfl rfl (w_x hx1 hrx1)) ?_
   obtain ⟨j1, hj1, hlj1, H⟩ := ckI_s H
   obtain ⟨y1, hy1, H⟩ := nm_s H
   refine TL_step rfl rfl (oe_index (e := eZ) (xs := t3) (k := j1) (y := y1) rfl (vi hj1) Tryz.underlying31 ty25 (getE (z := (false, [])) hlj1 hy1) (fun S w h => h.1)) fun p1 _ => TL_step rfl rfl (oe_load (e := eZ) (y := y1) rfl ty25 (fun S w h => h.1)) fun u1 _ => ?_
   obtain ⟨x2, he1, H⟩ := bd_s H
   refine TL_step rfl rfl (oe_call (by kernel_rfl) (c_zint_Sign fu y1 u1 x2 he1) rfl (fun S w h => ⟨h.1, trivial⟩)) fun _ hk1 => TL_eql rfl rfl rfl rfl (fun h2 => ?_) (fun h2 => ?_)
   ·replace H := if_t h2 H
    refine TL_mv 1 [(0, w3), (7, w3), (8, w3), (9, iv ((t3.length : Nat) : Int)), (10, iv (x1)), (11, p1), (12, u1), (13, iv (x2)), (14, .bool true), (15, .bool true)] rfl fun rest => TL_nil <| T_cond_true rfl <| T_skip <| T_block <| T_region ?_
    refine TL_mv 2 [(7, w3), (8, w3), (9, iv ((t3.length : Nat) : Int)), (10, iv (x1)), (11, p1), (12, u1), (13, iv (x2)), (14, .bool true), (16, w3), (17, w3)] rfl fun rest => TL_step rfl rfl (oe_len (e := eZ) (xs := t3) Tryz.underlying31 rfl (fun S w h => h.2.2.1)) fun _ hl3 => ?_
    obtain ⟨x3, hx3, hrx3, H⟩ := ck64_s H
    refine TL_val rfl rfl (r_sub (c := x3) rfl rfl (w_x hx3 hrx3)) ?_
    obtain ⟨j2, hj2, H⟩ := ckN_s H
    obtain ⟨hk2, H⟩ := ck_s H
    obtain ⟨y2, hy2, H⟩ := nm_s H
    refine TL_step rfl rfl (oe_as (oe_sliceT (e := eZ) (xs := t3) (h := j2) rfl Tryz.underlying31 ty25 (vi hj2) hk2 (fun S w h => h.2.2.1)) hy2) fun u2 _ => TL_mv 1 [(0, u2), (7, w3), (8, w3), (9, iv ((t3.length : Nat) : Int)), (10, iv (x1)), (11, p1), (12, u1), (13, iv (x2)), (14, .bool true)] rfl fun rest => TL_nil ?_
    exact St_round_s (n1, y2, u2) H trivial (Nat.lt_succ_self _) rfl (fun w h => St.weak h (fun S w h => ⟨h.1, h.2.2.2.2⟩))
   replace H := if_f h2 H
   refine TL_mv 1 [(0, w3), (7, w3), (8, w3), (9, iv ((t3.length : Nat) : Int)), (10, iv (x1)), (11, p1), (12, u1), (13, iv (x2)), (14, .bool false), (15, .bool false)] rfl fun rest => TL_nil <| T_cond_false rfl <| T_exit ?_
   exact JQ_mk (t3, w3) (Option.some.inj H) rfl (fun w h => St.weak h (fun S w h => ⟨h.2.2.1, h.2.2.2⟩))
  replace H := if_f h1 H
  refine TL_mv 10 [(0, w3), (15, .bool false)] rfl fun rest => TL_nil <| T_cond_false rfl <| T_exit ?_
  exact JQ_mk (t3, w3) (Option.some.inj H) rfl (fun w h => St.weak h (fun S w h => ⟨h.1, h.2⟩))
 refine JQ_el' ?_
 rintro ⟨t4, w4⟩ hs rest
 subst hs
 replace H := Hc
 clear hL
 refine JG_to (ms' := (F)) (Γ' := (fV (eS eZ) (t4) w4 :: G)) (live' := [(0, w4)]) rfl <| T_seq <| T_region <| TL_mv 1 [(21, w4)] rfl fun rest => ?_
 obtain ⟨t5, he2, H⟩ := bd_s H
 refine TL_og rfl rfl (og_callG (F := (F)) (by kernel_rfl) (c_zpoly_each_api_Int_api_Int fu t4 w4 (fun zx0 zx1 => M_zpoly_Norm_1 fu zx0 zx1) 95 [] [] (by kernel_rfl) (fun zx0 qzx0 zx1 vzx1 zy0 hh => c_zpoly_Norm_1 fu zx0 qzx0 zx1 vzx1 zy0 hh) t5 he2) rfl (fun S w h => ⟨h.1, trivial⟩)) fun u3 _ => ?_
 show TL _ _ _ _ (mO eZ 25 u3 (t5) :: F) (fV (eS eZ) (t4) w4 :: G) _ _ _ _
 refine TL_mv 1 [(2, u3)] rfl fun rest => TL_nil <| T_ret ?_
 obtain rfl := inj1 H
 intro w hw
 exact RetG (vs := [u3]) u3 Tryz.results30 (by exact ⟨rfl, trivial⟩) rfl trivial (St.weak hw (fun S w h => h.2))
set_option maxRecDepth 100000 in
set_option maxHeartbeats 1000000 in
theorem c_hensel_rests (fu : Nat) (a0 : List Zr) (va0 : Value) (a1 : Zr) (va1 : Value) (a2 : Zr → Zr → Option (Zr × Int)) (fid : Nat) (caps : List Value) (FG : List FF) (hB : fnB Tryz.prog fid = true) (hF : ∀ (xa0 : Zr) (vxa0 : Value) (xa1 : Zr) (vxa1 : Value) (y0 : Zr) (y1 : Int), a2 xa0 xa1 = some (y0, y1) → Fn Tryz.prog fid ([(vxa0 : Value), (vxa1 : Value)] ++ caps).toArray ([fV eZ (xa0) vxa0, fV eZ (xa1) vxa1] ++ FG) (fun u : Value => .tuple #[u, iv (y1)]) (fun u => [fV eZ (y0) u]) (fun _ => InR y1)) (r0 : List Zr) (r1 : Int) (H : M_hensel_rests fu a0 a1 a2 = some (r0, r1)) : FnG Tryz.prog 78 [va0, va1, .func (.func fid) #[] caps.toArray].toArray [] ([fV (eS eZ) (a0) va0, fV eZ (a1) va1] ++ FG) (fun u : Value => .tuple #[u, iv (r1)]) (fun u => [mO eZ 25 u (r0)]) (fun u => []) (fun _ => InR r1) := by
 unfold M_hensel_rests at H
 refine FnG_intro Tryz.func78 rfl rfl fun we Se F G rest => T_seq <| T_region <| TL_step rfl rfl (oe_box (e := eZ) (z := a1) rfl (fun S w h => h.2.1)) fun p1 _ => TL_mv 2 [(0, va0), (2, .func (.func fid) #[] caps.toArray), (4, p1)] rfl fun rest => TL_nil ?_
 refine T_seq <| T_seq <| T_region <| TL_step rfl rfl (oe_load (e := eZ) (y := a1) rfl ty25 (fun S w h => h.1)) fun u1 _ => ?_
 obtain ⟨x1, he1, H⟩ := bd_s H
 refine TL_step rfl rfl (oe_call (by kernel_rfl) (c_zint_Sign fu a1 u1 x1 he1) rfl (fun S w h => ⟨h.1, trivial⟩)) fun _ hk1 => TL_leq rfl rfl rfl rfl (fun h1 => ?_) (fun h1 => ?_)
 ·replace H := if_t h1 H
  refine TL_mv 0 [(0, va0), (2, .func (.func fid) #[] caps.toArray), (4, p1), (13, .bool true)] rfl fun rest => TL_nil <| T_cond_true rfl <| T_seq <| T_region <| TL_mv 2 [(6, .slice none 0 0), (7, iv 1)] rfl fun rest => ?_
  refine TL_nil <| T_ret <| T_weak_st (fun w h => St.nilO (e := eZ) (E := 25) h) ?_
  obtain ⟨rfl, rfl⟩ := inj2 H
  intro w hw
  exact RetG (vs := [(.slice none 0 0), (iv 1 : Value)]) (.slice none 0 0) Tryz.results78 (by exact ⟨rfl, rfl, trivial⟩) rfl (show InR (1) by decide) (St.weak hw (fun S w h => (All.right h.2.2.2.2)))
 replace H := if_f h1 H
 refine TL_mv 0 [(0, va0), (2, .func (.func fid) #[] caps.toArray), (4, p1), (13, .bool false)] rfl fun rest => TL_nil <| T_cond_false rfl <| T_skip <| T_seq <| T_region ?_
 refine TL_mv 1 [(0, va0), (2, .func (.func fid) #[] caps.toArray), (4, p1), (14, va0)] rfl fun rest => TL_step rfl rfl (oe_len (e := eZ) (xs := a0) Tryz.underlying31 rfl (fun S w h => h.2.2.1)) fun _ hl1 => ?_
 obtain ⟨hk2, H⟩ := ck_s H
 obtain ⟨t1, ht1, H⟩ := nm_s H
 refine TL_og rfl rfl (og_make' (e := eZ) (z := (false, [])) (xs := t1) (n := a0.length) Tryz.underlying31 ty25 rfl rfl (by decide) hk2 (fun S w => z25 S w) ht1) fun b1 _ => ?_
 show TL _ _ _ _ (mB (rowT eZ a0.length) 25 b1 (t1) :: F) (fV eZ (a1) u1 :: fP eZ (a1) p1 :: fV (eS eZ) (a0) va0 :: fV eZ (a1) va1 :: (FG ++ G)) _ _ _ _
 refine TL_mv 1 [(0, va0), (2, .func (.func fid) #[] caps.toArray), (4, p1), (8, .slice (some ⟨b1, 0, none⟩) a0.length a0.length)] rfl fun rest => TL_nil <| T_seq <| T_seq <| T_region <| TL_mv 1 [(2, .func (.func fid) #[] caps.toArray), (4, p1), (8, .slice (some ⟨b1, 0, none⟩) a0.length a0.length), (17, va0)] rfl fun rest => ?_
 refine TL_step rfl rfl (oe_len (e := eZ) (xs := a0) Tryz.underlying31 rfl (fun S w h => h.2.2.1)) fun _ hl2 => TL_mv 1 [(2, .func (.func fid) #[] caps.toArray), (4, p1), (8, .slice (some ⟨b1, 0, none⟩) a0.length a0.length), (17, va0), (18, iv ((a0.length : Nat) : Int)), (19, iv 0)] rfl fun rest => TL_nil <| T_block ?_
 obtain ⟨s1, hL, Hc⟩ := bd_s H
 refine T_X [(.x 0, JQ we Se (G := List Zr) (fun t5 => (⟨(mB (rowT eZ a0.length) 25 b1 (t5) :: F), ((FG ++ G)), [(8, .slice (some ⟨b1, 0, none⟩) a0.length a0.length)]⟩ : Inv)) (fun t5 => t5 = s1 ∧ t5.length = a0.length))] ?_ ⟨?_, trivial⟩
 ·refine T_loop_s (G := Nat × Int × (List Zr)) (s1 := _) (f := _) (k := fun (n1, i3, t4) => n1) (σ := fun (n1, i3, t4) => (i3, t4)) (fun (n1, i3, t4) => (⟨(mB (rowT eZ a0.length) 25 b1 (t4) :: F), (fP eZ (a1) p1 :: fV (eS eZ) (a0) va0 :: (FG ++ G)), [(2, .func (.func fid) #[] caps.toArray), (4, p1), (8, .slice (some ⟨b1, 0, none⟩) a0.length a0.length), (17, va0), (18, iv ((a0.length : Nat) : Int)), (19, iv (i3))]⟩ : Inv)) (fun (n1, i3, t4) => InR i3 ∧ t4.length = a0.length) (fu, 0, t1) hL (And.intro (show InR (0) by decide) (rep_len ht1)) rfl (fun w h => St.weak h (fun S w h => ⟨h.2.1, h.2.2.1, h.2.2.2.2⟩)) ?_
  rintro ⟨n1, i3, t4⟩ ⟨H, hr3, hz3⟩ rest
  rcases n1 with _ | n1
  ·exact (loopN_z H).elim
  replace H := loopN_s H
  unfold B_hensel_rests_0 at H
  refine T_prune [(2, .func (.func fid) #[] caps.toArray), (4, p1), (8, .slice (some ⟨b1, 0, none⟩) a0.length a0.length), (17, va0), (18, iv ((a0.length : Nat) : Int)), (19, iv (i3))] rfl fun rest => T_weak (mB (rowT eZ a0.length) 25 b1 (t4) :: F) (fP eZ (a1) p1 :: fV (eS eZ) (a0) va0 :: (FG ++ G)) (fun w h => h) <| T_seq ?_
  obtain ⟨s2, hL, Hc⟩ := bd_s H
  refine T_X [(.n, JQ we Se (G := Bool) (fun b2 => (⟨(mB (rowT eZ a0.length) 25 b1 (t4) :: F), (fP eZ (a1) p1 :: fV (eS eZ) (a0) va0 :: (FG ++ G)), [(2, .func (.func fid) #[] caps.toArray), (4, p1), (8, .slice (some ⟨b1, 0, none⟩) a0.length a0.length), (17, va0), (18, iv ((a0.length : Nat) : Int)), (19, iv (i3)), (20, .bool (b2))]⟩ : Inv)) (fun b2 => b2 = s2))] ?_ ⟨?_, trivial⟩
  ·replace H := hL
   refine T_region <| TL_lss rfl rfl rfl rfl (fun h2 => ?_) (fun h2 => ?_)
   ·replace H := if_t h2 H
    refine TL_mv 0 [(2, .func (.func fid) #[] caps.toArray), (4, p1), (8, .slice (some ⟨b1, 0, none⟩) a0.length a0.length), (17, va0), (18, iv ((a0.length : Nat) : Int)), (19, iv (i3)), (20, .bool true)] rfl fun rest => TL_nil ?_
    exact JQ_mk true (Option.some.inj H) rfl (fun w h => St.weak h (fun S w h => ⟨h.1, h.2.1, h.2.2⟩))
   replace H := if_f h2 H
   refine TL_mv 0 [(2, .func (.func fid) #[] caps.toArray), (4, p1), (8, .slice (some ⟨b1, 0, none⟩) a0.length a0.length), (17, va0), (18, iv ((a0.length : Nat) : Int)), (19, iv (i3)), (20, .bool false)] rfl fun rest => TL_nil ?_
   exact JQ_mk false (Option.some.inj H) rfl (fun w h => St.weak h (fun S w h => ⟨h.1, h.2.1, h.2.2⟩))
  refine JQ_el' ?_
  rintro b2 hs rest
  subst hs
  replace H := Hc
  clear hL
  refine JG_to (ms' := (mB (rowT eZ a0.length) 25 b1 (t4) :: F)) (Γ' := (fP eZ (a1) p1 :: fV (eS eZ) (a0) va0 :: (FG ++ G))) (live' := [(2, .func (.func fid) #[] caps.toArray), (4, p1), (8, .slice (some ⟨b1, 0, none⟩) a0.length a0.length), (17, va0), (18, iv ((a0.length : Nat) : Int)), (19, iv (i3)), (20, .bool (b2))]) rfl <| T_seq <| T_cond (b2) rfl (fun hb1 => ?_) (fun hb1 => ?_)
  ·replace H := if_t hb1 H
   refine T_skip <| T_seq <| T_block <| T_seq <| T_region <| TL_mv 1 [(2, .func (.func fid) #[] caps.toArray), (4, p1), (8, .slice (some ⟨b1, 0, none⟩) a0.length a0.length), (17, va0), (18, iv ((a0.length : Nat) : Int)), (19, iv (i3)), (21, iv (i3))] rfl fun rest => ?_
   obtain ⟨j1, hj1, hlj1, H⟩ := ckI_s H
   obtain ⟨y1, hy1, H⟩ := nm_s H
   refine TL_step rfl rfl (oe_index (e := eZ) (xs := a0) (k := j1) (y := y1) rfl (vi hj1) Tryz.underlying31 ty25 (getE (z := (false, [])) hlj1 hy1) (fun S w h => h.2.1)) fun p2 _ => TL_step rfl rfl (oe_load (e := eZ) (y := y1) rfl ty25 (fun S w h => h.1)) fun u2 _ => TL_og rfl rfl (og_allocM (e := ERep.c eZ) (z := (false, [])) ty25 (fun S w => z25 S w)) fun b3 _ => ?_
   show TL _ _ _ _ (mB (ERep.c eZ) 25 b3 ((false, [])) :: mB (rowT eZ a0.length) 25 b1 (t4) :: F) (fV eZ (y1) u2 :: fP eZ (y1) p2 :: fP eZ (a1) p1 :: fV (eS eZ) (a0) va0 :: (FG ++ G)) _ _ _ _
   refine TL_mv 1 [(2, .func (.func fid) #[] caps.toArray), (4, p1), (8, .slice (some ⟨b1, 0, none⟩) a0.length a0.length), (9, iv (i3)), (10, .pointer (some ⟨b3, 0, none⟩)), (17, va0), (18, iv ((a0.length : Nat) : Int)), (19, iv (i3)), (23, u2)] rfl fun rest => TL_og rfl rfl (og_store' (f := eZ) (y' := y1) (z2 := y1) 0 rfl rfl rfl (Sub.self eZ ((false, []))) ty25 (fun S w h => h.1) rfl) fun _ _ => ?_
   show TL _ _ _ _ (mB (ERep.c eZ) 25 b3 (y1) :: mB (rowT eZ a0.length) 25 b1 (t4) :: F) (fV eZ (y1) u2 :: fP eZ (y1) p2 :: fP eZ (a1) p1 :: fV (eS eZ) (a0) va0 :: (FG ++ G)) _ _ _ _
   refine TL_mv 0 [(2, .func (.func fid) #[] caps.toArray), (4, p1), (8, .slice (some ⟨b1, 0, none⟩) a0.length a0.length), (9, iv (i3)), (10, .pointer (some ⟨b3, 0, none⟩)), (17, va0), (18, iv ((a0.length : Nat) : Int)), (19, iv (i3))] rfl fun rest => TL_nil <| T_region <| TL_mv 3 [(2, .func (.func fid) #[] caps.toArray), (4, p1), (8, .slice (some ⟨b1, 0, none⟩) a0.length a0.length), (10, .pointer (some ⟨b3, 0, none⟩)), (17, va0), (18, iv ((a0.length : Nat) : Int)), (19, iv (i3)), (25, .slice (some ⟨b1, 0, none⟩) a0.length a0.length), (26, iv (i3)), (27, .func (.func fid) #[] caps.toArray)] rfl fun rest => TL_step rfl rfl (oe_loadM (z' := y1) 0 rfl rfl (Sub.self eZ (y1)) ty25) fun u3 _ => TL_step rfl rfl (oe_load (e := eZ) (y := a1) rfl ty25 (fun S w h => h.2.2.2.1)) fun u4 _ => ?_
   obtain ⟨⟨t6, x2⟩, he2, H⟩ := bd_s H
   refine TL_step rfl rfl (oe_callv (args := [u3, u4]) (caps := caps) hB rfl (hF y1 u3 a1 u4 t6 x2 he2) rfl (fun S w h => ⟨h.2.1, h.1, (All.left h.2.2.2.2.2.2)⟩)) fun u5 hk3 => TL_mv 3 [(2, .func (.func fid) #[] caps.toArray), (4, p1), (8, .slice (some ⟨b1, 0, none⟩) a0.length a0.length), (17, va0), (18, iv ((a0.length : Nat) : Int)), (19, iv (i3)), (25, .slice (some ⟨b1, 0, none⟩) a0.length a0.length), (26, iv (i3)), (31, u5)] rfl fun rest => ?_
   obtain ⟨j2, hj2, hlj2, H⟩ := ckI_s H
   refine TL_val rfl rfl (r_index Tryz.underlying31 ty25 rfl (vi hj2) (k := j2) (lt_of_len hlj2 hz3)) ?_
   obtain ⟨t7, ht7, H⟩ := nm_s H
   refine TL_og rfl rfl (og_store' (f := eZ) (y' := t6) (z2 := t7) 1 rfl rfl rfl (Sub.rowT0 eZ a0.length (t4) j2 _ (getD_some ((false, [])) (lt_of_len' (lt_of_len hlj2 hz3) hz3))) ty25 (fun S w h => h.1) ht7) fun _ _ => ?_
   show TL _ _ _ _ (mB (ERep.c eZ) 25 b3 (y1) :: mB (rowT eZ a0.length) 25 b1 (t7) :: F) (fV eZ (t6) u5 :: fV eZ (a1) u4 :: fV eZ (y1) u3 :: fV eZ (y1) u2 :: fP eZ (y1) p2 :: fP eZ (a1) p1 :: fV (eS eZ) (a0) va0 :: (FG ++ G)) _ _ _ _
   refine TL_mv 0 [(2, .func (.func fid) #[] caps.toArray), (4, p1), (8, .slice (some ⟨b1, 0, none⟩) a0.length a0.length), (17, va0), (18, iv ((a0.length : Nat) : Int)), (19, iv (i3))] rfl fun rest => TL_sel (fP eZ (a1) p1 :: fV (eS eZ) (a0) va0 :: (FG ++ G)) (fun S w h => ⟨h.2.2.2.2.2.1, h.2.2.2.2.2.2.1, h.2.2.2.2.2.2.2⟩) <| TL_nil <| T_region ?_
   obtain ⟨x3, hx3, hrx3, H⟩ := ck64_s H
   refine TL_val rfl rfl (r_add (c := x3) rfl rfl (w_x hx3 hrx3)) <| TL_mv 1 [(2, .func (.func fid) #[] caps.toArray), (4, p1), (8, .slice (some ⟨b1, 0, none⟩) a0.length a0.length), (17, va0), (18, iv ((a0.length : Nat) : Int)), (19, iv (x3))] rfl fun rest => TL_nil ?_
   exact St_round_s (n1, x3, t7) H (And.intro hrx3 (set_len ht7 hz3)) (Nat.lt_succ_self _) rfl (fun w h => St.weak (St.drop (i := 0) h) (fun S w h => ⟨h.1, h.2.1, h.2.2⟩))
  replace H := ifb_f hb1 H
  refine T_exit ?_
  exact JQ_mk t4 (And.intro (Option.some.inj H) hz3) rfl (fun w h => St.weak h (fun S w h => h.2.2))
 refine JQ_el' ?_
 rintro t5 ⟨hs, hz4⟩ rest
 subst hs
 replace H := Hc
 clear hL
 refine JG_to (ms' := (mB (rowT eZ a0.length) 25 b1 (t5) :: F)) (Γ' := ((FG ++ G))) (live' := [(8, .slice (some ⟨b1, 0, none⟩) a0.length a0.length)]) rfl <| T_seq <| T_region <| TL_mv 1 [(35, .slice (some ⟨b1, 0, none⟩) a0.length a0.length)] rfl fun rest => TL_weak_st (fun w h => fz_all 0 h rfl hz4 (Nat.le_refl _) (mk_le (B := 32) (by decide) hk2)) ?_
 obtain ⟨t8, he3, H⟩ := bd_s H
 refine TL_og rfl rfl (og_callG (F := (F)) (by kernel_rfl) (c_zpoly_Norm fu t5 ((.slice (some ⟨b1, 0, none⟩) a0.length a0.length)) t8 he3) rfl (fun S w h => ⟨h.1, trivial⟩)) fun u6 _ => ?_
 show TL _ _ _ _ (mO eZ 25 u6 (t8) :: F) (fV (eS eZ) (t5) ((.slice (some ⟨b1, 0, none⟩) a0.length a0.length)) :: (FG ++ G)) _ _ _ _
 refine TL_mv 2 [(6, u6), (7, iv 0)] rfl fun rest => TL_nil <| T_ret ?_
 obtain ⟨rfl, rfl⟩ := inj2 H
 intro w hw
 exact RetG (vs := [u6, (iv 0 : Value)]) u6 Tryz.results78 (by exact ⟨rfl, rfl, trivial⟩) rfl (show InR (0) by decide) (St.weak hw (fun S w h => (All.right h.2)))
set_option maxRecDepth 100000 in
set_option maxHeartbeats 1000000 in
theorem c_cmp_isNaN_int (fu : Nat) (a0 : Int) (qa0 : InR a0) (r0 : Bool) (H : M_cmp_isNaN_int fu a0 = some r0) : Fn Tryz.prog 247 [iv a0].toArray [] (fun _ : Unit => .bool (r0)) (fun _ => []) (fun _ => True) := by
 unfold M_cmp_isNaN_int at H
 refine Fn_intro Tryz.func247 rfl rfl fun we Se rest => T_seq <| T_region <| TL_mv 1 [(0, iv (a0))] rfl fun rest => TL_nil <| T_seq ?_
 refine T_region <| TL_mv 2 [(3, iv (a0)), (4, iv (a0))] rfl fun rest => TL_val (v := .bool false) rfl rfl (v_b (r_neq rfl rfl) (by simp)) <| TL_mv 1 [(2, .bool false)] rfl fun rest => TL_nil <| T_ret ?_
 obtain rfl := inj1 H
 exact Ret1 () Tryz.results247 rfl trivial (fun S w h => trivial)
set_option maxRecDepth 100000 in
set_option maxHeartbeats 1000000 in
theorem c_cmp_Compare_int (fu : Nat) (a0 : Int) (qa0 : InR a0) (a1 : Int) (qa1 : InR a1) (r0 : Int) (H : M_cmp_Compare_int fu a0 a1 = some r0) : Fn Tryz.prog 214 [iv a0, iv a1].toArray [] (fun _ : Unit => iv (r0)) (fun _ => []) (fun _ => InR r0) := by
 unfold M_cmp_Compare_int at H
 refine Fn_intro Tryz.func214 rfl rfl fun we Se rest => T_seq <| T_region <| TL_mv 1 [(0, iv (a0)), (1, iv (a1))] rfl fun rest => TL_nil <| T_seq ?_
 refine T_region <| TL_mv 1 [(0, iv (a0)), (1, iv (a1)), (7, iv (a0))] rfl fun rest => ?_
 obtain ⟨c1, he1, H⟩ := bd_s H
 refine TL_step rfl rfl (oe_call (by kernel_rfl) (c_cmp_isNaN_int fu a0 qa0 c1 he1) rfl (fun S w h => trivial)) fun _ _ => TL_mv 1 [(0, iv (a0)), (1, iv (a1)), (5, .bool (c1))] rfl fun rest => TL_nil <| T_seq <| T_region <| TL_mv 1 [(0, iv (a0)), (1, iv (a1)), (5, .bool (c1)), (9, iv (a1))] rfl fun rest => ?_
 obtain ⟨c2, he2, H⟩ := bd_s H
 refine TL_step rfl rfl (oe_call (by kernel_rfl) (c_cmp_isNaN_int fu a1 qa1 c2 he2) rfl (fun S w h => trivial)) fun _ _ => TL_mv 1 [(0, iv (a0)), (1, iv (a1)), (5, .bool (c1)), (6, .bool (c2))] rfl fun rest => TL_nil <| T_seq <| T_seq <| T_region ?_
 refine TL_mv 1 [(0, iv (a0)), (1, iv (a1)), (6, .bool (c2)), (11, .bool (c1))] rfl fun rest => TL_nil <| T_cond (c1) rfl (fun hb1 => ?_) (fun hb1 => ?_)
 ·replace H := if_t hb1 H
  refine T_seq <| T_seq <| T_region <| TL_mv 1 [(12, .bool (c2))] rfl fun rest => TL_nil <| T_cond (c2) rfl (fun hb2 => ?_) (fun hb2 => ?_)
  ·replace H := if_t hb2 H
   refine T_seq <| T_region <| TL_mv 1 [(4, iv 0)] rfl fun rest => TL_nil <| T_ret ?_
   obtain rfl := inj1 H
   exact Ret1 () Tryz.results214 rfl (show InR (0) by decide) (fun S w h => trivial)
  replace H := ifb_f hb2 H
  refine T_skip <| T_seq <| T_region <| TL_mv 1 [(4, iv (-1))] rfl fun rest => TL_nil <| T_ret ?_
  obtain rfl := inj1 H
  exact Ret1 () Tryz.results214 rfl (show InR (-1) by decide) (fun S w h => trivial)
 replace H := ifb_f hb1 H
 refine T_skip <| T_seq <| T_seq <| T_region <| TL_mv 1 [(0, iv (a0)), (1, iv (a1)), (13, .bool (c2))] rfl fun rest => TL_nil ?_
 refine T_cond (c2) rfl (fun hb3 => ?_) (fun hb3 => ?_)
 ·replace H := if_t hb3 H
  refine T_seq <| T_region <| TL_mv 1 [(4, iv 1)] rfl fun rest => TL_nil <| T_ret ?_
  obtain rfl := inj1 H
  exact Ret1 () Tryz.results214 rfl (show InR (1) by decide) (fun S w h => trivial)
 replace H := ifb_f hb3 H
 refine T_skip <| T_seq <| T_seq <| T_region <| TL_mv 2 [(0, iv (a0)), (1, iv (a1)), (14, iv (a0)), (15, iv (a1))] rfl fun rest => TL_lss rfl rfl rfl rfl (fun h1 => ?_) (fun h1 => ?_)
 ·replace H := if_t h1 H
  refine TL_mv 0 [(0, iv (a0)), (1, iv (a1)), (16, .bool true)] rfl fun rest => TL_nil <| T_cond_true rfl <| T_seq <| T_region <| TL_mv 1 [(4, iv (-1))] rfl fun rest => ?_
  refine TL_nil <| T_ret ?_
  obtain rfl := inj1 H
  exact Ret1 () Tryz.results214 rfl (show InR (-1) by decide) (fun S w h => trivial)
 replace H := if_f h1 H
 refine TL_mv 0 [(0, iv (a0)), (1, iv (a1)), (16, .bool false)] rfl fun rest => TL_nil <| T_cond_false rfl <| T_skip <| T_seq <| T_seq ?_
 refine T_region <| TL_mv 2 [(17, iv (a0)), (18, iv (a1))] rfl fun rest => TL_gtr rfl rfl rfl rfl (fun h2 => ?_) (fun h2 => ?_)
 ·replace H := if_t h2 H
  refine TL_mv 0 [(19, .bool true)] rfl fun rest => TL_nil <| T_cond_true rfl <| T_seq <| T_region <| TL_mv 1 [(4, iv 1)] rfl fun rest => ?_
  refine TL_nil <| T_ret ?_
  obtain rfl := inj1 H
  exact Ret1 () Tryz.results214 rfl (show InR (1) by decide) (fun S w h => trivial)
 replace H := if_f h2 H
 refine TL_mv 0 [(19, .bool false)] rfl fun rest => TL_nil <| T_cond_false rfl <| T_skip <| T_seq <| T_region ?_
 refine TL_mv 1 [(4, iv 0)] rfl fun rest => TL_nil <| T_ret ?_
 obtain rfl := inj1 H
 exact Ret1 () Tryz.results214 rfl (show InR (0) by decide) (fun S w h => trivial)
set_option maxRecDepth 100000 in
set_option maxHeartbeats 1000000 in
theorem c_cmp_isNaN_uint64 (fu : Nat) (a0 : Nat) (qa0 : InU a0) (r0 : Bool) (H : M_cmp_isNaN_uint64 fu a0 = some r0) : Fn Tryz.prog 248 [uv a0].toArray [] (fun _ : Unit => .bool (r0)) (fun _ => []) (fun _ => True) := by
 unfold M_cmp_isNaN_uint64 at H
 refine Fn_intro Tryz.func248 rfl rfl fun we Se rest => T_seq <| T_region <| TL_mv 1 [(0, uv a0)] rfl fun rest => TL_nil <| T_seq ?_
 refine T_region <| TL_mv 2 [(3, uv a0), (4, uv a0)] rfl fun rest => TL_val (v := .bool false) rfl rfl (v_b (r_neq rfl rfl) (by simp)) <| TL_mv 1 [(2, .bool false)] rfl fun rest => TL_nil <| T_ret ?_
 obtain rfl := inj1 H
 exact Ret1 () Tryz.results248 rfl trivial (fun S w h => trivial)
set_option maxRecDepth 100000 in
set_option maxHeartbeats 1000000 in
theorem c_cmp_Compare_uint64 (fu : Nat) (a0 : Nat) (qa0 : InU a0) (a1 : Nat) (qa1 : InU a1) (r0 : Int) (H : M_cmp_Compare_uint64 fu a0 a1 = some r0) : Fn Tryz.prog 215 [uv a0, uv a1].toArray [] (fun _ : Unit => iv (r0)) (fun _ => []) (fun _ => InR r0) := by
 unfold M_cmp_Compare_uint64 at H
 refine Fn_intro Tryz.func215 rfl rfl fun we Se rest => T_seq <| T_region <| TL_mv 1 [(0, uv a0), (1, uv a1)] rfl fun rest => TL_nil <| T_seq ?_
 refine T_region <| TL_mv 1 [(0, uv a0), (1, uv a1), (7, uv a0)] rfl fun rest => ?_
 obtain ⟨c1, he1, H⟩ := bd_s H
 refine TL_step rfl rfl (oe_call (by kernel_rfl) (c_cmp_isNaN_uint64 fu a0 qa0 c1 he1) rfl (fun S w h => trivial)) fun _ _ => TL_mv 1 [(0, uv a0), (1, uv a1), (5, .bool (c1))] rfl fun rest => TL_nil <| T_seq <| T_region <| TL_mv 1 [(0, uv a0), (1, uv a1), (5, .bool (c1)), (9, uv a1)] rfl fun rest => ?_
 obtain ⟨c2, he2, H⟩ := bd_s H
 refine TL_step rfl rfl (oe_call (by kernel_rfl) (c_cmp_isNaN_uint64 fu a1 qa1 c2 he2) rfl (fun S w h => trivial)) fun _ _ => TL_mv 1 [(0, uv a0), (1, uv a1), (5, .bool (c1)), (6, .bool (c2))] rfl fun rest => TL_nil <| T_seq <| T_seq <| T_region ?_
 refine TL_mv 1 [(0, uv a0), (1, uv a1), (6, .bool (c2)), (11, .bool (c1))] rfl fun rest => TL_nil <| T_cond (c1) rfl (fun hb1 => ?_) (fun hb1 => ?_)
 ·replace H := if_t hb1 H
  refine T_seq <| T_seq <| T_region <| TL_mv 1 [(12, .bool (c2))] rfl fun rest => TL_nil <| T_cond (c2) rfl (fun hb2 => ?_) (fun hb2 => ?_)
  ·replace H := if_t hb2 H
   refine T_seq <| T_region <| TL_mv 1 [(4, iv 0)] rfl fun rest => TL_nil <| T_ret ?_
   obtain rfl := inj1 H
   exact Ret1 () Tryz.results215 rfl (show InR (0) by decide) (fun S w h => trivial)
  replace H := ifb_f hb2 H
  refine T_skip <| T_seq <| T_region <| TL_mv 1 [(4, iv (-1))] rfl fun rest => TL_nil <| T_ret ?_
  obtain rfl := inj1 H
  exact Ret1 () Tryz.results215 rfl (show InR (-1) by decide) (fun S w h => trivial)
 replace H := ifb_f hb1 H
 refine T_skip <| T_seq <| T_seq <| T_region <| TL_mv 1 [(0, uv a0), (1, uv a1), (13, .bool (c2))] rfl fun rest => TL_nil ?_
 refine T_cond (c2) rfl (fun hb3 => ?_) (fun hb3 => ?_)
 ·replace H := if_t hb3 H
  refine T_seq <| T_region <| TL_mv 1 [(4, iv 1)] rfl fun rest => TL_nil <| T_ret ?_
  obtain rfl := inj1 H
  exact Ret1 () Tryz.results215 rfl (show InR (1) by decide) (fun S w h => trivial)
 replace H := ifb_f hb3 H
 refine T_skip <| T_seq <| T_seq <| T_region <| TL_mv 2 [(0, uv a0), (1, uv a1), (14, uv a0), (15, uv a1)] rfl fun rest => TL_lss rfl rfl rfl rfl (fun h1 => ?_) (fun h1 => ?_)
 ·replace H := if_t h1 H
  refine TL_mv 0 [(0, uv a0), (1, uv a1), (16, .bool true)] rfl fun rest => TL_nil <| T_cond_true rfl <| T_seq <| T_region <| TL_mv 1 [(4, iv (-1))] rfl fun rest => ?_
  refine TL_nil <| T_ret ?_
  obtain rfl := inj1 H
  exact Ret1 () Tryz.results215 rfl (show InR (-1) by decide) (fun S w h => trivial)
 replace H := if_f h1 H
 refine TL_mv 0 [(0, uv a0), (1, uv a1), (16, .bool false)] rfl fun rest => TL_nil <| T_cond_false rfl <| T_skip <| T_seq <| T_seq ?_
 refine T_region <| TL_mv 2 [(17, uv a0), (18, uv a1)] rfl fun rest => TL_gtr rfl rfl rfl rfl (fun h2 => ?_) (fun h2 => ?_)
 ·replace H := if_t h2 H
  refine TL_mv 0 [(19, .bool true)] rfl fun rest => TL_nil <| T_cond_true rfl <| T_seq <| T_region <| TL_mv 1 [(4, iv 1)] rfl fun rest => ?_
  refine TL_nil <| T_ret ?_
  obtain rfl := inj1 H
  exact Ret1 () Tryz.results215 rfl (show InR (1) by decide) (fun S w h => trivial)
 replace H := if_f h2 H
 refine TL_mv 0 [(19, .bool false)] rfl fun rest => TL_nil <| T_cond_false rfl <| T_skip <| T_seq <| T_region ?_
 refine TL_mv 1 [(4, iv 0)] rfl fun rest => TL_nil <| T_ret ?_
 obtain rfl := inj1 H
 exact Ret1 () Tryz.results215 rfl (show InR (0) by decide) (fun S w h => trivial)
set_option maxRecDepth 100000 in
set_option maxHeartbeats 1000000 in
theorem c_nat_Cmp (fu : Nat) (a0 : List Nat) (va0 : Value) (a1 : List Nat) (va1 : Value) (r0 : Int) (H : M_nat_Cmp fu a0 a1 = some r0) : Fn Tryz.prog 158 [va0, va1].toArray [fV (eS eU) (a0) va0, fV (eS eU) (a1) va1] (fun _ : Unit => iv (r0)) (fun _ => []) (fun _ => InR r0) := by
 unfold M_nat_Cmp at H
 refine Fn_intro Tryz.func158 rfl rfl fun we Se rest => T_seq <| T_region <| TL_mv 1 [(0, va0), (1, va1)] rfl fun rest => TL_nil <| T_seq ?_
 refine T_region <| TL_mv 1 [(1, va1), (6, va0)] rfl fun rest => ?_
 obtain ⟨t1, he1, H⟩ := bd_s H
 refine TL_step rfl rfl (oe_call (by kernel_rfl) (c_nat_plain fu a0 va0 t1 he1) rfl (fun S w h => ⟨h.1, trivial⟩)) fun u1 _ => TL_mv 1 [(7, u1), (8, va1)] rfl fun rest => ?_
 obtain ⟨t2, he2, H⟩ := bd_s H
 refine TL_step rfl rfl (oe_call (by kernel_rfl) (c_nat_plain fu a1 va1 t2 he2) rfl (fun S w h => ⟨h.2.2.1, trivial⟩)) fun u2 _ => TL_mv 2 [(0, u1), (1, u2)] rfl fun rest => TL_nil <| T_seq <| T_seq <| T_region ?_
 refine TL_mv 1 [(0, u1), (1, u2), (10, u1)] rfl fun rest => TL_step rfl rfl (oe_len (e := eU) (xs := t1) Tryz.underlying23 rfl (fun S w h => h.2.1)) fun _ hl1 => TL_mv 1 [(0, u1), (1, u2), (11, iv ((t1.length : Nat) : Int)), (12, u2)] rfl fun rest => TL_step rfl rfl (oe_len (e := eU) (xs := t2) Tryz.underlying23 rfl (fun S w h => h.1)) fun _ hl2 => TL_neq rfl rfl rfl rfl (fun h1 => ?_) (fun h1 => ?_)
 ·replace H := if_f h1 H
  refine TL_mv 0 [(0, u1), (1, u2), (14, .bool true)] rfl fun rest => TL_nil <| T_cond_true rfl <| T_seq <| T_region <| TL_mv 1 [(1, u2), (15, u1)] rfl fun rest => ?_
  refine TL_step rfl rfl (oe_len (e := eU) (xs := t1) Tryz.underlying23 rfl (fun S w h => h.2.1)) fun _ hl3 => TL_mv 1 [(16, iv ((t1.length : Nat) : Int)), (17, u2)] rfl fun rest => TL_step rfl rfl (oe_len (e := eU) (xs := t2) Tryz.underlying23 rfl (fun S w h => h.1)) fun _ hl4 => ?_
  obtain ⟨x1, he3, H⟩ := bd_s H
  refine TL_step rfl rfl (oe_call (by kernel_rfl) (c_cmp_Compare_int fu (((t1.length : Nat) : Int)) (len_r hl3) (((t2.length : Nat) : Int)) (len_r hl4) x1 he3) rfl (fun S w h => trivial)) fun _ hk1 => TL_mv 1 [(4, iv (x1))] rfl fun rest => TL_nil <| T_ret ?_
  obtain rfl := inj1 H
  exact Ret1 () Tryz.results158 rfl hk1 (fun S w h => trivial)
 replace H := if_t h1 H
 refine TL_mv 0 [(0, u1), (1, u2), (14, .bool false)] rfl fun rest => TL_nil <| T_cond_false rfl <| T_skip <| T_seq <| T_seq ?_
 refine T_region <| TL_mv 1 [(0, u1), (1, u2), (20, u1)] rfl fun rest => TL_step rfl rfl (oe_len (e := eU) (xs := t1) Tryz.underlying23 rfl (fun S w h => h.2.1)) fun _ hl5 => ?_
 obtain ⟨x2, hx2, hrx2, H⟩ := ck64_s H
 refine TL_val rfl rfl (r_sub (c := x2) rfl rfl (w_x hx2 hrx2)) <| TL_mv 1 [(0, u1), (1, u2), (5, iv (x2))] rfl fun rest => TL_nil <| T_block ?_
 obtain ⟨s1, hL, Hc⟩ := bd_s H
 refine T_X [(.x 0, JQ we Se (G := Unit) (fun _ => (⟨[], [], []⟩ : Inv)) (fun _ => .inl () = s1)), (.r, JQ we Se (G := Int) (fun i4 => (⟨[], [], [(4, iv (i4))]⟩ : Inv)) (fun i4 => .inr i4 = s1 ∧ InR i4))] ?_ ⟨?_, ?_, trivial⟩
 ·refine T_loop_s (G := Nat × Int) (s1 := _) (f := _) (k := fun (n1, i3) => n1) (σ := fun (n1, i3) => i3) (fun (n1, i3) => (⟨[], [fV (eS eU) (t2) u2, fV (eS eU) (t1) u1], [(0, u1), (1, u2), (5, iv (i3))]⟩ : Inv)) (fun (n1, i3) => InR i3) (fu, x2) hL hrx2 rfl (fun w h => St.weak h (fun S w h => ⟨h.1, h.2.1, trivial⟩)) ?_
  rintro ⟨n1, i3⟩ ⟨H, hr3⟩ rest
  rcases n1 with _ | n1
  ·exact (loopN_z H).elim
  replace H := loopN_s H
  unfold B_nat_Cmp_0 at H
  refine T_prune [(0, u1), (1, u2), (5, iv (i3))] rfl fun rest => T_weak [] [fV (eS eU) (t2) u2, fV (eS eU) (t1) u1] (fun w h => h) <| T_seq <| T_seq <| T_region <| TL_mv 1 [(0, u1), (1, u2), (5, iv (i3)), (23, iv (i3))] rfl fun rest => ?_
  refine TL_geq rfl rfl rfl rfl (fun h2 => ?_) (fun h2 => ?_)
  ·replace H := if_t h2 H
   refine TL_mv 0 [(0, u1), (1, u2), (5, iv (i3)), (24, .bool true)] rfl fun rest => TL_nil <| T_cond_true rfl <| T_skip <| T_seq <| T_block ?_
   refine T_seq ?_
   obtain ⟨j1, hj1, hlj1, H⟩ := ckI_s H
   obtain ⟨y1, hy1, H⟩ := nm_s H
   obtain ⟨j2, hj2, hlj2, H⟩ := ckI_s H
   obtain ⟨y2, hy2, H⟩ := nm_s H
   refine T_draw 8 [prV (u1), prE (fun _ : Unit => iv (i3)) (fun _ => []) (fun _ => InR i3), prE (fun u : Value => u) (fun u => [fP eU (y1) u]) (fun _ => True), prE (fun _ : Unit => uv y1) (fun _ => []) (fun _ => y1 < 18446744073709551616), prV (u2), prE (fun _ : Unit => iv (i3)) (fun _ => []) (fun _ => InR i3), prE (fun u : Value => u) (fun u => [fP eU (y2) u]) (fun _ => True), prE (fun _ : Unit => uv y2) (fun _ => []) (fun _ => y2 < 18446744073709551616)] [0, 1, 5, 30, 34] rfl (by kernel_rfl) rfl (by kernel_rfl) ⟨?_, ?_, ?_, ?_, ?_, ?_, ?_, ?_, trivial⟩ ?_
   ·intro S w env hS hM hΓ hl
    obtain ⟨e0, _⟩ := hl
    exact ⟨fun _ => ob_mv (e0.trans rfl), fun hc => (by cases hc)⟩
   ·intro S w env hS hM hΓ hl
    obtain ⟨e5, _⟩ := hl
    exact ⟨fun _ => ob_VE (p := InR i3) (r_mv (e5.trans rfl)) hr3, fun hc => (by cases hc)⟩
   ·intro S w env hS hM hΓ hl
    obtain ⟨e27, ⟨_, e28, ho1, f28⟩, _⟩ := hl
    exact ⟨fun _ => ob_E (Γ := [fV (eS eU) (t2) u2, fV (eS eU) (t1) u1]) (oe_index (e := eU) (xs := t1) (k := j1) (y := y1) e27 (e28.trans (vi hj1)) Tryz.underlying23 ty102 (getE (z := 0) hlj1 hy1) (fun S w h => h.2.1)) hS hM hΓ, fun hc => (by cases hc)⟩
   ·intro S w env hS hM hΓ hl
    obtain ⟨⟨p1, e29, _, f29⟩, _⟩ := hl
    exact ⟨fun _ => ob_E (Γ := [fP eU (y1) p1, fV (eS eU) (t2) u2, fV (eS eU) (t1) u1]) (oe_load_u64 (y := y1) e29 ty102 (fun S w h => h.1)) hS hM ⟨f29.1, hΓ⟩, fun hc => (by cases hc)⟩
   ·intro S w env hS hM hΓ hl
    obtain ⟨e1, _⟩ := hl
    exact ⟨fun _ => ob_mv (e1.trans rfl), fun hc => (by cases hc)⟩
   ·intro S w env hS hM hΓ hl
    obtain ⟨e5, _⟩ := hl
    exact ⟨fun _ => ob_VE (p := InR i3) (r_mv (e5.trans rfl)) hr3, fun hc => (by cases hc)⟩
   ·intro S w env hS hM hΓ hl
    obtain ⟨e31, ⟨_, e32, ho2, f32⟩, _⟩ := hl
    exact ⟨fun _ => ob_E (Γ := [fV (eS eU) (t2) u2, fV (eS eU) (t1) u1]) (oe_index (e := eU) (xs := t2) (k := j2) (y := y2) e31 (e32.trans (vi hj2)) Tryz.underlying23 ty102 (getE (z := 0) hlj2 hy2) (fun S w h => h.1)) hS hM hΓ, fun hc => (by cases hc)⟩
   ·intro S w env hS hM hΓ hl
    obtain ⟨⟨p2, e33, _, f33⟩, _⟩ := hl
    exact ⟨fun _ => ob_E (Γ := [fP eU (y2) p2, fV (eS eU) (t2) u2, fV (eS eU) (t1) u1]) (oe_load_u64 (y := y2) e33 ty102 (fun S w h => h.1)) hS hM ⟨f33.1, hΓ⟩, fun hc => (by cases hc)⟩
   intro S w env hS hΓ hl
   obtain ⟨e0, e1, e5, ⟨_, e30, hv1, f30⟩, ⟨_, e34, hv2, f34⟩, _⟩ := hl
   refine ⟨[fV (eS eU) (t2) u2, fV (eS eU) (t1) u1], [(0, u1), (1, u2), (5, iv (i3)), (30, uv y1), (34, uv y2)], hΓ, (agr ⟨(e0.trans rfl), (e1.trans rfl), (e5.trans rfl), e30, e34, trivial⟩), fun rest => ?_⟩
   refine TL_neq rfl rfl rfl rfl (fun h3 => ?_) (fun h3 => ?_)
   ·replace H := if_f h3 H
    refine TL_mv 0 [(0, u1), (1, u2), (5, iv (i3)), (35, .bool true)] rfl fun rest => TL_nil <| T_cond_true rfl <| T_seq ?_
    obtain ⟨j3, hj3, hlj3, H⟩ := ckI_s H
    obtain ⟨y3, hy3, H⟩ := nm_s H
    obtain ⟨j4, hj4, hlj4, H⟩ := ckI_s H
    obtain ⟨y4, hy4, H⟩ := nm_s H
    refine T_draw 8 [prV (u1), prE (fun _ : Unit => iv (i3)) (fun _ => []) (fun _ => InR i3), prE (fun u : Value => u) (fun u => [fP eU (y3) u]) (fun _ => True), prE (fun _ : Unit => uv y3) (fun _ => []) (fun _ => y3 < 18446744073709551616), prV (u2), prE (fun _ : Unit => iv (i3)) (fun _ => []) (fun _ => InR i3), prE (fun u : Value => u) (fun u => [fP eU (y4) u]) (fun _ => True), prE (fun _ : Unit => uv y4) (fun _ => []) (fun _ => y4 < 18446744073709551616)] [39, 43] rfl (by kernel_rfl) rfl (by kernel_rfl) ⟨?_, ?_, ?_, ?_, ?_, ?_, ?_, ?_, trivial⟩ ?_
    ·intro S w env hS hM hΓ hl
     obtain ⟨e0, _⟩ := hl
     exact ⟨fun _ => ob_mv (e0.trans rfl), fun hc => (by cases hc)⟩
    ·intro S w env hS hM hΓ hl
     obtain ⟨e5, _⟩ := hl
     exact ⟨fun _ => ob_VE (p := InR i3) (r_mv (e5.trans rfl)) hr3, fun hc => (by cases hc)⟩
    ·intro S w env hS hM hΓ hl
     obtain ⟨e36, ⟨_, e37, ho3, f37⟩, _⟩ := hl
     exact ⟨fun _ => ob_E (Γ := [fV (eS eU) (t2) u2, fV (eS eU) (t1) u1]) (oe_index (e := eU) (xs := t1) (k := j3) (y := y3) e36 (e37.trans (vi hj3)) Tryz.underlying23 ty102 (getE (z := 0) hlj3 hy3) (fun S w h => h.2.1)) hS hM hΓ, fun hc => (by cases hc)⟩
    ·intro S w env hS hM hΓ hl
     obtain ⟨⟨p3, e38, _, f38⟩, _⟩ := hl
     exact ⟨fun _ => ob_E (Γ := [fP eU (y3) p3, fV (eS eU) (t2) u2, fV (eS eU) (t1) u1]) (oe_load_u64 (y := y3) e38 ty102 (fun S w h => h.1)) hS hM ⟨f38.1, hΓ⟩, fun hc => (by cases hc)⟩
    ·intro S w env hS hM hΓ hl
     obtain ⟨e1, _⟩ := hl
     exact ⟨fun _ => ob_mv (e1.trans rfl), fun hc => (by cases hc)⟩
    ·intro S w env hS hM hΓ hl
     obtain ⟨e5, _⟩ := hl
     exact ⟨fun _ => ob_VE (p := InR i3) (r_mv (e5.trans rfl)) hr3, fun hc => (by cases hc)⟩
    ·intro S w env hS hM hΓ hl
     obtain ⟨e40, ⟨_, e41, ho4, f41⟩, _⟩ := hl
     exact ⟨fun _ => ob_E (Γ := [fV (eS eU) (t2) u2, fV (eS eU) (t1) u1]) (oe_index (e := eU) (xs := t2) (k := j4) (y := y4) e40 (e41.trans (vi hj4)) Tryz.underlying23 ty102 (getE (z := 0) hlj4 hy4) (fun S w h => h.1)) hS hM hΓ, fun hc => (by cases hc)⟩
    ·intro S w env hS hM hΓ hl
     obtain ⟨⟨p4, e42, _, f42⟩, _⟩ := hl
     exact ⟨fun _ => ob_E (Γ := [fP eU (y4) p4, fV (eS eU) (t2) u2, fV (eS eU) (t1) u1]) (oe_load_u64 (y := y4) e42 ty102 (fun S w h => h.1)) hS hM ⟨f42.1, hΓ⟩, fun hc => (by cases hc)⟩
    intro S w env hS hΓ hl
    obtain ⟨⟨_, e39, hv3, f39⟩, ⟨_, e43, hv4, f43⟩, _⟩ := hl
    refine ⟨[fV (eS eU) (t2) u2, fV (eS eU) (t1) u1], [(39, uv y3), (43, uv y4)], hΓ, (agr ⟨e39, e43, trivial⟩), fun rest => ?_⟩
    obtain ⟨x3, he4, H⟩ := bd_s H
    refine TL_step rfl rfl (oe_call (by kernel_rfl) (c_cmp_Compare_uint64 fu y3 hv3 y4 hv4 x3 he4) rfl (fun S w h => trivial)) fun _ hk2 => TL_mv 1 [(4, iv (x3))] rfl fun rest => TL_nil <| T_ret ?_
    exact JQ_mk x3 (And.intro (Option.some.inj H) hk2) rfl (fun w h => St.weak h (fun S w h => trivial))
   replace H := if_t h3 H
   refine TL_mv 0 [(0, u1), (1, u2), (5, iv (i3)), (35, .bool false)] rfl fun rest => TL_nil <| T_cond_false rfl <| T_skip <| T_region <| TL_mv 1 [(0, u1), (1, u2), (25, iv (i3))] rfl fun rest => ?_
   obtain ⟨x4, hx4, hrx4, H⟩ := ck64_s H
   refine TL_val rfl rfl (r_sub (c := x4) rfl rfl (w_x hx4 hrx4)) <| TL_mv 1 [(0, u1), (1, u2), (5, iv (x4))] rfl fun rest => TL_nil ?_
   exact St_round_s (n1, x4) H hrx4 (Nat.lt_succ_self _) rfl (fun w h => St.weak h (fun S w h => ⟨h.1, h.2.1, trivial⟩))
  replace H := if_f h2 H
  refine TL_mv 0 [(0, u1), (1, u2), (5, iv (i3)), (24, .bool false)] rfl fun rest => TL_nil <| T_cond_false rfl <| T_exit ?_
  exact JQ_mk () (Option.some.inj H) rfl (fun w h => St.weak h (fun S w h => trivial))
 ·refine JQ_el' ?_
  rintro _ hs rest
  subst hs
  replace H := Hc
  clear hL
  refine JG_to (ms' := []) (Γ' := []) (live' := []) rfl <| T_seq <| T_region <| TL_mv 1 [(4, iv 0)] rfl fun rest => TL_nil <| T_ret ?_
  obtain rfl := inj1 H
  exact Ret1 () Tryz.results158 rfl (show InR (0) by decide) (fun S w h => trivial)
 refine JQ_el' ?_
 rintro i4 ⟨hs, hr4⟩ rest
 subst hs
 replace H := Hc
 clear hL
 refine JG_to (ms' := []) (Γ' := []) (live' := [(4, iv (i4))]) rfl ?_
 obtain rfl := inj1 H
 exact Ret1 () Tryz.results158 rfl hr4 (fun S w h => trivial)
set_option maxRecDepth 100000 in
set_option maxHeartbeats 1000000 in
theorem c_nat_Shl_1 (fu : Nat) (a0 : Int) (qa0 : InR a0) (a1 : Nat) (qa1 : InU a1) (a2 : List Nat) (va2 : Value) (a3 : Int) (va3 : Value) (r0 : Nat) (r1 : Nat) (H : M_nat_Shl_1 fu a0 a1 a2 a3 = some (r0, r1)) : Fn Tryz.prog 196 [iv a0, uv a1, va2, va3].toArray [fP (eS eU) (a2) va2, fP eI (a3) va3] (fun _ : Unit => .tuple #[uv r0, uv r1]) (fun _ => []) (fun _ => InU r0 ∧ InU r1) := by
 unfold M_nat_Shl_1 at H
 refine Fn_intro Tryz.func196 rfl rfl fun we Se rest => T_seq <| T_region <| TL_mv 2 [(0, iv (a0)), (1, uv a1), (2, va2), (3, va3)] rfl fun rest => TL_nil <| T_seq ?_
 obtain ⟨j1, hj1, hlj1, H⟩ := ckI_s H
 obtain ⟨y1, hy1, H⟩ := nm_s H
 obtain ⟨x1, hx1, H⟩ := nm_s H
 obtain ⟨h01, H⟩ := ck_s H
 obtain ⟨m1, hm1, H⟩ := nm_s H
 obtain ⟨m2, hm2, H⟩ := nm_s H
 obtain ⟨j2, hj2, hlj2, H⟩ := ckI_s H
 obtain ⟨y2, hy2, H⟩ := nm_s H
 obtain ⟨m3, hm3, H⟩ := nm_s H
 obtain ⟨x2, hx2, H⟩ := nm_s H
 obtain ⟨x3, hx3, hrx3, H⟩ := ck64_s H
 obtain ⟨h02, H⟩ := ck_s H
 obtain ⟨m4, hm4, H⟩ := nm_s H
 refine T_draw 19 [prE (fun u : Value => u) (fun u => [fV (eS eU) (a2) u]) (fun _ => True), prE (fun _ : Unit => iv (a0)) (fun _ => []) (fun _ => InR a0), prE (fun u : Value => u) (fun u => [fP eU (y1) u]) (fun _ => True), prE (fun _ : Unit => uv y1) (fun _ => []) (fun _ => y1 < 18446744073709551616), prE (fun _ : Unit => iv (a3)) (fun _ => []) (fun _ => -9223372036854775808 ≤ a3 ∧ a3 ≤ 9223372036854775807), prE (fun _ : Unit => iv (x1)) (fun _ => []) (fun _ => InR x1), prE (fun _ : Unit => uv m1) (fun _ => []) (fun _ => InU m1), prE (fun _ : Unit => uv a1) (fun _ => []) (fun _ => InU a1), prE (fun _ : Unit => uv m2) (fun _ => []) (fun _ => InU m2), prE (fun u : Value => u) (fun u => [fV (eS eU) (a2) u]) (fun _ => True), prE (fun _ : Unit => iv (a0)) (fun _ => []) (fun _ => InR a0), prE (fun u : Value => u) (fun u => [fP eU (y2) u]) (fun _ => True), prE (fun _ : Unit => uv y2) (fun _ => []) (fun _ => y2 < 18446744073709551616), prE (fun _ : Unit => uv m3) (fun _ => []) (fun _ => InU m3), prE (fun _ : Unit => iv (a3)) (fun _ => []) (fun _ => -9223372036854775808 ≤ a3 ∧ a3 ≤ 9223372036854775807), prE (fun _ : Unit => iv (x2)) (fun _ => []) (fun _ => InR x2), prE (fun _ : Unit => iv (x3)) (fun _ => []) (fun _ => InR x3), prE (fun _ : Unit => uv m4) (fun _ => []) (fun _ => InU m4), prE (fun _ : Unit => uv m2) (fun _ => []) (fun _ => InU m2)] [6, 25] rfl (by kernel_rfl) rfl (by kernel_rfl) ⟨?_, ?_, ?_, ?_, ?_, ?_, ?_, ?_, ?_, ?_, ?_, ?_, ?_, ?_, ?_, ?_, ?_, ?_, ?_, trivial⟩ ?_
 ·intro S w env hS hM hΓ hl
  obtain ⟨e2, _⟩ := hl
  exact ⟨fun _ => ob_E (Γ := [fP (eS eU) (a2) va2, fP eI (a3) va3]) (oe_load (e := (eS eU)) (y := a2) (e2.trans rfl) ty23 (fun S w h => h.1)) hS hM hΓ, fun hc => (by cases hc)⟩
 ·intro S w env hS hM hΓ hl
  obtain ⟨e0, _⟩ := hl
  exact ⟨fun _ => ob_VE (p := InR a0) (r_mv (e0.trans rfl)) qa0, fun hc => (by cases hc)⟩
 ·intro S w env hS hM hΓ hl
  obtain ⟨⟨u1, e8, _, f8⟩, ⟨_, e9, ho1, f9⟩, _⟩ := hl
  exact ⟨fun _ => ob_E (Γ := [fV (eS eU) (a2) u1, fP (eS eU) (a2) va2, fP eI (a3) va3]) (oe_index (e := eU) (xs := a2) (k := j1) (y := y1) e8 (e9.trans (vi hj1)) Tryz.underlying23 ty102 (getE (z := 0) hlj1 hy1) (fun S w h => h.1)) hS hM ⟨f8.1, hΓ⟩, fun hc => (by cases hc)⟩
 ·intro S w env hS hM hΓ hl
  obtain ⟨⟨p1, e10, _, f10⟩, _⟩ := hl
  exact ⟨fun _ => ob_E (Γ := [fP eU (y1) p1, fP (eS eU) (a2) va2, fP eI (a3) va3]) (oe_load_u64 (y := y1) e10 ty102 (fun S w h => h.1)) hS hM ⟨f10.1, hΓ⟩, fun hc => (by cases hc)⟩
 ·intro S w env hS hM hΓ hl
  obtain ⟨e3, _⟩ := hl
  exact ⟨fun _ => ob_E (Γ := [fP (eS eU) (a2) va2, fP eI (a3) va3]) (oe_load_i64 (y := a3) (e3.trans rfl) ty3 (fun S w h => h.2.1)) hS hM hΓ, fun hc => (by cases hc)⟩
 ·intro S w env hS hM hΓ hl
  obtain ⟨⟨_, e12, hv2, f12⟩, _⟩ := hl
  exact ⟨fun _ => ob_VE (p := InR x1) (r_rem (c := x1) e12 rfl (by decide) hx1.symm) (tmod_r hv2 hx1), fun hc => (by cases hc)⟩
 ·intro S w env hS hM hΓ hl
  obtain ⟨⟨_, e11, hv1, f11⟩, ⟨_, e13, ho2, f13⟩, _⟩ := hl
  exact ⟨fun _ => ob_VE (p := InU m1) (r_shl (c := ((m1 : Nat) : Int)) e11 e13 h01 (wu_x hm1 (n_shl_u (a := y1)))) (eq_mod_r hm1), fun hc => (by cases hc)⟩
 ·intro S w env hS hM hΓ hl
  obtain ⟨e1, _⟩ := hl
  exact ⟨fun _ => ob_VE (p := InU a1) (r_mv (e1.trans rfl)) qa1, fun hc => (by cases hc)⟩
 ·intro S w env hS hM hΓ hl
  obtain ⟨⟨_, e14, ho3, f14⟩, ⟨_, e15, ho4, f15⟩, _⟩ := hl
  exact ⟨fun _ => ob_VE (p := InU m2) (r_or (c := ((m2 : Nat) : Int)) e14 e15 (wu_x hm2 (n_or_u (a := m1) (b := a1) ho3 ho4))) (eq_u hm2 (or_lt_u ho3 ho4)), fun hc => (by cases hc)⟩
 ·intro S w env hS hM hΓ hl
  obtain ⟨e2, _⟩ := hl
  exact ⟨fun _ => ob_E (Γ := [fP (eS eU) (a2) va2, fP eI (a3) va3]) (oe_load (e := (eS eU)) (y := a2) (e2.trans rfl) ty23 (fun S w h => h.1)) hS hM hΓ, fun hc => (by cases hc)⟩
 ·intro S w env hS hM hΓ hl
  obtain ⟨e0, _⟩ := hl
  exact ⟨fun _ => ob_VE (p := InR a0) (r_mv (e0.trans rfl)) qa0, fun hc => (by cases hc)⟩
 ·intro S w env hS hM hΓ hl
  obtain ⟨⟨u2, e17, _, f17⟩, ⟨_, e18, ho6, f18⟩, _⟩ := hl
  exact ⟨fun _ => ob_E (Γ := [fV (eS eU) (a2) u2, fP (eS eU) (a2) va2, fP eI (a3) va3]) (oe_index (e := eU) (xs := a2) (k := j2) (y := y2) e17 (e18.trans (vi hj2)) Tryz.underlying23 ty102 (getE (z := 0) hlj2 hy2) (fun S w h => h.1)) hS hM ⟨f17.1, hΓ⟩, fun hc => (by cases hc)⟩
 ·intro S w env hS hM hΓ hl
  obtain ⟨⟨p2, e19, _, f19⟩, _⟩ := hl
  exact ⟨fun _ => ob_E (Γ := [fP eU (y2) p2, fP (eS eU) (a2) va2, fP eI (a3) va3]) (oe_load_u64 (y := y2) e19 ty102 (fun S w h => h.1)) hS hM ⟨f19.1, hΓ⟩, fun hc => (by cases hc)⟩
 ·intro S w env hS hM hΓ hl
  obtain ⟨⟨_, e20, hv3, f20⟩, _⟩ := hl
  exact ⟨fun _ => ob_VE (p := InU m3) (r_shr (c := ((m3 : Nat) : Int)) e20 rfl (by decide) (wu_y hm3 (n_shr_u (a := y2)))) (udiv_r hv3 hm3), fun hc => (by cases hc)⟩
 ·intro S w env hS hM hΓ hl
  obtain ⟨e3, _⟩ := hl
  exact ⟨fun _ => ob_E (Γ := [fP (eS eU) (a2) va2, fP eI (a3) va3]) (oe_load_i64 (y := a3) (e3.trans rfl) ty3 (fun S w h => h.2.1)) hS hM hΓ, fun hc => (by cases hc)⟩
 ·intro S w env hS hM hΓ hl
  obtain ⟨⟨_, e22, hv4, f22⟩, _⟩ := hl
  exact ⟨fun _ => ob_VE (p := InR x2) (r_rem (c := x2) e22 rfl (by decide) hx2.symm) (tmod_r hv4 hx2), fun hc => (by cases hc)⟩
 ·intro S w env hS hM hΓ hl
  obtain ⟨⟨_, e23, ho8, f23⟩, _⟩ := hl
  exact ⟨fun _ => ob_VE (p := InR x3) (r_sub (c := x3) rfl e23 (w_x hx3 hrx3)) hrx3, fun hc => (by cases hc)⟩
 ·intro S w env hS hM hΓ hl
  obtain ⟨⟨_, e21, ho7, f21⟩, ⟨_, e24, ho9, f24⟩, _⟩ := hl
  exact ⟨fun _ => ob_VE (p := InU m4) (r_shr (c := ((m4 : Nat) : Int)) e21 e24 h02 (wu_y hm4 (n_shr_u (a := m3)))) (udiv_r ho7 hm4), fun hc => (by cases hc)⟩
 ·intro S w env hS hM hΓ hl
  obtain ⟨⟨_, e16, ho5, f16⟩, _⟩ := hl
  exact ⟨fun _ => ob_VE (p := InU m2) (r_as e16) ho5, fun hc => (by cases hc)⟩
 intro S w env hS hΓ hl
 obtain ⟨⟨_, e6, ho11, f6⟩, ⟨_, e25, ho10, f25⟩, _⟩ := hl
 refine ⟨[fP (eS eU) (a2) va2, fP eI (a3) va3], [(6, uv m2), (25, uv m4)], hΓ, (agr ⟨e6, e25, trivial⟩), fun rest => ?_⟩
 refine TL_mv 1 [(6, uv m2), (7, uv m4)] rfl fun rest => TL_nil <| T_ret ?_
 obtain ⟨rfl, rfl⟩ := inj2 H
 exact Ret2 (t := 6) (t' := 7) (ts := []) () Tryz.results196 rfl (And.intro ho11 ho10) (fun S w h => trivial)
set_option maxRecDepth 100000 in
set_option maxHeartbeats 1000000 in
theorem c_nat_Shl (fu : Nat) (a0 : List Nat) (va0 : Value) (a1 : Int) (qa1 : InR a1) (r0 : List Nat) (r1 : Int) (H : M_nat_Shl fu a0 a1 = some (r0, r1)) : FnG Tryz.prog 140 [va0, iv a1].toArray [] [fV (eS eU) (a0) va0] (fun u : Value => .tuple #[u, iv (r1)]) (fun u => [mO eU 102 u (r0)]) (fun u => []) (fun _ => InR r1) := by
 unfold M_nat_Shl at H
 refine FnG_intro Tryz.func140 rfl rfl fun we Se F G rest => T_seq <| T_region <| TL_step rfl rfl (oe_box (e := (eS eU)) (z := a0) rfl (fun S w h => h.1)) fun p1 _ => TL_step rfl rfl (oe_box (e := eI) (z := a1) rfl (fun S w h => (i64_fV qa1))) fun p2 _ => TL_mv 2 [(2, p1), (3, p2)] rfl fun rest => ?_
 refine TL_nil <| T_seq <| T_seq <| T_region <| TL_step rfl rfl (oe_load_i64 (y := a1) rfl ty3 (fun S w h => h.1)) fun _ hv1 => TL_lss rfl rfl rfl rfl (fun h1 => ?_) (fun h1 => ?_)
 ·replace H := if_t h1 H
  refine TL_mv 4 [(2, p1), (3, p2), (13, .bool true)] rfl fun rest => TL_nil <| T_cond_true rfl <| T_seq <| T_region <| TL_mv 2 [(4, .slice none 0 0), (5, iv 1)] rfl fun rest => ?_
  refine TL_nil <| T_ret <| T_weak_st (fun w h => St.nilO (e := eU) (E := 102) h) ?_
  obtain ⟨rfl, rfl⟩ := inj2 H
  intro w hw
  exact RetG (vs := [(.slice none 0 0), (iv 1 : Value)]) (.slice none 0 0) Tryz.results140 (by exact ⟨rfl, rfl, trivial⟩) rfl (show InR (1) by decide) (St.weak hw (fun S w h => h.2.2.2))
 replace H := if_f h1 H
 refine TL_mv 1 [(2, p1), (3, p2), (10, .bool false)] rfl fun rest => TL_step rfl rfl (oe_load_i64 (y := a1) rfl ty3 (fun S w h => h.1)) fun _ hv2 => TL_gtr rfl rfl rfl rfl (fun h2 => ?_) (fun h2 => ?_)
 ·replace H := if_t h2 H
  refine TL_mv 1 [(2, p1), (3, p2), (13, .bool true)] rfl fun rest => TL_nil <| T_cond_true rfl <| T_seq <| T_region <| TL_mv 2 [(4, .slice none 0 0), (5, iv 1)] rfl fun rest => ?_
  refine TL_nil <| T_ret <| T_weak_st (fun w h => St.nilO (e := eU) (E := 102) h) ?_
  obtain ⟨rfl, rfl⟩ := inj2 H
  intro w hw
  exact RetG (vs := [(.slice none 0 0), (iv 1 : Value)]) (.slice none 0 0) Tryz.results140 (by exact ⟨rfl, rfl, trivial⟩) rfl (show InR (1) by decide) (St.weak hw (fun S w h => h.2.2.2))
 replace H := if_f h2 H
 refine TL_mv 1 [(2, p1), (3, p2), (13, .bool false)] rfl fun rest => TL_nil <| T_cond_false rfl <| T_skip <| T_seq <| T_region ?_
 refine TL_step rfl rfl (oe_load (e := (eS eU)) (y := a0) rfl ty23 (fun S w h => h.2.1)) fun u1 _ => TL_step rfl rfl (oe_len (e := eU) (xs := a0) Tryz.underlying23 rfl (fun S w h => h.1)) fun _ hl1 => TL_val rfl rfl (r_mk (la_cons rfl (la_cons rfl la_nil))) ?_
 obtain ⟨⟨t1, m1⟩, he1, H⟩ := bd_s H
 refine TL_og rfl rfl (og_callG (F := (F)) (by kernel_rfl) (c_nat_carried fu (((a0.length : Nat) : Int)) (len_r hl1) (fun zx0 zx1 => M_nat_Shl_1 fu zx0 zx1 a0 a1) 196 [p1, p2] [fP (eS eU) (a0) p1, fP eI (a1) p2] (by kernel_rfl) (fun zx0 qzx0 zx1 qzx1 zy0 zy1 hh => c_nat_Shl_1 fu zx0 qzx0 zx1 qzx1 a0 p1 a1 p2 zy0 zy1 hh) t1 m1 he1) rfl (fun S w h => ⟨h.2.2.1, h.2.1, trivial⟩)) fun u2 hk1 => ?_
 show TL _ _ _ _ (mO eU 102 u2 (t1) :: F) (fV (eS eU) (a0) u1 :: fP eI (a1) p2 :: fP (eS eU) (a0) p1 :: fV (eS eU) (a0) va0 :: G) _ _ _ _
 refine TL_mv 5 [(3, p2), (6, u2), (7, uv m1)] rfl fun rest => TL_nil <| T_seq ?_
 obtain ⟨hk2, H⟩ := ck_s H
 obtain ⟨t2, ht2, H⟩ := nm_s H
 obtain ⟨x1, hx1, hrx1, H⟩ := ck64_s H
 obtain ⟨t3, he2, H⟩ := bd_s H
 obtain ⟨t4, he3, H⟩ := bd_s H
 refine T_float 8 [2, 3, 6, 7] [0, 1, 4, 5] rfl (by kernel_rfl) (by kernel_rfl) fun w0 S0 hS0 hM0 hΓ0 => ?_
 obtain ⟨hv3, fr1⟩ := fl_load_i64 ty3 hΓ0.2.1
 refine ⟨[u2, uv m1, iv (a1), iv (x1)], [], rfl, trivial, ⟨(fun w _ => (r_mv rfl) w), (fun w _ => (r_mv rfl) w), (fun w hK => fr1 _ _ _ _ _ _ _ w hK rfl), (fun w _ => (r_quo (c := x1) rfl rfl (by decide) (w_x hx1 hrx1)) w), trivial⟩, ?_⟩
 refine TLc_prune [(21, u2), (22, uv m1), (26, iv (x1))] rfl fun rest => ?_
 show TLc _ _ _ _ _ (mO eU 102 u2 (t1) :: F) (fV (eS eU) (a0) u1 :: fP eI (a1) p2 :: fP (eS eU) (a0) p1 :: fV (eS eU) (a0) va0 :: (G ++ [ffK w0 S0])) _ _ _
 refine TLc_og (fun S w h => kept_of (All.right h.2.2.2.2).1) rfl (og_of_oe (oe_lit (e := eU) (zs := [m1]) Tryz.underlying23 ty102 (by decide) rfl (by decide) (vs := [(0, uv m1)]) rfl (fun S w h => (by refine fill_eq eU ?_; exact ⟨fV_sz (S := S) (w := w) (u64_fV hk1), trivial⟩)) (fun S w h => (elems_one (u64_fV hk1))))) fun u3 _ => ?_
 show TLc _ _ _ _ _ (mO eU 102 u2 (t1) :: F) (fV (eS eU) ([m1]) u3 :: fV (eS eU) (a0) u1 :: fP eI (a1) p2 :: fP (eS eU) (a0) p1 :: fV (eS eU) (a0) va0 :: (G ++ [ffK w0 S0])) _ _ _
 refine TLc_og (fun S w h => kept_of (All.right h.2.2.2.2.2).1) rfl (og_append' (e := eU) (xs := t1) (ys := [m1]) 0 Tryz.underlying23 ty102 rfl (by decide) (by decide) rfl rfl rfl (fun S w h => h.1) hk2 ht2) fun w1 _ => ?_
 show TLc _ _ _ _ _ (mO eU 102 w1 (t2) :: F) (fV (eS eU) ([m1]) u3 :: fV (eS eU) (a0) u1 :: fP eI (a1) p2 :: fP (eS eU) (a0) p1 :: fV (eS eU) (a0) va0 :: (G ++ [ffK w0 S0])) _ _ _
 refine TLc_weak_st (fun w h => fz_own 0 h rfl) ?_
 show TLc _ _ _ _ _ (F) (fV (eS eU) (t2) w1 :: fV (eS eU) ([m1]) u3 :: fV (eS eU) (a0) u1 :: fP eI (a1) p2 :: fP (eS eU) (a0) p1 :: fV (eS eU) (a0) va0 :: (G ++ [ffK w0 S0])) _ _ _
 refine TLc_og (fun S w h => kept_of (All.right h.2.2.2.2.2.2).1) rfl (og_callG (F := (F)) (by kernel_rfl) (c_nat_moved fu t2 w1 x1 hrx1 t3 he2) rfl (fun S w h => ⟨h.1, trivial⟩)) fun u4 _ => ?_
 show TLc _ _ _ _ _ (mO eU 102 u4 (t3) :: F) (fV (eS eU) (t2) w1 :: fV (eS eU) ([m1]) u3 :: fV (eS eU) (a0) u1 :: fP eI (a1) p2 :: fP (eS eU) (a0) p1 :: fV (eS eU) (a0) va0 :: (G ++ [ffK w0 S0])) _ _ _
 refine TLc_og (fun S w h => kept_of (All.right h.2.2.2.2.2.2).1) rfl (og_callG (F := (F)) (by kernel_rfl) (c_nat_plain_own fu t3 u4 t4 he3) rfl (fun S w h => trivial)) fun u5 _ => ?_
 show TLc _ _ _ _ _ (mO eU 102 u5 (t4) :: F) (fV (eS eU) (t2) w1 :: fV (eS eU) ([m1]) u3 :: fV (eS eU) (a0) u1 :: fP eI (a1) p2 :: fP (eS eU) (a0) p1 :: fV (eS eU) (a0) va0 :: (G ++ [ffK w0 S0])) _ _ _
 refine TLc_nil (fun S w h => kept_of (All.right h.2.2.2.2.2.2).1) <| TL_sel (fV (eS eU) (t2) w1 :: fV (eS eU) ([m1]) u3 :: fV (eS eU) (a0) u1 :: fP eI (a1) p2 :: fP (eS eU) (a0) p1 :: fV (eS eU) (a0) va0 :: G) (fun S w h => ⟨h.1, h.2.1, h.2.2.1, h.2.2.2.1, h.2.2.2.2.1, h.2.2.2.2.2.1, (All.left h.2.2.2.2.2.2)⟩) <| TL_prune [(28, u5)] rfl fun rest => TL_mv 2 [(4, u5), (5, iv 0)] rfl fun rest => TL_nil <| T_ret ?_
 obtain ⟨rfl, rfl⟩ := inj2 H
 intro w hw
 exact RetG (vs := [u5, (iv 0 : Value)]) u5 Tryz.results140 (by exact ⟨rfl, rfl, trivial⟩) rfl (show InR (0) by decide) (St.weak hw (fun S w h => h.2.2.2.2.2.2))
end Go.Proofs.YtjnjfinbdfolkaaGreat
end

