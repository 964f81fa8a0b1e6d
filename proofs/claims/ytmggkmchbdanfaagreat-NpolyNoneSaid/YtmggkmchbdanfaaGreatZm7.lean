/- Over no field nothing is told: for every input. No condition. -/
import Derived.Test.YtmggkmchbdanfaaGreatZm6
set_option linter.unusedVariables false
set_option linter.unusedSimpArgs false
namespace Go.Proofs.YtmggkmchbdanfaaGreat
section
set_option maxRecDepth 100000
def s_ref01_Same (fu : Nat) : Sig := ⟨63, [.d (.l .u), .d (.l .u)], [.d .b], fun x => M_ref01_Same fu x.1 x.2.1, 0⟩
theorem g_ref01_Same (fu : Nat) : SigOK Tryz.prog (s_ref01_Same fu) := sg (fu := fu) ⟨[], [], [(4, ⟨⟨[(5, .d .i)], []⟩, ⟨[], [(.x 0, ⟨[], []⟩), (.r, ⟨[], [(4, .kb false)]⟩)]⟩⟩)], [], [], [], []⟩ Tryz.func63 (cN) (by kernel_rfl) fun x => by kernel_rfl
def s_ref02_Same (fu : Nat) : Sig := ⟨17, [.d (.p .b (.l .u)), .d (.p .b (.l .u))], [.d .b], fun x => M_ref02_Same fu x.1 x.2.1, 0⟩
theorem g_ref02_Same (fu : Nat) : SigOK Tryz.prog (s_ref02_Same fu) := sg (fu := fu) ⟨[], [], [], [], [], [], []⟩ Tryz.func17 (cC (g_ref01_Same fu) <| cN) (by kernel_rfl) fun x => by kernel_rfl
def s_ref03_Same (fu : Nat) : Sig := ⟨223, [.d (.p (.p .b (.l .u)) (.l .u)), .d (.p (.p .b (.l .u)) (.l .u))], [.d .b], fun x => M_ref03_Same fu x.1 x.2.1, 0⟩
theorem g_ref03_Same (fu : Nat) : SigOK Tryz.prog (s_ref03_Same fu) := sg (fu := fu) ⟨[], [], [], [], [], [], []⟩ Tryz.func223 (cC (g_ref02_Same fu) <| cC (g_ref01_Same fu) <| cN) (by kernel_rfl) fun x => by kernel_rfl
def s_ref20_Same (fu : Nat) : Sig := ⟨148, [.d (.l (.p (.p .b (.l .u)) (.l .u))), .d (.l (.p (.p .b (.l .u)) (.l .u)))], [.d .b], fun x => M_ref20_Same fu x.1 x.2.1, 0⟩
theorem g_ref20_Same (fu : Nat) : SigOK Tryz.prog (s_ref20_Same fu) := sg (fu := fu) ⟨[], [], [(4, ⟨⟨[(5, .d .i)], []⟩, ⟨[], [(.x 0, ⟨[], []⟩), (.r, ⟨[], [(4, .kb false)]⟩)]⟩⟩)], [], [], [], []⟩ Tryz.func148 (cC (g_ref03_Same fu) <| cN) (by kernel_rfl) fun x => by kernel_rfl
def s_ref21_Same (fu : Nat) : Sig := ⟨147, [.d (.l (.l (.p (.p .b (.l .u)) (.l .u)))), .d (.l (.l (.p (.p .b (.l .u)) (.l .u))))], [.d .b], fun x => M_ref21_Same fu x.1 x.2.1, 0⟩
theorem g_ref21_Same (fu : Nat) : SigOK Tryz.prog (s_ref21_Same fu) := sg (fu := fu) ⟨[], [], [(4, ⟨⟨[(5, .d .i)], []⟩, ⟨[], [(.x 0, ⟨[], []⟩), (.r, ⟨[], [(4, .kb false)]⟩)]⟩⟩)], [], [], [], []⟩ Tryz.func147 (cC (g_ref20_Same fu) <| cN) (by kernel_rfl) fun x => by kernel_rfl
def s_law21_same (fu : Nat) : Sig := ⟨86, [.d (.l (.l (.p (.p .b (.l .u)) (.l .u)))), .d (.l (.l (.p (.p .b (.l .u)) (.l .u))))], [.d .b], fun x => M_law21_same fu x.1 x.2.1, 0⟩
theorem g_law21_same (fu : Nat) : SigOK Tryz.prog (s_law21_same fu) := sg (fu := fu) ⟨[], [], [], [], [], [], []⟩ Tryz.func86 (cC (g_ref21_Same fu) <| cN) (by kernel_rfl) fun x => by kernel_rfl
def s_nat_at (fu : Nat) : Sig := ⟨215, [.d (.l .u), .d .i], [.d .u], fun x => M_nat_at fu x.1 x.2.1, 0⟩
theorem g_nat_at (fu : Nat) : SigOK Tryz.prog (s_nat_at fu) := sg (fu := fu) ⟨[], [], [], [], [], [], []⟩ Tryz.func215 (cN) (by kernel_rfl) fun x => by kernel_rfl
def s_nat_Add_1 (fu : Nat) : Sig := ⟨213, [.d .i, .d .u, .q (.l .u), .q (.l .u)], [.d .u, .d .u], fun x => M_nat_Add_1 fu x.1 x.2.1 x.2.2.1 x.2.2.2.1, 0⟩
theorem g_nat_Add_1 (fu : Nat) : SigOK Tryz.prog (s_nat_Add_1 fu) := sg (fu := fu) ⟨[], [], [], [], [], [], []⟩ Tryz.func213 (cC (g_nat_at fu) <| cN) (by kernel_rfl) fun x => by kernel_rfl
def s_nat_carried (fu : Nat) : Sig := ⟨212, [.d .i, .fn [.i, .u] [.u, .u]], [.own .u 54, .d .u], fun x => M_nat_carried fu x.1 (fun z0 z1 => x.2.1 (z0, z1, ())), 0⟩
theorem g_nat_carried (fu : Nat) : SigOK Tryz.prog (s_nat_carried fu) := sg (fu := fu) ⟨[], [], [(4, ⟨⟨[(7, .d .u), (13, .d .i), (6, .own .u 54)], []⟩, ⟨[], [(.x 0, ⟨[(7, .d .u), (6, .own .u 54)], []⟩)]⟩⟩)], [], [], [], []⟩ Tryz.func212 (cN) (by kernel_rfl) fun x => by kernel_rfl
def s_nat_plain (fu : Nat) : Sig := ⟨157, [.d (.l .u)], [.d (.l .u)], fun x => M_nat_plain fu x.1, 0⟩
theorem g_nat_plain (fu : Nat) : SigOK Tryz.prog (s_nat_plain fu) := sg (fu := fu) ⟨[], [], [(1, ⟨⟨[(0, .d (.l .u))], []⟩, ⟨[], [(.x 0, ⟨[(0, .d (.l .u))], []⟩)]⟩⟩)], [], [], [], []⟩ Tryz.func157 (cN) (by kernel_rfl) fun x => by kernel_rfl
def s_nat_plain_own (fu : Nat) : Sig := ⟨157, [.own .u 54], [.own .u 54], fun x => M_nat_plain_own fu x.1, 0⟩
theorem g_nat_plain_own (fu : Nat) : SigOK Tryz.prog (s_nat_plain_own fu) := sg (fu := fu) ⟨[], [], [(1, ⟨⟨[(0, .own .u 54)], []⟩, ⟨[], [(.x 0, ⟨[(0, .own .u 54)], []⟩)]⟩⟩)], [], [], [], []⟩ Tryz.func157 (cN) (by kernel_rfl) fun x => by kernel_rfl
def s_nat_Add (fu : Nat) : Sig := ⟨139, [.d (.l .u), .d (.l .u)], [.own .u 54], fun x => M_nat_Add fu x.1 x.2.1, 0⟩
theorem g_nat_Add (fu : Nat) : SigOK Tryz.prog (s_nat_Add fu) := sg (fu := fu) ⟨[], [], [], [], [], [], []⟩ Tryz.func139 (cC (g_nat_carried fu) <| cC (g_nat_Add_1 fu) <| cC (g_nat_plain_own fu) <| cC (g_nat_plain fu) <| cN) (by kernel_rfl) fun x => by kernel_rfl
def s_cmp_isNaN_int (fu : Nat) : Sig := ⟨297, [.d .i], [.d .b], fun x => M_cmp_isNaN_int fu x.1, 0⟩
theorem g_cmp_isNaN_int (fu : Nat) : SigOK Tryz.prog (s_cmp_isNaN_int fu) := sg (fu := fu) ⟨[], [], [], [], [], [], []⟩ Tryz.func297 (cN) (by kernel_rfl) fun x => by kernel_rfl
def s_cmp_Compare_int (fu : Nat) : Sig := ⟨216, [.d .i, .d .i], [.d .i], fun x => M_cmp_Compare_int fu x.1 x.2.1, 0⟩
theorem g_cmp_Compare_int (fu : Nat) : SigOK Tryz.prog (s_cmp_Compare_int fu) := sg (fu := fu) ⟨[], [], [], [], [], [], []⟩ Tryz.func216 (cC (g_cmp_isNaN_int fu) <| cN) (by kernel_rfl) fun x => by kernel_rfl
def s_cmp_isNaN_uint64 (fu : Nat) : Sig := ⟨298, [.d .u], [.d .b], fun x => M_cmp_isNaN_uint64 fu x.1, 0⟩
theorem g_cmp_isNaN_uint64 (fu : Nat) : SigOK Tryz.prog (s_cmp_isNaN_uint64 fu) := sg (fu := fu) ⟨[], [], [], [], [], [], []⟩ Tryz.func298 (cN) (by kernel_rfl) fun x => by kernel_rfl
def s_cmp_Compare_uint64 (fu : Nat) : Sig := ⟨217, [.d .u, .d .u], [.d .i], fun x => M_cmp_Compare_uint64 fu x.1 x.2.1, 0⟩
theorem g_cmp_Compare_uint64 (fu : Nat) : SigOK Tryz.prog (s_cmp_Compare_uint64 fu) := sg (fu := fu) ⟨[], [], [], [], [], [], []⟩ Tryz.func217 (cC (g_cmp_isNaN_uint64 fu) <| cN) (by kernel_rfl) fun x => by kernel_rfl
def s_nat_Cmp (fu : Nat) : Sig := ⟨140, [.d (.l .u), .d (.l .u)], [.d .i], fun x => M_nat_Cmp fu x.1 x.2.1, 0⟩
theorem g_nat_Cmp (fu : Nat) : SigOK Tryz.prog (s_nat_Cmp fu) := sg (fu := fu) ⟨[], [], [(5, ⟨⟨[(5, .d .i)], []⟩, ⟨[], [(.x 0, ⟨[], []⟩), (.r, ⟨[(4, .d .i)], []⟩)]⟩⟩)], [], [], [], []⟩ Tryz.func140 (cC (g_cmp_Compare_int fu) <| cC (g_cmp_Compare_uint64 fu) <| cC (g_nat_plain_own fu) <| cC (g_nat_plain fu) <| cN) (by kernel_rfl) fun x => by kernel_rfl
def s_slices_Clone_uint64_uint64 (fu : Nat) : Sig := ⟨220, [.d (.l .u)], [.d (.l .u)], fun x => M_slices_Clone_uint64_uint64 fu x.1, 0⟩
set_option maxRecDepth 100000 in
set_option maxHeartbeats 1000000 in
theorem o_slices_Clone_uint64_uint64 (l : List Nat) (v0 : Value) (hp0 : l.length ≤ 17592186044416) : Fn Tryz.prog 220 [v0].toArray [fV (eS eU) (l) v0] (fun u : Value => u) (fun u => [fV (eS eU) (l) u]) (fun _ => True) := by
  refine Fn_intro Tryz.func220 rfl rfl fun we Se rest => ?_
  refine T_fact (fun S w h => fV_len h.1) fun hl_l => ?_
  refine T_fact (fun S w h => fV_limbs h.1) fun hb_l => ?_
  refine T_seq ?_
  refine T_region ?_
  refine TL_mv 1 [(0, v0)] rfl fun rest => ?_
  refine TL_nil ?_
  refine T_seq ?_
  refine T_seq ?_
  refine T_region ?_
  refine TL_mv 1 [(0, v0), (3, v0)] rfl fun rest => ?_
  refine TL_step rfl rfl (oe_nilE (e := eU) (xs := l) Tryz.underlying28 rfl rfl (fun S w h => h.1)) fun q1 hn1 => ?_
  refine TL_mv 0 [(0, v0), (4, .bool (q1))] rfl fun rest => ?_
  refine TL_nil ?_
  refine T_cond (q1) rfl (fun hb1 => ?_) (fun hb1 => ?_)
  · refine T_seq ?_
    refine T_region ?_
    refine TL_mv 1 [(2, .slice none 0 0)] rfl fun rest => ?_
    refine TL_nil ?_
    refine T_ret ?_
    exact Ret1 (.slice none 0 0 : Value) Tryz.results220 rfl trivial (fun S w h => ⟨(cvt (show ([]) = (l) from by first | rfl | simp_all) nil_fV), trivial⟩)
  · refine T_skip ?_
    refine T_seq ?_
    refine T_region ?_
    refine TL_empty (e := eU) rfl rfl Tryz.underlying28 ty54 fun v1 => ?_
    refine TL_mv 1 [(5, v1), (6, v0)] rfl fun rest => ?_
    refine TL_append (e := eU) (xs := []) (ys := l) 0 rfl rfl Tryz.underlying28 ty54 rfl (by decide) rfl rfl rfl (fun S w h => h.1) (by first | omega | (simp only [List.length_nil, List.length_append, List.length_replicate, List.length_cons, List.length_take, List.length_drop]; omega) | (simp; omega)) (by first | omega | (simp only [List.length_nil, List.length_append, List.length_replicate, List.length_cons, List.length_take, List.length_drop]; omega) | (simp; omega)) fun v2 => ?_
    show TL _ _ _ _ [mO eU 54 v2 ([] ++ l)] _ _ _ _ _
    refine TL_mv 1 [(2, v2)] rfl fun rest => ?_
    refine TL_nil ?_
    refine T_ret ?_
    refine T_weak_st (fun w h => fz_own 0 h rfl) ?_
    exact Ret1 v2 Tryz.results220 rfl trivial (fun S w h => ⟨(cvt (show ([] ++ l) = (l) from by first | rfl | simp_all) h.1), trivial⟩)
theorem c_slices_Clone_uint64_uint64 (fu : Nat) (a0 : List Nat) (va0 : Value) (r0 : List Nat) (H : M_slices_Clone_uint64_uint64 fu a0 = some r0) : Fn Tryz.prog 220 [va0].toArray [fV (eS eU) (a0) va0] (fun u : Value => u) (fun u => [fV (eS eU) (r0) u]) (fun _ => True) := by
  obtain ⟨hk, H⟩ := ck_s H
  obtain rfl := inj1 H
  exact o_slices_Clone_uint64_uint64 a0 va0 hk
theorem g_slices_Clone_uint64_uint64 (fu : Nat) : SigOK Tryz.prog (s_slices_Clone_uint64_uint64 fu) := sig_d1 (s := (.l .u)) (t := (.l .u)) (by kernel_rfl) fun x r v h => c_slices_Clone_uint64_uint64 fu x v r h
def s_nat_Norm (fu : Nat) : Sig := ⟨144, [.d (.l .u)], [.d (.l .u)], fun x => M_nat_Norm fu x.1, 0⟩
theorem g_nat_Norm (fu : Nat) : SigOK Tryz.prog (s_nat_Norm fu) := sg (fu := fu) ⟨[], [], [], [], [], [], []⟩ Tryz.func144 (cC (g_slices_Clone_uint64_uint64 fu) <| cC (g_nat_plain_own fu) <| cC (g_nat_plain fu) <| cN) (by kernel_rfl) fun x => by kernel_rfl
def s_nat_Shl_1 (fu : Nat) : Sig := ⟨310, [.d .i, .d .u, .q (.l .u), .q .i], [.d .u, .d .u], fun x => M_nat_Shl_1 fu x.1 x.2.1 x.2.2.1 x.2.2.2.1, 0⟩
theorem g_nat_Shl_1 (fu : Nat) : SigOK Tryz.prog (s_nat_Shl_1 fu) := sg (fu := fu) ⟨[], [], [], [], [], [], []⟩ Tryz.func310 (cN) (by kernel_rfl) fun x => by kernel_rfl
def s_nat_moved (fu : Nat) : Sig := ⟨160, [.d (.l .u), .d .i], [.own .u 54], fun x => M_nat_moved fu x.1 x.2.1, 0⟩
theorem g_nat_moved (fu : Nat) : SigOK Tryz.prog (s_nat_moved fu) := sg (fu := fu) ⟨[], [], [], [], [], [], []⟩ Tryz.func160 (cN) (by kernel_rfl) fun x => by kernel_rfl
def s_nat_Shl (fu : Nat) : Sig := ⟨251, [.d (.l .u), .d .i], [.own .u 54, .d .i], fun x => M_nat_Shl fu x.1 x.2.1, 0⟩
theorem g_nat_Shl (fu : Nat) : SigOK Tryz.prog (s_nat_Shl fu) := sg (fu := fu) ⟨[], [], [], [(4, [23])], [], [], []⟩ Tryz.func251 (cC (g_nat_moved fu) <| cC (g_nat_carried fu) <| cC (g_nat_plain_own fu) <| cC (g_nat_plain fu) <| cC (g_nat_Shl_1 fu) <| cN) (by kernel_rfl) fun x => by kernel_rfl
def s_nat_Shr_1 (fu : Nat) : Sig := ⟨344, [.d .i, .d .u, .q (.l .u), .q .i], [.d .u, .d .u], fun x => M_nat_Shr_1 fu x.1 x.2.1 x.2.2.1 x.2.2.2.1, 0⟩
theorem g_nat_Shr_1 (fu : Nat) : SigOK Tryz.prog (s_nat_Shr_1 fu) := sg (fu := fu) ⟨[], [], [], [], [], [], []⟩ Tryz.func344 (cC (g_nat_at fu) <| cN) (by kernel_rfl) fun x => by kernel_rfl
def s_nat_Shr (fu : Nat) : Sig := ⟨295, [.d (.l .u), .d .i], [.own .u 54], fun x => M_nat_Shr fu x.1 x.2.1, 0⟩
theorem g_nat_Shr (fu : Nat) : SigOK Tryz.prog (s_nat_Shr fu) := sg (fu := fu) ⟨[2, 3], [], [], [], [], [], []⟩ Tryz.func295 (cC (g_nat_Shr_1 fu) <| cC (g_nat_carried fu) <| cC (g_nat_plain_own fu) <| cC (g_nat_plain fu) <| cN) (by kernel_rfl) fun x => by kernel_rfl
def s_math_bits_Len64 (fu : Nat) : Sig := ⟨252, [.d .u], [.d .i], fun x => M_math_bits_Len64 fu x.1, 0⟩
set_option maxRecDepth 100000 in
set_option maxHeartbeats 1000000 in
theorem c_math_bits_Len64 (fu : Nat) (a0 : Nat) (qa0 : InU a0) (r0 : Int) (H : M_math_bits_Len64 fu a0 = some r0) : Fn Tryz.prog 252 [uv a0].toArray [] (fun _ : Unit => iv (r0)) (fun _ => []) (fun _ => InR r0) := by
 unfold M_math_bits_Len64 at H
 refine Fn_intro Tryz.func252 rfl rfl fun we Se rest => T_seq <| T_region <| TL_ad 1 [(2, iv 0)] rfl <| TL_nil <| T_seq ?_
 obtain ⟨s1, hL, Hc⟩ := bd_s H
 refine T_X [(.n, JQ we Se (G := Nat × Int) (fun (d1, i1) => (⟨[], [], [(0, uv d1), (2, iv (i1))]⟩ : Inv)) (fun (d1, i1) => (d1, i1) = s1 ∧ InU d1 ∧ InR i1))] ?_ ⟨?_, trivial⟩
 ·replace H := hL
  refine T_seq <| T_region <| TL_ad 1 [(3, uv a0)] rfl <| TL_geq rfl rfl rfl rfl (fun h1 => ?_) (fun h1 => ?_)
  ·replace H := if_t h1 H
   refine TL_nil <| T_cond_true rfl <| T_seq <| T_region <| TL_ad 1 [(5, uv a0)] rfl ?_
   obtain ⟨m1, hm1, H⟩ := nm_s H
   refine TL_val rfl rfl (r_shr (c := ((m1 : Nat) : Int)) rfl rfl (Int.natCast_nonneg _) (wu_y hm1 (n_shr_u (a := a0)))) <| TL_ad 1 [(0, uv m1)] rfl <| TL_nil <| T_region <| TL_ad 1 [(2, iv 32)] rfl <| TL_nil ?_
   exact JQ_mk (m1, 32) (And.intro (Option.some.inj H) (And.intro (udiv_r qa0 hm1) (show InR (32) by decide))) rfl (fun w h => St.weak h (fun S w h => trivial))
  replace H := if_f h1 H
  refine TL_nil <| T_cond_false rfl <| T_skip ?_
  exact JQ_mk (a0, 0) (And.intro (Option.some.inj H) (And.intro qa0 (show InR (0) by decide))) rfl (fun w h => St.weak h (fun S w h => trivial))
 refine JQ_el' ?_
 rintro ⟨d1, i1⟩ ⟨hs, hr1, hr2⟩ rest
 subst hs
 replace H := Hc
 clear hL
 refine JG_to rfl <| T_seq ?_
 obtain ⟨s2, hL, Hc⟩ := bd_s H
 refine T_X [(.n, JQ we Se (G := Nat × Int) (fun (d2, i2) => (⟨[], [], [(0, uv d2), (2, iv (i2))]⟩ : Inv)) (fun (d2, i2) => (d2, i2) = s2 ∧ InU d2 ∧ InR i2))] ?_ ⟨?_, trivial⟩
 ·replace H := hL
  refine T_seq <| T_region <| TL_ad 1 [(7, uv d1)] rfl <| TL_geq rfl rfl rfl rfl (fun h2 => ?_) (fun h2 => ?_)
  ·replace H := if_t h2 H
   refine TL_nil <| T_cond_true rfl <| T_seq <| T_region <| TL_ad 1 [(9, uv d1)] rfl ?_
   obtain ⟨m2, hm2, H⟩ := nm_s H
   refine TL_val rfl rfl (r_shr (c := ((m2 : Nat) : Int)) rfl rfl (Int.natCast_nonneg _) (wu_y hm2 (n_shr_u (a := d1)))) <| TL_ad 1 [(0, uv m2)] rfl <| TL_nil <| T_region <| TL_ad 1 [(11, iv (i1))] rfl ?_
   obtain ⟨x1, hx1, hrx1, H⟩ := ck64_s H
   refine TL_val rfl rfl (r_add (c := x1) rfl rfl (w_x hx1 hrx1)) <| TL_ad 1 [(2, iv (x1))] rfl <| TL_nil ?_
   exact JQ_mk (m2, x1) (And.intro (Option.some.inj H) (And.intro (udiv_r hr1 hm2) hrx1)) rfl (fun w h => St.weak h (fun S w h => trivial))
  replace H := if_f h2 H
  refine TL_nil <| T_cond_false rfl <| T_skip ?_
  exact JQ_mk (d1, i1) (And.intro (Option.some.inj H) (And.intro hr1 hr2)) rfl (fun w h => St.weak h (fun S w h => trivial))
 refine JQ_el' ?_
 rintro ⟨d2, i2⟩ ⟨hs, hr3, hr4⟩ rest
 subst hs
 replace H := Hc
 clear hL
 refine JG_to rfl <| T_seq <| T_seq <| T_region <| TL_ad 1 [(13, uv d2)] rfl <| TL_geq rfl rfl rfl rfl (fun h3 => ?_) (fun h3 => ?_)
 ·replace H := if_t h3 H
  refine TL_nil <| T_cond_true rfl <| T_seq <| T_region <| TL_ad 1 [(15, uv d2)] rfl ?_
  obtain ⟨m3, hm3, H⟩ := nm_s H
  refine TL_val rfl rfl (r_shr (c := ((m3 : Nat) : Int)) rfl rfl (Int.natCast_nonneg _) (wu_y hm3 (n_shr_u (a := d2)))) <| TL_ad 1 [(0, uv m3)] rfl <| TL_nil <| T_region <| TL_ad 1 [(17, iv (i2))] rfl ?_
  obtain ⟨x2, hx2, hrx2, H⟩ := ck64_s H
  refine TL_val rfl rfl (r_add (c := x2) rfl rfl (w_x hx2 hrx2)) <| TL_ad 1 [(2, iv (x2))] rfl <| TL_nil <| T_seq <| T_region <| TL_ad 2 [(20, uv m3), (19, iv (x2))] rfl ?_
  obtain ⟨m4, hm4, H⟩ := nm_s H
  refine TL_val rfl rfl (r_conv (c := ((m4 : Nat) : Int)) Tryz.underlying54 Tryz.underlying5 rfl (wu_x hm4 (wu8 _))) ?_
  obtain ⟨m5, hm5, H⟩ := nm_s H
  refine TL_val rfl rfl (r_len8 (z := m5) Tryz.underlying9 rfl (by kernel_rfl) rfl (mod8_r hm4) hm5) <| TL_val rfl rfl (r_conv (c := ((m5 : Nat) : Int)) Tryz.underlying5 Tryz.underlying3 rfl (w64 (b_r (bitLen8_r (mod8_r hm4) hm5)))) ?_
  obtain ⟨x3, hx3, hrx3, H⟩ := ck64_s H
  refine TL_val rfl rfl (r_add (c := x3) rfl rfl (w_x hx3 hrx3)) <| TL_ad 1 [(2, iv (x3))] rfl <| TL_nil <| T_ret ?_
  obtain rfl := inj1 H
  exact Ret1 () Tryz.results252 rfl hrx3 (fun S w h => trivial)
 replace H := if_f h3 H
 refine TL_nil <| T_cond_false rfl <| T_skip <| T_seq <| T_region <| TL_ad 2 [(20, uv d2), (19, iv (i2))] rfl ?_
 obtain ⟨m6, hm6, H⟩ := nm_s H
 refine TL_val rfl rfl (r_conv (c := ((m6 : Nat) : Int)) Tryz.underlying54 Tryz.underlying5 rfl (wu_x hm6 (wu8 _))) ?_
 obtain ⟨m7, hm7, H⟩ := nm_s H
 refine TL_val rfl rfl (r_len8 (z := m7) Tryz.underlying9 rfl (by kernel_rfl) rfl (mod8_r hm6) hm7) <| TL_val rfl rfl (r_conv (c := ((m7 : Nat) : Int)) Tryz.underlying5 Tryz.underlying3 rfl (w64 (b_r (bitLen8_r (mod8_r hm6) hm7)))) ?_
 obtain ⟨x4, hx4, hrx4, H⟩ := ck64_s H
 refine TL_val rfl rfl (r_add (c := x4) rfl rfl (w_x hx4 hrx4)) <| TL_ad 1 [(2, iv (x4))] rfl <| TL_nil <| T_ret ?_
 obtain rfl := inj1 H
 exact Ret1 () Tryz.results252 rfl hrx4 (fun S w h => trivial)
theorem g_math_bits_Len64 (fu : Nat) : SigOK Tryz.prog (s_math_bits_Len64 fu) := sig_ui (by kernel_rfl) fun x r hx h => c_math_bits_Len64 fu x hx r h
def s_math_bits_LeadingZeros64 (fu : Nat) : Sig := ⟨293, [.d .u], [.d .i], fun x => M_math_bits_LeadingZeros64 fu x.1, 0⟩
theorem g_math_bits_LeadingZeros64 (fu : Nat) : SigOK Tryz.prog (s_math_bits_LeadingZeros64 fu) := sg (fu := fu) ⟨[], [], [], [], [], [], []⟩ Tryz.func293 (cC (g_math_bits_Len64 fu) <| cN) (by kernel_rfl) fun x => by kernel_rfl
def s_math_bits_Div64 (fu : Nat) : Sig := ⟨227, [.d .u, .d .u, .d .u], [.d .u, .d .u], fun x => M_math_bits_Div64 fu x.1 x.2.1 x.2.2.1, 0⟩
theorem g_math_bits_Div64 (fu : Nat) : SigOK Tryz.prog (s_math_bits_Div64 fu) := sg (fu := fu) ⟨[], [], [(17, ⟨⟨[(15, .d .u), (16, .d .u)], []⟩, ⟨[], [(.x 0, ⟨[(15, .d .u)], []⟩)]⟩⟩), (24, ⟨⟨[(16, .d .u), (18, .d .u)], []⟩, ⟨[], [(.x 2, ⟨[(18, .d .u)], []⟩)]⟩⟩)], [], [], [], []⟩ Tryz.func227 (cC (g_math_bits_LeadingZeros64 fu) <| cN) (by kernel_rfl) fun x => by kernel_rfl
def s_math_bits_Mul64 (fu : Nat) : Sig := ⟨302, [.d .u, .d .u], [.d .u, .d .u], fun x => M_math_bits_Mul64 fu x.1 x.2.1, 0⟩
theorem g_math_bits_Mul64 (fu : Nat) : SigOK Tryz.prog (s_math_bits_Mul64 fu) := sg (fu := fu) ⟨[], [], [], [], [], [], []⟩ Tryz.func302 (cN) (by kernel_rfl) fun x => by kernel_rfl
def s_nat_guess (fu : Nat) : Sig := ⟨294, [.d .u, .d .u, .d .u, .d .u, .d .u], [.d .u], fun x => M_nat_guess fu x.1 x.2.1 x.2.2.1 x.2.2.2.1 x.2.2.2.2.1, 0⟩
theorem g_nat_guess (fu : Nat) : SigOK Tryz.prog (s_nat_guess fu) := sg (fu := fu) ⟨[], [], [(4, ⟨⟨[(11, .d .u), (12, .d .u)], []⟩, ⟨[], [(.r, ⟨[(10, .d .u)], []⟩)]⟩⟩)], [], [], [], []⟩ Tryz.func294 (cC (g_math_bits_Div64 fu) <| cC (g_math_bits_Mul64 fu) <| cN) (by kernel_rfl) fun x => by kernel_rfl
def s_nat_Sub_1 (fu : Nat) : Sig := ⟨218, [.d .i, .d .u, .q (.l .u), .q (.l .u)], [.d .u, .d .u], fun x => M_nat_Sub_1 fu x.1 x.2.1 x.2.2.1 x.2.2.2.1, 0⟩
theorem g_nat_Sub_1 (fu : Nat) : SigOK Tryz.prog (s_nat_Sub_1 fu) := sg (fu := fu) ⟨[], [], [], [], [], [], []⟩ Tryz.func218 (cC (g_nat_at fu) <| cN) (by kernel_rfl) fun x => by kernel_rfl
def s_nat_Sub (fu : Nat) : Sig := ⟨141, [.d (.l .u), .d (.l .u)], [.own .u 54, .d .i], fun x => M_nat_Sub fu x.1 x.2.1, 0⟩
theorem g_nat_Sub (fu : Nat) : SigOK Tryz.prog (s_nat_Sub fu) := sg (fu := fu) ⟨[], [], [], [], [], [], []⟩ Tryz.func141 (cC (g_nat_Sub_1 fu) <| cC (g_nat_carried fu) <| cC (g_nat_plain_own fu) <| cC (g_nat_plain fu) <| cN) (by kernel_rfl) fun x => by kernel_rfl
def s_nat_less (fu : Nat) : Sig := ⟨159, [.d (.l .u), .d (.l .u)], [.own .u 54], fun x => M_nat_less fu x.1 x.2.1, 0⟩
theorem g_nat_less (fu : Nat) : SigOK Tryz.prog (s_nat_less fu) := sg (fu := fu) ⟨[], [], [], [], [], [], []⟩ Tryz.func159 (cC (g_nat_Sub fu) <| cN) (by kernel_rfl) fun x => by kernel_rfl
def s_nat_row_1 (fu : Nat) : Sig := ⟨301, [.d .i, .d .u, .q (.l .u), .q .u], [.d .u, .d .u], fun x => M_nat_row_1 fu x.1 x.2.1 x.2.2.1 x.2.2.2.1, 0⟩
theorem g_nat_row_1 (fu : Nat) : SigOK Tryz.prog (s_nat_row_1 fu) := sg (fu := fu) ⟨[], [], [], [], [], [], []⟩ Tryz.func301 (cC (g_math_bits_Mul64 fu) <| cN) (by kernel_rfl) fun x => by kernel_rfl
def s_nat_row (fu : Nat) : Sig := ⟨225, [.d (.l .u), .d .u], [.own .u 54], fun x => M_nat_row fu x.1 x.2.1, 0⟩
theorem g_nat_row (fu : Nat) : SigOK Tryz.prog (s_nat_row fu) := sg (fu := fu) ⟨[], [], [], [], [], [], []⟩ Tryz.func225 (cC (g_nat_carried fu) <| cC (g_nat_row_1 fu) <| cN) (by kernel_rfl) fun x => by kernel_rfl
def s_nat_short (fu : Nat) : Sig := ⟨164, [.d (.l .u), .d .u], [.own .u 54, .d .u], fun x => M_nat_short fu x.1 x.2.1, 0⟩
theorem g_nat_short (fu : Nat) : SigOK Tryz.prog (s_nat_short fu) := sg (fu := fu) ⟨[], [], [(3, ⟨⟨[(7, .d .u), (8, .d .i), (6, .own .u 54)], []⟩, ⟨[], [(.x 0, ⟨[(7, .d .u), (6, .own .u 54)], []⟩)]⟩⟩)], [], [], [], []⟩ Tryz.func164 (cC (g_math_bits_Div64 fu) <| cC (g_nat_plain_own fu) <| cC (g_nat_plain fu) <| cN) (by kernel_rfl) fun x => by kernel_rfl
def s_nat_Div (fu : Nat) : Sig := ⟨203, [.d (.l .u), .d (.l .u)], [.own .u 54, .d (.l .u), .d .i], fun x => M_nat_Div fu x.1 x.2.1, 0⟩
theorem g_nat_Div (fu : Nat) : SigOK Tryz.prog (s_nat_Div fu) := sg (fu := fu) ⟨[], [(196612, ⟨[], [(.n, ⟨[(23, .d .b)], []⟩)]⟩), (327686, ⟨[], [(.n, ⟨[(27, .d .b)], []⟩)]⟩)], [(16, ⟨⟨[(10, .d (.l .u)), (16, .d .i), (12, .own .u 54), (15, .own .u 54)], []⟩, ⟨[], [(.x 1, ⟨[(12, .own .u 54), (15, .own .u 54)], []⟩)]⟩⟩), (20, ⟨⟨[(9, .d .i), (14, .d .i), (17, .d .u), (18, .d (.l .u))], []⟩, ⟨[12, 15], [(.x 3, ⟨[(9, .d .i), (14, .d .i), (17, .d .u), (18, .d (.l .u))], []⟩)]⟩⟩)], [(23, [149])], [129], [], []⟩ Tryz.func203 (cC (g_nat_row fu) <| cC (g_nat_short fu) <| cC (g_math_bits_LeadingZeros64 fu) <| cC (g_nat_guess fu) <| cC (g_nat_Shr fu) <| cC (g_nat_Cmp fu) <| cC (g_nat_Norm fu) <| cC (g_nat_Shl fu) <| cC (g_nat_plain_own fu) <| cC (g_nat_plain fu) <| cC (g_nat_less fu) <| cN) (by kernel_rfl) fun x => by kernel_rfl
def s_zint_made (fu : Nat) : Sig := ⟨81, [.d .b, .d (.l .u)], [.d (.p .b (.l .u))], fun x => M_zint_made fu x.1 x.2.1, 0⟩
theorem g_zint_made (fu : Nat) : SigOK Tryz.prog (s_zint_made fu) := sg (fu := fu) ⟨[], [], [], [], [], [], []⟩ Tryz.func81 (cC (g_nat_Norm fu) <| cN) (by kernel_rfl) fun x => by kernel_rfl
def s_zint_Div (fu : Nat) : Sig := ⟨137, [.d (.p .b (.l .u)), .d (.p .b (.l .u))], [.d (.p .b (.l .u)), .d (.p .b (.l .u)), .d .i], fun x => M_zint_Div fu x.1 x.2.1, 0⟩
theorem g_zint_Div (fu : Nat) : SigOK Tryz.prog (s_zint_Div fu) := sg (fu := fu) ⟨[], [(327688, ⟨[4, 5], [(.n, ⟨[(7, .own .u 54), (8, .d (.l .u))], []⟩)]⟩)], [], [], [], [], []⟩ Tryz.func137 (cC (g_zint_made fu) <| cC (g_nat_Div fu) <| cC (g_nat_Add fu) <| cC (g_nat_Sub fu) <| cN) (by kernel_rfl) fun x => by kernel_rfl
def s_zint_Norm (fu : Nat) : Sig := ⟨73, [.d (.p .b (.l .u))], [.d (.p .b (.l .u))], fun x => M_zint_Norm fu x.1, 0⟩
theorem g_zint_Norm (fu : Nat) : SigOK Tryz.prog (s_zint_Norm fu) := sg (fu := fu) ⟨[], [], [], [], [], [], []⟩ Tryz.func73 (cC (g_zint_made fu) <| cN) (by kernel_rfl) fun x => by kernel_rfl
def s_zint_Sign (fu : Nat) : Sig := ⟨70, [.d (.p .b (.l .u))], [.d .i], fun x => M_zint_Sign fu x.1, 0⟩
theorem g_zint_Sign (fu : Nat) : SigOK Tryz.prog (s_zint_Sign fu) := sg (fu := fu) ⟨[1], [], [], [], [], [], []⟩ Tryz.func70 (cC (g_zint_Norm fu) <| cN) (by kernel_rfl) fun x => by kernel_rfl
def s_zint_Exact (fu : Nat) : Sig := ⟨75, [.d (.p .b (.l .u)), .d (.p .b (.l .u))], [.d (.p .b (.l .u)), .d .i], fun x => M_zint_Exact fu x.1 x.2.1, 0⟩
theorem g_zint_Exact (fu : Nat) : SigOK Tryz.prog (s_zint_Exact fu) := sg (fu := fu) ⟨[], [(196612, ⟨[4, 6, 7], [(.n, ⟨[(16, .d .b)], []⟩)]⟩)], [], [], [], [], []⟩ Tryz.func75 (cC (g_zint_Div fu) <| cC (g_zint_Sign fu) <| cN) (by kernel_rfl) fun x => by kernel_rfl
def s_zint_Gcd (fu : Nat) : Sig := ⟨130, [.d (.p .b (.l .u)), .d (.p .b (.l .u))], [.d (.p .b (.l .u))], fun x => M_zint_Gcd fu x.1 x.2.1, 0⟩
theorem g_zint_Gcd (fu : Nat) : SigOK Tryz.prog (s_zint_Gcd fu) := sg (fu := fu) ⟨[], [], [(2, ⟨⟨[(5, .d (.l .u)), (6, .d (.l .u))], []⟩, ⟨[4], [(.x 0, ⟨[(5, .d (.l .u))], []⟩)]⟩⟩)], [], [], [], []⟩ Tryz.func130 (cC (g_nat_Norm fu) <| cC (g_zint_made fu) <| cC (g_nat_Div fu) <| cN) (by kernel_rfl) fun x => by kernel_rfl
def s_zint_Neg (fu : Nat) : Sig := ⟨131, [.d (.p .b (.l .u))], [.d (.p .b (.l .u))], fun x => M_zint_Neg fu x.1, 0⟩
theorem g_zint_Neg (fu : Nat) : SigOK Tryz.prog (s_zint_Neg fu) := sg (fu := fu) ⟨[], [], [], [], [], [], []⟩ Tryz.func131 (cC (g_zint_made fu) <| cN) (by kernel_rfl) fun x => by kernel_rfl
def s_rat_Make (fu : Nat) : Sig := ⟨105, [.d (.p .b (.l .u)), .d (.p .b (.l .u))], [.d (.p (.p .b (.l .u)) (.l .u)), .d .i], fun x => M_rat_Make fu x.1 x.2.1, 0⟩
theorem g_rat_Make (fu : Nat) : SigOK Tryz.prog (s_rat_Make fu) := sg (fu := fu) ⟨[], [], [], [], [], [], []⟩ Tryz.func105 (cC (g_zint_Gcd fu) <| cC (g_zint_Exact fu) <| cC (g_zint_Neg fu) <| cC (g_zint_Sign fu) <| cN) (by kernel_rfl) fun x => by kernel_rfl
def s_nat_school (fu : Nat) : Sig := ⟨158, [.d (.l .u), .d (.l .u)], [.own .u 54], fun x => M_nat_school fu x.1 x.2.1, 0⟩
theorem g_nat_school (fu : Nat) : SigOK Tryz.prog (s_nat_school fu) := sg (fu := fu) ⟨[], [(262149, ⟨[5], [(.n, ⟨[(0, .d (.l .u)), (18, .d (.l .u)), (19, .d .i), (21, .d .b)], []⟩)]⟩), (524297, ⟨[5, 27], [(.n, ⟨[(0, .d (.l .u)), (6, .d .i), (18, .d (.l .u)), (19, .d .i), (20, .d .i), (28, .d .i), (30, .d .b)], []⟩)]⟩)], [(3, ⟨⟨[(20, .d .i), (5, .own .u 54)], []⟩, ⟨[], [(.x 0, ⟨[(5, .own .u 54)], []⟩)]⟩⟩), (7, ⟨⟨[(8, .d .u), (29, .d .i), (5, .own .u 54), (27, .own .u 54)], []⟩, ⟨[], [(.x 2, ⟨[(5, .own .u 54)], []⟩)]⟩⟩)], [], [], [], []⟩ Tryz.func158 (cC (g_nat_row fu) <| cC (g_nat_plain_own fu) <| cC (g_nat_plain fu) <| cN) (by kernel_rfl) fun x => by kernel_rfl
def s_nat_Mul (fu : Nat) : Sig := ⟨102, [.d (.l .u), .d (.l .u)], [.own .u 54], fun x => M_nat_Mul fu x.1 x.2.1, 0⟩
theorem g_nat_Mul : ∀ fu : Nat, SigOK Tryz.prog (s_nat_Mul fu)
  | 0 => sg0 (by kernel_rfl) fun _ => rfl
  | fu + 1 => sg (fu := fu) ⟨[], [], [], [], [], [], []⟩ Tryz.func102 (cC (g_nat_moved fu) <| cC (g_nat_Mul fu) <| cC (g_nat_Add fu) <| cC (g_nat_plain_own fu) <| cC (g_nat_plain fu) <| cC (g_nat_school fu) <| cC (g_nat_less fu) <| cN) (by kernel_rfl) fun x => by kernel_rfl
def s_zint_Mul (fu : Nat) : Sig := ⟨78, [.d (.p .b (.l .u)), .d (.p .b (.l .u))], [.d (.p .b (.l .u))], fun x => M_zint_Mul fu x.1 x.2.1, 0⟩
theorem g_zint_Mul (fu : Nat) : SigOK Tryz.prog (s_zint_Mul fu) := sg (fu := fu) ⟨[], [], [], [], [], [], []⟩ Tryz.func78 (cC (g_zint_made fu) <| cC (g_nat_Mul fu) <| cN) (by kernel_rfl) fun x => by kernel_rfl
def s_zint_Add (fu : Nat) : Sig := ⟨77, [.d (.p .b (.l .u)), .d (.p .b (.l .u))], [.d (.p .b (.l .u))], fun x => M_zint_Add fu x.1 x.2.1, 0⟩
theorem g_zint_Add (fu : Nat) : SigOK Tryz.prog (s_zint_Add fu) := sg (fu := fu) ⟨[2, 3], [(262150, ⟨[4], [(.n, ⟨[(2, .var (.p .b (.l .u)) 30), (3, .var (.p .b (.l .u)) 30)], []⟩)]⟩)], [], [], [], [], []⟩ Tryz.func77 (cC (g_zint_made fu) <| cC (g_nat_Add fu) <| cC (g_nat_Cmp fu) <| cC (g_nat_Sub fu) <| cN) (by kernel_rfl) fun x => by kernel_rfl
def s_zint_Sub (fu : Nat) : Sig := ⟨138, [.d (.p .b (.l .u)), .d (.p .b (.l .u))], [.d (.p .b (.l .u))], fun x => M_zint_Sub fu x.1 x.2.1, 0⟩
theorem g_zint_Sub (fu : Nat) : SigOK Tryz.prog (s_zint_Sub fu) := sg (fu := fu) ⟨[], [], [], [], [], [], []⟩ Tryz.func138 (cC (g_zint_Neg fu) <| cC (g_zint_Add fu) <| cN) (by kernel_rfl) fun x => by kernel_rfl
def s_zpoly_Norm_1 (fu : Nat) : Sig := ⟨72, [.d .i, .d (.p .b (.l .u))], [.d (.p .b (.l .u))], fun x => M_zpoly_Norm_1 fu x.1 x.2.1, 0⟩
theorem g_zpoly_Norm_1 (fu : Nat) : SigOK Tryz.prog (s_zpoly_Norm_1 fu) := sg (fu := fu) ⟨[], [], [], [], [], [], []⟩ Tryz.func72 (cC (g_zint_Norm fu) <| cN) (by kernel_rfl) fun x => by kernel_rfl
def s_zpoly_each_api_Int_api_Int (fu : Nat) : Sig := ⟨71, [.d (.l (.p .b (.l .u))), .fn [.i, (.p .b (.l .u))] [(.p .b (.l .u))]], [.own (.p .b (.l .u)) 30], fun x => M_zpoly_each_api_Int_api_Int fu x.1 (fun z0 z1 => x.2.1 (z0, z1, ())), 0⟩
theorem g_zpoly_each_api_Int_api_Int (fu : Nat) : SigOK Tryz.prog (s_zpoly_each_api_Int_api_Int fu) := sg (fu := fu) ⟨[], [(262149, ⟨[5], [(.n, ⟨[(11, .d (.l (.p .b (.l .u)))), (12, .d .i), (14, .d .b)], []⟩)]⟩)], [(3, ⟨⟨[(13, .d .i), (5, .own (.p .b (.l .u)) 30)], []⟩, ⟨[], [(.x 0, ⟨[(5, .own (.p .b (.l .u)) 30)], []⟩)]⟩⟩)], [], [], [], []⟩ Tryz.func71 (cN) (by kernel_rfl) fun x => by kernel_rfl
def s_zpoly_Norm (fu : Nat) : Sig := ⟨21, [.d (.l (.p .b (.l .u)))], [.own (.p .b (.l .u)) 30], fun x => M_zpoly_Norm fu x.1, 0⟩
theorem g_zpoly_Norm (fu : Nat) : SigOK Tryz.prog (s_zpoly_Norm fu) := sg (fu := fu) ⟨[], [], [(1, ⟨⟨[(0, .d (.l (.p .b (.l .u))))], []⟩, ⟨[], [(.x 0, ⟨[(0, .d (.l (.p .b (.l .u))))], []⟩)]⟩⟩)], [], [], [], []⟩ Tryz.func21 (cC (g_zpoly_Norm_1 fu) <| cC (g_zint_Sign fu) <| cC (g_zpoly_each_api_Int_api_Int fu) <| cN) (by kernel_rfl) fun x => by kernel_rfl
def s_zpoly_Div (fu : Nat) : Sig := ⟨129, [.d (.l (.p .b (.l .u))), .d (.l (.p .b (.l .u)))], [.own (.p .b (.l .u)) 30, .d .i], fun x => M_zpoly_Div fu x.1 x.2.1, 0⟩
theorem g_zpoly_Div (fu : Nat) : SigOK Tryz.prog (s_zpoly_Div fu) := sg (fu := fu) ⟨[], [(327687, ⟨[1, 6], [(.n, ⟨[], []⟩), (.r, ⟨[], [(4, .nil), (5, .ci 4)]⟩)]⟩), (1048593, ⟨[1, 6, 7, 9], [(.n, ⟨[(8, .d .i), (71, .d .i), (73, .d .b)], []⟩)]⟩)], [(8, ⟨⟨[(8, .d .i), (1, .own (.p .b (.l .u)) 30), (6, .own (.p .b (.l .u)) 30), (7, .own (.p .b (.l .u)) 30)], []⟩, ⟨[], [(.x 0, ⟨[(6, .own (.p .b (.l .u)) 30), (7, .own (.p .b (.l .u)) 30)], []⟩), (.r, ⟨[(5, .d .i)], [(4, .nil)]⟩)]⟩⟩), (15, ⟨⟨[(72, .d .i), (1, .own (.p .b (.l .u)) 30), (6, .own (.p .b (.l .u)) 30), (7, .own (.p .b (.l .u)) 30), (9, .var (.p .b (.l .u)) 30)], [(70, .al 1)]⟩, ⟨[], [(.x 2, ⟨[(1, .own (.p .b (.l .u)) 30), (6, .own (.p .b (.l .u)) 30), (7, .own (.p .b (.l .u)) 30)], []⟩)]⟩⟩)], [(10, [])], [], [], []⟩ Tryz.func129 (cC (g_zint_Sub fu) <| cC (g_zint_Exact fu) <| cC (g_zpoly_Norm fu) <| cC (g_zint_Mul fu) <| cN) (by kernel_rfl) fun x => by kernel_rfl
def s_zfac_often (fu : Nat) : Sig := ⟨61, [.d (.l (.p .b (.l .u))), .d (.l (.p .b (.l .u)))], [.d .i], fun x => M_zfac_often fu x.1 x.2.1, 0⟩
theorem g_zfac_often (fu : Nat) : SigOK Tryz.prog (s_zfac_often fu) := sg (fu := fu) ⟨[], [], [(3, ⟨⟨[(5, .d .i), (6, .own (.p .b (.l .u)) 30), (7, .d .i)], []⟩, ⟨[], [(.x 0, ⟨[(5, .d .i)], []⟩)]⟩⟩)], [], [], [], []⟩ Tryz.func61 (cC (g_zpoly_Div fu) <| cN) (by kernel_rfl) fun x => by kernel_rfl
def s_prime_Is (fu : Nat) : Sig := ⟨188, [.d .i], [.d .b], fun x => M_prime_Is fu x.1, 0⟩
theorem g_prime_Is (fu : Nat) : SigOK Tryz.prog (s_prime_Is fu) := sg (fu := fu) ⟨[], [(131075, ⟨[], [(.n, ⟨[(3, .d .b)], []⟩)]⟩)], [(3, ⟨⟨[(3, .d .b), (4, .d .i)], []⟩, ⟨[], [(.x 0, ⟨[(3, .d .b)], []⟩)]⟩⟩)], [], [], [], []⟩ Tryz.func188 (cN) (by kernel_rfl) fun x => by kernel_rfl
def s_zint_Of (fu : Nat) : Sig := ⟨28, [.d .i], [.d (.p .b (.l .u))], fun x => M_zint_Of fu x.1, 0⟩
theorem g_zint_Of (fu : Nat) : SigOK Tryz.prog (s_zint_Of fu) := sg (fu := fu) ⟨[], [], [], [], [], [], []⟩ Tryz.func28 (cC (g_zint_made fu) <| cN) (by kernel_rfl) fun x => by kernel_rfl
def s_nat_Bits (fu : Nat) : Sig := ⟨183, [.d (.l .u)], [.d .i], fun x => M_nat_Bits fu x.1, 0⟩
theorem g_nat_Bits (fu : Nat) : SigOK Tryz.prog (s_nat_Bits fu) := sg (fu := fu) ⟨[], [], [], [], [], [], []⟩ Tryz.func183 (cC (g_math_bits_Len64 fu) <| cC (g_nat_plain_own fu) <| cC (g_nat_plain fu) <| cN) (by kernel_rfl) fun x => by kernel_rfl
def s_zint_Pow (fu : Nat) : Sig := ⟨189, [.d (.p .b (.l .u)), .d .i], [.d (.p .b (.l .u)), .d .i], fun x => M_zint_Pow fu x.1 x.2.1, 0⟩
theorem g_zint_Pow (fu : Nat) : SigOK Tryz.prog (s_zint_Pow fu) := sg (fu := fu) ⟨[], [(131075, ⟨[4], [(.n, ⟨[(8, .d .b)], []⟩)]⟩)], [(7, ⟨⟨[(1, .d .i), (7, .var (.p .b (.l .u)) 30), (6, .var (.p .b (.l .u)) 30)], []⟩, ⟨[4], [(.x 1, ⟨[(6, .var (.p .b (.l .u)) 30)], []⟩)]⟩⟩)], [], [], [], []⟩ Tryz.func189 (cC (g_zint_Norm fu) <| cC (g_zint_Of fu) <| cC (g_zint_Mul fu) <| cC (g_nat_Bits fu) <| cN) (by kernel_rfl) fun x => by kernel_rfl
def s_hensel_Power (fu : Nat) : Sig := ⟨123, [.d .i, .d .i], [.d (.p .b (.l .u)), .d .i], fun x => M_hensel_Power fu x.1 x.2.1, 0⟩
theorem g_hensel_Power (fu : Nat) : SigOK Tryz.prog (s_hensel_Power fu) := sg (fu := fu) ⟨[], [], [], [], [], [], []⟩ Tryz.func123 (cC (g_prime_Is fu) <| cC (g_zint_Of fu) <| cC (g_zint_Pow fu) <| cN) (by kernel_rfl) fun x => by kernel_rfl
def s_hensel_rests (fu : Nat) : Sig := ⟨336, [.d (.l (.p .b (.l .u))), .d (.p .b (.l .u)), .fn [(.p .b (.l .u)), (.p .b (.l .u))] [(.p .b (.l .u)), .i]], [.own (.p .b (.l .u)) 30, .d .i], fun x => M_hensel_rests fu x.1 x.2.1 (fun z0 z1 => x.2.2.1 (z0, z1, ())), 0⟩
theorem g_hensel_rests (fu : Nat) : SigOK Tryz.prog (s_hensel_rests fu) := sg (fu := fu) ⟨[], [(393223, ⟨[8], [(.n, ⟨[(4, .q (.p .b (.l .u))), (17, .d (.l (.p .b (.l .u)))), (18, .d .i), (20, .d .b)], []⟩)]⟩)], [(5, ⟨⟨[(19, .d .i), (8, .own (.p .b (.l .u)) 30)], []⟩, ⟨[], [(.x 0, ⟨[(8, .own (.p .b (.l .u)) 30)], []⟩)]⟩⟩)], [], [], [], []⟩ Tryz.func336 (cC (g_zpoly_Norm fu) <| cC (g_zint_Sign fu) <| cN) (by kernel_rfl) fun x => by kernel_rfl
def s_prime_Rest (fu : Nat) : Sig := ⟨313, [.d (.p .b (.l .u)), .d (.p .b (.l .u))], [.d (.p .b (.l .u)), .d .i], fun x => M_prime_Rest fu x.1 x.2.1, 0⟩
theorem g_prime_Rest (fu : Nat) : SigOK Tryz.prog (s_prime_Rest fu) := sg (fu := fu) ⟨[], [], [], [], [], [], []⟩ Tryz.func313 (cC (g_zint_Div fu) <| cC (g_zint_Sign fu) <| cN) (by kernel_rfl) fun x => by kernel_rfl
def s_hensel_Red (fu : Nat) : Sig := ⟨279, [.d (.l (.p .b (.l .u))), .d (.p .b (.l .u))], [.own (.p .b (.l .u)) 30, .d .i], fun x => M_hensel_Red fu x.1 x.2.1, 0⟩
theorem g_hensel_Red (fu : Nat) : SigOK Tryz.prog (s_hensel_Red fu) := sg (fu := fu) ⟨[], [], [], [], [], [], []⟩ Tryz.func279 (cC (g_hensel_rests fu) <| cC (g_prime_Rest fu) <| cN) (by kernel_rfl) fun x => by kernel_rfl
def s_hensel_red (fu : Nat) : Sig := ⟨197, [.d (.l (.p .b (.l .u))), .d (.p .b (.l .u))], [.own (.p .b (.l .u)) 30], fun x => M_hensel_red fu x.1 x.2.1, 0⟩
theorem g_hensel_red (fu : Nat) : SigOK Tryz.prog (s_hensel_red fu) := sg (fu := fu) ⟨[], [], [], [], [], [], []⟩ Tryz.func197 (cC (g_hensel_Red fu) <| cN) (by kernel_rfl) fun x => by kernel_rfl
def s_fp_Check (fu : Nat) : Sig := ⟨268, [.d .i], [.d .i], fun x => M_fp_Check fu x.1, 0⟩
theorem g_fp_Check (fu : Nat) : SigOK Tryz.prog (s_fp_Check fu) := sg (fu := fu) ⟨[], [], [], [], [], [], []⟩ Tryz.func268 (cC (g_prime_Is fu) <| cN) (by kernel_rfl) fun x => by kernel_rfl
def s_fp_Red (fu : Nat) : Sig := ⟨317, [.d .i, .d .i], [.d .i], fun x => M_fp_Red fu x.1 x.2.1, 0⟩
theorem g_fp_Red (fu : Nat) : SigOK Tryz.prog (s_fp_Red fu) := sg (fu := fu) ⟨[], [], [], [], [], [], []⟩ Tryz.func317 (cN) (by kernel_rfl) fun x => by kernel_rfl
def s_fp_Inv (fu : Nat) : Sig := ⟨329, [.d .i, .d .i], [.d .i, .d .i], fun x => M_fp_Inv fu x.1 x.2.1, 0⟩
theorem g_fp_Inv (fu : Nat) : SigOK Tryz.prog (s_fp_Inv fu) := sg (fu := fu) ⟨[], [], [(5, ⟨⟨[(7, .d .i), (8, .d .i), (9, .d .i), (10, .d .i)], []⟩, ⟨[], [(.x 0, ⟨[(10, .d .i)], []⟩), (.r, ⟨[], [(4, .ci 0), (5, .ci 3)]⟩)]⟩⟩)], [], [], [], []⟩ Tryz.func329 (cC (g_fp_Check fu) <| cC (g_fp_Red fu) <| cN) (by kernel_rfl) fun x => by kernel_rfl
def s_fpoly_plain (fu : Nat) : Sig := ⟨269, [.d (.l .i), .d .i], [.own .i 3], fun x => M_fpoly_plain fu x.1 x.2.1, 0⟩
theorem g_fpoly_plain (fu : Nat) : SigOK Tryz.prog (s_fpoly_plain fu) := sg (fu := fu) ⟨[], [], [(3, ⟨⟨[(13, .d .i), (5, .own .i 3)], []⟩, ⟨[], [(.x 0, ⟨[(5, .own .i 3)], []⟩)]⟩⟩), (7, ⟨⟨[(5, .own .i 3)], []⟩, ⟨[], [(.x 2, ⟨[(5, .own .i 3)], []⟩)]⟩⟩)], [], [], [], []⟩ Tryz.func269 (cC (g_fp_Red fu) <| cN) (by kernel_rfl) fun x => by kernel_rfl
def s_fpoly_divided (fu : Nat) : Sig := ⟨270, [.d (.l .i), .d (.l .i), .d .i], [.own .i 3, .own .i 3], fun x => M_fpoly_divided fu x.1 x.2.1 x.2.2.1, 0⟩
theorem g_fpoly_divided (fu : Nat) : SigOK Tryz.prog (s_fpoly_divided fu) := sg (fu := fu) ⟨[], [(851982, ⟨[8, 12], [(.n, ⟨[(9, .d .i), (13, .d .i), (61, .d (.l .i)), (62, .d .i), (64, .d .b)], []⟩)]⟩)], [(7, ⟨⟨[(9, .d .i), (8, .own .i 3), (12, .own .i 3)], []⟩, ⟨[], [(.x 0, ⟨[(8, .own .i 3), (12, .own .i 3)], []⟩)]⟩⟩), (12, ⟨⟨[(1, .d (.l .i)), (2, .d .i), (10, .d .i), (63, .d .i), (8, .own .i 3), (12, .own .i 3)], []⟩, ⟨[], [(.x 2, ⟨[(1, .d (.l .i)), (2, .d .i), (10, .d .i), (8, .own .i 3), (12, .own .i 3)], []⟩)]⟩⟩)], [], [], [], []⟩ Tryz.func270 (cC (g_fp_Inv fu) <| cC (g_fpoly_plain fu) <| cN) (by kernel_rfl) fun x => by kernel_rfl
def s_fpoly_product (fu : Nat) : Sig := ⟨330, [.d (.l .i), .d (.l .i), .d .i], [.own .i 3], fun x => M_fpoly_product fu x.1 x.2.1 x.2.2.1, 0⟩
theorem g_fpoly_product (fu : Nat) : SigOK Tryz.prog (s_fpoly_product fu) := sg (fu := fu) ⟨[], [(262149, ⟨[7], [(.n, ⟨[(1, .d (.l .i)), (2, .d .i), (18, .d (.l .i)), (19, .d .i), (21, .d .b)], []⟩)]⟩), (458760, ⟨[7], [(.n, ⟨[(1, .d (.l .i)), (2, .d .i), (8, .d .i), (9, .d .i), (18, .d (.l .i)), (19, .d .i), (20, .d .i), (25, .d (.l .i)), (26, .d .i), (28, .d .b)], []⟩)]⟩)], [(3, ⟨⟨[(20, .d .i), (7, .own .i 3)], []⟩, ⟨[], [(.x 0, ⟨[(7, .own .i 3)], []⟩)]⟩⟩), (6, ⟨⟨[(27, .d .i), (7, .own .i 3)], []⟩, ⟨[], [(.x 2, ⟨[(7, .own .i 3)], []⟩)]⟩⟩)], [], [], [], []⟩ Tryz.func330 (cC (g_fpoly_plain fu) <| cN) (by kernel_rfl) fun x => by kernel_rfl
def s_fpoly_sum (fu : Nat) : Sig := ⟨371, [.d (.l .i), .d (.l .i), .d .i, .d .i], [.own .i 3], fun x => M_fpoly_sum fu x.1 x.2.1 x.2.2.1 x.2.2.2.1, 0⟩
theorem g_fpoly_sum (fu : Nat) : SigOK Tryz.prog (s_fpoly_sum fu) := sg (fu := fu) ⟨[], [(327686, ⟨[9], [(.n, ⟨[(2, .d .i), (3, .d .i), (21, .d (.l .i)), (22, .d .i), (24, .d .b)], []⟩)]⟩)], [(4, ⟨⟨[(23, .d .i), (9, .own .i 3)], []⟩, ⟨[], [(.x 0, ⟨[(9, .own .i 3)], []⟩)]⟩⟩)], [], [], [], []⟩ Tryz.func371 (cC (g_fpoly_plain fu) <| cN) (by kernel_rfl) fun x => by kernel_rfl
def s_fpoly_next (fu : Nat) : Sig := ⟨333, [.d (.a 3 (.l .i)), .d (.a 3 (.l .i)), .d .i], [.d (.a 3 (.l .i))], fun x => M_fpoly_next fu x.1 x.2.1 x.2.2.1, 0⟩
theorem g_fpoly_next (fu : Nat) : SigOK Tryz.prog (s_fpoly_next fu) := sg (fu := fu) ⟨[3], [(262149, ⟨[3, 6], [(.n, ⟨[(2, .d .i), (4, .q (.a 3 (.l .i))), (20, .d .b)], []⟩)]⟩)], [(3, ⟨⟨[(7, .d (.l .i)), (19, .d .i), (3, .var (.a 3 (.l .i)) 286), (6, .var (.a 3 (.l .i)) 286)], []⟩, ⟨[8], [(.x 0, ⟨[(3, .var (.a 3 (.l .i)) 286), (6, .var (.a 3 (.l .i)) 286)], []⟩)]⟩⟩)], [], [], [], []⟩ Tryz.func333 (cC (g_fpoly_product fu) <| cC (g_fpoly_sum fu) <| cC (g_fpoly_divided fu) <| cN) (by kernel_rfl) fun x => by kernel_rfl
def s_fpoly_scaled (fu : Nat) : Sig := ⟨334, [.d (.l .i), .d .i, .d .i], [.own .i 3], fun x => M_fpoly_scaled fu x.1 x.2.1 x.2.2.1, 0⟩
theorem g_fpoly_scaled (fu : Nat) : SigOK Tryz.prog (s_fpoly_scaled fu) := sg (fu := fu) ⟨[], [], [], [], [], [], []⟩ Tryz.func334 (cC (g_fp_Inv fu) <| cC (g_fpoly_product fu) <| cN) (by kernel_rfl) fun x => by kernel_rfl
def s_fpoly_Bezout (fu : Nat) : Sig := ⟨277, [.d (.l .i), .d (.l .i), .d .i], [.d (.l .i), .d (.l .i), .d (.l .i), .d .i], fun x => M_fpoly_Bezout fu x.1 x.2.1 x.2.2.1, 0⟩
theorem g_fpoly_Bezout (fu : Nat) : SigOK Tryz.prog (s_fpoly_Bezout fu) := sg (fu := fu) ⟨[], [(589834, ⟨[11], [(.n, ⟨[(44, .d .b)], []⟩)]⟩)], [(5, ⟨⟨[(11, .var (.a 3 (.l .i)) 286), (12, .var (.a 3 (.l .i)) 286)], []⟩, ⟨[], [(.x 0, ⟨[(11, .var (.a 3 (.l .i)) 286)], []⟩)]⟩⟩), (11, ⟨⟨[(51, .d .i), (11, .var (.a 3 (.l .i)) 286)], []⟩, ⟨[], [(.x 2, ⟨[(11, .var (.a 3 (.l .i)) 286)], []⟩)]⟩⟩)], [], [], [], []⟩ Tryz.func277 (cC (g_fpoly_next fu) <| cC (g_fp_Check fu) <| cC (g_fpoly_plain fu) <| cC (g_fpoly_scaled fu) <| cN) (by kernel_rfl) fun x => by kernel_rfl
def s_fpoly_Gcd (fu : Nat) : Sig := ⟨272, [.d (.l .i), .d (.l .i), .d .i], [.d (.l .i), .d .i], fun x => M_fpoly_Gcd fu x.1 x.2.1 x.2.2.1, 0⟩
theorem g_fpoly_Gcd (fu : Nat) : SigOK Tryz.prog (s_fpoly_Gcd fu) := sg (fu := fu) ⟨[], [], [], [], [], [], []⟩ Tryz.func272 (cC (g_fpoly_Bezout fu) <| cN) (by kernel_rfl) fun x => by kernel_rfl
def s_fpoly_Mul (fu : Nat) : Sig := ⟨273, [.d (.l .i), .d (.l .i), .d .i], [.own .i 3, .d .i], fun x => M_fpoly_Mul fu x.1 x.2.1 x.2.2.1, 0⟩
theorem g_fpoly_Mul (fu : Nat) : SigOK Tryz.prog (s_fpoly_Mul fu) := sg (fu := fu) ⟨[], [], [], [], [], [], []⟩ Tryz.func273 (cC (g_fpoly_product fu) <| cC (g_fp_Check fu) <| cC (g_fpoly_plain fu) <| cN) (by kernel_rfl) fun x => by kernel_rfl
def s_fpoly_Sub (fu : Nat) : Sig := ⟨331, [.d (.l .i), .d (.l .i), .d .i], [.own .i 3, .d .i], fun x => M_fpoly_Sub fu x.1 x.2.1 x.2.2.1, 0⟩
theorem g_fpoly_Sub (fu : Nat) : SigOK Tryz.prog (s_fpoly_Sub fu) := sg (fu := fu) ⟨[], [], [], [], [], [], []⟩ Tryz.func331 (cC (g_fpoly_sum fu) <| cC (g_fp_Check fu) <| cC (g_fpoly_plain fu) <| cN) (by kernel_rfl) fun x => by kernel_rfl
def s_hensel_equal (fu : Nat) : Sig := ⟨275, [.d (.l .i), .d (.l .i), .d .i], [.d .b], fun x => M_hensel_equal fu x.1 x.2.1 x.2.2.1, 0⟩
theorem g_hensel_equal (fu : Nat) : SigOK Tryz.prog (s_hensel_equal fu) := sg (fu := fu) ⟨[], [], [], [], [], [], []⟩ Tryz.func275 (cC (g_fpoly_Sub fu) <| cN) (by kernel_rfl) fun x => by kernel_rfl
def s_hensel_plain (fu : Nat) : Sig := ⟨271, [.d (.l .i), .d .i], [.d .b], fun x => M_hensel_plain fu x.1 x.2.1, 0⟩
theorem g_hensel_plain (fu : Nat) : SigOK Tryz.prog (s_hensel_plain fu) := sg (fu := fu) ⟨[], [], [(2, ⟨⟨[(9, .d .i)], []⟩, ⟨[], [(.x 0, ⟨[], []⟩), (.r, ⟨[], [(4, .kb false)]⟩)]⟩⟩)], [], [], [], []⟩ Tryz.func271 (cN) (by kernel_rfl) fun x => by kernel_rfl
def s_hensel_product (fu : Nat) : Sig := ⟨274, [.d (.l (.l .i)), .d .i], [.own .i 3], fun x => M_hensel_product fu x.1 x.2.1, 0⟩
theorem g_hensel_product (fu : Nat) : SigOK Tryz.prog (s_hensel_product fu) := sg (fu := fu) ⟨[], [], [(3, ⟨⟨[(5, .own .i 3), (11, .d .i)], []⟩, ⟨[], [(.x 0, ⟨[(5, .own .i 3)], []⟩)]⟩⟩)], [], [], [], []⟩ Tryz.func274 (cC (g_fpoly_Mul fu) <| cN) (by kernel_rfl) fun x => by kernel_rfl
def s_zint_Small (fu : Nat) : Sig := ⟨314, [.d (.p .b (.l .u))], [.d .i, .d .b], fun x => M_zint_Small fu x.1, 0⟩
theorem g_zint_Small (fu : Nat) : SigOK Tryz.prog (s_zint_Small fu) := sg (fu := fu) ⟨[1], [(196612, ⟨[1], [(.n, ⟨[(6, .d .b)], []⟩)]⟩), (327686, ⟨[1], [(.n, ⟨[(11, .d .b)], []⟩)]⟩), (458760, ⟨[1], [(.n, ⟨[(16, .d .b)], []⟩)]⟩)], [], [], [], [], []⟩ Tryz.func314 (cC (g_zint_Norm fu) <| cN) (by kernel_rfl) fun x => by kernel_rfl
def s_prime_Mod (fu : Nat) : Sig := ⟨256, [.d (.p .b (.l .u)), .d .i], [.d .i, .d .i], fun x => M_prime_Mod fu x.1 x.2.1, 0⟩
theorem g_prime_Mod (fu : Nat) : SigOK Tryz.prog (s_prime_Mod fu) := sg (fu := fu) ⟨[], [], [], [(1, [])], [], [], []⟩ Tryz.func256 (cC (g_prime_Rest fu) <| cC (g_zint_Small fu) <| cC (g_zint_Of fu) <| cN) (by kernel_rfl) fun x => by kernel_rfl
def s_zpoly_Mod_1 (fu : Nat) : Sig := ⟨255, [.d .i, .d (.p .b (.l .u)), .q .i], [.d .i], fun x => M_zpoly_Mod_1 fu x.1 x.2.1 x.2.2.1, 0⟩
theorem g_zpoly_Mod_1 (fu : Nat) : SigOK Tryz.prog (s_zpoly_Mod_1 fu) := sg (fu := fu) ⟨[], [], [], [], [], [], []⟩ Tryz.func255 (cC (g_prime_Mod fu) <| cN) (by kernel_rfl) fun x => by kernel_rfl
def s_zpoly_each_api_Int_int (fu : Nat) : Sig := ⟨254, [.d (.l (.p .b (.l .u))), .fn [.i, (.p .b (.l .u))] [.i]], [.own .i 3], fun x => M_zpoly_each_api_Int_int fu x.1 (fun z0 z1 => x.2.1 (z0, z1, ())), 0⟩
theorem g_zpoly_each_api_Int_int (fu : Nat) : SigOK Tryz.prog (s_zpoly_each_api_Int_int fu) := sg (fu := fu) ⟨[], [(262149, ⟨[5], [(.n, ⟨[(11, .d (.l (.p .b (.l .u)))), (12, .d .i), (14, .d .b)], []⟩)]⟩)], [(3, ⟨⟨[(13, .d .i), (5, .own .i 3)], []⟩, ⟨[], [(.x 0, ⟨[(5, .own .i 3)], []⟩)]⟩⟩)], [], [], [], []⟩ Tryz.func254 (cN) (by kernel_rfl) fun x => by kernel_rfl
def s_zpoly_Mod (fu : Nat) : Sig := ⟨186, [.d (.l (.p .b (.l .u))), .d .i], [.own .i 3, .d .i], fun x => M_zpoly_Mod fu x.1 x.2.1, 0⟩
theorem g_zpoly_Mod (fu : Nat) : SigOK Tryz.prog (s_zpoly_Mod fu) := sg (fu := fu) ⟨[], [], [(4, ⟨⟨[(6, .own .i 3)], []⟩, ⟨[], [(.x 0, ⟨[(6, .own .i 3)], []⟩)]⟩⟩)], [], [], [], []⟩ Tryz.func186 (cC (g_zpoly_each_api_Int_int fu) <| cC (g_zpoly_Mod_1 fu) <| cN) (by kernel_rfl) fun x => by kernel_rfl
def s_hensel_right (fu : Nat) : Sig := ⟨195, [.d (.l (.p .b (.l .u))), .d (.l (.l .i)), .d .i], [.d .b], fun x => M_hensel_right fu x.1 x.2.1 x.2.2.1, 0⟩
theorem g_hensel_right (fu : Nat) : SigOK Tryz.prog (s_hensel_right fu) := sg (fu := fu) ⟨[], [(393223, ⟨[7], [(.n, ⟨[(0, .d (.l (.p .b (.l .u)))), (1, .d (.l (.l .i))), (2, .d .i), (40, .d (.l (.l .i))), (41, .d .i), (43, .d .b)], []⟩)]⟩)], [(5, ⟨⟨[(42, .d .i), (7, .own .i 3)], []⟩, ⟨[], [(.x 0, ⟨[(7, .own .i 3)], []⟩), (.r, ⟨[], [(6, .kb false)]⟩)]⟩⟩), (10, ⟨⟨[(62, .d .i)], []⟩, ⟨[7], [(.x 2, ⟨[], []⟩), (.r, ⟨[], [(6, .kb false)]⟩)]⟩⟩)], [], [], [], []⟩ Tryz.func195 (cC (g_hensel_plain fu) <| cC (g_fpoly_Gcd fu) <| cC (g_fpoly_Mul fu) <| cC (g_hensel_product fu) <| cC (g_hensel_equal fu) <| cC (g_zpoly_Mod fu) <| cN) (by kernel_rfl) fun x => by kernel_rfl
def s_hensel_divided (fu : Nat) : Sig := ⟨335, [.d (.l (.p .b (.l .u))), .d (.l (.p .b (.l .u))), .d (.p .b (.l .u))], [.d (.l (.p .b (.l .u))), .own (.p .b (.l .u)) 30], fun x => M_hensel_divided fu x.1 x.2.1 x.2.2.1, 0⟩
theorem g_hensel_divided (fu : Nat) : SigOK Tryz.prog (s_hensel_divided fu) := sg (fu := fu) ⟨[], [(589834, ⟨[8, 9], [(.n, ⟨[(10, .d .i), (47, .d (.l (.p .b (.l .u)))), (48, .d .i), (50, .d .b)], []⟩)]⟩)], [(4, ⟨⟨[(10, .d .i), (8, .own (.p .b (.l .u)) 30), (9, .own (.p .b (.l .u)) 30)], []⟩, ⟨[], [(.x 0, ⟨[(8, .own (.p .b (.l .u)) 30), (9, .own (.p .b (.l .u)) 30)], []⟩)]⟩⟩), (8, ⟨⟨[(1, .d (.l (.p .b (.l .u)))), (5, .q (.p .b (.l .u))), (49, .d .i), (8, .own (.p .b (.l .u)) 30), (9, .own (.p .b (.l .u)) 30)], []⟩, ⟨[], [(.x 2, ⟨[(1, .d (.l (.p .b (.l .u)))), (5, .q (.p .b (.l .u))), (8, .own (.p .b (.l .u)) 30), (9, .own (.p .b (.l .u)) 30)], []⟩)]⟩⟩)], [(6, [])], [], [], []⟩ Tryz.func335 (cC (g_prime_Rest fu) <| cC (g_zint_Sub fu) <| cC (g_hensel_red fu) <| cC (g_zint_Mul fu) <| cN) (by kernel_rfl) fun x => by kernel_rfl
def s_zpoly_Add_1 (fu : Nat) : Sig := ⟨348, [.d .i, .d (.p .b (.l .u)), .q (.l (.p .b (.l .u)))], [.d (.p .b (.l .u))], fun x => M_zpoly_Add_1 fu x.1 x.2.1 x.2.2.1, 0⟩
theorem g_zpoly_Add_1 (fu : Nat) : SigOK Tryz.prog (s_zpoly_Add_1 fu) := sg (fu := fu) ⟨[], [], [], [], [], [], []⟩ Tryz.func348 (cC (g_zint_Add fu) <| cN) (by kernel_rfl) fun x => by kernel_rfl
def s_zpoly_Add (fu : Nat) : Sig := ⟨309, [.d (.l (.p .b (.l .u))), .d (.l (.p .b (.l .u)))], [.own (.p .b (.l .u)) 30], fun x => M_zpoly_Add fu x.1 x.2.1, 0⟩
theorem g_zpoly_Add (fu : Nat) : SigOK Tryz.prog (s_zpoly_Add fu) := sg (fu := fu) ⟨[3], [], [], [], [], [], []⟩ Tryz.func309 (cC (g_zpoly_Add_1 fu) <| cC (g_zpoly_Norm fu) <| cC (g_zpoly_each_api_Int_api_Int fu) <| cN) (by kernel_rfl) fun x => by kernel_rfl
def s_zpoly_Mul (fu : Nat) : Sig := ⟨25, [.d (.l (.p .b (.l .u))), .d (.l (.p .b (.l .u)))], [.own (.p .b (.l .u)) 30], fun x => M_zpoly_Mul fu x.1 x.2.1, 0⟩
theorem g_zpoly_Mul (fu : Nat) : SigOK Tryz.prog (s_zpoly_Mul fu) := sg (fu := fu) ⟨[], [(262149, ⟨[5], [(.n, ⟨[(1, .d (.l (.p .b (.l .u)))), (16, .d (.l (.p .b (.l .u)))), (17, .d .i), (19, .d .b)], []⟩)]⟩), (458760, ⟨[5, 7], [(.n, ⟨[(1, .d (.l (.p .b (.l .u)))), (6, .d .i), (16, .d (.l (.p .b (.l .u)))), (17, .d .i), (18, .d .i), (23, .d (.l (.p .b (.l .u)))), (24, .d .i), (26, .d .b)], []⟩)]⟩)], [(3, ⟨⟨[(18, .d .i), (5, .own (.p .b (.l .u)) 30)], []⟩, ⟨[], [(.x 0, ⟨[(5, .own (.p .b (.l .u)) 30)], []⟩)]⟩⟩), (6, ⟨⟨[(25, .d .i), (5, .own (.p .b (.l .u)) 30), (7, .var (.p .b (.l .u)) 30)], []⟩, ⟨[], [(.x 2, ⟨[(5, .own (.p .b (.l .u)) 30)], []⟩)]⟩⟩)], [], [], [], []⟩ Tryz.func25 (cC (g_zpoly_Norm fu) <| cC (g_zint_Add fu) <| cC (g_zint_Mul fu) <| cN) (by kernel_rfl) fun x => by kernel_rfl
def s_zpoly_Lift_1 (fu : Nat) : Sig := ⟨143, [.d .i, .d .i], [.d (.p .b (.l .u))], fun x => M_zpoly_Lift_1 fu x.1 x.2.1, 0⟩
theorem g_zpoly_Lift_1 (fu : Nat) : SigOK Tryz.prog (s_zpoly_Lift_1 fu) := sg (fu := fu) ⟨[], [], [], [], [], [], []⟩ Tryz.func143 (cC (g_zint_Of fu) <| cN) (by kernel_rfl) fun x => by kernel_rfl
def s_zpoly_each_int_api_Int (fu : Nat) : Sig := ⟨142, [.d (.l .i), .fn [.i, .i] [(.p .b (.l .u))]], [.own (.p .b (.l .u)) 30], fun x => M_zpoly_each_int_api_Int fu x.1 (fun z0 z1 => x.2.1 (z0, z1, ())), 0⟩
theorem g_zpoly_each_int_api_Int (fu : Nat) : SigOK Tryz.prog (s_zpoly_each_int_api_Int fu) := sg (fu := fu) ⟨[], [], [(3, ⟨⟨[(13, .d .i), (5, .own (.p .b (.l .u)) 30)], []⟩, ⟨[], [(.x 0, ⟨[(5, .own (.p .b (.l .u)) 30)], []⟩)]⟩⟩)], [], [], [], []⟩ Tryz.func142 (cN) (by kernel_rfl) fun x => by kernel_rfl
def s_zpoly_Lift (fu : Nat) : Sig := ⟨80, [.d (.l .i)], [.own (.p .b (.l .u)) 30], fun x => M_zpoly_Lift fu x.1, 0⟩
theorem g_zpoly_Lift (fu : Nat) : SigOK Tryz.prog (s_zpoly_Lift fu) := sg (fu := fu) ⟨[], [], [], [], [], [], []⟩ Tryz.func80 (cC (g_zpoly_Norm fu) <| cC (g_zpoly_each_int_api_Int fu) <| cC (g_zpoly_Lift_1 fu) <| cN) (by kernel_rfl) fun x => by kernel_rfl
def s_zpoly_Of (fu : Nat) : Sig := ⟨27, [.d (.l .i)], [.own (.p .b (.l .u)) 30], fun x => M_zpoly_Of fu x.1, 0⟩
theorem g_zpoly_Of (fu : Nat) : SigOK Tryz.prog (s_zpoly_Of fu) := sg (fu := fu) ⟨[], [], [], [], [], [], []⟩ Tryz.func27 (cC (g_zpoly_Lift fu) <| cN) (by kernel_rfl) fun x => by kernel_rfl
def s_zpoly_Scale_1 (fu : Nat) : Sig := ⟨249, [.d .i, .d (.p .b (.l .u)), .q (.p .b (.l .u))], [.d (.p .b (.l .u))], fun x => M_zpoly_Scale_1 fu x.1 x.2.1 x.2.2.1, 0⟩
theorem g_zpoly_Scale_1 (fu : Nat) : SigOK Tryz.prog (s_zpoly_Scale_1 fu) := sg (fu := fu) ⟨[], [], [], [], [], [], []⟩ Tryz.func249 (cC (g_zint_Mul fu) <| cN) (by kernel_rfl) fun x => by kernel_rfl
def s_zpoly_Scale (fu : Nat) : Sig := ⟨180, [.d (.l (.p .b (.l .u))), .d (.p .b (.l .u))], [.own (.p .b (.l .u)) 30], fun x => M_zpoly_Scale fu x.1 x.2.1, 0⟩
theorem g_zpoly_Scale (fu : Nat) : SigOK Tryz.prog (s_zpoly_Scale fu) := sg (fu := fu) ⟨[], [], [], [], [], [], []⟩ Tryz.func180 (cC (g_zpoly_Scale_1 fu) <| cC (g_zpoly_Norm fu) <| cC (g_zpoly_each_api_Int_api_Int fu) <| cN) (by kernel_rfl) fun x => by kernel_rfl
def s_zpoly_Sub (fu : Nat) : Sig := ⟨248, [.d (.l (.p .b (.l .u))), .d (.l (.p .b (.l .u)))], [.own (.p .b (.l .u)) 30], fun x => M_zpoly_Sub fu x.1 x.2.1, 0⟩
theorem g_zpoly_Sub (fu : Nat) : SigOK Tryz.prog (s_zpoly_Sub fu) := sg (fu := fu) ⟨[], [], [], [], [], [], []⟩ Tryz.func248 (cC (g_zpoly_Scale fu) <| cC (g_zint_Of fu) <| cC (g_zpoly_Add fu) <| cN) (by kernel_rfl) fun x => by kernel_rfl
def s_hensel_pair_up (fu : Nat) : Sig := ⟨278, [.d (.a 4 (.l (.p .b (.l .u)))), .d (.l (.p .b (.l .u))), .d (.p .b (.l .u))], [.d (.a 4 (.l (.p .b (.l .u))))], fun x => M_hensel_pair_up fu x.1 x.2.1 x.2.2.1, 0⟩
theorem g_hensel_pair_up (fu : Nat) : SigOK Tryz.prog (s_hensel_pair_up fu) := sg (fu := fu) ⟨[], [], [], [], [], [], []⟩ Tryz.func278 (cC (g_hensel_red fu) <| cC (g_hensel_divided fu) <| cC (g_zpoly_Add fu) <| cC (g_zpoly_Sub fu) <| cC (g_zpoly_Mul fu) <| cC (g_zpoly_Of fu) <| cN) (by kernel_rfl) fun x => by kernel_rfl
def s_zint_line_less (fu : Nat) : Sig := ⟨372, [.d (.p (.p .b (.l .u)) (.p (.p .b (.l .u)) (.p .b (.l .u)))), .d (.p .b (.l .u)), .d (.p (.p .b (.l .u)) (.p (.p .b (.l .u)) (.p .b (.l .u))))], [.d (.p (.p .b (.l .u)) (.p (.p .b (.l .u)) (.p .b (.l .u))))], fun x => M_zint_line_less fu x.1 x.2.1 x.2.2.1, 0⟩
theorem g_zint_line_less (fu : Nat) : SigOK Tryz.prog (s_zint_line_less fu) := sg (fu := fu) ⟨[], [], [], [], [], [], []⟩ Tryz.func372 (cC (g_zint_Sub fu) <| cC (g_zint_Mul fu) <| cN) (by kernel_rfl) fun x => by kernel_rfl
def s_zint_Bezout (fu : Nat) : Sig := ⟨332, [.d (.p .b (.l .u)), .d (.p .b (.l .u))], [.d (.p .b (.l .u)), .d (.p .b (.l .u)), .d (.p .b (.l .u))], fun x => M_zint_Bezout fu x.1 x.2.1, 0⟩
theorem g_zint_Bezout (fu : Nat) : SigOK Tryz.prog (s_zint_Bezout fu) := sg (fu := fu) ⟨[], [(393224, ⟨[4, 5, 6], [(.n, ⟨[(7, .var (.p (.p .b (.l .u)) (.p (.p .b (.l .u)) (.p .b (.l .u)))) 323)], []⟩)]⟩), (524298, ⟨[4, 5, 6], [(.n, ⟨[(7, .var (.p (.p .b (.l .u)) (.p (.p .b (.l .u)) (.p .b (.l .u)))) 323)], []⟩)]⟩)], [(2, ⟨⟨[(7, .var (.p (.p .b (.l .u)) (.p (.p .b (.l .u)) (.p .b (.l .u)))) 323), (8, .var (.p (.p .b (.l .u)) (.p (.p .b (.l .u)) (.p .b (.l .u)))) 323)], []⟩, ⟨[4, 5, 6], [(.x 0, ⟨[(7, .var (.p (.p .b (.l .u)) (.p (.p .b (.l .u)) (.p .b (.l .u)))) 323)], []⟩)]⟩⟩)], [(1, []), (9, [])], [], [], []⟩ Tryz.func332 (cC (g_zint_Neg fu) <| cC (g_zint_Sign fu) <| cC (g_zint_Div fu) <| cC (g_zint_made fu) <| cC (g_zint_line_less fu) <| cC (g_zint_Of fu) <| cN) (by kernel_rfl) fun x => by kernel_rfl
def s_hensel_one (fu : Nat) : Sig := ⟨276, [.d (.l (.p .b (.l .u))), .d (.p .b (.l .u))], [.own (.p .b (.l .u)) 30], fun x => M_hensel_one fu x.1 x.2.1, 0⟩
theorem g_hensel_one (fu : Nat) : SigOK Tryz.prog (s_hensel_one fu) := sg (fu := fu) ⟨[], [], [], [(1, [])], [], [], []⟩ Tryz.func276 (cC (g_zpoly_Scale fu) <| cC (g_zint_Bezout fu) <| cC (g_hensel_red fu) <| cN) (by kernel_rfl) fun x => by kernel_rfl
def s_hensel_tree (fu : Nat) : Sig := ⟨196, [.d (.l (.p .b (.l .u))), .d (.l (.l .i)), .d .i, .d .i, .d (.p .b (.l .u))], [.own (.l (.p .b (.l .u))) 22], fun x => M_hensel_tree fu x.1 x.2.1 x.2.2.1 x.2.2.2.1 x.2.2.2.2.1, 0⟩
theorem g_hensel_tree : ∀ fu : Nat, SigOK Tryz.prog (s_hensel_tree fu)
  | 0 => sg0 (by kernel_rfl) fun _ => rfl
  | fu + 1 => sg (fu := fu) ⟨[], [], [(10, ⟨⟨[(22, .d .i), (21, .var (.a 4 (.l (.p .b (.l .u)))) 252)], []⟩, ⟨[], [(.x 0, ⟨[(21, .var (.a 4 (.l (.p .b (.l .u)))) 252)], []⟩)]⟩⟩)], [(14, [])], [], [], []⟩ Tryz.func196 (cC (g_hensel_tree fu) <| cC (g_zpoly_Lift fu) <| cC (g_fpoly_Mul fu) <| cC (g_hensel_product fu) <| cC (g_hensel_one fu) <| cC (g_fpoly_Bezout fu) <| cC (g_hensel_pair_up fu) <| cC (g_zpoly_Mod fu) <| cC (g_hensel_Power fu) <| cN) (by kernel_rfl) fun x => by kernel_rfl
def s_hensel_Lift (fu : Nat) : Sig := ⟨125, [.d (.l (.p .b (.l .u))), .d (.l (.l .i)), .d .i, .d .i], [.own (.l (.p .b (.l .u))) 22, .d .i], fun x => M_hensel_Lift fu x.1 x.2.1 x.2.2.1 x.2.2.2.1, 0⟩
theorem g_hensel_Lift (fu : Nat) : SigOK Tryz.prog (s_hensel_Lift fu) := sg (fu := fu) ⟨[], [], [], [], [], [], []⟩ Tryz.func125 (cC (g_hensel_right fu) <| cC (g_hensel_tree fu) <| cC (g_hensel_red fu) <| cC (g_zpoly_Norm fu) <| cC (g_hensel_Power fu) <| cN) (by kernel_rfl) fun x => by kernel_rfl
def s_hensel_Mul (fu : Nat) : Sig := ⟨281, [.d (.l (.p .b (.l .u))), .d (.l (.p .b (.l .u))), .d (.p .b (.l .u))], [.d (.l (.p .b (.l .u))), .d .i], fun x => M_hensel_Mul fu x.1 x.2.1 x.2.2.1, 0⟩
theorem g_hensel_Mul (fu : Nat) : SigOK Tryz.prog (s_hensel_Mul fu) := sg (fu := fu) ⟨[], [], [], [], [], [], []⟩ Tryz.func281 (cC (g_zpoly_Mul fu) <| cC (g_hensel_Red fu) <| cN) (by kernel_rfl) fun x => by kernel_rfl
def s_zint_Cmp (fu : Nat) : Sig := ⟨76, [.d (.p .b (.l .u)), .d (.p .b (.l .u))], [.d .i], fun x => M_zint_Cmp fu x.1 x.2.1, 0⟩
theorem g_zint_Cmp (fu : Nat) : SigOK Tryz.prog (s_zint_Cmp fu) := sg (fu := fu) ⟨[], [], [], [], [], [], []⟩ Tryz.func76 (cC (g_zint_Sub fu) <| cC (g_zint_Sign fu) <| cN) (by kernel_rfl) fun x => by kernel_rfl
def s_prime_Near (fu : Nat) : Sig := ⟨337, [.d (.p .b (.l .u)), .d (.p .b (.l .u))], [.d (.p .b (.l .u)), .d .i], fun x => M_prime_Near fu x.1 x.2.1, 0⟩
theorem g_prime_Near (fu : Nat) : SigOK Tryz.prog (s_prime_Near fu) := sg (fu := fu) ⟨[], [], [], [], [], [], []⟩ Tryz.func337 (cC (g_prime_Rest fu) <| cC (g_zint_Sub fu) <| cC (g_zint_Cmp fu) <| cC (g_zint_Add fu) <| cN) (by kernel_rfl) fun x => by kernel_rfl
def s_hensel_Near (fu : Nat) : Sig := ⟨282, [.d (.l (.p .b (.l .u))), .d (.p .b (.l .u))], [.own (.p .b (.l .u)) 30, .d .i], fun x => M_hensel_Near fu x.1 x.2.1, 0⟩
theorem g_hensel_Near (fu : Nat) : SigOK Tryz.prog (s_hensel_Near fu) := sg (fu := fu) ⟨[], [], [], [], [], [], []⟩ Tryz.func282 (cC (g_hensel_rests fu) <| cC (g_prime_Near fu) <| cN) (by kernel_rfl) fun x => by kernel_rfl
def s_zpoly_Content (fu : Nat) : Sig := ⟨62, [.d (.l (.p .b (.l .u)))], [.d (.p .b (.l .u))], fun x => M_zpoly_Content fu x.1, 0⟩
theorem g_zpoly_Content (fu : Nat) : SigOK Tryz.prog (s_zpoly_Content fu) := sg (fu := fu) ⟨[], [(327686, ⟨[0, 2, 3], [(.n, ⟨[(10, .d .i), (12, .d .b)], []⟩)]⟩)], [(4, ⟨⟨[(11, .d .i), (0, .own (.p .b (.l .u)) 30), (2, .var (.p .b (.l .u)) 30), (3, .var (.p .b (.l .u)) 30)], [(9, .al 0)]⟩, ⟨[], [(.x 0, ⟨[(0, .own (.p .b (.l .u)) 30), (2, .var (.p .b (.l .u)) 30), (3, .var (.p .b (.l .u)) 30)], []⟩)]⟩⟩)], [], [], [], []⟩ Tryz.func62 (cC (g_zint_Gcd fu) <| cC (g_zint_Neg fu) <| cC (g_zint_Of fu) <| cC (g_zpoly_Norm fu) <| cN) (by kernel_rfl) fun x => by kernel_rfl
def s_zpoly_Prim_1 (fu : Nat) : Sig := ⟨74, [.d .i, .d (.p .b (.l .u)), .q (.p .b (.l .u))], [.d (.p .b (.l .u))], fun x => M_zpoly_Prim_1 fu x.1 x.2.1 x.2.2.1, 0⟩
theorem g_zpoly_Prim_1 (fu : Nat) : SigOK Tryz.prog (s_zpoly_Prim_1 fu) := sg (fu := fu) ⟨[], [], [], [], [], [], []⟩ Tryz.func74 (cC (g_zint_Exact fu) <| cN) (by kernel_rfl) fun x => by kernel_rfl
def s_zpoly_Prim (fu : Nat) : Sig := ⟨23, [.d (.l (.p .b (.l .u)))], [.own (.p .b (.l .u)) 30], fun x => M_zpoly_Prim fu x.1, 0⟩
theorem g_zpoly_Prim (fu : Nat) : SigOK Tryz.prog (s_zpoly_Prim fu) := sg (fu := fu) ⟨[], [], [], [], [], [], []⟩ Tryz.func23 (cC (g_zpoly_Prim_1 fu) <| cC (g_zpoly_Norm fu) <| cC (g_zpoly_Content fu) <| cC (g_zpoly_each_api_Int_api_Int fu) <| cN) (by kernel_rfl) fun x => by kernel_rfl
def s_zfac_candidate_io (fu : Nat) : Sig := ⟨199, [.d (.l (.p .b (.l .u))), .d (.l (.l (.p .b (.l .u)))), .own .i 3, .d (.p .b (.l .u))], [.d (.l (.p .b (.l .u))), .own .i 3], fun x => M_zfac_candidate_io fu x.1 x.2.1 x.2.2.1 x.2.2.2.1, 1⟩
theorem g_zfac_candidate_io (fu : Nat) : SigOK Tryz.prog (s_zfac_candidate_io fu) := sgb (fu := fu) ⟨[], [(262149, ⟨[2], [(.n, ⟨[(1, .d (.l (.l (.p .b (.l .u))))), (7, .q (.p .b (.l .u))), (18, .d .i), (20, .d .b)], []⟩)]⟩)], [(3, ⟨⟨[(9, .d (.l (.p .b (.l .u)))), (19, .d .i), (2, .own .i 3)], [(17, .al 2)]⟩, ⟨[], [(.x 0, ⟨[(9, .d (.l (.p .b (.l .u)))), (2, .own .i 3)], []⟩)]⟩⟩)], [], [], [], []⟩ Tryz.func199 (cC (g_hensel_Mul fu) <| cC (g_hensel_Near fu) <| cC (g_zpoly_Prim fu) <| cN) (by kernel_rfl) fun pn x => by kernel_rfl
def s_zfac_choices_1 (fu : Nat) : ISig := ⟨280, [.q .i, .q .i], .i, 3, fun x _ _ g x0 => M_zfac_choices_1 fu x.1 x.2.1 g x0⟩
def anC : An := ⟨[], [], [(2, ⟨⟨[(4, .own .i 3), (12, .d .i)], []⟩, ⟨[0], [(.x 0, ⟨[(4, .own .i 3)], []⟩)]⟩⟩), (8, ⟨⟨[(6, .d .i)], []⟩, ⟨[0, 4], [(.x 4, ⟨[(6, .d .i)], []⟩)]⟩⟩), (13, ⟨⟨[(7, .d .i), (4, .own .i 3)], []⟩, ⟨[0], [(.x 6, ⟨[(4, .own .i 3)], []⟩)]⟩⟩)], [], [], [], []⟩
def kSeq1 : Code → Code | .seq a _ => a | c => c
def kSeq2 : Code → Code | .seq _ b => b | c => c
def kIn : Code → Code | .block _ c => c | .loop c => c | c => c
def kBody (f : Func) : Code := match f.body with | some c => c | none => .skip
noncomputable def kA : Code := kSeq1 (kBody Tryz.f280)
noncomputable def kB : Code := kSeq1 (kSeq2 (kBody Tryz.f280))
noncomputable def kC : Code := kIn (kIn (kSeq2 (kSeq2 (kBody Tryz.f280))))
section
variable {X Y R : Type} {mX : X → Value → MF} {mY : Y → Value → MF} {g : List Int → X → Option (List Int × (X ⊕ Y))} {n all : Int}
def cfC (fu : Nat) : Cf := ⟨tt, [], anC, fu, ex, [], [], [], []⟩
def S0 (mX : X → Value → MF) (mY : Y → Value → MF) (g : List Int → X → Option (List Int × (X ⊕ Y))) (n all : Int) (x0 : X) : Sg := ⟨1, [(0, 0, .yd 0), (1, 0, .q .i n), (2, 0, .q .i all)], [(0, .hid .i 3 X Y mX mY g x0)]⟩
def S1 (mX : X → Value → MF) (mY : Y → Value → MF) (g : List Int → X → Option (List Int × (X ⊕ Y))) (n all : Int) (x0 : X) (xs : List Int) : Sg := ⟨2, [(4, 0, .ow 1), (9, 0, .ow 1), (8, 0, .d .i n), (0, 0, .yd 0), (1, 0, .q .i n), (2, 0, .q .i all)], [(1, .own .i 3 xs), (0, .hid .i 3 X Y mX mY g x0)]⟩
def S2 (mX : X → Value → MF) (mY : Y → Value → MF) (g : List Int → X → Option (List Int × (X ⊕ Y))) (n all : Int) (x0 : X) (xs ys : List Int) : Sg := ⟨3, [(4, 0, .ow 2), (4, 0, .ow 2), (11, 0, .d .i (xs.length : Int)), (8, 0, .d .i n), (0, 0, .yd 0), (1, 0, .q .i n), (2, 0, .q .i all)], [(2, .own .i 3 ys), (0, .hid .i 3 X Y mX mY g x0)]⟩
def Sn (mX : X → Value → MF) (mY : Y → Value → MF) (g : List Int → X → Option (List Int × (X ⊕ Y))) (n all : Int) (x : X) (xs : List Int) (x3 x1 x2 y x0 : Int) : Sg :=
  ⟨5, [(4, 0, .ow 4), (4, 0, .ow 4), (51, 0, .d .i x3), (50, 0, .d .i x1), (48, 0, .d .i x2), (47, 0, .d .i y), (45, 0, .d .i x1), (43, 0, .kb false), (42, 0, .d .i x1), (6, 0, .d .i x1), (6, 0, .d .i x1), (25, 0, .d .i x0), (24, 0, .d .i n), (23, 0, .kb false), (22, 0, .kb true), (20, 0, .yd 2), (0, 0, .yd 2), (1, 0, .q .i n), (2, 0, .q .i all)], [(4, .own .i 3 xs), (2, .hid .i 3 X Y mX mY g x)]⟩
def Sr (mX : X → Value → MF) (mY : Y → Value → MF) (g : List Int → X → Option (List Int × (X ⊕ Y))) (n all : Int) (x : X) (x0 x1 : Int) (xs : List Int) : Sg :=
  ⟨4, [(43, 0, .kb true), (42, 0, .d .i x1), (6, 0, .d .i x1), (6, 0, .d .i x1), (25, 0, .d .i x0), (24, 0, .d .i n), (23, 0, .kb false), (22, 0, .kb true), (21, 0, .ow 1), (20, 0, .yd 2), (4, 0, .ow 1), (0, 0, .yd 2), (1, 0, .q .i n), (2, 0, .q .i all)], [(2, .hid .i 3 X Y mX mY g x), (1, .own .i 3 xs)]⟩
def Sy (mY : Y → Value → MF) (n all : Int) (y : Y) (xs : List Int) : Sg :=
  ⟨3, [(23, 0, .kb true), (22, 0, .kb false), (21, 0, .ow 1), (20, 0, .yd 2), (4, 0, .ow 1), (0, 0, .yd 2), (1, 0, .q .i n), (2, 0, .q .i all)], [(2, .hiy Y mY y), (1, .own .i 3 xs)]⟩
theorem ec_A (fu : Nat) (x0 : X) (K : Tg → Sg → Option R) : den (cfC fu) kA ⟨0, [], []⟩ (S0 mX mY g n all x0) K = ckN n fun m => ck (8 * m ≤ 281474976710656) <| nm (List.replicate m 0) fun xs => K .n (S1 mX mY g n all x0 xs) := by kernel_rfl
theorem ec_B (fu : Nat) (x0 : X) (xs : List Int) (K : Tg → Sg → Option R) : den (cfC fu) kB ⟨0, [], []⟩ (S1 mX mY g n all x0 xs) K = bd (loopN (fun L (z : List Int × Int) =>
  if z.2 < (xs.length : Int) then
   ckI z.2 z.1.length fun j =>
   nm (z.1.set j z.2) fun xs =>
   ck64 (z.2 + 1) fun i => L (xs, i)
  else some z.1) fu (xs, 0)) fun ys => K .n (S2 mX mY g n all x0 xs ys) := by kernel_rfl
theorem ec_C (fu : Nat) (x : X) (xs : List Int) (K : Tg → Sg → Option R) : den (cfC fu) kC ⟨0, [], []⟩ (chS 3 mX mY g n all x xs) K =
  B_zfac_choices_1 fu n all g x xs (fun x xs a b c d e => K .n (Sn mX mY g n all x xs a b c d e)) (fun x a b xs => K .r (Sr mX mY g n all x a b xs)) fun y xs => K .r (Sy mY n all y xs) := by kernel_rfl
theorem ch_main (fu : Nat) (g : List Int → X → Option (List Int × (X ⊕ Y))) (x0 : X) (r : X ⊕ Y) (l : Nat) (v1 v2 u : Value) (we : World) (Se : Nat → Prop) (F : List MF) (G : List FF) (w : World) (hY : YSpec Tryz.prog l eI 3 mX mY g)
    (hst : St we Se (mX x0 u :: F) (argFs Tryz.prog [.q .i, .q .i] (n, all, ()) [v1, v2] ++ G) w) (hM : M_zfac_choices_1 fu n all g x0 = some r) :
    Calls Tryz.prog 280 #[.func (.yield l) #[] #[], v1, v2] w fun e w' => (∃ v, e = .returned v) ∧ ∃ u', St we Se (Sum.elim (fun x => mX x u') (fun y => mY y u') r :: F) G w' := by
  have hX : XOK Tryz.prog (cfC fu) := .of exok rfl
  have hD : ∀ c, okC 66 c = true → DenOK Tryz.prog (cfC fu) 66 c := fun c h => den_s mord ttok elok cN hX c h
  refine calls_wpD (args := [.func (.yield l) #[] #[], v1, v2]) (c := kBody Tryz.f280) Tryz.func280 rfl (by kernel_rfl) fun rest => ?_
  have hR0 : Rel Tryz.prog (Fr.wd ⟨we, Se, F, G⟩ []) ⟨0, [], []⟩ (S0 mX mY g n all x0) (L ((([Value.func (.yield l) #[] #[], v1, v2] : List Value).zipIdx 0).map fun x => (x.2, x.1)) rest) w := by
    refine ⟨⟨fun e he => ?_, fun _ he => absurd he List.not_mem_nil, fun e he q hq => ?_, fun _ he => absurd he List.not_mem_nil⟩, fun _ => tupW (.int .i64 (l : Int)) [u], ?_⟩
    · obtain rfl := List.mem_singleton.1 he
      exact Nat.zero_lt_one
    · simp only [S0, List.mem_cons, List.not_mem_nil, or_false] at he
      rcases he with rfl | rfl | rfl <;> cases hq <;> exact Nat.zero_lt_one
    · have h1 : St we Se (moF (fun _ => tupW (.int .i64 (l : Int)) [u]) (0, .hid .i 3 X Y mX mY g x0) :: F) (argFs Tryz.prog [.q .i, .q .i] (n, all, ()) [v1, v2] ++ G) w := St.grp.2 (St.pr hY hst)
      exact h1.weak fun S w ha => ⟨rfl, ha.1, ha.2.1, ha.2.2⟩
  obtain ⟨f2, hf2⟩ : ∃ f2 : List Int → Option (X ⊕ Y), f2 = fun xs => loopN (fun L (q : X × List Int) => B_zfac_choices_1 fu n all g q.1 q.2 (fun x xs _ _ _ _ _ => L (x, xs)) (fun x _ _ _ => some (.inl x)) fun y _ => some (.inr y)) fu (x0, xs) := ⟨_, rfl⟩
  obtain ⟨f1, hf1⟩ : ∃ f1 : List Int → Option (X ⊕ Y), f1 = fun xs => bd (loopN (fun L (z : List Int × Int) =>
      if z.2 < (xs.length : Int) then
       ckI z.2 z.1.length fun j =>
       nm (z.1.set j z.2) fun xs =>
       ck64 (z.2 + 1) fun i => L (xs, i)
      else some z.1) fu (xs, 0)) f2 := ⟨_, rfl⟩
  have hM0 : (ckN n fun m => ck (8 * m ≤ 281474976710656) <| nm (List.replicate m 0) f1) = some r := by rw [hf1, hf2]; exact hM
  refine WpD_seq (x := kA) (y := kSeq2 (kBody Tryz.f280)) ?_
  obtain ⟨K, k1, k2⟩ := ext_K (fun xs : List Int => (Tg.n, S1 mX mY g n all x0 xs)) f1 (fun i j h => by
    have h2 : Od.own .i 3 i = Od.own .i 3 j := by simpa [S1] using h
    cases h2; rfl)
  have k1 : ∀ xs, K .n (S1 mX mY g n all x0 xs) = f1 xs := k1
  refine hD kA (by kernel_rfl) (N := Nd.of 66) (K := K) rfl (.inl rfl) (r := r) ((ec_A fu x0 K).trans (by simp only [k1]; exact hM0)) (fun t σ' hk Ds env w _ hR => ?_) hR0
  obtain ⟨xs, e1, e2⟩ := k2 _ _ _ hk
  cases e1
  refine WpD_seq (x := kB) (y := kSeq2 (kSeq2 (kBody Tryz.f280))) ?_
  obtain ⟨K, k1, k2⟩ := ext_K (fun ys : List Int => (Tg.n, S2 mX mY g n all x0 xs ys)) f2 (fun i j h => by
    have h2 : Od.own .i 3 i = Od.own .i 3 j := by simpa [S2] using h
    cases h2; rfl)
  have k1 : ∀ ys, K .n (S2 mX mY g n all x0 xs ys) = f2 ys := k1
  refine hD kB (by kernel_rfl) (N := Nd.of 66) (K := K) rfl (.inl rfl) (r := r) ((ec_B fu x0 xs K).trans (by simp only [k1]; rw [hf1] at e2; exact e2)) (fun t σ' hk Ds env w _ hR => ?_) hR
  obtain ⟨ys, e3, e4⟩ := k2 _ _ _ hk
  cases e3
  have hR3 : Rel Tryz.prog (Fr.wd ⟨we, Se, F, G⟩ Ds) ⟨0, [], []⟩ (chS 3 mX mY g n all x0 ys) env w := ch_re (o := 0) (p := 2) rfl rfl rfl rfl rfl rfl rfl hR
  refine WpD_block (id := 2) (c := .loop kC) ?_
  obtain ⟨body, hbody⟩ : ∃ body : ((X × List Int) → Option (X ⊕ Y)) → (X × List Int) → Option (X ⊕ Y), body = fun L q => B_zfac_choices_1 fu n all g q.1 q.2 (fun x xs _ _ _ _ _ => L (x, xs)) (fun x _ _ _ => some (.inl x)) fun y _ => some (.inr y) := ⟨_, rfl⟩
  refine WpD_loop (G := Nat × (X × List Int)) (fun q Ds env w => loopN body q.1 q.2 = some r ∧ Rel Tryz.prog (Fr.wd ⟨we, Se, F, G⟩ Ds) ⟨0, [], []⟩ (chS 3 mX mY g n all q.2.1 q.2.2) env w) (fun q => q.1) (fu, (x0, ys)) ⟨by rw [hbody]; rw [hf2] at e4; exact e4, hR3⟩ ?_
  rintro ⟨k, x, xs⟩ Ds env w ⟨hl, hR⟩
  cases k with
  | zero => exact (loopN_z hl).elim
  | succ k =>
    have hl := loopN_s hl
    obtain ⟨K, k1, k2⟩ := ext_K (ι := (X × List Int × Int × Int × Int × Int × Int) ⊕ ((X × Int × Int × List Int) ⊕ (Y × List Int)))
      (fun q => match q with
        | .inl (x, xs, a, b, c, d, e) => (Tg.n, Sn mX mY g n all x xs a b c d e)
        | .inr (.inl (x, a, b, xs)) => (Tg.r, Sr mX mY g n all x a b xs)
        | .inr (.inr (y, xs)) => (Tg.r, Sy mY n all y xs))
      (fun q => match q with
        | .inl (x, xs, _, _, _, _, _) => loopN body k (x, xs)
        | .inr (.inl (x, _, _, _)) => some (.inl x)
        | .inr (.inr (y, _)) => some (.inr y)) (fun i j h => by
      rcases i with ⟨x, xs, a, b, c, d, e⟩ | ⟨x, a, b, xs⟩ | ⟨y, xs⟩ <;> rcases j with ⟨x', xs', a', b', c', d', e'⟩ | ⟨x', a', b', xs'⟩ | ⟨y', xs'⟩
      · have h2 := congrArg (fun q : Tg × Sg => q.2.ob) h
        simp only [Sn, List.cons.injEq, Prod.mk.injEq, true_and, and_true] at h2
        obtain ⟨h3, h4⟩ := h2
        cases h3; cases h4; rfl
      · cases congrArg Prod.fst h
      · cases congrArg Prod.fst h
      · cases congrArg Prod.fst h
      · have h2 := congrArg (fun q : Tg × Sg => q.2.ob) h
        simp only [Sr, List.cons.injEq, Prod.mk.injEq, true_and, and_true] at h2
        obtain ⟨h3, h4⟩ := h2
        cases h3; rfl
      · exact absurd (congrArg (fun q : Tg × Sg => q.2.nx) h) (by simp [Sr, Sy])
      · cases congrArg Prod.fst h
      · exact absurd (congrArg (fun q : Tg × Sg => q.2.nx) h) (by simp [Sr, Sy])
      · have h2 := congrArg (fun q : Tg × Sg => q.2.ob) h
        simp only [Sy, List.cons.injEq, Prod.mk.injEq, true_and, and_true] at h2
        obtain ⟨h3, h4⟩ := h2
        cases h3; rfl)
    have q1 : ∀ x xs a b c d e, K .n (Sn mX mY g n all x xs a b c d e) = loopN body k (x, xs) := fun x xs a b c d e => k1 (.inl (x, xs, a, b, c, d, e))
    have q2 : ∀ x a b xs, K .r (Sr mX mY g n all x a b xs) = some (.inl x) := fun x a b xs => k1 (.inr (.inl (x, a, b, xs)))
    have q3 : ∀ y xs, K .r (Sy mY n all y xs) = some (.inr y) := fun y xs => k1 (.inr (.inr (y, xs)))
    refine hD kC (by kernel_rfl) (N := Nd.of 66) (K := K) rfl (.inl rfl) (r := r) ((ec_C fu x xs K).trans (by simp only [q1, q2, q3]; rw [hbody] at hl ⊢; exact hl)) (fun t σ' hk Ds env w _ hR => ?_) hR
    obtain ⟨i, e5, e6⟩ := k2 _ _ _ hk
    have fin : ∀ (t : Tg) (env : Env) (w : World), (∃ u', St we Se (Sum.elim (fun x => mX x u') (fun y => mY y u') r :: F) G (takeW Ds w)) → marksW Ds w → ∀ a : Act, envOf a = env →
        ∃ v, (results Tryz.f280 a.tmps).run Tryz.prog (takeW Ds w) = .ok v (takeW Ds w) ∧ (∃ v', Ending.returned v = .returned v') ∧ ∃ u', St we Se (Sum.elim (fun x => mX x u') (fun y => mY y u') r :: F) G (takeW Ds w) := fun t env w h1 h2 a ha => ⟨_, run_results (rs := []) (vs := []) rfl trivial, ⟨_, rfl⟩, h1⟩
    rcases i with ⟨x', xs', a, b, c, d, e⟩ | ⟨x', a, b, xs'⟩ | ⟨y', xs'⟩
    · cases e5
      exact ⟨(k, (x', xs')), ⟨e6, ch_re (o := 2) (p := 4) rfl rfl rfl rfl rfl rfl rfl hR⟩, Nat.lt_succ_self k⟩
    · cases e5
      cases e6
      obtain ⟨hmk, hR⟩ := rel_take hR
      exact ⟨.inr rfl, hmk, fin .r _ _ (ch_hid (o := 2) rfl hR) hmk⟩
    · cases e5
      cases e6
      obtain ⟨hmk, hR⟩ := rel_take hR
      exact ⟨.inr rfl, hmk, fin .r _ _ (ch_hiy (o := 2) rfl hR) hmk⟩
end
theorem g_zfac_choices_1 (fu : Nat) : ISigOK Tryz.prog (s_zfac_choices_1 fu) := by
  refine ⟨by kernel_rfl, ?_⟩
  rintro ⟨n, all, _⟩ X Y mX mY g x0 r hM l vs hlen hY u we Se F G w hst
  match vs, hlen with
  | [v1, v2], _ => exact ch_main fu g x0 r l v1 v2 u we Se F G w hY hst hM
def s_zfac_choices : CSig := ⟨198, [.i, .i], 280, fun x => [⟨.i, x.2.1⟩, ⟨.i, x.1⟩]⟩
theorem g_zfac_choices : CSigOK Tryz.prog s_zfac_choices := denC_s (s := s_zfac_choices) (cf := ⟨tt, [], ⟨[], [], [], [], [], [], []⟩, 0, ex, [], [], [], []⟩) mord ttok elok cN (.of exok rfl) Tryz.func198 (by kernel_rfl) fun x => by kernel_rfl
def s_slices_Index_int_int (fu : Nat) : Sig := ⟨338, [.d (.l .i), .d .i], [.d .i], fun x => M_slices_Index_int_int fu x.1 x.2.1, 0⟩
theorem g_slices_Index_int_int (fu : Nat) : SigOK Tryz.prog (s_slices_Index_int_int fu) := sg (fu := fu) ⟨[], [], [(2, ⟨⟨[(8, .d .i)], []⟩, ⟨[], [(.x 0, ⟨[], []⟩), (.r, ⟨[(4, .d .i)], []⟩)]⟩⟩)], [], [], [], []⟩ Tryz.func338 (cN) (by kernel_rfl) fun x => by kernel_rfl
def s_slices_Index_int_int_io (fu : Nat) : Sig := ⟨338, [.own .i 3, .d .i], [.d .i, .own .i 3], fun x => M_slices_Index_int_int_io fu x.1 x.2.1, 1⟩
theorem g_slices_Index_int_int_io (fu : Nat) : SigOK Tryz.prog (s_slices_Index_int_int_io fu) := sgb (fu := fu) ⟨[], [], [(2, ⟨⟨[(8, .d .i)], []⟩, ⟨[0], [(.x 0, ⟨[], []⟩), (.r, ⟨[(4, .d .i)], []⟩)]⟩⟩)], [], [], [], []⟩ Tryz.func338 (cN) (by kernel_rfl) fun pn x => by kernel_rfl
def s_slices_Contains_int_int (fu : Nat) : Sig := ⟨283, [.d (.l .i), .d .i], [.d .b], fun x => M_slices_Contains_int_int fu x.1 x.2.1, 0⟩
theorem g_slices_Contains_int_int (fu : Nat) : SigOK Tryz.prog (s_slices_Contains_int_int fu) := sg (fu := fu) ⟨[], [], [], [], [], [], []⟩ Tryz.func283 (cC (g_slices_Index_int_int fu) <| cN) (by kernel_rfl) fun x => by kernel_rfl
def s_slices_Contains_int_int_io (fu : Nat) : Sig := ⟨283, [.own .i 3, .d .i], [.d .b, .own .i 3], fun x => M_slices_Contains_int_int_io fu x.1 x.2.1, 1⟩
theorem g_slices_Contains_int_int_io (fu : Nat) : SigOK Tryz.prog (s_slices_Contains_int_int_io fu) := sgb (fu := fu) ⟨[], [], [], [], [], [], []⟩ Tryz.func283 (cC (g_slices_Index_int_int_io fu) <| cC (g_slices_Index_int_int fu) <| cN) (by kernel_rfl) fun pn x => by kernel_rfl
def s_zfac_without_api_Int_io (fu : Nat) : Sig := ⟨200, [.d (.l (.l (.p .b (.l .u)))), .own .i 3], [.d (.l (.l (.p .b (.l .u)))), .own .i 3], fun x => M_zfac_without_api_Int_io fu x.1 x.2.1, 1⟩
theorem g_zfac_without_api_Int_io (fu : Nat) : SigOK Tryz.prog (s_zfac_without_api_Int_io fu) := sgb (fu := fu) ⟨[], [(262149, ⟨[1, 5], [(.n, ⟨[(8, .d (.l (.l (.p .b (.l .u))))), (9, .d .i), (11, .d .b)], []⟩)]⟩)], [(3, ⟨⟨[(5, .own (.l (.p .b (.l .u))) 22), (10, .d .i), (1, .own .i 3)], []⟩, ⟨[], [(.x 0, ⟨[(5, .own (.l (.p .b (.l .u))) 22), (1, .own .i 3)], []⟩)]⟩⟩)], [], [], [], []⟩ Tryz.func200 (cC (g_slices_Contains_int_int_io fu) <| cC (g_slices_Contains_int_int fu) <| cN) (by kernel_rfl) fun pn x => by kernel_rfl
def s_zfac_chosen (fu : Nat) : Sig := ⟨126, [.d (.l (.p .b (.l .u))), .d (.l (.l (.p .b (.l .u)))), .d (.p .b (.l .u))], [.own (.l (.p .b (.l .u))) 22], fun x => M_zfac_chosen fu x.1 x.2.1 x.2.2.1, 0⟩
theorem g_zfac_chosen (fu : Nat) : SigOK Tryz.prog (s_zfac_chosen fu) := denF_s (s := s_zfac_chosen fu) (cf := ⟨tt, [s_zfac_candidate_io fu, s_zpoly_Div fu, s_zfac_without_api_Int_io fu, s_zpoly_Prim fu], ⟨[3, 4], [], [(3, ⟨⟨[(3, .var (.l (.p .b (.l .u))) 22), (4, .var (.l (.l (.p .b (.l .u)))) 55), (7, .bo (.l (.p .b (.l .u))) 22 55), (8, .d .i)], []⟩, ⟨[], [(.x 0, ⟨[(3, .var (.l (.p .b (.l .u))) 22), (4, .var (.l (.l (.p .b (.l .u)))) 55), (7, .bo (.l (.p .b (.l .u))) 22 55)], []⟩)]⟩⟩), (6, ⟨⟨[(3, .var (.l (.p .b (.l .u))) 22), (4, .var (.l (.l (.p .b (.l .u)))) 55), (7, .bo (.l (.p .b (.l .u))) 22 55)], []⟩, ⟨[], [(.x 1, ⟨[], []⟩)]⟩⟩)], [(13, [56, 57])], [], [7], []⟩, fu, ex, [], [s_zfac_choices], [s_zfac_choices_1 fu], []⟩) mord ttok elok (cC (g_zfac_candidate_io fu) <| cC (g_zpoly_Div fu) <| cC (g_zfac_without_api_Int_io fu) <| cC (g_zpoly_Prim fu) <| cN) ⟨exok, fun s h => by obtain rfl := List.mem_singleton.1 h; exact g_zfac_choices, fun _ h => absurd h List.not_mem_nil, fun s h => by obtain rfl := List.mem_singleton.1 h; exact g_zfac_choices_1 fu, rfl, fun _ h => absurd h List.not_mem_nil⟩ Tryz.func126 (by kernel_rfl) rfl fun x r h => (id (by kernel_rfl) : denF ⟨tt, [s_zfac_candidate_io fu, s_zpoly_Div fu, s_zfac_without_api_Int_io fu, s_zpoly_Prim fu], ⟨[3, 4], [], [(3, ⟨⟨[(3, .var (.l (.p .b (.l .u))) 22), (4, .var (.l (.l (.p .b (.l .u)))) 55), (7, .bo (.l (.p .b (.l .u))) 22 55), (8, .d .i)], []⟩, ⟨[], [(.x 0, ⟨[(3, .var (.l (.p .b (.l .u))) 22), (4, .var (.l (.l (.p .b (.l .u)))) 55), (7, .bo (.l (.p .b (.l .u))) 22 55)], []⟩)]⟩⟩), (6, ⟨⟨[(3, .var (.l (.p .b (.l .u))) 22), (4, .var (.l (.l (.p .b (.l .u)))) 55), (7, .bo (.l (.p .b (.l .u))) 22 55)], []⟩, ⟨[], [(.x 1, ⟨[], []⟩)]⟩⟩)], [(13, [56, 57])], [], [7], []⟩, fu, ex, [], [s_zfac_choices], [s_zfac_choices_1 fu], []⟩ Tryz.f126 [.d (.l (.p .b (.l .u))), .d (.l (.l (.p .b (.l .u)))), .d (.p .b (.l .u))] [.own (.l (.p .b (.l .u))) 22] x = M_zfac_chosen fu x.1 x.2.1 x.2.2.1).trans h
def s_zpoly_Less (fu : Nat) : Sig := ⟨24, [.d (.l (.p .b (.l .u))), .d (.l (.p .b (.l .u)))], [.d .b], fun x => M_zpoly_Less fu x.1 x.2.1, 0⟩
theorem g_zpoly_Less (fu : Nat) : SigOK Tryz.prog (s_zpoly_Less fu) := sg (fu := fu) ⟨[], [], [(5, ⟨⟨[(5, .d .i)], []⟩, ⟨[0, 1], [(.x 0, ⟨[], []⟩), (.r, ⟨[(4, .d .b)], []⟩)]⟩⟩)], [], [], [], []⟩ Tryz.func24 (cC (g_zint_Cmp fu) <| cC (g_zpoly_Norm fu) <| cN) (by kernel_rfl) fun x => by kernel_rfl
def s_zfac_compare (fu : Nat) : Sig := ⟨128, [.d (.l (.p .b (.l .u))), .d (.l (.p .b (.l .u)))], [.d .i], fun x => M_zfac_compare fu x.1 x.2.1, 0⟩
theorem g_zfac_compare (fu : Nat) : SigOK Tryz.prog (s_zfac_compare fu) := sg (fu := fu) ⟨[], [], [], [], [], [], []⟩ Tryz.func128 (cC (g_zpoly_Less fu) <| cN) (by kernel_rfl) fun x => by kernel_rfl
def s_zint_Root (fu : Nat) : Sig := ⟨250, [.d (.p .b (.l .u)), .d .i], [.d (.p .b (.l .u)), .d .i], fun x => M_zint_Root fu x.1 x.2.1, 0⟩
theorem g_zint_Root (fu : Nat) : SigOK Tryz.prog (s_zint_Root fu) := sg (fu := fu) ⟨[], [], [(6, ⟨⟨[(4, .var (.p .b (.l .u)) 30), (6, .var (.p .b (.l .u)) 30), (9, .var (.p .b (.l .u)) 30)], []⟩, ⟨[], [(.r, ⟨[(4, .var (.p .b (.l .u)) 30)], [(5, .ci 0)]⟩)]⟩⟩), (11, ⟨⟨[(1, .d .i), (2, .q (.p .b (.l .u))), (52, .d .i), (11, .var (.p .b (.l .u)) 30)], []⟩, ⟨[4, 6, 9, 10], [(.x 2, ⟨[(1, .d .i), (2, .q (.p .b (.l .u))), (11, .var (.p .b (.l .u)) 30)], []⟩)]⟩⟩)], [], [], [], []⟩ Tryz.func250 (cC (g_zint_Sign fu) <| cC (g_nat_Shr fu) <| cC (g_zint_Cmp fu) <| cC (g_zint_Add fu) <| cC (g_zint_Mul fu) <| cC (g_zint_made fu) <| cC (g_nat_Bits fu) <| cC (g_nat_Shl fu) <| cC (g_zint_Of fu) <| cN) (by kernel_rfl) fun x => by kernel_rfl
def s_zsqf_wrong (fu : Nat) : Sig := ⟨116, [.d (.l (.p .b (.l .u)))], [.d .i], fun x => M_zsqf_wrong fu x.1, 0⟩
theorem g_zsqf_wrong (fu : Nat) : SigOK Tryz.prog (s_zsqf_wrong fu) := sg (fu := fu) ⟨[], [], [], [], [], [], []⟩ Tryz.func116 (cC (g_zpoly_Norm fu) <| cN) (by kernel_rfl) fun x => by kernel_rfl
def s_zsqf_Bound (fu : Nat) : Sig := ⟨182, [.d (.l (.p .b (.l .u)))], [.d (.p .b (.l .u)), .d .i], fun x => M_zsqf_Bound fu x.1, 0⟩
theorem g_zsqf_Bound (fu : Nat) : SigOK Tryz.prog (s_zsqf_Bound fu) := sg (fu := fu) ⟨[], [(524297, ⟨[0, 2, 5], [(.n, ⟨[(22, .d .i), (24, .d .b)], []⟩)]⟩)], [(7, ⟨⟨[(23, .d .i), (0, .own (.p .b (.l .u)) 30), (2, .var (.p .b (.l .u)) 30), (5, .var (.p .b (.l .u)) 30)], [(21, .al 0)]⟩, ⟨[], [(.x 0, ⟨[(0, .own (.p .b (.l .u)) 30), (2, .var (.p .b (.l .u)) 30), (5, .var (.p .b (.l .u)) 30)], []⟩)]⟩⟩)], [], [], [], []⟩ Tryz.func182 (cC (g_zint_Norm fu) <| cC (g_zint_Add fu) <| cC (g_zint_Mul fu) <| cC (g_zsqf_wrong fu) <| cC (g_zpoly_Norm fu) <| cC (g_zint_Root fu) <| cC (g_nat_Shl fu) <| cC (g_zint_Of fu) <| cN) (by kernel_rfl) fun x => by kernel_rfl
def s_zfac_enough (fu : Nat) : Sig := ⟨122, [.d (.l (.p .b (.l .u))), .d .i], [.d .i], fun x => M_zfac_enough fu x.1 x.2.1, 0⟩
theorem g_zfac_enough (fu : Nat) : SigOK Tryz.prog (s_zfac_enough fu) := sg (fu := fu) ⟨[], [], [(5, ⟨⟨[(9, .d .i), (8, .var (.p .b (.l .u)) 30)], []⟩, ⟨[5, 7], [(.x 0, ⟨[(9, .d .i)], []⟩)]⟩⟩)], [(2, [])], [], [], []⟩ Tryz.func122 (cC (g_zint_Mul fu) <| cC (g_zint_Of fu) <| cC (g_zsqf_Bound fu) <| cC (g_zint_Cmp fu) <| cN) (by kernel_rfl) fun x => by kernel_rfl
def s_zfac_great (fu : Nat) : Sig := ⟨120, [.d (.l (.p .b (.l .u)))], [.d .b], fun x => M_zfac_great fu x.1, 0⟩
theorem g_zfac_great (fu : Nat) : SigOK Tryz.prog (s_zfac_great fu) := sg (fu := fu) ⟨[], [], [], [(2, [])], [], [], []⟩ Tryz.func120 (cC (g_zint_Mul fu) <| cC (g_zint_Of fu) <| cC (g_zsqf_Bound fu) <| cC (g_nat_Bits fu) <| cN) (by kernel_rfl) fun x => by kernel_rfl
def s_ffac_compare (fu : Nat) : Sig := ⟨261, [.d (.l .i), .d (.l .i)], [.d .i], fun x => M_ffac_compare fu x.1 x.2.1, 0⟩
theorem g_ffac_compare (fu : Nat) : SigOK Tryz.prog (s_ffac_compare fu) := sg (fu := fu) ⟨[], [], [(4, ⟨⟨[(5, .d .i)], []⟩, ⟨[], [(.x 0, ⟨[], []⟩), (.r, ⟨[(4, .d .i)], []⟩)]⟩⟩)], [], [], [], []⟩ Tryz.func261 (cN) (by kernel_rfl) fun x => by kernel_rfl
def s_flin_Echelon_1 (fu : Nat) : Sig := ⟨376, [.d (.l .i), .q .i], [.d .b], fun x => M_flin_Echelon_1 fu x.1 x.2.1, 0⟩
theorem g_flin_Echelon_1 (fu : Nat) : SigOK Tryz.prog (s_flin_Echelon_1 fu) := sg (fu := fu) ⟨[], [], [], [], [], [], []⟩ Tryz.func376 (cN) (by kernel_rfl) fun x => by kernel_rfl
def s_flin_plain (fu : Nat) : Sig := ⟨375, [.d (.l .i), .d .i], [.own .i 3], fun x => M_flin_plain fu x.1 x.2.1, 0⟩
theorem g_flin_plain (fu : Nat) : SigOK Tryz.prog (s_flin_plain fu) := sg (fu := fu) ⟨[], [], [(3, ⟨⟨[(13, .d .i), (5, .own .i 3)], []⟩, ⟨[], [(.x 0, ⟨[(5, .own .i 3)], []⟩)]⟩⟩)], [], [], [], []⟩ Tryz.func375 (cC (g_fp_Red fu) <| cN) (by kernel_rfl) fun x => by kernel_rfl
def s_flin_right (fu : Nat) : Sig := ⟨351, [.d (.l (.l .i)), .d .i], [.d .i], fun x => M_flin_right fu x.1 x.2.1, 0⟩
theorem g_flin_right (fu : Nat) : SigOK Tryz.prog (s_flin_right fu) := sg (fu := fu) ⟨[], [(393223, ⟨[], [(.n, ⟨[(0, .d (.l (.l .i))), (17, .d (.l (.l .i))), (18, .d .i), (20, .d .b)], []⟩)]⟩)], [(5, ⟨⟨[(19, .d .i)], []⟩, ⟨[], [(.x 0, ⟨[], []⟩), (.r, ⟨[], [(4, .ci 1)]⟩)]⟩⟩)], [], [], [], []⟩ Tryz.func351 (cC (g_fp_Check fu) <| cN) (by kernel_rfl) fun x => by kernel_rfl
def s_flin_strike (fu : Nat) : MSig := ⟨377, .i, 23, 3, fun xss ix r a p lo n => M_flin_strike fu xss ix r a p lo n⟩
theorem e_flin_strike (fu : Nat) (pn : Value) (xss : List (List Int)) (ix : List Nat) (r : Nat) (a p : Int) (lo n : Nat) : denM ⟨tt, [], (⟨[], [], [(1, ⟨⟨[(3, .matv .i 23 3), (13, .view 0), (0, .row 0), (15, .d .i)], []⟩, ⟨[], [(.x 0, ⟨[(3, .matv .i 23 3)], []⟩)]⟩⟩), (5, ⟨⟨[(3, .matv .i 23 3), (13, .view 0), (0, .row 0), (23, .row 0), (9, .row 0), (25, .d .i)], []⟩, ⟨[], [(.x 2, ⟨[(3, .matv .i 23 3), (13, .view 0), (0, .row 0)], []⟩)]⟩⟩)], [], [], [], []⟩ : An), fu, ex, [], [], [], []⟩ Tryz.f377 .i 23 3 pn xss ix r a p lo n = M_flin_strike fu xss ix r a p lo n := by kernel_rfl
theorem g_flin_strike (fu : Nat) : MSigOK Tryz.prog (s_flin_strike fu) := denM_s (s := s_flin_strike fu) (cf := ⟨tt, [], (⟨[], [], [(1, ⟨⟨[(3, .matv .i 23 3), (13, .view 0), (0, .row 0), (15, .d .i)], []⟩, ⟨[], [(.x 0, ⟨[(3, .matv .i 23 3)], []⟩)]⟩⟩), (5, ⟨⟨[(3, .matv .i 23 3), (13, .view 0), (0, .row 0), (23, .row 0), (9, .row 0), (25, .d .i)], []⟩, ⟨[], [(.x 2, ⟨[(3, .matv .i 23 3), (13, .view 0), (0, .row 0)], []⟩)]⟩⟩)], [], [], [], []⟩ : An), fu, ex, [], [], [], []⟩) mord ttok elok cN (.of exok rfl) Tryz.func377 (by kernel_rfl) fun pn xss ix r a p lo n z h => (e_flin_strike fu pn xss ix r a p lo n).trans h
def s_slices_IndexFunc_int_int (fu : Nat) : Sig := ⟨267, [.d (.l (.l .i)), .fn [(.l .i)] [.b]], [.d .i], fun x => M_slices_IndexFunc_int_int fu x.1 (fun z0 => x.2.1 (z0, ())), 0⟩
theorem g_slices_IndexFunc_int_int (fu : Nat) : SigOK Tryz.prog (s_slices_IndexFunc_int_int fu) := sg (fu := fu) ⟨[], [], [(2, ⟨⟨[(8, .d .i)], []⟩, ⟨[], [(.x 0, ⟨[], []⟩), (.r, ⟨[(4, .d .i)], []⟩)]⟩⟩)], [], [], [], []⟩ Tryz.func267 (cN) (by kernel_rfl) fun x => by kernel_rfl
def s_flin_Echelon (fu : Nat) : Sig := ⟨352, [.d (.l (.l .i)), .d .i], [.d (.l (.l .i)), .d .i], fun x => M_flin_Echelon fu x.1 x.2.1, 0⟩
theorem g_flin_Echelon (fu : Nat) : SigOK Tryz.prog (s_flin_Echelon fu) := denF_s (s := s_flin_Echelon fu) (cf := ⟨tt, [s_flin_right fu, s_flin_plain fu, s_slices_IndexFunc_int_int fu, s_fp_Inv fu, s_flin_Echelon_1 fu], ⟨[], [], [(6, ⟨⟨[(7, .mat .i 23 3), (25, .d .i)], []⟩, ⟨[], [(.x 0, ⟨[(7, .mat .i 23 3)], []⟩)]⟩⟩), (12, ⟨⟨[(7, .mat .i 23 3), (10, .d .i), (11, .var .i 3)], []⟩, ⟨[], [(.x 2, ⟨[(7, .mat .i 23 3), (10, .d .i)], []⟩)]⟩⟩), (19, ⟨⟨[(7, .mat .i 23 3), (90, .row 0), (92, .d .i)], []⟩, ⟨[], [(.x 4, ⟨[(7, .mat .i 23 3)], []⟩)]⟩⟩)], [(16, []), (23, []), (24, [])], [52, 117, 128], [33], []⟩, fu, ex, [s_flin_strike fu], [], [], []⟩) mord ttok elok (cC (g_flin_right fu) <| cC (g_flin_plain fu) <| cC (g_slices_IndexFunc_int_int fu) <| cC (g_fp_Inv fu) <| cC (g_flin_Echelon_1 fu) <| cN) ⟨exok, fun _ h => absurd h List.not_mem_nil, fun s h => by obtain rfl := List.mem_singleton.1 h; exact g_flin_strike fu, fun _ h => absurd h List.not_mem_nil, rfl, fun _ h => absurd h List.not_mem_nil⟩ Tryz.func352 (by kernel_rfl) rfl fun x r h => (id (by kernel_rfl) : denF ⟨tt, [s_flin_right fu, s_flin_plain fu, s_slices_IndexFunc_int_int fu, s_fp_Inv fu, s_flin_Echelon_1 fu], ⟨[], [], [(6, ⟨⟨[(7, .mat .i 23 3), (25, .d .i)], []⟩, ⟨[], [(.x 0, ⟨[(7, .mat .i 23 3)], []⟩)]⟩⟩), (12, ⟨⟨[(7, .mat .i 23 3), (10, .d .i), (11, .var .i 3)], []⟩, ⟨[], [(.x 2, ⟨[(7, .mat .i 23 3), (10, .d .i)], []⟩)]⟩⟩), (19, ⟨⟨[(7, .mat .i 23 3), (90, .row 0), (92, .d .i)], []⟩, ⟨[], [(.x 4, ⟨[(7, .mat .i 23 3)], []⟩)]⟩⟩)], [(16, []), (23, []), (24, [])], [52, 117, 128], [33], []⟩, fu, ex, [s_flin_strike fu], [], [], []⟩ Tryz.f352 [.d (.l (.l .i)), .d .i] [.d (.l (.l .i)), .d .i] x = M_flin_Echelon fu x.1 x.2.1).trans h
def s_flin_lead_1 (fu : Nat) : Sig := ⟨379, [.d .i], [.d .b], fun x => M_flin_lead_1 fu x.1, 0⟩
theorem g_flin_lead_1 (fu : Nat) : SigOK Tryz.prog (s_flin_lead_1 fu) := sg (fu := fu) ⟨[], [], [], [], [], [], []⟩ Tryz.func379 (cN) (by kernel_rfl) fun x => by kernel_rfl
def s_slices_IndexFunc_int_int_2 (fu : Nat) : Sig := ⟨378, [.d (.l .i), .fn [.i] [.b]], [.d .i], fun x => M_slices_IndexFunc_int_int_2 fu x.1 (fun z0 => x.2.1 (z0, ())), 0⟩
theorem g_slices_IndexFunc_int_int_2 (fu : Nat) : SigOK Tryz.prog (s_slices_IndexFunc_int_int_2 fu) := sg (fu := fu) ⟨[], [], [(2, ⟨⟨[(8, .d .i)], []⟩, ⟨[], [(.x 0, ⟨[], []⟩), (.r, ⟨[(4, .d .i)], []⟩)]⟩⟩)], [], [], [], []⟩ Tryz.func378 (cN) (by kernel_rfl) fun x => by kernel_rfl
def s_flin_lead (fu : Nat) : Sig := ⟨355, [.d (.l .i)], [.d .i], fun x => M_flin_lead fu x.1, 0⟩
theorem g_flin_lead (fu : Nat) : SigOK Tryz.prog (s_flin_lead fu) := sg (fu := fu) ⟨[], [], [], [], [], [], []⟩ Tryz.func355 (cC (g_slices_IndexFunc_int_int_2 fu) <| cC (g_flin_lead_1 fu) <| cN) (by kernel_rfl) fun x => by kernel_rfl
def s_flin_Null_1 (fu : Nat) : Sig := ⟨354, [.d (.l .i), .q .i], [.d .b], fun x => M_flin_Null_1 fu x.1 x.2.1, 0⟩
theorem g_flin_Null_1 (fu : Nat) : SigOK Tryz.prog (s_flin_Null_1 fu) := sg (fu := fu) ⟨[], [], [], [], [], [], []⟩ Tryz.func354 (cC (g_flin_lead fu) <| cN) (by kernel_rfl) fun x => by kernel_rfl
def s_slices_ContainsFunc_int_int (fu : Nat) : Sig := ⟨353, [.d (.l (.l .i)), .fn [(.l .i)] [.b]], [.d .b], fun x => M_slices_ContainsFunc_int_int fu x.1 (fun z0 => x.2.1 (z0, ())), 0⟩
theorem g_slices_ContainsFunc_int_int (fu : Nat) : SigOK Tryz.prog (s_slices_ContainsFunc_int_int fu) := sg (fu := fu) ⟨[], [], [], [], [], [], []⟩ Tryz.func353 (cC (g_slices_IndexFunc_int_int fu) <| cN) (by kernel_rfl) fun x => by kernel_rfl
def s_flin_Null (fu : Nat) : Sig := ⟨322, [.d (.l (.l .i)), .d .i, .d .i], [.own (.l .i) 23, .d .i], fun x => M_flin_Null fu x.1 x.2.1 x.2.2.1, 0⟩
theorem g_flin_Null (fu : Nat) : SigOK Tryz.prog (s_flin_Null fu) := sg (fu := fu) ⟨[], [(131076, ⟨[], [(.n, ⟨[], []⟩), (.r, ⟨[], [(6, .nil), (7, .ci 1)]⟩)]⟩), (458760, ⟨[10], [(.n, ⟨[(1, .d .i), (2, .d .i), (8, .d (.l (.l .i))), (46, .d .i), (48, .d .b)], []⟩)]⟩), (851982, ⟨[10, 12], [(.n, ⟨[(1, .d .i), (2, .d .i), (8, .d (.l (.l .i))), (11, .q .i), (46, .d .i), (47, .d .i), (58, .d (.l (.l .i))), (59, .d .i), (61, .d .b)], []⟩)]⟩)], [(6, ⟨⟨[(10, .own (.l .i) 23), (47, .d .i)], []⟩, ⟨[], [(.x 0, ⟨[(10, .own (.l .i) 23)], []⟩)]⟩⟩), (12, ⟨⟨[(60, .d .i), (10, .own (.l .i) 23), (12, .own .i 3)], []⟩, ⟨[], [(.x 2, ⟨[(10, .own (.l .i) 23), (12, .own .i 3)], []⟩)]⟩⟩)], [], [], [], []⟩ Tryz.func322 (cC (g_flin_Echelon fu) <| cC (g_slices_ContainsFunc_int_int fu) <| cC (g_flin_Null_1 fu) <| cC (g_flin_lead fu) <| cC (g_fp_Red fu) <| cC (g_flin_right fu) <| cN) (by kernel_rfl) fun x => by kernel_rfl
def s_fpoly_Div (fu : Nat) : Sig := ⟨194, [.d (.l .i), .d (.l .i), .d .i], [.own .i 3, .own .i 3, .d .i], fun x => M_fpoly_Div fu x.1 x.2.1 x.2.2.1, 0⟩
theorem g_fpoly_Div (fu : Nat) : SigOK Tryz.prog (s_fpoly_Div fu) := sg (fu := fu) ⟨[], [], [], [], [], [], []⟩ Tryz.func194 (cC (g_fp_Check fu) <| cC (g_fpoly_plain fu) <| cC (g_fpoly_divided fu) <| cN) (by kernel_rfl) fun x => by kernel_rfl
def s_fpoly_PowMod (fu : Nat) : Sig := ⟨321, [.d (.l .i), .d (.p .b (.l .u)), .d (.l .i), .d .i], [.own .i 3, .d .i], fun x => M_fpoly_PowMod fu x.1 x.2.1 x.2.2.1 x.2.2.2.1, 0⟩
theorem g_fpoly_PowMod (fu : Nat) : SigOK Tryz.prog (s_fpoly_PowMod fu) := sg (fu := fu) ⟨[], [], [(9, ⟨⟨[(11, .own .i 3), (13, .d (.l .i)), (14, .d .i)], []⟩, ⟨[10, 12], [(.x 0, ⟨[(11, .own .i 3)], []⟩)]⟩⟩)], [], [], [], []⟩ Tryz.func321 (cC (g_zint_Sign fu) <| cC (g_fpoly_product fu) <| cC (g_fp_Check fu) <| cC (g_fpoly_plain fu) <| cC (g_fpoly_divided fu) <| cC (g_nat_Bits fu) <| cN) (by kernel_rfl) fun x => by kernel_rfl
def s_ffac_fixed (fu : Nat) : Sig := ⟨259, [.d (.l .i), .d .i], [.own (.l .i) 23], fun x => M_ffac_fixed fu x.1 x.2.1, 0⟩
theorem g_ffac_fixed (fu : Nat) : SigOK Tryz.prog (s_ffac_fixed fu) := sg (fu := fu) ⟨[], [], [(4, ⟨⟨[(6, .mat .i 23 3), (23, .d .i)], []⟩, ⟨[], [(.x 0, ⟨[(6, .mat .i 23 3)], []⟩)]⟩⟩), (11, ⟨⟨[(6, .mat .i 23 3), (10, .d (.l .i)), (8, .d (.l .i)), (43, .d .i)], []⟩, ⟨[], [(.x 2, ⟨[(6, .mat .i 23 3)], []⟩)]⟩⟩), (14, ⟨⟨[(6, .mat .i 23 3), (48, .d .i)], []⟩, ⟨[], [(.x 4, ⟨[(6, .mat .i 23 3)], []⟩)]⟩⟩)], [], [], [20], []⟩ Tryz.func259 (cC (g_zint_Of fu) <| cC (g_fpoly_PowMod fu) <| cC (g_fpoly_Mul fu) <| cC (g_fpoly_Div fu) <| cC (g_flin_Null fu) <| cN) (by kernel_rfl) fun x => by kernel_rfl
def s_ffac_by (fu : Nat) : Sig := ⟨320, [.d (.l .i), .d (.l .i), .d .i], [.own .i 3], fun x => M_ffac_by fu x.1 x.2.1 x.2.2.1, 0⟩
theorem g_ffac_by (fu : Nat) : SigOK Tryz.prog (s_ffac_by fu) := sg (fu := fu) ⟨[], [], [], [], [], [], []⟩ Tryz.func320 (cC (g_fpoly_Div fu) <| cN) (by kernel_rfl) fun x => by kernel_rfl
def s_ffac_gcd (fu : Nat) : Sig := ⟨318, [.d (.l .i), .d (.l .i), .d .i], [.d (.l .i)], fun x => M_ffac_gcd fu x.1 x.2.1 x.2.2.1, 0⟩
theorem g_ffac_gcd (fu : Nat) : SigOK Tryz.prog (s_ffac_gcd fu) := sg (fu := fu) ⟨[], [], [], [], [], [], []⟩ Tryz.func318 (cC (g_fpoly_Gcd fu) <| cN) (by kernel_rfl) fun x => by kernel_rfl
def s_ffac_parted_1 (fu : Nat) : Sig := ⟨316, [.d .i, .q (.l .i), .q .i], [.d .i], fun x => M_ffac_parted_1 fu x.1 x.2.1 x.2.2.1, 0⟩
theorem g_ffac_parted_1 (fu : Nat) : SigOK Tryz.prog (s_ffac_parted_1 fu) := sg (fu := fu) ⟨[], [], [], [], [], [], []⟩ Tryz.func316 (cC (g_fp_Red fu) <| cN) (by kernel_rfl) fun x => by kernel_rfl
def s_fpoly_Add (fu : Nat) : Sig := ⟨350, [.d (.l .i), .d (.l .i), .d .i], [.own .i 3, .d .i], fun x => M_fpoly_Add fu x.1 x.2.1 x.2.2.1, 0⟩
theorem g_fpoly_Add (fu : Nat) : SigOK Tryz.prog (s_fpoly_Add fu) := sg (fu := fu) ⟨[], [], [], [], [], [], []⟩ Tryz.func350 (cC (g_fpoly_sum fu) <| cC (g_fp_Check fu) <| cC (g_fpoly_plain fu) <| cN) (by kernel_rfl) fun x => by kernel_rfl
def s_ffac_trial (fu : Nat) : Sig := ⟨319, [.d (.l .i), .d .i, .d (.l .i), .d .i], [.own .i 3], fun x => M_ffac_trial fu x.1 x.2.1 x.2.2.1 x.2.2.2.1, 0⟩
theorem g_ffac_trial (fu : Nat) : SigOK Tryz.prog (s_ffac_trial fu) := sg (fu := fu) ⟨[], [], [], [], [], [], []⟩ Tryz.func319 (cC (g_fpoly_PowMod fu) <| cC (g_fpoly_Sub fu) <| cC (g_zint_Of fu) <| cC (g_fpoly_Add fu) <| cN) (by kernel_rfl) fun x => by kernel_rfl
def s_ffac_parted (fu : Nat) : Sig := ⟨258, [.d (.l .i), .d (.l (.l .i)), .d .i, .d (.l .i)], [.own (.l .i) 23], fun x => M_ffac_parted fu x.1 x.2.1 x.2.2.1 x.2.2.2.1, 0⟩
theorem g_ffac_parted (fu : Nat) : SigOK Tryz.prog (s_ffac_parted fu) := sg (fu := fu) ⟨[], [(524297, ⟨[10], [(.n, ⟨[(11, .d .i), (28, .d (.l (.l .i))), (29, .d .i), (31, .d .b)], []⟩)]⟩), (983056, ⟨[10], [(.n, ⟨[(1, .d (.l (.l .i))), (6, .q .i), (7, .q (.l .i)), (11, .d .i), (13, .d (.l .i)), (28, .d (.l (.l .i))), (29, .d .i), (30, .d .i), (73, .d .b)], []⟩)]⟩)], [(4, ⟨⟨[(10, .own (.l .i) 23), (11, .d .i)], []⟩, ⟨[], [(.x 0, ⟨[(10, .own (.l .i) 23)], []⟩)]⟩⟩), (7, ⟨⟨[(1, .d (.l (.l .i))), (6, .q .i), (7, .q (.l .i)), (10, .own (.l .i) 23), (30, .d .i)], []⟩, ⟨[], [(.x 0, ⟨[(10, .own (.l .i) 23)], []⟩), (.x 2, ⟨[(1, .d (.l (.l .i))), (6, .q .i), (7, .q (.l .i)), (10, .own (.l .i) 23)], []⟩)]⟩⟩), (10, ⟨⟨[(10, .own (.l .i) 23), (14, .d .i)], []⟩, ⟨[], [(.x 0, ⟨[(10, .own (.l .i) 23)], []⟩), (.x 4, ⟨[(10, .own (.l .i) 23)], []⟩)]⟩⟩)], [], [], [], []⟩ Tryz.func258 (cC (g_ffac_by fu) <| cC (g_ffac_parted_1 fu) <| cC (g_ffac_gcd fu) <| cC (g_ffac_trial fu) <| cN) (by kernel_rfl) fun x => by kernel_rfl
def s_fpoly_Monic (fu : Nat) : Sig := ⟨349, [.d (.l .i), .d .i], [.own .i 3, .d .i], fun x => M_fpoly_Monic fu x.1 x.2.1, 0⟩
theorem g_fpoly_Monic (fu : Nat) : SigOK Tryz.prog (s_fpoly_Monic fu) := sg (fu := fu) ⟨[], [], [], [], [], [], []⟩ Tryz.func349 (cC (g_fp_Check fu) <| cC (g_fpoly_plain fu) <| cC (g_fpoly_scaled fu) <| cN) (by kernel_rfl) fun x => by kernel_rfl
def s_ffac_monic (fu : Nat) : Sig := ⟨315, [.d (.l .i), .d .i], [.own .i 3, .d .i], fun x => M_ffac_monic fu x.1 x.2.1, 0⟩
theorem g_ffac_monic (fu : Nat) : SigOK Tryz.prog (s_ffac_monic fu) := sg (fu := fu) ⟨[], [], [], [], [], [], []⟩ Tryz.func315 (cC (g_fpoly_Monic fu) <| cN) (by kernel_rfl) fun x => by kernel_rfl
def s_fpoly_Deriv (fu : Nat) : Sig := ⟨312, [.d (.l .i), .d .i], [.own .i 3, .d .i], fun x => M_fpoly_Deriv fu x.1 x.2.1, 0⟩
theorem g_fpoly_Deriv (fu : Nat) : SigOK Tryz.prog (s_fpoly_Deriv fu) := sg (fu := fu) ⟨[], [(458760, ⟨[7, 17], [(.n, ⟨[(1, .d .i), (18, .d .i), (20, .d .b)], []⟩)]⟩)], [(6, ⟨⟨[(7, .own .i 3), (19, .d .i), (17, .own .i 3)], []⟩, ⟨[], [(.x 0, ⟨[(7, .own .i 3)], []⟩)]⟩⟩)], [], [], [], []⟩ Tryz.func312 (cC (g_fp_Check fu) <| cC (g_fpoly_plain fu) <| cN) (by kernel_rfl) fun x => by kernel_rfl
def s_fsqf_monic (fu : Nat) : Sig := ⟨311, [.d (.l .i), .d .i], [.own .i 3, .d .i], fun x => M_fsqf_monic fu x.1 x.2.1, 0⟩
theorem g_fsqf_monic (fu : Nat) : SigOK Tryz.prog (s_fsqf_monic fu) := sg (fu := fu) ⟨[], [], [], [], [], [], []⟩ Tryz.func311 (cC (g_fpoly_Monic fu) <| cN) (by kernel_rfl) fun x => by kernel_rfl
def s_fsqf_Is (fu : Nat) : Sig := ⟨253, [.d (.l .i), .d .i], [.d .b, .d .i], fun x => M_fsqf_Is fu x.1 x.2.1, 0⟩
theorem g_fsqf_Is (fu : Nat) : SigOK Tryz.prog (s_fsqf_Is fu) := sg (fu := fu) ⟨[], [], [], [], [], [], []⟩ Tryz.func253 (cC (g_fpoly_Deriv fu) <| cC (g_fpoly_Gcd fu) <| cC (g_fsqf_monic fu) <| cN) (by kernel_rfl) fun x => by kernel_rfl
def s_ffac_square (fu : Nat) : Sig := ⟨257, [.d (.l .i), .d .i], [.d (.l .i), .d .i], fun x => M_ffac_square fu x.1 x.2.1, 0⟩
theorem g_ffac_square (fu : Nat) : SigOK Tryz.prog (s_ffac_square fu) := sg (fu := fu) ⟨[], [], [], [], [], [], []⟩ Tryz.func257 (cC (g_ffac_monic fu) <| cC (g_fsqf_Is fu) <| cN) (by kernel_rfl) fun x => by kernel_rfl
def s_math_bits_Len (fu : Nat) : Sig := ⟨202, [.d .u], [.d .i], fun x => M_math_bits_Len fu x.1, 0⟩
theorem g_math_bits_Len (fu : Nat) : SigOK Tryz.prog (s_math_bits_Len fu) := sg (fu := fu) ⟨[], [], [], [], [], [], []⟩ Tryz.func202 (cC (g_math_bits_Len64 fu) <| cN) (by kernel_rfl) fun x => by kernel_rfl
def s_slices_insertionSortCmpFunc_int_io (fu : Nat) : Sig := ⟨356, [.own (.l .i) 23, .d .i, .d .i, .fn [(.l .i), (.l .i)] [.i]], [.own (.l .i) 23], fun x => M_slices_insertionSortCmpFunc_int_io fu x.1 x.2.1 x.2.2.1 (fun z0 z1 => x.2.2.2.1 (z0, z1, ())), 1⟩
theorem g_slices_insertionSortCmpFunc_int_io (fu : Nat) : SigOK Tryz.prog (s_slices_insertionSortCmpFunc_int_io fu) := sgb (fu := fu) ⟨[], [], [(1, ⟨⟨[(8, .d .i), (0, .own (.l .i) 23)], []⟩, ⟨[], [(.x 0, ⟨[(0, .own (.l .i) 23)], []⟩)]⟩⟩), (4, ⟨⟨[(1, .d .i), (2, .d .i), (9, .d .i), (0, .own (.l .i) 23)], []⟩, ⟨[], [(.x 2, ⟨[(1, .d .i), (2, .d .i), (0, .own (.l .i) 23)], []⟩)]⟩⟩)], [(6, [])], [], [], []⟩ Tryz.func356 (cN) (by kernel_rfl) fun pn x => by kernel_rfl
def s_slices_pdqsortCmpFunc_int_io (fu : Nat) : Sig := ⟨323, [.own (.l .i) 23, .d .i, .d .i, .d .i, .fn [(.l .i), (.l .i)] [.i]], [.own (.l .i) 23], fun x => M_slices_pdqsortCmpFunc_int_io fu x.1 x.2.1 x.2.2.1 x.2.2.2.1 (fun z0 z1 => x.2.2.2.2.1 (z0, z1, ())), 1⟩
theorem g_slices_pdqsortCmpFunc_int_io : ∀ fu : Nat, SigOK Tryz.prog (s_slices_pdqsortCmpFunc_int_io fu)
  | 0 => sg0 (by kernel_rfl) fun _ => rfl
  | fu + 1 => sgb (fu := fu) ⟨[], [], [(2, ⟨⟨[(1, .d .i), (2, .d .i), (3, .d .i), (0, .own (.l .i) 23)], [(10, .kb true), (11, .kb true)]⟩, ⟨[], [(.r, ⟨[(0, .own (.l .i) 23)], []⟩)]⟩⟩)], [], [], [], []⟩ Tryz.func323 (cC (g_slices_pdqsortCmpFunc_int_io fu) <| cC (g_slices_insertionSortCmpFunc_int_io fu) <| cN) (by kernel_rfl) fun pn x => by kernel_rfl
def s_slices_SortFunc_int_int_io (fu : Nat) : Sig := ⟨260, [.own (.l .i) 23, .fn [(.l .i), (.l .i)] [.i]], [.own (.l .i) 23], fun x => M_slices_SortFunc_int_int_io fu x.1 (fun z0 z1 => x.2.1 (z0, z1, ())), 1⟩
theorem g_slices_SortFunc_int_int_io (fu : Nat) : SigOK Tryz.prog (s_slices_SortFunc_int_int_io fu) := sgb (fu := fu) ⟨[], [], [], [], [], [], []⟩ Tryz.func260 (cC (g_math_bits_Len fu) <| cC (g_slices_pdqsortCmpFunc_int_io fu) <| cN) (by kernel_rfl) fun pn x => by kernel_rfl
def s_ffac_Split (fu : Nat) : Sig := ⟨187, [.d (.l .i), .d .i, .d (.l .i)], [.own (.l .i) 23, .d .i], fun x => M_ffac_Split fu x.1 x.2.1 x.2.2.1, 0⟩
theorem g_ffac_Split (fu : Nat) : SigOK Tryz.prog (s_ffac_Split fu) := sg (fu := fu) ⟨[], [], [], [], [], [], []⟩ Tryz.func187 (cC (g_ffac_square fu) <| cC (g_ffac_parted fu) <| cC (g_ffac_fixed fu) <| cC (g_slices_SortFunc_int_int_io fu) <| cC (g_ffac_compare fu) <| cN) (by kernel_rfl) fun x => by kernel_rfl
def s_prime_Next (fu : Nat) : Sig := ⟨184, [.d .i], [.d .i, .d .i], fun x => M_prime_Next fu x.1, 0⟩
theorem g_prime_Next (fu : Nat) : SigOK Tryz.prog (s_prime_Next fu) := sg (fu := fu) ⟨[], [], [(4, ⟨⟨[(0, .d .i)], []⟩, ⟨[], [(.x 0, ⟨[(0, .d .i)], []⟩)]⟩⟩)], [], [], [], []⟩ Tryz.func184 (cC (g_prime_Is fu) <| cN) (by kernel_rfl) fun x => by kernel_rfl
def s_short_Good (fu : Nat) : Sig := ⟨185, [.d (.l (.p .b (.l .u))), .d .i], [.d .b, .d .i], fun x => M_short_Good fu x.1 x.2.1, 0⟩
theorem g_short_Good (fu : Nat) : SigOK Tryz.prog (s_short_Good fu) := sg (fu := fu) ⟨[], [], [], [], [], [], []⟩ Tryz.func185 (cC (g_zpoly_Norm fu) <| cC (g_zsqf_Bound fu) <| cC (g_zpoly_Mod fu) <| cC (g_prime_Is fu) <| cC (g_fsqf_Is fu) <| cN) (by kernel_rfl) fun x => by kernel_rfl
def s_zfac_local (fu : Nat) : Sig := ⟨121, [.d (.l (.p .b (.l .u))), .d (.l .i)], [.d .i, .own (.l .i) 23], fun x => M_zfac_local fu x.1 x.2.1, 0⟩
theorem g_zfac_local (fu : Nat) : SigOK Tryz.prog (s_zfac_local fu) := sg (fu := fu) ⟨[], [], [(4, ⟨⟨[(6, .d .i), (7, .d .i), (8, .own (.l .i) 23), (9, .d .i), (10, .d .i)], []⟩, ⟨[], [(.x 0, ⟨[(6, .d .i), (8, .own (.l .i) 23)], []⟩)]⟩⟩)], [], [], [], []⟩ Tryz.func121 (cC (g_prime_Next fu) <| cC (g_short_Good fu) <| cC (g_zpoly_Mod fu) <| cC (g_ffac_Split fu) <| cN) (by kernel_rfl) fun x => by kernel_rfl
def s_short_choose (fu : Nat) : Sig := ⟨263, [.d .i], [.d (.p .b (.l .u))], fun x => M_short_choose fu x.1, 0⟩
theorem g_short_choose (fu : Nat) : SigOK Tryz.prog (s_short_choose fu) := sg (fu := fu) ⟨[], [(262149, ⟨[2, 3], [(.n, ⟨[(0, .d .i), (6, .d .i), (8, .d .b)], []⟩)]⟩)], [(3, ⟨⟨[(7, .d .i), (2, .var (.p .b (.l .u)) 30), (3, .var (.p .b (.l .u)) 30)], []⟩, ⟨[], [(.x 0, ⟨[(2, .var (.p .b (.l .u)) 30), (3, .var (.p .b (.l .u)) 30)], []⟩)]⟩⟩)], [(5, [])], [], [], []⟩ Tryz.func263 (cC (g_zint_Exact fu) <| cC (g_zint_Of fu) <| cC (g_zint_Mul fu) <| cN) (by kernel_rfl) fun x => by kernel_rfl
def s_short_power (fu : Nat) : Sig := ⟨262, [.d (.p .b (.l .u)), .d .i], [.d (.p .b (.l .u))], fun x => M_short_power fu x.1 x.2.1, 0⟩
theorem g_short_power (fu : Nat) : SigOK Tryz.prog (s_short_power fu) := sg (fu := fu) ⟨[2], [], [(2, ⟨⟨[(1, .d .i), (2, .var (.p .b (.l .u)) 30), (5, .var (.p .b (.l .u)) 30)], []⟩, ⟨[4], [(.x 0, ⟨[(5, .var (.p .b (.l .u)) 30)], []⟩)]⟩⟩)], [], [], [], []⟩ Tryz.func262 (cC (g_zint_Of fu) <| cC (g_zint_Mul fu) <| cN) (by kernel_rfl) fun x => by kernel_rfl
def s_lattice_dot (fu : Nat) : Sig := ⟨364, [.d (.l (.p .b (.l .u))), .d (.l (.p .b (.l .u)))], [.d (.p .b (.l .u))], fun x => M_lattice_dot fu x.1 x.2.1, 0⟩
theorem g_lattice_dot (fu : Nat) : SigOK Tryz.prog (s_lattice_dot fu) := sg (fu := fu) ⟨[], [(262149, ⟨[4, 5], [(.n, ⟨[(1, .d (.l (.p .b (.l .u)))), (9, .d (.l (.p .b (.l .u)))), (10, .d .i), (12, .d .b)], []⟩)]⟩)], [(3, ⟨⟨[(11, .d .i), (4, .var (.p .b (.l .u)) 30), (5, .var (.p .b (.l .u)) 30)], []⟩, ⟨[], [(.x 0, ⟨[(4, .var (.p .b (.l .u)) 30), (5, .var (.p .b (.l .u)) 30)], []⟩)]⟩⟩)], [], [], [], []⟩ Tryz.func364 (cC (g_zint_Of fu) <| cC (g_zint_Add fu) <| cC (g_zint_Mul fu) <| cN) (by kernel_rfl) fun x => by kernel_rfl
def s_lattice_Dot (fu : Nat) : Sig := ⟨324, [.d (.l (.p .b (.l .u))), .d (.l (.p .b (.l .u)))], [.d (.p .b (.l .u)), .d .i], fun x => M_lattice_Dot fu x.1 x.2.1, 0⟩
theorem g_lattice_Dot (fu : Nat) : SigOK Tryz.prog (s_lattice_Dot fu) := sg (fu := fu) ⟨[], [], [], [], [], [], []⟩ Tryz.func324 (cC (g_lattice_dot fu) <| cN) (by kernel_rfl) fun x => by kernel_rfl
def s_short_square (fu : Nat) : Sig := ⟨264, [.d (.l (.p .b (.l .u)))], [.d (.p .b (.l .u))], fun x => M_short_square fu x.1, 0⟩
theorem g_short_square (fu : Nat) : SigOK Tryz.prog (s_short_square fu) := sg (fu := fu) ⟨[], [], [], [], [], [], []⟩ Tryz.func264 (cC (g_lattice_Dot fu) <| cN) (by kernel_rfl) fun x => by kernel_rfl
def s_short_Need (fu : Nat) : Sig := ⟨190, [.d (.l (.p .b (.l .u))), .d .i, .d .i], [.d .i, .d .i], fun x => M_short_Need fu x.1 x.2.1 x.2.2.1, 0⟩
theorem g_short_Need (fu : Nat) : SigOK Tryz.prog (s_short_Need fu) := sg (fu := fu) ⟨[], [], [(13, ⟨⟨[(16, .d .i), (15, .var (.p .b (.l .u)) 30)], []⟩, ⟨[8, 13, 14], [(.x 0, ⟨[], []⟩), (.r, ⟨[(6, .d .i)], [(7, .ci 0)]⟩)]⟩⟩)], [], [], [], []⟩ Tryz.func190 (cC (g_short_power fu) <| cC (g_short_choose fu) <| cC (g_short_square fu) <| cC (g_zint_Cmp fu) <| cC (g_zint_Of fu) <| cC (g_zint_Mul fu) <| cC (g_zsqf_Bound fu) <| cC (g_zpoly_Prim fu) <| cC (g_prime_Is fu) <| cN) (by kernel_rfl) fun x => by kernel_rfl
def s_zfac_sought_1 (fu : Nat) : Sig := ⟨193, [.d (.l .i), .q (.l .i), .q .i], [.d .b], fun x => M_zfac_sought_1 fu x.1 x.2.1 x.2.2.1, 0⟩
theorem g_zfac_sought_1 (fu : Nat) : SigOK Tryz.prog (s_zfac_sought_1 fu) := sg (fu := fu) ⟨[], [], [], [], [], [], []⟩ Tryz.func193 (cC (g_fpoly_Div fu) <| cN) (by kernel_rfl) fun x => by kernel_rfl
def s_zfac_sought (fu : Nat) : Sig := ⟨124, [.d (.l (.p .b (.l .u))), .d (.l (.l .i)), .d .i], [.own (.l (.p .b (.l .u))) 22, .d (.l (.p .b (.l .u))), .d (.l (.l .i))], fun x => M_zfac_sought fu x.1 x.2.1 x.2.2.1, 0⟩
theorem g_zfac_sought (fu : Nat) : SigOK Tryz.prog (s_zfac_sought fu) := sg (fu := fu) ⟨[], [], [(2, ⟨⟨[(0, .d (.l (.p .b (.l .u)))), (1, .d (.l (.l .i)))], [(9, .nil)]⟩, ⟨[], [(.x 0, ⟨[(0, .d (.l (.p .b (.l .u)))), (1, .d (.l (.l .i)))], [(9, .nil)]⟩)]⟩⟩)], [], [], [], []⟩ Tryz.func124 (cC (g_zpoly_Div fu) <| cC (g_zfac_sought_1 fu) <| cC (g_zpoly_Mod fu) <| cC (g_hensel_Lift fu) <| cC (g_short_Need fu) <| cN) (by kernel_rfl) fun x => by kernel_rfl
def s_slices_insertionSortCmpFunc_api_Int_io (fu : Nat) : Sig := ⟨284, [.own (.l (.p .b (.l .u))) 22, .d .i, .d .i, .fn [(.l (.p .b (.l .u))), (.l (.p .b (.l .u)))] [.i]], [.own (.l (.p .b (.l .u))) 22], fun x => M_slices_insertionSortCmpFunc_api_Int_io fu x.1 x.2.1 x.2.2.1 (fun z0 z1 => x.2.2.2.1 (z0, z1, ())), 1⟩
theorem g_slices_insertionSortCmpFunc_api_Int_io (fu : Nat) : SigOK Tryz.prog (s_slices_insertionSortCmpFunc_api_Int_io fu) := sgb (fu := fu) ⟨[], [], [(1, ⟨⟨[(8, .d .i), (0, .own (.l (.p .b (.l .u))) 22)], []⟩, ⟨[], [(.x 0, ⟨[(0, .own (.l (.p .b (.l .u))) 22)], []⟩)]⟩⟩), (4, ⟨⟨[(1, .d .i), (2, .d .i), (9, .d .i), (0, .own (.l (.p .b (.l .u))) 22)], []⟩, ⟨[], [(.x 2, ⟨[(1, .d .i), (2, .d .i), (0, .own (.l (.p .b (.l .u))) 22)], []⟩)]⟩⟩)], [(6, [])], [], [], []⟩ Tryz.func284 (cN) (by kernel_rfl) fun pn x => by kernel_rfl
def s_slices_pdqsortCmpFunc_api_Int_io (fu : Nat) : Sig := ⟨201, [.own (.l (.p .b (.l .u))) 22, .d .i, .d .i, .d .i, .fn [(.l (.p .b (.l .u))), (.l (.p .b (.l .u)))] [.i]], [.own (.l (.p .b (.l .u))) 22], fun x => M_slices_pdqsortCmpFunc_api_Int_io fu x.1 x.2.1 x.2.2.1 x.2.2.2.1 (fun z0 z1 => x.2.2.2.2.1 (z0, z1, ())), 1⟩
theorem g_slices_pdqsortCmpFunc_api_Int_io : ∀ fu : Nat, SigOK Tryz.prog (s_slices_pdqsortCmpFunc_api_Int_io fu)
  | 0 => sg0 (by kernel_rfl) fun _ => rfl
  | fu + 1 => sgb (fu := fu) ⟨[], [], [(2, ⟨⟨[(1, .d .i), (2, .d .i), (3, .d .i), (0, .own (.l (.p .b (.l .u))) 22)], [(10, .kb true), (11, .kb true)]⟩, ⟨[], [(.r, ⟨[(0, .own (.l (.p .b (.l .u))) 22)], []⟩)]⟩⟩)], [], [], [], []⟩ Tryz.func201 (cC (g_slices_pdqsortCmpFunc_api_Int_io fu) <| cC (g_slices_insertionSortCmpFunc_api_Int_io fu) <| cN) (by kernel_rfl) fun pn x => by kernel_rfl
def s_slices_SortFunc_api_Int_api_Int_io (fu : Nat) : Sig := ⟨127, [.own (.l (.p .b (.l .u))) 22, .fn [(.l (.p .b (.l .u))), (.l (.p .b (.l .u)))] [.i]], [.own (.l (.p .b (.l .u))) 22], fun x => M_slices_SortFunc_api_Int_api_Int_io fu x.1 (fun z0 z1 => x.2.1 (z0, z1, ())), 1⟩
theorem g_slices_SortFunc_api_Int_api_Int_io (fu : Nat) : SigOK Tryz.prog (s_slices_SortFunc_api_Int_api_Int_io fu) := sgb (fu := fu) ⟨[], [], [], [], [], [], []⟩ Tryz.func127 (cC (g_slices_pdqsortCmpFunc_api_Int_io fu) <| cC (g_math_bits_Len fu) <| cN) (by kernel_rfl) fun pn x => by kernel_rfl
def s_zfac_split (fu : Nat) : Sig := ⟨60, [.d (.l (.p .b (.l .u))), .d (.l .i)], [.own (.l (.p .b (.l .u))) 22, .d .b], fun x => M_zfac_split fu x.1 x.2.1, 0⟩
theorem g_zfac_split (fu : Nat) : SigOK Tryz.prog (s_zfac_split fu) := sg (fu := fu) ⟨[], [], [], [], [], [], []⟩ Tryz.func60 (cC (g_zfac_compare fu) <| cC (g_zfac_great fu) <| cC (g_zfac_local fu) <| cC (g_zfac_enough fu) <| cC (g_hensel_Power fu) <| cC (g_zfac_sought fu) <| cC (g_hensel_Lift fu) <| cC (g_zfac_chosen fu) <| cC (g_slices_SortFunc_api_Int_api_Int_io fu) <| cN) (by kernel_rfl) fun x => by kernel_rfl
def s_zgcd_power (fu : Nat) : Sig := ⟨161, [.d (.p .b (.l .u)), .d .i], [.d (.p .b (.l .u))], fun x => M_zgcd_power fu x.1 x.2.1, 0⟩
theorem g_zgcd_power (fu : Nat) : SigOK Tryz.prog (s_zgcd_power fu) := sg (fu := fu) ⟨[], [], [(3, ⟨⟨[(8, .d .i), (5, .var (.p .b (.l .u)) 30)], []⟩, ⟨[4], [(.x 0, ⟨[(5, .var (.p .b (.l .u)) 30)], []⟩)]⟩⟩)], [], [], [], []⟩ Tryz.func161 (cC (g_zint_Of fu) <| cC (g_zint_Mul fu) <| cN) (by kernel_rfl) fun x => by kernel_rfl
def s_zgcd_Pseudo (fu : Nat) : Sig := ⟨179, [.d (.l (.p .b (.l .u))), .d (.l (.p .b (.l .u)))], [.own (.p .b (.l .u)) 30, .own (.p .b (.l .u)) 30, .d .i], fun x => M_zgcd_Pseudo fu x.1 x.2.1, 0⟩
theorem g_zgcd_Pseudo (fu : Nat) : SigOK Tryz.prog (s_zgcd_Pseudo fu) := sg (fu := fu) ⟨[], [], [(9, ⟨⟨[(1, .d (.l (.p .b (.l .u)))), (9, .own (.p .b (.l .u)) 30), (11, .d .i), (10, .own (.p .b (.l .u)) 30)], []⟩, ⟨[8], [(.x 0, ⟨[(9, .own (.p .b (.l .u)) 30), (10, .own (.p .b (.l .u)) 30)], []⟩)]⟩⟩)], [(12, []), (13, [1])], [], [], []⟩ Tryz.func179 (cC (g_zgcd_power fu) <| cC (g_zint_Exact fu) <| cC (g_zpoly_Scale fu) <| cC (g_zpoly_Norm fu) <| cC (g_zpoly_Sub fu) <| cN) (by kernel_rfl) fun x => by kernel_rfl
def s_zgcd_Gcd (fu : Nat) : Sig := ⟨118, [.d (.l (.p .b (.l .u))), .d (.l (.p .b (.l .u)))], [.own (.p .b (.l .u)) 30], fun x => M_zgcd_Gcd fu x.1 x.2.1, 0⟩
theorem g_zgcd_Gcd (fu : Nat) : SigOK Tryz.prog (s_zgcd_Gcd fu) := sg (fu := fu) ⟨[], [], [(3, ⟨⟨[(6, .d (.l (.p .b (.l .u)))), (7, .own (.p .b (.l .u)) 30)], []⟩, ⟨[5], [(.x 0, ⟨[(6, .d (.l (.p .b (.l .u))))], []⟩)]⟩⟩)], [], [], [], []⟩ Tryz.func118 (cC (g_zint_Gcd fu) <| cC (g_zgcd_Pseudo fu) <| cC (g_zpoly_Scale fu) <| cC (g_zpoly_Prim fu) <| cC (g_zpoly_Content fu) <| cN) (by kernel_rfl) fun x => by kernel_rfl
def s_zpoly_Deriv_1 (fu : Nat) : Sig := ⟨181, [.d .i, .d (.p .b (.l .u))], [.d (.p .b (.l .u))], fun x => M_zpoly_Deriv_1 fu x.1 x.2.1, 0⟩
theorem g_zpoly_Deriv_1 (fu : Nat) : SigOK Tryz.prog (s_zpoly_Deriv_1 fu) := sg (fu := fu) ⟨[], [], [], [], [], [], []⟩ Tryz.func181 (cC (g_zint_Of fu) <| cC (g_zint_Mul fu) <| cN) (by kernel_rfl) fun x => by kernel_rfl
def s_zpoly_Deriv (fu : Nat) : Sig := ⟨119, [.d (.l (.p .b (.l .u)))], [.own (.p .b (.l .u)) 30], fun x => M_zpoly_Deriv fu x.1, 0⟩
theorem g_zpoly_Deriv (fu : Nat) : SigOK Tryz.prog (s_zpoly_Deriv fu) := sg (fu := fu) ⟨[], [], [], [], [], [], []⟩ Tryz.func119 (cC (g_zpoly_Norm fu) <| cC (g_zpoly_Deriv_1 fu) <| cC (g_zpoly_each_api_Int_api_Int fu) <| cN) (by kernel_rfl) fun x => by kernel_rfl
def s_zsqf_by (fu : Nat) : Sig := ⟨117, [.d (.l (.p .b (.l .u))), .d (.l (.p .b (.l .u)))], [.own (.p .b (.l .u)) 30], fun x => M_zsqf_by fu x.1 x.2.1, 0⟩
theorem g_zsqf_by (fu : Nat) : SigOK Tryz.prog (s_zsqf_by fu) := sg (fu := fu) ⟨[], [], [], [], [], [], []⟩ Tryz.func117 (cC (g_zpoly_Div fu) <| cN) (by kernel_rfl) fun x => by kernel_rfl
def s_zsqf_Radical (fu : Nat) : Sig := ⟨59, [.d (.l (.p .b (.l .u)))], [.own (.p .b (.l .u)) 30, .d .i], fun x => M_zsqf_Radical fu x.1, 0⟩
theorem g_zsqf_Radical (fu : Nat) : SigOK Tryz.prog (s_zsqf_Radical fu) := sg (fu := fu) ⟨[], [], [], [], [], [], []⟩ Tryz.func59 (cC (g_zsqf_wrong fu) <| cC (g_zsqf_by fu) <| cC (g_zgcd_Gcd fu) <| cC (g_zpoly_Deriv fu) <| cC (g_zpoly_Prim fu) <| cN) (by kernel_rfl) fun x => by kernel_rfl
def s_zfac_Factors (fu : Nat) : Sig := ⟨15, [.d (.l (.p .b (.l .u))), .d (.l .i)], [.d (.p .b (.l .u)), .own (.p (.l (.p .b (.l .u))) .i) 42, .d .i], fun x => M_zfac_Factors fu x.1 x.2.1, 0⟩
theorem g_zfac_Factors (fu : Nat) : SigOK Tryz.prog (s_zfac_Factors fu) := sg (fu := fu) ⟨[], [(655371, ⟨[4, 11, 32], [(.n, ⟨[(0, .d (.l (.p .b (.l .u)))), (33, .d .i), (35, .d .b)], []⟩)]⟩)], [(9, ⟨⟨[(11, .own (.p (.l (.p .b (.l .u))) .i) 42), (34, .d .i), (4, .var (.p .b (.l .u)) 30), (32, .own (.l (.p .b (.l .u))) 22)], []⟩, ⟨[], [(.x 0, ⟨[(11, .own (.p (.l (.p .b (.l .u))) .i) 42), (4, .var (.p .b (.l .u)) 30)], []⟩)]⟩⟩)], [], [], [], []⟩ Tryz.func15 (cC (g_zsqf_Radical fu) <| cC (g_zfac_split fu) <| cC (g_zfac_often fu) <| cC (g_zpoly_Content fu) <| cN) (by kernel_rfl) fun x => by kernel_rfl
def s_zfac_Irreducible (fu : Nat) : Sig := ⟨16, [.d (.l (.p .b (.l .u)))], [.d .b, .d .i], fun x => M_zfac_Irreducible fu x.1, 0⟩
theorem g_zfac_Irreducible (fu : Nat) : SigOK Tryz.prog (s_zfac_Irreducible fu) := sg (fu := fu) ⟨[], [], [], [], [], [], []⟩ Tryz.func16 (cC (g_zfac_Factors fu) <| cN) (by kernel_rfl) fun x => by kernel_rfl
def s_field_New (fu : Nat) : Sig := ⟨84, [.d (.l (.p .b (.l .u)))], [.d (.po (.w1 (.p (.l (.p .b (.l .u))) (.l (.p (.p .b (.l .u)) (.l .u)))))), .d .i], fun x => M_field_New fu x.1, 0⟩
theorem g_field_New (fu : Nat) : SigOK Tryz.prog (s_field_New fu) := sg (fu := fu) ⟨[], [(917519, ⟨[6], [(.n, ⟨[(0, .d (.l (.p .b (.l .u)))), (32, .d (.l (.p .b (.l .u)))), (33, .d .i), (35, .d .b)], []⟩)]⟩)], [(13, ⟨⟨[(34, .d .i), (6, .vr (.p (.l (.p .b (.l .u))) (.l (.p (.p .b (.l .u)) (.l .u)))) 63 (.p (.p .b (.l .u)) (.l .u)) 78 2 1)], []⟩, ⟨[], [(.x 1, ⟨[(6, .vr (.p (.l (.p .b (.l .u))) (.l (.p (.p .b (.l .u)) (.l .u)))) 63 (.p (.p .b (.l .u)) (.l .u)) 78 2 1)], []⟩)]⟩⟩)], [(15, [])], [], [], [(6, 1, 78), (31, 1, 78)]⟩ Tryz.func84 (cC (g_zfac_Irreducible fu) <| cC (g_rat_Make fu) <| cC (g_zpoly_Prim fu) <| cN) (by kernel_rfl) fun x => by kernel_rfl
def s_field_Field_bad (fu : Nat) : Sig := ⟨96, [.d (.po (.w1 (.p (.l (.p .b (.l .u))) (.l (.p (.p .b (.l .u)) (.l .u))))))], [.d .b], fun x => M_field_Field_bad fu x.1, 0⟩
theorem g_field_Field_bad (fu : Nat) : SigOK Tryz.prog (s_field_Field_bad fu) := sg (fu := fu) ⟨[], [], [], [], [], [], []⟩ Tryz.func96 (cN) (by kernel_rfl) fun x => by kernel_rfl
def s_rat_Of (fu : Nat) : Sig := ⟨85, [.d .i], [.d (.p (.p .b (.l .u)) (.l .u))], fun x => M_rat_Of fu x.1, 0⟩
theorem g_rat_Of (fu : Nat) : SigOK Tryz.prog (s_rat_Of fu) := sg (fu := fu) ⟨[], [], [], [], [], [], []⟩ Tryz.func85 (cC (g_zint_Of fu) <| cN) (by kernel_rfl) fun x => by kernel_rfl
def s_rat_den (fu : Nat) : Sig := ⟨156, [.d (.p (.p .b (.l .u)) (.l .u))], [.d (.p .b (.l .u))], fun x => M_rat_den fu x.1, 0⟩
theorem g_rat_den (fu : Nat) : SigOK Tryz.prog (s_rat_den fu) := sg (fu := fu) ⟨[], [], [], [], [], [], []⟩ Tryz.func156 (cC (g_zint_Norm fu) <| cN) (by kernel_rfl) fun x => by kernel_rfl
def s_rat_Norm (fu : Nat) : Sig := ⟨150, [.d (.p (.p .b (.l .u)) (.l .u))], [.d (.p (.p .b (.l .u)) (.l .u))], fun x => M_rat_Norm fu x.1, 0⟩
theorem g_rat_Norm (fu : Nat) : SigOK Tryz.prog (s_rat_Norm fu) := sg (fu := fu) ⟨[], [], [], [(1, [])], [], [], []⟩ Tryz.func150 (cC (g_rat_Make fu) <| cC (g_rat_den fu) <| cC (g_rat_Of fu) <| cN) (by kernel_rfl) fun x => by kernel_rfl
def s_rat_Mul (fu : Nat) : Sig := ⟨152, [.d (.p (.p .b (.l .u)) (.l .u)), .d (.p (.p .b (.l .u)) (.l .u))], [.d (.p (.p .b (.l .u)) (.l .u))], fun x => M_rat_Mul fu x.1 x.2.1, 0⟩
theorem g_rat_Mul (fu : Nat) : SigOK Tryz.prog (s_rat_Mul fu) := sg (fu := fu) ⟨[2, 3], [], [], [], [], [], []⟩ Tryz.func152 (cC (g_zint_Mul fu) <| cC (g_nat_Mul fu) <| cC (g_rat_Norm fu) <| cN) (by kernel_rfl) fun x => by kernel_rfl
def s_rat_Sign (fu : Nat) : Sig := ⟨153, [.d (.p (.p .b (.l .u)) (.l .u))], [.d .i], fun x => M_rat_Sign fu x.1, 0⟩
theorem g_rat_Sign (fu : Nat) : SigOK Tryz.prog (s_rat_Sign fu) := sg (fu := fu) ⟨[], [], [], [], [], [], []⟩ Tryz.func153 (cC (g_zint_Sign fu) <| cC (g_rat_Norm fu) <| cN) (by kernel_rfl) fun x => by kernel_rfl
def s_rat_crossed (fu : Nat) : Sig := ⟨299, [.d (.p (.p .b (.l .u)) (.l .u)), .d (.p (.p .b (.l .u)) (.l .u)), .fn [(.p .b (.l .u)), (.p .b (.l .u))] [(.p .b (.l .u))]], [.d (.p (.p .b (.l .u)) (.l .u))], fun x => M_rat_crossed fu x.1 x.2.1 (fun z0 z1 => x.2.2.1 (z0, z1, ())), 0⟩
theorem g_rat_crossed (fu : Nat) : SigOK Tryz.prog (s_rat_crossed fu) := sg (fu := fu) ⟨[3, 4], [], [], [(2, [])], [], [], []⟩ Tryz.func299 (cC (g_zint_Mul fu) <| cC (g_nat_Mul fu) <| cC (g_rat_den fu) <| cC (g_rat_Norm fu) <| cN) (by kernel_rfl) fun x => by kernel_rfl
def s_rat_joined_1 (fu : Nat) : Sig := ⟨300, [.d (.p .b (.l .u)), .d (.p .b (.l .u)), .q .b], [.d (.p .b (.l .u))], fun x => M_rat_joined_1 fu x.1 x.2.1 x.2.2.1, 0⟩
theorem g_rat_joined_1 (fu : Nat) : SigOK Tryz.prog (s_rat_joined_1 fu) := sg (fu := fu) ⟨[], [], [], [], [], [], []⟩ Tryz.func300 (cC (g_zint_Sub fu) <| cC (g_zint_Add fu) <| cN) (by kernel_rfl) fun x => by kernel_rfl
def s_rat_joined (fu : Nat) : Sig := ⟨224, [.d (.p (.p .b (.l .u)) (.l .u)), .d (.p (.p .b (.l .u)) (.l .u)), .d .b], [.d (.p (.p .b (.l .u)) (.l .u))], fun x => M_rat_joined fu x.1 x.2.1 x.2.2.1, 0⟩
theorem g_rat_joined (fu : Nat) : SigOK Tryz.prog (s_rat_joined fu) := sg (fu := fu) ⟨[], [], [], [], [], [], []⟩ Tryz.func224 (cC (g_rat_crossed fu) <| cC (g_rat_joined_1 fu) <| cN) (by kernel_rfl) fun x => by kernel_rfl
def s_rat_Sub (fu : Nat) : Sig := ⟨151, [.d (.p (.p .b (.l .u)) (.l .u)), .d (.p (.p .b (.l .u)) (.l .u))], [.d (.p (.p .b (.l .u)) (.l .u))], fun x => M_rat_Sub fu x.1 x.2.1, 0⟩
theorem g_rat_Sub (fu : Nat) : SigOK Tryz.prog (s_rat_Sub fu) := sg (fu := fu) ⟨[], [], [], [], [], [], []⟩ Tryz.func151 (cC (g_rat_joined fu) <| cN) (by kernel_rfl) fun x => by kernel_rfl
def s_field_root_red (fu : Nat) : Sig := ⟨97, [.d (.p (.l (.p .b (.l .u))) (.l (.p (.p .b (.l .u)) (.l .u)))), .d (.l (.p (.p .b (.l .u)) (.l .u)))], [.own (.p (.p .b (.l .u)) (.l .u)) 78], fun x => M_field_root_red fu x.1 x.2.1, 0⟩
theorem g_field_root_red (fu : Nat) : SigOK Tryz.prog (s_field_root_red fu) := sg (fu := fu) ⟨[], [(262149, ⟨[5], [(.n, ⟨[(2, .q (.p (.l (.p .b (.l .u))) (.l (.p (.p .b (.l .u)) (.l .u))))), (15, .d (.l (.p (.p .b (.l .u)) (.l .u)))), (16, .d .i), (18, .d .b)], []⟩)]⟩), (851982, ⟨[5, 10], [(.n, ⟨[(2, .q (.p (.l (.p .b (.l .u))) (.l (.p (.p .b (.l .u)) (.l .u))))), (8, .d .i), (45, .d .b)], []⟩)]⟩), (983056, ⟨[5, 10], [(.n, ⟨[(2, .q (.p (.l (.p .b (.l .u))) (.l (.p (.p .b (.l .u)) (.l .u))))), (8, .d .i), (9, .d .i), (46, .d .i), (48, .d .b)], []⟩)]⟩)], [(3, ⟨⟨[(17, .d .i), (5, .own (.p (.p .b (.l .u)) (.l .u)) 78)], []⟩, ⟨[], [(.x 0, ⟨[(5, .own (.p (.p .b (.l .u)) (.l .u)) 78)], []⟩)]⟩⟩), (9, ⟨⟨[(5, .own (.p (.p .b (.l .u)) (.l .u)) 78), (9, .d .i)], []⟩, ⟨[], [(.x 2, ⟨[(5, .own (.p (.p .b (.l .u)) (.l .u)) 78)], []⟩), (.r, ⟨[(4, .own (.p (.p .b (.l .u)) (.l .u)) 78)], []⟩)]⟩⟩), (14, ⟨⟨[(47, .d .i), (5, .own (.p (.p .b (.l .u)) (.l .u)) 78), (10, .var (.p (.p .b (.l .u)) (.l .u)) 78)], []⟩, ⟨[], [(.x 4, ⟨[(5, .own (.p (.p .b (.l .u)) (.l .u)) 78)], []⟩)]⟩⟩)], [], [], [], []⟩ Tryz.func97 (cC (g_rat_Mul fu) <| cC (g_rat_Sign fu) <| cC (g_rat_Norm fu) <| cC (g_rat_Sub fu) <| cN) (by kernel_rfl) fun x => by kernel_rfl
def s_rat_Add (fu : Nat) : Sig := ⟨154, [.d (.p (.p .b (.l .u)) (.l .u)), .d (.p (.p .b (.l .u)) (.l .u))], [.d (.p (.p .b (.l .u)) (.l .u))], fun x => M_rat_Add fu x.1 x.2.1, 0⟩
theorem g_rat_Add (fu : Nat) : SigOK Tryz.prog (s_rat_Add fu) := sg (fu := fu) ⟨[], [], [], [], [], [], []⟩ Tryz.func154 (cC (g_rat_joined fu) <| cN) (by kernel_rfl) fun x => by kernel_rfl
def s_field_root_product (fu : Nat) : Sig := ⟨99, [.d (.p (.l (.p .b (.l .u))) (.l (.p (.p .b (.l .u)) (.l .u)))), .d (.l (.p (.p .b (.l .u)) (.l .u))), .d (.l (.p (.p .b (.l .u)) (.l .u)))], [.own (.p (.p .b (.l .u)) (.l .u)) 78], fun x => M_field_root_product fu x.1 x.2.1 x.2.2.1, 0⟩
theorem g_field_root_product (fu : Nat) : SigOK Tryz.prog (s_field_root_product fu) := sg (fu := fu) ⟨[], [(327686, ⟨[2, 7], [(.n, ⟨[(3, .q (.p (.l (.p .b (.l .u))) (.l (.p (.p .b (.l .u)) (.l .u))))), (24, .d (.l (.p (.p .b (.l .u)) (.l .u)))), (25, .d .i), (27, .d .b)], []⟩)]⟩), (524297, ⟨[2, 7, 9], [(.n, ⟨[(3, .q (.p (.l (.p .b (.l .u))) (.l (.p (.p .b (.l .u)) (.l .u))))), (8, .d .i), (24, .d (.l (.p (.p .b (.l .u)) (.l .u)))), (25, .d .i), (26, .d .i), (32, .d .i), (34, .d .b)], []⟩)]⟩)], [(4, ⟨⟨[(26, .d .i), (2, .own (.p (.p .b (.l .u)) (.l .u)) 78), (7, .own (.p (.p .b (.l .u)) (.l .u)) 78)], []⟩, ⟨[], [(.x 0, ⟨[(7, .own (.p (.p .b (.l .u)) (.l .u)) 78)], []⟩)]⟩⟩), (7, ⟨⟨[(33, .d .i), (2, .own (.p (.p .b (.l .u)) (.l .u)) 78), (7, .own (.p (.p .b (.l .u)) (.l .u)) 78), (9, .var (.p (.p .b (.l .u)) (.l .u)) 78)], [(31, .al 2)]⟩, ⟨[], [(.x 2, ⟨[(2, .own (.p (.p .b (.l .u)) (.l .u)) 78), (7, .own (.p (.p .b (.l .u)) (.l .u)) 78)], []⟩)]⟩⟩)], [], [], [], []⟩ Tryz.func99 (cC (g_rat_Mul fu) <| cC (g_field_root_red fu) <| cC (g_rat_Add fu) <| cN) (by kernel_rfl) fun x => by kernel_rfl
def s_field_root_sum (fu : Nat) : Sig := ⟨98, [.d (.p (.l (.p .b (.l .u))) (.l (.p (.p .b (.l .u)) (.l .u)))), .d (.l (.p (.p .b (.l .u)) (.l .u))), .d (.l (.p (.p .b (.l .u)) (.l .u))), .d .i], [.own (.p (.p .b (.l .u)) (.l .u)) 78], fun x => M_field_root_sum fu x.1 x.2.1 x.2.2.1 x.2.2.2.1, 0⟩
theorem g_field_root_sum (fu : Nat) : SigOK Tryz.prog (s_field_root_sum fu) := sg (fu := fu) ⟨[], [(327686, ⟨[9], [(.n, ⟨[(3, .d .i), (4, .q (.p (.l (.p .b (.l .u))) (.l (.p (.p .b (.l .u)) (.l .u))))), (21, .d (.l (.p (.p .b (.l .u)) (.l .u)))), (22, .d .i), (24, .d .b)], []⟩)]⟩)], [(4, ⟨⟨[(23, .d .i), (9, .own (.p (.p .b (.l .u)) (.l .u)) 78)], []⟩, ⟨[], [(.x 0, ⟨[(9, .own (.p (.p .b (.l .u)) (.l .u)) 78)], []⟩)]⟩⟩)], [], [], [], []⟩ Tryz.func98 (cC (g_rat_Mul fu) <| cC (g_field_root_red fu) <| cC (g_rat_Add fu) <| cC (g_rat_Of fu) <| cN) (by kernel_rfl) fun x => by kernel_rfl
def s_field_trim (fu : Nat) : Sig := ⟨155, [.d (.l (.p (.p .b (.l .u)) (.l .u)))], [.d (.l (.p (.p .b (.l .u)) (.l .u)))], fun x => M_field_trim fu x.1, 0⟩
theorem g_field_trim (fu : Nat) : SigOK Tryz.prog (s_field_trim fu) := sg (fu := fu) ⟨[], [], [(1, ⟨⟨[(0, .d (.l (.p (.p .b (.l .u)) (.l .u))))], []⟩, ⟨[], [(.x 0, ⟨[(0, .d (.l (.p (.p .b (.l .u)) (.l .u))))], []⟩)]⟩⟩)], [], [], [], []⟩ Tryz.func155 (cC (g_rat_Sign fu) <| cN) (by kernel_rfl) fun x => by kernel_rfl
def s_rat_Div (fu : Nat) : Sig := ⟨101, [.d (.p (.p .b (.l .u)) (.l .u)), .d (.p (.p .b (.l .u)) (.l .u))], [.d (.p (.p .b (.l .u)) (.l .u)), .d .i], fun x => M_rat_Div fu x.1 x.2.1, 0⟩
theorem g_rat_Div (fu : Nat) : SigOK Tryz.prog (s_rat_Div fu) := sg (fu := fu) ⟨[2, 3], [], [], [], [], [], []⟩ Tryz.func101 (cC (g_zint_Mul fu) <| cC (g_rat_den fu) <| cC (g_rat_Norm fu) <| cC (g_rat_Make fu) <| cN) (by kernel_rfl) fun x => by kernel_rfl
def s_field_quotient (fu : Nat) : Sig := ⟨100, [.d (.l (.p (.p .b (.l .u)) (.l .u))), .d (.l (.p (.p .b (.l .u)) (.l .u)))], [.d (.l (.p (.p .b (.l .u)) (.l .u))), .d (.l (.p (.p .b (.l .u)) (.l .u)))], fun x => M_field_quotient fu x.1 x.2.1, 0⟩
theorem g_field_quotient (fu : Nat) : SigOK Tryz.prog (s_field_quotient fu) := sg (fu := fu) ⟨[], [(589834, ⟨[6, 7], [(.n, ⟨[(8, .d .i), (50, .d (.l (.p (.p .b (.l .u)) (.l .u)))), (51, .d .i), (53, .d .b)], []⟩)]⟩)], [(4, ⟨⟨[(8, .d .i), (6, .own (.p (.p .b (.l .u)) (.l .u)) 78), (7, .own (.p (.p .b (.l .u)) (.l .u)) 78)], []⟩, ⟨[], [(.x 0, ⟨[(6, .own (.p (.p .b (.l .u)) (.l .u)) 78), (7, .own (.p (.p .b (.l .u)) (.l .u)) 78)], []⟩)]⟩⟩), (8, ⟨⟨[(1, .d (.l (.p (.p .b (.l .u)) (.l .u)))), (52, .d .i), (6, .own (.p (.p .b (.l .u)) (.l .u)) 78), (7, .own (.p (.p .b (.l .u)) (.l .u)) 78)], []⟩, ⟨[], [(.x 2, ⟨[(1, .d (.l (.p (.p .b (.l .u)) (.l .u)))), (6, .own (.p (.p .b (.l .u)) (.l .u)) 78), (7, .own (.p (.p .b (.l .u)) (.l .u)) 78)], []⟩)]⟩⟩)], [(6, [])], [], [], []⟩ Tryz.func100 (cC (g_rat_Mul fu) <| cC (g_field_trim fu) <| cC (g_rat_Div fu) <| cC (g_rat_Sub fu) <| cN) (by kernel_rfl) fun x => by kernel_rfl
def s_field_Field_Inv (fu : Nat) : Sig := ⟨46, [.d (.po (.w1 (.p (.l (.p .b (.l .u))) (.l (.p (.p .b (.l .u)) (.l .u)))))), .d (.l (.p (.p .b (.l .u)) (.l .u)))], [.own (.p (.p .b (.l .u)) (.l .u)) 78, .d .i], fun x => M_field_Field_Inv fu x.1 x.2.1, 0⟩
theorem g_field_Field_Inv (fu : Nat) : SigOK Tryz.prog (s_field_Field_Inv fu) := sg (fu := fu) ⟨[], [], [(8, ⟨⟨[(6, .d (.l (.p (.p .b (.l .u)) (.l .u)))), (7, .d (.l (.p (.p .b (.l .u)) (.l .u)))), (8, .d (.l (.p (.p .b (.l .u)) (.l .u)))), (9, .d (.l (.p (.p .b (.l .u)) (.l .u))))], []⟩, ⟨[], [(.x 0, ⟨[(7, .d (.l (.p (.p .b (.l .u)) (.l .u)))), (9, .d (.l (.p (.p .b (.l .u)) (.l .u))))], []⟩)]⟩⟩)], [(11, [])], [], [], []⟩ Tryz.func46 (cC (g_field_Field_bad fu) <| cC (g_field_root_red fu) <| cC (g_field_root_sum fu) <| cC (g_field_root_product fu) <| cC (g_field_quotient fu) <| cC (g_rat_Div fu) <| cC (g_rat_Of fu) <| cN) (by kernel_rfl) fun x => by kernel_rfl
def s_field_Field_Mul (fu : Nat) : Sig := ⟨45, [.d (.po (.w1 (.p (.l (.p .b (.l .u))) (.l (.p (.p .b (.l .u)) (.l .u)))))), .d (.l (.p (.p .b (.l .u)) (.l .u))), .d (.l (.p (.p .b (.l .u)) (.l .u)))], [.own (.p (.p .b (.l .u)) (.l .u)) 78, .d .i], fun x => M_field_Field_Mul fu x.1 x.2.1 x.2.2.1, 0⟩
theorem g_field_Field_Mul (fu : Nat) : SigOK Tryz.prog (s_field_Field_Mul fu) := sg (fu := fu) ⟨[], [], [], [], [], [], []⟩ Tryz.func45 (cC (g_field_Field_bad fu) <| cC (g_field_root_product fu) <| cN) (by kernel_rfl) fun x => by kernel_rfl
def s_field_Field_Sub (fu : Nat) : Sig := ⟨44, [.d (.po (.w1 (.p (.l (.p .b (.l .u))) (.l (.p (.p .b (.l .u)) (.l .u)))))), .d (.l (.p (.p .b (.l .u)) (.l .u))), .d (.l (.p (.p .b (.l .u)) (.l .u)))], [.own (.p (.p .b (.l .u)) (.l .u)) 78, .d .i], fun x => M_field_Field_Sub fu x.1 x.2.1 x.2.2.1, 0⟩
theorem g_field_Field_Sub (fu : Nat) : SigOK Tryz.prog (s_field_Field_Sub fu) := sg (fu := fu) ⟨[], [], [], [], [], [], []⟩ Tryz.func44 (cC (g_field_Field_bad fu) <| cC (g_field_root_sum fu) <| cN) (by kernel_rfl) fun x => by kernel_rfl
def s_field_Field_Red (fu : Nat) : Sig := ⟨42, [.d (.po (.w1 (.p (.l (.p .b (.l .u))) (.l (.p (.p .b (.l .u)) (.l .u)))))), .d (.l (.p (.p .b (.l .u)) (.l .u)))], [.own (.p (.p .b (.l .u)) (.l .u)) 78, .d .i], fun x => M_field_Field_Red fu x.1 x.2.1, 0⟩
theorem g_field_Field_Red (fu : Nat) : SigOK Tryz.prog (s_field_Field_Red fu) := sg (fu := fu) ⟨[], [], [], [], [], [], []⟩ Tryz.func42 (cC (g_field_Field_bad fu) <| cC (g_field_root_red fu) <| cN) (by kernel_rfl) fun x => by kernel_rfl
def s_npoly_sure (fu : Nat) : PSig := ⟨⟨93, [.d (.l (.p (.p .b (.l .u)) (.l .u))), .d .i], [.d (.l (.p (.p .b (.l .u)) (.l .u)))], fun _ => none, 0⟩, fun x => M_npoly_sure fu x.1 x.2.1⟩
theorem g_npoly_sure (fu : Nat) : POK Tryz.prog (s_npoly_sure fu) := sgp (fu := fu) ⟨[], [], [], [], [], [], []⟩ Tryz.func93 (cN) (pN) (by kernel_rfl) fun x => by kernel_rfl
def s_npoly_over_plain (fu : Nat) : PSig := ⟨⟨88, [.d (.w1 (.po (.w1 (.p (.l (.p .b (.l .u))) (.l (.p (.p .b (.l .u)) (.l .u))))))), .d (.l (.l (.p (.p .b (.l .u)) (.l .u))))], [.own (.l (.p (.p .b (.l .u)) (.l .u))) 60], fun _ => none, 0⟩, fun x => M_npoly_over_plain fu x.1 x.2.1⟩
theorem g_npoly_over_plain (fu : Nat) : POK Tryz.prog (s_npoly_over_plain fu) := sgp (fu := fu) ⟨[], [(327686, ⟨[5], [(.n, ⟨[(2, .q (.w1 (.po (.w1 (.p (.l (.p .b (.l .u))) (.l (.p (.p .b (.l .u)) (.l .u)))))))), (17, .d (.l (.l (.p (.p .b (.l .u)) (.l .u))))), (18, .d .i), (20, .d .b)], []⟩)]⟩)], [(4, ⟨⟨[(19, .d .i), (5, .own (.l (.p (.p .b (.l .u)) (.l .u))) 60)], []⟩, ⟨[], [(.x 0, ⟨[(5, .own (.l (.p (.p .b (.l .u)) (.l .u))) 60)], []⟩), (.p (0, 0), ⟨[], []⟩)]⟩⟩), (8, ⟨⟨[(5, .own (.l (.p (.p .b (.l .u)) (.l .u))) 60)], []⟩, ⟨[], [(.x 2, ⟨[(5, .own (.l (.p (.p .b (.l .u)) (.l .u))) 60)], []⟩)]⟩⟩)], [], [], [], []⟩ Tryz.func88 (cC (g_field_Field_Red fu) <| cN) (pC (g_npoly_sure fu) <| pN) (by kernel_rfl) fun x => by kernel_rfl
def s_npoly_over_divided (fu : Nat) : PSig := ⟨⟨91, [.d (.w1 (.po (.w1 (.p (.l (.p .b (.l .u))) (.l (.p (.p .b (.l .u)) (.l .u))))))), .d (.l (.l (.p (.p .b (.l .u)) (.l .u)))), .d (.l (.l (.p (.p .b (.l .u)) (.l .u))))], [.own (.l (.p (.p .b (.l .u)) (.l .u))) 60, .own (.l (.p (.p .b (.l .u)) (.l .u))) 60], fun _ => none, 0⟩, fun x => M_npoly_over_divided fu x.1 x.2.1 x.2.2.1⟩
theorem g_npoly_over_divided (fu : Nat) : POK Tryz.prog (s_npoly_over_divided fu) := sgp (fu := fu) ⟨[], [(786445, ⟨[2, 8, 10], [(.n, ⟨[(11, .d .i), (71, .d .i), (73, .d .b)], []⟩)]⟩)], [(7, ⟨⟨[(11, .d .i), (2, .own (.l (.p (.p .b (.l .u)) (.l .u))) 60), (8, .own (.l (.p (.p .b (.l .u)) (.l .u))) 60), (10, .own (.l (.p (.p .b (.l .u)) (.l .u))) 60)], []⟩, ⟨[], [(.x 0, ⟨[(8, .own (.l (.p (.p .b (.l .u)) (.l .u))) 60), (10, .own (.l (.p (.p .b (.l .u)) (.l .u))) 60)], []⟩), (.p (0, 0), ⟨[], []⟩)]⟩⟩), (11, ⟨⟨[(3, .q (.w1 (.po (.w1 (.p (.l (.p .b (.l .u))) (.l (.p (.p .b (.l .u)) (.l .u)))))))), (9, .d (.l (.p (.p .b (.l .u)) (.l .u)))), (72, .d .i), (2, .own (.l (.p (.p .b (.l .u)) (.l .u))) 60), (8, .own (.l (.p (.p .b (.l .u)) (.l .u))) 60), (10, .own (.l (.p (.p .b (.l .u)) (.l .u))) 60)], [(70, .al 2)]⟩, ⟨[], [(.x 2, ⟨[(3, .q (.w1 (.po (.w1 (.p (.l (.p .b (.l .u))) (.l (.p (.p .b (.l .u)) (.l .u)))))))), (9, .d (.l (.p (.p .b (.l .u)) (.l .u)))), (2, .own (.l (.p (.p .b (.l .u)) (.l .u))) 60), (8, .own (.l (.p (.p .b (.l .u)) (.l .u))) 60), (10, .own (.l (.p (.p .b (.l .u)) (.l .u))) 60)], []⟩), (.p (0, 0), ⟨[], []⟩)]⟩⟩)], [(1, []), (9, [65]), (13, [96, 100]), (15, [10])], [], [], []⟩ Tryz.func91 (cC (g_field_Field_Sub fu) <| cC (g_field_Field_Mul fu) <| cC (g_field_Field_Inv fu) <| cN) (pC (g_npoly_over_plain fu) <| pC (g_npoly_sure fu) <| pN) (by kernel_rfl) fun x => by kernel_rfl
def s_field_Field_Add (fu : Nat) : Sig := ⟨43, [.d (.po (.w1 (.p (.l (.p .b (.l .u))) (.l (.p (.p .b (.l .u)) (.l .u)))))), .d (.l (.p (.p .b (.l .u)) (.l .u))), .d (.l (.p (.p .b (.l .u)) (.l .u)))], [.own (.p (.p .b (.l .u)) (.l .u)) 78, .d .i], fun x => M_field_Field_Add fu x.1 x.2.1 x.2.2.1, 0⟩
theorem g_field_Field_Add (fu : Nat) : SigOK Tryz.prog (s_field_Field_Add fu) := sg (fu := fu) ⟨[], [], [], [], [], [], []⟩ Tryz.func43 (cC (g_field_Field_bad fu) <| cC (g_field_root_sum fu) <| cN) (by kernel_rfl) fun x => by kernel_rfl
def s_npoly_over_product (fu : Nat) : PSig := ⟨⟨90, [.d (.w1 (.po (.w1 (.p (.l (.p .b (.l .u))) (.l (.p (.p .b (.l .u)) (.l .u))))))), .d (.l (.l (.p (.p .b (.l .u)) (.l .u)))), .d (.l (.l (.p (.p .b (.l .u)) (.l .u))))], [.own (.l (.p (.p .b (.l .u)) (.l .u))) 60], fun _ => none, 0⟩, fun x => M_npoly_over_product fu x.1 x.2.1 x.2.2.1⟩
theorem g_npoly_over_product (fu : Nat) : POK Tryz.prog (s_npoly_over_product fu) := sgp (fu := fu) ⟨[], [(262149, ⟨[7], [(.n, ⟨[(2, .d (.l (.l (.p (.p .b (.l .u)) (.l .u))))), (3, .q (.w1 (.po (.w1 (.p (.l (.p .b (.l .u))) (.l (.p (.p .b (.l .u)) (.l .u)))))))), (18, .d (.l (.l (.p (.p .b (.l .u)) (.l .u))))), (19, .d .i), (21, .d .b)], []⟩)]⟩), (458760, ⟨[7], [(.n, ⟨[(2, .d (.l (.l (.p (.p .b (.l .u)) (.l .u))))), (3, .q (.w1 (.po (.w1 (.p (.l (.p .b (.l .u))) (.l (.p (.p .b (.l .u)) (.l .u)))))))), (8, .d .i), (9, .d (.l (.p (.p .b (.l .u)) (.l .u)))), (18, .d (.l (.l (.p (.p .b (.l .u)) (.l .u))))), (19, .d .i), (20, .d .i), (25, .d (.l (.l (.p (.p .b (.l .u)) (.l .u))))), (26, .d .i), (28, .d .b)], []⟩)]⟩)], [(3, ⟨⟨[(20, .d .i), (7, .own (.l (.p (.p .b (.l .u)) (.l .u))) 60)], []⟩, ⟨[], [(.x 0, ⟨[(7, .own (.l (.p (.p .b (.l .u)) (.l .u))) 60)], []⟩), (.p (0, 0), ⟨[], []⟩)]⟩⟩), (6, ⟨⟨[(27, .d .i), (7, .own (.l (.p (.p .b (.l .u)) (.l .u))) 60)], []⟩, ⟨[], [(.x 2, ⟨[(7, .own (.l (.p (.p .b (.l .u)) (.l .u))) 60)], []⟩), (.p (0, 0), ⟨[], []⟩)]⟩⟩)], [(8, [48, 52])], [], [], []⟩ Tryz.func90 (cC (g_field_Field_Add fu) <| cC (g_field_Field_Mul fu) <| cN) (pC (g_npoly_over_plain fu) <| pC (g_npoly_sure fu) <| pN) (by kernel_rfl) fun x => by kernel_rfl
def s_npoly_over_monic (fu : Nat) : PSig := ⟨⟨92, [.d (.w1 (.po (.w1 (.p (.l (.p .b (.l .u))) (.l (.p (.p .b (.l .u)) (.l .u))))))), .d (.l (.l (.p (.p .b (.l .u)) (.l .u))))], [.own (.l (.p (.p .b (.l .u)) (.l .u))) 60], fun _ => none, 0⟩, fun x => M_npoly_over_monic fu x.1 x.2.1⟩
theorem g_npoly_over_monic (fu : Nat) : POK Tryz.prog (s_npoly_over_monic fu) := sgp (fu := fu) ⟨[], [], [], [(4, [21])], [], [], []⟩ Tryz.func92 (cC (g_field_Field_Inv fu) <| cN) (pC (g_npoly_over_plain fu) <| pC (g_npoly_over_product fu) <| pC (g_npoly_sure fu) <| pN) (by kernel_rfl) fun x => by kernel_rfl
def s_npoly_Gcd (fu : Nat) : Sig := ⟨38, [.d (.po (.w1 (.p (.l (.p .b (.l .u))) (.l (.p (.p .b (.l .u)) (.l .u)))))), .d (.l (.l (.p (.p .b (.l .u)) (.l .u)))), .d (.l (.l (.p (.p .b (.l .u)) (.l .u))))], [.own (.l (.p (.p .b (.l .u)) (.l .u))) 60, .d .i], fun x => M_npoly_Gcd fu x.1 x.2.1 x.2.2.1, 0⟩
theorem g_npoly_Gcd (fu : Nat) : SigOK Tryz.prog (s_npoly_Gcd fu) := sgr (fu := fu) ⟨[], [], [(4, ⟨⟨[(9, .d (.l (.l (.p (.p .b (.l .u)) (.l .u))))), (10, .own (.l (.p (.p .b (.l .u)) (.l .u))) 60)], []⟩, ⟨[7, 8], [(.x 0, ⟨[(9, .d (.l (.l (.p (.p .b (.l .u)) (.l .u)))))], []⟩), (.p (0, 0), ⟨[], []⟩)]⟩⟩)], [(3, [])], [], [], []⟩ hok_told Tryz.func38 (cN) (pC (g_npoly_over_plain fu) <| pC (g_npoly_over_divided fu) <| pC (g_npoly_over_monic fu) <| pN) (by kernel_rfl) fun x => by kernel_rfl
def s_law21_awake (fu : Nat) : Sig := ⟨31, [], [.d .b], fun x => M_law21_awake fu , 0⟩
theorem g_law21_awake (fu : Nat) : SigOK Tryz.prog (s_law21_awake fu) := sg (fu := fu) ⟨[], [], [], [], [], [], []⟩ Tryz.func31 (cC (g_npoly_Gcd fu) <| cC (g_field_New fu) <| cC (g_rat_Of fu) <| cC (g_law21_same fu) <| cC (g_zpoly_Of fu) <| cN) (by kernel_rfl) fun x => by kernel_rfl
def s_npoly_over_joined (fu : Nat) : PSig := ⟨⟨89, [.d (.w1 (.po (.w1 (.p (.l (.p .b (.l .u))) (.l (.p (.p .b (.l .u)) (.l .u))))))), .d (.l (.l (.p (.p .b (.l .u)) (.l .u)))), .d (.l (.l (.p (.p .b (.l .u)) (.l .u)))), .d .b], [.own (.l (.p (.p .b (.l .u)) (.l .u))) 60], fun _ => none, 0⟩, fun x => M_npoly_over_joined fu x.1 x.2.1 x.2.2.1 x.2.2.2.1⟩
theorem g_npoly_over_joined (fu : Nat) : POK Tryz.prog (s_npoly_over_joined fu) := sgp (fu := fu) ⟨[], [(327686, ⟨[9], [(.n, ⟨[(3, .d .b), (4, .q (.w1 (.po (.w1 (.p (.l (.p .b (.l .u))) (.l (.p (.p .b (.l .u)) (.l .u)))))))), (21, .d (.l (.l (.p (.p .b (.l .u)) (.l .u))))), (22, .d .i), (24, .d .b)], []⟩)]⟩)], [(4, ⟨⟨[(23, .d .i), (9, .own (.l (.p (.p .b (.l .u)) (.l .u))) 60)], []⟩, ⟨[], [(.x 0, ⟨[(9, .own (.l (.p (.p .b (.l .u)) (.l .u))) 60)], []⟩), (.p (0, 0), ⟨[], []⟩)]⟩⟩)], [(7, [38]), (8, [52])], [], [], []⟩ Tryz.func89 (cC (g_field_Field_Add fu) <| cC (g_field_Field_Sub fu) <| cN) (pC (g_npoly_over_plain fu) <| pC (g_npoly_sure fu) <| pN) (by kernel_rfl) fun x => by kernel_rfl
def s_npoly_Add (fu : Nat) : Sig := ⟨33, [.d (.po (.w1 (.p (.l (.p .b (.l .u))) (.l (.p (.p .b (.l .u)) (.l .u)))))), .d (.l (.l (.p (.p .b (.l .u)) (.l .u)))), .d (.l (.l (.p (.p .b (.l .u)) (.l .u))))], [.own (.l (.p (.p .b (.l .u)) (.l .u))) 60, .d .i], fun x => M_npoly_Add fu x.1 x.2.1 x.2.2.1, 0⟩
theorem g_npoly_Add (fu : Nat) : SigOK Tryz.prog (s_npoly_Add fu) := sgr (fu := fu) ⟨[], [], [], [], [], [], []⟩ hok_told Tryz.func33 (cN) (pC (g_npoly_over_joined fu) <| pN) (by kernel_rfl) fun x => by kernel_rfl
def s_npoly_Deriv (fu : Nat) : Sig := ⟨39, [.d (.po (.w1 (.p (.l (.p .b (.l .u))) (.l (.p (.p .b (.l .u)) (.l .u)))))), .d (.l (.l (.p (.p .b (.l .u)) (.l .u))))], [.d (.l (.l (.p (.p .b (.l .u)) (.l .u)))), .d .i], fun x => M_npoly_Deriv fu x.1 x.2.1, 0⟩
theorem g_npoly_Deriv (fu : Nat) : SigOK Tryz.prog (s_npoly_Deriv fu) := sgr (fu := fu) ⟨[], [(327686, ⟨[4, 5, 6, 13], [(.n, ⟨[(0, .d (.po (.w1 (.p (.l (.p .b (.l .u))) (.l (.p (.p .b (.l .u)) (.l .u))))))), (14, .d .i), (16, .d .b)], []⟩)]⟩)], [(4, ⟨⟨[(4, .own (.l (.p (.p .b (.l .u)) (.l .u))) 60), (15, .d .i), (5, .var .i 26), (6, .var (.w1 (.po (.w1 (.p (.l (.p .b (.l .u))) (.l (.p (.p .b (.l .u)) (.l .u))))))) 113), (13, .own (.l (.p (.p .b (.l .u)) (.l .u))) 60)], []⟩, ⟨[], [(.x 0, ⟨[(4, .own (.l (.p (.p .b (.l .u)) (.l .u))) 60), (5, .var .i 26), (6, .var (.w1 (.po (.w1 (.p (.l (.p .b (.l .u))) (.l (.p (.p .b (.l .u)) (.l .u))))))) 113)], []⟩), (.p (0, 0), ⟨[(4, .own (.l (.p (.p .b (.l .u)) (.l .u))) 60), (5, .var .i 26)], []⟩)]⟩⟩)], [], [], [], []⟩ hok_told Tryz.func39 (cC (g_field_Field_Mul fu) <| cC (g_rat_Of fu) <| cN) (pC (g_npoly_over_plain fu) <| pC (g_npoly_sure fu) <| pN) (by kernel_rfl) fun x => by kernel_rfl
def s_npoly_Div (fu : Nat) : Sig := ⟨36, [.d (.po (.w1 (.p (.l (.p .b (.l .u))) (.l (.p (.p .b (.l .u)) (.l .u)))))), .d (.l (.l (.p (.p .b (.l .u)) (.l .u)))), .d (.l (.l (.p (.p .b (.l .u)) (.l .u))))], [.own (.l (.p (.p .b (.l .u)) (.l .u))) 60, .own (.l (.p (.p .b (.l .u)) (.l .u))) 60, .d .i], fun x => M_npoly_Div fu x.1 x.2.1 x.2.2.1, 0⟩
theorem g_npoly_Div (fu : Nat) : SigOK Tryz.prog (s_npoly_Div fu) := sgr (fu := fu) ⟨[], [], [], [], [], [], []⟩ hok_told Tryz.func36 (cN) (pC (g_npoly_over_divided fu) <| pN) (by kernel_rfl) fun x => by kernel_rfl
def s_npoly_Eval (fu : Nat) : Sig := ⟨40, [.d (.po (.w1 (.p (.l (.p .b (.l .u))) (.l (.p (.p .b (.l .u)) (.l .u)))))), .d (.l (.l (.p (.p .b (.l .u)) (.l .u)))), .d (.l (.p (.p .b (.l .u)) (.l .u)))], [.d (.l (.p (.p .b (.l .u)) (.l .u))), .d .i], fun x => M_npoly_Eval fu x.1 x.2.1 x.2.2.1, 0⟩
theorem g_npoly_Eval (fu : Nat) : SigOK Tryz.prog (s_npoly_Eval fu) := sgr (fu := fu) ⟨[], [], [(4, ⟨⟨[(6, .d (.l (.p (.p .b (.l .u)) (.l .u)))), (8, .d .i)], []⟩, ⟨[1, 7], [(.x 0, ⟨[(6, .d (.l (.p (.p .b (.l .u)) (.l .u))))], []⟩), (.p (0, 0), ⟨[(6, .d (.l (.p (.p .b (.l .u)) (.l .u))))], []⟩)]⟩⟩)], [(6, [24])], [], [], []⟩ hok_told Tryz.func40 (cC (g_field_Field_Add fu) <| cC (g_field_Field_Mul fu) <| cN) (pC (g_npoly_over_plain fu) <| pC (g_npoly_sure fu) <| pN) (by kernel_rfl) fun x => by kernel_rfl
def s_npoly_Monic (fu : Nat) : Sig := ⟨37, [.d (.po (.w1 (.p (.l (.p .b (.l .u))) (.l (.p (.p .b (.l .u)) (.l .u)))))), .d (.l (.l (.p (.p .b (.l .u)) (.l .u))))], [.own (.l (.p (.p .b (.l .u)) (.l .u))) 60, .d .i], fun x => M_npoly_Monic fu x.1 x.2.1, 0⟩
theorem g_npoly_Monic (fu : Nat) : SigOK Tryz.prog (s_npoly_Monic fu) := sgr (fu := fu) ⟨[], [], [], [], [], [], []⟩ hok_told Tryz.func37 (cN) (pC (g_npoly_over_monic fu) <| pN) (by kernel_rfl) fun x => by kernel_rfl
def s_npoly_Mul (fu : Nat) : Sig := ⟨35, [.d (.po (.w1 (.p (.l (.p .b (.l .u))) (.l (.p (.p .b (.l .u)) (.l .u)))))), .d (.l (.l (.p (.p .b (.l .u)) (.l .u)))), .d (.l (.l (.p (.p .b (.l .u)) (.l .u))))], [.own (.l (.p (.p .b (.l .u)) (.l .u))) 60, .d .i], fun x => M_npoly_Mul fu x.1 x.2.1 x.2.2.1, 0⟩
theorem g_npoly_Mul (fu : Nat) : SigOK Tryz.prog (s_npoly_Mul fu) := sgr (fu := fu) ⟨[], [], [], [], [], [], []⟩ hok_told Tryz.func35 (cN) (pC (g_npoly_over_product fu) <| pN) (by kernel_rfl) fun x => by kernel_rfl
def s_npoly_Norm (fu : Nat) : Sig := ⟨32, [.d (.po (.w1 (.p (.l (.p .b (.l .u))) (.l (.p (.p .b (.l .u)) (.l .u)))))), .d (.l (.l (.p (.p .b (.l .u)) (.l .u))))], [.own (.l (.p (.p .b (.l .u)) (.l .u))) 60, .d .i], fun x => M_npoly_Norm fu x.1 x.2.1, 0⟩
theorem g_npoly_Norm (fu : Nat) : SigOK Tryz.prog (s_npoly_Norm fu) := sgr (fu := fu) ⟨[], [], [], [], [], [], []⟩ hok_told Tryz.func32 (cN) (pC (g_npoly_over_plain fu) <| pN) (by kernel_rfl) fun x => by kernel_rfl
def s_npoly_Sub (fu : Nat) : Sig := ⟨34, [.d (.po (.w1 (.p (.l (.p .b (.l .u))) (.l (.p (.p .b (.l .u)) (.l .u)))))), .d (.l (.l (.p (.p .b (.l .u)) (.l .u)))), .d (.l (.l (.p (.p .b (.l .u)) (.l .u))))], [.own (.l (.p (.p .b (.l .u)) (.l .u))) 60, .d .i], fun x => M_npoly_Sub fu x.1 x.2.1 x.2.2.1, 0⟩
theorem g_npoly_Sub (fu : Nat) : SigOK Tryz.prog (s_npoly_Sub fu) := sgr (fu := fu) ⟨[], [], [], [], [], [], []⟩ hok_told Tryz.func34 (cN) (pC (g_npoly_over_joined fu) <| pN) (by kernel_rfl) fun x => by kernel_rfl
def s_law21_NpolyNone (fu : Nat) : Sig := ⟨10, [.d (.l (.l (.p (.p .b (.l .u)) (.l .u)))), .d (.l (.l (.p (.p .b (.l .u)) (.l .u)))), .d (.l (.p (.p .b (.l .u)) (.l .u)))], [.d .b], fun x => M_law21_NpolyNone fu x.1 x.2.1 x.2.2.1, 0⟩
theorem g_law21_NpolyNone (fu : Nat) : SigOK Tryz.prog (s_law21_NpolyNone fu) := sg (fu := fu) ⟨[], [], [(5, ⟨⟨[(10, .d .i)], []⟩, ⟨[9], [(.x 0, ⟨[], []⟩), (.r, ⟨[], [(6, .kb false)]⟩)]⟩⟩)], [], [], [], []⟩ Tryz.func10 (cC (g_npoly_Norm fu) <| cC (g_npoly_Add fu) <| cC (g_npoly_Sub fu) <| cC (g_npoly_Mul fu) <| cC (g_npoly_Div fu) <| cC (g_npoly_Monic fu) <| cC (g_npoly_Gcd fu) <| cC (g_npoly_Deriv fu) <| cC (g_npoly_Eval fu) <| cC (g_law21_awake fu) <| cN) (by kernel_rfl) fun x => by kernel_rfl
end
section
set_option maxRecDepth 100000
theorem law21_awake : M_law21_awake 35184372088832 = some true := by decide +kernel
end
section
theorem y_ck {R : Type} {p : Prop} [Decidable p] {k : Option R} (h : p) : ck p k = k := if_pos h
theorem y_ckN {R : Type} {i : Int} {k : Nat → Option R} (h : 0 ≤ i) : ckN i k = k i.toNat := if_pos h
theorem y_ckI {R : Type} {i : Int} {n : Nat} {k : Nat → Option R} (h : 0 ≤ i ∧ i < (n : Int)) : ckI i n k = k i.toNat := if_pos h
theorem y_64 {R : Type} {e : Int} {k : Int → Option R} (h : InR e) : ck64 e k = k e := if_pos h
theorem y_bd {R S : Type} {v : S} {k : S → Option R} : bd (some v) k = k v := rfl
theorem y_nm {R S : Type} {v : S} {k : S → Option R} : nm v k = k v := rfl
abbrev Qz := Zr × List Nat
section
variable {fu : Nat} {q : Option (List Zr × List Qz)} {a b : List (List Qz)} {x y : List Qz}
theorem bad_red (h : M_field_Field_bad fu q = some true) : M_field_Field_Red fu q x = some ([], 1) := by unfold M_field_Field_Red; rw [h]; rfl
theorem bad_add (h : M_field_Field_bad fu q = some true) : M_field_Field_Add fu q x y = some ([], 1) := by unfold M_field_Field_Add; rw [h]; rfl
theorem bad_sub (h : M_field_Field_bad fu q = some true) : M_field_Field_Sub fu q x y = some ([], 1) := by unfold M_field_Field_Sub; rw [h]; rfl
theorem bad_mul (h : M_field_Field_bad fu q = some true) : M_field_Field_Mul fu q x y = some ([], 1) := by unfold M_field_Field_Mul; rw [h]; rfl
theorem bad_plain (h : M_field_Field_bad fu q = some true) : M_npoly_over_plain fu q a = some (.inl (159, 1)) := by unfold M_npoly_over_plain; rw [bad_red h]; rfl
theorem bad_div (h : M_field_Field_bad fu q = some true) : M_npoly_over_divided fu q a b = some (.inl (159, 1)) := by unfold M_npoly_over_divided; rw [bad_plain h]; rfl
theorem bad_monic (h : M_field_Field_bad fu q = some true) : M_npoly_over_monic fu q a = some (.inl (159, 1)) := by unfold M_npoly_over_monic; rw [bad_plain h]; rfl
theorem bad_Norm (h : M_field_Field_bad fu q = some true) : M_npoly_Norm fu q a = some ([], 1) := by unfold M_npoly_Norm; rw [bad_plain h]; rfl
theorem bad_Div (h : M_field_Field_bad fu q = some true) : M_npoly_Div fu q a b = some ([], [], 1) := by unfold M_npoly_Div; rw [bad_div h]; rfl
theorem bad_Monic (h : M_field_Field_bad fu q = some true) : M_npoly_Monic fu q a = some ([], 1) := by unfold M_npoly_Monic; rw [bad_monic h]; rfl
theorem bad_Gcd (h : M_field_Field_bad fu q = some true) : M_npoly_Gcd fu q a b = some ([], 1) := by unfold M_npoly_Gcd; rw [bad_plain h]; rfl
theorem bad_Deriv (h : M_field_Field_bad fu q = some true) : M_npoly_Deriv fu q a = some ([], 1) := by unfold M_npoly_Deriv; rw [bad_plain h]; rfl
theorem bad_Eval (h : M_field_Field_bad fu q = some true) : M_npoly_Eval fu q a x = some ([], 1) := by unfold M_npoly_Eval; rw [bad_plain h]; rfl
theorem joined_round (h : M_field_Field_bad fu q = some true) {m : Bool} {L : Int × List (List Qz) → Option (List (List Qz) ⊕ (PX × Unit))} {t : List (List Qz)} (ht : 0 < t.length) : B_npoly_over_joined_0 fu q (y :: b) m L (0, t) = some (.inr ((159, 1), ())) := by
  unfold B_npoly_over_joined_0
  simp only
  rw [if_pos (show (0 : Int) < (((y :: b).length : Nat) : Int) by rw [List.length_cons]; omega)]
  simp only [y_bd, y_nm, reduceIte]
  rw [y_ckI ⟨Int.le_refl 0, by rw [List.length_cons]; omega⟩]
  cases m
  · rw [if_neg (by decide), y_ckI ⟨Int.le_refl 0, by omega⟩]
    rw [bad_add h]; rfl
  · rw [if_pos rfl, y_ckI ⟨Int.le_refl 0, by omega⟩]
    rw [bad_sub h]; rfl
theorem cpy_lenY {α : Type} (xs ys : List α) : (cpy xs ys).length = xs.length := by
  unfold cpy
  rw [List.length_append, List.length_take, List.length_drop]; omega
theorem bad_joined (h : M_field_Field_bad (fu + 1) q = some true) {m : Bool} (ha : a.length ≤ 5864062014634) (hb : b.length ≤ 5864062014634) : M_npoly_over_joined (fu + 1) q a b m = some (.inl (159, 1)) := by
  unfold M_npoly_over_joined
  rw [y_nm, y_ckN (by omega), y_ck (by omega), y_nm, y_nm]
  show bd (B_npoly_over_joined_0 (fu + 1) q b m _ (0, cpy (List.replicate _ []) a)) _ = _
  cases b with
  | nil =>
    show bd (M_npoly_over_plain (fu + 1) q _) _ = _
    rw [bad_plain h]; rfl
  | cons y b =>
    rw [joined_round h (by rw [cpy_lenY, List.length_replicate, List.length_cons]; omega)]; rfl
theorem bad_Add (h : M_field_Field_bad (fu + 1) q = some true) (ha : a.length ≤ 5864062014634) (hb : b.length ≤ 5864062014634) : M_npoly_Add (fu + 1) q a b = some ([], 1) := by unfold M_npoly_Add; rw [bad_joined h ha hb]; rfl
theorem bad_Sub (h : M_field_Field_bad (fu + 1) q = some true) (ha : a.length ≤ 5864062014634) (hb : b.length ≤ 5864062014634) : M_npoly_Sub (fu + 1) q a b = some ([], 1) := by unfold M_npoly_Sub; rw [bad_joined h ha hb]; rfl
theorem prod_none {L : Int × List (List Qz) → Option (List (List Qz) ⊕ (PX × Unit))} {t : List (List Qz)} {i : Int} {j : Nat} (h0 : 0 ≤ i) (hi : i < (a.length : Int)) (ha : a.length ≤ 5864062014634) : B_npoly_over_product_0 (fu + 1) q a [] L (i, t) = L (i + 1, t) := by
  unfold B_npoly_over_product_0
  simp only
  rw [if_pos hi]
  simp only [y_bd, y_nm, reduceIte]
  rw [y_ckI ⟨h0, hi⟩]
  show ck64 (i + 1) (fun x7 => L (x7, t)) = _
  rw [y_64 ⟨by omega, by omega⟩]
theorem prod_end {L : Int × List (List Qz) → Option (List (List Qz) ⊕ (PX × Unit))} {t : List (List Qz)} {i : Int} (hi : ¬ i < (a.length : Int)) : B_npoly_over_product_0 (fu + 1) q a b L (i, t) = some (.inl t) := by
  unfold B_npoly_over_product_0
  simp only
  rw [if_neg hi]; rfl
theorem prod_loop (ha : a.length ≤ 5864062014634) {t : List (List Qz)} : ∀ (m k : Nat), a.length - m < k → m ≤ a.length → loopN (B_npoly_over_product_0 (fu + 1) q a []) k ((m : Int), t) = some (.inl t)
  | m, 0, hk, _ => by omega
  | m, k + 1, hk, hm => by
    show B_npoly_over_product_0 (fu + 1) q a [] (loopN (B_npoly_over_product_0 (fu + 1) q a []) k) ((m : Int), t) = _
    rcases Nat.lt_or_ge m a.length with h | h
    · rw [prod_none (j := 0) (by omega) (by omega) ha]
      exact prod_loop ha (m + 1) k (by omega) h
    · exact prod_end (by omega)
theorem prod_round (h : M_field_Field_bad (fu + 1) q = some true) {L : Int × List (List Qz) → Option (List (List Qz) ⊕ (PX × Unit))} {t : List (List Qz)} (ht : 0 < t.length) : B_npoly_over_product_0 (fu + 1) q (x :: a) (y :: b) L (0, t) = some (.inr ((159, 1), ())) := by
  unfold B_npoly_over_product_0
  simp only
  rw [if_pos (show (0 : Int) < (((x :: a).length : Nat) : Int) by rw [List.length_cons]; omega)]
  simp only [y_bd, y_nm, reduceIte]
  rw [y_ckI ⟨Int.le_refl 0, by rw [List.length_cons]; omega⟩]
  show bd (B_npoly_over_product_1 (fu + 1) 0 (y :: b) q (x :: a) _ _ (loopN _ fu) (0, t)) _ = _
  have e : ∀ L z i2, B_npoly_over_product_1 (fu + 1) 0 (y :: b) q (x :: a) i2 z L (0, t) = some (.inr ((159, 1), ())) := fun L z i2 => by
    unfold B_npoly_over_product_1
    simp only
    rw [if_pos (show (0 : Int) < (((y :: b).length : Nat) : Int) by rw [List.length_cons]; omega)]
    simp only [y_bd, y_nm, reduceIte]
    rw [y_ckI ⟨Int.le_refl 0, by rw [List.length_cons]; omega⟩]
    rw [y_64 ⟨by decide, by decide⟩, y_64 ⟨by decide, by decide⟩, y_ckI (i := (0 : Int) + 0) ⟨by decide, by omega⟩]
    rw [bad_mul h]; rfl
  rw [e]; rfl
theorem bad_product (h : M_field_Field_bad (fu + 1) q = some true) (hf : 5864062014636 ≤ fu) (ha : a.length ≤ 5864062014634) (hb : b.length ≤ 5864062014634) : M_npoly_over_product (fu + 1) q a b = some (.inl (159, 1)) := by
  unfold M_npoly_over_product
  rw [y_64 ⟨by omega, by omega⟩, y_ckN (by omega), y_ck (by omega), y_nm]
  have pl : ∀ t, M_npoly_over_plain (fu + 1) q t = some (.inl (159, 1)) := fun t => bad_plain h
  cases b with
  | nil =>
    show bd (loopN (B_npoly_over_product_0 (fu + 1) q a []) (fu + 1) (((0 : Nat) : Int), _)) _ = _
    rw [prod_loop ha 0 (fu + 1) (by omega) (Nat.zero_le _)]
    show bd (M_npoly_over_plain (fu + 1) q _) _ = _
    rw [pl]; rfl
  | cons y b =>
    cases a with
    | nil =>
      show bd (B_npoly_over_product_0 (fu + 1) q [] (y :: b) _ (0, _)) _ = _
      rw [prod_end (by simp)]
      show bd (M_npoly_over_plain (fu + 1) q _) _ = _
      rw [pl]; rfl
    | cons x a =>
      show bd (B_npoly_over_product_0 (fu + 1) q (x :: a) (y :: b) _ (0, List.replicate _ [])) _ = _
      rw [prod_round h (by rw [List.length_replicate, List.length_cons, List.length_cons]; omega)]; rfl
theorem bad_Mul (h : M_field_Field_bad (fu + 1) q = some true) (hf : 5864062014636 ≤ fu) (ha : a.length ≤ 5864062014634) (hb : b.length ≤ 5864062014634) : M_npoly_Mul (fu + 1) q a b = some ([], 1) := by unfold M_npoly_Mul; rw [bad_product h hf ha hb]; rfl
theorem none_chain {L : Int → Option (Unit ⊕ Unit)} {i : Int} {n1 n2 n3 n4 n6 n7 n8 : Option (List (List Qz) × Int)} {n5 : Option (List (List Qz) × List (List Qz) × Int)} {n9 : Option (List Qz × Int)} (h1 : n1 = some ([], 1)) (h2 : n2 = some ([], 1)) (h3 : n3 = some ([], 1)) (h4 : n4 = some ([], 1)) (h5 : n5 = some ([], [], 1)) (h6 : n6 = some ([], 1)) (h7 : n7 = some ([], 1)) (h8 : n8 = some ([], 1)) (h9 : n9 = some ([], 1)) :
    (bd n1 fun (t1, x1) => bd n2 fun (t2, x2) => bd n3 fun (t3, x3) => bd n4 fun (t4, x4) => bd n5 fun (t5, t6, x5) => bd n6 fun (t7, x6) => bd n7 fun (t8, x7) => bd n8 fun (t9, x8) => bd n9 fun (t10, x9) =>
      if x1 = (1 : Int) then if x2 = (1 : Int) then if x3 = (1 : Int) then if x4 = (1 : Int) then if x5 = (1 : Int) then if x6 = (1 : Int) then if x7 = (1 : Int) then if x8 = (1 : Int) then if x9 = (1 : Int) then
      ck64 (i + 1) fun x10 => L x10 else some (.inr ()) else some (.inr ()) else some (.inr ()) else some (.inr ()) else some (.inr ()) else some (.inr ()) else some (.inr ()) else some (.inr ()) else some (.inr ())) = ck64 (i + 1) fun x => L x := by
  subst h1 h2 h3 h4 h5 h6 h7 h8 h9
  simp only [y_bd, reduceIte]
theorem none_round (h : M_field_Field_bad (fu + 1) q = some true) (hf : 5864062014636 ≤ fu) (ha : a.length ≤ 5864062014634) (hb : b.length ≤ 5864062014634) {L : Int → Option (Unit ⊕ Unit)} {i : Int} {j : Nat} (hi : i = (j : Int)) (h2 : j < 2)
    (hq : ([(none : Option (List Zr × List Qz)), some ([], [])]).getD j none = q) : B_law21_NpolyNone_0 (fu + 1) a b x L i = L (i + 1) := by
  subst hi
  unfold B_law21_NpolyNone_0
  rw [if_pos (by omega), y_ckI ⟨by omega, by simp; omega⟩]
  rw [y_nm, show ((j : Int)).toNat = j from Int.toNat_natCast j, hq]
  exact (none_chain (bad_Norm h) (bad_Add h ha hb) (bad_Sub h ha hb) (bad_Mul h hf ha hb) (bad_Div h) (bad_Monic h) (bad_Gcd h) (bad_Deriv h) (bad_Eval h)).trans (y_64 ⟨by omega, by omega⟩)
theorem none_loop (hf : 5864062014636 ≤ fu) (ha : a.length ≤ 5864062014634) (hb : b.length ≤ 5864062014634) (h0 : M_field_Field_bad (fu + 1) none = some true) (h1 : M_field_Field_bad (fu + 1) (some ([], [])) = some true) (k : Nat) : loopN (B_law21_NpolyNone_0 (fu + 1) a b x) (k + 3) 0 = some (.inl ()) := by
  show B_law21_NpolyNone_0 (fu + 1) a b x (loopN (B_law21_NpolyNone_0 (fu + 1) a b x) (k + 2)) 0 = _
  rw [none_round h0 hf ha hb (i := 0) (j := 0) rfl (by decide) rfl]
  show B_law21_NpolyNone_0 (fu + 1) a b x (loopN (B_law21_NpolyNone_0 (fu + 1) a b x) (k + 1)) (0 + 1) = _
  rw [none_round h1 hf ha hb (i := 0 + 1) (j := 1) rfl (by decide) rfl]
  show B_law21_NpolyNone_0 (fu + 1) a b x (loopN (B_law21_NpolyNone_0 (fu + 1) a b x) k) (0 + 1 + 1) = _
  unfold B_law21_NpolyNone_0
  rw [if_neg (by decide)]
end
theorem fb0 (fu : Nat) : M_field_Field_bad fu none = some true := rfl
theorem fb1 (fu : Nat) : M_field_Field_bad fu (some ([], [])) = some true := rfl
theorem npoly_none (a b : List (List Qz)) (x : List Qz) (ha : a.length ≤ 5864062014634) (hb : b.length ≤ 5864062014634) : M_law21_NpolyNone 35184372088832 a b x = some true := by
  unfold M_law21_NpolyNone
  rw [law21_awake]
  have h : ∀ fu k, 5864062014636 ≤ fu → fu + 1 = k + 3 → loopN (B_law21_NpolyNone_0 (fu + 1) a b x) (fu + 1) 0 = some (.inl ()) := fun fu k h1 h2 => by
    have := none_loop (x := x) h1 ha hb (fb0 _) (fb1 _) k
    rw [← h2] at this
    exact this
  have h2 := h 35184372088831 35184372088829 (by omega) (by omega)
  rw [show 35184372088831 + 1 = 35184372088832 from rfl] at h2
  rw [h2]
  rfl
end
section
namespace npolyNone
open Go.ChangeShapes Go.WideShapes Go.ChangeAt Go.RowKit
theorem own : ownKnob Tryz.prog.godebug = none := by kernel_rfl
theorem atW : TyAt Tryz.prog .u 54 := id (by kernel_rfl : Tryz.prog.underlying 54 = some (.int .u64))
theorem atB : TyAt Tryz.prog .b 4 := id (by kernel_rfl : Tryz.prog.underlying 4 = some .bool)
theorem atL : TyAt Tryz.prog (.l .u) 28 := TyAt.sl (E := 54) (by kernel_rfl) (by kernel_rfl) (by decide) atW
theorem atZ : TyAt Tryz.prog (.p .b (.l .u)) 30 := TyAt.st (A := 4) (B := 28) (by kernel_rfl) (by kernel_rfl) (by kernel_rfl) (by kernel_rfl) atB atL
theorem atQ : TyAt Tryz.prog (.p (.p .b (.l .u)) (.l .u)) 78 := TyAt.st (A := 30) (B := 28) (by kernel_rfl) (by kernel_rfl) (by kernel_rfl) (by kernel_rfl) atZ atL
theorem atR : TyAt Tryz.prog (.l (.p (.p .b (.l .u)) (.l .u))) 60 := TyAt.sl (E := 78) (by kernel_rfl) (by kernel_rfl) (by decide) atQ
theorem atRR : TyAt Tryz.prog (.l (.l (.p (.p .b (.l .u)) (.l .u)))) 59 := TyAt.sl (E := 60) (by kernel_rfl) (by kernel_rfl) (by decide) atR
theorem u59 : Tryz.prog.underlying 59 = some (.slice 60) := by kernel_rfl
theorem b60 : Tryz.prog.bytesOf 60 = 24 := by kernel_rfl
theorem fits {a : List (List (Zr × List Nat))} (h : (Ty.l (.l (.p (.p .b (.l .u)) (.l .u)))).wd Tryz.prog 59 a) : a.length ≤ 5864062014634 := by
  have h1 := (h 60 u59).1
  rw [b60] at h1
  have h1 : a.length * 24 ≤ 140737488351232 := h1
  omega
def sgO (M : AsD [.d (.l (.l (.p (.p .b (.l .u)) (.l .u)))), .d (.l (.l (.p (.p .b (.l .u)) (.l .u)))), .d (.l (.p (.p .b (.l .u)) (.l .u)))] → Option Bool) : Sig := ⟨10, [.d (.l (.l (.p (.p .b (.l .u)) (.l .u)))), .d (.l (.l (.p (.p .b (.l .u)) (.l .u)))), .d (.l (.p (.p .b (.l .u)) (.l .u)))], [.d .b], M, 0⟩
set_option maxRecDepth 100000 in
theorem lifted {M : AsD [.d (.l (.l (.p (.p .b (.l .u)) (.l .u)))), .d (.l (.l (.p (.p .b (.l .u)) (.l .u)))), .d (.l (.p (.p .b (.l .u)) (.l .u)))] → Option Bool} (hs : SigOK Tryz.prog (sgO M)) (hz : ∀ x, AsOK [.d (.l (.l (.p (.p .b (.l .u)) (.l .u)))), .d (.l (.l (.p (.p .b (.l .u)) (.l .u)))), .d (.l (.p (.p .b (.l .u)) (.l .u)))] x → AsWd Tryz.prog [.d (.l (.l (.p (.p .b (.l .u)) (.l .u)))), .d (.l (.l (.p (.p .b (.l .u)) (.l .u)))), .d (.l (.p (.p .b (.l .u)) (.l .u)))] Tryz.f10.params.toList x → M x = some true) (os : Os) (started : os.Started) (H : Type) (enc : TypeId × Value → H) :
    ReturnsInHanded {} Tryz.checked os 10 .any (Rows.npolyNoneSpec.pre6 enc Tryz.prog Tryz.f10 Rows.npolyNoneRow.domain false) (Rows.npolyNoneSpec.post enc Tryz.prog Tryz.f10 false true false false) := by
  refine returnsInHanded_of_change_sized (C := Tryz.checked) own started (by kernel_rfl) Tryz.func10
    (ChangeSpec.witness6 (enc := enc) (C := Tryz.checked) false ⟨#[], #[.slice none 0 0, .slice none 0 0, .slice none 0 0], []⟩ 8 (by kernel_rfl) (by kernel_rfl) (by kernel_rfl) (by kernel_rfl)) ?_
  intro W base args ds gs before hval0 hW hcnd hsz _
  have hval : ∀ (j : Nat) t v, Tryz.f10.params[j]? = some t → args[j]? = some v → Value.okWide Tryz.prog W .any base t v := hval0
  have hW' := hW
  obtain ⟨p, q, hA0, hV, _, _, _⟩ := hW
  have hA : DataW.TrodAll enc Tryz.prog W 0 (fun _ => true) true Tryz.f10.params.toList args.toList ds p := hA0
  rw [Tryz.params10] at hA
  obtain ⟨v0, vs0, d0, ds0, p0, q0, hargs, rfl, _, _, r0⟩ := trodAll_cons hA
  obtain ⟨v1, vs1, d1, ds1, p1, q1, _, rfl, _, _, r1⟩ := trodAll_cons r0
  obtain ⟨v2, vs2, d2, ds2, p2, q2, _, rfl, _, _, r2⟩ := trodAll_cons r1
  obtain ⟨_, rfl, _⟩ := trodAll_nil r2
  obtain ⟨rfl, _⟩ := trodVars_none hV
  exact law_endw (sg := sgO M) hW' rfl hval hsz (by kernel_rfl) (by rw [Tryz.params10]; decide +kernel) (by rw [Tryz.params10]; exact ⟨atRR, atRR, atR, trivial⟩) rfl hs
    (fun x hx hw => hz x hx hw) (B := 4) (by kernel_rfl) Tryz.underlying4 rfl
set_option maxRecDepth 100000 in
theorem fnm : Tryz.pinned.checked.prog.funcNamed Rows.npolyNoneRow.func = some 10 := by kernel_rfl
set_option maxRecDepth 100000 in
set_option maxHeartbeats 4000000 in
theorem jf : joinedFacts Tryz.pinned.checked.prog 10 Tryz.f10 Rows.npolyNoneSpec Rows.npolyNoneRow = true := by
  unfold joinedFacts
  simp only [Bool.and_eq_true]
  repeat' apply And.intro
  all_goals (as_aux_lemma => kernel_rfl)
theorem over : Rows.npolyNoneRow.holds Tryz.pinned (OpenSpec.ofChange Rows.npolyNoneSpec) :=
  OpenClaim.holds_of_wide 10 Tryz.f10 rfl rfl rfl rfl rfl rfl rfl ⟨rfl, rfl, rfl, rfl, rfl⟩ rfl rfl rfl rfl rfl fnm Tryz.func10 jf
    (of_decide_eq_true (by kernel_rfl)) (by unfold Func.isWrapper; first | (rw [if_pos (by decide +kernel)]; kernel_rfl) | (rw [if_neg (by decide +kernel)]; exact ⟨rfl, rfl⟩))
    (fun os started H enc _ => lifted (M := fun x => M_law21_NpolyNone 35184372088832 x.1 x.2.1 x.2.2.1) (g_law21_NpolyNone 35184372088832) (fun x hx hw => by rw [Tryz.params10] at hw; exact npoly_none x.1 x.2.1 x.2.2.1 (fits hw.1) (fits hw.2.1)) os started H enc)
theorem proved : Rows.NpolyNoneSaid :=
  over
end npolyNone
end
end Go.Proofs.YtmggkmchbdanfaaGreat
