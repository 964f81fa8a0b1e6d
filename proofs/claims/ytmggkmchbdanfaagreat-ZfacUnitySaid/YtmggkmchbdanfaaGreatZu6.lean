/- What a proof needs: rules of walking, mirrors of functions and their plain laws. No condition. -/
import Derived.Test.YtmggkmchbdanfaaGreatZu5
section
set_option linter.unusedVariables false
set_option linter.unusedSimpArgs false
set_option maxRecDepth 100000
namespace Go.Proofs.YtmggkmchbdanfaaGreat
def s_ref01_Norm (fu : Nat) : Sig := ⟨112, [.d (.l .u)], [.own .u 54], fun x => M_ref01_Norm fu x.1, 0⟩
theorem g_ref01_Norm (fu : Nat) : SigOK Tryz.prog (s_ref01_Norm fu) := sg (fu := fu) ⟨[], [], [(2, ⟨⟨[(3, .d .i)], []⟩, ⟨[], [(.x 0, ⟨[(3, .d .i)], []⟩)]⟩⟩)], [], [], []⟩ Tryz.func112 (cN) (by kernel_rfl) fun x => by kernel_rfl
def s_ref02_Norm (fu : Nat) : Sig := ⟨110, [.d (.p .b (.l .u))], [.d (.p .b (.l .u))], fun x => M_ref02_Norm fu x.1, 0⟩
theorem g_ref02_Norm (fu : Nat) : SigOK Tryz.prog (s_ref02_Norm fu) := sg (fu := fu) ⟨[], [], [], [], [], []⟩ Tryz.func110 (cC (g_ref01_Norm fu) <| cN) (by kernel_rfl) fun x => by kernel_rfl
def s_ref02_Of (fu : Nat) : Sig := ⟨55, [.d .i], [.d (.p .b (.l .u))], fun x => M_ref02_Of fu x.1, 0⟩
theorem g_ref02_Of (fu : Nat) : SigOK Tryz.prog (s_ref02_Of fu) := sg (fu := fu) ⟨[], [], [], [], [], []⟩ Tryz.func55 (cC (g_ref02_Norm fu) <| cN) (by kernel_rfl) fun x => by kernel_rfl
def s_ref02_Sign (fu : Nat) : Sig := ⟨132, [.d (.p .b (.l .u))], [.d .i], fun x => M_ref02_Sign fu x.1, 0⟩
theorem g_ref02_Sign (fu : Nat) : SigOK Tryz.prog (s_ref02_Sign fu) := sg (fu := fu) ⟨[], [], [], [], [], []⟩ Tryz.func132 (cC (g_ref02_Norm fu) <| cN) (by kernel_rfl) fun x => by kernel_rfl
def s_ref10_Norm (fu : Nat) : Sig := ⟨64, [.d (.l (.p .b (.l .u)))], [.own (.p .b (.l .u)) 30], fun x => M_ref10_Norm fu x.1, 0⟩
theorem g_ref10_Norm (fu : Nat) : SigOK Tryz.prog (s_ref10_Norm fu) := sg (fu := fu) ⟨[], [], [(2, ⟨⟨[(3, .d .i)], []⟩, ⟨[], [(.x 0, ⟨[(3, .d .i)], []⟩)]⟩⟩), (6, ⟨⟨[(4, .own (.p .b (.l .u)) 30), (5, .d .i)], []⟩, ⟨[], [(.x 2, ⟨[(4, .own (.p .b (.l .u)) 30)], []⟩)]⟩⟩)], [], [], []⟩ Tryz.func64 (cC (g_ref02_Sign fu) <| cC (g_ref02_Norm fu) <| cN) (by kernel_rfl) fun x => by kernel_rfl
def s_ref10_Of (fu : Nat) : Sig := ⟨50, [.d (.l .i)], [.own (.p .b (.l .u)) 30], fun x => M_ref10_Of fu x.1, 0⟩
theorem g_ref10_Of (fu : Nat) : SigOK Tryz.prog (s_ref10_Of fu) := sg (fu := fu) ⟨[], [], [(3, ⟨⟨[(3, .own (.p .b (.l .u)) 30), (4, .d .i)], []⟩, ⟨[], [(.x 0, ⟨[(3, .own (.p .b (.l .u)) 30)], []⟩)]⟩⟩)], [], [], []⟩ Tryz.func50 (cC (g_ref10_Norm fu) <| cC (g_ref02_Of fu) <| cN) (by kernel_rfl) fun x => by kernel_rfl
def s_ref01_Same (fu : Nat) : Sig := ⟨63, [.d (.l .u), .d (.l .u)], [.d .b], fun x => M_ref01_Same fu x.1 x.2.1, 0⟩
theorem g_ref01_Same (fu : Nat) : SigOK Tryz.prog (s_ref01_Same fu) := sg (fu := fu) ⟨[], [], [(4, ⟨⟨[(5, .d .i)], []⟩, ⟨[], [(.x 0, ⟨[], []⟩), (.r, ⟨[], [(4, .kb false)]⟩)]⟩⟩)], [], [], []⟩ Tryz.func63 (cN) (by kernel_rfl) fun x => by kernel_rfl
def s_ref02_Same (fu : Nat) : Sig := ⟨17, [.d (.p .b (.l .u)), .d (.p .b (.l .u))], [.d .b], fun x => M_ref02_Same fu x.1 x.2.1, 0⟩
theorem g_ref02_Same (fu : Nat) : SigOK Tryz.prog (s_ref02_Same fu) := sg (fu := fu) ⟨[], [], [], [], [], []⟩ Tryz.func17 (cC (g_ref01_Same fu) <| cN) (by kernel_rfl) fun x => by kernel_rfl
def s_ref10_Same (fu : Nat) : Sig := ⟨69, [.d (.l (.p .b (.l .u))), .d (.l (.p .b (.l .u)))], [.d .b], fun x => M_ref10_Same fu x.1 x.2.1, 0⟩
theorem g_ref10_Same (fu : Nat) : SigOK Tryz.prog (s_ref10_Same fu) := sg (fu := fu) ⟨[], [], [(4, ⟨⟨[(5, .d .i)], []⟩, ⟨[], [(.x 0, ⟨[], []⟩), (.r, ⟨[], [(4, .kb false)]⟩)]⟩⟩)], [], [], []⟩ Tryz.func69 (cC (g_ref02_Same fu) <| cN) (by kernel_rfl) fun x => by kernel_rfl
def s_ref16_Same (fu : Nat) : Sig := ⟨20, [.d (.l (.p (.l (.p .b (.l .u))) .i)), .d (.l (.p (.l (.p .b (.l .u))) .i))], [.d .b], fun x => M_ref16_Same fu x.1 x.2.1, 0⟩
theorem g_ref16_Same (fu : Nat) : SigOK Tryz.prog (s_ref16_Same fu) := sg (fu := fu) ⟨[], [], [(4, ⟨⟨[(5, .d .i)], []⟩, ⟨[], [(.x 0, ⟨[], []⟩), (.r, ⟨[], [(4, .kb false)]⟩)]⟩⟩)], [], [], []⟩ Tryz.func20 (cC (g_ref10_Same fu) <| cN) (by kernel_rfl) fun x => by kernel_rfl
def s_nat_at (fu : Nat) : Sig := ⟨215, [.d (.l .u), .d .i], [.d .u], fun x => M_nat_at fu x.1 x.2.1, 0⟩
theorem g_nat_at (fu : Nat) : SigOK Tryz.prog (s_nat_at fu) := sg (fu := fu) ⟨[], [], [], [], [], []⟩ Tryz.func215 (cN) (by kernel_rfl) fun x => by kernel_rfl
def s_nat_Add_1 (fu : Nat) : Sig := ⟨213, [.d .i, .d .u, .q (.l .u), .q (.l .u)], [.d .u, .d .u], fun x => M_nat_Add_1 fu x.1 x.2.1 x.2.2.1 x.2.2.2.1, 0⟩
theorem g_nat_Add_1 (fu : Nat) : SigOK Tryz.prog (s_nat_Add_1 fu) := sg (fu := fu) ⟨[], [], [], [], [], []⟩ Tryz.func213 (cC (g_nat_at fu) <| cN) (by kernel_rfl) fun x => by kernel_rfl
def s_nat_carried (fu : Nat) : Sig := ⟨212, [.d .i, .fn [.i, .u] [.u, .u]], [.own .u 54, .d .u], fun x => M_nat_carried fu x.1 (fun z0 z1 => x.2.1 (z0, z1, ())), 0⟩
theorem g_nat_carried (fu : Nat) : SigOK Tryz.prog (s_nat_carried fu) := sg (fu := fu) ⟨[], [], [(4, ⟨⟨[(7, .d .u), (13, .d .i), (6, .own .u 54)], []⟩, ⟨[], [(.x 0, ⟨[(7, .d .u), (6, .own .u 54)], []⟩)]⟩⟩)], [], [], []⟩ Tryz.func212 (cN) (by kernel_rfl) fun x => by kernel_rfl
def s_nat_plain (fu : Nat) : Sig := ⟨157, [.d (.l .u)], [.d (.l .u)], fun x => M_nat_plain fu x.1, 0⟩
theorem g_nat_plain (fu : Nat) : SigOK Tryz.prog (s_nat_plain fu) := sg (fu := fu) ⟨[], [], [(1, ⟨⟨[(0, .d (.l .u))], []⟩, ⟨[], [(.x 0, ⟨[(0, .d (.l .u))], []⟩)]⟩⟩)], [], [], []⟩ Tryz.func157 (cN) (by kernel_rfl) fun x => by kernel_rfl
def s_nat_plain_own (fu : Nat) : Sig := ⟨157, [.own .u 54], [.own .u 54], fun x => M_nat_plain_own fu x.1, 0⟩
theorem g_nat_plain_own (fu : Nat) : SigOK Tryz.prog (s_nat_plain_own fu) := sg (fu := fu) ⟨[], [], [(1, ⟨⟨[(0, .own .u 54)], []⟩, ⟨[], [(.x 0, ⟨[(0, .own .u 54)], []⟩)]⟩⟩)], [], [], []⟩ Tryz.func157 (cN) (by kernel_rfl) fun x => by kernel_rfl
def s_nat_Add (fu : Nat) : Sig := ⟨139, [.d (.l .u), .d (.l .u)], [.own .u 54], fun x => M_nat_Add fu x.1 x.2.1, 0⟩
theorem g_nat_Add (fu : Nat) : SigOK Tryz.prog (s_nat_Add fu) := sg (fu := fu) ⟨[], [], [], [], [], []⟩ Tryz.func139 (cC (g_nat_carried fu) <| cC (g_nat_Add_1 fu) <| cC (g_nat_plain_own fu) <| cC (g_nat_plain fu) <| cN) (by kernel_rfl) fun x => by kernel_rfl
def s_cmp_isNaN_int (fu : Nat) : Sig := ⟨297, [.d .i], [.d .b], fun x => M_cmp_isNaN_int fu x.1, 0⟩
theorem g_cmp_isNaN_int (fu : Nat) : SigOK Tryz.prog (s_cmp_isNaN_int fu) := sg (fu := fu) ⟨[], [], [], [], [], []⟩ Tryz.func297 (cN) (by kernel_rfl) fun x => by kernel_rfl
def s_cmp_Compare_int (fu : Nat) : Sig := ⟨216, [.d .i, .d .i], [.d .i], fun x => M_cmp_Compare_int fu x.1 x.2.1, 0⟩
theorem g_cmp_Compare_int (fu : Nat) : SigOK Tryz.prog (s_cmp_Compare_int fu) := sg (fu := fu) ⟨[], [], [], [], [], []⟩ Tryz.func216 (cC (g_cmp_isNaN_int fu) <| cN) (by kernel_rfl) fun x => by kernel_rfl
def s_cmp_isNaN_uint64 (fu : Nat) : Sig := ⟨298, [.d .u], [.d .b], fun x => M_cmp_isNaN_uint64 fu x.1, 0⟩
theorem g_cmp_isNaN_uint64 (fu : Nat) : SigOK Tryz.prog (s_cmp_isNaN_uint64 fu) := sg (fu := fu) ⟨[], [], [], [], [], []⟩ Tryz.func298 (cN) (by kernel_rfl) fun x => by kernel_rfl
def s_cmp_Compare_uint64 (fu : Nat) : Sig := ⟨217, [.d .u, .d .u], [.d .i], fun x => M_cmp_Compare_uint64 fu x.1 x.2.1, 0⟩
theorem g_cmp_Compare_uint64 (fu : Nat) : SigOK Tryz.prog (s_cmp_Compare_uint64 fu) := sg (fu := fu) ⟨[], [], [], [], [], []⟩ Tryz.func217 (cC (g_cmp_isNaN_uint64 fu) <| cN) (by kernel_rfl) fun x => by kernel_rfl
def s_nat_Cmp (fu : Nat) : Sig := ⟨140, [.d (.l .u), .d (.l .u)], [.d .i], fun x => M_nat_Cmp fu x.1 x.2.1, 0⟩
theorem g_nat_Cmp (fu : Nat) : SigOK Tryz.prog (s_nat_Cmp fu) := sg (fu := fu) ⟨[], [], [(5, ⟨⟨[(5, .d .i)], []⟩, ⟨[], [(.x 0, ⟨[], []⟩), (.r, ⟨[(4, .d .i)], []⟩)]⟩⟩)], [], [], []⟩ Tryz.func140 (cC (g_cmp_Compare_int fu) <| cC (g_cmp_Compare_uint64 fu) <| cC (g_nat_plain_own fu) <| cC (g_nat_plain fu) <| cN) (by kernel_rfl) fun x => by kernel_rfl
def s_slices_Clone_uint64_uint64 (fu : Nat) : Sig := ⟨220, [.d (.l .u)], [.d (.l .u)], fun x => M_slices_Clone_uint64_uint64 fu x.1, 0⟩
set_option maxRecDepth 100000 in
set_option maxHeartbeats 1000000 in
theorem o_slices_Clone_uint64_uint64 (l : List Nat) (v0 : Value) (hp0 : l.length <= 17592186044416) : Fn Tryz.prog 220 [v0].toArray [fV (eS eU) (l) v0] (fun u : Value => u) (fun u => [fV (eS eU) (l) u]) (fun _ => True) := by
  refine Fn_intro Tryz.func220 rfl rfl fun we Se rest => ?_
  refine T_fact (fun S w h => fV_len h.1) fun hl_l => ?_
  refine T_fact (fun S w h => fV_limbs h.1) fun hb_l => ?_
  refine T_seq ?_
  refine T_region ?_
  refine TL_mv 1 [(0, v0)] rfl fun rest => ?_
  refine TL_nil ?_
  refine T_seq ?_
  refine T_seq ?_
  refine T_region ?_
  refine TL_mv 1 [(0, v0), (3, v0)] rfl fun rest => ?_
  refine TL_step rfl rfl (oe_nilE (e := eU) (xs := l) Tryz.underlying28 rfl rfl (fun S w h => h.1)) fun q1 hn1 => ?_
  refine TL_mv 0 [(0, v0), (4, .bool (q1))] rfl fun rest => ?_
  refine TL_nil ?_
  refine T_cond (q1) rfl (fun hb1 => ?_) (fun hb1 => ?_)
  · refine T_seq ?_
    refine T_region ?_
    refine TL_mv 1 [(2, .slice none 0 0)] rfl fun rest => ?_
    refine TL_nil ?_
    refine T_ret ?_
    exact Ret1 (.slice none 0 0 : Value) Tryz.results220 rfl trivial (fun S w h => ⟨(cvt (show ([]) = (l) from by first | rfl | simp_all) nil_fV), trivial⟩)
  · refine T_skip ?_
    refine T_seq ?_
    refine T_region ?_
    refine TL_empty (e := eU) rfl rfl Tryz.underlying28 ty54 fun v1 => ?_
    refine TL_mv 1 [(5, v1), (6, v0)] rfl fun rest => ?_
    refine TL_append (e := eU) (xs := []) (ys := l) 0 rfl rfl Tryz.underlying28 ty54 rfl (by decide) rfl rfl rfl (fun S w h => h.1) (by first | omega | (simp only [List.length_nil, List.length_append, List.length_replicate, List.length_cons, List.length_take, List.length_drop]; omega) | (simp; omega)) (by first | omega | (simp only [List.length_nil, List.length_append, List.length_replicate, List.length_cons, List.length_take, List.length_drop]; omega) | (simp; omega)) fun v2 => ?_
    show TL _ _ _ _ [mO eU 54 v2 ([] ++ l)] _ _ _ _ _
    refine TL_mv 1 [(2, v2)] rfl fun rest => ?_
    refine TL_nil ?_
    refine T_ret ?_
    refine T_weak_st (fun w h => fz_own 0 h rfl) ?_
    exact Ret1 v2 Tryz.results220 rfl trivial (fun S w h => ⟨(cvt (show ([] ++ l) = (l) from by first | rfl | simp_all) h.1), trivial⟩)
theorem c_slices_Clone_uint64_uint64 (fu : Nat) (a0 : List Nat) (va0 : Value) (r0 : List Nat) (H : M_slices_Clone_uint64_uint64 fu a0 = some r0) : Fn Tryz.prog 220 [va0].toArray [fV (eS eU) (a0) va0] (fun u : Value => u) (fun u => [fV (eS eU) (r0) u]) (fun _ => True) := by
  obtain ⟨hk, H⟩ := ck_s H
  obtain rfl := inj1 H
  exact o_slices_Clone_uint64_uint64 a0 va0 hk
theorem g_slices_Clone_uint64_uint64 (fu : Nat) : SigOK Tryz.prog (s_slices_Clone_uint64_uint64 fu) := sig_d1 (s := (.l .u)) (t := (.l .u)) (by kernel_rfl) fun x r v h => c_slices_Clone_uint64_uint64 fu x v r h
def s_nat_Norm (fu : Nat) : Sig := ⟨144, [.d (.l .u)], [.d (.l .u)], fun x => M_nat_Norm fu x.1, 0⟩
theorem g_nat_Norm (fu : Nat) : SigOK Tryz.prog (s_nat_Norm fu) := sg (fu := fu) ⟨[], [], [], [], [], []⟩ Tryz.func144 (cC (g_slices_Clone_uint64_uint64 fu) <| cC (g_nat_plain_own fu) <| cC (g_nat_plain fu) <| cN) (by kernel_rfl) fun x => by kernel_rfl
def s_nat_Shl_1 (fu : Nat) : Sig := ⟨310, [.d .i, .d .u, .q (.l .u), .q .i], [.d .u, .d .u], fun x => M_nat_Shl_1 fu x.1 x.2.1 x.2.2.1 x.2.2.2.1, 0⟩
theorem g_nat_Shl_1 (fu : Nat) : SigOK Tryz.prog (s_nat_Shl_1 fu) := sg (fu := fu) ⟨[], [], [], [], [], []⟩ Tryz.func310 (cN) (by kernel_rfl) fun x => by kernel_rfl
def s_nat_moved (fu : Nat) : Sig := ⟨160, [.d (.l .u), .d .i], [.own .u 54], fun x => M_nat_moved fu x.1 x.2.1, 0⟩
theorem g_nat_moved (fu : Nat) : SigOK Tryz.prog (s_nat_moved fu) := sg (fu := fu) ⟨[], [], [], [], [], []⟩ Tryz.func160 (cN) (by kernel_rfl) fun x => by kernel_rfl
def s_nat_Shl (fu : Nat) : Sig := ⟨251, [.d (.l .u), .d .i], [.own .u 54, .d .i], fun x => M_nat_Shl fu x.1 x.2.1, 0⟩
theorem g_nat_Shl (fu : Nat) : SigOK Tryz.prog (s_nat_Shl fu) := sg (fu := fu) ⟨[], [], [], [(4, [23])], [], []⟩ Tryz.func251 (cC (g_nat_moved fu) <| cC (g_nat_carried fu) <| cC (g_nat_plain_own fu) <| cC (g_nat_plain fu) <| cC (g_nat_Shl_1 fu) <| cN) (by kernel_rfl) fun x => by kernel_rfl
def s_nat_Shr_1 (fu : Nat) : Sig := ⟨344, [.d .i, .d .u, .q (.l .u), .q .i], [.d .u, .d .u], fun x => M_nat_Shr_1 fu x.1 x.2.1 x.2.2.1 x.2.2.2.1, 0⟩
theorem g_nat_Shr_1 (fu : Nat) : SigOK Tryz.prog (s_nat_Shr_1 fu) := sg (fu := fu) ⟨[], [], [], [], [], []⟩ Tryz.func344 (cC (g_nat_at fu) <| cN) (by kernel_rfl) fun x => by kernel_rfl
def s_nat_Shr (fu : Nat) : Sig := ⟨295, [.d (.l .u), .d .i], [.own .u 54], fun x => M_nat_Shr fu x.1 x.2.1, 0⟩
theorem g_nat_Shr (fu : Nat) : SigOK Tryz.prog (s_nat_Shr fu) := sg (fu := fu) ⟨[2, 3], [], [], [], [], []⟩ Tryz.func295 (cC (g_nat_Shr_1 fu) <| cC (g_nat_carried fu) <| cC (g_nat_plain_own fu) <| cC (g_nat_plain fu) <| cN) (by kernel_rfl) fun x => by kernel_rfl
def s_math_bits_Len64 (fu : Nat) : Sig := ⟨252, [.d .u], [.d .i], fun x => M_math_bits_Len64 fu x.1, 0⟩
set_option maxRecDepth 100000 in
set_option maxHeartbeats 1000000 in
theorem c_math_bits_Len64 (fu : Nat) (a0 : Nat) (qa0 : InU a0) (r0 : Int) (H : M_math_bits_Len64 fu a0 = some r0) : Fn Tryz.prog 252 [uv a0].toArray [] (fun _ : Unit => iv (r0)) (fun _ => []) (fun _ => InR r0) := by
 unfold M_math_bits_Len64 at H
 refine Fn_intro Tryz.func252 rfl rfl fun we Se rest => T_seq <| T_region <| TL_ad 1 [(2, iv 0)] rfl <| TL_nil <| T_seq ?_
 obtain ⟨s1, hL, Hc⟩ := bd_s H
 refine T_X [(.n, JQ we Se (G := Nat × Int) (fun (d1, i1) => (⟨[], [], [(0, uv d1), (2, iv (i1))]⟩ : Inv)) (fun (d1, i1) => (d1, i1) = s1 /\ InU d1 /\ InR i1))] ?_ ⟨?_, trivial⟩
 ·replace H := hL
  refine T_seq <| T_region <| TL_ad 1 [(3, uv a0)] rfl <| TL_geq rfl rfl rfl rfl (fun h1 => ?_) (fun h1 => ?_)
  ·replace H := if_t h1 H
   refine TL_nil <| T_cond_true rfl <| T_seq <| T_region <| TL_ad 1 [(5, uv a0)] rfl ?_
   obtain ⟨m1, hm1, H⟩ := nm_s H
   refine TL_val rfl rfl (r_shr (c := ((m1 : Nat) : Int)) rfl rfl (Int.natCast_nonneg _) (wu_y hm1 (n_shr_u (a := a0)))) <| TL_ad 1 [(0, uv m1)] rfl <| TL_nil <| T_region <| TL_ad 1 [(2, iv 32)] rfl <| TL_nil ?_
   exact JQ_mk (m1, 32) (And.intro (Option.some.inj H) (And.intro (udiv_r qa0 hm1) (show InR (32) by decide))) rfl (fun w h => St.weak h (fun S w h => trivial))
  replace H := if_f h1 H
  refine TL_nil <| T_cond_false rfl <| T_skip ?_
  exact JQ_mk (a0, 0) (And.intro (Option.some.inj H) (And.intro qa0 (show InR (0) by decide))) rfl (fun w h => St.weak h (fun S w h => trivial))
 refine JQ_el' ?_
 rintro ⟨d1, i1⟩ ⟨hs, hr1, hr2⟩ rest
 subst hs
 replace H := Hc
 clear hL
 refine JG_to rfl <| T_seq ?_
 obtain ⟨s2, hL, Hc⟩ := bd_s H
 refine T_X [(.n, JQ we Se (G := Nat × Int) (fun (d2, i2) => (⟨[], [], [(0, uv d2), (2, iv (i2))]⟩ : Inv)) (fun (d2, i2) => (d2, i2) = s2 /\ InU d2 /\ InR i2))] ?_ ⟨?_, trivial⟩
 ·replace H := hL
  refine T_seq <| T_region <| TL_ad 1 [(7, uv d1)] rfl <| TL_geq rfl rfl rfl rfl (fun h2 => ?_) (fun h2 => ?_)
  ·replace H := if_t h2 H
   refine TL_nil <| T_cond_true rfl <| T_seq <| T_region <| TL_ad 1 [(9, uv d1)] rfl ?_
   obtain ⟨m2, hm2, H⟩ := nm_s H
   refine TL_val rfl rfl (r_shr (c := ((m2 : Nat) : Int)) rfl rfl (Int.natCast_nonneg _) (wu_y hm2 (n_shr_u (a := d1)))) <| TL_ad 1 [(0, uv m2)] rfl <| TL_nil <| T_region <| TL_ad 1 [(11, iv (i1))] rfl ?_
   obtain ⟨x1, hx1, hrx1, H⟩ := ck64_s H
   refine TL_val rfl rfl (r_add (c := x1) rfl rfl (w_x hx1 hrx1)) <| TL_ad 1 [(2, iv (x1))] rfl <| TL_nil ?_
   exact JQ_mk (m2, x1) (And.intro (Option.some.inj H) (And.intro (udiv_r hr1 hm2) hrx1)) rfl (fun w h => St.weak h (fun S w h => trivial))
  replace H := if_f h2 H
  refine TL_nil <| T_cond_false rfl <| T_skip ?_
  exact JQ_mk (d1, i1) (And.intro (Option.some.inj H) (And.intro hr1 hr2)) rfl (fun w h => St.weak h (fun S w h => trivial))
 refine JQ_el' ?_
 rintro ⟨d2, i2⟩ ⟨hs, hr3, hr4⟩ rest
 subst hs
 replace H := Hc
 clear hL
 refine JG_to rfl <| T_seq <| T_seq <| T_region <| TL_ad 1 [(13, uv d2)] rfl <| TL_geq rfl rfl rfl rfl (fun h3 => ?_) (fun h3 => ?_)
 ·replace H := if_t h3 H
  refine TL_nil <| T_cond_true rfl <| T_seq <| T_region <| TL_ad 1 [(15, uv d2)] rfl ?_
  obtain ⟨m3, hm3, H⟩ := nm_s H
  refine TL_val rfl rfl (r_shr (c := ((m3 : Nat) : Int)) rfl rfl (Int.natCast_nonneg _) (wu_y hm3 (n_shr_u (a := d2)))) <| TL_ad 1 [(0, uv m3)] rfl <| TL_nil <| T_region <| TL_ad 1 [(17, iv (i2))] rfl ?_
  obtain ⟨x2, hx2, hrx2, H⟩ := ck64_s H
  refine TL_val rfl rfl (r_add (c := x2) rfl rfl (w_x hx2 hrx2)) <| TL_ad 1 [(2, iv (x2))] rfl <| TL_nil <| T_seq <| T_region <| TL_ad 2 [(20, uv m3), (19, iv (x2))] rfl ?_
  obtain ⟨m4, hm4, H⟩ := nm_s H
  refine TL_val rfl rfl (r_conv (c := ((m4 : Nat) : Int)) Tryz.underlying54 Tryz.underlying5 rfl (wu_x hm4 (wu8 _))) ?_
  obtain ⟨m5, hm5, H⟩ := nm_s H
  refine TL_val rfl rfl (r_len8 (z := m5) Tryz.underlying9 rfl (by kernel_rfl) rfl (mod8_r hm4) hm5) <| TL_val rfl rfl (r_conv (c := ((m5 : Nat) : Int)) Tryz.underlying5 Tryz.underlying3 rfl (w64 (b_r (bitLen8_r (mod8_r hm4) hm5)))) ?_
  obtain ⟨x3, hx3, hrx3, H⟩ := ck64_s H
  refine TL_val rfl rfl (r_add (c := x3) rfl rfl (w_x hx3 hrx3)) <| TL_ad 1 [(2, iv (x3))] rfl <| TL_nil <| T_ret ?_
  obtain rfl := inj1 H
  exact Ret1 () Tryz.results252 rfl hrx3 (fun S w h => trivial)
 replace H := if_f h3 H
 refine TL_nil <| T_cond_false rfl <| T_skip <| T_seq <| T_region <| TL_ad 2 [(20, uv d2), (19, iv (i2))] rfl ?_
 obtain ⟨m6, hm6, H⟩ := nm_s H
 refine TL_val rfl rfl (r_conv (c := ((m6 : Nat) : Int)) Tryz.underlying54 Tryz.underlying5 rfl (wu_x hm6 (wu8 _))) ?_
 obtain ⟨m7, hm7, H⟩ := nm_s H
 refine TL_val rfl rfl (r_len8 (z := m7) Tryz.underlying9 rfl (by kernel_rfl) rfl (mod8_r hm6) hm7) <| TL_val rfl rfl (r_conv (c := ((m7 : Nat) : Int)) Tryz.underlying5 Tryz.underlying3 rfl (w64 (b_r (bitLen8_r (mod8_r hm6) hm7)))) ?_
 obtain ⟨x4, hx4, hrx4, H⟩ := ck64_s H
 refine TL_val rfl rfl (r_add (c := x4) rfl rfl (w_x hx4 hrx4)) <| TL_ad 1 [(2, iv (x4))] rfl <| TL_nil <| T_ret ?_
 obtain rfl := inj1 H
 exact Ret1 () Tryz.results252 rfl hrx4 (fun S w h => trivial)
theorem g_math_bits_Len64 (fu : Nat) : SigOK Tryz.prog (s_math_bits_Len64 fu) := sig_ui (by kernel_rfl) fun x r hx h => c_math_bits_Len64 fu x hx r h
def s_math_bits_LeadingZeros64 (fu : Nat) : Sig := ⟨293, [.d .u], [.d .i], fun x => M_math_bits_LeadingZeros64 fu x.1, 0⟩
theorem g_math_bits_LeadingZeros64 (fu : Nat) : SigOK Tryz.prog (s_math_bits_LeadingZeros64 fu) := sg (fu := fu) ⟨[], [], [], [], [], []⟩ Tryz.func293 (cC (g_math_bits_Len64 fu) <| cN) (by kernel_rfl) fun x => by kernel_rfl
def s_math_bits_Div64 (fu : Nat) : Sig := ⟨227, [.d .u, .d .u, .d .u], [.d .u, .d .u], fun x => M_math_bits_Div64 fu x.1 x.2.1 x.2.2.1, 0⟩
theorem g_math_bits_Div64 (fu : Nat) : SigOK Tryz.prog (s_math_bits_Div64 fu) := sg (fu := fu) ⟨[], [], [(17, ⟨⟨[(15, .d .u), (16, .d .u)], []⟩, ⟨[], [(.x 0, ⟨[(15, .d .u)], []⟩)]⟩⟩), (24, ⟨⟨[(16, .d .u), (18, .d .u)], []⟩, ⟨[], [(.x 2, ⟨[(18, .d .u)], []⟩)]⟩⟩)], [], [], []⟩ Tryz.func227 (cC (g_math_bits_LeadingZeros64 fu) <| cN) (by kernel_rfl) fun x => by kernel_rfl
def s_math_bits_Mul64 (fu : Nat) : Sig := ⟨302, [.d .u, .d .u], [.d .u, .d .u], fun x => M_math_bits_Mul64 fu x.1 x.2.1, 0⟩
theorem g_math_bits_Mul64 (fu : Nat) : SigOK Tryz.prog (s_math_bits_Mul64 fu) := sg (fu := fu) ⟨[], [], [], [], [], []⟩ Tryz.func302 (cN) (by kernel_rfl) fun x => by kernel_rfl
def s_nat_guess (fu : Nat) : Sig := ⟨294, [.d .u, .d .u, .d .u, .d .u, .d .u], [.d .u], fun x => M_nat_guess fu x.1 x.2.1 x.2.2.1 x.2.2.2.1 x.2.2.2.2.1, 0⟩
theorem g_nat_guess (fu : Nat) : SigOK Tryz.prog (s_nat_guess fu) := sg (fu := fu) ⟨[], [], [(4, ⟨⟨[(11, .d .u), (12, .d .u)], []⟩, ⟨[], [(.r, ⟨[(10, .d .u)], []⟩)]⟩⟩)], [], [], []⟩ Tryz.func294 (cC (g_math_bits_Div64 fu) <| cC (g_math_bits_Mul64 fu) <| cN) (by kernel_rfl) fun x => by kernel_rfl
def s_nat_Sub_1 (fu : Nat) : Sig := ⟨218, [.d .i, .d .u, .q (.l .u), .q (.l .u)], [.d .u, .d .u], fun x => M_nat_Sub_1 fu x.1 x.2.1 x.2.2.1 x.2.2.2.1, 0⟩
theorem g_nat_Sub_1 (fu : Nat) : SigOK Tryz.prog (s_nat_Sub_1 fu) := sg (fu := fu) ⟨[], [], [], [], [], []⟩ Tryz.func218 (cC (g_nat_at fu) <| cN) (by kernel_rfl) fun x => by kernel_rfl
def s_nat_Sub (fu : Nat) : Sig := ⟨141, [.d (.l .u), .d (.l .u)], [.own .u 54, .d .i], fun x => M_nat_Sub fu x.1 x.2.1, 0⟩
theorem g_nat_Sub (fu : Nat) : SigOK Tryz.prog (s_nat_Sub fu) := sg (fu := fu) ⟨[], [], [], [], [], []⟩ Tryz.func141 (cC (g_nat_Sub_1 fu) <| cC (g_nat_carried fu) <| cC (g_nat_plain_own fu) <| cC (g_nat_plain fu) <| cN) (by kernel_rfl) fun x => by kernel_rfl
def s_nat_less (fu : Nat) : Sig := ⟨159, [.d (.l .u), .d (.l .u)], [.own .u 54], fun x => M_nat_less fu x.1 x.2.1, 0⟩
theorem g_nat_less (fu : Nat) : SigOK Tryz.prog (s_nat_less fu) := sg (fu := fu) ⟨[], [], [], [], [], []⟩ Tryz.func159 (cC (g_nat_Sub fu) <| cN) (by kernel_rfl) fun x => by kernel_rfl
def s_nat_row_1 (fu : Nat) : Sig := ⟨301, [.d .i, .d .u, .q (.l .u), .q .u], [.d .u, .d .u], fun x => M_nat_row_1 fu x.1 x.2.1 x.2.2.1 x.2.2.2.1, 0⟩
theorem g_nat_row_1 (fu : Nat) : SigOK Tryz.prog (s_nat_row_1 fu) := sg (fu := fu) ⟨[], [], [], [], [], []⟩ Tryz.func301 (cC (g_math_bits_Mul64 fu) <| cN) (by kernel_rfl) fun x => by kernel_rfl
def s_nat_row (fu : Nat) : Sig := ⟨225, [.d (.l .u), .d .u], [.own .u 54], fun x => M_nat_row fu x.1 x.2.1, 0⟩
theorem g_nat_row (fu : Nat) : SigOK Tryz.prog (s_nat_row fu) := sg (fu := fu) ⟨[], [], [], [], [], []⟩ Tryz.func225 (cC (g_nat_carried fu) <| cC (g_nat_row_1 fu) <| cN) (by kernel_rfl) fun x => by kernel_rfl
def s_nat_short (fu : Nat) : Sig := ⟨164, [.d (.l .u), .d .u], [.own .u 54, .d .u], fun x => M_nat_short fu x.1 x.2.1, 0⟩
theorem g_nat_short (fu : Nat) : SigOK Tryz.prog (s_nat_short fu) := sg (fu := fu) ⟨[], [], [(3, ⟨⟨[(7, .d .u), (8, .d .i), (6, .own .u 54)], []⟩, ⟨[], [(.x 0, ⟨[(7, .d .u), (6, .own .u 54)], []⟩)]⟩⟩)], [], [], []⟩ Tryz.func164 (cC (g_math_bits_Div64 fu) <| cC (g_nat_plain_own fu) <| cC (g_nat_plain fu) <| cN) (by kernel_rfl) fun x => by kernel_rfl
def s_nat_Div (fu : Nat) : Sig := ⟨203, [.d (.l .u), .d (.l .u)], [.own .u 54, .d (.l .u), .d .i], fun x => M_nat_Div fu x.1 x.2.1, 0⟩
theorem g_nat_Div (fu : Nat) : SigOK Tryz.prog (s_nat_Div fu) := sg (fu := fu) ⟨[], [(196612, ⟨[], [(.n, ⟨[(23, .d .b)], []⟩)]⟩), (327686, ⟨[], [(.n, ⟨[(27, .d .b)], []⟩)]⟩)], [(16, ⟨⟨[(10, .d (.l .u)), (16, .d .i), (12, .own .u 54), (15, .own .u 54)], []⟩, ⟨[], [(.x 1, ⟨[(12, .own .u 54), (15, .own .u 54)], []⟩)]⟩⟩), (20, ⟨⟨[(9, .d .i), (14, .d .i), (17, .d .u), (18, .d (.l .u))], []⟩, ⟨[12, 15], [(.x 3, ⟨[(9, .d .i), (14, .d .i), (17, .d .u), (18, .d (.l .u))], []⟩)]⟩⟩)], [(23, [149])], [129], []⟩ Tryz.func203 (cC (g_nat_row fu) <| cC (g_nat_short fu) <| cC (g_math_bits_LeadingZeros64 fu) <| cC (g_nat_guess fu) <| cC (g_nat_Shr fu) <| cC (g_nat_Cmp fu) <| cC (g_nat_Norm fu) <| cC (g_nat_Shl fu) <| cC (g_nat_plain_own fu) <| cC (g_nat_plain fu) <| cC (g_nat_less fu) <| cN) (by kernel_rfl) fun x => by kernel_rfl
def s_zint_made (fu : Nat) : Sig := ⟨81, [.d .b, .d (.l .u)], [.d (.p .b (.l .u))], fun x => M_zint_made fu x.1 x.2.1, 0⟩
theorem g_zint_made (fu : Nat) : SigOK Tryz.prog (s_zint_made fu) := sg (fu := fu) ⟨[], [], [], [], [], []⟩ Tryz.func81 (cC (g_nat_Norm fu) <| cN) (by kernel_rfl) fun x => by kernel_rfl
def s_zint_Div (fu : Nat) : Sig := ⟨137, [.d (.p .b (.l .u)), .d (.p .b (.l .u))], [.d (.p .b (.l .u)), .d (.p .b (.l .u)), .d .i], fun x => M_zint_Div fu x.1 x.2.1, 0⟩
theorem g_zint_Div (fu : Nat) : SigOK Tryz.prog (s_zint_Div fu) := sg (fu := fu) ⟨[], [(327688, ⟨[4, 5], [(.n, ⟨[(7, .own .u 54), (8, .d (.l .u))], []⟩)]⟩)], [], [], [], []⟩ Tryz.func137 (cC (g_zint_made fu) <| cC (g_nat_Div fu) <| cC (g_nat_Add fu) <| cC (g_nat_Sub fu) <| cN) (by kernel_rfl) fun x => by kernel_rfl
def s_zint_Norm (fu : Nat) : Sig := ⟨73, [.d (.p .b (.l .u))], [.d (.p .b (.l .u))], fun x => M_zint_Norm fu x.1, 0⟩
theorem g_zint_Norm (fu : Nat) : SigOK Tryz.prog (s_zint_Norm fu) := sg (fu := fu) ⟨[], [], [], [], [], []⟩ Tryz.func73 (cC (g_zint_made fu) <| cN) (by kernel_rfl) fun x => by kernel_rfl
def s_zint_Sign (fu : Nat) : Sig := ⟨70, [.d (.p .b (.l .u))], [.d .i], fun x => M_zint_Sign fu x.1, 0⟩
theorem g_zint_Sign (fu : Nat) : SigOK Tryz.prog (s_zint_Sign fu) := sg (fu := fu) ⟨[1], [], [], [], [], []⟩ Tryz.func70 (cC (g_zint_Norm fu) <| cN) (by kernel_rfl) fun x => by kernel_rfl
def s_zint_Exact (fu : Nat) : Sig := ⟨75, [.d (.p .b (.l .u)), .d (.p .b (.l .u))], [.d (.p .b (.l .u)), .d .i], fun x => M_zint_Exact fu x.1 x.2.1, 0⟩
theorem g_zint_Exact (fu : Nat) : SigOK Tryz.prog (s_zint_Exact fu) := sg (fu := fu) ⟨[], [(196612, ⟨[4, 6, 7], [(.n, ⟨[(16, .d .b)], []⟩)]⟩)], [], [], [], []⟩ Tryz.func75 (cC (g_zint_Div fu) <| cC (g_zint_Sign fu) <| cN) (by kernel_rfl) fun x => by kernel_rfl
def s_nat_school (fu : Nat) : Sig := ⟨158, [.d (.l .u), .d (.l .u)], [.own .u 54], fun x => M_nat_school fu x.1 x.2.1, 0⟩
theorem g_nat_school (fu : Nat) : SigOK Tryz.prog (s_nat_school fu) := sg (fu := fu) ⟨[], [(262149, ⟨[5], [(.n, ⟨[(0, .d (.l .u)), (18, .d (.l .u)), (19, .d .i), (21, .d .b)], []⟩)]⟩), (524297, ⟨[5, 27], [(.n, ⟨[(0, .d (.l .u)), (6, .d .i), (18, .d (.l .u)), (19, .d .i), (20, .d .i), (28, .d .i), (30, .d .b)], []⟩)]⟩)], [(3, ⟨⟨[(20, .d .i), (5, .own .u 54)], []⟩, ⟨[], [(.x 0, ⟨[(5, .own .u 54)], []⟩)]⟩⟩), (7, ⟨⟨[(8, .d .u), (29, .d .i), (5, .own .u 54), (27, .own .u 54)], []⟩, ⟨[], [(.x 2, ⟨[(5, .own .u 54)], []⟩)]⟩⟩)], [], [], []⟩ Tryz.func158 (cC (g_nat_row fu) <| cC (g_nat_plain_own fu) <| cC (g_nat_plain fu) <| cN) (by kernel_rfl) fun x => by kernel_rfl
def s_nat_Mul (fu : Nat) : Sig := ⟨102, [.d (.l .u), .d (.l .u)], [.own .u 54], fun x => M_nat_Mul fu x.1 x.2.1, 0⟩
theorem g_nat_Mul : ∀ fu : Nat, SigOK Tryz.prog (s_nat_Mul fu)
  | 0 => sg0 (by kernel_rfl) fun _ => rfl
  | fu + 1 => sg (fu := fu) ⟨[], [], [], [], [], []⟩ Tryz.func102 (cC (g_nat_moved fu) <| cC (g_nat_Mul fu) <| cC (g_nat_Add fu) <| cC (g_nat_plain_own fu) <| cC (g_nat_plain fu) <| cC (g_nat_school fu) <| cC (g_nat_less fu) <| cN) (by kernel_rfl) fun x => by kernel_rfl
def s_zint_Mul (fu : Nat) : Sig := ⟨78, [.d (.p .b (.l .u)), .d (.p .b (.l .u))], [.d (.p .b (.l .u))], fun x => M_zint_Mul fu x.1 x.2.1, 0⟩
theorem g_zint_Mul (fu : Nat) : SigOK Tryz.prog (s_zint_Mul fu) := sg (fu := fu) ⟨[], [], [], [], [], []⟩ Tryz.func78 (cC (g_zint_made fu) <| cC (g_nat_Mul fu) <| cN) (by kernel_rfl) fun x => by kernel_rfl
def s_zint_Add (fu : Nat) : Sig := ⟨77, [.d (.p .b (.l .u)), .d (.p .b (.l .u))], [.d (.p .b (.l .u))], fun x => M_zint_Add fu x.1 x.2.1, 0⟩
theorem g_zint_Add (fu : Nat) : SigOK Tryz.prog (s_zint_Add fu) := sg (fu := fu) ⟨[2, 3], [(262150, ⟨[4], [(.n, ⟨[(2, .var (.p .b (.l .u)) 30), (3, .var (.p .b (.l .u)) 30)], []⟩)]⟩)], [], [], [], []⟩ Tryz.func77 (cC (g_zint_made fu) <| cC (g_nat_Add fu) <| cC (g_nat_Cmp fu) <| cC (g_nat_Sub fu) <| cN) (by kernel_rfl) fun x => by kernel_rfl
def s_zint_Neg (fu : Nat) : Sig := ⟨131, [.d (.p .b (.l .u))], [.d (.p .b (.l .u))], fun x => M_zint_Neg fu x.1, 0⟩
theorem g_zint_Neg (fu : Nat) : SigOK Tryz.prog (s_zint_Neg fu) := sg (fu := fu) ⟨[], [], [], [], [], []⟩ Tryz.func131 (cC (g_zint_made fu) <| cN) (by kernel_rfl) fun x => by kernel_rfl
def s_zint_Sub (fu : Nat) : Sig := ⟨138, [.d (.p .b (.l .u)), .d (.p .b (.l .u))], [.d (.p .b (.l .u))], fun x => M_zint_Sub fu x.1 x.2.1, 0⟩
theorem g_zint_Sub (fu : Nat) : SigOK Tryz.prog (s_zint_Sub fu) := sg (fu := fu) ⟨[], [], [], [], [], []⟩ Tryz.func138 (cC (g_zint_Neg fu) <| cC (g_zint_Add fu) <| cN) (by kernel_rfl) fun x => by kernel_rfl
def s_zpoly_Norm_1 (fu : Nat) : Sig := ⟨72, [.d .i, .d (.p .b (.l .u))], [.d (.p .b (.l .u))], fun x => M_zpoly_Norm_1 fu x.1 x.2.1, 0⟩
theorem g_zpoly_Norm_1 (fu : Nat) : SigOK Tryz.prog (s_zpoly_Norm_1 fu) := sg (fu := fu) ⟨[], [], [], [], [], []⟩ Tryz.func72 (cC (g_zint_Norm fu) <| cN) (by kernel_rfl) fun x => by kernel_rfl
def s_zpoly_each_api_Int_api_Int (fu : Nat) : Sig := ⟨71, [.d (.l (.p .b (.l .u))), .fn [.i, (.p .b (.l .u))] [(.p .b (.l .u))]], [.own (.p .b (.l .u)) 30], fun x => M_zpoly_each_api_Int_api_Int fu x.1 (fun z0 z1 => x.2.1 (z0, z1, ())), 0⟩
theorem g_zpoly_each_api_Int_api_Int (fu : Nat) : SigOK Tryz.prog (s_zpoly_each_api_Int_api_Int fu) := sg (fu := fu) ⟨[], [(262149, ⟨[5], [(.n, ⟨[(11, .d (.l (.p .b (.l .u)))), (12, .d .i), (14, .d .b)], []⟩)]⟩)], [(3, ⟨⟨[(13, .d .i), (5, .own (.p .b (.l .u)) 30)], []⟩, ⟨[], [(.x 0, ⟨[(5, .own (.p .b (.l .u)) 30)], []⟩)]⟩⟩)], [], [], []⟩ Tryz.func71 (cN) (by kernel_rfl) fun x => by kernel_rfl
def s_zpoly_Norm (fu : Nat) : Sig := ⟨21, [.d (.l (.p .b (.l .u)))], [.own (.p .b (.l .u)) 30], fun x => M_zpoly_Norm fu x.1, 0⟩
theorem g_zpoly_Norm (fu : Nat) : SigOK Tryz.prog (s_zpoly_Norm fu) := sg (fu := fu) ⟨[], [], [(1, ⟨⟨[(0, .d (.l (.p .b (.l .u))))], []⟩, ⟨[], [(.x 0, ⟨[(0, .d (.l (.p .b (.l .u))))], []⟩)]⟩⟩)], [], [], []⟩ Tryz.func21 (cC (g_zpoly_Norm_1 fu) <| cC (g_zint_Sign fu) <| cC (g_zpoly_each_api_Int_api_Int fu) <| cN) (by kernel_rfl) fun x => by kernel_rfl
def s_zpoly_Div (fu : Nat) : Sig := ⟨129, [.d (.l (.p .b (.l .u))), .d (.l (.p .b (.l .u)))], [.own (.p .b (.l .u)) 30, .d .i], fun x => M_zpoly_Div fu x.1 x.2.1, 0⟩
theorem g_zpoly_Div (fu : Nat) : SigOK Tryz.prog (s_zpoly_Div fu) := sg (fu := fu) ⟨[], [(327687, ⟨[1, 6], [(.n, ⟨[], []⟩), (.r, ⟨[], [(4, .nil), (5, .ci 4)]⟩)]⟩), (1048593, ⟨[1, 6, 7, 9], [(.n, ⟨[(8, .d .i), (71, .d .i), (73, .d .b)], []⟩)]⟩)], [(8, ⟨⟨[(8, .d .i), (1, .own (.p .b (.l .u)) 30), (6, .own (.p .b (.l .u)) 30), (7, .own (.p .b (.l .u)) 30)], []⟩, ⟨[], [(.x 0, ⟨[(6, .own (.p .b (.l .u)) 30), (7, .own (.p .b (.l .u)) 30)], []⟩), (.r, ⟨[(5, .d .i)], [(4, .nil)]⟩)]⟩⟩), (15, ⟨⟨[(72, .d .i), (1, .own (.p .b (.l .u)) 30), (6, .own (.p .b (.l .u)) 30), (7, .own (.p .b (.l .u)) 30), (9, .var (.p .b (.l .u)) 30)], [(70, .al 1)]⟩, ⟨[], [(.x 2, ⟨[(1, .own (.p .b (.l .u)) 30), (6, .own (.p .b (.l .u)) 30), (7, .own (.p .b (.l .u)) 30)], []⟩)]⟩⟩)], [(10, [])], [], []⟩ Tryz.func129 (cC (g_zint_Sub fu) <| cC (g_zint_Exact fu) <| cC (g_zpoly_Norm fu) <| cC (g_zint_Mul fu) <| cN) (by kernel_rfl) fun x => by kernel_rfl
def s_zfac_often (fu : Nat) : Sig := ⟨61, [.d (.l (.p .b (.l .u))), .d (.l (.p .b (.l .u)))], [.d .i], fun x => M_zfac_often fu x.1 x.2.1, 0⟩
theorem g_zfac_often (fu : Nat) : SigOK Tryz.prog (s_zfac_often fu) := sg (fu := fu) ⟨[], [], [(3, ⟨⟨[(5, .d .i), (6, .own (.p .b (.l .u)) 30), (7, .d .i)], []⟩, ⟨[], [(.x 0, ⟨[(5, .d .i)], []⟩)]⟩⟩)], [], [], []⟩ Tryz.func61 (cC (g_zpoly_Div fu) <| cN) (by kernel_rfl) fun x => by kernel_rfl
def s_prime_Is (fu : Nat) : Sig := ⟨188, [.d .i], [.d .b], fun x => M_prime_Is fu x.1, 0⟩
theorem g_prime_Is (fu : Nat) : SigOK Tryz.prog (s_prime_Is fu) := sg (fu := fu) ⟨[], [(131075, ⟨[], [(.n, ⟨[(3, .d .b)], []⟩)]⟩)], [(3, ⟨⟨[(3, .d .b), (4, .d .i)], []⟩, ⟨[], [(.x 0, ⟨[(3, .d .b)], []⟩)]⟩⟩)], [], [], []⟩ Tryz.func188 (cN) (by kernel_rfl) fun x => by kernel_rfl
def s_zint_Of (fu : Nat) : Sig := ⟨28, [.d .i], [.d (.p .b (.l .u))], fun x => M_zint_Of fu x.1, 0⟩
theorem g_zint_Of (fu : Nat) : SigOK Tryz.prog (s_zint_Of fu) := sg (fu := fu) ⟨[], [], [], [], [], []⟩ Tryz.func28 (cC (g_zint_made fu) <| cN) (by kernel_rfl) fun x => by kernel_rfl
def s_nat_Bits (fu : Nat) : Sig := ⟨183, [.d (.l .u)], [.d .i], fun x => M_nat_Bits fu x.1, 0⟩
theorem g_nat_Bits (fu : Nat) : SigOK Tryz.prog (s_nat_Bits fu) := sg (fu := fu) ⟨[], [], [], [], [], []⟩ Tryz.func183 (cC (g_math_bits_Len64 fu) <| cC (g_nat_plain_own fu) <| cC (g_nat_plain fu) <| cN) (by kernel_rfl) fun x => by kernel_rfl
def s_zint_Pow (fu : Nat) : Sig := ⟨189, [.d (.p .b (.l .u)), .d .i], [.d (.p .b (.l .u)), .d .i], fun x => M_zint_Pow fu x.1 x.2.1, 0⟩
theorem g_zint_Pow (fu : Nat) : SigOK Tryz.prog (s_zint_Pow fu) := sg (fu := fu) ⟨[], [(131075, ⟨[4], [(.n, ⟨[(8, .d .b)], []⟩)]⟩)], [(7, ⟨⟨[(1, .d .i), (7, .var (.p .b (.l .u)) 30), (6, .var (.p .b (.l .u)) 30)], []⟩, ⟨[4], [(.x 1, ⟨[(6, .var (.p .b (.l .u)) 30)], []⟩)]⟩⟩)], [], [], []⟩ Tryz.func189 (cC (g_zint_Norm fu) <| cC (g_zint_Of fu) <| cC (g_zint_Mul fu) <| cC (g_nat_Bits fu) <| cN) (by kernel_rfl) fun x => by kernel_rfl
def s_hensel_Power (fu : Nat) : Sig := ⟨123, [.d .i, .d .i], [.d (.p .b (.l .u)), .d .i], fun x => M_hensel_Power fu x.1 x.2.1, 0⟩
theorem g_hensel_Power (fu : Nat) : SigOK Tryz.prog (s_hensel_Power fu) := sg (fu := fu) ⟨[], [], [], [], [], []⟩ Tryz.func123 (cC (g_prime_Is fu) <| cC (g_zint_Of fu) <| cC (g_zint_Pow fu) <| cN) (by kernel_rfl) fun x => by kernel_rfl
def s_hensel_rests (fu : Nat) : Sig := ⟨336, [.d (.l (.p .b (.l .u))), .d (.p .b (.l .u)), .fn [(.p .b (.l .u)), (.p .b (.l .u))] [(.p .b (.l .u)), .i]], [.own (.p .b (.l .u)) 30, .d .i], fun x => M_hensel_rests fu x.1 x.2.1 (fun z0 z1 => x.2.2.1 (z0, z1, ())), 0⟩
theorem g_hensel_rests (fu : Nat) : SigOK Tryz.prog (s_hensel_rests fu) := sg (fu := fu) ⟨[], [(393223, ⟨[8], [(.n, ⟨[(4, .q (.p .b (.l .u))), (17, .d (.l (.p .b (.l .u)))), (18, .d .i), (20, .d .b)], []⟩)]⟩)], [(5, ⟨⟨[(19, .d .i), (8, .own (.p .b (.l .u)) 30)], []⟩, ⟨[], [(.x 0, ⟨[(8, .own (.p .b (.l .u)) 30)], []⟩)]⟩⟩)], [], [], []⟩ Tryz.func336 (cC (g_zpoly_Norm fu) <| cC (g_zint_Sign fu) <| cN) (by kernel_rfl) fun x => by kernel_rfl
def s_prime_Rest (fu : Nat) : Sig := ⟨313, [.d (.p .b (.l .u)), .d (.p .b (.l .u))], [.d (.p .b (.l .u)), .d .i], fun x => M_prime_Rest fu x.1 x.2.1, 0⟩
theorem g_prime_Rest (fu : Nat) : SigOK Tryz.prog (s_prime_Rest fu) := sg (fu := fu) ⟨[], [], [], [], [], []⟩ Tryz.func313 (cC (g_zint_Div fu) <| cC (g_zint_Sign fu) <| cN) (by kernel_rfl) fun x => by kernel_rfl
def s_hensel_Red (fu : Nat) : Sig := ⟨279, [.d (.l (.p .b (.l .u))), .d (.p .b (.l .u))], [.own (.p .b (.l .u)) 30, .d .i], fun x => M_hensel_Red fu x.1 x.2.1, 0⟩
theorem g_hensel_Red (fu : Nat) : SigOK Tryz.prog (s_hensel_Red fu) := sg (fu := fu) ⟨[], [], [], [], [], []⟩ Tryz.func279 (cC (g_hensel_rests fu) <| cC (g_prime_Rest fu) <| cN) (by kernel_rfl) fun x => by kernel_rfl
def s_hensel_red (fu : Nat) : Sig := ⟨197, [.d (.l (.p .b (.l .u))), .d (.p .b (.l .u))], [.own (.p .b (.l .u)) 30], fun x => M_hensel_red fu x.1 x.2.1, 0⟩
theorem g_hensel_red (fu : Nat) : SigOK Tryz.prog (s_hensel_red fu) := sg (fu := fu) ⟨[], [], [], [], [], []⟩ Tryz.func197 (cC (g_hensel_Red fu) <| cN) (by kernel_rfl) fun x => by kernel_rfl
def s_fp_Check (fu : Nat) : Sig := ⟨268, [.d .i], [.d .i], fun x => M_fp_Check fu x.1, 0⟩
theorem g_fp_Check (fu : Nat) : SigOK Tryz.prog (s_fp_Check fu) := sg (fu := fu) ⟨[], [], [], [], [], []⟩ Tryz.func268 (cC (g_prime_Is fu) <| cN) (by kernel_rfl) fun x => by kernel_rfl
def s_fp_Red (fu : Nat) : Sig := ⟨317, [.d .i, .d .i], [.d .i], fun x => M_fp_Red fu x.1 x.2.1, 0⟩
theorem g_fp_Red (fu : Nat) : SigOK Tryz.prog (s_fp_Red fu) := sg (fu := fu) ⟨[], [], [], [], [], []⟩ Tryz.func317 (cN) (by kernel_rfl) fun x => by kernel_rfl
def s_fp_Inv (fu : Nat) : Sig := ⟨329, [.d .i, .d .i], [.d .i, .d .i], fun x => M_fp_Inv fu x.1 x.2.1, 0⟩
theorem g_fp_Inv (fu : Nat) : SigOK Tryz.prog (s_fp_Inv fu) := sg (fu := fu) ⟨[], [], [(5, ⟨⟨[(7, .d .i), (8, .d .i), (9, .d .i), (10, .d .i)], []⟩, ⟨[], [(.x 0, ⟨[(10, .d .i)], []⟩), (.r, ⟨[], [(4, .ci 0), (5, .ci 3)]⟩)]⟩⟩)], [], [], []⟩ Tryz.func329 (cC (g_fp_Check fu) <| cC (g_fp_Red fu) <| cN) (by kernel_rfl) fun x => by kernel_rfl
def s_fpoly_plain (fu : Nat) : Sig := ⟨269, [.d (.l .i), .d .i], [.own .i 3], fun x => M_fpoly_plain fu x.1 x.2.1, 0⟩
theorem g_fpoly_plain (fu : Nat) : SigOK Tryz.prog (s_fpoly_plain fu) := sg (fu := fu) ⟨[], [], [(3, ⟨⟨[(13, .d .i), (5, .own .i 3)], []⟩, ⟨[], [(.x 0, ⟨[(5, .own .i 3)], []⟩)]⟩⟩), (7, ⟨⟨[(5, .own .i 3)], []⟩, ⟨[], [(.x 2, ⟨[(5, .own .i 3)], []⟩)]⟩⟩)], [], [], []⟩ Tryz.func269 (cC (g_fp_Red fu) <| cN) (by kernel_rfl) fun x => by kernel_rfl
def s_fpoly_divided (fu : Nat) : Sig := ⟨270, [.d (.l .i), .d (.l .i), .d .i], [.own .i 3, .own .i 3], fun x => M_fpoly_divided fu x.1 x.2.1 x.2.2.1, 0⟩
theorem g_fpoly_divided (fu : Nat) : SigOK Tryz.prog (s_fpoly_divided fu) := sg (fu := fu) ⟨[], [(851982, ⟨[8, 12], [(.n, ⟨[(9, .d .i), (13, .d .i), (61, .d (.l .i)), (62, .d .i), (64, .d .b)], []⟩)]⟩)], [(7, ⟨⟨[(9, .d .i), (8, .own .i 3), (12, .own .i 3)], []⟩, ⟨[], [(.x 0, ⟨[(8, .own .i 3), (12, .own .i 3)], []⟩)]⟩⟩), (12, ⟨⟨[(1, .d (.l .i)), (2, .d .i), (10, .d .i), (63, .d .i), (8, .own .i 3), (12, .own .i 3)], []⟩, ⟨[], [(.x 2, ⟨[(1, .d (.l .i)), (2, .d .i), (10, .d .i), (8, .own .i 3), (12, .own .i 3)], []⟩)]⟩⟩)], [], [], []⟩ Tryz.func270 (cC (g_fp_Inv fu) <| cC (g_fpoly_plain fu) <| cN) (by kernel_rfl) fun x => by kernel_rfl
def s_fpoly_product (fu : Nat) : Sig := ⟨330, [.d (.l .i), .d (.l .i), .d .i], [.own .i 3], fun x => M_fpoly_product fu x.1 x.2.1 x.2.2.1, 0⟩
theorem g_fpoly_product (fu : Nat) : SigOK Tryz.prog (s_fpoly_product fu) := sg (fu := fu) ⟨[], [(262149, ⟨[7], [(.n, ⟨[(1, .d (.l .i)), (2, .d .i), (18, .d (.l .i)), (19, .d .i), (21, .d .b)], []⟩)]⟩), (458760, ⟨[7], [(.n, ⟨[(1, .d (.l .i)), (2, .d .i), (8, .d .i), (9, .d .i), (18, .d (.l .i)), (19, .d .i), (20, .d .i), (25, .d (.l .i)), (26, .d .i), (28, .d .b)], []⟩)]⟩)], [(3, ⟨⟨[(20, .d .i), (7, .own .i 3)], []⟩, ⟨[], [(.x 0, ⟨[(7, .own .i 3)], []⟩)]⟩⟩), (6, ⟨⟨[(27, .d .i), (7, .own .i 3)], []⟩, ⟨[], [(.x 2, ⟨[(7, .own .i 3)], []⟩)]⟩⟩)], [], [], []⟩ Tryz.func330 (cC (g_fpoly_plain fu) <| cN) (by kernel_rfl) fun x => by kernel_rfl
def s_fpoly_sum (fu : Nat) : Sig := ⟨371, [.d (.l .i), .d (.l .i), .d .i, .d .i], [.own .i 3], fun x => M_fpoly_sum fu x.1 x.2.1 x.2.2.1 x.2.2.2.1, 0⟩
theorem g_fpoly_sum (fu : Nat) : SigOK Tryz.prog (s_fpoly_sum fu) := sg (fu := fu) ⟨[], [(327686, ⟨[9], [(.n, ⟨[(2, .d .i), (3, .d .i), (21, .d (.l .i)), (22, .d .i), (24, .d .b)], []⟩)]⟩)], [(4, ⟨⟨[(23, .d .i), (9, .own .i 3)], []⟩, ⟨[], [(.x 0, ⟨[(9, .own .i 3)], []⟩)]⟩⟩)], [], [], []⟩ Tryz.func371 (cC (g_fpoly_plain fu) <| cN) (by kernel_rfl) fun x => by kernel_rfl
def s_fpoly_next (fu : Nat) : Sig := ⟨333, [.d (.a 3 (.l .i)), .d (.a 3 (.l .i)), .d .i], [.d (.a 3 (.l .i))], fun x => M_fpoly_next fu x.1 x.2.1 x.2.2.1, 0⟩
theorem g_fpoly_next (fu : Nat) : SigOK Tryz.prog (s_fpoly_next fu) := sg (fu := fu) ⟨[3], [(262149, ⟨[3, 6], [(.n, ⟨[(2, .d .i), (4, .q (.a 3 (.l .i))), (20, .d .b)], []⟩)]⟩)], [(3, ⟨⟨[(7, .d (.l .i)), (19, .d .i), (3, .var (.a 3 (.l .i)) 286), (6, .var (.a 3 (.l .i)) 286)], []⟩, ⟨[8], [(.x 0, ⟨[(3, .var (.a 3 (.l .i)) 286), (6, .var (.a 3 (.l .i)) 286)], []⟩)]⟩⟩)], [], [], []⟩ Tryz.func333 (cC (g_fpoly_product fu) <| cC (g_fpoly_sum fu) <| cC (g_fpoly_divided fu) <| cN) (by kernel_rfl) fun x => by kernel_rfl
def s_fpoly_scaled (fu : Nat) : Sig := ⟨334, [.d (.l .i), .d .i, .d .i], [.own .i 3], fun x => M_fpoly_scaled fu x.1 x.2.1 x.2.2.1, 0⟩
theorem g_fpoly_scaled (fu : Nat) : SigOK Tryz.prog (s_fpoly_scaled fu) := sg (fu := fu) ⟨[], [], [], [], [], []⟩ Tryz.func334 (cC (g_fp_Inv fu) <| cC (g_fpoly_product fu) <| cN) (by kernel_rfl) fun x => by kernel_rfl
def s_fpoly_Bezout (fu : Nat) : Sig := ⟨277, [.d (.l .i), .d (.l .i), .d .i], [.d (.l .i), .d (.l .i), .d (.l .i), .d .i], fun x => M_fpoly_Bezout fu x.1 x.2.1 x.2.2.1, 0⟩
theorem g_fpoly_Bezout (fu : Nat) : SigOK Tryz.prog (s_fpoly_Bezout fu) := sg (fu := fu) ⟨[], [(589834, ⟨[11], [(.n, ⟨[(44, .d .b)], []⟩)]⟩)], [(5, ⟨⟨[(11, .var (.a 3 (.l .i)) 286), (12, .var (.a 3 (.l .i)) 286)], []⟩, ⟨[], [(.x 0, ⟨[(11, .var (.a 3 (.l .i)) 286)], []⟩)]⟩⟩), (11, ⟨⟨[(51, .d .i), (11, .var (.a 3 (.l .i)) 286)], []⟩, ⟨[], [(.x 2, ⟨[(11, .var (.a 3 (.l .i)) 286)], []⟩)]⟩⟩)], [], [], []⟩ Tryz.func277 (cC (g_fpoly_next fu) <| cC (g_fp_Check fu) <| cC (g_fpoly_plain fu) <| cC (g_fpoly_scaled fu) <| cN) (by kernel_rfl) fun x => by kernel_rfl
def s_fpoly_Gcd (fu : Nat) : Sig := ⟨272, [.d (.l .i), .d (.l .i), .d .i], [.d (.l .i), .d .i], fun x => M_fpoly_Gcd fu x.1 x.2.1 x.2.2.1, 0⟩
theorem g_fpoly_Gcd (fu : Nat) : SigOK Tryz.prog (s_fpoly_Gcd fu) := sg (fu := fu) ⟨[], [], [], [], [], []⟩ Tryz.func272 (cC (g_fpoly_Bezout fu) <| cN) (by kernel_rfl) fun x => by kernel_rfl
def s_fpoly_Mul (fu : Nat) : Sig := ⟨273, [.d (.l .i), .d (.l .i), .d .i], [.own .i 3, .d .i], fun x => M_fpoly_Mul fu x.1 x.2.1 x.2.2.1, 0⟩
theorem g_fpoly_Mul (fu : Nat) : SigOK Tryz.prog (s_fpoly_Mul fu) := sg (fu := fu) ⟨[], [], [], [], [], []⟩ Tryz.func273 (cC (g_fpoly_product fu) <| cC (g_fp_Check fu) <| cC (g_fpoly_plain fu) <| cN) (by kernel_rfl) fun x => by kernel_rfl
def s_fpoly_Sub (fu : Nat) : Sig := ⟨331, [.d (.l .i), .d (.l .i), .d .i], [.own .i 3, .d .i], fun x => M_fpoly_Sub fu x.1 x.2.1 x.2.2.1, 0⟩
theorem g_fpoly_Sub (fu : Nat) : SigOK Tryz.prog (s_fpoly_Sub fu) := sg (fu := fu) ⟨[], [], [], [], [], []⟩ Tryz.func331 (cC (g_fpoly_sum fu) <| cC (g_fp_Check fu) <| cC (g_fpoly_plain fu) <| cN) (by kernel_rfl) fun x => by kernel_rfl
def s_hensel_equal (fu : Nat) : Sig := ⟨275, [.d (.l .i), .d (.l .i), .d .i], [.d .b], fun x => M_hensel_equal fu x.1 x.2.1 x.2.2.1, 0⟩
theorem g_hensel_equal (fu : Nat) : SigOK Tryz.prog (s_hensel_equal fu) := sg (fu := fu) ⟨[], [], [], [], [], []⟩ Tryz.func275 (cC (g_fpoly_Sub fu) <| cN) (by kernel_rfl) fun x => by kernel_rfl
def s_hensel_plain (fu : Nat) : Sig := ⟨271, [.d (.l .i), .d .i], [.d .b], fun x => M_hensel_plain fu x.1 x.2.1, 0⟩
theorem g_hensel_plain (fu : Nat) : SigOK Tryz.prog (s_hensel_plain fu) := sg (fu := fu) ⟨[], [], [(2, ⟨⟨[(9, .d .i)], []⟩, ⟨[], [(.x 0, ⟨[], []⟩), (.r, ⟨[], [(4, .kb false)]⟩)]⟩⟩)], [], [], []⟩ Tryz.func271 (cN) (by kernel_rfl) fun x => by kernel_rfl
def s_hensel_product (fu : Nat) : Sig := ⟨274, [.d (.l (.l .i)), .d .i], [.own .i 3], fun x => M_hensel_product fu x.1 x.2.1, 0⟩
theorem g_hensel_product (fu : Nat) : SigOK Tryz.prog (s_hensel_product fu) := sg (fu := fu) ⟨[], [], [(3, ⟨⟨[(5, .own .i 3), (11, .d .i)], []⟩, ⟨[], [(.x 0, ⟨[(5, .own .i 3)], []⟩)]⟩⟩)], [], [], []⟩ Tryz.func274 (cC (g_fpoly_Mul fu) <| cN) (by kernel_rfl) fun x => by kernel_rfl
def s_zint_Small (fu : Nat) : Sig := ⟨314, [.d (.p .b (.l .u))], [.d .i, .d .b], fun x => M_zint_Small fu x.1, 0⟩
theorem g_zint_Small (fu : Nat) : SigOK Tryz.prog (s_zint_Small fu) := sg (fu := fu) ⟨[1], [(196612, ⟨[1], [(.n, ⟨[(6, .d .b)], []⟩)]⟩), (327686, ⟨[1], [(.n, ⟨[(11, .d .b)], []⟩)]⟩), (458760, ⟨[1], [(.n, ⟨[(16, .d .b)], []⟩)]⟩)], [], [], [], []⟩ Tryz.func314 (cC (g_zint_Norm fu) <| cN) (by kernel_rfl) fun x => by kernel_rfl
def s_prime_Mod (fu : Nat) : Sig := ⟨256, [.d (.p .b (.l .u)), .d .i], [.d .i, .d .i], fun x => M_prime_Mod fu x.1 x.2.1, 0⟩
theorem g_prime_Mod (fu : Nat) : SigOK Tryz.prog (s_prime_Mod fu) := sg (fu := fu) ⟨[], [], [], [(1, [])], [], []⟩ Tryz.func256 (cC (g_prime_Rest fu) <| cC (g_zint_Small fu) <| cC (g_zint_Of fu) <| cN) (by kernel_rfl) fun x => by kernel_rfl
def s_zpoly_Mod_1 (fu : Nat) : Sig := ⟨255, [.d .i, .d (.p .b (.l .u)), .q .i], [.d .i], fun x => M_zpoly_Mod_1 fu x.1 x.2.1 x.2.2.1, 0⟩
theorem g_zpoly_Mod_1 (fu : Nat) : SigOK Tryz.prog (s_zpoly_Mod_1 fu) := sg (fu := fu) ⟨[], [], [], [], [], []⟩ Tryz.func255 (cC (g_prime_Mod fu) <| cN) (by kernel_rfl) fun x => by kernel_rfl
def s_zpoly_each_api_Int_int (fu : Nat) : Sig := ⟨254, [.d (.l (.p .b (.l .u))), .fn [.i, (.p .b (.l .u))] [.i]], [.own .i 3], fun x => M_zpoly_each_api_Int_int fu x.1 (fun z0 z1 => x.2.1 (z0, z1, ())), 0⟩
theorem g_zpoly_each_api_Int_int (fu : Nat) : SigOK Tryz.prog (s_zpoly_each_api_Int_int fu) := sg (fu := fu) ⟨[], [(262149, ⟨[5], [(.n, ⟨[(11, .d (.l (.p .b (.l .u)))), (12, .d .i), (14, .d .b)], []⟩)]⟩)], [(3, ⟨⟨[(13, .d .i), (5, .own .i 3)], []⟩, ⟨[], [(.x 0, ⟨[(5, .own .i 3)], []⟩)]⟩⟩)], [], [], []⟩ Tryz.func254 (cN) (by kernel_rfl) fun x => by kernel_rfl
def s_zpoly_Mod (fu : Nat) : Sig := ⟨186, [.d (.l (.p .b (.l .u))), .d .i], [.own .i 3, .d .i], fun x => M_zpoly_Mod fu x.1 x.2.1, 0⟩
theorem g_zpoly_Mod (fu : Nat) : SigOK Tryz.prog (s_zpoly_Mod fu) := sg (fu := fu) ⟨[], [], [(4, ⟨⟨[(6, .own .i 3)], []⟩, ⟨[], [(.x 0, ⟨[(6, .own .i 3)], []⟩)]⟩⟩)], [], [], []⟩ Tryz.func186 (cC (g_zpoly_each_api_Int_int fu) <| cC (g_zpoly_Mod_1 fu) <| cN) (by kernel_rfl) fun x => by kernel_rfl
def s_hensel_right (fu : Nat) : Sig := ⟨195, [.d (.l (.p .b (.l .u))), .d (.l (.l .i)), .d .i], [.d .b], fun x => M_hensel_right fu x.1 x.2.1 x.2.2.1, 0⟩
theorem g_hensel_right (fu : Nat) : SigOK Tryz.prog (s_hensel_right fu) := sg (fu := fu) ⟨[], [(393223, ⟨[7], [(.n, ⟨[(0, .d (.l (.p .b (.l .u)))), (1, .d (.l (.l .i))), (2, .d .i), (40, .d (.l (.l .i))), (41, .d .i), (43, .d .b)], []⟩)]⟩)], [(5, ⟨⟨[(42, .d .i), (7, .own .i 3)], []⟩, ⟨[], [(.x 0, ⟨[(7, .own .i 3)], []⟩), (.r, ⟨[], [(6, .kb false)]⟩)]⟩⟩), (10, ⟨⟨[(62, .d .i)], []⟩, ⟨[7], [(.x 2, ⟨[], []⟩), (.r, ⟨[], [(6, .kb false)]⟩)]⟩⟩)], [], [], []⟩ Tryz.func195 (cC (g_hensel_plain fu) <| cC (g_fpoly_Gcd fu) <| cC (g_fpoly_Mul fu) <| cC (g_hensel_product fu) <| cC (g_hensel_equal fu) <| cC (g_zpoly_Mod fu) <| cN) (by kernel_rfl) fun x => by kernel_rfl
def s_hensel_divided (fu : Nat) : Sig := ⟨335, [.d (.l (.p .b (.l .u))), .d (.l (.p .b (.l .u))), .d (.p .b (.l .u))], [.d (.l (.p .b (.l .u))), .own (.p .b (.l .u)) 30], fun x => M_hensel_divided fu x.1 x.2.1 x.2.2.1, 0⟩
theorem g_hensel_divided (fu : Nat) : SigOK Tryz.prog (s_hensel_divided fu) := sg (fu := fu) ⟨[], [(589834, ⟨[8, 9], [(.n, ⟨[(10, .d .i), (47, .d (.l (.p .b (.l .u)))), (48, .d .i), (50, .d .b)], []⟩)]⟩)], [(4, ⟨⟨[(10, .d .i), (8, .own (.p .b (.l .u)) 30), (9, .own (.p .b (.l .u)) 30)], []⟩, ⟨[], [(.x 0, ⟨[(8, .own (.p .b (.l .u)) 30), (9, .own (.p .b (.l .u)) 30)], []⟩)]⟩⟩), (8, ⟨⟨[(1, .d (.l (.p .b (.l .u)))), (5, .q (.p .b (.l .u))), (49, .d .i), (8, .own (.p .b (.l .u)) 30), (9, .own (.p .b (.l .u)) 30)], []⟩, ⟨[], [(.x 2, ⟨[(1, .d (.l (.p .b (.l .u)))), (5, .q (.p .b (.l .u))), (8, .own (.p .b (.l .u)) 30), (9, .own (.p .b (.l .u)) 30)], []⟩)]⟩⟩)], [(6, [])], [], []⟩ Tryz.func335 (cC (g_prime_Rest fu) <| cC (g_zint_Sub fu) <| cC (g_hensel_red fu) <| cC (g_zint_Mul fu) <| cN) (by kernel_rfl) fun x => by kernel_rfl
def s_zpoly_Add_1 (fu : Nat) : Sig := ⟨348, [.d .i, .d (.p .b (.l .u)), .q (.l (.p .b (.l .u)))], [.d (.p .b (.l .u))], fun x => M_zpoly_Add_1 fu x.1 x.2.1 x.2.2.1, 0⟩
theorem g_zpoly_Add_1 (fu : Nat) : SigOK Tryz.prog (s_zpoly_Add_1 fu) := sg (fu := fu) ⟨[], [], [], [], [], []⟩ Tryz.func348 (cC (g_zint_Add fu) <| cN) (by kernel_rfl) fun x => by kernel_rfl
def s_zpoly_Add (fu : Nat) : Sig := ⟨309, [.d (.l (.p .b (.l .u))), .d (.l (.p .b (.l .u)))], [.own (.p .b (.l .u)) 30], fun x => M_zpoly_Add fu x.1 x.2.1, 0⟩
theorem g_zpoly_Add (fu : Nat) : SigOK Tryz.prog (s_zpoly_Add fu) := sg (fu := fu) ⟨[3], [], [], [], [], []⟩ Tryz.func309 (cC (g_zpoly_Add_1 fu) <| cC (g_zpoly_Norm fu) <| cC (g_zpoly_each_api_Int_api_Int fu) <| cN) (by kernel_rfl) fun x => by kernel_rfl
def s_zpoly_Mul (fu : Nat) : Sig := ⟨25, [.d (.l (.p .b (.l .u))), .d (.l (.p .b (.l .u)))], [.own (.p .b (.l .u)) 30], fun x => M_zpoly_Mul fu x.1 x.2.1, 0⟩
theorem g_zpoly_Mul (fu : Nat) : SigOK Tryz.prog (s_zpoly_Mul fu) := sg (fu := fu) ⟨[], [(262149, ⟨[5], [(.n, ⟨[(1, .d (.l (.p .b (.l .u)))), (16, .d (.l (.p .b (.l .u)))), (17, .d .i), (19, .d .b)], []⟩)]⟩), (458760, ⟨[5, 7], [(.n, ⟨[(1, .d (.l (.p .b (.l .u)))), (6, .d .i), (16, .d (.l (.p .b (.l .u)))), (17, .d .i), (18, .d .i), (23, .d (.l (.p .b (.l .u)))), (24, .d .i), (26, .d .b)], []⟩)]⟩)], [(3, ⟨⟨[(18, .d .i), (5, .own (.p .b (.l .u)) 30)], []⟩, ⟨[], [(.x 0, ⟨[(5, .own (.p .b (.l .u)) 30)], []⟩)]⟩⟩), (6, ⟨⟨[(25, .d .i), (5, .own (.p .b (.l .u)) 30), (7, .var (.p .b (.l .u)) 30)], []⟩, ⟨[], [(.x 2, ⟨[(5, .own (.p .b (.l .u)) 30)], []⟩)]⟩⟩)], [], [], []⟩ Tryz.func25 (cC (g_zpoly_Norm fu) <| cC (g_zint_Add fu) <| cC (g_zint_Mul fu) <| cN) (by kernel_rfl) fun x => by kernel_rfl
def s_zpoly_Lift_1 (fu : Nat) : Sig := ⟨143, [.d .i, .d .i], [.d (.p .b (.l .u))], fun x => M_zpoly_Lift_1 fu x.1 x.2.1, 0⟩
theorem g_zpoly_Lift_1 (fu : Nat) : SigOK Tryz.prog (s_zpoly_Lift_1 fu) := sg (fu := fu) ⟨[], [], [], [], [], []⟩ Tryz.func143 (cC (g_zint_Of fu) <| cN) (by kernel_rfl) fun x => by kernel_rfl
def s_zpoly_each_int_api_Int (fu : Nat) : Sig := ⟨142, [.d (.l .i), .fn [.i, .i] [(.p .b (.l .u))]], [.own (.p .b (.l .u)) 30], fun x => M_zpoly_each_int_api_Int fu x.1 (fun z0 z1 => x.2.1 (z0, z1, ())), 0⟩
theorem g_zpoly_each_int_api_Int (fu : Nat) : SigOK Tryz.prog (s_zpoly_each_int_api_Int fu) := sg (fu := fu) ⟨[], [], [(3, ⟨⟨[(13, .d .i), (5, .own (.p .b (.l .u)) 30)], []⟩, ⟨[], [(.x 0, ⟨[(5, .own (.p .b (.l .u)) 30)], []⟩)]⟩⟩)], [], [], []⟩ Tryz.func142 (cN) (by kernel_rfl) fun x => by kernel_rfl
def s_zpoly_Lift (fu : Nat) : Sig := ⟨80, [.d (.l .i)], [.own (.p .b (.l .u)) 30], fun x => M_zpoly_Lift fu x.1, 0⟩
theorem g_zpoly_Lift (fu : Nat) : SigOK Tryz.prog (s_zpoly_Lift fu) := sg (fu := fu) ⟨[], [], [], [], [], []⟩ Tryz.func80 (cC (g_zpoly_Norm fu) <| cC (g_zpoly_each_int_api_Int fu) <| cC (g_zpoly_Lift_1 fu) <| cN) (by kernel_rfl) fun x => by kernel_rfl
def s_zpoly_Of (fu : Nat) : Sig := ⟨27, [.d (.l .i)], [.own (.p .b (.l .u)) 30], fun x => M_zpoly_Of fu x.1, 0⟩
theorem g_zpoly_Of (fu : Nat) : SigOK Tryz.prog (s_zpoly_Of fu) := sg (fu := fu) ⟨[], [], [], [], [], []⟩ Tryz.func27 (cC (g_zpoly_Lift fu) <| cN) (by kernel_rfl) fun x => by kernel_rfl
def s_zpoly_Scale_1 (fu : Nat) : Sig := ⟨249, [.d .i, .d (.p .b (.l .u)), .q (.p .b (.l .u))], [.d (.p .b (.l .u))], fun x => M_zpoly_Scale_1 fu x.1 x.2.1 x.2.2.1, 0⟩
theorem g_zpoly_Scale_1 (fu : Nat) : SigOK Tryz.prog (s_zpoly_Scale_1 fu) := sg (fu := fu) ⟨[], [], [], [], [], []⟩ Tryz.func249 (cC (g_zint_Mul fu) <| cN) (by kernel_rfl) fun x => by kernel_rfl
def s_zpoly_Scale (fu : Nat) : Sig := ⟨180, [.d (.l (.p .b (.l .u))), .d (.p .b (.l .u))], [.own (.p .b (.l .u)) 30], fun x => M_zpoly_Scale fu x.1 x.2.1, 0⟩
theorem g_zpoly_Scale (fu : Nat) : SigOK Tryz.prog (s_zpoly_Scale fu) := sg (fu := fu) ⟨[], [], [], [], [], []⟩ Tryz.func180 (cC (g_zpoly_Scale_1 fu) <| cC (g_zpoly_Norm fu) <| cC (g_zpoly_each_api_Int_api_Int fu) <| cN) (by kernel_rfl) fun x => by kernel_rfl
def s_zpoly_Sub (fu : Nat) : Sig := ⟨248, [.d (.l (.p .b (.l .u))), .d (.l (.p .b (.l .u)))], [.own (.p .b (.l .u)) 30], fun x => M_zpoly_Sub fu x.1 x.2.1, 0⟩
theorem g_zpoly_Sub (fu : Nat) : SigOK Tryz.prog (s_zpoly_Sub fu) := sg (fu := fu) ⟨[], [], [], [], [], []⟩ Tryz.func248 (cC (g_zpoly_Scale fu) <| cC (g_zint_Of fu) <| cC (g_zpoly_Add fu) <| cN) (by kernel_rfl) fun x => by kernel_rfl
def s_hensel_pair_up (fu : Nat) : Sig := ⟨278, [.d (.a 4 (.l (.p .b (.l .u)))), .d (.l (.p .b (.l .u))), .d (.p .b (.l .u))], [.d (.a 4 (.l (.p .b (.l .u))))], fun x => M_hensel_pair_up fu x.1 x.2.1 x.2.2.1, 0⟩
theorem g_hensel_pair_up (fu : Nat) : SigOK Tryz.prog (s_hensel_pair_up fu) := sg (fu := fu) ⟨[], [], [], [], [], []⟩ Tryz.func278 (cC (g_hensel_red fu) <| cC (g_hensel_divided fu) <| cC (g_zpoly_Add fu) <| cC (g_zpoly_Sub fu) <| cC (g_zpoly_Mul fu) <| cC (g_zpoly_Of fu) <| cN) (by kernel_rfl) fun x => by kernel_rfl
def s_zint_line_less (fu : Nat) : Sig := ⟨372, [.d (.p (.p .b (.l .u)) (.p (.p .b (.l .u)) (.p .b (.l .u)))), .d (.p .b (.l .u)), .d (.p (.p .b (.l .u)) (.p (.p .b (.l .u)) (.p .b (.l .u))))], [.d (.p (.p .b (.l .u)) (.p (.p .b (.l .u)) (.p .b (.l .u))))], fun x => M_zint_line_less fu x.1 x.2.1 x.2.2.1, 0⟩
theorem g_zint_line_less (fu : Nat) : SigOK Tryz.prog (s_zint_line_less fu) := sg (fu := fu) ⟨[], [], [], [], [], []⟩ Tryz.func372 (cC (g_zint_Sub fu) <| cC (g_zint_Mul fu) <| cN) (by kernel_rfl) fun x => by kernel_rfl
def s_zint_Bezout (fu : Nat) : Sig := ⟨332, [.d (.p .b (.l .u)), .d (.p .b (.l .u))], [.d (.p .b (.l .u)), .d (.p .b (.l .u)), .d (.p .b (.l .u))], fun x => M_zint_Bezout fu x.1 x.2.1, 0⟩
theorem g_zint_Bezout (fu : Nat) : SigOK Tryz.prog (s_zint_Bezout fu) := sg (fu := fu) ⟨[], [(393224, ⟨[4, 5, 6], [(.n, ⟨[(7, .var (.p (.p .b (.l .u)) (.p (.p .b (.l .u)) (.p .b (.l .u)))) 323)], []⟩)]⟩), (524298, ⟨[4, 5, 6], [(.n, ⟨[(7, .var (.p (.p .b (.l .u)) (.p (.p .b (.l .u)) (.p .b (.l .u)))) 323)], []⟩)]⟩)], [(2, ⟨⟨[(7, .var (.p (.p .b (.l .u)) (.p (.p .b (.l .u)) (.p .b (.l .u)))) 323), (8, .var (.p (.p .b (.l .u)) (.p (.p .b (.l .u)) (.p .b (.l .u)))) 323)], []⟩, ⟨[4, 5, 6], [(.x 0, ⟨[(7, .var (.p (.p .b (.l .u)) (.p (.p .b (.l .u)) (.p .b (.l .u)))) 323)], []⟩)]⟩⟩)], [(1, []), (9, [])], [], []⟩ Tryz.func332 (cC (g_zint_Neg fu) <| cC (g_zint_Sign fu) <| cC (g_zint_Div fu) <| cC (g_zint_made fu) <| cC (g_zint_line_less fu) <| cC (g_zint_Of fu) <| cN) (by kernel_rfl) fun x => by kernel_rfl
def s_hensel_one (fu : Nat) : Sig := ⟨276, [.d (.l (.p .b (.l .u))), .d (.p .b (.l .u))], [.own (.p .b (.l .u)) 30], fun x => M_hensel_one fu x.1 x.2.1, 0⟩
theorem g_hensel_one (fu : Nat) : SigOK Tryz.prog (s_hensel_one fu) := sg (fu := fu) ⟨[], [], [], [(1, [])], [], []⟩ Tryz.func276 (cC (g_zpoly_Scale fu) <| cC (g_zint_Bezout fu) <| cC (g_hensel_red fu) <| cN) (by kernel_rfl) fun x => by kernel_rfl
def s_hensel_tree (fu : Nat) : Sig := ⟨196, [.d (.l (.p .b (.l .u))), .d (.l (.l .i)), .d .i, .d .i, .d (.p .b (.l .u))], [.own (.l (.p .b (.l .u))) 22], fun x => M_hensel_tree fu x.1 x.2.1 x.2.2.1 x.2.2.2.1 x.2.2.2.2.1, 0⟩
theorem g_hensel_tree : ∀ fu : Nat, SigOK Tryz.prog (s_hensel_tree fu)
  | 0 => sg0 (by kernel_rfl) fun _ => rfl
  | fu + 1 => sg (fu := fu) ⟨[], [], [(10, ⟨⟨[(22, .d .i), (21, .var (.a 4 (.l (.p .b (.l .u)))) 252)], []⟩, ⟨[], [(.x 0, ⟨[(21, .var (.a 4 (.l (.p .b (.l .u)))) 252)], []⟩)]⟩⟩)], [(14, [])], [], []⟩ Tryz.func196 (cC (g_hensel_tree fu) <| cC (g_zpoly_Lift fu) <| cC (g_fpoly_Mul fu) <| cC (g_hensel_product fu) <| cC (g_hensel_one fu) <| cC (g_fpoly_Bezout fu) <| cC (g_hensel_pair_up fu) <| cC (g_zpoly_Mod fu) <| cC (g_hensel_Power fu) <| cN) (by kernel_rfl) fun x => by kernel_rfl
def s_hensel_Lift (fu : Nat) : Sig := ⟨125, [.d (.l (.p .b (.l .u))), .d (.l (.l .i)), .d .i, .d .i], [.own (.l (.p .b (.l .u))) 22, .d .i], fun x => M_hensel_Lift fu x.1 x.2.1 x.2.2.1 x.2.2.2.1, 0⟩
theorem g_hensel_Lift (fu : Nat) : SigOK Tryz.prog (s_hensel_Lift fu) := sg (fu := fu) ⟨[], [], [], [], [], []⟩ Tryz.func125 (cC (g_hensel_right fu) <| cC (g_hensel_tree fu) <| cC (g_hensel_red fu) <| cC (g_zpoly_Norm fu) <| cC (g_hensel_Power fu) <| cN) (by kernel_rfl) fun x => by kernel_rfl
def s_hensel_Mul (fu : Nat) : Sig := ⟨281, [.d (.l (.p .b (.l .u))), .d (.l (.p .b (.l .u))), .d (.p .b (.l .u))], [.d (.l (.p .b (.l .u))), .d .i], fun x => M_hensel_Mul fu x.1 x.2.1 x.2.2.1, 0⟩
theorem g_hensel_Mul (fu : Nat) : SigOK Tryz.prog (s_hensel_Mul fu) := sg (fu := fu) ⟨[], [], [], [], [], []⟩ Tryz.func281 (cC (g_zpoly_Mul fu) <| cC (g_hensel_Red fu) <| cN) (by kernel_rfl) fun x => by kernel_rfl
def s_zint_Cmp (fu : Nat) : Sig := ⟨76, [.d (.p .b (.l .u)), .d (.p .b (.l .u))], [.d .i], fun x => M_zint_Cmp fu x.1 x.2.1, 0⟩
theorem g_zint_Cmp (fu : Nat) : SigOK Tryz.prog (s_zint_Cmp fu) := sg (fu := fu) ⟨[], [], [], [], [], []⟩ Tryz.func76 (cC (g_zint_Sub fu) <| cC (g_zint_Sign fu) <| cN) (by kernel_rfl) fun x => by kernel_rfl
def s_prime_Near (fu : Nat) : Sig := ⟨337, [.d (.p .b (.l .u)), .d (.p .b (.l .u))], [.d (.p .b (.l .u)), .d .i], fun x => M_prime_Near fu x.1 x.2.1, 0⟩
theorem g_prime_Near (fu : Nat) : SigOK Tryz.prog (s_prime_Near fu) := sg (fu := fu) ⟨[], [], [], [], [], []⟩ Tryz.func337 (cC (g_prime_Rest fu) <| cC (g_zint_Sub fu) <| cC (g_zint_Cmp fu) <| cC (g_zint_Add fu) <| cN) (by kernel_rfl) fun x => by kernel_rfl
def s_hensel_Near (fu : Nat) : Sig := ⟨282, [.d (.l (.p .b (.l .u))), .d (.p .b (.l .u))], [.own (.p .b (.l .u)) 30, .d .i], fun x => M_hensel_Near fu x.1 x.2.1, 0⟩
theorem g_hensel_Near (fu : Nat) : SigOK Tryz.prog (s_hensel_Near fu) := sg (fu := fu) ⟨[], [], [], [], [], []⟩ Tryz.func282 (cC (g_hensel_rests fu) <| cC (g_prime_Near fu) <| cN) (by kernel_rfl) fun x => by kernel_rfl
def s_zint_Gcd (fu : Nat) : Sig := ⟨130, [.d (.p .b (.l .u)), .d (.p .b (.l .u))], [.d (.p .b (.l .u))], fun x => M_zint_Gcd fu x.1 x.2.1, 0⟩
theorem g_zint_Gcd (fu : Nat) : SigOK Tryz.prog (s_zint_Gcd fu) := sg (fu := fu) ⟨[], [], [(2, ⟨⟨[(5, .d (.l .u)), (6, .d (.l .u))], []⟩, ⟨[4], [(.x 0, ⟨[(5, .d (.l .u))], []⟩)]⟩⟩)], [], [], []⟩ Tryz.func130 (cC (g_nat_Norm fu) <| cC (g_zint_made fu) <| cC (g_nat_Div fu) <| cN) (by kernel_rfl) fun x => by kernel_rfl
def s_zpoly_Content (fu : Nat) : Sig := ⟨62, [.d (.l (.p .b (.l .u)))], [.d (.p .b (.l .u))], fun x => M_zpoly_Content fu x.1, 0⟩
theorem g_zpoly_Content (fu : Nat) : SigOK Tryz.prog (s_zpoly_Content fu) := sg (fu := fu) ⟨[], [(327686, ⟨[0, 2, 3], [(.n, ⟨[(10, .d .i), (12, .d .b)], []⟩)]⟩)], [(4, ⟨⟨[(11, .d .i), (0, .own (.p .b (.l .u)) 30), (2, .var (.p .b (.l .u)) 30), (3, .var (.p .b (.l .u)) 30)], [(9, .al 0)]⟩, ⟨[], [(.x 0, ⟨[(0, .own (.p .b (.l .u)) 30), (2, .var (.p .b (.l .u)) 30), (3, .var (.p .b (.l .u)) 30)], []⟩)]⟩⟩)], [], [], []⟩ Tryz.func62 (cC (g_zint_Gcd fu) <| cC (g_zint_Neg fu) <| cC (g_zint_Of fu) <| cC (g_zpoly_Norm fu) <| cN) (by kernel_rfl) fun x => by kernel_rfl
def s_zpoly_Prim_1 (fu : Nat) : Sig := ⟨74, [.d .i, .d (.p .b (.l .u)), .q (.p .b (.l .u))], [.d (.p .b (.l .u))], fun x => M_zpoly_Prim_1 fu x.1 x.2.1 x.2.2.1, 0⟩
theorem g_zpoly_Prim_1 (fu : Nat) : SigOK Tryz.prog (s_zpoly_Prim_1 fu) := sg (fu := fu) ⟨[], [], [], [], [], []⟩ Tryz.func74 (cC (g_zint_Exact fu) <| cN) (by kernel_rfl) fun x => by kernel_rfl
def s_zpoly_Prim (fu : Nat) : Sig := ⟨23, [.d (.l (.p .b (.l .u)))], [.own (.p .b (.l .u)) 30], fun x => M_zpoly_Prim fu x.1, 0⟩
theorem g_zpoly_Prim (fu : Nat) : SigOK Tryz.prog (s_zpoly_Prim fu) := sg (fu := fu) ⟨[], [], [], [], [], []⟩ Tryz.func23 (cC (g_zpoly_Prim_1 fu) <| cC (g_zpoly_Norm fu) <| cC (g_zpoly_Content fu) <| cC (g_zpoly_each_api_Int_api_Int fu) <| cN) (by kernel_rfl) fun x => by kernel_rfl
def s_zfac_candidate_io (fu : Nat) : Sig := ⟨199, [.d (.l (.p .b (.l .u))), .d (.l (.l (.p .b (.l .u)))), .own .i 3, .d (.p .b (.l .u))], [.d (.l (.p .b (.l .u))), .own .i 3], fun x => M_zfac_candidate_io fu x.1 x.2.1 x.2.2.1 x.2.2.2.1, 1⟩
theorem g_zfac_candidate_io (fu : Nat) : SigOK Tryz.prog (s_zfac_candidate_io fu) := sgb (fu := fu) ⟨[], [(262149, ⟨[2], [(.n, ⟨[(1, .d (.l (.l (.p .b (.l .u))))), (7, .q (.p .b (.l .u))), (18, .d .i), (20, .d .b)], []⟩)]⟩)], [(3, ⟨⟨[(9, .d (.l (.p .b (.l .u)))), (19, .d .i), (2, .own .i 3)], [(17, .al 2)]⟩, ⟨[], [(.x 0, ⟨[(9, .d (.l (.p .b (.l .u)))), (2, .own .i 3)], []⟩)]⟩⟩)], [], [], []⟩ Tryz.func199 (cC (g_hensel_Mul fu) <| cC (g_hensel_Near fu) <| cC (g_zpoly_Prim fu) <| cN) (by kernel_rfl) fun pn x => by kernel_rfl
def s_zfac_choices_1 (fu : Nat) : ISig := ⟨280, [.q .i, .q .i], .i, 3, fun x _ _ g x0 => M_zfac_choices_1 fu x.1 x.2.1 g x0⟩
def anC : An := ⟨[], [], [(2, ⟨⟨[(4, .own .i 3), (12, .d .i)], []⟩, ⟨[0], [(.x 0, ⟨[(4, .own .i 3)], []⟩)]⟩⟩), (8, ⟨⟨[(6, .d .i)], []⟩, ⟨[0, 4], [(.x 4, ⟨[(6, .d .i)], []⟩)]⟩⟩), (13, ⟨⟨[(7, .d .i), (4, .own .i 3)], []⟩, ⟨[0], [(.x 6, ⟨[(4, .own .i 3)], []⟩)]⟩⟩)], [], [], []⟩
def kSeq1 : Code -> Code | .seq a _ => a | c => c
def kSeq2 : Code -> Code | .seq _ b => b | c => c
def kIn : Code -> Code | .block _ c => c | .loop c => c | c => c
def kBody (f : Func) : Code := match f.body with | some c => c | none => .skip
noncomputable def kA : Code := kSeq1 (kBody Tryz.f280)
noncomputable def kB : Code := kSeq1 (kSeq2 (kBody Tryz.f280))
noncomputable def kC : Code := kIn (kIn (kSeq2 (kSeq2 (kBody Tryz.f280))))
section
variable {X Y R : Type} {mX : X -> Value -> MF} {mY : Y -> Value -> MF} {g : List Int -> X -> Option (List Int × (X ⊕ Y))} {n all : Int}
def cfC (fu : Nat) : Cf := ⟨tt, [], anC, fu, ex, [], [], []⟩
def S0 (mX : X -> Value -> MF) (mY : Y -> Value -> MF) (g : List Int -> X -> Option (List Int × (X ⊕ Y))) (n all : Int) (x0 : X) : Sg := ⟨1, [(0, 0, .yd 0), (1, 0, .q .i n), (2, 0, .q .i all)], [(0, .hid .i 3 X Y mX mY g x0)]⟩
def S1 (mX : X -> Value -> MF) (mY : Y -> Value -> MF) (g : List Int -> X -> Option (List Int × (X ⊕ Y))) (n all : Int) (x0 : X) (xs : List Int) : Sg := ⟨2, [(4, 0, .ow 1), (9, 0, .ow 1), (8, 0, .d .i n), (0, 0, .yd 0), (1, 0, .q .i n), (2, 0, .q .i all)], [(1, .own .i 3 xs), (0, .hid .i 3 X Y mX mY g x0)]⟩
def S2 (mX : X -> Value -> MF) (mY : Y -> Value -> MF) (g : List Int -> X -> Option (List Int × (X ⊕ Y))) (n all : Int) (x0 : X) (xs ys : List Int) : Sg := ⟨3, [(4, 0, .ow 2), (4, 0, .ow 2), (11, 0, .d .i (xs.length : Int)), (8, 0, .d .i n), (0, 0, .yd 0), (1, 0, .q .i n), (2, 0, .q .i all)], [(2, .own .i 3 ys), (0, .hid .i 3 X Y mX mY g x0)]⟩
def Sn (mX : X -> Value -> MF) (mY : Y -> Value -> MF) (g : List Int -> X -> Option (List Int × (X ⊕ Y))) (n all : Int) (x : X) (xs : List Int) (x3 x1 x2 y x0 : Int) : Sg :=
  ⟨5, [(4, 0, .ow 4), (4, 0, .ow 4), (51, 0, .d .i x3), (50, 0, .d .i x1), (48, 0, .d .i x2), (47, 0, .d .i y), (45, 0, .d .i x1), (43, 0, .kb false), (42, 0, .d .i x1), (6, 0, .d .i x1), (6, 0, .d .i x1), (25, 0, .d .i x0), (24, 0, .d .i n), (23, 0, .kb false), (22, 0, .kb true), (20, 0, .yd 2), (0, 0, .yd 2), (1, 0, .q .i n), (2, 0, .q .i all)], [(4, .own .i 3 xs), (2, .hid .i 3 X Y mX mY g x)]⟩
def Sr (mX : X -> Value -> MF) (mY : Y -> Value -> MF) (g : List Int -> X -> Option (List Int × (X ⊕ Y))) (n all : Int) (x : X) (x0 x1 : Int) (xs : List Int) : Sg :=
  ⟨4, [(43, 0, .kb true), (42, 0, .d .i x1), (6, 0, .d .i x1), (6, 0, .d .i x1), (25, 0, .d .i x0), (24, 0, .d .i n), (23, 0, .kb false), (22, 0, .kb true), (21, 0, .ow 1), (20, 0, .yd 2), (4, 0, .ow 1), (0, 0, .yd 2), (1, 0, .q .i n), (2, 0, .q .i all)], [(2, .hid .i 3 X Y mX mY g x), (1, .own .i 3 xs)]⟩
def Sy (mY : Y -> Value -> MF) (n all : Int) (y : Y) (xs : List Int) : Sg :=
  ⟨3, [(23, 0, .kb true), (22, 0, .kb false), (21, 0, .ow 1), (20, 0, .yd 2), (4, 0, .ow 1), (0, 0, .yd 2), (1, 0, .q .i n), (2, 0, .q .i all)], [(2, .hiy Y mY y), (1, .own .i 3 xs)]⟩
theorem ec_A (fu : Nat) (x0 : X) (K : Tg -> Sg -> Option R) : den (cfC fu) kA ⟨0, [], []⟩ (S0 mX mY g n all x0) K = ckN n fun m => ck (8 * m <= 281474976710656) <| nm (List.replicate m 0) fun xs => K .n (S1 mX mY g n all x0 xs) := by kernel_rfl
theorem ec_B (fu : Nat) (x0 : X) (xs : List Int) (K : Tg -> Sg -> Option R) : den (cfC fu) kB ⟨0, [], []⟩ (S1 mX mY g n all x0 xs) K = bd (loopN (fun L (z : List Int × Int) =>
  if z.2 < (xs.length : Int) then
   ckI z.2 z.1.length fun j =>
   nm (z.1.set j z.2) fun xs =>
   ck64 (z.2 + 1) fun i => L (xs, i)
  else some z.1) fu (xs, 0)) fun ys => K .n (S2 mX mY g n all x0 xs ys) := by kernel_rfl
theorem ec_C (fu : Nat) (x : X) (xs : List Int) (K : Tg -> Sg -> Option R) : den (cfC fu) kC ⟨0, [], []⟩ (chS 3 mX mY g n all x xs) K =
  B_zfac_choices_1 fu n all g x xs (fun x xs a b c d e => K .n (Sn mX mY g n all x xs a b c d e)) (fun x a b xs => K .r (Sr mX mY g n all x a b xs)) fun y xs => K .r (Sy mY n all y xs) := by kernel_rfl
theorem ch_main (fu : Nat) (g : List Int -> X -> Option (List Int × (X ⊕ Y))) (x0 : X) (r : X ⊕ Y) (l : Nat) (v1 v2 u : Value) (we : World) (Se : Nat -> Prop) (F : List MF) (G : List FF) (w : World) (hY : YSpec Tryz.prog l eI 3 mX mY g)
    (hst : St we Se (mX x0 u :: F) (argFs Tryz.prog [.q .i, .q .i] (n, all, ()) [v1, v2] ++ G) w) (hM : M_zfac_choices_1 fu n all g x0 = some r) :
    Calls Tryz.prog 280 #[.func (.yield l) #[] #[], v1, v2] w fun e w' => (∃ v, e = .returned v) /\ ∃ u', St we Se (Sum.elim (fun x => mX x u') (fun y => mY y u') r :: F) G w' := by
  have hX : XOK Tryz.prog (cfC fu) := .of exok rfl
  have hD : ∀ c, okC 66 c = true -> DenOK Tryz.prog (cfC fu) 66 c := fun c h => den_s mord ttok elok cN hX c h
  refine calls_wpD (args := [.func (.yield l) #[] #[], v1, v2]) (c := kBody Tryz.f280) Tryz.func280 rfl (by kernel_rfl) fun rest => ?_
  have hR0 : Rel Tryz.prog (Fr.wd ⟨we, Se, F, G⟩ []) ⟨0, [], []⟩ (S0 mX mY g n all x0) (L ((([Value.func (.yield l) #[] #[], v1, v2] : List Value).zipIdx 0).map fun x => (x.2, x.1)) rest) w := by
    refine ⟨⟨fun e he => ?_, fun _ he => absurd he List.not_mem_nil, fun e he q hq => ?_, fun _ he => absurd he List.not_mem_nil⟩, fun _ => tupW (.int .i64 (l : Int)) [u], ?_⟩
    · obtain rfl := List.mem_singleton.1 he
      exact Nat.zero_lt_one
    · simp only [S0, List.mem_cons, List.not_mem_nil, or_false] at he
      rcases he with rfl | rfl | rfl <;> cases hq <;> exact Nat.zero_lt_one
    · have h1 : St we Se (moF (fun _ => tupW (.int .i64 (l : Int)) [u]) (0, .hid .i 3 X Y mX mY g x0) :: F) (argFs Tryz.prog [.q .i, .q .i] (n, all, ()) [v1, v2] ++ G) w := St.grp.2 (St.pr hY hst)
      exact h1.weak fun S w ha => ⟨rfl, ha.1, ha.2.1, ha.2.2⟩
  obtain ⟨f2, hf2⟩ : ∃ f2 : List Int -> Option (X ⊕ Y), f2 = fun xs => loopN (fun L (q : X × List Int) => B_zfac_choices_1 fu n all g q.1 q.2 (fun x xs _ _ _ _ _ => L (x, xs)) (fun x _ _ _ => some (.inl x)) fun y _ => some (.inr y)) fu (x0, xs) := ⟨_, rfl⟩
  obtain ⟨f1, hf1⟩ : ∃ f1 : List Int -> Option (X ⊕ Y), f1 = fun xs => bd (loopN (fun L (z : List Int × Int) =>
      if z.2 < (xs.length : Int) then
       ckI z.2 z.1.length fun j =>
       nm (z.1.set j z.2) fun xs =>
       ck64 (z.2 + 1) fun i => L (xs, i)
      else some z.1) fu (xs, 0)) f2 := ⟨_, rfl⟩
  have hM0 : (ckN n fun m => ck (8 * m <= 281474976710656) <| nm (List.replicate m 0) f1) = some r := by rw [hf1, hf2]; exact hM
  -- the first piece
  refine WpD_seq (x := kA) (y := kSeq2 (kBody Tryz.f280)) ?_
  obtain ⟨K, k1, k2⟩ := ext_K (fun xs : List Int => (Tg.n, S1 mX mY g n all x0 xs)) f1 (fun i j h => by
    have h2 : Od.own .i 3 i = Od.own .i 3 j := by simpa [S1] using h
    cases h2; rfl)
  have k1 : ∀ xs, K .n (S1 mX mY g n all x0 xs) = f1 xs := k1
  refine hD kA (by kernel_rfl) (N := Nd.of 66) (K := K) rfl (.inl rfl) (r := r) ((ec_A fu x0 K).trans (by simp only [k1]; exact hM0)) (fun t σ' hk Ds env w _ hR => ?_) hR0
  obtain ⟨xs, e1, e2⟩ := k2 _ _ _ hk
  cases e1
  -- the second
  refine WpD_seq (x := kB) (y := kSeq2 (kSeq2 (kBody Tryz.f280))) ?_
  obtain ⟨K, k1, k2⟩ := ext_K (fun ys : List Int => (Tg.n, S2 mX mY g n all x0 xs ys)) f2 (fun i j h => by
    have h2 : Od.own .i 3 i = Od.own .i 3 j := by simpa [S2] using h
    cases h2; rfl)
  have k1 : ∀ ys, K .n (S2 mX mY g n all x0 xs ys) = f2 ys := k1
  refine hD kB (by kernel_rfl) (N := Nd.of 66) (K := K) rfl (.inl rfl) (r := r) ((ec_B fu x0 xs K).trans (by simp only [k1]; rw [hf1] at e2; exact e2)) (fun t σ' hk Ds env w _ hR => ?_) hR
  obtain ⟨ys, e3, e4⟩ := k2 _ _ _ hk
  cases e3
  -- the rounds
  have hR3 : Rel Tryz.prog (Fr.wd ⟨we, Se, F, G⟩ Ds) ⟨0, [], []⟩ (chS 3 mX mY g n all x0 ys) env w := ch_re (o := 0) (p := 2) rfl rfl rfl rfl rfl rfl rfl hR
  refine WpD_block (id := 2) (c := .loop kC) ?_
  obtain ⟨body, hbody⟩ : ∃ body : ((X × List Int) -> Option (X ⊕ Y)) -> (X × List Int) -> Option (X ⊕ Y), body = fun L q => B_zfac_choices_1 fu n all g q.1 q.2 (fun x xs _ _ _ _ _ => L (x, xs)) (fun x _ _ _ => some (.inl x)) fun y _ => some (.inr y) := ⟨_, rfl⟩
  refine WpD_loop (G := Nat × (X × List Int)) (fun q Ds env w => loopN body q.1 q.2 = some r /\ Rel Tryz.prog (Fr.wd ⟨we, Se, F, G⟩ Ds) ⟨0, [], []⟩ (chS 3 mX mY g n all q.2.1 q.2.2) env w) (fun q => q.1) (fu, (x0, ys)) ⟨by rw [hbody]; rw [hf2] at e4; exact e4, hR3⟩ ?_
  rintro ⟨k, x, xs⟩ Ds env w ⟨hl, hR⟩
  cases k with
  | zero => exact (loopN_z hl).elim
  | succ k =>
    have hl := loopN_s hl
    obtain ⟨K, k1, k2⟩ := ext_K (ι := (X × List Int × Int × Int × Int × Int × Int) ⊕ ((X × Int × Int × List Int) ⊕ (Y × List Int)))
      (fun q => match q with
        | .inl (x, xs, a, b, c, d, e) => (Tg.n, Sn mX mY g n all x xs a b c d e)
        | .inr (.inl (x, a, b, xs)) => (Tg.r, Sr mX mY g n all x a b xs)
        | .inr (.inr (y, xs)) => (Tg.r, Sy mY n all y xs))
      (fun q => match q with
        | .inl (x, xs, _, _, _, _, _) => loopN body k (x, xs)
        | .inr (.inl (x, _, _, _)) => some (.inl x)
        | .inr (.inr (y, _)) => some (.inr y)) (fun i j h => by
      rcases i with ⟨x, xs, a, b, c, d, e⟩ | ⟨x, a, b, xs⟩ | ⟨y, xs⟩ <;> rcases j with ⟨x', xs', a', b', c', d', e'⟩ | ⟨x', a', b', xs'⟩ | ⟨y', xs'⟩
      · have h2 := congrArg (fun q : Tg × Sg => q.2.ob) h
        simp only [Sn, List.cons.injEq, Prod.mk.injEq, true_and, and_true] at h2
        obtain ⟨h3, h4⟩ := h2
        cases h3; cases h4; rfl
      · cases congrArg Prod.fst h
      · cases congrArg Prod.fst h
      · cases congrArg Prod.fst h
      · have h2 := congrArg (fun q : Tg × Sg => q.2.ob) h
        simp only [Sr, List.cons.injEq, Prod.mk.injEq, true_and, and_true] at h2
        obtain ⟨h3, h4⟩ := h2
        cases h3; rfl
      · exact absurd (congrArg (fun q : Tg × Sg => q.2.nx) h) (by simp [Sr, Sy])
      · cases congrArg Prod.fst h
      · exact absurd (congrArg (fun q : Tg × Sg => q.2.nx) h) (by simp [Sr, Sy])
      · have h2 := congrArg (fun q : Tg × Sg => q.2.ob) h
        simp only [Sy, List.cons.injEq, Prod.mk.injEq, true_and, and_true] at h2
        obtain ⟨h3, h4⟩ := h2
        cases h3; rfl)
    have q1 : ∀ x xs a b c d e, K .n (Sn mX mY g n all x xs a b c d e) = loopN body k (x, xs) := fun x xs a b c d e => k1 (.inl (x, xs, a, b, c, d, e))
    have q2 : ∀ x a b xs, K .r (Sr mX mY g n all x a b xs) = some (.inl x) := fun x a b xs => k1 (.inr (.inl (x, a, b, xs)))
    have q3 : ∀ y xs, K .r (Sy mY n all y xs) = some (.inr y) := fun y xs => k1 (.inr (.inr (y, xs)))
    refine hD kC (by kernel_rfl) (N := Nd.of 66) (K := K) rfl (.inl rfl) (r := r) ((ec_C fu x xs K).trans (by simp only [q1, q2, q3]; rw [hbody] at hl ⊢; exact hl)) (fun t σ' hk Ds env w _ hR => ?_) hR
    obtain ⟨i, e5, e6⟩ := k2 _ _ _ hk
    have fin : ∀ (t : Tg) (env : Env) (w : World), (∃ u', St we Se (Sum.elim (fun x => mX x u') (fun y => mY y u') r :: F) G (takeW Ds w)) -> marksW Ds w -> ∀ a : Act, envOf a = env ->
        ∃ v, (results Tryz.f280 a.tmps).run Tryz.prog (takeW Ds w) = .ok v (takeW Ds w) /\ (∃ v', Ending.returned v = .returned v') /\ ∃ u', St we Se (Sum.elim (fun x => mX x u') (fun y => mY y u') r :: F) G (takeW Ds w) := fun t env w h1 h2 a ha => ⟨_, run_results (rs := []) (vs := []) rfl trivial, ⟨_, rfl⟩, h1⟩
    rcases i with ⟨x', xs', a, b, c, d, e⟩ | ⟨x', a, b, xs'⟩ | ⟨y', xs'⟩
    · cases e5
      exact ⟨(k, (x', xs')), ⟨e6, ch_re (o := 2) (p := 4) rfl rfl rfl rfl rfl rfl rfl hR⟩, Nat.lt_succ_self k⟩
    · cases e5
      cases e6
      obtain ⟨hmk, hR⟩ := rel_take hR
      exact ⟨.inr rfl, hmk, fin .r _ _ (ch_hid (o := 2) rfl hR) hmk⟩
    · cases e5
      cases e6
      obtain ⟨hmk, hR⟩ := rel_take hR
      exact ⟨.inr rfl, hmk, fin .r _ _ (ch_hiy (o := 2) rfl hR) hmk⟩
end
theorem g_zfac_choices_1 (fu : Nat) : ISigOK Tryz.prog (s_zfac_choices_1 fu) := by
  refine ⟨by kernel_rfl, ?_⟩
  rintro ⟨n, all, _⟩ X Y mX mY g x0 r hM l vs hlen hY u we Se F G w hst
  match vs, hlen with
  | [v1, v2], _ => exact ch_main fu g x0 r l v1 v2 u we Se F G w hY hst hM
def s_zfac_choices : CSig := ⟨198, [.i, .i], 280, fun x => [⟨.i, x.2.1⟩, ⟨.i, x.1⟩]⟩
theorem g_zfac_choices : CSigOK Tryz.prog s_zfac_choices := denC_s (s := s_zfac_choices) (cf := ⟨tt, [], ⟨[], [], [], [], [], []⟩, 0, ex, [], [], []⟩) mord ttok elok cN (.of exok rfl) Tryz.func198 (by kernel_rfl) fun x => by kernel_rfl
def s_slices_Index_int_int (fu : Nat) : Sig := ⟨338, [.d (.l .i), .d .i], [.d .i], fun x => M_slices_Index_int_int fu x.1 x.2.1, 0⟩
theorem g_slices_Index_int_int (fu : Nat) : SigOK Tryz.prog (s_slices_Index_int_int fu) := sg (fu := fu) ⟨[], [], [(2, ⟨⟨[(8, .d .i)], []⟩, ⟨[], [(.x 0, ⟨[], []⟩), (.r, ⟨[(4, .d .i)], []⟩)]⟩⟩)], [], [], []⟩ Tryz.func338 (cN) (by kernel_rfl) fun x => by kernel_rfl
def s_slices_Index_int_int_io (fu : Nat) : Sig := ⟨338, [.own .i 3, .d .i], [.d .i, .own .i 3], fun x => M_slices_Index_int_int_io fu x.1 x.2.1, 1⟩
theorem g_slices_Index_int_int_io (fu : Nat) : SigOK Tryz.prog (s_slices_Index_int_int_io fu) := sgb (fu := fu) ⟨[], [], [(2, ⟨⟨[(8, .d .i)], []⟩, ⟨[0], [(.x 0, ⟨[], []⟩), (.r, ⟨[(4, .d .i)], []⟩)]⟩⟩)], [], [], []⟩ Tryz.func338 (cN) (by kernel_rfl) fun pn x => by kernel_rfl
def s_slices_Contains_int_int (fu : Nat) : Sig := ⟨283, [.d (.l .i), .d .i], [.d .b], fun x => M_slices_Contains_int_int fu x.1 x.2.1, 0⟩
theorem g_slices_Contains_int_int (fu : Nat) : SigOK Tryz.prog (s_slices_Contains_int_int fu) := sg (fu := fu) ⟨[], [], [], [], [], []⟩ Tryz.func283 (cC (g_slices_Index_int_int fu) <| cN) (by kernel_rfl) fun x => by kernel_rfl
def s_slices_Contains_int_int_io (fu : Nat) : Sig := ⟨283, [.own .i 3, .d .i], [.d .b, .own .i 3], fun x => M_slices_Contains_int_int_io fu x.1 x.2.1, 1⟩
theorem g_slices_Contains_int_int_io (fu : Nat) : SigOK Tryz.prog (s_slices_Contains_int_int_io fu) := sgb (fu := fu) ⟨[], [], [], [], [], []⟩ Tryz.func283 (cC (g_slices_Index_int_int_io fu) <| cC (g_slices_Index_int_int fu) <| cN) (by kernel_rfl) fun pn x => by kernel_rfl
def s_zfac_without_api_Int_io (fu : Nat) : Sig := ⟨200, [.d (.l (.l (.p .b (.l .u)))), .own .i 3], [.d (.l (.l (.p .b (.l .u)))), .own .i 3], fun x => M_zfac_without_api_Int_io fu x.1 x.2.1, 1⟩
theorem g_zfac_without_api_Int_io (fu : Nat) : SigOK Tryz.prog (s_zfac_without_api_Int_io fu) := sgb (fu := fu) ⟨[], [(262149, ⟨[1, 5], [(.n, ⟨[(8, .d (.l (.l (.p .b (.l .u))))), (9, .d .i), (11, .d .b)], []⟩)]⟩)], [(3, ⟨⟨[(5, .own (.l (.p .b (.l .u))) 22), (10, .d .i), (1, .own .i 3)], []⟩, ⟨[], [(.x 0, ⟨[(5, .own (.l (.p .b (.l .u))) 22), (1, .own .i 3)], []⟩)]⟩⟩)], [], [], []⟩ Tryz.func200 (cC (g_slices_Contains_int_int_io fu) <| cC (g_slices_Contains_int_int fu) <| cN) (by kernel_rfl) fun pn x => by kernel_rfl
def s_zfac_chosen (fu : Nat) : Sig := ⟨126, [.d (.l (.p .b (.l .u))), .d (.l (.l (.p .b (.l .u)))), .d (.p .b (.l .u))], [.own (.l (.p .b (.l .u))) 22], fun x => M_zfac_chosen fu x.1 x.2.1 x.2.2.1, 0⟩
theorem g_zfac_chosen (fu : Nat) : SigOK Tryz.prog (s_zfac_chosen fu) := denF_s (s := s_zfac_chosen fu) (cf := ⟨tt, [s_zfac_candidate_io fu, s_zpoly_Div fu, s_zfac_without_api_Int_io fu, s_zpoly_Prim fu], ⟨[3, 4], [], [(3, ⟨⟨[(3, .var (.l (.p .b (.l .u))) 22), (4, .var (.l (.l (.p .b (.l .u)))) 55), (7, .bo (.l (.p .b (.l .u))) 22 55), (8, .d .i)], []⟩, ⟨[], [(.x 0, ⟨[(3, .var (.l (.p .b (.l .u))) 22), (4, .var (.l (.l (.p .b (.l .u)))) 55), (7, .bo (.l (.p .b (.l .u))) 22 55)], []⟩)]⟩⟩), (6, ⟨⟨[(3, .var (.l (.p .b (.l .u))) 22), (4, .var (.l (.l (.p .b (.l .u)))) 55), (7, .bo (.l (.p .b (.l .u))) 22 55)], []⟩, ⟨[], [(.x 1, ⟨[], []⟩)]⟩⟩)], [(13, [56, 57])], [], [7]⟩, fu, ex, [], [s_zfac_choices], [s_zfac_choices_1 fu]⟩) mord ttok elok (cC (g_zfac_candidate_io fu) <| cC (g_zpoly_Div fu) <| cC (g_zfac_without_api_Int_io fu) <| cC (g_zpoly_Prim fu) <| cN) ⟨exok, fun s h => by obtain rfl := List.mem_singleton.1 h; exact g_zfac_choices, fun _ h => absurd h List.not_mem_nil, fun s h => by obtain rfl := List.mem_singleton.1 h; exact g_zfac_choices_1 fu, rfl⟩ Tryz.func126 (by kernel_rfl) rfl fun x r h => (id (by kernel_rfl) : denF ⟨tt, [s_zfac_candidate_io fu, s_zpoly_Div fu, s_zfac_without_api_Int_io fu, s_zpoly_Prim fu], ⟨[3, 4], [], [(3, ⟨⟨[(3, .var (.l (.p .b (.l .u))) 22), (4, .var (.l (.l (.p .b (.l .u)))) 55), (7, .bo (.l (.p .b (.l .u))) 22 55), (8, .d .i)], []⟩, ⟨[], [(.x 0, ⟨[(3, .var (.l (.p .b (.l .u))) 22), (4, .var (.l (.l (.p .b (.l .u)))) 55), (7, .bo (.l (.p .b (.l .u))) 22 55)], []⟩)]⟩⟩), (6, ⟨⟨[(3, .var (.l (.p .b (.l .u))) 22), (4, .var (.l (.l (.p .b (.l .u)))) 55), (7, .bo (.l (.p .b (.l .u))) 22 55)], []⟩, ⟨[], [(.x 1, ⟨[], []⟩)]⟩⟩)], [(13, [56, 57])], [], [7]⟩, fu, ex, [], [s_zfac_choices], [s_zfac_choices_1 fu]⟩ Tryz.f126 [.d (.l (.p .b (.l .u))), .d (.l (.l (.p .b (.l .u)))), .d (.p .b (.l .u))] [.own (.l (.p .b (.l .u))) 22] x = M_zfac_chosen fu x.1 x.2.1 x.2.2.1).trans h
def s_zpoly_Less (fu : Nat) : Sig := ⟨24, [.d (.l (.p .b (.l .u))), .d (.l (.p .b (.l .u)))], [.d .b], fun x => M_zpoly_Less fu x.1 x.2.1, 0⟩
theorem g_zpoly_Less (fu : Nat) : SigOK Tryz.prog (s_zpoly_Less fu) := sg (fu := fu) ⟨[], [], [(5, ⟨⟨[(5, .d .i)], []⟩, ⟨[0, 1], [(.x 0, ⟨[], []⟩), (.r, ⟨[(4, .d .b)], []⟩)]⟩⟩)], [], [], []⟩ Tryz.func24 (cC (g_zint_Cmp fu) <| cC (g_zpoly_Norm fu) <| cN) (by kernel_rfl) fun x => by kernel_rfl
def s_zfac_compare (fu : Nat) : Sig := ⟨128, [.d (.l (.p .b (.l .u))), .d (.l (.p .b (.l .u)))], [.d .i], fun x => M_zfac_compare fu x.1 x.2.1, 0⟩
theorem g_zfac_compare (fu : Nat) : SigOK Tryz.prog (s_zfac_compare fu) := sg (fu := fu) ⟨[], [], [], [], [], []⟩ Tryz.func128 (cC (g_zpoly_Less fu) <| cN) (by kernel_rfl) fun x => by kernel_rfl
def s_zint_Root (fu : Nat) : Sig := ⟨250, [.d (.p .b (.l .u)), .d .i], [.d (.p .b (.l .u)), .d .i], fun x => M_zint_Root fu x.1 x.2.1, 0⟩
theorem g_zint_Root (fu : Nat) : SigOK Tryz.prog (s_zint_Root fu) := sg (fu := fu) ⟨[], [], [(6, ⟨⟨[(4, .var (.p .b (.l .u)) 30), (6, .var (.p .b (.l .u)) 30), (9, .var (.p .b (.l .u)) 30)], []⟩, ⟨[], [(.r, ⟨[(4, .var (.p .b (.l .u)) 30)], [(5, .ci 0)]⟩)]⟩⟩), (11, ⟨⟨[(1, .d .i), (2, .q (.p .b (.l .u))), (52, .d .i), (11, .var (.p .b (.l .u)) 30)], []⟩, ⟨[4, 6, 9, 10], [(.x 2, ⟨[(1, .d .i), (2, .q (.p .b (.l .u))), (11, .var (.p .b (.l .u)) 30)], []⟩)]⟩⟩)], [], [], []⟩ Tryz.func250 (cC (g_zint_Sign fu) <| cC (g_nat_Shr fu) <| cC (g_zint_Cmp fu) <| cC (g_zint_Add fu) <| cC (g_zint_Mul fu) <| cC (g_zint_made fu) <| cC (g_nat_Bits fu) <| cC (g_nat_Shl fu) <| cC (g_zint_Of fu) <| cN) (by kernel_rfl) fun x => by kernel_rfl
def s_zsqf_wrong (fu : Nat) : Sig := ⟨116, [.d (.l (.p .b (.l .u)))], [.d .i], fun x => M_zsqf_wrong fu x.1, 0⟩
theorem g_zsqf_wrong (fu : Nat) : SigOK Tryz.prog (s_zsqf_wrong fu) := sg (fu := fu) ⟨[], [], [], [], [], []⟩ Tryz.func116 (cC (g_zpoly_Norm fu) <| cN) (by kernel_rfl) fun x => by kernel_rfl
def s_zsqf_Bound (fu : Nat) : Sig := ⟨182, [.d (.l (.p .b (.l .u)))], [.d (.p .b (.l .u)), .d .i], fun x => M_zsqf_Bound fu x.1, 0⟩
theorem g_zsqf_Bound (fu : Nat) : SigOK Tryz.prog (s_zsqf_Bound fu) := sg (fu := fu) ⟨[], [(524297, ⟨[0, 2, 5], [(.n, ⟨[(22, .d .i), (24, .d .b)], []⟩)]⟩)], [(7, ⟨⟨[(23, .d .i), (0, .own (.p .b (.l .u)) 30), (2, .var (.p .b (.l .u)) 30), (5, .var (.p .b (.l .u)) 30)], [(21, .al 0)]⟩, ⟨[], [(.x 0, ⟨[(0, .own (.p .b (.l .u)) 30), (2, .var (.p .b (.l .u)) 30), (5, .var (.p .b (.l .u)) 30)], []⟩)]⟩⟩)], [], [], []⟩ Tryz.func182 (cC (g_zint_Norm fu) <| cC (g_zint_Add fu) <| cC (g_zint_Mul fu) <| cC (g_zsqf_wrong fu) <| cC (g_zpoly_Norm fu) <| cC (g_zint_Root fu) <| cC (g_nat_Shl fu) <| cC (g_zint_Of fu) <| cN) (by kernel_rfl) fun x => by kernel_rfl
def s_zfac_enough (fu : Nat) : Sig := ⟨122, [.d (.l (.p .b (.l .u))), .d .i], [.d .i], fun x => M_zfac_enough fu x.1 x.2.1, 0⟩
theorem g_zfac_enough (fu : Nat) : SigOK Tryz.prog (s_zfac_enough fu) := sg (fu := fu) ⟨[], [], [(5, ⟨⟨[(9, .d .i), (8, .var (.p .b (.l .u)) 30)], []⟩, ⟨[5, 7], [(.x 0, ⟨[(9, .d .i)], []⟩)]⟩⟩)], [(2, [])], [], []⟩ Tryz.func122 (cC (g_zint_Mul fu) <| cC (g_zint_Of fu) <| cC (g_zsqf_Bound fu) <| cC (g_zint_Cmp fu) <| cN) (by kernel_rfl) fun x => by kernel_rfl
def s_zfac_great (fu : Nat) : Sig := ⟨120, [.d (.l (.p .b (.l .u)))], [.d .b], fun x => M_zfac_great fu x.1, 0⟩
theorem g_zfac_great (fu : Nat) : SigOK Tryz.prog (s_zfac_great fu) := sg (fu := fu) ⟨[], [], [], [(2, [])], [], []⟩ Tryz.func120 (cC (g_zint_Mul fu) <| cC (g_zint_Of fu) <| cC (g_zsqf_Bound fu) <| cC (g_nat_Bits fu) <| cN) (by kernel_rfl) fun x => by kernel_rfl
def s_ffac_compare (fu : Nat) : Sig := ⟨261, [.d (.l .i), .d (.l .i)], [.d .i], fun x => M_ffac_compare fu x.1 x.2.1, 0⟩
theorem g_ffac_compare (fu : Nat) : SigOK Tryz.prog (s_ffac_compare fu) := sg (fu := fu) ⟨[], [], [(4, ⟨⟨[(5, .d .i)], []⟩, ⟨[], [(.x 0, ⟨[], []⟩), (.r, ⟨[(4, .d .i)], []⟩)]⟩⟩)], [], [], []⟩ Tryz.func261 (cN) (by kernel_rfl) fun x => by kernel_rfl
def s_flin_Echelon_1 (fu : Nat) : Sig := ⟨376, [.d (.l .i), .q .i], [.d .b], fun x => M_flin_Echelon_1 fu x.1 x.2.1, 0⟩
theorem g_flin_Echelon_1 (fu : Nat) : SigOK Tryz.prog (s_flin_Echelon_1 fu) := sg (fu := fu) ⟨[], [], [], [], [], []⟩ Tryz.func376 (cN) (by kernel_rfl) fun x => by kernel_rfl
def s_flin_plain (fu : Nat) : Sig := ⟨375, [.d (.l .i), .d .i], [.own .i 3], fun x => M_flin_plain fu x.1 x.2.1, 0⟩
theorem g_flin_plain (fu : Nat) : SigOK Tryz.prog (s_flin_plain fu) := sg (fu := fu) ⟨[], [], [(3, ⟨⟨[(13, .d .i), (5, .own .i 3)], []⟩, ⟨[], [(.x 0, ⟨[(5, .own .i 3)], []⟩)]⟩⟩)], [], [], []⟩ Tryz.func375 (cC (g_fp_Red fu) <| cN) (by kernel_rfl) fun x => by kernel_rfl
def s_flin_right (fu : Nat) : Sig := ⟨351, [.d (.l (.l .i)), .d .i], [.d .i], fun x => M_flin_right fu x.1 x.2.1, 0⟩
theorem g_flin_right (fu : Nat) : SigOK Tryz.prog (s_flin_right fu) := sg (fu := fu) ⟨[], [(393223, ⟨[], [(.n, ⟨[(0, .d (.l (.l .i))), (17, .d (.l (.l .i))), (18, .d .i), (20, .d .b)], []⟩)]⟩)], [(5, ⟨⟨[(19, .d .i)], []⟩, ⟨[], [(.x 0, ⟨[], []⟩), (.r, ⟨[], [(4, .ci 1)]⟩)]⟩⟩)], [], [], []⟩ Tryz.func351 (cC (g_fp_Check fu) <| cN) (by kernel_rfl) fun x => by kernel_rfl
def s_flin_strike (fu : Nat) : MSig := ⟨377, .i, 23, 3, fun xss ix r a p lo n => M_flin_strike fu xss ix r a p lo n⟩
theorem e_flin_strike (fu : Nat) (pn : Value) (xss : List (List Int)) (ix : List Nat) (r : Nat) (a p : Int) (lo n : Nat) : denM ⟨tt, [], (⟨[], [], [(1, ⟨⟨[(3, .matv .i 23 3), (13, .view 0), (0, .row 0), (15, .d .i)], []⟩, ⟨[], [(.x 0, ⟨[(3, .matv .i 23 3)], []⟩)]⟩⟩), (5, ⟨⟨[(3, .matv .i 23 3), (13, .view 0), (0, .row 0), (23, .row 0), (9, .row 0), (25, .d .i)], []⟩, ⟨[], [(.x 2, ⟨[(3, .matv .i 23 3), (13, .view 0), (0, .row 0)], []⟩)]⟩⟩)], [], [], []⟩ : An), fu, ex, [], [], []⟩ Tryz.f377 .i 23 3 pn xss ix r a p lo n = M_flin_strike fu xss ix r a p lo n := by kernel_rfl
theorem g_flin_strike (fu : Nat) : MSigOK Tryz.prog (s_flin_strike fu) := denM_s (s := s_flin_strike fu) (cf := ⟨tt, [], (⟨[], [], [(1, ⟨⟨[(3, .matv .i 23 3), (13, .view 0), (0, .row 0), (15, .d .i)], []⟩, ⟨[], [(.x 0, ⟨[(3, .matv .i 23 3)], []⟩)]⟩⟩), (5, ⟨⟨[(3, .matv .i 23 3), (13, .view 0), (0, .row 0), (23, .row 0), (9, .row 0), (25, .d .i)], []⟩, ⟨[], [(.x 2, ⟨[(3, .matv .i 23 3), (13, .view 0), (0, .row 0)], []⟩)]⟩⟩)], [], [], []⟩ : An), fu, ex, [], [], []⟩) mord ttok elok cN (.of exok rfl) Tryz.func377 (by kernel_rfl) fun pn xss ix r a p lo n z h => (e_flin_strike fu pn xss ix r a p lo n).trans h
def s_slices_IndexFunc_int_int (fu : Nat) : Sig := ⟨267, [.d (.l (.l .i)), .fn [(.l .i)] [.b]], [.d .i], fun x => M_slices_IndexFunc_int_int fu x.1 (fun z0 => x.2.1 (z0, ())), 0⟩
theorem g_slices_IndexFunc_int_int (fu : Nat) : SigOK Tryz.prog (s_slices_IndexFunc_int_int fu) := sg (fu := fu) ⟨[], [], [(2, ⟨⟨[(8, .d .i)], []⟩, ⟨[], [(.x 0, ⟨[], []⟩), (.r, ⟨[(4, .d .i)], []⟩)]⟩⟩)], [], [], []⟩ Tryz.func267 (cN) (by kernel_rfl) fun x => by kernel_rfl
def s_flin_Echelon (fu : Nat) : Sig := ⟨352, [.d (.l (.l .i)), .d .i], [.d (.l (.l .i)), .d .i], fun x => M_flin_Echelon fu x.1 x.2.1, 0⟩
theorem g_flin_Echelon (fu : Nat) : SigOK Tryz.prog (s_flin_Echelon fu) := denF_s (s := s_flin_Echelon fu) (cf := ⟨tt, [s_flin_right fu, s_flin_plain fu, s_slices_IndexFunc_int_int fu, s_fp_Inv fu, s_flin_Echelon_1 fu], ⟨[], [], [(6, ⟨⟨[(7, .mat .i 23 3), (25, .d .i)], []⟩, ⟨[], [(.x 0, ⟨[(7, .mat .i 23 3)], []⟩)]⟩⟩), (12, ⟨⟨[(7, .mat .i 23 3), (10, .d .i), (11, .var .i 3)], []⟩, ⟨[], [(.x 2, ⟨[(7, .mat .i 23 3), (10, .d .i)], []⟩)]⟩⟩), (19, ⟨⟨[(7, .mat .i 23 3), (90, .row 0), (92, .d .i)], []⟩, ⟨[], [(.x 4, ⟨[(7, .mat .i 23 3)], []⟩)]⟩⟩)], [(16, []), (23, []), (24, [])], [52, 117, 128], [33]⟩, fu, ex, [s_flin_strike fu], [], []⟩) mord ttok elok (cC (g_flin_right fu) <| cC (g_flin_plain fu) <| cC (g_slices_IndexFunc_int_int fu) <| cC (g_fp_Inv fu) <| cC (g_flin_Echelon_1 fu) <| cN) ⟨exok, fun _ h => absurd h List.not_mem_nil, fun s h => by obtain rfl := List.mem_singleton.1 h; exact g_flin_strike fu, fun _ h => absurd h List.not_mem_nil, rfl⟩ Tryz.func352 (by kernel_rfl) rfl fun x r h => (id (by kernel_rfl) : denF ⟨tt, [s_flin_right fu, s_flin_plain fu, s_slices_IndexFunc_int_int fu, s_fp_Inv fu, s_flin_Echelon_1 fu], ⟨[], [], [(6, ⟨⟨[(7, .mat .i 23 3), (25, .d .i)], []⟩, ⟨[], [(.x 0, ⟨[(7, .mat .i 23 3)], []⟩)]⟩⟩), (12, ⟨⟨[(7, .mat .i 23 3), (10, .d .i), (11, .var .i 3)], []⟩, ⟨[], [(.x 2, ⟨[(7, .mat .i 23 3), (10, .d .i)], []⟩)]⟩⟩), (19, ⟨⟨[(7, .mat .i 23 3), (90, .row 0), (92, .d .i)], []⟩, ⟨[], [(.x 4, ⟨[(7, .mat .i 23 3)], []⟩)]⟩⟩)], [(16, []), (23, []), (24, [])], [52, 117, 128], [33]⟩, fu, ex, [s_flin_strike fu], [], []⟩ Tryz.f352 [.d (.l (.l .i)), .d .i] [.d (.l (.l .i)), .d .i] x = M_flin_Echelon fu x.1 x.2.1).trans h
def s_flin_lead_1 (fu : Nat) : Sig := ⟨379, [.d .i], [.d .b], fun x => M_flin_lead_1 fu x.1, 0⟩
theorem g_flin_lead_1 (fu : Nat) : SigOK Tryz.prog (s_flin_lead_1 fu) := sg (fu := fu) ⟨[], [], [], [], [], []⟩ Tryz.func379 (cN) (by kernel_rfl) fun x => by kernel_rfl
def s_slices_IndexFunc_int_int_2 (fu : Nat) : Sig := ⟨378, [.d (.l .i), .fn [.i] [.b]], [.d .i], fun x => M_slices_IndexFunc_int_int_2 fu x.1 (fun z0 => x.2.1 (z0, ())), 0⟩
theorem g_slices_IndexFunc_int_int_2 (fu : Nat) : SigOK Tryz.prog (s_slices_IndexFunc_int_int_2 fu) := sg (fu := fu) ⟨[], [], [(2, ⟨⟨[(8, .d .i)], []⟩, ⟨[], [(.x 0, ⟨[], []⟩), (.r, ⟨[(4, .d .i)], []⟩)]⟩⟩)], [], [], []⟩ Tryz.func378 (cN) (by kernel_rfl) fun x => by kernel_rfl
def s_flin_lead (fu : Nat) : Sig := ⟨355, [.d (.l .i)], [.d .i], fun x => M_flin_lead fu x.1, 0⟩
theorem g_flin_lead (fu : Nat) : SigOK Tryz.prog (s_flin_lead fu) := sg (fu := fu) ⟨[], [], [], [], [], []⟩ Tryz.func355 (cC (g_slices_IndexFunc_int_int_2 fu) <| cC (g_flin_lead_1 fu) <| cN) (by kernel_rfl) fun x => by kernel_rfl
def s_flin_Null_1 (fu : Nat) : Sig := ⟨354, [.d (.l .i), .q .i], [.d .b], fun x => M_flin_Null_1 fu x.1 x.2.1, 0⟩
theorem g_flin_Null_1 (fu : Nat) : SigOK Tryz.prog (s_flin_Null_1 fu) := sg (fu := fu) ⟨[], [], [], [], [], []⟩ Tryz.func354 (cC (g_flin_lead fu) <| cN) (by kernel_rfl) fun x => by kernel_rfl
def s_slices_ContainsFunc_int_int (fu : Nat) : Sig := ⟨353, [.d (.l (.l .i)), .fn [(.l .i)] [.b]], [.d .b], fun x => M_slices_ContainsFunc_int_int fu x.1 (fun z0 => x.2.1 (z0, ())), 0⟩
theorem g_slices_ContainsFunc_int_int (fu : Nat) : SigOK Tryz.prog (s_slices_ContainsFunc_int_int fu) := sg (fu := fu) ⟨[], [], [], [], [], []⟩ Tryz.func353 (cC (g_slices_IndexFunc_int_int fu) <| cN) (by kernel_rfl) fun x => by kernel_rfl
def s_flin_Null (fu : Nat) : Sig := ⟨322, [.d (.l (.l .i)), .d .i, .d .i], [.own (.l .i) 23, .d .i], fun x => M_flin_Null fu x.1 x.2.1 x.2.2.1, 0⟩
theorem g_flin_Null (fu : Nat) : SigOK Tryz.prog (s_flin_Null fu) := sg (fu := fu) ⟨[], [(131076, ⟨[], [(.n, ⟨[], []⟩), (.r, ⟨[], [(6, .nil), (7, .ci 1)]⟩)]⟩), (458760, ⟨[10], [(.n, ⟨[(1, .d .i), (2, .d .i), (8, .d (.l (.l .i))), (46, .d .i), (48, .d .b)], []⟩)]⟩), (851982, ⟨[10, 12], [(.n, ⟨[(1, .d .i), (2, .d .i), (8, .d (.l (.l .i))), (11, .q .i), (46, .d .i), (47, .d .i), (58, .d (.l (.l .i))), (59, .d .i), (61, .d .b)], []⟩)]⟩)], [(6, ⟨⟨[(10, .own (.l .i) 23), (47, .d .i)], []⟩, ⟨[], [(.x 0, ⟨[(10, .own (.l .i) 23)], []⟩)]⟩⟩), (12, ⟨⟨[(60, .d .i), (10, .own (.l .i) 23), (12, .own .i 3)], []⟩, ⟨[], [(.x 2, ⟨[(10, .own (.l .i) 23), (12, .own .i 3)], []⟩)]⟩⟩)], [], [], []⟩ Tryz.func322 (cC (g_flin_Echelon fu) <| cC (g_slices_ContainsFunc_int_int fu) <| cC (g_flin_Null_1 fu) <| cC (g_flin_lead fu) <| cC (g_fp_Red fu) <| cC (g_flin_right fu) <| cN) (by kernel_rfl) fun x => by kernel_rfl
def s_fpoly_Div (fu : Nat) : Sig := ⟨194, [.d (.l .i), .d (.l .i), .d .i], [.own .i 3, .own .i 3, .d .i], fun x => M_fpoly_Div fu x.1 x.2.1 x.2.2.1, 0⟩
theorem g_fpoly_Div (fu : Nat) : SigOK Tryz.prog (s_fpoly_Div fu) := sg (fu := fu) ⟨[], [], [], [], [], []⟩ Tryz.func194 (cC (g_fp_Check fu) <| cC (g_fpoly_plain fu) <| cC (g_fpoly_divided fu) <| cN) (by kernel_rfl) fun x => by kernel_rfl
def s_fpoly_PowMod (fu : Nat) : Sig := ⟨321, [.d (.l .i), .d (.p .b (.l .u)), .d (.l .i), .d .i], [.own .i 3, .d .i], fun x => M_fpoly_PowMod fu x.1 x.2.1 x.2.2.1 x.2.2.2.1, 0⟩
theorem g_fpoly_PowMod (fu : Nat) : SigOK Tryz.prog (s_fpoly_PowMod fu) := sg (fu := fu) ⟨[], [], [(9, ⟨⟨[(11, .own .i 3), (13, .d (.l .i)), (14, .d .i)], []⟩, ⟨[10, 12], [(.x 0, ⟨[(11, .own .i 3)], []⟩)]⟩⟩)], [], [], []⟩ Tryz.func321 (cC (g_zint_Sign fu) <| cC (g_fpoly_product fu) <| cC (g_fp_Check fu) <| cC (g_fpoly_plain fu) <| cC (g_fpoly_divided fu) <| cC (g_nat_Bits fu) <| cN) (by kernel_rfl) fun x => by kernel_rfl
def s_ffac_fixed (fu : Nat) : Sig := ⟨259, [.d (.l .i), .d .i], [.own (.l .i) 23], fun x => M_ffac_fixed fu x.1 x.2.1, 0⟩
theorem g_ffac_fixed (fu : Nat) : SigOK Tryz.prog (s_ffac_fixed fu) := sg (fu := fu) ⟨[], [], [(4, ⟨⟨[(6, .mat .i 23 3), (23, .d .i)], []⟩, ⟨[], [(.x 0, ⟨[(6, .mat .i 23 3)], []⟩)]⟩⟩), (11, ⟨⟨[(6, .mat .i 23 3), (10, .d (.l .i)), (8, .d (.l .i)), (43, .d .i)], []⟩, ⟨[], [(.x 2, ⟨[(6, .mat .i 23 3)], []⟩)]⟩⟩), (14, ⟨⟨[(6, .mat .i 23 3), (48, .d .i)], []⟩, ⟨[], [(.x 4, ⟨[(6, .mat .i 23 3)], []⟩)]⟩⟩)], [], [], [20]⟩ Tryz.func259 (cC (g_zint_Of fu) <| cC (g_fpoly_PowMod fu) <| cC (g_fpoly_Mul fu) <| cC (g_fpoly_Div fu) <| cC (g_flin_Null fu) <| cN) (by kernel_rfl) fun x => by kernel_rfl
def s_ffac_by (fu : Nat) : Sig := ⟨320, [.d (.l .i), .d (.l .i), .d .i], [.own .i 3], fun x => M_ffac_by fu x.1 x.2.1 x.2.2.1, 0⟩
theorem g_ffac_by (fu : Nat) : SigOK Tryz.prog (s_ffac_by fu) := sg (fu := fu) ⟨[], [], [], [], [], []⟩ Tryz.func320 (cC (g_fpoly_Div fu) <| cN) (by kernel_rfl) fun x => by kernel_rfl
def s_ffac_gcd (fu : Nat) : Sig := ⟨318, [.d (.l .i), .d (.l .i), .d .i], [.d (.l .i)], fun x => M_ffac_gcd fu x.1 x.2.1 x.2.2.1, 0⟩
theorem g_ffac_gcd (fu : Nat) : SigOK Tryz.prog (s_ffac_gcd fu) := sg (fu := fu) ⟨[], [], [], [], [], []⟩ Tryz.func318 (cC (g_fpoly_Gcd fu) <| cN) (by kernel_rfl) fun x => by kernel_rfl
def s_ffac_parted_1 (fu : Nat) : Sig := ⟨316, [.d .i, .q (.l .i), .q .i], [.d .i], fun x => M_ffac_parted_1 fu x.1 x.2.1 x.2.2.1, 0⟩
theorem g_ffac_parted_1 (fu : Nat) : SigOK Tryz.prog (s_ffac_parted_1 fu) := sg (fu := fu) ⟨[], [], [], [], [], []⟩ Tryz.func316 (cC (g_fp_Red fu) <| cN) (by kernel_rfl) fun x => by kernel_rfl
def s_fpoly_Add (fu : Nat) : Sig := ⟨350, [.d (.l .i), .d (.l .i), .d .i], [.own .i 3, .d .i], fun x => M_fpoly_Add fu x.1 x.2.1 x.2.2.1, 0⟩
theorem g_fpoly_Add (fu : Nat) : SigOK Tryz.prog (s_fpoly_Add fu) := sg (fu := fu) ⟨[], [], [], [], [], []⟩ Tryz.func350 (cC (g_fpoly_sum fu) <| cC (g_fp_Check fu) <| cC (g_fpoly_plain fu) <| cN) (by kernel_rfl) fun x => by kernel_rfl
def s_ffac_trial (fu : Nat) : Sig := ⟨319, [.d (.l .i), .d .i, .d (.l .i), .d .i], [.own .i 3], fun x => M_ffac_trial fu x.1 x.2.1 x.2.2.1 x.2.2.2.1, 0⟩
theorem g_ffac_trial (fu : Nat) : SigOK Tryz.prog (s_ffac_trial fu) := sg (fu := fu) ⟨[], [], [], [], [], []⟩ Tryz.func319 (cC (g_fpoly_PowMod fu) <| cC (g_fpoly_Sub fu) <| cC (g_zint_Of fu) <| cC (g_fpoly_Add fu) <| cN) (by kernel_rfl) fun x => by kernel_rfl
def s_ffac_parted (fu : Nat) : Sig := ⟨258, [.d (.l .i), .d (.l (.l .i)), .d .i, .d (.l .i)], [.own (.l .i) 23], fun x => M_ffac_parted fu x.1 x.2.1 x.2.2.1 x.2.2.2.1, 0⟩
theorem g_ffac_parted (fu : Nat) : SigOK Tryz.prog (s_ffac_parted fu) := sg (fu := fu) ⟨[], [(524297, ⟨[10], [(.n, ⟨[(11, .d .i), (28, .d (.l (.l .i))), (29, .d .i), (31, .d .b)], []⟩)]⟩), (983056, ⟨[10], [(.n, ⟨[(1, .d (.l (.l .i))), (6, .q .i), (7, .q (.l .i)), (11, .d .i), (13, .d (.l .i)), (28, .d (.l (.l .i))), (29, .d .i), (30, .d .i), (73, .d .b)], []⟩)]⟩)], [(4, ⟨⟨[(10, .own (.l .i) 23), (11, .d .i)], []⟩, ⟨[], [(.x 0, ⟨[(10, .own (.l .i) 23)], []⟩)]⟩⟩), (7, ⟨⟨[(1, .d (.l (.l .i))), (6, .q .i), (7, .q (.l .i)), (10, .own (.l .i) 23), (30, .d .i)], []⟩, ⟨[], [(.x 0, ⟨[(10, .own (.l .i) 23)], []⟩), (.x 2, ⟨[(1, .d (.l (.l .i))), (6, .q .i), (7, .q (.l .i)), (10, .own (.l .i) 23)], []⟩)]⟩⟩), (10, ⟨⟨[(10, .own (.l .i) 23), (14, .d .i)], []⟩, ⟨[], [(.x 0, ⟨[(10, .own (.l .i) 23)], []⟩), (.x 4, ⟨[(10, .own (.l .i) 23)], []⟩)]⟩⟩)], [], [], []⟩ Tryz.func258 (cC (g_ffac_by fu) <| cC (g_ffac_parted_1 fu) <| cC (g_ffac_gcd fu) <| cC (g_ffac_trial fu) <| cN) (by kernel_rfl) fun x => by kernel_rfl
def s_fpoly_Monic (fu : Nat) : Sig := ⟨349, [.d (.l .i), .d .i], [.own .i 3, .d .i], fun x => M_fpoly_Monic fu x.1 x.2.1, 0⟩
theorem g_fpoly_Monic (fu : Nat) : SigOK Tryz.prog (s_fpoly_Monic fu) := sg (fu := fu) ⟨[], [], [], [], [], []⟩ Tryz.func349 (cC (g_fp_Check fu) <| cC (g_fpoly_plain fu) <| cC (g_fpoly_scaled fu) <| cN) (by kernel_rfl) fun x => by kernel_rfl
def s_ffac_monic (fu : Nat) : Sig := ⟨315, [.d (.l .i), .d .i], [.own .i 3, .d .i], fun x => M_ffac_monic fu x.1 x.2.1, 0⟩
theorem g_ffac_monic (fu : Nat) : SigOK Tryz.prog (s_ffac_monic fu) := sg (fu := fu) ⟨[], [], [], [], [], []⟩ Tryz.func315 (cC (g_fpoly_Monic fu) <| cN) (by kernel_rfl) fun x => by kernel_rfl
def s_fpoly_Deriv (fu : Nat) : Sig := ⟨312, [.d (.l .i), .d .i], [.own .i 3, .d .i], fun x => M_fpoly_Deriv fu x.1 x.2.1, 0⟩
theorem g_fpoly_Deriv (fu : Nat) : SigOK Tryz.prog (s_fpoly_Deriv fu) := sg (fu := fu) ⟨[], [(458760, ⟨[7, 17], [(.n, ⟨[(1, .d .i), (18, .d .i), (20, .d .b)], []⟩)]⟩)], [(6, ⟨⟨[(7, .own .i 3), (19, .d .i), (17, .own .i 3)], []⟩, ⟨[], [(.x 0, ⟨[(7, .own .i 3)], []⟩)]⟩⟩)], [], [], []⟩ Tryz.func312 (cC (g_fp_Check fu) <| cC (g_fpoly_plain fu) <| cN) (by kernel_rfl) fun x => by kernel_rfl
def s_fsqf_monic (fu : Nat) : Sig := ⟨311, [.d (.l .i), .d .i], [.own .i 3, .d .i], fun x => M_fsqf_monic fu x.1 x.2.1, 0⟩
theorem g_fsqf_monic (fu : Nat) : SigOK Tryz.prog (s_fsqf_monic fu) := sg (fu := fu) ⟨[], [], [], [], [], []⟩ Tryz.func311 (cC (g_fpoly_Monic fu) <| cN) (by kernel_rfl) fun x => by kernel_rfl
def s_fsqf_Is (fu : Nat) : Sig := ⟨253, [.d (.l .i), .d .i], [.d .b, .d .i], fun x => M_fsqf_Is fu x.1 x.2.1, 0⟩
theorem g_fsqf_Is (fu : Nat) : SigOK Tryz.prog (s_fsqf_Is fu) := sg (fu := fu) ⟨[], [], [], [], [], []⟩ Tryz.func253 (cC (g_fpoly_Deriv fu) <| cC (g_fpoly_Gcd fu) <| cC (g_fsqf_monic fu) <| cN) (by kernel_rfl) fun x => by kernel_rfl
def s_ffac_square (fu : Nat) : Sig := ⟨257, [.d (.l .i), .d .i], [.d (.l .i), .d .i], fun x => M_ffac_square fu x.1 x.2.1, 0⟩
theorem g_ffac_square (fu : Nat) : SigOK Tryz.prog (s_ffac_square fu) := sg (fu := fu) ⟨[], [], [], [], [], []⟩ Tryz.func257 (cC (g_ffac_monic fu) <| cC (g_fsqf_Is fu) <| cN) (by kernel_rfl) fun x => by kernel_rfl
def s_math_bits_Len (fu : Nat) : Sig := ⟨202, [.d .u], [.d .i], fun x => M_math_bits_Len fu x.1, 0⟩
theorem g_math_bits_Len (fu : Nat) : SigOK Tryz.prog (s_math_bits_Len fu) := sg (fu := fu) ⟨[], [], [], [], [], []⟩ Tryz.func202 (cC (g_math_bits_Len64 fu) <| cN) (by kernel_rfl) fun x => by kernel_rfl
def s_slices_insertionSortCmpFunc_int_io (fu : Nat) : Sig := ⟨356, [.own (.l .i) 23, .d .i, .d .i, .fn [(.l .i), (.l .i)] [.i]], [.own (.l .i) 23], fun x => M_slices_insertionSortCmpFunc_int_io fu x.1 x.2.1 x.2.2.1 (fun z0 z1 => x.2.2.2.1 (z0, z1, ())), 1⟩
theorem g_slices_insertionSortCmpFunc_int_io (fu : Nat) : SigOK Tryz.prog (s_slices_insertionSortCmpFunc_int_io fu) := sgb (fu := fu) ⟨[], [], [(1, ⟨⟨[(8, .d .i), (0, .own (.l .i) 23)], []⟩, ⟨[], [(.x 0, ⟨[(0, .own (.l .i) 23)], []⟩)]⟩⟩), (4, ⟨⟨[(1, .d .i), (2, .d .i), (9, .d .i), (0, .own (.l .i) 23)], []⟩, ⟨[], [(.x 2, ⟨[(1, .d .i), (2, .d .i), (0, .own (.l .i) 23)], []⟩)]⟩⟩)], [(6, [])], [], []⟩ Tryz.func356 (cN) (by kernel_rfl) fun pn x => by kernel_rfl
def s_slices_pdqsortCmpFunc_int_io (fu : Nat) : Sig := ⟨323, [.own (.l .i) 23, .d .i, .d .i, .d .i, .fn [(.l .i), (.l .i)] [.i]], [.own (.l .i) 23], fun x => M_slices_pdqsortCmpFunc_int_io fu x.1 x.2.1 x.2.2.1 x.2.2.2.1 (fun z0 z1 => x.2.2.2.2.1 (z0, z1, ())), 1⟩
theorem g_slices_pdqsortCmpFunc_int_io : ∀ fu : Nat, SigOK Tryz.prog (s_slices_pdqsortCmpFunc_int_io fu)
  | 0 => sg0 (by kernel_rfl) fun _ => rfl
  | fu + 1 => sgb (fu := fu) ⟨[], [], [(2, ⟨⟨[(1, .d .i), (2, .d .i), (3, .d .i), (0, .own (.l .i) 23)], [(10, .kb true), (11, .kb true)]⟩, ⟨[], [(.r, ⟨[(0, .own (.l .i) 23)], []⟩)]⟩⟩)], [], [], []⟩ Tryz.func323 (cC (g_slices_pdqsortCmpFunc_int_io fu) <| cC (g_slices_insertionSortCmpFunc_int_io fu) <| cN) (by kernel_rfl) fun pn x => by kernel_rfl
def s_slices_SortFunc_int_int_io (fu : Nat) : Sig := ⟨260, [.own (.l .i) 23, .fn [(.l .i), (.l .i)] [.i]], [.own (.l .i) 23], fun x => M_slices_SortFunc_int_int_io fu x.1 (fun z0 z1 => x.2.1 (z0, z1, ())), 1⟩
theorem g_slices_SortFunc_int_int_io (fu : Nat) : SigOK Tryz.prog (s_slices_SortFunc_int_int_io fu) := sgb (fu := fu) ⟨[], [], [], [], [], []⟩ Tryz.func260 (cC (g_math_bits_Len fu) <| cC (g_slices_pdqsortCmpFunc_int_io fu) <| cN) (by kernel_rfl) fun pn x => by kernel_rfl
def s_ffac_Split (fu : Nat) : Sig := ⟨187, [.d (.l .i), .d .i, .d (.l .i)], [.own (.l .i) 23, .d .i], fun x => M_ffac_Split fu x.1 x.2.1 x.2.2.1, 0⟩
theorem g_ffac_Split (fu : Nat) : SigOK Tryz.prog (s_ffac_Split fu) := sg (fu := fu) ⟨[], [], [], [], [], []⟩ Tryz.func187 (cC (g_ffac_square fu) <| cC (g_ffac_parted fu) <| cC (g_ffac_fixed fu) <| cC (g_slices_SortFunc_int_int_io fu) <| cC (g_ffac_compare fu) <| cN) (by kernel_rfl) fun x => by kernel_rfl
def s_prime_Next (fu : Nat) : Sig := ⟨184, [.d .i], [.d .i, .d .i], fun x => M_prime_Next fu x.1, 0⟩
theorem g_prime_Next (fu : Nat) : SigOK Tryz.prog (s_prime_Next fu) := sg (fu := fu) ⟨[], [], [(4, ⟨⟨[(0, .d .i)], []⟩, ⟨[], [(.x 0, ⟨[(0, .d .i)], []⟩)]⟩⟩)], [], [], []⟩ Tryz.func184 (cC (g_prime_Is fu) <| cN) (by kernel_rfl) fun x => by kernel_rfl
def s_short_Good (fu : Nat) : Sig := ⟨185, [.d (.l (.p .b (.l .u))), .d .i], [.d .b, .d .i], fun x => M_short_Good fu x.1 x.2.1, 0⟩
theorem g_short_Good (fu : Nat) : SigOK Tryz.prog (s_short_Good fu) := sg (fu := fu) ⟨[], [], [], [], [], []⟩ Tryz.func185 (cC (g_zpoly_Norm fu) <| cC (g_zsqf_Bound fu) <| cC (g_zpoly_Mod fu) <| cC (g_prime_Is fu) <| cC (g_fsqf_Is fu) <| cN) (by kernel_rfl) fun x => by kernel_rfl
def s_zfac_local (fu : Nat) : Sig := ⟨121, [.d (.l (.p .b (.l .u))), .d (.l .i)], [.d .i, .own (.l .i) 23], fun x => M_zfac_local fu x.1 x.2.1, 0⟩
theorem g_zfac_local (fu : Nat) : SigOK Tryz.prog (s_zfac_local fu) := sg (fu := fu) ⟨[], [], [(4, ⟨⟨[(6, .d .i), (7, .d .i), (8, .own (.l .i) 23), (9, .d .i), (10, .d .i)], []⟩, ⟨[], [(.x 0, ⟨[(6, .d .i), (8, .own (.l .i) 23)], []⟩)]⟩⟩)], [], [], []⟩ Tryz.func121 (cC (g_prime_Next fu) <| cC (g_short_Good fu) <| cC (g_zpoly_Mod fu) <| cC (g_ffac_Split fu) <| cN) (by kernel_rfl) fun x => by kernel_rfl
def s_short_choose (fu : Nat) : Sig := ⟨263, [.d .i], [.d (.p .b (.l .u))], fun x => M_short_choose fu x.1, 0⟩
theorem g_short_choose (fu : Nat) : SigOK Tryz.prog (s_short_choose fu) := sg (fu := fu) ⟨[], [(262149, ⟨[2, 3], [(.n, ⟨[(0, .d .i), (6, .d .i), (8, .d .b)], []⟩)]⟩)], [(3, ⟨⟨[(7, .d .i), (2, .var (.p .b (.l .u)) 30), (3, .var (.p .b (.l .u)) 30)], []⟩, ⟨[], [(.x 0, ⟨[(2, .var (.p .b (.l .u)) 30), (3, .var (.p .b (.l .u)) 30)], []⟩)]⟩⟩)], [(5, [])], [], []⟩ Tryz.func263 (cC (g_zint_Exact fu) <| cC (g_zint_Of fu) <| cC (g_zint_Mul fu) <| cN) (by kernel_rfl) fun x => by kernel_rfl
def s_short_power (fu : Nat) : Sig := ⟨262, [.d (.p .b (.l .u)), .d .i], [.d (.p .b (.l .u))], fun x => M_short_power fu x.1 x.2.1, 0⟩
theorem g_short_power (fu : Nat) : SigOK Tryz.prog (s_short_power fu) := sg (fu := fu) ⟨[2], [], [(2, ⟨⟨[(1, .d .i), (2, .var (.p .b (.l .u)) 30), (5, .var (.p .b (.l .u)) 30)], []⟩, ⟨[4], [(.x 0, ⟨[(5, .var (.p .b (.l .u)) 30)], []⟩)]⟩⟩)], [], [], []⟩ Tryz.func262 (cC (g_zint_Of fu) <| cC (g_zint_Mul fu) <| cN) (by kernel_rfl) fun x => by kernel_rfl
def s_lattice_dot (fu : Nat) : Sig := ⟨364, [.d (.l (.p .b (.l .u))), .d (.l (.p .b (.l .u)))], [.d (.p .b (.l .u))], fun x => M_lattice_dot fu x.1 x.2.1, 0⟩
theorem g_lattice_dot (fu : Nat) : SigOK Tryz.prog (s_lattice_dot fu) := sg (fu := fu) ⟨[], [(262149, ⟨[4, 5], [(.n, ⟨[(1, .d (.l (.p .b (.l .u)))), (9, .d (.l (.p .b (.l .u)))), (10, .d .i), (12, .d .b)], []⟩)]⟩)], [(3, ⟨⟨[(11, .d .i), (4, .var (.p .b (.l .u)) 30), (5, .var (.p .b (.l .u)) 30)], []⟩, ⟨[], [(.x 0, ⟨[(4, .var (.p .b (.l .u)) 30), (5, .var (.p .b (.l .u)) 30)], []⟩)]⟩⟩)], [], [], []⟩ Tryz.func364 (cC (g_zint_Of fu) <| cC (g_zint_Add fu) <| cC (g_zint_Mul fu) <| cN) (by kernel_rfl) fun x => by kernel_rfl
def s_lattice_Dot (fu : Nat) : Sig := ⟨324, [.d (.l (.p .b (.l .u))), .d (.l (.p .b (.l .u)))], [.d (.p .b (.l .u)), .d .i], fun x => M_lattice_Dot fu x.1 x.2.1, 0⟩
theorem g_lattice_Dot (fu : Nat) : SigOK Tryz.prog (s_lattice_Dot fu) := sg (fu := fu) ⟨[], [], [], [], [], []⟩ Tryz.func324 (cC (g_lattice_dot fu) <| cN) (by kernel_rfl) fun x => by kernel_rfl
def s_short_square (fu : Nat) : Sig := ⟨264, [.d (.l (.p .b (.l .u)))], [.d (.p .b (.l .u))], fun x => M_short_square fu x.1, 0⟩
theorem g_short_square (fu : Nat) : SigOK Tryz.prog (s_short_square fu) := sg (fu := fu) ⟨[], [], [], [], [], []⟩ Tryz.func264 (cC (g_lattice_Dot fu) <| cN) (by kernel_rfl) fun x => by kernel_rfl
def s_short_Need (fu : Nat) : Sig := ⟨190, [.d (.l (.p .b (.l .u))), .d .i, .d .i], [.d .i, .d .i], fun x => M_short_Need fu x.1 x.2.1 x.2.2.1, 0⟩
theorem g_short_Need (fu : Nat) : SigOK Tryz.prog (s_short_Need fu) := sg (fu := fu) ⟨[], [], [(13, ⟨⟨[(16, .d .i), (15, .var (.p .b (.l .u)) 30)], []⟩, ⟨[8, 13, 14], [(.x 0, ⟨[], []⟩), (.r, ⟨[(6, .d .i)], [(7, .ci 0)]⟩)]⟩⟩)], [], [], []⟩ Tryz.func190 (cC (g_short_power fu) <| cC (g_short_choose fu) <| cC (g_short_square fu) <| cC (g_zint_Cmp fu) <| cC (g_zint_Of fu) <| cC (g_zint_Mul fu) <| cC (g_zsqf_Bound fu) <| cC (g_zpoly_Prim fu) <| cC (g_prime_Is fu) <| cN) (by kernel_rfl) fun x => by kernel_rfl
def s_zfac_sought_1 (fu : Nat) : Sig := ⟨193, [.d (.l .i), .q (.l .i), .q .i], [.d .b], fun x => M_zfac_sought_1 fu x.1 x.2.1 x.2.2.1, 0⟩
theorem g_zfac_sought_1 (fu : Nat) : SigOK Tryz.prog (s_zfac_sought_1 fu) := sg (fu := fu) ⟨[], [], [], [], [], []⟩ Tryz.func193 (cC (g_fpoly_Div fu) <| cN) (by kernel_rfl) fun x => by kernel_rfl
def s_zfac_sought (fu : Nat) : Sig := ⟨124, [.d (.l (.p .b (.l .u))), .d (.l (.l .i)), .d .i], [.own (.l (.p .b (.l .u))) 22, .d (.l (.p .b (.l .u))), .d (.l (.l .i))], fun x => M_zfac_sought fu x.1 x.2.1 x.2.2.1, 0⟩
theorem g_zfac_sought (fu : Nat) : SigOK Tryz.prog (s_zfac_sought fu) := sg (fu := fu) ⟨[], [], [(2, ⟨⟨[(0, .d (.l (.p .b (.l .u)))), (1, .d (.l (.l .i)))], [(9, .nil)]⟩, ⟨[], [(.x 0, ⟨[(0, .d (.l (.p .b (.l .u)))), (1, .d (.l (.l .i)))], [(9, .nil)]⟩)]⟩⟩)], [], [], []⟩ Tryz.func124 (cC (g_zpoly_Div fu) <| cC (g_zfac_sought_1 fu) <| cC (g_zpoly_Mod fu) <| cC (g_hensel_Lift fu) <| cC (g_short_Need fu) <| cN) (by kernel_rfl) fun x => by kernel_rfl
def s_slices_insertionSortCmpFunc_api_Int_io (fu : Nat) : Sig := ⟨284, [.own (.l (.p .b (.l .u))) 22, .d .i, .d .i, .fn [(.l (.p .b (.l .u))), (.l (.p .b (.l .u)))] [.i]], [.own (.l (.p .b (.l .u))) 22], fun x => M_slices_insertionSortCmpFunc_api_Int_io fu x.1 x.2.1 x.2.2.1 (fun z0 z1 => x.2.2.2.1 (z0, z1, ())), 1⟩
theorem g_slices_insertionSortCmpFunc_api_Int_io (fu : Nat) : SigOK Tryz.prog (s_slices_insertionSortCmpFunc_api_Int_io fu) := sgb (fu := fu) ⟨[], [], [(1, ⟨⟨[(8, .d .i), (0, .own (.l (.p .b (.l .u))) 22)], []⟩, ⟨[], [(.x 0, ⟨[(0, .own (.l (.p .b (.l .u))) 22)], []⟩)]⟩⟩), (4, ⟨⟨[(1, .d .i), (2, .d .i), (9, .d .i), (0, .own (.l (.p .b (.l .u))) 22)], []⟩, ⟨[], [(.x 2, ⟨[(1, .d .i), (2, .d .i), (0, .own (.l (.p .b (.l .u))) 22)], []⟩)]⟩⟩)], [(6, [])], [], []⟩ Tryz.func284 (cN) (by kernel_rfl) fun pn x => by kernel_rfl
def s_slices_pdqsortCmpFunc_api_Int_io (fu : Nat) : Sig := ⟨201, [.own (.l (.p .b (.l .u))) 22, .d .i, .d .i, .d .i, .fn [(.l (.p .b (.l .u))), (.l (.p .b (.l .u)))] [.i]], [.own (.l (.p .b (.l .u))) 22], fun x => M_slices_pdqsortCmpFunc_api_Int_io fu x.1 x.2.1 x.2.2.1 x.2.2.2.1 (fun z0 z1 => x.2.2.2.2.1 (z0, z1, ())), 1⟩
theorem g_slices_pdqsortCmpFunc_api_Int_io : ∀ fu : Nat, SigOK Tryz.prog (s_slices_pdqsortCmpFunc_api_Int_io fu)
  | 0 => sg0 (by kernel_rfl) fun _ => rfl
  | fu + 1 => sgb (fu := fu) ⟨[], [], [(2, ⟨⟨[(1, .d .i), (2, .d .i), (3, .d .i), (0, .own (.l (.p .b (.l .u))) 22)], [(10, .kb true), (11, .kb true)]⟩, ⟨[], [(.r, ⟨[(0, .own (.l (.p .b (.l .u))) 22)], []⟩)]⟩⟩)], [], [], []⟩ Tryz.func201 (cC (g_slices_pdqsortCmpFunc_api_Int_io fu) <| cC (g_slices_insertionSortCmpFunc_api_Int_io fu) <| cN) (by kernel_rfl) fun pn x => by kernel_rfl
def s_slices_SortFunc_api_Int_api_Int_io (fu : Nat) : Sig := ⟨127, [.own (.l (.p .b (.l .u))) 22, .fn [(.l (.p .b (.l .u))), (.l (.p .b (.l .u)))] [.i]], [.own (.l (.p .b (.l .u))) 22], fun x => M_slices_SortFunc_api_Int_api_Int_io fu x.1 (fun z0 z1 => x.2.1 (z0, z1, ())), 1⟩
theorem g_slices_SortFunc_api_Int_api_Int_io (fu : Nat) : SigOK Tryz.prog (s_slices_SortFunc_api_Int_api_Int_io fu) := sgb (fu := fu) ⟨[], [], [], [], [], []⟩ Tryz.func127 (cC (g_slices_pdqsortCmpFunc_api_Int_io fu) <| cC (g_math_bits_Len fu) <| cN) (by kernel_rfl) fun pn x => by kernel_rfl
def s_zfac_split (fu : Nat) : Sig := ⟨60, [.d (.l (.p .b (.l .u))), .d (.l .i)], [.own (.l (.p .b (.l .u))) 22, .d .b], fun x => M_zfac_split fu x.1 x.2.1, 0⟩
theorem g_zfac_split (fu : Nat) : SigOK Tryz.prog (s_zfac_split fu) := sg (fu := fu) ⟨[], [], [], [], [], []⟩ Tryz.func60 (cC (g_zfac_compare fu) <| cC (g_zfac_great fu) <| cC (g_zfac_local fu) <| cC (g_zfac_enough fu) <| cC (g_hensel_Power fu) <| cC (g_zfac_sought fu) <| cC (g_hensel_Lift fu) <| cC (g_zfac_chosen fu) <| cC (g_slices_SortFunc_api_Int_api_Int_io fu) <| cN) (by kernel_rfl) fun x => by kernel_rfl
def s_zgcd_power (fu : Nat) : Sig := ⟨161, [.d (.p .b (.l .u)), .d .i], [.d (.p .b (.l .u))], fun x => M_zgcd_power fu x.1 x.2.1, 0⟩
theorem g_zgcd_power (fu : Nat) : SigOK Tryz.prog (s_zgcd_power fu) := sg (fu := fu) ⟨[], [], [(3, ⟨⟨[(8, .d .i), (5, .var (.p .b (.l .u)) 30)], []⟩, ⟨[4], [(.x 0, ⟨[(5, .var (.p .b (.l .u)) 30)], []⟩)]⟩⟩)], [], [], []⟩ Tryz.func161 (cC (g_zint_Of fu) <| cC (g_zint_Mul fu) <| cN) (by kernel_rfl) fun x => by kernel_rfl
def s_zgcd_Pseudo (fu : Nat) : Sig := ⟨179, [.d (.l (.p .b (.l .u))), .d (.l (.p .b (.l .u)))], [.own (.p .b (.l .u)) 30, .own (.p .b (.l .u)) 30, .d .i], fun x => M_zgcd_Pseudo fu x.1 x.2.1, 0⟩
theorem g_zgcd_Pseudo (fu : Nat) : SigOK Tryz.prog (s_zgcd_Pseudo fu) := sg (fu := fu) ⟨[], [], [(9, ⟨⟨[(1, .d (.l (.p .b (.l .u)))), (9, .own (.p .b (.l .u)) 30), (11, .d .i), (10, .own (.p .b (.l .u)) 30)], []⟩, ⟨[8], [(.x 0, ⟨[(9, .own (.p .b (.l .u)) 30), (10, .own (.p .b (.l .u)) 30)], []⟩)]⟩⟩)], [(12, []), (13, [1])], [], []⟩ Tryz.func179 (cC (g_zgcd_power fu) <| cC (g_zint_Exact fu) <| cC (g_zpoly_Scale fu) <| cC (g_zpoly_Norm fu) <| cC (g_zpoly_Sub fu) <| cN) (by kernel_rfl) fun x => by kernel_rfl
def s_zgcd_Gcd (fu : Nat) : Sig := ⟨118, [.d (.l (.p .b (.l .u))), .d (.l (.p .b (.l .u)))], [.own (.p .b (.l .u)) 30], fun x => M_zgcd_Gcd fu x.1 x.2.1, 0⟩
theorem g_zgcd_Gcd (fu : Nat) : SigOK Tryz.prog (s_zgcd_Gcd fu) := sg (fu := fu) ⟨[], [], [(3, ⟨⟨[(6, .d (.l (.p .b (.l .u)))), (7, .own (.p .b (.l .u)) 30)], []⟩, ⟨[5], [(.x 0, ⟨[(6, .d (.l (.p .b (.l .u))))], []⟩)]⟩⟩)], [], [], []⟩ Tryz.func118 (cC (g_zint_Gcd fu) <| cC (g_zgcd_Pseudo fu) <| cC (g_zpoly_Scale fu) <| cC (g_zpoly_Prim fu) <| cC (g_zpoly_Content fu) <| cN) (by kernel_rfl) fun x => by kernel_rfl
def s_zpoly_Deriv_1 (fu : Nat) : Sig := ⟨181, [.d .i, .d (.p .b (.l .u))], [.d (.p .b (.l .u))], fun x => M_zpoly_Deriv_1 fu x.1 x.2.1, 0⟩
theorem g_zpoly_Deriv_1 (fu : Nat) : SigOK Tryz.prog (s_zpoly_Deriv_1 fu) := sg (fu := fu) ⟨[], [], [], [], [], []⟩ Tryz.func181 (cC (g_zint_Of fu) <| cC (g_zint_Mul fu) <| cN) (by kernel_rfl) fun x => by kernel_rfl
def s_zpoly_Deriv (fu : Nat) : Sig := ⟨119, [.d (.l (.p .b (.l .u)))], [.own (.p .b (.l .u)) 30], fun x => M_zpoly_Deriv fu x.1, 0⟩
theorem g_zpoly_Deriv (fu : Nat) : SigOK Tryz.prog (s_zpoly_Deriv fu) := sg (fu := fu) ⟨[], [], [], [], [], []⟩ Tryz.func119 (cC (g_zpoly_Norm fu) <| cC (g_zpoly_Deriv_1 fu) <| cC (g_zpoly_each_api_Int_api_Int fu) <| cN) (by kernel_rfl) fun x => by kernel_rfl
def s_zsqf_by (fu : Nat) : Sig := ⟨117, [.d (.l (.p .b (.l .u))), .d (.l (.p .b (.l .u)))], [.own (.p .b (.l .u)) 30], fun x => M_zsqf_by fu x.1 x.2.1, 0⟩
theorem g_zsqf_by (fu : Nat) : SigOK Tryz.prog (s_zsqf_by fu) := sg (fu := fu) ⟨[], [], [], [], [], []⟩ Tryz.func117 (cC (g_zpoly_Div fu) <| cN) (by kernel_rfl) fun x => by kernel_rfl
def s_zsqf_Radical (fu : Nat) : Sig := ⟨59, [.d (.l (.p .b (.l .u)))], [.own (.p .b (.l .u)) 30, .d .i], fun x => M_zsqf_Radical fu x.1, 0⟩
theorem g_zsqf_Radical (fu : Nat) : SigOK Tryz.prog (s_zsqf_Radical fu) := sg (fu := fu) ⟨[], [], [], [], [], []⟩ Tryz.func59 (cC (g_zsqf_wrong fu) <| cC (g_zsqf_by fu) <| cC (g_zgcd_Gcd fu) <| cC (g_zpoly_Deriv fu) <| cC (g_zpoly_Prim fu) <| cN) (by kernel_rfl) fun x => by kernel_rfl
def s_zfac_Factors (fu : Nat) : Sig := ⟨15, [.d (.l (.p .b (.l .u))), .d (.l .i)], [.d (.p .b (.l .u)), .own (.p (.l (.p .b (.l .u))) .i) 42, .d .i], fun x => M_zfac_Factors fu x.1 x.2.1, 0⟩
theorem g_zfac_Factors (fu : Nat) : SigOK Tryz.prog (s_zfac_Factors fu) := sg (fu := fu) ⟨[], [(655371, ⟨[4, 11, 32], [(.n, ⟨[(0, .d (.l (.p .b (.l .u)))), (33, .d .i), (35, .d .b)], []⟩)]⟩)], [(9, ⟨⟨[(11, .own (.p (.l (.p .b (.l .u))) .i) 42), (34, .d .i), (4, .var (.p .b (.l .u)) 30), (32, .own (.l (.p .b (.l .u))) 22)], []⟩, ⟨[], [(.x 0, ⟨[(11, .own (.p (.l (.p .b (.l .u))) .i) 42), (4, .var (.p .b (.l .u)) 30)], []⟩)]⟩⟩)], [], [], []⟩ Tryz.func15 (cC (g_zsqf_Radical fu) <| cC (g_zfac_split fu) <| cC (g_zfac_often fu) <| cC (g_zpoly_Content fu) <| cN) (by kernel_rfl) fun x => by kernel_rfl
def s_zfac_Irreducible (fu : Nat) : Sig := ⟨16, [.d (.l (.p .b (.l .u)))], [.d .b, .d .i], fun x => M_zfac_Irreducible fu x.1, 0⟩
theorem g_zfac_Irreducible (fu : Nat) : SigOK Tryz.prog (s_zfac_Irreducible fu) := sg (fu := fu) ⟨[], [], [], [], [], []⟩ Tryz.func16 (cC (g_zfac_Factors fu) <| cN) (by kernel_rfl) fun x => by kernel_rfl
def s_slices_Reverse_byte_byte_io (fu : Nat) : Sig := ⟨228, [.own .ch 5], [.own .ch 5], fun x => M_slices_Reverse_byte_byte_io fu x.1, 1⟩
theorem g_slices_Reverse_byte_byte_io (fu : Nat) : SigOK Tryz.prog (s_slices_Reverse_byte_byte_io fu) := sgb (fu := fu) ⟨[], [], [(1, ⟨⟨[(2, .d .i), (3, .d .i), (0, .own .ch 5)], []⟩, ⟨[], [(.x 0, ⟨[(0, .own .ch 5)], []⟩)]⟩⟩)], [(3, [])], [], []⟩ Tryz.func228 (cN) (by kernel_rfl) fun pn x => by kernel_rfl
def s_nat_digits (fu : Nat) : Sig := ⟨165, [.d .u, .d .b], [.d .tx], fun x => M_nat_digits fu x.1 x.2.1, 0⟩
theorem g_nat_digits (fu : Nat) : SigOK Tryz.prog (s_nat_digits fu) := sg (fu := fu) ⟨[], [], [(2, ⟨⟨[(0, .d .u), (5, .own .ch 5)], []⟩, ⟨[], [(.x 0, ⟨[(5, .own .ch 5)], []⟩)]⟩⟩)], [], [], []⟩ Tryz.func165 (cC (g_slices_Reverse_byte_byte_io fu) <| cN) (by kernel_rfl) fun x => by kernel_rfl
def s_slices_Reverse_string_string_io (fu : Nat) : Sig := ⟨166, [.own .tx 9], [.own .tx 9], fun x => M_slices_Reverse_string_string_io fu x.1, 1⟩
theorem g_slices_Reverse_string_string_io (fu : Nat) : SigOK Tryz.prog (s_slices_Reverse_string_string_io fu) := sgb (fu := fu) ⟨[], [], [(1, ⟨⟨[(2, .d .i), (3, .d .i), (0, .own .tx 9)], []⟩, ⟨[], [(.x 0, ⟨[(0, .own .tx 9)], []⟩)]⟩⟩)], [(3, [])], [], []⟩ Tryz.func166 (cN) (by kernel_rfl) fun pn x => by kernel_rfl
def s_strings_Join (fu : Nat) : Sig := ⟨167, [.d (.l .tx), .d .tx], [.d .tx], fun x => M_strings_Join fu x.1 x.2.1, 0⟩
theorem g_strings_Join (fu : Nat) : SigOK Tryz.prog (s_strings_Join fu) := sig_join (by kernel_rfl) Tryz.strings_Join_none Tryz.strings_Join
def s_nat_Text (fu : Nat) : Sig := ⟨106, [.d (.l .u)], [.d .tx], fun x => M_nat_Text fu x.1, 0⟩
theorem g_nat_Text (fu : Nat) : SigOK Tryz.prog (s_nat_Text fu) := sg (fu := fu) ⟨[], [], [(3, ⟨⟨[(0, .d (.l .u)), (3, .own .tx 9)], []⟩, ⟨[], [(.x 0, ⟨[(3, .own .tx 9)], []⟩)]⟩⟩)], [], [], []⟩ Tryz.func106 (cC (g_nat_short fu) <| cC (g_nat_digits fu) <| cC (g_slices_Reverse_string_string_io fu) <| cC (g_strings_Join fu) <| cC (g_nat_plain_own fu) <| cC (g_nat_plain fu) <| cN) (by kernel_rfl) fun x => by kernel_rfl
def s_zint_Text (fu : Nat) : Sig := ⟨49, [.d (.p .b (.l .u))], [.d .tx], fun x => M_zint_Text fu x.1, 0⟩
theorem g_zint_Text (fu : Nat) : SigOK Tryz.prog (s_zint_Text fu) := sg (fu := fu) ⟨[], [], [], [], [], []⟩ Tryz.func49 (cC (g_nat_Text fu) <| cC (g_zint_Sign fu) <| cN) (by kernel_rfl) fun x => by kernel_rfl
def s_law16_awake (fu : Nat) : Sig := ⟨12, [], [.d .b], fun x => M_law16_awake fu , 0⟩
theorem g_law16_awake (fu : Nat) : SigOK Tryz.prog (s_law16_awake fu) := sg (fu := fu) ⟨[], [], [], [], [], []⟩ Tryz.func12 (cC (g_zfac_Factors fu) <| cC (g_zfac_Irreducible fu) <| cC (g_zint_Text fu) <| cC (g_ref10_Of fu) <| cC (g_ref16_Same fu) <| cC (g_zpoly_Of fu) <| cN) (by kernel_rfl) fun x => by kernel_rfl
def s_law16_ZfacUnity (fu : Nat) : Sig := ⟨8, [.d .i], [.d .b], fun x => M_law16_ZfacUnity fu x.1, 0⟩
theorem g_law16_ZfacUnity (fu : Nat) : SigOK Tryz.prog (s_law16_ZfacUnity fu) := sg (fu := fu) ⟨[], [], [(12, ⟨⟨[(10, .d .i), (11, .d .i), (7, .own (.p (.l (.p .b (.l .u))) .i) 42), (9, .own .i 3)], []⟩, ⟨[6], [(.x 0, ⟨[(10, .d .i), (7, .own (.p (.l (.p .b (.l .u))) .i) 42), (9, .own .i 3)], []⟩)]⟩⟩), (18, ⟨⟨[(4, .d .i), (12, .d .i), (13, .d .i), (7, .own (.p (.l (.p .b (.l .u))) .i) 42), (9, .own .i 3)], []⟩, ⟨[], [(.x 2, ⟨[(4, .d .i), (12, .d .i), (7, .own (.p (.l (.p .b (.l .u))) .i) 42), (9, .own .i 3)], []⟩)]⟩⟩), (22, ⟨⟨[(10, .d .i), (11, .d .i), (14, .d .i), (15, .d .i)], []⟩, ⟨[7, 9], [(.x 4, ⟨[(10, .d .i), (11, .d .i), (14, .d .i)], []⟩)]⟩⟩), (32, ⟨⟨[(17, .d .i), (9, .own .i 3)], []⟩, ⟨[6, 7], [(.x 6, ⟨[], []⟩), (.r, ⟨[], [(2, .kb false)]⟩)]⟩⟩)], [], [], []⟩ Tryz.func8 (cC (g_law16_awake fu) <| cC (g_zint_Of fu) <| cC (g_zfac_Factors fu) <| cN) (by kernel_rfl) fun x => by kernel_rfl
end Go.Proofs.YtmggkmchbdanfaaGreat
end

section
set_option linter.unusedVariables false
set_option linter.unusedSimpArgs false
set_option maxRecDepth 100000
namespace Go.Proofs.YtmggkmchbdanfaaGreat
end Go.Proofs.YtmggkmchbdanfaaGreat
end

section
set_option linter.unusedVariables false
set_option linter.unusedSimpArgs false
namespace Go.Proofs.YtmggkmchbdanfaaGreat
theorem loop_eq {α β : Type} {f : (β -> Option α) -> β -> Option α} (I : β -> Prop) (m : β -> Nat) (r : α)
  (step : ∀ s L, I s -> (∀ s', I s' -> m s' < m s -> L s' = some r) -> f L s = some r) : ∀ (n : Nat) (s : β), I s -> m s < n -> loopN f n s = some r
 | 0, s, _, h => absurd h (Nat.not_lt_zero _)
 | n + 1, s, hI, h => step s _ hI fun s' hI' hm => loop_eq I m r step n s' hI' (by omega)
theorem nv_take_pred {a : List Nat} {k : Nat} (hk : k + 1 <= a.length) (h0 : a.getD k 0 = 0) : nv (a.take k) = nv (a.take (k + 1)) := by
 rw [nv_take_succ, h0]; simp
theorem toL_take_top {a : List Nat} (h : Limbs a) {k : Nat} (hk : k + 1 <= a.length) (h0 : a.getD k 0 ≠ 0) : toL (nv (a.take (k + 1))) = a.take (k + 1) := by
 refine toL_of_last (h.take _) (.inr ?_)
 have : (a.take (k + 1)).length - 1 = k := by rw [List.length_take]; omega
 rw [this, List.getD_eq_getElem?_getD, List.getElem?_take, if_pos (by omega), <- List.getD_eq_getElem?_getD]
 exact h0
theorem M_nat_plain_own_eq {fu : Nat} {a : List Nat} (h : Limbs a) (hl : a.length <= 17592186044416) (hf : a.length < fu) : M_nat_plain_own fu a = some (toL (nv a)) := by
 unfold M_nat_plain_own
 rw [bd_t (v := toL (nv a))]
 refine loop_eq (fun l => Limbs l /\ nv l = nv a /\ l.length <= 17592186044416) (fun l => l.length) _ ?_ _ _ ⟨h, rfl, hl⟩ hf
 rintro l L ⟨hL, hn, hk⟩ ih
 unfold B_nat_plain_own_0
 by_cases h0 : 0 < ((l.length : Nat) : Int)
 ·obtain ⟨k, hk1⟩ : ∃ k, l.length = k + 1 := ⟨l.length - 1, by omega⟩
  have e1 : ((l.length : Nat) : Int) - 1 = (k : Int) := by omega
  rw [if_pos h0, e1, ck64_t ⟨by omega, by omega⟩, ckI_n (by omega), nm_t]
  by_cases h1 : l.getD k 0 = 0
  ·rw [if_pos (by rw [h1]), ck64_t ⟨by omega, by omega⟩, ckN_n, ck_t (by omega), nm_t]
   refine ih _ ⟨hL.take _, ?_, by rw [List.length_take]; omega⟩ (by rw [List.length_take]; omega)
   rw [nv_take_pred (by omega) h1, <- hk1, List.take_length, hn]
  ·rw [if_neg (by omega), <- hn]
   have := toL_take_top hL (k := k) (by omega) h1
   rw [<- hk1, List.take_length] at this
   rw [this]
 ·rw [if_neg h0, <- hn]
  have : l = [] := List.length_eq_zero_iff.1 (by omega)
  rw [this]; rfl
theorem M_nat_plain_eq {fu : Nat} {a : List Nat} (h : Limbs a) (hl : a.length <= 17592186044416) (hf : a.length < fu) : M_nat_plain fu a = some (toL (nv a)) := by
 have := M_nat_plain_own_eq h hl hf
 unfold M_nat_plain_own B_nat_plain_own_0 at this
 unfold M_nat_plain B_nat_plain_0
 exact this
theorem M_nat_Norm_eq {fu : Nat} {a : List Nat} (h : Limbs a) (hl : a.length <= 17592186044416) (hf : a.length < fu) : M_nat_Norm fu a = some (toL (nv a)) := by
 unfold M_nat_Norm M_slices_Clone_uint64_uint64
 rw [bd_t (M_nat_plain_eq h hl hf), bd_t (v := toL (nv a))]
 rw [ck_t (by have := toL_nv_le h; omega)]
theorem and32 (x : Nat) : x &&& 4294967295 = x % 4294967296 := Nat.and_two_pow_sub_one_eq_mod x 32
theorem min32 : min (((32 : Nat) : Int)).toNat 64 = 32 := by decide
theorem M_math_bits_Mul64_eq {fu x y : Nat} (hx : x < 18446744073709551616) (hy : y < 18446744073709551616) : M_math_bits_Mul64 fu x y = some (x * y / 18446744073709551616, x * y % 18446744073709551616) := by
 unfold M_math_bits_Mul64
 simp only [nm, and32, min32]
 obtain ⟨b1, b2, b3, b4⟩ := mul64_b hx hy
 have e := mul64_eq x y
 generalize hA : (x % 4294967296) * (y % 4294967296) = A at *
 generalize hB : (x / 2 ^ 32) * (y % 4294967296) = B at *
 generalize hC : (x % 4294967296) * (y / 2 ^ 32) = C at *
 generalize hD : (x / 2 ^ 32) * (y / 2 ^ 32) = D at *
 have hz : x * y < 18446744073709551616 * 18446744073709551616 := Nat.mul_lt_mul'' hx hy
 generalize x * y = z at *
 congr 2
 omega
theorem M_nat_carried_eq {fu n : Nat} {f : Int -> Nat -> Option (Nat × Nat)} {step : Nat -> Nat -> Nat × Nat} (hn : n <= 17179869184) (hf : n < fu)
  (h : ∀ k, k < n -> f (k : Int) (carS step k).2 = some (step k (carS step k).2)) : M_nat_carried fu n f = some (carS step n) := by
 unfold M_nat_carried
 rw [ckN_n, ck_t (by omega), nm_t, bd_t (v := ((carS step n).2, (carS step n).1))]
 refine loop_eq (fun s : Nat × Int × List Nat => ∃ k : Nat, k <= n /\ s = ((carS step k).2, (k : Int), (carS step k).1 ++ List.replicate (n - k) 0)) (fun s => n - s.2.1.toNat) _ ?_ _ _ ⟨0, by omega, rfl⟩ (by simpa using hf)
 rintro s L ⟨k, hk, rfl⟩ ih
 unfold B_nat_carried_0
 simp only [List.length_replicate]
 by_cases h1 : (k : Int) < (n : Int)
 ·have hl : (carS step k).1.length = k := carS_length step k
  rw [if_pos h1, bd_t (h k (by omega)), ckI_n (by simp [hl]; omega), nm_t, ck64_t ⟨by omega, by omega⟩]
  refine ih _ ⟨k + 1, by omega, ?_⟩ (by show n - ((k : Int) + 1).toNat < n - ((k : Int)).toNat; omega)
  rw [set_mid hl (by omega)]; rfl
 ·rw [if_neg h1]
  obtain rfl : k = n := by omega
  simp
theorem M_nat_at_eq {fu k : Nat} (a : List Nat) (hl : a.length <= 9223372036854775807) : M_nat_at fu a (k : Int) = some (a.getD k 0) := by
 unfold M_nat_at
 by_cases h : k < a.length
 ·rw [if_pos (by omega), ckI_n h, nm_t]
 ·rw [if_neg (by omega), List.getD_eq_getElem?_getD, List.getElem?_eq_none (by omega)]; rfl
theorem M_nat_Add_eq {fu : Nat} {a b : List Nat} (ha : Limbs a) (hb : Limbs b) (hla : a.length <= 8589934592) (hlb : b.length <= 8589934592) (hf : max a.length b.length + 1 < fu) :
  M_nat_Add fu a b = some (toL (nv a + nv b)) := by
 unfold M_nat_Add
 have e : max ((a.length : Nat) : Int) ((b.length : Nat) : Int) = ((max a.length b.length : Nat) : Int) := by omega
 have hc : ∀ k, (carS (addS a b) k).2 <= 1 := by
  intro k
  induction k with
  | zero => exact Nat.zero_le _
  | succ k ih => exact addS_carry ha hb ih
 rw [nm_t, e, bd_t (M_nat_carried_eq (step := addS a b) (by omega) (by omega) ?_)]
 ·have hl := carS_length (addS a b) (max a.length b.length)
  show ck _ _ = _
  rw [ck_t (by simp [hl]; omega), nm_t, bd_t (M_nat_plain_own_eq ?_ (by simp [hl]; omega) (by simp [hl]; omega)), addS_val (by omega) (by omega)]
  exact (addS_inv a b _).2.append (Limbs.cons (by have := hc (max a.length b.length); omega) Limbs.nil)
 ·intro k hk
  unfold M_nat_Add_1
  rw [bd_t (M_nat_at_eq a (by omega)), bd_t (M_nat_at_eq b (by omega)), ck_t (hc k)]; rfl
theorem M_nat_Sub_eq {fu : Nat} {a b : List Nat} (ha : Limbs a) (hb : Limbs b) (hla : a.length <= 8589934592) (hlb : b.length <= 8589934592) (hf : max a.length b.length + 1 < fu) :
  M_nat_Sub fu a b = some (if nv a < nv b then ([], 1) else (toL (nv a - nv b), 0)) := by
 unfold M_nat_Sub
 have e : max ((a.length : Nat) : Int) ((b.length : Nat) : Int) = ((max a.length b.length : Nat) : Int) := by omega
 have hc : ∀ k, (carS (subS a b) k).2 <= 1 := by
  intro k
  cases k with
  | zero => exact Nat.zero_le _
  | succ k => exact subS_carry a b k _
 rw [nm_t, e, bd_t (M_nat_carried_eq (step := subS a b) (by omega) (by omega) ?_)]
 ·have hl := carS_length (subS a b) (max a.length b.length)
  have hs := subS_less ha hb (Nat.le_max_left a.length b.length) (Nat.le_max_right a.length b.length)
  simp only []
  by_cases h : nv a < nv b
  ·rw [if_pos (by have := hs.2 h; omega), if_pos h]
  ·rw [if_neg (by intro h1; exact h (hs.1 (by omega))), if_neg h, bd_t (M_nat_plain_own_eq (subS_val ha hb (Nat.le_max_left a.length b.length) (Nat.le_max_right a.length b.length)).2.1 (by omega) (by omega)), subS_diff ha hb (Nat.le_max_left _ _) (Nat.le_max_right _ _) h]
 ·intro k hk
  unfold M_nat_Sub_1
  rw [bd_t (M_nat_at_eq a (by omega)), bd_t (M_nat_at_eq b (by omega)), ck_t (hc k)]; rfl
theorem M_nat_less_eq {fu : Nat} {a b : List Nat} (ha : Limbs a) (hb : Limbs b) (hla : a.length <= 8589934592) (hlb : b.length <= 8589934592) (hf : max a.length b.length + 1 < fu) (h : nv b <= nv a) :
  M_nat_less fu a b = some (toL (nv a - nv b)) := by
 unfold M_nat_less
 rw [bd_t (M_nat_Sub_eq ha hb hla hlb hf), if_neg (by omega)]
theorem rowS_c {a : List Nat} {x : Nat} (ha : Limbs a) (hx : x < 18446744073709551616) : ∀ k, (carS (rowS a x) k).2 < 18446744073709551616
 | 0 => Nat.zero_lt_succ _
 | k + 1 => rowS_carry ha hx (rowS_c ha hx k)
theorem row_words {a x c : Nat} (ha : a < 18446744073709551616) (hx : x < 18446744073709551616) (hc : c < 18446744073709551616) :
  ((a * x % 18446744073709551616 + c) % 18446744073709551616, (a * x / 18446744073709551616 + (a * x % 18446744073709551616 + c) / 18446744073709551616) % 18446744073709551616) = ((a * x + c) % 18446744073709551616, (a * x + c) / 18446744073709551616) := by
 have := mul_lt_words ha hx hc
 generalize a * x = z at *
 congr 1 <;> omega
theorem M_nat_row_eq {fu : Nat} {a : List Nat} {x : Nat} (ha : Limbs a) (hx : x < 18446744073709551616) (hla : a.length <= 8589934592) (hf : a.length < fu) : M_nat_row fu a x = some (digs (a.length + 1) (nv a * x)) := by
 unfold M_nat_row
 rw [bd_t (M_nat_carried_eq (step := rowS a x) (by omega) hf ?_)]
 ·have hl := carS_length (rowS a x) a.length
  simp only []
  rw [ck_t (by simp [hl]; omega), nm_t, rowS_row (rowS_c ha hx _)]
 ·intro k hk
  unfold M_nat_row_1
  rw [ckI_n hk, nm_t, bd_t (M_math_bits_Mul64_eq (ha.getD k) hx)]
  simp only [nm, Nat.add_zero]
  exact congrArg some (row_words (ha.getD k) hx (rowS_c ha hx k))
theorem M_nat_moved_eq {fu n : Nat} {a : List Nat} (hn : n <= 1099511627776) (hl : a.length <= 1099511627776) : M_nat_moved fu a (n : Int) = some (List.replicate n 0 ++ a) := by
 unfold M_nat_moved
 rw [ckN_n, ck_t (by omega), nm_t, ck_t (by simp; omega), nm_t]
theorem school_inner {fu k n : Nat} {a b t3 t4 t6 : List Nat} {i2 : Int} (ha : Limbs a) (hb : Limbs b) (hk : k < b.length) (hn : n = a.length + b.length + 1) (hnb : n <= 17179869184) (h6 : t6 = digs (a.length + 1) (nv a * b.getD k 0)) (hf : a.length + 1 < fu) :
  loopN (B_nat_school_1 fu (k : Int) t3 t4 i2 t6) fu (0, 0, digs n (nv a * nv (b.take k)), t6) = some (digs n (nv a * nv (b.take (k + 1)))) := by
 have hl6 : t6.length = a.length + 1 := by rw [h6, digs_length]
 have h6L : Limbs t6 := h6 ▸ digs_limbs _ _
 have hB : nv a * nv (b.take k) < 18446744073709551616 ^ n := Nat.lt_of_lt_of_le (nv_le_of_all ha hb) (Nat.pow_le_pow_right (by decide) (by omega))
 have h0 : nv (digs n (nv a * nv (b.take k))) = nv a * nv (b.take k) := by rw [nv_digs, Nat.mod_eq_of_lt hB]
 refine loop_eq (fun s : Nat × Int × List Nat × List Nat => ∃ (c i : Nat) (o : List Nat), s = (c, (i : Int), o, t6) /\ i <= t6.length /\ c <= 1 /\ Limbs o /\ o.length = n /\ nv o + 18446744073709551616 ^ (k + i) * c = nv a * nv (b.take k) + 18446744073709551616 ^ k * nv (t6.take i))
  (fun s => a.length + 1 - s.2.1.toNat) _ ?_ _ _ ⟨0, 0, _, rfl, by omega, by omega, digs_limbs _ _, digs_length _ _, by rw [h0]; simp [nv]⟩ (by simpa using hf)
 rintro s L ⟨c, i, o, rfl, hi, hc, hoL, hol, ho⟩ ih
 unfold B_nat_school_1
 simp only []
 by_cases h1 : i < t6.length
 ·rw [if_pos (by omega), bd_t rfl]
  simp only [if_true]
  have e : (k : Int) + (i : Int) = ((k + i : Nat) : Int) := by omega
  rw [ckI_n h1, nm_t, e, ck64_t ⟨by omega, by omega⟩, ck64_t ⟨by omega, by omega⟩, ckI_n (by omega), nm_t, ck_t hc, nm_t, nm_t, ckI_n (by omega), nm_t, ck64_t ⟨by omega, by omega⟩]
  refine ih _ ⟨_, i + 1, _, rfl, by omega, ?_, hoL.set _ (Nat.mod_lt _ (by decide)), by rw [List.length_set, hol], ?_⟩ (by show a.length + 1 - ((i : Int) + 1).toNat < a.length + 1 - (i : Int).toNat; omega)
  ·have := hoL.getD (k + i); have := h6L.getD i; omega
  ·have := sum_step (o := o) (o0 := digs n (nv a * nv (b.take k))) (r := t6) (j := k) (i := i) (c := c) (by omega) (by rw [h0]; exact ho)
   rw [h0] at this; exact this
 ·rw [if_neg (by omega), bd_t rfl]
  simp only [Bool.false_eq_true, if_false]
  subst h6
  refine congrArg some (limbs_ext hoL (digs_limbs _ _) (by rw [hol, digs_length]) ?_)
  rw [school_step ha hb (k := k) (i := i) (c := c) (p := o) (o := digs n (nv a * nv (b.take k))) (by omega) (by omega) h0 (by rw [h0]; exact ho), nv_digs, Nat.mod_eq_of_lt]
  exact Nat.lt_of_lt_of_le (nv_le_of_all ha hb) (Nat.pow_le_pow_right (by decide) (by omega))
theorem M_nat_school_eq {fu : Nat} {a b : List Nat} (ha : Limbs a) (hb : Limbs b) (hla : a.length <= 4294967296) (hlb : b.length <= 4294967296) (hf : a.length + b.length + 1 < fu) :
  M_nat_school fu a b = some (toL (nv a * nv b)) := by
 unfold M_nat_school
 have e1 : ((a.length : Nat) : Int) + ((b.length : Nat) : Int) = ((a.length + b.length : Nat) : Int) := by omega
 have e2 : ((a.length + b.length : Nat) : Int) + 1 = ((a.length + b.length + 1 : Nat) : Int) := by omega
 have hB : nv a * nv b < 18446744073709551616 ^ (a.length + b.length + 1) := by
  have := nv_le_of_all (k := b.length) ha hb
  rw [List.take_length] at this
  exact Nat.lt_of_lt_of_le this (Nat.pow_le_pow_right (by decide) (by omega))
 rw [e1, ck64_t ⟨by omega, by omega⟩, e2, ck64_t ⟨by omega, by omega⟩, ckN_n, ck_t (by omega), nm_t, bd_t (v := digs (a.length + b.length + 1) (nv a * nv b))]
 ·rw [bd_t (M_nat_plain_own_eq (digs_limbs _ _) (by rw [digs_length]; omega) (by rw [digs_length]; omega)), nv_digs, Nat.mod_eq_of_lt hB]
 ·refine loop_eq (fun s : Int × List Nat => ∃ k : Nat, k <= b.length /\ s = ((k : Int), digs (a.length + b.length + 1) (nv a * nv (b.take k)))) (fun s => b.length - s.1.toNat) _ ?_ _ _ ⟨0, by omega, by simp [nv, digs_zero]⟩ (by simp; omega)
  rintro s L ⟨k, hk, rfl⟩ ih
  unfold B_nat_school_0
  simp only []
  by_cases h1 : k < b.length
  ·rw [if_pos (by omega), bd_t rfl]
   simp only [if_true]
   rw [ckI_n h1, nm_t, bd_t (M_nat_row_eq ha (hb.getD k) (by omega) (by omega)), bd_t (school_inner ha hb h1 rfl (by omega) rfl (by omega)), ck64_t ⟨by omega, by omega⟩]
   exact ih _ ⟨k + 1, by omega, rfl⟩ (by show b.length - ((k : Int) + 1).toNat < b.length - (k : Int).toNat; omega)
  ·rw [if_neg (by omega), bd_t rfl]
   simp only [Bool.false_eq_true, if_false]
   obtain rfl : k = b.length := by omega
   rw [List.take_length]
end Go.Proofs.YtmggkmchbdanfaaGreat
end

section
set_option linter.unusedVariables false
set_option linter.unusedSimpArgs false
namespace Go.Proofs.YtmggkmchbdanfaaGreat
theorem cast_tdiv2 (n : Nat) : Int.tdiv (n : Int) 2 = ((n / 2 : Nat) : Int) := rfl
theorem nv_toL_take_le (x h : Nat) : (toL (nv ((toL x).take h))).length <= h := by
 have := toL_nv_le ((toL_limbs x).take h); rw [List.length_take] at this; omega
theorem nv_toL_drop_le (x h : Nat) : (toL (nv ((toL x).drop h))).length <= (toL x).length - h := by
 have := toL_nv_le ((toL_limbs x).drop h); rw [List.length_drop] at this; omega
theorem M_nat_Mul_eq : ∀ {fu : Nat} {a b : List Nat}, Limbs a -> Limbs b -> a.length <= 1073741824 -> b.length <= 1073741824 -> 4 * (a.length + b.length) + 64 <= fu -> M_nat_Mul fu a b = some (toL (nv a * nv b))
 | 0, a, b, _, _, _, _, hf => by omega
 | fu + 1, a, b, ha, hb, hla, hlb, hf => by
  have h1 := toL_nv_le ha
  have h2 := toL_nv_le hb
  show bd _ _ = _
  rw [bd_t (M_nat_plain_eq ha (by omega) (by omega)), bd_t (M_nat_plain_eq hb (by omega) (by omega))]
  have eA : nv (toL (nv a)) = nv a := nv_toL _
  have eB : nv (toL (nv b)) = nv b := nv_toL _
  generalize hx : nv a = x at *
  generalize hy : nv b = y at *
  generalize hp : (toL x).length = p at *
  generalize hq : (toL y).length = q at *
  have e1 : min ((p : Nat) : Int) ((q : Nat) : Int) = ((min p q : Nat) : Int) := by omega
  rw [nm_t, e1]
  by_cases h8 : ((min p q : Nat) : Int) < 8
  ·rw [if_pos h8, bd_t (M_nat_school_eq (toL_limbs x) (toL_limbs y) (by omega) (by omega) (by omega)), eA, eB]
  ·rw [if_neg h8]
   have e2 : max ((p : Nat) : Int) ((q : Nat) : Int) = ((max p q : Nat) : Int) := by omega
   rw [nm_t, e2, cast_tdiv2, ck64_t ⟨by omega, by omega⟩]
   obtain ⟨h, hh⟩ : ∃ h, h = max p q / 2 := ⟨_, rfl⟩
   have e3 : ∀ l : Nat, min ((h : Nat) : Int) ((l : Nat) : Int) = ((min h l : Nat) : Int) := by intro l; omega
   rw [<- hh]
   simp only [nm, e3, ckN_n]
   rw [ck_t (by decide), ck_t (by omega)]
   have tx : (toL x).take (min h p) = (toL x).take h := by rw [<- hp]; exact take_min h
   have dx : (toL x).drop (min h p) = (toL x).drop h := by rw [<- hp]; exact drop_min h
   have ty : (toL y).take (min h q) = (toL y).take h := by rw [<- hq]; exact take_min h
   have dy : (toL y).drop (min h q) = (toL y).drop h := by rw [<- hq]; exact drop_min h
   rw [tx, ty, dx, dy]
   have lx0 := nv_toL_take_le x h
   have ly0 := nv_toL_take_le y h
   have lx1 : ((toL x).drop h).length = p - h := by rw [List.length_drop, hp]
   have ly1 : ((toL y).drop h).length = q - h := by rw [List.length_drop, hq]
   have lx2 := nv_toL_drop_le x h
   have ly2 := nv_toL_drop_le y h
   rw [bd_t (M_nat_plain_eq ((toL_limbs x).take h) (by rw [List.length_take]; omega) (by rw [List.length_take]; omega)), ck_t (by omega), ck_t (by omega), bd_t (M_nat_plain_eq ((toL_limbs y).take h) (by rw [List.length_take]; omega) (by rw [List.length_take]; omega)), ck_t (by omega)]
   have X1 := (toL_limbs x).drop h
   obtain ⟨m, hm⟩ : ∃ m, m = max p q := ⟨_, rfl⟩
   have f1 : p <= m := by omega
   have f2 : q <= m := by omega
   have f3 : m + 8 <= p + q := by omega
   have f4 : 2 * h <= m := by omega
   have f5 : m <= 2 * h + 1 := by omega
   clear hh hm h8 e1 e2 e3 tx ty dx dy
   have g1 : p - h <= m - h := by omega
   have g2 : q - h <= m - h := by omega
   have g3 : h <= m - h := by omega
   replace lx2 := Nat.le_trans lx2 (hp.symm ▸ g1)
   replace ly2 := Nat.le_trans ly2 (hq.symm ▸ g2)
   have lx3 : ((toL x).drop h).length <= m - h := lx1 ▸ g1
   have ly3 : ((toL y).drop h).length <= m - h := ly1 ▸ g2
   clear lx1 ly1 g1 g2
   have Y1 := (toL_limbs y).drop h
   generalize hx0 : nv ((toL x).take h) = x0 at *
   generalize hy0 : nv ((toL y).take h) = y0 at *
   generalize hX1 : (toL x).drop h = dX at *
   generalize hY1 : (toL y).drop h = dY at *
   generalize hx1 : nv dX = x1 at *
   generalize hy1 : nv dY = y1 at *
   have s1 := toL_add_len (x := x0) (y := x1) (k := m - h) (by omega) (by omega)
   have s2 := toL_add_len (x := y0) (y := y1) (k := m - h) (by omega) (by omega)
   have kle := kara_le x0 x1 y0 y1
   rw [bd_t (M_nat_Mul_eq (fu := fu) (toL_limbs x0) (toL_limbs y0) (by omega) (by omega) (by omega))]
   rw [bd_t (M_nat_Mul_eq (fu := fu) X1 Y1 (by omega) (by omega) (by omega))]
   rw [bd_t (M_nat_Add_eq (toL_limbs x0) X1 (by omega) (by omega) (by omega)), bd_t (M_nat_Add_eq (toL_limbs y0) Y1 (by omega) (by omega) (by omega))]
   rw [hx1, hy1, nv_toL, nv_toL]
   rw [bd_t (M_nat_Mul_eq (fu := fu) (toL_limbs (x0 + x1)) (toL_limbs (y0 + y1)) (by omega) (by omega) (by omega)), nv_toL, nv_toL]
   have l3 := toL_mul_len s1 s2
   have l1 := toL_mul_len lx0 ly0
   have l2 := toL_mul_len (x := x1) (y := y1) (j := m - h) (k := m - h) (by omega) (by omega)
   have l4 := toL_mono (Nat.sub_le ((x0 + x1) * (y0 + y1)) (x0 * y0))
   have l5 := toL_mono (Nat.sub_le ((x0 + x1) * (y0 + y1) - x0 * y0) (x1 * y1))
   rw [bd_t (M_nat_less_eq (toL_limbs ((x0 + x1) * (y0 + y1))) (toL_limbs (x0 * y0)) (by omega) (by omega) (by omega) (by rw [nv_toL, nv_toL]; exact kle.1)), nv_toL, nv_toL]
   rw [bd_t (M_nat_less_eq (toL_limbs ((x0 + x1) * (y0 + y1) - x0 * y0)) (toL_limbs (x1 * y1)) (by omega) (by omega) (by omega) (by rw [nv_toL, nv_toL]; exact kle.2)), nv_toL, nv_toL]
   have mL : ∀ n z : Nat, Limbs (List.replicate n 0 ++ toL z) := fun n z => (Limbs.replicate n).append (toL_limbs z)
   have ml : ∀ n z : Nat, (List.replicate n 0 ++ toL z).length = n + (toL z).length := fun n z => by rw [List.length_append, List.length_replicate]
   rw [bd_t (M_nat_moved_eq (by omega) (by omega)), bd_t (M_nat_Add_eq (toL_limbs _) (mL _ _) (by omega) (by rw [ml]; omega) (by rw [ml]; omega)), nv_toL, nv_moved, nv_toL]
   have e4 : 2 * ((h : Nat) : Int) = ((2 * h : Nat) : Int) := by omega
   rw [e4, ck64_t ⟨by omega, by omega⟩, bd_t (M_nat_moved_eq (by omega) (by omega))]
   have l6 := mul_pow_len h (Nat.le_trans l5 (Nat.le_trans l4 l3))
   have l7 := toL_add_len (x := x0 * y0) (y := 18446744073709551616 ^ h * ((x0 + x1) * (y0 + y1) - x0 * y0 - x1 * y1)) (k := 3 * (p + q)) (by clear l6; omega) (Nat.le_trans l6 (by clear l6; omega))
   have K := kara_toL x y h hx0.symm (by rw [hX1, hx1]) hy0.symm (by rw [hY1, hy1])
   generalize 18446744073709551616 ^ h * ((x0 + x1) * (y0 + y1) - x0 * y0 - x1 * y1) = z1 at *
   generalize hz : x0 * y0 + z1 = z at *
   clear l6
   rw [bd_t (M_nat_Add_eq (toL_limbs z) (mL (2 * h) (x1 * y1)) (by clear K; omega) (by rw [ml]; clear K; omega) (by rw [ml]; clear K; omega)), nv_toL, nv_moved, nv_toL, K]
end Go.Proofs.YtmggkmchbdanfaaGreat
end

section
set_option linter.unusedVariables false
set_option linter.unusedSimpArgs false
namespace Go.Proofs.YtmggkmchbdanfaaGreat
def blf : Nat -> Nat -> Nat
 | 0, _ => 0
 | f + 1, n => if n = 0 then 0 else blf f (n / 2) + 1
def bl (n : Nat) : Nat := blf n n
theorem blf_eq : ∀ f f' n, n <= f -> n <= f' -> blf f n = blf f' n
 | 0, f', n, h, h' => by
  obtain rfl : n = 0 := by omega
  cases f' <;> rfl
 | f + 1, 0, n, h, h' => by
  obtain rfl : n = 0 := by omega
  rfl
 | f + 1, f' + 1, n, h, h' => by
  unfold blf
  split
  ·rfl
  ·rw [blf_eq f f' (n / 2) (by omega) (by omega)]
theorem bl_pos {n : Nat} (h : 0 < n) : bl n = bl (n / 2) + 1 := by
 obtain ⟨m, rfl⟩ : ∃ m, n = m + 1 := ⟨n - 1, by omega⟩
 show (if m + 1 = 0 then 0 else blf m ((m + 1) / 2) + 1) = _
 rw [if_neg (by omega), blf_eq m ((m + 1) / 2) ((m + 1) / 2) (by omega) (Nat.le_refl _)]; rfl
theorem bl_shift : ∀ (k : Nat) {n : Nat}, 2 ^ k <= n -> bl n = bl (n / 2 ^ k) + k
 | 0, n, h => by simp
 | k + 1, n, h => by
  have h2 : 0 < 2 ^ k := Nat.two_pow_pos k
  rw [Nat.pow_succ] at h
  rw [bl_pos (by omega), bl_shift k (n := n / 2) (by omega), Nat.div_div_eq_div_mul, Nat.pow_succ, Nat.mul_comm 2]
  omega
theorem bl_le {n k : Nat} (h : n < 2 ^ k) : bl n <= k := by
 induction k generalizing n with
 | zero =>
  obtain rfl : n = 0 := by omega
  exact Nat.le_refl _
 | succ k ih =>
  rcases Nat.eq_zero_or_pos n with rfl | h0
  ·exact Nat.zero_le _
  ·rw [bl_pos h0]
   have := ih (n := n / 2) (by rw [Nat.pow_succ] at h; omega)
   omega
theorem lt_bl (n : Nat) : n < 2 ^ bl n := by
 induction n using Nat.strongRecOn with
 | ind n ih =>
  rcases Nat.eq_zero_or_pos n with rfl | h0
  ·decide
  ·rw [bl_pos h0, Nat.pow_succ]
   have := ih (n / 2) (by omega)
   omega
theorem bitLen_bl : ∀ {n : Nat}, n < 256 -> Lib.bitLen n = bl n := by decide +kernel
theorem M_math_bits_Len64_eq {fu x : Nat} (hx : x < 18446744073709551616) : M_math_bits_Len64 fu x = some ((bl x : Nat) : Int) := by
 unfold M_math_bits_Len64
 have e16 : min ((16 : Int)).toNat 64 = 16 := by decide
 have e8 : min ((8 : Int)).toNat 64 = 8 := by decide
 have e32 : min ((32 : Int)).toNat 64 = 32 := by decide
 simp only [nm, e32, e16, e8]
 have last : ∀ (d : Nat) (i : Int), d < 65536 -> 0 <= i -> i <= 48 -> (if (256 : Int) <= ((d : Nat) : Int) then ck64 (i + 8) fun x2 => ck64 (x2 + ((Lib.bitLen (d / 2 ^ 8 % 256) : Nat) : Int)) fun x3 => some x3 else ck64 (i + ((Lib.bitLen (d % 256) : Nat) : Int)) fun x4 => some x4) = some (i + ((bl d : Nat) : Int)) := by
  intro d i hd h0 h1
  by_cases h : 256 <= d
  ·have b := bl_le (n := d / 2 ^ 8) (k := 8) (by omega)
   rw [if_pos (by omega), ck64_t ⟨by omega, by omega⟩, Nat.mod_eq_of_lt (by omega), bitLen_bl (by omega), ck64_t ⟨by omega, by omega⟩, bl_shift 8 (n := d) (by omega)]
   congr 1; omega
  ·have b := bl_le (n := d) (k := 8) (by omega)
   rw [if_neg (by omega), Nat.mod_eq_of_lt (by omega), bitLen_bl (by omega), ck64_t ⟨by omega, by omega⟩]
 have mid : ∀ (d : Nat) (i : Int), d < 4294967296 -> 0 <= i -> i <= 32 -> (bd (if (65536 : Int) <= ((d : Nat) : Int) then ck64 (i + 16) fun x1 => some (d / 2 ^ 16, x1) else some (d, i)) fun (d2, i2) => if (256 : Int) <= ((d2 : Nat) : Int) then ck64 (i2 + 8) fun x2 => ck64 (x2 + ((Lib.bitLen (d2 / 2 ^ 8 % 256) : Nat) : Int)) fun x3 => some x3 else ck64 (i2 + ((Lib.bitLen (d2 % 256) : Nat) : Int)) fun x4 => some x4) = some (i + ((bl d : Nat) : Int)) := by
  intro d i hd h0 h1
  by_cases h : 65536 <= d
  ·rw [if_pos (by omega), ck64_t ⟨by omega, by omega⟩, bd_t rfl]
   simp only []
   rw [last _ _ (by omega) (by omega) (by omega), bl_shift 16 (n := d) (by omega)]
   congr 1; omega
  ·rw [if_neg (by omega), bd_t rfl]
   exact last _ _ (by omega) (by omega) (by omega)
 by_cases h : 4294967296 <= x
 ·rw [if_pos (by omega), bd_t rfl]
  simp only []
  rw [mid _ _ (by omega) (by omega) (by omega), bl_shift 32 (n := x) (by omega)]
  congr 1; omega
 ·rw [if_neg (by omega), bd_t rfl]
  simp only []
  rw [mid _ _ (by omega) (by omega) (by omega)]
  congr 1; omega
theorem bl_limbs {n : Nat} (h : 0 < n) : bl n = 64 * ((toL n).length - 1) + bl ((toL n).getD ((toL n).length - 1) 0) := by
 obtain ⟨k, hk⟩ : ∃ k, (toL n).length = k + 1 := ⟨(toL n).length - 1, by have := toL_len_pos h; omega⟩
 have h1 := (toL_length (k + 1) n).1 (by omega)
 have h2 : ¬ n < 18446744073709551616 ^ k := fun h => by have := (toL_length k n).2 h; omega
 rw [hk, toL_getD, show k + 1 - 1 = k by omega]
 have e : 18446744073709551616 ^ k = 2 ^ (64 * k) := by rw [Nat.pow_mul]
 have h3 : n / 18446744073709551616 ^ k < 18446744073709551616 := by
  rw [Nat.div_lt_iff_lt_mul (Nat.pow_pos (by decide))]; rw [Nat.pow_succ, Nat.mul_comm] at h1; exact h1
 rw [Nat.mod_eq_of_lt h3, e, bl_shift (64 * k) (by rw [<- e]; omega)]
 omega
end Go.Proofs.YtmggkmchbdanfaaGreat
end

section
set_option linter.unusedVariables false
set_option linter.unusedSimpArgs false
namespace Go.Proofs.YtmggkmchbdanfaaGreat
def Digs (l : List Nat) : Prop := ∀ x ∈ l, x < 4294967296
theorem Digs.nil : Digs [] := fun x hx => absurd hx List.not_mem_nil
theorem Digs.cons {x : Nat} {r : List Nat} (h : x < 4294967296) (hr : Digs r) : Digs (x :: r) := fun y hy => by
 rcases List.mem_cons.1 hy with rfl | hy
 ·exact h
 ·exact hr y hy
theorem Digs.head {x : Nat} {r : List Nat} (h : Digs (x :: r)) : x < 4294967296 := h x (List.mem_cons_self ..)
theorem Digs.tail {x : Nat} {r : List Nat} (h : Digs (x :: r)) : Digs r := fun y hy => h y (List.mem_cons_of_mem _ hy)
theorem Digs.append {a b : List Nat} (ha : Digs a) (hb : Digs b) : Digs (a ++ b) := fun x hx => by
 rcases List.mem_append.1 hx with h | h
 ·exact ha x h
 ·exact hb x h
theorem Digs.take {a : List Nat} (h : Digs a) (k : Nat) : Digs (a.take k) := fun x hx => h x (List.mem_of_mem_take hx)
theorem Digs.drop {a : List Nat} (h : Digs a) (k : Nat) : Digs (a.drop k) := fun x hx => h x (List.mem_of_mem_drop hx)
theorem Digs.getD {a : List Nat} (h : Digs a) (k : Nat) : a.getD k 0 < 4294967296 := by
 rw [List.getD_eq_getElem?_getD]
 by_cases hk : k < a.length
 ·rw [List.getElem?_eq_getElem hk]; exact h _ (List.getElem_mem hk)
 ·rw [List.getElem?_eq_none (by omega)]; exact Nat.zero_lt_succ _
theorem Digs.replicate (k : Nat) : Digs (List.replicate k 0) := fun x hx => by rw [List.eq_of_mem_replicate hx]; exact Nat.zero_lt_succ _
theorem Digs.set {o : List Nat} (h : Digs o) (j : Nat) {v : Nat} (hv : v < 4294967296) : Digs (o.set j v) := fun x hx => by
 rcases List.mem_or_eq_of_mem_set hx with h1 | h1
 ·exact h x h1
 ·rw [h1]; exact hv
end Go.Proofs.YtmggkmchbdanfaaGreat
end

section
set_option linter.unusedVariables false
set_option linter.unusedSimpArgs false
namespace Go.Proofs.YtmggkmchbdanfaaGreat
end Go.Proofs.YtmggkmchbdanfaaGreat
end

section
set_option linter.unusedVariables false
set_option linter.unusedSimpArgs false
namespace Go.Proofs.YtmggkmchbdanfaaGreat
def zv (z : Zr) : Int := if z.1 = true then -((nv z.2 : Nat) : Int) else ((nv z.2 : Nat) : Int)
def ofI (x : Int) : Zr := (decide (x < 0), toL x.natAbs)
theorem zv_ofI (x : Int) : zv (ofI x) = x := by
 unfold zv ofI
 simp only [nv_toL, decide_eq_true_eq]
 split <;> omega
theorem ofI_limbs (x : Int) : Limbs (ofI x).2 := toL_limbs _
theorem natAbs_zv (z : Zr) : (zv z).natAbs = nv z.2 := by unfold zv; split <;> omega
theorem mk_ofI (s : Bool) (n : Nat) : (if s = true then if 0 < (((toL n).length : Nat) : Int) then some (true, toL n) else some (false, toL n) else some (false, toL n)) = some (ofI (if s = true then -(n : Int) else (n : Int))) := by
 have h1 := @toL_nil n
 cases s
 ·simp [ofI]
 ·simp only [if_true]
  by_cases h : n = 0
  ·subst h; rfl
  ·have := toL_len_pos (n := n) (by omega)
   rw [if_pos (by omega)]
   unfold ofI
   rw [decide_eq_true (by omega)]
   congr 2
   congr 1
   omega
theorem M_zint_made_eq {fu : Nat} {s : Bool} {a : List Nat} (h : Limbs a) (hl : a.length <= 17592186044416) (hf : a.length < fu) : M_zint_made fu s a = some (ofI (if s = true then -((nv a : Nat) : Int) else ((nv a : Nat) : Int))) := by
 unfold M_zint_made
 rw [bd_t (M_nat_Norm_eq h hl hf)]
 exact mk_ofI s _
theorem M_zint_Norm_eq {fu : Nat} {z : Zr} (h : Limbs z.2) (hl : z.2.length <= 17592186044416) (hf : z.2.length < fu) : M_zint_Norm fu z = some (ofI (zv z)) := by
 unfold M_zint_Norm
 rw [bd_t (M_zint_made_eq h hl hf)]; rfl
theorem uns_nonneg {x : Int} (h0 : 0 <= x) (h : x < 18446744073709551616) : ((uns x : Nat) : Int) = x := by unfold uns; omega
theorem one_limb {x : Nat} (h : x < 18446744073709551616) : Limbs [x] := Limbs.cons h Limbs.nil
theorem nv_one (x : Nat) : nv [x] = x := by simp [nv]
theorem sgn_mul (a b : Zr) : (if (!(a.1 == b.1)) = true then -((nv a.2 * nv b.2 : Nat) : Int) else ((nv a.2 * nv b.2 : Nat) : Int)) = zv a * zv b := by
 unfold zv
 cases a.1 <;> cases b.1 <;> simp [Int.neg_mul, Int.mul_neg]
theorem M_zint_Mul_eq {fu : Nat} {a b : Zr} (ha : Limbs a.2) (hb : Limbs b.2) (hla : a.2.length <= 1073741824) (hlb : b.2.length <= 1073741824) (hf : 4 * (a.2.length + b.2.length) + 64 <= fu) : M_zint_Mul fu a b = some (ofI (zv a * zv b)) := by
 unfold M_zint_Mul
 have hl := toL_mul_len (toL_nv_le ha) (toL_nv_le hb)
 rw [nm_t, bd_t (M_nat_Mul_eq ha hb hla hlb hf), bd_t (M_zint_made_eq (toL_limbs _) (by omega) (by omega)), nv_toL, <- sgn_mul]
end Go.Proofs.YtmggkmchbdanfaaGreat
end

section
set_option linter.unusedVariables false
set_option linter.unusedSimpArgs false
namespace Go.Proofs.YtmggkmchbdanfaaGreat
def NoDiv (p : Nat) : Prop := ∀ d, 2 <= d -> d * d <= p -> p % d ≠ 0
open Classical in
noncomputable def prm (p : Int) : Bool := decide (2 <= p /\ p <= 65521 /\ NoDiv p.toNat)
open Classical in
theorem prm_t {p : Int} (h : 2 <= p /\ p <= 65521 /\ NoDiv p.toNat) : prm p = true := by unfold prm; exact decide_eq_true h
open Classical in
theorem prm_f {p : Int} (h : ¬ (2 <= p /\ p <= 65521 /\ NoDiv p.toNat)) : prm p = false := by unfold prm; exact decide_eq_false h
theorem sq_cast (d : Nat) : (d : Int) * (d : Int) = ((d * d : Nat) : Int) := by simp
theorem sq_le {d p : Nat} (h : p <= 65521) (hd : d <= 300) : d * d <= 90000 := Nat.le_trans (Nat.mul_le_mul hd hd) (by decide)
theorem sq_lt {d p : Nat} (h : p <= 65521) (hd : d * d <= p) : d < 256 := by
 rcases Nat.lt_or_ge d 256 with h1 | h1
 ·exact h1
 ·have := Nat.mul_le_mul h1 h1; omega
theorem prime_loop {fu p : Nat} (h : p <= 65521) (hf : 400 < fu) : (NoDiv p -> loopN (B_prime_Is_0 fu (p : Int)) fu (true, 2) = some true) /\ (¬ NoDiv p -> loopN (B_prime_Is_0 fu (p : Int)) fu (true, 2) = some false) := by
 constructor
 ·intro hn
  refine loop_eq (fun i : Bool × Int => ∃ d : Nat, i = (true, (d : Int)) /\ 2 <= d /\ d <= 256) (fun i => 300 - i.2.toNat) _ ?_ _ _ ⟨2, rfl, by omega, by omega⟩ (by show 300 - 2 < fu; omega)
  rintro i L ⟨d, rfl, h2, h3⟩ ih
  unfold B_prime_Is_0
  simp only [if_true]
  have hs := sq_le h (d := d) (by omega)
  rw [sq_cast, ck64_t ⟨by omega, by omega⟩]
  by_cases h4 : d * d <= p
  ·have h5 := hn d h2 h4
   have := sq_lt h h4
   have e : Int.tmod (p : Int) (d : Int) = ((p % d : Nat) : Int) := rfl
   rw [if_pos (by omega), ck_t (by omega), nm_t, e, if_neg (by omega), ck64_t ⟨by omega, by omega⟩]
   exact ih _ ⟨d + 1, rfl, by omega, by omega⟩ (by show 300 - ((d : Int) + 1).toNat < 300 - (d : Int).toNat; omega)
  ·rw [if_neg (by omega)]
 ·intro hn
  obtain ⟨d0, hd0⟩ := Classical.not_forall.1 hn
  obtain ⟨h20, hd0⟩ := Classical.not_imp.1 hd0
  obtain ⟨h4, h5⟩ := Classical.not_imp.1 hd0
  have h5 : p % d0 = 0 := Classical.not_not.1 h5
  have h6 := sq_lt h h4
  refine loop_eq (fun i : Bool × Int => ∃ d : Nat, i = (true, (d : Int)) /\ 2 <= d /\ d <= d0) (fun i => 300 - i.2.toNat) _ ?_ _ _ ⟨2, rfl, by omega, by omega⟩ (by show 300 - 2 < fu; omega)
  rintro i L ⟨d, rfl, h2, h3⟩ ih
  unfold B_prime_Is_0
  simp only [if_true]
  have hs := sq_le h (d := d) (by omega)
  have hs2 := Nat.mul_le_mul h3 h3
  rw [sq_cast, ck64_t ⟨by omega, by omega⟩]
  have e : Int.tmod (p : Int) (d : Int) = ((p % d : Nat) : Int) := rfl
  rw [if_pos (by omega), ck_t (by omega), nm_t, e]
  by_cases h7 : p % d = 0
  ·rw [if_pos (by omega)]
  ·rw [if_neg (by omega), ck64_t ⟨by omega, by omega⟩]
   refine ih _ ⟨d + 1, rfl, by omega, ?_⟩ (by show 300 - ((d : Int) + 1).toNat < 300 - (d : Int).toNat; omega)
   rcases Nat.lt_or_ge d d0 with h8 | h8
   ·exact h8
   ·exact absurd (by rw [show d = d0 by omega]; exact h5) h7
theorem M_prime_Is_eq {fu : Nat} {p : Int} (hf : 400 < fu) : M_prime_Is fu p = some (prm p) := by
 unfold M_prime_Is
 have hno : loopN (B_prime_Is_0 fu p) fu (false, 2) = some false := by
  obtain ⟨k, rfl⟩ : ∃ k, fu = k + 1 := ⟨fu - 1, by omega⟩
  rfl
 by_cases h2 : 2 <= p
 ·rw [if_pos h2]
  by_cases h3 : p <= 65521
  ·rw [if_pos h3, bd_t rfl]
   obtain ⟨q, rfl⟩ := Int.eq_ofNat_of_zero_le (by omega : 0 <= p)
   obtain ⟨l1, l2⟩ := prime_loop (fu := fu) (p := q) (by omega) hf
   by_cases h4 : NoDiv q
   ·rw [bd_t (l1 h4), prm_t (p := (q : Int)) ⟨h2, h3, h4⟩]
   ·rw [bd_t (l2 h4), prm_f (p := (q : Int)) (fun h => h4 h.2.2)]
  ·rw [if_neg h3, bd_t rfl, bd_t hno]
   rw [prm_f (fun h => h3 h.2.1)]
 ·rw [if_neg h2, bd_t rfl, bd_t hno]
  rw [prm_f (fun h => h2 h.1)]
theorem prm_rng {p : Int} (h : prm p = true) : 2 <= p /\ p <= 65521 := by
 refine Classical.byContradiction fun hn => ?_
 rw [prm_f (fun h => hn ⟨h.1, h.2.1⟩)] at h
 cases h
end Go.Proofs.YtmggkmchbdanfaaGreat
end

