/- What the law says of x^n - 1, for every input. No condition. -/
import Derived.Test.YtmggkmchbdanfaaGreatZu16
import Derived.Test.YtmggkmchbdanfaaGreatZu17
import Derived.Test.YtmggkmchbdanfaaGreatZu18
section
namespace Go.Proofs.YtmggkmchbdanfaaGreat
theorem un_up {k : Int} (h : H_law16_ZfacUnity 4000000 k = some true) : M_law16_ZfacUnity 4000000 k = some true := F_law16_ZfacUnity_le (by decide) k _ (H_law16_ZfacUnity_le (by decide) k _ h)
theorem unity_all : ∀ k : Nat, k < 16 -> M_law16_ZfacUnity 4000000 (k : Int) = some true
 | 0, _ => un_up un_0
 | 1, _ => un_up un_1
 | 2, _ => un_up un_2
 | 3, _ => un_up un_3
 | 4, _ => un_up un_4
 | 5, _ => un_up un_5
 | 6, _ => un_up un_6
 | 7, _ => un_up un_7
 | 8, _ => un_up un_8
 | 9, _ => un_up un_9
 | 10, _ => un_up un_10
 | 11, _ => un_up un_11
 | 12, _ => un_up un_12
 | 13, _ => un_up un_13
 | 14, _ => un_up un_14
 | 15, _ => un_up un_15
 | n + 16, h => absurd h (by omega)
end Go.Proofs.YtmggkmchbdanfaaGreat
end

section
set_option linter.unusedVariables false
namespace Go.Proofs.YtmggkmchbdanfaaGreat
theorem and15 (x : Int) : ∃ k : Nat, k < 16 /\ andI x 15 = (k : Int) := by
 have h : uns x &&& uns 15 <= 15 := Nat.le_trans Nat.and_le_right (by decide)
 refine ⟨uns x &&& uns 15, by omega, ?_⟩
 unfold andI sgn
 split <;> omega
theorem unity_of {fu : Nat} {k x : Int} (h : M_law16_ZfacUnity fu k = some true) (hx : andI x 15 = andI k 15) : M_law16_ZfacUnity fu x = some true := by
 unfold M_law16_ZfacUnity at h ⊢
 rw [hx]
 exact h
theorem and15_k : ∀ k : Nat, k < 16 -> andI (k : Int) 15 = (k : Int) := by decide
theorem zfac_unity (x : Int) (_ : InR x) : M_law16_ZfacUnity 4000000 x = some true := by
 obtain ⟨k, hk, h⟩ := and15 x
 exact unity_of (unity_all k hk) (h.trans (and15_k k hk).symm)
end Go.Proofs.YtmggkmchbdanfaaGreat
end

section
namespace Go.Proofs.YtmggkmchbdanfaaGreat.zfacUnity
open Go.ChangeShapes Go.WideShapes Go.ChangeAt Go.RowKit
set_option linter.unusedVariables false
theorem own : ownKnob Tryz.prog.godebug = none := by kernel_rfl
theorem atI : TyAt Tryz.prog .i 3 := id (by kernel_rfl : Tryz.prog.underlying 3 = some (.int .i64))
def sgO (M : AsD [.d .i] -> Option Bool) : Sig := ⟨8, [.d .i], [.d .b], M, 0⟩
set_option maxRecDepth 100000 in
theorem lifted {M : AsD [.d .i] -> Option Bool} (hs : SigOK Tryz.prog (sgO M)) (hz : ∀ x, InR x.1 -> M x = some true) (os : Os) (started : os.Started) (H : Type) (enc : TypeId × Value -> H) :
  ReturnsInHanded {} Tryz.checked os 8 .any (Rows.zfacUnitySpec.pre6 enc Tryz.prog Tryz.f8 Rows.zfacUnityRow.domain false) (Rows.zfacUnitySpec.post enc Tryz.prog Tryz.f8 false true false false) := by
 refine returnsInHanded_of_change (C := Tryz.checked) own started (by kernel_rfl) Tryz.func8
  (ChangeSpec.witness6 (enc := enc) (C := Tryz.checked) false ⟨#[], #[.int .i64 0], []⟩ 8 (by kernel_rfl) (by kernel_rfl) (by kernel_rfl) (by kernel_rfl)) ?_
 intro W base args ds gs before hval0 hW hcnd _
 have hval : ∀ (j : Nat) t v, Tryz.f8.params[j]? = some t -> args[j]? = some v -> Value.okWide Tryz.prog W .any base t v := hval0
 have hW' := hW
 obtain ⟨p, q, hA0, hV, _, _, _⟩ := hW
 have hA : DataW.TrodAll enc Tryz.prog W 0 (fun _ => true) true Tryz.f8.params.toList args.toList ds p := hA0
 rw [Tryz.params8] at hA
 obtain ⟨v0, vs0, d0, ds0, p0, q0, hargs, rfl, _, _, r0⟩ := trodAll_cons hA
 obtain ⟨_, rfl, _⟩ := trodAll_nil r0
 obtain ⟨rfl, _⟩ := trodVars_none hV
 exact law_end (sg := sgO M) hW' rfl hval (by kernel_rfl) (by rw [Tryz.params8]; decide +kernel) (by rw [Tryz.params8]; exact ⟨atI, trivial⟩) rfl hs
  (fun x hx => hz x hx.1) (B := 4) (by kernel_rfl) Tryz.underlying4 rfl
set_option maxRecDepth 100000 in
theorem fnm : Tryz.pinned.checked.prog.funcNamed Rows.zfacUnityRow.func = some 8 := by kernel_rfl
set_option maxRecDepth 100000 in
set_option maxHeartbeats 4000000 in
theorem jf : joinedFacts Tryz.pinned.checked.prog 8 Tryz.f8 Rows.zfacUnitySpec Rows.zfacUnityRow = true := by
 unfold joinedFacts
 simp only [Bool.and_eq_true]
 repeat' apply And.intro
 all_goals (as_aux_lemma => kernel_rfl)
theorem over : Rows.zfacUnityRow.holds Tryz.pinned (OpenSpec.ofChange Rows.zfacUnitySpec) :=
 OpenClaim.holds_of_wide 8 Tryz.f8 rfl rfl rfl rfl rfl rfl rfl ⟨rfl, rfl, rfl, rfl, rfl⟩ rfl rfl rfl rfl rfl fnm Tryz.func8 jf
  (of_decide_eq_true (by kernel_rfl)) (by unfold Func.isWrapper; first | (rw [if_pos (by decide +kernel)]; kernel_rfl) | (rw [if_neg (by decide +kernel)]; exact ⟨rfl, rfl⟩))
  (fun os started H enc _ => lifted (M := fun x => M_law16_ZfacUnity 4000000 x.1) (g_law16_ZfacUnity 4000000) (fun x hx => zfac_unity x.1 hx) os started H enc)
theorem proved : Rows.ZfacUnitySaid :=
 over
end Go.Proofs.YtmggkmchbdanfaaGreat.zfacUnity
end

