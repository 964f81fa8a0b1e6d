/- What a proof needs: rules of walking, mirrors of functions and their plain laws. No condition. -/
import Derived.Test.YtmggkmchbdanfaaGreatZu8
section
set_option linter.unusedVariables false
set_option maxRecDepth 100000
namespace Go.Proofs.YtmggkmchbdanfaaGreat
theorem sp_8_3 : F_ffac_Split 4000000 [2, 0, 0, 0, 0, 0, 0, 0, 1] 3 [] = some ([[1, 1], [2, 1], [1, 0, 1], [2, 1, 1], [2, 2, 1]], 0) := by decide +kernel
theorem sp_8_5 : F_ffac_Split 4000000 [4, 0, 0, 0, 0, 0, 0, 0, 1] 5 [] = some ([[1, 1], [2, 1], [3, 1], [4, 1], [2, 0, 1], [3, 0, 1]], 0) := by decide +kernel
theorem sp_8_7 : F_ffac_Split 4000000 [6, 0, 0, 0, 0, 0, 0, 0, 1] 7 [] = some ([[1, 1], [6, 1], [1, 0, 1], [1, 3, 1], [1, 4, 1]], 0) := by decide +kernel
theorem sp_8_11 : F_ffac_Split 4000000 [10, 0, 0, 0, 0, 0, 0, 0, 1] 11 [] = some ([[1, 1], [10, 1], [1, 0, 1], [10, 3, 1], [10, 8, 1]], 0) := by decide +kernel
theorem sp_8_13 : F_ffac_Split 4000000 [12, 0, 0, 0, 0, 0, 0, 0, 1] 13 [] = some ([[1, 1], [5, 1], [8, 1], [12, 1], [5, 0, 1], [8, 0, 1]], 0) := by decide +kernel
theorem li_8 : F_hensel_Lift 4000000 [(true, [1]), (false, []), (false, []), (false, []), (false, []), (false, []), (false, []), (false, []), (false, [1])] [[1, 1], [2, 1], [1, 0, 1], [2, 1, 1], [2, 2, 1]] 3 7 = some ([[(false, [1]), (false, [1])], [(false, [2186]), (false, [1])], [(false, [1]), (false, []), (false, [1])], [(false, [2186]), (false, [508]), (false, [1])], [(false, [2186]), (false, [1679]), (false, [1])]], 0) := by decide +kernel
theorem sp_7_2 : F_ffac_Split 4000000 [1, 0, 0, 0, 0, 0, 0, 1] 2 [] = some ([[1, 1], [1, 1, 0, 1], [1, 0, 1, 1]], 0) := by decide +kernel
theorem sp_7_3 : F_ffac_Split 4000000 [2, 0, 0, 0, 0, 0, 0, 1] 3 [] = some ([[2, 1], [1, 1, 1, 1, 1, 1, 1]], 0) := by decide +kernel
theorem sp_7_5 : F_ffac_Split 4000000 [4, 0, 0, 0, 0, 0, 0, 1] 5 [] = some ([[4, 1], [1, 1, 1, 1, 1, 1, 1]], 0) := by decide +kernel
theorem sp_7_11 : F_ffac_Split 4000000 [10, 0, 0, 0, 0, 0, 0, 1] 11 [] = some ([[10, 1], [10, 4, 5, 1], [10, 6, 7, 1]], 0) := by decide +kernel
theorem sp_7_13 : F_ffac_Split 4000000 [12, 0, 0, 0, 0, 0, 0, 1] 13 [] = some ([[12, 1], [1, 3, 1], [1, 5, 1], [1, 6, 1]], 0) := by decide +kernel
theorem li_7 : F_hensel_Lift 4000000 [(true, [1]), (false, []), (false, []), (false, []), (false, []), (false, []), (false, []), (false, [1])] [[2, 1], [1, 1, 1, 1, 1, 1, 1]] 3 6 = some ([[(false, [728]), (false, [1])], [(false, [1]), (false, [1]), (false, [1]), (false, [1]), (false, [1]), (false, [1]), (false, [1])]], 0) := by decide +kernel
theorem sp_6_5 : F_ffac_Split 4000000 [4, 0, 0, 0, 0, 0, 1] 5 [] = some ([[1, 1], [4, 1], [1, 1, 1], [1, 4, 1]], 0) := by decide +kernel
theorem sp_6_7 : F_ffac_Split 4000000 [6, 0, 0, 0, 0, 0, 1] 7 [] = some ([[1, 1], [2, 1], [3, 1], [4, 1], [5, 1], [6, 1]], 0) := by decide +kernel
theorem sp_6_11 : F_ffac_Split 4000000 [10, 0, 0, 0, 0, 0, 1] 11 [] = some ([[1, 1], [10, 1], [1, 1, 1], [1, 10, 1]], 0) := by decide +kernel
theorem sp_6_13 : F_ffac_Split 4000000 [12, 0, 0, 0, 0, 0, 1] 13 [] = some ([[1, 1], [3, 1], [4, 1], [9, 1], [10, 1], [12, 1]], 0) := by decide +kernel
theorem sp_6_17 : F_ffac_Split 4000000 [16, 0, 0, 0, 0, 0, 1] 17 [] = some ([[1, 1], [16, 1], [1, 1, 1], [1, 16, 1]], 0) := by decide +kernel
theorem li_6 : F_hensel_Lift 4000000 [(true, [1]), (false, []), (false, []), (false, []), (false, []), (false, []), (false, [1])] [[1, 1], [4, 1], [1, 1, 1], [1, 4, 1]] 5 4 = some ([[(false, [1]), (false, [1])], [(false, [624]), (false, [1])], [(false, [1]), (false, [1]), (false, [1])], [(false, [1]), (false, [624]), (false, [1])]], 0) := by decide +kernel
theorem e_aw : M_law16_awake 4000000 = some true := by decide +kernel
end Go.Proofs.YtmggkmchbdanfaaGreat
end

