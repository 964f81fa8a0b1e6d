/- What a proof needs: rules of walking, mirrors of functions and their plain laws. No condition. -/
import Derived.Test.YtmggkmchbdanfaaGreatZu8
section
set_option linter.unusedVariables false
set_option maxRecDepth 100000
namespace Go.Proofs.YtmggkmchbdanfaaGreat
theorem sp_11_2 : F_ffac_Split 4000000 [1, 0, 0, 0, 0, 0, 0, 0, 0, 0, 0, 1] 2 [] = some ([[1, 1], [1, 1, 1, 1, 1, 1, 1, 1, 1, 1, 1]], 0) := by decide +kernel
theorem sp_11_3 : F_ffac_Split 4000000 [2, 0, 0, 0, 0, 0, 0, 0, 0, 0, 0, 1] 3 [] = some ([[2, 1], [2, 2, 1, 2, 0, 1], [2, 0, 1, 2, 1, 1]], 0) := by decide +kernel
theorem sp_11_5 : F_ffac_Split 4000000 [4, 0, 0, 0, 0, 0, 0, 0, 0, 0, 0, 1] 5 [] = some ([[4, 1], [4, 1, 1, 4, 2, 1], [4, 3, 1, 4, 4, 1]], 0) := by decide +kernel
theorem sp_11_7 : F_ffac_Split 4000000 [6, 0, 0, 0, 0, 0, 0, 0, 0, 0, 0, 1] 7 [] = some ([[6, 1], [1, 1, 1, 1, 1, 1, 1, 1, 1, 1, 1]], 0) := by decide +kernel
theorem sp_11_13 : F_ffac_Split 4000000 [12, 0, 0, 0, 0, 0, 0, 0, 0, 0, 0, 1] 13 [] = some ([[12, 1], [1, 1, 1, 1, 1, 1, 1, 1, 1, 1, 1]], 0) := by decide +kernel
theorem li_11 : F_hensel_Lift 4000000 [(true, [1]), (false, []), (false, []), (false, []), (false, []), (false, []), (false, []), (false, []), (false, []), (false, []), (false, []), (false, [1])] [[1, 1], [1, 1, 1, 1, 1, 1, 1, 1, 1, 1, 1]] 2 14 = some ([[(false, [16383]), (false, [1])], [(false, [1]), (false, [1]), (false, [1]), (false, [1]), (false, [1]), (false, [1]), (false, [1]), (false, [1]), (false, [1]), (false, [1]), (false, [1])]], 0) := by decide +kernel
theorem sp_10_3 : F_ffac_Split 4000000 [2, 0, 0, 0, 0, 0, 0, 0, 0, 0, 1] 3 [] = some ([[1, 1], [2, 1], [1, 1, 1, 1, 1], [1, 2, 1, 2, 1]], 0) := by decide +kernel
theorem sp_10_7 : F_ffac_Split 4000000 [6, 0, 0, 0, 0, 0, 0, 0, 0, 0, 1] 7 [] = some ([[1, 1], [6, 1], [1, 1, 1, 1, 1], [1, 6, 1, 6, 1]], 0) := by decide +kernel
theorem sp_10_11 : F_ffac_Split 4000000 [10, 0, 0, 0, 0, 0, 0, 0, 0, 0, 1] 11 [] = some ([[1, 1], [2, 1], [3, 1], [4, 1], [5, 1], [6, 1], [7, 1], [8, 1], [9, 1], [10, 1]], 0) := by decide +kernel
theorem sp_10_13 : F_ffac_Split 4000000 [12, 0, 0, 0, 0, 0, 0, 0, 0, 0, 1] 13 [] = some ([[1, 1], [12, 1], [1, 1, 1, 1, 1], [1, 12, 1, 12, 1]], 0) := by decide +kernel
theorem sp_10_17 : F_ffac_Split 4000000 [16, 0, 0, 0, 0, 0, 0, 0, 0, 0, 1] 17 [] = some ([[1, 1], [16, 1], [1, 1, 1, 1, 1], [1, 16, 1, 16, 1]], 0) := by decide +kernel
theorem li_10 : F_hensel_Lift 4000000 [(true, [1]), (false, []), (false, []), (false, []), (false, []), (false, []), (false, []), (false, []), (false, []), (false, []), (false, [1])] [[1, 1], [2, 1], [1, 1, 1, 1, 1], [1, 2, 1, 2, 1]] 3 8 = some ([[(false, [1]), (false, [1])], [(false, [6560]), (false, [1])], [(false, [1]), (false, [1]), (false, [1]), (false, [1]), (false, [1])], [(false, [1]), (false, [6560]), (false, [1]), (false, [6560]), (false, [1])]], 0) := by decide +kernel
theorem sp_9_2 : F_ffac_Split 4000000 [1, 0, 0, 0, 0, 0, 0, 0, 0, 1] 2 [] = some ([[1, 1], [1, 1, 1], [1, 0, 0, 1, 0, 0, 1]], 0) := by decide +kernel
theorem sp_9_5 : F_ffac_Split 4000000 [4, 0, 0, 0, 0, 0, 0, 0, 0, 1] 5 [] = some ([[4, 1], [1, 1, 1], [1, 0, 0, 1, 0, 0, 1]], 0) := by decide +kernel
theorem sp_9_7 : F_ffac_Split 4000000 [6, 0, 0, 0, 0, 0, 0, 0, 0, 1] 7 [] = some ([[3, 1], [5, 1], [6, 1], [3, 0, 0, 1], [5, 0, 0, 1]], 0) := by decide +kernel
theorem sp_9_11 : F_ffac_Split 4000000 [10, 0, 0, 0, 0, 0, 0, 0, 0, 1] 11 [] = some ([[10, 1], [1, 1, 1], [1, 0, 0, 1, 0, 0, 1]], 0) := by decide +kernel
theorem sp_9_13 : F_ffac_Split 4000000 [12, 0, 0, 0, 0, 0, 0, 0, 0, 1] 13 [] = some ([[4, 1], [10, 1], [12, 1], [4, 0, 0, 1], [10, 0, 0, 1]], 0) := by decide +kernel
theorem li_9 : F_hensel_Lift 4000000 [(true, [1]), (false, []), (false, []), (false, []), (false, []), (false, []), (false, []), (false, []), (false, []), (false, [1])] [[1, 1], [1, 1, 1], [1, 0, 0, 1, 0, 0, 1]] 2 12 = some ([[(false, [4095]), (false, [1])], [(false, [1]), (false, [1]), (false, [1])], [(false, [1]), (false, []), (false, []), (false, [1]), (false, []), (false, []), (false, [1])]], 0) := by decide +kernel
end Go.Proofs.YtmggkmchbdanfaaGreat
end

