/- What a proof needs: rules of walking, mirrors of functions and their plain laws. No condition. -/
import Derived.Test.YtmggkmchbdanfaaGreatZu8
section
set_option linter.unusedVariables false
set_option maxRecDepth 100000
namespace Go.Proofs.YtmggkmchbdanfaaGreat
theorem sp_15_2 : F_ffac_Split 4000000 [1, 0, 0, 0, 0, 0, 0, 0, 0, 0, 0, 0, 0, 0, 0, 1] 2 [] = some ([[1, 1], [1, 1, 1], [1, 1, 0, 0, 1], [1, 0, 0, 1, 1], [1, 1, 1, 1, 1]], 0) := by decide +kernel
theorem sp_15_7 : F_ffac_Split 4000000 [6, 0, 0, 0, 0, 0, 0, 0, 0, 0, 0, 0, 0, 0, 0, 1] 7 [] = some ([[3, 1], [5, 1], [6, 1], [1, 1, 1, 1, 1], [2, 1, 4, 2, 1], [4, 1, 2, 4, 1]], 0) := by decide +kernel
theorem sp_15_11 : F_ffac_Split 4000000 [10, 0, 0, 0, 0, 0, 0, 0, 0, 0, 0, 0, 0, 0, 0, 1] 11 [] = some ([[2, 1], [6, 1], [7, 1], [8, 1], [10, 1], [1, 1, 1], [9, 3, 1], [5, 4, 1], [3, 5, 1], [4, 9, 1]], 0) := by decide +kernel
theorem sp_15_13 : F_ffac_Split 4000000 [12, 0, 0, 0, 0, 0, 0, 0, 0, 0, 0, 0, 0, 0, 0, 1] 13 [] = some ([[4, 1], [10, 1], [12, 1], [1, 1, 1, 1, 1], [3, 1, 9, 3, 1], [9, 1, 3, 9, 1]], 0) := by decide +kernel
theorem sp_15_17 : F_ffac_Split 4000000 [16, 0, 0, 0, 0, 0, 0, 0, 0, 0, 0, 0, 0, 0, 0, 1] 17 [] = some ([[16, 1], [1, 1, 1], [1, 1, 1, 1, 1], [1, 11, 15, 5, 1], [1, 5, 15, 11, 1]], 0) := by decide +kernel
theorem li_15 : F_hensel_Lift 4000000 [(true, [1]), (false, []), (false, []), (false, []), (false, []), (false, []), (false, []), (false, []), (false, []), (false, []), (false, []), (false, []), (false, []), (false, []), (false, []), (false, [1])] [[1, 1], [1, 1, 1], [1, 1, 0, 0, 1], [1, 0, 0, 1, 1], [1, 1, 1, 1, 1]] 2 18 = some ([[(false, [262143]), (false, [1])], [(false, [1]), (false, [1]), (false, [1])], [(false, [1]), (false, [56723]), (false, [262142]), (false, [205420]), (false, [1])], [(false, [1]), (false, [205420]), (false, [262142]), (false, [56723]), (false, [1])], [(false, [1]), (false, [1]), (false, [1]), (false, [1]), (false, [1])]], 0) := by decide +kernel
end Go.Proofs.YtmggkmchbdanfaaGreat
end

