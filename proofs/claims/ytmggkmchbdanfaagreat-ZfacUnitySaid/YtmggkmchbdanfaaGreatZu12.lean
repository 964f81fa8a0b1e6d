/- What a proof needs: rules of walking, mirrors of functions and their plain laws. No condition. -/
import Derived.Test.YtmggkmchbdanfaaGreatZu8
section
set_option linter.unusedVariables false
set_option maxRecDepth 100000
namespace Go.Proofs.YtmggkmchbdanfaaGreat
theorem sp_13_2 : F_ffac_Split 4000000 [1, 0, 0, 0, 0, 0, 0, 0, 0, 0, 0, 0, 0, 1] 2 [] = some ([[1, 1], [1, 1, 1, 1, 1, 1, 1, 1, 1, 1, 1, 1, 1]], 0) := by decide +kernel
theorem sp_13_3 : F_ffac_Split 4000000 [2, 0, 0, 0, 0, 0, 0, 0, 0, 0, 0, 0, 0, 1] 3 [] = some ([[2, 1], [2, 2, 0, 1], [2, 0, 1, 1], [2, 1, 1, 1], [2, 2, 2, 1]], 0) := by decide +kernel
theorem sp_13_5 : F_ffac_Split 4000000 [4, 0, 0, 0, 0, 0, 0, 0, 0, 0, 0, 0, 0, 1] 5 [] = some ([[4, 1], [1, 1, 4, 1, 1], [1, 2, 1, 2, 1], [1, 3, 0, 3, 1]], 0) := by decide +kernel
theorem sp_13_7 : F_ffac_Split 4000000 [6, 0, 0, 0, 0, 0, 0, 0, 0, 0, 0, 0, 0, 1] 7 [] = some ([[6, 1], [1, 1, 1, 1, 1, 1, 1, 1, 1, 1, 1, 1, 1]], 0) := by decide +kernel
theorem sp_13_11 : F_ffac_Split 4000000 [10, 0, 0, 0, 0, 0, 0, 0, 0, 0, 0, 0, 0, 1] 11 [] = some ([[10, 1], [1, 1, 1, 1, 1, 1, 1, 1, 1, 1, 1, 1, 1]], 0) := by decide +kernel
theorem li_13 : F_hensel_Lift 4000000 [(true, [1]), (false, []), (false, []), (false, []), (false, []), (false, []), (false, []), (false, []), (false, []), (false, []), (false, []), (false, []), (false, []), (false, [1])] [[1, 1], [1, 1, 1, 1, 1, 1, 1, 1, 1, 1, 1, 1, 1]] 2 16 = some ([[(false, [65535]), (false, [1])], [(false, [1]), (false, [1]), (false, [1]), (false, [1]), (false, [1]), (false, [1]), (false, [1]), (false, [1]), (false, [1]), (false, [1]), (false, [1]), (false, [1]), (false, [1])]], 0) := by decide +kernel
theorem sp_12_5 : F_ffac_Split 4000000 [4, 0, 0, 0, 0, 0, 0, 0, 0, 0, 0, 0, 1] 5 [] = some ([[1, 1], [2, 1], [3, 1], [4, 1], [1, 1, 1], [4, 2, 1], [4, 3, 1], [1, 4, 1]], 0) := by decide +kernel
theorem sp_12_7 : F_ffac_Split 4000000 [6, 0, 0, 0, 0, 0, 0, 0, 0, 0, 0, 0, 1] 7 [] = some ([[1, 1], [2, 1], [3, 1], [4, 1], [5, 1], [6, 1], [1, 0, 1], [2, 0, 1], [4, 0, 1]], 0) := by decide +kernel
theorem sp_12_11 : F_ffac_Split 4000000 [10, 0, 0, 0, 0, 0, 0, 0, 0, 0, 0, 0, 1] 11 [] = some ([[1, 1], [10, 1], [1, 0, 1], [1, 1, 1], [1, 5, 1], [1, 6, 1], [1, 10, 1]], 0) := by decide +kernel
theorem sp_12_13 : F_ffac_Split 4000000 [12, 0, 0, 0, 0, 0, 0, 0, 0, 0, 0, 0, 1] 13 [] = some ([[1, 1], [2, 1], [3, 1], [4, 1], [5, 1], [6, 1], [7, 1], [8, 1], [9, 1], [10, 1], [11, 1], [12, 1]], 0) := by decide +kernel
theorem sp_12_17 : F_ffac_Split 4000000 [16, 0, 0, 0, 0, 0, 0, 0, 0, 0, 0, 0, 1] 17 [] = some ([[1, 1], [4, 1], [13, 1], [16, 1], [1, 1, 1], [16, 4, 1], [16, 13, 1], [1, 16, 1]], 0) := by decide +kernel
theorem li_12 : F_hensel_Lift 4000000 [(true, [1]), (false, []), (false, []), (false, []), (false, []), (false, []), (false, []), (false, []), (false, []), (false, []), (false, []), (false, []), (false, [1])] [[1, 1], [10, 1], [1, 0, 1], [1, 1, 1], [1, 5, 1], [1, 6, 1], [1, 10, 1]] 11 5 = some ([[(false, [1]), (false, [1])], [(false, [161050]), (false, [1])], [(false, [1]), (false, []), (false, [1])], [(false, [1]), (false, [1]), (false, [1])], [(false, [1]), (false, [26042]), (false, [1])], [(false, [1]), (false, [135009]), (false, [1])], [(false, [1]), (false, [161050]), (false, [1])]], 0) := by decide +kernel
end Go.Proofs.YtmggkmchbdanfaaGreat
end

