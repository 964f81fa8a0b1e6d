/- What a proof needs: rules of walking, mirrors of functions and their plain laws. No condition. -/
import Derived.Test.YtmggkmchbdanfaaGreatZu8
section
set_option linter.unusedVariables false
set_option maxRecDepth 100000
namespace Go.Proofs.YtmggkmchbdanfaaGreat
theorem sp_16_3 : F_ffac_Split 4000000 [2, 0, 0, 0, 0, 0, 0, 0, 0, 0, 0, 0, 0, 0, 0, 0, 1] 3 [] = some ([[1, 1], [2, 1], [1, 0, 1], [2, 1, 1], [2, 2, 1], [2, 0, 1, 0, 1], [2, 0, 2, 0, 1]], 0) := by decide +kernel
theorem sp_16_5 : F_ffac_Split 4000000 [4, 0, 0, 0, 0, 0, 0, 0, 0, 0, 0, 0, 0, 0, 0, 0, 1] 5 [] = some ([[1, 1], [2, 1], [3, 1], [4, 1], [2, 0, 1], [3, 0, 1], [2, 0, 0, 0, 1], [3, 0, 0, 0, 1]], 0) := by decide +kernel
theorem sp_16_7 : F_ffac_Split 4000000 [6, 0, 0, 0, 0, 0, 0, 0, 0, 0, 0, 0, 0, 0, 0, 0, 1] 7 [] = some ([[1, 1], [6, 1], [1, 0, 1], [6, 1, 1], [1, 3, 1], [6, 3, 1], [1, 4, 1], [6, 4, 1], [6, 6, 1]], 0) := by decide +kernel
theorem sp_16_11 : F_ffac_Split 4000000 [10, 0, 0, 0, 0, 0, 0, 0, 0, 0, 0, 0, 0, 0, 0, 0, 1] 11 [] = some ([[1, 1], [10, 1], [1, 0, 1], [10, 3, 1], [10, 8, 1], [10, 0, 3, 0, 1], [10, 0, 8, 0, 1]], 0) := by decide +kernel
theorem sp_16_13 : F_ffac_Split 4000000 [12, 0, 0, 0, 0, 0, 0, 0, 0, 0, 0, 0, 0, 0, 0, 0, 1] 13 [] = some ([[1, 1], [5, 1], [8, 1], [12, 1], [5, 0, 1], [8, 0, 1], [5, 0, 0, 0, 1], [8, 0, 0, 0, 1]], 0) := by decide +kernel
theorem li_16 : F_hensel_Lift 4000000 [(true, [1]), (false, []), (false, []), (false, []), (false, []), (false, []), (false, []), (false, []), (false, []), (false, []), (false, []), (false, []), (false, []), (false, []), (false, []), (false, []), (false, [1])] [[1, 1], [2, 1], [1, 0, 1], [2, 1, 1], [2, 2, 1], [2, 0, 1, 0, 1], [2, 0, 2, 0, 1]] 3 12 = some ([[(false, [1]), (false, [1])], [(false, [531440]), (false, [1])], [(false, [1]), (false, []), (false, [1])], [(false, [531440]), (false, [356989]), (false, [1])], [(false, [531440]), (false, [174452]), (false, [1])], [(false, [531440]), (false, []), (false, [356989]), (false, []), (false, [1])], [(false, [531440]), (false, []), (false, [174452]), (false, []), (false, [1])]], 0) := by decide +kernel
end Go.Proofs.YtmggkmchbdanfaaGreat
end

