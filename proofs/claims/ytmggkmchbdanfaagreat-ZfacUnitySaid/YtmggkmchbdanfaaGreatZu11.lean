/- What a proof needs: rules of walking, mirrors of functions and their plain laws. No condition. -/
import Derived.Test.YtmggkmchbdanfaaGreatZu8
section
set_option linter.unusedVariables false
set_option maxRecDepth 100000
namespace Go.Proofs.YtmggkmchbdanfaaGreat
theorem sp_14_3 : F_ffac_Split 4000000 [2, 0, 0, 0, 0, 0, 0, 0, 0, 0, 0, 0, 0, 0, 1] 3 [] = some ([[1, 1], [2, 1], [1, 1, 1, 1, 1, 1, 1], [1, 2, 1, 2, 1, 2, 1]], 0) := by decide +kernel
theorem sp_14_5 : F_ffac_Split 4000000 [4, 0, 0, 0, 0, 0, 0, 0, 0, 0, 0, 0, 0, 0, 1] 5 [] = some ([[1, 1], [4, 1], [1, 1, 1, 1, 1, 1, 1], [1, 4, 1, 4, 1, 4, 1]], 0) := by decide +kernel
theorem sp_14_11 : F_ffac_Split 4000000 [10, 0, 0, 0, 0, 0, 0, 0, 0, 0, 0, 0, 0, 0, 1] 11 [] = some ([[1, 1], [10, 1], [1, 6, 4, 1], [10, 4, 5, 1], [1, 4, 6, 1], [10, 6, 7, 1]], 0) := by decide +kernel
theorem sp_14_13 : F_ffac_Split 4000000 [12, 0, 0, 0, 0, 0, 0, 0, 0, 0, 0, 0, 0, 0, 1] 13 [] = some ([[1, 1], [12, 1], [1, 3, 1], [1, 5, 1], [1, 6, 1], [1, 7, 1], [1, 8, 1], [1, 10, 1]], 0) := by decide +kernel
theorem sp_14_17 : F_ffac_Split 4000000 [16, 0, 0, 0, 0, 0, 0, 0, 0, 0, 0, 0, 0, 0, 1] 17 [] = some ([[1, 1], [16, 1], [1, 1, 1, 1, 1, 1, 1], [1, 16, 1, 16, 1, 16, 1]], 0) := by decide +kernel
theorem li_14 : F_hensel_Lift 4000000 [(true, [1]), (false, []), (false, []), (false, []), (false, []), (false, []), (false, []), (false, []), (false, []), (false, []), (false, []), (false, []), (false, []), (false, []), (false, [1])] [[1, 1], [2, 1], [1, 1, 1, 1, 1, 1, 1], [1, 2, 1, 2, 1, 2, 1]] 3 11 = some ([[(false, [1]), (false, [1])], [(false, [177146]), (false, [1])], [(false, [1]), (false, [1]), (false, [1]), (false, [1]), (false, [1]), (false, [1]), (false, [1])], [(false, [1]), (false, [177146]), (false, [1]), (false, [177146]), (false, [1]), (false, [177146]), (false, [1])]], 0) := by decide +kernel
end Go.Proofs.YtmggkmchbdanfaaGreat
end

