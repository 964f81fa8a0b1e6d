/- What a proof needs: rules of walking, mirrors of functions and their plain laws. No condition. -/
import Derived.Test.YtmggkmchbdanfaaGreatZu15
section
set_option linter.unusedVariables false
set_option maxRecDepth 100000
namespace Go.Proofs.YtmggkmchbdanfaaGreat
theorem un_6 : H_law16_ZfacUnity 4000000 6 = some true := by decide +kernel
theorem un_5 : H_law16_ZfacUnity 4000000 5 = some true := by decide +kernel
theorem un_4 : H_law16_ZfacUnity 4000000 4 = some true := by decide +kernel
theorem un_3 : H_law16_ZfacUnity 4000000 3 = some true := by decide +kernel
theorem un_2 : H_law16_ZfacUnity 4000000 2 = some true := by decide +kernel
theorem un_1 : H_law16_ZfacUnity 4000000 1 = some true := by decide +kernel
theorem un_0 : H_law16_ZfacUnity 4000000 0 = some true := by decide +kernel
end Go.Proofs.YtmggkmchbdanfaaGreat
end

