/- What a proof needs: rules of walking, mirrors of functions and their plain laws. No condition. -/
import Derived.Test.YtmggkmchbdanfaaGreatZu15
section
set_option linter.unusedVariables false
set_option maxRecDepth 100000
namespace Go.Proofs.YtmggkmchbdanfaaGreat
theorem un_11 : H_law16_ZfacUnity 4000000 11 = some true := by decide +kernel
theorem un_10 : H_law16_ZfacUnity 4000000 10 = some true := by decide +kernel
theorem un_9 : H_law16_ZfacUnity 4000000 9 = some true := by decide +kernel
theorem un_8 : H_law16_ZfacUnity 4000000 8 = some true := by decide +kernel
theorem un_7 : H_law16_ZfacUnity 4000000 7 = some true := by decide +kernel
end Go.Proofs.YtmggkmchbdanfaaGreat
end

