/- What a proof needs: rules of walking, mirrors of functions and their plain laws. No condition. -/
import Derived.Test.YtmggkmchbdanfaaGreatZu15
section
set_option linter.unusedVariables false
set_option maxRecDepth 100000
namespace Go.Proofs.YtmggkmchbdanfaaGreat
theorem un_15 : H_law16_ZfacUnity 4000000 15 = some true := by decide +kernel
theorem un_14 : H_law16_ZfacUnity 4000000 14 = some true := by decide +kernel
theorem un_13 : H_law16_ZfacUnity 4000000 13 = some true := by decide +kernel
theorem un_12 : H_law16_ZfacUnity 4000000 12 = some true := by decide +kernel
end Go.Proofs.YtmggkmchbdanfaaGreat
end

