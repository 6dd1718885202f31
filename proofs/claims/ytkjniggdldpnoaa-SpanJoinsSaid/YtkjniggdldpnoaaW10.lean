import Derived.Test.YtkjniggdldpnoaaW9
set_option linter.unusedVariables false
set_option linter.unusedSimpArgs false
namespace Go.Proofs.Ytkjniggdldpnoaa
open Go Go.Abs

end Go.Proofs.Ytkjniggdldpnoaa
