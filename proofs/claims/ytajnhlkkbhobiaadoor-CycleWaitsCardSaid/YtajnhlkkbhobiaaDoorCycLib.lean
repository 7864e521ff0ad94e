/- Cycles and registers: the examples. -/
import Derived.Test.YtajnhlkkbhobiaaDoorCyc2
import Derived.Test.YtajnhlkkbhobiaaDoorEngPure
set_option linter.unusedVariables false
set_option linter.unusedSimpArgs false
namespace Go.Proofs.YtajnhlkkbhobiaaDoor.Cyc
open Go.RowKit Go.Eng
theorem awake17 : charabanclaw17_awake_10.f 1000 = some true := by kernel_rfl
end Go.Proofs.YtajnhlkkbhobiaaDoor.Cyc
