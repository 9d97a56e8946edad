-- Walks made by a program (wip/givenprint.sh); Lean checks them.
import Derived.Test.YtbbdlcmcndhhkaaDoorMValShowsx0
import Derived.Test.YtbbdlcmcndhhkaaDoorMValReckonsx1
import Derived.Test.YtbbdlcmcndhhkaaDoorMValReckonsx2
namespace Go.Proofs.YtbbdlcmcndhhkaaDoor.MValReckons
open Go.RowKit Go.Proofs.YtbbdlcmcndhhkaaDoorW.PrintWords Go.Proofs.YtbbdlcmcndhhkaaDoorW.PrintLast Go.Proofs.YtbbdlcmcndhhkaaDoorW.PrintMore
attribute [local go_sem] max2_int min2_int max_two min_two max_three min_three max_four min_four   -- for this text's walks alone
set_option linter.unusedVariables false
set_option linter.unusedSimpArgs false

end Go.Proofs.YtbbdlcmcndhhkaaDoor.MValReckons
