-- Walks made by a program (wip/givenprint.sh); Lean checks them.
import Derived.Test.YtnkoibbaimhegaaMQueueTimersx0
namespace Go.Proofs.Ytnkoibbaimhegaa.MQ
open Go.RowKit Go.Proofs.YtnkoibbaimhegaaW.PrintWords Go.Proofs.YtnkoibbaimhegaaW.PrintLast Go.Proofs.YtnkoibbaimhegaaW.PrintMore
attribute [local go_sem] max2_int min2_int max_two min_two max_three min_three max_four min_four   -- for this text's walks alone
set_option linter.unusedVariables false
set_option linter.unusedSimpArgs false

end Go.Proofs.Ytnkoibbaimhegaa.MQ
