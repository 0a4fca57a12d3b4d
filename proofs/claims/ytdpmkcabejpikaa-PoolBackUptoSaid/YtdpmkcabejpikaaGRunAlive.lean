/- alive, its one path: every check says yes. -/
import Derived.Test.YtdpmkcabejpikaaGPlB
import Derived.Test.YtdpmkcabejpikaaGWords
namespace Go.Proofs.Ytdpmkcabejpikaa.Run
open Go.RowKit Go.Proofs.YtdpmkcabejpikaaW.PrintWords Go.Proofs.YtdpmkcabejpikaaW.PrintLast Go.Proofs.YtdpmkcabejpikaaW.PrintMore
attribute [local go_sem] max2_int min2_int max_two min_two max_three min_three max_four min_four   -- for this text's walks alone
set_option linter.unusedVariables false
set_option linter.unusedSimpArgs false
attribute [local go_sem high] eqA44
end Go.Proofs.Ytdpmkcabejpikaa.Run
