/- Functions of the program as Lean functions, and that the program's calls answer so: printed by this session's own program (wip/tools/pext.py) out of the translation. Conditions: each theorem's own. Not trusted: Lean checks it. -/
import Derived.Test.YtpkhcmppjdhpaaaPrint0
import Derived.Test.YtpkhcmppjdhpaaaPrint1
import Derived.Test.YtpkhcmppjdhpaaaPrint2
import Derived.Test.YtpkhcmppjdhpaaaPrint3
import Derived.Test.YtpkhcmppjdhpaaaPrint4
namespace Go.Proofs.Ytpkhcmppjdhpaaa.Print
open Go.RowKit Go.Proofs.YtpkhcmppjdhpaaaW.PrintWords Go.Proofs.YtpkhcmppjdhpaaaW.PrintLast Go.Proofs.YtpkhcmppjdhpaaaW.PrintMore
attribute [local go_sem] max2_int min2_int max_two min_two max_three min_three max_four min_four   -- for this text's walks alone
set_option linter.unusedVariables false
set_option linter.unusedSimpArgs false

end Go.Proofs.Ytpkhcmppjdhpaaa.Print
