/- What the functions that this law reaches answer, in whatever memory, and the row of the law; no condition. Written by a program of this session (mk.sh). -/
import Derived.Test.YtifbflpaednfnaaPBasisTwox0
import Derived.Test.YtifbflpaednfnaaPBasisTwox1
import Derived.Test.YtifbflpaednfnaaPBasisTwox2
import Derived.Test.YtifbflpaednfnaaPBasisTwox3
import Derived.Test.YtifbflpaednfnaaPBasisTwox4
import Derived.Test.YtifbflpaednfnaaPBasisTwox5
import Derived.Test.YtifbflpaednfnaaPBasisTwox6
import Derived.Test.YtifbflpaednfnaaPBasisTwox7
import Derived.Test.YtifbflpaednfnaaPBasisTwox8
import Derived.Test.YtifbflpaednfnaaPBasisTwox9
import Derived.Test.YtifbflpaednfnaaPBasisTwox10
import Derived.Test.YtifbflpaednfnaaPBasisTwox11
namespace Go.Proofs.Ytifbflpaednfnaa.PBasisTwo
open Go.RowKit Go.Proofs.YtifbflpaednfnaaW.PrintWords Go.Proofs.YtifbflpaednfnaaW.PrintLast Go.Proofs.YtifbflpaednfnaaW.PrintMore
attribute [local go_sem] max2_int min2_int max_two min_two max_three min_three max_four min_four   -- for this text's walks alone
set_option linter.unusedVariables false
set_option linter.unusedSimpArgs false

end Go.Proofs.Ytifbflpaednfnaa.PBasisTwo
