/- What the functions that this law reaches answer, in whatever memory, and the row of the law; no condition. Written by a program of this session (mk.sh). -/
import Derived.Test.YtifbflpaednfnaaPBasisNonex0
import Derived.Test.YtifbflpaednfnaaPBasisNonex1
import Derived.Test.YtifbflpaednfnaaPBasisNonex2
import Derived.Test.YtifbflpaednfnaaPBasisNonex3
import Derived.Test.YtifbflpaednfnaaPBasisNonex4
import Derived.Test.YtifbflpaednfnaaPBasisNonex5
import Derived.Test.YtifbflpaednfnaaPBasisNonex6
import Derived.Test.YtifbflpaednfnaaPBasisNonex7
import Derived.Test.YtifbflpaednfnaaPBasisNonex8
import Derived.Test.YtifbflpaednfnaaPBasisNonex9
import Derived.Test.YtifbflpaednfnaaPBasisNonex10
namespace Go.Proofs.Ytifbflpaednfnaa.PBasisNone
open Go.RowKit Go.Proofs.YtifbflpaednfnaaW.PrintWords Go.Proofs.YtifbflpaednfnaaW.PrintLast Go.Proofs.YtifbflpaednfnaaW.PrintMore
attribute [local go_sem] max2_int min2_int max_two min_two max_three min_three max_four min_four   -- for this text's walks alone
set_option linter.unusedVariables false
set_option linter.unusedSimpArgs false

end Go.Proofs.Ytifbflpaednfnaa.PBasisNone
