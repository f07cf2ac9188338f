/- What the functions that this law reaches answer, in whatever memory, and the row of the law; no condition. Written by a program of this session (mk.sh). -/
import Derived.Test.YtifbflpaednfnaaPBasisMorex0
import Derived.Test.YtifbflpaednfnaaPBasisMorex1
import Derived.Test.YtifbflpaednfnaaPBasisMorex2
import Derived.Test.YtifbflpaednfnaaPBasisMorex3
import Derived.Test.YtifbflpaednfnaaPBasisMorex4
import Derived.Test.YtifbflpaednfnaaPBasisMorex5
import Derived.Test.YtifbflpaednfnaaPBasisMorex6
import Derived.Test.YtifbflpaednfnaaPBasisMorex7
import Derived.Test.YtifbflpaednfnaaPBasisMorex8
import Derived.Test.YtifbflpaednfnaaPBasisMorex9
import Derived.Test.YtifbflpaednfnaaPBasisMorex10
import Derived.Test.YtifbflpaednfnaaPBasisMorex11
namespace Go.Proofs.Ytifbflpaednfnaa.PBasisMore
open Go.RowKit Go.Proofs.YtifbflpaednfnaaW.PrintWords Go.Proofs.YtifbflpaednfnaaW.PrintLast Go.Proofs.YtifbflpaednfnaaW.PrintMore
attribute [local go_sem] max2_int min2_int max_two min_two max_three min_three max_four min_four   -- for this text's walks alone
set_option linter.unusedVariables false
set_option linter.unusedSimpArgs false

end Go.Proofs.Ytifbflpaednfnaa.PBasisMore
