/- What the functions that this law reaches answer, in whatever memory, and the row of the law; no condition. Written by a program of this session (mk.sh). -/
import Derived.Test.YtifbflpaednfnaaPBasisRingx0
import Derived.Test.YtifbflpaednfnaaPBasisRingx1
import Derived.Test.YtifbflpaednfnaaPBasisRingx2
import Derived.Test.YtifbflpaednfnaaPBasisRingx3
import Derived.Test.YtifbflpaednfnaaPBasisRingx4
import Derived.Test.YtifbflpaednfnaaPBasisRingx5
import Derived.Test.YtifbflpaednfnaaPBasisRingx6
import Derived.Test.YtifbflpaednfnaaPBasisRingx7
import Derived.Test.YtifbflpaednfnaaPBasisRingx8
import Derived.Test.YtifbflpaednfnaaPBasisRingx9
import Derived.Test.YtifbflpaednfnaaPBasisRingx10
import Derived.Test.YtifbflpaednfnaaPBasisRingx11
namespace Go.Proofs.Ytifbflpaednfnaa.PBasisRing
open Go.RowKit Go.Proofs.YtifbflpaednfnaaW.PrintWords Go.Proofs.YtifbflpaednfnaaW.PrintLast Go.Proofs.YtifbflpaednfnaaW.PrintMore
attribute [local go_sem] max2_int min2_int max_two min_two max_three min_three max_four min_four   -- for this text's walks alone
set_option linter.unusedVariables false
set_option linter.unusedSimpArgs false

end Go.Proofs.Ytifbflpaednfnaa.PBasisRing
