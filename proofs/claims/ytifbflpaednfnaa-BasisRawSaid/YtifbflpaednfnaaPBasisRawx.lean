/- What the functions that this law reaches answer, in whatever memory, and the row of the law; no condition. Written by a program of this session (mk.sh). -/
import Derived.Test.YtifbflpaednfnaaPBasisRawx0
import Derived.Test.YtifbflpaednfnaaPBasisRawx1
import Derived.Test.YtifbflpaednfnaaPBasisRawx2
import Derived.Test.YtifbflpaednfnaaPBasisRawx3
import Derived.Test.YtifbflpaednfnaaPBasisRawx4
import Derived.Test.YtifbflpaednfnaaPBasisRawx5
import Derived.Test.YtifbflpaednfnaaPBasisRawx6
import Derived.Test.YtifbflpaednfnaaPBasisRawx7
import Derived.Test.YtifbflpaednfnaaPBasisRawx8
import Derived.Test.YtifbflpaednfnaaPBasisRawx9
import Derived.Test.YtifbflpaednfnaaPBasisRawx10
import Derived.Test.YtifbflpaednfnaaPBasisRawx11
import Derived.Test.YtifbflpaednfnaaPBasisRawx12
import Derived.Test.YtifbflpaednfnaaPBasisRawx13
import Derived.Test.YtifbflpaednfnaaPBasisRawx14
import Derived.Test.YtifbflpaednfnaaPBasisRawx15
namespace Go.Proofs.Ytifbflpaednfnaa.PBasisRaw
open Go.RowKit Go.Proofs.YtifbflpaednfnaaW.PrintWords Go.Proofs.YtifbflpaednfnaaW.PrintLast Go.Proofs.YtifbflpaednfnaaW.PrintMore
attribute [local go_sem] max2_int min2_int max_two min_two max_three min_three max_four min_four   -- for this text's walks alone
set_option linter.unusedVariables false
set_option linter.unusedSimpArgs false

end Go.Proofs.Ytifbflpaednfnaa.PBasisRaw
