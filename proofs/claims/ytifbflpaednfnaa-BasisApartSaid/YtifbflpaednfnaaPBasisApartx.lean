/- What the functions that this law reaches answer, in whatever memory, and the row of the law; no condition. Written by a program of this session (mk.sh). -/
import Derived.Test.YtifbflpaednfnaaPBasisApartx0
import Derived.Test.YtifbflpaednfnaaPBasisApartx1
import Derived.Test.YtifbflpaednfnaaPBasisApartx2
import Derived.Test.YtifbflpaednfnaaPBasisApartx3
import Derived.Test.YtifbflpaednfnaaPBasisApartx4
import Derived.Test.YtifbflpaednfnaaPBasisApartx5
import Derived.Test.YtifbflpaednfnaaPBasisApartx6
import Derived.Test.YtifbflpaednfnaaPBasisApartx7
import Derived.Test.YtifbflpaednfnaaPBasisApartx8
import Derived.Test.YtifbflpaednfnaaPBasisApartx9
import Derived.Test.YtifbflpaednfnaaPBasisApartx10
import Derived.Test.YtifbflpaednfnaaPBasisApartx11
namespace Go.Proofs.Ytifbflpaednfnaa.PBasisApart
open Go.RowKit Go.Proofs.YtifbflpaednfnaaW.PrintWords Go.Proofs.YtifbflpaednfnaaW.PrintLast Go.Proofs.YtifbflpaednfnaaW.PrintMore
attribute [local go_sem] max2_int min2_int max_two min_two max_three min_three max_four min_four   -- for this text's walks alone
set_option linter.unusedVariables false
set_option linter.unusedSimpArgs false

end Go.Proofs.Ytifbflpaednfnaa.PBasisApart
