/- What the functions that this law reaches answer, in whatever memory, and the row of the law; no condition. Written by a program of this session (mk.sh). -/
import Derived.Test.YtifbflpaednfnaaPBasisNetsx0
import Derived.Test.YtifbflpaednfnaaPBasisNetsx1
import Derived.Test.YtifbflpaednfnaaPBasisNetsx2
import Derived.Test.YtifbflpaednfnaaPBasisNetsx3
import Derived.Test.YtifbflpaednfnaaPBasisNetsx4
import Derived.Test.YtifbflpaednfnaaPBasisNetsx5
import Derived.Test.YtifbflpaednfnaaPBasisNetsx6
import Derived.Test.YtifbflpaednfnaaPBasisNetsx7
import Derived.Test.YtifbflpaednfnaaPBasisNetsx8
import Derived.Test.YtifbflpaednfnaaPBasisNetsx9
import Derived.Test.YtifbflpaednfnaaPBasisNetsx10
import Derived.Test.YtifbflpaednfnaaPBasisNetsx11
import Derived.Test.YtifbflpaednfnaaPBasisNetsx12
import Derived.Test.YtifbflpaednfnaaPBasisNetsx13
import Derived.Test.YtifbflpaednfnaaPBasisNetsx14
import Derived.Test.YtifbflpaednfnaaPBasisNetsx15
import Derived.Test.YtifbflpaednfnaaPBasisNetsx16
import Derived.Test.YtifbflpaednfnaaPBasisNetsx17
import Derived.Test.YtifbflpaednfnaaPBasisNetsx18
import Derived.Test.YtifbflpaednfnaaPBasisNetsx19
namespace Go.Proofs.Ytifbflpaednfnaa.PBasisNets
open Go.RowKit Go.Proofs.YtifbflpaednfnaaW.PrintWords Go.Proofs.YtifbflpaednfnaaW.PrintLast Go.Proofs.YtifbflpaednfnaaW.PrintMore
attribute [local go_sem] max2_int min2_int max_two min_two   -- for this text's walks alone
set_option linter.unusedVariables false
set_option linter.unusedSimpArgs false

end Go.Proofs.Ytifbflpaednfnaa.PBasisNets
