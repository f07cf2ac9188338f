/- What the functions that this law reaches answer, in whatever memory, and the row of the law; no condition. Written by a program of this session (mk.sh). -/
import Derived.Test.YtigpmhicdmjbeaaPWeighNonex0
import Derived.Test.YtigpmhicdmjbeaaPWeighNonex1
import Derived.Test.YtigpmhicdmjbeaaPWeighNonex2
import Derived.Test.YtigpmhicdmjbeaaPWeighNonex3
import Derived.Test.YtigpmhicdmjbeaaPWeighNonex4
import Derived.Test.YtigpmhicdmjbeaaPWeighNonex5
import Derived.Test.YtigpmhicdmjbeaaPWeighNonex6
import Derived.Test.YtigpmhicdmjbeaaPWeighNonex7
import Derived.Test.YtigpmhicdmjbeaaPWeighNonex8
import Derived.Test.YtigpmhicdmjbeaaPWeighNonex9
import Derived.Test.YtigpmhicdmjbeaaPWeighNonex10
namespace Go.Proofs.Ytigpmhicdmjbeaa.PWeighNone
open Go.RowKit Go.Proofs.YtigpmhicdmjbeaaW.PrintWords Go.Proofs.YtigpmhicdmjbeaaW.PrintLast Go.Proofs.YtigpmhicdmjbeaaW.PrintMore
attribute [local go_sem] max2_int min2_int max_two min_two max_three min_three max_four min_four   -- for this text's walks alone
set_option linter.unusedVariables false
set_option linter.unusedSimpArgs false

end Go.Proofs.Ytigpmhicdmjbeaa.PWeighNone
