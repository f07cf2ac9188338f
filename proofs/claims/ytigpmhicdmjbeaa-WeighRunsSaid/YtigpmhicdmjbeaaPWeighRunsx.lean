/- What the functions that this law reaches answer, in whatever memory, and the row of the law; no condition. Written by a program of this session (mk.sh). -/
import Derived.Test.YtigpmhicdmjbeaaPWeighRunsx0
import Derived.Test.YtigpmhicdmjbeaaPWeighRunsx1
import Derived.Test.YtigpmhicdmjbeaaPWeighRunsx2
import Derived.Test.YtigpmhicdmjbeaaPWeighRunsx3
import Derived.Test.YtigpmhicdmjbeaaPWeighRunsx4
import Derived.Test.YtigpmhicdmjbeaaPWeighRunsx5
import Derived.Test.YtigpmhicdmjbeaaPWeighRunsx6
import Derived.Test.YtigpmhicdmjbeaaPWeighRunsx7
import Derived.Test.YtigpmhicdmjbeaaPWeighRunsx8
import Derived.Test.YtigpmhicdmjbeaaPWeighRunsx9
import Derived.Test.YtigpmhicdmjbeaaPWeighRunsx10
namespace Go.Proofs.Ytigpmhicdmjbeaa.PWeighRuns
open Go.RowKit Go.Proofs.YtigpmhicdmjbeaaW.PrintWords Go.Proofs.YtigpmhicdmjbeaaW.PrintLast Go.Proofs.YtigpmhicdmjbeaaW.PrintMore
attribute [local go_sem] max2_int min2_int max_two min_two max_three min_three max_four min_four   -- for this text's walks alone
set_option linter.unusedVariables false
set_option linter.unusedSimpArgs false

end Go.Proofs.Ytigpmhicdmjbeaa.PWeighRuns
