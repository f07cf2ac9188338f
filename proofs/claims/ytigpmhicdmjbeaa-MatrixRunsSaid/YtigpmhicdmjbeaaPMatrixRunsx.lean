/- What the functions that this law reaches answer, in whatever memory, and the row of the law; no condition. Written by a program of this session (mk.sh). -/
import Derived.Test.YtigpmhicdmjbeaaPMatrixRunsx0
import Derived.Test.YtigpmhicdmjbeaaPMatrixRunsx1
import Derived.Test.YtigpmhicdmjbeaaPMatrixRunsx2
import Derived.Test.YtigpmhicdmjbeaaPMatrixRunsx3
import Derived.Test.YtigpmhicdmjbeaaPMatrixRunsx4
import Derived.Test.YtigpmhicdmjbeaaPMatrixRunsx5
import Derived.Test.YtigpmhicdmjbeaaPMatrixRunsx6
import Derived.Test.YtigpmhicdmjbeaaPMatrixRunsx7
import Derived.Test.YtigpmhicdmjbeaaPMatrixRunsx8
import Derived.Test.YtigpmhicdmjbeaaPMatrixRunsx9
namespace Go.Proofs.Ytigpmhicdmjbeaa.PMatrixRuns
open Go.RowKit Go.Proofs.YtigpmhicdmjbeaaW.PrintWords Go.Proofs.YtigpmhicdmjbeaaW.PrintLast Go.Proofs.YtigpmhicdmjbeaaW.PrintMore
attribute [local go_sem] max2_int min2_int max_two min_two max_three min_three max_four min_four   -- for this text's walks alone
set_option linter.unusedVariables false
set_option linter.unusedSimpArgs false

end Go.Proofs.Ytigpmhicdmjbeaa.PMatrixRuns
