/- What the functions that this law reaches answer, in whatever memory, and the row of the law; no condition. Written by a program of this session (mk.sh). -/
import Derived.Test.YtigpmhicdmjbeaaPWeighStaysx0
import Derived.Test.YtigpmhicdmjbeaaPWeighStaysx1
import Derived.Test.YtigpmhicdmjbeaaPWeighStaysx2
import Derived.Test.YtigpmhicdmjbeaaPWeighStaysx3
import Derived.Test.YtigpmhicdmjbeaaPWeighStaysx4
import Derived.Test.YtigpmhicdmjbeaaPWeighStaysx5
import Derived.Test.YtigpmhicdmjbeaaPWeighStaysx6
import Derived.Test.YtigpmhicdmjbeaaPWeighStaysx7
import Derived.Test.YtigpmhicdmjbeaaPWeighStaysx8
import Derived.Test.YtigpmhicdmjbeaaPWeighStaysx9
import Derived.Test.YtigpmhicdmjbeaaPWeighStaysx10
import Derived.Test.YtigpmhicdmjbeaaPWeighStaysx11
import Derived.Test.YtigpmhicdmjbeaaPWeighStaysx12
import Derived.Test.YtigpmhicdmjbeaaPWeighStaysx13
import Derived.Test.YtigpmhicdmjbeaaPWeighStaysx14
namespace Go.Proofs.Ytigpmhicdmjbeaa.PWeighStays
open Go.RowKit Go.Proofs.YtigpmhicdmjbeaaW.PrintWords Go.Proofs.YtigpmhicdmjbeaaW.PrintLast Go.Proofs.YtigpmhicdmjbeaaW.PrintMore
attribute [local go_sem] max2_int min2_int max_two min_two max_three min_three max_four min_four   -- for this text's walks alone
set_option linter.unusedVariables false
set_option linter.unusedSimpArgs false

end Go.Proofs.Ytigpmhicdmjbeaa.PWeighStays
