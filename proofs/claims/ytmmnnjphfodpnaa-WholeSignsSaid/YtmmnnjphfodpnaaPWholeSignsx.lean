/- What the functions that this law reaches answer, in whatever memory, and the row of the law; no condition. Written by a program of this session (mk.sh). -/
import Derived.Test.YtmmnnjphfodpnaaPWholeSignsx0
import Derived.Test.YtmmnnjphfodpnaaPWholeSignsx1
import Derived.Test.YtmmnnjphfodpnaaPWholeSignsx2
namespace Go.Proofs.Ytmmnnjphfodpnaa.PWholeSigns
open Go.RowKit Go.Proofs.YtmmnnjphfodpnaaW.PrintWords Go.Proofs.YtmmnnjphfodpnaaW.PrintLast Go.Proofs.YtmmnnjphfodpnaaW.PrintMore
attribute [local go_sem] max2_int min2_int max_two min_two max_three min_three max_four min_four   -- for this text's walks alone
set_option linter.unusedVariables false
set_option linter.unusedSimpArgs false

end Go.Proofs.Ytmmnnjphfodpnaa.PWholeSigns
