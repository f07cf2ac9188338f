/- The law WholeEdges is proved: for every byte the call answers true; no condition. -/
import Derived.Test.YtmmnnjphfodpnaaM1
import Derived.Test.YtmmnnjphfodpnaaPWholeEdgesx2
import Derived.KernelRfl
namespace Go.Proofs.Ytmmnnjphfodpnaa.Pure
open Go.RowKit Go.Proofs.Ytmmnnjphfodpnaa.PWholeEdges Go.Proofs.YtmmnnjphfodpnaaW.PrintWords Go.Proofs.YtmmnnjphfodpnaaW.PrintLast Go.Proofs.YtmmnnjphfodpnaaW.PrintMore Go.Proofs.Ytmmnnjphfodpnaa.M
theorem all_edges : ∀ n : Fin 256, marblerunlaw01_WholeEdges.f 40 (n.val : Int) = some true := by decide +kernel
theorem WholeEdges : marblerunlaw01_WholeEdges.Pure := by
  intro a ha
  simp [Lit.wf, IntKind.min, IntKind.max, IntKind.bits, IntKind.signed] at ha
  obtain ⟨n, rfl⟩ := Int.eq_ofNat_of_zero_le ha.1
  exact ⟨40, all_edges ⟨n, by omega⟩⟩
end Go.Proofs.Ytmmnnjphfodpnaa.Pure
