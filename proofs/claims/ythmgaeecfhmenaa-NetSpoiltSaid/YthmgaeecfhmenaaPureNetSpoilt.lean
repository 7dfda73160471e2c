/- NetSpoilt, the plain law. No condition. -/
import Derived.Test.YthmgaeecfhmenaaSayNetSpoilt
namespace Go.Proofs.Ythmgaeecfhmenaa.NetSpoiltS
set_option linter.unusedVariables false
open Go.RowKit Go.Proofs.Ythmgaeecfhmenaa.Print Go.Proofs.Ythmgaeecfhmenaa.Opens Go.Proofs.Ythmgaeecfhmenaa.Crc Go.Proofs.Ythmgaeecfhmenaa.CrcPlain
open Go.Proofs.YthmgaeecfhmenaaW.PrintWords Go.Proofs.YthmgaeecfhmenaaW.PrintLast

theorem plain : Pure := by
  intro x g
  exact ⟨0, if_pos ⟨fun y hy => by_of (g.1.2 y hy).2.1, by_of g.2.2.2.1, wf_i64 g.2.1⟩⟩
end Go.Proofs.Ythmgaeecfhmenaa.NetSpoiltS
