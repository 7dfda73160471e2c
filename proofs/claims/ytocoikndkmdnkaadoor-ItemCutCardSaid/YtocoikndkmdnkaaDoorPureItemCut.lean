/- ItemCut, the plain law. No condition. -/
import Derived.Test.YtocoikndkmdnkaaDoorSayItemCut
namespace Go.Proofs.YtocoikndkmdnkaaDoor.ItemCutS
set_option linter.unusedVariables false
open Go.RowKit Go.Proofs.YtocoikndkmdnkaaDoor.Print Go.Proofs.YtocoikndkmdnkaaDoor.Opens Go.Proofs.YtocoikndkmdnkaaDoor.NumPlain
open Go.Proofs.YtocoikndkmdnkaaDoorW.PrintWords Go.Proofs.YtocoikndkmdnkaaDoorW.PrintLast

theorem plain : Pure := by
  intro x cut more g hc hm
  obtain ⟨k, s, e, i, t, c, L, bo⟩ := x
  obtain ⟨hk, _, _, _, _, _, _, hbo⟩ := g
  have hbo := by_of hbo.2
  have h1 : 0 ≤ cut ∧ cut ≤ 65535 := by
    have := hc
    simp [Lit.wf, show IntKind.u16.min = 0 from rfl, show IntKind.u16.max = 65535 from rfl] at this
    omega
  have h2 : 0 ≤ more ∧ more ≤ 255 := by_of (l := [more]) (fun y hy => by rw [List.mem_singleton.1 hy]; exact hm) more (List.mem_singleton.2 rfl)
  exact ⟨0, if_pos ⟨hk, h1, h2, hbo⟩⟩
end Go.Proofs.YtocoikndkmdnkaaDoor.ItemCutS
