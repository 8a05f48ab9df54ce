/- The row's closed facts, joined. -/
import Derived.Test.YtibknkdgdfdkiaaGreatDoorRows
import Derived.JoinedOf
import Derived.KernelRfl
import Derived.Test.YtibknkdgdfdkiaaGreatDoorHubFormsK1
import Derived.Test.YtibknkdgdfdkiaaGreatDoorHubFormsK2
import Derived.Test.YtibknkdgdfdkiaaGreatDoorHubFormsK3
import Derived.Test.YtibknkdgdfdkiaaGreatDoorHubFormsK4
import Derived.Test.YtibknkdgdfdkiaaGreatDoorHubFormsK5
namespace Go.Proofs.YtibknkdgdfdkiaaGreatDoor.hubForms
open Go

set_option maxRecDepth 100000 in
theorem closed : joinedFacts Tryz.prog 4 Tryz.f4 Rows.hubFormsSpec Rows.hubFormsRow = true := by
  simp only [joinedFacts, Bool.and_eq_true]
  exact ⟨⟨⟨⟨⟨⟨⟨⟨⟨⟨⟨⟨⟨⟨⟨⟨⟨⟨⟨⟨⟨⟨⟨⟨⟨⟨⟨⟨⟨⟨⟨k1, k2⟩, k3⟩, k4⟩, k5⟩, k6⟩, k7⟩, k8⟩, k9⟩, k10⟩, k11⟩, k12⟩, k13⟩, k14⟩, k15⟩, k16⟩, k17⟩, k18⟩, k19⟩, k20⟩, k21⟩, k22⟩, k23⟩, k24⟩, k25⟩, k26⟩, k27⟩, k28⟩, k29⟩, k30⟩, k31⟩, k32⟩
end Go.Proofs.YtibknkdgdfdkiaaGreatDoor.hubForms
