/- RunGreat behind the number's rest, where the rest is 14: the kernel runs it to its end: true. -/
import Derived.Test.YtoldackcmifikaaGreatDoorGr0
namespace Go.Proofs.YtoldackcmifikaaGreatDoor
open Go Go.Eng
theorem tail14 : tailEnds 14 = true := by kernel_rfl
end Go.Proofs.YtoldackcmifikaaGreatDoor
