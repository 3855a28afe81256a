/- RunGreat behind the number's rest, where the rest is 15: the kernel runs it to its end: true. -/
import Derived.Test.YtoldackcmifikaaGreatDoorGr0
namespace Go.Proofs.YtoldackcmifikaaGreatDoor
open Go Go.Eng
theorem tail15 : tailEnds 15 = true := by kernel_rfl
end Go.Proofs.YtoldackcmifikaaGreatDoor
