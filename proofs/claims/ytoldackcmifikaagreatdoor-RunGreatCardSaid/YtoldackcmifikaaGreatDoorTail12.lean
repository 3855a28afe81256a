/- RunGreat behind the number's rest, where the rest is 12: the kernel runs it to its end: true. -/
import Derived.Test.YtoldackcmifikaaGreatDoorGr0
namespace Go.Proofs.YtoldackcmifikaaGreatDoor
open Go Go.Eng
theorem tail12 : tailEnds 12 = true := by kernel_rfl
end Go.Proofs.YtoldackcmifikaaGreatDoor
