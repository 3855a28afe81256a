/- RunGreat behind the number's rest, where the rest is 0: the kernel runs it to its end: true. -/
import Derived.Test.YtoldackcmifikaaGreatDoorGr0
namespace Go.Proofs.YtoldackcmifikaaGreatDoor
open Go Go.Eng
theorem tail0 : tailEnds 0 = true := by kernel_rfl
end Go.Proofs.YtoldackcmifikaaGreatDoor
