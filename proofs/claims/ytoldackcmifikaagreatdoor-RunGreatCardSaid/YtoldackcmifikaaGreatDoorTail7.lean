/- RunGreat behind the number's rest, where the rest is 7: the kernel runs it to its end: true. -/
import Derived.Test.YtoldackcmifikaaGreatDoorGr0
namespace Go.Proofs.YtoldackcmifikaaGreatDoor
open Go Go.Eng
theorem tail7 : tailEnds 7 = true := by kernel_rfl
end Go.Proofs.YtoldackcmifikaaGreatDoor
