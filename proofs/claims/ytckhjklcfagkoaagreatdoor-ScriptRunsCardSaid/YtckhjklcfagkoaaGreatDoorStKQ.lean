/- Contracts of functions of this program, and the plain facts that they rest on. No conditions. -/
import Derived.Test.YtckhjklcfagkoaaGreatDoorStIQ
import Derived.Test.YtckhjklcfagkoaaGreatDoorJScRQ
namespace Go.Proofs.YtckhjklcfagkoaaGreatDoor
end Go.Proofs.YtckhjklcfagkoaaGreatDoor
