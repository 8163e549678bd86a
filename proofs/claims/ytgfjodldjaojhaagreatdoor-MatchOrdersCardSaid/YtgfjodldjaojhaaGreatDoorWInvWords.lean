
import Derived.Test.YtgfjodldjaojhaaGreatDoorWInv
import Derived.Test.YtgfjodldjaojhaaGreatDoorWFootNe
namespace Go.Proofs.YtgfjodldjaojhaaGreatDoorW.PrintWords
open Go.RowKit
end Go.Proofs.YtgfjodldjaojhaaGreatDoorW.PrintWords
namespace Go.Proofs.YtgfjodldjaojhaaGreatDoorW.PrintLast
section
variable {ops : Array Oper} {a : Act} {o og : Oper} {g : Nat} {t : Tmp} {u : Bool}
end
end Go.Proofs.YtgfjodldjaojhaaGreatDoorW.PrintLast

