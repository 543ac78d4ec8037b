/- Lists of states. -/
import Derived.Test.YtadnboagdhcedaaGreatDoorGBits
import Derived.Test.YtadnboagdhcedaaGreatDoorGOpen

set_option linter.unusedSimpArgs false
set_option linter.unusedVariables false
namespace Go.Ct
section
open Go Go.RowKit
section
variable{w0 w w':World}{M:List Nat}{H:List (Nat×Obj)}{A F:Fr}{O:List Ow}
variable{P:Program}{S:List (Nat×Value)}{G:World->Prop}{d:Nat}{ty:TypeId}{pos:String}{af:Array Edge}{gd:Option (Nat×Bool)}{x y:Operand}{t t2 e:TypeId}{p a:Option Addr}{i m k c c2 sz:Nat}
variable{α:Type}{g:α->List Value}{z:α}
end
end
end Go.Ct
namespace Go.Proofs.YtadnboagdhcedaaGreatDoor
section
open Go.RowKit Go.Ct
end

/- The arguments are opened: states. -/
section
open Go.RowKit Go.Ct Go.ChangeShapes Go.WideShapes
section
variable{H:Type}{enc:TypeId×Value->H}{W:World}{cs:List Value}{d:DataW H}{v:Value}
instance:Inhabited aK:=⟨aK.zero⟩
set_option maxRecDepth 100000
end
end

end Go.Proofs.YtadnboagdhcedaaGreatDoor
