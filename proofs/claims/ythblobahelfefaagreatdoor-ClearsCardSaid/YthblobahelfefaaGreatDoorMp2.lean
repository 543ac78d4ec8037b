/- Merged. -/
import Derived.Test.YthblobahelfefaaGreatDoorMp1
set_option linter.unusedSimpArgs false
set_option linter.unusedVariables false
namespace Go.Ct
open Go Go.RowKit
section
variable{P:Program}{S:List (Nat×Value)}{G:World->Prop}{d:Nat}{ty t t' K E:TypeId}{pos:String}{af:Array Edge}{gd:Option (Nat×Bool)}{x y:Operand}{q:Option Nat}
theorem No(w:World)(ht:P.underlying t=some (.map K E)):(binOp .eql t (.map q) (.map none)).run P w=.ok (.bool q.isNone) w:=by
 have h:∀dd,(Op.equalIn (dd+1) t (.map q) (.map none)).run P w=.ok q.isNone w:=λ dd=>by cases q<;>simp[Op.equalIn,run_underlying ht]
 simp only[binOp];simp[show Op.equal t (.map q) (.map none)=Op.equalIn (9999+1) t (.map q) (.map none) from rfl,h 9999]
theorem Fg(hx:ev S x=.map q)(hy:ev S y=.map none)(ht:P.underlying t=some (.map K E)):aH P S G ⟨some d,.binOp .eql t x y t',ty,pos,af,gd⟩ (.bool q.isNone):=⟨λ w _=>by have:=No (P:=P) (q:=q) w ht;simp[execOp,hx,hy,this,eqGuard]⟩
end
end Go.Ct
