/- Merged. -/
import Derived.Test.YtdeecdfockjoiaaGreatDoorGFz
set_option linter.unusedSimpArgs false
set_option linter.unusedVariables false
namespace Go.Ct
open Go Go.RowKit
section
variable{P:Program}{S:List (Nat×Value)}{G:World->Prop}{d:Nat}{ty t e:TypeId}{pos:String}{af:Array Edge}{gd:Option (Nat×Bool)}{x y:Operand}{w0:World}{M:List Nat}{H:List (Nat×Obj)}{A F:Fr}{O:List Ow}{a:Option Addr}
theorem dH{n k b o:Nat}{kk:IntKind}(hx:ev S x=.pointer (some ⟨b,o,none⟩))(hy:ev S y=.int kk ((k:Nat):Int))(ht:P.underlying t=some (.array n e))(hs:one P e=true)(h1:k<n) :
  aN P S G ⟨some d,.indexAddr t x y,ty,pos,af,gd⟩ (.pointer (some ⟨b,o+k,none⟩)):=⟨λ w _=>by
 have he:P.elem t=e:=by simp[Program.elem,ht]
 have hn:P.arrayLen t=n:=by simp[Program.arrayLen,ht]
 have key:(Instr.indexAt t (.pointer (some ⟨b,o,none⟩)) (.int kk ((k:Nat):Int))).run P w=.ok (.pointer (some ⟨b,o+k,none⟩)) w:=by
  rw[run_indexAt_array w t ⟨b,o,none⟩ kk (k:Int) (by rw[he,hn];exact ht),hn,if_pos ⟨by omega,by omega⟩,he];have hsz:(P.info? e).map (·.size)=some 1:=by
   unfold one at hs;cases hi:P.info? e with
   | none=>simp[hi] at hs
   | some i=>
    cases hu:P.underlying e with
    | none=>simp[hi,hu] at hs
    | some dd=>simp only[hi,hu,Bool.and_eq_true,beq_iff_eq] at hs;simp[hs.1]
  cases hi:P.info? e with
  | none=>rw[hi] at hsz;simp at hsz
  | some info=>rw[hi] at hsz;simp only[Option.map_some,Option.some.injEq] at hsz;simp[Go.sizeOf,typeInfo,hi,hsz,Addr.add_lit]
 simp[execOp,hx,hy,key]⟩
end
end Go.Ct
