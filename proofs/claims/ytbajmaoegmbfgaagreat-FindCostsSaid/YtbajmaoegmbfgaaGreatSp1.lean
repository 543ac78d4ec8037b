/- Merged. -/
import Derived.Test.YtbajmaoegmbfgaaGreatGLst3
set_option linter.unusedSimpArgs false
set_option linter.unusedVariables false
namespace Go.Ct
open Go Go.RowKit
section
variable{P:Program}{n:Nat}{ds:List Deferred}{Q:Exit->Act->World->Prop}{ks:List CK}{S:List (Nat×Value)}{G:World->Prop}{ops:Array Oper}{l:List Oper}
variable{w0:World}{M:List Nat}{H:List (Nat×Obj)}{A F:Fr}{O:List Ow}
variable{d:Nat}{ty t:TypeId}{pos:String}{af:Array Edge}{gd:Option (Nat×Bool)}{dst:Option Nat}{x y:Operand}{v:Value}{w w':World}
theorem mE{b off i:Nat}{vs bR cs:List Value}{T:TypeId}{H':List (Nat×Obj)}(hx:ev S x=.pointer (some ⟨b,off,none⟩))(ha:At H i b (.cells ⟨bR⟩ T (0,0)))(hy:ev S y=.agg ⟨vs⟩)(h1:vs.all (·.oneCell')=true)
  (ht:jO P t vs.length=true) (hl:off+vs.length<=bR.length) (hcs:bR.take off++vs++bR.drop (off+vs.length)=cs) (hH:setAt H i (.cells ⟨cs⟩ T (0,0))=H') :
  bE P S (St w0 M H) ⟨none,.store t x y,ty,pos,af,gd⟩ Unit (λ _=>undef) (λ _=>St w0 M H') :=
 yN (λ w hw=>by
  subst hH hcs;have hb:=hw.at ha;obtain⟨dd,hu,hm,hi⟩:=iG ht;have hst:=run_storeCells_at (P:=P) b off T vs 0 ⟨bR⟩ w hb (by simpa using hl) (by simpa using h1);simp only[Nat.add_zero] at hst;refine⟨w.setRow b ⟨bR.take off++vs++bR.drop (off+vs.length)⟩,?_,hw.write ha rfl rfl rfl (by simp) (λ k hk=>setRow_other w b k _ hk) (setRow_heap w b ⟨bR⟩ _ T (0,0) hb)⟩;cases hq':P.info? t with
  | none=>rw[hq'] at hi;simp at hi
  | some inf=>
   have hs:inf.size=vs.length:=by rw[hq'] at hi;simpa using hi
   simp[execOp,hx,hy,Instr.storeAt,Instr.sureAddr,storeVar,sizeOf,typeInfo,hq',hs,Value.cells,hst])
end
end Go.Ct
