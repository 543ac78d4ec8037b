/- Worlds: an execution is run. -/
import Derived.Test.YtpobgmdalcpomaaGreatGTm2
import Derived.Test.YtpobgmdalcpomaaGreatGJoin
import Derived.Test.YtpobgmdalcpomaaGreatGEx18

set_option linter.unusedSimpArgs false
set_option linter.unusedVariables false
namespace Go.Ct
section
open Go Go.RowKit
theorem Rc.trans{i j:Nat}{t t1 t2:Tr}{s s1 s2:Mm}(h1:Rc i t s t1 s1)(h2:Rc j t1 s1 t2 s2):Rc (i+j) t s t2 s2:=by
 induction h2 with
 | refl t s=>exact h1
 | Td _ hs ih=>exact .Td (ih h1) hs
 | loud _ hs ih=>exact .loud (ih h1) hs
def Sz(x:XS)(B:Nat):Prop:=x.L.length<=B/\x.cs.length<=B/\x.gen<=B
theorem Hw{T R R':Tr}{x x':XS}{dn:Bool}{rs:Rs}{j N B:Nat}(h:n0 T x dn rs R)(hd:dn=false)(hT:cO T N 64)(hN:x.got.length+1<=N)(hr:Rc j R x.mm R' x'.mm)(hj:j<=1)(hs:Sz x B):Sz x' (B+128):=by
 rcases h.cg with⟨e,_⟩|⟨_,e⟩
 ·rw[hd] at e;cases e
 ·obtain⟨c,h1,_,_⟩:=h.wk.vM (Nat.le_refl 64) hT (by omega)
  obtain⟨c',h2,h3,h4,h5,h6,h7⟩:=hr.vM (Nat.le_refl 64) (Oa e h1 (by omega)) (by omega)
  obtain⟨s1,s2,s3⟩:=hs
  simp only[XS.mm,List.length_map] at h5 h6 h7
  exact⟨by omega,by omega,by omega⟩
theorem Qf{T R':Tr}{x x':XS}{j N B:Nat}(hT:cO T N 64)(hr:Rc j T x.mm R' x'.mm)(hj:j<=0)(hs:Sz x B):Sz x' (B+64):=by
 obtain⟨c',h2,h3,h4,h5,h6,h7⟩:=hr.vM (Nat.le_refl 64) hT (by omega)
 obtain⟨s1,s2,s3⟩:=hs
 simp only[XS.mm,List.length_map] at h5 h6 h7
 exact⟨by omega,by omega,by omega⟩
end
end Go.Ct
namespace Go.Proofs.YtpobgmdalcpomaaGreat
section
open Go Go.RowKit Go.Ct
noncomputable def T0 (k:Cl) (m:Nat):Tr:=lV k (lP k.key m) 1073741824
theorem vP(k:Cl)(m:Nat){n:Nat}(h:n<1073741824):cO (T0 k m) n 64:=Ub h
def xE(k:Cl)(bm b:Nat)(x:XS)(dn:Bool)(rs:Rs):List (Nat×Obj):=if dn=true then [] else [(b,xO k bm x false rs)]
def yb(x:XS)(dn:Bool):List Ow:=if dn=true then [] else [⟨x.pg,aJ x.got,x.kg,52,1⟩,⟨x.pm,aJ x.made,x.km,52,1⟩,⟨x.pl,aJ x.cel,x.kl,31,1⟩,⟨x.pe,aJ x.gns,x.ke,3,1⟩]
structure RY where
 i:Nat
 x:XS
 N:List aQ
 dn:Bool
 rs:Rs
 R:Tr
structure Jq(k:Cl)(m:Nat)(x0:XS)(B:Nat)(y:RY):Prop where
 ex:n0 (T0 k m) y.x y.dn y.rs y.R
 rc:∃j,Rc j (T0 k m) x0.mm y.R y.x.mm
 ext:y.x.L=x0.L++y.N
 lc:x0.cs.length<=y.x.cs.length
 gl:y.x.got.length<=y.i
 sz:Sz y.x (B+64+128*y.i)
theorem Jq.db{k:Cl}{m N:Nat}{x0 x':XS}{B:Nat}{N':List aQ}{dn:Bool}{rs:Rs}(hN:N<1073741824)(h:Aw (T0 k m) (T0 k m) 0 0 Rs.zero x0 x' N' dn rs)(hs:Sz x0 B):∃R,Jq k m x0 B ⟨0,x',N',dn,rs,R⟩:=by
 obtain⟨R',j,h1,h2,h3,h4,h5,h6⟩:=h.yl
 exact⟨R',h3,⟨j,h4⟩,h5,h6,by have:=h.gl;show x'.got.length<=0;omega,Qf (vP k m hN) h4 h1 hs⟩
theorem Jq.step{k:Cl}{m:Nat}{x0 x':XS}{B:Nat}{y:RY}{N':List aQ}{dn:Bool}{rs:Rs}(hi:Jq k m x0 B y)(hd:y.dn=false)(hB:y.i<1073741822)(h:Aw (T0 k m) y.R 1 (y.x.got.length+1) y.rs y.x x' N' dn rs):∃R,Jq k m x0 B ⟨y.i+1,x',y.N++N',dn,rs,R⟩:=by
 obtain⟨R',j,h1,h2,h3,h4,h5,h6⟩:=h.yl
 obtain⟨j0,hj0⟩:=hi.rc
 have hg:=hi.gl
 refine⟨R',h3,⟨j0+j,hj0.trans h4⟩,by show x'.L=_;rw[h5,hi.ext,List.append_assoc],Nat.le_trans hi.lc h6,by have:=h.gl;show x'.got.length<=y.i+1;omega,?_⟩
 have:=Hw hi.ex hd (vP k m (n:=y.x.got.length+1) (by omega)) (Nat.le_refl _) h4 h1 hi.sz
 rw[show B+64+128*(y.i+1)=B+64+128*y.i+128 by omega]
 exact this
section
variable{k:Cl}{bw bm m B:Nat}{L:List aQ}{cs:List Int}{gen acc:Int}{pn pc:Option Addr}{cn cc:Nat}{D:List Nat}{A:Fr}{w:World}{mask:Int}{ts:List iV}{es:List Nat}{pt pe:Option Addr}{kt ke:Nat}
theorem Xj(hsz:L.length<=137438953472/\cs.length<=137438953472/\gen<=137438953472)(hk:fp k)(hm:m<18446744073709551616)(em:k.mask=(m:Int))(ht:k.t.root<=9223372036854775807)(ha:k.a<=L.length)(hb:k.b<=L.length)(hnn:k.n<=L.length)(hA:∀f∈bG L,f∈A)(ok:(XS.new L cs gen acc pn cn pc cc).Ok)(hs:SF w D [(bm,mO L cs gen acc pn cn pc cc)] A [] [⟨pn,iD L,cn,59,14⟩,⟨pc,aJ cs,cc,52,1⟩] w):Calls Tryz.prog 50 #[.pointer (some ⟨bm,0,none⟩),.agg ⟨O0 k⟩] w λ e w'=>∃q:Nat×XS×List aQ×Bool×Rs,e=.returned (.pointer (some ⟨q.1,0,none⟩))/\Aw (T0 k m) (T0 k m) 0 0 Rs.zero (XS.new L cs gen acc pn cn pc cc) q.2.1 q.2.2.1 q.2.2.2.1 q.2.2.2.2/\SF w D ([(bm,xM q.2.1)]++[(q.1,xO k bm q.2.1 q.2.2.2.1 q.2.2.2.2)]) [] (bG q.2.2.1) ([⟨q.2.1.pn,iD q.2.1.L,q.2.1.cn,59,14⟩,⟨q.2.1.pc,aJ q.2.1.cs,q.2.1.cc,52,1⟩]++[⟨q.2.1.pg,aJ q.2.1.got,q.2.1.kg,52,1⟩,⟨q.2.1.pm,aJ q.2.1.made,q.2.1.km,52,1⟩,⟨q.2.1.pl,aJ q.2.1.cel,q.2.1.kl,31,1⟩,⟨q.2.1.pe,aJ q.2.1.gns,q.2.1.ke,3,1⟩]) w' :=
 (fm (N:=0) (n:=1073741824) (m:=m) (vP k m (by decide)) (by decide) hsz hk (Nat.le_refl _) hm em ht ha hb hnn hA ok hs).mono λ _ _ ⟨q,e,h,hw⟩=>⟨q,e,h,hw.perm (List.Perm.swap _ _ _) (List.perm_append_comm (l₁:=[_,_]) (l₂:=[_,_,_,_]))⟩
set_option maxHeartbeats 1000000 in
theorem pj(steps:Nat)(hst:steps<=1048576)(hB:B<=100000000000)(hsz:Sz (XS.new L cs gen acc pn cn pc cc) B)(hk:fp k)(hm:m<18446744073709551616)(em:k.mask=(m:Int))(ht:k.t.root<=9223372036854775807)(ha:k.a=0)(hb:k.b=0)(hnn:k.n=0)(hA:∀f∈bG L,f∈A)(ok:(XS.new L cs gen acc pn cn pc cc).Ok)(hts:ts.length<=1000)(hes:es.length<=1000)
  (hs:SF w D [(bw,nX bm mask pt ts.length kt pe es.length ke),(bm,mO L cs gen acc pn cn pc cc)] A [] [⟨pt,sU ts,kt,33,2⟩,⟨pe,yR es,ke,86,1⟩,⟨pn,iD L,cn,59,14⟩,⟨pc,aJ cs,cc,52,1⟩] w) :
  Calls Tryz.prog 31 #[.pointer (some ⟨bw,0,none⟩),.agg ⟨O0 k⟩,.int .i64 (steps:Int)] w λ e w'=>∃q:Nat×RY×KQ,e=.returned (.tuple #[])/\(Jq k m (XS.new L cs gen acc pn cn pc cc) B q.2.1/\q.2.1.i<=steps/\Qw q.2.1.dn q.2.1.rs q.1 ts es q.2.2) /\
   SF w D (xE k bm q.1 q.2.1.x q.2.1.dn q.2.1.rs++[(bw,nX bm mask q.2.2.pt q.2.2.ts.length q.2.2.kt q.2.2.pe q.2.2.es.length q.2.2.ke),(bm,xM q.2.1.x)]) [] (bG q.2.1.N) (yb q.2.1.x q.2.1.dn++[⟨q.2.2.pt,sU q.2.2.ts,q.2.2.kt,33,2⟩,⟨q.2.2.pe,yR q.2.2.es,q.2.2.ke,86,1⟩,⟨q.2.1.x.pn,iD q.2.1.x.L,q.2.1.x.cn,59,14⟩,⟨q.2.1.x.pc,aJ q.2.1.x.cs,q.2.1.x.cc,52,1⟩]) w':=by
 have hL:(0:Int)<=L.length:=bS _
 have hsz2:=hsz
 obtain⟨s1,s2,s3⟩:=hsz2
 simp only[XS.new] at s1 s2 s3
 refine enter Tryz.func31 Tryz.ntmps31 rfl rfl hs ?_
 simp only[dB]
 all_goals (refine J0 ?_;refine bM (λ x4=>?_);refine Iz ?_;refine eE [0,1,2,3,4,5,6] ?_;refine Pd ?_;refine bT ?_;((refine bA (i:=5) (hq:=(cMH (hs:=[(bm,mO L cs gen acc pn cn pc cc)]) (os:=[⟨pn,iD L,cn,59,14⟩,⟨pc,aJ cs,cc,52,1⟩]) (A0:=bG L) (hA:=dA.of λ f hf=>.inr (.inl (hA f hf))) (hc:=λ w hs=>Xj (m:=m) ⟨by omega,by omega,by omega⟩ hk hm em ht (by omega) (by omega) (by omega) (λ f hf=>hf) ok hs))) (h:=λ x13=>?_);try (refine aK (λ h13=>?_))));refine J7 ?_;refine aT ?_;refine Cq ?_)
 all_goals
 obtain⟨R0,hR0⟩:=Jq.db (B:=B) (N:=0) (by decide) h13 hsz
 refine lO [7,14,15,16,17,18,19,20,21,22,23,24,25] (λ y:RY=>[(7,.int .i64 ((y.i:Nat):Int))]) (λ y=>Jq k m (XS.new L cs gen acc pn cn pc cc) B y/\y.i<=steps) (λ y=>[(x13.1,xO k bm y.x y.dn y.rs),(x4,.cells ⟨O0 k⟩ 83 (0,0)),(bw,nX bm mask pt ts.length kt pe es.length ke),(bm,xM y.x)]) (λ y=>bG y.N) (λ y=>[⟨y.x.pg,aJ y.x.got,y.x.kg,52,1⟩,⟨y.x.pm,aJ y.x.made,y.x.km,52,1⟩,⟨y.x.pl,aJ y.x.cel,y.x.kl,31,1⟩,⟨y.x.pe,aJ y.x.gns,y.x.ke,3,1⟩,⟨pt,sU ts,kt,33,2⟩,⟨pe,yR es,ke,86,1⟩,⟨y.x.pn,iD y.x.L,y.x.cn,59,14⟩,⟨y.x.pc,aJ y.x.cs,y.x.cc,52,1⟩]) (λ y=>steps-y.i) (⟨0,x13.2.1,x13.2.2.1,x13.2.2.2.1,x13.2.2.2.2,R0⟩) (⟨hR0,Nat.zero_le _⟩) (λ y f hx=>?_) (hw0:=λ w hw=>by rw[List.append_nil] at hw;exact hw.back (hF:=by exact aW.all))
 dsimp only[gW,List.map,List.cons_append,List.nil_append]
 obtain⟨hi,his⟩:=hx
 have hsx:=hi.sz
 obtain⟨z1,z2,z3⟩:=hsx
 have hgl:=hi.gl
 all_goals (refine jS ?_;(refine aF (cM (hs:=xH k x13.1 bm y.x y.dn y.rs) (os:=xW y.x) (hc:=λ w hs=>Zb hs)) (λ x15=>?_);try (refine aB (λ h15=>?_)));refine As ?_)
 all_goals (first|refine aG ?_|(refine aC ?_;refine aA ?_)|(refine dG 17 (λ g17=>?_) (λ g17=>?_)<;>(first|refine aG ?_|(refine aC ?_;refine aA ?_))))
 all_goals ((first|refine aG ?_|(refine aC ?_;refine aA ?_));refine nh ?_;refine aN ?_)
 all_goals
  refine bF (λ c21=>?_) (λ c21=>?_)
  ·try exact nv c21
   all_goals (refine oD ?_;refine xU ?_;(refine aF (cM (hs:=xH k x13.1 bm y.x y.dn y.rs) (os:=xW y.x) (A0:=bG y.x.L) (hA:=dA.of λ f hf=>by rw[hi.ext,fC] at hf;rcases List.mem_append.1 hf with hf|hf;exact .inr (.inl (hA f hf));exact .inr (.inr (.inl hf))) (hc:=λ w hs=>X1 (N:=y.x.got.length+1) (n:=1073741824) (m:=m) (vP k m (by omega)) (by omega) (Nat.le_refl _) ⟨by omega,by omega,by omega⟩ hi.ex hk (Nat.le_refl _) hm em ht (by rw[ha];exact bS _) (by rw[hb];exact bS _) (by rw[hnn];exact bS _) (λ f hf=>hf) hs)) (λ x25=>?_);try (refine aB (λ h25=>?_)));refine aN ?_;refine eV ?_;refine uH ?_)
   all_goals
   have hdf:y.dn=false:=by simp_all
   have hq:Aw (T0 k m) y.R 1 (y.x.got.length+1) y.rs y.x x25.1 x25.2.1 x25.2.2.1 x25.2.2.2:=by rcases h25 with h|h;rw[hdf] at h;cases h.1;exact h.2
   obtain⟨R1,hR1⟩:=hi.step hdf (by omega) hq
   refine gY (⟨y.i+1,x25.1,y.N++x25.2.1,x25.2.2.1,x25.2.2.2,R1⟩) ?_ (hw1:=λ w hw=>hw.back (hF:=by rw[fC];exact aW.jM λ f hf=>(List.mem_append.1 hf).elim (λ h=>List.mem_append_right _ h) (λ h=>List.mem_append_left _ h)))
   ·exact⟨hR1,by show y.i+1<=steps;omega⟩
  ·try exact nv c21
   all_goals (refine bQ rfl ?_;refine Fk ?_;(refine aF (cM (hs:=[(bw,nX bm mask pt ts.length kt pe es.length ke),(x13.1,xO k bm y.x y.dn y.rs),(bm,xM y.x)]) (os:=[⟨pt,sU ts,kt,33,2⟩,⟨pe,yR es,ke,86,1⟩,⟨y.x.pg,aJ y.x.got,y.x.kg,52,1⟩,⟨y.x.pm,aJ y.x.made,y.x.km,52,1⟩,⟨y.x.pl,aJ y.x.cel,y.x.kl,31,1⟩,⟨y.x.pe,aJ y.x.gns,y.x.ke,3,1⟩,⟨y.x.pn,iD y.x.L,y.x.cn,59,14⟩,⟨y.x.pc,aJ y.x.cs,y.x.cc,52,1⟩]) (hc:=λ w hs=>jk hts hes hs)) (λ x28=>?_);try (refine aB (λ h28=>?_)));refine aN ?_)
   all_goals
   refine zG Tryz.results31 (λ w hw=>?_)
   rcases y with⟨i,x,N,dn,rs,R⟩
   cases dn with
   | true=>exact⟨(x13.1,⟨i,x,N,true,rs,R⟩,x28),rfl,⟨hi,his,h28⟩,hw.aV (hF:=by exact aW.all)⟩
   | false=>exact⟨(x13.1,⟨i,x,N,false,rs,R⟩,x28),rfl,⟨hi,his,h28⟩,hw.aV (hF:=by exact aW.all)⟩
end
end

/- Loads out of lists that are known. -/
end Go.Proofs.YtpobgmdalcpomaaGreat
namespace Go.Ct
section
open Go Go.RowKit
section
variable{P:Program}{S:List (Nat×Value)}{w0 w w':World}{M:List Nat}{H:List (Nat×Obj)}{A F:Fr}{O:List Ow}{d:Nat}{ty t:TypeId}{pos:String}{af:Array Edge}{gd:Option (Nat×Bool)}{x y:Operand}{v:Value}
theorem W2{a:Option Addr}{cs vs:List Value}{q k:Nat}(hx:ev S x=.pointer (some ⟨dJ a,eW a+q,none⟩))(ht:kL P t k=true)(hf:pP A F O a cs)(hv:(cs.drop q).take k=vs)(hl:vs.length=k) :
  aS P S (SF w0 M H A F O) ⟨some d,.load t x,ty,pos,af,gd⟩ (.agg ⟨vs⟩):=⟨λ w hw=>by
 have hcl:=hw.cl hf
 obtain⟨dd,hu,hm,hi⟩:=iO ht
 have hagg:(isAgg t).run P w=.ok true w:=by
  unfold isAgg
  rw[Sem.run_bind,run_underlying hu w]
  cases dd<;>simp_all
 have hc:(loadCells ⟨dJ a,eW a+q,none⟩ k).run P w=.ok ⟨vs⟩ w:=by
  have:=run_loadCells_list (P:=P) w ⟨dJ a,eW a+q,none⟩ vs (λ j z hz=>by
   subst hv
   have hj:=(List.getElem?_eq_some_iff.1 hz).1
   have h2:cs[q+j]?=some z:=by
    rw[List.getElem?_take_of_lt (by simp at hj;omega),List.getElem?_drop] at hz
    exact hz
   rw[Addr.add_lit,show eW a+q+j=eW a+(q+j) by omega]
   exact(hcl.at_ _ _ h2).2)
  rw[hl] at this
  simpa using this
 cases hq':P.info? t with
 | none=>rw[hq'] at hi;simp at hi
 | some i =>
  have hs:i.size=k:=by rw[hq'] at hi;simpa using hi
  simp[execOp,hx,Instr.loadAt,Instr.sureAddr,loadVar,hagg,Go.sizeOf,typeInfo,hq',hs,hc]⟩
end
end

/- Worlds: the call of an operation. -/
end Go.Ct
namespace Go.Proofs.YtpobgmdalcpomaaGreat
section
open Go Go.RowKit Go.Ct
theorem sk{ts:List iV}{j:Nat}(h:j<ts.length):((sU ts).drop (2*j)).take 2=[.int .i64 (ts.getD j ⟨0,false⟩).root,.bool (ts.getD j ⟨0,false⟩).ro]:=by
 induction ts generalizing j with
 | nil=>simp at h
 | cons t ts ih =>
  cases j with
  | zero=>simp[sU]
  | succ j =>
   have:=ih (j:=j) (by simpa using h)
   rw[show 2*(j+1)=2*j+1+1 by omega]
   simpa[sU] using this
section
variable{P:Program}{S:List (Nat×Value)}{d:Nat}{ty t t' e:TypeId}{pos:String}{af:Array Edge}{gd:Option (Nat×Bool)}{x y:Operand}{w0 w:World}{M:List Nat}{H:List (Nat×Obj)}{A F:Fr}{O:List Ow}{a:Option Addr}
theorem Jv{ts:List iV}{q:Nat}(hx:ev S x=.pointer (some ⟨dJ a,eW a+2*q,none⟩))(ht:kL P t 2=true)(hf:pP A F O a (sU ts))(hq:q<ts.length) :
  aS P S (SF w0 M H A F O) ⟨some d,.load t x,ty,pos,af,gd⟩ (.agg ⟨[.int .i64 (ts.getD q ⟨0,false⟩).root,.bool (ts.getD q ⟨0,false⟩).ro]⟩):=W2 hx ht hf (sk hq) rfl
end
structure Ey where
 key:ByteArray
 val:Int
 exp:Int
 Gz:Int
 only:Bool
 t:iV
 pos:Nat
def Ey.cl(q:Ey)(kind mask:Int):Cl:=⟨kind,q.t,0,0,0,0,0,mask,q.key,q.val,q.exp,q.Gz,q.only⟩
def yg(kind:Int):Prop:=kind=8∨kind=9∨kind=12∨kind=4
structure N9(kind:Int)(ts:List iV)(q:Ey):Prop where
 ky:q.key∈kW
 mem:q.t∈ts
 ro:yg kind->q.t.ro=false
theorem oR{v:Nat}(h:v<8):kW.getD v ⟨#[]⟩∈kW:=by
 have:v=0∨v=1∨v=2∨v=3∨v=4∨v=5∨v=6∨v=7:=by omega
 rcases this with rfl|rfl|rfl|rfl|rfl|rfl|rfl|rfl<;>simp[kW]
theorem vI{ts:List iV}{j:Nat}(h:j<ts.length):ts.getD j ⟨0,false⟩∈ts:=by
 rw[gdg,List.getElem?_eq_getElem h];exact List.getElem_mem h
section
variable{P:Program}{S:List (Nat×Value)}{G:World->Prop}{d:Nat}{ty t t':TypeId}{pos:String}{af:Array Edge}{gd:Option (Nat×Bool)}{x y:Operand}
theorem qb{a b:Nat}(hx:ev S x=.int .i64 ((a:Nat):Int))(hy:ev S y=.int .i64 ((b:Nat):Int))(h0:b≠0):aS P S G ⟨some d,.binOp .rem t x y t',ty,pos,af,gd⟩ (.int .i64 ((a%b:Nat):Int)):=by
 have:=Wu (P:=P) (G:=G) (d:=d) (ty:=ty) (pos:=pos) (af:=af) (gd:=gd) (t:=t) (t':=t') hx hy (by omega)
 rwa [Int.tmod_eq_emod_of_nonneg (by omega),<- Int.natCast_emod] at this
end
section
variable{bw bm tb:Nat}{D:List Nat}{A:Fr}{w:World}{mask:Int}{ts:List iV}{pt pe:Option Addr}{kt ke ne:Nat}{l:List Int}{a:Option Addr}{c p:Nat}
set_option maxRecDepth 100000 in
set_option maxHeartbeats 2000000 in
theorem jj(kind:Int)(hkd:7<=kind/\kind<=12)(hl:l.length<=17592186043904)(h0:0<ts.length)(hts:ts.length<=1000)(hr0:(ts.getD 0 ⟨0,false⟩).ro=false)
    (hs:SF w D [(tb,O5 a l c p),(bw,nX bm mask pt ts.length kt pe ne ke)] [(a,aJ l)] [] [⟨pt,sU ts,kt,33,2⟩] w) :
    Calls Tryz.prog 30 #[.pointer (some ⟨bw,0,none⟩),.int .i64 kind,.pointer (some ⟨tb,0,none⟩)] w λ e w'=>∃q:Ey,e=.returned (.agg ⟨O0 (q.cl kind mask)⟩)/\N9 kind ts q /\
      SF w D [(tb,O5 a l c q.pos),(bw,nX bm mask pt ts.length kt pe ne ke)] [] [] [⟨pt,sU ts,kt,33,2⟩] w':=by
  refine enter Tryz.func30 Tryz.ntmps30 rfl rfl hs ?_
  simp only[dB]
  all_goals (refine J0 ?_;refine aY (λ x6=>?_);refine Iz ?_)
  all_goals
   refine fH [7,12,13,14,15,16,17,18,19,20,21,22,23,24,25,26,27,28,29,30] (λ y:Nat×Ey=>[(7,.pointer (some ⟨y.1,0,none⟩))]) (λ y=>y.2.key∈kW) (λ y=>[(y.1,.cells ⟨O0 (y.2.cl kind mask)⟩ 83 (0,0)),(x6,.cells ⟨O0 ⟨0,⟨0,false⟩,0,0,0,0,0,0,⟨#[]⟩,0,0,0,false⟩⟩ 83 (0,0)),(tb,O5 a l c y.2.pos),(bw,nX bm mask pt ts.length kt pe ne ke)]) (λ _=>[]) (λ _=>[⟨pt,sU ts,kt,33,2⟩]) (by decide) (λ _=>by exact rfl) ?_ (λ y f hx=>?_)
   · refine gU (.one 0 [] (.one 1 [] (.one 2 [] (.one 3 [] (.one 4 [] (.one 5 [] (.one 7 [] (.one 10 [] (.one 13 [] (.one 15 [] (.two 6 [4] (.two 8 [4] (.one 9 [] (.two 11 [4] (.one 12 [] (.two 14 [4] (.two 16 [4] (.one 17 [] (.one 18 [] (.one 19 [4] (.one 20 [] .nil)))) 0 [] (.two 19 [4] (.one 16 [4] (.one 17 [] (.one 18 [] (.one 20 [] .nil)))) 0 [] .nil)) 0 [] (.two 19 [4] (.one 14 [4] (.one 16 [4] (.one 17 [] (.one 18 [] (.one 20 [] .nil))))) 0 [] .nil))) 0 [] (.two 19 [4] (.one 11 [4] (.one 12 [] (.one 14 [4] (.one 16 [4] (.one 17 [] (.one 18 [] (.one 20 [] .nil))))))) 0 [] .nil))) 0 [] (.two 19 [4] (.one 8 [4] (.one 9 [] (.one 11 [4] (.one 12 [] (.one 14 [4] (.one 16 [4] (.one 17 [] (.one 18 [] (.one 20 [] .nil))))))))) 0 [] .nil)) 0 [] (.two 19 [4] (.one 6 [4] (.one 8 [4] (.one 9 [] (.one 11 [4] (.one 12 [] (.one 14 [4] (.one 16 [4] (.one 17 [] (.one 18 [] (.one 20 [] .nil)))))))))) 0 [] .nil)))))))))))) ?_
     all_goals (refine Gg ?_;refine gD ?_;refine gD ?_;refine aL ?_)
     all_goals
      refine gS (E:=[6,19]) (by decide +kernel) ((.cons ?_ (.cons ?_ .nil)))
      · (refine mI (i:=6) (hq:=(xJ (hc:=λ w1 hw=>m7 (hw.tape cQ fin hl)))) (h:=λ x18=>?_);try (refine aK (λ h18=>?_)))
        all_goals
         refine gS (E:=[8,19]) (by decide +kernel) ((.cons ?_ (.cons ?_ .nil)))
         · (refine mI (i:=8) (hq:=(xJ (hc:=λ w1 hw=>fO 6 (hw.tape cQ fin hl) (by decide) (by decide)))) (h:=λ x20=>?_);try (refine aK (λ h20=>?_)))
           all_goals refine mU ?_
           all_goals
            refine gS (E:=[11,19]) (by decide +kernel) ((.cons ?_ (.cons ?_ .nil)))
            · (refine mI (i:=11) (hq:=(xJ (hc:=λ w1 hw=>fO 6 (hw.tape cQ fin hl) (by decide) (by decide)))) (h:=λ x23=>?_);try (refine aK (λ h23=>?_)))
              all_goals refine mU ?_
              all_goals
               refine gS (E:=[14,19]) (by decide +kernel) ((.cons ?_ (.cons ?_ .nil)))
               · (refine mI (i:=14) (hq:=(xJ (hc:=λ w1 hw=>fO 4 (hw.tape cQ fin hl) (by decide) (by decide)))) (h:=λ x26=>?_);try (refine aK (λ h26=>?_)))
                 all_goals
                  refine gS (E:=[16,19]) (by decide +kernel) ((.cons ?_ (.cons ?_ .nil)))
                  · (refine mI (i:=16) (hq:=(xJ (hc:=λ w1 hw=>fO 3 (hw.tape cQ fin hl) (by decide) (by decide)))) (h:=λ x28=>?_);try (refine aK (λ h28=>?_)))
                    all_goals (refine mD ?_;refine eT ?_;refine iM (h:=λ x7=>?_);refine wW ?_)
                    all_goals
                     refine fM ((x7,⟨kW.getD x18 ⟨#[]⟩,((x20:Nat):Int),((x23:Nat):Int),((x26:Nat):Int),((x28:Nat):Int)==0,⟨0,false⟩,nS l (nS l (nS l (nS l (nS l p))))⟩)) ?_
                     · exact oR h18.1
                  · refine iL (i:=19) (h:=λ x7=>?_)
                    all_goals (((refine bA (i:=16) (hq:=(xJ (hc:=λ w1 hw=>fO 3 (hw.tape cQ fin hl) (by decide) (by decide)))) (h:=λ x28=>?_);try (refine aK (λ h28=>?_))));refine mD ?_;refine eT ?_;refine wW ?_)
                    all_goals
                     refine fM ((x7,⟨kW.getD x18 ⟨#[]⟩,((x20:Nat):Int),((x23:Nat):Int),((x26:Nat):Int),((x28:Nat):Int)==0,⟨0,false⟩,nS l (nS l (nS l (nS l (nS l p))))⟩)) ?_
                     · exact oR h18.1
               · refine iL (i:=19) (h:=λ x7=>?_)
                 all_goals (((refine bA (i:=14) (hq:=(xJ (hc:=λ w1 hw=>fO 4 (hw.tape cQ fin hl) (by decide) (by decide)))) (h:=λ x26=>?_);try (refine aK (λ h26=>?_))));((refine bA (i:=16) (hq:=(xJ (hc:=λ w1 hw=>fO 3 (hw.tape cQ fin hl) (by decide) (by decide)))) (h:=λ x28=>?_);try (refine aK (λ h28=>?_))));refine mD ?_;refine eT ?_;refine wW ?_)
                 all_goals
                  refine fM ((x7,⟨kW.getD x18 ⟨#[]⟩,((x20:Nat):Int),((x23:Nat):Int),((x26:Nat):Int),((x28:Nat):Int)==0,⟨0,false⟩,nS l (nS l (nS l (nS l (nS l p))))⟩)) ?_
                  · exact oR h18.1
            · refine iL (i:=19) (h:=λ x7=>?_)
              all_goals (((refine bA (i:=11) (hq:=(xJ (hc:=λ w1 hw=>fO 6 (hw.tape cQ fin hl) (by decide) (by decide)))) (h:=λ x23=>?_);try (refine aK (λ h23=>?_))));refine mU ?_;((refine bA (i:=14) (hq:=(xJ (hc:=λ w1 hw=>fO 4 (hw.tape cQ fin hl) (by decide) (by decide)))) (h:=λ x26=>?_);try (refine aK (λ h26=>?_))));((refine bA (i:=16) (hq:=(xJ (hc:=λ w1 hw=>fO 3 (hw.tape cQ fin hl) (by decide) (by decide)))) (h:=λ x28=>?_);try (refine aK (λ h28=>?_))));refine mD ?_;refine eT ?_;refine wW ?_)
              all_goals
               refine fM ((x7,⟨kW.getD x18 ⟨#[]⟩,((x20:Nat):Int),((x23:Nat):Int),((x26:Nat):Int),((x28:Nat):Int)==0,⟨0,false⟩,nS l (nS l (nS l (nS l (nS l p))))⟩)) ?_
               · exact oR h18.1
         · refine iL (i:=19) (h:=λ x7=>?_)
           all_goals (((refine bA (i:=8) (hq:=(xJ (hc:=λ w1 hw=>fO 6 (hw.tape cQ fin hl) (by decide) (by decide)))) (h:=λ x20=>?_);try (refine aK (λ h20=>?_))));refine mU ?_;((refine bA (i:=11) (hq:=(xJ (hc:=λ w1 hw=>fO 6 (hw.tape cQ fin hl) (by decide) (by decide)))) (h:=λ x23=>?_);try (refine aK (λ h23=>?_))));refine mU ?_;((refine bA (i:=14) (hq:=(xJ (hc:=λ w1 hw=>fO 4 (hw.tape cQ fin hl) (by decide) (by decide)))) (h:=λ x26=>?_);try (refine aK (λ h26=>?_))));((refine bA (i:=16) (hq:=(xJ (hc:=λ w1 hw=>fO 3 (hw.tape cQ fin hl) (by decide) (by decide)))) (h:=λ x28=>?_);try (refine aK (λ h28=>?_))));refine mD ?_;refine eT ?_;refine wW ?_)
           all_goals
            refine fM ((x7,⟨kW.getD x18 ⟨#[]⟩,((x20:Nat):Int),((x23:Nat):Int),((x26:Nat):Int),((x28:Nat):Int)==0,⟨0,false⟩,nS l (nS l (nS l (nS l (nS l p))))⟩)) ?_
            · exact oR h18.1
      · refine iL (i:=19) (h:=λ x7=>?_)
        all_goals (((refine bA (i:=6) (hq:=(xJ (hc:=λ w1 hw=>m7 (hw.tape cQ fin hl)))) (h:=λ x18=>?_);try (refine aK (λ h18=>?_))));((refine bA (i:=8) (hq:=(xJ (hc:=λ w1 hw=>fO 6 (hw.tape cQ fin hl) (by decide) (by decide)))) (h:=λ x20=>?_);try (refine aK (λ h20=>?_))));refine mU ?_;((refine bA (i:=11) (hq:=(xJ (hc:=λ w1 hw=>fO 6 (hw.tape cQ fin hl) (by decide) (by decide)))) (h:=λ x23=>?_);try (refine aK (λ h23=>?_))));refine mU ?_;((refine bA (i:=14) (hq:=(xJ (hc:=λ w1 hw=>fO 4 (hw.tape cQ fin hl) (by decide) (by decide)))) (h:=λ x26=>?_);try (refine aK (λ h26=>?_))));((refine bA (i:=16) (hq:=(xJ (hc:=λ w1 hw=>fO 3 (hw.tape cQ fin hl) (by decide) (by decide)))) (h:=λ x28=>?_);try (refine aK (λ h28=>?_))));refine mD ?_;refine eT ?_;refine wW ?_)
        all_goals
         refine fM ((x7,⟨kW.getD x18 ⟨#[]⟩,((x20:Nat):Int),((x23:Nat):Int),((x26:Nat):Int),((x28:Nat):Int)==0,⟨0,false⟩,nS l (nS l (nS l (nS l (nS l p))))⟩)) ?_
         · exact oR h18.1
   dsimp only[gW,List.map,List.cons_append,List.nil_append]
   have hy:=hx
  all_goals (refine J2 ?_;refine kV ?_;refine aA ?_)
  all_goals (first|refine aG ?_|refine fE ?_|(refine aC ?_;refine aA ?_)|(refine dG 33 (λ g33=>?_) (λ g33=>?_)<;>(try (exfalso;omega))<;>(first|refine aG ?_|refine fE ?_|(refine aC ?_;refine aA ?_))))
  all_goals ((first|refine aG ?_|refine fE ?_|(refine aC ?_;refine kV ?_));refine cH ?_;refine J1 ?_;refine J2 ?_;refine kV ?_;refine aA ?_)
  all_goals (first|refine aG ?_|refine fE ?_|(refine aC ?_;refine aA ?_)|(refine dG 39 (λ g39=>?_) (λ g39=>?_)<;>(try (exfalso;omega))<;>(first|refine aG ?_|refine fE ?_|(refine aC ?_;refine aA ?_))))
  all_goals ((first|refine aG ?_|refine fE ?_|(refine aC ?_;refine kV ?_));refine cH ?_;refine aA ?_)
  all_goals (first|refine aG ?_|refine fE ?_|(refine aC ?_;refine aA ?_)|(refine dG 43 (λ g43=>?_) (λ g43=>?_)<;>(try (exfalso;omega))<;>(first|refine aG ?_|refine fE ?_|(refine aC ?_;refine aA ?_))))
  all_goals ((first|refine aG ?_|refine fE ?_|(refine aC ?_;refine kV ?_));refine cH ?_;refine aA ?_)
  all_goals (first|refine aG ?_|refine fE ?_|(refine aC ?_;refine aA ?_)|(refine dG 47 (λ g47=>?_) (λ g47=>?_)<;>(try (exfalso;omega))<;>(first|refine aG ?_|refine fE ?_|(refine aC ?_;refine aA ?_))))
  all_goals ((first|refine aG ?_|refine fE ?_|(refine aC ?_;refine kV ?_));refine cH ?_;refine yQ ?_;refine eF ?_;refine Gh ?_;(refine aF (xJ (hc:=λ w1 hw=>fO ts.length (hw.tape cQ fin hl) (by omega) (by omega))) (λ x57=>?_);try (refine aB (λ h57=>?_)));refine iI ?_;refine Cq ?_)
  all_goals
   refine lO [11,58,59,60,61,62,63,64,65,66,67,68,69,70,71,72,73,74,75,76,77,78,79,80,81,82,83,84,85,86,87,88,89,90,91,92,93,94,95,96,97,98,99,100] (λ z:Nat×iV=>[(11,.int .i64 ((z.1:Nat):Int))]) (λ z=>z.1<=ts.length) (λ z=>[(y.1,.cells ⟨O0 (({y.2 with t:=z.2}:Ey).cl kind mask)⟩ 83 (0,0)),(x6,.cells ⟨O0 ⟨0,⟨0,false⟩,0,0,0,0,0,0,⟨#[]⟩,0,0,0,false⟩⟩ 83 (0,0)),(tb,O5 a l c (nS l y.2.pos)),(bw,nX bm mask pt ts.length kt pe ne ke)]) (λ _=>_) (λ _=>_) (λ z=>ts.length-z.1) ((0,y.2.t)) (Nat.zero_le _) (λ z f hx=>?_)
   dsimp only[gW,List.map,List.cons_append,List.nil_append]
   all_goals (refine Cy ?_;refine eF ?_;refine Gh ?_;refine uQ ?_)
   all_goals
    refine bF (λ c64=>?_) (λ c64=>?_)
    · try exact nv c64
      all_goals try (exfalso;omega)
      all_goals (refine oD ?_;refine aT ?_;refine eE [0,1,2,3,4,5,6,7,8,9,10,11,12,13,14,15,16] ?_;refine Pd ?_;refine gD ?_;refine cI (i:=6) (hq:=(gO (m:=x57) (n:=z.1) rf rf (by omega))) (h:=?_);refine Pd ?_;refine jD ?_;refine cI (i:=12) (hq:=(qb (a:=x57+z.1) (b:=ts.length) rf rf (by omega))) (h:=?_);refine bP (i:=13) (hq:=(Ry (cs:=sU ts) (k:=(x57+z.1)%ts.length) rf rf fG dS fin (Nat.mod_lt _ h0) (by rw[mK];have:=Nat.mod_lt (x57+z.1) h0;omega))) (h:=?_);refine bP (i:=14) (hq:=(Jv (ts:=ts) (q:=(x57+z.1)%ts.length) rf dS fin (Nat.mod_lt _ h0))) (h:=?_);refine aX ?_;refine kR (i:=16) (hq:=(fQ λ _=>pX (off:=1) (vs:=[.int .i64 (ts.getD ((x57+z.1)%ts.length) ⟨0,false⟩).root,.bool (ts.getD ((x57+z.1)%ts.length) ⟨0,false⟩).ro]) rf cQ rf rfl dS (Nat.le_of_ble_eq_true rfl) rf fZ)) (h:=λ _=>?_);refine eO ?_;refine J0 ?_;refine aE ?_;refine J3 ?_;refine aA ?_)
      all_goals (first|refine aG ?_|refine fE ?_|(refine aC ?_;refine aA ?_)|(refine dG 86 (λ g86=>?_) (λ g86=>?_)<;>(try (exfalso;omega))<;>(first|refine aG ?_|refine fE ?_|(refine aC ?_;refine aA ?_))))
      all_goals ((first|refine aG ?_|refine fE ?_|(refine aC ?_;refine xL ?_));refine cH ?_;refine aA ?_)
      all_goals (first|refine aG ?_|refine fE ?_|(refine aC ?_;refine aE ?_)|(refine dG 90 (λ g90=>?_) (λ g90=>?_)<;>(try (exfalso;omega))<;>(first|refine aG ?_|refine fE ?_|(refine aC ?_;refine aE ?_))))
      all_goals ((first|refine aG ?_|refine fE ?_|(refine aC ?_;refine aE ?_));(first|refine aG ?_|refine fE ?_|(refine aC ?_;refine bJ ?_));(first|refine aG ?_|refine fE ?_|(refine aC ?_;refine xL ?_));(first|refine aG ?_|refine fE ?_|(refine aC ?_;refine aA ?_)))
      all_goals (first|refine aG ?_|refine fE ?_|(refine aC ?_;refine aA ?_)|(refine dG 95 (λ g95=>?_) (λ g95=>?_)<;>(try (exfalso;omega))<;>(first|refine aG ?_|refine fE ?_|(refine aC ?_;refine aA ?_))))
      all_goals ((first|refine aG ?_|refine fE ?_|(refine aC ?_;refine xL ?_));(first|refine aG ?_|refine fE ?_|(refine aC ?_;refine cH ?_));refine cH ?_;refine aN ?_)
      all_goals
       refine bF (λ c99=>?_) (λ c99=>?_)
       · try exact nv c99
         all_goals try (exfalso;omega)
         all_goals (refine iU ?_;refine J5 ?_)
         all_goals
          refine bH Tryz.results30 (λ w hw=>?_)
          exact⟨{y.2 with t:=ts.getD ((x57+z.1)%ts.length) ⟨0,false⟩,pos:=nS l y.2.pos},rfl,⟨hy,vI (Nat.mod_lt _ h0),λ hk=>by first|(simp_all;done)|(unfold yg at hk;exfalso;omega)⟩,hw.aV⟩
       · try exact nv c99
         all_goals try (exfalso;omega)
         all_goals (refine mN ?_;refine uH ?_)
         all_goals
          refine gY ((z.1+1,ts.getD ((x57+z.1)%ts.length) ⟨0,false⟩)) ?_
          · omega
    · try exact nv c64
      all_goals try (exfalso;omega)
      all_goals (refine bQ rfl ?_;refine kZ ?_;refine aH (Ry (cs:=sU ts) (k:=0) rf rf fG dS fin h0 (by rw[mK];omega)) rfl ?_;refine aH (Jv (ts:=ts) (q:=0) rf dS fin h0) rfl ?_;refine aE ?_;refine iS (fQ λ _=>pX (off:=1) (vs:=[.int .i64 (ts.getD 0 ⟨0,false⟩).root,.bool (ts.getD 0 ⟨0,false⟩).ro]) rf cQ rf rfl dS (Nat.le_of_ble_eq_true rfl) rf fZ) (λ _=>?_);refine aN ?_;refine iU ?_;refine J5 ?_)
      all_goals
       refine bH Tryz.results30 (λ w hw=>?_)
       exact⟨{y.2 with t:=ts.getD 0 ⟨0,false⟩,pos:=nS l y.2.pos},rfl,⟨hy,vI h0,λ _=>hr0⟩,hw.aV⟩
end
end

end Go.Proofs.YtpobgmdalcpomaaGreat
