/- Worlds: lists of tries and of executions; the smallest functions. -/
import Derived.Test.YtbajmaoegmbfgaaGreatGEx24
import Derived.Test.YtbajmaoegmbfgaaGreatGAr8
import Derived.Test.YtbajmaoegmbfgaaGreatGFd2
import Derived.Test.YtbajmaoegmbfgaaGreatGKw5

set_option linter.unusedSimpArgs false
set_option linter.unusedVariables false
namespace Go.Ct
section
open Go Go.RowKit
section
variable{P:Program}{S:List (Nat×Value)}{d:Nat}{ty t t' e:TypeId}{pos:String}{af:Array Edge}{gd:Option (Nat×Bool)}{x y:Operand}{w0 w:World}{M:List Nat}{H:List (Nat×Obj)}{A F:Fr}{O:List Ow}{a:Option Addr}
theorem wa{cs:List Value}{kk:IntKind}{m c k:Nat}(hx:ev S x=.slice a m c)(hy:ev S y=.int kk ((k:Nat):Int))(ht:P.underlying t=some (.slice e))(hs:one P e=true)(hf:qZ A F O a cs)(h1:k<m)(h2:k<cs.length) :
  aL P S (SF w0 M H A F O) ⟨some d,.indexAddr t x y,ty,pos,af,gd⟩ (.pointer (some ⟨dC a,eH a+k,none⟩)):=⟨λ w hw =>
 (Au (G:=SF w0 M H A F O) hx hy ht hs ((hw.cl hf).ptr (by omega)) h1).run w hw⟩
theorem Hz{cs:List Value}{q:Nat}{v:Value}(hx:ev S x=.pointer (some ⟨dC a,eH a+q,none⟩))(ht:one P t=true)(hf:qZ A F O a cs)(hq:cs[q]?=some v) :
  aL P S (SF w0 M H A F O) ⟨some d,.load t x,ty,pos,af,gd⟩ v:=qT hx ht (λ w hw=>hw.cl hf) hq
theorem A2{cs:List Value}{kk:IntKind}{m c k:Nat}(hx:ev S x=.slice a m c)(hy:ev S y=.int kk ((k:Nat):Int))(ht:P.underlying t=some (.slice e))(hs:jQ P e 2=true)(hf:qZ A F O a cs)(h1:k<m)(h2:2*k<cs.length) :
  aL P S (SF w0 M H A F O) ⟨some d,.indexAddr t x y,ty,pos,af,gd⟩ (.pointer (some ⟨dC a,eH a+2*k,none⟩)):=⟨λ w hw =>
 (O5 (G:=SF w0 M H A F O) hx hy ht hs ((hw.cl hf).ptr (by omega)) h1).run w hw⟩
end
end
end Go.Ct
namespace Go.Proofs.YtbajmaoegmbfgaaGreat
section
open Go Go.RowKit Go.Ct
def rV(ts:List fL):List Value:=ts.flatMap λ t=>[.int .i64 t.root,.bool t.ro]
def Bk(es:List Nat):List Value:=es.map λ b=>.pointer (some ⟨b,0,none⟩)
theorem sB:∀ts:List fL,(rV ts).length=ts.length*2
 | []=>rfl
 | t::ts=>by
  have:=sB ts
  simp only[rV,List.flatMap_cons,List.length_append,List.length_cons,List.length_nil] at this ⊢
  omega
theorem jd(ts:List fL)(t:fL):rV (ts++[t])=rV ts++[.int .i64 t.root,.bool t.ro]:=by simp[rV]
theorem Zw(es:List Nat)(b:Nat):Bk (es++[b])=Bk es++[.pointer (some ⟨b,0,none⟩)]:=by simp[Bk]
theorem G4(es:List Nat):(Bk es).length=es.length:=by simp[Bk]
theorem Ho:dM Tryz.prog 32 29 [.int .i64 0,.bool false]:=lZ (z:=.agg ⟨[.int .i64 0,.bool false]⟩) (by kernel_rfl) (by kernel_rfl) rfl
theorem Qa:dM Tryz.prog 33 74 [.pointer none]:=lZ (z:=.pointer none) (by kernel_rfl) (by kernel_rfl) rfl
theorem ru:dM Tryz.prog 169 31 [.int .u64 0]:=lZ (z:=.int .u64 0) (by kernel_rfl) (by kernel_rfl) rfl
abbrev mE(bm:Nat)(mask:Int)(pt:Option Addr)(nt kt:Nat)(pe:Option Addr)(ne ke:Nat):Obj:=.cells ⟨[.pointer (some ⟨bm,0,none⟩),.int .u64 mask,.slice pt nt kt,.slice pe ne ke]⟩ 35 (0,0)
def zW:List Int:=[18446744073709551615,0,1,64,63,4095,9223372036854775808,4032,3458764513820540928,18446744073709551615]
theorem xx{l:List Int}{a:Option Addr}{b c k:Nat}{w:World}(ht:si w b a l c k) :
  Calls Tryz.prog 65 #[.pointer (some ⟨b,0,none⟩)] w λ e w' =>
  ∃v:Nat,e=.returned (.int .u64 (zW.getD v 0))/\v<10/\SF w [b] ((b,Bh a l c (lQ l k))::[]) [] [] [] w':=by
 refine enter Tryz.func65 Tryz.ntmps65 rfl rfl ht.start ?_
 simp only[bY]
 refine cR ?_;refine J0 ?_;refine aR ((by exact I0 (λ _=>cP (cs:=zW.map (Value.int .u64)) ru Ix rfl rfl rfl rfl rfl))) (λ x3=>?_);refine aA ?_;refine aC (xK (hc:=λ w1 hw=>eT 10 (hw.tape cL fin ht.len) (by decide) (by decide))) (λ x5 h5=>?_);refine aB (wa (cs:=zW.map (Value.int .u64)) rf rf hX iA fin (by omega) (by rw[List.length_map];simp only[zW,List.length_cons,List.length_nil];omega)) rfl ?_;refine aB (Hz (cs:=zW.map (Value.int .u64)) (v:=.int .u64 (zW.getD x5 0)) rf iA fin (by rw[List.getElem?_map,kQ,List.getElem?_eq_getElem (by simp only[zW,List.length_cons,List.length_nil];omega)];rfl)) rfl ?_;refine J1 ?_
 refine aT Tryz.results65 (λ w hw=>?_)
 exact⟨x5,rfl,by omega,hw.aU⟩
theorem fo{l:List Int}{a:Option Addr}{b c k:Nat}{w:World}(ht:si w b a l c k) :
  Calls Tryz.prog 53 #[.pointer (some ⟨b,0,none⟩)] w λ e w' =>
  ∃v:Bool,e=.returned (.bool v)/\True/\SF w [b] ((b,Bh a l c k)::[]) [] [] [] w':=by
 refine enter Tryz.func53 Tryz.ntmps53 rfl rfl ht.start ?_
 simp only[bY]
 refine Is ?_;refine gJ [0,1,2,3,4,5,6,7,8,9,10] ?_;refine D2 ?_;refine pV ?_;refine zU ?_;refine J7 ?_
 refine aT Tryz.results53 (λ w hw=>?_)
 exact⟨_,rfl,trivial,hw.aU⟩
end

/- Worlds: Create, keep. -/
section
open Go Go.RowKit Go.Ct
structure KQ where
 ts:List fL
 es:List Nat
 pt:Option Addr
 kt:Nat
 pe:Option Addr
 ke:Nat
def Rk(dn:Bool)(rs:Rs)(bx:Nat)(ts:List fL)(es:List Nat)(q:KQ):Prop :=
 (dn=false/\q.es=es++[bx]/\q.ts=ts)∨(dn=true/\q.es=es/\(q.ts=ts∨(0<rs.root/\q.ts.length<=5/\q.ts=ts++[⟨rs.root,rs.ro⟩])))
section
variable{k:Cl}{bw bx bm:Nat}{x:XS}{dn:Bool}{rs:Rs}{D:List Nat}{A:Fr}{w:World}{mask:Int}{ts:List fL}{es:List Nat}{pt pe:Option Addr}{kt ke:Nat}
abbrev wL(ts:List fL)(es:List Nat)(pt:Option Addr)(kt:Nat)(pe:Option Addr)(ke:Nat):List Ow:=[⟨pt,rV ts,kt,29,2⟩,⟨pe,Bk es,ke,74,1⟩]
theorem aBG(h:SF w D ((bw,mE bm mask pt ts.length kt pe es.length ke)::xH k bx bm x dn rs) A [] (wL ts es pt kt pe ke++xW x) w) :
  SF w D [(bw,.cells ⟨[.pointer (some ⟨bm,0,none⟩),.int .u64 mask,.slice pt ts.length kt,.slice pe es.length ke]⟩ 35 (0,0)),(bx,xO k bm x dn rs),(bm,xM x)] A [] [⟨pt,rV ts,kt,29,2⟩,⟨pe,Bk es,ke,74,1⟩,⟨x.pg,aG x.got,x.kg,37,1⟩,⟨x.pm,aG x.made,x.km,37,1⟩,⟨x.pl,aG x.cel,x.kl,27,1⟩,⟨x.pe,aG x.gns,x.ke,3,1⟩,⟨x.pn,gN x.L,x.cn,47,14⟩,⟨x.pc,aG x.cs,x.cc,37,1⟩] w:=h
theorem zw(hts:ts.length<=1000)(hes:es.length<=1000)(hs:SF w D ((bw,mE bm mask pt ts.length kt pe es.length ke)::xH k bx bm x dn rs) A [] (wL ts es pt kt pe ke++xW x) w):Calls Tryz.prog 115 #[.pointer (some ⟨bw,0,none⟩),.pointer (some ⟨bx,0,none⟩)] w λ e w'=>∃q:KQ,e=.returned (.tuple #[])/\Rk dn rs bx ts es q/\SF w D ((bw,mE bm mask q.pt q.ts.length q.kt q.pe q.es.length q.ke)::xH k bx bm x dn rs) [] [] (wL q.ts q.es q.pt q.kt q.pe q.ke++xW x) w':=by
 refine enter Tryz.func115 Tryz.ntmps115 rfl rfl (aBG hs) ?_
 simp only[bY]
 refine J2 ?_;refine aC (cM (hs:=xH k bx bm x dn rs) (os:=xW x) (hc:=λ w hs=>Cg hs)) (λ x6 h6=>?_);refine oX ?_
 refine bE (λ c7=>?_) (λ c7=>?_)
 ·refine Me ?_;refine dF ?_;refine J3 ?_;refine aA ?_;refine aR ((by exact I0 (λ _=>cP (cs:=Bk [bx]) Qa Ix rfl rfl rfl rfl rfl))) (λ x14=>?_);(refine aR (bF.eK (fJ (sz:=1) (cs:=Bk es) rf rf (.tail .head) (by rw[G4];omega) fin rfl rfl Qa rfl (by decide) hX (by omega)) uO) (λ x15=>?_);try (refine eZ (λ h15=>?_)));refine O7 ?_
  refine D9 Tryz.results115 (λ w hw=>?_)
  first
  | exact⟨⟨ts,es++[bx],pt,kt,x15.1,x15.2⟩,rfl,.inl ⟨by simpa using c7,rfl,rfl⟩,by dsimp only[wL];rw[Zw,show(es++[bx]).length=es.length+1 by simp];exact hw.aU⟩
  | exact⟨⟨ts,es,pt,kt,pe,ke⟩,rfl,.inr ⟨by simpa using c7,rfl,.inl rfl⟩,hw.aU⟩
 ·refine J2 ?_;refine aC (cM (hs:=xH k bx bm x dn rs) (os:=xW x) (hc:=λ w hs=>Oi hs)) (λ x19 h19=>?_);refine aI (λ x4=>?_);refine J5 ?_;refine J0 ?_;refine aE ?_;refine J3 ?_;refine Dj ?_;refine aA ?_
  (refine eM 24 (λ g24=>?_) (λ g24=>?_)<;>(first|refine aJ ?_|(refine aF ?_;refine aA ?_)))
  all_goals ((first|refine aJ ?_|(refine aF ?_;refine dF ?_));refine nq ?_;refine pq ?_;refine aH ?_)
  all_goals
  refine bE (λ c31=>?_) (λ c31=>?_)
  ·try exact nv c31
   all_goals (refine dX [(0,[]),(1,[]),(2,[]),(3,[]),(4,[]),(5,[]),(6,[]),(7,[4]),(8,[]),(9,[]),(10,[]),(11,[])] ?_;refine Zi ?_;refine aQ ?_;refine bT (i:=6) (hq:=(aN (k:=2) (vs:=[.int .i64 rs.root,.bool rs.ro]) rf cL dJ rfl rfl)) (h:=?_);refine cN (i:=7) (hq:=((by exact I0 (λ _=>cP (cs:=rV [⟨rs.root,rs.ro⟩]) Ho Ix rfl rfl rfl rfl rfl)))) (h:=λ x39=>?_);((refine cN (i:=8) (hq:=(bF.eK (fJ (sz:=2) (cs:=rV ts) rf rf .head (by rw[sB]) fin rfl rfl Ho rfl (by decide) hX (by omega)) uO)) (h:=λ x40=>?_);try (refine eY (λ h40=>?_))));refine J88 ?_)
   all_goals
    refine D9 Tryz.results115 (λ w hw=>?_)
    first
    | exact⟨⟨ts++[⟨rs.root,rs.ro⟩],es,x40.1,x40.2,pe,ke⟩,rfl,.inr ⟨by simpa using c7,rfl,.inr ⟨by omega,by show(ts++[(⟨rs.root,rs.ro⟩:fL)]).length<=5;simp;omega,rfl⟩⟩,by dsimp only[wL];rw[jd,show(ts++[(⟨rs.root,rs.ro⟩:fL)]).length=ts.length+1 by simp];exact hw.aU⟩
    | exact⟨⟨ts,es,pt,kt,pe,ke⟩,rfl,.inr ⟨by simpa using c7,rfl,.inl rfl⟩,hw.aU⟩
  ·all_goals refine bB ?_
   all_goals
    refine D9 Tryz.results115 (λ w hw=>?_)
    first
    | exact⟨⟨ts,es,pt,kt,pe,ke⟩,rfl,.inr ⟨by simpa using c7,rfl,.inl rfl⟩,hw.aU⟩
theorem sn(hts:ts.length<=1000)(hes:es.length<=1000)(hs:SF w D [(bw,mE bm mask pt ts.length kt pe es.length ke),(bx,xO k bm x dn rs),(bm,xM x)] A [] [⟨pt,rV ts,kt,29,2⟩,⟨pe,Bk es,ke,74,1⟩,⟨x.pg,aG x.got,x.kg,37,1⟩,⟨x.pm,aG x.made,x.km,37,1⟩,⟨x.pl,aG x.cel,x.kl,27,1⟩,⟨x.pe,aG x.gns,x.ke,3,1⟩,⟨x.pn,gN x.L,x.cn,47,14⟩,⟨x.pc,aG x.cs,x.cc,37,1⟩] w):Calls Tryz.prog 115 #[.pointer (some ⟨bw,0,none⟩),.pointer (some ⟨bx,0,none⟩)] w λ e w'=>∃q:KQ,e=.returned (.tuple #[])/\Rk dn rs bx ts es q/\SF w D [(bw,mE bm mask q.pt q.ts.length q.kt q.pe q.es.length q.ke),(bx,xO k bm x dn rs),(bm,xM x)] [] [] [⟨q.pt,rV q.ts,q.kt,29,2⟩,⟨q.pe,Bk q.es,q.ke,74,1⟩,⟨x.pg,aG x.got,x.kg,37,1⟩,⟨x.pm,aG x.made,x.km,37,1⟩,⟨x.pl,aG x.cel,x.kl,27,1⟩,⟨x.pe,aG x.gns,x.ke,3,1⟩,⟨x.pn,gN x.L,x.cn,47,14⟩,⟨x.pc,aG x.cs,x.cc,37,1⟩] w':=zw hts hes hs
end
end

/- Worlds: Create. -/
section
open Go Go.RowKit Go.Ct
def mg:Nd:={Nd.zero with kind:=3}
def zl(g:Int):Nd:={Nd.zero with kind:=2,gen:=g}
def L4(x y:AX):List aZ:=[fA,fA]++[oN mg [] [] 0 x]++[oN (zl 1) [] [] 1 y]
theorem Ha{x y:AX}:∀f∈aM (L4 x y),f.2=[]:=by
 intro f hf
 simp[aM,L4,aZ.fr,fA,oN,aG,dH] at hf
 rcases hf with hf|hf|hf|hf|hf|hf|hf|hf<;>rw[hf]
theorem Pk{w:World}{D:List Nat}{b:Nat}{acc:Int}{pn:Option Addr}{cn:Nat}{A:Fr}(hs:SF w D [(b,mO [fA,fA] [] 0 acc pn cn none 0)] A [] (mW [fA,fA] [] pn cn none 0) w) :
  Calls Tryz.prog 66 #[.pointer (some ⟨b,0,none⟩)] w λ e w'=>∃q:AX×AX×Option Addr×Nat,e=.returned (.agg ⟨[.int .i64 3,.bool false]⟩)/\True /\
   SF w D [(b,mO (L4 q.1 q.2.1) [0,3,4] 1 acc q.2.1.pn q.2.1.cn q.2.2.1 q.2.2.2)] [] (aM (L4 q.1 q.2.1)) (mW (L4 q.1 q.2.1) [0,3,4] q.2.1.pn q.2.1.cn q.2.2.1 q.2.2.2) w':=by
 refine enter Tryz.func66 Tryz.ntmps66 rfl rfl (yO hs) ?_
 simp only[bY]
 refine J0 ?_;refine aI (λ x2=>?_);refine aH ?_;refine J2 ?_;refine bJ ?_;refine aC (cM (A0:=[(none,aG []),(none,dH [])]) (hc:=λ w hs=>Gv (L:=[fA,fA]) (cs:=[]) (n:=mg) (xs:=[]) (ys:=[]) 0 hs rfl rfl (by decide) (by decide) (by decide) (by decide))) (λ x7 h7=>?_);refine J1 ?_;refine J2 ?_;refine aC (cM (hc:=λ w hs=>Jh (L:=[fA,fA]++[oN mg [] [] 0 x7]) (cs:=[0]) hs)) (λ x9 h9=>?_);refine wJ ?_;refine aA ?_;refine bJ ?_;refine aA ?_;refine aC (cM (A0:=[(none,aG []),(none,dH [])]) (hc:=λ w hs=>Gv (L:=[fA,fA]++[oN mg [] [] 0 x7]) (cs:=[0]) (n:=zl 1) (xs:=[]) (ys:=[]) 3 hs rfl rfl (by decide) (by decide) (by simp) (by decide))) (λ x15 h15=>?_);refine aC (cM (hc:=λ w hs=>lE (L:=L4 x7 x15) (cs:=[0,3]) 4 hs (by decide))) (λ x16 h16=>?_);refine xS ?_
 refine bD Tryz.results66 (λ w hw=>?_)
 exact⟨(x7,x15,x16.1,x16.2),rfl,trivial,(hw.fE (λ f hf=>.inl (Ha f hf))).aU (hF:=by exact aY.all)⟩
end

/- Worlds: an execution is run. -/
end Go.Proofs.YtbajmaoegmbfgaaGreat
namespace Go.Ct
section
open Go Go.RowKit
theorem Rc.trans{i j:Nat}{t t1 t2:Tr}{s s1 s2:Mm}(h1:Rc i t s t1 s1)(h2:Rc j t1 s1 t2 s2):Rc (i+j) t s t2 s2:=by
 induction h2 with
 | refl t s=>exact h1
 | eV _ hs ih=>exact .eV (ih h1) hs
 | loud _ hs ih=>exact .loud (ih h1) hs
def Sz(x:XS)(B:Nat):Prop:=x.L.length<=B/\x.cs.length<=B/\x.gen<=B
theorem wV{T R R':Tr}{x x':XS}{dn:Bool}{rs:Rs}{j N B:Nat}(h:ny T x dn rs R)(hd:dn=false)(hT:bQ T N 64)(hN:x.got.length+1<=N)(hr:Rc j R x.mm R' x'.mm)(hj:j<=1)(hs:Sz x B):Sz x' (B+128):=by
 rcases h.M2 with⟨e,_⟩|⟨_,e⟩
 ·rw[hd] at e;cases e
 ·obtain⟨c,h1,_,_⟩:=h.wk.rX (Nat.le_refl 64) hT (by omega)
  obtain⟨c',h2,h3,h4,h5,h6,h7⟩:=hr.rX (Nat.le_refl 64) (Ig e h1 (by omega)) (by omega)
  obtain⟨s1,s2,s3⟩:=hs
  simp only[XS.mm,List.length_map] at h5 h6 h7
  exact⟨by omega,by omega,by omega⟩
theorem zG{T R':Tr}{x x':XS}{j N B:Nat}(hT:bQ T N 64)(hr:Rc j T x.mm R' x'.mm)(hj:j<=0)(hs:Sz x B):Sz x' (B+64):=by
 obtain⟨c',h2,h3,h4,h5,h6,h7⟩:=hr.rX (Nat.le_refl 64) hT (by omega)
 obtain⟨s1,s2,s3⟩:=hs
 simp only[XS.mm,List.length_map] at h5 h6 h7
 exact⟨by omega,by omega,by omega⟩
end
end Go.Ct
namespace Go.Proofs.YtbajmaoegmbfgaaGreat
section
open Go Go.RowKit Go.Ct
noncomputable def T0 (k:Cl) (m:Nat):Tr:=jT k (jV k.key m) 1073741824
theorem jS(k:Cl)(m:Nat){n:Nat}(h:n<1073741824):bQ (T0 k m) n 64:=Cm h
def xE(k:Cl)(bm b:Nat)(x:XS)(dn:Bool)(rs:Rs):List (Nat×Obj):=if dn=true then [] else [(b,xO k bm x false rs)]
def xE4(x:XS)(dn:Bool):List Ow:=if dn=true then [] else [⟨x.pg,aG x.got,x.kg,37,1⟩,⟨x.pm,aG x.made,x.km,37,1⟩,⟨x.pl,aG x.cel,x.kl,27,1⟩,⟨x.pe,aG x.gns,x.ke,3,1⟩]
structure RY where
 i:Nat
 x:XS
 N:List aZ
 dn:Bool
 rs:Rs
 R:Tr
structure I2(k:Cl)(m:Nat)(x0:XS)(B:Nat)(y:RY):Prop where
 ex:ny (T0 k m) y.x y.dn y.rs y.R
 rc:∃j,Rc j (T0 k m) x0.mm y.R y.x.mm
 ext:y.x.L=x0.L++y.N
 lc:x0.cs.length<=y.x.cs.length
 gl:y.x.got.length<=y.i
 sz:Sz y.x (B+64+128*y.i)
theorem I2.n9{k:Cl}{m N:Nat}{x0 x':XS}{B:Nat}{N':List aZ}{dn:Bool}{rs:Rs}(hN:N<1073741824)(h:qB (T0 k m) (T0 k m) 0 0 Rs.zero x0 x' N' dn rs)(hs:Sz x0 B):∃R,I2 k m x0 B ⟨0,x',N',dn,rs,R⟩:=by
 obtain⟨R',j,h1,h2,h3,h4,h5,h6⟩:=h.exI
 exact⟨R',h3,⟨j,h4⟩,h5,h6,by have:=h.gl;show x'.got.length<=0;omega,zG (jS k m hN) h4 h1 hs⟩
theorem I2.step{k:Cl}{m:Nat}{x0 x':XS}{B:Nat}{y:RY}{N':List aZ}{dn:Bool}{rs:Rs}(hi:I2 k m x0 B y)(hd:y.dn=false)(hB:y.i<1073741822)(h:qB (T0 k m) y.R 1 (y.x.got.length+1) y.rs y.x x' N' dn rs):∃R,I2 k m x0 B ⟨y.i+1,x',y.N++N',dn,rs,R⟩:=by
 obtain⟨R',j,h1,h2,h3,h4,h5,h6⟩:=h.exI
 obtain⟨j0,hj0⟩:=hi.rc
 have hg:=hi.gl
 refine⟨R',h3,⟨j0+j,hj0.trans h4⟩,by show x'.L=_;rw[h5,hi.ext,List.append_assoc],Nat.le_trans hi.lc h6,by have:=h.gl;show x'.got.length<=y.i+1;omega,?_⟩
 have:=wV hi.ex hd (jS k m (n:=y.x.got.length+1) (by omega)) (Nat.le_refl _) h4 h1 hi.sz
 rw[show B+64+128*(y.i+1)=B+64+128*y.i+128 by omega]
 exact this
section
variable{k:Cl}{bw bm m B:Nat}{L:List aZ}{cs:List Int}{gen acc:Int}{pn pc:Option Addr}{cn cc:Nat}{D:List Nat}{A:Fr}{w:World}{mask:Int}{ts:List fL}{es:List Nat}{pt pe:Option Addr}{kt ke:Nat}
theorem Bc(hsz:L.length<=137438953472/\cs.length<=137438953472/\gen<=137438953472)(hk:Yt k)(hm:m<18446744073709551616)(em:k.mask=(m:Int))(ht:k.t.root<=9223372036854775807)(ha:k.a<=L.length)(hb:k.b<=L.length)(hnn:k.n<=L.length)(hA:∀f∈aM L,f∈A)(ok:(XS.new L cs gen acc pn cn pc cc).Ok)(hs:SF w D [(bm,mO L cs gen acc pn cn pc cc)] A [] [⟨pn,gN L,cn,47,14⟩,⟨pc,aG cs,cc,37,1⟩] w):Calls Tryz.prog 49 #[.pointer (some ⟨bm,0,none⟩),.agg ⟨Q3 k⟩] w λ e w'=>∃q:Nat×XS×List aZ×Bool×Rs,e=.returned (.pointer (some ⟨q.1,0,none⟩))/\qB (T0 k m) (T0 k m) 0 0 Rs.zero (XS.new L cs gen acc pn cn pc cc) q.2.1 q.2.2.1 q.2.2.2.1 q.2.2.2.2/\SF w D ([(bm,xM q.2.1)]++[(q.1,xO k bm q.2.1 q.2.2.2.1 q.2.2.2.2)]) [] (aM q.2.2.1) ([⟨q.2.1.pn,gN q.2.1.L,q.2.1.cn,47,14⟩,⟨q.2.1.pc,aG q.2.1.cs,q.2.1.cc,37,1⟩]++[⟨q.2.1.pg,aG q.2.1.got,q.2.1.kg,37,1⟩,⟨q.2.1.pm,aG q.2.1.made,q.2.1.km,37,1⟩,⟨q.2.1.pl,aG q.2.1.cel,q.2.1.kl,27,1⟩,⟨q.2.1.pe,aG q.2.1.gns,q.2.1.ke,3,1⟩]) w' :=
 (pw (N:=0) (n:=1073741824) (m:=m) (jS k m (by decide)) (by decide) hsz hk (Nat.le_refl _) hm em ht ha hb hnn hA ok hs).mono λ _ _ ⟨q,e,h,hw⟩=>⟨q,e,h,hw.perm (List.Perm.swap _ _ _) (List.perm_append_comm (l₁:=[_,_]) (l₂:=[_,_,_,_]))⟩
set_option maxHeartbeats 1000000 in
theorem w8(steps:Nat)(hst:steps<=1048576)(hB:B<=100000000000)(hsz:Sz (XS.new L cs gen acc pn cn pc cc) B)(hk:Yt k)(hm:m<18446744073709551616)(em:k.mask=(m:Int))(ht:k.t.root<=9223372036854775807)(ha:k.a=0)(hb:k.b=0)(hnn:k.n=0)(hA:∀f∈aM L,f∈A)(ok:(XS.new L cs gen acc pn cn pc cc).Ok)(hts:ts.length<=1000)(hes:es.length<=1000)
  (hs:SF w D [(bw,mE bm mask pt ts.length kt pe es.length ke),(bm,mO L cs gen acc pn cn pc cc)] A [] [⟨pt,rV ts,kt,29,2⟩,⟨pe,Bk es,ke,74,1⟩,⟨pn,gN L,cn,47,14⟩,⟨pc,aG cs,cc,37,1⟩] w) :
  Calls Tryz.prog 67 #[.pointer (some ⟨bw,0,none⟩),.agg ⟨Q3 k⟩,.int .i64 (steps:Int)] w λ e w'=>∃q:Nat×RY×KQ,e=.returned (.tuple #[])/\(I2 k m (XS.new L cs gen acc pn cn pc cc) B q.2.1/\q.2.1.i<=steps/\Rk q.2.1.dn q.2.1.rs q.1 ts es q.2.2) /\
   SF w D (xE k bm q.1 q.2.1.x q.2.1.dn q.2.1.rs++[(bw,mE bm mask q.2.2.pt q.2.2.ts.length q.2.2.kt q.2.2.pe q.2.2.es.length q.2.2.ke),(bm,xM q.2.1.x)]) [] (aM q.2.1.N) (xE4 q.2.1.x q.2.1.dn++[⟨q.2.2.pt,rV q.2.2.ts,q.2.2.kt,29,2⟩,⟨q.2.2.pe,Bk q.2.2.es,q.2.2.ke,74,1⟩,⟨q.2.1.x.pn,gN q.2.1.x.L,q.2.1.x.cn,47,14⟩,⟨q.2.1.x.pc,aG q.2.1.x.cs,q.2.1.x.cc,37,1⟩]) w':=by
 have hL:(0:Int)<=L.length:=bH _
 have hsz2:=hsz
 obtain⟨s1,s2,s3⟩:=hsz2
 simp only[XS.new] at s1 s2 s3
 refine enter Tryz.func67 Tryz.ntmps67 rfl rfl hs ?_
 simp only[bY]
 refine J0 ?_;refine bO (λ x4=>?_);refine Oq ?_;refine gJ [0,1,2,3,4,5,6] ?_;refine mx ?_;refine bP ?_;refine bC (i:=5) (hq:=(nh (hs:=[(bm,mO L cs gen acc pn cn pc cc)]) (os:=[⟨pn,gN L,cn,47,14⟩,⟨pc,aG cs,cc,37,1⟩]) (A0:=aM L) (hA:=aX.of λ f hf=>.inr (.inl (hA f hf))) (hc:=λ w hs=>Bc (m:=m) ⟨by omega,by omega,by omega⟩ hk hm em ht (by omega) (by omega) (by omega) (λ f hf=>hf) ok hs))) (h:=λ x13 h13=>?_);refine J7 ?_;refine aV ?_;refine Fs ?_
 obtain⟨R0,hR0⟩:=I2.n9 (B:=B) (N:=0) (by decide) h13 hsz
 refine nA [7,14,15,16,17,18,19,20,21,22,23,24,25] (λ y:RY=>[(7,.int .i64 ((y.i:Nat):Int))]) (λ y=>I2 k m (XS.new L cs gen acc pn cn pc cc) B y/\y.i<=steps) (λ y=>[(x13.1,xO k bm y.x y.dn y.rs),(x4,.cells ⟨Q3 k⟩ 89 (0,0)),(bw,mE bm mask pt ts.length kt pe es.length ke),(bm,xM y.x)]) (λ y=>aM y.N) (λ y=>[⟨y.x.pg,aG y.x.got,y.x.kg,37,1⟩,⟨y.x.pm,aG y.x.made,y.x.km,37,1⟩,⟨y.x.pl,aG y.x.cel,y.x.kl,27,1⟩,⟨y.x.pe,aG y.x.gns,y.x.ke,3,1⟩,⟨pt,rV ts,kt,29,2⟩,⟨pe,Bk es,ke,74,1⟩,⟨y.x.pn,gN y.x.L,y.x.cn,47,14⟩,⟨y.x.pc,aG y.x.cs,y.x.cc,37,1⟩]) (λ y=>steps-y.i) (⟨0,x13.2.1,x13.2.2.1,x13.2.2.2.1,x13.2.2.2.2,R0⟩) (⟨hR0,Nat.zero_le _⟩) (λ y f hx=>?_) (hw0:=λ w hw=>by rw[List.append_nil] at hw;exact hw.back (hF:=by exact aY.all))
 dsimp only[gR,List.map,List.cons_append,List.nil_append]
 obtain⟨hi,his⟩:=hx
 have hsx:=hi.sz
 obtain⟨z1,z2,z3⟩:=hsx
 have hgl:=hi.gl
 refine kM ?_;refine aC (cM (hs:=xH k x13.1 bm y.x y.dn y.rs) (os:=xW y.x) (hc:=λ w hs=>Cg hs)) (λ x15 h15=>?_);refine En ?_
 (refine eM 17 (λ g17=>?_) (λ g17=>?_)<;>(first|refine aJ ?_|(refine aF ?_;refine aA ?_)))
 all_goals ((first|refine aJ ?_|(refine aF ?_;refine aA ?_));refine pq ?_;refine aH ?_)
 all_goals
 refine bE (λ c21=>?_) (λ c21=>?_)
 ·try exact nv c21
  all_goals (refine qI ?_;refine xZ ?_;refine aC (cM (hs:=xH k x13.1 bm y.x y.dn y.rs) (os:=xW y.x) (A0:=aM y.x.L) (hA:=aX.of λ f hf=>by rw[hi.ext,cZ] at hf;rcases List.mem_append.1 hf with hf|hf;exact .inr (.inl (hA f hf));exact .inr (.inr (.inl hf))) (hc:=λ w hs=>Mv (N:=y.x.got.length+1) (n:=1073741824) (m:=m) (jS k m (by omega)) (by omega) rfl ⟨by omega,by omega,by omega⟩ hi.ex hk (Nat.le_refl _) hm em ht (by rw[ha];exact bH _) (by rw[hb];exact bH _) (by rw[hnn];exact bH _) (λ f hf=>hf) hs)) (λ x25 h25=>?_);refine aH ?_;refine eP ?_;refine yH ?_)
  all_goals
   have hdf:y.dn=false:=by simp_all
   have hq:qB (T0 k m) y.R 1 (y.x.got.length+1) y.rs y.x x25.1 x25.2.1 x25.2.2.1 x25.2.2.2:=by rcases h25 with h|h;rw[hdf] at h;cases h.1;exact h.2
   obtain⟨R1,hR1⟩:=hi.step hdf (by omega) hq
   refine iJ (⟨y.i+1,x25.1,y.N++x25.2.1,x25.2.2.1,x25.2.2.2,R1⟩) ?_ (hw1:=λ w hw=>hw.back (hF:=by rw[cZ];exact aY.iP λ f hf=>(List.mem_append.1 hf).elim (λ h=>List.mem_append_right _ h) (λ h=>List.mem_append_left _ h)))
   ·exact⟨hR1,by show y.i+1<=steps;omega⟩
 ·all_goals (refine bM rfl ?_;refine Me ?_;refine aC (cM (hs:=[(bw,mE bm mask pt ts.length kt pe es.length ke),(x13.1,xO k bm y.x y.dn y.rs),(bm,xM y.x)]) (os:=[⟨pt,rV ts,kt,29,2⟩,⟨pe,Bk es,ke,74,1⟩,⟨y.x.pg,aG y.x.got,y.x.kg,37,1⟩,⟨y.x.pm,aG y.x.made,y.x.km,37,1⟩,⟨y.x.pl,aG y.x.cel,y.x.kl,27,1⟩,⟨y.x.pe,aG y.x.gns,y.x.ke,3,1⟩,⟨y.x.pn,gN y.x.L,y.x.cn,47,14⟩,⟨y.x.pc,aG y.x.cs,y.x.cc,37,1⟩]) (hc:=λ w hs=>sn hts hes hs)) (λ x28 h28=>?_);refine aH ?_)
  all_goals
   refine D9 Tryz.results67 (λ w hw=>?_)
   rcases y with⟨i,x,N,dn,rs,R⟩
   cases dn with
   | true=>exact⟨(x13.1,⟨i,x,N,true,rs,R⟩,x28),rfl,⟨hi,his,h28⟩,hw.aU (hF:=by exact aY.all)⟩
   | false=>exact⟨(x13.1,⟨i,x,N,false,rs,R⟩,x28),rfl,⟨hi,his,h28⟩,hw.aU (hF:=by exact aY.all)⟩
end
end

/- Tries of worlds: the lists of the lowest level; the nodes for two keys. -/
section
open Go.Ct
theorem wP{l:List Pr}:Hq l↔∀p∈l,p.1.size<=64:=by
 constructor
 ·intro h p hp
  obtain⟨i,hi,e⟩:=List.mem_iff_getElem.1 hp
  have:=h i hi
  rw[gH hi,e] at this
  exact this
 ·intro h i hi
  rw[gH hi]
  exact h _ (List.getElem_mem hi)
theorem m8{a b:Nat}(ha:a<18446744073709551616)(hb:b<18446744073709551616)(h:∀j,j<11->sl a j=sl b j):a=b:=by
 have key:∀d j,j+d=11->a >>> (6*j)=b >>> (6*j):=by
  intro d
  induction d with
  | zero =>
   intro j hj
   have hj:j=11:=by omega
   subst hj
   rw[Nat.shiftRight_eq_div_pow,Nat.shiftRight_eq_div_pow,Nat.div_eq_of_lt (by omega),Nat.div_eq_of_lt (by omega)]
  | succ d ih =>
   intro j hj
   have h1:=ih (j+1) (by omega)
   have h2:=h j (by omega)
   unfold sl at h2
   rw[<- M7,<- M7] at h1
   omega
 have:=key 11 0 rfl
 simpa using this
theorem eu{a b:Nat}{w:List Nat}(ha:a<18446744073709551616)(hb:b<18446744073709551616)(h1:iF a w)(h2:iF b w)(hw:w.length=11):a=b:=m8 ha hb λ j hj=>by rw[h1 j (by omega),h2 j (by omega)]
section
variable{H:ByteArray->Nat}{Q:Rs->Kw->Prop}{σ τ υ:Kw}{i m p g:Int}{w:List Nat}{t:fL}
structure je(H:ByteArray->Nat)(σ:Kw)(m:Int)(w:List Nat)(h:Nat):Prop where
 kd:(σ.nd m).kind=6
 hs:(σ.nd m).hash=((h:Nat):Int)
 hl:h<18446744073709551616
 lv:LV (σ.nd m).nd (σ.nd m).xs (σ.nd m).ys
 two:2<=(σ.nd m).ys.length
 sa:SA (σ.nd m).ys
 sh:∀p∈(σ.nd m).ys,p.1.size<=64
 ha:∀p∈(σ.nd m).ys,H p.1=h
 wl:w.length=11
 un:iF h w
theorem oS.vz(i0:Inv H σ)(h:oS σ m w g)(k:(σ.nd m).kind=6):je H σ m w (σ.nd m).hash.toNat:=by
 have hr:=h.in
 have hn:=i0.nd m hr.1 hr.2
 obtain⟨h1,h2,h3,_⟩:=hn.k6 k
 obtain⟨b,hb1,hb2⟩:=hn.bd.hash
 have hv:=hn.valid.2.2.2.2
 have hl:2<=(σ.nd m).ys.length/\vh (σ.nd m).ys/\Hq (σ.nd m).ys:=by
  rcases hv with h'|h'|h'|h'|h'|h'|h'
  ·have:(σ.nd m).kind=1:=h';omega
  ·have:(σ.nd m).kind=2:=h'.1;omega
  ·have:(σ.nd m).kind=3:=h'.1;omega
  ·rcases h'.1 with h''|h''
   ·have:(σ.nd m).kind=4:=h'';omega
   ·have:(σ.nd m).kind=5:=h'';omega
  ·exact h'.2
  ·have:(σ.nd m).kind=8:=h'.1;omega
  ·have:(σ.nd m).kind=7:=h'.1;omega
 rw[h.2.1] at h1 h2
 exact⟨k,by omega,by omega,⟨k,hn.valid⟩,hl.1,mZ.1 hl.2.1,wP.1 hl.2.2,h3,h1,h2⟩
theorem w9(i0:Inv H σ){h:Nat}(hl:je H σ m w h){k:ByteArray}{u:Int}(hk:k.size<=64)(hH:H k=h):dS (grV (σ.nd m) k u)/\lI H σ (grV (σ.nd m) k u) w g:=by
 have e:grV (σ.nd m) k u=U8 ((h:Nat):Int) (kV (σ.nd m).ys k u):=by
  unfold grV kU Og
  rw[if_pos ⟨hl.lv,hk⟩,if_pos hl.sa,hl.hs]
  rfl
 rw[e]
 refine⟨.inr (.inr rfl),H9 i0 ?_ (mZ.2 (xQ hl.sa)) (wP.2 λ p hp=>?_) (λ p hp=>?_) hl.hl hl.wl hl.un⟩
 ·rw[wQ hl.sa]
  have:=hl.two
  (try dsimp only);split<;>omega
 ·rcases Aq hp with rfl|hp
  ·exact hk
  ·exact hl.sh p hp
 ·rcases Aq hp with rfl|hp
  ·exact hH
  ·exact hl.ha p hp
theorem yf(i0:Inv H σ){h:Nat}(hl:je H σ m w h){k:ByteArray}(hf:(cO (σ.nd m).ys k).isSome=true):dS (tj (σ.nd m) k)/\lI H σ (tj (σ.nd m) k) w g:=by
 have hf2:(rE (σ.nd m).ys k).isSome=true:=by unfold cO at hf;rwa [if_pos hl.sa] at hf
 have hlen:=Qe (k:=k) hl.sa
 rw[if_pos hf2] at hlen
 have hmem:∀p∈iT (σ.nd m).ys k,p∈(σ.nd m).ys:=λ p hp=>(List.mem_filter.1 hp).1
 have htwo:=hl.two
 by_cases h1:(iT (σ.nd m).ys k).length=1
 ·have e:tj (σ.nd m) k=Z9 ((h:Nat):Int) ((iT (σ.nd m).ys k).getD 0 (⟨#[]⟩,0)).1 ((iT (σ.nd m).ys k).getD 0 (⟨#[]⟩,0)).2:=by
   unfold tj qE rH
   rw[if_pos ⟨hl.lv,hf⟩,if_pos hl.sa,hl.hs]
   unfold Nc Iq
   dsimp only
   rw[if_pos h1,if_pos h1]
   rfl
  rw[e]
  have hp:(iT (σ.nd m).ys k).getD 0 (⟨#[]⟩,0)∈(σ.nd m).ys:=hmem _ (by rw[gH (by omega)];exact List.getElem_mem _)
  exact⟨.inr (.inl rfl),E7 i0 (hl.sh _ hp) (hl.ha _ hp) hl.hl (by rw[hl.wl];decide) (by rw[hl.wl];decide) hl.un⟩
 ·have e:tj (σ.nd m) k=U8 ((h:Nat):Int) (iT (σ.nd m).ys k):=by
   unfold tj qE rH
   rw[if_pos ⟨hl.lv,hf⟩,if_pos hl.sa,hl.hs]
   unfold Nc Iq
   dsimp only
   rw[if_neg h1,if_neg h1]
   rfl
  rw[e]
  exact⟨.inr (.inr rfl),H9 i0 (by omega) (mZ.2 (vA k hl.sa)) (wP.2 λ p hp=>hl.sh p (hmem p hp)) (λ p hp=>hl.ha p (hmem p hp)) hl.hl hl.wl hl.un⟩
def sC(h l:Nat):List Nat:=(List.range l).map (sl h)
theorem gU(h l:Nat):(sC h l).length=l:=by simp[sC]
theorem Jl(h l:Nat):sC h (l+1)=sC h l++[sl h l]:=by simp[sC,List.range_succ]
theorem sU(h l:Nat):iF h (sC h l):=λ k hk=>by
 rw[gU] at hk
 simp[sC,kQ,hk]
theorem s4{h:Nat}{w:List Nat}(hu:iF h w):w=sC h w.length:=by
 refine List.ext_getElem (by rw[gU]) λ k h1 h2=>?_
 have:=hu k h1
 rw[kQ,List.getElem?_eq_getElem h1] at this
 simp only[sC,List.getElem_map,List.getElem_range]
 exact this.symm
theorem Y6{a b l:Nat}(hl:l<=kZ a b):iF a (sC b l):=λ k hk=>by
 rw[gU] at hk
 rw[<- sU b l k (by rw[gU];exact hk)]
 exact Tf (by omega)
theorem Mi:BV 0 []:=⟨by decide,by decide,λ i hi=>absurd hi (Nat.not_lt_zero i)⟩
theorem Fu:∀k,fZ 0 k=0
 | 0=>rfl
 | k+1=>by simp only[fZ,Fu k,Nat.zero_testBit];rfl
theorem jf{k:Nat}(hk:k<64){r:Int}(hr:1<=r):BV (dL 0 (k:Int)) [r]/\∀j,j<64->∀v,sH (dL 0 (k:Int)) [r] j=some v->j=k/\v=r:=by
 rw[pD 0 hk]
 have h:=H0 Mi hk (by simp) hr
 rw[Fu,show uL [] 0 r=[r] from rfl] at h
 refine⟨h.1,λ j hj v hv=>?_⟩
 rw[h.2 j hj] at hv
 unfold Ng at hv
 split at hv
 ·cases hv;exact⟨by assumption,rfl⟩
 ·simp[sH] at hv
theorem y9{k l:Nat}(hk:k<64)(hl:l<64)(hne:k≠l){x s:Int}(hx:1<=x)(hs:1<=s):BV (dL (dL 0 (k:Int)) (l:Int)) (two k l x s)/\∀j,j<64->∀v,sH (dL (dL 0 (k:Int)) (l:Int)) (two k l x s) j=some v->(j=k/\v=x)∨(j=l/\v=s):=by
 have h1:=jf hk hx
 rw[pD 0 hk] at h1 ⊢
 rw[pD _ hl]
 have hb:(0 ||| 2^k).testBit l=false:=by rw[Am];simp;omega
 have h:=H0 h1.1 hl hb hs
 have hc:fZ (0 ||| 2^k) l=if k<l then 1 else 0:=by
  have:=Ah (b:=0) (b':=0 ||| 2^k) (i:=k) (by simp) (λ j _=>Am 0 k j) l (by omega)
  rw[this,Fu];omega
 have e:uL [x] (fZ (0 ||| 2^k) l) s=two k l x s:=by
  rw[hc]
  unfold two
  by_cases hkl:k<l
  ·rw[if_pos hkl,if_pos hkl];rfl
  ·rw[if_neg hkl,if_neg hkl];rfl
 rw[e] at h
 refine⟨h.1,λ j hj v hv=>?_⟩
 rw[h.2 j hj] at hv
 unfold Ng at hv
 split at hv
 ·cases hv;exact .inr ⟨by assumption,rfl⟩
 ·exact .inl (h1.2 j hj v hv)
theorem Qx:∀(a b:List NI) (r:Int) (K:Int->Tr),zZ (a++b) r K=zZ a r λ r=>zZ b r K
 | [],_,_,_=>rfl
 | x::a,b,r,K=>by simp only[List.cons_append,zZ,Qx a b]
theorem qM{n:Nv}(i0:Inv H σ)(h2:n.kind≠2):s5 σ n 0 w g:=⟨⟨Int.le_refl _,bH _⟩,λ k=>absurd k h2,λ _=>.inl rfl,λ _=>rfl⟩
theorem ua{p q:Pr}(hne:p.1≠q.1):2<=(D7 [p,q]).length/\SA (D7 [p,q])/\∀r∈D7 [p,q],r=p∨r=q:=by
 refine⟨?_,dp _,λ r hr=>?_⟩
 ·have h1:D7 [p]=[p]:=rfl
  rw[show [p,q]=[p]++[q] from rfl,vT,h1,wQ (by simp[SA])]
  have:rE [p] q.1=none:=nU λ r hr=>by rw[List.mem_singleton.1 hr];exact hne
  rw[this]
  simp
 ·rw[show [p,q]=[p]++[q] from rfl,vT] at hr
  rcases Aq hr with h|h
  ·exact .inr h
  ·have h1:D7 [p]=[p]:=rfl
   rw[h1] at h
   exact .inl (List.mem_singleton.1 h)
theorem ur{x:Int}{h0 h:Nat}{pk:ByteArray}{pv:Int}{k:ByteArray}{u:Int}{K:Int->Tr}(hh0:h0<18446744073709551616)(hh:h<18446744073709551616)(hH:H k=h)(hk:k.size<=64)(hg1:1<=g)(hne:pk≠k)(hpk:pk.size<=64)(hpH:H pk=h0) :
  ∀(n lvl:Nat) (σ:Kw) (r:Int) (f:Nat),lvl+n=kZ h0 h->Inv H σ->(σ.nd x).kind=4->(σ.nd x).hash.toNat=h0->g<=σ.mm.gen->f=σ.len+1 ->
  (∀υ,Le σ υ->Inv H υ->υ.len=σ.len+(dN x h0 h (pk,pv) k u g f n lvl).length->oS υ ((f-1+(dN x h0 h (pk,pv) k u g f n lvl).length:Nat):Int) (sC h lvl) g->WT H Q (K ((f-1+(dN x h0 h (pk,pv) k u g f n lvl).length:Nat):Int)) υ) ->
  WT H Q (zZ (dN x h0 h (pk,pv) k u g f n lvl) r K) σ
 | 0,lvl,σ,r,f,hn,i0,hx4,hxh,hgg,hf,hK=>by
  have hx:=eR (N:=σ.mm.nodes) (i:=x) (by have:=hx4;simp only[Kw.nd] at this;rw[this];decide)
  have hcl:=yQ h0 h
  unfold dN at hK ⊢
  try dsimp only
  split
  ·rename_i e
   rw[if_pos e] at hK
   subst e
   have heq:h0=h:=m8 hh0 hh λ j hj=>Tf (by omega)
   obtain⟨o1,o2,o3⟩:=ua (p:=(pk,pv)) (q:=(k,u)) hne
   have hnew:lI H σ (U8 ((h:Nat):Int) (D7 [(pk,pv),(k,u)])) (sC h 11) g:=H9 i0 o1 (mZ.2 o2) (wP.2 λ p hp=>by rcases o3 p hp with rfl|rfl;exact hpk;exact hk) (λ p hp=>by rcases o3 p hp with rfl|rfl;exact hpH.trans heq;exact hH) hh (gU h 11) (sU h 11)
   refine fM i0 hnew (qM i0 (λ e=>eF (a:=6) (b:=2) e)) λ υ r' cl l1 i1 er em e1 e2 e3 h1 h2=>?_
   have hr':r'=((f-1+[Fy h (D7 [(pk,pv),(k,u)])].length:Nat):Int):=by rw[er,hf];simp
   have hlen:υ.len=σ.len+1:=by simp[Kw.len,em,Mm.push]
   show WT H Q (K r') υ
   rw[hr']
   refine hK υ l1 i1 hlen ?_
   rw[<- hr']
   exact pA (cl:=0) (.inr (.inr rfl)) e1 e2 e3
  ·rename_i e
   rw[if_neg e] at hK
   have hlv:lvl=kZ h0 h:=by omega
   have hne2:sl h0 lvl≠sl h lvl:=by rw[hlv];exact Lh (by omega)
   refine fM (w:=[]) (g:=0) i0 (A6 i0 hk hH hh) (qM i0 (λ e=>eF (a:=4) (b:=2) e)) λ υ s cl l1 i1 er em e1 _ _ hs1 hs2=>?_
   have hlen:υ.len=σ.len+1:=by simp[Kw.len,em,Mm.push]
   have hsf:s=(f:Int):=by rw[er,hf]
   obtain⟨b1,b2⟩:=y9 (vQ h0 lvl) (vQ h lvl) hne2 (x:=x) (s:=s) hx.1 hs1
   have hx4':(υ.nd x).kind=4:=by rw[l1.nd hx.2];exact hx4
   have hxh':(υ.nd x).hash.toNat=h0:=by rw[l1.nd hx.2];exact hxh
   have hnew:lI H υ (Er (dL (dL 0 (sl h0 lvl:Int)) (sl h lvl:Int)) (two (sl h0 lvl) (sl h lvl) x s)) (sC h lvl) g:=by
    refine nD i1 b1 (λ j hj v hv=>?_) (by rw[gU];omega) (λ _=>⟨λ e=>?_,λ b hb=>?_⟩)
    ·rcases b2 j hj v hv with⟨rfl,rfl⟩|⟨rfl,rfl⟩
     ·refine .inl ⟨hx4',?_⟩
      rw[hxh']
      have:=sF (Y6 (a:=h0) (b:=h) (l:=lvl) (by omega))
      rwa [gU] at this
     ·refine .inl ⟨by rw[e1];rfl,?_⟩
      rw[e1]
      have:=sF (sU h lvl)
      rw[gU] at this
      exact this
    ·unfold two at e;split at e<;>cases e
    ·unfold two at hb;split at hb<;>cases hb
   rw[hsf] at hnew
   show WT H Q (.alloc (Er (dL (dL 0 (sl h0 lvl:Int)) (sl h lvl:Int)) (two (sl h0 lvl) (sl h lvl) x (f:Int))) 0 K) υ
   refine fM i1 hnew (qM i1 (λ e=>eF (a:=3) (b:=2) e)) λ ρ r' cl l2 i2 er2 em2 e4 e5 e6 h1 h2=>?_
   have hlen2:ρ.len=υ.len+1:=by simp[Kw.len,em2,Mm.push]
   have hr':r'=((f-1+[uU h k u,az (dL (dL 0 (sl h0 lvl:Int)) (sl h lvl:Int)) (two (sl h0 lvl) (sl h lvl) x (f:Int))].length:Nat):Int):=by
    rw[er2];simp only[List.length_cons,List.length_nil];omega
   rw[hr']
   refine hK ρ (l1.trans i0 i1 l2) i2 (by simp only[List.length_cons,List.length_nil];omega) ?_
   rw[<- hr']
   exact pA (cl:=0) (.inl rfl) e4 e5 e6
 | n+1,lvl,σ,r,f,hn,i0,hx4,hxh,hgg,hf,hK=>by
  have hx:=eR (N:=σ.mm.nodes) (i:=x) (by have:=hx4;simp only[Kw.nd] at this;rw[this];decide)
  have hcl:=yQ h0 h
  unfold dN at hK ⊢
  rw[Qx]
  refine ur hh0 hh hH hk hg1 hne hpk hpH n (lvl+1) σ r f (by omega) i0 hx4 hxh hgg hf λ υ l1 i1 el hm=>?_
  generalize hd:(dN x h0 h (pk,pv) k u g f n (lvl+1)).length=d at *
  show WT H Q (.alloc (sG g) ((f-1+d:Nat):Int) λ _=>.alloc (Er (dL 0 (sl h lvl:Int)) [((f+d:Nat):Int)]) 0 K) υ
  refine fM (w:=sC h (lvl+1)) (g:=0) i1 (Kh (by rw[gU];omega) hg1 (by have:=l1.gen;omega)) ⟨⟨by omega,hm.in.2⟩,λ _=>hm,λ k=>absurd k (hY (.inr (.inr (.inl rfl)))),λ k=>eF (a:=2) (b:=8) k⟩ λ ρ j cl l2 i2 er em e1 e2 _ hj1 hj2=>?_
  have hlen:ρ.len=υ.len+1:=by simp[Kw.len,em,Mm.push]
  have hj:j=((f+d:Nat):Int):=by rw[er];omega
  obtain⟨b1,b2⟩:=jf (vQ h lvl) (r:=j) hj1
  have hnew:lI H ρ (Er (dL 0 (sl h lvl:Int)) [j]) (sC h lvl) g:=by
   refine nD i2 b1 (λ q hq v hv=>?_) (by rw[gU];omega) (λ _=>⟨by simp,λ b hb=>?_⟩)
   ·obtain⟨rfl,rfl⟩:=b2 q hq v hv
    exact .inr ⟨by rw[e1];rfl,by rw[e2,Jl],by rw[e1];exact Int.le_refl _⟩
   ·cases hb;rw[e1];rfl
  rw[hj] at hnew
  refine fM i2 hnew (qM i2 (λ e=>eF (a:=3) (b:=2) e)) λ χ r' cl l3 i3 er2 em2 e4 e5 e6 h1 h2=>?_
  have hlen2:χ.len=ρ.len+1:=by simp[Kw.len,em2,Mm.push]
  have hr':r'=((f-1+(d+2):Nat):Int):=by rw[er2];omega
  have hL:(dN x h0 h (pk,pv) k u g f n (lvl+1)++[qP g ((f-1+d:Nat):Int),az (dL 0 (sl h lvl:Int)) [((f+d:Nat):Int)]]).length=d+2:=by rw[List.length_append,hd];rfl
  rw[hL] at hK
  rw[hr']
  refine hK χ ((l1.trans i0 i1 l2).trans i0 i2 l3) i3 (by omega) ?_
  rw[<- hr']
  exact pA (cl:=0) (.inl rfl) e4 e5 e6
theorem Vy{x:Int}{h0 h:Nat}{p:Pr}{k:ByteArray}{u g:Int}:∀(n lvl:Nat),∃a:NI,∀f,∃l,dN x h0 h p k u g f n lvl=a::l
 | 0,lvl=>by
  by_cases e:lvl=11
  ·exact⟨Fy h (D7 [p,(k,u)]),λ f=>⟨[],by unfold dN;rw[if_pos e]⟩⟩
  ·exact⟨uU h k u,λ f=>⟨_,by unfold dN;rw[if_neg e]⟩⟩
 | n+1,lvl=>by
  obtain⟨a,ha⟩:=Vy (x:=x) (h0:=h0) (h:=h) (p:=p) (k:=k) (u:=u) (g:=g) n (lvl+1)
  refine⟨a,λ f=>?_⟩
  obtain⟨l,hl⟩:=ha f
  exact⟨_,by unfold dN;rw[hl];rfl⟩
theorem pj{c:Cl}{b:Int}{h level:Nat}{K:Int->Tr}(i0:Inv H σ)(hb4:(σ.nd b).kind=4)(hu0:iF (σ.nd b).hash.toNat w)(hu:iF h w)(hl:level=w.length)(hw:w.length<=11)(hh:h<18446744073709551616)(hH:H c.key=h)(hk:c.key.size<=64)(hg1:1<=g)(hgg:g<=σ.mm.gen)(hne:(σ.nd b).key≠c.key)
  (hK:∀υ d,Le σ υ->Inv H υ->oS υ d w g->WT H Q (K d) υ):WT H Q (Up c b h level g K) σ:=by
 have hlf:=i0.leaf (.inl hb4)
 have hb:=eR (N:=σ.mm.nodes) (i:=b) (by have:=hb4;simp only[Kw.nd] at this;rw[this];decide)
 have hcom:level<=kZ (σ.nd b).hash.toNat h:=by
  have hw11:=yQ (σ.nd b).hash.toNat h
  by_cases hlt:level<=kZ (σ.nd b).hash.toNat h
  ·exact hlt
  ·exact absurd ((hu0 _ (by omega)).trans (hu _ (by omega)).symm) (Lh (by omega))
 refine⟨hb.2,?_⟩
 generalize hn:kZ (σ.nd b).hash.toNat h-level=n
 have hlv:kZ (σ.nd b).hash.toNat h-n=level:=by omega
 obtain⟨a,ha⟩:=Vy (x:=b) (h0:=(σ.nd b).hash.toNat) (h:=h) (p:=((σ.nd b).key,(σ.nd b).val)) (k:=c.key) (u:=c.val) (g:=g) n level
 have hP:∀f,dP b (σ.nd b).hash.toNat h ((σ.nd b).key,(σ.nd b).val) c.key c.val g f level=dN b (σ.nd b).hash.toNat h ((σ.nd b).key,(σ.nd b).val) c.key c.val g f n level:=λ f=>by unfold dP;rw[hn,hlv]
 obtain⟨l0,hl0⟩:=ha 0
 dsimp only
 rw[hP 0,hl0]
 show WT H Q (.alloc a.c0 a.init λ f=>zZ (dP b (σ.nd b).hash.toNat h ((σ.nd b).key,(σ.nd b).val) c.key c.val g f.toNat level).tail f K) σ
 obtain⟨l1,hl1⟩:=ha (σ.len+1)
 have key:WT H Q (zZ (dN b (σ.nd b).hash.toNat h ((σ.nd b).key,(σ.nd b).val) c.key c.val g (σ.len+1) n level) 0 K) σ:=by
  refine ur hlf.hl hh hH hk hg1 hne hlf.sz hlf.ha n level σ 0 (σ.len+1) (by omega) i0 hb4 rfl hgg rfl λ υ l2 i2 _ hm=>hK υ _ l2 i2 ?_
  rw[s4 hu,<- hl];exact hm
 rw[hl1] at key
 obtain⟨υ,l2,i2,e2,hw2⟩:=key
 refine⟨υ,l2,i2,e2,?_⟩
 dsimp only
 rw[hP,show(((σ.len+1:Nat):Int)).toNat=σ.len+1 from Int.toNat_natCast _,hl1]
 exact hw2
end
end

end Go.Proofs.YtbajmaoegmbfgaaGreat
