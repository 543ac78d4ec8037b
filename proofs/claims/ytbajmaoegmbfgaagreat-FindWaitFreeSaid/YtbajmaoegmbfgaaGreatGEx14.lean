/- Executions of the reference: DUAL. -/
import Derived.Test.YtbajmaoegmbfgaaGreatGEx11

set_option linter.unusedSimpArgs false
set_option linter.unusedVariables false
namespace Go.Proofs.YtbajmaoegmbfgaaGreat
section
open Go Go.RowKit Go.Ct
section
variable{x:Int}{h0 h:Nat}{p0:Pr}{k:ByteArray}{u gen:Int}{f f':Nat}
theorem Pm:∀n lvl,dN x h0 h p0 k u gen f n lvl≠[]
 | 0,lvl=>by unfold dN;split<;>exact List.cons_ne_nil _ _
 | n+1,lvl=>by rw[dN];exact λ h=>Pm n (lvl+1) (List.append_eq_nil_iff.1 h).1
theorem We:∀n lvl,(dN x h0 h p0 k u gen f n lvl).headD NI.no=(dN x h0 h p0 k u gen f' n lvl).headD NI.no
 | 0,lvl=>by unfold dN;split<;>rfl
 | n+1,lvl=>by
  have:=We n (lvl+1)
  rw[dN,dN]
  have h1:=Pm (x:=x) (h0:=h0) (h:=h) (p0:=p0) (k:=k) (u:=u) (gen:=gen) (f:=f) n (lvl+1)
  have h2:=Pm (x:=x) (h0:=h0) (h:=h) (p0:=p0) (k:=k) (u:=u) (gen:=gen) (f:=f') n (lvl+1)
  revert this h1 h2
  cases dN x h0 h p0 k u gen f n (lvl+1) with
  | nil=>exact λ _ h1=>absurd rfl h1
  | cons a l =>
   cases dN x h0 h p0 k u gen f' n (lvl+1) with
   | nil=>exact λ _ _ h2=>absurd rfl h2
   | cons b l'=>exact λ this _ _=>this
structure NiB(m c:Nat)(a:NI):Prop where
 nv:mK m c {a.c0 with main:=0,prev:=0,status:=0}
 init:a.init<=m
 ys:a.ys.length<=2
theorem niB{a:NI}{m c:Nat}(h1:∀r∈a.xs,r<=m)(h2:∃b:Nat,a.n.bm=(b:Int)/\b<18446744073709551616)(h3:∃b:Nat,a.n.hash=(b:Int)/\b<18446744073709551616)(h4:a.n.bN=0/\a.n.exp=0/\a.n.new=0)(h5:a.init<=m)(h6:a.ys.length<=2):NiB m c a :=
 ⟨⟨by show a.n.bN<=m;omega,by show a.n.exp<=m;omega,by show a.n.new<=m;omega,h1,bH _,bH _,bH _,h2,h3⟩,h5,h6⟩
theorem px{i k:Nat}{a b r:Int}(h:r∈two i k a b):r=a∨r=b:=by
 unfold two at h
 split at h
 ·simpa using h
 ·have:=h;simp at this;exact this.symm
theorem Xk{m c:Nat}{g i:Int}(h:i<=m):NiB m c (qP g i):=niB (λ r hr=>(List.not_mem_nil hr).elim) ⟨0,rfl,by decide⟩ ⟨0,rfl,by decide⟩ ⟨rfl,rfl,rfl⟩ h (Nat.zero_le _)
theorem u5{m c b:Nat}{xs:List Int}(hb:b<18446744073709551616)(h:∀r∈xs,r<=m):NiB m c (az b xs):=niB h ⟨b,rfl,hb⟩ ⟨0,rfl,by decide⟩ ⟨rfl,rfl,rfl⟩ (bH _) (Nat.zero_le _)
theorem aBZ{m c:Nat}(hh:h<18446744073709551616)(hf:1<=f)(hx:x<=m):∀n lvl i a,(dN x h0 h p0 k u gen f n lvl)[i]?=some a->f+i<=m+1->NiB m c a
 | 0,lvl,i,a=>by
  unfold dN
  split
  ·intro h1 _
   cases i with
   | zero=>cases h1;exact niB (λ r hr=>(List.not_mem_nil hr).elim) ⟨0,rfl,by decide⟩ ⟨h,rfl,hh⟩ ⟨rfl,rfl,rfl⟩ (bH _) (Nat.le_trans (Uo _) (Nat.le_refl 2))
   | succ i=>simp at h1
  ·intro h1 h2
   match i,h1,h2 with
   | 0,h1,_=>cases h1;exact niB (λ r hr=>(List.not_mem_nil hr).elim) ⟨0,rfl,by decide⟩ ⟨h,rfl,hh⟩ ⟨rfl,rfl,rfl⟩ (bH _) (Nat.zero_le _)
   | 1,h1,h2=>cases h1;exact u5 (Ax (Ax (by decide) _) _) (λ r hr=>(px hr).elim (λ e=>by omega) (λ e=>by omega))
   | _+2,h1,_=>simp at h1
 | n+1,lvl,i,a=>by
  have ih:=aBZ (c:=c) hh hf hx n (lvl+1) i a
  rw[dN]
  intro h1 h2
  generalize hl:dN x h0 h p0 k u gen f n (lvl+1)=l at ih h1
  rw[List.getElem?_append] at h1
  split at h1
  ·exact ih h1 h2
  ·rename_i h3
   match hi:i-l.length,h1 with
   | 0,h1=>cases h1;exact Xk (by omega)
   | 1,h1=>cases h1;exact u5 (Ax (by decide) _) (λ r hr=>by rw[List.mem_singleton.1 hr];omega)
   | _+2,h1=>simp at h1
end
structure DI(g:Gx)(x:XS)(K:Int->Tr)(l:List NI)(fi:Nat)(y:Nat×Int×XS×List aZ):Prop where
 le:y.1<=l.length
 st:y.2.2.1.st=false
 ok:y.2.2.1.Ok
 zero:y.1=0->y=(0,0,x,[])
 pos:y.1≠0->Nx g x y.2.2.1 y.2.2.2 (zZ (l.drop y.1) y.2.1 K) y.2.1/\1<=y.2.2.1.m/\y.2.2.1.made.getD (y.2.2.1.m-1) 0=y.2.1/\((fi+y.1:Nat):Int)<=y.2.1+1
theorem DI.next{g:Gx}{x:XS}{K:Int->Tr}{l:List NI}{fi:Nat}{y:Nat×Int×XS×List aZ}(h:DI g x K l fi y){lf:Nat->List NI}(hlf:l=lf fi)(hh0:∀f f',(lf f).headD NI.no=(lf f').headD NI.no)(hne:lf fi≠[])(go:fY g x (.alloc ((lf 0).headD NI.no).c0 ((lf 0).headD NI.no).init λ f=>zZ (lf f.toNat).tail f K))(hfi:(fi:Int)=if x.m=x.made.length then((x.L.length+1:Nat):Int) else x.made.getD x.m 0)(hi:y.1<l.length) :
  ∃a K',l[y.1]?=some a/\fY g y.2.2.1 (.alloc a.c0 a.init K')/\(fi+y.1:Nat)<=y.2.2.1.L.length+1/\Ch x y.2.2.1 (aM y.2.2.2)/\x.L.length<=y.2.2.1.L.length/\∀q X' N',Nx g y.2.2.1 X' N' (K' q) q->AlS y.2.2.1 q X'->DI g x K l fi (y.1+1,q,X',y.2.2.2++N'):=by
 obtain⟨i,r,X,N⟩:=y
 have hst:X.st=false:=h.st
 have hok:X.Ok:=h.ok
 by_cases h0:i=0
 ·have e:=h.zero h0
  simp only[Prod.mk.injEq] at e
  obtain⟨rfl,rfl,rfl,rfl⟩:=e
  have hl:∃a t,lf fi=a::t:=by
   cases hq:lf fi with
   | nil=>exact absurd hq hne
   | cons a t=>exact⟨a,t,rfl⟩
  obtain⟨a,t,ha⟩:=hl
  have hd:(lf 0).headD NI.no=a:=by rw[hh0 0 fi,ha];rfl
  rw[hd] at go
  refine⟨a,_,by rw[hlf,ha];rfl,go,?_,⟨[],by simp,λ f hf=>by simp[aM] at hf⟩,Nat.le_refl _,λ q X' N' hn (ha':AlS X q X')=>?_⟩
  ·show fi+0<=X.L.length+1
   split at hfi
   ·omega
   ·have:=mB hok.made X.m;omega
  ·obtain⟨a1,a2,a3,a4,a5⟩:=ha' hst
   have hq:q=(fi:Int):=by rw[hfi];exact a5
   refine⟨hi,a1,hn.ok,λ h=>absurd h (Nat.succ_ne_zero _),λ _=>⟨?_,?_,?_,?_⟩⟩
   ·have h2:=hn.go
    rw[hq] at h2
    rw[List.nil_append]
    refine⟨?_,hn.ok,hn.ext,hn.lc,hn.bd⟩
    show fY g X' (zZ (l.drop 1) q K)
    rw[hq,hlf,ha]
    rw[show((fi:Nat):Int).toNat=fi from by omega,ha] at h2
    exact h2
   ·show 1<=X'.m;omega
   ·show X'.made.getD (X'.m-1) 0=q
    rw[a2];exact a3
   ·show((fi+1:Nat):Int)<=q+1;omega
 ·obtain⟨p1,p2,p3,p4⟩:=h.pos h0
  have p1':Nx g x X N (zZ (l.drop i) r K) r:=p1
  have p2':1<=X.m:=p2
  have p3':X.made.getD (X.m-1) 0=r:=p3
  have p4':((fi+i:Nat):Int)<=r+1:=p4
  have hi':i<l.length:=hi
  have hd:l.drop i=l[i]::l.drop (i+1):=List.drop_eq_getElem_cons hi'
  have g1:=p1'.go
  rw[hd] at g1
  refine⟨l[i],_,List.getElem?_eq_getElem hi',g1,?_,p1'.ch,p1'.len,λ q X' N' hn (ha':AlS X q X')=>?_⟩
  ·show fi+i<=X.L.length+1
   have:=p1'.bd;omega
  ·obtain⟨a1,a2,a3,a4,a5⟩:=ha' hst
   refine⟨hi,a1,hn.ok,λ h=>absurd h (Nat.succ_ne_zero _),λ _=>⟨p1'.trans hn,?_,?_,?_⟩⟩
   ·show 1<=X'.m;omega
   ·show X'.made.getD (X'.m-1) 0=q
    rw[a2];exact a3
   ·show((fi+(i+1):Nat):Int)<=q+1
    have hb:r<q:=by
     rw[a5]
     split
     ·have:=p1'.bd;omega
     ·have h3:=hok.lm
      rw[<- p3']
      exact hok.ms _ _ (by omega) (by omega)
    omega
theorem DI.done{g:Gx}{x:XS}{K:Int->Tr}{l:List NI}{fi:Nat}{y:Nat×Int×XS×List aZ}(h:DI g x K l fi y)(hne:l≠[])(hi:¬y.1<l.length):Nx g x y.2.2.1 y.2.2.2 (K y.2.1) y.2.1:=by
 have h1:=h.le
 have h2:0<l.length:=List.length_pos_iff.2 hne
 have h3:=(h.pos (by omega)).1
 rw[show y.1=l.length by omega,List.drop_length] at h3
 exact h3
end

/- Executions of the reference: DUAL, the walk. -/
section
open Go Go.RowKit Go.Ct
theorem Tc{l:List NI}{i:Nat}{a:NI}(h:l[i]?=some a):(G0 l).getD i 0=a.init:=by
 unfold G0
 rw[kQ,List.getElem?_map,h]
 rfl
section
variable{k:Cl}{bx bm:Nat}{x:XS}{dn:Bool}{rs:Rs}{D:List Nat}{A:Fr}{w:World}{g:Gx}
set_option maxRecDepth 100000 in
theorem zk(hg:g.Ok)(b:Int){h:Nat}(hh:h<18446744073709551616)(level:Nat)(gen:Int)(K:Int->Tr)(hb:b<=x.L.length)(go:fY g x (Up k b h level gen K))(ok:x.Ok)(hs:SF w D (xH k bx bm x dn rs) A [] (xW x) w):Calls Tryz.prog 250 #[.pointer (some ⟨bx,0,none⟩),.int .i64 b,.int .u64 (h:Int),.int .i64 (level:Int),.int .i64 gen] w λ e w'=>∃q:Int×XS×List aZ,e=.returned (.int .i64 q.1)/\Nx g x q.2.1 q.2.2 (K q.1) q.1/\SF w D (xH k bx bm q.2.1 dn rs) [] (aM q.2.2) (xW q.2.1) w':=by
 have hlL:=ok.lL
 have hlm:=ok.lm
 have hm1:x.m<x.made.length->1<=x.made.getD x.m 0/\x.made.getD x.m 0<=x.L.length:=λ h=>⟨ok.m1 _ (by rw[kQ,List.getElem?_eq_getElem h];exact List.getElem_mem h),mB ok.made _⟩
 obtain⟨h0,hv0,hh0⟩:=(ok.nv b).hash
 have hv:(aD x.L b).nd.hash=(h0:Int):=hv0
 refine enter Tryz.func250 Tryz.ntmps250 rfl rfl (bZ hs) ?_
 simp only[bY]
 refine cR ?_;refine cR ?_;refine lR ?_;refine F5 ?_;refine P4 ?_;refine Dw ?_;refine iZ ?_
 refine eI [12,26,27,28,29,30,31,32,33,34,35,36,37,38,39,40,41,42,43,44,45] (λ q:Nat=>[(12,.int .i64 (q:Int))]) (λ q=>1<=q/\q<=x.L.length+1/\(q:Int)=if x.m=x.made.length then((x.L.length+1:Nat):Int) else x.made.getD x.m 0) (λ q=>xH k bx bm x dn rs) (λ q=>[]) (λ q=>xW x) (by decide) (λ _=>by exact rfl) ?_ (λ q f hx=>?_)
 ·refine aV ?_
  refine gJ [0,1,2,3,4,5,6,7,8,9] ?_;refine D2 ?_;refine pV ?_;refine zU ?_;refine eC ?_
  refine bE (λ c35=>?_) (λ c35=>?_)
  ·have hm2:=hm1 (by omega)
   refine gJ [0,1,2,3,4,5,6,7,8,9,10] ?_;refine D2 ?_;refine Oa ?_;refine J7 ?_
   refine fC ((x.made.getD x.m 0).toNat) ?_
   ·exact⟨by omega,by omega,by rw[if_neg (by omega)];omega⟩
  ·refine bB ?_
   refine fC (x.L.length+1) ?_
   ·exact⟨by omega,by omega,by rw[if_pos (by omega)]⟩
 dsimp only[gR,List.map,List.cons_append,List.nil_append]
 obtain⟨hq1,hq2,hq3⟩:=hx
 refine aV ?_;refine lR ?_;refine aH ?_
 refine bE (λ c49=>?_) (λ c49=>?_)
 ·refine cR ?_
  refine aT Tryz.results250 (λ w hw=>?_)
  exact⟨(0,x,[]),rfl,Nx.st (by assumption) go ok,hw.aU (hF:=by exact aY.nil)⟩
 ·refine lA ?_;refine dX [(0,[]),(1,[]),(3,[]),(4,[]),(5,[]),(6,[]),(7,[]),(8,[]),(9,[]),(10,[]),(11,[]),(12,[]),(13,[]),(14,[]),(15,[]),(16,[]),(17,[]),(2,[9,14]),(18,[]),(19,[]),(20,[]),(21,[]),(22,[]),(23,[])] ?_;refine hZ ?_;refine hZ ?_;refine xR ?_;refine xR ?_;refine hZ ?_;refine aP ?_;refine bC (i:=2) (hq:=(cM (hs:=xH k bx bm x dn rs) (os:=xW x) (hc:=λ w hs=>cJ b _ hb go ok hs))) (h:=λ x53 h53=>?_)
  have e0:(aD x.L b).c.hash.toNat=h0:=by rw[hv0];simp
  have go2:=h53.1
  rw[e0] at go2
  refine bC (i:=18) (hq:=(cF (hc:=λ w1 hw=>lu (v:=aD x.L b) (at':=b) (h0:=h0) (h:=h) (fi:=q) (lvl:=level) hv hh0 hh hq1 (by omega) w1))) (h:=λ x69 h69=>?_);refine aP ?_;refine cE (i:=20) (hq:=(bL rf rfl)) (h:=?_);refine cE (i:=21) (hq:=(bL rf rfl)) (h:=?_);refine Zh ?_;refine aV ?_;refine Fs ?_
  refine nA [11,15,72,73,74,75,76,77,78,79,80,81,82,83,84,85,86,87] (λ y:Nat×Int×XS×List aZ=>[(15,.int .i64 (y.1:Int)),(11,.int .i64 y.2.1)]) (λ y=>DI g x K (dQ b h0 h (aD x.L b) k.key k.val gen q (kZ h0 h-level)) q y) (λ y=>xH k bx bm y.2.2.1 dn rs) (λ y=>(x69.pn,gN x69.L)::(x69.pc,aG x69.ini)::(aM x69.L++aM y.2.2.2)) (λ y=>xW y.2.2.1) (λ y=>x69.L.length-y.1) ((0,0,x,[])) (⟨Nat.zero_le _,by assumption,ok,λ _=>rfl,λ h=>absurd rfl h⟩) (λ y f hx=>?_) (hw0:=λ w hw=>hw.sub (List.Sublist.refl _) (aY.iP λ f hf=>by simpa[aM] using hf) (List.Sublist.refl _))
  dsimp only[gR,List.map,List.cons_append,List.nil_append]
  have hy:=hx
  refine Df ?_;refine dI ?_;refine vX ?_
  refine bE (λ c75=>?_) (λ c75=>?_)
  ·obtain⟨hd,hd1,hd2⟩:=h69
   have hle:=hd.len
   have hlt:y.1<x69.L.length:=by omega
   obtain⟨a,K',ha,ga,hfb,hch,hln,hnx⟩:=hy.next (lf:=λ f=>dQ b h0 h (aD x.L b) k.key k.val gen f (kZ h0 h-level)) rfl (λ f f'=>We _ _) (Pm _ _) go2 hq3 (by omega)
   obtain⟨a',ha',hma⟩:=hd.m.at hlt
   have haa:a'=a:=Option.some.inj (ha'.symm.trans ha)
   subst haa
   have hini:x69.ini.getD y.1 0=a'.init:=by rw[hd.ini];exact Tc ha
   have hB:=aBZ (c:=y.2.2.1.cs.length) hh hq1 (show b<=y.2.2.1.L.length by omega) _ _ _ _ ha (by omega)
   have hsx:=hma.sx
   have htw:=hy.ok.two
   have hcl:=yQ h0 h
   have hdl:(dQ b h0 h (aD x.L b) k.key k.val gen q (kZ h0 h-level)).length<=2+2*(kZ h0 h-level):=Ts _ _
   have hyy:=hB.ys
   rw[<- hma.ys] at hyy
   have hc0:(x69.L.getD y.1 aZ.zero).nd.c (x69.L.getD y.1 aZ.zero).xs (x69.L.getD y.1 aZ.zero).ys=a'.c0:=hma.c0
   refine qI ?_;refine gJ [0,1,2,3,4,5,6,7,8,9,10] ?_;refine hZ ?_;refine aP ?_;refine Oa ?_;refine hZ ?_;refine Oa ?_;refine bC (i:=9) (hq:=(cM (hs:=xH k bx bm y.2.2.1 dn rs) (os:=xW y.2.2.1) (A0:=[((x69.L.getD y.1 aZ.zero).nd.brA,aG (x69.L.getD y.1 aZ.zero).xs),((x69.L.getD y.1 aZ.zero).nd.prA,dH (x69.L.getD y.1 aZ.zero).ys)]) (hA:=aX.of λ f hf=>.inr (.inr (.inl (by simp only[List.mem_cons,List.not_mem_nil,or_false] at hf;rcases hf with rfl|rfl;exact .tail _ (.tail _ (List.mem_append_left _ (K6 hlt)));exact .tail _ (.tail _ (List.mem_append_left _ (K8 hlt))))))) (hc:=λ w hs=>Wu hg (n:=(x69.L.getD y.1 aZ.zero).nd) (xs:=(x69.L.getD y.1 aZ.zero).xs) (ys:=(x69.L.getD y.1 aZ.zero).ys) (x69.ini.getD y.1 0) K' hma.fit.brN hma.fit.prN (by omega) (by omega) (by rw[hc0];exact hB.nv) (by rw[hini];exact hB.init) (by rw[hc0,hini];exact ga) hy.ok hs))) (h:=λ x87 h87=>?_);refine J7 ?_;refine eP ?_;refine yH ?_
   refine iJ ((y.1+1,x87.1,x87.2.1,y.2.2.2++x87.2.2)) ?_ (hw1:=λ w hw=>hw.sub (List.Sublist.refl _) (aY.iP λ f hf=>by simp only[cZ,List.mem_append,List.mem_cons] at hf ⊢;rcases hf with hf|hf|hf|hf|hf;exact .inr (.inl hf);exact .inr (.inr (.inl hf));exact .inr (.inr (.inr (.inl hf)));exact .inr (.inr (.inr (.inr hf)));exact .inl hf) (List.Sublist.refl _))
   ·exact hnx _ _ _ h87.1 h87.2
  ·refine bM rfl ?_;refine J2 ?_;refine J1 ?_
   refine aT Tryz.results250 (λ w hw=>?_)
   exact⟨(y.2.1,y.2.2.1,y.2.2.2),rfl,hy.done (Pm _ _) (by have:=h69.1.len;omega),(hw.fE λ f hf=>.inr (.tail _ (.tail _ (List.mem_append_right _ hf)))).aU (hF:=by exact aY.all)⟩
end
end

/- Executions of the reference: PERMITS, BELOW; pairs in nodes. -/
section
open Go Go.RowKit Go.Ct
section
variable{v:aZ}{n c m:Nat}{w:World}
theorem aBS(h:mK n c v.c)(k:ByteArray)(u:Int)(hr:qS w v.nd v.xs v.ys)(hy:v.ys.length<=150000000000):Calls Tryz.prog 247 #[v.nd.v,.string k,.int .u64 u] w (aAY w (kU v.nd v.xs v.ys k u) v.nd.hash):=S5 (n:=v.nd) k u (eS h).1 (eS h).2 hr hy
theorem aBB(h:mK n c v.c)(k:ByteArray)(hr:qS w v.nd v.xs v.ys)(hy:v.ys.length<=150000000000):Calls Tryz.prog 251 #[v.nd.v,.string k] w (aBV w (qE v.nd v.xs v.ys k) v.nd.hash):=O3 (n:=v.nd) k (eS h).1 (eS h).2 hr hy
theorem ju(o:Option (List Pr))(h:Int)(x:Option Addr×Nat):(m4 o h x).brN=([]:List Int).length/\(m4 o h x).prN=(Zg o).length:=by cases o<;>exact⟨rfl,rfl⟩
theorem B6(q:List Pr)(h:Int)(x:Option Addr×Nat):(Nc (some q) h x={Nd.zero with kind:=5,hash:=h,key:=(q.getD 0 (⟨#[]⟩,0)).1,val:=(q.getD 0 (⟨#[]⟩,0)).2}/\Iq (some q)=[])∨(Nc (some q) h x={Nd.zero with kind:=6,hash:=h,prA:=x.1,prN:=q.length,dH:=x.2}/\Iq (some q)=q):=by
 by_cases hq:q.length=1
 ·exact .inl ⟨if_pos hq,if_pos hq⟩
 ·exact .inr ⟨if_neg hq,if_neg hq⟩
theorem dw(o:Option (List Pr))(h:Int)(x:Option Addr×Nat):(Nc o h x).brN=([]:List Int).length/\(Nc o h x).prN=(Iq o).length:=by
 cases o with
 | none=>exact⟨rfl,rfl⟩
 | some l=>rcases B6 l h x with⟨e1,e2⟩|⟨e1,e2⟩<;>rw[e1,e2]<;>exact⟨rfl,rfl⟩
theorem aA9{A F:Fr}{O:List Ow}{o:Option (List Pr)}{h:Int}{x:Option Addr×Nat}:aX A ((x.1,dH (Zg o))::F) O [((m4 o h x).brA,aG []),((m4 o h x).prA,dH (Zg o))]:=by
 cases o with
 | none=>exact .cons (.inl rfl) (.cons (.inl rfl) .nil)
 | some q=>exact .cons (.inl rfl) (.cons (.inr (.inr (.inl (.head _)))) .nil)
theorem aAM{A F:Fr}{O:List Ow}{o:Option (List Pr)}{h:Int}{x:Option Addr×Nat}:aX A ((x.1,dH (Iq o))::F) O [((Nc o h x).brA,aG []),((Nc o h x).prA,dH (Iq o))]:=by
 cases o with
 | none=>exact .cons (.inl rfl) (.cons (.inl rfl) .nil)
 | some q =>
  rcases B6 q h x with⟨e1,e2⟩|⟨e1,e2⟩<;>rw[e1,e2]
  ·exact .cons (.inl rfl) (.cons (.inl rfl) .nil)
  ·exact .cons (.inl rfl) (.cons (.inr (.inr (.inl (.head _)))) .nil)
theorem w5{o:Option (List Pr)}{h:Int}(x:Option Addr×Nat)(hh:∃b:Nat,h=(b:Int)/\b<18446744073709551616):mK m c {(m4 o h x).c [] (Zg o) with main:=0,prev:=0,status:=0}:=by
 cases o with
 | none=>exact⟨bH _,bH _,bH _,(λ r hr=>nomatch hr),bH _,bH _,bH _,⟨0,rfl,by decide⟩,⟨0,rfl,by decide⟩⟩
 | some q=>exact⟨bH _,bH _,bH _,(λ r hr=>nomatch hr),bH _,bH _,bH _,⟨0,rfl,by decide⟩,hh⟩
theorem aAp{o:Option (List Pr)}{h:Int}(x:Option Addr×Nat)(hh:∃b:Nat,h=(b:Int)/\b<18446744073709551616):mK m c {(Nc o h x).c [] (Iq o) with main:=0,prev:=0,status:=0}:=by
 cases o with
 | none=>exact⟨bH _,bH _,bH _,(λ r hr=>nomatch hr),bH _,bH _,bH _,⟨0,rfl,by decide⟩,⟨0,rfl,by decide⟩⟩
 | some q =>
  rcases B6 q h x with⟨e1,e2⟩|⟨e1,e2⟩<;>rw[e1,e2]<;>exact⟨bH _,bH _,bH _,(λ r hr=>nomatch hr),bH _,bH _,bH _,⟨0,rfl,by decide⟩,hh⟩
theorem aAe(l:List Int)(ys:List Pr)(d:Nd)(k:ByteArray)(u:Int):(Zg (kU d l ys k u)).length<=ys.length+1:=by
 have:=pi ys k u
 unfold kU
 split
 ·exact this
 ·exact Nat.zero_le _
theorem yp(l:List Int)(ys:List Pr)(d:Nd)(k:ByteArray):(Iq (qE d l ys k)).length<=ys.length:=by
 have:=Zv ys k
 unfold qE
 split
 ·simp only[Iq];split
  ·exact Nat.zero_le _
  ·exact this
 ·exact Nat.zero_le _
theorem rB{x:XS}(h:x.Ok)(r:Int):(aD x.L r).ys.length<=x.L.length:=by
 unfold aD
 split
 ·exact h.ys _ (iL (L:=x.L) (k:=(r-1).toNat) (by omega))
 ·exact Nat.zero_le _
end
theorem Ih{n c h:Nat}{k:ByteArray}{u:Int}(hh:h<18446744073709551616):mK n c {(({Nd.zero with kind:=4,hash:=(h:Int),key:=k,val:=u}:Nd).c [] []) with main:=0,prev:=0,status:=0}:=⟨bH _,bH _,bH _,(λ r hr=>nomatch hr),bH _,bH _,bH _,⟨0,rfl,by decide⟩,⟨h,rfl,hh⟩⟩
theorem pJ(p:Value)(o f:Bool)(v:Int)(w:World):Calls Tryz.prog 248 #[p,.bool o,.bool f,.int .u64 v] w λ e w'=>e=.returned (.tuple #[.agg ⟨(oA f v).cells⟩,.int .i64 (if o=true then 1 else 0)])/\St w [] [] w':=by
 refine enter Tryz.func248 Tryz.ntmps248 rfl rfl (SF.s0 w) ?_
 simp only[bY]
 refine J0 ?_;refine aI (λ x8=>?_);refine wJ ?_;refine aR (cV (hc:=λ w1 hw=>gK f v w1)) (λ x13=>?_);refine aI (λ x10=>?_);refine J5 ?_;refine J0 ?_;refine uN ?_;refine kM ?_;refine oX ?_
 refine bE (λ c16=>?_) (λ c16=>?_)
 ·refine pK ?_;refine zH ?_
  refine bD Tryz.results248 (λ w hw=>?_)
  rw[if_neg (by simp_all)];exact⟨rfl,hw.done⟩
 ·refine bB ?_;refine pK ?_;refine zH ?_
  refine bD Tryz.results248 (λ w hw=>?_)
  rw[if_pos (by simp_all)];exact⟨rfl,hw.done⟩
section
variable{k:Cl}{bx bm:Nat}{x:XS}{dn:Bool}{rs:Rs}{D:List Nat}{A:Fr}{w:World}{g:Gx}
theorem wS(f:Bool)(v:Int)(hs:SF w D (xH k bx bm x dn rs) A [] (xW x) w):Calls Tryz.prog 246 #[.pointer (some ⟨bx,0,none⟩),.bool f,.int .u64 v] w λ e w'=>∃q:Unit,e=.returned (.bool (mP k f v))/\True/\SF w D (xH k bx bm x dn rs) [] [] (xW x) w':=by
 refine enter Tryz.func246 Tryz.ntmps246 rfl rfl (bZ hs) ?_
 simp only[bY]
 refine Is ?_;refine Ew ?_;refine J3 ?_;refine aH ?_;refine cI ?_;refine lF ?_
 refine bE (λ c12=>?_) (λ c12=>?_)
 ·refine J2 ?_;refine yD ?_;refine J1 ?_
  refine aT Tryz.results246 (λ w hw=>?_)
  rw[show mP k f v=!f from if_pos (by assumption)];exact⟨(),rfl,trivial,hw.aU⟩
 ·refine lF ?_
  refine bE (λ c16=>?_) (λ c16=>?_)
  ·refine J2 ?_;refine J1 ?_
   refine aT Tryz.results246 (λ w hw=>?_)
   rw[show mP k f v=f from(if_neg (by assumption)).trans (if_pos (by assumption))];exact⟨(),rfl,trivial,hw.aU⟩
  ·refine lF ?_
   refine bE (λ c19=>?_) (λ c19=>?_)
   ·refine iO ?_
    (refine eM 22 (λ g22=>?_) (λ g22=>?_)<;>(first|refine aJ ?_|(refine aF ?_;refine aA ?_)))
    all_goals (refine J79 ?_;refine J6 ?_;refine zR ?_;refine J1 ?_)
    all_goals
    refine aT Tryz.results246 (λ w hw=>?_)
    have e:mP k f v=(f&&v==k.exp):=(if_neg (by assumption)).trans ((if_neg (by assumption)).trans (if_pos (by assumption)))
    rw[e]
    exact⟨(),by simp_all<;>rfl,trivial,hw.aU⟩
   ·refine oB ?_;refine cR ?_
    refine aT Tryz.results246 (λ w hw=>?_)
    rw[show mP k f v=true from(if_neg (by assumption)).trans ((if_neg (by assumption)).trans (if_neg (by assumption)))];exact⟨(),rfl,trivial,hw.aU⟩
theorem Wg(hg:g.Ok)(i m index gen:Int)(K:Int->Tr)(ht:k.t.root<=9223372036854775807)(hi:i<=x.L.length)(hm:m<=x.L.length)(hA:∀f∈aM x.L,f∈A)(go:fY g x (C1 k i m index gen K))(ok:x.Ok)(hs:SF w D (xH k bx bm x dn rs) A [] (xW x) w):Calls Tryz.prog 225 #[.pointer (some ⟨bx,0,none⟩),.int .i64 i,.int .i64 m,.int .i64 index,.int .i64 gen] w λ e w'=>∃q:Int×XS×List aZ,e=.returned (.int .i64 q.1)/\Nx g x q.2.1 q.2.2 (K q.1) q.1/\SF w D (xH k bx bm q.2.1 dn rs) [] (aM q.2.2) (xW q.2.1) w':=by
 refine enter Tryz.func225 Tryz.ntmps225 rfl rfl (bZ hs) ?_
 simp only[bY]
 refine cR ?_;refine iO ?_;refine aC (cM (hs:=xH k bx bm x dn rs) (os:=xW x) (hc:=λ w hs=>cJ m _ hm go ok hs)) (λ x16 h16=>?_);refine aA ?_;refine aR (cV (hc:=λ w1 hw=>Jk (v:=aD x.L m) (ok.nv m) index (ok.rG hw hA m))) (λ x18=>?_);refine aA ?_;refine aB (bL rf rfl) rfl ?_;refine aB (bL rf rfl) rfl ?_;refine J8 ?_;refine aV ?_;refine lR ?_;refine aA ?_
 (refine eM 25 (λ g25=>?_) (λ g25=>?_)<;>(first|refine aJ ?_|(refine aF ?_;refine aA ?_)))
 all_goals ((first|refine aJ ?_|(refine aF ?_;refine aA ?_));(first|refine aJ ?_|(refine aF ?_;refine aC (cM (hs:=xH k bx bm x dn rs) (os:=xW x) (hc:=λ w hs=>cJ ((iU (aD x.L m).c index).getD 0) _ (lH (ok.nv m) index) h16.1 ok hs)) (λ x28 h28=>?_)));refine J81 ?_;refine zR ?_;refine aH ?_)
 all_goals
 refine bE (λ c32=>?_) (λ c32=>?_)
 ·all_goals (refine J2 ?_;refine J1 ?_)
  all_goals
   refine aT Tryz.results225 (λ w hw=>?_)
   exact⟨((iU (aD x.L m).c index).getD 0,x,[]),rfl,⟨by first|exact h28.1.to (λ _=>if_pos (by assumption))|exact go.bV (by assumption),ok,by simp,Nat.le_refl _,lH (ok.nv m) index⟩,hw.aU (hF:=by exact aY.nil)⟩
 ·try exact nv c32
  all_goals (refine yV ?_;refine F5 ?_;refine aE ?_;refine aB (aN (k:=2) (vs:=[.int .i64 k.t.root,.bool k.t.ro]) rf cL dJ rfl rfl) rfl ?_;refine pY ?_;refine aA ?_;refine aC (cM (hs:=xH k bx bm x dn rs) (os:=xW x) (A0:=aM x.L) (hA:=aX.of λ f hf=>.inr (.inl (hA f hf))) (hc:=λ w hs=>qb hg k.t i m index _ ht hi hm (λ f hf=>hf) (h28.1.to (λ _=>if_neg (by assumption))) ok hs)) (λ x43 h43=>?_);refine J1 ?_)
  all_goals
   refine aT Tryz.results225 (λ w hw=>?_)
   exact⟨x43,rfl,h43,by rw[List.append_nil] at hw;exact hw.aU (hF:=by exact aY.all)⟩
end
end

end Go.Proofs.YtbajmaoegmbfgaaGreat
