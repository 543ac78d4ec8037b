/- Executions of the reference: DUAL. -/
import Derived.Test.YtbajmaoegmbfgaaGreatGEx11

set_option linter.unusedSimpArgs false
set_option linter.unusedVariables false
namespace Go.Proofs.YtbajmaoegmbfgaaGreat
section
open Go Go.RowKit Go.Ct
section
variable{x:Int}{h0 h:Nat}{p0:Pr}{k:ByteArray}{u gen:Int}{f f':Nat}
theorem Pf:∀n lvl,dN x h0 h p0 k u gen f n lvl≠[]
 | 0,lvl=>by unfold dN;split<;>exact List.cons_ne_nil _ _
 | n+1,lvl=>by rw[dN];exact λ h=>Pf n (lvl+1) (List.append_eq_nil_iff.1 h).1
theorem Ux:∀n lvl,(dN x h0 h p0 k u gen f n lvl).headD NI.no=(dN x h0 h p0 k u gen f' n lvl).headD NI.no
 | 0,lvl=>by unfold dN;split<;>rfl
 | n+1,lvl=>by
  have:=Ux n (lvl+1)
  rw[dN,dN]
  have h1:=Pf (x:=x) (h0:=h0) (h:=h) (p0:=p0) (k:=k) (u:=u) (gen:=gen) (f:=f) n (lvl+1)
  have h2:=Pf (x:=x) (h0:=h0) (h:=h) (p0:=p0) (k:=k) (u:=u) (gen:=gen) (f:=f') n (lvl+1)
  revert this h1 h2
  cases dN x h0 h p0 k u gen f n (lvl+1) with
  | nil=>exact λ _ h1=>absurd rfl h1
  | cons a l =>
   cases dN x h0 h p0 k u gen f' n (lvl+1) with
   | nil=>exact λ _ _ h2=>absurd rfl h2
   | cons b l'=>exact λ this _ _=>this
structure NiB(m c:Nat)(a:NI):Prop where
 nv:lJ m c {a.c0 with main:=0,prev:=0,status:=0}
 init:a.init<=m
 ys:a.ys.length<=2
theorem niB{a:NI}{m c:Nat}(h1:∀r∈a.xs,r<=m)(h2:∃b:Nat,a.n.bm=(b:Int)/\b<18446744073709551616)(h3:∃b:Nat,a.n.hash=(b:Int)/\b<18446744073709551616)(h4:a.n.aZ=0/\a.n.exp=0/\a.n.new=0)(h5:a.init<=m)(h6:a.ys.length<=2):NiB m c a :=
 ⟨⟨by show a.n.aZ<=m;omega,by show a.n.exp<=m;omega,by show a.n.new<=m;omega,h1,bH _,bH _,bH _,h2,h3⟩,h5,h6⟩
theorem qo{i k:Nat}{a b r:Int}(h:r∈two i k a b):r=a∨r=b:=by
 unfold two at h
 split at h
 ·simpa using h
 ·have:=h;simp at this;exact this.symm
theorem Vv{m c:Nat}{g i:Int}(h:i<=m):NiB m c (qL g i):=niB (λ r hr=>(List.not_mem_nil hr).elim) ⟨0,rfl,by decide⟩ ⟨0,rfl,by decide⟩ ⟨rfl,rfl,rfl⟩ h (Nat.zero_le _)
theorem uf{m c b:Nat}{xs:List Int}(hb:b<18446744073709551616)(h:∀r∈xs,r<=m):NiB m c (cu b xs):=niB h ⟨b,rfl,hb⟩ ⟨0,rfl,by decide⟩ ⟨rfl,rfl,rfl⟩ (bH _) (Nat.zero_le _)
theorem aA9{m c:Nat}(hh:h<18446744073709551616)(hf:1<=f)(hx:x<=m):∀n lvl i a,(dN x h0 h p0 k u gen f n lvl)[i]?=some a->f+i<=m+1->NiB m c a
 | 0,lvl,i,a=>by
  unfold dN
  split
  ·intro h1 _
   cases i with
   | zero=>cases h1;exact niB (λ r hr=>(List.not_mem_nil hr).elim) ⟨0,rfl,by decide⟩ ⟨h,rfl,hh⟩ ⟨rfl,rfl,rfl⟩ (bH _) (Nat.le_trans (Tg _) (Nat.le_refl 2))
   | succ i=>simp at h1
  ·intro h1 h2
   match i,h1,h2 with
   | 0,h1,_=>cases h1;exact niB (λ r hr=>(List.not_mem_nil hr).elim) ⟨0,rfl,by decide⟩ ⟨h,rfl,hh⟩ ⟨rfl,rfl,rfl⟩ (bH _) (Nat.zero_le _)
   | 1,h1,h2=>cases h1;exact uf (Av (Av (by decide) _) _) (λ r hr=>(qo hr).elim (λ e=>by omega) (λ e=>by omega))
   | _+2,h1,_=>simp at h1
 | n+1,lvl,i,a=>by
  have ih:=aA9 (c:=c) hh hf hx n (lvl+1) i a
  rw[dN]
  intro h1 h2
  generalize hl:dN x h0 h p0 k u gen f n (lvl+1)=l at ih h1
  rw[List.getElem?_append] at h1
  split at h1
  ·exact ih h1 h2
  ·rename_i h3
   match hi:i-l.length,h1 with
   | 0,h1=>cases h1;exact Vv (by omega)
   | 1,h1=>cases h1;exact uf (Av (by decide) _) (λ r hr=>by rw[List.mem_singleton.1 hr];omega)
   | _+2,h1=>simp at h1
end
structure DI(g:Gx)(x:XS)(K:Int->Tr)(l:List NI)(fi:Nat)(y:Nat×Int×XS×List aU):Prop where
 le:y.1<=l.length
 st:y.2.2.1.st=false
 ok:y.2.2.1.Ok
 zero:y.1=0->y=(0,0,x,[])
 pos:y.1≠0->Nx g x y.2.2.1 y.2.2.2 (Ag (l.drop y.1) y.2.1 K) y.2.1/\1<=y.2.2.1.m/\y.2.2.1.made.getD (y.2.2.1.m-1) 0=y.2.1/\((fi+y.1:Nat):Int)<=y.2.1+1
theorem DI.next{g:Gx}{x:XS}{K:Int->Tr}{l:List NI}{fi:Nat}{y:Nat×Int×XS×List aU}(h:DI g x K l fi y){lf:Nat->List NI}(hlf:l=lf fi)(hh0:∀f f',(lf f).headD NI.no=(lf f').headD NI.no)(hne:lf fi≠[])(go:fN g x (.alloc ((lf 0).headD NI.no).c0 ((lf 0).headD NI.no).init λ f=>Ag (lf f.toNat).tail f K))(hfi:(fi:Int)=if x.m=x.made.length then((x.L.length+1:Nat):Int) else x.made.getD x.m 0)(hi:y.1<l.length) :
  ∃a K',l[y.1]?=some a/\fN g y.2.2.1 (.alloc a.c0 a.init K')/\(fi+y.1:Nat)<=y.2.2.1.L.length+1/\Ch x y.2.2.1 (aL y.2.2.2)/\x.L.length<=y.2.2.1.L.length/\∀q X' N',Nx g y.2.2.1 X' N' (K' q) q->AlS y.2.2.1 q X'->DI g x K l fi (y.1+1,q,X',y.2.2.2++N'):=by
 obtain⟨i,r,X,N⟩:=y
 have hst:X.st=false:=h.st
 have hok:X.Ok:=h.ok
 by_cases h0:i=0
 ·have e:=h.zero h0
  simp only[Prod.mk.injEq] at e
  obtain⟨rfl,rfl,rfl,rfl⟩:=e
  have hl:∃a t,lf fi=a::t:=by
   cases hq:lf fi with
   | nil=>exact absurd hq hne
   | cons a t=>exact⟨a,t,rfl⟩
  obtain⟨a,t,ha⟩:=hl
  have hd:(lf 0).headD NI.no=a:=by rw[hh0 0 fi,ha];rfl
  rw[hd] at go
  refine⟨a,_,by rw[hlf,ha];rfl,go,?_,⟨[],by simp,λ f hf=>by simp[aL] at hf⟩,Nat.le_refl _,λ q X' N' hn (ha':AlS X q X')=>?_⟩
  ·show fi+0<=X.L.length+1
   split at hfi
   ·omega
   ·have:=lX hok.made X.m;omega
  ·obtain⟨a1,a2,a3,a4,a5⟩:=ha' hst
   have hq:q=(fi:Int):=by rw[hfi];exact a5
   refine⟨hi,a1,hn.ok,λ h=>absurd h (Nat.succ_ne_zero _),λ _=>⟨?_,?_,?_,?_⟩⟩
   ·have h2:=hn.go
    rw[hq] at h2
    rw[List.nil_append]
    refine⟨?_,hn.ok,hn.ext,hn.lc,hn.bd⟩
    show fN g X' (Ag (l.drop 1) q K)
    rw[hq,hlf,ha]
    rw[show((fi:Nat):Int).toNat=fi from by omega,ha] at h2
    exact h2
   ·show 1<=X'.m;omega
   ·show X'.made.getD (X'.m-1) 0=q
    rw[a2];exact a3
   ·show((fi+1:Nat):Int)<=q+1;omega
 ·obtain⟨p1,p2,p3,p4⟩:=h.pos h0
  have p1':Nx g x X N (Ag (l.drop i) r K) r:=p1
  have p2':1<=X.m:=p2
  have p3':X.made.getD (X.m-1) 0=r:=p3
  have p4':((fi+i:Nat):Int)<=r+1:=p4
  have hi':i<l.length:=hi
  have hd:l.drop i=l[i]::l.drop (i+1):=List.drop_eq_getElem_cons hi'
  have g1:=p1'.go
  rw[hd] at g1
  refine⟨l[i],_,List.getElem?_eq_getElem hi',g1,?_,p1'.ch,p1'.len,λ q X' N' hn (ha':AlS X q X')=>?_⟩
  ·show fi+i<=X.L.length+1
   have:=p1'.bd;omega
  ·obtain⟨a1,a2,a3,a4,a5⟩:=ha' hst
   refine⟨hi,a1,hn.ok,λ h=>absurd h (Nat.succ_ne_zero _),λ _=>⟨p1'.trans hn,?_,?_,?_⟩⟩
   ·show 1<=X'.m;omega
   ·show X'.made.getD (X'.m-1) 0=q
    rw[a2];exact a3
   ·show((fi+(i+1):Nat):Int)<=q+1
    have hb:r<q:=by
     rw[a5]
     split
     ·have:=p1'.bd;omega
     ·have h3:=hok.lm
      rw[<- p3']
      exact hok.ms _ _ (by omega) (by omega)
    omega
theorem DI.done{g:Gx}{x:XS}{K:Int->Tr}{l:List NI}{fi:Nat}{y:Nat×Int×XS×List aU}(h:DI g x K l fi y)(hne:l≠[])(hi:¬y.1<l.length):Nx g x y.2.2.1 y.2.2.2 (K y.2.1) y.2.1:=by
 have h1:=h.le
 have h2:0<l.length:=List.length_pos_iff.2 hne
 have h3:=(h.pos (by omega)).1
 rw[show y.1=l.length by omega,List.drop_length] at h3
 exact h3
end

/- Executions of the reference: DUAL, the walk. -/
section
open Go Go.RowKit Go.Ct
theorem Sh{l:List NI}{i:Nat}{a:NI}(h:l[i]?=some a):(F6 l).getD i 0=a.init:=by
 unfold F6
 rw[jK,List.getElem?_map,h]
 rfl
section
variable{k:Cl}{bx bm:Nat}{x:XS}{dn:Bool}{rs:Rs}{D:List Nat}{A:Fr}{w:World}{g:Gx}
set_option maxRecDepth 100000 in
theorem yc(hg:g.Ok)(b:Int){h:Nat}(hh:h<18446744073709551616)(level:Nat)(gen:Int)(K:Int->Tr)(hb:b<=x.L.length)(go:fN g x (T7 k b h level gen K))(ok:x.Ok)(hs:SF w D (xH k bx bm x dn rs) A [] (xW x) w):Calls Tryz.prog 250 #[.pointer (some ⟨bx,0,none⟩),.int .i64 b,.int .u64 (h:Int),.int .i64 (level:Int),.int .i64 gen] w λ e w'=>∃q:Int×XS×List aU,e=.returned (.int .i64 q.1)/\Nx g x q.2.1 q.2.2 (K q.1) q.1/\SF w D (xH k bx bm q.2.1 dn rs) [] (aL q.2.2) (xW q.2.1) w':=by
 have hlL:=ok.lL
 have hlm:=ok.lm
 have hm1:x.m<x.made.length->1<=x.made.getD x.m 0/\x.made.getD x.m 0<=x.L.length:=λ h=>⟨ok.m1 _ (by rw[jK,List.getElem?_eq_getElem h];exact List.getElem_mem h),lX ok.made _⟩
 obtain⟨h0,hv0,hh0⟩:=(ok.nv b).hash
 have hv:(aC x.L b).nd.hash=(h0:Int):=hv0
 refine enter Tryz.func250 Tryz.ntmps250 rfl rfl (cB hs) ?_
 simp only[cD]
 refine cU ?_;refine cU ?_;refine lD ?_;refine I7 ?_;refine P6 ?_;refine F5 ?_;refine iW ?_
 refine eE [12,26,27,28,29,30,31,32,33,34,35,36,37,38,39,40,41,42,43,44,45] (λ q:Nat=>[(12,.int .i64 (q:Int))]) (λ q=>1<=q/\q<=x.L.length+1/\(q:Int)=if x.m=x.made.length then((x.L.length+1:Nat):Int) else x.made.getD x.m 0) (λ q=>xH k bx bm x dn rs) (λ q=>[]) (λ q=>xW x) (by decide) (λ _=>by exact rfl) ?_ (λ q f hx=>?_)
 ·refine aR ?_
  refine gE [0,1,2,3,4,5,6,7,8,9] ?_;refine Ea ?_;refine oF ?_;refine Cc ?_;refine eK ?_
  refine bC (λ c35=>?_) (λ c35=>?_)
  ·have hm2:=hm1 (by omega)
   refine gE [0,1,2,3,4,5,6,7,8,9,10] ?_;refine Ea ?_;refine U6 ?_;refine J7 ?_
   refine eY ((x.made.getD x.m 0).toNat) ?_
   ·exact⟨by omega,by omega,by rw[if_neg (by omega)];omega⟩
  ·refine aV ?_
   refine eY (x.L.length+1) ?_
   ·exact⟨by omega,by omega,by rw[if_pos (by omega)]⟩
 dsimp only[gZ,List.map,List.cons_append,List.nil_append]
 obtain⟨hq1,hq2,hq3⟩:=hx
 refine aR ?_;refine Kb9 ?_
 refine bC (λ c49=>?_) (λ c49=>?_)
 ·refine cU ?_
  refine aN Tryz.results250 (λ w hw=>?_)
  exact⟨(0,x,[]),rfl,Nx.st (by assumption) go ok,hw.aW (hF:=by exact aY.nil)⟩
 ·refine lI ?_;refine eM [(0,[]),(1,[]),(3,[]),(4,[]),(5,[]),(6,[]),(7,[]),(8,[]),(9,[]),(10,[]),(11,[]),(12,[]),(13,[]),(14,[]),(15,[]),(16,[]),(17,[]),(2,[9,14]),(18,[]),(19,[]),(20,[]),(21,[]),(22,[]),(23,[])] ?_;refine gU ?_;refine gU ?_;refine xP ?_;refine xP ?_;refine gU ?_;refine bB ?_;refine bG (i:=2) (hq:=(cM (hs:=xH k bx bm x dn rs) (os:=xW x) (hc:=λ w hs=>cG b _ hb go ok hs))) (h:=λ x53 h53=>?_)
  have e0:(aC x.L b).c.hash.toNat=h0:=by rw[hv0];simp
  have go2:=h53.1
  rw[e0] at go2
  refine bG (i:=18) (hq:=(cF (hc:=λ w1 hw=>Zk (v:=aC x.L b) (at':=b) (h0:=h0) (h:=h) (fi:=q) (lvl:=level) hv hh0 hh hq1 (by omega) w1))) (h:=λ x69 h69=>?_);refine bB ?_;refine cN (i:=20) (hq:=(bN rf rfl)) (h:=?_);refine cN (i:=21) (hq:=(bN rf rfl)) (h:=?_);refine kh ?_;refine aR ?_;refine Ht ?_
  refine oJ [11,15,72,73,74,75,76,77,78,79,80,81,82,83,84,85,86,87] (λ y:Nat×Int×XS×List aU=>[(15,.int .i64 (y.1:Int)),(11,.int .i64 y.2.1)]) (λ y=>DI g x K (dQ b h0 h (aC x.L b) k.key k.val gen q (kQ h0 h-level)) q y) (λ y=>xH k bx bm y.2.2.1 dn rs) (λ y=>(x69.pn,iR x69.L)::(x69.pc,aH x69.ini)::(aL x69.L++aL y.2.2.2)) (λ y=>xW y.2.2.1) (λ y=>x69.L.length-y.1) ((0,0,x,[])) (⟨Nat.zero_le _,by assumption,ok,λ _=>rfl,λ h=>absurd rfl h⟩) (λ y f hx=>?_) (hw0:=λ w hw=>hw.sub (List.Sublist.refl _) (aY.kN λ f hf=>by simpa[aL] using hf) (List.Sublist.refl _))
  dsimp only[gZ,List.map,List.cons_append,List.nil_append]
  have hy:=hx
  refine Cm ?_;refine dY ?_;refine C5 ?_
  refine bC (λ c75=>?_) (λ c75=>?_)
  ·obtain⟨hd,hd1,hd2⟩:=h69
   have hle:=hd.len
   have hlt:y.1<x69.L.length:=by omega
   obtain⟨a,K',ha,ga,hfb,hch,hln,hnx⟩:=hy.next (lf:=λ f=>dQ b h0 h (aC x.L b) k.key k.val gen f (kQ h0 h-level)) rfl (λ f f'=>Ux _ _) (Pf _ _) go2 hq3 (by omega)
   obtain⟨a',ha',hma⟩:=hd.m.at hlt
   have haa:a'=a:=Option.some.inj (ha'.symm.trans ha)
   subst haa
   have hini:x69.ini.getD y.1 0=a'.init:=by rw[hd.ini];exact Sh ha
   have hB:=aA9 (c:=y.2.2.1.cs.length) hh hq1 (show b<=y.2.2.1.L.length by omega) _ _ _ _ ha (by omega)
   have hsx:=hma.sx
   have htw:=hy.ok.two
   have hcl:=zA h0 h
   have hdl:(dQ b h0 h (aC x.L b) k.key k.val gen q (kQ h0 h-level)).length<=2+2*(kQ h0 h-level):=Qt _ _
   have hyy:=hB.ys
   rw[<- hma.ys] at hyy
   have hc0:(x69.L.getD y.1 aU.zero).nd.c (x69.L.getD y.1 aU.zero).xs (x69.L.getD y.1 aU.zero).ys=a'.c0:=hma.c0
   refine tB ?_;refine gE [0,1,2,3,4,5,6,7,8,9,10] ?_;refine gU ?_;refine bB ?_;refine U6 ?_;refine gU ?_;refine U6 ?_;refine bG (i:=9) (hq:=(cM (hs:=xH k bx bm y.2.2.1 dn rs) (os:=xW y.2.2.1) (A0:=[((x69.L.getD y.1 aU.zero).nd.brA,aH (x69.L.getD y.1 aU.zero).xs),((x69.L.getD y.1 aU.zero).nd.prA,dD (x69.L.getD y.1 aU.zero).ys)]) (hA:=bJ.of λ f hf=>.inr (.inr (.inl (by simp only[List.mem_cons,List.not_mem_nil,or_false] at hf;rcases hf with rfl|rfl;exact .tail _ (.tail _ (List.mem_append_left _ (Lh hlt)));exact .tail _ (.tail _ (List.mem_append_left _ (K6 hlt))))))) (hc:=λ w hs=>Uk hg (n:=(x69.L.getD y.1 aU.zero).nd) (xs:=(x69.L.getD y.1 aU.zero).xs) (ys:=(x69.L.getD y.1 aU.zero).ys) (x69.ini.getD y.1 0) K' hma.fit.brN hma.fit.prN (by omega) (by omega) (by rw[hc0];exact hB.nv) (by rw[hini];exact hB.init) (by rw[hc0,hini];exact ga) hy.ok hs))) (h:=λ x87 h87=>?_);refine J7 ?_;refine Kb8 ?_
   refine iJ ((y.1+1,x87.1,x87.2.1,y.2.2.2++x87.2.2)) ?_ (hw1:=λ w hw=>hw.sub (List.Sublist.refl _) (aY.kN λ f hf=>by simp only[dE,List.mem_append,List.mem_cons] at hf ⊢;rcases hf with hf|hf|hf|hf|hf;exact .inr (.inl hf);exact .inr (.inr (.inl hf));exact .inr (.inr (.inr (.inl hf)));exact .inr (.inr (.inr (.inr hf)));exact .inl hf) (List.Sublist.refl _))
   ·exact hnx _ _ _ h87.1 h87.2
  ·refine bS rfl ?_;refine Ka5 ?_
   refine aN Tryz.results250 (λ w hw=>?_)
   exact⟨(y.2.1,y.2.2.1,y.2.2.2),rfl,hy.done (Pf _ _) (by have:=h69.1.len;omega),(hw.fC λ f hf=>.inr (.tail _ (.tail _ (List.mem_append_right _ hf)))).v4⟩
end
end

/- Executions of the reference: PERMITS, BELOW; pairs in nodes. -/
section
open Go Go.RowKit Go.Ct
section
variable{v:aU}{n c m:Nat}{w:World}
theorem aBh(h:lJ n c v.c)(k:ByteArray)(u:Int)(hr:sB w v.nd v.xs v.ys)(hy:v.ys.length<=150000000000):Calls Tryz.prog 247 #[v.nd.v,.string k,.int .u64 u] w (aAh w (kI v.nd v.xs v.ys k u) v.nd.hash):=Q9 (n:=v.nd) k u (eP h).1 (eP h).2 hr hy
theorem aAc(h:lJ n c v.c)(k:ByteArray)(hr:sB w v.nd v.xs v.ys)(hy:v.ys.length<=150000000000):Calls Tryz.prog 251 #[v.nd.v,.string k] w (z7 w (pJ v.nd v.xs v.ys k) v.nd.hash):=Ng (n:=v.nd) k (eP h).1 (eP h).2 hr hy
theorem gy(o:Option (List Pr))(h:Int)(x:Option Addr×Nat):(dj o h x).brN=([]:List Int).length/\(dj o h x).prN=(X3 o).length:=by cases o<;>exact⟨rfl,rfl⟩
theorem B9(q:List Pr)(h:Int)(x:Option Addr×Nat):(Mn (some q) h x={Nd.zero with kind:=5,hash:=h,key:=(q.getD 0 (⟨#[]⟩,0)).1,val:=(q.getD 0 (⟨#[]⟩,0)).2}/\Hs (some q)=[])∨(Mn (some q) h x={Nd.zero with kind:=6,hash:=h,prA:=x.1,prN:=q.length,dD:=x.2}/\Hs (some q)=q):=by
 by_cases hq:q.length=1
 ·exact .inl ⟨if_pos hq,if_pos hq⟩
 ·exact .inr ⟨if_neg hq,if_neg hq⟩
theorem ja(o:Option (List Pr))(h:Int)(x:Option Addr×Nat):(Mn o h x).brN=([]:List Int).length/\(Mn o h x).prN=(Hs o).length:=by
 cases o with
 | none=>exact⟨rfl,rfl⟩
 | some l=>rcases B9 l h x with⟨e1,e2⟩|⟨e1,e2⟩<;>rw[e1,e2]<;>exact⟨rfl,rfl⟩
theorem aBo{A F:Fr}{O:List Ow}{o:Option (List Pr)}{h:Int}{x:Option Addr×Nat}:bJ A ((x.1,dD (X3 o))::F) O [((dj o h x).brA,aH []),((dj o h x).prA,dD (X3 o))]:=by
 cases o with
 | none=>exact .cons (.inl rfl) (.cons (.inl rfl) .nil)
 | some q=>exact .cons (.inl rfl) (.cons (.inr (.inr (.inl (.head _)))) .nil)
theorem aAQ{A F:Fr}{O:List Ow}{o:Option (List Pr)}{h:Int}{x:Option Addr×Nat}:bJ A ((x.1,dD (Hs o))::F) O [((Mn o h x).brA,aH []),((Mn o h x).prA,dD (Hs o))]:=by
 cases o with
 | none=>exact .cons (.inl rfl) (.cons (.inl rfl) .nil)
 | some q =>
  rcases B9 q h x with⟨e1,e2⟩|⟨e1,e2⟩<;>rw[e1,e2]
  ·exact .cons (.inl rfl) (.cons (.inl rfl) .nil)
  ·exact .cons (.inl rfl) (.cons (.inr (.inr (.inl (.head _)))) .nil)
theorem yp{o:Option (List Pr)}{h:Int}(x:Option Addr×Nat)(hh:∃b:Nat,h=(b:Int)/\b<18446744073709551616):lJ m c {(dj o h x).c [] (X3 o) with main:=0,prev:=0,status:=0}:=by
 cases o with
 | none=>exact⟨bH _,bH _,bH _,(λ r hr=>nomatch hr),bH _,bH _,bH _,⟨0,rfl,by decide⟩,⟨0,rfl,by decide⟩⟩
 | some q=>exact⟨bH _,bH _,bH _,(λ r hr=>nomatch hr),bH _,bH _,bH _,⟨0,rfl,by decide⟩,hh⟩
theorem za{o:Option (List Pr)}{h:Int}(x:Option Addr×Nat)(hh:∃b:Nat,h=(b:Int)/\b<18446744073709551616):lJ m c {(Mn o h x).c [] (Hs o) with main:=0,prev:=0,status:=0}:=by
 cases o with
 | none=>exact⟨bH _,bH _,bH _,(λ r hr=>nomatch hr),bH _,bH _,bH _,⟨0,rfl,by decide⟩,⟨0,rfl,by decide⟩⟩
 | some q =>
  rcases B9 q h x with⟨e1,e2⟩|⟨e1,e2⟩<;>rw[e1,e2]<;>exact⟨bH _,bH _,bH _,(λ r hr=>nomatch hr),bH _,bH _,bH _,⟨0,rfl,by decide⟩,hh⟩
theorem xu(l:List Int)(ys:List Pr)(d:Nd)(k:ByteArray)(u:Int):(X3 (kI d l ys k u)).length<=ys.length+1:=by
 have:=nz ys k u
 unfold kI
 split
 ·exact this
 ·exact Nat.zero_le _
theorem xw(l:List Int)(ys:List Pr)(d:Nd)(k:ByteArray):(Hs (pJ d l ys k)).length<=ys.length:=by
 have:=eu ys k
 unfold pJ
 split
 ·simp only[Hs];split
  ·exact Nat.zero_le _
  ·exact this
 ·exact Nat.zero_le _
theorem qV{x:XS}(h:x.Ok)(r:Int):(aC x.L r).ys.length<=x.L.length:=by
 unfold aC
 split
 ·exact h.ys _ (fX (L:=x.L) (k:=(r-1).toNat) (by omega))
 ·exact Nat.zero_le _
end
theorem Fm{n c h:Nat}{k:ByteArray}{u:Int}(hh:h<18446744073709551616):lJ n c {(({Nd.zero with kind:=4,hash:=(h:Int),key:=k,val:=u}:Nd).c [] []) with main:=0,prev:=0,status:=0}:=⟨bH _,bH _,bH _,(λ r hr=>nomatch hr),bH _,bH _,bH _,⟨0,rfl,by decide⟩,⟨h,rfl,hh⟩⟩
theorem oV(p:Value)(o f:Bool)(v:Int)(w:World):Calls Tryz.prog 248 #[p,.bool o,.bool f,.int .u64 v] w λ e w'=>e=.returned (.tuple #[.agg ⟨(rC f v).cells⟩,.int .i64 (if o=true then 1 else 0)])/\St w [] [] w':=by
 refine enter Tryz.func248 Tryz.ntmps248 rfl rfl (SF.s0 w) ?_
 simp only[cD]
 refine J0 ?_;refine aJ (λ x8=>?_);refine zB ?_;refine aM (cV (hc:=λ w1 hw=>fZ f v w1)) (λ x13=>?_);refine aJ (λ x10=>?_);refine J5 ?_;refine J0 ?_;refine vK ?_;refine mD ?_;refine pD ?_
 refine bC (λ c16=>?_) (λ c16=>?_)
 ·refine oI ?_;refine Dr ?_
  refine bA Tryz.results248 (λ w hw=>?_)
  rw[if_neg (by simp_all)];exact⟨rfl,hw.done⟩
 ·refine aV ?_;refine oI ?_;refine Dr ?_
  refine bA Tryz.results248 (λ w hw=>?_)
  rw[if_pos (by simp_all)];exact⟨rfl,hw.done⟩
section
variable{k:Cl}{bx bm:Nat}{x:XS}{dn:Bool}{rs:Rs}{D:List Nat}{A:Fr}{w:World}{g:Gx}
theorem wR(f:Bool)(v:Int)(hs:SF w D (xH k bx bm x dn rs) A [] (xW x) w):Calls Tryz.prog 246 #[.pointer (some ⟨bx,0,none⟩),.bool f,.int .u64 v] w λ e w'=>∃q:Unit,e=.returned (.bool (nV k f v))/\True/\SF w D (xH k bx bm x dn rs) [] [] (xW x) w':=by
 refine enter Tryz.func246 Tryz.ntmps246 rfl rfl (cB hs) ?_
 simp only[cD]
 refine Hu ?_;refine Hw ?_;refine J3 ?_;refine aG ?_;refine cY ?_;refine lK ?_
 refine bC (λ c12=>?_) (λ c12=>?_)
 ·refine J2 ?_;refine xT ?_;refine J1 ?_
  refine aN Tryz.results246 (λ w hw=>?_)
  rw[show nV k f v=!f from if_pos (by assumption)];exact⟨(),rfl,trivial,hw.aW⟩
 ·refine lK ?_
  refine bC (λ c16=>?_) (λ c16=>?_)
  ·refine Ka5 ?_
   refine aN Tryz.results246 (λ w hw=>?_)
   rw[show nV k f v=f from(if_neg (by assumption)).trans (if_pos (by assumption))];exact⟨(),rfl,trivial,hw.aW⟩
  ·refine lK ?_
   refine bC (λ c19=>?_) (λ c19=>?_)
   ·refine iX ?_
    (refine eC 22 (λ g22=>?_) (λ g22=>?_)<;>refine Ka0 ?_)
    all_goals (refine yg ?_;refine J6 ?_;refine uT ?_;refine J1 ?_)
    all_goals
    refine aN Tryz.results246 (λ w hw=>?_)
    have e:nV k f v=(f&&v==k.exp):=(if_neg (by assumption)).trans ((if_neg (by assumption)).trans (if_pos (by assumption)))
    rw[e]
    exact⟨(),by simp_all<;>rfl,trivial,hw.aW⟩
   ·refine Ka8 ?_
    refine aN Tryz.results246 (λ w hw=>?_)
    rw[show nV k f v=true from(if_neg (by assumption)).trans ((if_neg (by assumption)).trans (if_neg (by assumption)))];exact⟨(),rfl,trivial,hw.aW⟩
theorem Tv(hg:g.Ok)(i m index gen:Int)(K:Int->Tr)(ht:k.t.root<=9223372036854775807)(hi:i<=x.L.length)(hm:m<=x.L.length)(hA:∀f∈aL x.L,f∈A)(go:fN g x (Gt k i m index gen K))(ok:x.Ok)(hs:SF w D (xH k bx bm x dn rs) A [] (xW x) w):Calls Tryz.prog 225 #[.pointer (some ⟨bx,0,none⟩),.int .i64 i,.int .i64 m,.int .i64 index,.int .i64 gen] w λ e w'=>∃q:Int×XS×List aU,e=.returned (.int .i64 q.1)/\Nx g x q.2.1 q.2.2 (K q.1) q.1/\SF w D (xH k bx bm q.2.1 dn rs) [] (aL q.2.2) (xW q.2.1) w':=by
 refine enter Tryz.func225 Tryz.ntmps225 rfl rfl (cB hs) ?_
 simp only[cD]
 refine cU ?_;refine iX ?_;refine aD (cM (hs:=xH k bx bm x dn rs) (os:=xW x) (hc:=λ w hs=>cG m _ hm go ok hs)) (λ x16 h16=>?_);refine aA ?_;refine aM (cV (hc:=λ w1 hw=>Jl (v:=aC x.L m) (ok.nv m) index (ok.rD hw hA m))) (λ x18=>?_);refine aA ?_;refine aB (bN rf rfl) rfl ?_;refine aB (bN rf rfl) rfl ?_;refine J8 ?_;refine aR ?_;refine lD ?_;refine aA ?_
 (refine eC 25 (λ g25=>?_) (λ g25=>?_)<;>refine Ka0 ?_)
 all_goals (refine Ka0 ?_;(first|refine aI ?_|(refine aF ?_;refine aD (cM (hs:=xH k bx bm x dn rs) (os:=xW x) (hc:=λ w hs=>cG ((kJ (aC x.L m).c index).getD 0) _ (pW (ok.nv m) index) h16.1 ok hs)) (λ x28 h28=>?_)));refine zp ?_;refine uT ?_;refine aG ?_)
 all_goals
 refine bC (λ c32=>?_) (λ c32=>?_)
 ·all_goals (refine Ka5 ?_)
  all_goals
   refine aN Tryz.results225 (λ w hw=>?_)
   exact⟨((kJ (aC x.L m).c index).getD 0,x,[]),rfl,⟨by first|exact h28.1.to (λ _=>if_pos (by assumption))|exact go.bU (by assumption),ok,by simp,Nat.le_refl _,pW (ok.nv m) index⟩,hw.aW (hF:=by exact aY.nil)⟩
 ·try exact nv c32
  all_goals (refine Di ?_;refine I7 ?_;refine aE ?_;refine aB (aP (k:=2) (vs:=[.int .i64 k.t.root,.bool k.t.ro]) rf cX eH rfl rfl) rfl ?_;refine pQ ?_;refine aA ?_;refine aD (cM (hs:=xH k bx bm x dn rs) (os:=xW x) (A0:=aL x.L) (hA:=bJ.of λ f hf=>.inr (.inl (hA f hf))) (hc:=λ w hs=>mh hg k.t i m index _ ht hi hm (λ f hf=>hf) (h28.1.to (λ _=>if_neg (by assumption))) ok hs)) (λ x43 h43=>?_);refine J1 ?_)
  all_goals
   refine aN Tryz.results225 (λ w hw=>?_)
   exact⟨x43,rfl,h43,by rw[List.append_nil] at hw;exact hw.v4⟩
end
end

end Go.Proofs.YtbajmaoegmbfgaaGreat
