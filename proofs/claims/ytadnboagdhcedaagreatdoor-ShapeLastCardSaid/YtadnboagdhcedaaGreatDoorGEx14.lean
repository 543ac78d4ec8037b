/- Executions of the reference: DUAL. -/
import Derived.Test.YtadnboagdhcedaaGreatDoorGEx11

set_option linter.unusedSimpArgs false
set_option linter.unusedVariables false
namespace Go.Proofs.YtadnboagdhcedaaGreatDoor
section
open Go Go.RowKit Go.Ct
section
variable{x:Int}{h0 h:Nat}{p0:Pr}{k:ByteArray}{u gen:Int}{f f':Nat}
theorem Jz:∀n lvl,dN x h0 h p0 k u gen f n lvl≠[]
 | 0,lvl=>by unfold dN;split<;>exact List.cons_ne_nil _ _
 | n+1,lvl=>by rw[dN];exact λ h=>Jz n (lvl+1) (List.append_eq_nil_iff.1 h).1
theorem Pm:∀n lvl,(dN x h0 h p0 k u gen f n lvl).headD NI.no=(dN x h0 h p0 k u gen f' n lvl).headD NI.no
 | 0,lvl=>by unfold dN;split<;>rfl
 | n+1,lvl=>by
  have:=Pm n (lvl+1)
  rw[dN,dN]
  have h1:=Jz (x:=x) (h0:=h0) (h:=h) (p0:=p0) (k:=k) (u:=u) (gen:=gen) (f:=f) n (lvl+1)
  have h2:=Jz (x:=x) (h0:=h0) (h:=h) (p0:=p0) (k:=k) (u:=u) (gen:=gen) (f:=f') n (lvl+1)
  revert this h1 h2
  cases dN x h0 h p0 k u gen f n (lvl+1) with
  | nil=>exact λ _ h1=>absurd rfl h1
  | cons a l =>
   cases dN x h0 h p0 k u gen f' n (lvl+1) with
   | nil=>exact λ _ _ h2=>absurd rfl h2
   | cons b l'=>exact λ this _ _=>this
structure yf(m c:Nat)(a:NI):Prop where
 nv:nE m c {a.c0 with main:=0,prev:=0,status:=0}
 init:a.init<=m
 ys:a.ys.length<=2
theorem xu{a:NI}{m c:Nat}(h1:∀r∈a.xs,r<=m)(h2:∃b:Nat,a.n.bm=(b:Int)/\b<18446744073709551616)(h3:∃b:Nat,a.n.hash=(b:Int)/\b<18446744073709551616)(h4:a.n.bL=0/\a.n.exp=0/\a.n.new=0)(h5:a.init<=m)(h6:a.ys.length<=2):yf m c a :=
 ⟨⟨by show a.n.bL<=m;omega,by show a.n.exp<=m;omega,by show a.n.new<=m;omega,h1,bE _,bE _,bE _,h2,h3⟩,h5,h6⟩
theorem il{i k:Nat}{a b r:Int}(h:r∈two i k a b):r=a∨r=b:=by
 unfold two at h
 split at h
 ·simpa using h
 ·have:=h;simp at this;exact this.symm
theorem R6{m c:Nat}{g i:Int}(h:i<=m):yf m c (oK g i):=xu (λ r hr=>(List.not_mem_nil hr).elim) ⟨0,rfl,by decide⟩ ⟨0,rfl,by decide⟩ ⟨rfl,rfl,rfl⟩ h (Nat.zero_le _)
theorem kz{m c b:Nat}{xs:List Int}(hb:b<18446744073709551616)(h:∀r∈xs,r<=m):yf m c (Yf b xs):=xu h ⟨b,rfl,hb⟩ ⟨0,rfl,by decide⟩ ⟨rfl,rfl,rfl⟩ (bE _) (Nat.zero_le _)
theorem uy{m c:Nat}(hh:h<18446744073709551616)(hf:1<=f)(hx:x<=m):∀n lvl i a,(dN x h0 h p0 k u gen f n lvl)[i]?=some a->f+i<=m+1->yf m c a
 | 0,lvl,i,a=>by
  unfold dN
  split
  ·intro h1 _
   cases i with
   | zero=>cases h1;exact xu (λ r hr=>(List.not_mem_nil hr).elim) ⟨0,rfl,by decide⟩ ⟨h,rfl,hh⟩ ⟨rfl,rfl,rfl⟩ (bE _) (Nat.le_trans (Qt _) (Nat.le_refl 2))
   | succ i=>simp at h1
  ·intro h1 h2
   match i,h1,h2 with
   | 0,h1,_=>cases h1;exact xu (λ r hr=>(List.not_mem_nil hr).elim) ⟨0,rfl,by decide⟩ ⟨h,rfl,hh⟩ ⟨rfl,rfl,rfl⟩ (bE _) (Nat.zero_le _)
   | 1,h1,h2=>cases h1;exact kz (wZ (wZ (by decide) _) _) (λ r hr=>(il hr).elim (λ e=>by omega) (λ e=>by omega))
   | _+2,h1,_=>simp at h1
 | n+1,lvl,i,a=>by
  have ih:=uy (c:=c) hh hf hx n (lvl+1) i a
  rw[dN]
  intro h1 h2
  generalize hl:dN x h0 h p0 k u gen f n (lvl+1)=l at ih h1
  rw[List.getElem?_append] at h1
  split at h1
  ·exact ih h1 h2
  ·rename_i h3
   match hi:i-l.length,h1 with
   | 0,h1=>cases h1;exact R6 (by omega)
   | 1,h1=>cases h1;exact kz (wZ (by decide) _) (λ r hr=>by rw[List.mem_singleton.1 hr];omega)
   | _+2,h1=>simp at h1
end
structure DI(g:Gx)(x:XS)(K:Int->Tr)(l:List NI)(fi:Nat)(y:Nat×Int×XS×List aK):Prop where
 le:y.1<=l.length
 st:y.2.2.1.st=false
 ok:y.2.2.1.Ok
 zero:y.1=0->y=(0,0,x,[])
 pos:y.1≠0->Nx g x y.2.2.1 y.2.2.2 (xT (l.drop y.1) y.2.1 K) y.2.1/\1<=y.2.2.1.m/\y.2.2.1.made.getD (y.2.2.1.m-1) 0=y.2.1/\((fi+y.1:Nat):Int)<=y.2.1+1
theorem DI.next{g:Gx}{x:XS}{K:Int->Tr}{l:List NI}{fi:Nat}{y:Nat×Int×XS×List aK}(h:DI g x K l fi y){lf:Nat->List NI}(hlf:l=lf fi)(hh0:∀f f',(lf f).headD NI.no=(lf f').headD NI.no)(hne:lf fi≠[])(go:eU g x (.alloc ((lf 0).headD NI.no).c0 ((lf 0).headD NI.no).init λ f=>xT (lf f.toNat).tail f K))(hfi:(fi:Int)=if x.m=x.made.length then((x.L.length+1:Nat):Int) else x.made.getD x.m 0)(hi:y.1<l.length) :
  ∃a K',l[y.1]?=some a/\eU g y.2.2.1 (.alloc a.c0 a.init K')/\(fi+y.1:Nat)<=y.2.2.1.L.length+1/\Ch x y.2.2.1 (aY y.2.2.2)/\x.L.length<=y.2.2.1.L.length/\∀q X' N',Nx g y.2.2.1 X' N' (K' q) q->ye y.2.2.1 q X'->DI g x K l fi (y.1+1,q,X',y.2.2.2++N'):=by
 obtain⟨i,r,X,N⟩:=y
 have hst:X.st=false:=h.st
 have hok:X.Ok:=h.ok
 by_cases h0:i=0
 ·have e:=h.zero h0
  simp only[Prod.mk.injEq] at e
  obtain⟨rfl,rfl,rfl,rfl⟩:=e
  have hl:∃a t,lf fi=a::t:=by
   cases hq:lf fi with
   | nil=>exact absurd hq hne
   | cons a t=>exact⟨a,t,rfl⟩
  obtain⟨a,t,ha⟩:=hl
  have hd:(lf 0).headD NI.no=a:=by rw[hh0 0 fi,ha];rfl
  rw[hd] at go
  refine⟨a,_,by rw[hlf,ha];rfl,go,?_,⟨[],by simp,λ f hf=>by simp[aY] at hf⟩,Nat.le_refl _,λ q X' N' hn (ha':ye X q X')=>?_⟩
  ·show fi+0<=X.L.length+1
   split at hfi
   ·omega
   ·have:=lO hok.made X.m;omega
  ·obtain⟨a1,a2,a3,a4,a5⟩:=ha' hst
   have hq:q=(fi:Int):=by rw[hfi];exact a5
   refine⟨hi,a1,hn.ok,λ h=>absurd h (Nat.succ_ne_zero _),λ _=>⟨?_,?_,?_,?_⟩⟩
   ·have h2:=hn.go
    rw[hq] at h2
    rw[List.nil_append]
    refine⟨?_,hn.ok,hn.ext,hn.lc,hn.bd⟩
    show eU g X' (xT (l.drop 1) q K)
    rw[hq,hlf,ha]
    rw[show((fi:Nat):Int).toNat=fi from by omega,ha] at h2
    exact h2
   ·show 1<=X'.m;omega
   ·show X'.made.getD (X'.m-1) 0=q
    rw[a2];exact a3
   ·show((fi+1:Nat):Int)<=q+1;omega
 ·obtain⟨p1,p2,p3,p4⟩:=h.pos h0
  have p1':Nx g x X N (xT (l.drop i) r K) r:=p1
  have p2':1<=X.m:=p2
  have p3':X.made.getD (X.m-1) 0=r:=p3
  have p4':((fi+i:Nat):Int)<=r+1:=p4
  have hi':i<l.length:=hi
  have hd:l.drop i=l[i]::l.drop (i+1):=List.drop_eq_getElem_cons hi'
  have g1:=p1'.go
  rw[hd] at g1
  refine⟨l[i],_,List.getElem?_eq_getElem hi',g1,?_,p1'.ch,p1'.len,λ q X' N' hn (ha':ye X q X')=>?_⟩
  ·show fi+i<=X.L.length+1
   have:=p1'.bd;omega
  ·obtain⟨a1,a2,a3,a4,a5⟩:=ha' hst
   refine⟨hi,a1,hn.ok,λ h=>absurd h (Nat.succ_ne_zero _),λ _=>⟨p1'.trans hn,?_,?_,?_⟩⟩
   ·show 1<=X'.m;omega
   ·show X'.made.getD (X'.m-1) 0=q
    rw[a2];exact a3
   ·show((fi+(i+1):Nat):Int)<=q+1
    have hb:r<q:=by
     rw[a5]
     split
     ·have:=p1'.bd;omega
     ·have h3:=hok.lm
      rw[<- p3']
      exact hok.ms _ _ (by omega) (by omega)
    omega
theorem DI.done{g:Gx}{x:XS}{K:Int->Tr}{l:List NI}{fi:Nat}{y:Nat×Int×XS×List aK}(h:DI g x K l fi y)(hne:l≠[])(hi:¬y.1<l.length):Nx g x y.2.2.1 y.2.2.2 (K y.2.1) y.2.1:=by
 have h1:=h.le
 have h2:0<l.length:=List.length_pos_iff.2 hne
 have h3:=(h.pos (by omega)).1
 rw[show y.1=l.length by omega,List.drop_length] at h3
 exact h3
end

/- Executions of the reference: DUAL, the walk. -/
section
open Go Go.RowKit Go.Ct
theorem Mu{l:List NI}{i:Nat}{a:NI}(h:l[i]?=some a):(C0 l).getD i 0=a.init:=by
 unfold C0
 rw[fQ,List.getElem?_map,h]
 rfl
section
variable{k:Cl}{bx bm:Nat}{x:XS}{dn:Bool}{rs:Rs}{D:List Nat}{A:Fr}{w:World}{g:Gx}
set_option maxRecDepth 100000 in
theorem rr(hg:g.Ok)(b:Int){h:Nat}(hh:h<18446744073709551616)(level:Nat)(gen:Int)(K:Int->Tr)(hb:b<=x.L.length)(go:eU g x (Qd k b h level gen K))(ok:x.Ok)(hs:SF w D (xH k bx bm x dn rs) A [] (xW x) w):Calls Tryz.prog 154 #[.pointer (some ⟨bx,0,none⟩),.int .i64 b,.int .u64 (h:Int),.int .i64 (level:Int),.int .i64 gen] w λ e w'=>∃q:Int×XS×List aK,e=.returned (.int .i64 q.1)/\Nx g x q.2.1 q.2.2 (K q.1) q.1/\SF w D (xH k bx bm q.2.1 dn rs) [] (aY q.2.2) (xW q.2.1) w':=by
 have hlL:=ok.lL
 have hlm:=ok.lm
 have hm1:x.m<x.made.length->1<=x.made.getD x.m 0/\x.made.getD x.m 0<=x.L.length:=λ h=>⟨ok.m1 _ (by rw[fQ,List.getElem?_eq_getElem h];exact List.getElem_mem h),lO ok.made _⟩
 obtain⟨h0,hv0,hh0⟩:=(ok.nv b).hash
 have hv:(aA x.L b).nd.hash=(h0:Int):=hv0
 refine enter Tryz.func154 Tryz.ntmps154 rfl rfl (cA hs) ?_
 simp only[cR]
 refine cN ?_;refine cN ?_;refine mV ?_;refine Jv ?_;refine Tt ?_;refine F0 ?_;refine gK ?_
 refine eL [12,26,27,28,29,30,31,32,33,34,35,36,37,38,39,40,41,42,43,44,45] (λ q:Nat=>[(12,.int .i64 (q:Int))]) (λ q=>1<=q/\q<=x.L.length+1/\(q:Int)=if x.m=x.made.length then((x.L.length+1:Nat):Int) else x.made.getD x.m 0) (λ q=>xH k bx bm x dn rs) (λ q=>[]) (λ q=>xW x) (by decide) (λ _=>by exact rfl) ?_ (λ q f hx=>?_)
 ·refine aS ?_
  refine gB [0,1,2,3,4,5,6,7,8,9] ?_;refine Ey ?_;refine oI ?_;refine Df ?_;refine dV ?_
  refine aZ (λ c35=>?_) (λ c35=>?_)
  ·have hm2:=hm1 (by omega)
   refine gB [0,1,2,3,4,5,6,7,8,9,10] ?_;refine Ey ?_;refine T5 ?_;refine J7 ?_
   refine gA ((x.made.getD x.m 0).toNat) ?_
   ·exact⟨by omega,by omega,by rw[if_neg (by omega)];omega⟩
  ·refine bA ?_
   refine gA (x.L.length+1) ?_
   ·exact⟨by omega,by omega,by rw[if_pos (by omega)]⟩
 dsimp only[gG,List.map,List.cons_append,List.nil_append]
 obtain⟨hq1,hq2,hq3⟩:=hx
 refine aS ?_;refine Kc4 ?_
 refine aZ (λ c49=>?_) (λ c49=>?_)
 ·refine cN ?_
  refine aN Tryz.results154 (λ w hw=>?_)
  exact⟨(0,x,[]),rfl,Nx.st (by assumption) go ok,hw.aU (hF:=by exact aX.nil)⟩
 ·refine jD ?_;refine eD [(0,[]),(1,[]),(3,[]),(4,[]),(5,[]),(6,[]),(7,[]),(8,[]),(9,[]),(10,[]),(11,[]),(12,[]),(13,[]),(14,[]),(15,[]),(16,[]),(17,[]),(2,[9,14]),(18,[]),(19,[]),(20,[]),(21,[]),(22,[]),(23,[])] ?_;refine gM ?_;refine gM ?_;refine tA ?_;refine tA ?_;refine gM ?_;refine aT ?_;refine bS (i:=2) (hq:=(cM (hs:=xH k bx bm x dn rs) (os:=xW x) (hc:=λ w hs=>cB b _ hb go ok hs))) (h:=λ x53 h53=>?_)
  have e0:(aA x.L b).c.hash.toNat=h0:=by rw[hv0];simp
  have go2:=h53.1
  rw[e0] at go2
  refine bS (i:=18) (hq:=(cF (hc:=λ w1 hw=>Xz (v:=aA x.L b) (at':=b) (h0:=h0) (h:=h) (fi:=q) (lvl:=level) hv hh0 hh hq1 (by omega) w1))) (h:=λ x69 h69=>?_);refine aT ?_;refine cJ (i:=20) (hq:=(bI rf rfl)) (h:=?_);refine cJ (i:=21) (hq:=(bI rf rfl)) (h:=?_);refine de ?_;refine aS ?_;refine K5 ?_
  refine mP [11,15,72,73,74,75,76,77,78,79,80,81,82,83,84,85,86,87] (λ y:Nat×Int×XS×List aK=>[(15,.int .i64 (y.1:Int)),(11,.int .i64 y.2.1)]) (λ y=>DI g x K (dQ b h0 h (aA x.L b) k.key k.val gen q (jM h0 h-level)) q y) (λ y=>xH k bx bm y.2.2.1 dn rs) (λ y=>(x69.pn,jC x69.L)::(x69.pc,aG x69.ini)::(aY x69.L++aY y.2.2.2)) (λ y=>xW y.2.2.1) (λ y=>x69.L.length-y.1) ((0,0,x,[])) (⟨Nat.zero_le _,by assumption,ok,λ _=>rfl,λ h=>absurd rfl h⟩) (λ y f hx=>?_) (hw0:=λ w hw=>hw.sub (List.Sublist.refl _) (aX.pD λ f hf=>by simpa[aY] using hf) (List.Sublist.refl _))
  dsimp only[gG,List.map,List.cons_append,List.nil_append]
  have hy:=hx
  refine Gi ?_;refine dF ?_;refine vR ?_
  refine aZ (λ c75=>?_) (λ c75=>?_)
  ·obtain⟨hd,hd1,hd2⟩:=h69
   have hle:=hd.len
   have hlt:y.1<x69.L.length:=by omega
   obtain⟨a,K',ha,ga,hfb,hch,hln,hnx⟩:=hy.next (lf:=λ f=>dQ b h0 h (aA x.L b) k.key k.val gen f (jM h0 h-level)) rfl (λ f f'=>Pm _ _) (Jz _ _) go2 hq3 (by omega)
   obtain⟨a',ha',hma⟩:=hd.m.at hlt
   have haa:a'=a:=Option.some.inj (ha'.symm.trans ha)
   subst haa
   have hini:x69.ini.getD y.1 0=a'.init:=by rw[hd.ini];exact Mu ha
   have hB:=uy (c:=y.2.2.1.cs.length) hh hq1 (show b<=y.2.2.1.L.length by omega) _ _ _ _ ha (by omega)
   have hsx:=hma.sx
   have htw:=hy.ok.two
   have hcl:=vY h0 h
   have hdl:(dQ b h0 h (aA x.L b) k.key k.val gen q (jM h0 h-level)).length<=2+2*(jM h0 h-level):=Mt _ _
   have hyy:=hB.ys
   rw[<- hma.ys] at hyy
   have hc0:(x69.L.getD y.1 aK.zero).nd.c (x69.L.getD y.1 aK.zero).xs (x69.L.getD y.1 aK.zero).ys=a'.c0:=hma.c0
   refine oW ?_;refine gB [0,1,2,3,4,5,6,7,8,9,10] ?_;refine gM ?_;refine aT ?_;refine T5 ?_;refine gM ?_;refine T5 ?_;refine bS (i:=9) (hq:=(cM (hs:=xH k bx bm y.2.2.1 dn rs) (os:=xW y.2.2.1) (A0:=[((x69.L.getD y.1 aK.zero).nd.brA,aG (x69.L.getD y.1 aK.zero).xs),((x69.L.getD y.1 aK.zero).nd.prA,cZ (x69.L.getD y.1 aK.zero).ys)]) (hA:=bT.of λ f hf=>.inr (.inr (.inl (by simp only[List.mem_cons,List.not_mem_nil,or_false] at hf;rcases hf with rfl|rfl;exact .tail _ (.tail _ (List.mem_append_left _ (H3 hlt)));exact .tail _ (.tail _ (List.mem_append_left _ (O4 hlt))))))) (hc:=λ w hs=>Pw hg (n:=(x69.L.getD y.1 aK.zero).nd) (xs:=(x69.L.getD y.1 aK.zero).xs) (ys:=(x69.L.getD y.1 aK.zero).ys) (x69.ini.getD y.1 0) K' hma.fit.brN hma.fit.prN (by omega) (by omega) (by rw[hc0];exact hB.nv) (by rw[hini];exact hB.init) (by rw[hc0,hini];exact ga) hy.ok hs))) (h:=λ x87 h87=>?_);refine J7 ?_;refine eV ?_;refine Ba ?_
   refine gI ((y.1+1,x87.1,x87.2.1,y.2.2.2++x87.2.2)) ?_ (hw1:=λ w hw=>hw.sub (List.Sublist.refl _) (aX.pD λ f hf=>by simp only[dL,List.mem_append,List.mem_cons] at hf ⊢;rcases hf with hf|hf|hf|hf|hf;exact .inr (.inl hf);exact .inr (.inr (.inl hf));exact .inr (.inr (.inr (.inl hf)));exact .inr (.inr (.inr (.inr hf)));exact .inl hf) (List.Sublist.refl _))
   ·exact hnx _ _ _ h87.1 h87.2
  ·refine bG rfl ?_;refine Ka6 ?_
   refine aN Tryz.results154 (λ w hw=>?_)
   exact⟨(y.2.1,y.2.2.1,y.2.2.2),rfl,hy.done (Jz _ _) (by have:=h69.1.len;omega),(hw.eG λ f hf=>.inr (.tail _ (.tail _ (List.mem_append_right _ hf)))).z7⟩
end
end

/- Executions of the reference: PERMITS, BELOW; pairs in nodes. -/
section
open Go Go.RowKit Go.Ct
section
variable{v:aK}{n c m:Nat}{w:World}
theorem ur(h:nE n c v.c)(k:ByteArray)(u:Int)(hr:pT w v.nd v.xs v.ys)(hy:v.ys.length<=150000000000):Calls Tryz.prog 151 #[v.nd.v,.string k,.int .u64 u] w (xo w (jI v.nd v.xs v.ys k u) v.nd.hash):=Nc (n:=v.nd) k u (dW h).1 (dW h).2 hr hy
theorem vk(h:nE n c v.c)(k:ByteArray)(hr:pT w v.nd v.xs v.ys)(hy:v.ys.length<=150000000000):Calls Tryz.prog 155 #[v.nd.v,.string k] w (wg w (nY v.nd v.xs v.ys k) v.nd.hash):=Ly (n:=v.nd) k (dW h).1 (dW h).2 hr hy
theorem Xo(o:Option (List Pr))(h:Int)(x:Option Addr×Nat):(Uw o h x).brN=([]:List Int).length/\(Uw o h x).prN=(Ug o).length:=by cases o<;>exact⟨rfl,rfl⟩
theorem zD(q:List Pr)(h:Int)(x:Option Addr×Nat):(Ja (some q) h x={Nd.zero with kind:=5,hash:=h,key:=(q.getD 0 (⟨#[]⟩,0)).1,val:=(q.getD 0 (⟨#[]⟩,0)).2}/\Ej (some q)=[])∨(Ja (some q) h x={Nd.zero with kind:=6,hash:=h,prA:=x.1,prN:=q.length,cZ:=x.2}/\Ej (some q)=q):=by
 by_cases hq:q.length=1
 ·exact .inl ⟨if_pos hq,if_pos hq⟩
 ·exact .inr ⟨if_neg hq,if_neg hq⟩
theorem Xd(o:Option (List Pr))(h:Int)(x:Option Addr×Nat):(Ja o h x).brN=([]:List Int).length/\(Ja o h x).prN=(Ej o).length:=by
 cases o with
 | none=>exact⟨rfl,rfl⟩
 | some l=>rcases zD l h x with⟨e1,e2⟩|⟨e1,e2⟩<;>rw[e1,e2]<;>exact⟨rfl,rfl⟩
theorem ve{A F:Fr}{O:List Ow}{o:Option (List Pr)}{h:Int}{x:Option Addr×Nat}:bT A ((x.1,cZ (Ug o))::F) O [((Uw o h x).brA,aG []),((Uw o h x).prA,cZ (Ug o))]:=by
 cases o with
 | none=>exact .cons (.inl rfl) (.cons (.inl rfl) .nil)
 | some q=>exact .cons (.inl rfl) (.cons (.inr (.inr (.inl (.head _)))) .nil)
theorem tu{A F:Fr}{O:List Ow}{o:Option (List Pr)}{h:Int}{x:Option Addr×Nat}:bT A ((x.1,cZ (Ej o))::F) O [((Ja o h x).brA,aG []),((Ja o h x).prA,cZ (Ej o))]:=by
 cases o with
 | none=>exact .cons (.inl rfl) (.cons (.inl rfl) .nil)
 | some q =>
  rcases zD q h x with⟨e1,e2⟩|⟨e1,e2⟩<;>rw[e1,e2]
  ·exact .cons (.inl rfl) (.cons (.inl rfl) .nil)
  ·exact .cons (.inl rfl) (.cons (.inr (.inr (.inl (.head _)))) .nil)
theorem sc{o:Option (List Pr)}{h:Int}(x:Option Addr×Nat)(hh:∃b:Nat,h=(b:Int)/\b<18446744073709551616):nE m c {(Uw o h x).c [] (Ug o) with main:=0,prev:=0,status:=0}:=by
 cases o with
 | none=>exact⟨bE _,bE _,bE _,(λ r hr=>nomatch hr),bE _,bE _,bE _,⟨0,rfl,by decide⟩,⟨0,rfl,by decide⟩⟩
 | some q=>exact⟨bE _,bE _,bE _,(λ r hr=>nomatch hr),bE _,bE _,bE _,⟨0,rfl,by decide⟩,hh⟩
theorem qy{o:Option (List Pr)}{h:Int}(x:Option Addr×Nat)(hh:∃b:Nat,h=(b:Int)/\b<18446744073709551616):nE m c {(Ja o h x).c [] (Ej o) with main:=0,prev:=0,status:=0}:=by
 cases o with
 | none=>exact⟨bE _,bE _,bE _,(λ r hr=>nomatch hr),bE _,bE _,bE _,⟨0,rfl,by decide⟩,⟨0,rfl,by decide⟩⟩
 | some q =>
  rcases zD q h x with⟨e1,e2⟩|⟨e1,e2⟩<;>rw[e1,e2]<;>exact⟨bE _,bE _,bE _,(λ r hr=>nomatch hr),bE _,bE _,bE _,⟨0,rfl,by decide⟩,hh⟩
theorem oa(l:List Int)(ys:List Pr)(d:Nd)(k:ByteArray)(u:Int):(Ug (jI d l ys k u)).length<=ys.length+1:=by
 have:=dq ys k u
 unfold jI
 split
 ·exact this
 ·exact Nat.zero_le _
theorem m6(l:List Int)(ys:List Pr)(d:Nd)(k:ByteArray):(Ej (nY d l ys k)).length<=ys.length:=by
 have:=Wv ys k
 unfold nY
 split
 ·simp only[Ej];split
  ·exact Nat.zero_le _
  ·exact this
 ·exact Nat.zero_le _
theorem oT{x:XS}(h:x.Ok)(r:Int):(aA x.L r).ys.length<=x.L.length:=by
 unfold aA
 split
 ·exact h.ys _ (eN (L:=x.L) (k:=(r-1).toNat) (by omega))
 ·exact Nat.zero_le _
end
theorem Ea{n c h:Nat}{k:ByteArray}{u:Int}(hh:h<18446744073709551616):nE n c {(({Nd.zero with kind:=4,hash:=(h:Int),key:=k,val:=u}:Nd).c [] []) with main:=0,prev:=0,status:=0}:=⟨bE _,bE _,bE _,(λ r hr=>nomatch hr),bE _,bE _,bE _,⟨0,rfl,by decide⟩,⟨h,rfl,hh⟩⟩
theorem nK(p:Value)(o f:Bool)(v:Int)(w:World):Calls Tryz.prog 152 #[p,.bool o,.bool f,.int .u64 v] w λ e w'=>e=.returned (.tuple #[.agg ⟨(pF f v).cells⟩,.int .i64 (if o=true then 1 else 0)])/\St w [] [] w':=by
 refine enter Tryz.func152 Tryz.ntmps152 rfl rfl (SF.s0 w) ?_
 simp only[cR]
 refine J0 ?_;refine aP (λ x8=>?_);refine tZ ?_;refine aR (cV (hc:=λ w1 hw=>fF f v w1)) (λ x13=>?_);refine aP (λ x10=>?_);refine J5 ?_;refine J0 ?_;refine wN ?_;refine kT ?_;refine lX ?_
 refine aZ (λ c16=>?_) (λ c16=>?_)
 ·refine kU ?_;refine A1 ?_
  refine bJ Tryz.results152 (λ w hw=>?_)
  rw[if_neg (by simp_all)];exact⟨rfl,hw.done⟩
 ·refine bA ?_;refine kU ?_;refine A1 ?_
  refine bJ Tryz.results152 (λ w hw=>?_)
  rw[if_pos (by simp_all)];exact⟨rfl,hw.done⟩
section
variable{k:Cl}{bx bm:Nat}{x:XS}{dn:Bool}{rs:Rs}{D:List Nat}{A:Fr}{w:World}{g:Gx}
theorem uL(f:Bool)(v:Int)(hs:SF w D (xH k bx bm x dn rs) A [] (xW x) w):Calls Tryz.prog 150 #[.pointer (some ⟨bx,0,none⟩),.bool f,.int .u64 v] w λ e w'=>∃q:Unit,e=.returned (.bool (mD k f v))/\True/\SF w D (xH k bx bm x dn rs) [] [] (xW x) w':=by
 refine enter Tryz.func150 Tryz.ntmps150 rfl rfl (cA hs) ?_
 simp only[cR]
 refine Jb ?_;refine E0 ?_;refine J3 ?_;refine Kc2 ?_;refine iT ?_
 refine aZ (λ c12=>?_) (λ c12=>?_)
 ·refine J2 ?_;refine Ce ?_;refine J1 ?_
  refine aN Tryz.results150 (λ w hw=>?_)
  rw[show mD k f v=!f from if_pos (by assumption)];exact⟨(),rfl,trivial,hw.aU⟩
 ·refine iT ?_
  refine aZ (λ c16=>?_) (λ c16=>?_)
  ·refine Ka6 ?_
   refine aN Tryz.results150 (λ w hw=>?_)
   rw[show mD k f v=f from(if_neg (by assumption)).trans (if_pos (by assumption))];exact⟨(),rfl,trivial,hw.aU⟩
  ·refine iT ?_
   refine aZ (λ c19=>?_) (λ c19=>?_)
   ·refine iF ?_
    (refine eR 22 (λ g22=>?_) (λ g22=>?_)<;>refine Ka1 ?_)
    all_goals (refine nz ?_;refine J6 ?_;refine wQ ?_;refine J1 ?_)
    all_goals
    refine aN Tryz.results150 (λ w hw=>?_)
    have e:mD k f v=(f&&v==k.exp):=(if_neg (by assumption)).trans ((if_neg (by assumption)).trans (if_pos (by assumption)))
    rw[e]
    exact⟨(),by simp_all<;>rfl,trivial,hw.aU⟩
   ·refine Kb0 ?_
    refine aN Tryz.results150 (λ w hw=>?_)
    rw[show mD k f v=true from(if_neg (by assumption)).trans ((if_neg (by assumption)).trans (if_neg (by assumption)))];exact⟨(),rfl,trivial,hw.aU⟩
theorem Qo(hg:g.Ok)(i m index gen:Int)(K:Int->Tr)(ht:k.t.root<=9223372036854775807)(hi:i<=x.L.length)(hm:m<=x.L.length)(hA:∀f∈aY x.L,f∈A)(go:eU g x (Ee k i m index gen K))(ok:x.Ok)(hs:SF w D (xH k bx bm x dn rs) A [] (xW x) w):Calls Tryz.prog 123 #[.pointer (some ⟨bx,0,none⟩),.int .i64 i,.int .i64 m,.int .i64 index,.int .i64 gen] w λ e w'=>∃q:Int×XS×List aK,e=.returned (.int .i64 q.1)/\Nx g x q.2.1 q.2.2 (K q.1) q.1/\SF w D (xH k bx bm q.2.1 dn rs) [] (aY q.2.2) (xW q.2.1) w':=by
 refine enter Tryz.func123 Tryz.ntmps123 rfl rfl (cA hs) ?_
 simp only[cR]
 refine cN ?_;refine iF ?_;refine aC (cM (hs:=xH k bx bm x dn rs) (os:=xW x) (hc:=λ w hs=>cB m _ hm go ok hs)) (λ x16 h16=>?_);refine aB ?_;refine aR (cV (hc:=λ w1 hw=>F2 (v:=aA x.L m) (ok.nv m) index (ok.pU hw hA m))) (λ x18=>?_);refine aB ?_;refine aE (bI rf rfl) rfl ?_;refine aE (bI rf rfl) rfl ?_;refine J8 ?_;refine aS ?_;refine mV ?_;refine aB ?_
 (refine eR 25 (λ g25=>?_) (λ g25=>?_)<;>refine Ka1 ?_)
 all_goals (refine Ka1 ?_;(first|refine aH ?_|(refine aF ?_;refine aC (cM (hs:=xH k bx bm x dn rs) (os:=xW x) (hc:=λ w hs=>cB ((jF (aA x.L m).c index).getD 0) _ (oB (ok.nv m) index) h16.1 ok hs)) (λ x28 h28=>?_)));refine xp ?_;refine wQ ?_;refine aI ?_)
 all_goals
 refine aZ (λ c32=>?_) (λ c32=>?_)
 ·all_goals (refine Ka6 ?_)
  all_goals
   refine aN Tryz.results123 (λ w hw=>?_)
   exact⟨((jF (aA x.L m).c index).getD 0,x,[]),rfl,⟨by first|exact h28.1.to (λ _=>if_pos (by assumption))|exact go.bO (by assumption),ok,by simp,Nat.le_refl _,oB (ok.nv m) index⟩,hw.aU (hF:=by exact aX.nil)⟩
 ·try exact nv c32
  all_goals (refine yT ?_;refine Jv ?_;refine aD ?_;refine aE (aL (k:=2) (vs:=[.int .i64 k.t.root,.bool k.t.ro]) rf fN gX rfl rfl) rfl ?_;refine nB ?_;refine aB ?_;refine aC (cM (hs:=xH k bx bm x dn rs) (os:=xW x) (A0:=aY x.L) (hA:=bT.of λ f hf=>.inr (.inl (hA f hf))) (hc:=λ w hs=>dj hg k.t i m index _ ht hi hm (λ f hf=>hf) (h28.1.to (λ _=>if_neg (by assumption))) ok hs)) (λ x43 h43=>?_);refine J1 ?_)
  all_goals
   refine aN Tryz.results123 (λ w hw=>?_)
   exact⟨x43,rfl,h43,by rw[List.append_nil] at hw;exact hw.z7⟩
end
end

end Go.Proofs.YtadnboagdhcedaaGreatDoor
