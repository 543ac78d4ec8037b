/- Executions of the reference: DUAL. -/
import Derived.Test.YtadnboagdhcedaaGreatDoorGEx11

set_option linter.unusedSimpArgs false
set_option linter.unusedVariables false
namespace Go.Proofs.YtadnboagdhcedaaGreatDoor
section
open Go Go.RowKit Go.Ct
section
variable{x:Int}{h0 h:Nat}{p0:Pr}{k:ByteArray}{u gen:Int}{f f':Nat}
theorem Lv:∀n lvl,dN x h0 h p0 k u gen f n lvl≠[]
 | 0,lvl=>by unfold dN;split<;>exact List.cons_ne_nil _ _
 | n+1,lvl=>by rw[dN];exact λ h=>Lv n (lvl+1) (List.append_eq_nil_iff.1 h).1
theorem Rg:∀n lvl,(dN x h0 h p0 k u gen f n lvl).headD NI.no=(dN x h0 h p0 k u gen f' n lvl).headD NI.no
 | 0,lvl=>by unfold dN;split<;>rfl
 | n+1,lvl=>by
  have:=Rg n (lvl+1)
  rw[dN,dN]
  have h1:=Lv (x:=x) (h0:=h0) (h:=h) (p0:=p0) (k:=k) (u:=u) (gen:=gen) (f:=f) n (lvl+1)
  have h2:=Lv (x:=x) (h0:=h0) (h:=h) (p0:=p0) (k:=k) (u:=u) (gen:=gen) (f:=f') n (lvl+1)
  revert this h1 h2
  cases dN x h0 h p0 k u gen f n (lvl+1) with
  | nil=>exact λ _ h1=>absurd rfl h1
  | cons a l =>
   cases dN x h0 h p0 k u gen f' n (lvl+1) with
   | nil=>exact λ _ _ h2=>absurd rfl h2
   | cons b l'=>exact λ this _ _=>this
structure NiB(m c:Nat)(a:NI):Prop where
 nv:nS m c {a.c0 with main:=0,prev:=0,status:=0}
 init:a.init<=m
 ys:a.ys.length<=2
theorem z6{a:NI}{m c:Nat}(h1:∀r∈a.xs,r<=m)(h2:∃b:Nat,a.n.bm=(b:Int)/\b<18446744073709551616)(h3:∃b:Nat,a.n.hash=(b:Int)/\b<18446744073709551616)(h4:a.n.bM=0/\a.n.exp=0/\a.n.new=0)(h5:a.init<=m)(h6:a.ys.length<=2):NiB m c a :=
 ⟨⟨by show a.n.bM<=m;omega,by show a.n.exp<=m;omega,by show a.n.new<=m;omega,h1,bH _,bH _,bH _,h2,h3⟩,h5,h6⟩
theorem mb{i k:Nat}{a b r:Int}(h:r∈two i k a b):r=a∨r=b:=by
 unfold two at h
 split at h
 ·simpa using h
 ·have:=h;simp at this;exact this.symm
theorem Vl{m c:Nat}{g i:Int}(h:i<=m):NiB m c (pL g i):=z6 (λ r hr=>(List.not_mem_nil hr).elim) ⟨0,rfl,by decide⟩ ⟨0,rfl,by decide⟩ ⟨rfl,rfl,rfl⟩ h (Nat.zero_le _)
theorem n9{m c b:Nat}{xs:List Int}(hb:b<18446744073709551616)(h:∀r∈xs,r<=m):NiB m c (bh b xs):=z6 h ⟨b,rfl,hb⟩ ⟨0,rfl,by decide⟩ ⟨rfl,rfl,rfl⟩ (bH _) (Nat.zero_le _)
theorem xz{m c:Nat}(hh:h<18446744073709551616)(hf:1<=f)(hx:x<=m):∀n lvl i a,(dN x h0 h p0 k u gen f n lvl)[i]?=some a->f+i<=m+1->NiB m c a
 | 0,lvl,i,a=>by
  unfold dN
  split
  ·intro h1 _
   cases i with
   | zero=>cases h1;exact z6 (λ r hr=>(List.not_mem_nil hr).elim) ⟨0,rfl,by decide⟩ ⟨h,rfl,hh⟩ ⟨rfl,rfl,rfl⟩ (bH _) (Nat.le_trans (Rj _) (Nat.le_refl 2))
   | succ i=>simp at h1
  ·intro h1 h2
   match i,h1,h2 with
   | 0,h1,_=>cases h1;exact z6 (λ r hr=>(List.not_mem_nil hr).elim) ⟨0,rfl,by decide⟩ ⟨h,rfl,hh⟩ ⟨rfl,rfl,rfl⟩ (bH _) (Nat.zero_le _)
   | 1,h1,h2=>cases h1;exact n9 (zI (zI (by decide) _) _) (λ r hr=>(mb hr).elim (λ e=>by omega) (λ e=>by omega))
   | _+2,h1,_=>simp at h1
 | n+1,lvl,i,a=>by
  have ih:=xz (c:=c) hh hf hx n (lvl+1) i a
  rw[dN]
  intro h1 h2
  generalize hl:dN x h0 h p0 k u gen f n (lvl+1)=l at ih h1
  rw[List.getElem?_append] at h1
  split at h1
  ·exact ih h1 h2
  ·rename_i h3
   match hi:i-l.length,h1 with
   | 0,h1=>cases h1;exact Vl (by omega)
   | 1,h1=>cases h1;exact n9 (zI (by decide) _) (λ r hr=>by rw[List.mem_singleton.1 hr];omega)
   | _+2,h1=>simp at h1
end
structure DI(g:Gx)(x:XS)(K:Int->Tr)(l:List NI)(fi:Nat)(y:Nat×Int×XS×List aL):Prop where
 le:y.1<=l.length
 st:y.2.2.1.st=false
 ok:y.2.2.1.Ok
 zero:y.1=0->y=(0,0,x,[])
 pos:y.1≠0->Nx g x y.2.2.1 y.2.2.2 (zB (l.drop y.1) y.2.1 K) y.2.1/\1<=y.2.2.1.m/\y.2.2.1.made.getD (y.2.2.1.m-1) 0=y.2.1/\((fi+y.1:Nat):Int)<=y.2.1+1
theorem DI.next{g:Gx}{x:XS}{K:Int->Tr}{l:List NI}{fi:Nat}{y:Nat×Int×XS×List aL}(h:DI g x K l fi y){lf:Nat->List NI}(hlf:l=lf fi)(hh0:∀f f',(lf f).headD NI.no=(lf f').headD NI.no)(hne:lf fi≠[])(go:fD g x (.alloc ((lf 0).headD NI.no).c0 ((lf 0).headD NI.no).init λ f=>zB (lf f.toNat).tail f K))(hfi:(fi:Int)=if x.m=x.made.length then((x.L.length+1:Nat):Int) else x.made.getD x.m 0)(hi:y.1<l.length) :
  ∃a K',l[y.1]?=some a/\fD g y.2.2.1 (.alloc a.c0 a.init K')/\(fi+y.1:Nat)<=y.2.2.1.L.length+1/\Ch x y.2.2.1 (aW y.2.2.2)/\x.L.length<=y.2.2.1.L.length/\∀q X' N',Nx g y.2.2.1 X' N' (K' q) q->AlS y.2.2.1 q X'->DI g x K l fi (y.1+1,q,X',y.2.2.2++N'):=by
 obtain⟨i,r,X,N⟩:=y
 have hst:X.st=false:=h.st
 have hok:X.Ok:=h.ok
 by_cases h0:i=0
 ·have e:=h.zero h0
  simp only[Prod.mk.injEq] at e
  obtain⟨rfl,rfl,rfl,rfl⟩:=e
  have hl:∃a t,lf fi=a::t:=by
   cases hq:lf fi with
   | nil=>exact absurd hq hne
   | cons a t=>exact⟨a,t,rfl⟩
  obtain⟨a,t,ha⟩:=hl
  have hd:(lf 0).headD NI.no=a:=by rw[hh0 0 fi,ha];rfl
  rw[hd] at go
  refine⟨a,_,by rw[hlf,ha];rfl,go,?_,⟨[],by simp,λ f hf=>by simp[aW] at hf⟩,Nat.le_refl _,λ q X' N' hn (ha':AlS X q X')=>?_⟩
  ·show fi+0<=X.L.length+1
   split at hfi
   ·omega
   ·have:=mI hok.made X.m;omega
  ·obtain⟨a1,a2,a3,a4,a5⟩:=ha' hst
   have hq:q=(fi:Int):=by rw[hfi];exact a5
   refine⟨hi,a1,hn.ok,λ h=>absurd h (Nat.succ_ne_zero _),λ _=>⟨?_,?_,?_,?_⟩⟩
   ·have h2:=hn.go
    rw[hq] at h2
    rw[List.nil_append]
    refine⟨?_,hn.ok,hn.ext,hn.lc,hn.bd⟩
    show fD g X' (zB (l.drop 1) q K)
    rw[hq,hlf,ha]
    rw[show((fi:Nat):Int).toNat=fi from by omega,ha] at h2
    exact h2
   ·show 1<=X'.m;omega
   ·show X'.made.getD (X'.m-1) 0=q
    rw[a2];exact a3
   ·show((fi+1:Nat):Int)<=q+1;omega
 ·obtain⟨p1,p2,p3,p4⟩:=h.pos h0
  have p1':Nx g x X N (zB (l.drop i) r K) r:=p1
  have p2':1<=X.m:=p2
  have p3':X.made.getD (X.m-1) 0=r:=p3
  have p4':((fi+i:Nat):Int)<=r+1:=p4
  have hi':i<l.length:=hi
  have hd:l.drop i=l[i]::l.drop (i+1):=List.drop_eq_getElem_cons hi'
  have g1:=p1'.go
  rw[hd] at g1
  refine⟨l[i],_,List.getElem?_eq_getElem hi',g1,?_,p1'.ch,p1'.len,λ q X' N' hn (ha':AlS X q X')=>?_⟩
  ·show fi+i<=X.L.length+1
   have:=p1'.bd;omega
  ·obtain⟨a1,a2,a3,a4,a5⟩:=ha' hst
   refine⟨hi,a1,hn.ok,λ h=>absurd h (Nat.succ_ne_zero _),λ _=>⟨p1'.trans hn,?_,?_,?_⟩⟩
   ·show 1<=X'.m;omega
   ·show X'.made.getD (X'.m-1) 0=q
    rw[a2];exact a3
   ·show((fi+(i+1):Nat):Int)<=q+1
    have hb:r<q:=by
     rw[a5]
     split
     ·have:=p1'.bd;omega
     ·have h3:=hok.lm
      rw[<- p3']
      exact hok.ms _ _ (by omega) (by omega)
    omega
theorem DI.done{g:Gx}{x:XS}{K:Int->Tr}{l:List NI}{fi:Nat}{y:Nat×Int×XS×List aL}(h:DI g x K l fi y)(hne:l≠[])(hi:¬y.1<l.length):Nx g x y.2.2.1 y.2.2.2 (K y.2.1) y.2.1:=by
 have h1:=h.le
 have h2:0<l.length:=List.length_pos_iff.2 hne
 have h3:=(h.pos (by omega)).1
 rw[show y.1=l.length by omega,List.drop_length] at h3
 exact h3
end

/- Executions of the reference: DUAL, the walk. -/
section
open Go Go.RowKit Go.Ct
theorem Pc{l:List NI}{i:Nat}{a:NI}(h:l[i]?=some a):(C5 l).getD i 0=a.init:=by
 unfold C5
 rw[fI,List.getElem?_map,h]
 rfl
section
variable{k:Cl}{bx bm:Nat}{x:XS}{dn:Bool}{rs:Rs}{D:List Nat}{A:Fr}{w:World}{g:Gx}
set_option maxRecDepth 100000 in
theorem qx(hg:g.Ok)(b:Int){h:Nat}(hh:h<18446744073709551616)(level:Nat)(gen:Int)(K:Int->Tr)(hb:b<=x.L.length)(go:fD g x (S8 k b h level gen K))(ok:x.Ok)(hs:SF w D (xH k bx bm x dn rs) A [] (xW x) w):Calls Tryz.prog 154 #[.pointer (some ⟨bx,0,none⟩),.int .i64 b,.int .u64 (h:Int),.int .i64 (level:Int),.int .i64 gen] w λ e w'=>∃q:Int×XS×List aL,e=.returned (.int .i64 q.1)/\Nx g x q.2.1 q.2.2 (K q.1) q.1/\SF w D (xH k bx bm q.2.1 dn rs) [] (aW q.2.2) (xW q.2.1) w':=by
 have hlL:=ok.lL
 have hlm:=ok.lm
 have hm1:x.m<x.made.length->1<=x.made.getD x.m 0/\x.made.getD x.m 0<=x.L.length:=λ h=>⟨ok.m1 _ (by rw[fI,List.getElem?_eq_getElem h];exact List.getElem_mem h),mI ok.made _⟩
 obtain⟨h0,hv0,hh0⟩:=(ok.nv b).hash
 have hv:(aA x.L b).nd.hash=(h0:Int):=hv0
 refine enter Tryz.func154 Tryz.ntmps154 rfl rfl (bX hs) ?_
 simp only[cO]
 refine cQ ?_;refine cQ ?_;refine mV ?_;refine Kx ?_;refine Li ?_;refine Ey ?_;refine gQ ?_
 refine dW [12,26,27,28,29,30,31,32,33,34,35,36,37,38,39,40,41,42,43,44,45] (λ q:Nat=>[(12,.int .i64 (q:Int))]) (λ q=>1<=q/\q<=x.L.length+1/\(q:Int)=if x.m=x.made.length then((x.L.length+1:Nat):Int) else x.made.getD x.m 0) (λ q=>xH k bx bm x dn rs) (λ q=>[]) (λ q=>xW x) (by decide) (λ _=>by exact rfl) ?_ (λ q f hx=>?_)
 ·refine aR ?_
  refine fJ [0,1,2,3,4,5,6,7,8,9] ?_;refine Cx ?_;refine lN ?_;refine Bh ?_;refine dS ?_
  refine aZ (λ c35=>?_) (λ c35=>?_)
  ·have hm2:=hm1 (by omega)
   refine fJ [0,1,2,3,4,5,6,7,8,9,10] ?_;refine Cx ?_;refine Qs ?_;refine J7 ?_
   refine eN ((x.made.getD x.m 0).toNat) ?_
   ·exact⟨by omega,by omega,by rw[if_neg (by omega)];omega⟩
  ·refine bA ?_
   refine eN (x.L.length+1) ?_
   ·exact⟨by omega,by omega,by rw[if_pos (by omega)]⟩
 dsimp only[fY,List.map,List.cons_append,List.nil_append]
 obtain⟨hq1,hq2,hq3⟩:=hx
 refine aR ?_;refine Kc6 ?_
 refine aZ (λ c49=>?_) (λ c49=>?_)
 ·refine cQ ?_
  refine aQ Tryz.results154 (λ w hw=>?_)
  exact⟨(0,x,[]),rfl,Nx.st (by assumption) go ok,hw.aS (hF:=by exact aV.nil)⟩
 ·refine jM ?_;refine eG [(0,[]),(1,[]),(3,[]),(4,[]),(5,[]),(6,[]),(7,[]),(8,[]),(9,[]),(10,[]),(11,[]),(12,[]),(13,[]),(14,[]),(15,[]),(16,[]),(17,[]),(2,[9,14]),(18,[]),(19,[]),(20,[]),(21,[]),(22,[]),(23,[])] ?_;refine gP ?_;refine gP ?_;refine uB ?_;refine uB ?_;refine gP ?_;refine aU ?_;refine bC (i:=2) (hq:=(cM (hs:=xH k bx bm x dn rs) (os:=xW x) (hc:=λ w hs=>cD b _ hb go ok hs))) (h:=λ x53 h53=>?_)
  have e0:(aA x.L b).c.hash.toNat=h0:=by rw[hv0];simp
  have go2:=h53.1
  rw[e0] at go2
  refine bC (i:=18) (hq:=(cF (hc:=λ w1 hw=>Wx (v:=aA x.L b) (at':=b) (h0:=h0) (h:=h) (fi:=q) (lvl:=level) hv hh0 hh hq1 (by omega) w1))) (h:=λ x69 h69=>?_);refine aU ?_;refine cJ (i:=20) (hq:=(bL rf rfl)) (h:=?_);refine cJ (i:=21) (hq:=(bL rf rfl)) (h:=?_);refine dh ?_;refine aR ?_;refine Gl ?_
  refine kZ [11,15,72,73,74,75,76,77,78,79,80,81,82,83,84,85,86,87] (λ y:Nat×Int×XS×List aL=>[(15,.int .i64 (y.1:Int)),(11,.int .i64 y.2.1)]) (λ y=>DI g x K (dQ b h0 h (aA x.L b) k.key k.val gen q (jW h0 h-level)) q y) (λ y=>xH k bx bm y.2.2.1 dn rs) (λ y=>(x69.pn,gR x69.L)::(x69.pc,aG x69.ini)::(aW x69.L++aW y.2.2.2)) (λ y=>xW y.2.2.1) (λ y=>x69.L.length-y.1) ((0,0,x,[])) (⟨Nat.zero_le _,by assumption,ok,λ _=>rfl,λ h=>absurd rfl h⟩) (λ y f hx=>?_) (hw0:=λ w hw=>hw.sub (List.Sublist.refl _) (aV.qL λ f hf=>by simpa[aW] using hf) (List.Sublist.refl _))
  dsimp only[fY,List.map,List.cons_append,List.nil_append]
  have hy:=hx
  refine F0 ?_;refine dE ?_;refine vI ?_
  refine aZ (λ c75=>?_) (λ c75=>?_)
  ·obtain⟨hd,hd1,hd2⟩:=h69
   have hle:=hd.len
   have hlt:y.1<x69.L.length:=by omega
   obtain⟨a,K',ha,ga,hfb,hch,hln,hnx⟩:=hy.next (lf:=λ f=>dQ b h0 h (aA x.L b) k.key k.val gen f (jW h0 h-level)) rfl (λ f f'=>Rg _ _) (Lv _ _) go2 hq3 (by omega)
   obtain⟨a',ha',hma⟩:=hd.m.at hlt
   have haa:a'=a:=Option.some.inj (ha'.symm.trans ha)
   subst haa
   have hini:x69.ini.getD y.1 0=a'.init:=by rw[hd.ini];exact Pc ha
   have hB:=xz (c:=y.2.2.1.cs.length) hh hq1 (show b<=y.2.2.1.L.length by omega) _ _ _ _ ha (by omega)
   have hsx:=hma.sx
   have htw:=hy.ok.two
   have hcl:=xC h0 h
   have hdl:(dQ b h0 h (aA x.L b) k.key k.val gen q (jW h0 h-level)).length<=2+2*(jW h0 h-level):=P9 _ _
   have hyy:=hB.ys
   rw[<- hma.ys] at hyy
   have hc0:(x69.L.getD y.1 aL.zero).nd.c (x69.L.getD y.1 aL.zero).xs (x69.L.getD y.1 aL.zero).ys=a'.c0:=hma.c0
   refine nZ ?_;refine fJ [0,1,2,3,4,5,6,7,8,9,10] ?_;refine gP ?_;refine aU ?_;refine Qs ?_;refine gP ?_;refine Qs ?_;refine bC (i:=9) (hq:=(cM (hs:=xH k bx bm y.2.2.1 dn rs) (os:=xW y.2.2.1) (A0:=[((x69.L.getD y.1 aL.zero).nd.brA,aG (x69.L.getD y.1 aL.zero).xs),((x69.L.getD y.1 aL.zero).nd.prA,dG (x69.L.getD y.1 aL.zero).ys)]) (hA:=bP.of λ f hf=>.inr (.inr (.inl (by simp only[List.mem_cons,List.not_mem_nil,or_false] at hf;rcases hf with rfl|rfl;exact .tail _ (.tail _ (List.mem_append_left _ (Iu hlt)));exact .tail _ (.tail _ (List.mem_append_left _ (Sg hlt))))))) (hc:=λ w hs=>Sq hg (n:=(x69.L.getD y.1 aL.zero).nd) (xs:=(x69.L.getD y.1 aL.zero).xs) (ys:=(x69.L.getD y.1 aL.zero).ys) (x69.ini.getD y.1 0) K' hma.fit.brN hma.fit.prN (by omega) (by omega) (by rw[hc0];exact hB.nv) (by rw[hini];exact hB.init) (by rw[hc0,hini];exact ga) hy.ok hs))) (h:=λ x87 h87=>?_);refine J7 ?_;refine Kd0 ?_
   refine fV ((y.1+1,x87.1,x87.2.1,y.2.2.2++x87.2.2)) ?_ (hw1:=λ w hw=>hw.sub (List.Sublist.refl _) (aV.qL λ f hf=>by simp only[dB,List.mem_append,List.mem_cons] at hf ⊢;rcases hf with hf|hf|hf|hf|hf;exact .inr (.inl hf);exact .inr (.inr (.inl hf));exact .inr (.inr (.inr (.inl hf)));exact .inr (.inr (.inr (.inr hf)));exact .inl hf) (List.Sublist.refl _))
   ·exact hnx _ _ _ h87.1 h87.2
  ·refine bF rfl ?_;refine Ka5 ?_
   refine aQ Tryz.results154 (λ w hw=>?_)
   exact⟨(y.2.1,y.2.2.1,y.2.2.2),rfl,hy.done (Lv _ _) (by have:=h69.1.len;omega),(hw.eP λ f hf=>.inr (.tail _ (.tail _ (List.mem_append_right _ hf)))).v1⟩
end
end

/- Executions of the reference: PERMITS, BELOW; pairs in nodes. -/
section
open Go Go.RowKit Go.Ct
section
variable{v:aL}{n c m:Nat}{w:World}
theorem w8(h:nS n c v.c)(k:ByteArray)(u:Int)(hr:qQ w v.nd v.xs v.ys)(hy:v.ys.length<=150000000000):Calls Tryz.prog 151 #[v.nd.v,.string k,.int .u64 u] w (wo w (jT v.nd v.xs v.ys k u) v.nd.hash):=Qe (n:=v.nd) k u (eE h).1 (eE h).2 hr hy
theorem yx(h:nS n c v.c)(k:ByteArray)(hr:qQ w v.nd v.xs v.ys)(hy:v.ys.length<=150000000000):Calls Tryz.prog 155 #[v.nd.v,.string k] w (xl w (oP v.nd v.xs v.ys k) v.nd.hash):=L9 (n:=v.nd) k (eE h).1 (eE h).2 hr hy
theorem Wf(o:Option (List Pr))(h:Int)(x:Option Addr×Nat):(Xx o h x).brN=([]:List Int).length/\(Xx o h x).prN=(Vx o).length:=by cases o<;>exact⟨rfl,rfl⟩
theorem zT(q:List Pr)(h:Int)(x:Option Addr×Nat):(Ko (some q) h x={Nd.zero with kind:=5,hash:=h,key:=(q.getD 0 (⟨#[]⟩,0)).1,val:=(q.getD 0 (⟨#[]⟩,0)).2}/\Fw (some q)=[])∨(Ko (some q) h x={Nd.zero with kind:=6,hash:=h,prA:=x.1,prN:=q.length,dG:=x.2}/\Fw (some q)=q):=by
 by_cases hq:q.length=1
 ·exact .inl ⟨if_pos hq,if_pos hq⟩
 ·exact .inr ⟨if_neg hq,if_neg hq⟩
theorem Yr(o:Option (List Pr))(h:Int)(x:Option Addr×Nat):(Ko o h x).brN=([]:List Int).length/\(Ko o h x).prN=(Fw o).length:=by
 cases o with
 | none=>exact⟨rfl,rfl⟩
 | some l=>rcases zT l h x with⟨e1,e2⟩|⟨e1,e2⟩<;>rw[e1,e2]<;>exact⟨rfl,rfl⟩
theorem zt{A F:Fr}{O:List Ow}{o:Option (List Pr)}{h:Int}{x:Option Addr×Nat}:bP A ((x.1,dG (Vx o))::F) O [((Xx o h x).brA,aG []),((Xx o h x).prA,dG (Vx o))]:=by
 cases o with
 | none=>exact .cons (.inl rfl) (.cons (.inl rfl) .nil)
 | some q=>exact .cons (.inl rfl) (.cons (.inr (.inr (.inl (.head _)))) .nil)
theorem vz{A F:Fr}{O:List Ow}{o:Option (List Pr)}{h:Int}{x:Option Addr×Nat}:bP A ((x.1,dG (Fw o))::F) O [((Ko o h x).brA,aG []),((Ko o h x).prA,dG (Fw o))]:=by
 cases o with
 | none=>exact .cons (.inl rfl) (.cons (.inl rfl) .nil)
 | some q =>
  rcases zT q h x with⟨e1,e2⟩|⟨e1,e2⟩<;>rw[e1,e2]
  ·exact .cons (.inl rfl) (.cons (.inl rfl) .nil)
  ·exact .cons (.inl rfl) (.cons (.inr (.inr (.inl (.head _)))) .nil)
theorem s9{o:Option (List Pr)}{h:Int}(x:Option Addr×Nat)(hh:∃b:Nat,h=(b:Int)/\b<18446744073709551616):nS m c {(Xx o h x).c [] (Vx o) with main:=0,prev:=0,status:=0}:=by
 cases o with
 | none=>exact⟨bH _,bH _,bH _,(λ r hr=>nomatch hr),bH _,bH _,bH _,⟨0,rfl,by decide⟩,⟨0,rfl,by decide⟩⟩
 | some q=>exact⟨bH _,bH _,bH _,(λ r hr=>nomatch hr),bH _,bH _,bH _,⟨0,rfl,by decide⟩,hh⟩
theorem ua{o:Option (List Pr)}{h:Int}(x:Option Addr×Nat)(hh:∃b:Nat,h=(b:Int)/\b<18446744073709551616):nS m c {(Ko o h x).c [] (Fw o) with main:=0,prev:=0,status:=0}:=by
 cases o with
 | none=>exact⟨bH _,bH _,bH _,(λ r hr=>nomatch hr),bH _,bH _,bH _,⟨0,rfl,by decide⟩,⟨0,rfl,by decide⟩⟩
 | some q =>
  rcases zT q h x with⟨e1,e2⟩|⟨e1,e2⟩<;>rw[e1,e2]<;>exact⟨bH _,bH _,bH _,(λ r hr=>nomatch hr),bH _,bH _,bH _,⟨0,rfl,by decide⟩,hh⟩
theorem sq(l:List Int)(ys:List Pr)(d:Nd)(k:ByteArray)(u:Int):(Vx (jT d l ys k u)).length<=ys.length+1:=by
 have:=kf ys k u
 unfold jT
 split
 ·exact this
 ·exact Nat.zero_le _
theorem vf(l:List Int)(ys:List Pr)(d:Nd)(k:ByteArray):(Fw (oP d l ys k)).length<=ys.length:=by
 have:=Xd ys k
 unfold oP
 split
 ·simp only[Fw];split
  ·exact Nat.zero_le _
  ·exact this
 ·exact Nat.zero_le _
theorem pR{x:XS}(h:x.Ok)(r:Int):(aA x.L r).ys.length<=x.L.length:=by
 unfold aA
 split
 ·exact h.ys _ (eT (L:=x.L) (k:=(r-1).toNat) (by omega))
 ·exact Nat.zero_le _
end
theorem Eo{n c h:Nat}{k:ByteArray}{u:Int}(hh:h<18446744073709551616):nS n c {(({Nd.zero with kind:=4,hash:=(h:Int),key:=k,val:=u}:Nd).c [] []) with main:=0,prev:=0,status:=0}:=⟨bH _,bH _,bH _,(λ r hr=>nomatch hr),bH _,bH _,bH _,⟨0,rfl,by decide⟩,⟨h,rfl,hh⟩⟩
theorem nY(p:Value)(o f:Bool)(v:Int)(w:World):Calls Tryz.prog 152 #[p,.bool o,.bool f,.int .u64 v] w λ e w'=>e=.returned (.tuple #[.agg ⟨(qF f v).cells⟩,.int .i64 (if o=true then 1 else 0)])/\St w [] [] w':=by
 refine enter Tryz.func152 Tryz.ntmps152 rfl rfl (SF.s0 w) ?_
 simp only[cO]
 refine J0 ?_;refine aN (λ x8=>?_);refine sZ ?_;refine aT (cV (hc:=λ w1 hw=>fM f v w1)) (λ x13=>?_);refine aN (λ x10=>?_);refine J5 ?_;refine J0 ?_;refine xK ?_;refine kT ?_;refine mJ ?_
 refine aZ (λ c16=>?_) (λ c16=>?_)
 ·refine kV ?_;refine B5 ?_
  refine bK Tryz.results152 (λ w hw=>?_)
  rw[if_neg (by simp_all)];exact⟨rfl,hw.done⟩
 ·refine bA ?_;refine kV ?_;refine B5 ?_
  refine bK Tryz.results152 (λ w hw=>?_)
  rw[if_pos (by simp_all)];exact⟨rfl,hw.done⟩
section
variable{k:Cl}{bx bm:Nat}{x:XS}{dn:Bool}{rs:Rs}{D:List Nat}{A:Fr}{w:World}{g:Gx}
theorem uT(f:Bool)(v:Int)(hs:SF w D (xH k bx bm x dn rs) A [] (xW x) w):Calls Tryz.prog 150 #[.pointer (some ⟨bx,0,none⟩),.bool f,.int .u64 v] w λ e w'=>∃q:Unit,e=.returned (.bool (mR k f v))/\True/\SF w D (xH k bx bm x dn rs) [] [] (xW x) w':=by
 refine enter Tryz.func150 Tryz.ntmps150 rfl rfl (bX hs) ?_
 simp only[cO]
 refine F4 ?_;refine Fv ?_;refine J3 ?_;refine Kc4 ?_;refine jE ?_
 refine aZ (λ c12=>?_) (λ c12=>?_)
 ·refine J2 ?_;refine wI ?_;refine J1 ?_
  refine aQ Tryz.results150 (λ w hw=>?_)
  rw[show mR k f v=!f from if_pos (by assumption)];exact⟨(),rfl,trivial,hw.aS⟩
 ·refine jE ?_
  refine aZ (λ c16=>?_) (λ c16=>?_)
  ·refine Ka5 ?_
   refine aQ Tryz.results150 (λ w hw=>?_)
   rw[show mR k f v=f from(if_neg (by assumption)).trans (if_pos (by assumption))];exact⟨(),rfl,trivial,hw.aS⟩
  ·refine jE ?_
   refine aZ (λ c19=>?_) (λ c19=>?_)
   ·refine iR ?_
    (refine eF 22 (λ g22=>?_) (λ g22=>?_)<;>refine Ka0 ?_)
    all_goals (refine uq ?_;refine J6 ?_;refine zN ?_;refine J1 ?_)
    all_goals
    refine aQ Tryz.results150 (λ w hw=>?_)
    have e:mR k f v=(f&&v==k.exp):=(if_neg (by assumption)).trans ((if_neg (by assumption)).trans (if_pos (by assumption)))
    rw[e]
    exact⟨(),by simp_all<;>rfl,trivial,hw.aS⟩
   ·refine Kb0 ?_
    refine aQ Tryz.results150 (λ w hw=>?_)
    rw[show mR k f v=true from(if_neg (by assumption)).trans ((if_neg (by assumption)).trans (if_neg (by assumption)))];exact⟨(),rfl,trivial,hw.aS⟩
theorem Sb(hg:g.Ok)(i m index gen:Int)(K:Int->Tr)(ht:k.t.root<=9223372036854775807)(hi:i<=x.L.length)(hm:m<=x.L.length)(hA:∀f∈aW x.L,f∈A)(go:fD g x (Ej k i m index gen K))(ok:x.Ok)(hs:SF w D (xH k bx bm x dn rs) A [] (xW x) w):Calls Tryz.prog 123 #[.pointer (some ⟨bx,0,none⟩),.int .i64 i,.int .i64 m,.int .i64 index,.int .i64 gen] w λ e w'=>∃q:Int×XS×List aL,e=.returned (.int .i64 q.1)/\Nx g x q.2.1 q.2.2 (K q.1) q.1/\SF w D (xH k bx bm q.2.1 dn rs) [] (aW q.2.2) (xW q.2.1) w':=by
 refine enter Tryz.func123 Tryz.ntmps123 rfl rfl (bX hs) ?_
 simp only[cO]
 refine cQ ?_;refine iR ?_;refine aC (cM (hs:=xH k bx bm x dn rs) (os:=xW x) (hc:=λ w hs=>cD m _ hm go ok hs)) (λ x16 h16=>?_);refine aB ?_;refine aT (cV (hc:=λ w1 hw=>Ha (v:=aA x.L m) (ok.nv m) index (ok.qR hw hA m))) (λ x18=>?_);refine aB ?_;refine aE (bL rf rfl) rfl ?_;refine aE (bL rf rfl) rfl ?_;refine J8 ?_;refine aR ?_;refine mV ?_;refine aB ?_
 (refine eF 25 (λ g25=>?_) (λ g25=>?_)<;>refine Ka0 ?_)
 all_goals (refine Ka0 ?_;(first|refine aH ?_|(refine aF ?_;refine aC (cM (hs:=xH k bx bm x dn rs) (os:=xW x) (hc:=λ w hs=>cD ((jN (aA x.L m).c index).getD 0) _ (oW (ok.nv m) index) h16.1 ok hs)) (λ x28 h28=>?_)));refine J81 ?_;refine zN ?_;refine aI ?_)
 all_goals
 refine aZ (λ c32=>?_) (λ c32=>?_)
 ·all_goals (refine Ka5 ?_)
  all_goals
   refine aQ Tryz.results123 (λ w hw=>?_)
   exact⟨((jN (aA x.L m).c index).getD 0,x,[]),rfl,⟨by first|exact h28.1.to (λ _=>if_pos (by assumption))|exact go.bS (by assumption),ok,by simp,Nat.le_refl _,oW (ok.nv m) index⟩,hw.aS (hF:=by exact aV.nil)⟩
 ·try exact nv c32
  all_goals (refine zS ?_;refine Kx ?_;refine aD ?_;refine aE (aK (k:=2) (vs:=[.int .i64 k.t.root,.bool k.t.ro]) rf dV fX rfl rfl) rfl ?_;refine oX ?_;refine aB ?_;refine aC (cM (hs:=xH k bx bm x dn rs) (os:=xW x) (A0:=aW x.L) (hA:=bP.of λ f hf=>.inr (.inl (hA f hf))) (hc:=λ w hs=>jt hg k.t i m index _ ht hi hm (λ f hf=>hf) (h28.1.to (λ _=>if_neg (by assumption))) ok hs)) (λ x43 h43=>?_);refine J1 ?_)
  all_goals
   refine aQ Tryz.results123 (λ w hw=>?_)
   exact⟨x43,rfl,h43,by rw[List.append_nil] at hw;exact hw.v1⟩
end
end

end Go.Proofs.YtadnboagdhcedaaGreatDoor
