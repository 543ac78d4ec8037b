/- Executions of the reference: DUAL. -/
import Derived.Test.YtadnboagdhcedaaGreatDoorGEx11

set_option linter.unusedSimpArgs false
set_option linter.unusedVariables false
namespace Go.Proofs.YtadnboagdhcedaaGreatDoor
section
open Go Go.RowKit Go.Ct
section
variable{x:Int}{h0 h:Nat}{p0:Pr}{k:ByteArray}{u gen:Int}{f f':Nat}
theorem Lv:∀n lvl,dN x h0 h p0 k u gen f n lvl≠[]
 | 0,lvl=>by unfold dN;split<;>exact List.cons_ne_nil _ _
 | n+1,lvl=>by rw[dN];exact λ h=>Lv n (lvl+1) (List.append_eq_nil_iff.1 h).1
theorem Qt:∀n lvl,(dN x h0 h p0 k u gen f n lvl).headD NI.no=(dN x h0 h p0 k u gen f' n lvl).headD NI.no
 | 0,lvl=>by unfold dN;split<;>rfl
 | n+1,lvl=>by
  have:=Qt n (lvl+1)
  rw[dN,dN]
  have h1:=Lv (x:=x) (h0:=h0) (h:=h) (p0:=p0) (k:=k) (u:=u) (gen:=gen) (f:=f) n (lvl+1)
  have h2:=Lv (x:=x) (h0:=h0) (h:=h) (p0:=p0) (k:=k) (u:=u) (gen:=gen) (f:=f') n (lvl+1)
  revert this h1 h2
  cases dN x h0 h p0 k u gen f n (lvl+1) with
  | nil=>exact λ _ h1=>absurd rfl h1
  | cons a l =>
   cases dN x h0 h p0 k u gen f' n (lvl+1) with
   | nil=>exact λ _ _ h2=>absurd rfl h2
   | cons b l'=>exact λ this _ _=>this
structure NiB(m c:Nat)(a:NI):Prop where
 nv:nU m c {a.c0 with main:=0,prev:=0,status:=0}
 init:a.init<=m
 ys:a.ys.length<=2
theorem niB{a:NI}{m c:Nat}(h1:∀r∈a.xs,r<=m)(h2:∃b:Nat,a.n.bm=(b:Int)/\b<18446744073709551616)(h3:∃b:Nat,a.n.hash=(b:Int)/\b<18446744073709551616)(h4:a.n.bM=0/\a.n.exp=0/\a.n.new=0)(h5:a.init<=m)(h6:a.ys.length<=2):NiB m c a :=
 ⟨⟨by show a.n.bM<=m;omega,by show a.n.exp<=m;omega,by show a.n.new<=m;omega,h1,bF _,bF _,bF _,h2,h3⟩,h5,h6⟩
theorem ft{i k:Nat}{a b r:Int}(h:r∈two i k a b):r=a∨r=b:=by
 unfold two at h
 split at h
 ·simpa using h
 ·have:=h;simp at this;exact this.symm
theorem Vn{m c:Nat}{g i:Int}(h:i<=m):NiB m c (pK g i):=niB (λ r hr=>(List.not_mem_nil hr).elim) ⟨0,rfl,by decide⟩ ⟨0,rfl,by decide⟩ ⟨rfl,rfl,rfl⟩ h (Nat.zero_le _)
theorem oh{m c b:Nat}{xs:List Int}(hb:b<18446744073709551616)(h:∀r∈xs,r<=m):NiB m c (Z9 b xs):=niB h ⟨b,rfl,hb⟩ ⟨0,rfl,by decide⟩ ⟨rfl,rfl,rfl⟩ (bF _) (Nat.zero_le _)
theorem w6{m c:Nat}(hh:h<18446744073709551616)(hf:1<=f)(hx:x<=m):∀n lvl i a,(dN x h0 h p0 k u gen f n lvl)[i]?=some a->f+i<=m+1->NiB m c a
 | 0,lvl,i,a=>by
  unfold dN
  split
  ·intro h1 _
   cases i with
   | zero=>cases h1;exact niB (λ r hr=>(List.not_mem_nil hr).elim) ⟨0,rfl,by decide⟩ ⟨h,rfl,hh⟩ ⟨rfl,rfl,rfl⟩ (bF _) (Nat.le_trans (Si _) (Nat.le_refl 2))
   | succ i=>simp at h1
  ·intro h1 h2
   match i,h1,h2 with
   | 0,h1,_=>cases h1;exact niB (λ r hr=>(List.not_mem_nil hr).elim) ⟨0,rfl,by decide⟩ ⟨h,rfl,hh⟩ ⟨rfl,rfl,rfl⟩ (bF _) (Nat.zero_le _)
   | 1,h1,h2=>cases h1;exact oh (yB (yB (by decide) _) _) (λ r hr=>(ft hr).elim (λ e=>by omega) (λ e=>by omega))
   | _+2,h1,_=>simp at h1
 | n+1,lvl,i,a=>by
  have ih:=w6 (c:=c) hh hf hx n (lvl+1) i a
  rw[dN]
  intro h1 h2
  generalize hl:dN x h0 h p0 k u gen f n (lvl+1)=l at ih h1
  rw[List.getElem?_append] at h1
  split at h1
  ·exact ih h1 h2
  ·rename_i h3
   match hi:i-l.length,h1 with
   | 0,h1=>cases h1;exact Vn (by omega)
   | 1,h1=>cases h1;exact oh (yB (by decide) _) (λ r hr=>by rw[List.mem_singleton.1 hr];omega)
   | _+2,h1=>simp at h1
end
structure DI(g:Gx)(x:XS)(K:Int->Tr)(l:List NI)(fi:Nat)(y:Nat×Int×XS×List aL):Prop where
 le:y.1<=l.length
 st:y.2.2.1.st=false
 ok:y.2.2.1.Ok
 zero:y.1=0->y=(0,0,x,[])
 pos:y.1≠0->Nx g x y.2.2.1 y.2.2.2 (yM (l.drop y.1) y.2.1 K) y.2.1/\1<=y.2.2.1.m/\y.2.2.1.made.getD (y.2.2.1.m-1) 0=y.2.1/\((fi+y.1:Nat):Int)<=y.2.1+1
theorem DI.next{g:Gx}{x:XS}{K:Int->Tr}{l:List NI}{fi:Nat}{y:Nat×Int×XS×List aL}(h:DI g x K l fi y){lf:Nat->List NI}(hlf:l=lf fi)(hh0:∀f f',(lf f).headD NI.no=(lf f').headD NI.no)(hne:lf fi≠[])(go:fD g x (.alloc ((lf 0).headD NI.no).c0 ((lf 0).headD NI.no).init λ f=>yM (lf f.toNat).tail f K))(hfi:(fi:Int)=if x.m=x.made.length then((x.L.length+1:Nat):Int) else x.made.getD x.m 0)(hi:y.1<l.length) :
  ∃a K',l[y.1]?=some a/\fD g y.2.2.1 (.alloc a.c0 a.init K')/\(fi+y.1:Nat)<=y.2.2.1.L.length+1/\Ch x y.2.2.1 (aV y.2.2.2)/\x.L.length<=y.2.2.1.L.length/\∀q X' N',Nx g y.2.2.1 X' N' (K' q) q->AlS y.2.2.1 q X'->DI g x K l fi (y.1+1,q,X',y.2.2.2++N'):=by
 obtain⟨i,r,X,N⟩:=y
 have hst:X.st=false:=h.st
 have hok:X.Ok:=h.ok
 by_cases h0:i=0
 ·have e:=h.zero h0
  simp only[Prod.mk.injEq] at e
  obtain⟨rfl,rfl,rfl,rfl⟩:=e
  have hl:∃a t,lf fi=a::t:=by
   cases hq:lf fi with
   | nil=>exact absurd hq hne
   | cons a t=>exact⟨a,t,rfl⟩
  obtain⟨a,t,ha⟩:=hl
  have hd:(lf 0).headD NI.no=a:=by rw[hh0 0 fi,ha];rfl
  rw[hd] at go
  refine⟨a,_,by rw[hlf,ha];rfl,go,?_,⟨[],by simp,λ f hf=>by simp[aV] at hf⟩,Nat.le_refl _,λ q X' N' hn (ha':AlS X q X')=>?_⟩
  ·show fi+0<=X.L.length+1
   split at hfi
   ·omega
   ·have:=mA hok.made X.m;omega
  ·obtain⟨a1,a2,a3,a4,a5⟩:=ha' hst
   have hq:q=(fi:Int):=by rw[hfi];exact a5
   refine⟨hi,a1,hn.ok,λ h=>absurd h (Nat.succ_ne_zero _),λ _=>⟨?_,?_,?_,?_⟩⟩
   ·have h2:=hn.go
    rw[hq] at h2
    rw[List.nil_append]
    refine⟨?_,hn.ok,hn.ext,hn.lc,hn.bd⟩
    show fD g X' (yM (l.drop 1) q K)
    rw[hq,hlf,ha]
    rw[show((fi:Nat):Int).toNat=fi from by omega,ha] at h2
    exact h2
   ·show 1<=X'.m;omega
   ·show X'.made.getD (X'.m-1) 0=q
    rw[a2];exact a3
   ·show((fi+1:Nat):Int)<=q+1;omega
 ·obtain⟨p1,p2,p3,p4⟩:=h.pos h0
  have p1':Nx g x X N (yM (l.drop i) r K) r:=p1
  have p2':1<=X.m:=p2
  have p3':X.made.getD (X.m-1) 0=r:=p3
  have p4':((fi+i:Nat):Int)<=r+1:=p4
  have hi':i<l.length:=hi
  have hd:l.drop i=l[i]::l.drop (i+1):=List.drop_eq_getElem_cons hi'
  have g1:=p1'.go
  rw[hd] at g1
  refine⟨l[i],_,List.getElem?_eq_getElem hi',g1,?_,p1'.ch,p1'.len,λ q X' N' hn (ha':AlS X q X')=>?_⟩
  ·show fi+i<=X.L.length+1
   have:=p1'.bd;omega
  ·obtain⟨a1,a2,a3,a4,a5⟩:=ha' hst
   refine⟨hi,a1,hn.ok,λ h=>absurd h (Nat.succ_ne_zero _),λ _=>⟨p1'.trans hn,?_,?_,?_⟩⟩
   ·show 1<=X'.m;omega
   ·show X'.made.getD (X'.m-1) 0=q
    rw[a2];exact a3
   ·show((fi+(i+1):Nat):Int)<=q+1
    have hb:r<q:=by
     rw[a5]
     split
     ·have:=p1'.bd;omega
     ·have h3:=hok.lm
      rw[<- p3']
      exact hok.ms _ _ (by omega) (by omega)
    omega
theorem DI.done{g:Gx}{x:XS}{K:Int->Tr}{l:List NI}{fi:Nat}{y:Nat×Int×XS×List aL}(h:DI g x K l fi y)(hne:l≠[])(hi:¬y.1<l.length):Nx g x y.2.2.1 y.2.2.2 (K y.2.1) y.2.1:=by
 have h1:=h.le
 have h2:0<l.length:=List.length_pos_iff.2 hne
 have h3:=(h.pos (by omega)).1
 rw[show y.1=l.length by omega,List.drop_length] at h3
 exact h3
end

/- Executions of the reference: DUAL, the walk. -/
section
open Go Go.RowKit Go.Ct
theorem Pk{l:List NI}{i:Nat}{a:NI}(h:l[i]?=some a):(Ej l).getD i 0=a.init:=by
 unfold Ej
 rw[fM,List.getElem?_map,h]
 rfl
section
variable{k:Cl}{bx bm:Nat}{x:XS}{dn:Bool}{rs:Rs}{D:List Nat}{A:Fr}{w:World}{g:Gx}
set_option maxRecDepth 100000 in
theorem rv(hg:g.Ok)(b:Int){h:Nat}(hh:h<18446744073709551616)(level:Nat)(gen:Int)(K:Int->Tr)(hb:b<=x.L.length)(go:fD g x (Sx k b h level gen K))(ok:x.Ok)(hs:SF w D (xH k bx bm x dn rs) A [] (xW x) w):Calls Tryz.prog 154 #[.pointer (some ⟨bx,0,none⟩),.int .i64 b,.int .u64 (h:Int),.int .i64 (level:Int),.int .i64 gen] w λ e w'=>∃q:Int×XS×List aL,e=.returned (.int .i64 q.1)/\Nx g x q.2.1 q.2.2 (K q.1) q.1/\SF w D (xH k bx bm q.2.1 dn rs) [] (aV q.2.2) (xW q.2.1) w':=by
 have hlL:=ok.lL
 have hlm:=ok.lm
 have hm1:x.m<x.made.length->1<=x.made.getD x.m 0/\x.made.getD x.m 0<=x.L.length:=λ h=>⟨ok.m1 _ (by rw[fM,List.getElem?_eq_getElem h];exact List.getElem_mem h),mA ok.made _⟩
 obtain⟨h0,hv0,hh0⟩:=(ok.nv b).hash
 have hv:(aA x.L b).nd.hash=(h0:Int):=hv0
 refine enter Tryz.func154 Tryz.ntmps154 rfl rfl (bX hs) ?_
 simp only[cP]
 refine cQ ?_;refine cQ ?_;refine nA ?_;refine Ky ?_;refine Mx ?_;refine E9 ?_;refine gP ?_
 refine dV [12,26,27,28,29,30,31,32,33,34,35,36,37,38,39,40,41,42,43,44,45] (λ q:Nat=>[(12,.int .i64 (q:Int))]) (λ q=>1<=q/\q<=x.L.length+1/\(q:Int)=if x.m=x.made.length then((x.L.length+1:Nat):Int) else x.made.getD x.m 0) (λ q=>xH k bx bm x dn rs) (λ q=>[]) (λ q=>xW x) (by decide) (λ _=>by exact rfl) ?_ (λ q f hx=>?_)
 ·refine aR ?_
  refine fK [0,1,2,3,4,5,6,7,8,9] ?_;refine Cc ?_;refine lK ?_;refine Ba ?_;refine dW ?_
  refine aZ (λ c35=>?_) (λ c35=>?_)
  ·have hm2:=hm1 (by omega)
   refine fK [0,1,2,3,4,5,6,7,8,9,10] ?_;refine Cc ?_;refine Sr ?_;refine J7 ?_
   refine eO ((x.made.getD x.m 0).toNat) ?_
   ·exact⟨by omega,by omega,by rw[if_neg (by omega)];omega⟩
  ·refine bA ?_
   refine eO (x.L.length+1) ?_
   ·exact⟨by omega,by omega,by rw[if_pos (by omega)]⟩
 dsimp only[fY,List.map,List.cons_append,List.nil_append]
 obtain⟨hq1,hq2,hq3⟩:=hx
 refine aR ?_;refine Kc5 ?_
 refine aZ (λ c49=>?_) (λ c49=>?_)
 ·refine cQ ?_
  refine aQ Tryz.results154 (λ w hw=>?_)
  exact⟨(0,x,[]),rfl,Nx.st (by assumption) go ok,hw.aT (hF:=by exact aW.nil)⟩
 ·refine jM ?_;refine eG [(0,[]),(1,[]),(3,[]),(4,[]),(5,[]),(6,[]),(7,[]),(8,[]),(9,[]),(10,[]),(11,[]),(12,[]),(13,[]),(14,[]),(15,[]),(16,[]),(17,[]),(2,[9,14]),(18,[]),(19,[]),(20,[]),(21,[]),(22,[]),(23,[])] ?_;refine gN ?_;refine gN ?_;refine tQ ?_;refine tQ ?_;refine gN ?_;refine aS ?_;refine bC (i:=2) (hq:=(cM (hs:=xH k bx bm x dn rs) (os:=xW x) (hc:=λ w hs=>cE b _ hb go ok hs))) (h:=λ x53 h53=>?_)
  have e0:(aA x.L b).c.hash.toNat=h0:=by rw[hv0];simp
  have go2:=h53.1
  rw[e0] at go2
  refine bC (i:=18) (hq:=(cF (hc:=λ w1 hw=>Xv (v:=aA x.L b) (at':=b) (h0:=h0) (h:=h) (fi:=q) (lvl:=level) hv hh0 hh hq1 (by omega) w1))) (h:=λ x69 h69=>?_);refine aS ?_;refine cJ (i:=20) (hq:=(bL rf rfl)) (h:=?_);refine cJ (i:=21) (hq:=(bL rf rfl)) (h:=?_);refine j6 ?_;refine aR ?_;refine Gh ?_
  refine lE [11,15,72,73,74,75,76,77,78,79,80,81,82,83,84,85,86,87] (λ y:Nat×Int×XS×List aL=>[(15,.int .i64 (y.1:Int)),(11,.int .i64 y.2.1)]) (λ y=>DI g x K (dQ b h0 h (aA x.L b) k.key k.val gen q (jV h0 h-level)) q y) (λ y=>xH k bx bm y.2.2.1 dn rs) (λ y=>(x69.pn,gR x69.L)::(x69.pc,aG x69.ini)::(aV x69.L++aV y.2.2.2)) (λ y=>xW y.2.2.1) (λ y=>x69.L.length-y.1) ((0,0,x,[])) (⟨Nat.zero_le _,by assumption,ok,λ _=>rfl,λ h=>absurd rfl h⟩) (λ y f hx=>?_) (hw0:=λ w hw=>hw.sub (List.Sublist.refl _) (aW.oP λ f hf=>by simpa[aV] using hf) (List.Sublist.refl _))
  dsimp only[fY,List.map,List.cons_append,List.nil_append]
  have hy:=hx
  refine Fz ?_;refine dI ?_;refine vV ?_
  refine aZ (λ c75=>?_) (λ c75=>?_)
  ·obtain⟨hd,hd1,hd2⟩:=h69
   have hle:=hd.len
   have hlt:y.1<x69.L.length:=by omega
   obtain⟨a,K',ha,ga,hfb,hch,hln,hnx⟩:=hy.next (lf:=λ f=>dQ b h0 h (aA x.L b) k.key k.val gen f (jV h0 h-level)) rfl (λ f f'=>Qt _ _) (Lv _ _) go2 hq3 (by omega)
   obtain⟨a',ha',hma⟩:=hd.m.at hlt
   have haa:a'=a:=Option.some.inj (ha'.symm.trans ha)
   subst haa
   have hini:x69.ini.getD y.1 0=a'.init:=by rw[hd.ini];exact Pk ha
   have hB:=w6 (c:=y.2.2.1.cs.length) hh hq1 (show b<=y.2.2.1.L.length by omega) _ _ _ _ ha (by omega)
   have hsx:=hma.sx
   have htw:=hy.ok.two
   have hcl:=wP h0 h
   have hdl:(dQ b h0 h (aA x.L b) k.key k.val gen q (jV h0 h-level)).length<=2+2*(jV h0 h-level):=N6 _ _
   have hyy:=hB.ys
   rw[<- hma.ys] at hyy
   have hc0:(x69.L.getD y.1 aL.zero).nd.c (x69.L.getD y.1 aL.zero).xs (x69.L.getD y.1 aL.zero).ys=a'.c0:=hma.c0
   refine oE ?_;refine fK [0,1,2,3,4,5,6,7,8,9,10] ?_;refine gN ?_;refine aS ?_;refine Sr ?_;refine gN ?_;refine Sr ?_;refine bC (i:=9) (hq:=(cM (hs:=xH k bx bm y.2.2.1 dn rs) (os:=xW y.2.2.1) (A0:=[((x69.L.getD y.1 aL.zero).nd.brA,aG (x69.L.getD y.1 aL.zero).xs),((x69.L.getD y.1 aL.zero).nd.prA,dF (x69.L.getD y.1 aL.zero).ys)]) (hA:=bQ.of λ f hf=>.inr (.inr (.inl (by simp only[List.mem_cons,List.not_mem_nil,or_false] at hf;rcases hf with rfl|rfl;exact .tail _ (.tail _ (List.mem_append_left _ (I0 hlt)));exact .tail _ (.tail _ (List.mem_append_left _ (Ro hlt))))))) (hc:=λ w hs=>S6 hg (n:=(x69.L.getD y.1 aL.zero).nd) (xs:=(x69.L.getD y.1 aL.zero).xs) (ys:=(x69.L.getD y.1 aL.zero).ys) (x69.ini.getD y.1 0) K' hma.fit.brN hma.fit.prN (by omega) (by omega) (by rw[hc0];exact hB.nv) (by rw[hini];exact hB.init) (by rw[hc0,hini];exact ga) hy.ok hs))) (h:=λ x87 h87=>?_);refine J7 ?_;refine Kd0 ?_
   refine gC ((y.1+1,x87.1,x87.2.1,y.2.2.2++x87.2.2)) ?_ (hw1:=λ w hw=>hw.sub (List.Sublist.refl _) (aW.oP λ f hf=>by simp only[dB,List.mem_append,List.mem_cons] at hf ⊢;rcases hf with hf|hf|hf|hf|hf;exact .inr (.inl hf);exact .inr (.inr (.inl hf));exact .inr (.inr (.inr (.inl hf)));exact .inr (.inr (.inr (.inr hf)));exact .inl hf) (List.Sublist.refl _))
   ·exact hnx _ _ _ h87.1 h87.2
  ·refine bI rfl ?_;refine Ka6 ?_
   refine aQ Tryz.results154 (λ w hw=>?_)
   exact⟨(y.2.1,y.2.2.1,y.2.2.2),rfl,hy.done (Lv _ _) (by have:=h69.1.len;omega),(hw.eN λ f hf=>.inr (.tail _ (.tail _ (List.mem_append_right _ hf)))).v4⟩
end
end

/- Executions of the reference: PERMITS, BELOW; pairs in nodes. -/
section
open Go Go.RowKit Go.Ct
section
variable{v:aL}{n c m:Nat}{w:World}
theorem yq(h:nU n c v.c)(k:ByteArray)(u:Int)(hr:qP w v.nd v.xs v.ys)(hy:v.ys.length<=150000000000):Calls Tryz.prog 151 #[v.nd.v,.string k,.int .u64 u] w (xn w (jR v.nd v.xs v.ys k u) v.nd.hash):=O8 (n:=v.nd) k u (eE h).1 (eE h).2 hr hy
theorem y9(h:nU n c v.c)(k:ByteArray)(hr:qP w v.nd v.xs v.ys)(hy:v.ys.length<=150000000000):Calls Tryz.prog 155 #[v.nd.v,.string k] w (w3 w (oN v.nd v.xs v.ys k) v.nd.hash):=Lg (n:=v.nd) k (eE h).1 (eE h).2 hr hy
theorem Wi(o:Option (List Pr))(h:Int)(x:Option Addr×Nat):(Yp o h x).brN=([]:List Int).length/\(Yp o h x).prN=(Vy o).length:=by cases o<;>exact⟨rfl,rfl⟩
theorem zM(q:List Pr)(h:Int)(x:Option Addr×Nat):(Kp (some q) h x={Nd.zero with kind:=5,hash:=h,key:=(q.getD 0 (⟨#[]⟩,0)).1,val:=(q.getD 0 (⟨#[]⟩,0)).2}/\Fl (some q)=[])∨(Kp (some q) h x={Nd.zero with kind:=6,hash:=h,prA:=x.1,prN:=q.length,dF:=x.2}/\Fl (some q)=q):=by
 by_cases hq:q.length=1
 ·exact .inl ⟨if_pos hq,if_pos hq⟩
 ·exact .inr ⟨if_neg hq,if_neg hq⟩
theorem bq(o:Option (List Pr))(h:Int)(x:Option Addr×Nat):(Kp o h x).brN=([]:List Int).length/\(Kp o h x).prN=(Fl o).length:=by
 cases o with
 | none=>exact⟨rfl,rfl⟩
 | some l=>rcases zM l h x with⟨e1,e2⟩|⟨e1,e2⟩<;>rw[e1,e2]<;>exact⟨rfl,rfl⟩
theorem z6{A F:Fr}{O:List Ow}{o:Option (List Pr)}{h:Int}{x:Option Addr×Nat}:bQ A ((x.1,dF (Vy o))::F) O [((Yp o h x).brA,aG []),((Yp o h x).prA,dF (Vy o))]:=by
 cases o with
 | none=>exact .cons (.inl rfl) (.cons (.inl rfl) .nil)
 | some q=>exact .cons (.inl rfl) (.cons (.inr (.inr (.inl (.head _)))) .nil)
theorem yx{A F:Fr}{O:List Ow}{o:Option (List Pr)}{h:Int}{x:Option Addr×Nat}:bQ A ((x.1,dF (Fl o))::F) O [((Kp o h x).brA,aG []),((Kp o h x).prA,dF (Fl o))]:=by
 cases o with
 | none=>exact .cons (.inl rfl) (.cons (.inl rfl) .nil)
 | some q =>
  rcases zM q h x with⟨e1,e2⟩|⟨e1,e2⟩<;>rw[e1,e2]
  ·exact .cons (.inl rfl) (.cons (.inl rfl) .nil)
  ·exact .cons (.inl rfl) (.cons (.inr (.inr (.inl (.head _)))) .nil)
theorem tu{o:Option (List Pr)}{h:Int}(x:Option Addr×Nat)(hh:∃b:Nat,h=(b:Int)/\b<18446744073709551616):nU m c {(Yp o h x).c [] (Vy o) with main:=0,prev:=0,status:=0}:=by
 cases o with
 | none=>exact⟨bF _,bF _,bF _,(λ r hr=>nomatch hr),bF _,bF _,bF _,⟨0,rfl,by decide⟩,⟨0,rfl,by decide⟩⟩
 | some q=>exact⟨bF _,bF _,bF _,(λ r hr=>nomatch hr),bF _,bF _,bF _,⟨0,rfl,by decide⟩,hh⟩
theorem tg{o:Option (List Pr)}{h:Int}(x:Option Addr×Nat)(hh:∃b:Nat,h=(b:Int)/\b<18446744073709551616):nU m c {(Kp o h x).c [] (Fl o) with main:=0,prev:=0,status:=0}:=by
 cases o with
 | none=>exact⟨bF _,bF _,bF _,(λ r hr=>nomatch hr),bF _,bF _,bF _,⟨0,rfl,by decide⟩,⟨0,rfl,by decide⟩⟩
 | some q =>
  rcases zM q h x with⟨e1,e2⟩|⟨e1,e2⟩<;>rw[e1,e2]<;>exact⟨bF _,bF _,bF _,(λ r hr=>nomatch hr),bF _,bF _,bF _,⟨0,rfl,by decide⟩,hh⟩
theorem vy(l:List Int)(ys:List Pr)(d:Nd)(k:ByteArray)(u:Int):(Vy (jR d l ys k u)).length<=ys.length+1:=by
 have:=ia ys k u
 unfold jR
 split
 ·exact this
 ·exact Nat.zero_le _
theorem u7(l:List Int)(ys:List Pr)(d:Nd)(k:ByteArray):(Fl (oN d l ys k)).length<=ys.length:=by
 have:=W2 ys k
 unfold oN
 split
 ·simp only[Fl];split
  ·exact Nat.zero_le _
  ·exact this
 ·exact Nat.zero_le _
theorem pR{x:XS}(h:x.Ok)(r:Int):(aA x.L r).ys.length<=x.L.length:=by
 unfold aA
 split
 ·exact h.ys _ (eV (L:=x.L) (k:=(r-1).toNat) (by omega))
 ·exact Nat.zero_le _
end
theorem Er{n c h:Nat}{k:ByteArray}{u:Int}(hh:h<18446744073709551616):nU n c {(({Nd.zero with kind:=4,hash:=(h:Int),key:=k,val:=u}:Nd).c [] []) with main:=0,prev:=0,status:=0}:=⟨bF _,bF _,bF _,(λ r hr=>nomatch hr),bF _,bF _,bF _,⟨0,rfl,by decide⟩,⟨h,rfl,hh⟩⟩
theorem nZ(p:Value)(o f:Bool)(v:Int)(w:World):Calls Tryz.prog 152 #[p,.bool o,.bool f,.int .u64 v] w λ e w'=>e=.returned (.tuple #[.agg ⟨(qK f v).cells⟩,.int .i64 (if o=true then 1 else 0)])/\St w [] [] w':=by
 refine enter Tryz.func152 Tryz.ntmps152 rfl rfl (SF.s0 w) ?_
 simp only[cP]
 refine J0 ?_;refine aP (λ x8=>?_);refine sV ?_;refine aU (cV (hc:=λ w1 hw=>fL f v w1)) (λ x13=>?_);refine aP (λ x10=>?_);refine J5 ?_;refine J0 ?_;refine xC ?_;refine kR ?_;refine mS ?_
 refine aZ (λ c16=>?_) (λ c16=>?_)
 ·refine kN ?_;refine B2 ?_
  refine bK Tryz.results152 (λ w hw=>?_)
  rw[if_neg (by simp_all)];exact⟨rfl,hw.done⟩
 ·refine bA ?_;refine kN ?_;refine B2 ?_
  refine bK Tryz.results152 (λ w hw=>?_)
  rw[if_pos (by simp_all)];exact⟨rfl,hw.done⟩
section
variable{k:Cl}{bx bm:Nat}{x:XS}{dn:Bool}{rs:Rs}{D:List Nat}{A:Fr}{w:World}{g:Gx}
theorem vH(f:Bool)(v:Int)(hs:SF w D (xH k bx bm x dn rs) A [] (xW x) w):Calls Tryz.prog 150 #[.pointer (some ⟨bx,0,none⟩),.bool f,.int .u64 v] w λ e w'=>∃q:Unit,e=.returned (.bool (mG k f v))/\True/\SF w D (xH k bx bm x dn rs) [] [] (xW x) w':=by
 refine enter Tryz.func150 Tryz.ntmps150 rfl rfl (bX hs) ?_
 simp only[cP]
 refine F2 ?_;refine Fo ?_;refine J3 ?_;refine Kc3 ?_;refine jC ?_
 refine aZ (λ c12=>?_) (λ c12=>?_)
 ·refine J2 ?_;refine wF ?_;refine J1 ?_
  refine aQ Tryz.results150 (λ w hw=>?_)
  rw[show mG k f v=!f from if_pos (by assumption)];exact⟨(),rfl,trivial,hw.aT⟩
 ·refine jC ?_
  refine aZ (λ c16=>?_) (λ c16=>?_)
  ·refine Ka6 ?_
   refine aQ Tryz.results150 (λ w hw=>?_)
   rw[show mG k f v=f from(if_neg (by assumption)).trans (if_pos (by assumption))];exact⟨(),rfl,trivial,hw.aT⟩
  ·refine jC ?_
   refine aZ (λ c19=>?_) (λ c19=>?_)
   ·refine iQ ?_
    (refine eF 22 (λ g22=>?_) (λ g22=>?_)<;>refine Ka0 ?_)
    all_goals (refine tq ?_;refine J6 ?_;refine zH ?_;refine J1 ?_)
    all_goals
    refine aQ Tryz.results150 (λ w hw=>?_)
    have e:mG k f v=(f&&v==k.exp):=(if_neg (by assumption)).trans ((if_neg (by assumption)).trans (if_pos (by assumption)))
    rw[e]
    exact⟨(),by simp_all<;>rfl,trivial,hw.aT⟩
   ·refine Kb1 ?_
    refine aQ Tryz.results150 (λ w hw=>?_)
    rw[show mG k f v=true from(if_neg (by assumption)).trans ((if_neg (by assumption)).trans (if_neg (by assumption)))];exact⟨(),rfl,trivial,hw.aT⟩
theorem Ss(hg:g.Ok)(i m index gen:Int)(K:Int->Tr)(ht:k.t.root<=9223372036854775807)(hi:i<=x.L.length)(hm:m<=x.L.length)(hA:∀f∈aV x.L,f∈A)(go:fD g x (Es k i m index gen K))(ok:x.Ok)(hs:SF w D (xH k bx bm x dn rs) A [] (xW x) w):Calls Tryz.prog 123 #[.pointer (some ⟨bx,0,none⟩),.int .i64 i,.int .i64 m,.int .i64 index,.int .i64 gen] w λ e w'=>∃q:Int×XS×List aL,e=.returned (.int .i64 q.1)/\Nx g x q.2.1 q.2.2 (K q.1) q.1/\SF w D (xH k bx bm q.2.1 dn rs) [] (aV q.2.2) (xW q.2.1) w':=by
 refine enter Tryz.func123 Tryz.ntmps123 rfl rfl (bX hs) ?_
 simp only[cP]
 refine cQ ?_;refine iQ ?_;refine aC (cM (hs:=xH k bx bm x dn rs) (os:=xW x) (hc:=λ w hs=>cE m _ hm go ok hs)) (λ x16 h16=>?_);refine aB ?_;refine aU (cV (hc:=λ w1 hw=>Hk (v:=aA x.L m) (ok.nv m) index (ok.qQ hw hA m))) (λ x18=>?_);refine aB ?_;refine aE (bL rf rfl) rfl ?_;refine aE (bL rf rfl) rfl ?_;refine J8 ?_;refine aR ?_;refine nA ?_;refine aB ?_
 (refine eF 25 (λ g25=>?_) (λ g25=>?_)<;>refine Ka0 ?_)
 all_goals (refine Ka0 ?_;(first|refine aH ?_|(refine aF ?_;refine aC (cM (hs:=xH k bx bm x dn rs) (os:=xW x) (hc:=λ w hs=>cE ((jT (aA x.L m).c index).getD 0) _ (oV (ok.nv m) index) h16.1 ok hs)) (λ x28 h28=>?_)));refine J81 ?_;refine zH ?_;refine aI ?_)
 all_goals
 refine aZ (λ c32=>?_) (λ c32=>?_)
 ·all_goals (refine Ka6 ?_)
  all_goals
   refine aQ Tryz.results123 (λ w hw=>?_)
   exact⟨((jT (aA x.L m).c index).getD 0,x,[]),rfl,⟨by first|exact h28.1.to (λ _=>if_pos (by assumption))|exact go.bR (by assumption),ok,by simp,Nat.le_refl _,oV (ok.nv m) index⟩,hw.aT (hF:=by exact aW.nil)⟩
 ·try exact nv c32
  all_goals (refine Ag ?_;refine Ky ?_;refine aD ?_;refine aE (aK (k:=2) (vs:=[.int .i64 k.t.root,.bool k.t.ro]) rf dU fX rfl rfl) rfl ?_;refine nX ?_;refine aB ?_;refine aC (cM (hs:=xH k bx bm x dn rs) (os:=xW x) (A0:=aV x.L) (hA:=bQ.of λ f hf=>.inr (.inl (hA f hf))) (hc:=λ w hs=>ln hg k.t i m index _ ht hi hm (λ f hf=>hf) (h28.1.to (λ _=>if_neg (by assumption))) ok hs)) (λ x43 h43=>?_);refine J1 ?_)
  all_goals
   refine aQ Tryz.results123 (λ w hw=>?_)
   exact⟨x43,rfl,h43,by rw[List.append_nil] at hw;exact hw.v4⟩
end
end

end Go.Proofs.YtadnboagdhcedaaGreatDoor
