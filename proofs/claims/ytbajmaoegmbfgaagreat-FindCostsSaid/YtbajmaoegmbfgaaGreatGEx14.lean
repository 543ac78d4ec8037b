/- Merged. -/
import Derived.Test.YtbajmaoegmbfgaaGreatGEx11
set_option linter.unusedSimpArgs false
set_option linter.unusedVariables false
namespace Go.Proofs.YtbajmaoegmbfgaaGreat
open Go.Proofs.Tryz
open Go Go.RowKit Go.Ct
section
section
variable{x:Int}{h0 h:Nat}{p0:Pr}{k:ByteArray}{u gen:Int}{f f':Nat}
theorem R3:∀n lvl,dN x h0 h p0 k u gen f n lvl≠[]
 | 0,lvl=>by unfold dN;split<;>exact List.cons_ne_nil _ _
 | n+1,lvl=>by rw[dN];exact λ h=>R3 n (lvl+1) (List.append_eq_nil_iff.1 h).1
theorem V6:∀n lvl,(dN x h0 h p0 k u gen f n lvl).headD NI.no=(dN x h0 h p0 k u gen f' n lvl).headD NI.no
 | 0,lvl=>by unfold dN;split<;>rfl
 | n+1,lvl=>by
  have:=V6 n (lvl+1);rw[dN,dN];have h1:=R3 (x:=x) (h0:=h0) (h:=h) (p0:=p0) (k:=k) (u:=u) (gen:=gen) (f:=f) n (lvl+1);have h2:=R3 (x:=x) (h0:=h0) (h:=h) (p0:=p0) (k:=k) (u:=u) (gen:=gen) (f:=f') n (lvl+1);revert this h1 h2;cases dN x h0 h p0 k u gen f n (lvl+1) with
  | nil=>exact λ _ h1=>absurd rfl h1
  | cons a l=>
   cases dN x h0 h p0 k u gen f' n (lvl+1) with
   | nil=>exact λ _ _ h2=>absurd rfl h2
   | cons b l'=>exact λ this _ _=>this
structure NiB(m c:Nat)(a:NI):Prop where
 nv:mT m c {a.c0 with main:=0,prev:=0,status:=0}
 init:a.init<=m
 ys:a.ys.length<=2
theorem niB{a:NI}{m c:Nat}(h1:∀r∈a.xs,r<=m)(h2:∃b:Nat,a.n.bm=(b:Int)/\b<18446744073709551616)(h3:∃b:Nat,a.n.hash=(b:Int)/\b<18446744073709551616)(h4:a.n.bR=0/\a.n.exp=0/\a.n.new=0)(h5:a.init<=m)(h6:a.ys.length<=2):NiB m c a :=⟨⟨by show a.n.bR<=m;omega,by show a.n.exp<=m;omega,by show a.n.new<=m;omega,h1,bM _,bM _,bM _,h2,h3⟩,h5,h6⟩
theorem yh{i k:Nat}{a b r:Int}(h:r∈two i k a b):r=a∨r=b:=by
 unfold two at h;split at h;·simpa using h
 ·have:=h;simp at this;exact this.symm
theorem Za{m c:Nat}{g i:Int}(h:i<=m):NiB m c (rX g i):=niB (λ r hr=>(List.not_mem_nil hr).elim) ⟨0,rfl,by decide⟩ ⟨0,rfl,by decide⟩ ⟨rfl,rfl,rfl⟩ h (Nat.zero_le _)
theorem aAv{m c b:Nat}{xs:List Int}(hb:b<18446744073709551616)(h:∀r∈xs,r<=m):NiB m c (mj b xs):=niB h ⟨b,rfl,hb⟩ ⟨0,rfl,by decide⟩ ⟨rfl,rfl,rfl⟩ (bM _) (Nat.zero_le _)
theorem aDo{m c:Nat}(hh:h<18446744073709551616)(hf:1<=f)(hx:x<=m):∀n lvl i a,(dN x h0 h p0 k u gen f n lvl)[i]?=some a->f+i<=m+1->NiB m c a
 | 0,lvl,i,a=>by
  unfold dN
  split
  ·intro h1 _
   cases i with
   | zero=>cases h1;exact niB (λ r hr=>(List.not_mem_nil hr).elim) ⟨0,rfl,by decide⟩ ⟨h,rfl,hh⟩ ⟨rfl,rfl,rfl⟩ (bM _) (Nat.le_trans (V9 _) (Nat.le_refl 2))
   | succ i=>simp at h1
  ·intro h1 h2
   match i,h1,h2 with
   | 0,h1,_=>cases h1;exact niB (λ r hr=>(List.not_mem_nil hr).elim) ⟨0,rfl,by decide⟩ ⟨h,rfl,hh⟩ ⟨rfl,rfl,rfl⟩ (bM _) (Nat.zero_le _)
   | 1,h1,h2=>cases h1;exact aAv (B4 (B4 (by decide) _) _) (λ r hr=>(yh hr).elim (λ e=>by omega) (λ e=>by omega))
   | _+2,h1,_=>simp at h1
 | n+1,lvl,i,a=>by
  have ih:=aDo (c:=c) hh hf hx n (lvl+1) i a;rw[dN];intro h1 h2
  generalize hl:dN x h0 h p0 k u gen f n (lvl+1)=l at ih h1
  rw[List.getElem?_append] at h1
  split at h1
  ·exact ih h1 h2
  ·rename_i h3
   match hi:i-l.length,h1 with
   | 0,h1=>cases h1;exact Za (by omega)
   | 1,h1=>cases h1;exact aAv (B4 (by decide) _) (λ r hr=>by rw[List.mem_singleton.1 hr];omega)
   | _+2,h1=>simp at h1
end
structure DI(g:Gx)(x:XS)(K:Int->Tr)(l:List NI)(fi:Nat)(y:Nat×Int×XS×List aR):Prop where
 le:y.1<=l.length
 st:y.2.2.1.st=false
 ok:y.2.2.1.Ok
 zero:y.1=0->y=(0,0,x,[])
 pos:y.1≠0->Nx g x y.2.2.1 y.2.2.2 (A9 (l.drop y.1) y.2.1 K) y.2.1/\1<=y.2.2.1.m/\y.2.2.1.made.getD (y.2.2.1.m-1) 0=y.2.1/\((fi+y.1:Nat):Int)<=y.2.1+1
variable{g:Gx}{x:XS}{l:List NI}{fi:Nat}
theorem DI.next{K:Int->Tr}{y:Nat×Int×XS×List aR}(h:DI g x K l fi y){lf:Nat->List NI}(hlf:l=lf fi)(hh0:∀f f',(lf f).headD NI.no=(lf f').headD NI.no)(hne:lf fi≠[])(go:gG g x (.alloc ((lf 0).headD NI.no).c0 ((lf 0).headD NI.no).init λ f=>A9 (lf f.toNat).tail f K))(hfi:(fi:Int)=if x.m=x.made.length then((x.L.length+1:Nat):Int) else x.made.getD x.m 0)(hi:y.1<l.length) :
  ∃a K',l[y.1]?=some a/\gG g y.2.2.1 (.alloc a.c0 a.init K')/\(fi+y.1:Nat)<=y.2.2.1.L.length+1/\Ch x y.2.2.1 (aP y.2.2.2)/\x.L.length<=y.2.2.1.L.length/\∀q X' N',Nx g y.2.2.1 X' N' (K' q) q->AlS y.2.2.1 q X'->DI g x K l fi (y.1+1,q,X',y.2.2.2++N'):=by
 obtain⟨i,r,X,N⟩:=y;have hst:X.st=false:=h.st;have hok:X.Ok:=h.ok;by_cases h0:i=0
 ·have e:=h.zero h0;simp only[Prod.mk.injEq] at e;obtain⟨rfl,rfl,rfl,rfl⟩:=e;have hl:∃a t,lf fi=a::t:=by
   cases hq:lf fi with
   | nil=>exact absurd hq hne
   | cons a t=>exact⟨a,t,rfl⟩
  obtain⟨a,t,ha⟩:=hl;have hd:(lf 0).headD NI.no=a:=by rw[hh0 0 fi,ha];rfl
  rw[hd] at go;refine⟨a,_,by rw[hlf,ha];rfl,go,?_,⟨[],by simp,λ f hf=>by simp[aP] at hf⟩,Nat.le_refl _,λ q X' N' hn (ha':AlS X q X')=>?_⟩
  ·show fi+0<=X.L.length+1;split at hfi;·omega
   ·have:=mV hok.made X.m;omega
  ·obtain⟨a1,a2,a3,a4,a5⟩:=ha' hst;have hq:q=(fi:Int):=by rw[hfi];exact a5
   refine⟨hi,a1,hn.ok,λ h=>absurd h (Nat.succ_ne_zero _),λ _=>⟨?_,?_,?_,?_⟩⟩;·have h2:=hn.go;rw[hq] at h2;rw[List.nil_append];refine⟨?_,hn.ok,hn.ext,hn.lc,hn.bd⟩;show gG g X' (A9 (l.drop 1) q K);rw[hq,hlf,ha];rw[show((fi:Nat):Int).toNat=fi from by omega,ha] at h2;exact h2
   ·show 1<=X'.m;omega
   ·show X'.made.getD (X'.m-1) 0=q;rw[a2];exact a3
   ·show((fi+1:Nat):Int)<=q+1;omega
 ·obtain⟨p1,p2,p3,p4⟩:=h.pos h0;have p1':Nx g x X N (A9 (l.drop i) r K) r:=p1;have p2':1<=X.m:=p2;have p3':X.made.getD (X.m-1) 0=r:=p3;have p4':((fi+i:Nat):Int)<=r+1:=p4;have hi':i<l.length:=hi;have hd:l.drop i=l[i]::l.drop (i+1):=List.drop_eq_getElem_cons hi';have g1:=p1'.go;rw[hd] at g1;refine⟨l[i],_,List.getElem?_eq_getElem hi',g1,?_,p1'.ch,p1'.len,λ q X' N' hn (ha':AlS X q X')=>?_⟩
  ·show fi+i<=X.L.length+1;have:=p1'.bd;omega
  ·obtain⟨a1,a2,a3,a4,a5⟩:=ha' hst;refine⟨hi,a1,hn.ok,λ h=>absurd h (Nat.succ_ne_zero _),λ _=>⟨p1'.trans hn,?_,?_,?_⟩⟩;·show 1<=X'.m;omega
   ·show X'.made.getD (X'.m-1) 0=q;rw[a2];exact a3
   ·show((fi+(i+1):Nat):Int)<=q+1;have hb:r<q:=by
     rw[a5];split;·have:=p1'.bd;omega
     ·have h3:=hok.lm;rw[<- p3'];exact hok.ms _ _ (by omega) (by omega)
    omega
theorem DI.done{K:Int->Tr}{y:Nat×Int×XS×List aR}(h:DI g x K l fi y)(hne:l≠[])(hi:¬y.1<l.length):Nx g x y.2.2.1 y.2.2.2 (K y.2.1) y.2.1:=by have h1:=h.le;have h2:0<l.length:=List.length_pos_iff.2 hne;have h3:=(h.pos (by omega)).1;rw[show y.1=l.length by omega,List.drop_length] at h3;exact h3
end
section
theorem Vh{l:List NI}{i:Nat}{a:NI}(h:l[i]?=some a):(Iw l).getD i 0=a.init:=by unfold Iw;rw[jA,List.getElem?_map,h];rfl
section
variable{k:Cl}{bx bm:Nat}{x:XS}{dn:Bool}{rs:Rs}{D:List Nat}{A:Fr}{w:World}{g:Gx}
set_option maxRecDepth 100000 in
theorem aB7(hg:g.Ok)(b:Int){h:Nat}(hh:h<18446744073709551616)(level:Nat)(gen:Int)(K:Int->Tr)(hb:b<=x.L.length)(go:gG g x (Xb k b h level gen K))(ok:x.Ok)(hs:SF w D (xH k bx bm x dn rs) A [] (xW x) w):Calls prog 250 #[.pointer (some ⟨bx,0,none⟩),.int .i64 b,.int .u64 (h:Int),.int .i64 (level:Int),.int .i64 gen] w λ e w'=>∃q:Int×XS×List aR,e=.returned (.int .i64 q.1)/\Nx g x q.2.1 q.2.2 (K q.1) q.1/\SF w D (xH k bx bm q.2.1 dn rs) [] (aP q.2.2) (xW q.2.1) w':=by
 have hlL:=ok.lL;have hlm:=ok.lm;have hm1:x.m<x.made.length->1<=x.made.getD x.m 0/\x.made.getD x.m 0<=x.L.length:=λ h=>⟨ok.m1 _ (by rw[jA,List.getElem?_eq_getElem h];exact List.getElem_mem h),mV ok.made _⟩;obtain⟨h0,hv0,hh0⟩:=(ok.nv b).hash
 have hv:(aB x.L b).nd.hash=(h0:Int):=hv0;refine enter func250 ntmps250 rfl rfl (cI hs) ?_;simp only[cC]
 refine cX ?_;refine cX ?_;refine mY ?_;refine Hs ?_;refine Sx ?_;refine Ea ?_;refine jG ?_;refine eY [12,26,27,28,29,30,31,32,33,34,35,36,37,38,39,40,41,42,43,44,45] (λ q:Nat=>[(12,.int .i64 (q:Int))]) (λ q=>1<=q/\q<=x.L.length+1/\(q:Int)=if x.m=x.made.length then((x.L.length+1:Nat):Int) else x.made.getD x.m 0) (λ q=>xH k bx bm x dn rs) (λ q=>[]) (λ q=>xW x) (by decide) (λ _=>by exact rfl) ?_ (λ q f hx=>?_)
 ·refine aV ?_;refine gO [0,1,2,3,4,5,6,7,8,9] ?_;refine Fm ?_;refine pX ?_;refine D8 ?_;refine eS ?_;refine bD (λ c35=>?_) (λ c35=>?_);·have hm2:=hm1 (by omega);refine gO [0,1,2,3,4,5,6,7,8,9,10] ?_;refine Fm ?_;refine S9 ?_;refine J7 ?_;refine fK ((x.made.getD x.m 0).toNat) ?_;·exact⟨by omega,by omega,by rw[if_neg (by omega)];omega⟩
  ·refine aW ?_;refine fK (x.L.length+1) ?_;·exact⟨by omega,by omega,by rw[if_pos (by omega)]⟩
 refine K0a ?_;obtain⟨hq1,hq2,hq3⟩:=hx;refine aV ?_;refine Kc7 ?_;refine bD (λ c49=>?_) (λ c49=>?_);·refine cX ?_;refine aS results250 (λ w hw=>?_);exact⟨(0,x,[]),rfl,Nx.st (by assumption) go ok,hw.bA (hF:=by exact aZ.nil)⟩
 ·refine lH ?_;refine eM [(0,[]),(1,[]),(3,[]),(4,[]),(5,[]),(6,[]),(7,[]),(8,[]),(9,[]),(10,[]),(11,[]),(12,[]),(13,[]),(14,[]),(15,[]),(16,[]),(17,[]),(2,[9,14]),(18,[]),(19,[]),(20,[]),(21,[]),(22,[]),(23,[])] ?_;refine iR ?_;refine iR ?_;refine yX ?_;refine yX ?_;refine iR ?_;refine aT ?_;refine bK (i:=2) (hq:=(cM (hs:=xH k bx bm x dn rs) (os:=xW x) (hc:=λ w hs=>cQ b _ hb go ok hs))) (h:=λ x53 h53=>?_);have e0:(aB x.L b).c.hash.toNat=h0:=by rw[hv0];simp
  have go2:=h53.1;rw[e0] at go2;refine bK (i:=18) (hq:=(cF (hc:=λ w1 hw=>mx (v:=aB x.L b) (at':=b) (h0:=h0) (h:=h) (fi:=q) (lvl:=level) hv hh0 hh hq1 (by omega) w1))) (h:=λ x69 h69=>?_);refine aT ?_;refine cW (i:=20) (hq:=(bQ rf rfl)) (h:=?_);refine cW (i:=21) (hq:=(bQ rf rfl)) (h:=?_);refine Qe ?_;refine aV ?_;refine E9 ?_;refine nB [11,15,72,73,74,75,76,77,78,79,80,81,82,83,84,85,86,87] (λ y:Nat×Int×XS×List aR=>[(15,.int .i64 (y.1:Int)),(11,.int .i64 y.2.1)]) (λ y=>DI g x K (dQ b h0 h (aB x.L b) k.key k.val gen q (kZ h0 h-level)) q y) (λ y=>xH k bx bm y.2.2.1 dn rs) (λ y=>(x69.pn,jB x69.L)::(x69.pc,aH x69.ini)::(aP x69.L++aP y.2.2.2)) (λ y=>xW y.2.2.1) (λ y=>x69.L.length-y.1) ((0,0,x,[])) (⟨Nat.zero_le _,by assumption,ok,λ _=>rfl,λ h=>absurd rfl h⟩) (λ y f hx=>?_) (hw0:=λ w hw=>hw.sub (List.Sublist.refl _) (aZ.iV λ f hf=>by simpa[aP] using hf) (List.Sublist.refl _));refine K0a ?_;have hy:=hx;refine K1i ?_;refine bD (λ c75=>?_) (λ c75=>?_)
  ·obtain⟨hd,hd1,hd2⟩:=h69;have hle:=hd.len;have hlt:y.1<x69.L.length:=by omega
   obtain⟨a,K',ha,ga,hfb,hch,hln,hnx⟩:=hy.next (lf:=λ f=>dQ b h0 h (aB x.L b) k.key k.val gen f (kZ h0 h-level)) rfl (λ f f'=>V6 _ _) (R3 _ _) go2 hq3 (by omega);obtain⟨a',ha',hma⟩:=hd.m.at hlt;have haa:a'=a:=Option.some.inj (ha'.symm.trans ha);subst haa;have hini:x69.ini.getD y.1 0=a'.init:=by rw[hd.ini];exact Vh ha
   have hB:=aDo (c:=y.2.2.1.cs.length) hh hq1 (show b<=y.2.2.1.L.length by omega) _ _ _ _ ha (by omega);have hsx:=hma.sx;have htw:=hy.ok.two;have hcl:=Ah h0 h;have hdl:(dQ b h0 h (aB x.L b) k.key k.val gen q (kZ h0 h-level)).length<=2+2*(kZ h0 h-level):=Tl _ _;have hyy:=hB.ys;rw[<- hma.ys] at hyy;have hc0:(x69.L.getD y.1 aR.zero).nd.c (x69.L.getD y.1 aR.zero).xs (x69.L.getD y.1 aR.zero).ys=a'.c0:=hma.c0;refine sG ?_;refine gO [0,1,2,3,4,5,6,7,8,9,10] ?_;refine iR ?_;refine aT ?_;refine S9 ?_;refine iR ?_;refine S9 ?_;refine bK (i:=9) (hq:=(cM (hs:=xH k bx bm y.2.2.1 dn rs) (os:=xW y.2.2.1) (A0:=[((x69.L.getD y.1 aR.zero).nd.brA,aH (x69.L.getD y.1 aR.zero).xs),((x69.L.getD y.1 aR.zero).nd.prA,dI (x69.L.getD y.1 aR.zero).ys)]) (hA:=bG.of λ f hf=>.inr (.inr (.inl (by simp only[List.mem_cons,List.not_mem_nil,or_false] at hf;rcases hf with rfl|rfl;exact .tail _ (.tail _ (List.mem_append_left _ (Fz hlt)));exact .tail _ (.tail _ (List.mem_append_left _ (Fy hlt))))))) (hc:=λ w hs=>Xx hg (n:=(x69.L.getD y.1 aR.zero).nd) (xs:=(x69.L.getD y.1 aR.zero).xs) (ys:=(x69.L.getD y.1 aR.zero).ys) (x69.ini.getD y.1 0) K' hma.fit.brN hma.fit.prN (by omega) (by omega) (by rw[hc0];exact hB.nv) (by rw[hini];exact hB.init) (by rw[hc0,hini];exact ga) hy.ok hs))) (h:=λ x87 h87=>?_);refine J7 ?_;refine Kb2 ?_;refine iX ((y.1+1,x87.1,x87.2.1,y.2.2.2++x87.2.2)) ?_ (hw1:=λ w hw=>hw.sub (List.Sublist.refl _) (aZ.iV λ f hf=>by simp only[cU,List.mem_append,List.mem_cons] at hf ⊢;rcases hf with hf|hf|hf|hf|hf;exact .inr (.inl hf);exact .inr (.inr (.inl hf));exact .inr (.inr (.inr (.inl hf)));exact .inr (.inr (.inr (.inr hf)));exact .inl hf) (List.Sublist.refl _))
   ·exact hnx _ _ _ h87.1 h87.2
  ·refine bS rfl ?_;refine Ka5 ?_;refine aS results250 (λ w hw=>?_);exact⟨(y.2.1,y.2.2.1,y.2.2.2),rfl,hy.done (R3 _ _) (by have:=h69.1.len;omega),(hw.fA λ f hf=>.inr (.tail _ (.tail _ (List.mem_append_right _ hf)))).v4⟩
end
end
section
section
variable{v:aR}{n c m:Nat}{w:World}
variable{A F:Fr}{O:List Ow}{h:Int}
theorem aDS(h:mT n c v.c)(k:ByteArray)(u:Int)(hr:sE w v.nd v.xs v.ys)(hy:v.ys.length<=150000000000):Calls prog 247 #[v.nd.v,.string k,.int .u64 u] w (aCy w (lJ v.nd v.xs v.ys k u) v.nd.hash):=Tc (n:=v.nd) k u (fD h).1 (fD h).2 hr hy
theorem aCr(h:mT n c v.c)(k:ByteArray)(hr:sE w v.nd v.xs v.ys)(hy:v.ys.length<=150000000000):Calls prog 251 #[v.nd.v,.string k] w (aDY w (rL v.nd v.xs v.ys k) v.nd.hash):=Ri (n:=v.nd) k (fD h).1 (fD h).2 hr hy
theorem j3(o:Option (List Pr))(h:Int)(x:Option Addr×Nat):(j8 o h x).brN=([]:List Int).length/\(j8 o h x).prN=(bz o).length:=by cases o<;>exact⟨rfl,rfl⟩
theorem Ck(q:List Pr)(h:Int)(x:Option Addr×Nat):(Oy (some q) h x={Nd.zero with kind:=5,hash:=h,key:=(q.getD 0 (⟨#[]⟩,0)).1,val:=(q.getD 0 (⟨#[]⟩,0)).2}/\Ji (some q)=[])∨(Oy (some q) h x={Nd.zero with kind:=6,hash:=h,prA:=x.1,prN:=q.length,dI:=x.2}/\Ji (some q)=q):=by
 by_cases hq:q.length=1;·exact .inl ⟨if_pos hq,if_pos hq⟩
 ·exact .inr ⟨if_neg hq,if_neg hq⟩
theorem qe(o:Option (List Pr))(h:Int)(x:Option Addr×Nat):(Oy o h x).brN=([]:List Int).length/\(Oy o h x).prN=(Ji o).length:=by
 cases o with
 | none=>exact⟨rfl,rfl⟩
 | some l=>rcases Ck l h x with⟨e1,e2⟩|⟨e1,e2⟩<;>rw[e1,e2]<;>exact⟨rfl,rfl⟩
theorem aCW{o:Option (List Pr)}{x:Option Addr×Nat}:bG A ((x.1,dI (bz o))::F) O [((j8 o h x).brA,aH []),((j8 o h x).prA,dI (bz o))]:=by
 cases o with
 | none=>exact .cons (.inl rfl) (.cons (.inl rfl) .nil)
 | some q=>exact .cons (.inl rfl) (.cons (.inr (.inr (.inl (.head _)))) .nil)
theorem aC0{o:Option (List Pr)}{x:Option Addr×Nat}:bG A ((x.1,dI (Ji o))::F) O [((Oy o h x).brA,aH []),((Oy o h x).prA,dI (Ji o))]:=by
 cases o with
 | none=>exact .cons (.inl rfl) (.cons (.inl rfl) .nil)
 | some q=>
  rcases Ck q h x with⟨e1,e2⟩|⟨e1,e2⟩<;>rw[e1,e2];·exact .cons (.inl rfl) (.cons (.inl rfl) .nil)
  ·exact .cons (.inl rfl) (.cons (.inr (.inr (.inl (.head _)))) .nil)
theorem aBW{o:Option (List Pr)}(x:Option Addr×Nat)(hh:∃b:Nat,h=(b:Int)/\b<18446744073709551616):mT m c {(j8 o h x).c [] (bz o) with main:=0,prev:=0,status:=0}:=by
 cases o with
 | none=>exact⟨bM _,bM _,bM _,(λ r hr=>nomatch hr),bM _,bM _,bM _,⟨0,rfl,by decide⟩,⟨0,rfl,by decide⟩⟩
 | some q=>exact⟨bM _,bM _,bM _,(λ r hr=>nomatch hr),bM _,bM _,bM _,⟨0,rfl,by decide⟩,hh⟩
theorem aBq{o:Option (List Pr)}(x:Option Addr×Nat)(hh:∃b:Nat,h=(b:Int)/\b<18446744073709551616):mT m c {(Oy o h x).c [] (Ji o) with main:=0,prev:=0,status:=0}:=by
 cases o with
 | none=>exact⟨bM _,bM _,bM _,(λ r hr=>nomatch hr),bM _,bM _,bM _,⟨0,rfl,by decide⟩,⟨0,rfl,by decide⟩⟩
 | some q=>rcases Ck q h x with⟨e1,e2⟩|⟨e1,e2⟩<;>rw[e1,e2]<;>exact⟨bM _,bM _,bM _,(λ r hr=>nomatch hr),bM _,bM _,bM _,⟨0,rfl,by decide⟩,hh⟩
theorem aCf(l:List Int)(ys:List Pr)(d:Nd)(k:ByteArray)(u:Int):(bz (lJ d l ys k u)).length<=ys.length+1:=by
 have:=vj ys k u;unfold lJ;split;·exact this
 ·exact Nat.zero_le _
theorem aBu(l:List Int)(ys:List Pr)(d:Nd)(k:ByteArray):(Ji (rL d l ys k)).length<=ys.length:=by
 have:=ob ys k;unfold rL;split
 ·simp only[Ji];split;·exact Nat.zero_le _
  ·exact this
 ·exact Nat.zero_le _
theorem sH{x:XS}(h:x.Ok)(r:Int):(aB x.L r).ys.length<=x.L.length:=by
 unfold aB;split;·exact h.ys _ (fZ (L:=x.L) (k:=(r-1).toNat) (by omega))
 ·exact Nat.zero_le _
end
theorem I8{n c h:Nat}{k:ByteArray}{u:Int}(hh:h<18446744073709551616):mT n c {(({Nd.zero with kind:=4,hash:=(h:Int),key:=k,val:=u}:Nd).c [] []) with main:=0,prev:=0,status:=0}:=⟨bM _,bM _,bM _,(λ r hr=>nomatch hr),bM _,bM _,bM _,⟨0,rfl,by decide⟩,⟨h,rfl,hh⟩⟩
theorem qN(p:Value)(o f:Bool)(v:Int)(w:World):Calls prog 248 #[p,.bool o,.bool f,.int .u64 v] w λ e w'=>e=.returned (.tuple #[.agg ⟨(oU f v).cells⟩,.int .i64 (if o=true then 1 else 0)])/\St w [] [] w':=by
 refine enter func248 ntmps248 rfl rfl (SF.s0 w) ?_;simp only[cC];refine J0 ?_;refine aJ (λ x8=>?_);refine zO ?_;refine aN (cV (hc:=λ w1 hw=>gV f v w1)) (λ x13=>?_);refine aJ (λ x10=>?_);refine J5 ?_;refine J0 ?_;refine vU ?_;refine kF ?_;refine oD ?_;refine bD (λ c16=>?_) (λ c16=>?_);·refine nG ?_;refine Fb ?_;refine aY results248 (λ w hw=>?_);rw[if_neg (by simp_all)];exact⟨rfl,hw.done⟩
 ·refine aW ?_;refine nG ?_;refine Fb ?_;refine aY results248 (λ w hw=>?_);rw[if_pos (by simp_all)];exact⟨rfl,hw.done⟩
section
variable{k:Cl}{bx bm:Nat}{x:XS}{dn:Bool}{rs:Rs}{D:List Nat}{A:Fr}{w:World}{g:Gx}
theorem yH(f:Bool)(v:Int)(hs:SF w D (xH k bx bm x dn rs) A [] (xW x) w):Calls prog 246 #[.pointer (some ⟨bx,0,none⟩),.bool f,.int .u64 v] w λ e w'=>∃q:Unit,e=.returned (.bool (nI k f v))/\True/\SF w D (xH k bx bm x dn rs) [] [] (xW x) w':=by
 refine enter func246 ntmps246 rfl rfl (cI hs) ?_;simp only[cC];refine Fh ?_;refine Jg ?_;refine J3 ?_;refine aG ?_;refine cR ?_;refine lN ?_;refine bD (λ c12=>?_) (λ c12=>?_);·refine J2 ?_;refine zM ?_;refine J1 ?_;refine aS results246 (λ w hw=>?_);rw[show nI k f v=!f from if_pos (by assumption)];exact⟨(),rfl,trivial,hw.bA⟩
 ·refine lN ?_;refine bD (λ c16=>?_) (λ c16=>?_);·refine Ka5 ?_;refine aS results246 (λ w hw=>?_);rw[show nI k f v=f from(if_neg (by assumption)).trans (if_pos (by assumption))];exact⟨(),rfl,trivial,hw.bA⟩
  ·refine lN ?_;refine bD (λ c19=>?_) (λ c19=>?_)
   ·refine iZ ?_;(refine eF 22 (λ g22=>?_) (λ g22=>?_)<;>refine Ka0 ?_);all_goals (refine J79 ?_;refine J6 ?_;refine xF ?_;refine J1 ?_)
    all_goals
    refine aS results246 (λ w hw=>?_);have e:nI k f v=(f&&v==k.exp):=(if_neg (by assumption)).trans ((if_neg (by assumption)).trans (if_pos (by assumption)));rw[e];exact⟨(),by simp_all<;>rfl,trivial,hw.bA⟩
   ·refine Ka9 ?_;refine aS results246 (λ w hw=>?_);rw[show nI k f v=true from(if_neg (by assumption)).trans ((if_neg (by assumption)).trans (if_neg (by assumption)))];exact⟨(),rfl,trivial,hw.bA⟩
theorem Xc(hg:g.Ok)(i m index gen:Int)(K:Int->Tr)(ht:k.t.root<=9223372036854775807)(hi:i<=x.L.length)(hm:m<=x.L.length)(hA:∀f∈aP x.L,f∈A)(go:gG g x (Cz k i m index gen K))(ok:x.Ok)(hs:SF w D (xH k bx bm x dn rs) A [] (xW x) w):Calls prog 225 #[.pointer (some ⟨bx,0,none⟩),.int .i64 i,.int .i64 m,.int .i64 index,.int .i64 gen] w λ e w'=>∃q:Int×XS×List aR,e=.returned (.int .i64 q.1)/\Nx g x q.2.1 q.2.2 (K q.1) q.1/\SF w D (xH k bx bm q.2.1 dn rs) [] (aP q.2.2) (xW q.2.1) w':=by
 refine enter func225 ntmps225 rfl rfl (cI hs) ?_;simp only[cC];refine Kc1 ?_;refine aD (cM (hs:=xH k bx bm x dn rs) (os:=xW x) (hc:=λ w hs=>cQ m _ hm go ok hs)) (λ x16 h16=>?_);refine aA ?_;refine aN (cV (hc:=λ w1 hw=>Ko (v:=aB x.L m) (ok.nv m) index (ok.sM hw hA m))) (λ x18=>?_);refine K0c ?_;refine J8 ?_;refine aV ?_;refine mY ?_;refine aA ?_;(refine eF 25 (λ g25=>?_) (λ g25=>?_)<;>refine Ka0 ?_);all_goals (refine Ka0 ?_;(first|refine aI ?_|(refine aF ?_;refine aD (cM (hs:=xH k bx bm x dn rs) (os:=xW x) (hc:=λ w hs=>cQ ((iO (aB x.L m).c index).getD 0) _ (lV (ok.nv m) index) h16.1 ok hs)) (λ x28 h28=>?_)));refine J81 ?_;refine xF ?_;refine aG ?_)
 all_goals
 refine bD (λ c32=>?_) (λ c32=>?_)
 ·all_goals (refine Ka5 ?_)
  all_goals refine aS results225 (λ w hw=>?_);exact⟨((iO (aB x.L m).c index).getD 0,x,[]),rfl,⟨by first|exact h28.1.to (λ _=>if_pos (by assumption))|exact go.bY (by assumption),ok,by simp,Nat.le_refl _,lV (ok.nv m) index⟩,hw.bA (hF:=by exact aZ.nil)⟩
 ·try exact nv c32
  all_goals (refine Ar ?_;refine Hs ?_;refine aE ?_;refine aC (aU (k:=2) (vs:=[.int .i64 k.t.root,.bool k.t.ro]) rf cY eE rfl rfl) rfl ?_;refine qL ?_;refine aA ?_;refine aD (cM (hs:=xH k bx bm x dn rs) (os:=xW x) (A0:=aP x.L) (hA:=E0k) (hc:=λ w hs=>wz hg k.t i m index _ ht hi hm (λ f hf=>hf) (h28.1.to (λ _=>if_neg (by assumption))) ok hs)) (λ x43 h43=>?_);refine J1 ?_)
  all_goals refine aS results225 (λ w hw=>?_);exact⟨x43,rfl,h43,by rw[List.append_nil] at hw;exact hw.v4⟩
end
end
end Go.Proofs.YtbajmaoegmbfgaaGreat
namespace Go.Ct
open Go Go.RowKit
section
theorem zv{a b:ByteArray}(h:a=b):(a.toList==b.toList)=true:=by subst h;simp
theorem aAf{a b:ByteArray}(h:¬a=b):(a.toList==b.toList)=false:=by rw[beq_eq_false_iff_ne];exact λ e=>h (toList_inj e)
section
variable{P:Program}{S:List (Nat×Value)}{G:World->Prop}{d:Nat}{ty t t':TypeId}{pos:String}{af:Array Edge}{gd:Option (Nat×Bool)}{x y:Operand}{a b:ByteArray}
theorem td(hx:ev S x=.string a)(hy:ev S y=.string b)(h:a=b):aL P S G ⟨some d,.binOp .eql t x y t',ty,pos,af,gd⟩ (.bool true):=by have:=G3 (P:=P) (G:=G) (d:=d) (ty:=ty) (pos:=pos) (af:=af) (gd:=gd) (t:=t) (t':=t') hx hy;rwa [zv h] at this
theorem s9(hx:ev S x=.string a)(hy:ev S y=.string b)(h:¬a=b):aL P S G ⟨some d,.binOp .eql t x y t',ty,pos,af,gd⟩ (.bool false):=by have:=G3 (P:=P) (G:=G) (d:=d) (ty:=ty) (pos:=pos) (af:=af) (gd:=gd) (t:=t) (t':=t') hx hy;rwa [aAf h] at this
end
end
end Go.Ct
namespace Go.Proofs.YtbajmaoegmbfgaaGreat
open Go.Proofs.Tryz
open Go Go.RowKit Go.Ct
section
section
variable{v:aR}{n c:Nat}{w:World}
theorem Kf(h:mT n c v.c){i b:Int}(e:iO v.c i=some b)(hr:sE w v.nd v.xs v.ys):Calls prog 216 #[v.nd.v,.int .i64 i] w λ e w'=>e=.returned (.tuple #[.int .i64 b,.bool true])/\St w [] [] w':=by have:=Ko h i hr;rwa [e] at this
theorem zs(h:mT n c v.c){i:Int}(e:iO v.c i=none)(hr:sE w v.nd v.xs v.ys):Calls prog 216 #[v.nd.v,.int .i64 i] w λ e w'=>e=.returned (.tuple #[.int .i64 0,.bool false])/\St w [] [] w':=by have:=Ko h i hr;rwa [e] at this
end
section
variable{k:Cl}{bx bm:Nat}{x:XS}{dn:Bool}{rs:Rs}{D:List Nat}{A:Fr}{w:World}{g:Gx}
abbrev cj(g:Gx)(x:XS)(K:Rs->Int->Tr)(bx bm:Nat)(k:Cl)(dn:Bool)(rs:Rs)(D:List Nat)(w:World)(e:Ending)(w':World):Prop:=∃q:Rs×Int×XS×List aR,e=.returned (.tuple #[.agg ⟨q.1.cells⟩,.int .i64 q.2.1])/\Nx g x q.2.2.1 q.2.2.2 (K q.1 q.2.1) 0/\SF w D (xH k bx bm q.2.2.1 dn rs) [] (aP q.2.2.2) (xW q.2.2.1) w'
variable{h:Nat}{b:Int}
set_option maxRecDepth 100000 in
theorem Y8(hg:g.Ok)(i m:Int)(hh:h<18446744073709551616)(level:Nat)(hlv:level<=1073741824)(gen:Int)(K:Rs->Int->Tr)(ht:k.t.root<=9223372036854775807)(hi:i<=x.L.length)(hm:m<=x.L.length)(hA:∀f∈aP x.L,f∈A)(hk:(aB x.L m).nd.kind=6)(go:gG g x (jQ k i m h level gen K))(ok:x.Ok)(hs:SF w D (xH k bx bm x dn rs) A [] (xW x) w):Calls prog 224 #[.pointer (some ⟨bx,0,none⟩),.int .i64 i,.int .i64 m,.int .u64 (h:Int),.int .i64 (level:Int),.int .i64 gen] w (cj g x K bx bm k dn rs D w):=by
 have hyl:=sH ok m;have hlL:=ok.lL;refine K1m ?_;simp only[cC]
 refine K0b ?_;intro x12;refine iQ (hfire:=E0a) (h:=λ x14=>?_);refine pY (h:=λ _=>?_);refine K0i ?_;intro x48 h48 x17;refine bD (λ c51=>?_) (λ c51=>?_)
 ·have g1:=h48.1.to (λ _=>if_pos hk);refine Kc3 ?_;refine aN (cV (hc:=λ w1 hw=>M5 (v:=(aB x.L m)) (n:=0) k.key (ok.sM hw hA m) (ok.ysl m))) (λ x56=>?_);refine K0c ?_;refine J8 ?_;refine Cb ?_;refine aA ?_;refine aD (cM (hs:=xH k bx bm x dn rs) (os:=xW x) (hc:=λ w hs=>yH _ _ hs)) (λ x62 h62=>?_);refine oD ?_;refine bD (λ c63=>?_) (λ c63=>?_)
  ·have g2:=g1.to (λ _=>if_neg (show ¬nI k (cK (aB x.L m).c.ys k.key).isSome ((cK (aB x.L m).c.ys k.key).getD 0)=true from by simpa using c63));refine iZ ?_;refine aN (cV (hc:=λ w1 hw=>gV _ _ w1)) (λ x66=>?_);refine Fb ?_;refine aY results224 (λ w hw=>?_);exact⟨(dO (cK (aB x.L m).c.ys k.key).isSome ((cK (aB x.L m).c.ys k.key).getD 0),1,x,[]),rfl,⟨g2,ok,by simp,Nat.le_refl _,bM _⟩,hw.bA (hF:=by exact aZ.nil)⟩
  ·have g2:=g1.to (λ _=>if_pos (show nI k (cK (aB x.L m).c.ys k.key).isSome ((cK (aB x.L m).c.ys k.key).getD 0)=true from by simpa using c63));refine aW ?_;refine nG ?_;refine qL ?_;refine aD (cF (hc:=λ w1 hw=>aDS (v:=(aB x.L m)) h48.2 k.key k.val (ok.sM hw hA m) (by omega))) (λ x71 h71=>?_);refine K0c ?_;refine aJ (λ x20=>?_);refine lU (λ _=>?_);refine jG ?_;refine eM [(0,[]),(1,[]),(2,[]),(3,[]),(4,[]),(5,[]),(6,[]),(7,[]),(10,[]),(11,[]),(8,[2]),(9,[]),(12,[]),(13,[]),(14,[]),(15,[]),(16,[])] ?_;refine iR ?_;refine Kb3 ?_;refine aT ?_;refine Kb3 ?_;refine aT ?_;refine bK (i:=8) (hq:=(cM (hs:=xH k bx bm x dn rs) (os:=xW x) (A0:=[((j8 (lJ (aB x.L m).nd (aB x.L m).xs (aB x.L m).ys k.key k.val) (aB x.L m).nd.hash x71).brA,aH []),((j8 (lJ (aB x.L m).nd (aB x.L m).xs (aB x.L m).ys k.key k.val) (aB x.L m).nd.hash x71).prA,dI (bz (lJ (aB x.L m).nd (aB x.L m).xs (aB x.L m).ys k.key k.val)))]) (hA:=aCW) (hc:=λ w hs=>hU hg (n:=j8 (lJ (aB x.L m).nd (aB x.L m).xs (aB x.L m).ys k.key k.val) (aB x.L m).nd.hash x71) (xs:=[]) (ys:=bz (lJ (aB x.L m).nd (aB x.L m).xs (aB x.L m).ys k.key k.val)) m _ (j3 _ _ _).1 (j3 _ _ _).2 (by decide) (by have:=aCf (aB x.L m).xs (aB x.L m).ys (aB x.L m).nd k.key k.val;omega) (aBW _ h48.2.hash) hm (by rw[aEs];exact g2) ok hs))) (h:=λ x82 h82=>?_);refine bK (i:=9) (hq:=(cM (hs:=xH k bx bm x82.2.1 dn rs) (os:=xW x82.2.1) (hc:=λ w hs=>tY hg k.t i m x82.1 _ ht (by have:=h82.len;omega) h82.bd h82.go h82.ok hs))) (h:=λ x83 h83=>?_);have hch:=Ch.nx h83 (Ch.nx h82 ((Ch.base (F:=[])).cons (f:=(x71.1,dI (bz (lJ (aB x.L m).nd (aB x.L m).xs (aB x.L m).ys k.key k.val))))));have hlc:x.cs.length<=x83.2.1.cs.length:=by have:=h82.lc;have:=h83.lc;omega
   refine dD (i:=12) (hq:=(cV (hc:=λ w1 hw=>qN _ _ _ _ w1))) (h:=λ x86=>?_);refine cW (i:=13) (hq:=(bQ rf rfl)) (h:=?_);refine cW (i:=14) (hq:=(bQ rf rfl)) (h:=?_);refine Cq ?_;refine aY results224 (λ w hw=>?_);obtain⟨N,hN,hf⟩:=hch.to (t':=K (oU (cK (aB x.L m).c.ys k.key).isSome ((cK (aB x.L m).c.ys k.key).getD 0)) (if x83.1=true then 1 else 0)) h83 (h83.go) hlc (bM _);exact⟨(oU (cK (aB x.L m).c.ys k.key).isSome ((cK (aB x.L m).c.ys k.key).getD 0),(if x83.1=true then 1 else 0),x83.2.1,N),rfl,hN,(hw.fA hf).v4⟩
 ·exact absurd hk c51
set_option maxRecDepth 100000 in
theorem ai(hg:g.Ok)(i m:Int)(hh:h<18446744073709551616)(level:Nat)(hlv:level<=1073741824)(gen:Int)(K:Rs->Int->Tr)(ht:k.t.root<=9223372036854775807)(hi:i<=x.L.length)(hm:m<=x.L.length)(hA:∀f∈aP x.L,f∈A)(hk:¬(aB x.L m).nd.kind=6)(hl:iO (aB x.L m).c (eZ h (level:Int))=none)(go:gG g x (jQ k i m h level gen K))(ok:x.Ok)(hs:SF w D (xH k bx bm x dn rs) A [] (xW x) w):Calls prog 224 #[.pointer (some ⟨bx,0,none⟩),.int .i64 i,.int .i64 m,.int .u64 (h:Int),.int .i64 (level:Int),.int .i64 gen] w (cj g x K bx bm k dn rs D w):=by
 have hyl:=sH ok m;have hlL:=ok.lL;refine K1m ?_;simp only[cC]
 refine K0b ?_;intro x12;refine iQ (hfire:=E0a) (h:=λ x14=>?_);refine pY (h:=λ _=>?_);refine K0i ?_;intro x48 h48 x17;refine bD (λ c51=>?_) (λ c51=>?_);·exact absurd c51 hk
 ·have g0:=h48.1.to (λ _=>if_neg hk);have g1:=Mu g0 (by rw[hl];rfl);refine K0o ?_;intro x91;refine zO ?_;refine aA ?_;refine bN ?_;refine aJ (λ x23=>?_);refine J5 ?_;refine Fa ?_;refine aN (cV (hc:=λ w1 hw=>zs (v:=(aB x.L m)) h48.2 hl (ok.sM hw hA m))) (λ x99=>?_);refine K0c ?_;refine J8 ?_;refine Cb ?_;refine aI ?_;(refine aI ?_);(refine aI ?_);refine J87 ?_;refine aG ?_;refine bD (λ c109=>?_) (λ c109=>?_)
  ·exact nv c109
  ·refine Ar ?_;refine aI ?_;(refine aI ?_);(refine aI ?_);refine J81 ?_;(refine aI ?_);refine cH ?_;refine zO ?_;refine aD (cM (hs:=xH k bx bm x dn rs) (os:=xW x) (hc:=λ w hs=>fS 0 (by decide) ok hs)) (λ x122 h122=>?_);refine cL ?_;refine Kc6 ?_;refine oD ?_;refine bD (λ c125=>?_) (λ c125=>?_)
   ·refine dU ?_;refine jG ?_;refine K1y ?_;intro x129 h129;refine bD (λ c130=>?_) (λ c130=>?_);·have g2:=g1.to (λ _=>if_neg (show ¬nI k false 0=true from by simpa using c130));refine K2b ?_;intro x133 w hw;exact⟨(dO false 0,1,x,[]),rfl,⟨g2,ok,by simp,Nat.le_refl _,bM _⟩,hw.bA (hF:=by exact aZ.nil)⟩
    ·have g2:=g1.to (λ _=>if_pos (show nI k false 0=true from by simpa using c130));refine sG ?_;refine J2 ?_;refine zM ?_;refine J1 ?_;refine bD (λ c134=>?_) (λ c134=>?_)
     ·refine aV ?_;refine eY [28,29,137,138,139,140,141,142,143,144,145] (λ z:Nat×(Int×XS×List aR)×(Option Addr×Nat)×Nd=>[(28,.pointer (some ⟨z.1,0,none⟩))]) (λ z=>Nx g x z.2.1.2.1 z.2.1.2.2 (.alloc (gj (aB x.L m).c (eZ h (level:Int)) z.2.1.1) m λ r=>lE k.t i m r λ ok=>K (oU false 0) (if ok=true then 1 else 0)) z.2.1.1/\z.2.2.2=nD (bu (aB x.L m) (eZ h (level:Int)) z.2.1.1) z.2.2.1) (λ z=>[(z.1,.cells ⟨z.2.2.2.cells⟩ 47 (0,0)),(x23,.cells ⟨({Nd.zero with kind:=4,hash:=(h:Int),key:=k.key,val:=k.val}:Nd).cells⟩ 47 (0,0)),(x17,.cells ⟨(aB x.L m).nd.cells⟩ 47 (0,0)),(x14,.cells ⟨[.int .i64 k.t.root,.bool k.t.ro]⟩ 29 (0,0)),(x12,.cells ⟨Rs.zero.cells⟩ 64 (0,0)),(bx,xO k bm z.2.1.2.1 dn rs),(bm,xM z.2.1.2.1)]) (λ z=>(z.2.2.1.1,aH (mX (bu (aB x.L m) (eZ h (level:Int)) z.2.1.1)))::(aP z.2.1.2.2++[])) (λ z=>xW z.2.1.2.1) (by decide) (λ _=>by exact rfl) ?_ (λ z f hx=>?_)
      ·refine hY (.one 0 [] (.one 1 [] (.one 2 [] (.one 3 [] (.two 4 [0] (.two 5 [] (.one 6 [] (.one 7 [] (.one 8 [] (.one 9 [0,3] (.one 10 [] (.one 11 [] .nil)))))) 0 [] (.two 9 [0,3] (.one 5 [] (.one 6 [] (.one 7 [] (.one 8 [] (.one 10 [] (.one 11 [] .nil)))))) 0 [] .nil)) 0 [] (.two 9 [0,3] (.one 4 [0] (.one 5 [] (.one 6 [] (.one 7 [] (.one 8 [] (.one 10 [] (.one 11 [] .nil))))))) 0 [] .nil)))))) ?_;refine Kb3 ?_;refine bW ?_;refine gU (E:=[4,9]) (by decide +kernel) ((.cons ?_ (.cons ?_ .nil)))
       ·refine pL (i:=4) (hq:=(cM (hs:=xH k bx bm x dn rs) (os:=xW x) (A0:=[(none,aH []),(none,dI [])]) (hc:=λ w hs=>hU hg (n:={Nd.zero with kind:=4,hash:=(h:Int),key:=k.key,val:=k.val}) (xs:=[]) (ys:=[]) 0 _ rfl rfl (by decide) (Nat.zero_le _) (I8 hh) (bM _) (g2) ok hs))) (h:=λ x142 h142=>?_);refine gU (E:=[5,9]) (by decide +kernel) ((.cons ?_ (.cons ?_ .nil)));·refine pL (i:=5) (hq:=(cF (hc:=λ w1 hw=>qy (v:=(aB x.L m)) h48.2 (eZ h (level:Int)) x142.1 (ok.sM hw hA m)))) (h:=λ x143 h143=>?_);refine K1s ?_;refine iQ (h:=λ x28=>?_);refine K1h ?_;·exact⟨h142,rfl⟩
        ·refine iS (i:=9) (h:=λ x28=>?_);refine bK (i:=5) (hq:=(cF (hc:=λ w1 hw=>qy (v:=(aB x.L m)) h48.2 (eZ h (level:Int)) x142.1 (ok.sM hw hA m)))) (h:=λ x143 h143=>?_);refine K1s ?_;refine K1h ?_;·exact⟨h142,rfl⟩
       ·refine iS (i:=9) (h:=λ x28=>?_);refine bK (i:=4) (hq:=(cM (hs:=xH k bx bm x dn rs) (os:=xW x) (A0:=[(none,aH []),(none,dI [])]) (hc:=λ w hs=>hU hg (n:={Nd.zero with kind:=4,hash:=(h:Int),key:=k.key,val:=k.val}) (xs:=[]) (ys:=[]) 0 _ rfl rfl (by decide) (Nat.zero_le _) (I8 hh) (bM _) (g2) ok hs))) (h:=λ x142 h142=>?_);refine bK (i:=5) (hq:=(cF (hc:=λ w1 hw=>qy (v:=(aB x.L m)) h48.2 (eZ h (level:Int)) x142.1 (ok.sM hw hA m)))) (h:=λ x143 h143=>?_);refine K1s ?_;refine K1h ?_;·exact⟨h142,rfl⟩
      refine K0a ?_;obtain⟨hz,ez⟩:=hx;have hlz:=hz.len;have hB:=aDl ((ok.nv m).mono (Nat.le_refl _) (Nat.le_refl _) |>.mono hlz hz.lc) hz.bd (eZ h (level:Int));refine aV ?_;refine eM [(0,[]),(1,[]),(2,[]),(3,[]),(4,[]),(5,[]),(6,[]),(7,[]),(8,[2]),(9,[]),(10,[]),(11,[]),(12,[]),(13,[]),(14,[])] ?_;refine iR ?_;refine Kb3 ?_;refine aT ?_;refine bW ?_;refine aT ?_;refine bK (i:=8) (hq:=(cM (hs:=xH k bx bm z.2.1.2.1 dn rs) (os:=xW z.2.1.2.1) (A0:=[(z.2.2.2.brA,aH (mX (bu (aB x.L m) (eZ h (level:Int)) z.2.1.1))),(z.2.2.2.prA,dI [])]) (hA:=by rw[ez];exact Ub) (hc:=λ w hs=>hU hg (n:=z.2.2.2) (xs:=mX (bu (aB x.L m) (eZ h (level:Int)) z.2.1.1)) (ys:=[]) m _ (by rw[ez];exact Fw _ _) (by rw[ez];exact Fl _ _) hB.len (Nat.zero_le _) (by rw[ez];exact hB.nvB _) (by omega) (by rw[ez,<- aDR h48.2];exact hz.go) hz.ok hs))) (h:=λ x154 h154=>?_);refine bK (i:=9) (hq:=(cM (hs:=xH k bx bm x154.2.1 dn rs) (os:=xW x154.2.1) (hc:=λ w hs=>tY hg k.t i m x154.1 _ ht (by have:=h154.len;omega) h154.bd h154.go h154.ok hs))) (h:=λ x155 h155=>?_);have hch:=Ch.nx h155 (Ch.nx h154 (((Ch.base (F:=[])).nx hz).cons (f:=(z.2.2.1.1,aH (mX (bu (aB x.L m) (eZ h (level:Int)) z.2.1.1))))));have hlc:x.cs.length<=x155.2.1.cs.length:=by have:=hz.lc;have:=h154.lc;have:=h155.lc;omega
      refine dD (i:=10) (hq:=(cV (hc:=λ w1 hw=>qN _ _ _ _ w1))) (h:=λ x156=>?_);refine cW (i:=11) (hq:=(bQ rf rfl)) (h:=?_);refine cW (i:=12) (hq:=(bQ rf rfl)) (h:=?_);refine Cq ?_;refine aY results224 (λ w hw=>?_);obtain⟨N,hN,hf⟩:=hch.to (t':=K (oU false 0) (if x155.1=true then 1 else 0)) h155 (h155.go) hlc (bM _);exact⟨(oU false 0,(if x155.1=true then 1 else 0),x155.2.1,N),rfl,hN,(hw.fA hf).v4⟩
     ·exact nv c134
   ·exact nv c125
set_option maxRecDepth 100000 in
theorem Zq(hg:g.Ok)(i m:Int)(hh:h<18446744073709551616)(level:Nat)(hlv:level<=1073741824)(gen:Int)(K:Rs->Int->Tr)(ht:k.t.root<=9223372036854775807)(hi:i<=x.L.length)(hm:m<=x.L.length)(hA:∀f∈aP x.L,f∈A)(hk:¬(aB x.L m).nd.kind=6)(hl:iO (aB x.L m).c (eZ h (level:Int))=some b)(hi2:(aB x.L b).nd.kind=2)(go:gG g x (jQ k i m h level gen K))(ok:x.Ok)(hs:SF w D (xH k bx bm x dn rs) A [] (xW x) w):Calls prog 224 #[.pointer (some ⟨bx,0,none⟩),.int .i64 i,.int .i64 m,.int .u64 (h:Int),.int .i64 (level:Int),.int .i64 gen] w (cj g x K bx bm k dn rs D w):=by
 have hyl:=sH ok m;have hlL:=ok.lL;have hb:b<=x.L.length:=by have:=lV (ok.nv m) (eZ h (level:Int));rw[hl] at this;exact this
 refine K1m ?_;simp only[cC];refine K0b ?_;intro x12;refine iQ (hfire:=E0a) (h:=λ x14=>?_);refine pY (h:=λ _=>?_);refine K0i ?_;intro x48 h48 x17;refine bD (λ c51=>?_) (λ c51=>?_);·exact absurd c51 hk
 ·refine K1n ?_;intro g0 g1;rw[hl] at g1;refine K0m ?_;intro x91 x23 x99;refine K0c ?_;refine J8 ?_;refine Cb ?_;(refine Ka3 ?_);((refine Ka3 ?_));((refine aF ?_;refine aD (cM (hs:=xH k bx bm x dn rs) (os:=xW x) (hc:=λ w hs=>cQ b _ hb g1 ok hs)) (λ x106 h106=>?_)));refine J87 ?_;refine aG ?_;refine bD (λ c109=>?_) (λ c109=>?_);·have g2:=h106.1.to (λ _=>if_pos hi2);refine J0 ?_;refine bN ?_;refine Fb ?_;refine aY results224 (λ w hw=>?_);exact⟨(Rs.zero,2,x,[]),rfl,⟨g2,ok,by simp,Nat.le_refl _,bM _⟩,hw.bA (hF:=by exact aZ.nil)⟩
  ·exact absurd hi2 c109
set_option maxRecDepth 100000 in
theorem Zu(hg:g.Ok)(i m:Int)(hh:h<18446744073709551616)(level:Nat)(hlv:level<=1073741824)(gen:Int)(K:Rs->Int->Tr)(ht:k.t.root<=9223372036854775807)(hi:i<=x.L.length)(hm:m<=x.L.length)(hA:∀f∈aP x.L,f∈A)(hk:¬(aB x.L m).nd.kind=6)(hl:iO (aB x.L m).c (eZ h (level:Int))=some b)(hi2:¬(aB x.L b).nd.kind=2)(he:(aB x.L b).nd.key=k.key)(go:gG g x (jQ k i m h level gen K))(ok:x.Ok)(hs:SF w D (xH k bx bm x dn rs) A [] (xW x) w):Calls prog 224 #[.pointer (some ⟨bx,0,none⟩),.int .i64 i,.int .i64 m,.int .u64 (h:Int),.int .i64 (level:Int),.int .i64 gen] w (cj g x K bx bm k dn rs D w):=by
 have hyl:=sH ok m;have hlL:=ok.lL;have hb:b<=x.L.length:=by have:=lV (ok.nv m) (eZ h (level:Int));rw[hl] at this;exact this
 refine K1m ?_;simp only[cC];refine K0b ?_;intro x12;refine iQ (hfire:=E0a) (h:=λ x14=>?_);refine pY (h:=λ _=>?_);refine K0i ?_;intro x48 h48 x17;refine bD (λ c51=>?_) (λ c51=>?_);·exact absurd c51 hk
 ·refine K1n ?_;intro g0 g1;rw[hl] at g1;refine K0m ?_;intro x91 x23 x99;refine K0c ?_;refine J8 ?_;refine Cb ?_;(refine Ka3 ?_);((refine Ka3 ?_));((refine aF ?_;refine aD (cM (hs:=xH k bx bm x dn rs) (os:=xW x) (hc:=λ w hs=>cQ b _ hb g1 ok hs)) (λ x106 h106=>?_)));refine J87 ?_;refine aG ?_;refine bD (λ c109=>?_) (λ c109=>?_);·exact absurd c109 hi2
  ·have g3:=(h106.1.to (λ _=>if_neg hi2)).to (λ _=>if_pos he);refine Ar ?_;(refine Ka3 ?_);((refine Ka3 ?_));((refine aF ?_;refine aD (cM (hs:=xH k bx bm x dn rs) (os:=xW x) (hc:=λ w hs=>fS b (by omega) ok hs)) (λ x115 h115=>?_)));refine J81 ?_;((refine aF ?_;refine aC (td rf rf he) rfl ?_));refine cH ?_;refine zO ?_;refine aD (cM (hs:=xH k bx bm x dn rs) (os:=xW x) (hc:=λ w hs=>fS b (by omega) ok hs)) (λ x122 h122=>?_);refine cL ?_;refine Kc6 ?_;refine oD ?_;refine bD (λ c125=>?_) (λ c125=>?_)
   ·exact nv c125
   ·refine lH ?_;refine K1y ?_;intro x129 h129;refine bD (λ c130=>?_) (λ c130=>?_);·have g2:=g3.to (λ _=>if_neg (show ¬nI k true (aB x.L b).nd.val=true from by simpa using c130));refine K2b ?_;intro x133 w hw;exact⟨(dO true (aB x.L b).nd.val,1,x,[]),rfl,⟨g2,ok,by simp,Nat.le_refl _,bM _⟩,hw.bA (hF:=by exact aZ.nil)⟩
    ·have g2:=g3.to (λ _=>if_pos (show nI k true (aB x.L b).nd.val=true from by simpa using c130));refine sG ?_;refine J2 ?_;refine zM ?_;refine J1 ?_;refine bD (λ c134=>?_) (λ c134=>?_)
     ·exact nv c134
     ·refine Ka5 ?_;refine bD (λ c159=>?_) (λ c159=>?_)
      ·refine aV ?_;refine eM [(0,[]),(1,[]),(2,[]),(3,[]),(4,[]),(5,[]),(6,[]),(7,[]),(8,[]),(9,[]),(13,[]),(10,[2]),(11,[2]),(12,[]),(14,[]),(15,[]),(16,[]),(17,[]),(18,[])] ?_;refine iR ?_;refine Kb3 ?_;refine iR ?_;refine iR ?_;refine bW ?_;refine aT ?_;refine bK (i:=10) (hq:=(cM (hs:=xH k bx bm x dn rs) (os:=xW x) (A0:=[(none,aH []),(none,dI [])]) (hc:=λ w hs=>hU hg (n:={Nd.zero with kind:=4,hash:=(h:Int),key:=k.key,val:=k.val}) (xs:=[]) (ys:=[]) 0 _ rfl rfl (by decide) (Nat.zero_le _) (I8 hh) (bM _) (g2) ok hs))) (h:=λ x171 h171=>?_);have hch:=(Ch.base (F:=[])).nx h171;refine bK (i:=11) (hq:=(cM (hs:=xH k bx bm x171.2.1 dn rs) (os:=xW x171.2.1) (A0:=aP x171.2.1.L) (hA:=Ch.all hch hA) (hc:=λ w hs=>Cs hg m (eZ h (level:Int)) x171.1 _ (by have:=h171.len;omega) h171.bd (λ f hf=>hf) h171.go h171.ok hs))) (h:=λ x172 h172=>?_);refine bK (i:=12) (hq:=(cM (hs:=xH k bx bm x172.2.1 dn rs) (os:=xW x172.2.1) (hc:=λ w hs=>tY hg k.t i m x172.1 _ ht (by have:=h171.len;have:=h172.len;omega) h172.bd h172.go h172.ok hs))) (h:=λ x173 h173=>?_);have hch2:=Ch.nx h173 (Ch.nx h172 hch);have hlc:x.cs.length<=x173.2.1.cs.length:=by have:=h171.lc;have:=h172.lc;have:=h173.lc;omega
       refine dD (i:=14) (hq:=(cV (hc:=λ w1 hw=>qN _ _ _ _ w1))) (h:=λ x175=>?_);refine cW (i:=15) (hq:=(bQ rf rfl)) (h:=?_);refine cW (i:=16) (hq:=(bQ rf rfl)) (h:=?_);refine Cq ?_;refine aY results224 (λ w hw=>?_);obtain⟨N,hN,hf⟩:=hch2.to (t':=K (oU true (aB x.L b).nd.val) (if x173.1=true then 1 else 0)) h173 (h173.go) hlc (bM _);exact⟨(oU true (aB x.L b).nd.val,(if x173.1=true then 1 else 0),x173.2.1,N),rfl,hN,(hw.fA hf).v4⟩
      ·exact nv c159
set_option maxRecDepth 100000 in
theorem Zt(hg:g.Ok)(i m:Int)(hh:h<18446744073709551616)(level:Nat)(hlv:level<=1073741824)(gen:Int)(K:Rs->Int->Tr)(ht:k.t.root<=9223372036854775807)(hi:i<=x.L.length)(hm:m<=x.L.length)(hA:∀f∈aP x.L,f∈A)(hk:¬(aB x.L m).nd.kind=6)(hl:iO (aB x.L m).c (eZ h (level:Int))=some b)(hi2:¬(aB x.L b).nd.kind=2)(he:¬(aB x.L b).nd.key=k.key)(go:gG g x (jQ k i m h level gen K))(ok:x.Ok)(hs:SF w D (xH k bx bm x dn rs) A [] (xW x) w):Calls prog 224 #[.pointer (some ⟨bx,0,none⟩),.int .i64 i,.int .i64 m,.int .u64 (h:Int),.int .i64 (level:Int),.int .i64 gen] w (cj g x K bx bm k dn rs D w):=by
 have hyl:=sH ok m;have hlL:=ok.lL;have hb:b<=x.L.length:=by have:=lV (ok.nv m) (eZ h (level:Int));rw[hl] at this;exact this
 refine K1m ?_;simp only[cC];refine K0b ?_;intro x12;refine iQ (hfire:=E0a) (h:=λ x14=>?_);refine pY (h:=λ _=>?_);refine K0i ?_;intro x48 h48 x17;refine bD (λ c51=>?_) (λ c51=>?_);·exact absurd c51 hk
 ·refine K1n ?_;intro g0 g1;rw[hl] at g1;refine K0m ?_;intro x91 x23 x99;refine K0c ?_;refine J8 ?_;refine Cb ?_;(refine Ka3 ?_);((refine Ka3 ?_));((refine aF ?_;refine aD (cM (hs:=xH k bx bm x dn rs) (os:=xW x) (hc:=λ w hs=>cQ b _ hb g1 ok hs)) (λ x106 h106=>?_)));refine J87 ?_;refine aG ?_;refine bD (λ c109=>?_) (λ c109=>?_);·exact absurd c109 hi2
  ·have g3:=(h106.1.to (λ _=>if_neg hi2)).to (λ _=>if_neg he);refine Ar ?_;(refine Ka3 ?_);((refine Ka3 ?_));((refine aF ?_;refine aD (cM (hs:=xH k bx bm x dn rs) (os:=xW x) (hc:=λ w hs=>fS b (by omega) ok hs)) (λ x115 h115=>?_)));refine J81 ?_;((refine aF ?_;refine aC (s9 rf rf he) rfl ?_));refine cH ?_;refine zO ?_;refine aD (cM (hs:=xH k bx bm x dn rs) (os:=xW x) (hc:=λ w hs=>fS b (by omega) ok hs)) (λ x122 h122=>?_);refine cL ?_;refine Kc6 ?_;refine oD ?_;refine bD (λ c125=>?_) (λ c125=>?_)
   ·refine dU ?_;refine jG ?_;refine K1y ?_;intro x129 h129;refine bD (λ c130=>?_) (λ c130=>?_);·have g2:=g3.to (λ _=>if_neg (show ¬nI k false 0=true from by simpa using c130));refine K2b ?_;intro x133 w hw;exact⟨(dO false 0,1,x,[]),rfl,⟨g2,ok,by simp,Nat.le_refl _,bM _⟩,hw.bA (hF:=by exact aZ.nil)⟩
    ·have g2:=g3.to (λ _=>if_pos (show nI k false 0=true from by simpa using c130));refine sG ?_;refine J2 ?_;refine zM ?_;refine J1 ?_;refine bD (λ c134=>?_) (λ c134=>?_)
     ·exact nv c134
     ·refine Ka5 ?_;refine bD (λ c159=>?_) (λ c159=>?_);·exact nv c159
      ·refine pP ?_;refine iZ ?_;refine bN ?_;refine qL ?_;refine qL ?_;refine Ea ?_;refine aA ?_;refine aD (cM (hs:=xH k bx bm x dn rs) (os:=xW x) (hc:=λ w hs=>aB7 hg b hh (level+1) gen _ hb g2 ok hs)) (λ x187 h187=>?_);refine aD (cM (hs:=xH k bx bm x187.2.1 dn rs) (os:=xW x187.2.1) (A0:=[(none,aH []),(none,dI [])]) (hc:=λ w hs=>hU hg (n:={Nd.zero with kind:=2,gen:=gen}) (xs:=[]) (ys:=[]) x187.1 _ rfl rfl (by decide) (Nat.zero_le _) sN h187.bd h187.go h187.ok hs)) (λ x188 h188=>?_);have hch:=Ch.nx h188 ((Ch.base (F:=[])).nx h187);refine jG ?_;refine eM [(0,[]),(1,[]),(2,[]),(3,[]),(4,[]),(5,[]),(6,[]),(7,[]),(8,[]),(9,[2]),(10,[]),(11,[]),(12,[]),(13,[]),(14,[]),(15,[])] ?_;refine iR ?_;refine Kb3 ?_;refine iR ?_;refine iR ?_;refine bK (i:=9) (hq:=(cM (hs:=xH k bx bm x188.2.1 dn rs) (os:=xW x188.2.1) (A0:=aP x188.2.1.L) (hA:=Ch.all hch hA) (hc:=λ w hs=>Cs hg m (eZ h (level:Int)) x188.1 _ (by have:=h187.len;have:=h188.len;omega) h188.bd (λ f hf=>hf) h188.go h188.ok hs))) (h:=λ x198 h198=>?_);refine bK (i:=10) (hq:=(cM (hs:=xH k bx bm x198.2.1 dn rs) (os:=xW x198.2.1) (hc:=λ w hs=>tY hg k.t i m x198.1 _ ht (by have:=h187.len;have:=h188.len;have:=h198.len;omega) h198.bd h198.go h198.ok hs))) (h:=λ x199 h199=>?_);have hch2:=Ch.nx h199 (Ch.nx h198 hch);have hlc:x.cs.length<=x199.2.1.cs.length:=by have:=h187.lc;have:=h188.lc;have:=h198.lc;have:=h199.lc;omega
       refine dD (i:=11) (hq:=(cV (hc:=λ w1 hw=>qN _ _ _ _ w1))) (h:=λ x200=>?_);refine cW (i:=12) (hq:=(bQ rf rfl)) (h:=?_);refine cW (i:=13) (hq:=(bQ rf rfl)) (h:=?_);refine Cq ?_;refine aY results224 (λ w hw=>?_);obtain⟨N,hN,hf⟩:=hch2.to (t':=K (oU false 0) (if x199.1=true then 1 else 0)) h199 (h199.go) hlc (bM _);exact⟨(oU false 0,(if x199.1=true then 1 else 0),x199.2.1,N),rfl,hN,(hw.fA hf).v4⟩
   ·exact nv c125
theorem Yx(hg:g.Ok)(i m:Int)(hh:h<18446744073709551616)(level:Nat)(hlv:level<=1073741824)(gen:Int)(K:Rs->Int->Tr)(ht:k.t.root<=9223372036854775807)(hi:i<=x.L.length)(hm:m<=x.L.length)(hA:∀f∈aP x.L,f∈A)(go:gG g x (jQ k i m h level gen K))(ok:x.Ok)(hs:SF w D (xH k bx bm x dn rs) A [] (xW x) w):Calls prog 224 #[.pointer (some ⟨bx,0,none⟩),.int .i64 i,.int .i64 m,.int .u64 (h:Int),.int .i64 (level:Int),.int .i64 gen] w (cj g x K bx bm k dn rs D w):=by
 by_cases hk:(aB x.L m).nd.kind=6;·exact Y8 hg i m hh level hlv gen K ht hi hm hA hk go ok hs
 ·cases hl:iO (aB x.L m).c (eZ h (level:Int)) with
  | none=>exact ai hg i m hh level hlv gen K ht hi hm hA hk hl go ok hs
  | some b=>
   by_cases hi2:(aB x.L b).nd.kind=2;·exact Zq hg i m hh level hlv gen K ht hi hm hA hk hl hi2 go ok hs
   ·by_cases he:(aB x.L b).nd.key=k.key;·exact Zu hg i m hh level hlv gen K ht hi hm hA hk hl hi2 he go ok hs
    ·exact Zt hg i m hh level hlv gen K ht hi hm hA hk hl hi2 he go ok hs
end
end
end Go.Proofs.YtbajmaoegmbfgaaGreat
