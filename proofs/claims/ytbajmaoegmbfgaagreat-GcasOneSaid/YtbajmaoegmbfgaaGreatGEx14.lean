/- Merged. -/
import Derived.Test.YtbajmaoegmbfgaaGreatGEx11
set_option linter.unusedSimpArgs false
set_option linter.unusedVariables false
namespace Go.Proofs.YtbajmaoegmbfgaaGreat
open Go.Proofs.Tryz (prog)
open Go Go.RowKit Go.Ct
section
section
variable{x:Int}{h0 h:Nat}{p0:Pr}{k:ByteArray}{u gen:Int}{f f':Nat}
theorem Q1:∀n lvl,dN x h0 h p0 k u gen f n lvl≠[]
 | 0,lvl=>by unfold dN;split<;>exact List.cons_ne_nil _ _
 | n+1,lvl=>by rw[dN];exact λ h=>Q1 n (lvl+1) (List.append_eq_nil_iff.1 h).1
theorem Wp:∀n lvl,(dN x h0 h p0 k u gen f n lvl).headD NI.no=(dN x h0 h p0 k u gen f' n lvl).headD NI.no
 | 0,lvl=>by unfold dN;split<;>rfl
 | n+1,lvl=>by
  have:=Wp n (lvl+1)
  rw[dN,dN]
  have h1:=Q1 (x:=x) (h0:=h0) (h:=h) (p0:=p0) (k:=k) (u:=u) (gen:=gen) (f:=f) n (lvl+1)
  have h2:=Q1 (x:=x) (h0:=h0) (h:=h) (p0:=p0) (k:=k) (u:=u) (gen:=gen) (f:=f') n (lvl+1)
  revert this h1 h2
  cases dN x h0 h p0 k u gen f n (lvl+1) with
  | nil=>exact λ _ h1=>absurd rfl h1
  | cons a l =>
   cases dN x h0 h p0 k u gen f' n (lvl+1) with
   | nil=>exact λ _ _ h2=>absurd rfl h2
   | cons b l'=>exact λ this _ _=>this
structure NiB(m c:Nat)(a:NI):Prop where
 nv:mC m c {a.c0 with main:=0,prev:=0,status:=0}
 init:a.init<=m
 ys:a.ys.length<=2
theorem niB{a:NI}{m c:Nat}(h1:∀r∈a.xs,r<=m)(h2:∃b:Nat,a.n.bm=(b:Int)/\b<18446744073709551616)(h3:∃b:Nat,a.n.hash=(b:Int)/\b<18446744073709551616)(h4:a.n.bK=0/\a.n.exp=0/\a.n.new=0)(h5:a.init<=m)(h6:a.ys.length<=2):NiB m c a :=
 ⟨⟨by show a.n.bK<=m;omega,by show a.n.exp<=m;omega,by show a.n.new<=m;omega,h1,bL _,bL _,bL _,h2,h3⟩,h5,h6⟩
theorem px{i k:Nat}{a b r:Int}(h:r∈two i k a b):r=a∨r=b:=by
 unfold two at h
 split at h
 ·simpa using h
 ·have:=h;simp at this;exact this.symm
theorem Zm{m c:Nat}{g i:Int}(h:i<=m):NiB m c (rH g i):=niB (λ r hr=>(List.not_mem_nil hr).elim) ⟨0,rfl,by decide⟩ ⟨0,rfl,by decide⟩ ⟨rfl,rfl,rfl⟩ h (Nat.zero_le _)
theorem vx{m c b:Nat}{xs:List Int}(hb:b<18446744073709551616)(h:∀r∈xs,r<=m):NiB m c (j5 b xs):=niB h ⟨b,rfl,hb⟩ ⟨0,rfl,by decide⟩ ⟨rfl,rfl,rfl⟩ (bL _) (Nat.zero_le _)
theorem aB6{m c:Nat}(hh:h<18446744073709551616)(hf:1<=f)(hx:x<=m):∀n lvl i a,(dN x h0 h p0 k u gen f n lvl)[i]?=some a->f+i<=m+1->NiB m c a
 | 0,lvl,i,a=>by
  unfold dN
  split
  ·intro h1 _
   cases i with
   | zero=>cases h1;exact niB (λ r hr=>(List.not_mem_nil hr).elim) ⟨0,rfl,by decide⟩ ⟨h,rfl,hh⟩ ⟨rfl,rfl,rfl⟩ (bL _) (Nat.le_trans (Vb _) (Nat.le_refl 2))
   | succ i=>simp at h1
  ·intro h1 h2
   match i,h1,h2 with
   | 0,h1,_=>cases h1;exact niB (λ r hr=>(List.not_mem_nil hr).elim) ⟨0,rfl,by decide⟩ ⟨h,rfl,hh⟩ ⟨rfl,rfl,rfl⟩ (bL _) (Nat.zero_le _)
   | 1,h1,h2=>cases h1;exact vx (Bf (Bf (by decide) _) _) (λ r hr=>(px hr).elim (λ e=>by omega) (λ e=>by omega))
   | _+2,h1,_=>simp at h1
 | n+1,lvl,i,a=>by
  have ih:=aB6 (c:=c) hh hf hx n (lvl+1) i a
  rw[dN]
  intro h1 h2
  generalize hl:dN x h0 h p0 k u gen f n (lvl+1)=l at ih h1
  rw[List.getElem?_append] at h1
  split at h1
  ·exact ih h1 h2
  ·rename_i h3
   match hi:i-l.length,h1 with
   | 0,h1=>cases h1;exact Zm (by omega)
   | 1,h1=>cases h1;exact vx (Bf (by decide) _) (λ r hr=>by rw[List.mem_singleton.1 hr];omega)
   | _+2,h1=>simp at h1
end
structure DI(g:Gx)(x:XS)(K:Int->Tr)(l:List NI)(fi:Nat)(y:Nat×Int×XS×List aQ):Prop where
 le:y.1<=l.length
 st:y.2.2.1.st=false
 ok:y.2.2.1.Ok
 zero:y.1=0->y=(0,0,x,[])
 pos:y.1≠0->Nx g x y.2.2.1 y.2.2.2 (Ad (l.drop y.1) y.2.1 K) y.2.1/\1<=y.2.2.1.m/\y.2.2.1.made.getD (y.2.2.1.m-1) 0=y.2.1/\((fi+y.1:Nat):Int)<=y.2.1+1
theorem DI.next{g:Gx}{x:XS}{K:Int->Tr}{l:List NI}{fi:Nat}{y:Nat×Int×XS×List aQ}(h:DI g x K l fi y){lf:Nat->List NI}(hlf:l=lf fi)(hh0:∀f f',(lf f).headD NI.no=(lf f').headD NI.no)(hne:lf fi≠[])(go:gE g x (.alloc ((lf 0).headD NI.no).c0 ((lf 0).headD NI.no).init λ f=>Ad (lf f.toNat).tail f K))(hfi:(fi:Int)=if x.m=x.made.length then((x.L.length+1:Nat):Int) else x.made.getD x.m 0)(hi:y.1<l.length) :
  ∃a K',l[y.1]?=some a/\gE g y.2.2.1 (.alloc a.c0 a.init K')/\(fi+y.1:Nat)<=y.2.2.1.L.length+1/\Ch x y.2.2.1 (aN y.2.2.2)/\x.L.length<=y.2.2.1.L.length/\∀q X' N',Nx g y.2.2.1 X' N' (K' q) q->AlS y.2.2.1 q X'->DI g x K l fi (y.1+1,q,X',y.2.2.2++N'):=by
 obtain⟨i,r,X,N⟩:=y
 have hst:X.st=false:=h.st
 have hok:X.Ok:=h.ok
 by_cases h0:i=0
 ·have e:=h.zero h0
  simp only[Prod.mk.injEq] at e
  obtain⟨rfl,rfl,rfl,rfl⟩:=e
  have hl:∃a t,lf fi=a::t:=by
   cases hq:lf fi with
   | nil=>exact absurd hq hne
   | cons a t=>exact⟨a,t,rfl⟩
  obtain⟨a,t,ha⟩:=hl
  have hd:(lf 0).headD NI.no=a:=by rw[hh0 0 fi,ha];rfl
  rw[hd] at go
  refine⟨a,_,by rw[hlf,ha];rfl,go,?_,⟨[],by simp,λ f hf=>by simp[aN] at hf⟩,Nat.le_refl _,λ q X' N' hn (ha':AlS X q X')=>?_⟩
  ·show fi+0<=X.L.length+1
   split at hfi
   ·omega
   ·have:=mQ hok.made X.m;omega
  ·obtain⟨a1,a2,a3,a4,a5⟩:=ha' hst
   have hq:q=(fi:Int):=by rw[hfi];exact a5
   refine⟨hi,a1,hn.ok,λ h=>absurd h (Nat.succ_ne_zero _),λ _=>⟨?_,?_,?_,?_⟩⟩
   ·have h2:=hn.go
    rw[hq] at h2
    rw[List.nil_append]
    refine⟨?_,hn.ok,hn.ext,hn.lc,hn.bd⟩
    show gE g X' (Ad (l.drop 1) q K)
    rw[hq,hlf,ha]
    rw[show((fi:Nat):Int).toNat=fi from by omega,ha] at h2
    exact h2
   ·show 1<=X'.m;omega
   ·show X'.made.getD (X'.m-1) 0=q
    rw[a2];exact a3
   ·show((fi+1:Nat):Int)<=q+1;omega
 ·obtain⟨p1,p2,p3,p4⟩:=h.pos h0
  have p1':Nx g x X N (Ad (l.drop i) r K) r:=p1
  have p2':1<=X.m:=p2
  have p3':X.made.getD (X.m-1) 0=r:=p3
  have p4':((fi+i:Nat):Int)<=r+1:=p4
  have hi':i<l.length:=hi
  have hd:l.drop i=l[i]::l.drop (i+1):=List.drop_eq_getElem_cons hi'
  have g1:=p1'.go
  rw[hd] at g1
  refine⟨l[i],_,List.getElem?_eq_getElem hi',g1,?_,p1'.ch,p1'.len,λ q X' N' hn (ha':AlS X q X')=>?_⟩
  ·show fi+i<=X.L.length+1
   have:=p1'.bd;omega
  ·obtain⟨a1,a2,a3,a4,a5⟩:=ha' hst
   refine⟨hi,a1,hn.ok,λ h=>absurd h (Nat.succ_ne_zero _),λ _=>⟨p1'.trans hn,?_,?_,?_⟩⟩
   ·show 1<=X'.m;omega
   ·show X'.made.getD (X'.m-1) 0=q
    rw[a2];exact a3
   ·show((fi+(i+1):Nat):Int)<=q+1
    have hb:r<q:=by
     rw[a5]
     split
     ·have:=p1'.bd;omega
     ·have h3:=hok.lm
      rw[<- p3']
      exact hok.ms _ _ (by omega) (by omega)
    omega
theorem DI.done{g:Gx}{x:XS}{K:Int->Tr}{l:List NI}{fi:Nat}{y:Nat×Int×XS×List aQ}(h:DI g x K l fi y)(hne:l≠[])(hi:¬y.1<l.length):Nx g x y.2.2.1 y.2.2.2 (K y.2.1) y.2.1:=by
 have h1:=h.le
 have h2:0<l.length:=List.length_pos_iff.2 hne
 have h3:=(h.pos (by omega)).1
 rw[show y.1=l.length by omega,List.drop_length] at h3
 exact h3
end
section
theorem Uo{l:List NI}{i:Nat}{a:NI}(h:l[i]?=some a):(Hr l).getD i 0=a.init:=by
 unfold Hr
 rw[iU,List.getElem?_map,h]
 rfl
section
variable{k:Cl}{bx bm:Nat}{x:XS}{dn:Bool}{rs:Rs}{D:List Nat}{A:Fr}{w:World}{g:Gx}
set_option maxRecDepth 100000 in
theorem aAo(hg:g.Ok)(b:Int){h:Nat}(hh:h<18446744073709551616)(level:Nat)(gen:Int)(K:Int->Tr)(hb:b<=x.L.length)(go:gE g x (Wa k b h level gen K))(ok:x.Ok)(hs:SF w D (xH k bx bm x dn rs) A [] (xW x) w):Calls prog 250 #[.pointer (some ⟨bx,0,none⟩),.int .i64 b,.int .u64 (h:Int),.int .i64 (level:Int),.int .i64 gen] w λ e w'=>∃q:Int×XS×List aQ,e=.returned (.int .i64 q.1)/\Nx g x q.2.1 q.2.2 (K q.1) q.1/\SF w D (xH k bx bm q.2.1 dn rs) [] (aN q.2.2) (xW q.2.1) w':=by
 have hlL:=ok.lL
 have hlm:=ok.lm
 have hm1:x.m<x.made.length->1<=x.made.getD x.m 0/\x.made.getD x.m 0<=x.L.length:=λ h=>⟨ok.m1 _ (by rw[iU,List.getElem?_eq_getElem h];exact List.getElem_mem h),mQ ok.made _⟩
 obtain⟨h0,hv0,hh0⟩:=(ok.nv b).hash
 have hv:(aC x.L b).nd.hash=(h0:Int):=hv0
 refine enter Tryz.func250 Tryz.ntmps250 rfl rfl (cD hs) ?_
 simp only[cG]
 refine dA ?_;refine dA ?_;refine mK ?_;refine N5 ?_;refine Rr ?_;refine Ha ?_;refine iT ?_
 refine eP [12,26,27,28,29,30,31,32,33,34,35,36,37,38,39,40,41,42,43,44,45] (λ q:Nat=>[(12,.int .i64 (q:Int))]) (λ q=>1<=q/\q<=x.L.length+1/\(q:Int)=if x.m=x.made.length then((x.L.length+1:Nat):Int) else x.made.getD x.m 0) (λ q=>xH k bx bm x dn rs) (λ q=>[]) (λ q=>xW x) (by decide) (λ _=>by exact rfl) ?_ (λ q f hx=>?_)
 ·refine aV ?_
  refine gZ [0,1,2,3,4,5,6,7,8,9] ?_;refine Es ?_;refine oE ?_;refine Di ?_;refine eL ?_
  refine bC (λ c35=>?_) (λ c35=>?_)
  ·have hm2:=hm1 (by omega)
   refine gZ [0,1,2,3,4,5,6,7,8,9,10] ?_;refine Es ?_;refine R4 ?_;refine J7 ?_
   refine fH ((x.made.getD x.m 0).toNat) ?_
   ·exact⟨by omega,by omega,by rw[if_neg (by omega)];omega⟩
  ·refine aZ ?_
   refine fH (x.L.length+1) ?_
   ·exact⟨by omega,by omega,by rw[if_pos (by omega)]⟩
 dsimp only[iC,List.map,List.cons_append,List.nil_append]
 obtain⟨hq1,hq2,hq3⟩:=hx
 refine aV ?_;refine Kc3 ?_
 refine bC (λ c49=>?_) (λ c49=>?_)
 ·refine dA ?_
  refine aT Tryz.results250 (λ w hw=>?_)
  exact⟨(0,x,[]),rfl,Nx.st (by assumption) go ok,hw.aY (hF:=by exact aX.nil)⟩
 ·refine kZ ?_;refine eH [(0,[]),(1,[]),(3,[]),(4,[]),(5,[]),(6,[]),(7,[]),(8,[]),(9,[]),(10,[]),(11,[]),(12,[]),(13,[]),(14,[]),(15,[]),(16,[]),(17,[]),(2,[9,14]),(18,[]),(19,[]),(20,[]),(21,[]),(22,[]),(23,[])] ?_;refine iK ?_;refine iK ?_;refine yJ ?_;refine yJ ?_;refine iK ?_;refine aR ?_;refine bE (i:=2) (hq:=(cM (hs:=xH k bx bm x dn rs) (os:=xW x) (hc:=λ w hs=>cH b _ hb go ok hs))) (h:=λ x53 h53=>?_)
  have e0:(aC x.L b).c.hash.toNat=h0:=by rw[hv0];simp
  have go2:=h53.1
  rw[e0] at go2
  refine bE (i:=18) (hq:=(cF (hc:=λ w1 hw=>fp (v:=aC x.L b) (at':=b) (h0:=h0) (h:=h) (fi:=q) (lvl:=level) hv hh0 hh hq1 (by omega) w1))) (h:=λ x69 h69=>?_);refine aR ?_;refine cK (i:=20) (hq:=(bR rf rfl)) (h:=?_);refine cK (i:=21) (hq:=(bR rf rfl)) (h:=?_);refine Pf ?_;refine aV ?_;refine D8 ?_
  refine nT [11,15,72,73,74,75,76,77,78,79,80,81,82,83,84,85,86,87] (λ y:Nat×Int×XS×List aQ=>[(15,.int .i64 (y.1:Int)),(11,.int .i64 y.2.1)]) (λ y=>DI g x K (dQ b h0 h (aC x.L b) k.key k.val gen q (lN h0 h-level)) q y) (λ y=>xH k bx bm y.2.2.1 dn rs) (λ y=>(x69.pn,iI x69.L)::(x69.pc,aH x69.ini)::(aN x69.L++aN y.2.2.2)) (λ y=>xW y.2.2.1) (λ y=>x69.L.length-y.1) ((0,0,x,[])) (⟨Nat.zero_le _,by assumption,ok,λ _=>rfl,λ h=>absurd rfl h⟩) (λ y f hx=>?_) (hw0:=λ w hw=>hw.sub (List.Sublist.refl _) (aX.iV λ f hf=>by simpa[aN] using hf) (List.Sublist.refl _))
  dsimp only[iC,List.map,List.cons_append,List.nil_append]
  have hy:=hx
  refine C4 ?_;refine dS ?_;refine Bi ?_
  refine bC (λ c75=>?_) (λ c75=>?_)
  ·obtain⟨hd,hd1,hd2⟩:=h69
   have hle:=hd.len
   have hlt:y.1<x69.L.length:=by omega
   obtain⟨a,K',ha,ga,hfb,hch,hln,hnx⟩:=hy.next (lf:=λ f=>dQ b h0 h (aC x.L b) k.key k.val gen f (lN h0 h-level)) rfl (λ f f'=>Wp _ _) (Q1 _ _) go2 hq3 (by omega)
   obtain⟨a',ha',hma⟩:=hd.m.at hlt
   have haa:a'=a:=Option.some.inj (ha'.symm.trans ha)
   subst haa
   have hini:x69.ini.getD y.1 0=a'.init:=by rw[hd.ini];exact Uo ha
   have hB:=aB6 (c:=y.2.2.1.cs.length) hh hq1 (show b<=y.2.2.1.L.length by omega) _ _ _ _ ha (by omega)
   have hsx:=hma.sx
   have htw:=hy.ok.two
   have hcl:=zG h0 h
   have hdl:(dQ b h0 h (aC x.L b) k.key k.val gen q (lN h0 h-level)).length<=2+2*(lN h0 h-level):=R3 _ _
   have hyy:=hB.ys
   rw[<- hma.ys] at hyy
   have hc0:(x69.L.getD y.1 aQ.zero).nd.c (x69.L.getD y.1 aQ.zero).xs (x69.L.getD y.1 aQ.zero).ys=a'.c0:=hma.c0
   refine rY ?_;refine gZ [0,1,2,3,4,5,6,7,8,9,10] ?_;refine iK ?_;refine aR ?_;refine R4 ?_;refine iK ?_;refine R4 ?_;refine bE (i:=9) (hq:=(cM (hs:=xH k bx bm y.2.2.1 dn rs) (os:=xW y.2.2.1) (A0:=[((x69.L.getD y.1 aQ.zero).nd.brA,aH (x69.L.getD y.1 aQ.zero).xs),((x69.L.getD y.1 aQ.zero).nd.prA,cX (x69.L.getD y.1 aQ.zero).ys)]) (hA:=bH.of λ f hf=>.inr (.inr (.inl (by simp only[List.mem_cons,List.not_mem_nil,or_false] at hf;rcases hf with rfl|rfl;exact .tail _ (.tail _ (List.mem_append_left _ (E2 hlt)));exact .tail _ (.tail _ (List.mem_append_left _ (E7 hlt))))))) (hc:=λ w hs=>Xh hg (n:=(x69.L.getD y.1 aQ.zero).nd) (xs:=(x69.L.getD y.1 aQ.zero).xs) (ys:=(x69.L.getD y.1 aQ.zero).ys) (x69.ini.getD y.1 0) K' hma.fit.brN hma.fit.prN (by omega) (by omega) (by rw[hc0];exact hB.nv) (by rw[hini];exact hB.init) (by rw[hc0,hini];exact ga) hy.ok hs))) (h:=λ x87 h87=>?_);refine J7 ?_;refine Ka8 ?_
   refine iO ((y.1+1,x87.1,x87.2.1,y.2.2.2++x87.2.2)) ?_ (hw1:=λ w hw=>hw.sub (List.Sublist.refl _) (aX.iV λ f hf=>by simp only[dE,List.mem_append,List.mem_cons] at hf ⊢;rcases hf with hf|hf|hf|hf|hf;exact .inr (.inl hf);exact .inr (.inr (.inl hf));exact .inr (.inr (.inr (.inl hf)));exact .inr (.inr (.inr (.inr hf)));exact .inl hf) (List.Sublist.refl _))
   ·exact hnx _ _ _ h87.1 h87.2
  ·refine bT rfl ?_;refine Ka5 ?_
   refine aT Tryz.results250 (λ w hw=>?_)
   exact⟨(y.2.1,y.2.2.1,y.2.2.2),rfl,hy.done (Q1 _ _) (by have:=h69.1.len;omega),(hw.eX λ f hf=>.inr (.tail _ (.tail _ (List.mem_append_right _ hf)))).v4⟩
end
end
section
section
variable{v:aQ}{n c m:Nat}{w:World}
theorem aCd(h:mC n c v.c)(k:ByteArray)(u:Int)(hr:sG w v.nd v.xs v.ys)(hy:v.ys.length<=150000000000):Calls prog 247 #[v.nd.v,.string k,.int .u64 u] w (aCq w (lH v.nd v.xs v.ys k u) v.nd.hash):=S3 (n:=v.nd) k u (fI h).1 (fI h).2 hr hy
theorem aB5(h:mC n c v.c)(k:ByteArray)(hr:sG w v.nd v.xs v.ys)(hy:v.ys.length<=150000000000):Calls prog 251 #[v.nd.v,.string k] w (aBl w (qG v.nd v.xs v.ys k) v.nd.hash):=Oh (n:=v.nd) k (fI h).1 (fI h).2 hr hy
theorem ln(o:Option (List Pr))(h:Int)(x:Option Addr×Nat):(a8 o h x).brN=([]:List Int).length/\(a8 o h x).prN=(Z1 o).length:=by cases o<;>exact⟨rfl,rfl⟩
theorem Cw(q:List Pr)(h:Int)(x:Option Addr×Nat):(N3 (some q) h x={Nd.zero with kind:=5,hash:=h,key:=(q.getD 0 (⟨#[]⟩,0)).1,val:=(q.getD 0 (⟨#[]⟩,0)).2}/\Is (some q)=[])∨(N3 (some q) h x={Nd.zero with kind:=6,hash:=h,prA:=x.1,prN:=q.length,cX:=x.2}/\Is (some q)=q):=by
 by_cases hq:q.length=1
 ·exact .inl ⟨if_pos hq,if_pos hq⟩
 ·exact .inr ⟨if_neg hq,if_neg hq⟩
theorem Z7(o:Option (List Pr))(h:Int)(x:Option Addr×Nat):(N3 o h x).brN=([]:List Int).length/\(N3 o h x).prN=(Is o).length:=by
 cases o with
 | none=>exact⟨rfl,rfl⟩
 | some l=>rcases Cw l h x with⟨e1,e2⟩|⟨e1,e2⟩<;>rw[e1,e2]<;>exact⟨rfl,rfl⟩
theorem aBo{A F:Fr}{O:List Ow}{o:Option (List Pr)}{h:Int}{x:Option Addr×Nat}:bH A ((x.1,cX (Z1 o))::F) O [((a8 o h x).brA,aH []),((a8 o h x).prA,cX (Z1 o))]:=by
 cases o with
 | none=>exact .cons (.inl rfl) (.cons (.inl rfl) .nil)
 | some q=>exact .cons (.inl rfl) (.cons (.inr (.inr (.inl (.head _)))) .nil)
theorem aBT{A F:Fr}{O:List Ow}{o:Option (List Pr)}{h:Int}{x:Option Addr×Nat}:bH A ((x.1,cX (Is o))::F) O [((N3 o h x).brA,aH []),((N3 o h x).prA,cX (Is o))]:=by
 cases o with
 | none=>exact .cons (.inl rfl) (.cons (.inl rfl) .nil)
 | some q =>
  rcases Cw q h x with⟨e1,e2⟩|⟨e1,e2⟩<;>rw[e1,e2]
  ·exact .cons (.inl rfl) (.cons (.inl rfl) .nil)
  ·exact .cons (.inl rfl) (.cons (.inr (.inr (.inl (.head _)))) .nil)
theorem y8{o:Option (List Pr)}{h:Int}(x:Option Addr×Nat)(hh:∃b:Nat,h=(b:Int)/\b<18446744073709551616):mC m c {(a8 o h x).c [] (Z1 o) with main:=0,prev:=0,status:=0}:=by
 cases o with
 | none=>exact⟨bL _,bL _,bL _,(λ r hr=>nomatch hr),bL _,bL _,bL _,⟨0,rfl,by decide⟩,⟨0,rfl,by decide⟩⟩
 | some q=>exact⟨bL _,bL _,bL _,(λ r hr=>nomatch hr),bL _,bL _,bL _,⟨0,rfl,by decide⟩,hh⟩
theorem aAB{o:Option (List Pr)}{h:Int}(x:Option Addr×Nat)(hh:∃b:Nat,h=(b:Int)/\b<18446744073709551616):mC m c {(N3 o h x).c [] (Is o) with main:=0,prev:=0,status:=0}:=by
 cases o with
 | none=>exact⟨bL _,bL _,bL _,(λ r hr=>nomatch hr),bL _,bL _,bL _,⟨0,rfl,by decide⟩,⟨0,rfl,by decide⟩⟩
 | some q =>
  rcases Cw q h x with⟨e1,e2⟩|⟨e1,e2⟩<;>rw[e1,e2]<;>exact⟨bL _,bL _,bL _,(λ r hr=>nomatch hr),bL _,bL _,bL _,⟨0,rfl,by decide⟩,hh⟩
theorem yc(l:List Int)(ys:List Pr)(d:Nd)(k:ByteArray)(u:Int):(Z1 (lH d l ys k u)).length<=ys.length+1:=by
 have:=vc ys k u
 unfold lH
 split
 ·exact this
 ·exact Nat.zero_le _
theorem y9(l:List Int)(ys:List Pr)(d:Nd)(k:ByteArray):(Is (qG d l ys k)).length<=ys.length:=by
 have:=ao ys k
 unfold qG
 split
 ·simp only[Is];split
  ·exact Nat.zero_le _
  ·exact this
 ·exact Nat.zero_le _
theorem rV{x:XS}(h:x.Ok)(r:Int):(aC x.L r).ys.length<=x.L.length:=by
 unfold aC
 split
 ·exact h.ys _ (fR (L:=x.L) (k:=(r-1).toNat) (by omega))
 ·exact Nat.zero_le _
end
theorem G7{n c h:Nat}{k:ByteArray}{u:Int}(hh:h<18446744073709551616):mC n c {(({Nd.zero with kind:=4,hash:=(h:Int),key:=k,val:=u}:Nd).c [] []) with main:=0,prev:=0,status:=0}:=⟨bL _,bL _,bL _,(λ r hr=>nomatch hr),bL _,bL _,bL _,⟨0,rfl,by decide⟩,⟨h,rfl,hh⟩⟩
theorem pS(p:Value)(o f:Bool)(v:Int)(w:World):Calls prog 248 #[p,.bool o,.bool f,.int .u64 v] w λ e w'=>e=.returned (.tuple #[.agg ⟨(sA f v).cells⟩,.int .i64 (if o=true then 1 else 0)])/\St w [] [] w':=by
 refine enter Tryz.func248 Tryz.ntmps248 rfl rfl (SF.s0 w) ?_
 simp only[cG]
 refine J0 ?_;refine aL (λ x8=>?_);refine zZ ?_;refine aP (cV (hc:=λ w1 hw=>gU f v w1)) (λ x13=>?_);refine aL (λ x10=>?_);refine J5 ?_;refine J0 ?_;refine vL ?_;refine kT ?_;refine pE ?_
 refine bC (λ c16=>?_) (λ c16=>?_)
 ·refine oR ?_;refine Cg ?_
  refine bD Tryz.results248 (λ w hw=>?_)
  rw[if_neg (by simp_all)];exact⟨rfl,hw.done⟩
 ·refine aZ ?_;refine oR ?_;refine Cg ?_
  refine bD Tryz.results248 (λ w hw=>?_)
  rw[if_pos (by simp_all)];exact⟨rfl,hw.done⟩
section
variable{k:Cl}{bx bm:Nat}{x:XS}{dn:Bool}{rs:Rs}{D:List Nat}{A:Fr}{w:World}{g:Gx}
theorem yD(f:Bool)(v:Int)(hs:SF w D (xH k bx bm x dn rs) A [] (xW x) w):Calls prog 246 #[.pointer (some ⟨bx,0,none⟩),.bool f,.int .u64 v] w λ e w'=>∃q:Unit,e=.returned (.bool (oO k f v))/\True/\SF w D (xH k bx bm x dn rs) [] [] (xW x) w':=by
 refine enter Tryz.func246 Tryz.ntmps246 rfl rfl (cD hs) ?_
 simp only[cG]
 refine E8 ?_;refine I1 ?_;refine J3 ?_;refine aI ?_;refine cW ?_;refine mB ?_
 refine bC (λ c12=>?_) (λ c12=>?_)
 ·refine J2 ?_;refine yO ?_;refine J1 ?_
  refine aT Tryz.results246 (λ w hw=>?_)
  rw[show oO k f v=!f from if_pos (by assumption)];exact⟨(),rfl,trivial,hw.aY⟩
 ·refine mB ?_
  refine bC (λ c16=>?_) (λ c16=>?_)
  ·refine Ka5 ?_
   refine aT Tryz.results246 (λ w hw=>?_)
   rw[show oO k f v=f from(if_neg (by assumption)).trans (if_pos (by assumption))];exact⟨(),rfl,trivial,hw.aY⟩
  ·refine mB ?_
   refine bC (λ c19=>?_) (λ c19=>?_)
   ·refine jF ?_
    (refine eI 22 (λ g22=>?_) (λ g22=>?_)<;>refine Ka0 ?_)
    all_goals (refine J79 ?_;refine J6 ?_;refine uM ?_;refine J1 ?_)
    all_goals
    refine aT Tryz.results246 (λ w hw=>?_)
    have e:oO k f v=(f&&v==k.exp):=(if_neg (by assumption)).trans ((if_neg (by assumption)).trans (if_pos (by assumption)))
    rw[e]
    exact⟨(),by simp_all<;>rfl,trivial,hw.aY⟩
   ·refine Kb0 ?_
    refine aT Tryz.results246 (λ w hw=>?_)
    rw[show oO k f v=true from(if_neg (by assumption)).trans ((if_neg (by assumption)).trans (if_neg (by assumption)))];exact⟨(),rfl,trivial,hw.aY⟩
theorem Va(hg:g.Ok)(i m index gen:Int)(K:Int->Tr)(ht:k.t.root<=9223372036854775807)(hi:i<=x.L.length)(hm:m<=x.L.length)(hA:∀f∈aN x.L,f∈A)(go:gE g x (Gz k i m index gen K))(ok:x.Ok)(hs:SF w D (xH k bx bm x dn rs) A [] (xW x) w):Calls prog 225 #[.pointer (some ⟨bx,0,none⟩),.int .i64 i,.int .i64 m,.int .i64 index,.int .i64 gen] w λ e w'=>∃q:Int×XS×List aQ,e=.returned (.int .i64 q.1)/\Nx g x q.2.1 q.2.2 (K q.1) q.1/\SF w D (xH k bx bm q.2.1 dn rs) [] (aN q.2.2) (xW q.2.1) w':=by
 refine enter Tryz.func225 Tryz.ntmps225 rfl rfl (cD hs) ?_
 simp only[cG]
 refine dA ?_;refine jF ?_;refine aE (cM (hs:=xH k bx bm x dn rs) (os:=xW x) (hc:=λ w hs=>cH m _ hm go ok hs)) (λ x16 h16=>?_);refine aB ?_;refine aP (cV (hc:=λ w1 hw=>Ld (v:=aC x.L m) (ok.nv m) index (ok.sN hw hA m))) (λ x18=>?_);refine aB ?_;refine aD (bR rf rfl) rfl ?_;refine aD (bR rf rfl) rfl ?_;refine J8 ?_;refine aV ?_;refine mK ?_;refine aB ?_
 (refine eI 25 (λ g25=>?_) (λ g25=>?_)<;>refine Ka0 ?_)
 all_goals (refine Ka0 ?_;(first|refine aJ ?_|(refine aF ?_;refine aE (cM (hs:=xH k bx bm x dn rs) (os:=xW x) (hc:=λ w hs=>cH ((lI (aC x.L m).c index).getD 0) _ (pU (ok.nv m) index) h16.1 ok hs)) (λ x28 h28=>?_)));refine we ?_;refine uM ?_;refine aI ?_)
 all_goals
 refine bC (λ c32=>?_) (λ c32=>?_)
 ·all_goals (refine Ka5 ?_)
  all_goals
   refine aT Tryz.results225 (λ w hw=>?_)
   exact⟨((lI (aC x.L m).c index).getD 0,x,[]),rfl,⟨by first|exact h28.1.to (λ _=>if_pos (by assumption))|exact go.bY (by assumption),ok,by simp,Nat.le_refl _,pU (ok.nv m) index⟩,hw.aY (hF:=by exact aX.nil)⟩
 ·try exact nv c32
  all_goals (refine Du ?_;refine N5 ?_;refine aG ?_;refine aD (aU (k:=2) (vs:=[.int .i64 k.t.root,.bool k.t.ro]) rf cS eT rfl rfl) rfl ?_;refine pM ?_;refine aB ?_;refine aE (cM (hs:=xH k bx bm x dn rs) (os:=xW x) (A0:=aN x.L) (hA:=bH.of λ f hf=>.inr (.inl (hA f hf))) (hc:=λ w hs=>rb hg k.t i m index _ ht hi hm (λ f hf=>hf) (h28.1.to (λ _=>if_neg (by assumption))) ok hs)) (λ x43 h43=>?_);refine J1 ?_)
  all_goals
   refine aT Tryz.results225 (λ w hw=>?_)
   exact⟨x43,rfl,h43,by rw[List.append_nil] at hw;exact hw.v4⟩
end
end
end Go.Proofs.YtbajmaoegmbfgaaGreat
namespace Go.Ct
open Go Go.RowKit
section
theorem vw{a b:ByteArray}(h:a=b):(a.toList==b.toList)=true:=by subst h;simp
theorem v5{a b:ByteArray}(h:¬a=b):(a.toList==b.toList)=false:=by
 rw[beq_eq_false_iff_ne]
 exact λ e=>h (toList_inj e)
section
variable{P:Program}{S:List (Nat×Value)}{G:World->Prop}{d:Nat}{ty t t':TypeId}{pos:String}{af:Array Edge}{gd:Option (Nat×Bool)}{x y:Operand}{a b:ByteArray}
theorem qy(hx:ev S x=.string a)(hy:ev S y=.string b)(h:a=b):aM P S G ⟨some d,.binOp .eql t x y t',ty,pos,af,gd⟩ (.bool true):=by
 have:=Gi (P:=P) (G:=G) (d:=d) (ty:=ty) (pos:=pos) (af:=af) (gd:=gd) (t:=t) (t':=t') hx hy
 rwa [vw h] at this
theorem py(hx:ev S x=.string a)(hy:ev S y=.string b)(h:¬a=b):aM P S G ⟨some d,.binOp .eql t x y t',ty,pos,af,gd⟩ (.bool false):=by
 have:=Gi (P:=P) (G:=G) (d:=d) (ty:=ty) (pos:=pos) (af:=af) (gd:=gd) (t:=t) (t':=t') hx hy
 rwa [v5 h] at this
end
end
end Go.Ct
namespace Go.Proofs.YtbajmaoegmbfgaaGreat
open Go.Proofs.Tryz (prog)
open Go Go.RowKit Go.Ct
section
section
variable{v:aQ}{n c:Nat}{w:World}
theorem K1(h:mC n c v.c){i b:Int}(e:lI v.c i=some b)(hr:sG w v.nd v.xs v.ys):Calls prog 216 #[v.nd.v,.int .i64 i] w λ e w'=>e=.returned (.tuple #[.int .i64 b,.bool true])/\St w [] [] w':=by
 have:=Ld h i hr
 rwa [e] at this
theorem xe(h:mC n c v.c){i:Int}(e:lI v.c i=none)(hr:sG w v.nd v.xs v.ys):Calls prog 216 #[v.nd.v,.int .i64 i] w λ e w'=>e=.returned (.tuple #[.int .i64 0,.bool false])/\St w [] [] w':=by
 have:=Ld h i hr
 rwa [e] at this
end
section
variable{k:Cl}{bx bm:Nat}{x:XS}{dn:Bool}{rs:Rs}{D:List Nat}{A:Fr}{w:World}{g:Gx}
abbrev Z2(g:Gx)(x:XS)(K:Rs->Int->Tr)(bx bm:Nat)(k:Cl)(dn:Bool)(rs:Rs)(D:List Nat)(w:World)(e:Ending)(w':World):Prop:=∃q:Rs×Int×XS×List aQ,e=.returned (.tuple #[.agg ⟨q.1.cells⟩,.int .i64 q.2.1])/\Nx g x q.2.2.1 q.2.2.2 (K q.1 q.2.1) 0/\SF w D (xH k bx bm q.2.2.1 dn rs) [] (aN q.2.2.2) (xW q.2.2.1) w'
set_option maxRecDepth 100000 in
theorem Xv(hg:g.Ok)(i m:Int){h:Nat}(hh:h<18446744073709551616)(level:Nat)(hlv:level<=1073741824)(gen:Int)(K:Rs->Int->Tr)(ht:k.t.root<=9223372036854775807)(hi:i<=x.L.length)(hm:m<=x.L.length)(hA:∀f∈aN x.L,f∈A)(hk:(aC x.L m).nd.kind=6)(go:gE g x (mG k i m h level gen K))(ok:x.Ok)(hs:SF w D (xH k bx bm x dn rs) A [] (xW x) w):Calls prog 224 #[.pointer (some ⟨bx,0,none⟩),.int .i64 i,.int .i64 m,.int .u64 (h:Int),.int .i64 (level:Int),.int .i64 gen] w (Z2 g x K bx bm k dn rs D w):=by
 have hyl:=rV ok m
 have hlL:=ok.lL
 refine enter Tryz.func224 Tryz.ntmps224 rfl rfl (cD hs) ?_
 simp only[cG]
 refine J0 ?_;refine aL (λ x12=>?_);refine iT ?_;refine eH [(0,[]),(1,[]),(2,[]),(3,[]),(4,[]),(5,[]),(6,[]),(7,[]),(8,[]),(9,[]),(10,[]),(11,[]),(12,[]),(13,[]),(14,[]),(15,[4,9,14]),(16,[9,14]),(17,[14]),(18,[])] ?_;refine J9 ?_;refine aW ?_;refine bU (i:=4) (hq:=(aU (k:=2) (vs:=[.int .i64 k.t.root,.bool k.t.ro]) rf cS eT rfl rfl)) (h:=?_);refine yJ ?_;refine yJ ?_;refine gW (hfire:=(λ _=>by((repeat (first|exact aK.nil|refine aK.cons (by first|exact fL (hq:=aU (k:=2) (vs:=[.int .i64 k.t.root,.bool k.t.ro]) rf cS eT rfl rfl)|exact eN) ?_));done))) (h:=λ x14=>?_);refine nY (h:=λ _=>?_);refine Pf ?_;refine jF ?_;refine aE (cM (hs:=xH k bx bm x dn rs) (os:=xW x) (hc:=λ w hs=>cH m _ hm go ok hs)) (λ x48 h48=>?_);refine aL (λ x17=>?_);refine J5 ?_;refine Kc8 ?_
 refine bC (λ c51=>?_) (λ c51=>?_)
 ·have g1:=h48.1.to (λ _=>if_pos hk)
  refine Kb9 ?_;refine aP (cV (hc:=λ w1 hw=>Lr (v:=(aC x.L m)) (n:=0) k.key (ok.sN hw hA m) (ok.ysl m))) (λ x56=>?_);refine aB ?_;refine aD (bR rf rfl) rfl ?_;refine aD (bR rf rfl) rfl ?_;refine J8 ?_;refine C4 ?_;refine aB ?_;refine aE (cM (hs:=xH k bx bm x dn rs) (os:=xW x) (hc:=λ w hs=>yD _ _ hs)) (λ x62 h62=>?_);refine pE ?_
  refine bC (λ c63=>?_) (λ c63=>?_)
  ·have g2:=g1.to (λ _=>if_neg (show ¬oO k (dY (aC x.L m).c.ys k.key).isSome ((dY (aC x.L m).c.ys k.key).getD 0)=true from by simpa using c63))
   refine jF ?_;refine aP (cV (hc:=λ w1 hw=>gU _ _ w1)) (λ x66=>?_);refine Cg ?_
   refine bD Tryz.results224 (λ w hw=>?_)
   exact⟨(jO (dY (aC x.L m).c.ys k.key).isSome ((dY (aC x.L m).c.ys k.key).getD 0),1,x,[]),rfl,⟨g2,ok,by simp,Nat.le_refl _,bL _⟩,hw.aY (hF:=by exact aX.nil)⟩
  ·have g2:=g1.to (λ _=>if_pos (show oO k (dY (aC x.L m).c.ys k.key).isSome ((dY (aC x.L m).c.ys k.key).getD 0)=true from by simpa using c63))
   refine aZ ?_;refine oR ?_;refine pM ?_;refine aE (cF (hc:=λ w1 hw=>aCd (v:=(aC x.L m)) h48.2 k.key k.val (ok.sN hw hA m) (by omega))) (λ x71 h71=>?_);refine aB ?_;refine aD (bR rf rfl) rfl ?_;refine aD (bR rf rfl) rfl ?_;refine aL (λ x20=>?_);refine kP (λ _=>?_);refine iT ?_;refine eH [(0,[]),(1,[]),(2,[]),(3,[]),(4,[]),(5,[]),(6,[]),(7,[]),(10,[]),(11,[]),(8,[2]),(9,[]),(12,[]),(13,[]),(14,[]),(15,[]),(16,[])] ?_;refine iK ?_;refine bS ?_;refine iK ?_;refine Ka9 ?_;refine iK ?_;refine aR ?_;refine bE (i:=8) (hq:=(cM (hs:=xH k bx bm x dn rs) (os:=xW x) (A0:=[((a8 (lH (aC x.L m).nd (aC x.L m).xs (aC x.L m).ys k.key k.val) (aC x.L m).nd.hash x71).brA,aH []),((a8 (lH (aC x.L m).nd (aC x.L m).xs (aC x.L m).ys k.key k.val) (aC x.L m).nd.hash x71).prA,cX (Z1 (lH (aC x.L m).nd (aC x.L m).xs (aC x.L m).ys k.key k.val)))]) (hA:=aBo) (hc:=λ w hs=>gX hg (n:=a8 (lH (aC x.L m).nd (aC x.L m).xs (aC x.L m).ys k.key k.val) (aC x.L m).nd.hash x71) (xs:=[]) (ys:=Z1 (lH (aC x.L m).nd (aC x.L m).xs (aC x.L m).ys k.key k.val)) m _ (ln _ _ _).1 (ln _ _ _).2 (by decide) (by have:=yc (aC x.L m).xs (aC x.L m).ys (aC x.L m).nd k.key k.val;omega) (y8 _ h48.2.hash) hm (by rw[aCY];exact g2) ok hs))) (h:=λ x82 h82=>?_);refine bE (i:=9) (hq:=(cM (hs:=xH k bx bm x82.2.1 dn rs) (os:=xW x82.2.1) (hc:=λ w hs=>tH hg k.t i m x82.1 _ ht (by have:=h82.len;omega) h82.bd h82.go h82.ok hs))) (h:=λ x83 h83=>?_)
   have hch:=Ch.nx h83 (Ch.nx h82 ((Ch.base (F:=[])).cons (f:=(x71.1,cX (Z1 (lH (aC x.L m).nd (aC x.L m).xs (aC x.L m).ys k.key k.val))))))
   have hlc:x.cs.length<=x83.2.1.cs.length:=by have:=h82.lc;have:=h83.lc;omega
   refine dC (i:=12) (hq:=(cV (hc:=λ w1 hw=>pS _ _ _ _ w1))) (h:=λ x86=>?_);refine cK (i:=13) (hq:=(bR rf rfl)) (h:=?_);refine cK (i:=14) (hq:=(bR rf rfl)) (h:=?_);refine Bu ?_
   refine bD Tryz.results224 (λ w hw=>?_)
   obtain⟨N,hN,hf⟩:=hch.to (t':=K (sA (dY (aC x.L m).c.ys k.key).isSome ((dY (aC x.L m).c.ys k.key).getD 0)) (if x83.1=true then 1 else 0)) h83 (h83.go) hlc (bL _)
   exact⟨(sA (dY (aC x.L m).c.ys k.key).isSome ((dY (aC x.L m).c.ys k.key).getD 0),(if x83.1=true then 1 else 0),x83.2.1,N),rfl,hN,(hw.eX hf).v4⟩
 ·exact absurd hk c51
set_option maxRecDepth 100000 in
theorem Yq(hg:g.Ok)(i m:Int){h:Nat}(hh:h<18446744073709551616)(level:Nat)(hlv:level<=1073741824)(gen:Int)(K:Rs->Int->Tr)(ht:k.t.root<=9223372036854775807)(hi:i<=x.L.length)(hm:m<=x.L.length)(hA:∀f∈aN x.L,f∈A)(hk:¬(aC x.L m).nd.kind=6)(hl:lI (aC x.L m).c (hU h (level:Int))=none)(go:gE g x (mG k i m h level gen K))(ok:x.Ok)(hs:SF w D (xH k bx bm x dn rs) A [] (xW x) w):Calls prog 224 #[.pointer (some ⟨bx,0,none⟩),.int .i64 i,.int .i64 m,.int .u64 (h:Int),.int .i64 (level:Int),.int .i64 gen] w (Z2 g x K bx bm k dn rs D w):=by
 have hyl:=rV ok m
 have hlL:=ok.lL
 refine enter Tryz.func224 Tryz.ntmps224 rfl rfl (cD hs) ?_
 simp only[cG]
 refine J0 ?_;refine aL (λ x12=>?_);refine iT ?_;refine eH [(0,[]),(1,[]),(2,[]),(3,[]),(4,[]),(5,[]),(6,[]),(7,[]),(8,[]),(9,[]),(10,[]),(11,[]),(12,[]),(13,[]),(14,[]),(15,[4,9,14]),(16,[9,14]),(17,[14]),(18,[])] ?_;refine J9 ?_;refine aW ?_;refine bU (i:=4) (hq:=(aU (k:=2) (vs:=[.int .i64 k.t.root,.bool k.t.ro]) rf cS eT rfl rfl)) (h:=?_);refine yJ ?_;refine yJ ?_;refine gW (hfire:=(λ _=>by((repeat (first|exact aK.nil|refine aK.cons (by first|exact fL (hq:=aU (k:=2) (vs:=[.int .i64 k.t.root,.bool k.t.ro]) rf cS eT rfl rfl)|exact eN) ?_));done))) (h:=λ x14=>?_);refine nY (h:=λ _=>?_);refine Pf ?_;refine jF ?_;refine aE (cM (hs:=xH k bx bm x dn rs) (os:=xW x) (hc:=λ w hs=>cH m _ hm go ok hs)) (λ x48 h48=>?_);refine aL (λ x17=>?_);refine J5 ?_;refine Kc8 ?_
 refine bC (λ c51=>?_) (λ c51=>?_)
 ·exact absurd c51 hk
 ·have g0:=h48.1.to (λ _=>if_neg hk)
  have g1:=Me g0 (by rw[hl];rfl)
  refine Du ?_;refine aP (cV (hc:=λ w1 hw=>fM hh (level:Int) w1)) (λ x91=>?_);refine zZ ?_;refine aB ?_;refine bO ?_;refine aL (λ x23=>?_);refine J5 ?_;refine D9 ?_;refine aP (cV (hc:=λ w1 hw=>xe (v:=(aC x.L m)) h48.2 hl (ok.sN hw hA m))) (λ x99=>?_);refine aB ?_;refine aD (bR rf rfl) rfl ?_;refine aD (bR rf rfl) rfl ?_;refine J8 ?_;refine C4 ?_
  refine aJ ?_
  (refine aJ ?_);(refine aJ ?_);refine J87 ?_;refine aI ?_
  refine bC (λ c109=>?_) (λ c109=>?_)
  ·exact nv c109
  ·refine Du ?_
   refine aJ ?_
   (refine aJ ?_);(refine aJ ?_);refine we ?_;(refine aJ ?_);refine cA ?_;refine zZ ?_;refine aE (cM (hs:=xH k bx bm x dn rs) (os:=xW x) (hc:=λ w hs=>fS 0 (by decide) ok hs)) (λ x122 h122=>?_);refine cB ?_;refine Kc2 ?_;refine pE ?_
   refine bC (λ c125=>?_) (λ c125=>?_)
   ·refine dR ?_;refine iT ?_;refine Kc4 ?_;refine aE (cM (hs:=xH k bx bm x dn rs) (os:=xW x) (hc:=λ w hs=>yD _ _ hs)) (λ x129 h129=>?_);refine pE ?_
    refine bC (λ c130=>?_) (λ c130=>?_)
    ·have g2:=g1.to (λ _=>if_neg (show ¬oO k false 0=true from by simpa using c130))
     refine jF ?_;refine aP (cV (hc:=λ w1 hw=>gU _ _ w1)) (λ x133=>?_);refine Cg ?_
     refine bD Tryz.results224 (λ w hw=>?_)
     exact⟨(jO false 0,1,x,[]),rfl,⟨g2,ok,by simp,Nat.le_refl _,bL _⟩,hw.aY (hF:=by exact aX.nil)⟩
    ·have g2:=g1.to (λ _=>if_pos (show oO k false 0=true from by simpa using c130))
     refine rY ?_;refine J2 ?_;refine yO ?_;refine J1 ?_
     refine bC (λ c134=>?_) (λ c134=>?_)
     ·refine aV ?_
      refine eP [28,29,137,138,139,140,141,142,143,144,145] (λ z:Nat×(Int×XS×List aQ)×(Option Addr×Nat)×Nd=>[(28,.pointer (some ⟨z.1,0,none⟩))]) (λ z=>Nx g x z.2.1.2.1 z.2.1.2.2 (.alloc (zx (aC x.L m).c (hU h (level:Int)) z.2.1.1) m λ r=>jU k.t i m r λ ok=>K (sA false 0) (if ok=true then 1 else 0)) z.2.1.1/\z.2.2.2=nB (Zy (aC x.L m) (hU h (level:Int)) z.2.1.1) z.2.2.1) (λ z=>[(z.1,.cells ⟨z.2.2.2.cells⟩ 47 (0,0)),(x23,.cells ⟨({Nd.zero with kind:=4,hash:=(h:Int),key:=k.key,val:=k.val}:Nd).cells⟩ 47 (0,0)),(x17,.cells ⟨(aC x.L m).nd.cells⟩ 47 (0,0)),(x14,.cells ⟨[.int .i64 k.t.root,.bool k.t.ro]⟩ 29 (0,0)),(x12,.cells ⟨Rs.zero.cells⟩ 64 (0,0)),(bx,xO k bm z.2.1.2.1 dn rs),(bm,xM z.2.1.2.1)]) (λ z=>(z.2.2.1.1,aH (mI (Zy (aC x.L m) (hU h (level:Int)) z.2.1.1)))::(aN z.2.1.2.2++[])) (λ z=>xW z.2.1.2.1) (by decide) (λ _=>by exact rfl) ?_ (λ z f hx=>?_)
      ·refine gK (.one 0 [] (.one 1 [] (.one 2 [] (.one 3 [] (.two 4 [0] (.two 5 [] (.one 6 [] (.one 7 [] (.one 8 [] (.one 9 [0,3] (.one 10 [] (.one 11 [] .nil)))))) 0 [] (.two 9 [0,3] (.one 5 [] (.one 6 [] (.one 7 [] (.one 8 [] (.one 10 [] (.one 11 [] .nil)))))) 0 [] .nil)) 0 [] (.two 9 [0,3] (.one 4 [0] (.one 5 [] (.one 6 [] (.one 7 [] (.one 8 [] (.one 10 [] (.one 11 [] .nil))))))) 0 [] .nil)))))) ?_
       refine bS ?_;refine iK ?_;refine bS ?_
       refine gV (E:=[4,9]) (by decide +kernel) ((.cons ?_ (.cons ?_ .nil)))
       ·refine mT (i:=4) (hq:=(cM (hs:=xH k bx bm x dn rs) (os:=xW x) (A0:=[(none,aH []),(none,cX [])]) (hc:=λ w hs=>gX hg (n:={Nd.zero with kind:=4,hash:=(h:Int),key:=k.key,val:=k.val}) (xs:=[]) (ys:=[]) 0 _ rfl rfl (by decide) (Nat.zero_le _) (G7 hh) (bL _) (g2) ok hs))) (h:=λ x142 h142=>?_)
        refine gV (E:=[5,9]) (by decide +kernel) ((.cons ?_ (.cons ?_ .nil)))
        ·refine mT (i:=5) (hq:=(cF (hc:=λ w1 hw=>dm (v:=(aC x.L m)) h48.2 (hU h (level:Int)) x142.1 (ok.sN hw hA m)))) (h:=λ x143 h143=>?_)
         refine aR ?_;refine cK (i:=7) (hq:=(bR rf rfl)) (h:=?_);refine cK (i:=8) (hq:=(bR rf rfl)) (h:=?_);refine gW (h:=λ x28=>?_);refine Bu ?_
         refine fH ((x28,x142,x143,nB (Zy (aC x.L m) (hU h (level:Int)) x142.1) x143)) ?_ (hw1:=λ w hw=>hw.v6)
         ·exact⟨h142,rfl⟩
        ·refine gY (i:=9) (h:=λ x28=>?_)
         refine bE (i:=5) (hq:=(cF (hc:=λ w1 hw=>dm (v:=(aC x.L m)) h48.2 (hU h (level:Int)) x142.1 (ok.sN hw hA m)))) (h:=λ x143 h143=>?_);refine aR ?_;refine cK (i:=7) (hq:=(bR rf rfl)) (h:=?_);refine cK (i:=8) (hq:=(bR rf rfl)) (h:=?_);refine Bu ?_
         refine fH ((x28,x142,x143,nB (Zy (aC x.L m) (hU h (level:Int)) x142.1) x143)) ?_ (hw1:=λ w hw=>hw.v6)
         ·exact⟨h142,rfl⟩
       ·refine gY (i:=9) (h:=λ x28=>?_)
        refine bE (i:=4) (hq:=(cM (hs:=xH k bx bm x dn rs) (os:=xW x) (A0:=[(none,aH []),(none,cX [])]) (hc:=λ w hs=>gX hg (n:={Nd.zero with kind:=4,hash:=(h:Int),key:=k.key,val:=k.val}) (xs:=[]) (ys:=[]) 0 _ rfl rfl (by decide) (Nat.zero_le _) (G7 hh) (bL _) (g2) ok hs))) (h:=λ x142 h142=>?_);refine bE (i:=5) (hq:=(cF (hc:=λ w1 hw=>dm (v:=(aC x.L m)) h48.2 (hU h (level:Int)) x142.1 (ok.sN hw hA m)))) (h:=λ x143 h143=>?_);refine aR ?_;refine cK (i:=7) (hq:=(bR rf rfl)) (h:=?_);refine cK (i:=8) (hq:=(bR rf rfl)) (h:=?_);refine Bu ?_
        refine fH ((x28,x142,x143,nB (Zy (aC x.L m) (hU h (level:Int)) x142.1) x143)) ?_ (hw1:=λ w hw=>hw.v6)
        ·exact⟨h142,rfl⟩
      dsimp only[iC,List.map,List.cons_append,List.nil_append]
      obtain⟨hz,ez⟩:=hx
      have hlz:=hz.len
      have hB:=aCr ((ok.nv m).mono (Nat.le_refl _) (Nat.le_refl _) |>.mono hlz hz.lc) hz.bd (hU h (level:Int))
      refine aV ?_;refine eH [(0,[]),(1,[]),(2,[]),(3,[]),(4,[]),(5,[]),(6,[]),(7,[]),(8,[2]),(9,[]),(10,[]),(11,[]),(12,[]),(13,[]),(14,[])] ?_;refine iK ?_;refine bS ?_;refine iK ?_;refine Ka9 ?_;refine aR ?_;refine bE (i:=8) (hq:=(cM (hs:=xH k bx bm z.2.1.2.1 dn rs) (os:=xW z.2.1.2.1) (A0:=[(z.2.2.2.brA,aH (mI (Zy (aC x.L m) (hU h (level:Int)) z.2.1.1))),(z.2.2.2.prA,cX [])]) (hA:=by rw[ez];exact Tf) (hc:=λ w hs=>gX hg (n:=z.2.2.2) (xs:=mI (Zy (aC x.L m) (hU h (level:Int)) z.2.1.1)) (ys:=[]) m _ (by rw[ez];exact E5 _ _) (by rw[ez];exact Ek _ _) hB.len (Nat.zero_le _) (by rw[ez];exact hB.nvB _) (by omega) (by rw[ez,<- aBr h48.2];exact hz.go) hz.ok hs))) (h:=λ x154 h154=>?_);refine bE (i:=9) (hq:=(cM (hs:=xH k bx bm x154.2.1 dn rs) (os:=xW x154.2.1) (hc:=λ w hs=>tH hg k.t i m x154.1 _ ht (by have:=h154.len;omega) h154.bd h154.go h154.ok hs))) (h:=λ x155 h155=>?_)
      have hch:=Ch.nx h155 (Ch.nx h154 (((Ch.base (F:=[])).nx hz).cons (f:=(z.2.2.1.1,aH (mI (Zy (aC x.L m) (hU h (level:Int)) z.2.1.1))))))
      have hlc:x.cs.length<=x155.2.1.cs.length:=by have:=hz.lc;have:=h154.lc;have:=h155.lc;omega
      refine dC (i:=10) (hq:=(cV (hc:=λ w1 hw=>pS _ _ _ _ w1))) (h:=λ x156=>?_);refine cK (i:=11) (hq:=(bR rf rfl)) (h:=?_);refine cK (i:=12) (hq:=(bR rf rfl)) (h:=?_);refine Bu ?_
      refine bD Tryz.results224 (λ w hw=>?_)
      obtain⟨N,hN,hf⟩:=hch.to (t':=K (sA false 0) (if x155.1=true then 1 else 0)) h155 (h155.go) hlc (bL _)
      exact⟨(sA false 0,(if x155.1=true then 1 else 0),x155.2.1,N),rfl,hN,(hw.eX hf).v4⟩
     ·exact nv c134
   ·exact nv c125
set_option maxRecDepth 100000 in
theorem Yd(hg:g.Ok)(i m:Int){h:Nat}(hh:h<18446744073709551616)(level:Nat)(hlv:level<=1073741824)(gen:Int)(K:Rs->Int->Tr)(ht:k.t.root<=9223372036854775807)(hi:i<=x.L.length)(hm:m<=x.L.length)(hA:∀f∈aN x.L,f∈A)(hk:¬(aC x.L m).nd.kind=6){b:Int}(hl:lI (aC x.L m).c (hU h (level:Int))=some b)(hi2:(aC x.L b).nd.kind=2)(go:gE g x (mG k i m h level gen K))(ok:x.Ok)(hs:SF w D (xH k bx bm x dn rs) A [] (xW x) w):Calls prog 224 #[.pointer (some ⟨bx,0,none⟩),.int .i64 i,.int .i64 m,.int .u64 (h:Int),.int .i64 (level:Int),.int .i64 gen] w (Z2 g x K bx bm k dn rs D w):=by
 have hyl:=rV ok m
 have hlL:=ok.lL
 have hb:b<=x.L.length:=by have:=pU (ok.nv m) (hU h (level:Int));rw[hl] at this;exact this
 refine enter Tryz.func224 Tryz.ntmps224 rfl rfl (cD hs) ?_
 simp only[cG]
 refine J0 ?_;refine aL (λ x12=>?_);refine iT ?_;refine eH [(0,[]),(1,[]),(2,[]),(3,[]),(4,[]),(5,[]),(6,[]),(7,[]),(8,[]),(9,[]),(10,[]),(11,[]),(12,[]),(13,[]),(14,[]),(15,[4,9,14]),(16,[9,14]),(17,[14]),(18,[])] ?_;refine J9 ?_;refine aW ?_;refine bU (i:=4) (hq:=(aU (k:=2) (vs:=[.int .i64 k.t.root,.bool k.t.ro]) rf cS eT rfl rfl)) (h:=?_);refine yJ ?_;refine yJ ?_;refine gW (hfire:=(λ _=>by((repeat (first|exact aK.nil|refine aK.cons (by first|exact fL (hq:=aU (k:=2) (vs:=[.int .i64 k.t.root,.bool k.t.ro]) rf cS eT rfl rfl)|exact eN) ?_));done))) (h:=λ x14=>?_);refine nY (h:=λ _=>?_);refine Pf ?_;refine jF ?_;refine aE (cM (hs:=xH k bx bm x dn rs) (os:=xW x) (hc:=λ w hs=>cH m _ hm go ok hs)) (λ x48 h48=>?_);refine aL (λ x17=>?_);refine J5 ?_;refine Kc8 ?_
 refine bC (λ c51=>?_) (λ c51=>?_)
 ·exact absurd c51 hk
 ·have g0:=h48.1.to (λ _=>if_neg hk)
  have g1:=tN g0 (by rw[hl];rfl)
  rw[hl] at g1
  refine Du ?_;refine aP (cV (hc:=λ w1 hw=>fM hh (level:Int) w1)) (λ x91=>?_);refine zZ ?_;refine aB ?_;refine bO ?_;refine aL (λ x23=>?_);refine J5 ?_;refine D9 ?_;refine aP (cV (hc:=λ w1 hw=>K1 (v:=(aC x.L m)) h48.2 hl (ok.sN hw hA m))) (λ x99=>?_);refine aB ?_;refine aD (bR rf rfl) rfl ?_;refine aD (bR rf rfl) rfl ?_;refine J8 ?_;refine C4 ?_
  (refine Ka3 ?_)
  ((refine Ka3 ?_));((refine aF ?_;refine aE (cM (hs:=xH k bx bm x dn rs) (os:=xW x) (hc:=λ w hs=>cH b _ hb g1 ok hs)) (λ x106 h106=>?_)));refine J87 ?_;refine aI ?_
  refine bC (λ c109=>?_) (λ c109=>?_)
  ·have g2:=h106.1.to (λ _=>if_pos hi2)
   refine J0 ?_;refine bO ?_;refine Cg ?_
   refine bD Tryz.results224 (λ w hw=>?_)
   exact⟨(Rs.zero,2,x,[]),rfl,⟨g2,ok,by simp,Nat.le_refl _,bL _⟩,hw.aY (hF:=by exact aX.nil)⟩
  ·exact absurd hi2 c109
set_option maxRecDepth 100000 in
theorem X8(hg:g.Ok)(i m:Int){h:Nat}(hh:h<18446744073709551616)(level:Nat)(hlv:level<=1073741824)(gen:Int)(K:Rs->Int->Tr)(ht:k.t.root<=9223372036854775807)(hi:i<=x.L.length)(hm:m<=x.L.length)(hA:∀f∈aN x.L,f∈A)(hk:¬(aC x.L m).nd.kind=6){b:Int}(hl:lI (aC x.L m).c (hU h (level:Int))=some b)(hi2:¬(aC x.L b).nd.kind=2)(he:(aC x.L b).nd.key=k.key)(go:gE g x (mG k i m h level gen K))(ok:x.Ok)(hs:SF w D (xH k bx bm x dn rs) A [] (xW x) w):Calls prog 224 #[.pointer (some ⟨bx,0,none⟩),.int .i64 i,.int .i64 m,.int .u64 (h:Int),.int .i64 (level:Int),.int .i64 gen] w (Z2 g x K bx bm k dn rs D w):=by
 have hyl:=rV ok m
 have hlL:=ok.lL
 have hb:b<=x.L.length:=by have:=pU (ok.nv m) (hU h (level:Int));rw[hl] at this;exact this
 refine enter Tryz.func224 Tryz.ntmps224 rfl rfl (cD hs) ?_
 simp only[cG]
 refine J0 ?_;refine aL (λ x12=>?_);refine iT ?_;refine eH [(0,[]),(1,[]),(2,[]),(3,[]),(4,[]),(5,[]),(6,[]),(7,[]),(8,[]),(9,[]),(10,[]),(11,[]),(12,[]),(13,[]),(14,[]),(15,[4,9,14]),(16,[9,14]),(17,[14]),(18,[])] ?_;refine J9 ?_;refine aW ?_;refine bU (i:=4) (hq:=(aU (k:=2) (vs:=[.int .i64 k.t.root,.bool k.t.ro]) rf cS eT rfl rfl)) (h:=?_);refine yJ ?_;refine yJ ?_;refine gW (hfire:=(λ _=>by((repeat (first|exact aK.nil|refine aK.cons (by first|exact fL (hq:=aU (k:=2) (vs:=[.int .i64 k.t.root,.bool k.t.ro]) rf cS eT rfl rfl)|exact eN) ?_));done))) (h:=λ x14=>?_);refine nY (h:=λ _=>?_);refine Pf ?_;refine jF ?_;refine aE (cM (hs:=xH k bx bm x dn rs) (os:=xW x) (hc:=λ w hs=>cH m _ hm go ok hs)) (λ x48 h48=>?_);refine aL (λ x17=>?_);refine J5 ?_;refine Kc8 ?_
 refine bC (λ c51=>?_) (λ c51=>?_)
 ·exact absurd c51 hk
 ·have g0:=h48.1.to (λ _=>if_neg hk)
  have g1:=tN g0 (by rw[hl];rfl)
  rw[hl] at g1
  refine Du ?_;refine aP (cV (hc:=λ w1 hw=>fM hh (level:Int) w1)) (λ x91=>?_);refine zZ ?_;refine aB ?_;refine bO ?_;refine aL (λ x23=>?_);refine J5 ?_;refine D9 ?_;refine aP (cV (hc:=λ w1 hw=>K1 (v:=(aC x.L m)) h48.2 hl (ok.sN hw hA m))) (λ x99=>?_);refine aB ?_;refine aD (bR rf rfl) rfl ?_;refine aD (bR rf rfl) rfl ?_;refine J8 ?_;refine C4 ?_
  (refine Ka3 ?_)
  ((refine Ka3 ?_));((refine aF ?_;refine aE (cM (hs:=xH k bx bm x dn rs) (os:=xW x) (hc:=λ w hs=>cH b _ hb g1 ok hs)) (λ x106 h106=>?_)));refine J87 ?_;refine aI ?_
  refine bC (λ c109=>?_) (λ c109=>?_)
  ·exact absurd c109 hi2
  ·have g3:=(h106.1.to (λ _=>if_neg hi2)).to (λ _=>if_pos he)
   refine Du ?_
   (refine Ka3 ?_)
   ((refine Ka3 ?_));((refine aF ?_;refine aE (cM (hs:=xH k bx bm x dn rs) (os:=xW x) (hc:=λ w hs=>fS b (by omega) ok hs)) (λ x115 h115=>?_)));refine we ?_;((refine aF ?_;refine aD (qy rf rf he) rfl ?_));refine cA ?_;refine zZ ?_;refine aE (cM (hs:=xH k bx bm x dn rs) (os:=xW x) (hc:=λ w hs=>fS b (by omega) ok hs)) (λ x122 h122=>?_);refine cB ?_;refine Kc2 ?_;refine pE ?_
   refine bC (λ c125=>?_) (λ c125=>?_)
   ·exact nv c125
   ·refine kZ ?_;refine Kc4 ?_;refine aE (cM (hs:=xH k bx bm x dn rs) (os:=xW x) (hc:=λ w hs=>yD _ _ hs)) (λ x129 h129=>?_);refine pE ?_
    refine bC (λ c130=>?_) (λ c130=>?_)
    ·have g2:=g3.to (λ _=>if_neg (show ¬oO k true (aC x.L b).nd.val=true from by simpa using c130))
     refine jF ?_;refine aP (cV (hc:=λ w1 hw=>gU _ _ w1)) (λ x133=>?_);refine Cg ?_
     refine bD Tryz.results224 (λ w hw=>?_)
     exact⟨(jO true (aC x.L b).nd.val,1,x,[]),rfl,⟨g2,ok,by simp,Nat.le_refl _,bL _⟩,hw.aY (hF:=by exact aX.nil)⟩
    ·have g2:=g3.to (λ _=>if_pos (show oO k true (aC x.L b).nd.val=true from by simpa using c130))
     refine rY ?_;refine J2 ?_;refine yO ?_;refine J1 ?_
     refine bC (λ c134=>?_) (λ c134=>?_)
     ·exact nv c134
     ·refine Ka5 ?_
      refine bC (λ c159=>?_) (λ c159=>?_)
      ·refine aV ?_;refine eH [(0,[]),(1,[]),(2,[]),(3,[]),(4,[]),(5,[]),(6,[]),(7,[]),(8,[]),(9,[]),(13,[]),(10,[2]),(11,[2]),(12,[]),(14,[]),(15,[]),(16,[]),(17,[]),(18,[])] ?_;refine iK ?_;refine bS ?_;refine iK ?_;refine iK ?_;refine iK ?_;refine bS ?_;refine aR ?_;refine bE (i:=10) (hq:=(cM (hs:=xH k bx bm x dn rs) (os:=xW x) (A0:=[(none,aH []),(none,cX [])]) (hc:=λ w hs=>gX hg (n:={Nd.zero with kind:=4,hash:=(h:Int),key:=k.key,val:=k.val}) (xs:=[]) (ys:=[]) 0 _ rfl rfl (by decide) (Nat.zero_le _) (G7 hh) (bL _) (g2) ok hs))) (h:=λ x171 h171=>?_)
       have hch:=(Ch.base (F:=[])).nx h171
       refine bE (i:=11) (hq:=(cM (hs:=xH k bx bm x171.2.1 dn rs) (os:=xW x171.2.1) (A0:=aN x171.2.1.L) (hA:=Ch.all hch hA) (hc:=λ w hs=>Bx hg m (hU h (level:Int)) x171.1 _ (by have:=h171.len;omega) h171.bd (λ f hf=>hf) h171.go h171.ok hs))) (h:=λ x172 h172=>?_);refine bE (i:=12) (hq:=(cM (hs:=xH k bx bm x172.2.1 dn rs) (os:=xW x172.2.1) (hc:=λ w hs=>tH hg k.t i m x172.1 _ ht (by have:=h171.len;have:=h172.len;omega) h172.bd h172.go h172.ok hs))) (h:=λ x173 h173=>?_)
       have hch2:=Ch.nx h173 (Ch.nx h172 hch)
       have hlc:x.cs.length<=x173.2.1.cs.length:=by have:=h171.lc;have:=h172.lc;have:=h173.lc;omega
       refine dC (i:=14) (hq:=(cV (hc:=λ w1 hw=>pS _ _ _ _ w1))) (h:=λ x175=>?_);refine cK (i:=15) (hq:=(bR rf rfl)) (h:=?_);refine cK (i:=16) (hq:=(bR rf rfl)) (h:=?_);refine Bu ?_
       refine bD Tryz.results224 (λ w hw=>?_)
       obtain⟨N,hN,hf⟩:=hch2.to (t':=K (sA true (aC x.L b).nd.val) (if x173.1=true then 1 else 0)) h173 (h173.go) hlc (bL _)
       exact⟨(sA true (aC x.L b).nd.val,(if x173.1=true then 1 else 0),x173.2.1,N),rfl,hN,(hw.eX hf).v4⟩
      ·exact nv c159
set_option maxRecDepth 100000 in
theorem Ym(hg:g.Ok)(i m:Int){h:Nat}(hh:h<18446744073709551616)(level:Nat)(hlv:level<=1073741824)(gen:Int)(K:Rs->Int->Tr)(ht:k.t.root<=9223372036854775807)(hi:i<=x.L.length)(hm:m<=x.L.length)(hA:∀f∈aN x.L,f∈A)(hk:¬(aC x.L m).nd.kind=6){b:Int}(hl:lI (aC x.L m).c (hU h (level:Int))=some b)(hi2:¬(aC x.L b).nd.kind=2)(he:¬(aC x.L b).nd.key=k.key)(go:gE g x (mG k i m h level gen K))(ok:x.Ok)(hs:SF w D (xH k bx bm x dn rs) A [] (xW x) w):Calls prog 224 #[.pointer (some ⟨bx,0,none⟩),.int .i64 i,.int .i64 m,.int .u64 (h:Int),.int .i64 (level:Int),.int .i64 gen] w (Z2 g x K bx bm k dn rs D w):=by
 have hyl:=rV ok m
 have hlL:=ok.lL
 have hb:b<=x.L.length:=by have:=pU (ok.nv m) (hU h (level:Int));rw[hl] at this;exact this
 refine enter Tryz.func224 Tryz.ntmps224 rfl rfl (cD hs) ?_
 simp only[cG]
 refine J0 ?_;refine aL (λ x12=>?_);refine iT ?_;refine eH [(0,[]),(1,[]),(2,[]),(3,[]),(4,[]),(5,[]),(6,[]),(7,[]),(8,[]),(9,[]),(10,[]),(11,[]),(12,[]),(13,[]),(14,[]),(15,[4,9,14]),(16,[9,14]),(17,[14]),(18,[])] ?_;refine J9 ?_;refine aW ?_;refine bU (i:=4) (hq:=(aU (k:=2) (vs:=[.int .i64 k.t.root,.bool k.t.ro]) rf cS eT rfl rfl)) (h:=?_);refine yJ ?_;refine yJ ?_;refine gW (hfire:=(λ _=>by((repeat (first|exact aK.nil|refine aK.cons (by first|exact fL (hq:=aU (k:=2) (vs:=[.int .i64 k.t.root,.bool k.t.ro]) rf cS eT rfl rfl)|exact eN) ?_));done))) (h:=λ x14=>?_);refine nY (h:=λ _=>?_);refine Pf ?_;refine jF ?_;refine aE (cM (hs:=xH k bx bm x dn rs) (os:=xW x) (hc:=λ w hs=>cH m _ hm go ok hs)) (λ x48 h48=>?_);refine aL (λ x17=>?_);refine J5 ?_;refine Kc8 ?_
 refine bC (λ c51=>?_) (λ c51=>?_)
 ·exact absurd c51 hk
 ·have g0:=h48.1.to (λ _=>if_neg hk)
  have g1:=tN g0 (by rw[hl];rfl)
  rw[hl] at g1
  refine Du ?_;refine aP (cV (hc:=λ w1 hw=>fM hh (level:Int) w1)) (λ x91=>?_);refine zZ ?_;refine aB ?_;refine bO ?_;refine aL (λ x23=>?_);refine J5 ?_;refine D9 ?_;refine aP (cV (hc:=λ w1 hw=>K1 (v:=(aC x.L m)) h48.2 hl (ok.sN hw hA m))) (λ x99=>?_);refine aB ?_;refine aD (bR rf rfl) rfl ?_;refine aD (bR rf rfl) rfl ?_;refine J8 ?_;refine C4 ?_
  (refine Ka3 ?_)
  ((refine Ka3 ?_));((refine aF ?_;refine aE (cM (hs:=xH k bx bm x dn rs) (os:=xW x) (hc:=λ w hs=>cH b _ hb g1 ok hs)) (λ x106 h106=>?_)));refine J87 ?_;refine aI ?_
  refine bC (λ c109=>?_) (λ c109=>?_)
  ·exact absurd c109 hi2
  ·have g3:=(h106.1.to (λ _=>if_neg hi2)).to (λ _=>if_neg he)
   refine Du ?_
   (refine Ka3 ?_)
   ((refine Ka3 ?_));((refine aF ?_;refine aE (cM (hs:=xH k bx bm x dn rs) (os:=xW x) (hc:=λ w hs=>fS b (by omega) ok hs)) (λ x115 h115=>?_)));refine we ?_;((refine aF ?_;refine aD (py rf rf he) rfl ?_));refine cA ?_;refine zZ ?_;refine aE (cM (hs:=xH k bx bm x dn rs) (os:=xW x) (hc:=λ w hs=>fS b (by omega) ok hs)) (λ x122 h122=>?_);refine cB ?_;refine Kc2 ?_;refine pE ?_
   refine bC (λ c125=>?_) (λ c125=>?_)
   ·refine dR ?_;refine iT ?_;refine Kc4 ?_;refine aE (cM (hs:=xH k bx bm x dn rs) (os:=xW x) (hc:=λ w hs=>yD _ _ hs)) (λ x129 h129=>?_);refine pE ?_
    refine bC (λ c130=>?_) (λ c130=>?_)
    ·have g2:=g3.to (λ _=>if_neg (show ¬oO k false 0=true from by simpa using c130))
     refine jF ?_;refine aP (cV (hc:=λ w1 hw=>gU _ _ w1)) (λ x133=>?_);refine Cg ?_
     refine bD Tryz.results224 (λ w hw=>?_)
     exact⟨(jO false 0,1,x,[]),rfl,⟨g2,ok,by simp,Nat.le_refl _,bL _⟩,hw.aY (hF:=by exact aX.nil)⟩
    ·have g2:=g3.to (λ _=>if_pos (show oO k false 0=true from by simpa using c130))
     refine rY ?_;refine J2 ?_;refine yO ?_;refine J1 ?_
     refine bC (λ c134=>?_) (λ c134=>?_)
     ·exact nv c134
     ·refine Ka5 ?_
      refine bC (λ c159=>?_) (λ c159=>?_)
      ·exact nv c159
      ·refine pF ?_;refine jF ?_;refine bO ?_;refine pM ?_;refine pM ?_;refine Ha ?_;refine aB ?_;refine aE (cM (hs:=xH k bx bm x dn rs) (os:=xW x) (hc:=λ w hs=>aAo hg b hh (level+1) gen _ hb g2 ok hs)) (λ x187 h187=>?_);refine aE (cM (hs:=xH k bx bm x187.2.1 dn rs) (os:=xW x187.2.1) (A0:=[(none,aH []),(none,cX [])]) (hc:=λ w hs=>gX hg (n:={Nd.zero with kind:=2,gen:=gen}) (xs:=[]) (ys:=[]) x187.1 _ rfl rfl (by decide) (Nat.zero_le _) sL h187.bd h187.go h187.ok hs)) (λ x188 h188=>?_)
       have hch:=Ch.nx h188 ((Ch.base (F:=[])).nx h187)
       refine iT ?_;refine eH [(0,[]),(1,[]),(2,[]),(3,[]),(4,[]),(5,[]),(6,[]),(7,[]),(8,[]),(9,[2]),(10,[]),(11,[]),(12,[]),(13,[]),(14,[]),(15,[])] ?_;refine iK ?_;refine bS ?_;refine iK ?_;refine iK ?_;refine iK ?_;refine bE (i:=9) (hq:=(cM (hs:=xH k bx bm x188.2.1 dn rs) (os:=xW x188.2.1) (A0:=aN x188.2.1.L) (hA:=Ch.all hch hA) (hc:=λ w hs=>Bx hg m (hU h (level:Int)) x188.1 _ (by have:=h187.len;have:=h188.len;omega) h188.bd (λ f hf=>hf) h188.go h188.ok hs))) (h:=λ x198 h198=>?_);refine bE (i:=10) (hq:=(cM (hs:=xH k bx bm x198.2.1 dn rs) (os:=xW x198.2.1) (hc:=λ w hs=>tH hg k.t i m x198.1 _ ht (by have:=h187.len;have:=h188.len;have:=h198.len;omega) h198.bd h198.go h198.ok hs))) (h:=λ x199 h199=>?_)
       have hch2:=Ch.nx h199 (Ch.nx h198 hch)
       have hlc:x.cs.length<=x199.2.1.cs.length:=by have:=h187.lc;have:=h188.lc;have:=h198.lc;have:=h199.lc;omega
       refine dC (i:=11) (hq:=(cV (hc:=λ w1 hw=>pS _ _ _ _ w1))) (h:=λ x200=>?_);refine cK (i:=12) (hq:=(bR rf rfl)) (h:=?_);refine cK (i:=13) (hq:=(bR rf rfl)) (h:=?_);refine Bu ?_
       refine bD Tryz.results224 (λ w hw=>?_)
       obtain⟨N,hN,hf⟩:=hch2.to (t':=K (sA false 0) (if x199.1=true then 1 else 0)) h199 (h199.go) hlc (bL _)
       exact⟨(sA false 0,(if x199.1=true then 1 else 0),x199.2.1,N),rfl,hN,(hw.eX hf).v4⟩
   ·exact nv c125
theorem Yf(hg:g.Ok)(i m:Int){h:Nat}(hh:h<18446744073709551616)(level:Nat)(hlv:level<=1073741824)(gen:Int)(K:Rs->Int->Tr)(ht:k.t.root<=9223372036854775807)(hi:i<=x.L.length)(hm:m<=x.L.length)(hA:∀f∈aN x.L,f∈A)(go:gE g x (mG k i m h level gen K))(ok:x.Ok)(hs:SF w D (xH k bx bm x dn rs) A [] (xW x) w):Calls prog 224 #[.pointer (some ⟨bx,0,none⟩),.int .i64 i,.int .i64 m,.int .u64 (h:Int),.int .i64 (level:Int),.int .i64 gen] w (Z2 g x K bx bm k dn rs D w):=by
 by_cases hk:(aC x.L m).nd.kind=6
 ·exact Xv hg i m hh level hlv gen K ht hi hm hA hk go ok hs
 ·cases hl:lI (aC x.L m).c (hU h (level:Int)) with
  | none=>exact Yq hg i m hh level hlv gen K ht hi hm hA hk hl go ok hs
  | some b =>
   by_cases hi2:(aC x.L b).nd.kind=2
   ·exact Yd hg i m hh level hlv gen K ht hi hm hA hk hl hi2 go ok hs
   ·by_cases he:(aC x.L b).nd.key=k.key
    ·exact X8 hg i m hh level hlv gen K ht hi hm hA hk hl hi2 he go ok hs
    ·exact Ym hg i m hh level hlv gen K ht hi hm hA hk hl hi2 he go ok hs
end
end
end Go.Proofs.YtbajmaoegmbfgaaGreat
