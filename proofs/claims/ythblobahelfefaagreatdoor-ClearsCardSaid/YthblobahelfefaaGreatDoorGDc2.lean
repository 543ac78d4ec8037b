/- Merged. -/
import Derived.Test.YthblobahelfefaaGreatDoorGKed
import Derived.Test.YthblobahelfefaaGreatDoorGLst2
import Derived.Test.YthblobahelfefaaGreatDoorMp2
set_option linter.unusedSimpArgs false
set_option linter.unusedVariables false
namespace Go.Ct
open Go Go.RowKit
section
section
variable{α:Type}{f:α->List Value}{sz:Nat}
theorem Kz(hf:∀a,(f a).length=sz)(h0:0<sz)(v0:α)(m:Nat):made (f v0) m=dE f (List.replicate m v0):=by
 refine List.ext_getElem? λ i=>?_;have hl:(dE f (List.replicate m v0)).length=m*sz:=by rw[iP hf,List.length_replicate]
 by_cases hi:i<m*sz
 ·have hd:i/sz<m:=Nat.div_lt_of_lt_mul (by rw[Nat.mul_comm];exact hi);have e:=Nat.div_add_mod i sz;have h2:=Xd hf (l:=List.replicate m v0) (k:=i/sz) (j:=i%sz) (by rw[List.getElem?_replicate,if_pos hd]) (Nat.mod_lt _ h0);rw[e] at h2;rw[h2];have hm:i%sz<(f v0).length:=by rw[hf];exact Nat.mod_lt _ h0
  simp[made,madeCells,Array.getElem?_toList,Array.getElem?_map,Array.getElem?_range,hf,hi,List.getElem?_eq_getElem hm]
 ·rw[List.getElem?_eq_none (by rw[jQ,hf];omega),List.getElem?_eq_none (by omega)]
theorem ab(hf:∀a,(f a).length=sz){l:List α}{k j:Nat}{a a':α}{vs:List Value}(hk:l[k]?=some a)(hj:j+vs.length<=sz)(he:(f a).take j++vs++(f a).drop (j+vs.length)=f a'):(dE f l).take (sz*k+j)++vs++(dE f l).drop (sz*k+j+vs.length)=dE f (l.set k a'):=by obtain⟨u,r,e,hu,hs⟩:=uO hf hk;have hl:=hf a;rw[e,hs,<- he,<- hu,List.take_append,List.take_of_length_le (Nat.le_add_right _ _),Nat.add_sub_cancel_left,List.take_append_of_le_length (by omega),Nat.add_assoc,List.drop_append,List.drop_of_length_le (Nat.le_add_right _ _),Nat.add_sub_cancel_left,List.nil_append,List.drop_append_of_le_length (by omega)];simp only[List.append_assoc]
end
theorem Ri{α:Type}{g g':α->Ow}{o:Ow}:∀{ts:List α} {k:Nat} {q:α},ts[k]?=some q->g' q=o->(∀j q',ts[j]?=some q'->j≠k->g' q'=g q')->eL (ts.map g) k o=ts.map g'
 | [],_,_,h,_,_=>by cases h
 | a::ts,0,q,h,h1,h2=>by
  injection h with h
  subst h h1
  simp only[List.map_cons,eL]
  congr 1;refine List.map_congr_left λ b hb=>?_;obtain⟨j,hj⟩:=List.getElem?_of_mem hb
  exact(h2 (j+1) b hj (by omega)).symm
 | a::ts,k+1,q,h,h1,h2=>by
  simp only[List.map_cons,eL]
  rw[h2 0 a rfl (by omega),Ri (ts:=ts) (k:=k) h h1 λ j q' hj hn=>h2 (j+1) q' hj (by omega)]
theorem mN.put{O:List Ow}{i:Nat}{p:Option Addr}{cs:List Value}{c:Nat}{T:TypeId}{sz:Nat}(h:mN O i p cs c T sz)(o:Ow):mN (eL O i o) i o.p o.cs o.c o.T o.sz:=by
 induction h with
 | head=>exact .head
 | tail _ ih=>exact .tail ih
theorem yW(a b:Ow):∀(O:List Ow) (i:Nat),eL (eL O i a) i b=eL O i b
 | [],_=>rfl
 | _::_,0=>rfl
 | x::O,i+1=>by simp only[eL,yW a b O i]
theorem mN.map{α:Type}{g:α->Ow}:∀{ts:List α} {k:Nat} {q:α},ts[k]?=some q->mN (ts.map g) k (g q).p (g q).cs (g q).c (g q).T (g q).sz
 | [],_,_,h=>by cases h
 | a::ts,0,q,h=>by injection h with h;subst h;exact .head
 | a::ts,k+1,q,h=>.tail (mN.map (ts:=ts) h)
section
variable{α:Type}{f:α->List Value}{sz:Nat}{l:List α}{v0 v1:α}{P:Program}{S:List (Nat×Value)}{w0:World}{M:List Nat}{H:List (Nat×Obj)}{A F:Fr}{O:List Ow}
variable{ty t e:TypeId}{pos:String}{af:Array Edge}{gd:Option (Nat×Bool)}{x y:Operand}{p:Option Addr}{i j k c:Nat}{vs:List Value}
theorem av(hf:∀a,(f a).length=sz)(hx:ev S x=.pointer (some ⟨cI p,dH p+sz*k+j,none⟩))(hy:ev S y=.agg ⟨vs⟩)(h1:vs.all (·.oneCell')=true)(ht:gX P t vs.length=true)(ho:mN O i p (dE f l) c e sz)(hk:l[k]?=some v0)(hj:j+vs.length<=sz)(h0:0<vs.length)(he:(f v0).take j++vs++(f v0).drop (j+vs.length)=f v1) :
  aQ P S (SF w0 M H A F O) ⟨none,.store t x y,ty,pos,af,gd⟩ Unit (λ _=>undef) (λ _=>SF w0 M H A F (eL O i ⟨p,dE f (l.set k v1),c,e,sz⟩)):=by
 rw[<- ab hf hk hj he]
 exact Dm (q:=sz*k+j) (by rw[hx,Nat.add_assoc]) hy h1 ht ho (by
  have h:=(List.getElem?_eq_some_iff.1 hk).1;rw[iP hf];have:(k+1)*sz<=l.length*sz:=Nat.mul_le_mul_right _ h;rw[Nat.succ_mul,Nat.mul_comm] at this
  omega) h0
end
theorem SF.Ku{w0 w:World}{M:List Nat}{H:List (Nat×Obj)}{A:Fr}:∀{O:List Ow} {F:Fr},SF w0 M H A F O w->SF w0 M H A (O.map (λ o=>(o.p,o.cs))++F) [] w
 | [],_,h=>h
 | ⟨p,cs,c,T,sz⟩::O,F,h=>by have h2:SF w0 M H A (O.map (λ o=>(o.p,o.cs))++(p,cs)::F) [] w:=SF.Ku (h.freeze .head);exact h2.db λ f hf=>.inr (by simp only[List.map_cons,List.mem_append,List.mem_cons] at hf ⊢;rcases hf with(h|h)|h<;>simp[h])
end
end Go.Ct
namespace Go.Proofs.YthblobahelfefaaGreatDoor
open Go.Proofs.Tryz
open Go Go.RowKit Go.Ct
section
structure zE where
 inv:Int
 ret:Int
 r:Rs
def zE.cells(s:zE):List Value:=[.int .i64 s.inv,.int .i64 s.ret,.int .i64 s.r.err,.bool s.r.found,.int .u64 s.r.val,.string s.r.key,.int .i64 s.r.iD,.int .i64 s.r.ref,.int .i64 s.r.root,.bool s.r.ro]
theorem kB(s:zE):s.cells.length=10:=rfl
abbrev spC(l:List zE):List Value:=dE zE.cells l
abbrev sp_:zE:=⟨-1,-1,Rs.zero⟩
abbrev sp0:zE:=⟨0,0,Rs.zero⟩
def xS(l:List gE):Nat->Nat->Nat->zE
 | 0,_,_=>sp_
 | z+1,t,i=>match l[z]? with
  | some e=>if e.thr=t/\e.idx=i then(if e.ret=true then⟨(xS l z t i).inv,(z:Int),e.r⟩ else⟨(z:Int),(xS l z t i).ret,(xS l z t i).r⟩) else xS l z t i
  | none=>xS l z t i
abbrev Pb:=Nat×Nat×Nat
def Jp(l:List gE)(z:Nat)(q:Pb):List zE:=(List.range q.2.2).map (xS l z q.1)
def ft(l:List gE)(z:Nat)(q:Pb):Ow:=⟨some ⟨q.2.1,0,none⟩,spC (Jp l z q),q.2.2,98,10⟩
def oT(ts:List Pb):List Value:=ts.map λ q=>.slice (some ⟨q.2.1,0,none⟩) q.2.2 q.2.2
def A9(ls:List eE)(n:Nat)(ts:List Pb):Prop:=ts.length=n/\∀(t:Nat) (q:Pb),ts[t]?=some q->q.1=t/\∃s,ls[t]?=some s/\q.2.2=s.l.length
variable{n z i:Nat}{ts:List Pb}{s:eE}{q:Pb}{e:gE}
theorem A9.add{ls:List eE}(h:A9 ls n ts)(hs:ls[n]?=some s)(b:Nat):A9 ls (n+1) (ts++[(n,b,s.l.length)]):=by
 refine⟨by rw[List.length_append,h.1];rfl,λ t q hq=>?_⟩;rcases rM hq with hq|⟨h1,h2⟩;·exact h.2 t q hq
 ·rw[h.1] at h1;subst h1 h2;exact⟨rfl,s,hs,rfl⟩
theorem A9.at{ls:List eE}{n:Nat}{ts:List Pb}(h:A9 ls n ts){t:Nat}(ht:t<n){s:eE}(hs:ls[t]?=some s):∃b,ts[t]?=some (t,b,s.l.length):=by
 have hlt:t<ts.length:=by rw[h.1];exact ht
 obtain⟨h1,s2,h2,h3⟩:=h.2 t ts[t] (List.getElem?_eq_getElem hlt);rw[hs] at h2;injection h2 with h2
 subst h2;refine⟨ts[t].2.1,?_⟩;rw[List.getElem?_eq_getElem hlt];conv=>lhs;rw[show ts[t]=(ts[t].1,ts[t].2.1,ts[t].2.2) from rfl,h1,h3]
theorem yZ{l:List gE}(h:i<q.2.2):(Jp l z q)[i]?=some (xS l z q.1 i):=by unfold Jp;rw[List.getElem?_map,List.getElem?_range h];rfl
theorem oC(l:List gE)(z:Nat)(q:Pb):(Jp l z q).length=q.2.2:=by simp[Jp]
theorem aAS{l:List gE}{v:zE}(he:l[z]?=some e)(h1:e.thr=q.1)(h2:e.idx=i)(hv:v=if e.ret=true then⟨(xS l z q.1 i).inv,(z:Int),e.r⟩ else⟨(z:Int),(xS l z q.1 i).ret,(xS l z q.1 i).r⟩):(Jp l z q).set i v=Jp l (z+1) q:=by
 refine List.ext_getElem? λ j=>?_;rw[List.getElem?_set];by_cases hj:j<q.2.2
 ·rw[yZ hj,yZ hj];have e1:xS l (z+1) q.1 j=if e.thr=q.1/\e.idx=j then(if e.ret=true then⟨(xS l z q.1 j).inv,(z:Int),e.r⟩ else⟨(z:Int),(xS l z q.1 j).ret,(xS l z q.1 j).r⟩) else xS l z q.1 j:=by simp only[xS,he]
  rw[e1];by_cases hij:i=j;·subst hij;rw[if_pos rfl,if_pos (by rw[oC];exact hj),if_pos ⟨h1,h2⟩,hv]
  ·rw[if_neg hij,if_neg (λ h=>hij (h2.symm.trans h.2))]
 ·rw[List.getElem?_eq_none (by rw[oC];omega),List.getElem?_eq_none (by rw[oC];omega)];split;·rw[if_neg (by rw[oC];omega)]
  ·rfl
theorem bw{l:List gE}(he:l[z]?=some e)(h:e.thr≠q.1):ft l (z+1) q=ft l z q:=by
 have:Jp l (z+1) q=Jp l z q:=List.map_congr_left λ i _=>by simp only[xS,he];rw[if_neg (λ h2=>h h2.1)]
 unfold ft;rw[this]
structure Yv where
 b:Nat
 po:Option Addr
 co:Nat
 ts:List Pb
abbrev sD(p:Option Addr)(n c:Nat)(x:Yv):Obj:=.cells ⟨[.slice p n c,.slice x.po n x.co]⟩ 95 (0,0)
abbrev Yv.fr(x:Yv)(l:List gE):Fr:=(x.po,oT x.ts)::x.ts.map λ q=>(some ⟨q.2.1,0,none⟩,spC (Jp l l.length q))
theorem lz:cS prog 96 98 (zE.cells sp0):=fX (z:=.agg ⟨zE.cells sp0⟩) (by kernel_rfl) (by kernel_rfl) rfl
theorem Rr:cS prog 93 96 [.slice none 0 0]:=fX (z:=.slice none 0 0) (by kernel_rfl) (by kernel_rfl) rfl
section
variable{w:World}{p pl:Option Addr}{c cl:Nat}{ls:List eE}{l:List gE}
def Wa(n i:Nat):List zE:=List.replicate i sp_++List.replicate (n-i) sp0
theorem y9(l:List gE)(t b n:Nat):Wa n n=Jp l 0 (t,b,n):=by unfold Wa Jp;rw[Nat.sub_self];refine List.ext_getElem? λ j=>?_;by_cases hj:j<n<;>simp[xS,hj]
theorem jv{w0 w:World}{M:List Nat}{H:List (Nat×Obj)}{A F:Fr}{po:Option Addr}{co b n k:Nat}{ts:List Pb}(h:SF w0 M H A F (⟨some ⟨b,0,none⟩,spC (Wa n n),n,98,10⟩::⟨po,oT ts++[.slice (some ⟨b,0,none⟩) n n],co,96,1⟩::ts.map (ft l 0)) w):SF w0 M H A F (⟨po,oT (ts++[(k,b,n)]),co,96,1⟩::(ts++[(k,b,n)]).map (ft l 0)) w:=by rw[y9 l k b n] at h;refine h.perm (List.Perm.refl _) ?_;unfold oT;rw[List.map_append,List.map_append];exact((List.perm_append_comm (l₁:=[ft l 0 (k,b,n)])).symm.cons _).trans (List.Perm.swap _ _ _)
theorem Wg{ts:List Pb}{z b n N:Nat}{e:gE}{v:zE}(he:l[z]?=some e)(hts:A9 ls N ts)(hb:ts[e.thr]?=some (e.thr,b,n))(hv:v=if e.ret=true then⟨(xS l z e.thr e.idx).inv,(z:Int),e.r⟩ else⟨(z:Int),(xS l z e.thr e.idx).ret,(xS l z e.thr e.idx).r⟩):eL (ts.map (ft l z)) e.thr ⟨some ⟨b,0,none⟩,dE zE.cells ((Jp l z (e.thr,b,n)).set e.idx v),n,98,10⟩=ts.map (ft l (z+1)):=by
 refine Ri hb ?_ λ j q hq hj=>bw he λ h=>hj ?_;·rw[aAS (q:=(e.thr,b,n)) he rfl rfl hv];rfl
 ·rw[h];exact(hts.2 j q hq).1.symm
theorem E9{ts:List Pb}{t:Nat}{q:Pb}(h:ts[t]?=some q):(oT ts)[t]?=some (.slice (some ⟨q.2.1,0,none⟩) q.2.2 q.2.2):=by unfold oT;rw[List.getElem?_map,h];rfl
theorem aDq{n i:Nat}(h:i<n):(Wa n i)[i]?=some sp0:=by unfold Wa;rw[List.getElem?_append_right (by simp),List.length_replicate,Nat.sub_self,List.getElem?_replicate,if_pos (by omega)]
theorem zl{n i:Nat}(h:i<n):(Wa n i).set i sp_=Wa n (i+1):=by unfold Wa;rw[List.set_append_right _ _ (by simp),List.length_replicate,Nat.sub_self,show n-i=(n-(i+1))+1 by omega,List.replicate_succ,List.set_cons_zero,List.replicate_succ',List.append_assoc];rfl
theorem xn{n i:Nat}(h:i<=n):(Wa n i).length=n:=by simp[Wa];omega
set_option maxRecDepth 100000 in
set_option maxHeartbeats 1000000 in
theorem Qq(hP:HP ls l)(h:bh w p ls pl l):Calls prog 20 #[.slice p ls.length c,.slice pl l.length cl] w λ e w'=>∃x:Yv,e=.returned (pt x.b)/\A9 ls ls.length x.ts/\SF w [] [(x.b,sD p ls.length c x)] [] (x.fr l) [] w':=by
 have hle:=hP.e;have hn8:=hP.n;refine enter func20 ntmps20 rfl rfl h.start ?_;simp only[bY]
 refine Kc1 ?_;refine bX ?_;refine bC (λ x15=>?_);refine nN ?_;refine aU ?_;refine rY (λ w hw=>hw.gN 96 1) ?_;refine Js ?_;refine Ka9 ?_;refine mE [7,8,9,18,19,20,21,22,23,24,25,26,27,28,29,30,31,32,33,34,35,36,37,38,39,40,41,42,43,44,45] (λ y:Nat×List Pb×Option Addr×Nat=>[(18,.int .i64 ((y.1:Nat):Int))]) (λ y=>y.1<=ls.length/\A9 ls y.1 y.2.1) (λ y=>[(x15,.cells ⟨[.slice p ls.length c,.slice y.2.2.1 y.2.1.length y.2.2.2]⟩ 95 (0,0))]) (λ y=>[]) (λ y=>⟨y.2.2.1,oT y.2.1,y.2.2.2,96,1⟩::y.2.1.map (ft l 0)) (λ y=>ls.length-y.1) ((0,[],none,0)) (⟨Nat.zero_le _,rfl,λ t q h=>by cases h⟩) (λ y f hx=>?_) (hw0:=λ w hw=>hw.back (hF:=aT.nil));refine K0a ?_;obtain⟨n,ts,po,co⟩:=y;replace hx:n<=ls.length/\A9 ls n ts:=hx;obtain⟨hn,hts⟩:=hx;dsimp only;refine Ka7 ?_;refine aX (λ c19=>?_) (λ c19=>?_)
 ·try (first|contradiction|(exfalso;omega))
  have hn:n<ls.length:=by omega
  have hat:=wC hn;have h16:=hP.m _ (List.getElem_mem hn);have hst:ls[n]?=some ls[n]:=List.getElem?_eq_getElem hn;generalize ls[n]=s at hat h16 hst;refine tG ?_;refine J0 ?_;refine aA (fM (k:=n) (cs:=jX ls) rf rf fU iH (.old .head) hn (by rw[qU];exact hn)) rfl ?_;refine aA (eY (q:=n) (cs:=jX ls) rf iH (.old .head) hat) rfl ?_;refine Kb7 ?_;refine cZ ?_;refine aK (vX (m:=s.l.length) (k:=s.l.length) rf rf lz (by omega) (by omega) (cs:=spC (Wa s.l.length 0)) (Kz kB (by decide) sp0 s.l.length)) (λ x24=>?_);refine Kc5 ?_;refine Ka9 ?_;refine mE [9,27,28,29,30,31,32,33,34] (λ i:Nat=>[(27,.int .i64 ((i:Nat):Int))]) (λ i=>i<=s.l.length) (λ _=>_) (λ _=>_) (λ i=>⟨some ⟨x24,0,none⟩,spC (Wa s.l.length i),s.l.length,98,10⟩::⟨po,oT ts,co,96,1⟩::ts.map (ft l 0)) (λ i=>s.l.length-i) (0) (Nat.zero_le _) (λ i f hx=>?_);refine K2b ?_;refine aX (λ c28=>?_) (λ c28=>?_)
  ·try (first|contradiction|(exfalso;omega))
   have hi:i<s.l.length:=by omega
   refine Kb4 ?_;refine J1 ?_;refine U4 ?_;refine bX ?_;refine aA (cR (f:=zE.cells) (l:=Wa s.l.length i) kB (by decide) rf rf fU cW (.own .head) hi (by rw[xn hx];exact hi)) rfl ?_;refine aM (aQ.iN (wV (f:=zE.cells) (l:=Wa s.l.length i) (k:=i) (v1:=sp_) kB rf rf rfl cW .head (aDq hi) (by decide)) nM) (λ _=>?_);refine aC ?_;refine Kb6 ?_;refine nS (i+1) ?_ (hw1:=λ w hw=>by rw[zl hi] at hw;exact hw.back (hF:=by exact aT.nil)) (hμ:=by omega);·exact hi
  ·try (first|contradiction|(exfalso;omega))
   obtain rfl:i=s.l.length:=by omega
   refine K1o ?_;refine U4 ?_;refine cA ?_;refine J3 ?_;refine aD ?_;refine aK (by exact mH λ _=>bO Rr zN rf rf rf rf E0b) (λ x41=>?_);(refine aK (aQ.eG (fS (sz:=1) (m:=ts.length) rf rf (.tail .head) (by simp[oT]) (.new .head) rfl rfl Rr rfl (by decide) fU (by have:=hts.1;omega)) nM) (λ x42=>?_);try (refine eF (λ h42=>?_)));refine O9 ?_;refine Kb6 ?_;refine nS ((n+1,ts++[(n,x24,s.l.length)],x42.1,x42.2)) ?_ (hw1:=λ w hw=>by rw[show ts.length+1=(ts++[(n,x24,s.l.length)]).length by simp] at hw;exact(jv hw).back (hF:=by exact aT.nil)) (hμ:=by show ls.length-(n+1)<_;omega);·exact⟨hn,hts.add hst x24⟩
 ·try (first|contradiction|(exfalso;omega))
  obtain rfl:n=ls.length:=by omega
  have htl:=hts.1;refine K1o ?_;refine jF ?_;refine Ka9 ?_;refine mE [10,11,12,48,49,50,51,52,53,54,55,56,57,58,59,60,61,62,63,64,65,66,67,68,69,70,71,72,73,74,75,76,77,78,79] (λ z:Nat=>[(48,.int .i64 ((z:Nat):Int))]) (λ z=>z<=l.length) (λ _=>_) (λ z=>[]) (λ z=>⟨po,oT ts,co,96,1⟩::ts.map (ft l z)) (λ z=>l.length-z) (0) (Nat.zero_le _) (λ z f hx=>?_);refine K2b ?_;refine aX (λ c49=>?_) (λ c49=>?_)
  ·try (first|contradiction|(exfalso;omega))
   have hz:z<l.length:=by omega
   obtain⟨e,he⟩:∃e,l[z]?=some e:=⟨l[z],List.getElem?_eq_getElem hz⟩;obtain⟨⟨s,hs,hi⟩,hc1,hr0⟩:=hP.ev z e he;have ht:e.thr<ls.length:=(List.getElem?_eq_some_iff.1 hs).1;have hsm:s.l.length<=16:=hP.m s (List.mem_of_getElem? hs);obtain⟨b,hb⟩:=hts.at ht hs
   have hO:mN (ts.map (ft l z)) e.thr (some ⟨b,0,none⟩) (spC (Jp l z (e.thr,b,s.l.length))) s.l.length 98 10:=mN.map hb;refine Kb4 ?_;refine aA (cR (f:=gE.cells) (l:=l) mS (by decide) rf rf fU cW (.old (.tail .head)) (by omega) (by omega)) rfl ?_;refine aA (fJ (f:=gE.cells) (l:=l) mS rf cW (.old (.tail .head)) he) rfl ?_;refine aI (λ x11=>?_);refine fD (λ _=>?_);refine aM (cK λ _=>aE rf bU rf rfl cW rf dV) (λ _=>?_);refine Bz ?_;refine gL [0,1,2,3,4,5,6,7,8,9,10,11] ?_;refine nZ ?_;refine iX ?_;refine bI (i:=6) (hq:=(fM (cs:=oT ts) rf rf fU iH (.own .head) (by omega) E0w)) (h:=?_);refine bI (i:=7) (hq:=(eY (cs:=oT ts) rf iH (.own .head) (E9 hb))) (h:=?_);refine iX ?_;refine bI (i:=10) (hq:=(cR (f:=zE.cells) (l:=Jp l z (e.thr,b,s.l.length)) kB (by decide) rf rf fU cW (.own (.tail hO)) hi (by rw[oC];exact hi))) (h:=?_);refine J7 ?_;refine gP ?_;refine aC ?_;refine aX (λ c65=>?_) (λ c65=>?_)
   ·try (first|contradiction|(exfalso;omega))
    refine eQ [(0,[]),(1,[]),(2,[]),(3,[]),(4,[]),(5,[]),(6,[]),(7,[4]),(8,[]),(9,[]),(10,[])] ?_;refine Bx ?_;refine aR ?_;refine cE ?_;refine bI (i:=4) (hq:=(cO (k:=8) (vs:=e.r.cells) rf bU cW rfl rfl)) (h:=?_);refine J4 ?_;refine fC (i:=7) (hq:=(aQ.iN (qV (f:=zE.cells) (l:=Jp l z (e.thr,b,s.l.length)) (k:=e.idx) (j:=1) (v1:=⟨(xS l z e.thr e.idx).inv,(z:Int),(xS l z e.thr e.idx).r⟩) kB rf rf rfl iH (.tail hO) (yZ hi) (by decide) rfl) nM)) (hfire:=(λ _=>by(refine aS.cons (by exact fO (hq:=cO (k:=8) (vs:=e.r.cells) rf bU cW rfl rfl)) ?_;exact aS.nil))) (h:=λ _=>?_);refine J4 ?_;refine fC (i:=10) (hq:=(aQ.iN (av (f:=zE.cells) (k:=e.idx) (j:=2) (v1:=⟨(xS l z e.thr e.idx).inv,(z:Int),e.r⟩) kB rf rf rfl cW (mN.put (.tail hO) _) (by rw[List.getElem?_set_self (by rw[oC];exact hi)]) (by show 2+8<=10;decide) (by show 0<8;decide) rfl) nM)) (h:=λ _=>?_);refine dY ?_;refine Kb6 ?_
    refine nS (z+1) ?_ (hw1:=λ w hw=>by
     have c65':=c65;try simp only[yW,List.set_set] at hw
     rw[Wg he hts hb (by simp[c65'])] at hw;exact hw.back (hF:=by exact aT.nil)) (hμ:=by omega)
    ·exact hz
   ·try (first|contradiction|(exfalso;omega))
    refine U4 ?_;refine Yn ?_;refine aM (aQ.iN (Zt (f:=zE.cells) (l:=Jp l z (e.thr,b,s.l.length)) (k:=e.idx) (v1:=⟨(z:Int),(xS l z e.thr e.idx).ret,(xS l z e.thr e.idx).r⟩) kB rf rf rfl iH (.tail hO) (yZ hi) (by decide) rfl) nM) (λ _=>?_);refine aC ?_;refine Kb6 ?_
    refine nS (z+1) ?_ (hw1:=λ w hw=>by
     have c65':=c65;try simp only[yW,List.set_set] at hw
     rw[Wg he hts hb (by simp[c65'])] at hw;exact hw.back (hF:=by exact aT.nil)) (hμ:=by omega)
    ·exact hz
  ·try (first|contradiction|(exfalso;omega))
   refine K1o ?_;refine Kc4 ?_;refine aP results20 (λ w hw=>?_);obtain rfl:z=l.length:=by omega
   have h2:=hw.Ku;rw[htl] at h2;refine⟨⟨x15,po,co,ts⟩,rfl,hts,?_⟩;refine h2.eP (hF:=aT.bA λ f hf=>?_);rcases List.mem_cons.1 hf with rfl|hf
   all_goals simp only[List.map_cons,List.map_map,List.append_nil]
   exact List.mem_cons_self;exact List.mem_cons_of_mem _ hf
end
end
section
inductive Jg(pk:Nat->ByteArray):kA->Prop where
 | put (v:Nat) (h:v=1∨v=2) (hk:(pk v).size<=64):Jg pk ⟨1,0,pk v,(v:Int),0⟩
 | look (k:ByteArray) (hk:k.size<=64):Jg pk ⟨7,0,k,0,0⟩
 | clr:Jg pk ⟨10,0,⟨#[]⟩,0,0⟩
theorem Jg.h0{pk:Nat->ByteArray}{o:kA}(h:Jg pk o):o.handle=0/\o.kind≠13:=by
 cases h;·exact⟨rfl,(by decide:(1:Int)≠13)⟩
 ·exact⟨rfl,(by decide:(7:Int)≠13)⟩
 ·exact⟨rfl,(by decide:(10:Int)≠13)⟩
def Ki(ls:List eE)(a:Nat×Nat):Option kA:=(ls[a.1]?).bind λ s=>s.l[a.2]?
theorem Cs{ls:List eE}{a:Nat×Nat}{o:kA}(h:Ki ls a=some o):∃s,ls[a.1]?=some s/\s.l[a.2]?=some o/\a.2<s.l.length:=by
 unfold Ki at h;cases hs:ls[a.1]? with
 | none=>rw[hs] at h;cases h
 | some s=>rw[hs] at h;exact⟨s,rfl,h,(List.getElem?_eq_some_iff.1 h).1⟩
theorem Vf{ls:List eE}{t i:Nat}{s:eE}(hs:ls[t]?=some s)(hi:i<s.l.length):Ki ls (t,i)=some s.l[i]:=by unfold Ki;rw[hs];exact List.getElem?_eq_getElem hi
abbrev Ee(l:List gE)(a:Nat×Nat):zE:=xS l l.length a.1 a.2
structure DP(pk:Nat->ByteArray)(ls:List eE)(l:List gE):Prop where
 hp:HP ls l
 op:∀a o,Ki ls a=some o->Jg pk o
 sp:∀a o,Ki ls a=some o->∃(i r:Nat),(Ee l a).inv=(i:Int)/\(Ee l a).ret=(r:Int)/\(Ee l a).r.err=0
abbrev Ie(x:Yv)(l:List gE)(p:Option Addr)(ls:List eE):Fr:=x.fr l++(p,jX ls)::ls.map λ s=>(s.p,iG s.l)
section
variable{w w0:World}{M:List Nat}{H:List (Nat×Obj)}{F:Fr}{O:List Ow}{D:List Nat}{x:Yv}{p:Option Addr}{c t i:Nat}{ls:List eE}{l:List gE}{a:Nat×Nat}{o:kA}{pk:Nat->ByteArray}{s:eE}
theorem wS:lQ (Ie x l p ls) x.po (oT x.ts):=.head
theorem Co{q:Pb}(h:x.ts[t]?=some q):lQ (Ie x l p ls) (some ⟨q.2.1,0,none⟩) (spC (Jp l l.length q)):=lQ.dS (List.mem_append_left _ (List.mem_cons_of_mem _ (List.mem_map.2 ⟨q,List.mem_of_getElem? h,rfl⟩)))
theorem te:lQ (Ie x l p ls) p (jX ls):=lQ.dS (List.mem_append_right _ List.mem_cons_self)
theorem sy(h:ls[t]?=some s):lQ (Ie x l p ls) s.p (iG s.l):=lQ.dS (List.mem_append_right _ (List.mem_cons_of_mem _ (List.mem_map.2 ⟨s,List.mem_of_getElem? h,rfl⟩)))
theorem kf(h:ls[t]?=some s):(jX ls)[t]?=some (.slice s.p s.l.length s.c):=by obtain⟨h1,h2⟩:=List.getElem?_eq_some_iff.1 h;rw[wC h1,h2]
theorem Bj(hts:A9 ls ls.length x.ts)(ha:Ki ls a=some o)(hs:SF w D [(x.b,sD p ls.length c x)] (Ie x l p ls) [] [] w):Calls prog 40 #[pt x.b,.agg ⟨sU a⟩] w λ e w'=>e=.returned (.agg ⟨(Ee l a).cells⟩)/\SF w D [(x.b,sD p ls.length c x)] [] [] [] w':=by
 obtain⟨s,h1,h2,h3⟩:=Cs ha;have ht:a.1<ls.length:=(List.getElem?_eq_some_iff.1 h1).1;obtain⟨b,hb⟩:=hts.at ht h1;have htl:x.ts.length=ls.length:=hts.1;refine enter func40 ntmps40 rfl rfl hs ?_;simp only[bY]
 refine K1i ?_;intro x3 x4;refine bI (i:=6) (hq:=(fM (cs:=oT x.ts) rf rf fU iH (.old wS) ht E0w)) (h:=?_);refine bI (i:=7) (hq:=(eY (cs:=oT x.ts) rf iH (.old wS) (E9 hb))) (h:=?_);refine bI (i:=8) (hq:=(jY (n:=2) (k:=1) (e:=3) rf rf (by kernel_rfl) (by kernel_rfl) (by decide))) (h:=?_);refine cJ ?_;refine bI (i:=10) (hq:=(cR (f:=zE.cells) (l:=Jp l l.length (a.1,b,s.l.length)) (k:=a.2) kB (by decide) rf rf fU cW (.old (Co hb)) h3 (by rw[oC];exact h3))) (h:=?_);refine bI (i:=11) (hq:=(fJ (f:=zE.cells) (k:=a.2) kB rf cW (.old (Co hb)) (yZ h3))) (h:=?_);refine fC (i:=12) (hq:=(cK λ _=>aE rf bU rf rfl (by kernel_rfl) rf dV)) (h:=λ _=>?_);refine dY ?_;refine wR results40 (.cell rf bU (by kernel_rfl) .nil) (λ w hw=>?_);exact⟨rfl,hw.ret E0a (aT.bA λ f hf=>hf) (List.Sublist.refl _)⟩
theorem M0(ha:Ki ls a=some o)(hs:SF w D [(x.b,sD p ls.length c x)] (Ie x l p ls) [] [] w):Calls prog 41 #[pt x.b,.agg ⟨sU a⟩] w λ e w'=>e=.returned (.agg ⟨o.cells⟩)/\SF w D [(x.b,sD p ls.length c x)] [] [] [] w':=by
 obtain⟨s,h1,h2,h3⟩:=Cs ha;have ht:a.1<ls.length:=(List.getElem?_eq_some_iff.1 h1).1;refine enter func41 ntmps41 rfl rfl hs ?_;simp only[bY]
 refine K1i ?_;intro x3 x4;refine bI (i:=6) (hq:=(fM (cs:=jX ls) rf rf fU iH (.old te) ht (by rw[qU];exact ht))) (h:=?_);refine bI (i:=7) (hq:=(eY (cs:=jX ls) rf iH (.old te) (kf h1))) (h:=?_);refine bI (i:=8) (hq:=(jY (n:=2) (k:=1) (e:=3) rf rf (by kernel_rfl) (by kernel_rfl) (by decide))) (h:=?_);refine cJ ?_;refine bI (i:=10) (hq:=(cR (f:=kA.cells) (l:=s.l) (k:=a.2) wJ (by decide) rf rf fU cW (.old (sy h1)) h3 h3)) (h:=?_);refine bI (i:=11) (hq:=(fJ (f:=kA.cells) (k:=a.2) wJ rf cW (.old (sy h1)) h2)) (h:=?_);refine fC (i:=12) (hq:=(cK λ _=>aE rf bU rf rfl (by kernel_rfl) rf dV)) (h:=λ _=>?_);refine dY ?_;refine wR results41 (.cell rf bU (by kernel_rfl) .nil) (λ w hw=>?_);exact⟨rfl,hw.ret E0a (aT.bA λ f hf=>hf) (List.Sublist.refl _)⟩
theorem Z0(hk:o.handle=0/\o.kind≠13)(ha:Ki ls a=some o)(hs:SF w D [(x.b,sD p ls.length c x)] (Ie x l p ls) [] [] w):Calls prog 42 #[pt x.b,.agg ⟨sU a⟩] w λ e w'=>e=.returned (.int .i64 0)/\SF w D [(x.b,sD p ls.length c x)] [] [] [] w':=by
 refine enter func42 ntmps42 rfl rfl hs ?_;simp only[bY];refine K1m ?_;intro x3;refine Kb7 ?_;refine K1z ?_;refine aJ (cM (φ:=λ _=>True) (V:=λ _:Unit=>.agg ⟨o.cells⟩) (hs:=[(x.b,sD p ls.length c x)]) (os:=[]) (A0:=Ie x l p ls) (hs':=λ _=>[(x.b,sD p ls.length c x)]) (os':=λ _=>[]) (Fc:=λ _=>[]) (hc:=λ w1 hw=>(M0 ha hw).mono λ _ _ ⟨e,h⟩=>⟨(),e,trivial,h⟩)) (λ x10 h10=>?_);refine aI (λ x5=>?_);refine J5 ?_;refine I9 ?_;refine Kc0 ?_;refine aX (λ c13=>?_) (λ c13=>?_)
 ·try (first|contradiction|(exfalso;omega))
  refine gP ?_;refine J1 ?_;refine aP results42 (λ w hw=>?_);exact⟨by rw[hk.1];rfl,hw.ret E0a (aT.bA λ f hf=>hf) (List.Sublist.refl _)⟩
 ·try ((exfalso;omega))
theorem Eb(s:zE)(h:s.r.err=0)(w:World):Calls prog 38 #[.agg ⟨s.cells⟩] w λ e w'=>e=.returned (.bool false)/\Ct.St w [] [] w':=by
 refine enter func38 ntmps38 rfl rfl (SF.s0 w) ?_;simp only[bY];simp only[zE.cells];refine J0 ?_;refine bC (λ x1=>?_);refine J1 ?_;refine gP ?_;refine jI ?_;refine aD ?_;(refine kT 6 (λ g6=>?_) (λ g6=>?_)<;>refine Ka1 ?_);all_goals (refine J6 ?_;refine Ja ?_;refine J1 ?_)
 all_goals
 refine aP results38 (λ w hw=>?_);exact⟨by first|rfl|(rw[h];rfl)|(simp[h,gU];done),hw.done⟩
set_option maxRecDepth 100000 in
theorem jr(hd:DP pk ls l)(hts:A9 ls ls.length x.ts)(hs:SF w D [(x.b,sD p ls.length c x)] (Ie x l p ls) [] [] w):Calls prog 21 #[pt x.b] w λ e w'=>e=.returned (.bool true)/\SF w D [(x.b,sD p ls.length c x)] [] [] [] w':=by
 have htl:x.ts.length=ls.length:=hts.1;have hn8:=hd.hp.n;refine enter func21 ntmps21 rfl rfl hs ?_;simp only[bY]
 refine kt ?_;refine zG ?_;refine Ka9 ?_;refine iI [2,3,4,5,6,12,13,14,15,16,17,18,19,20,21,22,23,24,25,26,27,28,29,30,31,32,33,34,35] (λ t:Nat=>[(12,.int .i64 ((t:Nat):Int))]) (λ t=>t<=ls.length) (λ t=>ls.length-t) (0) (Nat.zero_le _) ?_ (λ t f hx=>?_);·repeat (first|exact bH _|refine aY (by exact rfl) ?_)
 refine K2b ?_;refine aX (λ c13=>?_) (λ c13=>?_)
 ·try (first|contradiction|(exfalso;omega))
  have ht:t<ls.length:=by omega
  have hst:ls[t]?=some ls[t]:=List.getElem?_eq_getElem ht;have h16:=hd.hp.m _ (List.getElem_mem ht);generalize ls[t]=s at hst h16;obtain⟨b,hb⟩:=hts.at ht hst
  refine Kb4 ?_;refine aA (fM (cs:=oT x.ts) rf rf fU iH (.old wS) ht E0w) rfl ?_;refine aA (eY (cs:=oT x.ts) rf iH (.old wS) (E9 hb)) rfl ?_;refine J8 ?_;refine J2 ?_;refine Ka9 ?_;refine iI [2,5,6,19,20,21,22,23,24,25,26,27,28,29,30,31,32,33,34] (λ i:Nat=>[(19,.int .i64 ((i:Nat):Int))]) (λ i=>i<=s.l.length) (λ i=>s.l.length-i) (0) (Nat.zero_le _) ?_ (λ i f hx=>?_);·repeat (first|exact bH _|refine aY (by exact rfl) ?_)
  refine K2b ?_;refine aX (λ c20=>?_) (λ c20=>?_)
  ·try (first|contradiction|(exfalso;omega))
   have hi:i<s.l.length:=by omega
   obtain⟨_,_,_,_,herr⟩:=hd.sp (t,i) _ (Vf hst hi);refine K1a ?_;refine aI (λ x6=>?_);refine fD (λ _=>?_);refine J5 ?_;refine tB ?_;refine aK (cV (hc:=λ w1 hw=>Eb _ herr w1)) (λ x25=>?_);refine aD ?_;refine bG ?_;(refine bG ?_);(refine bG ?_);(refine bG ?_);((refine bG ?_));refine y7 ?_;refine aC ?_;refine aX (λ c33=>?_) (λ c33=>?_);·exact nv c33
   ·try (first|contradiction|(exfalso;omega))
    refine Kd0 ?_;refine eO (i+1) ?_ ?_ ?_;·omega
    ·repeat' (first|exact bH _|refine aY ?_ ?_)
     exact rfl
    ·exact hi
  ·try (first|contradiction|(exfalso;omega))
   refine J84 ?_;refine Ka3 ?_;refine eO (t+1) ?_ ?_ ?_;·omega
   ·repeat' (first|exact bH _|refine aY ?_ ?_)
    exact rfl
   ·exact ht
 ·try (first|contradiction|(exfalso;omega))
  refine K1o ?_;refine cC ?_;refine aP results21 (λ w hw=>?_);exact⟨rfl,hw.ret E0f (aT.bA λ f hf=>hf) (List.Sublist.refl _)⟩
end
end
section
section
variable(pk:Nat->ByteArray)
def kW(mv:List (Nat×Nat)):List MapEntry:=mv.map λ q=>⟨.string (pk q.1),.int .u64 ((q.1:Nat):Int),q.2⟩
def tK(key:ByteArray):List Nat->Option Nat
 | []=>none
 | v::c=>if pk v=key then some v else tK key c
def G4(v:Nat):List Nat->List Nat
 | []=>[v]
 | u::c=>if pk u=pk v then v::c else u::G4 v c
def qA(v k:Nat):List (Nat×Nat)->List (Nat×Nat)
 | []=>[(v,k)]
 | q::mv=>if pk q.1=pk v then(v,q.2)::mv else q::qA v k mv
def B0(o:kA)(c:List Nat):Rs×List Nat :=
 if o.kind=1 then((match tK pk o.key c with|some u=>A7 true (u:Int)|none=>A7 false 0),G4 pk o.val.toNat c)
 else if o.kind=7 then((match tK pk o.key c with|some u=>dW true (u:Int)|none=>dW false 0),c)
 else(dW true 0,[])
def Ke(o:kA)(mv:List (Nat×Nat))(k:Nat):List (Nat×Nat)×Nat :=
 if o.kind=1 then(qA pk o.val.toNat k mv,if(tK pk o.key (mv.map Prod.fst)).isSome=true then k else k+1)
 else if o.kind=7 then(mv,k)
 else([],k)
end
section
variable{pk:Nat->ByteArray}{mv:List (Nat×Nat)}{c:List Nat}{key:ByteArray}{v k:Nat}{o:kA}
theorem E7(h:pk v=key):∀(c:List Nat),tK pk key (G4 pk v c)=some v
 | []=>by simp[G4,tK,h]
 | u::c=>by
  unfold G4;split;·simp[tK,h]
  ·rename_i hu;rw[tK,if_neg (by rw[<- h];exact hu)];exact E7 h c
theorem A2(h:pk v≠key):∀(c:List Nat),tK pk key (G4 pk v c)=tK pk key c
 | []=>by simp[G4,tK,h]
 | u::c=>by
  unfold G4;split;·rename_i hu;rw[tK,if_neg h,tK,if_neg (by rw[hu];exact h)]
  ·rw[tK,tK,A2 h c]
theorem Qc:∀{c:List Nat} {u:Nat},tK pk key c=some u->u∈c/\pk u=key
 | [],_,h=>by cases h
 | x::c,u,h=>by
  unfold tK at h;split at h
  ·rename_i hx;injection h with h
   subst h;exact⟨by simp,hx⟩
  ·obtain⟨h1,h2⟩:=Qc h;exact⟨List.mem_cons_of_mem _ h1,h2⟩
theorem P7:∀{c:List Nat},tK pk key c=none->∀u∈c,pk u≠key
 | [],_,u,hu=>by cases hu
 | x::c,h,u,hu=>by
  unfold tK at h;split at h;·cases h
  ·rename_i hx;rcases List.mem_cons.1 hu with rfl|hu;·exact hx
   ·exact P7 h u hu
theorem S4(v k:Nat):∀mv:List (Nat×Nat),(qA pk v k mv).map Prod.fst=G4 pk v (mv.map Prod.fst)
 | []=>rfl
 | q::mv=>by
  simp only[qA,List.map_cons,G4];split;·rfl
  ·simp only[List.map_cons,S4 v k mv]
theorem aAo(o:kA)(mv:List (Nat×Nat))(k:Nat):(Ke pk o mv k).1.map Prod.fst=(B0 pk o (mv.map Prod.fst)).2:=by
 unfold Ke B0;split;·exact S4 _ _ _
 ·split<;>rfl
theorem aA8{a b:ByteArray}(h:a≠b):(a==b)=false:=by
 cases e:(a==b) with
 | false=>rfl
 | true=>exact absurd ((MapKept.bytes_beq a b).1 e) h
theorem aEf(a:ByteArray):(a==a)=true:=(MapKept.bytes_beq a a).2 rfl
theorem Iy:∀{mv:List (Nat×Nat)} (i:Nat),tK pk key (mv.map Prod.fst)=none->Instr.findNow .string (.string key) (kW pk mv) i=some none
 | [],_,_=>rfl
 | q::mv,i,h=>by
  simp only[List.map_cons,tK] at h;split at h;·cases h
  ·rename_i hq;show(match some (key==pk q.1) with|some true=>_|some false=>Instr.findNow .string (.string key) (kW pk mv) (i+1)|none=>_)=_;rw[aA8 λ e=>hq e.symm];exact Iy (i+1) h
theorem Hg:∀{mv:List (Nat×Nat)} (i:Nat) {u:Nat},tK pk key (mv.map Prod.fst)=some u->∃j b,Instr.findNow .string (.string key) (kW pk mv) i=some (some (i+j,.int .u64 ((u:Nat):Int)))/\mv[j]?=some (u,b)/\pk u=key/\(∀v k,pk v=key->kW pk (qA pk v k mv)=(kW pk mv).set j ⟨.string key,.int .u64 ((v:Nat):Int),b⟩)
 | [],_,_,h=>by cases h
 | q::mv,i,u,h=>by
  simp only[List.map_cons,tK] at h;split at h
  ·rename_i hq;injection h with h
   refine⟨0,q.2,?_,by rw[<- h];rfl,by rw[<- h];exact hq,λ v k hv=>?_⟩;·show(match some (key==pk q.1) with|some true=>some (some (i,Value.int .u64 ((q.1:Nat):Int)))|some false=>_|none=>_)=_;rw[hq,aEf,h];rfl
   ·simp only[qA,hv,kW,List.map_cons,List.set_cons_zero];rw[if_pos hq,List.map_cons,hv]
  ·rename_i hq;obtain⟨j,b,h1,h2,h3,h4⟩:=Hg (i+1) h;refine⟨j+1,b,?_,h2,h3,λ v k hv=>?_⟩;·show(match some (key==pk q.1) with|some true=>_|some false=>Instr.findNow .string (.string key) (kW pk mv) (i+1)|none=>_)=_;rw[aA8 λ e=>hq e.symm,show i+(j+1)=i+1+j by omega];exact h1
   ·have e:kW pk (qA pk v k (q::mv))=⟨.string (pk q.1),.int .u64 ((q.1:Nat):Int),q.2⟩::kW pk (qA pk v k mv):=by simp only[qA];rw[if_neg (λ e=>hq (e.trans hv))];rfl
    rw[e,h4 v k hv];rfl
theorem Hz:∀{mv:List (Nat×Nat)},tK pk (pk v) (mv.map Prod.fst)=none->qA pk v k mv=mv++[(v,k)]
 | [],_=>rfl
 | q::mv,h=>by
  simp only[List.map_cons,tK] at h;split at h;·cases h
  ·rename_i hq;simp only[qA];rw[if_neg hq,Hz h];rfl
structure VM(pk:Nat->ByteArray)(mv:List (Nat×Nat))(k:Nat):Prop where
 v:∀q∈mv,q.1=1∨q.1=2
 n:(mv.map λ q=>pk q.1).Nodup
 b:∀q∈mv,q.2<k
 d:(mv.map Prod.snd).Nodup
theorem VM.nil(k:Nat):VM pk [] k:=⟨λ _ h=>(by cases h),List.nodup_nil,λ _ h=>(by cases h),List.nodup_nil⟩
theorem VM.len{k:Nat}(h:VM pk mv k):mv.length<=2:=by
 match mv,h with
 | [],_=>exact Nat.zero_le _
 | [_],_=>exact Nat.le_succ 1
 | [_,_],_=>exact Nat.le_refl _
 | a::b::c::r,h=>
  have h1:=h.v a (by simp);have h2:=h.v b (by simp);have h3:=h.v c (by simp);have hn:=h.n;simp only[List.map_cons,List.nodup_cons,List.mem_cons,not_or] at hn
  exfalso;rcases h1 with h1|h1<;>rcases h2 with h2|h2<;>rcases h3 with h3|h3<;>rw[h1,h2,h3] at hn<;>simp at hn
theorem S6:∀{mv:List (Nat×Nat)} {q:Nat×Nat},q∈qA pk v k mv->q∈mv∨(q.1=v/\(q.2=k∨∃u,(u,q.2)∈mv))
 | [],q,h=>by
  rw[List.mem_singleton.1 h];exact .inr ⟨rfl,.inl rfl⟩
 | a::mv,q,h=>by
  unfold qA at h
  split at h
  ·rcases List.mem_cons.1 h with rfl|h
   ·exact .inr ⟨rfl,.inr ⟨a.1,by simp⟩⟩
   ·exact .inl (List.mem_cons_of_mem _ h)
  ·rcases List.mem_cons.1 h with rfl|h
   ·exact .inl (by simp)
   ·rcases S6 h with h|⟨h1,h2⟩
    ·exact .inl (List.mem_cons_of_mem _ h)
    ·exact .inr ⟨h1,h2.imp id λ⟨u,hu⟩=>⟨u,List.mem_cons_of_mem _ hu⟩⟩
theorem VM.put(h:VM pk mv k)(hv:v=1∨v=2):VM pk (qA pk v k mv) (if(tK pk (pk v) (mv.map Prod.fst)).isSome=true then k else k+1):=by
 cases hf:tK pk (pk v) (mv.map Prod.fst) with
 | none=>
  rw[Hz hf];have h2:=P7 hf;refine⟨λ q hq=>?_,?_,λ q hq=>?_,?_⟩
  ·rcases List.mem_append.1 hq with hq|hq;·exact h.v q hq
   ·rw[List.mem_singleton.1 hq];exact hv
  ·rw[List.map_append,List.nodup_append];refine⟨h.n,by simp,λ a ha b hb=>?_⟩;obtain⟨q,hq,rfl⟩:=List.mem_map.1 ha;rw[List.mem_singleton.1 hb];exact h2 q.1 (List.mem_map.2 ⟨q,hq,rfl⟩)
  ·rcases List.mem_append.1 hq with hq|hq;·exact Nat.lt_succ_of_lt (h.b q hq)
   ·rw[List.mem_singleton.1 hq];exact Nat.lt_succ_self k
  ·rw[List.map_append,List.nodup_append];refine⟨h.d,by simp,λ a ha b hb=>?_⟩;obtain⟨q,hq,rfl⟩:=List.mem_map.1 ha;rw[List.mem_singleton.1 hb];exact Nat.ne_of_lt (h.b q hq)
 | some u=>
  have e:∀{mv:List (Nat×Nat)},tK pk (pk v) (mv.map Prod.fst)=some u->(qA pk v k mv).map (λ q=>pk q.1)=mv.map (λ q=>pk q.1)/\(qA pk v k mv).map Prod.snd=mv.map Prod.snd:=by
   intro mv;induction mv with
   | nil=>intro h;cases h
   | cons q mv ih=>
    intro h;simp only[List.map_cons,tK] at h;simp only[qA];split;·rename_i hq;exact⟨by simp[hq],by simp⟩
    ·rename_i hq;rw[if_neg hq] at h;obtain⟨h1,h2⟩:=ih h;exact⟨by simp[h1],by simp[h2]⟩
  obtain⟨e1,e2⟩:=e hf;refine⟨λ q hq=>?_,by rw[e1];exact h.n,λ q hq=>?_,by rw[e2];exact h.d⟩
  ·rcases S6 hq with hq|⟨hq,_⟩;·exact h.v q hq
   ·rw[hq];exact hv
  ·have:q.2∈(qA pk v k mv).map Prod.snd:=List.mem_map.2 ⟨q,hq,rfl⟩;rw[e2] at this;obtain⟨q2,hq2,e3⟩:=List.mem_map.1 this;rw[<- e3];exact h.b q2 hq2
theorem VM.ap(h:VM pk mv k)(ho:Jg pk o):VM pk (Ke pk o mv k).1 (Ke pk o mv k).2:=by
 cases ho with
 | put v hv hk=>exact h.put hv
 | look key hk=>exact h
 | clr=>exact VM.nil k
end
end
end Go.Proofs.YthblobahelfefaaGreatDoor
