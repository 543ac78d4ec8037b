/- gen.Put and gen.Drop: a call that runs alone until it ends. -/
import Derived.Test.YtadnboagdhcedaaGreatDoorGEx24
import Derived.Test.YtadnboagdhcedaaGreatDoorGGa
import Derived.Test.YtadnboagdhcedaaGreatDoorGAr7

set_option linter.unusedSimpArgs false
set_option linter.unusedVariables false
namespace Go.Proofs.YtadnboagdhcedaaGreatDoor
section
open Go Go.RowKit Go.Ct
def kG(kind:Int)(key:ByteArray)(v:Int)(m:Nat):Cl:=⟨kind,⟨3,false⟩,0,0,0,0,0,(m:Int),key,v,0,0,false⟩
structure uU(k:Cl)(m:Nat)(x0:XS)(B:Nat)(y:RY):Prop extends zo k m x0 B y where
 rj:∃j,j<=y.i/\(y.dn=false->j=y.i)/\Rc j (T0 k m) x0.mm y.R y.x.mm
theorem uU.Q9{k:Cl}{m N:Nat}{x0 x':XS}{B:Nat}{N':List aK}{dn:Bool}{rs:Rs}(hN:N<1073741824)(h:A8 (T0 k m) (T0 k m) 0 0 Rs.zero x0 x' N' dn rs)(hs:Sz x0 B):∃R,uU k m x0 B ⟨0,x',N',dn,rs,R⟩:=by
 obtain⟨R',j,h1,h7,h3,h4,h5,h6⟩:=h.zy
 exact⟨R',⟨h3,⟨j,h4⟩,h5,h6,by have:=h.gl;show x'.got.length<=0;omega,Mq (xF _ m hN) h4 h1 hs⟩,⟨j,h1,h7,h4⟩⟩
theorem uU.step{k:Cl}{m:Nat}{x0 x':XS}{B:Nat}{y:RY}{N':List aK}{dn:Bool}{rs:Rs}(hi:uU k m x0 B y)(hd:y.dn=false)(hB:y.i<1073741822)(h:A8 (T0 k m) y.R 1 (y.x.got.length+1) y.rs y.x x' N' dn rs):∃R,uU k m x0 B ⟨y.i+1,x',y.N++N',dn,rs,R⟩:=by
 obtain⟨R',j,h1,h7,h3,h4,h5,h6⟩:=h.zy
 obtain⟨j0,h8,h9,hj0⟩:=hi.rj
 have hg:=hi.gl
 refine⟨R',⟨h3,⟨j0+j,hj0.trans h4⟩,by show x'.L=_;rw[h5,hi.ext,List.append_assoc],Nat.le_trans hi.lc h6,by have:=h.gl;show x'.got.length<=y.i+1;omega,?_⟩,⟨j0+j,by show _<=y.i+1;omega,λ e=>by have:=h9 hd;have:=h7 e;show _=y.i+1;omega,hj0.trans h4⟩⟩
 have:=R7 hi.ex hd (xF _ m (n:=y.x.got.length+1) (by omega)) (Nat.le_refl _) h4 h1 hi.sz
 rw[show B+64+128*(y.i+1)=B+64+128*y.i+128 by omega]
 exact this
theorem yN{p:Tr×Mm}{j:Nat}(h:(Fk p j).1.live=false):∀k,Fk p (j+k)=Fk p j:=λ k=>by
 rw[Qn]
 rcases e:Fk p j with⟨t,s⟩
 rw[e] at h
 cases t<;>first|exact Kp k|(exact nomatch (show true=false from h))
theorem uU.lt{k:Cl}{m Nf:Nat}{x0:XS}{B:Nat}{y:RY}(hi:uU k m x0 B y)(hd:y.dn=false)(hf:(Fk (Go.Ct.sG (T0 k m) x0.mm) Nf).1.live=false):y.i<Nf:=by
 obtain⟨j,_,h9,hj⟩:=hi.rj
 have e:=l7 hj
 rw[h9 hd] at e
 have hacc:y.R.acc=some y.x.nx:=by
  rcases hi.ex.du with⟨h1,_⟩|⟨_,h1⟩
  ·rw[hd] at h1;cases h1
  ·exact h1
 have hl:(Go.Ct.sG y.R y.x.mm).1.live=true:=by
  cases hR:y.R<;>rw[hR] at hacc<;>first|rfl|(simp[Tr.acc] at hacc;done)
 rcases Nat.lt_or_ge y.i Nf with h|h
 ·exact h
 ·have:=yN hf (y.i-Nf)
  rw[show Nf+(y.i-Nf)=y.i by omega,e] at this
  rw[this,hf] at hl
  cases hl
theorem uU.end{k:Cl}{m Nf:Nat}{x0:XS}{B:Nat}{y:RY}(hi:uU k m x0 B y)(hd:y.dn=true)(hf:(Fk (Go.Ct.sG (T0 k m) x0.mm) Nf).1.live=false):y.x.mm=(Fk (Go.Ct.sG (T0 k m) x0.mm) Nf).2/\y.R=.done y.rs:=by
 obtain⟨j,_,_,hj⟩:=hi.rj
 have hR:y.R=.done y.rs:=by
  rcases hi.ex.du with⟨_,h1⟩|⟨h1,_⟩
  ·exact h1
  ·rw[hd] at h1;cases h1
 have e:=l7 hj
 rw[hR] at e
 have e2:Fk (Go.Ct.sG (T0 k m) x0.mm) j=(.done y.rs,y.x.mm):=e
 refine⟨?_,hR⟩
 rcases Nat.le_total j Nf with h|h
 ·have:=yN (p:=Go.Ct.sG (T0 k m) x0.mm) (j:=j) (by rw[e2];rfl) (Nf-j)
  rw[show j+(Nf-j)=Nf by omega,e2] at this
  rw[this]
 ·have:=yN hf (j-Nf)
  rw[show Nf+(j-Nf)=j by omega,e2] at this
  rw[<- this]
section
variable{bm:Nat}{L:List aK}{cs:List Int}{gen acc:Int}{pn pc:Option Addr}{cn cc:Nat}{D:List Nat}{A:Fr}{w:World}
set_option maxHeartbeats 1000000 in
theorem qt{m Nf B:Nat}{key:ByteArray}{v:Int}(hm:m<18446744073709551616)(hB:B+128*Nf<=100000000000)(hN:Nf<=1048576)(hsz:Sz (XS.new L cs gen acc pn cn pc cc) B)(hl:L.length<=100000000000)(ok:(XS.new L cs gen acc pn cn pc cc).Ok)(hf:(Fk (Go.Ct.sG (T0 (kG 8 key v m) m) ⟨L.map aK.c,cs,gen⟩) Nf).1.live=false)(hA:∀f∈aY L,f∈A)
  (hs:SF w D [(bm,mO L cs gen acc pn cn pc cc)] A [] (mW L cs pn cn pc cc) w) :
  Calls Tryz.prog 16 #[.pointer (some ⟨bm,0,none⟩),.agg ⟨[.int .i64 3,.bool false]⟩,.int .u64 ((m:Nat):Int),.string key,.int .u64 v] w λ e w'=>∃y:RY,e=.returned (.tuple #[])/\(uU (kG 8 key v m) m (XS.new L cs gen acc pn cn pc cc) B y/\y.dn=true/\y.i<=Nf)/\SF w D [(bm,xM y.x)] [] (aY y.N) (mW y.x.L y.x.cs y.x.pn y.x.cn y.x.pc y.x.cc) w':=by
 have hL:(0:Int)<=L.length:=bE _
 have hsz2:=hsz
 obtain⟨s1,s2,s3⟩:=hsz2
 simp only[XS.new] at s1 s2 s3
 have hkk:Z1 (kG 8 key v m):=.inr ⟨by show(7:Int)<=8;decide,by show(8:Int)<=12;decide⟩
 have em:(kG 8 key v m).mask=(m:Int):=rfl
 have hkt:(kG 8 key v m).t.root<=9223372036854775807:=by show(3:Int)<=9223372036854775807;decide
 have ha:(kG 8 key v m).a=0:=rfl
 have hb:(kG 8 key v m).b=0:=rfl
 have hnn:(kG 8 key v m).n=0:=rfl
 refine enter Tryz.func16 Tryz.ntmps16 rfl rfl (rN hs) ?_
 simp only[cR]
 refine J0 ?_;refine bP (λ x6=>?_);refine aI ?_;refine Ka9 ?_;refine nB ?_;refine aB ?_;refine bD ?_;refine aC (z8 (hs:=[(bm,mO L cs gen acc pn cn pc cc)]) (os:=mW L cs pn cn pc cc) (A0:=aY L) (hA:=bT.of λ f hf=>.inr (.inl (hA f hf))) (hc:=λ w hs=>Lx (k:=(kG 8 key v m)) (m:=m) ⟨by omega,by omega,by omega⟩ hkk hm em hkt (by omega) (by omega) (by omega) (λ f hf=>hf) ok hs)) (λ x17 h17=>?_);refine J1 ?_;refine bV ?_
 obtain⟨R0,hR0⟩:=uU.Q9 (B:=B) (N:=0) (by decide) h17 hsz
 refine mP [18,19,20,21,22] (λ _:RY=>[]) (λ y=>uU (kG 8 key v m) m (XS.new L cs gen acc pn cn pc cc) B y/\y.i<=Nf) (λ y=>[(x17.1,xO (kG 8 key v m) bm y.x y.dn y.rs),(bm,xM y.x)]) (λ y=>aY y.N) (λ y=>[⟨y.x.pg,aG y.x.got,y.x.kg,62,1⟩,⟨y.x.pm,aG y.x.made,y.x.km,62,1⟩,⟨y.x.pl,aG y.x.cel,y.x.kl,27,1⟩,⟨y.x.pe,aG y.x.gns,y.x.ke,3,1⟩,⟨y.x.pn,jC y.x.L,y.x.cn,77,14⟩,⟨y.x.pc,aG y.x.cs,y.x.cc,62,1⟩]) (λ y=>Nf-y.i) (⟨0,x17.2.1,x17.2.2.1,x17.2.2.2.1,x17.2.2.2.2,R0⟩) (⟨hR0,Nat.zero_le _⟩) (λ y f hx=>?_) (hw0:=λ w hw=>by rw[List.append_nil] at hw;exact hw.back (hH:=.cons_cons _ (.cons _ (.cons_cons _ (List.Sublist.refl _)))) (hF:=by exact aX.all))
 dsimp only[gG,List.map,List.cons_append,List.nil_append]
 obtain⟨hi,his⟩:=hx
 have hsx:=hi.sz
 obtain⟨z1,z2,z3⟩:=hsx
 have hgl:=hi.gl
 refine kT ?_;refine aC (cM (hs:=xH (kG 8 key v m) x17.1 bm y.x y.dn y.rs) (os:=xW y.x) (hc:=λ w hs=>W1 hs)) (λ x19 h19=>?_);refine lX ?_
 refine aZ (λ c20=>?_) (λ c20=>?_)
 ·refine bA ?_;refine bV ?_;refine yB ?_;refine aC (cM (hs:=xH (kG 8 key v m) x17.1 bm y.x y.dn y.rs) (os:=xW y.x) (A0:=aY y.x.L) (hA:=bT.of λ f hf=>by rw[hi.ext,dL] at hf;rcases List.mem_append.1 hf with hf|hf;exact .inr (.inl (hA f hf));exact .inr (.inr (.inl hf))) (hc:=λ w hs=>Ve (N:=y.x.got.length+1) (n:=1073741824) (m:=m) (xF _ m (by omega)) (by omega) rfl ⟨by omega,by omega,by omega⟩ hi.ex hkk (Nat.le_refl _) hm em hkt (by rw[ha];exact bE _) (by rw[hb];exact bE _) (by rw[hnn];exact bE _) (λ f hf=>hf) hs)) (λ x22 h22=>?_);refine aI ?_;refine eV ?_
  have hdf:y.dn=false:=by simp_all
  have hlt:y.i<Nf:=hi.lt hdf hf
  have hq:A8 (T0 (kG 8 key v m) m) y.R 1 (y.x.got.length+1) y.rs y.x x22.1 x22.2.1 x22.2.2.1 x22.2.2.2:=by rcases h22 with h|h;rw[hdf] at h;cases h.1;exact h.2
  obtain⟨R1,hR1⟩:=hi.step hdf (by omega) hq
  refine gI (⟨y.i+1,x22.1,y.N++x22.2.1,x22.2.2.1,x22.2.2.2,R1⟩) ?_ (hw1:=λ w hw=>hw.back (hF:=by rw[dL];exact aX.pD λ f hf=>(List.mem_append.1 hf).elim (λ h=>List.mem_append_right _ h) (λ h=>List.mem_append_left _ h)))
  ·exact⟨hR1,by show y.i+1<=Nf;omega⟩
 ·refine bG rfl ?_
  refine G5 Tryz.results16 (λ w hw=>?_)
  have hdt:y.dn=true:=by simp_all
  exact⟨y,rfl,⟨hi,hdt,his⟩,hw.z7⟩
set_option maxHeartbeats 1000000 in
theorem ay{m Nf B:Nat}{key:ByteArray}(hm:m<18446744073709551616)(hB:B+128*Nf<=100000000000)(hN:Nf<=1048576)(hsz:Sz (XS.new L cs gen acc pn cn pc cc) B)(hl:L.length<=100000000000)(ok:(XS.new L cs gen acc pn cn pc cc).Ok)(hf:(Fk (Go.Ct.sG (T0 (kG 9 key 0 m) m) ⟨L.map aK.c,cs,gen⟩) Nf).1.live=false)(hA:∀f∈aY L,f∈A)
  (hs:SF w D [(bm,mO L cs gen acc pn cn pc cc)] A [] (mW L cs pn cn pc cc) w) :
  Calls Tryz.prog 17 #[.pointer (some ⟨bm,0,none⟩),.agg ⟨[.int .i64 3,.bool false]⟩,.int .u64 ((m:Nat):Int),.string key] w λ e w'=>∃y:RY,e=.returned (.tuple #[])/\(uU (kG 9 key 0 m) m (XS.new L cs gen acc pn cn pc cc) B y/\y.dn=true/\y.i<=Nf)/\SF w D [(bm,xM y.x)] [] (aY y.N) (mW y.x.L y.x.cs y.x.pn y.x.cn y.x.pc y.x.cc) w':=by
 have hL:(0:Int)<=L.length:=bE _
 have hsz2:=hsz
 obtain⟨s1,s2,s3⟩:=hsz2
 simp only[XS.new] at s1 s2 s3
 have hkk:Z1 (kG 9 key 0 m):=.inr ⟨by show(7:Int)<=9;decide,by show(9:Int)<=12;decide⟩
 have em:(kG 9 key 0 m).mask=(m:Int):=rfl
 have hkt:(kG 9 key 0 m).t.root<=9223372036854775807:=by show(3:Int)<=9223372036854775807;decide
 have ha:(kG 9 key 0 m).a=0:=rfl
 have hb:(kG 9 key 0 m).b=0:=rfl
 have hnn:(kG 9 key 0 m).n=0:=rfl
 refine enter Tryz.func17 Tryz.ntmps17 rfl rfl (rN hs) ?_
 simp only[cR]
 refine J0 ?_;refine bP (λ x5=>?_);refine aI ?_;refine Ka9 ?_;refine nB ?_;refine bD ?_;refine aC (z8 (hs:=[(bm,mO L cs gen acc pn cn pc cc)]) (os:=mW L cs pn cn pc cc) (A0:=aY L) (hA:=bT.of λ f hf=>.inr (.inl (hA f hf))) (hc:=λ w hs=>Lx (k:=(kG 9 key 0 m)) (m:=m) ⟨by omega,by omega,by omega⟩ hkk hm em hkt (by omega) (by omega) (by omega) (λ f hf=>hf) ok hs)) (λ x14 h14=>?_);refine J1 ?_;refine bV ?_
 obtain⟨R0,hR0⟩:=uU.Q9 (B:=B) (N:=0) (by decide) h14 hsz
 refine mP [15,16,17,18,19] (λ _:RY=>[]) (λ y=>uU (kG 9 key 0 m) m (XS.new L cs gen acc pn cn pc cc) B y/\y.i<=Nf) (λ y=>[(x14.1,xO (kG 9 key 0 m) bm y.x y.dn y.rs),(bm,xM y.x)]) (λ y=>aY y.N) (λ y=>[⟨y.x.pg,aG y.x.got,y.x.kg,62,1⟩,⟨y.x.pm,aG y.x.made,y.x.km,62,1⟩,⟨y.x.pl,aG y.x.cel,y.x.kl,27,1⟩,⟨y.x.pe,aG y.x.gns,y.x.ke,3,1⟩,⟨y.x.pn,jC y.x.L,y.x.cn,77,14⟩,⟨y.x.pc,aG y.x.cs,y.x.cc,62,1⟩]) (λ y=>Nf-y.i) (⟨0,x14.2.1,x14.2.2.1,x14.2.2.2.1,x14.2.2.2.2,R0⟩) (⟨hR0,Nat.zero_le _⟩) (λ y f hx=>?_) (hw0:=λ w hw=>by rw[List.append_nil] at hw;exact hw.back (hH:=.cons_cons _ (.cons _ (.cons_cons _ (List.Sublist.refl _)))) (hF:=by exact aX.all))
 dsimp only[gG,List.map,List.cons_append,List.nil_append]
 obtain⟨hi,his⟩:=hx
 have hsx:=hi.sz
 obtain⟨z1,z2,z3⟩:=hsx
 have hgl:=hi.gl
 refine kT ?_;refine aC (cM (hs:=xH (kG 9 key 0 m) x14.1 bm y.x y.dn y.rs) (os:=xW y.x) (hc:=λ w hs=>W1 hs)) (λ x16 h16=>?_);refine lX ?_
 refine aZ (λ c17=>?_) (λ c17=>?_)
 ·refine bA ?_;refine bV ?_;refine yB ?_;refine aC (cM (hs:=xH (kG 9 key 0 m) x14.1 bm y.x y.dn y.rs) (os:=xW y.x) (A0:=aY y.x.L) (hA:=bT.of λ f hf=>by rw[hi.ext,dL] at hf;rcases List.mem_append.1 hf with hf|hf;exact .inr (.inl (hA f hf));exact .inr (.inr (.inl hf))) (hc:=λ w hs=>Ve (N:=y.x.got.length+1) (n:=1073741824) (m:=m) (xF _ m (by omega)) (by omega) rfl ⟨by omega,by omega,by omega⟩ hi.ex hkk (Nat.le_refl _) hm em hkt (by rw[ha];exact bE _) (by rw[hb];exact bE _) (by rw[hnn];exact bE _) (λ f hf=>hf) hs)) (λ x19 h19=>?_);refine aI ?_;refine eV ?_
  have hdf:y.dn=false:=by simp_all
  have hlt:y.i<Nf:=hi.lt hdf hf
  have hq:A8 (T0 (kG 9 key 0 m) m) y.R 1 (y.x.got.length+1) y.rs y.x x19.1 x19.2.1 x19.2.2.1 x19.2.2.2:=by rcases h19 with h|h;rw[hdf] at h;cases h.1;exact h.2
  obtain⟨R1,hR1⟩:=hi.step hdf (by omega) hq
  refine gI (⟨y.i+1,x19.1,y.N++x19.2.1,x19.2.2.1,x19.2.2.2,R1⟩) ?_ (hw1:=λ w hw=>hw.back (hF:=by rw[dL];exact aX.pD λ f hf=>(List.mem_append.1 hf).elim (λ h=>List.mem_append_right _ h) (λ h=>List.mem_append_left _ h)))
  ·exact⟨hR1,by show y.i+1<=Nf;omega⟩
 ·refine bG rfl ?_
  refine G5 Tryz.results17 (λ w hw=>?_)
  have hdt:y.dn=true:=by simp_all
  exact⟨y,rfl,⟨hi,hdt,his⟩,hw.z7⟩
end
end

/- Views: the root of a trie, the main node of an I-node. -/
end Go.Proofs.YtadnboagdhcedaaGreatDoor
namespace Go.Ct
section
open Go Go.RowKit
theorem hY.Db{L:List aK}{cs:List Int}{pn pc:Option Addr}{w w0:World}{M:List Nat}{H:List (Nat×Obj)}{F:Fr}{O:List Ow}(h:hY w0 L cs pn pc)(hw:SF w0 M H ((pn,jC L)::(pc,aG cs)::aY L) F O w):hY w L cs pn pc:=hw.vS (.inr (.inl (.head _))) (.inr (.inl (.tail _ (.head _)))) (λ f hf=>.inr (.inl (.tail _ (.tail _ hf)))) h.fit
theorem cH(L:List aK)(r:Int):cD (L.map aK.c) r=(aA L r).c:=(Hu L r).symm
end
end Go.Ct
namespace Go.Proofs.YtadnboagdhcedaaGreatDoor
section
open Go Go.RowKit Go.Ct
section
variable{L:List aK}{cs:List Int}{gen:Int}{pn pc:Option Addr}{cn cc:Nat}{w:World}
abbrev rF(L:List aK)(cs:List Int)(gen:Int)(pn:Option Addr)(cn:Nat)(pc:Option Addr)(cc:Nat):Value:=.agg ⟨[.slice pn L.length cn,.slice pc cs.length cc,.int .i64 gen]⟩
theorem mx(h:hY w L cs pn pc)(r:Int)(hr:r<1):Calls Tryz.prog 70 #[rF L cs gen pn cn pc cc,.int .i64 r] w λ e w'=>e=.returned (aA L r).nd.v/\St w [] [] w':=by
 refine enter Tryz.func70 Tryz.ntmps70 rfl rfl h.start ?_
 simp only[cR]
 refine J0 ?_;refine bP (λ x2=>?_);refine aP (λ x4=>?_);refine aI ?_;refine kT ?_;refine Gq ?_
 (refine eR 7 (λ g7=>?_) (λ g7=>?_)<;>(try (exfalso;omega))<;>(refine aH ?_))
 refine Uf ?_;refine Kc1 ?_
 refine aZ (λ c13=>?_) (λ c13=>?_)
 ·try (exfalso;omega)
  refine J0 ?_;refine yH ?_
  refine bJ Tryz.results70 (λ w hw=>?_)
  exact⟨by rw[xJ (by omega)];rfl,hw.done⟩
 ·exact nv c13
theorem oo(h:hY w L cs pn pc){k:Nat}(hk:(k:Int)<9223372036854775807)(hl:L.length<=274877906944):Calls Tryz.prog 70 #[rF L cs gen pn cn pc cc,.int .i64 ((k+1:Nat):Int)] w λ e w'=>e=.returned (aA L ((k+1:Nat):Int)).nd.v/\St w [] [] w':=by
 refine enter Tryz.func70 Tryz.ntmps70 rfl rfl h.start ?_
 simp only[cR]
 refine J0 ?_;refine bP (λ x2=>?_);refine aP (λ x4=>?_);refine aI ?_;refine kT ?_;refine Gq ?_
 (refine Ka3 ?_)
 refine Uf ?_;refine Kc1 ?_
 refine aZ (λ c13=>?_) (λ c13=>?_)
 ·try (exfalso;omega)
  refine J0 ?_;refine yH ?_
  refine bJ Tryz.results70 (λ w hw=>?_)
  (exact⟨by rw[xJ (by omega)];rfl,hw.done⟩)
 ·try (exfalso;omega)
  refine bA ?_;refine gN ?_;refine aB ?_;refine oP ?_;refine Ue ?_;refine J5 ?_
  refine bJ Tryz.results70 (λ w hw=>?_)
  (exact⟨by rw[fH (by omega)];rfl,hw.done⟩)
theorem rG(h:hY w L cs pn pc)(r:Int)(hr:r<=9223372036854775807)(hl:L.length<=274877906944):Calls Tryz.prog 70 #[rF L cs gen pn cn pc cc,.int .i64 r] w λ e w'=>e=.returned (aA L r).nd.v/\St w [] [] w':=by
 rcases Int.lt_or_le r 1 with h1|h1
 ·exact mx h r h1
 ·obtain⟨k,rfl⟩:∃k:Nat,r=((k+1:Nat):Int):=⟨(r-1).toNat,by omega⟩
  exact oo h (by omega) hl
theorem Zw(h:hY w L cs pn pc)(r:Int)(hr:r<1):Calls Tryz.prog 69 #[rF L cs gen pn cn pc cc,.int .i64 r] w λ e w'=>e=.returned (.int .i64 (bW cs r))/\St w [] [] w':=by
 refine enter Tryz.func69 Tryz.ntmps69 rfl rfl h.start ?_
 simp only[cR]
 refine J0 ?_;refine bP (λ x2=>?_);refine gK ?_;refine J2 ?_;refine Gq ?_
 (refine eR 7 (λ g7=>?_) (λ g7=>?_)<;>(try (exfalso;omega))<;>(refine aH ?_))
 refine Uf ?_;refine Kc1 ?_
 refine aZ (λ c13=>?_) (λ c13=>?_)
 ·try (exfalso;omega)
  refine cN ?_
  refine aN Tryz.results69 (λ w hw=>?_)
  exact⟨by rw[wY (by omega)];rfl,hw.done⟩
 ·exact nv c13
theorem U1(h:hY w L cs pn pc){k:Nat}(hk:(k:Int)<9223372036854775807)(hl:cs.length<=274877906944):Calls Tryz.prog 69 #[rF L cs gen pn cn pc cc,.int .i64 ((k+1:Nat):Int)] w λ e w'=>e=.returned (.int .i64 (bW cs ((k+1:Nat):Int)))/\St w [] [] w':=by
 refine enter Tryz.func69 Tryz.ntmps69 rfl rfl h.start ?_
 simp only[cR]
 refine J0 ?_;refine bP (λ x2=>?_);refine gK ?_;refine J2 ?_;refine Gq ?_
 (refine Ka3 ?_)
 refine Uf ?_;refine Kc1 ?_
 refine aZ (λ c13=>?_) (λ c13=>?_)
 ·try (exfalso;omega)
  refine cN ?_
  refine aN Tryz.results69 (λ w hw=>?_)
  (exact⟨by rw[wY (by omega)];rfl,hw.done⟩)
 ·try (exfalso;omega)
  refine bA ?_;refine gN ?_;refine aB ?_;refine oP ?_;refine Ue ?_;refine J1 ?_
  refine aN Tryz.results69 (λ w hw=>?_)
  (exact⟨by rw[Bx (by omega)];rfl,hw.done⟩)
theorem A9(h:hY w L cs pn pc)(r:Int)(hr:r<=9223372036854775807)(hl:cs.length<=274877906944):Calls Tryz.prog 69 #[rF L cs gen pn cn pc cc,.int .i64 r] w λ e w'=>e=.returned (.int .i64 (bW cs r))/\St w [] [] w':=by
 rcases Int.lt_or_le r 1 with h1|h1
 ·exact Zw h r h1
 ·obtain⟨k,rfl⟩:∃k:Nat,r=((k+1:Nat):Int):=⟨(r-1).toNat,by omega⟩
  exact U1 h (by omega) hl
structure uf(L:List aK)(cs:List Int):Prop where
 cs:∀c,bW cs c<=9223372036854775807
 bL:∀r,(aA L r).nd.bL<=9223372036854775807
 new:∀r,(aA L r).nd.new<=9223372036854775807
 main:∀r,(aA L r).nd.main<=9223372036854775807
 prev:∀r,(aA L r).nd.prev<=9223372036854775807
 status:∀r,(aA L r).nd.status<=9223372036854775807
 br:∀r,∀b∈(aA L r).xs,b<=9223372036854775807
theorem b8(h:hY w L cs pn pc)(hb:uf L cs)(hl:L.length<=274877906944)(hc:cs.length<=274877906944)(i:Int)(hi:i<=9223372036854775807):Calls Tryz.prog 95 #[rF L cs gen pn cn pc cc,.int .i64 i] w λ e w'=>e=.returned (.tuple #[.int .i64 ((eA (L.map aK.c) cs i).getD 0),.bool (eA (L.map aK.c) cs i).isSome])/\St w [] [] w':=by
 refine enter Tryz.func95 Tryz.ntmps95 rfl rfl h.start ?_
 simp only[cR]
 simp only[rF]
 refine J0 ?_;refine bP (λ x2=>?_);refine J8 ?_;refine Az ?_;refine aR (cV (hc:=λ w1 hw=>rG (h.Db hw) i hi hl)) (λ x12=>?_);refine aP (λ x6=>?_);refine J5 ?_;refine yU ?_;refine Kb7 ?_
 refine aZ (λ c15=>?_) (λ c15=>?_)
 ·refine Es ?_
  refine bJ Tryz.results95 (λ w hw=>?_)
  refine⟨?_,hw.done⟩
  unfold eA lY iE nS
  simp only[cH,bU,aK.c,Nd.c]
  simp_all
  rfl
 ·refine bA ?_;refine kU ?_;refine J3 ?_;refine aR (cV (hc:=λ w1 hw=>A9 (h.Db hw) (aA L i).nd.main (hb.main i) hc)) (λ x19=>?_);refine gK ?_;refine Az ?_;refine aR (cV (hc:=λ w1 hw=>rG (h.Db hw) (bW cs (aA L i).nd.main) (hb.cs _) hl)) (λ x22=>?_);refine aC (c0 (V:=.bool) (hc:=λ w1 hw=>Du _ w1)) (λ x23 h23=>?_);refine lX ?_
  refine aZ (λ c24=>?_) (λ c24=>?_)
  ·refine Es ?_
   refine bJ Tryz.results95 (λ w hw=>?_)
   refine⟨?_,hw.done⟩
   unfold eA lY iE nS
   simp only[cH,bU,aK.c,Nd.c]
   simp_all
   rfl
  ·refine jD ?_;refine eD [(0,[]),(1,[]),(2,[]),(3,[0]),(4,[]),(5,[]),(6,[])] ?_;refine bN ?_;refine bN ?_;refine aT ?_;refine dG (i:=3) (hq:=(cV (hc:=λ w1 hw=>rG (h.Db hw) (bW cs (aA L i).nd.main) (hb.cs _) hl))) (h:=λ x28=>?_);refine Bj ?_;refine dG (i:=5) (hq:=(cV (hc:=λ w1 hw=>A9 (h.Db hw) (aA L (bW cs (aA L i).nd.main)).nd.prev (hb.prev _) hc))) (h:=λ x30=>?_);refine J7 ?_;refine kT ?_;refine rR ?_
   refine aZ (λ c32=>?_) (λ c32=>?_)
   ·refine J2 ?_;refine J8 ?_
    refine bJ Tryz.results95 (λ w hw=>?_)
    refine⟨?_,hw.done⟩
    unfold eA lY iE nS
    simp only[cH,bU,aK.c,Nd.c]
    simp_all
    rfl
   ·refine jD ?_;refine Az ?_;refine aR (cV (hc:=λ w1 hw=>rG (h.Db hw) (bW cs (aA L (bW cs (aA L i).nd.main)).nd.prev) (hb.cs _) hl)) (λ x36=>?_);refine aP (λ x9=>?_);refine J5 ?_;refine gN ?_;refine rR ?_
    refine aZ (λ c39=>?_) (λ c39=>?_)
    ·refine dO ?_;refine J3 ?_;refine gK ?_;refine Az ?_;refine aR (cV (hc:=λ w1 hw=>rG (h.Db hw) _ (by exact hb.bL _) hl)) (λ x44=>?_);refine aC (c0 (V:=.bool) (hc:=λ w1 hw=>Du _ w1)) (λ x45 h45=>?_);refine lX ?_
     refine aZ (λ c46=>?_) (λ c46=>?_)
     ·refine Es ?_
      refine bJ Tryz.results95 (λ w hw=>?_)
      refine⟨?_,hw.done⟩
      unfold eA lY iE nS
      simp only[cH,bU,aK.c,Nd.c]
      simp_all
      rfl
     ·refine bA ?_;refine J2 ?_;refine J8 ?_
      refine bJ Tryz.results95 (λ w hw=>?_)
      refine⟨?_,hw.done⟩
      unfold eA lY iE nS
      simp only[cH,bU,aK.c,Nd.c]
      simp_all
      rfl
    ·refine jD ?_;refine Az ?_;refine aR (cV (hc:=λ w1 hw=>rG (h.Db hw) _ (by exact hb.cs _) hl)) (λ x44=>?_);refine aC (c0 (V:=.bool) (hc:=λ w1 hw=>Du _ w1)) (λ x45 h45=>?_);refine lX ?_
     refine aZ (λ c46=>?_) (λ c46=>?_)
     ·refine Es ?_
      refine bJ Tryz.results95 (λ w hw=>?_)
      refine⟨?_,hw.done⟩
      unfold eA lY iE nS
      simp only[cH,bU,aK.c,Nd.c]
      simp_all
      rfl
     ·refine bA ?_;refine J2 ?_;refine J8 ?_
      refine bJ Tryz.results95 (λ w hw=>?_)
      refine⟨?_,hw.done⟩
      unfold eA lY iE nS
      simp only[cH,bU,aK.c,Nd.c]
      simp_all
      rfl
end
end

end Go.Proofs.YtadnboagdhcedaaGreatDoor
