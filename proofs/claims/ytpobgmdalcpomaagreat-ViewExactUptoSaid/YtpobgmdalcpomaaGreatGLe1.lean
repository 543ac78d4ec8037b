/- The order of keys. -/
import Derived.Test.YtpobgmdalcpomaaGreatGBr5
import Derived.Test.YtpobgmdalcpomaaGreatGKw6
import Derived.Test.YtpobgmdalcpomaaGreatGVw6
import Derived.Test.YtpobgmdalcpomaaGreatGPc2
import Derived.Test.YtpobgmdalcpomaaGreatGJoin
import Derived.Test.YtpobgmdalcpomaaGreatGAr9
import Derived.Test.YtpobgmdalcpomaaGreatGAr2
import Derived.Test.YtpobgmdalcpomaaGreatGOpen
import Derived.Test.YtpobgmdalcpomaaGreatWo7
import Derived.Test.YtpobgmdalcpomaaGreatGR95

set_option linter.unusedSimpArgs false
set_option linter.unusedVariables false
namespace Go.Ct
section
open Go Go.RowKit
def aAa(h:Nat)(a:ByteArray)(k:Nat)(b:ByteArray):Bool:=if kX h k<11 then decide (sl h (kX h k)<sl k (kX h k)) else eC a b
end
end Go.Ct
namespace Go.Proofs.YtpobgmdalcpomaaGreat
section
open Go Go.RowKit Go.Ct
end

/- Tries that keep the labels: their I-nodes and their contents. -/
section
open Go.RowKit Go.Ct
section
variable{H:ByteArray->Nat}{σ:Kw}{i m p g:Int}{w:List Nat}{t:iV}
end
end

/- Views: the sanity check. -/
end Go.Proofs.YtpobgmdalcpomaaGreat
namespace Go.Ct
section
def ub:List Nv:=[dE.c,dE.c,eN (({Nd.zero with kind:=4,hash:=3,key:=⟨#[97]⟩,val:=9}:Nd).c [] []) 0,eN (({Nd.zero with kind:=3,bm:=8}:Nd).c [3] []) 0,eN (({Nd.zero with kind:=2,gen:=1}:Nd).c [] []) 1]
theorem wh:BV 8 [3]:=⟨by decide,by decide,λ i hi=>by
 have:i=0:=by simp at hi;omega
 subst this
 decide⟩
theorem Vq:fY ub [0,4,5] 1:=by
 have h0:=B2 (gen:=1) (by decide)
 have h1:=h0.push (init:=0) (n:=({Nd.zero with kind:=4,hash:=3,key:=⟨#[97]⟩,val:=9}:Nd).c [] []) (G4 (by decide) (by decide)) ⟨by decide,by decide⟩
 have h2:=h1.push (init:=0) (n:=({Nd.zero with kind:=3,bm:=8}:Nd).c [3] []) (N5 (b:=8) (by decide) wh (λ r hr=>by rw[List.mem_singleton.1 hr];decide)) ⟨by decide,by decide⟩
 have h3:=h2.push (init:=4) (n:=({Nd.zero with kind:=2,gen:=1}:Nd).c [] []) (M1 (by decide) (by decide)) ⟨by decide,by decide⟩
 exact h3.cell (init:=5) ⟨by decide,by decide⟩
theorem jx:fU ub [0,4,5] 3=some 5:=by decide +kernel
theorem tm:zY ub [0,4,5] 12 5 []=some [5]:=by decide +kernel
theorem s5:yW ub [0,4,5] 12 5=[(⟨#[97]⟩,9)]:=by decide +kernel
end
end Go.Ct
namespace Go.Proofs.YtpobgmdalcpomaaGreat
section
open Go Go.RowKit Go.Ct
theorem Sl{L:List aQ}(hL:L.map aQ.c=ub):nN L [0,4,5] 1 3=some [5]:=by
 rw[zC (Vq.to hL),hL,jx]
 exact tm
abbrev Wc(x1 x2 x3:AX):List aQ:=[dE,dE,gK {Nd.zero with kind:=4,hash:=3,key:=⟨#[97]⟩,val:=9} [] [] 0 x1,gK {Nd.zero with kind:=3,bm:=8} [3] [] 0 x2,gK {Nd.zero with kind:=2,gen:=1} [] [] 1 x3]
theorem nj(x1 x2 x3:AX):(Wc x1 x2 x3).map aQ.c=ub:=rfl
theorem Rm(x1 x2 x3:AX):Fits (Wc x1 x2 x3):=λ v hv=>by
 simp only[List.mem_cons,List.not_mem_nil,or_false] at hv
 rcases hv with rfl|rfl|rfl|rfl|rfl
 ·exact Mj
 ·exact Mj
 ·exact A7 (by decide) (by decide)
 ·exact A7 (by decide) (by decide)
 ·exact A7 (by decide) (by decide)
theorem Sj(x1 x2 x3:AX):lD (Wc x1 x2 x3):=λ v hv=>by
 simp only[List.mem_cons,List.not_mem_nil,or_false] at hv
 rcases hv with rfl|rfl|rfl|rfl|rfl
 ·exact⟨⟨0,rfl,by decide⟩,by simp[gK,dE,Nd.zero],by simp[gK,dE,Nd.zero],by simp[gK,dE,Nd.zero]⟩
 ·exact⟨⟨0,rfl,by decide⟩,by simp[gK,dE,Nd.zero],by simp[gK,dE,Nd.zero],by simp[gK,dE,Nd.zero]⟩
 ·exact⟨⟨0,rfl,by decide⟩,by simp[gK,dE,Nd.zero],by simp[gK,dE,Nd.zero],by simp[gK,dE,Nd.zero]⟩
 ·exact⟨⟨8,rfl,by decide⟩,by simp[gK,dE,Nd.zero],by simp[gK,dE,Nd.zero],by simp[gK,dE,Nd.zero]⟩
 ·exact⟨⟨0,rfl,by decide⟩,by simp[gK,dE,Nd.zero],by simp[gK,dE,Nd.zero],by simp[gK,dE,Nd.zero]⟩
theorem Sc{x1 x2 x3:AX}{A F:Fr}{O:List Ow}(h1:∀f∈(gK {Nd.zero with kind:=4,hash:=3,key:=⟨#[97]⟩,val:=9} [] [] 0 x1).fr,f∈F)(h2:∀f∈(gK {Nd.zero with kind:=3,bm:=8} [3] [] 0 x2).fr,f∈F)(h3:∀f∈(gK {Nd.zero with kind:=2,gen:=1} [] [] 1 x3).fr,f∈F):∀f∈bG (Wc x1 x2 x3),Has A F O f:=λ f hf=>by
 obtain⟨v,hv,hf⟩:=nM.1 hf
 simp only[List.mem_cons,List.not_mem_nil,or_false] at hv
 rcases hv with rfl|rfl|rfl|rfl|rfl
 ·simp only[aQ.fr,List.mem_cons,List.not_mem_nil,or_false] at hf;rcases hf with rfl|rfl<;>exact .inl rfl
 ·simp only[aQ.fr,List.mem_cons,List.not_mem_nil,or_false] at hf;rcases hf with rfl|rfl<;>exact .inl rfl
 ·exact .inr (.inr (.inl (h1 f hf)))
 ·exact .inr (.inr (.inl (h2 f hf)))
 ·exact .inr (.inr (.inl (h3 f hf)))
theorem Yt{x1 x2 x3:AX}{pn pc:Option Addr}{cn cc:Nat}{w:World}(h:fV w (Wc x1 x2 x3) [0,4,5] pn pc)(hcn:(Wc x1 x2 x3).length<=cn):Calls Tryz.prog 8 #[kJ (Wc x1 x2 x3) [0,4,5] 1 pn cn pc cc,.agg ⟨[.int .i64 3,.bool false]⟩] w λ e w'=>∃x:Option Addr×Nat,e=.returned (.tuple #[.slice x.1 1 x.2,.int .i64 0])/\True/\SF w [] [] [] [(x.1,dI [(⟨#[97]⟩,9)])] [] w':=by
 have e:yW ((Wc x1 x2 x3).map aQ.c) [0,4,5] 12 (List.headD [5] 0)=[(⟨#[97]⟩,9)]:=s5
 have:=Mt (gen:=1) (cn:=cn) (cc:=cc) h (Sj x1 x2 x3) (show(5:Nat)<=274877906944 by decide) (by decide) hcn 3 false (by decide) (Sl (nj x1 x2 x3)) (by rw[e];decide)
 rw[e] at this
 exact this
theorem V6{x1 x2 x3:AX}{pn pc:Option Addr}{cn cc:Nat}{w:World}(h:fV w (Wc x1 x2 x3) [0,4,5] pn pc)(hcn:(Wc x1 x2 x3).length<=cn):Calls Tryz.prog 23 #[kJ (Wc x1 x2 x3) [0,4,5] 1 pn cn pc cc,.agg ⟨[.int .i64 3,.bool false]⟩] w λ e w'=>∃x:Option Addr×Nat,e=.returned (.tuple #[.slice x.1 1 x.2,.int .i64 0])/\True/\SF w [] [] [] [(x.1,aJ [5])] [] w' :=
 (Hp (gen:=1) (cn:=cn) (cc:=cc) h (Sj x1 x2 x3) (show(5:Nat)<=274877906944 by decide) (by decide) hcn 3 false (by decide) (Sl (nj x1 x2 x3))).mono λ _ _ ⟨x,h1,_,h3⟩=>⟨x,h1,trivial,h3⟩
set_option maxRecDepth 100000 in
theorem Yo(w:World):Calls Tryz.prog 11 #[] w λ e w'=>e=.returned (.bool true)/\St w [] [] w':=by
 refine enter Tryz.func11 Tryz.ntmps11 rfl rfl (SF.s0 w) ?_
 simp only[dB]
 all_goals (refine dH ?_;refine J0 ?_;(refine aF (Y0 (Fc:=λ _=>[]) (hc:=λ w1 hw=>Zn w1)) (λ x9=>?_);try (refine aB (λ h9=>?_)));refine J1 ?_;refine J2 ?_;refine bV ?_;(refine aF (cM (A0:=[(none,aJ []),(none,dI [])]) (hc:=λ w hs=>qT (L:=[dE,dE]) (cs:=[]) (n:={Nd.zero with kind:=4,hash:=3,key:=⟨#[97]⟩,val:=9}) (xs:=[]) (ys:=[]) 0 hs rfl rfl (by decide) (by decide) (by decide) (by decide))) (λ x12=>?_);try (refine aB (λ h12=>?_)));refine yQ ?_;refine aF (Cx (λ _=>cS (cs:=aJ [3]) lW Ei rfl rfl rfl rfl rfl)) (λ x15=>?_);refine bV ?_;(refine aF (cM (A0:=[(some ⟨x15,0,none⟩,aJ [3]),(none,dI [])]) (hc:=λ w hs=>qT (L:=[dE,dE,gK {Nd.zero with kind:=4,hash:=3,key:=⟨#[97]⟩,val:=9} [] [] 0 x12]) (cs:=[]) (n:={Nd.zero with kind:=3,bm:=8,brA:=some ⟨x15,0,none⟩,brN:=1,brC:=1}) (xs:=[3]) (ys:=[]) 0 hs rfl rfl (by decide) (by decide) (show(3:Nat)<=274877906944 by decide) (by decide))) (λ x17=>?_);try (refine aB (λ h17=>?_)));refine J1 ?_;refine wV ?_;refine qS ?_;refine jE ?_;refine bV ?_;refine aA ?_;(refine aF (cM (A0:=[(none,aJ []),(none,dI [])]) (hc:=λ w hs=>qT (L:=[dE,dE,gK {Nd.zero with kind:=4,hash:=3,key:=⟨#[97]⟩,val:=9} [] [] 0 x12,gK {Nd.zero with kind:=3,bm:=8} [3] [] 0 x17]) (cs:=[0]) (n:={Nd.zero with kind:=2,gen:=1}) (xs:=[]) (ys:=[]) 4 hs rfl rfl (by decide) (by decide) (show(4:Nat)<=274877906944 by decide) (by decide))) (λ x26=>?_);try (refine aB (λ h26=>?_)));(refine aF (cM (hc:=λ w hs=>iH (L:=Wc x12 x17 x26) (cs:=[0,4]) 5 hs (by decide))) (λ x27=>?_);try (refine aB (λ h27=>?_)));refine bV ?_;refine aY (λ x4=>?_);refine J5 ?_;refine aT ?_;refine eE [0,1,2,3,4,5,6,7,8,9,10] ?_;refine J9 ?_;refine bP (i:=3) (hq:=(aM (k:=3) rf cQ dS (by simp only[List.drop_zero,List.take_succ_cons,List.take_zero];exact rfl) rfl)) (h:=?_);refine bT ?_;((refine bA (i:=5) (hq:=(cF (V:=λ x:Option Addr×Nat=>.tuple #[.slice x.1 1 x.2,.int .i64 0]) (hc:=λ w1 hw=>Yt (hw.rE (.inr (.inr (.inr ⟨_,.head _,rfl,rfl⟩))) (.inr (.inr (.inr ⟨_,.tail _ (.head _),rfl,rfl⟩))) (Sc (λ f hf=>by first|exact List.mem_append_right _ (List.mem_append_right _ (List.mem_cons_of_mem _ (List.mem_append_left _ hf)))|simp_all) (λ f hf=>by first|exact List.mem_append_right _ (List.mem_append_left _ hf)|simp_all) (λ f hf=>by first|exact List.mem_append_left _ hf|simp_all)) (Rm x12 x17 x26)) (hw.eb .head)))) (h:=λ x35=>?_);try (refine aK (λ h35=>?_))));refine aL ?_;refine gH ?_;refine gH ?_;refine Oi ?_;refine aT ?_;refine eE [0,1,2,3,4,5,6,7,8,9,10] ?_;refine J9 ?_;refine bP (i:=3) (hq:=(aM (k:=3) rf cQ dS (by simp only[List.drop_zero,List.take_succ_cons,List.take_zero];exact rfl) rfl)) (h:=?_);refine bT ?_;((refine bA (i:=5) (hq:=(cF (V:=λ x:Option Addr×Nat=>.tuple #[.slice x.1 1 x.2,.int .i64 0]) (hc:=λ w1 hw=>V6 (hw.rE (.inr (.inr (.inr ⟨_,.head _,rfl,rfl⟩))) (.inr (.inr (.inr ⟨_,.tail _ (.head _),rfl,rfl⟩))) (Sc (λ f hf=>by first|exact List.mem_cons_of_mem _ (List.mem_append_right _ (List.mem_append_right _ (List.mem_cons_of_mem _ (List.mem_append_left _ hf))))|simp_all) (λ f hf=>by first|exact List.mem_cons_of_mem _ (List.mem_append_right _ (List.mem_append_left _ hf))|simp_all) (λ f hf=>by first|exact List.mem_cons_of_mem _ (List.mem_append_left _ hf)|simp_all)) (Rm x12 x17 x26)) (hw.eb .head)))) (h:=λ x44=>?_);try (refine aK (λ h44=>?_))));refine aL ?_;refine gH ?_;refine gH ?_;refine Oi ?_;refine J2 ?_;refine kV ?_;refine aA ?_)
 all_goals (first|refine aG ?_|(refine aC ?_;refine aA ?_)|(refine dG 49 (λ g49=>?_) (λ g49=>?_)<;>(first|refine aG ?_|(refine aC ?_;refine aA ?_))))
 all_goals ((first|refine aG ?_|(refine aC ?_;refine bV ?_));(first|refine aG ?_|(refine aC ?_;refine aF (Cx (λ _=>cS (cs:=dI [(⟨#[97]⟩,9)]) H0 Ei rfl rfl rfl rfl rfl)) (λ x52=>?_)));((first|refine aG ?_|(refine aC ?_;(refine aF (cV (hc:=λ w1 hw=>R4 (xs:=[(⟨#[97]⟩,9)]) (ys:=[(⟨#[97]⟩,9)]) (hw.cl fin) (hw.cl fin) (by decide))) (λ x53=>?_);try (refine aB (λ h53=>?_))))));refine cH ?_;refine aA ?_)
 all_goals (first|refine aG ?_|(refine aC ?_;refine aA ?_)|(refine dG 55 (λ g55=>?_) (λ g55=>?_)<;>(first|refine aG ?_|(refine aC ?_;refine aA ?_))))
 all_goals (refine rM ?_;refine aA ?_)
 all_goals (first|refine aG ?_|(refine aC ?_;refine aA ?_)|(refine dG 59 (λ g59=>?_) (λ g59=>?_)<;>(first|refine aG ?_|(refine aC ?_;refine aA ?_))))
 all_goals ((first|refine aG ?_|(refine aC ?_;refine aF (Cx (λ _=>cS (cs:=aJ [5]) lW Ei rfl rfl rfl rfl rfl)) (λ x61=>?_)));((first|refine aG ?_|(refine aC ?_;(refine aF (cV (hc:=λ w1 hw=>Jk (xs:=[5]) (ys:=[5]) (hw.cl fin) (hw.cl fin) (by decide))) (λ x62=>?_);try (refine aB (λ h62=>?_))))));refine cH ?_;refine J1 ?_)
 all_goals
 refine aR Tryz.results11 (λ w hw=>?_)
 exact⟨rfl,hw.done⟩
end

/- Worlds: what is seen of their tries. -/
end Go.Proofs.YtpobgmdalcpomaaGreat
namespace Go.Ct
section
open Go Go.RowKit
open Classical in
theorem Mx{α:Type}:∀(l m:List α),l.Nodup->(∀a∈l,a∈m)->l.length<=m.length
 | [],_,_,_=>Nat.zero_le _
 | a::l,m,hn,hs=>by
  have hn:=List.nodup_cons.1 hn
  have ha:=hs a (List.mem_cons_self ..)
  have:=Mx l (m.erase a) hn.2 λ b hb=>by
   have hb2:=hs b (List.mem_cons_of_mem _ hb)
   exact(List.mem_erase_of_ne (λ e=>hn.1 (by rw[<- e];exact hb))).2 hb2
  rw[List.length_erase_of_mem ha] at this
  have:=List.length_pos_of_mem ha
  simp only[List.length_cons]
  omega
end
end Go.Ct
namespace Go.Proofs.YtpobgmdalcpomaaGreat
section
open Go Go.RowKit Go.Ct
structure Seen(m:Nat)(z:XS)(t:iV)(r:Int)(l:List Int):Prop where
 root:fU (z.L.map aQ.c) z.cs t.root=some r
 trav:nN z.L z.cs z.gen t.root=some (r::l)
 nd:(r::l).Nodup
 body:∀j∈r::l,(eR (z.L.map aQ.c) z.cs j).isSome=true
 keys:∀p∈yW (z.L.map aQ.c) z.cs 12 r,p.1∈kW
 ord:(yW (z.L.map aQ.c) z.cs 12 r).Pairwise λ p q=>aAa (lP p.1 m) p.1 (lP q.1 m) q.1=true
 len:(yW (z.L.map aQ.c) z.cs 12 r).length<=8
 inl:∀j∈r::l,1<=j/\j<=z.L.length
theorem I2{x:XS}(h:x.Ok):lD x.L:=λ v hv=>by
 have hb:=h.nd v hv
 have h1:=hb.main
 have h2:=hb.prev
 have h3:=hb.status
 have h4:=h.lc
 have e1:v.c.main=v.nd.main:=rfl
 have e2:v.c.prev=v.nd.prev:=rfl
 have e3:v.c.status=v.nd.status:=rfl
 exact⟨hb.bm,by omega,by omega,by omega⟩
end

/- ViewExact: the walk. -/
section
open Go Go.RowKit Go.Ct
theorem Yg{m B C E:Nat}{W:Wd}(h:Rk m B C E W):∀v∈W.z.L,v.ys.length<=8:=by
 obtain⟨σ,hi⟩:=h.wr.inv
 have i0:=hi.inv
 have e1:σ.mm.nodes=W.z.L.map aQ.c:=by rw[hi.mm];rfl
 have hl:σ.len=W.z.L.length:=by show σ.mm.nodes.length=_;rw[e1,List.length_map]
 intro v hv
 obtain⟨k,hk,rfl⟩:=List.mem_iff_getElem.1 hv
 have hn:=i0.nd ((k+1:Nat):Int) (by omega) (by omega)
 have e:σ.nd ((k+1:Nat):Int)=(W.z.L[k]).c:=by
  simp only[Kw.nd]
  rw[e1,bD,pC hk,gdg,List.getElem?_eq_getElem hk]
  rfl
 have hy:(σ.nd ((k+1:Nat):Int)).ys=(W.z.L[k]).ys:=by rw[e];rfl
 rw[<- hy]
 have hval:=hn.valid
 by_cases h6:(σ.nd ((k+1:Nat):Int)).kind=6
 ·have hk6:=hn.k6 h6
  obtain⟨b,hb,hblt⟩:=hn.bd.hash
  have hasc:SA (σ.nd ((k+1:Nat):Int)).ys:=by
   have:=hval.2.2.2.2
   have h6':(σ.nd ((k+1:Nat):Int)).nd.kind=6:=h6
   rcases this with h|h|h|h|h|h|h
   ·omega
   ·omega
   ·omega
   ·omega
   ·exact nY.1 h.2.2.1
   ·omega
   ·omega
  have hnd:((σ.nd ((k+1:Nat):Int)).ys.map Prod.fst).Nodup:=by
   unfold List.Nodup
   rw[List.pairwise_map]
   exact hasc.imp λ{a b} hab e=>by rw[e,sM] at hab;cases hab
  have:=Mx _ kW hnd λ q hq=>by
   obtain⟨p,hp,rfl⟩:=List.mem_map.1 hq
   exact(uy (hk6.2.2.1 p hp) (by omega)).1
  rw[List.length_map] at this
  exact this
 ·have:(σ.nd ((k+1:Nat):Int)).ys=[]:=hval.1.2.2.2.2.2.2.2.2.1.trans (if_neg (by have h7:¬(σ.nd ((k+1:Nat):Int)).nd.kind=6:=h6;simpa using h7))
  rw[this];decide
theorem Z9{m B C E:Nat}{W:Wd}(h:Rk m B C E W):0<W.z.cs.length:=by
 obtain⟨σ,hi⟩:=h.wr.inv
 have ht:W.ts.getD 0 ⟨0,false⟩∈W.ts:=vI h.t0
 have h1:=hi.ts _ ht
 have e:σ.cl=W.z.cs.length:=by simp only[Kw.cl,hi.mm];rfl
 have h2:=h1.1
 have h3:=h1.2.1
 omega
section
variable{L:List aQ}{cs:List Int}{gen:Int}{pn pc:Option Addr}{cn cc n:Nat}{w:World}
theorem wA(e:cs.length=n)(h:fV w L cs pn pc)(hr:lD L)(hl:L.length<=274877906944)(hc:n<=274877906944)(hcn:L.length<=cn){B:Nat}(hB:∀v∈L,v.ys.length<=B)(hBl:(L.length+1)*(B+64)<=549755813888)(c:Int)(ro:Bool)(hi:c<=9223372036854775807)(i:Int)(hi2:i<=9223372036854775807) :
  Calls Tryz.prog 21 #[.agg ⟨[.slice pn L.length cn,.slice pc n cc,.int .i64 gen]⟩,.agg ⟨[.int .i64 c,.bool ro]⟩,.int .i64 i] w λ e w'=>e=.returned (.bool true)/\St w [] [] w':=by
 subst e
 exact Ur h hr hl hc hcn hB hBl c ro hi i hi2
end
theorem I7{v:Int}{n:Nat}(h0:0<n)(h1:n<=274877906944):(yI v (n:Int)).toNat<n:=by
 have h:=yB (v:=v) (n:=(n:Int)) (by omega) (by omega)
 omega
set_option maxRecDepth 100000 in
set_option maxHeartbeats 2000000 in
theorem Nq{s0:uc}{l:List Int}{p:Option Addr}{lc:Nat}{w:World}(c:Int)(ro:Bool)(i cv tv:Int)(h0:fV w s0.L s0.cs s0.pn s0.pc)(ok0:s0.Ok)(hys:∀v∈s0.L,v.ys.length<=1048576)(hcl:Go.Ct.Cl w p (aJ l))(hl:l.length<=17592186043904)(hc:c<=9223372036854775807)(hi:i<=9223372036854775807) :
  Calls Tryz.prog 5 #[.agg ⟨[.slice s0.pn s0.L.length s0.cn,.slice s0.pc s0.cs.length s0.cc,.int .i64 s0.gen]⟩,.slice p l.length lc,.agg ⟨[.int .i64 c,.bool ro]⟩,.int .i64 i,.int .i64 cv,.int .i64 tv] w λ e w'=>e=.returned (.bool true)/\St w [] [] w':=by
 refine enter Tryz.func5 Tryz.ntmps5 rfl rfl (SF.begin (A:=(p,aJ l)::s0.fr) (λ f hf=>by
rcases List.mem_cons.1 hf with rfl|hf
·exact hcl
rcases List.mem_cons.1 hf with rfl|hf
·exact h0.nds
rcases List.mem_cons.1 hf with rfl|hf
·exact h0.cls
·exact h0.fam f hf)) ?_
 simp only[dB]
 all_goals (refine J0 ?_;refine bM (λ x6=>?_);refine bM (λ x8=>?_);refine iI ?_;refine gR ?_;refine dW ?_;refine Ab ?_;refine aA ?_)
 all_goals (first|refine aG ?_|(refine aC ?_;refine aE ?_)|(refine dG 23 (λ g23=>?_) (λ g23=>?_)<;>(try (first|contradiction|(exfalso;omega)))<;>(first|refine aG ?_|(refine aC ?_;refine aE ?_))))
 all_goals ((first|refine aG ?_|(refine aC ?_;refine bJ ?_));(first|refine aG ?_|(refine aC ?_;refine dW ?_));(first|refine aG ?_|(refine aC ?_;refine Ab ?_));refine cH ?_;refine aA ?_)
 all_goals (first|refine aG ?_|(refine aC ?_;refine bJ ?_)|(refine dG 29 (λ g29=>?_) (λ g29=>?_)<;>(try (first|contradiction|(exfalso;omega)))<;>(first|refine aG ?_|(refine aC ?_;refine bJ ?_))))
 all_goals (refine cq ?_;((first|refine aG ?_|(refine aC ?_;(refine aF (cV (v:=.bool true) (hc:=λ w1 hw=>wA (cs:=s0.cs) rfl (hw.rE (.inr (.inl (.tail _ (.head _)))) (.inr (.inl (.tail _ (.tail _ (.head _))))) (λ f hf=>.inr (.inl (.tail _ (.tail _ (.tail _ hf))))) ok0.fit) ok0.rng (by omega) (by omega) ok0.cap hys (Nat.le_trans (Nat.mul_le_mul_right _ (show s0.L.length+1<=41 by omega)) (by decide)) c ro hc i hi)) (λ x33=>?_);try (refine aB (λ h33=>?_))))));refine Ju ?_;refine aN ?_)
 all_goals
 refine bF (λ c35=>?_) (λ c35=>?_)
 ·try exact nv c35
  all_goals try (first|contradiction|(exfalso;omega))
  all_goals refine dH ?_
  all_goals
   refine aR Tryz.results5 (λ w hw=>?_)
   exact⟨rfl,hw.done⟩
 ·try exact nv c35
  all_goals try (first|contradiction|(exfalso;omega))
  all_goals (refine aZ ?_;refine J2 ?_;(refine aF (Y0 (Hc:=λ q:Nat×Nat×Nat×Wd=>wH q.2.2.1 q.1 q.2.1 q.2.2.2) (H1:=λ q=>(q.1,nX q.2.1 (q.2.2.1:Int) q.2.2.2.pt q.2.2.2.ts.length q.2.2.2.kt q.2.2.2.pe (rL q.2.2.2.ex).length q.2.2.2.ke)::(q.2.1,xM q.2.2.2.z)::(uT q.2.1 q.2.2.2.ex++[(x8,.cells ⟨[.int .i64 c,.bool ro]⟩ 33 (0,0)),(x6,.cells ⟨[.slice s0.pn s0.L.length s0.cn,.slice s0.pc s0.cs.length s0.cc,.int .i64 s0.gen]⟩ 41 (0,0))])) (Fc:=λ q=>bG q.2.2.2.z.L) (F1:=λ q=>bG q.2.2.2.z.L) (Oc:=λ q=>wO q.2.2.2) (O1:=λ q=>⟨q.2.2.2.pt,sU q.2.2.2.ts,q.2.2.2.kt,33,2⟩::⟨q.2.2.2.pe,yR (rL q.2.2.2.ex),q.2.2.2.ke,86,1⟩::⟨q.2.2.2.z.pn,iD q.2.2.2.z.L,q.2.2.2.z.cn,59,14⟩::⟨q.2.2.2.z.pc,aJ q.2.2.2.z.cs,q.2.2.2.z.cc,52,1⟩::qV q.2.2.2.ex) (hH1:=λ q=>rfl) (hF1:=λ q=>List.append_nil _) (hO1:=λ q=>List.append_nil _) (hc:=λ w1 hw=>W6 (hw.cl fin) hl)) (λ x37=>?_);try (refine aB (λ h37=>?_))))
  all_goals
   have hm:=h37.1
   have hW:=h37.2
   have htl:=hW.tl
   obtain⟨s1,s2,s3⟩:=hW.sz
   have hcs0:=Z9 hW
   have hky:=Yg hW
  all_goals (refine J1 ?_;refine kZ ?_;refine Db ?_;refine aH (aM (k:=3) rf cQ dS (by simp only[List.drop_zero,List.take_succ_cons,List.take_zero];exact rfl) rfl) rfl ?_;(refine aF (Y0 (Hc:=λ _=>[]) (Fc:=λ _=>[]) (hc:=λ w1 hw=>Qc (hw.cl (.own (.tail (.tail .head)))) (hw.cl (.own (.tail (.tail (.tail .head))))) (by omega) (by omega))) (λ x45=>?_);try (refine aB (λ h45=>?_)));refine aY (λ x14=>?_);refine J5 ?_;refine J2 ?_;refine Gh ?_;refine aH (gO (m:=x37.2.2.2.z.L.length) (n:=2) rf rf (by omega)) rfl ?_;(refine aF (cV (hc:=λ w1 hw=>Jg i (x37.2.2.2.z.L.length+2) w1 (by omega) (by omega))) (λ x51=>?_);try (refine aB (λ h51=>?_))))
  all_goals
   have hin:=I7 (v:=i) (n:=x37.2.2.2.z.L.length+2) (by omega) (by omega)
  all_goals (refine iI ?_;refine kZ ?_;refine dW ?_;refine uM ?_;refine cZ ?_)
  all_goals
   refine lO [12,16,57,58,59,60,61,62,63,64,65,66] (λ y:Nat=>[(57,.int .i64 ((y:Nat):Int))]) (λ y=>y<=x37.2.2.2.ts.length) (λ y=>(x14,.cells ⟨[.slice x45.1.1 x37.2.2.2.z.L.length x45.1.2,.slice x45.2.1 x37.2.2.2.z.cs.length x45.2.2,.int .i64 x37.2.2.2.z.gen]⟩ 41 (0,0))::(x37.1,nX x37.2.1 (x37.2.2.1:Int) x37.2.2.2.pt x37.2.2.2.ts.length x37.2.2.2.kt x37.2.2.2.pe (rL x37.2.2.2.ex).length x37.2.2.2.ke)::(x37.2.1,xM x37.2.2.2.z)::uT x37.2.1 x37.2.2.2.ex) (λ y=>bG x37.2.2.2.z.L) (λ y=>⟨x45.1.1,iD x37.2.2.2.z.L,x45.1.2,59,14⟩::⟨x45.2.1,aJ x37.2.2.2.z.cs,x45.2.2,52,1⟩::⟨x37.2.2.2.pt,sU x37.2.2.2.ts,x37.2.2.2.kt,33,2⟩::⟨x37.2.2.2.pe,yR (rL x37.2.2.2.ex),x37.2.2.2.ke,86,1⟩::⟨x37.2.2.2.z.pn,iD x37.2.2.2.z.L,x37.2.2.2.z.cn,59,14⟩::⟨x37.2.2.2.z.pc,aJ x37.2.2.2.z.cs,x37.2.2.2.z.cc,52,1⟩::qV x37.2.2.2.ex) (λ y=>x37.2.2.2.ts.length-y) (0) (Nat.zero_le _) (λ y f hx=>?_) (hw0:=λ w hw=>hw.back (hF:=aW.all) (hH:=.cons_cons _ (.cons_cons _ (.cons_cons _ (List.sublist_append_left ..)))))
   dsimp only[gW,List.map,List.cons_append,List.nil_append]
   all_goals (refine J0 ?_;refine uQ ?_;refine aT ?_)
   all_goals
   refine bF (λ c58=>?_) (λ c58=>?_)
   ·try exact nv c58
    all_goals try (first|contradiction|(exfalso;omega))
    all_goals (refine oD ?_;refine J0 ?_;refine aH (Ry (cs:=sU x37.2.2.2.ts) (k:=y) rf rf fG dS (.own (.tail (.tail .head))) (by omega) (by rw[mK];omega)) rfl ?_;refine aH (Jv (ts:=x37.2.2.2.ts) (q:=y) rf dS (.own (.tail (.tail .head))) (by omega)) rfl ?_;refine aY (λ x16=>?_);refine J5 ?_;refine iU ?_;refine bJ ?_;refine aA ?_;(refine aF (cV (v:=.bool true) (hc:=λ w1 hw=>wA (cs:=x37.2.2.2.z.cs) rfl (hw.rE (.inr (.inr (.inr ⟨_,.head _,rfl,rfl⟩))) (.inr (.inr (.inr ⟨_,.tail _ (.head _),rfl,rfl⟩))) (λ f hf=>.inr (.inr (.inl hf))) hW.z.fit) (I2 hW.z) (by omega) (by omega) h45.1 hky (by omega) _ _ (hW.root (by decide) (vI (ts:=x37.2.2.2.ts) (j:=y) (by omega))) _ (by omega))) (λ x64=>?_);try (refine aB (λ h64=>?_)));refine kD ?_)
    all_goals
     refine bF (λ c65=>?_) (λ c65=>?_)
     ·try exact nv c65
      all_goals try (first|contradiction|(exfalso;omega))
      all_goals refine dH ?_
      all_goals
      refine aR Tryz.results5 (λ w hw=>?_)
      exact⟨rfl,hw.done⟩
     ·try exact nv c65
      all_goals try (first|contradiction|(exfalso;omega))
      all_goals (refine mN ?_;refine dD ?_;refine aH (gO (m:=y) (n:=1) rf rf (by omega)) rfl ?_;refine uM ?_)
      all_goals
      refine gY (y+1) ?_ (hw1:=λ w hw=>hw.back (hF:=aW.all))
      ·show y+1<=_;omega
   ·try exact nv c58
    all_goals try (first|contradiction|(exfalso;omega))
    all_goals (refine bQ rfl ?_;refine aT ?_;refine dL [(0,[]),(1,[]),(2,[]),(3,[]),(4,[]),(5,[]),(7,[]),(8,[]),(9,[]),(10,[]),(11,[]),(6,[1,9]),(12,[1]),(13,[]),(14,[])] ?_;refine jP ?_;refine aL ?_;refine jP ?_;refine jD ?_;refine aL ?_;refine jP ?_;refine jD ?_;refine cI (i:=11) (hq:=(gO (m:=x37.2.2.2.z.L.length) (n:=1) rf rf (by omega))) (h:=?_);((refine bA (i:=6) (hq:=(cV (hc:=λ w1 hw=>Jg cv x37.2.2.2.z.cs.length w1 hcs0 (by omega)))) (h:=λ x73=>?_);try (refine aK (λ h73=>?_)))))
    all_goals
     have hk:=I7 (v:=cv) (n:=x37.2.2.2.z.cs.length) hcs0 (by omega)
    all_goals (((refine bA (i:=12) (hq:=(cV (hc:=λ w1 hw=>Jg tv (x37.2.2.2.z.L.length+1) w1 (by omega) (by omega)))) (h:=λ x79=>?_);try (refine aK (λ h79=>?_))));refine bP (i:=13) (hq:=(bW (k:=(yI cv (x37.2.2.2.z.cs.length:Int)).toNat) (lst:=x37.2.2.2.z.cs) rf rf fG bU (.own (.tail .head)) (by omega) (by omega))) (h:=?_);refine wW ?_;refine aT ?_;refine kZ ?_;refine dW ?_;refine uM ?_;refine cZ ?_)
    all_goals
     refine lO [12,18,86,87,88,89,90,91,92,93,94,95] (λ z:Nat=>[(86,.int .i64 ((z:Nat):Int))]) (λ z=>z<=x37.2.2.2.ts.length) (λ y=>(x14,.cells ⟨[.slice x45.1.1 x37.2.2.2.z.L.length x45.1.2,.slice x45.2.1 x37.2.2.2.z.cs.length x45.2.2,.int .i64 x37.2.2.2.z.gen]⟩ 41 (0,0))::(x37.1,nX x37.2.1 (x37.2.2.1:Int) x37.2.2.2.pt x37.2.2.2.ts.length x37.2.2.2.kt x37.2.2.2.pe (rL x37.2.2.2.ex).length x37.2.2.2.ke)::(x37.2.1,xM x37.2.2.2.z)::uT x37.2.1 x37.2.2.2.ex) (λ y=>bG x37.2.2.2.z.L) (λ y=>⟨x45.1.1,iD x37.2.2.2.z.L,x45.1.2,59,14⟩::⟨x45.2.1,aJ (x37.2.2.2.z.cs.set (yI cv (x37.2.2.2.z.cs.length:Int)).toNat (((yI tv ((x37.2.2.2.z.L.length+1:Nat):Int)).toNat:Nat):Int)),x45.2.2,52,1⟩::⟨x37.2.2.2.pt,sU x37.2.2.2.ts,x37.2.2.2.kt,33,2⟩::⟨x37.2.2.2.pe,yR (rL x37.2.2.2.ex),x37.2.2.2.ke,86,1⟩::⟨x37.2.2.2.z.pn,iD x37.2.2.2.z.L,x37.2.2.2.z.cn,59,14⟩::⟨x37.2.2.2.z.pc,aJ x37.2.2.2.z.cs,x37.2.2.2.z.cc,52,1⟩::qV x37.2.2.2.ex) (λ z=>x37.2.2.2.ts.length-z) (0) (Nat.zero_le _) (λ z f hx=>?_) (hw0:=λ w hw=>hw.back (hF:=aW.all))
     dsimp only[gW,List.map,List.cons_append,List.nil_append]
     all_goals (refine J0 ?_;refine uQ ?_;refine aT ?_)
     all_goals
     refine bF (λ c87=>?_) (λ c87=>?_)
     ·try exact nv c87
      all_goals try (first|contradiction|(exfalso;omega))
      all_goals (refine oD ?_;refine J0 ?_;refine aH (Ry (cs:=sU x37.2.2.2.ts) (k:=z) rf rf fG dS (.own (.tail (.tail .head))) (by omega) (by rw[mK];omega)) rfl ?_;refine aH (Jv (ts:=x37.2.2.2.ts) (q:=z) rf dS (.own (.tail (.tail .head))) (by omega)) rfl ?_;refine aY (λ x18=>?_);refine J5 ?_;refine iU ?_;refine bJ ?_;refine aA ?_;(refine aF (cV (v:=.bool true) (hc:=λ w1 hw=>wA (cs:=x37.2.2.2.z.cs.set (yI cv (x37.2.2.2.z.cs.length:Int)).toNat (((yI tv ((x37.2.2.2.z.L.length+1:Nat):Int)).toNat:Nat):Int)) (List.length_set ..) (hw.rE (.inr (.inr (.inr ⟨_,.head _,rfl,rfl⟩))) (.inr (.inr (.inr ⟨_,.tail _ (.head _),rfl,rfl⟩))) (λ f hf=>.inr (.inr (.inl hf))) hW.z.fit) (I2 hW.z) (by omega) (by omega) h45.1 hky (by omega) _ _ (hW.root (by decide) (vI (ts:=x37.2.2.2.ts) (j:=z) (by omega))) _ (by omega))) (λ x93=>?_);try (refine aB (λ h93=>?_)));refine kD ?_)
      all_goals
       refine bF (λ c94=>?_) (λ c94=>?_)
       ·try exact nv c94
        all_goals try (first|contradiction|(exfalso;omega))
        all_goals refine dH ?_
        all_goals
        refine aR Tryz.results5 (λ w hw=>?_)
        exact⟨rfl,hw.done⟩
       ·try exact nv c94
        all_goals try (first|contradiction|(exfalso;omega))
        all_goals (refine mN ?_;refine dD ?_;refine aH (gO (m:=z) (n:=1) rf rf (by omega)) rfl ?_;refine uM ?_)
        all_goals
        refine gY (z+1) ?_ (hw1:=λ w hw=>hw.back (hF:=aW.all))
        ·show z+1<=_;omega
     ·try exact nv c87
      all_goals try (first|contradiction|(exfalso;omega))
      all_goals (refine bQ rfl ?_;refine aT ?_;refine dL [(0,[]),(1,[]),(2,[]),(3,[]),(4,[]),(5,[]),(6,[]),(7,[]),(10,[]),(8,[2]),(9,[]),(11,[]),(12,[]),(13,[])] ?_;((refine bA (i:=0) (hq:=(cV (hc:=λ w1 hw=>Yo w1))) (h:=λ x96=>?_);try (refine aK (λ h96=>?_))));refine aL ?_)
      all_goals (first|refine cB ?_|(refine bT ?_)|(refine wT 97 (λ g97=>?_) (λ g97=>?_)<;>(try (first|contradiction|(exfalso;omega)))<;>(first|refine cB ?_|(refine bT ?_))))
      all_goals ((first|refine cB ?_|(refine aL ?_));refine xl ?_;(first|refine cB ?_|(refine jD ?_));(first|refine cB ?_|(refine cI (i:=7) (hq:=(gO (m:=x37.2.2.2.z.cs.length) (n:=2) rf rf (by omega))) (h:=?_)));(first|refine cB ?_|(refine aL ?_));((first|refine cB ?_|((refine bA (i:=8) (hq:=(cV (hc:=λ w1 hw=>Jg cv (x37.2.2.2.z.cs.length+2) w1 (by omega) (by omega)))) (h:=λ x104=>?_);try (refine aK (λ h104=>?_)))))))
      all_goals
       have hk2:=I7 (v:=cv) (n:=x37.2.2.2.z.cs.length+2) (by omega) (by omega)
      all_goals ((first|refine cB ?_|(refine eT ?_));((first|refine cB ?_|((refine bA (i:=11) (hq:=(cV (v:=.bool true) (hc:=λ w1 hw=>wA (cs:=x37.2.2.2.z.cs.set (yI cv (x37.2.2.2.z.cs.length:Int)).toNat (((yI tv ((x37.2.2.2.z.L.length+1:Nat):Int)).toNat:Nat):Int)) (List.length_set ..) (hw.rE (.inr (.inr (.inr ⟨_,.head _,rfl,rfl⟩))) (.inr (.inr (.inr ⟨_,.tail _ (.head _),rfl,rfl⟩))) (λ f hf=>.inr (.inr (.inl hf))) hW.z.fit) (I2 hW.z) (by omega) (by omega) h45.1 hky (by omega) _ _ (by omega) _ (by omega)))) (h:=λ x107=>?_);try (refine aK (λ h107=>?_))))));refine hU ?_;refine J7 ?_)
      all_goals
       refine aR Tryz.results5 (λ w hw=>?_)
       exact⟨rfl,hw.done⟩
end

end Go.Proofs.YtpobgmdalcpomaaGreat
