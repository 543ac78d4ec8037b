/- ViewExact: the agreement of the views and their reference. -/
import Derived.Test.YtpobgmdalcpomaaGreatR94
import Derived.Test.YtpobgmdalcpomaaGreatGAr2
import Derived.Test.YtpobgmdalcpomaaGreatGRs0

set_option linter.unusedSimpArgs false
set_option linter.unusedVariables false
namespace Go.Proofs.YtpobgmdalcpomaaGreat
section
open Go Go.RowKit Go.Ct
section
variable{L:List aQ}{cs:List Int}{gen:Int}{pn pc:Option Addr}{cn cc:Nat}{w:World}
theorem jd(hr:lD L){B:Nat}(hB:∀v∈L,v.ys.length<=B)(hBl:(L.length+1)*(B+64)<=549755813888){c:Int}{q:List Pl×List Pr}(h:Ss L cs gen c=some q):q.2.length<=549755813888/\q.1.length<=L.length:=by
 unfold Ss at h
 split at h
 ·rename_i hp
  obtain⟨r,hrt,h⟩:=Option.bind_eq_some_iff.1 h
  have h1:=Ut h
  rw[List.length_map] at h1
  have hf:=yC hp hr hB hBl
  have h2:=S3 (B:=B) (λ m=>⟨by rw[bD];exact(hf.1 m).1,by rw[jX];exact(hf.1 m).2⟩) 12 _ _ _ _ _ _ h
  have h3:q.1.length*(B+64)<=(L.length+1)*(B+64):=Nat.mul_le_mul_right _ (by omega)
  exact⟨by omega,h1⟩
 ·cases h
theorem Cp.yo{A F:Fr}{O:List Ow}{x:Cp}(h:x.own=false->(x.pp,dI x.ps)∈bG L)(hF:∀f∈x.pf,f∈F)(hA:∀f∈bG L,f∈A):pP A F O x.pp (dI x.ps):=by
 cases ho:x.own with
 | true=>exact .new (tD.jB (hF _ (by unfold Cp.pf;rw[if_pos ho];exact List.mem_cons_self ..)))
 | false=>exact .cE (tD.jB (hA _ (h ho)))
theorem P7(h:fV w L cs pn pc)(hr:lD L)(hl:L.length<=274877906944)(hc:cs.length<=274877906944)(hcn:L.length<=cn){B:Nat}(hB:∀v∈L,v.ys.length<=B)(hBl:(L.length+1)*(B+64)<=549755813888)(c:Int)(ro:Bool)(hi:c<=9223372036854775807)(i:Int)(hi2:i<=9223372036854775807)(h1:nN L cs gen c=none)(h2:Ss L cs gen c=none) :
  Calls Tryz.prog 21 #[kJ L cs gen pn cn pc cc,.agg ⟨[.int .i64 c,.bool ro]⟩,.int .i64 i] w λ e w'=>e=.returned (.bool true)/\St w [] [] w':=by
 refine enter Tryz.func21 Tryz.ntmps21 rfl rfl h.start ?_
 simp only[dB]
 simp only[kJ]
 all_goals (refine J0 ?_;refine bM (λ x3=>?_);refine bM (λ x4=>?_);refine J1 ?_;refine iU ?_;refine bJ ?_;(refine aF (cV (hc:=λ w1 hw=>Nh (h.kC hw) hr hl hc hcn c ro hi)) (λ x26=>?_);try (refine aB (λ h26=>?_)));refine pZ ?_;refine J8 ?_;refine iU ?_;refine bJ ?_;(refine aF (cV (hc:=λ w1 hw=>zR (h.kC hw) hr hl hc c ro hi)) (λ x32=>?_);try (refine aB (λ h32=>?_)));refine pZ ?_;refine J8 ?_;refine rK ?_;(refine aF (cV (hc:=λ w1 hw=>Mn (h.kC hw) hr hl hc hcn i hi2)) (λ x38=>?_);try (refine aB (λ h38=>?_)));refine pZ ?_;refine J8 ?_;refine rK ?_;(refine aF (cV (hc:=λ w1 hw=>M4 (h.kC hw) hr hl hc i hi2)) (λ x44=>?_);try (refine aB (λ h44=>?_)));refine pZ ?_;refine J8 ?_;refine iU ?_;refine bJ ?_;(refine aF (cV (hc:=λ w1 hw=>Y8 (h.kC hw) hr hl hc hcn c ro hi h1)) (λ x50=>?_);try (refine aB (λ h50=>?_)));refine pZ ?_;refine J8 ?_;refine iU ?_;refine bJ ?_;(refine aF (cV (hc:=λ w1 hw=>X7 (h.kC hw) hr hl hc hB hBl c ro hi h2)) (λ x56=>?_);try (refine aB (λ h56=>?_)));refine pZ ?_;refine J8 ?_;refine iU ?_;refine bJ ?_;(refine aF (cV (hc:=λ w1 hw=>Uw (h.kC hw) hr hl hc hcn c ro hi h1)) (λ x62=>?_);try (refine aB (λ h62=>?_)));refine pZ ?_;refine J8 ?_;refine iU ?_;refine bJ ?_;(refine aF (cV (hc:=λ w1 hw=>Uz (h.kC hw) hr hl hc hB hBl c ro hi h2)) (λ x68=>?_);try (refine aB (λ h68=>?_)));refine pZ ?_;refine J8 ?_;refine jE ?_;refine kV ?_;refine aA ?_)
 all_goals (first|refine aG ?_|(refine aC ?_;refine aA ?_)|(refine dG 74 (λ g74=>?_) (λ g74=>?_)<;>(try (contradiction))<;>(first|refine aG ?_|(refine aC ?_;refine aA ?_))))
 all_goals ((first|refine aG ?_|(refine aC ?_;refine aA ?_));(first|refine aG ?_|(refine aC ?_;refine Ky ?_));refine cH ?_;refine aA ?_)
 all_goals (first|refine aG ?_|(refine aC ?_;refine aA ?_)|(refine dG 79 (λ g79=>?_) (λ g79=>?_)<;>(try (contradiction))<;>(first|refine aG ?_|(refine aC ?_;refine aA ?_))))
 all_goals ((first|refine aG ?_|(refine aC ?_;refine aA ?_));refine rM ?_;refine aA ?_)
 all_goals (first|refine aG ?_|(refine aC ?_;refine aA ?_)|(refine dG 84 (λ g84=>?_) (λ g84=>?_)<;>(try (contradiction))<;>(first|refine aG ?_|(refine aC ?_;refine aA ?_))))
 all_goals ((first|refine aG ?_|(refine aC ?_;refine aA ?_));(first|refine aG ?_|(refine aC ?_;refine Ky ?_));refine cH ?_;refine aA ?_)
 all_goals (first|refine aG ?_|(refine aC ?_;refine aA ?_)|(refine dG 89 (λ g89=>?_) (λ g89=>?_)<;>(try (contradiction))<;>(first|refine aG ?_|(refine aC ?_;refine aA ?_))))
 all_goals ((first|refine aG ?_|(refine aC ?_;refine aA ?_));refine rM ?_;refine aA ?_)
 all_goals (first|refine aG ?_|(refine aC ?_;refine aA ?_)|(refine dG 94 (λ g94=>?_) (λ g94=>?_)<;>(try (contradiction))<;>(first|refine aG ?_|(refine aC ?_;refine aA ?_))))
 all_goals ((first|refine aG ?_|(refine aC ?_;refine aA ?_));((first|refine aG ?_|(refine aC ?_;(refine aF (cV (v:=.bool true) (hc:=λ w1 hw=>R4 (xs:=[]) (ys:=[]) (Cl.nil _ _) (Cl.nil _ _) (by decide))) (λ x97=>?_);try (refine aB (λ h97=>?_))))));refine cH ?_;refine aA ?_)
 all_goals (first|refine aG ?_|(refine aC ?_;refine aA ?_)|(refine dG 99 (λ g99=>?_) (λ g99=>?_)<;>(try (contradiction))<;>(first|refine aG ?_|(refine aC ?_;refine aA ?_))))
 all_goals ((first|refine aG ?_|(refine aC ?_;refine aA ?_));refine rM ?_;refine aA ?_)
 all_goals (first|refine aG ?_|(refine aC ?_;refine aA ?_)|(refine dG 104 (λ g104=>?_) (λ g104=>?_)<;>(try (contradiction))<;>(first|refine aG ?_|(refine aC ?_;refine aA ?_))))
 all_goals ((first|refine aG ?_|(refine aC ?_;refine aA ?_));((first|refine aG ?_|(refine aC ?_;(refine aF (cV (v:=.bool true) (hc:=λ w1 hw=>Jk (xs:=[]) (ys:=[]) (Cl.nil _ _) (Cl.nil _ _) (by decide))) (λ x107=>?_);try (refine aB (λ h107=>?_))))));refine cH ?_;refine J1 ?_)
 all_goals
 refine aR Tryz.results21 (λ w hw=>?_)
 exact⟨rfl,hw.done⟩
theorem Qi(h:fV w L cs pn pc)(hr:lD L)(hl:L.length<=274877906944)(hc:cs.length<=274877906944)(hcn:L.length<=cn){B:Nat}(hB:∀v∈L,v.ys.length<=B)(hBl:(L.length+1)*(B+64)<=549755813888)(c:Int)(ro:Bool)(hi:c<=9223372036854775807)(i:Int)(hi2:i<=9223372036854775807){l:List Int}{q:List Pl×List Pr}(h1:nN L cs gen c=some l)(h2:Ss L cs gen c=some q)(h3:q.1.map Pl.i=l)(h4:yW (L.map aQ.c) cs 12 (l.headD 0)=q.2) :
  Calls Tryz.prog 21 #[kJ L cs gen pn cn pc cc,.agg ⟨[.int .i64 c,.bool ro]⟩,.int .i64 i] w λ e w'=>e=.returned (.bool true)/\St w [] [] w':=by
 obtain⟨hq2,hq1⟩:=jd hr hB hBl h2
 have hll:l.length<=L.length:=by rw[<- h3,List.length_map];exact hq1
 refine enter Tryz.func21 Tryz.ntmps21 rfl rfl h.start ?_
 simp only[dB]
 simp only[kJ]
 all_goals (refine J0 ?_;refine bM (λ x3=>?_);refine bM (λ x4=>?_);refine J1 ?_;refine iU ?_;refine bJ ?_;(refine aF (cV (hc:=λ w1 hw=>Nh (h.kC hw) hr hl hc hcn c ro hi)) (λ x26=>?_);try (refine aB (λ h26=>?_)));refine pZ ?_;refine J8 ?_;refine iU ?_;refine bJ ?_;(refine aF (cV (hc:=λ w1 hw=>zR (h.kC hw) hr hl hc c ro hi)) (λ x32=>?_);try (refine aB (λ h32=>?_)));refine pZ ?_;refine J8 ?_;refine rK ?_;(refine aF (cV (hc:=λ w1 hw=>Mn (h.kC hw) hr hl hc hcn i hi2)) (λ x38=>?_);try (refine aB (λ h38=>?_)));refine pZ ?_;refine J8 ?_;refine rK ?_;(refine aF (cV (hc:=λ w1 hw=>M4 (h.kC hw) hr hl hc i hi2)) (λ x44=>?_);try (refine aB (λ h44=>?_)));refine pZ ?_;refine J8 ?_;refine iU ?_;refine bJ ?_;(refine aF (cF (Fc:=λ x:Option Addr×Nat=>[(x.1,dI q.2)]) (hc:=λ w1 hw=>by have:=Mt (cc:=cc) (h.kC hw) hr hl hc hcn c ro hi h1 (by rw[h4];exact hq2);rw[h4] at this;exact this)) (λ x50=>?_);try (refine aB (λ h50=>?_)));refine pZ ?_;refine J8 ?_;refine iU ?_;refine bJ ?_;(refine aF (cF (hc:=λ w1 hw=>Zk (h.kC hw) hr hl hc hB hBl c ro hi h2)) (λ x56=>?_);try (refine aB (λ h56=>?_)));refine pZ ?_;refine J8 ?_;refine iU ?_;refine bJ ?_;(refine aF (cF (hc:=λ w1 hw=>Hp (h.kC hw) hr hl hc hcn c ro hi h1)) (λ x62=>?_);try (refine aB (λ h62=>?_)));refine pZ ?_;refine J8 ?_;refine iU ?_;refine bJ ?_;(refine aF (cF (hc:=λ w1 hw=>by have:=Un (cn:=cn) (cc:=cc) (h.kC hw) hr hl hc hB hBl c ro hi h2;rw[h3] at this;exact this)) (λ x68=>?_);try (refine aB (λ h68=>?_)));refine pZ ?_;refine J8 ?_;refine jE ?_;refine kV ?_;refine aA ?_)
 all_goals (first|refine aG ?_|(refine aC ?_;refine aA ?_)|(refine dG 74 (λ g74=>?_) (λ g74=>?_)<;>(try (contradiction))<;>(first|refine aG ?_|(refine aC ?_;refine aA ?_))))
 all_goals ((first|refine aG ?_|(refine aC ?_;refine aA ?_));(first|refine aG ?_|(refine aC ?_;refine Ky ?_));refine cH ?_;refine aA ?_)
 all_goals (first|refine aG ?_|(refine aC ?_;refine aA ?_)|(refine dG 79 (λ g79=>?_) (λ g79=>?_)<;>(try (contradiction))<;>(first|refine aG ?_|(refine aC ?_;refine aA ?_))))
 all_goals ((first|refine aG ?_|(refine aC ?_;refine aA ?_));refine rM ?_;refine aA ?_)
 all_goals (first|refine aG ?_|(refine aC ?_;refine aA ?_)|(refine dG 84 (λ g84=>?_) (λ g84=>?_)<;>(try (contradiction))<;>(first|refine aG ?_|(refine aC ?_;refine aA ?_))))
 all_goals ((first|refine aG ?_|(refine aC ?_;refine aA ?_));(first|refine aG ?_|(refine aC ?_;refine Ky ?_));refine cH ?_;refine aA ?_)
 all_goals (first|refine aG ?_|(refine aC ?_;refine aA ?_)|(refine dG 89 (λ g89=>?_) (λ g89=>?_)<;>(try (contradiction))<;>(first|refine aG ?_|(refine aC ?_;refine aA ?_))))
 all_goals ((first|refine aG ?_|(refine aC ?_;refine aA ?_));refine rM ?_;refine aA ?_)
 all_goals (first|refine aG ?_|(refine aC ?_;refine aA ?_)|(refine dG 94 (λ g94=>?_) (λ g94=>?_)<;>(try (contradiction))<;>(first|refine aG ?_|(refine aC ?_;refine aA ?_))))
 all_goals ((first|refine aG ?_|(refine aC ?_;refine aA ?_));((first|refine aG ?_|(refine aC ?_;(refine aF (cV (v:=.bool true) (hc:=λ w1 hw=>by have:=R4 (ca:=x50.2) (cb:=x56.pc) (hw.cl (.new (tD.jB (List.mem_cons_of_mem _ (List.mem_cons_of_mem _ (List.mem_append_right _ (List.mem_cons_self ..))))))) (hw.cl (Cp.yo h56.2 (λ f hf=>List.mem_cons_of_mem _ (List.mem_cons_of_mem _ (List.mem_append_left _ hf))) (λ f hf=>List.mem_cons_of_mem _ (List.mem_cons_of_mem _ hf)))) (show q.2.length<4611686018427387904 by omega);rw[decide_eq_true h56.1.symm] at this;exact this)) (λ x97=>?_);try (refine aB (λ h97=>?_))))));refine cH ?_;refine aA ?_)
 all_goals (first|refine aG ?_|(refine aC ?_;refine aA ?_)|(refine dG 99 (λ g99=>?_) (λ g99=>?_)<;>(try (contradiction))<;>(first|refine aG ?_|(refine aC ?_;refine aA ?_))))
 all_goals ((first|refine aG ?_|(refine aC ?_;refine aA ?_));refine rM ?_;refine aA ?_)
 all_goals (first|refine aG ?_|(refine aC ?_;refine aA ?_)|(refine dG 104 (λ g104=>?_) (λ g104=>?_)<;>(try (contradiction))<;>(first|refine aG ?_|(refine aC ?_;refine aA ?_))))
 all_goals ((first|refine aG ?_|(refine aC ?_;refine aA ?_));((first|refine aG ?_|(refine aC ?_;(refine aF (cV (v:=.bool true) (hc:=λ w1 hw=>by have:=Jk (ca:=x62.2) (cb:=x68.2) (hw.cl (.new (.tail .head))) (hw.cl (.new .head)) (show l.length<4611686018427387904 by omega);rw[beq_self_eq_true] at this;exact this)) (λ x107=>?_);try (refine aB (λ h107=>?_))))));refine cH ?_;refine J1 ?_)
 all_goals
 refine aR Tryz.results21 (λ w hw=>?_)
 exact⟨rfl,hw.done⟩
theorem Ur(h:fV w L cs pn pc)(hr:lD L)(hl:L.length<=274877906944)(hc:cs.length<=274877906944)(hcn:L.length<=cn){B:Nat}(hB:∀v∈L,v.ys.length<=B)(hBl:(L.length+1)*(B+64)<=549755813888)(c:Int)(ro:Bool)(hi:c<=9223372036854775807)(i:Int)(hi2:i<=9223372036854775807) :
  Calls Tryz.prog 21 #[kJ L cs gen pn cn pc cc,.agg ⟨[.int .i64 c,.bool ro]⟩,.int .i64 i] w λ e w'=>e=.returned (.bool true)/\St w [] [] w':=by
 rcases Xl (L:=L) (cs:=cs) (gen:=gen) (c:=c) with⟨h1,h2⟩|⟨l,q,h1,h2,h3,h4⟩
 ·exact P7 h hr hl hc hcn hB hBl c ro hi i hi2 h1 h2
 ·exact Qi h hr hl hc hcn hB hBl c ro hi i hi2 h1 h2 h3.symm h4.symm
end
end

/- An execution of the reference: its state, and how it stands to a tree. -/
end Go.Proofs.YtpobgmdalcpomaaGreat
namespace Go.Ct
section
open Go Go.RowKit
structure XS where
 L:List aQ
 cs:List Int
 gen:Int
 acc:Int
 pn:Option Addr
 cn:Nat
 pc:Option Addr
 cc:Nat
 got:List Int
 made:List Int
 cel:List Int
 gns:List Int
 pg:Option Addr
 kg:Nat
 pm:Option Addr
 km:Nat
 pl:Option Addr
 kl:Nat
 pe:Option Addr
 ke:Nat
 a:Nat
 m:Nat
 c:Nat
 g:Nat
 fr:Nat
 st:Bool
 nx:Ac
def XS.nodes(x:XS):List Nv:=x.L.map aQ.c
def XS.mm(x:XS):Mm:=⟨x.L.map aQ.c,x.cs,x.gen⟩
structure Gx where
 T:Tr
 R:Tr
 s:Mm
 fr:Nat
 N:Nat
structure Gx.Ok(g:Gx):Prop where
 vM:cO g.T g.N 64
 tameR:∃n,g.fr<=n/\cO g.R n 64
 hN:g.N<=1073741824
 hf:g.fr<=1
 hs:g.s.nodes.length<=137438953472/\g.s.cs.length<=137438953472/\g.s.gen<=137438953472
structure vv(g:Gx)(x:XS)(t R:Tr):Prop where
 pre:Wk x.nodes g.T (x.got.take x.a) (x.made.take x.m) (x.cel.take x.c) (x.gns.take x.g) t
 suf:Wk x.nodes t (x.got.drop x.a) (x.made.drop x.m) (x.cel.drop x.c) (x.gns.drop x.g) R
 rc:Rc (g.fr-x.fr) g.R g.s R x.mm
 hf:x.fr<=g.fr
 la:x.a<=x.got.length
 lm:x.m<=x.made.length
 lc:x.c<=x.cel.length
 lg:x.g<=x.gns.length
 hN:x.got.length+x.fr<=g.N
def Gd(g:Gx)(x:XS)(t:Tr):Prop:=∃R,vv g x t R
def Tr.acc:Tr->Option Ac
 | .load c _=>some ⟨1,c,0,0⟩
 | .qN c o n _=>some ⟨2,c,o,n⟩
 | _=>none
structure si(g:Gx)(x:XS)(R:Tr):Prop where
 ac:R.acc=some x.nx
 wk:Wk x.nodes g.T x.got x.made x.cel x.gns R
 rc:Rc g.fr g.R g.s R x.mm
 hN:x.got.length<=g.N
def v7(g:Gx)(x:XS):Prop:=∃R,si g x R
def gC(g:Gx)(x:XS)(t:Tr):Prop:=(x.st=false/\Gd g x t)∨(x.st=true/\v7 g x)
theorem gC.cA{g:Gx}{x:XS}{t t':Tr}(h:gC g x t)(hs:x.st=true):gC g x t':=by
 rcases h with h|h
 ·rw[hs] at h;exact nomatch h.1
 ·exact .inr h
theorem gC.run{g:Gx}{x:XS}{t:Tr}(h:gC g x t)(hs:x.st=false):Gd g x t:=by
 rcases h with h|h
 ·exact h.2
 ·rw[hs] at h;exact nomatch h.1
theorem gC.to{g:Gx}{x:XS}{t t':Tr}(h:gC g x t)(e:x.st=false->t=t'):gC g x t':=by
 rcases h with h|h
 ·exact .inl ⟨h.1,e h.1▸h.2⟩
 ·exact .inr h
theorem drop_cons{l:List Int}{k:Nat}(h:k<l.length):l.drop k=l.getD k 0::l.drop (k+1):=by
 rw[List.drop_eq_getElem_cons h]
 simp[gdg,h]
theorem lH{l:List Int}{k:Nat}(h:k<l.length):l.take (k+1)=l.take k++[l.getD k 0]:=by
 rw[List.take_add_one]
 simp[gdg,h]
theorem Wk.na{L:List Nv}{c:Int}{k:Int->Tr}(v:Int):Wk L (.load c k) [v] [] [] [] (k v):=.load (.nil _)
theorem Wk.u4{L:List Nv}{c o n:Int}{k:Bool->Tr}(v:Int):Wk L (.qN c o n k) [v] [] [] [] (k (v==1)):=.qN (.nil _)
theorem Wk.ay{L:List Nv}{n:Nv}{i:Int}{k:Int->Tr}(v:Int):Wk L (.alloc n i k) [] [v] [] [] (k v):=.alloc (.nil _)
theorem Wk.Iq{L:List Nv}{i:Int}{k:Int->Tr}(v:Int):Wk L (.cell i k) [] [] [v] [] (k v):=.cell (.nil _)
theorem Wk.ug{L:List Nv}{k:Int->Tr}(v:Int):Wk L (.gen k) [] [] [] [v] (k v):=.gen (.nil _)
theorem Wk.node1{L:List Nv}{r:Int}{k:Nv->Tr}(h:r<=L.length):Wk L (.node r k) [] [] [] [] (k (cG L r)):=.node h (.nil _)
section
variable{g:Gx}{x:XS}{c o n i r:Int}{k:Int->Tr}{kb:Bool->Tr}{kn:Nv->Tr}{nn:Nv}{t R:Tr}
theorem vv.full(h:vv g x t R):Wk x.nodes g.T x.got x.made x.cel x.gns R:=by
 have:=h.pre.trans h.suf
 simpa only[List.take_append_drop] using this
theorem wN{l:List Int}{k:Nat}(h:l.drop k=[])(h2:k<=l.length):k=l.length:=by
 have:=List.drop_eq_nil_iff.1 h;omega
theorem Gd.E9(h:Gd g x (.load c k))(ha:x.a<x.got.length):Gd g {x with a:=x.a+1} (k (x.got.getD x.a 0)):=by
 obtain⟨R,h⟩:=h
 have hs:=h.suf
 rw[drop_cons ha] at hs
 have hp:=h.pre.trans (Wk.na (x.got.getD x.a 0))
 simp only[List.append_nil] at hp
 rw[<- lH ha] at hp
 cases hs with
 | load hs=>exact⟨R,hp,hs,h.rc,h.hf,ha,h.lm,h.lc,h.lg,h.hN⟩
theorem Gd.Jm(h:Gd g x (.qN c o n kb))(ha:x.a<x.got.length):Gd g {x with a:=x.a+1} (kb (x.got.getD x.a 0==1)):=by
 obtain⟨R,h⟩:=h
 have hs:=h.suf
 rw[drop_cons ha] at hs
 have hp:=h.pre.trans (Wk.u4 (x.got.getD x.a 0))
 simp only[List.append_nil] at hp
 rw[<- lH ha] at hp
 cases hs with
 | qN hs=>exact⟨R,hp,hs,h.rc,h.hf,ha,h.lm,h.lc,h.lg,h.hN⟩
structure AtR(g:Gx)(x:XS)(t:Tr):Prop where
 wk:Wk x.nodes g.T x.got x.made x.cel x.gns t
 rc:Rc (g.fr-x.fr) g.R g.s t x.mm
 hf:x.fr<=g.fr
 ea:x.a=x.got.length
 em:x.m=x.made.length
 ec:x.c=x.cel.length
 eg:x.g=x.gns.length
 hN:x.got.length+x.fr<=g.N
theorem AtR.vw(h:AtR g x t):Gd g x t:=by
 refine⟨t,?_,?_,h.rc,h.hf,by rw[h.ea];exact Nat.le_refl _,by rw[h.em];exact Nat.le_refl _,by rw[h.ec];exact Nat.le_refl _,by rw[h.eg];exact Nat.le_refl _,h.hN⟩
 ·rw[h.ea,h.em,h.ec,h.eg];simpa using h.wk
 ·rw[h.ea,h.em,h.ec,h.eg];simpa using Wk.nil t
theorem vv.atR(h:vv g x t t)(h1:x.got.drop x.a=[])(h2:x.made.drop x.m=[])(h3:x.cel.drop x.c=[])(h4:x.gns.drop x.g=[]):AtR g x t :=
 ⟨h.full,h.rc,h.hf,wN h1 h.la,wN h2 h.lm,wN h3 h.lc,wN h4 h.lg,h.hN⟩
theorem Gd.ef(h:Gd g x (.load c k))(ha:¬x.a<x.got.length):AtR g x (.load c k):=by
 obtain⟨R,h⟩:=h
 have hs:=h.suf
 have e:x.got.drop x.a=[]:=List.drop_eq_nil_iff.2 (by omega)
 rw[e] at hs
 generalize e2:x.made.drop x.m=l2 at hs
 generalize e3:x.cel.drop x.c=l3 at hs
 generalize e4:x.gns.drop x.g=l4 at hs
 cases hs
 exact h.atR e e2 e3 e4
theorem Gd.th(h:Gd g x (.qN c o n kb))(ha:¬x.a<x.got.length):AtR g x (.qN c o n kb):=by
 obtain⟨R,h⟩:=h
 have hs:=h.suf
 have e:x.got.drop x.a=[]:=List.drop_eq_nil_iff.2 (by omega)
 rw[e] at hs
 generalize e2:x.made.drop x.m=l2 at hs
 generalize e3:x.cel.drop x.c=l3 at hs
 generalize e4:x.gns.drop x.g=l4 at hs
 cases hs
 exact h.atR e e2 e3 e4
theorem AtR.stop{y:XS}(h:AtR g x t)(h0:x.fr=0)(ht:t.acc=some y.nx)(hs:y.st=true)(e1:y.got=x.got)(e2:y.made=x.made)(e3:y.cel=x.cel)(e4:y.gns=x.gns)(e5:y.L=x.L)(e6:y.cs=x.cs)(e7:y.gen=x.gen):gC g y t:=by
 refine .inr ⟨hs,t,ht,?_,?_,?_⟩
 ·simp only[XS.nodes,e1,e2,e3,e4,e5];exact h.wk
 ·have:=h.rc
  rw[h0] at this
  simpa only[XS.mm,e5,e6,e7,Nat.sub_zero] using this
 ·rw[e1];have:=h.hN;omega
theorem AtR.now{y:XS}{t':Tr}{v:Int}(h:AtR g x t)(h0:0<x.fr)(hw:∀L,Wk L t [v] [] [] [] t')(hl:Lp t x.mm t' y.mm)
  (hs:y.st=false) (e1:y.got=x.got++[v]) (e2:y.made=x.made) (e3:y.cel=x.cel) (e4:y.gns=x.gns) (e5:y.L=x.L) (e8:y.fr=x.fr-1) (e9:y.a=x.a+1) (em:y.m=x.m) (ec:y.c=x.c) (eg:y.g=x.g):gC g y t':=by
 refine .inl ⟨hs,AtR.vw ⟨?_,?_,by have:=h.hf;omega,by rw[e9,e1,h.ea];simp,by rw[em,e2,h.em],by rw[ec,e3,h.ec],by rw[eg,e4,h.eg],by rw[e1,e8];have:=h.hN;simp;omega⟩⟩
 ·have:=h.wk.trans (hw x.nodes)
  simp only[List.append_nil] at this
  simp only[XS.nodes,e1,e2,e3,e4,e5];exact this
 ·have:=h.rc.loud hl
  rwa [show g.fr-x.fr+1=g.fr-y.fr by have:=h.hf;omega] at this
theorem Gd.alloc_old(h:Gd g x (.alloc nn i k))(ha:x.m<x.made.length):Gd g {x with m:=x.m+1} (k (x.made.getD x.m 0)):=by
 obtain⟨R,h⟩:=h
 have hs:=h.suf
 rw[drop_cons ha] at hs
 have hp:=h.pre.trans (Wk.ay (x.made.getD x.m 0))
 simp only[List.append_nil] at hp
 rw[<- lH ha] at hp
 generalize e0:x.got.drop x.a=l0 at hs
 generalize e1:x.cel.drop x.c=l1 at hs
 generalize e2:x.gns.drop x.g=l2 at hs
 cases hs with
 | alloc hs=>exact⟨R,hp,by simp only[];rw[e0,e1,e2];exact hs,h.rc,h.hf,h.la,ha,h.lc,h.lg,h.hN⟩
theorem Gd.Xy(h:Gd g x (.alloc nn i k))(ha:x.m=x.made.length):AtR g x (.alloc nn i k):=by
 obtain⟨R,h⟩:=h
 have hs:=h.suf
 have e:x.made.drop x.m=[]:=List.drop_eq_nil_iff.2 (by omega)
 rw[e] at hs
 generalize e2:x.got.drop x.a=l2 at hs
 generalize e3:x.cel.drop x.c=l3 at hs
 generalize e4:x.gns.drop x.g=l4 at hs
 cases hs
 exact h.atR e2 e e3 e4
theorem Gd.Dw(h:Gd g x (.cell i k))(ha:x.c<x.cel.length):Gd g {x with c:=x.c+1} (k (x.cel.getD x.c 0)):=by
 obtain⟨R,h⟩:=h
 have hs:=h.suf
 rw[drop_cons ha] at hs
 have hp:=h.pre.trans (Wk.Iq (x.cel.getD x.c 0))
 simp only[List.append_nil] at hp
 rw[<- lH ha] at hp
 generalize e0:x.got.drop x.a=l0 at hs
 generalize e1:x.made.drop x.m=l1 at hs
 generalize e2:x.gns.drop x.g=l2 at hs
 cases hs with
 | cell hs=>exact⟨R,hp,by simp only[];rw[e0,e1,e2];exact hs,h.rc,h.hf,h.la,h.lm,ha,h.lg,h.hN⟩
theorem Gd.fv(h:Gd g x (.cell i k))(ha:x.c=x.cel.length):AtR g x (.cell i k):=by
 obtain⟨R,h⟩:=h
 have hs:=h.suf
 have e:x.cel.drop x.c=[]:=List.drop_eq_nil_iff.2 (by omega)
 rw[e] at hs
 generalize e2:x.got.drop x.a=l2 at hs
 generalize e3:x.made.drop x.m=l3 at hs
 generalize e4:x.gns.drop x.g=l4 at hs
 cases hs
 exact h.atR e2 e3 e e4
theorem Gd.It(h:Gd g x (.gen k))(ha:x.g<x.gns.length):Gd g {x with g:=x.g+1} (k (x.gns.getD x.g 0)):=by
 obtain⟨R,h⟩:=h
 have hs:=h.suf
 rw[drop_cons ha] at hs
 have hp:=h.pre.trans (Wk.ug (x.gns.getD x.g 0))
 simp only[List.append_nil] at hp
 rw[<- lH ha] at hp
 generalize e0:x.got.drop x.a=l0 at hs
 generalize e1:x.made.drop x.m=l1 at hs
 generalize e2:x.cel.drop x.c=l2 at hs
 cases hs with
 | gen hs=>exact⟨R,hp,by simp only[];rw[e0,e1,e2];exact hs,h.rc,h.hf,h.la,h.lm,h.lc,ha,h.hN⟩
theorem Gd.rj(h:Gd g x (.gen k))(ha:x.g=x.gns.length):AtR g x (.gen k):=by
 obtain⟨R,h⟩:=h
 have hs:=h.suf
 have e:x.gns.drop x.g=[]:=List.drop_eq_nil_iff.2 (by omega)
 rw[e] at hs
 generalize e2:x.got.drop x.a=l2 at hs
 generalize e3:x.made.drop x.m=l3 at hs
 generalize e4:x.cel.drop x.c=l4 at hs
 cases hs
 exact h.atR e2 e3 e4 e
theorem Gd.node(h:Gd g x (.node r kn))(hr:r<=x.L.length):Gd g x (kn (cG x.nodes r)):=by
 have hr':r<=x.nodes.length:=by simpa[XS.nodes] using hr
 obtain⟨R,h⟩:=h
 have hs:=h.suf
 have hp:=h.pre.trans (Wk.node1 (k:=kn) hr')
 simp only[List.append_nil] at hp
 generalize e1:x.got.drop x.a=l1 at hs
 generalize e2:x.made.drop x.m=l2 at hs
 generalize e3:x.cel.drop x.c=l3 at hs
 generalize e4:x.gns.drop x.g=l4 at hs
 cases hs with
 | nil=>exact⟨_,hp,by rw[e1,e2,e3,e4];exact .nil _,h.rc.Td (.node r kn x.mm (by simpa[XS.mm] using hr)),h.hf,h.la,h.lm,h.lc,h.lg,h.hN⟩
 | node _ hs=>exact⟨R,hp,by rw[e1,e2,e3,e4];exact hs,h.rc,h.hf,h.la,h.lm,h.lc,h.lg,h.hN⟩
theorem gC.node(h:gC g x (.node r kn))(hr:r<=x.L.length):gC g x (kn (cG x.nodes r)):=by
 rcases h with h|h
 ·exact .inl ⟨h.1,h.2.node hr⟩
 ·exact .inr h
theorem AtR.Td{y:XS}{t':Tr}{ms cl gn:List Int}{N:List aQ}(h:AtR g x t)(hw:∀L,Wk L t [] ms cl gn t')(hl:Sp t x.mm t' y.mm)
  (hs:y.st=false) (e1:y.got=x.got) (e2:y.made=x.made++ms) (e3:y.cel=x.cel++cl) (e4:y.gns=x.gns++gn) (e5:y.L=x.L++N) (e8:y.fr=x.fr) (e9:y.a=x.a) (em:y.m=x.m+ms.length) (ec:y.c=x.c+cl.length) (eg:y.g=x.g+gn.length):gC g y t':=by
 refine .inl ⟨hs,AtR.vw ⟨?_,?_,by rw[e8];exact h.hf,by rw[e9,e1,h.ea],by rw[em,e2,h.em];simp,by rw[ec,e3,h.ec];simp,by rw[eg,e4,h.eg];simp,by rw[e1,e8];exact h.hN⟩⟩
 ·have:=(h.wk.trans (hw x.nodes)).mono (N:=N.map aQ.c)
  simp only[List.append_nil] at this
  have e:y.nodes=x.nodes++N.map aQ.c:=by simp[XS.nodes,e5]
  rw[e,e1,e2,e3,e4];exact this
 ·rw[e8];exact h.rc.Td hl
theorem AtR.room(hg:g.Ok)(h:AtR g x t):∃n c,cO t n c/\c<=64/\x.L.length+c<=137438953600/\x.cs.length+c<=137438953600/\x.gen+c<=137438953600/\x.made.length<=137438953472/\x.cel.length<=137438953472/\x.gns.length<=137438953472:=by
 obtain⟨n,h1,h2⟩:=hg.tameR
 have hf:=hg.hf
 obtain⟨c',t1,t2,_,t3,t4,t5⟩:=h.rc.vM (Nat.le_refl 64) h2 (by omega)
 obtain⟨c2,_,_,u3⟩:=h.wk.vM (Nat.le_refl 64) hg.vM (by have:=h.hN;omega)
 have:=hg.hs
 have:=hg.hN
 have:=h.hN
 simp only[XS.mm,List.length_map] at t3 t4 t5
 refine⟨_,c',t1,t2,by omega,by omega,by omega,by omega,by omega,by omega⟩
theorem Gd.Vb(hg:g.Ok)(h:Gd g x .stuck):False:=by
 obtain⟨R,h⟩:=h
 obtain⟨c2,u1,_,_⟩:=h.pre.vM (Nat.le_refl 64) hg.vM (by have:=h.hN;have:=h.la;simp;omega)
 exact u1
end
end

/- An execution of the reference: what is kept by every function. -/
section
open Go Go.RowKit
structure oM(n c:Nat)(v:Nv):Prop where
 cE:v.cE<=n
 exp:v.exp<=n
 new:v.new<=n
 br:∀r∈v.xs,r<=n
 main:v.main<=c
 prev:v.prev<=c
 status:v.status<=c
 bm:∃b:Nat,v.bm=(b:Int)/\b<18446744073709551616
 hash:∃b:Nat,v.hash=(b:Int)/\b<18446744073709551616
theorem oM.mono{n c n' c':Nat}{v:Nv}(h:oM n c v)(h1:n<=n')(h2:c<=c'):oM n' c' v :=
 ⟨by have:=h.cE;omega,by have:=h.exp;omega,by have:=h.new;omega,λ r hr=>by have:=h.br r hr;omega,by have:=h.main;omega,by have:=h.prev;omega,by have:=h.status;omega,h.bm,h.hash⟩
theorem ax(n c:Nat):oM n c Nv.zero:=⟨bS _,bS _,bS _,(λ r hr=>nomatch hr),bS _,bS _,bS _,⟨0,rfl,by decide⟩,⟨0,rfl,by decide⟩⟩
structure XS.Ok(x:XS):Prop where
 fit:Fits x.L
 nd:∀v∈x.L,oM x.L.length x.cs.length v.c
 cs:∀v∈x.cs,v<=x.L.length
 got:∀v∈x.got,v<=x.L.length
 made:∀v∈x.made,v<=x.L.length
 two:2<=x.L.length
 lL:x.L.length<=137438953600
 lc:x.cs.length<=137438953600
 lg:x.got.length<=1073741824
 la:x.a<=x.got.length
 lm:x.m<=x.made.length
 lk:x.c<=x.cel.length
 le:x.g<=x.gns.length
 fr:x.fr<=1
 ys:∀v∈x.L,v.ys.length<=x.L.length
 gen0:0<=x.gen
 ms:∀i j:Nat,i<j->j<x.made.length->x.made.getD i 0<x.made.getD j 0
 m1:∀v∈x.made,1<=v
theorem mX{l:List Int}{n:Nat}(h:∀v∈l,v<=n)(k:Nat):l.getD k 0<=n:=by
 rw[gdg]
 cases hk:l[k]? with
 | none=>exact bS n
 | some v=>exact h v (List.mem_of_getElem? hk)
theorem XS.Ok.nv{x:XS}(h:x.Ok)(r:Int):oM x.L.length x.cs.length (aD x.L r).c:=by
 unfold aD
 split
 ·exact h.nd _ (fX (by omega))
 ·exact ax _ _
theorem XS.Ok.cell{x:XS}(h:x.Ok)(c:Int):bY x.cs c<=x.L.length:=by
 unfold bY
 split
 ·exact mX h.cs _
 ·exact bS _
structure Nx(g:Gx)(x x':XS)(N:List aQ)(t:Tr)(b:Int):Prop where
 go:gC g x' t
 ok:x'.Ok
 ext:x'.L=x.L++N
 lc:x.cs.length<=x'.cs.length
 bd:b<=x'.L.length
def Ch(x0 x:XS)(F:Fr):Prop:=∃N,x.L=x0.L++N/\∀f∈bG N,f.2=[]∨f∈F
theorem Ch.base{x0:XS}{F:Fr}:Ch x0 x0 F:=⟨[],by simp,λ f hf=>by simp[bG] at hf⟩
theorem Ch.ext{x0 x x':XS}{F:Fr}{N:List aQ}(h:Ch x0 x F)(e:x'.L=x.L++N):Ch x0 x' (bG N++F):=by
 obtain⟨M,h1,h2⟩:=h
 refine⟨M++N,by rw[e,h1,List.append_assoc],λ f hf=>?_⟩
 rw[fC] at hf
 rcases List.mem_append.1 hf with hf|hf
 ·exact(h2 f hf).imp_right λ h=>List.mem_append_right _ h
 ·exact .inr (List.mem_append_left _ hf)
theorem Ch.nx{g:Gx}{x0 x x':XS}{F:Fr}{N:List aQ}{t:Tr}{b:Int}(h:Nx g x x' N t b)(hc:Ch x0 x F):Ch x0 x' (bG N++F):=hc.ext h.ext
theorem Ch.cons{x0 x:XS}{F:Fr}{f:Option Addr×List Value}(h:Ch x0 x F):Ch x0 x (f::F):=by
 obtain⟨M,h1,h2⟩:=h
 exact⟨M,h1,λ g hg=>(h2 g hg).imp_right λ h=>List.mem_cons_of_mem _ h⟩
theorem Ch.all{x0 x:XS}{A F:Fr}{O:List Ow}(h:Ch x0 x F)(hA:∀f∈bG x0.L,f∈A):dA A F O (bG x.L):=by
 obtain⟨M,h1,h2⟩:=h
 refine .of λ f hf=>?_
 rw[h1,fC] at hf
 rcases List.mem_append.1 hf with hf|hf
 ·exact .inr (.inl (hA f hf))
 ·exact(h2 f hf).imp_right λ h=>.inr (.inl h)
theorem SF.Xv{w0 w:World}{M:List Nat}{H:List (Nat×Obj)}{A F:Fr}{O:List Ow}{x0 x:XS}(h:SF w0 M H A F O w)(hc:Ch x0 x F)(hA:∀f∈bG x0.L,f∈A)(ok:x.Ok)(r:Int):pQ w (aD x.L r).nd (aD x.L r).xs (aD x.L r).ys:=by
 unfold aD
 split
 ·have hv:=fX (L:=x.L) (k:=(r-1).toNat) (by omega)
  have hk:=(hc.all (O:=O) hA).get
  generalize x.L.getD (r-1).toNat aQ.zero=v at hv ⊢
  exact(ok.fit _ hv).rJ (h.vg (hk (v.nd.brA,aJ v.xs) (nM.2 ⟨v,hv,by simp[aQ.fr]⟩))) (h.vg (hk (v.nd.prA,dI v.ys) (nM.2 ⟨v,hv,by simp[aQ.fr]⟩)))
 ·exact Me.rJ (Cl.nil _ _) (Cl.nil _ _)
end

end Go.Ct
