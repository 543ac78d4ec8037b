/- Views: Contents, Inner, Root, Main. -/
import Derived.Test.YtpobgmdalcpomaaGreatGPa1
import Derived.Test.YtpobgmdalcpomaaGreatAuto
import Derived.Test.YtpobgmdalcpomaaGreatGBitsE

set_option linter.unusedSimpArgs false
set_option linter.unusedVariables false
namespace Go.Proofs.YtpobgmdalcpomaaGreat
section
open Go Go.RowKit Go.Ct
section
variable{L:List aQ}{cs:List Int}{gen:Int}{pn pc:Option Addr}{cn cc:Nat}{w:World}
theorem Py{c:Int}{l:List Int}(h:nN L cs gen c=some l):dK L cs gen/\∃r t,fU (L.map aQ.c) cs c=some r/\zY (L.map aQ.c) cs 12 r []=some (r::t)/\l=r::t:=by
 unfold nN at h
 split at h
 ·rename_i hp
  obtain⟨r,hr,h⟩:=Option.bind_eq_some_iff.1 h
  obtain⟨t,ht⟩:=Kp 12 r [] l h
  rw[List.nil_append] at ht
  exact⟨hp,r,t,hr,by rw[h,ht],ht⟩
 ·cases h
theorem Uw(h:fV w L cs pn pc)(hr:lD L)(hl:L.length<=274877906944)(hc:cs.length<=274877906944)(hcn:L.length<=cn)(c:Int)(ro:Bool)(hi:c<=9223372036854775807)(hn:nN L cs gen c=none):Calls Tryz.prog 23 #[kJ L cs gen pn cn pc cc,.agg ⟨[.int .i64 c,.bool ro]⟩] w λ e w'=>e=.returned (.tuple #[.slice none 0 0,.int .i64 1])/\St w [] [] w':=by
 refine enter Tryz.func23 Tryz.ntmps23 rfl rfl h.start ?_
 simp only[dB]
 simp only[kJ]
 all_goals (refine J0 ?_;refine bM (λ x2=>?_);refine bM (λ x3=>?_);refine J8 ?_;refine iU ?_;refine bJ ?_;(refine aF (cV (hc:=λ w1 hw=>Bs (h.kC hw) hr hl hc hcn c ro hi hn)) (λ x11=>?_);try (refine aB (λ h11=>?_)));refine pZ ?_;refine J8 ?_;refine jS ?_;refine kD ?_)
 all_goals
 refine bF (λ c15=>?_) (λ c15=>?_)
 ·try exact nv c15
  all_goals refine qE ?_
  all_goals
   refine bH Tryz.results23 (λ w hw=>?_)
   exact⟨rfl,hw.done⟩
 ·try exact nv c15
  all_goals (refine Rt ?_;refine J8 ?_)
  all_goals
   refine bH Tryz.results23 (λ w hw=>?_)
   exact⟨rfl,hw.done⟩
theorem Hp(h:fV w L cs pn pc)(hr:lD L)(hl:L.length<=274877906944)(hc:cs.length<=274877906944)(hcn:L.length<=cn)(c:Int)(ro:Bool)(hi:c<=9223372036854775807){l:List Int}(hn:nN L cs gen c=some l):Calls Tryz.prog 23 #[kJ L cs gen pn cn pc cc,.agg ⟨[.int .i64 c,.bool ro]⟩] w λ e w'=>∃x:Option Addr×Nat,e=.returned (.tuple #[.slice x.1 l.length x.2,.int .i64 0])/\l.length<=L.length/\SF w [] [] [] [(x.1,aJ l)] [] w':=by
 refine enter Tryz.func23 Tryz.ntmps23 rfl rfl h.start ?_
 simp only[dB]
 simp only[kJ]
 all_goals (refine J0 ?_;refine bM (λ x2=>?_);refine bM (λ x3=>?_);refine J8 ?_;refine iU ?_;refine bJ ?_;(refine aF (Y0 (Fc:=λ _=>[]) (hc:=λ w1 hw=>B0 (h.kC hw) hr hl hc hcn c ro hi hn)) (λ x11=>?_);try (refine aB (λ h11=>?_)));refine pZ ?_;refine J8 ?_;refine jS ?_;refine kD ?_)
 all_goals
 refine bF (λ c15=>?_) (λ c15=>?_)
 ·try exact nv c15
  all_goals refine qE ?_
  all_goals
   refine bH Tryz.results23 (λ w hw=>?_)
   obtain⟨e1,e2⟩:=h11
   rw[e1] at hw ⊢
   exact⟨(x11.2.2.p,x11.2.2.c),rfl,e2,(hw.freeze (.tail .head)).fin⟩
 ·try exact nv c15
  all_goals (refine Rt ?_;refine J8 ?_)
  all_goals
   refine bH Tryz.results23 (λ w hw=>?_)
   obtain⟨e1,e2⟩:=h11
   rw[e1] at hw ⊢
   exact⟨(x11.2.2.p,x11.2.2.c),rfl,e2,(hw.freeze (.tail .head)).fin⟩
theorem Y8(h:fV w L cs pn pc)(hr:lD L)(hl:L.length<=274877906944)(hc:cs.length<=274877906944)(hcn:L.length<=cn)(c:Int)(ro:Bool)(hi:c<=9223372036854775807)(hn:nN L cs gen c=none):Calls Tryz.prog 8 #[kJ L cs gen pn cn pc cc,.agg ⟨[.int .i64 c,.bool ro]⟩] w λ e w'=>e=.returned (.tuple #[.slice none 0 0,.int .i64 1])/\St w [] [] w':=by
 refine enter Tryz.func8 Tryz.ntmps8 rfl rfl h.start ?_
 simp only[dB]
 simp only[kJ]
 all_goals (refine J0 ?_;refine bM (λ x2=>?_);refine bM (λ x3=>?_);refine J8 ?_;refine iU ?_;refine bJ ?_;(refine aF (cV (hc:=λ w1 hw=>Bs (h.kC hw) hr hl hc hcn c ro hi hn)) (λ x11=>?_);try (refine aB (λ h11=>?_)));refine pZ ?_;refine J8 ?_;refine jS ?_;refine kD ?_)
 all_goals
 refine bF (λ c15=>?_) (λ c15=>?_)
 ·try exact nv c15
  all_goals refine qE ?_
  all_goals
   refine bH Tryz.results8 (λ w hw=>?_)
   exact⟨rfl,hw.done⟩
 ·try exact nv c15
  all_goals (refine Ak ?_;refine eF ?_;refine J3 ?_;refine Dc ?_;(refine aF (NO) (λ x23=>?_);try (refine aB (λ h23=>?_)));refine aN ?_;refine kZ ?_;refine J8 ?_)
  all_goals
   refine bH Tryz.results8 (λ w hw=>?_)
   exact⟨rfl,hw.done⟩
theorem Mt(h:fV w L cs pn pc)(hr:lD L)(hl:L.length<=274877906944)(hc:cs.length<=274877906944)(hcn:L.length<=cn)(c:Int)(ro:Bool)(hi:c<=9223372036854775807){l:List Int}(hn:nN L cs gen c=some l)(hpl:(yW (L.map aQ.c) cs 12 (l.headD 0)).length<=549755813888):Calls Tryz.prog 8 #[kJ L cs gen pn cn pc cc,.agg ⟨[.int .i64 c,.bool ro]⟩] w λ e w'=>∃x:Option Addr×Nat,e=.returned (.tuple #[.slice x.1 (yW (L.map aQ.c) cs 12 (l.headD 0)).length x.2,.int .i64 0])/\True/\SF w [] [] [] [(x.1,dI (yW (L.map aQ.c) cs 12 (l.headD 0)))] [] w':=by
 obtain⟨hp,r,t,hrt,hv,e⟩:=Py hn
 have hb:=sO hp hr hl
 obtain⟨k,hk,hkl⟩:=zE hrt
 subst e
 refine enter Tryz.func8 Tryz.ntmps8 rfl rfl (h.start.jK 47 2) ?_
 simp only[dB]
 simp only[kJ]
 all_goals (refine J0 ?_;refine bM (λ x2=>?_);refine bM (λ x3=>?_);refine J8 ?_;refine iU ?_;refine bJ ?_;(refine aF (Y0 (Fc:=λ _=>[]) (hc:=λ w1 hw=>B0 (h.kC hw) hr hl hc hcn c ro hi hn)) (λ x11=>?_);try (refine aB (λ h11=>?_)));refine pZ ?_;refine J8 ?_;refine jS ?_;refine kD ?_)
 all_goals
 refine bF (λ c15=>?_) (λ c15=>?_)
 ·try exact nv c15
  all_goals refine qE ?_
  all_goals
   refine bH Tryz.results8 (λ w hw=>?_)
   have e4:x23.ps=yW (L.map aQ.c) cs 12 ((List.cons r t).headD 0):=by simpa using h23
   rw[e4] at hw ⊢
   exact⟨(x23.p,x23.c),rfl,trivial,(hw.freeze (.tail (.tail .head))).fin⟩
 ·try exact nv c15
  all_goals
   obtain⟨e1,e2⟩:=h11
   have e3:x11.2.2.l.length=(List.cons r t).length:=by rw[e1]
   rw[List.length_cons] at e3
  all_goals (refine Ak ?_;refine eF ?_;refine J3 ?_;refine aH (bW (k:=0) (lst:=x11.2.2.l) rf rf fG bU fin (by omega) (by omega)) rfl ?_;refine aH (cJ (q:=0) (lst:=x11.2.2.l) rf bU fin (by omega)) rfl ?_;(refine aF (cM (hs:=[(x11.1,ck L cs gen pn cn pc cc (.slice (some ⟨x11.2.1,0,none⟩) L.length L.length) (.slice x11.2.2.p x11.2.2.l.length x11.2.2.c) ⟨[],none,0⟩)]) (os:=sv ⟨[],none,0⟩) (hc:=λ w1 hs=>by have:=H3 (gen:=gen) (cn:=cn) (cc:=cc) h.fit hb hl hc x11.1 (.slice (some ⟨x11.2.1,0,none⟩) L.length L.length) (.slice x11.2.2.p x11.2.2.l.length x11.2.2.c) 12 r ⟨[],none,0⟩ _ w1 (by omega) ⟨[],_,hv⟩ (by simpa using hpl) hs;rw[e1];exact this)) (λ x23=>?_);try (refine aB (λ h23=>?_)));refine aN ?_;refine kZ ?_;refine J8 ?_)
  all_goals
   refine bH Tryz.results8 (λ w hw=>?_)
   have e4:x23.ps=yW (L.map aQ.c) cs 12 ((List.cons r t).headD 0):=by simpa using h23
   rw[e4] at hw ⊢
   exact⟨(x23.p,x23.c),rfl,trivial,(hw.freeze (.tail (.tail .head))).fin⟩
end
end

/- Views: Root, Main. -/
section
open Go Go.RowKit Go.Ct
section
variable{L:List aQ}{cs:List Int}{gen:Int}{pn pc:Option Addr}{cn cc:Nat}{w:World}
open Classical in
noncomputable def Hy (L:List aQ) (cs:List Int) (gen:Int) (o:Option Int):Option Int:=if dK L cs gen then o else none
theorem Nh(h:fV w L cs pn pc)(hr:lD L)(hl:L.length<=274877906944)(hc:cs.length<=274877906944)(hcn:L.length<=cn)(c:Int)(ro:Bool)(hi:c<=9223372036854775807):Calls Tryz.prog 24 #[kJ L cs gen pn cn pc cc,.agg ⟨[.int .i64 c,.bool ro]⟩] w λ e w'=>e=.returned (.tuple #[.int .i64 ((Hy L cs gen (fU (L.map aQ.c) cs c)).getD 0),.bool (Hy L cs gen (fU (L.map aQ.c) cs c)).isSome])/\St w [] [] w':=by
 refine enter Tryz.func24 Tryz.ntmps24 rfl rfl h.start ?_
 simp only[dB]
 simp only[kJ]
 all_goals (refine J0 ?_;refine bM (λ x2=>?_);refine bM (λ x3=>?_);refine J8 ?_;refine aT ?_;refine iU ?_;(refine aF (c0 (V:=.bool) (hc:=λ w1 hw=>A8 (h.kC hw) hl hc hcn)) (λ x7=>?_);try (refine aB (λ h7=>?_)));refine kD ?_)
 all_goals
 refine bF (λ c8=>?_) (λ c8=>?_)
 ·try exact nv c8
  all_goals
   have hn:¬dK L cs gen:=λ hp=>by rw[h7.2 hp] at c8;cases c8
  all_goals refine qE ?_
  all_goals
   refine bH Tryz.results24 (λ w hw=>?_)
   unfold Hy
   rw[if_neg hn]
   exact⟨rfl,hw.done⟩
 ·try exact nv c8
  all_goals
   have hp:dK L cs gen:=h7.1 (by simpa using c8)
  all_goals (refine aZ ?_;refine iU ?_;refine bJ ?_;(refine aF (cV (hc:=λ w1 hw=>I4 (h.kC hw) (sO hp hr hl) hl hc c ro hi)) (λ x11=>?_);try (refine aB (λ h11=>?_)));refine ul ?_;refine J8 ?_)
  all_goals
   refine bH Tryz.results24 (λ w hw=>?_)
   unfold Hy
   rw[if_pos hp]
   exact⟨rfl,hw.done⟩
theorem Mn(h:fV w L cs pn pc)(hr:lD L)(hl:L.length<=274877906944)(hc:cs.length<=274877906944)(hcn:L.length<=cn)(i:Int)(hi:i<=9223372036854775807):Calls Tryz.prog 18 #[kJ L cs gen pn cn pc cc,.int .i64 i] w λ e w'=>e=.returned (.tuple #[.int .i64 ((Hy L cs gen (eR (L.map aQ.c) cs i)).getD 0),.bool (Hy L cs gen (eR (L.map aQ.c) cs i)).isSome])/\St w [] [] w':=by
 refine enter Tryz.func18 Tryz.ntmps18 rfl rfl h.start ?_
 simp only[dB]
 simp only[kJ]
 all_goals (refine J0 ?_;refine bM (λ x2=>?_);refine J8 ?_;refine aT ?_;refine iU ?_;(refine aF (c0 (V:=.bool) (hc:=λ w1 hw=>A8 (h.kC hw) hl hc hcn)) (λ x7=>?_);try (refine aB (λ h7=>?_)));refine kD ?_)
 all_goals
 refine bF (λ c8=>?_) (λ c8=>?_)
 ·try exact nv c8
  all_goals
   have hn:¬dK L cs gen:=λ hp=>by rw[h7.2 hp] at c8;cases c8
  all_goals refine qE ?_
  all_goals
   refine bH Tryz.results18 (λ w hw=>?_)
   unfold Hy
   rw[if_neg hn]
   exact⟨rfl,hw.done⟩
 ·try exact nv c8
  all_goals
   have hp:dK L cs gen:=h7.1 (by simpa using c8)
  all_goals (refine aZ ?_;refine rK ?_;(refine aF (cV (hc:=λ w1 hw=>Js (h.kC hw) (sO hp hr hl) hl hc i hi)) (λ x11=>?_);try (refine aB (λ h11=>?_)));refine ul ?_;refine J8 ?_)
  all_goals
   refine bH Tryz.results18 (λ w hw=>?_)
   unfold Hy
   rw[if_pos hp]
   exact⟨rfl,hw.done⟩
end
end

/- What is known of a list, in short. -/
end Go.Proofs.YtpobgmdalcpomaaGreat
namespace Go.Ct
section
open Go Go.RowKit
variable{w0 w:World}{M:List Nat}{H:List (Nat×Obj)}{A F:Fr}{O:List Ow}
end
end Go.Ct
namespace Go.Proofs.YtpobgmdalcpomaaGreat
section
open Go.RowKit Go.Ct
theorem sB{n:Nd}{xs:List Int}{ys:List Pr}(h:n.kind=3)(hv:bL n xs ys):(xs.length:Int)=xP n.bm/\Pos xs:=by
 obtain⟨_,_,_,_,hv⟩:=hv
 rcases hv with h1|⟨h1,_⟩|⟨_,h2,h3⟩|⟨h1|h1,_⟩|⟨h1,_⟩|⟨h1,_⟩|⟨h1,_⟩
 all_goals first|exact⟨h2,h3⟩|(rw[h] at h1;exact absurd h1 (by decide))
end

/- The reference's Valid. -/
section
open Go.RowKit Go.Ct
theorem ss (n : Nd) (h1 : 1 ≤ n.kind) (h8 : n.kind ≤ 8) (w : World) : Calls Tryz.prog 98 #[n.v] w fun e w' => e = .returned n.own.v ∧ St w [] [] w' := by
  refine enter Tryz.func98 Tryz.ntmps98 rfl rfl (SF.s0 w) ?_
  simp only [dB]
  all_goals (refine J0 ?_; refine bM (fun x1 => ?_); refine aY (fun x2 => ?_); refine aN ?_; refine Aj ?_; refine aN ?_; refine cZ ?_; refine kK ?_)
  all_goals
   refine bF (fun c5 => ?_) (fun c5 => ?_)
   · try exact nv c5
     all_goals (refine gR ?_; refine zN ?_)
     all_goals
      refine bH Tryz.results98 (fun w hw => ?_)
      first | (exfalso; omega) | exact ⟨by simp only [Nd.own, beq_iff_eq, *, if_true, if_false]; rfl, hw.done⟩
   · try exact nv c5
     all_goals refine kK ?_
     all_goals
      refine bF (fun c10 => ?_) (fun c10 => ?_)
      · try exact nv c10
        all_goals (refine gR ?_; refine J3 ?_; refine J3 ?_; refine zN ?_)
        all_goals
         refine bH Tryz.results98 (fun w hw => ?_)
         first | (exfalso; omega) | exact ⟨by simp only [Nd.own, beq_iff_eq, *, if_true, if_false]; rfl, hw.done⟩
      · try exact nv c10
        all_goals refine kK ?_
        all_goals
         refine bF (fun c19 => ?_) (fun c19 => ?_)
         · try exact nv c19
           all_goals (refine gR ?_; refine J3 ?_; refine J3 ?_; refine J3 ?_; refine zN ?_)
           all_goals
            refine bH Tryz.results98 (fun w hw => ?_)
            first | (exfalso; omega) | exact ⟨by simp only [Nd.own, beq_iff_eq, *, if_true, if_false]; rfl, hw.done⟩
         · try exact nv c19
           all_goals refine kK ?_
           all_goals
            refine bF (fun c30 => ?_) (fun c30 => ?_)
            · try exact nv c30
              all_goals (refine gR ?_; refine J3 ?_; refine J3 ?_; refine J3 ?_; refine zN ?_)
              all_goals
               refine bH Tryz.results98 (fun w hw => ?_)
               first | (exfalso; omega) | exact ⟨by simp only [Nd.own, beq_iff_eq, *, if_true, if_false]; rfl, hw.done⟩
            · try exact nv c30
              all_goals refine kK ?_
              all_goals
               refine bF (fun c41 => ?_) (fun c41 => ?_)
               · try exact nv c41
                 all_goals (refine gR ?_; refine J3 ?_; refine J3 ?_; refine J3 ?_; refine J3 ?_; refine zN ?_)
                 all_goals
                  refine bH Tryz.results98 (fun w hw => ?_)
                  first | (exfalso; omega) | exact ⟨by simp only [Nd.own, beq_iff_eq, *, if_true, if_false]; rfl, hw.done⟩
               · try exact nv c41
                 all_goals refine kK ?_
                 all_goals
                  refine bF (fun c54 => ?_) (fun c54 => ?_)
                  · try exact nv c54
                    all_goals (refine gR ?_; refine J3 ?_; refine J3 ?_; refine J3 ?_; refine zN ?_)
                    all_goals
                     refine bH Tryz.results98 (fun w hw => ?_)
                     first | (exfalso; omega) | exact ⟨by simp only [Nd.own, beq_iff_eq, *, if_true, if_false]; rfl, hw.done⟩
                  · try exact nv c54
                    all_goals refine kK ?_
                    all_goals
                     refine bF (fun c65 => ?_) (fun c65 => ?_)
                     · try exact nv c65
                       all_goals (refine gR ?_; refine J3 ?_; refine zN ?_)
                       all_goals
                        refine bH Tryz.results98 (fun w hw => ?_)
                        first | (exfalso; omega) | exact ⟨by simp only [Nd.own, beq_iff_eq, *, if_true, if_false]; rfl, hw.done⟩
                     · try exact nv c65
                       all_goals refine kK ?_
                       all_goals
                        refine bF (fun c72 => ?_) (fun c72 => ?_)
                        · try exact nv c72
                          all_goals (refine gR ?_; refine J3 ?_; refine J3 ?_; refine J3 ?_; refine J3 ?_; refine zN ?_)
                          all_goals
                           refine bH Tryz.results98 (fun w hw => ?_)
                           first | (exfalso; omega) | exact ⟨by simp only [Nd.own, beq_iff_eq, *, if_true, if_false]; rfl, hw.done⟩
                        · try exact nv c72
                          all_goals (refine mN ?_; refine J0 ?_; refine zN ?_)
                          all_goals
                           refine bH Tryz.results98 (fun w hw => ?_)
                           first | (exfalso; omega) | exact ⟨by simp only [Nd.own, beq_iff_eq, *, if_true, if_false]; rfl, hw.done⟩
theorem iB{n:Nd}{xs:List Int}{ys:List Pr}(h:n.kind=3){k:Nat}(hk:k<xs.length)(hx:xs.getD k 0<1):false=true↔bL n xs ys:=by
 simp only[Bool.false_eq_true,false_iff]
 intro hv
 have:=(sB h hv).2 k hk
 omega
theorem jN{n:Nd}{xs:List Int}{ys:List Pr}{c:Int}(h:n.kind=3)(he:qQ n n.own xs (n.jY xs) ys (n.jF ys))(h1:0<=n.main)(h2:0<=n.prev)(h3:0<=n.status)(eo:xP n.bm=c)(hp:Pos xs):((xs.length:Int)==c)=true↔bL n xs ys:=by
 rw[beq_iff_eq,<- eo]
 exact⟨λ hl=>⟨he,h1,h2,h3,.inr (.inr (.inl ⟨h,hl,hp⟩))⟩,λ hv=>(sB h hv).1⟩
theorem yO{n:Nd}{xs:List Int}{ys:List Pr}{w:World}{b:Nat}(hb:n.bm=(b:Int))(hb2:b<18446744073709551616)(hr:pQ w n xs ys) :
  Calls Tryz.prog 70 #[n.v] w λ e w'=>∃r:Bool,e=.returned (.bool r)/\(r=true↔bL n xs ys)/\St w [] [] w':=by
 have e1:=hr.brN;have e2:=hr.prN
 obtain⟨kind,gen,main,bm,brA,brN,brC,hash,key,val,prA,prN,prK,prev,cE,exp,new,status⟩:=n
 simp only at e1 e2 hb
 subst e1 e2 hb
 have eo:xP (b:Int)=((hJ b 64:Nat):Int):=qZ hb2
 have hxl:=hr.brS
 refine enter Tryz.func70 Tryz.ntmps70 rfl rfl (SF.s2 hr.br hr.pr) ?_
 simp only[dB]
 simp only[Nd.v,Nd.cells]
 all_goals (refine J0 ?_;refine bM (λ x1=>?_);refine iI ?_;refine aT ?_;refine dL [(0,[]),(1,[]),(2,[]),(3,[]),(4,[]),(5,[]),(6,[]),(7,[]),(8,[]),(9,[]),(10,[]),(11,[9]),(12,[]),(13,[]),(14,[]),(15,[]),(16,[]),(17,[]),(18,[]),(19,[]),(20,[]),(21,[]),(22,[]),(23,[]),(24,[]),(25,[]),(26,[]),(27,[]),(28,[]),(29,[])] ?_;refine jP ?_;refine Br ?_;refine aL ?_)
 all_goals (first|refine cB ?_|(refine aX ?_)|(refine wT 7 (λ g7=>?_) (λ g7=>?_)<;>(first|refine cB ?_|(refine aX ?_))))
 all_goals ((first|refine cB ?_|(refine bT ?_));(first|refine cB ?_|(refine uq ?_));refine hU ?_;refine aL ?_)
 all_goals (first|refine cB ?_|(refine bT ?_)|(refine wT 12 (λ g12=>?_) (λ g12=>?_)<;>(first|refine cB ?_|(refine bT ?_))))
 all_goals ((first|refine cB ?_|(refine bT ?_));((first|refine cB ?_|((refine bA (i:=11) (hq:=(cV (hc:=λ w1 hw=>ss (⟨kind,gen,main,(b:Int),brA,xs.length,brC,hash,key,val,prA,ys.length,prK,prev,cE,exp,new,status⟩:Nd) (show(1:Int)<=kind by omega) (show kind<=8 by omega) w1))) (h:=λ x15=>?_);try (refine aK (λ h15=>?_))))));((first|refine cB ?_|((refine bA (i:=12) (hq:=(c0 (V:=.bool) (hc:=λ w1 hw=>kf (a:=(⟨kind,gen,main,(b:Int),brA,xs.length,brC,hash,key,val,prA,ys.length,prK,prev,cE,exp,new,status⟩:Nd)) (b:=((⟨kind,gen,main,(b:Int),brA,xs.length,brC,hash,key,val,prA,ys.length,prK,prev,cE,exp,new,status⟩:Nd)).own) (hr.gA hw.done) (hr.gA hw.done).own))) (h:=λ x16=>?_);try (refine aK (λ h16=>?_))))));(first|refine cB ?_|(refine bp ?_));refine hU ?_;refine aL ?_)
 all_goals (first|refine cB ?_|(refine aX ?_)|(refine wT 19 (λ g19=>?_) (λ g19=>?_)<;>(first|refine cB ?_|(refine aX ?_))))
 all_goals ((first|refine cB ?_|(refine bT ?_));(first|refine cB ?_|(refine Br ?_));refine hU ?_;refine aL ?_)
 all_goals (first|refine cB ?_|(refine aX ?_)|(refine wT 24 (λ g24=>?_) (λ g24=>?_)<;>(first|refine cB ?_|(refine aX ?_))))
 all_goals ((first|refine cB ?_|(refine bT ?_));(first|refine cB ?_|(refine Br ?_));refine hU ?_;refine aL ?_)
 all_goals (first|refine cB ?_|(refine aX ?_)|(refine wT 29 (λ g29=>?_) (λ g29=>?_)<;>(first|refine cB ?_|(refine aX ?_))))
 all_goals ((first|refine cB ?_|(refine bT ?_));(first|refine cB ?_|(refine Br ?_));refine hU ?_;refine eO ?_)
 all_goals
 refine bF (λ c33=>?_) (λ c33=>?_)
 ·try exact nv c33
  all_goals refine dH ?_
  all_goals
   refine aR Tryz.results70 (λ w hw=>?_)
   refine⟨_,rfl,?_,hw.done⟩
   first|(simp_all[bL];done)|exact iB c41 (k:=k) (by omega) (by assumption)|exact jN c41 (h16.1 (by simpa using g19)) (show 0<=main by omega) (show 0<=prev by omega) (show 0<=status by omega) eo (λ i hi=>hx.2 i (by omega))|(simp_all[bL];omega)
 ·try exact nv c33
  all_goals (refine iW ?_;refine gR ?_;refine aN ?_;refine cZ ?_;refine kK ?_)
  all_goals
   refine bF (λ c36=>?_) (λ c36=>?_)
   ·try exact nv c36
    all_goals (refine gR ?_;refine oC ?_;refine J1 ?_)
    all_goals
    refine aR Tryz.results70 (λ w hw=>?_)
    refine⟨_,rfl,?_,hw.done⟩
    first|(simp_all[bL];done)|exact iB c41 (k:=k) (by omega) (by assumption)|exact jN c41 (h16.1 (by simpa using g19)) (show 0<=main by omega) (show 0<=prev by omega) (show 0<=status by omega) eo (λ i hi=>hx.2 i (by omega))|(simp_all[bL];omega)
   ·try exact nv c36
    all_goals refine kK ?_
    all_goals
    refine bF (λ c41=>?_) (λ c41=>?_)
    ·try exact nv c41
     all_goals (refine aT ?_;refine Cq ?_)
     all_goals
      refine gE [2,3,43,44,45,46,47,48,49,50,51,52,53,54,55] (λ k=>[(3,.int .i64 ((k:Nat):Int))]) (λ k=>k<=xs.length/\∀i,i<k->1<=xs.getD i 0) (λ k=>xs.length-k) (0) (⟨Nat.zero_le _,λ i hi=>absurd hi (Nat.not_lt_zero i)⟩) ?_ (λ k f hx=>?_)
      ·repeat (first|exact bI _|refine bE (by first|exact rfl|(conv=>{lhs;whnf};simp;done)) ?_)
      dsimp only[gW,List.map,List.cons_append,List.nil_append]
      all_goals (refine jS ?_;refine Gh ?_;refine uQ ?_)
      all_goals
      refine bF (λ c47=>?_) (λ c47=>?_)
      ·try exact nv c47
       all_goals (refine oD ?_;refine gR ?_;refine aA ?_;refine Dc ?_;refine uQ ?_)
       all_goals
        refine bF (λ c55=>?_) (λ c55=>?_)
        ·try exact nv c55
         all_goals refine dH ?_
         all_goals
         refine aR Tryz.results70 (λ w hw=>?_)
         refine⟨_,rfl,?_,hw.done⟩
         first|(simp_all[bL];done)|exact iB c41 (k:=k) (by omega) (by assumption)|exact jN c41 (h16.1 (by simpa using g19)) (show 0<=main by omega) (show 0<=prev by omega) (show 0<=status by omega) eo (λ i hi=>hx.2 i (by omega))|(simp_all[bL];omega)
        ·try exact nv c55
         all_goals (refine mN ?_;refine uH ?_)
         all_goals
         refine fD (k+1) ?_ ?_ ?_
         ·first|omega|(simp only[];omega)
         ·repeat' (first|exact bI _|refine bE ?_ ?_)
          all_goals (first|exact rfl|(conv=>{lhs;whnf};simp;done)|(conv=>{lhs;whnf};congr 1;omega))
         ·exact⟨by omega,λ i hi=>by rcases Nat.lt_succ_iff_lt_or_eq.1 hi with h|rfl;exact hx.2 i h;omega⟩
      ·try exact nv c47
       all_goals (refine bQ rfl ?_;refine aT ?_;refine dL [(0,[]),(1,[]),(2,[]),(3,[]),(4,[]),(5,[1]),(6,[]),(7,[])] ?_;refine jP ?_;refine jD ?_;refine jP ?_;((refine bA (i:=5) (hq:=(cV (hc:=λ w1 hw=>O7 hb2 w1))) (h:=λ x61=>?_);try (refine aK (λ h61=>?_))));refine mD ?_;refine J7 ?_)
       all_goals
        refine aR Tryz.results70 (λ w hw=>?_)
        refine⟨_,rfl,?_,hw.done⟩
        first|(simp_all[bL];done)|exact iB c41 (k:=k) (by omega) (by assumption)|exact jN c41 (h16.1 (by simpa using g19)) (show 0<=main by omega) (show 0<=prev by omega) (show 0<=status by omega) eo (λ i hi=>hx.2 i (by omega))|(simp_all[bL];omega)
    ·try exact nv c41
     all_goals (refine aT ?_;refine kK ?_)
     all_goals
      refine bF (λ c63=>?_) (λ c63=>?_)
      ·try exact nv c63
       all_goals refine aZ ?_
       all_goals
       refine bF (λ c63=>?_) (λ c63=>?_)
       ·try exact nv c63
        all_goals (refine gR ?_;refine lR ?_;refine Ab ?_;refine J1 ?_)
        all_goals
         refine aR Tryz.results70 (λ w hw=>?_)
         refine⟨_,rfl,?_,hw.done⟩
         first|(simp_all[bL];done)|exact iB c41 (k:=k) (by omega) (by assumption)|exact jN c41 (h16.1 (by simpa using g19)) (show 0<=main by omega) (show 0<=prev by omega) (show 0<=status by omega) eo (λ i hi=>hx.2 i (by omega))|(simp_all[bL];omega)
       ·try exact nv c63
        all_goals refine kK ?_
        all_goals
         refine bF (λ c70=>?_) (λ c70=>?_)
         ·try exact nv c70
          all_goals (refine gR ?_;refine dW ?_;refine oC ?_;refine aA ?_)
          all_goals (first|refine aG ?_|(refine aC ?_;refine aE ?_)|(refine dG 76 (λ g76=>?_) (λ g76=>?_)<;>(first|refine aG ?_|(refine aC ?_;refine aE ?_))))
          all_goals ((first|refine aG ?_|(refine aC ?_;refine bJ ?_));((first|refine aG ?_|(refine aC ?_;(refine aF (c0 (V:=.bool) (hc:=λ w1 hw=>mC (hw.cl fin) hr.prS)) (λ x79=>?_);try (refine aB (λ h79=>?_))))));refine cH ?_;refine aA ?_)
          all_goals (first|refine aG ?_|(refine aC ?_;refine aE ?_)|(refine dG 81 (λ g81=>?_) (λ g81=>?_)<;>(first|refine aG ?_|(refine aC ?_;refine aE ?_))))
          all_goals ((first|refine aG ?_|(refine aC ?_;refine bJ ?_));((first|refine aG ?_|(refine aC ?_;(refine aF (c0 (V:=.bool) (hc:=λ w1 hw=>Xk (hw.cl fin) hr.prS)) (λ x84=>?_);try (refine aB (λ h84=>?_))))));refine cH ?_;refine J1 ?_)
          all_goals
          refine aR Tryz.results70 (λ w hw=>?_)
          refine⟨_,rfl,?_,hw.done⟩
          first|(simp_all[bL];done)|exact iB c41 (k:=k) (by omega) (by assumption)|exact jN c41 (h16.1 (by simpa using g19)) (show 0<=main by omega) (show 0<=prev by omega) (show 0<=status by omega) eo (λ i hi=>hx.2 i (by omega))|(simp_all[bL];omega)
         ·try exact nv c70
          all_goals refine kK ?_
          all_goals
          refine bF (λ c86=>?_) (λ c86=>?_)
          ·try exact nv c86
           all_goals (refine gR ?_;refine oC ?_;refine J1 ?_)
           all_goals
            refine aR Tryz.results70 (λ w hw=>?_)
            refine⟨_,rfl,?_,hw.done⟩
            first|(simp_all[bL];done)|exact iB c41 (k:=k) (by omega) (by assumption)|exact jN c41 (h16.1 (by simpa using g19)) (show 0<=main by omega) (show 0<=prev by omega) (show 0<=status by omega) eo (λ i hi=>hx.2 i (by omega))|(simp_all[bL];omega)
          ·try exact nv c86
           all_goals refine kK ?_
           all_goals
            refine bF (λ c91=>?_) (λ c91=>?_)
            ·try exact nv c91
             all_goals (refine gR ?_;refine oC ?_;refine aA ?_)
             all_goals (first|refine aG ?_|(refine aC ?_;refine aE ?_)|(refine dG 96 (λ g96=>?_) (λ g96=>?_)<;>(first|refine aG ?_|(refine aC ?_;refine aE ?_))))
             all_goals (refine yj ?_;refine cH ?_;refine aA ?_)
             all_goals (first|refine aG ?_|(refine aC ?_;refine aE ?_)|(refine dG 101 (λ g101=>?_) (λ g101=>?_)<;>(first|refine aG ?_|(refine aC ?_;refine aE ?_))))
             all_goals (refine yj ?_;refine cH ?_;refine J1 ?_)
             all_goals
             refine aR Tryz.results70 (λ w hw=>?_)
             refine⟨_,rfl,?_,hw.done⟩
             first|(simp_all[bL];done)|exact iB c41 (k:=k) (by omega) (by assumption)|exact jN c41 (h16.1 (by simpa using g19)) (show 0<=main by omega) (show 0<=prev by omega) (show 0<=status by omega) eo (λ i hi=>hx.2 i (by omega))|(simp_all[bL];omega)
            ·try exact nv c91
             all_goals (refine mN ?_;refine dH ?_)
             all_goals
             refine aR Tryz.results70 (λ w hw=>?_)
             refine⟨_,rfl,?_,hw.done⟩
             first|(simp_all[bL];done)|exact iB c41 (k:=k) (by omega) (by assumption)|exact jN c41 (h16.1 (by simpa using g19)) (show 0<=main by omega) (show 0<=prev by omega) (show 0<=status by omega) eo (λ i hi=>hx.2 i (by omega))|(simp_all[bL];omega)
      ·try exact nv c63
       all_goals (refine dD ?_;refine P0 ?_)
       all_goals
       refine bF (λ c63=>?_) (λ c63=>?_)
       ·try exact nv c63
        all_goals (refine gR ?_;refine lR ?_;refine Ab ?_;refine J1 ?_)
        all_goals
         refine aR Tryz.results70 (λ w hw=>?_)
         refine⟨_,rfl,?_,hw.done⟩
         first|(simp_all[bL];done)|exact iB c41 (k:=k) (by omega) (by assumption)|exact jN c41 (h16.1 (by simpa using g19)) (show 0<=main by omega) (show 0<=prev by omega) (show 0<=status by omega) eo (λ i hi=>hx.2 i (by omega))|(simp_all[bL];omega)
       ·try exact nv c63
        all_goals refine kK ?_
        all_goals
         refine bF (λ c70=>?_) (λ c70=>?_)
         ·try exact nv c70
          all_goals (refine gR ?_;refine dW ?_;refine oC ?_;refine aA ?_)
          all_goals (first|refine aG ?_|(refine aC ?_;refine aE ?_)|(refine dG 76 (λ g76=>?_) (λ g76=>?_)<;>(first|refine aG ?_|(refine aC ?_;refine aE ?_))))
          all_goals ((first|refine aG ?_|(refine aC ?_;refine bJ ?_));((first|refine aG ?_|(refine aC ?_;(refine aF (c0 (V:=.bool) (hc:=λ w1 hw=>mC (hw.cl fin) hr.prS)) (λ x79=>?_);try (refine aB (λ h79=>?_))))));refine cH ?_;refine aA ?_)
          all_goals (first|refine aG ?_|(refine aC ?_;refine aE ?_)|(refine dG 81 (λ g81=>?_) (λ g81=>?_)<;>(first|refine aG ?_|(refine aC ?_;refine aE ?_))))
          all_goals ((first|refine aG ?_|(refine aC ?_;refine bJ ?_));((first|refine aG ?_|(refine aC ?_;(refine aF (c0 (V:=.bool) (hc:=λ w1 hw=>Xk (hw.cl fin) hr.prS)) (λ x84=>?_);try (refine aB (λ h84=>?_))))));refine cH ?_;refine J1 ?_)
          all_goals
          refine aR Tryz.results70 (λ w hw=>?_)
          refine⟨_,rfl,?_,hw.done⟩
          first|(simp_all[bL];done)|exact iB c41 (k:=k) (by omega) (by assumption)|exact jN c41 (h16.1 (by simpa using g19)) (show 0<=main by omega) (show 0<=prev by omega) (show 0<=status by omega) eo (λ i hi=>hx.2 i (by omega))|(simp_all[bL];omega)
         ·try exact nv c70
          all_goals refine kK ?_
          all_goals
          refine bF (λ c86=>?_) (λ c86=>?_)
          ·try exact nv c86
           all_goals (refine gR ?_;refine oC ?_;refine J1 ?_)
           all_goals
            refine aR Tryz.results70 (λ w hw=>?_)
            refine⟨_,rfl,?_,hw.done⟩
            first|(simp_all[bL];done)|exact iB c41 (k:=k) (by omega) (by assumption)|exact jN c41 (h16.1 (by simpa using g19)) (show 0<=main by omega) (show 0<=prev by omega) (show 0<=status by omega) eo (λ i hi=>hx.2 i (by omega))|(simp_all[bL];omega)
          ·try exact nv c86
           all_goals refine kK ?_
           all_goals
            refine bF (λ c91=>?_) (λ c91=>?_)
            ·try exact nv c91
             all_goals (refine gR ?_;refine oC ?_;refine aA ?_)
             all_goals (first|refine aG ?_|(refine aC ?_;refine aE ?_)|(refine dG 96 (λ g96=>?_) (λ g96=>?_)<;>(first|refine aG ?_|(refine aC ?_;refine aE ?_))))
             all_goals (refine yj ?_;refine cH ?_;refine aA ?_)
             all_goals (first|refine aG ?_|(refine aC ?_;refine aE ?_)|(refine dG 101 (λ g101=>?_) (λ g101=>?_)<;>(first|refine aG ?_|(refine aC ?_;refine aE ?_))))
             all_goals (refine yj ?_;refine cH ?_;refine J1 ?_)
             all_goals
             refine aR Tryz.results70 (λ w hw=>?_)
             refine⟨_,rfl,?_,hw.done⟩
             first|(simp_all[bL];done)|exact iB c41 (k:=k) (by omega) (by assumption)|exact jN c41 (h16.1 (by simpa using g19)) (show 0<=main by omega) (show 0<=prev by omega) (show 0<=status by omega) eo (λ i hi=>hx.2 i (by omega))|(simp_all[bL];omega)
            ·try exact nv c91
             all_goals (refine mN ?_;refine dH ?_)
             all_goals
             refine aR Tryz.results70 (λ w hw=>?_)
             refine⟨_,rfl,?_,hw.done⟩
             first|(simp_all[bL];done)|exact iB c41 (k:=k) (by omega) (by assumption)|exact jN c41 (h16.1 (by simpa using g19)) (show 0<=main by omega) (show 0<=prev by omega) (show 0<=status by omega) eo (λ i hi=>hx.2 i (by omega))|(simp_all[bL];omega)
end

end Go.Proofs.YtpobgmdalcpomaaGreat
