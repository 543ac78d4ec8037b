/- Merged. -/
import Derived.Test.YtdeecdfockjoiaaGreatDoorCl1
set_option linter.unusedSimpArgs false
set_option linter.unusedVariables false
namespace Go.Proofs.YtdeecdfockjoiaaGreatDoor
open Go.Proofs.Tryz
open Go Go.RowKit Go.Ct
section
section
variable{D:List Nat}{A B:Fr}{a:AS}{b:Nat}{w:World}{fu:FuncId}{cap:yK}{t:oB}
variable{o:Option Int}{c parent child level:Int}{hv:Nat}
theorem aC5(h:o.isSome=false):o≠some c:=λ e=>by rw[e] at h;cases h
theorem aCL(h:¬o.getD 0=c):o≠some c:=λ e=>h (by rw[e];rfl)
theorem lks(h:o.isSome=true)(h2:o.getD 0=c):o=some c:=by
 cases o with
 | none=>cases h
 | some x=>exact congrArg some h2
theorem Zq(t:oB)(parent child:Int)(h:Nat)(level:Int)(K:Bool->Tr):tL t parent child h level K=nG t parent λ m=>.node m λ nm=>if iU nm (oU h level)=some child then nG t child λ mc=>.node mc (Hz t parent m (oU h level) level K) else K false:=rfl
set_option maxRecDepth 100000 in
theorem aCO{K:Bool->Tr}{m:Int}{s:Mm}{b1 b2 b3 b4 b5 b6:Nat}(ht:t.root<=9223372036854775807)(hh:hv<18446744073709551616)(hK:O4 b K s fu cap B)(hp:parent<=s.nodes.length)(hc:child<=s.nodes.length)(hmm:m<=s.nodes.length)(hns:Ns (.node m λ nm=>if iU nm (oU hv level)=some child then nG t child λ mc=>.node mc (Hz t parent m (oU hv level) level K) else K false) s) :
  kF b 243 [pt b1,pt b2,pt b3,pt b4,pt b5,pt b6] [.int .i64 m] (bx b1 [.int .u64 (hv:Int)]::bx b2 [iv level]::bx b3 (gI b t)::bx b4 [iv child]::bx b5 [fn fu cap]::bx b6 [iv parent]::B) s (.node m λ nm=>if iU nm (oU hv level)=some child then nG t child λ mc=>.node mc (Hz t parent m (oU hv level) level K) else K false):=by
 intro a D A w em ok hm0 hA hB hw0;subst em;refine K2l ?_;intro hm;have nm:=pP ok m;have hK2:=hK.more (B2:=(bx b1 [.int .u64 (hv:Int)]::bx b2 [iv level]::bx b3 (gI b t)::bx b4 [iv child]::bx b5 [fn fu cap]::bx b6 [iv parent]::B)) (λ x hx=>by simp[hx]);unfold Ns at hns;rw[Ct.jT,cE] at hns
 have hT:∀x7 x9:Nat,tJ b (λ mc=>.node mc (Hz t parent m (oU hv level) level K)) a.mm 244 ⟨[],[pt b3,pt b5,pt x7,pt x9,pt b2,pt b6]⟩ (bx x7 [iv m]::bx x9 [iv (oU hv level)]::(bx b1 [.int .u64 (hv:Int)]::bx b2 [iv level]::bx b3 (gI b t)::bx b4 [iv child]::bx b5 [fn fu cap]::bx b6 [iv parent]::B)):=λ x7 x9=>⟨by kernel_rfl,λ mc s1 l hmc hns2=>(aA7 (bo:=b3) (bt:=b5) (bm:=x7) (bi:=x9) (bl:=b2) (bp:=b6) ht (hK.le l) (by have:=l.len;omega) (by have:=l.len;omega) hmc hns2).mr (λ y hy=>by simp only[List.mem_cons] at hy ⊢;rcases hy with h|h|h|h|h|h|h<;>simp[h])⟩
 refine enter func243 ntmps243 rfl rfl hw0 ?_;simp only[cN];refine J0 ?_;refine bC (λ x7=>?_);refine aJ (λ x8=>?_);refine Kb4 ?_;refine aA (fG b1 [.int .u64 (hv:Int)] 0 hB rfl) rfl ?_;refine aA (fG b2 [iv level] 0 hB rfl) rfl ?_;refine aH (cV (hc:=λ w1 hw=>tF hh level w1)) (λ x14=>?_);refine aH (cC λ _=>qP (z:=.int .i64 0) (by kernel_rfl) rfl) (λ x9=>?_);refine J5 ?_;refine aL ?_;refine eO [(0,[]),(1,[]),(2,[]),(4,[]),(3,[4]),(5,[]),(6,[]),(7,[]),(8,[]),(9,[]),(10,[])] ?_;refine bQ ?_;refine aS (i:=1) (hq:=(fG b3 (gI b t) 0 hB rfl)) (h:=?_);refine bH ?_;refine bH ?_;refine bE (i:=3) (hq:=(oI m ok hm hA hmm)) (h:=λ x19 h19=>?_);refine bR (i:=5) (hq:=(cV (hc:=λ w1 hw=>Mw (v:=(aK (aV a.L) m).at_ x19.1 x19.2) nm (oU hv level) ((dW.rH (iW ok.fit.all m) x19.1 x19.2).xZ (hw.cl fin) (hw.cl fin))))) (h:=λ x21=>?_);refine Kc3 ?_;refine Vz ?_;refine gQ ?_;refine Ti ?_;(refine mN 26 (λ g26=>?_) (λ g26=>?_)<;>refine Ka3 ?_);all_goals ((first|refine aZ ?_|(refine aF ?_;refine aA (fG b4 [iv child] 0 hB rfl) rfl ?_));refine ka ?_;refine aE ?_)
 all_goals
 refine aX (λ c30=>?_) (λ c30=>?_)
 ·all_goals (refine J0 ?_;refine aA (fG b5 [fn fu cap] 0 hB rfl) rfl ?_;refine aI (Kc hK2.1 (hK2.2 false a.mm (Mm.Le.refl _) (by rw[if_neg (show iU (aK (aV a.L) m).c (oU hv level)≠some child from by first|exact aC5 g26|exact aCL c30)] at hns;exact hns)) ok hm0 hA hB) (λ x32 h32=>?_);refine aM (cC λ _=>aC rf bI rf (aY _) cY rf dM) (λ _=>?_);refine aE ?_)
  all_goals refine bF results243 (λ w hw=>?_);refine⟨x32,rfl,⟨⟨hmm,?_⟩,h32.2⟩,hw.rN⟩;rw[cE];dsimp only;rw[if_neg (show iU (aK (aV a.L) m).c (oU hv level)≠some child from by first|exact aC5 g26|exact aCL c30)];exact h32.1
 ·try exact nv c30
  all_goals (refine Kc4 ?_;refine aA (M2 b3 (gI b t) 0 3 hB rfl rfl) rfl ?_;refine aA (fG b4 [iv child] 0 hB rfl) rfl ?_;(refine aA bU rfl ?_);(refine aH (aW.pre (λ w h=>(show SF _ _ [_,(b,dV a),(a.u,a.po)] _ ([bx x7 [iv m],bx x9 [iv (oU hv level)]]:Fr) _ w from(h.bS .head).bS (.tail .head))) (gK (a:=a) (A0:=[bx x7 [iv m],bx x9 [iv (oU hv level)]]++A) (B:=[bx x7 [iv m],bx x9 [iv (oU hv level)]]++(bx b1 [.int .u64 (hv:Int)]::bx b2 [iv level]::bx b3 (gI b t)::bx b4 [iv child]::bx b5 [fn fu cap]::bx b6 [iv parent]::B)) (hA:=bV.vX) (λ w1 hw=>qY ht (hT x7 x9) hc ok hm (λ f hf=>List.mem_append_right _ (hA f hf)) (mM hB) hw))) (λ x36=>?_);try (refine dQ (λ h36=>?_)));refine aM (cC λ _=>aC rf bI rf (aY _) cY rf dM) (λ _=>?_);refine aE ?_)
  all_goals refine bF results243 (λ w hw=>?_);refine⟨(x36.1,x36.2.1++[bx x7 [iv m],bx x9 [iv (oU hv level)]],x36.2.2),rfl,⟨⟨hmm,?_⟩,h36.2.1,h36.2.2.more λ f hf=>List.mem_append_left _ hf⟩,hw.ret E0a (bM.dB λ f hf=>hf) E0a⟩;rw[cE];dsimp only;rw[if_pos (show iU (aK (aV a.L) m).c (oU hv level)=some child from lks g26 c30)];refine eH.more h36.1 λ y hy=>?_;rw[List.append_assoc];exact hy
theorem Kk{K:Bool->Tr}(ht:t.root<=9223372036854775807)(hh:hv<18446744073709551616)(hK:O4 b K a.mm fu cap B)(hp:parent<=a.mm.nodes.length)(hc:child<=a.mm.nodes.length)(ok:a.Ok)(hm:a.mm.Small)(hA:∀f∈dD a.L,f∈A)(hB:∀x∈B,x∈A)(hs:SF w D [(b,dV a),(a.u,a.po)] A [] (iS a) w) :
  Calls prog 208 #[.agg ⟨gI b t⟩,.int .i64 parent,.int .i64 child,.int .u64 (hv:Int),.int .i64 level,fn fu cap] w (jP b (λ c' s' B'=>eH b (tL t parent child hv level K) a.mm c' s' B') a B D w):=by
 have hT:∀x6 x7 x8 x9 x10 x11:Nat,tJ b (λ m=>.node m λ nm=>if iU nm (oU hv level)=some child then nG t child λ mc=>.node mc (Hz t parent m (oU hv level) level K) else K false) a.mm 243 ⟨[],[pt x9,pt x10,pt x6,pt x8,pt x11,pt x7]⟩ ([bx x6 (gI b t),bx x7 [iv parent],bx x8 [iv child],bx x9 [.int .u64 (hv:Int)],bx x10 [iv level],bx x11 [fn fu cap]]++B):=λ x6 x7 x8 x9 x10 x11=>⟨by kernel_rfl,λ m s1 l hmm hns2=>(aCO (b1:=x9) (b2:=x10) (b3:=x6) (b4:=x8) (b5:=x11) (b6:=x7) ht hh (hK.le l) (by have:=l.len;omega) (by have:=l.len;omega) hmm hns2).mr (λ y hy=>by simp only[List.mem_cons,List.mem_append] at hy ⊢;rcases hy with h|h|h|h|h|h|h<;>simp[h])⟩
 refine enter func208 ntmps208 rfl rfl hs ?_;simp only[cN];refine J0 ?_;refine bC (λ x6=>?_);refine bC (λ x7=>?_);refine bC (λ x8=>?_);refine bC (λ x9=>?_);refine bC (λ x10=>?_);refine bC (λ x11=>?_);refine aJ (λ x12=>?_);refine Kb4 ?_;refine aA (cJ (k:=3) (vs:=gI b t) rf bI cY rfl rfl) rfl ?_;refine bO ?_;refine K2m ?_;(refine aH (aW.pre (λ w h=>(show SF _ _ [_,(b,dV a),(a.u,a.po)] _ ([bx x6 (gI b t),bx x7 [iv parent],bx x8 [iv child],bx x9 [.int .u64 (hv:Int)],bx x10 [iv level],bx x11 [fn fu cap]]:Fr) _ w from((((((h.bS (.tail .head)).bS (.tail .head)).bS (.tail .head)).bS (.tail .head)).bS (.tail .head)).bS (.tail .head)))) (gK (a:=a) (A0:=[bx x6 (gI b t),bx x7 [iv parent],bx x8 [iv child],bx x9 [.int .u64 (hv:Int)],bx x10 [iv level],bx x11 [fn fu cap]]++A) (B:=[bx x6 (gI b t),bx x7 [iv parent],bx x8 [iv child],bx x9 [.int .u64 (hv:Int)],bx x10 [iv level],bx x11 [fn fu cap]]++B) (hA:=bV.vX) (λ w1 hw=>qY ht (hT x6 x7 x8 x9 x10 x11) hp ok hm (λ f hf=>List.mem_append_right _ (hA f hf)) (mM hB) hw))) (λ x16=>?_);try (refine dQ (λ h16=>?_)));refine aM (cC λ _=>aC rf bI rf (aY _) cY rf dM) (λ _=>?_);refine aE ?_;refine bF results208 (λ w hw=>?_);exact⟨(x16.1,x16.2.1++[bx x6 (gI b t),bx x7 [iv parent],bx x8 [iv child],bx x9 [.int .u64 (hv:Int)],bx x10 [iv level],bx x11 [fn fu cap]],x16.2.2),rfl,⟨by
 rw[Zq];refine eH.more h16.1 λ y hy=>?_;rw[List.append_assoc];exact hy,h16.2.1,h16.2.2.more λ f hf=>List.mem_append_left _ hf⟩,hw.ret E0a (bM.dB λ f hf=>hf) E0h⟩
end
end
section
abbrev rmC(b:Nat)(c:qB)(exp g:Int)(path:List Int)(x:Option Addr×Nat):List Value:=[.iface 63 (.pointer (some ⟨b,0,none⟩)),.int .i64 c.t.root,.bool c.t.ro,.string c.key,.int .u64 (c.h:Int),.bool false,.int .u64 exp,.int .i64 g,.slice x.1 path.length x.2]
abbrev ij(b:Nat)(c:qB)(exp g:Int)(path:List Int)(x:Option Addr×Nat):Obj:=.cells ⟨rmC b c exp g path x⟩ 207 (0,0)
abbrev rmP(path:List Int)(x:Option Addr×Nat):Ow:=⟨x.1,aT path,x.2,39,1⟩
abbrev AS.wr(a:AS)(b u:Nat)(c:qB)(exp g:Int)(path:List Int)(x:Option Addr×Nat):AS:=AS.wq a u (ij b c exp g path x) (rmP path x)
abbrev Jv(b u:Nat)(c:qB)(exp g:Int)(path:List Int)(x:Option Addr×Nat):Pv:=((u,ij b c exp g path x),rmP path x)
theorem qT{a:AS}{b u:Nat}{c:qB}{exp g:Int}{path:List Int}{x:Option Addr×Nat}(e:a.pv=Jv b u c exp g path x):a=AS.wr a b u c exp g path x:=by cases a;cases e;rfl
structure Pe(s:Mm)(path:List Int):Prop where
 n:∀r∈path,r<=s.nodes.length
 l:path.length<=100
theorem Pe.at{s:Mm}{path:List Int}(h:Pe s path)(k:Nat):path.getD k 0<=s.nodes.length:=by
 rw[Gp];by_cases hk:k<path.length;·rw[List.getElem?_eq_getElem hk];exact h.n _ (List.getElem_mem hk)
 ·rw[List.getElem?_eq_none (by omega)];exact fN _
theorem Pe.le{s s1:Mm}{path:List Int}(h:Pe s path)(l:s.nodes.length<=s1.nodes.length):Pe s1 path:=⟨λ r hr=>by have:=h.n r hr;omega,h.l⟩
section
variable{D:List Nat}{A B:Fr}{a:AS}{b u:Nat}{w:World}{c:qB}
theorem zO(w:World):Calls prog 261 #[] w λ e w'=>e=.returned (.agg ⟨(fE (eG false 0)).cells⟩)/\St w [] [] w':=by refine enter func261 ntmps261 rfl rfl (SF.s0 w) ?_;simp only[cN];refine J0 ?_;refine aJ (λ x0=>?_);refine Kb4 ?_;refine cI ?_;refine aH (cV (hc:=λ w1 hw=>oX (eG false 0) w1)) (λ x2=>?_);refine aM (cC λ _=>aC rf bI rf (aY _) cY rf dM) (λ _=>?_);refine aE ?_;refine bF results261 (λ w hw=>?_);exact⟨rfl,hw.done⟩
theorem M9(v:Int)(w:World):Calls prog 290 #[.int .u64 v,.int .i64 1] w λ e w'=>e=.returned (.agg ⟨(fE (gP true v)).cells⟩)/\St w [] [] w':=by refine enter func290 ntmps290 rfl rfl (SF.s0 w) ?_;simp only[cN];refine K2f ?_;intro x4;refine Ke2 ?_;refine cI ?_;refine aH (cV (hc:=λ w1 hw=>oX (gP true v) w1)) (λ x8=>?_);refine aM (cC λ _=>aC rf bI rf (aY _) cY rf dM) (λ _=>?_);refine aE ?_;refine bF results290 (λ w hw=>?_);exact⟨rfl,hw.done⟩
theorem L7{exp g:Int}{path:List Int}{x:Option Addr×Nat}(hb:w.heap[u]?=some (ij b c exp g path x))(v:Int):Calls prog 289 #[pt u,.int .u64 v] w λ e w'=>e=.returned (.bool true)/\St w [] [] w':=by refine enter func289 ntmps289 rfl rfl (SF.Xn hb) ?_;simp only[cN];refine eD ?_;refine qQ ?_;refine Ti ?_;refine aZ ?_;refine K0y ?_;refine J6 ?_;refine Co ?_;refine J1 ?_;refine bJ results289 (λ w hw=>?_);exact⟨rfl,hw.fS.same hb⟩
end
end
section
def FUp(b u:Nat)(c:qB)(v:Int)(path:List Int)(l:Nat):Prop:=∀(a:AS) (D:List Nat) (A B:Fr) (w:World) (exp g:Int) (x:Option Addr×Nat),a.pv=Jv b u c exp g path x->Pe a.mm path->a.Ok->a.mm.Small->(∀f∈dD a.L,f∈A)->(∀x∈B,x∈A)->SF w D [(b,dV a),(a.u,a.po)] A [] (iS a) w ->
  Calls prog 305 #[pt u,.int .i64 ((l:Nat):Int),.int .u64 v] w (jP b (λ c' s' B'=>eH b (zl c.t path c.h (.done (gP true v)) l) a.mm c' s' B') a B D w)
section
variable{D:List Nat}{A B:Fr}{a:AS}{b u:Nat}{w:World}{c:qB}{v exp g:Int}{path:List Int}{x:Option Addr×Nat}{l:Nat}
theorem aBb{s:Mm}{b1 b2 b3:Nat}(hU:FUp b u c v path l)(hl:l+1<path.length)(hpv:s.pv=Jv b u c exp g path x)(hp:Pe s path)(k:Bool):kF b 309 [pt b1,pt b2,pt b3] [.bool k] (bx b1 [pt u]::bx b2 [iv ((l+1:Nat):Int)]::bx b3 [.int .u64 v]::B) s (zl c.t path c.h (.done (gP true v)) l):=by
 intro a D A w em ok hm0 hA hB hw0;subst em;refine K2l ?_;intro hm;have h100:=hp.l;refine enter func309 ntmps309 rfl rfl hw0 ?_;simp only[cN]
 refine J0 ?_;refine aJ (λ x5=>?_);refine Kb4 ?_;refine aA (fG b1 [pt u] 0 hB rfl) rfl ?_;refine aA (fG b2 [iv ((l+1:Nat):Int)] 0 hB rfl) rfl ?_;refine aA (oS (k:=l+1) rf rf (by omega) (by omega)) rfl ?_;refine aA (fG b3 [.int .u64 v] 0 hB rfl) rfl ?_;refine aI (gK (λ w1 hw=>hU a _ A _ w1 exp g x hpv hp ok hm hA hB hw)) (λ x10 h10=>?_);refine aM (cC λ _=>aC rf bI rf (aY _) cY rf dM) (λ _=>?_);refine aE ?_;refine bF results309 (λ w hw=>?_);exact⟨x10,rfl,h10,hw.rN⟩
set_option maxRecDepth 100000 in
theorem aB6{s:Mm}{b1 b2 b3:Nat}{m:Int}(ht:c.t.root<=9223372036854775807)(hh:c.h<18446744073709551616)(hU:FUp b u c v path l)(hl:l+1<path.length)(hpv:s.pv=Jv b u c exp g path x)(hp:Pe s path)(hmm:m<=s.nodes.length):kF b 308 [pt b1,pt b2,pt b3] [.int .i64 m] (bx b1 [pt u]::bx b2 [.int .u64 v]::bx b3 [iv ((l+1:Nat):Int)]::B) s (.node m λ nm=>if nm.kind=5 then tL c.t (path.getD l 0) (path.getD (l+1) 0) c.h ((l:Nat):Int) λ _=>zl c.t path c.h (.done (gP true v)) l else .done (gP true v)):=by
 intro a D A w em ok hm0 hA hB hw0;subst em;refine K2l ?_;intro hm;have h100:=hp.l;obtain⟨a0,rfl⟩:∃a0:AS,a=AS.wr a0 b u c exp g path x:=⟨a,qT hpv⟩
 have hK:O4 b (λ _=>zl c.t path c.h (.done (gP true v)) l) (AS.wr a0 b u c exp g path x).mm 309 ⟨[],[pt b1,pt b3,pt b2]⟩ (bx b1 [pt u]::bx b2 [.int .u64 v]::bx b3 [iv ((l+1:Nat):Int)]::B):=⟨by kernel_rfl,λ k s1 l1 _=>(aBb (B:=B) (b1:=b1) (b2:=b3) (b3:=b2) hU hl (l1.pv.trans rfl) (hp.le l1.len) k).mr (λ y hy=>by simp only[List.mem_cons] at hy ⊢;rcases hy with h|h|h|h<;>simp[h])⟩
 refine enter func308 ntmps308 rfl rfl hw0 ?_;simp only[cN];refine J0 ?_;refine aJ (λ x5=>?_);refine pJ ?_;refine J0 ?_;refine aA (fG b1 [pt u] 0 hB rfl) rfl ?_;refine P3 ?_;refine Kd0 ?_;refine aI (oI m ok hm hA hmm) (λ x12 h12=>?_);refine nV ?_;refine Kc0 ?_;refine aX (λ c14=>?_) (λ c14=>?_);·refine J0 ?_;refine aA (fG b2 [.int .u64 v] 0 hB rfl) rfl ?_;refine aH (cV (hc:=λ w1 hw=>M9 v w1)) (λ x16=>?_);refine aM (cC λ _=>aC rf bI rf (aY _) cY rf dM) (λ _=>?_);refine aE ?_;refine bF results308 (λ w hw=>?_);refine⟨(fE (gP true v),[],AS.wr a0 b u c exp g path x),rfl,⟨⟨hmm,?_⟩,ok,AS.fF.refl _⟩,hw.rI⟩;rw[cE];dsimp only;rw[if_neg (show ¬(aK (aV a0.L) m).c.kind=5 by assumption)];exact⟨rfl,rfl⟩
 ·refine lL ?_;refine fO [0,1,2,3,4,5,6,7,8,9,10,11,12,13,14,15,16,17,18,19,20,21,22,23,24,25,26,27] ?_;refine aS (i:=0) (hq:=(fG b1 [pt u] 0 hB rfl)) (h:=?_);refine J4 ?_;refine K1t ?_;refine aS (i:=4) (hq:=(fG b1 [pt u] 0 hB rfl)) (h:=?_);refine J4 ?_;refine bH ?_;refine aS (i:=8) (hq:=(fG b3 [iv ((l+1:Nat):Int)] 0 hB rfl)) (h:=?_);refine cD (i:=9) (hq:=(oS (k:=l+1) rf rf (by omega) (by omega))) (h:=?_);refine aS (i:=10) (hq:=(lY (lst:=path) (k:=l) rf rf dP eL fin (by omega) (by omega))) (h:=?_);refine aS (i:=11) (hq:=(tA (lst:=path) (q:=l) rf eL fin (by omega))) (h:=?_);refine aS (i:=12) (hq:=(fG b1 [pt u] 0 hB rfl)) (h:=?_);refine J4 ?_;refine bH ?_;refine aS (i:=16) (hq:=(fG b3 [iv ((l+1:Nat):Int)] 0 hB rfl)) (h:=?_);refine aS (i:=17) (hq:=(lY (lst:=path) (k:=l+1) rf rf dP eL fin (by omega) (by omega))) (h:=?_);refine aS (i:=18) (hq:=(tA (lst:=path) (q:=l+1) rf eL fin (by omega))) (h:=?_);refine aS (i:=19) (hq:=(fG b1 [pt u] 0 hB rfl)) (h:=?_);refine J4 ?_;refine bH ?_;refine aS (i:=23) (hq:=(fG b3 [iv ((l+1:Nat):Int)] 0 hB rfl)) (h:=?_);refine cD (i:=24) (hq:=(oS (k:=l+1) rf rf (by omega) (by omega))) (h:=?_);(refine cD (i:=25) (hq:=bU) (h:=?_));refine bE (i:=26) (hq:=(gK (A0:=A) (λ w1 hw=>Kk ht hh hK (hp.at l) (hp.at (l+1)) ok hm hA hB hw))) (h:=λ x43 h43=>?_);refine eT (i:=27) (hq:=(cC λ _=>aC rf bI rf (aY _) cY rf dM)) (h:=λ _=>?_);refine dA ?_;refine bF results308 (λ w hw=>?_);refine⟨x43,rfl,⟨⟨hmm,?_⟩,h43.2⟩,hw.rN⟩;rw[cE];dsimp only;rw[if_pos (show(aK (aV a0.L) m).c.kind=5 by assumption)];exact h43.1
theorem dz(ht:c.t.root<=9223372036854775807)(hh:c.h<18446744073709551616):∀l:Nat,l<path.length->FUp b u c v path l
 | 0,hl=>by
  intro a D A B w exp g x hpv hp ok hm hA hB hs
  obtain⟨a0,rfl⟩:∃a0:AS,a=AS.wr a0 b u c exp g path x:=⟨a,qT hpv⟩
  refine enter func305 ntmps305 rfl rfl hs ?_;simp only[cN]
  all_goals (refine J0 ?_;refine bC (λ x3=>?_);refine bC (λ x4=>?_);refine bC (λ x5=>?_);refine aJ (λ x6=>?_);refine pJ ?_;refine oT ?_;refine fX ?_)
  all_goals
  refine aX (λ c8=>?_) (λ c8=>?_)
  ·all_goals try (exfalso;omega)
   all_goals (refine oT ?_;refine aH (cV (hc:=λ w1 hw=>M9 v w1)) (λ x10=>?_);refine aM (cC λ _=>aC rf bI rf (aY _) cY rf dM) (λ _=>?_);refine aE ?_)
   all_goals
    refine bF results305 (λ w hw=>?_);exact⟨(fE (gP true v),[],AS.wr a0 b u c exp g path x),rfl,⟨⟨rfl,rfl⟩,ok,AS.fF.refl _⟩,hw.rI⟩
  ·exact nv c8
 | l+1,hl=>by
  intro a D A B w exp g x hpv hp ok hm hA hB hs
  have h100:=hp.l;obtain⟨a0,rfl⟩:∃a0:AS,a=AS.wr a0 b u c exp g path x:=⟨a,qT hpv⟩
  have hT:∀x3 x4 x5:Nat,tJ b (λ m=>.node m λ nm=>if nm.kind=5 then tL c.t (path.getD l 0) (path.getD (l+1) 0) c.h ((l:Nat):Int) λ _=>zl c.t path c.h (.done (gP true v)) l else .done (gP true v)) (AS.wr a0 b u c exp g path x).mm 308 ⟨[],[pt x3,pt x5,pt x4]⟩ ([bx x3 [pt u],bx x4 [iv ((l+1:Nat):Int)],bx x5 [.int .u64 v]]++B):=λ x3 x4 x5=>⟨by kernel_rfl,λ m s1 l1 hmm _=>(aB6 (B:=B) (b1:=x3) (b2:=x5) (b3:=x4) ht hh (dz ht hh l (by omega)) hl (l1.pv.trans rfl) (hp.le l1.len) hmm).mr (λ y hy=>by
   simp only[List.mem_cons,List.mem_append] at hy ⊢
   rcases hy with h|h|h|h<;>simp[h])⟩
  refine enter func305 ntmps305 rfl rfl hs ?_;simp only[cN]
  all_goals (refine J0 ?_;refine bC (λ x3=>?_);refine bC (λ x4=>?_);refine bC (λ x5=>?_);refine aJ (λ x6=>?_);refine pJ ?_;refine oT ?_;refine fX ?_)
  all_goals
  refine aX (λ c8=>?_) (λ c8=>?_)
  ·all_goals try (exfalso;omega)
   all_goals (refine oT ?_;refine aH (cV (hc:=λ w1 hw=>M9 v w1)) (λ x10=>?_);refine aM (cC λ _=>aC rf bI rf (aY _) cY rf dM) (λ _=>?_);refine aE ?_)
   all_goals
    refine bF results305 (λ w hw=>?_)
    exact⟨(x23.1,x23.2.1++[bx x3 [pt u],bx x4 [iv ((l+1:Nat):Int)],bx x5 [.int .u64 v]],x23.2.2),rfl,⟨by
    refine eH.more h23.1 λ y hy=>?_
    rw[List.append_assoc];exact hy,h23.2.1,h23.2.2.more λ f hf=>List.mem_append_left _ hf⟩,hw.ret E0a (bM.dB λ f hf=>hf) E0a⟩
  ·all_goals try (exfalso;omega)
   all_goals (refine lL ?_;refine fO [0,1,2,3,4,5,6,7,8,9,10,11,12,13] ?_;refine bH ?_;refine J4 ?_;refine aS (i:=3) (hq:=(cJ (k:=3) (vs:=gI b c.t) rf bI cY rfl rfl)) (h:=?_);refine bH ?_;refine J4 ?_;refine bH ?_;refine bH ?_;refine aS (i:=9) (hq:=(lY (lst:=path) (k:=l+1) rf rf dP eL fin (by omega) (by omega))) (h:=?_);refine aS (i:=10) (hq:=(tA (lst:=path) (q:=l+1) rf eL fin (by omega))) (h:=?_);(refine cD (i:=11) (hq:=(bU (by(repeat (first|exact cB _|(apply bK;focus ((conv=>{lhs;whnf});try exact rfl))));first|done|fail))) (h:=?_));((refine bR (i:=12) (hq:=(aW.pre (λ w h=>(show SF _ _ [_,(b,dV (AS.wr a0 b u c exp g path x)),(u,ij b c exp g path x)] _ ([bx x3 [pt u],bx x4 [iv ((l+1:Nat):Int)],bx x5 [.int .u64 v]]:Fr) _ w from((h.bS (.tail .head)).bS (.tail .head)).bS (.tail .head))) (gK (a:=AS.wr a0 b u c exp g path x) (A0:=[bx x3 [pt u],bx x4 [iv ((l+1:Nat):Int)],bx x5 [.int .u64 v]]++A) (B:=[bx x3 [pt u],bx x4 [iv ((l+1:Nat):Int)],bx x5 [.int .u64 v]]++B) (hA:=bV.vX) (λ w1 hw=>qY ht (hT x3 x4 x5) (hp.at (l+1)) ok hm (λ f hf=>List.mem_append_right _ (hA f hf)) (mM hB) hw)))) (h:=λ x23=>?_);try (refine eZ (λ h23=>?_))));refine eT (i:=13) (hq:=(cC λ _=>aC rf bI rf (aY _) cY rf dM)) (h:=λ _=>?_);refine dA ?_)
   all_goals
    refine bF results305 (λ w hw=>?_)
    exact⟨(x23.1,x23.2.1++[bx x3 [pt u],bx x4 [iv ((l+1:Nat):Int)],bx x5 [.int .u64 v]],x23.2.2),rfl,⟨by
    refine eH.more h23.1 λ y hy=>?_
    rw[List.append_assoc];exact hy,h23.2.1,h23.2.2.more λ f hf=>List.mem_append_left _ hf⟩,hw.ret E0a (bM.dB λ f hf=>hf) E0a⟩
end
end
section
def a9(b u:Nat)(c:qB)(exp:Int)(T:Tr):Prop:=∀(a:AS) (D:List Nat) (A B:Fr) (w:World) (g:Int) (path:List Int) (x:Option Addr×Nat),a.pv=Jv b u c exp g path x->a.Ok->a.mm.Small->(∀f∈dD a.L,f∈A)->(∀x∈B,x∈A)->SF w D [(b,dV a),(a.u,a.po)] A [] (iS a) w ->
  Calls prog 94 #[pt u] w (jP b (λ c' s' B'=>eH b T a.mm c' s' B') a B D w)
theorem aDl{A F:Fr}{O:List Ow}{x y:Option Addr×List Value}:bV A (x::y::(F++[])) O (x::y::(F++A)):=bV.of λ f hf=>by
 simp only[List.mem_cons,List.mem_append] at hf;rcases hf with h|h|h|h;·exact .inr (.inr (.inl (by simp[h])))
 ·exact .inr (.inr (.inl (by simp[h])))
 ·exact .inr (.inr (.inl (by simp[h])))
 ·exact .inr (.inl h)
theorem aBv{A B F:Fr}{x y:Option Addr×List Value}(h:∀f∈B,f∈A):∀f∈x::y::(F++B),f∈x::y::(F++A):=λ f hf=>by
 simp only[List.mem_cons,List.mem_append] at hf ⊢;rcases hf with h1|h1|h1|h1;·exact .inl h1
 ·exact .inr (.inl h1)
 ·exact .inr (.inr (.inl h1))
 ·exact .inr (.inr (.inr (h f h1)))
section
variable{D:List Nat}{A B:Fr}{a:AS}{b u:Nat}{w:World}{c:qB}{exp:Int}
variable{T:Tr}{v g:Int}{path:List Int}
theorem Ym(hd:a9 b u c exp T)(ht:c.t.root<=9223372036854775807)(hh:c.h<18446744073709551616){x:Option Addr×Nat}{s:Mm}{b1 b2:Nat}(hpv:s.pv=Jv b u c exp g path x)(hp:Pe s path)(hl:1<=path.length)(k:Bool):kF b 304 [pt b1,pt b2] [.bool k] (bx b1 [pt u]::bx b2 [.int .u64 v]::B) s (B3 c T path v k):=by
 intro a D A w em ok hm0 hA hB hw0;subst em;refine K2l ?_;intro hm;have h100:=hp.l;obtain⟨a0,rfl⟩:∃a0:AS,a=AS.wr a0 b u c exp g path x:=⟨a,qT hpv⟩
 refine enter func304 ntmps304 rfl rfl hw0 ?_;simp only[cN];refine K2f ?_;intro x4;refine aE ?_;refine Kb9 ?_;refine aX (λ c6=>?_) (λ c6=>?_);·refine J0 ?_;refine aA (fG b1 [pt u] 0 hB rfl) rfl ?_;refine aI (gK (λ w1 hw=>hd (AS.wr a0 b u c exp g path x) _ A _ w1 g path x hpv ok hm hA hB hw)) (λ x8 h8=>?_);refine aM (cC λ _=>aC rf bI rf (aY _) cY rf dM) (λ _=>?_);refine aE ?_;refine bF results304 (λ w hw=>?_);refine⟨x8,rfl,⟨?_,h8.2⟩,hw.rN⟩;rw[B3,if_neg (by simpa using c6)];exact h8.1
 ·refine lL ?_;refine fO [0,1,2,3,4,5,6,7,8,9] ?_;refine aS (i:=0) (hq:=(fG b1 [pt u] 0 hB rfl)) (h:=?_);refine aS (i:=1) (hq:=(fG b1 [pt u] 0 hB rfl)) (h:=?_);refine J4 ?_;refine bH ?_;refine Cb ?_;refine cD (i:=6) (hq:=(oS (k:=path.length) rf rf (by omega) (by omega))) (h:=?_);refine aS (i:=7) (hq:=(fG b2 [.int .u64 v] 0 hB rfl)) (h:=?_);refine bE (i:=8) (hq:=(gK (λ w1 hw=>dz (v:=v) ht hh (path.length-1) (by omega) (AS.wr a0 b u c exp g path x) _ A _ w1 exp g x hpv hp ok hm hA hB hw))) (h:=λ x17 h17=>?_);refine eT (i:=9) (hq:=(cC λ _=>aC rf bI rf (aY _) cY rf dM)) (h:=λ _=>?_);refine dA ?_;refine bF results304 (λ w hw=>?_);refine⟨x17,rfl,⟨?_,h17.2⟩,hw.rN⟩;rw[B3,if_pos (by simpa using c6)];exact h17.1
theorem E0(hd:a9 b u c exp T)(ht:c.t.root<=9223372036854775807)(hh:c.h<18446744073709551616){m:Int}{x0:Option Addr×Nat}{nd:Nd}{xs:List Int}{ys:List Pr}(hpv:a.pv=Jv b u c exp g path x0)(hp:Pe a.mm path)(hl:1<=path.length)(hmm:m<=a.mm.nodes.length)(e1:nd.brN=xs.length)(e2:nd.prN=ys.length)(hx:xs.length<=1000)(hy:ys.length<=274877906944)(hnb:oP a.mm.nodes.length a.mm.cs.length {nd.c xs ys with main:=0,prev:=0,status:=0})(hAx:aT xs=[]∨(nd.brA,aT xs)∈A)(hAy:dF ys=[]∨(nd.prA,dF ys)∈A)(ok:a.Ok)(hm1:a.mm.nodes.length<=137438953100/\a.mm.cs.length<=137438953100)(hA:∀f∈dD a.L,f∈A)(hB:∀x∈B,x∈A)(hs:SF w D [(b,dV a),(a.u,a.po)] A [] (iS a) w) :
  Calls prog 292 #[pt u,.int .i64 m,nd.v,.int .u64 v] w (jP b (λ c' s' B'=>eH b (.alloc (nd.c xs ys) m λ q=>iN c.t (path.getD (path.length-1) 0) m q (B3 c T path v)) a.mm c' s' B') a B D w):=by
 obtain⟨a0,rfl⟩:∃a0:AS,a=AS.wr a0 b u c exp g path x0:=⟨a,qT hpv⟩;have hm:(AS.wr a0 b u c exp g path x0).mm.Small:=⟨Nat.le_trans hm1.1 (by decide),Nat.le_trans hm1.2 (by decide)⟩;have h100:=hp.l;have okx:∀x:AX,((AS.wr a0 b u c exp g path x0).al nd xs ys m x).Ok:=λ x=>ok.al x (by omega) hy hnb (by omega)
 have hmx:∀x:AX,((AS.wr a0 b u c exp g path x0).al nd xs ys m x).mm.Small:=λ x=>by rw[fK];have h1:=hm1.1;have h2:=hm1.2;have h3:=eJ (k:=(nd.c xs ys).kind) (cs:=(AS.wr a0 b u c exp g path x0).mm.cs) (init:=m);exact⟨by show((AS.wr a0 b u c exp g path x0).mm.nodes++[_]).length<=_;rw[List.length_append];simp only[List.length_singleton];omega,by show(gH _ _ _).length<=_;omega⟩
 have hlx:∀x:AX,((AS.wr a0 b u c exp g path x0).al nd xs ys m x).mm.nodes.length=(AS.wr a0 b u c exp g path x0).mm.nodes.length+1:=λ x=>by rw[fK];show(_++[_]).length=_;rw[List.length_append];rfl
 have hT:∀(x:AX) (x4 x7:Nat),O4 b (B3 c T path v) ((AS.wr a0 b u c exp g path x0).al nd xs ys m x).mm 304 ⟨[],[pt x4,pt x7]⟩ (bx x4 [pt u]::bx x7 [.int .u64 v]::((mX nd xs ys a0.cs.length x).fr++B)):=λ x x4 x7=>⟨by kernel_rfl,λ k s1 l1 _=>Ym hd ht hh (g:=g) (x:=x0) (l1.pv.trans rfl) (hp.le (by have h1:=l1.len;rw[hlx] at h1;omega)) hl k⟩;refine enter func292 ntmps292 rfl rfl hs ?_;simp only[cN]
 simp only[Nd.v,Nd.cells];refine J0 ?_;refine bC (λ x4=>?_);refine bC (λ x6=>?_);refine bC (λ x7=>?_);refine aJ (λ x8=>?_);refine pJ ?_;refine fO [0,1,2,3,4,5,6,7,8,9,10,11,12] ?_;refine bH ?_;refine J4 ?_;refine bH ?_;refine bH ?_;refine J4 ?_;refine bH ?_;refine Cb ?_;refine cD (i:=9) (hq:=(oS (k:=path.length) rf rf (by omega) (by omega))) (h:=?_);refine K3c ?_;refine J7 ?_;refine aL ?_;refine eO [(0,[]),(1,[]),(2,[]),(3,[]),(4,[]),(5,[]),(6,[]),(7,[]),(8,[]),(9,[]),(10,[]),(11,[]),(12,[]),(14,[]),(13,[0,3]),(15,[]),(16,[])] ?_;refine bH ?_;refine J4 ?_;refine K1t ?_;refine yS ?_;refine bH ?_;refine J4 ?_;refine hY ?_;refine bH ?_;refine aP ?_;(refine cD (i:=14) (hq:=bU) (h:=?_));refine bE (i:=13) (hq:=(Ju (V:=λ _:AX=>.int .i64 ((a0.mm.nodes.length+1:Nat):Int)) (hs:=[(b,dV (AS.wr a0 b u c exp g path x0))]) (os:=kM (AS.wr a0 b u c exp g path x0)) (A0:=[(nd.brA,aT xs),(nd.prA,dF ys)]) (hs':=λ x=>[(b,dV ((AS.wr a0 b u c exp g path x0).al nd xs ys m x))]) (os':=λ x=>kM ((AS.wr a0 b u c exp g path x0).al nd xs ys m x)) (Fc:=λ x=>(mX nd xs ys a0.cs.length x).fr) (hA:=E1l) (hm:=λ w=>fP _ _ _ w) (hc:=λ w1 hw=>mA (n:=nd) (xs:=xs) (ys:=ys) ok hm m e1 e2 (by omega) hy (λ f hf=>hf) hw))) (hfire:=E0w) (h:=λ x35 h35=>?_);((refine bR (i:=15) (hq:=(aW.pre (λ w h=>(show SF _ _ [_,_,(b,dV ((AS.wr a0 b u c exp g path x0).al nd xs ys m x35)),(u,ij b c exp g path x0)] _ (bx x4 [pt u]::bx x7 [.int .u64 v]::((mX nd xs ys a0.cs.length x35).fr++[]):Fr) _ w from(h.bS (.tail .head)).bS (.tail (.tail .head)))) (gK (a:=(AS.wr a0 b u c exp g path x0).al nd xs ys m x35) (A0:=bx x4 [pt u]::bx x7 [.int .u64 v]::((mX nd xs ys a0.cs.length x35).fr++A)) (B:=bx x4 [pt u]::bx x7 [.int .u64 v]::((mX nd xs ys a0.cs.length x35).fr++B)) (hA:=aDl) (λ w1 hw=>Ot (i:=path.getD (path.length-1) 0) (old:=m) (n:=((a0.mm.nodes.length+1:Nat):Int)) ht (hT x35 x4 x7) (by rw[hlx];have:=hp.at (path.length-1);omega) (by rw[hlx];exact Int.le_refl _) (okx x35) (hmx x35) (λ f hf=>.tail _ (.tail _ (Vf hA f hf))) (aBv hB) hw)))) (h:=λ x37=>?_);try (refine eZ (λ h37=>?_))));refine eT (i:=16) (hq:=(cC λ _=>aC rf bI rf (aY _) cY rf dM)) (h:=λ _=>?_);refine dA ?_;refine bF results292 (λ w hw=>?_);refine⟨(x37.1,x37.2.1++(bx x4 [pt u]::bx x7 [.int .u64 v]::(mX nd xs ys a0.cs.length x35).fr),x37.2.2),rfl,⟨?_,h37.2.1,?_⟩,?_⟩
 ·have h1:=h37.1;rw[fK] at h1;show eH b (iN c.t (path.getD (path.length-1) 0) m ((a0.mm.nodes.length+1:Nat):Int) (B3 c T path v)) _ _ _ _;refine eH.more h1 λ y hy=>?_;simp only[List.mem_append,List.mem_cons] at hy ⊢;rcases hy with h|h|h|h|h;·exact .inl (.inl h)
  ·exact .inl (.inr (.inl h))
  ·exact .inl (.inr (.inr (.inl h)))
  ·exact .inl (.inr (.inr (.inr h)))
  ·exact .inr h
 ·exact((AS.fF.al (AS.wr a0 b u c exp g path x0) nd xs ys m x35).trans h37.2.2).more λ f hf=>(List.mem_append.1 hf).elim (λ h=>List.mem_append_left _ h) λ h=>List.mem_append_right _ (.tail _ (.tail _ h))
 ·exact Of (G:=bx x4 [pt u]::bx x7 [.int .u64 v]::(mX nd xs ys a0.cs.length x35).fr) hw
end
end
end Go.Proofs.YtdeecdfockjoiaaGreatDoor
