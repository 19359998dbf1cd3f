/- Steps of the proof. -/
import Derived.Test.YteegpeenjdgodaaGreatDoorT3
import Derived.Test.YteegpeenjdgodaaGreatDoorT1
import Derived.Test.YteegpeenjdgodaaGreatDoorS3
import Derived.Test.YteegpeenjdgodaaGreatDoorS7
set_option linter.all false
set_option maxHeartbeats 40000000
set_option maxRecDepth 100000
open Go.Proofs.Tryz
namespace Go.Kz
open Go Go.Proofs
section
variable{E E1 E2 E3 E4 E5 E6:aE}(hU:aH E)
include hU
end
def eP{α β:Type}(P:α->β->Prop):List α->List β->Prop
 | [],[]=>True
 |a::l,b::m=>P a b/\eP P l m
 |_,_=>False
theorem eP.len{α β:Type}{P:α->β->Prop}:∀ {l:List α} {m:List β},eP P l m->l.length=m.length
 | [],[],_=>rfl
 |_::_,_::_,h=>by rw[yAS,yAS,h.2.len]
 | [],_::_,h=>h.elim
 |_::_,[],h=>h.elim
theorem eP.get{α β:Type}{P:α->β->Prop}:∀ {l:List α} {m:List β},eP P l m->∀i (h:i<l.length) (k:i<m.length),P l[i] m[i]
 | [],[],_,i,h,_=>absurd h (yBv i)
 |_::_,_::_,h,0,_,_=>h.1
 |_::_,_::_,h,i+1,a,b=>h.2.get i Bh Bi
 | [],_::_,h,_,_,_=>h.elim
 |_::_,[],h,_,_,_=>h.elim
theorem eP.of{α β:Type}{P:α->β->Prop}:∀ {l:List α} {m:List β},l.length=m.length->(∀i (h:i<l.length) (k:i<m.length),P l[i] m[i])->eP P l m
 | [],[],_,_=>trivial
 |_::_,_::_,h,k=>⟨k 0 (Nat.zero_lt_succ _) (Nat.zero_lt_succ _),eP.of zx λi a b=>k (i+1) (Nat.succ_lt_succ a) (Nat.succ_lt_succ b)⟩
 | [],_::_,h,_=>Am
 |_::_,[],h,_=>Am
theorem eP.app{α β:Type}{P:α->β->Prop}:∀ {l:List α} {m:List β} {l':List α} {m':List β},eP P l m->eP P l' m'->eP P (l++l') (m++m')
 | [],[],_,_,_,k=>k
 |_::_,_::_,_,_,h,k=>⟨h.1,h.2.app k⟩
 | [],_::_,_,_,h,_=>h.elim
 |_::_,[],_,_,h,_=>h.elim
theorem eP.take{α β:Type}{P:α->β->Prop}:∀ {l:List α} {m:List β} (i:Nat),eP P l m->eP P (l.take i) (m.take i)
 |_,_,0,_=>by simp[eP]
 | [],[],_+1,_=>by simp[eP]
 |_::_,_::_,i+1,h=>⟨h.1,h.2.take i⟩
 | [],_::_,_,h=>h.elim
 |_::_,[],_,h=>h.elim
theorem eP.drop{α β:Type}{P:α->β->Prop}:∀ {l:List α} {m:List β} (i:Nat),eP P l m->eP P (l.drop i) (m.drop i)
 |_,_,0,h=>zx
 | [],[],_+1,_=>by simp[eP]
 |_::_,_::_,i+1,h=>by simpa using h.2.drop i
 | [],_::_,_,h=>h.elim
 |_::_,[],_,h=>h.elim
theorem eP.set{α β:Type}{P:α->β->Prop}{x:α}{y:β}(hx:P x y):∀ {l:List α} {m:List β} (i:Nat),eP P l m->eP P (l.set i x) (m.set i y)
 | [],[],_,_=>trivial
 |_::_,_::_,0,h=>⟨hx,h.2⟩
 |_::_,_::_,i+1,h=>⟨h.1,h.2.set hx i⟩
 | [],_::_,_,h=>h.elim
 |_::_,[],_,h=>h.elim
theorem eP.dA{α β:Type}{P:α->β->Prop}{l:List α}{m:List β}{x:α}{y:β}(h:eP P l m)(way:Int)(i:Nat)(hx:way≠1->P x y):eP P (dA l way i x) (dA m way i y):=by
 unfold Go.Kz.dA
 by_cases h0:way=0
 .rw[yAJ h0,yAJ h0];exact(h.take i).app ⟨hx ye,h.drop i⟩
 .rw[yAI h0,yAI h0]
  by_cases h1:way=1
  .rw[yAJ h1,yAJ h1];exact(h.take i).app (h.drop (i+1))
  .rw[yAI h1,yAI h1];exact h.set (hx h1) i
theorem aCP{sz:Nat}:∀(gs:List (List PD)) (i:Nat),(∀g∈gs,g.length=sz)->gs.flatten.take (i*sz)=(gs.take i).flatten
 |_,0,_=>yg
 | [],_+1,_=>yg
 |g::gs,i+1,h=>by
  have e1:(i+1)*sz=g.length+i*sz:=by rw[yBQ,h g (yBh ..)];omega
  rw[yBr,e1,List.take_length_add_append,aCP gs i λq hq=>h q (yBV _ hq)];rfl
theorem aCQ{sz:Nat}:∀(gs:List (List PD)) (i:Nat),(∀g∈gs,g.length=sz)->gs.flatten.drop (i*sz)=(gs.drop i).flatten
 |_,0,_=>yg
 | [],_+1,_=>yg
 |g::gs,i+1,h=>by
  have e1:(i+1)*sz=g.length+i*sz:=by rw[yBQ,h g (yBh ..)];omega
  rw[yBr,e1,yEh,aCQ gs i λq hq=>h q (yBV _ hq)];rfl
theorem aLx{α:Type}{l:List α}{way:Int}{i:Nat}{x y:α}(h:y∈dA l way i x):y∈l\/(way≠1/\y=x):=by
 unfold dA at h;split at h
 .rename_i h0;rcases yBf.1 h with h|h
  .exact .inl (yAy h)
  .rcases yBD.1 h with h|h
   .exact .inr ⟨ye,h⟩
   .exact .inl (yBg h)
 .split at h
  .exact tf
  .rename_i h1;rcases yCP h with h|h
   .exact .inl h
   .exact .inr ⟨h1,h⟩
theorem s4.up{α:Type}{em:Em α}{σ:Ex}{L L':Nat}{g:Ey}{x:α}(h:s4 em σ L g x)(hl:L<=L'):s4 em σ L' g x:=λK=>by
 have h1:=h (K+(L' - L));rw[show K+(L' - L)+L=K+L' by omega]at h1;exact h1
theorem cF.mono{R R':TypeId->Prop}{σ σ':Ex}(h:cF R' σ σ')(hr:∀t,R t->R' t):cF R σ σ':=λid t n v cs ht=>h id t n v cs (hr t ht)
theorem fP.aU{α:Type}{em:Em α}{sz:Nat}{R:TypeId->Prop}{σ:Ex}{id e v:Nat}{gs:Eu}{l:List α}(dK:σ[id]?=some (.row e sz v gs.flatten))(he:R e)(h1:sz≠1)(hl:∀g∈gs,g.length=sz)(hn:gs.length=l.length)
  (h:∀σ',cF R σ σ'->∀i (hi:i<l.length),s4 em σ' 7 (gs[i]' ye) l[i]):fP em sz R σ (.aU id v 0 l.length sz) l:=
 ⟨rfl,rfl,λσ' hk K=>N2 (L:=7) (hk _ _ _ _ _ he dK) h1 hl ye l rfl (λi hi=>h σ' hk i hi) K⟩
theorem fP.nil{α:Type}{em:Em α}{sz:Nat}{R:TypeId->Prop}{σ:Ex}:fP em sz R σ (.slice 0 [] .full) ([]:List α):=⟨rfl,rfl,λσ' _ K=>JI sz 0 σ' (K+6) .full⟩
def rQ{α:Type}(em:Em α)(N:Nat)(R:TypeId->Prop)(σ:List aB)(g:List PD)(x:α):Prop:=∀σ',cF R σ σ'->s4 em σ' N g x
def DF{α:Type}(em:Em α)(sz:Nat)(e:TypeId)(R:TypeId->Prop)(σ:List aB)(P:PD)(l:List α):Prop:=∃id gs,P=hd sz id l.length/\l.length<=200/\(∀g∈gs,g.length=sz)/\(0<l.length->σ[id]?=some (.row e sz 0 (List.flatten gs)))/\eP (rQ em 7 R σ) gs l
theorem DF.nE{α:Type}{em:Em α}{sz:Nat}{e:TypeId}{R R':TypeId->Prop}{σ:Ex}{P:PD}{l:List α}(h:DF em sz e R σ P l)(h1:sz≠1)(hr:∀t,t=e\/R t->R' t):fP em sz R' σ P l:=by
 obtain⟨id,gs,rfl,h2,h3,h4,h5⟩:=h
 by_cases h0:l.length=0
 .obtain rfl:=yAf h0;exact fP.nil
 .rw[aCL ye];exact fP.aU (h4 ye) (hr _ (.inl rfl)) h1 h3 h5.len λσ' hk i hi=>h5.get i (by rw[h5.len];exact hi) hi σ' (hk.mono λt ht=>hr t (.inr ht))
theorem fP.row{α:Type}{em:Em α}{k:Nat}{e v id:Nat}{R R':TypeId->Prop}{σ σ':Ex}{gs:Eu}{l:List α}(hk:1<k)(dK:σ'[id]?=some (.row e k v gs.flatten))(he:R' e)(hr:∀t,R t->R' t)(hK:cF R σ σ')(hg:∀g∈gs,g.length=k)(h:eP (rQ em 7 R σ) gs l):fP em k R' σ' (.aU id v 0 l.length k) l:=
 fP.aU dK he ye hg h.len λτ dX i hi=>h.get i (by rw[h.len];exact hi) hi τ (hK.trans (dX.mono hr))
theorem aLy{α:Type}{em:Em α}{N k:Nat}{e v id:Nat}{R R':TypeId->Prop}{σ σ':Ex}{gs:Eu}{l:List α}(hk:1<k)(dK:σ'[id]?=some (.row e k v gs.flatten))(he:R' e)(hr:∀t,R t->R' t)(hK:cF R σ σ')(hg:∀g∈gs,g.length=k)(h:eP (rQ em N R σ) gs l) :
  ∀τ,cF R' σ' τ->∀K,(aZ τ (K+(N+1)) (.aU id v 0 l.length k)).strip=(em.list k).aA l/\(aZ τ (K+(N+1)) (.aU id v 0 l.length k)).bI=true:=λτ dX K=>
 N2 (L:=N) (dX _ _ _ _ _ he dK) ye hg (by rw[h.len];exact yAk _) l rfl (λi hi=>h.get i (by rw[h.len];exact hi) hi τ (hK.trans (dX.mono hr))) K
theorem N6{k:Nat}{gs:Eu}{way:Int}{i:Nat}{y:Ey}(hg:∀g∈gs,g.length=k)(hy:y.length=k):∀g∈dA gs way i y,g.length=k:=λg h=>by
 rcases aLx h with h | ⟨_,rfl⟩
 .exact hg g h
 .exact hy
section
abbrev BC:TypeId->Prop:=λt=>t=92\/t=89
abbrev oI:TypeId->Prop:=λt=>t=56\/t=92\/t=89
abbrev uL:TypeId->Prop:=λ_=>False
theorem UU:uM Em.aG:=λd=>by
 rw[oD];refine .agg _ λc hc=>?_
 simp only[yBD,yCA,yCN]at hc;rcases hc with rfl|rfl|rfl|rfl|rfl|rfl
 .exact .str _
 .exact .str _
 .exact ey
 .exact ey
 .exact ey
 .exact N1 aLq 1 _
theorem Clean.calm{c:PD}(h:Clean c):Calm c:=λσ K=>⟨by rw[h.aZ],by rw[h.aZ];exact h.bI⟩
theorem Clean.cells{cs:Ey}(h:Clean (.agg cs)):∀c∈cs,Clean c:=by
 cases h with
 |agg _ h=>exact h
theorem BD{α:Type}{em:Em α}(h:uM em)(x:α){g:Ey}(hg:em.aA x=.agg g)(σ:List aB):s4 em σ 1 g x:=by
 have hc:=h x;rw[hg]at hc;exact aLr (λc hm=>(hc.cells c hm).calm) (by rw[<-hg];exact em.str x) σ 0
def mJ{α:Type}(em:Em α)(sz:Nat)(σ:List aB)(L:Nat)(P:PD)(l:List α):Prop:=∀K,(aZ σ (K+L) P).strip=(em.list sz).aA l/\(aZ σ (K+L) P).bI=true
theorem mJ.hd{α:Type}{em:Em α}{sz e id L:Nat}{σ:Ex}{gs:Eu}{l:List α}(h1:sz≠1)(hr:0<l.length->σ[id]?=some (.row e sz 0 gs.flatten))(hg:0<l.length->∀g∈gs,g.length=sz)(hl:0<l.length->gs.length=l.length)(hL:1<=L)
  (h:∀i (hi:i<l.length) (hi2:i<gs.length),s4 em σ L gs[i] l[i]):mJ em sz σ (L+1) (Go.Kz.hd sz id l.length) l:=λK=>by
 by_cases h0:l.length=0
 .obtain rfl:=yAf h0;obtain⟨M,rfl⟩:∃M,L=M+1:=⟨L-1,ye⟩;exact JI sz 0 σ (K+M) .full
 .rw[aCL ye];exact jl
theorem aCM{σ:Ex}{L:Nat}{P:PD}{g:gL}(h:mJ Em.draw 2 σ (L+1) P g.aT):s4 Em.eU σ (L+1) [.int .i64 g.lo,.int .i64 g.hi,P] g:=λK=>by
 obtain⟨h1,h2⟩:=h K
 constructor
 .show PD.agg [.int .i64 g.lo,.int .i64 g.hi,PD.strip (aZ σ (K+(L+1)) P)]=_
  rw[h1,G8]
 .show(true&&(true&&(PD.bI (aZ σ (K+(L+1)) P)&&true)))=true
  rw[h2];rfl
theorem UW{σ:Ex}{L:Nat}{P:PD}{s:bU}(h:mJ Em.eU 3 σ (L+1) P s.aO):s4 Em.stop σ (L+1) [.str s.name,.int .i64 s.num,.int .i64 s.den,P] s:=λK=>by
 obtain⟨h1,h2⟩:=h K
 constructor
 .show PD.agg [.str s.name,.int .i64 s.num,.int .i64 s.den,PD.strip (aZ σ (K+(L+1)) P)]=_
  rw[h1,qE]
 .show(true&&(true&&(true&&(PD.bI (aZ σ (K+(L+1)) P)&&true))))=true
  rw[h2];rfl
theorem UX{σ:Ex}{L:Nat}{P:PD}{d:bD}(h:mJ Em.stop 4 σ (L+1) P d.stops):s4 Em.div σ (L+1) [.str d.name,.bool d.eG,.int .i64 d.low,.int .i64 d.high,P] d:=λK=>by
 obtain⟨h1,h2⟩:=h K
 constructor
 .show PD.agg [.str d.name,.bool d.eG,.int .i64 d.low,.int .i64 d.high,PD.strip (aZ σ (K+(L+1)) P)]=_
  rw[h1,nN]
 .show(true&&(true&&(true&&(true&&(PD.bI (aZ σ (K+(L+1)) P)&&true)))))=true
  rw[h2];rfl
theorem aLs{σ:Ex}{lo:Nat}{ds:List cT}{id:Nat}(h:BE σ lo ds id):mJ Em.draw 2 σ 2 (Go.Kz.hd 2 id ds.length) ds:=by
 refine mJ.hd (L:=1) (gs:=ds.map λw=>[PD.int .i64 w.aG,.int .i64 w.shift]) yj (λhp=>(h hp).2) (λ_ g hg=>by obtain⟨w,_,rfl⟩:=yAw.1 hg;rfl) (λ_=>yAe ..) (yAk _) λi hi hi2=>?_
 rw[yBE];exact BD UY _ CC σ
theorem aLt{α:Type}{l:List α}{x:α}(h:x∈l):∃i,∃hi:i<l.length,l[i]=x:=by
 obtain⟨i,hi,e⟩:=yCO h;exact⟨i,hi,e⟩
theorem zH{n sz:Nat}{gs:Eu}(hl:gs.length=n)(h:∀i,i<n->∃g,gs[i]?=some g/\g.length=sz):∀g∈gs,g.length=sz:=λg hg=>by
 obtain⟨i,hi,rfl⟩:=aLt hg;obtain⟨q,h1,h2⟩:=h i ye;rw[yAh hi,yAb]at h1;rw[h1];exact h2
theorem aLu{σ:Ex}{lo:Nat}{s:bU}{p:PD}{iG:Nat}{gs:Eu}{iW:Nat->Nat}(h:s5 σ lo s p iG gs iW):mJ Em.eU 3 σ 3 (Go.Kz.hd 3 iG s.aO.length) s.aO:=by
 refine mJ.hd (L:=2) (gs:=gs) yj (λhp=>(h.row hp).2) (λ_=>zH h.len λi hi=>⟨_,(h.at_ i hi).1,rfl⟩) (λ_=>h.len) ye λi hi hi2=>?_
 have h1:=h.at_ i hi;have e:=(yA.1 h1.1).2;rw[e];exact aCM (L:=1) (aLs h1.2)
theorem aLv{σ:Ex}{lo:Nat}{d:bD}{p:PD}{iS:Nat}{ss:Eu}{tG:Nat->Nat}{tgs:Et}{tW:Nat->Nat->Nat}(h:pO σ lo d p iS ss tG tgs tW):mJ Em.stop 4 σ 4 (Go.Kz.hd 4 iS d.stops.length) d.stops:=by
 refine mJ.hd (L:=3) (gs:=ss) yj (λhp=>(h.row hp).2) (λ_=>zH h.len λi hi=>⟨_,(h.at_ i hi).1,rfl⟩) (λ_=>h.len) ye λi hi hi2=>?_
 have h1:=h.at_ i hi;have e:=(yA.1 h1.1).2;rw[e];exact UW (L:=2) (aLu h1.2)
theorem s5.kept{σ σ':Ex}{lo:Nat}{s:bU}{p:PD}{iG:Nat}{gs:Eu}{iW:Nat->Nat}(h:s5 σ lo s p iG gs iW)(k:cF BC σ σ'):s5 σ' lo s p iG gs iW:=by
 obtain⟨h1,h2,h3,h4,h5⟩:=h;exact⟨h1,h2,λhp=>⟨(h3 hp).1,k _ _ _ _ _ (.inl rfl) (h3 hp).2⟩,λg h=>⟨(h4 g h).1,λhp=>⟨((h4 g h).2 hp).1,k _ _ _ _ _ (.inr rfl) ((h4 g h).2 hp).2⟩⟩,h5⟩
theorem pO.kept{σ σ':Ex}{lo:Nat}{d:bD}{p:PD}{iS:Nat}{ss:Eu}{tG:Nat->Nat}{tgs:Et}{tW:Nat->Nat->Nat}(h:pO σ lo d p iS ss tG tgs tW)(k:cF oI σ σ'):pO σ' lo d p iS ss tG tgs tW:=by
 obtain⟨h1,h2,h3,h4,h5⟩:=h;exact⟨h1,h2,λhp=>⟨(h3 hp).1,k _ _ _ _ _ (.inl rfl) (h3 hp).2⟩,λs h=>⟨(h4 s h).1,(h4 s h).2.kept (k.mono λ_=>.inr)⟩,h5⟩
theorem pO.DE{σ:Ex}{lo:Nat}{d:bD}{p:PD}{iS:Nat}{ss:Eu}{tG:Nat->Nat}{tgs:Et}{tW:Nat->Nat->Nat}(h:pO σ lo d p iS ss tG tgs tW):rQ Em.div 7 oI σ [.str d.name,.bool d.eG,.int .i64 d.low,.int .i64 d.high,Go.Kz.hd 4 iS d.stops.length] d:=λσ' k=>(UX (L:=3) (aLv (h.kept k))).up ye
abbrev N3:=DF Em.aG 6 48 uL
abbrev N4:=DF Em.div 5 53 oI
abbrev N5:=DF Em.aJ 5 58 uL
theorem aCN{α:Type}{em:Em α}{f:α->Ey}(hf:∀x,em.aA x=.agg (f x))(l:List α):(l.map em.aA).flatMap PD.cells=(l.map f).flatten:=by
 induction l with
 |nil=>rfl
 |cons x l ih=>simp only[yAR,yBs,yBr,ih,hf];rfl
theorem aCO{α:Type}{em:Em α}{f:α->Ey}{sz e id:Nat}{σ:Ex}(hc:uM em)(hf:∀x,em.aA x=.agg (f x))(hs:∀x,(f x).length=sz)(l:List α)(hl:l.length<=200)(hr:0<l.length->σ[id]?=some (.row e sz 0 ((l.map em.aA).flatMap PD.cells))):DF em sz e uL σ (Go.Kz.hd sz id l.length) l:=by
 refine⟨id,l.map f,rfl,hl,λg hg=>by obtain⟨x,_,rfl⟩:=yAw.1 hg;exact hs x,λhp=>by rw[<-aCN hf];exact hr hp,eP.of (yAe ..) λi h1 h2 σ' _=>?_⟩;rw[yBE];exact(BD hc _ (hf _) σ').up ye
theorem aLw{σ:Ex}{lo:Nat}{o:aM}{p:PD}{iR iD iC:Nat}{ds:Eu}{tS:Nat->Nat}{tss:Et}{tG:Nat->Nat->Nat}{tgs:Es}{tW:Nat->Nat->Nat->Nat}(h:F3 σ lo o p iR iD iC ds tS tss tG tgs tW)(hs:aCJ o):N3 σ (Go.Kz.hd 6 iR o.aK.length) o.aK/\N4 σ (Go.Kz.hd 5 iD o.aD.length) o.aD/\N5 σ (Go.Kz.hd 5 iC o.aR.length) o.aR:=by
 refine⟨aCO UU (λ_=>oD) (λ_=>rfl) _ hs.1 λhp=>(h.aG hp).2,⟨iD,ds,rfl,hs.2.1,zH h.len λi hi=>⟨_,(h.at_ i hi).1,rfl⟩,λhp=>(h.row hp).2,eP.of h.len λi h1 h2=>?_⟩,aCO UZ (λ_=>G9) (λ_=>rfl) _ hs.2.2.1 λhp=>(h.aJ hp).2⟩;exact jx
theorem N3.JJ{σ:Ex}{P:PD}{l:List bB}(h:N3 σ P l):fP Em.aG 6 sV σ P l:=h.nE yj λt ht=>ht.elim id False.elim
theorem N4.JJ{σ:Ex}{P:PD}{l:List bD}(h:N4 σ P l):fP Em.div 5 sW σ P l:=h.nE yj λt ht=>ht
theorem N5.JJ{σ:Ex}{P:PD}{l:List bR}(h:N5 σ P l):fP Em.aJ 5 sX σ P l:=h.nE yj λt ht=>ht.elim id False.elim
structure SIn (σ:List aB) (P:PD) (l:List bU):Prop where
 plain:P.plain=true
 cells:P.cells=[P]
 aZ:∀σ',cF oI σ σ'->mJ Em.stop 4 σ' 7 P l
variable{E E0:aE}(hU:aH E)
include hU
end
section
theorem GL(ns:List (List UInt8))(nm:List UInt8):jW ns nm=true↔nm∈ns:=by simp[jW]
theorem OW{α:Type}{ns t:List α}{x:α}(h:(ns++x::t).Nodup):x∉ns:=λhx=>(yCC.1 h).2.2 x hx x (yBh ..) rfl
theorem aDS:∀(l:List bB) (ns:List (List UInt8)),ns.Nodup->(qY ns l=0↔(∀r∈l,mK r=0)/\(ns++l.map bB.name).Nodup)
 | [],ns,h=>by simp[qY,h]
 |r::t,ns,h=>by
  unfold qY
  by_cases h1:mK r=0
  .rw[yAI Ao]
   by_cases h2:jW ns r.name=true
   .rw[yAJ h2];exact⟨λe=>absurd e yj,λe=>absurd ((GL _ _).1 h2) (OW (t:=t.map bB.name) e.2)⟩
   .rw[yAI h2];have hs:r.name∉ns:=λe=>h2 ((GL _ _).2 e)
    have hn:(ns++[r.name]).Nodup:=by
     rw[yCC];exact ef
    rw[aDS t _ hn];simp[h1]
  .exact su
theorem aDT(rs:List bB)(lo hg:Int):∀(l:List bU) (ns:List (List UInt8)),ns.Nodup->(xI rs lo hg ns l=0↔(∀r∈l,qW rs lo hg r=0)/\(ns++l.map bU.name).Nodup)
 | [],ns,h=>by simp[xI,h]
 |r::t,ns,h=>by
  unfold xI
  by_cases h1:qW rs lo hg r=0
  .rw[yAI Ao]
   by_cases h2:jW ns r.name=true
   .rw[yAJ h2];exact⟨λe=>absurd e yj,λe=>absurd ((GL _ _).1 h2) (OW (t:=t.map bU.name) e.2)⟩
   .rw[yAI h2];have hs:r.name∉ns:=λe=>h2 ((GL _ _).2 e)
    have hn:(ns++[r.name]).Nodup:=by
     rw[yCC];exact ef
    rw[aDT rs lo hg t _ hn];simp[h1]
  .exact su
theorem aDU(rs:List bB):∀(l:List bD) (ns:List (List UInt8)),ns.Nodup->(tA rs ns l=0↔(∀r∈l,dV r.name=true/\nJ rs r=0)/\(ns++l.map bD.name).Nodup)
 | [],ns,h=>by simp[tA,h]
 |r::t,ns,h=>by
  unfold tA
  by_cases h0:dV r.name=false
  .rw[yAJ h0];exact⟨λe=>absurd e yj,λe=>absurd (e.1 r (yBh ..)).1 (by rw[h0];decide)⟩
  rw[yAI h0];have h0':dV r.name=true:=by simpa using h0
  by_cases h2:jW ns r.name=true
  .rw[yAJ h2];exact⟨λe=>absurd e yj,λe=>absurd ((GL _ _).1 h2) (OW (t:=t.map bD.name) e.2)⟩
  .rw[yAI h2];have hs:r.name∉ns:=λe=>h2 ((GL _ _).2 e)
   by_cases h1:nJ rs r=0
   .rw[yAI Ao];have hn:(ns++[r.name]).Nodup:=by
     rw[yCC];exact ef
    rw[aDU rs t _ hn];simp[h1,h0']
   .rw[yAJ h1];exact⟨λe=>absurd e h1,λe=>absurd (e.1 r (yBh ..)).2 h1⟩
def OX(k:Nat)(c:bR):Prop:=dV c.name=true/\(0<=c.dS/\c.dS<k/\0<=c.dst/\c.dst<k)/\(-127<=c.shift/\c.shift<=127)/\¬(c.dS=c.dst/\c.shift=0)
theorem aDV(k:Nat):∀(l pre:List bR),(pre.map bR.name).Nodup->(rW k pre l=0↔(∀c∈l,OX k c)/\(pre.map bR.name++l.map bR.name).Nodup)
 | [],pre,h=>by simp[rW,h]
 |c::t,pre,h=>by
  unfold rW
  by_cases h0:dV c.name=false
  .rw[yAJ h0];exact⟨λe=>absurd e yj,λe=>absurd (e.1 c (yBh ..)).1 (by rw[h0];decide)⟩
  rw[yAI h0];have h0':dV c.name=true:=by simpa using h0
  have hm:pre.any (iE c.name)=true↔c.name∈pre.map bR.name:=by
   simp[iE]
  by_cases h2:pre.any (iE c.name)=true
  .rw[yAJ h2];exact⟨λe=>absurd e yj,λe=>absurd (hm.1 h2) (OW (t:=t.map bR.name) e.2)⟩
  rw[yAI h2];have hs:c.name∉pre.map bR.name:=λe=>h2 (hm.2 e)
  by_cases h3:c.dS<0\/(k:Int)<=c.dS\/c.dst<0\/(k:Int)<=c.dst
  .rw[yAJ h3];exact⟨λe=>absurd e yj,λe=>by have:=(e.1 c (yBh ..)).2.1;omega⟩
  rw[yAI h3]
  by_cases h4:c.shift < -127\/127<c.shift
  .rw[yAJ h4];exact⟨λe=>absurd e yj,λe=>by have:=(e.1 c (yBh ..)).2.2.1;omega⟩
  rw[yAI h4]
  by_cases h5:c.dS=c.dst/\c.shift=0
  .rw[yAJ h5];exact⟨λe=>absurd e yj,λe=>absurd h5 (e.1 c (yBh ..)).2.2.2⟩
  rw[yAI h5];have hn:((pre++[c]).map bR.name).Nodup:=by
   rw[yAH,yCC];exact ef
  rw[aDV k t _ hn];have hc:OX k c:=⟨h0',ye,ye,h5⟩;simp[hc]
theorem aN9(rs:List bB)(lo hg:Int)(s:bU):qW rs lo hg s=0↔vO rs lo hg=0/\dV s.name=true/\qX s.num s.den=0/\xF rs.length lo hg s.aO=0:=by
 unfold qW
 by_cases h1:vO rs lo hg=0
 .rw[yAI Ao]
  by_cases h2:dV s.name=false
  .rw[yAJ h2];exact⟨λe=>absurd e yj,λe=>absurd e.2.1 (by rw[h2];decide)⟩
  rw[yAI h2]
  by_cases h3:qX s.num s.den=0
  .rw[yAI Dr];exact⟨λe=>⟨h1,by simpa using h2,h3,e⟩,λe=>e.2.2.2⟩
  .rw[yAJ h3];exact⟨λe=>absurd e h3,λe=>absurd e.2.2.1 h3⟩
 .exact uh
theorem zQ(rs:List bB)(d:bD):nJ rs d=0↔lK d.low d.high=0/\d.stops.length<=60/\(∀s∈d.stops,qW rs d.low d.high s=0)/\(d.stops.map bU.name).Nodup:=by
 unfold nJ
 by_cases h1:lK d.low d.high=0
 .rw[yAI Ao]
  by_cases h2:60<d.stops.length
  .rw[yAJ h2];exact⟨λe=>absurd e yj,λe=>ye⟩
  rw[yAI h2,aDT rs d.low d.high d.stops [] yg];exact⟨λe=>⟨h1,ye,e.1,by simpa using e.2⟩,λe=>⟨e.2.2.1,by simpa using e.2.2.2⟩⟩
 .exact uh
theorem aDW(k:Nat)(lo hg:Int):∀(l:List gL) (pv:Option Int),xG k lo hg pv l=0->∀g∈l,lX k g.aT=0
 | [],_,_,g,h=>yw
 |a::t,pv,e,g,h=>by
  unfold xG at e;split at e
  .exact mu
  split at e
  .exact mu
  split at e
  .rename_i h1;exact absurd e h1
  .rename_i h1;rcases yBD.1 h with rfl|h
   .simpa using h1
   .exact aDW k lo hg t _ e g h
theorem aOa{k:Nat}{lo hg:Int}{l:List gL}(h:xF k lo hg l=0):l.length<=12/\∀g∈l,lX k g.aT=0:=by
 unfold xF at h;split at h
 .exact fe
 split at h
 .exact fe
 .exact⟨ye,aDW k lo hg l _ h⟩
theorem aDX(k:Nat):∀(l pre:List cT),xE k pre l=0->∀w∈l,0<=w.aG/\w.aG<k
 | [],_,_,g,h=>yw
 |a::t,pre,e,g,h=>by
  unfold xE at e;split at e
  .exact mu
  rename_i h1;split at e
  .exact mu
  split at e
  .exact mu
  .rcases yBD.1 h with rfl|h
   .omega
   .exact aDX k t _ e g h
theorem aOb{k:Nat}{l:List cT}(h:lX k l=0):l.length<=8/\∀w∈l,0<=w.aG/\w.aG<k:=by
 unfold lX at h;split at h
 .exact fe
 .exact⟨ye,aDX k l _ h⟩
theorem gV(o:aM):bS o=0↔dV o.name=true/\(o.aK.length<=60/\(∀r∈o.aK,mK r=0)/\(o.aK.map bB.name).Nodup)/\((o.aD.length≠0/\o.aD.length<=8)/\(∀d∈o.aD,dV d.name=true/\nJ o.aK d=0)/\(o.aD.map bD.name).Nodup)/\o.aR.length<=40/\(∀c∈o.aR,OX o.aD.length c)/\(o.aR.map bR.name).Nodup:=by
 unfold bS
 by_cases h1:dV o.name=false
 .rw[yAJ h1];exact⟨λe=>absurd e yj,λe=>absurd e.1 (by rw[h1];decide)⟩
 rw[yAI h1];have WC:dV o.name=true:=Ao
 by_cases h2:60<o.aK.length
 .rw[yAJ h2];exact⟨λe=>absurd e yj,λe=>by have:=e.2.1.1;omega⟩
 rw[yAI h2];have hr:=aDS o.aK [] yg;rw[yAO]at hr
 by_cases h3:qY [] o.aK=0
 .rw[yAI Dr];have DU:=hr.1 h3;unfold JZ
  by_cases h4:o.aD.length=0
  .rw[yAJ h4];exact⟨λe=>absurd e yj,λe=>absurd h4 e.2.2.1.1.1⟩
  rw[yAI h4]
  by_cases h5:8<o.aD.length
  .rw[yAJ h5];exact⟨λe=>absurd e yj,λe=>by have:=e.2.2.1.1.2;omega⟩
  rw[yAI h5];have hd:=aDU o.aK o.aD [] yg;rw[yAO]at hd
  by_cases h6:tA o.aK [] o.aD=0
  .rw[yAI (by simpa using h6)];have h6':=hd.1 h6;unfold zO;have hk:(gU o.aD).length=o.aD.length:=by unfold gU;rw[yAe]
   rw[hk]
   by_cases h7:40<o.aR.length
   .rw[yAJ (.inr h7)];exact⟨λe=>absurd e yj,λe=>by have:=e.2.2.2.1;omega⟩
   rw[yAI ye];have hc:zN (gU o.aD)=false:=by
    unfold zN gU;rw[yDy];intro x hx;obtain⟨d,hd,rfl⟩:=yAw.1 hx;simp[((zQ _ _).1 (h6'.1 d hd).2).1]
   rw[hc,yAI yj];have hq:=aDV o.aD.length o.aR [] yg;rw[yBo,yAO]at hq;rw[hq];exact⟨λe=>⟨WC,⟨ye,DU⟩,⟨⟨h4,ye⟩,h6'⟩,ye,e⟩,λe=>e.2.2.2.2⟩
  .rw[yAJ h6];exact⟨λe=>absurd e h6,λe=>absurd (hd.2 e.2.2.1.2) h6⟩
 .rw[yAJ h3];exact⟨λe=>absurd e h3,λe=>absurd (hr.2 e.2.1.2) h3⟩
structure nT (o:aM):Prop where
 name:kU o.name
 aK:∀r∈o.aK,y6 r
 aD:∀d∈o.aD,rO d
 aR:∀c∈o.aR,kU c.name
def pM(x:bJ):Prop:=kU x.name/\y6 x.aG/\rO x.frame/\DM x.stop/\kU x.aJ.name
def gK(o:aM):Prop:=bS o=0/\nT o
theorem pM.fO{x:bJ}(h:pM x):fO x:=⟨h.2.1.1,⟨h.2.2.1.2.1,λs hs=>(h.2.2.1.2.2 s hs).1⟩,h.2.2.2.1.1⟩
theorem nT.dP{o:aM}(h:nT o)(h1:o.aK.length<=1000000)(h2:o.aD.length<=1000000)(h3:o.aR.length<=1000000):dP o:=⟨h.name,⟨h.aK,h1⟩,⟨h2,h.aD⟩,h3,h.aR⟩
theorem dP.eV{o:aM}(h:dP o):eV o:=⟨⟨h.2.1.2,λr hr=>(h.2.1.1 r hr).1⟩,⟨h.2.2.1.1,λd hd=>⟨(h.2.2.1.2 d hd).2.1,λs hs=>((h.2.2.1.2 d hd).2.2 s hs).1⟩⟩,h.2.2.2.1⟩
theorem dP.fit{o:aM}(h:dP o):nT o:=⟨h.1,h.2.1.1,h.2.2.1.2,h.2.2.2.2⟩
theorem gK.bounds{o:aM}(h:gK o):o.aK.length<=60/\o.aD.length<=8/\o.aR.length<=40/\∀d∈o.aD,d.stops.length<=60:=by
 obtain⟨_,h2,h3,h4,_⟩:=(gV o).1 h.1;exact⟨h2.1,h3.1.2,h4,λd hd=>((zQ _ _).1 (h3.2.1 d hd).2).2.1⟩
theorem gK.dP{o:aM}(h:gK o):dP o:=h.2.dP (by have:=h.bounds.1;omega) (by have:=h.bounds.2.1;omega) (by have:=h.bounds.2.2.1;omega)
theorem gK.aT{o:aM}(h:gK o):∀d∈o.aD,∀s∈d.stops,∀g∈s.aO,∀w∈g.aT,0<=w.aG/\w.aG<o.aK.length:=λd hd s hs g hg=>by
 obtain⟨_,h2,h3,_⟩:=(gV o).1 h.1;have h4:=((zQ _ _).1 (h3.2.1 d hd).2).2.2.1 s hs;exact(aOb ((aOa ((aN9 _ _ _ _).1 h4).2.2.2).2 g hg)).2
theorem gK.ends{o:aM}(h:gK o):∀c∈o.aR,(0<=c.dS/\c.dS<o.aD.length)/\0<=c.dst/\c.dst<o.aD.length:=λc hc=>by
 obtain⟨_,_,_,_,h4,_⟩:=(gV o).1 h.1;have:=(h4 c hc).2.1;exact⟨⟨this.1,this.2.1⟩,this.2.2⟩
def uK(o:aM):aM×Int:=if bS o=0 then(o,0)else(vH,bS o)
def mL(wy i:Int)(n:Nat):Prop:=0<=i/\i<(if wy=0 then(n:Int)+1 else n)
def wZ(wy i:Int)(r:bB)(o:aM):aM:={ I1 wy i o with aK:=dA o.aK wy i.toNat r }
def uJ(wy i:Int)(d:bD)(o:aM):aM:={ NC wy i o with aD:=dA o.aD wy i.toNat d }
def zT(wy i:Int)(c:bR)(o:aM):aM:={ o with aR:=dA o.aR wy i.toNat c }
def xP(wy i dv:Int)(s:bU)(o:aM):aM:={ o with aD:=o.aD.set dv.toNat { o.aD.getD dv.toNat cP with stops:=dA (o.aD.getD dv.toNat cP).stops wy i.toNat s } }
open Classical in
noncomputable def j8(o:aM)(x:bJ):aM×Int:=
 if gQ x≠0 then(vH,gQ x)
 else if x.kind=13 then uK { o with name:=x.name }
 else if (x.kind-1)/3=0 then(if mL ((x.kind-1)%3) x.idx o.aK.length then(if NA ((x.kind-1)%3) x.idx o then uK (wZ ((x.kind-1)%3) x.idx x.aG o)else(vH,14))else(vH,10))
 else if (x.kind-1)/3=1 then(if mL ((x.kind-1)%3) x.idx o.aD.length then(if ∀c∈o.aR,NB ((x.kind-1)%3) x.idx c=true then uK (uJ ((x.kind-1)%3) x.idx x.frame o)else(vH,14))else(vH,10))
 else if (x.kind-1)/3=2 then(if (0<=x.div/\x.div<o.aD.length)/\mL ((x.kind-1)%3) x.idx (o.aD.getD x.div.toNat cP).stops.length then uK (xP ((x.kind-1)%3) x.idx x.div x.stop o)else(vH,10))
 else(if mL ((x.kind-1)%3) x.idx o.aR.length then uK (zT ((x.kind-1)%3) x.idx x.aJ o)else(vH,10))
theorem aOc{wy i:Int}{d:bD}(h:rO d):rO (FU wy i d):=by
 obtain⟨h1,h2,h3⟩:=h;refine⟨h1,by unfold FU;rw[yAe];exact h2,λs hs=>?_⟩;obtain⟨t,ht,rfl⟩:=yAw.1 hs;obtain⟨⟨k1,k2⟩,k3⟩:=h3 t ht;refine⟨⟨by unfold SN;rw[yAe];exact k1,λg hg=>?_⟩,k3⟩;obtain⟨q,hq,rfl⟩:=yAw.1 hg;have:=k2 q hq;unfold tN wG SO at *;rw[yAe];exact this
theorem NF{α:Type}(l:List α)(wy:Int)(i:Nat)(x:α):(dA l wy i x).length<=l.length+1:=by
 unfold dA;split
 .rw[yAa,yAS,yAt,yBd];omega
 split
 .rw[yAa,yAt,yBd];omega
 .rw[yAD];omega
theorem FW{α:Type}{l:List α}{way:Int}{i:Nat}{x y:α}(h:y∈dA l way i x):y∈l\/y=x:=by
 unfold dA at h;split at h
 .rcases yBf.1 h with h|h
  .exact .inl (yAy h)
  .rcases yBD.1 h with h|h
   .exact .inr h
   .exact .inl (yBg h)
 .split at h
  .exact tf
  .exact yCP h
theorem NG{α:Type}{l:List α}{i:Nat}(h:i<l.length)(d:α):l.getD i d∈l:=by
 rw[yAA,yAh h];exact yAm h
theorem aOd{o:aM}{r:bB}(h:nT o)(hr:y6 r)(wy i:Int):nT (wZ wy i r o):=⟨h.name,λq hq=>by
 rcases FW hq with hq|rfl
 .exact h.aK q hq
 .exact hr,λd hd=>by
 obtain⟨t,ht,rfl⟩:=yAw.1 hd;exact aOc (h.aD t ht),h.aR⟩
theorem aOe{o:aM}{d:bD}(h:nT o)(hr:rO d)(wy i:Int):nT (uJ wy i d o):=⟨h.name,h.aK,λq hq=>by
 rcases FW hq with hq|rfl
 .exact h.aD q hq
 .exact hr,λc hc=>by
 obtain⟨t,ht,rfl⟩:=yAw.1 hc;exact h.aR t ht⟩
theorem aBG{o:aM}{c:bR}(h:nT o)(hr:kU c.name)(wy i:Int):nT (zT wy i c o):=⟨h.name,h.aK,h.aD,λq hq=>by
 rcases FW hq with hq|rfl
 .exact h.aR q hq
 .exact hr⟩
theorem aBF{o:aM}{s:bU}(h:nT o)(hr:DM s)(wy i dv:Int)(hd:dv.toNat<o.aD.length)(hl:(o.aD.getD dv.toNat cP).stops.length<=999999):nT (xP wy i dv s o):=by
 have h0:=h.aD _ (NG hd cP);refine⟨h.name,h.aK,λq hq=>?_,h.aR⟩;rcases yCP hq with hq|rfl
 .exact h.aD q hq
 .refine⟨h0.1,yAW (NF _ _ _ _) ye,λt ht=>?_⟩;rcases FW ht with ht|rfl
  .exact h0.2.2 t ht
  .exact hr
end
section
variable{E E1 E2 E3 E4 E5 E6:aE}(hU:aH E)
include hU
end
theorem N0{σ:Ex}{on:Ez}{P1 P2 P3:PD}{rs:List bB}{dd:List bD}{cc:List bR}(l1:fP Em.aG 6 sV σ P1 rs)(l2:fP Em.div 5 sW σ P2 dd)(l3:fP Em.aJ 5 sX σ P3 cc)(K:Nat) :
  (aZ σ (K+9) (.agg [.str on,P1,P2,P3])).strip=Em.bH.aA ⟨on,rs,dd,cc⟩/\(aZ σ (K+9) (.agg [.str on,P1,P2,P3])).bI=true:=by
 obtain⟨a1,a2⟩:=l1.aZ σ (λ_ _ _ _ _ _ h=>h) K;obtain⟨b1,b2⟩:=l2.aZ σ (λ_ _ _ _ _ _ h=>h) K;obtain⟨c1,c2⟩:=l3.aZ σ (λ_ _ _ _ _ _ h=>h) K;refine⟨?_,?_⟩
 .show PD.agg [PD.strip (.str on),PD.strip (aZ σ (K+8) P1),PD.strip (aZ σ (K+8) P2),PD.strip (aZ σ (K+8) P3)]=_
  rw[a1,b1,c1];rfl
 .show(PD.bI (.str on)&&(PD.bI (aZ σ (K+8) P1)&&(PD.bI (aZ σ (K+8) P2)&&(PD.bI (aZ σ (K+8) P3)&&true))))=true
  rw[a2,b2,c2];rfl
theorem JH{Eo:aE}{σ:Ex}{on:Ez}{P1 P2 P3:PD}{rs:List bB}{dd:List bD}{cc:List bR}(l1:fP Em.aG 6 sV σ P1 rs)(l2:fP Em.div 5 sW σ P2 dd)(l3:fP Em.aJ 5 sX σ P3 cc)(h:aI prog Eo 27 [Em.bH.aA ⟨on,rs,dd,cc⟩] (i64.aA (bS ⟨on,rs,dd,cc⟩)))(fl:Nat) :
  pL (oY prog Eo 27) fl [.agg [.str on,P1,P2,P3]] σ=some (.int .i64 (bS ⟨on,rs,dd,cc⟩),σ):=by
 obtain⟨e1,e2⟩:=N0 (on:=on) l1 l2 l3 11;have e3:oY prog Eo 27 [aZ σ 20 (.agg [.str on,P1,P2,P3])]=some (.int .i64 (bS ⟨on,rs,dd,cc⟩)):=aLp (by rw[List.map_singleton,e1];exact h) rfl;unfold pL;simp only[List.map_singleton,PD.eJ,e2,yDj,yAK,e3]
theorem aIx{E:aE}{f:FuncId}{args:Ey}{p:PD}{σ:Ex}(h:iI prog E 0 (.inl f) args [] p σ){on:Ez}{P1 P2 P3:PD}{rs:List bB}{dd:List bD}{cc:List bR}(hp:p=.aP [if bS ⟨on,rs,dd,cc⟩=0 then .agg [.str on,P1,P2,P3]else oZ,.int .i64 (bS ⟨on,rs,dd,cc⟩)])
  (l1:fP Em.aG 6 sV σ P1 rs) (l2:fP Em.div 5 sW σ P2 dd) (l3:fP Em.aJ 5 sX σ P3 cc):RunT prog E f args ((Em.bH.rJ i64).aA (uK ⟨on,rs,dd,cc⟩)):=by
 refine⟨20,p,σ,h,?_,?_⟩
 .subst hp;unfold uK
  by_cases hz:bS ⟨on,rs,dd,cc⟩=0
  .rw[yAJ hz,yAJ hz,hz];show PD.aP [PD.strip (aZ σ 19 (.agg [.str on,P1,P2,P3])),.int .i64 0]=_
   rw[(N0 l1 l2 l3 10).1];rfl
  .rw[yAI hz,yAI hz];rfl
 .subst hp
  by_cases hz:bS ⟨on,rs,dd,cc⟩=0
  .rw[yAJ hz];show(PD.bI (aZ σ 19 (.agg [.str on,P1,P2,P3]))&&(true&&true))=true
   rw[(N0 l1 l2 l3 10).2];rfl
  .rw[yAI hz];rfl
theorem ND{E:aE}{f:FuncId}{args:Ey}{p:PD}{σ:Ex}(h:iI prog E 0 (.inl f) args [] p σ){e:Int}(hp:p=.aP [fY,.int .i64 e]):RunT prog E f args ((Em.bH.rJ i64).aA (vH,e)):=⟨20,p,σ,h,by rw[hp];rfl,by rw[hp];rfl⟩
theorem gK.short{o:aM}(h:gK o):aCJ o:=by
 obtain⟨h1,h2,h3,h4⟩:=h.bounds;exact⟨ye,ye,ye,λd hd=>yAW (h4 d hd) yj⟩
end Go.Kz
