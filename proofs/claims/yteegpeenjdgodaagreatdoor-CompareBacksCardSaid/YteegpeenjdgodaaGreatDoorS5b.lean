/- Steps of the proof. -/
import Derived.Test.YteegpeenjdgodaaGreatDoorS5
set_option linter.all false
set_option maxHeartbeats 40000000
set_option maxRecDepth 100000
open Go.Proofs.Tryz
noncomputable section
namespace Go.Kz
open Go Go.Proofs
section
def AA(k:Nat):List dQ->List dQ->Int
 |_,[]=>0
 |pre,d::r=>if d.aN<0\/(k:Int)<=d.aN then 10 else if d.shift < -127\/127<d.shift then 3 else if (pre.any λx=>decide (x=d))=true then 9 else AA k (pre++[d]) r
def nZ(k:Nat)(l:List dQ):Int:=if 8<l.length then 4 else AA k [] l
variable{E:aE}(hU:aJ E)
include hU
theorem aLw(h0:E 167=none)(l:List dQ)(v:dQ)(hl:l.length<=1000000):aI prog E 167 [gK.aB l,Em.draw.aB v] (i64.aB (eZ (λx=>decide (x=v)) l 0)):=by
 obtain⟨B,hB⟩:∃B,eZ (λx=>decide (x=v)) l 0=B:=⟨_,rfl⟩;rw[hB];obtain⟨v0,v1⟩:=v;simp only[EU];refine aI.aG 19 h0 func167 (h:=?_);refine aC trivial ?_;refine Wp.dW (λm fr σ=>∃(i:Nat),∃gg:Nat->PD,(i+m=l.length/\eZ (λx=>decide (x=dQ.mk v0 v1)) (l.drop i) i=B)/\fr=[gK.aB l,gg 1,gg 2,.ptr 0 0,gg 4,gg 5,gK.aB l,.int .i64 l.length,.int .i64 i,gg 9,gg 10,gg 11,gg 12,gg 13,gg 14,gg 15,gg 16,gg 17,gg 18]/\σ=[.box (.agg [.int .i64 v0,.int .i64 v1])]) ?_ (l.length) (by refine⟨0,?_⟩;exact cL (⟨Cd,hB⟩))
 rintro m fr σ ⟨i,gg,hI,rfl,rfl⟩
 obtain⟨hm,hs⟩:=hI
 by_cases hi:i<l.length
 .have q1:(i:Int)<(l.length:Int):=by omega
  obtain⟨a,ha⟩:=gn (l[i]);have hc:l.drop i=a::l.drop (i+1):=Cp;rw[hc]at hs;unfold eZ at hs;obtain⟨a0,a1⟩:=a
  by_cases hb:a0=v0
  .by_cases hb2:a1=v1
   .rw[yAJ (by rw[hb,hb2];simp)]at hs;have cM:B=(i:Int):=hs.symm;clear hs;refine aC (A5 q1 hi ha @hb hb2) ?_;exact aq
   .rw[yAI (by simpa using λ_=>hb2)]at hs;refine aC (An @q1 (An @hi (An @ha (An @hb (An @hb2 ((yAU hb2))))))) ?_;exact bp
  .rw[yAI (by simpa using λh=>absurd h hb)]at hs;refine aC (An @q1 (An @hi (An @ha (An @hb ((yAU hb)))))) ?_;exact bp
 .have q1:¬(i:Int)<(l.length:Int):=by omega
  rw[yAs Cd]at hs;have cM:B=-1:=hs.symm;exact yw
def QH:Nat->List PD->List aA->Option (PD×List aA):=entry (fF gK Em.draw i64 λl v=>eL (l.length<=1000000) (some (eZ (λx=>decide (x=v)) l 0)))
omit hU in
theorem aPv{l:List dQ}{v:dQ}(hl:l.length<=1000000)(fl:Nat)(σ:List aA):QH fl [gK.aB l,Em.draw.aB v] σ=some (.int .i64 (eZ (λx=>decide (x=v)) l 0),σ):=by
 have e1:=Em.dC (gK.str l);have e2:=Em.dC (Em.draw.str v);unfold QH entry fF;simp only[e1,e2];rw[fY hl];rfl
def QI:Nat->List PD->List aA->Option (PD×List aA):=entry (fF gK Em.draw Em.bool λl v=>eL (l.length<=1000000) (some (l.any λx=>decide (x=v))))
omit hU in
theorem aPw{l:List dQ}{v:dQ}{p:PD}(hl:l.length<=1000000)(hp:p.strip=gK.aB l)(fl:Nat)(σ:List aA):QI fl [p,Em.draw.aB v] σ=some (.bool (l.any λx=>decide (x=v)),σ):=by
 have e1:=Em.dC hp;have e2:=Em.dC (Em.draw.str v);unfold QI entry fF;simp only[e1,e2];rw[fY hl];rfl
theorem aLy(h0:E 148=none)(h1:E 167=some QH)(l:List dQ)(v:dQ)(hl:l.length<=1000000):aI prog E 148 [gK.aB l,Em.draw.aB v] (Em.bool.aB (l.any λx=>decide (x=v))):=by
 have hE:=aPv (v:=v) hl;rw[<-RU _ l 0];simp only[bC,EU]at hE;simp only[EU];refine aI.aG 9 h0 func148 (h:=?_);exact As
theorem aLA(h0:E 128=none)(h1:E 148=some QI)(rs:List bP)(hrs:rs.length<=1000000)(lo hg:Int)(l:List dQ)(hl:l.length<=1000000) :
  aI prog E 128 [.agg [aQ.aB rs,.int .i64 lo,.int .i64 hg],gK.aB l] (i64.aB (nZ rs.length l)):=by
 unfold nZ
 by_cases c:8<l.length
 .have c1:8<(l.length:Int):=by omega
  rw[yAJ c];refine aI.aG 45 h0 func128 (h:=?_);refine aC (A2 @c c1) ?_;exact ag
 have c1:¬8<(l.length:Int):=Cd;rw[yAI c];obtain⟨B,hB⟩:=gn (AA rs.length [] l);rw[hB];refine aI.aG 45 h0 func128 (h:=?_);refine aC (A2 @c c1) ?_;obtain⟨X,hX⟩:=gn (aA.box (.agg [.slice (sz 6 rs) (rs.map Em.aN.aB) .any,.int .i64 lo,.int .i64 hg]));refine Wp.dW (λm fr σ=>∃(i:Nat) (σ1:List aA),∃gg:Nat->PD,(i+m=l.length/\σ1[0]?=some X/\AA rs.length (l.take i) (l.drop i)=B)/\fr=[gg 0,gK.aB l,.ptr 0 0,gg 3,gg 4,gg 5,gg 6,gg 7,gg 8,gg 9,gK.aB l,.int .i64 l.length,.int .i64 i,gg 13,gg 14,gg 15,gg 16,gg 17,gg 18,gg 19,gg 20,gg 21,gg 22,gg 23,gg 24,gg 25,gg 26,gg 27,gg 28,gg 29,gg 30,gg 31,gg 32,gg 33,gg 34,gg 35,gg 36,gg 37,gg 38,gg 39,gg 40,gg 41,gg 42,gg 43,gg 44]/\σ=σ1) ?_ (l.length) (by refine⟨0,[X],?_⟩;exact fU (⟨Cd,rfl,hB⟩) @hX)
 rintro m fr σ ⟨i,σ1,gg,hI,rfl,rfl⟩
 obtain⟨hm,hx0,hs⟩:=hI
 by_cases hi:i<l.length
 .have q1:(i:Int)<(l.length:Int):=by omega
  obtain⟨a,ha⟩:=gn (l[i]);have hc:l.drop i=a::l.drop (i+1):=Cp;rw[hc]at hs;unfold AA at hs;obtain⟨a0,a1⟩:=a;have iA:0<σ.length:=(yA.1 hx0).1;have j0:∀x:aA,(σ++[x])[σ.length]?=some x:=λx=>Ce
  have j1:∀x:aA,(σ++[x])[0]?=some X:=λx=>Ff
  rw[<-hX]at j1;have hx1:=hx0;rw[<-hX]at hx1;obtain⟨hltx,hxe⟩:=yA.1 hx1
  by_cases c2:a0<0
  .rw[yAJ (.inl c2)]at hs;subst hs;refine aC (A9 q1 hi ha j0 j1 hx1 iA hxe c2) ?_;exact ag
  by_cases c3:(rs.length:Int)<=a0
  .rw[yAJ (.inr c3)]at hs;subst hs;refine aC (A10 q1 hi ha j0 j1 hx1 iA hxe c2 c3) ?_;exact ag
  rw[yAI (λh=>h.elim c2 c3)]at hs
  by_cases c4:a1 < -127
  .rw[yAJ (.inl c4)]at hs;subst hs;refine aC (A11 q1 hi ha j0 j1 hx1 iA hxe c2 c3 c4) ?_;exact ag
  by_cases c5:127<a1
  .rw[yAJ (.inr c5)]at hs;subst hs;refine aC (A12 q1 hi ha j0 j1 hx1 iA hxe c2 c3 c4 c5) ?_;exact ag
  rw[yAI (λh=>h.elim c4 c5)]at hs;have hsl:(PD.slice (sz 2 l) ((l.map Em.draw.aB).take i) .any).strip=gK.aB (l.take i):=by
   rw[PD.tO,<-yCW,show((l.take i).map Em.draw.aB).map PD.strip=(l.take i).map Em.draw.aB by rw[yBs];exact yAG λx _=>Em.draw.str x];have hne:l≠[]:=λh=>by rw[h]at hi;simp at hi
   rw[bC];simp[sz,hne]
  have hE:=aPw (v:=⟨a0,a1⟩) (l:=l.take i) (p:=PD.slice (sz 2 l) ((l.map Em.draw.aB).take i) .any) Eh hsl;simp only[EU]at hE;have hle:i<=l.length:=Cd;have htk:l.take (i+1)=l.take i++[⟨a0,a1⟩]:=Hh;cases hb:(l.take i).any λx=>decide (x=dQ.mk a0 a1)with
  |true=>
   rw[hb]at hE hs;rw[yAJ rfl]at hs;subst hs;refine aC Bq ?_;exact ag
  |false=>
   rw[hb]at hE hs;rw[yAI Ch]at hs;refine aC Bq ?_;refine bU.normal (m-1) Cd (by refine⟨i+1,σ++[.box (.agg [.int .i64 a0,.int .i64 a1])],?_⟩;exact cL (⟨Cd,Ff,by rw[htk];exact hs⟩))
 .have q1:¬(i:Int)<(l.length:Int):=by omega
  rw[yAs Cd]at hs;have cM:B=0:=hs.symm;exact yw
end
section
def xU(r:bP):Prop:=gU r/\lB r.name/\lB r.j9
def AE:List bP->Int
 | []=>0
 |r::t=>if pB r≠0 then pB r else AE t
def yK(rs:List bP)(lo hg:Int):Int:=if 60<rs.length then 4 else if AE rs≠0 then AE rs else mY lo hg
def LW:Nat->List PD->List aA->Option (PD×List aA):=entry (cU Em.aN i64 λr=>eL (xU r) (some (pB r)))
theorem aFb{r:bP}(h:xU r)(fl:Nat)(σ:List aA):LW fl [Em.aN.aB r] σ=some (.int .i64 (pB r),σ):=by
 have e1:=Em.dC (Em.aN.str r);unfold LW entry cU;exact mm
def IM:Nat->List PD->List aA->Option (PD×List aA):=entry (cU Em.dI i64 λx=>some (mY x.1 x.2))
theorem ZK(n d:Int)(fl:Nat)(σ:List aA):IM fl [.agg [.int .i64 n,.int .i64 d]] σ=some (.int .i64 (mY n d),σ):=by
 have e1:Em.dI.dec (.agg [.int .i64 n,.int .i64 d])=some (n,d):=Em.dC rfl;unfold IM entry cU;simp only[e1];rfl
variable{E:aE}(hU:aJ E)
include hU
theorem aLC(h0:E 127=none)(h1:E 61=some LW)(h2:E 96=some IM)(rs:List bP)(hrs:∀r∈rs,xU r)(hrl:rs.length<=1000000)(lo hg:Int) :
  aI prog E 127 [.agg [aQ.aB rs,.int .i64 lo,.int .i64 hg]] (i64.aB (yK rs lo hg)):=by
 unfold yK
 by_cases c:60<rs.length
 .have c1:60<(rs.length:Int):=by omega
  rw[yAJ c];refine aI.aG 26 h0 func127 (h:=?_);refine aC (A2 @c c1) ?_;exact ag
 have c1:¬60<(rs.length:Int):=Cd;rw[yAI c];obtain⟨B,hB⟩:=gn ((if AE rs≠0 then AE rs else mY lo hg));rw[hB];have hC:=ZK lo hg;refine aI.aG 26 h0 func127 (h:=?_);refine aC (A2 @c c1) ?_;obtain⟨X,hX⟩:=gn (aA.box (.agg [.slice (sz 6 rs) (rs.map Em.aN.aB) .any,.int .i64 lo,.int .i64 hg]));refine Wp.dW (λm fr σ=>∃(i:Nat) (σ1:List aA),∃gg:Nat->PD,(i+m=rs.length/\σ1[0]?=some X/\(if AE (rs.drop i)≠0 then AE (rs.drop i)else mY lo hg)=B)/\fr=[gg 0,.ptr 0 0,gg 2,gg 3,gg 4,gg 5,gg 6,gg 7,gg 8,gg 9,gg 10,aQ.aB rs,.int .i64 rs.length,.int .i64 i,gg 14,gg 15,gg 16,gg 17,gg 18,gg 19,gg 20,gg 21,gg 22,gg 23,gg 24,gg 25]/\σ=σ1) ?_ (rs.length) (by refine⟨0,[X],?_⟩;exact fU (⟨Cd,rfl,hB⟩) @hX)
 rintro m fr σ ⟨i,σ1,gg,hI,rfl,rfl⟩
 obtain⟨hm,hx0,hs⟩:=hI;have hx1:=hx0;rw[<-hX]at hx1;obtain⟨iA,hxe⟩:=yA.1 hx1
 by_cases hi:i<rs.length
 .have q1:(i:Int)<(rs.length:Int):=by omega
  obtain⟨a,ha⟩:=gn (rs[i]);have hc:rs.drop i=a::rs.drop (i+1):=Cp;rw[hc]at hs;unfold AE at hs;have hE:=aFb (hrs a (ha▸yAm hi));have j0:∀x:aA,(σ++[x])[σ.length]?=some x:=λx=>Ce
  obtain⟨e,he⟩:=gn (pB a);rw[he]at hE hs;simp only[oA,bC]at hE
  by_cases c2:e=0
  .subst c2;simp only[ne_eq,yBK,yAN]at hs;refine aC (A6 q1 hi ha j0 h1 hE) ?_;refine bU.normal (m-1) Cd (by refine⟨i+1,σ++[.box (.agg [.str a.name,.str a.j9,.int .i64 a.num,.int .i64 a.den,.int .i64 a.first,.slice (sz 1 a.mC) (a.mC.map i64.aB) .any])],?_⟩;exact cL (⟨Cd,Ff,hs⟩))
  .simp only[ne_eq,c2,yCz,yAK]at hs;subst hs;refine aC (A7 q1 hi ha j0 h1 hE c2) ?_;exact ag
 .have q1:¬(i:Int)<(rs.length:Int):=by omega
  rw[yAs Cd]at hs;have hs2:mY lo hg=B:=hs;rw[hs2]at hC;refine aC (A6 q1 hx1 iA hxe h2 hC) ?_;exact ag
end
end Go.Kz
namespace Go.Kz
section
open Go
section
variable{P:Program}{call:dB}{fl:Nat}{ops:Jo}{l:List Oper}{fr aX:Jk}{σ σ1:Jj}{K:List PD->List aA->Prop}
variable{dst:Option Tmp}{x y z:Operand}{t ty:TypeId}{pos:String}{edges:Array Edge}{guard:Option (Nat×Bool)}{p q v r:PD}{ok:Bool}
theorem SL.lookup(hw:Wt (Region.wanted ⟨dst,.lookup t x y ok,ty,pos,edges,guard⟩ (cK ops fr)=true))(hx:cZ fr x=some p)(hy:cZ fr y=some q)(hr:By (HT P σ t p q ok=some r))(hf:Fr (bG fr dst r=aX))(k:SQ P call fl ops l aX σ K) :
  SQ P call fl ops (⟨dst,.lookup t x y ok,ty,pos,edges,guard⟩::l) fr σ K:=
 .step hw.h (zA rfl rfl (by simp only[dK,fL hx,fL hy,hr.h])) (hf.h▸k)
theorem SL.mapUpdate(hw:Wt (Region.wanted ⟨dst,.mapUpdate t x y z,ty,pos,edges,guard⟩ (cK ops fr)=true))(hx:cZ fr x=some p)(hy:cZ fr y=some q)(hz:cZ fr z=some v)(hr:By (HU P fl σ t p q v=some σ1))(hf:Fr (bG fr dst (.aH [])=aX))(k:SQ P call fl ops l aX σ1 K) :
  SQ P call fl ops (⟨dst,.mapUpdate t x y z,ty,pos,edges,guard⟩::l) fr σ K:=
 .step hw.h (zA rfl rfl (by simp only[dK,fL hx,fL hy,fL hz,hr.h])) (hf.h▸k)
theorem SL.makeMap{kt e:TypeId}(hw:Wt (Region.wanted ⟨dst,.makeMap t none,ty,pos,edges,guard⟩ (cK ops fr)=true))(hx:By (P.underlying t=some (.map kt e)))(hr:Ns (σ++[.map []]=σ1)){n:Nat}(hn:Ns (σ.length=n))(hf:Fr (bG fr dst (.gG n)=aX))(k:SQ P call fl ops l aX σ1 K) :
  SQ P call fl ops (⟨dst,.makeMap t none,ty,pos,edges,guard⟩::l) fr σ K:=by
 obtain⟨rfl⟩:=hr.h;obtain⟨rfl⟩:=hn.h;exact .step hw.h (zA rfl rfl (by simp only[dK,hx.h])) (hf.h▸k)
end
theorem mZ{X R G:Prop}(gx:X)(r:R)(h:X->Hd R->G:=by
  (intro gx hh
   (repeat(first
    |(refine Fr.i ?_;simp only[bG,yBm,yBu];try rfl)
    |(refine By.i ?_;(focus(simp(disch:=first|omega|(simp;done)|(simp;omega)) [wrap_i64,wrap_u64,gx,entry,xM,cU,fF,wI];first|done|rfl|exact⟨rfl,rfl⟩)))
    |(refine By.i ?_;simp(disch:=first|omega|(simp;done)|(simp;omega)) [wrap_i64,wrap_u64,gx,entry,xM,cU,fF,wI];refine⟨Ct,rfl⟩)
    |(refine Wt.i ?_;first|rfl|(focus(simp[gx,entry,xM,cU,fF,wI];done)))
    |(refine Ns.i ?_;(try simp only[yAl,yAW,yBt,yAi,yAa,yAT,yAO,yAp,Nat.reduceAdd]);rfl)|rfl
    |(apply SL.pass;(focus(refine Wt.i ?_;rfl)))|(apply SL.aHh;(focus decide +kernel))|(apply tu;(focus rfl))|apply SL.move|apply SL.assign|apply SL.load|apply SL.y5|apply tu|apply SL.make
    |apply SL.binOp|apply SL.append|apply tu|apply SL.builtin|apply SL.fieldAddr|apply SL.indexAddr|apply SL.field|apply SL.extract|apply SL.y6|apply SL.pick|apply SL.store|apply SL.unOp|apply SL.convert|apply SL.index
    |apply SL.slice|apply SL.build|apply tu|apply SL.buildSlice|apply SL.box|apply SL.alloc|apply SL.makeFunc|apply SL.lookup|apply SL.mapUpdate|apply SL.makeMap|apply SQ.nil|(apply WL.tI;(focus decide +kernel))
    |(apply WL.CS Cm;(focus decide +kernel);(focus decide +kernel))|(apply tu;(focus decide +kernel);(focus decide +kernel))|(apply WL.JZ;(focus decide +kernel))
    |(apply WL.J0 Cm;(focus decide +kernel);(focus decide +kernel))|(apply WL.J1;(focus decide +kernel);(focus decide +kernel))|(apply tu Cm;(focus decide +kernel);(focus decide +kernel))
    |(apply WL.J3 Cm;(focus decide +kernel);(focus decide +kernel))|(apply WL.J4 Cm;(focus decide +kernel);(focus decide +kernel))
    |(apply tu Cm;(focus decide +kernel);(focus decide +kernel))|apply tu|(apply WL.ct;(focus rfl))|(apply WL.cf;(focus rfl))|refine mM.normal ?_|refine mM.ret ?_|refine mM.exit ?_
    |refine kF.normal ?_|refine kF.ret ?_|refine kF.here ?_|refine tu Ch ?_|refine Wp.block ?_|refine Wp.skip ?_|refine Wp.ret ?_|refine Wp.exit ?_|refine bU.ret ?_|refine bU.exit ?_
    |refine nK.normal ?_|refine nK.ret ?_|refine nK.exit ?_|refine Wp.seq (Wp.seq ?_)|refine Wp.seq (Wp.block ?_)|(refine Wp.seq ?_;apply WL.ct;(focus rfl))|(refine Wp.seq ?_;apply WL.cf;(focus rfl))))
   exact hh.out)):G:=h gx ⟨r⟩
end
end Go.Kz
namespace Go.Kz
open Go Go.Proofs
section
def GJ(pv:Option Int)(n:Int):Bool:=match pv with|none=>false|some t=>decide (n<=t)
def AD(k:Nat)(lo hg:Int):Option Int->List jE->Int
 |_,[]=>0
 |pv,g::r=>if min g.lo g.hi<lo\/hg<max g.lo g.hi then 23 else if g.hi<g.lo\/GJ pv g.lo=true then 6 else if nZ k g.aR≠0 then nZ k g.aR else AD k lo hg (some g.hi) r
def MZ(l:List jE):Nat->Option Int
 |0=>none
 |j+1=>(l[j]?).map jE.hi
def AB(k:Nat)(lo hg:Int)(l:List jE):Int:=if l.length=0 then 13 else if 12<l.length then 4 else AD k lo hg none l
def s5(rs:List bP)(lo hg:Int)(s:cO):Int:=
 if yK rs lo hg≠0 then yK rs lo hg else if fO s.name=false then 8 else if s7 s.num s.den≠0 then s7 s.num s.den else AB rs.length lo hg s.aO
def cF.place:cF (List bP×Int×Int):=((cF.one aQ).pair ((cF.one i64).pair (.one i64))).nH (λr=>(r.1,r.2.1,r.2.2)) (λx y h=>by obtain⟨_,_,_⟩:=x;obtain⟨_,_,_⟩:=y;simpa using h)
def Em.place:Em (List bP×Int×Int):=.agg .place
@[simp] theorem ZJ{r:List bP×Int×Int}:Em.place.aB r=.agg [aQ.aB r.1,.int .i64 r.2.1,.int .i64 r.2.2]:=rfl
def CH(rs:List bP):Prop:=(∀r∈rs,xU r)/\rs.length<=1000000
def QK:Nat->List PD->List aA->Option (PD×List aA):=entry (cU Em.place i64 λx=>eL (CH x.1) (some (yK x.1 x.2.1 x.2.2)))
theorem aPt{rs:List bP}(h:CH rs)(lo hg:Int)(fl:Nat)(σ:List aA):QK fl [.agg [aQ.aB rs,.int .i64 lo,.int .i64 hg]] σ=some (.int .i64 (yK rs lo hg),σ):=by
 have e1:=Em.dC (Em.place.str (rs,lo,hg));rw[ZJ]at e1;unfold QK entry cU;exact mm
def QJ:Nat->List PD->List aA->Option (PD×List aA):=entry (fF Em.place gK i64 λx l=>eL (x.1.length<=1000000/\l.length<=1000000) (some (nZ x.1.length l)))
theorem aPu{rs:List bP}{l:List dQ}(h:rs.length<=1000000)(hl:l.length<=1000000)(lo hg:Int)(fl:Nat)(σ:List aA):QJ fl [.agg [aQ.aB rs,.int .i64 lo,.int .i64 hg],gK.aB l] σ=some (.int .i64 (nZ rs.length l),σ):=by
 have e1:=Em.dC (Em.place.str (rs,lo,hg));rw[ZJ]at e1;have e2:=Em.dC (gK.str l);unfold QJ entry fF;simp only[e1,e2];rw[fY ⟨h,hl⟩];rfl
variable{E:aE}(hU:aJ E)
include hU
theorem aLE(h0:E 97=none)(h1:E 127=some QK)(h2:E 60=some F2)(h3:E 93=some LV)(h4:E 128=some QJ)(rs:List bP)(hrs:CH rs)(lo hg:Int)(s:cO)(hs:jT s)(hn:lB s.name) :
  aI prog E 97 [.agg [aQ.aB rs,.int .i64 lo,.int .i64 hg],Em.stop.aB s] (i64.aB (s5 rs lo hg s)):=by
 obtain⟨n,a,b,l⟩:=s;have e1:=aPt hrs lo hg;have e2:=JG hn;have e3:=aFj a b;have hl:l.length<=1000000:=hs.1;unfold s5;obtain⟨p,hp⟩:=gn (yK rs lo hg);obtain⟨q,hq⟩:=gn (s7 a b);rw[hp]at e1 ⊢;simp only[bC]at e1;simp only[hq]at e3 ⊢;simp only[pZ,bC]
 by_cases c1:p=0
 rotate_left
 .rw[yAJ c1];refine aI.aG 94 h0 func97 (h:=?_);refine aC (A3 h1 e1 c1) ?_;exact ag
 subst c1;simp only[ne_eq,yBK,yAN];cases c2:fO n with
 |false=>
  simp only at e2;rw[c2]at e2;rw[yAJ rfl];refine aI.aG 94 h0 func97 (h:=?_);refine aC (A4 h1 h2 e1 e2) ?_;exact ag
 |true=>
 simp only at e2;rw[c2]at e2;rw[yAI Ce]
 by_cases c3:q=0
 rotate_left
 .rw[yAJ c3];refine aI.aG 94 h0 func97 (h:=?_);refine aC (A7 h1 h2 h3 e1 e2 e3 c3) ?_;exact ag
 subst c3;simp only[yBK,yAN];unfold AB
 by_cases c4:l.length=0
 .rw[yAJ c4];have c6:l=[]:=yAf c4;subst c6;refine aI.aG 94 h0 func97 (h:=?_);refine aC (A6 h1 h2 h3 e1 e2 e3) ?_;exact ag
 rw[yAI c4];have uO:¬l=[]:=λh=>c4 Ea
 by_cases c5:12<l.length
 .rw[yAJ c5];have c6:12<(l.length:Int):=Cd;refine aI.aG 94 h0 func97 (h:=?_);refine aC (A10 h1 h2 h3 e1 e2 e3 c4 uO c5 c6) ?_;exact ag
 rw[yAI c5];have c6:¬12<(l.length:Int):=Cd;obtain⟨B,hB⟩:=gn (AD rs.length lo hg none l);rw[hB];refine aI.aG 94 h0 func97 (h:=?_);refine aC (A10 h1 h2 h3 e1 e2 e3 c4 uO c5 c6) ?_;obtain⟨X,hX⟩:=gn (aA.box (.agg [.slice (sz 6 rs) (rs.map Em.aN.aB) .any,.int .i64 lo,.int .i64 hg]));obtain⟨Y,hY⟩:=gn (aA.box (.agg [.str n,.int .i64 a,.int .i64 b,.slice (sz 3 l) (l.map Em.fB.aB) .any]));refine Wp.dW (λm fr σ=>∃(i:Nat) (σ1:List aA),∃gg:Nat->PD,(i+m=l.length/\σ1[0]?=some X/\σ1[1]?=some Y/\AD rs.length lo hg (MZ l i) (l.drop i)=B)/\fr=gg 0::gg 1::.ptr 0 0::.ptr 1 0::gg 4::gg 5::gg 6::gg 7::gg 8::gg 9::gg 10::gg 11::gg 12::gg 13::gg 14::gg 15::gg 16::gg 17::gg 18::gg 19::gg 20::gg 21::gg 22::gg 23::gg 24::gg 25::gg 26::gg 27::gg 28::gg 29::gg 30::gg 31::gg 32::gg 33::gg 34::gg 35::oP.aB l::.int .i64 l.length::.int .i64 i::gg 39::gg 40::gg 41::gg 42::gg 43::gg 44::gg 45::gg 46::gg 47::gg 48::gg 49::gg 50::gg 51::gg 52::gg 53::gg 54::gg 55::gg 56::gg 57::gg 58::gg 59::gg 60::gg 61::gg 62::gg 63::gg 64::gg 65::gg 66::gg 67::gg 68::gg 69::gg 70::gg 71::gg 72::gg 73::gg 74::gg 75::gg 76::gg 77::gg 78::gg 79::gg 80::gg 81::gg 82::gg 83::gg 84::gg 85::gg 86::gg 87::gg 88::gg 89::gg 90::gg 91::gg 92::gg 93::[]/\σ=σ1) ?_ (l.length) (by refine⟨0,[X,Y],?_⟩;exact fU (⟨Cd,rfl,rfl,hB⟩) (A2 hX hY))
 rintro m fr σ ⟨i,σ1,gg,hI,rfl,rfl⟩
 obtain⟨hm,hx0,hy0,hs2⟩:=hI
 by_cases hi:i<l.length
 .have q1:(i:Int)<(l.length:Int):=by omega
  obtain⟨g,iH⟩:=gn (l[i]);have hc:l.drop i=g::l.drop (i+1):=by rw[yAq hi,iH]
  have hpv:MZ l (i+1)=some g.hi:=by
   show(l[i]?).map jE.hi=_
   rw[yAh hi,iH];rfl
  rw[hc]at hs2;unfold AD at hs2;have hgm:g∈l:=iH▸yAm hi
  have hgl:g.aR.length<=1000000:=hs.2 g hgm;have hD:=aPu hrs.2 hgl lo hg;have hx1:=hx0;have hy1:=hy0;rw[<-hX]at hx1;rw[<-hY]at hy1;obtain⟨iA,hxe⟩:=yA.1 hx1;obtain⟨lZ,hye⟩:=yA.1 hy1;obtain⟨g0,g1,gd⟩:=g;simp only[bC]at hD;simp only at hs2 hpv hgl hD;have j0:∀x:aA,(σ++[x])[σ.length]?=some x:=λx=>Ce
  obtain⟨MN,hMN⟩:=gn (min g0 g1);obtain⟨MX,hMX⟩:=gn (max g0 g1);have hmn:(if g1<g0 then g1 else g0)=MN:=by rw[<-hMN];split<;>omega
  have hmx:(if g0<g1 then g1 else g0)=MX:=by rw[<-hMX];split<;>omega
  rw[hMN,hMX]at hs2
  by_cases c7:MN<lo
  .rw[yAJ (.inl c7)]at hs2;subst hs2;refine aC (A13 q1 hi iH j0 hx1 hy1 iA lZ hxe hye hmn hmx c7) ?_;exact ag
  by_cases c8:hg<MX
  .rw[yAJ (.inr c8)]at hs2;subst hs2;refine aC (A14 q1 hi iH j0 hx1 hy1 iA lZ hxe hye hmn hmx c7 c8) ?_;exact ag
  rw[yAI (λh=>h.elim c7 c8)]at hs2
  by_cases c9:g1<g0
  .rw[yAJ (.inl c9)]at hs2;subst hs2;have GL:¬g0<g1:=Cd;have d7:¬g1<lo:=Cd;have d8:¬hg<g0:=Cd;refine aC (A14 q1 hi iH j0 hx1 hy1 iA lZ hxe hye c9 GL @d7 @d8) ?_;exact ag
  have d7:¬g0<lo:=Cd;have d8:¬hg<g1:=Cd;have hm2:(if g0<g1 then g1 else g0)=g1:=by split<;>omega
  clear hmn hmx hMN hMX c7 c8;obtain⟨dr,hdr⟩:=gn (nZ rs.length gd);rw[hdr]at hD hs2;obtain⟨Z,hZ⟩:=gn (aA.box (.agg [.int .i64 g0,.int .i64 g1,.slice (sz 2 gd) (gd.map Em.draw.aB) .any]))
  by_cases ci:i=0
  .subst ci;rw[show MZ l 0=none from rfl,yAI (λh=>h.elim c9 (by simp[GJ]))]at hs2
   by_cases v8:dr=0
   .subst v8;simp only[ne_eq,yBK,yAN]at hs2;refine aC (A16 q1 hi iH j0 hx1 hy1 iA lZ hxe hye c9 hm2 @d7 @d8 h4 hD) ?_;refine bU.normal (m-1) Cd (by refine⟨1,σ++[Z],?_⟩;exact fU (⟨Cd,Ff,by rw[yAg lZ];exact hy0,by rw[show MZ l 1=some g1 from hpv];exact hs2⟩) @hZ)
   .simp only[ne_eq,v8,yCz,yAK]at hs2;subst hs2;refine aC (A17 q1 hi iH j0 hx1 hy1 iA lZ hxe hye c9 hm2 @d7 @d8 h4 hD v8) ?_;exact ag
  .obtain⟨j,hji⟩:∃j,i=j+1:=⟨i-1,Cd⟩;have hj:j<l.length:=Cd;obtain⟨p,sA⟩:=gn (l[j]);have hpo:MZ l i=some p.hi:=by
    rw[hji];show(l[j]?).map jE.hi=_
    rw[yAh hj,sA];rfl
   rw[hpo]at hs2;obtain⟨p0,p1,pd⟩:=p;have w1:IntKind.i64.wrap ((i:Int)-1)=(j:Int):=Ci;have q3:0<i:=Cd
   by_cases AH:g0<=p1
   .rw[yAJ (.inr (by simpa [GJ]using AH))]at hs2;subst hs2;refine aC (A19 q1 hi iH j0 hx1 hy1 iA lZ hxe hye c9 hm2 @d7 @d8 q3 w1 hj sA AH) ?_;exact ag
   rw[yAI (λh=>h.elim c9 (by simpa [GJ]using AH))]at hs2
   by_cases v8:dr=0
   .subst v8;simp only[ne_eq,yBK,yAN]at hs2;refine aC (A20 q1 hi iH j0 hx1 hy1 iA lZ hxe hye c9 hm2 @d7 @d8 h4 hD q3 w1 hj (A2 sA AH)) ?_;refine bU.normal (m-1) Cd (by refine⟨i+1,σ++[Z],?_⟩;exact fU (⟨Cd,Ff,by rw[yAg lZ];exact hy0,by rw[hpv];exact hs2⟩) @hZ)
   .simp only[ne_eq,v8,yCz,yAK]at hs2;subst hs2;refine aC (A20 q1 hi iH j0 hx1 hy1 iA lZ hxe hye c9 hm2 @d7 @d8 h4 hD q3 w1 hj (A3 sA AH v8)) ?_;exact ag
 .have q1:¬(i:Int)<(l.length:Int):=by omega
  rw[yAs Cd]at hs2;have cM:B=0:=hs2.symm;exact yw
end
section
def lE{α:Type}(p:α->Bool):List α->Nat
 | []=>0
 |x::r=>if p x=true then 1 else lE p r+1
def xF(x:cJ):aA:=.box (.agg [.str x.name,.int .i64 x.dJ,.int .i64 x.dst,.int .i64 x.shift,.bool x.qM])
def jZ(nm:List UInt8)(x:cJ):Bool:=decide (x.name=nm)
def BV:Nat->List PD->List aA->Option (PD×List aA):=λ_ args σ=>match args with
 | [.agg [.str n,.int .i64 a,.int .i64 b,.int .i64 c,.bool t],.ptr id 0]=>match σ[id]? with
   |some (.box (.agg [.str nm,.int .i64 _,.int .i64 _,.int .i64 _,.bool _]))=>some (.bool (decide (n=nm)),σ++[.box (.agg [.str n,.int .i64 a,.int .i64 b,.int .i64 c,.bool t])])
   |_=>none
 |_=>none
variable{E:aE}(hU:aJ E)
include hU
theorem aPq(h0:E 99=none)(fl:Nat)(x0:List UInt8)(x1 x2 x3:Int)(x4:Bool)(nm:List UInt8)(c1 c2 c3:Int)(c4:Bool)(id:Nat)(τ:List aA)(hid:τ[id]?=some (.box (.agg [.str nm,.int .i64 c1,.int .i64 c2,.int .i64 c3,.bool c4]))) :
  aK prog E fl (.inl 99) [.agg [.str x0,.int .i64 x1,.int .i64 x2,.int .i64 x3,.bool x4],.ptr id 0] τ (λp1 σ1=>p1=.bool (decide (x0=nm))/\σ1=τ++[.box (.agg [.str x0,.int .i64 x1,.int .i64 x2,.int .i64 x3,.bool x4])]):=by
 obtain⟨hlt,he⟩:=yA.1 hid;have j0:∀x:aA,(τ++[x])[τ.length]?=some x:=λx=>Ce
 by_cases c:x0=nm
 .rw[yAX c];refine aK.aG 9 h0 func99 (h:=?_);exact Av
 .rw[yBc c];have f0:(x0==nm)=false:=by simpa using c
  refine aK.aG 9 h0 func99 (h:=?_);exact Aq
theorem aLG(hE:aF prog E)(h0:E 99=none):aF prog (E.add 99 BV):=
 hE.add Cf λfl args σ p σ' h=>by
  unfold BV at h;split at h
  .rename_i n a b c t id;split at h
   .rename_i nm c1 c2 c3 c4 hid;simp only[yAb,yAc]at h;obtain⟨rfl,rfl⟩:=h;exact aK.xE (aPq hU h0 fl n a b c t nm c1 c2 c3 c4 id σ hid)
   .cases h
  .cases h
theorem aPr(h0:E 129=none)(h1:E 99=some BV)(fl:Nat)(l:List cJ)(nm:List UInt8)(c1 c2 c3:Int)(c4:Bool)(id:Nat)(τ:List aA)(hid:τ[id]?=some (.box (.agg [.str nm,.int .i64 c1,.int .i64 c2,.int .i64 c3,.bool c4])))(hl:l.length<=1000000)(z:Nat)(tok:Tok)(hz:l=[]\/z=5) :
  aK prog E fl (.inl 129) [.slice z (l.map Em.bF.aB) tok,.func 99 [.ptr id 0]] τ (λp1 σ1=>p1=.int .i64 (eZ (jZ nm) l 0)/\σ1=τ++(l.take (lE (jZ nm) l)).map xF):=by
 obtain⟨B,hB⟩:=gn (eZ (jZ nm) l 0);obtain⟨V,hV⟩:=gn (lE (jZ nm) l);rw[hB,hV];refine aK.aG 19 h0 func129 (h:=?_);refine aC trivial ?_;refine Wp.dW (λm fr σ=>∃(i:Nat),∃gg:Nat->PD,(i+m=l.length/\eZ (jZ nm) (l.drop i) i=B/\lE (jZ nm) (l.drop i)+i=V)/\fr=[.slice z (l.map Em.bF.aB) tok,.func 99 [.ptr id 0],gg 2,gg 3,gg 4,gg 5,.slice z (l.map Em.bF.aB) tok,.int .i64 l.length,.int .i64 i,gg 9,gg 10,gg 11,gg 12,gg 13,gg 14,gg 15,gg 16,gg 17,gg 18]/\σ=τ++(l.take i).map xF) ?_ (l.length) (by refine⟨0,?_⟩;exact cL (⟨Cd,hB,hV⟩))
 rintro m fr σ ⟨i,gg,hI,rfl,rfl⟩
 obtain⟨hm,hs,hv⟩:=hI
 by_cases hi:i<l.length
 .have q1:(i:Int)<(l.length:Int):=by omega
  have hz1:z=5:=hz.resolve_left (λh=>by rw[h]at hi;simp at hi);subst hz1;obtain⟨a,ha⟩:=gn (l[i]);have hc:l.drop i=a::l.drop (i+1):=Cp;have htk:l.take (i+1)=l.take i++[a]:=Hh;obtain⟨hlt,_⟩:=yA.1 hid;obtain⟨ρ,hρ⟩:=gn (τ++(l.take i).map xF);have x9:ρ[id]?=some (.box (.agg [.str nm,.int .i64 c1,.int .i64 c2,.int .i64 c3,.bool c4])):=Ho;have hst:τ++(l.take (i+1)).map xF=ρ++[xF a]:=Ij;rw[hc]at hs hv;unfold eZ at hs;unfold lE at hv;obtain⟨a0,a1,a2,a3,a4⟩:=a;have hE:BV fl [.agg [.str a0,.int .i64 a1,.int .i64 a2,.int .i64 a3,.bool a4],.ptr id 0] ρ=some (.bool (decide (a0=nm)),ρ++[.box (.agg [.str a0,.int .i64 a1,.int .i64 a2,.int .i64 a3,.bool a4])]):=by
   unfold BV;simp only[x9]
  have D8:τ++(l.take (i+1)).map xF=ρ++[.box (.agg [.str a0,.int .i64 a1,.int .i64 a2,.int .i64 a3,.bool a4])]:=hst;have HO:τ++List.take (i+1) (l.map xF)=ρ++[.box (.agg [.str a0,.int .i64 a1,.int .i64 a2,.int .i64 a3,.bool a4])]:=by rw[<-yCW];exact D8
  rw[hρ]
  by_cases hb:a0=nm
  .rw[yAJ (by simp[jZ,hb])]at hs hv;exact yu
  .rw[yAI (by simp[jZ,hb])]at hs hv;exact cw
 .exact yx
omit hU in
def D9:List PD->Option (List cJ)
 | []=>some []
 |.agg [.str n,.int .i64 a,.int .i64 b,.int .i64 c,.bool t]::r=>match D9 r with|some l=>some (⟨n,a,b,c,t⟩::l)|none=>none
 |_=>none
omit hU in
theorem ZN:∀ {xs:Jk} {l:List cJ},D9 xs=some l->xs=l.map Em.bF.aB
 | [],l,h=>by simp only[D9,yAb]at h;subst h;rfl
 |x::r,l,h=>by
  unfold D9 at h;split at h
  .cases ‹_::_=_›
  .rename_i n a b c t r' e;simp only[yCv]at e;obtain⟨rfl,rfl⟩:=e;split at h
   .rename_i l' hl;simp only[yAb]at h;subst h;rw[ZN hl];rfl
   .cases h
  .cases h
omit hU in
@[simp] theorem aFi:∀l:List cJ,D9 (l.map Em.bF.aB)=some l
  | []=>rfl
  |x::l=>by
   show D9 (.agg [.str x.name,.int .i64 x.dJ,.int .i64 x.dst,.int .i64 x.shift,.bool x.qM]::l.map Em.bF.aB)=_
   simp only[D9,aFi l]
omit hU in
def vM(f:List UInt8->List cJ->PD):Nat->List PD->List aA->Option (PD×List aA):=λ_ args σ=>match args with
 | [.slice z xs _,.func g [.ptr id 0]]=>match D9 xs with
   |some l=>if g=99/\(l.length=0\/z=5)/\l.length<=1000000 then match σ[id]? with
     |some (.box (.agg [.str nm,.int .i64 _,.int .i64 _,.int .i64 _,.bool _]))=>some (f nm l,σ++(l.take (lE (jZ nm) l)).map xF)
     |_=>none
    else none
   |none=>none
 |_=>none
omit hU in
theorem aFh{f:List UInt8->List cJ->PD}{z:Nat}{l:List cJ}{tok:Tok}{id:Nat}{σ:Jj}{nm:Jl}{c1 c2 c3:Int}{c4:Bool}(hz:l=[]\/z=5)(hl:l.length<=1000000)(hid:σ[id]?=some (.box (.agg [.str nm,.int .i64 c1,.int .i64 c2,.int .i64 c3,.bool c4])))(fl:Nat) :
  vM f fl [.slice z (l.map Em.bF.aB) tok,.func 99 [.ptr id 0]] σ=some (f nm l,σ++(l.take (lE (jZ nm) l)).map xF):=by
 unfold vM;simp only[aFi];rw[yAJ ⟨trivial,hz.imp (λh=>Ea) (λh=>h),hl⟩];simp only[hid]
theorem aLJ(hE:aF prog E)(h0:E 129=none)(h1:E 99=some BV):aF prog (E.add 129 (vM λnm l=>.int .i64 (eZ (jZ nm) l 0))):=
 hE.add Cf λfl args σ p σ' h=>by
  unfold vM at h;split at h
  .rename_i z xs tok g id;split at h
   .rename_i l hl;split at h
    .rename_i hc;obtain⟨rfl,hz,hlen⟩:=hc;split at h
     .rename_i nm c1 c2 c3 c4 hid;simp only[yAb,yAc]at h;obtain⟨rfl,rfl⟩:=h;rw[ZN hl];exact aK.xE (aPr hU h0 h1 fl l nm c1 c2 c3 c4 id σ hid hlen z tok (hz.imp yAf λh=>h))
     .cases h
    .cases h
   .cases h
  .cases h
theorem aPs(h0:E 98=none)(h1:E 129=some (vM λnm l=>.int .i64 (eZ (jZ nm) l 0)))(fl:Nat)(l:List cJ)(nm:List UInt8)(c1 c2 c3:Int)(c4:Bool)(id:Nat)(τ:List aA)(hid:τ[id]?=some (.box (.agg [.str nm,.int .i64 c1,.int .i64 c2,.int .i64 c3,.bool c4])))(hl:l.length<=1000000)(z:Nat)(tok:Tok)(hz:l=[]\/z=5) :
  aK prog E fl (.inl 98) [.slice z (l.map Em.bF.aB) tok,.func 99 [.ptr id 0]] τ (λp1 σ1=>p1=.bool (l.any (jZ nm))/\σ1=τ++(l.take (lE (jZ nm) l)).map xF):=by
 have hE:=aFh (f:=λnm l=>.int .i64 (eZ (jZ nm) l 0)) hz hl hid (tok:=tok);obtain⟨ρ,hρ⟩:=gn (τ++(l.take (lE (jZ nm) l)).map xF);rw[hρ]at hE;rw[hρ,<-RU _ l 0];refine aK.aG 9 h0 func98 (h:=?_);refine aC (A2 h1 hE) ?_;exact az
theorem aLL(hE:aF prog E)(h0:E 98=none)(h1:E 129=some (vM λnm l=>.int .i64 (eZ (jZ nm) l 0))):aF prog (E.add 98 (vM λnm l=>.bool (l.any (jZ nm)))):=
 hE.add Cf λfl args σ p σ' h=>by
  unfold vM at h;split at h
  .rename_i z xs tok g id;split at h
   .rename_i l hl;split at h
    .rename_i hc;obtain⟨rfl,hz,hlen⟩:=hc;split at h
     .rename_i nm c1 c2 c3 c4 hid;simp only[yAb,yAc]at h;obtain⟨rfl,rfl⟩:=h;rw[ZN hl];exact aK.xE (aPs hU h0 h1 fl l nm c1 c2 c3 c4 id σ hid hlen z tok (hz.imp yAf λh=>h))
     .cases h
    .cases h
   .cases h
  .cases h
end
section
abbrev GK:Em (List (Int×Int)):=Em.dI.list 2
def uP(k:Nat):List cJ->List cJ->Int
 |_,[]=>0
 |pre,c::r=>if fO c.name=false then 8 else if pre.any (jZ c.name)=true then 9 else if c.dJ<0\/(k:Int)<=c.dJ\/c.dst<0\/(k:Int)<=c.dst then 10 else if c.shift < -127\/127<c.shift then 3 else if c.dJ=c.dst/\c.shift=0 then 7 else uP k (pre++[c]) r
def CF(l:List (Int×Int)):Bool:=l.any λx=>!decide (mY x.1 x.2=0)
def CG(ks:List (Int×Int))(l:List cJ):Int:=if 8<ks.length\/40<l.length then 4 else if CF ks=true then 23 else uP ks.length [] l
variable{E:aE}(hU:aJ E)
include hU
theorem aLN(h0:E 64=none)(h1:E 96=some IM)(h2:E 60=some F2)(h3:E 98=some (vM λnm l=>.bool (l.any (jZ nm))))(ks:List (Int×Int))(l:List cJ)(hks:ks.length<=1000000)(hl:l.length<=1000000)(hn:∀x∈l,lB x.name) :
  aI prog E 64 [GK.aB ks,qN.aB l] (i64.aB (CG ks l)):=by
 unfold CG
 by_cases c1:8<ks.length
 .have c2:8<(ks.length:Int):=by omega
  rw[yAJ (.inl c1)];refine aI.aG 89 h0 func64 (h:=?_);refine aC (A2 c1 c2) ?_;exact ag
 have G3:¬8<(ks.length:Int):=Cd
 by_cases c2:40<l.length
 .have c3:40<(l.length:Int):=by omega
  rw[yAJ (.inr c2)];refine aI.aG 89 h0 func64 (h:=?_);refine aC (A4 c1 G3 c2 c3) ?_;exact ag
 have Y5:¬40<(l.length:Int):=Cd;rw[yAI (λh=>h.elim c1 c2)];obtain⟨B,hB⟩:∃B,(if CF ks=true then(23:Int)else uP ks.length [] l)=B:=⟨_,rfl⟩;rw[hB];refine aI.aG 89 h0 func64 (h:=?_);refine aC (A4 c1 G3 c2 Y5) ?_;obtain⟨C,hC⟩:=gn (uP ks.length [] l);rw[hC]at hB;refine Wp.dW (λm fr σ=>∃(i:Nat) (σ1:List aA),∃gg:Nat->PD,(i+m=ks.length/\(if CF (ks.drop i)=true then(23:Int)else C)=B)/\fr=GK.aB ks::qN.aB l::gg 2::gg 3::gg 4::gg 5::gg 6::gg 7::gg 8::gg 9::gg 10::gg 11::gg 12::gg 13::gg 14::gg 15::gg 16::GK.aB ks::.int .i64 ks.length::.int .i64 i::gg 20::gg 21::gg 22::gg 23::gg 24::gg 25::gg 26::gg 27::gg 28::gg 29::gg 30::gg 31::gg 32::gg 33::gg 34::gg 35::gg 36::gg 37::gg 38::gg 39::gg 40::gg 41::gg 42::gg 43::gg 44::gg 45::gg 46::gg 47::gg 48::gg 49::gg 50::gg 51::gg 52::gg 53::gg 54::gg 55::gg 56::gg 57::gg 58::gg 59::gg 60::gg 61::gg 62::gg 63::gg 64::gg 65::gg 66::gg 67::gg 68::gg 69::gg 70::gg 71::gg 72::gg 73::gg 74::gg 75::gg 76::gg 77::gg 78::gg 79::gg 80::gg 81::gg 82::gg 83::gg 84::gg 85::gg 86::gg 87::gg 88::[]/\σ=σ1) ?_ (ks.length) (by refine⟨0,[],?_⟩;exact cL (⟨Cd,hB⟩))
 rintro m fr σ ⟨i,σ1,gg,hI,rfl,rfl⟩
 obtain⟨hm,hs⟩:=hI
 by_cases hi:i<ks.length
 .have q1:(i:Int)<(ks.length:Int):=by omega
  obtain⟨a,ha⟩:=gn (ks[i]);have hc:ks.drop i=a::ks.drop (i+1):=Cp;rw[hc]at hs;obtain⟨a0,a1⟩:=a;have hE:=ZK a0 a1;have j0:∀x:aA,(σ++[x])[σ.length]?=some x:=λx=>Ce
  have hcb:CF ((a0,a1)::ks.drop (i+1))=(!decide (mY a0 a1=0)||CF (ks.drop (i+1))):=rfl;rw[hcb]at hs;obtain⟨e,he⟩:=gn (mY a0 a1);rw[he]at hE hs
  by_cases c3:e=0
  .subst c3;simp only[decide_true,yBP,yBZ]at hs;refine aC (A6 q1 hi ha j0 h1 hE) ?_;refine bU.normal (m-1) Cd (by refine⟨i+1,σ++[.box (.agg [.int .i64 a0,.int .i64 a1])],?_⟩;exact cL (⟨Cd,hs⟩))
  .simp only[c3,decide_false,yCu,yDo,yAK]at hs;subst hs;refine aC (A7 q1 hi ha j0 h1 hE c3) ?_;exact ag
 have q1:¬(i:Int)<(ks.length:Int):=Cd;rw[yAs Cd]at hs;have hs2:C=B:=hs;rw[hs2]at hC;clear hs hs2 hB;refine aC q1 ?_;refine Wp.dW (λm fr σ=>∃(i:Nat) (σ1:List aA),∃gg:Nat->PD,(i+m=l.length/\uP ks.length (l.take i) (l.drop i)=B)/\fr=GK.aB ks::qN.aB l::gg 2::gg 3::gg 4::gg 5::gg 6::gg 7::gg 8::gg 9::gg 10::gg 11::gg 12::gg 13::gg 14::gg 15::gg 16::gg 17::gg 18::gg 19::gg 20::gg 21::gg 22::gg 23::gg 24::gg 25::gg 26::qN.aB l::.int .i64 l.length::.int .i64 i::gg 30::gg 31::gg 32::gg 33::gg 34::gg 35::gg 36::gg 37::gg 38::gg 39::gg 40::gg 41::gg 42::gg 43::gg 44::gg 45::gg 46::gg 47::gg 48::gg 49::gg 50::gg 51::gg 52::gg 53::gg 54::gg 55::gg 56::gg 57::gg 58::gg 59::gg 60::gg 61::gg 62::gg 63::gg 64::gg 65::gg 66::gg 67::gg 68::gg 69::gg 70::gg 71::gg 72::gg 73::gg 74::gg 75::gg 76::gg 77::gg 78::gg 79::gg 80::gg 81::gg 82::gg 83::gg 84::gg 85::gg 86::gg 87::gg 88::[]/\σ=σ1) ?_ (l.length) (by refine⟨0,σ,?_⟩;exact cL (⟨Cd,hC⟩))
 rintro m fr σ ⟨i,σ1,gg,hI,rfl,rfl⟩
 obtain⟨hm,hs⟩:=hI
 by_cases hi:i<l.length
 .have q1:(i:Int)<(l.length:Int):=by omega
  obtain⟨a,ha⟩:=gn (l[i]);have hc:l.drop i=a::l.drop (i+1):=Cp;have htk:l.take (i+1)=l.take i++[a]:=Hh;have hna:=JG (hn a (ha▸yAm hi));rw[hc]at hs;unfold uP at hs;obtain⟨a0,a1,a2,a3,a4⟩:=a;simp only at hs hna;have j0:∀x:aA,(σ++[x])[σ.length]?=some x:=λx=>Ce
  have hle:i<=l.length:=Cd;cases c3:fO a0 with
  |false=>
   rw[c3]at hna hs;rw[yAJ rfl]at hs;subst hs;refine aC (A6 q1 hi ha j0 h2 hna) ?_;exact ag
  |true=>
  rw[c3]at hna hs;rw[yAI Ce]at hs;obtain⟨X,hX⟩:=gn (aA.box (.agg [.str a0,.int .i64 a1,.int .i64 a2,.int .i64 a3,.bool a4]));have hid:(σ++[X])[σ.length]?=some (.box (.agg [.str a0,.int .i64 a1,.int .i64 a2,.int .i64 a3,.bool a4])):=by rw[hX];exact j0 X
  have aPp:(l.take i=[]\/sz 5 l=5):=.inr (by simp[sz];intro h;rw[h]at hi;simp at hi);have hE:=aFh (f:=λnm l=>.bool (l.any (jZ nm))) (z:=sz 5 l) (tok:=.any) aPp Eh hid;obtain⟨lU,eF⟩:=gn (σ++[X]++((l.take i).take (lE (jZ a0) (l.take i))).map xF);have vY:lU[σ.length]?=some (.box (.agg [.str a0,.int .i64 a1,.int .i64 a2,.int .i64 a3,.bool a4])):=by
   rw[<-eF,yAg Ce,j0 X,hX]
  rw[eF]at hE;obtain⟨hlt2,hxe⟩:=yA.1 vY;rw[<-hX,yCW]at hE;obtain⟨b,hb⟩:=gn ((l.take i).any (jZ a0));rw[hb]at hE hs;clear eF hX hid;cases b with
  |true=>
   rw[yAJ rfl]at hs;subst hs;refine aC (A12 q1 hi ha j0 h2 hna @hle h3 hE vY hlt2 hxe) ?_;exact ag
  |false=>
  rw[yAI Ce]at hs
  by_cases c4:a1<0
  .rw[yAJ (.inl c4)]at hs;subst hs;refine aC (A13 q1 hi ha j0 h2 hna @hle h3 hE vY hlt2 hxe c4) ?_;exact ag
  by_cases c5:(ks.length:Int)<=a1
  .rw[yAJ (.inr (.inl c5))]at hs;subst hs;refine aC (A14 q1 hi ha j0 h2 hna @hle h3 hE vY hlt2 hxe c4 c5) ?_;exact ag
  by_cases c6:a2<0
  .rw[yAJ (.inr (.inr (.inl c6)))]at hs;subst hs;refine aC (A15 q1 hi ha j0 h2 hna @hle h3 hE vY hlt2 hxe c4 c5 c6) ?_;exact ag
  by_cases c7:(ks.length:Int)<=a2
  .rw[yAJ (.inr (.inr (.inr c7)))]at hs;subst hs;refine aC (A16 q1 hi ha j0 h2 hna @hle h3 hE vY hlt2 hxe c4 c5 c6 c7) ?_;exact ag
  rw[yAI (λh=>h.elim c4 λh=>h.elim c5 λh=>h.elim c6 c7)]at hs
  by_cases c8:a3 < -127
  .rw[yAJ (.inl c8)]at hs;subst hs;refine aC (A17 q1 hi ha j0 h2 hna @hle h3 hE vY hlt2 hxe c4 c5 c6 c7 c8) ?_;exact ag
  by_cases c9:127<a3
  .rw[yAJ (.inr c9)]at hs;subst hs;refine aC (A18 q1 hi ha j0 h2 hna @hle h3 hE vY hlt2 hxe c4 c5 c6 c7 c8 c9) ?_;exact ag
  rw[yAI (λh=>h.elim c8 c9)]at hs;have hst:uP ks.length (l.take (i+1)) (l.drop (i+1))=uP ks.length (l.take i++[⟨a0,a1,a2,a3,a4⟩]) (l.drop (i+1)):=by rw[htk]
  by_cases v8:a1=a2
  .by_cases AH:a3=0
   .rw[yAJ ⟨v8,AH⟩]at hs;subst hs;subst v8;subst AH;refine aC (A16 q1 hi ha j0 h2 hna @hle h3 hE vY hlt2 hxe c4 c5 c8 c9) ?_;exact ag
   .rw[yAI (λh=>AH h.2)]at hs;subst v8;refine aC (A17 q1 hi ha j0 h2 hna @hle h3 hE vY hlt2 hxe c4 c5 c8 c9 AH) ?_;exact qn
  .rw[yAI (λh=>v8 h.1)]at hs;refine aC (A19 q1 hi ha j0 h2 hna @hle h3 hE vY hlt2 hxe c4 c5 c6 c7 c8 c9 v8) ?_;exact qn
 .have q1:¬(i:Int)<(l.length:Int):=by omega
  rw[yAs Cd]at hs;have cM:B=0:=hs.symm;exact yw
end
section
def AG(ns:List (List UInt8)):List (PD×PD):=ns.map λn=>(.str n,.bool true)
def kK(ns:List (List UInt8)):aA:=.map (AG ns)
def lT(ns:List (List UInt8))(nm:List UInt8):Bool:=ns.any λn=>nm==n
theorem aFd(nm:List UInt8):∀(ns:List (List UInt8)) (i:Nat),lT ns nm=true->∃j,xQ (.str nm) (AG ns) i=some (some (j,.bool true))
 | [],_,h=>Ck
 |n::ns,i,h=>by
  cases e:nm==n with
  |true=>exact⟨i,by simp only[AG,yAV,xQ,FN,e]⟩
  |false=>
   have h2:lT ns nm=true:=by simpa [lT,yDS,e]using h
   obtain⟨j,hj⟩:=aFd nm ns (i+1) h2;exact⟨j,by simp only[AG,yAV,xQ,FN,e];exact hj⟩
theorem ZL(nm:List UInt8):∀(ns:List (List UInt8)) (i:Nat),lT ns nm=false->xQ (.str nm) (AG ns) i=some none
 | [],_,_=>rfl
 |n::ns,i,h=>by
  simp only[lT,yDS,yDY]at h;simp only[AG,yAV,xQ,FN,h.1];exact ZL nm ns (i+1) h.2
theorem RR:(prog).underlying 138=some (.map 9 4):=Cf
theorem aFe(nm:List UInt8):HS prog 9 (.str nm)=true:=by
 have h:(prog).underlying 9=some .string:=Cf;unfold HS;rw[h]
theorem aPl:fQ prog 4=some (.bool false):=by rfl
theorem aFf{σ:Jj}{id:Nat}{ns:List (List UInt8)}(h:σ[id]?=some (kK ns))(nm:List UInt8):HT prog σ 138 (.gG id) (.str nm) false=some (.bool (lT ns nm)):=by
 unfold HT;simp only[RR,aFe,yAK,h,kK];cases e:lT ns nm with
 |true=>
  obtain⟨j,hj⟩:=aFd nm ns 0 e;simp only[hj];rfl
 |false=>
  simp only[ZL nm ns 0 e,aPl];rfl
theorem aPm{σ:Jj}{id fl:Nat}{ns:List (List UInt8)}(h:σ[id]?=some (kK ns))(hf:fl<=id)(nm:List UInt8)(hn:lT ns nm=false):HU prog fl σ 138 (.gG id) (.str nm) (.bool true)=some (σ.set id (kK (ns++[nm]))):=by
 unfold HU;simp only[RR,aFe,yAK,h,kK,hf,ZL nm ns 0 hn];simp[AG]
variable{E:aE}(hU:aJ E)
include hU
theorem aPn(h0:E 62=none)(fl id:Nat)(ns:List (List UInt8))(nm:List UInt8)(τ:List aA)(h:τ[id]?=some (kK ns))(hn:lT ns nm=true) :
  aK prog E fl (.inl 62) [.gG id,.str nm] τ (λp1 σ1=>p1=.int .i64 9/\σ1=τ):=by
 have hl:=aFf h nm;rw[hn]at hl;refine aK.aG 10 h0 func62 (h:=?_);refine mZ hl ?_;exact az
theorem aPo(h0:E 62=none)(fl id:Nat)(ns:List (List UInt8))(nm:List UInt8)(τ:List aA)(h:τ[id]?=some (kK ns))(hf:fl<=id)(hn:lT ns nm=false) :
  aK prog E fl (.inl 62) [.gG id,.str nm] τ (λp1 σ1=>p1=.int .i64 0/\σ1=τ.set id (kK (ns++[nm]))):=by
 have hl:=aFf h nm;rw[hn]at hl;have hp:=aPm h hf nm hn;refine aK.aG 10 h0 func62 (h:=?_);refine mZ (A2 hl hp) ?_;exact az
omit hU in
def D7:List (PD×PD)->Option (List (List UInt8))
 | []=>some []
 |(.str n,.bool true)::r=>match D7 r with|some l=>some (n::l)|none=>none
 |_=>none
omit hU in
theorem aFg:∀ {es:List (PD×PD)} {l:List (List UInt8)},D7 es=some l->es=AG l
 | [],l,h=>by simp only[D7,yAb]at h;subst h;rfl
 |x::r,l,h=>by
  unfold D7 at h;split at h
  .cases ‹_::_=_›
  .rename_i n r' e;simp only[yCv]at e;obtain⟨rfl,rfl⟩:=e;split at h
   .rename_i l' hl;simp only[yAb]at h;subst h;rw[aFg hl];rfl
   .cases h
  .cases h
omit hU in
@[simp] theorem ZM:∀l:List (List UInt8),D7 (AG l)=some l
  | []=>rfl
  |n::l=>by
   show D7 ((.str n,.bool true)::AG l)=_
   simp only[D7,ZM l]
omit hU in
def xZ:Nat->List PD->List aA->Option (PD×List aA):=λfl args σ=>match args with
 | [.gG id,.str nm]=>match σ[id]? with
   |some (.map es)=>match D7 es with
    |some ns=>if lT ns nm=true then some (.int .i64 9,σ)else if fl<=id then some (.int .i64 0,σ.set id (kK (ns++[nm])))else none
    |none=>none
   |_=>none
 |_=>none
omit hU in
theorem ZG{fl id:Nat}{ns:List (List UInt8)}{nm:Jl}{σ:Jj}(h:σ[id]?=some (kK ns))(hn:lT ns nm=true):xZ fl [.gG id,.str nm] σ=some (.int .i64 9,σ):=by
 unfold xZ;simp only[h,kK,ZM,hn,yAK]
omit hU in
theorem ZH{fl id:Nat}{ns:List (List UInt8)}{nm:Jl}{σ:Jj}(h:σ[id]?=some (kK ns))(hn:lT ns nm=false)(hf:fl<=id):xZ fl [.gG id,.str nm] σ=some (.int .i64 0,σ.set id (kK (ns++[nm]))):=by
 unfold xZ;simp only[h,kK,ZM,hn,hf,yAK];rfl
theorem aLP(hE:aF prog E)(h0:E 62=none):aF prog (E.add 62 xZ):=
 hE.add Cf λfl args σ p σ' h=>by
  unfold xZ at h;split at h
  .rename_i id nm;split at h
   .rename_i es hes;split at h
    .rename_i ns hns;have hm:σ[id]?=some (kK ns):=by rw[hes,aFg hns];rfl
     split at h
     .rename_i hs;simp only[yAb,yAc]at h;obtain⟨rfl,rfl⟩:=h;exact aK.xE (aPn hU h0 fl id ns nm σ hm hs)
     .rename_i hs;split at h
      .rename_i hf;simp only[yAb,yAc]at h;obtain⟨rfl,rfl⟩:=h;exact aK.xE (aPo hU h0 fl id ns nm σ hm hf (by simpa using hs))
      .cases h
    .cases h
   .cases h
  .cases h
end
section
def AF(rs:List bP)(lo hg:Int):List (List UInt8)->List cO->Int
 |_,[]=>0
 |ns,s::r=>if s5 rs lo hg s≠0 then s5 rs lo hg s else if lT ns s.name=true then 9 else AF rs lo hg (ns++[s.name]) r
def s6(rs:List bP)(d:bO):Int:=if mY d.low d.high≠0 then mY d.low d.high else if 60<d.stops.length then 4 else AF rs d.low d.high [] d.stops
def D6(s:cO):Prop:=jT s/\lB s.name
def QL:Nat->List PD->List aA->Option (PD×List aA):=entry (fF Em.place Em.stop i64 λx s=>eL (CH x.1/\D6 s) (some (s5 x.1 x.2.1 x.2.2 s)))
theorem aPk{rs:List bP}{s:cO}(h:CH rs)(hs:D6 s)(lo hg:Int)(fl:Nat)(σ:List aA):QL fl [.agg [aQ.aB rs,.int .i64 lo,.int .i64 hg],Em.stop.aB s] σ=some (.int .i64 (s5 rs lo hg s),σ):=by
 have e1:=Em.dC (Em.place.str (rs,lo,hg));rw[ZJ]at e1;have e2:=Em.dC (Em.stop.str s);unfold QL entry fF;simp only[e1,e2];rw[fY ⟨h,hs⟩];rfl
variable{E:aE}(hU:aJ E)
include hU
theorem aLR(h0:E 63=none)(h1:E 96=some IM)(h2:E 97=some QL)(h3:E 62=some xZ)(o:aY)(hrs:CH o.aQ)(d:bO)(hd:d.stops.length<=1000000/\∀s∈d.stops,D6 s) :
  aI prog E 63 [Em.bY.aB o,Em.div.aB d] (i64.aB (s6 o.aQ d)):=by
 obtain⟨on,rs,od,oc⟩:=o;obtain⟨dn,dp,lo,hg,l⟩:=d;have hC:=ZK lo hg;obtain⟨hdl,hds⟩:=hd;simp only at hrs hdl hds;unfold s6;simp only[fE,nJ,bC];obtain⟨c,hc⟩:=gn (mY lo hg);rw[hc]at hC ⊢
 by_cases c1:c=0
 rotate_left
 .rw[yAJ c1];refine aI.aG 47 h0 func63 (h:=?_);refine mZ (A3 h1 hC c1) ?_;exact ag
 subst c1;simp only[ne_eq,yBK,yAN]
 by_cases c2:60<l.length
 .have c3:60<(l.length:Int):=by omega
  rw[yAJ c2];refine aI.aG 47 h0 func63 (h:=?_);refine mZ (A4 h1 hC c2 c3) ?_;exact ag
 have c3:¬60<(l.length:Int):=Cd;rw[yAI c2];obtain⟨B,hB⟩:=gn (AF rs lo hg [] l);rw[hB];have us:=RR;refine aI.aG 47 h0 func63 (h:=?_);refine mZ (A5 h1 hC c2 c3 @us) ?_;obtain⟨X,hX⟩:=gn (aA.box (.agg [.str on,.slice (sz 6 rs) (rs.map Em.aN.aB) .any,.slice (sz 5 od) (od.map Em.div.aB) .any,.slice (sz 5 oc) (oc.map Em.bF.aB) .any]));obtain⟨Y,hY⟩:=gn (aA.box (.agg [.str dn,.bool dp,.int .i64 lo,.int .i64 hg,.slice (sz 4 l) (l.map Em.stop.aB) .any]));refine Wp.dW (λm fr σ=>∃(i:Nat) (σ1:List aA),∃gg:Nat->PD,(i+m=l.length/\σ1[0]?=some X/\σ1[1]?=some Y/\σ1[2]?=some (kK ((l.take i).map cO.name))/\AF rs lo hg ((l.take i).map cO.name) (l.drop i)=B)/\fr=[gg 0,gg 1,.ptr 0 0,.ptr 1 0,gg 4,gg 5,.gG 2,gg 7,gg 8,gg 9,gg 10,gg 11,gg 12,gg 13,gg 14,gg 15,gg 16,gg 17,gg 18,gg 19,gg 20,gg 21,gg 22,oB.aB l,.int .i64 l.length,.int .i64 i,gg 26,gg 27,gg 28,gg 29,gg 30,gg 31,gg 32,gg 33,gg 34,gg 35,gg 36,gg 37,gg 38,gg 39,gg 40,gg 41,gg 42,gg 43,gg 44,gg 45,gg 46]/\σ=σ1) ?_ (l.length) (by refine⟨0,[X,Y,.map []],?_⟩;exact fU (⟨Cd,rfl,rfl,rfl,hB⟩) (A2 hX hY))
 rintro m fr σ ⟨i,σ1,gg,hI,rfl,rfl⟩
 obtain⟨hm,hx0,hy0,MV,hs⟩:=hI
 by_cases hi:i<l.length
 .have q1:(i:Int)<(l.length:Int):=by omega
  obtain⟨a,ha⟩:=gn (l[i]);have MW:l.drop i=a::l.drop (i+1):=Cp;have htk:(l.take (i+1)).map cO.name=(l.take i).map cO.name++[a.name]:=by rw[yBI hi,ha,yAH];rfl
  have hE:=aPk hrs (hds a (ha▸yAm hi)) lo hg;rw[MW]at hs;unfold AF at hs;have hx1:=hx0;have hy1:=hy0;rw[<-hX]at hx1;rw[<-hY]at hy1;obtain⟨iA,hxe⟩:=yA.1 hx1;obtain⟨lZ,hye⟩:=yA.1 hy1;obtain⟨hlt2,hze⟩:=yA.1 MV;obtain⟨a0,a1,a2,a3⟩:=a;have j0:∀x:aA,(σ++[x])[σ.length]?=some x:=λx=>Ce
  obtain⟨e,he⟩:=gn (s5 rs lo hg ⟨a0,a1,a2,a3⟩);rw[he]at hE hs;simp only[pZ,bC]at hE;simp only at hs htk
  by_cases c4:e=0
  rotate_left
  .rw[yAJ c4]at hs;subst hs;refine mZ (A13 q1 hi ha j0 hx1 hy1 iA lZ hxe hye h2 hE c4) ?_;exact ag
  subst c4;simp only[ne_eq,yBK,yAN]at hs;obtain⟨Z,hZ⟩:=gn (aA.box (.agg [.str a0,.int .i64 a1,.int .i64 a2,.slice (sz 3 a3) (a3.map Em.fB.aB) .any]));have hmz:(σ++[Z])[2]?=some (kK ((l.take i).map cO.name)):=by rw[yAg hlt2];exact MV
  cases hb:lT ((l.take i).map cO.name) a0 with
  |true=>
   rw[hb]at hs;rw[yAJ rfl]at hs;subst hs;have hA:=λfl=>ZG (fl:=fl) hmz hb
   rw[<-hZ]at hA;refine mZ Br ?_;exact ag
  |false=>
   rw[hb]at hs;rw[yAI Ce]at hs;have hA:=ZH (fl:=0) hmz hb (yAF _);obtain⟨lU,eF⟩:=gn ((σ++[Z]).set 2 (kK ((l.take i).map cO.name++[a0])));have t0:lU[0]?=some X:=by rw[<-eF,yAd Cd,yAg iA];exact hx0
   have t1:lU[1]?=some Y:=by rw[<-eF,yAd Cd,yAg lZ];exact hy0
   have t2:lU[2]?=some (kK ((l.take i).map cO.name++[a0])):=by rw[<-eF];exact yAj Co
   rw[eF]at hA;rw[<-hZ]at hA;clear eF;refine mZ Br ?_;refine bU.normal (m-1) Cd (by refine⟨i+1,lU,?_⟩;exact cL (⟨Cd,t0,t1,by rw[htk];exact t2,by rw[htk];exact hs⟩))
 .have q1:¬(i:Int)<(l.length:Int):=by omega
  rw[yAs Cd]at hs;have cM:B=0:=hs.symm;refine mZ q1 ?_;exact aq
end
section
theorem aOY(n:Int)(h:iB n):jH prog 96 (.slice 1 [.str [79,112,101,110],.str [70,108,117,116,101],.str [82,101,101,100]] .full) (.int .u8 (n.tmod 3))=some (.fM [.str (CE n)] 0):=by
 obtain⟨k,rfl⟩:∃k:Nat,n=k:=⟨n.toNat,by have:=h.1;omega⟩;have hm:(k:Int).tmod 3=((k%3:Nat):Int):=rfl;have hs:CE k=GI.getD (k%3) []:=by
  unfold CE
  congr 1
 rw[hm,hs];have hlt:k%3<3:=yBC _ Ch
 generalize k%3=j at hlt
 match j,hlt with
 |0,_=>exact rfl
 |1,_=>exact rfl
 |2,_=>exact rfl
theorem aOZ(x:n8)(k:Nat)(hk:k<=1000)(id off:Nat):jH prog 101 (.ptr id off) (.int .i64 ((k:Int).tmod 5))=some (.ptr id (off+k%5)) /\
  [PD.int .u8 x.j9,.int .u8 x.dI,.int .i8 x.first,.int .u8 x.AP,.int .u8 x.w0,.int .u8 x.w1,.int .u8 x.w2,.int .u8 x.w3,.int .u8 x.w4][4+k%5]?=some (.int .u8 (yI x k)):=by
 have hm:(k:Int).tmod 5=((k%5:Nat):Int):=rfl;have hs:yI x k=[x.w0,x.w1,x.w2,x.w3,x.w4].getD (k%5) 0:=rfl;rw[hm,hs];have hlt:k%5<5:=yBC _ Ch
 generalize k%5=j at hlt
 match j,hlt with
 |0,_=>exact⟨rfl,rfl⟩
 |1,_=>exact⟨rfl,rfl⟩
 |2,_=>exact⟨rfl,rfl⟩
 |3,_=>exact⟨rfl,rfl⟩
 |4,_=>exact⟨rfl,rfl⟩
variable{E:aE}(hU:aJ E)
include hU
theorem aMq(h0:E 30=none)(h1:E 67=some (entry (cU kB Em.dI λn=>eL (iB n) (some (pM n)))))(x:n8)(hx:CQ x)(i:Nat)(hi:i<10) :
  aI prog E 30 [Em.yY.aB x,.int .i64 i] (Em.aN.aB (uM x i)):=by
 have hw:=aOZ x;have hwl:∀k,(yJ x k).length=k:=λk=>by simp[yJ]
 have hws:∀k,yJ x (k+1)=yJ x k++[yI x k]:=λk=>by simp[yJ,yDk]
 have hwb:∀k,0<=yI x k/\yI x k<=255:=λk=>by
  have hlt:k%5<5:=yBC _ Ch;exact jg
 obtain⟨W,hW⟩:=gn (yJ x);obtain⟨wa,hwa⟩:=gn (yI x);obtain⟨dg,hdg⟩:=gn (UInt8.ofNat (48+(i:Int)).toNat);have hR:uM x i=⟨[82,dg],CE x.j9,(pM x.dI).1,(pM x.dI).2,x.first,W (1+(x.AP%25).toNat)⟩:=by
  rw[<-hW];unfold uM digit;rw[Nat.mod_eq_of_lt hi,<-hdg,show(48+(i:Int)).toNat=48+i by omega]
 rw[hR];rw[hwa]at hw hws hwb;rw[hW]at hws hwl;clear hR hW hwa;obtain⟨t,f,fi,pi,w0,w1,w2,w3,w4⟩:=x;obtain⟨ht,hf,hfi,hpi,g0,g1,g2,g3,g4⟩:=hx;simp only at hw ht hf hfi hpi;obtain⟨p,rfl⟩:∃p:Nat,pi=p:=⟨pi.toNat,by have:=hpi.1;omega⟩;have aVU:p%25<25:=yBC _ Ch;obtain⟨N,hN⟩:=gn (p%25);have e1:((p:Int)).tmod 25=(N:Int):=by rw[<-hN];rfl
 have e2:IntKind.i64.wrap (N:Int)=(N:Int):=Ci;have e3:IntKind.i64.wrap (1+(N:Int))=1+(N:Int):=Ci;have e4:((p:Int)%25).toNat=N:=Cd;simp only[aAS,oA,bC,e4];have hT:=aOY t ht;have d1:((i:Int)).tmod 10=(i:Int):=Int.tmod_eq_of_lt Cd Cd;have d2:IntKind.i64.wrap (48+(i:Int))=48+(i:Int):=Ci;have d3:IntKind.u8.wrap (48+(i:Int))=48+(i:Int):=Cn;have d4:IntKind.i64.wrap fi=fi:=by have:=hfi.1;have:=hfi.2;rw[yAP];omega
 have hF:∀fl σ,entry (cU kB Em.dI λn=>eL (iB n) (some (pM n))) fl [.int .u8 f] σ=some (.agg [.int .i64 (pM f).1,.int .i64 (pM f).2],σ):=λfl σ=>by
  exact sw
 refine aI.aG 48 h0 func30 (h:=?_);refine aC (A8 h1 hT @d1 @d2 @d3 @d4 hdg hF) ?_;have MQ:W 0=[]:=yAf (hwl 0);refine Wp.dW (λm fr σ=>∃(k z:Nat),∃gg:Nat->PD,(k+m=1+N/\(W k=[]\/z=1))/\fr=[gg 0,gg 1,.ptr 0 0,gg 3,.ptr 1 0,.ptr 2 0,.int .i64 k,gg 7,gg 8,gg 9,gg 10,gg 11,gg 12,gg 13,gg 14,gg 15,gg 16,gg 17,gg 18,gg 19,gg 20,gg 21,gg 22,gg 23,gg 24,gg 25,gg 26,gg 27,gg 28,gg 29,gg 30,gg 31,gg 32,gg 33,gg 34,gg 35,gg 36,gg 37,gg 38,gg 39,gg 40,gg 41,gg 42,gg 43,gg 44,gg 45,gg 46,gg 47]/\σ=St [.box (.agg [.int .u8 t,.int .u8 f,.int .i8 fi,.int .u8 p,.int .u8 w0,.int .u8 w1,.int .u8 w2,.int .u8 w3,.int .u8 w4]),.box (.agg [.str [],.str [],.int .i64 0,.int .i64 0,.int .i64 0,.slice 0 [] .full]),.box (.agg [.str [82,dg],.str (CE t),.int .i64 (pM f).1,.int .i64 (pM f).2,.int .i64 fi,.slice z ((W k).map i64.aB) (kH 3 (W k).length)])] 3 1 (W k).length) ?_ (1+N) (by refine⟨0,0,?_⟩;exact rF (⟨Cd,.inl MQ⟩) Fp Fp)
 rintro m fr σ ⟨k,z,gg,hI,rfl,rfl⟩
 obtain⟨hm,hz⟩:=hI
 by_cases hk:k<1+N
 .have q1:(k:Int)<1+(N:Int):=by omega
  obtain⟨hw1,oK⟩:=hw k Cd 0 4;obtain⟨aVV,LJ⟩:=yA.1 oK;have hb1:IntKind.i64.wrap (wa k)=wa k:=by have:=hwb k;rw[yAP];omega
  have hl:=hwl k;refine aC (A10 e1 e2 e3 q1 hw1 oK LJ hb1 @hz hl) ?_;refine bU.normal (m-1) Cd (by refine⟨k+1,1,?_⟩;exact fU (⟨Cd,.inr rfl⟩) (A2 hws hl))
 .have q1:¬(k:Int)<1+(N:Int):=by omega
  obtain rfl:k=1+N:=Cd;refine aC (A4 e1 e2 e3 q1) ?_;have hne:W (1+N)≠[]:=λh=>by have:=hwl (1+N);rw[h]at this;simp at this;omega
  have hz1:z=1:=hz.resolve_left hne;subst hz1;simp(disch:=first|omega|(simp;done)|(simp;omega)) [yAu,hwl,tL hne]<;>try rfl
end
section
theorem Y2(n:Int)(h:iB n):nW n∈D4:=by
 obtain⟨k,rfl⟩:∃k:Nat,n=k:=⟨n.toNat,by have:=h.1;omega⟩;have hs:nW k=D4.getD (k%6) (8,1):=by
  unfold nW
  congr 1
 rw[hs];have hlt:k%6<6:=yBC _ Ch
 generalize k%6=j at hlt
 match j,hlt with
 |0,_=>decide
 |1,_=>decide
 |2,_=>decide
 |3,_=>decide
 |4,_=>decide
 |5,_=>decide
theorem aOS(n:Int)(h:iB n):pM n∈rS:=by
 obtain⟨k,rfl⟩:∃k:Nat,n=k:=⟨n.toNat,by have:=h.1;omega⟩;have hs:pM k=rS.getD (k%16) (8,1):=by
  unfold pM
  congr 1
 rw[hs];have hlt:k%16<rS.length:=yBC _ Ch;rw[yAA,yAh hlt];exact yAm hlt
theorem Y3(a b:Int×Int):-60<=xD a b/\xD a b<=64:=by
 unfold xD;cases h:Y4.find? λt=>decide (t.1=a)&&decide (t.2.1=b)with
 |none=>exact⟨Ch,Ch⟩
 |some t=>
  have hm:=List.mem_of_find?_eq_some h;exact(by decide:∀t∈Y4,-60<=t.2.2/\t.2.2<=64) t hm
def F3:Nat->List PD->List aA->Option (PD×List aA):=entry (fF Em.dI Em.dI (Em.p7 i64 i64) λa b=>eL (a∈D4/\b∈rS) (some (xD a b,0)))
theorem aEX{a b:Int×Int}(ha:a∈D4)(hb:b∈rS)(fl:Nat)(σ:List aA):F3 fl [.agg [.int .i64 a.1,.int .i64 a.2],.agg [.int .i64 b.1,.int .i64 b.2]] σ=some (.aH [.int .i64 (xD a b),.int .i64 0],σ):=by
 have e1:Em.dI.dec (.agg [.int .i64 a.1,.int .i64 a.2])=some a:=Em.dC (Em.dI.str a);have e2:Em.dI.dec (.agg [.int .i64 b.1,.int .i64 b.2])=some b:=Em.dC (Em.dI.str b);unfold F3 entry fF;simp only[e1,e2];rw[fY ⟨ha,hb⟩];rfl
variable{E:aE}(hU:aJ E)
include hU
theorem aOW(h0:E 31=none)(h1:E 68=some (entry (cU kB Em.dI λn=>eL (iB n) (some (nW n)))))(h2:E 69=some F3)
  (rs:List bP) (hrs:∀r∈rs,(r.num,r.den)∈rS) (nS:1<=rs.length) (zL:rs.length<=60) (lo hg:Int) (hlo:0<=lo) (hlh:lo<=hg) (hhg:hg<=200) (x:qL) (hx:ES x) (i:Nat) (aVT:i<10) :
  aI prog E 31 [aQ.aB rs,.agg [.int .i64 lo,.int .i64 hg],Em.pull.aB x,.int .i64 i] (Em.stop.aB (vV rs lo hg x i)):=by
 obtain⟨r,f,k,a⟩:=x;obtain⟨hr,hf,hk,ha⟩:=hx;simp only at hr hf hk ha;obtain⟨r,rfl⟩:∃q:Nat,r=q:=⟨r.toNat,by have:=hr.1;omega⟩;obtain⟨k,rfl⟩:∃q:Nat,k=q:=⟨k.toNat,by have:=hk.1;omega⟩;obtain⟨a,rfl⟩:∃q:Nat,a=q:=⟨a.toNat,by have:=ha.1;omega⟩;have hrb:=hr.2;have hab:=ha.2;obtain⟨n,hn⟩:=gn (r%rs.length);have hnl:n<rs.length:=by rw[<-hn];exact yBC _ nS
 obtain⟨m,hm⟩:=gn ((n+1)%rs.length);have hml:m<rs.length:=by rw[<-hm];exact yBC _ nS
 have c1:(r:Int).tmod (rs.length:Int)=n:=by rw[<-hn];rfl
 have G3:(r:Int)%(rs.length:Int)=n:=by rw[<-hn];rfl
 have c2:((n:Int)+1).tmod (rs.length:Int)=m:=by rw[<-hm];rfl
 have Y5:((n:Int)+1)%(rs.length:Int)=m:=by rw[<-hm];rfl
 obtain⟨j,hj⟩:=gn (k%6);have hj6:j<6:=by rw[<-hj];exact yBC _ Ch
 have c3:(k:Int).tmod 6=(j:Int):=by rw[<-hj];rfl
 have Y6:(k:Int)%6=(j:Int):=by rw[<-hj];rfl
 obtain⟨w,hw⟩:∃w:Nat,hg-lo+1=w:=⟨(hg-lo+1).toNat,Cd⟩;obtain⟨u,hu⟩:=gn (a%w);have huw:u<w:=by rw[<-hu];exact yBC _ Cd
 have c4:(a:Int).tmod (w:Int)=u:=by rw[<-hu];rfl
 have uO:(a:Int)%(w:Int)=u:=by rw[<-hu];rfl
 obtain⟨q,hq⟩:=gn (rs[n]);obtain⟨p,hp⟩:=gn (rs[m]);have hqf:=hrs q (hq▸yAm hnl);have hpf:=hrs p (hp▸yAm hml);have hF1:D5 rs n=(q.num,q.den):=by unfold D5;rw[yAA,yAh hnl,hq];rfl
 have hF2:D5 rs m=(p.num,p.den):=by unfold D5;rw[yAA,yAh hml,hp];rfl
 obtain⟨sh,hsh⟩:=gn (xD (nW f) (q.num,q.den));obtain⟨st,hst⟩:=gn (xD (nW f) (p.num,p.den));have Y7:=aEX (Y2 f hf) hqf;have RL:=aEX (Y2 f hf) hpf;rw[hsh]at Y7;rw[hst]at RL;obtain⟨dg,hdg⟩:=gn (UInt8.ofNat (48+(i:Int)).toNat);have hR:vV rs lo hg ⟨r,f,k,a⟩ i=⟨[83,dg],(nW f).1,(nW f).2,s4 j n sh lo hg (lo+u) m st⟩:=by
  unfold vV digit;simp only[G3,Y5,Y6,hw,uO,yBj,hF1,hF2,hsh,hst,<-hdg,show(48+(i:Int)).toNat=48+i by omega]
 rw[hR];have aOX:-60<=sh/\sh<=64:=hsh▸Y3 _ _
 clear hR hF1 hF2 hsh hst;obtain⟨q0,q1,q2,q3,q4,q5⟩:=q;obtain⟨p0,p1,p2,p3,p4,p5⟩:=p;simp only at Y7 RL;have d2:IntKind.i64.wrap (48+(i:Int))=48+(i:Int):=Ci;have d3:IntKind.u8.wrap (48+(i:Int))=48+(i:Int):=Cn;have d4:IntKind.i64.wrap (r:Int)=r:=Ci;have d5:IntKind.i64.wrap (a:Int)=a:=Ci;have d6:IntKind.i64.wrap (hg-lo)=hg-lo:=Ci;have d7:IntKind.i64.wrap (hg-lo+1)=w:=Ci;have d8:IntKind.i64.wrap (lo+(u:Int))=lo+u:=Ci;have d9:¬(rs.length:Int)=0:=Cd;have d10:¬(w:Int)=0:=Cd;have d11:¬rs=[]:=λh=>by rw[h]at nS;simp at nS
 have d12:¬w=0:=Cd;have hF:∀fl σ,entry (cU kB Em.dI λn=>eL (iB n) (some (nW n))) fl [.int .u8 f] σ=some (.agg [.int .i64 (nW f).1,.int .i64 (nW f).2],σ):=λfl σ=>by
  exact sw
 simp only[aAT,pZ,bC];refine aI.aG 158 h0 func31 (h:=?_);refine aC (A20 h1 h2 c1 c3 c4 @d2 @d3 @d4 @d5 @d6 @d7 @d8 @d9 @d10 @d11 @d12 hF Y7 hnl (A2 @hq hdg)) ?_;have hsb:-60<=sh/\sh<=64:=aOX;have b1:IntKind.i64.wrap (sh+7)=sh+7:=Ci;have b2:IntKind.i64.wrap (sh-12)=sh-12:=Ci;have b3:IntKind.i64.wrap (lo+(u:Int)-1)=lo+u-1:=Ci;have b4:IntKind.i64.wrap ((n:Int)+1)=(n:Int)+1:=Ci
 match j,hj6 with
 |0,_=>
  exact ez
 |1,_=>
  exact ez
 |2,_=>
  exact ez
 |3,_=>
  by_cases CD:lo<lo+(u:Int)
  .exact Be
  .exact Be
 |4,_=>
  by_cases CD:lo<lo+(u:Int)
  .refine aC (A5 b1 b2 b3 c3 CD) ?_;exact cz
  .refine aC (A5 b1 b2 b3 c3 CD) ?_;exact cz
 |5,_=>
  exact ez
end
end Go.Kz
end
