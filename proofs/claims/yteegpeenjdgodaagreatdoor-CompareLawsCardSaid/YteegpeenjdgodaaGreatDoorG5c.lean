/- Steps of the proof. -/
import Derived.Test.YteegpeenjdgodaaGreatDoorG5b
set_option linter.all false
set_option maxHeartbeats 40000000
set_option maxRecDepth 100000
open Go.Proofs.Tryz
noncomputable section
namespace Go.Kz
open Go Go.Proofs
section
def jV{α:Type}(p:α->Bool):List α->Nat
 | []=>0
 |x::r=>if p x=true then 1 else jV p r+1
def vI(x:bP):aB:=.box (.agg [.str x.name,.int .i64 x.dR,.int .i64 x.dst,.int .i64 x.shift,.bool x.o9])
def jA(nm:List UInt8)(x:bP):Bool:=decide (x.name=nm)
def z8:Nat->List PD->List aB->Option (PD×List aB):=λ_ args σ=>match args with
 | [.agg [.str n,.int .i64 a,.int .i64 b,.int .i64 c,.bool t],.ptr id 0]=>match σ[id]? with
   |some (.box (.agg [.str nm,.int .i64 _,.int .i64 _,.int .i64 _,.bool _]))=>some (.bool (decide (n=nm)),σ++[.box (.agg [.str n,.int .i64 a,.int .i64 b,.int .i64 c,.bool t])])
   |_=>none
 |_=>none
variable{E:aE}(hU:aH E)
include hU
theorem aPe(h0:E 99=none)(fl:Nat)(x0:List UInt8)(x1 x2 x3:Int)(x4:Bool)(nm:List UInt8)(c1 c2 c3:Int)(c4:Bool)(id:Nat)(τ:List aB)(hid:τ[id]?=some (.box (.agg [.str nm,.int .i64 c1,.int .i64 c2,.int .i64 c3,.bool c4]))) :
  aL prog E fl (.inl 99) [.agg [.str x0,.int .i64 x1,.int .i64 x2,.int .i64 x3,.bool x4],.ptr id 0] τ (λp1 σ1=>p1=.bool (decide (x0=nm))/\σ1=τ++[.box (.agg [.str x0,.int .i64 x1,.int .i64 x2,.int .i64 x3,.bool x4])]):=by
 obtain⟨hlt,he⟩:=yA.1 hid;have j0:∀x:aB,(τ++[x])[τ.length]?=some x:=λx=>Ai
 by_cases c:x0=nm
 .rw[yAY c];refine aL.aN 9 h0 func99 (h:=?_);exact yq
 .rw[yBd c];have f0:(x0==nm)=false:=by simpa using c
  refine aL.aN 9 h0 func99 (h:=?_);exact ym
theorem aLk(hE:aF prog E)(h0:E 99=none):aF prog (E.add 99 z8):=
 hE.add Aj λfl args σ p σ' h=>by
  unfold z8 at h;split at h
  .rename_i n a b c t id;split at h
   .rename_i nm c1 c2 c3 c4 hid;simp only[yAb,yAc]at h;obtain⟨rfl,rfl⟩:=h;exact aL.vH (aPe hU h0 fl n a b c t nm c1 c2 c3 c4 id σ hid)
   .cases h
  .cases h
theorem aPf(h0:E 129=none)(h1:E 99=some z8)(fl:Nat)(l:List bP)(nm:List UInt8)(c1 c2 c3:Int)(c4:Bool)(id:Nat)(τ:List aB)(hid:τ[id]?=some (.box (.agg [.str nm,.int .i64 c1,.int .i64 c2,.int .i64 c3,.bool c4])))(hl:l.length<=1000000)(z:Nat)(tok:Tok)(hz:l=[]\/z=5) :
  aL prog E fl (.inl 129) [.slice z (l.map Em.aK.aA) tok,.func 99 [.ptr id 0]] τ (λp1 σ1=>p1=.int .i64 (cK (jA nm) l 0)/\σ1=τ++(l.take (jV (jA nm) l)).map vI):=by
 obtain⟨B,hB⟩:=gn (cK (jA nm) l 0);obtain⟨V,hV⟩:=gn (jV (jA nm) l);rw[hB,hV];refine aL.aN 19 h0 func129 (h:=?_);refine aC trivial ?_;refine Wp.cZ (λm fr σ=>∃(i:Nat),∃gg:Nat->PD,(i+m=l.length/\cK (jA nm) (l.drop i) i=B/\jV (jA nm) (l.drop i)+i=V)/\fr=[.slice z (l.map Em.aK.aA) tok,.func 99 [.ptr id 0],gg 2,gg 3,gg 4,gg 5,.slice z (l.map Em.aK.aA) tok,.int .i64 l.length,.int .i64 i,gg 9,gg 10,gg 11,gg 12,gg 13,gg 14,gg 15,gg 16,gg 17,gg 18]/\σ=τ++(l.take i).map vI) ?_ (l.length) (by refine⟨0,?_⟩;exact cF (⟨Ah,hB,hV⟩))
 rintro m fr σ ⟨i,gg,hI,rfl,rfl⟩
 obtain⟨hm,hs,hv⟩:=hI
 by_cases hi:i<l.length
 .have q1:(i:Int)<(l.length:Int):=by omega
  have hz1:z=5:=hz.resolve_left (λh=>by rw[h]at hi;simp at hi);subst hz1;obtain⟨a,ha⟩:=gn (l[i]);have hc:l.drop i=a::l.drop (i+1):=At;have htk:l.take (i+1)=l.take i++[a]:=Et;obtain⟨hlt,_⟩:=yA.1 hid;obtain⟨ρ,hρ⟩:=gn (τ++(l.take i).map vI);have AN:ρ[id]?=some (.box (.agg [.str nm,.int .i64 c1,.int .i64 c2,.int .i64 c3,.bool c4])):=Ez;have hst:τ++(l.take (i+1)).map vI=ρ++[vI a]:=Fk;rw[hc]at hs hv;unfold cK at hs;unfold jV at hv;obtain⟨a0,a1,a2,a3,a4⟩:=a;have hE:z8 fl [.agg [.str a0,.int .i64 a1,.int .i64 a2,.int .i64 a3,.bool a4],.ptr id 0] ρ=some (.bool (decide (a0=nm)),ρ++[.box (.agg [.str a0,.int .i64 a1,.int .i64 a2,.int .i64 a3,.bool a4])]):=by
   unfold z8;simp only[AN]
  have CU:τ++(l.take (i+1)).map vI=ρ++[.box (.agg [.str a0,.int .i64 a1,.int .i64 a2,.int .i64 a3,.bool a4])]:=hst;have GM:τ++List.take (i+1) (l.map vI)=ρ++[.box (.agg [.str a0,.int .i64 a1,.int .i64 a2,.int .i64 a3,.bool a4])]:=by rw[<-yCP];exact CU
  rw[hρ]
  by_cases hb:a0=nm
  .rw[yAJ (by simp[jA,hb])]at hs hv;exact wq
  .rw[yAI (by simp[jA,hb])]at hs hv;exact cu
 .exact xd
omit hU in
def CV:List PD->Option (List bP)
 | []=>some []
 |.agg [.str n,.int .i64 a,.int .i64 b,.int .i64 c,.bool t]::r=>match CV r with|some l=>some (⟨n,a,b,c,t⟩::l)|none=>none
 |_=>none
omit hU in
theorem YH:∀ {xs:Gc} {l:List bP},CV xs=some l->xs=l.map Em.aK.aA
 | [],l,h=>by simp only[CV,yAb]at h;subst h;rfl
 |x::r,l,h=>by
  unfold CV at h;split at h
  .cases ‹_::_=_›
  .rename_i n a b c t r' e;simp only[yCb]at e;obtain⟨rfl,rfl⟩:=e;split at h
   .rename_i l' hl;simp only[yAb]at h;subst h;rw[YH hl];rfl
   .cases h
  .cases h
omit hU in
@[simp] theorem aEV:∀l:List bP,CV (l.map Em.aK.aA)=some l
  | []=>rfl
  |x::l=>by
   show CV (.agg [.str x.name,.int .i64 x.dR,.int .i64 x.dst,.int .i64 x.shift,.bool x.o9]::l.map Em.aK.aA)=_
   simp only[CV,aEV l]
omit hU in
def tO(f:List UInt8->List bP->PD):Nat->List PD->List aB->Option (PD×List aB):=λ_ args σ=>match args with
 | [.slice z xs _,.func g [.ptr id 0]]=>match CV xs with
   |some l=>if g=99/\(l.length=0\/z=5)/\l.length<=1000000 then match σ[id]? with
     |some (.box (.agg [.str nm,.int .i64 _,.int .i64 _,.int .i64 _,.bool _]))=>some (f nm l,σ++(l.take (jV (jA nm) l)).map vI)
     |_=>none
    else none
   |none=>none
 |_=>none
omit hU in
theorem aEU{f:List UInt8->List bP->PD}{z:Nat}{l:List bP}{tok:Tok}{id:Nat}{σ:Gb}{nm:Gd}{c1 c2 c3:Int}{c4:Bool}(hz:l=[]\/z=5)(hl:l.length<=1000000)(hid:σ[id]?=some (.box (.agg [.str nm,.int .i64 c1,.int .i64 c2,.int .i64 c3,.bool c4])))(fl:Nat) :
  tO f fl [.slice z (l.map Em.aK.aA) tok,.func 99 [.ptr id 0]] σ=some (f nm l,σ++(l.take (jV (jA nm) l)).map vI):=by
 unfold tO;simp only[aEV];rw[yAJ ⟨trivial,hz.imp (λh=>Bu) (λh=>h),hl⟩];simp only[hid]
theorem aLn(hE:aF prog E)(h0:E 129=none)(h1:E 99=some z8):aF prog (E.add 129 (tO λnm l=>.int .i64 (cK (jA nm) l 0))):=
 hE.add Aj λfl args σ p σ' h=>by
  unfold tO at h;split at h
  .rename_i z xs tok g id;split at h
   .rename_i l hl;split at h
    .rename_i hc;obtain⟨rfl,hz,hlen⟩:=hc;split at h
     .rename_i nm c1 c2 c3 c4 hid;simp only[yAb,yAc]at h;obtain⟨rfl,rfl⟩:=h;rw[YH hl];exact aL.vH (aPf hU h0 h1 fl l nm c1 c2 c3 c4 id σ hid hlen z tok (hz.imp yAf λh=>h))
     .cases h
    .cases h
   .cases h
  .cases h
theorem aPg(h0:E 98=none)(h1:E 129=some (tO λnm l=>.int .i64 (cK (jA nm) l 0)))(fl:Nat)(l:List bP)(nm:List UInt8)(c1 c2 c3:Int)(c4:Bool)(id:Nat)(τ:List aB)(hid:τ[id]?=some (.box (.agg [.str nm,.int .i64 c1,.int .i64 c2,.int .i64 c3,.bool c4])))(hl:l.length<=1000000)(z:Nat)(tok:Tok)(hz:l=[]\/z=5) :
  aL prog E fl (.inl 98) [.slice z (l.map Em.aK.aA) tok,.func 99 [.ptr id 0]] τ (λp1 σ1=>p1=.bool (l.any (jA nm))/\σ1=τ++(l.take (jV (jA nm) l)).map vI):=by
 have hE:=aEU (f:=λnm l=>.int .i64 (cK (jA nm) l 0)) hz hl hid (tok:=tok);obtain⟨ρ,hρ⟩:=gn (τ++(l.take (jV (jA nm) l)).map vI);rw[hρ]at hE;rw[hρ,<-K8 _ l 0];refine aL.aN 9 h0 func98 (h:=?_);refine aC (A2 h1 hE) ?_;exact ay
theorem aLp(hE:aF prog E)(h0:E 98=none)(h1:E 129=some (tO λnm l=>.int .i64 (cK (jA nm) l 0))):aF prog (E.add 98 (tO λnm l=>.bool (l.any (jA nm)))):=
 hE.add Aj λfl args σ p σ' h=>by
  unfold tO at h;split at h
  .rename_i z xs tok g id;split at h
   .rename_i l hl;split at h
    .rename_i hc;obtain⟨rfl,hz,hlen⟩:=hc;split at h
     .rename_i nm c1 c2 c3 c4 hid;simp only[yAb,yAc]at h;obtain⟨rfl,rfl⟩:=h;rw[YH hl];exact aL.vH (aPg hU h0 h1 fl l nm c1 c2 c3 c4 id σ hid hlen z tok (hz.imp yAf λh=>h))
     .cases h
    .cases h
   .cases h
  .cases h
end
section
abbrev FF:Em (List (Int×Int)):=Em.cV.list 2
def sX(k:Nat):List bP->List bP->Int
 |_,[]=>0
 |pre,c::r=>if eL c.name=false then 8 else if pre.any (jA c.name)=true then 9 else if c.dR<0\/(k:Int)<=c.dR\/c.dst<0\/(k:Int)<=c.dst then 10 else if c.shift < -127\/127<c.shift then 3 else if c.dR=c.dst/\c.shift=0 then 7 else sX k (pre++[c]) r
def AS(l:List (Int×Int)):Bool:=l.any λx=>!decide (mE x.1 x.2=0)
def AT(ks:List (Int×Int))(l:List bP):Int:=if 8<ks.length\/40<l.length then 4 else if AS ks=true then 23 else sX ks.length [] l
variable{E:aE}(hU:aH E)
include hU
theorem aLr(h0:E 64=none)(h1:E 96=some G9)(h2:E 60=some EG)(h3:E 98=some (tO λnm l=>.bool (l.any (jA nm))))(ks:List (Int×Int))(l:List bP)(hks:ks.length<=1000000)(hl:l.length<=1000000)(hn:∀x∈l,j8 x.name) :
  aJ prog E 64 [FF.aA ks,oC.aA l] (i64.aA (AT ks l)):=by
 unfold AT
 by_cases c1:8<ks.length
 .have c2:8<(ks.length:Int):=by omega
  rw[yAJ (.inl c1)];refine aJ.aN 89 h0 func64 (h:=?_);refine aC (A2 c1 c2) ?_;exact ag
 have FT:¬8<(ks.length:Int):=Ah
 by_cases c2:40<l.length
 .have c3:40<(l.length:Int):=by omega
  rw[yAJ (.inr c2)];refine aJ.aN 89 h0 func64 (h:=?_);refine aC (A4 c1 FT c2 c3) ?_;exact ag
 have XX:¬40<(l.length:Int):=Ah;rw[yAI (λh=>h.elim c1 c2)];obtain⟨B,hB⟩:∃B,(if AS ks=true then(23:Int)else sX ks.length [] l)=B:=⟨_,rfl⟩;rw[hB];refine aJ.aN 89 h0 func64 (h:=?_);refine aC (A4 c1 FT c2 XX) ?_;obtain⟨C,hC⟩:=gn (sX ks.length [] l);rw[hC]at hB;refine Wp.cZ (λm fr σ=>∃(i:Nat) (σ1:List aB),∃gg:Nat->PD,(i+m=ks.length/\(if AS (ks.drop i)=true then(23:Int)else C)=B)/\fr=FF.aA ks::oC.aA l::gg 2::gg 3::gg 4::gg 5::gg 6::gg 7::gg 8::gg 9::gg 10::gg 11::gg 12::gg 13::gg 14::gg 15::gg 16::FF.aA ks::.int .i64 ks.length::.int .i64 i::gg 20::gg 21::gg 22::gg 23::gg 24::gg 25::gg 26::gg 27::gg 28::gg 29::gg 30::gg 31::gg 32::gg 33::gg 34::gg 35::gg 36::gg 37::gg 38::gg 39::gg 40::gg 41::gg 42::gg 43::gg 44::gg 45::gg 46::gg 47::gg 48::gg 49::gg 50::gg 51::gg 52::gg 53::gg 54::gg 55::gg 56::gg 57::gg 58::gg 59::gg 60::gg 61::gg 62::gg 63::gg 64::gg 65::gg 66::gg 67::gg 68::gg 69::gg 70::gg 71::gg 72::gg 73::gg 74::gg 75::gg 76::gg 77::gg 78::gg 79::gg 80::gg 81::gg 82::gg 83::gg 84::gg 85::gg 86::gg 87::gg 88::[]/\σ=σ1) ?_ (ks.length) (by refine⟨0,[],?_⟩;exact cF (⟨Ah,hB⟩))
 rintro m fr σ ⟨i,σ1,gg,hI,rfl,rfl⟩
 obtain⟨hm,hs⟩:=hI
 by_cases hi:i<ks.length
 .have q1:(i:Int)<(ks.length:Int):=by omega
  obtain⟨a,ha⟩:=gn (ks[i]);have hc:ks.drop i=a::ks.drop (i+1):=At;rw[hc]at hs;obtain⟨a0,a1⟩:=a;have hE:=YE a0 a1;have j0:∀x:aB,(σ++[x])[σ.length]?=some x:=λx=>Ai
  have hcb:AS ((a0,a1)::ks.drop (i+1))=(!decide (mE a0 a1=0)||AS (ks.drop (i+1))):=rfl;rw[hcb]at hs;obtain⟨e,he⟩:=gn (mE a0 a1);rw[he]at hE hs
  by_cases c3:e=0
  .subst c3;simp only[decide_true,yBJ,yCc]at hs;refine aC (A6 q1 hi ha j0 h1 hE) ?_;refine bV.normal (m-1) Ah (by refine⟨i+1,σ++[.box (.agg [.int .i64 a0,.int .i64 a1])],?_⟩;exact cF (⟨Ah,hs⟩))
  .simp only[c3,decide_false,yCm,yDl,yAL]at hs;subst hs;refine aC (A7 q1 hi ha j0 h1 hE c3) ?_;exact ag
 have q1:¬(i:Int)<(ks.length:Int):=Ah;rw[yAs Ah]at hs;have hs2:C=B:=hs;rw[hs2]at hC;clear hs hs2 hB;refine aC q1 ?_;refine Wp.cZ (λm fr σ=>∃(i:Nat) (σ1:List aB),∃gg:Nat->PD,(i+m=l.length/\sX ks.length (l.take i) (l.drop i)=B)/\fr=FF.aA ks::oC.aA l::gg 2::gg 3::gg 4::gg 5::gg 6::gg 7::gg 8::gg 9::gg 10::gg 11::gg 12::gg 13::gg 14::gg 15::gg 16::gg 17::gg 18::gg 19::gg 20::gg 21::gg 22::gg 23::gg 24::gg 25::gg 26::oC.aA l::.int .i64 l.length::.int .i64 i::gg 30::gg 31::gg 32::gg 33::gg 34::gg 35::gg 36::gg 37::gg 38::gg 39::gg 40::gg 41::gg 42::gg 43::gg 44::gg 45::gg 46::gg 47::gg 48::gg 49::gg 50::gg 51::gg 52::gg 53::gg 54::gg 55::gg 56::gg 57::gg 58::gg 59::gg 60::gg 61::gg 62::gg 63::gg 64::gg 65::gg 66::gg 67::gg 68::gg 69::gg 70::gg 71::gg 72::gg 73::gg 74::gg 75::gg 76::gg 77::gg 78::gg 79::gg 80::gg 81::gg 82::gg 83::gg 84::gg 85::gg 86::gg 87::gg 88::[]/\σ=σ1) ?_ (l.length) (by refine⟨0,σ,?_⟩;exact cF (⟨Ah,hC⟩))
 rintro m fr σ ⟨i,σ1,gg,hI,rfl,rfl⟩
 obtain⟨hm,hs⟩:=hI
 by_cases hi:i<l.length
 .have q1:(i:Int)<(l.length:Int):=by omega
  obtain⟨a,ha⟩:=gn (l[i]);have hc:l.drop i=a::l.drop (i+1):=At;have htk:l.take (i+1)=l.take i++[a]:=Et;have hna:=H4 (hn a (ha▸yAm hi));rw[hc]at hs;unfold sX at hs;obtain⟨a0,a1,a2,a3,a4⟩:=a;simp only at hs hna;have j0:∀x:aB,(σ++[x])[σ.length]?=some x:=λx=>Ai
  have hle:i<=l.length:=Ah;cases c3:eL a0 with
  |false=>
   rw[c3]at hna hs;rw[yAJ rfl]at hs;subst hs;refine aC (A6 q1 hi ha j0 h2 hna) ?_;exact ag
  |true=>
  rw[c3]at hna hs;rw[yAI Ai]at hs;obtain⟨X,hX⟩:=gn (aB.box (.agg [.str a0,.int .i64 a1,.int .i64 a2,.int .i64 a3,.bool a4]));have hid:(σ++[X])[σ.length]?=some (.box (.agg [.str a0,.int .i64 a1,.int .i64 a2,.int .i64 a3,.bool a4])):=by rw[hX];exact j0 X
  have aPd:(l.take i=[]\/sz 5 l=5):=.inr (by simp[sz];intro h;rw[h]at hi;simp at hi);have hE:=aEU (f:=λnm l=>.bool (l.any (jA nm))) (z:=sz 5 l) (tok:=.any) aPd Bv hid;obtain⟨kB,eH⟩:=gn (σ++[X]++((l.take i).take (jV (jA a0) (l.take i))).map vI);have uA:kB[σ.length]?=some (.box (.agg [.str a0,.int .i64 a1,.int .i64 a2,.int .i64 a3,.bool a4])):=by
   rw[<-eH,yAg Ai,j0 X,hX]
  rw[eH]at hE;obtain⟨hlt2,hxe⟩:=yA.1 uA;rw[<-hX,yCP]at hE;obtain⟨b,hb⟩:=gn ((l.take i).any (jA a0));rw[hb]at hE hs;clear eH hX hid;cases b with
  |true=>
   rw[yAJ rfl]at hs;subst hs;refine aC (A12 q1 hi ha j0 h2 hna @hle h3 hE uA hlt2 hxe) ?_;exact ag
  |false=>
  rw[yAI Ai]at hs
  by_cases c4:a1<0
  .rw[yAJ (.inl c4)]at hs;subst hs;refine aC (A13 q1 hi ha j0 h2 hna @hle h3 hE uA hlt2 hxe c4) ?_;exact ag
  by_cases c5:(ks.length:Int)<=a1
  .rw[yAJ (.inr (.inl c5))]at hs;subst hs;refine aC (A14 q1 hi ha j0 h2 hna @hle h3 hE uA hlt2 hxe c4 c5) ?_;exact ag
  by_cases c6:a2<0
  .rw[yAJ (.inr (.inr (.inl c6)))]at hs;subst hs;refine aC (A15 q1 hi ha j0 h2 hna @hle h3 hE uA hlt2 hxe c4 c5 c6) ?_;exact ag
  by_cases c7:(ks.length:Int)<=a2
  .rw[yAJ (.inr (.inr (.inr c7)))]at hs;subst hs;refine aC (A16 q1 hi ha j0 h2 hna @hle h3 hE uA hlt2 hxe c4 c5 c6 c7) ?_;exact ag
  rw[yAI (λh=>h.elim c4 λh=>h.elim c5 λh=>h.elim c6 c7)]at hs
  by_cases c8:a3 < -127
  .rw[yAJ (.inl c8)]at hs;subst hs;refine aC (A17 q1 hi ha j0 h2 hna @hle h3 hE uA hlt2 hxe c4 c5 c6 c7 c8) ?_;exact ag
  by_cases c9:127<a3
  .rw[yAJ (.inr c9)]at hs;subst hs;refine aC (A18 q1 hi ha j0 h2 hna @hle h3 hE uA hlt2 hxe c4 c5 c6 c7 c8 c9) ?_;exact ag
  rw[yAI (λh=>h.elim c8 c9)]at hs;have hst:sX ks.length (l.take (i+1)) (l.drop (i+1))=sX ks.length (l.take i++[⟨a0,a1,a2,a3,a4⟩]) (l.drop (i+1)):=by rw[htk]
  by_cases uB:a1=a2
  .by_cases yN:a3=0
   .rw[yAJ ⟨uB,yN⟩]at hs;subst hs;subst uB;subst yN;refine aC (A16 q1 hi ha j0 h2 hna @hle h3 hE uA hlt2 hxe c4 c5 c8 c9) ?_;exact ag
   .rw[yAI (λh=>yN h.2)]at hs;subst uB;refine aC (A17 q1 hi ha j0 h2 hna @hle h3 hE uA hlt2 hxe c4 c5 c8 c9 yN) ?_;exact oa
  .rw[yAI (λh=>uB h.1)]at hs;refine aC (A19 q1 hi ha j0 h2 hna @hle h3 hE uA hlt2 hxe c4 c5 c6 c7 c8 c9 uB) ?_;exact oa
 .have q1:¬(i:Int)<(l.length:Int):=by omega
  rw[yAs Ah]at hs;have bY:B=0:=hs.symm;exact wu
end
section
def yM(ns:List (List UInt8)):List (PD×PD):=ns.map λn=>(.str n,.bool true)
def jO(ns:List (List UInt8)):aB:=.map (yM ns)
def j9(ns:List (List UInt8))(nm:List UInt8):Bool:=ns.any λn=>nm==n
theorem aEQ(nm:List UInt8):∀(ns:List (List UInt8)) (i:Nat),j9 ns nm=true->∃j,vZ (.str nm) (yM ns) i=some (some (j,.bool true))
 | [],_,h=>Ap
 |n::ns,i,h=>by
  cases e:nm==n with
  |true=>exact⟨i,by simp only[yM,yAS,vZ,D6,e]⟩
  |false=>
   have h2:j9 ns nm=true:=by simpa [j9,yDT,e]using h
   obtain⟨j,hj⟩:=aEQ nm ns (i+1) h2;exact⟨j,by simp only[yM,yAS,vZ,D6,e];exact hj⟩
theorem YF(nm:List UInt8):∀(ns:List (List UInt8)) (i:Nat),j9 ns nm=false->vZ (.str nm) (yM ns) i=some none
 | [],_,_=>rfl
 |n::ns,i,h=>by
  simp only[j9,yDT,yDX]at h;simp only[yM,yAS,vZ,D6,h.1];exact YF nm ns (i+1) h.2
theorem P4:(prog).underlying 138=some (.map 9 4):=Aj
theorem aER(nm:List UInt8):GQ prog 9 (.str nm)=true:=by
 have h:(prog).underlying 9=some .string:=Aj;unfold GQ;rw[h]
theorem aO9:eR prog 4=some (.bool false):=by rfl
theorem aES{σ:Gb}{id:Nat}{ns:List (List UInt8)}(h:σ[id]?=some (jO ns))(nm:List UInt8):GR prog σ 138 (.fK id) (.str nm) false=some (.bool (j9 ns nm)):=by
 unfold GR;simp only[P4,aER,yAL,h,jO];cases e:j9 ns nm with
 |true=>
  obtain⟨j,hj⟩:=aEQ nm ns 0 e;simp only[hj];rfl
 |false=>
  simp only[YF nm ns 0 e,aO9];rfl
theorem aPa{σ:Gb}{id fl:Nat}{ns:List (List UInt8)}(h:σ[id]?=some (jO ns))(hf:fl<=id)(nm:List UInt8)(hn:j9 ns nm=false):GS prog fl σ 138 (.fK id) (.str nm) (.bool true)=some (σ.set id (jO (ns++[nm]))):=by
 unfold GS;simp only[P4,aER,yAL,h,jO,hf,YF nm ns 0 hn];simp[yM]
variable{E:aE}(hU:aH E)
include hU
theorem aPb(h0:E 62=none)(fl id:Nat)(ns:List (List UInt8))(nm:List UInt8)(τ:List aB)(h:τ[id]?=some (jO ns))(hn:j9 ns nm=true) :
  aL prog E fl (.inl 62) [.fK id,.str nm] τ (λp1 σ1=>p1=.int .i64 9/\σ1=τ):=by
 have hl:=aES h nm;rw[hn]at hl;refine aL.aN 10 h0 func62 (h:=?_);refine mF hl ?_;exact ay
theorem aPc(h0:E 62=none)(fl id:Nat)(ns:List (List UInt8))(nm:List UInt8)(τ:List aB)(h:τ[id]?=some (jO ns))(hf:fl<=id)(hn:j9 ns nm=false) :
  aL prog E fl (.inl 62) [.fK id,.str nm] τ (λp1 σ1=>p1=.int .i64 0/\σ1=τ.set id (jO (ns++[nm]))):=by
 have hl:=aES h nm;rw[hn]at hl;have hp:=aPa h hf nm hn;refine aL.aN 10 h0 func62 (h:=?_);refine mF (A2 hl hp) ?_;exact ay
omit hU in
def CT:List (PD×PD)->Option (List (List UInt8))
 | []=>some []
 |(.str n,.bool true)::r=>match CT r with|some l=>some (n::l)|none=>none
 |_=>none
omit hU in
theorem aET:∀ {es:List (PD×PD)} {l:List (List UInt8)},CT es=some l->es=yM l
 | [],l,h=>by simp only[CT,yAb]at h;subst h;rfl
 |x::r,l,h=>by
  unfold CT at h;split at h
  .cases ‹_::_=_›
  .rename_i n r' e;simp only[yCb]at e;obtain⟨rfl,rfl⟩:=e;split at h
   .rename_i l' hl;simp only[yAb]at h;subst h;rw[aET hl];rfl
   .cases h
  .cases h
omit hU in
@[simp] theorem YG:∀l:List (List UInt8),CT (yM l)=some l
  | []=>rfl
  |n::l=>by
   show CT ((.str n,.bool true)::yM l)=_
   simp only[CT,YG l]
omit hU in
def wE:Nat->List PD->List aB->Option (PD×List aB):=λfl args σ=>match args with
 | [.fK id,.str nm]=>match σ[id]? with
   |some (.map es)=>match CT es with
    |some ns=>if j9 ns nm=true then some (.int .i64 9,σ)else if fl<=id then some (.int .i64 0,σ.set id (jO (ns++[nm])))else none
    |none=>none
   |_=>none
 |_=>none
omit hU in
theorem YA{fl id:Nat}{ns:List (List UInt8)}{nm:Gd}{σ:Gb}(h:σ[id]?=some (jO ns))(hn:j9 ns nm=true):wE fl [.fK id,.str nm] σ=some (.int .i64 9,σ):=by
 unfold wE;simp only[h,jO,YG,hn,yAL]
omit hU in
theorem YB{fl id:Nat}{ns:List (List UInt8)}{nm:Gd}{σ:Gb}(h:σ[id]?=some (jO ns))(hn:j9 ns nm=false)(hf:fl<=id):wE fl [.fK id,.str nm] σ=some (.int .i64 0,σ.set id (jO (ns++[nm]))):=by
 unfold wE;simp only[h,jO,YG,hn,hf,yAL];rfl
theorem aLt(hE:aF prog E)(h0:E 62=none):aF prog (E.add 62 wE):=
 hE.add Aj λfl args σ p σ' h=>by
  unfold wE at h;split at h
  .rename_i id nm;split at h
   .rename_i es hes;split at h
    .rename_i ns hns;have hm:σ[id]?=some (jO ns):=by rw[hes,aET hns];rfl
     split at h
     .rename_i hs;simp only[yAb,yAc]at h;obtain⟨rfl,rfl⟩:=h;exact aL.vH (aPb hU h0 fl id ns nm σ hm hs)
     .rename_i hs;split at h
      .rename_i hf;simp only[yAb,yAc]at h;obtain⟨rfl,rfl⟩:=h;exact aL.vH (aPc hU h0 fl id ns nm σ hm hf (by simpa using hs))
      .cases h
    .cases h
   .cases h
  .cases h
end
section
def yL(rs:List bB)(lo hg:Int):List (List UInt8)->List bW->Int
 |_,[]=>0
 |ns,s::r=>if rP rs lo hg s≠0 then rP rs lo hg s else if j9 ns s.name=true then 9 else yL rs lo hg (ns++[s.name]) r
def oA(rs:List bB)(d:bD):Int:=if mE d.low d.high≠0 then mE d.low d.high else if 60<d.stops.length then 4 else yL rs d.low d.high [] d.stops
def FE(s:bW):Prop:=iV s/\j8 s.name
def OZ:Nat->List PD->List aB->Option (PD×List aB):=entry (dZ Em.place Em.stop i64 λx s=>dP (AU x.1/\FE s) (some (rP x.1 x.2.1 x.2.2 s)))
theorem aO8{rs:List bB}{s:bW}(h:AU rs)(hs:FE s)(lo hg:Int)(fl:Nat)(σ:List aB):OZ fl [.agg [aM.aA rs,.int .i64 lo,.int .i64 hg],Em.stop.aA s] σ=some (.int .i64 (rP rs lo hg s),σ):=by
 have e1:=Em.cM (Em.place.str (rs,lo,hg));rw[YD]at e1;have e2:=Em.cM (Em.stop.str s);unfold OZ entry dZ;simp only[e1,e2];rw[eV ⟨h,hs⟩];rfl
variable{E:aE}(hU:aH E)
include hU
theorem aLv(h0:E 63=none)(h1:E 96=some G9)(h2:E 97=some OZ)(h3:E 62=some wE)(o:aP)(hrs:AU o.aM)(d:bD)(hd:d.stops.length<=1000000/\∀s∈d.stops,FE s) :
  aJ prog E 63 [Em.bM.aA o,Em.div.aA d] (i64.aA (oA o.aM d)):=by
 obtain⟨on,rs,od,oc⟩:=o;obtain⟨dn,dp,lo,hg,l⟩:=d;have hC:=YE lo hg;obtain⟨hdl,hds⟩:=hd;simp only at hrs hdl hds;unfold oA;simp only[gF,lX,aW];obtain⟨c,hc⟩:=gn (mE lo hg);rw[hc]at hC ⊢
 by_cases c1:c=0
 rotate_left
 .rw[yAJ c1];refine aJ.aN 47 h0 func63 (h:=?_);refine mF (A3 h1 hC c1) ?_;exact ag
 subst c1;simp only[ne_eq,yBM,yAN]
 by_cases c2:60<l.length
 .have c3:60<(l.length:Int):=by omega
  rw[yAJ c2];refine aJ.aN 47 h0 func63 (h:=?_);refine mF (A4 h1 hC c2 c3) ?_;exact ag
 have c3:¬60<(l.length:Int):=Ah;rw[yAI c2];obtain⟨B,hB⟩:=gn (yL rs lo hg [] l);rw[hB];have us:=P4;refine aJ.aN 47 h0 func63 (h:=?_);refine mF (A5 h1 hC c2 c3 @us) ?_;obtain⟨X,hX⟩:=gn (aB.box (.agg [.str on,.slice (sz 6 rs) (rs.map Em.aG.aA) .any,.slice (sz 5 od) (od.map Em.div.aA) .any,.slice (sz 5 oc) (oc.map Em.aK.aA) .any]));obtain⟨Y,hY⟩:=gn (aB.box (.agg [.str dn,.bool dp,.int .i64 lo,.int .i64 hg,.slice (sz 4 l) (l.map Em.stop.aA) .any]));refine Wp.cZ (λm fr σ=>∃(i:Nat) (σ1:List aB),∃gg:Nat->PD,(i+m=l.length/\σ1[0]?=some X/\σ1[1]?=some Y/\σ1[2]?=some (jO ((l.take i).map bW.name))/\yL rs lo hg ((l.take i).map bW.name) (l.drop i)=B)/\fr=[gg 0,gg 1,.ptr 0 0,.ptr 1 0,gg 4,gg 5,.fK 2,gg 7,gg 8,gg 9,gg 10,gg 11,gg 12,gg 13,gg 14,gg 15,gg 16,gg 17,gg 18,gg 19,gg 20,gg 21,gg 22,mX.aA l,.int .i64 l.length,.int .i64 i,gg 26,gg 27,gg 28,gg 29,gg 30,gg 31,gg 32,gg 33,gg 34,gg 35,gg 36,gg 37,gg 38,gg 39,gg 40,gg 41,gg 42,gg 43,gg 44,gg 45,gg 46]/\σ=σ1) ?_ (l.length) (by refine⟨0,[X,Y,.map []],?_⟩;exact eS (⟨Ah,rfl,rfl,rfl,hB⟩) (A2 hX hY))
 rintro m fr σ ⟨i,σ1,gg,hI,rfl,rfl⟩
 obtain⟨hm,hx0,hy0,K5,hs⟩:=hI
 by_cases hi:i<l.length
 .have q1:(i:Int)<(l.length:Int):=by omega
  obtain⟨a,ha⟩:=gn (l[i]);have K6:l.drop i=a::l.drop (i+1):=At;have htk:(l.take (i+1)).map bW.name=(l.take i).map bW.name++[a.name]:=by rw[yBC hi,ha,yAH];rfl
  have hE:=aO8 hrs (hds a (ha▸yAm hi)) lo hg;rw[K6]at hs;unfold yL at hs;have hx1:=hx0;have hy1:=hy0;rw[<-hX]at hx1;rw[<-hY]at hy1;obtain⟨gC,hxe⟩:=yA.1 hx1;obtain⟨kP,hye⟩:=yA.1 hy1;obtain⟨hlt2,hze⟩:=yA.1 K5;obtain⟨a0,a1,a2,a3⟩:=a;have j0:∀x:aB,(σ++[x])[σ.length]?=some x:=λx=>Ai
  obtain⟨e,he⟩:=gn (rP rs lo hg ⟨a0,a1,a2,a3⟩);rw[he]at hE hs;simp only[pV,aW]at hE;simp only at hs htk
  by_cases c4:e=0
  rotate_left
  .rw[yAJ c4]at hs;subst hs;refine mF (A13 q1 hi ha j0 hx1 hy1 gC kP hxe hye h2 hE c4) ?_;exact ag
  subst c4;simp only[ne_eq,yBM,yAN]at hs;obtain⟨Z,hZ⟩:=gn (aB.box (.agg [.str a0,.int .i64 a1,.int .i64 a2,.slice (sz 3 a3) (a3.map Em.eZ.aA) .any]));have hmz:(σ++[Z])[2]?=some (jO ((l.take i).map bW.name)):=by rw[yAg hlt2];exact K5
  cases hb:j9 ((l.take i).map bW.name) a0 with
  |true=>
   rw[hb]at hs;rw[yAJ rfl]at hs;subst hs;have hA:=λfl=>YA (fl:=fl) hmz hb
   rw[<-hZ]at hA;refine mF Aa ?_;exact ag
  |false=>
   rw[hb]at hs;rw[yAI Ai]at hs;have hA:=YB (fl:=0) hmz hb (yAF _);obtain⟨kB,eH⟩:=gn ((σ++[Z]).set 2 (jO ((l.take i).map bW.name++[a0])));have t0:kB[0]?=some X:=by rw[<-eH,yAd Ah,yAg gC];exact hx0
   have t1:kB[1]?=some Y:=by rw[<-eH,yAd Ah,yAg kP];exact hy0
   have t2:kB[2]?=some (jO ((l.take i).map bW.name++[a0])):=by rw[<-eH];exact yAj Aw
   rw[eH]at hA;rw[<-hZ]at hA;clear eH;refine mF Aa ?_;refine bV.normal (m-1) Ah (by refine⟨i+1,kB,?_⟩;exact cF (⟨Ah,t0,t1,by rw[htk];exact t2,by rw[htk];exact hs⟩))
 .have q1:¬(i:Int)<(l.length:Int):=by omega
  rw[yAs Ah]at hs;have bY:B=0:=hs.symm;refine mF q1 ?_;exact aq
end
section
theorem aOM(n:Int)(h:gE n):jZ prog 96 (.slice 1 [.str [79,112,101,110],.str [70,108,117,116,101],.str [82,101,101,100]] .full) (.int .u8 (n.tmod 3))=some (.eO [.str (AR n)] 0):=by
 obtain⟨k,rfl⟩:∃k:Nat,n=k:=⟨n.toNat,by have:=h.1;omega⟩;have hm:(k:Int).tmod 3=((k%3:Nat):Int):=rfl;have hs:AR k=FB.getD (k%3) []:=by
  unfold AR
  congr 1
 rw[hm,hs];have hlt:k%3<3:=yBs _ Al
 generalize k%3=j at hlt
 match j,hlt with
 |0,_=>exact rfl
 |1,_=>exact rfl
 |2,_=>exact rfl
theorem aON(x:mW)(k:Nat)(hk:k<=1000)(id off:Nat):jZ prog 101 (.ptr id off) (.int .i64 ((k:Int).tmod 5))=some (.ptr id (off+k%5)) /\
  [PD.int .u8 x.jJ,.int .u8 x.cV,.int .i8 x.first,.int .u8 x.y9,.int .u8 x.w0,.int .u8 x.w1,.int .u8 x.w2,.int .u8 x.w3,.int .u8 x.w4][4+k%5]?=some (.int .u8 (wU x k)):=by
 have hm:(k:Int).tmod 5=((k%5:Nat):Int):=rfl;have hs:wU x k=[x.w0,x.w1,x.w2,x.w3,x.w4].getD (k%5) 0:=rfl;rw[hm,hs];have hlt:k%5<5:=yBs _ Al
 generalize k%5=j at hlt
 match j,hlt with
 |0,_=>exact⟨rfl,rfl⟩
 |1,_=>exact⟨rfl,rfl⟩
 |2,_=>exact⟨rfl,rfl⟩
 |3,_=>exact⟨rfl,rfl⟩
 |4,_=>exact⟨rfl,rfl⟩
variable{E:aE}(hU:aH E)
include hU
theorem aL4(h0:E 30=none)(h1:E 67=some (entry (bZ jK Em.cV λn=>dP (gE n) (some (oH n)))))(x:mW)(hx:BA x)(i:Nat)(hi:i<10) :
  aJ prog E 30 [Em.xF.aA x,.int .i64 i] (Em.aG.aA (sU x i)):=by
 have hw:=aON x;have hwl:∀k,(wV x k).length=k:=λk=>by simp[wV]
 have hws:∀k,wV x (k+1)=wV x k++[wU x k]:=λk=>by simp[wV,yDf]
 have hwb:∀k,0<=wU x k/\wU x k<=255:=λk=>by
  have hlt:k%5<5:=yBs _ Al;exact ij
 obtain⟨W,hW⟩:=gn (wV x);obtain⟨wa,hwa⟩:=gn (wU x);obtain⟨dg,hdg⟩:=gn (UInt8.ofNat (48+(i:Int)).toNat);have hR:sU x i=⟨[82,dg],AR x.jJ,(oH x.cV).1,(oH x.cV).2,x.first,W (1+(x.y9%25).toNat)⟩:=by
  rw[<-hW];unfold sU digit;rw[Nat.mod_eq_of_lt hi,<-hdg,show(48+(i:Int)).toNat=48+i by omega]
 rw[hR];rw[hwa]at hw hws hwb;rw[hW]at hws hwl;clear hR hW hwa;obtain⟨t,f,fi,pi,w0,w1,w2,w3,w4⟩:=x;obtain⟨ht,hf,hfi,hpi,g0,g1,g2,g3,g4⟩:=hx;simp only at hw ht hf hfi hpi;obtain⟨p,rfl⟩:∃p:Nat,pi=p:=⟨pi.toNat,by have:=hpi.1;omega⟩;have aWh:p%25<25:=yBs _ Al;obtain⟨N,hN⟩:=gn (p%25);have e1:((p:Int)).tmod 25=(N:Int):=by rw[<-hN];rfl
 have e2:IntKind.i64.wrap (N:Int)=(N:Int):=Am;have e3:IntKind.i64.wrap (1+(N:Int))=1+(N:Int):=Am;have e4:((p:Int)%25).toNat=N:=Ah;simp only[aAt,nN,aW,e4];have hT:=aOM t ht;have d1:((i:Int)).tmod 10=(i:Int):=Int.tmod_eq_of_lt Ah Ah;have d2:IntKind.i64.wrap (48+(i:Int))=48+(i:Int):=Am;have d3:IntKind.u8.wrap (48+(i:Int))=48+(i:Int):=Ar;have d4:IntKind.i64.wrap fi=fi:=by have:=hfi.1;have:=hfi.2;rw[yAP];omega
 have hF:∀fl σ,entry (bZ jK Em.cV λn=>dP (gE n) (some (oH n))) fl [.int .u8 f] σ=some (.agg [.int .i64 (oH f).1,.int .i64 (oH f).2],σ):=λfl σ=>by
  exact qt
 refine aJ.aN 48 h0 func30 (h:=?_);refine aC (A8 h1 hT @d1 @d2 @d3 @d4 hdg hF) ?_;have FC:W 0=[]:=yAf (hwl 0);refine Wp.cZ (λm fr σ=>∃(k z:Nat),∃gg:Nat->PD,(k+m=1+N/\(W k=[]\/z=1))/\fr=[gg 0,gg 1,.ptr 0 0,gg 3,.ptr 1 0,.ptr 2 0,.int .i64 k,gg 7,gg 8,gg 9,gg 10,gg 11,gg 12,gg 13,gg 14,gg 15,gg 16,gg 17,gg 18,gg 19,gg 20,gg 21,gg 22,gg 23,gg 24,gg 25,gg 26,gg 27,gg 28,gg 29,gg 30,gg 31,gg 32,gg 33,gg 34,gg 35,gg 36,gg 37,gg 38,gg 39,gg 40,gg 41,gg 42,gg 43,gg 44,gg 45,gg 46,gg 47]/\σ=St [.box (.agg [.int .u8 t,.int .u8 f,.int .i8 fi,.int .u8 p,.int .u8 w0,.int .u8 w1,.int .u8 w2,.int .u8 w3,.int .u8 w4]),.box (.agg [.str [],.str [],.int .i64 0,.int .i64 0,.int .i64 0,.slice 0 [] .full]),.box (.agg [.str [82,dg],.str (AR t),.int .i64 (oH f).1,.int .i64 (oH f).2,.int .i64 fi,.slice z ((W k).map i64.aA) (jM 3 (W k).length)])] 3 1 (W k).length) ?_ (1+N) (by refine⟨0,0,?_⟩;exact j6 (⟨Ah,.inl FC⟩) De De)
 rintro m fr σ ⟨k,z,gg,hI,rfl,rfl⟩
 obtain⟨hm,hz⟩:=hI
 by_cases hk:k<1+N
 .have q1:(k:Int)<1+(N:Int):=by omega
  obtain⟨hw1,wR⟩:=hw k Ah 0 4;obtain⟨aWi,X1⟩:=yA.1 wR;have hb1:IntKind.i64.wrap (wa k)=wa k:=by have:=hwb k;rw[yAP];omega
  have hl:=hwl k;refine aC (A10 e1 e2 e3 q1 hw1 wR X1 hb1 @hz hl) ?_;refine bV.normal (m-1) Ah (by refine⟨k+1,1,?_⟩;exact eS (⟨Ah,.inr rfl⟩) (A2 hws hl))
 .have q1:¬(k:Int)<1+(N:Int):=by omega
  obtain rfl:k=1+N:=Ah;refine aC (A4 e1 e2 e3 q1) ?_;have hne:W (1+N)≠[]:=λh=>by have:=hwl (1+N);rw[h]at this;simp at this;omega
  have hz1:z=1:=hz.resolve_left hne;subst hz1;simp(disch:=first|omega|(simp;done)|(simp;omega)) [yAu,hwl,s7 hne]<;>try rfl
end
section
theorem XU(n:Int)(h:gE n):mS n∈CR:=by
 obtain⟨k,rfl⟩:∃k:Nat,n=k:=⟨n.toNat,by have:=h.1;omega⟩;have hs:mS k=CR.getD (k%6) (8,1):=by
  unfold mS
  congr 1
 rw[hs];have hlt:k%6<6:=yBs _ Al
 generalize k%6=j at hlt
 match j,hlt with
 |0,_=>decide
 |1,_=>decide
 |2,_=>decide
 |3,_=>decide
 |4,_=>decide
 |5,_=>decide
theorem aOG(n:Int)(h:gE n):oH n∈qP:=by
 obtain⟨k,rfl⟩:∃k:Nat,n=k:=⟨n.toNat,by have:=h.1;omega⟩;have hs:oH k=qP.getD (k%16) (8,1):=by
  unfold oH
  congr 1
 rw[hs];have hlt:k%16<qP.length:=yBs _ Al;rw[yAA,yAh hlt];exact yAm hlt
theorem XV(a b:Int×Int):-60<=vE a b/\vE a b<=64:=by
 unfold vE;cases h:XW.find? λt=>decide (t.1=a)&&decide (t.2.1=b)with
 |none=>exact⟨Al,Al⟩
 |some t=>
  have hm:=List.mem_of_find?_eq_some h;exact(by decide:∀t∈XW,-60<=t.2.2/\t.2.2<=64) t hm
def EH:Nat->List PD->List aB->Option (PD×List aB):=entry (dZ Em.cV Em.cV (Em.sA i64 i64) λa b=>dP (a∈CR/\b∈qP) (some (vE a b,0)))
theorem aEA{a b:Int×Int}(ha:a∈CR)(hb:b∈qP)(fl:Nat)(σ:List aB):EH fl [.agg [.int .i64 a.1,.int .i64 a.2],.agg [.int .i64 b.1,.int .i64 b.2]] σ=some (.aI [.int .i64 (vE a b),.int .i64 0],σ):=by
 have e1:Em.cV.dec (.agg [.int .i64 a.1,.int .i64 a.2])=some a:=Em.cM (Em.cV.str a);have e2:Em.cV.dec (.agg [.int .i64 b.1,.int .i64 b.2])=some b:=Em.cM (Em.cV.str b);unfold EH entry dZ;simp only[e1,e2];rw[eV ⟨ha,hb⟩];rfl
variable{E:aE}(hU:aH E)
include hU
theorem aOK(h0:E 31=none)(h1:E 68=some (entry (bZ jK Em.cV λn=>dP (gE n) (some (mS n)))))(h2:E 69=some EH)
  (rs:List bB) (hrs:∀r∈rs,(r.num,r.den)∈qP) (oE:1<=rs.length) (jE:rs.length<=60) (lo hg:Int) (hlo:0<=lo) (hlh:lo<=hg) (hhg:hg<=200) (x:o8) (hx:DD x) (i:Nat) (aWg:i<10) :
  aJ prog E 31 [aM.aA rs,.agg [.int .i64 lo,.int .i64 hg],Em.pull.aA x,.int .i64 i] (Em.stop.aA (tX rs lo hg x i)):=by
 obtain⟨r,f,k,a⟩:=x;obtain⟨hr,hf,hk,ha⟩:=hx;simp only at hr hf hk ha;obtain⟨r,rfl⟩:∃q:Nat,r=q:=⟨r.toNat,by have:=hr.1;omega⟩;obtain⟨k,rfl⟩:∃q:Nat,k=q:=⟨k.toNat,by have:=hk.1;omega⟩;obtain⟨a,rfl⟩:∃q:Nat,a=q:=⟨a.toNat,by have:=ha.1;omega⟩;have hrb:=hr.2;have hab:=ha.2;obtain⟨n,hn⟩:=gn (r%rs.length);have hnl:n<rs.length:=by rw[<-hn];exact yBs _ oE
 obtain⟨m,hm⟩:=gn ((n+1)%rs.length);have hml:m<rs.length:=by rw[<-hm];exact yBs _ oE
 have c1:(r:Int).tmod (rs.length:Int)=n:=by rw[<-hn];rfl
 have FT:(r:Int)%(rs.length:Int)=n:=by rw[<-hn];rfl
 have c2:((n:Int)+1).tmod (rs.length:Int)=m:=by rw[<-hm];rfl
 have XX:((n:Int)+1)%(rs.length:Int)=m:=by rw[<-hm];rfl
 obtain⟨j,hj⟩:=gn (k%6);have hj6:j<6:=by rw[<-hj];exact yBs _ Al
 have c3:(k:Int).tmod 6=(j:Int):=by rw[<-hj];rfl
 have XY:(k:Int)%6=(j:Int):=by rw[<-hj];rfl
 obtain⟨w,hw⟩:∃w:Nat,hg-lo+1=w:=⟨(hg-lo+1).toNat,Ah⟩;obtain⟨u,hu⟩:=gn (a%w);have huw:u<w:=by rw[<-hu];exact yBs _ Ah
 have c4:(a:Int).tmod (w:Int)=u:=by rw[<-hu];rfl
 have sW:(a:Int)%(w:Int)=u:=by rw[<-hu];rfl
 obtain⟨q,hq⟩:=gn (rs[n]);obtain⟨p,hp⟩:=gn (rs[m]);have hqf:=hrs q (hq▸yAm hnl);have hpf:=hrs p (hp▸yAm hml);have hF1:CS rs n=(q.num,q.den):=by unfold CS;rw[yAA,yAh hnl,hq];rfl
 have hF2:CS rs m=(p.num,p.den):=by unfold CS;rw[yAA,yAh hml,hp];rfl
 obtain⟨sh,hsh⟩:=gn (vE (mS f) (q.num,q.den));obtain⟨st,hst⟩:=gn (vE (mS f) (p.num,p.den));have XZ:=aEA (XU f hf) hqf;have yF:=aEA (XU f hf) hpf;rw[hsh]at XZ;rw[hst]at yF;obtain⟨dg,hdg⟩:=gn (UInt8.ofNat (48+(i:Int)).toNat);have hR:tX rs lo hg ⟨r,f,k,a⟩ i=⟨[83,dg],(mS f).1,(mS f).2,rO j n sh lo hg (lo+u) m st⟩:=by
  unfold tX digit;simp only[FT,XX,XY,hw,sW,yBe,hF1,hF2,hsh,hst,<-hdg,show(48+(i:Int)).toNat=48+i by omega]
 rw[hR];have aOL:-60<=sh/\sh<=64:=hsh▸XV _ _
 clear hR hF1 hF2 hsh hst;obtain⟨q0,q1,q2,q3,q4,q5⟩:=q;obtain⟨p0,p1,p2,p3,p4,p5⟩:=p;simp only at XZ yF;have d2:IntKind.i64.wrap (48+(i:Int))=48+(i:Int):=Am;have d3:IntKind.u8.wrap (48+(i:Int))=48+(i:Int):=Ar;have d4:IntKind.i64.wrap (r:Int)=r:=Am;have d5:IntKind.i64.wrap (a:Int)=a:=Am;have d6:IntKind.i64.wrap (hg-lo)=hg-lo:=Am;have d7:IntKind.i64.wrap (hg-lo+1)=w:=Am;have d8:IntKind.i64.wrap (lo+(u:Int))=lo+u:=Am;have d9:¬(rs.length:Int)=0:=Ah;have d10:¬(w:Int)=0:=Ah;have d11:¬rs=[]:=λh=>by rw[h]at oE;simp at oE
 have d12:¬w=0:=Ah;have hF:∀fl σ,entry (bZ jK Em.cV λn=>dP (gE n) (some (mS n))) fl [.int .u8 f] σ=some (.agg [.int .i64 (mS f).1,.int .i64 (mS f).2],σ):=λfl σ=>by
  exact qt
 simp only[aAu,pV,aW];refine aJ.aN 158 h0 func31 (h:=?_);refine aC (A20 h1 h2 c1 c3 c4 @d2 @d3 @d4 @d5 @d6 @d7 @d8 @d9 @d10 @d11 @d12 hF XZ hnl (A2 @hq hdg)) ?_;have hsb:-60<=sh/\sh<=64:=aOL;have b1:IntKind.i64.wrap (sh+7)=sh+7:=Am;have b2:IntKind.i64.wrap (sh-12)=sh-12:=Am;have b3:IntKind.i64.wrap (lo+(u:Int)-1)=lo+u-1:=Am;have b4:IntKind.i64.wrap ((n:Int)+1)=(n:Int)+1:=Am
 match j,hj6 with
 |0,_=>
  exact ei
 |1,_=>
  exact ei
 |2,_=>
  exact ei
 |3,_=>
  by_cases AQ:lo<lo+(u:Int)
  .exact zf
  .exact zf
 |4,_=>
  by_cases AQ:lo<lo+(u:Int)
  .refine aC (A5 b1 b2 b3 c3 AQ) ?_;exact cy
  .refine aC (A5 b1 b2 b3 c3 AQ) ?_;exact cy
 |5,_=>
  exact ei
end
end Go.Kz
end
