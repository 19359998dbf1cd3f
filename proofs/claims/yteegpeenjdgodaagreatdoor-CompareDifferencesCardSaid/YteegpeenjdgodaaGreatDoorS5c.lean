/- Steps of the proof. -/
import Derived.Test.YteegpeenjdgodaaGreatDoorS5b
set_option linter.all false
set_option maxHeartbeats 40000000
set_option maxRecDepth 100000
open Go.Proofs.Tryz
noncomputable section
namespace Go.Kz
open Go Go.Proofs
section
def jL{α:Type}(p:α->Bool):List α->Nat
 | []=>0
 |x::r=>if p x=true then 1 else jL p r+1
def uP(x:bR):aB:=.box (.agg [.str x.name,.int .i64 x.dS,.int .i64 x.dst,.int .i64 x.shift,.bool x.qD])
def iE(nm:List UInt8)(x:bR):Bool:=decide (x.name=nm)
def zA:Nat->List PD->List aB->Option (PD×List aB):=λ_ args σ=>match args with
 | [.agg [.str n,.int .i64 a,.int .i64 b,.int .i64 c,.bool t],.ptr id 0]=>match σ[id]? with
   |some (.box (.agg [.str nm,.int .i64 _,.int .i64 _,.int .i64 _,.bool _]))=>some (.bool (decide (n=nm)),σ++[.box (.agg [.str n,.int .i64 a,.int .i64 b,.int .i64 c,.bool t])])
   |_=>none
 |_=>none
variable{E:aE}(hU:aH E)
include hU
theorem aMM(h0:E 99=none)(fl:Nat)(x0:List UInt8)(x1 x2 x3:Int)(x4:Bool)(nm:List UInt8)(c1 c2 c3:Int)(c4:Bool)(id:Nat)(τ:List aB)(hid:τ[id]?=some (.box (.agg [.str nm,.int .i64 c1,.int .i64 c2,.int .i64 c3,.bool c4]))) :
  aL prog E fl (.inl 99) [.agg [.str x0,.int .i64 x1,.int .i64 x2,.int .i64 x3,.bool x4],.ptr id 0] τ (λp1 σ1=>p1=.bool (decide (x0=nm))/\σ1=τ++[.box (.agg [.str x0,.int .i64 x1,.int .i64 x2,.int .i64 x3,.bool x4])]):=by
 obtain⟨hlt,he⟩:=yA.1 hid;have j0:∀x:aB,(τ++[x])[τ.length]?=some x:=λx=>yg
 by_cases c:x0=nm
 .rw[yAV c];refine aL.aN 9 h0 func99 (h:=?_);exact wq
 .rw[yBc c];have f0:(x0==nm)=false:=by simpa using c
  refine aL.aN 9 h0 func99 (h:=?_);exact wh
theorem aKe(hE:aF prog E)(h0:E 99=none):aF prog (E.add 99 zA):=
 hE.add yf λfl args σ p σ' h=>by
  unfold zA at h;split at h
  .rename_i n a b c t id;split at h
   .rename_i nm c1 c2 c3 c4 hid;simp only[yAb,yAc]at h;obtain⟨rfl,rfl⟩:=h;exact aL.uO (aMM hU h0 fl n a b c t nm c1 c2 c3 c4 id σ hid)
   .cases h
  .cases h
theorem aMN(h0:E 129=none)(h1:E 99=some zA)(fl:Nat)(l:List bR)(nm:List UInt8)(c1 c2 c3:Int)(c4:Bool)(id:Nat)(τ:List aB)(hid:τ[id]?=some (.box (.agg [.str nm,.int .i64 c1,.int .i64 c2,.int .i64 c3,.bool c4])))(hl:l.length<=1000000)(z:Nat)(tok:Tok)(hz:l=[]\/z=5) :
  aL prog E fl (.inl 129) [.slice z (l.map Em.aJ.aA) tok,.func 99 [.ptr id 0]] τ (λp1 σ1=>p1=.int .i64 (dR (iE nm) l 0)/\σ1=τ++(l.take (jL (iE nm) l)).map uP):=by
 obtain⟨B,hB⟩:=gn (dR (iE nm) l 0);obtain⟨V,hV⟩:=gn (jL (iE nm) l);rw[hB,hV];refine aL.aN 19 h0 func129 (h:=?_);refine aC trivial ?_;refine Wp.cI (λm fr σ=>∃(i:Nat),∃gg:Nat->PD,(i+m=l.length/\dR (iE nm) (l.drop i) i=B/\jL (iE nm) (l.drop i)+i=V)/\fr=[.slice z (l.map Em.aJ.aA) tok,.func 99 [.ptr id 0],gg 2,gg 3,gg 4,gg 5,.slice z (l.map Em.aJ.aA) tok,.int .i64 l.length,.int .i64 i,gg 9,gg 10,gg 11,gg 12,gg 13,gg 14,gg 15,gg 16,gg 17,gg 18]/\σ=τ++(l.take i).map uP) ?_ (l.length) (by refine⟨0,?_⟩;exact bG (⟨ye,hB,hV⟩))
 rintro m fr σ ⟨i,gg,hI,rfl,rfl⟩
 obtain⟨hm,hs,hv⟩:=hI
 by_cases hi:i<l.length
 .have q1:(i:Int)<(l.length:Int):=by omega
  have hz1:z=5:=hz.resolve_left (λh=>by rw[h]at hi;simp at hi);subst hz1;obtain⟨a,ha⟩:=gn (l[i]);have hc:l.drop i=a::l.drop (i+1):=yy;have htk:l.take (i+1)=l.take i++[a]:=Dc;obtain⟨hlt,_⟩:=yA.1 hid;obtain⟨ρ,hρ⟩:=gn (τ++(l.take i).map uP);have DO:ρ[id]?=some (.box (.agg [.str nm,.int .i64 c1,.int .i64 c2,.int .i64 c3,.bool c4])):=Dh;have hst:τ++(l.take (i+1)).map uP=ρ++[uP a]:=Ea;rw[hc]at hs hv;unfold dR at hs;unfold jL at hv;obtain⟨a0,a1,a2,a3,a4⟩:=a;have hE:zA fl [.agg [.str a0,.int .i64 a1,.int .i64 a2,.int .i64 a3,.bool a4],.ptr id 0] ρ=some (.bool (decide (a0=nm)),ρ++[.box (.agg [.str a0,.int .i64 a1,.int .i64 a2,.int .i64 a3,.bool a4])]):=by
   unfold zA;simp only[DO]
  have BO:τ++(l.take (i+1)).map uP=ρ++[.box (.agg [.str a0,.int .i64 a1,.int .i64 a2,.int .i64 a3,.bool a4])]:=hst;have E9:τ++List.take (i+1) (l.map uP)=ρ++[.box (.agg [.str a0,.int .i64 a1,.int .i64 a2,.int .i64 a3,.bool a4])]:=by rw[<-yCR];exact BO
  rw[hρ]
  by_cases hb:a0=nm
  .rw[yAJ (by simp[iE,hb])]at hs hv;exact ur
  .rw[yAI (by simp[iE,hb])]at hs hv;exact bh
 .exact uw
omit hU in
def BP:List PD->Option (List bR)
 | []=>some []
 |.agg [.str n,.int .i64 a,.int .i64 b,.int .i64 c,.bool t]::r=>match BP r with|some l=>some (⟨n,a,b,c,t⟩::l)|none=>none
 |_=>none
omit hU in
theorem VX:∀ {xs:Ey} {l:List bR},BP xs=some l->xs=l.map Em.aJ.aA
 | [],l,h=>by simp only[BP,yAb]at h;subst h;rfl
 |x::r,l,h=>by
  unfold BP at h;split at h
  .cases ‹_::_=_›
  .rename_i n a b c t r' e;simp only[yC]at e;obtain⟨rfl,rfl⟩:=e;split at h
   .rename_i l' hl;simp only[yAb]at h;subst h;rw[VX hl];rfl
   .cases h
  .cases h
omit hU in
@[simp] theorem aDs:∀l:List bR,BP (l.map Em.aJ.aA)=some l
  | []=>rfl
  |x::l=>by
   show BP (.agg [.str x.name,.int .i64 x.dS,.int .i64 x.dst,.int .i64 x.shift,.bool x.qD]::l.map Em.aJ.aA)=_
   simp only[BP,aDs l]
omit hU in
def sU(f:List UInt8->List bR->PD):Nat->List PD->List aB->Option (PD×List aB):=λ_ args σ=>match args with
 | [.slice z xs _,.func g [.ptr id 0]]=>match BP xs with
   |some l=>if g=99/\(l.length=0\/z=5)/\l.length<=1000000 then match σ[id]? with
     |some (.box (.agg [.str nm,.int .i64 _,.int .i64 _,.int .i64 _,.bool _]))=>some (f nm l,σ++(l.take (jL (iE nm) l)).map uP)
     |_=>none
    else none
   |none=>none
 |_=>none
omit hU in
theorem aDr{f:List UInt8->List bR->PD}{z:Nat}{l:List bR}{tok:Tok}{id:Nat}{σ:Ex}{nm:Ez}{c1 c2 c3:Int}{c4:Bool}(hz:l=[]\/z=5)(hl:l.length<=1000000)(hid:σ[id]?=some (.box (.agg [.str nm,.int .i64 c1,.int .i64 c2,.int .i64 c3,.bool c4])))(fl:Nat) :
  sU f fl [.slice z (l.map Em.aJ.aA) tok,.func 99 [.ptr id 0]] σ=some (f nm l,σ++(l.take (jL (iE nm) l)).map uP):=by
 unfold sU;simp only[aDs];rw[yAJ ⟨trivial,hz.imp (λh=>Ah) (λh=>h),hl⟩];simp only[hid]
theorem aKh(hE:aF prog E)(h0:E 129=none)(h1:E 99=some zA):aF prog (E.add 129 (sU λnm l=>.int .i64 (dR (iE nm) l 0))):=
 hE.add yf λfl args σ p σ' h=>by
  unfold sU at h;split at h
  .rename_i z xs tok g id;split at h
   .rename_i l hl;split at h
    .rename_i hc;obtain⟨rfl,hz,hlen⟩:=hc;split at h
     .rename_i nm c1 c2 c3 c4 hid;simp only[yAb,yAc]at h;obtain⟨rfl,rfl⟩:=h;rw[VX hl];exact aL.uO (aMN hU h0 h1 fl l nm c1 c2 c3 c4 id σ hid hlen z tok (hz.imp yAf λh=>h))
     .cases h
    .cases h
   .cases h
  .cases h
theorem aMO(h0:E 98=none)(h1:E 129=some (sU λnm l=>.int .i64 (dR (iE nm) l 0)))(fl:Nat)(l:List bR)(nm:List UInt8)(c1 c2 c3:Int)(c4:Bool)(id:Nat)(τ:List aB)(hid:τ[id]?=some (.box (.agg [.str nm,.int .i64 c1,.int .i64 c2,.int .i64 c3,.bool c4])))(hl:l.length<=1000000)(z:Nat)(tok:Tok)(hz:l=[]\/z=5) :
  aL prog E fl (.inl 98) [.slice z (l.map Em.aJ.aA) tok,.func 99 [.ptr id 0]] τ (λp1 σ1=>p1=.bool (l.any (iE nm))/\σ1=τ++(l.take (jL (iE nm) l)).map uP):=by
 have hE:=aDr (f:=λnm l=>.int .i64 (dR (iE nm) l 0)) hz hl hid (tok:=tok);obtain⟨ρ,hρ⟩:=gn (τ++(l.take (jL (iE nm) l)).map uP);rw[hρ]at hE;rw[hρ,<-OL _ l 0];refine aL.aN 9 h0 func98 (h:=?_);refine aC (A2 h1 hE) ?_;exact aj
theorem aKj(hE:aF prog E)(h0:E 98=none)(h1:E 129=some (sU λnm l=>.int .i64 (dR (iE nm) l 0))):aF prog (E.add 98 (sU λnm l=>.bool (l.any (iE nm)))):=
 hE.add yf λfl args σ p σ' h=>by
  unfold sU at h;split at h
  .rename_i z xs tok g id;split at h
   .rename_i l hl;split at h
    .rename_i hc;obtain⟨rfl,hz,hlen⟩:=hc;split at h
     .rename_i nm c1 c2 c3 c4 hid;simp only[yAb,yAc]at h;obtain⟨rfl,rfl⟩:=h;rw[VX hl];exact aL.uO (aMO hU h0 h1 fl l nm c1 c2 c3 c4 id σ hid hlen z tok (hz.imp yAf λh=>h))
     .cases h
    .cases h
   .cases h
  .cases h
end
section
abbrev DN:Em (List (Int×Int)):=Em.cH.list 2
def rW(k:Nat):List bR->List bR->Int
 |_,[]=>0
 |pre,c::r=>if dV c.name=false then 8 else if pre.any (iE c.name)=true then 9 else if c.dS<0\/(k:Int)<=c.dS\/c.dst<0\/(k:Int)<=c.dst then 10 else if c.shift < -127\/127<c.shift then 3 else if c.dS=c.dst/\c.shift=0 then 7 else rW k (pre++[c]) r
def zN(l:List (Int×Int)):Bool:=l.any λx=>!decide (lK x.1 x.2=0)
def zO(ks:List (Int×Int))(l:List bR):Int:=if 8<ks.length\/40<l.length then 4 else if zN ks=true then 23 else rW ks.length [] l
variable{E:aE}(hU:aH E)
include hU
theorem aKl(h0:E 64=none)(h1:E 96=some F1)(h2:E 60=some DC)(h3:E 98=some (sU λnm l=>.bool (l.any (iE nm))))(ks:List (Int×Int))(l:List bR)(hks:ks.length<=1000000)(hl:l.length<=1000000)(hn:∀x∈l,kU x.name) :
  aI prog E 64 [DN.aA ks,nO.aA l] (i64.aA (zO ks l)):=by
 unfold zO
 by_cases c1:8<ks.length
 .have c2:8<(ks.length:Int):=by omega
  rw[yAJ (.inl c1)];refine aI.aN 89 h0 func64 (h:=?_);refine aC (A2 c1 c2) ?_;exact aa
 have D8:¬8<(ks.length:Int):=ye
 by_cases c2:40<l.length
 .have c3:40<(l.length:Int):=by omega
  rw[yAJ (.inr c2)];refine aI.aN 89 h0 func64 (h:=?_);refine aC (A4 c1 D8 c2 c3) ?_;exact aa
 have VF:¬40<(l.length:Int):=ye;rw[yAI (λh=>h.elim c1 c2)];obtain⟨B,hB⟩:∃B,(if zN ks=true then(23:Int)else rW ks.length [] l)=B:=⟨_,rfl⟩;rw[hB];refine aI.aN 89 h0 func64 (h:=?_);refine aC (A4 c1 D8 c2 VF) ?_;obtain⟨C,hC⟩:=gn (rW ks.length [] l);rw[hC]at hB;refine Wp.cI (λm fr σ=>∃(i:Nat) (σ1:List aB),∃gg:Nat->PD,(i+m=ks.length/\(if zN (ks.drop i)=true then(23:Int)else C)=B)/\fr=DN.aA ks::nO.aA l::gg 2::gg 3::gg 4::gg 5::gg 6::gg 7::gg 8::gg 9::gg 10::gg 11::gg 12::gg 13::gg 14::gg 15::gg 16::DN.aA ks::.int .i64 ks.length::.int .i64 i::gg 20::gg 21::gg 22::gg 23::gg 24::gg 25::gg 26::gg 27::gg 28::gg 29::gg 30::gg 31::gg 32::gg 33::gg 34::gg 35::gg 36::gg 37::gg 38::gg 39::gg 40::gg 41::gg 42::gg 43::gg 44::gg 45::gg 46::gg 47::gg 48::gg 49::gg 50::gg 51::gg 52::gg 53::gg 54::gg 55::gg 56::gg 57::gg 58::gg 59::gg 60::gg 61::gg 62::gg 63::gg 64::gg 65::gg 66::gg 67::gg 68::gg 69::gg 70::gg 71::gg 72::gg 73::gg 74::gg 75::gg 76::gg 77::gg 78::gg 79::gg 80::gg 81::gg 82::gg 83::gg 84::gg 85::gg 86::gg 87::gg 88::[]/\σ=σ1) ?_ (ks.length) (by refine⟨0,[],?_⟩;exact bG (⟨ye,hB⟩))
 rintro m fr σ ⟨i,σ1,gg,hI,rfl,rfl⟩
 obtain⟨hm,hs⟩:=hI
 by_cases hi:i<ks.length
 .have q1:(i:Int)<(ks.length:Int):=by omega
  obtain⟨a,ha⟩:=gn (ks[i]);have hc:ks.drop i=a::ks.drop (i+1):=yy;rw[hc]at hs;obtain⟨a0,a1⟩:=a;have hE:=VU a0 a1;have j0:∀x:aB,(σ++[x])[σ.length]?=some x:=λx=>yg
  have hcb:zN ((a0,a1)::ks.drop (i+1))=(!decide (lK a0 a1=0)||zN (ks.drop (i+1))):=rfl;rw[hcb]at hs;obtain⟨e,he⟩:=gn (lK a0 a1);rw[he]at hE hs
  by_cases c3:e=0
  .subst c3;simp only[decide_true,yBR,yCf]at hs;refine aC (A6 q1 hi ha j0 h1 hE) ?_;refine bC.normal (m-1) ye (by refine⟨i+1,σ++[.box (.agg [.int .i64 a0,.int .i64 a1])],?_⟩;exact bG (⟨ye,hs⟩))
  .simp only[c3,decide_false,yCn,yDl,yAK]at hs;subst hs;refine aC (A7 q1 hi ha j0 h1 hE c3) ?_;exact aa
 have q1:¬(i:Int)<(ks.length:Int):=ye;rw[yAs ye]at hs;have hs2:C=B:=hs;rw[hs2]at hC;clear hs hs2 hB;refine aC q1 ?_;refine Wp.cI (λm fr σ=>∃(i:Nat) (σ1:List aB),∃gg:Nat->PD,(i+m=l.length/\rW ks.length (l.take i) (l.drop i)=B)/\fr=DN.aA ks::nO.aA l::gg 2::gg 3::gg 4::gg 5::gg 6::gg 7::gg 8::gg 9::gg 10::gg 11::gg 12::gg 13::gg 14::gg 15::gg 16::gg 17::gg 18::gg 19::gg 20::gg 21::gg 22::gg 23::gg 24::gg 25::gg 26::nO.aA l::.int .i64 l.length::.int .i64 i::gg 30::gg 31::gg 32::gg 33::gg 34::gg 35::gg 36::gg 37::gg 38::gg 39::gg 40::gg 41::gg 42::gg 43::gg 44::gg 45::gg 46::gg 47::gg 48::gg 49::gg 50::gg 51::gg 52::gg 53::gg 54::gg 55::gg 56::gg 57::gg 58::gg 59::gg 60::gg 61::gg 62::gg 63::gg 64::gg 65::gg 66::gg 67::gg 68::gg 69::gg 70::gg 71::gg 72::gg 73::gg 74::gg 75::gg 76::gg 77::gg 78::gg 79::gg 80::gg 81::gg 82::gg 83::gg 84::gg 85::gg 86::gg 87::gg 88::[]/\σ=σ1) ?_ (l.length) (by refine⟨0,σ,?_⟩;exact bG (⟨ye,hC⟩))
 rintro m fr σ ⟨i,σ1,gg,hI,rfl,rfl⟩
 obtain⟨hm,hs⟩:=hI
 by_cases hi:i<l.length
 .have q1:(i:Int)<(l.length:Int):=by omega
  obtain⟨a,ha⟩:=gn (l[i]);have hc:l.drop i=a::l.drop (i+1):=yy;have htk:l.take (i+1)=l.take i++[a]:=Dc;have hna:=GF (hn a (ha▸yAm hi));rw[hc]at hs;unfold rW at hs;obtain⟨a0,a1,a2,a3,a4⟩:=a;simp only at hs hna;have j0:∀x:aB,(σ++[x])[σ.length]?=some x:=λx=>yg
  have hle:i<=l.length:=ye;cases c3:dV a0 with
  |false=>
   rw[c3]at hna hs;rw[yAJ rfl]at hs;subst hs;refine aC (A6 q1 hi ha j0 h2 hna) ?_;exact aa
  |true=>
  rw[c3]at hna hs;rw[yAI yg]at hs;obtain⟨X,hX⟩:=gn (aB.box (.agg [.str a0,.int .i64 a1,.int .i64 a2,.int .i64 a3,.bool a4]));have hid:(σ++[X])[σ.length]?=some (.box (.agg [.str a0,.int .i64 a1,.int .i64 a2,.int .i64 a3,.bool a4])):=by rw[hX];exact j0 X
  have aML:(l.take i=[]\/sz 5 l=5):=.inr (by simp[sz];intro h;rw[h]at hi;simp at hi);have hE:=aDr (f:=λnm l=>.bool (l.any (iE nm))) (z:=sz 5 l) (tok:=.any) aML Ai hid;obtain⟨jX,dX⟩:=gn (σ++[X]++((l.take i).take (jL (iE a0) (l.take i))).map uP);have tB:jX[σ.length]?=some (.box (.agg [.str a0,.int .i64 a1,.int .i64 a2,.int .i64 a3,.bool a4])):=by
   rw[<-dX,yAg yg,j0 X,hX]
  rw[dX]at hE;obtain⟨hlt2,hxe⟩:=yA.1 tB;rw[<-hX,yCR]at hE;obtain⟨b,hb⟩:=gn ((l.take i).any (iE a0));rw[hb]at hE hs;clear dX hX hid;cases b with
  |true=>
   rw[yAJ rfl]at hs;subst hs;refine aC (A12 q1 hi ha j0 h2 hna @hle h3 hE tB hlt2 hxe) ?_;exact aa
  |false=>
  rw[yAI yg]at hs
  by_cases c4:a1<0
  .rw[yAJ (.inl c4)]at hs;subst hs;refine aC (A13 q1 hi ha j0 h2 hna @hle h3 hE tB hlt2 hxe c4) ?_;exact aa
  by_cases c5:(ks.length:Int)<=a1
  .rw[yAJ (.inr (.inl c5))]at hs;subst hs;refine aC (A14 q1 hi ha j0 h2 hna @hle h3 hE tB hlt2 hxe c4 c5) ?_;exact aa
  by_cases c6:a2<0
  .rw[yAJ (.inr (.inr (.inl c6)))]at hs;subst hs;refine aC (A15 q1 hi ha j0 h2 hna @hle h3 hE tB hlt2 hxe c4 c5 c6) ?_;exact aa
  by_cases c7:(ks.length:Int)<=a2
  .rw[yAJ (.inr (.inr (.inr c7)))]at hs;subst hs;refine aC (A16 q1 hi ha j0 h2 hna @hle h3 hE tB hlt2 hxe c4 c5 c6 c7) ?_;exact aa
  rw[yAI (λh=>h.elim c4 λh=>h.elim c5 λh=>h.elim c6 c7)]at hs
  by_cases c8:a3 < -127
  .rw[yAJ (.inl c8)]at hs;subst hs;refine aC (A17 q1 hi ha j0 h2 hna @hle h3 hE tB hlt2 hxe c4 c5 c6 c7 c8) ?_;exact aa
  by_cases c9:127<a3
  .rw[yAJ (.inr c9)]at hs;subst hs;refine aC (A18 q1 hi ha j0 h2 hna @hle h3 hE tB hlt2 hxe c4 c5 c6 c7 c8 c9) ?_;exact aa
  rw[yAI (λh=>h.elim c8 c9)]at hs;have hst:rW ks.length (l.take (i+1)) (l.drop (i+1))=rW ks.length (l.take i++[⟨a0,a1,a2,a3,a4⟩]) (l.drop (i+1)):=by rw[htk]
  by_cases tD:a1=a2
  .by_cases xK:a3=0
   .rw[yAJ ⟨tD,xK⟩]at hs;subst hs;subst tD;subst xK;refine aC (A16 q1 hi ha j0 h2 hna @hle h3 hE tB hlt2 hxe c4 c5 c8 c9) ?_;exact aa
   .rw[yAI (λh=>xK h.2)]at hs;subst tD;refine aC (A17 q1 hi ha j0 h2 hna @hle h3 hE tB hlt2 hxe c4 c5 c8 c9 xK) ?_;exact mg
  .rw[yAI (λh=>tD h.1)]at hs;refine aC (A19 q1 hi ha j0 h2 hna @hle h3 hE tB hlt2 hxe c4 c5 c6 c7 c8 c9 tD) ?_;exact mg
 .have q1:¬(i:Int)<(l.length:Int):=by omega
  rw[yAs ye]at hs;have bQ:B=0:=hs.symm;exact uu
end
section
def xJ(ns:List (List UInt8)):List (PD×PD):=ns.map λn=>(.str n,.bool true)
def iV(ns:List (List UInt8)):aB:=.map (xJ ns)
def jW(ns:List (List UInt8))(nm:List UInt8):Bool:=ns.any λn=>nm==n
theorem aDn(nm:List UInt8):∀(ns:List (List UInt8)) (i:Nat),jW ns nm=true->∃j,vA (.str nm) (xJ ns) i=some (some (j,.bool true))
 | [],_,h=>yw
 |n::ns,i,h=>by
  cases e:nm==n with
  |true=>exact⟨i,by simp only[xJ,yAR,vA,C1,e]⟩
  |false=>
   have h2:jW ns nm=true:=by simpa [jW,yDR,e]using h
   obtain⟨j,hj⟩:=aDn nm ns (i+1) h2;exact⟨j,by simp only[xJ,yAR,vA,C1,e];exact hj⟩
theorem VV(nm:List UInt8):∀(ns:List (List UInt8)) (i:Nat),jW ns nm=false->vA (.str nm) (xJ ns) i=some none
 | [],_,_=>rfl
 |n::ns,i,h=>by
  simp only[jW,yDR,yDX]at h;simp only[xJ,yAR,vA,C1,h.1];exact VV nm ns (i+1) h.2
theorem OI:(prog).underlying 138=some (.map 9 4):=yf
theorem aDo(nm:List UInt8):FD prog 9 (.str nm)=true:=by
 have h:(prog).underlying 9=some .string:=yf;unfold FD;rw[h]
theorem aMH:eE prog 4=some (.bool false):=by rfl
theorem aDp{σ:Ex}{id:Nat}{ns:List (List UInt8)}(h:σ[id]?=some (iV ns))(nm:List UInt8):FE prog σ 138 (.eO id) (.str nm) false=some (.bool (jW ns nm)):=by
 unfold FE;simp only[OI,aDo,yAK,h,iV];cases e:jW ns nm with
 |true=>
  obtain⟨j,hj⟩:=aDn nm ns 0 e;simp only[hj];rfl
 |false=>
  simp only[VV nm ns 0 e,aMH];rfl
theorem aMI{σ:Ex}{id fl:Nat}{ns:List (List UInt8)}(h:σ[id]?=some (iV ns))(hf:fl<=id)(nm:List UInt8)(hn:jW ns nm=false):FF prog fl σ 138 (.eO id) (.str nm) (.bool true)=some (σ.set id (iV (ns++[nm]))):=by
 unfold FF;simp only[OI,aDo,yAK,h,iV,hf,VV nm ns 0 hn];simp[xJ]
variable{E:aE}(hU:aH E)
include hU
theorem aMJ(h0:E 62=none)(fl id:Nat)(ns:List (List UInt8))(nm:List UInt8)(τ:List aB)(h:τ[id]?=some (iV ns))(hn:jW ns nm=true) :
  aL prog E fl (.inl 62) [.eO id,.str nm] τ (λp1 σ1=>p1=.int .i64 9/\σ1=τ):=by
 have hl:=aDp h nm;rw[hn]at hl;refine aL.aN 10 h0 func62 (h:=?_);refine lL hl ?_;exact aj
theorem aMK(h0:E 62=none)(fl id:Nat)(ns:List (List UInt8))(nm:List UInt8)(τ:List aB)(h:τ[id]?=some (iV ns))(hf:fl<=id)(hn:jW ns nm=false) :
  aL prog E fl (.inl 62) [.eO id,.str nm] τ (λp1 σ1=>p1=.int .i64 0/\σ1=τ.set id (iV (ns++[nm]))):=by
 have hl:=aDp h nm;rw[hn]at hl;have hp:=aMI h hf nm hn;refine aL.aN 10 h0 func62 (h:=?_);refine lL (A2 hl hp) ?_;exact aj
omit hU in
def BN:List (PD×PD)->Option (List (List UInt8))
 | []=>some []
 |(.str n,.bool true)::r=>match BN r with|some l=>some (n::l)|none=>none
 |_=>none
omit hU in
theorem aDq:∀ {es:List (PD×PD)} {l:List (List UInt8)},BN es=some l->es=xJ l
 | [],l,h=>by simp only[BN,yAb]at h;subst h;rfl
 |x::r,l,h=>by
  unfold BN at h;split at h
  .cases ‹_::_=_›
  .rename_i n r' e;simp only[yC]at e;obtain⟨rfl,rfl⟩:=e;split at h
   .rename_i l' hl;simp only[yAb]at h;subst h;rw[aDq hl];rfl
   .cases h
  .cases h
omit hU in
@[simp] theorem VW:∀l:List (List UInt8),BN (xJ l)=some l
  | []=>rfl
  |n::l=>by
   show BN ((.str n,.bool true)::xJ l)=_
   simp only[BN,VW l]
omit hU in
def vI:Nat->List PD->List aB->Option (PD×List aB):=λfl args σ=>match args with
 | [.eO id,.str nm]=>match σ[id]? with
   |some (.map es)=>match BN es with
    |some ns=>if jW ns nm=true then some (.int .i64 9,σ)else if fl<=id then some (.int .i64 0,σ.set id (iV (ns++[nm])))else none
    |none=>none
   |_=>none
 |_=>none
omit hU in
theorem VP{fl id:Nat}{ns:List (List UInt8)}{nm:Ez}{σ:Ex}(h:σ[id]?=some (iV ns))(hn:jW ns nm=true):vI fl [.eO id,.str nm] σ=some (.int .i64 9,σ):=by
 unfold vI;simp only[h,iV,VW,hn,yAK]
omit hU in
theorem VQ{fl id:Nat}{ns:List (List UInt8)}{nm:Ez}{σ:Ex}(h:σ[id]?=some (iV ns))(hn:jW ns nm=false)(hf:fl<=id):vI fl [.eO id,.str nm] σ=some (.int .i64 0,σ.set id (iV (ns++[nm]))):=by
 unfold vI;simp only[h,iV,VW,hn,hf,yAK];rfl
theorem aKn(hE:aF prog E)(h0:E 62=none):aF prog (E.add 62 vI):=
 hE.add yf λfl args σ p σ' h=>by
  unfold vI at h;split at h
  .rename_i id nm;split at h
   .rename_i es hes;split at h
    .rename_i ns hns;have hm:σ[id]?=some (iV ns):=by rw[hes,aDq hns];rfl
     split at h
     .rename_i hs;simp only[yAb,yAc]at h;obtain⟨rfl,rfl⟩:=h;exact aL.uO (aMJ hU h0 fl id ns nm σ hm hs)
     .rename_i hs;split at h
      .rename_i hf;simp only[yAb,yAc]at h;obtain⟨rfl,rfl⟩:=h;exact aL.uO (aMK hU h0 fl id ns nm σ hm hf (by simpa using hs))
      .cases h
    .cases h
   .cases h
  .cases h
end
section
def xI(rs:List bB)(lo hg:Int):List (List UInt8)->List bU->Int
 |_,[]=>0
 |ns,s::r=>if qW rs lo hg s≠0 then qW rs lo hg s else if jW ns s.name=true then 9 else xI rs lo hg (ns++[s.name]) r
def nJ(rs:List bB)(d:bD):Int:=if lK d.low d.high≠0 then lK d.low d.high else if 60<d.stops.length then 4 else xI rs d.low d.high [] d.stops
def DM(s:bU):Prop:=mA s/\kU s.name
def NU:Nat->List PD->List aB->Option (PD×List aB):=entry (eD Em.place Em.stop i64 λx s=>dY (zP x.1/\DM s) (some (qW x.1 x.2.1 x.2.2 s)))
theorem aMG{rs:List bB}{s:bU}(h:zP rs)(hs:DM s)(lo hg:Int)(fl:Nat)(σ:List aB):NU fl [.agg [aK.aA rs,.int .i64 lo,.int .i64 hg],Em.stop.aA s] σ=some (.int .i64 (qW rs lo hg s),σ):=by
 have e1:=Em.cO (Em.place.str (rs,lo,hg));rw[VT]at e1;have e2:=Em.cO (Em.stop.str s);unfold NU entry eD;simp only[e1,e2];rw[gO ⟨h,hs⟩];rfl
variable{E:aE}(hU:aH E)
include hU
theorem aKp(h0:E 63=none)(h1:E 96=some F1)(h2:E 97=some NU)(h3:E 62=some vI)(o:aM)(hrs:zP o.aK)(d:bD)(hd:d.stops.length<=1000000/\∀s∈d.stops,DM s) :
  aI prog E 63 [Em.bH.aA o,Em.div.aA d] (i64.aA (nJ o.aK d)):=by
 obtain⟨on,rs,od,oc⟩:=o;obtain⟨dn,dp,lo,hg,l⟩:=d;have hC:=VU lo hg;obtain⟨hdl,hds⟩:=hd;simp only at hrs hdl hds;unfold nJ;simp only[iA,nN,aV];obtain⟨c,hc⟩:=gn (lK lo hg);rw[hc]at hC ⊢
 by_cases c1:c=0
 rotate_left
 .rw[yAJ c1];refine aI.aN 47 h0 func63 (h:=?_);refine lL (A3 h1 hC c1) ?_;exact aa
 subst c1;simp only[ne_eq,yBL,yAN]
 by_cases c2:60<l.length
 .have c3:60<(l.length:Int):=by omega
  rw[yAJ c2];refine aI.aN 47 h0 func63 (h:=?_);refine lL (A4 h1 hC c2 c3) ?_;exact aa
 have c3:¬60<(l.length:Int):=ye;rw[yAI c2];obtain⟨B,hB⟩:=gn (xI rs lo hg [] l);rw[hB];have us:=OI;refine aI.aN 47 h0 func63 (h:=?_);refine lL (A5 h1 hC c2 c3 @us) ?_;obtain⟨X,hX⟩:=gn (aB.box (.agg [.str on,.slice (sz 6 rs) (rs.map Em.aG.aA) .any,.slice (sz 5 od) (od.map Em.div.aA) .any,.slice (sz 5 oc) (oc.map Em.aJ.aA) .any]));obtain⟨Y,hY⟩:=gn (aB.box (.agg [.str dn,.bool dp,.int .i64 lo,.int .i64 hg,.slice (sz 4 l) (l.map Em.stop.aA) .any]));refine Wp.cI (λm fr σ=>∃(i:Nat) (σ1:List aB),∃gg:Nat->PD,(i+m=l.length/\σ1[0]?=some X/\σ1[1]?=some Y/\σ1[2]?=some (iV ((l.take i).map bU.name))/\xI rs lo hg ((l.take i).map bU.name) (l.drop i)=B)/\fr=[gg 0,gg 1,.ptr 0 0,.ptr 1 0,gg 4,gg 5,.eO 2,gg 7,gg 8,gg 9,gg 10,gg 11,gg 12,gg 13,gg 14,gg 15,gg 16,gg 17,gg 18,gg 19,gg 20,gg 21,gg 22,l8.aA l,.int .i64 l.length,.int .i64 i,gg 26,gg 27,gg 28,gg 29,gg 30,gg 31,gg 32,gg 33,gg 34,gg 35,gg 36,gg 37,gg 38,gg 39,gg 40,gg 41,gg 42,gg 43,gg 44,gg 45,gg 46]/\σ=σ1) ?_ (l.length) (by refine⟨0,[X,Y,.map []],?_⟩;exact dU (⟨ye,rfl,rfl,rfl,hB⟩) (A2 hX hY))
 rintro m fr σ ⟨i,σ1,gg,hI,rfl,rfl⟩
 obtain⟨hm,hx0,hy0,J0,hs⟩:=hI
 by_cases hi:i<l.length
 .have q1:(i:Int)<(l.length:Int):=by omega
  obtain⟨a,ha⟩:=gn (l[i]);have J1:l.drop i=a::l.drop (i+1):=yy;have htk:(l.take (i+1)).map bU.name=(l.take i).map bU.name++[a.name]:=by rw[yBG hi,ha,yAH];rfl
  have hE:=aMG hrs (hds a (ha▸yAm hi)) lo hg;rw[J1]at hs;unfold xI at hs;have hx1:=hx0;have hy1:=hy0;rw[<-hX]at hx1;rw[<-hY]at hy1;obtain⟨fI,hxe⟩:=yA.1 hx1;obtain⟨j7,hye⟩:=yA.1 hy1;obtain⟨hlt2,hze⟩:=yA.1 J0;obtain⟨a0,a1,a2,a3⟩:=a;have j0:∀x:aB,(σ++[x])[σ.length]?=some x:=λx=>yg
  obtain⟨e,he⟩:=gn (qW rs lo hg ⟨a0,a1,a2,a3⟩);rw[he]at hE hs;simp only[qE,aV]at hE;simp only at hs htk
  by_cases c4:e=0
  rotate_left
  .rw[yAJ c4]at hs;subst hs;refine lL (A13 q1 hi ha j0 hx1 hy1 fI j7 hxe hye h2 hE c4) ?_;exact aa
  subst c4;simp only[ne_eq,yBL,yAN]at hs;obtain⟨Z,hZ⟩:=gn (aB.box (.agg [.str a0,.int .i64 a1,.int .i64 a2,.slice (sz 3 a3) (a3.map Em.eU.aA) .any]));have hmz:(σ++[Z])[2]?=some (iV ((l.take i).map bU.name)):=by rw[yAg hlt2];exact J0
  cases hb:jW ((l.take i).map bU.name) a0 with
  |true=>
   rw[hb]at hs;rw[yAJ rfl]at hs;subst hs;have hA:=λfl=>VP (fl:=fl) hmz hb
   rw[<-hZ]at hA;refine lL xz ?_;exact aa
  |false=>
   rw[hb]at hs;rw[yAI yg]at hs;have hA:=VQ (fl:=0) hmz hb (yAF _);obtain⟨jX,dX⟩:=gn ((σ++[Z]).set 2 (iV ((l.take i).map bU.name++[a0])));have t0:jX[0]?=some X:=by rw[<-dX,yAd ye,yAg fI];exact hx0
   have t1:jX[1]?=some Y:=by rw[<-dX,yAd ye,yAg j7];exact hy0
   have t2:jX[2]?=some (iV ((l.take i).map bU.name++[a0])):=by rw[<-dX];exact yAj zf
   rw[dX]at hA;rw[<-hZ]at hA;clear dX;refine lL xz ?_;refine bC.normal (m-1) ye (by refine⟨i+1,jX,?_⟩;exact bG (⟨ye,t0,t1,by rw[htk];exact t2,by rw[htk];exact hs⟩))
 .have q1:¬(i:Int)<(l.length:Int):=by omega
  rw[yAs ye]at hs;have bQ:B=0:=hs.symm;refine lL q1 ?_;exact ag
end
section
theorem aMk(n:Int)(h:gF n):nP prog 96 (.slice 1 [.str [79,112,101,110],.str [70,108,117,116,101],.str [82,101,101,100]] .full) (.int .u8 (n.tmod 3))=some (.eB [.str (zM n)] 0):=by
 obtain⟨k,rfl⟩:∃k:Nat,n=k:=⟨n.toNat,by have:=h.1;omega⟩;have hm:(k:Int).tmod 3=((k%3:Nat):Int):=rfl;have hs:zM k=DJ.getD (k%3) []:=by
  unfold zM
  congr 1
 rw[hm,hs];have hlt:k%3<3:=yBw _ yj
 generalize k%3=j at hlt
 match j,hlt with
 |0,_=>exact rfl
 |1,_=>exact rfl
 |2,_=>exact rfl
theorem aMl(x:lZ)(k:Nat)(hk:k<=1000)(id off:Nat):nP prog 101 (.ptr id off) (.int .i64 ((k:Int).tmod 5))=some (.ptr id (off+k%5)) /\
  [PD.int .u8 x.jQ,.int .u8 x.cH,.int .i8 x.first,.int .u8 x.x6,.int .u8 x.w0,.int .u8 x.w1,.int .u8 x.w2,.int .u8 x.w3,.int .u8 x.w4][4+k%5]?=some (.int .u8 (vM x k)):=by
 have hm:(k:Int).tmod 5=((k%5:Nat):Int):=rfl;have hs:vM x k=[x.w0,x.w1,x.w2,x.w3,x.w4].getD (k%5) 0:=rfl;rw[hm,hs];have hlt:k%5<5:=yBw _ yj
 generalize k%5=j at hlt
 match j,hlt with
 |0,_=>exact⟨rfl,rfl⟩
 |1,_=>exact⟨rfl,rfl⟩
 |2,_=>exact⟨rfl,rfl⟩
 |3,_=>exact⟨rfl,rfl⟩
 |4,_=>exact⟨rfl,rfl⟩
variable{E:aE}(hU:aH E)
include hU
theorem aKY(h0:E 30=none)(h1:E 67=some (entry (bZ iO Em.cH λn=>dY (gF n) (some (nU n)))))(x:lZ)(hx:AA x)(i:Nat)(hi:i<10) :
  aI prog E 30 [Em.tM.aA x,.int .i64 i] (Em.aG.aA (rS x i)):=by
 have hw:=aMl x;have hwl:∀k,(vN x k).length=k:=λk=>by simp[vN]
 have hws:∀k,vN x (k+1)=vN x k++[vM x k]:=λk=>by simp[vN,yDh]
 have hwb:∀k,0<=vM x k/\vM x k<=255:=λk=>by
  have hlt:k%5<5:=yBw _ yj;exact fk
 obtain⟨W,hW⟩:=gn (vN x);obtain⟨wa,hwa⟩:=gn (vM x);obtain⟨dg,hdg⟩:=gn (UInt8.ofNat (48+(i:Int)).toNat);have hR:rS x i=⟨[82,dg],zM x.jQ,(nU x.cH).1,(nU x.cH).2,x.first,W (1+(x.x6%25).toNat)⟩:=by
  rw[<-hW];unfold rS digit;rw[Nat.mod_eq_of_lt hi,<-hdg,show(48+(i:Int)).toNat=48+i by omega]
 rw[hR];rw[hwa]at hw hws hwb;rw[hW]at hws hwl;clear hR hW hwa;obtain⟨t,f,fi,pi,w0,w1,w2,w3,w4⟩:=x;obtain⟨ht,hf,hfi,hpi,g0,g1,g2,g3,g4⟩:=hx;simp only at hw ht hf hfi hpi;obtain⟨p,rfl⟩:∃p:Nat,pi=p:=⟨pi.toNat,by have:=hpi.1;omega⟩;have aTU:p%25<25:=yBw _ yj;obtain⟨N,hN⟩:=gn (p%25);have e1:((p:Int)).tmod 25=(N:Int):=by rw[<-hN];rfl
 have e2:IntKind.i64.wrap (N:Int)=(N:Int):=ym;have e3:IntKind.i64.wrap (1+(N:Int))=1+(N:Int):=ym;have e4:((p:Int)%25).toNat=N:=ye;simp only[YP,oD,aV,e4];have hT:=aMk t ht;have d1:((i:Int)).tmod 10=(i:Int):=Int.tmod_eq_of_lt ye ye;have d2:IntKind.i64.wrap (48+(i:Int))=48+(i:Int):=ym;have d3:IntKind.u8.wrap (48+(i:Int))=48+(i:Int):=yq;have d4:IntKind.i64.wrap fi=fi:=by have:=hfi.1;have:=hfi.2;rw[yAP];omega
 have hF:∀fl σ,entry (bZ iO Em.cH λn=>dY (gF n) (some (nU n))) fl [.int .u8 f] σ=some (.agg [.int .i64 (nU f).1,.int .i64 (nU f).2],σ):=λfl σ=>by
  exact ob
 refine aI.aN 48 h0 func30 (h:=?_);refine aC (A8 h1 hT @d1 @d2 @d3 @d4 hdg hF) ?_;have DK:W 0=[]:=yAf (hwl 0);refine Wp.cI (λm fr σ=>∃(k z:Nat),∃gg:Nat->PD,(k+m=1+N/\(W k=[]\/z=1))/\fr=[gg 0,gg 1,.ptr 0 0,gg 3,.ptr 1 0,.ptr 2 0,.int .i64 k,gg 7,gg 8,gg 9,gg 10,gg 11,gg 12,gg 13,gg 14,gg 15,gg 16,gg 17,gg 18,gg 19,gg 20,gg 21,gg 22,gg 23,gg 24,gg 25,gg 26,gg 27,gg 28,gg 29,gg 30,gg 31,gg 32,gg 33,gg 34,gg 35,gg 36,gg 37,gg 38,gg 39,gg 40,gg 41,gg 42,gg 43,gg 44,gg 45,gg 46,gg 47]/\σ=St [.box (.agg [.int .u8 t,.int .u8 f,.int .i8 fi,.int .u8 p,.int .u8 w0,.int .u8 w1,.int .u8 w2,.int .u8 w3,.int .u8 w4]),.box (.agg [.str [],.str [],.int .i64 0,.int .i64 0,.int .i64 0,.slice 0 [] .full]),.box (.agg [.str [82,dg],.str (zM t),.int .i64 (nU f).1,.int .i64 (nU f).2,.int .i64 fi,.slice z ((W k).map i64.aA) (iQ 3 (W k).length)])] 3 1 (W k).length) ?_ (1+N) (by refine⟨0,0,?_⟩;exact jZ (⟨ye,.inl DK⟩) Bq Bq)
 rintro m fr σ ⟨k,z,gg,hI,rfl,rfl⟩
 obtain⟨hm,hz⟩:=hI
 by_cases hk:k<1+N
 .have q1:(k:Int)<1+(N:Int):=by omega
  obtain⟨hw1,oX⟩:=hw k ye 0 4;obtain⟨aTV,IZ⟩:=yA.1 oX;have hb1:IntKind.i64.wrap (wa k)=wa k:=by have:=hwb k;rw[yAP];omega
  have hl:=hwl k;refine aC (A10 e1 e2 e3 q1 hw1 oX IZ hb1 @hz hl) ?_;refine bC.normal (m-1) ye (by refine⟨k+1,1,?_⟩;exact dU (⟨ye,.inr rfl⟩) (A2 hws hl))
 .have q1:¬(k:Int)<1+(N:Int):=by omega
  obtain rfl:k=1+N:=ye;refine aC (A4 e1 e2 e3 q1) ?_;have hne:W (1+N)≠[]:=λh=>by have:=hwl (1+N);rw[h]at this;simp at this;omega
  have hz1:z=1:=hz.resolve_left hne;subst hz1;simp(disch:=first|omega|(simp;done)|(simp;omega)) [yAu,hwl,rE hne]<;>try rfl
end
section
theorem VC(n:Int)(h:gF n):lV n∈BL:=by
 obtain⟨k,rfl⟩:∃k:Nat,n=k:=⟨n.toNat,by have:=h.1;omega⟩;have hs:lV k=BL.getD (k%6) (8,1):=by
  unfold lV
  congr 1
 rw[hs];have hlt:k%6<6:=yBw _ yj
 generalize k%6=j at hlt
 match j,hlt with
 |0,_=>decide
 |1,_=>decide
 |2,_=>decide
 |3,_=>decide
 |4,_=>decide
 |5,_=>decide
theorem aMe(n:Int)(h:gF n):nU n∈pT:=by
 obtain⟨k,rfl⟩:∃k:Nat,n=k:=⟨n.toNat,by have:=h.1;omega⟩;have hs:nU k=pT.getD (k%16) (8,1):=by
  unfold nU
  congr 1
 rw[hs];have hlt:k%16<pT.length:=yBw _ yj;rw[yAA,yAh hlt];exact yAm hlt
theorem VD(a b:Int×Int):-60<=uN a b/\uN a b<=64:=by
 unfold uN;cases h:VE.find? λt=>decide (t.1=a)&&decide (t.2.1=b)with
 |none=>exact⟨yj,yj⟩
 |some t=>
  have hm:=List.mem_of_find?_eq_some h;exact(by decide:∀t∈VE,-60<=t.2.2/\t.2.2<=64) t hm
def DD:Nat->List PD->List aB->Option (PD×List aB):=entry (eD Em.cH Em.cH (Em.rJ i64 i64) λa b=>dY (a∈BL/\b∈pT) (some (uN a b,0)))
theorem aC4{a b:Int×Int}(ha:a∈BL)(hb:b∈pT)(fl:Nat)(σ:List aB):DD fl [.agg [.int .i64 a.1,.int .i64 a.2],.agg [.int .i64 b.1,.int .i64 b.2]] σ=some (.aP [.int .i64 (uN a b),.int .i64 0],σ):=by
 have e1:Em.cH.dec (.agg [.int .i64 a.1,.int .i64 a.2])=some a:=Em.cO (Em.cH.str a);have e2:Em.cH.dec (.agg [.int .i64 b.1,.int .i64 b.2])=some b:=Em.cO (Em.cH.str b);unfold DD entry eD;simp only[e1,e2];rw[gO ⟨ha,hb⟩];rfl
variable{E:aE}(hU:aH E)
include hU
theorem aMi(h0:E 31=none)(h1:E 68=some (entry (bZ iO Em.cH λn=>dY (gF n) (some (lV n)))))(h2:E 69=some DD)
  (rs:List bB) (hrs:∀r∈rs,(r.num,r.den)∈pT) (lP:1<=rs.length) (gT:rs.length<=60) (lo hg:Int) (hlo:0<=lo) (hlh:lo<=hg) (hhg:hg<=200) (x:oK) (hx:CB x) (i:Nat) (aTT:i<10) :
  aI prog E 31 [aK.aA rs,.agg [.int .i64 lo,.int .i64 hg],Em.pull.aA x,.int .i64 i] (Em.stop.aA (s8 rs lo hg x i)):=by
 obtain⟨r,f,k,a⟩:=x;obtain⟨hr,hf,hk,ha⟩:=hx;simp only at hr hf hk ha;obtain⟨r,rfl⟩:∃q:Nat,r=q:=⟨r.toNat,by have:=hr.1;omega⟩;obtain⟨k,rfl⟩:∃q:Nat,k=q:=⟨k.toNat,by have:=hk.1;omega⟩;obtain⟨a,rfl⟩:∃q:Nat,a=q:=⟨a.toNat,by have:=ha.1;omega⟩;have hrb:=hr.2;have hab:=ha.2;obtain⟨n,hn⟩:=gn (r%rs.length);have hnl:n<rs.length:=by rw[<-hn];exact yBw _ lP
 obtain⟨m,hm⟩:=gn ((n+1)%rs.length);have hml:m<rs.length:=by rw[<-hm];exact yBw _ lP
 have c1:(r:Int).tmod (rs.length:Int)=n:=by rw[<-hn];rfl
 have D8:(r:Int)%(rs.length:Int)=n:=by rw[<-hn];rfl
 have c2:((n:Int)+1).tmod (rs.length:Int)=m:=by rw[<-hm];rfl
 have VF:((n:Int)+1)%(rs.length:Int)=m:=by rw[<-hm];rfl
 obtain⟨j,hj⟩:=gn (k%6);have hj6:j<6:=by rw[<-hj];exact yBw _ yj
 have c3:(k:Int).tmod 6=(j:Int):=by rw[<-hj];rfl
 have c3':(k:Int)%6=(j:Int):=by rw[<-hj];rfl
 obtain⟨w,hw⟩:∃w:Nat,hg-lo+1=w:=⟨(hg-lo+1).toNat,ye⟩;obtain⟨u,hu⟩:=gn (a%w);have huw:u<w:=by rw[<-hu];exact yBw _ ye
 have c4:(a:Int).tmod (w:Int)=u:=by rw[<-hu];rfl
 have rV:(a:Int)%(w:Int)=u:=by rw[<-hu];rfl
 obtain⟨q,hq⟩:=gn (rs[n]);obtain⟨p,hp⟩:=gn (rs[m]);have hqf:=hrs q (hq▸yAm hnl);have hpf:=hrs p (hp▸yAm hml);have hF1:BM rs n=(q.num,q.den):=by unfold BM;rw[yAA,yAh hnl,hq];rfl
 have hF2:BM rs m=(p.num,p.den):=by unfold BM;rw[yAA,yAh hml,hp];rfl
 obtain⟨sh,hsh⟩:=gn (uN (lV f) (q.num,q.den));obtain⟨st,hst⟩:=gn (uN (lV f) (p.num,p.den));have VG:=aC4 (VC f hf) hqf;have xD:=aC4 (VC f hf) hpf;rw[hsh]at VG;rw[hst]at xD;obtain⟨dg,hdg⟩:=gn (UInt8.ofNat (48+(i:Int)).toNat);have hR:s8 rs lo hg ⟨r,f,k,a⟩ i=⟨[83,dg],(lV f).1,(lV f).2,qV j n sh lo hg (lo+u) m st⟩:=by
  unfold s8 digit;simp only[D8,VF,c3',hw,rV,yBy,hF1,hF2,hsh,hst,<-hdg,show(48+(i:Int)).toNat=48+i by omega]
 rw[hR];have aMj:-60<=sh/\sh<=64:=hsh▸VD _ _
 clear hR hF1 hF2 hsh hst;obtain⟨q0,q1,q2,q3,q4,q5⟩:=q;obtain⟨p0,p1,p2,p3,p4,p5⟩:=p;simp only at VG xD;have d2:IntKind.i64.wrap (48+(i:Int))=48+(i:Int):=ym;have d3:IntKind.u8.wrap (48+(i:Int))=48+(i:Int):=yq;have d4:IntKind.i64.wrap (r:Int)=r:=ym;have d5:IntKind.i64.wrap (a:Int)=a:=ym;have d6:IntKind.i64.wrap (hg-lo)=hg-lo:=ym;have d7:IntKind.i64.wrap (hg-lo+1)=w:=ym;have d8:IntKind.i64.wrap (lo+(u:Int))=lo+u:=ym;have d9:¬(rs.length:Int)=0:=ye;have d10:¬(w:Int)=0:=ye;have d11:¬rs=[]:=λh=>by rw[h]at lP;simp at lP
 have d12:¬w=0:=ye;have hF:∀fl σ,entry (bZ iO Em.cH λn=>dY (gF n) (some (lV n))) fl [.int .u8 f] σ=some (.agg [.int .i64 (lV f).1,.int .i64 (lV f).2],σ):=λfl σ=>by
  exact ob
 simp only[YR,qE,aV];refine aI.aN 158 h0 func31 (h:=?_);refine aC (A20 h1 h2 c1 c3 c4 @d2 @d3 @d4 @d5 @d6 @d7 @d8 @d9 @d10 @d11 @d12 hF VG hnl (A2 @hq hdg)) ?_;have hsb:-60<=sh/\sh<=64:=aMj;have b1:IntKind.i64.wrap (sh+7)=sh+7:=ym;have b2:IntKind.i64.wrap (sh-12)=sh-12:=ym;have b3:IntKind.i64.wrap (lo+(u:Int)-1)=lo+u-1:=ym;have b4:IntKind.i64.wrap ((n:Int)+1)=(n:Int)+1:=ym
 match j,hj6 with
 |0,_=>
  exact cu
 |1,_=>
  exact cu
 |2,_=>
  exact cu
 |3,_=>
  by_cases zL:lo<lo+(u:Int)
  .exact xm
  .exact xm
 |4,_=>
  by_cases zL:lo<lo+(u:Int)
  .refine aC (A5 b1 b2 b3 c3 zL) ?_;exact bt
  .refine aC (A5 b1 b2 b3 c3 zL) ?_;exact bt
 |5,_=>
  exact cu
end
end Go.Kz
end
