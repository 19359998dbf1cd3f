/- Steps of the proof. -/
import Derived.Test.YteegpeenjdgodaaGreatDoorP5c
set_option linter.all false
set_option maxHeartbeats 40000000
set_option maxRecDepth 100000
open Go.Proofs.Tryz
noncomputable section
namespace Go.Kz
open Go Go.Proofs
section
def s8:List (List UInt8)->List bH->Int
 |_,[]=>0
 |ns,r::t=>if pA r≠0 then pA r else if lX ns r.name=true then 9 else s8 (ns++[r.name]) t
def vV(rs:List bH):List (List UInt8)->List bI->Int
 |_,[]=>0
 |ns,d::t=>if fN d.name=false then 8 else if lX ns d.name=true then 9 else if s6 rs d≠0 then s6 rs d else vV rs (ns++[d.name]) t
def jM(l:List bI):List (Int×Int):=l.map λd=>(d.low,d.high)
def NG(o:aV):Int:=if o.aD.length=0 then 13 else if 8<o.aD.length then 4 else if vV o.aR [] o.aD≠0 then vV o.aR [] o.aD else CO (jM o.aD) o.aP
def bT(o:aV):Int:=if fN o.name=false then 8 else if 60<o.aR.length then 4 else if s8 [] o.aR≠0 then s8 [] o.aR else NG o
def sP(d:bI):Prop:=lV d.name/\d.stops.length<=1000000/\∀s∈d.stops,GU s
def cL(o:aV):Prop:=lV o.name/\CP o.aR/\(o.aD.length<=1000000/\∀d∈o.aD,sP d)/\o.aP.length<=1000000/\∀x∈o.aP,lV x.name
def RB:Nat->List PD->List aA->Option (PD×List aA):=entry (eM Em.bB Em.div i64 λo d=>dY (CP o.aR/\sP d) (some (s6 o.aR d)))
theorem aPQ{o:aV}{d:bI}(h:CP o.aR)(hs:sP d)(fl:Nat)(σ:List aA):RB fl [Em.bB.aB o,Em.div.aB d] σ=some (.int .i64 (s6 o.aR d),σ):=by
 have e1:=Em.cT (Em.bB.str o);have e2:=Em.cT (Em.div.str d);unfold RB entry eM;simp only[e1,e2];rw[fM ⟨h,hs⟩];rfl
def RA:Nat->List PD->List aA->Option (PD×List aA):=entry (eM GV qM i64 λks l=>dY (ks.length<=1000000/\l.length<=1000000/\∀x∈l,lV x.name) (some (CO ks l)))
theorem aPR{ks:List (Int×Int)}{l:List bX}{p:PD}(h1:ks.length<=1000000)(h2:l.length<=1000000)(h3:∀x∈l,lV x.name)(hp:p.strip=GV.aB ks)(fl:Nat)(σ:List aA):RA fl [p,qM.aB l] σ=some (.int .i64 (CO ks l),σ):=by
 have e1:=Em.cT hp;have e2:=Em.cT (qM.str l);unfold RA entry eM;simp only[e1,e2];rw[fM ⟨h1,h2,h3⟩];rfl
variable{E:aE}(hU:aJ E)
include hU
theorem WI(h0:E 27=none)(h1:E 60=some GB)(h2:E 61=some MG)(h3:E 62=some xV)(h4:E 63=some RB)(h5:E 64=some RA)(o:aV)(ho:cL o) :
  aI prog E 27 [Em.bB.aB o] (i64.aB (bT o)):=by
 have hO:=λd (hd:sP d)=>aPQ (o:=o) ho.2.1 hd
 obtain⟨on,rs,od,oc⟩:=o;obtain⟨hon,hrs,⟨hdl,hdd⟩,hcl,hcn⟩:=ho;simp only at hon hrs hdl hdd hcl hcn;have hN:=JP hon;simp only[dT,aU]at hO;unfold bT;simp only[dT,aU];cases c1:fN on with
 |false=>
  rw[c1]at hN;rw[yAJ rfl];refine aI.aG 89 h0 func27 (h:=?_);refine nH (A2 h1 hN) ?_;exact ag
 |true=>
 rw[c1]at hN;rw[yAI Ck]
 by_cases c2:60<rs.length
 .have c3:60<(rs.length:Int):=by omega
  rw[yAJ c2];refine aI.aG 89 h0 func27 (h:=?_);refine nH (A4 h1 hN c2 c3) ?_;exact ag
 have c3:¬60<(rs.length:Int):=Cj;rw[yAI c2];obtain⟨C,hC⟩:=gn (NG ⟨on,rs,od,oc⟩);rw[hC];obtain⟨B,hB⟩:=gn ((if s8 [] rs≠0 then s8 [] rs else C));rw[hB];have us:=SG;refine aI.aG 89 h0 func27 (h:=?_);refine nH (A5 h1 hN c2 c3 @us) ?_;obtain⟨X,hX⟩:=gn (aA.box (.agg [.str on,.slice (sz 6 rs) (rs.map Em.aL.aB) .any,.slice (sz 5 od) (od.map Em.div.aB) .any,.slice (sz 5 oc) (oc.map Em.aZ.aB) .any]));refine Wp.dJ (λm fr σ=>∃(i:Nat) (σ1:List aA),∃gg:Nat->PD,(i+m=rs.length/\σ1[0]?=some X/\σ1[1]?=some (kP ((rs.take i).map bH.name))/\(if s8 ((rs.take i).map bH.name) (rs.drop i)≠0 then s8 ((rs.take i).map bH.name) (rs.drop i)else C)=B)/\fr=gg 0::.ptr 0 0::gg 2::.gC 1::gg 4::gg 5::gg 6::gg 7::gg 8::gg 9::gg 10::gg 11::gg 12::gg 13::gg 14::gg 15::gg 16::gg 17::gg 18::gg 19::gg 20::gg 21::gg 22::gg 23::gg 24::aR.aB rs::.int .i64 rs.length::.int .i64 i::gg 28::gg 29::gg 30::gg 31::gg 32::gg 33::gg 34::gg 35::gg 36::gg 37::gg 38::gg 39::gg 40::gg 41::gg 42::gg 43::gg 44::gg 45::gg 46::gg 47::gg 48::gg 49::gg 50::gg 51::gg 52::gg 53::gg 54::gg 55::gg 56::gg 57::gg 58::gg 59::gg 60::gg 61::gg 62::gg 63::gg 64::gg 65::gg 66::gg 67::gg 68::gg 69::gg 70::gg 71::gg 72::gg 73::gg 74::gg 75::gg 76::gg 77::gg 78::gg 79::gg 80::gg 81::gg 82::gg 83::gg 84::gg 85::gg 86::gg 87::gg 88::[]/\σ=σ1) ?_ (rs.length) (by refine⟨0,[X,.map []],?_⟩;exact fQ (⟨Cj,rfl,rfl,hB⟩) @hX)
 rintro m fr σ ⟨i,σ1,gg,hI,rfl,rfl⟩
 obtain⟨hm,hx0,DJ,hs⟩:=hI
 by_cases hi:i<rs.length
 .have q1:(i:Int)<(rs.length:Int):=by omega
  obtain⟨a,ha⟩:=gn (rs[i]);have NH:rs.drop i=a::rs.drop (i+1):=Cv;have htk:(rs.take (i+1)).map bH.name=(rs.take i).map bH.name++[a.name]:=by rw[yBK hi,ha,yAH];rfl
  have hE:=aFM (hrs.1 a (ha▸yAm hi));rw[NH]at hs;unfold s8 at hs;have gY:=(yA.1 hx0).1;have hlt2:=(yA.1 DJ).1;have j0:∀x:aA,(σ++[x])[σ.length]?=some x:=λx=>Ck
  obtain⟨a0,a1,a2,a3,a4,a5⟩:=a;obtain⟨e,he⟩:=gn (pA ⟨a0,a1,a2,a3,a4,a5⟩);rw[he]at hE hs;simp only[oB,aU]at hE;simp only at hs htk
  by_cases c4:e=0
  rotate_left
  .simp only[ne_eq,c4,yCz,yAK]at hs;subst hs;refine nH (A7 q1 hi ha j0 h2 hE c4) ?_;exact ag
  subst c4;simp only[ne_eq,yBM,yAN]at hs;obtain⟨Z,hZ⟩:=gn (aA.box (.agg [.str a0,.str a1,.int .i64 a2,.int .i64 a3,.int .i64 a4,.slice (sz 1 a5) (a5.map i64.aB) .any]));have hmz:(σ++[Z])[1]?=some (kP ((rs.take i).map bH.name)):=by rw[yAg hlt2];exact DJ
  cases hb:lX ((rs.take i).map bH.name) a0 with
  |true=>
   rw[hb]at hs;simp only[yAK,show ¬(9:Int)=0 by omega,yCz]at hs;subst hs;have hA:=λfl=>aAb (fl:=fl) hmz hb
   rw[<-hZ]at hA;refine nH (A8 q1 hi ha j0 h2 hE h3 hA) ?_;exact ag
  |false=>
   rw[hb]at hs;simp only[yAx,yAN]at hs;have hA:=aAc (fl:=0) hmz hb (yAF _);obtain⟨lY,eC⟩:=gn ((σ++[Z]).set 1 (kP ((rs.take i).map bH.name++[a0])));have t0:lY[0]?=some X:=by rw[<-eC,yAd Cj,yAg gY];exact hx0
   have t2:lY[1]?=some (kP ((rs.take i).map bH.name++[a0])):=by rw[<-eC];exact yAj Cu
   rw[eC]at hA;rw[<-hZ]at hA;clear eC;refine nH (A8 q1 hi ha j0 h2 hE h3 hA) ?_;refine bM.normal (m-1) Cj (by refine⟨i+1,lY,?_⟩;exact cE (⟨Cj,t0,by rw[htk];exact t2,by rw[htk];exact hs⟩))
 have q1:¬(i:Int)<(rs.length:Int):=Cj;rw[yAs Cj]at hs;have hs2:C=B:=hs;rw[hs2]at hC;clear hs hs2 hB;have hx1:=hx0;rw[<-hX]at hx1;obtain⟨gY,hxe⟩:=yA.1 hx1;unfold NG at hC;simp only at hC
 by_cases c4:od.length=0
 .rw[yAJ c4]at hC;subst hC;have c5:od=[]:=yAf c4;subst c5;refine nH (A4 q1 hx1 gY hxe) ?_;exact ag
 rw[yAI c4]at hC;have uQ:¬od=[]:=λh=>c4 Eb
 by_cases c5:8<od.length
 .rw[yAJ c5]at hC;subst hC;have c6:8<(od.length:Int):=Cj;refine nH (A8 q1 hx1 gY hxe c4 uQ c5 c6) ?_;exact ag
 rw[yAI c5]at hC;have c6:¬8<(od.length:Int):=Cj;refine nH (A9 q1 hx1 gY hxe c4 uQ c5 c6 @us) ?_;obtain⟨M,hM⟩:=gn (σ.length);obtain⟨σa,SH⟩:=gn (σ++[aA.map []]);have g0:σa[0]?=some X:=by rw[<-SH,yAg gY];exact hx0
 have gM:σa[M]?=some (kP []):=by rw[<-SH,<-hM];simp;rfl
 have hM0:0<M:=Cj;rw[SH,hM];clear SH hM q1;refine Wp.dJ (λm fr σ=>∃(j z:Nat) (tok:Tok) (σ1:List aA),∃gg:Nat->PD,(j+m=od.length/\σ1[0]?=some X/\σ1[M]?=some (kP ((od.take j).map bI.name))/\(jM (od.take j)=[]\/z=2)/\lK σ1 tok 50 2 j/\(if vV rs ((od.take j).map bI.name) (od.drop j)≠0 then vV rs ((od.take j).map bI.name) (od.drop j)else CO (jM od) oc)=B)/\fr=gg 0::.ptr 0 0::gg 2::.gC M::gg 4::gg 5::gg 6::gg 7::.slice z ((jM (od.take j)).map Em.dC.aB) tok::gg 9::gg 10::gg 11::gg 12::gg 13::gg 14::gg 15::gg 16::gg 17::gg 18::gg 19::gg 20::gg 21::gg 22::gg 23::gg 24::gg 25::gg 26::gg 27::gg 28::gg 29::gg 30::gg 31::gg 32::gg 33::gg 34::gg 35::gg 36::gg 37::gg 38::gg 39::gg 40::gg 41::gg 42::gg 43::gg 44::gg 45::gg 46::gg 47::gg 48::gg 49::gg 50::gg 51::gg 52::gg 53::gg 54::gg 55::tD.aB od::.int .i64 od.length::.int .i64 j::gg 59::gg 60::gg 61::gg 62::gg 63::gg 64::gg 65::gg 66::gg 67::gg 68::gg 69::gg 70::gg 71::gg 72::gg 73::gg 74::gg 75::gg 76::gg 77::gg 78::gg 79::gg 80::gg 81::gg 82::gg 83::gg 84::gg 85::gg 86::gg 87::gg 88::[]/\σ=σ1) ?_ (od.length) (by refine⟨0,0,.full,σa,?_⟩;exact p6 (⟨Cj,g0,gM,.inl rfl,.inl ⟨rfl,rfl⟩,hC⟩) Gf Gf)
 rintro m fr σ ⟨j,z,tok,σ1,gg,hI,rfl,rfl⟩
 obtain⟨hm2,hx2,mB,hzz,hrow,hs2⟩:=hI;have hx3:=hx2;rw[<-hX]at hx3;obtain⟨aFN,hxe3⟩:=yA.1 hx3
 by_cases hj:j<od.length
 .have q1:(j:Int)<(od.length:Int):=by omega
  obtain⟨a,ha⟩:=gn (od[j]);have hda:sP a:=hdd a (ha▸yAm hj);have NH:od.drop j=a::od.drop (j+1):=by rw[yAq hj,ha]
  have htk:(od.take (j+1)).map bI.name=(od.take j).map bI.name++[a.name]:=by rw[yBK hj,ha,yAH];rfl
  have hkk:jM (od.take (j+1))=jM (od.take j)++[(a.low,a.high)]:=by unfold jM;rw[yBK hj,ha,yAH];rfl
  have hkl:(jM (od.take j)).length=j:=by unfold jM;rw[yAe,yAt];omega
  have hnn:=JP hda.1;have hE:=hO a hda;rw[NH]at hs2;unfold vV at hs2;have x7:=(yA.1 mB).1;have j0:∀x:aA,(σ++[x])[σ.length]?=some x:=λx=>Ck
  obtain⟨a0,a1,a2,a3,a4⟩:=a;obtain⟨e,he⟩:=gn (s6 rs ⟨a0,a1,a2,a3,a4⟩);simp only[he,nL,aU]at hE;rw[he]at hs2;simp only at hs2 htk hnn hkk;cases d1:fN a0 with
  |false=>
   rw[d1]at hnn hs2;simp only[yAK,show ¬(8:Int)=0 by omega,ne_eq,yCz]at hs2;subst hs2;refine nH (A6 q1 hj ha j0 h1 hnn) ?_;exact ag
  |true=>
  rw[d1]at hnn hs2;simp only[Bool.true_eq_false,yAN]at hs2;obtain⟨Z,hZ⟩:=gn (aA.box (.agg [.str a0,.bool a1,.int .i64 a2,.int .i64 a3,.slice (sz 4 a4) (a4.map Em.stop.aB) .any]));have hmz:(σ++[Z])[M]?=some (kP ((od.take j).map bI.name)):=by rw[yAg x7];exact mB
  cases hb:lX ((od.take j).map bI.name) a0 with
  |true=>
   rw[hb]at hs2;simp only[yAK,show ¬(9:Int)=0 by omega,ne_eq,yCz]at hs2;subst hs2;have hA:=λfl=>aAb (fl:=fl) hmz hb
   rw[<-hZ]at hA;refine nH (A8 q1 hj ha j0 h1 hnn h3 hA) ?_;exact ag
  |false=>
  rw[hb]at hs2;simp only[yAx,yAN]at hs2;have hA:=aAc (fl:=0) hmz hb (yAF _);obtain⟨lY,eC⟩:=gn ((σ++[Z]).set M (kP ((od.take j).map bI.name++[a0])));have t0:lY[0]?=some X:=by rw[<-eC,yAd Cj,yAg aFN];exact hx2
  have t2:lY[M]?=some (kP ((od.take j).map bI.name++[a0])):=by rw[<-eC];exact yAj Cu
  have tz:lY[σ.length]?=some Z:=by rw[<-eC,yAd Cj];exact j0 Z
  have tr:lK lY tok 50 2 j:=by rw[<-eC];exact hrow.more.set hmz trivial
  rw[eC]at hA;rw[<-hZ]at hA tz;have SI:=t0;rw[<-hX]at SI;obtain⟨l0,NI⟩:=yA.1 SI;obtain⟨l1,te1⟩:=yA.1 tz;clear eC
  by_cases d2:e=0
  rotate_left
  .simp only[ne_eq,d2,yCz,yAK]at hs2;subst hs2;refine nH (A17 q1 hj ha j0 h1 hnn h3 hA SI l0 NI tz l1 te1 h4 hE @d2) ?_;exact ag
  subst d2;simp only[ne_eq,yBM,yAN]at hs2;obtain⟨A,hAA⟩:=gn ((jM (od.take j)).map Em.dC.aB);have hAl:A.length=j:=by rw[<-hAA,yAe,hkl]
  obtain⟨jK,bR,hap,hr',hkeep,hnew⟩:=E8 (P:=prog) (t:=98) (e:=50) (k:=2) (b:=16) (s:=z) (xs:=A) (p:=.agg [.int .i64 a2,.int .i64 a3]) (tk:=.any) (tok:=tok) (σ:=lY)
   underlying98 Cl (hzz.imp (λh=>by rw[<-hAA,h];rfl) id) (by rw[hAl];exact tr) Cj Cj
  have nX:mK (some X):=by rw[<-hX];trivial
  have w0:=hkeep 0 _ (tr.ne t0 nX) t0;have w2:=hkeep M _ (tr.ne t2 trivial) t2;rw[hAl]at hr';refine nH (A18 q1 hj ha j0 h1 hnn h3 hA SI l0 NI tz l1 te1 h4 hE hAA hap) ?_;have hK:(jM (od.take (j+1))).map Em.dC.aB=A++[.agg [.int .i64 a2,.int .i64 a3]]:=by rw[hkk,yAH,hAA];rfl
  refine bM.normal (m-1) Cj (by refine⟨j+1,2,jK,bR,?_⟩;exact fQ (⟨Cj,w0,by rw[htk];exact w2,.inr rfl,hr',by rw[htk];exact hs2⟩) @hK)
 .have q1:¬(j:Int)<(od.length:Int):=by omega
  obtain rfl:j=od.length:=Cj;rw[yCD]at hs2;have hs3:CO (jM od) oc=B:=hs2;rw[yDP]at hzz ⊢;have hkn:jM od≠[]:=λh=>uQ (by simpa [jM]using h)
  have hz1:z=2:=hzz.resolve_left hkn;subst hz1;have hst:(PD.slice 2 ((jM od).map Em.dC.aB) tok).strip=GV.aB (jM od):=by
   rw[PD.sA,show((jM od).map Em.dC.aB).map PD.strip=(jM od).map Em.dC.aB by rw[yBE];exact yAG λx _=>Em.dC.str x];rw[aU];simp[sz,hkn]
  have hE:=aPR (ks:=jM od) (l:=oc) (by unfold jM;rw[yAe];exact hdl) hcl hcn hst;rw[hs3]at hE;simp only[aU]at hE;refine nH (A6 q1 hx3 aFN hxe3 h5 hE) ?_;exact ag
end
section
def CA:Nat->List PD->List aA->Option (PD×List aA):=λ_ args σ=>match args with
 | [.agg [.str n,.bool x1,.int .i64 x2,.int .i64 x3,.slice xk xl xt],.ptr id 0]=>match σ[id]? with
   |some (.box (.agg [.str nm,.bool _,.int .i64 _,.int .i64 _,.slice _ _ _]))=>some (.bool (decide (n=nm)),σ++[.box (.agg [.str n,.bool x1,.int .i64 x2,.int .i64 x3,.slice xk xl xt])])
   |_=>none
 |_=>none
section
variable{E:aE}(hU:aJ E)
include hU
theorem aRR(h0:E 53=none)(fl:Nat)(x0:List UInt8)(x1:Bool)(x2:Int)(x3:Int)(xk:Nat)(xl:List PD)(xt:Tok)(nm:List UInt8)(y1:Bool)(y2:Int)(y3:Int)(yk:Nat)(yl:List PD)(yt:Tok)(id:Nat)(τ:List aA)(hid:τ[id]?=some (.box (.agg [.str nm,.bool y1,.int .i64 y2,.int .i64 y3,.slice yk yl yt]))) :
  aK prog E fl (.inl 53) [.agg [.str x0,.bool x1,.int .i64 x2,.int .i64 x3,.slice xk xl xt],.ptr id 0] τ (λp1 σ1=>p1=.bool (decide (x0=nm))/\σ1=τ++[.box (.agg [.str x0,.bool x1,.int .i64 x2,.int .i64 x3,.slice xk xl xt])]):=by
 obtain⟨hlt,he⟩:=yA.1 hid;have j0:∀x:aA,(τ++[x])[τ.length]?=some x:=λx=>Ck
 by_cases c:x0=nm
 .rw[yAX c];refine aK.aG 9 h0 func53 (h:=?_);exact AW
 .rw[yBe c];have f0:(x0==nm)=false:=by simpa using c
  refine aK.aG 9 h0 func53 (h:=?_);exact Au
theorem aMs(hE:aF prog E)(h0:E 53=none):aF prog (E.add 53 CA):=
 hE.add Cl λfl args σ p σ' h=>by
  unfold CA at h;split at h
  .split at h
   .rename_i hid;simp only[yAb,yAc]at h;obtain⟨rfl,rfl⟩:=h;exact aK.w9 (aRR hU h0 fl _ _ _ _ _ _ _ _ _ _ _ _ _ _ _ σ hid)
   .cases h
  .cases h
end
def CB:Nat->List PD->List aA->Option (PD×List aA):=λ_ args σ=>match args with
 | [.agg [.str n,.int .i64 x1,.int .i64 x2,.slice xk xl xt],.ptr id 0]=>match σ[id]? with
   |some (.box (.agg [.str nm,.int .i64 _,.int .i64 _,.slice _ _ _]))=>some (.bool (decide (n=nm)),σ++[.box (.agg [.str n,.int .i64 x1,.int .i64 x2,.slice xk xl xt])])
   |_=>none
 |_=>none
section
variable{E:aE}(hU:aJ E)
include hU
theorem aRS(h0:E 55=none)(fl:Nat)(x0:List UInt8)(x1:Int)(x2:Int)(xk:Nat)(xl:List PD)(xt:Tok)(nm:List UInt8)(y1:Int)(y2:Int)(yk:Nat)(yl:List PD)(yt:Tok)(id:Nat)(τ:List aA)(hid:τ[id]?=some (.box (.agg [.str nm,.int .i64 y1,.int .i64 y2,.slice yk yl yt]))) :
  aK prog E fl (.inl 55) [.agg [.str x0,.int .i64 x1,.int .i64 x2,.slice xk xl xt],.ptr id 0] τ (λp1 σ1=>p1=.bool (decide (x0=nm))/\σ1=τ++[.box (.agg [.str x0,.int .i64 x1,.int .i64 x2,.slice xk xl xt])]):=by
 obtain⟨hlt,he⟩:=yA.1 hid;have j0:∀x:aA,(τ++[x])[τ.length]?=some x:=λx=>Ck
 by_cases c:x0=nm
 .rw[yAX c];refine aK.aG 9 h0 func55 (h:=?_);exact AW
 .rw[yBe c];have f0:(x0==nm)=false:=by simpa using c
  refine aK.aG 9 h0 func55 (h:=?_);exact Au
theorem aMy(hE:aF prog E)(h0:E 55=none):aF prog (E.add 55 CB):=
 hE.add Cl λfl args σ p σ' h=>by
  unfold CB at h;split at h
  .split at h
   .rename_i hid;simp only[yAb,yAc]at h;obtain⟨rfl,rfl⟩:=h;exact aK.w9 (aRS hU h0 fl _ _ _ _ _ _ _ _ _ _ _ _ _ σ hid)
   .cases h
  .cases h
end
end
section
def AM(x:bI):aA:=.box (Em.div.aB x)
def pY(nm:List UInt8)(x:bI):Bool:=decide (x.name=nm)
section
variable{E:aE}(hU:aJ E)
include hU
theorem aRP(h0:E 52=none)(h1:E 53=some CA)(fl:Nat)(l:List bI)(nm:List UInt8)(y1:Bool)(y2 y3:Int)(yk:Nat)(yl:List PD)(yt:Tok)(id:Nat)(τ:List aA)(hid:τ[id]?=some (.box (.agg [.str nm,.bool y1,.int .i64 y2,.int .i64 y3,.slice yk yl yt])))(hl:l.length<=1000000) :
  aK prog E fl (.inl 52) [(Em.div.list 5).aB l,.func 53 [.ptr id 0]] τ (λp1 σ1=>p1=.int .i64 (eX (pY nm) l 0)/\σ1=τ++(l.take (lH (pY nm) l)).map AM):=by
 obtain⟨B,hB⟩:=gn (eX (pY nm) l 0);obtain⟨V,hV⟩:=gn (lH (pY nm) l);rw[hB,hV];refine aK.aG 19 h0 func52 (h:=?_);refine aC trivial ?_;refine Wp.dJ (λm fr σ=>∃(i:Nat),∃gg:Nat->PD,(i+m=l.length/\eX (pY nm) (l.drop i) i=B/\lH (pY nm) (l.drop i)+i=V)/\fr=[(Em.div.list 5).aB l,.func 53 [.ptr id 0],gg 2,gg 3,gg 4,gg 5,(Em.div.list 5).aB l,.int .i64 l.length,.int .i64 i,gg 9,gg 10,gg 11,gg 12,gg 13,gg 14,gg 15,gg 16,gg 17,gg 18]/\σ=τ++(l.take i).map AM) ?_ (l.length) (by refine⟨0,?_⟩;exact cE (⟨Cj,hB,hV⟩))
 rintro m fr σ ⟨i,gg,hI,rfl,rfl⟩
 obtain⟨hm,hs,hv⟩:=hI
 by_cases hi:i<l.length
 .have q1:(i:Int)<(l.length:Int):=by omega
  obtain⟨a,ha⟩:=gn (l[i]);have hc:l.drop i=a::l.drop (i+1):=Cv;have htk:l.take (i+1)=l.take i++[a]:=Hp;obtain⟨hlt,_⟩:=yA.1 hid;obtain⟨ρ,hρ⟩:=gn (τ++(l.take i).map AM);have xZ:ρ[id]?=some (.box (.agg [.str nm,.bool y1,.int .i64 y2,.int .i64 y3,.slice yk yl yt])):=Ht;have hst:τ++(l.take (i+1)).map AM=ρ++[AM a]:=Io;rw[hc]at hs hv;unfold eX at hs;unfold lH at hv;obtain⟨a0,a1,a2,a3,a4⟩:=a;have hE:CA fl [.agg [.str a0,.bool a1,.int .i64 a2,.int .i64 a3,.slice (sz 4 a4) (a4.map Em.stop.aB) .any],.ptr id 0] ρ=some (.bool (decide (a0=nm)),ρ++[.box (.agg [.str a0,.bool a1,.int .i64 a2,.int .i64 a3,.slice (sz 4 a4) (a4.map Em.stop.aB) .any])]):=by
   unfold CA;simp only[xZ]
  have ED:τ++(l.take (i+1)).map AM=ρ++[.box (.agg [.str a0,.bool a1,.int .i64 a2,.int .i64 a3,.slice (sz 4 a4) (a4.map Em.stop.aB) .any])]:=hst;have HY:τ++List.take (i+1) (l.map AM)=ρ++[.box (.agg [.str a0,.bool a1,.int .i64 a2,.int .i64 a3,.slice (sz 4 a4) (a4.map Em.stop.aB) .any])]:=by rw[<-yCV];exact ED
  rw[hρ]
  by_cases hb:a0=nm
  .rw[yAJ (by simp[pY,hb])]at hs hv;exact zf
  .rw[yAI (by simp[pY,hb])]at hs hv;exact cy
 .exact zi
end
def AO(x:cJ):aA:=.box (Em.stop.aB x)
def rX(nm:List UInt8)(x:cJ):Bool:=decide (x.name=nm)
section
variable{E:aE}(hU:aJ E)
include hU
theorem aRQ(h0:E 54=none)(h1:E 55=some CB)(fl:Nat)(l:List cJ)(nm:List UInt8)(y1 y2:Int)(yk:Nat)(yl:List PD)(yt:Tok)(id:Nat)(τ:List aA)(hid:τ[id]?=some (.box (.agg [.str nm,.int .i64 y1,.int .i64 y2,.slice yk yl yt])))(hl:l.length<=1000000) :
  aK prog E fl (.inl 54) [(Em.stop.list 4).aB l,.func 55 [.ptr id 0]] τ (λp1 σ1=>p1=.int .i64 (eX (rX nm) l 0)/\σ1=τ++(l.take (lH (rX nm) l)).map AO):=by
 obtain⟨B,hB⟩:=gn (eX (rX nm) l 0);obtain⟨V,hV⟩:=gn (lH (rX nm) l);rw[hB,hV];refine aK.aG 19 h0 func54 (h:=?_);refine aC trivial ?_;refine Wp.dJ (λm fr σ=>∃(i:Nat),∃gg:Nat->PD,(i+m=l.length/\eX (rX nm) (l.drop i) i=B/\lH (rX nm) (l.drop i)+i=V)/\fr=[(Em.stop.list 4).aB l,.func 55 [.ptr id 0],gg 2,gg 3,gg 4,gg 5,(Em.stop.list 4).aB l,.int .i64 l.length,.int .i64 i,gg 9,gg 10,gg 11,gg 12,gg 13,gg 14,gg 15,gg 16,gg 17,gg 18]/\σ=τ++(l.take i).map AO) ?_ (l.length) (by refine⟨0,?_⟩;exact cE (⟨Cj,hB,hV⟩))
 rintro m fr σ ⟨i,gg,hI,rfl,rfl⟩
 obtain⟨hm,hs,hv⟩:=hI
 by_cases hi:i<l.length
 .have q1:(i:Int)<(l.length:Int):=by omega
  obtain⟨a,ha⟩:=gn (l[i]);have hc:l.drop i=a::l.drop (i+1):=Cv;have htk:l.take (i+1)=l.take i++[a]:=Hp;obtain⟨hlt,_⟩:=yA.1 hid;obtain⟨ρ,hρ⟩:=gn (τ++(l.take i).map AO);have xZ:ρ[id]?=some (.box (.agg [.str nm,.int .i64 y1,.int .i64 y2,.slice yk yl yt])):=Ht;have hst:τ++(l.take (i+1)).map AO=ρ++[AO a]:=Io;rw[hc]at hs hv;unfold eX at hs;unfold lH at hv;obtain⟨a0,a1,a2,a3⟩:=a;have hE:CB fl [.agg [.str a0,.int .i64 a1,.int .i64 a2,.slice (sz 3 a3) (a3.map Em.eZ.aB) .any],.ptr id 0] ρ=some (.bool (decide (a0=nm)),ρ++[.box (.agg [.str a0,.int .i64 a1,.int .i64 a2,.slice (sz 3 a3) (a3.map Em.eZ.aB) .any])]):=by
   unfold CB;simp only[xZ]
  have ED:τ++(l.take (i+1)).map AO=ρ++[.box (.agg [.str a0,.int .i64 a1,.int .i64 a2,.slice (sz 3 a3) (a3.map Em.eZ.aB) .any])]:=hst;have HY:τ++List.take (i+1) (l.map AO)=ρ++[.box (.agg [.str a0,.int .i64 a1,.int .i64 a2,.slice (sz 3 a3) (a3.map Em.eZ.aB) .any])]:=by rw[<-yCV];exact ED
  rw[hρ]
  by_cases hb:a0=nm
  .rw[yAJ (by simp[rX,hb])]at hs hv;exact zf
  .rw[yAI (by simp[rX,hb])]at hs hv;exact cy
 .exact zi
end
end
section
open Classical in
def DR:Nat->List PD->List aA->Option (PD×List aA):=λ_ args σ=>match args with
 | [p,.func g [.ptr id 0]]=>match (Em.div.list 5).dec p with
   |some l=>if p=(Em.div.list 5).aB l/\g=53/\l.length<=1000000 then match σ[id]? with
     |some (.box (.agg [.str nm,.bool _,.int .i64 _,.int .i64 _,.slice _ _ _]))=>some (.int .i64 (eX (pY nm) l 0),σ++(l.take (lH (pY nm) l)).map AM)
     |_=>none
    else none
   |none=>none
 |_=>none
theorem aMv{E:aE}(hU:aJ E)(hE:aF prog E)(h0:E 52=none)(h1:E 53=some CA):aF prog (E.add 52 DR):=
 hE.add Cl λfl args σ p σ' h=>by
  unfold DR at h;split at h
  .split at h
   .rename_i l hl;split at h
    .rename_i hc;obtain⟨rfl,rfl,hlen⟩:=hc;split at h
     .rename_i hid;simp only[yAb,yAc]at h;obtain⟨rfl,rfl⟩:=h;exact aK.w9 (aRP hU h0 h1 fl l _ _ _ _ _ _ _ _ σ hid hlen)
     .cases h
    .cases h
   .cases h
  .cases h
open Classical in
def DS:Nat->List PD->List aA->Option (PD×List aA):=λ_ args σ=>match args with
 | [p,.func g [.ptr id 0]]=>match (Em.stop.list 4).dec p with
   |some l=>if p=(Em.stop.list 4).aB l/\g=55/\l.length<=1000000 then match σ[id]? with
     |some (.box (.agg [.str nm,.int .i64 _,.int .i64 _,.slice _ _ _]))=>some (.int .i64 (eX (rX nm) l 0),σ++(l.take (lH (rX nm) l)).map AO)
     |_=>none
    else none
   |none=>none
 |_=>none
theorem aMA{E:aE}(hU:aJ E)(hE:aF prog E)(h0:E 54=none)(h1:E 55=some CB):aF prog (E.add 54 DS):=
 hE.add Cl λfl args σ p σ' h=>by
  unfold DS at h;split at h
  .split at h
   .rename_i l hl;split at h
    .rename_i hc;obtain⟨rfl,rfl,hlen⟩:=hc;split at h
     .rename_i hid;simp only[yAb,yAc]at h;obtain⟨rfl,rfl⟩:=h;exact aK.w9 (aRQ hU h0 h1 fl l _ _ _ _ _ _ _ σ hid hlen)
     .cases h
    .cases h
   .cases h
  .cases h
theorem aRN{l:List bI}(hl:l.length<=1000000){id:Nat}{σ:Jp}{nm:Jr}{y1:Bool}{y2 y3:Int}{yk:Nat}{yl:Jq}{yt:Tok}(hid:σ[id]?=some (.box (.agg [.str nm,.bool y1,.int .i64 y2,.int .i64 y3,.slice yk yl yt])))(fl:Nat) :
  DR fl [(Em.div.list 5).aB l,.func 53 [.ptr id 0]] σ=some (.int .i64 (eX (pY nm) l 0),σ++(l.take (lH (pY nm) l)).map AM):=by
 have e1:=Em.cT ((Em.div.list 5).str l);unfold DR;simp only[e1];rw[yAJ ⟨trivial,trivial,hl⟩];simp only[hid]
theorem aRO{l:List cJ}(hl:l.length<=1000000){id:Nat}{σ:Jp}{nm:Jr}{y1 y2:Int}{yk:Nat}{yl:Jq}{yt:Tok}(hid:σ[id]?=some (.box (.agg [.str nm,.int .i64 y1,.int .i64 y2,.slice yk yl yt])))(fl:Nat) :
  DS fl [(Em.stop.list 4).aB l,.func 55 [.ptr id 0]] σ=some (.int .i64 (eX (rX nm) l 0),σ++(l.take (lH (rX nm) l)).map AO):=by
 have e1:=Em.cT ((Em.stop.list 4).str l);unfold DS;simp only[e1];rw[yAJ ⟨trivial,trivial,hl⟩];simp only[hid]
end
theorem aPN:∀x∈rV,s7 x.1 x.2=0:=Cp
theorem aPG:∀x∈EA,s7 x.1 x.2=0:=Cp
theorem SE:∀i:Nat,i<10->∀c∈([82,83,67,68]:List UInt8),fN [c,UInt8.ofNat (48+i)]=true:=Cp
theorem aPO:∀n:Int,fN (CM n)=true:=by
 intro n;have h:∀t∈GR,fN t=true:=Cp;have h0:fN [79,112,101,110]=true:=Cp;unfold CM;rw[yAA];cases e:GR[(n%3).toNat]? with
 |none=>
  have:=(yEe.1 e);have h3:GR.length=3:=rfl;omega
 |some t=>exact h t (yAE e)
theorem aPP(n:Int):pO n∈rV:=by
 have hlt:(n%16).toNat<rV.length:=by
  have h:rV.length=16:=rfl;omega
 unfold pO;rw[yAA,yAh hlt];exact yAm hlt
theorem aFI(x:oA)(hx:CV x)(i:Nat):pA (uO x i)=0:=by
 have h1:fN [82,digit (i%10)]=true:=SE (i%10) (yBA _ Cn) 82 Ck;have h2:=aPO x.kH;have h3:=aPN _ (aPP x.dC);have h4:=hx.2.2.1;have hwl:(x9 x (1+(x.AU%25).toNat)).length=1+(x.AU%25).toNat:=by simp[x9]
 have hb:(x9 x (1+(x.AU%25).toNat)).any mP=false:=by
  rw[yDE];intro w hw;obtain⟨k,_,rfl⟩:=yAw.1 hw;have hlt:k%5<5:=yBA _ Cn;have hr:0<=x8 x k/\x8 x k<=255:=by
   exact jk
  unfold mP;simp;omega
 unfold pA uO;simp only[h1,h2,h3,hwl,hb];have h5:-256<=x.first/\x.first<=256:=⟨by have:=h4.1;omega,by have:=h4.2;omega⟩;simp[h5];omega
theorem Z8{ns:List (List UInt8)}{nm:Jr}(h:nm∉ns):lX ns nm=false:=by
 unfold lX;rw[yDE];intro n hn e;exact h (by rw[show nm=n by simpa using e];exact hn)
theorem aFJ:∀(l:List bH) (ns:List (List UInt8)),(∀r∈l,pA r=0)->(ns++l.map bH.name).Nodup->s8 ns l=0
 | [],_,_,_=>rfl
 |r::t,ns,h,hn=>by
  have h0:=h r (yBf ..);rw[yAW]at hn;have hnn:r.name∉ns:=λhm=>(yCB.1 hn).2.2 _ hm _ (yBf ..) rfl
  unfold s8;rw[h0,Z8 hnn];simp only[ne_eq,yBM,yAN,yAx];exact aFJ t (ns++[r.name]) (λq hq=>h q (yCq _ hq)) (by rw[yAi];exact hn)
theorem Z9:∀c∈([82,83,67,68]:List UInt8),∀n:Nat,n<11->((List.range n).map λi=>[c,digit (i%10)]).Nodup:=Cp
theorem aPK(l:List oA)(hl:∀x∈l,CV x)(n:Nat)(hn:n<=l.length)(aWG:n<=10):s8 [] (iI l n)=0:=by
 refine aFJ _ [] (λr hr=>?_) ?_
 .obtain⟨i,hi,rfl⟩:=yAw.1 hr;have hi':i<l.length:=Jb;refine aFI _ ?_ i;rw[yAA,yAh hi'];exact hl _ (yAm hi')
 .rw[yAV];have h:(iI l n).map bH.name=(List.range n).map λi=>[82,digit (i%10)]:=by
   unfold iI;rw[yBE];rfl
  rw[h];exact Z9 82 Ck n Cj
def aFK(k:Nat)(c:bX):Prop:=fN c.name=true/\0<=c.dK/\c.dK<k/\0<=c.dst/\c.dst<k/\-127<=c.shift/\c.shift<=127/\¬(c.dK=c.dst/\c.shift=0)
theorem aFL(k:Nat):∀(l pre:List bX),(∀c∈l,aFK k c)->(pre.map bX.name++l.map bX.name).Nodup->uR k pre l=0
 | [],_,_,_=>rfl
 |c::t,pre,h,hn=>by
  obtain⟨h1,h2,h3,h4,h5,h6,h7,h8⟩:=h c (yBf ..);rw[yAW]at hn;have hnn:pre.any (jX c.name)=false:=by
   rw[yDE];intro x hx e;have e2:x.name=c.name:=by simpa [jX]using e
   exact(yCB.1 hn).2.2 _ (yAw.2 ⟨x,hx,rfl⟩) _ (yBf ..) e2
  unfold uR;rw[h1,hnn,yAI Ck,yAI Ck,yAI Cj,yAI Cj,yAI h8];exact aFL k t (pre++[c]) (λq hq=>h q (yCq _ hq)) (by rw[yAH,yAi];exact hn)
theorem aPL(l:List tB)(n k:Nat)(hn:1<=n)(hk:k<=10):uR n [] (mO n l k)=0:=by
 refine aFL n _ [] (λc hc=>?_) ?_
 .obtain⟨i,hi,rfl⟩:=yAw.1 hc;have hi':=yAS.1 hi;obtain⟨x,hx⟩:=gn (l.getD i default);simp only[hx];have hnm:fN [67,digit i]=true:=SE i Cj 67 Ck;have e1:=yDC x.dK (show(n:Int)≠0 by omega);have e2:=yDD x.dK (show(0:Int)<n by omega);have e3:=yDC x.dst (show(n:Int)≠0 by omega);have e4:=yDD x.dst (show(0:Int)<n by omega);unfold aFK JI;simp only;obtain⟨s,hs⟩:=gn (x.shift.tmod 25);have e5:-25<s/\s<25:=by
   rw[<-hs];rcases Int.lt_or_le x.shift 0 with h|h
   .have:=Int.neg_tmod (-x.shift) 25;rw[Int.neg_neg]at this;rw[this,yBY Cj];omega
   .rw[yBY h];omega
  rw[hs];refine⟨hnm,e1,e2,e3,e4,?_,?_,?_⟩
  .split<;>omega
  .split<;>omega
  .split
   .omega
   .assumption
 .have h:(mO n l k).map bX.name=(List.range k).map λi=>[67,digit i]:=by
   unfold mO;rw[yBE];rfl
  rw[yC,yAV,h];have h2:=Z9 67 Ck k Cj;rw[show(List.range k).map (λi=>[(67:UInt8),digit i])=(List.range k).map λi=>[67,digit (i%10)]from yAG λi hi=>by rw[Nat.mod_eq_of_lt Jb]];exact h2
theorem Z6{k:Nat}{n s:Int}(h0:0<=n)(h1:n<k)(h2:-127<=s)(h3:s<=127):n7 k [⟨n,s⟩]=0:=by
 unfold n7;rw[yAI Ck];unfold AD;rw[yAI Dp,yAI Dp,yAI Ck];rfl
theorem aPC{k:Nat}{n s:Int}(h0:0<=n)(h1:n<k)(h2:-127<=s)(h3:s+7<=127):n7 k [⟨n,s⟩,⟨n,s+7⟩]=0:=by
 unfold n7;rw[yAI Ck];unfold AD;rw[yAI Dp,yAI Dp,yAI Ck];unfold AD;rw[yAI Dp,yAI Dp,yAI Cu];rfl
theorem SD{k:Nat}{lo hg:Int}{g:jA}(h1:lo<=g.lo)(h2:g.hi<=hg)(h3:g.lo<=g.hi)(hd:n7 k g.aQ=0):AE k lo hg [g]=0:=by
 unfold AE;rw[yAI Ck,yAI Ck];unfold AF;rw[yAI Cj,yAI (by simp[GS];omega),yAI (by simp[hd])];rfl
theorem aPD{k:Nat}{lo hg:Int}{g q:jA}(h1:lo<=g.lo)(h2:q.hi<=hg)(h3:g.lo<=g.hi)(h4:g.hi<q.lo)(h5:q.lo<=q.hi)(hd:n7 k g.aQ=0)(hq:n7 k q.aQ=0):AE k lo hg [g,q]=0:=by
 unfold AE;rw[yAI Ck,yAI Ck];unfold AF;rw[yAI Cj,yAI (by simp[GS];omega),yAI (by simp[hd])];unfold AF;rw[yAI Cj,yAI (by simp[GS];omega),yAI (by simp[hq])];rfl
theorem aPE(k:Nat)(kd n sh lo hg at_ m other:Int)(hn0:0<=n)(hn:n<k)(hm0:0<=m)(hm:m<k)(hs:-60<=sh/\sh<=64)(ho:-60<=other/\other<=64)(ha:lo<=at_)(hb:at_<=hg) :
  AE k lo hg (s4 kd n sh lo hg at_ m other)=0:=by
 have d1:n7 k [⟨n,sh⟩]=0:=Z6 hn0 hn Cj Cj;have d2:n7 k [⟨n,sh-12⟩]=0:=Z6 hn0 hn Cj Cj;have d3:n7 k [⟨m,other⟩]=0:=Z6 hm0 hm Cj Cj;unfold s4;split
 .exact SD Ck Ck Dp (aPC hn0 hn Cj Cj)
 split
 .have d4:n7 k (if kd=3 then [⟨m,other⟩]else [⟨n,sh-12⟩])=0:=by
   split
   .exact d3
   .exact d2
  split
  .exact aPD Ck Ck Dp Dp (by simpa using hb) d1 d4
  .exact SD (by simpa using ha) Ck (by simpa using hb) d4
 split
 .exact SD (by simpa using ha) Ck (by simpa using hb) d1
 .exact SD Ck Ck Dp d1
theorem aFC:∀l:List bH,(∀r∈l,pA r=0)->AG l=0
 | [],_=>rfl
 |r::t,h=>by
  unfold AG;rw[h r (yBf ..),yAI Ck];exact aFC t λq hq=>h q (yCq _ hq)
theorem Z7{lo hg:Int}(h3:0<=lo)(h4:lo<=hg)(h5:hg<=127):nG lo hg=0:=by
 unfold nG;rw[yAI Cj,yAI Cj]
theorem aPF(rs:List bH)(hr:∀r∈rs,pA r=0)(h1:1<=rs.length)(h2:rs.length<=60)(lo hg:Int)(h3:0<=lo)(h4:lo<=hg)(h5:hg<=127)(x:qI)(hx:EW x)(i:Nat)(hi:i<10) :
  s5 rs lo hg (vR rs lo hg x i)=0:=by
 have hp:yF rs lo hg=0:=by
  unfold yF;rw[yAI Cj,aFC rs hr,yAI Ck];exact Z7 h3 h4 h5
 have hn:fN [83,digit i]=true:=SE i hi 83 Ck;have hf:=aPG _ (ZX x.dC hx.2.1);have hk:(rs.length:Int)≠0:=Cj;have e1:=yDC x.aL hk;have e2:=yDD x.aL (show(0:Int)<rs.length by omega);have e3:=yDC (x.aL%rs.length+1) hk;have e4:=yDD (x.aL%rs.length+1) (show(0:Int)<rs.length by omega);have e5:=yDC x.at_ (show hg-lo+1≠0 by omega);have e6:=yDD x.at_ (show(0:Int)<hg-lo+1 by omega);unfold s5 vR;simp only;rw[yAI (by simp[hp]),yAI (by simp[hn]),yAI (by simp[hf])];exact aPE _ _ _ _ _ _ _ _ _ e1 e2 e3 e4 (ZY _ _) (ZY _ _) Cj Cj
theorem aFD(rs:List bH)(lo hg:Int):∀(l:List cJ) (ns:List (List UInt8)),(∀s∈l,s5 rs lo hg s=0)->(ns++l.map cJ.name).Nodup->AH rs lo hg ns l=0
 | [],_,_,_=>rfl
 |r::t,ns,h,hn=>by
  have h0:=h r (yBf ..);rw[yAW]at hn;have hnn:r.name∉ns:=λhm=>(yCB.1 hn).2.2 _ hm _ (yBf ..) rfl
  unfold AH;rw[h0,Z8 hnn];simp only[ne_eq,yBM,yAN,yAx];exact aFD rs lo hg t (ns++[r.name]) (λq hq=>h q (yCq _ hq)) (by rw[yAi];exact hn)
theorem aFE(c:UInt8)(hc:c∈([82,83,67,68]:List UInt8))(n:Nat)(hn:n<=10):((List.range n).map λi=>[c,digit i]).Nodup:=by
 have h2:=Z9 c hc n Cj;rw[show(List.range n).map (λi=>[c,digit i])=(List.range n).map λi=>[c,digit (i%10)]from yAG λi hi=>by rw[Nat.mod_eq_of_lt Jb]];exact h2
theorem SF{α:Type}{l:List α}{i:Nat}(h:i<l.length)(d:α):l.getD i d∈l:=by
 rw[yAA,yAh h];exact yAm h
theorem aPH(rs:List bH)(hr:∀r∈rs,pA r=0)(h1:1<=rs.length)(h2:rs.length<=60)(b:r8)(hb:okB b)(hl:b.stops.length<=10)(i:Nat):s6 rs (AB rs b i)=0:=by
 obtain⟨⟨a1,a2⟩,⟨a3,a4⟩,a5⟩:=hb;unfold s6 AB;simp only;have hc:nG (36+b.low%12) (36+b.low%12+b.keys%9)=0:=Z7 Cj Cj Cj;have hll:(vQ rs (36+b.low%12) (36+b.low%12+b.keys%9) b.stops b.stops.length).length=b.stops.length:=by simp[vQ]
 rw[yAI (by simp[hc]),yAI (by rw[hll];omega)];refine aFD _ _ _ _ [] (λs hs=>?_) ?_
 .obtain⟨j,hj,rfl⟩:=yAw.1 hs;have hj':=yAS.1 hj;exact aPF rs hr h1 h2 _ _ Cj Cj Cj _ (a5 _ (SF hj' _)) j Cj
 .rw[yAV,show(vQ rs (36+b.low%12) (36+b.low%12+b.keys%9) b.stops b.stops.length).map cJ.name=(List.range b.stops.length).map λi=>[83,digit i] by
   unfold vQ;rw[yBE];rfl]
  exact aFE 83 Ck _ hl
theorem aFF(rs:List bH):∀(l:List bI) (ns:List (List UInt8)),(∀d∈l,fN d.name=true/\s6 rs d=0)->(ns++l.map bI.name).Nodup->vV rs ns l=0
 | [],_,_,_=>rfl
 |r::t,ns,h,hn=>by
  obtain⟨h0,h1⟩:=h r (yBf ..);rw[yAW]at hn;have hnn:r.name∉ns:=λhm=>(yCB.1 hn).2.2 _ hm _ (yBf ..) rfl
  unfold vV;rw[h0,h1,Z8 hnn];simp only[ne_eq,yBM,yAN,yAx,Bool.true_eq_false];exact aFF rs t (ns++[r.name]) (λq hq=>h q (yCq _ hq)) (by rw[yAi];exact hn)
structure aPI (p:pF):Prop where
 r1:1<=p.aR.length
 r3:p.aR.length<=3
 d1:1<=p.aD.length
 d3:p.aD.length<=3
 c3:p.aP.length<=3
 s3:∀b∈p.aD,b.stops.length<=3
theorem JM{p:pF}(h:mF p=true):aPI p:=by
 simp only[mF,yAr,yCb]at h;obtain⟨⟨⟨⟨⟨hR1,hR3⟩,GP⟩,hD3⟩,hC3⟩,vU⟩:=h;exact⟨hR1,hR3,GP,hD3,hC3,λb hb=>by simpa using yAn.1 vU b hb⟩
theorem aFG{l:List oA}{n:Nat}(hn:n<=l.length){r:bH}(h:r∈iI l n):∃x∈l,∃i,i<n/\r=uO x i:=by
 exact jz
theorem aAa{rs:List bH}{l:List r8}{n:Nat}(hn:n<=l.length){r:bI}(h:r∈lU rs l n):∃x∈l,∃i,i<n/\r=AB rs x i:=by
 exact jz
theorem aPJ{rs:List bH}{lo hg:Int}{l:List qI}{n:Nat}(hn:n<=l.length){r:cJ}(h:r∈vQ rs lo hg l n):∃x∈l,∃i,i<n/\r=vR rs lo hg x i:=by
 exact jz
theorem JN(rs:List bH)(l:List r8)(n:Nat):(lU rs l n).length=n:=by simp[lU]
theorem JO(l:List oA)(n:Nat):(iI l n).length=n:=by simp[iI]
theorem aFH(k:Nat)(l:List tB)(n:Nat):(mO k l n).length=n:=by simp[mO]
theorem aKo(p:pF)(hp:tA p)(hf:mF p=true):bT (fU p)=0:=by
 obtain⟨r1,r3,d1,d3,c3,s3⟩:=JM hf;obtain⟨hpR,hpD,hpC⟩:=hp;have hrl:=JO p.aR p.aR.length;have hra:∀r∈iI p.aR p.aR.length,pA r=0:=λr hr=>by
  obtain⟨x,hx,i,_,rfl⟩:=aFG (yAk _) hr;exact aFI x (hpR x hx) i
 have hrn:=aPK p.aR hpR p.aR.length (yAk _) Cj;obtain⟨rs,hrs⟩:=gn (iI p.aR p.aR.length);have hdl:=JN rs p.aD p.aD.length;have hcl:=aFH p.aD.length p.aP p.aP.length;have hnm:fN [79,114,103,97,110]=true:=Cp;have hco:=aPL p.aP p.aD.length p.aP.length d1 Cj;unfold bT NG fU;simp only;rw[hrs]at hrl hra hrn ⊢;have hdi:vV rs [] (lU rs p.aD p.aD.length)=0:=by
  refine aFF rs _ [] (λd hd=>?_) ?_
  .obtain⟨x,hx,i,hi,rfl⟩:=aAa (yAk _) hd;exact⟨SE i Cj 68 Ck,aPH rs hra Cj Cj x (hpD x hx) (by have:=s3 x hx;omega) i⟩
  .rw[yAV,show(lU rs p.aD p.aD.length).map bI.name=(List.range p.aD.length).map λi=>[68,digit i] by
    unfold lU;rw[yBE];rfl]
   exact aFE 68 Ck _ Cj
 have hkl:(jM (lU rs p.aD p.aD.length)).length=p.aD.length:=by
  unfold jM;rw[yAe,hdl]
 have hcb:CN (jM (lU rs p.aD p.aD.length))=false:=by
  unfold CN;rw[yDE];intro x hx;obtain⟨d,hd,rfl⟩:=yAw.1 hx;obtain⟨b,hb,i,hi,rfl⟩:=aAa (yAk _) hd;obtain⟨⟨a1,a2⟩,⟨a3,a4⟩,a5⟩:=hpD b hb;have hc:nG (36+b.low%12) (36+b.low%12+b.keys%9)=0:=Z7 Cj Cj Cj;simp[AB,hc]
 rw[yAI (by simp[hnm]),yAI Cj,yAI (by simp[hrn]),yAI Cj,yAI Cj,yAI (by simp[hdi])];unfold CO;rw[yAI Cj,yAI (by simp[hcb]),hkl];exact hco
theorem aPM(k n sh lo hi at_ m other:Int):(s4 k n sh lo hi at_ m other).length<=2/\∀g∈s4 k n sh lo hi at_ m other,g.aQ.length<=2:=by
 unfold s4;split
 .simp
 split
 .split
  .constructor
   .simp
   .intro g hg;simp only[yBs,yAV,yBn,yBN,yBO]at hg;rcases hg with rfl|rfl
    .simp
    .simp only;split<;>simp
  .constructor
   .simp
   .intro g hg;simp only[yAV,yBn,yBN,yBO]at hg;subst hg;simp only;split<;>simp
 split
 .simp
 .simp
structure Small (o:aV):Prop where
 nm:o.name.length<=100
 rl:o.aR.length<=60
 rk:∀r∈o.aR,r.name.length<=100/\r.kH.length<=100/\r.mG.length<=100
 dl:o.aD.length<=60
 dv:∀d∈o.aD,d.name.length<=100/\d.stops.length<=100/\∀s∈d.stops,s.name.length<=100/\s.aN.length<=100/\∀g∈s.aN,g.aQ.length<=100
 cl:o.aP.length<=60
 cp:∀c∈o.aP,c.name.length<=100
theorem aKp(p:pF)(hf:mF p=true):Small (fU p):=by
 obtain⟨r1,r3,d1,d3,c3,s3⟩:=JM hf;unfold fU;refine⟨Ck,by simp only[JO];omega,λr hr=>?_,by simp only[JN];omega,λd hd=>?_,by simp only[aFH];omega,λc hc=>?_⟩
 .obtain⟨x,hx,i,_,rfl⟩:=aFG (yAk _) hr;refine⟨by simp[uO],?_,by simp[uO,x9];omega⟩;unfold uO CM;simp only;rw[yAA];have h:∀t∈GR,t.length<=100:=Cn;cases e:GR[(x.kH%3).toNat]? with
  |none=>simp
  |some t=>exact h t (yAE e)
 .obtain⟨b,hb,i,_,rfl⟩:=aAa (yAk _) hd;refine⟨by simp[AB],?_,λs hs=>?_⟩
  .simp only[AB,vQ,yAe,List.length_range];have:=s3 b hb;omega
  .obtain⟨x,hx,j,_,rfl⟩:=aPJ (yAk _) hs;obtain⟨k1,k2⟩:=aPM (x.kind%6) (x.aL%(iI p.aR p.aR.length).length) (w8 (nY x.dC) (EB (iI p.aR p.aR.length) (x.aL%(iI p.aR p.aR.length).length).toNat)) (36+b.low%12) (36+b.low%12+b.keys%9) (36+b.low%12+x.at_%(36+b.low%12+b.keys%9-(36+b.low%12)+1))
    ((x.aL%(iI p.aR p.aR.length).length+1)%(iI p.aR p.aR.length).length) (w8 (nY x.dC) (EB (iI p.aR p.aR.length) ((x.aL%(iI p.aR p.aR.length).length+1)%(iI p.aR p.aR.length).length).toNat))
   unfold vR;exact⟨Ck,Dp,λg hg=>by have:=k2 g hg;omega⟩
 .obtain⟨j,hj,rfl⟩:=yAw.1 hc;simp[JI]
theorem Small.cL{o:aV}(h:Small o):cL o:=by
 obtain⟨h1,h2,h3,h4,h5,h6,h7⟩:=h;refine⟨Gv,⟨λr hr=>?_,Cj⟩,⟨Cj,λd hd=>?_⟩,Cj,λc hc=>?_⟩
 .obtain⟨a,b,c⟩:=h3 r hr;exact⟨by unfold gS KI;omega,Gv,Gv⟩
 .obtain⟨a,b,c⟩:=h5 d hd;refine⟨Gv,Cj,λs hs=>?_⟩;obtain⟨e,f,g⟩:=c s hs;exact⟨⟨Cj,λq hq=>by have:=g q hq;unfold wE yU;omega⟩,Gv⟩
 .have:=h7 c hc;unfold lV;omega
end Go.Kz
end
