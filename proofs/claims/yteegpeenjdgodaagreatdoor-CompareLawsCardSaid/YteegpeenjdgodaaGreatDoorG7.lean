/- Steps of the proof. -/
import Derived.Test.YteegpeenjdgodaaGreatDoorG5c
set_option linter.all false
set_option maxHeartbeats 40000000
set_option maxRecDepth 100000
open Go.Proofs.Tryz
noncomputable section
namespace Go.Kz
open Go Go.Proofs
section
theorem aOz(R:List mW)(i:Nat)(a:mW)(hi:i<R.length)(ha:R[i]=a):gL R (i+1)=gL R i++[sU a i]:=by
 unfold gL;exact ni
theorem aEw(R:List mW)(i:Nat):(gL R i).length=i:=by simp[gL]
def O4:Nat->List PD->List aB->Option (PD×List aB):=entry (dZ Em.xF i64 Em.aG λx i=>dP (BA x/\0<=i/\i<10) (some (sU x i.toNat)))
theorem aOA{x:mW}{i:Nat}(hx:BA x)(hi:i<10)(fl:Nat)(σ:List aB):O4 fl [Em.xF.aA x,.int .i64 i] σ=some (Em.aG.aA (sU x i),σ):=by
 have e2:i64.dec (.int .i64 (i:Int))=some (i:Int):=Em.cM rfl;unfold O4 entry dZ;simp only[Em.aAT,e2];rw[eV ⟨hx,Ah,Ah⟩];rfl
theorem aOB(rs:List bB)(D:List qV)(i:Nat)(a:qV)(hi:i<D.length)(ha:D[i]=a):j7 rs D (i+1)=j7 rs D i++[x9 rs a i]:=by
 unfold j7;exact ni
theorem aEx(rs:List bB)(D:List qV)(i:Nat):(j7 rs D i).length=i:=by simp[j7]
theorem aOC(rs:List bB)(lo hg:Int)(L:List o8)(i:Nat)(a:o8)(hi:i<L.length)(ha:L[i]=a):tV rs lo hg L (i+1)=tV rs lo hg L i++[tX rs lo hg a i]:=by
 unfold tV;exact ni
theorem aOD(rs:List bB)(lo hg:Int)(L:List o8)(i:Nat):(tV rs lo hg L i).length=i:=by simp[tV]
theorem aOE(n:Nat)(L:List rV)(i:Nat)(a:rV)(hi:i<L.length)(ha:L[i]=a):lU n L (i+1)=lU n L i++[HW n a i]:=by
 unfold lU;exact ni
theorem XN(n:Nat)(L:List rV)(i:Nat):(lU n L i).length=i:=by simp[lU]
theorem kK.ne{σ:Gb}{tok:Tok}{e:TypeId}{k n id:Nat}{o:aB}(h:kK σ tok e k n)(ho:σ[id]?=some o)(hn:lI (some o)):tok≠.own id:=by
 rintro rfl
 rcases h with⟨_,h⟩ | ⟨_,id',h,h2⟩
 .cases h
 .simp only[Tok.own.injEq]at h;subst h;rw[ho,yAb]at h2;subst h2;exact hn
theorem kK.set{σ:Gb}{tok:Tok}{e:TypeId}{k n id:Nat}{o x:aB}(h:kK σ tok e k n)(ho:σ[id]?=some o)(hn:lI (some o)):kK (σ.set id x) tok e k n:=
 h.aQ λj o' ej hj=>by
  have:id≠j:=λe=>h.ne ho hn (by rw[ej,e])
  rw[yAd this];exact hj
theorem cE{σ τ:Gb}{i:Nat}{o:aB}(h:σ[i]?=some o):(σ++τ)[i]?=some o:=by
 exact jw
def XO:List PD->Option PD:=λargs=>match args with
 | [a,b,c,d]=>match aM.dec a,Em.cV.dec b,Em.pull.dec c,i64.dec d with
   |some rs,some lh,some x,some i=>dP ((∀r∈rs,(r.num,r.den)∈qP)/\1<=rs.length/\rs.length<=60/\0<=lh.1/\lh.1<=lh.2/\lh.2<=200/\DD x/\0<=i/\i<10) (some (Em.stop.aA (tX rs lh.1 lh.2 x i.toNat)))
   |_,_,_,_=>none
 |_=>none
def J9:Nat->List PD->List aB->Option (PD×List aB):=entry XO
theorem aOF{W:PD}{rs:List bB}{lo hg:Int}{x:o8}{i:Nat}(hW:W.strip=aM.aA rs)(hr:∀r∈rs,(r.num,r.den)∈qP)(h1:1<=rs.length)(h2:rs.length<=60)(hlo:0<=lo)(hlh:lo<=hg)(hhg:hg<=200)(hx:DD x)(hi:i<10)(fl:Nat)(σ:List aB) :
  J9 fl [W,.agg [.int .i64 lo,.int .i64 hg],Em.pull.aA x,.int .i64 i] σ=some (Em.stop.aA (tX rs lo hg x i),σ):=by
 have e1:aM.dec W=some rs:=Em.cM hW;have e2:Em.cV.dec (.agg [.int .i64 lo,.int .i64 hg])=some (lo,hg):=Em.cM (Em.cV.str (lo,hg));have e3:i64.dec (.int .i64 (i:Int))=some (i:Int):=Em.cM rfl;unfold J9 entry XO;simp only[e1,e2,e3,Em.aAT];rw[eV ⟨hr,h1,h2,hlo,hlh,hhg,hx,Ah,Ah⟩];rfl
variable{E:aE}(hU:aH E)
include hU
theorem aL8(h0:E 13=none)(h1:E 30=some O4)(h2:E 31=some J9)(p:oT)(hp:xD p)(hf:mL p=true):aJ prog E 13 [Em.dV.aA p] (Em.bM.aA (fE p)):=by
 obtain⟨R,D,C⟩:=p;have AO:=hf;simp only[mL,yAr,yCk]at AO;obtain⟨⟨⟨⟨⟨XP,hR3⟩,E8⟩,hD3⟩,hC3⟩,tY⟩:=AO;obtain⟨hpR,hpD,hpC⟩:=hp;simp only at hpR hpD hpC;simp only[vN,gF,aW];refine aJ.aN 153 h0 func13 (h:=?_);refine aC trivial ?_;refine Wp.cZ (λm fr σ=>∃(i z:Nat),∃gg:Nat->PD,(i+m=R.length/\(gL R i=[]\/z=6))/\fr=gg 0::.ptr 0 0::.ptr 1 0::.ptr 2 0::.int .i64 i::gg 5::gg 6::gg 7::gg 8::gg 9::gg 10::gg 11::gg 12::gg 13::gg 14::gg 15::gg 16::gg 17::gg 18::gg 19::gg 20::gg 21::gg 22::gg 23::gg 24::gg 25::gg 26::gg 27::gg 28::gg 29::gg 30::gg 31::gg 32::gg 33::gg 34::gg 35::gg 36::gg 37::gg 38::gg 39::gg 40::gg 41::gg 42::gg 43::gg 44::gg 45::gg 46::gg 47::gg 48::gg 49::gg 50::gg 51::gg 52::gg 53::gg 54::gg 55::gg 56::gg 57::gg 58::gg 59::gg 60::gg 61::gg 62::gg 63::gg 64::gg 65::gg 66::gg 67::gg 68::gg 69::gg 70::gg 71::gg 72::gg 73::gg 74::gg 75::gg 76::gg 77::gg 78::gg 79::gg 80::gg 81::gg 82::gg 83::gg 84::gg 85::gg 86::gg 87::gg 88::gg 89::gg 90::gg 91::gg 92::gg 93::gg 94::gg 95::gg 96::gg 97::gg 98::gg 99::gg 100::gg 101::gg 102::gg 103::gg 104::gg 105::gg 106::gg 107::gg 108::gg 109::gg 110::gg 111::gg 112::gg 113::gg 114::gg 115::gg 116::gg 117::gg 118::gg 119::gg 120::gg 121::gg 122::gg 123::gg 124::gg 125::gg 126::gg 127::gg 128::gg 129::gg 130::gg 131::gg 132::gg 133::gg 134::gg 135::gg 136::gg 137::gg 138::gg 139::gg 140::gg 141::gg 142::gg 143::gg 144::gg 145::gg 146::gg 147::gg 148::gg 149::gg 150::gg 151::gg 152::[]/\σ=St [.box (.agg [.slice (sz 9 R) (R.map Em.xF.aA) .any,.slice (sz 4 D) (D.map Em.DE.aA) .any,.slice (sz 4 C) (C.map Em.link.aA) .any]),.box (.agg [.str [],.slice 0 [] .full,.slice 0 [] .full,.slice 0 [] .full]),.box (.agg [.str [79,114,103,97,110],.slice z ((gL R i).map Em.aG.aA) (jM 3 (gL R i).length),.slice 0 [] .full,.slice 0 [] .full])] 48 6 (gL R i).length) ?_ (R.length) (by refine⟨0,0,?_⟩;exact j6 (⟨Ah,.inl rfl⟩) Df Df)
 rintro m fr σ ⟨i,z,gg,hI,rfl,rfl⟩
 obtain⟨hm,hz⟩:=hI
 by_cases hi:i<R.length
 .have q1:(i:Int)<(R.length:Int):=by omega
  obtain⟨a,ha⟩:=gn (R[i]);have hs:=aOz R i a hi ha;have hl:=aEw R i;have hG:=aOA (i:=i) (hpR a (ha▸yAm hi)) Ah;obtain⟨q,hq⟩:=gn (sU a i);rw[hq]at hG hs;obtain⟨L,hL⟩:=gn (gL R i);rw[hL]at hz hl hs ⊢;obtain⟨q0,XQ,q2,q3,q4,q5⟩:=q;obtain⟨a0,a1,a2,a3,a4,a5,a6,a7,a8⟩:=a;simp only[aAt,nN,aW]at hG;refine aC (A7 q1 hi ha h1 hG @hz hl) ?_;refine bV.normal (m-1) Ah (by refine⟨i+1,6,?_⟩;exact eS (⟨Ah,.inr rfl⟩) (A2 hs hl))
 .have q1:¬(i:Int)<(R.length:Int):=by omega
  obtain rfl:i=R.length:=Ah;have hl:=aEw R R.length;have hne:gL R R.length≠[]:=λh=>by rw[h]at hl;simp at hl;omega
  have hz6:z=6:=hz.resolve_left hne;subst hz6;refine aC q1 ?_;have hrf:∀r∈gL R R.length,(r.num,r.den)∈qP:=by
   intro r hr;simp only[gL,yAw,yAX]at hr;obtain⟨j,hj,rfl⟩:=hr;have:R.getD j default=R[j]:=by simp[yAA,hj]
   rw[this];exact aOG _ (hpR _ (yAm hj)).2.1
  have hrl:=hl;obtain⟨rs,hrs⟩:=gn (gL R R.length);have hO:fE ⟨R,D,C⟩=⟨[79,114,103,97,110],rs,j7 rs D D.length,lU D.length C C.length⟩:=by
   unfold fE;simp only[hrs]
  rw[hO];rw[hrs]at hrf hrl hne ⊢;clear hO hrs hz hl hm q1;obtain⟨W,hW⟩:=gn (PD.slice 6 (rs.map Em.aG.aA) (jM 3 rs.length));have hWs:W.strip=aM.aA rs:=by
   rw[<-hW,PD.r8];show _=PD.slice (sz 6 rs) (rs.map Em.aG.aA) .any
   rw[s7 hne,show(rs.map Em.aG.aA).map PD.strip=rs.map Em.aG.aA by rw[yBz];exact yAG λx _=>Em.aG.str x];simp[hne]
  rw[hW];obtain⟨X0,sF⟩:=gn (aB.box (.agg [.slice (sz 9 R) (R.map Em.xF.aA) .any,.slice (sz 4 D) (D.map Em.DE.aA) .any,.slice (sz 4 C) (C.map Em.link.aA) .any]));obtain⟨bJ,PV⟩:=gn (St [X0,.box (.agg [.str [],.slice 0 [] .full,.slice 0 [] .full,.slice 0 [] .full]),.box (.agg [.str [79,114,103,97,110],W,.slice 0 [] .full,.slice 0 [] .full])] 48 6 rs.length);have s0:bJ[0]?=some X0:=by rw[<-PV];exact R4 Ai
  have s1:bJ[1]?=some (.box (.agg [.str [],.slice 0 [] .full,.slice 0 [] .full,.slice 0 [] .full])):=by rw[<-PV];exact R4 Ai
  have s2:bJ[2]?=some (.box (.agg [.str [79,114,103,97,110],W,.slice 0 [] .full,.slice 0 [] .full])):=by rw[<-PV];exact R4 Ai
  rw[sF,PV];have RJ:j7 rs D 0=[]:=rfl;refine Wp.cZ (λm fr σ=>∃(i z:Nat) (tok:Tok) (σ1:List aB),∃gg:Nat->PD,(i+m=D.length/\(j7 rs D i=[]\/z=5)/\kK σ1 tok 53 5 i/\σ1[0]?=some X0/\σ1[1]?=some (.box (.agg [.str [],.slice 0 [] .full,.slice 0 [] .full,.slice 0 [] .full]))/\σ1[2]?=some (.box (.agg [.str [79,114,103,97,110],W,.slice z ((j7 rs D i).map Em.div.aA) tok,.slice 0 [] .full])))/\fr=gg 0::.ptr 0 0::.ptr 1 0::.ptr 2 0::gg 4::.int .i64 i::gg 6::gg 7::gg 8::gg 9::gg 10::gg 11::gg 12::gg 13::gg 14::gg 15::gg 16::gg 17::gg 18::gg 19::gg 20::gg 21::gg 22::gg 23::gg 24::gg 25::gg 26::gg 27::gg 28::gg 29::gg 30::gg 31::gg 32::gg 33::gg 34::gg 35::gg 36::gg 37::gg 38::gg 39::gg 40::gg 41::gg 42::gg 43::gg 44::gg 45::gg 46::gg 47::gg 48::gg 49::gg 50::gg 51::gg 52::gg 53::gg 54::gg 55::gg 56::gg 57::gg 58::gg 59::gg 60::gg 61::gg 62::gg 63::gg 64::gg 65::gg 66::gg 67::gg 68::gg 69::gg 70::gg 71::gg 72::gg 73::gg 74::gg 75::gg 76::gg 77::gg 78::gg 79::gg 80::gg 81::gg 82::gg 83::gg 84::gg 85::gg 86::gg 87::gg 88::gg 89::gg 90::gg 91::gg 92::gg 93::gg 94::gg 95::gg 96::gg 97::gg 98::gg 99::gg 100::gg 101::gg 102::gg 103::gg 104::gg 105::gg 106::gg 107::gg 108::gg 109::gg 110::gg 111::gg 112::gg 113::gg 114::gg 115::gg 116::gg 117::gg 118::gg 119::gg 120::gg 121::gg 122::gg 123::gg 124::gg 125::gg 126::gg 127::gg 128::gg 129::gg 130::gg 131::gg 132::gg 133::gg 134::gg 135::gg 136::gg 137::gg 138::gg 139::gg 140::gg 141::gg 142::gg 143::gg 144::gg 145::gg 146::gg 147::gg 148::gg 149::gg 150::gg 151::gg 152::[]/\σ=σ1) ?_ (D.length) (by refine⟨0,0,.full,bJ,?_⟩;exact cF (⟨Ah,.inl rfl,.inl ⟨rfl,rfl⟩,s0,s1,by rw[RJ];exact s2⟩))
  rintro m fr σ ⟨i,z,tok,σ1,gg,hI,rfl,rfl⟩
  obtain⟨hm,hz,hrow,g0,g1,g2⟩:=hI
  by_cases hi:i<D.length
  .have q1:(i:Int)<(D.length:Int):=by omega
   obtain⟨a,ha⟩:=gn (D[i]);obtain⟨kT,eY,hP8⟩:=hpD a (ha▸yAm hi);have hP3:a.stops.length<=3:=by
    have:=yAn.1 tY a (ha▸yAm hi);exact cr
   have hbs:=aOB rs D i a hi ha;obtain⟨l,ke,pe,P⟩:=a;simp only at kT eY hP8 hP3;obtain⟨l,rfl⟩:∃q:Nat,l=q:=⟨l.toNat,by have:=kT.1;omega⟩;obtain⟨ke,rfl⟩:∃q:Nat,ke=q:=⟨ke.toNat,by have:=eY.1;omega⟩;obtain⟨L,hL⟩:=gn (l%12);obtain⟨K,hK⟩:=gn (ke%9);have t1:(l:Int).tmod 12=(L:Int):=by rw[<-hL];rfl
   have t2:IntKind.i64.wrap (L:Int)=(L:Int):=Am;have t3:IntKind.i64.wrap (36+(L:Int))=36+(L:Int):=Am;have t4:(ke:Int).tmod 9=(K:Int):=by rw[<-hK];rfl
   have t5:IntKind.i64.wrap (K:Int)=(K:Int):=Am;have t6:IntKind.i64.wrap (36+(L:Int)+(K:Int))=36+(L:Int)+K:=Am;have d2:IntKind.i64.wrap (48+(i:Int))=48+(i:Int):=Am;have d3:IntKind.u8.wrap (48+(i:Int))=48+(i:Int):=Ar;obtain⟨dg,hdg⟩:=gn (UInt8.ofNat (48+(i:Int)).toNat);obtain⟨ps,hps⟩:=gn (tV rs (36+(L:Int)) (36+(L:Int)+K) P);have hbo:x9 rs ⟨l,ke,pe,P⟩ i=⟨[68,dg],pe,36+(L:Int),36+(L:Int)+K,ps P.length⟩:=by
    unfold x9 digit;simp only[show(l:Int)%12=(L:Int) by omega,show(ke:Int)%9=(K:Int) by omega,hps,<-hdg,show(48+(i:Int)).toNat=48+i by omega]
   rw[hbo]at hbs;have hpsl:∀k,(ps k).length=k:=λk=>by rw[<-hps];exact aOD _ _ _ _ _
   have aEy:ps 0=[]:=yAf (hpsl 0);have hpss:∀(k:Nat) (x:o8) (hk:k<P.length),P[k]=x->ps (k+1)=ps k++[tX rs (36+(L:Int)) (36+(L:Int)+K) x k]:=λk x hk hx=>by rw[<-hps];exact aOC _ _ _ _ _ _ hk hx
   have sV:=g0;rw[<-sF]at sV;refine aC (A13 q1 hi ha sV @t1 @t2 @t3 @t4 @t5 @t6 @d2 @d3 hdg) ?_;have hlt2:2<σ.length:=(yA.1 g2).1;obtain⟨BX,hBX⟩:=gn (aB.box (.agg [.int .u8 l,.int .u8 ke,.bool pe,.slice (sz 4 P) (P.map Em.pull.aA) .any]));rw[hBX];obtain⟨DX,hDX⟩:=gn (aB.box (.agg [.str [68,dg],.bool pe,.int .i64 (36+(L:Int)),.int .i64 (36+(L:Int)+K),.slice 0 [] .full]));rw[hDX];have u0:(σ++[BX,DX])[0]?=some X0:=by rw[yAg Ah];exact g0
   have u1:(σ++[BX,DX])[1]?=_:=(yAg Ah).trans g1;have u2:(σ++[BX,DX])[2]?=_:=(yAg Ah).trans g2;have u3:(σ++[BX,DX])[σ.length]?=some BX:=Ai;have u4:(σ++[BX,DX])[σ.length+1]?=some DX:=Ai;have urow:=hrow.more (τ:=[BX,DX]);obtain⟨σ3,aEz⟩:=gn (σ++[BX,DX]);rw[aEz]at u0 u1 u2 u3 u4 urow ⊢;obtain⟨pb,hpb⟩:=gn (σ.length);rw[hpb]at u3 u4 hlt2 ⊢;obtain⟨M,hM⟩:∃M,M=m:=⟨_,rfl⟩;rw[<-hM]at hm ⊢;clear hM aEz hpb g0 sV g1 g2 hrow;rw[<-hDX]at u4;refine Wp.cZ (λm fr σ=>∃(k z2:Nat) (HX:Tok) (σ2:List aB),∃gg:Nat->PD,(k+m=P.length/\(ps k=[]\/z2=4)/\kK σ2 HX 56 4 k/\kK σ2 tok 53 5 i/\(∀id,HX=.own id->tok≠.own id)/\σ2[0]?=some X0/\σ2[1]?=some (.box (.agg [.str [],.slice 0 [] .full,.slice 0 [] .full,.slice 0 [] .full]))/\σ2[2]?=some (.box (.agg [.str [79,114,103,97,110],W,.slice z ((j7 rs D i).map Em.div.aA) tok,.slice 0 [] .full]))/\σ2[pb]?=some BX/\σ2[pb+1]?=some (.box (.agg [.str [68,dg],.bool pe,.int .i64 (36+(L:Int)),.int .i64 (36+(L:Int)+K),.slice z2 ((ps k).map Em.stop.aA) HX])))/\fr=gg 0::.ptr 0 0::.ptr 1 0::.ptr 2 0::gg 4::.int .i64 i::.ptr pb 0::gg 7::.ptr (pb+1) 0::.int .i64 k::gg 10::gg 11::gg 12::gg 13::gg 14::gg 15::gg 16::gg 17::gg 18::gg 19::gg 20::gg 21::gg 22::gg 23::gg 24::gg 25::gg 26::gg 27::gg 28::gg 29::gg 30::gg 31::gg 32::gg 33::gg 34::gg 35::gg 36::gg 37::gg 38::gg 39::gg 40::gg 41::gg 42::gg 43::gg 44::gg 45::gg 46::gg 47::gg 48::gg 49::gg 50::gg 51::gg 52::gg 53::gg 54::gg 55::gg 56::gg 57::gg 58::gg 59::gg 60::gg 61::gg 62::gg 63::gg 64::gg 65::gg 66::gg 67::gg 68::gg 69::gg 70::gg 71::gg 72::gg 73::gg 74::gg 75::gg 76::gg 77::gg 78::gg 79::gg 80::gg 81::gg 82::gg 83::gg 84::gg 85::gg 86::gg 87::gg 88::gg 89::gg 90::gg 91::gg 92::gg 93::gg 94::gg 95::gg 96::gg 97::gg 98::gg 99::gg 100::gg 101::gg 102::gg 103::gg 104::gg 105::gg 106::gg 107::gg 108::gg 109::gg 110::gg 111::gg 112::gg 113::gg 114::gg 115::gg 116::gg 117::gg 118::gg 119::gg 120::gg 121::gg 122::gg 123::gg 124::gg 125::gg 126::gg 127::gg 128::gg 129::gg 130::gg 131::gg 132::gg 133::gg 134::gg 135::gg 136::gg 137::gg 138::gg 139::gg 140::gg 141::gg 142::gg 143::gg 144::gg 145::gg 146::gg 147::gg 148::gg 149::gg 150::gg 151::gg 152::[]/\σ=σ2) ?_ (P.length) (by refine⟨0,0,.full,σ3,?_⟩;exact cF (⟨Ah,.inl aEy,.inl ⟨rfl,rfl⟩,urow,(λid e=>Bj),u0,u1,u2,u3,(by rw[aEy];exact u4)⟩))
   rintro m fr σ ⟨k,z2,HX,σ2,gg,hI,rfl,rfl⟩
   obtain⟨hm2,l8,oM,hrowD,N0,v0,v1,v2,v3,v4⟩:=hI
   by_cases hk:k<P.length
   .have q2:(k:Int)<(P.length:Int):=by omega
    obtain⟨x,hx⟩:=gn (P[k]);have hsu:=hpss k x hk hx;have hG:=aOF (i:=k) (x:=x) (lo:=36+(L:Int)) (hg:=36+(L:Int)+K) hWs hrf Ah Ah Ah Ah Ah (hP8 x (hx▸yAm hk)) Ah;obtain⟨q,hq⟩:=gn (tX rs (36+(L:Int)) (36+(L:Int)+K) x k);rw[hq]at hG hsu;obtain⟨q0,XQ,q2',q3⟩:=q;obtain⟨x0,x1,x2,x3⟩:=x;simp only[aAu,pV,aW]at hG;rw[<-hBX]at v3;obtain⟨A,hA⟩:=gn ((ps k).map Em.stop.aA);have hAl:A.length=k:=by rw[<-hA,yAe,hpsl]
    have rN:A=[]\/z2=4:=l8.imp (λh=>Ej) id;obtain⟨fZ,bU,hap,hr',hkeep,hnew⟩:=DK (P:=prog) (t:=51) (e:=56) (k:=4) (b:=56) (s:=z2) (xs:=A) (p:=.agg [.str q0,.int .i64 XQ,.int .i64 q2',.slice (sz 3 q3) (q3.map Em.eZ.aA) .any]) (tk:=.any) (tok:=HX) (σ:=σ)
     underlying51 Aj rN (by rw[hAl];exact oM) Ah Ah
    rw[hA]at v4;have nX:lI (some X0):=Dy;have nB:lI (some BX):=by rw[<-hBX];trivial
    rw[hBX]at v3;have w0:=hkeep 0 _ (oM.ne v0 nX) v0;have w1:=hkeep 1 _ (oM.ne v1 trivial) v1;have w2:=hkeep 2 _ (oM.ne v2 trivial) v2;have w3:=hkeep pb _ (oM.ne v3 nB) v3;have w4:=hkeep (pb+1) _ (oM.ne v4 trivial) v4;rw[hAl]at hr';have aOH:=(hrowD.aQ (σ':=bU) λid o e h=>hkeep id o (λe2=>N0 id e2 e) h);have aOI:∀id,fZ=.own id->tok≠.own id:=λid e e2=>by
     rcases hnew id e with e3|e3
     .exact N0 id e3 e2
     .subst e3;rcases hrowD with⟨_,e4⟩ | ⟨_,id',e4,h5⟩
      .rw[e4]at e2;cases e2
      .rw[e4]at e2;simp only[Tok.own.injEq]at e2;subst e2;have:=(yA.1 h5).1;omega
    rw[<-hBX]at v3;refine aC (A12 q2 @hk hx @v0 @v1 @v2 @v3 @v4 h2 hG hap w4) ?_;have wT:pb+1<bU.length:=(yA.1 w4).1;refine bV.normal (m-1) Ah (by refine⟨k+1,4,fZ,bU.set (pb+1) (.box (.agg [.str [68,dg],.bool pe,.int .i64 (36+(L:Int)),.int .i64 (36+(L:Int)+K),.slice 4 (A++[.agg [.str q0,.int .i64 XQ,.int .i64 q2',.slice (sz 3 q3) (q3.map Em.eZ.aA) .any]]) fZ])),?_⟩;exact cF (⟨Ah,.inr rfl,hr'.set w4 trivial,aOH.set w4 trivial,aOI,(by rw[yAd Ah];exact w0),(by rw[yAd Ah];exact w1),(by rw[yAd Ah];exact w2),(by rw[yAd Ah];exact w3),(by rw[hsu,yAH,hA];exact yAj wT)⟩))
   .have q2:¬(k:Int)<(P.length:Int):=by omega
    obtain rfl:k=P.length:=Ah;obtain⟨Y,hY⟩:=gn (PD.slice z2 ((ps P.length).map Em.stop.aA) HX);have hYp:Y.plain=true:=by rw[<-hY];rfl
    have hYs:Y.strip=.slice (sz 4 (ps P.length)) ((ps P.length).map Em.stop.aA) .any:=by
     rw[<-hY,PD.r8,show((ps P.length).map Em.stop.aA).map PD.strip=(ps P.length).map Em.stop.aA by rw[yBz];exact yAG λx _=>Em.stop.str x];rcases l8 with h|h
     .rw[h];rfl
     .rw[h];simp[sz]
    rw[hY]at v4;rw[<-hBX]at v3;obtain⟨A,hA⟩:=gn ((j7 rs D i).map Em.div.aA);have hAl:A.length=i:=by rw[<-hA,yAe,aEx]
    have rN:A=[]\/z=5:=hz.imp (λh=>Ej) id;rw[hA]at v2;obtain⟨fZ,bU,hap,hr',hkeep,hnew⟩:=DK (P:=prog) (t:=32) (e:=53) (k:=5) (b:=64) (s:=z) (xs:=A) (p:=.agg [.str [68,dg],.bool pe,.int .i64 (36+(L:Int)),.int .i64 (36+(L:Int)+K),.slice (sz 4 (ps P.length)) ((ps P.length).map Em.stop.aA) .any]) (tk:=.any) (tok:=tok) (σ:=σ)
     underlying32 Aj rN (by rw[hAl];exact hrowD) Ah Ah
    have nX:lI (some X0):=Dy;have w0:=hkeep 0 _ (hrowD.ne v0 nX) v0;have w1:=hkeep 1 _ (hrowD.ne v1 trivial) v1;have w2:=hkeep 2 _ (hrowD.ne v2 trivial) v2;rw[hAl]at hr';refine aC (A10 q2 @v0 @v1 @v2 @v3 @v4 hap w2 hYp hYs) ?_;have wT:2<bU.length:=(yA.1 w2).1;refine bV.normal (M-1) Ah (by refine⟨i+1,5,fZ,bU.set 2 (.box (.agg [.str [79,114,103,97,110],W,.slice 5 (A++[.agg [.str [68,dg],.bool pe,.int .i64 (36+(L:Int)),.int .i64 (36+(L:Int)+K),.slice (sz 4 (ps P.length)) ((ps P.length).map Em.stop.aA) .any]]) fZ,.slice 0 [] .full])),?_⟩;exact cF (⟨Ah,.inr rfl,hr'.set w2 trivial,(by rw[yAd Ah];exact w0),(by rw[yAd Ah];exact w1),(by rw[hbs,yAH,hA];exact yAj wT)⟩))
  .have q1:¬(i:Int)<(D.length:Int):=by omega
   obtain rfl:i=D.length:=Ah;have hbl:=aEx rs D D.length;have hbne:j7 rs D D.length≠[]:=λh=>by rw[h]at hbl;simp at hbl;omega
   have hz5:z=5:=hz.resolve_left hbne;subst hz5;obtain⟨Y,hY⟩:=gn (PD.slice 5 ((j7 rs D D.length).map Em.div.aA) tok);have hYp:Y.plain=true:=by rw[<-hY];rfl
   have hYs:Y.strip=.slice (sz 5 (j7 rs D D.length)) ((j7 rs D D.length).map Em.div.aA) .any:=by
    rw[<-hY,PD.r8,show((j7 rs D D.length).map Em.div.aA).map PD.strip=(j7 rs D D.length).map Em.div.aA by rw[yBz];exact yAG λx _=>Em.div.str x];rw[s7 hbne];simp[hbne]
   have hWp:W.plain=true:=by rw[<-hW];rfl
   have aOJ:W.strip=.slice (sz 6 rs) (rs.map Em.aG.aA) .any:=hWs;rw[hY]at g2;have sV:=g0;rw[<-sF]at sV;refine aC (A4 q1 sV @g1 @g2) ?_;have sS:lU D.length C 0=[]:=rfl;refine Wp.cZ (λm fr σ=>∃(j z3:Nat) (CQ:Tok) (σ1:List aB),∃gg:Nat->PD,(j+m=C.length/\(lU D.length C j=[]\/z3=5)/\kK σ1 CQ 58 5 j/\σ1[0]?=some X0/\σ1[1]?=some (.box (.agg [.str [],.slice 0 [] .full,.slice 0 [] .full,.slice 0 [] .full]))/\σ1[2]?=some (.box (.agg [.str [79,114,103,97,110],W,Y,.slice z3 ((lU D.length C j).map Em.aK.aA) CQ])))/\fr=gg 0::.ptr 0 0::.ptr 1 0::.ptr 2 0::gg 4::gg 5::gg 6::gg 7::gg 8::gg 9::.int .i64 D.length::.int .i64 j::gg 12::gg 13::gg 14::gg 15::gg 16::gg 17::gg 18::gg 19::gg 20::gg 21::gg 22::gg 23::gg 24::gg 25::gg 26::gg 27::gg 28::gg 29::gg 30::gg 31::gg 32::gg 33::gg 34::gg 35::gg 36::gg 37::gg 38::gg 39::gg 40::gg 41::gg 42::gg 43::gg 44::gg 45::gg 46::gg 47::gg 48::gg 49::gg 50::gg 51::gg 52::gg 53::gg 54::gg 55::gg 56::gg 57::gg 58::gg 59::gg 60::gg 61::gg 62::gg 63::gg 64::gg 65::gg 66::gg 67::gg 68::gg 69::gg 70::gg 71::gg 72::gg 73::gg 74::gg 75::gg 76::gg 77::gg 78::gg 79::gg 80::gg 81::gg 82::gg 83::gg 84::gg 85::gg 86::gg 87::gg 88::gg 89::gg 90::gg 91::gg 92::gg 93::gg 94::gg 95::gg 96::gg 97::gg 98::gg 99::gg 100::gg 101::gg 102::gg 103::gg 104::gg 105::gg 106::gg 107::gg 108::gg 109::gg 110::gg 111::gg 112::gg 113::gg 114::gg 115::gg 116::gg 117::gg 118::gg 119::gg 120::gg 121::gg 122::gg 123::gg 124::gg 125::gg 126::gg 127::gg 128::gg 129::gg 130::gg 131::gg 132::gg 133::gg 134::gg 135::gg 136::gg 137::gg 138::gg 139::gg 140::gg 141::gg 142::gg 143::gg 144::gg 145::gg 146::gg 147::gg 148::gg 149::gg 150::gg 151::gg 152::[]/\σ=σ1) ?_ (C.length) (by refine⟨0,0,.full,σ,?_⟩;exact cF (⟨Ah,.inl sS,.inl ⟨rfl,rfl⟩,g0,g1,(by rw[sS];exact g2)⟩))
   rintro m fr σ ⟨j,z3,CQ,σ1,gg,hI,rfl,rfl⟩
   obtain⟨hm,hz,hrow,g0,g1,g2⟩:=hI
   by_cases hj:j<C.length
   .have q1:(j:Int)<(C.length:Int):=by omega
    obtain⟨a,ha⟩:=gn (C[j]);obtain⟨XR,XS,XT⟩:=hpC a (ha▸yAm hj);have hls:=aOE D.length C j a hj ha;obtain⟨o,d,s,th⟩:=a;simp only at XR XS XT;obtain⟨o,rfl⟩:∃q:Nat,o=q:=⟨o.toNat,by have:=XR.1;omega⟩;obtain⟨d,rfl⟩:∃q:Nat,d=q:=⟨d.toNat,by have:=XS.1;omega⟩;have ho9:=XR.2;have hd9:=XS.2;have t1:IntKind.i64.wrap (o:Int)=(o:Int):=Am;have t2:IntKind.i64.wrap (d:Int)=(d:Int):=Am;have t3:IntKind.i64.wrap s=s:=by have:=XT.1;have:=XT.2;rw[yAP];omega
    have t4:¬(D.length:Int)=0:=Ah;have t5:¬D=[]:=λh=>by rw[h]at E8;simp at E8
    obtain⟨O,hO⟩:∃O:Int,(o:Int).tmod (D.length:Int)=O:=⟨_,rfl⟩;obtain⟨Q,hQ⟩:∃Q:Int,(d:Int).tmod (D.length:Int)=Q:=⟨_,rfl⟩;obtain⟨S,hS⟩:∃S:Int,s.tmod 25=S:=⟨_,rfl⟩;have hO':(o:Int)%(D.length:Int)=O:=hO;have hQ':(d:Int)%(D.length:Int)=Q:=hQ;have d2:IntKind.i64.wrap (48+(j:Int))=48+(j:Int):=Am;have d3:IntKind.u8.wrap (48+(j:Int))=48+(j:Int):=Ar;obtain⟨dg,hdg⟩:=gn (UInt8.ofNat (48+(j:Int)).toNat);have hln:HW D.length ⟨o,d,s,th⟩ j=⟨[67,dg],O,Q,if O=Q/\S=0 then 12 else S,th⟩:=by
     unfold HW digit;simp only[hO',hQ',hS,<-hdg,show(48+(j:Int)).toNat=48+j by omega]
    rw[hln]at hls;have sV:=g0;rw[<-sF]at sV
    by_cases hoq:O=Q
    .by_cases wS:S=0
     .subst hoq;subst wS;have hE:(if O=O/\(0:Int)=0 then(12:Int)else(0:Int))=12:=Ai;rw[hE]at hls;obtain⟨A,hA⟩:=gn ((lU D.length C j).map Em.aK.aA);have hAl:A.length=j:=by rw[<-hA,yAe,XN]
      have rN:A=[]\/z3=5:=hz.imp (λh=>Ej) id;rw[hA]at g2;have nX:lI (some X0):=Dy;have u0:=cE (τ:=[.box (.agg [.int .u8 o,.int .u8 d,.int .i8 s,.bool th]),.box (.agg [.str [67,dg],.int .i64 O,.int .i64 O,.int .i64 12,.bool th])]) g0;have u1:=cE (τ:=[.box (.agg [.int .u8 o,.int .u8 d,.int .i8 s,.bool th]),.box (.agg [.str [67,dg],.int .i64 O,.int .i64 O,.int .i64 12,.bool th])]) g1;have u2:=cE (τ:=[.box (.agg [.int .u8 o,.int .u8 d,.int .i8 s,.bool th]),.box (.agg [.str [67,dg],.int .i64 O,.int .i64 O,.int .i64 12,.bool th])]) g2;have urow:=hrow.more (τ:=[.box (.agg [.int .u8 o,.int .u8 d,.int .i8 s,.bool th]),.box (.agg [.str [67,dg],.int .i64 O,.int .i64 O,.int .i64 12,.bool th])]);obtain⟨fZ,bU,hap,hr',hkeep,hnew⟩:=DK (P:=prog) (t:=33) (e:=58) (k:=5) (b:=48) (s:=z3) (xs:=A) (p:=.agg [.str [67,dg],.int .i64 O,.int .i64 O,.int .i64 12,.bool th]) (tk:=.any) (tok:=CQ)
       underlying33 Aj rN Fv Ah Ah
      have w0:=hkeep 0 _ (urow.ne u0 nX) u0;have w1:=hkeep 1 _ (urow.ne u1 trivial) u1;have w2:=hkeep 2 _ (urow.ne u2 trivial) u2;rw[hAl]at hr';refine aC (A19 q1 hj ha sV @g2 u2 hap w2 @t1 @t2 @t3 @t4 @t5 hO hQ hS @d2 @d3 hdg) ?_;have wT:2<bU.length:=(yA.1 w2).1;refine bV.normal (m-1) Ah (by refine⟨j+1,5,fZ,bU.set 2 (.box (.agg [.str [79,114,103,97,110],W,Y,.slice 5 (A++[.agg [.str [67,dg],.int .i64 O,.int .i64 O,.int .i64 12,.bool th]]) fZ])),?_⟩;exact cF (⟨Ah,.inr rfl,hr'.set w2 trivial,(by rw[yAd Ah];exact w0),(by rw[yAd Ah];exact w1),Eu⟩))
     .subst hoq;have hE:(if O=O/\S=0 then(12:Int)else S)=S:=by simp[wS]
      rw[hE]at hls;obtain⟨A,hA⟩:=gn ((lU D.length C j).map Em.aK.aA);have hAl:A.length=j:=by rw[<-hA,yAe,XN]
      have rN:A=[]\/z3=5:=hz.imp (λh=>Ej) id;rw[hA]at g2;have nX:lI (some X0):=Dy;have u0:=cE (τ:=[.box (.agg [.int .u8 o,.int .u8 d,.int .i8 s,.bool th]),.box (.agg [.str [67,dg],.int .i64 O,.int .i64 O,.int .i64 S,.bool th])]) g0;have u1:=cE (τ:=[.box (.agg [.int .u8 o,.int .u8 d,.int .i8 s,.bool th]),.box (.agg [.str [67,dg],.int .i64 O,.int .i64 O,.int .i64 S,.bool th])]) g1;have u2:=cE (τ:=[.box (.agg [.int .u8 o,.int .u8 d,.int .i8 s,.bool th]),.box (.agg [.str [67,dg],.int .i64 O,.int .i64 O,.int .i64 S,.bool th])]) g2;have urow:=hrow.more (τ:=[.box (.agg [.int .u8 o,.int .u8 d,.int .i8 s,.bool th]),.box (.agg [.str [67,dg],.int .i64 O,.int .i64 O,.int .i64 S,.bool th])]);obtain⟨fZ,bU,hap,hr',hkeep,hnew⟩:=DK (P:=prog) (t:=33) (e:=58) (k:=5) (b:=48) (s:=z3) (xs:=A) (p:=.agg [.str [67,dg],.int .i64 O,.int .i64 O,.int .i64 S,.bool th]) (tk:=.any) (tok:=CQ)
       underlying33 Aj rN Fv Ah Ah
      have w0:=hkeep 0 _ (urow.ne u0 nX) u0;have w1:=hkeep 1 _ (urow.ne u1 trivial) u1;have w2:=hkeep 2 _ (urow.ne u2 trivial) u2;rw[hAl]at hr';refine aC (A20 q1 hj ha sV @g2 u2 hap w2 @t1 @t2 @t3 @t4 @t5 hO hQ hS @d2 @d3 hdg wS) ?_;have wT:2<bU.length:=(yA.1 w2).1;refine bV.normal (m-1) Ah (by refine⟨j+1,5,fZ,bU.set 2 (.box (.agg [.str [79,114,103,97,110],W,Y,.slice 5 (A++[.agg [.str [67,dg],.int .i64 O,.int .i64 O,.int .i64 S,.bool th]]) fZ])),?_⟩;exact cF (⟨Ah,.inr rfl,hr'.set w2 trivial,(by rw[yAd Ah];exact w0),(by rw[yAd Ah];exact w1),Eu⟩))
    .skip
     have hE:(if O=Q/\S=0 then(12:Int)else S)=S:=by simp[hoq]
     rw[hE]at hls;obtain⟨A,hA⟩:=gn ((lU D.length C j).map Em.aK.aA);have hAl:A.length=j:=by rw[<-hA,yAe,XN]
     have rN:A=[]\/z3=5:=hz.imp (λh=>Ej) id;rw[hA]at g2;have nX:lI (some X0):=Dy;have u0:=cE (τ:=[.box (.agg [.int .u8 o,.int .u8 d,.int .i8 s,.bool th]),.box (.agg [.str [67,dg],.int .i64 O,.int .i64 Q,.int .i64 S,.bool th])]) g0;have u1:=cE (τ:=[.box (.agg [.int .u8 o,.int .u8 d,.int .i8 s,.bool th]),.box (.agg [.str [67,dg],.int .i64 O,.int .i64 Q,.int .i64 S,.bool th])]) g1;have u2:=cE (τ:=[.box (.agg [.int .u8 o,.int .u8 d,.int .i8 s,.bool th]),.box (.agg [.str [67,dg],.int .i64 O,.int .i64 Q,.int .i64 S,.bool th])]) g2;have urow:=hrow.more (τ:=[.box (.agg [.int .u8 o,.int .u8 d,.int .i8 s,.bool th]),.box (.agg [.str [67,dg],.int .i64 O,.int .i64 Q,.int .i64 S,.bool th])]);obtain⟨fZ,bU,hap,hr',hkeep,hnew⟩:=DK (P:=prog) (t:=33) (e:=58) (k:=5) (b:=48) (s:=z3) (xs:=A) (p:=.agg [.str [67,dg],.int .i64 O,.int .i64 Q,.int .i64 S,.bool th]) (tk:=.any) (tok:=CQ)
      underlying33 Aj rN Fv Ah Ah
     have w0:=hkeep 0 _ (urow.ne u0 nX) u0;have w1:=hkeep 1 _ (urow.ne u1 trivial) u1;have w2:=hkeep 2 _ (urow.ne u2 trivial) u2;rw[hAl]at hr';refine aC (A20 q1 hj ha sV @g2 u2 hap w2 @t1 @t2 @t3 @t4 @t5 hO hQ hS @d2 @d3 hdg hoq) ?_;have wT:2<bU.length:=(yA.1 w2).1;refine bV.normal (m-1) Ah (by refine⟨j+1,5,fZ,bU.set 2 (.box (.agg [.str [79,114,103,97,110],W,Y,.slice 5 (A++[.agg [.str [67,dg],.int .i64 O,.int .i64 Q,.int .i64 S,.bool th]]) fZ])),?_⟩;exact cF (⟨Ah,.inr rfl,hr'.set w2 trivial,(by rw[yAd Ah];exact w0),(by rw[yAd Ah];exact w1),Eu⟩))
   .have q1:¬(j:Int)<(C.length:Int):=by omega
    obtain rfl:j=C.length:=Ah;have hzs:PD.strip (.slice z3 ((lU D.length C C.length).map Em.aK.aA) CQ)=.slice (sz 5 (lU D.length C C.length)) ((lU D.length C C.length).map Em.aK.aA) .any:=by
     rw[PD.r8,show((lU D.length C C.length).map Em.aK.aA).map PD.strip=(lU D.length C C.length).map Em.aK.aA by rw[yBz];exact yAG λx _=>Em.aK.str x];rcases hz with h|h
     .rw[h];rfl
     .rw[h];simp[sz]
    obtain⟨V,hV⟩:=gn (PD.slice z3 ((lU D.length C C.length).map Em.aK.aA) CQ);have hVp:V.plain=true:=by rw[<-hV];rfl
    rw[hV]at g2 hzs;have hs1:∀x,(σ.set 1 x)[1]?=some x:=λx=>yAj (yA.1 g1).1
    have sV:=g0;rw[<-sF]at sV;have hWq:=hWp;have hYq:=hYp;have hVq:=hVp;unfold PD.plain at hWq hYq hVq;refine aC (A7 q1 sV @g1 @g2 hWq hYq hVq) ?_;simp(disch:=first|omega|(simp;done)|(simp;omega)) [yAu,hs1,aOJ,hYs,hzs]<;>try rfl
end
section
def rR:List (List UInt8)->List bB->Int
 |_,[]=>0
 |ns,r::t=>if nI r≠0 then nI r else if j9 ns r.name=true then 9 else rR (ns++[r.name]) t
def tZ(rs:List bB):List (List UInt8)->List bD->Int
 |_,[]=>0
 |ns,d::t=>if eL d.name=false then 8 else if j9 ns d.name=true then 9 else if oA rs d≠0 then oA rs d else tZ rs (ns++[d.name]) t
def iQ(l:List bD):List (Int×Int):=l.map λd=>(d.low,d.high)
def K4(o:aP):Int:=if o.aD.length=0 then 13 else if 8<o.aD.length then 4 else if tZ o.aM [] o.aD≠0 then tZ o.aM [] o.aD else AT (iQ o.aD) o.aO
def bH(o:aP):Int:=if eL o.name=false then 8 else if 60<o.aM.length then 4 else if rR [] o.aM≠0 then rR [] o.aM else K4 o
def vF(d:bD):Prop:=j8 d.name/\d.stops.length<=1000000/\∀s∈d.stops,FE s
def dI(o:aP):Prop:=j8 o.name/\AU o.aM/\(o.aD.length<=1000000/\∀d∈o.aD,vF d)/\o.aO.length<=1000000/\∀x∈o.aO,j8 x.name
def O1:Nat->List PD->List aB->Option (PD×List aB):=entry (dZ Em.bM Em.div i64 λo d=>dP (AU o.aM/\vF d) (some (oA o.aM d)))
theorem aO6{o:aP}{d:bD}(h:AU o.aM)(hs:vF d)(fl:Nat)(σ:List aB):O1 fl [Em.bM.aA o,Em.div.aA d] σ=some (.int .i64 (oA o.aM d),σ):=by
 have e1:=Em.cM (Em.bM.str o);have e2:=Em.cM (Em.div.str d);unfold O1 entry dZ;simp only[e1,e2];rw[eV ⟨h,hs⟩];rfl
def O0:Nat->List PD->List aB->Option (PD×List aB):=entry (dZ FF oC i64 λks l=>dP (ks.length<=1000000/\l.length<=1000000/\∀x∈l,j8 x.name) (some (AT ks l)))
theorem aO7{ks:List (Int×Int)}{l:List bP}{p:PD}(h1:ks.length<=1000000)(h2:l.length<=1000000)(h3:∀x∈l,j8 x.name)(hp:p.strip=FF.aA ks)(fl:Nat)(σ:List aB):O0 fl [p,oC.aA l] σ=some (.int .i64 (AT ks l),σ):=by
 have e1:=Em.cM hp;have e2:=Em.cM (oC.str l);unfold O0 entry dZ;simp only[e1,e2];rw[eV ⟨h1,h2,h3⟩];rfl
variable{E:aE}(hU:aH E)
include hU
theorem aDs(h0:E 27=none)(h1:E 60=some EG)(h2:E 61=some J7)(h3:E 62=some wE)(h4:E 63=some O1)(h5:E 64=some O0)(o:aP)(ho:dI o) :
  aJ prog E 27 [Em.bM.aA o] (i64.aA (bH o)):=by
 have hO:=λd (hd:vF d)=>aO6 (o:=o) ho.2.1 hd
 obtain⟨on,rs,od,oc⟩:=o;obtain⟨hon,hrs,⟨hdl,hdd⟩,hcl,hcn⟩:=ho;simp only at hon hrs hdl hdd hcl hcn;have hN:=H4 hon;simp only[gF,aW]at hO;unfold bH;simp only[gF,aW];cases c1:eL on with
 |false=>
  rw[c1]at hN;rw[yAJ rfl];refine aJ.aN 89 h0 func27 (h:=?_);refine mF (A2 h1 hN) ?_;exact ag
 |true=>
 rw[c1]at hN;rw[yAI Ai]
 by_cases c2:60<rs.length
 .have c3:60<(rs.length:Int):=by omega
  rw[yAJ c2];refine aJ.aN 89 h0 func27 (h:=?_);refine mF (A4 h1 hN c2 c3) ?_;exact ag
 have c3:¬60<(rs.length:Int):=Ah;rw[yAI c2];obtain⟨C,hC⟩:=gn (K4 ⟨on,rs,od,oc⟩);rw[hC];obtain⟨B,hB⟩:=gn ((if rR [] rs≠0 then rR [] rs else C));rw[hB];have us:=P4;refine aJ.aN 89 h0 func27 (h:=?_);refine mF (A5 h1 hN c2 c3 @us) ?_;obtain⟨X,hX⟩:=gn (aB.box (.agg [.str on,.slice (sz 6 rs) (rs.map Em.aG.aA) .any,.slice (sz 5 od) (od.map Em.div.aA) .any,.slice (sz 5 oc) (oc.map Em.aK.aA) .any]));refine Wp.cZ (λm fr σ=>∃(i:Nat) (σ1:List aB),∃gg:Nat->PD,(i+m=rs.length/\σ1[0]?=some X/\σ1[1]?=some (jO ((rs.take i).map bB.name))/\(if rR ((rs.take i).map bB.name) (rs.drop i)≠0 then rR ((rs.take i).map bB.name) (rs.drop i)else C)=B)/\fr=gg 0::.ptr 0 0::gg 2::.fK 1::gg 4::gg 5::gg 6::gg 7::gg 8::gg 9::gg 10::gg 11::gg 12::gg 13::gg 14::gg 15::gg 16::gg 17::gg 18::gg 19::gg 20::gg 21::gg 22::gg 23::gg 24::aM.aA rs::.int .i64 rs.length::.int .i64 i::gg 28::gg 29::gg 30::gg 31::gg 32::gg 33::gg 34::gg 35::gg 36::gg 37::gg 38::gg 39::gg 40::gg 41::gg 42::gg 43::gg 44::gg 45::gg 46::gg 47::gg 48::gg 49::gg 50::gg 51::gg 52::gg 53::gg 54::gg 55::gg 56::gg 57::gg 58::gg 59::gg 60::gg 61::gg 62::gg 63::gg 64::gg 65::gg 66::gg 67::gg 68::gg 69::gg 70::gg 71::gg 72::gg 73::gg 74::gg 75::gg 76::gg 77::gg 78::gg 79::gg 80::gg 81::gg 82::gg 83::gg 84::gg 85::gg 86::gg 87::gg 88::[]/\σ=σ1) ?_ (rs.length) (by refine⟨0,[X,.map []],?_⟩;exact eS (⟨Ah,rfl,rfl,hB⟩) @hX)
 rintro m fr σ ⟨i,σ1,gg,hI,rfl,rfl⟩
 obtain⟨hm,hx0,K5,hs⟩:=hI
 by_cases hi:i<rs.length
 .have q1:(i:Int)<(rs.length:Int):=by omega
  obtain⟨a,ha⟩:=gn (rs[i]);have K6:rs.drop i=a::rs.drop (i+1):=At;have htk:(rs.take (i+1)).map bB.name=(rs.take i).map bB.name++[a.name]:=by rw[yBC hi,ha,yAH];rfl
  have hE:=aEO (hrs.1 a (ha▸yAm hi));rw[K6]at hs;unfold rR at hs;have gC:=(yA.1 hx0).1;have hlt2:=(yA.1 K5).1;have j0:∀x:aB,(σ++[x])[σ.length]?=some x:=λx=>Ai
  obtain⟨a0,a1,a2,a3,a4,a5⟩:=a;obtain⟨e,he⟩:=gn (nI ⟨a0,a1,a2,a3,a4,a5⟩);rw[he]at hE hs;simp only[nN,aW]at hE;simp only at hs htk
  by_cases c4:e=0
  rotate_left
  .simp only[ne_eq,c4,yCO,yAL]at hs;subst hs;refine mF (A7 q1 hi ha j0 h2 hE c4) ?_;exact ag
  subst c4;simp only[ne_eq,yBM,yAN]at hs;obtain⟨Z,hZ⟩:=gn (aB.box (.agg [.str a0,.str a1,.int .i64 a2,.int .i64 a3,.int .i64 a4,.slice (sz 1 a5) (a5.map i64.aA) .any]));have hmz:(σ++[Z])[1]?=some (jO ((rs.take i).map bB.name)):=by rw[yAg hlt2];exact K5
  cases hb:j9 ((rs.take i).map bB.name) a0 with
  |true=>
   rw[hb]at hs;simp only[yAL,show ¬(9:Int)=0 by omega,yCO]at hs;subst hs;have hA:=λfl=>YA (fl:=fl) hmz hb
   rw[<-hZ]at hA;refine mF (A8 q1 hi ha j0 h2 hE h3 hA) ?_;exact ag
  |false=>
   rw[hb]at hs;simp only[yAx,yAN]at hs;have hA:=YB (fl:=0) hmz hb (yAF _);obtain⟨kB,eH⟩:=gn ((σ++[Z]).set 1 (jO ((rs.take i).map bB.name++[a0])));have t0:kB[0]?=some X:=by rw[<-eH,yAd Ah,yAg gC];exact hx0
   have t2:kB[1]?=some (jO ((rs.take i).map bB.name++[a0])):=by rw[<-eH];exact yAj Aw
   rw[eH]at hA;rw[<-hZ]at hA;clear eH;refine mF (A8 q1 hi ha j0 h2 hE h3 hA) ?_;refine bV.normal (m-1) Ah (by refine⟨i+1,kB,?_⟩;exact cF (⟨Ah,t0,by rw[htk];exact t2,by rw[htk];exact hs⟩))
 have q1:¬(i:Int)<(rs.length:Int):=Ah;rw[yAs Ah]at hs;have hs2:C=B:=hs;rw[hs2]at hC;clear hs hs2 hB;have hx1:=hx0;rw[<-hX]at hx1;obtain⟨gC,hxe⟩:=yA.1 hx1;unfold K4 at hC;simp only at hC
 by_cases c4:od.length=0
 .rw[yAJ c4]at hC;subst hC;have c5:od=[]:=yAf c4;subst c5;refine mF (A4 q1 hx1 gC hxe) ?_;exact ag
 rw[yAI c4]at hC;have sW:¬od=[]:=λh=>c4 Bu
 by_cases c5:8<od.length
 .rw[yAJ c5]at hC;subst hC;have c6:8<(od.length:Int):=Ah;refine mF (A8 q1 hx1 gC hxe c4 sW c5 c6) ?_;exact ag
 rw[yAI c5]at hC;have c6:¬8<(od.length:Int):=Ah;refine mF (A9 q1 hx1 gC hxe c4 sW c5 c6 @us) ?_;obtain⟨M,hM⟩:=gn (σ.length);obtain⟨YC,P5⟩:=gn (σ++[aB.map []]);have g0:YC[0]?=some X:=by rw[<-P5,yAg gC];exact hx0
 have gM:YC[M]?=some (jO []):=by rw[<-P5,<-hM];simp;rfl
 have hM0:0<M:=Ah;rw[P5,hM];clear P5 hM q1;refine Wp.cZ (λm fr σ=>∃(j z:Nat) (tok:Tok) (σ1:List aB),∃gg:Nat->PD,(j+m=od.length/\σ1[0]?=some X/\σ1[M]?=some (jO ((od.take j).map bD.name))/\(iQ (od.take j)=[]\/z=2)/\kK σ1 tok 50 2 j/\(if tZ rs ((od.take j).map bD.name) (od.drop j)≠0 then tZ rs ((od.take j).map bD.name) (od.drop j)else AT (iQ od) oc)=B)/\fr=gg 0::.ptr 0 0::gg 2::.fK M::gg 4::gg 5::gg 6::gg 7::.slice z ((iQ (od.take j)).map Em.cV.aA) tok::gg 9::gg 10::gg 11::gg 12::gg 13::gg 14::gg 15::gg 16::gg 17::gg 18::gg 19::gg 20::gg 21::gg 22::gg 23::gg 24::gg 25::gg 26::gg 27::gg 28::gg 29::gg 30::gg 31::gg 32::gg 33::gg 34::gg 35::gg 36::gg 37::gg 38::gg 39::gg 40::gg 41::gg 42::gg 43::gg 44::gg 45::gg 46::gg 47::gg 48::gg 49::gg 50::gg 51::gg 52::gg 53::gg 54::gg 55::pX.aA od::.int .i64 od.length::.int .i64 j::gg 59::gg 60::gg 61::gg 62::gg 63::gg 64::gg 65::gg 66::gg 67::gg 68::gg 69::gg 70::gg 71::gg 72::gg 73::gg 74::gg 75::gg 76::gg 77::gg 78::gg 79::gg 80::gg 81::gg 82::gg 83::gg 84::gg 85::gg 86::gg 87::gg 88::[]/\σ=σ1) ?_ (od.length) (by refine⟨0,0,.full,YC,?_⟩;exact j6 (⟨Ah,g0,gM,.inl rfl,.inl ⟨rfl,rfl⟩,hC⟩) Dr Dr)
 rintro m fr σ ⟨j,z,tok,σ1,gg,hI,rfl,rfl⟩
 obtain⟨hm2,hx2,l8,hzz,hrow,hs2⟩:=hI;have hx3:=hx2;rw[<-hX]at hx3;obtain⟨aEP,hxe3⟩:=yA.1 hx3
 by_cases hj:j<od.length
 .have q1:(j:Int)<(od.length:Int):=by omega
  obtain⟨a,ha⟩:=gn (od[j]);have hda:vF a:=hdd a (ha▸yAm hj);have K6:od.drop j=a::od.drop (j+1):=by rw[yAq hj,ha]
  have htk:(od.take (j+1)).map bD.name=(od.take j).map bD.name++[a.name]:=by rw[yBC hj,ha,yAH];rfl
  have hkk:iQ (od.take (j+1))=iQ (od.take j)++[(a.low,a.high)]:=by unfold iQ;rw[yBC hj,ha,yAH];rfl
  have hkl:(iQ (od.take j)).length=j:=by unfold iQ;rw[yAe,yAt];omega
  have hnn:=H4 hda.1;have hE:=hO a hda;rw[K6]at hs2;unfold tZ at hs2;have wT:=(yA.1 l8).1;have j0:∀x:aB,(σ++[x])[σ.length]?=some x:=λx=>Ai
  obtain⟨a0,a1,a2,a3,a4⟩:=a;obtain⟨e,he⟩:=gn (oA rs ⟨a0,a1,a2,a3,a4⟩);simp only[he,lX,aW]at hE;rw[he]at hs2;simp only at hs2 htk hnn hkk;cases d1:eL a0 with
  |false=>
   rw[d1]at hnn hs2;simp only[yAL,show ¬(8:Int)=0 by omega,ne_eq,yCO]at hs2;subst hs2;refine mF (A6 q1 hj ha j0 h1 hnn) ?_;exact ag
  |true=>
  rw[d1]at hnn hs2;simp only[Bool.true_eq_false,yAN]at hs2;obtain⟨Z,hZ⟩:=gn (aB.box (.agg [.str a0,.bool a1,.int .i64 a2,.int .i64 a3,.slice (sz 4 a4) (a4.map Em.stop.aA) .any]));have hmz:(σ++[Z])[M]?=some (jO ((od.take j).map bD.name)):=by rw[yAg wT];exact l8
  cases hb:j9 ((od.take j).map bD.name) a0 with
  |true=>
   rw[hb]at hs2;simp only[yAL,show ¬(9:Int)=0 by omega,ne_eq,yCO]at hs2;subst hs2;have hA:=λfl=>YA (fl:=fl) hmz hb
   rw[<-hZ]at hA;refine mF (A8 q1 hj ha j0 h1 hnn h3 hA) ?_;exact ag
  |false=>
  rw[hb]at hs2;simp only[yAx,yAN]at hs2;have hA:=YB (fl:=0) hmz hb (yAF _);obtain⟨kB,eH⟩:=gn ((σ++[Z]).set M (jO ((od.take j).map bD.name++[a0])));have t0:kB[0]?=some X:=by rw[<-eH,yAd Ah,yAg aEP];exact hx2
  have t2:kB[M]?=some (jO ((od.take j).map bD.name++[a0])):=by rw[<-eH];exact yAj Aw
  have tz:kB[σ.length]?=some Z:=by rw[<-eH,yAd Ah];exact j0 Z
  have tr:kK kB tok 50 2 j:=by rw[<-eH];exact hrow.more.set hmz trivial
  rw[eH]at hA;rw[<-hZ]at hA tz;have P6:=t0;rw[<-hX]at P6;obtain⟨l0,K7⟩:=yA.1 P6;obtain⟨l1,te1⟩:=yA.1 tz;clear eH
  by_cases d2:e=0
  rotate_left
  .simp only[ne_eq,d2,yCO,yAL]at hs2;subst hs2;refine mF (A17 q1 hj ha j0 h1 hnn h3 hA P6 l0 K7 tz l1 te1 h4 hE @d2) ?_;exact ag
  subst d2;simp only[ne_eq,yBM,yAN]at hs2;obtain⟨A,hAA⟩:=gn ((iQ (od.take j)).map Em.cV.aA);have hAl:A.length=j:=by rw[<-hAA,yAe,hkl]
  obtain⟨fZ,bU,hap,hr',hkeep,hnew⟩:=DK (P:=prog) (t:=98) (e:=50) (k:=2) (b:=16) (s:=z) (xs:=A) (p:=.agg [.int .i64 a2,.int .i64 a3]) (tk:=.any) (tok:=tok) (σ:=kB)
   underlying98 Aj (hzz.imp (λh=>by rw[<-hAA,h];rfl) id) (by rw[hAl];exact tr) Ah Ah
  have nX:lI (some X):=by rw[<-hX];trivial
  have w0:=hkeep 0 _ (tr.ne t0 nX) t0;have w2:=hkeep M _ (tr.ne t2 trivial) t2;rw[hAl]at hr';refine mF (A18 q1 hj ha j0 h1 hnn h3 hA P6 l0 K7 tz l1 te1 h4 hE hAA hap) ?_;have hK:(iQ (od.take (j+1))).map Em.cV.aA=A++[.agg [.int .i64 a2,.int .i64 a3]]:=by rw[hkk,yAH,hAA];rfl
  refine bV.normal (m-1) Ah (by refine⟨j+1,2,fZ,bU,?_⟩;exact eS (⟨Ah,w0,by rw[htk];exact w2,.inr rfl,hr',by rw[htk];exact hs2⟩) @hK)
 .have q1:¬(j:Int)<(od.length:Int):=by omega
  obtain rfl:j=od.length:=Ah;rw[yCl]at hs2;have hs3:AT (iQ od) oc=B:=hs2;rw[yBQ]at hzz ⊢;have hkn:iQ od≠[]:=λh=>sW (by simpa [iQ]using h)
  have hz1:z=2:=hzz.resolve_left hkn;subst hz1;have hst:(PD.slice 2 ((iQ od).map Em.cV.aA) tok).strip=FF.aA (iQ od):=by
   rw[PD.r8,show((iQ od).map Em.cV.aA).map PD.strip=(iQ od).map Em.cV.aA by rw[yBz];exact yAG λx _=>Em.cV.str x];rw[aW];simp[sz,hkn]
  have hE:=aO7 (ks:=iQ od) (l:=oc) (by unfold iQ;rw[yAe];exact hdl) hcl hcn hst;rw[hs3]at hE;simp only[aW]at hE;refine mF (A6 q1 hx3 aEP hxe3 h5 hE) ?_;exact ag
end
section
def AA:Nat->List PD->List aB->Option (PD×List aB):=λ_ args σ=>match args with
 | [.agg [.str n,.bool x1,.int .i64 x2,.int .i64 x3,.slice xk xl xt],.ptr id 0]=>match σ[id]? with
   |some (.box (.agg [.str nm,.bool _,.int .i64 _,.int .i64 _,.slice _ _ _]))=>some (.bool (decide (n=nm)),σ++[.box (.agg [.str n,.bool x1,.int .i64 x2,.int .i64 x3,.slice xk xl xt])])
   |_=>none
 |_=>none
section
variable{E:aE}(hU:aH E)
include hU
theorem aRc(h0:E 53=none)(fl:Nat)(x0:List UInt8)(x1:Bool)(x2:Int)(x3:Int)(xk:Nat)(xl:List PD)(xt:Tok)(nm:List UInt8)(y1:Bool)(y2:Int)(y3:Int)(yk:Nat)(yl:List PD)(yt:Tok)(id:Nat)(τ:List aB)(hid:τ[id]?=some (.box (.agg [.str nm,.bool y1,.int .i64 y2,.int .i64 y3,.slice yk yl yt]))) :
  aL prog E fl (.inl 53) [.agg [.str x0,.bool x1,.int .i64 x2,.int .i64 x3,.slice xk xl xt],.ptr id 0] τ (λp1 σ1=>p1=.bool (decide (x0=nm))/\σ1=τ++[.box (.agg [.str x0,.bool x1,.int .i64 x2,.int .i64 x3,.slice xk xl xt])]):=by
 obtain⟨hlt,he⟩:=yA.1 hid;have j0:∀x:aB,(τ++[x])[τ.length]?=some x:=λx=>Ai
 by_cases c:x0=nm
 .rw[yAY c];refine aL.aN 9 h0 func53 (h:=?_);exact yq
 .rw[yBd c];have f0:(x0==nm)=false:=by simpa using c
  refine aL.aN 9 h0 func53 (h:=?_);exact ym
theorem aLy(hE:aF prog E)(h0:E 53=none):aF prog (E.add 53 AA):=
 hE.add Aj λfl args σ p σ' h=>by
  unfold AA at h;split at h
  .split at h
   .rename_i hid;simp only[yAb,yAc]at h;obtain⟨rfl,rfl⟩:=h;exact aL.vH (aRc hU h0 fl _ _ _ _ _ _ _ _ _ _ _ _ _ _ _ σ hid)
   .cases h
  .cases h
end
def AB:Nat->List PD->List aB->Option (PD×List aB):=λ_ args σ=>match args with
 | [.agg [.str n,.int .i64 x1,.int .i64 x2,.slice xk xl xt],.ptr id 0]=>match σ[id]? with
   |some (.box (.agg [.str nm,.int .i64 _,.int .i64 _,.slice _ _ _]))=>some (.bool (decide (n=nm)),σ++[.box (.agg [.str n,.int .i64 x1,.int .i64 x2,.slice xk xl xt])])
   |_=>none
 |_=>none
section
variable{E:aE}(hU:aH E)
include hU
theorem aRd(h0:E 55=none)(fl:Nat)(x0:List UInt8)(x1:Int)(x2:Int)(xk:Nat)(xl:List PD)(xt:Tok)(nm:List UInt8)(y1:Int)(y2:Int)(yk:Nat)(yl:List PD)(yt:Tok)(id:Nat)(τ:List aB)(hid:τ[id]?=some (.box (.agg [.str nm,.int .i64 y1,.int .i64 y2,.slice yk yl yt]))) :
  aL prog E fl (.inl 55) [.agg [.str x0,.int .i64 x1,.int .i64 x2,.slice xk xl xt],.ptr id 0] τ (λp1 σ1=>p1=.bool (decide (x0=nm))/\σ1=τ++[.box (.agg [.str x0,.int .i64 x1,.int .i64 x2,.slice xk xl xt])]):=by
 obtain⟨hlt,he⟩:=yA.1 hid;have j0:∀x:aB,(τ++[x])[τ.length]?=some x:=λx=>Ai
 by_cases c:x0=nm
 .rw[yAY c];refine aL.aN 9 h0 func55 (h:=?_);exact yq
 .rw[yBd c];have f0:(x0==nm)=false:=by simpa using c
  refine aL.aN 9 h0 func55 (h:=?_);exact ym
theorem aLE(hE:aF prog E)(h0:E 55=none):aF prog (E.add 55 AB):=
 hE.add Aj λfl args σ p σ' h=>by
  unfold AB at h;split at h
  .split at h
   .rename_i hid;simp only[yAb,yAc]at h;obtain⟨rfl,rfl⟩:=h;exact aL.vH (aRd hU h0 fl _ _ _ _ _ _ _ _ _ _ _ _ _ σ hid)
   .cases h
  .cases h
end
end
section
def yR(x:bD):aB:=.box (Em.div.aA x)
def mG(nm:List UInt8)(x:bD):Bool:=decide (x.name=nm)
section
variable{E:aE}(hU:aH E)
include hU
theorem aRa(h0:E 52=none)(h1:E 53=some AA)(fl:Nat)(l:List bD)(nm:List UInt8)(y1:Bool)(y2 y3:Int)(yk:Nat)(yl:List PD)(yt:Tok)(id:Nat)(τ:List aB)(hid:τ[id]?=some (.box (.agg [.str nm,.bool y1,.int .i64 y2,.int .i64 y3,.slice yk yl yt])))(hl:l.length<=1000000) :
  aL prog E fl (.inl 52) [(Em.div.list 5).aA l,.func 53 [.ptr id 0]] τ (λp1 σ1=>p1=.int .i64 (cK (mG nm) l 0)/\σ1=τ++(l.take (jV (mG nm) l)).map yR):=by
 obtain⟨B,hB⟩:=gn (cK (mG nm) l 0);obtain⟨V,hV⟩:=gn (jV (mG nm) l);rw[hB,hV];refine aL.aN 19 h0 func52 (h:=?_);refine aC trivial ?_;refine Wp.cZ (λm fr σ=>∃(i:Nat),∃gg:Nat->PD,(i+m=l.length/\cK (mG nm) (l.drop i) i=B/\jV (mG nm) (l.drop i)+i=V)/\fr=[(Em.div.list 5).aA l,.func 53 [.ptr id 0],gg 2,gg 3,gg 4,gg 5,(Em.div.list 5).aA l,.int .i64 l.length,.int .i64 i,gg 9,gg 10,gg 11,gg 12,gg 13,gg 14,gg 15,gg 16,gg 17,gg 18]/\σ=τ++(l.take i).map yR) ?_ (l.length) (by refine⟨0,?_⟩;exact cF (⟨Ah,hB,hV⟩))
 rintro m fr σ ⟨i,gg,hI,rfl,rfl⟩
 obtain⟨hm,hs,hv⟩:=hI
 by_cases hi:i<l.length
 .have q1:(i:Int)<(l.length:Int):=by omega
  obtain⟨a,ha⟩:=gn (l[i]);have hc:l.drop i=a::l.drop (i+1):=At;have htk:l.take (i+1)=l.take i++[a]:=Et;obtain⟨hlt,_⟩:=yA.1 hid;obtain⟨ρ,hρ⟩:=gn (τ++(l.take i).map yR);have AN:ρ[id]?=some (.box (.agg [.str nm,.bool y1,.int .i64 y2,.int .i64 y3,.slice yk yl yt])):=Ez;have hst:τ++(l.take (i+1)).map yR=ρ++[yR a]:=Fk;rw[hc]at hs hv;unfold cK at hs;unfold jV at hv;obtain⟨a0,a1,a2,a3,a4⟩:=a;have hE:AA fl [.agg [.str a0,.bool a1,.int .i64 a2,.int .i64 a3,.slice (sz 4 a4) (a4.map Em.stop.aA) .any],.ptr id 0] ρ=some (.bool (decide (a0=nm)),ρ++[.box (.agg [.str a0,.bool a1,.int .i64 a2,.int .i64 a3,.slice (sz 4 a4) (a4.map Em.stop.aA) .any])]):=by
   unfold AA;simp only[AN]
  have CU:τ++(l.take (i+1)).map yR=ρ++[.box (.agg [.str a0,.bool a1,.int .i64 a2,.int .i64 a3,.slice (sz 4 a4) (a4.map Em.stop.aA) .any])]:=hst;have GM:τ++List.take (i+1) (l.map yR)=ρ++[.box (.agg [.str a0,.bool a1,.int .i64 a2,.int .i64 a3,.slice (sz 4 a4) (a4.map Em.stop.aA) .any])]:=by rw[<-yCP];exact CU
  rw[hρ]
  by_cases hb:a0=nm
  .rw[yAJ (by simp[mG,hb])]at hs hv;exact wq
  .rw[yAI (by simp[mG,hb])]at hs hv;exact cu
 .exact xd
end
def yV(x:bW):aB:=.box (Em.stop.aA x)
def pP(nm:List UInt8)(x:bW):Bool:=decide (x.name=nm)
section
variable{E:aE}(hU:aH E)
include hU
theorem aRb(h0:E 54=none)(h1:E 55=some AB)(fl:Nat)(l:List bW)(nm:List UInt8)(y1 y2:Int)(yk:Nat)(yl:List PD)(yt:Tok)(id:Nat)(τ:List aB)(hid:τ[id]?=some (.box (.agg [.str nm,.int .i64 y1,.int .i64 y2,.slice yk yl yt])))(hl:l.length<=1000000) :
  aL prog E fl (.inl 54) [(Em.stop.list 4).aA l,.func 55 [.ptr id 0]] τ (λp1 σ1=>p1=.int .i64 (cK (pP nm) l 0)/\σ1=τ++(l.take (jV (pP nm) l)).map yV):=by
 obtain⟨B,hB⟩:=gn (cK (pP nm) l 0);obtain⟨V,hV⟩:=gn (jV (pP nm) l);rw[hB,hV];refine aL.aN 19 h0 func54 (h:=?_);refine aC trivial ?_;refine Wp.cZ (λm fr σ=>∃(i:Nat),∃gg:Nat->PD,(i+m=l.length/\cK (pP nm) (l.drop i) i=B/\jV (pP nm) (l.drop i)+i=V)/\fr=[(Em.stop.list 4).aA l,.func 55 [.ptr id 0],gg 2,gg 3,gg 4,gg 5,(Em.stop.list 4).aA l,.int .i64 l.length,.int .i64 i,gg 9,gg 10,gg 11,gg 12,gg 13,gg 14,gg 15,gg 16,gg 17,gg 18]/\σ=τ++(l.take i).map yV) ?_ (l.length) (by refine⟨0,?_⟩;exact cF (⟨Ah,hB,hV⟩))
 rintro m fr σ ⟨i,gg,hI,rfl,rfl⟩
 obtain⟨hm,hs,hv⟩:=hI
 by_cases hi:i<l.length
 .have q1:(i:Int)<(l.length:Int):=by omega
  obtain⟨a,ha⟩:=gn (l[i]);have hc:l.drop i=a::l.drop (i+1):=At;have htk:l.take (i+1)=l.take i++[a]:=Et;obtain⟨hlt,_⟩:=yA.1 hid;obtain⟨ρ,hρ⟩:=gn (τ++(l.take i).map yV);have AN:ρ[id]?=some (.box (.agg [.str nm,.int .i64 y1,.int .i64 y2,.slice yk yl yt])):=Ez;have hst:τ++(l.take (i+1)).map yV=ρ++[yV a]:=Fk;rw[hc]at hs hv;unfold cK at hs;unfold jV at hv;obtain⟨a0,a1,a2,a3⟩:=a;have hE:AB fl [.agg [.str a0,.int .i64 a1,.int .i64 a2,.slice (sz 3 a3) (a3.map Em.eZ.aA) .any],.ptr id 0] ρ=some (.bool (decide (a0=nm)),ρ++[.box (.agg [.str a0,.int .i64 a1,.int .i64 a2,.slice (sz 3 a3) (a3.map Em.eZ.aA) .any])]):=by
   unfold AB;simp only[AN]
  have CU:τ++(l.take (i+1)).map yV=ρ++[.box (.agg [.str a0,.int .i64 a1,.int .i64 a2,.slice (sz 3 a3) (a3.map Em.eZ.aA) .any])]:=hst;have GM:τ++List.take (i+1) (l.map yV)=ρ++[.box (.agg [.str a0,.int .i64 a1,.int .i64 a2,.slice (sz 3 a3) (a3.map Em.eZ.aA) .any])]:=by rw[<-yCP];exact CU
  rw[hρ]
  by_cases hb:a0=nm
  .rw[yAJ (by simp[pP,hb])]at hs hv;exact wq
  .rw[yAI (by simp[pP,hb])]at hs hv;exact cu
 .exact xd
end
end
section
open Classical in
def CB:Nat->List PD->List aB->Option (PD×List aB):=λ_ args σ=>match args with
 | [p,.func g [.ptr id 0]]=>match (Em.div.list 5).dec p with
   |some l=>if p=(Em.div.list 5).aA l/\g=53/\l.length<=1000000 then match σ[id]? with
     |some (.box (.agg [.str nm,.bool _,.int .i64 _,.int .i64 _,.slice _ _ _]))=>some (.int .i64 (cK (mG nm) l 0),σ++(l.take (jV (mG nm) l)).map yR)
     |_=>none
    else none
   |none=>none
 |_=>none
theorem aLB{E:aE}(hU:aH E)(hE:aF prog E)(h0:E 52=none)(h1:E 53=some AA):aF prog (E.add 52 CB):=
 hE.add Aj λfl args σ p σ' h=>by
  unfold CB at h;split at h
  .split at h
   .rename_i l hl;split at h
    .rename_i hc;obtain⟨rfl,rfl,hlen⟩:=hc;split at h
     .rename_i hid;simp only[yAb,yAc]at h;obtain⟨rfl,rfl⟩:=h;exact aL.vH (aRa hU h0 h1 fl l _ _ _ _ _ _ _ _ σ hid hlen)
     .cases h
    .cases h
   .cases h
  .cases h
open Classical in
def CC:Nat->List PD->List aB->Option (PD×List aB):=λ_ args σ=>match args with
 | [p,.func g [.ptr id 0]]=>match (Em.stop.list 4).dec p with
   |some l=>if p=(Em.stop.list 4).aA l/\g=55/\l.length<=1000000 then match σ[id]? with
     |some (.box (.agg [.str nm,.int .i64 _,.int .i64 _,.slice _ _ _]))=>some (.int .i64 (cK (pP nm) l 0),σ++(l.take (jV (pP nm) l)).map yV)
     |_=>none
    else none
   |none=>none
 |_=>none
theorem aLH{E:aE}(hU:aH E)(hE:aF prog E)(h0:E 54=none)(h1:E 55=some AB):aF prog (E.add 54 CC):=
 hE.add Aj λfl args σ p σ' h=>by
  unfold CC at h;split at h
  .split at h
   .rename_i l hl;split at h
    .rename_i hc;obtain⟨rfl,rfl,hlen⟩:=hc;split at h
     .rename_i hid;simp only[yAb,yAc]at h;obtain⟨rfl,rfl⟩:=h;exact aL.vH (aRb hU h0 h1 fl l _ _ _ _ _ _ _ σ hid hlen)
     .cases h
    .cases h
   .cases h
  .cases h
theorem aQ8{l:List bD}(hl:l.length<=1000000){id:Nat}{σ:Gb}{nm:Gd}{y1:Bool}{y2 y3:Int}{yk:Nat}{yl:Gc}{yt:Tok}(hid:σ[id]?=some (.box (.agg [.str nm,.bool y1,.int .i64 y2,.int .i64 y3,.slice yk yl yt])))(fl:Nat) :
  CB fl [(Em.div.list 5).aA l,.func 53 [.ptr id 0]] σ=some (.int .i64 (cK (mG nm) l 0),σ++(l.take (jV (mG nm) l)).map yR):=by
 have e1:=Em.cM ((Em.div.list 5).str l);unfold CB;simp only[e1];rw[yAJ ⟨trivial,trivial,hl⟩];simp only[hid]
theorem aQ9{l:List bW}(hl:l.length<=1000000){id:Nat}{σ:Gb}{nm:Gd}{y1 y2:Int}{yk:Nat}{yl:Gc}{yt:Tok}(hid:σ[id]?=some (.box (.agg [.str nm,.int .i64 y1,.int .i64 y2,.slice yk yl yt])))(fl:Nat) :
  CC fl [(Em.stop.list 4).aA l,.func 55 [.ptr id 0]] σ=some (.int .i64 (cK (pP nm) l 0),σ++(l.take (jV (pP nm) l)).map yV):=by
 have e1:=Em.cM ((Em.stop.list 4).str l);unfold CC;simp only[e1];rw[yAJ ⟨trivial,trivial,hl⟩];simp only[hid]
end
theorem aO3:∀x∈qP,rQ x.1 x.2=0:=Ao
theorem aOW:∀x∈CR,rQ x.1 x.2=0:=Ao
theorem PZ:∀i:Nat,i<10->∀c∈([82,83,67,68]:List UInt8),eL [c,UInt8.ofNat (48+i)]=true:=Ao
theorem aO4:∀n:Int,eL (AR n)=true:=by
 intro n;have h:∀t∈FB,eL t=true:=Ao;have h0:eL [79,112,101,110]=true:=Ao;unfold AR;rw[yAA];cases e:FB[(n%3).toNat]? with
 |none=>
  have:=(yEe.1 e);have h3:FB.length=3:=rfl;omega
 |some t=>exact h t (yAE e)
theorem aO5(n:Int):oH n∈qP:=by
 have hlt:(n%16).toNat<qP.length:=by
  have h:qP.length=16:=rfl;omega
 unfold oH;rw[yAA,yAh hlt];exact yAm hlt
theorem aEK(x:mW)(hx:BA x)(i:Nat):nI (sU x i)=0:=by
 have h1:eL [82,digit (i%10)]=true:=PZ (i%10) (yBs _ Al) 82 Ai;have h2:=aO4 x.jJ;have h3:=aO3 _ (aO5 x.cV);have h4:=hx.2.2.1;have hwl:(wV x (1+(x.y9%25).toNat)).length=1+(x.y9%25).toNat:=by simp[wV]
 have hb:(wV x (1+(x.y9%25).toNat)).any lV=false:=by
  rw[yDB];intro w hw;obtain⟨k,_,rfl⟩:=yAw.1 hw;have hlt:k%5<5:=yBs _ Al;have hr:0<=wU x k/\wU x k<=255:=by
   exact ij
  unfold lV;simp;omega
 unfold nI sU;simp only[h1,h2,h3,hwl,hb];have h5:-256<=x.first/\x.first<=256:=⟨by have:=h4.1;omega,by have:=h4.2;omega⟩;simp[h5];omega
theorem X7{ns:List (List UInt8)}{nm:Gd}(h:nm∉ns):j9 ns nm=false:=by
 unfold j9;rw[yDB];intro n hn e;exact h (by rw[show nm=n by simpa using e];exact hn)
theorem aEL:∀(l:List bB) (ns:List (List UInt8)),(∀r∈l,nI r=0)->(ns++l.map bB.name).Nodup->rR ns l=0
 | [],_,_,_=>rfl
 |r::t,ns,h,hn=>by
  have h0:=h r (yBc ..);rw[yAS]at hn;have hnn:r.name∉ns:=λhm=>(yCB.1 hn).2.2 _ hm _ (yBc ..) rfl
  unfold rR;rw[h0,X7 hnn];simp only[ne_eq,yBM,yAN,yAx];exact aEL t (ns++[r.name]) (λq hq=>h q (yBH _ hq)) (by rw[yAi];exact hn)
theorem X8:∀c∈([82,83,67,68]:List UInt8),∀n:Nat,n<11->((List.range n).map λi=>[c,digit (i%10)]).Nodup:=Ao
theorem aO0(l:List mW)(hl:∀x∈l,BA x)(n:Nat)(hn:n<=l.length)(aWk:n<=10):rR [] (gL l n)=0:=by
 refine aEL _ [] (λr hr=>?_) ?_
 .obtain⟨i,hi,rfl⟩:=yAw.1 hr;have hi':i<l.length:=Fs;refine aEK _ ?_ i;rw[yAA,yAh hi'];exact hl _ (yAm hi')
 .rw[yAO];have h:(gL l n).map bB.name=(List.range n).map λi=>[82,digit (i%10)]:=by
   unfold gL;rw[yBz];rfl
  rw[h];exact X8 82 Ai n Ah
def aEM(k:Nat)(c:bP):Prop:=eL c.name=true/\0<=c.dR/\c.dR<k/\0<=c.dst/\c.dst<k/\-127<=c.shift/\c.shift<=127/\¬(c.dR=c.dst/\c.shift=0)
theorem aEN(k:Nat):∀(l pre:List bP),(∀c∈l,aEM k c)->(pre.map bP.name++l.map bP.name).Nodup->sX k pre l=0
 | [],_,_,_=>rfl
 |c::t,pre,h,hn=>by
  obtain⟨h1,h2,h3,h4,h5,h6,h7,h8⟩:=h c (yBc ..);rw[yAS]at hn;have hnn:pre.any (jA c.name)=false:=by
   rw[yDB];intro x hx e;have e2:x.name=c.name:=by simpa [jA]using e
   exact(yCB.1 hn).2.2 _ (yAw.2 ⟨x,hx,rfl⟩) _ (yBc ..) e2
  unfold sX;rw[h1,hnn,yAI Ai,yAI Ai,yAI Ah,yAI Ah,yAI h8];exact aEN k t (pre++[c]) (λq hq=>h q (yBH _ hq)) (by rw[yAH,yAi];exact hn)
theorem aO1(l:List rV)(n k:Nat)(hn:1<=n)(hk:k<=10):sX n [] (lU n l k)=0:=by
 refine aEN n _ [] (λc hc=>?_) ?_
 .obtain⟨i,hi,rfl⟩:=yAw.1 hc;have hi':=yAX.1 hi;obtain⟨x,hx⟩:=gn (l.getD i default);simp only[hx];have hnm:eL [67,digit i]=true:=PZ i Ah 67 Ai;have e1:=yDz x.dR (show(n:Int)≠0 by omega);have e2:=yDA x.dR (show(0:Int)<n by omega);have e3:=yDz x.dst (show(n:Int)≠0 by omega);have e4:=yDA x.dst (show(0:Int)<n by omega);unfold aEM HW;simp only;obtain⟨s,hs⟩:=gn (x.shift.tmod 25);have e5:-25<s/\s<25:=by
   rw[<-hs];rcases Int.lt_or_le x.shift 0 with h|h
   .have:=Int.neg_tmod (-x.shift) 25;rw[Int.neg_neg]at this;rw[this,yBY Ah];omega
   .rw[yBY h];omega
  rw[hs];refine⟨hnm,e1,e2,e3,e4,?_,?_,?_⟩
  .split<;>omega
  .split<;>omega
  .split
   .omega
   .assumption
 .have h:(lU n l k).map bP.name=(List.range k).map λi=>[67,digit i]:=by
   unfold lU;rw[yBz];rfl
  rw[yBp,yAO,h];have h2:=X8 67 Ai k Ah;rw[show(List.range k).map (λi=>[(67:UInt8),digit i])=(List.range k).map λi=>[67,digit (i%10)]from yAG λi hi=>by rw[Nat.mod_eq_of_lt Fs]];exact h2
theorem X5{k:Nat}{n s:Int}(h0:0<=n)(h1:n<k)(h2:-127<=s)(h3:s<=127):mT k [⟨n,s⟩]=0:=by
 unfold mT;rw[yAI Ai];unfold yH;rw[yAI Bk,yAI Bk,yAI Ai];rfl
theorem aOS{k:Nat}{n s:Int}(h0:0<=n)(h1:n<k)(h2:-127<=s)(h3:s+7<=127):mT k [⟨n,s⟩,⟨n,s+7⟩]=0:=by
 unfold mT;rw[yAI Ai];unfold yH;rw[yAI Bk,yAI Bk,yAI Ai];unfold yH;rw[yAI Bk,yAI Bk,yAI Aw];rfl
theorem PY{k:Nat}{lo hg:Int}{g:iU}(h1:lo<=g.lo)(h2:g.hi<=hg)(h3:g.lo<=g.hi)(hd:mT k g.aX=0):yI k lo hg [g]=0:=by
 unfold yI;rw[yAI Ai,yAI Ai];unfold yJ;rw[yAI Ah,yAI (by simp[FD];omega),yAI (by simp[hd])];rfl
theorem aOT{k:Nat}{lo hg:Int}{g q:iU}(h1:lo<=g.lo)(h2:q.hi<=hg)(h3:g.lo<=g.hi)(h4:g.hi<q.lo)(h5:q.lo<=q.hi)(hd:mT k g.aX=0)(hq:mT k q.aX=0):yI k lo hg [g,q]=0:=by
 unfold yI;rw[yAI Ai,yAI Ai];unfold yJ;rw[yAI Ah,yAI (by simp[FD];omega),yAI (by simp[hd])];unfold yJ;rw[yAI Ah,yAI (by simp[FD];omega),yAI (by simp[hq])];rfl
theorem aOU(k:Nat)(kd n sh lo hg at_ m other:Int)(hn0:0<=n)(hn:n<k)(hm0:0<=m)(hm:m<k)(hs:-60<=sh/\sh<=64)(ho:-60<=other/\other<=64)(ha:lo<=at_)(hb:at_<=hg) :
  yI k lo hg (rO kd n sh lo hg at_ m other)=0:=by
 have d1:mT k [⟨n,sh⟩]=0:=X5 hn0 hn Ah Ah;have d2:mT k [⟨n,sh-12⟩]=0:=X5 hn0 hn Ah Ah;have d3:mT k [⟨m,other⟩]=0:=X5 hm0 hm Ah Ah;unfold rO;split
 .exact PY Ai Ai Bk (aOS hn0 hn Ah Ah)
 split
 .have d4:mT k (if kd=3 then [⟨m,other⟩]else [⟨n,sh-12⟩])=0:=by
   split
   .exact d3
   .exact d2
  split
  .exact aOT Ai Ai Bk Bk (by simpa using hb) d1 d4
  .exact PY (by simpa using ha) Ai (by simpa using hb) d4
 split
 .exact PY (by simpa using ha) Ai (by simpa using hb) d1
 .exact PY Ai Ai Bk d1
theorem aEE:∀l:List bB,(∀r∈l,nI r=0)->yK l=0
 | [],_=>rfl
 |r::t,h=>by
  unfold yK;rw[h r (yBc ..),yAI Ai];exact aEE t λq hq=>h q (yBH _ hq)
theorem X6{lo hg:Int}(h3:0<=lo)(h4:lo<=hg)(h5:hg<=127):mE lo hg=0:=by
 unfold mE;rw[yAI Ah,yAI Ah]
theorem aOV(rs:List bB)(hr:∀r∈rs,nI r=0)(h1:1<=rs.length)(h2:rs.length<=60)(lo hg:Int)(h3:0<=lo)(h4:lo<=hg)(h5:hg<=127)(x:o8)(hx:DD x)(i:Nat)(hi:i<10) :
  rP rs lo hg (tX rs lo hg x i)=0:=by
 have hp:wW rs lo hg=0:=by
  unfold wW;rw[yAI Ah,aEE rs hr,yAI Ai];exact X6 h3 h4 h5
 have hn:eL [83,digit i]=true:=PZ i hi 83 Ai;have hf:=aOW _ (XU x.cV hx.2.1);have hk:(rs.length:Int)≠0:=Ah;have e1:=yDz x.aG hk;have e2:=yDA x.aG (show(0:Int)<rs.length by omega);have e3:=yDz (x.aG%rs.length+1) hk;have e4:=yDA (x.aG%rs.length+1) (show(0:Int)<rs.length by omega);have e5:=yDz x.at_ (show hg-lo+1≠0 by omega);have e6:=yDA x.at_ (show(0:Int)<hg-lo+1 by omega);unfold rP tX;simp only;rw[yAI (by simp[hp]),yAI (by simp[hn]),yAI (by simp[hf])];exact aOU _ _ _ _ _ _ _ _ _ e1 e2 e3 e4 (XV _ _) (XV _ _) Ah Ah
theorem aEF(rs:List bB)(lo hg:Int):∀(l:List bW) (ns:List (List UInt8)),(∀s∈l,rP rs lo hg s=0)->(ns++l.map bW.name).Nodup->yL rs lo hg ns l=0
 | [],_,_,_=>rfl
 |r::t,ns,h,hn=>by
  have h0:=h r (yBc ..);rw[yAS]at hn;have hnn:r.name∉ns:=λhm=>(yCB.1 hn).2.2 _ hm _ (yBc ..) rfl
  unfold yL;rw[h0,X7 hnn];simp only[ne_eq,yBM,yAN,yAx];exact aEF rs lo hg t (ns++[r.name]) (λq hq=>h q (yBH _ hq)) (by rw[yAi];exact hn)
theorem aEG(c:UInt8)(hc:c∈([82,83,67,68]:List UInt8))(n:Nat)(hn:n<=10):((List.range n).map λi=>[c,digit i]).Nodup:=by
 have h2:=X8 c hc n Ah;rw[show(List.range n).map (λi=>[c,digit i])=(List.range n).map λi=>[c,digit (i%10)]from yAG λi hi=>by rw[Nat.mod_eq_of_lt Fs]];exact h2
theorem P0{α:Type}{l:List α}{i:Nat}(h:i<l.length)(d:α):l.getD i d∈l:=by
 rw[yAA,yAh h];exact yAm h
theorem aOX(rs:List bB)(hr:∀r∈rs,nI r=0)(h1:1<=rs.length)(h2:rs.length<=60)(b:qV)(hb:okB b)(hl:b.stops.length<=10)(i:Nat):oA rs (x9 rs b i)=0:=by
 obtain⟨⟨a1,a2⟩,⟨a3,a4⟩,a5⟩:=hb;unfold oA x9;simp only;have hc:mE (36+b.low%12) (36+b.low%12+b.keys%9)=0:=X6 Ah Ah Ah;have hll:(tV rs (36+b.low%12) (36+b.low%12+b.keys%9) b.stops b.stops.length).length=b.stops.length:=by simp[tV]
 rw[yAI (by simp[hc]),yAI (by rw[hll];omega)];refine aEF _ _ _ _ [] (λs hs=>?_) ?_
 .obtain⟨j,hj,rfl⟩:=yAw.1 hs;have hj':=yAX.1 hj;exact aOV rs hr h1 h2 _ _ Ah Ah Ah _ (a5 _ (P0 hj' _)) j Ah
 .rw[yAO,show(tV rs (36+b.low%12) (36+b.low%12+b.keys%9) b.stops b.stops.length).map bW.name=(List.range b.stops.length).map λi=>[83,digit i] by
   unfold tV;rw[yBz];rfl]
  exact aEG 83 Ai _ hl
theorem aEH(rs:List bB):∀(l:List bD) (ns:List (List UInt8)),(∀d∈l,eL d.name=true/\oA rs d=0)->(ns++l.map bD.name).Nodup->tZ rs ns l=0
 | [],_,_,_=>rfl
 |r::t,ns,h,hn=>by
  obtain⟨h0,h1⟩:=h r (yBc ..);rw[yAS]at hn;have hnn:r.name∉ns:=λhm=>(yCB.1 hn).2.2 _ hm _ (yBc ..) rfl
  unfold tZ;rw[h0,h1,X7 hnn];simp only[ne_eq,yBM,yAN,yAx,Bool.true_eq_false];exact aEH rs t (ns++[r.name]) (λq hq=>h q (yBH _ hq)) (by rw[yAi];exact hn)
structure aOY (p:oT):Prop where
 r1:1<=p.aM.length
 r3:p.aM.length<=3
 d1:1<=p.aD.length
 d3:p.aD.length<=3
 c3:p.aO.length<=3
 s3:∀b∈p.aD,b.stops.length<=3
theorem HZ{p:oT}(h:mL p=true):aOY p:=by
 simp only[mL,yAr,yCk]at h;obtain⟨⟨⟨⟨⟨XP,hR3⟩,E8⟩,hD3⟩,hC3⟩,tY⟩:=h;exact⟨XP,hR3,E8,hD3,hC3,λb hb=>by simpa using yAn.1 tY b hb⟩
theorem aEI{l:List mW}{n:Nat}(hn:n<=l.length){r:bB}(h:r∈gL l n):∃x∈l,∃i,i<n/\r=sU x i:=by
 exact jc
theorem X9{rs:List bB}{l:List qV}{n:Nat}(hn:n<=l.length){r:bD}(h:r∈j7 rs l n):∃x∈l,∃i,i<n/\r=x9 rs x i:=by
 exact jc
theorem aOZ{rs:List bB}{lo hg:Int}{l:List o8}{n:Nat}(hn:n<=l.length){r:bW}(h:r∈tV rs lo hg l n):∃x∈l,∃i,i<n/\r=tX rs lo hg x i:=by
 exact jc
theorem H0(rs:List bB)(l:List qV)(n:Nat):(j7 rs l n).length=n:=by simp[j7]
theorem H3(l:List mW)(n:Nat):(gL l n).length=n:=by simp[gL]
theorem aEJ(k:Nat)(l:List rV)(n:Nat):(lU k l n).length=n:=by simp[lU]
theorem aJX(p:oT)(hp:xD p)(hf:mL p=true):bH (fE p)=0:=by
 obtain⟨r1,r3,d1,d3,c3,s3⟩:=HZ hf;obtain⟨hpR,hpD,hpC⟩:=hp;have hrl:=H3 p.aM p.aM.length;have hra:∀r∈gL p.aM p.aM.length,nI r=0:=λr hr=>by
  obtain⟨x,hx,i,_,rfl⟩:=aEI (yAk _) hr;exact aEK x (hpR x hx) i
 have hrn:=aO0 p.aM hpR p.aM.length (yAk _) Ah;obtain⟨rs,hrs⟩:=gn (gL p.aM p.aM.length);have hdl:=H0 rs p.aD p.aD.length;have hcl:=aEJ p.aD.length p.aO p.aO.length;have hnm:eL [79,114,103,97,110]=true:=Ao;have hco:=aO1 p.aO p.aD.length p.aO.length d1 Ah;unfold bH K4 fE;simp only;rw[hrs]at hrl hra hrn ⊢;have hdi:tZ rs [] (j7 rs p.aD p.aD.length)=0:=by
  refine aEH rs _ [] (λd hd=>?_) ?_
  .obtain⟨x,hx,i,hi,rfl⟩:=X9 (yAk _) hd;exact⟨PZ i Ah 68 Ai,aOX rs hra Ah Ah x (hpD x hx) (by have:=s3 x hx;omega) i⟩
  .rw[yAO,show(j7 rs p.aD p.aD.length).map bD.name=(List.range p.aD.length).map λi=>[68,digit i] by
    unfold j7;rw[yBz];rfl]
   exact aEG 68 Ai _ Ah
 have hkl:(iQ (j7 rs p.aD p.aD.length)).length=p.aD.length:=by
  unfold iQ;rw[yAe,hdl]
 have hcb:AS (iQ (j7 rs p.aD p.aD.length))=false:=by
  unfold AS;rw[yDB];intro x hx;obtain⟨d,hd,rfl⟩:=yAw.1 hx;obtain⟨b,hb,i,hi,rfl⟩:=X9 (yAk _) hd;obtain⟨⟨a1,a2⟩,⟨a3,a4⟩,a5⟩:=hpD b hb;have hc:mE (36+b.low%12) (36+b.low%12+b.keys%9)=0:=X6 Ah Ah Ah;simp[x9,hc]
 rw[yAI (by simp[hnm]),yAI Ah,yAI (by simp[hrn]),yAI Ah,yAI Ah,yAI (by simp[hdi])];unfold AT;rw[yAI Ah,yAI (by simp[hcb]),hkl];exact hco
theorem aO2(k n sh lo hi at_ m other:Int):(rO k n sh lo hi at_ m other).length<=2/\∀g∈rO k n sh lo hi at_ m other,g.aX.length<=2:=by
 unfold rO;split
 .simp
 split
 .split
  .constructor
   .simp
   .intro g hg;simp only[yAR,yAO,yBh,yBX,yC]at hg;rcases hg with rfl|rfl
    .simp
    .simp only;split<;>simp
  .constructor
   .simp
   .intro g hg;simp only[yAO,yBh,yBX,yC]at hg;subst hg;simp only;split<;>simp
 split
 .simp
 .simp
structure Small (o:aP):Prop where
 nm:o.name.length<=100
 rl:o.aM.length<=60
 rk:∀r∈o.aM,r.name.length<=100/\r.jJ.length<=100/\r.kX.length<=100
 dl:o.aD.length<=60
 dv:∀d∈o.aD,d.name.length<=100/\d.stops.length<=100/\∀s∈d.stops,s.name.length<=100/\s.aU.length<=100/\∀g∈s.aU,g.aX.length<=100
 cl:o.aO.length<=60
 cp:∀c∈o.aO,c.name.length<=100
theorem aJY(p:oT)(hf:mL p=true):Small (fE p):=by
 obtain⟨r1,r3,d1,d3,c3,s3⟩:=HZ hf;unfold fE;refine⟨Ai,by simp only[H3];omega,λr hr=>?_,by simp only[H0];omega,λd hd=>?_,by simp only[aEJ];omega,λc hc=>?_⟩
 .obtain⟨x,hx,i,_,rfl⟩:=aEI (yAk _) hr;refine⟨by simp[sU],?_,by simp[sU,wV];omega⟩;unfold sU AR;simp only;rw[yAA];have h:∀t∈FB,t.length<=100:=Al;cases e:FB[(x.jJ%3).toNat]? with
  |none=>simp
  |some t=>exact h t (yAE e)
 .obtain⟨b,hb,i,_,rfl⟩:=X9 (yAk _) hd;refine⟨by simp[x9],?_,λs hs=>?_⟩
  .simp only[x9,tV,yAe,List.length_range];have:=s3 b hb;omega
  .obtain⟨x,hx,j,_,rfl⟩:=aOZ (yAk _) hs;obtain⟨k1,k2⟩:=aO2 (x.kind%6) (x.aG%(gL p.aM p.aM.length).length) (vE (mS x.cV) (CS (gL p.aM p.aM.length) (x.aG%(gL p.aM p.aM.length).length).toNat)) (36+b.low%12) (36+b.low%12+b.keys%9) (36+b.low%12+x.at_%(36+b.low%12+b.keys%9-(36+b.low%12)+1))
    ((x.aG%(gL p.aM p.aM.length).length+1)%(gL p.aM p.aM.length).length) (vE (mS x.cV) (CS (gL p.aM p.aM.length) ((x.aG%(gL p.aM p.aM.length).length+1)%(gL p.aM p.aM.length).length).toNat))
   unfold tX;exact⟨Ai,Bk,λg hg=>by have:=k2 g hg;omega⟩
 .obtain⟨j,hj,rfl⟩:=yAw.1 hc;simp[HW]
theorem Small.dI{o:aP}(h:Small o):dI o:=by
 obtain⟨h1,h2,h3,h4,h5,h6,h7⟩:=h;refine⟨Ed,⟨λr hr=>?_,Ah⟩,⟨Ah,λd hd=>?_⟩,Ah,λc hc=>?_⟩
 .obtain⟨a,b,c⟩:=h3 r hr;exact⟨by unfold fX I0;omega,Ed,Ed⟩
 .obtain⟨a,b,c⟩:=h5 d hd;refine⟨Ed,Ah,λs hs=>?_⟩;obtain⟨e,f,g⟩:=c s hs;exact⟨⟨Ah,λq hq=>by have:=g q hq;unfold vO zA;omega⟩,Ed⟩
 .have:=h7 c hc;unfold j8;omega
end Go.Kz
end
