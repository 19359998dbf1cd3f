/- Steps of the proof. -/
import Derived.Test.YteegpeenjdgodaaGreatDoorS5b
set_option linter.all false
set_option maxHeartbeats 40000000
set_option maxRecDepth 100000
open Go.Proofs.Tryz
noncomputable section
namespace Go.Kz
open Go Go.Proofs
section
theorem aOL(R:List n8)(i:Nat)(a:n8)(hi:i<R.length)(ha:R[i]=a):iK R (i+1)=iK R i++[uM a i]:=by
 unfold iK;exact qg
theorem aEU(R:List n8)(i:Nat):(iK R i).length=i:=by simp[iK]
def QP:Nat->List PD->List aA->Option (PD×List aA):=entry (fF Em.yY i64 Em.aN λx i=>eL (CQ x/\0<=i/\i<10) (some (uM x i.toNat)))
theorem aOM{x:n8}{i:Nat}(hx:CQ x)(hi:i<10)(fl:Nat)(σ:List aA):QP fl [Em.yY.aB x,.int .i64 i] σ=some (Em.aN.aB (uM x i),σ):=by
 have e2:i64.dec (.int .i64 (i:Int))=some (i:Int):=Em.dC rfl;unfold QP entry fF;simp only[Em.aBa,e2];rw[fY ⟨hx,Cd,Cd⟩];rfl
theorem aON(rs:List bP)(D:List rZ)(i:Nat)(a:rZ)(hi:i<D.length)(ha:D[i]=a):lP rs D (i+1)=lP rs D i++[z8 rs a i]:=by
 unfold lP;exact qg
theorem aEV(rs:List bP)(D:List rZ)(i:Nat):(lP rs D i).length=i:=by simp[lP]
theorem aOO(rs:List bP)(lo hg:Int)(L:List qL)(i:Nat)(a:qL)(hi:i<L.length)(ha:L[i]=a):vU rs lo hg L (i+1)=vU rs lo hg L i++[vV rs lo hg a i]:=by
 unfold vU;exact qg
theorem aOP(rs:List bP)(lo hg:Int)(L:List qL)(i:Nat):(vU rs lo hg L i).length=i:=by simp[vU]
theorem aOQ(n:Nat)(L:List tB)(i:Nat)(a:tB)(hi:i<L.length)(ha:L[i]=a):mK n L (i+1)=mK n L i++[I9 n a i]:=by
 unfold mK;exact qg
theorem YW(n:Nat)(L:List tB)(i:Nat):(mK n L i).length=i:=by simp[mK]
theorem lI.ne{σ:Jj}{tok:Tok}{e:TypeId}{k n id:Nat}{o:aA}(h:lI σ tok e k n)(ho:σ[id]?=some o)(hn:mG (some o)):tok≠.own id:=by
 rintro rfl
 rcases h with⟨_,h⟩ | ⟨_,id',h,h2⟩
 .cases h
 .simp only[Tok.own.injEq]at h;subst h;rw[ho,yAb]at h2;subst h2;exact hn
theorem lI.set{σ:Jj}{tok:Tok}{e:TypeId}{k n id:Nat}{o x:aA}(h:lI σ tok e k n)(ho:σ[id]?=some o)(hn:mG (some o)):lI (σ.set id x) tok e k n:=
 h.aM λj o' ej hj=>by
  have:id≠j:=λe=>h.ne ho hn (by rw[ej,e])
  rw[yAd this];exact hj
theorem bR{σ τ:Jj}{i:Nat}{o:aA}(h:σ[i]?=some o):(σ++τ)[i]?=some o:=by
 exact ud
def YX:List PD->Option PD:=λargs=>match args with
 | [a,b,c,d]=>match aQ.dec a,Em.dI.dec b,Em.pull.dec c,i64.dec d with
   |some rs,some lh,some x,some i=>eL ((∀r∈rs,(r.num,r.den)∈rS)/\1<=rs.length/\rs.length<=60/\0<=lh.1/\lh.1<=lh.2/\lh.2<=200/\ES x/\0<=i/\i<10) (some (Em.stop.aB (vV rs lh.1 lh.2 x i.toNat)))
   |_,_,_,_=>none
 |_=>none
def LY:Nat->List PD->List aA->Option (PD×List aA):=entry YX
theorem aOR{W:PD}{rs:List bP}{lo hg:Int}{x:qL}{i:Nat}(hW:W.strip=aQ.aB rs)(hr:∀r∈rs,(r.num,r.den)∈rS)(h1:1<=rs.length)(h2:rs.length<=60)(hlo:0<=lo)(hlh:lo<=hg)(hhg:hg<=200)(hx:ES x)(hi:i<10)(fl:Nat)(σ:List aA) :
  LY fl [W,.agg [.int .i64 lo,.int .i64 hg],Em.pull.aB x,.int .i64 i] σ=some (Em.stop.aB (vV rs lo hg x i),σ):=by
 have e1:aQ.dec W=some rs:=Em.dC hW;have e2:Em.dI.dec (.agg [.int .i64 lo,.int .i64 hg])=some (lo,hg):=Em.dC (Em.dI.str (lo,hg));have e3:i64.dec (.int .i64 (i:Int))=some (i:Int):=Em.dC rfl;unfold LY entry YX;simp only[e1,e2,e3,Em.aBa];rw[fY ⟨hr,h1,h2,hlo,hlh,hhg,hx,Cd,Cd⟩];rfl
variable{E:aE}(hU:aJ E)
include hU
theorem aMu(h0:E 13=none)(h1:E 30=some QP)(h2:E 31=some LY)(p:pY)(hp:yW p)(hf:nI p=true):aI prog E 13 [Em.eK.aB p] (Em.bY.aB (fW p)):=by
 obtain⟨R,D,C⟩:=p;have CB:=hf;simp only[nI,yAr,yCa]at CB;obtain⟨⟨⟨⟨⟨hR1,hR3⟩,GG⟩,hD3⟩,hC3⟩,vW⟩:=CB;obtain⟨hpR,hpD,hpC⟩:=hp;simp only at hpR hpD hpC;simp only[xK,fE,bC];refine aI.aG 153 h0 func13 (h:=?_);refine aC trivial ?_;refine Wp.dW (λm fr σ=>∃(i z:Nat),∃gg:Nat->PD,(i+m=R.length/\(iK R i=[]\/z=6))/\fr=gg 0::.ptr 0 0::.ptr 1 0::.ptr 2 0::.int .i64 i::gg 5::gg 6::gg 7::gg 8::gg 9::gg 10::gg 11::gg 12::gg 13::gg 14::gg 15::gg 16::gg 17::gg 18::gg 19::gg 20::gg 21::gg 22::gg 23::gg 24::gg 25::gg 26::gg 27::gg 28::gg 29::gg 30::gg 31::gg 32::gg 33::gg 34::gg 35::gg 36::gg 37::gg 38::gg 39::gg 40::gg 41::gg 42::gg 43::gg 44::gg 45::gg 46::gg 47::gg 48::gg 49::gg 50::gg 51::gg 52::gg 53::gg 54::gg 55::gg 56::gg 57::gg 58::gg 59::gg 60::gg 61::gg 62::gg 63::gg 64::gg 65::gg 66::gg 67::gg 68::gg 69::gg 70::gg 71::gg 72::gg 73::gg 74::gg 75::gg 76::gg 77::gg 78::gg 79::gg 80::gg 81::gg 82::gg 83::gg 84::gg 85::gg 86::gg 87::gg 88::gg 89::gg 90::gg 91::gg 92::gg 93::gg 94::gg 95::gg 96::gg 97::gg 98::gg 99::gg 100::gg 101::gg 102::gg 103::gg 104::gg 105::gg 106::gg 107::gg 108::gg 109::gg 110::gg 111::gg 112::gg 113::gg 114::gg 115::gg 116::gg 117::gg 118::gg 119::gg 120::gg 121::gg 122::gg 123::gg 124::gg 125::gg 126::gg 127::gg 128::gg 129::gg 130::gg 131::gg 132::gg 133::gg 134::gg 135::gg 136::gg 137::gg 138::gg 139::gg 140::gg 141::gg 142::gg 143::gg 144::gg 145::gg 146::gg 147::gg 148::gg 149::gg 150::gg 151::gg 152::[]/\σ=St [.box (.agg [.slice (sz 9 R) (R.map Em.yY.aB) .any,.slice (sz 4 D) (D.map Em.ET.aB) .any,.slice (sz 4 C) (C.map Em.link.aB) .any]),.box (.agg [.str [],.slice 0 [] .full,.slice 0 [] .full,.slice 0 [] .full]),.box (.agg [.str [79,114,103,97,110],.slice z ((iK R i).map Em.aN.aB) (kH 3 (iK R i).length),.slice 0 [] .full,.slice 0 [] .full])] 48 6 (iK R i).length) ?_ (R.length) (by refine⟨0,0,?_⟩;exact rF (⟨Cd,.inl rfl⟩) Fq Fq)
 rintro m fr σ ⟨i,z,gg,hI,rfl,rfl⟩
 obtain⟨hm,hz⟩:=hI
 by_cases hi:i<R.length
 .have q1:(i:Int)<(R.length:Int):=by omega
  obtain⟨a,ha⟩:=gn (R[i]);have hs:=aOL R i a hi ha;have hl:=aEU R i;have hG:=aOM (i:=i) (hpR a (ha▸yAm hi)) Cd;obtain⟨q,hq⟩:=gn (uM a i);rw[hq]at hG hs;obtain⟨L,hL⟩:=gn (iK R i);rw[hL]at hz hl hs ⊢;obtain⟨q0,YY,q2,q3,q4,q5⟩:=q;obtain⟨a0,a1,a2,a3,a4,a5,a6,a7,a8⟩:=a;simp only[aAS,oA,bC]at hG;refine aC (A7 q1 hi ha h1 hG @hz hl) ?_;refine bU.normal (m-1) Cd (by refine⟨i+1,6,?_⟩;exact fU (⟨Cd,.inr rfl⟩) (A2 hs hl))
 .have q1:¬(i:Int)<(R.length:Int):=by omega
  obtain rfl:i=R.length:=Cd;have hl:=aEU R R.length;have hne:iK R R.length≠[]:=λh=>by rw[h]at hl;simp at hl;omega
  have hz6:z=6:=hz.resolve_left hne;subst hz6;refine aC q1 ?_;have hrf:∀r∈iK R R.length,(r.num,r.den)∈rS:=by
   intro r hr;simp only[iK,yAw,yAR]at hr;obtain⟨j,hj,rfl⟩:=hr;have:R.getD j default=R[j]:=by simp[yAA,hj]
   rw[this];exact aOS _ (hpR _ (yAm hj)).2.1
  have hrl:=hl;obtain⟨rs,hrs⟩:=gn (iK R R.length);have hO:fW ⟨R,D,C⟩=⟨[79,114,103,97,110],rs,lP rs D D.length,mK D.length C C.length⟩:=by
   unfold fW;simp only[hrs]
  rw[hO];rw[hrs]at hrf hrl hne ⊢;clear hO hrs hz hl hm q1;obtain⟨W,hW⟩:=gn (PD.slice 6 (rs.map Em.aN.aB) (kH 3 rs.length));have hWs:W.strip=aQ.aB rs:=by
   rw[<-hW,PD.tO];show _=PD.slice (sz 6 rs) (rs.map Em.aN.aB) .any
   rw[tL hne,show(rs.map Em.aN.aB).map PD.strip=rs.map Em.aN.aB by rw[yBs];exact yAG λx _=>Em.aN.str x];simp[hne]
  rw[hW];obtain⟨X0,tT⟩:=gn (aA.box (.agg [.slice (sz 9 R) (R.map Em.yY.aB) .any,.slice (sz 4 D) (D.map Em.ET.aB) .any,.slice (sz 4 C) (C.map Em.link.aB) .any]));obtain⟨aV,RJ⟩:=gn (St [X0,.box (.agg [.str [],.slice 0 [] .full,.slice 0 [] .full,.slice 0 [] .full]),.box (.agg [.str [79,114,103,97,110],W,.slice 0 [] .full,.slice 0 [] .full])] 48 6 rs.length);have s0:aV[0]?=some X0:=by rw[<-RJ];exact TM Ce
  have s1:aV[1]?=some (.box (.agg [.str [],.slice 0 [] .full,.slice 0 [] .full,.slice 0 [] .full])):=by rw[<-RJ];exact TM Ce
  have s2:aV[2]?=some (.box (.agg [.str [79,114,103,97,110],W,.slice 0 [] .full,.slice 0 [] .full])):=by rw[<-RJ];exact TM Ce
  rw[tT,RJ];have S9:lP rs D 0=[]:=rfl;refine Wp.dW (λm fr σ=>∃(i z:Nat) (tok:Tok) (σ1:List aA),∃gg:Nat->PD,(i+m=D.length/\(lP rs D i=[]\/z=5)/\lI σ1 tok 53 5 i/\σ1[0]?=some X0/\σ1[1]?=some (.box (.agg [.str [],.slice 0 [] .full,.slice 0 [] .full,.slice 0 [] .full]))/\σ1[2]?=some (.box (.agg [.str [79,114,103,97,110],W,.slice z ((lP rs D i).map Em.div.aB) tok,.slice 0 [] .full])))/\fr=gg 0::.ptr 0 0::.ptr 1 0::.ptr 2 0::gg 4::.int .i64 i::gg 6::gg 7::gg 8::gg 9::gg 10::gg 11::gg 12::gg 13::gg 14::gg 15::gg 16::gg 17::gg 18::gg 19::gg 20::gg 21::gg 22::gg 23::gg 24::gg 25::gg 26::gg 27::gg 28::gg 29::gg 30::gg 31::gg 32::gg 33::gg 34::gg 35::gg 36::gg 37::gg 38::gg 39::gg 40::gg 41::gg 42::gg 43::gg 44::gg 45::gg 46::gg 47::gg 48::gg 49::gg 50::gg 51::gg 52::gg 53::gg 54::gg 55::gg 56::gg 57::gg 58::gg 59::gg 60::gg 61::gg 62::gg 63::gg 64::gg 65::gg 66::gg 67::gg 68::gg 69::gg 70::gg 71::gg 72::gg 73::gg 74::gg 75::gg 76::gg 77::gg 78::gg 79::gg 80::gg 81::gg 82::gg 83::gg 84::gg 85::gg 86::gg 87::gg 88::gg 89::gg 90::gg 91::gg 92::gg 93::gg 94::gg 95::gg 96::gg 97::gg 98::gg 99::gg 100::gg 101::gg 102::gg 103::gg 104::gg 105::gg 106::gg 107::gg 108::gg 109::gg 110::gg 111::gg 112::gg 113::gg 114::gg 115::gg 116::gg 117::gg 118::gg 119::gg 120::gg 121::gg 122::gg 123::gg 124::gg 125::gg 126::gg 127::gg 128::gg 129::gg 130::gg 131::gg 132::gg 133::gg 134::gg 135::gg 136::gg 137::gg 138::gg 139::gg 140::gg 141::gg 142::gg 143::gg 144::gg 145::gg 146::gg 147::gg 148::gg 149::gg 150::gg 151::gg 152::[]/\σ=σ1) ?_ (D.length) (by refine⟨0,0,.full,aV,?_⟩;exact cL (⟨Cd,.inl rfl,.inl ⟨rfl,rfl⟩,s0,s1,by rw[S9];exact s2⟩))
  rintro m fr σ ⟨i,z,tok,σ1,gg,hI,rfl,rfl⟩
  obtain⟨hm,hz,hrow,g0,g1,g2⟩:=hI
  by_cases hi:i<D.length
  .have q1:(i:Int)<(D.length:Int):=by omega
   obtain⟨a,ha⟩:=gn (D[i]);obtain⟨l8,fT,hP8⟩:=hpD a (ha▸yAm hi);have hP3:a.stops.length<=3:=by
    have:=yAn.1 vW a (ha▸yAm hi);exact cv
   have hbs:=aON rs D i a hi ha;obtain⟨l,ke,pe,P⟩:=a;simp only at l8 fT hP8 hP3;obtain⟨l,rfl⟩:∃q:Nat,l=q:=⟨l.toNat,by have:=l8.1;omega⟩;obtain⟨ke,rfl⟩:∃q:Nat,ke=q:=⟨ke.toNat,by have:=fT.1;omega⟩;obtain⟨L,hL⟩:=gn (l%12);obtain⟨K,hK⟩:=gn (ke%9);have t1:(l:Int).tmod 12=(L:Int):=by rw[<-hL];rfl
   have t2:IntKind.i64.wrap (L:Int)=(L:Int):=Ci;have t3:IntKind.i64.wrap (36+(L:Int))=36+(L:Int):=Ci;have t4:(ke:Int).tmod 9=(K:Int):=by rw[<-hK];rfl
   have t5:IntKind.i64.wrap (K:Int)=(K:Int):=Ci;have t6:IntKind.i64.wrap (36+(L:Int)+(K:Int))=36+(L:Int)+K:=Ci;have d2:IntKind.i64.wrap (48+(i:Int))=48+(i:Int):=Ci;have d3:IntKind.u8.wrap (48+(i:Int))=48+(i:Int):=Cn;obtain⟨dg,hdg⟩:=gn (UInt8.ofNat (48+(i:Int)).toNat);obtain⟨ps,hps⟩:=gn (vU rs (36+(L:Int)) (36+(L:Int)+K) P);have hbo:z8 rs ⟨l,ke,pe,P⟩ i=⟨[68,dg],pe,36+(L:Int),36+(L:Int)+K,ps P.length⟩:=by
    unfold z8 digit;simp only[show(l:Int)%12=(L:Int) by omega,show(ke:Int)%9=(K:Int) by omega,hps,<-hdg,show(48+(i:Int)).toNat=48+i by omega]
   rw[hbo]at hbs;have hpsl:∀k,(ps k).length=k:=λk=>by rw[<-hps];exact aOP _ _ _ _ _
   have aEW:ps 0=[]:=yAf (hpsl 0);have hpss:∀(k:Nat) (x:qL) (hk:k<P.length),P[k]=x->ps (k+1)=ps k++[vV rs (36+(L:Int)) (36+(L:Int)+K) x k]:=λk x hk hx=>by rw[<-hps];exact aOO _ _ _ _ _ _ hk hx
   have uN:=g0;rw[<-tT]at uN;refine aC (A13 q1 hi ha uN @t1 @t2 @t3 @t4 @t5 @t6 @d2 @d3 hdg) ?_;have hlt2:2<σ.length:=(yA.1 g2).1;obtain⟨BX,hBX⟩:=gn (aA.box (.agg [.int .u8 l,.int .u8 ke,.bool pe,.slice (sz 4 P) (P.map Em.pull.aB) .any]));rw[hBX];obtain⟨DX,hDX⟩:=gn (aA.box (.agg [.str [68,dg],.bool pe,.int .i64 (36+(L:Int)),.int .i64 (36+(L:Int)+K),.slice 0 [] .full]));rw[hDX];have u0:(σ++[BX,DX])[0]?=some X0:=by rw[yAg Cd];exact g0
   have u1:(σ++[BX,DX])[1]?=_:=(yAg Cd).trans g1;have u2:(σ++[BX,DX])[2]?=_:=(yAg Cd).trans g2;have u3:(σ++[BX,DX])[σ.length]?=some BX:=Ce;have u4:(σ++[BX,DX])[σ.length+1]?=some DX:=Ce;have urow:=hrow.more (τ:=[BX,DX]);obtain⟨σ3,JA⟩:=gn (σ++[BX,DX]);rw[JA]at u0 u1 u2 u3 u4 urow ⊢;obtain⟨pb,hpb⟩:=gn (σ.length);rw[hpb]at u3 u4 hlt2 ⊢;obtain⟨M,hM⟩:∃M,M=m:=⟨_,rfl⟩;rw[<-hM]at hm ⊢;clear hM JA hpb g0 uN g1 g2 hrow;rw[<-hDX]at u4;refine Wp.dW (λm fr σ=>∃(k z2:Nat) (JB:Tok) (σ2:List aA),∃gg:Nat->PD,(k+m=P.length/\(ps k=[]\/z2=4)/\lI σ2 JB 56 4 k/\lI σ2 tok 53 5 i/\(∀id,JB=.own id->tok≠.own id)/\σ2[0]?=some X0/\σ2[1]?=some (.box (.agg [.str [],.slice 0 [] .full,.slice 0 [] .full,.slice 0 [] .full]))/\σ2[2]?=some (.box (.agg [.str [79,114,103,97,110],W,.slice z ((lP rs D i).map Em.div.aB) tok,.slice 0 [] .full]))/\σ2[pb]?=some BX/\σ2[pb+1]?=some (.box (.agg [.str [68,dg],.bool pe,.int .i64 (36+(L:Int)),.int .i64 (36+(L:Int)+K),.slice z2 ((ps k).map Em.stop.aB) JB])))/\fr=gg 0::.ptr 0 0::.ptr 1 0::.ptr 2 0::gg 4::.int .i64 i::.ptr pb 0::gg 7::.ptr (pb+1) 0::.int .i64 k::gg 10::gg 11::gg 12::gg 13::gg 14::gg 15::gg 16::gg 17::gg 18::gg 19::gg 20::gg 21::gg 22::gg 23::gg 24::gg 25::gg 26::gg 27::gg 28::gg 29::gg 30::gg 31::gg 32::gg 33::gg 34::gg 35::gg 36::gg 37::gg 38::gg 39::gg 40::gg 41::gg 42::gg 43::gg 44::gg 45::gg 46::gg 47::gg 48::gg 49::gg 50::gg 51::gg 52::gg 53::gg 54::gg 55::gg 56::gg 57::gg 58::gg 59::gg 60::gg 61::gg 62::gg 63::gg 64::gg 65::gg 66::gg 67::gg 68::gg 69::gg 70::gg 71::gg 72::gg 73::gg 74::gg 75::gg 76::gg 77::gg 78::gg 79::gg 80::gg 81::gg 82::gg 83::gg 84::gg 85::gg 86::gg 87::gg 88::gg 89::gg 90::gg 91::gg 92::gg 93::gg 94::gg 95::gg 96::gg 97::gg 98::gg 99::gg 100::gg 101::gg 102::gg 103::gg 104::gg 105::gg 106::gg 107::gg 108::gg 109::gg 110::gg 111::gg 112::gg 113::gg 114::gg 115::gg 116::gg 117::gg 118::gg 119::gg 120::gg 121::gg 122::gg 123::gg 124::gg 125::gg 126::gg 127::gg 128::gg 129::gg 130::gg 131::gg 132::gg 133::gg 134::gg 135::gg 136::gg 137::gg 138::gg 139::gg 140::gg 141::gg 142::gg 143::gg 144::gg 145::gg 146::gg 147::gg 148::gg 149::gg 150::gg 151::gg 152::[]/\σ=σ2) ?_ (P.length) (by refine⟨0,0,.full,σ3,?_⟩;exact cL (⟨Cd,.inl aEW,.inl ⟨rfl,rfl⟩,urow,(λid e=>Dc),u0,u1,u2,u3,(by rw[aEW];exact u4)⟩))
   rintro m fr σ ⟨k,z2,JB,σ2,gg,hI,rfl,rfl⟩
   obtain⟨hm2,l6,pV,hrowD,PG,v0,v1,v2,v3,v4⟩:=hI
   by_cases hk:k<P.length
   .have q2:(k:Int)<(P.length:Int):=by omega
    obtain⟨x,hx⟩:=gn (P[k]);have hsu:=hpss k x hk hx;have hG:=aOR (i:=k) (x:=x) (lo:=36+(L:Int)) (hg:=36+(L:Int)+K) hWs hrf Cd Cd Cd Cd Cd (hP8 x (hx▸yAm hk)) Cd;obtain⟨q,hq⟩:=gn (vV rs (36+(L:Int)) (36+(L:Int)+K) x k);rw[hq]at hG hsu;obtain⟨q0,YY,q2',q3⟩:=q;obtain⟨x0,x1,x2,x3⟩:=x;simp only[aAT,pZ,bC]at hG;rw[<-hBX]at v3;obtain⟨A,hA⟩:=gn ((ps k).map Em.stop.aB);have hAl:A.length=k:=by rw[<-hA,yAe,hpsl]
    have sX:A=[]\/z2=4:=l6.imp (λh=>Gu) id;obtain⟨jM,bW,hap,hr',hkeep,hnew⟩:=EX (P:=prog) (t:=51) (e:=56) (k:=4) (b:=56) (s:=z2) (xs:=A) (p:=.agg [.str q0,.int .i64 YY,.int .i64 q2',.slice (sz 3 q3) (q3.map Em.fB.aB) .any]) (tk:=.any) (tok:=JB) (σ:=σ)
     underlying51 Cf sX (by rw[hAl];exact pV) Cd Cd
    rw[hA]at v4;have nX:mG (some X0):=Gg;have nB:mG (some BX):=by rw[<-hBX];trivial
    rw[hBX]at v3;have w0:=hkeep 0 _ (pV.ne v0 nX) v0;have w1:=hkeep 1 _ (pV.ne v1 trivial) v1;have w2:=hkeep 2 _ (pV.ne v2 trivial) v2;have w3:=hkeep pb _ (pV.ne v3 nB) v3;have w4:=hkeep (pb+1) _ (pV.ne v4 trivial) v4;rw[hAl]at hr';have aOT:=(hrowD.aM (σ':=bW) λid o e h=>hkeep id o (λe2=>PG id e2 e) h);have aOU:∀id,jM=.own id->tok≠.own id:=λid e e2=>by
     rcases hnew id e with e3|e3
     .exact PG id e3 e2
     .subst e3;rcases hrowD with⟨_,e4⟩ | ⟨_,id',e4,h5⟩
      .rw[e4]at e2;cases e2
      .rw[e4]at e2;simp only[Tok.own.injEq]at e2;subst e2;have:=(yA.1 h5).1;omega
    rw[<-hBX]at v3;refine aC (A12 q2 @hk hx @v0 @v1 @v2 @v3 @v4 h2 hG hap w4) ?_;have yH:pb+1<bW.length:=(yA.1 w4).1;refine bU.normal (m-1) Cd (by refine⟨k+1,4,jM,bW.set (pb+1) (.box (.agg [.str [68,dg],.bool pe,.int .i64 (36+(L:Int)),.int .i64 (36+(L:Int)+K),.slice 4 (A++[.agg [.str q0,.int .i64 YY,.int .i64 q2',.slice (sz 3 q3) (q3.map Em.fB.aB) .any]]) jM])),?_⟩;exact cL (⟨Cd,.inr rfl,hr'.set w4 trivial,aOT.set w4 trivial,aOU,(by rw[yAd Cd];exact w0),(by rw[yAd Cd];exact w1),(by rw[yAd Cd];exact w2),(by rw[yAd Cd];exact w3),(by rw[hsu,yAH,hA];exact yAj yH)⟩))
   .have q2:¬(k:Int)<(P.length:Int):=by omega
    obtain rfl:k=P.length:=Cd;obtain⟨Y,hY⟩:=gn (PD.slice z2 ((ps P.length).map Em.stop.aB) JB);have hYp:Y.plain=true:=by rw[<-hY];rfl
    have hYs:Y.strip=.slice (sz 4 (ps P.length)) ((ps P.length).map Em.stop.aB) .any:=by
     rw[<-hY,PD.tO,show((ps P.length).map Em.stop.aB).map PD.strip=(ps P.length).map Em.stop.aB by rw[yBs];exact yAG λx _=>Em.stop.str x];rcases l6 with h|h
     .rw[h];rfl
     .rw[h];simp[sz]
    rw[hY]at v4;rw[<-hBX]at v3;obtain⟨A,hA⟩:=gn ((lP rs D i).map Em.div.aB);have hAl:A.length=i:=by rw[<-hA,yAe,aEV]
    have sX:A=[]\/z=5:=hz.imp (λh=>Gu) id;rw[hA]at v2;obtain⟨jM,bW,hap,hr',hkeep,hnew⟩:=EX (P:=prog) (t:=32) (e:=53) (k:=5) (b:=64) (s:=z) (xs:=A) (p:=.agg [.str [68,dg],.bool pe,.int .i64 (36+(L:Int)),.int .i64 (36+(L:Int)+K),.slice (sz 4 (ps P.length)) ((ps P.length).map Em.stop.aB) .any]) (tk:=.any) (tok:=tok) (σ:=σ)
     underlying32 Cf sX (by rw[hAl];exact hrowD) Cd Cd
    have nX:mG (some X0):=Gg;have w0:=hkeep 0 _ (hrowD.ne v0 nX) v0;have w1:=hkeep 1 _ (hrowD.ne v1 trivial) v1;have w2:=hkeep 2 _ (hrowD.ne v2 trivial) v2;rw[hAl]at hr';refine aC (A10 q2 @v0 @v1 @v2 @v3 @v4 hap w2 hYp hYs) ?_;have yH:2<bW.length:=(yA.1 w2).1;refine bU.normal (M-1) Cd (by refine⟨i+1,5,jM,bW.set 2 (.box (.agg [.str [79,114,103,97,110],W,.slice 5 (A++[.agg [.str [68,dg],.bool pe,.int .i64 (36+(L:Int)),.int .i64 (36+(L:Int)+K),.slice (sz 4 (ps P.length)) ((ps P.length).map Em.stop.aB) .any]]) jM,.slice 0 [] .full])),?_⟩;exact cL (⟨Cd,.inr rfl,hr'.set w2 trivial,(by rw[yAd Cd];exact w0),(by rw[yAd Cd];exact w1),(by rw[hbs,yAH,hA];exact yAj yH)⟩))
  .have q1:¬(i:Int)<(D.length:Int):=by omega
   obtain rfl:i=D.length:=Cd;have hbl:=aEV rs D D.length;have hbne:lP rs D D.length≠[]:=λh=>by rw[h]at hbl;simp at hbl;omega
   have hz5:z=5:=hz.resolve_left hbne;subst hz5;obtain⟨Y,hY⟩:=gn (PD.slice 5 ((lP rs D D.length).map Em.div.aB) tok);have hYp:Y.plain=true:=by rw[<-hY];rfl
   have hYs:Y.strip=.slice (sz 5 (lP rs D D.length)) ((lP rs D D.length).map Em.div.aB) .any:=by
    rw[<-hY,PD.tO,show((lP rs D D.length).map Em.div.aB).map PD.strip=(lP rs D D.length).map Em.div.aB by rw[yBs];exact yAG λx _=>Em.div.str x];rw[tL hbne];simp[hbne]
   have hWp:W.plain=true:=by rw[<-hW];rfl
   have aOV:W.strip=.slice (sz 6 rs) (rs.map Em.aN.aB) .any:=hWs;rw[hY]at g2;have uN:=g0;rw[<-tT]at uN;refine aC (A4 q1 uN @g1 @g2) ?_;have lO:mK D.length C 0=[]:=rfl;refine Wp.dW (λm fr σ=>∃(j z3:Nat) (D3:Tok) (σ1:List aA),∃gg:Nat->PD,(j+m=C.length/\(mK D.length C j=[]\/z3=5)/\lI σ1 D3 58 5 j/\σ1[0]?=some X0/\σ1[1]?=some (.box (.agg [.str [],.slice 0 [] .full,.slice 0 [] .full,.slice 0 [] .full]))/\σ1[2]?=some (.box (.agg [.str [79,114,103,97,110],W,Y,.slice z3 ((mK D.length C j).map Em.bF.aB) D3])))/\fr=gg 0::.ptr 0 0::.ptr 1 0::.ptr 2 0::gg 4::gg 5::gg 6::gg 7::gg 8::gg 9::.int .i64 D.length::.int .i64 j::gg 12::gg 13::gg 14::gg 15::gg 16::gg 17::gg 18::gg 19::gg 20::gg 21::gg 22::gg 23::gg 24::gg 25::gg 26::gg 27::gg 28::gg 29::gg 30::gg 31::gg 32::gg 33::gg 34::gg 35::gg 36::gg 37::gg 38::gg 39::gg 40::gg 41::gg 42::gg 43::gg 44::gg 45::gg 46::gg 47::gg 48::gg 49::gg 50::gg 51::gg 52::gg 53::gg 54::gg 55::gg 56::gg 57::gg 58::gg 59::gg 60::gg 61::gg 62::gg 63::gg 64::gg 65::gg 66::gg 67::gg 68::gg 69::gg 70::gg 71::gg 72::gg 73::gg 74::gg 75::gg 76::gg 77::gg 78::gg 79::gg 80::gg 81::gg 82::gg 83::gg 84::gg 85::gg 86::gg 87::gg 88::gg 89::gg 90::gg 91::gg 92::gg 93::gg 94::gg 95::gg 96::gg 97::gg 98::gg 99::gg 100::gg 101::gg 102::gg 103::gg 104::gg 105::gg 106::gg 107::gg 108::gg 109::gg 110::gg 111::gg 112::gg 113::gg 114::gg 115::gg 116::gg 117::gg 118::gg 119::gg 120::gg 121::gg 122::gg 123::gg 124::gg 125::gg 126::gg 127::gg 128::gg 129::gg 130::gg 131::gg 132::gg 133::gg 134::gg 135::gg 136::gg 137::gg 138::gg 139::gg 140::gg 141::gg 142::gg 143::gg 144::gg 145::gg 146::gg 147::gg 148::gg 149::gg 150::gg 151::gg 152::[]/\σ=σ1) ?_ (C.length) (by refine⟨0,0,.full,σ,?_⟩;exact cL (⟨Cd,.inl lO,.inl ⟨rfl,rfl⟩,g0,g1,(by rw[lO];exact g2)⟩))
   rintro m fr σ ⟨j,z3,D3,σ1,gg,hI,rfl,rfl⟩
   obtain⟨hm,hz,hrow,g0,g1,g2⟩:=hI
   by_cases hj:j<C.length
   .have q1:(j:Int)<(C.length:Int):=by omega
    obtain⟨a,ha⟩:=gn (C[j]);obtain⟨YZ,Y0,Y1⟩:=hpC a (ha▸yAm hj);have hls:=aOQ D.length C j a hj ha;obtain⟨o,d,s,th⟩:=a;simp only at YZ Y0 Y1;obtain⟨o,rfl⟩:∃q:Nat,o=q:=⟨o.toNat,by have:=YZ.1;omega⟩;obtain⟨d,rfl⟩:∃q:Nat,d=q:=⟨d.toNat,by have:=Y0.1;omega⟩;have ho9:=YZ.2;have hd9:=Y0.2;have t1:IntKind.i64.wrap (o:Int)=(o:Int):=Ci;have t2:IntKind.i64.wrap (d:Int)=(d:Int):=Ci;have t3:IntKind.i64.wrap s=s:=by have:=Y1.1;have:=Y1.2;rw[yAP];omega
    have t4:¬(D.length:Int)=0:=Cd;have t5:¬D=[]:=λh=>by rw[h]at GG;simp at GG
    obtain⟨O,hO⟩:∃O:Int,(o:Int).tmod (D.length:Int)=O:=⟨_,rfl⟩;obtain⟨Q,hQ⟩:∃Q:Int,(d:Int).tmod (D.length:Int)=Q:=⟨_,rfl⟩;obtain⟨S,hS⟩:∃S:Int,s.tmod 25=S:=⟨_,rfl⟩;have hO':(o:Int)%(D.length:Int)=O:=hO;have hQ':(d:Int)%(D.length:Int)=Q:=hQ;have d2:IntKind.i64.wrap (48+(j:Int))=48+(j:Int):=Ci;have d3:IntKind.u8.wrap (48+(j:Int))=48+(j:Int):=Cn;obtain⟨dg,hdg⟩:=gn (UInt8.ofNat (48+(j:Int)).toNat);have hln:I9 D.length ⟨o,d,s,th⟩ j=⟨[67,dg],O,Q,if O=Q/\S=0 then 12 else S,th⟩:=by
     unfold I9 digit;simp only[hO',hQ',hS,<-hdg,show(48+(j:Int)).toNat=48+j by omega]
    rw[hln]at hls;have uN:=g0;rw[<-tT]at uN
    by_cases hoq:O=Q
    .by_cases pU:S=0
     .subst hoq;subst pU;have hE:(if O=O/\(0:Int)=0 then(12:Int)else(0:Int))=12:=Ce;rw[hE]at hls;obtain⟨A,hA⟩:=gn ((mK D.length C j).map Em.bF.aB);have hAl:A.length=j:=by rw[<-hA,yAe,YW]
      have sX:A=[]\/z3=5:=hz.imp (λh=>Gu) id;rw[hA]at g2;have nX:mG (some X0):=Gg;have u0:=bR (τ:=[.box (.agg [.int .u8 o,.int .u8 d,.int .i8 s,.bool th]),.box (.agg [.str [67,dg],.int .i64 O,.int .i64 O,.int .i64 12,.bool th])]) g0;have u1:=bR (τ:=[.box (.agg [.int .u8 o,.int .u8 d,.int .i8 s,.bool th]),.box (.agg [.str [67,dg],.int .i64 O,.int .i64 O,.int .i64 12,.bool th])]) g1;have u2:=bR (τ:=[.box (.agg [.int .u8 o,.int .u8 d,.int .i8 s,.bool th]),.box (.agg [.str [67,dg],.int .i64 O,.int .i64 O,.int .i64 12,.bool th])]) g2;have urow:=hrow.more (τ:=[.box (.agg [.int .u8 o,.int .u8 d,.int .i8 s,.bool th]),.box (.agg [.str [67,dg],.int .i64 O,.int .i64 O,.int .i64 12,.bool th])]);obtain⟨jM,bW,hap,hr',hkeep,hnew⟩:=EX (P:=prog) (t:=33) (e:=58) (k:=5) (b:=48) (s:=z3) (xs:=A) (p:=.agg [.str [67,dg],.int .i64 O,.int .i64 O,.int .i64 12,.bool th]) (tk:=.any) (tok:=D3)
       underlying33 Cf sX Jc Cd Cd
      have w0:=hkeep 0 _ (urow.ne u0 nX) u0;have w1:=hkeep 1 _ (urow.ne u1 trivial) u1;have w2:=hkeep 2 _ (urow.ne u2 trivial) u2;rw[hAl]at hr';refine aC (A19 q1 hj ha uN @g2 u2 hap w2 @t1 @t2 @t3 @t4 @t5 hO hQ hS @d2 @d3 hdg) ?_;have yH:2<bW.length:=(yA.1 w2).1;refine bU.normal (m-1) Cd (by refine⟨j+1,5,jM,bW.set 2 (.box (.agg [.str [79,114,103,97,110],W,Y,.slice 5 (A++[.agg [.str [67,dg],.int .i64 O,.int .i64 O,.int .i64 12,.bool th]]) jM])),?_⟩;exact cL (⟨Cd,.inr rfl,hr'.set w2 trivial,(by rw[yAd Cd];exact w0),(by rw[yAd Cd];exact w1),Hi⟩))
     .subst hoq;have hE:(if O=O/\S=0 then(12:Int)else S)=S:=by simp[pU]
      rw[hE]at hls;obtain⟨A,hA⟩:=gn ((mK D.length C j).map Em.bF.aB);have hAl:A.length=j:=by rw[<-hA,yAe,YW]
      have sX:A=[]\/z3=5:=hz.imp (λh=>Gu) id;rw[hA]at g2;have nX:mG (some X0):=Gg;have u0:=bR (τ:=[.box (.agg [.int .u8 o,.int .u8 d,.int .i8 s,.bool th]),.box (.agg [.str [67,dg],.int .i64 O,.int .i64 O,.int .i64 S,.bool th])]) g0;have u1:=bR (τ:=[.box (.agg [.int .u8 o,.int .u8 d,.int .i8 s,.bool th]),.box (.agg [.str [67,dg],.int .i64 O,.int .i64 O,.int .i64 S,.bool th])]) g1;have u2:=bR (τ:=[.box (.agg [.int .u8 o,.int .u8 d,.int .i8 s,.bool th]),.box (.agg [.str [67,dg],.int .i64 O,.int .i64 O,.int .i64 S,.bool th])]) g2;have urow:=hrow.more (τ:=[.box (.agg [.int .u8 o,.int .u8 d,.int .i8 s,.bool th]),.box (.agg [.str [67,dg],.int .i64 O,.int .i64 O,.int .i64 S,.bool th])]);obtain⟨jM,bW,hap,hr',hkeep,hnew⟩:=EX (P:=prog) (t:=33) (e:=58) (k:=5) (b:=48) (s:=z3) (xs:=A) (p:=.agg [.str [67,dg],.int .i64 O,.int .i64 O,.int .i64 S,.bool th]) (tk:=.any) (tok:=D3)
       underlying33 Cf sX Jc Cd Cd
      have w0:=hkeep 0 _ (urow.ne u0 nX) u0;have w1:=hkeep 1 _ (urow.ne u1 trivial) u1;have w2:=hkeep 2 _ (urow.ne u2 trivial) u2;rw[hAl]at hr';refine aC (A20 q1 hj ha uN @g2 u2 hap w2 @t1 @t2 @t3 @t4 @t5 hO hQ hS @d2 @d3 hdg pU) ?_;have yH:2<bW.length:=(yA.1 w2).1;refine bU.normal (m-1) Cd (by refine⟨j+1,5,jM,bW.set 2 (.box (.agg [.str [79,114,103,97,110],W,Y,.slice 5 (A++[.agg [.str [67,dg],.int .i64 O,.int .i64 O,.int .i64 S,.bool th]]) jM])),?_⟩;exact cL (⟨Cd,.inr rfl,hr'.set w2 trivial,(by rw[yAd Cd];exact w0),(by rw[yAd Cd];exact w1),Hi⟩))
    .skip
     have hE:(if O=Q/\S=0 then(12:Int)else S)=S:=by simp[hoq]
     rw[hE]at hls;obtain⟨A,hA⟩:=gn ((mK D.length C j).map Em.bF.aB);have hAl:A.length=j:=by rw[<-hA,yAe,YW]
     have sX:A=[]\/z3=5:=hz.imp (λh=>Gu) id;rw[hA]at g2;have nX:mG (some X0):=Gg;have u0:=bR (τ:=[.box (.agg [.int .u8 o,.int .u8 d,.int .i8 s,.bool th]),.box (.agg [.str [67,dg],.int .i64 O,.int .i64 Q,.int .i64 S,.bool th])]) g0;have u1:=bR (τ:=[.box (.agg [.int .u8 o,.int .u8 d,.int .i8 s,.bool th]),.box (.agg [.str [67,dg],.int .i64 O,.int .i64 Q,.int .i64 S,.bool th])]) g1;have u2:=bR (τ:=[.box (.agg [.int .u8 o,.int .u8 d,.int .i8 s,.bool th]),.box (.agg [.str [67,dg],.int .i64 O,.int .i64 Q,.int .i64 S,.bool th])]) g2;have urow:=hrow.more (τ:=[.box (.agg [.int .u8 o,.int .u8 d,.int .i8 s,.bool th]),.box (.agg [.str [67,dg],.int .i64 O,.int .i64 Q,.int .i64 S,.bool th])]);obtain⟨jM,bW,hap,hr',hkeep,hnew⟩:=EX (P:=prog) (t:=33) (e:=58) (k:=5) (b:=48) (s:=z3) (xs:=A) (p:=.agg [.str [67,dg],.int .i64 O,.int .i64 Q,.int .i64 S,.bool th]) (tk:=.any) (tok:=D3)
      underlying33 Cf sX Jc Cd Cd
     have w0:=hkeep 0 _ (urow.ne u0 nX) u0;have w1:=hkeep 1 _ (urow.ne u1 trivial) u1;have w2:=hkeep 2 _ (urow.ne u2 trivial) u2;rw[hAl]at hr';refine aC (A20 q1 hj ha uN @g2 u2 hap w2 @t1 @t2 @t3 @t4 @t5 hO hQ hS @d2 @d3 hdg hoq) ?_;have yH:2<bW.length:=(yA.1 w2).1;refine bU.normal (m-1) Cd (by refine⟨j+1,5,jM,bW.set 2 (.box (.agg [.str [79,114,103,97,110],W,Y,.slice 5 (A++[.agg [.str [67,dg],.int .i64 O,.int .i64 Q,.int .i64 S,.bool th]]) jM])),?_⟩;exact cL (⟨Cd,.inr rfl,hr'.set w2 trivial,(by rw[yAd Cd];exact w0),(by rw[yAd Cd];exact w1),Hi⟩))
   .have q1:¬(j:Int)<(C.length:Int):=by omega
    obtain rfl:j=C.length:=Cd;have hzs:PD.strip (.slice z3 ((mK D.length C C.length).map Em.bF.aB) D3)=.slice (sz 5 (mK D.length C C.length)) ((mK D.length C C.length).map Em.bF.aB) .any:=by
     rw[PD.tO,show((mK D.length C C.length).map Em.bF.aB).map PD.strip=(mK D.length C C.length).map Em.bF.aB by rw[yBs];exact yAG λx _=>Em.bF.str x];rcases hz with h|h
     .rw[h];rfl
     .rw[h];simp[sz]
    obtain⟨V,hV⟩:=gn (PD.slice z3 ((mK D.length C C.length).map Em.bF.aB) D3);have hVp:V.plain=true:=by rw[<-hV];rfl
    rw[hV]at g2 hzs;have hs1:∀x,(σ.set 1 x)[1]?=some x:=λx=>yAj (yA.1 g1).1
    have uN:=g0;rw[<-tT]at uN;have hWq:=hWp;have hYq:=hYp;have hVq:=hVp;unfold PD.plain at hWq hYq hVq;refine aC (A7 q1 uN @g1 @g2 hWq hYq hVq) ?_;simp(disch:=first|omega|(simp;done)|(simp;omega)) [yAu,hs1,aOV,hYs,hzs]<;>try rfl
end
section
def s8:List (List UInt8)->List bP->Int
 |_,[]=>0
 |ns,r::t=>if pB r≠0 then pB r else if lT ns r.name=true then 9 else s8 (ns++[r.name]) t
def vX(rs:List bP):List (List UInt8)->List bO->Int
 |_,[]=>0
 |ns,d::t=>if fO d.name=false then 8 else if lT ns d.name=true then 9 else if s6 rs d≠0 then s6 rs d else vX rs (ns++[d.name]) t
def jQ(l:List bO):List (Int×Int):=l.map λd=>(d.low,d.high)
def MU(o:aY):Int:=if o.aD.length=0 then 13 else if 8<o.aD.length then 4 else if vX o.aQ [] o.aD≠0 then vX o.aQ [] o.aD else CG (jQ o.aD) o.aL
def dG(o:aY):Int:=if fO o.name=false then 8 else if 60<o.aQ.length then 4 else if s8 [] o.aQ≠0 then s8 [] o.aQ else MU o
def rM(d:bO):Prop:=lB d.name/\d.stops.length<=1000000/\∀s∈d.stops,D6 s
def dP(o:aY):Prop:=lB o.name/\CH o.aQ/\(o.aD.length<=1000000/\∀d∈o.aD,rM d)/\o.aL.length<=1000000/\∀x∈o.aL,lB x.name
def QN:Nat->List PD->List aA->Option (PD×List aA):=entry (fF Em.bY Em.div i64 λo d=>eL (CH o.aQ/\rM d) (some (s6 o.aQ d)))
theorem aPi{o:aY}{d:bO}(h:CH o.aQ)(hs:rM d)(fl:Nat)(σ:List aA):QN fl [Em.bY.aB o,Em.div.aB d] σ=some (.int .i64 (s6 o.aQ d),σ):=by
 have e1:=Em.dC (Em.bY.str o);have e2:=Em.dC (Em.div.str d);unfold QN entry fF;simp only[e1,e2];rw[fY ⟨h,hs⟩];rfl
def QM:Nat->List PD->List aA->Option (PD×List aA):=entry (fF GK qN i64 λks l=>eL (ks.length<=1000000/\l.length<=1000000/\∀x∈l,lB x.name) (some (CG ks l)))
theorem aPj{ks:List (Int×Int)}{l:List cJ}{p:PD}(h1:ks.length<=1000000)(h2:l.length<=1000000)(h3:∀x∈l,lB x.name)(hp:p.strip=GK.aB ks)(fl:Nat)(σ:List aA):QM fl [p,qN.aB l] σ=some (.int .i64 (CG ks l),σ):=by
 have e1:=Em.dC hp;have e2:=Em.dC (qN.str l);unfold QM entry fF;simp only[e1,e2];rw[fY ⟨h1,h2,h3⟩];rfl
variable{E:aE}(hU:aJ E)
include hU
theorem VL(h0:E 27=none)(h1:E 60=some F2)(h2:E 61=some LW)(h3:E 62=some xZ)(h4:E 63=some QN)(h5:E 64=some QM)(o:aY)(ho:dP o) :
  aI prog E 27 [Em.bY.aB o] (i64.aB (dG o)):=by
 have hO:=λd (hd:rM d)=>aPi (o:=o) ho.2.1 hd
 obtain⟨on,rs,od,oc⟩:=o;obtain⟨hon,hrs,⟨hdl,hdd⟩,hcl,hcn⟩:=ho;simp only at hon hrs hdl hdd hcl hcn;have hN:=JG hon;simp only[fE,bC]at hO;unfold dG;simp only[fE,bC];cases c1:fO on with
 |false=>
  rw[c1]at hN;rw[yAJ rfl];refine aI.aG 89 h0 func27 (h:=?_);refine mZ (A2 h1 hN) ?_;exact ag
 |true=>
 rw[c1]at hN;rw[yAI Ce]
 by_cases c2:60<rs.length
 .have c3:60<(rs.length:Int):=by omega
  rw[yAJ c2];refine aI.aG 89 h0 func27 (h:=?_);refine mZ (A4 h1 hN c2 c3) ?_;exact ag
 have c3:¬60<(rs.length:Int):=Cd;rw[yAI c2];obtain⟨C,hC⟩:=gn (MU ⟨on,rs,od,oc⟩);rw[hC];obtain⟨B,hB⟩:=gn ((if s8 [] rs≠0 then s8 [] rs else C));rw[hB];have us:=RR;refine aI.aG 89 h0 func27 (h:=?_);refine mZ (A5 h1 hN c2 c3 @us) ?_;obtain⟨X,hX⟩:=gn (aA.box (.agg [.str on,.slice (sz 6 rs) (rs.map Em.aN.aB) .any,.slice (sz 5 od) (od.map Em.div.aB) .any,.slice (sz 5 oc) (oc.map Em.bF.aB) .any]));refine Wp.dW (λm fr σ=>∃(i:Nat) (σ1:List aA),∃gg:Nat->PD,(i+m=rs.length/\σ1[0]?=some X/\σ1[1]?=some (kK ((rs.take i).map bP.name))/\(if s8 ((rs.take i).map bP.name) (rs.drop i)≠0 then s8 ((rs.take i).map bP.name) (rs.drop i)else C)=B)/\fr=gg 0::.ptr 0 0::gg 2::.gG 1::gg 4::gg 5::gg 6::gg 7::gg 8::gg 9::gg 10::gg 11::gg 12::gg 13::gg 14::gg 15::gg 16::gg 17::gg 18::gg 19::gg 20::gg 21::gg 22::gg 23::gg 24::aQ.aB rs::.int .i64 rs.length::.int .i64 i::gg 28::gg 29::gg 30::gg 31::gg 32::gg 33::gg 34::gg 35::gg 36::gg 37::gg 38::gg 39::gg 40::gg 41::gg 42::gg 43::gg 44::gg 45::gg 46::gg 47::gg 48::gg 49::gg 50::gg 51::gg 52::gg 53::gg 54::gg 55::gg 56::gg 57::gg 58::gg 59::gg 60::gg 61::gg 62::gg 63::gg 64::gg 65::gg 66::gg 67::gg 68::gg 69::gg 70::gg 71::gg 72::gg 73::gg 74::gg 75::gg 76::gg 77::gg 78::gg 79::gg 80::gg 81::gg 82::gg 83::gg 84::gg 85::gg 86::gg 87::gg 88::[]/\σ=σ1) ?_ (rs.length) (by refine⟨0,[X,.map []],?_⟩;exact fU (⟨Cd,rfl,rfl,hB⟩) @hX)
 rintro m fr σ ⟨i,σ1,gg,hI,rfl,rfl⟩
 obtain⟨hm,hx0,MV,hs⟩:=hI
 by_cases hi:i<rs.length
 .have q1:(i:Int)<(rs.length:Int):=by omega
  obtain⟨a,ha⟩:=gn (rs[i]);have MW:rs.drop i=a::rs.drop (i+1):=Cp;have htk:(rs.take (i+1)).map bP.name=(rs.take i).map bP.name++[a.name]:=by rw[yBI hi,ha,yAH];rfl
  have hE:=aFb (hrs.1 a (ha▸yAm hi));rw[MW]at hs;unfold s8 at hs;have iA:=(yA.1 hx0).1;have hlt2:=(yA.1 MV).1;have j0:∀x:aA,(σ++[x])[σ.length]?=some x:=λx=>Ce
  obtain⟨a0,a1,a2,a3,a4,a5⟩:=a;obtain⟨e,he⟩:=gn (pB ⟨a0,a1,a2,a3,a4,a5⟩);rw[he]at hE hs;simp only[oA,bC]at hE;simp only at hs htk
  by_cases c4:e=0
  rotate_left
  .simp only[ne_eq,c4,yCz,yAK]at hs;subst hs;refine mZ (A7 q1 hi ha j0 h2 hE c4) ?_;exact ag
  subst c4;simp only[ne_eq,yBK,yAN]at hs;obtain⟨Z,hZ⟩:=gn (aA.box (.agg [.str a0,.str a1,.int .i64 a2,.int .i64 a3,.int .i64 a4,.slice (sz 1 a5) (a5.map i64.aB) .any]));have hmz:(σ++[Z])[1]?=some (kK ((rs.take i).map bP.name)):=by rw[yAg hlt2];exact MV
  cases hb:lT ((rs.take i).map bP.name) a0 with
  |true=>
   rw[hb]at hs;simp only[yAK,show ¬(9:Int)=0 by omega,yCz]at hs;subst hs;have hA:=λfl=>ZG (fl:=fl) hmz hb
   rw[<-hZ]at hA;refine mZ (A8 q1 hi ha j0 h2 hE h3 hA) ?_;exact ag
  |false=>
   rw[hb]at hs;simp only[yAx,yAN]at hs;have hA:=ZH (fl:=0) hmz hb (yAF _);obtain⟨lU,eF⟩:=gn ((σ++[Z]).set 1 (kK ((rs.take i).map bP.name++[a0])));have t0:lU[0]?=some X:=by rw[<-eF,yAd Cd,yAg iA];exact hx0
   have t2:lU[1]?=some (kK ((rs.take i).map bP.name++[a0])):=by rw[<-eF];exact yAj Co
   rw[eF]at hA;rw[<-hZ]at hA;clear eF;refine mZ (A8 q1 hi ha j0 h2 hE h3 hA) ?_;refine bU.normal (m-1) Cd (by refine⟨i+1,lU,?_⟩;exact cL (⟨Cd,t0,by rw[htk];exact t2,by rw[htk];exact hs⟩))
 have q1:¬(i:Int)<(rs.length:Int):=Cd;rw[yAs Cd]at hs;have hs2:C=B:=hs;rw[hs2]at hC;clear hs hs2 hB;have hx1:=hx0;rw[<-hX]at hx1;obtain⟨iA,hxe⟩:=yA.1 hx1;unfold MU at hC;simp only at hC
 by_cases c4:od.length=0
 .rw[yAJ c4]at hC;subst hC;have c5:od=[]:=yAf c4;subst c5;refine mZ (A4 q1 hx1 iA hxe) ?_;exact ag
 rw[yAI c4]at hC;have uO:¬od=[]:=λh=>c4 Ea
 by_cases c5:8<od.length
 .rw[yAJ c5]at hC;subst hC;have c6:8<(od.length:Int):=Cd;refine mZ (A8 q1 hx1 iA hxe c4 uO c5 c6) ?_;exact ag
 rw[yAI c5]at hC;have c6:¬8<(od.length:Int):=Cd;refine mZ (A9 q1 hx1 iA hxe c4 uO c5 c6 @us) ?_;obtain⟨M,hM⟩:=gn (σ.length);obtain⟨ZI,RS⟩:=gn (σ++[aA.map []]);have g0:ZI[0]?=some X:=by rw[<-RS,yAg iA];exact hx0
 have gM:ZI[M]?=some (kK []):=by rw[<-RS,<-hM];simp;rfl
 have hM0:0<M:=Cd;rw[RS,hM];clear RS hM q1;refine Wp.dW (λm fr σ=>∃(j z:Nat) (tok:Tok) (σ1:List aA),∃gg:Nat->PD,(j+m=od.length/\σ1[0]?=some X/\σ1[M]?=some (kK ((od.take j).map bO.name))/\(jQ (od.take j)=[]\/z=2)/\lI σ1 tok 50 2 j/\(if vX rs ((od.take j).map bO.name) (od.drop j)≠0 then vX rs ((od.take j).map bO.name) (od.drop j)else CG (jQ od) oc)=B)/\fr=gg 0::.ptr 0 0::gg 2::.gG M::gg 4::gg 5::gg 6::gg 7::.slice z ((jQ (od.take j)).map Em.dI.aB) tok::gg 9::gg 10::gg 11::gg 12::gg 13::gg 14::gg 15::gg 16::gg 17::gg 18::gg 19::gg 20::gg 21::gg 22::gg 23::gg 24::gg 25::gg 26::gg 27::gg 28::gg 29::gg 30::gg 31::gg 32::gg 33::gg 34::gg 35::gg 36::gg 37::gg 38::gg 39::gg 40::gg 41::gg 42::gg 43::gg 44::gg 45::gg 46::gg 47::gg 48::gg 49::gg 50::gg 51::gg 52::gg 53::gg 54::gg 55::tD.aB od::.int .i64 od.length::.int .i64 j::gg 59::gg 60::gg 61::gg 62::gg 63::gg 64::gg 65::gg 66::gg 67::gg 68::gg 69::gg 70::gg 71::gg 72::gg 73::gg 74::gg 75::gg 76::gg 77::gg 78::gg 79::gg 80::gg 81::gg 82::gg 83::gg 84::gg 85::gg 86::gg 87::gg 88::[]/\σ=σ1) ?_ (od.length) (by refine⟨0,0,.full,ZI,?_⟩;exact rF (⟨Cd,g0,gM,.inl rfl,.inl ⟨rfl,rfl⟩,hC⟩) Ga Ga)
 rintro m fr σ ⟨j,z,tok,σ1,gg,hI,rfl,rfl⟩
 obtain⟨hm2,hx2,l6,hzz,hrow,hs2⟩:=hI;have hx3:=hx2;rw[<-hX]at hx3;obtain⟨aFc,hxe3⟩:=yA.1 hx3
 by_cases hj:j<od.length
 .have q1:(j:Int)<(od.length:Int):=by omega
  obtain⟨a,ha⟩:=gn (od[j]);have hda:rM a:=hdd a (ha▸yAm hj);have MW:od.drop j=a::od.drop (j+1):=by rw[yAq hj,ha]
  have htk:(od.take (j+1)).map bO.name=(od.take j).map bO.name++[a.name]:=by rw[yBI hj,ha,yAH];rfl
  have hkk:jQ (od.take (j+1))=jQ (od.take j)++[(a.low,a.high)]:=by unfold jQ;rw[yBI hj,ha,yAH];rfl
  have hkl:(jQ (od.take j)).length=j:=by unfold jQ;rw[yAe,yAt];omega
  have hnn:=JG hda.1;have hE:=hO a hda;rw[MW]at hs2;unfold vX at hs2;have yH:=(yA.1 l6).1;have j0:∀x:aA,(σ++[x])[σ.length]?=some x:=λx=>Ce
  obtain⟨a0,a1,a2,a3,a4⟩:=a;obtain⟨e,he⟩:=gn (s6 rs ⟨a0,a1,a2,a3,a4⟩);simp only[he,nJ,bC]at hE;rw[he]at hs2;simp only at hs2 htk hnn hkk;cases d1:fO a0 with
  |false=>
   rw[d1]at hnn hs2;simp only[yAK,show ¬(8:Int)=0 by omega,ne_eq,yCz]at hs2;subst hs2;refine mZ (A6 q1 hj ha j0 h1 hnn) ?_;exact ag
  |true=>
  rw[d1]at hnn hs2;simp only[Bool.true_eq_false,yAN]at hs2;obtain⟨Z,hZ⟩:=gn (aA.box (.agg [.str a0,.bool a1,.int .i64 a2,.int .i64 a3,.slice (sz 4 a4) (a4.map Em.stop.aB) .any]));have hmz:(σ++[Z])[M]?=some (kK ((od.take j).map bO.name)):=by rw[yAg yH];exact l6
  cases hb:lT ((od.take j).map bO.name) a0 with
  |true=>
   rw[hb]at hs2;simp only[yAK,show ¬(9:Int)=0 by omega,ne_eq,yCz]at hs2;subst hs2;have hA:=λfl=>ZG (fl:=fl) hmz hb
   rw[<-hZ]at hA;refine mZ (A8 q1 hj ha j0 h1 hnn h3 hA) ?_;exact ag
  |false=>
  rw[hb]at hs2;simp only[yAx,yAN]at hs2;have hA:=ZH (fl:=0) hmz hb (yAF _);obtain⟨lU,eF⟩:=gn ((σ++[Z]).set M (kK ((od.take j).map bO.name++[a0])));have t0:lU[0]?=some X:=by rw[<-eF,yAd Cd,yAg aFc];exact hx2
  have t2:lU[M]?=some (kK ((od.take j).map bO.name++[a0])):=by rw[<-eF];exact yAj Co
  have tz:lU[σ.length]?=some Z:=by rw[<-eF,yAd Cd];exact j0 Z
  have tr:lI lU tok 50 2 j:=by rw[<-eF];exact hrow.more.set hmz trivial
  rw[eF]at hA;rw[<-hZ]at hA tz;have RT:=t0;rw[<-hX]at RT;obtain⟨l0,MY⟩:=yA.1 RT;obtain⟨l1,te1⟩:=yA.1 tz;clear eF
  by_cases d2:e=0
  rotate_left
  .simp only[ne_eq,d2,yCz,yAK]at hs2;subst hs2;refine mZ (A17 q1 hj ha j0 h1 hnn h3 hA RT l0 MY tz l1 te1 h4 hE @d2) ?_;exact ag
  subst d2;simp only[ne_eq,yBK,yAN]at hs2;obtain⟨A,hAA⟩:=gn ((jQ (od.take j)).map Em.dI.aB);have hAl:A.length=j:=by rw[<-hAA,yAe,hkl]
  obtain⟨jM,bW,hap,hr',hkeep,hnew⟩:=EX (P:=prog) (t:=98) (e:=50) (k:=2) (b:=16) (s:=z) (xs:=A) (p:=.agg [.int .i64 a2,.int .i64 a3]) (tk:=.any) (tok:=tok) (σ:=lU)
   underlying98 Cf (hzz.imp (λh=>by rw[<-hAA,h];rfl) id) (by rw[hAl];exact tr) Cd Cd
  have nX:mG (some X):=by rw[<-hX];trivial
  have w0:=hkeep 0 _ (tr.ne t0 nX) t0;have w2:=hkeep M _ (tr.ne t2 trivial) t2;rw[hAl]at hr';refine mZ (A18 q1 hj ha j0 h1 hnn h3 hA RT l0 MY tz l1 te1 h4 hE hAA hap) ?_;have hK:(jQ (od.take (j+1))).map Em.dI.aB=A++[.agg [.int .i64 a2,.int .i64 a3]]:=by rw[hkk,yAH,hAA];rfl
  refine bU.normal (m-1) Cd (by refine⟨j+1,2,jM,bW,?_⟩;exact fU (⟨Cd,w0,by rw[htk];exact w2,.inr rfl,hr',by rw[htk];exact hs2⟩) @hK)
 .have q1:¬(j:Int)<(od.length:Int):=by omega
  obtain rfl:j=od.length:=Cd;rw[yCD]at hs2;have hs3:CG (jQ od) oc=B:=hs2;rw[yDR]at hzz ⊢;have hkn:jQ od≠[]:=λh=>uO (by simpa [jQ]using h)
  have hz1:z=2:=hzz.resolve_left hkn;subst hz1;have hst:(PD.slice 2 ((jQ od).map Em.dI.aB) tok).strip=GK.aB (jQ od):=by
   rw[PD.tO,show((jQ od).map Em.dI.aB).map PD.strip=(jQ od).map Em.dI.aB by rw[yBs];exact yAG λx _=>Em.dI.str x];rw[bC];simp[sz,hkn]
  have hE:=aPj (ks:=jQ od) (l:=oc) (by unfold jQ;rw[yAe];exact hdl) hcl hcn hst;rw[hs3]at hE;simp only[bC]at hE;refine mZ (A6 q1 hx3 aFc hxe3 h5 hE) ?_;exact ag
end
section
def BW:Nat->List PD->List aA->Option (PD×List aA):=λ_ args σ=>match args with
 | [.agg [.str n,.bool x1,.int .i64 x2,.int .i64 x3,.slice xk xl xt],.ptr id 0]=>match σ[id]? with
   |some (.box (.agg [.str nm,.bool _,.int .i64 _,.int .i64 _,.slice _ _ _]))=>some (.bool (decide (n=nm)),σ++[.box (.agg [.str n,.bool x1,.int .i64 x2,.int .i64 x3,.slice xk xl xt])])
   |_=>none
 |_=>none
section
variable{E:aE}(hU:aJ E)
include hU
theorem aRl(h0:E 53=none)(fl:Nat)(x0:List UInt8)(x1:Bool)(x2:Int)(x3:Int)(xk:Nat)(xl:List PD)(xt:Tok)(nm:List UInt8)(y1:Bool)(y2:Int)(y3:Int)(yk:Nat)(yl:List PD)(yt:Tok)(id:Nat)(τ:List aA)(hid:τ[id]?=some (.box (.agg [.str nm,.bool y1,.int .i64 y2,.int .i64 y3,.slice yk yl yt]))) :
  aK prog E fl (.inl 53) [.agg [.str x0,.bool x1,.int .i64 x2,.int .i64 x3,.slice xk xl xt],.ptr id 0] τ (λp1 σ1=>p1=.bool (decide (x0=nm))/\σ1=τ++[.box (.agg [.str x0,.bool x1,.int .i64 x2,.int .i64 x3,.slice xk xl xt])]):=by
 obtain⟨hlt,he⟩:=yA.1 hid;have j0:∀x:aA,(τ++[x])[τ.length]?=some x:=λx=>Ce
 by_cases c:x0=nm
 .rw[yAX c];refine aK.aG 9 h0 func53 (h:=?_);exact Av
 .rw[yBc c];have f0:(x0==nm)=false:=by simpa using c
  refine aK.aG 9 h0 func53 (h:=?_);exact Aq
theorem aLU(hE:aF prog E)(h0:E 53=none):aF prog (E.add 53 BW):=
 hE.add Cf λfl args σ p σ' h=>by
  unfold BW at h;split at h
  .split at h
   .rename_i hid;simp only[yAb,yAc]at h;obtain⟨rfl,rfl⟩:=h;exact aK.xE (aRl hU h0 fl _ _ _ _ _ _ _ _ _ _ _ _ _ _ _ σ hid)
   .cases h
  .cases h
end
def BY:Nat->List PD->List aA->Option (PD×List aA):=λ_ args σ=>match args with
 | [.agg [.str n,.int .i64 x1,.int .i64 x2,.slice xk xl xt],.ptr id 0]=>match σ[id]? with
   |some (.box (.agg [.str nm,.int .i64 _,.int .i64 _,.slice _ _ _]))=>some (.bool (decide (n=nm)),σ++[.box (.agg [.str n,.int .i64 x1,.int .i64 x2,.slice xk xl xt])])
   |_=>none
 |_=>none
section
variable{E:aE}(hU:aJ E)
include hU
theorem aRm(h0:E 55=none)(fl:Nat)(x0:List UInt8)(x1:Int)(x2:Int)(xk:Nat)(xl:List PD)(xt:Tok)(nm:List UInt8)(y1:Int)(y2:Int)(yk:Nat)(yl:List PD)(yt:Tok)(id:Nat)(τ:List aA)(hid:τ[id]?=some (.box (.agg [.str nm,.int .i64 y1,.int .i64 y2,.slice yk yl yt]))) :
  aK prog E fl (.inl 55) [.agg [.str x0,.int .i64 x1,.int .i64 x2,.slice xk xl xt],.ptr id 0] τ (λp1 σ1=>p1=.bool (decide (x0=nm))/\σ1=τ++[.box (.agg [.str x0,.int .i64 x1,.int .i64 x2,.slice xk xl xt])]):=by
 obtain⟨hlt,he⟩:=yA.1 hid;have j0:∀x:aA,(τ++[x])[τ.length]?=some x:=λx=>Ce
 by_cases c:x0=nm
 .rw[yAX c];refine aK.aG 9 h0 func55 (h:=?_);exact Av
 .rw[yBc c];have f0:(x0==nm)=false:=by simpa using c
  refine aK.aG 9 h0 func55 (h:=?_);exact Aq
theorem aL0(hE:aF prog E)(h0:E 55=none):aF prog (E.add 55 BY):=
 hE.add Cf λfl args σ p σ' h=>by
  unfold BY at h;split at h
  .split at h
   .rename_i hid;simp only[yAb,yAc]at h;obtain⟨rfl,rfl⟩:=h;exact aK.xE (aRm hU h0 fl _ _ _ _ _ _ _ _ _ _ _ _ _ σ hid)
   .cases h
  .cases h
end
end
section
def AK(x:bO):aA:=.box (Em.div.aB x)
def pX(nm:List UInt8)(x:bO):Bool:=decide (x.name=nm)
section
variable{E:aE}(hU:aJ E)
include hU
theorem aRj(h0:E 52=none)(h1:E 53=some BW)(fl:Nat)(l:List bO)(nm:List UInt8)(y1:Bool)(y2 y3:Int)(yk:Nat)(yl:List PD)(yt:Tok)(id:Nat)(τ:List aA)(hid:τ[id]?=some (.box (.agg [.str nm,.bool y1,.int .i64 y2,.int .i64 y3,.slice yk yl yt])))(hl:l.length<=1000000) :
  aK prog E fl (.inl 52) [(Em.div.list 5).aB l,.func 53 [.ptr id 0]] τ (λp1 σ1=>p1=.int .i64 (eZ (pX nm) l 0)/\σ1=τ++(l.take (lE (pX nm) l)).map AK):=by
 obtain⟨B,hB⟩:=gn (eZ (pX nm) l 0);obtain⟨V,hV⟩:=gn (lE (pX nm) l);rw[hB,hV];refine aK.aG 19 h0 func52 (h:=?_);refine aC trivial ?_;refine Wp.dW (λm fr σ=>∃(i:Nat),∃gg:Nat->PD,(i+m=l.length/\eZ (pX nm) (l.drop i) i=B/\lE (pX nm) (l.drop i)+i=V)/\fr=[(Em.div.list 5).aB l,.func 53 [.ptr id 0],gg 2,gg 3,gg 4,gg 5,(Em.div.list 5).aB l,.int .i64 l.length,.int .i64 i,gg 9,gg 10,gg 11,gg 12,gg 13,gg 14,gg 15,gg 16,gg 17,gg 18]/\σ=τ++(l.take i).map AK) ?_ (l.length) (by refine⟨0,?_⟩;exact cL (⟨Cd,hB,hV⟩))
 rintro m fr σ ⟨i,gg,hI,rfl,rfl⟩
 obtain⟨hm,hs,hv⟩:=hI
 by_cases hi:i<l.length
 .have q1:(i:Int)<(l.length:Int):=by omega
  obtain⟨a,ha⟩:=gn (l[i]);have hc:l.drop i=a::l.drop (i+1):=Cp;have htk:l.take (i+1)=l.take i++[a]:=Hh;obtain⟨hlt,_⟩:=yA.1 hid;obtain⟨ρ,hρ⟩:=gn (τ++(l.take i).map AK);have x9:ρ[id]?=some (.box (.agg [.str nm,.bool y1,.int .i64 y2,.int .i64 y3,.slice yk yl yt])):=Ho;have hst:τ++(l.take (i+1)).map AK=ρ++[AK a]:=Ij;rw[hc]at hs hv;unfold eZ at hs;unfold lE at hv;obtain⟨a0,a1,a2,a3,a4⟩:=a;have hE:BW fl [.agg [.str a0,.bool a1,.int .i64 a2,.int .i64 a3,.slice (sz 4 a4) (a4.map Em.stop.aB) .any],.ptr id 0] ρ=some (.bool (decide (a0=nm)),ρ++[.box (.agg [.str a0,.bool a1,.int .i64 a2,.int .i64 a3,.slice (sz 4 a4) (a4.map Em.stop.aB) .any])]):=by
   unfold BW;simp only[x9]
  have D8:τ++(l.take (i+1)).map AK=ρ++[.box (.agg [.str a0,.bool a1,.int .i64 a2,.int .i64 a3,.slice (sz 4 a4) (a4.map Em.stop.aB) .any])]:=hst;have HO:τ++List.take (i+1) (l.map AK)=ρ++[.box (.agg [.str a0,.bool a1,.int .i64 a2,.int .i64 a3,.slice (sz 4 a4) (a4.map Em.stop.aB) .any])]:=by rw[<-yCW];exact D8
  rw[hρ]
  by_cases hb:a0=nm
  .rw[yAJ (by simp[pX,hb])]at hs hv;exact yu
  .rw[yAI (by simp[pX,hb])]at hs hv;exact cw
 .exact yx
end
def AM(x:cO):aA:=.box (Em.stop.aB x)
def rW(nm:List UInt8)(x:cO):Bool:=decide (x.name=nm)
section
variable{E:aE}(hU:aJ E)
include hU
theorem aRk(h0:E 54=none)(h1:E 55=some BY)(fl:Nat)(l:List cO)(nm:List UInt8)(y1 y2:Int)(yk:Nat)(yl:List PD)(yt:Tok)(id:Nat)(τ:List aA)(hid:τ[id]?=some (.box (.agg [.str nm,.int .i64 y1,.int .i64 y2,.slice yk yl yt])))(hl:l.length<=1000000) :
  aK prog E fl (.inl 54) [(Em.stop.list 4).aB l,.func 55 [.ptr id 0]] τ (λp1 σ1=>p1=.int .i64 (eZ (rW nm) l 0)/\σ1=τ++(l.take (lE (rW nm) l)).map AM):=by
 obtain⟨B,hB⟩:=gn (eZ (rW nm) l 0);obtain⟨V,hV⟩:=gn (lE (rW nm) l);rw[hB,hV];refine aK.aG 19 h0 func54 (h:=?_);refine aC trivial ?_;refine Wp.dW (λm fr σ=>∃(i:Nat),∃gg:Nat->PD,(i+m=l.length/\eZ (rW nm) (l.drop i) i=B/\lE (rW nm) (l.drop i)+i=V)/\fr=[(Em.stop.list 4).aB l,.func 55 [.ptr id 0],gg 2,gg 3,gg 4,gg 5,(Em.stop.list 4).aB l,.int .i64 l.length,.int .i64 i,gg 9,gg 10,gg 11,gg 12,gg 13,gg 14,gg 15,gg 16,gg 17,gg 18]/\σ=τ++(l.take i).map AM) ?_ (l.length) (by refine⟨0,?_⟩;exact cL (⟨Cd,hB,hV⟩))
 rintro m fr σ ⟨i,gg,hI,rfl,rfl⟩
 obtain⟨hm,hs,hv⟩:=hI
 by_cases hi:i<l.length
 .have q1:(i:Int)<(l.length:Int):=by omega
  obtain⟨a,ha⟩:=gn (l[i]);have hc:l.drop i=a::l.drop (i+1):=Cp;have htk:l.take (i+1)=l.take i++[a]:=Hh;obtain⟨hlt,_⟩:=yA.1 hid;obtain⟨ρ,hρ⟩:=gn (τ++(l.take i).map AM);have x9:ρ[id]?=some (.box (.agg [.str nm,.int .i64 y1,.int .i64 y2,.slice yk yl yt])):=Ho;have hst:τ++(l.take (i+1)).map AM=ρ++[AM a]:=Ij;rw[hc]at hs hv;unfold eZ at hs;unfold lE at hv;obtain⟨a0,a1,a2,a3⟩:=a;have hE:BY fl [.agg [.str a0,.int .i64 a1,.int .i64 a2,.slice (sz 3 a3) (a3.map Em.fB.aB) .any],.ptr id 0] ρ=some (.bool (decide (a0=nm)),ρ++[.box (.agg [.str a0,.int .i64 a1,.int .i64 a2,.slice (sz 3 a3) (a3.map Em.fB.aB) .any])]):=by
   unfold BY;simp only[x9]
  have D8:τ++(l.take (i+1)).map AM=ρ++[.box (.agg [.str a0,.int .i64 a1,.int .i64 a2,.slice (sz 3 a3) (a3.map Em.fB.aB) .any])]:=hst;have HO:τ++List.take (i+1) (l.map AM)=ρ++[.box (.agg [.str a0,.int .i64 a1,.int .i64 a2,.slice (sz 3 a3) (a3.map Em.fB.aB) .any])]:=by rw[<-yCW];exact D8
  rw[hρ]
  by_cases hb:a0=nm
  .rw[yAJ (by simp[rW,hb])]at hs hv;exact yu
  .rw[yAI (by simp[rW,hb])]at hs hv;exact cw
 .exact yx
end
end
section
open Classical in
def DJ:Nat->List PD->List aA->Option (PD×List aA):=λ_ args σ=>match args with
 | [p,.func g [.ptr id 0]]=>match (Em.div.list 5).dec p with
   |some l=>if p=(Em.div.list 5).aB l/\g=53/\l.length<=1000000 then match σ[id]? with
     |some (.box (.agg [.str nm,.bool _,.int .i64 _,.int .i64 _,.slice _ _ _]))=>some (.int .i64 (eZ (pX nm) l 0),σ++(l.take (lE (pX nm) l)).map AK)
     |_=>none
    else none
   |none=>none
 |_=>none
theorem aLX{E:aE}(hU:aJ E)(hE:aF prog E)(h0:E 52=none)(h1:E 53=some BW):aF prog (E.add 52 DJ):=
 hE.add Cf λfl args σ p σ' h=>by
  unfold DJ at h;split at h
  .split at h
   .rename_i l hl;split at h
    .rename_i hc;obtain⟨rfl,rfl,hlen⟩:=hc;split at h
     .rename_i hid;simp only[yAb,yAc]at h;obtain⟨rfl,rfl⟩:=h;exact aK.xE (aRj hU h0 h1 fl l _ _ _ _ _ _ _ _ σ hid hlen)
     .cases h
    .cases h
   .cases h
  .cases h
open Classical in
def DK:Nat->List PD->List aA->Option (PD×List aA):=λ_ args σ=>match args with
 | [p,.func g [.ptr id 0]]=>match (Em.stop.list 4).dec p with
   |some l=>if p=(Em.stop.list 4).aB l/\g=55/\l.length<=1000000 then match σ[id]? with
     |some (.box (.agg [.str nm,.int .i64 _,.int .i64 _,.slice _ _ _]))=>some (.int .i64 (eZ (rW nm) l 0),σ++(l.take (lE (rW nm) l)).map AM)
     |_=>none
    else none
   |none=>none
 |_=>none
theorem aL3{E:aE}(hU:aJ E)(hE:aF prog E)(h0:E 54=none)(h1:E 55=some BY):aF prog (E.add 54 DK):=
 hE.add Cf λfl args σ p σ' h=>by
  unfold DK at h;split at h
  .split at h
   .rename_i l hl;split at h
    .rename_i hc;obtain⟨rfl,rfl,hlen⟩:=hc;split at h
     .rename_i hid;simp only[yAb,yAc]at h;obtain⟨rfl,rfl⟩:=h;exact aK.xE (aRk hU h0 h1 fl l _ _ _ _ _ _ _ σ hid hlen)
     .cases h
    .cases h
   .cases h
  .cases h
theorem aRh{l:List bO}(hl:l.length<=1000000){id:Nat}{σ:Jj}{nm:Jl}{y1:Bool}{y2 y3:Int}{yk:Nat}{yl:Jk}{yt:Tok}(hid:σ[id]?=some (.box (.agg [.str nm,.bool y1,.int .i64 y2,.int .i64 y3,.slice yk yl yt])))(fl:Nat) :
  DJ fl [(Em.div.list 5).aB l,.func 53 [.ptr id 0]] σ=some (.int .i64 (eZ (pX nm) l 0),σ++(l.take (lE (pX nm) l)).map AK):=by
 have e1:=Em.dC ((Em.div.list 5).str l);unfold DJ;simp only[e1];rw[yAJ ⟨trivial,trivial,hl⟩];simp only[hid]
theorem aRi{l:List cO}(hl:l.length<=1000000){id:Nat}{σ:Jj}{nm:Jl}{y1 y2:Int}{yk:Nat}{yl:Jk}{yt:Tok}(hid:σ[id]?=some (.box (.agg [.str nm,.int .i64 y1,.int .i64 y2,.slice yk yl yt])))(fl:Nat) :
  DK fl [(Em.stop.list 4).aB l,.func 55 [.ptr id 0]] σ=some (.int .i64 (eZ (rW nm) l 0),σ++(l.take (lE (rW nm) l)).map AM):=by
 have e1:=Em.dC ((Em.stop.list 4).str l);unfold DK;simp only[e1];rw[yAJ ⟨trivial,trivial,hl⟩];simp only[hid]
end
theorem aPf:∀x∈rS,s7 x.1 x.2=0:=Cj
theorem aO8:∀x∈D4,s7 x.1 x.2=0:=Cj
theorem RO:∀i:Nat,i<10->∀c∈([82,83,67,68]:List UInt8),fO [c,UInt8.ofNat (48+i)]=true:=Cj
theorem aPg:∀n:Int,fO (CE n)=true:=by
 intro n;have h:∀t∈GI,fO t=true:=Cj;have h0:fO [79,112,101,110]=true:=Cj;unfold CE;rw[yAA];cases e:GI[(n%3).toNat]? with
 |none=>
  have:=(yEf.1 e);have h3:GI.length=3:=rfl;omega
 |some t=>exact h t (yAE e)
theorem aPh(n:Int):pM n∈rS:=by
 have hlt:(n%16).toNat<rS.length:=by
  have h:rS.length=16:=rfl;omega
 unfold pM;rw[yAA,yAh hlt];exact yAm hlt
theorem aE7(x:n8)(hx:CQ x)(i:Nat):pB (uM x i)=0:=by
 have h1:fO [82,digit (i%10)]=true:=RO (i%10) (yBC _ Ch) 82 Ce;have h2:=aPg x.j9;have h3:=aPf _ (aPh x.dI);have h4:=hx.2.2.1;have hwl:(yJ x (1+(x.AP%25).toNat)).length=1+(x.AP%25).toNat:=by simp[yJ]
 have hb:(yJ x (1+(x.AP%25).toNat)).any mL=false:=by
  rw[yDC];intro w hw;obtain⟨k,_,rfl⟩:=yAw.1 hw;have hlt:k%5<5:=yBC _ Ch;have hr:0<=yI x k/\yI x k<=255:=by
   exact jg
  unfold mL;simp;omega
 unfold pB uM;simp only[h1,h2,h3,hwl,hb];have h5:-256<=x.first/\x.first<=256:=⟨by have:=h4.1;omega,by have:=h4.2;omega⟩;simp[h5];omega
theorem ZD{ns:List (List UInt8)}{nm:Jl}(h:nm∉ns):lT ns nm=false:=by
 unfold lT;rw[yDC];intro n hn e;exact h (by rw[show nm=n by simpa using e];exact hn)
theorem aE8:∀(l:List bP) (ns:List (List UInt8)),(∀r∈l,pB r=0)->(ns++l.map bP.name).Nodup->s8 ns l=0
 | [],_,_,_=>rfl
 |r::t,ns,h,hn=>by
  have h0:=h r (yBe ..);rw[yAV]at hn;have hnn:r.name∉ns:=λhm=>(yCB.1 hn).2.2 _ hm _ (yBe ..) rfl
  unfold s8;rw[h0,ZD hnn];simp only[ne_eq,yBK,yAN,yAx];exact aE8 t (ns++[r.name]) (λq hq=>h q (yCn _ hq)) (by rw[yAi];exact hn)
theorem ZE:∀c∈([82,83,67,68]:List UInt8),∀n:Nat,n<11->((List.range n).map λi=>[c,digit (i%10)]).Nodup:=Cj
theorem aPc(l:List n8)(hl:∀x∈l,CQ x)(n:Nat)(hn:n<=l.length)(aVX:n<=10):s8 [] (iK l n)=0:=by
 refine aE8 _ [] (λr hr=>?_) ?_
 .obtain⟨i,hi,rfl⟩:=yAw.1 hr;have hi':i<l.length:=Iv;refine aE7 _ ?_ i;rw[yAA,yAh hi'];exact hl _ (yAm hi')
 .rw[yAW];have h:(iK l n).map bP.name=(List.range n).map λi=>[82,digit (i%10)]:=by
   unfold iK;rw[yBs];rfl
  rw[h];exact ZE 82 Ce n Cd
def aE9(k:Nat)(c:cJ):Prop:=fO c.name=true/\0<=c.dJ/\c.dJ<k/\0<=c.dst/\c.dst<k/\-127<=c.shift/\c.shift<=127/\¬(c.dJ=c.dst/\c.shift=0)
theorem aFa(k:Nat):∀(l pre:List cJ),(∀c∈l,aE9 k c)->(pre.map cJ.name++l.map cJ.name).Nodup->uP k pre l=0
 | [],_,_,_=>rfl
 |c::t,pre,h,hn=>by
  obtain⟨h1,h2,h3,h4,h5,h6,h7,h8⟩:=h c (yBe ..);rw[yAV]at hn;have hnn:pre.any (jZ c.name)=false:=by
   rw[yDC];intro x hx e;have e2:x.name=c.name:=by simpa [jZ]using e
   exact(yCB.1 hn).2.2 _ (yAw.2 ⟨x,hx,rfl⟩) _ (yBe ..) e2
  unfold uP;rw[h1,hnn,yAI Ce,yAI Ce,yAI Cd,yAI Cd,yAI h8];exact aFa k t (pre++[c]) (λq hq=>h q (yCn _ hq)) (by rw[yAH,yAi];exact hn)
theorem aPd(l:List tB)(n k:Nat)(hn:1<=n)(hk:k<=10):uP n [] (mK n l k)=0:=by
 refine aFa n _ [] (λc hc=>?_) ?_
 .obtain⟨i,hi,rfl⟩:=yAw.1 hc;have hi':=yAR.1 hi;obtain⟨x,hx⟩:=gn (l.getD i default);simp only[hx];have hnm:fO [67,digit i]=true:=RO i Cd 67 Ce;have e1:=yDA x.dJ (show(n:Int)≠0 by omega);have e2:=yDB x.dJ (show(0:Int)<n by omega);have e3:=yDA x.dst (show(n:Int)≠0 by omega);have e4:=yDB x.dst (show(0:Int)<n by omega);unfold aE9 I9;simp only;obtain⟨s,hs⟩:=gn (x.shift.tmod 25);have e5:-25<s/\s<25:=by
   rw[<-hs];rcases Int.lt_or_le x.shift 0 with h|h
   .have:=Int.neg_tmod (-x.shift) 25;rw[Int.neg_neg]at this;rw[this,yBX Cd];omega
   .rw[yBX h];omega
  rw[hs];refine⟨hnm,e1,e2,e3,e4,?_,?_,?_⟩
  .split<;>omega
  .split<;>omega
  .split
   .omega
   .assumption
 .have h:(mK n l k).map cJ.name=(List.range k).map λi=>[67,digit i]:=by
   unfold mK;rw[yBs];rfl
  rw[yBY,yAW,h];have h2:=ZE 67 Ce k Cd;rw[show(List.range k).map (λi=>[(67:UInt8),digit i])=(List.range k).map λi=>[67,digit (i%10)]from yAG λi hi=>by rw[Nat.mod_eq_of_lt Iv]];exact h2
theorem ZB{k:Nat}{n s:Int}(h0:0<=n)(h1:n<k)(h2:-127<=s)(h3:s<=127):nZ k [⟨n,s⟩]=0:=by
 unfold nZ;rw[yAI Ce];unfold AA;rw[yAI Dj,yAI Dj,yAI Ce];rfl
theorem aO4{k:Nat}{n s:Int}(h0:0<=n)(h1:n<k)(h2:-127<=s)(h3:s+7<=127):nZ k [⟨n,s⟩,⟨n,s+7⟩]=0:=by
 unfold nZ;rw[yAI Ce];unfold AA;rw[yAI Dj,yAI Dj,yAI Ce];unfold AA;rw[yAI Dj,yAI Dj,yAI Co];rfl
theorem RN{k:Nat}{lo hg:Int}{g:jE}(h1:lo<=g.lo)(h2:g.hi<=hg)(h3:g.lo<=g.hi)(hd:nZ k g.aR=0):AB k lo hg [g]=0:=by
 unfold AB;rw[yAI Ce,yAI Ce];unfold AD;rw[yAI Cd,yAI (by simp[GJ];omega),yAI (by simp[hd])];rfl
theorem aO5{k:Nat}{lo hg:Int}{g q:jE}(h1:lo<=g.lo)(h2:q.hi<=hg)(h3:g.lo<=g.hi)(h4:g.hi<q.lo)(h5:q.lo<=q.hi)(hd:nZ k g.aR=0)(hq:nZ k q.aR=0):AB k lo hg [g,q]=0:=by
 unfold AB;rw[yAI Ce,yAI Ce];unfold AD;rw[yAI Cd,yAI (by simp[GJ];omega),yAI (by simp[hd])];unfold AD;rw[yAI Cd,yAI (by simp[GJ];omega),yAI (by simp[hq])];rfl
theorem aO6(k:Nat)(kd n sh lo hg at_ m other:Int)(hn0:0<=n)(hn:n<k)(hm0:0<=m)(hm:m<k)(hs:-60<=sh/\sh<=64)(ho:-60<=other/\other<=64)(ha:lo<=at_)(hb:at_<=hg) :
  AB k lo hg (s4 kd n sh lo hg at_ m other)=0:=by
 have d1:nZ k [⟨n,sh⟩]=0:=ZB hn0 hn Cd Cd;have d2:nZ k [⟨n,sh-12⟩]=0:=ZB hn0 hn Cd Cd;have d3:nZ k [⟨m,other⟩]=0:=ZB hm0 hm Cd Cd;unfold s4;split
 .exact RN Ce Ce Dj (aO4 hn0 hn Cd Cd)
 split
 .have d4:nZ k (if kd=3 then [⟨m,other⟩]else [⟨n,sh-12⟩])=0:=by
   split
   .exact d3
   .exact d2
  split
  .exact aO5 Ce Ce Dj Dj (by simpa using hb) d1 d4
  .exact RN (by simpa using ha) Ce (by simpa using hb) d4
 split
 .exact RN (by simpa using ha) Ce (by simpa using hb) d1
 .exact RN Ce Ce Dj d1
theorem aE1:∀l:List bP,(∀r∈l,pB r=0)->AE l=0
 | [],_=>rfl
 |r::t,h=>by
  unfold AE;rw[h r (yBe ..),yAI Ce];exact aE1 t λq hq=>h q (yCn _ hq)
theorem ZC{lo hg:Int}(h3:0<=lo)(h4:lo<=hg)(h5:hg<=127):mY lo hg=0:=by
 unfold mY;rw[yAI Cd,yAI Cd]
theorem aO7(rs:List bP)(hr:∀r∈rs,pB r=0)(h1:1<=rs.length)(h2:rs.length<=60)(lo hg:Int)(h3:0<=lo)(h4:lo<=hg)(h5:hg<=127)(x:qL)(hx:ES x)(i:Nat)(hi:i<10) :
  s5 rs lo hg (vV rs lo hg x i)=0:=by
 have hp:yK rs lo hg=0:=by
  unfold yK;rw[yAI Cd,aE1 rs hr,yAI Ce];exact ZC h3 h4 h5
 have hn:fO [83,digit i]=true:=RO i hi 83 Ce;have hf:=aO8 _ (Y2 x.dI hx.2.1);have hk:(rs.length:Int)≠0:=Cd;have e1:=yDA x.aN hk;have e2:=yDB x.aN (show(0:Int)<rs.length by omega);have e3:=yDA (x.aN%rs.length+1) hk;have e4:=yDB (x.aN%rs.length+1) (show(0:Int)<rs.length by omega);have e5:=yDA x.at_ (show hg-lo+1≠0 by omega);have e6:=yDB x.at_ (show(0:Int)<hg-lo+1 by omega);unfold s5 vV;simp only;rw[yAI (by simp[hp]),yAI (by simp[hn]),yAI (by simp[hf])];exact aO6 _ _ _ _ _ _ _ _ _ e1 e2 e3 e4 (Y3 _ _) (Y3 _ _) Cd Cd
theorem aE2(rs:List bP)(lo hg:Int):∀(l:List cO) (ns:List (List UInt8)),(∀s∈l,s5 rs lo hg s=0)->(ns++l.map cO.name).Nodup->AF rs lo hg ns l=0
 | [],_,_,_=>rfl
 |r::t,ns,h,hn=>by
  have h0:=h r (yBe ..);rw[yAV]at hn;have hnn:r.name∉ns:=λhm=>(yCB.1 hn).2.2 _ hm _ (yBe ..) rfl
  unfold AF;rw[h0,ZD hnn];simp only[ne_eq,yBK,yAN,yAx];exact aE2 rs lo hg t (ns++[r.name]) (λq hq=>h q (yCn _ hq)) (by rw[yAi];exact hn)
theorem aE3(c:UInt8)(hc:c∈([82,83,67,68]:List UInt8))(n:Nat)(hn:n<=10):((List.range n).map λi=>[c,digit i]).Nodup:=by
 have h2:=ZE c hc n Cd;rw[show(List.range n).map (λi=>[c,digit i])=(List.range n).map λi=>[c,digit (i%10)]from yAG λi hi=>by rw[Nat.mod_eq_of_lt Iv]];exact h2
theorem RQ{α:Type}{l:List α}{i:Nat}(h:i<l.length)(d:α):l.getD i d∈l:=by
 rw[yAA,yAh h];exact yAm h
theorem aO9(rs:List bP)(hr:∀r∈rs,pB r=0)(h1:1<=rs.length)(h2:rs.length<=60)(b:rZ)(hb:okB b)(hl:b.stops.length<=10)(i:Nat):s6 rs (z8 rs b i)=0:=by
 obtain⟨⟨a1,a2⟩,⟨a3,a4⟩,a5⟩:=hb;unfold s6 z8;simp only;have hc:mY (36+b.low%12) (36+b.low%12+b.keys%9)=0:=ZC Cd Cd Cd;have hll:(vU rs (36+b.low%12) (36+b.low%12+b.keys%9) b.stops b.stops.length).length=b.stops.length:=by simp[vU]
 rw[yAI (by simp[hc]),yAI (by rw[hll];omega)];refine aE2 _ _ _ _ [] (λs hs=>?_) ?_
 .obtain⟨j,hj,rfl⟩:=yAw.1 hs;have hj':=yAR.1 hj;exact aO7 rs hr h1 h2 _ _ Cd Cd Cd _ (a5 _ (RQ hj' _)) j Cd
 .rw[yAW,show(vU rs (36+b.low%12) (36+b.low%12+b.keys%9) b.stops b.stops.length).map cO.name=(List.range b.stops.length).map λi=>[83,digit i] by
   unfold vU;rw[yBs];rfl]
  exact aE3 83 Ce _ hl
theorem aE4(rs:List bP):∀(l:List bO) (ns:List (List UInt8)),(∀d∈l,fO d.name=true/\s6 rs d=0)->(ns++l.map bO.name).Nodup->vX rs ns l=0
 | [],_,_,_=>rfl
 |r::t,ns,h,hn=>by
  obtain⟨h0,h1⟩:=h r (yBe ..);rw[yAV]at hn;have hnn:r.name∉ns:=λhm=>(yCB.1 hn).2.2 _ hm _ (yBe ..) rfl
  unfold vX;rw[h0,h1,ZD hnn];simp only[ne_eq,yBK,yAN,yAx,Bool.true_eq_false];exact aE4 rs t (ns++[r.name]) (λq hq=>h q (yCn _ hq)) (by rw[yAi];exact hn)
structure aPa (p:pY):Prop where
 r1:1<=p.aQ.length
 r3:p.aQ.length<=3
 d1:1<=p.aD.length
 d3:p.aD.length<=3
 c3:p.aL.length<=3
 s3:∀b∈p.aD,b.stops.length<=3
theorem JD{p:pY}(h:nI p=true):aPa p:=by
 simp only[nI,yAr,yCa]at h;obtain⟨⟨⟨⟨⟨hR1,hR3⟩,GG⟩,hD3⟩,hC3⟩,vW⟩:=h;exact⟨hR1,hR3,GG,hD3,hC3,λb hb=>by simpa using yAn.1 vW b hb⟩
theorem aE5{l:List n8}{n:Nat}(hn:n<=l.length){r:bP}(h:r∈iK l n):∃x∈l,∃i,i<n/\r=uM x i:=by
 exact ju
theorem ZF{rs:List bP}{l:List rZ}{n:Nat}(hn:n<=l.length){r:bO}(h:r∈lP rs l n):∃x∈l,∃i,i<n/\r=z8 rs x i:=by
 exact ju
theorem aPb{rs:List bP}{lo hg:Int}{l:List qL}{n:Nat}(hn:n<=l.length){r:cO}(h:r∈vU rs lo hg l n):∃x∈l,∃i,i<n/\r=vV rs lo hg x i:=by
 exact ju
theorem JE(rs:List bP)(l:List rZ)(n:Nat):(lP rs l n).length=n:=by simp[lP]
theorem JF(l:List n8)(n:Nat):(iK l n).length=n:=by simp[iK]
theorem aE6(k:Nat)(l:List tB)(n:Nat):(mK k l n).length=n:=by simp[mK]
theorem aJQ(p:pY)(hp:yW p)(hf:nI p=true):dG (fW p)=0:=by
 obtain⟨r1,r3,d1,d3,c3,s3⟩:=JD hf;obtain⟨hpR,hpD,hpC⟩:=hp;have hrl:=JF p.aQ p.aQ.length;have hra:∀r∈iK p.aQ p.aQ.length,pB r=0:=λr hr=>by
  obtain⟨x,hx,i,_,rfl⟩:=aE5 (yAk _) hr;exact aE7 x (hpR x hx) i
 have hrn:=aPc p.aQ hpR p.aQ.length (yAk _) Cd;obtain⟨rs,hrs⟩:=gn (iK p.aQ p.aQ.length);have hdl:=JE rs p.aD p.aD.length;have hcl:=aE6 p.aD.length p.aL p.aL.length;have hnm:fO [79,114,103,97,110]=true:=Cj;have hco:=aPd p.aL p.aD.length p.aL.length d1 Cd;unfold dG MU fW;simp only;rw[hrs]at hrl hra hrn ⊢;have hdi:vX rs [] (lP rs p.aD p.aD.length)=0:=by
  refine aE4 rs _ [] (λd hd=>?_) ?_
  .obtain⟨x,hx,i,hi,rfl⟩:=ZF (yAk _) hd;exact⟨RO i Cd 68 Ce,aO9 rs hra Cd Cd x (hpD x hx) (by have:=s3 x hx;omega) i⟩
  .rw[yAW,show(lP rs p.aD p.aD.length).map bO.name=(List.range p.aD.length).map λi=>[68,digit i] by
    unfold lP;rw[yBs];rfl]
   exact aE3 68 Ce _ Cd
 have hkl:(jQ (lP rs p.aD p.aD.length)).length=p.aD.length:=by
  unfold jQ;rw[yAe,hdl]
 have hcb:CF (jQ (lP rs p.aD p.aD.length))=false:=by
  unfold CF;rw[yDC];intro x hx;obtain⟨d,hd,rfl⟩:=yAw.1 hx;obtain⟨b,hb,i,hi,rfl⟩:=ZF (yAk _) hd;obtain⟨⟨a1,a2⟩,⟨a3,a4⟩,a5⟩:=hpD b hb;have hc:mY (36+b.low%12) (36+b.low%12+b.keys%9)=0:=ZC Cd Cd Cd;simp[z8,hc]
 rw[yAI (by simp[hnm]),yAI Cd,yAI (by simp[hrn]),yAI Cd,yAI Cd,yAI (by simp[hdi])];unfold CG;rw[yAI Cd,yAI (by simp[hcb]),hkl];exact hco
theorem aPe(k n sh lo hi at_ m other:Int):(s4 k n sh lo hi at_ m other).length<=2/\∀g∈s4 k n sh lo hi at_ m other,g.aR.length<=2:=by
 unfold s4;split
 .simp
 split
 .split
  .constructor
   .simp
   .intro g hg;simp only[yBt,yAW,yBl,yBN,yBO]at hg;rcases hg with rfl|rfl
    .simp
    .simp only;split<;>simp
  .constructor
   .simp
   .intro g hg;simp only[yAW,yBl,yBN,yBO]at hg;subst hg;simp only;split<;>simp
 split
 .simp
 .simp
structure Small (o:aY):Prop where
 nm:o.name.length<=100
 rl:o.aQ.length<=60
 rk:∀r∈o.aQ,r.name.length<=100/\r.j9.length<=100/\r.mC.length<=100
 dl:o.aD.length<=60
 dv:∀d∈o.aD,d.name.length<=100/\d.stops.length<=100/\∀s∈d.stops,s.name.length<=100/\s.aO.length<=100/\∀g∈s.aO,g.aR.length<=100
 cl:o.aL.length<=60
 cp:∀c∈o.aL,c.name.length<=100
theorem aJR(p:pY)(hf:nI p=true):Small (fW p):=by
 obtain⟨r1,r3,d1,d3,c3,s3⟩:=JD hf;unfold fW;refine⟨Ce,by simp only[JF];omega,λr hr=>?_,by simp only[JE];omega,λd hd=>?_,by simp only[aE6];omega,λc hc=>?_⟩
 .obtain⟨x,hx,i,_,rfl⟩:=aE5 (yAk _) hr;refine⟨by simp[uM],?_,by simp[uM,yJ];omega⟩;unfold uM CE;simp only;rw[yAA];have h:∀t∈GI,t.length<=100:=Ch;cases e:GI[(x.j9%3).toNat]? with
  |none=>simp
  |some t=>exact h t (yAE e)
 .obtain⟨b,hb,i,_,rfl⟩:=ZF (yAk _) hd;refine⟨by simp[z8],?_,λs hs=>?_⟩
  .simp only[z8,vU,yAe,List.length_range];have:=s3 b hb;omega
  .obtain⟨x,hx,j,_,rfl⟩:=aPb (yAk _) hs;obtain⟨k1,k2⟩:=aPe (x.kind%6) (x.aN%(iK p.aQ p.aQ.length).length) (xD (nW x.dI) (D5 (iK p.aQ p.aQ.length) (x.aN%(iK p.aQ p.aQ.length).length).toNat)) (36+b.low%12) (36+b.low%12+b.keys%9) (36+b.low%12+x.at_%(36+b.low%12+b.keys%9-(36+b.low%12)+1))
    ((x.aN%(iK p.aQ p.aQ.length).length+1)%(iK p.aQ p.aQ.length).length) (xD (nW x.dI) (D5 (iK p.aQ p.aQ.length) ((x.aN%(iK p.aQ p.aQ.length).length+1)%(iK p.aQ p.aQ.length).length).toNat))
   unfold vV;exact⟨Ce,Dj,λg hg=>by have:=k2 g hg;omega⟩
 .obtain⟨j,hj,rfl⟩:=yAw.1 hc;simp[I9]
theorem Small.dP{o:aY}(h:Small o):dP o:=by
 obtain⟨h1,h2,h3,h4,h5,h6,h7⟩:=h;refine⟨Gq,⟨λr hr=>?_,Cd⟩,⟨Cd,λd hd=>?_⟩,Cd,λc hc=>?_⟩
 .obtain⟨a,b,c⟩:=h3 r hr;exact⟨by unfold gU JY;omega,Gq,Gq⟩
 .obtain⟨a,b,c⟩:=h5 d hd;refine⟨Gq,Cd,λs hs=>?_⟩;obtain⟨e,f,g⟩:=c s hs;exact⟨⟨Cd,λq hq=>by have:=g q hq;unfold wH yZ;omega⟩,Gq⟩
 .have:=h7 c hc;unfold lB;omega
end Go.Kz
end
