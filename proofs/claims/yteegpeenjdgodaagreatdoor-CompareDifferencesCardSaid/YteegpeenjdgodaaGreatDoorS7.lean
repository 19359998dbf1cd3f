/- Steps of the proof. -/
import Derived.Test.YteegpeenjdgodaaGreatDoorS5c
set_option linter.all false
set_option maxHeartbeats 40000000
set_option maxRecDepth 100000
open Go.Proofs.Tryz
noncomputable section
namespace Go.Kz
open Go Go.Proofs
section
theorem aL7(R:List lZ)(i:Nat)(a:lZ)(hi:i<R.length)(ha:R[i]=a):fS R (i+1)=fS R i++[rS a i]:=by
 unfold fS;exact ld
theorem aC1(R:List lZ)(i:Nat):(fS R i).length=i:=by simp[fS]
def NY:Nat->List PD->List aB->Option (PD×List aB):=entry (eD Em.tM i64 Em.aG λx i=>dY (AA x/\0<=i/\i<10) (some (rS x i.toNat)))
theorem aL8{x:lZ}{i:Nat}(hx:AA x)(hi:i<10)(fl:Nat)(σ:List aB):NY fl [Em.tM.aA x,.int .i64 i] σ=some (Em.aG.aA (rS x i),σ):=by
 have e2:i64.dec (.int .i64 (i:Int))=some (i:Int):=Em.cO rfl;unfold NY entry eD;simp only[Em.Y8,e2];rw[gO ⟨hx,ye,ye⟩];rfl
theorem aL9(rs:List bB)(D:List qC)(i:Nat)(a:qC)(hi:i<D.length)(ha:D[i]=a):jV rs D (i+1)=jV rs D i++[xC rs a i]:=by
 unfold jV;exact ld
theorem aC2(rs:List bB)(D:List qC)(i:Nat):(jV rs D i).length=i:=by simp[jV]
theorem aMa(rs:List bB)(lo hg:Int)(L:List oK)(i:Nat)(a:oK)(hi:i<L.length)(ha:L[i]=a):s7 rs lo hg L (i+1)=s7 rs lo hg L i++[s8 rs lo hg a i]:=by
 unfold s7;exact ld
theorem aMb(rs:List bB)(lo hg:Int)(L:List oK)(i:Nat):(s7 rs lo hg L i).length=i:=by simp[s7]
theorem aMc(n:Nat)(L:List q9)(i:Nat)(a:q9)(hi:i<L.length)(ha:L[i]=a):kT n L (i+1)=kT n L i++[GA n a i]:=by
 unfold kT;exact ld
theorem U5(n:Nat)(L:List q9)(i:Nat):(kT n L i).length=i:=by simp[kT]
theorem jR.ne{σ:Ex}{tok:Tok}{e:TypeId}{k n id:Nat}{o:aB}(h:jR σ tok e k n)(ho:σ[id]?=some o)(hn:kL (some o)):tok≠.own id:=by
 rintro rfl
 rcases h with⟨_,h⟩ | ⟨_,id',h,h2⟩
 .cases h
 .simp only[Tok.own.injEq]at h;subst h;rw[ho,yAb]at h2;subst h2;exact hn
theorem jR.set{σ:Ex}{tok:Tok}{e:TypeId}{k n id:Nat}{o x:aB}(h:jR σ tok e k n)(ho:σ[id]?=some o)(hn:kL (some o)):jR (σ.set id x) tok e k n:=
 h.bF λj o' ej hj=>by
  have:id≠j:=λe=>h.ne ho hn (by rw[ej,e])
  rw[yAd this];exact hj
theorem cL{σ τ:Ex}{i:Nat}{o:aB}(h:σ[i]?=some o):(σ++τ)[i]?=some o:=by
 exact kf
def U6:List PD->Option PD:=λargs=>match args with
 | [a,b,c,d]=>match aK.dec a,Em.cH.dec b,Em.pull.dec c,i64.dec d with
   |some rs,some lh,some x,some i=>dY ((∀r∈rs,(r.num,r.den)∈pT)/\1<=rs.length/\rs.length<=60/\0<=lh.1/\lh.1<=lh.2/\lh.2<=200/\CB x/\0<=i/\i<10) (some (Em.stop.aA (s8 rs lh.1 lh.2 x i.toNat)))
   |_,_,_,_=>none
 |_=>none
def JD:Nat->List PD->List aB->Option (PD×List aB):=entry U6
theorem aMd{W:PD}{rs:List bB}{lo hg:Int}{x:oK}{i:Nat}(hW:W.strip=aK.aA rs)(hr:∀r∈rs,(r.num,r.den)∈pT)(h1:1<=rs.length)(h2:rs.length<=60)(hlo:0<=lo)(hlh:lo<=hg)(hhg:hg<=200)(hx:CB x)(hi:i<10)(fl:Nat)(σ:List aB) :
  JD fl [W,.agg [.int .i64 lo,.int .i64 hg],Em.pull.aA x,.int .i64 i] σ=some (Em.stop.aA (s8 rs lo hg x i),σ):=by
 have e1:aK.dec W=some rs:=Em.cO hW;have e2:Em.cH.dec (.agg [.int .i64 lo,.int .i64 hg])=some (lo,hg):=Em.cO (Em.cH.str (lo,hg));have e3:i64.dec (.int .i64 (i:Int))=some (i:Int):=Em.cO rfl;unfold JD entry U6;simp only[e1,e2,e3,Em.Y8];rw[gO ⟨hr,h1,h2,hlo,hlh,hhg,hx,ye,ye⟩];rfl
variable{E:aE}(hU:aH E)
include hU
theorem aK2(h0:E 13=none)(h1:E 30=some NY)(h2:E 31=some JD)(p:oC)(hp:AB p)(hf:l7 p=true):aI prog E 13 [Em.pB.aA p] (Em.bH.aA (uH p)):=by
 obtain⟨R,D,C⟩:=p;have DI:=hf;simp only[l7,yAr,yBY]at DI;obtain⟨⟨⟨⟨⟨U7,hR3⟩,DG⟩,OC⟩,hC3⟩,s9⟩:=DI;obtain⟨hpR,hpD,hpC⟩:=hp;simp only at hpR hpD hpC;simp only[EB,iA,aV];refine aI.aN 153 h0 func13 (h:=?_);refine aC trivial ?_;refine Wp.cI (λm fr σ=>∃(i z:Nat),∃gg:Nat->PD,(i+m=R.length/\(fS R i=[]\/z=6))/\fr=gg 0::.ptr 0 0::.ptr 1 0::.ptr 2 0::.int .i64 i::gg 5::gg 6::gg 7::gg 8::gg 9::gg 10::gg 11::gg 12::gg 13::gg 14::gg 15::gg 16::gg 17::gg 18::gg 19::gg 20::gg 21::gg 22::gg 23::gg 24::gg 25::gg 26::gg 27::gg 28::gg 29::gg 30::gg 31::gg 32::gg 33::gg 34::gg 35::gg 36::gg 37::gg 38::gg 39::gg 40::gg 41::gg 42::gg 43::gg 44::gg 45::gg 46::gg 47::gg 48::gg 49::gg 50::gg 51::gg 52::gg 53::gg 54::gg 55::gg 56::gg 57::gg 58::gg 59::gg 60::gg 61::gg 62::gg 63::gg 64::gg 65::gg 66::gg 67::gg 68::gg 69::gg 70::gg 71::gg 72::gg 73::gg 74::gg 75::gg 76::gg 77::gg 78::gg 79::gg 80::gg 81::gg 82::gg 83::gg 84::gg 85::gg 86::gg 87::gg 88::gg 89::gg 90::gg 91::gg 92::gg 93::gg 94::gg 95::gg 96::gg 97::gg 98::gg 99::gg 100::gg 101::gg 102::gg 103::gg 104::gg 105::gg 106::gg 107::gg 108::gg 109::gg 110::gg 111::gg 112::gg 113::gg 114::gg 115::gg 116::gg 117::gg 118::gg 119::gg 120::gg 121::gg 122::gg 123::gg 124::gg 125::gg 126::gg 127::gg 128::gg 129::gg 130::gg 131::gg 132::gg 133::gg 134::gg 135::gg 136::gg 137::gg 138::gg 139::gg 140::gg 141::gg 142::gg 143::gg 144::gg 145::gg 146::gg 147::gg 148::gg 149::gg 150::gg 151::gg 152::[]/\σ=St [.box (.agg [.slice (sz 9 R) (R.map Em.tM.aA) .any,.slice (sz 4 D) (D.map Em.xZ.aA) .any,.slice (sz 4 C) (C.map Em.link.aA) .any]),.box (.agg [.str [],.slice 0 [] .full,.slice 0 [] .full,.slice 0 [] .full]),.box (.agg [.str [79,114,103,97,110],.slice z ((fS R i).map Em.aG.aA) (iQ 3 (fS R i).length),.slice 0 [] .full,.slice 0 [] .full])] 48 6 (fS R i).length) ?_ (R.length) (by refine⟨0,0,?_⟩;exact jZ (⟨ye,.inl rfl⟩) Br Br)
 rintro m fr σ ⟨i,z,gg,hI,rfl,rfl⟩
 obtain⟨hm,hz⟩:=hI
 by_cases hi:i<R.length
 .have q1:(i:Int)<(R.length:Int):=by omega
  obtain⟨a,ha⟩:=gn (R[i]);have hs:=aL7 R i a hi ha;have hl:=aC1 R i;have hG:=aL8 (i:=i) (hpR a (ha▸yAm hi)) ye;obtain⟨q,hq⟩:=gn (rS a i);rw[hq]at hG hs;obtain⟨L,hL⟩:=gn (fS R i);rw[hL]at hz hl hs ⊢;obtain⟨q0,U8,q2,q3,q4,q5⟩:=q;obtain⟨a0,a1,a2,a3,a4,a5,a6,a7,a8⟩:=a;simp only[YP,oD,aV]at hG;refine aC (A7 q1 hi ha h1 hG @hz hl) ?_;refine bC.normal (m-1) ye (by refine⟨i+1,6,?_⟩;exact dU (⟨ye,.inr rfl⟩) (A2 hs hl))
 .have q1:¬(i:Int)<(R.length:Int):=by omega
  obtain rfl:i=R.length:=ye;have hl:=aC1 R R.length;have hne:fS R R.length≠[]:=λh=>by rw[h]at hl;simp at hl;omega
  have hz6:z=6:=hz.resolve_left hne;subst hz6;refine aC q1 ?_;have hrf:∀r∈fS R R.length,(r.num,r.den)∈pT:=by
   intro r hr;simp only[fS,yAw,yAU]at hr;obtain⟨j,hj,rfl⟩:=hr;have:R.getD j default=R[j]:=by simp[yAA,hj]
   rw[this];exact aMe _ (hpR _ (yAm hj)).2.1
  have hrl:=hl;obtain⟨rs,hrs⟩:=gn (fS R R.length);have hO:uH ⟨R,D,C⟩=⟨[79,114,103,97,110],rs,jV rs D D.length,kT D.length C C.length⟩:=by
   unfold uH;simp only[hrs]
  rw[hO];rw[hrs]at hrf hrl hne ⊢;clear hO hrs hz hl hm q1;obtain⟨W,hW⟩:=gn (PD.slice 6 (rs.map Em.aG.aA) (iQ 3 rs.length));have hWs:W.strip=aK.aA rs:=by
   rw[<-hW,PD.rH];show _=PD.slice (sz 6 rs) (rs.map Em.aG.aA) .any
   rw[rE hne,show(rs.map Em.aG.aA).map PD.strip=rs.map Em.aG.aA by rw[yBA];exact yAG λx _=>Em.aG.str x];simp[hne]
  rw[hW];obtain⟨X0,oS⟩:=gn (aB.box (.agg [.slice (sz 9 R) (R.map Em.tM.aA) .any,.slice (sz 4 D) (D.map Em.xZ.aA) .any,.slice (sz 4 C) (C.map Em.link.aA) .any]));obtain⟨bP,OD⟩:=gn (St [X0,.box (.agg [.str [],.slice 0 [] .full,.slice 0 [] .full,.slice 0 [] .full]),.box (.agg [.str [79,114,103,97,110],W,.slice 0 [] .full,.slice 0 [] .full])] 48 6 rs.length);have s0:bP[0]?=some X0:=by rw[<-OD];exact QO yg
  have s1:bP[1]?=some (.box (.agg [.str [],.slice 0 [] .full,.slice 0 [] .full,.slice 0 [] .full])):=by rw[<-OD];exact QO yg
  have s2:bP[2]?=some (.box (.agg [.str [79,114,103,97,110],W,.slice 0 [] .full,.slice 0 [] .full])):=by rw[<-OD];exact QO yg
  rw[oS,OD];have P9:jV rs D 0=[]:=rfl;refine Wp.cI (λm fr σ=>∃(i z:Nat) (tok:Tok) (σ1:List aB),∃gg:Nat->PD,(i+m=D.length/\(jV rs D i=[]\/z=5)/\jR σ1 tok 53 5 i/\σ1[0]?=some X0/\σ1[1]?=some (.box (.agg [.str [],.slice 0 [] .full,.slice 0 [] .full,.slice 0 [] .full]))/\σ1[2]?=some (.box (.agg [.str [79,114,103,97,110],W,.slice z ((jV rs D i).map Em.div.aA) tok,.slice 0 [] .full])))/\fr=gg 0::.ptr 0 0::.ptr 1 0::.ptr 2 0::gg 4::.int .i64 i::gg 6::gg 7::gg 8::gg 9::gg 10::gg 11::gg 12::gg 13::gg 14::gg 15::gg 16::gg 17::gg 18::gg 19::gg 20::gg 21::gg 22::gg 23::gg 24::gg 25::gg 26::gg 27::gg 28::gg 29::gg 30::gg 31::gg 32::gg 33::gg 34::gg 35::gg 36::gg 37::gg 38::gg 39::gg 40::gg 41::gg 42::gg 43::gg 44::gg 45::gg 46::gg 47::gg 48::gg 49::gg 50::gg 51::gg 52::gg 53::gg 54::gg 55::gg 56::gg 57::gg 58::gg 59::gg 60::gg 61::gg 62::gg 63::gg 64::gg 65::gg 66::gg 67::gg 68::gg 69::gg 70::gg 71::gg 72::gg 73::gg 74::gg 75::gg 76::gg 77::gg 78::gg 79::gg 80::gg 81::gg 82::gg 83::gg 84::gg 85::gg 86::gg 87::gg 88::gg 89::gg 90::gg 91::gg 92::gg 93::gg 94::gg 95::gg 96::gg 97::gg 98::gg 99::gg 100::gg 101::gg 102::gg 103::gg 104::gg 105::gg 106::gg 107::gg 108::gg 109::gg 110::gg 111::gg 112::gg 113::gg 114::gg 115::gg 116::gg 117::gg 118::gg 119::gg 120::gg 121::gg 122::gg 123::gg 124::gg 125::gg 126::gg 127::gg 128::gg 129::gg 130::gg 131::gg 132::gg 133::gg 134::gg 135::gg 136::gg 137::gg 138::gg 139::gg 140::gg 141::gg 142::gg 143::gg 144::gg 145::gg 146::gg 147::gg 148::gg 149::gg 150::gg 151::gg 152::[]/\σ=σ1) ?_ (D.length) (by refine⟨0,0,.full,bP,?_⟩;exact bG (⟨ye,.inl rfl,.inl ⟨rfl,rfl⟩,s0,s1,by rw[P9];exact s2⟩))
  rintro m fr σ ⟨i,z,tok,σ1,gg,hI,rfl,rfl⟩
  obtain⟨hm,hz,hrow,g0,g1,g2⟩:=hI
  by_cases hi:i<D.length
  .have q1:(i:Int)<(D.length:Int):=by omega
   obtain⟨a,ha⟩:=gn (D[i]);obtain⟨hl8,hk8,hP8⟩:=hpD a (ha▸yAm hi);have hP3:a.stops.length<=3:=by
    have:=yAn.1 s9 a (ha▸yAm hi);exact bq
   have hbs:=aL9 rs D i a hi ha;obtain⟨l,ke,pe,P⟩:=a;simp only at hl8 hk8 hP8 hP3;obtain⟨l,rfl⟩:∃q:Nat,l=q:=⟨l.toNat,by have:=hl8.1;omega⟩;obtain⟨ke,rfl⟩:∃q:Nat,ke=q:=⟨ke.toNat,by have:=hk8.1;omega⟩;obtain⟨L,hL⟩:=gn (l%12);obtain⟨K,hK⟩:=gn (ke%9);have t1:(l:Int).tmod 12=(L:Int):=by rw[<-hL];rfl
   have t2:IntKind.i64.wrap (L:Int)=(L:Int):=ym;have t3:IntKind.i64.wrap (36+(L:Int))=36+(L:Int):=ym;have t4:(ke:Int).tmod 9=(K:Int):=by rw[<-hK];rfl
   have t5:IntKind.i64.wrap (K:Int)=(K:Int):=ym;have t6:IntKind.i64.wrap (36+(L:Int)+(K:Int))=36+(L:Int)+K:=ym;have d2:IntKind.i64.wrap (48+(i:Int))=48+(i:Int):=ym;have d3:IntKind.u8.wrap (48+(i:Int))=48+(i:Int):=yq;obtain⟨dg,hdg⟩:=gn (UInt8.ofNat (48+(i:Int)).toNat);obtain⟨ps,hps⟩:=gn (s7 rs (36+(L:Int)) (36+(L:Int)+K) P);have hbo:xC rs ⟨l,ke,pe,P⟩ i=⟨[68,dg],pe,36+(L:Int),36+(L:Int)+K,ps P.length⟩:=by
    unfold xC digit;simp only[show(l:Int)%12=(L:Int) by omega,show(ke:Int)%9=(K:Int) by omega,hps,<-hdg,show(48+(i:Int)).toNat=48+i by omega]
   rw[hbo]at hbs;have hpsl:∀k,(ps k).length=k:=λk=>by rw[<-hps];exact aMb _ _ _ _ _
   have aC3:ps 0=[]:=yAf (hpsl 0);have hpss:∀(k:Nat) (x:oK) (hk:k<P.length),P[k]=x->ps (k+1)=ps k++[s8 rs (36+(L:Int)) (36+(L:Int)+K) x k]:=λk x hk hx=>by rw[<-hps];exact aMa _ _ _ _ _ _ hk hx
   have rU:=g0;rw[<-oS]at rU;refine aC (A13 q1 hi ha rU @t1 @t2 @t3 @t4 @t5 @t6 @d2 @d3 hdg) ?_;have hlt2:2<σ.length:=(yA.1 g2).1;obtain⟨BX,hBX⟩:=gn (aB.box (.agg [.int .u8 l,.int .u8 ke,.bool pe,.slice (sz 4 P) (P.map Em.pull.aA) .any]));rw[hBX];obtain⟨DX,hDX⟩:=gn (aB.box (.agg [.str [68,dg],.bool pe,.int .i64 (36+(L:Int)),.int .i64 (36+(L:Int)+K),.slice 0 [] .full]));rw[hDX];have u0:(σ++[BX,DX])[0]?=some X0:=by rw[yAg ye];exact g0
   have u1:(σ++[BX,DX])[1]?=_:=(yAg ye).trans g1;have u2:(σ++[BX,DX])[2]?=_:=(yAg ye).trans g2;have u3:(σ++[BX,DX])[σ.length]?=some BX:=yg;have u4:(σ++[BX,DX])[σ.length+1]?=some DX:=yg;have urow:=hrow.more (τ:=[BX,DX]);obtain⟨σ3,GB⟩:=gn (σ++[BX,DX]);rw[GB]at u0 u1 u2 u3 u4 urow ⊢;obtain⟨pb,hpb⟩:=gn (σ.length);rw[hpb]at u3 u4 hlt2 ⊢;obtain⟨M,hM⟩:∃M,M=m:=⟨_,rfl⟩;rw[<-hM]at hm ⊢;clear hM GB hpb g0 rU g1 g2 hrow;rw[<-hDX]at u4;refine Wp.cI (λm fr σ=>∃(k z2:Nat) (GC:Tok) (σ2:List aB),∃gg:Nat->PD,(k+m=P.length/\(ps k=[]\/z2=4)/\jR σ2 GC 56 4 k/\jR σ2 tok 53 5 i/\(∀id,GC=.own id->tok≠.own id)/\σ2[0]?=some X0/\σ2[1]?=some (.box (.agg [.str [],.slice 0 [] .full,.slice 0 [] .full,.slice 0 [] .full]))/\σ2[2]?=some (.box (.agg [.str [79,114,103,97,110],W,.slice z ((jV rs D i).map Em.div.aA) tok,.slice 0 [] .full]))/\σ2[pb]?=some BX/\σ2[pb+1]?=some (.box (.agg [.str [68,dg],.bool pe,.int .i64 (36+(L:Int)),.int .i64 (36+(L:Int)+K),.slice z2 ((ps k).map Em.stop.aA) GC])))/\fr=gg 0::.ptr 0 0::.ptr 1 0::.ptr 2 0::gg 4::.int .i64 i::.ptr pb 0::gg 7::.ptr (pb+1) 0::.int .i64 k::gg 10::gg 11::gg 12::gg 13::gg 14::gg 15::gg 16::gg 17::gg 18::gg 19::gg 20::gg 21::gg 22::gg 23::gg 24::gg 25::gg 26::gg 27::gg 28::gg 29::gg 30::gg 31::gg 32::gg 33::gg 34::gg 35::gg 36::gg 37::gg 38::gg 39::gg 40::gg 41::gg 42::gg 43::gg 44::gg 45::gg 46::gg 47::gg 48::gg 49::gg 50::gg 51::gg 52::gg 53::gg 54::gg 55::gg 56::gg 57::gg 58::gg 59::gg 60::gg 61::gg 62::gg 63::gg 64::gg 65::gg 66::gg 67::gg 68::gg 69::gg 70::gg 71::gg 72::gg 73::gg 74::gg 75::gg 76::gg 77::gg 78::gg 79::gg 80::gg 81::gg 82::gg 83::gg 84::gg 85::gg 86::gg 87::gg 88::gg 89::gg 90::gg 91::gg 92::gg 93::gg 94::gg 95::gg 96::gg 97::gg 98::gg 99::gg 100::gg 101::gg 102::gg 103::gg 104::gg 105::gg 106::gg 107::gg 108::gg 109::gg 110::gg 111::gg 112::gg 113::gg 114::gg 115::gg 116::gg 117::gg 118::gg 119::gg 120::gg 121::gg 122::gg 123::gg 124::gg 125::gg 126::gg 127::gg 128::gg 129::gg 130::gg 131::gg 132::gg 133::gg 134::gg 135::gg 136::gg 137::gg 138::gg 139::gg 140::gg 141::gg 142::gg 143::gg 144::gg 145::gg 146::gg 147::gg 148::gg 149::gg 150::gg 151::gg 152::[]/\σ=σ2) ?_ (P.length) (by refine⟨0,0,.full,σ3,?_⟩;exact bG (⟨ye,.inl aC3,.inl ⟨rfl,rfl⟩,urow,(λid e=>zu),u0,u1,u2,u3,(by rw[aC3];exact u4)⟩))
   rintro m fr σ ⟨k,z2,GC,σ2,gg,hI,rfl,rfl⟩
   obtain⟨hm2,jI,nW,hrowD,MP,v0,v1,v2,v3,v4⟩:=hI
   by_cases hk:k<P.length
   .have q2:(k:Int)<(P.length:Int):=by omega
    obtain⟨x,hx⟩:=gn (P[k]);have hsu:=hpss k x hk hx;have hG:=aMd (i:=k) (x:=x) (lo:=36+(L:Int)) (hg:=36+(L:Int)+K) hWs hrf ye ye ye ye ye (hP8 x (hx▸yAm hk)) ye;obtain⟨q,hq⟩:=gn (s8 rs (36+(L:Int)) (36+(L:Int)+K) x k);rw[hq]at hG hsu;obtain⟨q0,U8,q2',q3⟩:=q;obtain⟨x0,x1,x2,x3⟩:=x;simp only[YR,qE,aV]at hG;rw[<-hBX]at v3;obtain⟨A,hA⟩:=gn ((ps k).map Em.stop.aA);have hAl:A.length=k:=by rw[<-hA,yAe,hpsl]
    have qU:A=[]\/z2=4:=jI.imp (λh=>Cu) id;obtain⟨fG,gE,hap,hr',hkeep,hnew⟩:=CH (P:=prog) (t:=51) (e:=56) (k:=4) (b:=56) (s:=z2) (xs:=A) (p:=.agg [.str q0,.int .i64 U8,.int .i64 q2',.slice (sz 3 q3) (q3.map Em.eU.aA) .any]) (tk:=.any) (tok:=GC) (σ:=σ)
     underlying51 yf qU (by rw[hAl];exact nW) ye ye
    rw[hA]at v4;have nX:kL (some X0):=Ci;have nB:kL (some BX):=by rw[<-hBX];trivial
    rw[hBX]at v3;have w0:=hkeep 0 _ (nW.ne v0 nX) v0;have w1:=hkeep 1 _ (nW.ne v1 trivial) v1;have w2:=hkeep 2 _ (nW.ne v2 trivial) v2;have w3:=hkeep pb _ (nW.ne v3 nB) v3;have w4:=hkeep (pb+1) _ (nW.ne v4 trivial) v4;rw[hAl]at hr';have aMf:=(hrowD.bF (σ':=gE) λid o e h=>hkeep id o (λe2=>MP id e2 e) h);have aMg:∀id,fG=.own id->tok≠.own id:=λid e e2=>by
     rcases hnew id e with e3|e3
     .exact MP id e3 e2
     .subst e3;rcases hrowD with⟨_,e4⟩ | ⟨_,id',e4,h5⟩
      .rw[e4]at e2;cases e2
      .rw[e4]at e2;simp only[Tok.own.injEq]at e2;subst e2;have:=(yA.1 h5).1;omega
    rw[<-hBX]at v3;refine aC (A12 q2 @hk hx @v0 @v1 @v2 @v3 @v4 h2 hG hap w4) ?_;have vL:pb+1<gE.length:=(yA.1 w4).1;refine bC.normal (m-1) ye (by refine⟨k+1,4,fG,gE.set (pb+1) (.box (.agg [.str [68,dg],.bool pe,.int .i64 (36+(L:Int)),.int .i64 (36+(L:Int)+K),.slice 4 (A++[.agg [.str q0,.int .i64 U8,.int .i64 q2',.slice (sz 3 q3) (q3.map Em.eU.aA) .any]]) fG])),?_⟩;exact bG (⟨ye,.inr rfl,hr'.set w4 trivial,aMf.set w4 trivial,aMg,(by rw[yAd ye];exact w0),(by rw[yAd ye];exact w1),(by rw[yAd ye];exact w2),(by rw[yAd ye];exact w3),(by rw[hsu,yAH,hA];exact yAj vL)⟩))
   .have q2:¬(k:Int)<(P.length:Int):=by omega
    obtain rfl:k=P.length:=ye;obtain⟨Y,hY⟩:=gn (PD.slice z2 ((ps P.length).map Em.stop.aA) GC);have hYp:Y.plain=true:=by rw[<-hY];rfl
    have hYs:Y.strip=.slice (sz 4 (ps P.length)) ((ps P.length).map Em.stop.aA) .any:=by
     rw[<-hY,PD.rH,show((ps P.length).map Em.stop.aA).map PD.strip=(ps P.length).map Em.stop.aA by rw[yBA];exact yAG λx _=>Em.stop.str x];rcases jI with h|h
     .rw[h];rfl
     .rw[h];simp[sz]
    rw[hY]at v4;rw[<-hBX]at v3;obtain⟨A,hA⟩:=gn ((jV rs D i).map Em.div.aA);have hAl:A.length=i:=by rw[<-hA,yAe,aC2]
    have qU:A=[]\/z=5:=hz.imp (λh=>Cu) id;rw[hA]at v2;obtain⟨fG,gE,hap,hr',hkeep,hnew⟩:=CH (P:=prog) (t:=32) (e:=53) (k:=5) (b:=64) (s:=z) (xs:=A) (p:=.agg [.str [68,dg],.bool pe,.int .i64 (36+(L:Int)),.int .i64 (36+(L:Int)+K),.slice (sz 4 (ps P.length)) ((ps P.length).map Em.stop.aA) .any]) (tk:=.any) (tok:=tok) (σ:=σ)
     underlying32 yf qU (by rw[hAl];exact hrowD) ye ye
    have nX:kL (some X0):=Ci;have w0:=hkeep 0 _ (hrowD.ne v0 nX) v0;have w1:=hkeep 1 _ (hrowD.ne v1 trivial) v1;have w2:=hkeep 2 _ (hrowD.ne v2 trivial) v2;rw[hAl]at hr';refine aC (A10 q2 @v0 @v1 @v2 @v3 @v4 hap w2 hYp hYs) ?_;have vL:2<gE.length:=(yA.1 w2).1;refine bC.normal (M-1) ye (by refine⟨i+1,5,fG,gE.set 2 (.box (.agg [.str [79,114,103,97,110],W,.slice 5 (A++[.agg [.str [68,dg],.bool pe,.int .i64 (36+(L:Int)),.int .i64 (36+(L:Int)+K),.slice (sz 4 (ps P.length)) ((ps P.length).map Em.stop.aA) .any]]) fG,.slice 0 [] .full])),?_⟩;exact bG (⟨ye,.inr rfl,hr'.set w2 trivial,(by rw[yAd ye];exact w0),(by rw[yAd ye];exact w1),(by rw[hbs,yAH,hA];exact yAj vL)⟩))
  .have q1:¬(i:Int)<(D.length:Int):=by omega
   obtain rfl:i=D.length:=ye;have hbl:=aC2 rs D D.length;have hbne:jV rs D D.length≠[]:=λh=>by rw[h]at hbl;simp at hbl;omega
   have hz5:z=5:=hz.resolve_left hbne;subst hz5;obtain⟨Y,hY⟩:=gn (PD.slice 5 ((jV rs D D.length).map Em.div.aA) tok);have hYp:Y.plain=true:=by rw[<-hY];rfl
   have hYs:Y.strip=.slice (sz 5 (jV rs D D.length)) ((jV rs D D.length).map Em.div.aA) .any:=by
    rw[<-hY,PD.rH,show((jV rs D D.length).map Em.div.aA).map PD.strip=(jV rs D D.length).map Em.div.aA by rw[yBA];exact yAG λx _=>Em.div.str x];rw[rE hbne];simp[hbne]
   have hWp:W.plain=true:=by rw[<-hW];rfl
   have aMh:W.strip=.slice (sz 6 rs) (rs.map Em.aG.aA) .any:=hWs;rw[hY]at g2;have rU:=g0;rw[<-oS]at rU;refine aC (A4 q1 rU @g1 @g2) ?_;have nF:kT D.length C 0=[]:=rfl;refine Wp.cI (λm fr σ=>∃(j z3:Nat) (BK:Tok) (σ1:List aB),∃gg:Nat->PD,(j+m=C.length/\(kT D.length C j=[]\/z3=5)/\jR σ1 BK 58 5 j/\σ1[0]?=some X0/\σ1[1]?=some (.box (.agg [.str [],.slice 0 [] .full,.slice 0 [] .full,.slice 0 [] .full]))/\σ1[2]?=some (.box (.agg [.str [79,114,103,97,110],W,Y,.slice z3 ((kT D.length C j).map Em.aJ.aA) BK])))/\fr=gg 0::.ptr 0 0::.ptr 1 0::.ptr 2 0::gg 4::gg 5::gg 6::gg 7::gg 8::gg 9::.int .i64 D.length::.int .i64 j::gg 12::gg 13::gg 14::gg 15::gg 16::gg 17::gg 18::gg 19::gg 20::gg 21::gg 22::gg 23::gg 24::gg 25::gg 26::gg 27::gg 28::gg 29::gg 30::gg 31::gg 32::gg 33::gg 34::gg 35::gg 36::gg 37::gg 38::gg 39::gg 40::gg 41::gg 42::gg 43::gg 44::gg 45::gg 46::gg 47::gg 48::gg 49::gg 50::gg 51::gg 52::gg 53::gg 54::gg 55::gg 56::gg 57::gg 58::gg 59::gg 60::gg 61::gg 62::gg 63::gg 64::gg 65::gg 66::gg 67::gg 68::gg 69::gg 70::gg 71::gg 72::gg 73::gg 74::gg 75::gg 76::gg 77::gg 78::gg 79::gg 80::gg 81::gg 82::gg 83::gg 84::gg 85::gg 86::gg 87::gg 88::gg 89::gg 90::gg 91::gg 92::gg 93::gg 94::gg 95::gg 96::gg 97::gg 98::gg 99::gg 100::gg 101::gg 102::gg 103::gg 104::gg 105::gg 106::gg 107::gg 108::gg 109::gg 110::gg 111::gg 112::gg 113::gg 114::gg 115::gg 116::gg 117::gg 118::gg 119::gg 120::gg 121::gg 122::gg 123::gg 124::gg 125::gg 126::gg 127::gg 128::gg 129::gg 130::gg 131::gg 132::gg 133::gg 134::gg 135::gg 136::gg 137::gg 138::gg 139::gg 140::gg 141::gg 142::gg 143::gg 144::gg 145::gg 146::gg 147::gg 148::gg 149::gg 150::gg 151::gg 152::[]/\σ=σ1) ?_ (C.length) (by refine⟨0,0,.full,σ,?_⟩;exact bG (⟨ye,.inl nF,.inl ⟨rfl,rfl⟩,g0,g1,(by rw[nF];exact g2)⟩))
   rintro m fr σ ⟨j,z3,BK,σ1,gg,hI,rfl,rfl⟩
   obtain⟨hm,hz,hrow,g0,g1,g2⟩:=hI
   by_cases hj:j<C.length
   .have q1:(j:Int)<(C.length:Int):=by omega
    obtain⟨a,ha⟩:=gn (C[j]);obtain⟨U9,VA,VB⟩:=hpC a (ha▸yAm hj);have hls:=aMc D.length C j a hj ha;obtain⟨o,d,s,th⟩:=a;simp only at U9 VA VB;obtain⟨o,rfl⟩:∃q:Nat,o=q:=⟨o.toNat,by have:=U9.1;omega⟩;obtain⟨d,rfl⟩:∃q:Nat,d=q:=⟨d.toNat,by have:=VA.1;omega⟩;have ho9:=U9.2;have hd9:=VA.2;have t1:IntKind.i64.wrap (o:Int)=(o:Int):=ym;have t2:IntKind.i64.wrap (d:Int)=(d:Int):=ym;have t3:IntKind.i64.wrap s=s:=by have:=VB.1;have:=VB.2;rw[yAP];omega
    have t4:¬(D.length:Int)=0:=ye;have t5:¬D=[]:=λh=>by rw[h]at DG;simp at DG
    obtain⟨O,hO⟩:∃O:Int,(o:Int).tmod (D.length:Int)=O:=⟨_,rfl⟩;obtain⟨Q,hQ⟩:∃Q:Int,(d:Int).tmod (D.length:Int)=Q:=⟨_,rfl⟩;obtain⟨S,hS⟩:∃S:Int,s.tmod 25=S:=⟨_,rfl⟩;have hO':(o:Int)%(D.length:Int)=O:=hO;have hQ':(d:Int)%(D.length:Int)=Q:=hQ;have d2:IntKind.i64.wrap (48+(j:Int))=48+(j:Int):=ym;have d3:IntKind.u8.wrap (48+(j:Int))=48+(j:Int):=yq;obtain⟨dg,hdg⟩:=gn (UInt8.ofNat (48+(j:Int)).toNat);have hln:GA D.length ⟨o,d,s,th⟩ j=⟨[67,dg],O,Q,if O=Q/\S=0 then 12 else S,th⟩:=by
     unfold GA digit;simp only[hO',hQ',hS,<-hdg,show(48+(j:Int)).toNat=48+j by omega]
    rw[hln]at hls;have rU:=g0;rw[<-oS]at rU
    by_cases hoq:O=Q
    .by_cases nV:S=0
     .subst hoq;subst nV;have hE:(if O=O/\(0:Int)=0 then(12:Int)else(0:Int))=12:=yg;rw[hE]at hls;obtain⟨A,hA⟩:=gn ((kT D.length C j).map Em.aJ.aA);have hAl:A.length=j:=by rw[<-hA,yAe,U5]
      have qU:A=[]\/z3=5:=hz.imp (λh=>Cu) id;rw[hA]at g2;have nX:kL (some X0):=Ci;have u0:=cL (τ:=[.box (.agg [.int .u8 o,.int .u8 d,.int .i8 s,.bool th]),.box (.agg [.str [67,dg],.int .i64 O,.int .i64 O,.int .i64 12,.bool th])]) g0;have u1:=cL (τ:=[.box (.agg [.int .u8 o,.int .u8 d,.int .i8 s,.bool th]),.box (.agg [.str [67,dg],.int .i64 O,.int .i64 O,.int .i64 12,.bool th])]) g1;have u2:=cL (τ:=[.box (.agg [.int .u8 o,.int .u8 d,.int .i8 s,.bool th]),.box (.agg [.str [67,dg],.int .i64 O,.int .i64 O,.int .i64 12,.bool th])]) g2;have urow:=hrow.more (τ:=[.box (.agg [.int .u8 o,.int .u8 d,.int .i8 s,.bool th]),.box (.agg [.str [67,dg],.int .i64 O,.int .i64 O,.int .i64 12,.bool th])]);obtain⟨fG,gE,hap,hr',hkeep,hnew⟩:=CH (P:=prog) (t:=33) (e:=58) (k:=5) (b:=48) (s:=z3) (xs:=A) (p:=.agg [.str [67,dg],.int .i64 O,.int .i64 O,.int .i64 12,.bool th]) (tk:=.any) (tok:=BK)
       underlying33 yf qU En ye ye
      have w0:=hkeep 0 _ (urow.ne u0 nX) u0;have w1:=hkeep 1 _ (urow.ne u1 trivial) u1;have w2:=hkeep 2 _ (urow.ne u2 trivial) u2;rw[hAl]at hr';refine aC (A19 q1 hj ha rU @g2 u2 hap w2 @t1 @t2 @t3 @t4 @t5 hO hQ hS @d2 @d3 hdg) ?_;have vL:2<gE.length:=(yA.1 w2).1;refine bC.normal (m-1) ye (by refine⟨j+1,5,fG,gE.set 2 (.box (.agg [.str [79,114,103,97,110],W,Y,.slice 5 (A++[.agg [.str [67,dg],.int .i64 O,.int .i64 O,.int .i64 12,.bool th]]) fG])),?_⟩;exact bG (⟨ye,.inr rfl,hr'.set w2 trivial,(by rw[yAd ye];exact w0),(by rw[yAd ye];exact w1),Dd⟩))
     .subst hoq;have hE:(if O=O/\S=0 then(12:Int)else S)=S:=by simp[nV]
      rw[hE]at hls;obtain⟨A,hA⟩:=gn ((kT D.length C j).map Em.aJ.aA);have hAl:A.length=j:=by rw[<-hA,yAe,U5]
      have qU:A=[]\/z3=5:=hz.imp (λh=>Cu) id;rw[hA]at g2;have nX:kL (some X0):=Ci;have u0:=cL (τ:=[.box (.agg [.int .u8 o,.int .u8 d,.int .i8 s,.bool th]),.box (.agg [.str [67,dg],.int .i64 O,.int .i64 O,.int .i64 S,.bool th])]) g0;have u1:=cL (τ:=[.box (.agg [.int .u8 o,.int .u8 d,.int .i8 s,.bool th]),.box (.agg [.str [67,dg],.int .i64 O,.int .i64 O,.int .i64 S,.bool th])]) g1;have u2:=cL (τ:=[.box (.agg [.int .u8 o,.int .u8 d,.int .i8 s,.bool th]),.box (.agg [.str [67,dg],.int .i64 O,.int .i64 O,.int .i64 S,.bool th])]) g2;have urow:=hrow.more (τ:=[.box (.agg [.int .u8 o,.int .u8 d,.int .i8 s,.bool th]),.box (.agg [.str [67,dg],.int .i64 O,.int .i64 O,.int .i64 S,.bool th])]);obtain⟨fG,gE,hap,hr',hkeep,hnew⟩:=CH (P:=prog) (t:=33) (e:=58) (k:=5) (b:=48) (s:=z3) (xs:=A) (p:=.agg [.str [67,dg],.int .i64 O,.int .i64 O,.int .i64 S,.bool th]) (tk:=.any) (tok:=BK)
       underlying33 yf qU En ye ye
      have w0:=hkeep 0 _ (urow.ne u0 nX) u0;have w1:=hkeep 1 _ (urow.ne u1 trivial) u1;have w2:=hkeep 2 _ (urow.ne u2 trivial) u2;rw[hAl]at hr';refine aC (A20 q1 hj ha rU @g2 u2 hap w2 @t1 @t2 @t3 @t4 @t5 hO hQ hS @d2 @d3 hdg nV) ?_;have vL:2<gE.length:=(yA.1 w2).1;refine bC.normal (m-1) ye (by refine⟨j+1,5,fG,gE.set 2 (.box (.agg [.str [79,114,103,97,110],W,Y,.slice 5 (A++[.agg [.str [67,dg],.int .i64 O,.int .i64 O,.int .i64 S,.bool th]]) fG])),?_⟩;exact bG (⟨ye,.inr rfl,hr'.set w2 trivial,(by rw[yAd ye];exact w0),(by rw[yAd ye];exact w1),Dd⟩))
    .skip
     have hE:(if O=Q/\S=0 then(12:Int)else S)=S:=by simp[hoq]
     rw[hE]at hls;obtain⟨A,hA⟩:=gn ((kT D.length C j).map Em.aJ.aA);have hAl:A.length=j:=by rw[<-hA,yAe,U5]
     have qU:A=[]\/z3=5:=hz.imp (λh=>Cu) id;rw[hA]at g2;have nX:kL (some X0):=Ci;have u0:=cL (τ:=[.box (.agg [.int .u8 o,.int .u8 d,.int .i8 s,.bool th]),.box (.agg [.str [67,dg],.int .i64 O,.int .i64 Q,.int .i64 S,.bool th])]) g0;have u1:=cL (τ:=[.box (.agg [.int .u8 o,.int .u8 d,.int .i8 s,.bool th]),.box (.agg [.str [67,dg],.int .i64 O,.int .i64 Q,.int .i64 S,.bool th])]) g1;have u2:=cL (τ:=[.box (.agg [.int .u8 o,.int .u8 d,.int .i8 s,.bool th]),.box (.agg [.str [67,dg],.int .i64 O,.int .i64 Q,.int .i64 S,.bool th])]) g2;have urow:=hrow.more (τ:=[.box (.agg [.int .u8 o,.int .u8 d,.int .i8 s,.bool th]),.box (.agg [.str [67,dg],.int .i64 O,.int .i64 Q,.int .i64 S,.bool th])]);obtain⟨fG,gE,hap,hr',hkeep,hnew⟩:=CH (P:=prog) (t:=33) (e:=58) (k:=5) (b:=48) (s:=z3) (xs:=A) (p:=.agg [.str [67,dg],.int .i64 O,.int .i64 Q,.int .i64 S,.bool th]) (tk:=.any) (tok:=BK)
      underlying33 yf qU En ye ye
     have w0:=hkeep 0 _ (urow.ne u0 nX) u0;have w1:=hkeep 1 _ (urow.ne u1 trivial) u1;have w2:=hkeep 2 _ (urow.ne u2 trivial) u2;rw[hAl]at hr';refine aC (A20 q1 hj ha rU @g2 u2 hap w2 @t1 @t2 @t3 @t4 @t5 hO hQ hS @d2 @d3 hdg hoq) ?_;have vL:2<gE.length:=(yA.1 w2).1;refine bC.normal (m-1) ye (by refine⟨j+1,5,fG,gE.set 2 (.box (.agg [.str [79,114,103,97,110],W,Y,.slice 5 (A++[.agg [.str [67,dg],.int .i64 O,.int .i64 Q,.int .i64 S,.bool th]]) fG])),?_⟩;exact bG (⟨ye,.inr rfl,hr'.set w2 trivial,(by rw[yAd ye];exact w0),(by rw[yAd ye];exact w1),Dd⟩))
   .have q1:¬(j:Int)<(C.length:Int):=by omega
    obtain rfl:j=C.length:=ye;have hzs:PD.strip (.slice z3 ((kT D.length C C.length).map Em.aJ.aA) BK)=.slice (sz 5 (kT D.length C C.length)) ((kT D.length C C.length).map Em.aJ.aA) .any:=by
     rw[PD.rH,show((kT D.length C C.length).map Em.aJ.aA).map PD.strip=(kT D.length C C.length).map Em.aJ.aA by rw[yBA];exact yAG λx _=>Em.aJ.str x];rcases hz with h|h
     .rw[h];rfl
     .rw[h];simp[sz]
    obtain⟨V,hV⟩:=gn (PD.slice z3 ((kT D.length C C.length).map Em.aJ.aA) BK);have hVp:V.plain=true:=by rw[<-hV];rfl
    rw[hV]at g2 hzs;have hs1:∀x,(σ.set 1 x)[1]?=some x:=λx=>yAj (yA.1 g1).1
    have rU:=g0;rw[<-oS]at rU;have hWq:=hWp;have hYq:=hYp;have hVq:=hVp;unfold PD.plain at hWq hYq hVq;refine aC (A7 q1 rU @g1 @g2 hWq hYq hVq) ?_;simp(disch:=first|omega|(simp;done)|(simp;omega)) [yAu,hs1,aMh,hYs,hzs]<;>try rfl
end
section
def qY:List (List UInt8)->List bB->Int
 |_,[]=>0
 |ns,r::t=>if mK r≠0 then mK r else if jW ns r.name=true then 9 else qY (ns++[r.name]) t
def tA(rs:List bB):List (List UInt8)->List bD->Int
 |_,[]=>0
 |ns,d::t=>if dV d.name=false then 8 else if jW ns d.name=true then 9 else if nJ rs d≠0 then nJ rs d else tA rs (ns++[d.name]) t
def gU(l:List bD):List (Int×Int):=l.map λd=>(d.low,d.high)
def JZ(o:aM):Int:=if o.aD.length=0 then 13 else if 8<o.aD.length then 4 else if tA o.aK [] o.aD≠0 then tA o.aK [] o.aD else zO (gU o.aD) o.aR
def bS(o:aM):Int:=if dV o.name=false then 8 else if 60<o.aK.length then 4 else if qY [] o.aK≠0 then qY [] o.aK else JZ o
def rO(d:bD):Prop:=kU d.name/\d.stops.length<=1000000/\∀s∈d.stops,DM s
def dP(o:aM):Prop:=kU o.name/\zP o.aK/\(o.aD.length<=1000000/\∀d∈o.aD,rO d)/\o.aR.length<=1000000/\∀x∈o.aR,kU x.name
def NW:Nat->List PD->List aB->Option (PD×List aB):=entry (eD Em.bH Em.div i64 λo d=>dY (zP o.aK/\rO d) (some (nJ o.aK d)))
theorem aME{o:aM}{d:bD}(h:zP o.aK)(hs:rO d)(fl:Nat)(σ:List aB):NW fl [Em.bH.aA o,Em.div.aA d] σ=some (.int .i64 (nJ o.aK d),σ):=by
 have e1:=Em.cO (Em.bH.str o);have e2:=Em.cO (Em.div.str d);unfold NW entry eD;simp only[e1,e2];rw[gO ⟨h,hs⟩];rfl
def NV:Nat->List PD->List aB->Option (PD×List aB):=entry (eD DN nO i64 λks l=>dY (ks.length<=1000000/\l.length<=1000000/\∀x∈l,kU x.name) (some (zO ks l)))
theorem aMF{ks:List (Int×Int)}{l:List bR}{p:PD}(h1:ks.length<=1000000)(h2:l.length<=1000000)(h3:∀x∈l,kU x.name)(hp:p.strip=DN.aA ks)(fl:Nat)(σ:List aB):NV fl [p,nO.aA l] σ=some (.int .i64 (zO ks l),σ):=by
 have e1:=Em.cO hp;have e2:=Em.cO (nO.str l);unfold NV entry eD;simp only[e1,e2];rw[gO ⟨h1,h2,h3⟩];rfl
variable{E:aE}(hU:aH E)
include hU
theorem aBE(h0:E 27=none)(h1:E 60=some DC)(h2:E 61=some JB)(h3:E 62=some vI)(h4:E 63=some NW)(h5:E 64=some NV)(o:aM)(ho:dP o) :
  aI prog E 27 [Em.bH.aA o] (i64.aA (bS o)):=by
 have hO:=λd (hd:rO d)=>aME (o:=o) ho.2.1 hd
 obtain⟨on,rs,od,oc⟩:=o;obtain⟨hon,hrs,⟨hdl,hdd⟩,hcl,hcn⟩:=ho;simp only at hon hrs hdl hdd hcl hcn;have hN:=GF hon;simp only[iA,aV]at hO;unfold bS;simp only[iA,aV];cases c1:dV on with
 |false=>
  rw[c1]at hN;rw[yAJ rfl];refine aI.aN 89 h0 func27 (h:=?_);refine lL (A2 h1 hN) ?_;exact aa
 |true=>
 rw[c1]at hN;rw[yAI yg]
 by_cases c2:60<rs.length
 .have c3:60<(rs.length:Int):=by omega
  rw[yAJ c2];refine aI.aN 89 h0 func27 (h:=?_);refine lL (A4 h1 hN c2 c3) ?_;exact aa
 have c3:¬60<(rs.length:Int):=ye;rw[yAI c2];obtain⟨C,hC⟩:=gn (JZ ⟨on,rs,od,oc⟩);rw[hC];obtain⟨B,hB⟩:=gn ((if qY [] rs≠0 then qY [] rs else C));rw[hB];have us:=OI;refine aI.aN 89 h0 func27 (h:=?_);refine lL (A5 h1 hN c2 c3 @us) ?_;obtain⟨X,hX⟩:=gn (aB.box (.agg [.str on,.slice (sz 6 rs) (rs.map Em.aG.aA) .any,.slice (sz 5 od) (od.map Em.div.aA) .any,.slice (sz 5 oc) (oc.map Em.aJ.aA) .any]));refine Wp.cI (λm fr σ=>∃(i:Nat) (σ1:List aB),∃gg:Nat->PD,(i+m=rs.length/\σ1[0]?=some X/\σ1[1]?=some (iV ((rs.take i).map bB.name))/\(if qY ((rs.take i).map bB.name) (rs.drop i)≠0 then qY ((rs.take i).map bB.name) (rs.drop i)else C)=B)/\fr=gg 0::.ptr 0 0::gg 2::.eO 1::gg 4::gg 5::gg 6::gg 7::gg 8::gg 9::gg 10::gg 11::gg 12::gg 13::gg 14::gg 15::gg 16::gg 17::gg 18::gg 19::gg 20::gg 21::gg 22::gg 23::gg 24::aK.aA rs::.int .i64 rs.length::.int .i64 i::gg 28::gg 29::gg 30::gg 31::gg 32::gg 33::gg 34::gg 35::gg 36::gg 37::gg 38::gg 39::gg 40::gg 41::gg 42::gg 43::gg 44::gg 45::gg 46::gg 47::gg 48::gg 49::gg 50::gg 51::gg 52::gg 53::gg 54::gg 55::gg 56::gg 57::gg 58::gg 59::gg 60::gg 61::gg 62::gg 63::gg 64::gg 65::gg 66::gg 67::gg 68::gg 69::gg 70::gg 71::gg 72::gg 73::gg 74::gg 75::gg 76::gg 77::gg 78::gg 79::gg 80::gg 81::gg 82::gg 83::gg 84::gg 85::gg 86::gg 87::gg 88::[]/\σ=σ1) ?_ (rs.length) (by refine⟨0,[X,.map []],?_⟩;exact dU (⟨ye,rfl,rfl,hB⟩) @hX)
 rintro m fr σ ⟨i,σ1,gg,hI,rfl,rfl⟩
 obtain⟨hm,hx0,J0,hs⟩:=hI
 by_cases hi:i<rs.length
 .have q1:(i:Int)<(rs.length:Int):=by omega
  obtain⟨a,ha⟩:=gn (rs[i]);have J1:rs.drop i=a::rs.drop (i+1):=yy;have htk:(rs.take (i+1)).map bB.name=(rs.take i).map bB.name++[a.name]:=by rw[yBG hi,ha,yAH];rfl
  have hE:=aDl (hrs.1 a (ha▸yAm hi));rw[J1]at hs;unfold qY at hs;have fI:=(yA.1 hx0).1;have hlt2:=(yA.1 J0).1;have j0:∀x:aB,(σ++[x])[σ.length]?=some x:=λx=>yg
  obtain⟨a0,a1,a2,a3,a4,a5⟩:=a;obtain⟨e,he⟩:=gn (mK ⟨a0,a1,a2,a3,a4,a5⟩);rw[he]at hE hs;simp only[oD,aV]at hE;simp only at hs htk
  by_cases c4:e=0
  rotate_left
  .simp only[ne_eq,c4,yCz,yAK]at hs;subst hs;refine lL (A7 q1 hi ha j0 h2 hE c4) ?_;exact aa
  subst c4;simp only[ne_eq,yBL,yAN]at hs;obtain⟨Z,hZ⟩:=gn (aB.box (.agg [.str a0,.str a1,.int .i64 a2,.int .i64 a3,.int .i64 a4,.slice (sz 1 a5) (a5.map i64.aA) .any]));have hmz:(σ++[Z])[1]?=some (iV ((rs.take i).map bB.name)):=by rw[yAg hlt2];exact J0
  cases hb:jW ((rs.take i).map bB.name) a0 with
  |true=>
   rw[hb]at hs;simp only[yAK,show ¬(9:Int)=0 by omega,yCz]at hs;subst hs;have hA:=λfl=>VP (fl:=fl) hmz hb
   rw[<-hZ]at hA;refine lL (A8 q1 hi ha j0 h2 hE h3 hA) ?_;exact aa
  |false=>
   rw[hb]at hs;simp only[yAx,yAN]at hs;have hA:=VQ (fl:=0) hmz hb (yAF _);obtain⟨jX,dX⟩:=gn ((σ++[Z]).set 1 (iV ((rs.take i).map bB.name++[a0])));have t0:jX[0]?=some X:=by rw[<-dX,yAd ye,yAg fI];exact hx0
   have t2:jX[1]?=some (iV ((rs.take i).map bB.name++[a0])):=by rw[<-dX];exact yAj zf
   rw[dX]at hA;rw[<-hZ]at hA;clear dX;refine lL (A8 q1 hi ha j0 h2 hE h3 hA) ?_;refine bC.normal (m-1) ye (by refine⟨i+1,jX,?_⟩;exact bG (⟨ye,t0,by rw[htk];exact t2,by rw[htk];exact hs⟩))
 have q1:¬(i:Int)<(rs.length:Int):=ye;rw[yAs ye]at hs;have hs2:C=B:=hs;rw[hs2]at hC;clear hs hs2 hB;have hx1:=hx0;rw[<-hX]at hx1;obtain⟨fI,hxe⟩:=yA.1 hx1;unfold JZ at hC;simp only at hC
 by_cases c4:od.length=0
 .rw[yAJ c4]at hC;subst hC;have c5:od=[]:=yAf c4;subst c5;refine lL (A4 q1 hx1 fI hxe) ?_;exact aa
 rw[yAI c4]at hC;have rV:¬od=[]:=λh=>c4 Ah
 by_cases c5:8<od.length
 .rw[yAJ c5]at hC;subst hC;have c6:8<(od.length:Int):=ye;refine lL (A8 q1 hx1 fI hxe c4 rV c5 c6) ?_;exact aa
 rw[yAI c5]at hC;have c6:¬8<(od.length:Int):=ye;refine lL (A9 q1 hx1 fI hxe c4 rV c5 c6 @us) ?_;obtain⟨M,hM⟩:=gn (σ.length);obtain⟨VS,OJ⟩:=gn (σ++[aB.map []]);have g0:VS[0]?=some X:=by rw[<-OJ,yAg fI];exact hx0
 have gM:VS[M]?=some (iV []):=by rw[<-OJ,<-hM];simp;rfl
 have hM0:0<M:=ye;rw[OJ,hM];clear OJ hM q1;refine Wp.cI (λm fr σ=>∃(j z:Nat) (tok:Tok) (σ1:List aB),∃gg:Nat->PD,(j+m=od.length/\σ1[0]?=some X/\σ1[M]?=some (iV ((od.take j).map bD.name))/\(gU (od.take j)=[]\/z=2)/\jR σ1 tok 50 2 j/\(if tA rs ((od.take j).map bD.name) (od.drop j)≠0 then tA rs ((od.take j).map bD.name) (od.drop j)else zO (gU od) oc)=B)/\fr=gg 0::.ptr 0 0::gg 2::.eO M::gg 4::gg 5::gg 6::gg 7::.slice z ((gU (od.take j)).map Em.cH.aA) tok::gg 9::gg 10::gg 11::gg 12::gg 13::gg 14::gg 15::gg 16::gg 17::gg 18::gg 19::gg 20::gg 21::gg 22::gg 23::gg 24::gg 25::gg 26::gg 27::gg 28::gg 29::gg 30::gg 31::gg 32::gg 33::gg 34::gg 35::gg 36::gg 37::gg 38::gg 39::gg 40::gg 41::gg 42::gg 43::gg 44::gg 45::gg 46::gg 47::gg 48::gg 49::gg 50::gg 51::gg 52::gg 53::gg 54::gg 55::pE.aA od::.int .i64 od.length::.int .i64 j::gg 59::gg 60::gg 61::gg 62::gg 63::gg 64::gg 65::gg 66::gg 67::gg 68::gg 69::gg 70::gg 71::gg 72::gg 73::gg 74::gg 75::gg 76::gg 77::gg 78::gg 79::gg 80::gg 81::gg 82::gg 83::gg 84::gg 85::gg 86::gg 87::gg 88::[]/\σ=σ1) ?_ (od.length) (by refine⟨0,0,.full,VS,?_⟩;exact jZ (⟨ye,g0,gM,.inl rfl,.inl ⟨rfl,rfl⟩,hC⟩) Cd Cd)
 rintro m fr σ ⟨j,z,tok,σ1,gg,hI,rfl,rfl⟩
 obtain⟨hm2,hx2,jI,hzz,hrow,hs2⟩:=hI;have hx3:=hx2;rw[<-hX]at hx3;obtain⟨aDm,hxe3⟩:=yA.1 hx3
 by_cases hj:j<od.length
 .have q1:(j:Int)<(od.length:Int):=by omega
  obtain⟨a,ha⟩:=gn (od[j]);have hda:rO a:=hdd a (ha▸yAm hj);have J1:od.drop j=a::od.drop (j+1):=by rw[yAq hj,ha]
  have htk:(od.take (j+1)).map bD.name=(od.take j).map bD.name++[a.name]:=by rw[yBG hj,ha,yAH];rfl
  have hkk:gU (od.take (j+1))=gU (od.take j)++[(a.low,a.high)]:=by unfold gU;rw[yBG hj,ha,yAH];rfl
  have hkl:(gU (od.take j)).length=j:=by unfold gU;rw[yAe,yAt];omega
  have hnn:=GF hda.1;have hE:=hO a hda;rw[J1]at hs2;unfold tA at hs2;have vL:=(yA.1 jI).1;have j0:∀x:aB,(σ++[x])[σ.length]?=some x:=λx=>yg
  obtain⟨a0,a1,a2,a3,a4⟩:=a;obtain⟨e,he⟩:=gn (nJ rs ⟨a0,a1,a2,a3,a4⟩);simp only[he,nN,aV]at hE;rw[he]at hs2;simp only at hs2 htk hnn hkk;cases d1:dV a0 with
  |false=>
   rw[d1]at hnn hs2;simp only[yAK,show ¬(8:Int)=0 by omega,ne_eq,yCz]at hs2;subst hs2;refine lL (A6 q1 hj ha j0 h1 hnn) ?_;exact aa
  |true=>
  rw[d1]at hnn hs2;simp only[Bool.true_eq_false,yAN]at hs2;obtain⟨Z,hZ⟩:=gn (aB.box (.agg [.str a0,.bool a1,.int .i64 a2,.int .i64 a3,.slice (sz 4 a4) (a4.map Em.stop.aA) .any]));have hmz:(σ++[Z])[M]?=some (iV ((od.take j).map bD.name)):=by rw[yAg vL];exact jI
  cases hb:jW ((od.take j).map bD.name) a0 with
  |true=>
   rw[hb]at hs2;simp only[yAK,show ¬(9:Int)=0 by omega,ne_eq,yCz]at hs2;subst hs2;have hA:=λfl=>VP (fl:=fl) hmz hb
   rw[<-hZ]at hA;refine lL (A8 q1 hj ha j0 h1 hnn h3 hA) ?_;exact aa
  |false=>
  rw[hb]at hs2;simp only[yAx,yAN]at hs2;have hA:=VQ (fl:=0) hmz hb (yAF _);obtain⟨jX,dX⟩:=gn ((σ++[Z]).set M (iV ((od.take j).map bD.name++[a0])));have t0:jX[0]?=some X:=by rw[<-dX,yAd ye,yAg aDm];exact hx2
  have t2:jX[M]?=some (iV ((od.take j).map bD.name++[a0])):=by rw[<-dX];exact yAj zf
  have tz:jX[σ.length]?=some Z:=by rw[<-dX,yAd ye];exact j0 Z
  have tr:jR jX tok 50 2 j:=by rw[<-dX];exact hrow.more.set hmz trivial
  rw[dX]at hA;rw[<-hZ]at hA tz;have OK:=t0;rw[<-hX]at OK;obtain⟨l0,J2⟩:=yA.1 OK;obtain⟨l1,te1⟩:=yA.1 tz;clear dX
  by_cases d2:e=0
  rotate_left
  .simp only[ne_eq,d2,yCz,yAK]at hs2;subst hs2;refine lL (A17 q1 hj ha j0 h1 hnn h3 hA OK l0 J2 tz l1 te1 h4 hE @d2) ?_;exact aa
  subst d2;simp only[ne_eq,yBL,yAN]at hs2;obtain⟨A,hAA⟩:=gn ((gU (od.take j)).map Em.cH.aA);have hAl:A.length=j:=by rw[<-hAA,yAe,hkl]
  obtain⟨fG,gE,hap,hr',hkeep,hnew⟩:=CH (P:=prog) (t:=98) (e:=50) (k:=2) (b:=16) (s:=z) (xs:=A) (p:=.agg [.int .i64 a2,.int .i64 a3]) (tk:=.any) (tok:=tok) (σ:=jX)
   underlying98 yf (hzz.imp (λh=>by rw[<-hAA,h];rfl) id) (by rw[hAl];exact tr) ye ye
  have nX:kL (some X):=by rw[<-hX];trivial
  have w0:=hkeep 0 _ (tr.ne t0 nX) t0;have w2:=hkeep M _ (tr.ne t2 trivial) t2;rw[hAl]at hr';refine lL (A18 q1 hj ha j0 h1 hnn h3 hA OK l0 J2 tz l1 te1 h4 hE hAA hap) ?_;have hK:(gU (od.take (j+1))).map Em.cH.aA=A++[.agg [.int .i64 a2,.int .i64 a3]]:=by rw[hkk,yAH,hAA];rfl
  refine bC.normal (m-1) ye (by refine⟨j+1,2,fG,gE,?_⟩;exact dU (⟨ye,w0,by rw[htk];exact w2,.inr rfl,hr',by rw[htk];exact hs2⟩) @hK)
 .have q1:¬(j:Int)<(od.length:Int):=by omega
  obtain rfl:j=od.length:=ye;rw[yCm]at hs2;have hs3:zO (gU od) oc=B:=hs2;rw[yBO]at hzz ⊢;have hkn:gU od≠[]:=λh=>rV (by simpa [gU]using h)
  have hz1:z=2:=hzz.resolve_left hkn;subst hz1;have hst:(PD.slice 2 ((gU od).map Em.cH.aA) tok).strip=DN.aA (gU od):=by
   rw[PD.rH,show((gU od).map Em.cH.aA).map PD.strip=(gU od).map Em.cH.aA by rw[yBA];exact yAG λx _=>Em.cH.str x];rw[aV];simp[sz,hkn]
  have hE:=aMF (ks:=gU od) (l:=oc) (by unfold gU;rw[yAe];exact hdl) hcl hcn hst;rw[hs3]at hE;simp only[aV]at hE;refine lL (A6 q1 hx3 aDm hxe3 h5 hE) ?_;exact aa
end
section
def zE:Nat->List PD->List aB->Option (PD×List aB):=λ_ args σ=>match args with
 | [.agg [.str n,.bool x1,.int .i64 x2,.int .i64 x3,.slice xk xl xt],.ptr id 0]=>match σ[id]? with
   |some (.box (.agg [.str nm,.bool _,.int .i64 _,.int .i64 _,.slice _ _ _]))=>some (.bool (decide (n=nm)),σ++[.box (.agg [.str n,.bool x1,.int .i64 x2,.int .i64 x3,.slice xk xl xt])])
   |_=>none
 |_=>none
section
variable{E:aE}(hU:aH E)
include hU
theorem aON(h0:E 53=none)(fl:Nat)(x0:List UInt8)(x1:Bool)(x2:Int)(x3:Int)(xk:Nat)(xl:List PD)(xt:Tok)(nm:List UInt8)(y1:Bool)(y2:Int)(y3:Int)(yk:Nat)(yl:List PD)(yt:Tok)(id:Nat)(τ:List aB)(hid:τ[id]?=some (.box (.agg [.str nm,.bool y1,.int .i64 y2,.int .i64 y3,.slice yk yl yt]))) :
  aL prog E fl (.inl 53) [.agg [.str x0,.bool x1,.int .i64 x2,.int .i64 x3,.slice xk xl xt],.ptr id 0] τ (λp1 σ1=>p1=.bool (decide (x0=nm))/\σ1=τ++[.box (.agg [.str x0,.bool x1,.int .i64 x2,.int .i64 x3,.slice xk xl xt])]):=by
 obtain⟨hlt,he⟩:=yA.1 hid;have j0:∀x:aB,(τ++[x])[τ.length]?=some x:=λx=>yg
 by_cases c:x0=nm
 .rw[yAV c];refine aL.aN 9 h0 func53 (h:=?_);exact wq
 .rw[yBc c];have f0:(x0==nm)=false:=by simpa using c
  refine aL.aN 9 h0 func53 (h:=?_);exact wh
theorem aKs(hE:aF prog E)(h0:E 53=none):aF prog (E.add 53 zE):=
 hE.add yf λfl args σ p σ' h=>by
  unfold zE at h;split at h
  .split at h
   .rename_i hid;simp only[yAb,yAc]at h;obtain⟨rfl,rfl⟩:=h;exact aL.uO (aON hU h0 fl _ _ _ _ _ _ _ _ _ _ _ _ _ _ _ σ hid)
   .cases h
  .cases h
end
def zF:Nat->List PD->List aB->Option (PD×List aB):=λ_ args σ=>match args with
 | [.agg [.str n,.int .i64 x1,.int .i64 x2,.slice xk xl xt],.ptr id 0]=>match σ[id]? with
   |some (.box (.agg [.str nm,.int .i64 _,.int .i64 _,.slice _ _ _]))=>some (.bool (decide (n=nm)),σ++[.box (.agg [.str n,.int .i64 x1,.int .i64 x2,.slice xk xl xt])])
   |_=>none
 |_=>none
section
variable{E:aE}(hU:aH E)
include hU
theorem aOO(h0:E 55=none)(fl:Nat)(x0:List UInt8)(x1:Int)(x2:Int)(xk:Nat)(xl:List PD)(xt:Tok)(nm:List UInt8)(y1:Int)(y2:Int)(yk:Nat)(yl:List PD)(yt:Tok)(id:Nat)(τ:List aB)(hid:τ[id]?=some (.box (.agg [.str nm,.int .i64 y1,.int .i64 y2,.slice yk yl yt]))) :
  aL prog E fl (.inl 55) [.agg [.str x0,.int .i64 x1,.int .i64 x2,.slice xk xl xt],.ptr id 0] τ (λp1 σ1=>p1=.bool (decide (x0=nm))/\σ1=τ++[.box (.agg [.str x0,.int .i64 x1,.int .i64 x2,.slice xk xl xt])]):=by
 obtain⟨hlt,he⟩:=yA.1 hid;have j0:∀x:aB,(τ++[x])[τ.length]?=some x:=λx=>yg
 by_cases c:x0=nm
 .rw[yAV c];refine aL.aN 9 h0 func55 (h:=?_);exact wq
 .rw[yBc c];have f0:(x0==nm)=false:=by simpa using c
  refine aL.aN 9 h0 func55 (h:=?_);exact wh
theorem aKy(hE:aF prog E)(h0:E 55=none):aF prog (E.add 55 zF):=
 hE.add yf λfl args σ p σ' h=>by
  unfold zF at h;split at h
  .split at h
   .rename_i hid;simp only[yAb,yAc]at h;obtain⟨rfl,rfl⟩:=h;exact aL.uO (aOO hU h0 fl _ _ _ _ _ _ _ _ _ _ _ _ _ σ hid)
   .cases h
  .cases h
end
end
section
def xQ(x:bD):aB:=.box (Em.div.aA x)
def nY(nm:List UInt8)(x:bD):Bool:=decide (x.name=nm)
section
variable{E:aE}(hU:aH E)
include hU
theorem aOL(h0:E 52=none)(h1:E 53=some zE)(fl:Nat)(l:List bD)(nm:List UInt8)(y1:Bool)(y2 y3:Int)(yk:Nat)(yl:List PD)(yt:Tok)(id:Nat)(τ:List aB)(hid:τ[id]?=some (.box (.agg [.str nm,.bool y1,.int .i64 y2,.int .i64 y3,.slice yk yl yt])))(hl:l.length<=1000000) :
  aL prog E fl (.inl 52) [(Em.div.list 5).aA l,.func 53 [.ptr id 0]] τ (λp1 σ1=>p1=.int .i64 (dR (nY nm) l 0)/\σ1=τ++(l.take (jL (nY nm) l)).map xQ):=by
 obtain⟨B,hB⟩:=gn (dR (nY nm) l 0);obtain⟨V,hV⟩:=gn (jL (nY nm) l);rw[hB,hV];refine aL.aN 19 h0 func52 (h:=?_);refine aC trivial ?_;refine Wp.cI (λm fr σ=>∃(i:Nat),∃gg:Nat->PD,(i+m=l.length/\dR (nY nm) (l.drop i) i=B/\jL (nY nm) (l.drop i)+i=V)/\fr=[(Em.div.list 5).aA l,.func 53 [.ptr id 0],gg 2,gg 3,gg 4,gg 5,(Em.div.list 5).aA l,.int .i64 l.length,.int .i64 i,gg 9,gg 10,gg 11,gg 12,gg 13,gg 14,gg 15,gg 16,gg 17,gg 18]/\σ=τ++(l.take i).map xQ) ?_ (l.length) (by refine⟨0,?_⟩;exact bG (⟨ye,hB,hV⟩))
 rintro m fr σ ⟨i,gg,hI,rfl,rfl⟩
 obtain⟨hm,hs,hv⟩:=hI
 by_cases hi:i<l.length
 .have q1:(i:Int)<(l.length:Int):=by omega
  obtain⟨a,ha⟩:=gn (l[i]);have hc:l.drop i=a::l.drop (i+1):=yy;have htk:l.take (i+1)=l.take i++[a]:=Dc;obtain⟨hlt,_⟩:=yA.1 hid;obtain⟨ρ,hρ⟩:=gn (τ++(l.take i).map xQ);have DO:ρ[id]?=some (.box (.agg [.str nm,.bool y1,.int .i64 y2,.int .i64 y3,.slice yk yl yt])):=Dh;have hst:τ++(l.take (i+1)).map xQ=ρ++[xQ a]:=Ea;rw[hc]at hs hv;unfold dR at hs;unfold jL at hv;obtain⟨a0,a1,a2,a3,a4⟩:=a;have hE:zE fl [.agg [.str a0,.bool a1,.int .i64 a2,.int .i64 a3,.slice (sz 4 a4) (a4.map Em.stop.aA) .any],.ptr id 0] ρ=some (.bool (decide (a0=nm)),ρ++[.box (.agg [.str a0,.bool a1,.int .i64 a2,.int .i64 a3,.slice (sz 4 a4) (a4.map Em.stop.aA) .any])]):=by
   unfold zE;simp only[DO]
  have BO:τ++(l.take (i+1)).map xQ=ρ++[.box (.agg [.str a0,.bool a1,.int .i64 a2,.int .i64 a3,.slice (sz 4 a4) (a4.map Em.stop.aA) .any])]:=hst;have E9:τ++List.take (i+1) (l.map xQ)=ρ++[.box (.agg [.str a0,.bool a1,.int .i64 a2,.int .i64 a3,.slice (sz 4 a4) (a4.map Em.stop.aA) .any])]:=by rw[<-yCR];exact BO
  rw[hρ]
  by_cases hb:a0=nm
  .rw[yAJ (by simp[nY,hb])]at hs hv;exact ur
  .rw[yAI (by simp[nY,hb])]at hs hv;exact bh
 .exact uw
end
def xS(x:bU):aB:=.box (Em.stop.aA x)
def pY(nm:List UInt8)(x:bU):Bool:=decide (x.name=nm)
section
variable{E:aE}(hU:aH E)
include hU
theorem aOM(h0:E 54=none)(h1:E 55=some zF)(fl:Nat)(l:List bU)(nm:List UInt8)(y1 y2:Int)(yk:Nat)(yl:List PD)(yt:Tok)(id:Nat)(τ:List aB)(hid:τ[id]?=some (.box (.agg [.str nm,.int .i64 y1,.int .i64 y2,.slice yk yl yt])))(hl:l.length<=1000000) :
  aL prog E fl (.inl 54) [(Em.stop.list 4).aA l,.func 55 [.ptr id 0]] τ (λp1 σ1=>p1=.int .i64 (dR (pY nm) l 0)/\σ1=τ++(l.take (jL (pY nm) l)).map xS):=by
 obtain⟨B,hB⟩:=gn (dR (pY nm) l 0);obtain⟨V,hV⟩:=gn (jL (pY nm) l);rw[hB,hV];refine aL.aN 19 h0 func54 (h:=?_);refine aC trivial ?_;refine Wp.cI (λm fr σ=>∃(i:Nat),∃gg:Nat->PD,(i+m=l.length/\dR (pY nm) (l.drop i) i=B/\jL (pY nm) (l.drop i)+i=V)/\fr=[(Em.stop.list 4).aA l,.func 55 [.ptr id 0],gg 2,gg 3,gg 4,gg 5,(Em.stop.list 4).aA l,.int .i64 l.length,.int .i64 i,gg 9,gg 10,gg 11,gg 12,gg 13,gg 14,gg 15,gg 16,gg 17,gg 18]/\σ=τ++(l.take i).map xS) ?_ (l.length) (by refine⟨0,?_⟩;exact bG (⟨ye,hB,hV⟩))
 rintro m fr σ ⟨i,gg,hI,rfl,rfl⟩
 obtain⟨hm,hs,hv⟩:=hI
 by_cases hi:i<l.length
 .have q1:(i:Int)<(l.length:Int):=by omega
  obtain⟨a,ha⟩:=gn (l[i]);have hc:l.drop i=a::l.drop (i+1):=yy;have htk:l.take (i+1)=l.take i++[a]:=Dc;obtain⟨hlt,_⟩:=yA.1 hid;obtain⟨ρ,hρ⟩:=gn (τ++(l.take i).map xS);have DO:ρ[id]?=some (.box (.agg [.str nm,.int .i64 y1,.int .i64 y2,.slice yk yl yt])):=Dh;have hst:τ++(l.take (i+1)).map xS=ρ++[xS a]:=Ea;rw[hc]at hs hv;unfold dR at hs;unfold jL at hv;obtain⟨a0,a1,a2,a3⟩:=a;have hE:zF fl [.agg [.str a0,.int .i64 a1,.int .i64 a2,.slice (sz 3 a3) (a3.map Em.eU.aA) .any],.ptr id 0] ρ=some (.bool (decide (a0=nm)),ρ++[.box (.agg [.str a0,.int .i64 a1,.int .i64 a2,.slice (sz 3 a3) (a3.map Em.eU.aA) .any])]):=by
   unfold zF;simp only[DO]
  have BO:τ++(l.take (i+1)).map xS=ρ++[.box (.agg [.str a0,.int .i64 a1,.int .i64 a2,.slice (sz 3 a3) (a3.map Em.eU.aA) .any])]:=hst;have E9:τ++List.take (i+1) (l.map xS)=ρ++[.box (.agg [.str a0,.int .i64 a1,.int .i64 a2,.slice (sz 3 a3) (a3.map Em.eU.aA) .any])]:=by rw[<-yCR];exact BO
  rw[hρ]
  by_cases hb:a0=nm
  .rw[yAJ (by simp[pY,hb])]at hs hv;exact ur
  .rw[yAI (by simp[pY,hb])]at hs hv;exact bh
 .exact uw
end
end
section
open Classical in
def BA:Nat->List PD->List aB->Option (PD×List aB):=λ_ args σ=>match args with
 | [p,.func g [.ptr id 0]]=>match (Em.div.list 5).dec p with
   |some l=>if p=(Em.div.list 5).aA l/\g=53/\l.length<=1000000 then match σ[id]? with
     |some (.box (.agg [.str nm,.bool _,.int .i64 _,.int .i64 _,.slice _ _ _]))=>some (.int .i64 (dR (nY nm) l 0),σ++(l.take (jL (nY nm) l)).map xQ)
     |_=>none
    else none
   |none=>none
 |_=>none
theorem aKv{E:aE}(hU:aH E)(hE:aF prog E)(h0:E 52=none)(h1:E 53=some zE):aF prog (E.add 52 BA):=
 hE.add yf λfl args σ p σ' h=>by
  unfold BA at h;split at h
  .split at h
   .rename_i l hl;split at h
    .rename_i hc;obtain⟨rfl,rfl,hlen⟩:=hc;split at h
     .rename_i hid;simp only[yAb,yAc]at h;obtain⟨rfl,rfl⟩:=h;exact aL.uO (aOL hU h0 h1 fl l _ _ _ _ _ _ _ _ σ hid hlen)
     .cases h
    .cases h
   .cases h
  .cases h
open Classical in
def BB:Nat->List PD->List aB->Option (PD×List aB):=λ_ args σ=>match args with
 | [p,.func g [.ptr id 0]]=>match (Em.stop.list 4).dec p with
   |some l=>if p=(Em.stop.list 4).aA l/\g=55/\l.length<=1000000 then match σ[id]? with
     |some (.box (.agg [.str nm,.int .i64 _,.int .i64 _,.slice _ _ _]))=>some (.int .i64 (dR (pY nm) l 0),σ++(l.take (jL (pY nm) l)).map xS)
     |_=>none
    else none
   |none=>none
 |_=>none
theorem aKB{E:aE}(hU:aH E)(hE:aF prog E)(h0:E 54=none)(h1:E 55=some zF):aF prog (E.add 54 BB):=
 hE.add yf λfl args σ p σ' h=>by
  unfold BB at h;split at h
  .split at h
   .rename_i l hl;split at h
    .rename_i hc;obtain⟨rfl,rfl,hlen⟩:=hc;split at h
     .rename_i hid;simp only[yAb,yAc]at h;obtain⟨rfl,rfl⟩:=h;exact aL.uO (aOM hU h0 h1 fl l _ _ _ _ _ _ _ σ hid hlen)
     .cases h
    .cases h
   .cases h
  .cases h
theorem aOJ{l:List bD}(hl:l.length<=1000000){id:Nat}{σ:Ex}{nm:Ez}{y1:Bool}{y2 y3:Int}{yk:Nat}{yl:Ey}{yt:Tok}(hid:σ[id]?=some (.box (.agg [.str nm,.bool y1,.int .i64 y2,.int .i64 y3,.slice yk yl yt])))(fl:Nat) :
  BA fl [(Em.div.list 5).aA l,.func 53 [.ptr id 0]] σ=some (.int .i64 (dR (nY nm) l 0),σ++(l.take (jL (nY nm) l)).map xQ):=by
 have e1:=Em.cO ((Em.div.list 5).str l);unfold BA;simp only[e1];rw[yAJ ⟨trivial,trivial,hl⟩];simp only[hid]
theorem aOK{l:List bU}(hl:l.length<=1000000){id:Nat}{σ:Ex}{nm:Ez}{y1 y2:Int}{yk:Nat}{yl:Ey}{yt:Tok}(hid:σ[id]?=some (.box (.agg [.str nm,.int .i64 y1,.int .i64 y2,.slice yk yl yt])))(fl:Nat) :
  BB fl [(Em.stop.list 4).aA l,.func 55 [.ptr id 0]] σ=some (.int .i64 (dR (pY nm) l 0),σ++(l.take (jL (pY nm) l)).map xS):=by
 have e1:=Em.cO ((Em.stop.list 4).str l);unfold BB;simp only[e1];rw[yAJ ⟨trivial,trivial,hl⟩];simp only[hid]
end
theorem aMB:∀x∈pT,qX x.1 x.2=0:=yu
theorem aMu:∀x∈BL,qX x.1 x.2=0:=yu
theorem OG:∀i:Nat,i<10->∀c∈([82,83,67,68]:List UInt8),dV [c,UInt8.ofNat (48+i)]=true:=yu
theorem aMC:∀n:Int,dV (zM n)=true:=by
 intro n;have h:∀t∈DJ,dV t=true:=yu;have h0:dV [79,112,101,110]=true:=yu;unfold zM;rw[yAA];cases e:DJ[(n%3).toNat]? with
 |none=>
  have:=(yEe.1 e);have h3:DJ.length=3:=rfl;omega
 |some t=>exact h t (yAE e)
theorem aMD(n:Int):nU n∈pT:=by
 have hlt:(n%16).toNat<pT.length:=by
  have h:pT.length=16:=rfl;omega
 unfold nU;rw[yAA,yAh hlt];exact yAm hlt
theorem aDh(x:lZ)(hx:AA x)(i:Nat):mK (rS x i)=0:=by
 have h1:dV [82,digit (i%10)]=true:=OG (i%10) (yBw _ yj) 82 yg;have h2:=aMC x.jQ;have h3:=aMB _ (aMD x.cH);have h4:=hx.2.2.1;have hwl:(vN x (1+(x.x6%25).toNat)).length=1+(x.x6%25).toNat:=by simp[vN]
 have hb:(vN x (1+(x.x6%25).toNat)).any kV=false:=by
  rw[yDy];intro w hw;obtain⟨k,_,rfl⟩:=yAw.1 hw;have hlt:k%5<5:=yBw _ yj;have hr:0<=vM x k/\vM x k<=255:=by
   exact fk
  unfold kV;simp;omega
 unfold mK rS;simp only[h1,h2,h3,hwl,hb];have h5:-256<=x.first/\x.first<=256:=⟨by have:=h4.1;omega,by have:=h4.2;omega⟩;simp[h5];omega
theorem VM{ns:List (List UInt8)}{nm:Ez}(h:nm∉ns):jW ns nm=false:=by
 unfold jW;rw[yDy];intro n hn e;exact h (by rw[show nm=n by simpa using e];exact hn)
theorem aDi:∀(l:List bB) (ns:List (List UInt8)),(∀r∈l,mK r=0)->(ns++l.map bB.name).Nodup->qY ns l=0
 | [],_,_,_=>rfl
 |r::t,ns,h,hn=>by
  have h0:=h r (yBh ..);rw[yAR]at hn;have hnn:r.name∉ns:=λhm=>(yCC.1 hn).2.2 _ hm _ (yBh ..) rfl
  unfold qY;rw[h0,VM hnn];simp only[ne_eq,yBL,yAN,yAx];exact aDi t (ns++[r.name]) (λq hq=>h q (yBV _ hq)) (by rw[yAi];exact hn)
theorem VN:∀c∈([82,83,67,68]:List UInt8),∀n:Nat,n<11->((List.range n).map λi=>[c,digit (i%10)]).Nodup:=yu
theorem aMy(l:List lZ)(hl:∀x∈l,AA x)(n:Nat)(hn:n<=l.length)(aTX:n<=10):qY [] (fS l n)=0:=by
 refine aDi _ [] (λr hr=>?_) ?_
 .obtain⟨i,hi,rfl⟩:=yAw.1 hr;have hi':i<l.length:=Eh;refine aDh _ ?_ i;rw[yAA,yAh hi'];exact hl _ (yAm hi')
 .rw[yAO];have h:(fS l n).map bB.name=(List.range n).map λi=>[82,digit (i%10)]:=by
   unfold fS;rw[yBA];rfl
  rw[h];exact VN 82 yg n ye
def aDj(k:Nat)(c:bR):Prop:=dV c.name=true/\0<=c.dS/\c.dS<k/\0<=c.dst/\c.dst<k/\-127<=c.shift/\c.shift<=127/\¬(c.dS=c.dst/\c.shift=0)
theorem aDk(k:Nat):∀(l pre:List bR),(∀c∈l,aDj k c)->(pre.map bR.name++l.map bR.name).Nodup->rW k pre l=0
 | [],_,_,_=>rfl
 |c::t,pre,h,hn=>by
  obtain⟨h1,h2,h3,h4,h5,h6,h7,h8⟩:=h c (yBh ..);rw[yAR]at hn;have hnn:pre.any (iE c.name)=false:=by
   rw[yDy];intro x hx e;have e2:x.name=c.name:=by simpa [iE]using e
   exact(yCC.1 hn).2.2 _ (yAw.2 ⟨x,hx,rfl⟩) _ (yBh ..) e2
  unfold rW;rw[h1,hnn,yAI yg,yAI yg,yAI ye,yAI ye,yAI h8];exact aDk k t (pre++[c]) (λq hq=>h q (yBV _ hq)) (by rw[yAH,yAi];exact hn)
theorem aMz(l:List q9)(n k:Nat)(hn:1<=n)(hk:k<=10):rW n [] (kT n l k)=0:=by
 refine aDk n _ [] (λc hc=>?_) ?_
 .obtain⟨i,hi,rfl⟩:=yAw.1 hc;have hi':=yAU.1 hi;obtain⟨x,hx⟩:=gn (l.getD i default);simp only[hx];have hnm:dV [67,digit i]=true:=OG i ye 67 yg;have e1:=yDw x.dS (show(n:Int)≠0 by omega);have e2:=yDx x.dS (show(0:Int)<n by omega);have e3:=yDw x.dst (show(n:Int)≠0 by omega);have e4:=yDx x.dst (show(0:Int)<n by omega);unfold aDj GA;simp only;obtain⟨s,hs⟩:=gn (x.shift.tmod 25);have e5:-25<s/\s<25:=by
   rw[<-hs];rcases Int.lt_or_le x.shift 0 with h|h
   .have:=Int.neg_tmod (-x.shift) 25;rw[Int.neg_neg]at this;rw[this,yDz ye];omega
   .rw[yDz h];omega
  rw[hs];refine⟨hnm,e1,e2,e3,e4,?_,?_,?_⟩
  .split<;>omega
  .split<;>omega
  .split
   .omega
   .assumption
 .have h:(kT n l k).map bR.name=(List.range k).map λi=>[67,digit i]:=by
   unfold kT;rw[yBA];rfl
  rw[yBo,yAO,h];have h2:=VN 67 yg k ye;rw[show(List.range k).map (λi=>[(67:UInt8),digit i])=(List.range k).map λi=>[67,digit (i%10)]from yAG λi hi=>by rw[Nat.mod_eq_of_lt Eh]];exact h2
theorem VK{k:Nat}{n s:Int}(h0:0<=n)(h1:n<k)(h2:-127<=s)(h3:s<=127):lX k [⟨n,s⟩]=0:=by
 unfold lX;rw[yAI yg];unfold xE;rw[yAI zz,yAI zz,yAI yg];rfl
theorem aMq{k:Nat}{n s:Int}(h0:0<=n)(h1:n<k)(h2:-127<=s)(h3:s+7<=127):lX k [⟨n,s⟩,⟨n,s+7⟩]=0:=by
 unfold lX;rw[yAI yg];unfold xE;rw[yAI zz,yAI zz,yAI yg];unfold xE;rw[yAI zz,yAI zz,yAI zf];rfl
theorem OF{k:Nat}{lo hg:Int}{g:gL}(h1:lo<=g.lo)(h2:g.hi<=hg)(h3:g.lo<=g.hi)(hd:lX k g.aT=0):xF k lo hg [g]=0:=by
 unfold xF;rw[yAI yg,yAI yg];unfold xG;rw[yAI ye,yAI (by simp[DL];omega),yAI (by simp[hd])];rfl
theorem aMr{k:Nat}{lo hg:Int}{g q:gL}(h1:lo<=g.lo)(h2:q.hi<=hg)(h3:g.lo<=g.hi)(h4:g.hi<q.lo)(h5:q.lo<=q.hi)(hd:lX k g.aT=0)(hq:lX k q.aT=0):xF k lo hg [g,q]=0:=by
 unfold xF;rw[yAI yg,yAI yg];unfold xG;rw[yAI ye,yAI (by simp[DL];omega),yAI (by simp[hd])];unfold xG;rw[yAI ye,yAI (by simp[DL];omega),yAI (by simp[hq])];rfl
theorem aMs(k:Nat)(kd n sh lo hg at_ m other:Int)(hn0:0<=n)(hn:n<k)(hm0:0<=m)(hm:m<k)(hs:-60<=sh/\sh<=64)(ho:-60<=other/\other<=64)(ha:lo<=at_)(hb:at_<=hg) :
  xF k lo hg (qV kd n sh lo hg at_ m other)=0:=by
 have d1:lX k [⟨n,sh⟩]=0:=VK hn0 hn ye ye;have d2:lX k [⟨n,sh-12⟩]=0:=VK hn0 hn ye ye;have d3:lX k [⟨m,other⟩]=0:=VK hm0 hm ye ye;unfold qV;split
 .exact OF yg yg zz (aMq hn0 hn ye ye)
 split
 .have d4:lX k (if kd=3 then [⟨m,other⟩]else [⟨n,sh-12⟩])=0:=by
   split
   .exact d3
   .exact d2
  split
  .exact aMr yg yg zz zz (by simpa using hb) d1 d4
  .exact OF (by simpa using ha) yg (by simpa using hb) d4
 split
 .exact OF (by simpa using ha) yg (by simpa using hb) d1
 .exact OF yg yg zz d1
theorem aC8:∀l:List bB,(∀r∈l,mK r=0)->xH l=0
 | [],_=>rfl
 |r::t,h=>by
  unfold xH;rw[h r (yBh ..),yAI yg];exact aC8 t λq hq=>h q (yBV _ hq)
theorem VL{lo hg:Int}(h3:0<=lo)(h4:lo<=hg)(h5:hg<=127):lK lo hg=0:=by
 unfold lK;rw[yAI ye,yAI ye]
theorem aMt(rs:List bB)(hr:∀r∈rs,mK r=0)(h1:1<=rs.length)(h2:rs.length<=60)(lo hg:Int)(h3:0<=lo)(h4:lo<=hg)(h5:hg<=127)(x:oK)(hx:CB x)(i:Nat)(hi:i<10) :
  qW rs lo hg (s8 rs lo hg x i)=0:=by
 have hp:vO rs lo hg=0:=by
  unfold vO;rw[yAI ye,aC8 rs hr,yAI yg];exact VL h3 h4 h5
 have hn:dV [83,digit i]=true:=OG i hi 83 yg;have hf:=aMu _ (VC x.cH hx.2.1);have hk:(rs.length:Int)≠0:=ye;have e1:=yDw x.aG hk;have e2:=yDx x.aG (show(0:Int)<rs.length by omega);have e3:=yDw (x.aG%rs.length+1) hk;have e4:=yDx (x.aG%rs.length+1) (show(0:Int)<rs.length by omega);have e5:=yDw x.at_ (show hg-lo+1≠0 by omega);have e6:=yDx x.at_ (show(0:Int)<hg-lo+1 by omega);unfold qW s8;simp only;rw[yAI (by simp[hp]),yAI (by simp[hn]),yAI (by simp[hf])];exact aMs _ _ _ _ _ _ _ _ _ e1 e2 e3 e4 (VD _ _) (VD _ _) ye ye
theorem aC9(rs:List bB)(lo hg:Int):∀(l:List bU) (ns:List (List UInt8)),(∀s∈l,qW rs lo hg s=0)->(ns++l.map bU.name).Nodup->xI rs lo hg ns l=0
 | [],_,_,_=>rfl
 |r::t,ns,h,hn=>by
  have h0:=h r (yBh ..);rw[yAR]at hn;have hnn:r.name∉ns:=λhm=>(yCC.1 hn).2.2 _ hm _ (yBh ..) rfl
  unfold xI;rw[h0,VM hnn];simp only[ne_eq,yBL,yAN,yAx];exact aC9 rs lo hg t (ns++[r.name]) (λq hq=>h q (yBV _ hq)) (by rw[yAi];exact hn)
theorem aDa(c:UInt8)(hc:c∈([82,83,67,68]:List UInt8))(n:Nat)(hn:n<=10):((List.range n).map λi=>[c,digit i]).Nodup:=by
 have h2:=VN c hc n ye;rw[show(List.range n).map (λi=>[c,digit i])=(List.range n).map λi=>[c,digit (i%10)]from yAG λi hi=>by rw[Nat.mod_eq_of_lt Eh]];exact h2
theorem OH{α:Type}{l:List α}{i:Nat}(h:i<l.length)(d:α):l.getD i d∈l:=by
 rw[yAA,yAh h];exact yAm h
theorem aMv(rs:List bB)(hr:∀r∈rs,mK r=0)(h1:1<=rs.length)(h2:rs.length<=60)(b:qC)(hb:okB b)(hl:b.stops.length<=10)(i:Nat):nJ rs (xC rs b i)=0:=by
 obtain⟨⟨a1,a2⟩,⟨a3,a4⟩,a5⟩:=hb;unfold nJ xC;simp only;have hc:lK (36+b.low%12) (36+b.low%12+b.keys%9)=0:=VL ye ye ye;have hll:(s7 rs (36+b.low%12) (36+b.low%12+b.keys%9) b.stops b.stops.length).length=b.stops.length:=by simp[s7]
 rw[yAI (by simp[hc]),yAI (by rw[hll];omega)];refine aC9 _ _ _ _ [] (λs hs=>?_) ?_
 .obtain⟨j,hj,rfl⟩:=yAw.1 hs;have hj':=yAU.1 hj;exact aMt rs hr h1 h2 _ _ ye ye ye _ (a5 _ (OH hj' _)) j ye
 .rw[yAO,show(s7 rs (36+b.low%12) (36+b.low%12+b.keys%9) b.stops b.stops.length).map bU.name=(List.range b.stops.length).map λi=>[83,digit i] by
   unfold s7;rw[yBA];rfl]
  exact aDa 83 yg _ hl
theorem aDb(rs:List bB):∀(l:List bD) (ns:List (List UInt8)),(∀d∈l,dV d.name=true/\nJ rs d=0)->(ns++l.map bD.name).Nodup->tA rs ns l=0
 | [],_,_,_=>rfl
 |r::t,ns,h,hn=>by
  obtain⟨h0,h1⟩:=h r (yBh ..);rw[yAR]at hn;have hnn:r.name∉ns:=λhm=>(yCC.1 hn).2.2 _ hm _ (yBh ..) rfl
  unfold tA;rw[h0,h1,VM hnn];simp only[ne_eq,yBL,yAN,yAx,Bool.true_eq_false];exact aDb rs t (ns++[r.name]) (λq hq=>h q (yBV _ hq)) (by rw[yAi];exact hn)
structure aMw (p:oC):Prop where
 r1:1<=p.aK.length
 r3:p.aK.length<=3
 d1:1<=p.aD.length
 d3:p.aD.length<=3
 c3:p.aR.length<=3
 s3:∀b∈p.aD,b.stops.length<=3
theorem aDc{p:oC}(h:l7 p=true):aMw p:=by
 simp only[l7,yAr,yBY]at h;obtain⟨⟨⟨⟨⟨U7,hR3⟩,DG⟩,OC⟩,hC3⟩,s9⟩:=h;exact⟨U7,hR3,DG,OC,hC3,λb hb=>by simpa using yAn.1 s9 b hb⟩
theorem aDd{l:List lZ}{n:Nat}(hn:n<=l.length){r:bB}(h:r∈fS l n):∃x∈l,∃i,i<n/\r=rS x i:=by
 exact gr
theorem VO{rs:List bB}{l:List qC}{n:Nat}(hn:n<=l.length){r:bD}(h:r∈jV rs l n):∃x∈l,∃i,i<n/\r=xC rs x i:=by
 exact gr
theorem aMx{rs:List bB}{lo hg:Int}{l:List oK}{n:Nat}(hn:n<=l.length){r:bU}(h:r∈s7 rs lo hg l n):∃x∈l,∃i,i<n/\r=s8 rs lo hg x i:=by
 exact gr
theorem aDe(rs:List bB)(l:List qC)(n:Nat):(jV rs l n).length=n:=by simp[jV]
theorem aDf(l:List lZ)(n:Nat):(fS l n).length=n:=by simp[fS]
theorem aDg(k:Nat)(l:List q9)(n:Nat):(kT k l n).length=n:=by simp[kT]
theorem aIq(p:oC)(hp:AB p)(hf:l7 p=true):bS (uH p)=0:=by
 obtain⟨r1,r3,d1,d3,c3,s3⟩:=aDc hf;obtain⟨hpR,hpD,hpC⟩:=hp;have hrl:=aDf p.aK p.aK.length;have hra:∀r∈fS p.aK p.aK.length,mK r=0:=λr hr=>by
  obtain⟨x,hx,i,_,rfl⟩:=aDd (yAk _) hr;exact aDh x (hpR x hx) i
 have hrn:=aMy p.aK hpR p.aK.length (yAk _) ye;obtain⟨rs,hrs⟩:=gn (fS p.aK p.aK.length);have hdl:=aDe rs p.aD p.aD.length;have hcl:=aDg p.aD.length p.aR p.aR.length;have hnm:dV [79,114,103,97,110]=true:=yu;have hco:=aMz p.aR p.aD.length p.aR.length d1 ye;unfold bS JZ uH;simp only;rw[hrs]at hrl hra hrn ⊢;have hdi:tA rs [] (jV rs p.aD p.aD.length)=0:=by
  refine aDb rs _ [] (λd hd=>?_) ?_
  .obtain⟨x,hx,i,hi,rfl⟩:=VO (yAk _) hd;exact⟨OG i ye 68 yg,aMv rs hra ye ye x (hpD x hx) (by have:=s3 x hx;omega) i⟩
  .rw[yAO,show(jV rs p.aD p.aD.length).map bD.name=(List.range p.aD.length).map λi=>[68,digit i] by
    unfold jV;rw[yBA];rfl]
   exact aDa 68 yg _ ye
 have hkl:(gU (jV rs p.aD p.aD.length)).length=p.aD.length:=by
  unfold gU;rw[yAe,hdl]
 have hcb:zN (gU (jV rs p.aD p.aD.length))=false:=by
  unfold zN;rw[yDy];intro x hx;obtain⟨d,hd,rfl⟩:=yAw.1 hx;obtain⟨b,hb,i,hi,rfl⟩:=VO (yAk _) hd;obtain⟨⟨a1,a2⟩,⟨a3,a4⟩,a5⟩:=hpD b hb;have hc:lK (36+b.low%12) (36+b.low%12+b.keys%9)=0:=VL ye ye ye;simp[xC,hc]
 rw[yAI (by simp[hnm]),yAI ye,yAI (by simp[hrn]),yAI ye,yAI ye,yAI (by simp[hdi])];unfold zO;rw[yAI ye,yAI (by simp[hcb]),hkl];exact hco
theorem aMA(k n sh lo hi at_ m other:Int):(qV k n sh lo hi at_ m other).length<=2/\∀g∈qV k n sh lo hi at_ m other,g.aT.length<=2:=by
 unfold qV;split
 .simp
 split
 .split
  .constructor
   .simp
   .intro g hg;simp only[yAQ,yAO,yBD,yCA,yCN]at hg;rcases hg with rfl|rfl
    .simp
    .simp only;split<;>simp
  .constructor
   .simp
   .intro g hg;simp only[yAO,yBD,yCA,yCN]at hg;subst hg;simp only;split<;>simp
 split
 .simp
 .simp
structure Small (o:aM):Prop where
 nm:o.name.length<=100
 rl:o.aK.length<=60
 rk:∀r∈o.aK,r.name.length<=100/\r.jQ.length<=100/\r.nM.length<=100
 dl:o.aD.length<=60
 dv:∀d∈o.aD,d.name.length<=100/\d.stops.length<=100/\∀s∈d.stops,s.name.length<=100/\s.aO.length<=100/\∀g∈s.aO,g.aT.length<=100
 cl:o.aR.length<=60
 cp:∀c∈o.aR,c.name.length<=100
theorem aIr(p:oC)(hf:l7 p=true):Small (uH p):=by
 obtain⟨r1,r3,d1,d3,c3,s3⟩:=aDc hf;unfold uH;refine⟨yg,by simp only[aDf];omega,λr hr=>?_,by simp only[aDe];omega,λd hd=>?_,by simp only[aDg];omega,λc hc=>?_⟩
 .obtain⟨x,hx,i,_,rfl⟩:=aDd (yAk _) hr;refine⟨by simp[rS],?_,by simp[rS,vN];omega⟩;unfold rS zM;simp only;rw[yAA];have h:∀t∈DJ,t.length<=100:=yj;cases e:DJ[(x.jQ%3).toNat]? with
  |none=>simp
  |some t=>exact h t (yAE e)
 .obtain⟨b,hb,i,_,rfl⟩:=VO (yAk _) hd;refine⟨by simp[xC],?_,λs hs=>?_⟩
  .simp only[xC,s7,yAe,List.length_range];have:=s3 b hb;omega
  .obtain⟨x,hx,j,_,rfl⟩:=aMx (yAk _) hs;obtain⟨k1,k2⟩:=aMA (x.kind%6) (x.aG%(fS p.aK p.aK.length).length) (uN (lV x.cH) (BM (fS p.aK p.aK.length) (x.aG%(fS p.aK p.aK.length).length).toNat)) (36+b.low%12) (36+b.low%12+b.keys%9) (36+b.low%12+x.at_%(36+b.low%12+b.keys%9-(36+b.low%12)+1))
    ((x.aG%(fS p.aK p.aK.length).length+1)%(fS p.aK p.aK.length).length) (uN (lV x.cH) (BM (fS p.aK p.aK.length) ((x.aG%(fS p.aK p.aK.length).length+1)%(fS p.aK p.aK.length).length).toNat))
   unfold s8;exact⟨yg,zz,λg hg=>by have:=k2 g hg;omega⟩
 .obtain⟨j,hj,rfl⟩:=yAw.1 hc;simp[GA]
theorem Small.dP{o:aM}(h:Small o):dP o:=by
 obtain⟨h1,h2,h3,h4,h5,h6,h7⟩:=h;refine⟨Co,⟨λr hr=>?_,ye⟩,⟨ye,λd hd=>?_⟩,ye,λc hc=>?_⟩
 .obtain⟨a,b,c⟩:=h3 r hr;exact⟨by unfold kG HA;omega,Co,Co⟩
 .obtain⟨a,b,c⟩:=h5 d hd;refine⟨Co,ye,λs hs=>?_⟩;obtain⟨e,f,g⟩:=c s hs;exact⟨⟨ye,λq hq=>by have:=g q hq;unfold tN wG;omega⟩,Co⟩
 .have:=h7 c hc;unfold kU;omega
end Go.Kz
end
