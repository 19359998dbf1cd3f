/-
  Part P7 of the way: an interpreter over pure data, its soundness, walks through functions.
-/
import Derived.Test.YtefkonhamghgfaaGreatDoorP6
set_option linter.all false

set_option maxHeartbeats 40000000
open Go.Proofs.Tryz
noncomputable section
namespace Go.Kz
open Go Go.Proofs
set_option maxRecDepth 100000
section
theorem aMP(R:List nM)(i:Nat)(a:nM)(hi:i<R.length)(ha:R[i]=a):eY R (i+1)=eY R i++[oF a i]:=by
 unfold eY
 rw[List.range_succ,yBh]
 congr 1
 simp[yBa,hi,ha]
theorem aDm(R:List nM)(i:Nat):(eY R i).length=i:=by simp[eY]
def NK:Nat->List PD->List aB->Option (PD×List aB):=entry (fQ Em.vP i64 Em.aR fun x i=>dX (DT x/\0<=i/\i<10) (some (oF x i.toNat)))
theorem aMQ{x:nM}{i:Nat}(hx:DT x)(hi:i<10)(fl:Nat)(σ:List aB):NK fl [Em.vP.U x,.int .i64 i] σ=some (Em.aR.U (oF x i),σ):=by
 have e2:i64.dec (.int .i64 (i:Int))=some (i:Int):=Em.dC rfl
 unfold NK entry fQ
 simp only[Em.YQ,e2]
 rw[fB ⟨hx,by omega,by omega⟩]
 rfl
theorem aMR(rs:List bM)(D:List qM)(i:Nat)(a:qM)(hi:i<D.length)(ha:D[i]=a):lJ rs D (i+1)=lJ rs D i++[oS rs a i]:=by
 unfold lJ
 rw[List.range_succ,yBh]
 congr 1
 simp[yBa,hi,ha]
theorem aDn(rs:List bM)(D:List qM)(i:Nat):(lJ rs D i).length=i:=by simp[lJ]
theorem aMS(rs:List bM)(lo hg:Int)(L:List oY)(i:Nat)(a:oY)(hi:i<L.length)(ha:L[i]=a):tW rs lo hg L (i+1)=tW rs lo hg L i++[rG rs lo hg a i]:=by
 unfold tW
 rw[List.range_succ,yBh]
 congr 1
 simp[yBa,hi,ha]
theorem aMT(rs:List bM)(lo hg:Int)(L:List oY)(i:Nat):(tW rs lo hg L i).length=i:=by simp[tW]
theorem aMU(n:Nat)(L:List rM)(i:Nat)(a:rM)(hi:i<L.length)(ha:L[i]=a):lK n L (i+1)=lK n L i++[tY n a i]:=by
 unfold lK
 rw[List.range_succ,yBh]
 congr 1
 simp[yBa,hi,ha]
theorem U9(n:Nat)(L:List rM)(i:Nat):(lK n L i).length=i:=by simp[lK]
theorem cV.ne{σ:List aB}{tok:Tok}{e:TypeId}{k n id:Nat}{o:aB}(h:cV σ tok e k n)(ho:σ[id]?=some o)(hn:lU (some o)):tok≠.own id:=by
 rintro rfl
 rcases h with⟨_,h⟩ | ⟨_,id',h,h2⟩
 ·cases h
 ·simp only[Tok.own.injEq]at h
  subst h
  rw[ho,yAb]at h2
  subst h2
  exact hn
theorem cV.set{σ:List aB}{tok:Tok}{e:TypeId}{k n id:Nat}{o x:aB}(h:cV σ tok e k n)(ho:σ[id]?=some o)(hn:lU (some o)):cV (σ.set id x) tok e k n:=
 h.dH fun j o' ej hj=>by
  have:id≠j:=fun e=>h.ne ho hn (by rw[ej,e])
  rw[yAd this]
  exact hj
theorem eK{σ τ:List aB}{i:Nat}{o:aB}(h:σ[i]?=some o):(σ++τ)[i]?=some o:=by
 rw[yAg (yA.1 h).1]
 exact h
def RY:List PD->Option PD:=fun args=>match args with
 | [a,b,c,d]=>match aX.dec a,Em.bX.dec b,Em.pull.dec c,i64.dec d with
   |some rs,some lh,some x,some i=>dX ((∀r∈rs,(r.num,r.den)∈q9)/\1<=rs.length/\rs.length<=60/\0<=lh.1/\lh.1<=lh.2/\lh.2<=200/\DY x/\0<=i/\i<10) (some (Em.stop.U (rG rs lh.1 lh.2 x i.toNat)))
   |_,_,_,_=>none
 |_=>none
def IG:Nat->List PD->List aB->Option (PD×List aB):=entry RY
theorem aMV{W:PD}{rs:List bM}{lo hg:Int}{x:oY}{i:Nat}(hW:W.strip=aX.U rs)(hr:∀r∈rs,(r.num,r.den)∈q9)(h1:1<=rs.length)(h2:rs.length<=60)(hlo:0<=lo)(hlh:lo<=hg)(hhg:hg<=200)(hx:DY x)(hi:i<10)(fl:Nat)(σ:List aB) :
  IG fl [W,.agg [.int .i64 lo,.int .i64 hg],Em.pull.U x,.int .i64 i] σ=some (Em.stop.U (rG rs lo hg x i),σ):=by
 have e1:aX.dec W=some rs:=Em.dC hW
 have e2:Em.bX.dec (.agg [.int .i64 lo,.int .i64 hg])=some (lo,hg):=Em.dC (Em.bX.str (lo,hg))
 have e3:i64.dec (.int .i64 (i:Int))=some (i:Int):=Em.dC rfl
 unfold IG entry RY
 simp only[e1,e2,e3,Em.YQ]
 rw[fB ⟨hr,h1,h2,hlo,hlh,hhg,hx,by omega,by omega⟩]
 rfl
variable{E:aD}(hU:aI E)
include hU
theorem aJk(h0:E 8=none)(h1:E 32=some NK)(h2:E 33=some IG)(p:oJ)(hp:yJ p)(hf:mP p=true):aS prog E 8 [Em.qN.U p] (Em.aT.U (kN p)):=by
 obtain⟨R,D,C⟩:=p
 have CZ:=hf
 simp only[mP,yAr,decide_eq_true_eq]at CZ
 obtain⟨⟨⟨⟨⟨hR1,hR3⟩,OL⟩,hD3⟩,hC3⟩,VA⟩:=CZ
 obtain⟨hpR,hpD,hpC⟩:=hp
 simp only at hpR hpD hpC
 simp only[yK,fH,bJ]
 apply aS.aK h0 func8 rfl
 focus(simp[show Tryz.f8.ntmps=_ from rfl,List.replicate];rfl)
 have gx:=True.intro
 refine aC ?_
 clear gx
 refine Wp.cJ (fun m fr σ=>∃(i z:Nat),∃gg:Nat->PD,(i+m=R.length/\(eY R i=[]\/z=6))/\fr=gg 0::.ptr 0 0::.ptr 1 0::.ptr 2 0::.int .i64 i::gg 5::gg 6::gg 7::gg 8::gg 9::gg 10::gg 11::gg 12::gg 13::gg 14::gg 15::gg 16::gg 17::gg 18::gg 19::gg 20::gg 21::gg 22::gg 23::gg 24::gg 25::gg 26::gg 27::gg 28::gg 29::gg 30::gg 31::gg 32::gg 33::gg 34::gg 35::gg 36::gg 37::gg 38::gg 39::gg 40::gg 41::gg 42::gg 43::gg 44::gg 45::gg 46::gg 47::gg 48::gg 49::gg 50::gg 51::gg 52::gg 53::gg 54::gg 55::gg 56::gg 57::gg 58::gg 59::gg 60::gg 61::gg 62::gg 63::gg 64::gg 65::gg 66::gg 67::gg 68::gg 69::gg 70::gg 71::gg 72::gg 73::gg 74::gg 75::gg 76::gg 77::gg 78::gg 79::gg 80::gg 81::gg 82::gg 83::gg 84::gg 85::gg 86::gg 87::gg 88::gg 89::gg 90::gg 91::gg 92::gg 93::gg 94::gg 95::gg 96::gg 97::gg 98::gg 99::gg 100::gg 101::gg 102::gg 103::gg 104::gg 105::gg 106::gg 107::gg 108::gg 109::gg 110::gg 111::gg 112::gg 113::gg 114::gg 115::gg 116::gg 117::gg 118::gg 119::gg 120::gg 121::gg 122::gg 123::gg 124::gg 125::gg 126::gg 127::gg 128::gg 129::gg 130::gg 131::gg 132::gg 133::gg 134::gg 135::gg 136::gg 137::gg 138::gg 139::gg 140::gg 141::gg 142::gg 143::gg 144::gg 145::gg 146::gg 147::gg 148::gg 149::gg 150::gg 151::gg 152::[]/\σ=St [.box (.agg [.slice (sz 9 R) (R.map Em.vP.U) .any,.slice (sz 4 D) (D.map Em.AZ.U) .any,.slice (sz 4 C) (C.map Em.link.U) .any]),.box (.agg [.str [],.slice 0 [] .full,.slice 0 [] .full,.slice 0 [] .full]),.box (.agg [.str [79,114,103,97,110],.slice z ((eY R i).map Em.aR.U) (jB 3 (eY R i).length),.slice 0 [] .full,.slice 0 [] .full])] 66 6 (eY R i).length) ?_ (R.length) (by refine⟨0,0,?_⟩;exact cW (⟨by omega,.inl rfl⟩) (by(first|rfl|(simp[eY,jB];repeat(first|rfl|(apply And.intro)))|(simp[eY,jB];done))) (by(first|rfl|(simp[eY,jB];repeat(first|rfl|(apply And.intro)))|(simp[eY,jB];done))))
 rintro m fr σ ⟨i,z,gg,hI,rfl,rfl⟩
 obtain⟨hm,hz⟩:=hI
 by_cases hi:i<R.length
 ·have q1:(i:Int)<(R.length:Int):=by omega
  obtain⟨a,ha⟩:=gn (R[i])
  have hs:=aMP R i a hi ha
  have hl:=aDm R i
  have hG:=aMQ (i:=i) (hpR a (ha▸yAm hi)) (by omega)
  obtain⟨q,hq⟩:=gn (oF a i)
  rw[hq]at hG hs
  obtain⟨L,hL⟩:=gn (eY R i)
  rw[hL]at hz hl hs ⊢
  obtain⟨q0,VB,q2,q3,q4,q5⟩:=q
  obtain⟨a0,a1,a2,a3,a4,a5,a6,a7,a8⟩:=a
  simp only[XU,vT,bJ]at hG
  have gx:=An @q1 (An @hi (An @ha (An @h1 (An @hG (An @hz (@hl))))))
  refine aC ?_
  clear gx
  refine bP.normal (m-1) (by omega) (by refine⟨i+1,6,?_⟩;exact cW (⟨by omega,.inr rfl⟩) (by(first|rfl|(simp[hs,hl];repeat(first|rfl|(apply And.intro)))|(simp[hs,hl];done))) (by(first|rfl|(simp[hs,hl];repeat(first|rfl|(apply And.intro)))|(simp[hs,hl];done))))
 ·have q1:¬(i:Int)<(R.length:Int):=by omega
  obtain rfl:i=R.length:=by omega
  have hl:=aDm R R.length
  have hne:eY R R.length≠[]:=fun h=>by rw[h]at hl;simp at hl;omega
  have hz6:z=6:=hz.resolve_left hne
  subst hz6
  have gx:=@q1
  refine aC ?_
  clear gx
  have hrf:∀r∈eY R R.length,(r.num,r.den)∈q9:=by
   intro r hr
   simp only[eY,yAw,List.mem_range]at hr
   obtain⟨j,hj,rfl⟩:=hr
   have:R.getD j default=R[j]:=by simp[yBa,hj]
   rw[this]
   exact aMW _ (hpR _ (yAm hj)).2.1
  have hrl:=hl
  obtain⟨rs,hrs⟩:=gn (eY R R.length)
  have hO:kN ⟨R,D,C⟩=⟨[79,114,103,97,110],rs,lJ rs D D.length,lK D.length C C.length⟩:=by
   unfold kN
   simp only[hrs]
  rw[hO]
  rw[hrs]at hrf hrl hne ⊢
  clear hO hrs hz hl hm q1
  obtain⟨W,hW⟩:=gn (PD.slice 6 (rs.map Em.aR.U) (jB 3 rs.length))
  have hWs:W.strip=aX.U rs:=by
   rw[<-hW,PD.lG]
   show _=PD.slice (sz 6 rs) (rs.map Em.aR.U) .any
   rw[cG hne,show(rs.map Em.aR.U).map PD.strip=rs.map Em.aR.U by rw[List.map_map];exact yBg fun x _=>Em.aR.str x]
   simp[hne]
  rw[hW]
  obtain⟨X0,qU⟩:=gn (aB.box (.agg [.slice (sz 9 R) (R.map Em.vP.U) .any,.slice (sz 4 D) (D.map Em.AZ.U) .any,.slice (sz 4 C) (C.map Em.link.U) .any]))
  obtain⟨wM,wN⟩:=gn (St [X0,.box (.agg [.str [],.slice 0 [] .full,.slice 0 [] .full,.slice 0 [] .full]),.box (.agg [.str [79,114,103,97,110],W,.slice 0 [] .full,.slice 0 [] .full])] 66 6 rs.length)
  have s0:wM[0]?=some X0:=by rw[<-wN];exact PZ (by simp)
  have s1:wM[1]?=some (.box (.agg [.str [],.slice 0 [] .full,.slice 0 [] .full,.slice 0 [] .full])):=by rw[<-wN];exact PZ (by simp)
  have s2:wM[2]?=some (.box (.agg [.str [79,114,103,97,110],W,.slice 0 [] .full,.slice 0 [] .full])):=by rw[<-wN];exact PZ (by simp)
  rw[qU,wN]
  have PJ:lJ rs D 0=[]:=rfl
  refine Wp.cJ (fun m fr σ=>∃(i z:Nat) (tok:Tok) (σ1:List aB),∃gg:Nat->PD,(i+m=D.length/\(lJ rs D i=[]\/z=5)/\cV σ1 tok 71 5 i/\σ1[0]?=some X0/\σ1[1]?=some (.box (.agg [.str [],.slice 0 [] .full,.slice 0 [] .full,.slice 0 [] .full]))/\σ1[2]?=some (.box (.agg [.str [79,114,103,97,110],W,.slice z ((lJ rs D i).map Em.div.U) tok,.slice 0 [] .full])))/\fr=gg 0::.ptr 0 0::.ptr 1 0::.ptr 2 0::gg 4::.int .i64 i::gg 6::gg 7::gg 8::gg 9::gg 10::gg 11::gg 12::gg 13::gg 14::gg 15::gg 16::gg 17::gg 18::gg 19::gg 20::gg 21::gg 22::gg 23::gg 24::gg 25::gg 26::gg 27::gg 28::gg 29::gg 30::gg 31::gg 32::gg 33::gg 34::gg 35::gg 36::gg 37::gg 38::gg 39::gg 40::gg 41::gg 42::gg 43::gg 44::gg 45::gg 46::gg 47::gg 48::gg 49::gg 50::gg 51::gg 52::gg 53::gg 54::gg 55::gg 56::gg 57::gg 58::gg 59::gg 60::gg 61::gg 62::gg 63::gg 64::gg 65::gg 66::gg 67::gg 68::gg 69::gg 70::gg 71::gg 72::gg 73::gg 74::gg 75::gg 76::gg 77::gg 78::gg 79::gg 80::gg 81::gg 82::gg 83::gg 84::gg 85::gg 86::gg 87::gg 88::gg 89::gg 90::gg 91::gg 92::gg 93::gg 94::gg 95::gg 96::gg 97::gg 98::gg 99::gg 100::gg 101::gg 102::gg 103::gg 104::gg 105::gg 106::gg 107::gg 108::gg 109::gg 110::gg 111::gg 112::gg 113::gg 114::gg 115::gg 116::gg 117::gg 118::gg 119::gg 120::gg 121::gg 122::gg 123::gg 124::gg 125::gg 126::gg 127::gg 128::gg 129::gg 130::gg 131::gg 132::gg 133::gg 134::gg 135::gg 136::gg 137::gg 138::gg 139::gg 140::gg 141::gg 142::gg 143::gg 144::gg 145::gg 146::gg 147::gg 148::gg 149::gg 150::gg 151::gg 152::[]/\σ=σ1) ?_ (D.length) (by refine⟨0,0,.full,wM,?_⟩;exact bW (⟨by omega,.inl rfl,.inl ⟨rfl,rfl⟩,s0,s1,by rw[PJ];exact s2⟩))
  rintro m fr σ ⟨i,z,tok,σ1,gg,hI,rfl,rfl⟩
  obtain⟨hm,hz,hrow,g0,g1,g2⟩:=hI
  by_cases hi:i<D.length
  ·have q1:(i:Int)<(D.length:Int):=by omega
   obtain⟨a,ha⟩:=gn (D[i])
   obtain⟨z7,hk8,hP8⟩:=hpD a (ha▸yAm hi)
   have hP3:a.stops.length<=3:=by
    have:=yAn.1 VA a (ha▸yAm hi)
    simpa using this
   have hbs:=aMR rs D i a hi ha
   obtain⟨l,ke,pe,P⟩:=a
   simp only at z7 hk8 hP8 hP3
   obtain⟨l,rfl⟩:∃q:Nat,l=q:=⟨l.toNat,by have:=z7.1;omega⟩
   obtain⟨ke,rfl⟩:∃q:Nat,ke=q:=⟨ke.toNat,by have:=hk8.1;omega⟩
   obtain⟨L,hL⟩:=gn (l%12)
   obtain⟨K,hK⟩:=gn (ke%9)
   have t1:(l:Int).tmod 12=(L:Int):=by rw[<-hL];rfl
   have t2:IntKind.i64.wrap (L:Int)=(L:Int):=by rw[IntKind.wrap_i64];omega
   have t3:IntKind.i64.wrap (36+(L:Int))=36+(L:Int):=by rw[IntKind.wrap_i64];omega
   have t4:(ke:Int).tmod 9=(K:Int):=by rw[<-hK];rfl
   have t5:IntKind.i64.wrap (K:Int)=(K:Int):=by rw[IntKind.wrap_i64];omega
   have t6:IntKind.i64.wrap (36+(L:Int)+(K:Int))=36+(L:Int)+K:=by rw[IntKind.wrap_i64];omega
   have d2:IntKind.i64.wrap (48+(i:Int))=48+(i:Int):=by rw[IntKind.wrap_i64];omega
   have d3:IntKind.u8.wrap (48+(i:Int))=48+(i:Int):=by simp only[IntKind.wrap,IntKind.bits,IntKind.signed];simp;omega
   obtain⟨dg,hdg⟩:=gn (UInt8.ofNat (48+(i:Int)).toNat)
   obtain⟨ps,hps⟩:=gn (tW rs (36+(L:Int)) (36+(L:Int)+K) P)
   have hbo:oS rs ⟨l,ke,pe,P⟩ i=⟨[68,dg],pe,36+(L:Int),36+(L:Int)+K,ps P.length⟩:=by
    unfold oS digit
    simp only[show(l:Int)%12=(L:Int) by omega,show(ke:Int)%9=(K:Int) by omega,hps,<-hdg,show(48+(i:Int)).toNat=48+i by omega]
   rw[hbo]at hbs
   have hpsl:∀k,(ps k).length=k:=fun k=>by rw[<-hps];exact aMT _ _ _ _ _
   have aDo:ps 0=[]:=yAf (hpsl 0)
   have hpss:∀(k:Nat) (x:oY) (hk:k<P.length),P[k]=x->ps (k+1)=ps k++[rG rs (36+(L:Int)) (36+(L:Int)+K) x k]:=fun k x hk hx=>by rw[<-hps];exact aMS _ _ _ _ _ _ hk hx
   have qJ:=g0
   rw[<-qU]at qJ
   have gx:=An @q1 (An @hi (An @ha (An @qJ (An @t1 (An @t2 (An @t3 (An @t4 (An @t5 (An @t6 (An @d2 (An @d3 (@hdg))))))))))))
   refine aC ?_
   clear gx
   have lX:2<σ.length:=(yA.1 g2).1
   obtain⟨BX,hBX⟩:=gn (aB.box (.agg [.int .u8 l,.int .u8 ke,.bool pe,.slice (sz 4 P) (P.map Em.pull.U) .any]))
   rw[hBX]
   obtain⟨DX,hDX⟩:=gn (aB.box (.agg [.str [68,dg],.bool pe,.int .i64 (36+(L:Int)),.int .i64 (36+(L:Int)+K),.slice 0 [] .full]))
   rw[hDX]
   have u0:(σ++[BX,DX])[0]?=some X0:=by rw[yAg (by omega)];exact g0
   have u1:(σ++[BX,DX])[1]?=_:=(yAg (by omega)).trans g1
   have u2:(σ++[BX,DX])[2]?=_:=(yAg (by omega)).trans g2
   have u3:(σ++[BX,DX])[σ.length]?=some BX:=by simp
   have u4:(σ++[BX,DX])[σ.length+1]?=some DX:=by simp
   have urow:=hrow.more (τ:=[BX,DX])
   obtain⟨σ3,C1⟩:=gn (σ++[BX,DX])
   rw[C1]at u0 u1 u2 u3 u4 urow ⊢
   obtain⟨pb,hpb⟩:=gn (σ.length)
   rw[hpb]at u3 u4 lX ⊢
   obtain⟨M,hM⟩:∃M,M=m:=⟨_,rfl⟩
   rw[<-hM]at hm ⊢
   clear hM C1 hpb g0 qJ g1 g2 hrow
   rw[<-hDX]at u4
   refine Wp.cJ (fun m fr σ=>∃(k z2:Nat) (GK:Tok) (σ2:List aB),∃gg:Nat->PD,(k+m=P.length/\(ps k=[]\/z2=4)/\cV σ2 GK 74 4 k/\cV σ2 tok 71 5 i/\(∀id,GK=.own id->tok≠.own id)/\σ2[0]?=some X0/\σ2[1]?=some (.box (.agg [.str [],.slice 0 [] .full,.slice 0 [] .full,.slice 0 [] .full]))/\σ2[2]?=some (.box (.agg [.str [79,114,103,97,110],W,.slice z ((lJ rs D i).map Em.div.U) tok,.slice 0 [] .full]))/\σ2[pb]?=some BX/\σ2[pb+1]?=some (.box (.agg [.str [68,dg],.bool pe,.int .i64 (36+(L:Int)),.int .i64 (36+(L:Int)+K),.slice z2 ((ps k).map Em.stop.U) GK])))/\fr=gg 0::.ptr 0 0::.ptr 1 0::.ptr 2 0::gg 4::.int .i64 i::.ptr pb 0::gg 7::.ptr (pb+1) 0::.int .i64 k::gg 10::gg 11::gg 12::gg 13::gg 14::gg 15::gg 16::gg 17::gg 18::gg 19::gg 20::gg 21::gg 22::gg 23::gg 24::gg 25::gg 26::gg 27::gg 28::gg 29::gg 30::gg 31::gg 32::gg 33::gg 34::gg 35::gg 36::gg 37::gg 38::gg 39::gg 40::gg 41::gg 42::gg 43::gg 44::gg 45::gg 46::gg 47::gg 48::gg 49::gg 50::gg 51::gg 52::gg 53::gg 54::gg 55::gg 56::gg 57::gg 58::gg 59::gg 60::gg 61::gg 62::gg 63::gg 64::gg 65::gg 66::gg 67::gg 68::gg 69::gg 70::gg 71::gg 72::gg 73::gg 74::gg 75::gg 76::gg 77::gg 78::gg 79::gg 80::gg 81::gg 82::gg 83::gg 84::gg 85::gg 86::gg 87::gg 88::gg 89::gg 90::gg 91::gg 92::gg 93::gg 94::gg 95::gg 96::gg 97::gg 98::gg 99::gg 100::gg 101::gg 102::gg 103::gg 104::gg 105::gg 106::gg 107::gg 108::gg 109::gg 110::gg 111::gg 112::gg 113::gg 114::gg 115::gg 116::gg 117::gg 118::gg 119::gg 120::gg 121::gg 122::gg 123::gg 124::gg 125::gg 126::gg 127::gg 128::gg 129::gg 130::gg 131::gg 132::gg 133::gg 134::gg 135::gg 136::gg 137::gg 138::gg 139::gg 140::gg 141::gg 142::gg 143::gg 144::gg 145::gg 146::gg 147::gg 148::gg 149::gg 150::gg 151::gg 152::[]/\σ=σ2) ?_ (P.length) (by refine⟨0,0,.full,σ3,?_⟩;exact bW (⟨by omega,.inl aDo,.inl ⟨rfl,rfl⟩,urow,(fun id e=>(by cases e)),u0,u1,u2,u3,(by rw[aDo];exact u4)⟩))
   rintro m fr σ ⟨k,z2,GK,σ2,gg,hI,rfl,rfl⟩
   obtain⟨hm2,xP,GL,hrowD,MG,v0,v1,v2,v3,v4⟩:=hI
   by_cases hk:k<P.length
   ·have q2:(k:Int)<(P.length:Int):=by omega
    obtain⟨x,hx⟩:=gn (P[k])
    have hsu:=hpss k x hk hx
    have hG:=aMV (i:=k) (x:=x) (lo:=36+(L:Int)) (hg:=36+(L:Int)+K) hWs hrf (by omega) (by omega) (by omega) (by omega) (by omega) (hP8 x (hx▸yAm hk)) (by omega)
    obtain⟨q,hq⟩:=gn (rG rs (36+(L:Int)) (36+(L:Int)+K) x k)
    rw[hq]at hG hsu
    obtain⟨q0,VB,GM,q3⟩:=q
    obtain⟨x0,x1,x2,x3⟩:=x
    simp only[XW,vU,bJ]at hG
    rw[<-hBX]at v3
    obtain⟨A,hA⟩:=gn ((ps k).map Em.stop.U)
    have hAl:A.length=k:=by rw[<-hA,yAe,hpsl]
    have rH:A=[]\/z2=4:=xP.imp (fun h=>by rw[<-hA,h];rfl) id
    obtain⟨bQ,bK,hap,hr',hkeep,hnew⟩:=pY (P:=prog) (t:=69) (e:=74) (k:=4) (b:=56) (s:=z2) (xs:=A) (p:=.agg [.str q0,.int .i64 VB,.int .i64 GM,.slice (sz 3 q3) (q3.map Em.bL.U) .any]) (tk:=.any) (tok:=GK) (σ:=σ)
     underlying69 (by kernel_rfl) rH (by rw[hAl];exact GL) (by omega) (by omega)
    rw[hA]at v4
    have nX:lU (some X0):=by rw[<-qU];trivial
    have nB:lU (some BX):=by rw[<-hBX];trivial
    rw[hBX]at v3
    have w0:=hkeep 0 _ (GL.ne v0 nX) v0
    have w1:=hkeep 1 _ (GL.ne v1 trivial) v1
    have w2:=hkeep 2 _ (GL.ne v2 trivial) v2
    have w3:=hkeep pb _ (GL.ne v3 nB) v3
    have w4:=hkeep (pb+1) _ (GL.ne v4 trivial) v4
    rw[hAl]at hr'
    have aMX:=(hrowD.dH (σ':=bK) fun id o e h=>hkeep id o (fun e2=>MG id e2 e) h)
    have aMY:∀id,bQ=.own id->tok≠.own id:=fun id e e2=>by
     rcases hnew id e with e3|e3
     ·exact MG id e3 e2
     ·subst e3
      rcases hrowD with⟨_,e4⟩ | ⟨_,id',e4,h5⟩
      ·rw[e4]at e2;cases e2
      ·rw[e4]at e2
       simp only[Tok.own.injEq]at e2
       subst e2
       have:=(yA.1 h5).1
       omega
    rw[<-hBX]at v3
    have gx:=An @q2 (An @hk (An @hx (An @v0 (An @v1 (An @v2 (An @v3 (An @v4 (An @h2 (An @hG (An @hap (@w4)))))))))))
    refine aC ?_
    clear gx
    have uX:pb+1<bK.length:=(yA.1 w4).1
    refine bP.normal (m-1) (by omega) (by refine⟨k+1,4,bQ,bK.set (pb+1) (.box (.agg [.str [68,dg],.bool pe,.int .i64 (36+(L:Int)),.int .i64 (36+(L:Int)+K),.slice 4 (A++[.agg [.str q0,.int .i64 VB,.int .i64 GM,.slice (sz 3 q3) (q3.map Em.bL.U) .any]]) bQ])),?_⟩;exact bW (⟨by omega,.inr rfl,hr'.set w4 trivial,aMX.set w4 trivial,aMY,(by rw[yAd (by omega)];exact w0),(by rw[yAd (by omega)];exact w1),(by rw[yAd (by omega)];exact w2),(by rw[yAd (by omega)];exact w3),(by rw[hsu,yBh,hA];exact yAj uX)⟩))
   ·have q2:¬(k:Int)<(P.length:Int):=by omega
    obtain rfl:k=P.length:=by omega
    obtain⟨Y,hY⟩:=gn (PD.slice z2 ((ps P.length).map Em.stop.U) GK)
    have hYp:Y.plain=true:=by rw[<-hY];rfl
    have hYs:Y.strip=.slice (sz 4 (ps P.length)) ((ps P.length).map Em.stop.U) .any:=by
     rw[<-hY,PD.lG,show((ps P.length).map Em.stop.U).map PD.strip=(ps P.length).map Em.stop.U by rw[List.map_map];exact yBg fun x _=>Em.stop.str x]
     rcases xP with h|h
     ·rw[h];rfl
     ·rw[h];simp[sz]
    rw[hY]at v4
    rw[<-hBX]at v3
    obtain⟨A,hA⟩:=gn ((lJ rs D i).map Em.div.U)
    have hAl:A.length=i:=by rw[<-hA,yAe,aDn]
    have rH:A=[]\/z=5:=hz.imp (fun h=>by rw[<-hA,h];rfl) id
    rw[hA]at v2
    obtain⟨bQ,bK,hap,hr',hkeep,hnew⟩:=pY (P:=prog) (t:=33) (e:=71) (k:=5) (b:=64) (s:=z) (xs:=A) (p:=.agg [.str [68,dg],.bool pe,.int .i64 (36+(L:Int)),.int .i64 (36+(L:Int)+K),.slice (sz 4 (ps P.length)) ((ps P.length).map Em.stop.U) .any]) (tk:=.any) (tok:=tok) (σ:=σ)
     underlying33 (by kernel_rfl) rH (by rw[hAl];exact hrowD) (by omega) (by omega)
    have nX:lU (some X0):=by rw[<-qU];trivial
    have w0:=hkeep 0 _ (hrowD.ne v0 nX) v0
    have w1:=hkeep 1 _ (hrowD.ne v1 trivial) v1
    have w2:=hkeep 2 _ (hrowD.ne v2 trivial) v2
    rw[hAl]at hr'
    have gx:=An @q2 (An @v0 (An @v1 (An @v2 (An @v3 (An @v4 (An @hap (An @w2 (An @hYp (@hYs)))))))))
    refine aC ?_
    clear gx
    have uX:2<bK.length:=(yA.1 w2).1
    refine bP.normal (M-1) (by omega) (by refine⟨i+1,5,bQ,bK.set 2 (.box (.agg [.str [79,114,103,97,110],W,.slice 5 (A++[.agg [.str [68,dg],.bool pe,.int .i64 (36+(L:Int)),.int .i64 (36+(L:Int)+K),.slice (sz 4 (ps P.length)) ((ps P.length).map Em.stop.U) .any]]) bQ,.slice 0 [] .full])),?_⟩;exact bW (⟨by omega,.inr rfl,hr'.set w2 trivial,(by rw[yAd (by omega)];exact w0),(by rw[yAd (by omega)];exact w1),(by rw[hbs,yBh,hA];exact yAj uX)⟩))
  ·have q1:¬(i:Int)<(D.length:Int):=by omega
   obtain rfl:i=D.length:=by omega
   have hbl:=aDn rs D D.length
   have hbne:lJ rs D D.length≠[]:=fun h=>by rw[h]at hbl;simp at hbl;omega
   have hz5:z=5:=hz.resolve_left hbne
   subst hz5
   obtain⟨Y,hY⟩:=gn (PD.slice 5 ((lJ rs D D.length).map Em.div.U) tok)
   have hYp:Y.plain=true:=by rw[<-hY];rfl
   have hYs:Y.strip=.slice (sz 5 (lJ rs D D.length)) ((lJ rs D D.length).map Em.div.U) .any:=by
    rw[<-hY,PD.lG,show((lJ rs D D.length).map Em.div.U).map PD.strip=(lJ rs D D.length).map Em.div.U by rw[List.map_map];exact yBg fun x _=>Em.div.str x]
    rw[cG hbne]
    simp[hbne]
   have hWp:W.plain=true:=by rw[<-hW];rfl
   have aMZ:W.strip=.slice (sz 6 rs) (rs.map Em.aR.U) .any:=hWs
   rw[hY]at g2
   have qJ:=g0
   rw[<-qU]at qJ
   have gx:=An @q1 (An @qJ (An @g1 (@g2)))
   refine aC ?_
   clear gx
   have pR:lK D.length C 0=[]:=rfl
   refine Wp.cJ (fun m fr σ=>∃(j z3:Nat) (z8:Tok) (σ1:List aB),∃gg:Nat->PD,(j+m=C.length/\(lK D.length C j=[]\/z3=5)/\cV σ1 z8 76 5 j/\σ1[0]?=some X0/\σ1[1]?=some (.box (.agg [.str [],.slice 0 [] .full,.slice 0 [] .full,.slice 0 [] .full]))/\σ1[2]?=some (.box (.agg [.str [79,114,103,97,110],W,Y,.slice z3 ((lK D.length C j).map Em.aP.U) z8])))/\fr=gg 0::.ptr 0 0::.ptr 1 0::.ptr 2 0::gg 4::gg 5::gg 6::gg 7::gg 8::gg 9::.int .i64 D.length::.int .i64 j::gg 12::gg 13::gg 14::gg 15::gg 16::gg 17::gg 18::gg 19::gg 20::gg 21::gg 22::gg 23::gg 24::gg 25::gg 26::gg 27::gg 28::gg 29::gg 30::gg 31::gg 32::gg 33::gg 34::gg 35::gg 36::gg 37::gg 38::gg 39::gg 40::gg 41::gg 42::gg 43::gg 44::gg 45::gg 46::gg 47::gg 48::gg 49::gg 50::gg 51::gg 52::gg 53::gg 54::gg 55::gg 56::gg 57::gg 58::gg 59::gg 60::gg 61::gg 62::gg 63::gg 64::gg 65::gg 66::gg 67::gg 68::gg 69::gg 70::gg 71::gg 72::gg 73::gg 74::gg 75::gg 76::gg 77::gg 78::gg 79::gg 80::gg 81::gg 82::gg 83::gg 84::gg 85::gg 86::gg 87::gg 88::gg 89::gg 90::gg 91::gg 92::gg 93::gg 94::gg 95::gg 96::gg 97::gg 98::gg 99::gg 100::gg 101::gg 102::gg 103::gg 104::gg 105::gg 106::gg 107::gg 108::gg 109::gg 110::gg 111::gg 112::gg 113::gg 114::gg 115::gg 116::gg 117::gg 118::gg 119::gg 120::gg 121::gg 122::gg 123::gg 124::gg 125::gg 126::gg 127::gg 128::gg 129::gg 130::gg 131::gg 132::gg 133::gg 134::gg 135::gg 136::gg 137::gg 138::gg 139::gg 140::gg 141::gg 142::gg 143::gg 144::gg 145::gg 146::gg 147::gg 148::gg 149::gg 150::gg 151::gg 152::[]/\σ=σ1) ?_ (C.length) (by refine⟨0,0,.full,σ,?_⟩;exact bW (⟨by omega,.inl pR,.inl ⟨rfl,rfl⟩,g0,g1,(by rw[pR];exact g2)⟩))
   rintro m fr σ ⟨j,z3,z8,σ1,gg,hI,rfl,rfl⟩
   obtain⟨hm,hz,hrow,g0,g1,g2⟩:=hI
   by_cases hj:j<C.length
   ·have q1:(j:Int)<(C.length:Int):=by omega
    obtain⟨a,ha⟩:=gn (C[j])
    obtain⟨VC,oU,mL⟩:=hpC a (ha▸yAm hj)
    have hls:=aMU D.length C j a hj ha
    obtain⟨o,d,s,th⟩:=a
    simp only at VC oU mL
    obtain⟨o,rfl⟩:∃q:Nat,o=q:=⟨o.toNat,by have:=VC.1;omega⟩
    obtain⟨d,rfl⟩:∃q:Nat,d=q:=⟨d.toNat,by have:=oU.1;omega⟩
    have ho9:=VC.2
    have hd9:=oU.2
    have t1:IntKind.i64.wrap (o:Int)=(o:Int):=by rw[IntKind.wrap_i64];omega
    have t2:IntKind.i64.wrap (d:Int)=(d:Int):=by rw[IntKind.wrap_i64];omega
    have t3:IntKind.i64.wrap s=s:=by have:=mL.1;have:=mL.2;rw[IntKind.wrap_i64];omega
    have t4:¬(D.length:Int)=0:=by omega
    have t5:¬D=[]:=fun h=>by rw[h]at OL;simp at OL
    obtain⟨O,hO⟩:∃O:Int,(o:Int).tmod (D.length:Int)=O:=⟨_,rfl⟩
    obtain⟨Q,hQ⟩:∃Q:Int,(d:Int).tmod (D.length:Int)=Q:=⟨_,rfl⟩
    obtain⟨S,hS⟩:∃S:Int,s.tmod 25=S:=⟨_,rfl⟩
    have hO':(o:Int)%(D.length:Int)=O:=hO
    have hQ':(d:Int)%(D.length:Int)=Q:=hQ
    have d2:IntKind.i64.wrap (48+(j:Int))=48+(j:Int):=by rw[IntKind.wrap_i64];omega
    have d3:IntKind.u8.wrap (48+(j:Int))=48+(j:Int):=by simp only[IntKind.wrap,IntKind.bits,IntKind.signed];simp;omega
    obtain⟨dg,hdg⟩:=gn (UInt8.ofNat (48+(j:Int)).toNat)
    have hln:tY D.length ⟨o,d,s,th⟩ j=⟨[67,dg],O,Q,if O=Q/\S=0 then 12 else S,th⟩:=by
     unfold tY digit
     simp only[hO',hQ',hS,<-hdg,show(48+(j:Int)).toNat=48+j by omega]
    rw[hln]at hls
    have qJ:=g0
    rw[<-qU]at qJ
    by_cases hoq:O=Q
    ·by_cases VD:S=0
     ·subst hoq
      subst VD
      have hE:(if O=O/\(0:Int)=0 then(12:Int)else(0:Int))=12:=by simp
      rw[hE]at hls
      obtain⟨A,hA⟩:=gn ((lK D.length C j).map Em.aP.U)
      have hAl:A.length=j:=by rw[<-hA,yAe,U9]
      have rH:A=[]\/z3=5:=hz.imp (fun h=>by rw[<-hA,h];rfl) id
      rw[hA]at g2
      have nX:lU (some X0):=by rw[<-qU];trivial
      have u0:=eK (τ:=[.box (.agg [.int .u8 o,.int .u8 d,.int .i8 s,.bool th]),.box (.agg [.str [67,dg],.int .i64 O,.int .i64 O,.int .i64 12,.bool th])]) g0
      have u1:=eK (τ:=[.box (.agg [.int .u8 o,.int .u8 d,.int .i8 s,.bool th]),.box (.agg [.str [67,dg],.int .i64 O,.int .i64 O,.int .i64 12,.bool th])]) g1
      have u2:=eK (τ:=[.box (.agg [.int .u8 o,.int .u8 d,.int .i8 s,.bool th]),.box (.agg [.str [67,dg],.int .i64 O,.int .i64 O,.int .i64 12,.bool th])]) g2
      have urow:=hrow.more (τ:=[.box (.agg [.int .u8 o,.int .u8 d,.int .i8 s,.bool th]),.box (.agg [.str [67,dg],.int .i64 O,.int .i64 O,.int .i64 12,.bool th])])
      obtain⟨bQ,bK,hap,hr',hkeep,hnew⟩:=pY (P:=prog) (t:=34) (e:=76) (k:=5) (b:=48) (s:=z3) (xs:=A) (p:=.agg [.str [67,dg],.int .i64 O,.int .i64 O,.int .i64 12,.bool th]) (tk:=.any) (tok:=z8)
       underlying34 (by kernel_rfl) rH (by rw[hAl];exact urow) (by omega) (by omega)
      have w0:=hkeep 0 _ (urow.ne u0 nX) u0
      have w1:=hkeep 1 _ (urow.ne u1 trivial) u1
      have w2:=hkeep 2 _ (urow.ne u2 trivial) u2
      rw[hAl]at hr'
      have gx:=An @q1 (An @hj (An @ha (An @qJ (An @g2 (An @u2 (An @hap (An @w2 (An @t1 (An @t2 (An @t3 (An @t4 (An @t5 (An @hO (An @hQ (An @hS (An @d2 (An @d3 (@hdg))))))))))))))))))
      refine aC ?_
      clear gx
      have uX:2<bK.length:=(yA.1 w2).1
      refine bP.normal (m-1) (by omega) (by refine⟨j+1,5,bQ,bK.set 2 (.box (.agg [.str [79,114,103,97,110],W,Y,.slice 5 (A++[.agg [.str [67,dg],.int .i64 O,.int .i64 O,.int .i64 12,.bool th]]) bQ])),?_⟩;exact bW (⟨by omega,.inr rfl,hr'.set w2 trivial,(by rw[yAd (by omega)];exact w0),(by rw[yAd (by omega)];exact w1),(by rw[hls,yBh,hA];exact yAj uX)⟩))
     ·subst hoq
      have hE:(if O=O/\S=0 then(12:Int)else S)=S:=by simp[VD]
      rw[hE]at hls
      obtain⟨A,hA⟩:=gn ((lK D.length C j).map Em.aP.U)
      have hAl:A.length=j:=by rw[<-hA,yAe,U9]
      have rH:A=[]\/z3=5:=hz.imp (fun h=>by rw[<-hA,h];rfl) id
      rw[hA]at g2
      have nX:lU (some X0):=by rw[<-qU];trivial
      have u0:=eK (τ:=[.box (.agg [.int .u8 o,.int .u8 d,.int .i8 s,.bool th]),.box (.agg [.str [67,dg],.int .i64 O,.int .i64 O,.int .i64 S,.bool th])]) g0
      have u1:=eK (τ:=[.box (.agg [.int .u8 o,.int .u8 d,.int .i8 s,.bool th]),.box (.agg [.str [67,dg],.int .i64 O,.int .i64 O,.int .i64 S,.bool th])]) g1
      have u2:=eK (τ:=[.box (.agg [.int .u8 o,.int .u8 d,.int .i8 s,.bool th]),.box (.agg [.str [67,dg],.int .i64 O,.int .i64 O,.int .i64 S,.bool th])]) g2
      have urow:=hrow.more (τ:=[.box (.agg [.int .u8 o,.int .u8 d,.int .i8 s,.bool th]),.box (.agg [.str [67,dg],.int .i64 O,.int .i64 O,.int .i64 S,.bool th])])
      obtain⟨bQ,bK,hap,hr',hkeep,hnew⟩:=pY (P:=prog) (t:=34) (e:=76) (k:=5) (b:=48) (s:=z3) (xs:=A) (p:=.agg [.str [67,dg],.int .i64 O,.int .i64 O,.int .i64 S,.bool th]) (tk:=.any) (tok:=z8)
       underlying34 (by kernel_rfl) rH (by rw[hAl];exact urow) (by omega) (by omega)
      have w0:=hkeep 0 _ (urow.ne u0 nX) u0
      have w1:=hkeep 1 _ (urow.ne u1 trivial) u1
      have w2:=hkeep 2 _ (urow.ne u2 trivial) u2
      rw[hAl]at hr'
      have gx:=An @q1 (An @hj (An @ha (An @qJ (An @g2 (An @u2 (An @hap (An @w2 (An @t1 (An @t2 (An @t3 (An @t4 (An @t5 (An @hO (An @hQ (An @hS (An @d2 (An @d3 (An @hdg (@VD)))))))))))))))))))
      refine aC ?_
      clear gx
      have uX:2<bK.length:=(yA.1 w2).1
      refine bP.normal (m-1) (by omega) (by refine⟨j+1,5,bQ,bK.set 2 (.box (.agg [.str [79,114,103,97,110],W,Y,.slice 5 (A++[.agg [.str [67,dg],.int .i64 O,.int .i64 O,.int .i64 S,.bool th]]) bQ])),?_⟩;exact bW (⟨by omega,.inr rfl,hr'.set w2 trivial,(by rw[yAd (by omega)];exact w0),(by rw[yAd (by omega)];exact w1),(by rw[hls,yBh,hA];exact yAj uX)⟩))
    ·skip
     have hE:(if O=Q/\S=0 then(12:Int)else S)=S:=by simp[hoq]
     rw[hE]at hls
     obtain⟨A,hA⟩:=gn ((lK D.length C j).map Em.aP.U)
     have hAl:A.length=j:=by rw[<-hA,yAe,U9]
     have rH:A=[]\/z3=5:=hz.imp (fun h=>by rw[<-hA,h];rfl) id
     rw[hA]at g2
     have nX:lU (some X0):=by rw[<-qU];trivial
     have u0:=eK (τ:=[.box (.agg [.int .u8 o,.int .u8 d,.int .i8 s,.bool th]),.box (.agg [.str [67,dg],.int .i64 O,.int .i64 Q,.int .i64 S,.bool th])]) g0
     have u1:=eK (τ:=[.box (.agg [.int .u8 o,.int .u8 d,.int .i8 s,.bool th]),.box (.agg [.str [67,dg],.int .i64 O,.int .i64 Q,.int .i64 S,.bool th])]) g1
     have u2:=eK (τ:=[.box (.agg [.int .u8 o,.int .u8 d,.int .i8 s,.bool th]),.box (.agg [.str [67,dg],.int .i64 O,.int .i64 Q,.int .i64 S,.bool th])]) g2
     have urow:=hrow.more (τ:=[.box (.agg [.int .u8 o,.int .u8 d,.int .i8 s,.bool th]),.box (.agg [.str [67,dg],.int .i64 O,.int .i64 Q,.int .i64 S,.bool th])])
     obtain⟨bQ,bK,hap,hr',hkeep,hnew⟩:=pY (P:=prog) (t:=34) (e:=76) (k:=5) (b:=48) (s:=z3) (xs:=A) (p:=.agg [.str [67,dg],.int .i64 O,.int .i64 Q,.int .i64 S,.bool th]) (tk:=.any) (tok:=z8)
      underlying34 (by kernel_rfl) rH (by rw[hAl];exact urow) (by omega) (by omega)
     have w0:=hkeep 0 _ (urow.ne u0 nX) u0
     have w1:=hkeep 1 _ (urow.ne u1 trivial) u1
     have w2:=hkeep 2 _ (urow.ne u2 trivial) u2
     rw[hAl]at hr'
     have gx:=An @q1 (An @hj (An @ha (An @qJ (An @g2 (An @u2 (An @hap (An @w2 (An @t1 (An @t2 (An @t3 (An @t4 (An @t5 (An @hO (An @hQ (An @hS (An @d2 (An @d3 (An @hdg (@hoq)))))))))))))))))))
     refine aC ?_
     clear gx
     have uX:2<bK.length:=(yA.1 w2).1
     refine bP.normal (m-1) (by omega) (by refine⟨j+1,5,bQ,bK.set 2 (.box (.agg [.str [79,114,103,97,110],W,Y,.slice 5 (A++[.agg [.str [67,dg],.int .i64 O,.int .i64 Q,.int .i64 S,.bool th]]) bQ])),?_⟩;exact bW (⟨by omega,.inr rfl,hr'.set w2 trivial,(by rw[yAd (by omega)];exact w0),(by rw[yAd (by omega)];exact w1),(by rw[hls,yBh,hA];exact yAj uX)⟩))
   ·have q1:¬(j:Int)<(C.length:Int):=by omega
    obtain rfl:j=C.length:=by omega
    have hzs:PD.strip (.slice z3 ((lK D.length C C.length).map Em.aP.U) z8)=.slice (sz 5 (lK D.length C C.length)) ((lK D.length C C.length).map Em.aP.U) .any:=by
     rw[PD.lG,show((lK D.length C C.length).map Em.aP.U).map PD.strip=(lK D.length C C.length).map Em.aP.U by rw[List.map_map];exact yBg fun x _=>Em.aP.str x]
     rcases hz with h|h
     ·rw[h];rfl
     ·rw[h];simp[sz]
    obtain⟨V,hV⟩:=gn (PD.slice z3 ((lK D.length C C.length).map Em.aP.U) z8)
    have hVp:V.plain=true:=by rw[<-hV];rfl
    rw[hV]at g2 hzs
    have hs1:∀x,(σ.set 1 x)[1]?=some x:=fun x=>yAj (yA.1 g1).1
    have qJ:=g0
    rw[<-qU]at qJ
    have hWq:=hWp
    have hYq:=hYp
    have hVq:=hVp
    unfold PD.plain at hWq hYq hVq
    have gx:=An @q1 (An @qJ (An @g1 (An @g2 (An @hWq (An @hYq (@hVq))))))
    refine aC ?_
    clear gx
    simp(disch:=first|omega|(simp;done)|(simp;omega)) [yAu,hs1,aMZ,hYs,hzs]<;>try rfl
end
section
def AJ:List (List UInt8)->List bM->Int
 |_,[]=>0
 |ns,r::t=>if wO r≠0 then wO r else if n8 ns r.name=true then 9 else AJ (ns++[r.name]) t
def GQ(rs:List bM):List (List UInt8)->List cU->Int
 |_,[]=>0
 |ns,d::t=>if lZ d.name=false then 8 else if n8 ns d.name=true then 9 else if DC rs d≠0 then DC rs d else GQ rs (ns++[d.name]) t
def kY(l:List cU):List (Int×Int):=l.map fun d=>(d.low,d.high)
def VU(o:bY):Int:=if o.cM.length=0 then 13 else if 8<o.cM.length then 4 else if GQ o.aX [] o.cM≠0 then GQ o.aX [] o.cM else DD (kY o.cM) o.iM
def jU(o:bY):Int:=if lZ o.name=false then 8 else if 60<o.aX.length then 4 else if AJ [] o.aX≠0 then AJ [] o.aX else VU o
def J0(d:cU):Prop:=uD d.name/\d.stops.length<=1000000/\∀s∈d.stops,OS s
def pL(o:bY):Prop:=uD o.name/\yH o.aX/\(o.cM.length<=1000000/\∀d∈o.cM,J0 d)/\o.iM.length<=1000000/\∀x∈o.iM,uD x.name
def NI:Nat->List PD->List aB->Option (PD×List aB):=entry (fQ Em.aT Em.div i64 fun o d=>dX (yH o.aX/\J0 d) (some (DC o.aX d)))
theorem aNB{o:bY}{d:cU}(h:yH o.aX)(hs:J0 d)(fl:Nat)(σ:List aB):NI fl [Em.aT.U o,Em.div.U d] σ=some (.int .i64 (DC o.aX d),σ):=by
 have e1:=Em.dC (Em.aT.str o)
 have e2:=Em.dC (Em.div.str d)
 unfold NI entry fQ
 simp only[e1,e2]
 rw[fB ⟨h,hs⟩]
 rfl
def NH:Nat->List PD->List aB->Option (PD×List aB):=entry (fQ DE lA i64 fun ks l=>dX (ks.length<=1000000/\l.length<=1000000/\∀x∈l,uD x.name) (some (DD ks l)))
theorem aNC{ks:List (Int×Int)}{l:List cF}{p:PD}(h1:ks.length<=1000000)(h2:l.length<=1000000)(h3:∀x∈l,uD x.name)(hp:p.strip=DE.U ks)(fl:Nat)(σ:List aB):NH fl [p,lA.U l] σ=some (.int .i64 (DD ks l),σ):=by
 have e1:=Em.dC hp
 have e2:=Em.dC (lA.str l)
 unfold NH entry fQ
 simp only[e1,e2]
 rw[fB ⟨h1,h2,h3⟩]
 rfl
variable{E:aD}(hU:aI E)
include hU
theorem aI8(h0:E 10=none)(h1:E 36=some CA)(h2:E 37=some IK)(h3:E 38=some uR)(h4:E 39=some NI)(h5:E 40=some NH)(o:bY)(ho:pL o) :
  aS prog E 10 [Em.aT.U o] (i64.U (jU o)):=by
 have hO:=fun d (hd:J0 d)=>aNB (o:=o) ho.2.1 hd
 obtain⟨on,rs,od,oc⟩:=o
 obtain⟨hon,hrs,⟨hdl,hdd⟩,hcl,hcn⟩:=ho
 simp only at hon hrs hdl hdd hcl hcn
 have hN:=GR hon
 simp only[fH,bJ]at hO
 unfold jU
 simp only[fH,bJ]
 cases c1:lZ on with
 |false=>
  rw[c1]at hN
  rw[if_pos rfl]
  apply aS.aK h0 func10 rfl
  focus(simp[show Tryz.f10.ntmps=_ from rfl,List.replicate];rfl)
  have gx:=An @h1 (@hN)
  refine lN ?_
  clear gx
  simp(disch:=first|omega|(simp;done)|(simp;omega)) [yAu]<;>try rfl
 |true=>
 rw[c1]at hN
 rw[if_neg (by simp)]
 by_cases c2:60<rs.length
 ·have c3:60<(rs.length:Int):=by omega
  rw[if_pos c2]
  apply aS.aK h0 func10 rfl
  focus(simp[show Tryz.f10.ntmps=_ from rfl,List.replicate];rfl)
  have gx:=An @h1 (An @hN (An @c2 (@c3)))
  refine lN ?_
  clear gx
  simp(disch:=first|omega|(simp;done)|(simp;omega)) [yAu]<;>try rfl
 have c3:¬60<(rs.length:Int):=by omega
 rw[if_neg c2]
 obtain⟨C,hC⟩:=gn (VU ⟨on,rs,od,oc⟩)
 rw[hC]
 obtain⟨B,hB⟩:=gn ((if AJ [] rs≠0 then AJ [] rs else C))
 rw[hB]
 have us:=OT
 apply aS.aK h0 func10 rfl
 focus(simp[show Tryz.f10.ntmps=_ from rfl,List.replicate];rfl)
 have gx:=An @h1 (An @hN (An @c2 (An @c3 (@us))))
 refine lN ?_
 clear gx
 obtain⟨X,hX⟩:=gn (aB.box (.agg [.str on,.slice (sz 6 rs) (rs.map Em.aR.U) .any,.slice (sz 5 od) (od.map Em.div.U) .any,.slice (sz 5 oc) (oc.map Em.aP.U) .any]))
 refine Wp.cJ (fun m fr σ=>∃(i:Nat) (σ1:List aB),∃gg:Nat->PD,(i+m=rs.length/\σ1[0]?=some X/\σ1[1]?=some (jM ((rs.take i).map bM.name))/\(if AJ ((rs.take i).map bM.name) (rs.drop i)≠0 then AJ ((rs.take i).map bM.name) (rs.drop i)else C)=B)/\fr=gg 0::.ptr 0 0::gg 2::.fD 1::gg 4::gg 5::gg 6::gg 7::gg 8::gg 9::gg 10::gg 11::gg 12::gg 13::gg 14::gg 15::gg 16::gg 17::gg 18::gg 19::gg 20::gg 21::gg 22::gg 23::gg 24::aX.U rs::.int .i64 rs.length::.int .i64 i::gg 28::gg 29::gg 30::gg 31::gg 32::gg 33::gg 34::gg 35::gg 36::gg 37::gg 38::gg 39::gg 40::gg 41::gg 42::gg 43::gg 44::gg 45::gg 46::gg 47::gg 48::gg 49::gg 50::gg 51::gg 52::gg 53::gg 54::gg 55::gg 56::gg 57::gg 58::gg 59::gg 60::gg 61::gg 62::gg 63::gg 64::gg 65::gg 66::gg 67::gg 68::gg 69::gg 70::gg 71::gg 72::gg 73::gg 74::gg 75::gg 76::gg 77::gg 78::gg 79::gg 80::gg 81::gg 82::gg 83::gg 84::gg 85::gg 86::gg 87::gg 88::[]/\σ=σ1) ?_ (rs.length) (by refine⟨0,[X,.map []],?_⟩;exact cW (⟨by omega,rfl,rfl,hB⟩) (by(first|rfl|(simp[hX];repeat(first|rfl|(apply And.intro)))|(simp[hX];done))) (by(first|rfl|(simp[hX];repeat(first|rfl|(apply And.intro)))|(simp[hX];done))))
 rintro m fr σ ⟨i,σ1,gg,hI,rfl,rfl⟩
 obtain⟨hm,hx0,xN,hs⟩:=hI
 by_cases hi:i<rs.length
 ·have q1:(i:Int)<(rs.length:Int):=by omega
  obtain⟨a,ha⟩:=gn (rs[i])
  have J1:rs.drop i=a::rs.drop (i+1):=by rw[yAq hi,ha]
  have htk:(rs.take (i+1)).map bM.name=(rs.take i).map bM.name++[a.name]:=by rw[List.take_succ_eq_append_getElem hi,ha,yBh];rfl
  have hE:=aDX (hrs.1 a (ha▸yAm hi))
  rw[J1]at hs
  unfold AJ at hs
  have fX:=(yA.1 hx0).1
  have lX:=(yA.1 xN).1
  have j0:∀x:aB,(σ++[x])[σ.length]?=some x:=fun x=>by simp
  obtain⟨a0,a1,a2,a3,a4,a5⟩:=a
  obtain⟨e,he⟩:=gn (wO ⟨a0,a1,a2,a3,a4,a5⟩)
  rw[he]at hE hs
  simp only[vT,bJ]at hE
  simp only at hs htk
  by_cases c4:e=0
  rotate_left
  ·simp only[ne_eq,c4,not_false_eq_true,if_true]at hs
   subst hs
   have gx:=An @q1 (An @hi (An @ha (An @j0 (An @h2 (An @hE (@c4))))))
   refine lN ?_
   clear gx
   simp(disch:=first|omega|(simp;done)|(simp;omega)) [yAu]<;>try rfl
  subst c4
  simp only[ne_eq,not_true_eq_false,if_false]at hs
  obtain⟨Z,hZ⟩:=gn (aB.box (.agg [.str a0,.str a1,.int .i64 a2,.int .i64 a3,.int .i64 a4,.slice (sz 1 a5) (a5.map i64.U) .any]))
  have hmz:(σ++[Z])[1]?=some (jM ((rs.take i).map bM.name)):=by rw[yAg lX];exact xN
  cases hb:n8 ((rs.take i).map bM.name) a0 with
  |true=>
   rw[hb]at hs
   simp only[if_true,show ¬(9:Int)=0 by omega,not_false_eq_true]at hs
   subst hs
   have hA:=fun fl=>VV (fl:=fl) hmz hb
   rw[<-hZ]at hA
   have gx:=An @q1 (An @hi (An @ha (An @j0 (An @h2 (An @hE (An @h3 (@hA)))))))
   refine lN ?_
   clear gx
   simp(disch:=first|omega|(simp;done)|(simp;omega)) [yAu]<;>try rfl
  |false=>
   rw[hb]at hs
   simp only[yAx,if_false]at hs
   have hA:=VW (fl:=0) hmz hb (yBf _)
   obtain⟨dY,iV⟩:=gn ((σ++[Z]).set 1 (jM ((rs.take i).map bM.name++[a0])))
   have t0:dY[0]?=some X:=by rw[<-iV,yAd (by omega),yAg fX];exact hx0
   have t2:dY[1]?=some (jM ((rs.take i).map bM.name++[a0])):=by rw[<-iV];exact yAj (by simp;omega)
   rw[iV]at hA
   rw[<-hZ]at hA
   clear iV
   have gx:=An @q1 (An @hi (An @ha (An @j0 (An @h2 (An @hE (An @h3 (@hA)))))))
   refine lN ?_
   clear gx
   refine bP.normal (m-1) (by omega) (by refine⟨i+1,dY,?_⟩;exact bW (⟨by omega,t0,by rw[htk];exact t2,by rw[htk];exact hs⟩))
 have q1:¬(i:Int)<(rs.length:Int):=by omega
 rw[yAs (by omega)]at hs
 have hs2:C=B:=hs
 rw[hs2]at hC
 clear hs hs2 hB
 have hx1:=hx0
 rw[<-hX]at hx1
 obtain⟨fX,hxe⟩:=yA.1 hx1
 unfold VU at hC
 simp only at hC
 by_cases c4:od.length=0
 ·rw[if_pos c4]at hC
  subst hC
  have c5:od=[]:=yAf c4
  subst c5
  have gx:=An @q1 (An @hx1 (An @fX (@hxe)))
  refine lN ?_
  clear gx
  simp(disch:=first|omega|(simp;done)|(simp;omega)) [yAu]<;>try rfl
 rw[if_neg c4]at hC
 have uC:¬od=[]:=fun h=>c4 (by rw[h];rfl)
 by_cases c5:8<od.length
 ·rw[if_pos c5]at hC
  subst hC
  have c6:8<(od.length:Int):=by omega
  have gx:=An @q1 (An @hx1 (An @fX (An @hxe (An @c4 (An @uC (An @c5 (@c6)))))))
  refine lN ?_
  clear gx
  simp(disch:=first|omega|(simp;done)|(simp;omega)) [yAu]<;>try rfl
 rw[if_neg c5]at hC
 have c6:¬8<(od.length:Int):=by omega
 have gx:=An @q1 (An @hx1 (An @fX (An @hxe (An @c4 (An @uC (An @c5 (An @c6 (@us))))))))
 refine lN ?_
 clear gx
 obtain⟨M,hM⟩:=gn (σ.length)
 obtain⟨VX,OU⟩:=gn (σ++[aB.map []])
 have g0:VX[0]?=some X:=by rw[<-OU,yAg fX];exact hx0
 have gM:VX[M]?=some (jM []):=by rw[<-OU,<-hM];simp;rfl
 have hM0:0<M:=by omega
 rw[OU,hM]
 clear OU hM q1
 refine Wp.cJ (fun m fr σ=>∃(j z:Nat) (tok:Tok) (σ1:List aB),∃gg:Nat->PD,(j+m=od.length/\σ1[0]?=some X/\σ1[M]?=some (jM ((od.take j).map cU.name))/\(kY (od.take j)=[]\/z=2)/\cV σ1 tok 68 2 j/\(if GQ rs ((od.take j).map cU.name) (od.drop j)≠0 then GQ rs ((od.take j).map cU.name) (od.drop j)else DD (kY od) oc)=B)/\fr=gg 0::.ptr 0 0::gg 2::.fD M::gg 4::gg 5::gg 6::gg 7::.slice z ((kY (od.take j)).map Em.bX.U) tok::gg 9::gg 10::gg 11::gg 12::gg 13::gg 14::gg 15::gg 16::gg 17::gg 18::gg 19::gg 20::gg 21::gg 22::gg 23::gg 24::gg 25::gg 26::gg 27::gg 28::gg 29::gg 30::gg 31::gg 32::gg 33::gg 34::gg 35::gg 36::gg 37::gg 38::gg 39::gg 40::gg 41::gg 42::gg 43::gg 44::gg 45::gg 46::gg 47::gg 48::gg 49::gg 50::gg 51::gg 52::gg 53::gg 54::gg 55::n9.U od::.int .i64 od.length::.int .i64 j::gg 59::gg 60::gg 61::gg 62::gg 63::gg 64::gg 65::gg 66::gg 67::gg 68::gg 69::gg 70::gg 71::gg 72::gg 73::gg 74::gg 75::gg 76::gg 77::gg 78::gg 79::gg 80::gg 81::gg 82::gg 83::gg 84::gg 85::gg 86::gg 87::gg 88::[]/\σ=σ1) ?_ (od.length) (by refine⟨0,0,.full,VX,?_⟩;exact cW (⟨by omega,g0,gM,.inl rfl,.inl ⟨rfl,rfl⟩,hC⟩) (by(first|rfl|(simp[kY];repeat(first|rfl|(apply And.intro)))|(simp[kY];done))) (by(first|rfl|(simp[kY];repeat(first|rfl|(apply And.intro)))|(simp[kY];done))))
 rintro m fr σ ⟨j,z,tok,σ1,gg,hI,rfl,rfl⟩
 obtain⟨hm2,hx2,xP,hzz,hrow,hs2⟩:=hI
 have hx3:=hx2
 rw[<-hX]at hx3
 obtain⟨aDY,hxe3⟩:=yA.1 hx3
 by_cases hj:j<od.length
 ·have q1:(j:Int)<(od.length:Int):=by omega
  obtain⟨a,ha⟩:=gn (od[j])
  have hda:J0 a:=hdd a (ha▸yAm hj)
  have J1:od.drop j=a::od.drop (j+1):=by rw[yAq hj,ha]
  have htk:(od.take (j+1)).map cU.name=(od.take j).map cU.name++[a.name]:=by rw[List.take_succ_eq_append_getElem hj,ha,yBh];rfl
  have hkk:kY (od.take (j+1))=kY (od.take j)++[(a.low,a.high)]:=by unfold kY;rw[List.take_succ_eq_append_getElem hj,ha,yBh];rfl
  have hkl:(kY (od.take j)).length=j:=by unfold kY;rw[yAe,yAt];omega
  have hnn:=GR hda.1
  have hE:=hO a hda
  rw[J1]at hs2
  unfold GQ at hs2
  have uX:=(yA.1 xP).1
  have j0:∀x:aB,(σ++[x])[σ.length]?=some x:=fun x=>by simp
  obtain⟨a0,a1,a2,a3,a4⟩:=a
  obtain⟨e,he⟩:=gn (DC rs ⟨a0,a1,a2,a3,a4⟩)
  simp only[he,A2,bJ]at hE
  rw[he]at hs2
  simp only at hs2 htk hnn hkk
  cases d1:lZ a0 with
  |false=>
   rw[d1]at hnn hs2
   simp only[if_true,show ¬(8:Int)=0 by omega,ne_eq,not_false_eq_true]at hs2
   subst hs2
   have gx:=An @q1 (An @hj (An @ha (An @j0 (An @h1 (@hnn)))))
   refine lN ?_
   clear gx
   simp(disch:=first|omega|(simp;done)|(simp;omega)) [yAu]<;>try rfl
  |true=>
  rw[d1]at hnn hs2
  simp only[Bool.true_eq_false,if_false]at hs2
  obtain⟨Z,hZ⟩:=gn (aB.box (.agg [.str a0,.bool a1,.int .i64 a2,.int .i64 a3,.slice (sz 4 a4) (a4.map Em.stop.U) .any]))
  have hmz:(σ++[Z])[M]?=some (jM ((od.take j).map cU.name)):=by rw[yAg uX];exact xP
  cases hb:n8 ((od.take j).map cU.name) a0 with
  |true=>
   rw[hb]at hs2
   simp only[if_true,show ¬(9:Int)=0 by omega,ne_eq,not_false_eq_true]at hs2
   subst hs2
   have hA:=fun fl=>VV (fl:=fl) hmz hb
   rw[<-hZ]at hA
   have gx:=An @q1 (An @hj (An @ha (An @j0 (An @h1 (An @hnn (An @h3 (@hA)))))))
   refine lN ?_
   clear gx
   simp(disch:=first|omega|(simp;done)|(simp;omega)) [yAu]<;>try rfl
  |false=>
  rw[hb]at hs2
  simp only[yAx,if_false]at hs2
  have hA:=VW (fl:=0) hmz hb (yBf _)
  obtain⟨dY,iV⟩:=gn ((σ++[Z]).set M (jM ((od.take j).map cU.name++[a0])))
  have t0:dY[0]?=some X:=by rw[<-iV,yAd (by omega),yAg aDY];exact hx2
  have t2:dY[M]?=some (jM ((od.take j).map cU.name++[a0])):=by rw[<-iV];exact yAj (by simp;omega)
  have tz:dY[σ.length]?=some Z:=by rw[<-iV,yAd (by omega)];exact j0 Z
  have tr:cV dY tok 68 2 j:=by rw[<-iV];exact hrow.more.set hmz trivial
  rw[iV]at hA
  rw[<-hZ]at hA tz
  have OV:=t0
  rw[<-hX]at OV
  obtain⟨l0,te0⟩:=yA.1 OV
  obtain⟨l1,te1⟩:=yA.1 tz
  clear iV
  by_cases d2:e=0
  rotate_left
  ·simp only[ne_eq,d2,not_false_eq_true,if_true]at hs2
   subst hs2
   have gx:=An @q1 (An @hj (An @ha (An @j0 (An @h1 (An @hnn (An @h3 (An @hA (An @OV (An @l0 (An @te0 (An @tz (An @l1 (An @te1 (An @h4 (An @hE (@d2))))))))))))))))
   refine lN ?_
   clear gx
   simp(disch:=first|omega|(simp;done)|(simp;omega)) [yAu]<;>try rfl
  subst d2
  simp only[ne_eq,not_true_eq_false,if_false]at hs2
  obtain⟨A,hAA⟩:=gn ((kY (od.take j)).map Em.bX.U)
  have hAl:A.length=j:=by rw[<-hAA,yAe,hkl]
  obtain⟨bQ,bK,hap,hr',hkeep,hnew⟩:=pY (P:=prog) (t:=107) (e:=68) (k:=2) (b:=16) (s:=z) (xs:=A) (p:=.agg [.int .i64 a2,.int .i64 a3]) (tk:=.any) (tok:=tok) (σ:=dY)
   underlying107 (by kernel_rfl) (hzz.imp (fun h=>by rw[<-hAA,h];rfl) id) (by rw[hAl];exact tr) (by omega) (by omega)
  have nX:lU (some X):=by rw[<-hX];trivial
  have w0:=hkeep 0 _ (tr.ne t0 nX) t0
  have w2:=hkeep M _ (tr.ne t2 trivial) t2
  rw[hAl]at hr'
  have gx:=An @q1 (An @hj (An @ha (An @j0 (An @h1 (An @hnn (An @h3 (An @hA (An @OV (An @l0 (An @te0 (An @tz (An @l1 (An @te1 (An @h4 (An @hE (An @hAA (@hap)))))))))))))))))
  refine lN ?_
  clear gx
  have hK:(kY (od.take (j+1))).map Em.bX.U=A++[.agg [.int .i64 a2,.int .i64 a3]]:=by rw[hkk,yBh,hAA];rfl
  refine bP.normal (m-1) (by omega) (by refine⟨j+1,2,bQ,bK,?_⟩;exact cW (⟨by omega,w0,by rw[htk];exact w2,.inr rfl,hr',by rw[htk];exact hs2⟩) (by(first|rfl|(simp[hK];repeat(first|rfl|(apply And.intro)))|(simp[hK];done))) (by(first|rfl|(simp[hK];repeat(first|rfl|(apply And.intro)))|(simp[hK];done))))
 ·have q1:¬(j:Int)<(od.length:Int):=by omega
  obtain rfl:j=od.length:=by omega
  rw[List.drop_length]at hs2
  have hs3:DD (kY od) oc=B:=hs2
  rw[List.take_length]at hzz ⊢
  have hkn:kY od≠[]:=fun h=>uC (by simpa [kY]using h)
  have gL:z=2:=hzz.resolve_left hkn
  subst gL
  have hst:(PD.slice 2 ((kY od).map Em.bX.U) tok).strip=DE.U (kY od):=by
   rw[PD.lG,show((kY od).map Em.bX.U).map PD.strip=(kY od).map Em.bX.U by rw[List.map_map];exact yBg fun x _=>Em.bX.str x]
   rw[bJ]
   simp[sz,hkn]
  have hE:=aNC (ks:=kY od) (l:=oc) (by unfold kY;rw[yAe];exact hdl) hcl hcn hst
  rw[hs3]at hE
  simp only[bJ]at hE
  have gx:=An @q1 (An @hx3 (An @aDY (An @hxe3 (An @h5 (@hE)))))
  refine lN ?_
  clear gx
  simp(disch:=first|omega|(simp;done)|(simp;omega)) [yAu]<;>try rfl
end
end Go.Kz
namespace Go.Kz
open Go Go.Proofs
theorem JN{α:Type}{l:List α}{i:Nat}(h:i<l.length)(d:α):l.getD i d∈l:=by
 rw[yBa,yAh h]
 exact yAm h
structure aOR (p:oJ):Prop where
 r1:1<=p.aX.length
 r3:p.aX.length<=3
 d1:1<=p.cM.length
 d3:p.cM.length<=3
 c3:p.iM.length<=3
 s3:∀b∈p.cM,b.stops.length<=3
theorem NX{p:oJ}(h:mP p=true):aOR p:=by
 simp only[mP,yAr,decide_eq_true_eq]at h
 obtain⟨⟨⟨⟨⟨hR1,hR3⟩,OL⟩,hD3⟩,hC3⟩,VA⟩:=h
 exact⟨hR1,hR3,OL,hD3,hC3,fun b hb=>by simpa using yAn.1 VA b hb⟩
theorem UL{l:List nM}{n:Nat}(hn:n<=l.length){r:bM}(h:r∈eY l n):∃x∈l,∃i,i<n/\r=oF x i:=by
 obtain⟨j,hj,rfl⟩:=yAw.1 h
 have hj':=List.mem_range.1 hj
 exact⟨_,JN (by omega) _,j,hj',rfl⟩
theorem NZ{rs:List bM}{l:List qM}{n:Nat}(hn:n<=l.length){r:cU}(h:r∈lJ rs l n):∃x∈l,∃i,i<n/\r=oS rs x i:=by
 obtain⟨j,hj,rfl⟩:=yAw.1 h
 have hj':=List.mem_range.1 hj
 exact⟨_,JN (by omega) _,j,hj',rfl⟩
theorem UM{rs:List bM}{lo hg:Int}{l:List oY}{n:Nat}(hn:n<=l.length){r:dG}(h:r∈tW rs lo hg l n):∃x∈l,∃i,i<n/\r=rG rs lo hg x i:=by
 obtain⟨j,hj,rfl⟩:=yAw.1 h
 have hj':=List.mem_range.1 hj
 exact⟨_,JN (by omega) _,j,hj',rfl⟩
theorem I6(rs:List bM)(l:List qM)(n:Nat):(lJ rs l n).length=n:=by simp[lJ]
theorem NY(l:List nM)(n:Nat):(eY l n).length=n:=by simp[eY]
theorem UK(k:Nat)(l:List rM)(n:Nat):(lK k l n).length=n:=by simp[lK]
theorem UN(k n sh lo hi at_ m other:Int):(pS k n sh lo hi at_ m other).length<=2/\∀g∈pS k n sh lo hi at_ m other,g.nO.length<=2:=by
 unfold pS
 split
 ·simp
 split
 ·split
  ·constructor
   ·simp
   ·intro g hg
    simp only[List.cons_append,List.nil_append,List.mem_cons,List.not_mem_nil,or_false]at hg
    rcases hg with rfl|rfl
    ·simp
    ·simp only;split<;>simp
  ·constructor
   ·simp
   ·intro g hg
    simp only[List.nil_append,List.mem_cons,List.not_mem_nil,or_false]at hg
    subst hg
    simp only;split<;>simp
 split
 ·simp
 ·simp
structure Small (o:bY):Prop where
 nm:o.name.length<=100
 rl:o.aX.length<=60
 rk:∀r∈o.aX,r.name.length<=100/\r.jN.length<=100/\r.fJ.length<=100
 dl:o.cM.length<=60
 dv:∀d∈o.cM,d.name.length<=100/\d.stops.length<=100/\∀s∈d.stops,s.name.length<=100/\s.fK.length<=100/\∀g∈s.fK,g.nO.length<=100
 cl:o.iM.length<=60
 cp:∀c∈o.iM,c.name.length<=100
theorem aC7(p:oJ)(hf:mP p=true):Small (kN p):=by
 obtain⟨r1,r3,d1,d3,c3,s3⟩:=NX hf
 unfold kN
 refine⟨by simp,by simp only[NY];omega,fun r hr=>?_,by simp only[I6];omega,fun d hd=>?_,by simp only[UK];omega,fun c hc=>?_⟩
 ·obtain⟨x,hx,i,_,rfl⟩:=UL (yAk _) hr
  refine⟨by simp[oF],?_,by simp[oF,uW];omega⟩
  unfold oF zV
  simp only
  rw[yBa]
  have h:∀t∈GF,t.length<=100:=by decide
  cases e:GF[(x.jN%3).toNat]? with
  |none=>simp
  |some t=>exact h t (yBe e)
 ·obtain⟨b,hb,i,_,rfl⟩:=NZ (yAk _) hd
  refine⟨by simp[oS],?_,fun s hs=>?_⟩
  ·simp only[oS,tW,yAe,List.length_range]
   have:=s3 b hb
   omega
  ·obtain⟨x,hx,j,_,rfl⟩:=UM (yAk _) hs
   obtain⟨k1,k2⟩:=UN (x.kind%6) (x.aR%(eY p.aX p.aX.length).length) (nD (gN x.bX) (oG (eY p.aX p.aX.length) (x.aR%(eY p.aX p.aX.length).length).toNat)) (36+b.low%12) (36+b.low%12+b.keys%9) (36+b.low%12+x.at_%(36+b.low%12+b.keys%9-(36+b.low%12)+1))
    ((x.aR%(eY p.aX p.aX.length).length+1)%(eY p.aX p.aX.length).length) (nD (gN x.bX) (oG (eY p.aX p.aX.length) ((x.aR%(eY p.aX p.aX.length).length+1)%(eY p.aX p.aX.length).length).toNat))
   unfold rG
   exact⟨by simp,by simp only;omega,fun g hg=>by have:=k2 g hg;omega⟩
 ·obtain⟨j,hj,rfl⟩:=yAw.1 hc
  simp[tY]
theorem Small.pL:True:=trivial
theorem Small.nP{o:bY}(h:Small o):nP o:=by
 obtain⟨h1,h2,h3,h4,h5,h6,h7⟩:=h
 refine⟨⟨by omega,fun r hr=>?_⟩,⟨by omega,fun d hd=>?_⟩,by unfold G0;omega⟩
 ·obtain⟨a,b,c⟩:=h3 r hr
  unfold s9 wV
  omega
 ·obtain⟨a,b,c⟩:=h5 d hd
  refine⟨by omega,fun s hs=>?_⟩
  obtain⟨e,f,g⟩:=c s hs
  exact⟨by omega,fun q hq=>by have:=g q hq;unfold yL GZ;omega⟩
end Go.Kz
end
