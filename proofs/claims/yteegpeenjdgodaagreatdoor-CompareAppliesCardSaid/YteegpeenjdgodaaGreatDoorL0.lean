/- Steps of the proof. -/
import Derived.Test.YteegpeenjdgodaaGreatDoorP5d
import Derived.Test.YteegpeenjdgodaaGreatDoorF1
import Derived.Test.YteegpeenjdgodaaGreatDoorP9
set_option linter.all false
set_option maxHeartbeats 40000000
set_option maxRecDepth 100000
open Go.Proofs.Tryz
noncomputable section
namespace Go.Kz
open Go Go.Proofs
abbrev M4:Type:=Int×Int×Int×Int
def S7(i:Nat)(k:Int)(tl:List cJ):List cJ->Nat->List M4
 | [],_=>[]
 |s::r,j=>(if 0<=eX (rX s.name) tl 0 then [((i:Int),(j:Int),k,eX (rX s.name) tl 0)]else [])++S7 i k tl r (j+1)
def EL(bd:List bI):List bI->Nat->List M4
 | [],_=>[]
 |d::r,i=>(if eX (pY d.name) bd 0<0 then []else S7 i (eX (pY d.name) bd 0) (bd.getD (eX (pY d.name) bd 0).toNat ⟨[],false,0,0,[]⟩).stops d.stops 0)++EL bd r (i+1)
section
def bV.m4:bV M4:=((bV.one i64).pair ((bV.one i64).pair ((bV.one i64).pair (.one i64))))
def Em.m4:Em M4:=.agg .m4
@[simp] theorem aWL{r:M4}:Em.m4.aB r=.agg [.int .i64 r.1,.int .i64 r.2.1,.int .i64 r.2.2.1,.int .i64 r.2.2.2]:=rfl
abbrev S5:Em (List M4):=Em.m4.list 4
def B9:Nat->List PD->List aA->Option (PD×List aA):=entry (cK Em.bB i64 λo=>dY (cL o) (some (bT o)))
theorem EM{o:aV}(h:cL o)(fl:Nat)(σ:List aA):B9 fl [Em.bB.aB o] σ=some (.int .i64 (bT o),σ):=by
 have e1:=Em.cT (Em.bB.str o);unfold B9 entry cK;exact mu
theorem aGb{a i B:Nat}(h:a<=i*B):a<=(i+1)*B:=yAQ h (yBI B (yCf i))
theorem aRK{a i j n B:Nat}(h:a<=i*B+j)(hj:j<=n)(hn:n<=B):a<=(i+1)*B:=by
 rw[yBV];omega
theorem aRL{L:List M4}{x:M4}{i j:Nat}(h:L.length<=i*1000000+j):(L++[x]).length<=i*1000000+(j+1):=by
 rw[yAa,yAT,yAO];omega
theorem aRM{a i j:Nat}(h:a<=i*1000000+j):a<=i*1000000+(j+1):=Cj
variable{E:aE}(hU:aJ E)
include hU
theorem aMD(h0:E 20=none)(h1:E 27=some B9)(h2:E 52=some DR)(h3:E 54=some DS)(a b:aV)(ha:cL a)(hb:cL b)(ea:bT a=0)(eb:bT b=0) :
  aI prog E 20 [Em.bB.aB a,Em.bB.aB b] (.aH [S5.aB (EL b.aD a.aD 0),.int .i64 0]):=by
 have hA:=EM ha;have hB:=EM hb;rw[ea]at hA;rw[eb]at hB;obtain⟨an,ar,ad,ac⟩:=a;obtain⟨bn,br,bd,bc⟩:=b;simp only[dT,aU]at hA hB;simp only[dT,aU];obtain⟨W,hW⟩:=gn (EL bd ad 0);simp only[hW];obtain⟨⟨hon,hrs⟩,hla,hlb⟩:(True/\True)/\ad.length<=1000000/\bd.length<=1000000:=⟨⟨trivial,trivial⟩,ha.2.2.1.1,hb.2.2.1.1⟩;have hda:∀d∈ad,d.stops.length<=1000000:=λd hd=>(ha.2.2.1.2 d hd).2.1
 have hdb:∀d∈bd,d.stops.length<=1000000:=λd hd=>(hb.2.2.1.2 d hd).2.1
 obtain⟨A,hAA⟩:=gn (aA.box (.agg [.str an,.slice (sz 6 ar) (ar.map Em.aL.aB) .any,.slice (sz 5 ad) (ad.map Em.div.aB) .any,.slice (sz 5 ac) (ac.map Em.aZ.aB) .any]));obtain⟨B,hBB⟩:=gn (aA.box (.agg [.str bn,.slice (sz 6 br) (br.map Em.aL.aB) .any,.slice (sz 5 bd) (bd.map Em.div.aB) .any,.slice (sz 5 bc) (bc.map Em.aZ.aB) .any]));refine aI.aG 73 h0 func20 (h:=?_);refine aC trivial ?_;refine Wp.loop ?_;refine aC (A2 h1 hA) ?_;refine Wp.loop ?_;refine aC (A2 h1 hB) ?_;refine Wp.loop ?_;refine aC trivial ?_;refine Wp.dJ (λm fr σ=>∃(i z:Nat) (L:List M4) (tok:Tok) (σ1:List aA),∃gg:Nat->PD,(i+m=ad.length/\σ1[0]?=some A/\σ1[1]?=some B/\(L=[]\/z=4)/\lK σ1 tok 74 4 L.length/\L++EL bd (ad.drop i) i=W/\L.length<=i*1000000)/\fr=gg 0::gg 1::.ptr 0 0::.ptr 1 0::gg 4::gg 5::gg 6::gg 7::gg 8::.slice z (L.map Em.m4.aB) tok::gg 10::gg 11::gg 12::gg 13::gg 14::gg 15::gg 16::gg 17::gg 18::gg 19::gg 20::gg 21::gg 22::gg 23::gg 24::gg 25::gg 26::gg 27::gg 28::tD.aB ad::.int .i64 ad.length::.int .i64 i::gg 32::gg 33::gg 34::gg 35::gg 36::gg 37::gg 38::gg 39::gg 40::gg 41::gg 42::gg 43::gg 44::gg 45::gg 46::gg 47::gg 48::gg 49::gg 50::gg 51::gg 52::gg 53::gg 54::gg 55::gg 56::gg 57::gg 58::gg 59::gg 60::gg 61::gg 62::gg 63::gg 64::gg 65::gg 66::gg 67::gg 68::gg 69::gg 70::gg 71::gg 72::[]/\σ=σ1) ?_ (ad.length) (by refine⟨0,0,[],.full,[A,B,A,B],?_⟩;exact fQ (⟨Cj,rfl,rfl,.inl rfl,.inl ⟨rfl,rfl⟩,hW,yAF _⟩) (A2 hAA hBB))
 rintro m fr σ ⟨i,z,L,tok,σ1,gg,hI,rfl,rfl⟩
 obtain⟨hm,g0,g1,hz,hrow,hs,hLl⟩:=hI
 by_cases hi:i<ad.length
 .have q1:(i:Int)<(ad.length:Int):=by omega
  obtain⟨d,hd⟩:=gn (ad[i]);have hdl:=hda d (hd▸yAm hi);have dX:ad.drop i=d::ad.drop (i+1):=by rw[yAq hi,hd]
  rw[dX]at hs;unfold EL at hs;obtain⟨d0,d1,d2,d3,ds⟩:=d;simp only at hs hdl;obtain⟨ρ,hρ⟩:=gn (σ++[aA.box (.agg [.str d0,.bool d1,.int .i64 d2,.int .i64 d3,.slice (sz 4 ds) (ds.map Em.stop.aB) .any])]);obtain⟨N,hN⟩:=gn (σ.length);have gN:ρ[N]?=some (.box (.agg [.str d0,.bool d1,.int .i64 d2,.int .i64 d3,.slice (sz 4 ds) (ds.map Em.stop.aB) .any])):=by rw[<-hρ,<-hN];simp
  have hE:=aRN (l:=bd) hlb gN 0;obtain⟨τ,eC⟩:=gn (ρ++(bd.take (lH (pY d0) bd)).map AM);have k0:τ[0]?=some A:=by rw[<-eC,<-hρ];exact bG (bG g0)
  have k1:τ[1]?=some B:=by rw[<-eC,<-hρ];exact bG (bG g1)
  have kN:τ[N]?=some (.box (.agg [.str d0,.bool d1,.int .i64 d2,.int .i64 d3,.slice (sz 4 ds) (ds.map Em.stop.aB) .any])):=by rw[<-eC];exact bG gN
  have pX:lK τ tok 74 4 L.length:=by rw[<-eC,<-hρ];exact hrow.more.more
  have k1':=k1;rw[<-hBB]at k1';have AN:ρ[1]?=some B:=by rw[<-hρ];exact bG g1
  rw[<-hBB]at AN;rw[eC]at hE;simp only[aU]at hE;rw[<-hN]at hE gN;rw[<-hρ]at hE gN AN
  by_cases hk:eX (pY d0) bd 0<0
  .rw[yAJ hk,yAV]at hs;refine aC (A7 q1 hi @hd AN h2 hE @hk) ?_;refine bM.normal (m-1) Cj (by refine⟨i+1,z,L,tok,τ,?_⟩;exact cE (⟨Cj,k0,k1,hz,pX,hs,aGb hLl⟩))
  .rw[yAI hk]at hs;obtain⟨K,hK⟩:∃K:Nat,eX (pY d0) bd 0=(K:Int):=⟨_,(Int.toNat_of_nonneg Cj).symm⟩;have hKl:K<bd.length:=by rcases aFV (pY d0) bd 0 with h|h<;>omega
   have qK:(K:Int)<(bd.length:Int):=Cj;obtain⟨e,he⟩:=gn (bd[K]);have hed:bd.getD K ⟨[],false,0,0,[]⟩=e:=by rw[yAA,yAh hKl,he];rfl
   have hel:=hdb e (he▸yAm hKl);rw[hK]at hE hs hk;rw[yBp,hed]at hs;obtain⟨e0,e1,e2,e3,es⟩:=e;simp only at hs hel;rw[<-hN]at kN;obtain⟨l0,NI⟩:=yA.1 kN;have hK0:¬(K:Int)<0:=Cj;refine aC (A10 q1 hi @hd AN h2 hE hK0 kN l0 NI) ?_;obtain⟨R,hR⟩:=gn (EL bd (ad.drop (i+1)) (i+1));rw[hR]at hs;obtain⟨M,hM⟩:∃M,M=m:=⟨_,rfl⟩;clear hE gN kN NI l0 hN eC hρ k1' AN g0 g1 hrow;refine Wp.dJ (λm fr σ=>∃(j z2:Nat) (L2:List M4) (G5:Tok) (σ2:List aA),∃gg:Nat->PD,(j+m=ds.length/\σ2[0]?=some A/\σ2[1]?=some B/\(L2=[]\/z2=4)/\lK σ2 G5 74 4 L2.length/\L2++(S7 i (K:Int) es (ds.drop j) j++R)=W/\L2.length<=i*1000000+j)/\fr=gg 0::gg 1::.ptr 0 0::.ptr 1 0::gg 4::gg 5::gg 6::gg 7::gg 8::.slice z2 (L2.map Em.m4.aB) G5::.int .i64 i::gg 11::.int .i64 K::gg 13::gg 14::gg 15::gg 16::gg 17::gg 18::gg 19::gg 20::gg 21::gg 22::gg 23::gg 24::gg 25::gg 26::gg 27::gg 28::tD.aB ad::.int .i64 ad.length::.int .i64 i::gg 32::gg 33::gg 34::gg 35::gg 36::gg 37::gg 38::gg 39::gg 40::gg 41::gg 42::oC.aB ds::.int .i64 ds.length::.int .i64 j::gg 46::gg 47::gg 48::gg 49::gg 50::gg 51::gg 52::gg 53::gg 54::gg 55::gg 56::gg 57::gg 58::gg 59::gg 60::gg 61::gg 62::gg 63::gg 64::gg 65::gg 66::gg 67::gg 68::gg 69::gg 70::gg 71::gg 72::[]/\σ=σ2) ?_ (ds.length) (by refine⟨0,z,L,tok,τ,?_⟩;exact cE (⟨Cj,k0,k1,hz,pX,hs,yAQ hLl (Nat.le_add_right _ 0)⟩))
   rintro m fr σ ⟨j,z2,L2,G5,σ2,gg,hI,rfl,rfl⟩
   obtain⟨hm2,f0,f1,mB,aGx,hs2,aAN⟩:=hI
   by_cases hj:j<ds.length
   .have q2:(j:Int)<(ds.length:Int):=by omega
    obtain⟨s,hsj⟩:=gn (ds[j]);have hc2:ds.drop j=s::ds.drop (j+1):=by rw[yAq hj,hsj]
    rw[hc2]at hs2;unfold S7 at hs2;obtain⟨s0,s1,s2,ss⟩:=s;simp only at hs2;obtain⟨ρ,hρ⟩:=gn (σ++[aA.box (.agg [.str s0,.int .i64 s1,.int .i64 s2,.slice (sz 3 ss) (ss.map Em.eZ.aB) .any])]);have gN:ρ[σ.length]?=some (.box (.agg [.str s0,.int .i64 s1,.int .i64 s2,.slice (sz 3 ss) (ss.map Em.eZ.aB) .any])):=by rw[<-hρ];simp
    have hE:=aRO (l:=es) hel gN 0;obtain⟨lY,eC⟩:=gn (ρ++(es.take (lH (rX s0) es)).map AO);have k0:lY[0]?=some A:=by rw[<-eC,<-hρ];exact bG (bG f0)
    have k1:lY[1]?=some B:=by rw[<-eC,<-hρ];exact bG (bG f1)
    have S8:lK lY G5 74 4 L2.length:=by rw[<-eC,<-hρ];exact aGx.more.more
    have AN:ρ[1]?=some B:=by rw[<-hρ];exact bG f1
    rw[<-hBB]at AN;rw[eC]at hE;simp only[aU]at hE;rw[<-hρ]at hE AN;obtain⟨n,hn⟩:=gn (eX (rX s0) es 0);rw[hn]at hE hs2
    by_cases hn0:0<=n
    .rw[yAJ hn0]at hs2;have S9:(L2.map Em.m4.aB).length=L2.length:=yAe _;obtain⟨jK,bR,hap,hr',hkeep,hnew⟩:=E8 (P:=prog) (t:=69) (e:=74) (k:=4) (b:=32) (s:=z2) (xs:=L2.map Em.m4.aB) (p:=.agg [.int .i64 i,.int .i64 j,.int .i64 K,.int .i64 n]) (tk:=.any) (tok:=G5) (σ:=lY)
      underlying69 Cl (mB.imp (λh=>Eb) id) (by rw[S9];exact S8) (by rw[S9];omega) (by rw[S9];omega)
     have nA:mK (some A):=by rw[<-hAA];trivial
     have nB:mK (some B):=by rw[<-hBB];trivial
     have w0:=hkeep 0 _ (S8.ne k0 nA) k0;have w1:=hkeep 1 _ (S8.ne k1 nB) k1;rw[S9]at hr';refine aC (A11 q2 hj hsj AN h3 hE hn0 hKl qK @he hap) ?_;have hLM:(L2++[((i:Int),(j:Int),(K:Int),n)]).map Em.m4.aB=L2.map Em.m4.aB++[.agg [.int .i64 i,.int .i64 j,.int .i64 K,.int .i64 n]]:=by rw[yAH];rfl
     refine bM.normal (m-1) Cj (by refine⟨j+1,4,L2++[((i:Int),(j:Int),(K:Int),n)],jK,bR,?_⟩;exact fQ (⟨Cj,w0,w1,.inr rfl,by simpa using hr',by rw[<-hs2];simp,aRL aAN⟩) @hLM)
    .rw[yAI hn0,yAV]at hs2;refine aC (A10 q2 hj hsj AN h3 hE hn0 hKl qK @he) ?_;refine bM.normal (m-1) Cj (by refine⟨j+1,z2,L2,G5,lY,?_⟩;exact cE (⟨Cj,k0,k1,mB,S8,hs2,aRM aAN⟩))
   .have q2:¬(j:Int)<(ds.length:Int):=by omega
    rw[yAs Cj]at hs2;have hs3:L2++R=W:=hs2;rw[<-hR]at hs3;refine aC q2 ?_;refine bM.normal (M-1) Cj (by refine⟨i+1,z2,L2,G5,σ,?_⟩;exact cE (⟨Cj,f0,f1,mB,aGx,hs3,aRK aAN Cj hdl⟩))
 .have q1:¬(i:Int)<(ad.length:Int):=by omega
  rw[yAs Cj]at hs;have hs2:L=W:=by
   have:EL bd [] i=[]:=rfl;rw[this,yAl]at hs;exact hs
  subst hs2;have hst:(PD.slice z (L.map Em.m4.aB) tok).strip=.slice (sz 4 L) (L.map Em.m4.aB) .any:=by
   rw[PD.sA,show(L.map Em.m4.aB).map PD.strip=L.map Em.m4.aB by rw[yBE];exact yAG λx _=>Em.m4.str x];rcases hz with h|h
   .subst h;rfl
   .subst h
    by_cases hL:L=[]
    .subst hL;rfl
    .simp[sz,hL]
  refine aC q1 ?_;refine⟨_,_,rfl,?_⟩;show PD.aH [(PD.slice z (L.map Em.m4.aB) tok).strip,.int .i64 0]=_
  rw[hst]
end
section
def gCm:Nat->List PD->List aA->Option (PD×List aA):=entry (eM Em.bB Em.bB (Em.nT S5 i64) λa b=>dY (cL a/\cL b/\bT a=0/\bT b=0) (some (EL b.aD a.aD 0,0)))
def MH:Nat->List PD->List aA->Option (PD×List aA):=entry (cK Em.dQ Em.bool λp=>some (mF p))
theorem S6(p:pF)(fl:Nat)(σ:List aA):MH fl [Em.dQ.aB p] σ=some (.bool (mF p),σ):=by
 have e1:=Em.cT (Em.dQ.str p);unfold MH entry cK;simp only[e1];rfl
def zV:Nat->List PD->List aA->Option (PD×List aA):=entry (cK Em.dQ Em.bB λp=>dY (tA p/\mF p=true) (some (fU p)))
theorem J0{p:pF}(h:tA p)(hf:mF p=true)(fl:Nat)(σ:List aA):zV fl [Em.dQ.aB p] σ=some (Em.bB.aB (fU p),σ):=by
 have e1:=Em.cT (Em.dQ.str p);unfold zV entry cK;simp only[e1];rw[fM ⟨h,hf⟩]
abbrev RE:Nat->List PD->List aA->Option (PD×List aA):=entry (xI Em.bool (some true))
theorem aGw(fl:Nat)(σ:List aA):RE fl [] σ=some (.bool true,σ):=rfl
variable{E:aE}(hU:aJ E)
include hU
end
theorem aF.le{P:Program}{E:aE}{f:FuncId}{g g':Jk}(h:aF P (E.add f g))(hE:aF P E)(hg:∀fl args σ x,g' fl args σ=some x->g fl args σ=some x):aF P (E.add f g'):=by
 intro F fl f1 g1 args c vs p σ' hF h1 hgo hs hX hv;unfold aE.add at h1;split at h1
 .rename_i e;subst e;simp only[yAb]at h1;subst h1;exact h hF (show E.add f1 g f1=some g from yAJ rfl) (hg _ _ _ _ hgo) hs hX hv
 .exact hE hF h1 hgo hs hX hv
theorem aGu{args args':Jq}(h:args.map PD.strip=args')(h2:args'.map PD.strip=args'):∀rs:List (List PD×PD),sL rs args=sL rs args'
 | []=>rfl
 |r::rs=>by
  unfold sL;rw[h,h2,aGu h h2 rs]
theorem aRI:(EA.all λa=>rV.all λb=>match sL N2 [Em.dC.aB a,Em.dC.aB b]with|some p=>uA 40 p (.aH [.int .i64 (w8 a b),.int .i64 0])|none=>false)=true:=Cp
theorem aMV:aF prog (rW.add 69 GC):=by
 refine aRJ.le aGv λfl args σ x h=>?_
 unfold GC entry eM at h;split at h
 rotate_left
 .cases h
 rename_i p hp;simp only[yAb]at h;subst h;split at hp
 rotate_left
 .cases hp
 rename_i p1 p2;split at hp
 rotate_left
 .cases hp
 rename_i a b ha hb;split at hp
 rotate_left
 .cases hp
 rename_i z hz;obtain⟨⟨h1,h2⟩,e⟩:=fO hz;cases e;simp only[yAb]at hp;subst hp;have e1:=Em.oD ha;have e2:=Em.oD hb;have hs:[p1,p2].map PD.strip=[Em.dC.aB a,Em.dC.aB b]:=by simp only[yAW,yC,e1,e2]
 have hs2:[Em.dC.aB a,Em.dC.aB b].map PD.strip=[Em.dC.aB a,Em.dC.aB b]:=by simp only[yAW,yC,Em.dC.str]
 rw[aGu hs hs2];have ht:=yAn.1 (yAn.1 aRI a h1) b h2;split at ht
 .rename_i q hq;rw[hq];have:=LR 40 _ _ ht;rw[this];rfl
 .cases ht
theorem aF.aEh{E:aE}(hE:aF prog E){β:Type}{r:Em β}{F:List Int->β}{f:FuncId}(h:∀l:List Int,l.length<=1000000->aI prog E f [gH.aB l,.func 126 []] (r.aB (F l))) :
  aF prog (E.add f (entry (λargs=>match args with | [p,.func g []]=>if g=126 then cK gH r (λl=>dY (l.length<=1000000) (some (F l))) [p]else none|_=>none))):=by
 refine hE.AV bK λargs p hg=>?_
 split at hg
 rotate_left
 .cases hg
 rename_i p1 g1;split at hg
 rotate_left
 .cases hg
 rename_i e;subst e;simp only[cK]at hg;split at hg
 rotate_left
 .cases hg
 rename_i x hx;split at hg
 rotate_left
 .cases hg
 rename_i z hz;simp only[yAb]at hg;subst hg;obtain⟨rx,e⟩:=fO hz;cases e;have e1:=Em.oD hx;obtain⟨p2,σ2,h1,h2⟩:=h x rx;exact⟨p2,σ2,by simpa [e1,PD.strip]using h1,h2,by simp only[yAW,yC,e1,PD.fW,gH.eO];rfl,r.eO _⟩
theorem aF.aMZ{E:aE}(hE:aF prog E)(hU:aJ E)(h0:E 31=none)(h1:E 68=some (entry (cK kI Em.dC λn=>dY (gG n) (some (nY n)))))(h2:E 69=some GC):aF prog (E.add 31 MI):=by
 refine hE.AV bK λargs p hg=>?_
 unfold ZS at hg;split at hg
 rotate_left
 .cases hg
 rename_i a b c d;split at hg
 rotate_left
 .cases hg
 rename_i rs lh x i ha hb hc hd;obtain⟨⟨k1,k2,k3,k4,k5,k6,k7,k8,k9⟩,e⟩:=fO hg;cases e;have e1:=Em.oD ha;have e2:=Em.oD hb;have e3:=Em.oD hc;have e4:=Em.oD hd;obtain⟨j,rfl⟩:∃j:Nat,i=j:=⟨i.toNat,Cj⟩;rw[yBp];obtain⟨p2,σ2,q1,q2⟩:=aPu hU h0 h1 h2 rs k1 k2 k3 lh.1 lh.2 k4 k5 k6 x k7 j Cj;refine⟨p2,σ2,?_,q2,?_,Em.stop.eO _⟩
 .simp only[yAW,yC,e1,e2,e3,e4];exact q1
 .simp only[yAW,yC,e1,e2,e3,e4,PD.fW,aR.eO,Em.dC.eO,Em.pull.eO,i64.eO,yCr]
theorem aMf:∀args p,B8 0 args []≠some (p,[]):=by
 intro args p h;unfold B8 at h;exact As
theorem aEu(F:List UInt8->List bX->PD):∀args p,vL F 0 args []≠some (p,[]):=by
 intro args p h;unfold vL at h
 repeat' split at h
 all_goals first|(cases h;done)|(simp_all;done)
theorem aMo:∀args p,xV 0 args []≠some (p,[]):=by
 intro args p h;unfold xV at h
 repeat' split at h
 all_goals first|(cases h;done)|(simp_all;done)
theorem aMt:∀args p,CA 0 args []≠some (p,[]):=by
 intro args p h;unfold CA at h;exact As
theorem aMz:∀args p,CB 0 args []≠some (p,[]):=by
 intro args p h;unfold CB at h;exact As
theorem aMw:∀args p,DR 0 args []≠some (p,[]):=by
 intro args p h;unfold DR at h
 repeat' split at h
 all_goals first|(cases h;done)|(simp_all;done)
theorem aMB:∀args p,DS 0 args []≠some (p,[]):=by
 intro args p h;unfold DS at h
 repeat' split at h
 all_goals first|(cases h;done)|(simp_all;done)
end Go.Kz
end
