/- Steps of the proof. -/
import Derived.Test.YteegpeenjdgodaaGreatDoorG7
import Derived.Test.YteegpeenjdgodaaGreatDoorGF
import Derived.Test.YteegpeenjdgodaaGreatDoorG9
set_option linter.all false
set_option maxHeartbeats 40000000
set_option maxRecDepth 100000
open Go.Proofs.Tryz
noncomputable section
namespace Go.Kz
open Go Go.Proofs
abbrev M4:Type:=Int×Int×Int×Int
def IK(i:Nat)(k:Int)(tl:List bW):List bW->Nat->List M4
 | [],_=>[]
 |s::r,j=>(if 0<=cK (pP s.name) tl 0 then [((i:Int),(j:Int),k,cK (pP s.name) tl 0)]else [])++IK i k tl r (j+1)
def vK(bd:List bD):List bD->Nat->List M4
 | [],_=>[]
 |d::r,i=>(if cK (mG d.name) bd 0<0 then []else IK i (cK (mG d.name) bd 0) (bd.getD (cK (mG d.name) bd 0).toNat ⟨[],false,0,0,[]⟩).stops d.stops 0)++vK bd r (i+1)
theorem ZE{α:Type}(p:α->Bool):∀(l:List α) (i:Nat),0<=cK p l i->(i:Int)<=cK p l i
 | [],_,h=>by unfold cK at h;omega
 |x::r,i,h=>by
  unfold cK at h ⊢;split
  .omega
  .rename_i hp;rw[yAI hp]at h;have:=ZE p r (i+1) h;omega
theorem aFE{α:Type}(p:α->Bool):∀(l:List α) (i:Nat),0<=cK p l i->∀d,p (l.getD ((cK p l i).toNat-i) d)=true
 | [],_,h,_=>by unfold cK at h;omega
 |x::r,i,h,d=>by
  by_cases hp:p x=true
  .have e:cK p (x::r) i=(i:Int):=by unfold cK;rw[yAJ hp]
   rw[e];simpa using hp
  .have e:cK p (x::r) i=cK p r (i+1):=by
    conv=>lhs;unfold cK
    rw[yAI hp]
   rw[e]at h ⊢;have hlo:=ZE p r (i+1) h;have e2:(cK p r (i+1)).toNat-i=((cK p r (i+1)).toNat-(i+1))+1:=Ah;rw[e2,yDC];exact aFE p r (i+1) h d
theorem aFF{α:Type}(p:α->Bool):∀(l:List α) (i:Nat),0<=cK p l i->∀d,l.getD ((cK p l i).toNat-i) d∈l
 | [],_,h,_=>by unfold cK at h;omega
 |x::r,i,h,d=>by
  by_cases hp:p x=true
  .have e:cK p (x::r) i=(i:Int):=by unfold cK;rw[yAJ hp]
   rw[e];simp
  .have e:cK p (x::r) i=cK p r (i+1):=by
    conv=>lhs;unfold cK
    rw[yAI hp]
   rw[e]at h ⊢;have hlo:=ZE p r (i+1) h;have e2:(cK p r (i+1)).toNat-i=((cK p r (i+1)).toNat-(i+1))+1:=Ah;rw[e2,yDC];exact yBH _ (aFF p r (i+1) h d)
section
def bO.m4:bO M4:=((bO.one i64).pair ((bO.one i64).pair ((bO.one i64).pair (.one i64))))
def Em.m4:Em M4:=.agg .m4
@[simp] theorem aWp{r:M4}:Em.m4.aA r=.agg [.int .i64 r.1,.int .i64 r.2.1,.int .i64 r.2.2.1,.int .i64 r.2.2.2]:=rfl
abbrev ZC:Em (List M4):=Em.m4.list 4
def CA:Nat->List PD->List aB->Option (PD×List aB):=entry (bZ Em.bM i64 λo=>dP (dI o) (some (bH o)))
theorem FL{o:aP}(h:dI o)(fl:Nat)(σ:List aB):CA fl [Em.bM.aA o] σ=some (.int .i64 (bH o),σ):=by
 have e1:=Em.cM (Em.bM.str o);unfold CA entry bZ;exact kg
theorem aFd{a i B:Nat}(h:a<=i*B):a<=(i+1)*B:=yAV h (yBO B (yCs i))
theorem aQ5{a i j n B:Nat}(h:a<=i*B+j)(hj:j<=n)(hn:n<=B):a<=(i+1)*B:=by
 rw[yBU];omega
theorem aQ6{L:List M4}{x:M4}{i j:Nat}(h:L.length<=i*1000000+j):(L++[x]).length<=i*1000000+(j+1):=by
 rw[yAa,yAT,yAQ];omega
theorem aQ7{a i j:Nat}(h:a<=i*1000000+j):a<=i*1000000+(j+1):=Ah
variable{E:aE}(hU:aH E)
include hU
theorem aLK(h0:E 20=none)(h1:E 27=some CA)(h2:E 52=some CB)(h3:E 54=some CC)(a b:aP)(ha:dI a)(hb:dI b)(ea:bH a=0)(eb:bH b=0) :
  aJ prog E 20 [Em.bM.aA a,Em.bM.aA b] (.aI [ZC.aA (vK b.aD a.aD 0),.int .i64 0]):=by
 have hA:=FL ha;have hB:=FL hb;rw[ea]at hA;rw[eb]at hB;obtain⟨an,ar,ad,ac⟩:=a;obtain⟨bn,br,bd,bc⟩:=b;simp only[gF,aW]at hA hB;simp only[gF,aW];obtain⟨W,hW⟩:=gn (vK bd ad 0);simp only[hW];obtain⟨⟨hon,hrs⟩,hla,hlb⟩:(True/\True)/\ad.length<=1000000/\bd.length<=1000000:=⟨⟨trivial,trivial⟩,ha.2.2.1.1,hb.2.2.1.1⟩;have hda:∀d∈ad,d.stops.length<=1000000:=λd hd=>(ha.2.2.1.2 d hd).2.1
 have hdb:∀d∈bd,d.stops.length<=1000000:=λd hd=>(hb.2.2.1.2 d hd).2.1
 obtain⟨A,hAA⟩:=gn (aB.box (.agg [.str an,.slice (sz 6 ar) (ar.map Em.aG.aA) .any,.slice (sz 5 ad) (ad.map Em.div.aA) .any,.slice (sz 5 ac) (ac.map Em.aK.aA) .any]));obtain⟨B,hBB⟩:=gn (aB.box (.agg [.str bn,.slice (sz 6 br) (br.map Em.aG.aA) .any,.slice (sz 5 bd) (bd.map Em.div.aA) .any,.slice (sz 5 bc) (bc.map Em.aK.aA) .any]));refine aJ.aN 73 h0 func20 (h:=?_);refine aC trivial ?_;refine Wp.loop ?_;refine aC (A2 h1 hA) ?_;refine Wp.loop ?_;refine aC (A2 h1 hB) ?_;refine Wp.loop ?_;refine aC trivial ?_;refine Wp.cZ (λm fr σ=>∃(i z:Nat) (L:List M4) (tok:Tok) (σ1:List aB),∃gg:Nat->PD,(i+m=ad.length/\σ1[0]?=some A/\σ1[1]?=some B/\(L=[]\/z=4)/\kK σ1 tok 74 4 L.length/\L++vK bd (ad.drop i) i=W/\L.length<=i*1000000)/\fr=gg 0::gg 1::.ptr 0 0::.ptr 1 0::gg 4::gg 5::gg 6::gg 7::gg 8::.slice z (L.map Em.m4.aA) tok::gg 10::gg 11::gg 12::gg 13::gg 14::gg 15::gg 16::gg 17::gg 18::gg 19::gg 20::gg 21::gg 22::gg 23::gg 24::gg 25::gg 26::gg 27::gg 28::pX.aA ad::.int .i64 ad.length::.int .i64 i::gg 32::gg 33::gg 34::gg 35::gg 36::gg 37::gg 38::gg 39::gg 40::gg 41::gg 42::gg 43::gg 44::gg 45::gg 46::gg 47::gg 48::gg 49::gg 50::gg 51::gg 52::gg 53::gg 54::gg 55::gg 56::gg 57::gg 58::gg 59::gg 60::gg 61::gg 62::gg 63::gg 64::gg 65::gg 66::gg 67::gg 68::gg 69::gg 70::gg 71::gg 72::[]/\σ=σ1) ?_ (ad.length) (by refine⟨0,0,[],.full,[A,B,A,B],?_⟩;exact eS (⟨Ah,rfl,rfl,.inl rfl,.inl ⟨rfl,rfl⟩,hW,yAF _⟩) (A2 hAA hBB))
 rintro m fr σ ⟨i,z,L,tok,σ1,gg,hI,rfl,rfl⟩
 obtain⟨hm,g0,g1,hz,hrow,hs,hLl⟩:=hI
 by_cases hi:i<ad.length
 .have q1:(i:Int)<(ad.length:Int):=by omega
  obtain⟨d,hd⟩:=gn (ad[i]);have hdl:=hda d (hd▸yAm hi);have dY:ad.drop i=d::ad.drop (i+1):=by rw[yAq hi,hd]
  rw[dY]at hs;unfold vK at hs;obtain⟨d0,d1,d2,d3,ds⟩:=d;simp only at hs hdl;obtain⟨ρ,hρ⟩:=gn (σ++[aB.box (.agg [.str d0,.bool d1,.int .i64 d2,.int .i64 d3,.slice (sz 4 ds) (ds.map Em.stop.aA) .any])]);obtain⟨N,hN⟩:=gn (σ.length);have gN:ρ[N]?=some (.box (.agg [.str d0,.bool d1,.int .i64 d2,.int .i64 d3,.slice (sz 4 ds) (ds.map Em.stop.aA) .any])):=by rw[<-hρ,<-hN];simp
  have hE:=aQ8 (l:=bd) hlb gN 0;obtain⟨τ,eH⟩:=gn (ρ++(bd.take (jV (mG d0) bd)).map yR);have k0:τ[0]?=some A:=by rw[<-eH,<-hρ];exact cE (cE g0)
  have k1:τ[1]?=some B:=by rw[<-eH,<-hρ];exact cE (cE g1)
  have kN:τ[N]?=some (.box (.agg [.str d0,.bool d1,.int .i64 d2,.int .i64 d3,.slice (sz 4 ds) (ds.map Em.stop.aA) .any])):=by rw[<-eH];exact cE gN
  have oM:kK τ tok 74 4 L.length:=by rw[<-eH,<-hρ];exact hrow.more.more
  have k1':=k1;rw[<-hBB]at k1';have yU:ρ[1]?=some B:=by rw[<-hρ];exact cE g1
  rw[<-hBB]at yU;rw[eH]at hE;simp only[aW]at hE;rw[<-hN]at hE gN;rw[<-hρ]at hE gN yU
  by_cases hk:cK (mG d0) bd 0<0
  .rw[yAJ hk,yAO]at hs;refine aC (A7 q1 hi @hd yU h2 hE @hk) ?_;refine bV.normal (m-1) Ah (by refine⟨i+1,z,L,tok,τ,?_⟩;exact cF (⟨Ah,k0,k1,hz,oM,hs,aFd hLl⟩))
  .rw[yAI hk]at hs;obtain⟨K,hK⟩:∃K:Nat,cK (mG d0) bd 0=(K:Int):=⟨_,(Int.toNat_of_nonneg Ah).symm⟩;have hKl:K<bd.length:=by rcases aEX (mG d0) bd 0 with h|h<;>omega
   have qK:(K:Int)<(bd.length:Int):=Ah;obtain⟨e,he⟩:=gn (bd[K]);have hed:bd.getD K ⟨[],false,0,0,[]⟩=e:=by rw[yAA,yAh hKl,he];rfl
   have hel:=hdb e (he▸yAm hKl);rw[hK]at hE hs hk;rw[yBe,hed]at hs;obtain⟨e0,e1,e2,e3,es⟩:=e;simp only at hs hel;rw[<-hN]at kN;obtain⟨l0,K7⟩:=yA.1 kN;have IJ:¬(K:Int)<0:=Ah;refine aC (A10 q1 hi @hd yU h2 hE IJ @kN l0 K7) ?_;obtain⟨R,hR⟩:=gn (vK bd (ad.drop (i+1)) (i+1));rw[hR]at hs;obtain⟨M,hM⟩:∃M,M=m:=⟨_,rfl⟩;clear hE gN kN K7 l0 hN eH hρ k1' yU g0 g1 hrow;refine Wp.cZ (λm fr σ=>∃(j z2:Nat) (L2:List M4) (FM:Tok) (σ2:List aB),∃gg:Nat->PD,(j+m=ds.length/\σ2[0]?=some A/\σ2[1]?=some B/\(L2=[]\/z2=4)/\kK σ2 FM 74 4 L2.length/\L2++(IK i (K:Int) es (ds.drop j) j++R)=W/\L2.length<=i*1000000+j)/\fr=gg 0::gg 1::.ptr 0 0::.ptr 1 0::gg 4::gg 5::gg 6::gg 7::gg 8::.slice z2 (L2.map Em.m4.aA) FM::.int .i64 i::gg 11::.int .i64 K::gg 13::gg 14::gg 15::gg 16::gg 17::gg 18::gg 19::gg 20::gg 21::gg 22::gg 23::gg 24::gg 25::gg 26::gg 27::gg 28::pX.aA ad::.int .i64 ad.length::.int .i64 i::gg 32::gg 33::gg 34::gg 35::gg 36::gg 37::gg 38::gg 39::gg 40::gg 41::gg 42::mX.aA ds::.int .i64 ds.length::.int .i64 j::gg 46::gg 47::gg 48::gg 49::gg 50::gg 51::gg 52::gg 53::gg 54::gg 55::gg 56::gg 57::gg 58::gg 59::gg 60::gg 61::gg 62::gg 63::gg 64::gg 65::gg 66::gg 67::gg 68::gg 69::gg 70::gg 71::gg 72::[]/\σ=σ2) ?_ (ds.length) (by refine⟨0,z,L,tok,τ,?_⟩;exact cF (⟨Ah,k0,k1,hz,oM,hs,yAV hLl (Nat.le_add_right _ 0)⟩))
   rintro m fr σ ⟨j,z2,L2,FM,σ2,gg,hI,rfl,rfl⟩
   obtain⟨hm2,f0,f1,l8,aFD,hs2,ZD⟩:=hI
   by_cases hj:j<ds.length
   .have q2:(j:Int)<(ds.length:Int):=by omega
    obtain⟨s,hsj⟩:=gn (ds[j]);have hc2:ds.drop j=s::ds.drop (j+1):=by rw[yAq hj,hsj]
    rw[hc2]at hs2;unfold IK at hs2;obtain⟨s0,s1,s2,ss⟩:=s;simp only at hs2;obtain⟨ρ,hρ⟩:=gn (σ++[aB.box (.agg [.str s0,.int .i64 s1,.int .i64 s2,.slice (sz 3 ss) (ss.map Em.eZ.aA) .any])]);have gN:ρ[σ.length]?=some (.box (.agg [.str s0,.int .i64 s1,.int .i64 s2,.slice (sz 3 ss) (ss.map Em.eZ.aA) .any])):=by rw[<-hρ];simp
    have hE:=aQ9 (l:=es) hel gN 0;obtain⟨kB,eH⟩:=gn (ρ++(es.take (jV (pP s0) es)).map yV);have k0:kB[0]?=some A:=by rw[<-eH,<-hρ];exact cE (cE f0)
    have k1:kB[1]?=some B:=by rw[<-eH,<-hρ];exact cE (cE f1)
    have QQ:kK kB FM 74 4 L2.length:=by rw[<-eH,<-hρ];exact aFD.more.more
    have yU:ρ[1]?=some B:=by rw[<-hρ];exact cE f1
    rw[<-hBB]at yU;rw[eH]at hE;simp only[aW]at hE;rw[<-hρ]at hE yU;obtain⟨n,hn⟩:=gn (cK (pP s0) es 0);rw[hn]at hE hs2
    by_cases hn0:0<=n
    .rw[yAJ hn0]at hs2;have QR:(L2.map Em.m4.aA).length=L2.length:=yAe _;obtain⟨fZ,bU,hap,hr',hkeep,hnew⟩:=DK (P:=prog) (t:=69) (e:=74) (k:=4) (b:=32) (s:=z2) (xs:=L2.map Em.m4.aA) (p:=.agg [.int .i64 i,.int .i64 j,.int .i64 K,.int .i64 n]) (tk:=.any) (tok:=FM) (σ:=kB)
      underlying69 Aj (l8.imp (λh=>Bu) id) (by rw[QR];exact QQ) (by rw[QR];omega) (by rw[QR];omega)
     have nA:lI (some A):=by rw[<-hAA];trivial
     have nB:lI (some B):=by rw[<-hBB];trivial
     have w0:=hkeep 0 _ (QQ.ne k0 nA) k0;have w1:=hkeep 1 _ (QQ.ne k1 nB) k1;rw[QR]at hr';refine aC (A11 q2 hj hsj yU h3 hE hn0 hKl qK @he hap) ?_;have hLM:(L2++[((i:Int),(j:Int),(K:Int),n)]).map Em.m4.aA=L2.map Em.m4.aA++[.agg [.int .i64 i,.int .i64 j,.int .i64 K,.int .i64 n]]:=by rw[yAH];rfl
     refine bV.normal (m-1) Ah (by refine⟨j+1,4,L2++[((i:Int),(j:Int),(K:Int),n)],fZ,bU,?_⟩;exact eS (⟨Ah,w0,w1,.inr rfl,by simpa using hr',by rw[<-hs2];simp,aQ6 ZD⟩) @hLM)
    .rw[yAI hn0,yAO]at hs2;refine aC (A10 q2 hj hsj yU h3 hE hn0 hKl qK @he) ?_;refine bV.normal (m-1) Ah (by refine⟨j+1,z2,L2,FM,kB,?_⟩;exact cF (⟨Ah,k0,k1,l8,QQ,hs2,aQ7 ZD⟩))
   .have q2:¬(j:Int)<(ds.length:Int):=by omega
    rw[yAs Ah]at hs2;have hs3:L2++R=W:=hs2;rw[<-hR]at hs3;refine aC q2 ?_;refine bV.normal (M-1) Ah (by refine⟨i+1,z2,L2,FM,σ,?_⟩;exact cF (⟨Ah,f0,f1,l8,aFD,hs3,aQ5 ZD Ah hdl⟩))
 .have q1:¬(i:Int)<(ad.length:Int):=by omega
  rw[yAs Ah]at hs;have hs2:L=W:=by
   have:vK bd [] i=[]:=rfl;rw[this,yAl]at hs;exact hs
  subst hs2;have hst:(PD.slice z (L.map Em.m4.aA) tok).strip=.slice (sz 4 L) (L.map Em.m4.aA) .any:=by
   rw[PD.r8,show(L.map Em.m4.aA).map PD.strip=L.map Em.m4.aA by rw[yBz];exact yAG λx _=>Em.m4.str x];rcases hz with h|h
   .subst h;rfl
   .subst h
    by_cases hL:L=[]
    .subst hL;rfl
    .simp[sz,hL]
  refine aC q1 ?_;refine⟨_,_,rfl,?_⟩;show PD.aI [(PD.slice z (L.map Em.m4.aA) tok).strip,.int .i64 0]=_
  rw[hst]
end
section
def O2:Nat->List PD->List aB->Option (PD×List aB):=entry (dZ Em.bM Em.bM (Em.sA ZC i64) λa b=>dP (dI a/\dI b/\bH a=0/\bH b=0) (some (vK b.aD a.aD 0,0)))
theorem aQ3{a b:aP}(ha:dI a)(hb:dI b)(ea:bH a=0)(eb:bH b=0)(fl:Nat)(σ:List aB):O2 fl [Em.bM.aA a,Em.bM.aA b] σ=some (.aI [ZC.aA (vK b.aD a.aD 0),.int .i64 0],σ):=by
 have e1:=Em.cM (Em.bM.str a);have e2:=Em.cM (Em.bM.str b);unfold O2 entry dZ;simp only[e1,e2];rw[eV ⟨ha,hb,ea,eb⟩];rfl
def O3:Nat->List PD->List aB->Option (PD×List aB):=entry (bZ Em.dV Em.bool λp=>some (mL p))
theorem aFC(p:oT)(fl:Nat)(σ:List aB):O3 fl [Em.dV.aA p] σ=some (.bool (mL p),σ):=by
 have e1:=Em.cM (Em.dV.str p);unfold O3 entry bZ;simp only[e1];rfl
def AD:Nat->List PD->List aB->Option (PD×List aB):=entry (bZ Em.dV Em.bM λp=>dP (xD p/\mL p=true) (some (fE p)))
theorem LZ{p:oT}(h:xD p)(hf:mL p=true)(fl:Nat)(σ:List aB):AD fl [Em.dV.aA p] σ=some (Em.bM.aA (fE p),σ):=by
 have e1:=Em.cM (Em.dV.str p);unfold AD entry bZ;simp only[e1];rw[eV ⟨h,hf⟩]
abbrev V0:Nat->List PD->List aB->Option (PD×List aB):=entry (vP Em.bool (some true))
theorem aQ4(fl:Nat)(σ:List aB):V0 fl [] σ=some (.bool true,σ):=rfl
variable{E:aE}(hU:aH E)
include hU
end
theorem aF.le{P:Program}{E:aE}{f:FuncId}{g g':Fw}(h:aF P (E.add f g))(hE:aF P E)(hg:∀fl args σ x,g' fl args σ=some x->g fl args σ=some x):aF P (E.add f g'):=by
 intro F fl f1 g1 args c vs p σ' hF h1 hgo hs hX hv;unfold aE.add at h1;split at h1
 .rename_i e;subst e;simp only[yAb]at h1;subst h1;exact h hF (show E.add f1 g f1=some g from yAJ rfl) (hg _ _ _ _ hgo) hs hX hv
 .exact hE hF h1 hgo hs hX hv
theorem aFA{args args':Gc}(h:args.map PD.strip=args')(h2:args'.map PD.strip=args'):∀rs:List (List PD×PD),rE rs args=rE rs args'
 | []=>rfl
 |r::rs=>by
  unfold rE;rw[h,h2,aFA h h2 rs]
theorem aQ1:(CR.all λa=>qP.all λb=>match rE LY [Em.cV.aA a,Em.cV.aA b]with|some p=>sK 40 p (.aI [.int .i64 (vE a b),.int .i64 0])|none=>false)=true:=Ao
theorem aL2:aF prog (qR.add 69 EH):=by
 refine aQ2.le aFB λfl args σ x h=>?_
 unfold EH entry dZ at h;split at h
 rotate_left
 .cases h
 rename_i p hp;simp only[yAb]at h;subst h;split at hp
 rotate_left
 .cases hp
 rename_i p1 p2;split at hp
 rotate_left
 .cases hp
 rename_i a b ha hb;split at hp
 rotate_left
 .cases hp
 rename_i z hz;obtain⟨⟨h1,h2⟩,e⟩:=fG hz;cases e;simp only[yAb]at hp;subst hp;have e1:=Em.mY ha;have e2:=Em.mY hb;have hs:[p1,p2].map PD.strip=[Em.cV.aA a,Em.cV.aA b]:=by simp only[yAS,yBp,e1,e2]
 have hs2:[Em.cV.aA a,Em.cV.aA b].map PD.strip=[Em.cV.aA a,Em.cV.aA b]:=by simp only[yAS,yBp,Em.cV.str]
 rw[aFA hs hs2];have ht:=yAn.1 (yAn.1 aQ1 a h1) b h2;split at ht
 .rename_i q hq;rw[hq];have:=JZ 40 _ _ ht;rw[this];rfl
 .cases ht
theorem aF.aDa{E:aE}(hE:aF prog E){β:Type}{r:Em β}{F:List Int->β}{f:FuncId}(h:∀l:List Int,l.length<=1000000->aJ prog E f [fM.aA l,.func 126 []] (r.aA (F l))) :
  aF prog (E.add f (entry (λargs=>match args with | [p,.func g []]=>if g=126 then bZ fM r (λl=>dP (l.length<=1000000) (some (F l))) [p]else none|_=>none))):=by
 refine hE.zE bI λargs p hg=>?_
 split at hg
 rotate_left
 .cases hg
 rename_i p1 g1;split at hg
 rotate_left
 .cases hg
 rename_i e;subst e;simp only[bZ]at hg;split at hg
 rotate_left
 .cases hg
 rename_i x hx;split at hg
 rotate_left
 .cases hg
 rename_i z hz;simp only[yAb]at hg;subst hg;obtain⟨rx,e⟩:=fG hz;cases e;have e1:=Em.mY hx;obtain⟨p2,σ2,h1,h2⟩:=h x rx;exact⟨p2,σ2,by simpa [e1,PD.strip]using h1,h2,by simp only[yAS,yBp,e1,PD.fH,fM.dX];rfl,r.dX _⟩
theorem aF.aL6{E:aE}(hE:aF prog E)(hU:aH E)(h0:E 31=none)(h1:E 68=some (entry (bZ jK Em.cV λn=>dP (gE n) (some (mS n)))))(h2:E 69=some EH):aF prog (E.add 31 J9):=by
 refine hE.zE bI λargs p hg=>?_
 unfold XO at hg;split at hg
 rotate_left
 .cases hg
 rename_i a b c d;split at hg
 rotate_left
 .cases hg
 rename_i rs lh x i ha hb hc hd;obtain⟨⟨k1,k2,k3,k4,k5,k6,k7,k8,k9⟩,e⟩:=fG hg;cases e;have e1:=Em.mY ha;have e2:=Em.mY hb;have e3:=Em.mY hc;have e4:=Em.mY hd;obtain⟨j,rfl⟩:∃j:Nat,i=j:=⟨i.toNat,Ah⟩;rw[yBe];obtain⟨p2,σ2,q1,q2⟩:=aOK hU h0 h1 h2 rs k1 k2 k3 lh.1 lh.2 k4 k5 k6 x k7 j Ah;refine⟨p2,σ2,?_,q2,?_,Em.stop.dX _⟩
 .simp only[yAS,yBp,e1,e2,e3,e4];exact q1
 .simp only[yAS,yBp,e1,e2,e3,e4,PD.fH,aM.dX,Em.cV.dX,Em.pull.dX,i64.dX,yCn]
theorem aLl:∀args p,z8 0 args []≠some (p,[]):=by
 intro args p h;unfold z8 at h;exact yh
theorem aDn(F:List UInt8->List bP->PD):∀args p,tO F 0 args []≠some (p,[]):=by
 intro args p h;unfold tO at h
 repeat' split at h
 all_goals first|(cases h;done)|(simp_all;done)
theorem aLu:∀args p,wE 0 args []≠some (p,[]):=by
 intro args p h;unfold wE at h
 repeat' split at h
 all_goals first|(cases h;done)|(simp_all;done)
theorem aLz:∀args p,AA 0 args []≠some (p,[]):=by
 intro args p h;unfold AA at h;exact yh
theorem aLF:∀args p,AB 0 args []≠some (p,[]):=by
 intro args p h;unfold AB at h;exact yh
theorem aLC:∀args p,CB 0 args []≠some (p,[]):=by
 intro args p h;unfold CB at h
 repeat' split at h
 all_goals first|(cases h;done)|(simp_all;done)
theorem aLI:∀args p,CC 0 args []≠some (p,[]):=by
 intro args p h;unfold CC at h
 repeat' split at h
 all_goals first|(cases h;done)|(simp_all;done)
end Go.Kz
end
