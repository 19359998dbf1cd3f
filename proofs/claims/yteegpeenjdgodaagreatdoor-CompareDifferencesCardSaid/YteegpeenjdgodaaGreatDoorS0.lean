/- Steps of the proof. -/
import Derived.Test.YteegpeenjdgodaaGreatDoorS7
import Derived.Test.YteegpeenjdgodaaGreatDoorSF
import Derived.Test.YteegpeenjdgodaaGreatDoorS9
set_option linter.all false
set_option maxHeartbeats 40000000
set_option maxRecDepth 100000
open Go.Proofs.Tryz
noncomputable section
namespace Go.Kz
open Go Go.Proofs
abbrev M4:Type:=Int×Int×Int×Int
def O0(i:Nat)(k:Int)(tl:List bU):List bU->Nat->List M4
 | [],_=>[]
 |s::r,j=>(if 0<=dR (pY s.name) tl 0 then [((i:Int),(j:Int),k,dR (pY s.name) tl 0)]else [])++O0 i k tl r (j+1)
def BU(bd:List bD):List bD->Nat->List M4
 | [],_=>[]
 |d::r,i=>(if dR (nY d.name) bd 0<0 then []else O0 i (dR (nY d.name) bd 0) (bd.getD (dR (nY d.name) bd 0).toNat ⟨[],false,0,0,[]⟩).stops d.stops 0)++BU bd r (i+1)
section
def bE.m4:bE M4:=((bE.one i64).pair ((bE.one i64).pair ((bE.one i64).pair (.one i64))))
def Em.m4:Em M4:=.agg .m4
@[simp] theorem aT2{r:M4}:Em.m4.aA r=.agg [.int .i64 r.1,.int .i64 r.2.1,.int .i64 r.2.2.1,.int .i64 r.2.2.2]:=rfl
abbrev m4s:Em (List M4):=Em.m4.list 4
def JC:Nat->List PD->List aB->Option (PD×List aB):=entry (bZ Em.bH i64 λo=>dY (dP o) (some (bS o)))
theorem OZ{o:aM}(h:dP o)(fl:Nat)(σ:List aB):JC fl [Em.bH.aA o] σ=some (.int .i64 (bS o),σ):=by
 have e1:=Em.cO (Em.bH.str o);unfold JC entry bZ;exact jc
theorem aDK{a i B:Nat}(h:a<=i*B):a<=(i+1)*B:=yAW h (yBK B (yCs i))
theorem aOG{a i j n B:Nat}(h:a<=i*B+j)(hj:j<=n)(hn:n<=B):a<=(i+1)*B:=by
 rw[yBQ];omega
theorem aOH{L:List M4}{x:M4}{i j:Nat}(h:L.length<=i*1000000+j):(L++[x]).length<=i*1000000+(j+1):=by
 rw[yAa,yAS,yAT];omega
theorem aOI{a i j:Nat}(h:a<=i*1000000+j):a<=i*1000000+(j+1):=ye
variable{E:aE}(hU:aH E)
include hU
theorem aKE(h0:E 20=none)(h1:E 27=some JC)(h2:E 52=some BA)(h3:E 54=some BB)(a b:aM)(ha:dP a)(hb:dP b)(ea:bS a=0)(eb:bS b=0) :
  aI prog E 20 [Em.bH.aA a,Em.bH.aA b] (.aP [m4s.aA (BU b.aD a.aD 0),.int .i64 0]):=by
 have hA:=OZ ha;have hB:=OZ hb;rw[ea]at hA;rw[eb]at hB;obtain⟨an,ar,ad,ac⟩:=a;obtain⟨bn,br,bd,bc⟩:=b;simp only[iA,aV]at hA hB;simp only[iA,aV];obtain⟨W,hW⟩:=gn (BU bd ad 0);simp only[hW];obtain⟨⟨hon,hrs⟩,hla,hlb⟩:(True/\True)/\ad.length<=1000000/\bd.length<=1000000:=⟨⟨trivial,trivial⟩,ha.2.2.1.1,hb.2.2.1.1⟩;have hda:∀d∈ad,d.stops.length<=1000000:=λd hd=>(ha.2.2.1.2 d hd).2.1
 have hdb:∀d∈bd,d.stops.length<=1000000:=λd hd=>(hb.2.2.1.2 d hd).2.1
 obtain⟨A,hAA⟩:=gn (aB.box (.agg [.str an,.slice (sz 6 ar) (ar.map Em.aG.aA) .any,.slice (sz 5 ad) (ad.map Em.div.aA) .any,.slice (sz 5 ac) (ac.map Em.aJ.aA) .any]));obtain⟨B,hBB⟩:=gn (aB.box (.agg [.str bn,.slice (sz 6 br) (br.map Em.aG.aA) .any,.slice (sz 5 bd) (bd.map Em.div.aA) .any,.slice (sz 5 bc) (bc.map Em.aJ.aA) .any]));refine aI.aN 73 h0 func20 (h:=?_);refine aC trivial ?_;refine Wp.loop ?_;refine aC (A2 h1 hA) ?_;refine Wp.loop ?_;refine aC (A2 h1 hB) ?_;refine Wp.loop ?_;refine aC trivial ?_;refine Wp.cI (λm fr σ=>∃(i z:Nat) (L:List M4) (tok:Tok) (σ1:List aB),∃gg:Nat->PD,(i+m=ad.length/\σ1[0]?=some A/\σ1[1]?=some B/\(L=[]\/z=4)/\jR σ1 tok 74 4 L.length/\L++BU bd (ad.drop i) i=W/\L.length<=i*1000000)/\fr=gg 0::gg 1::.ptr 0 0::.ptr 1 0::gg 4::gg 5::gg 6::gg 7::gg 8::.slice z (L.map Em.m4.aA) tok::gg 10::gg 11::gg 12::gg 13::gg 14::gg 15::gg 16::gg 17::gg 18::gg 19::gg 20::gg 21::gg 22::gg 23::gg 24::gg 25::gg 26::gg 27::gg 28::pE.aA ad::.int .i64 ad.length::.int .i64 i::gg 32::gg 33::gg 34::gg 35::gg 36::gg 37::gg 38::gg 39::gg 40::gg 41::gg 42::gg 43::gg 44::gg 45::gg 46::gg 47::gg 48::gg 49::gg 50::gg 51::gg 52::gg 53::gg 54::gg 55::gg 56::gg 57::gg 58::gg 59::gg 60::gg 61::gg 62::gg 63::gg 64::gg 65::gg 66::gg 67::gg 68::gg 69::gg 70::gg 71::gg 72::[]/\σ=σ1) ?_ (ad.length) (by refine⟨0,0,[],.full,[A,B,A,B],?_⟩;exact dU (⟨ye,rfl,rfl,.inl rfl,.inl ⟨rfl,rfl⟩,hW,yAF _⟩) (A2 hAA hBB))
 rintro m fr σ ⟨i,z,L,tok,σ1,gg,hI,rfl,rfl⟩
 obtain⟨hm,g0,g1,hz,hrow,hs,hLl⟩:=hI
 by_cases hi:i<ad.length
 .have q1:(i:Int)<(ad.length:Int):=by omega
  obtain⟨d,hd⟩:=gn (ad[i]);have hdl:=hda d (hd▸yAm hi);have dI:ad.drop i=d::ad.drop (i+1):=by rw[yAq hi,hd]
  rw[dI]at hs;unfold BU at hs;obtain⟨d0,d1,d2,d3,ds⟩:=d;simp only at hs hdl;obtain⟨ρ,hρ⟩:=gn (σ++[aB.box (.agg [.str d0,.bool d1,.int .i64 d2,.int .i64 d3,.slice (sz 4 ds) (ds.map Em.stop.aA) .any])]);obtain⟨N,hN⟩:=gn (σ.length);have gN:ρ[N]?=some (.box (.agg [.str d0,.bool d1,.int .i64 d2,.int .i64 d3,.slice (sz 4 ds) (ds.map Em.stop.aA) .any])):=by rw[<-hρ,<-hN];simp
  have hE:=aOJ (l:=bd) hlb gN 0;obtain⟨τ,dX⟩:=gn (ρ++(bd.take (jL (nY d0) bd)).map xQ);have k0:τ[0]?=some A:=by rw[<-dX,<-hρ];exact cL (cL g0)
  have k1:τ[1]?=some B:=by rw[<-dX,<-hρ];exact cL (cL g1)
  have kN:τ[N]?=some (.box (.agg [.str d0,.bool d1,.int .i64 d2,.int .i64 d3,.slice (sz 4 ds) (ds.map Em.stop.aA) .any])):=by rw[<-dX];exact cL gN
  have nW:jR τ tok 74 4 L.length:=by rw[<-dX,<-hρ];exact hrow.more.more
  have k1':=k1;rw[<-hBB]at k1';have xR:ρ[1]?=some B:=by rw[<-hρ];exact cL g1
  rw[<-hBB]at xR;rw[dX]at hE;simp only[aV]at hE;rw[<-hN]at hE gN;rw[<-hρ]at hE gN xR
  by_cases hk:dR (nY d0) bd 0<0
  .rw[yAJ hk,yAO]at hs;refine aC (A7 q1 hi @hd xR h2 hE @hk) ?_;refine bC.normal (m-1) ye (by refine⟨i+1,z,L,tok,τ,?_⟩;exact bG (⟨ye,k0,k1,hz,nW,hs,aDK hLl⟩))
  .rw[yAI hk]at hs;obtain⟨K,hK⟩:∃K:Nat,dR (nY d0) bd 0=(K:Int):=⟨_,(Int.toNat_of_nonneg ye).symm⟩;have hKl:K<bd.length:=by rcases aDu (nY d0) bd 0 with h|h<;>omega
   have qK:(K:Int)<(bd.length:Int):=ye;obtain⟨e,he⟩:=gn (bd[K]);have hed:bd.getD K ⟨[],false,0,0,[]⟩=e:=by rw[yAA,yAh hKl,he];rfl
   have hel:=hdb e (he▸yAm hKl);rw[hK]at hE hs hk;rw[yBy,hed]at hs;obtain⟨e0,e1,e2,e3,es⟩:=e;simp only at hs hel;rw[<-hN]at kN;obtain⟨l0,J2⟩:=yA.1 kN;have GO:¬(K:Int)<0:=ye;refine aC (A10 q1 hi @hd xR h2 hE GO @kN l0 J2) ?_;obtain⟨R,hR⟩:=gn (BU bd (ad.drop (i+1)) (i+1));rw[hR]at hs;obtain⟨M,hM⟩:∃M,M=m:=⟨_,rfl⟩;clear hE gN kN J2 l0 hN dX hρ k1' xR g0 g1 hrow;refine Wp.cI (λm fr σ=>∃(j z2:Nat) (L2:List M4) (DV:Tok) (σ2:List aB),∃gg:Nat->PD,(j+m=ds.length/\σ2[0]?=some A/\σ2[1]?=some B/\(L2=[]\/z2=4)/\jR σ2 DV 74 4 L2.length/\L2++(O0 i (K:Int) es (ds.drop j) j++R)=W/\L2.length<=i*1000000+j)/\fr=gg 0::gg 1::.ptr 0 0::.ptr 1 0::gg 4::gg 5::gg 6::gg 7::gg 8::.slice z2 (L2.map Em.m4.aA) DV::.int .i64 i::gg 11::.int .i64 K::gg 13::gg 14::gg 15::gg 16::gg 17::gg 18::gg 19::gg 20::gg 21::gg 22::gg 23::gg 24::gg 25::gg 26::gg 27::gg 28::pE.aA ad::.int .i64 ad.length::.int .i64 i::gg 32::gg 33::gg 34::gg 35::gg 36::gg 37::gg 38::gg 39::gg 40::gg 41::gg 42::l8.aA ds::.int .i64 ds.length::.int .i64 j::gg 46::gg 47::gg 48::gg 49::gg 50::gg 51::gg 52::gg 53::gg 54::gg 55::gg 56::gg 57::gg 58::gg 59::gg 60::gg 61::gg 62::gg 63::gg 64::gg 65::gg 66::gg 67::gg 68::gg 69::gg 70::gg 71::gg 72::[]/\σ=σ2) ?_ (ds.length) (by refine⟨0,z,L,tok,τ,?_⟩;exact bG (⟨ye,k0,k1,hz,nW,hs,yAW hLl (Nat.le_add_right _ 0)⟩))
   rintro m fr σ ⟨j,z2,L2,DV,σ2,gg,hI,rfl,rfl⟩
   obtain⟨hm2,f0,f1,jI,aD4,hs2,WY⟩:=hI
   by_cases hj:j<ds.length
   .have q2:(j:Int)<(ds.length:Int):=by omega
    obtain⟨s,hsj⟩:=gn (ds[j]);have hc2:ds.drop j=s::ds.drop (j+1):=by rw[yAq hj,hsj]
    rw[hc2]at hs2;unfold O0 at hs2;obtain⟨s0,s1,s2,ss⟩:=s;simp only at hs2;obtain⟨ρ,hρ⟩:=gn (σ++[aB.box (.agg [.str s0,.int .i64 s1,.int .i64 s2,.slice (sz 3 ss) (ss.map Em.eU.aA) .any])]);have gN:ρ[σ.length]?=some (.box (.agg [.str s0,.int .i64 s1,.int .i64 s2,.slice (sz 3 ss) (ss.map Em.eU.aA) .any])):=by rw[<-hρ];simp
    have hE:=aOK (l:=es) hel gN 0;obtain⟨jX,dX⟩:=gn (ρ++(es.take (jL (pY s0) es)).map xS);have k0:jX[0]?=some A:=by rw[<-dX,<-hρ];exact cL (cL f0)
    have k1:jX[1]?=some B:=by rw[<-dX,<-hρ];exact cL (cL f1)
    have O1:jR jX DV 74 4 L2.length:=by rw[<-dX,<-hρ];exact aD4.more.more
    have xR:ρ[1]?=some B:=by rw[<-hρ];exact cL f1
    rw[<-hBB]at xR;rw[dX]at hE;simp only[aV]at hE;rw[<-hρ]at hE xR;obtain⟨n,hn⟩:=gn (dR (pY s0) es 0);rw[hn]at hE hs2
    by_cases hn0:0<=n
    .rw[yAJ hn0]at hs2;have O2:(L2.map Em.m4.aA).length=L2.length:=yAe _;obtain⟨fG,gE,hap,hr',hkeep,hnew⟩:=CH (P:=prog) (t:=69) (e:=74) (k:=4) (b:=32) (s:=z2) (xs:=L2.map Em.m4.aA) (p:=.agg [.int .i64 i,.int .i64 j,.int .i64 K,.int .i64 n]) (tk:=.any) (tok:=DV) (σ:=jX)
      underlying69 yf (jI.imp (λh=>Ah) id) (by rw[O2];exact O1) (by rw[O2];omega) (by rw[O2];omega)
     have nA:kL (some A):=by rw[<-hAA];trivial
     have nB:kL (some B):=by rw[<-hBB];trivial
     have w0:=hkeep 0 _ (O1.ne k0 nA) k0;have w1:=hkeep 1 _ (O1.ne k1 nB) k1;rw[O2]at hr';refine aC (A11 q2 hj hsj xR h3 hE hn0 hKl qK @he hap) ?_;have hLM:(L2++[((i:Int),(j:Int),(K:Int),n)]).map Em.m4.aA=L2.map Em.m4.aA++[.agg [.int .i64 i,.int .i64 j,.int .i64 K,.int .i64 n]]:=by rw[yAH];rfl
     refine bC.normal (m-1) ye (by refine⟨j+1,4,L2++[((i:Int),(j:Int),(K:Int),n)],fG,gE,?_⟩;exact dU (⟨ye,w0,w1,.inr rfl,by simpa using hr',by rw[<-hs2];simp,aOH WY⟩) @hLM)
    .rw[yAI hn0,yAO]at hs2;refine aC (A10 q2 hj hsj xR h3 hE hn0 hKl qK @he) ?_;refine bC.normal (m-1) ye (by refine⟨j+1,z2,L2,DV,jX,?_⟩;exact bG (⟨ye,k0,k1,jI,O1,hs2,aOI WY⟩))
   .have q2:¬(j:Int)<(ds.length:Int):=by omega
    rw[yAs ye]at hs2;have hs3:L2++R=W:=hs2;rw[<-hR]at hs3;refine aC q2 ?_;refine bC.normal (M-1) ye (by refine⟨i+1,z2,L2,DV,σ,?_⟩;exact bG (⟨ye,f0,f1,jI,aD4,hs3,aOG WY ye hdl⟩))
 .have q1:¬(i:Int)<(ad.length:Int):=by omega
  rw[yAs ye]at hs;have hs2:L=W:=by
   have:BU bd [] i=[]:=rfl;rw[this,yAl]at hs;exact hs
  subst hs2;have hst:(PD.slice z (L.map Em.m4.aA) tok).strip=.slice (sz 4 L) (L.map Em.m4.aA) .any:=by
   rw[PD.rH,show(L.map Em.m4.aA).map PD.strip=L.map Em.m4.aA by rw[yBA];exact yAG λx _=>Em.m4.str x];rcases hz with h|h
   .subst h;rfl
   .subst h
    by_cases hL:L=[]
    .subst hL;rfl
    .simp[sz,hL]
  refine aC q1 ?_;refine⟨_,_,rfl,?_⟩;show PD.aP [(PD.slice z (L.map Em.m4.aA) tok).strip,.int .i64 0]=_
  rw[hst]
end
section
def gCm:Nat->List PD->List aB->Option (PD×List aB):=entry (eD Em.bH Em.bH (Em.rJ m4s i64) λa b=>dY (dP a/\dP b/\bS a=0/\bS b=0) (some (BU b.aD a.aD 0,0)))
def NX:Nat->List PD->List aB->Option (PD×List aB):=entry (bZ Em.pB Em.bool λp=>some (l7 p))
theorem aD2(p:oC)(fl:Nat)(σ:List aB):NX fl [Em.pB.aA p] σ=some (.bool (l7 p),σ):=by
 have e1:=Em.cO (Em.pB.str p);unfold NX entry bZ;simp only[e1];rfl
def NZ:Nat->List PD->List aB->Option (PD×List aB):=entry (bZ Em.pB Em.bH λp=>dY (AB p/\l7 p=true) (some (uH p)))
theorem aD3{p:oC}(h:AB p)(hf:l7 p=true)(fl:Nat)(σ:List aB):NZ fl [Em.pB.aA p] σ=some (Em.bH.aA (uH p),σ):=by
 have e1:=Em.cO (Em.pB.str p);unfold NZ entry bZ;simp only[e1];rw[gO ⟨h,hf⟩]
abbrev UN:Nat->List PD->List aB->Option (PD×List aB):=entry (uV Em.bool (some true))
theorem aOF(fl:Nat)(σ:List aB):UN fl [] σ=some (.bool true,σ):=rfl
variable{E:aE}(hU:aH E)
include hU
end
theorem aF.le{P:Program}{E:aE}{f:FuncId}{g g':Er}(h:aF P (E.add f g))(hE:aF P E)(hg:∀fl args σ x,g' fl args σ=some x->g fl args σ=some x):aF P (E.add f g'):=by
 intro F fl f1 g1 args c vs p σ' hF h1 hgo hs hX hv;unfold aE.add at h1;split at h1
 .rename_i e;subst e;simp only[yAb]at h1;subst h1;exact h hF (show E.add f1 g f1=some g from yAJ rfl) (hg _ _ _ _ hgo) hs hX hv
 .exact hE hF h1 hgo hs hX hv
theorem aD0{args args':Ey}(h:args.map PD.strip=args')(h2:args'.map PD.strip=args'):∀rs:List (List PD×PD),qR rs args=qR rs args'
 | []=>rfl
 |r::rs=>by
  unfold qR;rw[h,h2,aD0 h h2 rs]
theorem aOD:(BL.all λa=>pT.all λb=>match qR KO [Em.cH.aA a,Em.cH.aA b]with|some p=>rN 40 p (.aP [.int .i64 (uN a b),.int .i64 0])|none=>false)=true:=yu
theorem aKW:aF prog (pX.add 69 DD):=by
 refine aOE.le aD1 λfl args σ x h=>?_
 unfold DD entry eD at h;split at h
 rotate_left
 .cases h
 rename_i p hp;simp only[yAb]at h;subst h;split at hp
 rotate_left
 .cases hp
 rename_i p1 p2;split at hp
 rotate_left
 .cases hp
 rename_i a b ha hb;split at hp
 rotate_left
 .cases hp
 rename_i z hz;obtain⟨⟨h1,h2⟩,e⟩:=gA hz;cases e;simp only[yAb]at hp;subst hp;have e1:=Em.mC ha;have e2:=Em.mC hb;have hs:[p1,p2].map PD.strip=[Em.cH.aA a,Em.cH.aA b]:=by simp only[yAR,yBo,e1,e2]
 have hs2:[Em.cH.aA a,Em.cH.aA b].map PD.strip=[Em.cH.aA a,Em.cH.aA b]:=by simp only[yAR,yBo,Em.cH.str]
 rw[aD0 hs hs2];have ht:=yAn.1 (yAn.1 aOD a h1) b h2;split at ht
 .rename_i q hq;rw[hq];have:=IQ 40 _ _ ht;rw[this];rfl
 .cases ht
theorem aF.aB4{E:aE}(hE:aF prog E){β:Type}{r:Em β}{F:List Int->β}{f:FuncId}(h:∀l:List Int,l.length<=1000000->aI prog E f [eS.aA l,.func 126 []] (r.aA (F l))) :
  aF prog (E.add f (entry (λargs=>match args with | [p,.func g []]=>if g=126 then bZ eS r (λl=>dY (l.length<=1000000) (some (F l))) [p]else none|_=>none))):=by
 refine hE.x7 bK λargs p hg=>?_
 split at hg
 rotate_left
 .cases hg
 rename_i p1 g1;split at hg
 rotate_left
 .cases hg
 rename_i e;subst e;simp only[bZ]at hg;split at hg
 rotate_left
 .cases hg
 rename_i x hx;split at hg
 rotate_left
 .cases hg
 rename_i z hz;simp only[yAb]at hg;subst hg;obtain⟨rx,e⟩:=gA hz;cases e;have e1:=Em.mC hx;obtain⟨p2,σ2,h1,h2⟩:=h x rx;exact⟨p2,σ2,by simpa [e1,PD.strip]using h1,h2,by simp only[yAR,yBo,e1,PD.eJ,eS.dJ];rfl,r.dJ _⟩
theorem aF.aK0{E:aE}(hE:aF prog E)(hU:aH E)(h0:E 31=none)(h1:E 68=some (entry (bZ iO Em.cH λn=>dY (gF n) (some (lV n)))))(h2:E 69=some DD):aF prog (E.add 31 JD):=by
 refine hE.x7 bK λargs p hg=>?_
 unfold U6 at hg;split at hg
 rotate_left
 .cases hg
 rename_i a b c d;split at hg
 rotate_left
 .cases hg
 rename_i rs lh x i ha hb hc hd;obtain⟨⟨k1,k2,k3,k4,k5,k6,k7,k8,k9⟩,e⟩:=gA hg;cases e;have e1:=Em.mC ha;have e2:=Em.mC hb;have e3:=Em.mC hc;have e4:=Em.mC hd;obtain⟨j,rfl⟩:∃j:Nat,i=j:=⟨i.toNat,ye⟩;rw[yBy];obtain⟨p2,σ2,q1,q2⟩:=aMi hU h0 h1 h2 rs k1 k2 k3 lh.1 lh.2 k4 k5 k6 x k7 j ye;refine⟨p2,σ2,?_,q2,?_,Em.stop.dJ _⟩
 .simp only[yAR,yBo,e1,e2,e3,e4];exact q1
 .simp only[yAR,yBo,e1,e2,e3,e4,PD.eJ,aK.dJ,Em.cH.dJ,Em.pull.dJ,i64.dJ,yCo]
theorem aKf:∀args p,zA 0 args []≠some (p,[]):=by
 intro args p h;unfold zA at h;exact vz
theorem aCh(F:List UInt8->List bR->PD):∀args p,sU F 0 args []≠some (p,[]):=by
 intro args p h;unfold sU at h
 repeat' split at h
 all_goals first|(cases h;done)|(simp_all;done)
theorem aKo:∀args p,vI 0 args []≠some (p,[]):=by
 intro args p h;unfold vI at h
 repeat' split at h
 all_goals first|(cases h;done)|(simp_all;done)
theorem aKt:∀args p,zE 0 args []≠some (p,[]):=by
 intro args p h;unfold zE at h;exact vz
theorem aKz:∀args p,zF 0 args []≠some (p,[]):=by
 intro args p h;unfold zF at h;exact vz
theorem aKw:∀args p,BA 0 args []≠some (p,[]):=by
 intro args p h;unfold BA at h
 repeat' split at h
 all_goals first|(cases h;done)|(simp_all;done)
theorem aKC:∀args p,BB 0 args []≠some (p,[]):=by
 intro args p h;unfold BB at h
 repeat' split at h
 all_goals first|(cases h;done)|(simp_all;done)
end Go.Kz
end
