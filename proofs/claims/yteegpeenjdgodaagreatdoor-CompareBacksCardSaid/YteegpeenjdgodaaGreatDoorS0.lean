/- Steps of the proof. -/
import Derived.Test.YteegpeenjdgodaaGreatDoorS7
import Derived.Test.YteegpeenjdgodaaGreatDoorSF
import Derived.Test.YteegpeenjdgodaaGreatDoorS9
set_option linter.all false
set_option maxHeartbeats 40000000
set_option maxRecDepth 100000
open Go.Proofs.Tryz
noncomputable section
namespace Go.Kz
open Go Go.Proofs
abbrev M4:Type:=Int×Int×Int×Int
def SB(i:Nat)(k:Int)(tl:List cO):List cO->Nat->List M4
 | [],_=>[]
 |s::r,j=>(if 0<=eZ (rW s.name) tl 0 then [((i:Int),(j:Int),k,eZ (rW s.name) tl 0)]else [])++SB i k tl r (j+1)
def EF(bd:List bO):List bO->Nat->List M4
 | [],_=>[]
 |d::r,i=>(if eZ (pX d.name) bd 0<0 then []else SB i (eZ (pX d.name) bd 0) (bd.getD (eZ (pX d.name) bd 0).toNat ⟨[],false,0,0,[]⟩).stops d.stops 0)++EF bd r (i+1)
section
def cF.m4:cF M4:=((cF.one i64).pair ((cF.one i64).pair ((cF.one i64).pair (.one i64))))
def Em.m4:Em M4:=.agg .m4
@[simp] theorem aV2{r:M4}:Em.m4.aB r=.agg [.int .i64 r.1,.int .i64 r.2.1,.int .i64 r.2.2.1,.int .i64 r.2.2.2]:=rfl
abbrev m4s:Em (List M4):=Em.m4.list 4
def LX:Nat->List PD->List aA->Option (PD×List aA):=entry (cU Em.bY i64 λo=>eL (dP o) (some (dG o)))
theorem aAl{o:aY}(h:dP o)(fl:Nat)(σ:List aA):LX fl [Em.bY.aB o] σ=some (.int .i64 (dG o),σ):=by
 have e1:=Em.dC (Em.bY.str o);unfold LX entry cU;exact mm
theorem aFA{a i B:Nat}(h:a<=i*B):a<=(i+1)*B:=yAQ h (yBH B (yCs i))
theorem aRe{a i j n B:Nat}(h:a<=i*B+j)(hj:j<=n)(hn:n<=B):a<=(i+1)*B:=by
 rw[yBU];omega
theorem aRf{L:List M4}{x:M4}{i j:Nat}(h:L.length<=i*1000000+j):(L++[x]).length<=i*1000000+(j+1):=by
 rw[yAa,yAT,yAO];omega
theorem aRg{a i j:Nat}(h:a<=i*1000000+j):a<=i*1000000+(j+1):=Cd
variable{E:aE}(hU:aJ E)
include hU
theorem aL6(h0:E 20=none)(h1:E 27=some LX)(h2:E 52=some DJ)(h3:E 54=some DK)(a b:aY)(ha:dP a)(hb:dP b)(ea:dG a=0)(eb:dG b=0) :
  aI prog E 20 [Em.bY.aB a,Em.bY.aB b] (.aH [m4s.aB (EF b.aD a.aD 0),.int .i64 0]):=by
 have hA:=aAl ha;have hB:=aAl hb;rw[ea]at hA;rw[eb]at hB;obtain⟨an,ar,ad,ac⟩:=a;obtain⟨bn,br,bd,bc⟩:=b;simp only[fE,bC]at hA hB;simp only[fE,bC];obtain⟨W,hW⟩:=gn (EF bd ad 0);simp only[hW];obtain⟨⟨hon,hrs⟩,hla,hlb⟩:(True/\True)/\ad.length<=1000000/\bd.length<=1000000:=⟨⟨trivial,trivial⟩,ha.2.2.1.1,hb.2.2.1.1⟩;have hda:∀d∈ad,d.stops.length<=1000000:=λd hd=>(ha.2.2.1.2 d hd).2.1
 have hdb:∀d∈bd,d.stops.length<=1000000:=λd hd=>(hb.2.2.1.2 d hd).2.1
 obtain⟨A,hAA⟩:=gn (aA.box (.agg [.str an,.slice (sz 6 ar) (ar.map Em.aN.aB) .any,.slice (sz 5 ad) (ad.map Em.div.aB) .any,.slice (sz 5 ac) (ac.map Em.bF.aB) .any]));obtain⟨B,hBB⟩:=gn (aA.box (.agg [.str bn,.slice (sz 6 br) (br.map Em.aN.aB) .any,.slice (sz 5 bd) (bd.map Em.div.aB) .any,.slice (sz 5 bc) (bc.map Em.bF.aB) .any]));refine aI.aG 73 h0 func20 (h:=?_);refine aC trivial ?_;refine Wp.loop ?_;refine aC (A2 h1 hA) ?_;refine Wp.loop ?_;refine aC (A2 h1 hB) ?_;refine Wp.loop ?_;refine aC trivial ?_;refine Wp.dW (λm fr σ=>∃(i z:Nat) (L:List M4) (tok:Tok) (σ1:List aA),∃gg:Nat->PD,(i+m=ad.length/\σ1[0]?=some A/\σ1[1]?=some B/\(L=[]\/z=4)/\lI σ1 tok 74 4 L.length/\L++EF bd (ad.drop i) i=W/\L.length<=i*1000000)/\fr=gg 0::gg 1::.ptr 0 0::.ptr 1 0::gg 4::gg 5::gg 6::gg 7::gg 8::.slice z (L.map Em.m4.aB) tok::gg 10::gg 11::gg 12::gg 13::gg 14::gg 15::gg 16::gg 17::gg 18::gg 19::gg 20::gg 21::gg 22::gg 23::gg 24::gg 25::gg 26::gg 27::gg 28::tD.aB ad::.int .i64 ad.length::.int .i64 i::gg 32::gg 33::gg 34::gg 35::gg 36::gg 37::gg 38::gg 39::gg 40::gg 41::gg 42::gg 43::gg 44::gg 45::gg 46::gg 47::gg 48::gg 49::gg 50::gg 51::gg 52::gg 53::gg 54::gg 55::gg 56::gg 57::gg 58::gg 59::gg 60::gg 61::gg 62::gg 63::gg 64::gg 65::gg 66::gg 67::gg 68::gg 69::gg 70::gg 71::gg 72::[]/\σ=σ1) ?_ (ad.length) (by refine⟨0,0,[],.full,[A,B,A,B],?_⟩;exact fU (⟨Cd,rfl,rfl,.inl rfl,.inl ⟨rfl,rfl⟩,hW,yAF _⟩) (A2 hAA hBB))
 rintro m fr σ ⟨i,z,L,tok,σ1,gg,hI,rfl,rfl⟩
 obtain⟨hm,g0,g1,hz,hrow,hs,hLl⟩:=hI
 by_cases hi:i<ad.length
 .have q1:(i:Int)<(ad.length:Int):=by omega
  obtain⟨d,hd⟩:=gn (ad[i]);have hdl:=hda d (hd▸yAm hi);have eQ:ad.drop i=d::ad.drop (i+1):=by rw[yAq hi,hd]
  rw[eQ]at hs;unfold EF at hs;obtain⟨d0,d1,d2,d3,ds⟩:=d;simp only at hs hdl;obtain⟨ρ,hρ⟩:=gn (σ++[aA.box (.agg [.str d0,.bool d1,.int .i64 d2,.int .i64 d3,.slice (sz 4 ds) (ds.map Em.stop.aB) .any])]);obtain⟨N,hN⟩:=gn (σ.length);have gN:ρ[N]?=some (.box (.agg [.str d0,.bool d1,.int .i64 d2,.int .i64 d3,.slice (sz 4 ds) (ds.map Em.stop.aB) .any])):=by rw[<-hρ,<-hN];simp
  have hE:=aRh (l:=bd) hlb gN 0;obtain⟨τ,eF⟩:=gn (ρ++(bd.take (lE (pX d0) bd)).map AK);have k0:τ[0]?=some A:=by rw[<-eF,<-hρ];exact bR (bR g0)
  have k1:τ[1]?=some B:=by rw[<-eF,<-hρ];exact bR (bR g1)
  have kN:τ[N]?=some (.box (.agg [.str d0,.bool d1,.int .i64 d2,.int .i64 d3,.slice (sz 4 ds) (ds.map Em.stop.aB) .any])):=by rw[<-eF];exact bR gN
  have pV:lI τ tok 74 4 L.length:=by rw[<-eF,<-hρ];exact hrow.more.more
  have k1':=k1;rw[<-hBB]at k1';have AL:ρ[1]?=some B:=by rw[<-hρ];exact bR g1
  rw[<-hBB]at AL;rw[eF]at hE;simp only[bC]at hE;rw[<-hN]at hE gN;rw[<-hρ]at hE gN AL
  by_cases hk:eZ (pX d0) bd 0<0
  .rw[yAJ hk,yAW]at hs;refine aC (A7 q1 hi @hd AL h2 hE @hk) ?_;refine bU.normal (m-1) Cd (by refine⟨i+1,z,L,tok,τ,?_⟩;exact cL (⟨Cd,k0,k1,hz,pV,hs,aFA hLl⟩))
  .rw[yAI hk]at hs;obtain⟨K,hK⟩:∃K:Nat,eZ (pX d0) bd 0=(K:Int):=⟨_,(Int.toNat_of_nonneg Cd).symm⟩;have hKl:K<bd.length:=by rcases aFk (pX d0) bd 0 with h|h<;>omega
   have qK:(K:Int)<(bd.length:Int):=Cd;obtain⟨e,he⟩:=gn (bd[K]);have hed:bd.getD K ⟨[],false,0,0,[]⟩=e:=by rw[yAA,yAh hKl,he];rfl
   have hel:=hdb e (he▸yAm hKl);rw[hK]at hE hs hk;rw[yBj,hed]at hs;obtain⟨e0,e1,e2,e3,es⟩:=e;simp only at hs hel;rw[<-hN]at kN;obtain⟨l0,MY⟩:=yA.1 kN;have hK0:¬(K:Int)<0:=Cd;refine aC (A10 q1 hi @hd AL h2 hE hK0 @kN l0 MY) ?_;obtain⟨R,hR⟩:=gn (EF bd (ad.drop (i+1)) (i+1));rw[hR]at hs;obtain⟨M,hM⟩:∃M,M=m:=⟨_,rfl⟩;clear hE gN kN MY l0 hN eF hρ k1' AL g0 g1 hrow;refine Wp.dW (λm fr σ=>∃(j z2:Nat) (L2:List M4) (GU:Tok) (σ2:List aA),∃gg:Nat->PD,(j+m=ds.length/\σ2[0]?=some A/\σ2[1]?=some B/\(L2=[]\/z2=4)/\lI σ2 GU 74 4 L2.length/\L2++(SB i (K:Int) es (ds.drop j) j++R)=W/\L2.length<=i*1000000+j)/\fr=gg 0::gg 1::.ptr 0 0::.ptr 1 0::gg 4::gg 5::gg 6::gg 7::gg 8::.slice z2 (L2.map Em.m4.aB) GU::.int .i64 i::gg 11::.int .i64 K::gg 13::gg 14::gg 15::gg 16::gg 17::gg 18::gg 19::gg 20::gg 21::gg 22::gg 23::gg 24::gg 25::gg 26::gg 27::gg 28::tD.aB ad::.int .i64 ad.length::.int .i64 i::gg 32::gg 33::gg 34::gg 35::gg 36::gg 37::gg 38::gg 39::gg 40::gg 41::gg 42::oB.aB ds::.int .i64 ds.length::.int .i64 j::gg 46::gg 47::gg 48::gg 49::gg 50::gg 51::gg 52::gg 53::gg 54::gg 55::gg 56::gg 57::gg 58::gg 59::gg 60::gg 61::gg 62::gg 63::gg 64::gg 65::gg 66::gg 67::gg 68::gg 69::gg 70::gg 71::gg 72::[]/\σ=σ2) ?_ (ds.length) (by refine⟨0,z,L,tok,τ,?_⟩;exact cL (⟨Cd,k0,k1,hz,pV,hs,yAQ hLl (Nat.le_add_right _ 0)⟩))
   rintro m fr σ ⟨j,z2,L2,GU,σ2,gg,hI,rfl,rfl⟩
   obtain⟨hm2,f0,f1,l6,aFV,hs2,aAm⟩:=hI
   by_cases hj:j<ds.length
   .have q2:(j:Int)<(ds.length:Int):=by omega
    obtain⟨s,hsj⟩:=gn (ds[j]);have hc2:ds.drop j=s::ds.drop (j+1):=by rw[yAq hj,hsj]
    rw[hc2]at hs2;unfold SB at hs2;obtain⟨s0,s1,s2,ss⟩:=s;simp only at hs2;obtain⟨ρ,hρ⟩:=gn (σ++[aA.box (.agg [.str s0,.int .i64 s1,.int .i64 s2,.slice (sz 3 ss) (ss.map Em.fB.aB) .any])]);have gN:ρ[σ.length]?=some (.box (.agg [.str s0,.int .i64 s1,.int .i64 s2,.slice (sz 3 ss) (ss.map Em.fB.aB) .any])):=by rw[<-hρ];simp
    have hE:=aRi (l:=es) hel gN 0;obtain⟨lU,eF⟩:=gn (ρ++(es.take (lE (rW s0) es)).map AM);have k0:lU[0]?=some A:=by rw[<-eF,<-hρ];exact bR (bR f0)
    have k1:lU[1]?=some B:=by rw[<-eF,<-hρ];exact bR (bR f1)
    have SC:lI lU GU 74 4 L2.length:=by rw[<-eF,<-hρ];exact aFV.more.more
    have AL:ρ[1]?=some B:=by rw[<-hρ];exact bR f1
    rw[<-hBB]at AL;rw[eF]at hE;simp only[bC]at hE;rw[<-hρ]at hE AL;obtain⟨n,hn⟩:=gn (eZ (rW s0) es 0);rw[hn]at hE hs2
    by_cases hn0:0<=n
    .rw[yAJ hn0]at hs2;have SD:(L2.map Em.m4.aB).length=L2.length:=yAe _;obtain⟨jM,bW,hap,hr',hkeep,hnew⟩:=EX (P:=prog) (t:=69) (e:=74) (k:=4) (b:=32) (s:=z2) (xs:=L2.map Em.m4.aB) (p:=.agg [.int .i64 i,.int .i64 j,.int .i64 K,.int .i64 n]) (tk:=.any) (tok:=GU) (σ:=lU)
      underlying69 Cf (l6.imp (λh=>Ea) id) (by rw[SD];exact SC) (by rw[SD];omega) (by rw[SD];omega)
     have nA:mG (some A):=by rw[<-hAA];trivial
     have nB:mG (some B):=by rw[<-hBB];trivial
     have w0:=hkeep 0 _ (SC.ne k0 nA) k0;have w1:=hkeep 1 _ (SC.ne k1 nB) k1;rw[SD]at hr';refine aC (A11 q2 hj hsj AL h3 hE hn0 hKl qK @he hap) ?_;have hLM:(L2++[((i:Int),(j:Int),(K:Int),n)]).map Em.m4.aB=L2.map Em.m4.aB++[.agg [.int .i64 i,.int .i64 j,.int .i64 K,.int .i64 n]]:=by rw[yAH];rfl
     refine bU.normal (m-1) Cd (by refine⟨j+1,4,L2++[((i:Int),(j:Int),(K:Int),n)],jM,bW,?_⟩;exact fU (⟨Cd,w0,w1,.inr rfl,by simpa using hr',by rw[<-hs2];simp,aRf aAm⟩) @hLM)
    .rw[yAI hn0,yAW]at hs2;refine aC (A10 q2 hj hsj AL h3 hE hn0 hKl qK @he) ?_;refine bU.normal (m-1) Cd (by refine⟨j+1,z2,L2,GU,lU,?_⟩;exact cL (⟨Cd,k0,k1,l6,SC,hs2,aRg aAm⟩))
   .have q2:¬(j:Int)<(ds.length:Int):=by omega
    rw[yAs Cd]at hs2;have hs3:L2++R=W:=hs2;rw[<-hR]at hs3;refine aC q2 ?_;refine bU.normal (M-1) Cd (by refine⟨i+1,z2,L2,GU,σ,?_⟩;exact cL (⟨Cd,f0,f1,l6,aFV,hs3,aRe aAm Cd hdl⟩))
 .have q1:¬(i:Int)<(ad.length:Int):=by omega
  rw[yAs Cd]at hs;have hs2:L=W:=by
   have:EF bd [] i=[]:=rfl;rw[this,yAl]at hs;exact hs
  subst hs2;have hst:(PD.slice z (L.map Em.m4.aB) tok).strip=.slice (sz 4 L) (L.map Em.m4.aB) .any:=by
   rw[PD.tO,show(L.map Em.m4.aB).map PD.strip=L.map Em.m4.aB by rw[yBs];exact yAG λx _=>Em.m4.str x];rcases hz with h|h
   .subst h;rfl
   .subst h
    by_cases hL:L=[]
    .subst hL;rfl
    .simp[sz,hL]
  refine aC q1 ?_;refine⟨_,_,rfl,?_⟩;show PD.aH [(PD.slice z (L.map Em.m4.aB) tok).strip,.int .i64 0]=_
  rw[hst]
end
section
def gCm:Nat->List PD->List aA->Option (PD×List aA):=entry (fF Em.bY Em.bY (Em.p7 m4s i64) λa b=>eL (dP a/\dP b/\dG a=0/\dG b=0) (some (EF b.aD a.aD 0,0)))
def QO:Nat->List PD->List aA->Option (PD×List aA):=entry (cU Em.eK Em.bool λp=>some (nI p))
theorem aFU(p:pY)(fl:Nat)(σ:List aA):QO fl [Em.eK.aB p] σ=some (.bool (nI p),σ):=by
 have e1:=Em.dC (Em.eK.str p);unfold QO entry cU;simp only[e1];rfl
def BZ:Nat->List PD->List aA->Option (PD×List aA):=entry (cU Em.eK Em.bY λp=>eL (yW p/\nI p=true) (some (fW p)))
theorem NM{p:pY}(h:yW p)(hf:nI p=true)(fl:Nat)(σ:List aA):BZ fl [Em.eK.aB p] σ=some (Em.bY.aB (fW p),σ):=by
 have e1:=Em.dC (Em.eK.str p);unfold BZ entry cU;simp only[e1];rw[fY ⟨h,hf⟩]
abbrev XC:Nat->List PD->List aA->Option (PD×List aA):=entry (xM Em.bool (some true))
theorem aRd(fl:Nat)(σ:List aA):XC fl [] σ=some (.bool true,σ):=rfl
variable{E:aE}(hU:aJ E)
include hU
end
theorem aF.le{P:Program}{E:aE}{f:FuncId}{g g':Je}(h:aF P (E.add f g))(hE:aF P E)(hg:∀fl args σ x,g' fl args σ=some x->g fl args σ=some x):aF P (E.add f g'):=by
 intro F fl f1 g1 args c vs p σ' hF h1 hgo hs hX hv;unfold aE.add at h1;split at h1
 .rename_i e;subst e;simp only[yAb]at h1;subst h1;exact h hF (show E.add f1 g f1=some g from yAJ rfl) (hg _ _ _ _ hgo) hs hX hv
 .exact hE hF h1 hgo hs hX hv
theorem aFS{args args':Jk}(h:args.map PD.strip=args')(h2:args'.map PD.strip=args'):∀rs:List (List PD×PD),sJ rs args=sJ rs args'
 | []=>rfl
 |r::rs=>by
  unfold sJ;rw[h,h2,aFS h h2 rs]
theorem aRb:(D4.all λa=>rS.all λb=>match sJ NL [Em.dI.aB a,Em.dI.aB b]with|some p=>uA 40 p (.aH [.int .i64 (xD a b),.int .i64 0])|none=>false)=true:=Cj
theorem aMo:aF prog (rV.add 69 F3):=by
 refine aRc.le aFT λfl args σ x h=>?_
 unfold F3 entry fF at h;split at h
 rotate_left
 .cases h
 rename_i p hp;simp only[yAb]at h;subst h;split at hp
 rotate_left
 .cases hp
 rename_i p1 p2;split at hp
 rotate_left
 .cases hp
 rename_i a b ha hb;split at hp
 rotate_left
 .cases hp
 rename_i z hz;obtain⟨⟨h1,h2⟩,e⟩:=gE hz;cases e;simp only[yAb]at hp;subst hp;have e1:=Em.oD ha;have e2:=Em.oD hb;have hs:[p1,p2].map PD.strip=[Em.dI.aB a,Em.dI.aB b]:=by simp only[yAV,yBY,e1,e2]
 have hs2:[Em.dI.aB a,Em.dI.aB b].map PD.strip=[Em.dI.aB a,Em.dI.aB b]:=by simp only[yAV,yBY,Em.dI.str]
 rw[aFS hs hs2];have ht:=yAn.1 (yAn.1 aRb a h1) b h2;split at ht
 .rename_i q hq;rw[hq];have:=LA 40 _ _ ht;rw[this];rfl
 .cases ht
theorem aF.aDF{E:aE}(hE:aF prog E){β:Type}{r:Em β}{F:List Int->β}{f:FuncId}(h:∀l:List Int,l.length<=1000000->aI prog E f [gJ.aB l,.func 126 []] (r.aB (F l))) :
  aF prog (E.add f (entry (λargs=>match args with | [p,.func g []]=>if g=126 then cU gJ r (λl=>eL (l.length<=1000000) (some (F l))) [p]else none|_=>none))):=by
 refine hE.AQ bS λargs p hg=>?_
 split at hg
 rotate_left
 .cases hg
 rename_i p1 g1;split at hg
 rotate_left
 .cases hg
 rename_i e;subst e;simp only[cU]at hg;split at hg
 rotate_left
 .cases hg
 rename_i x hx;split at hg
 rotate_left
 .cases hg
 rename_i z hz;simp only[yAb]at hg;subst hg;obtain⟨rx,e⟩:=gE hz;cases e;have e1:=Em.oD hx;obtain⟨p2,σ2,h1,h2⟩:=h x rx;exact⟨p2,σ2,by simpa [e1,PD.strip]using h1,h2,by simp only[yAV,yBY,e1,PD.fZ,gJ.eR];rfl,r.eR _⟩
theorem aF.aMs{E:aE}(hE:aF prog E)(hU:aJ E)(h0:E 31=none)(h1:E 68=some (entry (cU kB Em.dI λn=>eL (iB n) (some (nW n)))))(h2:E 69=some F3):aF prog (E.add 31 LY):=by
 refine hE.AQ bS λargs p hg=>?_
 unfold YX at hg;split at hg
 rotate_left
 .cases hg
 rename_i a b c d;split at hg
 rotate_left
 .cases hg
 rename_i rs lh x i ha hb hc hd;obtain⟨⟨k1,k2,k3,k4,k5,k6,k7,k8,k9⟩,e⟩:=gE hg;cases e;have e1:=Em.oD ha;have e2:=Em.oD hb;have e3:=Em.oD hc;have e4:=Em.oD hd;obtain⟨j,rfl⟩:∃j:Nat,i=j:=⟨i.toNat,Cd⟩;rw[yBj];obtain⟨p2,σ2,q1,q2⟩:=aOW hU h0 h1 h2 rs k1 k2 k3 lh.1 lh.2 k4 k5 k6 x k7 j Cd;refine⟨p2,σ2,?_,q2,?_,Em.stop.eR _⟩
 .simp only[yAV,yBY,e1,e2,e3,e4];exact q1
 .simp only[yAV,yBY,e1,e2,e3,e4,PD.fZ,aQ.eR,Em.dI.eR,Em.pull.eR,i64.eR,yCh]
theorem aLH:∀args p,BV 0 args []≠some (p,[]):=by
 intro args p h;unfold BV at h;exact Ao
theorem aDS(F:List UInt8->List cJ->PD):∀args p,vM F 0 args []≠some (p,[]):=by
 intro args p h;unfold vM at h
 repeat' split at h
 all_goals first|(cases h;done)|(simp_all;done)
theorem aLQ:∀args p,xZ 0 args []≠some (p,[]):=by
 intro args p h;unfold xZ at h
 repeat' split at h
 all_goals first|(cases h;done)|(simp_all;done)
theorem aLV:∀args p,BW 0 args []≠some (p,[]):=by
 intro args p h;unfold BW at h;exact Ao
theorem aL1:∀args p,BY 0 args []≠some (p,[]):=by
 intro args p h;unfold BY at h;exact Ao
theorem aLY:∀args p,DJ 0 args []≠some (p,[]):=by
 intro args p h;unfold DJ at h
 repeat' split at h
 all_goals first|(cases h;done)|(simp_all;done)
theorem aL4:∀args p,DK 0 args []≠some (p,[]):=by
 intro args p h;unfold DK at h
 repeat' split at h
 all_goals first|(cases h;done)|(simp_all;done)
end Go.Kz
end
