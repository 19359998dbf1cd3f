/- Steps of the proof. -/
import Derived.Test.YteegpeenjdgodaaGreatDoorX1b
set_option linter.all false
set_option maxHeartbeats 40000000
set_option maxRecDepth 100000
open Go.Proofs.Tryz
namespace Go.Kz
open Go Go.Proofs
section
def zN(way index:Int)(c:bX):bX:={ c with dK:=(fF c.dK way index).1,dst:=(fF c.dst way index).1 }
def uC(way index:Int)(c:bX):Bool:=(fF c.dK way index).2&&(fF c.dst way index).2
def qW(way index:Int)(o:aV):aV:={ o with aP:=o.aP.map (zN way index) }
def jJ(l:List bX):List PD:=(l.map λc=>[PD.str c.name,.int .i64 c.dK,.int .i64 c.dst,.int .i64 c.shift,.bool c.qJ]).flatten
theorem RZ(R:List bX):(R.map Em.aZ.aB).flatMap PD.cells=jJ R:=by
 unfold jJ
 induction R with
 |nil=>rfl
 |cons r R ih=>simp only[yAW,yBw,yBB,ih];rfl
def rS(way index:Int)(i:Nat)(l:List bX):List bX:=(l.take i).map (zN way index)++l.drop i
theorem JB(way index:Int)(i:Nat)(l:List bX):(rS way index i l).length=l.length:=by
 unfold rS;rw[yAa,yAe,yAt,yBa];omega
theorem aOL(way index:Int)(i:Nat)(l:List bX)(h:i<l.length):(rS way index i l)[i]'(by rw[JB];exact h)=l[i]:=by
 unfold rS;exact ki
theorem aOM(way index:Int)(i:Nat)(l:List bX)(h:i<l.length):(rS way index i l).set i (zN way index l[i])=rS way index (i+1) l:=by
 unfold rS;exact ko
theorem R0(l:List bX):∀g∈(l.map λc=>[PD.str c.name,.int .i64 c.dK,.int .i64 c.dst,.int .i64 c.shift,.bool c.qJ]),g.length=5:=λg h=>Ff
theorem MQ(l:List bX):(jJ l).length=l.length*5:=by
 unfold jJ;rw[lF (sz:=5) _ (R0 l),yAe]
theorem aFj(l:List bX)(i:Nat)(h:i<l.length):((jJ l).drop (i*5)).take 5=[.str l[i].name,.int .i64 l[i].dK,.int .i64 l[i].dst,.int .i64 l[i].shift,.bool l[i].qJ]:=by
 have h1:=qX (sz:=5) (l.map λc=>[PD.str c.name,.int .i64 c.dK,.int .i64 c.dst,.int .i64 c.shift,.bool c.qJ]) i Ed (R0 l);rw[yBq]at h1;exact h1
theorem aFk(l:List bX)(i:Nat)(h:i<l.length)(r:Int):dF (jJ l) (i*5+1) [.int .i64 r]=jJ (l.set i { l[i]with dK:=r }):=by
 have h1:=wY (sz:=5) (new:=[.int .i64 r]) (j:=1) Ck (l.map λc=>[PD.str c.name,.int .i64 c.dK,.int .i64 c.dst,.int .i64 c.shift,.bool c.qJ]) i Ed (R0 l);rw[yBq]at h1;unfold jJ;rw[h1,yCQ];rfl
theorem ZI(l:List bX)(i:Nat)(h:i<l.length)(r:Int):dF (jJ l) (i*5+2) [.int .i64 r]=jJ (l.set i { l[i]with dst:=r }):=by
 have h1:=wY (sz:=5) (new:=[.int .i64 r]) (j:=2) Ck (l.map λc=>[PD.str c.name,.int .i64 c.dK,.int .i64 c.dst,.int .i64 c.shift,.bool c.qJ]) i Ed (R0 l);rw[yBq]at h1;unfold jJ;rw[h1,yCQ];rfl
theorem mZ.aON{σ σ':Jp}{lo:Nat}{d:bI}{p:PD}{iS:Nat}{ss:Jn}{tG:Nat->Nat}{tgs:Jm}{tW:Nat->Nat->Nat}(T:TypeId)(h:mZ σ lo d p iS ss tG tgs tW)(ht:56≠T/\92≠T/\89≠T)(hk:∀(id:Nat) (t:TypeId) (n v:Nat) (cs:List PD),t≠T->σ[id]?=some (.row t n v cs)->σ'[id]?=some (.row t n v cs)):mZ σ' lo d p iS ss tG tgs tW:=by
 obtain⟨h1,h2,h3,h4,h5⟩:=h;refine⟨h1,h2,λhp=>⟨(h3 hp).1,hk _ _ _ _ _ ht.1 (h3 hp).2⟩,λs h=>⟨(h4 s h).1,?_⟩,h5⟩;obtain⟨k1,k2,k3,k4,k5⟩:=(h4 s h).2;exact⟨k1,k2,λhp=>⟨(k3 hp).1,hk _ _ _ _ _ ht.2.1 (k3 hp).2⟩,λg h=>⟨(k4 g h).1,λhp=>⟨((k4 g h).2 hp).1,hk _ _ _ _ _ ht.2.2 ((k4 g h).2 hp).2⟩⟩,k5⟩
variable{E E0:aE}(hU:aJ E)
include hU
theorem aOo{gM:Jk}(h0:E 83=none)(h1:E 111=some gM)(way index:Int)
  (hM:∀n,-1000000000<=n/\n<=1000000000->∀fl σ,gM fl [.int .i64 n,.int .i64 way,.int .i64 index] σ=some (.aH [.int .i64 (fF n way index).1,.bool (fF n way index).2],σ))
  (o:aV) (p:PD) (aS:List aA) (lo iR iD iC:Nat) (ds:List (List PD)) (tS:Nat->Nat) (tss:Nat->List (List PD)) (tG:Nat->Nat->Nat) (tgs:Nat->Nat->List (List PD)) (tW:Nat->Nat->Nat->Nat) (hO:iY aS lo o p iR iD iC ds tS tss tG tgs tW) (hlo:lo<=aS.length) (ho:eF o)
  (hb:∀c∈o.aP,(-1000000000<=c.dK/\c.dK<=1000000000)/\-1000000000<=c.dst/\c.dst<=1000000000) :
  aK prog E 0 (.inl 83) [p,.int .i64 way,.int .i64 index] aS (λq σ'=>∃b:Bool,q=.bool b/\(b=true->(∀c∈o.aP,uC way index c=true)/\iY σ' lo (qW way index o) p iR iD iC ds tS tss tG tgs tW/\aS.length<=σ'.length/\∀id,id<lo->σ'[id]?=aS[id]?)/\(b=false->(¬ ∀c∈o.aP,uC way index c=true)/\aS.length<=σ'.length/\∀id,id<lo->σ'[id]?=aS[id]?)):=by
 have GN:aJ E/\True:=⟨hU,trivial⟩;clear hU;have hp:=hO.p;subst hp;obtain⟨hR,hhR⟩:=gn (Go.Kz.hd 6 iR o.aR.length);obtain⟨hD,hhD⟩:=gn (Go.Kz.hd 5 iD o.aD.length);obtain⟨hC,hhC⟩:=gn (Go.Kz.hd 5 iC o.aP.length);have lC:=z6 5 iC o.aP.length underlying33;have pR:hR.plain=true:=Da;have pD:hD.plain=true:=Db;have pC:hC.plain=true:=Dc;unfold PD.plain at pR pD pC;simp only[hhR,hhD,hhC]at hO lC ⊢;simp[gA,underlying33]at lC;obtain⟨B,hB⟩:=gn (aS.length);refine aK.aG 56 h0 func83 (h:=?_);apply WL.tH Cp;apply SL.box (p:=.agg [.str o.name,hR,hD,hC]) (hw:=Wt.i rfl) (hx:=rfl) (hp:=Gz) (hr:=Ns.i rfl) (hn:=Ns.i rfl) (hf:=Fr.i rfl);refine oS lC ?_;apply SQ.nil;refine aC (A2 lC hB) ?_;have hoc:=ho.2.2;have aWA:o.aP.length<=1000000:=hoc;obtain⟨ρ,hρ⟩:=gn (aS++[aA.box (.agg [.str o.name,hR,hD,hC])]);rw[hρ,hB];have vB:ρ[B]?=some (.box (.agg [.str o.name,hR,hD,hC])):=by rw[<-hρ,<-hB];simp
 have R1:∀(id:Nat) (x:aA),aS[id]?=some x->ρ[id]?=some x:=λid x h=>by rw[<-hρ];exact bG h
 have lρ:ρ.length=B+1:=by rw[<-hρ,yAa,hB];rfl
 have vC:0<o.aP.length->ρ[iC]?=some (.row 58 5 0 (jJ o.aP)):=λh=>by rw[<-RZ];exact R1 _ _ (hO.aZ h).2
 refine Wp.dJ (λm fr σ=>∃(i:Nat) (σ1:List aA),∃gg:Nat->PD,(i+m=o.aP.length/\ρ.length<=σ1.length/\(∀(id:Nat) (x:aA),(0<o.aP.length->id≠iC)->ρ[id]?=some x->σ1[id]?=some x)/\(0<o.aP.length->σ1[iC]?=some (.row 58 5 0 (jJ (rS way index i o.aP))))/\(∀x∈o.aP.take i,uC way index x=true))/\fr=[gg 0,.int .i64 way,.int .i64 index,.ptr B 0,gg 4,gg 5,.bool false,gg 7,gg 8,gg 9,gg 10,gg 11,gg 12,gg 13,hC,.int .i64 o.aP.length,.int .i64 i,gg 17,gg 18,gg 19,gg 20,gg 21,gg 22,gg 23,gg 24,gg 25,gg 26,gg 27,gg 28,gg 29,gg 30,gg 31,gg 32,gg 33,gg 34,gg 35,gg 36,gg 37,gg 38,gg 39,gg 40,gg 41,gg 42,gg 43,gg 44,gg 45,gg 46,gg 47,gg 48,gg 49,gg 50,gg 51,gg 52,gg 53,gg 54,gg 55]/\σ=σ1) ?_ (o.aP.length) (by refine⟨0,ρ,?_⟩;exact cE (⟨Cj,yAk _,λid x _ h=>h,vC,λx h=>Ea⟩))
 rintro m fr σ ⟨i,σ1,gg,hI,rfl,rfl⟩
 obtain⟨hm,jI,bU,sV,kB⟩:=hI;have vg:=bU B _ (λh e=>by rw[e,vC h]at vB;cases vB) vB;have hlow:∀id,id<lo->σ[id]?=aS[id]?:=λid hid=>by
  have xZ:id<aS.length:=Cj;have hx0:aS[id]?=some aS[id]:=yAh xZ;rw[hx0];exact bU id _ (λh e=>absurd hid (by rw[e];exact Nat.not_lt.2 (hO.aZ h).1)) (R1 _ _ hx0)
 by_cases hi:i<o.aP.length
 .have q1:(i:Int)<(o.aP.length:Int):=by omega
  have hCr:hC=.aO iC 0 0 o.aP.length 5:=by rw[<-hhC];exact qF Cj
  have vt:=sV Cj;have hat:=aFj (rS way index i o.aP) i (by rw[JB];exact hi);have hlen:=MQ (rS way index i o.aP);have jC:=aFk (rS way index i o.aP) i (by rw[JB];exact hi) (fF o.aP[i].dK way index).1;have nO:=ZI ((rS way index i o.aP).set i { o.aP[i]with dK:=(fF o.aP[i].dK way index).1 }) i (by rw[yAD,JB];exact hi) (fF o.aP[i].dst way index).1;rw[yCT,List.set_set]at nO;rw[JB]at hlen;rw[aOL way index i o.aP hi]at hat jC;have hms:=aOM way index i o.aP hi;have hmw:zN way index o.aP[i]={ o.aP[i]with dK:=(fF o.aP[i].dK way index).1,dst:=(fF o.aP[i].dst way index).1 }:=rfl;rw[hmw]at hms;simp only at nO hms;rw[hms]at nO;have hbi:=hb _ (yAm hi);have JC:=hM _ hbi.1;have z7:=hM _ hbi.2;obtain⟨f0,CI⟩:=gn (jJ (rS way index i o.aP));rw[CI]at vt hlen hat jC;obtain⟨f1,z8⟩:∃c,dF f0 (i*5+1) [.int .i64 (fF o.aP[i].dK way index).1]=c:=⟨_,rfl⟩;rw[<-jC,z8]at nO;have hl1:f1.length=o.aP.length*5:=by
   rw[<-z8,jC,MQ,yAD,JB]
  have hokw:uC way index o.aP[i]=((fF o.aP[i].dK way index).2&&(fF o.aP[i].dst way index).2):=rfl;obtain⟨c,hc⟩:=gn (o.aP[i]);rw[hc]at hat z8 JC z7 nO hokw;obtain⟨rT,yT⟩:=yA.1 vt;obtain⟨rG,yG⟩:=yA.1 vg;have vN:i*5+5<=f0.length:=Cj;have R2:i*5+5<=f1.length:=Cj;have R3:i*5+1+1<=f0.length:=Cj;have R4:i*5+2+1<=f1.length:=Cj;have lP:jD prog 33 (.aO iC 0 0 o.aP.length 5) (.int .i64 i)=some (.dG iC 0 (i*5)):=by
   simp[jT,hi]
  obtain⟨nm,a,b,sh,th⟩:=c;simp only at hat z8 JC z7 nO hokw;obtain⟨KB,aFl⟩:=gn ((fF a way index).2);obtain⟨KC,o6⟩:=gn ((fF b way index).2);obtain⟨n1,yY⟩:=gn ((fF a way index).1);obtain⟨n2,hn2⟩:=gn ((fF b way index).1);rw[aFl,yY]at JC;rw[o6,hn2]at z7;rw[yY]at z8;rw[hn2]at nO;rw[aFl,o6]at hokw;simp only[dF,yAT,yAO,yAp,Nat.reduceAdd,yBX,yAi,yBs,yAV]at z8 nO;have j0:∀x:aA,(σ++[x])[σ.length]?=some x:=λx=>Ck
  have R5:=fun(L:List aA)=>bG (τ:=L) vt
  have MS:=fun(L:List aA)=>bG (τ:=L) vg
  rw[hCr]at vg yG MS;rw[hCr];cases KB with
  |true=>
   cases KC with
   |true=>
    refine aC (A20 q1 hi lP vt rT yT vg rG yG vN R2 R3 R4 hat h1 JC z7 z8 nO (A3 j0 R5 MS)) ?_;obtain⟨σ2,bO⟩:=gn (σ++[aA.box (.agg [.str nm,.int .i64 a,.int .i64 b,.int .i64 sh,.bool th])]);have u0:=MS [aA.box (.agg [.str nm,.int .i64 a,.int .i64 b,.int .i64 sh,.bool th])];have u7:=R5 [aA.box (.agg [.str nm,.int .i64 a,.int .i64 b,.int .i64 sh,.bool th])];have fZ:σ.length<=σ2.length:=Ex;have hk2:∀(id:Nat) (x:aA),σ[id]?=some x->σ2[id]?=some x:=λid x h=>by rw[<-bO];exact bG h
    rw[bO]at u0 u7 ⊢;obtain⟨r7,y7⟩:=yA.1 u7;obtain⟨w0,z0⟩:=yA.1 u0;refine Wp.aOO GN.1 [some (46,52)] Cp Cl ?_;refine nN (A14 u0 w0 @z0 u7 r7 y7 lP hi vN R2 R3 R4 z8 nO) ?_;apply SQ.nil;refine⟨⟨λx y hx hy e=>?_,trivial⟩,?_⟩
    .have hx':some B=some x:=hx;have hy':some iC=some y:=hy;have e2:B=iC:=by rw[yAR hx',yAR hy'];exact e
     rw[e2,u7]at u0;cases u0
    refine aC q1 ?_;obtain⟨bW,dB⟩:=gn (σ2.set iC (.row 58 5 0 (jJ (rS way index (i+1) o.aP))));have hto:∀x∈o.aP.take (i+1),uC way index x=true:=λx hx=>by
     rw[yBK hi]at hx;rcases yBh.1 hx with hx|hx
     .exact kB x hx
     .rw[yCn.1 hx,hc];exact hokw
    refine bM.normal (m-1) Cj (by refine⟨i+1,bW,?_⟩;exact fQ (⟨Cj,Ew,λid x h hx=>by rw[<-dB,yAd (yAU (h Cj))];exact hk2 _ _ (bU id x h hx),λ_=>by rw[<-dB];exact yAj r7,hto⟩) @dB)
   |false=>
    exact ew
  |false=>
   exact ew
 .have q1:¬(i:Int)<(o.aP.length:Int):=by omega
  refine aC q1 ?_;have hft:o.aP.take i=o.aP:=yAz Cj;have hmx:rS way index i o.aP=o.aP.map (zN way index):=by unfold rS;rw[hft,yAs Cj,yAl]
  rw[hmx]at sV;rw[hft]at kB;have hk:∀(id:Nat) (t:TypeId) (n v:Nat) (cs:List PD),t≠58->aS[id]?=some (.row t n v cs)->σ[id]?=some (.row t n v cs):=λid t n v cs ht h=>bU id _ (λhp e=>by rw[e,(hO.aZ hp).2]at h;exact ht (aA.row.inj (yAR h)).1.symm) (R1 _ _ h)
  refine⟨_,_,rfl,true,rfl,λ_=>⟨kB,?_,by show B<=σ.length;omega,λid h=>?_⟩,λh=>Co⟩
  .obtain⟨g1,g2,g3,g4,g5,g6,g7,g8⟩:=hO;refine⟨?_,λh=>⟨(g2 h).1,hk _ _ _ _ _ Cn (g2 h).2⟩,λh=>?_,g4,λh=>⟨(g5 h).1,hk _ _ _ _ _ Cn (g5 h).2⟩,λd h=>⟨(g6 d h).1,(g6 d h).2.aON 58 Cn hk⟩,g7,g8⟩
   .rw[g1];simp[qW]
   .have h':0<o.aP.length:=by simpa [qW]using h
    refine⟨(g3 h').1,?_⟩;rw[RZ];exact sV h'
  .have hz:id<aS.length:=by omega
   show σ[id]?=aS[id]?
   rw[yAh hz];exact bU id _ (λhp e=>by have:=(hO.aZ hp).1;omega) (R1 _ _ (yAh hz))
end
section
def xU(e k:Nat):Nat->List PD->List aA->Option (PD×List aA):=λfl args σ=>match args with
 | [.aO id 0 0 n sz,.int .i64 i,.slice sx [y] _]=>match σ[id]? with
   |some (.row e' size 0 cs)=>if fl<=id/\size=k/\sz=k/\e'=e/\cs.length=n*k/\i=n/\0<n/\n<=200/\sx=k/\y.cells.length=k then
     some (.aO id 1 0 (n+1) k,σ.set id (.row e k 1 (cs++y.cells)))else none
   |_=>none
 |_=>none
def B7(e k:Nat):Nat->List PD->List aA->Option (PD×List aA):=λfl args σ=>match args with
 | [.slice 0 [] .full,.int .i64 i,.slice sx [y] _]=>if i=0/\sx=k/\y.cells.length=k then some (.aO σ.length 0 0 1 k,σ++[.row e k 0 y.cells])else none
 |_=>none
variable{E E0:aE}(hU:aJ E)
include hU
theorem aRb{f ov t e k:Nat}(h4:InC f ov t e k)(h0:E f=none)(fl id n:Nat)(hfl:fl<=id)(y:PD)(tok:Tok)(τ:List aA)(cs:List PD)(hr:τ[id]?=some (.row e k 0 cs))(hl:cs.length=n*k)(hn:n<=200)(hp:0<n)(hy:y.cells.length=k) :
  aK prog E fl (.inl f) [.aO id 0 0 n k,.int .i64 n,.slice k [y] tok] τ (λp σ'=>p=.aO id 1 0 (n+1) k/\σ'=τ.set id (.row e k 1 (cs++y.cells))):=by
 have n8:=h4.ut;have hk:=h4.hk;have hsl:kU prog t (.aO id 0 0 n k) (some (some (.int .i64 n))) none none=some (.slice k [] .any):=by
  have h1:cM prog e=some k:=by
   exact fy
  have h2:¬n=0:=Cj;simp[kU,n8,h1,kV,gL,h2]
 have hap:∀u,iK t u=true->dM prog u fl τ t (.aO id 0 0 n k) (.slice k [y] tok)=some (.aO id 1 0 (n+1) k,τ.set id (.row e k 1 (cs++y.cells))):=λu hu=>by
  obtain⟨inf,z,hin,hz,hs,hb,hzs,h1⟩:=NU (P:=prog) (e:=e) (k:=k) (by
   unfold InC at h4;rcases h4 with⟨rfl,rfl,rfl,rfl,rfl⟩ | ⟨rfl,rfl,rfl,rfl,rfl⟩ | ⟨rfl,rfl,rfl,rfl,rfl⟩ | ⟨rfl,rfl,rfl,rfl,rfl⟩<;>kernel_rfl)
  have hbb:(n+1)*inf.bytes<=140737488355328:=yAQ (yCU (show n+1<=1000 by omega) hb) Cn;have hml:n+1<=maxLen:=Dj;have hall:z.cells.toList.all Value.oneCell'=true:=yAn.2 λv hv=>h1 v hv
  have hv:tV τ (.slice k [y] tok)=some (k,[y]):=rfl;unfold InC at h4;rcases h4 with⟨rfl,rfl,rfl,rfl,rfl⟩ | ⟨rfl,rfl,rfl,rfl,rfl⟩ | ⟨rfl,rfl,rfl,rfl,rfl⟩ | ⟨rfl,rfl,rfl,rfl,rfl⟩
  all_goals
   unfold dM;rw[yAJ hu,n8,hv];simp only[hin,hz,hs,hzs,hall,hbb,hml,hr,yDa,hfl,yBy,yAK,Nat.lt_add_one,yDN,yCe,yCi,yBk];rw[yAI Cj,yAJ Cj];simp
 unfold InC at h4;rcases h4 with⟨rfl,rfl,rfl,rfl,rfl⟩ | ⟨rfl,rfl,rfl,rfl,rfl⟩ | ⟨rfl,rfl,rfl,rfl,rfl⟩ | ⟨rfl,rfl,rfl,rfl,rfl⟩
 all_goals
  have CQ:=h0
  first|apply aK.xK h0 func112 rfl|apply aK.xK h0 func114 rfl|apply aK.xK h0 func116 rfl|apply aK.xK h0 func120 rfl
  focus(simp[show Tryz.f112.ntmps=_ from rfl,show Tryz.f114.ntmps=_ from rfl,show Tryz.f116.ntmps=_ from rfl,show Tryz.f120.ntmps=_ from rfl,List.replicate];rfl)
  refine aC (A2 hsl hap) ?_;exact ay
theorem SZ{f ov t e k:Nat}(h4:InC f ov t e k)(hE:aF prog E)(h0:E f=none):aF prog (E.add f (xU e k)):=
 hE.add bK λfl args σ p σ' h=>by
  unfold xU at h;split at h
  rotate_left
  .cases h
  rename_i id n sz i sx y tok;split at h
  rotate_left
  .cases h
  rename_i e' size cs hq;split at h
  rotate_left
  .cases h
  rename_i hc;obtain⟨hfl,rfl,rfl,rfl,hlen,rfl,hp,hn,rfl,hy⟩:=hc;simp only[yAb,yAc]at h;obtain⟨rfl,rfl⟩:=h;obtain⟨p1,σ1,k1,rfl,rfl⟩:=(aRb hU h4 h0 fl id n hfl y tok σ cs hq hlen hn hp hy).ex;exact k1
theorem aRc{f ov t e k:Nat}(h4:InC f ov t e k)(h0:E f=none)(fl:Nat)(y:PD)(tok:Tok)(τ:List aA)(hy:y.cells.length=k) :
  aK prog E fl (.inl f) [.slice 0 [] .full,.int .i64 0,.slice k [y] tok] τ (λp σ'=>p=.aO τ.length 0 0 1 k/\σ'=τ++[.row e k 0 y.cells]):=by
 have n8:=h4.ut;have hk:=h4.hk;have hap:∀u,iK t u=true->dM prog u fl τ t (.slice 0 [] .full) (.slice k [y] tok)=some (.aO τ.length 0 0 1 k,τ++[.row e k 0 y.cells]):=λu hu=>by
  obtain⟨inf,z,hin,hz,hs,hb,hzs,h1⟩:=NU (P:=prog) (e:=e) (k:=k) (by
   unfold InC at h4;rcases h4 with⟨rfl,rfl,rfl,rfl,rfl⟩ | ⟨rfl,rfl,rfl,rfl,rfl⟩ | ⟨rfl,rfl,rfl,rfl,rfl⟩ | ⟨rfl,rfl,rfl,rfl,rfl⟩<;>kernel_rfl)
  have hbb:(0+1)*inf.bytes<=140737488355328:=Cj;have hml:0+1<=maxLen:=Dj;have hall:z.cells.toList.all Value.oneCell'=true:=yAn.2 λv hv=>h1 v hv
  have hv:tV τ (.slice k [y] tok)=some (k,[y]):=rfl;unfold InC at h4;rcases h4 with⟨rfl,rfl,rfl,rfl,rfl⟩ | ⟨rfl,rfl,rfl,rfl,rfl⟩ | ⟨rfl,rfl,rfl,rfl,rfl⟩ | ⟨rfl,rfl,rfl,rfl,rfl⟩
  all_goals
   unfold dM;rw[yAJ hu,n8,hv];simp only[hin,hz,hs,hzs,hall,hbb,hml,yDa,yAO,Tok.fresh,yBy,yAK,Nat.lt_add_one,yDN,yCe,yCi,yCA,yBk];simp
 unfold InC at h4;rcases h4 with⟨rfl,rfl,rfl,rfl,rfl⟩ | ⟨rfl,rfl,rfl,rfl,rfl⟩ | ⟨rfl,rfl,rfl,rfl,rfl⟩ | ⟨rfl,rfl,rfl,rfl,rfl⟩
 all_goals
  have CQ:=h0
  first|apply aK.xK h0 func112 rfl|apply aK.xK h0 func114 rfl|apply aK.xK h0 func116 rfl|apply aK.xK h0 func120 rfl
  focus(simp[show Tryz.f112.ntmps=_ from rfl,show Tryz.f114.ntmps=_ from rfl,show Tryz.f116.ntmps=_ from rfl,show Tryz.f120.ntmps=_ from rfl,List.replicate];rfl)
  refine aC hap ?_;exact ay
theorem S1{f ov t e k:Nat}(h4:InC f ov t e k)(hE:aF prog E)(h0:E f=none):aF prog (E.add f (B7 e k)):=
 hE.add bK λfl args σ p σ' h=>by
  unfold B7 at h;split at h
  rotate_left
  .cases h
  split at h
  rotate_left
  .cases h
  rename_i hc;obtain⟨rfl,rfl,hy⟩:=hc;simp only[yAb,yAc]at h;obtain⟨rfl,rfl⟩:=h;obtain⟨p1,σ1,k1,rfl,rfl⟩:=(aRc hU h4 h0 fl _ _ σ hy).ex;exact k1
theorem aNo(hE:aF prog E)(h0:E 112=none):aF prog (E.add 112 (xU 48 6)):=SZ hU (.inl ⟨rfl,rfl,rfl,rfl,rfl⟩) hE h0
theorem aNp(hE:aF prog E)(h0:E 112=none):aF prog (E.add 112 (B7 48 6)):=S1 hU (.inl ⟨rfl,rfl,rfl,rfl,rfl⟩) hE h0
theorem aNr(hE:aF prog E)(h0:E 114=none):aF prog (E.add 114 (xU 53 5)):=SZ hU (.inr (.inl ⟨rfl,rfl,rfl,rfl,rfl⟩)) hE h0
theorem aNs(hE:aF prog E)(h0:E 114=none):aF prog (E.add 114 (B7 53 5)):=S1 hU (.inr (.inl ⟨rfl,rfl,rfl,rfl,rfl⟩)) hE h0
theorem aNy(hE:aF prog E)(h0:E 116=none):aF prog (E.add 116 (xU 56 4)):=SZ hU (.inr (.inr (.inl ⟨rfl,rfl,rfl,rfl,rfl⟩))) hE h0
theorem aNz(hE:aF prog E)(h0:E 116=none):aF prog (E.add 116 (B7 56 4)):=S1 hU (.inr (.inr (.inl ⟨rfl,rfl,rfl,rfl,rfl⟩))) hE h0
theorem aNu(hE:aF prog E)(h0:E 120=none):aF prog (E.add 120 (xU 58 5)):=SZ hU (.inr (.inr (.inr ⟨rfl,rfl,rfl,rfl,rfl⟩))) hE h0
theorem aNv(hE:aF prog E)(h0:E 120=none):aF prog (E.add 120 (B7 58 5)):=S1 hU (.inr (.inr (.inr ⟨rfl,rfl,rfl,rfl,rfl⟩))) hE h0
end
section
variable{E E0:aE}(hU:aJ E)
include hU
theorem aOv{gI gD:Jk}(h0:E 87=none)(h1:E 120=some gI)(h2:E 121=some gD)
  (l p:PD) (way i:Int) (nm:List UInt8) (a b sh:Int) (th:Bool) (τ σ':List aA) (hw:way=0) (hi:0<=i/\i<=1000) (hI:gI 0 [l,.int .i64 i,.slice 5 [.agg [.str nm,.int .i64 a,.int .i64 b,.int .i64 sh,.bool th]] .full] (τ++[.box (.agg [.str nm,.int .i64 a,.int .i64 b,.int .i64 sh,.bool th])])=some (p,σ')) :
  aK prog E 0 (.inl 87) [l,.int .i64 way,.int .i64 i,.agg [.str nm,.int .i64 a,.int .i64 b,.int .i64 sh,.bool th]] τ (λp1 σ1=>p1=p/\σ1=σ'):=by
 subst hw;clear hU;refine aK.aG 29 h0 func87 (h:=?_);exact Ai
theorem aOw{gI gD:Jk}(h0:E 87=none)(h1:E 120=some gI)(h2:E 121=some gD)
  (l p:PD) (way i:Int) (nm:List UInt8) (a b sh:Int) (th:Bool) (τ σ':List aA) (hw:way=1) (hi:0<=i/\i<=1000) (hD:gD 0 [l,.int .i64 i,.int .i64 (i+1)] (τ++[.box (.agg [.str nm,.int .i64 a,.int .i64 b,.int .i64 sh,.bool th])])=some (p,σ')) :
  aK prog E 0 (.inl 87) [l,.int .i64 way,.int .i64 i,.agg [.str nm,.int .i64 a,.int .i64 b,.int .i64 sh,.bool th]] τ (λp1 σ1=>p1=p/\σ1=σ'):=by
 subst hw;clear hU;refine aK.aG 29 h0 func87 (h:=?_);exact Ac
theorem aOx(h0:E 87=none)(id n:Nat)(way:Int)(i:Nat)(nm:List UInt8)(a b sh:Int)(th:Bool)(τ:List aA)(cs:List PD)(hw:way=2)(hi:i<n)(hn:n<=1000000)(hr:τ[id]?=some (.row 58 5 0 cs))(hl:cs.length=n*5) :
  aK prog E 0 (.inl 87) [.aO id 0 0 n 5,.int .i64 way,.int .i64 i,.agg [.str nm,.int .i64 a,.int .i64 b,.int .i64 sh,.bool th]] τ (λp1 σ1=>p1=.aO id 0 0 n 5/\σ1=τ.set id (.row 58 5 0 (dF cs (i*5) [.str nm,.int .i64 a,.int .i64 b,.int .i64 sh,.bool th]))++[.box (.agg [.str nm,.int .i64 a,.int .i64 b,.int .i64 sh,.bool th])]):=by
 subst hw;have GN:aJ E/\True:=⟨hU,trivial⟩;clear hU;have xk:jD prog 33 (.aO id 0 0 n 5) (.int .i64 i)=some (.dG id 0 (i*5)):=by
  simp[jT,hi]
 obtain⟨r7,y7⟩:=yA.1 hr;have fG:i*5+5<=cs.length:=Cj;have u7:=bG (τ:=[aA.box (.agg [.str nm,.int .i64 a,.int .i64 b,.int .i64 sh,.bool th])]) hr;have j0:∀x:aA,(τ++[x])[τ.length]?=some x:=λx=>Ck
 have q1:(i:Int)<(n:Int):=Cj;refine aK.aG 29 h0 func87 (h:=?_);exact dz
end
section
variable{E E0:aE}(hU:aJ E)
include hU
theorem aOE{gI gD:Jk}(h0:E 85=none)(h1:E 116=some gI)(h2:E 117=some gD)
  (l p:PD) (way i:Int) (nm:List UInt8) (a b:Int) (h:PD) (hh:h=.slice 0 [] .full\/∃id m,h=.aO id 0 0 m 3) (τ σ':List aA) (hw:way=0) (hi:0<=i/\i<=1000) (hI:gI 0 [l,.int .i64 i,.slice 4 [.agg [.str nm,.int .i64 a,.int .i64 b,h.strip]] .full] (τ++[.box (.agg [.str nm,.int .i64 a,.int .i64 b,h])])=some (p,σ')) :
  aK prog E 0 (.inl 85) [l,.int .i64 way,.int .i64 i,.agg [.str nm,.int .i64 a,.int .i64 b,h]] τ (λp1 σ1=>p1=p/\σ1=σ'):=by
 subst hw;rcases hh with rfl | ⟨CF,m1,rfl⟩
 .simp only[PD.strip]at hI;clear hU;refine aK.aG 29 h0 func85 (h:=?_);exact Ai
 .simp only[PD.strip]at hI;clear hU;refine aK.aG 29 h0 func85 (h:=?_);exact Ai
theorem aOF{gI gD:Jk}(h0:E 85=none)(h1:E 116=some gI)(h2:E 117=some gD)
  (l p:PD) (way i:Int) (nm:List UInt8) (a b:Int) (h:PD) (hh:h=.slice 0 [] .full\/∃id m,h=.aO id 0 0 m 3) (τ σ':List aA) (hw:way=1) (hi:0<=i/\i<=1000) (hD:gD 0 [l,.int .i64 i,.int .i64 (i+1)] (τ++[.box (.agg [.str nm,.int .i64 a,.int .i64 b,h])])=some (p,σ')) :
  aK prog E 0 (.inl 85) [l,.int .i64 way,.int .i64 i,.agg [.str nm,.int .i64 a,.int .i64 b,h]] τ (λp1 σ1=>p1=p/\σ1=σ'):=by
 subst hw;rcases hh with rfl | ⟨CF,m1,rfl⟩
 .clear hU;refine aK.aG 29 h0 func85 (h:=?_);exact Ac
 .clear hU;refine aK.aG 29 h0 func85 (h:=?_);exact Ac
theorem aOG(h0:E 85=none)(id n:Nat)(way:Int)(i:Nat)(nm:List UInt8)(a b:Int)(h:PD)(hh:h=.slice 0 [] .full\/∃id m,h=.aO id 0 0 m 3)(τ:List aA)(cs:List PD)(hw:way=2)(hi:i<n)(hn:n<=1000000)(hr:τ[id]?=some (.row 56 4 0 cs))(hl:cs.length=n*4) :
  aK prog E 0 (.inl 85) [.aO id 0 0 n 4,.int .i64 way,.int .i64 i,.agg [.str nm,.int .i64 a,.int .i64 b,h]] τ (λp1 σ1=>p1=.aO id 0 0 n 4/\σ1=τ.set id (.row 56 4 0 (dF cs (i*4) [.str nm,.int .i64 a,.int .i64 b,h]))++[.box (.agg [.str nm,.int .i64 a,.int .i64 b,h])]):=by
 subst hw;rcases hh with rfl | ⟨CF,m1,rfl⟩
 .have GN:aJ E/\True:=⟨hU,trivial⟩;clear hU;have xk:jD prog 51 (.aO id 0 0 n 4) (.int .i64 i)=some (.dG id 0 (i*4)):=by
   simp[jT,hi]
  obtain⟨r7,y7⟩:=yA.1 hr;have fG:i*4+4<=cs.length:=Cj;have u7:=bG (τ:=[aA.box (.agg [.str nm,.int .i64 a,.int .i64 b,.slice 0 [] .full])]) hr;exact Ae
 .have GN:aJ E/\True:=⟨hU,trivial⟩;clear hU;have xk:jD prog 51 (.aO id 0 0 n 4) (.int .i64 i)=some (.dG id 0 (i*4)):=by
   simp[jT,hi]
  obtain⟨r7,y7⟩:=yA.1 hr;have fG:i*4+4<=cs.length:=Cj;have u7:=bG (τ:=[aA.box (.agg [.str nm,.int .i64 a,.int .i64 b,.aO CF 0 0 m1 3])]) hr;exact Ae
end
section
variable{E E0:aE}(hU:aJ E)
include hU
theorem aOB{gI gD:Jk}(h0:E 84=none)(h1:E 114=some gI)(h2:E 115=some gD)
  (l p:PD) (way i:Int) (nm:List UInt8) (pe:Bool) (a b:Int) (h:PD) (hh:h=.slice 0 [] .full\/∃id m,h=.aO id 0 0 m 4) (τ σ':List aA) (hw:way=0) (hi:0<=i/\i<=1000) (hI:gI 0 [l,.int .i64 i,.slice 5 [.agg [.str nm,.bool pe,.int .i64 a,.int .i64 b,h.strip]] .full] (τ++[.box (.agg [.str nm,.bool pe,.int .i64 a,.int .i64 b,h])])=some (p,σ')) :
  aK prog E 0 (.inl 84) [l,.int .i64 way,.int .i64 i,.agg [.str nm,.bool pe,.int .i64 a,.int .i64 b,h]] τ (λp1 σ1=>p1=p/\σ1=σ'):=by
 subst hw;rcases hh with rfl | ⟨CF,m1,rfl⟩
 .simp only[PD.strip]at hI;clear hU;refine aK.aG 29 h0 func84 (h:=?_);exact Ai
 .simp only[PD.strip]at hI;clear hU;refine aK.aG 29 h0 func84 (h:=?_);exact Ai
theorem aOC{gI gD:Jk}(h0:E 84=none)(h1:E 114=some gI)(h2:E 115=some gD)
  (l p:PD) (way i:Int) (nm:List UInt8) (pe:Bool) (a b:Int) (h:PD) (hh:h=.slice 0 [] .full\/∃id m,h=.aO id 0 0 m 4) (τ σ':List aA) (hw:way=1) (hi:0<=i/\i<=1000) (hD:gD 0 [l,.int .i64 i,.int .i64 (i+1)] (τ++[.box (.agg [.str nm,.bool pe,.int .i64 a,.int .i64 b,h])])=some (p,σ')) :
  aK prog E 0 (.inl 84) [l,.int .i64 way,.int .i64 i,.agg [.str nm,.bool pe,.int .i64 a,.int .i64 b,h]] τ (λp1 σ1=>p1=p/\σ1=σ'):=by
 subst hw;rcases hh with rfl | ⟨CF,m1,rfl⟩
 .clear hU;refine aK.aG 29 h0 func84 (h:=?_);exact Ac
 .clear hU;refine aK.aG 29 h0 func84 (h:=?_);exact Ac
theorem aOD(h0:E 84=none)(id n:Nat)(way:Int)(i:Nat)(nm:List UInt8)(pe:Bool)(a b:Int)(h:PD)(hh:h=.slice 0 [] .full\/∃id m,h=.aO id 0 0 m 4)(τ:List aA)(cs:List PD)(hw:way=2)(hi:i<n)(hn:n<=1000000)(hr:τ[id]?=some (.row 53 5 0 cs))(hl:cs.length=n*5) :
  aK prog E 0 (.inl 84) [.aO id 0 0 n 5,.int .i64 way,.int .i64 i,.agg [.str nm,.bool pe,.int .i64 a,.int .i64 b,h]] τ (λp1 σ1=>p1=.aO id 0 0 n 5/\σ1=τ.set id (.row 53 5 0 (dF cs (i*5) [.str nm,.bool pe,.int .i64 a,.int .i64 b,h]))++[.box (.agg [.str nm,.bool pe,.int .i64 a,.int .i64 b,h])]):=by
 subst hw;rcases hh with rfl | ⟨CF,m1,rfl⟩
 .have GN:aJ E/\True:=⟨hU,trivial⟩;clear hU;have xk:jD prog 32 (.aO id 0 0 n 5) (.int .i64 i)=some (.dG id 0 (i*5)):=by
   simp[jT,hi]
  obtain⟨r7,y7⟩:=yA.1 hr;have fG:i*5+5<=cs.length:=Cj;have u7:=bG (τ:=[aA.box (.agg [.str nm,.bool pe,.int .i64 a,.int .i64 b,.slice 0 [] .full])]) hr;exact Af
 .have GN:aJ E/\True:=⟨hU,trivial⟩;clear hU;have xk:jD prog 32 (.aO id 0 0 n 5) (.int .i64 i)=some (.dG id 0 (i*5)):=by
   simp[jT,hi]
  obtain⟨r7,y7⟩:=yA.1 hr;have fG:i*5+5<=cs.length:=Cj;have u7:=bG (τ:=[aA.box (.agg [.str nm,.bool pe,.int .i64 a,.int .i64 b,.aO CF 0 0 m1 4])]) hr;exact Af
end
end Go.Kz
