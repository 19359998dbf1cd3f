/- Steps of the proof. -/
import Derived.Test.YteegpeenjdgodaaGreatDoorL1c
set_option linter.all false
set_option maxHeartbeats 40000000
set_option maxRecDepth 100000
open Go.Proofs.Tryz
noncomputable section
namespace Go.Kz
open Go Go.Proofs
theorem aSX{σ:Jp}{lo:Nat}{d:bI}{iS:Nat}{ss:Jn}{tG:Nat->Nat}{tgs:Jm}{tW:Nat->Nat->Nat}(h:oP σ lo d iS ss tG tgs tW):BU Em.stop 4 56 6 oJ σ (Go.Kz.hq 4 iS (d.stops.length-1) d.stops.length) d.stops:=by
 refine⟨ss,?_,uB h.len λi hi=>⟨_,(h.at_ i hi).1,rfl⟩,eV.of h.len λi h1 h2=>?_⟩
 .by_cases h0:d.stops=[]
  .have hd:ss=[]:=yAf (by rw[h.len,h0];rfl);exact .inl ⟨hd,0,.any,by rw[h0];rfl⟩
  .have hp:0<d.stops.length:=yCo.2 h0;exact .inr ⟨λe=>Jj,iS,d.stops.length-1,by rw[J3 hp,h.len],(h.row hp).2⟩
 .exact ju
theorem wC{R:TypeId->Prop}{σ σ':Jp}(h:∀id,id<σ.length->σ'[id]?=σ[id]?):aW R σ σ':=λid t n v cs _ hy=>(h id (yA.1 hy).1).trans hy
def ER{α:Type}(E:aE)(f:FuncId)(em:Em α)(sz:Nat)(e:TypeId)(N:Nat)(R R':TypeId->Prop):Prop:=∀(σ:List aA) (P:PD) (l:List α) (way:Int) (i:Nat) (x:α),BU em sz e (N+1) R σ P l->l.length<=900000->(way=0/\i<=l.length\/(way=1\/way=2)/\i<l.length) ->
 aK prog E 0 (.inl f) [P,.int .i64 way,.int .i64 i,em.aB x] σ (λQ σ'=>(Q.plain=true/\Q.cells=[Q]/\∀τ,aW R' σ' τ->∀K,(bF τ (K+(N+2)) Q).strip=(em.list sz).aB (bP l way i x)/\(bF τ (K+(N+2)) Q).bY=true)/\σ.length<=σ'.length/\∀id,id<σ.length->σ'[id]?=σ[id]?)
theorem aKZ{E:aE}(hU:aJ E)(h0:E 47=none):ER E 47 Em.aL 6 48 6 o5 kM:=by
 intro σ P l way i x h hl hw;obtain⟨gs,H,hg,hA⟩:=h;have hlen:=hA.len;obtain⟨nm,tn,a,b,c,w⟩:=x;have hy:lN Em.aL 7 o5 σ [.str nm,.str tn,.int .i64 a,.int .i64 b,.int .i64 c,.slice (sz 1 w) (w.map i64.aB) .any] ⟨nm,tn,a,b,c,w⟩:=λσ' _=>(zZ RJ ⟨nm,tn,a,b,c,w⟩ rfl σ').up (show 1<=7 by decide)
 refine(aSY hU h0 σ P gs way i nm tn a b c (sz 1 w) (w.map i64.aB) (uM i64 1 w .any) H hg Cj Hj).mono λq σ' ⟨o1,o2,o3⟩=>?_
 exact ni
theorem aK1{E:aE}(hU:aJ E)(h0:E 49=none):ER E 49 Em.div 5 53 6 j8 kO:=by
 intro σ P l way i x h hl hw;obtain⟨gs,H,hg,hA⟩:=h;have hlen:=hA.len;obtain⟨nm,pe,a,b,w⟩:=x;have hy:lN Em.div 7 j8 σ [.str nm,.bool pe,.int .i64 a,.int .i64 b,.slice (sz 4 w) (w.map Em.stop.aB) .any] ⟨nm,pe,a,b,w⟩:=λσ' _=>(zZ aSU ⟨nm,pe,a,b,w⟩ rfl σ').up (show 1<=7 by decide)
 refine(aSZ hU h0 σ P gs way i nm pe a b (sz 4 w) (w.map Em.stop.aB) (uM Em.stop 4 w .any) H hg Cj Hj).mono λq σ' ⟨o1,o2,o3⟩=>?_
 exact ou
theorem aK3{E:aE}(hU:aJ E)(h0:E 50=none):ER E 50 Em.stop 4 56 5 oJ j8:=by
 intro σ P l way i x h hl hw;obtain⟨gs,H,hg,hA⟩:=h;have hlen:=hA.len;obtain⟨nm,a,b,w⟩:=x;have hy:lN Em.stop 6 oJ σ [.str nm,.int .i64 a,.int .i64 b,.slice (sz 3 w) (w.map Em.eZ.aB) .any] ⟨nm,a,b,w⟩:=λσ' _=>(zZ aFt ⟨nm,a,b,w⟩ rfl σ').up (show 1<=6 by decide)
 refine(aS0 hU h0 σ P gs way i nm a b (sz 3 w) (w.map Em.eZ.aB) (uM Em.eZ 3 w .any) H hg Cj Hj).mono λq σ' ⟨o1,o2,o3⟩=>?_
 exact ou
theorem aK5{E:aE}(hU:aJ E)(h0:E 51=none):ER E 51 Em.aZ 5 58 6 o5 jH:=by
 intro σ P l way i x h hl hw;obtain⟨gs,H,hg,hA⟩:=h;have hlen:=hA.len;obtain⟨nm,a,b,c,th⟩:=x;have hy:lN Em.aZ 7 o5 σ [.str nm,.int .i64 a,.int .i64 b,.int .i64 c,.bool th] ⟨nm,a,b,c,th⟩:=λσ' _=>(zZ RO ⟨nm,a,b,c,th⟩ rfl σ').up (show 1<=7 by decide)
 refine(aS1 hU h0 σ P gs way i nm a b c th H hg Cj Hj).mono λq σ' ⟨o1,o2,o3⟩=>?_
 exact ni
def rM:Nat->List PD->List aA->Option (PD×List aA):=entry (cK Em.edit (i64.nT i64) λx=>dY (yQ x.kind) (some ((IntKind.i64.wrap (x.kind-1)).tdiv 3,(IntKind.i64.wrap (x.kind-1)).tmod 3)))
theorem J2{x:cF}(h:1<=x.kind/\x.kind<=13)(fl:Nat)(σ:List aA):rM fl [Em.edit.aB x] σ=some (.aH [.int .i64 ((x.kind-1)/3),.int .i64 ((x.kind-1)%3)],σ):=by
 have e1:=Em.cT (Em.edit.str x);have hw:IntKind.i64.wrap (x.kind-1)=x.kind-1:=Cq;unfold rM entry cK;simp only[e1,fM (show yQ x.kind from⟨Cj,Cj⟩),hw];rw[yCW Cj,yBY Cj];rfl
def BZ:Nat->List PD->List aA->Option (PD×List aA):=entry (cK Em.edit Em.bool λx=>dY ((1<=x.kind/\x.kind<=13)/\dW x) (some (decide (gX x=0))))
theorem J1{x:cF}(h:(1<=x.kind/\x.kind<=13)/\dW x)(fl:Nat)(σ:List aA):BZ fl [Em.edit.aB x] σ=some (.bool (decide (gX x=0)),σ):=by
 have e1:=Em.cT (Em.edit.str x);unfold BZ entry cK;exact uc
def CS(w i n:Int):Bool:=decide (i<0\/n<i\/(w≠0/\i=n))
def F9:Nat->List PD->List aA->Option (PD×List aA):=entry (wF i64 i64 i64 Em.bool λw i n=>some (CS w i n))
theorem TK(w i n:Int)(fl:Nat)(σ:List aA):F9 fl [.int .i64 w,.int .i64 i,.int .i64 n] σ=some (.bool (CS w i n),σ):=by
 have e:∀z:Int,i64.dec (.int .i64 z)=some z:=λz=>Em.cT (i64.str z)
 unfold F9 entry wF;simp only[e];rfl
def vK(wy:Int):Int:=if wy=0 then 1 else if wy=1 then -1 else 0
def IP(wy i:Int)(r:bH)(o:aV):aV:={ mY (mM i (vK wy)) o with aR:=bP o.aR wy i.toNat r }
def IQ(wy i:Int)(d:bI)(o:aV):aV:={ zM i (vK wy) o with aD:=bP o.aD wy i.toNat d }
def L1(i:Int)(o:aV):Prop:=∃d∈o.aD,∃s∈d.stops,∃g∈s.aN,g.aQ.any (wT i)=true
def L4(i:Int)(o:aV):Prop:=o.aP.any (nW i)=true
def xR(bad conf:Prop)(EO:aV)(p:PD)(σ:List aA):Prop:=(bad/\p=.aH [bA,.int .i64 10])\/(¬bad/\conf/\p=.aH [bA,.int .i64 14])\/(¬bad/\¬conf/\∃P1 P2 P3,p=.aH [if bT EO=0 then .agg [.str EO.name,P1,P2,P3]else bS,.int .i64 (bT EO)]/\cO Em.aL 6 kM σ P1 EO.aR/\cO Em.div 5 kO σ P2 EO.aD/\cO Em.aZ 5 jH σ P3 EO.aP)
def IW(E:aE):Prop:=∀(o:aV) (ho:eF o) (τ:List aA),aK prog E 0 (.inl 44) [Em.bB.aB o] τ (λp σ'=>(∃iR iD iC ds tS tss tG tgs tW,jN σ' τ.length o p iR iD iC ds tS tss tG tgs tW)/\τ.length<=σ'.length/\∀id,id<τ.length->σ'[id]?=τ[id]?)
def aDS(E:aE):Prop:=∀(fm b:Int) (hb1:-1<=b/\b<=1) (o:aV) (p:PD) (aS:List aA) (lo iR iD iC:Nat) (ds:List (List PD)) (tS:Nat->Nat) (tss:Nat->List (List PD)) (tG:Nat->Nat->Nat) (tgs:Nat->Nat->List (List PD)) (tW:Nat->Nat->Nat->Nat) (hO:jN aS lo o p iR iD iC ds tS tss tG tgs tW) (hlo:lo<=aS.length) (ho:eF o)
    (hb:∀d∈o.aD,∀s∈d.stops,∀g∈s.aN,∀w∈g.aQ,-1000000000<=w.aL/\w.aL<=1000000000),
    aK prog E 0 (.inl 46) [p,.int .i64 fm,.int .i64 b] aS (λq σ'=>∃hs:Bool,q=.bool hs/\(hs=true↔L1 fm o)/\jN σ' lo (mY (mM fm b) o) p iR iD iC ds tS tss tG tgs tW/\aS.length<=σ'.length/\(∀id,id<lo->σ'[id]?=aS[id]?)/\∀(id:Nat) (x:aA),(∀n v cs,x≠.row 89 n v cs)->aS[id]?=some x->σ'[id]?=some x)
def aDT(E:aE):Prop:=∀(fm b:Int) (hb1:-1<=b/\b<=1) (o:aV) (p:PD) (aS:List aA) (lo iR iD iC:Nat) (ds:List (List PD)) (tS:Nat->Nat) (tss:Nat->List (List PD)) (tG:Nat->Nat->Nat) (tgs:Nat->Nat->List (List PD)) (tW:Nat->Nat->Nat->Nat) (hO:jN aS lo o p iR iD iC ds tS tss tG tgs tW) (hlo:lo<=aS.length) (ho:eF o)
    (hb:∀c∈o.aP,(-1000000000<=c.dK/\c.dK<=1000000000)/\-1000000000<=c.dst/\c.dst<=1000000000),
    aK prog E 0 (.inl 48) [p,.int .i64 fm,.int .i64 b] aS (λq σ'=>∃hs:Bool,q=.bool hs/\(hs=true↔L4 fm o)/\jN σ' lo (zM fm b o) p iR iD iC ds tS tss tG tgs tW/\aS.length<=σ'.length/\(∀id,id<lo->σ'[id]?=aS[id]?)/\∀(id:Nat) (x:aA),(∀n v cs,x≠.row 58 n v cs)->aS[id]?=some x->σ'[id]?=some x)
theorem jN.aM{σ σ':Jp}{lo:Nat}{o:aV}{p:PD}{iR iD iC:Nat}{ds:Jn}{tS:Nat->Nat}{tss:Jm}{tG:Nat->Nat->Nat}{tgs:Jl}{tW:Nat->Nat->Nat->Nat}(h:jN σ lo o p iR iD iC ds tS tss tG tgs tW)(hk:∀(id:Nat) (o:aA),lo<=id->σ[id]?=some o->σ'[id]?=some o):jN σ' lo o p iR iD iC ds tS tss tG tgs tW:=
 { h with aL:=λq=>⟨(h.aL q).1,hk _ _ (h.aL q).1 (h.aL q).2⟩,aZ:=λq=>⟨(h.aZ q).1,hk _ _ (h.aZ q).1 (h.aZ q).2⟩,row:=λq=>⟨(h.row q).1,hk _ _ (h.row q).1 (h.row q).2⟩,at_:=λd hd=>⟨(h.at_ d hd).1,(h.at_ d hd).2.len,λq=>⟨((h.at_ d hd).2.row q).1,hk _ _ ((h.at_ d hd).2.row q).1 ((h.at_ d hd).2.row q).2⟩,λs hs=>⟨((h.at_ d hd).2.at_ s hs).1,((h.at_ d hd).2.at_ s hs).2.aM (yAk _) hk⟩,(h.at_ d hd).2.inj⟩ }
theorem TM{w i:Int}{n:Nat}(h:fY w i n)(hw:w=0\/w=1\/w=2):CS w i n=false:=by
 unfold fY at h;unfold CS;rw[yDV];rcases hw with rfl|rfl|rfl<;>simp at h ⊢<;>omega
theorem TL{w i:Int}{n:Nat}(h:¬fY w i n)(hw:w=0\/w=1\/w=2):CS w i n=true:=by
 unfold fY at h;unfold CS;rw[yCb];rcases hw with rfl|rfl|rfl<;>simp at h ⊢<;>omega
theorem TN{wy:Int}{i n:Nat}(h:fY wy (i:Int) n)(hw:wy=0\/wy=1\/wy=2):wy=0/\i<=n\/(wy=1\/wy=2)/\i<n:=by
 have h2:=h.2;rcases hw with rfl|rfl|rfl<;>simp at h2 ⊢<;>omega
theorem TO:vK 0=1:=rfl
theorem TP:vK 1=-1:=rfl
theorem TQ:vK 2=0:=rfl
section
variable{E E1 E3 E5 Eo:aE}
theorem aK4(h0:E 18=none)(h1:E 43=some BZ)(h2:E 44=some (dI prog E1 44))(H2:IW E1)(h3:E 39=some rM)(h4:E 45=some F9)(h5:E 51=some (dI prog E3 51))(H5:ER E3 51 Em.aZ 5 58 6 o5 jH)(h6:E 27=some (qB (pM prog Eo 27)))(H6:∀o,cL o->aI prog Eo 27 [Em.bB.aB o] (i64.aB (bT o)))
  (o:aV) (x:cF) (ho:eF o) (hx:dW x) (hf:gX x=0) (hk:10<=x.kind/\x.kind<=12) (hsm:o.aP.length<=900000) (hokr:cL (NZ ((x.kind-1)%3) x.idx x.aZ o)) :
  aK prog E 0 (.inl 18) [Em.bB.aB o,Em.edit.aB x] [] (xR (¬fY ((x.kind-1)%3) x.idx o.aP.length) (False) (NZ ((x.kind-1)%3) x.idx x.aZ o)):=by
 have hn:1<=x.kind/\x.kind<=13:=Cj;have k1:=λfl σ=>J1 (x:=x) ⟨hn,hx⟩ fl σ
 rw[hf,yAX rfl]at k1;have k3:=λfl σ=>J2 (x:=x) hn fl σ
 have hth:(x.kind-1)/3=3:=Cj;rw[hth]at k3;obtain⟨wy,hwy⟩:=gn ((x.kind-1)%3);have iF:wy=0\/wy=1\/wy=2:=Cj;rw[hwy]at k3 hokr;rw[hwy];have k2:=(H2 o ho [.box (Em.bB.aB o),.box (Em.edit.aB x),.box (.agg [.str [],.slice 0 [] .full,.slice 0 [] .full,.slice 0 [] .full])]).e0 Ck;obtain⟨p,σ1,k2,⟨iR,iD,iC,ds,tS,tss,tG,tgs,tW,hO⟩,hl1,hk1⟩:=k2;have hp:=hO.p;subst hp;have b0:=hk1 0 Ck;have b1:=hk1 1 Ck;have b2:=hk1 2 Ck;simp only[yBj,yBz]at b0 b1 b2;obtain⟨hR,hhR⟩:=gn (Go.Kz.hn 6 iR o.aR.length);obtain⟨hD,hhD⟩:=gn (Go.Kz.hb 5 iD (o.aD.length-1) o.aD.length);obtain⟨hC,hhC⟩:=gn (Go.Kz.hn 5 iC o.aP.length);have pR:hR.plain=true:=Dr;have pD:hD.plain=true:=Dd;have pC:hC.plain=true:=Ds;have cR:hR.cells=[hR]:=Eh;have cD:hD.cells=[hD]:=Dg;have cC:hC.cells=[hC]:=Dz;unfold PD.plain at pR pD pC;unfold PD.cells at cR cD cC;simp only[hhR,hhD,hhC]at hO k2;obtain⟨OB,hOB⟩:=gn (σ1.length);have TJ:3<=OB:=Fo;obtain⟨σ2,bO⟩:=gn (σ1++[aA.box (.agg [.str o.name,hR,hD,hC])]);have eL:jN σ2 3 o (.agg [.str o.name,hR,hD,hC]) iR iD iC ds tS tss tG tgs tW:=Dx;have fZ:3<=σ2.length:=Ex;have D8:σ2≠[]:=λe=>Ez
 have jS:∀x y:aA,(σ1++[x]).set OB y=σ1++[y]:=λx y=>Ec
 have jO:∀x:aA,(σ1++[x])[OB]?=some x:=λx=>Ec
 have c3:σ2[OB]?=some (.box (.agg [.str o.name,hR,hD,hC])):=Fp;have k4:=λfl σ=>TK wy x.idx (o.aP.length:Nat) fl σ
 obtain⟨kd,dv,ix,nm,⟨rn,rt,ra,rb,rf,wd⟩,⟨fn,fp,flo,fhi,fs⟩,⟨sn,sa,sb,sg⟩,⟨cn,ca,cb,cs,ct⟩⟩:=x;obtain⟨on,rs,dd,cc⟩:=o;simp only[bZ,dT,aU]at k1 k2 k3 b0 b1 b2 hk hwy;simp only[bZ,dT,aU];have n1:¬kd<1:=Cj;have n2:¬13<kd:=Cj;have c0:=bG (τ:=[aA.box (.agg [.str on,hR,hD,hC])]) b0;have c1:=bG (τ:=[aA.box (.agg [.str on,hR,hD,hC])]) b1;have c2:=bG (τ:=[aA.box (.agg [.str on,hR,hD,hC])]) b2;simp only at bO c3;rw[bO]at c0 c1 c2;obtain⟨w0,z0⟩:=yA.1 c0;obtain⟨w1,z1⟩:=yA.1 c1;obtain⟨w2,z2⟩:=yA.1 c2;obtain⟨w3,z3⟩:=yA.1 c3
 by_cases hb:fY wy ix cc.length
 rotate_left
 .exact cm
 have km:=TM hb iF;simp only[km]at k4;obtain⟨i,rfl⟩:∃i:Nat,ix=i:=⟨ix.toNat,Ic⟩;have hw:=TN hb iF;obtain⟨σ3,JJ⟩:=gn (σ2);have qH:=eL;have u0:=c0;have u1:=c1;have u2:=c2;have u3:=c3;rw[JJ]at qH u0 u1 u2 u3;obtain⟨v0,y0⟩:=yA.1 u0;obtain⟨v1,y1⟩:=yA.1 u1;obtain⟨v2,y2⟩:=yA.1 u2;obtain⟨v3,y3⟩:=yA.1 u3;have hV:=N5 qH;simp only[hhR,hhD,hhC]at hV;have n3:σ3≠[]:=λe=>by rw[e]at u0;cases u0
 have k5:=(H5 σ3 hC cc wy i ⟨cn,ca,cb,cs,ct⟩ hV.2.2 hsm hw).e0 n3;obtain⟨Q,bR,k5,⟨pQ,cQ,lQ⟩,jI,bU⟩:=k5;have s0:=(bU 0 v0).trans u0;have s1:=(bU 1 v1).trans u1;have s2:=(bU 2 v2).trans u2;have s3:=(bU OB v3).trans u3;have lQ:cO Em.aZ 5 jH bR Q (bP cc wy i ⟨cn,ca,cb,cs,ct⟩):=⟨pQ,cQ,lQ⟩;unfold PD.plain at pQ;unfold PD.cells at cQ;obtain⟨f0,d0⟩:=yA.1 s0;obtain⟨f1,d1⟩:=yA.1 s1;obtain⟨f2,d2⟩:=yA.1 s2;obtain⟨f3,d3⟩:=yA.1 s3;obtain⟨eE,jZ⟩:=gn (bR.set OB (.box (.agg [.str on,hR,hD,Q])));have kS:∀R,aW R bR eE:=λR=>Hv
 have a5:eE[OB]?=some (.box (.agg [.str on,hR,hD,Q])):=Jg;have t2:eE[2]?=some (.box (.agg [.str [],.slice 0 [] .full,.slice 0 [] .full,.slice 0 [] .full])):=by rw[<-jZ,yAd Cj];exact s2
 have m1:=(hV.1.oI (R':=kM) Cn (λt ht=>ht.elim id False.elim)).aM ((wC bU).trans (kS _));have m2:=(hV.2.1.oI (R':=kO) Cn (λt ht=>ht)).aM ((wC bU).trans (kS _));have m3:=lQ.aM (kS _);simp only[CX]at k5;have CR:=λfl=>GH (on:=on) m1 m2 m3 (H6 _ hokr) fl
 obtain⟨e,he⟩:=gn (bT (NZ wy i ⟨cn,ca,cb,cs,ct⟩ ⟨on,rs,dd,cc⟩));have k6:∀fl,qB (pM prog Eo 27) fl [.agg [.str on,hR,hD,Q]] eE=some (.int .i64 e,eE):=λfl=>Fi
 obtain⟨r5,x5⟩:=yA.1 a5;obtain⟨r2,x2⟩:=yA.1 t2;unfold xR;rw[he]
 by_cases hz:e=0
 .subst hz;rcases iF with rfl|rfl|rfl
  iterate 3
   have CQ:=h0;refine aK.aG 166 h0 func18 (h:=?_);refine aC (A20 h1 k1 h2 k2 h3 k3 n1 n2 hOB jO jS bO c0 c1 c2 c3 w0 w1 w2 (A20 w3 @z0 z1 @z2 @z3 pR pD pC cR cD cC h4 k4 JJ h5 k5 u0 u1 u2 (A20 u3 @v0 @v1 @v2 @v3 y0 y1 y2 y3 s0 @s1 @s2 s3 @f0 @f1 @f2 @f3 @d0 @d1 (A20 @d2 @d3 pQ cQ jZ h6 k6 @a5 r5 x5 @t2 r2 x2 pR pD pC cR cD cC (A2 pQ cQ))))) ?_;refine⟨.aH [.agg [.str on,hR,hD,Q],.int .i64 0],eE.set 2 (.box (.agg [.str on,hR,hD,Q])),?_,.inr (.inr ⟨λh=>h hb,id,hR,hD,Q,rfl,m1.aM (aW.set t2 _),m2.aM (aW.set t2 _),m3.aM (aW.set t2 _)⟩)⟩;simp[bQ,r2]
 .have mB:=hz;rcases iF with rfl|rfl|rfl
  iterate 3
   have CQ:=h0;refine aK.aG 166 h0 func18 (h:=?_);refine aC (A20 h1 k1 h2 k2 h3 k3 n1 n2 hOB jO jS bO c0 c1 c2 c3 w0 w1 w2 (A20 w3 @z0 z1 @z2 @z3 pR pD pC cR cD cC h4 k4 JJ h5 k5 u0 u1 u2 (A20 u3 @v0 @v1 @v2 @v3 y0 y1 y2 y3 s0 @s1 @s2 s3 @f0 @f1 @f2 @f3 @d0 @d1 (A20 @d2 @d3 pQ cQ jZ h6 k6 @hz @a5 r5 x5 @t2 r2 x2 pR pD pC cR cD (A3 cC pQ cQ))))) ?_;refine⟨.aH [bS,.int .i64 e],eE.set 2 (.box bS),?_,.inr (.inr ⟨λh=>h hb,id,hR,hD,Q,Gg,m1.aM (aW.set t2 _),m2.aM (aW.set t2 _),m3.aM (aW.set t2 _)⟩)⟩;simp[bQ,r2,bS]
end
section
variable{E E1 E3 E5 Eo:aE}
theorem aKX(h0:E 18=none)(h1:E 43=some BZ)(h2:E 44=some (dI prog E1 44))(H2:IW E1)(h3:E 39=some rM)(h6:E 27=some (qB (pM prog Eo 27)))(H6:∀o,cL o->aI prog Eo 27 [Em.bB.aB o] (i64.aB (bT o)))
  (o:aV) (x:cF) (ho:eF o) (hx:dW x) (hf:gX x=0) (hk:13<=x.kind/\x.kind<=13) (hokr:cL ({ o with name:=x.name })) :
  aK prog E 0 (.inl 18) [Em.bB.aB o,Em.edit.aB x] [] (xR (False) (False) ({ o with name:=x.name })):=by
 have hn:1<=x.kind/\x.kind<=13:=Cj;have k1:=λfl σ=>J1 (x:=x) ⟨hn,hx⟩ fl σ
 rw[hf,yAX rfl]at k1;have k3:=λfl σ=>J2 (x:=x) hn fl σ
 have hth:(x.kind-1)/3=4:=Cj;rw[hth]at k3;obtain⟨wy,hwy⟩:=gn ((x.kind-1)%3);have iF:wy=0\/wy=1\/wy=2:=Cj;rw[hwy]at k3;have k2:=(H2 o ho [.box (Em.bB.aB o),.box (Em.edit.aB x),.box (.agg [.str [],.slice 0 [] .full,.slice 0 [] .full,.slice 0 [] .full])]).e0 Ck;obtain⟨p,σ1,k2,⟨iR,iD,iC,ds,tS,tss,tG,tgs,tW,hO⟩,hl1,hk1⟩:=k2;have hp:=hO.p;subst hp;have b0:=hk1 0 Ck;have b1:=hk1 1 Ck;have b2:=hk1 2 Ck;simp only[yBj,yBz]at b0 b1 b2;obtain⟨hR,hhR⟩:=gn (Go.Kz.hn 6 iR o.aR.length);obtain⟨hD,hhD⟩:=gn (Go.Kz.hb 5 iD (o.aD.length-1) o.aD.length);obtain⟨hC,hhC⟩:=gn (Go.Kz.hn 5 iC o.aP.length);have pR:hR.plain=true:=Dr;have pD:hD.plain=true:=Dd;have pC:hC.plain=true:=Ds;have cR:hR.cells=[hR]:=Eh;have cD:hD.cells=[hD]:=Dg;have cC:hC.cells=[hC]:=Dz;unfold PD.plain at pR pD pC;unfold PD.cells at cR cD cC;simp only[hhR,hhD,hhC]at hO k2;obtain⟨OB,hOB⟩:=gn (σ1.length);have TJ:3<=OB:=Fo;obtain⟨σ2,bO⟩:=gn (σ1++[aA.box (.agg [.str o.name,hR,hD,hC])]);have eL:jN σ2 3 o (.agg [.str o.name,hR,hD,hC]) iR iD iC ds tS tss tG tgs tW:=Dx;have fZ:3<=σ2.length:=Ex;have D8:σ2≠[]:=λe=>Ez
 have jS:∀x y:aA,(σ1++[x]).set OB y=σ1++[y]:=λx y=>Ec
 have jO:∀x:aA,(σ1++[x])[OB]?=some x:=λx=>Ec
 have c3:σ2[OB]?=some (.box (.agg [.str o.name,hR,hD,hC])):=Fp;obtain⟨kd,dv,ix,nm,⟨rn,rt,ra,rb,rf,wd⟩,⟨fn,fp,flo,fhi,fs⟩,⟨sn,sa,sb,sg⟩,⟨cn,ca,cb,cs,ct⟩⟩:=x;obtain⟨on,rs,dd,cc⟩:=o;simp only[bZ,dT,aU]at k1 k2 k3 b0 b1 b2 hk hwy;simp only[bZ,dT,aU];have n1:¬kd<1:=Cj;have n2:¬13<kd:=Cj;have c0:=bG (τ:=[aA.box (.agg [.str on,hR,hD,hC])]) b0;have c1:=bG (τ:=[aA.box (.agg [.str on,hR,hD,hC])]) b1;have c2:=bG (τ:=[aA.box (.agg [.str on,hR,hD,hC])]) b2;simp only at bO c3;rw[bO]at c0 c1 c2;obtain⟨w0,z0⟩:=yA.1 c0;obtain⟨w1,z1⟩:=yA.1 c1;obtain⟨w2,z2⟩:=yA.1 c2;obtain⟨w3,z3⟩:=yA.1 c3;obtain rfl:kd=13:=Cj;obtain⟨eE,jZ⟩:=gn (σ2.set OB (.box (.agg [.str nm,hR,hD,hC])));have hO5:jN eE 3 ⟨on,rs,dd,cc⟩ (.agg [.str on,hR,hD,hC]) iR iD iC ds tS tss tG tgs tW:=by rw[<-jZ,<-bO,jS];exact hO.aM λid y _ hy=>bG hy
 have hV:=N5 hO5;simp only[hhR,hhD,hhC]at hV;have m1:=hV.1.oI (R':=kM) Cn (λt ht=>ht.elim id False.elim);have m2:=hV.2.1.oI (R':=kO) Cn (λt ht=>ht);have m3:=hV.2.2.oI (R':=jH) Cn (λt ht=>ht.elim id False.elim);have a5:eE[OB]?=some (.box (.agg [.str nm,hR,hD,hC])):=by rw[<-jZ];exact yAj w3
 have t2:eE[2]?=some (.box (.agg [.str [],.slice 0 [] .full,.slice 0 [] .full,.slice 0 [] .full])):=by rw[<-jZ,yAd Cj];exact c2
 have aTj:wy=0:=Cj;subst aTj;have pQ:=pR;have cQ:=cR;have CR:=λfl=>GH (on:=nm) m1 m2 m3 (H6 _ hokr) fl
 obtain⟨e,he⟩:=gn (bT (⟨nm,rs,dd,cc⟩));have k6:∀fl,qB (pM prog Eo 27) fl [.agg [.str nm,hR,hD,hC]] eE=some (.int .i64 e,eE):=λfl=>Fi
 obtain⟨r5,x5⟩:=yA.1 a5;obtain⟨r2,x2⟩:=yA.1 t2;unfold xR;rw[he]
 by_cases hz:e=0
 .subst hz;refine aK.aG 166 h0 func18 (h:=?_);refine aC (A20 h1 k1 h2 k2 h3 k3 n1 n2 hOB jO jS bO c0 c1 c2 c3 w0 w1 w2 (A20 w3 @z0 z1 @z2 @z3 pR pD pC cR cD cC jZ h6 k6 @a5 r5 x5 @t2 r2 (A9 x2 pR pD pC cR cD cC pQ cQ))) ?_;refine⟨.aH [.agg [.str nm,hR,hD,hC],.int .i64 0],eE.set 2 (.box (.agg [.str nm,hR,hD,hC])),?_,.inr (.inr ⟨id,id,hR,hD,hC,rfl,m1.aM (aW.set t2 _),m2.aM (aW.set t2 _),m3.aM (aW.set t2 _)⟩)⟩;simp[bQ,r2]
 .have mB:=hz;refine aK.aG 166 h0 func18 (h:=?_);refine aC (A20 h1 k1 h2 k2 h3 k3 n1 n2 hOB jO jS bO c0 c1 c2 c3 w0 w1 w2 (A20 w3 @z0 z1 @z2 @z3 pR pD pC cR cD cC jZ h6 k6 @hz @a5 r5 x5 @t2 (A10 r2 x2 pR pD pC cR cD cC pQ cQ))) ?_;refine⟨.aH [bS,.int .i64 e],eE.set 2 (.box bS),?_,.inr (.inr ⟨id,id,hR,hD,hC,Gg,m1.aM (aW.set t2 _),m2.aM (aW.set t2 _),m3.aM (aW.set t2 _)⟩)⟩;simp[bQ,r2,bS]
end
section
variable{E:aE}
theorem aKV(h0:E 18=none)(o:aV)(x:cF)(hk:¬(1<=x.kind/\x.kind<=13)) :
  aK prog E 0 (.inl 18) [Em.bB.aB o,Em.edit.aB x] [] (λp σ=>p=.aH [bA,.int .i64 12]):=by
 obtain⟨kd,dv,ix,nm,⟨rn,rt,ra,rb,rf,wd⟩,⟨fn,fp,flo,fhi,fs⟩,⟨sn,sa,sb,sg⟩,⟨cn,ca,cb,cs,ct⟩⟩:=x;obtain⟨on,rs,dd,cc⟩:=o;simp only[bZ,dT,aU]at hk ⊢
 by_cases n1:kd<1
 .have hz:=h0;refine aK.aG 166 h0 func18 (h:=?_);refine aC n1 ?_;exact⟨.aH [bA,.int .i64 12],_,by simp[bQ,bA];rfl,rfl⟩
 .have n2:13<kd:=by omega
  have hz:=h0;refine aK.aG 166 h0 func18 (h:=?_);refine aC (A2 n1 n2) ?_;exact⟨.aH [bA,.int .i64 12],_,by simp[bQ,bA];rfl,rfl⟩
theorem aKW(h0:E 18=none)(h1:E 43=some BZ)(o:aV)(x:cF)(hx:dW x)(hk:1<=x.kind/\x.kind<=13)(hf:gX x≠0) :
  aK prog E 0 (.inl 18) [Em.bB.aB o,Em.edit.aB x] [] (λp σ=>p=.aH [bA,.int .i64 7]):=by
 have k1:=λfl σ=>J1 (x:=x) ⟨hk,hx⟩ fl σ
 rw[yBe hf]at k1;obtain⟨kd,dv,ix,nm,⟨rn,rt,ra,rb,rf,wd⟩,⟨fn,fp,flo,fhi,fs⟩,⟨sn,sa,sb,sg⟩,⟨cn,ca,cb,cs,ct⟩⟩:=x;obtain⟨on,rs,dd,cc⟩:=o;simp only[bZ,dT,aU]at hk k1 ⊢;have n1:¬kd<1:=Cj;have n2:¬13<kd:=Cj;refine aK.aG 166 h0 func18 (h:=?_);refine aC (A4 n1 n2 h1 k1) ?_;exact⟨.aH [bA,.int .i64 7],_,by simp[bQ,bA];rfl,rfl⟩
end
section
variable{E E1 E3 E5 Eo:aE}
theorem aKY(h0:E 18=none)(h1:E 43=some BZ)(h2:E 44=some (dI prog E1 44))(H2:IW E1)(h3:E 39=some rM)(h4:E 45=some F9)(h5:E 47=some (dI prog E3 47))(H5:ER E3 47 Em.aL 6 48 6 o5 kM)(h7:E 46=some (dI prog E5 46))(H7:aDS E5)(h6:E 27=some (qB (pM prog Eo 27)))(H6:∀o,cL o->aI prog Eo 27 [Em.bB.aB o] (i64.aB (bT o)))
  (o:aV) (x:cF) (ho:eF o) (hx:dW x) (hf:gX x=0) (hk:1<=x.kind/\x.kind<=3) (hsm:o.aR.length<=900000) (hwr:∀d∈o.aD,∀s∈d.stops,∀g∈s.aN,∀w∈g.aQ,-1000000000<=w.aL/\w.aL<=1000000000) (hokr:cL (IP ((x.kind-1)%3) x.idx x.aL o)) :
  aK prog E 0 (.inl 18) [Em.bB.aB o,Em.edit.aB x] [] (xR (¬fY ((x.kind-1)%3) x.idx o.aR.length) (((x.kind-1)%3)=1/\L1 x.idx o) (IP ((x.kind-1)%3) x.idx x.aL o)):=by
 have hn:1<=x.kind/\x.kind<=13:=Cj;have k1:=λfl σ=>J1 (x:=x) ⟨hn,hx⟩ fl σ
 rw[hf,yAX rfl]at k1;have k3:=λfl σ=>J2 (x:=x) hn fl σ
 have hth:(x.kind-1)/3=0:=Cj;rw[hth]at k3;obtain⟨wy,hwy⟩:=gn ((x.kind-1)%3);have iF:wy=0\/wy=1\/wy=2:=Cj;rw[hwy]at k3 hokr;rw[hwy];have k2:=(H2 o ho [.box (Em.bB.aB o),.box (Em.edit.aB x),.box (.agg [.str [],.slice 0 [] .full,.slice 0 [] .full,.slice 0 [] .full])]).e0 Ck;obtain⟨p,σ1,k2,⟨iR,iD,iC,ds,tS,tss,tG,tgs,tW,hO⟩,hl1,hk1⟩:=k2;have hp:=hO.p;subst hp;have b0:=hk1 0 Ck;have b1:=hk1 1 Ck;have b2:=hk1 2 Ck;simp only[yBj,yBz]at b0 b1 b2;obtain⟨hR,hhR⟩:=gn (Go.Kz.hn 6 iR o.aR.length);obtain⟨hD,hhD⟩:=gn (Go.Kz.hb 5 iD (o.aD.length-1) o.aD.length);obtain⟨hC,hhC⟩:=gn (Go.Kz.hn 5 iC o.aP.length);have pR:hR.plain=true:=Dr;have pD:hD.plain=true:=Dd;have pC:hC.plain=true:=Ds;have cR:hR.cells=[hR]:=Eh;have cD:hD.cells=[hD]:=Dg;have cC:hC.cells=[hC]:=Dz;unfold PD.plain at pR pD pC;unfold PD.cells at cR cD cC;simp only[hhR,hhD,hhC]at hO k2;obtain⟨OB,hOB⟩:=gn (σ1.length);have TJ:3<=OB:=Fo;obtain⟨σ2,bO⟩:=gn (σ1++[aA.box (.agg [.str o.name,hR,hD,hC])]);have eL:jN σ2 3 o (.agg [.str o.name,hR,hD,hC]) iR iD iC ds tS tss tG tgs tW:=Dx;have fZ:3<=σ2.length:=Ex;have D8:σ2≠[]:=λe=>Ez
 have jS:∀x y:aA,(σ1++[x]).set OB y=σ1++[y]:=λx y=>Ec
 have jO:∀x:aA,(σ1++[x])[OB]?=some x:=λx=>Ec
 have c3:σ2[OB]?=some (.box (.agg [.str o.name,hR,hD,hC])):=Fp;have k4:=λfl σ=>TK wy x.idx (o.aR.length:Nat) fl σ
 have k7:=λhb=>(H7 x.idx (vK wy) hb o _ _ 3 iR iD iC ds tS tss tG tgs tW eL fZ ho hwr).e0 D8
 obtain⟨kd,dv,ix,nm,⟨rn,rt,ra,rb,rf,wd⟩,⟨fn,fp,flo,fhi,fs⟩,⟨sn,sa,sb,sg⟩,⟨cn,ca,cb,cs,ct⟩⟩:=x;obtain⟨on,rs,dd,cc⟩:=o;simp only[bZ,dT,aU]at k1 k2 k3 b0 b1 b2 hk hwy;simp only[bZ,dT,aU];have n1:¬kd<1:=Cj;have n2:¬13<kd:=Cj;have c0:=bG (τ:=[aA.box (.agg [.str on,hR,hD,hC])]) b0;have c1:=bG (τ:=[aA.box (.agg [.str on,hR,hD,hC])]) b1;have c2:=bG (τ:=[aA.box (.agg [.str on,hR,hD,hC])]) b2;simp only at bO c3;rw[bO]at c0 c1 c2;obtain⟨w0,z0⟩:=yA.1 c0;obtain⟨w1,z1⟩:=yA.1 c1;obtain⟨w2,z2⟩:=yA.1 c2;obtain⟨w3,z3⟩:=yA.1 c3
 by_cases hb:fY wy ix rs.length
 rotate_left
 .exact cm
 have km:=TM hb iF;simp only[km]at k4;obtain⟨i,rfl⟩:∃i:Nat,ix=i:=⟨ix.toNat,Ic⟩;have hw:=TN hb iF;have k7:=k7 (by rcases iF with rfl|rfl|rfl<;>decide);obtain⟨q7,σ3,k7,hs,rfl,hhs,qH,rQ,eH,tP⟩:=k7;have u0:=tP 0 _ (λn v cs h=>Co) c0;have u1:=tP 1 _ (λn v cs h=>Co) c1;have u2:=tP 2 _ (λn v cs h=>Co) c2;have u3:=tP OB _ (λn v cs h=>Co) c3;obtain⟨v0,y0⟩:=yA.1 u0;obtain⟨v1,y1⟩:=yA.1 u1;obtain⟨v2,y2⟩:=yA.1 u2;obtain⟨v3,y3⟩:=yA.1 u3
 dsimp only at k7
 by_cases hcf:wy=1/\hs=true
 .exact ec
 have hV:=N5 qH;simp only[mY]at hV;rw[yAe]at hV;simp only[hhR,hhD,hhC]at hV;have n3:σ3≠[]:=λe=>by rw[e]at u0;cases u0
 have k5:=(H5 σ3 hR rs wy i ⟨rn,rt,ra,rb,rf,wd⟩ hV.1 hsm hw).e0 n3;obtain⟨Q,bR,k5,⟨pQ,cQ,lQ⟩,jI,bU⟩:=k5;have s0:=(bU 0 v0).trans u0;have s1:=(bU 1 v1).trans u1;have s2:=(bU 2 v2).trans u2;have s3:=(bU OB v3).trans u3;have lQ:cO Em.aL 6 kM bR Q (bP rs wy i ⟨rn,rt,ra,rb,rf,wd⟩):=⟨pQ,cQ,lQ⟩;unfold PD.plain at pQ;unfold PD.cells at cQ;obtain⟨f0,d0⟩:=yA.1 s0;obtain⟨f1,d1⟩:=yA.1 s1;obtain⟨f2,d2⟩:=yA.1 s2;obtain⟨f3,d3⟩:=yA.1 s3;obtain⟨eE,jZ⟩:=gn (bR.set OB (.box (.agg [.str on,Q,hD,hC])));have kS:∀R,aW R bR eE:=λR=>Hv
 have a5:eE[OB]?=some (.box (.agg [.str on,Q,hD,hC])):=Jg;have t2:eE[2]?=some (.box (.agg [.str [],.slice 0 [] .full,.slice 0 [] .full,.slice 0 [] .full])):=by rw[<-jZ,yAd Cj];exact s2
 have m1:=lQ.aM (kS _);have m2:=(hV.2.1.oI (R':=kO) Cn (λt ht=>ht)).aM ((wC bU).trans (kS _));have m3:=(hV.2.2.oI (R':=jH) Cn (λt ht=>ht.elim id False.elim)).aM ((wC bU).trans (kS _));simp only[oB,aU]at k5;have CR:=λfl=>GH (on:=on) m1 m2 m3 (H6 _ hokr) fl
 obtain⟨e,he⟩:=gn (bT (IP wy i ⟨rn,rt,ra,rb,rf,wd⟩ ⟨on,rs,dd,cc⟩));have k6:∀fl,qB (pM prog Eo 27) fl [.agg [.str on,Q,hD,hC]] eE=some (.int .i64 e,eE):=λfl=>Fi
 obtain⟨r5,x5⟩:=yA.1 a5;obtain⟨r2,x2⟩:=yA.1 t2;unfold xR;rw[he]
 by_cases hz:e=0
 .subst hz;rcases iF with rfl|rfl|rfl<;>cases hs<;>first|exact absurd ⟨rfl,rfl⟩ hcf|simp only[TO,TP,TQ]at k7
  iterate 5
   have CQ:=h0;refine aK.aG 166 h0 func18 (h:=?_);refine aC Ch ?_;refine⟨.aH [.agg [.str on,Q,hD,hC],.int .i64 0],eE.set 2 (.box (.agg [.str on,Q,hD,hC])),?_,.inr (.inr ⟨λh=>h hb,(λh=>hcf ⟨h.1,hhs.2 h.2⟩),Q,hD,hC,rfl,m1.aM (aW.set t2 _),m2.aM (aW.set t2 _),m3.aM (aW.set t2 _)⟩)⟩;simp[bQ,r2]
 .have mB:=hz;rcases iF with rfl|rfl|rfl<;>cases hs<;>first|exact absurd ⟨rfl,rfl⟩ hcf|simp only[TO,TP,TQ]at k7
  iterate 5
   have CQ:=h0;refine aK.aG 166 h0 func18 (h:=?_);refine aC Ci ?_;refine⟨.aH [bS,.int .i64 e],eE.set 2 (.box bS),?_,.inr (.inr ⟨λh=>h hb,(λh=>hcf ⟨h.1,hhs.2 h.2⟩),Q,hD,hC,Gg,m1.aM (aW.set t2 _),m2.aM (aW.set t2 _),m3.aM (aW.set t2 _)⟩)⟩;simp[bQ,r2,bS]
end
section
variable{E E1 E3 E5 Eo:aE}
theorem aK0(h0:E 18=none)(h1:E 43=some BZ)(h2:E 44=some (dI prog E1 44))(H2:IW E1)(h3:E 39=some rM)(h4:E 45=some F9)(h5:E 49=some (dI prog E3 49))(H5:ER E3 49 Em.div 5 53 6 j8 kO)(h7:E 48=some (dI prog E5 48))(H7:aDT E5)(h6:E 27=some (qB (pM prog Eo 27)))(H6:∀o,cL o->aI prog Eo 27 [Em.bB.aB o] (i64.aB (bT o)))
  (o:aV) (x:cF) (ho:eF o) (hx:dW x) (hf:gX x=0) (hk:4<=x.kind/\x.kind<=6) (hsm:o.aD.length<=900000) (hwr:∀c∈o.aP,(-1000000000<=c.dK/\c.dK<=1000000000)/\-1000000000<=c.dst/\c.dst<=1000000000) (hokr:cL (IQ ((x.kind-1)%3) x.idx x.frame o)) :
  aK prog E 0 (.inl 18) [Em.bB.aB o,Em.edit.aB x] [] (xR (¬fY ((x.kind-1)%3) x.idx o.aD.length) (((x.kind-1)%3)=1/\L4 x.idx o) (IQ ((x.kind-1)%3) x.idx x.frame o)):=by
 have hn:1<=x.kind/\x.kind<=13:=Cj;have k1:=λfl σ=>J1 (x:=x) ⟨hn,hx⟩ fl σ
 rw[hf,yAX rfl]at k1;have k3:=λfl σ=>J2 (x:=x) hn fl σ
 have hth:(x.kind-1)/3=1:=Cj;rw[hth]at k3;obtain⟨wy,hwy⟩:=gn ((x.kind-1)%3);have iF:wy=0\/wy=1\/wy=2:=Cj;rw[hwy]at k3 hokr;rw[hwy];have k2:=(H2 o ho [.box (Em.bB.aB o),.box (Em.edit.aB x),.box (.agg [.str [],.slice 0 [] .full,.slice 0 [] .full,.slice 0 [] .full])]).e0 Ck;obtain⟨p,σ1,k2,⟨iR,iD,iC,ds,tS,tss,tG,tgs,tW,hO⟩,hl1,hk1⟩:=k2;have hp:=hO.p;subst hp;have b0:=hk1 0 Ck;have b1:=hk1 1 Ck;have b2:=hk1 2 Ck;simp only[yBj,yBz]at b0 b1 b2;obtain⟨hR,hhR⟩:=gn (Go.Kz.hn 6 iR o.aR.length);obtain⟨hD,hhD⟩:=gn (Go.Kz.hb 5 iD (o.aD.length-1) o.aD.length);obtain⟨hC,hhC⟩:=gn (Go.Kz.hn 5 iC o.aP.length);have pR:hR.plain=true:=Dr;have pD:hD.plain=true:=Dd;have pC:hC.plain=true:=Ds;have cR:hR.cells=[hR]:=Eh;have cD:hD.cells=[hD]:=Dg;have cC:hC.cells=[hC]:=Dz;unfold PD.plain at pR pD pC;unfold PD.cells at cR cD cC;simp only[hhR,hhD,hhC]at hO k2;obtain⟨OB,hOB⟩:=gn (σ1.length);have TJ:3<=OB:=Fo;obtain⟨σ2,bO⟩:=gn (σ1++[aA.box (.agg [.str o.name,hR,hD,hC])]);have eL:jN σ2 3 o (.agg [.str o.name,hR,hD,hC]) iR iD iC ds tS tss tG tgs tW:=Dx;have fZ:3<=σ2.length:=Ex;have D8:σ2≠[]:=λe=>Ez
 have jS:∀x y:aA,(σ1++[x]).set OB y=σ1++[y]:=λx y=>Ec
 have jO:∀x:aA,(σ1++[x])[OB]?=some x:=λx=>Ec
 have c3:σ2[OB]?=some (.box (.agg [.str o.name,hR,hD,hC])):=Fp;have k4:=λfl σ=>TK wy x.idx (o.aD.length:Nat) fl σ
 have k7:=λhb=>(H7 x.idx (vK wy) hb o _ _ 3 iR iD iC ds tS tss tG tgs tW eL fZ ho hwr).e0 D8
 obtain⟨kd,dv,ix,nm,⟨rn,rt,ra,rb,rf,wd⟩,⟨fn,fp,flo,fhi,fs⟩,⟨sn,sa,sb,sg⟩,⟨cn,ca,cb,cs,ct⟩⟩:=x;obtain⟨on,rs,dd,cc⟩:=o;simp only[bZ,dT,aU]at k1 k2 k3 b0 b1 b2 hk hwy;simp only[bZ,dT,aU];have n1:¬kd<1:=Cj;have n2:¬13<kd:=Cj;have c0:=bG (τ:=[aA.box (.agg [.str on,hR,hD,hC])]) b0;have c1:=bG (τ:=[aA.box (.agg [.str on,hR,hD,hC])]) b1;have c2:=bG (τ:=[aA.box (.agg [.str on,hR,hD,hC])]) b2;simp only at bO c3;rw[bO]at c0 c1 c2;obtain⟨w0,z0⟩:=yA.1 c0;obtain⟨w1,z1⟩:=yA.1 c1;obtain⟨w2,z2⟩:=yA.1 c2;obtain⟨w3,z3⟩:=yA.1 c3
 by_cases hb:fY wy ix dd.length
 rotate_left
 .exact cm
 have km:=TM hb iF;simp only[km]at k4;obtain⟨i,rfl⟩:∃i:Nat,ix=i:=⟨ix.toNat,Ic⟩;have hw:=TN hb iF;have k7:=k7 (by rcases iF with rfl|rfl|rfl<;>decide);obtain⟨q7,σ3,k7,hs,rfl,hhs,qH,rQ,eH,tP⟩:=k7;have u0:=tP 0 _ (λn v cs h=>Co) c0;have u1:=tP 1 _ (λn v cs h=>Co) c1;have u2:=tP 2 _ (λn v cs h=>Co) c2;have u3:=tP OB _ (λn v cs h=>Co) c3;obtain⟨v0,y0⟩:=yA.1 u0;obtain⟨v1,y1⟩:=yA.1 u1;obtain⟨v2,y2⟩:=yA.1 u2;obtain⟨v3,y3⟩:=yA.1 u3
 dsimp only at k7
 by_cases hcf:wy=1/\hs=true
 .exact ec
 have hV:=N5 qH;simp only[zM]at hV;rw[yAe]at hV;simp only[hhR,hhD,hhC]at hV;have n3:σ3≠[]:=λe=>by rw[e]at u0;cases u0
 have k5:=(H5 σ3 hD dd wy i ⟨fn,fp,flo,fhi,fs⟩ hV.2.1 hsm hw).e0 n3;obtain⟨Q,bR,k5,⟨pQ,cQ,lQ⟩,jI,bU⟩:=k5;have s0:=(bU 0 v0).trans u0;have s1:=(bU 1 v1).trans u1;have s2:=(bU 2 v2).trans u2;have s3:=(bU OB v3).trans u3;have lQ:cO Em.div 5 kO bR Q (bP dd wy i ⟨fn,fp,flo,fhi,fs⟩):=⟨pQ,cQ,lQ⟩;unfold PD.plain at pQ;unfold PD.cells at cQ;obtain⟨f0,d0⟩:=yA.1 s0;obtain⟨f1,d1⟩:=yA.1 s1;obtain⟨f2,d2⟩:=yA.1 s2;obtain⟨f3,d3⟩:=yA.1 s3;obtain⟨eE,jZ⟩:=gn (bR.set OB (.box (.agg [.str on,hR,Q,hC])));have kS:∀R,aW R bR eE:=λR=>Hv
 have a5:eE[OB]?=some (.box (.agg [.str on,hR,Q,hC])):=Jg;have t2:eE[2]?=some (.box (.agg [.str [],.slice 0 [] .full,.slice 0 [] .full,.slice 0 [] .full])):=by rw[<-jZ,yAd Cj];exact s2
 have m1:=(hV.1.oI (R':=kM) Cn (λt ht=>ht.elim id False.elim)).aM ((wC bU).trans (kS _));have m2:=lQ.aM (kS _);have m3:=(hV.2.2.oI (R':=jH) Cn (λt ht=>ht.elim id False.elim)).aM ((wC bU).trans (kS _));simp only[nL,aU]at k5;have CR:=λfl=>GH (on:=on) m1 m2 m3 (H6 _ hokr) fl
 obtain⟨e,he⟩:=gn (bT (IQ wy i ⟨fn,fp,flo,fhi,fs⟩ ⟨on,rs,dd,cc⟩));have k6:∀fl,qB (pM prog Eo 27) fl [.agg [.str on,hR,Q,hC]] eE=some (.int .i64 e,eE):=λfl=>Fi
 obtain⟨r5,x5⟩:=yA.1 a5;obtain⟨r2,x2⟩:=yA.1 t2;unfold xR;rw[he]
 by_cases hz:e=0
 .subst hz;rcases iF with rfl|rfl|rfl<;>cases hs<;>first|exact absurd ⟨rfl,rfl⟩ hcf|simp only[TO,TP,TQ]at k7
  iterate 5
   have CQ:=h0;refine aK.aG 166 h0 func18 (h:=?_);refine aC Ch ?_;refine⟨.aH [.agg [.str on,hR,Q,hC],.int .i64 0],eE.set 2 (.box (.agg [.str on,hR,Q,hC])),?_,.inr (.inr ⟨λh=>h hb,(λh=>hcf ⟨h.1,hhs.2 h.2⟩),hR,Q,hC,rfl,m1.aM (aW.set t2 _),m2.aM (aW.set t2 _),m3.aM (aW.set t2 _)⟩)⟩;simp[bQ,r2]
 .have mB:=hz;rcases iF with rfl|rfl|rfl<;>cases hs<;>first|exact absurd ⟨rfl,rfl⟩ hcf|simp only[TO,TP,TQ]at k7
  iterate 5
   have CQ:=h0;refine aK.aG 166 h0 func18 (h:=?_);refine aC Ci ?_;refine⟨.aH [bS,.int .i64 e],eE.set 2 (.box bS),?_,.inr (.inr ⟨λh=>h hb,(λh=>hcf ⟨h.1,hhs.2 h.2⟩),hR,Q,hC,Gg,m1.aM (aW.set t2 _),m2.aM (aW.set t2 _),m3.aM (aW.set t2 _)⟩)⟩;simp[bQ,r2,bS]
end
end Go.Kz
end
