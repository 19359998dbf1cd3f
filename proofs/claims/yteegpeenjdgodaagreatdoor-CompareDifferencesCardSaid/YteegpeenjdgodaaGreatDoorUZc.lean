import Derived.Test.YteegpeenjdgodaaGreatDoorUZb
set_option linter.all false
set_option maxHeartbeats 40000000
set_option maxRecDepth 100000
open Go.Proofs.Tryz
noncomputable section
namespace Go.Kz
open Go Go.Proofs
section
def PQ:Nat->List PD->List aB->Option (PD×List aB):=entry (eD Em.bH Em.bH (aFc.rJ i64) λa b=>dY (gK a/\gK b) (some (nZ a b,0)))
theorem aQA{a b:aM}(ha:gK a)(hb:gK b)(fl:Nat)(σ:List aB):PQ fl [Em.bH.aA a,Em.bH.aA b] σ=some (.aP [.slice (sz 24 (nZ a b)) ((nZ a b).map Em.edit.aA) .any,.int .i64 0],σ):=by
 have e1:=Em.cO (Em.bH.str a);have e2:=Em.cO (Em.bH.str b);unfold PQ entry eD;simp only[e1,e2];rw[gO ⟨ha,hb⟩];simp only[aF7,aV];rfl
def PR:Nat->List PD->List aB->Option (PD×List aB):=entry (bZ Em.bH i64 λo=>dY (gK o) (some (q8 o:Int)))
theorem aFa{o:aM}(ho:gK o)(fl:Nat)(σ:List aB):PR fl [Em.bH.aA o] σ=some (.int .i64 (q8 o),σ):=by
 have e1:=Em.cO (Em.bH.str o);unfold PR entry bZ;simp only[e1];rw[gO ho];rfl
theorem aFb{l:List bD}(h:∀d∈l,d.stops.length<=60):tK l<=60*l.length:=by
 unfold tK
 induction l with
 |nil=>simp
 |cons d t ih=>
  exact lf
theorem aQH{n:Ez}(h:kU n):pM (n4 n):=⟨h,B8,D4,zY,yAF _⟩
theorem KX{f:Nat->bJ}(h:∀i,pM (f i)):∀n,∀x∈eY f n,pM x
 |0,x,hx=>by cases hx
 |n+1,x,hx=>by
  rcases yBD.1 hx with rfl|hx
  .exact h n
  .exact KX h n x hx
theorem X4{α:Type}{f:Nat->α->bJ}{l:List α}(h:∀i,∀y∈l,pM (f i y)):∀x∈l.mapIdx f,pM x:=λx hx=>by
 obtain⟨i,hi,rfl⟩:=List.mem_mapIdx.1 hx;exact h i _ (yAm hi)
theorem aQD{a b:aM}(hb:nT b):∀x∈nZ a b,pM x:=by
 have hn:∀x∈(if a.name=b.name then []else [n4 b.name]),pM x:=λx hx=>by
  split at hx
  .cases hx
  .rw[yCy.1 hx];exact aQH hb.name
 have hr:∀x∈lY a b,pM x:=λx hx=>by
  unfold lY at hx;rcases yBf.1 hx with hx|hx
  .rcases yBf.1 hx with hx|hx
   .rcases yBf.1 hx with hx|hx
    .rcases yBf.1 hx with hx|hx
     .obtain⟨l,hl,hx⟩:=List.mem_flatten.1 hx;obtain⟨i,hi,rfl⟩:=List.mem_mapIdx.1 hl;exact ia
     .exact ia
    .exact ia
   .exact X4 (λi y hy=>⟨yAF _,hb.aK y hy,D4,zY,yAF _⟩) x hx
  .refine X4 (λi y hy=>?_) x hx;split
   .exact⟨yAF _,B8,hb.aD y hy,zY,yAF _⟩
   .exact⟨yAF _,B8,hb.aD y hy,zY,yAF _⟩
 intro x hx;unfold nZ at hx;split at hx
 .exact hn x hx
 .rcases yBf.1 hx with hx|hx
  .rcases yBf.1 hx with hx|hx
   .rcases yBf.1 hx with hx|hx
    .exact hn x hx
    .exact ia
   .split at hx
    .cases hx
    .exact hr x hx
  .exact X4 (λi y hy=>⟨yAF _,B8,D4,zY,hb.aR y hy⟩) x hx
variable{E:aE}(hU:aH E)
include hU
theorem aQz(h0:E 26=none)(o:aM)(ho:gK o):aI prog E 26 [Em.bH.aA o] (i64.aA (q8 o)):=by
 obtain⟨b1,b2,b3,b4⟩:=ho.bounds;clear ho;obtain⟨on,rs,dd,cc⟩:=o;simp only at b1 b2 b3 b4;simp only[iA,aV];apply aI.qG h0 func26 rfl
 focus(simp[show Tryz.f26.ntmps=_ from rfl,List.replicate];rfl)
 refine aC trivial ?_;have hst:=aFb b4;have htot:rs.length+dd.length+cc.length+tK (dd.drop 0)=q8 ⟨on,rs,dd,cc⟩:=rfl;have hle:q8 ⟨on,rs,dd,cc⟩<=1000:=by
  rw[<-htot,yCa];omega
 obtain⟨T,hT⟩:=gn (q8 ⟨on,rs,dd,cc⟩);rw[hT]at htot hle ⊢;refine Wp.cI (λm fr σ=>∃(i n:Nat),∃gg:Nat->PD,(i+m=dd.length/\n+tK (dd.drop i)=T)/\fr=[gg 0,.ptr 0 0,gg 2,.int .i64 n,.int .i64 i,gg 5,gg 6,gg 7,gg 8,gg 9,gg 10,gg 11,gg 12,gg 13,gg 14,gg 15,gg 16,gg 17,gg 18,gg 19,gg 20,gg 21,gg 22,gg 23,gg 24,gg 25,gg 26,gg 27,gg 28,gg 29,gg 30,gg 31,gg 32]/\σ=[.box (.agg [.str on,.slice (sz 6 rs) (rs.map Em.aG.aA) .any,.slice (sz 5 dd) (dd.map Em.div.aA) .any,.slice (sz 5 cc) (cc.map Em.aJ.aA) .any])]) ?_ (dd.length) (by refine⟨0,rs.length+dd.length+cc.length,?_⟩;exact bG (⟨ye,htot⟩))
 rintro m fr σ ⟨i,n,gg,hI,rfl,rfl⟩
 obtain⟨hm,hn⟩:=hI
 by_cases hi:i<dd.length
 .have q1:(i:Int)<(dd.length:Int):=by omega
  obtain⟨d,hd⟩:=gn (dd[i]);have hdl:=b4 dd[i] (yAm hi);rw[yAq hi,hd]at hn;rw[hd]at hdl;obtain⟨dn,dp,dl,dh,ds⟩:=d;have hn2:n+ds.length+tK (dd.drop (i+1))=T:=by
   have:tK (⟨dn,dp,dl,dh,ds⟩::dd.drop (i+1))=ds.length+tK (dd.drop (i+1)):=by unfold tK;rw[yAR,List.sum_cons]
   rw[this]at hn;omega
  have w1:IntKind.i64.wrap ((n:Int)+(ds.length:Int))=(n:Int)+(ds.length:Int):=by rw[yAP];simp only at hdl;omega
  have w2:IntKind.i64.wrap ((i:Int)+1)=(i:Int)+1:=ym;refine aC (A6 q1 hi @hd @nN w1 w2) ?_;refine bC.normal (m-1) ye (by refine⟨i+1,n+ds.length,?_⟩;exact bG (⟨ye,hn2⟩))
 .have q1:¬(i:Int)<(dd.length:Int):=by omega
  rw[yCk ye]at hn;have hn2:n=T:=hn;subst hn2;refine aC q1 ?_;exact aa
end
section
variable{E:aE}(hU:aH E)
include hU
theorem aFu(h0:E 7=none)(h1:E 10=some UN)(h2:E 11=some NX)(h3:E 13=some NZ)(h4:E 25=some PQ)(h6:E 18=some KV)
  (h7:E 15=some (eZ Em.bH eV)) (h8:E 14=some (eZ Em.bH eV)) (h9:E 26=some PR)
  (p q:oC) (hp:AB p) (hq:AB q):aI prog E 7 [Em.pB.aA p,Em.pB.aA q] (Em.bool.aA true):=by
 have k:=aOF;have fp:=aD2 p;have fq:=aD2 q;simp only[EB,aV]at fp fq;cases cp:l7 p with
 |false=>
  rw[cp]at fp;simp only[EB,aV];apply aI.qG h0 func7 rfl
  focus(simp[show Tryz.f7.ntmps=_ from rfl,List.replicate];rfl)
  refine aC (A4 h1 @k h2 fp) ?_;exact aa
 |true=>
 rw[cp]at fp;cases cq:l7 q with
 |false=>
  rw[cq]at fq;simp only[EB,aV];apply aI.qG h0 func7 rfl
  focus(simp[show Tryz.f7.ntmps=_ from rfl,List.replicate];rfl)
  refine aC (A5 h1 @k h2 fp fq) ?_;exact aa
 |true=>
 rw[cq]at fq;have mp:=aD3 hp cp;have mq:=aD3 hq cq;have hA:=aBk hp cp;have hB:=aBk hq cq;obtain⟨A,hAe⟩:=gn (uH p);obtain⟨B,hBe⟩:=gn (uH q);rw[hAe]at mp hA;rw[hBe]at mq hB;clear hAe hBe;have kd:=aQA hA hB;have ka:=aFa hA;have kb:=aFa hB;have ks:=λfl σ=>kW (a:=Em.bH) (R:=eV) (x:=A) (y:=B) hA.dP.eV hB.dP.eV fl σ
 have hrun:=aQB hA.1 hB.1;have hlen:=aQC A B;have hfit:=aQD (a:=A) hB.2;have hself:A=B->(nZ A B).length=0:=λe=>by rw[e,aQE];rfl
 have hsA:q8 A<=1000/\q8 B<=1000:=by
  have:∀o,gK o->q8 o<=1000:=λo ho=>by
   obtain⟨b1,b2,b3,b4⟩:=ho.bounds;have:=aFb b4;unfold q8;omega
  exact⟨this A hA,this B hB⟩
 obtain⟨D,hDe⟩:=gn (nZ A B);rw[hDe]at kd hrun hlen hfit hself;clear hDe;obtain⟨SA,hSA⟩:=gn (q8 A);obtain⟨SB,hSB⟩:=gn (q8 B);rw[hSA]at ka hlen hsA;rw[hSB]at kb hlen hsA;have OC:D.length<=3000:=ye;obtain⟨an,ar,ad,ac⟩:=A;obtain⟨bn,br,bd,bc⟩:=B;simp only[iA,EB,aV]at mp mq kd ka kb ks ⊢;have w1:IntKind.i64.wrap ((SA:Int)+(SB:Int))=(SA:Int)+(SB:Int):=ym;have w2:IntKind.i64.wrap ((SA:Int)+(SB:Int)+1)=(SA:Int)+(SB:Int)+1:=ym;have q1:¬((SA:Int)+(SB:Int)+1<(D.length:Int)):=ye
 by_cases he:(⟨an,ar,ad,ac⟩:aM)=⟨bn,br,bd,bc⟩
 .rw[yAV he]at ks;have HW:D=[]:=yAf (hself he);subst HW;apply aI.qG h0 func7 rfl
  focus(simp[show Tryz.f7.ntmps=_ from rfl,List.replicate];rfl)
  refine aC (A18 h1 @k h2 fp fq h3 @mp mq h4 kd h8 h7 ks h9 ka kb w1 w2) ?_;refine Wp.loop ?_;refine aC (A2 h7 ks) ?_;exact aa
 .rw[yBc he]at ks;apply aI.qG h0 func7 rfl
  focus(simp[show Tryz.f7.ntmps=_ from rfl,List.replicate];rfl)
  refine aC (A19 h1 @k h2 fp fq h3 @mp mq h4 kd h8 h7 ks h9 ka kb w1 w2 q1) ?_;obtain⟨X0,oS⟩:=gn (aB.box (.agg [.slice (sz 9 p.aK) (p.aK.map Em.tM.aA) .any,.slice (sz 4 p.aD) (p.aD.map Em.xZ.aA) .any,.slice (sz 4 p.aR) (p.aR.map Em.link.aA) .any]));obtain⟨X1,EV⟩:=gn (aB.box (.agg [.slice (sz 9 q.aK) (q.aK.map Em.tM.aA) .any,.slice (sz 4 q.aD) (q.aD.map Em.xZ.aA) .any,.slice (sz 4 q.aR) (q.aR.map Em.link.aA) .any]));rw[oS,EV];clear oS EV mp mq kd ka kb ks w1 w2 q1 hself hlen;refine Wp.cI (λm fr σ=>∃(i:Nat) (c:aM) (J:List aB),∃gg:Nat->PD,(i+m=D.length/\gK c/\iZ c (D.drop i)=some ⟨bn,br,bd,bc⟩)/\fr=gg 0::gg 1::gg 2::gg 3::gg 4::.ptr 2 0::.ptr 3 0::.slice (sz 24 D) (D.map Em.edit.aA) .any::gg 8::.int .i64 i::gg 10::gg 11::gg 12::gg 13::gg 14::gg 15::gg 16::gg 17::gg 18::gg 19::gg 20::gg 21::gg 22::gg 23::gg 24::gg 25::gg 26::gg 27::gg 28::gg 29::gg 30::gg 31::gg 32::gg 33::gg 34::gg 35::gg 36::gg 37::gg 38::gg 39::gg 40::gg 41::gg 42::gg 43::gg 44::gg 45::gg 46::gg 47::gg 48::gg 49::gg 50::gg 51::gg 52::gg 53::gg 54::gg 55::gg 56::gg 57::gg 58::gg 59::gg 60::gg 61::gg 62::gg 63::gg 64::gg 65::gg 66::gg 67::gg 68::gg 69::gg 70::gg 71::gg 72::gg 73::gg 74::gg 75::gg 76::gg 77::gg 78::gg 79::gg 80::gg 81::gg 82::gg 83::gg 84::gg 85::gg 86::gg 87::[]/\σ=[X0,X1,.box (Em.bH.aA c),.box (.agg [.str bn,.slice (sz 6 br) (br.map Em.aG.aA) .any,.slice (sz 5 bd) (bd.map Em.div.aA) .any,.slice (sz 5 bc) (bc.map Em.aJ.aA) .any])]++J) ?_ (D.length) (by refine⟨0,⟨an,ar,ad,ac⟩,[],?_⟩;exact dU (⟨ye,hA,hrun⟩) (A2 @iA @aV))
  rintro m fr σ ⟨i,c,J,gg,hI,rfl,rfl⟩
  obtain⟨hm,hc,hs⟩:=hI;have hDl:D.length<=3000:=OC
  by_cases hi:i<D.length
  rotate_left
  .have q2:¬(i:Int)<(D.length:Int):=by omega
   rw[yAs ye]at hs;have e:=yBe (show some c=some _ from hs);subst e;have k7:=kW (a:=Em.bH) (R:=eV) hB.dP.eV hB.dP.eV;rw[yAV rfl]at k7;simp only[iA,aV]at k7 ⊢;refine aC (A3 q2 h7 k7) ?_;exact aa
  have q2:(i:Int)<(D.length:Int):=ye;obtain⟨x,hxe⟩:=gn (D[i]);have hxx:pM x:=hfit x (by rw[<-hxe];exact yAm hi);rw[yAq hi,hxe]at hs;unfold iZ at hs;have k6:=λfl σ=>aQF hc hxx fl σ
  have hrt:=aQG hc hxx;obtain⟨⟨o2,f⟩,hr⟩:∃r,j8 c x=r:=⟨_,rfl⟩;rw[hr]at k6 hs hrt;simp only at k6 hs hrt;have hf:f=0:=Classical.byContradiction λe=>by rw[yAI e]at hs;cases hs
  subst hf;rw[yAJ rfl]at hs;have KL:=hrt rfl;have hwr:IntKind.i64.wrap ((i:Int)+1)=(i:Int)+1:=ym;obtain⟨kd,dv,ix,nm,⟨rn,rt,ra,rb,rf,wd⟩,⟨fn,fp2,flo,fhi,fs⟩,⟨sn,sa,sb,sg⟩,⟨cn,ca,cb,cs,ct⟩⟩:=x;obtain⟨qn,qr,qd,qc⟩:=c;obtain⟨on2,rs2,dd2,cc2⟩:=o2;simp only[eI,iA,aV]at k6 ⊢;have j2:∀z:aB,(J++[z])[J.length]?=some z:=λz=>yg
  have j3:∀z y:aB,(J++[z]).set J.length y=J++[y]:=λz y=>yg
  refine aC (A9 q2 hi hxe h6 k6 @eI j2 j3 hwr) ?_;refine bC.normal (m-1) ye ⟨i+1,⟨on2,rs2,dd2,cc2⟩,_,dU (⟨ye,KL,hs⟩) (A2 @iA @aV)⟩
end
theorem aQl:aF prog (xA.add 18 KV):=aIQ.aIn bK λo x z hz=>by obtain⟨h,e⟩:=gA hz;cases e;exact aI0 o x h.1 h.2
theorem aQo:aF prog (JG.add 41 KW):=aLj.aIm bK λo z hz=>by obtain⟨h,e⟩:=gA hz;cases e;exact aRk o h
def XV:aE:=I3.add 18 KV
theorem aQk:aF prog XV:=aF.pick aQl SU Bj
theorem aQm:aH XV:=SV.entry
def XW:aE:=XV.add 41 KW
theorem aQn:aF prog XW:=aF.pick aQo aQk Bj
theorem aE4:aH XW:=aQm.entry
def XX:aE:=XW.add 58 G1
theorem aQp:aF prog XX:=aQn.add bK (λfl args σ p σ1 h=>aQq aE4 rfl fl args σ p σ1 h)
theorem aE5:aH XX:=aE4.other (λargs p h=>by unfold G1 at h;split at h<;>simp at h)
def XY:aE:=XX.add 90 G2
theorem aQr:aF prog XY:=aQp.add bK (λfl args σ p σ1 h=>aQs aE5 rfl fl args σ p σ1 h)
theorem aE6:aH XY:=aE5.other (λargs p h=>by unfold G2 at h;split at h<;>simp at h)
def XZ:aE:=XY.add 91 G3
theorem aQt:aF prog XZ:=aQr.add bK (λfl args σ p σ1 h=>aQu aE6 rfl fl args σ p σ1 h)
theorem aE7:aH XZ:=aE6.other (λargs p h=>by unfold G3 at h;split at h<;>simp at h)
def X2:aE:=XZ.add 59 PN
theorem aQv:aF prog X2:=aQt.r8 bK λa b z hz=>by obtain⟨h,e⟩:=gA hz;cases e;exact aQw aE7 rfl rfl rfl rfl rfl a b h.1 h.2
theorem aE8:aH X2:=aE7.entry
def X3:aE:=X2.add 25 PQ
theorem aQx:aF prog X3:=aQv.r8 bK λa b z hz=>by obtain⟨h,e⟩:=gA hz;cases e;exact aQy aE8 rfl rfl rfl rfl rfl rfl rfl rfl rfl a b h.1 h.2
theorem aE9:aH X3:=aE8.entry
def Df6:aE:=X3.add 26 PR
theorem aFw:aF prog Df6:=aQx.mV bK λo z hz=>by obtain⟨h,e⟩:=gA hz;cases e;exact aQz aE9 rfl o h
theorem aFv:aH Df6:=aE9.entry
end Go.Kz
end
