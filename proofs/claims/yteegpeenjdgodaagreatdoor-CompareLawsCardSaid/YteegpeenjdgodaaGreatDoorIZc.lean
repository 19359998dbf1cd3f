import Derived.Test.YteegpeenjdgodaaGreatDoorIZb
set_option linter.all false
set_option maxHeartbeats 40000000
set_option maxRecDepth 100000
open Go.Proofs.Tryz
noncomputable section
namespace Go.Kz
open Go Go.Proofs
section
def Q4:Nat->List PD->List aB->Option (PD×List aB):=entry (dZ Em.bM Em.bM (L4.sA i64) λa b=>dP (gY a/\gY b) (some (nK a b,0)))
theorem aGI{a b:aP}(ha:gY a)(hb:gY b)(fl:Nat)(σ:List aB):Q4 fl [Em.bM.aA a,Em.bM.aA b] σ=some (.aI [.slice (sz 24 (nK a b)) ((nK a b).map Em.edit.aA) .any,.int .i64 0],σ):=by
 have e1:=Em.cM (Em.bM.str a);have e2:=Em.cM (Em.bM.str b);unfold Q4 entry dZ;simp only[e1,e2];rw[eV ⟨ha,hb⟩];simp only[aHH,aW];rfl
def Q5:Nat->List PD->List aB->Option (PD×List aB):=entry (bZ Em.bM i64 λo=>dP (gY o) (some (uG o:Int)))
theorem aSR{o:aP}(ho:gY o)(fl:Nat)(σ:List aB):Q5 fl [Em.bM.aA o] σ=some (.int .i64 (uG o),σ):=by
 have e1:=Em.cM (Em.bM.str o);unfold Q5 entry bZ;simp only[e1];rw[eV ho];rfl
theorem aGG{l:List bD}(h:∀d∈l,d.stops.length<=60):rS l<=60*l.length:=by
 unfold rS
 induction l with
 |nil=>simp
 |cons d t ih=>
  exact qj
theorem aSS{n:Gd}(h:j8 n):jN (oN n):=⟨h,yX,AX,yY,yAF _⟩
theorem L6{f:Nat->bC}(h:∀i,jN (f i)):∀n,∀x∈fP f n,jN x
 |0,x,hx=>by cases hx
 |n+1,x,hx=>by
  rcases yBh.1 hx with rfl|hx
  .exact h n
  .exact L6 h n x hx
theorem aAa{α:Type}{f:Nat->α->bC}{l:List α}(h:∀i,∀y∈l,jN (f i y)):∀x∈l.mapIdx f,jN x:=λx hx=>by
 obtain⟨i,hi,rfl⟩:=List.mem_mapIdx.1 hx;exact h i _ (yAm hi)
theorem aSO{a b:aP}(hb:qE b):∀x∈nK a b,jN x:=by
 have hn:∀x∈(if a.name=b.name then []else [oN b.name]),jN x:=λx hx=>by
  split at hx
  .cases hx
  .rw[yCM.1 hx];exact aSS hb.name
 have hr:∀x∈mV a b,jN x:=λx hx=>by
  unfold mV at hx;rcases yBf.1 hx with hx|hx
  .rcases yBf.1 hx with hx|hx
   .rcases yBf.1 hx with hx|hx
    .rcases yBf.1 hx with hx|hx
     .obtain⟨l,hl,hx⟩:=List.mem_flatten.1 hx;obtain⟨i,hi,rfl⟩:=List.mem_mapIdx.1 hl;exact jj
     .exact jj
    .exact jj
   .exact aAa (λi y hy=>⟨yAF _,hb.aM y hy,AX,yY,yAF _⟩) x hx
  .refine aAa (λi y hy=>?_) x hx;split
   .exact⟨yAF _,yX,hb.aD y hy,yY,yAF _⟩
   .exact⟨yAF _,yX,hb.aD y hy,yY,yAF _⟩
 intro x hx;unfold nK at hx;split at hx
 .exact hn x hx
 .rcases yBf.1 hx with hx|hx
  .rcases yBf.1 hx with hx|hx
   .rcases yBf.1 hx with hx|hx
    .exact hn x hx
    .exact jj
   .split at hx
    .cases hx
    .exact hr x hx
  .exact aAa (λi y hy=>⟨yAF _,yX,AX,yY,hb.aO y hy⟩) x hx
variable{E:aE}(hU:aH E)
include hU
theorem aSI(h0:E 26=none)(o:aP)(ho:gY o):aJ prog E 26 [Em.bM.aA o] (i64.aA (uG o)):=by
 obtain⟨b1,b2,b3,b4⟩:=ho.bounds;clear ho;obtain⟨on,rs,dd,cc⟩:=o;simp only at b1 b2 b3 b4;simp only[gF,aW];apply aJ.lY h0 func26 rfl
 focus(simp[show Tryz.f26.ntmps=_ from rfl,List.replicate];rfl)
 refine aC trivial ?_;have hst:=aGG b4;have htot:rs.length+dd.length+cc.length+rS (dd.drop 0)=uG ⟨on,rs,dd,cc⟩:=rfl;have hle:uG ⟨on,rs,dd,cc⟩<=1000:=by
  rw[<-htot,yCd];omega
 obtain⟨T,hT⟩:=gn (uG ⟨on,rs,dd,cc⟩);rw[hT]at htot hle ⊢;refine Wp.cZ (λm fr σ=>∃(i n:Nat),∃gg:Nat->PD,(i+m=dd.length/\n+rS (dd.drop i)=T)/\fr=[gg 0,.ptr 0 0,gg 2,.int .i64 n,.int .i64 i,gg 5,gg 6,gg 7,gg 8,gg 9,gg 10,gg 11,gg 12,gg 13,gg 14,gg 15,gg 16,gg 17,gg 18,gg 19,gg 20,gg 21,gg 22,gg 23,gg 24,gg 25,gg 26,gg 27,gg 28,gg 29,gg 30,gg 31,gg 32]/\σ=[.box (.agg [.str on,.slice (sz 6 rs) (rs.map Em.aG.aA) .any,.slice (sz 5 dd) (dd.map Em.div.aA) .any,.slice (sz 5 cc) (cc.map Em.aK.aA) .any])]) ?_ (dd.length) (by refine⟨0,rs.length+dd.length+cc.length,?_⟩;exact cF (⟨Ah,htot⟩))
 rintro m fr σ ⟨i,n,gg,hI,rfl,rfl⟩
 obtain⟨hm,hn⟩:=hI
 by_cases hi:i<dd.length
 .have q1:(i:Int)<(dd.length:Int):=by omega
  obtain⟨d,hd⟩:=gn (dd[i]);have hdl:=b4 dd[i] (yAm hi);rw[yAq hi,hd]at hn;rw[hd]at hdl;obtain⟨dn,dp,dl,dh,ds⟩:=d;have hn2:n+ds.length+rS (dd.drop (i+1))=T:=by
   have:rS (⟨dn,dp,dl,dh,ds⟩::dd.drop (i+1))=ds.length+rS (dd.drop (i+1)):=by unfold rS;rw[yAS,yDW]
   rw[this]at hn;omega
  have w1:IntKind.i64.wrap ((n:Int)+(ds.length:Int))=(n:Int)+(ds.length:Int):=by rw[yAP];simp only at hdl;omega
  have w2:IntKind.i64.wrap ((i:Int)+1)=(i:Int)+1:=Am;refine aC (A6 q1 hi @hd @lX w1 w2) ?_;refine bV.normal (m-1) Ah (by refine⟨i+1,n+ds.length,?_⟩;exact cF (⟨Ah,hn2⟩))
 .have q1:¬(i:Int)<(dd.length:Int):=by omega
  rw[yCu Ah]at hn;have hn2:n=T:=hn;subst hn2;refine aC q1 ?_;exact ag
end
section
theorem aGA{α β:Type}{f:α->β}{x y:α}:∀ {l:List α},(l.map f).Nodup->x∈l->y∈l->f x=f y->x=y
 | [],_,hx,_,_=>by cases hx
 |z::t,h,hx,hy,e=>by
  obtain⟨h1,h2⟩:=List.nodup_cons.1 (show(f z::t.map f).Nodup from h);rcases yBh.1 hx with rfl|hx'
  .rcases yBh.1 hy with rfl|hy'
   .rfl
   .exact absurd (yAw.2 ⟨y,hy',e.symm⟩) h1
  .rcases yBh.1 hy with rfl|hy'
   .exact absurd (yAw.2 ⟨x,hx',e⟩) h1
   .exact aGA h2 hx' hy' e
theorem aGB{α:Type}{p:α->Bool}{l:List α}{x:α}(hx:x∈l)(hp:p x=true)(i:Nat):0<=cK p l i:=
 yDh ((K8 p l i).trans (List.any_eq_true.2 ⟨x,hx,hp⟩))
theorem aGC(i:Nat)(k:Int)(tl:List bW):∀(l:List bW) (j:Nat),(∀s∈l,s∈tl)->(IK i k tl l j).length=l.length
 | [],_,_=>rfl
 |s::r,j,h=>by
  rw[IK,yAJ (aGB (h s (yBc ..)) (by unfold pP;simp) 0),yAa,aGC i k tl r (j+1) λx hx=>h x (yBH _ hx)];show 1+r.length=r.length+1
  omega
theorem aGD(bd:List bD)(hb:(bd.map bD.name).Nodup):∀(l:List bD) (i:Nat),(∀d∈l,d∈bd)->(vK bd l i).length=rS l
 | [],_,_=>rfl
 |d::r,i,h=>by
  have hd:=h d (yBc ..);have h0:=aGB (p:=mG d.name) hd (by unfold mG;simp) 0;have h1:=aFE (mG d.name) bd 0 h0 ⟨[],false,0,0,[]⟩;have h2:=aFF (mG d.name) bd 0 h0 ⟨[],false,0,0,[]⟩;rw[yCW]at h1 h2;have e:=aGA hb h2 hd (yDh h1);rw[vK,yAI Ah,e,yAa,aGC _ _ _ _ _ λs hs=>hs,aGD bd hb r (i+1) λx hx=>h x (yBH _ hx)];unfold rS;rw[yAS,yDW]
theorem aGE:∀(l:List bC) (o q:aP) (i:Int),jP o l=some q->C7 o l i=(q,0,0)
 | [],o,q,i,h=>by
   cases h;rfl
 |x::t,o,q,i,h=>by
  unfold jP at h;unfold C7
  by_cases e:(iJ o x).2=0
  .rw[yAJ e]at h ⊢;exact aGE t _ q (i+1) h
  .rw[yAI e]at h;cases h
theorem aGF{o:aP}(ho:gY o):uG o<=600:=by
 obtain⟨b1,b2,b3,b4⟩:=ho.bounds;have:=aGG b4;unfold uG;omega
variable{E:aE}(hU:aH E)
include hU
theorem aG4(h0:E 8=none)(h1:E 10=some V0)(h2:E 11=some O3)(h3:E 13=some AD)(h4:E 16=some Q6)(h5:E 23=some Q1)(h6:E 25=some Q4)
  (h7:E 17=some Q2) (h8:E 20=some O2) (h9:E 27=some CA) (h10:E 14=some (eU Em.bM gG)) (h11:E 26=some Q5)
  (p:oT) (c:rU) (hp:xD p) (hc:DB c.kind/\xD c.dV/\gE c.extra):aJ prog E 8 [Em.dV.aA p,Em.change.aA c] (Em.bool.aA true):=by
 have k:=aQ4;have fp:=aFC p;have fq:=aFC c.dV;simp only[vN,aW]at fp fq;cases cp:mL p with
 |false=>
  rw[cp]at fp;obtain⟨ck,cd,ci,⟨pr,pd,pc⟩,ce⟩:=c;simp only[B8,vN,aW];apply aJ.lY h0 func8 rfl
  focus(simp[show Tryz.f8.ntmps=_ from rfl,List.replicate];rfl)
  refine aC (A4 h1 @k h2 fp) ?_;exact ag
 |true=>
 rw[cp]at fp;cases cq:mL c.dV with
 |false=>
  rw[cq]at fq;obtain⟨ck,cd,ci,⟨pr,pd,pc⟩,ce⟩:=c;simp only[B8,vN,aW]at fq ⊢;apply aJ.lY h0 func8 rfl
  focus(simp[show Tryz.f8.ntmps=_ from rfl,List.replicate];rfl)
  refine aC (A5 h1 @k h2 fp fq) ?_;exact ag
 |true=>
 rw[cq]at fq;have mp:=LZ hp cp;have hO:=G6 hp cp;obtain⟨O,hOe⟩:=gn (fE p);rw[hOe]at mp hO;clear hOe;have hcg:zX c:=⟨hc.1,hc.2.1,cq,hc.2.2⟩;have mc:=aSJ hcg;have hX:=aSK hcg;obtain⟨X,hXe⟩:=gn (sL c);rw[hXe]at mc hX;have ky:=λfl σ=>aSL hO.dI hX fl σ
 have hAS:IV O X=iJ O X:=yAJ hO.1;rw[hAS]at ky;have hrt:=aGH hO hX;obtain⟨⟨A,e⟩,hr⟩:∃r,iJ O X=r:=⟨_,rfl⟩;rw[hr]at ky hrt;simp only at ky hrt;clear hr hAS;obtain⟨ck,cd,ci,⟨pr,pd,pc⟩,ce⟩:=c;obtain⟨yk,yd,yi,nm,⟨rn,rt,ra,rb,rf,wd⟩,⟨fn,fp2,flo,fhi,fs⟩,⟨sn,sa,sb,sg⟩,⟨cn,ca,cb,cs,ct⟩⟩:=X
 by_cases he:e=0
 rotate_left
 .obtain⟨an,ar,ad,ac⟩:=A;obtain⟨on,rs,dd,cc⟩:=O;simp only[B8,cU,gF,vN,aW]at mp mc ky fq ⊢;apply aJ.lY h0 func8 rfl
  focus(simp[show Tryz.f8.ntmps=_ from rfl,List.replicate];rfl)
  refine aC (A12 h1 @k h2 fp fq h3 @mp h4 mc h5 ky @he) ?_;exact ag
 subst he;have hA:=hrt rfl;have kd:=aGI hA hO;have ks:=aGI hO hO;rw[aSM]at ks;have hlen:=aSN A O;have hs1:=aGF hA;have hs2:=aGF hO;have hfit:=aSO (a:=A) hO.2;have hall:C8 A (nK A O)=(O,0,0):=by
  unfold C8;rw[yAJ hA.1,yAJ Ah];exact aGE _ _ _ 0 (aSP hA.1 hO.1)
 have ka:=aSQ (q:=.slice (sz 24 (nK A O)) ((nK A O).map Em.edit.aA) .any) hA.dI hfit Ah (by rw[vA,aW]);rw[hall]at ka;have km:=aQ3 hO.dI hO.dI hO.1 hO.1;have hml:=aGD O.aD ((gO O).1 hO.1).2.2.1.2.2 O.aD 0 λd hd=>hd
 obtain⟨M,hM⟩:=gn (vK O.aD O.aD 0);rw[hM]at km hml;have kc:=FL hA.dI;rw[hA.1]at kc;have kq:=mM (a:=Em.bM) (R:=gG) hO.dI.gG hO.dI.gG;rw[yAY rfl]at kq;have kz:=aSR hO;have hsz:uG O=O.aM.length+O.aD.length+O.aO.length+M.length:=by rw[hml];rfl
 obtain⟨D,hD⟩:=gn (nK A O);rw[hD]at kd ka;clear hD hfit hall hlen hM hml;obtain⟨an,ar,ad,ac⟩:=A;obtain⟨on,rs,dd,cc⟩:=O;simp only at hsz;obtain⟨Z,hZ⟩:=gn (uG ⟨on,rs,dd,cc⟩);rw[hZ]at kz hsz hs2;have b1:=hO.bounds;simp only at b1;have w1:IntKind.i64.wrap ((Z:Int)-rs.length)=(Z:Int)-rs.length:=Am;have w2:IntKind.i64.wrap ((Z:Int)-rs.length-dd.length)=(Z:Int)-rs.length-dd.length:=Am;have w3:IntKind.i64.wrap ((Z:Int)-rs.length-dd.length-cc.length)=(M.length:Int):=Am;simp only[B8,cU,gF,vN,aW]at mp mc ky fq kd ks ka km kc kq kz ⊢;apply aJ.lY h0 func8 rfl
 focus(simp[show Tryz.f8.ntmps=_ from rfl,List.replicate];rfl)
 refine aC (A20 h1 @k h2 fp fq h3 @mp h4 mc h5 ky h6 kd ks h7 ka h8 km h9 (A8 kc h10 kq h11 kz w1 w2 w3)) ?_;exact ag
end
theorem aSo:aF prog (O7.add 42 IP):=aM1.aJV bI λo x z hz=>by obtain⟨h,e⟩:=fG hz;cases e;exact aNk o x h.1 h.2
theorem aSt:aF prog (uX.add 41 IQ):=aDP.aCs bI λo z hz=>by obtain⟨h,e⟩:=fG hz;cases e;exact aTw o h
theorem aTC:aF prog (G7.add 40 zY):=aJ8.aCs bI λo z hz=>by obtain⟨h,e⟩:=fG hz;cases e;exact aJZ o h
def Ar1:aE:=G7.add 40 zY
theorem aTD:aF prog Ar1:=aTC
theorem aG0:aH Ar1:=aCM.entry
def Z1:aE:=Ar1.add 16 Q6
theorem aSp:aF prog Z1:=aTD.lZ bI λx z hz=>by obtain⟨h,e⟩:=fG hz;cases e;exact aTx aG0 rfl rfl rfl rfl x h
theorem aSr:aH Z1:=aG0.entry
def Z0:aE:=Z1.add 42 IP
theorem aSn:aF prog Z0:=aF.pick aSo aSp Cd
theorem aSq:aH Z0:=aSr.entry
def Z2:aE:=Z0.add 41 IQ
theorem aSs:aF prog Z2:=aF.pick aSt aSn Cd
theorem aGs:aH Z2:=aSq.entry
def Z3:aE:=Z2.add 23 Q1
theorem aSu:aF prog Z3:=aSs.qW bI λo x z hz=>by obtain⟨h,e⟩:=fG hz;cases e;exact aSv aGs rfl rfl rfl o x h.1 h.2
theorem aGt:aH Z3:=aGs.entry
def Z4:aE:=Z3.add 17 Q2
theorem aSw:aF prog Z4:=aSu.qW bI λo x z hz=>by obtain⟨h,e⟩:=fG hz;cases e;exact aSx aGt rfl rfl rfl rfl o x h.1 h.2.1 h.2.2
theorem aGu:aH Z4:=aGt.entry
def Z5:aE:=Z4.add 58 IS
theorem aSy:aF prog Z5:=aSw.add bI (λfl args σ p σ1 h=>aSz aGu rfl fl args σ p σ1 h)
theorem aGv:aH Z5:=aGu.other (λargs p h=>by unfold IS at h;split at h<;>simp at h)
def Z6:aE:=Z5.add 90 IT
theorem aSA:aF prog Z6:=aSy.add bI (λfl args σ p σ1 h=>aSB aGv rfl fl args σ p σ1 h)
theorem aGw:aH Z6:=aGv.other (λargs p h=>by unfold IT at h;split at h<;>simp at h)
def Z7:aE:=Z6.add 91 IU
theorem aSC:aF prog Z7:=aSA.add bI (λfl args σ p σ1 h=>aSD aGw rfl fl args σ p σ1 h)
theorem aGx:aH Z7:=aGw.other (λargs p h=>by unfold IU at h;split at h<;>simp at h)
def Z8:aE:=Z7.add 59 Q3
theorem aSE:aF prog Z8:=aSC.qW bI λa b z hz=>by obtain⟨h,e⟩:=fG hz;cases e;exact aSF aGx rfl rfl rfl rfl rfl a b h.1 h.2
theorem aGy:aH Z8:=aGx.entry
def Z9:aE:=Z8.add 25 Q4
theorem aSG:aF prog Z9:=aSE.qW bI λa b z hz=>by obtain⟨h,e⟩:=fG hz;cases e;exact aSH aGy rfl rfl rfl rfl rfl rfl rfl rfl rfl a b h.1 h.2
theorem aGz:aH Z9:=aGy.entry
def Dg6:aE:=Z9.add 26 Q5
theorem aG6:aF prog Dg6:=aSG.lZ bI λo z hz=>by obtain⟨h,e⟩:=fG hz;cases e;exact aSI aGz rfl o h
theorem aG5:aH Dg6:=aGz.entry
end Go.Kz
end
