/- Steps of the proof. -/
import Derived.Test.YtnogdlnjafblaaaGreatDoorH5
import Derived.Test.YtnogdlnjafblaaaGreatDoorH3
set_option linter.all false
set_option maxHeartbeats 40000000
set_option maxRecDepth 100000
open Go.Proofs.Tryz
noncomputable section
namespace Go.Kz
open Go Go.Proofs
section
def sQ(x:Int):Int:=IntKind.u64.wrap x
def MG(a:Int):List Int->Nat->List Int->Int->List Int×Int
 | [],_,o,c=>(o,c)
 |b::r,p,o,c=>MG a r (p+1) (o.set p ((sQ (sQ (o.getD p 0+sQ (a*b))+c)).tmod 1000000000)) (sQ ((sQ (sQ (o.getD p 0+sQ (a*b))+c)).tdiv 1000000000))
def QN(ns:List Int):List Int->Nat->List Int->List Int
 | [],_,o=>o
 |a::r,i,o=>QN ns r (i+1) ((MG a ns i o 0).1.set (i+ns.length) (sQ ((MG a ns i o 0).1.getD (i+ns.length) 0+(MG a ns i o 0).2)))
def aEl(m n:List Int):List Int:=(QN n m 0 (List.replicate (m.length+n.length+1) 0)).take (jY (QN n m 0 (List.replicate (m.length+n.length+1) 0)))
theorem aRq(a:Int):∀(r:List Int) (p:Nat) (o:List Int) (c:Int),(MG a r p o c).1.length=o.length
 | [],_,_,_=>rfl
 |b::r,p,o,c=>by
  unfold MG;rw[aRq a r];simp
theorem a5H{P:Program}{e:TypeId}{n b:Nat}(h:qR P e=some (n,b)):∃i,P.info? e=some i/\i.size=n/\i.bytes=b:=by
 unfold qR at h;split at h
 .rename_i i hi;split at h
  .split at h
   .simp only[yAb,yAc]at h;exact⟨i,hi,h.1,h.2⟩
   .cases h
  .cases h
 .cases h
theorem a5I(σ:List U)(n:Nat)(hn:n<=2000000):xS prog σ 250 96 n n=some (.cL σ.length 0 n 1,σ++[.box (.agg ((List.replicate n 0).map cN.aA))]):=by
 obtain⟨i,hi,h0,hb⟩:=a5H (P:=prog) (e:=96) (n:=1) (b:=8) yp;have h1:bI prog 96=some 1:=yp;have h2:dT prog 96=some (.int .u64 0):=yp;have hz:s5 (.int .u64 0) 1 n=(List.replicate n 0).map cN.aA:=by
  refine yBS λj=>?_
  by_cases hj:j<n
  .simp[s5,PD.cells,hj,yDd,Nat.mod_one,Em.int]
  .rw[yBo (by simp[s5];omega),yBo zc]
 unfold xS;simp only[hi,h1,h2,hb];rw[yAJ ⟨yAk _,yx,rfl,rfl,zy,ym⟩,yAI (λh=>h.2 h.1),yAJ trivial,yAJ yx,hz]
variable{E:aE}(hU:aG E)
include hU
theorem a5F(h0:E 178=none)(h1:E 192=some H2)(l r:List Int)(hl:l.length<=1000)(hr:r.length<=1000) :
  ∃F,QN r l 0 (List.replicate (l.length+r.length+1) 0)=F/\cF prog E 0 (.inl 178) [(cN.list 1).aA l,(cN.list 1).aA r] [] (λp1 σ1=>p1=.cL 0 0 (jY F) 1/\σ1=[.box (.agg (F.map cN.aA))]):=by
 refine⟨_,rfl,?_⟩;obtain⟨F,hF⟩:=gn (QN r l 0 (List.replicate (l.length+r.length+1) 0));rw[hF];simp only[eN];have w1:IntKind.i64.wrap ((l.length:Int)+r.length)=(l.length:Int)+r.length:=zd;have w2:IntKind.i64.wrap ((l.length:Int)+r.length+1)=(l.length:Int)+r.length+1:=zd;obtain⟨N,hN⟩:=gn (l.length+r.length+1);have hmk:=a5I [] N ym;have w3:((l.length:Int)+r.length+1).toNat=N:=ym;have w4:(0:Int)<=(l.length:Int)+r.length+1:=ym;rw[hN]at hF;refine cF.aV 68 h0 func178 (h:=?_);refine aD (A5 w1 w2 w3 w4 hmk) ?_;refine Wp.dK (λm fr σ=>∃(i:Nat) (o:List Int),∃gg:Nat->PD,(i+m=l.length/\o.length=N/\QN r (l.drop i) i o=F)/\fr=gg 0::.slice (sz 1 r) (r.map cN.aA) .any::gg 2::gg 3::gg 4::.cL 0 0 N 1::gg 6::gg 7::gg 8::gg 9::gg 10::gg 11::gg 12::gg 13::gg 14::gg 15::gg 16::gg 17::gg 18::.slice (sz 1 l) (l.map cN.aA) .any::.int .i64 l.length::.int .i64 i::gg 22::gg 23::gg 24::gg 25::gg 26::gg 27::gg 28::gg 29::gg 30::gg 31::gg 32::gg 33::gg 34::gg 35::gg 36::gg 37::gg 38::gg 39::gg 40::gg 41::gg 42::gg 43::gg 44::gg 45::gg 46::gg 47::gg 48::gg 49::gg 50::gg 51::gg 52::gg 53::gg 54::gg 55::gg 56::gg 57::gg 58::gg 59::gg 60::gg 61::gg 62::gg 63::gg 64::gg 65::gg 66::gg 67::[]/\σ=[.box (.agg (o.map cN.aA))]) ?_ (l.length) (by refine⟨0,List.replicate N 0,?_⟩;exact bV (⟨ym,yo,hF⟩))
 rintro m fr σ ⟨i,o,gg,hI,rfl,rfl⟩
 obtain⟨hm,ho,hs⟩:=hI
 by_cases hi:i<l.length
 .have q1:(i:Int)<(l.length:Int):=by omega
  obtain⟨a,ha⟩:=gn (l[i]);have qY:l.drop i=a::l.drop (i+1):=zq;rw[qY]at hs;unfold QN at hs;obtain⟨Q,hQ⟩:=gn (MG a r i o 0);rw[hQ]at hs;have hQl:Q.1.length=N:=by rw[<-hQ,aRq,ho]
  refine aD xd ?_;obtain⟨M,hM⟩:∃M,M=m:=⟨_,rfl⟩;rw[<-hM]at hm ⊢;clear hM;refine Wp.dK (λm fr σ=>∃(k:Nat) (o2:List Int) (c:Int),∃gg:Nat->PD,(k+m=r.length/\o2.length=N/\MG a (r.drop k) (i+k) o2 c=Q)/\fr=gg 0::.slice (sz 1 r) (r.map cN.aA) .any::gg 2::gg 3::gg 4::.cL 0 0 N 1::.int .i64 i::.int .u64 a::.int .u64 c::gg 9::gg 10::gg 11::gg 12::gg 13::gg 14::gg 15::gg 16::gg 17::gg 18::.slice (sz 1 l) (l.map cN.aA) .any::.int .i64 l.length::.int .i64 i::gg 22::gg 23::gg 24::gg 25::.slice (sz 1 r) (r.map cN.aA) .any::.int .i64 r.length::.int .i64 k::gg 29::gg 30::gg 31::gg 32::gg 33::gg 34::gg 35::gg 36::gg 37::gg 38::gg 39::gg 40::gg 41::gg 42::gg 43::gg 44::gg 45::gg 46::gg 47::gg 48::gg 49::gg 50::gg 51::gg 52::gg 53::gg 54::gg 55::gg 56::gg 57::gg 58::gg 59::gg 60::gg 61::gg 62::gg 63::gg 64::gg 65::gg 66::gg 67::[]/\σ=[.box (.agg (o2.map cN.aA))]) ?_ (r.length) (by refine⟨0,o,0,?_⟩;exact bV (⟨ym,ho,hQ⟩))
  rintro m fr σ ⟨k,o2,c,gg,hI,rfl,rfl⟩
  obtain⟨hm2,ho2,hs2⟩:=hI
  by_cases hk:k<r.length
  .have q2:(k:Int)<(r.length:Int):=by omega
   obtain⟨b,hb⟩:=gn (r[k]);have hc2:r.drop k=b::r.drop (k+1):=by rw[yAq hk,hb]
   rw[hc2]at hs2;unfold MG at hs2;obtain⟨p,hp⟩:=gn (i+k);rw[hp]at hs2;have hlt:p<o2.length:=ym;obtain⟨v,hv⟩:=gn (o2[p]);have hg:o2.getD p 0=v:=by rw[yAA,yAh hlt,hv];rfl
   rw[hg]at hs2;have y0:IntKind.i64.wrap ((i:Int)+k)=(p:Int):=zd;have hnk:p<N:=ym;obtain⟨X,hX⟩:=gn (sQ (sQ (v+sQ (a*b))+c));rw[hX]at hs2;unfold sQ at hX;obtain⟨Y,hY⟩:=gn (sQ (X.tdiv 1000000000));rw[hY]at hs2;unfold sQ at hY;obtain⟨Z,hZ⟩:=gn (X.tmod 1000000000);rw[hZ]at hs2;obtain⟨A,hA⟩:=gn (o2.map cN.aA);have hAn:A[p]?=some (.int .u64 v):=by rw[<-hA,yAo,yAh hlt,hv];rfl
   obtain⟨hAl,hAe⟩:=yA.1 hAn;have hAs:A.set p (.int .u64 Z)=(o2.set p Z).map cN.aA:=by rw[<-hA,List.map_set];rfl
   rw[hA];have hle:p+1<=A.length:=hAl;have hAt:A.take p++PD.int .u64 Z::A.drop (p+1)=(o2.set p Z).map cN.aA:=by
    rw[<-hAs,yEa,yAJ hAl]
   have hnx:i+(k+1)=p+1:=ym;refine aD (A12 q2 hk hb y0 hnk hAn hAe hX hY hZ hAl @hle) ?_;refine aL.normal (m-1) ym (by refine⟨k+1,o2.set p Z,Y,?_⟩;exact fL (⟨ym,by simp[ho2],by rw[hnx];exact hs2⟩) @hAt)
  .have q2:¬(k:Int)<(r.length:Int):=by omega
   obtain rfl:k=r.length:=ym;rw[yCe]at hs2;unfold MG at hs2;subst hs2;simp only at hs hQl;obtain⟨p,hp⟩:=gn (i+r.length);rw[hp]at hs;have hlt:p<o2.length:=ym;obtain⟨v,hv⟩:=gn (o2[p]);have hg:o2.getD p 0=v:=by rw[yAA,yAh hlt,hv];rfl
   rw[hg]at hs;have y0:IntKind.i64.wrap ((i:Int)+r.length)=(p:Int):=zd;have hnk:p<N:=ym;obtain⟨Z,hZ⟩:=gn (sQ (v+c));rw[hZ]at hs;unfold sQ at hZ;obtain⟨A,hA⟩:=gn (o2.map cN.aA);have hAn:A[p]?=some (.int .u64 v):=by rw[<-hA,yAo,yAh hlt,hv];rfl
   obtain⟨hAl,hAe⟩:=yA.1 hAn;have hAs:A.set p (.int .u64 Z)=(o2.set p Z).map cN.aA:=by rw[<-hA,List.map_set];rfl
   have hle:p+1<=A.length:=hAl;have hAt:A.take p++PD.int .u64 Z::A.drop (p+1)=(o2.set p Z).map cN.aA:=by
    rw[<-hAs,yEa,yAJ hAl]
   rw[hA];refine aD (A8 q2 y0 hnk hAn hAe hZ hAl @hle) ?_;refine aL.normal (M-1) ym (by refine⟨i+1,o2.set p Z,?_⟩;exact fL (⟨ym,by simp[ho2],hs⟩) @hAt)
 .have q1:¬(i:Int)<(l.length:Int):=by omega
  rw[List.drop_of_length_le ym]at hs;unfold QN at hs;subst hs;have hg:∀fl,H2 fl [.cL 0 0 N 1] [.box (.agg (o.map cN.aA))]=some (.cL 0 0 (jY o) 1,[.box (.agg (o.map cN.aA))]):=λfl=>by
   unfold H2;simp only[yBD,yDJ];rw[yAz (by simp[ho]),aHH];simp only;rw[yAJ ⟨ho,ym⟩]
  refine aD (A3 q1 h1 hg) ?_;exact dy
end
theorem a5A{E:aE}(hU:aG E):aG (E.add 192 H2):=by
 intro f' g' args p hf hg fl σ;rw[aE.o3]at hf;split at hf
 .simp only[yAb]at hf;subst hf;unfold H2 at hg ⊢;split at hg
  .rename_i z xs tok;split at hg
   .rename_i l hl;split at hg
    .rename_i hc;simp only[yAb,yAc]at hg;rw[yAJ hc,hg.1]
    .cases hg
   .cases hg
  .simp at hg
  .cases hg
 .exact hU f' g' args p hf hg fl σ
def aRl(l:List UInt8):Bool:=l.all λc=>decide (48<=c.toNat)&&decide (c.toNat<=57)
theorem a5B{l:Dr}(h:aRl l=true):aDo l:=λc hc=>by
 have:=yAn.1 h c hc;exact bp
def gLg:List PD->Option PD:=λargs=>match args with
 | [.str s]=>if aRl s=true/\s.length<=1000 then some (.slice (if (aAS s).length=0 then 0 else 1) ((aAS s).map cN.aA) .any)else none
 |_=>none
def gTm:List PD->Option PD:=λargs=>match args with
 | [.slice z1 xs _,.slice z2 ys _]=>match H0 xs,H0 ys with
   |some l,some r=>if (l.length=0\/z1=1)/\(r.length=0\/z2=1)/\l.length<=1000/\r.length<=1000 then some (.slice (if (aEl l r).length=0 then 0 else 1) ((aEl l r).map cN.aA) .any)else none
   |_,_=>none
 |_=>none
theorem aJa{z:Nat}{l:List Int}{tok:Tok}(h:l.length=0\/z=1):PD.strip (.slice z (l.map cN.aA) tok)=(cN.list 1).aA l:=by
 rw[PD.lD,show(l.map cN.aA).map PD.strip=l.map cN.aA by rw[yBc];exact yAG λx _=>cN.str x];rcases h with h|h
 .rw[yAf h];rfl
 .rw[h];show _=PD.slice (sz 1 l) (l.map cN.aA) .any
  simp[sz]
theorem aJb(l:List Int):(cN.list 1).aA l=.slice (if l.length=0 then 0 else 1) (l.map cN.aA) .any:=rfl
theorem aRm(σ:List U)(k:Nat):∀l:List Int,(l.map cN.aA).map (dP σ k)=l.map cN.aA
 | []=>rfl
 |x::l=>by
  rw[yAX,yAX,aRm σ k l];cases k<;>rfl
theorem aRn(F:List Int)(n:Nat)(hn:n<=F.length):dP [.box (.agg (F.map cN.aA))] 2 (.cL 0 0 n 1)=.slice 1 ((F.take n).map cN.aA) .any:=by
 simp only[dP,yBD,PD.cells,yAe,yDJ];rw[yAJ ym,aRm];simp[E7,yCG]
def Mg0:aE:=aE.nil
theorem a5C:aF prog Mg0:=⟨λ_ hg=>Ao,λ_ hg=>Ao⟩
def Mg1:aE:=Mg0.add 192 H2
theorem aRo:aF prog Mg1:=a0O aG.none a5C rfl
theorem aRp:aG Mg1:=a5A aG.none
def Mg2:aE:=Mg1.add 188 (entry gLg)
theorem a5D:aF prog Mg2:=aRo.OV yp λargs p hg=>by
 unfold gLg at hg;split at hg
 .rename_i s;split at hg
  .rename_i hc;simp only[yAb]at hg;subst hg;obtain⟨p1,σ1,e1,e2⟩:=a0S aRp rfl rfl s hc.2 (a5B hc.1);refine⟨p1,σ1,e1,by rw[e2];exact aJb _,rfl,?_⟩;have:=(cN.list 1).eC (aAS s);rw[aJb]at this;exact this
  .cases hg
 .cases hg
def Mg3:aE:=Mg1.add 178 (entry gTm)
theorem a5E:aF prog Mg3:=aRo.aU0 yp λargs p hg=>by
 unfold gTm at hg;split at hg
 .rename_i z1 xs t1 z2 ys t2;split at hg
  .rename_i l r hl hr;split at hg
   .rename_i hc;obtain⟨c1,c2,c3,c4⟩:=hc;simp only[yAb]at hg;subst hg;rw[aAQ hl,aAQ hr];simp only[yAX,yBA];rw[aJa c1,aJa c2];obtain⟨F,hF,hw⟩:=a5F aRp rfl rfl l r c3 c4;refine⟨2,_,_,cF.P4 hw,?_,?_,?_⟩
    .rw[aRn F _ (aHI F),aJa (.inr rfl)];show _=(cN.list 1).aA (aEl l r)
     unfold aEl;rw[hF]
    .rw[aRn F _ (aHI F)];have:=(cN.list 1).eC (F.take (jY F));rw[aJb]at this;exact this
    .have h1:=(cN.list 1).eC l;have h2:=(cN.list 1).eC r;simp only[PD.eV,h1,h2,yCb]
   .cases hg
  .cases hg
 .cases hg
def Bs6:aE:=Bs5.add 188 (entry gLg)
theorem a5G:aF prog Bs6:=aF.pick a5D a0W rfl
def Bs7:aE:=Bs6.add 178 (entry gTm)
theorem a5z:aF prog Bs7:=aF.pick a5E a5G rfl
end Go.Kz
namespace Go.Kz
section
open Go Go.Proofs Go.RowKit
def aI9:List PD->Option PD:=λargs=>match args with
 | [.int .i64 n]=>if -9223372036854775808<=n/\n<=9223372036854775807 then some (.str (Lib.itoa n))else none
 |_=>none
theorem a5y{E:aE}(hE:aF prog E):aF prog (E.add 40 (entry aI9)):=by
 refine hE.J5 ⟨_,func40,rfl⟩ λargs c vs p hg hs hv=>?_
 unfold aI9 at hg;split at hg
 .rename_i n;split at hg
  .rename_i hc;obtain⟨h0,h1⟩:=hc;simp only[yAb]at hg;subst hg;obtain⟨v,rfl,h2⟩:=TY hv;exact bf
  .cases hg
 .cases hg
def nJ:aE:=Bs7.add 40 (entry aI9)
theorem aQ8:aF prog nJ:=a5y a5z
end
end Go.Kz
namespace Go.Kz
open Go Go.Proofs
def dgA:Nat->Nat->List UInt8->Dr
 |0,_,a=>a
 |_+1,0,a=>a
 |k+1,n+1,a=>dgA k ((n+1)/10) (UInt8.ofNat (48+(n+1)%10)::a)
def dg(n:Nat):PD:=.str (dgA 200 n [])
def pwR(a:Nat):Dq×PD:=([dg a,.int .i64 24],.aI [dg (a^24),.int .i64 0])
def muR(a b:Nat):Dq×PD:=([dg a,dg b],dg (a*b))
def fC(d k n:Nat):List (List PD×PD):=(List.range n).map λi=>if k+i=0 then muR (d^24) 2 else muR (d^24*2*4^(k+i-1)) 4
def ftR(a b:Nat):PD:=.agg [.int .i64 a,.int .i64 b]
def six:List (Nat×Nat):=[(8,1),(4,1),(16,1),(2,1),(8,3),(8,5),(4,3),(1,1),(32,1),(16,3),(16,5),(32,3),(8,7),(2,3),(1,2),(64,1)]
def GU(a b:Nat)(l:List Int):List (List PD×PD):=List.zipWith (λo n=>([ftR a b,ftR o.1 o.2],.aI [.int .i64 n,.int .i64 0])) six l
def aQ4:List (List PD×PD):=[2,4,6,8,10,12].map pwR
theorem a5e:(aQ4.all (gV prog nJ 1000 158))=true:=yp
def aQ5:List (List PD×PD):=[14,16,20,24,28,32].map pwR
theorem a5f:(aQ5.all (gV prog nJ 1000 158))=true:=yp
def aQ6:List (List PD×PD):=[40,48,56,64,80,96].map pwR
theorem a5g:(aQ6.all (gV prog nJ 1000 158))=true:=yp
def aQ7:List (List PD×PD):=[112,128,160,192,256,320].map pwR
theorem a5h:(aQ7.all (gV prog nJ 1000 158))=true:=yp
def aQ9:List (List PD×PD):=fC 8 0 1++fC 16 0 1++fC 24 0 6++fC 40 0 4
theorem a5k:(aQ9.all (gV prog nJ 1000 160))=true:=yp
def aRa:List (List PD×PD):=fC 40 4 5++fC 32 0 1++fC 56 0 3++fC 64 0 1++fC 4 0 1++fC 12 0 1
theorem a5l:(aRa.all (gV prog nJ 1000 160))=true:=yp
def aRb:List (List PD×PD):=fC 12 1 5++fC 20 0 7
theorem a5m:(aRb.all (gV prog nJ 1000 160))=true:=yp
end Go.Kz
end
