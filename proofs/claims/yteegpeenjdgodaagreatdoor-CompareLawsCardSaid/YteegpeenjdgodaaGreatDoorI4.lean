/- Steps of the proof. -/
import Derived.Test.YteegpeenjdgodaaGreatDoorI8
set_option linter.all false
set_option maxHeartbeats 40000000
set_option maxRecDepth 100000
open Go.Proofs.Tryz
namespace Go.Kz
open Go Go.Proofs
section
variable{E:aE}(hU:aH E)
include hU
theorem aTy(h0:E 16=none)(h1:E 13=some AD)(h2:E 39=some wA)(h3:E 40=some zY)(c:rU)(hc:zX c)(q:(c.kind<1)\/(c.kind=2)\/(c.kind=5)\/(c.kind=8)):aJ prog E 16 [Em.change.aA c] (Em.edit.aA (sL c)):=by
 obtain⟨hci,hcp,hcf,hcx⟩:=hc;have k1:=λfl σ=>LZ hcp hcf fl σ
 have hR:=G6 hcp hcf;unfold sL;have hne:1<=(fE c.dV).aM.length/\1<=(fE c.dV).aD.length:=by
  exact ga
 have hsh:∀w∈(fE c.dV).aO,-127<=w.shift/\w.shift<=127:=λw hw=>(((gO _).1 hR.1).2.2.2.2.1 w hw).2.2.1
 have hoL:(fE c.dV).aD.length<=1000000:=(B9 hR).2.1.1;have hoD:∀d∈(fE c.dV).aD,fY d:=λd hd=>(B9 hR).2.1.2 d hd
 obtain⟨⟨on,rs,dd,cc⟩,hO⟩:∃q,fE c.dV=q:=⟨_,rfl⟩;rw[hO]at k1 hne hsh hoD hoL ⊢;simp only at hne hsh hoD hoL;obtain⟨kd,dv,ix,⟨pr,pd,pc⟩,ex⟩:=c;simp only at hci hcp hcf hcx
 dsimp only at q
 clear hO hR hcp hcf;obtain⟨r0,FP,rfl⟩:∃r t,rs=r::t:=by
  exact gi
 obtain⟨n,hn⟩:∃n,dd.length=n+1:=⟨dd.length-1,Ah⟩;have hnd:n<dd.length:=Ah;have hL:tN ⟨on,r0::FP,dd,cc⟩=dd[n]:=by
  exact jn
 have hnl:(dd.length:Int)-1=(n:Int):=Ah;have hnq:(n:Int)<(dd.length:Int):=Ah;have hwn:IntKind.i64.wrap (n:Int)=(n:Int):=Am;obtain⟨⟨dn,dp,d1,d2,ds⟩,hdl⟩:∃q,dd[n]=q:=⟨_,rfl⟩;have k3:=λfl σ=>OF (hoD _ (yAm hnd)) fl σ
 rw[hdl]at hL k3;obtain⟨ern,ert,era,erb,erf,erw⟩:=r0;have hxe:ex.tmod 8=ex%8:=yBY hcx.1;have mH:IntKind.u8.wrap (ex%8)=ex%8:=Bn;simp only[gF,vN,B8,aW,lX]at k1 k3 ⊢;obtain⟨e8,xC⟩:=gn (ex%8);rw[xC]at hxe mH ⊢;have h8:(e8=1/\(0:Int)≠9)\/(e8=2/\(0:Int)≠9)\/(e8=3/\(0:Int)≠9)\/(e8=4/\(0:Int)≠9)\/(e8=5/\(0:Int)≠9)\/(e8≠1/\e8≠2/\e8≠3/\e8≠4/\e8≠5):=Ah;unfold EF;simp only[xC];have k2:=λfl σ=>OH (x:=⟨kd,0,ix,[],dK,bS,dN,eD⟩) (Y:=.agg [.int .i64 kd,.int .i64 0,.int .i64 ix,.str [],.str [],.str [],.int .i64 0,.int .i64 0,.int .i64 0,.slice 0 [] .full,.str [],.bool false,.int .i64 0,.int .i64 0,.slice 0 [] .full,.str [],.int .i64 0,.int .i64 0,.slice 0 [] .full,.str [],.int .i64 0,.int .i64 0,.int .i64 0,.bool false]) hci rfl fl σ
 simp only at k2;obtain⟨A,hA⟩:=gn ((IntKind.i64.wrap (kd-1)).tdiv 3);obtain⟨B,hB⟩:=gn ((IntKind.i64.wrap (kd-1)).tmod 3);rw[hA,hB]at k2;have hAB:1<=kd->A=(kd-1)/3/\B=(kd-1)%3:=λh=>by
  exact dx
 clear hA hB;rcases q with q|q|q|q
 .have c0:=q;have g1:¬7<=kd:=Ah;have wh:fV kd=-1:=by unfold fV;rw[yAJ q]
  exact bu
 .have c0:¬kd<1:=by omega
  obtain⟨eA,eB⟩:=hAB Ah;obtain rfl:A=0:=Ah;exact ye
 .have c0:¬kd<1:=by omega
  obtain⟨eA,eB⟩:=hAB Ah;obtain rfl:A=1:=Ah;exact ye
 .have c0:¬kd<1:=by omega
  obtain⟨eA,eB⟩:=hAB Ah;obtain rfl:A=2:=Ah;obtain rfl:B=1:=Ah;have g1:7<=kd:=Ah;have g2:kd<=9:=Ah;exact de
end
section
variable{E:aE}(hU:aH E)
include hU
theorem aTz(h0:E 16=none)(h1:E 13=some AD)(h2:E 39=some wA)(h3:E 40=some zY)(c:rU)(hc:zX c)(q:(c.kind=11)\/(c.kind=1\/c.kind=3)\/(c.kind=4\/c.kind=6)):aJ prog E 16 [Em.change.aA c] (Em.edit.aA (sL c)):=by
 obtain⟨hci,hcp,hcf,hcx⟩:=hc;have k1:=λfl σ=>LZ hcp hcf fl σ
 have hR:=G6 hcp hcf;unfold sL;have hne:1<=(fE c.dV).aM.length/\1<=(fE c.dV).aD.length:=by
  exact ga
 have hsh:∀w∈(fE c.dV).aO,-127<=w.shift/\w.shift<=127:=λw hw=>(((gO _).1 hR.1).2.2.2.2.1 w hw).2.2.1
 have hoL:(fE c.dV).aD.length<=1000000:=(B9 hR).2.1.1;have hoD:∀d∈(fE c.dV).aD,fY d:=λd hd=>(B9 hR).2.1.2 d hd
 obtain⟨⟨on,rs,dd,cc⟩,hO⟩:∃q,fE c.dV=q:=⟨_,rfl⟩;rw[hO]at k1 hne hsh hoD hoL ⊢;simp only at hne hsh hoD hoL;obtain⟨kd,dv,ix,⟨pr,pd,pc⟩,ex⟩:=c;simp only at hci hcp hcf hcx
 dsimp only at q
 clear hO hR hcp hcf;obtain⟨r0,FP,rfl⟩:∃r t,rs=r::t:=by
  exact gi
 obtain⟨n,hn⟩:∃n,dd.length=n+1:=⟨dd.length-1,Ah⟩;have hnd:n<dd.length:=Ah;have hL:tN ⟨on,r0::FP,dd,cc⟩=dd[n]:=by
  exact jn
 have hnl:(dd.length:Int)-1=(n:Int):=Ah;have hnq:(n:Int)<(dd.length:Int):=Ah;have hwn:IntKind.i64.wrap (n:Int)=(n:Int):=Am;obtain⟨⟨dn,dp,d1,d2,ds⟩,hdl⟩:∃q,dd[n]=q:=⟨_,rfl⟩;have k3:=λfl σ=>OF (hoD _ (yAm hnd)) fl σ
 rw[hdl]at hL k3;obtain⟨ern,ert,era,erb,erf,erw⟩:=r0;have hxe:ex.tmod 8=ex%8:=yBY hcx.1;have mH:IntKind.u8.wrap (ex%8)=ex%8:=Bn;simp only[gF,vN,B8,aW,lX]at k1 k3 ⊢;obtain⟨e8,xC⟩:=gn (ex%8);rw[xC]at hxe mH ⊢;have h8:(e8=1/\(0:Int)≠9)\/(e8=2/\(0:Int)≠9)\/(e8=3/\(0:Int)≠9)\/(e8=4/\(0:Int)≠9)\/(e8=5/\(0:Int)≠9)\/(e8≠1/\e8≠2/\e8≠3/\e8≠4/\e8≠5):=Ah;unfold EF;simp only[xC];have k2:=λfl σ=>OH (x:=⟨kd,0,ix,[],dK,bS,dN,eD⟩) (Y:=.agg [.int .i64 kd,.int .i64 0,.int .i64 ix,.str [],.str [],.str [],.int .i64 0,.int .i64 0,.int .i64 0,.slice 0 [] .full,.str [],.bool false,.int .i64 0,.int .i64 0,.slice 0 [] .full,.str [],.int .i64 0,.int .i64 0,.slice 0 [] .full,.str [],.int .i64 0,.int .i64 0,.int .i64 0,.bool false]) hci rfl fl σ
 simp only at k2;obtain⟨A,hA⟩:=gn ((IntKind.i64.wrap (kd-1)).tdiv 3);obtain⟨B,hB⟩:=gn ((IntKind.i64.wrap (kd-1)).tmod 3);rw[hA,hB]at k2;have hAB:1<=kd->A=(kd-1)/3/\B=(kd-1)%3:=λh=>by
  exact dx
 clear hA hB;rcases q with q|q|q
 .have c0:¬kd<1:=by omega
  obtain⟨eA,eB⟩:=hAB Ah;obtain rfl:A=3:=Ah;obtain rfl:B=1:=Ah;have g1:7<=kd:=Ah;have g2:¬kd<=9:=Ah;exact de
 .have c0:¬kd<1:=by omega
  obtain⟨eA,eB⟩:=hAB Ah;obtain rfl:A=0:=Ah;have b1:¬B=1:=Ah;have g1:¬7<=kd:=Ah;have wh:fV kd=0:=by unfold fV;rw[yAI c0];rw[yAI Ah];omega
  exact ef
 .have c0:¬kd<1:=by omega
  obtain⟨eA,eB⟩:=hAB Ah;obtain rfl:A=1:=Ah;have b1:¬B=1:=Ah;have g1:¬7<=kd:=Ah;have wh:fV kd=1:=by unfold fV;rw[yAI c0];rw[yAI Ah];omega
  exact ef
end
end Go.Kz
