/- Steps of the proof. -/
import Derived.Test.YteegpeenjdgodaaGreatDoorU8
set_option linter.all false
set_option maxHeartbeats 40000000
set_option maxRecDepth 100000
open Go.Proofs.Tryz
namespace Go.Kz
open Go Go.Proofs
section
variable{E:aE}(hU:aJ E)
include hU
theorem aTe(h0:E 16=none)(h1:E 13=some BZ)(h2:E 39=some qW)(h3:E 40=some BM)(c:tA)(hc:BL c)(q:(c.kind=11)\/(c.kind=1\/c.kind=3)\/(c.kind=4\/c.kind=6)):aI prog E 16 [Em.change.aB c] (Em.edit.aB (uB c)):=by
 obtain⟨hci,hcp,hcf,hcx⟩:=hc;have k1:=λfl σ=>NM hcp hcf fl σ
 have hR:=IE hcp hcf;unfold uB;have hne:1<=(fW c.eK).aQ.length/\1<=(fW c.eK).aD.length:=by
  exact gu
 have hsh:∀w∈(fW c.eK).aL,-127<=w.shift/\w.shift<=127:=λw hw=>(((GS _).1 hR.1).2.2.2.2.1 w hw).2.2.1
 have hoL:(fW c.eK).aD.length<=1000000:=(BS hR).2.1.1;have hoD:∀d∈(fW c.eK).aD,gV d:=λd hd=>(BS hR).2.1.2 d hd
 obtain⟨⟨on,rs,dd,cc⟩,hO⟩:∃q,fW c.eK=q:=⟨_,rfl⟩;rw[hO]at k1 hne hsh hoD hoL ⊢;simp only at hne hsh hoD hoL;obtain⟨kd,dv,ix,⟨pr,pd,pc⟩,ex⟩:=c;simp only at hci hcp hcf hcx
 dsimp only at q
 clear hO hR hcp hcf;obtain⟨r0,G0,rfl⟩:∃r t,rs=r::t:=by
  exact gw
 obtain⟨n,hn⟩:∃n,dd.length=n+1:=⟨dd.length-1,Cd⟩;have hnd:n<dd.length:=Cd;have hL:vJ ⟨on,r0::G0,dd,cc⟩=dd[n]:=by
  exact lf
 have hnl:(dd.length:Int)-1=(n:Int):=Cd;have hnq:(n:Int)<(dd.length:Int):=Cd;have hwn:IntKind.i64.wrap (n:Int)=(n:Int):=Ci;obtain⟨⟨dn,dp,d1,d2,ds⟩,hdl⟩:∃q,dd[n]=q:=⟨_,rfl⟩;have k3:=λfl σ=>PY (hoD _ (yAm hnd)) fl σ
 rw[hdl]at hL k3;obtain⟨ern,ert,era,erb,erf,erw⟩:=r0;have hxe:ex.tmod 8=ex%8:=yBX hcx.1;have nE:IntKind.u8.wrap (ex%8)=ex%8:=Dp;simp only[fE,xK,DI,bC,nJ]at k1 k3 ⊢;obtain⟨e8,yU⟩:=gn (ex%8);rw[yU]at hxe nE ⊢;have h8:(e8=1/\(0:Int)≠9)\/(e8=2/\(0:Int)≠9)\/(e8=3/\(0:Int)≠9)\/(e8=4/\(0:Int)≠9)\/(e8=5/\(0:Int)≠9)\/(e8≠1/\e8≠2/\e8≠3/\e8≠4/\e8≠5):=Cd;unfold FY;simp only[yU];have k2:=λfl σ=>PZ (x:=⟨kd,0,ix,[],bB,aU,bA,bD⟩) (Y:=.agg [.int .i64 kd,.int .i64 0,.int .i64 ix,.str [],.str [],.str [],.int .i64 0,.int .i64 0,.int .i64 0,.slice 0 [] .full,.str [],.bool false,.int .i64 0,.int .i64 0,.slice 0 [] .full,.str [],.int .i64 0,.int .i64 0,.slice 0 [] .full,.str [],.int .i64 0,.int .i64 0,.int .i64 0,.bool false]) hci rfl fl σ
 simp only at k2;obtain⟨A,hA⟩:=gn ((IntKind.i64.wrap (kd-1)).tdiv 3);obtain⟨B,hB⟩:=gn ((IntKind.i64.wrap (kd-1)).tmod 3);rw[hA,hB]at k2;have hAB:1<=kd->A=(kd-1)/3/\B=(kd-1)%3:=λh=>by
  exact ec
 clear hA hB;rcases q with q|q|q
 .have c0:¬kd<1:=by omega
  obtain⟨eA,eB⟩:=hAB Cd;obtain rfl:A=3:=Cd;obtain rfl:B=1:=Cd;have g1:7<=kd:=Cd;have g2:¬kd<=9:=Cd;exact de
 .have c0:¬kd<1:=by omega
  obtain⟨eA,eB⟩:=hAB Cd;obtain rfl:A=0:=Cd;have b1:¬B=1:=Cd;have g1:¬7<=kd:=Cd;have wh:gT kd=0:=by unfold gT;rw[yAI c0];rw[yAI Cd];omega
  exact ey
 .have c0:¬kd<1:=by omega
  obtain⟨eA,eB⟩:=hAB Cd;obtain rfl:A=1:=Cd;have b1:¬B=1:=Cd;have g1:¬7<=kd:=Cd;have wh:gT kd=1:=by unfold gT;rw[yAI c0];rw[yAI Cd];omega
  exact ey
end
end Go.Kz
