/- Steps of the proof. -/
import Derived.Test.YteegpeenjdgodaaGreatDoorL6d
set_option linter.all false
set_option maxHeartbeats 40000000
set_option maxRecDepth 100000
open Go.Proofs.Tryz
noncomputable section
namespace Go.Kz
open Go Go.Proofs
section
variable{E:aE}(hU:aJ E)
include hU
theorem aTX(h0:E 16=none)(h1:E 13=some zV)(h2:E 39=some rM)(h3:E 40=some BS)(c:rE)(hc:zJ c)(q:(c.kind=7\/c.kind=9)\/(c.kind=10\/c.kind=12)\/(c.kind=13)):aI prog E 16 [Em.change.aB c] (Em.edit.aB (sM c)):=by
 obtain⟨hci,hcp,hcf,hcx⟩:=hc;have k1:=λfl σ=>J0 hcp hcf fl σ
 have hR:=F6 hcp hcf;unfold sM;have hne:1<=(fU c.dQ).aR.length/\1<=(fU c.dQ).aD.length:=by
  exact gy
 have hsh:∀w∈(fU c.dQ).aP,-127<=w.shift/\w.shift<=127:=λw hw=>(((G3 _).1 hR.1).2.2.2.2.1 w hw).2.2.1
 have hoL:(fU c.dQ).aD.length<=1000000:=(B6 hR).2.1.1;have hoD:∀d∈(fU c.dQ).aD,gT d:=λd hd=>(B6 hR).2.1.2 d hd
 obtain⟨⟨on,rs,dd,cc⟩,hO⟩:∃q,fU c.dQ=q:=⟨_,rfl⟩;rw[hO]at k1 hne hsh hoD hoL ⊢;simp only at hne hsh hoD hoL;obtain⟨kd,dv,ix,⟨pr,pd,pc⟩,ex⟩:=c;simp only at hci hcp hcf hcx
 dsimp only at q
 clear hO hR hcp hcf;obtain⟨r0,HB,rfl⟩:∃r t,rs=r::t:=by
  exact ia
 obtain⟨n,hn⟩:∃n,dd.length=n+1:=⟨dd.length-1,Cj⟩;have hnd:n<dd.length:=Cj;have hL:vJ ⟨on,r0::HB,dd,cc⟩=dd[n]:=by
  exact lu
 have hnl:(dd.length:Int)-1=(n:Int):=Cj;have hnq:(n:Int)<(dd.length:Int):=Cj;have hwn:IntKind.i64.wrap (n:Int)=(n:Int):=Cq;obtain⟨⟨dn,dp,d1,d2,ds⟩,hdl⟩:∃q,dd[n]=q:=⟨_,rfl⟩;have k3:=λfl σ=>QN (hoD _ (yAm hnd)) fl σ
 rw[hdl]at hL k3;obtain⟨ern,ert,era,erb,erf,erw⟩:=r0;have hxe:ex.tmod 8=ex%8:=yBY hcx.1;have nI:IntKind.u8.wrap (ex%8)=ex%8:=Du;simp only[dT,qL,zI,aU,nL]at k1 k3 ⊢;obtain⟨e8,yP⟩:=gn (ex%8);rw[yP]at hxe nI ⊢;have h8:(e8=1/\(0:Int)≠9)\/(e8=2/\(0:Int)≠9)\/(e8=3/\(0:Int)≠9)\/(e8=4/\(0:Int)≠9)\/(e8=5/\(0:Int)≠9)\/(e8≠1/\e8≠2/\e8≠3/\e8≠4/\e8≠5):=Cj;unfold F5;simp only[yP];have k2:=λfl σ=>QO (x:=⟨kd,0,ix,[],dV,cX,eD,eU⟩) (Y:=.agg [.int .i64 kd,.int .i64 0,.int .i64 ix,.str [],.str [],.str [],.int .i64 0,.int .i64 0,.int .i64 0,.slice 0 [] .full,.str [],.bool false,.int .i64 0,.int .i64 0,.slice 0 [] .full,.str [],.int .i64 0,.int .i64 0,.slice 0 [] .full,.str [],.int .i64 0,.int .i64 0,.int .i64 0,.bool false]) hci rfl fl σ
 simp only at k2;obtain⟨A,hA⟩:=gn ((IntKind.i64.wrap (kd-1)).tdiv 3);obtain⟨B,hB⟩:=gn ((IntKind.i64.wrap (kd-1)).tmod 3);rw[hA,hB]at k2;have hAB:1<=kd->A=(kd-1)/3/\B=(kd-1)%3:=λh=>by
  exact ef
 clear hA hB;rcases q with q|q|q
 .have c0:¬kd<1:=by omega
  obtain⟨eA,eB⟩:=hAB Cj;obtain rfl:A=2:=Cj;have b1:¬B=1:=Cj;have g1:7<=kd:=Cj;have g2:kd<=9:=Cj;have wh:gR kd=2:=by unfold gR;rw[yAI c0];rw[yAI Cj];omega
  cases ds with
  |nil=>
   exact ax
  |cons s0 st=>
   obtain⟨sn,sa,sb,sg⟩:=s0;simp only[yAW,pZ,aU]at k3;exact ax
 .have c0:¬kd<1:=by omega
  obtain⟨eA,eB⟩:=hAB Cj;obtain rfl:A=3:=Cj;have b1:¬B=1:=Cj;have g1:7<=kd:=Cj;have g2:¬kd<=9:=Cj;have wh:gR kd=3:=by unfold gR;rw[yAI c0];rw[yAI Cj];omega
  cases cc with
  |nil=>
   exact ax
  |cons s0 st=>
   obtain⟨cn,ca,cb,cs,ct⟩:=s0;have hcs:IntKind.i64.wrap (cs+1)=cs+1:=by have:=hsh _ (yBf ..);simp only at this;rw[yAP];omega
   rcases h8 with⟨rfl,x1⟩ | ⟨rfl,x1⟩ | ⟨rfl,x1⟩ | ⟨rfl,x1⟩ | ⟨rfl,x1⟩ | x1
   all_goals
    have hz:=h0;refine aI.aG 145 h0 func16 (h:=?_);refine aC (A19 h1 k1 h2 k2 h3 k3 hnl hwn hnq hnd hdl hxe nI c0 b1 @g1 @g2 x1 hcs) ?_;simp(disch:=first|omega|(simp;done)|(simp;omega)) [yAu,c0,b1,g1,g2,x1,qA,wh,mX,hL,nV,dV,cX,eD,eU,bZ,sz,hcs]<;>try rfl
 .exact zk
end
end Go.Kz
end
