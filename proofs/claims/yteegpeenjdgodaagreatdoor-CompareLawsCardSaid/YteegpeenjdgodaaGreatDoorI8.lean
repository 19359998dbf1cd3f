/- Steps of the proof. -/
import Derived.Test.YteegpeenjdgodaaGreatDoorI2
import Derived.Test.YteegpeenjdgodaaGreatDoorH3
import Derived.Test.YteegpeenjdgodaaGreatDoorH5b
import Derived.Test.YteegpeenjdgodaaGreatDoorG9
import Derived.Test.YteegpeenjdgodaaGreatDoorG5c
import Derived.Test.YteegpeenjdgodaaGreatDoorG0
import Derived.Test.YteegpeenjdgodaaGreatDoorI3
import Derived.Test.YteegpeenjdgodaaGreatDoorG7
set_option linter.all false
set_option maxHeartbeats 40000000
set_option maxRecDepth 100000
open Go.Proofs.Tryz
noncomputable section
namespace Go.Kz
open Go Go.Proofs
section
variable{E E1 E3 E5 Eo:aE}
end
section
def iT(th hw:Int)(x:bC):bC:=⟨x.kind,if th=2 then x.div else 0,if th<4 then x.idx else 0,if th<4 then []else x.name,if th=0/\hw≠1 then x.aG else dK,if th=1/\hw≠1 then x.frame else bS,if th=2/\hw≠1 then x.stop else dN,if th=3/\hw≠1 then x.aK else eD⟩
theorem uF{th hw:Int}{x:bC}(h:fW x):fW (iT th hw x):=by
 have n1:fX dK:=yAF _;have n2:fY bS:=⟨yAF _,λ_ h=>Ap⟩;have n3:iV dN:=⟨yAF _,λ_ h=>Ap⟩;obtain⟨h1,h2,h3⟩:=h;refine⟨?_,?_,?_⟩
 .unfold iT;simp only;split
  .exact h1
  .exact n1
 .unfold iT;simp only;split
  .exact h2
  .exact n2
 .unfold iT;simp only;split
  .exact h3
  .exact n3
theorem aSm{x:bC}(h:1<=x.kind/\x.kind<=13):decide (x=iT ((x.kind-1)/3) ((x.kind-1)%3) x)=decide (iA x=0):=by
 have hk:¬(x.kind<1\/13<x.kind):=Ah;unfold iA;rw[yAI hk];obtain⟨kd,dv,ix,nm,R,F,S,C⟩:=x;simp only at h;obtain⟨n,rfl⟩:∃n:Nat,kd=n+1:=⟨(kd-1).toNat,Ah⟩;have hn:n<13:=Ah;rw[yAu];have e:∀b:Bool,((if b=true then(0:Int)else 7)=0)↔b=true:=λb=>by cases b<;>decide
 rw[e];unfold lP;rw[yCk]
 match n,hn with
 |0,_=>simp[iT,n5,lP];try(constructor<;>(intro h;simp_all))
 |1,_=>simp[iT,n5,lP];try(constructor<;>(intro h;simp_all))
 |2,_=>simp[iT,n5,lP];try(constructor<;>(intro h;simp_all))
 |3,_=>simp[iT,n5,lP];try(constructor<;>(intro h;simp_all))
 |4,_=>simp[iT,n5,lP];try(constructor<;>(intro h;simp_all))
 |5,_=>simp[iT,n5,lP];try(constructor<;>(intro h;simp_all))
 |6,_=>simp[iT,n5,lP];try(constructor<;>(intro h;simp_all))
 |7,_=>simp[iT,n5,lP];try(constructor<;>(intro h;simp_all))
 |8,_=>simp[iT,n5,lP];try(constructor<;>(intro h;simp_all))
 |9,_=>simp[iT,n5,lP];try(constructor<;>(intro h;simp_all))
 |10,_=>simp[iT,n5,lP];try(constructor<;>(intro h;simp_all))
 |11,_=>simp[iT,n5,lP];try(constructor<;>(intro h;simp_all))
 |12,_=>simp[iT,n5,lP];try(constructor<;>(intro h;simp_all))
variable{E:aE}(hU:aH E)
include hU
theorem aJ3(h0:E 39=none)(x:bC)(h:DB x.kind):aJ prog E 39 [Em.edit.aA x] ((i64.sA i64).aA ((IntKind.i64.wrap (x.kind-1)).tdiv 3,(IntKind.i64.wrap (x.kind-1)).tmod 3)):=by
 obtain⟨kd,dv,ix,nm,⟨rn,rt,ra,rb,rf,wd⟩,⟨fn,fp,flo,fhi,fs⟩,⟨sn,sa,sb,sg⟩,⟨cn,ca,cb,cs,ct⟩⟩:=x;obtain⟨w,hw⟩:=gn (IntKind.i64.wrap (kd-1));have hr:-9223372036854775808<=w/\w<=9223372036854775807:=by rw[<-hw,yAP];omega
 have h1:IntKind.i64.wrap (w.tdiv 3)=w.tdiv 3:=by
  have h2:-9223372036854775808<=w.tdiv 3/\w.tdiv 3<=9223372036854775807:=by
   rcases Int.le_total 0 w with h|h
   .rw[yCS h];omega
   .have:=Int.neg_tdiv (-w) 3;rw[Int.neg_neg]at this;rw[this,yCS Ah];omega
  rw[yAP];omega
 have h3:IntKind.i64.wrap (w.tmod 3)=w.tmod 3:=by
  have h2:-3<w.tmod 3/\w.tmod 3<3:=by
   rcases Int.le_total 0 w with h|h
   .rw[yBY h];omega
   .have:=Int.neg_tmod (-w) 3;rw[Int.neg_neg]at this;rw[this,yBY Ah];omega
  rw[yAP];omega
 simp only[cU,aW];rw[hw];refine aJ.aN 12 h0 func39 (h:=?_);refine aC (A3 @hw h1 h3) ?_;exact ag
theorem aJ5(h0:E 45=none)(w i n:Int):aJ prog E 45 [i64.aA w,i64.aA i,i64.aA n] (Em.bool.aA (QY w i n)):=by
 show aJ _ _ _ [.int .i64 w,.int .i64 i,.int .i64 n] (.bool (QY w i n))
 unfold QY
 by_cases c1:i<0
 .rw[yAY (.inl c1)];refine aJ.aN 23 h0 func45 (h:=?_);refine aC c1 ?_;exact ag
 by_cases c2:n<i
 .rw[yAY (.inr (.inl c2))];refine aJ.aN 23 h0 func45 (h:=?_);refine aC (A2 c1 c2) ?_;exact ag
 by_cases c3:w=0
 .rw[yBd (by simp[c1,c2,c3])];exact ze
 by_cases c4:i=n
 .rw[yAY (.inr (.inr ⟨c3,c4⟩))];subst c4;have hz:=h0;exact ze
 .rw[yBd (by simp[c1,c2,c4])];have hz:=h0;refine aJ.aN 23 h0 func45 (h:=?_);refine aC (A4 c1 c2 c3 c4) ?_;exact ag
theorem aJ7(h0:E 22=none)(h1:E 37=some (eU Em.aG fX))(h2:E 38=some (eU Em.div fY))(h3:E 57=some (eU Em.stop iV))(x y:bC)(hx:fW x)(hy:fW y) :
  aJ prog E 22 [Em.edit.aA x,Em.edit.aA y] (Em.bool.aA (decide (x=y))):=by
 have k1:=λfl σ=>mM (a:=Em.aG) hx.1 hy.1 fl σ
 have k2:=λfl σ=>mM (a:=Em.div) hx.2.1 hy.2.1 fl σ
 have k3:=λfl σ=>mM (a:=Em.stop) hx.2.2 hy.2.2 fl σ
 obtain⟨kd,dv,ix,nm,R,F,S,C⟩:=x;obtain⟨ZX,ZY,ZZ,Q0,R',F',S',C'⟩:=y;simp only at k1 k2 k3;obtain⟨b1,hb1⟩:∃b,decide (R=R')=b:=⟨_,rfl⟩;obtain⟨b2,hb2⟩:∃b,decide (F=F')=b:=⟨_,rfl⟩;obtain⟨b3,hb3⟩:∃b,decide (S=S')=b:=⟨_,rfl⟩;rw[hb1]at k1;rw[hb2]at k2;rw[hb3]at k3;have hD:decide ((⟨kd,dv,ix,nm,R,F,S,C⟩:bC)=⟨ZX,ZY,ZZ,Q0,R',F',S',C'⟩)=(decide (kd=ZX)&&decide (dv=ZY)&&decide (ix=ZZ)&&decide (nm=Q0)&&b1&&b2&&b3&&decide (C=C')):=by
  rw[<-hb1,<-hb2,<-hb3];simp only[bC.mk.injEq,Bool.decide_and,Bool.and_assoc]
 rw[hD];clear hb1 hb2 hb3 hD hx hy;obtain⟨rn,rt,ra,rb,rf,wd⟩:=R;obtain⟨fn,fp,flo,fhi,fs⟩:=F;obtain⟨sn,sa,sb,sg⟩:=S;obtain⟨cn,ca,cb,cs,ct⟩:=C;obtain⟨rn',rt',ra',rb',rf',wd'⟩:=R';obtain⟨fn',fp',aWr,aWs,fs'⟩:=F';obtain⟨sn',sa',sb',sg'⟩:=S';obtain⟨cn',ca',cb',cs',ct'⟩:=C';simp only[cU,nN,lX,pV,aW]at k1 k2 k3 ⊢
 by_cases e1:kd=ZX
 rotate_left
 .have hz:=h0;refine aJ.aN 59 h0 func22 (h:=?_);refine aC e1 ?_;simp(disch:=first|omega|(simp;done)|(simp;omega)) [yAu,e1]<;>try rfl
 by_cases e2:dv=ZY
 rotate_left
 .have hz:=h0;refine aJ.aN 59 h0 func22 (h:=?_);refine aC (A2 e1 e2) ?_;simp(disch:=first|omega|(simp;done)|(simp;omega)) [yAu,e2]<;>try rfl
 by_cases e3:ix=ZZ
 rotate_left
 .have hz:=h0;refine aJ.aN 59 h0 func22 (h:=?_);refine aC (A3 e1 e2 e3) ?_;simp(disch:=first|omega|(simp;done)|(simp;omega)) [yAu,e3]<;>try rfl
 by_cases e4:nm=Q0
 rotate_left
 .have f4:(nm==Q0)=false:=by simpa using e4
  refine aJ.aN 59 h0 func22 (h:=?_);refine aC (A5 e1 e2 e3 e4 @f4) ?_;simp(disch:=first|omega|(simp;done)|(simp;omega)) [yAu,e4]<;>try rfl
 cases b1 with
 |false=>
  have hz:=h0;refine aJ.aN 59 h0 func22 (h:=?_);refine aC (A6 e1 e2 e3 e4 h1 k1) ?_;exact ag
 |true=>
 cases b2 with
 |false=>
  have hz:=h0;refine aJ.aN 59 h0 func22 (h:=?_);refine aC (A8 e1 e2 e3 e4 h1 k1 h2 k2) ?_;exact ag
 |true=>
 cases b3 with
 |false=>
  have hz:=h0;refine aJ.aN 59 h0 func22 (h:=?_);refine aC (A10 e1 e2 e3 e4 h1 k1 h2 k2 h3 k3) ?_;exact ag
 |true=>
 by_cases e5:cn=cn'
 rotate_left
 .have f5:(cn==cn')=false:=by simpa using e5
  refine aJ.aN 59 h0 func22 (h:=?_);refine aC (A12 e1 e2 e3 e4 h1 k1 h2 k2 h3 k3 e5 @f5) ?_;simp(disch:=first|omega|(simp;done)|(simp;omega)) [yAu,e5]<;>try rfl
 subst e1 e2 e3 e4 e5;have hz:=h0;refine aJ.aN 59 h0 func22 (h:=?_);refine aC (A6 h1 k1 h2 k2 h3 k3) ?_;simp(disch:=first|omega|(simp;done)|(simp;omega)) [yAu,bP.mk.injEq]<;>try rfl
theorem aJ9(h0:E 43=none)(h1:E 39=some wA)(h2:E 22=some (eU Em.edit fW))(x:bC)(hk:1<=x.kind/\x.kind<=13)(hx:fW x):aJ prog E 43 [Em.edit.aA x] (Em.bool.aA (decide (iA x=0))):=by
 rw[<-aSm hk];have k1:=λfl σ=>aSf (x:=x) hk fl σ
 obtain⟨th,hth⟩:=gn ((x.kind-1)/3);obtain⟨wy,hwy⟩:=gn ((x.kind-1)%3);rw[hth,hwy]at k1 ⊢;have hs:(th=4/\wy=0)\/((th=0\/th=1\/th=2\/th=3)/\(wy=0\/wy=1\/wy=2)):=Ah;obtain⟨kd,dv,ix,nm,⟨rn,rt,ra,rb,rf,wd⟩,⟨fn,fp,flo,fhi,fs⟩,⟨sn,sa,sb,sg⟩,⟨cn,ca,cb,cs,ct⟩⟩:=x;clear hth hwy hk;rcases hs with⟨rfl,rfl⟩ | ⟨rfl|rfl|rfl|rfl,rfl|rfl|rfl⟩
 .have hK:=uF (th:=4) (hw:=0) hx;have k2:=λfl σ=>pA (a:=Em.edit) (R:=fW) (p:=Em.edit.aA _) (q:=.agg [.int .i64 kd,.int .i64 0,.int .i64 0,.str nm,.str [],.str [],.int .i64 0,.int .i64 0,.int .i64 0,.slice 0 [] .full,.str [],.bool false,.int .i64 0,.int .i64 0,.slice 0 [] .full,.str [],.int .i64 0,.int .i64 0,.slice 0 [] .full,.str [],.int .i64 0,.int .i64 0,.int .i64 0,.bool false]) hx hK (Em.edit.str _) (rfl) fl σ
  obtain⟨B,hB⟩:∃b,decide ((⟨kd,dv,ix,nm,⟨rn,rt,ra,rb,rf,wd⟩,⟨fn,fp,flo,fhi,fs⟩,⟨sn,sa,sb,sg⟩,⟨cn,ca,cb,cs,ct⟩⟩:bC)=iT 4 0 ⟨kd,dv,ix,nm,⟨rn,rt,ra,rb,rf,wd⟩,⟨fn,fp,flo,fhi,fs⟩,⟨sn,sa,sb,sg⟩,⟨cn,ca,cb,cs,ct⟩⟩)=b:=⟨_,rfl⟩;exact vz
 .have hK:=uF (th:=0) (hw:=0) hx;have k2:=λfl σ=>pA (a:=Em.edit) (R:=fW) (p:=Em.edit.aA _) (q:=.agg [.int .i64 kd,.int .i64 0,.int .i64 ix,.str [],.str rn,.str rt,.int .i64 ra,.int .i64 rb,.int .i64 rf,.slice (sz 1 wd) (wd.map i64.aA) .any,.str [],.bool false,.int .i64 0,.int .i64 0,.slice 0 [] .full,.str [],.int .i64 0,.int .i64 0,.slice 0 [] .full,.str [],.int .i64 0,.int .i64 0,.int .i64 0,.bool false]) hx hK (Em.edit.str _) Dk fl σ
  obtain⟨B,hB⟩:∃b,decide ((⟨kd,dv,ix,nm,⟨rn,rt,ra,rb,rf,wd⟩,⟨fn,fp,flo,fhi,fs⟩,⟨sn,sa,sb,sg⟩,⟨cn,ca,cb,cs,ct⟩⟩:bC)=iT 0 0 ⟨kd,dv,ix,nm,⟨rn,rt,ra,rb,rf,wd⟩,⟨fn,fp,flo,fhi,fs⟩,⟨sn,sa,sb,sg⟩,⟨cn,ca,cb,cs,ct⟩⟩)=b:=⟨_,rfl⟩;exact vz
 .have hK:=uF (th:=0) (hw:=1) hx;have k2:=λfl σ=>pA (a:=Em.edit) (R:=fW) (p:=Em.edit.aA _) (q:=.agg [.int .i64 kd,.int .i64 0,.int .i64 ix,.str [],.str [],.str [],.int .i64 0,.int .i64 0,.int .i64 0,.slice 0 [] .full,.str [],.bool false,.int .i64 0,.int .i64 0,.slice 0 [] .full,.str [],.int .i64 0,.int .i64 0,.slice 0 [] .full,.str [],.int .i64 0,.int .i64 0,.int .i64 0,.bool false]) hx hK (Em.edit.str _) (rfl) fl σ
  obtain⟨B,hB⟩:∃b,decide ((⟨kd,dv,ix,nm,⟨rn,rt,ra,rb,rf,wd⟩,⟨fn,fp,flo,fhi,fs⟩,⟨sn,sa,sb,sg⟩,⟨cn,ca,cb,cs,ct⟩⟩:bC)=iT 0 1 ⟨kd,dv,ix,nm,⟨rn,rt,ra,rb,rf,wd⟩,⟨fn,fp,flo,fhi,fs⟩,⟨sn,sa,sb,sg⟩,⟨cn,ca,cb,cs,ct⟩⟩)=b:=⟨_,rfl⟩;exact vz
 .have hK:=uF (th:=0) (hw:=2) hx;have k2:=λfl σ=>pA (a:=Em.edit) (R:=fW) (p:=Em.edit.aA _) (q:=.agg [.int .i64 kd,.int .i64 0,.int .i64 ix,.str [],.str rn,.str rt,.int .i64 ra,.int .i64 rb,.int .i64 rf,.slice (sz 1 wd) (wd.map i64.aA) .any,.str [],.bool false,.int .i64 0,.int .i64 0,.slice 0 [] .full,.str [],.int .i64 0,.int .i64 0,.slice 0 [] .full,.str [],.int .i64 0,.int .i64 0,.int .i64 0,.bool false]) hx hK (Em.edit.str _) Dk fl σ
  obtain⟨B,hB⟩:∃b,decide ((⟨kd,dv,ix,nm,⟨rn,rt,ra,rb,rf,wd⟩,⟨fn,fp,flo,fhi,fs⟩,⟨sn,sa,sb,sg⟩,⟨cn,ca,cb,cs,ct⟩⟩:bC)=iT 0 2 ⟨kd,dv,ix,nm,⟨rn,rt,ra,rb,rf,wd⟩,⟨fn,fp,flo,fhi,fs⟩,⟨sn,sa,sb,sg⟩,⟨cn,ca,cb,cs,ct⟩⟩)=b:=⟨_,rfl⟩;exact vz
 .have hK:=uF (th:=1) (hw:=0) hx;have k2:=λfl σ=>pA (a:=Em.edit) (R:=fW) (p:=Em.edit.aA _) (q:=.agg [.int .i64 kd,.int .i64 0,.int .i64 ix,.str [],.str [],.str [],.int .i64 0,.int .i64 0,.int .i64 0,.slice 0 [] .full,.str fn,.bool fp,.int .i64 flo,.int .i64 fhi,.slice (sz 4 fs) (fs.map Em.stop.aA) .any,.str [],.int .i64 0,.int .i64 0,.slice 0 [] .full,.str [],.int .i64 0,.int .i64 0,.int .i64 0,.bool false]) hx hK (Em.edit.str _) Dd fl σ
  obtain⟨B,hB⟩:∃b,decide ((⟨kd,dv,ix,nm,⟨rn,rt,ra,rb,rf,wd⟩,⟨fn,fp,flo,fhi,fs⟩,⟨sn,sa,sb,sg⟩,⟨cn,ca,cb,cs,ct⟩⟩:bC)=iT 1 0 ⟨kd,dv,ix,nm,⟨rn,rt,ra,rb,rf,wd⟩,⟨fn,fp,flo,fhi,fs⟩,⟨sn,sa,sb,sg⟩,⟨cn,ca,cb,cs,ct⟩⟩)=b:=⟨_,rfl⟩;exact vz
 .have hK:=uF (th:=1) (hw:=1) hx;have k2:=λfl σ=>pA (a:=Em.edit) (R:=fW) (p:=Em.edit.aA _) (q:=.agg [.int .i64 kd,.int .i64 0,.int .i64 ix,.str [],.str [],.str [],.int .i64 0,.int .i64 0,.int .i64 0,.slice 0 [] .full,.str [],.bool false,.int .i64 0,.int .i64 0,.slice 0 [] .full,.str [],.int .i64 0,.int .i64 0,.slice 0 [] .full,.str [],.int .i64 0,.int .i64 0,.int .i64 0,.bool false]) hx hK (Em.edit.str _) (rfl) fl σ
  obtain⟨B,hB⟩:∃b,decide ((⟨kd,dv,ix,nm,⟨rn,rt,ra,rb,rf,wd⟩,⟨fn,fp,flo,fhi,fs⟩,⟨sn,sa,sb,sg⟩,⟨cn,ca,cb,cs,ct⟩⟩:bC)=iT 1 1 ⟨kd,dv,ix,nm,⟨rn,rt,ra,rb,rf,wd⟩,⟨fn,fp,flo,fhi,fs⟩,⟨sn,sa,sb,sg⟩,⟨cn,ca,cb,cs,ct⟩⟩)=b:=⟨_,rfl⟩;exact vz
 .have hK:=uF (th:=1) (hw:=2) hx;have k2:=λfl σ=>pA (a:=Em.edit) (R:=fW) (p:=Em.edit.aA _) (q:=.agg [.int .i64 kd,.int .i64 0,.int .i64 ix,.str [],.str [],.str [],.int .i64 0,.int .i64 0,.int .i64 0,.slice 0 [] .full,.str fn,.bool fp,.int .i64 flo,.int .i64 fhi,.slice (sz 4 fs) (fs.map Em.stop.aA) .any,.str [],.int .i64 0,.int .i64 0,.slice 0 [] .full,.str [],.int .i64 0,.int .i64 0,.int .i64 0,.bool false]) hx hK (Em.edit.str _) Dd fl σ
  obtain⟨B,hB⟩:∃b,decide ((⟨kd,dv,ix,nm,⟨rn,rt,ra,rb,rf,wd⟩,⟨fn,fp,flo,fhi,fs⟩,⟨sn,sa,sb,sg⟩,⟨cn,ca,cb,cs,ct⟩⟩:bC)=iT 1 2 ⟨kd,dv,ix,nm,⟨rn,rt,ra,rb,rf,wd⟩,⟨fn,fp,flo,fhi,fs⟩,⟨sn,sa,sb,sg⟩,⟨cn,ca,cb,cs,ct⟩⟩)=b:=⟨_,rfl⟩;exact vz
 .have hK:=uF (th:=2) (hw:=0) hx;have k2:=λfl σ=>pA (a:=Em.edit) (R:=fW) (p:=Em.edit.aA _) (q:=.agg [.int .i64 kd,.int .i64 dv,.int .i64 ix,.str [],.str [],.str [],.int .i64 0,.int .i64 0,.int .i64 0,.slice 0 [] .full,.str [],.bool false,.int .i64 0,.int .i64 0,.slice 0 [] .full,.str sn,.int .i64 sa,.int .i64 sb,.slice (sz 3 sg) (sg.map Em.eZ.aA) .any,.str [],.int .i64 0,.int .i64 0,.int .i64 0,.bool false]) hx hK (Em.edit.str _) Di fl σ
  obtain⟨B,hB⟩:∃b,decide ((⟨kd,dv,ix,nm,⟨rn,rt,ra,rb,rf,wd⟩,⟨fn,fp,flo,fhi,fs⟩,⟨sn,sa,sb,sg⟩,⟨cn,ca,cb,cs,ct⟩⟩:bC)=iT 2 0 ⟨kd,dv,ix,nm,⟨rn,rt,ra,rb,rf,wd⟩,⟨fn,fp,flo,fhi,fs⟩,⟨sn,sa,sb,sg⟩,⟨cn,ca,cb,cs,ct⟩⟩)=b:=⟨_,rfl⟩;exact vz
 .have hK:=uF (th:=2) (hw:=1) hx;have k2:=λfl σ=>pA (a:=Em.edit) (R:=fW) (p:=Em.edit.aA _) (q:=.agg [.int .i64 kd,.int .i64 dv,.int .i64 ix,.str [],.str [],.str [],.int .i64 0,.int .i64 0,.int .i64 0,.slice 0 [] .full,.str [],.bool false,.int .i64 0,.int .i64 0,.slice 0 [] .full,.str [],.int .i64 0,.int .i64 0,.slice 0 [] .full,.str [],.int .i64 0,.int .i64 0,.int .i64 0,.bool false]) hx hK (Em.edit.str _) (rfl) fl σ
  obtain⟨B,hB⟩:∃b,decide ((⟨kd,dv,ix,nm,⟨rn,rt,ra,rb,rf,wd⟩,⟨fn,fp,flo,fhi,fs⟩,⟨sn,sa,sb,sg⟩,⟨cn,ca,cb,cs,ct⟩⟩:bC)=iT 2 1 ⟨kd,dv,ix,nm,⟨rn,rt,ra,rb,rf,wd⟩,⟨fn,fp,flo,fhi,fs⟩,⟨sn,sa,sb,sg⟩,⟨cn,ca,cb,cs,ct⟩⟩)=b:=⟨_,rfl⟩;exact vz
 .have hK:=uF (th:=2) (hw:=2) hx;have k2:=λfl σ=>pA (a:=Em.edit) (R:=fW) (p:=Em.edit.aA _) (q:=.agg [.int .i64 kd,.int .i64 dv,.int .i64 ix,.str [],.str [],.str [],.int .i64 0,.int .i64 0,.int .i64 0,.slice 0 [] .full,.str [],.bool false,.int .i64 0,.int .i64 0,.slice 0 [] .full,.str sn,.int .i64 sa,.int .i64 sb,.slice (sz 3 sg) (sg.map Em.eZ.aA) .any,.str [],.int .i64 0,.int .i64 0,.int .i64 0,.bool false]) hx hK (Em.edit.str _) Di fl σ
  obtain⟨B,hB⟩:∃b,decide ((⟨kd,dv,ix,nm,⟨rn,rt,ra,rb,rf,wd⟩,⟨fn,fp,flo,fhi,fs⟩,⟨sn,sa,sb,sg⟩,⟨cn,ca,cb,cs,ct⟩⟩:bC)=iT 2 2 ⟨kd,dv,ix,nm,⟨rn,rt,ra,rb,rf,wd⟩,⟨fn,fp,flo,fhi,fs⟩,⟨sn,sa,sb,sg⟩,⟨cn,ca,cb,cs,ct⟩⟩)=b:=⟨_,rfl⟩;exact vz
 .have hK:=uF (th:=3) (hw:=0) hx;have k2:=λfl σ=>pA (a:=Em.edit) (R:=fW) (p:=Em.edit.aA _) (q:=.agg [.int .i64 kd,.int .i64 0,.int .i64 ix,.str [],.str [],.str [],.int .i64 0,.int .i64 0,.int .i64 0,.slice 0 [] .full,.str [],.bool false,.int .i64 0,.int .i64 0,.slice 0 [] .full,.str [],.int .i64 0,.int .i64 0,.slice 0 [] .full,.str cn,.int .i64 ca,.int .i64 cb,.int .i64 cs,.bool ct]) hx hK (Em.edit.str _) (rfl) fl σ
  obtain⟨B,hB⟩:∃b,decide ((⟨kd,dv,ix,nm,⟨rn,rt,ra,rb,rf,wd⟩,⟨fn,fp,flo,fhi,fs⟩,⟨sn,sa,sb,sg⟩,⟨cn,ca,cb,cs,ct⟩⟩:bC)=iT 3 0 ⟨kd,dv,ix,nm,⟨rn,rt,ra,rb,rf,wd⟩,⟨fn,fp,flo,fhi,fs⟩,⟨sn,sa,sb,sg⟩,⟨cn,ca,cb,cs,ct⟩⟩)=b:=⟨_,rfl⟩;exact vz
 .have hK:=uF (th:=3) (hw:=1) hx;have k2:=λfl σ=>pA (a:=Em.edit) (R:=fW) (p:=Em.edit.aA _) (q:=.agg [.int .i64 kd,.int .i64 0,.int .i64 ix,.str [],.str [],.str [],.int .i64 0,.int .i64 0,.int .i64 0,.slice 0 [] .full,.str [],.bool false,.int .i64 0,.int .i64 0,.slice 0 [] .full,.str [],.int .i64 0,.int .i64 0,.slice 0 [] .full,.str [],.int .i64 0,.int .i64 0,.int .i64 0,.bool false]) hx hK (Em.edit.str _) (rfl) fl σ
  obtain⟨B,hB⟩:∃b,decide ((⟨kd,dv,ix,nm,⟨rn,rt,ra,rb,rf,wd⟩,⟨fn,fp,flo,fhi,fs⟩,⟨sn,sa,sb,sg⟩,⟨cn,ca,cb,cs,ct⟩⟩:bC)=iT 3 1 ⟨kd,dv,ix,nm,⟨rn,rt,ra,rb,rf,wd⟩,⟨fn,fp,flo,fhi,fs⟩,⟨sn,sa,sb,sg⟩,⟨cn,ca,cb,cs,ct⟩⟩)=b:=⟨_,rfl⟩;exact vz
 .have hK:=uF (th:=3) (hw:=2) hx;have k2:=λfl σ=>pA (a:=Em.edit) (R:=fW) (p:=Em.edit.aA _) (q:=.agg [.int .i64 kd,.int .i64 0,.int .i64 ix,.str [],.str [],.str [],.int .i64 0,.int .i64 0,.int .i64 0,.slice 0 [] .full,.str [],.bool false,.int .i64 0,.int .i64 0,.slice 0 [] .full,.str [],.int .i64 0,.int .i64 0,.slice 0 [] .full,.str cn,.int .i64 ca,.int .i64 cb,.int .i64 cs,.bool ct]) hx hK (Em.edit.str _) (rfl) fl σ
  obtain⟨B,hB⟩:∃b,decide ((⟨kd,dv,ix,nm,⟨rn,rt,ra,rb,rf,wd⟩,⟨fn,fp,flo,fhi,fs⟩,⟨sn,sa,sb,sg⟩,⟨cn,ca,cb,cs,ct⟩⟩:bC)=iT 3 2 ⟨kd,dv,ix,nm,⟨rn,rt,ra,rb,rf,wd⟩,⟨fn,fp,flo,fhi,fs⟩,⟨sn,sa,sb,sg⟩,⟨cn,ca,cb,cs,ct⟩⟩)=b:=⟨_,rfl⟩;exact vz
end
def OJ:Nat->List PD->List aB->Option (PD×List aB):=entry (bZ Em.aG Em.aG λr=>dP (fX r) (some r))
theorem aKc{E:aE}(hE:aF prog E)(h0:E 76=none:=by rfl):aF prog (E.add 76 OJ):=
 aF.pick (f:=76) (aF.lZ (E:=E.add 109 (sM prog 46 1)) (f:=76) (a:=Em.aG) (r:=Em.aG) (F:=λr=>dP (fX r) (some r)) (aF.pick aCN hE rfl) bI λr z hz=>by
  obtain⟨h,e⟩:=fG hz;cases e;exact aKd (by unfold aE.add;rw[yAI Al];exact h0) Cd r h) hE (by unfold aE.add;rw[yAJ rfl];rfl)
theorem aKe(e k:Nat):wC (gI e k):=by
 refine wC.or ?_ (wC.or ?_ ?_)
 .intro fl args σ p σ' h;unfold xW at h;exact gl
 .intro fl args σ p σ' h;unfold wD at h;exact gl
 .intro fl args σ p σ' h;unfold z7 at h;split at h
  rotate_left
  .cases h
  split at h
  rotate_left
  .cases h
  simp only[yAb,yAc]at h;rw[<-h.2];simp
theorem OK{e k:Nat}{E:aE}(hU:aH E){f:FuncId}:aH (E.add f (gI e k)):=hU.aCO (aKe e k)
theorem OL{e k:Nat}{E:aE}(hU:aH E){f:FuncId}:aH (E.add f (rH e k)):=hU.aCO (by
 intro fl args σ p σ' h;unfold rH at h;split at h
 rotate_left
 .cases h
 split at h
 rotate_left
 .cases h
 rename_i hq;split at h
 rotate_left
 .cases h
 simp only[yAb,yAc]at h;rw[<-h.2];intro e;have h1:=yAK List.length e;rw[yAD,yAQ]at h1;rw[yAf h1]at hq;cases hq)
theorem aKf{E:aE}(hU:aH E)(h0:E 56=none)(x:bC)(h:1<=x.kind/\x.kind<=13):aJ prog E 56 [Em.edit.aA x] ((i64.sA i64).aA ((x.kind-1)/3,(x.kind-1)%3)):=by
 obtain⟨kd,hkd⟩:∃kd:Nat,x.kind=(kd:Int)+1:=⟨(x.kind-1).toNat,Ah⟩;obtain⟨p,σ,h1,h2⟩:=(aKg hU h0 kd Ah x.div x.idx x.name x.aG.name x.aG.jJ x.frame.name x.stop.name x.aK.name x.aG.num x.aG.den x.aG.first x.frame.low x.frame.high x.stop.num x.stop.den x.aK.dR x.aK.dst x.aK.shift x.frame.eE x.aK.o9 (sz 1 x.aG.kX) (sz 4 x.frame.stops) (sz 3 x.stop.aU) (x.aG.kX.map i64.aA) (x.frame.stops.map Em.stop.aA) (x.stop.aU.map Em.eZ.aA)).ex;refine⟨p,σ,?_,?_⟩
 .rw[cU,hkd];simp only[aW];exact h1
 .rw[h2,hkd,show(kd:Int)+1-1=(kd:Int) by omega,show(kd:Int)/3=((kd/3:Nat):Int) by omega,show(kd:Int)%3=((kd%3:Nat):Int) by omega];rfl
theorem aKh{E:aE}(hU:aH E)(h0:E 78=none)(h1:E 56=some sN)(h2:E 33=some (eU Em.aG fX))(h3:E 35=some (eU Em.div fY))(h4:E 72=some (eU Em.stop iV))(x:bC)(h:fW x) :
  aJ prog E 78 [Em.edit.aA x] (i64.aA (iA x)):=by
 unfold iA
 by_cases hb:x.kind<1\/13<x.kind
 .rw[yAJ hb];exact aKi hU h0 x hb
 .rw[yAI hb];exact aKj hU h0 h1 h2 h3 h4 x ⟨Ah,Ah⟩ h
def UE:aE:=λ_=>none
theorem aKk:aF prog UE:=λ_ hg=>by cases hg
theorem aCP:aH UE:=aH.none
def UF:aE:=UE.add 70 (eU fM I0)
theorem aKl:aF prog UF:=aKk.s5 bI λx y hx hy=>aKm aCP rfl x y hx hy
theorem aCQ:aH UF:=aCP.entry
def UG:aE:=UF.add 108 (eU fN zA)
theorem aKn:aF prog UG:=aKl.s5 bI λx y hx hy=>aKo aCQ rfl x y hx hy
theorem aCR:aH UG:=aCQ.entry
def UH:aE:=UG.add 36 (eU oC FY)
theorem aKp:aF prog UH:=aKn.s5 bI λx y hx hy=>aKq aCR rfl x y hx hy
theorem aCS:aH UH:=aCR.entry
def UI:aE:=UH.add 33 (eU Em.aG fX)
theorem aKr:aF prog UI:=aKp.s5 bI λx y hx hy=>aKs aCS rfl rfl x y hx hy
theorem aCT:aH UI:=aCS.entry
def UJ:aE:=UI.add 32 (s4 aM FZ 33)
theorem aKt:aF prog UJ:=aKr.ML bI λx y hx hy=>aKu aCT rfl rfl x y hx hy
theorem aCU:aH UJ:=aCT.entry
def UK:aE:=UJ.add 107 (eU Em.eZ vO)
theorem aKv:aF prog UK:=aKt.s5 bI λx y hx hy=>aKw aCU rfl rfl x y hx hy
theorem aCV:aH UK:=aCU.entry
def UL:aE:=UK.add 106 (s4 nO MJ 107)
theorem aKx:aF prog UL:=aKv.ML bI λx y hx hy=>aKy aCV rfl rfl x y hx hy
theorem aCW:aH UL:=aCV.entry
def UM:aE:=UL.add 72 (eU Em.stop iV)
theorem aKz:aF prog UM:=aKx.s5 bI λx y hx hy=>aKA aCW rfl rfl x y hx hy
theorem aCX:aH UM:=aCW.entry
def UN:aE:=UM.add 71 (s4 mX MK 72)
theorem aKB:aF prog UN:=aKz.ML bI λx y hx hy=>aKC aCX rfl rfl x y hx hy
theorem aCY:aH UN:=aCX.entry
def UO:aE:=UN.add 35 (eU Em.div fY)
theorem aKD:aF prog UO:=aKB.s5 bI λx y hx hy=>aKE aCY rfl rfl x y hx hy
theorem aCZ:aH UO:=aCY.entry
def UP:aE:=UO.add 34 (s4 pX F0 35)
theorem aKF:aF prog UP:=aKD.ML bI λx y hx hy=>aKG aCZ rfl rfl x y hx hy
theorem aC0:aH UP:=aCZ.entry
def UQ:aE:=UP.add 14 (eU Em.bM gG)
theorem aKH:aF prog UQ:=aKF.s5 bI λx y hx hy=>aKI aC0 rfl rfl rfl rfl x y hx hy
theorem aC1:aH UQ:=aC0.entry
def UR:aE:=UQ.add 92 OM
theorem aKJ:aF prog UR:=aKH.lZ bI λx z hz=>by cases hz;exact aKK aC1 rfl x
theorem aC2:aH UR:=aC1.entry
def US:aE:=UR.add 60 EG
theorem aKL:aF prog US:=aKJ.lZ bI λx z hz=>by obtain⟨h,e⟩:=fG hz;cases e;exact aKM aC2 rfl rfl x h
theorem aC3:aH US:=aC2.entry
def UT:aE:=US.add 96 G9
theorem aKN:aF prog UT:=aKL.lZ bI λx z hz=>by cases hz;exact aKO aC3 rfl x.1 x.2
theorem aC4:aH UT:=aC3.entry
def UU:aE:=UT.add 145 ON
theorem aKP:aF prog UU:=aKN.qW bI λx y z hz=>by
 obtain⟨h,e⟩:=fG hz;cases e;obtain⟨a,rfl⟩:∃a:Nat,x=a:=⟨x.toNat,Ah⟩;obtain⟨b,rfl⟩:∃b:Nat,y=b:=⟨y.toNat,Ah⟩;rw[yBe,yBe];exact aKQ aC4 rfl a b Ah Ah
theorem aC5:aH UU:=aC4.entry
def UW:aE:=UU.add 146 OO
theorem aKR:aF prog UW:=aKP.lZ bI λx z hz=>by obtain⟨h,e⟩:=fG hz;cases e;exact aKS aC5 rfl x h
theorem aC6:aH UW:=aC5.entry
def UX:aE:=UW.add 124 OP
theorem aKT:aF prog UX:=aKR.lZ bI λx z hz=>by cases hz;exact aKU aC6 rfl rfl rfl x.1 x.2
theorem aC7:aH UX:=aC6.entry
def UY:aE:=UX.add 93 J6
theorem aKV:aF prog UY:=aKT.lZ bI λx z hz=>by cases hz;exact aKW aC7 rfl rfl x.1 x.2
theorem aC8:aH UY:=aC7.entry
def UZ:aE:=UY.add 126 OQ
theorem aKX:aF prog UZ:=aKV.lZ bI λx z hz=>by cases hz;exact aKY aC8 rfl x
theorem aC9:aH UZ:=aC8.entry
def U0:aE:=UZ.add 147 OR
theorem aKZ:aF prog U0:=aKX.aDa λl hl=>aK0 aC9 rfl rfl l hl
theorem aDb:aH U0:=aC9.entry
def U1:aE:=U0.add 125 OS
theorem aK1:aF prog U1:=aKZ.aDa λl hl=>aK2 aDb rfl rfl l hl
theorem aDc:aH U1:=aDb.entry
def U3:aE:=U1.add 95 OT
theorem aK3:aF prog U3:=aK1.lZ bI λx z hz=>by obtain⟨h,e⟩:=fG hz;cases e;exact aK4 aDc rfl rfl x h
theorem aDd:aH U3:=aDc.entry
def U4:aE:=U3.add 94 OU
theorem aK5:aF prog U4:=aK3.lZ bI λx z hz=>by cases hz;exact aK6 aDd rfl x
theorem aDe:aH U4:=aDd.entry
def U5:aE:=U4.add 61 J7
theorem aK7:aF prog U5:=aK5.lZ bI λx z hz=>by obtain⟨h,e⟩:=fG hz;cases e;exact aK8 aDe rfl rfl rfl rfl rfl x h.1 h.2.1 h.2.2
theorem aDf:aH U5:=aDe.entry
def U6:aE:=U5.add 167 OV
theorem aK9:aF prog U6:=aK7.qW bI λx y z hz=>by obtain⟨h,e⟩:=fG hz;cases e;exact aLa aDf rfl x y h
theorem aDg:aH U6:=aDf.entry
def U7:aE:=U6.add 148 OW
theorem aLb:aF prog U7:=aK9.qW bI λx y z hz=>by obtain⟨h,e⟩:=fG hz;cases e;exact aLc aDg rfl rfl x y h
theorem aDh:aH U7:=aDg.entry
def U8:aE:=U7.add 128 OX
theorem aLd:aF prog U8:=aLb.qW bI λx y z hz=>by obtain⟨h,e⟩:=fG hz;cases e;exact aLe aDh rfl rfl x.1 h.1 x.2.1 x.2.2 y h.2
theorem aDi:aH U8:=aDh.entry
def U9:aE:=U8.add 127 OY
theorem aLf:aF prog U9:=aLd.lZ bI λx z hz=>by obtain⟨h,e⟩:=fG hz;cases e;exact aLg aDi rfl rfl rfl x.1 h.1 h.2 x.2.1 x.2.2
theorem aDj:aH U9:=aDi.entry
def VA:aE:=U9.add 97 OZ
theorem aLh:aF prog VA:=aLf.qW bI λx y z hz=>by obtain⟨h,e⟩:=fG hz;cases e;exact aLi aDj rfl rfl rfl rfl rfl x.1 h.1 x.2.1 x.2.2 y h.2.1 h.2.2
theorem aDk:aH VA:=aDj.entry
def VB:aE:=VA.add 99 z8
theorem aLj:aF prog VB:=aLk aDk aLh rfl
theorem aDl:aH VB:=aDk.other (aLl)
def VC:aE:=VB.add 129 (tO λnm l=>.int .i64 (cK (jA nm) l 0))
theorem aLm:aF prog VC:=aLn aDl aLj rfl rfl
theorem aDm:aH VC:=aDl.other (aDn _)
def VD:aE:=VC.add 98 (tO λnm l=>.bool (l.any (jA nm)))
theorem aLo:aF prog VD:=aLp aDm aLm rfl rfl
theorem aDo:aH VD:=aDm.other (aDn _)
def VE:aE:=VD.add 64 O0
theorem aLq:aF prog VE:=aLo.qW bI λx y z hz=>by obtain⟨h,e⟩:=fG hz;cases e;exact aLr aDo rfl rfl rfl rfl x y h.1 h.2.1 h.2.2
theorem aDp:aH VE:=aDo.entry
def VF:aE:=VE.add 62 wE
theorem aLs:aF prog VF:=aLt aDp aLq rfl
theorem aDq:aH VF:=aDp.other (aLu)
def J8:aE:=VF.add 63 O1
theorem aDr:aF prog J8:=aLs.qW bI λx y z hz=>by obtain⟨h,e⟩:=fG hz;cases e;exact aLv aDq rfl rfl rfl rfl x h.1 y h.2.2
theorem VG:aH J8:=aDq.entry
def VH:aE:=J8.add 27 CA
theorem aLw:aF prog VH:=aDr.lZ bI λx z hz=>by obtain⟨h,e⟩:=fG hz;cases e;exact aDs VG rfl rfl rfl rfl rfl rfl x h
theorem aDt:aH VH:=VG.entry
def VI:aE:=VH.add 53 AA
theorem aLx:aF prog VI:=aLy aDt aLw rfl
theorem aDu:aH VI:=aDt.other (aLz)
def VJ:aE:=VI.add 52 CB
theorem aLA:aF prog VJ:=aLB aDu aLx rfl rfl
theorem aDv:aH VJ:=aDu.other (aLC)
def VK:aE:=VJ.add 55 AB
theorem aLD:aF prog VK:=aLE aDv aLA rfl
theorem aDw:aH VK:=aDv.other (aLF)
def VL:aE:=VK.add 54 CC
theorem aLG:aF prog VL:=aLH aDw aLD rfl rfl
theorem aDx:aH VL:=aDw.other (aLI)
def VM:aE:=VL.add 20 O2
theorem aLJ:aF prog VM:=aLG.qW bI λx y z hz=>by obtain⟨h,e⟩:=fG hz;cases e;exact aLK aDx rfl rfl rfl rfl x y h.1 h.2.1 h.2.2.1 h.2.2.2
theorem aDy:aH VM:=aDx.entry
def VN:aE:=VM.add 88 (eU fN zA)
theorem aLL:aF prog VN:=aLJ.s5 bI λx y hx hy=>aLM aDy rfl x y hx hy
theorem aDz:aH VN:=aDy.entry
def VO:aE:=VN.add 37 (eU Em.aG fX)
theorem aLN:aF prog VO:=aLL.s5 bI λx y hx hy=>aLO aDz rfl x y hx hy
theorem aDA:aH VO:=aDz.entry
def VP:aE:=VO.add 57 (eU Em.stop iV)
theorem aLP:aF prog VP:=aLN.s5 bI λx y hx hy=>aLQ aDA rfl rfl x y hx hy
theorem aDB:aH VP:=aDA.entry
def VQ:aE:=VP.add 38 (eU Em.div fY)
theorem aLR:aF prog VQ:=aLP.s5 bI λx y hx hy=>aLS aDB rfl rfl x y hx hy
theorem aDC:aH VQ:=aDB.entry
def VS:aE:=VQ.add 15 (eU Em.bM gG)
theorem aLT:aF prog VS:=aLR.s5 bI λx y hx hy=>aLU aDC rfl rfl rfl x y hx hy
theorem aDD:aH VS:=aDC.entry
def VT:aE:=VS.add 11 O3
theorem aLV:aF prog VT:=aLT.lZ bI λx z hz=>by cases hz;exact aHh aDD rfl x
theorem aDE:aH VT:=aDD.entry
def VU:aE:=VT.add 67 (entry (bZ jK Em.cV λn=>dP (gE n) (some (oH n))))
theorem aLW:aF prog VU:=aLV.lZ bI λx z hz=>by obtain⟨h,e⟩:=fG hz;cases e;exact aLX aDE rfl x h
theorem aDF:aH VU:=aDE.entry
def VV:aE:=VU.add 68 (entry (bZ jK Em.cV λn=>dP (gE n) (some (mS n))))
theorem aLY:aF prog VV:=aLW.lZ bI λx z hz=>by obtain⟨h,e⟩:=fG hz;cases e;exact aLZ aDF rfl x h
theorem aL0:aH VV:=aDF.entry
def VW:aE:=VV.add 69 EH
theorem aL1:aF prog VW:=aF.pick aL2 aLY (yAJ rfl)
theorem aDG:aH VW:=aL0.entry
def VX:aE:=VW.add 30 O4
theorem aL3:aF prog VX:=aL1.qW bI λx y z hz=>by
 obtain⟨h,e⟩:=fG hz;cases e;obtain⟨a,rfl⟩:∃a:Nat,y=a:=⟨y.toNat,Ah⟩;rw[yBe];exact aL4 aDG rfl rfl x h.1 a Ah
theorem aDH:aH VX:=aDG.entry
def VY:aE:=VX.add 31 J9
theorem aL5:aF prog VY:=aL3.aL6 aDH rfl rfl rfl
theorem aDI:aH VY:=aDH.entry
def VZ:aE:=VY.add 13 AD
theorem aL7:aF prog VZ:=aL5.lZ bI λx z hz=>by obtain⟨h,e⟩:=fG hz;cases e;exact aL8 aDI rfl rfl rfl x h.1 h.2
theorem aL9:aH VZ:=aDI.entry
def OI:aE:=VZ.add 10 V0
theorem aCG:aF prog OI:=aF.pick aMa aL7 (yAJ rfl)
theorem aCI:aH OI:=aL9.entry
def V1:aE:=OI.add 76 OJ
theorem aMb:aF prog V1:=aKc aCG
theorem aDJ:aH V1:=aCI.entry
def V2:aE:=V1.add 73 (iH 48 6)
theorem aMc:aF prog V2:=aMd aDJ aMb rfl
theorem aDK:aH V2:=HA aDJ
def V3:aE:=V2.add 74 (iH 53 5)
theorem aMe:aF prog V3:=aMf aDK aMc rfl
theorem aDL:aH V3:=HA aDK
def V4:aE:=V3.add 75 (iH 58 5)
theorem aMg:aF prog V4:=aMh aDL aMe rfl
theorem aDM:aH V4:=HA aDL
def V5:aE:=V4.add 110 (iH 56 4)
theorem aMi:aF prog V5:=aMj aDM aMg rfl
theorem aDN:aH V5:=HA aDM
def V6:aE:=V5.add 118 (iH 92 3)
theorem aMk:aF prog V6:=aMl aDN aMi rfl
theorem aDO:aH V6:=HA aDN
def CD:aE:=V6.add 119 (iH 89 2)
theorem aMm:aF prog CD:=aMn aDO aMk rfl
theorem O5:aH CD:=HA aDO
noncomputable def EI:aE:=CD.add 86 (eT prog CD 86)
theorem aMo:aF prog EI:=aMm.wF bI _
theorem V7:aH EI:=O5.e0
noncomputable def uX:aE:=EI.add 77 (eT prog EI 77)
theorem aDP:aF prog uX:=aMo.wF bI _
theorem aDQ:aH uX:=V7.e0
noncomputable def V8:aE:=uX.add 41 (eT prog uX 41)
theorem aMp:aF prog V8:=aDP.wF bI _
theorem aDR:aH V8:=aDQ.e0
def HB:aE:=V8.add 111 KA
theorem aMq:aF prog HB:=aMp.aAV bI λn w i z hz=>by obtain⟨h,e⟩:=fG hz;cases e;exact aMr aDR rfl n w i h
theorem aDS:aH HB:=aDR.entry
noncomputable def HC:aE:=HB.add 81 (eT prog HB 81)
theorem aMs:aF prog HC:=aMq.wF bI _
theorem aDT:aH HC:=aDS.e0
noncomputable def V9:aE:=HC.add 83 (eT prog HC 83)
theorem WA:aF prog V9:=aMs.wF bI _
theorem WB:aH V9:=aDT.e0
def WC:aE:=V9.add 112 (gI 48 6)
theorem WD:aF prog WC:=aF.CE (WA.KC ⟨_,func112,rfl⟩ aDU) (aF.CE (aMt WB WA rfl) (aMu WB WA rfl))
theorem WE:aH WC:=OK WB
def WG:aE:=WC.add 114 (gI 53 5)
theorem WH:aF prog WG:=aF.CE (WD.KC ⟨_,func114,rfl⟩ aMv) (aF.CE (aMw WE WD rfl) (aMx WE WD rfl))
theorem WI:aH WG:=OK WE
def WJ:aE:=WG.add 120 (gI 58 5)
theorem WK:aF prog WJ:=aF.CE (WH.KC ⟨_,func120,rfl⟩ aMy) (aF.CE (aMz WI WH rfl) (aMA WI WH rfl))
theorem WM:aH WJ:=OK WI
def WN:aE:=WJ.add 116 (gI 56 4)
theorem aMB:aF prog WN:=aF.CE (WK.KC ⟨_,func116,rfl⟩ aMC) (aF.CE (aMD WM WK rfl) (aME WM WK rfl))
theorem aMF:aH WN:=OK WM
def WO:aE:=WN.add 113 (rH 48 6)
theorem aMG:aF prog WO:=aMB.KD ⟨_,func113,rfl⟩ aMH
theorem aMI:aH WO:=OL aMF
def WQ:aE:=WO.add 115 (rH 53 5)
theorem aMJ:aF prog WQ:=aMG.KD ⟨_,func115,rfl⟩ aDV
theorem aMK:aH WQ:=OL aMI
def WR:aE:=WQ.add 121 (rH 58 5)
theorem aML:aF prog WR:=aMJ.KD ⟨_,func121,rfl⟩ aMM
theorem aMN:aH WR:=OL aMK
def HD:aE:=WR.add 117 (rH 56 4)
theorem aMO:aF prog HD:=aML.KD ⟨_,func117,rfl⟩ aMP
theorem aDW:aH HD:=OL aMN
noncomputable def HE:aE:=HD.add 82 (eT prog HD 82)
theorem aMQ:aF prog HE:=aMO.wF bI _
theorem aDX:aH HE:=aDW.e0
noncomputable def HF:aE:=HE.add 84 (eT prog HE 84)
theorem aMR:aF prog HF:=aMQ.wF bI _
theorem aDY:aH HF:=aDX.e0
noncomputable def HG:aE:=HF.add 87 (eT prog HF 87)
theorem aMS:aF prog HG:=aMR.wF bI _
theorem aDZ:aH HG:=aDY.e0
noncomputable def WS:aE:=HG.add 85 (eT prog HG 85)
theorem aMT:aF prog WS:=aMS.wF bI _
theorem aD0:aH WS:=aDZ.e0
def WT:aE:=WS.add 56 sN
theorem aMU:aF prog WT:=aMT.lZ bI λx z hz=>by obtain⟨h,e⟩:=fG hz;cases e;exact aKf aD0 rfl x h
theorem aD1:aH WT:=aD0.entry
def CF:aE:=WT.add 78 AE
theorem aMV:aF prog CF:=aMU.lZ bI λx z hz=>by obtain⟨h,e⟩:=fG hz;cases e;exact aKh aD1 rfl rfl rfl rfl rfl x h
theorem KE:aH CF:=aD1.entry
noncomputable def O6:aE:=CF.add 80 (eT prog CF 80)
theorem WU:aF prog O6:=aMV.wF bI _
theorem aMW:aH O6:=KE.e0
noncomputable def CG:aE:=O6.add 27 (EJ (CH prog J8 27))
theorem aMX:aF prog CG:=aF.pick (f:=27) (aDr.aMY bI 27) WU Cd
theorem KF:EK CG:=aMZ (Eo:=J8) rfl rfl λo ho=>aDs VG rfl rfl rfl rfl rfl rfl o ho
noncomputable def WV:aE:=O6.add 79 (eT prog CG 79)
theorem aD2:aF prog WV:=aF.pick (f:=79) (aMX.wF bI 79) WU Cd
theorem aM0:aH WV:=aMW.e0
def O7:aE:=WV.add 76 (xX OJ)
theorem aM1:aF prog O7:=aF.le (aF.pick (f:=76) (g:=OJ) WU aD2 rfl) aD2 λfl args σ x h=>by
 unfold xX at h;split at h
 .exact h
 .cases h
theorem HH:aH O7:=aM2 aM0 _
theorem HI:∀(o:aP) (ho:gG o) (τ:List aB),aL prog uX 0 (.inl 41) [Em.bM.aA o] τ (λp σ'=>(∃iR iD iC ds tS tss tG tgs tW,iI σ' τ.length o p iR iD iC ds tS tss tG tgs tW)/\τ.length<=σ'.length/\∀id,id<τ.length->σ'[id]?=τ[id]?):=λo ho τ=>
 aM3 aDQ (E0:=EI) rfl rfl rfl rfl rfl rfl (λd hd τ=>aD3 V7 (E0:=CD) rfl rfl rfl (λs hs τ=>WW O5 rfl rfl rfl s hs τ) d hd τ) o ho τ
theorem aM4:WX HD oZ:=aM5 aDW rfl rfl rfl
theorem aM6:WY HE o0 DV:=aM7 aDX rfl rfl rfl
theorem aM8:WZ HF nV:=aM9 aDY rfl rfl rfl
theorem aNa:W0 HG:=aNb aDZ rfl rfl rfl
theorem aNc:W2 HB:=aNd aDS rfl rfl
theorem aNe:W3 HC:=aNf aDT rfl rfl
theorem aNg:W4 CD:=aNh O5 rfl rfl rfl
theorem aNi:W5 EI DV:=aNj V7 (E0:=CD) O5 rfl rfl rfl rfl rfl rfl
theorem aNk(o:aP)(x:bC)(ho:gY o)(hx:jN x):RunT prog O7 42 [Em.bM.aA o,Em.edit.aA x] ((Em.bM.sA i64).aA (iJ o x)):=by
 have hok:=ho.dI;have hoO:=hok.gG;have hsh:=ho.short;obtain⟨b1,b2,b3,b4⟩:=ho.bounds;unfold iJ
 by_cases hf:iA x≠0
 .rw[yAJ hf];obtain⟨p,σ,h1,h2⟩:=(aNl HH rfl rfl o x hx.fW hf).ex;exact EL h1 h2
 rw[yAI hf];have hf:iA x=0:=by simpa using hf
 have hk:1<=x.kind/\x.kind<=13:=by
  unfold iA at hf;split at hf
  .exact absurd hf Al
  .omega
 by_cases AF:x.kind=13
 .rw[yAJ AF];obtain⟨p,σ,h1,P1,P2,P3,h2,l1,l2,l3⟩:=(aNm HH (E1:=uX) (E4:=CG) rfl rfl rfl HI rfl KF (λσ lo o p iR iD iC ds tS tss tG tgs tW hO _ hs=>⟨oZ.o4 (rI hO hs).1,o0.o4 (rI hO hs).2.1,nV.o4 (rI hO hs).2.2⟩) o x hoO hsh hx.fW hf AF (qE.dI ⟨hx.1,ho.2.aM,ho.2.aD,ho.2.aO⟩ (show o.aM.length<=1000000 by omega) (show o.aD.length<=1000000 by omega) (show o.aO.length<=1000000 by omega))).ex;exact KG h1 h2 l1 l2 l3
 rw[yAI AF];have aWd:1<=x.kind/\x.kind<=12:=Ah;obtain⟨wy,hwy⟩:=gn ((x.kind-1)%3)
 by_cases t0:(x.kind-1)/3=0
 .rw[yAJ t0];obtain⟨p,σ,h1,hp⟩:=(aNn HH (E1:=uX) (E2:=CF) (E3:=HD) (E4:=CG) (E5:=HB) rfl rfl rfl HI rfl rfl KE rfl rfl (oZ:=oZ) rfl aM4 rfl aNc rfl rfl KF (λσ lo o p iR iD iC ds tS tss tG tgs tW hO _ hs=>⟨(rI hO hs).1,o0.o4 (rI hO hs).2.1,nV.o4 (rI hO hs).2.2⟩) o x hoO hsh hx.fW hf Ah
   (λd hd s hs g hg w hw=>by have:=ho.aX d hd s hs g hg w hw;omega) (λ_=>(aD4 ho.2 hx.2.1 _ _).dI (yAV (O8 _ _ _ _) Ah) (by show(o.aD.map _).length<=1000000;rw[yAe];omega) (show o.aO.length<=1000000 by omega))).ex
  exact dz
 rw[yAI t0]
 by_cases t1:(x.kind-1)/3=1
 .rw[yAJ t1];obtain⟨p,σ,h1,hp⟩:=(aNo HH (E1:=uX) (E2:=CF) (E3:=HE) (E4:=CG) (E5:=HC) (E6:=EI) rfl rfl rfl HI rfl rfl KE rfl rfl (o0:=o0) (DV:=DV) rfl aM6 rfl aNe rfl aNi rfl KF (λσ lo o p iR iD iC ds tS tss tG tgs tW hO _ hs=>⟨oZ.o4 (rI hO hs).1,(rI hO hs).2.1,nV.o4 (rI hO hs).2.2⟩) o x hoO hsh hx.fW hf Ah
   (λσ σ2 P l h _ hk=>h.aQ λid t n v cs _ hy=>(hk id (yA.1 hy).1).trans hy) (λc hc=>by have:=ho.ends c hc;omega) (λ_=>(aD5 ho.2 hx.2.2.1 _ _).dI (show o.aM.length<=1000000 by omega) (yAV (O8 _ _ _ _) Ah) (by show(o.aO.map _).length<=1000000;rw[yAe];omega))).ex
  exact dz
 rw[yAI t1]
 by_cases t2:(x.kind-1)/3=2
 .rw[yAJ t2];obtain⟨p,σ,h1,hp⟩:=(aNp HH (E1:=uX) (E2:=CF) (E3:=HG) (E4:=CG) (E6:=CD) rfl rfl rfl HI rfl rfl KE rfl rfl rfl aNa rfl aNg rfl KF o x hoO hsh hx.fW hf Ah
   (λhd=>(aD6 ho.2 hx.2.2.2.1 _ _ _ hd (by have:=b4 _ (KH hd bS);omega)).dI (show o.aM.length<=1000000 by omega) (by show(o.aD.set _ _).length<=1000000;rw[yAD];omega) (show o.aO.length<=1000000 by omega))).ex
  rcases hp with⟨hb,h2⟩ | ⟨hb,P1,P2,P3,h2,l1,l2,l3⟩
  .rw[yAI hb];exact EL h1 h2
  .rw[yAJ hb];exact KG h1 h2 l1 l2 l3
 rw[yAI t2];obtain⟨p,σ,h1,hp⟩:=(aNq HH (E1:=uX) (E2:=CF) (E3:=HF) (E4:=CG) rfl rfl rfl HI rfl rfl KE rfl rfl (nV:=nV) rfl aM8 rfl KF (λσ lo o p iR iD iC ds tS tss tG tgs tW hO _ hs=>⟨oZ.o4 (rI hO hs).1,o0.o4 (rI hO hs).2.1,(rI hO hs).2.2⟩) (λσ σ' P l h k _=>h.aQ (k.mono λt ht=>ht.elim id False.elim)) o x hoO hsh hx.fW hf Ah
  ((aD7 ho.2 hx.2.2.2.2 _ _).dI (show o.aM.length<=1000000 by omega) (show o.aD.length<=1000000 by omega) (yAV (O8 _ _ _ _) Ah))).ex
 rw[hwy]at hp ⊢;rcases hp with⟨hb,h2⟩ | ⟨hb1,hb2,P1,P2,P3,h2,l1,l2,l3⟩
 .rw[yAI (λh:lM _ _ _=>by unfold lM at h;rcases hb with hb|hb<;>omega)];exact EL h1 h2
 .rw[yAJ (show lM _ _ _ from⟨hb1,Ah⟩)];exact KG h1 h2 l1 l2 l3
def UA:aE:=OI
theorem aJ1:aF prog UA:=aCG
theorem aCH:aH UA:=aCI
def UB:aE:=UA.add 39 wA
theorem aJ2:aF prog UB:=aJ1.lZ bI λx z hz=>by obtain⟨h,e⟩:=fG hz;cases e;exact aJ3 aCH rfl x h
theorem aCJ:aH UB:=aCH.entry
def UC:aE:=UB.add 45 gMs
theorem aJ4:aF prog UC:=aJ2.aAV bI λw i n z hz=>by cases hz;exact aJ5 aCJ rfl w i n
theorem aCK:aH UC:=aCJ.entry
def UD:aE:=UC.add 22 (eU Em.edit fW)
theorem aJ6:aF prog UD:=aJ4.qW bI λx y z hz=>by obtain⟨h,e⟩:=fG hz;cases e;exact aJ7 aCK rfl rfl rfl rfl x y h.1 h.2
theorem aCL:aH UD:=aCK.entry
def G7:aE:=UD.add 43 gFm
theorem aJ8:aF prog G7:=aJ6.lZ bI λx z hz=>by obtain⟨h,e⟩:=fG hz;cases e;exact aJ9 aCL rfl rfl rfl x h.1 h.2
theorem aCM:aH G7:=aCL.entry
theorem aJ0:aKa G7:=λd hd τ=>aKb aCM rfl d hd τ
theorem B9{o:aP}(h:gY o):gG o:=h.dI.gG
structure rU where
 kind:Int
 div:Int
 idx:Int
 dV:oT
 extra:Int
def bO.dV:bO oT:=((bO.one IX).pair ((bO.one IY).pair (.one IZ))).mK (λr=>(r.aM,r.aD,r.aO)) (λx y h=>Aq)
def Em.change:Em rU:=.agg (((bO.one i64).pair ((bO.one i64).pair ((bO.one i64).pair (bO.dV.pair (.one jK))))).mK (λr=>(r.kind,r.div,r.idx,r.dV,r.extra)) (λx y h=>Aq))
theorem B8{c:rU}:Em.change.aA c=.agg [.int .i64 c.kind,.int .i64 c.div,.int .i64 c.idx,IX.aA c.dV.aM,IY.aA c.dV.aD,IZ.aA c.dV.aO,.int .u8 c.extra]:=rfl
def zX(c:rU):Prop:=DB c.kind/\xD c.dV/\mL c.dV=true/\gE c.extra
def mR:List UInt8:=[78,101,119]
def fV(k:Int):Int:=if k<1 then -1 else if (k-1)%3=1/\(k-1)/3<4 then -1 else(k-1)/3
def tN(o:aP):bD:=o.aD.getD (o.aD.length-1) bS
def mB(w:Int)(o:aP)(x:bC):bC:=
 if w=0 then { x with aG:={ o.aM.getD 0 dK with name:=mR } }
 else if w=1 then { x with frame:={ tN o with name:=mR } }
 else if w=2 then(match (tN o).stops with | []=>x|s::_=>{ x with stop:={ s with name:=mR } })
 else if w=3 then(match o.aO with | []=>x|c::_=>{ x with aK:={ c with name:=mR } })
 else if w=4 then { x with idx:=0,name:=mR }
 else x
def EF(c:rU)(x:bC):bC:=if (7<=c.kind/\c.kind<=9)\/c.extra%8=1 then { x with div:=c.div }else x
def oY(e:Int)(x:bC):bC:=
 if e=2 then { x with name:=[120] }
 else if e=3 then { x with aG:={ x.aG with kX:=[1] } }
 else if e=4 then { x with aK:={ x.aK with shift:=x.aK.shift+1 } }
 else if e=5 then { x with frame:={ x.frame with eE:=!x.frame.eE } }
 else x
def sL(c:rU):bC:=oY (c.extra%8) (EF c (mB (fV c.kind) (fE c.dV) ⟨c.kind,0,c.idx,[],dK,bS,dN,eD⟩))
theorem G6{p:oT}(hp:xD p)(hf:mL p=true):gY (fE p):=⟨aJX p hp hf,(aJY p hf).dI.fit⟩
def zY:Nat->List PD->List aB->Option (PD×List aB):=entry (bZ Em.div Em.div λd=>dP (fY d) (some d))
theorem OF{d:bD}(h:fY d)(fl:Nat)(σ:List aB):zY fl [Em.div.aA d] σ=some (Em.div.aA d,σ):=by
 have e1:=Em.cM (Em.div.str d);unfold zY entry bZ;simp only[e1,eV h]
theorem aJZ(d:bD)(hd:fY d):RunT prog G7 40 [Em.div.aA d] (Em.div.aA d):=by
 obtain⟨p,σ,h1,⟨iS,ss,tG,tgs,tW,rfl,hV,_,_⟩⟩:=(aJ0 d hd []).ex;have hl:cO Em.stop 4 rF σ (Go.Kz.hb 4 iS (d.stops.length-1) d.stops.length) d.stops:=by
  refine T9.G8 (e:=56) (R:=qD) ⟨ss,?_,zZ hV.len λi hi=>⟨_,(hV.at_ i hi).1,rfl⟩,fF.of hV.len λi h1 h2=>?_⟩ Al (λt ht=>ht)
  .by_cases h0:d.stops=[]
   .have hd:ss=[]:=yAf (by rw[hV.len,h0];rfl);exact .inl ⟨hd,0,.full,by rw[h0];rfl⟩
   .have hp:0<d.stops.length:=yDe.2 h0;exact .inr ⟨λe=>by have:=hV.len;rw[e]at this;simp at this;omega,iS,d.stops.length-1,by rw[OG hp,hV.len],(hV.row hp).2⟩
  .have e:=(yA.1 (hV.at_ i h2).1).2;rw[e];exact λσ' k=>((hV.at_ i h2).2.z6 σ' k).up Ah
 obtain⟨a1,a2⟩:=hl.bF σ (λ_ _ _ _ _ _ h=>h) 11;refine⟨20,_,σ,h1,?_,?_⟩
 .show PD.agg [.str d.name,.bool d.eE,.int .i64 d.low,.int .i64 d.high,PD.strip (bF σ 19 _)]=_
  rw[a1];rfl
 .show(true&&(true&&(true&&(true&&(PD.bQ (bF σ 19 _)&&true)))))=true
  rw[a2];rfl
theorem OH{x:bC}(h:DB x.kind){Y:PD}(hY:Y.strip=Em.edit.aA x)(fl:Nat)(σ:List aB):wA fl [Y] σ=some (.aI [.int .i64 ((IntKind.i64.wrap (x.kind-1)).tdiv 3),.int .i64 ((IntKind.i64.wrap (x.kind-1)).tmod 3)],σ):=by
 have e1:=Em.cM hY;unfold wA entry bZ;simp only[e1,eV h];rfl
end Go.Kz
end
