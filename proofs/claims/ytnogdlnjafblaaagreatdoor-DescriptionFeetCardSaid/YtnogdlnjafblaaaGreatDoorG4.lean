/- Steps of the proof. -/
import Derived.Test.YtnogdlnjafblaaaGreatDoorG3
import Derived.Test.YtnogdlnjafblaaaGreatDoorP3
set_option linter.all false
set_option maxHeartbeats 40000000
set_option maxRecDepth 100000
open Go.Proofs.Tryz
namespace Go.Kz
open Go Go.Proofs
section
noncomputable def lV:j6:=λargs=>match args with
 | [.agg [.ptr b 0],s]=>(match texts.dec s with|some ns=>bJ (ns.length<=1000000) (some (.ptr b 0,jE (fJ ns) Em.stop.aA))|none=>none)
 |_=>none
variable{E:aE}(hU:aF E)
include hU
set_option maxRecDepth 10000
theorem aTw(h0:E 113=none)(hN:PC E 88 tQ)(hF:PC E 130 FA)(hM:PC E 131 C3)(hD:PC E 89 tR)(hX:PC E 133 pL)(hW:RC E 90 (E9 1) fW):PW E 113 lV:=by
 intro args aC r F l n hd hs hr hn hl;unfold lV at hd;split at hd
 rotate_left
 .cases hd
 rename_i b0 s;split at hd
 rotate_left
 .cases hd
 rename_i ns hns;obtain⟨hnl,hd⟩:=dF hd;have hdd:lV [.agg [.ptr b0 0],s]=some (.ptr b0 0,jE (fJ ns) Em.stop.aA):=by simp only[lV,hns];rw[dN hnl]
 have hix:=aNq (b0:=b0) hns hnl;simp only[yAb,yAc]at hd;obtain⟨rfl,rfl⟩:=hd;obtain⟨ghN,qhN,hghN,hqhN,hN⟩:=hN;obtain⟨ghF,qhF,hghF,hqhF,hF⟩:=hF;obtain⟨ghM,qhM,hghM,hqhM,hM⟩:=hM;obtain⟨ghD,qhD,hghD,hqhD,hD⟩:=hD;obtain⟨ghX,qhX,hghX,hqhX,hX⟩:=hX;obtain⟨gW,hgW,hW⟩:=hW;have hS:=((eQ.start hr hn).box (.box (.agg [.ptr b0 0]))).box (.box (.agg [.str [],.int .i64 0,.int .i64 0,.slice 0 [] .full]));simp only[yAi,yAR,yAQ,yAa,yAK,yAL,yAp]at hS;apply lJ.lL h0 func113 rfl
 focus(simp[show Tryz.f113.ntmps=_ from rfl,List.replicate];rfl)
 refine aD trivial ?_;obtain⟨jN,jO,jP,jQ,jR,jS⟩:=aB (hS.ks ((aC.length+1),.box (.agg [.str [],.int .i64 0,.int .i64 0,.slice 0 [] .full])) wz).1;obtain⟨oY,oZ,o1,o2,o3,o4⟩:=aB (hS.ks (aC.length,.box (.agg [.ptr b0 0])) wz).1;rcases hN [.agg [.ptr b0 0]] _ (.ptr b0 0) _ l n rfl (hS.ne hs) hS.rd hS.le hl with⟨p1,n1,σ1,f1,e1,r1,k1,q1⟩ | ⟨e,σ1,f1,e1,w1,k1,q1⟩
 rotate_left
 .have hE:fJ ns l n=.error e:=by simp[fJ,aQ,eD f1]
  have hpost:=hS.eI (dec:=lV) (args:=[.agg [.ptr b0 0],s]) hs hdd hr (eJ hE) k1 q1;exact tc
 obtain⟨nm,g1,rfl⟩:=eE f1;have h1:=hS.call r1 ((aP.name) _ _ _ _ hS.le g1).2 k1 q1
 try simp only[yAa,yAD,yAK,yAL]at q1
 obtain⟨iE,iF,iG,iH,iI,iJ⟩:=aB (h1.ks ((aC.length+1),.box (.agg [.str [],.int .i64 0,.int .i64 0,.slice 0 [] .full])) wz).1;obtain⟨o5,o6,o7,o8,o9,pA⟩:=aB (h1.ks (aC.length,.box (.agg [.ptr b0 0])) wz).1;obtain⟨u1,v1,w1⟩:=bH σ1
 first|refine Wp.seq ?_|skip
 apply Wp.dE;refine bF vf ?_;apply SQ.nil;have H1:=h1.box (.box (.agg [.str nm,.int .i64 0,.int .i64 0,.slice 0 [] .full]));refine aD ve ?_;obtain⟨pV,pW,pX,pY,pZ,qA⟩:=aB (H1.ks (σ1.length,.box (.agg [.str nm,.int .i64 0,.int .i64 0,.slice 0 [] .full])) wz).1;obtain⟨qB,qC,qD,qE,qG,qH⟩:=aB (H1.ks ((aC.length+1),.box (.agg [.str [],.int .i64 0,.int .i64 0,.slice 0 [] .full])) wz).1;obtain⟨wI,wJ,wK,wL,wM,wN⟩:=aB (H1.ks (aC.length,.box (.agg [.ptr b0 0])) wz).1;rcases hF [.agg [.ptr b0 0]] _ (.ptr b0 0) _ l n1 rfl (H1.ne hs) H1.rd H1.le hl with⟨p3,n3,σ3,f3,e3,r3,k3,q3⟩ | ⟨e,σ3,f3,e3,w3,k3,q3⟩
 rotate_left
 .have hE:fJ ns l n=.error e:=by simp[fJ,aQ,g1,eD f3]
  have hpost:=H1.eI (dec:=lV) (args:=[.agg [.ptr b0 0],s]) hs hdd hr (eJ hE) k3 q3
  first|refine WL.aZ 1 xe xe ?_|refine WL.dP 1 xe xe ?_
  refine bF (A18 pV pW pX pY pZ qA qB qC qD qE qG qH wI wJ wK wL wM wN) ?_;apply SQ.nil;refine cT.call (.i xe) xe xe hghF hqhF e3 w3 ?_;exact af
 obtain⟨fe,g3,rfl⟩:=eE f3;have h3:=H1.call r3 ((aP.cB) _ _ _ _ H1.le g3).2 k3 q3
 try simp only[yAa,yAD,yAK,yAL]at q3
 obtain⟨rO,rP,rQ,rR,rS,rT⟩:=aB (h3.ks (σ1.length,.box (.agg [.str nm,.int .i64 0,.int .i64 0,.slice 0 [] .full])) wz).1;obtain⟨rU,rV,rW,rX,rY,rZ⟩:=aB (h3.ks ((aC.length+1),.box (.agg [.str [],.int .i64 0,.int .i64 0,.slice 0 [] .full])) wz).1;obtain⟨FU,FV,FW,FX,FY,FZ⟩:=aB (h3.ks (aC.length,.box (.agg [.ptr b0 0])) wz).1;obtain⟨u3,v3,w3⟩:=bH σ3
 first|refine Wp.seq ?_|skip
 apply Wp.dE;refine bF (A20 hghF e3 pV pW pX pY pZ qA qB qC qD qE qG qH wI wJ wK wL wM (A20 wN rO rP rQ rR rS rT rU rV rW rX rY rZ FU FV FW FX FY FZ (A3 u3 @v3 w3))) ?_;apply SQ.nil;obtain⟨f1,f2⟩:=fe;have LH:=h3.set (i:=σ1.length) (o0:=.box (.agg [.str nm,.int .i64 0,.int .i64 0,.slice 0 [] .full])) (o:=.box (.agg [.str nm,.int .i64 f1,.int .i64 f2,.slice 0 [] .full])) [] [((aC.length+1),.box (.agg [.str [],.int .i64 0,.int .i64 0,.slice 0 [] .full])),(aC.length,.box (.agg [.ptr b0 0]))] rfl xk;refine aD (A20 rO rP rQ rR rS rT rU rV rW rX rY rZ FU FV FW FX FY FZ u3 (A3 @v3 w3 @aIG)) ?_;obtain⟨wP,wQ,wR,wS,wU,wV⟩:=aB (LH.ks (σ1.length,.box (.agg [.str nm,.int .i64 f1,.int .i64 f2,.slice 0 [] .full])) wz).1;obtain⟨wW,wX,wY,wZ,xA,xB⟩:=aB (LH.ks ((aC.length+1),.box (.agg [.str [],.int .i64 0,.int .i64 0,.slice 0 [] .full])) wz).1;obtain⟨xC,xD,xE,xF,xG,xH⟩:=aB (LH.ks (aC.length,.box (.agg [.ptr b0 0])) wz).1;rcases hD [.agg [.ptr b0 0]] _ (.ptr b0 0) _ l n3 rfl (LH.ne hs) LH.rd LH.le hl with⟨p5,n5,j5,f5,e5,r5,k5,q5⟩ | ⟨e,j5,f5,e5,w5,k5,q5⟩
 rotate_left
 .have hE:fJ ns l n=.error e:=by simp[fJ,aQ,g1,g3,eD f5]
  have hpost:=LH.eI (dec:=lV) (args:=[.agg [.ptr b0 0],s]) hs hdd hr (eJ hE) k5 q5
  first|refine WL.aZ 1 xe xe ?_|refine WL.dP 1 xe xe ?_
  refine bF vm ?_;apply SQ.nil;refine cT.call (.i xe) xe xe hghD hqhD e5 w5 ?_;exact af
 obtain⟨u1,g5,rfl⟩:=eE f5;have h5:=LH.call r5 ((aP.eY) _ _ _ _ LH.le g5).2 k5 q5
 try simp only[yAa,yAD,yAK,yAL]at q5
 obtain⟨xI,xJ,xK,xL,xM,xN⟩:=aB (h5.ks (σ1.length,.box (.agg [.str nm,.int .i64 f1,.int .i64 f2,.slice 0 [] .full])) wz).1;obtain⟨xO,xP,xQ,xR,xS,xT⟩:=aB (h5.ks ((aC.length+1),.box (.agg [.str [],.int .i64 0,.int .i64 0,.slice 0 [] .full])) wz).1;obtain⟨xU,xV,xW,xX,xY,xZ⟩:=aB (h5.ks (aC.length,.box (.agg [.ptr b0 0])) wz).1;obtain⟨u5,v5,w5⟩:=bH j5
 first|refine Wp.seq ?_|skip
 apply Wp.dE;refine bF (A20 hghD e5 wP wQ wR wS wU wV wW wX wY wZ xA xB xC xD xE xF xG (A20 xH xI xJ xK xL xM xN xO xP xQ xR xS xT xU xV xW xX xY xZ (A3 u5 @v5 w5))) ?_;apply SQ.nil;refine aD vn ?_;obtain⟨mm,hmm⟩:=gn (σ1.length);simp only[hmm]at h5 ⊢;obtain⟨XM,hXM⟩:=gn (nI [107,101,121,115] (kU ns) l n5);refine Wp.eV (λm fr σ=>∃(ac:List kJ) (z nn:Nat) (tok:Tok) (σ1:List U),∃gg:Nat->PD,(nn+m=l.length/\l8 [107,101,121,115] (kU ns) l XM ac nn/\(ac=[]\/z=3)/\fD aC σ1 tok 129 3 ac.length/\eQ aC (.ptr b0 0) l σ1 nn [(mm,.box (.agg [.str nm,.int .i64 f1,.int .i64 f2,.slice z (ac.map Em.cD.aA) tok])),(aC.length+1,.box (.agg [.str [],.int .i64 0,.int .i64 0,.slice 0 [] .full])),(aC.length,.box (.agg [.ptr b0 0]))])/\fr=[gg 0,s,.ptr aC.length 0,gg 3,.ptr (aC.length+1) 0,.ptr mm 0,gg 6,gg 7,gg 8,gg 9,gg 10,gg 11,gg 12,gg 13,gg 14,gg 15,gg 16,gg 17,gg 18,gg 19,gg 20,gg 21,gg 22,gg 23,gg 24,gg 25,gg 26,gg 27,gg 28,gg 29,gg 30,gg 31,gg 32,gg 33,gg 34,gg 35,gg 36,gg 37,gg 38,gg 39,gg 40,gg 41,gg 42,gg 43,gg 44,gg 45,gg 46,gg 47,gg 48,gg 49,gg 50,gg 51]/\σ=σ1) ?_ (l.length-n5) zb
 rintro m fr σ ⟨ac,z,nn,tok,σ1,gg,hI,rfl,rfl⟩
 obtain⟨hm,hMa,hz,hrow,hB⟩:=hI;have hal:=hMa.1;obtain⟨qI,qJ,qK,qL,qM,qN⟩:=aB (hB.ks (mm,.box (.agg [.str nm,.int .i64 f1,.int .i64 f2,.slice z (ac.map Em.cD.aA) tok])) wz).1;obtain⟨qO,qP,qQ,qR,qS,qT⟩:=aB (hB.ks ((aC.length+1),.box (.agg [.str [],.int .i64 0,.int .i64 0,.slice 0 [] .full])) wz).1;obtain⟨sA,sB,sC,sD,sE,sF⟩:=aB (hB.ks (aC.length,.box (.agg [.ptr b0 0])) wz).1;obtain⟨u2,v2,w2⟩:=bH σ;obtain⟨x5,lK,YI,M8,YJ⟩:=hW [.ptr b0 0,.str [107,101,121,115]] _ (.ptr b0 0) _ l nn ⟨_,rfl,rfl⟩ (hB.ne hs) hB.rd hB.le hl;have bB:=hB.call YI (oX _ hB.le) M8 YJ;have hrow:=hrow.call hB M8;cases c2:(bK (isWord 1 [107,101,121,115]) l nn).1.2
 rotate_left
 .skip
  obtain⟨t2,_,_,e2⟩:=IF c2;rw[e2]at lK bB;simp only[fW]at lK bB;obtain⟨DJ,DK,DL,DM,DN,DO⟩:=aB (bB.ks (mm,.box (.agg [.str nm,.int .i64 f1,.int .i64 f2,.slice z (ac.map Em.cD.aA) tok])) wz).1;obtain⟨DP,DR,DS,DT,DU,DV⟩:=aB (bB.ks ((aC.length+1),.box (.agg [.str [],.int .i64 0,.int .i64 0,.slice 0 [] .full])) wz).1;obtain⟨DW,DX,DY,DZ,D0,D1⟩:=aB (bB.ks (aC.length,.box (.agg [.ptr b0 0])) wz).1;obtain⟨x8,x9,yE⟩:=bH x5;refine aD (A20 hgW lK qI qJ qK qL qM qN qO qP qQ qR qS qT sA sB sC sD sE (A20 sF u2 @v2 w2 DJ DK DL DM DN DO DP DR DS DT DU DV DW DX DY (A6 DZ D0 D1 x8 x9 yE))) ?_;obtain⟨sG,sH,sI,sJ,sK,sL⟩:=aB (bB.ks (mm,.box (.agg [.str nm,.int .i64 f1,.int .i64 f2,.slice z (ac.map Em.cD.aA) tok])) wz).1;obtain⟨sM,sN,sO,sP,sQ,sR⟩:=aB (bB.ks ((aC.length+1),.box (.agg [.str [],.int .i64 0,.int .i64 0,.slice 0 [] .full])) wz).1;obtain⟨sS,sT,sU,sV,sW,sX⟩:=aB (bB.ks (aC.length,.box (.agg [.ptr b0 0])) wz).1;rcases hM [.agg [.ptr b0 0]] _ (.ptr b0 0) _ l (nn+1) rfl (bB.ne hs) bB.rd bB.le hl with⟨p9,n9,mQ,f9,e9,r9,k9,q9⟩ | ⟨e,mQ,f9,e9,w9,k9,q9⟩
  rotate_left
  .have hEb:kU ns l (nn+1)=.error e:=by simp[kU,aQ,eD f9]
   have hEm:=hMa.er hB.le e2 hEb;have hE:fJ ns l n=.error e:=yd;have hpost:=bB.eI (dec:=lV) (args:=[.agg [.ptr b0 0],s]) hs hdd hr (eJ hE) k9 q9
   first|refine WL.aZ 1 xe xe ?_|refine WL.dP 1 xe xe ?_
   refine jJ vg ?_;exact ur
  obtain⟨a,g9,rfl⟩:=eE f9;have h9:=bB.call r9 ((aP.num) _ _ _ _ bB.le g9).2 k9 q9
  try simp only[yAa,yAD,yAK,yAL]at q9
  obtain⟨yF,yG,yH,yI,yJ,yK⟩:=aB (h9.ks (mm,.box (.agg [.str nm,.int .i64 f1,.int .i64 f2,.slice z (ac.map Em.cD.aA) tok])) wz).1;obtain⟨yL,yM,yN,yO,yP,yQ⟩:=aB (h9.ks ((aC.length+1),.box (.agg [.str [],.int .i64 0,.int .i64 0,.slice 0 [] .full])) wz).1;obtain⟨yR,yS,yT,yU,yV,yW⟩:=aB (h9.ks (aC.length,.box (.agg [.ptr b0 0])) wz).1;obtain⟨u9,v9,w9⟩:=bH mQ
  first|refine Wp.seq ?_|skip
  apply Wp.dE;refine bF wq ?_;apply SQ.nil;have H9:=h9.box (.box (.agg [.int .i64 a,.int .i64 0,.slice 0 [] .full]));have hrow:=hrow.call bB k9;have hrow:=hrow.more (τ:=[.box (.agg [.int .i64 a,.int .i64 0,.slice 0 [] .full])]);refine aD vh ?_;obtain⟨yX,yY,yZ,y0,y7,y8⟩:=aB (H9.ks (mQ.length,.box (.agg [.int .i64 a,.int .i64 0,.slice 0 [] .full])) wz).1;obtain⟨y9,zA,zB,zC,zD,zE⟩:=aB (H9.ks (mm,.box (.agg [.str nm,.int .i64 f1,.int .i64 f2,.slice z (ac.map Em.cD.aA) tok])) wz).1;obtain⟨zF,zG,zH,zI,zJ,zK⟩:=aB (H9.ks ((aC.length+1),.box (.agg [.str [],.int .i64 0,.int .i64 0,.slice 0 [] .full])) wz).1;obtain⟨aBF,aBG,aBH,aBI,aBJ,aBK⟩:=aB (H9.ks (aC.length,.box (.agg [.ptr b0 0])) wz).1;rcases hM [.agg [.ptr b0 0]] _ (.ptr b0 0) _ l n9 rfl (H9.ne hs) H9.rd H9.le hl with⟨p11,QI,HH,f11,tF,QJ,rB,nL⟩ | ⟨e,HH,f11,tF,nM,rB,nL⟩
  rotate_left
  .have hEb:kU ns l (nn+1)=.error e:=by simp[kU,aQ,g9,eD f11]
   have hEm:=hMa.er hB.le e2 hEb;have hE:fJ ns l n=.error e:=yd;have hpost:=H9.eI (dec:=lV) (args:=[.agg [.ptr b0 0],s]) hs hdd hr (eJ hE) rB nL
   first|refine WL.aZ 1 xe xe ?_|refine WL.dP 1 xe xe ?_
   refine jJ (A20 yX yY yZ y0 y7 y8 y9 zA zB zC zD zE zF zG zH zI zJ zK aBF (A5 aBG aBH aBI aBJ aBK)) ?_;apply SQ.nil;refine cT.call (.i xe) xe xe hghM hqhM tF nM ?_;exact af
  obtain⟨b,g11,rfl⟩:=eE f11;have h11:=H9.call QJ ((aP.num) _ _ _ _ H9.le g11).2 rB nL
  try simp only[yAa,yAD,yAK,yAL]at nL
  obtain⟨zL,zM,zN,zO,zP,zQ⟩:=aB (h11.ks (mQ.length,.box (.agg [.int .i64 a,.int .i64 0,.slice 0 [] .full])) wz).1;obtain⟨zR,zS,zT,zU,zV,zW⟩:=aB (h11.ks (mm,.box (.agg [.str nm,.int .i64 f1,.int .i64 f2,.slice z (ac.map Em.cD.aA) tok])) wz).1;obtain⟨zX,zY,zZ,z7,z8,AA⟩:=aB (h11.ks ((aC.length+1),.box (.agg [.str [],.int .i64 0,.int .i64 0,.slice 0 [] .full])) wz).1;obtain⟨aBL,aBM,aBN,aBO,aBP,aBQ⟩:=aB (h11.ks (aC.length,.box (.agg [.ptr b0 0])) wz).1;obtain⟨HI,v11,nM⟩:=bH HH
  first|refine Wp.seq ?_|skip
  apply Wp.dE;refine bF (A20 hghM tF yX yY yZ y0 y7 y8 y9 zA zB zC zD zE zF zG zH zI zJ (A20 zK aBF aBG aBH aBI aBJ aBK zL zM zN zO zP zQ zR zS zT zU zV zW (A15 zX zY zZ z7 z8 AA aBL aBM aBN aBO aBP aBQ HI @v11 nM))) ?_;apply SQ.nil;have gN:=h11.set (i:=mQ.length) (o0:=.box (.agg [.int .i64 a,.int .i64 0,.slice 0 [] .full])) (o:=.box (.agg [.int .i64 a,.int .i64 b,.slice 0 [] .full])) [] [(mm,.box (.agg [.str nm,.int .i64 f1,.int .i64 f2,.slice z (ac.map Em.cD.aA) tok])),((aC.length+1),.box (.agg [.str [],.int .i64 0,.int .i64 0,.slice 0 [] .full])),(aC.length,.box (.agg [.ptr b0 0]))] rfl xk;have hrow:=hrow.call H9 rB;have hrow:=hrow.set (i:=mQ.length) (o:=.box (.agg [.int .i64 a,.int .i64 b,.slice 0 [] .full])) h11 xm;refine aD (A20 zL zM zN zO zP zQ zR zS zT zU zV zW zX zY zZ z7 z8 AA aBL (A8 aBM aBN aBO aBP aBQ HI @v11 nM)) ?_;obtain⟨AB,AD,AE,AF,AG,AH⟩:=aB (gN.ks (mQ.length,.box (.agg [.int .i64 a,.int .i64 b,.slice 0 [] .full])) wz).1;obtain⟨tY,tZ,uA,uB,uC,uD⟩:=aB (gN.ks (mm,.box (.agg [.str nm,.int .i64 f1,.int .i64 f2,.slice z (ac.map Em.cD.aA) tok])) wz).1;obtain⟨AI,AJ,AK,AL,AM,AO⟩:=aB (gN.ks ((aC.length+1),.box (.agg [.str [],.int .i64 0,.int .i64 0,.slice 0 [] .full])) wz).1;obtain⟨aBR,aBS,aBT,aBU,aBV,aBW⟩:=aB (gN.ks (aC.length,.box (.agg [.ptr b0 0])) wz).1;rcases hD [.agg [.ptr b0 0]] _ (.ptr b0 0) _ l QI rfl (gN.ne hs) gN.rd gN.le hl with⟨p13,pB,vH,f13,tG,QK,rC,nN⟩ | ⟨e,vH,f13,tG,nO,rC,nN⟩
  rotate_left
  .have hEb:kU ns l (nn+1)=.error e:=by simp[kU,aQ,g9,g11,eD f13]
   have hEm:=hMa.er hB.le e2 hEb;have hE:fJ ns l n=.error e:=yd;have hpost:=gN.eI (dec:=lV) (args:=[.agg [.ptr b0 0],s]) hs hdd hr (eJ hE) rC nN
   first|refine WL.aZ 1 xe xe ?_|refine WL.dP 1 xe xe ?_
   refine jJ (A20 AB AD AE AF AG AH tY tZ uA uB uC uD AI AJ AK AL AM AO aBR (A5 aBS aBT aBU aBV aBW)) ?_;exact uu
  obtain⟨u2,g13,rfl⟩:=eE f13;have jT:=gN.call QK ((aP.eY) _ _ _ _ gN.le g13).2 rC nN
  try simp only[yAa,yAD,yAK,yAL]at nN
  obtain⟨uF,uG,uH,uI,uJ,uK⟩:=aB (jT.ks (mQ.length,.box (.agg [.int .i64 a,.int .i64 b,.slice 0 [] .full])) wz).1;obtain⟨sY,sZ,s5,s6,s7,s8⟩:=aB (jT.ks (mm,.box (.agg [.str nm,.int .i64 f1,.int .i64 f2,.slice z (ac.map Em.cD.aA) tok])) wz).1;obtain⟨uL,uM,uN,uO,uP,uQ⟩:=aB (jT.ks ((aC.length+1),.box (.agg [.str [],.int .i64 0,.int .i64 0,.slice 0 [] .full])) wz).1;obtain⟨YN,YO,YP,YQ,YR,YS⟩:=aB (jT.ks (aC.length,.box (.agg [.ptr b0 0])) wz).1;obtain⟨HJ,HK,nO⟩:=bH vH
  first|refine Wp.seq ?_|skip
  apply Wp.dE;refine bF (A20 hghD tG AB AD AE AF AG AH tY tZ uA uB uC uD AI AJ AK AL AM (A20 AO aBR aBS aBT aBU aBV aBW uF uG uH uI uJ uK sY sZ s5 s6 s7 s8 (A15 uL uM uN uO uP uQ YN YO YP YQ YR YS HJ HK nO))) ?_;apply SQ.nil;have hrow:=hrow.call gN rC;refine aD (A20 uF uG uH uI uJ uK sY sZ s5 s6 s7 s8 uL uM uN uO uP uQ YN (A8 YO YP YQ YR YS HJ HK nO)) ?_;obtain⟨sg,hsg⟩:=gn (mQ.length);simp only[hsg]at jT hrow ⊢;obtain⟨XN,hXN⟩:=gn (nI [100,114,97,119] (dW ns) l pB);refine Wp.eV (λm fr σ=>∃(ad:List fV) (z2 n2:Nat) (dU:Tok) (σ1:List U),∃gg:Nat->PD,(n2+m=l.length/\l8 [100,114,97,119] (dW ns) l XN ad n2/\(ad=[]\/z2=2)/\fD aC σ1 dU 131 2 ad.length/\fD aC σ1 tok 129 3 ac.length/\(∀id,tok=.own id->dU≠.own id)/\eQ aC (.ptr b0 0) l σ1 n2 [(sg,.box (.agg [.int .i64 a,.int .i64 b,.slice z2 (ad.map Em.draw.aA) dU])),(mm,.box (.agg [.str nm,.int .i64 f1,.int .i64 f2,.slice z (ac.map Em.cD.aA) tok])),(aC.length+1,.box (.agg [.str [],.int .i64 0,.int .i64 0,.slice 0 [] .full])),(aC.length,.box (.agg [.ptr b0 0]))])/\fr=[gg 0,s,.ptr aC.length 0,gg 3,.ptr (aC.length+1) 0,.ptr mm 0,.ptr sg 0,gg 7,gg 8,gg 9,gg 10,gg 11,gg 12,gg 13,gg 14,gg 15,gg 16,gg 17,gg 18,gg 19,gg 20,gg 21,gg 22,gg 23,gg 24,gg 25,gg 26,gg 27,gg 28,gg 29,gg 30,gg 31,gg 32,gg 33,gg 34,gg 35,gg 36,gg 37,gg 38,gg 39,gg 40,gg 41,gg 42,gg 43,gg 44,gg 45,gg 46,gg 47,gg 48,gg 49,gg 50,gg 51]/\σ=σ1) ?_ (l.length-pB) (by refine⟨[],0,pB,.full,vH,?_⟩;exact cG (⟨by have:=jT.le;omega,hXN▸l8.start,.inl rfl,.nil,hrow,(λ_ _ e=>xx),jT⟩))
  rintro m fr σ ⟨ad,z2,n2,dU,σ1,gg,hI,rfl,rfl⟩
  obtain⟨hm2,hMb,fU,eH,hrow,hnd,hC⟩:=hI;have hbl:=hMb.1;obtain⟨qU,qV,qW,qY,qZ,rA⟩:=aB (hC.ks (sg,.box (.agg [.int .i64 a,.int .i64 b,.slice z2 (ad.map Em.draw.aA) dU])) wz).1;obtain⟨AQ,AR,AS,AT,AU,AV⟩:=aB (hC.ks (mm,.box (.agg [.str nm,.int .i64 f1,.int .i64 f2,.slice z (ac.map Em.cD.aA) tok])) wz).1;obtain⟨AW,AX,AY,AZ,A0,A1⟩:=aB (hC.ks ((aC.length+1),.box (.agg [.str [],.int .i64 0,.int .i64 0,.slice 0 [] .full])) wz).1;obtain⟨aBX,aBY,aBZ,aB0,aB1,aB2⟩:=aB (hC.ks (aC.length,.box (.agg [.ptr b0 0])) wz).1;obtain⟨u3,v3,w3⟩:=bH σ;obtain⟨kY,AP,r3k,PQ,q3k⟩:=hW [.ptr b0 0,.str [100,114,97,119]] _ (.ptr b0 0) _ l n2 ⟨_,rfl,rfl⟩ (hC.ne hs) hC.rd hC.le hl;have cU:=hC.call r3k (oX _ hC.le) PQ q3k;have hrow:=hrow.call hC PQ;have eH:=eH.call hC PQ;cases c3:(bK (isWord 1 [100,114,97,119]) l n2).1.2
  rotate_left
  .skip
   obtain⟨t3,_,_,e3⟩:=IF c3;rw[e3]at AP cU;simp only[fW]at AP cU;obtain⟨BA,BC,BD,BE,BF,BG⟩:=aB (cU.ks (sg,.box (.agg [.int .i64 a,.int .i64 b,.slice z2 (ad.map Em.draw.aA) dU])) wz).1;obtain⟨BH,BI,BJ,BK,BL,BM⟩:=aB (cU.ks (mm,.box (.agg [.str nm,.int .i64 f1,.int .i64 f2,.slice z (ac.map Em.cD.aA) tok])) wz).1;obtain⟨BN,BO,BP,BQ,BR,BS⟩:=aB (cU.ks ((aC.length+1),.box (.agg [.str [],.int .i64 0,.int .i64 0,.slice 0 [] .full])) wz).1;obtain⟨LA,LB,LC,LD,LF,LG⟩:=aB (cU.ks (aC.length,.box (.agg [.ptr b0 0])) wz).1;obtain⟨PR,PS,PT⟩:=bH kY;refine aD (A20 hgW AP qU qV qW qY qZ rA AQ AR AS AT AU AV AW AX AY AZ A0 (A20 A1 aBX aBY aBZ aB0 aB1 aB2 u3 @v3 w3 BA BC BD BE BF BG BH BI BJ (A18 BK BL BM BN BO BP BQ BR BS LA LB LC LD LF LG PR PS PT))) ?_;obtain⟨s9,tA,tB,tC,tD,tE⟩:=aB (cU.ks (sg,.box (.agg [.int .i64 a,.int .i64 b,.slice z2 (ad.map Em.draw.aA) dU])) wz).1;obtain⟨uR,uS,uT,uU,uV,uW⟩:=aB (cU.ks (mm,.box (.agg [.str nm,.int .i64 f1,.int .i64 f2,.slice z (ac.map Em.cD.aA) tok])) wz).1;obtain⟨uX,uY,uZ,u0,u6,vA⟩:=aB (cU.ks ((aC.length+1),.box (.agg [.str [],.int .i64 0,.int .i64 0,.slice 0 [] .full])) wz).1;obtain⟨NB,NC,ND,NF,NG,NH⟩:=aB (cU.ks (aC.length,.box (.agg [.ptr b0 0])) wz).1;rcases hX [.agg [.ptr b0 0],s] _ (.ptr b0 0) _ l (n2+1) hix (cU.ne hs) cU.rd cU.le hl with⟨p17,n17,EK,f17,e17,r17,ZW,q17⟩ | ⟨e,EK,f17,e17,w17,ZW,q17⟩
   rotate_left
   .have hEb:dW ns l (n2+1)=.error e:=by simp[dW,aQ,eD f17]
    have hEm:=hMb.er hC.le e3 hEb;have hEb:kU ns l (nn+1)=.error e:=Au;have hEm:=hMa.er hB.le e2 hEb;have hE:fJ ns l n=.error e:=yd;have hpost:=cU.eI (dec:=lV) (args:=[.agg [.ptr b0 0],s]) hs hdd hr (eJ hE) ZW q17
    first|refine WL.aZ 2 xe xe ?_|refine WL.dP 2 xe xe ?_
    refine jJ (A20 s9 tA tB tC tD tE uR uS uT uU uV uW uX uY uZ u0 u6 vA NB (A5 NC ND NF NG NH)) ?_;apply SQ.nil;refine cT.call (.i xe) xe xe hghX hqhX e17 w17 ?_;exact af
   obtain⟨i,g17,rfl⟩:=eE f17;have ZX:=cU.call r17 ((aP.index) _ _ _ _ cU.le g17).2 ZW q17
   try simp only[yAa,yAD,yAK,yAL]at q17
   obtain⟨IU,IV,IW,IX,IY,IZ⟩:=aB (ZX.ks (sg,.box (.agg [.int .i64 a,.int .i64 b,.slice z2 (ad.map Em.draw.aA) dU])) wz).1;obtain⟨I0,I1,I2,I3,I4,I5⟩:=aB (ZX.ks (mm,.box (.agg [.str nm,.int .i64 f1,.int .i64 f2,.slice z (ac.map Em.cD.aA) tok])) wz).1;obtain⟨I6,I7,I8,I9,JA,JB⟩:=aB (ZX.ks ((aC.length+1),.box (.agg [.str [],.int .i64 0,.int .i64 0,.slice 0 [] .full])) wz).1;obtain⟨TP,TQ,TR,TS,TT,TU⟩:=aB (ZX.ks (aC.length,.box (.agg [.ptr b0 0])) wz).1;obtain⟨u17,v17,w17⟩:=bH EK
   first|refine Wp.seq ?_|skip
   apply Wp.dE;refine jJ (A20 hghX e17 s9 tA tB tC tD tE uR uS uT uU uV uW uX uY uZ u0 u6 (A20 vA NB NC ND NF NG NH IU IV IW IX IY IZ I0 I1 I2 I3 I4 I5 (A15 I6 I7 I8 I9 JA JB TP TQ TR TS TT TU u17 v17 w17))) ?_;apply SQ.nil;have CD:=ZX.box (.box (.agg [.int .i64 i,.int .i64 0]));have hrow:=hrow.call cU ZW;have eH:=eH.call cU ZW;have hrow:=hrow.more (τ:=[.box (.agg [.int .i64 i,.int .i64 0])]);have eH:=eH.more (τ:=[.box (.agg [.int .i64 i,.int .i64 0])]);refine aD (A20 IU IV IW IX IY IZ I0 I1 I2 I3 I4 I5 I6 I7 I8 I9 JA JB TP (A8 TQ TR TS TT TU u17 v17 w17)) ?_;obtain⟨F2,F3,F4,F5,F6,F7⟩:=aB (CD.ks (EK.length,.box (.agg [.int .i64 i,.int .i64 0])) wz).1;obtain⟨F8,F9,GA,GB,GC,GD⟩:=aB (CD.ks (sg,.box (.agg [.int .i64 a,.int .i64 b,.slice z2 (ad.map Em.draw.aA) dU])) wz).1;obtain⟨GF,GG,GH,GI,GJ,GK⟩:=aB (CD.ks (mm,.box (.agg [.str nm,.int .i64 f1,.int .i64 f2,.slice z (ac.map Em.cD.aA) tok])) wz).1;obtain⟨aB5,aB6,aB7,aB8,aB9,aCa⟩:=aB (CD.ks ((aC.length+1),.box (.agg [.str [],.int .i64 0,.int .i64 0,.slice 0 [] .full])) wz).1;obtain⟨aCb,aCc,aCd,aCe,aCf,aCg⟩:=aB (CD.ks (aC.length,.box (.agg [.ptr b0 0])) wz).1;rcases hM [.agg [.ptr b0 0]] _ (.ptr b0 0) _ l n17 rfl (CD.ne hs) CD.rd CD.le hl with⟨p19,n19,ZY,f19,QL,r19,LI,LJ⟩ | ⟨e,ZY,f19,QL,JQ,LI,LJ⟩
   rotate_left
   .have hEb:dW ns l (n2+1)=.error e:=by simp[dW,aQ,g17,eD f19]
    have hEm:=hMb.er hC.le e3 hEb;have hEb:kU ns l (nn+1)=.error e:=Au;have hEm:=hMa.er hB.le e2 hEb;have hE:fJ ns l n=.error e:=yd;have hpost:=CD.eI (dec:=lV) (args:=[.agg [.ptr b0 0],s]) hs hdd hr (eJ hE) LI LJ
    first|refine WL.aZ 1 xe xe ?_|refine WL.dP 1 xe xe ?_
    refine jJ (A20 F2 F3 F4 F5 F6 F7 F8 F9 GA GB GC GD GF GG GH GI GJ GK aB5 (A11 aB6 aB7 aB8 aB9 aCa aCb aCc aCd aCe aCf aCg)) ?_;apply SQ.nil;refine cT.call (.i xe) xe xe hghM hqhM QL JQ ?_;exact af
   obtain⟨sh,g19,rfl⟩:=eE f19;have h19:=CD.call r19 ((aP.num) _ _ _ _ CD.le g19).2 LI LJ
   try simp only[yAa,yAD,yAK,yAL]at LJ
   obtain⟨BT,BU,BV,BW,BX,BY⟩:=aB (h19.ks (EK.length,.box (.agg [.int .i64 i,.int .i64 0])) wz).1;obtain⟨D2,D3,D4,D5,D6,D7⟩:=aB (h19.ks (sg,.box (.agg [.int .i64 a,.int .i64 b,.slice z2 (ad.map Em.draw.aA) dU])) wz).1;obtain⟨D8,D9,EA,EB,EC,ED⟩:=aB (h19.ks (mm,.box (.agg [.str nm,.int .i64 f1,.int .i64 f2,.slice z (ac.map Em.cD.aA) tok])) wz).1;obtain⟨TV,TW,TX,TY,TZ,T1⟩:=aB (h19.ks ((aC.length+1),.box (.agg [.str [],.int .i64 0,.int .i64 0,.slice 0 [] .full])) wz).1;obtain⟨aCh,aCi,aCj,aCk,aCl,aCm⟩:=aB (h19.ks (aC.length,.box (.agg [.ptr b0 0])) wz).1;obtain⟨U2,U3,JQ⟩:=bH ZY
   first|refine Wp.seq ?_|skip
   apply Wp.dE;refine jJ (A20 hghM QL F2 F3 F4 F5 F6 F7 F8 F9 GA GB GC GD GF GG GH GI GJ (A20 GK aB5 aB6 aB7 aB8 aB9 aCa aCb aCc aCd aCe aCf aCg BT BU BV BW BX BY (A20 D2 D3 D4 D5 D6 D7 D8 D9 EA EB EC ED TV TW TX TY TZ T1 aCh (A8 aCi aCj aCk aCl aCm U2 U3 JQ)))) ?_;apply SQ.nil;have CE:=h19.set (i:=EK.length) (o0:=.box (.agg [.int .i64 i,.int .i64 0])) (o:=.box (.agg [.int .i64 i,.int .i64 sh])) [] [(sg,.box (.agg [.int .i64 a,.int .i64 b,.slice z2 (ad.map Em.draw.aA) dU])),(mm,.box (.agg [.str nm,.int .i64 f1,.int .i64 f2,.slice z (ac.map Em.cD.aA) tok])),((aC.length+1),.box (.agg [.str [],.int .i64 0,.int .i64 0,.slice 0 [] .full])),(aC.length,.box (.agg [.ptr b0 0]))] rfl xk;have hrow:=hrow.call CD LI;have eH:=eH.call CD LI;have hrow:=hrow.set (i:=EK.length) (o:=.box (.agg [.int .i64 i,.int .i64 sh])) h19 xm;have eH:=eH.set (i:=EK.length) (o:=.box (.agg [.int .i64 i,.int .i64 sh])) h19 xm;refine aD (A20 BT BU BV BW BX BY D2 D3 D4 D5 D6 D7 D8 D9 EA EB EC ED TV (A14 TW TX TY TZ T1 aCh aCi aCj aCk aCl aCm U2 U3 JQ)) ?_;obtain⟨GL,GM,GN,GO,GP,GQ⟩:=aB (CE.ks (EK.length,.box (.agg [.int .i64 i,.int .i64 sh])) wz).1;obtain⟨GR,GS,GU,GV,GW,GX⟩:=aB (CE.ks (sg,.box (.agg [.int .i64 a,.int .i64 b,.slice z2 (ad.map Em.draw.aA) dU])) wz).1;obtain⟨JC,JD,JE,JF,JG,JH⟩:=aB (CE.ks (mm,.box (.agg [.str nm,.int .i64 f1,.int .i64 f2,.slice z (ac.map Em.cD.aA) tok])) wz).1;obtain⟨P3,P4,P5,P6,P7,P8⟩:=aB (CE.ks ((aC.length+1),.box (.agg [.str [],.int .i64 0,.int .i64 0,.slice 0 [] .full])) wz).1;obtain⟨aNr,aNs,aNt,aNu,aNv,aNw⟩:=aB (CE.ks (aC.length,.box (.agg [.ptr b0 0])) wz).1;rcases hD [.agg [.ptr b0 0]] _ (.ptr b0 0) _ l n19 rfl (CE.ne hs) CE.rd CE.le hl with⟨p21,ZZ,Z0,f21,QM,r21,LK,LL⟩ | ⟨e,Z0,f21,QM,JR,LK,LL⟩
   rotate_left
   .have hEb:dW ns l (n2+1)=.error e:=by simp[dW,aQ,g17,g19,eD f21]
    have hEm:=hMb.er hC.le e3 hEb;have hEb:kU ns l (nn+1)=.error e:=Au;have hEm:=hMa.er hB.le e2 hEb;have hE:fJ ns l n=.error e:=yd;have hpost:=CE.eI (dec:=lV) (args:=[.agg [.ptr b0 0],s]) hs hdd hr (eJ hE) LK LL
    first|refine WL.aZ 1 xe xe ?_|refine WL.dP 1 xe xe ?_
    refine jJ (A20 GL GM GN GO GP GQ GR GS GU GV GW GX JC JD JE JF JG JH P3 (A11 P4 P5 P6 P7 P8 aNr aNs aNt aNu aNv aNw)) ?_;exact uv
   obtain⟨u3,g21,rfl⟩:=eE f21;have vI:=CE.call r21 ((aP.eY) _ _ _ _ CE.le g21).2 LK LL
   try simp only[yAa,yAD,yAK,yAL]at LL
   obtain⟨B0,B1,B2,B3,B4,B5⟩:=aB (vI.ks (EK.length,.box (.agg [.int .i64 i,.int .i64 sh])) wz).1;obtain⟨vB,vC,vD,vE,vF,vG⟩:=aB (vI.ks (sg,.box (.agg [.int .i64 a,.int .i64 b,.slice z2 (ad.map Em.draw.aA) dU])) wz).1;obtain⟨B6,B7,B8,B9,CA,CB⟩:=aB (vI.ks (mm,.box (.agg [.str nm,.int .i64 f1,.int .i64 f2,.slice z (ac.map Em.cD.aA) tok])) wz).1;obtain⟨JI,JK,JL,JM,JN,JO⟩:=aB (vI.ks ((aC.length+1),.box (.agg [.str [],.int .i64 0,.int .i64 0,.slice 0 [] .full])) wz).1;obtain⟨aNx,aNy,aNz,aNA,aNB,aNC⟩:=aB (vI.ks (aC.length,.box (.agg [.ptr b0 0])) wz).1;obtain⟨U4,v21,JR⟩:=bH Z0
   first|refine Wp.seq ?_|skip
   apply Wp.dE;refine jJ (A20 hghD QM GL GM GN GO GP GQ GR GS GU GV GW GX JC JD JE JF JG (A20 JH P3 P4 P5 P6 P7 P8 aNr aNs aNt aNu aNv aNw B0 B1 B2 B3 B4 B5 (A20 vB vC vD vE vF vG B6 B7 B8 B9 CA CB JI JK JL JM JN JO aNx (A8 aNy aNz aNA aNB aNC U4 @v21 JR)))) ?_;apply SQ.nil;have hrow:=hrow.call CE LK;have eH:=eH.call CE LK;have hbd:dW ns l (n2+1)=.ok (⟨i,sh⟩,ZZ):=by simp[dW,aQ,dT,g17,g19,g21]
   obtain⟨aFY,hlt,hle⟩:=hMb.ok hC.le aP.draw e3 hbd;rw[show ad.length=(ad.map Em.draw.aA).length by simp]at eH;obtain⟨tokP,YL,hap,hrowP,hP,hkeep⟩:=eH.push (P:=prog) (t:=127) (b:=16) (s:=z2) (xs:=ad.map Em.draw.aA) (p:=.agg [.int .i64 i,.int .i64 sh]) (tk:=.any) vI wz wz underlying127 xg (fU.imp (λh=>ya) id) (by rw[yAe];have:=vI.le;omega) (by rw[yAe];have:=vI.le;omega);simp only[yAe]at hrowP;obtain⟨hrow,aZo⟩:=hkeep tok _ _ _ (λid e1 e2=>hnd id e1 e2) hrow;obtain⟨aF0,aF1,aF2,aF3,aF4,aF5⟩:=aB (hP.ks (EK.length,.box (.agg [.int .i64 i,.int .i64 sh])) wz).1;obtain⟨aF6,aF7,aF8,aF9,aGa,aGb⟩:=aB (hP.ks (sg,.box (.agg [.int .i64 a,.int .i64 b,.slice z2 (ad.map Em.draw.aA) dU])) wz).1;obtain⟨aGc,aGd,aGe,aGf,aGg,aGh⟩:=aB (hP.ks (mm,.box (.agg [.str nm,.int .i64 f1,.int .i64 f2,.slice z (ac.map Em.cD.aA) tok])) wz).1;obtain⟨aGi,aGj,aGk,aGl,aGm,aGn⟩:=aB (hP.ks ((aC.length+1),.box (.agg [.str [],.int .i64 0,.int .i64 0,.slice 0 [] .full])) wz).1;obtain⟨aZp,aZq,aZr,aZs,aZt,aZu⟩:=aB (hP.ks (aC.length,.box (.agg [.ptr b0 0])) wz).1;refine aD (A20 B0 B1 B2 B3 B4 B5 vB vC vD vE vF vG B6 B7 B8 B9 CA CB JI (A20 JK JL JM JN JO aNx aNy aNz aNA aNB aNC U4 @v21 JR aF0 aF1 aF2 aF3 aF4 (A20 aF5 aF6 aF7 aF8 aF9 aGa aGb aGc aGd aGe aGf aGg aGh aGi aGj aGk aGl aGm aGn (A7 aZp aZq aZr aZs aZt aZu hap)))) ?_;have hQ:=hP.set (i:=sg) (o:=.box (.agg [.int .i64 a,.int .i64 b,.slice 2 ((ad++[(⟨i,sh⟩:fV)]).map Em.draw.aA) tokP])) [(EK.length,.box (.agg [.int .i64 i,.int .i64 sh]))] [(mm,.box (.agg [.str nm,.int .i64 f1,.int .i64 f2,.slice z (ac.map Em.cD.aA) tok])),((aC.length+1),.box (.agg [.str [],.int .i64 0,.int .i64 0,.slice 0 [] .full])),(aC.length,.box (.agg [.ptr b0 0]))] rfl xk;have YT:eQ aC (.ptr b0 0) l _ _ _:=⟨hQ.rd,hQ.le,hQ.kp,hQ.len,λp hp=>hQ.ks p (yDG [(EK.length,.box (.agg [.int .i64 i,.int .i64 sh]))] hp),hQ.nr⟩;have F0:=hrowP.set (i:=sg) (o:=.box (.agg [.int .i64 a,.int .i64 b,.slice 2 ((ad++[(⟨i,sh⟩:fV)]).map Em.draw.aA) tokP])) hP xm;rw[show ad.length+1=(ad++[(⟨i,sh⟩:fV)]).length by simp]at F0;refine aM.normal (l.length-ZZ) xb ⟨ad++[(⟨i,sh⟩:fV)],2,ZZ,tokP,_,cG (⟨xb,aFY,.inr rfl,F0,hrow.set (i:=sg) hP xm,aZo,YT⟩)⟩
  have K7:=hMb.stop hC.le c3;have e3:=K6 c3;rw[e3]at AP cU;simp only[fW]at AP cU;obtain⟨EE,EF,EG,EH,EI,EJ⟩:=aB (cU.ks (sg,.box (.agg [.int .i64 a,.int .i64 b,.slice z2 (ad.map Em.draw.aA) dU])) wz).1;obtain⟨GZ,G0,G1,G2,G3,G4⟩:=aB (cU.ks (mm,.box (.agg [.str nm,.int .i64 f1,.int .i64 f2,.slice z (ac.map Em.cD.aA) tok])) wz).1;obtain⟨G5,G6,G7,G8,G9,HA⟩:=aB (cU.ks ((aC.length+1),.box (.agg [.str [],.int .i64 0,.int .i64 0,.slice 0 [] .full])) wz).1;obtain⟨HB,HC,HD,HE,HF,HG⟩:=aB (cU.ks (aC.length,.box (.agg [.ptr b0 0])) wz).1;obtain⟨PR,PS,PT⟩:=bH kY;obtain⟨Y2,P9⟩:=gn (PD.slice z2 (ad.map Em.draw.aA) dU);have NI:Y2.plain=true:=by rw[<-P9];rfl
  have GY:=NI;unfold PD.plain at GY;have aFZ:Y2.strip=nE.aA ad:=by
   rw[<-P9,PD.nQ,show(ad.map Em.draw.aA).map PD.strip=ad.map Em.draw.aA by rw[yBo];exact yAG λx _=>Em.draw.str x];rcases fU with h|h
   .rw[h];rfl
   .exact ck
  rw[P9]at cU qV qW qY qZ rA qU EF EG EH EI EJ EE;have hbd:kU ns l (nn+1)=.ok (⟨a,b,ad⟩,n2):=by simp[kU,aQ,dT,g9,g11,g13,hXN,K7]
  obtain⟨YM,hlt,hle⟩:=hMa.ok hB.le aP.cD e2 hbd;rw[show ac.length=(ac.map Em.cD.aA).length by simp]at hrow;obtain⟨tokP,YL,hap,hrowP,hP,hkeep⟩:=hrow.push (P:=prog) (t:=63) (b:=40) (s:=z) (xs:=ac.map Em.cD.aA) (p:=.agg [.int .i64 a,.int .i64 b,.slice (sz 2 ad) (ad.map Em.draw.aA) .any]) (tk:=.any) cU wz wz underlying63 xg (hz.imp (λh=>ya) id) Bb Bb;simp only[yAe]at hrowP;obtain⟨YW,YX,YY,YZ,Y0,Y5⟩:=aB (hP.ks (sg,.box (.agg [.int .i64 a,.int .i64 b,Y2])) wz).1;obtain⟨Y6,Y7,Y8,Y9,ZA,ZB⟩:=aB (hP.ks (mm,.box (.agg [.str nm,.int .i64 f1,.int .i64 f2,.slice z (ac.map Em.cD.aA) tok])) wz).1;obtain⟨ZC,ZD,ZE,ZF,ZG,ZH⟩:=aB (hP.ks ((aC.length+1),.box (.agg [.str [],.int .i64 0,.int .i64 0,.slice 0 [] .full])) wz).1;obtain⟨ZI,ZJ,ZK,ZL,ZM,ZN⟩:=aB (hP.ks (aC.length,.box (.agg [.ptr b0 0])) wz).1;refine aD (A20 hgW AP qU qV qW qY qZ rA AQ AR AS AT AU AV AW AX AY AZ A0 (A20 A1 aBX aBY aBZ aB0 aB1 aB2 u3 @v3 w3 EE EF EG EH EI EJ GZ G0 G1 (A20 G2 G3 G4 G5 G6 G7 G8 G9 HA HB HC HD HE HF HG PR PS PT YW (A20 YX YY YZ Y0 Y5 Y6 Y7 Y8 Y9 ZA ZB ZC ZD ZE ZF ZG ZH ZI ZJ (A8 ZK ZL ZM ZN NI GY aFZ hap))))) ?_;have hQ:=hP.set (i:=mm) (o:=.box (.agg [.str nm,.int .i64 f1,.int .i64 f2,.slice 3 ((ac++[(⟨a,b,ad⟩:kJ)]).map Em.cD.aA) tokP])) [(sg,.box (.agg [.int .i64 a,.int .i64 b,Y2]))] [((aC.length+1),.box (.agg [.str [],.int .i64 0,.int .i64 0,.slice 0 [] .full])),(aC.length,.box (.agg [.ptr b0 0]))] rfl xk;have YT:eQ aC (.ptr b0 0) l _ _ _:=⟨hQ.rd,hQ.le,hQ.kp,hQ.len,λp hp=>hQ.ks p (yDG [(sg,.box (.agg [.int .i64 a,.int .i64 b,Y2]))] hp),hQ.nr⟩;have F0:=hrowP.set (i:=mm) (o:=.box (.agg [.str nm,.int .i64 f1,.int .i64 f2,.slice 3 ((ac++[(⟨a,b,ad⟩:kJ)]).map Em.cD.aA) tokP])) hP xm;rw[show ac.length+1=(ac++[(⟨a,b,ad⟩:kJ)]).length by simp]at F0;refine aM.normal (l.length-n2) xb ⟨ac++[(⟨a,b,ad⟩:kJ)],3,n2,tokP,_,cG (⟨xb,YM,.inr rfl,F0,YT⟩)⟩
 have NA:=hMa.stop hB.le c2;have e2:=K6 c2;rw[e2]at lK bB;simp only[fW]at lK bB;obtain⟨QB,QC,QD,QE,QF,QG⟩:=aB (bB.ks (mm,.box (.agg [.str nm,.int .i64 f1,.int .i64 f2,.slice z (ac.map Em.cD.aA) tok])) wz).1;obtain⟨T2,T3,T4,T5,T6,T7⟩:=aB (bB.ks ((aC.length+1),.box (.agg [.str [],.int .i64 0,.int .i64 0,.slice 0 [] .full])) wz).1;obtain⟨T8,T9,UA,UB,UC,UD⟩:=aB (bB.ks (aC.length,.box (.agg [.ptr b0 0])) wz).1;obtain⟨x8,x9,yE⟩:=bH x5;obtain⟨Y,hY⟩:=gn (PD.slice z (ac.map Em.cD.aA) tok);have hYp:Y.plain=true:=by rw[<-hY];rfl
 have hYq:=hYp;unfold PD.plain at hYq;have hYs:Y.strip=aAL.aA ac:=by
  rw[<-hY,PD.nQ,show(ac.map Em.cD.aA).map PD.strip=ac.map Em.cD.aA by rw[yBo];exact yAG λx _=>Em.cD.str x];exact uk
 rw[hY]at bB QC QD QE QF QG QB qJ qK qL qM qN qI;have CC:=bB.set (i:=(aC.length+1)) (o0:=.box (.agg [.str [],.int .i64 0,.int .i64 0,.slice 0 [] .full])) (o:=.box (.agg [.str nm,.int .i64 f1,.int .i64 f2,Y])) [(mm,.box (.agg [.str nm,.int .i64 f1,.int .i64 f2,Y]))] [(aC.length,.box (.agg [.ptr b0 0]))] rfl xk;obtain⟨UE,UF,UG,UH,UI,UJ⟩:=aB (CC.ks (mm,.box (.agg [.str nm,.int .i64 f1,.int .i64 f2,Y])) wz).1;obtain⟨UK,UL,UM,UN,UO,UP⟩:=aB (CC.ks ((aC.length+1),.box (.agg [.str nm,.int .i64 f1,.int .i64 f2,Y])) wz).1;obtain⟨UQ,UR,US,UT,UU,UW⟩:=aB (CC.ks (aC.length,.box (.agg [.ptr b0 0])) wz).1;refine aD (A20 hgW lK qI qJ qK qL qM qN qO qP qQ qR qS qT sA sB sC sD sE (A20 sF u2 @v2 w2 QB QC QD QE QF QG T2 T3 T4 T5 T6 T7 T8 T9 UA (A20 UB UC UD x8 x9 yE hYp hYq UE UF UG UH UI UJ UK UL UM UN UO (A7 UP UQ UR US UT UU UW)))) ?_;have hfin:(PD.agg [.str nm,.int .i64 f1,.int .i64 f2,Y]).strip=Em.stop.aA ⟨nm,f1,f2,ac⟩:=by simp only[PD.strip,PD.kP,hYs,RX]
 have hP:fJ ns l n=.ok (⟨nm,f1,f2,ac⟩,nn):=by simp[fJ,aQ,dT,g1,g3,g5,hXM,NA]
 right
 simp[hgW,lK,qI,qJ,qK,qL,qM,qN,qO,qP,qQ,qR,qS,qT,sA,sB,sC,sD,sE,sF,u2,v2,w2,QB,QC,QD,QE,QF,QG,T2,T3,T4,T5,T6,T7,T8,T9,UA,UB,UC,UD,x8,x9,yE,hYp,hYq,UE,UF,UG,UH,UI,UJ,UK,UL,UM,UN,UO,UP,UQ,UR,US,UT,UU,UW];exact rj
end
section
section
variable{P:Program}{E:aE}{ops:Cb}
theorem aZd{f:FuncId}{x:PD}{v:Value}{τ:Bv}{g:Bq}{q:Nat->List PD->List U->Option (Value×List U)}(h1:E.ret f=some g)(h2:E.aZ f=some q)(hg:∀fl args σ,0<fl->g fl args σ=none) :
  ∀fl args σ,0<fl->N4 E 0 f x v τ fl args σ=none:=by
 intro fl args σ h;unfold N4;simp only[h1,hg _ _ _ h,h2];rw[yAI]
 rintro⟨e,_⟩
 omega
theorem aMz{f:FuncId}{x:PD}{v:Value}{τ σ:Bv}{args:Bw}{g:Bq}{q:Nat->List PD->List U->Option (Value×List U)}(h1:E.ret f=some g)(h2:E.aZ f=some q)(h3:g 0 args σ=none)(h4:q 0 args σ=some (v,τ)) :
  N4 E 0 f x v τ 0 args σ=some (x,σ):=by
 unfold N4;simp only[h1,h3,h2];rw[yAJ ⟨rfl,h4⟩]
theorem aFR{f:FuncId}{x:PD}{v:Value}{τ:Bv}:(E.HU 0 f x v τ).ret f=some (N4 E 0 f x v τ):=yAJ rfl
theorem aW0{f f':FuncId}{x:PD}{v:Value}{τ:Bv}(h:f'≠f):(E.HU 0 f x v τ).ret f'=E.ret f':=yAI h
theorem aFO{B:List Nat}{f:FuncId}{x:PD}{v:Value}{τ σ:Bv}{args:Bw}{g:Bq}{q:Nat->List PD->List U->Option (Value×List U)}(h1:E.ret f=some g)(h2:E.aZ f=some q)(h3:g 0 args σ=none)(h4:q 0 args σ=some (v,τ)) :
  DI (E.HU 0 f x v τ) B 0 (.inl f) args σ=some (x,σ):=
 aBE aFR (aMz h1 h2 h3 h4) (yAk _) (λ_ _ _=>rfl)
theorem aZe{n f:Nat}{g:Bq}{fr:Bw}{σ:Bv}{y:Bw×Bv}(hE:E.ret f=some g)(hg:∀fl args σ,0<fl->g fl args σ=none)(mV:σ≠[])(ρ:List (Nat×Nat))(B:List Nat)(L:List (Option Nat))
  (hs:(tO ops&&JP ops.toList&&QH ops&&U0 f ops)=true) (hbx:∀id∈B,∃b,σ[id]?=some (U.box b)) (hρ:bW.UY fr ρ) (hL:TK ops.toList (bW.of ρ)=L) (hB:tX B L) (h:dM P (DI E B) 0 ops ops.toList fr σ=some y) :
  pG P (bV P E n) 0 ops fr σ=some y:=by
 rw[yAr]at hs;refine aGH ρ B hs.1 hbx ?_ (bW.aCq ρ hρ) hL hB h;have h2:=hs.1;have h4:=hs.2;simp only[yAr,tO]at h2;obtain⟨⟨a1,a2⟩,_⟩:=h2;rw[nP]at a1;have hr:=JY a1;cases hd:mA P (bV P E n) 0 ops fr σ with
 |none=>rfl
 |some y=>
  exfalso
  unfold mA at hd;simp only[a1,yAM,UZ a2,yAl]at hd;rw[U0,nP]at h4;simp only[List.any_eq_true,yAZ,yAr,yBm,yAn]at h4;obtain⟨k,hk,⟨b1,b2⟩,b3⟩:=h4;have hkl:k<ops.toList.length:=Ak;have hno:fY P (bV P E n) 0 ops (cA ops.toList []) 0 σ.length ops.toList fr σ=none:=by
   exact bp
  rw[hno]at hd;cases hd
theorem WL.aFP{rd:Option Nat}{ms:List Nat}{Q:PO->Prop}{id:Nat}{fr:Bw}{σ:Bv}(k:Nat){o:Oper}{rest:List Oper}{v:Value}{τ:Bv}{f:FuncId}{x:PD}{g:Bq}{q:Nat->List PD->List U->Option (Value×List U)}
  (hU:aF E) (hd:ops.toList.drop k=o::rest) (hc:(TI o&&TH (ops.toList.take k)&&(ops.toList.all λo=>match o.dst with|some d=>decide (7<=d)|none=>true)&&(tO ops&&JP ops.toList&&QH ops&&U0 f ops))=true) (hx:x.marked=true) (h1:E.ret f=some g) (h2:E.aZ f=some q) (hg:∀fl args σ,0<fl->g fl args σ=none) (mV:σ≠[])
  (ρ:List (Nat×Nat)) (B:List Nat) (L:List (Option Nat)) (hbx:∀id∈B,∃b,σ[id]?=some (U.box b)) (hρ:bW.UY fr ρ) (hL:TK ops.toList (bW.of ρ)=L) (hB:tX B L)
  (h:SQ P (eU E) 0 ops (ops.toList.take k) fr σ (FQ P E 0 ops o v τ))
  (hf:SQ P (DI (E.HU 0 f x v τ) B) 0 ops ops.toList fr σ (λfr' _=>fr'.any PD.marked=true)) (hQ:Q ⟨.panic v,fr,ms,τ⟩):Wp P E rd (.region id ops true) 0 fr ms σ Q:=by
 simp only[yAr]at hc;obtain⟨⟨⟨c1,c2⟩,c3⟩,c4⟩:=hc;have fX:(tO ops&&JP ops.toList&&QH ops&&U0 f ops)=true:=by simp only[yAr];exact c4
 obtain⟨fr',σ',e1,e2⟩:=hf.ex;refine WL.aLz (hs:=[]) k f x hU (UZ c4.1.1.2) hd c1 c2 c3 ?_ hx ⟨fr',σ',λn=>?_,e2⟩ hQ
 .rw[yAl];exact h
 .exact aZe aFR (aZd h1 h2 hg) mV ρ B L fX hbx hρ hL hB e1
end
def oW(E:aE)(f:FuncId)(dec:j6):Prop:=∃g q,E.ret f=some g/\E.aZ f=some q/\(∀fl args σ,0<fl->g fl args σ=none)/\∀args σ r F l n,dec args=some (r,F)->σ≠[]->Rd σ r l n->n<=l.length->l.length<=100000 ->
 (∃p n' σ',F l n=.ok (p,n')/\g 0 args σ=some (p,σ')/\Rd σ' r l n'/\dH r σ σ'/\σ.length<=σ'.length) \/
 (∃e σ',F l n=.error e/\g 0 args σ=none/\q 0 args σ=some (IT e,σ')/\dH r σ σ'/\σ.length<=σ'.length)
theorem oW.of{E E0:aE}{f:FuncId}{dec:j6}(h:PW E0 f dec)(h1:E.ret f=some (iQ prog E0 f (oA dec)))(h2:E.aZ f=some (lU prog E0 f (nF dec))):oW E f dec:=by
 obtain⟨g,q,e1,e2,e3⟩:=PC.of h h1 h2;refine⟨g,q,e1,e2,λfl args σ hfl=>?_,e3⟩;rw[h1]at e1;simp only[yAb]at e1;subst e1;unfold iQ mN;rw[yAI xb]
end
section
noncomputable def nG:j6:=λargs=>match args with
 | [.agg [.ptr b 0],s]=>(match texts.dec s with|some ns=>bJ (ns.length<=1000000) (some (.ptr b 0,jE (iT ns) Em.div.aA))|none=>none)
 |_=>none
variable{E:aE}(hU:aF E)
include hU
set_option maxRecDepth 10000
theorem aTA(h0:E 92=none)(hN:PC E 88 tQ)(hK:PC E 87 tP)(hM:PC E 131 C3)(hD:PC E 89 tR)(hS:oW E 113 lV)(hW:RC E 90 (E9 1) fW):PW E 92 nG:=by
 intro args aC r F l n hd hs hr hn hl;unfold nG at hd;split at hd
 rotate_left
 .cases hd
 rename_i b0 s;split at hd
 rotate_left
 .cases hd
 rename_i ns hns;obtain⟨hnl,hd⟩:=dF hd;have hdd:nG [.agg [.ptr b0 0],s]=some (.ptr b0 0,jE (iT ns) Em.div.aA):=by simp only[nG,hns];rw[dN hnl]
 have hst:lV [.agg [.ptr b0 0],s]=some (.ptr b0 0,jE (fJ ns) Em.stop.aA):=by simp only[lV,hns];rw[dN hnl]
 simp only[yAb,yAc]at hd;obtain⟨rfl,rfl⟩:=hd;obtain⟨ghN,qhN,hghN,hqhN,hN⟩:=hN;obtain⟨ghK,qhK,hghK,hqhK,hK⟩:=hK;obtain⟨ghM,qhM,hghM,hqhM,hM⟩:=hM;obtain⟨ghD,qhD,hghD,hqhD,hD⟩:=hD;obtain⟨gW,hgW,hW⟩:=hW;obtain⟨ghS,qhS,hghQ,hqhQ,hphQ,hQ⟩:=hS;have hS:=((eQ.start hr hn).box (.box (.agg [.ptr b0 0]))).box (.box (.agg [.str [],.bool false,.int .i64 0,.int .i64 0,.slice 0 [] .full]));simp only[yAi,yAR,yAQ,yAa,yAK,yAL,yAp]at hS;apply lJ.lL h0 func92 rfl
 focus(simp[show Tryz.f92.ntmps=_ from rfl,List.replicate];rfl)
 refine aD trivial ?_;obtain⟨jN,jO,jP,jQ,jR,jS⟩:=aB (hS.ks ((aC.length+1),.box (.agg [.str [],.bool false,.int .i64 0,.int .i64 0,.slice 0 [] .full])) wz).1;obtain⟨oY,oZ,o1,o2,o3,o4⟩:=aB (hS.ks (aC.length,.box (.agg [.ptr b0 0])) wz).1;rcases hN [.agg [.ptr b0 0]] _ (.ptr b0 0) _ l n rfl (hS.ne hs) hS.rd hS.le hl with⟨p1,n1,σ1,f1,e1,r1,k1,q1⟩ | ⟨e,σ1,f1,e1,w1,k1,q1⟩
 rotate_left
 .have hE:iT ns l n=.error e:=by simp[iT,aQ,eD f1]
  have hpost:=hS.eI (dec:=nG) (args:=[.agg [.ptr b0 0],s]) hs hdd hr (eJ hE) k1 q1;exact tc
 obtain⟨nm,g1,rfl⟩:=eE f1;have h1:=hS.call r1 ((aP.name) _ _ _ _ hS.le g1).2 k1 q1
 try simp only[yAa,yAD,yAK,yAL]at q1
 obtain⟨iE,iF,iG,iH,iI,iJ⟩:=aB (h1.ks ((aC.length+1),.box (.agg [.str [],.bool false,.int .i64 0,.int .i64 0,.slice 0 [] .full])) wz).1;obtain⟨o5,o6,o7,o8,o9,pA⟩:=aB (h1.ks (aC.length,.box (.agg [.ptr b0 0])) wz).1;obtain⟨u1,v1,w1⟩:=bH σ1
 first|refine Wp.seq ?_|skip
 apply Wp.dE;refine bF vf ?_;apply SQ.nil;have H1:=h1.box (.box (.agg [.str nm,.bool false,.int .i64 0,.int .i64 0,.slice 0 [] .full]));obtain⟨pV,pW,pX,pY,pZ,qA⟩:=aB (H1.ks (σ1.length,.box (.agg [.str nm,.bool false,.int .i64 0,.int .i64 0,.slice 0 [] .full])) wz).1;obtain⟨qB,qC,qD,qE,qG,qH⟩:=aB (H1.ks ((aC.length+1),.box (.agg [.str [],.bool false,.int .i64 0,.int .i64 0,.slice 0 [] .full])) wz).1;obtain⟨wI,wJ,wK,wL,wM,wN⟩:=aB (H1.ks (aC.length,.box (.agg [.ptr b0 0])) wz).1;obtain⟨fI,t4,r4,k4,q4⟩:=hW [.ptr b0 0,.str [112,101,100,97,108]] _ (.ptr b0 0) _ l n1 ⟨_,rfl,rfl⟩ (H1.ne hs) H1.rd H1.le hl;have h4:=H1.call r4 (oX _ H1.le) k4 q4;obtain⟨X4,hX4⟩:=gn (bK (isWord 1 [112,101,100,97,108]) l n1);rw[hX4]at t4 h4;obtain⟨⟨t4t,pd⟩,n4⟩:=X4;simp only[fW]at t4 h4;have g4:tV [112,101,100,97,108] l n1=.ok (pd,n4):=by simp[tV,hX4]
 try simp only[yAa,yAD,yAK,yAL]at q4
 obtain⟨wP,wQ,wR,wS,wU,wV⟩:=aB (h4.ks (σ1.length,.box (.agg [.str nm,.bool false,.int .i64 0,.int .i64 0,.slice 0 [] .full])) wz).1;obtain⟨wW,wX,wY,wZ,xA,xB⟩:=aB (h4.ks ((aC.length+1),.box (.agg [.str [],.bool false,.int .i64 0,.int .i64 0,.slice 0 [] .full])) wz).1;obtain⟨xC,xD,xE,xF,xG,xH⟩:=aB (h4.ks (aC.length,.box (.agg [.ptr b0 0])) wz).1;obtain⟨u4,v4,w4⟩:=bH fI;have H4:=h4.set (i:=σ1.length) (o0:=.box (.agg [.str nm,.bool false,.int .i64 0,.int .i64 0,.slice 0 [] .full])) (o:=.box (.agg [.str nm,.bool pd,.int .i64 0,.int .i64 0,.slice 0 [] .full])) [] [((aC.length+1),.box (.agg [.str [],.bool false,.int .i64 0,.int .i64 0,.slice 0 [] .full])),(aC.length,.box (.agg [.ptr b0 0]))] rfl xk;obtain⟨xI,xJ,xK,xL,xM,xN⟩:=aB (H4.ks (σ1.length,.box (.agg [.str nm,.bool pd,.int .i64 0,.int .i64 0,.slice 0 [] .full])) wz).1;obtain⟨xO,xP,xQ,xR,xS,xT⟩:=aB (H4.ks ((aC.length+1),.box (.agg [.str [],.bool false,.int .i64 0,.int .i64 0,.slice 0 [] .full])) wz).1;obtain⟨xU,xV,xW,xX,xY,xZ⟩:=aB (H4.ks (aC.length,.box (.agg [.ptr b0 0])) wz).1;refine aD (A20 iE iF iG iH iI iJ o5 o6 o7 o8 o9 pA u1 @v1 w1 pV pW pX pY (A20 pZ qA qB qC qD qE qG qH wI wJ wK wL wM wN hgW @t4 wP wQ wR (A20 wS wU wV wW wX wY wZ xA xB xC xD xE xF xG xH u4 @v4 w4 xI (A17 xJ xK xL xM xN xO xP xQ xR xS xT xU xV xW xX xY xZ)))) ?_;obtain⟨qI,qJ,qK,qL,qM,qN⟩:=aB (H4.ks (σ1.length,.box (.agg [.str nm,.bool pd,.int .i64 0,.int .i64 0,.slice 0 [] .full])) wz).1;obtain⟨qO,qP,qQ,qR,qS,qT⟩:=aB (H4.ks ((aC.length+1),.box (.agg [.str [],.bool false,.int .i64 0,.int .i64 0,.slice 0 [] .full])) wz).1;obtain⟨sA,sB,sC,sD,sE,sF⟩:=aB (H4.ks (aC.length,.box (.agg [.ptr b0 0])) wz).1;rcases hK [.agg [.ptr b0 0],.str [107,101,121,115]] _ (.ptr b0 0) _ l n4 rfl (H4.ne hs) H4.rd H4.le hl with⟨p7,n7,C8,f7,e7,r7,k7,q7⟩ | ⟨e,C8,f7,e7,w7,k7,q7⟩
 rotate_left
 .have hE:iT ns l n=.error e:=by simp[iT,aQ,g1,g4,eD f7]
  have hpost:=H4.eI (dec:=nG) (args:=[.agg [.ptr b0 0],s]) hs hdd hr (eJ hE) k7 q7;exact tv
 obtain⟨u1,g7,rfl⟩:=eE f7;have h7:=H4.call r7 ((aP.key) _ _ _ _ H4.le g7).2 k7 q7
 try simp only[yAa,yAD,yAK,yAL]at q7
 obtain⟨DJ,DK,DL,DM,DN,DO⟩:=aB (h7.ks (σ1.length,.box (.agg [.str nm,.bool pd,.int .i64 0,.int .i64 0,.slice 0 [] .full])) wz).1;obtain⟨DP,DR,DS,DT,DU,DV⟩:=aB (h7.ks ((aC.length+1),.box (.agg [.str [],.bool false,.int .i64 0,.int .i64 0,.slice 0 [] .full])) wz).1;obtain⟨DW,DX,DY,DZ,D0,D1⟩:=aB (h7.ks (aC.length,.box (.agg [.ptr b0 0])) wz).1;obtain⟨u7,v7,w7⟩:=bH C8
 first|refine Wp.seq ?_|skip
 apply Wp.dE;refine bF wh ?_;apply SQ.nil;refine aD wk ?_;obtain⟨sG,sH,sI,sJ,sK,sL⟩:=aB (h7.ks (σ1.length,.box (.agg [.str nm,.bool pd,.int .i64 0,.int .i64 0,.slice 0 [] .full])) wz).1;obtain⟨sM,sN,sO,sP,sQ,sR⟩:=aB (h7.ks ((aC.length+1),.box (.agg [.str [],.bool false,.int .i64 0,.int .i64 0,.slice 0 [] .full])) wz).1;obtain⟨sS,sT,sU,sV,sW,sX⟩:=aB (h7.ks (aC.length,.box (.agg [.ptr b0 0])) wz).1;rcases hM [.agg [.ptr b0 0]] _ (.ptr b0 0) _ l n7 rfl (h7.ne hs) h7.rd h7.le hl with⟨p9,n9,mQ,f9,e9,r9,k9,q9⟩ | ⟨e,mQ,f9,e9,w9,k9,q9⟩
 rotate_left
 .have hE:iT ns l n=.error e:=by simp[iT,aQ,g1,g4,g7,eD f9]
  have hpost:=h7.eI (dec:=nG) (args:=[.agg [.ptr b0 0],s]) hs hdd hr (eJ hE) k9 q9
  first|refine WL.aZ 1 xe xe ?_|refine WL.dP 1 xe xe ?_
  refine bF vg ?_;exact ur
 obtain⟨lo,g9,rfl⟩:=eE f9;have h9:=h7.call r9 ((aP.num) _ _ _ _ h7.le g9).2 k9 q9
 try simp only[yAa,yAD,yAK,yAL]at q9
 obtain⟨yF,yG,yH,yI,yJ,yK⟩:=aB (h9.ks (σ1.length,.box (.agg [.str nm,.bool pd,.int .i64 0,.int .i64 0,.slice 0 [] .full])) wz).1;obtain⟨yL,yM,yN,yO,yP,yQ⟩:=aB (h9.ks ((aC.length+1),.box (.agg [.str [],.bool false,.int .i64 0,.int .i64 0,.slice 0 [] .full])) wz).1;obtain⟨yR,yS,yT,yU,yV,yW⟩:=aB (h9.ks (aC.length,.box (.agg [.ptr b0 0])) wz).1;obtain⟨u9,v9,w9⟩:=bH mQ
 first|refine Wp.seq ?_|skip
 apply Wp.dE;refine bF wq ?_;apply SQ.nil;have H9:=h9.set (i:=σ1.length) (o0:=.box (.agg [.str nm,.bool pd,.int .i64 0,.int .i64 0,.slice 0 [] .full])) (o:=.box (.agg [.str nm,.bool pd,.int .i64 lo,.int .i64 0,.slice 0 [] .full])) [] [((aC.length+1),.box (.agg [.str [],.bool false,.int .i64 0,.int .i64 0,.slice 0 [] .full])),(aC.length,.box (.agg [.ptr b0 0]))] rfl xk;refine aD vh ?_;obtain⟨yX,yY,yZ,y0,y7,y8⟩:=aB (H9.ks (σ1.length,.box (.agg [.str nm,.bool pd,.int .i64 lo,.int .i64 0,.slice 0 [] .full])) wz).1;obtain⟨y9,zA,zB,zC,zD,zE⟩:=aB (H9.ks ((aC.length+1),.box (.agg [.str [],.bool false,.int .i64 0,.int .i64 0,.slice 0 [] .full])) wz).1;obtain⟨zF,zG,zH,zI,zJ,zK⟩:=aB (H9.ks (aC.length,.box (.agg [.ptr b0 0])) wz).1;rcases hM [.agg [.ptr b0 0]] _ (.ptr b0 0) _ l n9 rfl (H9.ne hs) H9.rd H9.le hl with⟨p11,QI,HH,f11,tF,QJ,rB,nL⟩ | ⟨e,HH,f11,tF,nM,rB,nL⟩
 rotate_left
 .have hE:iT ns l n=.error e:=by simp[iT,aQ,g1,g4,g7,g9,eD f11]
  have hpost:=H9.eI (dec:=nG) (args:=[.agg [.ptr b0 0],s]) hs hdd hr (eJ hE) rB nL;exact tw
 obtain⟨hi,g11,rfl⟩:=eE f11;have h11:=H9.call QJ ((aP.num) _ _ _ _ H9.le g11).2 rB nL
 try simp only[yAa,yAD,yAK,yAL]at nL
 obtain⟨zL,zM,zN,zO,zP,zQ⟩:=aB (h11.ks (σ1.length,.box (.agg [.str nm,.bool pd,.int .i64 lo,.int .i64 0,.slice 0 [] .full])) wz).1;obtain⟨zR,zS,zT,zU,zV,zW⟩:=aB (h11.ks ((aC.length+1),.box (.agg [.str [],.bool false,.int .i64 0,.int .i64 0,.slice 0 [] .full])) wz).1;obtain⟨zX,zY,zZ,z7,z8,AA⟩:=aB (h11.ks (aC.length,.box (.agg [.ptr b0 0])) wz).1;obtain⟨HI,v11,nM⟩:=bH HH
 first|refine Wp.seq ?_|skip
 apply Wp.dE;refine bF wm ?_;apply SQ.nil;have gN:=h11.set (i:=σ1.length) (o0:=.box (.agg [.str nm,.bool pd,.int .i64 lo,.int .i64 0,.slice 0 [] .full])) (o:=.box (.agg [.str nm,.bool pd,.int .i64 lo,.int .i64 hi,.slice 0 [] .full])) [] [((aC.length+1),.box (.agg [.str [],.bool false,.int .i64 0,.int .i64 0,.slice 0 [] .full])),(aC.length,.box (.agg [.ptr b0 0]))] rfl xk;refine aD vo ?_;obtain⟨AB,AD,AE,AF,AG,AH⟩:=aB (gN.ks (σ1.length,.box (.agg [.str nm,.bool pd,.int .i64 lo,.int .i64 hi,.slice 0 [] .full])) wz).1;obtain⟨tY,tZ,uA,uB,uC,uD⟩:=aB (gN.ks ((aC.length+1),.box (.agg [.str [],.bool false,.int .i64 0,.int .i64 0,.slice 0 [] .full])) wz).1;obtain⟨AI,AJ,AK,AL,AM,AO⟩:=aB (gN.ks (aC.length,.box (.agg [.ptr b0 0])) wz).1;rcases hD [.agg [.ptr b0 0]] _ (.ptr b0 0) _ l QI rfl (gN.ne hs) gN.rd gN.le hl with⟨p13,pB,vH,f13,tG,QK,rC,nN⟩ | ⟨e,vH,f13,tG,nO,rC,nN⟩
 rotate_left
 .have hE:iT ns l n=.error e:=by simp[iT,aQ,g1,g4,g7,g9,g11,eD f13]
  have hpost:=gN.eI (dec:=nG) (args:=[.agg [.ptr b0 0],s]) hs hdd hr (eJ hE) rC nN
  first|refine WL.aZ 1 xe xe ?_|refine WL.dP 1 xe xe ?_
  refine bF vp ?_;exact uu
 obtain⟨u2,g13,rfl⟩:=eE f13;have jT:=gN.call QK ((aP.eY) _ _ _ _ gN.le g13).2 rC nN
 try simp only[yAa,yAD,yAK,yAL]at nN
 obtain⟨uF,uG,uH,uI,uJ,uK⟩:=aB (jT.ks (σ1.length,.box (.agg [.str nm,.bool pd,.int .i64 lo,.int .i64 hi,.slice 0 [] .full])) wz).1;obtain⟨sY,sZ,s5,s6,s7,s8⟩:=aB (jT.ks ((aC.length+1),.box (.agg [.str [],.bool false,.int .i64 0,.int .i64 0,.slice 0 [] .full])) wz).1;obtain⟨uL,uM,uN,uO,uP,uQ⟩:=aB (jT.ks (aC.length,.box (.agg [.ptr b0 0])) wz).1;obtain⟨HJ,HK,nO⟩:=bH vH
 first|refine Wp.seq ?_|skip
 apply Wp.dE;refine bF (A20 hghD tG AB AD AE AF AG AH tY tZ uA uB uC uD AI AJ AK AL AM (A20 AO uF uG uH uI uJ uK sY sZ s5 s6 s7 s8 uL uM uN uO uP uQ (A3 HJ HK nO))) ?_;apply SQ.nil;refine aD wo ?_;obtain⟨mm,hmm⟩:=gn (σ1.length);simp only[hmm]at jT ⊢;obtain⟨XM,hXM⟩:=gn (nI [115,116,111,112] (fJ ns) l pB);refine Wp.eV (λm fr σ=>∃(ac:List dL) (z nn:Nat) (tok:Tok) (σ1:List U),∃gg:Nat->PD,(nn+m=l.length/\l8 [115,116,111,112] (fJ ns) l XM ac nn/\(ac=[]\/z=4)/\fD aC σ1 tok 65 4 ac.length/\eQ aC (.ptr b0 0) l σ1 nn [(mm,.box (.agg [.str nm,.bool pd,.int .i64 lo,.int .i64 hi,.slice z (ac.map Em.stop.aA) tok])),(aC.length+1,.box (.agg [.str [],.bool false,.int .i64 0,.int .i64 0,.slice 0 [] .full])),(aC.length,.box (.agg [.ptr b0 0]))])/\fr=[gg 0,s,.ptr aC.length 0,gg 3,.ptr (aC.length+1) 0,.ptr mm 0,gg 6,gg 7,gg 8,gg 9,gg 10,gg 11,gg 12,gg 13,gg 14,gg 15,gg 16,gg 17,gg 18,gg 19,gg 20,gg 21,gg 22,gg 23,gg 24,gg 25,gg 26,gg 27,gg 28,gg 29,gg 30,gg 31,gg 32,gg 33,gg 34,gg 35,gg 36]/\σ=σ1) ?_ (l.length-pB) (by refine⟨[],0,pB,.full,vH,?_⟩;exact cG (⟨by have:=jT.le;omega,hXM▸l8.start,.inl rfl,.nil,jT⟩))
 rintro m fr σ ⟨ac,z,nn,tok,σ1,gg,hI,rfl,rfl⟩
 obtain⟨hm,hMa,hz,hrow,hB⟩:=hI;have hal:=hMa.1;obtain⟨qU,qV,qW,qY,qZ,rA⟩:=aB (hB.ks (mm,.box (.agg [.str nm,.bool pd,.int .i64 lo,.int .i64 hi,.slice z (ac.map Em.stop.aA) tok])) wz).1;obtain⟨AQ,AR,AS,AT,AU,AV⟩:=aB (hB.ks ((aC.length+1),.box (.agg [.str [],.bool false,.int .i64 0,.int .i64 0,.slice 0 [] .full])) wz).1;obtain⟨AW,AX,AY,AZ,A0,A1⟩:=aB (hB.ks (aC.length,.box (.agg [.ptr b0 0])) wz).1;obtain⟨u2,v2,w2⟩:=bH σ;obtain⟨x5,lK,YI,M8,YJ⟩:=hW [.ptr b0 0,.str [115,116,111,112]] _ (.ptr b0 0) _ l nn ⟨_,rfl,rfl⟩ (hB.ne hs) hB.rd hB.le hl;have bB:=hB.call YI (oX _ hB.le) M8 YJ;have hrow:=hrow.call hB M8;cases c2:(bK (isWord 1 [115,116,111,112]) l nn).1.2
 rotate_left
 .skip
  obtain⟨t2,_,_,e2⟩:=IF c2;rw[e2]at lK bB;simp only[fW]at lK bB;obtain⟨BA,BC,BD,BE,BF,BG⟩:=aB (bB.ks (mm,.box (.agg [.str nm,.bool pd,.int .i64 lo,.int .i64 hi,.slice z (ac.map Em.stop.aA) tok])) wz).1;obtain⟨BH,BI,BJ,BK,BL,BM⟩:=aB (bB.ks ((aC.length+1),.box (.agg [.str [],.bool false,.int .i64 0,.int .i64 0,.slice 0 [] .full])) wz).1;obtain⟨BN,BO,BP,BQ,BR,BS⟩:=aB (bB.ks (aC.length,.box (.agg [.ptr b0 0])) wz).1;obtain⟨x8,x9,yE⟩:=bH x5;refine aD (A20 hgW lK qU qV qW qY qZ rA AQ AR AS AT AU AV AW AX AY AZ A0 (A20 A1 u2 @v2 w2 BA BC BD BE BF BG BH BI BJ BK BL BM BN BO BP (A6 BQ BR BS x8 x9 yE))) ?_;obtain⟨s9,tA,tB,tC,tD,tE⟩:=aB (bB.ks (mm,.box (.agg [.str nm,.bool pd,.int .i64 lo,.int .i64 hi,.slice z (ac.map Em.stop.aA) tok])) wz).1;obtain⟨uR,uS,uT,uU,uV,uW⟩:=aB (bB.ks ((aC.length+1),.box (.agg [.str [],.bool false,.int .i64 0,.int .i64 0,.slice 0 [] .full])) wz).1;obtain⟨uX,uY,uZ,u0,u6,vA⟩:=aB (bB.ks (aC.length,.box (.agg [.ptr b0 0])) wz).1;obtain⟨u4,v4,w4⟩:=bH x5;have hbx:∀id∈[mm],∃b,(x5)[id]?=some (U.box b):=λid hid=>by
   simp only[yAS,yBh,yBi]at hid;have hidd:=hid
   .rw[hidd];exact⟨_,(bB.ks (mm,.box (.agg [.str nm,.bool pd,.int .i64 lo,.int .i64 hi,.slice z (ac.map Em.stop.aA) tok])) wz).1⟩
  have hne:=bB.ne hs;rcases hQ [.agg [.ptr b0 0],s] _ (.ptr b0 0) _ l (nn+1) hst (bB.ne hs) bB.rd bB.le hl with⟨p4,n4,fI,f4,e4,r4,k4,q4⟩ | ⟨e,fI,f4,e4,YK,k4,q4⟩
  rotate_left
  .skip
   have hEb:fJ ns l (nn+1)=.error e:=eD f4;have hEm:=hMa.er hB.le e2 hEb;have hE:iT ns l n=.error e:=by simp[iT,aQ,g1,g4,g7,g9,g11,g13,hXM,hEm]
   have hpost:=bB.eI (dec:=nG) (args:=[.agg [.ptr b0 0],s]) hs hdd hr (eJ hE) k4 q4;rw[show ac.length=(ac.map Em.stop.aA).length by simp]at hrow;obtain⟨tokF,aMy,hap,hrowF,hPF,_⟩:=hrow.push (P:=prog) (t:=60) (b:=56) (s:=z) (xs:=ac.map Em.stop.aA) (p:=.agg [PD.mark,PD.mark,PD.mark,PD.mark]) (tk:=.any) bB wz wz underlying60 xg (hz.imp (λh=>ya) id) zg zg;obtain⟨IU,IV,IW,IX,IY,IZ⟩:=aB (hPF.ks (mm,.box (.agg [.str nm,.bool pd,.int .i64 lo,.int .i64 hi,.slice z (ac.map Em.stop.aA) tok])) wz).1;obtain⟨I0,I1,I2,I3,I4,I5⟩:=aB (hPF.ks ((aC.length+1),.box (.agg [.str [],.bool false,.int .i64 0,.int .i64 0,.slice 0 [] .full])) wz).1;obtain⟨I6,I7,I8,I9,JA,JB⟩:=aB (hPF.ks (aC.length,.box (.agg [.ptr b0 0])) wz).1;have hkF:=aFO (B:=[mm]) (x:=.agg [PD.mark,PD.mark,PD.mark,PD.mark]) hghQ hqhQ e4 YK;unfold PD.mark at hap hkF;refine WL.aFP 4 hU xe xo (v:=IT e) (τ:=fI) (x:=.agg [.bL (.bool true),.bL (.bool true),.bL (.bool true),.bL (.bool true)]) xe hghQ hqhQ hphQ hne [(5,mm),(2,aC.length)] [mm] [some mm] hbx ⟨⟨_,rfl,rfl⟩,⟨_,rfl,rfl⟩,trivial⟩ xg Ac ?_ ?_ ?_
   .skip
    refine jJ (A20 s9 tA tB tC tD tE uR uS uT uU uV uW uX uY uZ u0 u6 vA u4 (A2 @v4 w4)) ?_;exact jz
   .skip
    refine jJ (A20 hap hkF s9 tA tB tC tD tE uR uS uT uU uV uW uX uY uZ u0 u6 (A20 vA u4 @v4 w4 IU IV IW IX IY IZ I0 I1 I2 I3 I4 I5 I6 I7 I8 (A3 I9 JA JB))) ?_;exact qh
   .skip
    exact af
  obtain⟨⟨sn,s1,s2,sg⟩,g4,rfl⟩:=eE f4;have h4:=bB.call r4 ((aP.stop) _ _ _ _ bB.le g4).2 k4 q4;have hrow:=hrow.call bB k4;simp only[RX,gA]at e4;obtain⟨F2,F3,F4,F5,F6,F7⟩:=aB (h4.ks (mm,.box (.agg [.str nm,.bool pd,.int .i64 lo,.int .i64 hi,.slice z (ac.map Em.stop.aA) tok])) wz).1;obtain⟨F8,F9,GA,GB,GC,GD⟩:=aB (h4.ks ((aC.length+1),.box (.agg [.str [],.bool false,.int .i64 0,.int .i64 0,.slice 0 [] .full])) wz).1;obtain⟨GF,GG,GH,GI,GJ,GK⟩:=aB (h4.ks (aC.length,.box (.agg [.ptr b0 0])) wz).1;obtain⟨u4b,v4b,w4b⟩:=bH fI;have hkk:=aBE (B:=[mm]) hghQ e4 q4 (λid hid _=>by
   simp only[yAS,yBh,yBi]at hid;have hidd:=hid
   .rw[hidd];exact(h4.ks (mm,.box (.agg [.str nm,.bool pd,.int .i64 lo,.int .i64 hi,.slice z (ac.map Em.stop.aA) tok])) wz).1.trans (bB.ks (mm,.box (.agg [.str nm,.bool pd,.int .i64 lo,.int .i64 hi,.slice z (ac.map Em.stop.aA) tok])) wz).1.symm)
  rw[show ac.length=(ac.map Em.stop.aA).length by simp]at hrow;obtain⟨tokP,YL,hap,hrowP,hP,hkeep⟩:=hrow.push (P:=prog) (t:=60) (b:=56) (s:=z) (xs:=ac.map Em.stop.aA) (p:=.agg [.str sn,.int .i64 s1,.int .i64 s2,.slice (sz 3 sg) (sg.map Em.cD.aA) .any]) (tk:=.any) h4 wz wz underlying60 xg (hz.imp (λh=>ya) id) zh zh;simp only[yAe]at hrowP;obtain⟨BT,BU,BV,BW,BX,BY⟩:=aB (hP.ks (mm,.box (.agg [.str nm,.bool pd,.int .i64 lo,.int .i64 hi,.slice z (ac.map Em.stop.aA) tok])) wz).1;obtain⟨D2,D3,D4,D5,D6,D7⟩:=aB (hP.ks ((aC.length+1),.box (.agg [.str [],.bool false,.int .i64 0,.int .i64 0,.slice 0 [] .full])) wz).1;obtain⟨D8,D9,EA,EB,EC,ED⟩:=aB (hP.ks (aC.length,.box (.agg [.ptr b0 0])) wz).1;refine Wp.aFQ hghQ hphQ hne [(5,mm),(2,aC.length)] [mm] [some mm] xo hbx ⟨⟨_,rfl,rfl⟩,⟨_,rfl,rfl⟩,trivial⟩ xg Ac ?_;refine bF (A20 hap hkk s9 tA tB tC tD tE uR uS uT uU uV uW uX uY uZ u0 u6 (A20 vA u4 @v4 w4 F2 F3 F4 F5 F6 F7 F8 F9 GA GB GC GD GF GG GH (A20 GI GJ GK u4b v4b w4b BT BU BV BW BX BY D2 D3 D4 D5 D6 D7 D8 (A5 D9 EA EB EC ED)))) ?_;apply SQ.nil
  repeat(first|refine aO.normal ?_|refine aS.normal ?_)
  obtain⟨YM,hlt,hle⟩:=hMa.ok hB.le aP.stop e2 g4;have hQ1:=hP.set (i:=mm) (o:=.box (.agg [.str nm,.bool pd,.int .i64 lo,.int .i64 hi,.slice 4 ((ac++[(⟨sn,s1,s2,sg⟩:dL)]).map Em.stop.aA) tokP])) [] [((aC.length+1),.box (.agg [.str [],.bool false,.int .i64 0,.int .i64 0,.slice 0 [] .full])),(aC.length,.box (.agg [.ptr b0 0]))] rfl xk;have F0:=hrowP.set (i:=mm) (o:=.box (.agg [.str nm,.bool pd,.int .i64 lo,.int .i64 hi,.slice 4 ((ac++[(⟨sn,s1,s2,sg⟩:dL)]).map Em.stop.aA) tokP])) hP xm;rw[show ac.length+1=(ac++[(⟨sn,s1,s2,sg⟩:dL)]).length by simp]at F0;refine aM.normal (l.length-n4) xb ⟨ac++[(⟨sn,s1,s2,sg⟩:dL)],4,n4,tokP,_,cG (⟨xb,YM,.inr rfl,F0,hQ1⟩)⟩
 have NA:=hMa.stop hB.le c2;have e2:=K6 c2;rw[e2]at lK bB;simp only[fW]at lK bB;obtain⟨GL,GM,GN,GO,GP,GQ⟩:=aB (bB.ks (mm,.box (.agg [.str nm,.bool pd,.int .i64 lo,.int .i64 hi,.slice z (ac.map Em.stop.aA) tok])) wz).1;obtain⟨GR,GS,GU,GV,GW,GX⟩:=aB (bB.ks ((aC.length+1),.box (.agg [.str [],.bool false,.int .i64 0,.int .i64 0,.slice 0 [] .full])) wz).1;obtain⟨JC,JD,JE,JF,JG,JH⟩:=aB (bB.ks (aC.length,.box (.agg [.ptr b0 0])) wz).1;obtain⟨x8,x9,yE⟩:=bH x5;obtain⟨Y,hY⟩:=gn (PD.slice z (ac.map Em.stop.aA) tok);have hYp:Y.plain=true:=by rw[<-hY];rfl
 have hYq:=hYp;unfold PD.plain at hYq;have hYs:Y.strip=aAM.aA ac:=by
  rw[<-hY,PD.nQ,show(ac.map Em.stop.aA).map PD.strip=ac.map Em.stop.aA by rw[yBo];exact yAG λx _=>Em.stop.str x];exact uk
 rw[hY]at bB qV qW qY qZ rA qU GM GN GO GP GQ GL;have CC:=bB.set (i:=(aC.length+1)) (o0:=.box (.agg [.str [],.bool false,.int .i64 0,.int .i64 0,.slice 0 [] .full])) (o:=.box (.agg [.str nm,.bool pd,.int .i64 lo,.int .i64 hi,Y])) [(mm,.box (.agg [.str nm,.bool pd,.int .i64 lo,.int .i64 hi,Y]))] [(aC.length,.box (.agg [.ptr b0 0]))] rfl xk;obtain⟨B0,B1,B2,B3,B4,B5⟩:=aB (CC.ks (mm,.box (.agg [.str nm,.bool pd,.int .i64 lo,.int .i64 hi,Y])) wz).1;obtain⟨vB,vC,vD,vE,vF,vG⟩:=aB (CC.ks ((aC.length+1),.box (.agg [.str nm,.bool pd,.int .i64 lo,.int .i64 hi,Y])) wz).1;obtain⟨B6,B7,B8,B9,CA,CB⟩:=aB (CC.ks (aC.length,.box (.agg [.ptr b0 0])) wz).1;refine aD (A20 hgW lK qU qV qW qY qZ rA AQ AR AS AT AU AV AW AX AY AZ A0 (A20 A1 u2 @v2 w2 GL GM GN GO GP GQ GR GS GU GV GW GX JC JD JE (A20 JF JG JH x8 x9 yE hYp hYq B0 B1 B2 B3 B4 B5 vB vC vD vE vF (A7 vG B6 B7 B8 B9 CA CB)))) ?_;have hfin:(PD.agg [.str nm,.bool pd,.int .i64 lo,.int .i64 hi,Y]).strip=Em.div.aA ⟨nm,pd,lo,hi,ac⟩:=by simp only[PD.strip,PD.kP,hYs,aAN]
 have hP:iT ns l n=.ok (⟨nm,pd,lo,hi,ac⟩,nn):=by simp[iT,aQ,dT,g1,g4,g7,g9,g11,g13,hXM,NA]
 right
 simp[hgW,lK,qU,qV,qW,qY,qZ,rA,AQ,AR,AS,AT,AU,AV,AW,AX,AY,AZ,A0,A1,u2,v2,w2,GL,GM,GN,GO,GP,GQ,GR,GS,GU,GV,GW,GX,JC,JD,JE,JF,JG,JH,x8,x9,yE,hYp,hYq,B0,B1,B2,B3,B4,B5,vB,vC,vD,vE,vF,vG,B6,B7,B8,B9,CA,CB];exact rj
end
end Go.Kz
