/- Steps of the proof. -/
import Derived.Test.YtnogdlnjafblaaaGreatDoorI3
import Derived.Test.YtnogdlnjafblaaaGreatDoorH3
set_option linter.all false
set_option maxHeartbeats 40000000
set_option maxRecDepth 100000
open Go.Proofs.Tryz
namespace Go.Kz
open Go Go.Proofs
section
noncomputable def mZ:kU:=λargs=>match args with
 | [.agg [.ptr b 0],s]=>(match texts.dec s with|some ns=>bE (ns.length<=1000000) (some (.ptr b 0,jZ (gB ns) Em.stop.aA))|none=>none)
 |_=>none
variable{E:aE}(hU:aG E)
include hU
set_option maxRecDepth 10000
theorem aXV(h0:E 113=none)(hN:PC E 88 vP)(hF:PC E 130 HK)(hM:PC E 131 FB)(hD:PC E 89 vQ)(hX:PC E 133 rB)(hW:RC E 90 (HJ 1) gY):PW E 113 mZ:=by
 intro args aC r F l n hd hs hr hn hl;unfold mZ at hd;split at hd
 rotate_left
 .cases hd
 rename_i b0 s;split at hd
 rotate_left
 .cases hd
 rename_i ns hns;obtain⟨hnl,hd⟩:=cX hd;have hdd:mZ [.agg [.ptr b0 0],s]=some (.ptr b0 0,jZ (gB ns) Em.stop.aA):=by simp only[mZ,hns];rw[dC hnl]
 have hix:=aQj (b0:=b0) hns hnl;simp only[yAb,yAc]at hd;obtain⟨rfl,rfl⟩:=hd;obtain⟨ghN,qhN,hghN,hqhN,hN⟩:=hN;obtain⟨ghF,qhF,hghF,hqhF,hF⟩:=hF;obtain⟨ghM,qhM,hghM,hqhM,hM⟩:=hM;obtain⟨ghD,qhD,hghD,hqhD,hD⟩:=hD;obtain⟨ghX,qhX,hghX,hqhX,hX⟩:=hX;obtain⟨gW,hgW,hW⟩:=hW;have hS:=((fG.start hr hn).box (.box (.agg [.ptr b0 0]))).box (.box (.agg [.str [],.int .i64 0,.int .i64 0,.slice 0 [] .full]));simp only[yAi,yAR,yAQ,yAa,yAK,yAL,yAp]at hS;apply mN.mR h0 func113 rfl
 focus(simp[show Tryz.f113.ntmps=_ from rfl,List.replicate];rfl)
 refine aD trivial ?_;obtain⟨kF,kG,kH,kI,kJ,kK⟩:=aB (hS.ks ((aC.length+1),.box (.agg [.str [],.int .i64 0,.int .i64 0,.slice 0 [] .full])) yo).1;obtain⟨pZ,qA,qB,qC,qD,qE⟩:=aB (hS.ks (aC.length,.box (.agg [.ptr b0 0])) yo).1;rcases hN [.agg [.ptr b0 0]] _ (.ptr b0 0) _ l n rfl (hS.ne hs) hS.rd hS.le hl with⟨p1,n1,σ1,f1,e1,r1,k1,q1⟩ | ⟨e,σ1,f1,e1,w1,k1,q1⟩
 rotate_left
 .have hE:gB ns l n=.error e:=by simp[gB,aR,eR f1]
  have hpost:=hS.eW (dec:=mZ) (args:=[.agg [.ptr b0 0],s]) hs hdd hr (eX hE) k1 q1;exact ux
 obtain⟨nm,g1,rfl⟩:=eS f1;have h1:=hS.call r1 ((aP.name) _ _ _ _ hS.le g1).2 k1 q1
 try simp only[yAa,yAD,yAK,yAL]at q1
 obtain⟨iZ,jA,jB,jC,jD,jE⟩:=aB (h1.ks ((aC.length+1),.box (.agg [.str [],.int .i64 0,.int .i64 0,.slice 0 [] .full])) yo).1;obtain⟨qG,qH,qI,qJ,qK,qL⟩:=aB (h1.ks (aC.length,.box (.agg [.ptr b0 0])) yo).1;obtain⟨u1,v1,w1⟩:=bO σ1
 first|refine Wp.seq ?_|skip
 apply Wp.dU;refine bM xg ?_;apply SQ.nil;have H1:=h1.box (.box (.agg [.str nm,.int .i64 0,.int .i64 0,.slice 0 [] .full]));refine aD xe ?_;obtain⟨rK,rL,rM,rN,rO,rP⟩:=aB (H1.ks (σ1.length,.box (.agg [.str nm,.int .i64 0,.int .i64 0,.slice 0 [] .full])) yo).1;obtain⟨rQ,rR,rS,rT,rU,rV⟩:=aB (H1.ks ((aC.length+1),.box (.agg [.str [],.int .i64 0,.int .i64 0,.slice 0 [] .full])) yo).1;obtain⟨y7,y8,y9,zA,zB,zC⟩:=aB (H1.ks (aC.length,.box (.agg [.ptr b0 0])) yo).1;rcases hF [.agg [.ptr b0 0]] _ (.ptr b0 0) _ l n1 rfl (H1.ne hs) H1.rd H1.le hl with⟨p3,n3,σ3,f3,e3,r3,k3,q3⟩ | ⟨e,σ3,f3,e3,w3,k3,q3⟩
 rotate_left
 .have hE:gB ns l n=.error e:=by simp[gB,aR,g1,eR f3]
  have hpost:=H1.eW (dec:=mZ) (args:=[.agg [.ptr b0 0],s]) hs hdd hr (eX hE) k3 q3
  first|refine WL.bD 1 yu yu ?_|refine WL.eE 1 yu yu ?_
  refine bM (A18 rK rL rM rN rO rP rQ rR rS rT rU rV y7 y8 y9 zA zB zC) ?_;apply SQ.nil;refine dH.call (.i yu) yu yu hghF hqhF e3 w3 ?_;exact af
 obtain⟨fe,g3,rfl⟩:=eS f3;have h3:=H1.call r3 ((aP.bB) _ _ _ _ H1.le g3).2 k3 q3
 try simp only[yAa,yAD,yAK,yAL]at q3
 obtain⟨tE,tF,tG,tH,tI,tJ⟩:=aB (h3.ks (σ1.length,.box (.agg [.str nm,.int .i64 0,.int .i64 0,.slice 0 [] .full])) yo).1;obtain⟨tK,tL,tM,tN,tO,tP⟩:=aB (h3.ks ((aC.length+1),.box (.agg [.str [],.int .i64 0,.int .i64 0,.slice 0 [] .full])) yo).1;obtain⟨IB,IC,ID,IE,IF,IG⟩:=aB (h3.ks (aC.length,.box (.agg [.ptr b0 0])) yo).1;obtain⟨u3,v3,w3⟩:=bO σ3
 first|refine Wp.seq ?_|skip
 apply Wp.dU;refine bM (A20 hghF e3 rK rL rM rN rO rP rQ rR rS rT rU rV y7 y8 y9 zA zB (A20 zC tE tF tG tH tI tJ tK tL tM tN tO tP IB IC ID IE IF IG (A3 u3 @v3 w3))) ?_;apply SQ.nil;obtain⟨f1,f2⟩:=fe;have OA:=h3.set (i:=σ1.length) (o0:=.box (.agg [.str nm,.int .i64 0,.int .i64 0,.slice 0 [] .full])) (o:=.box (.agg [.str nm,.int .i64 f1,.int .i64 f2,.slice 0 [] .full])) [] [((aC.length+1),.box (.agg [.str [],.int .i64 0,.int .i64 0,.slice 0 [] .full])),(aC.length,.box (.agg [.ptr b0 0]))] rfl yz;refine aD (A20 tE tF tG tH tI tJ tK tL tM tN tO tP IB IC ID IE IF IG u3 (A3 @v3 w3 @aK4)) ?_;obtain⟨zD,zE,zF,zG,zH,zI⟩:=aB (OA.ks (σ1.length,.box (.agg [.str nm,.int .i64 f1,.int .i64 f2,.slice 0 [] .full])) yo).1;obtain⟨zJ,zK,zL,zM,zN,zO⟩:=aB (OA.ks ((aC.length+1),.box (.agg [.str [],.int .i64 0,.int .i64 0,.slice 0 [] .full])) yo).1;obtain⟨zP,zQ,zR,zS,zT,zU⟩:=aB (OA.ks (aC.length,.box (.agg [.ptr b0 0])) yo).1;rcases hD [.agg [.ptr b0 0]] _ (.ptr b0 0) _ l n3 rfl (OA.ne hs) OA.rd OA.le hl with⟨p5,n5,kS,f5,e5,r5,k5,q5⟩ | ⟨e,kS,f5,e5,w5,k5,q5⟩
 rotate_left
 .have hE:gB ns l n=.error e:=by simp[gB,aR,g1,g3,eR f5]
  have hpost:=OA.eW (dec:=mZ) (args:=[.agg [.ptr b0 0],s]) hs hdd hr (eX hE) k5 q5
  first|refine WL.bD 1 yu yu ?_|refine WL.eE 1 yu yu ?_
  refine bM xm ?_;apply SQ.nil;refine dH.call (.i yu) yu yu hghD hqhD e5 w5 ?_;exact af
 obtain⟨u1,g5,rfl⟩:=eS f5;have h5:=OA.call r5 ((aP.fO) _ _ _ _ OA.le g5).2 k5 q5
 try simp only[yAa,yAD,yAK,yAL]at q5
 obtain⟨zV,zW,zX,zY,zZ,z7⟩:=aB (h5.ks (σ1.length,.box (.agg [.str nm,.int .i64 f1,.int .i64 f2,.slice 0 [] .full])) yo).1;obtain⟨z8,AA,AB,AD,AE,AF⟩:=aB (h5.ks ((aC.length+1),.box (.agg [.str [],.int .i64 0,.int .i64 0,.slice 0 [] .full])) yo).1;obtain⟨AG,AH,AI,AJ,AK,AL⟩:=aB (h5.ks (aC.length,.box (.agg [.ptr b0 0])) yo).1;obtain⟨u5,v5,w5⟩:=bO kS
 first|refine Wp.seq ?_|skip
 apply Wp.dU;refine bM (A20 hghD e5 zD zE zF zG zH zI zJ zK zL zM zN zO zP zQ zR zS zT (A20 zU zV zW zX zY zZ z7 z8 AA AB AD AE AF AG AH AI AJ AK AL (A3 u5 @v5 w5))) ?_;apply SQ.nil;refine aD xo ?_;obtain⟨mm,hmm⟩:=gn (σ1.length);simp only[hmm]at h5 ⊢;obtain⟨XM,hXM⟩:=gn (oT [107,101,121,115] (lT ns) l n5);refine Wp.dK (λm fr σ=>∃(ac:List jV) (z nn:Nat) (tok:Tok) (σ1:List U),∃gg:Nat->PD,(nn+m=l.length/\nI [107,101,121,115] (lT ns) l XM ac nn/\(ac=[]\/z=3)/\fW aC σ1 tok 129 3 ac.length/\fG aC (.ptr b0 0) l σ1 nn [(mm,.box (.agg [.str nm,.int .i64 f1,.int .i64 f2,.slice z (ac.map Em.cK.aA) tok])),(aC.length+1,.box (.agg [.str [],.int .i64 0,.int .i64 0,.slice 0 [] .full])),(aC.length,.box (.agg [.ptr b0 0]))])/\fr=[gg 0,s,.ptr aC.length 0,gg 3,.ptr (aC.length+1) 0,.ptr mm 0,gg 6,gg 7,gg 8,gg 9,gg 10,gg 11,gg 12,gg 13,gg 14,gg 15,gg 16,gg 17,gg 18,gg 19,gg 20,gg 21,gg 22,gg 23,gg 24,gg 25,gg 26,gg 27,gg 28,gg 29,gg 30,gg 31,gg 32,gg 33,gg 34,gg 35,gg 36,gg 37,gg 38,gg 39,gg 40,gg 41,gg 42,gg 43,gg 44,gg 45,gg 46,gg 47,gg 48,gg 49,gg 50,gg 51]/\σ=σ1) ?_ (l.length-n5) Au
 rintro m fr σ ⟨ac,z,nn,tok,σ1,gg,hI,rfl,rfl⟩
 obtain⟨hm,hMa,hz,hrow,hB⟩:=hI;have hal:=hMa.1;obtain⟨rW,rX,rY,rZ,sA,sB⟩:=aB (hB.ks (mm,.box (.agg [.str nm,.int .i64 f1,.int .i64 f2,.slice z (ac.map Em.cK.aA) tok])) yo).1;obtain⟨sC,sD,sE,sF,sG,sH⟩:=aB (hB.ks ((aC.length+1),.box (.agg [.str [],.int .i64 0,.int .i64 0,.slice 0 [] .full])) yo).1;obtain⟨tQ,tR,tS,tT,tU,tV⟩:=aB (hB.ks (aC.length,.box (.agg [.ptr b0 0])) yo).1;obtain⟨u2,v2,w2⟩:=bO σ;obtain⟨AM,mO,r2k,QB,q2k⟩:=hW [.ptr b0 0,.str [107,101,121,115]] _ (.ptr b0 0) _ l nn ⟨_,rfl,rfl⟩ (hB.ne hs) hB.rd hB.le hl;have bH:=hB.call r2k (pY _ hB.le) QB q2k;have hrow:=hrow.call hB QB;cases c2:(bS (isWord 1 [107,101,121,115]) l nn).1.2
 rotate_left
 .skip
  obtain⟨t2,_,_,e2⟩:=KV c2;rw[e2]at mO bH;simp only[gY]at mO bH;obtain⟨FN,FO,FP,FQ,FT,FU⟩:=aB (bH.ks (mm,.box (.agg [.str nm,.int .i64 f1,.int .i64 f2,.slice z (ac.map Em.cK.aA) tok])) yo).1;obtain⟨FV,FW,FX,FY,FZ,F0⟩:=aB (bH.ks ((aC.length+1),.box (.agg [.str [],.int .i64 0,.int .i64 0,.slice 0 [] .full])) yo).1;obtain⟨F2,F3,F4,F5,F6,F7⟩:=aB (bH.ks (aC.length,.box (.agg [.ptr b0 0])) yo).1;obtain⟨AO,AP,AQ⟩:=bO AM;refine aD (A20 hgW mO rW rX rY rZ sA sB sC sD sE sF sG sH tQ tR tS tT tU (A20 tV u2 @v2 w2 FN FO FP FQ FT FU FV FW FX FY FZ F0 F2 F3 F4 (A6 F5 F6 F7 AO AP AQ))) ?_;obtain⟨tW,tX,tY,tZ,uA,uB⟩:=aB (bH.ks (mm,.box (.agg [.str nm,.int .i64 f1,.int .i64 f2,.slice z (ac.map Em.cK.aA) tok])) yo).1;obtain⟨uC,uD,uE,uF,uG,uH⟩:=aB (bH.ks ((aC.length+1),.box (.agg [.str [],.int .i64 0,.int .i64 0,.slice 0 [] .full])) yo).1;obtain⟨uI,uJ,uK,uL,uM,uN⟩:=aB (bH.ks (aC.length,.box (.agg [.ptr b0 0])) yo).1;rcases hM [.agg [.ptr b0 0]] _ (.ptr b0 0) _ l (nn+1) rfl (bH.ne hs) bH.rd bH.le hl with⟨p9,n9,oD,f9,e9,r9,k9,q9⟩ | ⟨e,oD,f9,e9,w9,k9,q9⟩
  rotate_left
  .have hEb:lT ns l (nn+1)=.error e:=by simp[lT,aR,eR f9]
   have hEm:=hMa.er hB.le e2 hEb;have hE:gB ns l n=.error e:=zu;have hpost:=bH.eW (dec:=mZ) (args:=[.agg [.ptr b0 0],s]) hs hdd hr (eX hE) k9 q9
   first|refine WL.bD 1 yu yu ?_|refine WL.eE 1 yu yu ?_
   refine j9 xh ?_;exact wg
  obtain⟨a,g9,rfl⟩:=eS f9;have h9:=bH.call r9 ((aP.num) _ _ _ _ bH.le g9).2 k9 q9
  try simp only[yAa,yAD,yAK,yAL]at q9
  obtain⟨AR,AS,AT,AU,AV,AW⟩:=aB (h9.ks (mm,.box (.agg [.str nm,.int .i64 f1,.int .i64 f2,.slice z (ac.map Em.cK.aA) tok])) yo).1;obtain⟨AX,AY,AZ,A0,A1,BA⟩:=aB (h9.ks ((aC.length+1),.box (.agg [.str [],.int .i64 0,.int .i64 0,.slice 0 [] .full])) yo).1;obtain⟨BC,BD,BE,BF,BG,BH⟩:=aB (h9.ks (aC.length,.box (.agg [.ptr b0 0])) yo).1;obtain⟨u9,v9,w9⟩:=bO oD
  first|refine Wp.seq ?_|skip
  apply Wp.dU;refine bM yh ?_;apply SQ.nil;have H9:=h9.box (.box (.agg [.int .i64 a,.int .i64 0,.slice 0 [] .full]));have hrow:=hrow.call bH k9;have hrow:=hrow.more (τ:=[.box (.agg [.int .i64 a,.int .i64 0,.slice 0 [] .full])]);refine aD xj ?_;obtain⟨BI,BJ,BK,BL,BM,BN⟩:=aB (H9.ks (oD.length,.box (.agg [.int .i64 a,.int .i64 0,.slice 0 [] .full])) yo).1;obtain⟨BO,BP,BQ,BR,BS,BT⟩:=aB (H9.ks (mm,.box (.agg [.str nm,.int .i64 f1,.int .i64 f2,.slice z (ac.map Em.cK.aA) tok])) yo).1;obtain⟨BU,BV,BW,BY,BZ,B0⟩:=aB (H9.ks ((aC.length+1),.box (.agg [.str [],.int .i64 0,.int .i64 0,.slice 0 [] .full])) yo).1;obtain⟨aDr,aDs,aDt,aDu,aDv,aDw⟩:=aB (H9.ks (aC.length,.box (.agg [.ptr b0 0])) yo).1;rcases hM [.agg [.ptr b0 0]] _ (.ptr b0 0) _ l n9 rfl (H9.ne hs) H9.rd H9.le hl with⟨p11,TO,JY,f11,u6,TP,sO,oW⟩ | ⟨e,JY,f11,u6,oX,sO,oW⟩
  rotate_left
  .have hEb:lT ns l (nn+1)=.error e:=by simp[lT,aR,g9,eR f11]
   have hEm:=hMa.er hB.le e2 hEb;have hE:gB ns l n=.error e:=zu;have hpost:=H9.eW (dec:=mZ) (args:=[.agg [.ptr b0 0],s]) hs hdd hr (eX hE) sO oW
   first|refine WL.bD 1 yu yu ?_|refine WL.eE 1 yu yu ?_
   refine j9 (A20 BI BJ BK BL BM BN BO BP BQ BR BS BT BU BV BW BY BZ B0 aDr (A5 aDs aDt aDu aDv aDw)) ?_;apply SQ.nil;refine dH.call (.i yu) yu yu hghM hqhM u6 oX ?_;exact af
  obtain⟨b,g11,rfl⟩:=eS f11;have h11:=H9.call TP ((aP.num) _ _ _ _ H9.le g11).2 sO oW
  try simp only[yAa,yAD,yAK,yAL]at oW
  obtain⟨B1,B2,B3,B4,B5,B6⟩:=aB (h11.ks (oD.length,.box (.agg [.int .i64 a,.int .i64 0,.slice 0 [] .full])) yo).1;obtain⟨B7,B8,B9,CA,CB,CC⟩:=aB (h11.ks (mm,.box (.agg [.str nm,.int .i64 f1,.int .i64 f2,.slice z (ac.map Em.cK.aA) tok])) yo).1;obtain⟨CD,CE,CF,CG,CH,CI⟩:=aB (h11.ks ((aC.length+1),.box (.agg [.str [],.int .i64 0,.int .i64 0,.slice 0 [] .full])) yo).1;obtain⟨aDx,aDy,aDz,aDA,aDB,aDC⟩:=aB (h11.ks (aC.length,.box (.agg [.ptr b0 0])) yo).1;obtain⟨JZ,v11,oX⟩:=bO JY
  first|refine Wp.seq ?_|skip
  apply Wp.dU;refine bM (A20 hghM u6 BI BJ BK BL BM BN BO BP BQ BR BS BT BU BV BW BY BZ (A20 B0 aDr aDs aDt aDu aDv aDw B1 B2 B3 B4 B5 B6 B7 B8 B9 CA CB CC (A15 CD CE CF CG CH CI aDx aDy aDz aDA aDB aDC JZ @v11 oX))) ?_;apply SQ.nil;have iK:=h11.set (i:=oD.length) (o0:=.box (.agg [.int .i64 a,.int .i64 0,.slice 0 [] .full])) (o:=.box (.agg [.int .i64 a,.int .i64 b,.slice 0 [] .full])) [] [(mm,.box (.agg [.str nm,.int .i64 f1,.int .i64 f2,.slice z (ac.map Em.cK.aA) tok])),((aC.length+1),.box (.agg [.str [],.int .i64 0,.int .i64 0,.slice 0 [] .full])),(aC.length,.box (.agg [.ptr b0 0]))] rfl yz;have hrow:=hrow.call H9 sO;have hrow:=hrow.set (i:=oD.length) (o:=.box (.agg [.int .i64 a,.int .i64 b,.slice 0 [] .full])) h11 za;refine aD (A20 B1 B2 B3 B4 B5 B6 B7 B8 B9 CA CB CC CD CE CF CG CH CI aDx (A8 aDy aDz aDA aDB aDC JZ @v11 oX)) ?_;obtain⟨CJ,CL,CM,CN,CO,CP⟩:=aB (iK.ks (oD.length,.box (.agg [.int .i64 a,.int .i64 b,.slice 0 [] .full])) yo).1;obtain⟨wD,wE,wF,wG,wH,wI⟩:=aB (iK.ks (mm,.box (.agg [.str nm,.int .i64 f1,.int .i64 f2,.slice z (ac.map Em.cK.aA) tok])) yo).1;obtain⟨CQ,CR,CS,CT,CU,CV⟩:=aB (iK.ks ((aC.length+1),.box (.agg [.str [],.int .i64 0,.int .i64 0,.slice 0 [] .full])) yo).1;obtain⟨aDD,aDE,aDF,aDG,aDH,aDI⟩:=aB (iK.ks (aC.length,.box (.agg [.ptr b0 0])) yo).1;rcases hD [.agg [.ptr b0 0]] _ (.ptr b0 0) _ l TO rfl (iK.ne hs) iK.rd iK.le hl with⟨p13,qM,xQ,f13,vA,TQ,sP,oY⟩ | ⟨e,xQ,f13,vA,oZ,sP,oY⟩
  rotate_left
  .have hEb:lT ns l (nn+1)=.error e:=by simp[lT,aR,g9,g11,eR f13]
   have hEm:=hMa.er hB.le e2 hEb;have hE:gB ns l n=.error e:=zu;have hpost:=iK.eW (dec:=mZ) (args:=[.agg [.ptr b0 0],s]) hs hdd hr (eX hE) sP oY
   first|refine WL.bD 1 yu yu ?_|refine WL.eE 1 yu yu ?_
   refine j9 (A20 CJ CL CM CN CO CP wD wE wF wG wH wI CQ CR CS CT CU CV aDD (A5 aDE aDF aDG aDH aDI)) ?_;exact wh
  obtain⟨u2,g13,rfl⟩:=eS f13;have kL:=iK.call TQ ((aP.fO) _ _ _ _ iK.le g13).2 sP oY
  try simp only[yAa,yAD,yAK,yAL]at oY
  obtain⟨wK,wL,wM,wN,wP,wQ⟩:=aB (kL.ks (oD.length,.box (.agg [.int .i64 a,.int .i64 b,.slice 0 [] .full])) yo).1;obtain⟨uO,uP,uQ,uR,uS,uT⟩:=aB (kL.ks (mm,.box (.agg [.str nm,.int .i64 f1,.int .i64 f2,.slice z (ac.map Em.cK.aA) tok])) yo).1;obtain⟨wR,wS,wU,wV,wW,wX⟩:=aB (kL.ks ((aC.length+1),.box (.agg [.str [],.int .i64 0,.int .i64 0,.slice 0 [] .full])) yo).1;obtain⟨aAW,aAX,aAY,aAZ,aA0,aA1⟩:=aB (kL.ks (aC.length,.box (.agg [.ptr b0 0])) yo).1;obtain⟨J0,J1,oZ⟩:=bO xQ
  first|refine Wp.seq ?_|skip
  apply Wp.dU;refine bM (A20 hghD vA CJ CL CM CN CO CP wD wE wF wG wH wI CQ CR CS CT CU (A20 CV aDD aDE aDF aDG aDH aDI wK wL wM wN wP wQ uO uP uQ uR uS uT (A15 wR wS wU wV wW wX aAW aAX aAY aAZ aA0 aA1 J0 J1 oZ))) ?_;apply SQ.nil;have hrow:=hrow.call iK sP;refine aD (A20 wK wL wM wN wP wQ uO uP uQ uR uS uT wR wS wU wV wW wX aAW (A8 aAX aAY aAZ aA0 aA1 J0 J1 oZ)) ?_;obtain⟨sg,hsg⟩:=gn (oD.length);simp only[hsg]at kL hrow ⊢;obtain⟨XN,hXN⟩:=gn (oT [100,114,97,119] (eI ns) l qM);refine Wp.dK (λm fr σ=>∃(ad:List gU) (z2 n2:Nat) (eH:Tok) (σ1:List U),∃gg:Nat->PD,(n2+m=l.length/\nI [100,114,97,119] (eI ns) l XN ad n2/\(ad=[]\/z2=2)/\fW aC σ1 eH 131 2 ad.length/\fW aC σ1 tok 129 3 ac.length/\(∀id,tok=.own id->eH≠.own id)/\fG aC (.ptr b0 0) l σ1 n2 [(sg,.box (.agg [.int .i64 a,.int .i64 b,.slice z2 (ad.map Em.draw.aA) eH])),(mm,.box (.agg [.str nm,.int .i64 f1,.int .i64 f2,.slice z (ac.map Em.cK.aA) tok])),(aC.length+1,.box (.agg [.str [],.int .i64 0,.int .i64 0,.slice 0 [] .full])),(aC.length,.box (.agg [.ptr b0 0]))])/\fr=[gg 0,s,.ptr aC.length 0,gg 3,.ptr (aC.length+1) 0,.ptr mm 0,.ptr sg 0,gg 7,gg 8,gg 9,gg 10,gg 11,gg 12,gg 13,gg 14,gg 15,gg 16,gg 17,gg 18,gg 19,gg 20,gg 21,gg 22,gg 23,gg 24,gg 25,gg 26,gg 27,gg 28,gg 29,gg 30,gg 31,gg 32,gg 33,gg 34,gg 35,gg 36,gg 37,gg 38,gg 39,gg 40,gg 41,gg 42,gg 43,gg 44,gg 45,gg 46,gg 47,gg 48,gg 49,gg 50,gg 51]/\σ=σ1) ?_ (l.length-qM) (by refine⟨[],0,qM,.full,xQ,?_⟩;exact bV (⟨by have:=kL.le;omega,hXN▸nI.start,.inl rfl,.nil,hrow,(λ_ _ e=>zh),kL⟩))
  rintro m fr σ ⟨ad,z2,n2,eH,σ1,gg,hI,rfl,rfl⟩
  obtain⟨hm2,hMb,fU,dZ,hrow,hnd,hC⟩:=hI;have hbl:=hMb.1;obtain⟨sI,sJ,sK,sL,sM,sN⟩:=aB (hC.ks (sg,.box (.agg [.int .i64 a,.int .i64 b,.slice z2 (ad.map Em.draw.aA) eH])) yo).1;obtain⟨CX,CY,CZ,C1,C3,C4⟩:=aB (hC.ks (mm,.box (.agg [.str nm,.int .i64 f1,.int .i64 f2,.slice z (ac.map Em.cK.aA) tok])) yo).1;obtain⟨C5,C6,C7,C8,C9,DC⟩:=aB (hC.ks ((aC.length+1),.box (.agg [.str [],.int .i64 0,.int .i64 0,.slice 0 [] .full])) yo).1;obtain⟨aDJ,aDK,aDL,aDM,aDN,aDO⟩:=aB (hC.ks (aC.length,.box (.agg [.ptr b0 0])) yo).1;obtain⟨u3,v3,w3⟩:=bO σ;obtain⟨lX,CW,r3k,SX,q3k⟩:=hW [.ptr b0 0,.str [100,114,97,119]] _ (.ptr b0 0) _ l n2 ⟨_,rfl,rfl⟩ (hC.ne hs) hC.rd hC.le hl;have dI:=hC.call r3k (pY _ hC.le) SX q3k;have hrow:=hrow.call hC SX;have dZ:=dZ.call hC SX;cases c3:(bS (isWord 1 [100,114,97,119]) l n2).1.2
  rotate_left
  .skip
   obtain⟨t3,_,_,e3⟩:=KV c3;rw[e3]at CW dI;simp only[gY]at CW dI;obtain⟨DD,DE,DF,DG,DH,DI⟩:=aB (dI.ks (sg,.box (.agg [.int .i64 a,.int .i64 b,.slice z2 (ad.map Em.draw.aA) eH])) yo).1;obtain⟨DJ,DK,DL,DM,DN,DO⟩:=aB (dI.ks (mm,.box (.agg [.str nm,.int .i64 f1,.int .i64 f2,.slice z (ac.map Em.cK.aA) tok])) yo).1;obtain⟨DP,DR,DS,DT,DU,DV⟩:=aB (dI.ks ((aC.length+1),.box (.agg [.str [],.int .i64 0,.int .i64 0,.slice 0 [] .full])) yo).1;obtain⟨N4,N5,N6,N7,N8,N9⟩:=aB (dI.ks (aC.length,.box (.agg [.ptr b0 0])) yo).1;obtain⟨SY,SZ,S0⟩:=bO lX;refine aD (A20 hgW CW sI sJ sK sL sM sN CX CY CZ C1 C3 C4 C5 C6 C7 C8 C9 (A20 DC aDJ aDK aDL aDM aDN aDO u3 @v3 w3 DD DE DF DG DH DI DJ DK DL (A18 DM DN DO DP DR DS DT DU DV N4 N5 N6 N7 N8 N9 SY SZ S0))) ?_;obtain⟨uU,uV,uW,uX,uY,uZ⟩:=aB (dI.ks (sg,.box (.agg [.int .i64 a,.int .i64 b,.slice z2 (ad.map Em.draw.aA) eH])) yo).1;obtain⟨wY,wZ,xA,xB,xC,xD⟩:=aB (dI.ks (mm,.box (.agg [.str nm,.int .i64 f1,.int .i64 f2,.slice z (ac.map Em.cK.aA) tok])) yo).1;obtain⟨xE,xF,xG,xH,xI,xJ⟩:=aB (dI.ks ((aC.length+1),.box (.agg [.str [],.int .i64 0,.int .i64 0,.slice 0 [] .full])) yo).1;obtain⟨QE,QF,QG,QH,QI,QJ⟩:=aB (dI.ks (aC.length,.box (.agg [.ptr b0 0])) yo).1;rcases hX [.agg [.ptr b0 0],s] _ (.ptr b0 0) _ l (n2+1) hix (dI.ne hs) dI.rd dI.le hl with⟨p17,n17,GR,f17,e17,r17,k17,q17⟩ | ⟨e,GR,f17,e17,w17,k17,q17⟩
   rotate_left
   .have hEb:eI ns l (n2+1)=.error e:=by simp[eI,aR,eR f17]
    have hEm:=hMb.er hC.le e3 hEb;have hEb:lT ns l (nn+1)=.error e:=Cj;have hEm:=hMa.er hB.le e2 hEb;have hE:gB ns l n=.error e:=zu;have hpost:=dI.eW (dec:=mZ) (args:=[.agg [.ptr b0 0],s]) hs hdd hr (eX hE) k17 q17
    first|refine WL.bD 2 yu yu ?_|refine WL.eE 2 yu yu ?_
    refine j9 (A20 uU uV uW uX uY uZ wY wZ xA xB xC xD xE xF xG xH xI xJ QE (A5 QF QG QH QI QJ)) ?_;apply SQ.nil;refine dH.call (.i yu) yu yu hghX hqhX e17 w17 ?_;exact af
   obtain⟨i,g17,rfl⟩:=eS f17;have h17:=dI.call r17 ((aP.index) _ _ _ _ dI.le g17).2 k17 q17
   try simp only[yAa,yAD,yAK,yAL]at q17
   obtain⟨LG,LH,LI,LJ,LK,LL⟩:=aB (h17.ks (sg,.box (.agg [.int .i64 a,.int .i64 b,.slice z2 (ad.map Em.draw.aA) eH])) yo).1;obtain⟨LM,LN,LO,LP,LQ,LR⟩:=aB (h17.ks (mm,.box (.agg [.str nm,.int .i64 f1,.int .i64 f2,.slice z (ac.map Em.cK.aA) tok])) yo).1;obtain⟨LU,LV,LW,LX,LY,LZ⟩:=aB (h17.ks ((aC.length+1),.box (.agg [.str [],.int .i64 0,.int .i64 0,.slice 0 [] .full])) yo).1;obtain⟨WV,WW,WX,WY,WZ,W0⟩:=aB (h17.ks (aC.length,.box (.agg [.ptr b0 0])) yo).1;obtain⟨u17,v17,w17⟩:=bO GR
   first|refine Wp.seq ?_|skip
   apply Wp.dU;refine j9 (A20 hghX e17 uU uV uW uX uY uZ wY wZ xA xB xC xD xE xF xG xH xI (A20 xJ QE QF QG QH QI QJ LG LH LI LJ LK LL LM LN LO LP LQ LR (A15 LU LV LW LX LY LZ WV WW WX WY WZ W0 u17 v17 w17))) ?_;apply SQ.nil;have EG:=h17.box (.box (.agg [.int .i64 i,.int .i64 0]));have hrow:=hrow.call dI k17;have dZ:=dZ.call dI k17;have hrow:=hrow.more (τ:=[.box (.agg [.int .i64 i,.int .i64 0])]);have dZ:=dZ.more (τ:=[.box (.agg [.int .i64 i,.int .i64 0])]);refine aD (A20 LG LH LI LJ LK LL LM LN LO LP LQ LR LU LV LW LX LY LZ WV (A8 WW WX WY WZ W0 u17 v17 w17)) ?_;obtain⟨II,IJ,IK,IL,IM,IN⟩:=aB (EG.ks (GR.length,.box (.agg [.int .i64 i,.int .i64 0])) yo).1;obtain⟨IP,IQ,IS,IT,IU,IV⟩:=aB (EG.ks (sg,.box (.agg [.int .i64 a,.int .i64 b,.slice z2 (ad.map Em.draw.aA) eH])) yo).1;obtain⟨IW,IX,IY,IZ,I0,I1⟩:=aB (EG.ks (mm,.box (.agg [.str nm,.int .i64 f1,.int .i64 f2,.slice z (ac.map Em.cK.aA) tok])) yo).1;obtain⟨aDR,aDS,aDT,aDU,aDV,aDW⟩:=aB (EG.ks ((aC.length+1),.box (.agg [.str [],.int .i64 0,.int .i64 0,.slice 0 [] .full])) yo).1;obtain⟨aDX,aDY,aDZ,aD0,aD1,aD2⟩:=aB (EG.ks (aC.length,.box (.agg [.ptr b0 0])) yo).1;rcases hM [.agg [.ptr b0 0]] _ (.ptr b0 0) _ l n17 rfl (EG.ne hs) EG.rd EG.le hl with⟨p19,n19,aBv,f19,TR,r19,OC,OD⟩ | ⟨e,aBv,f19,TR,MD,OC,OD⟩
   rotate_left
   .have hEb:eI ns l (n2+1)=.error e:=by simp[eI,aR,g17,eR f19]
    have hEm:=hMb.er hC.le e3 hEb;have hEb:lT ns l (nn+1)=.error e:=Cj;have hEm:=hMa.er hB.le e2 hEb;have hE:gB ns l n=.error e:=zu;have hpost:=EG.eW (dec:=mZ) (args:=[.agg [.ptr b0 0],s]) hs hdd hr (eX hE) OC OD
    first|refine WL.bD 1 yu yu ?_|refine WL.eE 1 yu yu ?_
    refine j9 (A20 II IJ IK IL IM IN IP IQ IS IT IU IV IW IX IY IZ I0 I1 aDR (A11 aDS aDT aDU aDV aDW aDX aDY aDZ aD0 aD1 aD2)) ?_;apply SQ.nil;refine dH.call (.i yu) yu yu hghM hqhM TR MD ?_;exact af
   obtain⟨sh,g19,rfl⟩:=eS f19;have h19:=EG.call r19 ((aP.num) _ _ _ _ EG.le g19).2 OC OD
   try simp only[yAa,yAD,yAK,yAL]at OD
   obtain⟨DW,DY,DZ,D0,D1,D2⟩:=aB (h19.ks (GR.length,.box (.agg [.int .i64 i,.int .i64 0])) yo).1;obtain⟨F8,F9,GA,GB,GC,GD⟩:=aB (h19.ks (sg,.box (.agg [.int .i64 a,.int .i64 b,.slice z2 (ad.map Em.draw.aA) eH])) yo).1;obtain⟨GF,GG,GH,GI,GJ,GK⟩:=aB (h19.ks (mm,.box (.agg [.str nm,.int .i64 f1,.int .i64 f2,.slice z (ac.map Em.cK.aA) tok])) yo).1;obtain⟨W1,W2,W3,W4,W5,W6⟩:=aB (h19.ks ((aC.length+1),.box (.agg [.str [],.int .i64 0,.int .i64 0,.slice 0 [] .full])) yo).1;obtain⟨aD3,aD4,aD5,aD6,aD7,aD8⟩:=aB (h19.ks (aC.length,.box (.agg [.ptr b0 0])) yo).1;obtain⟨YA,YB,MD⟩:=bO aBv
   first|refine Wp.seq ?_|skip
   apply Wp.dU;refine j9 (A20 hghM TR II IJ IK IL IM IN IP IQ IS IT IU IV IW IX IY IZ I0 (A20 I1 aDR aDS aDT aDU aDV aDW aDX aDY aDZ aD0 aD1 aD2 DW DY DZ D0 D1 D2 (A20 F8 F9 GA GB GC GD GF GG GH GI GJ GK W1 W2 W3 W4 W5 W6 aD3 (A8 aD4 aD5 aD6 aD7 aD8 YA YB MD)))) ?_;apply SQ.nil;have EH:=h19.set (i:=GR.length) (o0:=.box (.agg [.int .i64 i,.int .i64 0])) (o:=.box (.agg [.int .i64 i,.int .i64 sh])) [] [(sg,.box (.agg [.int .i64 a,.int .i64 b,.slice z2 (ad.map Em.draw.aA) eH])),(mm,.box (.agg [.str nm,.int .i64 f1,.int .i64 f2,.slice z (ac.map Em.cK.aA) tok])),((aC.length+1),.box (.agg [.str [],.int .i64 0,.int .i64 0,.slice 0 [] .full])),(aC.length,.box (.agg [.ptr b0 0]))] rfl yz;have hrow:=hrow.call EG OC;have dZ:=dZ.call EG OC;have hrow:=hrow.set (i:=GR.length) (o:=.box (.agg [.int .i64 i,.int .i64 sh])) h19 za;have dZ:=dZ.set (i:=GR.length) (o:=.box (.agg [.int .i64 i,.int .i64 sh])) h19 za;refine aD (A20 DW DY DZ D0 D1 D2 F8 F9 GA GB GC GD GF GG GH GI GJ GK W1 (A14 W2 W3 W4 W5 W6 aD3 aD4 aD5 aD6 aD7 aD8 YA YB MD)) ?_;obtain⟨I2,I3,I4,I5,I6,I7⟩:=aB (EH.ks (GR.length,.box (.agg [.int .i64 i,.int .i64 sh])) yo).1;obtain⟨I8,I9,JA,JB,JC,JD⟩:=aB (EH.ks (sg,.box (.agg [.int .i64 a,.int .i64 b,.slice z2 (ad.map Em.draw.aA) eH])) yo).1;obtain⟨L0,L1,L2,L3,L4,L5⟩:=aB (EH.ks (mm,.box (.agg [.str nm,.int .i64 f1,.int .i64 f2,.slice z (ac.map Em.cK.aA) tok])) yo).1;obtain⟨S8,S9,TA,TB,TC,TD⟩:=aB (EH.ks ((aC.length+1),.box (.agg [.str [],.int .i64 0,.int .i64 0,.slice 0 [] .full])) yo).1;obtain⟨aQk,aQl,aQm,aQn,aQo,aQp⟩:=aB (EH.ks (aC.length,.box (.agg [.ptr b0 0])) yo).1;rcases hD [.agg [.ptr b0 0]] _ (.ptr b0 0) _ l n19 rfl (EH.ne hs) EH.rd EH.le hl with⟨p21,n21,aBw,f21,TS,r21,OE,OF⟩ | ⟨e,aBw,f21,TS,ME,OE,OF⟩
   rotate_left
   .have hEb:eI ns l (n2+1)=.error e:=by simp[eI,aR,g17,g19,eR f21]
    have hEm:=hMb.er hC.le e3 hEb;have hEb:lT ns l (nn+1)=.error e:=Cj;have hEm:=hMa.er hB.le e2 hEb;have hE:gB ns l n=.error e:=zu;have hpost:=EH.eW (dec:=mZ) (args:=[.agg [.ptr b0 0],s]) hs hdd hr (eX hE) OE OF
    first|refine WL.bD 1 yu yu ?_|refine WL.eE 1 yu yu ?_
    refine j9 (A20 I2 I3 I4 I5 I6 I7 I8 I9 JA JB JC JD L0 L1 L2 L3 L4 L5 S8 (A11 S9 TA TB TC TD aQk aQl aQm aQn aQo aQp)) ?_;exact wk
   obtain⟨u3,g21,rfl⟩:=eS f21;have xR:=EH.call r21 ((aP.fO) _ _ _ _ EH.le g21).2 OE OF
   try simp only[yAa,yAD,yAK,yAL]at OF
   obtain⟨D3,D4,D5,D6,D7,D8⟩:=aB (xR.ks (GR.length,.box (.agg [.int .i64 i,.int .i64 sh])) yo).1;obtain⟨xK,xL,xM,xN,xO,xP⟩:=aB (xR.ks (sg,.box (.agg [.int .i64 a,.int .i64 b,.slice z2 (ad.map Em.draw.aA) eH])) yo).1;obtain⟨D9,EA,EB,EC,ED,EE⟩:=aB (xR.ks (mm,.box (.agg [.str nm,.int .i64 f1,.int .i64 f2,.slice z (ac.map Em.cK.aA) tok])) yo).1;obtain⟨L6,L7,L8,L9,MA,MB⟩:=aB (xR.ks ((aC.length+1),.box (.agg [.str [],.int .i64 0,.int .i64 0,.slice 0 [] .full])) yo).1;obtain⟨aQq,aQr,aQs,aQt,aQu,aQv⟩:=aB (xR.ks (aC.length,.box (.agg [.ptr b0 0])) yo).1;obtain⟨YC,v21,ME⟩:=bO aBw
   first|refine Wp.seq ?_|skip
   apply Wp.dU;refine j9 (A20 hghD TS I2 I3 I4 I5 I6 I7 I8 I9 JA JB JC JD L0 L1 L2 L3 L4 (A20 L5 S8 S9 TA TB TC TD aQk aQl aQm aQn aQo aQp D3 D4 D5 D6 D7 D8 (A20 xK xL xM xN xO xP D9 EA EB EC ED EE L6 L7 L8 L9 MA MB aQq (A8 aQr aQs aQt aQu aQv YC @v21 ME)))) ?_;apply SQ.nil;have hrow:=hrow.call EH OE;have dZ:=dZ.call EH OE;have hbd:eI ns l (n2+1)=.ok (⟨i,sh⟩,n21):=by simp[eI,aR,eG,g17,g19,g21]
   obtain⟨aId,hlt,hle⟩:=hMb.ok hC.le aP.draw e3 hbd;rw[show ad.length=(ad.map Em.draw.aA).length by simp]at dZ;obtain⟨tokP,aAU,hap,hrowP,hP,hkeep⟩:=dZ.push (P:=prog) (t:=127) (b:=16) (s:=z2) (xs:=ad.map Em.draw.aA) (p:=.agg [.int .i64 i,.int .i64 sh]) (tk:=.any) xR yo yo underlying127 yp (fU.imp (λh=>zn) id) (by rw[yAe];have:=xR.le;omega) (by rw[yAe];have:=xR.le;omega);simp only[yAe]at hrowP;obtain⟨hrow,a4l⟩:=hkeep tok _ _ _ (λid e1 e2=>hnd id e1 e2) hrow;obtain⟨aIf,aIg,aIh,aIi,aIj,aIk⟩:=aB (hP.ks (GR.length,.box (.agg [.int .i64 i,.int .i64 sh])) yo).1;obtain⟨aIl,aIm,aIn,aIo,aIp,aIq⟩:=aB (hP.ks (sg,.box (.agg [.int .i64 a,.int .i64 b,.slice z2 (ad.map Em.draw.aA) eH])) yo).1;obtain⟨aIr,aIs,aIt,aIu,aIv,aIw⟩:=aB (hP.ks (mm,.box (.agg [.str nm,.int .i64 f1,.int .i64 f2,.slice z (ac.map Em.cK.aA) tok])) yo).1;obtain⟨aIx,aIy,aIz,aIA,aIB,aIC⟩:=aB (hP.ks ((aC.length+1),.box (.agg [.str [],.int .i64 0,.int .i64 0,.slice 0 [] .full])) yo).1;obtain⟨a4m,a4n,a4o,a4p,a4q,a4r⟩:=aB (hP.ks (aC.length,.box (.agg [.ptr b0 0])) yo).1;refine aD (A20 D3 D4 D5 D6 D7 D8 xK xL xM xN xO xP D9 EA EB EC ED EE L6 (A20 L7 L8 L9 MA MB aQq aQr aQs aQt aQu aQv YC @v21 ME aIf aIg aIh aIi aIj (A20 aIk aIl aIm aIn aIo aIp aIq aIr aIs aIt aIu aIv aIw aIx aIy aIz aIA aIB aIC (A7 a4m a4n a4o a4p a4q a4r hap)))) ?_;have hQ:=hP.set (i:=sg) (o:=.box (.agg [.int .i64 a,.int .i64 b,.slice 2 ((ad++[(⟨i,sh⟩:gU)]).map Em.draw.aA) tokP])) [(GR.length,.box (.agg [.int .i64 i,.int .i64 sh]))] [(mm,.box (.agg [.str nm,.int .i64 f1,.int .i64 f2,.slice z (ac.map Em.cK.aA) tok])),((aC.length+1),.box (.agg [.str [],.int .i64 0,.int .i64 0,.slice 0 [] .full])),(aC.length,.box (.agg [.ptr b0 0]))] rfl yz;have hQ2:fG aC (.ptr b0 0) l _ _ _:=⟨hQ.rd,hQ.le,hQ.kp,hQ.len,λp hp=>hQ.ks p (yDR [(GR.length,.box (.agg [.int .i64 i,.int .i64 sh]))] hp),hQ.nr⟩;have IH:=hrowP.set (i:=sg) (o:=.box (.agg [.int .i64 a,.int .i64 b,.slice 2 ((ad++[(⟨i,sh⟩:gU)]).map Em.draw.aA) tokP])) hP za;rw[show ad.length+1=(ad++[(⟨i,sh⟩:gU)]).length by simp]at IH;refine aL.normal (l.length-n21) ym ⟨ad++[(⟨i,sh⟩:gU)],2,n21,tokP,_,bV (⟨ym,aId,.inr rfl,IH,hrow.set (i:=sg) hP za,a4l,hQ2⟩)⟩
  have NZ:=hMb.stop hC.le c3;have e3:=NY c3;rw[e3]at CW dI;simp only[gY]at CW dI;obtain⟨GL,GM,GN,GO,GP,GQ⟩:=aB (dI.ks (sg,.box (.agg [.int .i64 a,.int .i64 b,.slice z2 (ad.map Em.draw.aA) eH])) yo).1;obtain⟨JF,JG,JH,JI,JK,JL⟩:=aB (dI.ks (mm,.box (.agg [.str nm,.int .i64 f1,.int .i64 f2,.slice z (ac.map Em.cK.aA) tok])) yo).1;obtain⟨JM,JN,JO,JP,JQ,JR⟩:=aB (dI.ks ((aC.length+1),.box (.agg [.str [],.int .i64 0,.int .i64 0,.slice 0 [] .full])) yo).1;obtain⟨JS,JT,JU,JV,JW,JX⟩:=aB (dI.ks (aC.length,.box (.agg [.ptr b0 0])) yo).1;obtain⟨SY,SZ,S0⟩:=bO lX;obtain⟨Y2,TF⟩:=gn (PD.slice z2 (ad.map Em.draw.aA) eH);have QK:Y2.plain=true:=by rw[<-TF];rfl
  have JE:=QK;unfold PD.plain at JE;have aIe:Y2.strip=oN.aA ad:=by
   rw[<-TF,PD.lD,show(ad.map Em.draw.aA).map PD.strip=ad.map Em.draw.aA by rw[yBc];exact yAG λx _=>Em.draw.str x];rcases fU with h|h
   .rw[h];rfl
   .exact cz
  rw[TF]at dI sJ sK sL sM sN sI GM GN GO GP GQ GL;have hbd:lT ns l (nn+1)=.ok (⟨a,b,ad⟩,n2):=by simp[lT,aR,eG,g9,g11,g13,hXN,NZ]
  obtain⟨aAV,hlt,hle⟩:=hMa.ok hB.le aP.cK e2 hbd;rw[show ac.length=(ac.map Em.cK.aA).length by simp]at hrow;obtain⟨tokP,aAU,hap,hrowP,hP,hkeep⟩:=hrow.push (P:=prog) (t:=63) (b:=40) (s:=z) (xs:=ac.map Em.cK.aA) (p:=.agg [.int .i64 a,.int .i64 b,.slice (sz 2 ad) (ad.map Em.draw.aA) .any]) (tk:=.any) dI yo yo underlying63 yp (hz.imp (λh=>zn) id) Cr Cr;simp only[yAe]at hrowP;obtain⟨aA4,aA5,aA6,aA7,aA8,aA9⟩:=aB (hP.ks (sg,.box (.agg [.int .i64 a,.int .i64 b,Y2])) yo).1;obtain⟨aBa,aBb,aBc,aBd,aBe,aBf⟩:=aB (hP.ks (mm,.box (.agg [.str nm,.int .i64 f1,.int .i64 f2,.slice z (ac.map Em.cK.aA) tok])) yo).1;obtain⟨aBg,aBh,aBi,aBj,aBk,aBl⟩:=aB (hP.ks ((aC.length+1),.box (.agg [.str [],.int .i64 0,.int .i64 0,.slice 0 [] .full])) yo).1;obtain⟨aBm,aBn,aBo,aBp,aBq,aBr⟩:=aB (hP.ks (aC.length,.box (.agg [.ptr b0 0])) yo).1;refine aD (A20 hgW CW sI sJ sK sL sM sN CX CY CZ C1 C3 C4 C5 C6 C7 C8 C9 (A20 DC aDJ aDK aDL aDM aDN aDO u3 @v3 w3 GL GM GN GO GP GQ JF JG JH (A20 JI JK JL JM JN JO JP JQ JR JS JT JU JV JW JX SY SZ S0 aA4 (A20 aA5 aA6 aA7 aA8 aA9 aBa aBb aBc aBd aBe aBf aBg aBh aBi aBj aBk aBl aBm aBn (A8 aBo aBp aBq aBr QK JE aIe hap))))) ?_;have hQ:=hP.set (i:=mm) (o:=.box (.agg [.str nm,.int .i64 f1,.int .i64 f2,.slice 3 ((ac++[(⟨a,b,ad⟩:jV)]).map Em.cK.aA) tokP])) [(sg,.box (.agg [.int .i64 a,.int .i64 b,Y2]))] [((aC.length+1),.box (.agg [.str [],.int .i64 0,.int .i64 0,.slice 0 [] .full])),(aC.length,.box (.agg [.ptr b0 0]))] rfl yz;have hQ2:fG aC (.ptr b0 0) l _ _ _:=⟨hQ.rd,hQ.le,hQ.kp,hQ.len,λp hp=>hQ.ks p (yDR [(sg,.box (.agg [.int .i64 a,.int .i64 b,Y2]))] hp),hQ.nr⟩;have IH:=hrowP.set (i:=mm) (o:=.box (.agg [.str nm,.int .i64 f1,.int .i64 f2,.slice 3 ((ac++[(⟨a,b,ad⟩:jV)]).map Em.cK.aA) tokP])) hP za;rw[show ac.length+1=(ac++[(⟨a,b,ad⟩:jV)]).length by simp]at IH;refine aL.normal (l.length-n2) ym ⟨ac++[(⟨a,b,ad⟩:jV)],3,n2,tokP,_,bV (⟨ym,aAV,.inr rfl,IH,hQ2⟩)⟩
 have QD:=hMa.stop hB.le c2;have e2:=NY c2;rw[e2]at mO bH;simp only[gY]at mO bH;obtain⟨TH,TI,TJ,TK,TL,TM⟩:=aB (bH.ks (mm,.box (.agg [.str nm,.int .i64 f1,.int .i64 f2,.slice z (ac.map Em.cK.aA) tok])) yo).1;obtain⟨W7,W8,W9,XA,XB,XD⟩:=aB (bH.ks ((aC.length+1),.box (.agg [.str [],.int .i64 0,.int .i64 0,.slice 0 [] .full])) yo).1;obtain⟨XE,XF,XG,XH,XI,XJ⟩:=aB (bH.ks (aC.length,.box (.agg [.ptr b0 0])) yo).1;obtain⟨AO,AP,AQ⟩:=bO AM;obtain⟨Y,hY⟩:=gn (PD.slice z (ac.map Em.cK.aA) tok);have hYp:Y.plain=true:=Cq;have hYq:=hYp;unfold PD.plain at hYq;have hYs:Y.strip=aCo.aA ac:=by
  rw[<-hY,PD.lD,show(ac.map Em.cK.aA).map PD.strip=ac.map Em.cK.aA by rw[yBc];exact yAG λx _=>Em.cK.str x];exact vr
 rw[hY]at bH TI TJ TK TL TM TH rX rY rZ sA sB rW;have EF:=bH.set (i:=(aC.length+1)) (o0:=.box (.agg [.str [],.int .i64 0,.int .i64 0,.slice 0 [] .full])) (o:=.box (.agg [.str nm,.int .i64 f1,.int .i64 f2,Y])) [(mm,.box (.agg [.str nm,.int .i64 f1,.int .i64 f2,Y]))] [(aC.length,.box (.agg [.ptr b0 0]))] rfl yz;obtain⟨XK,XL,XO,XP,XQ,XR⟩:=aB (EF.ks (mm,.box (.agg [.str nm,.int .i64 f1,.int .i64 f2,Y])) yo).1;obtain⟨XS,XT,XU,XV,XW,XX⟩:=aB (EF.ks ((aC.length+1),.box (.agg [.str nm,.int .i64 f1,.int .i64 f2,Y])) yo).1;obtain⟨XY,XZ,X1,X2,X3,X5⟩:=aB (EF.ks (aC.length,.box (.agg [.ptr b0 0])) yo).1;refine aD (A20 hgW mO rW rX rY rZ sA sB sC sD sE sF sG sH tQ tR tS tT tU (A20 tV u2 @v2 w2 TH TI TJ TK TL TM W7 W8 W9 XA XB XD XE XF XG (A20 XH XI XJ AO AP AQ hYp hYq XK XL XO XP XQ XR XS XT XU XV XW (A7 XX XY XZ X1 X2 X3 X5)))) ?_;have hfin:(PD.agg [.str nm,.int .i64 f1,.int .i64 f2,Y]).strip=Em.stop.aA ⟨nm,f1,f2,ac⟩:=by simp only[PD.strip,PD.lP,hYs,PE]
 have hP:gB ns l n=.ok (⟨nm,f1,f2,ac⟩,nn):=by simp[gB,aR,eG,g1,g3,g5,hXM,QD]
 right
 simp[hgW,mO,rW,rX,rY,rZ,sA,sB,sC,sD,sE,sF,sG,sH,tQ,tR,tS,tT,tU,tV,u2,v2,w2,TH,TI,TJ,TK,TL,TM,W7,W8,W9,XA,XB,XD,XE,XF,XG,XH,XI,XJ,AO,AP,AQ,hYp,hYq,XK,XL,XO,XP,XQ,XR,XS,XT,XU,XV,XW,XX,XY,XZ,X1,X2,X3,X5];exact uf
end
section
section
variable{P:Program}{E:aE}{ops:Du}
theorem a4a{f:FuncId}{x:PD}{v:Value}{τ:Dp}{g:Dj}{q:Nat->List PD->List U->Option (Value×List U)}(h1:E.ret f=some g)(h2:E.bD f=some q)(hg:∀fl args σ,0<fl->g fl args σ=none) :
  ∀fl args σ,0<fl->Q5 E 0 f x v τ fl args σ=none:=by
 intro fl args σ h;unfold Q5;simp only[h1,hg _ _ _ h,h2];rw[yAI]
 rintro⟨e,_⟩
 omega
theorem aPs{f:FuncId}{x:PD}{v:Value}{τ σ:Dp}{args:Dq}{g:Dj}{q:Nat->List PD->List U->Option (Value×List U)}(h1:E.ret f=some g)(h2:E.bD f=some q)(h3:g 0 args σ=none)(h4:q 0 args σ=some (v,τ)) :
  Q5 E 0 f x v τ 0 args σ=some (x,σ):=by
 unfold Q5;simp only[h1,h3,h2];rw[yAJ ⟨rfl,h4⟩]
theorem aH6{f:FuncId}{x:PD}{v:Value}{τ:Dp}:(E.KC 0 f x v τ).ret f=some (Q5 E 0 f x v τ):=yAJ rfl
theorem a1Q{f f':FuncId}{x:PD}{v:Value}{τ:Dp}(h:f'≠f):(E.KC 0 f x v τ).ret f'=E.ret f':=yAI h
theorem aH3{B:List Nat}{f:FuncId}{x:PD}{v:Value}{τ σ:Dp}{args:Dq}{g:Dj}{q:Nat->List PD->List U->Option (Value×List U)}(h1:E.ret f=some g)(h2:E.bD f=some q)(h3:g 0 args σ=none)(h4:q 0 args σ=some (v,τ)) :
  FM (E.KC 0 f x v τ) B 0 (.inl f) args σ=some (x,σ):=
 aDq aH6 (aPs h1 h2 h3 h4) (yAk _) (λ_ _ _=>rfl)
theorem a4b{n f:Nat}{g:Dj}{fr:Dq}{σ:Dp}{y:Dq×Dp}(hE:E.ret f=some g)(hg:∀fl args σ,0<fl->g fl args σ=none)(oJ:σ≠[])(ρ:List (Nat×Nat))(B:List Nat)(L:List (Option Nat))
  (hs:(vL ops&&MC ops.toList&&TN ops&&X9 f ops)=true) (hbx:∀id∈B,∃b,σ[id]?=some (U.box b)) (hρ:cG.X7 fr ρ) (hL:WQ ops.toList (cG.of ρ)=L) (hB:wC B L) (h:dS P (FM E B) 0 ops ops.toList fr σ=some y) :
  iO P (cD P E n) 0 ops fr σ=some y:=by
 rw[yAr]at hs;refine aIW ρ B hs.1 hbx ?_ (cG.aEc ρ hρ) hL hB h;have h2:=hs.1;have h4:=hs.2;simp only[yAr,vL]at h2;obtain⟨⟨a1,a2⟩,_⟩:=h2;rw[o4]at a1;have hr:=MK a1;cases hd:kX P (cD P E n) 0 ops fr σ with
 |none=>rfl
 |some y=>
  exfalso
  unfold kX at hd;simp only[a1,yAM,X8 a2,yAl]at hd;rw[X9,o4]at h4;simp only[List.any_eq_true,yAY,yAr,yBu,yAn]at h4;obtain⟨k,hk,⟨b1,b2⟩,b3⟩:=h4;have hkl:k<ops.toList.length:=Bw;have hno:eM P (cD P E n) 0 ops (bU ops.toList []) 0 σ.length ops.toList fr σ=none:=by
   exact cc
  rw[hno]at hd;cases hd
theorem WL.aH4{rd:Option Nat}{ms:List Nat}{Q:PO->Prop}{id:Nat}{fr:Dq}{σ:Dp}(k:Nat){o:Oper}{rest:List Oper}{v:Value}{τ:Dp}{f:FuncId}{x:PD}{g:Dj}{q:Nat->List PD->List U->Option (Value×List U)}
  (hU:aG E) (hd:ops.toList.drop k=o::rest) (hc:(WN o&&WM (ops.toList.take k)&&(ops.toList.all λo=>match o.dst with|some d=>decide (7<=d)|none=>true)&&(vL ops&&MC ops.toList&&TN ops&&X9 f ops))=true) (hx:x.marked=true) (h1:E.ret f=some g) (h2:E.bD f=some q) (hg:∀fl args σ,0<fl->g fl args σ=none) (oJ:σ≠[])
  (ρ:List (Nat×Nat)) (B:List Nat) (L:List (Option Nat)) (hbx:∀id∈B,∃b,σ[id]?=some (U.box b)) (hρ:cG.X7 fr ρ) (hL:WQ ops.toList (cG.of ρ)=L) (hB:wC B L)
  (h:SQ P (fK E) 0 ops (ops.toList.take k) fr σ (IA P E 0 ops o v τ))
  (hf:SQ P (FM (E.KC 0 f x v τ) B) 0 ops ops.toList fr σ (λfr' _=>fr'.any PD.marked=true)) (hQ:Q ⟨.panic v,fr,ms,τ⟩):Wp P E rd (.region id ops true) 0 fr ms σ Q:=by
 simp only[yAr]at hc;obtain⟨⟨⟨c1,c2⟩,c3⟩,c4⟩:=hc;have gA:(vL ops&&MC ops.toList&&TN ops&&X9 f ops)=true:=by simp only[yAr];exact c4
 obtain⟨fr',σ',e1,e2⟩:=hf.ex;refine WL.aOs (hs:=[]) k f x hU (X8 c4.1.1.2) hd c1 c2 c3 ?_ hx ⟨fr',σ',λn=>?_,e2⟩ hQ
 .rw[yAl];exact h
 .exact a4b aH6 (a4a h1 h2 hg) oJ ρ B L gA hbx hρ hL hB e1
end
def pX(E:aE)(f:FuncId)(dec:kU):Prop:=∃g q,E.ret f=some g/\E.bD f=some q/\(∀fl args σ,0<fl->g fl args σ=none)/\∀args σ r F l n,dec args=some (r,F)->σ≠[]->Rd σ r l n->n<=l.length->l.length<=100000 ->
 (∃p n' σ',F l n=.ok (p,n')/\g 0 args σ=some (p,σ')/\Rd σ' r l n'/\dW r σ σ'/\σ.length<=σ'.length) \/
 (∃e σ',F l n=.error e/\g 0 args σ=none/\q 0 args σ=some (LF e,σ')/\dW r σ σ'/\σ.length<=σ'.length)
theorem pX.of{E E0:aE}{f:FuncId}{dec:kU}(h:PW E0 f dec)(h1:E.ret f=some (jJ prog E0 f (pB dec)))(h2:E.bD f=some (mY prog E0 f (oQ dec))):pX E f dec:=by
 obtain⟨g,q,e1,e2,e3⟩:=PC.of h h1 h2;refine⟨g,q,e1,e2,λfl args σ hfl=>?_,e3⟩;rw[h1]at e1;simp only[yAb]at e1;subst e1;unfold jJ oC;rw[yAI ym]
end
section
noncomputable def oR:kU:=λargs=>match args with
 | [.agg [.ptr b 0],s]=>(match texts.dec s with|some ns=>bE (ns.length<=1000000) (some (.ptr b 0,jZ (jM ns) Em.div.aA))|none=>none)
 |_=>none
variable{E:aE}(hU:aG E)
include hU
set_option maxRecDepth 10000
theorem aXZ(h0:E 92=none)(hN:PC E 88 vP)(hK:PC E 87 vO)(hM:PC E 131 FB)(hD:PC E 89 vQ)(hS:pX E 113 mZ)(hW:RC E 90 (HJ 1) gY):PW E 92 oR:=by
 intro args aC r F l n hd hs hr hn hl;unfold oR at hd;split at hd
 rotate_left
 .cases hd
 rename_i b0 s;split at hd
 rotate_left
 .cases hd
 rename_i ns hns;obtain⟨hnl,hd⟩:=cX hd;have hdd:oR [.agg [.ptr b0 0],s]=some (.ptr b0 0,jZ (jM ns) Em.div.aA):=by simp only[oR,hns];rw[dC hnl]
 have hst:mZ [.agg [.ptr b0 0],s]=some (.ptr b0 0,jZ (gB ns) Em.stop.aA):=by simp only[mZ,hns];rw[dC hnl]
 simp only[yAb,yAc]at hd;obtain⟨rfl,rfl⟩:=hd;obtain⟨ghN,qhN,hghN,hqhN,hN⟩:=hN;obtain⟨ghK,qhK,hghK,hqhK,hK⟩:=hK;obtain⟨ghM,qhM,hghM,hqhM,hM⟩:=hM;obtain⟨ghD,qhD,hghD,hqhD,hD⟩:=hD;obtain⟨gW,hgW,hW⟩:=hW;obtain⟨ghS,qhS,hghQ,hqhQ,hphQ,hQ⟩:=hS;have hS:=((fG.start hr hn).box (.box (.agg [.ptr b0 0]))).box (.box (.agg [.str [],.bool false,.int .i64 0,.int .i64 0,.slice 0 [] .full]));simp only[yAi,yAR,yAQ,yAa,yAK,yAL,yAp]at hS;apply mN.mR h0 func92 rfl
 focus(simp[show Tryz.f92.ntmps=_ from rfl,List.replicate];rfl)
 refine aD trivial ?_;obtain⟨kF,kG,kH,kI,kJ,kK⟩:=aB (hS.ks ((aC.length+1),.box (.agg [.str [],.bool false,.int .i64 0,.int .i64 0,.slice 0 [] .full])) yo).1;obtain⟨pZ,qA,qB,qC,qD,qE⟩:=aB (hS.ks (aC.length,.box (.agg [.ptr b0 0])) yo).1;rcases hN [.agg [.ptr b0 0]] _ (.ptr b0 0) _ l n rfl (hS.ne hs) hS.rd hS.le hl with⟨p1,n1,σ1,f1,e1,r1,k1,q1⟩ | ⟨e,σ1,f1,e1,w1,k1,q1⟩
 rotate_left
 .have hE:jM ns l n=.error e:=by simp[jM,aR,eR f1]
  have hpost:=hS.eW (dec:=oR) (args:=[.agg [.ptr b0 0],s]) hs hdd hr (eX hE) k1 q1;exact ux
 obtain⟨nm,g1,rfl⟩:=eS f1;have h1:=hS.call r1 ((aP.name) _ _ _ _ hS.le g1).2 k1 q1
 try simp only[yAa,yAD,yAK,yAL]at q1
 obtain⟨iZ,jA,jB,jC,jD,jE⟩:=aB (h1.ks ((aC.length+1),.box (.agg [.str [],.bool false,.int .i64 0,.int .i64 0,.slice 0 [] .full])) yo).1;obtain⟨qG,qH,qI,qJ,qK,qL⟩:=aB (h1.ks (aC.length,.box (.agg [.ptr b0 0])) yo).1;obtain⟨u1,v1,w1⟩:=bO σ1
 first|refine Wp.seq ?_|skip
 apply Wp.dU;refine bM xg ?_;apply SQ.nil;have H1:=h1.box (.box (.agg [.str nm,.bool false,.int .i64 0,.int .i64 0,.slice 0 [] .full]));obtain⟨rK,rL,rM,rN,rO,rP⟩:=aB (H1.ks (σ1.length,.box (.agg [.str nm,.bool false,.int .i64 0,.int .i64 0,.slice 0 [] .full])) yo).1;obtain⟨rQ,rR,rS,rT,rU,rV⟩:=aB (H1.ks ((aC.length+1),.box (.agg [.str [],.bool false,.int .i64 0,.int .i64 0,.slice 0 [] .full])) yo).1;obtain⟨y7,y8,y9,zA,zB,zC⟩:=aB (H1.ks (aC.length,.box (.agg [.ptr b0 0])) yo).1;obtain⟨dL,t4,r4,k4,q4⟩:=hW [.ptr b0 0,.str [112,101,100,97,108]] _ (.ptr b0 0) _ l n1 ⟨_,rfl,rfl⟩ (H1.ne hs) H1.rd H1.le hl;have h4:=H1.call r4 (pY _ H1.le) k4 q4;obtain⟨X4,hX4⟩:=gn (bS (isWord 1 [112,101,100,97,108]) l n1);rw[hX4]at t4 h4;obtain⟨⟨t4t,pd⟩,n4⟩:=X4;simp only[gY]at t4 h4;have g4:vW [112,101,100,97,108] l n1=.ok (pd,n4):=by simp[vW,hX4]
 try simp only[yAa,yAD,yAK,yAL]at q4
 obtain⟨zD,zE,zF,zG,zH,zI⟩:=aB (h4.ks (σ1.length,.box (.agg [.str nm,.bool false,.int .i64 0,.int .i64 0,.slice 0 [] .full])) yo).1;obtain⟨zJ,zK,zL,zM,zN,zO⟩:=aB (h4.ks ((aC.length+1),.box (.agg [.str [],.bool false,.int .i64 0,.int .i64 0,.slice 0 [] .full])) yo).1;obtain⟨zP,zQ,zR,zS,zT,zU⟩:=aB (h4.ks (aC.length,.box (.agg [.ptr b0 0])) yo).1;obtain⟨u4,v4,w4⟩:=bO dL;have H4:=h4.set (i:=σ1.length) (o0:=.box (.agg [.str nm,.bool false,.int .i64 0,.int .i64 0,.slice 0 [] .full])) (o:=.box (.agg [.str nm,.bool pd,.int .i64 0,.int .i64 0,.slice 0 [] .full])) [] [((aC.length+1),.box (.agg [.str [],.bool false,.int .i64 0,.int .i64 0,.slice 0 [] .full])),(aC.length,.box (.agg [.ptr b0 0]))] rfl yz;obtain⟨zV,zW,zX,zY,zZ,z7⟩:=aB (H4.ks (σ1.length,.box (.agg [.str nm,.bool pd,.int .i64 0,.int .i64 0,.slice 0 [] .full])) yo).1;obtain⟨z8,AA,AB,AD,AE,AF⟩:=aB (H4.ks ((aC.length+1),.box (.agg [.str [],.bool false,.int .i64 0,.int .i64 0,.slice 0 [] .full])) yo).1;obtain⟨AG,AH,AI,AJ,AK,AL⟩:=aB (H4.ks (aC.length,.box (.agg [.ptr b0 0])) yo).1;refine aD (A20 iZ jA jB jC jD jE qG qH qI qJ qK qL u1 @v1 w1 rK rL rM rN (A20 rO rP rQ rR rS rT rU rV y7 y8 y9 zA zB zC hgW @t4 zD zE zF (A20 zG zH zI zJ zK zL zM zN zO zP zQ zR zS zT zU u4 @v4 w4 zV (A17 zW zX zY zZ z7 z8 AA AB AD AE AF AG AH AI AJ AK AL)))) ?_;obtain⟨rW,rX,rY,rZ,sA,sB⟩:=aB (H4.ks (σ1.length,.box (.agg [.str nm,.bool pd,.int .i64 0,.int .i64 0,.slice 0 [] .full])) yo).1;obtain⟨sC,sD,sE,sF,sG,sH⟩:=aB (H4.ks ((aC.length+1),.box (.agg [.str [],.bool false,.int .i64 0,.int .i64 0,.slice 0 [] .full])) yo).1;obtain⟨tQ,tR,tS,tT,tU,tV⟩:=aB (H4.ks (aC.length,.box (.agg [.ptr b0 0])) yo).1;rcases hK [.agg [.ptr b0 0],.str [107,101,121,115]] _ (.ptr b0 0) _ l n4 rfl (H4.ne hs) H4.rd H4.le hl with⟨p7,n7,FH,f7,e7,r7,k7,q7⟩ | ⟨e,FH,f7,e7,w7,k7,q7⟩
 rotate_left
 .have hE:jM ns l n=.error e:=by simp[jM,aR,g1,g4,eR f7]
  have hpost:=H4.eW (dec:=oR) (args:=[.agg [.ptr b0 0],s]) hs hdd hr (eX hE) k7 q7;exact vf
 obtain⟨u1,g7,rfl⟩:=eS f7;have h7:=H4.call r7 ((aP.key) _ _ _ _ H4.le g7).2 k7 q7
 try simp only[yAa,yAD,yAK,yAL]at q7
 obtain⟨FN,FO,FP,FQ,FT,FU⟩:=aB (h7.ks (σ1.length,.box (.agg [.str nm,.bool pd,.int .i64 0,.int .i64 0,.slice 0 [] .full])) yo).1;obtain⟨FV,FW,FX,FY,FZ,F0⟩:=aB (h7.ks ((aC.length+1),.box (.agg [.str [],.bool false,.int .i64 0,.int .i64 0,.slice 0 [] .full])) yo).1;obtain⟨F2,F3,F4,F5,F6,F7⟩:=aB (h7.ks (aC.length,.box (.agg [.ptr b0 0])) yo).1;obtain⟨u7,v7,w7⟩:=bO FH
 first|refine Wp.seq ?_|skip
 apply Wp.dU;refine bM yd ?_;apply SQ.nil;refine aD ye ?_;obtain⟨tW,tX,tY,tZ,uA,uB⟩:=aB (h7.ks (σ1.length,.box (.agg [.str nm,.bool pd,.int .i64 0,.int .i64 0,.slice 0 [] .full])) yo).1;obtain⟨uC,uD,uE,uF,uG,uH⟩:=aB (h7.ks ((aC.length+1),.box (.agg [.str [],.bool false,.int .i64 0,.int .i64 0,.slice 0 [] .full])) yo).1;obtain⟨uI,uJ,uK,uL,uM,uN⟩:=aB (h7.ks (aC.length,.box (.agg [.ptr b0 0])) yo).1;rcases hM [.agg [.ptr b0 0]] _ (.ptr b0 0) _ l n7 rfl (h7.ne hs) h7.rd h7.le hl with⟨p9,n9,oD,f9,e9,r9,k9,q9⟩ | ⟨e,oD,f9,e9,w9,k9,q9⟩
 rotate_left
 .have hE:jM ns l n=.error e:=by simp[jM,aR,g1,g4,g7,eR f9]
  have hpost:=h7.eW (dec:=oR) (args:=[.agg [.ptr b0 0],s]) hs hdd hr (eX hE) k9 q9
  first|refine WL.bD 1 yu yu ?_|refine WL.eE 1 yu yu ?_
  refine bM xh ?_;exact wg
 obtain⟨lo,g9,rfl⟩:=eS f9;have h9:=h7.call r9 ((aP.num) _ _ _ _ h7.le g9).2 k9 q9
 try simp only[yAa,yAD,yAK,yAL]at q9
 obtain⟨AR,AS,AT,AU,AV,AW⟩:=aB (h9.ks (σ1.length,.box (.agg [.str nm,.bool pd,.int .i64 0,.int .i64 0,.slice 0 [] .full])) yo).1;obtain⟨AX,AY,AZ,A0,A1,BA⟩:=aB (h9.ks ((aC.length+1),.box (.agg [.str [],.bool false,.int .i64 0,.int .i64 0,.slice 0 [] .full])) yo).1;obtain⟨BC,BD,BE,BF,BG,BH⟩:=aB (h9.ks (aC.length,.box (.agg [.ptr b0 0])) yo).1;obtain⟨u9,v9,w9⟩:=bO oD
 first|refine Wp.seq ?_|skip
 apply Wp.dU;refine bM yh ?_;apply SQ.nil;have H9:=h9.set (i:=σ1.length) (o0:=.box (.agg [.str nm,.bool pd,.int .i64 0,.int .i64 0,.slice 0 [] .full])) (o:=.box (.agg [.str nm,.bool pd,.int .i64 lo,.int .i64 0,.slice 0 [] .full])) [] [((aC.length+1),.box (.agg [.str [],.bool false,.int .i64 0,.int .i64 0,.slice 0 [] .full])),(aC.length,.box (.agg [.ptr b0 0]))] rfl yz;refine aD xj ?_;obtain⟨BI,BJ,BK,BL,BM,BN⟩:=aB (H9.ks (σ1.length,.box (.agg [.str nm,.bool pd,.int .i64 lo,.int .i64 0,.slice 0 [] .full])) yo).1;obtain⟨BO,BP,BQ,BR,BS,BT⟩:=aB (H9.ks ((aC.length+1),.box (.agg [.str [],.bool false,.int .i64 0,.int .i64 0,.slice 0 [] .full])) yo).1;obtain⟨BU,BV,BW,BY,BZ,B0⟩:=aB (H9.ks (aC.length,.box (.agg [.ptr b0 0])) yo).1;rcases hM [.agg [.ptr b0 0]] _ (.ptr b0 0) _ l n9 rfl (H9.ne hs) H9.rd H9.le hl with⟨p11,TO,JY,f11,u6,TP,sO,oW⟩ | ⟨e,JY,f11,u6,oX,sO,oW⟩
 rotate_left
 .have hE:jM ns l n=.error e:=by simp[jM,aR,g1,g4,g7,g9,eR f11]
  have hpost:=H9.eW (dec:=oR) (args:=[.agg [.ptr b0 0],s]) hs hdd hr (eX hE) sO oW;exact vg
 obtain⟨hi,g11,rfl⟩:=eS f11;have h11:=H9.call TP ((aP.num) _ _ _ _ H9.le g11).2 sO oW
 try simp only[yAa,yAD,yAK,yAL]at oW
 obtain⟨B1,B2,B3,B4,B5,B6⟩:=aB (h11.ks (σ1.length,.box (.agg [.str nm,.bool pd,.int .i64 lo,.int .i64 0,.slice 0 [] .full])) yo).1;obtain⟨B7,B8,B9,CA,CB,CC⟩:=aB (h11.ks ((aC.length+1),.box (.agg [.str [],.bool false,.int .i64 0,.int .i64 0,.slice 0 [] .full])) yo).1;obtain⟨CD,CE,CF,CG,CH,CI⟩:=aB (h11.ks (aC.length,.box (.agg [.ptr b0 0])) yo).1;obtain⟨JZ,v11,oX⟩:=bO JY
 first|refine Wp.seq ?_|skip
 apply Wp.dU;refine bM yf ?_;apply SQ.nil;have iK:=h11.set (i:=σ1.length) (o0:=.box (.agg [.str nm,.bool pd,.int .i64 lo,.int .i64 0,.slice 0 [] .full])) (o:=.box (.agg [.str nm,.bool pd,.int .i64 lo,.int .i64 hi,.slice 0 [] .full])) [] [((aC.length+1),.box (.agg [.str [],.bool false,.int .i64 0,.int .i64 0,.slice 0 [] .full])),(aC.length,.box (.agg [.ptr b0 0]))] rfl yz;refine aD xq ?_;obtain⟨CJ,CL,CM,CN,CO,CP⟩:=aB (iK.ks (σ1.length,.box (.agg [.str nm,.bool pd,.int .i64 lo,.int .i64 hi,.slice 0 [] .full])) yo).1;obtain⟨wD,wE,wF,wG,wH,wI⟩:=aB (iK.ks ((aC.length+1),.box (.agg [.str [],.bool false,.int .i64 0,.int .i64 0,.slice 0 [] .full])) yo).1;obtain⟨CQ,CR,CS,CT,CU,CV⟩:=aB (iK.ks (aC.length,.box (.agg [.ptr b0 0])) yo).1;rcases hD [.agg [.ptr b0 0]] _ (.ptr b0 0) _ l TO rfl (iK.ne hs) iK.rd iK.le hl with⟨p13,qM,xQ,f13,vA,TQ,sP,oY⟩ | ⟨e,xQ,f13,vA,oZ,sP,oY⟩
 rotate_left
 .have hE:jM ns l n=.error e:=by simp[jM,aR,g1,g4,g7,g9,g11,eR f13]
  have hpost:=iK.eW (dec:=oR) (args:=[.agg [.ptr b0 0],s]) hs hdd hr (eX hE) sP oY
  first|refine WL.bD 1 yu yu ?_|refine WL.eE 1 yu yu ?_
  refine bM xu ?_;exact wh
 obtain⟨u2,g13,rfl⟩:=eS f13;have kL:=iK.call TQ ((aP.fO) _ _ _ _ iK.le g13).2 sP oY
 try simp only[yAa,yAD,yAK,yAL]at oY
 obtain⟨wK,wL,wM,wN,wP,wQ⟩:=aB (kL.ks (σ1.length,.box (.agg [.str nm,.bool pd,.int .i64 lo,.int .i64 hi,.slice 0 [] .full])) yo).1;obtain⟨uO,uP,uQ,uR,uS,uT⟩:=aB (kL.ks ((aC.length+1),.box (.agg [.str [],.bool false,.int .i64 0,.int .i64 0,.slice 0 [] .full])) yo).1;obtain⟨wR,wS,wU,wV,wW,wX⟩:=aB (kL.ks (aC.length,.box (.agg [.ptr b0 0])) yo).1;obtain⟨J0,J1,oZ⟩:=bO xQ
 first|refine Wp.seq ?_|skip
 apply Wp.dU;refine bM (A20 hghD vA CJ CL CM CN CO CP wD wE wF wG wH wI CQ CR CS CT CU (A20 CV wK wL wM wN wP wQ uO uP uQ uR uS uT wR wS wU wV wW wX (A3 J0 J1 oZ))) ?_;apply SQ.nil;refine aD yg ?_;obtain⟨mm,hmm⟩:=gn (σ1.length);simp only[hmm]at kL ⊢;obtain⟨XM,hXM⟩:=gn (oT [115,116,111,112] (gB ns) l qM);refine Wp.dK (λm fr σ=>∃(ac:List cM) (z nn:Nat) (tok:Tok) (σ1:List U),∃gg:Nat->PD,(nn+m=l.length/\nI [115,116,111,112] (gB ns) l XM ac nn/\(ac=[]\/z=4)/\fW aC σ1 tok 65 4 ac.length/\fG aC (.ptr b0 0) l σ1 nn [(mm,.box (.agg [.str nm,.bool pd,.int .i64 lo,.int .i64 hi,.slice z (ac.map Em.stop.aA) tok])),(aC.length+1,.box (.agg [.str [],.bool false,.int .i64 0,.int .i64 0,.slice 0 [] .full])),(aC.length,.box (.agg [.ptr b0 0]))])/\fr=[gg 0,s,.ptr aC.length 0,gg 3,.ptr (aC.length+1) 0,.ptr mm 0,gg 6,gg 7,gg 8,gg 9,gg 10,gg 11,gg 12,gg 13,gg 14,gg 15,gg 16,gg 17,gg 18,gg 19,gg 20,gg 21,gg 22,gg 23,gg 24,gg 25,gg 26,gg 27,gg 28,gg 29,gg 30,gg 31,gg 32,gg 33,gg 34,gg 35,gg 36]/\σ=σ1) ?_ (l.length-qM) (by refine⟨[],0,qM,.full,xQ,?_⟩;exact bV (⟨by have:=kL.le;omega,hXM▸nI.start,.inl rfl,.nil,kL⟩))
 rintro m fr σ ⟨ac,z,nn,tok,σ1,gg,hI,rfl,rfl⟩
 obtain⟨hm,hMa,hz,hrow,hB⟩:=hI;have hal:=hMa.1;obtain⟨sI,sJ,sK,sL,sM,sN⟩:=aB (hB.ks (mm,.box (.agg [.str nm,.bool pd,.int .i64 lo,.int .i64 hi,.slice z (ac.map Em.stop.aA) tok])) yo).1;obtain⟨CX,CY,CZ,C1,C3,C4⟩:=aB (hB.ks ((aC.length+1),.box (.agg [.str [],.bool false,.int .i64 0,.int .i64 0,.slice 0 [] .full])) yo).1;obtain⟨C5,C6,C7,C8,C9,DC⟩:=aB (hB.ks (aC.length,.box (.agg [.ptr b0 0])) yo).1;obtain⟨u2,v2,w2⟩:=bO σ;obtain⟨AM,mO,r2k,QB,q2k⟩:=hW [.ptr b0 0,.str [115,116,111,112]] _ (.ptr b0 0) _ l nn ⟨_,rfl,rfl⟩ (hB.ne hs) hB.rd hB.le hl;have bH:=hB.call r2k (pY _ hB.le) QB q2k;have hrow:=hrow.call hB QB;cases c2:(bS (isWord 1 [115,116,111,112]) l nn).1.2
 rotate_left
 .skip
  obtain⟨t2,_,_,e2⟩:=KV c2;rw[e2]at mO bH;simp only[gY]at mO bH;obtain⟨DD,DE,DF,DG,DH,DI⟩:=aB (bH.ks (mm,.box (.agg [.str nm,.bool pd,.int .i64 lo,.int .i64 hi,.slice z (ac.map Em.stop.aA) tok])) yo).1;obtain⟨DJ,DK,DL,DM,DN,DO⟩:=aB (bH.ks ((aC.length+1),.box (.agg [.str [],.bool false,.int .i64 0,.int .i64 0,.slice 0 [] .full])) yo).1;obtain⟨DP,DR,DS,DT,DU,DV⟩:=aB (bH.ks (aC.length,.box (.agg [.ptr b0 0])) yo).1;obtain⟨AO,AP,AQ⟩:=bO AM;refine aD (A20 hgW mO sI sJ sK sL sM sN CX CY CZ C1 C3 C4 C5 C6 C7 C8 C9 (A20 DC u2 @v2 w2 DD DE DF DG DH DI DJ DK DL DM DN DO DP DR DS (A6 DT DU DV AO AP AQ))) ?_;obtain⟨uU,uV,uW,uX,uY,uZ⟩:=aB (bH.ks (mm,.box (.agg [.str nm,.bool pd,.int .i64 lo,.int .i64 hi,.slice z (ac.map Em.stop.aA) tok])) yo).1;obtain⟨wY,wZ,xA,xB,xC,xD⟩:=aB (bH.ks ((aC.length+1),.box (.agg [.str [],.bool false,.int .i64 0,.int .i64 0,.slice 0 [] .full])) yo).1;obtain⟨xE,xF,xG,xH,xI,xJ⟩:=aB (bH.ks (aC.length,.box (.agg [.ptr b0 0])) yo).1;obtain⟨u4,v4,w4⟩:=bO AM;have hbx:∀id∈[mm],∃b,(AM)[id]?=some (U.box b):=λid hid=>by
   simp only[yAS,yBl,yBm]at hid;have hidd:=hid
   .rw[hidd];exact⟨_,(bH.ks (mm,.box (.agg [.str nm,.bool pd,.int .i64 lo,.int .i64 hi,.slice z (ac.map Em.stop.aA) tok])) yo).1⟩
  have hne:=bH.ne hs;rcases hQ [.agg [.ptr b0 0],s] _ (.ptr b0 0) _ l (nn+1) hst (bH.ne hs) bH.rd bH.le hl with⟨p4,n4,dL,f4,e4,r4,k4,q4⟩ | ⟨e,dL,f4,e4,w4w,k4,q4⟩
  rotate_left
  .skip
   have hEb:gB ns l (nn+1)=.error e:=eR f4;have hEm:=hMa.er hB.le e2 hEb;have hE:jM ns l n=.error e:=by simp[jM,aR,g1,g4,g7,g9,g11,g13,hXM,hEm]
   have hpost:=bH.eW (dec:=oR) (args:=[.agg [.ptr b0 0],s]) hs hdd hr (eX hE) k4 q4;rw[show ac.length=(ac.map Em.stop.aA).length by simp]at hrow;obtain⟨tokF,aPr,hap,hrowF,hPF,_⟩:=hrow.push (P:=prog) (t:=60) (b:=56) (s:=z) (xs:=ac.map Em.stop.aA) (p:=.agg [PD.mark,PD.mark,PD.mark,PD.mark]) (tk:=.any) bH yo yo underlying60 yp (hz.imp (λh=>zn) id) Ay Ay;obtain⟨LG,LH,LI,LJ,LK,LL⟩:=aB (hPF.ks (mm,.box (.agg [.str nm,.bool pd,.int .i64 lo,.int .i64 hi,.slice z (ac.map Em.stop.aA) tok])) yo).1;obtain⟨LM,LN,LO,LP,LQ,LR⟩:=aB (hPF.ks ((aC.length+1),.box (.agg [.str [],.bool false,.int .i64 0,.int .i64 0,.slice 0 [] .full])) yo).1;obtain⟨LU,LV,LW,LX,LY,LZ⟩:=aB (hPF.ks (aC.length,.box (.agg [.ptr b0 0])) yo).1;have hkF:=aH3 (B:=[mm]) (x:=.agg [PD.mark,PD.mark,PD.mark,PD.mark]) hghQ hqhQ e4 w4w;unfold PD.mark at hap hkF;refine WL.aH4 4 hU yu zb (v:=LF e) (τ:=dL) (x:=.agg [.bG (.bool true),.bG (.bool true),.bG (.bool true),.bG (.bool true)]) yu hghQ hqhQ hphQ hne [(5,mm),(2,aC.length)] [mm] [some mm] hbx ⟨⟨_,rfl,rfl⟩,⟨_,rfl,rfl⟩,trivial⟩ yp Bn ?_ ?_ ?_
   .skip
    refine j9 (A20 uU uV uW uX uY uZ wY wZ xA xB xC xD xE xF xG xH xI xJ u4 (A2 @v4 w4)) ?_;exact lp
   .skip
    refine j9 (A20 hap hkF uU uV uW uX uY uZ wY wZ xA xB xC xD xE xF xG xH xI (A20 xJ u4 @v4 w4 LG LH LI LJ LK LL LM LN LO LP LQ LR LU LV LW (A3 LX LY LZ))) ?_;exact rq
   .skip
    exact af
  obtain⟨⟨sn,s1,s2,sg⟩,g4,rfl⟩:=eS f4;have h4:=bH.call r4 ((aP.stop) _ _ _ _ bH.le g4).2 k4 q4;have hrow:=hrow.call bH k4;simp only[PE,eN]at e4;obtain⟨II,IJ,IK,IL,IM,IN⟩:=aB (h4.ks (mm,.box (.agg [.str nm,.bool pd,.int .i64 lo,.int .i64 hi,.slice z (ac.map Em.stop.aA) tok])) yo).1;obtain⟨IP,IQ,IS,IT,IU,IV⟩:=aB (h4.ks ((aC.length+1),.box (.agg [.str [],.bool false,.int .i64 0,.int .i64 0,.slice 0 [] .full])) yo).1;obtain⟨IW,IX,IY,IZ,I0,I1⟩:=aB (h4.ks (aC.length,.box (.agg [.ptr b0 0])) yo).1;obtain⟨u4b,v4b,w4b⟩:=bO dL;have hkk:=aDq (B:=[mm]) hghQ e4 q4 (λid hid _=>by
   simp only[yAS,yBl,yBm]at hid;have hidd:=hid
   .rw[hidd];exact(h4.ks (mm,.box (.agg [.str nm,.bool pd,.int .i64 lo,.int .i64 hi,.slice z (ac.map Em.stop.aA) tok])) yo).1.trans (bH.ks (mm,.box (.agg [.str nm,.bool pd,.int .i64 lo,.int .i64 hi,.slice z (ac.map Em.stop.aA) tok])) yo).1.symm)
  rw[show ac.length=(ac.map Em.stop.aA).length by simp]at hrow;obtain⟨tokP,aAU,hap,hrowP,hP,hkeep⟩:=hrow.push (P:=prog) (t:=60) (b:=56) (s:=z) (xs:=ac.map Em.stop.aA) (p:=.agg [.str sn,.int .i64 s1,.int .i64 s2,.slice (sz 3 sg) (sg.map Em.cK.aA) .any]) (tk:=.any) h4 yo yo underlying60 yp (hz.imp (λh=>zn) id) Az Az;simp only[yAe]at hrowP;obtain⟨DW,DY,DZ,D0,D1,D2⟩:=aB (hP.ks (mm,.box (.agg [.str nm,.bool pd,.int .i64 lo,.int .i64 hi,.slice z (ac.map Em.stop.aA) tok])) yo).1;obtain⟨F8,F9,GA,GB,GC,GD⟩:=aB (hP.ks ((aC.length+1),.box (.agg [.str [],.bool false,.int .i64 0,.int .i64 0,.slice 0 [] .full])) yo).1;obtain⟨GF,GG,GH,GI,GJ,GK⟩:=aB (hP.ks (aC.length,.box (.agg [.ptr b0 0])) yo).1;refine Wp.aH5 hghQ hphQ hne [(5,mm),(2,aC.length)] [mm] [some mm] zb hbx ⟨⟨_,rfl,rfl⟩,⟨_,rfl,rfl⟩,trivial⟩ yp Bn ?_;refine bM (A20 hap hkk uU uV uW uX uY uZ wY wZ xA xB xC xD xE xF xG xH xI (A20 xJ u4 @v4 w4 II IJ IK IL IM IN IP IQ IS IT IU IV IW IX IY (A20 IZ I0 I1 u4b v4b w4b DW DY DZ D0 D1 D2 F8 F9 GA GB GC GD GF (A5 GG GH GI GJ GK)))) ?_;apply SQ.nil
  repeat(first|refine aO.normal ?_|refine aS.normal ?_)
  obtain⟨aAV,hlt,hle⟩:=hMa.ok hB.le aP.stop e2 g4;have hQ1:=hP.set (i:=mm) (o:=.box (.agg [.str nm,.bool pd,.int .i64 lo,.int .i64 hi,.slice 4 ((ac++[(⟨sn,s1,s2,sg⟩:cM)]).map Em.stop.aA) tokP])) [] [((aC.length+1),.box (.agg [.str [],.bool false,.int .i64 0,.int .i64 0,.slice 0 [] .full])),(aC.length,.box (.agg [.ptr b0 0]))] rfl yz;have IH:=hrowP.set (i:=mm) (o:=.box (.agg [.str nm,.bool pd,.int .i64 lo,.int .i64 hi,.slice 4 ((ac++[(⟨sn,s1,s2,sg⟩:cM)]).map Em.stop.aA) tokP])) hP za;rw[show ac.length+1=(ac++[(⟨sn,s1,s2,sg⟩:cM)]).length by simp]at IH;refine aL.normal (l.length-n4) ym ⟨ac++[(⟨sn,s1,s2,sg⟩:cM)],4,n4,tokP,_,bV (⟨ym,aAV,.inr rfl,IH,hQ1⟩)⟩
 have QD:=hMa.stop hB.le c2;have e2:=NY c2;rw[e2]at mO bH;simp only[gY]at mO bH;obtain⟨I2,I3,I4,I5,I6,I7⟩:=aB (bH.ks (mm,.box (.agg [.str nm,.bool pd,.int .i64 lo,.int .i64 hi,.slice z (ac.map Em.stop.aA) tok])) yo).1;obtain⟨I8,I9,JA,JB,JC,JD⟩:=aB (bH.ks ((aC.length+1),.box (.agg [.str [],.bool false,.int .i64 0,.int .i64 0,.slice 0 [] .full])) yo).1;obtain⟨L0,L1,L2,L3,L4,L5⟩:=aB (bH.ks (aC.length,.box (.agg [.ptr b0 0])) yo).1;obtain⟨AO,AP,AQ⟩:=bO AM;obtain⟨Y,hY⟩:=gn (PD.slice z (ac.map Em.stop.aA) tok);have hYp:Y.plain=true:=Cq;have hYq:=hYp;unfold PD.plain at hYq;have hYs:Y.strip=aCp.aA ac:=by
  rw[<-hY,PD.lD,show(ac.map Em.stop.aA).map PD.strip=ac.map Em.stop.aA by rw[yBc];exact yAG λx _=>Em.stop.str x];exact vr
 rw[hY]at bH sJ sK sL sM sN sI I3 I4 I5 I6 I7 I2;have EF:=bH.set (i:=(aC.length+1)) (o0:=.box (.agg [.str [],.bool false,.int .i64 0,.int .i64 0,.slice 0 [] .full])) (o:=.box (.agg [.str nm,.bool pd,.int .i64 lo,.int .i64 hi,Y])) [(mm,.box (.agg [.str nm,.bool pd,.int .i64 lo,.int .i64 hi,Y]))] [(aC.length,.box (.agg [.ptr b0 0]))] rfl yz;obtain⟨D3,D4,D5,D6,D7,D8⟩:=aB (EF.ks (mm,.box (.agg [.str nm,.bool pd,.int .i64 lo,.int .i64 hi,Y])) yo).1;obtain⟨xK,xL,xM,xN,xO,xP⟩:=aB (EF.ks ((aC.length+1),.box (.agg [.str nm,.bool pd,.int .i64 lo,.int .i64 hi,Y])) yo).1;obtain⟨D9,EA,EB,EC,ED,EE⟩:=aB (EF.ks (aC.length,.box (.agg [.ptr b0 0])) yo).1;refine aD (A20 hgW mO sI sJ sK sL sM sN CX CY CZ C1 C3 C4 C5 C6 C7 C8 C9 (A20 DC u2 @v2 w2 I2 I3 I4 I5 I6 I7 I8 I9 JA JB JC JD L0 L1 L2 (A20 L3 L4 L5 AO AP AQ hYp hYq D3 D4 D5 D6 D7 D8 xK xL xM xN xO (A7 xP D9 EA EB EC ED EE)))) ?_;have hfin:(PD.agg [.str nm,.bool pd,.int .i64 lo,.int .i64 hi,Y]).strip=Em.div.aA ⟨nm,pd,lo,hi,ac⟩:=by simp only[PD.strip,PD.lP,hYs,aCq]
 have hP:jM ns l n=.ok (⟨nm,pd,lo,hi,ac⟩,nn):=by simp[jM,aR,eG,g1,g4,g7,g9,g11,g13,hXM,QD]
 right
 simp[hgW,mO,sI,sJ,sK,sL,sM,sN,CX,CY,CZ,C1,C3,C4,C5,C6,C7,C8,C9,DC,u2,v2,w2,I2,I3,I4,I5,I6,I7,I8,I9,JA,JB,JC,JD,L0,L1,L2,L3,L4,L5,AO,AP,AQ,hYp,hYq,D3,D4,D5,D6,D7,D8,xK,xL,xM,xN,xO,xP,D9,EA,EB,EC,ED,EE];exact uf
end
end Go.Kz
