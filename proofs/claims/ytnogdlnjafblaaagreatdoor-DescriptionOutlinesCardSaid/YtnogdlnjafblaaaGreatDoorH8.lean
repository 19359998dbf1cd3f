/- Steps of the proof. -/
import Derived.Test.YtnogdlnjafblaaaGreatDoorI5
import Derived.Test.YtnogdlnjafblaaaGreatDoorI3
set_option linter.all false
set_option maxHeartbeats 40000000
set_option maxRecDepth 100000
open Go.Proofs.Tryz
namespace Go.Kz
open Go Go.Proofs
section
noncomputable def aAl:Nat->List PD->List U->Option (PD×List U):=entry (aY aU texts λl=>bE (l.length<=100000) (some (l.map aX.name)))
theorem a1C{fl:Nat}{σ:Dp}{Y:PD}{l:List aX}(h:Y.strip=aU.aA l)(hl:l.length<=100000):aAl fl [Y] σ=some (texts.aA (l.map aX.name),σ):=by
 have e1:=Em.cJ h;unfold aAl entry aY;simp only[e1,dC hl]
variable{E:aE}(hU:aG E)
include hU
set_option maxRecDepth 10000
theorem a1A(hR:RdC E)(hK:PC E 87 vO)(hN:PC E 88 vP)(hD:PC E 89 vQ)(hW:RC E 90 (HJ 1) gY)(hQ:pX E 91 pW)(hV:pX E 92 oR)(hC:pX E 93 nD)(hNm:E.ret 57=some aAl)(hL:E.ret 94=some (eD RS))(hX:PC E 95 yJ)(l:List Tk)(hl:l.length<=100000)(aC:List U) :
  ∀y,Tryz.f41.body=some y->∀x0 d z,y=.seq x0 (.seq d z)->Wp prog E none z 0 (dA.aA l::.aI []::PD.ptr aC.length 0::.ptr (aC.length+1) 0::.ptr (aC.length+2) 0::List.replicate 62 (.aI [])) [] (aC++[.box (.agg [.str [],.slice 0 [] .full,.slice 0 [] .full,.slice 0 [] .full]),.box (.agg [.int .i64 0,.int .i64 0]),.box (.int .i64 0)])
   (λr=>(∃v,r.x=.panic v/\r.ms=[]/\aOx aC (jX l 0) 2 4 v r.fr r.σ)\/((r.x=.normal\/r.x=.ret)/\r.ms=[]/\aOy aC (jX l 0) Em.fE.aA 2 4 r.fr r.σ)):=by
 intro y hy x0 d z e;obtain rfl:_=y:=yBw ((show Tryz.f41.body=some _ from rfl).symm.trans hy);cases e;simp only[List.replicate];clear hy;have hs:True:=trivial;obtain⟨gR,hgR,hR⟩:=hR;obtain⟨ghK,qhK,hghK,hqhK,hK⟩:=hK;obtain⟨ghN,qhN,hghN,hqhN,hN⟩:=hN;obtain⟨ghD,qhD,hghD,hqhD,hD⟩:=hD;obtain⟨ghX,qhX,hghX,hqhX,hX⟩:=hX;obtain⟨gW,hgW,hW⟩:=hW;obtain⟨ghQ,qhQ,hghQ,hqhQ,hphQ,hQ⟩:=hQ;obtain⟨ghV,qhV,hghV,hqhV,hphV,hV⟩:=hV;obtain⟨ghC,qhC,hghC,hqhC,hphC,hC⟩:=hC;obtain⟨b0,σ2,t2,r2,d2,q2,p2,k2⟩:=hR (aC++[.box (.agg [.str [],.slice 0 [] .full,.slice 0 [] .full,.slice 0 [] .full]),.box (.agg [.int .i64 0,.int .i64 0]),.box (.int .i64 0)]) l hl;have q2x:aC.length+3<=σ2.length:=by simpa using q2
 obtain⟨T,hT⟩:=gn (dA.aA l);rw[hT]at t2 ⊢;have h2:j4 aC (.ptr b0 0) l σ2 0 [(aC.length,.box (.agg [.str [],.slice 0 [] .full,.slice 0 [] .full,.slice 0 [] .full])),(aC.length+1,.box (.agg [.int .i64 0,.int .i64 0])),(aC.length+2,.box (.int .i64 0))]:=j4.start d2 r2 k2 yo (λj q h=>zp) (λp hp=>by
  simp only[yAS,yBl,yBm]at hp;rcases hp with rfl|rfl|rfl
  .simp
  .simp
  .simp) q2 p2
 have h3:=h2.box (.box (.agg [.ptr b0 0]));obtain⟨u2,v2,w2⟩:=bO σ2;refine aD (A5 hgR @t2 u2 @v2 w2) ?_;obtain⟨kF,kG,kH,kI,kJ,kK⟩:=aB (h3.ks (σ2.length,.box (.agg [.ptr b0 0])) yo).1;obtain⟨pZ,qA,qB,qC,qD,qE⟩:=aB (h3.ks (aC.length,.box (.agg [.str [],.slice 0 [] .full,.slice 0 [] .full,.slice 0 [] .full])) yo).1;obtain⟨aOz,aOA,aOB,aOC,aOD,aOE⟩:=aB (h3.ks ((aC.length+1),.box (.agg [.int .i64 0,.int .i64 0])) yo).1;obtain⟨aOF,aOG,aOH,aOI,aOJ,aOK⟩:=aB (h3.ks ((aC.length+2),.box (.int .i64 0)) yo).1;rcases hK [.agg [.ptr b0 0],.str [111,114,103,97,110]] _ (.ptr b0 0) _ l 0 rfl (h3.ne hs) h3.rd h3.le hl with⟨p1,n1,σ1,f1,e1,r1,k1,q1⟩ | ⟨e,σ1,f1,e1,w1,k1,q1⟩
 rotate_left
 .have hE:jX l 0=.error e:=by simp[jX,aR,eR f1]
  obtain⟨pk,pK⟩:=h3.er k1
  first|refine WL.bD 1 yu yu ?_|refine WL.eE 1 yu yu ?_
  refine bM (A20 kF kG kH kI kJ kK pZ qA qB qC qD qE aOz aOA aOB aOC aOD aOE aOF (A5 aOG aOH aOI aOJ aOK)) ?_;apply SQ.nil;refine dH.call (.i yu) yu yu hghK hqhK e1 w1 ?_;exact di
 obtain⟨u1,g1,rfl⟩:=eS f1;have h1:=h3.call r1 ((aP.key) _ _ _ _ h3.le g1).2 k1 q1
 try simp only[yAa,yAD,yAK,yAL]at q1
 obtain⟨iZ,jA,jB,jC,jD,jE⟩:=aB (h1.ks (σ2.length,.box (.agg [.ptr b0 0])) yo).1;obtain⟨qG,qH,qI,qJ,qK,qL⟩:=aB (h1.ks (aC.length,.box (.agg [.str [],.slice 0 [] .full,.slice 0 [] .full,.slice 0 [] .full])) yo).1;obtain⟨aOL,aOM,aON,aOO,aOP,aOQ⟩:=aB (h1.ks ((aC.length+1),.box (.agg [.int .i64 0,.int .i64 0])) yo).1;obtain⟨aOR,aOS,aOT,aOU,aOV,aOW⟩:=aB (h1.ks ((aC.length+2),.box (.int .i64 0)) yo).1;obtain⟨u1,v1,w1⟩:=bO σ1
 first|refine Wp.seq ?_|skip
 apply Wp.dU;refine bM (A20 hghK e1 kF kG kH kI kJ kK pZ qA qB qC qD qE aOz aOA aOB aOC aOD (A20 aOE aOF aOG aOH aOI aOJ aOK iZ jA jB jC jD jE qG qH qI qJ qK qL (A15 aOL aOM aON aOO aOP aOQ aOR aOS aOT aOU aOV aOW u1 @v1 w1))) ?_;apply SQ.nil;refine aD (A20 iZ jA jB jC jD jE qG qH qI qJ qK qL aOL aOM aON aOO aOP aOQ aOR (A8 aOS aOT aOU aOV aOW u1 @v1 w1)) ?_;obtain⟨rK,rL,rM,rN,rO,rP⟩:=aB (h1.ks (σ2.length,.box (.agg [.ptr b0 0])) yo).1;obtain⟨rQ,rR,rS,rT,rU,rV⟩:=aB (h1.ks (aC.length,.box (.agg [.str [],.slice 0 [] .full,.slice 0 [] .full,.slice 0 [] .full])) yo).1;obtain⟨y7,y8,y9,zA,zB,zC⟩:=aB (h1.ks ((aC.length+1),.box (.agg [.int .i64 0,.int .i64 0])) yo).1;obtain⟨aOX,aOY,aOZ,aO0,aO1,aO2⟩:=aB (h1.ks ((aC.length+2),.box (.int .i64 0)) yo).1;rcases hN [.agg [.ptr b0 0]] _ (.ptr b0 0) _ l n1 rfl (h1.ne hs) h1.rd h1.le hl with⟨p3,n3,σ3,f3,e3,r3,k3,q3⟩ | ⟨e,σ3,f3,e3,w3,k3,q3⟩
 rotate_left
 .have hE:jX l 0=.error e:=by simp[jX,aR,g1,eR f3]
  obtain⟨pk,pK⟩:=h1.er k3
  first|refine WL.bD 1 yu yu ?_|refine WL.eE 1 yu yu ?_
  refine bM (A20 rK rL rM rN rO rP rQ rR rS rT rU rV y7 y8 y9 zA zB zC aOX (A5 aOY aOZ aO0 aO1 aO2)) ?_;apply SQ.nil;refine dH.call (.i yu) yu yu hghN hqhN e3 w3 ?_;exact di
 obtain⟨nm,g3,rfl⟩:=eS f3;have h3:=h1.call r3 ((aP.name) _ _ _ _ h1.le g3).2 k3 q3
 try simp only[yAa,yAD,yAK,yAL]at q3
 obtain⟨tE,tF,tG,tH,tI,tJ⟩:=aB (h3.ks (σ2.length,.box (.agg [.ptr b0 0])) yo).1;obtain⟨tK,tL,tM,tN,tO,tP⟩:=aB (h3.ks (aC.length,.box (.agg [.str [],.slice 0 [] .full,.slice 0 [] .full,.slice 0 [] .full])) yo).1;obtain⟨IB,IC,ID,IE,IF,IG⟩:=aB (h3.ks ((aC.length+1),.box (.agg [.int .i64 0,.int .i64 0])) yo).1;obtain⟨aO3,aO4,aO5,aO6,aO7,aO8⟩:=aB (h3.ks ((aC.length+2),.box (.int .i64 0)) yo).1;obtain⟨u3,v3,w3⟩:=bO σ3
 first|refine Wp.seq ?_|skip
 apply Wp.dU;refine bM (A20 hghN e3 rK rL rM rN rO rP rQ rR rS rT rU rV y7 y8 y9 zA zB (A20 zC aOX aOY aOZ aO0 aO1 aO2 tE tF tG tH tI tJ tK tL tM tN tO tP (A15 IB IC ID IE IF IG aO3 aO4 aO5 aO6 aO7 aO8 u3 @v3 w3))) ?_;apply SQ.nil;have H3:=h3.set (i:=aC.length) (o0:=.box (.agg [.str [],.slice 0 [] .full,.slice 0 [] .full,.slice 0 [] .full])) (o:=.box (.agg [.str nm,.slice 0 [] .full,.slice 0 [] .full,.slice 0 [] .full])) [(σ2.length,.box (.agg [.ptr b0 0]))] [((aC.length+1),.box (.agg [.int .i64 0,.int .i64 0])),((aC.length+2),.box (.int .i64 0))] rfl yz;refine aD (A20 tE tF tG tH tI tJ tK tL tM tN tO tP IB IC ID IE IF IG aO3 (A8 aO4 aO5 aO6 aO7 aO8 u3 @v3 w3)) ?_;obtain⟨zD,zE,zF,zG,zH,zI⟩:=aB (H3.ks (σ2.length,.box (.agg [.ptr b0 0])) yo).1;obtain⟨zJ,zK,zL,zM,zN,zO⟩:=aB (H3.ks (aC.length,.box (.agg [.str nm,.slice 0 [] .full,.slice 0 [] .full,.slice 0 [] .full])) yo).1;obtain⟨zP,zQ,zR,zS,zT,zU⟩:=aB (H3.ks ((aC.length+1),.box (.agg [.int .i64 0,.int .i64 0])) yo).1;obtain⟨aO9,aPa,aPb,aPc,aPd,aPe⟩:=aB (H3.ks ((aC.length+2),.box (.int .i64 0)) yo).1;rcases hD [.agg [.ptr b0 0]] _ (.ptr b0 0) _ l n3 rfl (H3.ne hs) H3.rd H3.le hl with⟨p5,n5,kS,f5,e5,r5,k5,q5⟩ | ⟨e,kS,f5,e5,w5,k5,q5⟩
 rotate_left
 .have hE:jX l 0=.error e:=by simp[jX,aR,g1,g3,eR f5]
  obtain⟨pk,pK⟩:=H3.er k5
  first|refine WL.bD 1 yu yu ?_|refine WL.eE 1 yu yu ?_
  refine bM (A20 zD zE zF zG zH zI zJ zK zL zM zN zO zP zQ zR zS zT zU aO9 (A5 aPa aPb aPc aPd aPe)) ?_;apply SQ.nil;refine dH.call (.i yu) yu yu hghD hqhD e5 w5 ?_
  repeat(first|refine aS.panic ?_|refine aO.panic ?_|refine aL.panic ?_)
  exact .inl ⟨_,rfl,rfl,⟨e,[.str nm,.slice 0 [] .full,.slice 0 [] .full,.slice 0 [] .full],hE,rfl,rfl,rfl,rfl,rfl,rfl,pK (aC.length,_) yo,pK (aC.length+1,_) yo,pK (aC.length+2,_) yo,pk⟩⟩
 obtain⟨u3,g5,rfl⟩:=eS f5;have h5:=H3.call r5 ((aP.fO) _ _ _ _ H3.le g5).2 k5 q5
 try simp only[yAa,yAD,yAK,yAL]at q5
 obtain⟨zV,zW,zX,zY,zZ,z7⟩:=aB (h5.ks (σ2.length,.box (.agg [.ptr b0 0])) yo).1;obtain⟨z8,AA,AB,AD,AE,AF⟩:=aB (h5.ks (aC.length,.box (.agg [.str nm,.slice 0 [] .full,.slice 0 [] .full,.slice 0 [] .full])) yo).1;obtain⟨AG,AH,AI,AJ,AK,AL⟩:=aB (h5.ks ((aC.length+1),.box (.agg [.int .i64 0,.int .i64 0])) yo).1;obtain⟨aPf,aPg,aPh,aPi,aPj,aPk⟩:=aB (h5.ks ((aC.length+2),.box (.int .i64 0)) yo).1;obtain⟨u5,v5,w5⟩:=bO kS
 first|refine Wp.seq ?_|skip
 apply Wp.dU;refine bM (A20 hghD e5 zD zE zF zG zH zI zJ zK zL zM zN zO zP zQ zR zS zT (A20 zU aO9 aPa aPb aPc aPd aPe zV zW zX zY zZ z7 z8 AA AB AD AE AF (A15 AG AH AI AJ AK AL aPf aPg aPh aPi aPj aPk u5 @v5 w5))) ?_;apply SQ.nil;refine aD (A20 zV zW zX zY zZ z7 z8 AA AB AD AE AF AG AH AI AJ AK AL aPf (A8 aPg aPh aPi aPj aPk u5 @v5 w5)) ?_;obtain⟨rb,hrb⟩:=gn (σ2.length);simp only[hrb]at h5 q2x ⊢;obtain⟨XM,hXM⟩:=gn (oT [114,97,110,107] iX l n5);refine Wp.dK (λm fr σ=>∃(ac:List aX) (z nn:Nat) (tok:Tok) (σ1:List U),∃gg:Nat->PD,(nn+m=l.length/\nI [114,97,110,107] iX l XM ac nn/\(ac=[]\/z=6)/\fW aC σ1 tok 84 6 ac.length/\j4 aC (.ptr b0 0) l σ1 nn [(rb,.box (.agg [.ptr b0 0])),(aC.length,.box (.agg [.str nm,.slice z (ac.map Em.bC.aA) tok,.slice 0 [] .full,.slice 0 [] .full])),(aC.length+1,.box (.agg [.int .i64 0,.int .i64 0])),(aC.length+2,.box (.int .i64 0))])/\fr=T::gg 1::.ptr aC.length 0::.ptr (aC.length+1) 0::.ptr (aC.length+2) 0::.ptr rb 0::gg 6::gg 7::gg 8::gg 9::gg 10::gg 11::gg 12::gg 13::gg 14::gg 15::gg 16::gg 17::gg 18::gg 19::gg 20::gg 21::gg 22::gg 23::gg 24::gg 25::gg 26::gg 27::gg 28::gg 29::gg 30::gg 31::gg 32::gg 33::gg 34::gg 35::gg 36::gg 37::gg 38::gg 39::gg 40::gg 41::gg 42::gg 43::gg 44::gg 45::gg 46::gg 47::gg 48::gg 49::gg 50::gg 51::gg 52::gg 53::gg 54::gg 55::gg 56::gg 57::gg 58::gg 59::gg 60::gg 61::gg 62::gg 63::gg 64::gg 65::gg 66::[]/\σ=σ1) ?_ (l.length-n5) Au
 rintro m fr σ ⟨ac,z,nn,tok,σ1,gg,hI,rfl,rfl⟩
 obtain⟨hm,hMa,hz,hrow,hB⟩:=hI;have hal:=hMa.1;obtain⟨rW,rX,rY,rZ,sA,sB⟩:=aB (hB.ks (rb,.box (.agg [.ptr b0 0])) yo).1;obtain⟨sC,sD,sE,sF,sG,sH⟩:=aB (hB.ks (aC.length,.box (.agg [.str nm,.slice z (ac.map Em.bC.aA) tok,.slice 0 [] .full,.slice 0 [] .full])) yo).1;obtain⟨tQ,tR,tS,tT,tU,tV⟩:=aB (hB.ks ((aC.length+1),.box (.agg [.int .i64 0,.int .i64 0])) yo).1;obtain⟨aPl,aPm,aPn,aPo,aPp,aPq⟩:=aB (hB.ks ((aC.length+2),.box (.int .i64 0)) yo).1;obtain⟨u2,v2,w2⟩:=bO σ;obtain⟨AM,mO,r2k,QB,q2k⟩:=hW [.ptr b0 0,.str [114,97,110,107]] _ (.ptr b0 0) _ l nn ⟨_,rfl,rfl⟩ (hB.ne hs) hB.rd hB.le hl;have bH:=hB.call r2k (pY _ hB.le) QB q2k;have hrow:=hrow.QC hB QB;cases c2:(bS (isWord 1 [114,97,110,107]) l nn).1.2
 rotate_left
 .skip
  obtain⟨t2,_,_,e2⟩:=KV c2;rw[e2]at mO bH;simp only[gY]at mO bH;obtain⟨FN,FO,FP,FQ,FT,FU⟩:=aB (bH.ks (rb,.box (.agg [.ptr b0 0])) yo).1;obtain⟨FV,FW,FX,FY,FZ,F0⟩:=aB (bH.ks (aC.length,.box (.agg [.str nm,.slice z (ac.map Em.bC.aA) tok,.slice 0 [] .full,.slice 0 [] .full])) yo).1;obtain⟨F2,F3,F4,F5,F6,F7⟩:=aB (bH.ks ((aC.length+1),.box (.agg [.int .i64 0,.int .i64 0])) yo).1;obtain⟨a1D,a1E,a1F,a1G,a1H,a1I⟩:=aB (bH.ks ((aC.length+2),.box (.int .i64 0)) yo).1;obtain⟨AO,AP,AQ⟩:=bO AM;refine aD (A20 hgW mO rW rX rY rZ sA sB sC sD sE sF sG sH tQ tR tS tT tU (A20 tV aPl aPm aPn aPo aPp aPq u2 @v2 w2 FN FO FP FQ FT FU FV FW FX (A18 FY FZ F0 F2 F3 F4 F5 F6 F7 a1D a1E a1F a1G a1H a1I AO AP AQ))) ?_;obtain⟨tW,tX,tY,tZ,uA,uB⟩:=aB (bH.ks (rb,.box (.agg [.ptr b0 0])) yo).1;obtain⟨uC,uD,uE,uF,uG,uH⟩:=aB (bH.ks (aC.length,.box (.agg [.str nm,.slice z (ac.map Em.bC.aA) tok,.slice 0 [] .full,.slice 0 [] .full])) yo).1;obtain⟨uI,uJ,uK,uL,uM,uN⟩:=aB (bH.ks ((aC.length+1),.box (.agg [.int .i64 0,.int .i64 0])) yo).1;obtain⟨aHX,aHY,aHZ,aH0,aH1,aH2⟩:=aB (bH.ks ((aC.length+2),.box (.int .i64 0)) yo).1;obtain⟨u4,v4,w4⟩:=bO AM;have hbx:∀id∈[aC.length],∃b,(AM)[id]?=some (U.box b):=λid hid=>by
   simp only[yAS,yBl,yBm]at hid;have hidd:=hid
   .rw[hidd];exact⟨_,(bH.ks (aC.length,.box (.agg [.str nm,.slice z (ac.map Em.bC.aA) tok,.slice 0 [] .full,.slice 0 [] .full])) yo).1⟩
  have hne:=bH.ne hs;rcases hQ [.agg [.ptr b0 0]] _ (.ptr b0 0) _ l (nn+1) rfl (bH.ne hs) bH.rd bH.le hl with⟨p4,n4,dL,f4,e4,r4,k4,q4⟩ | ⟨e,dL,f4,e4,w4w,k4,q4⟩
  rotate_left
  .skip
   have hEb:iX l (nn+1)=.error e:=eR f4;have hEm:=hMa.er hB.le e2 hEb;have hE:jX l 0=.error e:=by simp[jX,aR,g1,g3,g5,hXM,hEm]
   obtain⟨pk,pK⟩:=bH.er k4;rw[show ac.length=(ac.map Em.bC.aA).length by simp]at hrow;obtain⟨tokF,aPr,hap,hrowF,hPF,_⟩:=hrow.WR (P:=prog) (t:=38) (b:=80) (s:=z) (xs:=ac.map Em.bC.aA) (p:=.agg [PD.mark,PD.mark,PD.mark,PD.mark,PD.mark,PD.mark]) (tk:=.any) bH yo yo underlying38 yp (hz.imp (λh=>zn) id) Ay Ay;obtain⟨AR,AS,AT,AU,AV,AW⟩:=aB (hPF.ks (rb,.box (.agg [.ptr b0 0])) yo).1;obtain⟨AX,AY,AZ,A0,A1,BA⟩:=aB (hPF.ks (aC.length,.box (.agg [.str nm,.slice z (ac.map Em.bC.aA) tok,.slice 0 [] .full,.slice 0 [] .full])) yo).1;obtain⟨BC,BD,BE,BF,BG,BH⟩:=aB (hPF.ks ((aC.length+1),.box (.agg [.int .i64 0,.int .i64 0])) yo).1;obtain⟨a1J,a1K,a1L,a1M,a1N,a1O⟩:=aB (hPF.ks ((aC.length+2),.box (.int .i64 0)) yo).1;have hkF:=aH3 (B:=[aC.length]) (x:=.agg [PD.mark,PD.mark,PD.mark,PD.mark,PD.mark,PD.mark]) hghQ hqhQ e4 w4w;unfold PD.mark at hap hkF;refine WL.aH4 3 hU yu zb (v:=LF e) (τ:=dL) (x:=.agg [.bG (.bool true),.bG (.bool true),.bG (.bool true),.bG (.bool true),.bG (.bool true),.bG (.bool true)]) yu hghQ hqhQ hphQ hne [(2,aC.length),(5,rb)] [aC.length] [some (aC.length)] hbx ⟨⟨_,rfl,rfl⟩,⟨_,rfl,rfl⟩,trivial⟩ yp Bn ?_ ?_ ?_
   .skip
    refine j9 (A20 tW tX tY tZ uA uB uC uD uE uF uG uH uI uJ uK uL uM uN aHX (A8 aHY aHZ aH0 aH1 aH2 u4 @v4 w4)) ?_;exact lp
   .skip
    refine j9 (A20 hap hkF tW tX tY tZ uA uB uC uD uE uF uG uH uI uJ uK uL uM (A20 uN aHX aHY aHZ aH0 aH1 aH2 u4 @v4 w4 AR AS AT AU AV AW AX AY AZ (A15 A0 A1 BA BC BD BE BF BG BH a1J a1K a1L a1M a1N a1O))) ?_;exact rq
   .skip
    repeat(first|refine aS.panic ?_|refine aO.panic ?_|refine aL.panic ?_)
    exact .inl ⟨_,rfl,rfl,⟨e,[.str nm,.slice z (ac.map Em.bC.aA) tok,.slice 0 [] .full,.slice 0 [] .full],hE,rfl,rfl,rfl,rfl,rfl,rfl,pK (aC.length,_) yo,pK (aC.length+1,_) yo,pK (aC.length+2,_) yo,pk⟩⟩
  obtain⟨⟨a1,a2,a3,a4,a5,a6⟩,g4,rfl⟩:=eS f4;have h4:=bH.call r4 ((aP.bC) _ _ _ _ bH.le g4).2 k4 q4;have hrow:=hrow.QC bH k4;simp only[RN,eN]at e4;obtain⟨BI,BJ,BK,BL,BM,BN⟩:=aB (h4.ks (rb,.box (.agg [.ptr b0 0])) yo).1;obtain⟨BO,BP,BQ,BR,BS,BT⟩:=aB (h4.ks (aC.length,.box (.agg [.str nm,.slice z (ac.map Em.bC.aA) tok,.slice 0 [] .full,.slice 0 [] .full])) yo).1;obtain⟨BU,BV,BW,BY,BZ,B0⟩:=aB (h4.ks ((aC.length+1),.box (.agg [.int .i64 0,.int .i64 0])) yo).1;obtain⟨aDr,aDs,aDt,aDu,aDv,aDw⟩:=aB (h4.ks ((aC.length+2),.box (.int .i64 0)) yo).1;obtain⟨u4b,v4b,w4b⟩:=bO dL;have hkk:=aDq (B:=[aC.length]) hghQ e4 q4 (λid hid _=>by
   simp only[yAS,yBl,yBm]at hid;have hidd:=hid
   .rw[hidd];exact(h4.ks (aC.length,.box (.agg [.str nm,.slice z (ac.map Em.bC.aA) tok,.slice 0 [] .full,.slice 0 [] .full])) yo).1.trans (bH.ks (aC.length,.box (.agg [.str nm,.slice z (ac.map Em.bC.aA) tok,.slice 0 [] .full,.slice 0 [] .full])) yo).1.symm)
  rw[show ac.length=(ac.map Em.bC.aA).length by simp]at hrow;obtain⟨tokP,aAU,hap,hrowP,hP,hkeep⟩:=hrow.WR (P:=prog) (t:=38) (b:=80) (s:=z) (xs:=ac.map Em.bC.aA) (p:=.agg [.str a1,.str a2,.int .i64 a3,.int .i64 a4,.int .i64 a5,.slice (sz 1 a6) (a6.map i64.aA) .any]) (tk:=.any) h4 yo yo underlying38 yp (hz.imp (λh=>zn) id) Az Az;simp only[yAe]at hrowP;obtain⟨B1,B2,B3,B4,B5,B6⟩:=aB (hP.ks (rb,.box (.agg [.ptr b0 0])) yo).1;obtain⟨B7,B8,B9,CA,CB,CC⟩:=aB (hP.ks (aC.length,.box (.agg [.str nm,.slice z (ac.map Em.bC.aA) tok,.slice 0 [] .full,.slice 0 [] .full])) yo).1;obtain⟨CD,CE,CF,CG,CH,CI⟩:=aB (hP.ks ((aC.length+1),.box (.agg [.int .i64 0,.int .i64 0])) yo).1;obtain⟨aDx,aDy,aDz,aDA,aDB,aDC⟩:=aB (hP.ks ((aC.length+2),.box (.int .i64 0)) yo).1;refine Wp.aH5 hghQ hphQ hne [(2,aC.length),(5,rb)] [aC.length] [some (aC.length)] zb hbx ⟨⟨_,rfl,rfl⟩,⟨_,rfl,rfl⟩,trivial⟩ yp Bn ?_;refine bM (A20 hap hkk tW tX tY tZ uA uB uC uD uE uF uG uH uI uJ uK uL uM (A20 uN aHX aHY aHZ aH0 aH1 aH2 u4 @v4 w4 BI BJ BK BL BM BN BO BP BQ (A20 BR BS BT BU BV BW BY BZ B0 aDr aDs aDt aDu aDv aDw u4b v4b w4b B1 (A20 B2 B3 B4 B5 B6 B7 B8 B9 CA CB CC CD CE CF CG CH CI aDx aDy (A4 aDz aDA aDB aDC))))) ?_;apply SQ.nil
  repeat(first|refine aO.normal ?_|refine aS.normal ?_)
  obtain⟨aAV,hlt,hle⟩:=hMa.ok hB.le aP.bC e2 g4;have hQ1:=hP.set (i:=aC.length) (o:=.box (.agg [.str nm,.slice 6 ((ac++[(⟨a1,a2,a3,a4,a5,a6⟩:aX)]).map Em.bC.aA) tokP,.slice 0 [] .full,.slice 0 [] .full])) [(rb,.box (.agg [.ptr b0 0]))] [((aC.length+1),.box (.agg [.int .i64 0,.int .i64 0])),((aC.length+2),.box (.int .i64 0))] rfl yz;have IH:=hrowP.WS (i:=aC.length) (o:=.box (.agg [.str nm,.slice 6 ((ac++[(⟨a1,a2,a3,a4,a5,a6⟩:aX)]).map Em.bC.aA) tokP,.slice 0 [] .full,.slice 0 [] .full])) hP za;rw[show ac.length+1=(ac++[(⟨a1,a2,a3,a4,a5,a6⟩:aX)]).length by simp]at IH;refine aL.normal (l.length-n4) ym ⟨ac++[(⟨a1,a2,a3,a4,a5,a6⟩:aX)],6,n4,tokP,_,bV (⟨ym,aAV,.inr rfl,IH,hQ1⟩)⟩
 have QD:=hMa.stop hB.le c2;have e2:=NY c2;rw[e2]at mO bH;simp only[gY]at mO bH;obtain⟨CJ,CL,CM,CN,CO,CP⟩:=aB (bH.ks (rb,.box (.agg [.ptr b0 0])) yo).1;obtain⟨wD,wE,wF,wG,wH,wI⟩:=aB (bH.ks (aC.length,.box (.agg [.str nm,.slice z (ac.map Em.bC.aA) tok,.slice 0 [] .full,.slice 0 [] .full])) yo).1;obtain⟨CQ,CR,CS,CT,CU,CV⟩:=aB (bH.ks ((aC.length+1),.box (.agg [.int .i64 0,.int .i64 0])) yo).1;obtain⟨aDD,aDE,aDF,aDG,aDH,aDI⟩:=aB (bH.ks ((aC.length+2),.box (.int .i64 0)) yo).1;obtain⟨AO,AP,AQ⟩:=bO AM;obtain⟨Y1,hY1⟩:=gn (PD.slice z (ac.map Em.bC.aA) tok);have wJ:Y1.plain=true:=by rw[<-hY1];rfl
 have pF:=wJ;unfold PD.plain at pF;have N3:Y1.strip=aU.aA ac:=by
  rw[<-hY1,PD.lD,show(ac.map Em.bC.aA).map PD.strip=ac.map Em.bC.aA by rw[yBc];exact yAG λx _=>Em.bC.str x];exact vr
 rw[hY1]at bH wE wF wG wH wI wD sD sE sF sG sH sC;refine aD (A20 hgW mO rW rX rY rZ sA sB sC sD sE sF sG sH tQ tR tS tT tU (A20 tV aPl aPm aPn aPo aPp aPq u2 @v2 w2 CJ CL CM CN CO CP wD wE wF (A20 wG wH wI CQ CR CS CT CU CV aDD aDE aDF aDG aDH aDI AO AP AQ wJ pF))) ?_;have hacl:ac.length<=100000:=by have:=bH.le;omega
 obtain⟨NS,hNS⟩:=gn (texts.aA (ac.map aX.name));have hnm:=λfl τ=>@a1C fl τ _ _ N3 hacl
 rw[hNS]at hnm;have hdv:oR [.agg [.ptr b0 0],NS]=some (.ptr b0 0,jZ (jM (ac.map aX.name)) Em.div.aA):=by
  have e1:texts.dec NS=some (ac.map aX.name):=by rw[<-hNS];exact Em.cJ (Em.str texts _)
  simp only[oR,e1];rw[dC zx]
 obtain⟨XN,hXN⟩:=gn (oT [100,105,118,105,115,105,111,110] (jM (ac.map aX.name)) l nn);refine Wp.dK (λm fr σ=>∃(ad:List bY) (AN:List PD) (z2 z3 n2:Nat) (eH WT:Tok) (σ1:List U),∃gg:Nat->PD,(n2+m=l.length/\AN=(ad.map bY.name).map PD.str/\nI [100,105,118,105,115,105,111,110] (jM (ac.map aX.name)) l XN ad n2/\(ad=[]\/z2=5)/\(ad=[]\/z3=1)/\fW aC σ1 eH 62 5 ad.length/\fW aC σ1 WT 9 1 ad.length/\(∀id,WT=.own id->eH≠.own id)/\j4 aC (.ptr b0 0) l σ1 n2 [(rb,.box (.agg [.ptr b0 0])),(aC.length,.box (.agg [.str nm,Y1,.slice z2 (ad.map Em.div.aA) eH,.slice 0 [] .full])),(aC.length+1,.box (.agg [.int .i64 0,.int .i64 0])),(aC.length+2,.box (.int .i64 0))])/\fr=T::gg 1::.ptr aC.length 0::.ptr (aC.length+1) 0::.ptr (aC.length+2) 0::.ptr rb 0::.slice z3 AN WT::gg 7::gg 8::gg 9::gg 10::gg 11::gg 12::gg 13::gg 14::gg 15::gg 16::gg 17::gg 18::gg 19::gg 20::gg 21::gg 22::gg 23::gg 24::gg 25::gg 26::gg 27::gg 28::gg 29::gg 30::gg 31::gg 32::gg 33::gg 34::gg 35::gg 36::gg 37::gg 38::gg 39::gg 40::gg 41::gg 42::gg 43::gg 44::gg 45::gg 46::gg 47::gg 48::gg 49::gg 50::gg 51::gg 52::gg 53::gg 54::gg 55::gg 56::gg 57::gg 58::gg 59::gg 60::gg 61::gg 62::gg 63::gg 64::gg 65::gg 66::[]/\σ=σ1) ?_ (l.length-nn) (by refine⟨[],[],0,0,nn,.full,.full,AM,?_⟩;exact bV (⟨by have:=bH.le;omega,rfl,hXN▸nI.start,.inl rfl,.inl rfl,.nil,.nil,(λ_ e=>zh),bH⟩))
 rintro m fr σ ⟨ad,AN,z2,z3,n2,eH,WT,σ1,gg,hI,rfl,rfl⟩
 obtain⟨hm2,hAN,hMb,fU,hz3,dZ,oS,hnd,pG⟩:=hI;have hbl:=hMb.1;obtain⟨wK,wL,wM,wN,wP,wQ⟩:=aB (pG.ks (rb,.box (.agg [.ptr b0 0])) yo).1;obtain⟨uO,uP,uQ,uR,uS,uT⟩:=aB (pG.ks (aC.length,.box (.agg [.str nm,Y1,.slice z2 (ad.map Em.div.aA) eH,.slice 0 [] .full])) yo).1;obtain⟨wR,wS,wU,wV,wW,wX⟩:=aB (pG.ks ((aC.length+1),.box (.agg [.int .i64 0,.int .i64 0])) yo).1;obtain⟨aAW,aAX,aAY,aAZ,aA0,aA1⟩:=aB (pG.ks ((aC.length+2),.box (.int .i64 0)) yo).1;obtain⟨u3,v3,w3⟩:=bO σ;obtain⟨lX,CW,r3k,SX,q3k⟩:=hW [.ptr b0 0,.str [100,105,118,105,115,105,111,110]] _ (.ptr b0 0) _ l n2 ⟨_,rfl,rfl⟩ (pG.ne hs) pG.rd pG.le hl;have dI:=pG.call r3k (pY _ pG.le) SX q3k;have dZ:=dZ.QC pG SX;have oS:=oS.QC pG SX;cases c3:(bS (isWord 1 [100,105,118,105,115,105,111,110]) l n2).1.2
 rotate_left
 .skip
  obtain⟨t3,_,_,e3⟩:=KV c3;rw[e3]at CW dI;simp only[gY]at CW dI;obtain⟨sI,sJ,sK,sL,sM,sN⟩:=aB (dI.ks (rb,.box (.agg [.ptr b0 0])) yo).1;obtain⟨CX,CY,CZ,C1,C3,C4⟩:=aB (dI.ks (aC.length,.box (.agg [.str nm,Y1,.slice z2 (ad.map Em.div.aA) eH,.slice 0 [] .full])) yo).1;obtain⟨C5,C6,C7,C8,C9,DC⟩:=aB (dI.ks ((aC.length+1),.box (.agg [.int .i64 0,.int .i64 0])) yo).1;obtain⟨aDJ,aDK,aDL,aDM,aDN,aDO⟩:=aB (dI.ks ((aC.length+2),.box (.int .i64 0)) yo).1;obtain⟨SY,SZ,S0⟩:=bO lX;refine aD (A20 hgW CW wK wL wM wN wP wQ uO uP uQ uR uS uT wR wS wU wV wW (A20 wX aAW aAX aAY aAZ aA0 aA1 u3 @v3 w3 sI sJ sK sL sM sN CX CY CZ (A18 C1 C3 C4 C5 C6 C7 C8 C9 DC aDJ aDK aDL aDM aDN aDO SY SZ S0))) ?_;have h5:=dI.box (.box (.agg [.str [],.bool false,.int .i64 0,.int .i64 0,.slice 0 [] .full]));obtain⟨DD,DE,DF,DG,DH,DI⟩:=aB (h5.ks (lX.length,.box (.agg [.str [],.bool false,.int .i64 0,.int .i64 0,.slice 0 [] .full])) yo).1;obtain⟨DJ,DK,DL,DM,DN,DO⟩:=aB (h5.ks (rb,.box (.agg [.ptr b0 0])) yo).1;obtain⟨DP,DR,DS,DT,DU,DV⟩:=aB (h5.ks (aC.length,.box (.agg [.str nm,Y1,.slice z2 (ad.map Em.div.aA) eH,.slice 0 [] .full])) yo).1;obtain⟨N4,N5,N6,N7,N8,N9⟩:=aB (h5.ks ((aC.length+1),.box (.agg [.int .i64 0,.int .i64 0])) yo).1;obtain⟨S1,S2,S3,S4,S5,S6⟩:=aB (h5.ks ((aC.length+2),.box (.int .i64 0)) yo).1;have dk0:=(h5.ks (lX.length,.box (.agg [.str [],.bool false,.int .i64 0,.int .i64 0,.slice 0 [] .full])) yo).1;have dk1:=(h5.ks (rb,.box (.agg [.ptr b0 0])) yo).1;have dk2:=(h5.ks (aC.length,.box (.agg [.str nm,Y1,.slice z2 (ad.map Em.div.aA) eH,.slice 0 [] .full])) yo).1;have dk3:=(h5.ks ((aC.length+1),.box (.agg [.int .i64 0,.int .i64 0])) yo).1;have WU:=(h5.ks ((aC.length+2),.box (.int .i64 0)) yo).1;rcases hV [.agg [.ptr b0 0],NS] _ (.ptr b0 0) _ l (n2+1) hdv h5.pos h5.rd h5.le hl with⟨p6,n6,SB,f6,e6,r6,k6,q6⟩ | ⟨e,SB,f6,e6,w6,k6,q6⟩
  rotate_left
  .skip
   have hEb:jM (ac.map aX.name) l (n2+1)=.error e:=eR f6;have hEm:=hMb.er pG.le e3 hEb;have hE:jX l 0=.error e:=by simp[jX,aR,g1,g3,g5,hXM,QD,hXN,hEm]
   obtain⟨pk,pK⟩:=h5.er k6;apply WL.a1P 4 hU (f:=92) (hs:=[.box (.agg [.str [],.bool false,.int .i64 0,.int .i64 0,.slice 0 [] .full])]) yp yu zb (v:=LF e) (τ:=SB) (x:=.agg [.bG (.bool true),.bG (.bool true),.bG (.bool true),.bG (.bool true),.bG (.bool true)]) yu
   .skip
    refine j9 (A20 hNm hnm N3 DD DE DF DG DH DI DJ DK DL DM DN DO DP DR DS DT (A16 DU DV N4 N5 N6 N7 N8 N9 S1 S2 S3 S4 S5 S6 wJ pF)) ?_;apply SQ.nil;exact IA.call (.i yu) yu yu hghV hqhV e6 (hphV _ _ _ yo) w6
   .intro n;apply DQ.step
    .rfl
    .exact gq
    .exact bl
    apply DQ.step
    .rfl
    .rfl
    .exact bl
    apply DQ.step
    .rfl
    .exact gq
    .exact bl
    apply DQ.step
    .rfl
    .exact aDQ ((a1Q yx).trans hNm) rfl (hnm _ _) (λ_=>rfl)
    .exact bl
    apply DQ.step
    .rfl
    .exact aDQ aH6 rfl (by rw[show gH _ _ 4=true from by decide +kernel];exact aPs hghV hqhV e6 w6) (λh=>absurd h zb)
    .exact bl
    apply DQ.alloc
    .rfl
    .exact bl
    apply DQ.step
    .rfl
    .exact aPt rfl rfl (by simp(disch:=first|omega|(simp;done)|(simp;omega)) [dk0,dk1,dk2,dk3,WU,DD,DE,DF,DG,DH,DI,DJ,DK,DL,DM,DN,DO,DP,DR,DS,DT,DU,DV,N4,N5,N6,N7,N8,N9,S1,S2,S3,S4,S5,S6,wJ,pF,N3]<;>rfl)
    .exact bl
    exact DQ.nil
   .simp[PD.marked,PD.Q4]
   .skip
    repeat(first|refine aS.panic ?_|refine aO.panic ?_|refine aL.panic ?_)
    exact .inl ⟨_,rfl,rfl,⟨e,[.str nm,Y1,.slice z2 (ad.map Em.div.aA) eH,.slice 0 [] .full],hE,rfl,rfl,rfl,rfl,rfl,(by simp[PD.plain,pF]),pK (aC.length,_) yo,pK (aC.length+1,_) yo,pK (aC.length+2,_) yo,pk⟩⟩
  obtain⟨⟨d1,d2,d3,d4,d5⟩,g6,rfl⟩:=eS f6;have h6:=h5.call r6 (aP.div _ _ _ _ h5.le g6).2 k6 q6;have dZ:=(dZ.more (τ:=[.box (.agg [.str [],.bool false,.int .i64 0,.int .i64 0,.slice 0 [] .full])])).QC h5 k6;have oS:=(oS.more (τ:=[.box (.agg [.str [],.bool false,.int .i64 0,.int .i64 0,.slice 0 [] .full])])).QC h5 k6;simp only[aCq,eN]at e6;obtain⟨uU,uV,uW,uX,uY,uZ⟩:=aB (h6.ks (lX.length,.box (.agg [.str [],.bool false,.int .i64 0,.int .i64 0,.slice 0 [] .full])) yo).1;obtain⟨wY,wZ,xA,xB,xC,xD⟩:=aB (h6.ks (rb,.box (.agg [.ptr b0 0])) yo).1;obtain⟨xE,xF,xG,xH,xI,xJ⟩:=aB (h6.ks (aC.length,.box (.agg [.str nm,Y1,.slice z2 (ad.map Em.div.aA) eH,.slice 0 [] .full])) yo).1;obtain⟨QE,QF,QG,QH,QI,QJ⟩:=aB (h6.ks ((aC.length+1),.box (.agg [.int .i64 0,.int .i64 0])) yo).1;obtain⟨aH7,aH8,aH9,aIa,aIb,aIc⟩:=aB (h6.ks ((aC.length+2),.box (.int .i64 0)) yo).1;apply Wp.a1R (hs:=[.box (.agg [.str [],.bool false,.int .i64 0,.int .i64 0,.slice 0 [] .full])]) zb yp
  .intro n;apply DQ.step
   .rfl
   .exact cy
   .exact bl
   apply DQ.step
   .rfl
   .rfl
   .exact bl
   apply DQ.step
   .rfl
   .exact cy
   .exact bl
   apply DQ.step
   .rfl
   .exact aDQ hNm rfl (hnm _ _) (λ_=>rfl)
   .exact bl
   apply DQ.step
   .rfl
   .exact aDQ hghV rfl (by rw[show gH _ _ 4=true from by decide +kernel];exact e6) (λh=>absurd h zb)
   .exact bl
   apply DQ.alloc
   .rfl
   .exact bl
   apply DQ.step
   .rfl
   .exact aPt rfl rfl (by simp(disch:=first|omega|(simp;done)|(simp;omega)) [dk0,dk1,dk2,dk3,WU,DD,DE,DF,DG,DH,DI,DJ,DK,DL,DM,DN,DO,DP,DR,DS,DT,DU,DV,N4,N5,N6,N7,N8,N9,S1,S2,S3,S4,S5,S6,wJ,pF,N3,uU,uV,uW,uX,uY,uZ,wY,wZ,xA,xB,xC,xD,xE,xF,xG,xH,xI,xJ,QE,QF,QG,QH,QI,QJ,aH7,aH8,aH9,aIa,aIb,aIc]<;>rfl)
   .exact bl
   exact DQ.nil
  have S7:=h6.set (i:=lX.length) (o0:=.box (.agg [.str [],.bool false,.int .i64 0,.int .i64 0,.slice 0 [] .full])) (o:=.box (.agg [.str d1,.bool d2,.int .i64 d3,.int .i64 d4,.slice (sz 4 d5) (d5.map Em.stop.aA) .any])) [] [(rb,.box (.agg [.ptr b0 0])),(aC.length,.box (.agg [.str nm,Y1,.slice z2 (ad.map Em.div.aA) eH,.slice 0 [] .full])),((aC.length+1),.box (.agg [.int .i64 0,.int .i64 0])),((aC.length+2),.box (.int .i64 0))] rfl yz;have dZ:=dZ.WS (i:=lX.length) (o:=.box (.agg [.str d1,.bool d2,.int .i64 d3,.int .i64 d4,.slice (sz 4 d5) (d5.map Em.stop.aA) .any])) h6 za;have oS:=oS.WS (i:=lX.length) (o:=.box (.agg [.str d1,.bool d2,.int .i64 d3,.int .i64 d4,.slice (sz 4 d5) (d5.map Em.stop.aA) .any])) h6 za;obtain⟨LG,LH,LI,LJ,LK,LL⟩:=aB (S7.ks (lX.length,.box (.agg [.str d1,.bool d2,.int .i64 d3,.int .i64 d4,.slice (sz 4 d5) (d5.map Em.stop.aA) .any])) yo).1;obtain⟨LM,LN,LO,LP,LQ,LR⟩:=aB (S7.ks (rb,.box (.agg [.ptr b0 0])) yo).1;obtain⟨LU,LV,LW,LX,LY,LZ⟩:=aB (S7.ks (aC.length,.box (.agg [.str nm,Y1,.slice z2 (ad.map Em.div.aA) eH,.slice 0 [] .full])) yo).1;obtain⟨WV,WW,WX,WY,WZ,W0⟩:=aB (S7.ks ((aC.length+1),.box (.agg [.int .i64 0,.int .i64 0])) yo).1;obtain⟨a1S,a1T,a1U,a1V,a1W,a1X⟩:=aB (S7.ks ((aC.length+2),.box (.int .i64 0)) yo).1;have hbx:∀id∈[lX.length],∃b,(SB.set lX.length (.box (.agg [.str d1,.bool d2,.int .i64 d3,.int .i64 d4,.slice (sz 4 d5) (d5.map Em.stop.aA) .any])))[id]?=some (U.box b):=λid hid=>by
   simp only[yAS,yBl,yBm]at hid;rw[hid];exact⟨_,(S7.ks (lX.length,.box (.agg [.str d1,.bool d2,.int .i64 d3,.int .i64 d4,.slice (sz 4 d5) (d5.map Em.stop.aA) .any])) yo).1⟩
  rw[show ad.length=(ad.map Em.div.aA).length by simp]at dZ;obtain⟨tokP,aAU,hap,hrowP,hP,hkeep⟩:=dZ.WR (P:=prog) (t:=39) (b:=64) (s:=z2) (xs:=ad.map Em.div.aA) (p:=.agg [.str d1,.bool d2,.int .i64 d3,.int .i64 d4,.slice (sz 4 d5) (d5.map Em.stop.aA) .any]) (tk:=.any) S7 yo yo underlying39 yp (fU.imp (λh=>zn) id) (by rw[yAe];have:=pG.le;omega) (by rw[yAe];have:=pG.le;omega);simp only[yAe]at hrowP;obtain⟨aPu,hnda⟩:=hkeep WT _ 1 _ hnd oS;have hANl:AN.length=ad.length:=by rw[hAN,yAe,yAe]
  rw[<-hANl]at aPu;obtain⟨tokQ,a8X,haq,hrowQ,hQQ,a1Y⟩:=aPu.WR (P:=prog) (t:=55) (b:=16) (s:=z3) (xs:=AN) (p:=.str d1) (tk:=.any) hP yo yo underlying55 yp (hz3.imp (λh=>by rw[hAN,h];rfl) id) (by rw[hANl];have:=pG.le;omega) (by rw[hANl];have:=pG.le;omega);rw[hANl]at hrowQ;obtain⟨hrowPa,hndb⟩:=a1Y tokP _ 5 _ (λid e e2=>hnda id e2 e) hrowP;obtain⟨II,IJ,IK,IL,IM,IN⟩:=aB (hP.ks (lX.length,.box (.agg [.str d1,.bool d2,.int .i64 d3,.int .i64 d4,.slice (sz 4 d5) (d5.map Em.stop.aA) .any])) yo).1;obtain⟨IP,IQ,IS,IT,IU,IV⟩:=aB (hP.ks (rb,.box (.agg [.ptr b0 0])) yo).1;obtain⟨IW,IX,IY,IZ,I0,I1⟩:=aB (hP.ks (aC.length,.box (.agg [.str nm,Y1,.slice z2 (ad.map Em.div.aA) eH,.slice 0 [] .full])) yo).1;obtain⟨aDR,aDS,aDT,aDU,aDV,aDW⟩:=aB (hP.ks ((aC.length+1),.box (.agg [.int .i64 0,.int .i64 0])) yo).1;obtain⟨aDX,aDY,aDZ,aD0,aD1,aD2⟩:=aB (hP.ks ((aC.length+2),.box (.int .i64 0)) yo).1;obtain⟨DW,DY,DZ,D0,D1,D2⟩:=aB (hQQ.ks (lX.length,.box (.agg [.str d1,.bool d2,.int .i64 d3,.int .i64 d4,.slice (sz 4 d5) (d5.map Em.stop.aA) .any])) yo).1;obtain⟨F8,F9,GA,GB,GC,GD⟩:=aB (hQQ.ks (rb,.box (.agg [.ptr b0 0])) yo).1;obtain⟨GF,GG,GH,GI,GJ,GK⟩:=aB (hQQ.ks (aC.length,.box (.agg [.str nm,Y1,.slice z2 (ad.map Em.div.aA) eH,.slice 0 [] .full])) yo).1;obtain⟨W1,W2,W3,W4,W5,W6⟩:=aB (hQQ.ks ((aC.length+1),.box (.agg [.int .i64 0,.int .i64 0])) yo).1;obtain⟨aD3,aD4,aD5,aD6,aD7,aD8⟩:=aB (hQQ.ks ((aC.length+2),.box (.int .i64 0)) yo).1;obtain⟨u7,v7,w7⟩:=bO (SB.set lX.length (.box (.agg [.str d1,.bool d2,.int .i64 d3,.int .i64 d4,.slice (sz 4 d5) (d5.map Em.stop.aA) .any])));refine Wp.a1Z [(2,aC.length),(7,lX.length)] [lX.length] [some lX.length] zb (λt=>show qS t 67=false by simp[qS,aKW]) hbx ⟨⟨_,rfl,rfl⟩,⟨_,rfl,rfl⟩,trivial⟩ yp Bn ?_;refine bM (A20 hap haq LG LH LI LJ LK LL LM LN LO LP LQ LR LU LV LW LX LY (A20 LZ WV WW WX WY WZ W0 a1S a1T a1U a1V a1W a1X II IJ IK IL IM IN (A20 IP IQ IS IT IU IV IW IX IY IZ I0 I1 aDR aDS aDT aDU aDV aDW aDX (A20 aDY aDZ aD0 aD1 aD2 DW DY DZ D0 D1 D2 F8 F9 GA GB GC GD GF GG (A20 GH GI GJ GK W1 W2 W3 W4 W5 W6 aD3 aD4 aD5 aD6 aD7 aD8 wJ pF u7 (A2 v7 w7)))))) ?_;apply SQ.nil
  repeat(first|refine aO.normal ?_|refine aS.normal ?_)
  obtain⟨aId,hlt2,a8Y⟩:=hMb.ok pG.le aP.div e3 g6;have hQ2:=hQQ.set (i:=aC.length) (o:=.box (.agg [.str nm,Y1,.slice 5 ((ad++[(⟨d1,d2,d3,d4,d5⟩:bY)]).map Em.div.aA) tokP,.slice 0 [] .full])) [(lX.length,.box (.agg [.str d1,.bool d2,.int .i64 d3,.int .i64 d4,.slice (sz 4 d5) (d5.map Em.stop.aA) .any])),(rb,.box (.agg [.ptr b0 0]))] [((aC.length+1),.box (.agg [.int .i64 0,.int .i64 0])),((aC.length+2),.box (.int .i64 0))] rfl yz;have hQ3:=hQ2.sub (K':=[(rb,.box (.agg [.ptr b0 0])),(aC.length,.box (.agg [.str nm,Y1,.slice 5 ((ad++[(⟨d1,d2,d3,d4,d5⟩:bY)]).map Em.div.aA) tokP,.slice 0 [] .full])),(aC.length+1,.box (.agg [.int .i64 0,.int .i64 0])),(aC.length+2,.box (.int .i64 0))]) (by intro p hp;simp only[yAS,yBl,yBm]at hp;rcases hp with rfl|rfl|rfl|rfl<;>simp);have aPv:=hrowPa.WS (i:=aC.length) (o:=.box (.agg [.str nm,Y1,.slice 5 ((ad++[(⟨d1,d2,d3,d4,d5⟩:bY)]).map Em.div.aA) tokP,.slice 0 [] .full])) hQQ za;rw[show ad.length+1=(ad++[(⟨d1,d2,d3,d4,d5⟩:bY)]).length by simp]at aPv;have aPw:=hrowQ.WS (i:=aC.length) (o:=.box (.agg [.str nm,Y1,.slice 5 ((ad++[(⟨d1,d2,d3,d4,d5⟩:bY)]).map Em.div.aA) tokP,.slice 0 [] .full])) hQQ za;rw[show ad.length+1=(ad++[(⟨d1,d2,d3,d4,d5⟩:bY)]).length by simp]at aPw;refine aL.normal (l.length-n6) ym ⟨ad++[(⟨d1,d2,d3,d4,d5⟩:bY)],AN++[.str d1],5,1,n6,tokP,tokQ,_,bV (⟨ym,by rw[hAN];simp,aId,.inr rfl,.inr rfl,aPv,aPw,λid e e2=>hndb id e2 e,hQ3⟩)⟩
 have hM3:=hMb.stop pG.le c3;have e3:=NY c3;rw[e3]at CW dI;simp only[gY]at CW dI;obtain⟨I2,I3,I4,I5,I6,I7⟩:=aB (dI.ks (rb,.box (.agg [.ptr b0 0])) yo).1;obtain⟨I8,I9,JA,JB,JC,JD⟩:=aB (dI.ks (aC.length,.box (.agg [.str nm,Y1,.slice z2 (ad.map Em.div.aA) eH,.slice 0 [] .full])) yo).1;obtain⟨L0,L1,L2,L3,L4,L5⟩:=aB (dI.ks ((aC.length+1),.box (.agg [.int .i64 0,.int .i64 0])) yo).1;obtain⟨S8,S9,TA,TB,TC,TD⟩:=aB (dI.ks ((aC.length+2),.box (.int .i64 0)) yo).1;obtain⟨SY,SZ,S0⟩:=bO lX;obtain⟨Y2,TF⟩:=gn (PD.slice z2 (ad.map Em.div.aA) eH);have QK:Y2.plain=true:=by rw[<-TF];rfl
 have JE:=QK;unfold PD.plain at JE;have aIe:Y2.strip=aCr.aA ad:=by
  rw[<-TF,PD.lD,show(ad.map Em.div.aA).map PD.strip=ad.map Em.div.aA by rw[yBc];exact yAG λx _=>Em.div.str x];rcases fU with h|h
  .rw[h];rfl
  .exact cz
 rw[TF]at dI uP uQ uR uS uT uO I9 JA JB JC JD I8;obtain⟨Y3,hY3⟩:=gn (PD.slice z3 AN WT);have aA2:Y3.plain=true:=by rw[<-hY3];rfl
 have aA3:=aA2;unfold PD.plain at aA3;have a10:Y3.strip=texts.aA (ad.map bY.name):=by
  rw[<-hY3,PD.lD,hAN,show((ad.map bY.name).map PD.str).map PD.strip=(ad.map bY.name).map PD.str by rw[yBc];rfl];rcases hz3 with h|h
  .rw[h];rfl
  .exact cz
 rw[hY3];refine aD (A20 hgW CW wK wL wM wN wP wQ uO uP uQ uR uS uT wR wS wU wV wW (A20 wX aAW aAX aAY aAZ aA0 aA1 u3 @v3 w3 I2 I3 I4 I5 I6 I7 I8 I9 JA (A20 JB JC JD L0 L1 L2 L3 L4 L5 S8 S9 TA TB TC TD SY SZ S0 wJ (A5 pF QK JE aA2 aA3)))) ?_;have hcd:nD [.agg [.ptr b0 0],Y3]=some (.ptr b0 0,jZ (iF (ad.map bY.name)) Em.cC.aA):=by
  have e1:texts.dec Y3=some (ad.map bY.name):=Em.cJ a10;simp only[nD,e1];rw[dC Cr]
 obtain⟨XC,hXC⟩:=gn (oT [99,111,117,112,108,101,114] (iF (ad.map bY.name)) l n2);refine Wp.dK (λm fr σ=>∃(ae:List dY) (z4 n7:Nat) (pH:Tok) (σ1:List U),∃gg:Nat->PD,(n7+m=l.length/\nI [99,111,117,112,108,101,114] (iF (ad.map bY.name)) l XC ae n7/\(ae=[]\/z4=5)/\fW aC σ1 pH 118 5 ae.length/\j4 aC (.ptr b0 0) l σ1 n7 [(rb,.box (.agg [.ptr b0 0])),(aC.length,.box (.agg [.str nm,Y1,Y2,.slice z4 (ae.map Em.cC.aA) pH])),(aC.length+1,.box (.agg [.int .i64 0,.int .i64 0])),(aC.length+2,.box (.int .i64 0))])/\fr=T::gg 1::.ptr aC.length 0::.ptr (aC.length+1) 0::.ptr (aC.length+2) 0::.ptr rb 0::Y3::gg 7::gg 8::gg 9::gg 10::gg 11::gg 12::gg 13::gg 14::gg 15::gg 16::gg 17::gg 18::gg 19::gg 20::gg 21::gg 22::gg 23::gg 24::gg 25::gg 26::gg 27::gg 28::gg 29::gg 30::gg 31::gg 32::gg 33::gg 34::gg 35::gg 36::gg 37::gg 38::gg 39::gg 40::gg 41::gg 42::gg 43::gg 44::gg 45::gg 46::gg 47::gg 48::gg 49::gg 50::gg 51::gg 52::gg 53::gg 54::gg 55::gg 56::gg 57::gg 58::gg 59::gg 60::gg 61::gg 62::gg 63::gg 64::gg 65::gg 66::[]/\σ=σ1) ?_ (l.length-n2) (by refine⟨[],0,n2,.full,lX,?_⟩;exact bV (⟨by have:=dI.le;omega,hXC▸nI.start,.inl rfl,.nil,dI⟩))
 rintro m fr σ ⟨ae,z4,n7,pH,σ1,gg,hI,rfl,rfl⟩
 obtain⟨hm4,hMc,hz4,yK,pE⟩:=hI;have hcl:=hMc.1;obtain⟨D3,D4,D5,D6,D7,D8⟩:=aB (pE.ks (rb,.box (.agg [.ptr b0 0])) yo).1;obtain⟨xK,xL,xM,xN,xO,xP⟩:=aB (pE.ks (aC.length,.box (.agg [.str nm,Y1,Y2,.slice z4 (ae.map Em.cC.aA) pH])) yo).1;obtain⟨D9,EA,EB,EC,ED,EE⟩:=aB (pE.ks ((aC.length+1),.box (.agg [.int .i64 0,.int .i64 0])) yo).1;obtain⟨L6,L7,L8,L9,MA,MB⟩:=aB (pE.ks ((aC.length+2),.box (.int .i64 0)) yo).1;obtain⟨u5,v5,w5⟩:=bO σ;obtain⟨aD9,TG,r5k,k5k,q5k⟩:=hW [.ptr b0 0,.str [99,111,117,112,108,101,114]] _ (.ptr b0 0) _ l n7 ⟨_,rfl,rfl⟩ (pE.ne hs) pE.rd pE.le hl;have dN:=pE.call r5k (pY _ pE.le) k5k q5k;have yK:=yK.QC pE k5k;cases c5:(bS (isWord 1 [99,111,117,112,108,101,114]) l n7).1.2
 rotate_left
 .skip
  obtain⟨t5,_,_,e5⟩:=KV c5;rw[e5]at TG dN;simp only[gY]at TG dN;obtain⟨aIf,aIg,aIh,aIi,aIj,aIk⟩:=aB (dN.ks (rb,.box (.agg [.ptr b0 0])) yo).1;obtain⟨aIl,aIm,aIn,aIo,aIp,aIq⟩:=aB (dN.ks (aC.length,.box (.agg [.str nm,Y1,Y2,.slice z4 (ae.map Em.cC.aA) pH])) yo).1;obtain⟨aIr,aIs,aIt,aIu,aIv,aIw⟩:=aB (dN.ks ((aC.length+1),.box (.agg [.int .i64 0,.int .i64 0])) yo).1;obtain⟨aIx,aIy,aIz,aIA,aIB,aIC⟩:=aB (dN.ks ((aC.length+2),.box (.int .i64 0)) yo).1;obtain⟨u5b,v5b,w5b⟩:=bO aD9;refine aD (A20 hgW TG D3 D4 D5 D6 D7 D8 xK xL xM xN xO xP D9 EA EB EC ED (A20 EE L6 L7 L8 L9 MA MB u5 @v5 w5 aIf aIg aIh aIi aIj aIk aIl aIm aIn (A18 aIo aIp aIq aIr aIs aIt aIu aIv aIw aIx aIy aIz aIA aIB aIC u5b v5b w5b))) ?_;obtain⟨GL,GM,GN,GO,GP,GQ⟩:=aB (dN.ks (rb,.box (.agg [.ptr b0 0])) yo).1;obtain⟨JF,JG,JH,JI,JK,JL⟩:=aB (dN.ks (aC.length,.box (.agg [.str nm,Y1,Y2,.slice z4 (ae.map Em.cC.aA) pH])) yo).1;obtain⟨JM,JN,JO,JP,JQ,JR⟩:=aB (dN.ks ((aC.length+1),.box (.agg [.int .i64 0,.int .i64 0])) yo).1;obtain⟨JS,JT,JU,JV,JW,JX⟩:=aB (dN.ks ((aC.length+2),.box (.int .i64 0)) yo).1;obtain⟨u8,v8,w8⟩:=bO aD9;have hbx:∀id∈[aC.length],∃b,(aD9)[id]?=some (U.box b):=λid hid=>by
   simp only[yAS,yBl,yBm]at hid;have hidd:=hid
   .rw[hidd];exact⟨_,(dN.ks (aC.length,.box (.agg [.str nm,Y1,Y2,.slice z4 (ae.map Em.cC.aA) pH])) yo).1⟩
  have hne:=dN.ne hs;rcases hC [.agg [.ptr b0 0],Y3] _ (.ptr b0 0) _ l (n7+1) hcd (dN.ne hs) dN.rd dN.le hl with⟨p8,n8,σ8,f8,e8,r8,k8,q8⟩ | ⟨e,σ8,f8,e8,w8w,k8,q8⟩
  rotate_left
  .skip
   have hEb:iF (ad.map bY.name) l (n7+1)=.error e:=eR f8;have hEm:=hMc.er pE.le e5 hEb;have hE:jX l 0=.error e:=by simp[jX,aR,g1,g3,g5,hXM,QD,hXN,hM3,hXC,hEm]
   obtain⟨pk,pK⟩:=dN.er k8;rw[show ae.length=(ae.map Em.cC.aA).length by simp]at yK;obtain⟨tokF,aPr,hap,hrowF,hPF,_⟩:=yK.WR (P:=prog) (t:=40) (b:=48) (s:=z4) (xs:=ae.map Em.cC.aA) (p:=.agg [PD.mark,PD.mark,PD.mark,PD.mark,PD.mark]) (tk:=.any) dN yo yo underlying40 yp (hz4.imp (λh=>zn) id) (by rw[yAe];have:=dN.le;omega) (by rw[yAe];have:=dN.le;omega);obtain⟨aA4,aA5,aA6,aA7,aA8,aA9⟩:=aB (hPF.ks (rb,.box (.agg [.ptr b0 0])) yo).1;obtain⟨aBa,aBb,aBc,aBd,aBe,aBf⟩:=aB (hPF.ks (aC.length,.box (.agg [.str nm,Y1,Y2,.slice z4 (ae.map Em.cC.aA) pH])) yo).1;obtain⟨aBg,aBh,aBi,aBj,aBk,aBl⟩:=aB (hPF.ks ((aC.length+1),.box (.agg [.int .i64 0,.int .i64 0])) yo).1;obtain⟨aBm,aBn,aBo,aBp,aBq,aBr⟩:=aB (hPF.ks ((aC.length+2),.box (.int .i64 0)) yo).1;have hkF:=aH3 (B:=[aC.length]) (x:=.agg [PD.mark,PD.mark,PD.mark,PD.mark,PD.mark]) hghC hqhC e8 w8w;unfold PD.mark at hap hkF;refine WL.aH4 4 hU yu zb (v:=LF e) (τ:=σ8) (x:=.agg [.bG (.bool true),.bG (.bool true),.bG (.bool true),.bG (.bool true),.bG (.bool true)]) yu hghC hqhC hphC hne [(2,aC.length),(5,rb)] [aC.length] [some (aC.length)] hbx ⟨⟨_,rfl,rfl⟩,⟨_,rfl,rfl⟩,trivial⟩ yp Bn ?_ ?_ ?_
   .skip
    repeat(first
     |(refine Fr.i ?_;simp only[aM,yAT,yAU];try rfl)
     |(refine By.i ?_;(focus(simp(disch:=first|omega|(simp;done)|(simp;omega)) [wrap_i64,wrap_u64,GL,GM,GN,GO,GP,GQ,JF,JG,JH,JI,JK,JL,JM,JN,JO,JP,JQ,JR,JS,JT,JU,JV,JW,JX,u8,v8,w8];first|done|rfl|exact⟨rfl,rfl⟩)))
     |(refine By.i ?_;simp(disch:=first|omega|(simp;done)|(simp;omega)) [wrap_i64,wrap_u64,GL,GM,GN,GO,GP,GQ,JF,JG,JH,JI,JK,JL,JM,JN,JO,JP,JQ,JR,JS,JT,JU,JV,JW,JX,u8,v8,w8];refine⟨yw,rfl⟩)
     |(refine Wt.i ?_;first|rfl|(focus(simp[GL,GM,GN,GO,GP,GQ,JF,JG,JH,JI,JK,JL,JM,JN,JO,JP,JQ,JR,JS,JT,JU,JV,JW,JX,u8,v8,w8];done)))
     |(refine Ns.i ?_;(try simp only[yAl,yAQ,yAR,yAi,yAa,yAK,yAL,yAp,Nat.reduceAdd]);rfl)|rfl
     |(apply SL.pass;(focus(refine Wt.i ?_;rfl)))|(apply tu;(focus rfl))|apply SL.move|apply SL.assign|apply SL.load|apply SL.gC|apply tu|apply SL.make|apply SL.binOp|apply SL.append
     |apply tu|apply SL.builtin|apply SL.fieldAddr|apply SL.indexAddr|apply SL.field|apply SL.extract|apply SL.gD|apply SL.pick|apply SL.store|apply SL.unOp|apply SL.convert|apply SL.index|apply SL.slice
     |apply SL.build|apply SL.nilCheck|apply SL.buildSlice|apply SL.box|apply SL.alloc|apply SL.makeFunc)
    apply SQ.nil;exact IA.call (.i yu) yu yu hghC hqhC e8 (hphC _ _ _ (by have:=yBE.2 hne;omega)) w8w
   .skip
    repeat(first
     |(refine Fr.i ?_;simp only[aM,yAT,yAU];try rfl)
     |(refine By.i ?_;(focus(simp(disch:=first|omega|(simp;done)|(simp;omega)) [wrap_i64,wrap_u64,hap,hkF,GL,GM,GN,GO,GP,GQ,JF,JG,JH,JI,JK,JL,JM,JN,JO,JP,JQ,JR,JS,JT,JU,JV,JW,JX,u8,v8,w8,aA4,aA5,aA6,aA7,aA8,aA9,aBa,aBb,aBc,aBd,aBe,aBf,aBg,aBh,aBi,aBj,aBk,aBl,aBm,aBn,aBo,aBp,aBq,aBr];first|done|rfl|exact⟨rfl,rfl⟩)))
     |(refine By.i ?_;simp(disch:=first|omega|(simp;done)|(simp;omega)) [wrap_i64,wrap_u64,hap,hkF,GL,GM,GN,GO,GP,GQ,JF,JG,JH,JI,JK,JL,JM,JN,JO,JP,JQ,JR,JS,JT,JU,JV,JW,JX,u8,v8,w8,aA4,aA5,aA6,aA7,aA8,aA9,aBa,aBb,aBc,aBd,aBe,aBf,aBg,aBh,aBi,aBj,aBk,aBl,aBm,aBn,aBo,aBp,aBq,aBr];refine⟨yw,rfl⟩)
     |(refine Wt.i ?_;first|rfl|(focus(simp[hap,hkF,GL,GM,GN,GO,GP,GQ,JF,JG,JH,JI,JK,JL,JM,JN,JO,JP,JQ,JR,JS,JT,JU,JV,JW,JX,u8,v8,w8,aA4,aA5,aA6,aA7,aA8,aA9,aBa,aBb,aBc,aBd,aBe,aBf,aBg,aBh,aBi,aBj,aBk,aBl,aBm,aBn,aBo,aBp,aBq,aBr];done)))
     |(refine Ns.i ?_;(try simp only[yAl,yAQ,yAR,yAi,yAa,yAK,yAL,yAp,Nat.reduceAdd]);rfl)|rfl
     |(apply SL.pass;(focus(refine Wt.i ?_;rfl)))|(apply tu;(focus rfl))|apply SL.move|apply SL.assign|apply SL.load|apply SL.gC|apply tu|apply SL.make|apply SL.binOp|apply SL.append
     |apply tu|apply SL.builtin|apply SL.fieldAddr|apply SL.indexAddr|apply SL.field|apply SL.extract|apply SL.gD|apply SL.pick|apply SL.store|apply SL.unOp|apply SL.convert|apply SL.index|apply SL.slice
     |apply SL.build|apply SL.nilCheck|apply SL.buildSlice|apply SL.box|apply SL.alloc|apply SL.makeFunc)
    exact rq
   .skip
    repeat(first|refine aS.panic ?_|refine aO.panic ?_|refine aL.panic ?_)
    exact .inl ⟨_,rfl,rfl,⟨e,[.str nm,Y1,Y2,.slice z4 (ae.map Em.cC.aA) pH],hE,rfl,rfl,rfl,rfl,rfl,(by simp[PD.plain,pF,JE]),pK (aC.length,_) yo,pK (aC.length+1,_) yo,pK (aC.length+2,_) yo,pk⟩⟩
  obtain⟨⟨e1x,e2x,e3x,e4x,e5x⟩,g8,rfl⟩:=eS f8;have h8:=dN.call r8 ((aP.cC) _ _ _ _ dN.le g8).2 k8 q8;have yK:=yK.QC dN k8;simp only[aUH]at e8;obtain⟨TH,TI,TJ,TK,TL,TM⟩:=aB (h8.ks (rb,.box (.agg [.ptr b0 0])) yo).1;obtain⟨W7,W8,W9,XA,XB,XD⟩:=aB (h8.ks (aC.length,.box (.agg [.str nm,Y1,Y2,.slice z4 (ae.map Em.cC.aA) pH])) yo).1;obtain⟨XE,XF,XG,XH,XI,XJ⟩:=aB (h8.ks ((aC.length+1),.box (.agg [.int .i64 0,.int .i64 0])) yo).1;obtain⟨aID,aIE,aIF,aIG,aIH,aII⟩:=aB (h8.ks ((aC.length+2),.box (.int .i64 0)) yo).1;obtain⟨u8b,v8b,w8b⟩:=bO σ8;have hkk:=aDq (B:=[aC.length]) hghC e8 q8 (λid hid _=>by
   simp only[yAS,yBl,yBm]at hid;have hidd:=hid
   .rw[hidd];exact(h8.ks (aC.length,.box (.agg [.str nm,Y1,Y2,.slice z4 (ae.map Em.cC.aA) pH])) yo).1.trans (dN.ks (aC.length,.box (.agg [.str nm,Y1,Y2,.slice z4 (ae.map Em.cC.aA) pH])) yo).1.symm)
  rw[show ae.length=(ae.map Em.cC.aA).length by simp]at yK;obtain⟨tokP,aAU,hap,hrowP,hP,hkeep⟩:=yK.WR (P:=prog) (t:=40) (b:=48) (s:=z4) (xs:=ae.map Em.cC.aA) (p:=.agg [.str e1x,.int .i64 e2x,.int .i64 e3x,.int .i64 e4x,.bool e5x]) (tk:=.any) h8 yo yo underlying40 yp (hz4.imp (λh=>zn) id) (by rw[yAe];have:=h8.le;omega) (by rw[yAe];have:=h8.le;omega);simp only[yAe]at hrowP;obtain⟨XK,XL,XO,XP,XQ,XR⟩:=aB (hP.ks (rb,.box (.agg [.ptr b0 0])) yo).1;obtain⟨XS,XT,XU,XV,XW,XX⟩:=aB (hP.ks (aC.length,.box (.agg [.str nm,Y1,Y2,.slice z4 (ae.map Em.cC.aA) pH])) yo).1;obtain⟨XY,XZ,X1,X2,X3,X5⟩:=aB (hP.ks ((aC.length+1),.box (.agg [.int .i64 0,.int .i64 0])) yo).1;obtain⟨aIJ,aIK,aIL,aIM,aIN,aIO⟩:=aB (hP.ks ((aC.length+2),.box (.int .i64 0)) yo).1;refine Wp.aH5 hghC hphC hne [(2,aC.length),(5,rb)] [aC.length] [some (aC.length)] zb hbx ⟨⟨_,rfl,rfl⟩,⟨_,rfl,rfl⟩,trivial⟩ yp Bn ?_
  repeat(first
   |(refine Fr.i ?_;simp only[aM,yAT,yAU];try rfl)
   |(refine By.i ?_;(focus(simp(disch:=first|omega|(simp;done)|(simp;omega)) [wrap_i64,wrap_u64,hap,hkk,GL,GM,GN,GO,GP,GQ,JF,JG,JH,JI,JK,JL,JM,JN,JO,JP,JQ,JR,JS,JT,JU,JV,JW,JX,u8,v8,w8,TH,TI,TJ,TK,TL,TM,W7,W8,W9,XA,XB,XD,XE,XF,XG,XH,XI,XJ,aID,aIE,aIF,aIG,aIH,aII,u8b,v8b,w8b,XK,XL,XO,XP,XQ,XR,XS,XT,XU,XV,XW,XX,XY,XZ,X1,X2,X3,X5,aIJ,aIK,aIL,aIM,aIN,aIO];first|done|rfl|exact⟨rfl,rfl⟩)))
   |(refine By.i ?_;simp(disch:=first|omega|(simp;done)|(simp;omega)) [wrap_i64,wrap_u64,hap,hkk,GL,GM,GN,GO,GP,GQ,JF,JG,JH,JI,JK,JL,JM,JN,JO,JP,JQ,JR,JS,JT,JU,JV,JW,JX,u8,v8,w8,TH,TI,TJ,TK,TL,TM,W7,W8,W9,XA,XB,XD,XE,XF,XG,XH,XI,XJ,aID,aIE,aIF,aIG,aIH,aII,u8b,v8b,w8b,XK,XL,XO,XP,XQ,XR,XS,XT,XU,XV,XW,XX,XY,XZ,X1,X2,X3,X5,aIJ,aIK,aIL,aIM,aIN,aIO];refine⟨yw,rfl⟩)
   |(refine Wt.i ?_;first|rfl|(focus(simp[hap,hkk,GL,GM,GN,GO,GP,GQ,JF,JG,JH,JI,JK,JL,JM,JN,JO,JP,JQ,JR,JS,JT,JU,JV,JW,JX,u8,v8,w8,TH,TI,TJ,TK,TL,TM,W7,W8,W9,XA,XB,XD,XE,XF,XG,XH,XI,XJ,aID,aIE,aIF,aIG,aIH,aII,u8b,v8b,w8b,XK,XL,XO,XP,XQ,XR,XS,XT,XU,XV,XW,XX,XY,XZ,X1,X2,X3,X5,aIJ,aIK,aIL,aIM,aIN,aIO];done)))
   |(refine Ns.i ?_;(try simp only[yAl,yAQ,yAR,yAi,yAa,yAK,yAL,yAp,Nat.reduceAdd]);rfl)|rfl
   |(apply SL.pass;(focus(refine Wt.i ?_;rfl)))|(apply tu;(focus rfl))|apply SL.move|apply SL.assign|apply SL.load|apply SL.gC|apply tu|apply SL.make|apply SL.binOp|apply SL.append|apply tu
   |apply SL.builtin|apply SL.fieldAddr|apply SL.indexAddr|apply SL.field|apply SL.extract|apply SL.gD|apply SL.pick|apply SL.store|apply SL.unOp|apply SL.convert|apply SL.index|apply SL.slice|apply SL.build
   |apply SL.nilCheck|apply SL.buildSlice|apply SL.box|apply SL.alloc|apply SL.makeFunc)
  apply SQ.nil
  repeat(first|refine aO.normal ?_|refine aS.normal ?_)
  obtain⟨a11,aHA,a8Z⟩:=hMc.ok pE.le aP.cC e5 g8;have hQ4:=hP.set (i:=aC.length) (o:=.box (.agg [.str nm,Y1,Y2,.slice 5 ((ae++[(⟨e1x,e2x,e3x,e4x,e5x⟩:dY)]).map Em.cC.aA) tokP])) [(rb,.box (.agg [.ptr b0 0]))] [((aC.length+1),.box (.agg [.int .i64 0,.int .i64 0])),((aC.length+2),.box (.int .i64 0))] rfl yz;have aPx:=hrowP.WS (i:=aC.length) (o:=.box (.agg [.str nm,Y1,Y2,.slice 5 ((ae++[(⟨e1x,e2x,e3x,e4x,e5x⟩:dY)]).map Em.cC.aA) tokP])) hP za;rw[show ae.length+1=(ae++[(⟨e1x,e2x,e3x,e4x,e5x⟩:dY)]).length by simp]at aPx;refine aL.normal (l.length-n8) ym ⟨ae++[(⟨e1x,e2x,e3x,e4x,e5x⟩:dY)],5,n8,tokP,_,bV (⟨ym,a11,.inr rfl,aPx,hQ4⟩)⟩
 have hM4:=hMc.stop pE.le c5;have e5:=NY c5;rw[e5]at TG dN;simp only[gY]at TG dN;obtain⟨aPy,aPz,aPA,aPB,aPC,aPD⟩:=aB (dN.ks (rb,.box (.agg [.ptr b0 0])) yo).1;obtain⟨aIP,aIQ,aIR,aIS,aIT,aIU⟩:=aB (dN.ks (aC.length,.box (.agg [.str nm,Y1,Y2,.slice z4 (ae.map Em.cC.aA) pH])) yo).1;obtain⟨aPE,aPF,aPG,aPH,aPI,aPJ⟩:=aB (dN.ks ((aC.length+1),.box (.agg [.int .i64 0,.int .i64 0])) yo).1;obtain⟨aPK,aPL,aPM,aPN,aPO,aPP⟩:=aB (dN.ks ((aC.length+2),.box (.int .i64 0)) yo).1;obtain⟨u5b,v5b,w5b⟩:=bO aD9;obtain⟨Y4,hY4⟩:=gn (PD.slice z4 (ae.map Em.cC.aA) pH);have aEa:Y4.plain=true:=by rw[<-hY4];rfl
 have X6:=aEa;unfold PD.plain at X6;have a13:Y4.strip=KH.aA ae:=by
  rw[<-hY4,PD.lD,show(ae.map Em.cC.aA).map PD.strip=ae.map Em.cC.aA by rw[yBc];exact yAG λx _=>Em.cC.str x];rcases hz4 with h|h
  .rw[h];rfl
  .exact cz
 rw[hY4]at dN xL xM xN xO xP xK aIQ aIR aIS aIT aIU aIP;obtain⟨aPQ,aPR,aPS,aPT,aPU,aPV⟩:=aB (dN.ks (rb,.box (.agg [.ptr b0 0])) yo).1;obtain⟨aPW,aPX,aPY,aPZ,aP0,aP1⟩:=aB (dN.ks (aC.length,.box (.agg [.str nm,Y1,Y2,Y4])) yo).1;obtain⟨aP2,aP3,aP4,aP5,aP6,aP7⟩:=aB (dN.ks ((aC.length+1),.box (.agg [.int .i64 0,.int .i64 0])) yo).1;obtain⟨aP8,aP9,aQa,aQb,aQc,aQd⟩:=aB (dN.ks ((aC.length+2),.box (.int .i64 0)) yo).1;have hlf:=fun(τ:List U) fl=>left_at (dN.rd.more (τ:=τ)) dN.le hl fl
 have aQe:=λfl=>left_at dN.rd dN.le hl fl
 by_cases c9:n7<l.length
 .have c8:(0:Int)<(l.length:Int)-(n7:Nat):=by omega
  refine aD yj ?_;rcases hX [.agg [.ptr b0 0],.int .i64 15] _ (.ptr b0 0) _ l n7 rfl dN.pos dN.rd dN.le hl with⟨p,n2,dL,f1,_⟩ | ⟨e,dL,f1,f2,f3,f4,f5⟩
  .cases f1
  simp only[iY,yBP]at f1;subst f1;have hE:jX l 0=.error ((mM l n7).1,(mM l n7).2,15):=by simp only[jX,aR,HT,g1,g3,g5,hXM,QD,hXN,hM3,hXC,hM4,c9,yAM,iY]
  obtain⟨pk,pK⟩:=dN.er f4;obtain⟨a14,a15,a16,a17,a18,a19⟩:=aB (dN.ks (rb,.box (.agg [.ptr b0 0])) yo).1;obtain⟨a2a,a2b,a2c,a2d,a2e,a2f⟩:=aB (dN.ks (aC.length,.box (.agg [.str nm,Y1,Y2,Y4])) yo).1;obtain⟨a2g,a2h,a2i,a2j,a2k,a2l⟩:=aB (dN.ks ((aC.length+1),.box (.agg [.int .i64 0,.int .i64 0])) yo).1;obtain⟨a2m,a2n,a2o,a2p,a2q,a2r⟩:=aB (dN.ks ((aC.length+2),.box (.int .i64 0)) yo).1
  first|refine WL.bD 1 yu yu ?_|refine WL.eE 1 yu yu ?_
  refine bM (A20 a14 a15 a16 a17 a18 a19 a2a a2b a2c a2d a2e a2f a2g a2h a2i a2j a2k a2l a2m (A5 a2n a2o a2p a2q a2r)) ?_;apply SQ.nil;refine dH.call (.i yu) yu yu hghX hqhX f2 f3 ?_
  repeat(first|refine aS.panic ?_|refine aO.panic ?_|refine aL.panic ?_)
  exact .inl ⟨_,rfl,rfl,⟨_,[.str nm,Y1,Y2,Y4],hE,rfl,rfl,rfl,rfl,rfl,(by simp[PD.plain,pF,JE,X6]),pK (aC.length,_) yo,pK (aC.length+1,_) yo,pK (aC.length+2,_) yo,pk⟩⟩
 have c8:¬(0:Int)<(l.length:Int)-(n7:Nat):=ym;refine aD yj ?_;have hP:jX l 0=.ok (⟨nm,ac,ad,ae⟩,n7):=by simp only[jX,aR,eG,HT,g1,g3,g5,hXM,QD,hXN,hM3,hXC,hM4,c9,yAO]
 refine Wp.aCj hU [(2,aC.length),(3,aC.length+1),(4,aC.length+2)] [(some (aC.length+1),some aC.length)] zb ⟨⟨0,rfl⟩,⟨0,rfl⟩,⟨0,rfl⟩,trivial⟩ yp ⟨ym,trivial⟩ ?_;obtain⟨a2s,a2t,a2u,a2v,a2w,a2x⟩:=aB (dN.ks (rb,.box (.agg [.ptr b0 0])) yo).1;obtain⟨a2y,a2z,a2A,a2B,a2C,a2D⟩:=aB (dN.ks (aC.length,.box (.agg [.str nm,Y1,Y2,Y4])) yo).1;obtain⟨a2E,a2F,a2G,a2H,a2I,a2J⟩:=aB (dN.ks ((aC.length+1),.box (.agg [.int .i64 0,.int .i64 0])) yo).1;obtain⟨a2K,a2L,a2M,a2N,a2O,a2P⟩:=aB (dN.ks ((aC.length+2),.box (.int .i64 0)) yo).1;have aBs:=dN.set (i:=aC.length) (o0:=.box (.agg [.str nm,Y1,Y2,Y4])) (o:=.box (.agg [.str nm,Y1,Y2,Y4])) [(rb,.box (.agg [.ptr b0 0]))] [((aC.length+1),.box (.agg [.int .i64 0,.int .i64 0])),((aC.length+2),.box (.int .i64 0))] rfl yz;obtain⟨a2Q,a2R,a2S,a2T,a2U,a2V⟩:=aB (aBs.ks (rb,.box (.agg [.ptr b0 0])) yo).1;obtain⟨a2W,a2X,a2Y,a2Z,a22,a23⟩:=aB (aBs.ks (aC.length,.box (.agg [.str nm,Y1,Y2,Y4])) yo).1;obtain⟨a25,a26,a27,a29,a3a,a3b⟩:=aB (aBs.ks ((aC.length+1),.box (.agg [.int .i64 0,.int .i64 0])) yo).1;obtain⟨a3c,a3d,a3e,a3f,a3g,a3h⟩:=aB (aBs.ks ((aC.length+2),.box (.int .i64 0)) yo).1;have aBt:=aBs.set (i:=(aC.length+1)) (o0:=.box (.agg [.int .i64 0,.int .i64 0])) (o:=.box (.agg [.int .i64 0,.int .i64 0])) [(rb,.box (.agg [.ptr b0 0])),(aC.length,.box (.agg [.str nm,Y1,Y2,Y4]))] [((aC.length+2),.box (.int .i64 0))] rfl yz;obtain⟨a3i,a3j,a3k,a3l,a3m,a3n⟩:=aB (aBt.ks (rb,.box (.agg [.ptr b0 0])) yo).1;obtain⟨a3o,a3p,a3q,a3r,a3s,a3t⟩:=aB (aBt.ks (aC.length,.box (.agg [.str nm,Y1,Y2,Y4])) yo).1;obtain⟨a3u,a3v,a3w,a3x,a3y,a3z⟩:=aB (aBt.ks ((aC.length+1),.box (.agg [.int .i64 0,.int .i64 0])) yo).1;obtain⟨a3A,a3B,a3C,a3D,a3E,a3F⟩:=aB (aBt.ks ((aC.length+2),.box (.int .i64 0)) yo).1;have QL:=aBt.set (i:=(aC.length+2)) (o0:=.box (.int .i64 0)) (o:=.box (.int .i64 0)) [(rb,.box (.agg [.ptr b0 0])),(aC.length,.box (.agg [.str nm,Y1,Y2,Y4])),((aC.length+1),.box (.agg [.int .i64 0,.int .i64 0]))] [] rfl yz;obtain⟨a3G,a3H,a3I,a3J,a3K,a3L⟩:=aB (QL.ks (rb,.box (.agg [.ptr b0 0])) yo).1;obtain⟨a3M,a3N,a3O,a3P,a3Q,a3R⟩:=aB (QL.ks (aC.length,.box (.agg [.str nm,Y1,Y2,Y4])) yo).1;obtain⟨a3S,a3T,a3U,a3V,a3W,a3X⟩:=aB (QL.ks ((aC.length+1),.box (.agg [.int .i64 0,.int .i64 0])) yo).1;obtain⟨a3Y,a3Z,a30,a32,a33,a34⟩:=aB (QL.ks ((aC.length+2),.box (.int .i64 0)) yo).1;refine bM (A20 a2s a2t a2u a2v a2w a2x a2y a2z a2A a2B a2C a2D a2E a2F a2G a2H a2I a2J a2K (A20 a2L a2M a2N a2O a2P a2Q a2R a2S a2T a2U a2V a2W a2X a2Y a2Z a22 a23 a25 a26 (A20 a27 a29 a3a a3b a3c a3d a3e a3f a3g a3h a3i a3j a3k a3l a3m a3n a3o a3p a3q (A20 a3r a3s a3t a3u a3v a3w a3x a3y a3z a3A a3B a3C a3D a3E a3F a3G a3H a3I a3J (A20 a3K a3L a3M a3N a3O a3P a3Q a3R a3S a3T a3U a3V a3W a3X a3Y a3Z a30 a32 a33 (A9 a34 wJ pF QK JE aA2 aA3 aEa X6)))))) ?_;apply SQ.nil;refine aD trivial ?_;exact .inr ⟨.inr rfl,rfl,⟨⟨nm,ac,ad,ae⟩,n7,[.str nm,Y1,Y2,Y4],hP,(by simp only[PD.strip,PD.lP,N3,aIe,a13,yG]),rfl,(by simp[PD.plain,pF,JE,X6]),rfl,rfl,rfl,(QL.ks (aC.length,_) yo).1,(QL.ks (aC.length+1,_) yo).1,(QL.ks (aC.length+2,_) yo).1,QL.kp⟩⟩
end
section
variable{E:aE}(hU:aG E)
include hU
set_option maxRecDepth 10000
theorem a1z(t:PD)(σ:List U):∀y,Tryz.f41.body=some y->∀x0 w,y=.seq x0 w->Wp prog E none x0 0 (t::List.replicate 66 (.aI [])) [] σ
  (λr=>r=⟨.normal,t::.aI []::PD.ptr σ.length 0::.ptr (σ.length+1) 0::.ptr (σ.length+2) 0::List.replicate 62 (.aI []),[],σ++[.box (.agg [.str [],.slice 0 [] .full,.slice 0 [] .full,.slice 0 [] .full]),.box (.agg [.int .i64 0,.int .i64 0]),.box (.int .i64 0)]⟩):=by
 intro y hy x0 w e;obtain rfl:_=y:=yBw ((show Tryz.f41.body=some _ from rfl).symm.trans hy);cases e;simp only[List.replicate]
 first|(apply WL.kN;(focus decide +kernel))|(apply WL.eI yq;(focus decide +kernel);(focus decide +kernel))|(apply WL.jP;(focus decide +kernel);(focus decide +kernel))|(apply WL.lC;(focus decide +kernel))|(apply WL.lA yq;(focus decide +kernel);(focus decide +kernel))|(apply WL.lB;(focus decide +kernel);(focus decide +kernel))
 refine aFy trivial ?_;apply SQ.nil
 first|rfl|simp
theorem aYb(hR:RdC E)(hK:PC E 87 vO)(hN:PC E 88 vP)(hD:PC E 89 vQ)(hW:RC E 90 (HJ 1) gY)(hQ:pX E 91 pW)(hV:pX E 92 oR)(hC:pX E 93 nD)(hNm:E.ret 57=some aAl)(hL:E.ret 94=some (eD RS))(hX:PC E 95 yJ)(l:List Tk)(hl:l.length<=100000)(σ:List U) :
  ∃p σ3,N0 prog E 41 [dA.aA l] σ p σ3/\Z6 (jX l 0) Em.fE.aA 4 σ p.strip σ3:=by
 obtain⟨r,h1,rfl⟩:=(a1z hU (dA.aA l) σ _ rfl _ _ rfl).ex;exact N0.ofP hU func41 rfl h1 rfl (a1A hU hR hK hN hD hW hQ hV hC hNm hL hX l hl σ _ rfl _ _ _ rfl) rfl ym (a1B hU)
end
end Go.Kz
