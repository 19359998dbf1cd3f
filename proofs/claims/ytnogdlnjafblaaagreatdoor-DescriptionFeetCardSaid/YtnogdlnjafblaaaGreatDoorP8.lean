/- Steps of the proof. -/
import Derived.Test.YtnogdlnjafblaaaGreatDoorG5
import Derived.Test.YtnogdlnjafblaaaGreatDoorG3
set_option linter.all false
set_option maxHeartbeats 40000000
set_option maxRecDepth 100000
open Go.Proofs.Tryz
namespace Go.Kz
open Go Go.Proofs
section
noncomputable def W4:Nat->List PD->List U->Option (PD×List U):=entry (aX bM texts λl=>bJ (l.length<=100000) (some (l.map bA.name)))
theorem aWM{fl:Nat}{σ:Bv}{Y:PD}{l:List bA}(h:Y.strip=bM.aA l)(hl:l.length<=100000):W4 fl [Y] σ=some (texts.aA (l.map bA.name),σ):=by
 have e1:=Em.cR h;unfold W4 entry aX;simp only[e1,dN hl]
variable{E:aE}(hU:aF E)
include hU
set_option maxRecDepth 10000
theorem aWK(hR:RdC E)(hK:PC E 87 tP)(hN:PC E 88 tQ)(hD:PC E 89 tR)(hW:RC E 90 (E9 1) fW)(hQ:oW E 91 oV)(hV:oW E 92 nG)(hC:oW E 93 lW)(hNm:E.ret 57=some W4)(hL:E.ret 94=some (dO OM))(hX:PC E 95 vW)(l:List Tk)(hl:l.length<=100000)(aC:List U) :
  ∀y,Tryz.f41.body=some y->∀x0 d z,y=.seq x0 (.seq d z)->Wp prog E none z 0 (cM.aA l::.aK []::PD.ptr aC.length 0::.ptr (aC.length+1) 0::.ptr (aC.length+2) 0::List.replicate 62 (.aK [])) [] (aC++[.box (.agg [.str [],.slice 0 [] .full,.slice 0 [] .full,.slice 0 [] .full]),.box (.agg [.int .i64 0,.int .i64 0]),.box (.int .i64 0)])
   (λr=>(∃v,r.x=.panic v/\r.ms=[]/\aLE aC (jA l 0) 2 4 v r.fr r.σ)\/((r.x=.normal\/r.x=.ret)/\r.ms=[]/\aLF aC (jA l 0) Em.fC.aA 2 4 r.fr r.σ)):=by
 intro y hy x0 d z e;obtain rfl:_=y:=yBr ((show Tryz.f41.body=some _ from rfl).symm.trans hy);cases e;simp only[List.replicate];clear hy;have hs:True:=trivial;obtain⟨gR,hgR,hR⟩:=hR;obtain⟨ghK,qhK,hghK,hqhK,hK⟩:=hK;obtain⟨ghN,qhN,hghN,hqhN,hN⟩:=hN;obtain⟨ghD,qhD,hghD,hqhD,hD⟩:=hD;obtain⟨ghX,qhX,hghX,hqhX,hX⟩:=hX;obtain⟨gW,hgW,hW⟩:=hW;obtain⟨ghQ,qhQ,hghQ,hqhQ,hphQ,hQ⟩:=hQ;obtain⟨ghV,qhV,hghV,hqhV,hphV,hV⟩:=hV;obtain⟨ghC,qhC,hghC,hqhC,hphC,hC⟩:=hC;obtain⟨b0,σ2,t2,r2,d2,q2,p2,k2⟩:=hR (aC++[.box (.agg [.str [],.slice 0 [] .full,.slice 0 [] .full,.slice 0 [] .full]),.box (.agg [.int .i64 0,.int .i64 0]),.box (.int .i64 0)]) l hl;have q2x:aC.length+3<=σ2.length:=by simpa using q2
 obtain⟨T,hT⟩:=gn (cM.aA l);rw[hT]at t2 ⊢;have h2:jF aC (.ptr b0 0) l σ2 0 [(aC.length,.box (.agg [.str [],.slice 0 [] .full,.slice 0 [] .full,.slice 0 [] .full])),(aC.length+1,.box (.agg [.int .i64 0,.int .i64 0])),(aC.length+2,.box (.int .i64 0))]:=jF.start d2 r2 k2 wz (λj q h=>yc) (λp hp=>by
  simp only[yAS,yBh,yBi]at hp;rcases hp with rfl|rfl|rfl
  .simp
  .simp
  .simp) q2 p2
 have h3:=h2.box (.box (.agg [.ptr b0 0]));obtain⟨u2,v2,w2⟩:=bH σ2;refine aD (A5 hgR @t2 u2 @v2 w2) ?_;obtain⟨jN,jO,jP,jQ,jR,jS⟩:=aB (h3.ks (σ2.length,.box (.agg [.ptr b0 0])) wz).1;obtain⟨oY,oZ,o1,o2,o3,o4⟩:=aB (h3.ks (aC.length,.box (.agg [.str [],.slice 0 [] .full,.slice 0 [] .full,.slice 0 [] .full])) wz).1;obtain⟨aLG,aLH,aLI,aLJ,aLK,aLL⟩:=aB (h3.ks ((aC.length+1),.box (.agg [.int .i64 0,.int .i64 0])) wz).1;obtain⟨aLM,aLN,aLO,aLP,aLQ,aLR⟩:=aB (h3.ks ((aC.length+2),.box (.int .i64 0)) wz).1;rcases hK [.agg [.ptr b0 0],.str [111,114,103,97,110]] _ (.ptr b0 0) _ l 0 rfl (h3.ne hs) h3.rd h3.le hl with⟨p1,n1,σ1,f1,e1,r1,k1,q1⟩ | ⟨e,σ1,f1,e1,w1,k1,q1⟩
 rotate_left
 .have hE:jA l 0=.error e:=by simp[jA,aQ,eD f1]
  obtain⟨pk,pK⟩:=h3.er k1
  first|refine WL.aZ 1 xe xe ?_|refine WL.dP 1 xe xe ?_
  refine bF (A20 jN jO jP jQ jR jS oY oZ o1 o2 o3 o4 aLG aLH aLI aLJ aLK aLL aLM (A5 aLN aLO aLP aLQ aLR)) ?_;apply SQ.nil;refine cT.call (.i xe) xe xe hghK hqhK e1 w1 ?_;exact cl
 obtain⟨u1,g1,rfl⟩:=eE f1;have h1:=h3.call r1 ((aP.key) _ _ _ _ h3.le g1).2 k1 q1
 try simp only[yAa,yAD,yAK,yAL]at q1
 obtain⟨iE,iF,iG,iH,iI,iJ⟩:=aB (h1.ks (σ2.length,.box (.agg [.ptr b0 0])) wz).1;obtain⟨o5,o6,o7,o8,o9,pA⟩:=aB (h1.ks (aC.length,.box (.agg [.str [],.slice 0 [] .full,.slice 0 [] .full,.slice 0 [] .full])) wz).1;obtain⟨aLS,aLT,aLU,aLV,aLW,aLX⟩:=aB (h1.ks ((aC.length+1),.box (.agg [.int .i64 0,.int .i64 0])) wz).1;obtain⟨aLY,aLZ,aL0,aL1,aL2,aL3⟩:=aB (h1.ks ((aC.length+2),.box (.int .i64 0)) wz).1;obtain⟨u1,v1,w1⟩:=bH σ1
 first|refine Wp.seq ?_|skip
 apply Wp.dE;refine bF (A20 hghK e1 jN jO jP jQ jR jS oY oZ o1 o2 o3 o4 aLG aLH aLI aLJ aLK (A20 aLL aLM aLN aLO aLP aLQ aLR iE iF iG iH iI iJ o5 o6 o7 o8 o9 pA (A15 aLS aLT aLU aLV aLW aLX aLY aLZ aL0 aL1 aL2 aL3 u1 @v1 w1))) ?_;apply SQ.nil;refine aD (A20 iE iF iG iH iI iJ o5 o6 o7 o8 o9 pA aLS aLT aLU aLV aLW aLX aLY (A8 aLZ aL0 aL1 aL2 aL3 u1 @v1 w1)) ?_;obtain⟨pV,pW,pX,pY,pZ,qA⟩:=aB (h1.ks (σ2.length,.box (.agg [.ptr b0 0])) wz).1;obtain⟨qB,qC,qD,qE,qG,qH⟩:=aB (h1.ks (aC.length,.box (.agg [.str [],.slice 0 [] .full,.slice 0 [] .full,.slice 0 [] .full])) wz).1;obtain⟨wI,wJ,wK,wL,wM,wN⟩:=aB (h1.ks ((aC.length+1),.box (.agg [.int .i64 0,.int .i64 0])) wz).1;obtain⟨aL4,aL5,aL6,aL7,aL8,aL9⟩:=aB (h1.ks ((aC.length+2),.box (.int .i64 0)) wz).1;rcases hN [.agg [.ptr b0 0]] _ (.ptr b0 0) _ l n1 rfl (h1.ne hs) h1.rd h1.le hl with⟨p3,n3,σ3,f3,e3,r3,k3,q3⟩ | ⟨e,σ3,f3,e3,w3,k3,q3⟩
 rotate_left
 .have hE:jA l 0=.error e:=by simp[jA,aQ,g1,eD f3]
  obtain⟨pk,pK⟩:=h1.er k3
  first|refine WL.aZ 1 xe xe ?_|refine WL.dP 1 xe xe ?_
  refine bF (A20 pV pW pX pY pZ qA qB qC qD qE qG qH wI wJ wK wL wM wN aL4 (A5 aL5 aL6 aL7 aL8 aL9)) ?_;apply SQ.nil;refine cT.call (.i xe) xe xe hghN hqhN e3 w3 ?_;exact cl
 obtain⟨nm,g3,rfl⟩:=eE f3;have h3:=h1.call r3 ((aP.name) _ _ _ _ h1.le g3).2 k3 q3
 try simp only[yAa,yAD,yAK,yAL]at q3
 obtain⟨rO,rP,rQ,rR,rS,rT⟩:=aB (h3.ks (σ2.length,.box (.agg [.ptr b0 0])) wz).1;obtain⟨rU,rV,rW,rX,rY,rZ⟩:=aB (h3.ks (aC.length,.box (.agg [.str [],.slice 0 [] .full,.slice 0 [] .full,.slice 0 [] .full])) wz).1;obtain⟨FU,FV,FW,FX,FY,FZ⟩:=aB (h3.ks ((aC.length+1),.box (.agg [.int .i64 0,.int .i64 0])) wz).1;obtain⟨aMa,aMb,aMc,aMd,aMe,aMf⟩:=aB (h3.ks ((aC.length+2),.box (.int .i64 0)) wz).1;obtain⟨u3,v3,w3⟩:=bH σ3
 first|refine Wp.seq ?_|skip
 apply Wp.dE;refine bF (A20 hghN e3 pV pW pX pY pZ qA qB qC qD qE qG qH wI wJ wK wL wM (A20 wN aL4 aL5 aL6 aL7 aL8 aL9 rO rP rQ rR rS rT rU rV rW rX rY rZ (A15 FU FV FW FX FY FZ aMa aMb aMc aMd aMe aMf u3 @v3 w3))) ?_;apply SQ.nil;have H3:=h3.set (i:=aC.length) (o0:=.box (.agg [.str [],.slice 0 [] .full,.slice 0 [] .full,.slice 0 [] .full])) (o:=.box (.agg [.str nm,.slice 0 [] .full,.slice 0 [] .full,.slice 0 [] .full])) [(σ2.length,.box (.agg [.ptr b0 0]))] [((aC.length+1),.box (.agg [.int .i64 0,.int .i64 0])),((aC.length+2),.box (.int .i64 0))] rfl xk;refine aD (A20 rO rP rQ rR rS rT rU rV rW rX rY rZ FU FV FW FX FY FZ aMa (A8 aMb aMc aMd aMe aMf u3 @v3 w3)) ?_;obtain⟨wP,wQ,wR,wS,wU,wV⟩:=aB (H3.ks (σ2.length,.box (.agg [.ptr b0 0])) wz).1;obtain⟨wW,wX,wY,wZ,xA,xB⟩:=aB (H3.ks (aC.length,.box (.agg [.str nm,.slice 0 [] .full,.slice 0 [] .full,.slice 0 [] .full])) wz).1;obtain⟨xC,xD,xE,xF,xG,xH⟩:=aB (H3.ks ((aC.length+1),.box (.agg [.int .i64 0,.int .i64 0])) wz).1;obtain⟨aMg,aMh,aMi,aMj,aMk,aMl⟩:=aB (H3.ks ((aC.length+2),.box (.int .i64 0)) wz).1;rcases hD [.agg [.ptr b0 0]] _ (.ptr b0 0) _ l n3 rfl (H3.ne hs) H3.rd H3.le hl with⟨p5,n5,j5,f5,e5,r5,k5,q5⟩ | ⟨e,j5,f5,e5,w5,k5,q5⟩
 rotate_left
 .have hE:jA l 0=.error e:=by simp[jA,aQ,g1,g3,eD f5]
  obtain⟨pk,pK⟩:=H3.er k5
  first|refine WL.aZ 1 xe xe ?_|refine WL.dP 1 xe xe ?_
  refine bF (A20 wP wQ wR wS wU wV wW wX wY wZ xA xB xC xD xE xF xG xH aMg (A5 aMh aMi aMj aMk aMl)) ?_;apply SQ.nil;refine cT.call (.i xe) xe xe hghD hqhD e5 w5 ?_
  repeat(first|refine aS.panic ?_|refine aO.panic ?_|refine aM.panic ?_)
  exact .inl ⟨_,rfl,rfl,⟨e,[.str nm,.slice 0 [] .full,.slice 0 [] .full,.slice 0 [] .full],hE,rfl,rfl,rfl,rfl,rfl,rfl,pK (aC.length,_) wz,pK (aC.length+1,_) wz,pK (aC.length+2,_) wz,pk⟩⟩
 obtain⟨u3,g5,rfl⟩:=eE f5;have h5:=H3.call r5 ((aP.eY) _ _ _ _ H3.le g5).2 k5 q5
 try simp only[yAa,yAD,yAK,yAL]at q5
 obtain⟨xI,xJ,xK,xL,xM,xN⟩:=aB (h5.ks (σ2.length,.box (.agg [.ptr b0 0])) wz).1;obtain⟨xO,xP,xQ,xR,xS,xT⟩:=aB (h5.ks (aC.length,.box (.agg [.str nm,.slice 0 [] .full,.slice 0 [] .full,.slice 0 [] .full])) wz).1;obtain⟨xU,xV,xW,xX,xY,xZ⟩:=aB (h5.ks ((aC.length+1),.box (.agg [.int .i64 0,.int .i64 0])) wz).1;obtain⟨aMm,aMn,aMo,aMp,aMq,aMr⟩:=aB (h5.ks ((aC.length+2),.box (.int .i64 0)) wz).1;obtain⟨u5,v5,w5⟩:=bH j5
 first|refine Wp.seq ?_|skip
 apply Wp.dE;refine bF (A20 hghD e5 wP wQ wR wS wU wV wW wX wY wZ xA xB xC xD xE xF xG (A20 xH aMg aMh aMi aMj aMk aMl xI xJ xK xL xM xN xO xP xQ xR xS xT (A15 xU xV xW xX xY xZ aMm aMn aMo aMp aMq aMr u5 @v5 w5))) ?_;apply SQ.nil;refine aD (A20 xI xJ xK xL xM xN xO xP xQ xR xS xT xU xV xW xX xY xZ aMm (A8 aMn aMo aMp aMq aMr u5 @v5 w5)) ?_;obtain⟨rb,hrb⟩:=gn (σ2.length);simp only[hrb]at h5 q2x ⊢;obtain⟨XM,hXM⟩:=gn (nI [114,97,110,107] iC l n5);refine Wp.eV (λm fr σ=>∃(ac:List bA) (z nn:Nat) (tok:Tok) (σ1:List U),∃gg:Nat->PD,(nn+m=l.length/\l8 [114,97,110,107] iC l XM ac nn/\(ac=[]\/z=6)/\fD aC σ1 tok 84 6 ac.length/\jF aC (.ptr b0 0) l σ1 nn [(rb,.box (.agg [.ptr b0 0])),(aC.length,.box (.agg [.str nm,.slice z (ac.map Em.bO.aA) tok,.slice 0 [] .full,.slice 0 [] .full])),(aC.length+1,.box (.agg [.int .i64 0,.int .i64 0])),(aC.length+2,.box (.int .i64 0))])/\fr=T::gg 1::.ptr aC.length 0::.ptr (aC.length+1) 0::.ptr (aC.length+2) 0::.ptr rb 0::gg 6::gg 7::gg 8::gg 9::gg 10::gg 11::gg 12::gg 13::gg 14::gg 15::gg 16::gg 17::gg 18::gg 19::gg 20::gg 21::gg 22::gg 23::gg 24::gg 25::gg 26::gg 27::gg 28::gg 29::gg 30::gg 31::gg 32::gg 33::gg 34::gg 35::gg 36::gg 37::gg 38::gg 39::gg 40::gg 41::gg 42::gg 43::gg 44::gg 45::gg 46::gg 47::gg 48::gg 49::gg 50::gg 51::gg 52::gg 53::gg 54::gg 55::gg 56::gg 57::gg 58::gg 59::gg 60::gg 61::gg 62::gg 63::gg 64::gg 65::gg 66::[]/\σ=σ1) ?_ (l.length-n5) zb
 rintro m fr σ ⟨ac,z,nn,tok,σ1,gg,hI,rfl,rfl⟩
 obtain⟨hm,hMa,hz,hrow,hB⟩:=hI;have hal:=hMa.1;obtain⟨qI,qJ,qK,qL,qM,qN⟩:=aB (hB.ks (rb,.box (.agg [.ptr b0 0])) wz).1;obtain⟨qO,qP,qQ,qR,qS,qT⟩:=aB (hB.ks (aC.length,.box (.agg [.str nm,.slice z (ac.map Em.bO.aA) tok,.slice 0 [] .full,.slice 0 [] .full])) wz).1;obtain⟨sA,sB,sC,sD,sE,sF⟩:=aB (hB.ks ((aC.length+1),.box (.agg [.int .i64 0,.int .i64 0])) wz).1;obtain⟨aMs,aMt,aMu,aMv,aMw,aMx⟩:=aB (hB.ks ((aC.length+2),.box (.int .i64 0)) wz).1;obtain⟨u2,v2,w2⟩:=bH σ;obtain⟨x5,lK,YI,M8,YJ⟩:=hW [.ptr b0 0,.str [114,97,110,107]] _ (.ptr b0 0) _ l nn ⟨_,rfl,rfl⟩ (hB.ne hs) hB.rd hB.le hl;have bB:=hB.call YI (oX _ hB.le) M8 YJ;have hrow:=hrow.M9 hB M8;cases c2:(bK (isWord 1 [114,97,110,107]) l nn).1.2
 rotate_left
 .skip
  obtain⟨t2,_,_,e2⟩:=IF c2;rw[e2]at lK bB;simp only[fW]at lK bB;obtain⟨DJ,DK,DL,DM,DN,DO⟩:=aB (bB.ks (rb,.box (.agg [.ptr b0 0])) wz).1;obtain⟨DP,DR,DS,DT,DU,DV⟩:=aB (bB.ks (aC.length,.box (.agg [.str nm,.slice z (ac.map Em.bO.aA) tok,.slice 0 [] .full,.slice 0 [] .full])) wz).1;obtain⟨DW,DX,DY,DZ,D0,D1⟩:=aB (bB.ks ((aC.length+1),.box (.agg [.int .i64 0,.int .i64 0])) wz).1;obtain⟨aWN,aWO,aWP,aWQ,aWR,aWS⟩:=aB (bB.ks ((aC.length+2),.box (.int .i64 0)) wz).1;obtain⟨x8,x9,yE⟩:=bH x5;refine aD (A20 hgW lK qI qJ qK qL qM qN qO qP qQ qR qS qT sA sB sC sD sE (A20 sF aMs aMt aMu aMv aMw aMx u2 @v2 w2 DJ DK DL DM DN DO DP DR DS (A18 DT DU DV DW DX DY DZ D0 D1 aWN aWO aWP aWQ aWR aWS x8 x9 yE))) ?_;obtain⟨sG,sH,sI,sJ,sK,sL⟩:=aB (bB.ks (rb,.box (.agg [.ptr b0 0])) wz).1;obtain⟨sM,sN,sO,sP,sQ,sR⟩:=aB (bB.ks (aC.length,.box (.agg [.str nm,.slice z (ac.map Em.bO.aA) tok,.slice 0 [] .full,.slice 0 [] .full])) wz).1;obtain⟨sS,sT,sU,sV,sW,sX⟩:=aB (bB.ks ((aC.length+1),.box (.agg [.int .i64 0,.int .i64 0])) wz).1;obtain⟨aFI,aFJ,aFK,aFL,aFM,aFN⟩:=aB (bB.ks ((aC.length+2),.box (.int .i64 0)) wz).1;obtain⟨u4,v4,w4⟩:=bH x5;have hbx:∀id∈[aC.length],∃b,(x5)[id]?=some (U.box b):=λid hid=>by
   simp only[yAS,yBh,yBi]at hid;have hidd:=hid
   .rw[hidd];exact⟨_,(bB.ks (aC.length,.box (.agg [.str nm,.slice z (ac.map Em.bO.aA) tok,.slice 0 [] .full,.slice 0 [] .full])) wz).1⟩
  have hne:=bB.ne hs;rcases hQ [.agg [.ptr b0 0]] _ (.ptr b0 0) _ l (nn+1) rfl (bB.ne hs) bB.rd bB.le hl with⟨p4,n4,fI,f4,e4,r4,k4,q4⟩ | ⟨e,fI,f4,e4,YK,k4,q4⟩
  rotate_left
  .skip
   have hEb:iC l (nn+1)=.error e:=eD f4;have hEm:=hMa.er hB.le e2 hEb;have hE:jA l 0=.error e:=by simp[jA,aQ,g1,g3,g5,hXM,hEm]
   obtain⟨pk,pK⟩:=bB.er k4;rw[show ac.length=(ac.map Em.bO.aA).length by simp]at hrow;obtain⟨tokF,aMy,hap,hrowF,hPF,_⟩:=hrow.TL (P:=prog) (t:=38) (b:=80) (s:=z) (xs:=ac.map Em.bO.aA) (p:=.agg [PD.mark,PD.mark,PD.mark,PD.mark,PD.mark,PD.mark]) (tk:=.any) bB wz wz underlying38 xg (hz.imp (λh=>ya) id) zg zg;obtain⟨yF,yG,yH,yI,yJ,yK⟩:=aB (hPF.ks (rb,.box (.agg [.ptr b0 0])) wz).1;obtain⟨yL,yM,yN,yO,yP,yQ⟩:=aB (hPF.ks (aC.length,.box (.agg [.str nm,.slice z (ac.map Em.bO.aA) tok,.slice 0 [] .full,.slice 0 [] .full])) wz).1;obtain⟨yR,yS,yT,yU,yV,yW⟩:=aB (hPF.ks ((aC.length+1),.box (.agg [.int .i64 0,.int .i64 0])) wz).1;obtain⟨aWT,aWU,aWV,aWW,aWX,aWY⟩:=aB (hPF.ks ((aC.length+2),.box (.int .i64 0)) wz).1;have hkF:=aFO (B:=[aC.length]) (x:=.agg [PD.mark,PD.mark,PD.mark,PD.mark,PD.mark,PD.mark]) hghQ hqhQ e4 YK;unfold PD.mark at hap hkF;refine WL.aFP 3 hU xe xo (v:=IT e) (τ:=fI) (x:=.agg [.bL (.bool true),.bL (.bool true),.bL (.bool true),.bL (.bool true),.bL (.bool true),.bL (.bool true)]) xe hghQ hqhQ hphQ hne [(2,aC.length),(5,rb)] [aC.length] [some (aC.length)] hbx ⟨⟨_,rfl,rfl⟩,⟨_,rfl,rfl⟩,trivial⟩ xg Ac ?_ ?_ ?_
   .skip
    refine jJ (A20 sG sH sI sJ sK sL sM sN sO sP sQ sR sS sT sU sV sW sX aFI (A8 aFJ aFK aFL aFM aFN u4 @v4 w4)) ?_;exact jz
   .skip
    refine jJ (A20 hap hkF sG sH sI sJ sK sL sM sN sO sP sQ sR sS sT sU sV sW (A20 sX aFI aFJ aFK aFL aFM aFN u4 @v4 w4 yF yG yH yI yJ yK yL yM yN (A15 yO yP yQ yR yS yT yU yV yW aWT aWU aWV aWW aWX aWY))) ?_;exact qh
   .skip
    repeat(first|refine aS.panic ?_|refine aO.panic ?_|refine aM.panic ?_)
    exact .inl ⟨_,rfl,rfl,⟨e,[.str nm,.slice z (ac.map Em.bO.aA) tok,.slice 0 [] .full,.slice 0 [] .full],hE,rfl,rfl,rfl,rfl,rfl,rfl,pK (aC.length,_) wz,pK (aC.length+1,_) wz,pK (aC.length+2,_) wz,pk⟩⟩
  obtain⟨⟨a1,a2,a3,a4,a5,a6⟩,g4,rfl⟩:=eE f4;have h4:=bB.call r4 ((aP.bO) _ _ _ _ bB.le g4).2 k4 q4;have hrow:=hrow.M9 bB k4;simp only[WQ,gA]at e4;obtain⟨yX,yY,yZ,y0,y7,y8⟩:=aB (h4.ks (rb,.box (.agg [.ptr b0 0])) wz).1;obtain⟨y9,zA,zB,zC,zD,zE⟩:=aB (h4.ks (aC.length,.box (.agg [.str nm,.slice z (ac.map Em.bO.aA) tok,.slice 0 [] .full,.slice 0 [] .full])) wz).1;obtain⟨zF,zG,zH,zI,zJ,zK⟩:=aB (h4.ks ((aC.length+1),.box (.agg [.int .i64 0,.int .i64 0])) wz).1;obtain⟨aBF,aBG,aBH,aBI,aBJ,aBK⟩:=aB (h4.ks ((aC.length+2),.box (.int .i64 0)) wz).1;obtain⟨u4b,v4b,w4b⟩:=bH fI;have hkk:=aBE (B:=[aC.length]) hghQ e4 q4 (λid hid _=>by
   simp only[yAS,yBh,yBi]at hid;have hidd:=hid
   .rw[hidd];exact(h4.ks (aC.length,.box (.agg [.str nm,.slice z (ac.map Em.bO.aA) tok,.slice 0 [] .full,.slice 0 [] .full])) wz).1.trans (bB.ks (aC.length,.box (.agg [.str nm,.slice z (ac.map Em.bO.aA) tok,.slice 0 [] .full,.slice 0 [] .full])) wz).1.symm)
  rw[show ac.length=(ac.map Em.bO.aA).length by simp]at hrow;obtain⟨tokP,YL,hap,hrowP,hP,hkeep⟩:=hrow.TL (P:=prog) (t:=38) (b:=80) (s:=z) (xs:=ac.map Em.bO.aA) (p:=.agg [.str a1,.str a2,.int .i64 a3,.int .i64 a4,.int .i64 a5,.slice (sz 1 a6) (a6.map i64.aA) .any]) (tk:=.any) h4 wz wz underlying38 xg (hz.imp (λh=>ya) id) zh zh;simp only[yAe]at hrowP;obtain⟨zL,zM,zN,zO,zP,zQ⟩:=aB (hP.ks (rb,.box (.agg [.ptr b0 0])) wz).1;obtain⟨zR,zS,zT,zU,zV,zW⟩:=aB (hP.ks (aC.length,.box (.agg [.str nm,.slice z (ac.map Em.bO.aA) tok,.slice 0 [] .full,.slice 0 [] .full])) wz).1;obtain⟨zX,zY,zZ,z7,z8,AA⟩:=aB (hP.ks ((aC.length+1),.box (.agg [.int .i64 0,.int .i64 0])) wz).1;obtain⟨aBL,aBM,aBN,aBO,aBP,aBQ⟩:=aB (hP.ks ((aC.length+2),.box (.int .i64 0)) wz).1;refine Wp.aFQ hghQ hphQ hne [(2,aC.length),(5,rb)] [aC.length] [some (aC.length)] xo hbx ⟨⟨_,rfl,rfl⟩,⟨_,rfl,rfl⟩,trivial⟩ xg Ac ?_;refine bF (A20 hap hkk sG sH sI sJ sK sL sM sN sO sP sQ sR sS sT sU sV sW (A20 sX aFI aFJ aFK aFL aFM aFN u4 @v4 w4 yX yY yZ y0 y7 y8 y9 zA zB (A20 zC zD zE zF zG zH zI zJ zK aBF aBG aBH aBI aBJ aBK u4b v4b w4b zL (A20 zM zN zO zP zQ zR zS zT zU zV zW zX zY zZ z7 z8 AA aBL aBM (A4 aBN aBO aBP aBQ))))) ?_;apply SQ.nil
  repeat(first|refine aO.normal ?_|refine aS.normal ?_)
  obtain⟨YM,hlt,hle⟩:=hMa.ok hB.le aP.bO e2 g4;have hQ1:=hP.set (i:=aC.length) (o:=.box (.agg [.str nm,.slice 6 ((ac++[(⟨a1,a2,a3,a4,a5,a6⟩:bA)]).map Em.bO.aA) tokP,.slice 0 [] .full,.slice 0 [] .full])) [(rb,.box (.agg [.ptr b0 0]))] [((aC.length+1),.box (.agg [.int .i64 0,.int .i64 0])),((aC.length+2),.box (.int .i64 0))] rfl xk;have F0:=hrowP.TM (i:=aC.length) (o:=.box (.agg [.str nm,.slice 6 ((ac++[(⟨a1,a2,a3,a4,a5,a6⟩:bA)]).map Em.bO.aA) tokP,.slice 0 [] .full,.slice 0 [] .full])) hP xm;rw[show ac.length+1=(ac++[(⟨a1,a2,a3,a4,a5,a6⟩:bA)]).length by simp]at F0;refine aM.normal (l.length-n4) xb ⟨ac++[(⟨a1,a2,a3,a4,a5,a6⟩:bA)],6,n4,tokP,_,cG (⟨xb,YM,.inr rfl,F0,hQ1⟩)⟩
 have NA:=hMa.stop hB.le c2;have e2:=K6 c2;rw[e2]at lK bB;simp only[fW]at lK bB;obtain⟨AB,AD,AE,AF,AG,AH⟩:=aB (bB.ks (rb,.box (.agg [.ptr b0 0])) wz).1;obtain⟨tY,tZ,uA,uB,uC,uD⟩:=aB (bB.ks (aC.length,.box (.agg [.str nm,.slice z (ac.map Em.bO.aA) tok,.slice 0 [] .full,.slice 0 [] .full])) wz).1;obtain⟨AI,AJ,AK,AL,AM,AO⟩:=aB (bB.ks ((aC.length+1),.box (.agg [.int .i64 0,.int .i64 0])) wz).1;obtain⟨aBR,aBS,aBT,aBU,aBV,aBW⟩:=aB (bB.ks ((aC.length+2),.box (.int .i64 0)) wz).1;obtain⟨x8,x9,yE⟩:=bH x5;obtain⟨Y1,hY1⟩:=gn (PD.slice z (ac.map Em.bO.aA) tok);have uE:Y1.plain=true:=by rw[<-hY1];rfl
 have oF:=uE;unfold PD.plain at oF;have K9:Y1.strip=bM.aA ac:=by
  rw[<-hY1,PD.nQ,show(ac.map Em.bO.aA).map PD.strip=ac.map Em.bO.aA by rw[yBo];exact yAG λx _=>Em.bO.str x];exact uk
 rw[hY1]at bB tZ uA uB uC uD tY qP qQ qR qS qT qO;refine aD (A20 hgW lK qI qJ qK qL qM qN qO qP qQ qR qS qT sA sB sC sD sE (A20 sF aMs aMt aMu aMv aMw aMx u2 @v2 w2 AB AD AE AF AG AH tY tZ uA (A20 uB uC uD AI AJ AK AL AM AO aBR aBS aBT aBU aBV aBW x8 x9 yE uE oF))) ?_;have hacl:ac.length<=100000:=by have:=bB.le;omega
 obtain⟨NS,hNS⟩:=gn (texts.aA (ac.map bA.name));have hnm:=λfl τ=>@aWM fl τ _ _ K9 hacl
 rw[hNS]at hnm;have hdv:nG [.agg [.ptr b0 0],NS]=some (.ptr b0 0,jE (iT (ac.map bA.name)) Em.div.aA):=by
  have e1:texts.dec NS=some (ac.map bA.name):=by rw[<-hNS];exact Em.cR (Em.str texts _)
  simp only[nG,e1];rw[dN yh]
 obtain⟨XN,hXN⟩:=gn (nI [100,105,118,105,115,105,111,110] (iT (ac.map bA.name)) l nn);refine Wp.eV (λm fr σ=>∃(ad:List b9) (AN:List PD) (z2 z3 n2:Nat) (dU TN:Tok) (σ1:List U),∃gg:Nat->PD,(n2+m=l.length/\AN=(ad.map b9.name).map PD.str/\l8 [100,105,118,105,115,105,111,110] (iT (ac.map bA.name)) l XN ad n2/\(ad=[]\/z2=5)/\(ad=[]\/z3=1)/\fD aC σ1 dU 62 5 ad.length/\fD aC σ1 TN 9 1 ad.length/\(∀id,TN=.own id->dU≠.own id)/\jF aC (.ptr b0 0) l σ1 n2 [(rb,.box (.agg [.ptr b0 0])),(aC.length,.box (.agg [.str nm,Y1,.slice z2 (ad.map Em.div.aA) dU,.slice 0 [] .full])),(aC.length+1,.box (.agg [.int .i64 0,.int .i64 0])),(aC.length+2,.box (.int .i64 0))])/\fr=T::gg 1::.ptr aC.length 0::.ptr (aC.length+1) 0::.ptr (aC.length+2) 0::.ptr rb 0::.slice z3 AN TN::gg 7::gg 8::gg 9::gg 10::gg 11::gg 12::gg 13::gg 14::gg 15::gg 16::gg 17::gg 18::gg 19::gg 20::gg 21::gg 22::gg 23::gg 24::gg 25::gg 26::gg 27::gg 28::gg 29::gg 30::gg 31::gg 32::gg 33::gg 34::gg 35::gg 36::gg 37::gg 38::gg 39::gg 40::gg 41::gg 42::gg 43::gg 44::gg 45::gg 46::gg 47::gg 48::gg 49::gg 50::gg 51::gg 52::gg 53::gg 54::gg 55::gg 56::gg 57::gg 58::gg 59::gg 60::gg 61::gg 62::gg 63::gg 64::gg 65::gg 66::[]/\σ=σ1) ?_ (l.length-nn) (by refine⟨[],[],0,0,nn,.full,.full,x5,?_⟩;exact cG (⟨by have:=bB.le;omega,rfl,hXN▸l8.start,.inl rfl,.inl rfl,.nil,.nil,(λ_ e=>xx),bB⟩))
 rintro m fr σ ⟨ad,AN,z2,z3,n2,dU,TN,σ1,gg,hI,rfl,rfl⟩
 obtain⟨hm2,hAN,hMb,fU,hz3,eH,nH,hnd,oG⟩:=hI;have hbl:=hMb.1;obtain⟨uF,uG,uH,uI,uJ,uK⟩:=aB (oG.ks (rb,.box (.agg [.ptr b0 0])) wz).1;obtain⟨sY,sZ,s5,s6,s7,s8⟩:=aB (oG.ks (aC.length,.box (.agg [.str nm,Y1,.slice z2 (ad.map Em.div.aA) dU,.slice 0 [] .full])) wz).1;obtain⟨uL,uM,uN,uO,uP,uQ⟩:=aB (oG.ks ((aC.length+1),.box (.agg [.int .i64 0,.int .i64 0])) wz).1;obtain⟨YN,YO,YP,YQ,YR,YS⟩:=aB (oG.ks ((aC.length+2),.box (.int .i64 0)) wz).1;obtain⟨u3,v3,w3⟩:=bH σ;obtain⟨kY,AP,r3k,PQ,q3k⟩:=hW [.ptr b0 0,.str [100,105,118,105,115,105,111,110]] _ (.ptr b0 0) _ l n2 ⟨_,rfl,rfl⟩ (oG.ne hs) oG.rd oG.le hl;have cU:=oG.call r3k (oX _ oG.le) PQ q3k;have eH:=eH.M9 oG PQ;have nH:=nH.M9 oG PQ;cases c3:(bK (isWord 1 [100,105,118,105,115,105,111,110]) l n2).1.2
 rotate_left
 .skip
  obtain⟨t3,_,_,e3⟩:=IF c3;rw[e3]at AP cU;simp only[fW]at AP cU;obtain⟨qU,qV,qW,qY,qZ,rA⟩:=aB (cU.ks (rb,.box (.agg [.ptr b0 0])) wz).1;obtain⟨AQ,AR,AS,AT,AU,AV⟩:=aB (cU.ks (aC.length,.box (.agg [.str nm,Y1,.slice z2 (ad.map Em.div.aA) dU,.slice 0 [] .full])) wz).1;obtain⟨AW,AX,AY,AZ,A0,A1⟩:=aB (cU.ks ((aC.length+1),.box (.agg [.int .i64 0,.int .i64 0])) wz).1;obtain⟨aBX,aBY,aBZ,aB0,aB1,aB2⟩:=aB (cU.ks ((aC.length+2),.box (.int .i64 0)) wz).1;obtain⟨PR,PS,PT⟩:=bH kY;refine aD (A20 hgW AP uF uG uH uI uJ uK sY sZ s5 s6 s7 s8 uL uM uN uO uP (A20 uQ YN YO YP YQ YR YS u3 @v3 w3 qU qV qW qY qZ rA AQ AR AS (A18 AT AU AV AW AX AY AZ A0 A1 aBX aBY aBZ aB0 aB1 aB2 PR PS PT))) ?_;have h5:=cU.box (.box (.agg [.str [],.bool false,.int .i64 0,.int .i64 0,.slice 0 [] .full]));obtain⟨BA,BC,BD,BE,BF,BG⟩:=aB (h5.ks (kY.length,.box (.agg [.str [],.bool false,.int .i64 0,.int .i64 0,.slice 0 [] .full])) wz).1;obtain⟨BH,BI,BJ,BK,BL,BM⟩:=aB (h5.ks (rb,.box (.agg [.ptr b0 0])) wz).1;obtain⟨BN,BO,BP,BQ,BR,BS⟩:=aB (h5.ks (aC.length,.box (.agg [.str nm,Y1,.slice z2 (ad.map Em.div.aA) dU,.slice 0 [] .full])) wz).1;obtain⟨LA,LB,LC,LD,LF,LG⟩:=aB (h5.ks ((aC.length+1),.box (.agg [.int .i64 0,.int .i64 0])) wz).1;obtain⟨PU,PV,PY,PZ,P0,P1⟩:=aB (h5.ks ((aC.length+2),.box (.int .i64 0)) wz).1;have dk0:=(h5.ks (kY.length,.box (.agg [.str [],.bool false,.int .i64 0,.int .i64 0,.slice 0 [] .full])) wz).1;have dk1:=(h5.ks (rb,.box (.agg [.ptr b0 0])) wz).1;have dk2:=(h5.ks (aC.length,.box (.agg [.str nm,Y1,.slice z2 (ad.map Em.div.aA) dU,.slice 0 [] .full])) wz).1;have dk3:=(h5.ks ((aC.length+1),.box (.agg [.int .i64 0,.int .i64 0])) wz).1;have TO:=(h5.ks ((aC.length+2),.box (.int .i64 0)) wz).1;rcases hV [.agg [.ptr b0 0],NS] _ (.ptr b0 0) _ l (n2+1) hdv h5.pos h5.rd h5.le hl with⟨p6,n6,O1,f6,e6,r6,k6,q6⟩ | ⟨e,O1,f6,e6,w6,k6,q6⟩
  rotate_left
  .skip
   have hEb:iT (ac.map bA.name) l (n2+1)=.error e:=eD f6;have hEm:=hMb.er oG.le e3 hEb;have hE:jA l 0=.error e:=by simp[jA,aQ,g1,g3,g5,hXM,NA,hXN,hEm]
   obtain⟨pk,pK⟩:=h5.er k6;apply WL.aWZ 4 hU (f:=92) (hs:=[.box (.agg [.str [],.bool false,.int .i64 0,.int .i64 0,.slice 0 [] .full])]) xg xe xo (v:=IT e) (τ:=O1) (x:=.agg [.bL (.bool true),.bL (.bool true),.bL (.bool true),.bL (.bool true),.bL (.bool true)]) xe
   .skip
    refine jJ (A20 hNm hnm K9 BA BC BD BE BF BG BH BI BJ BK BL BM BN BO BP BQ (A16 BR BS LA LB LC LD LF LG PU PV PY PZ P0 P1 uE oF)) ?_;apply SQ.nil;exact FQ.call (.i xe) xe xe hghV hqhV e6 (hphV _ _ _ wz) w6
   .intro n;apply DQ.step
    .rfl
    .exact ey
    .exact az
    apply DQ.step
    .rfl
    .rfl
    .exact az
    apply DQ.step
    .rfl
    .exact ey
    .exact az
    apply DQ.step
    .rfl
    .exact aB4 ((aW0 xl).trans hNm) rfl (hnm _ _) (λ_=>rfl)
    .exact az
    apply DQ.step
    .rfl
    .exact aB4 aFR rfl (by rw[show j9 _ _ 4=true from by decide +kernel];exact aMz hghV hqhV e6 w6) (λh=>absurd h xo)
    .exact az
    apply DQ.alloc
    .rfl
    .exact az
    apply DQ.step
    .rfl
    .exact aMA rfl rfl (by simp(disch:=first|omega|(simp;done)|(simp;omega)) [dk0,dk1,dk2,dk3,TO,BA,BC,BD,BE,BF,BG,BH,BI,BJ,BK,BL,BM,BN,BO,BP,BQ,BR,BS,LA,LB,LC,LD,LF,LG,PU,PV,PY,PZ,P0,P1,uE,oF,K9]<;>rfl)
    .exact az
    exact DQ.nil
   .simp[PD.marked,PD.N0]
   .skip
    repeat(first|refine aS.panic ?_|refine aO.panic ?_|refine aM.panic ?_)
    exact .inl ⟨_,rfl,rfl,⟨e,[.str nm,Y1,.slice z2 (ad.map Em.div.aA) dU,.slice 0 [] .full],hE,rfl,rfl,rfl,rfl,rfl,(by simp[PD.plain,oF]),pK (aC.length,_) wz,pK (aC.length+1,_) wz,pK (aC.length+2,_) wz,pk⟩⟩
  obtain⟨⟨d1,d2,d3,d4,d5⟩,g6,rfl⟩:=eE f6;have h6:=h5.call r6 (aP.div _ _ _ _ h5.le g6).2 k6 q6;have eH:=(eH.more (τ:=[.box (.agg [.str [],.bool false,.int .i64 0,.int .i64 0,.slice 0 [] .full])])).M9 h5 k6;have nH:=(nH.more (τ:=[.box (.agg [.str [],.bool false,.int .i64 0,.int .i64 0,.slice 0 [] .full])])).M9 h5 k6;simp only[aAN,gA]at e6;obtain⟨s9,tA,tB,tC,tD,tE⟩:=aB (h6.ks (kY.length,.box (.agg [.str [],.bool false,.int .i64 0,.int .i64 0,.slice 0 [] .full])) wz).1;obtain⟨uR,uS,uT,uU,uV,uW⟩:=aB (h6.ks (rb,.box (.agg [.ptr b0 0])) wz).1;obtain⟨uX,uY,uZ,u0,u6,vA⟩:=aB (h6.ks (aC.length,.box (.agg [.str nm,Y1,.slice z2 (ad.map Em.div.aA) dU,.slice 0 [] .full])) wz).1;obtain⟨NB,NC,ND,NF,NG,NH⟩:=aB (h6.ks ((aC.length+1),.box (.agg [.int .i64 0,.int .i64 0])) wz).1;obtain⟨aFS,aFT,aFU,aFV,aFW,aFX⟩:=aB (h6.ks ((aC.length+2),.box (.int .i64 0)) wz).1;apply Wp.aW1 (hs:=[.box (.agg [.str [],.bool false,.int .i64 0,.int .i64 0,.slice 0 [] .full])]) xo xg
  .intro n;apply DQ.step
   .rfl
   .exact cj
   .exact az
   apply DQ.step
   .rfl
   .rfl
   .exact az
   apply DQ.step
   .rfl
   .exact cj
   .exact az
   apply DQ.step
   .rfl
   .exact aB4 hNm rfl (hnm _ _) (λ_=>rfl)
   .exact az
   apply DQ.step
   .rfl
   .exact aB4 hghV rfl (by rw[show j9 _ _ 4=true from by decide +kernel];exact e6) (λh=>absurd h xo)
   .exact az
   apply DQ.alloc
   .rfl
   .exact az
   apply DQ.step
   .rfl
   .exact aMA rfl rfl (by simp(disch:=first|omega|(simp;done)|(simp;omega)) [dk0,dk1,dk2,dk3,TO,BA,BC,BD,BE,BF,BG,BH,BI,BJ,BK,BL,BM,BN,BO,BP,BQ,BR,BS,LA,LB,LC,LD,LF,LG,PU,PV,PY,PZ,P0,P1,uE,oF,K9,s9,tA,tB,tC,tD,tE,uR,uS,uT,uU,uV,uW,uX,uY,uZ,u0,u6,vA,NB,NC,ND,NF,NG,NH,aFS,aFT,aFU,aFV,aFW,aFX]<;>rfl)
   .exact az
   exact DQ.nil
  have P2:=h6.set (i:=kY.length) (o0:=.box (.agg [.str [],.bool false,.int .i64 0,.int .i64 0,.slice 0 [] .full])) (o:=.box (.agg [.str d1,.bool d2,.int .i64 d3,.int .i64 d4,.slice (sz 4 d5) (d5.map Em.stop.aA) .any])) [] [(rb,.box (.agg [.ptr b0 0])),(aC.length,.box (.agg [.str nm,Y1,.slice z2 (ad.map Em.div.aA) dU,.slice 0 [] .full])),((aC.length+1),.box (.agg [.int .i64 0,.int .i64 0])),((aC.length+2),.box (.int .i64 0))] rfl xk;have eH:=eH.TM (i:=kY.length) (o:=.box (.agg [.str d1,.bool d2,.int .i64 d3,.int .i64 d4,.slice (sz 4 d5) (d5.map Em.stop.aA) .any])) h6 xm;have nH:=nH.TM (i:=kY.length) (o:=.box (.agg [.str d1,.bool d2,.int .i64 d3,.int .i64 d4,.slice (sz 4 d5) (d5.map Em.stop.aA) .any])) h6 xm;obtain⟨IU,IV,IW,IX,IY,IZ⟩:=aB (P2.ks (kY.length,.box (.agg [.str d1,.bool d2,.int .i64 d3,.int .i64 d4,.slice (sz 4 d5) (d5.map Em.stop.aA) .any])) wz).1;obtain⟨I0,I1,I2,I3,I4,I5⟩:=aB (P2.ks (rb,.box (.agg [.ptr b0 0])) wz).1;obtain⟨I6,I7,I8,I9,JA,JB⟩:=aB (P2.ks (aC.length,.box (.agg [.str nm,Y1,.slice z2 (ad.map Em.div.aA) dU,.slice 0 [] .full])) wz).1;obtain⟨TP,TQ,TR,TS,TT,TU⟩:=aB (P2.ks ((aC.length+1),.box (.agg [.int .i64 0,.int .i64 0])) wz).1;obtain⟨aW2,aW3,aW4,aW5,aW6,aW7⟩:=aB (P2.ks ((aC.length+2),.box (.int .i64 0)) wz).1;have hbx:∀id∈[kY.length],∃b,(O1.set kY.length (.box (.agg [.str d1,.bool d2,.int .i64 d3,.int .i64 d4,.slice (sz 4 d5) (d5.map Em.stop.aA) .any])))[id]?=some (U.box b):=λid hid=>by
   simp only[yAS,yBh,yBi]at hid;rw[hid];exact⟨_,(P2.ks (kY.length,.box (.agg [.str d1,.bool d2,.int .i64 d3,.int .i64 d4,.slice (sz 4 d5) (d5.map Em.stop.aA) .any])) wz).1⟩
  rw[show ad.length=(ad.map Em.div.aA).length by simp]at eH;obtain⟨tokP,YL,hap,hrowP,hP,hkeep⟩:=eH.TL (P:=prog) (t:=39) (b:=64) (s:=z2) (xs:=ad.map Em.div.aA) (p:=.agg [.str d1,.bool d2,.int .i64 d3,.int .i64 d4,.slice (sz 4 d5) (d5.map Em.stop.aA) .any]) (tk:=.any) P2 wz wz underlying39 xg (fU.imp (λh=>ya) id) (by rw[yAe];have:=oG.le;omega) (by rw[yAe];have:=oG.le;omega);simp only[yAe]at hrowP;obtain⟨aMB,hnda⟩:=hkeep TN _ 1 _ hnd nH;have hANl:AN.length=ad.length:=by rw[hAN,yAe,yAe]
  rw[<-hANl]at aMB;obtain⟨tokQ,a2q,haq,hrowQ,hQQ,aW8⟩:=aMB.TL (P:=prog) (t:=55) (b:=16) (s:=z3) (xs:=AN) (p:=.str d1) (tk:=.any) hP wz wz underlying55 xg (hz3.imp (λh=>by rw[hAN,h];rfl) id) (by rw[hANl];have:=oG.le;omega) (by rw[hANl];have:=oG.le;omega);rw[hANl]at hrowQ;obtain⟨hrowPa,hndb⟩:=aW8 tokP _ 5 _ (λid e e2=>hnda id e2 e) hrowP;obtain⟨F2,F3,F4,F5,F6,F7⟩:=aB (hP.ks (kY.length,.box (.agg [.str d1,.bool d2,.int .i64 d3,.int .i64 d4,.slice (sz 4 d5) (d5.map Em.stop.aA) .any])) wz).1;obtain⟨F8,F9,GA,GB,GC,GD⟩:=aB (hP.ks (rb,.box (.agg [.ptr b0 0])) wz).1;obtain⟨GF,GG,GH,GI,GJ,GK⟩:=aB (hP.ks (aC.length,.box (.agg [.str nm,Y1,.slice z2 (ad.map Em.div.aA) dU,.slice 0 [] .full])) wz).1;obtain⟨aB5,aB6,aB7,aB8,aB9,aCa⟩:=aB (hP.ks ((aC.length+1),.box (.agg [.int .i64 0,.int .i64 0])) wz).1;obtain⟨aCb,aCc,aCd,aCe,aCf,aCg⟩:=aB (hP.ks ((aC.length+2),.box (.int .i64 0)) wz).1;obtain⟨BT,BU,BV,BW,BX,BY⟩:=aB (hQQ.ks (kY.length,.box (.agg [.str d1,.bool d2,.int .i64 d3,.int .i64 d4,.slice (sz 4 d5) (d5.map Em.stop.aA) .any])) wz).1;obtain⟨D2,D3,D4,D5,D6,D7⟩:=aB (hQQ.ks (rb,.box (.agg [.ptr b0 0])) wz).1;obtain⟨D8,D9,EA,EB,EC,ED⟩:=aB (hQQ.ks (aC.length,.box (.agg [.str nm,Y1,.slice z2 (ad.map Em.div.aA) dU,.slice 0 [] .full])) wz).1;obtain⟨TV,TW,TX,TY,TZ,T1⟩:=aB (hQQ.ks ((aC.length+1),.box (.agg [.int .i64 0,.int .i64 0])) wz).1;obtain⟨aCh,aCi,aCj,aCk,aCl,aCm⟩:=aB (hQQ.ks ((aC.length+2),.box (.int .i64 0)) wz).1;obtain⟨u7,v7,w7⟩:=bH (O1.set kY.length (.box (.agg [.str d1,.bool d2,.int .i64 d3,.int .i64 d4,.slice (sz 4 d5) (d5.map Em.stop.aA) .any])));refine Wp.aW9 [(2,aC.length),(7,kY.length)] [kY.length] [some kY.length] xo (λt=>show pE t 67=false by simp[pE,aIx]) hbx ⟨⟨_,rfl,rfl⟩,⟨_,rfl,rfl⟩,trivial⟩ xg Ac ?_;refine bF (A20 hap haq IU IV IW IX IY IZ I0 I1 I2 I3 I4 I5 I6 I7 I8 I9 JA (A20 JB TP TQ TR TS TT TU aW2 aW3 aW4 aW5 aW6 aW7 F2 F3 F4 F5 F6 F7 (A20 F8 F9 GA GB GC GD GF GG GH GI GJ GK aB5 aB6 aB7 aB8 aB9 aCa aCb (A20 aCc aCd aCe aCf aCg BT BU BV BW BX BY D2 D3 D4 D5 D6 D7 D8 D9 (A20 EA EB EC ED TV TW TX TY TZ T1 aCh aCi aCj aCk aCl aCm uE oF u7 (A2 v7 w7)))))) ?_;apply SQ.nil
  repeat(first|refine aO.normal ?_|refine aS.normal ?_)
  obtain⟨aFY,hlt2,a2r⟩:=hMb.ok oG.le aP.div e3 g6;have YT:=hQQ.set (i:=aC.length) (o:=.box (.agg [.str nm,Y1,.slice 5 ((ad++[(⟨d1,d2,d3,d4,d5⟩:b9)]).map Em.div.aA) tokP,.slice 0 [] .full])) [(kY.length,.box (.agg [.str d1,.bool d2,.int .i64 d3,.int .i64 d4,.slice (sz 4 d5) (d5.map Em.stop.aA) .any])),(rb,.box (.agg [.ptr b0 0]))] [((aC.length+1),.box (.agg [.int .i64 0,.int .i64 0])),((aC.length+2),.box (.int .i64 0))] rfl xk;have hQ3:=YT.sub (K':=[(rb,.box (.agg [.ptr b0 0])),(aC.length,.box (.agg [.str nm,Y1,.slice 5 ((ad++[(⟨d1,d2,d3,d4,d5⟩:b9)]).map Em.div.aA) tokP,.slice 0 [] .full])),(aC.length+1,.box (.agg [.int .i64 0,.int .i64 0])),(aC.length+2,.box (.int .i64 0))]) (by intro p hp;simp only[yAS,yBh,yBi]at hp;rcases hp with rfl|rfl|rfl|rfl<;>simp);have aMC:=hrowPa.TM (i:=aC.length) (o:=.box (.agg [.str nm,Y1,.slice 5 ((ad++[(⟨d1,d2,d3,d4,d5⟩:b9)]).map Em.div.aA) tokP,.slice 0 [] .full])) hQQ xm;rw[show ad.length+1=(ad++[(⟨d1,d2,d3,d4,d5⟩:b9)]).length by simp]at aMC;have aMD:=hrowQ.TM (i:=aC.length) (o:=.box (.agg [.str nm,Y1,.slice 5 ((ad++[(⟨d1,d2,d3,d4,d5⟩:b9)]).map Em.div.aA) tokP,.slice 0 [] .full])) hQQ xm;rw[show ad.length+1=(ad++[(⟨d1,d2,d3,d4,d5⟩:b9)]).length by simp]at aMD;refine aM.normal (l.length-n6) xb ⟨ad++[(⟨d1,d2,d3,d4,d5⟩:b9)],AN++[.str d1],5,1,n6,tokP,tokQ,_,cG (⟨xb,by rw[hAN];simp,aFY,.inr rfl,.inr rfl,aMC,aMD,λid e e2=>hndb id e2 e,hQ3⟩)⟩
 have hM3:=hMb.stop oG.le c3;have e3:=K6 c3;rw[e3]at AP cU;simp only[fW]at AP cU;obtain⟨GL,GM,GN,GO,GP,GQ⟩:=aB (cU.ks (rb,.box (.agg [.ptr b0 0])) wz).1;obtain⟨GR,GS,GU,GV,GW,GX⟩:=aB (cU.ks (aC.length,.box (.agg [.str nm,Y1,.slice z2 (ad.map Em.div.aA) dU,.slice 0 [] .full])) wz).1;obtain⟨JC,JD,JE,JF,JG,JH⟩:=aB (cU.ks ((aC.length+1),.box (.agg [.int .i64 0,.int .i64 0])) wz).1;obtain⟨P3,P4,P5,P6,P7,P8⟩:=aB (cU.ks ((aC.length+2),.box (.int .i64 0)) wz).1;obtain⟨PR,PS,PT⟩:=bH kY;obtain⟨Y2,P9⟩:=gn (PD.slice z2 (ad.map Em.div.aA) dU);have NI:Y2.plain=true:=by rw[<-P9];rfl
 have GY:=NI;unfold PD.plain at GY;have aFZ:Y2.strip=aAO.aA ad:=by
  rw[<-P9,PD.nQ,show(ad.map Em.div.aA).map PD.strip=ad.map Em.div.aA by rw[yBo];exact yAG λx _=>Em.div.str x];rcases fU with h|h
  .rw[h];rfl
  .exact ck
 rw[P9]at cU sZ s5 s6 s7 s8 sY GS GU GV GW GX GR;obtain⟨Y3,hY3⟩:=gn (PD.slice z3 AN TN);have YU:Y3.plain=true:=by rw[<-hY3];rfl
 have YV:=YU;unfold PD.plain at YV;have aXa:Y3.strip=texts.aA (ad.map b9.name):=by
  rw[<-hY3,PD.nQ,hAN,show((ad.map b9.name).map PD.str).map PD.strip=(ad.map b9.name).map PD.str by rw[yBo];rfl];rcases hz3 with h|h
  .rw[h];rfl
  .exact ck
 rw[hY3];refine aD (A20 hgW AP uF uG uH uI uJ uK sY sZ s5 s6 s7 s8 uL uM uN uO uP (A20 uQ YN YO YP YQ YR YS u3 @v3 w3 GL GM GN GO GP GQ GR GS GU (A20 GV GW GX JC JD JE JF JG JH P3 P4 P5 P6 P7 P8 PR PS PT uE (A5 oF NI GY YU YV)))) ?_;have hcd:lW [.agg [.ptr b0 0],Y3]=some (.ptr b0 0,jE (gD (ad.map b9.name)) Em.cF.aA):=by
  have e1:texts.dec Y3=some (ad.map b9.name):=Em.cR aXa;simp only[lW,e1];rw[dN Bb]
 obtain⟨XC,hXC⟩:=gn (nI [99,111,117,112,108,101,114] (gD (ad.map b9.name)) l n2);refine Wp.eV (λm fr σ=>∃(ae:List eF) (z4 n7:Nat) (oH:Tok) (σ1:List U),∃gg:Nat->PD,(n7+m=l.length/\l8 [99,111,117,112,108,101,114] (gD (ad.map b9.name)) l XC ae n7/\(ae=[]\/z4=5)/\fD aC σ1 oH 118 5 ae.length/\jF aC (.ptr b0 0) l σ1 n7 [(rb,.box (.agg [.ptr b0 0])),(aC.length,.box (.agg [.str nm,Y1,Y2,.slice z4 (ae.map Em.cF.aA) oH])),(aC.length+1,.box (.agg [.int .i64 0,.int .i64 0])),(aC.length+2,.box (.int .i64 0))])/\fr=T::gg 1::.ptr aC.length 0::.ptr (aC.length+1) 0::.ptr (aC.length+2) 0::.ptr rb 0::Y3::gg 7::gg 8::gg 9::gg 10::gg 11::gg 12::gg 13::gg 14::gg 15::gg 16::gg 17::gg 18::gg 19::gg 20::gg 21::gg 22::gg 23::gg 24::gg 25::gg 26::gg 27::gg 28::gg 29::gg 30::gg 31::gg 32::gg 33::gg 34::gg 35::gg 36::gg 37::gg 38::gg 39::gg 40::gg 41::gg 42::gg 43::gg 44::gg 45::gg 46::gg 47::gg 48::gg 49::gg 50::gg 51::gg 52::gg 53::gg 54::gg 55::gg 56::gg 57::gg 58::gg 59::gg 60::gg 61::gg 62::gg 63::gg 64::gg 65::gg 66::[]/\σ=σ1) ?_ (l.length-n2) (by refine⟨[],0,n2,.full,kY,?_⟩;exact cG (⟨by have:=cU.le;omega,hXC▸l8.start,.inl rfl,.nil,cU⟩))
 rintro m fr σ ⟨ae,z4,n7,oH,σ1,gg,hI,rfl,rfl⟩
 obtain⟨hm4,hMc,hz4,vX,BZ⟩:=hI;have hcl:=hMc.1;obtain⟨B0,B1,B2,B3,B4,B5⟩:=aB (BZ.ks (rb,.box (.agg [.ptr b0 0])) wz).1;obtain⟨vB,vC,vD,vE,vF,vG⟩:=aB (BZ.ks (aC.length,.box (.agg [.str nm,Y1,Y2,.slice z4 (ae.map Em.cF.aA) oH])) wz).1;obtain⟨B6,B7,B8,B9,CA,CB⟩:=aB (BZ.ks ((aC.length+1),.box (.agg [.int .i64 0,.int .i64 0])) wz).1;obtain⟨JI,JK,JL,JM,JN,JO⟩:=aB (BZ.ks ((aC.length+2),.box (.int .i64 0)) wz).1;obtain⟨u5,v5,w5⟩:=bH σ;obtain⟨aCn,QA,r5k,k5k,q5k⟩:=hW [.ptr b0 0,.str [99,111,117,112,108,101,114]] _ (.ptr b0 0) _ l n7 ⟨_,rfl,rfl⟩ (BZ.ne hs) BZ.rd BZ.le hl;have cZ:=BZ.call r5k (oX _ BZ.le) k5k q5k;have vX:=vX.M9 BZ k5k;cases c5:(bK (isWord 1 [99,111,117,112,108,101,114]) l n7).1.2
 rotate_left
 .skip
  obtain⟨t5,_,_,e5⟩:=IF c5;rw[e5]at QA cZ;simp only[fW]at QA cZ;obtain⟨aF0,aF1,aF2,aF3,aF4,aF5⟩:=aB (cZ.ks (rb,.box (.agg [.ptr b0 0])) wz).1;obtain⟨aF6,aF7,aF8,aF9,aGa,aGb⟩:=aB (cZ.ks (aC.length,.box (.agg [.str nm,Y1,Y2,.slice z4 (ae.map Em.cF.aA) oH])) wz).1;obtain⟨aGc,aGd,aGe,aGf,aGg,aGh⟩:=aB (cZ.ks ((aC.length+1),.box (.agg [.int .i64 0,.int .i64 0])) wz).1;obtain⟨aGi,aGj,aGk,aGl,aGm,aGn⟩:=aB (cZ.ks ((aC.length+2),.box (.int .i64 0)) wz).1;obtain⟨u5b,v5b,w5b⟩:=bH aCn;refine aD (A20 hgW QA B0 B1 B2 B3 B4 B5 vB vC vD vE vF vG B6 B7 B8 B9 CA (A20 CB JI JK JL JM JN JO u5 @v5 w5 aF0 aF1 aF2 aF3 aF4 aF5 aF6 aF7 aF8 (A18 aF9 aGa aGb aGc aGd aGe aGf aGg aGh aGi aGj aGk aGl aGm aGn u5b v5b w5b))) ?_;obtain⟨EE,EF,EG,EH,EI,EJ⟩:=aB (cZ.ks (rb,.box (.agg [.ptr b0 0])) wz).1;obtain⟨GZ,G0,G1,G2,G3,G4⟩:=aB (cZ.ks (aC.length,.box (.agg [.str nm,Y1,Y2,.slice z4 (ae.map Em.cF.aA) oH])) wz).1;obtain⟨G5,G6,G7,G8,G9,HA⟩:=aB (cZ.ks ((aC.length+1),.box (.agg [.int .i64 0,.int .i64 0])) wz).1;obtain⟨HB,HC,HD,HE,HF,HG⟩:=aB (cZ.ks ((aC.length+2),.box (.int .i64 0)) wz).1;obtain⟨u8,v8,w8⟩:=bH aCn;have hbx:∀id∈[aC.length],∃b,(aCn)[id]?=some (U.box b):=λid hid=>by
   simp only[yAS,yBh,yBi]at hid;have hidd:=hid
   .rw[hidd];exact⟨_,(cZ.ks (aC.length,.box (.agg [.str nm,Y1,Y2,.slice z4 (ae.map Em.cF.aA) oH])) wz).1⟩
  have hne:=cZ.ne hs;rcases hC [.agg [.ptr b0 0],Y3] _ (.ptr b0 0) _ l (n7+1) hcd (cZ.ne hs) cZ.rd cZ.le hl with⟨p8,n8,σ8,f8,e8,r8,k8,q8⟩ | ⟨e,σ8,f8,e8,w8w,k8,q8⟩
  rotate_left
  .skip
   have hEb:gD (ad.map b9.name) l (n7+1)=.error e:=eD f8;have hEm:=hMc.er BZ.le e5 hEb;have hE:jA l 0=.error e:=by simp[jA,aQ,g1,g3,g5,hXM,NA,hXN,hM3,hXC,hEm]
   obtain⟨pk,pK⟩:=cZ.er k8;rw[show ae.length=(ae.map Em.cF.aA).length by simp]at vX;obtain⟨tokF,aMy,hap,hrowF,hPF,_⟩:=vX.TL (P:=prog) (t:=40) (b:=48) (s:=z4) (xs:=ae.map Em.cF.aA) (p:=.agg [PD.mark,PD.mark,PD.mark,PD.mark,PD.mark]) (tk:=.any) cZ wz wz underlying40 xg (hz4.imp (λh=>ya) id) (by rw[yAe];have:=cZ.le;omega) (by rw[yAe];have:=cZ.le;omega);obtain⟨YW,YX,YY,YZ,Y0,Y5⟩:=aB (hPF.ks (rb,.box (.agg [.ptr b0 0])) wz).1;obtain⟨Y6,Y7,Y8,Y9,ZA,ZB⟩:=aB (hPF.ks (aC.length,.box (.agg [.str nm,Y1,Y2,.slice z4 (ae.map Em.cF.aA) oH])) wz).1;obtain⟨ZC,ZD,ZE,ZF,ZG,ZH⟩:=aB (hPF.ks ((aC.length+1),.box (.agg [.int .i64 0,.int .i64 0])) wz).1;obtain⟨ZI,ZJ,ZK,ZL,ZM,ZN⟩:=aB (hPF.ks ((aC.length+2),.box (.int .i64 0)) wz).1;have hkF:=aFO (B:=[aC.length]) (x:=.agg [PD.mark,PD.mark,PD.mark,PD.mark,PD.mark]) hghC hqhC e8 w8w;unfold PD.mark at hap hkF;refine WL.aFP 4 hU xe xo (v:=IT e) (τ:=σ8) (x:=.agg [.bL (.bool true),.bL (.bool true),.bL (.bool true),.bL (.bool true),.bL (.bool true)]) xe hghC hqhC hphC hne [(2,aC.length),(5,rb)] [aC.length] [some (aC.length)] hbx ⟨⟨_,rfl,rfl⟩,⟨_,rfl,rfl⟩,trivial⟩ xg Ac ?_ ?_ ?_
   .skip
    repeat(first
     |(refine Fr.i ?_;simp only[aL,yAT,yAU];try rfl)
     |(refine By.i ?_;(focus(simp(disch:=first|omega|(simp;done)|(simp;omega)) [wrap_i64,wrap_u64,EE,EF,EG,EH,EI,EJ,GZ,G0,G1,G2,G3,G4,G5,G6,G7,G8,G9,HA,HB,HC,HD,HE,HF,HG,u8,v8,w8];first|done|rfl|exact⟨rfl,rfl⟩)))
     |(refine By.i ?_;simp(disch:=first|omega|(simp;done)|(simp;omega)) [wrap_i64,wrap_u64,EE,EF,EG,EH,EI,EJ,GZ,G0,G1,G2,G3,G4,G5,G6,G7,G8,G9,HA,HB,HC,HD,HE,HF,HG,u8,v8,w8];refine⟨xh,rfl⟩)
     |(refine Wt.i ?_;first|rfl|(focus(simp[EE,EF,EG,EH,EI,EJ,GZ,G0,G1,G2,G3,G4,G5,G6,G7,G8,G9,HA,HB,HC,HD,HE,HF,HG,u8,v8,w8];done)))
     |(refine Ns.i ?_;(try simp only[yAl,yAQ,yAR,yAi,yAa,yAK,yAL,yAp,Nat.reduceAdd]);rfl)|rfl
     |(apply SL.pass;(focus(refine Wt.i ?_;rfl)))|(apply tu;(focus rfl))|apply SL.move|apply SL.assign|apply SL.load|apply SL.fK|apply tu|apply tu|apply SL.binOp|apply SL.append
     |apply tu|apply SL.builtin|apply SL.fieldAddr|apply SL.indexAddr|apply SL.field|apply SL.extract|apply SL.fL|apply SL.pick|apply SL.store|apply SL.unOp|apply SL.convert|apply SL.index|apply SL.slice
     |apply SL.build|apply SL.nilCheck|apply SL.buildSlice|apply SL.box|apply SL.alloc|apply SL.makeFunc)
    apply SQ.nil;exact FQ.call (.i xe) xe xe hghC hqhC e8 (hphC _ _ _ (by have:=yBu.2 hne;omega)) w8w
   .skip
    repeat(first
     |(refine Fr.i ?_;simp only[aL,yAT,yAU];try rfl)
     |(refine By.i ?_;(focus(simp(disch:=first|omega|(simp;done)|(simp;omega)) [wrap_i64,wrap_u64,hap,hkF,EE,EF,EG,EH,EI,EJ,GZ,G0,G1,G2,G3,G4,G5,G6,G7,G8,G9,HA,HB,HC,HD,HE,HF,HG,u8,v8,w8,YW,YX,YY,YZ,Y0,Y5,Y6,Y7,Y8,Y9,ZA,ZB,ZC,ZD,ZE,ZF,ZG,ZH,ZI,ZJ,ZK,ZL,ZM,ZN];first|done|rfl|exact⟨rfl,rfl⟩)))
     |(refine By.i ?_;simp(disch:=first|omega|(simp;done)|(simp;omega)) [wrap_i64,wrap_u64,hap,hkF,EE,EF,EG,EH,EI,EJ,GZ,G0,G1,G2,G3,G4,G5,G6,G7,G8,G9,HA,HB,HC,HD,HE,HF,HG,u8,v8,w8,YW,YX,YY,YZ,Y0,Y5,Y6,Y7,Y8,Y9,ZA,ZB,ZC,ZD,ZE,ZF,ZG,ZH,ZI,ZJ,ZK,ZL,ZM,ZN];refine⟨xh,rfl⟩)
     |(refine Wt.i ?_;first|rfl|(focus(simp[hap,hkF,EE,EF,EG,EH,EI,EJ,GZ,G0,G1,G2,G3,G4,G5,G6,G7,G8,G9,HA,HB,HC,HD,HE,HF,HG,u8,v8,w8,YW,YX,YY,YZ,Y0,Y5,Y6,Y7,Y8,Y9,ZA,ZB,ZC,ZD,ZE,ZF,ZG,ZH,ZI,ZJ,ZK,ZL,ZM,ZN];done)))
     |(refine Ns.i ?_;(try simp only[yAl,yAQ,yAR,yAi,yAa,yAK,yAL,yAp,Nat.reduceAdd]);rfl)|rfl
     |(apply SL.pass;(focus(refine Wt.i ?_;rfl)))|(apply tu;(focus rfl))|apply SL.move|apply SL.assign|apply SL.load|apply SL.fK|apply tu|apply tu|apply SL.binOp|apply SL.append
     |apply tu|apply SL.builtin|apply SL.fieldAddr|apply SL.indexAddr|apply SL.field|apply SL.extract|apply SL.fL|apply SL.pick|apply SL.store|apply SL.unOp|apply SL.convert|apply SL.index|apply SL.slice
     |apply SL.build|apply SL.nilCheck|apply SL.buildSlice|apply SL.box|apply SL.alloc|apply SL.makeFunc)
    exact qh
   .skip
    repeat(first|refine aS.panic ?_|refine aO.panic ?_|refine aM.panic ?_)
    exact .inl ⟨_,rfl,rfl,⟨e,[.str nm,Y1,Y2,.slice z4 (ae.map Em.cF.aA) oH],hE,rfl,rfl,rfl,rfl,rfl,(by simp[PD.plain,oF,GY]),pK (aC.length,_) wz,pK (aC.length+1,_) wz,pK (aC.length+2,_) wz,pk⟩⟩
  obtain⟨⟨ZO,ZP,ZQ,ZR,ZS⟩,g8,rfl⟩:=eE f8;have h8:=cZ.call r8 ((aP.cF) _ _ _ _ cZ.le g8).2 k8 q8;have vX:=vX.M9 cZ k8;simp only[aQQ]at e8;obtain⟨QB,QC,QD,QE,QF,QG⟩:=aB (h8.ks (rb,.box (.agg [.ptr b0 0])) wz).1;obtain⟨T2,T3,T4,T5,T6,T7⟩:=aB (h8.ks (aC.length,.box (.agg [.str nm,Y1,Y2,.slice z4 (ae.map Em.cF.aA) oH])) wz).1;obtain⟨T8,T9,UA,UB,UC,UD⟩:=aB (h8.ks ((aC.length+1),.box (.agg [.int .i64 0,.int .i64 0])) wz).1;obtain⟨aGo,aGp,aGq,aGr,aGs,aGt⟩:=aB (h8.ks ((aC.length+2),.box (.int .i64 0)) wz).1;obtain⟨u8b,v8b,w8b⟩:=bH σ8;have hkk:=aBE (B:=[aC.length]) hghC e8 q8 (λid hid _=>by
   simp only[yAS,yBh,yBi]at hid;have hidd:=hid
   .rw[hidd];exact(h8.ks (aC.length,.box (.agg [.str nm,Y1,Y2,.slice z4 (ae.map Em.cF.aA) oH])) wz).1.trans (cZ.ks (aC.length,.box (.agg [.str nm,Y1,Y2,.slice z4 (ae.map Em.cF.aA) oH])) wz).1.symm)
  rw[show ae.length=(ae.map Em.cF.aA).length by simp]at vX;obtain⟨tokP,YL,hap,hrowP,hP,hkeep⟩:=vX.TL (P:=prog) (t:=40) (b:=48) (s:=z4) (xs:=ae.map Em.cF.aA) (p:=.agg [.str ZO,.int .i64 ZP,.int .i64 ZQ,.int .i64 ZR,.bool ZS]) (tk:=.any) h8 wz wz underlying40 xg (hz4.imp (λh=>ya) id) (by rw[yAe];have:=h8.le;omega) (by rw[yAe];have:=h8.le;omega);simp only[yAe]at hrowP;obtain⟨UE,UF,UG,UH,UI,UJ⟩:=aB (hP.ks (rb,.box (.agg [.ptr b0 0])) wz).1;obtain⟨UK,UL,UM,UN,UO,UP⟩:=aB (hP.ks (aC.length,.box (.agg [.str nm,Y1,Y2,.slice z4 (ae.map Em.cF.aA) oH])) wz).1;obtain⟨UQ,UR,US,UT,UU,UW⟩:=aB (hP.ks ((aC.length+1),.box (.agg [.int .i64 0,.int .i64 0])) wz).1;obtain⟨aGu,aGv,aGw,aGx,aGy,aGz⟩:=aB (hP.ks ((aC.length+2),.box (.int .i64 0)) wz).1;refine Wp.aFQ hghC hphC hne [(2,aC.length),(5,rb)] [aC.length] [some (aC.length)] xo hbx ⟨⟨_,rfl,rfl⟩,⟨_,rfl,rfl⟩,trivial⟩ xg Ac ?_
  repeat(first
   |(refine Fr.i ?_;simp only[aL,yAT,yAU];try rfl)
   |(refine By.i ?_;(focus(simp(disch:=first|omega|(simp;done)|(simp;omega)) [wrap_i64,wrap_u64,hap,hkk,EE,EF,EG,EH,EI,EJ,GZ,G0,G1,G2,G3,G4,G5,G6,G7,G8,G9,HA,HB,HC,HD,HE,HF,HG,u8,v8,w8,QB,QC,QD,QE,QF,QG,T2,T3,T4,T5,T6,T7,T8,T9,UA,UB,UC,UD,aGo,aGp,aGq,aGr,aGs,aGt,u8b,v8b,w8b,UE,UF,UG,UH,UI,UJ,UK,UL,UM,UN,UO,UP,UQ,UR,US,UT,UU,UW,aGu,aGv,aGw,aGx,aGy,aGz];first|done|rfl|exact⟨rfl,rfl⟩)))
   |(refine By.i ?_;simp(disch:=first|omega|(simp;done)|(simp;omega)) [wrap_i64,wrap_u64,hap,hkk,EE,EF,EG,EH,EI,EJ,GZ,G0,G1,G2,G3,G4,G5,G6,G7,G8,G9,HA,HB,HC,HD,HE,HF,HG,u8,v8,w8,QB,QC,QD,QE,QF,QG,T2,T3,T4,T5,T6,T7,T8,T9,UA,UB,UC,UD,aGo,aGp,aGq,aGr,aGs,aGt,u8b,v8b,w8b,UE,UF,UG,UH,UI,UJ,UK,UL,UM,UN,UO,UP,UQ,UR,US,UT,UU,UW,aGu,aGv,aGw,aGx,aGy,aGz];refine⟨xh,rfl⟩)
   |(refine Wt.i ?_;first|rfl|(focus(simp[hap,hkk,EE,EF,EG,EH,EI,EJ,GZ,G0,G1,G2,G3,G4,G5,G6,G7,G8,G9,HA,HB,HC,HD,HE,HF,HG,u8,v8,w8,QB,QC,QD,QE,QF,QG,T2,T3,T4,T5,T6,T7,T8,T9,UA,UB,UC,UD,aGo,aGp,aGq,aGr,aGs,aGt,u8b,v8b,w8b,UE,UF,UG,UH,UI,UJ,UK,UL,UM,UN,UO,UP,UQ,UR,US,UT,UU,UW,aGu,aGv,aGw,aGx,aGy,aGz];done)))
   |(refine Ns.i ?_;(try simp only[yAl,yAQ,yAR,yAi,yAa,yAK,yAL,yAp,Nat.reduceAdd]);rfl)|rfl
   |(apply SL.pass;(focus(refine Wt.i ?_;rfl)))|(apply tu;(focus rfl))|apply SL.move|apply SL.assign|apply SL.load|apply SL.fK|apply tu|apply tu|apply SL.binOp|apply SL.append|apply tu
   |apply SL.builtin|apply SL.fieldAddr|apply SL.indexAddr|apply SL.field|apply SL.extract|apply SL.fL|apply SL.pick|apply SL.store|apply SL.unOp|apply SL.convert|apply SL.index|apply SL.slice|apply SL.build
   |apply SL.nilCheck|apply SL.buildSlice|apply SL.box|apply SL.alloc|apply SL.makeFunc)
  apply SQ.nil
  repeat(first|refine aO.normal ?_|refine aS.normal ?_)
  obtain⟨aXb,aFt,a2s⟩:=hMc.ok BZ.le aP.cF e5 g8;have hQ4:=hP.set (i:=aC.length) (o:=.box (.agg [.str nm,Y1,Y2,.slice 5 ((ae++[(⟨ZO,ZP,ZQ,ZR,ZS⟩:eF)]).map Em.cF.aA) tokP])) [(rb,.box (.agg [.ptr b0 0]))] [((aC.length+1),.box (.agg [.int .i64 0,.int .i64 0])),((aC.length+2),.box (.int .i64 0))] rfl xk;have aME:=hrowP.TM (i:=aC.length) (o:=.box (.agg [.str nm,Y1,Y2,.slice 5 ((ae++[(⟨ZO,ZP,ZQ,ZR,ZS⟩:eF)]).map Em.cF.aA) tokP])) hP xm;rw[show ae.length+1=(ae++[(⟨ZO,ZP,ZQ,ZR,ZS⟩:eF)]).length by simp]at aME;refine aM.normal (l.length-n8) xb ⟨ae++[(⟨ZO,ZP,ZQ,ZR,ZS⟩:eF)],5,n8,tokP,_,cG (⟨xb,aXb,.inr rfl,aME,hQ4⟩)⟩
 have hM4:=hMc.stop BZ.le c5;have e5:=K6 c5;rw[e5]at QA cZ;simp only[fW]at QA cZ;obtain⟨aMF,aMG,aMH,aMI,aMJ,aMK⟩:=aB (cZ.ks (rb,.box (.agg [.ptr b0 0])) wz).1;obtain⟨aGA,aGB,aGC,aGD,aGE,aGF⟩:=aB (cZ.ks (aC.length,.box (.agg [.str nm,Y1,Y2,.slice z4 (ae.map Em.cF.aA) oH])) wz).1;obtain⟨aML,aMM,aMN,aMO,aMP,aMQ⟩:=aB (cZ.ks ((aC.length+1),.box (.agg [.int .i64 0,.int .i64 0])) wz).1;obtain⟨aMR,aMS,aMT,aMU,aMV,aMW⟩:=aB (cZ.ks ((aC.length+2),.box (.int .i64 0)) wz).1;obtain⟨u5b,v5b,w5b⟩:=bH aCn;obtain⟨Y4,hY4⟩:=gn (PD.slice z4 (ae.map Em.cF.aA) oH);have aCo:Y4.plain=true:=by rw[<-hY4];rfl
 have UX:=aCo;unfold PD.plain at UX;have aXc:Y4.strip=HZ.aA ae:=by
  rw[<-hY4,PD.nQ,show(ae.map Em.cF.aA).map PD.strip=ae.map Em.cF.aA by rw[yBo];exact yAG λx _=>Em.cF.str x];rcases hz4 with h|h
  .rw[h];rfl
  .exact ck
 rw[hY4]at cZ vC vD vE vF vG vB aGB aGC aGD aGE aGF aGA;obtain⟨aMX,aMY,aMZ,aM0,aM1,aM2⟩:=aB (cZ.ks (rb,.box (.agg [.ptr b0 0])) wz).1;obtain⟨aM3,aM4,aM5,aM6,aM7,aM8⟩:=aB (cZ.ks (aC.length,.box (.agg [.str nm,Y1,Y2,Y4])) wz).1;obtain⟨aM9,aNa,aNb,aNc,aNd,aNe⟩:=aB (cZ.ks ((aC.length+1),.box (.agg [.int .i64 0,.int .i64 0])) wz).1;obtain⟨aNf,aNg,aNh,aNi,aNj,aNk⟩:=aB (cZ.ks ((aC.length+2),.box (.int .i64 0)) wz).1;have hlf:=fun(τ:List U) fl=>left_at (cZ.rd.more (τ:=τ)) cZ.le hl fl
 have aNl:=λfl=>left_at cZ.rd cZ.le hl fl
 by_cases c9:n7<l.length
 .have c8:(0:Int)<(l.length:Int)-(n7:Nat):=by omega
  refine aD wu ?_;rcases hX [.agg [.ptr b0 0],.int .i64 15] _ (.ptr b0 0) _ l n7 rfl cZ.pos cZ.rd cZ.le hl with⟨p,n2,fI,f1,_⟩ | ⟨e,fI,f1,f2,f3,f4,f5⟩
  .cases f1
  simp only[iD,yBJ]at f1;subst f1;have hE:jA l 0=.error ((lI l n7).1,(lI l n7).2,15):=by simp only[jA,aQ,FK,g1,g3,g5,hXM,NA,hXN,hM3,hXC,hM4,c9,yAM,iD]
  obtain⟨pk,pK⟩:=cZ.er f4;obtain⟨aXd,aXe,aXf,aXg,aXh,aXi⟩:=aB (cZ.ks (rb,.box (.agg [.ptr b0 0])) wz).1;obtain⟨aXj,aXk,aXl,aXm,aXn,aXo⟩:=aB (cZ.ks (aC.length,.box (.agg [.str nm,Y1,Y2,Y4])) wz).1;obtain⟨aXp,aXq,aXr,aXs,aXt,aXu⟩:=aB (cZ.ks ((aC.length+1),.box (.agg [.int .i64 0,.int .i64 0])) wz).1;obtain⟨aXv,aXw,aXx,aXy,aXz,aXA⟩:=aB (cZ.ks ((aC.length+2),.box (.int .i64 0)) wz).1
  first|refine WL.aZ 1 xe xe ?_|refine WL.dP 1 xe xe ?_
  refine bF (A20 aXd aXe aXf aXg aXh aXi aXj aXk aXl aXm aXn aXo aXp aXq aXr aXs aXt aXu aXv (A5 aXw aXx aXy aXz aXA)) ?_;apply SQ.nil;refine cT.call (.i xe) xe xe hghX hqhX f2 f3 ?_
  repeat(first|refine aS.panic ?_|refine aO.panic ?_|refine aM.panic ?_)
  exact .inl ⟨_,rfl,rfl,⟨_,[.str nm,Y1,Y2,Y4],hE,rfl,rfl,rfl,rfl,rfl,(by simp[PD.plain,oF,GY,UX]),pK (aC.length,_) wz,pK (aC.length+1,_) wz,pK (aC.length+2,_) wz,pk⟩⟩
 have c8:¬(0:Int)<(l.length:Int)-(n7:Nat):=xb;refine aD wu ?_;have hP:jA l 0=.ok (⟨nm,ac,ad,ae⟩,n7):=by simp only[jA,aQ,dT,FK,g1,g3,g5,hXM,NA,hXN,hM3,hXC,hM4,c9,yAN]
 refine Wp.aAG hU [(2,aC.length),(3,aC.length+1),(4,aC.length+2)] [(some (aC.length+1),some aC.length)] xo ⟨⟨0,rfl⟩,⟨0,rfl⟩,⟨0,rfl⟩,trivial⟩ xg ⟨xb,trivial⟩ ?_;obtain⟨aXB,aXC,aXD,aXE,aXF,aXG⟩:=aB (cZ.ks (rb,.box (.agg [.ptr b0 0])) wz).1;obtain⟨aXH,aXI,aXJ,aXK,aXL,aXM⟩:=aB (cZ.ks (aC.length,.box (.agg [.str nm,Y1,Y2,Y4])) wz).1;obtain⟨aXN,aXO,aXP,aXQ,aXR,aXS⟩:=aB (cZ.ks ((aC.length+1),.box (.agg [.int .i64 0,.int .i64 0])) wz).1;obtain⟨aXT,aXU,aXV,aXW,aXX,aXY⟩:=aB (cZ.ks ((aC.length+2),.box (.int .i64 0)) wz).1;have ZT:=cZ.set (i:=aC.length) (o0:=.box (.agg [.str nm,Y1,Y2,Y4])) (o:=.box (.agg [.str nm,Y1,Y2,Y4])) [(rb,.box (.agg [.ptr b0 0]))] [((aC.length+1),.box (.agg [.int .i64 0,.int .i64 0])),((aC.length+2),.box (.int .i64 0))] rfl xk;obtain⟨aXZ,aX0,aX1,aX2,aX3,aX4⟩:=aB (ZT.ks (rb,.box (.agg [.ptr b0 0])) wz).1;obtain⟨aX5,aX6,aX7,aX8,aX9,aYa⟩:=aB (ZT.ks (aC.length,.box (.agg [.str nm,Y1,Y2,Y4])) wz).1;obtain⟨aYb,aYc,aYd,aYe,aYf,aYg⟩:=aB (ZT.ks ((aC.length+1),.box (.agg [.int .i64 0,.int .i64 0])) wz).1;obtain⟨aYh,aYi,aYj,aYk,aYl,aYm⟩:=aB (ZT.ks ((aC.length+2),.box (.int .i64 0)) wz).1;have ZU:=ZT.set (i:=(aC.length+1)) (o0:=.box (.agg [.int .i64 0,.int .i64 0])) (o:=.box (.agg [.int .i64 0,.int .i64 0])) [(rb,.box (.agg [.ptr b0 0])),(aC.length,.box (.agg [.str nm,Y1,Y2,Y4]))] [((aC.length+2),.box (.int .i64 0))] rfl xk;obtain⟨aYn,aYo,aYp,aYq,aYr,aYs⟩:=aB (ZU.ks (rb,.box (.agg [.ptr b0 0])) wz).1;obtain⟨aYt,aYu,aYv,aYw,aYx,aYy⟩:=aB (ZU.ks (aC.length,.box (.agg [.str nm,Y1,Y2,Y4])) wz).1;obtain⟨aYz,aYA,aYB,aYC,aYD,aYE⟩:=aB (ZU.ks ((aC.length+1),.box (.agg [.int .i64 0,.int .i64 0])) wz).1;obtain⟨aYF,aYG,aYH,aYI,aYJ,aYK⟩:=aB (ZU.ks ((aC.length+2),.box (.int .i64 0)) wz).1;have NJ:=ZU.set (i:=(aC.length+2)) (o0:=.box (.int .i64 0)) (o:=.box (.int .i64 0)) [(rb,.box (.agg [.ptr b0 0])),(aC.length,.box (.agg [.str nm,Y1,Y2,Y4])),((aC.length+1),.box (.agg [.int .i64 0,.int .i64 0]))] [] rfl xk;obtain⟨aYL,aYM,aYN,aYO,aYP,aYQ⟩:=aB (NJ.ks (rb,.box (.agg [.ptr b0 0])) wz).1;obtain⟨aYR,aYS,aYT,aYU,aYV,aYW⟩:=aB (NJ.ks (aC.length,.box (.agg [.str nm,Y1,Y2,Y4])) wz).1;obtain⟨aYX,aYY,aYZ,aY0,aY1,aY2⟩:=aB (NJ.ks ((aC.length+1),.box (.agg [.int .i64 0,.int .i64 0])) wz).1;obtain⟨aY3,aY4,aY5,aY6,aY7,aY8⟩:=aB (NJ.ks ((aC.length+2),.box (.int .i64 0)) wz).1;refine bF (A20 aXB aXC aXD aXE aXF aXG aXH aXI aXJ aXK aXL aXM aXN aXO aXP aXQ aXR aXS aXT (A20 aXU aXV aXW aXX aXY aXZ aX0 aX1 aX2 aX3 aX4 aX5 aX6 aX7 aX8 aX9 aYa aYb aYc (A20 aYd aYe aYf aYg aYh aYi aYj aYk aYl aYm aYn aYo aYp aYq aYr aYs aYt aYu aYv (A20 aYw aYx aYy aYz aYA aYB aYC aYD aYE aYF aYG aYH aYI aYJ aYK aYL aYM aYN aYO (A20 aYP aYQ aYR aYS aYT aYU aYV aYW aYX aYY aYZ aY0 aY1 aY2 aY3 aY4 aY5 aY6 aY7 (A9 aY8 uE oF NI GY YU YV aCo UX)))))) ?_;apply SQ.nil;refine aD trivial ?_;exact .inr ⟨.inr rfl,rfl,⟨⟨nm,ac,ad,ae⟩,n7,[.str nm,Y1,Y2,Y4],hP,(by simp only[PD.strip,PD.kP,K9,aFZ,aXc,E5]),rfl,(by simp[PD.plain,oF,GY,UX]),rfl,rfl,rfl,(NJ.ks (aC.length,_) wz).1,(NJ.ks (aC.length+1,_) wz).1,(NJ.ks (aC.length+2,_) wz).1,NJ.kp⟩⟩
end
section
variable{E:aE}(hU:aF E)
include hU
set_option maxRecDepth 10000
theorem aWJ(t:PD)(σ:List U):∀y,Tryz.f41.body=some y->∀x0 w,y=.seq x0 w->Wp prog E none x0 0 (t::List.replicate 66 (.aK [])) [] σ
  (λr=>r=⟨.normal,t::.aK []::PD.ptr σ.length 0::.ptr (σ.length+1) 0::.ptr (σ.length+2) 0::List.replicate 62 (.aK []),[],σ++[.box (.agg [.str [],.slice 0 [] .full,.slice 0 [] .full,.slice 0 [] .full]),.box (.agg [.int .i64 0,.int .i64 0]),.box (.int .i64 0)]⟩):=by
 intro y hy x0 w e;obtain rfl:_=y:=yBr ((show Tryz.f41.body=some _ from rfl).symm.trans hy);cases e;simp only[List.replicate]
 first|(apply WL.jU;(focus decide +kernel))|(apply WL.dW xd;(focus decide +kernel);(focus decide +kernel))|(apply WL.jG;(focus decide +kernel);(focus decide +kernel))|(apply WL.kE;(focus decide +kernel))|(apply WL.kC xd;(focus decide +kernel);(focus decide +kernel))|(apply tu;(focus decide +kernel);(focus decide +kernel))
 refine aDI trivial ?_;apply SQ.nil
 first|rfl|simp
theorem aTM(hR:RdC E)(hK:PC E 87 tP)(hN:PC E 88 tQ)(hD:PC E 89 tR)(hW:RC E 90 (E9 1) fW)(hQ:oW E 91 oV)(hV:oW E 92 nG)(hC:oW E 93 lW)(hNm:E.ret 57=some W4)(hL:E.ret 94=some (dO OM))(hX:PC E 95 vW)(l:List Tk)(hl:l.length<=100000)(σ:List U) :
  ∃p σ3,K8 prog E 41 [cM.aA l] σ p σ3/\WR (jA l 0) Em.fC.aA 4 σ p.strip σ3:=by
 obtain⟨r,h1,rfl⟩:=(aWJ hU (cM.aA l) σ _ rfl _ _ rfl).ex;exact K8.ofP hU func41 rfl h1 rfl (aWK hU hR hK hN hD hW hQ hV hC hNm hL hX l hl σ _ rfl _ _ _ rfl) rfl xb (aWL hU)
end
end Go.Kz
