/-
  Part D2 of the way: an interpreter over pure data, its soundness, walks through functions.
-/
import Derived.Test.YtefkonhamghgfaaGreatDoorD1
import Derived.Test.YtefkonhamghgfaaGreatDoorP7
set_option linter.all false

set_option maxHeartbeats 40000000
open Go.Proofs.Tryz
noncomputable section
namespace Go.Kz
open Go Go.Proofs
set_option maxRecDepth 100000
section
def NQ:=entry (b9 Em.stop bH fun s=>dX ((fE s).length<=1000000) (some (fE s)))
theorem aDz(s:dG):fE s≠[]:=fun e=>by
 have:=congrArg List.length e
 simp only[fE,aZ,yAa,cT,List.length_nil]at this
 omega
theorem aNg(fl:Nat){s:dG}(h:(fE s).length<=1000000){p:PD}(hp:p.strip=Em.stop.U s)(σ:List aB):NQ fl [p] σ=some (.slice 1 (aG (fE s)) .any,σ):=by
 have e1:Em.stop.dec p=some s:=Em.dC hp
 unfold NQ entry b9
 simp only[e1,fB h,rE (aDz s)]
variable{E:aD}(hU:aI E)
include hU
theorem aKn(h0:E 30=none)(h1:E 27=some zN)(h2:E 65=some wG)(h4:E 66=some CG)(h3:E 58=some (fV 5 rC))(h5:E 67=some NQ)
  (r:cU) (hT:(eX r).length<=1000000):iS prog E 5 30 [Em.div.U r] (eX r):=by
 refine iS.of ?_
 obtain⟨nm,pe,lo,hg,gs⟩:=r
 have hn:nm.length<=1000000:=by
  simp only[eX,aZ,yAa]at hT
  omega
 simp only[A2,bJ]
 obtain⟨pre,hpre⟩:=gn (aZ nm++(eW pe++[lo,hg,(gs.length:Int)].flatMap b8))
 have hsp:eX ⟨nm,pe,lo,hg,gs⟩=pre++gs.flatMap fE:=by rw[<-hpre];simp[eX,eList]
 rw[hsp]at hT ⊢
 apply aN.aK h0 func30 rfl
 focus(simp[show Tryz.f30.ntmps=_ from rfl,List.replicate];rfl)
 clear hU
 have gx:=True.intro
 refine aC ?_
 clear gx
 have k1:=kQ (fl:=0) (σ:=[.box (.agg [.str nm,.bool pe,.int .i64 lo,.int .i64 hg,.slice (sz 4 gs) (gs.map Em.stop.U) .any])]) h1 (fun fl=>JO fl hn _)
 have k2:=kQ (fl:=0) (σ:=[.box (.agg [.str nm,.bool pe,.int .i64 lo,.int .i64 hg,.slice (sz 4 gs) (gs.map Em.stop.U) .any])]) h4 (fun fl=>aDA fl pe _)
 have k3:=kQ (fl:=0) (σ:=[.box (.agg [.str nm,.bool pe,.int .i64 lo,.int .i64 hg,.slice (sz 4 gs) (gs.map Em.stop.U) .any])]) (args:=[.slice 1 [.int .i64 lo,.int .i64 hg,.int .i64 gs.length] .full]) h2 (fun fl=>JP fl (l:=[lo,hg,gs.length]) (by simp) (by rfl) _)
 have hE:([aZ nm,eW pe,[lo,hg,(gs.length:Int)].flatMap b8]:List (List UInt8)).flatten=pre:=by
  simp[<-hpre]
 have hlen:([aZ nm,eW pe,[lo,hg,(gs.length:Int)].flatMap b8]:List (List UInt8)).flatten.length<=100000000:=by
  simp only[List.flatten_cons,List.flatten_nil,yAa,wJ,aZ,eW,cT,List.length_cons,List.length_nil]
  omega
 have hnE:([aZ nm,eW pe,[lo,hg,(gs.length:Int)].flatMap b8]:List (List UInt8)).flatten≠[]:=fun e=>by
  have:=congrArg List.length e
  simp only[List.flatten_cons,List.flatten_nil,yAa,aZ,cT,List.length_nil]at this
  omega
 have k9:=kQ (fl:=0) (σ:=[.box (.agg [.str nm,.bool pe,.int .i64 lo,.int .i64 hg,.slice (sz 4 gs) (gs.map Em.stop.U) .any])]) h3 (fun fl=>ON fl (l:=[aZ nm,eW pe,[lo,hg,(gs.length:Int)].flatMap b8]) (by simp) hnE hlen (by simp) _)
 rw[hE]at k9 hnE hlen
 have hn:=aDB (aZ nm) (eW pe) ([lo,hg,(gs.length:Int)].flatMap b8)
 simp only[List.map_cons,List.map_nil]at k9
 have gA:=bH.str (aZ nm)
 obtain⟨p1,eQ⟩:=gn (bH.U (aZ nm))
 have gC:=bH.str (eW pe)
 obtain⟨p2,rX⟩:=gn (bH.U (eW pe))
 have iZ:=bH.str ([lo,hg,(gs.length:Int)].flatMap b8)
 obtain⟨p3,tP⟩:=gn (bH.U ([lo,hg,(gs.length:Int)].flatMap b8))
 rw[eQ,rX,tP]at k9 hn
 rw[eQ]at gA k1
 rw[rX]at gC k2
 rw[tP]at iZ k3
 have iO:gG prog 129 3 (List.map (fun q=>(q.1,q.2.strip)) [((0:Nat),p1),((1:Nat),p2),((2:Nat),p3)])=some (.slice 1 [p1,p2,p3] .full):=by
  simp only[List.map_cons,List.map_nil,gA,gC,iZ]
  exact hn
 simp only[yAl,List.cons_append,List.nil_append,List.length_cons,List.length_nil,yAp]at k1 k2 k3 k9
 refine Wp.seq (Wp.AB (by decide +kernel) ?_)
 have gx:=An @k1 (An @k2 (An @k3 (An @k9 (An @gA (An @gC (An @iZ (An @iO (@hn))))))))
 refine iN ?_
 clear gx
 apply SQ.nil
 obtain⟨wM,wN⟩:=gn ([aB.box (.agg [.str nm,.bool pe,.int .i64 lo,.int .i64 hg,.slice (sz 4 gs) (gs.map Em.stop.U) .any]),.row 5 1 0 (aG pre)])
 have OO:jK wM (.aF 1 0 0 pre.length 1) pre:=by rw[<-wN];exact .inr ⟨hnE,1,0,rfl,rfl⟩
 have hTl:pre.length+(gs.flatMap fE).length<=1000000:=by rw[yAa]at hT;exact hT
 have ht:iF 30 38=true:=by decide
 have gx:=True.intro
 refine aC ?_
 clear gx
 rw[wN]
 obtain⟨tot,htot⟩:=gn (gs.length)
 have htb:=rJ (f:=fE) (fun x=>List.length_pos_iff.2 (aDz x)) gs
 rw[htot]
 refine Wp.cJ (fun m fr σ=>∃(i:Nat) (p:PD) (σ1:List aB),∃gg:Nat->PD,(i+m=tot/\jK σ1 p (pre++(gs.take i).flatMap fE))/\fr=[gg 0,gg 1,gg 2,p,gg 4,gg 5,gg 6,gg 7,gg 8,gg 9,gg 10,gg 11,gg 12,gg 13,gg 14,gg 15,gg 16,gg 17,gg 18,gg 19,gg 20,gg 21,gg 22,gg 23,gg 24,gg 25,.slice (sz 4 gs) (gs.map Em.stop.U) .any,.int .i64 tot,.int .i64 i,gg 29,gg 30,gg 31,gg 32,gg 33,gg 34,gg 35,gg 36,gg 37]/\σ=σ1) ?_ (tot) ⟨0,_,wM,bW (⟨by omega,(by simpa using OO)⟩)⟩
 rintro m fr σ ⟨i,p,σ1,gg,hI,rfl,rfl⟩
 obtain⟨hm,ho⟩:=hI
 by_cases hi:i<tot
 ·have q1:(i:Int)<tot:=by omega
  have hil:i<gs.length:=by omega
  have hz:sz 4 gs=4:=cG (fun e=>by rw[e]at hil;simp at hil)
  have hpn:=sG fE gs i hil
  have hpl:=sH fE gs (i+1)
  obtain⟨⟨sn,sa,sb,sg⟩,hx⟩:∃x,gs[i]=x:=⟨_,rfl⟩
  rw[hx]at hpn
  rw[hpn]at hpl
  simp only[yAa]at hpl
  obtain⟨ys,hys⟩:=gn (fE ⟨sn,sa,sb,sg⟩)
  have hG:=fun σ=>aNg 0 (s:=⟨sn,sa,sb,sg⟩) (by omega) (p:=.agg [.str sn,.int .i64 sa,.int .i64 sb,.slice (sz 3 sg) (sg.map Em.bL.U) .any]) (Em.stop.str ⟨sn,sa,sb,sg⟩) σ
  rw[hys]at hpn hpl hG
  obtain⟨p',σ',ap,ho',hlen',hkp,hid⟩:=tX ht (ys:=ys) (z:=1) (tok:=.any) (ho.more [.box (.agg [.str sn,.int .i64 sa,.int .i64 sb,.slice (sz 3 sg) (sg.map Em.bL.U) .any])]) (.inr rfl) (by rw[yAa,yAa];omega)
  rw[yAi,<-hpn]at ho'
  have es:∀X Y,(σ++[aB.box X]).set σ.length (.box Y)=σ++[.box Y]:=fun X Y=>by simp
  have cY:∀X:aB,(σ++[X])[σ.length]?=some X:=fun X=>by simp
  have gx:=An @q1 (An @hx (An @hil (An @hz (An @h5 (An @hG (An @ht (An @ap (An @cY (@es)))))))))
  refine aC ?_
  clear gx
  refine bP.normal (m-1) (by omega) (by refine⟨i+1,p',σ',?_⟩;exact cW (⟨by omega,ho'⟩) (by(first|rfl|(simp[hx];repeat(first|rfl|(apply And.intro)))|(simp[hx];done))) (by(first|rfl|(simp[hx];repeat(first|rfl|(apply And.intro)))|(simp[hx];done))))
 ·have q1:¬(i:Int)<tot:=by omega
  have ei:i=tot:=by omega
  rw[ei,<-htot,List.take_length]at ho
  have gx:=@q1
  refine aC ?_
  clear gx
  exact⟨_,_,rfl,ho⟩
end
section
def zM:List PD->Option (List UInt8)
 | [.str s]=>if s.length<=1000000 then some (aZ s)else none
 |_=>none
theorem aM5(fl:Nat){s:List UInt8}(h:s.length<=1000000)(σ:List aB):fV 5 zM fl [.str s] σ=some (.aF σ.length 0 0 (aZ s).length 1,σ++[.row 5 1 0 (aG (aZ s))]):=by
 simp only[fV,List.map_cons,List.map_nil,PD.strip,zM,if_pos h,AA,if_neg (IH s)]
 rfl
def NO:=entry (b9 Em.aR bH fun s=>dX ((eT s).length<=1000000) (some (eT s)))
theorem aDu(s:bM):eT s≠[]:=fun e=>by
 have:=congrArg List.length e
 simp only[eT,aZ,yAa,cT,List.length_nil]at this
 omega
theorem aM6(fl:Nat){s:bM}(h:(eT s).length<=1000000){p:PD}(hp:p.strip=Em.aR.U s)(σ:List aB):NO fl [p] σ=some (.slice 1 (aG (eT s)) .any,σ):=by
 have e1:Em.aR.dec p=some s:=Em.dC hp
 unfold NO entry b9
 simp only[e1,fB h,rE (aDu s)]
def NR:=entry (b9 Em.div bH fun s=>dX ((eX s).length<=1000000) (some (eX s)))
theorem aDv(s:cU):eX s≠[]:=fun e=>by
 have:=congrArg List.length e
 simp only[eX,aZ,yAa,cT,List.length_nil]at this
 omega
theorem aM7(fl:Nat){s:cU}(h:(eX s).length<=1000000){p:PD}(hp:p.strip=Em.div.U s)(σ:List aB):NR fl [p] σ=some (.slice 1 (aG (eX s)) .any,σ):=by
 have e1:Em.div.dec p=some s:=Em.dC hp
 unfold NR entry b9
 simp only[e1,fB h,rE (aDv s)]
def NP:=entry (b9 Em.aP bH fun s=>dX ((fI s).length<=1000000) (some (fI s)))
theorem aDw(s:cF):fI s≠[]:=fun e=>by
 have:=congrArg List.length e
 simp only[fI,aZ,yAa,cT,List.length_nil]at this
 omega
theorem aM8(fl:Nat){s:cF}(h:(fI s).length<=1000000){p:PD}(hp:p.strip=Em.aP.U s)(σ:List aB):NP fl [p] σ=some (.slice 1 (aG (fI s)) .any,σ):=by
 have e1:Em.aP.dec p=some s:=Em.dC hp
 unfold NP entry b9
 simp only[e1,fB h,rE (aDw s)]
variable{E:aD}(hU:aI E)
include hU
theorem aKs(h0:E 7=none)(h1:E 27=some (fV 5 zM))(h2:E 28=some (fV 5 uS))
  (h3:E 29=some NO) (h4:E 30=some NR) (h5:E 31=some NP)
  (r:bY) (hT:(aW r).length<=1000000):iS prog E 5 7 [Em.aT.U r] (aW r):=by
 refine iS.of ?_
 obtain⟨nm,rs,ds,cs⟩:=r
 have hn:nm.length<=1000000:=by
  simp only[aW,aZ,yAa]at hT
  omega
 have hsp:aW ⟨nm,rs,ds,cs⟩=aZ nm++b8 rs.length++rs.flatMap eT++b8 ds.length++ds.flatMap eX++b8 cs.length++cs.flatMap fI:=by simp[aW,eList]
 rw[hsp]at hT ⊢
 have hTl:=hT
 simp only[yAa,cT]at hTl
 simp only[fH,bJ]
 obtain⟨fin,hfin⟩:=gn (aZ nm++b8 rs.length++rs.flatMap eT++b8 ds.length++ds.flatMap eX++b8 cs.length++cs.flatMap fI)
 rw[hfin]
 have ht:iF 30 67=true:=by decide
 have k1:=kQ (fl:=0) (σ:=[.box (.agg [.str nm,.slice (sz 6 rs) (rs.map Em.aR.U) .any,.slice (sz 5 ds) (ds.map Em.div.U) .any,.slice (sz 5 cs) (cs.map Em.aP.U) .any])]) h1 (fun fl=>aM5 fl hn _)
 have k2:=kQ (fl:=0) (σ:=[.box (.agg [.str nm,.slice (sz 6 rs) (rs.map Em.aR.U) .any,.slice (sz 5 ds) (ds.map Em.div.U) .any,.slice (sz 5 cs) (cs.map Em.aP.U) .any]),.row 5 1 0 (aG (aZ nm))]) h2 (fun fl=>C3 fl (rs.length:Int) _)
 obtain⟨px1,aM9,ax1,hx1,_,kx1,ix1⟩:=OM ht (ys:=b8 rs.length) (σ:=[.box (.agg [.str nm,.slice (sz 6 rs) (rs.map Em.aR.U) .any,.slice (sz 5 ds) (ds.map Em.div.U) .any,.slice (sz 5 cs) (cs.map Em.aP.U) .any]),.row 5 1 0 (aG (aZ nm)),.row 5 1 0 (aG (b8 rs.length))]) (p:=.aF 1 0 0 (aZ nm).length 1) (.inr ⟨IH nm,1,0,rfl,rfl⟩) (k:=2) (v:=0) rfl (by rw[yAa,cT];omega)
 rw[cT]at ax1
 have n0:¬kW (.aF 1 0 0 (aZ nm).length 1) 0:=by
  rintro⟨_,_,_,_,e⟩
  cases e
 have VH:=kx1 0 _ n0 rfl
 have jT:¬kW px1 0:=fun h=>(ix1 0 h).elim n0 (fun e=>by cases e)
 obtain⟨w1,z1⟩:=yA.1 VH
 simp only[yAl,List.cons_append,List.nil_append,List.length_cons,List.length_nil,yAp]at k1 k2
 obtain⟨aDx,VI⟩:=gn (aZ nm++b8 rs.length)
 have aNa:=congrArg List.length VI
 rw[yAa,cT]at aNa
 rw[VI]at hx1
 apply aN.aK h0 func7 rfl
 focus(simp[show Tryz.f7.ntmps=_ from rfl,List.replicate];rfl)
 clear hU
 have gx:=True.intro
 refine aC ?_
 clear gx
 refine Wp.seq (Wp.AB (by decide +kernel) ?_)
 have gx:=An @k1 (An @k2 (An @ht (@ax1)))
 refine iN ?_
 clear gx
 apply SQ.nil
 have gx:=An @VH (An @w1 (@z1))
 refine aC ?_
 clear gx
 obtain⟨tot,htot⟩:=gn (rs.length)
 have htb:=rJ (f:=eT) (fun x=>List.length_pos_iff.2 (aDu x)) rs
 rw[htot]
 refine Wp.cJ (fun m fr σ=>∃(i:Nat) (p:PD) (σ1:List aB),∃gg:Nat->PD,(i+m=tot/\jK σ1 p (aDx++(rs.take i).flatMap eT)/\σ1[0]?=some (.box (.agg [.str nm,.slice (sz 6 rs) (rs.map Em.aR.U) .any,.slice (sz 5 ds) (ds.map Em.div.U) .any,.slice (sz 5 cs) (cs.map Em.aP.U) .any]))/\¬kW p 0)/\fr=gg 0::.ptr 0 0::gg 2::p::gg 4::gg 5::gg 6::gg 7::gg 8::gg 9::gg 10::gg 11::gg 12::gg 13::gg 14::gg 15::gg 16::gg 17::gg 18::.slice (sz 6 rs) (rs.map Em.aR.U) .any::.int .i64 tot::.int .i64 i::gg 22::gg 23::gg 24::gg 25::gg 26::gg 27::gg 28::gg 29::gg 30::gg 31::gg 32::gg 33::gg 34::gg 35::gg 36::gg 37::gg 38::gg 39::gg 40::gg 41::gg 42::gg 43::gg 44::gg 45::gg 46::gg 47::gg 48::gg 49::gg 50::gg 51::gg 52::gg 53::gg 54::gg 55::gg 56::gg 57::gg 58::gg 59::gg 60::gg 61::gg 62::gg 63::gg 64::gg 65::gg 66::[]/\σ=σ1) ?_ (tot) ⟨0,_,aM9,bW (⟨by omega,(by simpa using hx1),VH,jT⟩)⟩
 rintro m fr σ ⟨i,p,σ1,gg,hI,rfl,rfl⟩
 obtain⟨hm,ho,hbx,hnid⟩:=hI
 by_cases hi:i<tot
 ·have q1:(i:Int)<tot:=by omega
  have hil:i<rs.length:=by omega
  have hz:sz 6 rs=6:=cG (fun e=>by rw[e]at hil;simp at hil)
  have hpn:=sG eT rs i hil
  have hpl:=sH eT rs (i+1)
  obtain⟨⟨sn,st,sa,sb,sc,sw⟩,hx⟩:∃x,rs[i]=x:=⟨_,rfl⟩
  rw[hx]at hpn
  rw[hpn]at hpl
  simp only[yAa]at hpl
  obtain⟨ys,hys⟩:=gn (eT ⟨sn,st,sa,sb,sc,sw⟩)
  have hG:=fun σ=>aM6 0 (s:=⟨sn,st,sa,sb,sc,sw⟩) (by omega) (p:=.agg [.str sn,.str st,.int .i64 sa,.int .i64 sb,.int .i64 sc,.slice (sz 1 sw) (sw.map i64.U) .any]) (Em.aR.str ⟨sn,st,sa,sb,sc,sw⟩) σ
  rw[hys]at hpn hpl hG
  have hl0:=(yA.1 hbx).1
  obtain⟨p',σ',ap,ho',hlen',hkp,hid⟩:=tX ht (ys:=ys) (z:=1) (tok:=.any) (ho.more [.box (.agg [.str sn,.str st,.int .i64 sa,.int .i64 sb,.int .i64 sc,.slice (sz 1 sw) (sw.map i64.U) .any])]) (.inr rfl) (by rw[yAa,yAa];omega)
  rw[yAi,<-hpn]at ho'
  have hb':=hkp 0 _ hnid (by rw[yAg hl0];exact hbx)
  have hn':¬kW p' 0:=fun h=>(hid 0 h).elim hnid (fun e=>by rw[yAa]at e;omega)
  have es:∀X Y,(σ++[aB.box X]).set σ.length (.box Y)=σ++[.box Y]:=fun X Y=>by simp
  have cY:∀X:aB,(σ++[X])[σ.length]?=some X:=fun X=>by simp
  have gx:=An @q1 (An @hx (An @hil (An @hz (An @h3 (An @hG (An @ht (An @ap (An @cY (@es)))))))))
  refine aC ?_
  clear gx
  refine bP.normal (m-1) (by omega) (by refine⟨i+1,p',σ',?_⟩;exact cW (⟨by omega,ho',hb',hn'⟩) (by(first|rfl|(simp[hx];repeat(first|rfl|(apply And.intro)))|(simp[hx];done))) (by(first|rfl|(simp[hx];repeat(first|rfl|(apply And.intro)))|(simp[hx];done))))
 have q1:¬(i:Int)<tot:=by omega
 have ei:i=tot:=by omega
 rw[ei,<-htot,List.take_length]at ho
 have hl0:=(yA.1 hbx).1
 obtain⟨px2,aNb,ax2,hx2,_,kx2,ix2⟩:=OM ht (ys:=b8 ds.length) (ho.more [.row 5 1 0 (aG (b8 ds.length))]) (yBb) (by rw[yAa,yAa,cT];omega)
 rw[cT]at ax2
 have VJ:=kx2 0 _ hnid (by rw[yAg hl0];exact hbx)
 have fS:¬kW px2 0:=fun h=>(ix2 0 h).elim hnid (fun e=>by rw[yAa]at e;omega)
 obtain⟨w2,z2⟩:=yA.1 VJ
 obtain⟨v0,y0⟩:=yA.1 hbx
 have hN:=fun τ=>C3 0 (ds.length:Int) τ
 obtain⟨aDy,VK⟩:=gn (aDx++rs.flatMap eT++b8 ds.length)
 have aNc:=congrArg List.length VK
 simp only[yAa,cT]at aNc
 rw[VK]at hx2
 have gx:=An @q1 (An @h2 (An @hN (An @ht (An @ax2 (An @hbx (An @v0 (An @y0 (An @VJ (An @w2 (@z2))))))))))
 refine aC ?_
 clear gx
 obtain⟨tot,htot⟩:=gn (ds.length)
 have htb:=rJ (f:=eX) (fun x=>List.length_pos_iff.2 (aDv x)) ds
 rw[htot]
 refine Wp.cJ (fun m fr σ=>∃(i:Nat) (p:PD) (σ1:List aB),∃gg:Nat->PD,(i+m=tot/\jK σ1 p (aDy++(ds.take i).flatMap eX)/\σ1[0]?=some (.box (.agg [.str nm,.slice (sz 6 rs) (rs.map Em.aR.U) .any,.slice (sz 5 ds) (ds.map Em.div.U) .any,.slice (sz 5 cs) (cs.map Em.aP.U) .any]))/\¬kW p 0)/\fr=gg 0::.ptr 0 0::gg 2::p::gg 4::gg 5::gg 6::gg 7::gg 8::gg 9::gg 10::gg 11::gg 12::gg 13::gg 14::gg 15::gg 16::gg 17::gg 18::gg 19::gg 20::gg 21::gg 22::gg 23::gg 24::gg 25::gg 26::gg 27::gg 28::gg 29::gg 30::gg 31::gg 32::gg 33::gg 34::gg 35::gg 36::.slice (sz 5 ds) (ds.map Em.div.U) .any::.int .i64 tot::.int .i64 i::gg 40::gg 41::gg 42::gg 43::gg 44::gg 45::gg 46::gg 47::gg 48::gg 49::gg 50::gg 51::gg 52::gg 53::gg 54::gg 55::gg 56::gg 57::gg 58::gg 59::gg 60::gg 61::gg 62::gg 63::gg 64::gg 65::gg 66::[]/\σ=σ1) ?_ (tot) ⟨0,_,aNb,bW (⟨by omega,(by simpa using hx2),VJ,fS⟩)⟩
 rintro m fr σ ⟨i,p,σ1,gg,hI,rfl,rfl⟩
 obtain⟨hm,ho,hbx,hnid⟩:=hI
 by_cases hi:i<tot
 ·have q1:(i:Int)<tot:=by omega
  have hil:i<ds.length:=by omega
  have hz:sz 5 ds=5:=cG (fun e=>by rw[e]at hil;simp at hil)
  have hpn:=sG eX ds i hil
  have hpl:=sH eX ds (i+1)
  obtain⟨⟨sn,sp,sa,sb,sw⟩,hx⟩:∃x,ds[i]=x:=⟨_,rfl⟩
  rw[hx]at hpn
  rw[hpn]at hpl
  simp only[yAa]at hpl
  obtain⟨ys,hys⟩:=gn (eX ⟨sn,sp,sa,sb,sw⟩)
  have hG:=fun σ=>aM7 0 (s:=⟨sn,sp,sa,sb,sw⟩) (by omega) (p:=.agg [.str sn,.bool sp,.int .i64 sa,.int .i64 sb,.slice (sz 4 sw) (sw.map Em.stop.U) .any]) (Em.div.str ⟨sn,sp,sa,sb,sw⟩) σ
  rw[hys]at hpn hpl hG
  have hl0:=(yA.1 hbx).1
  obtain⟨p',σ',ap,ho',hlen',hkp,hid⟩:=tX ht (ys:=ys) (z:=1) (tok:=.any) (ho.more [.box (.agg [.str sn,.bool sp,.int .i64 sa,.int .i64 sb,.slice (sz 4 sw) (sw.map Em.stop.U) .any])]) (.inr rfl) (by rw[yAa,yAa];omega)
  rw[yAi,<-hpn]at ho'
  have hb':=hkp 0 _ hnid (by rw[yAg hl0];exact hbx)
  have hn':¬kW p' 0:=fun h=>(hid 0 h).elim hnid (fun e=>by rw[yAa]at e;omega)
  have es:∀X Y,(σ++[aB.box X]).set σ.length (.box Y)=σ++[.box Y]:=fun X Y=>by simp
  have cY:∀X:aB,(σ++[X])[σ.length]?=some X:=fun X=>by simp
  have gx:=An @q1 (An @hx (An @hil (An @hz (An @h4 (An @hG (An @ht (An @ap (An @cY (@es)))))))))
  refine aC ?_
  clear gx
  refine bP.normal (m-1) (by omega) (by refine⟨i+1,p',σ',?_⟩;exact cW (⟨by omega,ho',hb',hn'⟩) (by(first|rfl|(simp[hx];repeat(first|rfl|(apply And.intro)))|(simp[hx];done))) (by(first|rfl|(simp[hx];repeat(first|rfl|(apply And.intro)))|(simp[hx];done))))
 have q1:¬(i:Int)<tot:=by omega
 have ei:i=tot:=by omega
 rw[ei,<-htot,List.take_length]at ho
 have hl0:=(yA.1 hbx).1
 obtain⟨px3,aNd,ax3,hx3,_,kx3,ix3⟩:=OM ht (ys:=b8 cs.length) (ho.more [.row 5 1 0 (aG (b8 cs.length))]) (yBb) (by rw[yAa,yAa,cT];omega)
 rw[cT]at ax3
 have VL:=kx3 0 _ hnid (by rw[yAg hl0];exact hbx)
 have oN:¬kW px3 0:=fun h=>(ix3 0 h).elim hnid (fun e=>by rw[yAa]at e;omega)
 obtain⟨w3,z3⟩:=yA.1 VL
 obtain⟨v0,y0⟩:=yA.1 hbx
 have hN:=fun τ=>C3 0 (cs.length:Int) τ
 obtain⟨aNe,VM⟩:=gn (aDy++ds.flatMap eX++b8 cs.length)
 have aNf:=congrArg List.length VM
 simp only[yAa,cT]at aNf
 rw[VM]at hx3
 have gx:=An @q1 (An @h2 (An @hN (An @ht (An @ax3 (An @hbx (An @v0 (An @y0 (An @VL (An @w3 (@z3))))))))))
 refine aC ?_
 clear gx
 obtain⟨tot,htot⟩:=gn (cs.length)
 have htb:=rJ (f:=fI) (fun x=>List.length_pos_iff.2 (aDw x)) cs
 rw[htot]
 refine Wp.cJ (fun m fr σ=>∃(i:Nat) (p:PD) (σ1:List aB),∃gg:Nat->PD,(i+m=tot/\jK σ1 p (aNe++(cs.take i).flatMap fI)/\σ1[0]?=some (.box (.agg [.str nm,.slice (sz 6 rs) (rs.map Em.aR.U) .any,.slice (sz 5 ds) (ds.map Em.div.U) .any,.slice (sz 5 cs) (cs.map Em.aP.U) .any]))/\¬kW p 0)/\fr=gg 0::.ptr 0 0::gg 2::p::gg 4::gg 5::gg 6::gg 7::gg 8::gg 9::gg 10::gg 11::gg 12::gg 13::gg 14::gg 15::gg 16::gg 17::gg 18::gg 19::gg 20::gg 21::gg 22::gg 23::gg 24::gg 25::gg 26::gg 27::gg 28::gg 29::gg 30::gg 31::gg 32::gg 33::gg 34::gg 35::gg 36::gg 37::gg 38::gg 39::gg 40::gg 41::gg 42::gg 43::gg 44::gg 45::gg 46::gg 47::gg 48::gg 49::gg 50::gg 51::gg 52::gg 53::gg 54::.slice (sz 5 cs) (cs.map Em.aP.U) .any::.int .i64 tot::.int .i64 i::gg 58::gg 59::gg 60::gg 61::gg 62::gg 63::gg 64::gg 65::gg 66::[]/\σ=σ1) ?_ (tot) ⟨0,_,aNd,bW (⟨by omega,(by simpa using hx3),VL,oN⟩)⟩
 rintro m fr σ ⟨i,p,σ1,gg,hI,rfl,rfl⟩
 obtain⟨hm,ho,hbx,hnid⟩:=hI
 by_cases hi:i<tot
 ·have q1:(i:Int)<tot:=by omega
  have hil:i<cs.length:=by omega
  have hz:sz 5 cs=5:=cG (fun e=>by rw[e]at hil;simp at hil)
  have hpn:=sG fI cs i hil
  have hpl:=sH fI cs (i+1)
  obtain⟨⟨sn,sa,sb,sc,sp⟩,hx⟩:∃x,cs[i]=x:=⟨_,rfl⟩
  rw[hx]at hpn
  rw[hpn]at hpl
  simp only[yAa]at hpl
  obtain⟨ys,hys⟩:=gn (fI ⟨sn,sa,sb,sc,sp⟩)
  have hG:=fun σ=>aM8 0 (s:=⟨sn,sa,sb,sc,sp⟩) (by omega) (p:=.agg [.str sn,.int .i64 sa,.int .i64 sb,.int .i64 sc,.bool sp]) (Em.aP.str ⟨sn,sa,sb,sc,sp⟩) σ
  rw[hys]at hpn hpl hG
  have hl0:=(yA.1 hbx).1
  obtain⟨p',σ',ap,ho',hlen',hkp,hid⟩:=tX ht (ys:=ys) (z:=1) (tok:=.any) (ho.more [.box (.agg [.str sn,.int .i64 sa,.int .i64 sb,.int .i64 sc,.bool sp])]) (.inr rfl) (by rw[yAa,yAa];omega)
  rw[yAi,<-hpn]at ho'
  have hb':=hkp 0 _ hnid (by rw[yAg hl0];exact hbx)
  have hn':¬kW p' 0:=fun h=>(hid 0 h).elim hnid (fun e=>by rw[yAa]at e;omega)
  have es:∀X Y,(σ++[aB.box X]).set σ.length (.box Y)=σ++[.box Y]:=fun X Y=>by simp
  have cY:∀X:aB,(σ++[X])[σ.length]?=some X:=fun X=>by simp
  have gx:=An @q1 (An @hx (An @hil (An @hz (An @h5 (An @hG (An @ht (An @ap (An @cY (@es)))))))))
  refine aC ?_
  clear gx
  refine bP.normal (m-1) (by omega) (by refine⟨i+1,p',σ',?_⟩;exact cW (⟨by omega,ho',hb',hn'⟩) (by(first|rfl|(simp[hx];repeat(first|rfl|(apply And.intro)))|(simp[hx];done))) (by(first|rfl|(simp[hx];repeat(first|rfl|(apply And.intro)))|(simp[hx];done))))
 have q1:¬(i:Int)<tot:=by omega
 have ei:i=tot:=by omega
 rw[ei,<-htot,List.take_length]at ho
 rw[<-VM,<-VK,<-VI]at ho
 have gx:=@q1
 refine aC ?_
 clear gx
 exact⟨_,_,rfl,by rw[<-hfin];simpa using ho⟩
end
section
variable{E E1 E2 E3 E4:aD}(hU:aI E)
include hU
theorem aJ0(h0:E 34=none)(h1:E 71=some (aO prog E1 71))(H1:Reads E1 71 iB PD.str)(h2:E 72=some (aO prog E2 72))(H2:j9 E2 72 (gO 73) (dList jD) aX.U)(h3:E 74=some (aO prog E3 74))(H3:j9 E3 74 (gO 75) (dList jH) n9.U)(h4:E 76=some (aO prog E4 76))(H4:j9 E4 76 (gO 77) (dList jI) lA.U):Reads E 34 iG Em.aT.U:=by
 intro τ id s hr hl
 have hid:=hr.lt
 have K0:Kp τ (τ++[.box (.agg [.str [],.slice 0 [] .full,.slice 0 [] .full,.slice 0 [] .full])]) id τ.length (.agg [.str [],.slice 0 [] .full,.slice 0 [] .full,.slice 0 [] .full]):=Kp.new
 have R0:bV (τ++[.box (.agg [.str [],.slice 0 [] .full,.slice 0 [] .full,.slice 0 [] .full])]) id s:=hr.more
 obtain⟨w0,z0⟩:=K0.at
 obtain⟨σ1,k1,K1,R1⟩:=H1.next K0 R0 (by omega) hid
 have l1:=sI.len s
 obtain⟨a1,nH⟩:=gn ((iB s).1)
 obtain⟨s1,gA⟩:=gn ((iB s).2)
 rw[nH]at k1
 rw[gA]at R1 l1
 have jW:=K1.set (.agg [.str a1,.slice 0 [] .full,.slice 0 [] .full,.slice 0 [] .full])
 have sJ:=R1.gQ (Y:=.box (.agg [.str a1,.slice 0 [] .full,.slice 0 [] .full,.slice 0 [] .full])) hid
 obtain⟨w1,z1⟩:=K1.at
 obtain⟨sK,sL⟩:=jW.at
 have b1:=K1.bx
 have sM:=jW.bx
 replace k1:=k1.trans (show _=some (.str a1,σ1)from rfl)
 obtain⟨σ2,k2,K2,R2⟩:=H2.next jW sJ (by omega) hid
 have l2:=GP.list.len s1
 obtain⟨a2,nI⟩:=gn (((dList jD) s1).1)
 obtain⟨s2,gC⟩:=gn (((dList jD) s1).2)
 rw[nI]at k2
 rw[gC]at R2 l2
 obtain⟨p2,JX⟩:=gn (aX.U a2)
 rw[JX]at k2
 have sp2:PD.strip p2=p2:=by rw[<-JX];exact aX.str a2
 have pp2:PD.plain p2=true:=by rw[<-JX];rfl
 have cp2:PD.cells p2=[p2]:=by rw[<-JX];rfl
 unfold PD.plain at pp2
 unfold PD.cells at cp2
 have jX:=K2.set (.agg [.str a1,p2,.slice 0 [] .full,.slice 0 [] .full])
 have sN:=R2.gQ (Y:=.box (.agg [.str a1,p2,.slice 0 [] .full,.slice 0 [] .full])) hid
 obtain⟨w2,z2⟩:=K2.at
 obtain⟨oT,pN⟩:=jX.at
 have b2:=K2.bx
 have pO:=jX.bx
 replace k2:=k2.trans (show _=some (p2,σ2)from rfl)
 obtain⟨σ3,k3,K3,R3⟩:=H3.next jX sN (by omega) hid
 have l3:=C7.list.len s2
 obtain⟨a3,oV⟩:=gn (((dList jH) s2).1)
 obtain⟨s3,iZ⟩:=gn (((dList jH) s2).2)
 rw[oV]at k3
 rw[iZ]at R3 l3
 obtain⟨p3,oW⟩:=gn (n9.U a3)
 rw[oW]at k3
 have JY:PD.strip p3=p3:=by rw[<-oW];exact n9.str a3
 have AH:PD.plain p3=true:=by rw[<-oW];rfl
 have AI:PD.cells p3=[p3]:=by rw[<-oW];rfl
 unfold PD.plain at AH
 unfold PD.cells at AI
 have lM:=K3.set (.agg [.str a1,p2,p3,.slice 0 [] .full])
 have uY:=R3.gQ (Y:=.box (.agg [.str a1,p2,p3,.slice 0 [] .full])) hid
 obtain⟨w3,z3⟩:=K3.at
 obtain⟨uZ,u5⟩:=lM.at
 have b3:=K3.bx
 have qI:=lM.bx
 replace k3:=k3.trans (show _=some (p3,σ3)from rfl)
 obtain⟨bK,k4,K4,R4⟩:=H4.next lM uY (by omega) hid
 have l4:=AG.list.len s3
 obtain⟨a4,u6⟩:=gn (((dList jI) s3).1)
 obtain⟨s4,qK⟩:=gn (((dList jI) s3).2)
 rw[u6]at k4
 rw[qK]at R4 l4
 obtain⟨p4,JZ⟩:=gn (lA.U a4)
 rw[JZ]at k4
 have sp4:PD.strip p4=p4:=by rw[<-JZ];exact lA.str a4
 have pp4:PD.plain p4=true:=by rw[<-JZ];rfl
 have cp4:PD.cells p4=[p4]:=by rw[<-JZ];rfl
 unfold PD.plain at pp4
 unfold PD.cells at cp4
 have qL:=K4.set (.agg [.str a1,p2,p3,p4])
 have C8:=R4.gQ (Y:=.box (.agg [.str a1,p2,p3,p4])) hid
 obtain⟨w4,z4⟩:=K4.at
 obtain⟨C9,DA⟩:=qL.at
 have b4:=K4.bx
 have DB:=qL.bx
 replace k4:=k4.trans (show _=some (p4,bK)from rfl)
 have e:iG s=(⟨a1,a2,a3,a4⟩,s4):=by
  unfold iG
  simp only[nH,gA,nI,gC,oV,iZ,u6,qK]
 simp only[kF,gO]at k1 k2 k3 k4
 apply aN.aK h0 func34 rfl
 focus(simp[show Tryz.f34.ntmps=_ from rfl,List.replicate];rfl)
 have gx:=An @h1 (An @h2 (An @h3 (An @h4 (An @k1 (An @w1 (An @z1 (An @sK (An @sL (An @b1 (An @sM (An @pp2 (An @cp2 (An @k2 (An @w2 (An @z2 (An @oT (An @pN (An @b2 (An @pO (An @AH (An @AI (An @k3 (An @w3 (An @z3 (An @uZ (An @u5 (An @b3 (An @qI (An @pp4 (An @cp4 (An @k4 (An @w4 (An @z4 (An @C9 (An @DA (An @b4 (@DB)))))))))))))))))))))))))))))))))))))
 refine aC ?_
 clear gx
 have KK:=(qL).set (.agg [.str a1,p2,p3,p4])
 have RR:=C8.gQ (Y:=.box (.agg [.str a1,p2,p3,p4])) hid
 rw[List.set_set]at KK RR
 refine⟨.agg [.str a1,p2,p3,p4],bK.set τ.length (.box (.agg [.str a1,p2,p3,p4])),by simp[fR,w4],?_⟩
 unfold lL
 rw[e]
 refine⟨?_,RR,Nat.le_of_lt KK.lt,fun j h1 h2=>KK.fr j h1 h2⟩
 simp only[PD.strip,PD.j7,sp2,JY,sp4]
 rw[<-JX,<-oW,<-JZ]
 rfl
end
section
def CB:Nat->List PD->List aB->Option (PD×List aB):=entry (b9 Em.aT i64 fun o=>dX (pL o) (some (jU o)))
theorem NV{o:bY}(h:pL o)(fl:Nat)(σ:List aB):CB fl [Em.aT.U o] σ=some (.int .i64 (jU o),σ):=by
 have e1:=Em.dC (Em.aT.str o)
 unfold CB entry b9
 simp only[e1]
 rw[fB h]
 rfl
def IM:iL Bool:=fun s=>(!s.bad&&decide (s.aJ.length=0),s)
variable{E E0 E1:aD}(hU:aI E)
include hU
theorem aJ3(h0:E 35=none):Reads E 35 IM PD.bool:=by
 intro τ id s hr hl
 have VT:=hr
 obtain⟨aJ,bad⟩:=s
 obtain⟨z,hz,hb⟩:=hr
 simp only at hz hb
 obtain⟨hlt,hg⟩:=yA.1 hb
 have hle:=iD aJ
 obtain⟨xs,hxs⟩:=gn (aG aJ)
 rw[hxs]at hb hg hle
 unfold lL IM
 simp only
 by_cases c1:bad=true
 ·subst c1
  apply aN.aK h0 func35 rfl
  focus(simp[show Tryz.f35.ntmps=_ from rfl,List.replicate];rfl)
  have gx:=An @hb (@hg)
  refine aC ?_
  clear gx
  exact⟨_,_,rfl,rfl,VT,yAk _,fun j _ _=>rfl⟩
 have sF:bad=false:=by simpa using c1
 subst sF
 by_cases c2:aJ.length=0
 ·have c3:(xs.length:Int)=0:=by omega
  have e:decide (aJ.length=0)=true:=by simp[c2]
  rw[e]
  apply aN.aK h0 func35 rfl
  focus(simp[show Tryz.f35.ntmps=_ from rfl,List.replicate];rfl)
  have gx:=An @hb (An @hg (@c3))
  refine aC ?_
  clear gx
  exact⟨_,_,rfl,rfl,VT,yAk _,fun j _ _=>rfl⟩
 ·have c3:¬(xs.length:Int)=0:=by omega
  have c4:¬xs=[]:=fun h=>by rw[h]at c3;exact c3 rfl
  have e:decide (aJ.length=0)=false:=by simp[c2]
  rw[e]
  apply aN.aK h0 func35 rfl
  focus(simp[show Tryz.f35.ntmps=_ from rfl,List.replicate];rfl)
  have gx:=An @hb (An @hg (An @c3 (@c4)))
  refine aC ?_
  clear gx
  exact⟨_,_,rfl,rfl,VT,yAk _,fun j _ _=>rfl⟩
def qH(l:List UInt8):bY×Int:=if (iG ⟨l,false⟩).2.bad=false/\(iG ⟨l,false⟩).2.aJ=[]/\jU (iG ⟨l,false⟩).1=0 then((iG ⟨l,false⟩).1,0)else(⟨[],[],[],[]⟩,26)
theorem aJ7(h0:E 9=none)(h1:E 34=some (aO prog E0 34))(h2:E 35=some (aO prog E1 35))(h3:E 10=some CB)
  (H1:Reads E0 34 iG Em.aT.U) (H2:Reads E1 35 IM PD.bool) (l:List UInt8) (z:Nat) (hz:l=[]\/z=1) (hl:l.length<=1000000000)
  (hok:(iG ⟨l,false⟩).2.bad=false->(iG ⟨l,false⟩).2.aJ=[]->pL (iG ⟨l,false⟩).1) :
  aS prog E 9 [.slice z (aG l) .any] ((Em.aT.qR i64).U (qH l)):=by
 have R0:bV [.box (.agg [.str [],.slice 0 [] .full,.slice 0 [] .full,.slice 0 [] .full]),.box (.agg [.slice z (aG l) .any,.bool false])] 1 ⟨l,false⟩:=⟨z,hz,rfl⟩
 obtain⟨σ1,k1,R1,l1,f1⟩:=H1.at R0 hl
 have hln:=GD.len ⟨l,false⟩
 obtain⟨o,ho⟩:=gn ((iG ⟨l,false⟩).1)
 obtain⟨s1,hs1⟩:=gn ((iG ⟨l,false⟩).2)
 unfold qH
 rw[ho,hs1]at hok
 rw[ho]at k1
 rw[hs1]at R1 hln
 rw[ho,hs1]
 simp only at hln
 have g0:=f1 0 (by simp) (by decide)
 simp only[List.getElem?_cons_zero]at g0
 obtain⟨eo,heo⟩:=gn (Em.aT.U o)
 simp only[kF]at k1
 obtain⟨xs,hxs⟩:=gn (aG l)
 rw[hxs]at k1
 rw[hxs]
 have R2:bV (σ1++[.box (Em.aT.U o)]) 1 s1:=R1.more
 obtain⟨σ2,k2,R3,l2,f2⟩:=H2.at R2 (by omega)
 have hdw:IM s1=(!s1.bad&&decide (s1.aJ.length=0),s1):=rfl
 rw[hdw]at k2
 simp only[kF]at k2
 have g2:=f2 σ1.length (by simp) (by have:=R1.lt;omega)
 rw[yBb]at g2
 have g3:=f2 0 (by simp) (by decide)
 rw[yAg (by have:=R1.lt;omega),g0]at g3
 obtain⟨w2,z2⟩:=yA.1 g2
 obtain⟨w3,z3⟩:=yA.1 g3
 have hbad:s1.bad=true\/(s1.bad=false/\s1.aJ≠[])\/(s1.bad=false/\s1.aJ=[]/\pL o):=by
  cases hb:s1.bad
  ·by_cases hi:s1.aJ=[]
   ·exact .inr (.inr ⟨rfl,hi,hok hb hi⟩)
   ·exact .inr (.inl ⟨rfl,hi⟩)
  ·exact .inl rfl
 clear hok
 rcases hbad with c1 | ⟨c1,c2⟩ | ⟨c1,c2,c3⟩
 ·rw[if_neg (by rw[c1];simp)]
  have ew:(!s1.bad&&decide (s1.aJ.length=0))=false:=by rw[c1];rfl
  rw[ew]at k2
  obtain⟨on,rs,ds,cs⟩:=o
  simp only[fH,bJ]at k1 k2 g2 z2
  apply aS.aK h0 func9 rfl
  focus(simp[show Tryz.f9.ntmps=_ from rfl,List.replicate];rfl)
  have gx:=An @h1 (An @h2 (An @h3 (An @k1 (An @k2 (An @g2 (An @w2 (An @z2 (An @g3 (An @w3 (@z3))))))))))
  refine aC ?_
  clear gx
  refine⟨.aH [.agg [.str [],.slice 0 [] .full,.slice 0 [] .full,.slice 0 [] .full],.int .i64 26],σ2.set 0 (.box (.agg [.str [],.slice 0 [] .full,.slice 0 [] .full,.slice 0 [] .full])),by simp[fR,w3],?_⟩
  rfl
 ·rw[if_neg (by simp[c2])]
  have ew:(!s1.bad&&decide (s1.aJ.length=0))=false:=by simp[c2]
  rw[ew]at k2
  obtain⟨on,rs,ds,cs⟩:=o
  simp only[fH,bJ]at k1 k2 g2 z2
  apply aS.aK h0 func9 rfl
  focus(simp[show Tryz.f9.ntmps=_ from rfl,List.replicate];rfl)
  have gx:=An @h1 (An @h2 (An @h3 (An @k1 (An @k2 (An @g2 (An @w2 (An @z2 (An @g3 (An @w3 (@z3))))))))))
  refine aC ?_
  clear gx
  refine⟨.aH [.agg [.str [],.slice 0 [] .full,.slice 0 [] .full,.slice 0 [] .full],.int .i64 26],σ2.set 0 (.box (.agg [.str [],.slice 0 [] .full,.slice 0 [] .full,.slice 0 [] .full])),by simp[fR,w3],?_⟩
  rfl
 ·have ew:(!s1.bad&&decide (s1.aJ.length=0))=true:=by rw[c1,c2];rfl
  rw[ew]at k2
  have hC:=fun σ=>NV c3 0 σ
  obtain⟨on,rs,ds,cs⟩:=o
  simp only[fH,bJ]at k1 k2 g2 z2 hC
  by_cases c4:jU ⟨on,rs,ds,cs⟩=0
  ·rw[if_pos ⟨c1,c2,c4⟩]
   rw[c4]at hC
   apply aS.aK h0 func9 rfl
   focus(simp[show Tryz.f9.ntmps=_ from rfl,List.replicate];rfl)
   have gx:=An @h1 (An @h2 (An @h3 (An @k1 (An @k2 (An @g2 (An @w2 (An @z2 (An @g3 (An @w3 (An @z3 (@hC)))))))))))
   refine aC ?_
   clear gx
   refine⟨.aH [.agg [.str on,.slice (sz 6 rs) (rs.map Em.aR.U) .any,.slice (sz 5 ds) (ds.map Em.div.U) .any,.slice (sz 5 cs) (cs.map Em.aP.U) .any],.int .i64 0],σ2.set 0 (.box (.agg [.str on,.slice (sz 6 rs) (rs.map Em.aR.U) .any,.slice (sz 5 ds) (ds.map Em.div.U) .any,.slice (sz 5 cs) (cs.map Em.aP.U) .any])),by simp[fR,w3],?_⟩
   exact(Em.aT.qR i64).str (⟨on,rs,ds,cs⟩,0)
  ·rw[if_neg (fun h=>c4 h.2.2)]
   apply aS.aK h0 func9 rfl
   focus(simp[show Tryz.f9.ntmps=_ from rfl,List.replicate];rfl)
   have gx:=An @h1 (An @h2 (An @h3 (An @k1 (An @k2 (An @g2 (An @w2 (An @z2 (An @g3 (An @w3 (An @z3 (An @hC (@c4))))))))))))
   refine aC ?_
   clear gx
   refine⟨.aH [.agg [.str [],.slice 0 [] .full,.slice 0 [] .full,.slice 0 [] .full],.int .i64 26],σ2.set 0 (.box (.agg [.str [],.slice 0 [] .full,.slice 0 [] .full,.slice 0 [] .full])),by simp[fR,w3],?_⟩
   rfl
end
section
theorem uT{α:Type}(f:α->List UInt8)(l:List α):(eList f l).length=8+(l.flatMap f).length:=by
 unfold eList
 rw[yAa,cT]
theorem aMy{o:bY}(h1:pM o)(h2:jU o=0):qH (aW o)=(o,0):=by
 have:=GD.fwd o [] h1
 rw[yAl]at this
 unfold qH
 rw[this,if_pos ⟨rfl,rfl,h2⟩]
variable{E:aD}(hU:aI E)
include hU
theorem aL6(h0:E 11=none)(l:List UInt8)(hn:l.length<=1000000)(z:Nat)(hz:l=[]\/z=1):aS prog E 11 [.slice z (aG l) .any,.slice z (aG l) .any] (.bool true):=by
 obtain⟨tot,htot⟩:=gn (l.length)
 have hul:=iD l
 rw[htot]at hul
 apply aS.aK h0 func11 rfl
 focus(simp[show Tryz.f11.ntmps=_ from rfl,List.replicate];rfl)
 have gx:=@hul
 refine aC ?_
 clear gx
 refine Wp.cJ (fun m fr σ=>∃(k:Nat),∃gg:Nat->PD,(k+m=tot)/\fr=[.slice z (aG l) .any,.slice z (aG l) .any,gg 2,gg 3,.bool false,gg 5,gg 6,gg 7,gg 8,gg 9,gg 10,.slice z (aG l) .any,.int .i64 tot,.int .i64 k,gg 14,gg 15,gg 16,gg 17,gg 18,gg 19,gg 20,gg 21,gg 22,gg 23,gg 24,gg 25]/\σ=[]) ?_ (tot) (by refine⟨0,?_⟩;exact cW (by omega) (by(first|rfl|(simp[hul];repeat(first|rfl|(apply And.intro)))|(simp[hul];done))) (by(first|rfl|(simp[hul];repeat(first|rfl|(apply And.intro)))|(simp[hul];done))))
 rintro m fr σ ⟨k,gg,hI,rfl,rfl⟩
 by_cases hk:k<tot
 ·have q1:(k:Int)<tot:=by omega
  have hkl:k<l.length:=by omega
  have gL:z=1:=by
   rcases hz with h|h
   ·rw[h]at hkl;simp at hkl
   ·exact h
  subst gL
  obtain⟨x,hx⟩:=gn (l[k])
  have he:(aG l)[k]?=some (.int .u8 x.toNat):=by
   unfold aG
   rw[yAo,yAh hkl,hx]
   rfl
  obtain⟨w,hg⟩:=yA.1 he
  have gx:=An @q1 (An @w (An @hg (@hul)))
  refine aC ?_
  clear gx
  refine bP.normal (m-1) (by omega) (by refine⟨k+1,?_⟩;exact cW (by omega) (by(first|rfl|(simp[hul];repeat(first|rfl|(apply And.intro)))|(simp[hul];done))) (by(first|rfl|(simp[hul];repeat(first|rfl|(apply And.intro)))|(simp[hul];done))))
 ·have q1:¬(k:Int)<tot:=by omega
  have gx:=@q1
  refine aC ?_
  clear gx
  exact⟨_,_,rfl,rfl⟩
end
theorem kX{n:Int}(h1:-1000000<=n)(h2:n<=1000000):dF n:=⟨by omega,by omega⟩
theorem kB{n:Nat}(h2:n<=1000000):dF n:=kX (by omega) (by omega)
theorem sE{α:Type}{f:α->List UInt8}{K:Nat}:∀ {l:List α},(∀x∈l,(f x).length<=K)->(l.flatMap f).length<=l.length*K
 | [],_=>by simp
 |x::r,h=>by
  have h1:=h x (List.mem_cons_self ..)
  have h2:=sE (l:=r) fun y hy=>h y (List.mem_cons_of_mem _ hy)
  rw[List.flatMap_cons,yAa,List.length_cons,Nat.succ_mul]
  omega
def gP(n:Int):Prop:=-100000<=n/\n<=100000
theorem gP.kX{n:Int}(h:gP n):dF n:=Kz.kX (by have:=h.1;omega) (by have:=h.2;omega)
theorem JM{lo hi a b:Int}(h1:gP lo)(h2:gP hi)(h3:gP a)(h4:gP b):GI ⟨lo,hi,[⟨a,b⟩]⟩:=by
 refine⟨h1.kX,h2.kX,kB (by simp),fun x hx=>?_⟩
 simp only[List.mem_cons,List.not_mem_nil,or_false]at hx
 subst hx
 exact⟨h3.kX,h4.kX⟩
theorem aM3{lo hi a b c d:Int}(h1:gP lo)(h2:gP hi)(h3:gP a)(h4:gP b)(h5:gP c)(h6:gP d):GI ⟨lo,hi,[⟨a,b⟩,⟨c,d⟩]⟩:=by
 refine⟨h1.kX,h2.kX,kB (by simp),fun x hx=>?_⟩
 simp only[List.mem_cons,List.not_mem_nil,or_false]at hx
 rcases hx with rfl|rfl
 ·exact⟨h3.kX,h4.kX⟩
 ·exact⟨h5.kX,h6.kX⟩
theorem aM4{k n sh lo hi at_ m other:Int}(h1:0<=n/\n<=1000)(h2:-100<=sh/\sh<=100)(h3:0<=lo/\lo<=1000)(h4:0<=hi/\hi<=1000)(h5:0<=at_/\at_<=1000)(h6:0<=m/\m<=1000)(h7:-100<=other/\other<=100) :
  ∀g∈pS k n sh lo hi at_ m other,GI g:=by
 have a1:gP n:=⟨by omega,by omega⟩
 have a2:gP sh:=⟨by omega,by omega⟩
 have a3:gP lo:=⟨by omega,by omega⟩
 have a4:gP hi:=⟨by omega,by omega⟩
 have a5:gP at_:=⟨by omega,by omega⟩
 have a6:gP m:=⟨by omega,by omega⟩
 have a7:gP other:=⟨by omega,by omega⟩
 have a8:gP (sh+7):=⟨by omega,by omega⟩
 have a9:gP (sh-12):=⟨by omega,by omega⟩
 have a10:gP (at_-1):=⟨by omega,by omega⟩
 intro g hg
 unfold pS at hg
 split at hg
 ·simp only[List.mem_cons,List.not_mem_nil,or_false]at hg
  subst hg
  exact aM3 a3 a4 a1 a2 a1 a8
 split at hg
 ·rcases List.mem_append.1 hg with hg|hg
  ·split at hg
   ·simp only[List.mem_cons,List.not_mem_nil,or_false]at hg
    subst hg
    exact JM a3 a10 a1 a2
   ·simp at hg
  ·simp only[List.mem_cons,List.not_mem_nil,or_false]at hg
   subst hg
   split
   ·exact JM a5 a4 a6 a7
   ·exact JM a5 a4 a1 a9
 split at hg
 ·simp only[List.mem_cons,List.not_mem_nil,or_false]at hg
  subst hg
  exact JM a5 a4 a1 a2
 ·simp only[List.mem_cons,List.not_mem_nil,or_false]at hg
  subst hg
  exact JM a3 a4 a1 a2
theorem aDr(n:Int):gP (gN n).1/\gP (gN n).2:=by
 have h:∀t∈xU,gP t.1/\gP t.2:=by unfold gP;decide
 unfold gN
 rw[yBa]
 cases e:xU[(n%6).toNat]? with
 |none=>exact⟨⟨by decide,by decide⟩,⟨by decide,by decide⟩⟩
 |some t=>exact h t (yBe e)
theorem aDs(n:Int):gP (nE n).1/\gP (nE n).2:=by
 have h:∀t∈q9,gP t.1/\gP t.2:=by unfold gP;decide
 unfold nE
 rw[yBa]
 cases e:q9[(n%16).toNat]? with
 |none=>exact⟨⟨by decide,by decide⟩,⟨by decide,by decide⟩⟩
 |some t=>exact h t (yBe e)
theorem aMA(p:oJ)(hp:yJ p)(hf:mP p=true):pM (kN p)/\(aW (kN p)).length<=20000:=by
 have hs:=aC7 p hf
 obtain⟨r1,r3,d1,d3,c3,s3⟩:=NX hf
 obtain⟨hpR,hpD,hpC⟩:=hp
 have hrl:=NY p.aX p.aX.length
 have hR:∀r∈eY p.aX p.aX.length,N4 r/\(eT r).length<=1000:=fun r hr=>by
  have hk:=hs.rk r hr
  obtain⟨x,hx,i,_,rfl⟩:=UL (yAk _) hr
  have hx1:=hpR x hx
  obtain⟨k1,k2,⟨k3,k3'⟩,k4,⟨g0,qJ⟩,⟨g1,g1'⟩,⟨g2,g2'⟩,⟨g3,g3'⟩,⟨g4,g4'⟩⟩:=hx1
  have hw:(uW x (1+(x.A1%25).toNat)).length<=25:=by simp only[uW,yAe,List.length_range];omega
  refine⟨⟨kB (by omega),kB (by omega),⟨(aDs x.bX).1.kX,(aDs x.bX).2.kX⟩,kX (by simp only[oF];omega) (by simp only[oF];omega),kB (by omega),fun w hw=>?_⟩,?_⟩
  ·obtain⟨j,_,rfl⟩:=yAw.1 hw
   unfold yC
   have:∀w∈[x.w0,x.w1,x.w2,x.w3,x.w4],gP w:=fun w hw=>by
    simp only[List.mem_cons,List.not_mem_nil,or_false]at hw
    rcases hw with rfl|rfl|rfl|rfl|rfl<;>exact⟨by omega,by omega⟩
   exact(this _ (JN (by simp only[List.length_cons,List.length_nil];omega) _)).kX
  ·have e1:(oF x i).fJ.length<=25:=hw
   have e2:=hk.1
   have e3:=hk.2.1
   simp only[eT,pI,aZ,yAa,cT,uT,wJ]
   omega
 obtain⟨rs,hrs⟩:=gn (eY p.aX p.aX.length)
 have hD:∀d∈lJ rs p.cM p.cM.length,N6 d/\(eX d).length<=2000:=fun d hd=>by
  have hk:=hs.dv d (by unfold kN;simp only;rw[hrs];exact hd)
  obtain⟨b,hb,i,_,rfl⟩:=NZ (yAk _) hd
  obtain⟨⟨a1,a2⟩,⟨a3,a4⟩,a5⟩:=hpD b hb
  have hsl:(oS rs b i).stops.length<=3:=by
   have:=s3 b hb
   simp only[oS,tW,yAe,List.length_range]
   omega
  have hS:∀s∈(oS rs b i).stops,N5 s/\(fE s).length<=500:=fun s hs'=>by
   have hk2:=hk.2.2 s hs'
   obtain⟨x,hx,j,_,rfl⟩:=UM (yAk _) hs'
   obtain⟨⟨x1,x2⟩,x3,x4,⟨x5,x6⟩⟩:=a5 x hx
   have zG:(rs.length:Int)≠0:=by rw[<-hrs];omega
   have aS7:rs.length<=3:=by rw[<-hrs];omega
   have aDt:(0:Int)<rs.length:=by omega
   have hkk:36+b.low%12+b.keys%9-(36+b.low%12)+1≠0:=by omega
   have e1:=Int.emod_nonneg x.aR zG
   have e2:=Int.emod_lt_of_pos x.aR aDt
   have e3:=Int.emod_nonneg (x.aR%rs.length+1) zG
   have e4:=Int.emod_lt_of_pos (x.aR%rs.length+1) aDt
   have e5:=Int.emod_nonneg x.at_ hkk
   have e6:=Int.emod_lt_of_pos x.at_ (show(0:Int)<36+b.low%12+b.keys%9-(36+b.low%12)+1 by omega)
   have f1:=VE (gN x.bX) (oG rs (x.aR%rs.length).toNat)
   have f2:=VE (gN x.bX) (oG rs ((x.aR%rs.length+1)%rs.length).toNat)
   have hl:=UN (x.kind%6) (x.aR%rs.length) (nD (gN x.bX) (oG rs (x.aR%rs.length).toNat)) (36+b.low%12) (36+b.low%12+b.keys%9) (36+b.low%12+x.at_%(36+b.low%12+b.keys%9-(36+b.low%12)+1)) ((x.aR%rs.length+1)%rs.length) (nD (gN x.bX) (oG rs ((x.aR%rs.length+1)%rs.length).toNat))
   have hg:=aM4 (k:=x.kind%6) (n:=x.aR%rs.length) (sh:=nD (gN x.bX) (oG rs (x.aR%rs.length).toNat)) (lo:=36+b.low%12) (hi:=36+b.low%12+b.keys%9) (at_:=36+b.low%12+x.at_%(36+b.low%12+b.keys%9-(36+b.low%12)+1)) (m:=(x.aR%rs.length+1)%rs.length) (other:=nD (gN x.bX) (oG rs ((x.aR%rs.length+1)%rs.length).toNat))
    ⟨e1,by omega⟩ ⟨by omega,by omega⟩ ⟨by omega,by omega⟩ ⟨by omega,by omega⟩ ⟨by omega,by omega⟩ ⟨e3,by omega⟩ ⟨by omega,by omega⟩
   have hsg:(rG rs (36+b.low%12) (36+b.low%12+b.keys%9) x j).fK=pS (x.kind%6) (x.aR%rs.length) (nD (gN x.bX) (oG rs (x.aR%rs.length).toNat)) (36+b.low%12) (36+b.low%12+b.keys%9) (36+b.low%12+x.at_%(36+b.low%12+b.keys%9-(36+b.low%12)+1)) ((x.aR%rs.length+1)%rs.length) (nD (gN x.bX) (oG rs ((x.aR%rs.length+1)%rs.length).toNat)):=rfl
   rw[<-hsg]at hl hg
   refine⟨⟨kB (by omega),⟨(aDr x.bX).1.kX,(aDr x.bX).2.kX⟩,kB (by omega),hg⟩,?_⟩
   have hge:∀g∈(rG rs (36+b.low%12) (36+b.low%12+b.keys%9) x j).fK,(iT g).length<=60:=fun g hg'=>by
    have:=hl.2 g hg'
    have h16:(g.nO.flatMap jJ).length<=g.nO.length*16:=sE fun w _=>by simp[jJ,cT]
    simp only[iT,yAa,cT,uT]
    omega
   have hfl:=sE hge
   have:=hk2.1
   simp only[fE,pI,aZ,yAa,cT,uT]
   omega
  refine⟨⟨kB (by omega),trivial,kX (by simp only[oS];omega) (by simp only[oS];omega),kX (by simp only[oS];omega) (by simp only[oS];omega),kB (by omega),fun s h=>(hS s h).1⟩,?_⟩
  have hfl:=sE (f:=fE) fun s h=>(hS s h).2
  have:=hk.1
  simp only[eX,eW,aZ,yAa,cT,uT]
  omega
 have hC:∀c∈lK p.cM.length p.iM p.iM.length,N8 c/\(fI c).length<=500:=fun c hc=>by
  have hk:=hs.cp c hc
  obtain⟨i,hi,rfl⟩:=yAw.1 hc
  have hi':=List.mem_range.1 hi
  obtain⟨x,hx⟩:=gn (p.iM.getD i default)
  rw[hx]at hk ⊢
  have hm:=hpC x (hx▸JN hi' _)
  obtain⟨⟨a1,a2⟩,⟨a3,a4⟩,a5,a6⟩:=hm
  have rR:(p.cM.length:Int)≠0:=by omega
  have tM:(0:Int)<p.cM.length:=by omega
  have e1:=Int.emod_nonneg x.nN rR
  have e2:=Int.emod_lt_of_pos x.nN tM
  have e3:=Int.emod_nonneg x.dst rR
  have e4:=Int.emod_lt_of_pos x.dst tM
  have e5:gP (x.shift.tmod 25):=by
   rcases Int.le_total 0 x.shift with h|h
   ·rw[Int.tmod_eq_emod_of_nonneg h]
    exact⟨by omega,by omega⟩
   ·have:x.shift.tmod 25=-((-x.shift)%25):=by
     rw[<-Int.tmod_eq_emod_of_nonneg (by omega:0<=-x.shift),Int.neg_tmod,Int.neg_neg]
    rw[this]
    exact⟨by omega,by omega⟩
  have e6:gP (tY p.cM.length x i).shift:=by
   unfold tY
   simp only
   split
   ·exact⟨by decide,by decide⟩
   ·exact e5
  refine⟨⟨kB (by omega),kX (by simp only[tY];omega) (by simp only[tY];omega),kX (by simp only[tY];omega) (by simp only[tY];omega),e6.kX,trivial⟩,?_⟩
  simp only[fI,eW,aZ,yAa,cT]
  omega
 have hnm:=hs.nm
 have hbl:=I6 rs p.cM p.cM.length
 have hcl:=UK p.cM.length p.iM p.iM.length
 have ho:kN p=⟨[79,114,103,97,110],rs,lJ rs p.cM p.cM.length,lK p.cM.length p.iM p.iM.length⟩:=by
  unfold kN
  rw[hrs]
 rw[hrs]at hR hrl
 rw[ho]
 refine⟨⟨kB (by simp),⟨kB (by simp only;omega),fun r h=>(hR r h).1⟩,⟨kB (by simp only;omega),fun r h=>(hD r h).1⟩,⟨kB (by simp only;omega),fun r h=>(hC r h).1⟩⟩,?_⟩
 have f1:=sE (f:=eT) fun s h=>(hR s h).2
 have f2:=sE (f:=eX) fun s h=>(hD s h).2
 have f3:=sE (f:=fI) fun s h=>(hC s h).2
 simp only[aW,aZ,yAa,cT,uT,List.length_cons,List.length_nil]
 omega
end Go.Kz
end
