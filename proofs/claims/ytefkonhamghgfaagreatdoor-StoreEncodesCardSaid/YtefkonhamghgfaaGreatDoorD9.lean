/-
  Part D9 of the way: an interpreter over pure data, its soundness, walks through functions.
-/
import Derived.Test.YtefkonhamghgfaaGreatDoorD8
import Derived.Test.YtefkonhamghgfaaGreatDoorP4
import Derived.Test.YtefkonhamghgfaaGreatDoorD2
import Derived.Test.YtefkonhamghgfaaGreatDoorP7
set_option linter.all false

set_option maxHeartbeats 40000000
open Go.Proofs.Tryz
noncomputable section
namespace Go.Kz
open Go Go.Proofs
section
abbrev WU:Em Int:=Em.int .u8
abbrev aEv:Em Int:=Em.int .u32
abbrev zQ:Em (List Int):=WU.list 1
def pV:Int×Int->List Int->Int×Int
 |s,[]=>s
 |s,c::l=>pV (((s.1+c)%65521),((s.2+(s.1+c)%65521)%65521)) l
def sumOf(l:List Int):Int:=(pV (1,0) l).2*65536+(pV (1,0) l).1
theorem O7:∀(l:List Int) (s:Int×Int),(∀c∈l,0<=c/\c<=255)->(0<=s.1/\s.1<65521/\0<=s.2/\s.2<65521)->0<=(pV s l).1/\(pV s l).1<65521/\0<=(pV s l).2/\(pV s l).2<65521
 | [],s,_,h=>h
 |c::l,s,hl,h=>by
  have hc:=hl c (by simp)
  refine O7 l _ (fun d hd=>hl d (by simp[hd])) ?_
  simp only
  omega
theorem aEw(l:List Int):∀(s:Int×Int) (c:Int),pV s (l++[c])=(((pV s l).1+c)%65521,((pV s l).2+((pV s l).1+c)%65521)%65521):=by
 induction l with
 |nil=>intro s c;rfl
 |cons d l ih=>intro s c;simp only[List.cons_append,pV,ih]
theorem wrap_u32'(n:Int)(h0:0<=n)(h1:n<4294967296):IntKind.u32.wrap n=n:=by
 unfold IntKind.wrap
 simp[IntKind.bits,IntKind.signed]
 omega
theorem aO9{x y:Int}(hx0:0<=x)(hx1:x<65536)(hy0:0<=y)(hy1:y<65536):IntKind.u32.wrap (((BitVec.ofInt 32 (IntKind.u32.wrap (y*2^16)) ||| BitVec.ofInt 32 x).toNat:Nat):Int)=y*65536+x:=by
 obtain⟨a,rfl⟩:=Int.eq_ofNat_of_zero_le hx0
 obtain⟨b,rfl⟩:=Int.eq_ofNat_of_zero_le hy0
 have ha:a<2^16:=by omega
 rw[wrap_u32' ((b:Int)*2^16) (by omega) (by omega)]
 have e1:(BitVec.ofInt 32 ((b:Int)*2^16)).toNat=b <<< 16:=by
  have:((b:Int)*2^16)=((b*2^16:Nat):Int):=by omega
  rw[this,BitVec.ofInt_natCast,BitVec.toNat_ofNat,Nat.shiftLeft_eq]
  omega
 have e2:(BitVec.ofInt 32 (a:Int)).toNat=a:=by
  rw[BitVec.ofInt_natCast,BitVec.toNat_ofNat]
  omega
 rw[BitVec.toNat_or,e1,e2,<-Nat.shiftLeft_add_eq_or_of_lt ha,Nat.shiftLeft_eq]
 rw[wrap_u32' _ (by omega) (by omega)]
 omega
section
variable{E:aD}(hU:aI E)
include hU
theorem aMm(h0:E 20=none)(l:List Int)(hl:∀c∈l,0<=c/\c<=255)(hn:l.length<1000000000):aS prog E 20 [zQ.U l] (aEv.U (sumOf l)):=by
 apply aS.aK h0 func20 rfl
 focus(simp[show Tryz.f20.ntmps=_ from rfl,List.replicate];rfl)
 have gx:=True.intro
 refine aC ?_
 clear gx
 refine Wp.cJ (fun m fr σ=>∃(k:Nat) (x y:Int),∃gg:Nat->PD,(k+m=l.length/\(x,y)=pV (1,0) (l.take k))/\fr=[zQ.U l,gg 1,.int .u32 0,.int .u32 x,.int .u32 y,gg 5,gg 6,zQ.U l,.int .i64 l.length,.int .i64 k,gg 10,gg 11,gg 12,gg 13,gg 14,gg 15,gg 16,gg 17,gg 18,gg 19,gg 20,gg 21,gg 22,gg 23,gg 24,gg 25,gg 26]/\σ=[]) ?_ (l.length) (by refine⟨0,1,0,?_⟩;exact bW (⟨by omega,rfl⟩))
 rintro m fr σ ⟨k,x,y,gg,hI,rfl,rfl⟩
 obtain⟨hm,hxy⟩:=hI
 have hb:=O7 (l.take k) (1,0) (fun c hc=>hl c (yAy hc)) (by simp)
 rw[<-hxy]at hb
 obtain⟨hx0,hx1,hy0,hy1⟩:=hb
 by_cases hk:k<l.length
 ·have hk':(k:Int)<l.length:=by omega
  obtain⟨c,hc⟩:=gn (l[k])
  obtain⟨hc0,dT⟩:=hl l[k] (yAm hk)
  rw[hc]at hc0 dT
  have hx0:0<=x:=hx0
  have hx1:x<65521:=hx1
  have hy0:0<=y:=hy0
  have hy1:y<65521:=hy1
  have wr:∀n:Int,0<=n->n<4294967296->IntKind.u32.wrap n=n:=fun n h0 h1=>by
   unfold IntKind.wrap
   simp[IntKind.bits,IntKind.signed]
   omega
  have e1:=wr c hc0 (by omega)
  have e2:=wr (x+c) (by omega) (by omega)
  have e3:(x+c).tmod 65521=(x+c)%65521:=Int.tmod_eq_emod_of_nonneg (by omega)
  obtain⟨x',hx'⟩:∃x',(x+c)%65521=x':=⟨_,rfl⟩
  have aPa:0<=x'/\x'<65521:=by omega
  have e4:=wr (y+x') (by omega) (by omega)
  have e5:(y+x').tmod 65521=(y+x')%65521:=Int.tmod_eq_emod_of_nonneg (by omega)
  obtain⟨y',hy'⟩:∃y',(y+x')%65521=y':=⟨_,rfl⟩
  rw[hx']at e3
  rw[hy']at e5
  have gx:=An @hk (An @hk' (An @hc (An @e1 (An @e2 (An @e3 (An @e4 (@e5)))))))
  refine aC ?_
  clear gx
  refine bP.normal (m-1) (by omega) (by refine⟨k+1,x',y',?_⟩;exact cW (⟨by omega,by rw[List.take_succ_eq_append_getElem hk,aEw,<-hxy,hc,hx',hy']⟩) (by(first|rfl|(simp[hk];repeat(first|rfl|(apply And.intro)))|(simp[hk];done))) (by(first|rfl|(simp[hk];repeat(first|rfl|(apply And.intro)))|(simp[hk];done))))
 ·have hk':¬(k:Int)<l.length:=by omega
  have WV:(x,y)=pV (1,0) l:=by rw[hxy,yAz (by omega)]
  have gx:=@hk'
  refine aC ?_
  clear gx
  have hj:=aO9 hx0 (by have:x<65521:=hx1;omega) hy0 (by have:y<65521:=hy1;omega)
  have hs:sumOf l=y*65536+x:=by unfold sumOf;rw[<-WV]
  exact⟨_,_,rfl,by rw[hs,<-hj];rfl⟩
theorem aMn(h0:E 88=none)(l:List Int)(hl:∀c∈l,0<=c/\c<=255)(hn:l.length<1000000000):aS prog E 88 [zQ.U l] (aEv.U (sumOf l)):=by
 apply aS.aK h0 func88 rfl
 focus(simp[show Tryz.f88.ntmps=_ from rfl,List.replicate];rfl)
 have gx:=True.intro
 refine aC ?_
 clear gx
 refine Wp.cJ (fun m fr σ=>∃(k:Nat) (x y:Int),∃gg:Nat->PD,(k+m=l.length/\(x,y)=pV (1,0) (l.take k))/\fr=[zQ.U l,gg 1,.int .u32 0,.int .i64 x,.int .i64 y,gg 5,gg 6,zQ.U l,.int .i64 l.length,.int .i64 k,gg 10,gg 11,gg 12,gg 13,gg 14,gg 15,gg 16,gg 17,gg 18,gg 19,gg 20,gg 21,gg 22,gg 23,gg 24,gg 25,gg 26,gg 27,gg 28]/\σ=[]) ?_ (l.length) (by refine⟨0,1,0,?_⟩;exact bW (⟨by omega,rfl⟩))
 rintro m fr σ ⟨k,x,y,gg,hI,rfl,rfl⟩
 obtain⟨hm,hxy⟩:=hI
 have hb:=O7 (l.take k) (1,0) (fun c hc=>hl c (yAy hc)) (by simp)
 rw[<-hxy]at hb
 obtain⟨hx0,hx1,hy0,hy1⟩:=hb
 by_cases hk:k<l.length
 ·have hk':(k:Int)<l.length:=by omega
  obtain⟨c,hc⟩:=gn (l[k])
  obtain⟨hc0,dT⟩:=hl l[k] (yAm hk)
  rw[hc]at hc0 dT
  have hx0:0<=x:=hx0
  have hx1:x<65521:=hx1
  have hy0:0<=y:=hy0
  have hy1:y<65521:=hy1
  have e3:(x+c).tmod 65521=(x+c)%65521:=Int.tmod_eq_emod_of_nonneg (by omega)
  obtain⟨x',hx'⟩:∃x',(x+c)%65521=x':=⟨_,rfl⟩
  have aPa:0<=x'/\x'<65521:=by omega
  have e5:(y+x').tmod 65521=(y+x')%65521:=Int.tmod_eq_emod_of_nonneg (by omega)
  obtain⟨y',hy'⟩:∃y',(y+x')%65521=y':=⟨_,rfl⟩
  have f1:x+c<9223372036854775808:=by omega
  have f2:y+x'<9223372036854775808:=by omega
  have f3:0<=x+c:=by omega
  have f4:0<=y+x':=by omega
  rw[hx']at e3
  rw[hy']at e5
  have gx:=An @hk (An @hk' (An @hc (An @e3 (@e5))))
  refine aC ?_
  clear gx
  refine bP.normal (m-1) (by omega) (by refine⟨k+1,x',y',?_⟩;exact cW (⟨by omega,by rw[List.take_succ_eq_append_getElem hk,aEw,<-hxy,hc,hx',hy']⟩) (by(first|rfl|(simp[hk];repeat(first|rfl|(apply And.intro)))|(simp[hk];done))) (by(first|rfl|(simp[hk];repeat(first|rfl|(apply And.intro)))|(simp[hk];done))))
 ·have hk':¬(k:Int)<l.length:=by omega
  have WV:(x,y)=pV (1,0) l:=by rw[hxy,yAz (by omega)]
  have aTf:x<65521:=hx1
  have aTg:y<65521:=hy1
  have e1:=wrap_u32' x hx0 (by omega)
  have e2:=wrap_u32' y hy0 (by omega)
  have e3:IntKind.u32.wrap (y*2^16)=y*65536:=by rw[wrap_u32' _ (by omega) (by omega)];omega
  have e4:=wrap_u32' (y*65536+x) (by omega) (by omega)
  have gx:=@hk'
  refine aC ?_
  clear gx
  have hs:sumOf l=y*65536+x:=by unfold sumOf;rw[<-WV]
  refine⟨_,_,rfl,?_⟩
  show PD.int .u32 (IntKind.u32.wrap (IntKind.u32.wrap (IntKind.u32.wrap y*2^16)+IntKind.u32.wrap x))=_
  rw[e1,e2,e3,e4,hs]
  rfl
end
theorem aPb(l:List UInt8):(l.map fun b=>(b.toNat:Int)).map WU.U=aG l:=by
 unfold aG
 rw[List.map_map]
 rfl
def pK(l:List UInt8):Int:=sumOf (l.map fun b=>(b.toNat:Int))
theorem UB{l:List UInt8}{c:Int}(h:c∈l.map fun b=>(b.toNat:Int)):0<=c/\c<=255:=by
 obtain⟨b,_,rfl⟩:=yAw.1 h
 have:=b.toNat_lt
 omega
theorem aEr(l:List UInt8):0<=pK l/\pK l<4294967296:=by
 have:=O7 (l.map fun b=>(b.toNat:Int)) (1,0) (fun c h=>UB h) (by decide)
 unfold pK sumOf
 omega
def tU:List PD->Option PD
 | [.slice z xs .any]=>match rO xs with
   |some l=>dX (l.length<=100000000/\xs=aG l/\(l=[]\/z=1)) (some (.int .u32 (pK l)))
   |none=>none
 |_=>none
theorem aMj{l:List UInt8}{z:Nat}(hz:l=[]\/z=1):PD.strip (.slice z (aG l) .any)=zQ.U (l.map fun b=>(b.toNat:Int)):=by
 show _=PD.slice (sz 1 (l.map fun b=>(b.toNat:Int))) ((l.map fun b=>(b.toNat:Int)).map WU.U) .any
 rw[aPb,PD.lG]
 have h:(aG l).map PD.strip=aG l:=by
  unfold aG
  rw[List.map_map]
  rfl
 rw[h]
 cases l with
 |nil=>rfl
 |cons b r=>
  rcases hz with h|h
  ·cases h
  ·rw[h];rfl
end
end Go.Kz
namespace Go.Kz
open Go Go.Proofs
set_option maxRecDepth 100000
section
theorem DO{α:Type}{em:Em α}(h:∀x,(em.U x).fF=true)(k:Nat)(l:List α):((em.list k).U l).fF=true:=by
 show(PD.slice (sz k l) (l.map em.U) .any).fF=true
 simp only[PD.fF,PD.VP,List.all_map,yAn]
 exact fun x _=>h x
theorem aPf(l:List Int):(eD.U l).fF=true:=DO (fun _=>rfl) 1 l
theorem aMr(o:bY):(Em.aT.U o).fF=true:=by
 have h1:∀r:bM,(Em.aR.U r).fF=true:=fun r=>by
  rw[vT]
  simp only[PD.fF,PD.rF,aPf,Bool.and_true,Bool.true_and]
  rfl
 have h2:∀r:fA,(Em.draw.U r).fF=true:=fun r=>rfl
 have h3:∀r:fY,(Em.bL.U r).fF=true:=fun r=>by
  rw[GY]
  simp only[PD.fF,PD.rF,DO h2 2,Bool.and_true,Bool.true_and]
  rfl
 have h4:∀r:dG,(Em.stop.U r).fF=true:=fun r=>by
  rw[vU]
  simp only[PD.fF,PD.rF,DO h3 3,Bool.and_true,Bool.true_and]
  rfl
 have h5:∀r:cU,(Em.div.U r).fF=true:=fun r=>by
  rw[A2]
  simp only[PD.fF,PD.rF,DO h4 4,Bool.and_true,Bool.true_and]
  rfl
 have h6:∀r:cF,(Em.aP.U r).fF=true:=fun r=>rfl
 rw[fH]
 simp only[PD.fF,PD.rF,DO h1 6,DO h5 5,DO h6 5,Bool.and_true]
theorem zT(s:bY):aW s≠[]:=fun e=>by
 have:=congrArg List.length e
 simp only[aW,aZ,yAa,cT,List.length_nil]at this
 omega
def sC:List PD->Option PD
 | [.slice z xs .any,q]=>match rO xs with
   |some l=>dX (l.length<=1000000/\xs=aG l/\(l=[]\/z=1)/\q=.slice z xs .any) (some (.bool true))
   |none=>none
 |_=>none
theorem aPg(l:List UInt8):(aG l).all AD=true:=by
 unfold aG
 rw[List.all_map,yAn]
 exact fun _ _=>rfl
theorem N2{σ:List aB}{id ver:Nat}{l:List UInt8}(h:σ[id]?=some (.row 5 1 ver (aG l))):mH σ (.aF id ver 0 l.length 1)=.slice 1 (aG l) .any:=by
 show FB σ id ver 0 l.length 1=_
 unfold FB
 rw[h]
 simp only
 rw[if_pos ⟨trivial,trivial,trivial,by simp,aPg l⟩]
 simp[yAz]
theorem F9(l:List UInt8):(PD.slice 1 (aG l) .any).aY=true:=by
 have h:∀l:List UInt8,PD.eM (aG l)=true:=fun l=>by
  induction l with
  |nil=>rfl
  |cons b r ih=>
   show(PD.aY _&&PD.eM (aG r))=true
   rw[ih]
   rfl
 simp[PD.aY,h]
theorem aOZ{σ:List aB}{id ver DJ aEz:Nat}{l:List UInt8}(h:σ[id]?=some (.row 5 1 ver (aG l)))(h2:σ[DJ]?=some (.row 5 1 aEz (aG l)))(hl:l.length<=1000000)(fl:Nat) :
  fW sC fl [.aF id ver 0 l.length 1,.aF DJ aEz 0 l.length 1] σ=some (.bool true,σ):=by
 unfold fW
 simp only[List.map_cons,List.map_nil,N2 h,N2 h2,PD.eM,F9,Bool.and_self,if_true]
 have e:sC [.slice 1 (aG l) .any,.slice 1 (aG l) .any]=some (.bool true):=by
  unfold sC
  simp only[zU]
  rw[fB ⟨hl,trivial,.inr trivial,trivial⟩]
 rw[e]
 rfl
def NJ:Nat->List PD->List aB->Option (PD×List aB):=entry (b9 Em.qN Em.bool fun p=>some (mP p))
theorem aMu(p:oJ)(fl:Nat)(σ:List aB):NJ fl [Em.qN.U p] σ=some (.bool (mP p),σ):=by
 have e1:=Em.dC (Em.qN.str p)
 unfold NJ entry b9
 simp only[e1]
 rfl
def NL:Nat->List PD->List aB->Option (PD×List aB):=entry (b9 Em.qN Em.aT fun p=>dX (yJ p/\mP p=true) (some (kN p)))
theorem aMv{p:oJ}(h:yJ p)(hf:mP p=true)(fl:Nat)(σ:List aB):NL fl [Em.qN.U p] σ=some (Em.aT.U (kN p),σ):=by
 have e1:=Em.dC (Em.qN.str p)
 unfold NL entry b9
 simp only[e1]
 rw[fB ⟨h,hf⟩]
abbrev UA:Nat->List PD->List aB->Option (PD×List aB):=entry (uH Em.bool (some true))
theorem aMt(fl:Nat)(σ:List aB):UA fl [] σ=some (.bool true,σ):=rfl
variable{E:aD}(hU:aI E)
include hU
end
section
def b4(n:Int):List UInt8:=(List.range 4).map fun i=>UInt8.ofNat (n.toNat/256^i)
theorem tV(n:Int):(b4 n).length=4:=by simp[b4]
def kH(kind:Int)(data:List UInt8):List UInt8:=UInt8.ofNat kind.toNat::(b4 data.length++data)
def iW(kind:Int)(data:List UInt8):List UInt8:=kH kind data++b4 (pK (kH kind data))
theorem aEm(kind:Int)(data:List UInt8):(iW kind data).length=data.length+9:=by
 simp only[iW,kH,yAa,List.length_cons,tV]
 omega
theorem UC(kind:Int)(data:List UInt8):iW kind data≠[]:=fun e=>by
 have:=aEm kind data
 rw[e]at this
 simp at this
theorem WT{n:Nat}(ht:iF 30 n=true){σ:List aB}{bs ys:List UInt8}{z:Nat}{tok:Tok}(hb:bs≠[])(hy:ys≠[])(hz:z=1)(hl:(bs++ys).length<=1000000000) :
  dS prog n 0 σ 30 (.slice 1 (aG bs) .full) (.slice z (aG ys) tok)=some (.aF σ.length 0 0 (bs++ys).length 1,σ++[.row 5 1 0 (aG (bs++ys))]):=by
 obtain⟨i,hi,hiz,his,hib⟩:=JR
 have hone:(Value.int IntKind.u8 0).cells.toList.all Value.oneCell'=true:=rfl
 rw[yAa]at hl
 have hxl:(aG bs).length=bs.length:=iD bs
 have hyl:(aG ys).length=ys.length:=iD ys
 have dT:((aG ys).length=0\/z=i.size)/\0<i.size/\(Value.int IntKind.u8 0).cells.size=i.size/\(Value.int IntKind.u8 0).cells.toList.all Value.oneCell'=true:=⟨.inr (by rw[hz,his]),by omega,by rw[his];rfl,hone⟩
 have hc2:((aG bs).length=0\/1=i.size)/\(aG bs).length+(aG ys).length<=maxLen/\((aG bs).length+(aG ys).length)*i.bytes<=140737488355328/\Tok.full.fresh=true:=⟨.inr his.symm,by rw[hxl,hyl];simp only[maxLen];omega,by rw[hib,hxl,hyl];omega,rfl⟩
 have hv:mY σ (.slice z (aG ys) tok)=some (z,aG ys):=rfl
 unfold dS
 rw[if_pos ht]
 simp only[underlying30,hv,hi,hiz]
 rw[if_pos dT,if_pos hc2,if_neg (by rw[hyl];exact fun e=>hy (yAf e)),his]
 rw[List.flatMap_append,GO,GO,<-JS,hxl,hyl,yAa]
def zO:Nat->List PD->List aB->Option (PD×List aB)
 |0,[p,.int .u32 n],σ=>if 0<=n/\n<4294967296 then dS prog 19 0 σ 30 p (.slice 1 (aG (b4 n)) .full)else none
 |_,_,_=>none
theorem yI(n:Int)(hn:0<=n/\n<4294967296)(i:Nat)(hi:i<4:=by decide):IntKind.u8.wrap (n.fdiv (2^min (8*i) IntKind.u32.bits))=((UInt8.ofNat (n.toNat/256^i)).toNat:Int):=by
 obtain⟨m,rfl⟩:∃m:Nat,n=m:=⟨n.toNat,by omega⟩
 have e1:min (8*i) IntKind.u32.bits=8*i:=by
  have:IntKind.u32.bits=32:=rfl
  rw[this]
  omega
 have e2:((2:Int)^(8*i))=((256^i:Nat):Int):=by
  rw[Int.pow_mul]
  simp
 rw[e1,e2,Int.fdiv_eq_ediv_of_nonneg _ (Int.natCast_nonneg _),<-Int.natCast_ediv,Int.toNat_natCast]
 simp[IntKind.wrap,IntKind.signed,IntKind.bits,UInt8.toNat_ofNat']
variable{E:aD}(hU:aI E)
include hU
theorem aLi(h0:E 115=none)(p p':PD)(n:Int)(hn:0<=n/\n<4294967296)(σ σ':List aB)(hp:dS prog 19 0 σ 30 p (.slice 1 (aG (b4 n)) .full)=some (p',σ')) :
  mD prog E 0 (.inl 115) [p,.int .u32 n] σ p' σ':=by
 have hw:aN prog E 0 (.inl 115) [p,.int .u32 n] σ (fun q τ=>q=p'/\τ=σ'):=by
  have ht:iF 30 19=true:=by decide
  have w0:=yI n hn 0
  have w1:=yI n hn 1
  have w2:=yI n hn 2
  have w3:=yI n hn 3
  simp only[Nat.mul_zero,Nat.mul_one,Nat.reduceMul]at w1 w2 w3
  have w0':IntKind.u8.wrap n=(UInt8.ofNat (n.toNat/256^0)).toNat:=by simpa using w0
  have hb:aG (b4 n)=[.int .u8 (UInt8.ofNat (n.toNat/256^0)).toNat,.int .u8 (UInt8.ofNat (n.toNat/256^1)).toNat,.int .u8 (UInt8.ofNat (n.toNat/256^2)).toNat,.int .u8 (UInt8.ofNat (n.toNat/256^3)).toNat]:=rfl
  rw[hb]at hp
  obtain⟨c0,e0⟩:=gn (UInt8.ofNat (n.toNat/256^0))
  obtain⟨c1,e1⟩:=gn (UInt8.ofNat (n.toNat/256^1))
  obtain⟨c2,e2⟩:=gn (UInt8.ofNat (n.toNat/256^2))
  obtain⟨c3,e3⟩:=gn (UInt8.ofNat (n.toNat/256^3))
  rw[e0]at w0' hp
  rw[e1]at w1 hp
  rw[e2]at w2 hp
  rw[e3]at w3 hp
  clear hb e0 e1 e2 e3 w0
  apply aN.aK h0 func115 rfl
  focus(simp[show Tryz.f115.ntmps=_ from rfl,List.replicate];rfl)
  have gx:=An @w0' (An @w1 (An @w2 (An @w3 (An @ht (@hp)))))
  refine aC ?_
  clear gx
  trace_state
  exact⟨_,_,rfl,rfl,rfl⟩
 obtain⟨q,τ,h1,rfl,rfl⟩:=hw.ex
 exact h1
end
section
theorem aEt(kind:Int)(data:List UInt8):kH kind data≠[]:=by simp[kH]
theorem aEq{kind:Int}(h:eG kind):aG [UInt8.ofNat kind.toNat]=[.int .u8 kind]:=by
 have h1:=h.1
 have h2:=h.2
 have:((UInt8.ofNat kind.toNat).toNat:Int)=kind:=by
  rw[UInt8.toNat_ofNat']
  omega
 simp only[aG,List.map_cons,List.map_nil,this]
theorem aEu(p:PD)(n:Int)(σ:List aB):zO 0 [p,.int .u32 n] σ=if 0<=n/\n<4294967296 then dS prog 19 0 σ 30 p (.slice 1 (aG (b4 n)) .full)else none:=rfl
theorem aEs{σ:List aB}{id ver:Nat}{l:List UInt8}(h:σ[id]?=some (.row 5 1 ver (aG l)))(hl:l.length<=100000000)(fl:Nat) :
  fW tU fl [.aF id ver 0 l.length 1] σ=some (.int .u32 (pK l),σ):=by
 unfold fW
 simp only[List.map_cons,List.map_nil,N2 h,PD.eM,F9,Bool.and_self,if_true]
 have e:tU [.slice 1 (aG l) .any]=some (.int .u32 (pK l)):=by
  unfold tU
  simp only[zU]
  rw[fB ⟨hl,trivial,.inr trivial⟩]
 rw[e]
 rfl
theorem aO8(n:Nat)(h:n<4294967296):IntKind.u32.wrap (n:Int)=n:=by
 simp[IntKind.wrap,IntKind.signed,IntKind.bits]
 omega
theorem aEp{n:Int}(h:eG n):IntKind.u8.wrap n=n:=by
 have h1:=h.1
 have h2:=h.2
 simp[IntKind.wrap,IntKind.signed,IntKind.bits]
 omega
theorem jK.row{σ:List aB}{p:PD}{bs:List UInt8}(h:jK σ p bs)(hb:bs≠[]):∃k v,p=.aF k v 0 bs.length 1/\σ[k]?=some (.row 5 1 v (aG bs)):=h.resolve_left (fun e=>hb e.1) |>.2
variable{E:aD}(hU:aI E)
include hU
theorem aLn(h0:E 87=none)(h1:E 115=some zO)(h2:E 20=some (fW tU))(kind:Int)(hk:eG kind)(data:List UInt8)(z:Nat)(hz:data=[]\/z=1)(hl:data.length<=1000000) :
  iS prog E 5 87 [.int .i64 kind,.slice z (aG data) .any] (iW kind data):=by
 refine iS.of ?_
 have w1:=aEp hk
 have w2:=aO8 data.length (by omega)
 have o1:=aEq hk
 have eQ:kH kind data=(UInt8.ofNat kind.toNat::b4 data.length)++data:=rfl
 have uG:(UInt8.ofNat kind.toNat::b4 data.length).length=5:=by simp[tV]
 have k1:zO 0 [.slice 1 [.int .u8 kind] .full,.int .u32 data.length] []=some (.aF 0 0 0 5 1,[.row 5 1 0 (aG (UInt8.ofNat kind.toNat::b4 data.length))]):=by
  rw[aEu,if_pos ⟨by omega,by omega⟩,<-o1]
  have:=WT (n:=19) (by decide) (σ:=[]) (bs:=[UInt8.ofNat kind.toNat]) (ys:=b4 data.length) (z:=1) (tok:=.full) (by simp) (fun e=>by have:=tV data.length;rw[e]at this;cases this) rfl (by simp[tV])
  rw[this]
  simp[tV]
 have mK:jK [.row 5 1 0 (aG (UInt8.ofNat kind.toNat::b4 data.length))] (.aF 0 0 0 5 1) (UInt8.ofNat kind.toNat::b4 data.length):=.inr ⟨by simp,0,0,by rw[uG],rfl⟩
 have ht:iF 30 20=true:=by decide
 obtain⟨p2,σ2,a2,jV,_,_,_⟩:=tX ht (ys:=data) (z:=z) (tok:=.any) mK hz (by rw[yAa,uG];omega)
 rw[<-eQ]at jV
 obtain⟨k,v,rfl,qT⟩:=jV.row (aEt kind data)
 have hhl:(kH kind data).length=data.length+5:=by rw[eQ,yAa,uG];omega
 have k3:=aEs qT (by omega) 0
 have hs:=aEr (kH kind data)
 obtain⟨p4,bK,a4,O6,_,_,_⟩:=tX (n:=19) (by decide) (ys:=b4 (pK (kH kind data))) (z:=1) (tok:=.full) jV (.inr rfl) (by rw[yAa,tV];omega)
 obtain⟨s,es⟩:=gn (pK (kH kind data))
 have k4:zO 0 [.aF k v 0 (kH kind data).length 1,.int .u32 s] σ2=some (p4,bK):=by
  rw[aEu,if_pos (by rw[<-es];exact hs),<-es]
  exact a4
 rw[es]at k3
 rw[hhl]at k3 k4 a2
 have hE:iW kind data=kH kind data++b4 (pK (kH kind data)):=rfl
 rw[<-hE]at O6
 have hul:=iD data
 clear hE hs eQ mK jV qT o1
 apply aN.aK h0 func87 rfl
 focus(simp[show Tryz.f87.ntmps=_ from rfl,List.replicate];rfl)
 have gx:=An @h1 (An @h2 (An @w1 (An @w2 (An @k1 (An @ht (An @a2 (An @k3 (An @k4 (@hul)))))))))
 refine aC ?_
 clear gx
 exact⟨_,_,rfl,O6⟩
end
section
theorem O5(n:Int)(hn:0<=n/\n<4294967296)(i:Nat)(hi:i<4:=by decide):IntKind.u8.wrap (n.fdiv (2^min (8*i) IntKind.i64.bits))=((UInt8.ofNat (n.toNat/256^i)).toNat:Int):=by
 have:=yI n hn i hi
 have e1:min (8*i) IntKind.i64.bits=min (8*i) IntKind.u32.bits:=by
  have h1:IntKind.i64.bits=64:=rfl
  have h2:IntKind.u32.bits=32:=rfl
  rw[h1,h2]
  omega
 rw[e1]
 exact this
theorem aO6{l:List UInt8}{z:Nat}{tok:Tok}(hz:l=[]\/z=1)(hl:l.length<=100000000)(fl:Nat)(σ:List aB):fW tU fl [.slice z (aG l) tok] σ=some (.int .u32 (pK l),σ):=by
 have hb:mH σ (.slice z (aG l) tok)=.slice (sz 1 l) (aG l) .any:=by
  show PD.strip _=_
  rw[PD.lG]
  have h:(aG l).map PD.strip=aG l:=by
   unfold aG
   rw[List.map_map]
   rfl
  rw[h,iD]
  cases l with
  |nil=>rfl
  |cons b r=>
   rcases hz with h|h
   ·cases h
   ·rw[h];rfl
 have hi:(PD.slice (sz 1 l) (aG l) .any).aY=true:=by
  cases l with
  |nil=>rfl
  |cons b r=>exact F9 (b::r)
 unfold fW
 simp only[List.map_cons,List.map_nil,hb,PD.eM,hi,Bool.and_self,if_true]
 have e:tU [.slice (sz 1 l) (aG l) .any]=some (.int .u32 (pK l)):=by
  unfold tU
  simp only[zU]
  rw[fB ⟨hl,trivial,by cases l<;>simp[sz]⟩]
 rw[e]
 rfl
theorem aO7{n:Nat}(ht:iF 30 n=true){σ:List aB}{bs:List UInt8}{z:Nat}{tok:Tok}(hl:bs.length<=1000000000) :
  dS prog n 0 σ 30 (.slice 1 (aG bs) .full) (.slice z [] tok)=some (.slice 1 (aG bs) .full,σ):=by
 obtain⟨i,hi,hiz,his,hib⟩:=JR
 have hone:(Value.int IntKind.u8 0).cells.toList.all Value.oneCell'=true:=rfl
 have hxl:(aG bs).length=bs.length:=iD bs
 have dT:(([]:List PD).length=0\/z=i.size)/\0<i.size/\(Value.int IntKind.u8 0).cells.size=i.size/\(Value.int IntKind.u8 0).cells.toList.all Value.oneCell'=true:=⟨.inl rfl,by omega,by rw[his];rfl,hone⟩
 have hc2:((aG bs).length=0\/1=i.size)/\(aG bs).length+([]:List PD).length<=maxLen/\((aG bs).length+([]:List PD).length)*i.bytes<=140737488355328/\Tok.full.fresh=true:=⟨.inr his.symm,by rw[hxl];simp only[maxLen,List.length_nil];omega,by rw[hib,hxl,List.length_nil];omega,rfl⟩
 have hv:mY σ (.slice z [] tok)=some (z,[]):=rfl
 unfold dS
 rw[if_pos ht]
 simp only[underlying30,hv,hi,hiz]
 rw[if_pos dT,if_pos hc2]
 rfl
variable{E E1:aD}(hU:aI E)
include hU
theorem aKw(h0:E 53=none)(h2:E 88=some (fW tU))(kind:Int)(hk:eG kind)(data:List UInt8)(z:Nat)(hz:data=[]\/z=1)(hl:data.length<=1000000) :
  iS prog E 5 53 [.int .i64 kind,.slice z (aG data) .any] (iW kind data):=by
 refine iS.of ?_
 have w1:=aEp hk
 have o1:=aEq hk
 have hn:0<=(data.length:Int)/\(data.length:Int)<4294967296:=⟨by omega,by omega⟩
 have v0:=O5 _ hn 0
 have v1:=O5 _ hn 1
 have v2:=O5 _ hn 2
 have v3:=O5 _ hn 3
 simp only[Nat.mul_zero,Nat.mul_one,Nat.reduceMul]at v1 v2 v3
 have KM:IntKind.u8.wrap (data.length:Int)=(UInt8.ofNat ((data.length:Int).toNat/256^0)).toNat:=by simpa using v0
 have hb:aG (UInt8.ofNat kind.toNat::b4 data.length)=[.int .u8 kind,.int .u8 (UInt8.ofNat ((data.length:Int).toNat/256^0)).toNat,.int .u8 (UInt8.ofNat ((data.length:Int).toNat/256^1)).toNat,.int .u8 (UInt8.ofNat ((data.length:Int).toNat/256^2)).toNat,.int .u8 (UInt8.ofNat ((data.length:Int).toNat/256^3)).toNat]:=by
  rw[show UInt8.ofNat kind.toNat::b4 data.length=[UInt8.ofNat kind.toNat]++b4 data.length from rfl,JS,o1]
  rfl
 obtain⟨hd,hhd⟩:=gn (UInt8.ofNat kind.toNat::b4 data.length)
 have eQ:kH kind data=hd++data:=by rw[<-hhd];rfl
 have uG:hd.length=5:=by rw[<-hhd];simp[tV]
 have rR:hd≠[]:=by rw[<-hhd];simp
 rw[hhd]at hb
 have hs:=aEr (kH kind data)
 have hhl:(kH kind data).length=data.length+5:=by rw[eQ,yAa,uG];omega
 obtain⟨s,es⟩:=gn (pK (kH kind data))
 have hs':0<=s/\s<4294967296:=es▸hs
 have x0:=yI s hs' 0
 have x1:=yI s hs' 1
 have x2:=yI s hs' 2
 have x3:=yI s hs' 3
 simp only[Nat.mul_zero,Nat.mul_one,Nat.reduceMul]at x1 x2 x3
 have WS:IntKind.u8.wrap s=(UInt8.ofNat (s.toNat/256^0)).toNat:=by simpa using x0
 have hE:iW kind data=kH kind data++b4 s:=by rw[<-es];rfl
 have h4:aG (b4 s)=[.int .u8 (UInt8.ofNat (s.toNat/256^0)).toNat,.int .u8 (UInt8.ofNat (s.toNat/256^1)).toNat,.int .u8 (UInt8.ofNat (s.toNat/256^2)).toNat,.int .u8 (UInt8.ofNat (s.toNat/256^3)).toNat]:=rfl
 obtain⟨a0,e0⟩:=gn (UInt8.ofNat ((data.length:Int).toNat/256^0))
 obtain⟨a1,e1⟩:=gn (UInt8.ofNat ((data.length:Int).toNat/256^1))
 obtain⟨a2,e2⟩:=gn (UInt8.ofNat ((data.length:Int).toNat/256^2))
 obtain⟨a3,e3⟩:=gn (UInt8.ofNat ((data.length:Int).toNat/256^3))
 obtain⟨c0,f0⟩:=gn (UInt8.ofNat (s.toNat/256^0))
 obtain⟨c1,f1⟩:=gn (UInt8.ofNat (s.toNat/256^1))
 obtain⟨c2,f2⟩:=gn (UInt8.ofNat (s.toNat/256^2))
 obtain⟨c3,f3⟩:=gn (UInt8.ofNat (s.toNat/256^3))
 rw[e0]at KM hb
 rw[e1]at v1 hb
 rw[e2]at v2 hb
 rw[e3]at v3 hb
 rw[f0]at WS h4
 rw[f1]at x1 h4
 rw[f2]at x2 h4
 rw[f3]at x3 h4
 have ht:iF 30 42=true:=by decide
 rw[hE]
 clear hE e0 e1 e2 e3 f0 f1 f2 f3 v0 x0 hn hhd o1
 by_cases hdt:data=[]
 ·subst hdt
  rw[yAl]at eQ
  have AV:=aO7 ht (σ:=[]) (bs:=hd) (z:=z) (tok:=.any) (by omega)
  have k2:=aO6 (tok:=.full) (z:=1) (l:=kH kind []) (.inr rfl) (by omega) 0 []
  rw[es,eQ]at k2
  have ap:=WT ht (σ:=[]) (bs:=hd) (ys:=b4 s) (z:=1) (tok:=.full) rR (fun e=>by have:=tV s;rw[e]at this;cases this) rfl (by rw[yAa,uG,tV];omega)
  have hlt:(hd++b4 s).length=9:=by rw[yAa,uG,tV]
  rw[h4,hlt]at ap
  simp only[List.length_nil]at KM v1 v2 v3
  have z0:(a0.toNat:Int)=0:=by rw[<-KM];decide
  have z1:(a1.toNat:Int)=0:=by rw[<-v1];decide
  have z2:(a2.toNat:Int)=0:=by rw[<-v2];decide
  have z3:(a3.toNat:Int)=0:=by rw[<-v3];decide
  have xN:aG ([]:List UInt8)=[]:=rfl
  rw[z0,z1,z2,z3]at hb
  rw[hb]at AV k2 ap
  rw[xN]
  clear KM v1 v2 v3 z0 z1 z2 z3
  apply aN.aK h0 func53 rfl
  focus(simp[show Tryz.f53.ntmps=_ from rfl,List.replicate];rfl)
  have gx:=An @w1 (An @ht (An @AV (An @h2 (An @k2 (An @WS (An @x1 (An @x2 (An @x3 (@ap)))))))))
  refine aC ?_
  clear gx
  refine⟨.aF 0 0 0 9 1,[.row 5 1 0 (aG (hd++b4 s))],?_,.inr ⟨by simp[kH],0,0,by rw[eQ,hlt],by rw[eQ];rfl⟩⟩
  rw[JS,hb,h4]
  rfl
 ·have gL:z=1:=hz.resolve_left hdt
  have AV:=WT ht (σ:=[]) (bs:=hd) (ys:=data) (z:=z) (tok:=.any) rR hdt gL (by rw[yAa,uG];omega)
  rw[<-eQ,hhl]at AV
  simp only[List.length_nil,List.nil_append]at AV
  have hr:([.row 5 1 0 (aG (kH kind data))]:List aB)[0]?=some (.row 5 1 0 (aG (kH kind data))):=rfl
  have k2:=aEs hr (by omega) 0
  obtain⟨p4,bK,ap,O6,_,_,_⟩:=tX ht (ys:=b4 s) (z:=1) (tok:=.full) (σ:=[.row 5 1 0 (aG (kH kind data))]) (p:=.aF 0 0 0 (kH kind data).length 1) (bs:=kH kind data) (.inr ⟨aEt kind data,0,0,rfl,rfl⟩) (.inr rfl) (by rw[yAa,tV];omega)
  rw[es,hhl]at k2
  rw[hhl,h4]at ap
  rw[hb]at AV
  obtain⟨H,hH⟩:=gn (aG (kH kind data))
  rw[hH]at AV k2 ap
  have hul:=iD data
  clear hb h4 hr hz hH
  apply aN.aK h0 func53 rfl
  focus(simp[show Tryz.f53.ntmps=_ from rfl,List.replicate];rfl)
  have gx:=An @w1 (An @KM (An @v1 (An @v2 (An @v3 (An @ht (An @AV (An @h2 (An @k2 (An @WS (An @x1 (An @x2 (An @x3 (An @ap (@hul))))))))))))))
  refine aC ?_
  clear gx
  exact⟨_,_,rfl,O6⟩
end
section
def CJ:Nat->List PD->List aB->Option (PD×List aB):=entry (b9 Em.aT bH fun o=>dX ((aW o).length<=1000000000) (some (aW o)))
theorem UE{o:bY}(hl:(aW o).length<=1000000000)(fl:Nat)(σ:List aB):CJ fl [Em.aT.U o] σ=some (.slice 1 (aG (aW o)) .any,σ):=by
 have e1:=Em.dC (Em.aT.str o)
 unfold CJ entry b9
 simp only[e1,fB hl,rE (zT o)]
theorem aEo(fl:Nat){n:Nat}(ht:iF 30 n=true){σ:List aB}{x:PD}{ys:List UInt8}{s:Nat}{Y:List PD}(hx:mY σ x=some (1,Y))(hYl:Y.length=ys.length)(hYc:Y.flatMap PD.cells=aG ys)(hy:ys≠[])(hl:ys.length<=1000000000) :
  dS prog n fl σ 30 (.slice s [] .full) x=some (.aF σ.length 0 0 ys.length 1,σ++[.row 5 1 0 (aG ys)]):=by
 obtain⟨i,hi,hiz,his,hib⟩:=JR
 have hone:(Value.int IntKind.u8 0).cells.toList.all Value.oneCell'=true:=rfl
 have dT:(Y.length=0\/1=i.size)/\0<i.size/\(Value.int IntKind.u8 0).cells.size=i.size/\(Value.int IntKind.u8 0).cells.toList.all Value.oneCell'=true:=⟨.inr his.symm,by omega,by rw[his];rfl,hone⟩
 have hc2:(([]:List PD).length=0\/s=i.size)/\([]:List PD).length+Y.length<=maxLen/\(([]:List PD).length+Y.length)*i.bytes<=140737488355328/\Tok.full.fresh=true:=⟨.inl rfl,by rw[hYl];simp only[maxLen,List.length_nil];omega,by rw[hib,hYl,List.length_nil];omega,rfl⟩
 unfold dS
 rw[if_pos ht]
 simp only[underlying30,hx,hi,hiz]
 rw[if_pos dT,if_pos hc2,if_neg (by rw[hYl];exact fun e=>hy (yAf e)),his]
 rw[List.nil_append,hYc,hYl,List.length_nil,yAp]
variable{E E1 E2:aD}(hU:aI E)
include hU
theorem aLg(h0:E 51=none)(h1:E 86=some (aO prog E1 86))(H:∀o,cI E1 86 (fun id=>[.ptr id 0,Em.aT.U o]) (aW o))(o:bY)(hl:(aW o).length<=1000000000) :
  aS prog E 51 [Em.aT.U o] (bH.U (aW o)):=by
 have w0:∀X,gT [.box X,.box (.agg [mN [] .full])] 1 .full []:=fun X=>⟨rfl,.inl ⟨rfl,rfl⟩⟩
 obtain⟨σ1,t1,k1,w1,f1⟩:=(H o).at (w0 (Em.aT.U o)) (by simpa using hl)
 rw[List.nil_append]at w1
 replace k1:=(show aO prog E1 86 0 [.ptr 1 0,Em.aT.U o] [.box (Em.aT.U o),.box (.agg [.slice 0 [] .full])]=some (.aH [],σ1)from k1)
 obtain⟨v1,z1⟩:=w1.at
 have b1:=w1.1
 obtain⟨q,hq⟩:=gn (mN (aW o) t1)
 have hst:q.strip=bH.U (aW o):=by
  rw[<-hq,GN]
  unfold mN
  rw[PD.lG,iD]
  have h:(aG (aW o)).map PD.strip=aG (aW o):=by
   unfold aG
   rw[List.map_map]
   rfl
  rw[h,if_neg (fun e=>zT o (yAf e))]
 rw[hq]at z1 b1
 rw[<-hst]
 obtain⟨on,rs,ds,cs⟩:=o
 simp only[fH,bJ]at k1
 simp only[fH,bJ]
 apply aS.aK h0 func51 rfl
 focus(simp[show Tryz.f51.ntmps=_ from rfl,List.replicate];rfl)
 have gx:=An @h1 (An @k1 (An @b1 (An @v1 (@z1))))
 refine aC ?_
 clear gx
 exact⟨_,_,rfl,rfl⟩
theorem aLq(h0:E 63=none)(h1:E 51=some CJ)(h2:E 34=some (aO prog E1 34))(H:Reads E1 34 iG Em.aT.U)(o:bY)(ho:pM o)(hl:(aW o).length<=1000000000) :
  aS prog E 63 [Em.aT.U o] (Em.aT.U o):=by
 have kE:=fun σ=>UE hl 0 σ
 have R0:bV [.box (Em.aT.U o),.box (.agg [.str [],.slice 0 [] .full,.slice 0 [] .full,.slice 0 [] .full]),.box (.agg [.slice 1 (aG (aW o)) .any,.bool false])] 2 ⟨aW o,false⟩:=⟨1,.inr rfl,rfl⟩
 obtain⟨σ1,k1,R1,l1,f1⟩:=H.at R0 hl
 have hd:=GD.fwd o [] ho
 rw[yAl]at hd
 rw[hd]at k1
 simp only[kF]at k1
 obtain⟨L,hL⟩:=gn (aG (aW o))
 rw[hL]at k1 kE
 have g1:=f1 1 (by simp) (by decide)
 simp only[List.getElem?_cons_succ,List.getElem?_cons_zero]at g1
 obtain⟨w1,z1⟩:=yA.1 g1
 clear R0 hd hL f1 l1 R1
 have hst:=Em.aT.str o
 obtain⟨on,rs,ds,cs⟩:=o
 simp only[fH,bJ]at k1 kE hst
 simp only[fH,bJ]
 apply aS.aK h0 func63 rfl
 focus(simp[show Tryz.f63.ntmps=_ from rfl,List.replicate];rfl)
 have gx:=An @h1 (An @kE (An @h2 (An @k1 (An @g1 (An @w1 (@z1))))))
 refine aC ?_
 clear gx
 exact⟨.agg [.str on,.slice (sz 6 rs) (rs.map Em.aR.U) .any,.slice (sz 5 ds) (ds.map Em.div.U) .any,.slice (sz 5 cs) (cs.map Em.aP.U) .any],σ1.set 1 (.box (.agg [.str on,.slice (sz 6 rs) (rs.map Em.aR.U) .any,.slice (sz 5 ds) (ds.map Em.div.U) .any,.slice (sz 5 cs) (cs.map Em.aP.U) .any])),by simp[fR,w1],hst⟩
theorem aDb(h0:E 18=none)(fl:Nat)(l:List UInt8)(hl:l≠[])(hn:l.length<=1000000000)(p:PD)(τ:List aB)(hp:p=.slice 1 (aG l) .any\/∃k v,p=.aF k v 0 l.length 1/\τ[k]?=some (.row 5 1 v (aG l))) :
  aN prog E fl (.inl 18) [p] τ (fun q σ=>q=.aF τ.length 0 0 l.length 1/\σ=τ++[.row 5 1 0 (aG l)]):=by
 have hul:=iD l
 have hne:aG l≠[]:=fun e=>hl (yAf (by rw[<-hul,e];rfl))
 have hpos:=List.length_pos_iff.2 hl
 have ht:iF 30 8=true:=by decide
 rcases hp with rfl | ⟨k,v,rfl,hk⟩
 ·have hni:qQ (.slice 1 (aG l) .any)=some false:=by
   unfold qQ
   exact if_pos ⟨by rw[hul];omega,by decide⟩
  have ap:=aEo fl ht (σ:=τ) (s:=1) (x:=.slice 1 (aG l) .any) (Y:=aG l) rfl hul (GO l) hl hn
  apply aN.aK h0 func18 rfl
  focus(simp[show Tryz.f18.ntmps=_ from rfl,List.replicate];rfl)
  have gx:=An @hni (An @ht (@ap))
  refine aC ?_
  clear gx
  exact⟨_,_,rfl,rfl,rfl⟩
 ·have hni:qQ (.aF k v 0 l.length 1)=some false:=rfl
  have hx:mY τ (.aF k v 0 l.length 1)=some (1,mX 1 (aG l).length (aG l)):=by simp[mY,hk,iD]
  have ap:=aEo fl ht (s:=1) hx (by rw[(JT _).1,iD]) ((JT _).2 fun d hd=>by
   obtain⟨b,_,rfl⟩:=yAw.1 hd
   rfl) hl hn
  apply aN.aK h0 func18 rfl
  focus(simp[show Tryz.f18.ntmps=_ from rfl,List.replicate];rfl)
  have gx:=An @hni (An @ht (@ap))
  refine aC ?_
  clear gx
  exact⟨_,_,rfl,rfl,rfl⟩
end
section
def CL:Nat->List PD->List aB->Option (PD×List aB):=entry (b9 Em.aT Em.aT fun o=>dX (pM o/\(aW o).length<=1000000000) (some o))
theorem aEn{o:bY}(ho:pM o)(hl:(aW o).length<=1000000000)(fl:Nat)(σ:List aB):CL fl [Em.aT.U o] σ=some (Em.aT.U o,σ):=by
 have e1:=Em.dC (Em.aT.str o)
 unfold CL entry b9
 simp only[e1,fB (show pM o/\_ from⟨ho,hl⟩)]
def xX:List PD->Option (List UInt8)
 | [.int .i64 kind,.slice z xs .any]=>match rO xs with
   |some l=>dX (eG kind/\l.length<=1000000/\xs=aG l/\(l=[]\/z=1)) (some (iW kind l))
   |none=>none
 |_=>none
theorem GB{l:List UInt8}{z:Nat}{tok:Tok}(hz:l=[]\/z=1):PD.strip (.slice z (aG l) tok)=.slice (sz 1 l) (aG l) .any:=by
 rw[PD.lG]
 have h:(aG l).map PD.strip=aG l:=by
  unfold aG
  rw[List.map_map]
  rfl
 rw[h,iD]
 cases l with
 |nil=>rfl
 |cons b r=>
  rcases hz with h|h
  ·cases h
  ·rw[h];rfl
theorem aO5{kind:Int}(hk:eG kind){l:List UInt8}{z:Nat}{tok:Tok}(hz:l=[]\/z=1)(hl:l.length<=1000000)(fl:Nat)(σ:List aB) :
  fV 5 xX fl [.int .i64 kind,.slice z (aG l) tok] σ=some (.aF σ.length 0 0 (iW kind l).length 1,σ++[.row 5 1 0 (aG (iW kind l))]):=by
 have e:xX [.int .i64 kind,.slice (sz 1 l) (aG l) .any]=some (iW kind l):=by
  unfold xX
  simp only[zU]
  rw[fB ⟨hk,hl,trivial,by cases l<;>simp[sz]⟩]
 unfold fV
 simp only[List.map_cons,List.map_nil,GB hz,PD.strip,e,AA,if_neg (UC kind l)]
 rfl
def CO(σ:List aB)(k:Nat)(o:bY):Prop:=∃j v tO,σ[k]?=some (.box (.agg [.aF j v 0 (iW 0 (aW o)).length 1,.slice 0 [] .full,.slice 4 [Em.aT.U o] tO,.slice 0 [] .full,.slice 0 [] .full]))/\σ[j]?=some (.row 5 1 v (aG (iW 0 (aW o))))
variable{E E1 E2:aD}(hU:aI E)
include hU
theorem aO4(h0:E 52=none)(h1:E 51=some CJ)(h2:E 87=some (fV 5 xX))(h3:E 63=some CL)(o:bY)(ho:pM o)(hl:(aW o).length<=1000000)(τ:List aB) :
  aN prog E 0 (.inl 52) [Em.aT.U o] τ (fun p σ=>∃k,p=.ptr k 0/\τ.length<=k/\CO σ k o/\τ.length<=σ.length/\∀i,i<τ.length->σ[i]?=τ[i]?):=by
 have k1:∀σ,pT E 0 (.inl 51) [Em.aT.U o] σ=some (.slice 1 (aG (aW o)) .any,σ):=fun σ=>by
  have:=kQ (fl:=0) (σ:=σ) (τ:=[]) h1 (args:=[Em.aT.U o]) (fun fl=>by rw[yAl];exact UE (by omega) fl σ)
  simpa using this
 have k2:∀σ,pT E 0 (.inl 87) [.int .i64 0,.slice 1 (aG (aW o)) .any] σ=some (.aF σ.length 0 0 (iW 0 (aW o)).length 1,σ++[.row 5 1 0 (aG (iW 0 (aW o)))]):=fun σ=>kQ h2 (fun fl=>aO5 ⟨by decide,by decide⟩ (.inr rfl) hl fl σ)
 have k3:∀σ,pT E 0 (.inl 63) [Em.aT.U o] σ=some (Em.aT.U o,σ):=fun σ=>by
  have:=kQ (fl:=0) (σ:=σ) (τ:=[]) h3 (args:=[Em.aT.U o]) (fun fl=>by rw[yAl];exact aEn ho (by omega) fl σ)
  simpa using this
 obtain⟨on,rs,ds,cs⟩:=o
 unfold CO
 simp only[fH,bJ]at k1 k3
 simp only[fH,bJ]
 apply aN.aK h0 func52 rfl
 focus(simp[show Tryz.f52.ntmps=_ from rfl,List.replicate];rfl)
 clear hU
 have gx:=True.intro
 refine aC ?_
 clear gx
 refine Wp.seq (Wp.AB (by decide +kernel) ?_)
 have gx:=An @k1 (An @k2 (@k3))
 refine iN ?_
 clear gx
 apply SQ.nil
 have gx:=True.intro
 refine aC ?_
 clear gx
 exact⟨_,_,rfl,τ.length+2,rfl,by omega,⟨τ.length+1,0,.full,by simp,by simp⟩,by simp,fun i hi=>by rw[yAg hi]⟩
end
end Go.Kz
end
