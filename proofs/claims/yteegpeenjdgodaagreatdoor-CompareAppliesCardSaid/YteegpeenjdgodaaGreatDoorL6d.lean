/- Steps of the proof. -/
import Derived.Test.YteegpeenjdgodaaGreatDoorL6c
set_option linter.all false
set_option maxHeartbeats 40000000
set_option maxRecDepth 100000
open Go.Proofs.Tryz
noncomputable section
namespace Go.Kz
open Go Go.Proofs
structure rE where
 kind:Int
 div:Int
 idx:Int
 dQ:pF
 extra:Int
def bV.dQ:bV pF:=((bV.one KD).pair ((bV.one KE).pair (.one KF))).nK (λr=>(r.aR,r.aD,r.aP)) (λx y h=>Cr)
def Em.change:Em rE:=.agg (((bV.one i64).pair ((bV.one i64).pair ((bV.one i64).pair (bV.dQ.pair (.one kI))))).nK (λr=>(r.kind,r.div,r.idx,r.dQ,r.extra)) (λx y h=>Cr))
theorem zI{c:rE}:Em.change.aB c=.agg [.int .i64 c.kind,.int .i64 c.div,.int .i64 c.idx,KD.aB c.dQ.aR,KE.aB c.dQ.aD,KF.aB c.dQ.aP,.int .u8 c.extra]:=rfl
def zJ(c:rE):Prop:=yQ c.kind/\tA c.dQ/\mF c.dQ=true/\gG c.extra
def nV:List UInt8:=[78,101,119]
def gR(k:Int):Int:=if k<1 then -1 else if (k-1)%3=1/\(k-1)/3<4 then -1 else(k-1)/3
def vJ(o:aV):bI:=o.aD.getD (o.aD.length-1) cX
def mX(w:Int)(o:aV)(x:cF):cF:=
 if w=0 then { x with aL:={ o.aR.getD 0 dV with name:=nV } }
 else if w=1 then { x with frame:={ vJ o with name:=nV } }
 else if w=2 then(match (vJ o).stops with | []=>x|s::_=>{ x with stop:={ s with name:=nV } })
 else if w=3 then(match o.aP with | []=>x|c::_=>{ x with aZ:={ c with name:=nV } })
 else if w=4 then { x with idx:=0,name:=nV }
 else x
def F5(c:rE)(x:cF):cF:=if (7<=c.kind/\c.kind<=9)\/c.extra%8=1 then { x with div:=c.div }else x
def qA(e:Int)(x:cF):cF:=
 if e=2 then { x with name:=[120] }
 else if e=3 then { x with aL:={ x.aL with mG:=[1] } }
 else if e=4 then { x with aZ:={ x.aZ with shift:=x.aZ.shift+1 } }
 else if e=5 then { x with frame:={ x.frame with dO:=!x.frame.dO } }
 else x
def sM(c:rE):cF:=qA (c.extra%8) (F5 c (mX (gR c.kind) (fU c.dQ) ⟨c.kind,0,c.idx,[],dV,cX,eD,eU⟩))
theorem F6{p:pF}(hp:tA p)(hf:mF p=true):lA (fU p):=⟨aKo p hp hf,(aKp p hf).cL.fit⟩
def BS:Nat->List PD->List aA->Option (PD×List aA):=entry (cK Em.div Em.div λd=>dY (gT d) (some d))
theorem QN{d:bI}(h:gT d)(fl:Nat)(σ:List aA):BS fl [Em.div.aB d] σ=some (Em.div.aB d,σ):=by
 have e1:=Em.cT (Em.div.str d);unfold BS entry cK;simp only[e1,fM h]
theorem aKq(d:bI)(hd:gT d):RunT prog BT 40 [Em.div.aB d] (Em.div.aB d):=by
 obtain⟨p,σ,h1,⟨iS,ss,tG,tgs,tW,rfl,hV,_,_⟩⟩:=(aDA d hd []).ex;have hl:cO Em.stop 4 j8 σ (Go.Kz.hb 4 iS (d.stops.length-1) d.stops.length) d.stops:=by
  refine BU.oI (e:=56) (R:=oJ) ⟨ss,?_,uB hV.len λi hi=>⟨_,(hV.at_ i hi).1,rfl⟩,eV.of hV.len λi h1 h2=>?_⟩ Cn (λt ht=>ht)
  .by_cases h0:d.stops=[]
   .have hd:ss=[]:=yAf (by rw[hV.len,h0];rfl);exact .inl ⟨hd,0,.full,by rw[h0];rfl⟩
   .have hp:0<d.stops.length:=yCo.2 h0;exact .inr ⟨λe=>by have:=hV.len;rw[e]at this;simp at this;omega,iS,d.stops.length-1,by rw[BV hp,hV.len],(hV.row hp).2⟩
  .have e:=(yA.1 (hV.at_ i h2).1).2;rw[e];exact λσ' k=>((hV.at_ i h2).2.wS σ' k).up Cj
 obtain⟨a1,a2⟩:=hl.bF σ (λ_ _ _ _ _ _ h=>h) 11;refine⟨20,_,σ,h1,?_,?_⟩
 .show PD.agg [.str d.name,.bool d.dO,.int .i64 d.low,.int .i64 d.high,PD.strip (bF σ 19 _)]=_
  rw[a1];rfl
 .show(true&&(true&&(true&&(true&&(PD.bY (bF σ 19 _)&&true)))))=true
  rw[a2];rfl
theorem QO{x:cF}(h:yQ x.kind){Y:PD}(hY:Y.strip=Em.edit.aB x)(fl:Nat)(σ:List aA):rM fl [Y] σ=some (.aH [.int .i64 ((IntKind.i64.wrap (x.kind-1)).tdiv 3),.int .i64 ((IntKind.i64.wrap (x.kind-1)).tmod 3)],σ):=by
 have e1:=Em.cT hY;unfold rM entry cK;exact uc
end Go.Kz
end
