/- Steps of the proof. -/
import Derived.Test.YtnogdlnjafblaaaGreatDoorG7
import Derived.Test.YtnogdlnjafblaaaGreatDoorL0
import Derived.Test.YtnogdlnjafblaaaGreatDoorP6
set_option linter.all false
set_option maxHeartbeats 40000000
set_option maxRecDepth 100000
open Go.Proofs.Tryz
noncomputable section
namespace Go.Kz
open Go Go.Proofs
section
variable{E:aE}(hU:aF E)
include hU
set_option maxRecDepth 10000
end
section
variable{E:aE}(hU:aF E)
include hU
set_option maxRecDepth 10000
end
section
variable{E:aE}(hU:aF E)
include hU
set_option maxRecDepth 10000
end
def C6:List UInt8:=[111,114,103,97,110,32,79,10,114,97,110,107,32,80,32,116,111,110,101,32,112,114,105,110,99,105,112,97,108,32,102,101,101,116,32,56,39,32,102,105,114,115,116,32,51,54,32,119,105,110,100,32,53,32,53,32,52,10,100,105,118,105,115,105,111,110,32,71,114,101,97,116,32,107,101,121,115,32,51,54,32,51,56,10,115,116,111,112,32,80,114,105,110,99,105,112,97,108,32,102,101,101,116,32,56,39,10,107,101,121,115,32,51,54,32,51,56,10,100,114,97,119,32,80,32,48,10]
def rL:eG:=⟨[79],[⟨[80],[112,114,105,110,99,105,112,97,108],8,1,36,[5,5,4]⟩],[⟨[71,114,101,97,116],false,36,38,[⟨[80,114,105,110,99,105,112,97,108],8,1,[⟨36,38,[⟨0,0⟩]⟩]⟩]⟩],[]⟩
theorem aEX:gI rL=0:=xo
theorem XJ:vZ rL=C6:=xo
theorem aUV:vY C6=(rL,(0,0),0):=by
 rw[<-XJ];exact aU0 aEX xo Bo
theorem aUW:vY (C6++[115,116,111,112,10])=(FF,(7,5),15):=xo
theorem aUX:KR rL=(C6,0):=by
 unfold KR;rw[yAI (by rw[aEX];decide),yAI xo,yAI Bo,XJ]
theorem aUY:XI rL=([[71,114,101,97,116,58,32,80,114,105,110,99,105,112,97,108,32,56,39]],0):=xo
theorem aUZ:MK (8,3)=([50,45,50,47,51,39],0):=xo
section
def aA5:Nat->List PD->List U->Option (PD×List U):=entry (aX .text (Em.fC.J8 .pos i64) λs=>bJ ((s.length:Int)<4000000000) (some (vY s)))
theorem aKv{s:Bx}(h:(s.length:Int)<4000000000){o:eG}{p1 p2 e:Int}(hS:vY s=(o,(p1,p2),e))(fl:Nat)(σ:List U):aA5 fl [.str s] σ=some (.aK [Em.fC.aA o,.agg [.int .i64 p1,.int .i64 p2],.int .i64 e],σ):=by
 have e1:Em.text.dec (.str s)=some s:=Em.cR rfl;unfold aA5 entry aX;exact ob
def aA3:Nat->List PD->List U->Option (PD×List U):=entry (aX Em.fC (Em.text.gP i64) λo=>bJ (aBd o) (some (KR o)))
theorem aUR{o:eG}(h:aBd o){s:Bx}{e:Int}(hS:KR o=(s,e))(fl:Nat)(σ:List U):aA3 fl [Em.fC.aA o] σ=some (.aK [.str s,.int .i64 e],σ):=by
 have e1:=Em.cR (Em.fC.str o);unfold aA3 entry aX;exact ob
def aA4:Nat->List PD->List U->Option (PD×List U):=entry (aX Em.fC (texts.gP i64) λo=>bJ (FE o) (some (XI o)))
theorem aUS{o:eG}(h:FE o){s:List (List UInt8)}{e:Int}(hS:XI o=(s,e))(fl:Nat)(σ:List U):aA4 fl [Em.fC.aA o] σ=some (.aK [texts.aA s,.int .i64 e],σ):=by
 have e1:=Em.cR (Em.fC.str o);unfold aA4 entry aX;exact ob
def W6:Nat->List PD->List U->Option (PD×List U):=entry (aX Em.mS (Em.text.gP i64) λx=>some (MK x))
theorem aBc{x y:Int}{s:Bx}{e:Int}(hS:MK (x,y)=(s,e))(fl:Nat)(σ:List U):W6 fl [.agg [.int .i64 x,.int .i64 y]] σ=some (.aK [.str s,.int .i64 e],σ):=by
 have e1:Em.mS.dec (.agg [.int .i64 x,.int .i64 y])=some (x,y):=Em.cR (Em.mS.str (x,y));unfold W6 entry aX;simp only[e1,hS];rfl
def gEx:Nat->List PD->List U->Option (PD×List U):=entry λargs=>match args with
 | []=>some (.str C6)
 |_=>none
theorem aUT(fl:Nat)(σ:List U):gEx fl [] σ=some (.str C6,σ):=rfl
def gKn:Nat->List PD->List U->Option (PD×List U):=entry λargs=>match args with
 | []=>some (.bool true)
 |_=>none
theorem aUQ(fl:Nat)(σ:List U):gKn fl [] σ=some (.bool true,σ):=rfl
theorem aKw:FE rL:=by
 have hR:gI rL=0:=aEX;refine⟨by simp[jD,rL],⟨λr hr=>?_,by simp[rL]⟩,⟨by simp[rL],λd hd=>?_⟩,by simp[rL],λc hc=>by cases hc⟩
 .simp only[rL,yAS,yBh,yBi]at hr;subst hr;exact⟨by simp[okR,okI],by simp[jD],by simp[jD]⟩
 .simp only[rL,yAS,yBh,yBi]at hd;subst hd;refine⟨by simp[jD],wz,λs hs=>?_⟩;simp only[yAS,yBh,yBi]at hs;subst hs;refine⟨⟨wz,λg hg=>?_⟩,by simp[jD]⟩;simp only[yAS,yBh,yBi]at hg;subst hg;simp[okG,aIT]
theorem aUU:aBd rL:=⟨aKw,λ_=>⟨Bo,xo⟩⟩
variable{E:aE}(hU:aF E)
include hU
set_option maxRecDepth 10000
theorem aT5(h0:E 18=none):aI prog E 18 [] (.str C6):=by
 refine aI.aU 1 h0 func18 (h:=?_);refine aD trivial ?_;simp(disch:=first|omega|(simp;done)|(simp;omega)) [yAu,C6]<;>try rfl
theorem aT7(h0:E 11=none)(h1:E 16=some aA5)(h2:E 26=some aA3)(h3:E 21=some aA4)(h4:E 12=some W6)(h5:E 18=some gEx):aI prog E 11 [] (.bool true):=by
 have p1:=aKv (s:=C6) xo aUV;have p2:=aKv (s:=C6++[115,116,111,112,10]) xo aUW;have p3:=aUR aUU aUX;have p4:=aUS aKw aUY;have p5:=aBc aUZ;have hx:=aUT;have hl:C6.length<=1000:=xo;obtain⟨T,hT⟩:=gn (C6);rw[hT]at p1 p2 p3 hx hl;obtain⟨on,rs,ds,cs,ho,hr,hd⟩:∃on rs ds cs,rL=⟨on,rs,ds,cs⟩/\rs.length=1/\ds.length=1:=⟨_,_,_,_,rfl,rfl,rfl⟩;rw[ho]at p1 p3 p4;simp only[FF,E5,gA,yB,yBP]at p1 p2 p3 p4;refine aI.aU 96 h0 func11 (h:=?_);refine aD (A13 h1 h2 h3 h4 h5 p1 p2 p3 p4 p5 hx hr hd) ?_;exact aa
end
section
theorem aEV:∀(L:List (List UInt8)) (ln:Int) (out:List Tk),oB (L++[[]]) ln out=oB L ln out
 | [],ln,out=>by simp[oB,jK]
 |l::L,ln,out=>by
  rw[yAR];unfold oB;split
  .rfl
  .split
   .exact aEV L _ _
   .split
    .rfl
    .exact aEV L _ _
theorem aUO{s:Bx}(h:s.length<65536):jZ (s++[10])=jZ s:=by
 unfold jZ;rw[yAI ye,yAI xb,show s++[10]=s++10::[]from rfl,aKr];exact aEV _ _ _
theorem aUP{x y:Int}(h:kS x y=0)(hx:0<=x):∃a b,jZ (pN (x,y))=([a,b],(0,0),0)/\a.kind=3/\a.cB=(x,y):=by
 obtain⟨h1,h2,h3,h4,h5⟩:=SZ h;have hlen:(pN (x,y)).length<=41:=by
  have hg:x.toNat.gcd y.toNat=1:=by
   have:x.natAbs=x.toNat:=xb;rw[<-this];exact h5
  have:=(OV hg xb xb xb []).2.2.1;simp only[pN,yAa,yBb];omega
 have hG:OW [[fT x y]]:=by
  intro l hl;simp only[yAS,yBh,yBi]at hl;subst hl;refine⟨wz,λt ht=>?_⟩;simp only[yAS,yBh,yBi]at ht;subst ht;exact aKs h hx
 have e:jC [[fT x y]]=pN (x,y)++[10]:=by simp[jC,j4,XG]
 obtain⟨b,b1,b2,b3⟩:=aKt hG (by simp[bE]) (by rw[e,yAa,yBb];omega);rw[e,aUO xb]at b1
 match b,b1,b2,b3 with
 | [t,u],b1,b2,_=>
   refine⟨t,u,b1,?_⟩;obtain⟨v,hv,he⟩:=b2 0 (fT x y) rfl;simp only[yBU,yBv,yAb]at hv;subst hv;obtain⟨e1,_,_,e4⟩:=OX he;exact⟨e1,e4⟩
 | [],_,_,b3=>simp[bE]at b3
 | [t],_,_,b3=>simp[bE]at b3
 |t::u::v::r,_,_,b3=>simp[bE]at b3
variable{E:aE}(hU:aF E)
include hU
set_option maxRecDepth 10000
theorem aNQ(h0:E 3=none)(h1:E 11=some gKn)(h2:E 12=some W6)(h3:E 13=some R9)(h4:E 14=some SB)(h5:E 15=some H7)(x:CG) :
  aI prog E 3 [Em.mS.aA x] (.bool true):=by
 obtain⟨x,y⟩:=x;have gk:=aUQ;have gf:=aEW x y;show aI prog E 3 [.agg [.int .i64 x,.int .i64 y]] (.bool true)
 by_cases c1:kS x y=0
 .rw[c1]at gf;obtain⟨k1,k2,k3,k4,k5⟩:=SZ c1
  by_cases c2:x<0
  .have gd:=aBc (x:=x) (y:=y) (s:=[]) (e:=3) (by simp[MK,c1,c2]);refine aI.aU 72 h0 func3 (h:=?_);refine aD (A7 h1 gk h2 gd h3 gf c2) ?_;exact aa
  .have gd:=aBc (x:=x) (y:=y) (s:=pN (x,y)) (e:=0) (by simp[MK,c1,c2]);obtain⟨a,b,hs,ha,hb⟩:=aUP c1 xb;have gp:=XH (x:=x) (y:=y) ⟨⟨zi,k4⟩,k1,k2⟩;have hlen:((pN (x,y)).length:Int)<4000000000:=by
    exact fu
   have gs:=aKu hlen hs;obtain⟨FT,hFT⟩:=gn (pN (x,y));rw[hFT]at gd gp gs;obtain⟨a1,a2,a3,⟨a4,a5⟩,a6,a7⟩:=a;simp only[yAc]at ha hb;obtain⟨rfl,rfl⟩:=hb;subst ha;obtain⟨b1,b2,b3,⟨b4,b5⟩,b6,b7⟩:=b;simp only[gA,yB,yBP,FC]at gs;refine aI.aU 72 h0 func3 (h:=?_);refine aD (A11 h1 gk h2 gd h3 gf c2 h4 @gs h5 gp) ?_;exact aa
 .obtain⟨e,he⟩:=gn (kS x y);rw[he]at c1 gf;have gd:=aBc (x:=x) (y:=y) (s:=[]) (e:=e) (by simp[MK,he,c1]);refine aI.aU 72 h0 func3 (h:=?_);refine aD (A7 h1 gk h2 gd h3 gf c1) ?_;exact aa
end
section
set_option maxRecDepth 10000
def aEt:aE:=aE.nil
theorem aT9:aF aEt:=aF.none
theorem aUa:aH prog aEt:=⟨λ_ hg=>Ay,λ_ hg=>Ay⟩
theorem aUb{E:aE}(hU:aF E)(h0:E 36=none){x y:Int}(h:0<=x/\x<=9223372036854775807/\0<=y/\y<=9223372036854775807):aI prog E 36 [u64.aA x,u64.aA y] (u64.aA ((x.toNat.gcd y.toNat:Nat):Int)):=by
 obtain⟨a,rfl⟩:∃a:Nat,x=a:=⟨x.toNat,xb⟩;obtain⟨b,rfl⟩:∃b:Nat,y=b:=⟨y.toNat,xb⟩;rw[yBq,yBq];exact aQy hU h0 a b xb xb
theorem aUc{E:aE}(hU:aF E)(h0:E 121=none)(h1:E 37=some (entry (aX i64 u64 λn=>bJ (0<=n/\n<=9223372036854775807) (some n))))
  (h2:E 36=some (entry (cV u64 u64 u64 λa b=>bJ (0<=a/\a<=9223372036854775807/\0<=b/\b<=9223372036854775807) (some (a.toNat.gcd b.toNat:Nat)))))
  {x y:Int} (h:0<=x/\x<=9000000000000000000/\0<y/\y<=9000000000000000000):aI prog E 121 [i64.aA x,i64.aA y] ((Em.mS.gP i64).aA (jI x.toNat y.toNat)):=by
 obtain⟨a,rfl⟩:∃a:Nat,x=a:=⟨x.toNat,xb⟩;obtain⟨b,rfl⟩:∃b:Nat,y=b:=⟨y.toNat,xb⟩;exact aQz hU h0 h1 h2 a b xb xb xb
def aEu:aE:=aEt.add 38 (entry (cV .text .text texts λs c=>bJ (c=[10]/\(s.length:Int)<4000000000) (some (gB s))))
theorem aUd:aF aEu:=aT9.entry
theorem aUe:aH prog aEu:=aQK aUa
def aEv:aE:=aEu.add 40 (entry (aX i64 .text λn=>bJ (-9223372036854775808<=n/\n<=9223372036854775807) (some (Lib.itoa n))))
theorem aUf:aF aEv:=aUd.entry
theorem aUg:aH prog aEv:=aJn aUe
def aEw:aE:=aEv.add 82 (entry (cV .text u8 i64 λs n=>bJ (0<=n/\n<=255) (some (Lib.indexByte s n.toNat.toUInt8))))
theorem aUh:aF aEw:=aUf.entry
theorem aUi:aH prog aEw:=aQL aUg
def aEx:aE:=aEw.add 83 (entry (cV .text .text .bool λs t=>some (Lib.hasPrefix s t)))
theorem aUj:aF aEx:=aUh.entry
theorem aUk:aH prog aEx:=aQM aUi
def aEy:aE:=aEx.add 122 (entry (cV .text .text .text λs t=>some (Lib.trimPrefix s t)))
theorem aJ8:aF aEy:=aUj.entry
theorem aUl:aH prog aEy:=aQN aUk
def aEz:aE:=aEy.add 75 (entry (aX u8 .bool λn=>some (lS n)))
theorem aJ9:aF aEz:=aJ8.entry
theorem aUm:aH prog aEz:=aUl.iN follows (λx z hz=>by simp only[yAb]at hz;subst hz;exact aQH aJ8 rfl x)
def aEA:aE:=aEz.add 78 (entry (aX u8 .bool λn=>some (bT n)))
theorem aKa:aF aEA:=aJ9.entry
theorem aUn:aH prog aEA:=aUm.iN follows (λx z hz=>by simp only[yAb]at hz;subst hz;exact aQI aJ9 rfl x)
def aEB:aE:=aEA.add 77 (entry (aX u8 .bool λn=>some (mZ n)))
theorem aKb:aF aEB:=aKa.entry
theorem aUo:aH prog aEB:=aUn.iN follows (λx z hz=>by simp only[yAb]at hz;subst hz;exact aQJ aKa rfl rfl rfl x)
def aEC:aE:=aEB.add 76 (entry cC)
theorem aKc:aF aEC:=aKb.entry
theorem aUp:aH prog aEC:=aQA aKb aUo rfl rfl rfl
def aED:aE:=aEC.add 79 (entry (aX .text (Em.parts.gP i64) λs=>bJ ((s.length:Int)<4000000000) (some (cE s))))
theorem aKd:aF aED:=aKc.entry
theorem aUq:aH prog aED:=aUp.iN follows (λx z hz=>by obtain⟨hg,hz⟩:=dF hz;simp only[yAb]at hz;subst hz;exact aQB aKc rfl rfl x hg)
def aEE:aE:=aED.add 120 (entry (cV .text i64 (i64.gP .bool) λs m=>bJ (fN s/\0<=m/\m<=2000000000/\(s.length:Int)<4000000000) (some (kI s m))))
theorem aKe:aF aEE:=aKd.entry
theorem aUr:aH prog aEE:=aUq.CP follows (λx y z hz=>by obtain⟨hg,hz⟩:=dF hz;simp only[yAb]at hz;subst hz;exact aQF aKd rfl x y hg.1 hg.2.1 hg.2.2.1 hg.2.2.2)
def aEF:aE:=aEE.add 37 (entry (aX i64 u64 λn=>bJ (0<=n/\n<=9223372036854775807) (some n)))
theorem aKf:aF aEF:=aKe.entry
theorem aUs:aH prog aEF:=aUr.iN follows (λx z hz=>by obtain⟨hg,hz⟩:=dF hz;simp only[yAb]at hz;subst hz;exact aQx aKe rfl x hg.1 hg.2)
def aEG:aE:=aEF.add 36 (entry (cV u64 u64 u64 λa b=>bJ (0<=a/\a<=9223372036854775807/\0<=b/\b<=9223372036854775807) (some (a.toNat.gcd b.toNat:Nat))))
theorem aKg:aF aEG:=aKf.entry
theorem aUt:aH prog aEG:=aUs.CP follows (λx y z hz=>by obtain⟨hg,hz⟩:=dF hz;simp only[yAb]at hz;subst hz;exact aUb aKf rfl hg)
def aEH:aE:=aEG.add 121 (entry (cV i64 i64 (Em.mS.gP i64) λn d=>bJ (0<=n/\n<=9000000000000000000/\0<d/\d<=9000000000000000000) (some (jI n.toNat d.toNat))))
theorem aKh:aF aEH:=aKg.entry
theorem aUu:aH prog aEH:=aUt.CP follows (λx y z hz=>by obtain⟨hg,hz⟩:=dF hz;simp only[yAb]at hz;subst hz;exact aUc aKg rfl rfl rfl hg)
def aEI:aE:=aEH.add 80 (entry (aX .parts (Em.tk.gP i64) λp=>bJ (fN p.1/\fN p.2.1/\fN p.2.2/\(p.1.length:Int)<4000000000/\(p.2.1.length:Int)<4000000000/\(p.2.2.length:Int)<4000000000) (some (gZ p))))
theorem aKi:aF aEI:=aKh.entry
theorem aUv:aH prog aEI:=aUu.iN follows (λx z hz=>by obtain⟨hg,hz⟩:=dF hz;simp only[yAb]at hz;subst hz;exact aUw aKh rfl rfl rfl rfl x hg.1 hg.2.1 hg.2.2.1 hg.2.2.2.1 hg.2.2.2.2.1 hg.2.2.2.2.2)
def aEJ:aE:=aEI.add 81 (entry (aX .text (Em.tk.gP i64) λs=>bJ (0<s.length/\fN (Lib.trimPrefix s [45])/\(s.length:Int)<4000000000) (some (iR s))))
theorem aKj:aF aEJ:=aKi.entry
theorem aUx:aH prog aEJ:=aUv.iN follows (λx z hz=>by obtain⟨hg,hz⟩:=dF hz;simp only[yAb]at hz;subst hz;exact aUy aKi rfl rfl rfl rfl x hg.1 hg.2.1 hg.2.2)
def aEK:aE:=aEJ.add 39 (entry (aX .text (Em.tk.J8 i64 i64) λs=>bJ (0<s.length/\(s.length:Int)<4000000000) (some (cY s))))
theorem aUz:aF aEK:=aKj.entry
theorem aUA:aH prog aEK:=aUx.iN follows (λx z hz=>by obtain⟨hg,hz⟩:=dF hz;simp only[yAb]at hz;subst hz;exact aUB aKj rfl rfl rfl rfl rfl rfl rfl rfl rfl x hg.1 hg.2)
def aUC:aE:=aEK.add 14 (entry (aX .text (cM.J8 .pos i64) λs=>bJ ((s.length:Int)<4000000000) (some (jZ s))))
theorem aSw:aH prog aUC:=aUA.iN follows (λx z hz=>by obtain⟨hg,hz⟩:=dF hz;simp only[yAb]at hz;subst hz;exact aUD aUz rfl rfl rfl x hg)
end
theorem aH.aIV{E:aE}(hE:aH prog E){β:Type}{r:Em β}{F:List Int->β}{f:FuncId}(h:∀l:List Int,l.length<=1000000->aI prog E f [mM.aA l,.func 140 []] (r.aA (F l))) :
  aH prog (E.add f (entry (λargs=>match args with | [p,.func g []]=>if g=140 then aX mM r (λl=>bJ (l.length<=1000000) (some (F l))) [p]else none|_=>none))):=by
 refine hE.Q8 follows λargs p hg=>?_
 split at hg
 rotate_left
 .cases hg
 rename_i p1 g1;split at hg
 rotate_left
 .cases hg
 rename_i e;subst e;simp only[aX]at hg;split at hg
 rotate_left
 .cases hg
 rename_i x hx;split at hg
 rotate_left
 .cases hg
 rename_i z hz;simp only[yAb]at hg;subst hg;obtain⟨rx,e⟩:=dF hz;cases e;have e1:=Em.JW hx;obtain⟨p2,σ2,h1,h2⟩:=h x rx;exact⟨p2,σ2,by simpa [e1,PD.strip]using h1,h2,by simp only[yB,yBP,e1,PD.fG,mM.eR];rfl,r.eR _⟩
theorem aQ2:∀args p,KM 0 args []≠some (p,[]):=by
 intro args p h;unfold KM at h;split at h
 .exact ah
 .cases h
theorem aIW(F:List UInt8->List eF->PD):∀args p,vV F 0 args []≠some (p,[]):=by
 intro args p h;unfold vV at h
 repeat' split at h
 all_goals first|(cases h;done)|(simp_all;done)
theorem aQ3:∀args p,E6 0 args []≠some (p,[]):=by
 intro args p h;unfold E6 at h
 repeat' split at h
 all_goals first|(cases h;done)|(simp_all;done)
theorem aQ4{E:aE}(hU:aF E)(hE:aH prog E)(h0:E 126=none):aH prog (E.add 126 (entry (aX cM cM λl=>bJ (l.length<=100000) (some l)))):=by
 refine hE.addCases follows λargs p hg=>?_
 unfold aX at hg;split at hg
 .rename_i x;split at hg
  .rename_i l hx;split at hg
   .rename_i z hz;obtain⟨hl,hz⟩:=dF hz;simp only[yAb]at hg hz;subst hg hz;have hs:=Em.JW hx;refine⟨by simp only[yB,yBP,hs,PD.fG,yCc];exact cM.eR l,cM.eR l,λc vs hv=>?_⟩;simp only[yB,yBP,hs]at hv
    by_cases hl0:l=[]
    .subst hl0;rcases aQ5 (n:=0) hv with h|h
     .exact⟨_,h,aQ6 hU h0⟩
     .exact⟨_,h,aQ7 hU h0⟩
    .exact⟨_,hv,aQ8 hU h0 l hl0 hl⟩
   .cases hg
  .cases hg
 .cases hg
theorem aQ9{E:aE}(hU:aF E)(hE:aH prog E)(h0:E 154=none):aH prog (E.add 154 (dO MF)):=hE.RV follows λargs p hg=>by
 unfold MF at hg;split at hg
 .rename_i s n;split at hg
  .rename_i l hd;obtain⟨⟨e,h1,h2,h3⟩,dX⟩:=dF hg;simp only[yAb]at dX;subst e dX;obtain⟨k,rfl⟩:∃k:Nat,n=k:=⟨n.toNat,xb⟩;rw[yBq];exact⟨aRa hU h0 l k xb h3,zo,Av⟩
  .cases hg
 .simp only[yAb]at hg;subst hg;exact⟨aRb hU h0,rfl,Av⟩
 .cases hg
theorem aRc{E:aE}(hU:aF E)(hE:aH prog E)(h0:E 134=none):aH prog (E.add 134 (dO RY)):=hE.RV follows λargs p hg=>by
 unfold RY at hg;split at hg
 .rename_i s n;split at hg
  .rename_i l hd;obtain⟨⟨e,h1,h2,h3⟩,dX⟩:=dF hg;simp only[yAb]at dX;subst e dX;obtain⟨k,rfl⟩:∃k:Nat,n=k:=⟨n.toNat,xb⟩;rw[yBq];exact⟨aRd hU h0 l k xb h3,zo,Av⟩
  .cases hg
 .simp only[yAb]at hg;subst hg;exact⟨aRe hU h0,rfl,Av⟩
 .cases hg
theorem aRf{E:aE}(hU:aF E)(hE:aH prog E)(h0:E 94=none):aH prog (E.add 94 (dO OM)):=hE.RV follows λargs p hg=>by
 unfold OM at hg;split at hg
 .rename_i s n;split at hg
  .rename_i l hd;obtain⟨⟨e,h1,h2,h3⟩,dX⟩:=dF hg;simp only[yAb]at dX;subst e dX;obtain⟨k,rfl⟩:∃k:Nat,n=k:=⟨n.toNat,xb⟩;exact⟨aRg hU h0 l k xb h3,zo,rfl⟩
  .cases hg
 .simp only[yAb]at hg;subst hg;exact⟨aRh hU h0,rfl,rfl⟩
 .cases hg
theorem aRi{E:aE}(hU:aF E)(hE:aH prog E)(h0:E 155=none):aH prog (E.add 155 (dO ON)):=hE.RV follows λargs p hg=>by
 unfold ON at hg;split at hg
 .split at hg
  .obtain⟨e,dX⟩:=dF hg;simp only[yAb]at dX;subst e dX;exact⟨aRj hU h0 _ _,by simp[PD.fG,PD.dK],rfl⟩
  .cases hg
 .cases hg
theorem aRk{E:aE}(hU:aF E)(hE:aH prog E)(h0:E 175=none):aH prog (E.add 175 (dO OO)):=hE.RV follows λargs p hg=>by
 unfold OO at hg;split at hg
 .split at hg
  .obtain⟨e,dX⟩:=dF hg;simp only[yAb]at dX;subst e dX;exact⟨aRl hU h0 _,by simp[PD.fG,PD.dK],rfl⟩
  .cases hg
 .cases hg
theorem aRm{E:aE}(hU:aF E)(hE:aH prog E)(h0:E 129=none):aH prog (E.add 129 (dO (OP 1))):=hE.RV follows λargs p hg=>by
 unfold OP at hg;split at hg
 .split at hg
  .obtain⟨e,dX⟩:=dF hg;simp only[yAb]at dX;subst e dX;exact⟨aRn hU h0 _ _,by simp[PD.fG,PD.dK],rfl⟩
  .cases hg
 .cases hg
theorem aRo:∀args p,CZ 0 args []≠some (p,[]):=by
 intro args p h;unfold CZ at h
 repeat' split at h
 all_goals first|(cases h;done)|(simp_all;done)
theorem aRp:∀args p,H0 0 args []≠some (p,[]):=by
 intro args p h;unfold H0 E7 at h
 repeat' split at h
 all_goals first|(cases h;done)|(simp_all;done)
theorem aRq:∀args p,H2 0 args []≠some (p,[]):=by
 intro args p h;unfold H2 E7 at h
 repeat' split at h
 all_goals first|(cases h;done)|(simp_all;done)
theorem aRr:∀args p,KN 0 args []≠some (p,[]):=by
 intro args p h;unfold KN at h
 repeat' split at h
 all_goals first|(cases h;done)|(simp_all;done)
theorem aRs:∀args p,MG 0 args []≠some (p,[]):=by
 intro args p h;unfold MG at h
 repeat' split at h
 all_goals first|(cases h;done)|(simp_all;done)
def DrQ(args:List PD)(σ:List U)(p:PD)(σ':List U):Prop:=∃l,args=[cM.aA l]/\WR (jA l 0) Em.fC.aA 4 σ p σ'
def DsQ(args:List PD)(σ:List U)(p:PD)(σ':List U):Prop:=∃ns l,args=[texts.aA ns,cM.aA l]/\WR (aRt ns l 0) Em.stop.aA 4 σ p σ'
theorem aIX{P:Program}{E:aE}{f:FuncId}{Q:List PD->List U->PD->List U->Prop}{fl:Nat}{args:Bw}{σ σ':Bv}{p:PD}(h:KO P E f Q fl args σ=some (p,σ')):Q args σ p σ':=by
 unfold KO at h;split at h
 .rename_i hx;simp only[yAb,yAc]at h;obtain⟨rfl,rfl⟩:=h;exact hx.2.choose_spec.2
 .cases h
theorem aRu{args:Bw}{p:PD}:¬DrQ args [] p []:=λ⟨_,_,_,h,_⟩=>yp
theorem aRv{args:Bw}{p:PD}:¬DsQ args [] p []:=λ⟨_,_,_,_,h,_⟩=>yp
theorem aRw{a b:List Tk}(h:cM.aA a=cM.aA b):a=b:=by
 have e1:=Em.cR (Em.str cM a);have e2:=Em.cR (Em.str cM b);rw[h,e2]at e1;exact(yBr e1).symm
theorem aRx(a b:List PD->Option PD):RZ (entry a) (entry b)=entry (λargs=>match a args with|some p=>some p|none=>b args):=by
 funext fl args σ
 unfold RZ entry
 dsimp only
 cases a args<;>rfl
theorem aRy{E:aE}(hU:aF E):aF (E.add 45 R0):=by
 unfold R0 E8 R7;rw[aRx];exact hU.entry
def Dt0:aE:=aE.nil
theorem aIY:aH prog Dt0:=⟨λ_ hg=>Ay,λ_ hg=>Ay⟩
theorem aDJ:aF Dt0:=aF.none
def DtJ:aE:=Dt0.add 45 R7
theorem aRz:aH prog DtJ:=aIY.CP follows λx y z hz=>by
 obtain⟨h,e⟩:=dF hz;cases e;subst h;exact aRA aDJ rfl y
def Dt1:aE:=Dt0.add 104 aAP
theorem aRB:aH prog Dt1:=aIY.iN follows λx z hz=>by cases hz;exact aRC aDJ rfl x
theorem aIZ:aF Dt1:=aDJ.entry
def Dt2:aE:=Dt1.add 49 OQ
theorem aRD:aH prog Dt2:=aRB.iN follows λx z hz=>by obtain⟨h,e⟩:=dF hz;cases e;exact aRE aIZ rfl rfl x h
theorem aI0:aF Dt2:=aIZ.entry
def Dt3:aE:=Dt2.add 108 R8
theorem aRF:aH prog Dt3:=aRD.iN follows λx z hz=>by cases hz;exact aRG aI0 rfl x.1 x.2
theorem aI1:aF Dt3:=aI0.entry
def Dt4:aE:=Dt3.add 36 aAQ
theorem aRH:aH prog Dt4:=aRF.CP follows λx y z hz=>by
 obtain⟨h,e⟩:=dF hz;cases e;obtain⟨a,rfl⟩:∃a:Nat,x=a:=⟨x.toNat,xb⟩;obtain⟨b,rfl⟩:∃b:Nat,y=b:=⟨y.toNat,xb⟩;rw[yBq,yBq];exact aRI aI1 rfl a b xb xb
theorem aI2:aF Dt4:=aI1.entry
def Dt5:aE:=Dt4.add 37 aAR
theorem aRJ:aH prog Dt5:=aRH.iN follows λx z hz=>by obtain⟨h,e⟩:=dF hz;cases e;exact aRK aI2 rfl x h
theorem aI3:aF Dt5:=aI2.entry
def Dt6:aE:=Dt5.add 13 R9
theorem aRL:aH prog Dt6:=aRJ.iN follows λx z hz=>by cases hz;exact aRM aI3 rfl rfl rfl x.1 x.2
theorem aI4:aF Dt6:=aI3.entry
def Dt7:aE:=Dt6.add 105 WS
theorem aRN:aH prog Dt7:=aRL.iN follows λx z hz=>by cases hz;exact aRO aI4 rfl rfl x.1 x.2
theorem aI5:aF Dt7:=aI4.entry
def Dt8:aE:=Dt7.add 140 aAS
theorem aRP:aH prog Dt8:=aRN.iN follows λx z hz=>by cases hz;exact aRQ aI5 rfl x
theorem aI6:aF Dt8:=aI5.entry
def Dt9:aE:=Dt8.add 164 aAT
theorem aRR:aH prog Dt9:=aRP.aIV λl hl=>aRS aI6 rfl rfl l hl
theorem aI7:aF Dt9:=aI6.entry
def aDK:aE:=Dt9.add 139 aAU
theorem aRT:aH prog aDK:=aRR.aIV λl hl=>aRU aI7 rfl rfl l hl
theorem aI8:aF aDK:=aI7.entry
def aDL:aE:=aDK.add 107 gWi
theorem aRV:aH prog aDL:=aRT.iN follows λx z hz=>by obtain⟨h,e⟩:=dF hz;cases e;exact aRW aI8 rfl rfl x h
theorem aI9:aF aDL:=aI8.entry
def aDM:aE:=aDL.add 106 gFi
theorem aRX:aH prog aDM:=aRV.iN follows λx z hz=>by cases hz;exact aRY aI9 rfl x
theorem aJa:aF aDM:=aI9.entry
def aDN:aE:=aDM.add 50 WT
theorem aRZ:aH prog aDN:=aRX.iN follows λx z hz=>by obtain⟨h,e⟩:=dF hz;cases e;exact aR0 aJa rfl rfl rfl rfl rfl x h.1 h.2.1 h.2.2
theorem aJb:aF aDN:=aJa.entry
def aDO:aE:=aDN.add 184 aAV
theorem aR1:aH prog aDO:=aRZ.CP follows λx y z hz=>by obtain⟨h,e⟩:=dF hz;cases e;exact aR2 aJb rfl x y h
theorem aJc:aF aDO:=aJb.entry
def aDP:aE:=aDO.add 165 aAW
theorem aR3:aH prog aDP:=aR1.CP follows λx y z hz=>by obtain⟨h,e⟩:=dF hz;cases e;exact aR4 aJc rfl rfl x y h
theorem aJd:aF aDP:=aJc.entry
def aDQ:aE:=aDP.add 142 gDr
theorem aR5:aH prog aDQ:=aR3.CP follows λx y z hz=>by obtain⟨h,e⟩:=dF hz;cases e;exact aR6 aJd rfl rfl x.1 h.1 x.2.1 x.2.2 y h.2
theorem aJe:aF aDQ:=aJd.entry
def aDR:aE:=aDQ.add 141 aAX
theorem aR7:aH prog aDR:=aR5.iN follows λx z hz=>by obtain⟨h,e⟩:=dF hz;cases e;exact aR8 aJe rfl rfl rfl x.1 h.1 h.2 x.2.1 x.2.2
theorem aJf:aF aDR:=aJe.entry
def aDS:aE:=aDR.add 109 gSt
theorem aR9:aH prog aDS:=aR7.CP follows λx y z hz=>by obtain⟨h,e⟩:=dF hz;cases e;exact aSa aJf rfl rfl rfl rfl rfl x.1 h.1 x.2.1 x.2.2 y h.2.1 h.2.2
theorem aJg:aF aDS:=aJf.entry
def aDT:aE:=aDS.add 111 KM
theorem aSb:aH prog aDT:=aSc aJg aR9 rfl
theorem aJh:aF aDT:=aJg.other aQ2
def aDU:aE:=aDT.add 143 (vV λnm l=>.int .i64 (kK (iP nm) l 0))
theorem aSd:aH prog aDU:=aSe aJh aSb rfl rfl
theorem aJi:aF aDU:=aJh.other (aIW _)
def aDV:aE:=aDU.add 110 (vV λnm l=>.bool (l.any (iP nm)))
theorem aSf:aH prog aDV:=aSg aJi aSd rfl rfl
theorem aJj:aF aDV:=aJi.other (aIW _)
def aDW:aE:=aDV.add 53 gCl
theorem aSh:aH prog aDW:=aSf.CP follows λx y z hz=>by obtain⟨h,e⟩:=dF hz;cases e;exact aSi aJj rfl rfl rfl rfl x y h.1 h.2.1 h.2.2
theorem aJk:aF aDW:=aJj.entry
def aDX:aE:=aDW.add 51 E6
theorem aSj:aH prog aDX:=aSk aJk aSh rfl
theorem aJl:aF aDX:=aJk.other aQ3
def aDY:aE:=aDX.add 52 gDv
theorem aSl:aH prog aDY:=aSj.CP follows λx y z hz=>by obtain⟨h,e⟩:=dF hz;cases e;exact aSm aJl rfl rfl rfl rfl x h.1 y h.2.2
theorem aJm:aF aDY:=aJl.entry
def aDZ:aE:=aDY.add 25 SA
theorem aSn:aH prog aDZ:=aSl.iN follows λx z hz=>by obtain⟨h,e⟩:=dF hz;cases e;exact aSo aJm rfl rfl rfl rfl rfl rfl x h
theorem aSp:aF aDZ:=aJm.entry
def aD0:aE:=aDZ.add 45 E8
theorem aSq:aH prog aD0:=aSr aSn
theorem aSs:aF aD0:=aSp.entry
def aD1:aE:=aD0.add 40 H6
theorem aSt:aH prog aD1:=aJn aSq
theorem aSu:aF aD1:=aSs.entry
def aD2:aE:=aD1.add 14 SB
theorem aSv:aH prog aD2:=aH.pick aSw aSt (g:=SB) rfl
theorem aSx:aF aD2:=aSu.entry
def aD3:aE:=aD2.add 137 CZ
theorem aSy:aH prog aD3:=aSz aSv
theorem aJo:aF aD3:=aSx.other aRo
def aD4:aE:=aD3.add 103 H0
theorem aSA:aH prog aD4:=aSB aSy aJo rfl rfl
theorem aJp:aF aD4:=aJo.other aRp
def aD5:aE:=aD4.add 112 H2
theorem aSC:aH prog aD5:=aSD aSA aJp rfl rfl
theorem aJq:aF aD5:=aJp.other aRq
def aD6:aE:=aD5.add 55 KN
theorem aSE:aH prog aD6:=aSF aSC aJq rfl
theorem aSG:aF aD6:=aJq.other aRr
def aD7:aE:=aD6.add 47 MG
theorem aSH:aH prog aD7:=aSI aSE
theorem aJr:aF aD7:=aSG.other aRs
def aD8:aE:=aD7.add 126 (entry (aX cM cM λl=>bJ (l.length<=100000) (some l)))
theorem aSJ:aH prog aD8:=aQ4 aJr aSH rfl
theorem aJs:aF aD8:=aJr.entry
def aD9:aE:=aD8.add 155 (dO ON)
theorem aSK:aH prog aD9:=aRi aJs aSJ rfl
theorem aJt:aF aD9:=aJs.dO
def aEa:aE:=aD9.add 175 (dO OO)
theorem aSL:aH prog aEa:=aRk aJt aSK rfl
theorem aJu:aF aEa:=aJt.dO
def aEb:aE:=aEa.add 129 (dO (OP 1))
theorem aSM:aH prog aEb:=aRm aJu aSL rfl
theorem aJv:aF aEb:=aJu.dO
def aEc:aE:=aEb.add 154 (dO MF)
theorem aSN:aH prog aEc:=aQ9 aJv aSM rfl
theorem aJw:aF aEc:=aJv.dO
def aEd:aE:=aEc.add 134 (dO RY)
theorem aSO:aH prog aEd:=aRc aJw aSN rfl
theorem aJx:aF aEd:=aJw.dO
def WU:aE:=aEd.add 94 (dO OM)
theorem aSP:aH prog WU:=aRf aJx aSO rfl
theorem aJy:aF WU:=aJx.dO
noncomputable def WV:aE:=WU.add 128 (iZ prog WU 128 (RQ OR nZ))
theorem aSQ:aH prog WV:=aSP.WO follows
theorem aJz:aF WV:=aJy.iZ λ_ _ h=>h.1 rfl
theorem aEe:SC WU:=⟨aJy,rfl,rfl,rfl,rfl,rfl⟩
noncomputable def WW:aE:=WV.add 132 (iZ prog WV 132 (RQ OS nZ))
theorem aSR:aH prog WW:=aSQ.WO follows
theorem aJA:aF WW:=aJz.iZ λ_ _ h=>h.1 rfl
theorem aJB{E:aE}(h:E.ret 132=some (iZ prog WV 132 (RQ OS nZ))):RC E 132 OS nZ:=RC.of h λargs σ r q l n hd hs hr hn hl=>by obtain⟨k,rfl,rfl⟩:=hd;exact aSS aJz aEe rfl rfl k hs hr hn hl
noncomputable def WX:aE:=WW.add 157 (iZ prog WW 157 (RQ SD fW))
theorem aST:aH prog WX:=aSR.WO follows
theorem aJC:aF WX:=aJA.iZ λ_ _ h=>h.1 rfl
theorem aSU{E:aE}(h:E.ret 157=some (iZ prog WW 157 (RQ SD fW))):RC E 157 SD fW:=RC.of h λargs σ r q l n hd hs hr hn hl=>by obtain⟨rfl,rfl⟩:=hd;exact aSV aJA aEe rfl rfl hs hr hn hl
noncomputable def WY:aE:=WX.add 90 (iZ prog WX 90 (RQ (E9 1) fW))
theorem aSW:aH prog WY:=aST.WO follows
theorem aJD:aF WY:=aJC.iZ λ_ _ h=>h.1 rfl
theorem WZ{E:aE}(h:E.ret 90=some (iZ prog WX 90 (RQ (E9 1) fW))):RC E 90 (E9 1) fW:=RC.of h λargs σ r q l n hd hs hr hn hl=>by obtain⟨w,rfl,rfl⟩:=hd;exact aSX aJC aEe rfl rfl w hs hr hn hl
noncomputable def aEf:aE:=WY.add 86 (iZ prog WY 86 aEg)
theorem aSY:aH prog aEf:=aSW.WO follows
theorem aJE:aF aEf:=aJD.iZ λ_ _ h=>by
 obtain⟨_,_,_,_,⟨b,hb⟩,_⟩:=h;simp at hb
theorem aSZ{E:aE}(h:E.ret 86=some (iZ prog WY 86 aEg)):RdC E:=⟨_,h,λσ l hl=>by
 obtain⟨p3,σ3,hp,hQ⟩:=aAJ (aS0 aJD rfl rfl (σ:=σ) (Em.cR (Em.str cM l)) hl);obtain⟨id,rfl,e1,e2,⟨b,hb⟩,e3⟩:=hQ;have hlt:=(yA.1 hb).1;exact⟨id,σ3,hp,e1,e2 _ _ rfl (Em.cR (Em.str cM l)),xb,λh=>(by subst h;simp at hb),e3⟩⟩
def SE:aE:=aEf.add 156 aAY
theorem aS1:aH prog SE:=aSY.CP follows λx y z hz=>by obtain⟨h,e⟩:=dF hz;cases e;exact aS2 aJE rfl x y h
theorem aJF:aF SE:=aJE.entry
theorem aS3:PW SE 95 vW:=aS4 aJF rfl rfl
def SF:aE:=SE.eM 95 vW
theorem aS5:aH prog SF:=aS1.eM follows
theorem aJG:aF SF:=aJF.eM
theorem aAZ{E:aE}(h1:E.ret 95=some (iQ prog SE 95 (oA vW)))(h2:E.aZ 95=some (lU prog SE 95 (nF vW))):PC E 95 vW:=PC.of aS3 h1 h2
theorem aS6:PW SF 127 C1:=aS7 aJG rfl (aJB rfl) (aAZ rfl rfl)
def SG:aE:=SF.eM 127 C1
theorem aS8:aH prog SG:=aS5.eM follows
theorem aJH:aF SG:=aJG.eM
theorem aA0{E:aE}(h1:E.ret 127=some (iQ prog SF 127 (oA C1)))(h2:E.aZ 127=some (lU prog SF 127 (nF C1))):PC E 127 C1:=PC.of aS6 h1 h2
theorem aS9:PW SG 87 tP:=aTa aJH rfl (WZ rfl) (aAZ rfl rfl)
def SH:aE:=SG.eM 87 tP
theorem aTb:aH prog SH:=aS8.eM follows
theorem aJI:aF SH:=aJH.eM
theorem W0{E:aE}(h1:E.ret 87=some (iQ prog SG 87 (oA tP)))(h2:E.aZ 87=some (lU prog SG 87 (nF tP))):PC E 87 tP:=PC.of aS9 h1 h2
theorem aTc:PW SH 88 tQ:=aTd aJI rfl (aA0 rfl rfl)
def SI:aE:=SH.eM 88 tQ
theorem aTe:aH prog SI:=aTb.eM follows
theorem aJJ:aF SI:=aJI.eM
theorem W1{E:aE}(h1:E.ret 88=some (iQ prog SH 88 (oA tQ)))(h2:E.aZ 88=some (lU prog SH 88 (nF tQ))):PC E 88 tQ:=PC.of aTc h1 h2
theorem aTf:PW SI 131 C3:=aTg aJJ rfl (aA0 rfl rfl)
def SJ:aE:=SI.eM 131 C3
theorem aTh:aH prog SJ:=aTe.eM follows
theorem aJK:aF SJ:=aJJ.eM
theorem aA1{E:aE}(h1:E.ret 131=some (iQ prog SI 131 (oA C3)))(h2:E.aZ 131=some (lU prog SI 131 (nF C3))):PC E 131 C3:=PC.of aTf h1 h2
theorem aTi:PW SJ 89 tR:=aTj aJK rfl (aA0 rfl rfl)
def SK:aE:=SJ.eM 89 tR
theorem aTk:aH prog SK:=aTh.eM follows
theorem aJL:aF SK:=aJK.eM
theorem W2{E:aE}(h1:E.ret 89=some (iQ prog SJ 89 (oA tR)))(h2:E.aZ 89=some (lU prog SJ 89 (nF tR))):PC E 89 tR:=PC.of aTi h1 h2
theorem aTl:PW SK 130 FA:=aTm aJL rfl (W0 rfl rfl) (aA0 rfl rfl)
def SM:aE:=SK.eM 130 FA
theorem aTn:aH prog SM:=aTk.eM follows
theorem aJM:aF SM:=aJL.eM
theorem aJN{E:aE}(h1:E.ret 130=some (iQ prog SK 130 (oA FA)))(h2:E.aZ 130=some (lU prog SK 130 (nF FA))):PC E 130 FA:=PC.of aTl h1 h2
theorem aTo:PW SM 133 pL:=aTp aJM rfl rfl rfl (aSU rfl) (aAZ rfl rfl)
def SN:aE:=SM.eM 133 pL
theorem aTq:aH prog SN:=aTn.eM follows
theorem aJO:aF SN:=aJM.eM
theorem aJP{E:aE}(h1:E.ret 133=some (iQ prog SM 133 (oA pL)))(h2:E.aZ 133=some (lU prog SM 133 (nF pL))):PC E 133 pL:=PC.of aTo h1 h2
theorem aTr:PW SN 91 oV:=aTs aJO rfl (W1 rfl rfl) (W0 rfl rfl) (aJN rfl rfl) (aA1 rfl rfl) (W2 rfl rfl) (aJB rfl)
def SO:aE:=SN.eM 91 oV
theorem aTt:aH prog SO:=aTq.eM follows
theorem aJQ:aF SO:=aJO.eM
theorem aTu{E:aE}(h1:E.ret 91=some (iQ prog SN 91 (oA oV)))(h2:E.aZ 91=some (lU prog SN 91 (nF oV))):oW E 91 oV:=oW.of aTr h1 h2
theorem aTv:PW SO 113 lV:=aTw aJQ rfl (W1 rfl rfl) (aJN rfl rfl) (aA1 rfl rfl) (W2 rfl rfl) (aJP rfl rfl) (WZ rfl)
def SP:aE:=SO.eM 113 lV
theorem aTx:aH prog SP:=aTt.eM follows
theorem aJR:aF SP:=aJQ.eM
theorem aTy{E:aE}(h1:E.ret 113=some (iQ prog SO 113 (oA lV)))(h2:E.aZ 113=some (lU prog SO 113 (nF lV))):oW E 113 lV:=oW.of aTv h1 h2
theorem aTz:PW SP 92 nG:=aTA aJR rfl (W1 rfl rfl) (W0 rfl rfl) (aA1 rfl rfl) (W2 rfl rfl) (aTy rfl rfl) (WZ rfl)
def SR:aE:=SP.eM 92 nG
theorem aTB:aH prog SR:=aTx.eM follows
theorem aJS:aF SR:=aJR.eM
theorem aTC{E:aE}(h1:E.ret 92=some (iQ prog SP 92 (oA nG)))(h2:E.aZ 92=some (lU prog SP 92 (nF nG))):oW E 92 nG:=oW.of aTz h1 h2
theorem aTD:PW SR 93 lW:=aTE aJS rfl (W1 rfl rfl) (W0 rfl rfl) (aJP rfl rfl) (aA1 rfl rfl) (W2 rfl rfl) (WZ rfl)
def aEh:aE:=SR.eM 93 lW
theorem aTF:aH prog aEh:=aTB.eM follows
theorem aJT:aF aEh:=aJS.eM
theorem aTG{E:aE}(h1:E.ret 93=some (iQ prog SR 93 (oA lW)))(h2:E.aZ 93=some (lU prog SR 93 (nF lW))):oW E 93 lW:=oW.of aTD h1 h2
def W3:aE:=aEh.add 57 W4
theorem aTH:aH prog W3:=aTF.iN follows λx z hz=>by obtain⟨h,e⟩:=dF hz;cases e;exact aTI aJT rfl x h
theorem aJU:aF W3:=aJT.entry
noncomputable def aA2:aE:=W3.add 41 (KO prog W3 41 DrQ)
theorem aTJ:aH prog aA2:=aTH.aJV follows
theorem aTK:aF aA2:=aJU.other λ_ _ h=>aRu (aIX h)
theorem aTL{E:aE}(h:E.ret 41=some (KO prog W3 41 DrQ)):RdO E:=⟨_,h,λσ l hl=>by
 obtain⟨p,σ3,h1,h2⟩:=aTM aJU (aSZ rfl) (W0 rfl rfl) (W1 rfl rfl) (W2 rfl rfl) (WZ rfl) (aTu rfl rfl) (aTC rfl rfl) (aTG rfl rfl) rfl rfl (aAZ rfl rfl) l hl σ;obtain⟨p4,fI,h3,l',h4,h5⟩:=aTN (Q:=DrQ) h1 ⟨l,rfl,h2⟩;simp only[yBs,yAW]at h4;cases aRw h4;exact⟨p4,fI,h3,h5⟩⟩
noncomputable def aEi:aE:=aA2.add 56 (KO prog aA2 56 DsQ)
theorem aTO:aH prog aEi:=aTJ.aJV follows
theorem aJW:aF aEi:=aTK.other λ_ _ h=>aRv (aIX h)
def aEj:aE:=aEi.add 35 H7
theorem aTP:aH prog aEj:=aTO.iN follows λx z hz=>by
 obtain⟨⟨⟨h1,h2⟩,h3,h4⟩,e⟩:=dF hz;cases e;obtain⟨a,b⟩:=x;obtain⟨a,rfl⟩:=yDt h1;obtain⟨b,rfl⟩:=yDt (Int.le_of_lt h3);have:=aTQ aJW rfl rfl a b (by simp at h3;omega) (by simp at h2;omega) (by simp at h4;omega);exact this
theorem aJX:aF aEj:=aJW.entry
def W5:aE:=aEj.add 12 W6
theorem aTR:aH prog W5:=aTP.iN follows λx z hz=>by cases hz;exact aTS aJX rfl rfl rfl x.1 x.2
theorem aJY:aF W5:=aJX.entry
noncomputable def W7:aE:=W5.add 54 (mN prog W5 54 W8)
theorem aTT:aH prog W7:=aTR.aEk follows
theorem aJZ:aF W7:=aJY.mN λ_ _ h=>h.1 rfl
theorem aJ0{E:aE}(h:E.ret 54=some (mN prog W5 54 W8)):OT E:=OT.of aJY rfl rfl rfl rfl h
noncomputable def aEl:aE:=W7.add 46 (mN prog W7 46 W9)
theorem aEm:aH prog aEl:=aTT.aEk follows
theorem aTU:aF aEl:=aJZ.mN λ_ _ h=>h.1 rfl
theorem aTV{E:aE}(h:E.ret 46=some (mN prog W7 46 W9)):XA E:=XA.of aJZ rfl (aJ0 rfl) rfl rfl h
def aEn:aE:=aEl.add 45 R0
theorem aTW:aH prog aEn:=aH.aTX (aH.pick aEm aEm (g:=E8) rfl) (aH.pick aRz aEm (g:=R7) rfl)
theorem aJ1:aF aEn:=aRy aTU
def aEo:aE:=aEn.add 26 aA3
theorem aTY:aH prog aEo:=aTW.iN follows λx z hz=>by obtain⟨h,e⟩:=dF hz;cases e;exact aTZ aJ1 rfl rfl (aJ0 rfl) (aTV rfl) rfl rfl rfl rfl x h
theorem aJ2:aF aEo:=aJ1.entry
def aEp:aE:=aEo.add 21 aA4
theorem aT0:aH prog aEp:=aTY.iN follows λx z hz=>by obtain⟨h,e⟩:=dF hz;cases e;exact aT1 aJ2 rfl rfl rfl rfl x h
theorem aJ3:aF aEp:=aJ2.entry
def aEq:aE:=aEp.add 16 aA5
theorem aT2:aH prog aEq:=aT0.iN follows λx z hz=>by obtain⟨h,e⟩:=dF hz;cases e;exact aT3 aJ3 rfl rfl (aTL rfl) rfl x h
theorem aJ4:aF aEq:=aJ3.entry
def aEr:aE:=aEq.add 18 gEx
theorem aT4:aH prog aEr:=aT2.Q8 follows λargs p hg=>by
 split at hg
 rotate_left
 .cases hg
 cases hg;obtain⟨p2,σ2,q1,q2⟩:=aT5 aJ4 rfl;exact⟨p2,σ2,q1,q2,rfl,rfl⟩
theorem aJ5:aF aEr:=aJ4.entry
def aEs:aE:=aEr.add 11 gKn
theorem aT6:aH prog aEs:=aT4.Q8 follows λargs p hg=>by
 split at hg
 rotate_left
 .cases hg
 cases hg;obtain⟨p2,σ2,q1,q2⟩:=aT7 aJ5 rfl rfl rfl rfl rfl rfl;exact⟨p2,σ2,q1,q2,rfl,rfl⟩
theorem aJ6:aF aEs:=aJ5.entry
def aJ7:aE:=aEs.add 15 H7
theorem aNS:aH prog aJ7:=aT6.iN follows λx z hz=>by
 obtain⟨⟨⟨h1,h2⟩,h3,h4⟩,e⟩:=dF hz;cases e;obtain⟨a,b⟩:=x;obtain⟨a,rfl⟩:=yDt h1;obtain⟨b,rfl⟩:=yDt (Int.le_of_lt h3);have:=aT8 aJ6 rfl rfl a b (by simp at h3;omega) (by simp at h2;omega) (by simp at h4;omega);exact this
theorem aNR:aF aJ7:=aJ6.entry
end Go.Kz
end
