/- Steps of the proof. -/
import Derived.Test.YtnogdlnjafblaaaGreatDoorI7
import Derived.Test.YtnogdlnjafblaaaGreatDoorJ0
import Derived.Test.YtnogdlnjafblaaaGreatDoorH6
set_option linter.all false
set_option maxHeartbeats 40000000
set_option maxRecDepth 100000
open Go.Proofs.Tryz
noncomputable section
namespace Go.Kz
open Go Go.Proofs
section
variable{E:aE}(hU:aG E)
include hU
set_option maxRecDepth 10000
end
section
variable{E:aE}(hU:aG E)
include hU
set_option maxRecDepth 10000
end
section
variable{E:aE}(hU:aG E)
include hU
set_option maxRecDepth 10000
end
def FE:List UInt8:=[111,114,103,97,110,32,79,10,114,97,110,107,32,80,32,116,111,110,101,32,112,114,105,110,99,105,112,97,108,32,102,101,101,116,32,56,39,32,102,105,114,115,116,32,51,54,32,119,105,110,100,32,53,32,53,32,52,10,100,105,118,105,115,105,111,110,32,71,114,101,97,116,32,107,101,121,115,32,51,54,32,51,56,10,115,116,111,112,32,80,114,105,110,99,105,112,97,108,32,102,101,101,116,32,56,39,10,107,101,121,115,32,51,54,32,51,56,10,100,114,97,119,32,80,32,48,10]
def s7:eK:=⟨[79],[⟨[80],[112,114,105,110,99,105,112,97,108],8,1,36,[5,5,4]⟩],[⟨[71,114,101,97,116],false,36,38,[⟨[80,114,105,110,99,105,112,97,108],8,1,[⟨36,38,[⟨0,0⟩]⟩]⟩]⟩],[]⟩
theorem aG4:gZ s7=0:=zb
theorem aAs:yM s7=FE:=zb
theorem aZh:yL FE=(s7,(0,0),0):=by
 rw[<-aAs];exact aZm aG4 zb Dc
theorem aZi:yL (FE++[115,116,111,112,10])=(HN,(7,5),15):=zb
theorem aZj:NH s7=(FE,0):=by
 unfold NH;rw[yAI (by rw[aG4];decide),yAI zb,yAI Dc,aAs]
theorem aZk:R7 s7=([[71,114,101,97,116,58,32,80,114,105,110,99,105,112,97,108,32,56,39]],0):=zb
theorem aZl:aAr (8,3)=([50,45,50,47,51,39],0):=zb
section
def aCR:Nat->List PD->List U->Option (PD×List U):=entry (aY .text (Em.fE.MW .pos i64) λs=>bE ((s.length:Int)<4000000000) (some (yL s)))
theorem aNl{s:Dr}(h:(s.length:Int)<4000000000){o:eK}{p1 p2 e:Int}(hS:yL s=(o,(p1,p2),e))(fl:Nat)(σ:List U):aCR fl [.str s] σ=some (.aI [Em.fE.aA o,.agg [.int .i64 p1,.int .i64 p2],.int .i64 e],σ):=by
 have e1:Em.text.dec (.str s)=some s:=Em.cJ rfl;unfold aCR entry aY;exact qf
def aCQ:Nat->List PD->List U->Option (PD×List U):=entry (aY Em.fE (Em.text.iH i64) λo=>bE (aCY o) (some (NH o)))
theorem aZd{o:eK}(h:aCY o){s:Dr}{e:Int}(hS:NH o=(s,e))(fl:Nat)(σ:List U):aCQ fl [Em.fE.aA o] σ=some (.aI [.str s,.int .i64 e],σ):=by
 have e1:=Em.cJ (Em.fE.str o);unfold aCQ entry aY;exact qf
def aAp:Nat->List PD->List U->Option (PD×List U):=entry (aY Em.fE (texts.iH i64) λo=>bE (vS o) (some (R7 o)))
theorem aNm{o:eK}(h:vS o){s:List (List UInt8)}{e:Int}(hS:R7 o=(s,e))(fl:Nat)(σ:List U):aAp fl [Em.fE.aA o] σ=some (.aI [texts.aA s,.int .i64 e],σ):=by
 have e1:=Em.cJ (Em.fE.str o);unfold aAp entry aY;exact qf
def aCP:Nat->List PD->List U->Option (PD×List U):=entry (aY Em.pU (Em.text.iH i64) λx=>some (aAr x))
theorem aZe{x y:Int}{s:Dr}{e:Int}(hS:aAr (x,y)=(s,e))(fl:Nat)(σ:List U):aCP fl [.agg [.int .i64 x,.int .i64 y]] σ=some (.aI [.str s,.int .i64 e],σ):=by
 have e1:Em.pU.dec (.agg [.int .i64 x,.int .i64 y])=some (x,y):=Em.cJ (Em.pU.str (x,y));unfold aCP entry aY;simp only[e1,hS];rfl
def gEx:Nat->List PD->List U->Option (PD×List U):=entry λargs=>match args with
 | []=>some (.str FE)
 |_=>none
theorem gEx_of(fl:Nat)(σ:List U):gEx fl [] σ=some (.str FE,σ):=rfl
def gKn:Nat->List PD->List U->Option (PD×List U):=entry λargs=>match args with
 | []=>some (.bool true)
 |_=>none
theorem aZf(fl:Nat)(σ:List U):gKn fl [] σ=some (.bool true,σ):=rfl
theorem aNn:vS s7:=by
 have hR:gZ s7=0:=aG4;refine⟨by simp[iA,s7],⟨λr hr=>?_,by simp[s7]⟩,⟨by simp[s7],λd hd=>?_⟩,by simp[s7],λc hc=>by cases hc⟩
 .simp only[s7,yAS,yBl,yBm]at hr;subst hr;exact⟨by simp[okR,ZW],by simp[iA],by simp[iA]⟩
 .simp only[s7,yAS,yBl,yBm]at hd;subst hd;refine⟨by simp[iA],yo,λs hs=>?_⟩;simp only[yAS,yBl,yBm]at hs;subst hs;refine⟨⟨yo,λg hg=>?_⟩,by simp[iA]⟩;simp only[yAS,yBl,yBm]at hg;subst hg;simp[okG,aFz]
theorem aZg:aCY s7:=⟨aNn,λ_=>⟨Dc,zb⟩⟩
variable{E:aE}(hU:aG E)
include hU
set_option maxRecDepth 10000
theorem aYu(h0:E 18=none):aJ prog E 18 [] (.str FE):=by
 refine aJ.aV 1 h0 func18 (h:=?_);refine aD trivial ?_;simp(disch:=first|omega|(simp;done)|(simp;omega)) [yAu,FE]<;>try rfl
theorem aYw(h0:E 11=none)(h1:E 16=some aCR)(h2:E 26=some aCQ)(h3:E 21=some aAp)(h4:E 12=some aCP)(h5:E 18=some gEx):aJ prog E 11 [] (.bool true):=by
 have p1:=aNl (s:=FE) zb aZh;have p2:=aNl (s:=FE++[115,116,111,112,10]) zb aZi;have p3:=aZd aZg aZj;have p4:=aNm aNn aZk;have p5:=aZe aZl;have hx:=gEx_of;have hl:FE.length<=1000:=zb;obtain⟨T,hT⟩:=gn (FE);rw[hT]at p1 p2 p3 hx hl;obtain⟨on,rs,ds,cs,ho,hr,hd⟩:∃on rs ds cs,s7=⟨on,rs,ds,cs⟩/\rs.length=1/\ds.length=1:=⟨_,_,_,_,rfl,rfl,rfl⟩;rw[ho]at p1 p3 p4;simp only[HN,yG,eN,yAX,yBA]at p1 p2 p3 p4;refine aJ.aV 96 h0 func11 (h:=?_);refine aD (A13 h1 h2 h3 h4 h5 p1 p2 p3 p4 p5 hx hr hd) ?_;exact aa
end
section
variable{E:aE}(hU:aG E)
include hU
set_option maxRecDepth 10000
end
section
set_option maxRecDepth 10000
def aGC:aE:=aE.nil
theorem aYy:aG aGC:=aG.none
theorem aYz:aF prog aGC:=⟨λ_ hg=>Ao,λ_ hg=>Ao⟩
theorem aYA{E:aE}(hU:aG E)(h0:E 36=none){x y:Int}(h:0<=x/\x<=9223372036854775807/\0<=y/\y<=9223372036854775807):aJ prog E 36 [u64.aA x,u64.aA y] (u64.aA ((x.toNat.gcd y.toNat:Nat):Int)):=by
 obtain⟨a,rfl⟩:∃a:Nat,x=a:=⟨x.toNat,ym⟩;obtain⟨b,rfl⟩:∃b:Nat,y=b:=⟨y.toNat,ym⟩;rw[yBk,yBk];exact aUp hU h0 a b ym ym
theorem aYB{E:aE}(hU:aG E)(h0:E 121=none)(h1:E 37=some (entry (aY i64 u64 λn=>bE (0<=n/\n<=9223372036854775807) (some n))))
  (h2:E 36=some (entry (cU u64 u64 u64 λa b=>bE (0<=a/\a<=9223372036854775807/\0<=b/\b<=9223372036854775807) (some (a.toNat.gcd b.toNat:Nat)))))
  {x y:Int} (h:0<=x/\x<=9000000000000000000/\0<y/\y<=9000000000000000000):aJ prog E 121 [i64.aA x,i64.aA y] ((Em.pU.iH i64).aA (j8 x.toNat y.toNat)):=by
 obtain⟨a,rfl⟩:∃a:Nat,x=a:=⟨x.toNat,ym⟩;obtain⟨b,rfl⟩:∃b:Nat,y=b:=⟨y.toNat,ym⟩;exact aUq hU h0 h1 h2 a b ym ym ym
def aGD:aE:=aGC.add 38 (entry (cU .text .text texts λs c=>bE (c=[10]/\(s.length:Int)<4000000000) (some (iE s))))
theorem aYC:aG aGD:=aYy.entry
theorem aYD:aF prog aGD:=aUB aYz
def aGE:aE:=aGD.add 40 (entry (aY i64 .text λn=>bE (-9223372036854775808<=n/\n<=9223372036854775807) (some (Lib.itoa n))))
theorem aYE:aG aGE:=aYC.entry
theorem aYF:aF prog aGE:=aMi aYD
def aGF:aE:=aGE.add 82 (entry (cU .text u8 i64 λs n=>bE (0<=n/\n<=255) (some (Lib.indexByte s n.toNat.toUInt8))))
theorem aYG:aG aGF:=aYE.entry
theorem aYH:aF prog aGF:=aUC aYF
def aGG:aE:=aGF.add 83 (entry (cU .text .text .bool λs t=>some (Lib.hasPrefix s t)))
theorem aYI:aG aGG:=aYG.entry
theorem aYJ:aF prog aGG:=aUD aYH
def aGH:aE:=aGG.add 122 (entry (cU .text .text .text λs t=>some (Lib.trimPrefix s t)))
theorem aM2:aG aGH:=aYI.entry
theorem aYK:aF prog aGH:=aUE aYJ
def aGI:aE:=aGH.add 75 (entry (aY u8 .bool λn=>some (mX n)))
theorem aM3:aG aGI:=aM2.entry
theorem aYL:aF prog aGI:=aYK.iD follows (λx z hz=>by simp only[yAb]at hz;subst hz;exact aUy aM2 rfl x)
def aGJ:aE:=aGI.add 78 (entry (aY u8 .bool λn=>some (cB n)))
theorem aM4:aG aGJ:=aM3.entry
theorem aYM:aF prog aGJ:=aYL.iD follows (λx z hz=>by simp only[yAb]at hz;subst hz;exact aUz aM3 rfl x)
def aGK:aE:=aGJ.add 77 (entry (aY u8 .bool λn=>some (oM n)))
theorem aM5:aG aGK:=aM4.entry
theorem aYN:aF prog aGK:=aYM.iD follows (λx z hz=>by simp only[yAb]at hz;subst hz;exact aUA aM4 rfl rfl rfl x)
def aGL:aE:=aGK.add 76 (entry cP)
theorem aM6:aG aGL:=aM5.entry
theorem aYO:aF prog aGL:=aUr aM5 aYN rfl rfl rfl
def aGM:aE:=aGL.add 79 (entry (aY .text (Em.parts.iH i64) λs=>bE ((s.length:Int)<4000000000) (some (cT s))))
theorem aM7:aG aGM:=aM6.entry
theorem aYP:aF prog aGM:=aYO.iD follows (λx z hz=>by obtain⟨hg,hz⟩:=cX hz;simp only[yAb]at hz;subst hz;exact aUs aM6 rfl rfl x hg)
def aGN:aE:=aGM.add 120 (entry (cU .text i64 (i64.iH .bool) λs m=>bE (gE s/\0<=m/\m<=2000000000/\(s.length:Int)<4000000000) (some (lG s m))))
theorem aM8:aG aGN:=aM7.entry
theorem aYQ:aF prog aGN:=aYP.xU follows (λx y z hz=>by obtain⟨hg,hz⟩:=cX hz;simp only[yAb]at hz;subst hz;exact aUw aM7 rfl x y hg.1 hg.2.1 hg.2.2.1 hg.2.2.2)
def aGO:aE:=aGN.add 37 (entry (aY i64 u64 λn=>bE (0<=n/\n<=9223372036854775807) (some n)))
theorem aM9:aG aGO:=aM8.entry
theorem aYR:aF prog aGO:=aYQ.iD follows (λx z hz=>by obtain⟨hg,hz⟩:=cX hz;simp only[yAb]at hz;subst hz;exact aUo aM8 rfl x hg.1 hg.2)
def aGP:aE:=aGO.add 36 (entry (cU u64 u64 u64 λa b=>bE (0<=a/\a<=9223372036854775807/\0<=b/\b<=9223372036854775807) (some (a.toNat.gcd b.toNat:Nat))))
theorem aNa:aG aGP:=aM9.entry
theorem aYS:aF prog aGP:=aYR.xU follows (λx y z hz=>by obtain⟨hg,hz⟩:=cX hz;simp only[yAb]at hz;subst hz;exact aYA aM9 rfl hg)
def aGQ:aE:=aGP.add 121 (entry (cU i64 i64 (Em.pU.iH i64) λn d=>bE (0<=n/\n<=9000000000000000000/\0<d/\d<=9000000000000000000) (some (j8 n.toNat d.toNat))))
theorem aNb:aG aGQ:=aNa.entry
theorem aYT:aF prog aGQ:=aYS.xU follows (λx y z hz=>by obtain⟨hg,hz⟩:=cX hz;simp only[yAb]at hz;subst hz;exact aYB aNa rfl rfl rfl hg)
def aGR:aE:=aGQ.add 80 (entry (aY .parts (Em.tk.iH i64) λp=>bE (gE p.1/\gE p.2.1/\gE p.2.2/\(p.1.length:Int)<4000000000/\(p.2.1.length:Int)<4000000000/\(p.2.2.length:Int)<4000000000) (some (iS p))))
theorem aNc:aG aGR:=aNb.entry
theorem aYU:aF prog aGR:=aYT.iD follows (λx z hz=>by obtain⟨hg,hz⟩:=cX hz;simp only[yAb]at hz;subst hz;exact aYV aNb rfl rfl rfl rfl x hg.1 hg.2.1 hg.2.2.1 hg.2.2.2.1 hg.2.2.2.2.1 hg.2.2.2.2.2)
def aGS:aE:=aGR.add 81 (entry (aY .text (Em.tk.iH i64) λs=>bE (0<s.length/\gE (Lib.trimPrefix s [45])/\(s.length:Int)<4000000000) (some (jK s))))
theorem aNd:aG aGS:=aNc.entry
theorem aYW:aF prog aGS:=aYU.iD follows (λx z hz=>by obtain⟨hg,hz⟩:=cX hz;simp only[yAb]at hz;subst hz;exact aYX aNc rfl rfl rfl rfl x hg.1 hg.2.1 hg.2.2)
def aGT:aE:=aGS.add 39 (entry (aY .text (Em.tk.MW i64 i64) λs=>bE (0<s.length/\(s.length:Int)<4000000000) (some (dM s))))
theorem aYY:aG aGT:=aNd.entry
theorem aYZ:aF prog aGT:=aYW.iD follows (λx z hz=>by obtain⟨hg,hz⟩:=cX hz;simp only[yAb]at hz;subst hz;exact aY0 aNd rfl rfl rfl rfl rfl rfl rfl rfl rfl x hg.1 hg.2)
def aY1:aE:=aGT.add 14 (entry (aY .text (dA.MW .pos i64) λs=>bE ((s.length:Int)<4000000000) (some (nE s))))
theorem aWV:aF prog aY1:=aYZ.iD follows (λx z hz=>by obtain⟨hg,hz⟩:=cX hz;simp only[yAb]at hz;subst hz;exact aY2 aYY rfl rfl rfl x hg)
end
theorem aF.aLQ{E:aE}(hE:aF prog E){β:Type}{r:Em β}{F:List Int->β}{f:FuncId}(h:∀l:List Int,l.length<=1000000->aJ prog E f [nZ.aA l,.func 140 []] (r.aA (F l))) :
  aF prog (E.add f (entry (λargs=>match args with | [p,.func g []]=>if g=140 then aY nZ r (λl=>bE (l.length<=1000000) (some (F l))) [p]else none|_=>none))):=by
 refine hE.OV follows λargs p hg=>?_
 split at hg
 rotate_left
 .cases hg
 rename_i p1 g1;split at hg
 rotate_left
 .cases hg
 rename_i e;subst e;simp only[aY]at hg;split at hg
 rotate_left
 .cases hg
 rename_i x hx;split at hg
 rotate_left
 .cases hg
 rename_i z hz;simp only[yAb]at hg;subst hg;obtain⟨rx,e⟩:=cX hz;cases e;have e1:=Em.sT hx;obtain⟨p2,σ2,h1,h2⟩:=h x rx;exact⟨p2,σ2,by simpa [e1,PD.strip]using h1,h2,by simp only[yAX,yBA,e1,PD.eV,nZ.eC];rfl,r.eC _⟩
theorem aVr:∀args p,NB 0 args []≠some (p,[]):=by
 intro args p h;unfold NB at h;split at h
 .exact ah
 .cases h
theorem aLR(F:List UInt8->List dY->PD):∀args p,yI F 0 args []≠some (p,[]):=by
 intro args p h;unfold yI at h
 repeat' split at h
 all_goals first|(cases h;done)|(simp_all;done)
theorem aVs:∀args p,HG 0 args []≠some (p,[]):=by
 intro args p h;unfold HG at h
 repeat' split at h
 all_goals first|(cases h;done)|(simp_all;done)
theorem aVt{E:aE}(hU:aG E)(hE:aF prog E)(h0:E 126=none):aF prog (E.add 126 (entry (aY dA dA λl=>bE (l.length<=100000) (some l)))):=by
 refine hE.addCases follows λargs p hg=>?_
 unfold aY at hg;split at hg
 .rename_i x;split at hg
  .rename_i l hx;split at hg
   .rename_i z hz;obtain⟨hl,hz⟩:=cX hz;simp only[yAb]at hg hz;subst hg hz;have hs:=Em.sT hx;refine⟨by simp only[yAX,yBA,hs,PD.eV,yCg];exact dA.eC l,dA.eC l,λc vs hv=>?_⟩;simp only[yAX,yBA,hs]at hv
    by_cases hl0:l=[]
    .subst hl0;rcases aVu (n:=0) hv with h|h
     .exact⟨_,h,aVv hU h0⟩
     .exact⟨_,h,aVw hU h0⟩
    .exact⟨_,hv,aVx hU h0 l hl0 hl⟩
   .cases hg
  .cases hg
 .cases hg
theorem aVy{E:aE}(hU:aG E)(hE:aF prog E)(h0:E 154=none):aF prog (E.add 154 (eD PJ)):=hE.U5 follows λargs p hg=>by
 unfold PJ at hg;split at hg
 .rename_i s n;split at hg
  .rename_i l hd;obtain⟨⟨e,h1,h2,h3⟩,eJ⟩:=cX hg;simp only[yAb]at eJ;subst e eJ;obtain⟨k,rfl⟩:∃k:Nat,n=k:=⟨n.toNat,ym⟩;rw[yBk];exact⟨aVz hU h0 l k ym h3,Be,Ck⟩
  .cases hg
 .simp only[yAb]at hg;subst hg;exact⟨aVA hU h0,rfl,Ck⟩
 .cases hg
theorem aVB{E:aE}(hU:aG E)(hE:aF prog E)(h0:E 134=none):aF prog (E.add 134 (eD VE)):=hE.U5 follows λargs p hg=>by
 unfold VE at hg;split at hg
 .rename_i s n;split at hg
  .rename_i l hd;obtain⟨⟨e,h1,h2,h3⟩,eJ⟩:=cX hg;simp only[yAb]at eJ;subst e eJ;obtain⟨k,rfl⟩:∃k:Nat,n=k:=⟨n.toNat,ym⟩;rw[yBk];exact⟨aVC hU h0 l k ym h3,Be,Ck⟩
  .cases hg
 .simp only[yAb]at hg;subst hg;exact⟨aVD hU h0,rfl,Ck⟩
 .cases hg
theorem aVE{E:aE}(hU:aG E)(hE:aF prog E)(h0:E 94=none):aF prog (E.add 94 (eD RS)):=hE.U5 follows λargs p hg=>by
 unfold RS at hg;split at hg
 .rename_i s n;split at hg
  .rename_i l hd;obtain⟨⟨e,h1,h2,h3⟩,eJ⟩:=cX hg;simp only[yAb]at eJ;subst e eJ;obtain⟨k,rfl⟩:∃k:Nat,n=k:=⟨n.toNat,ym⟩;exact⟨aVF hU h0 l k ym h3,Be,rfl⟩
  .cases hg
 .simp only[yAb]at hg;subst hg;exact⟨aVG hU h0,rfl,rfl⟩
 .cases hg
theorem aVH{E:aE}(hU:aG E)(hE:aF prog E)(h0:E 155=none):aF prog (E.add 155 (eD RT)):=hE.U5 follows λargs p hg=>by
 unfold RT at hg;split at hg
 .split at hg
  .obtain⟨e,eJ⟩:=cX hg;simp only[yAb]at eJ;subst e eJ;exact⟨aVI hU h0 _ _,by simp[PD.eV,PD.bW],rfl⟩
  .cases hg
 .cases hg
theorem aVJ{E:aE}(hU:aG E)(hE:aF prog E)(h0:E 175=none):aF prog (E.add 175 (eD RU)):=hE.U5 follows λargs p hg=>by
 unfold RU at hg;split at hg
 .split at hg
  .obtain⟨e,eJ⟩:=cX hg;simp only[yAb]at eJ;subst e eJ;exact⟨aVK hU h0 _,by simp[PD.eV,PD.bW],rfl⟩
  .cases hg
 .cases hg
theorem aVL{E:aE}(hU:aG E)(hE:aF prog E)(h0:E 129=none):aF prog (E.add 129 (eD (RV 1))):=hE.U5 follows λargs p hg=>by
 unfold RV at hg;split at hg
 .split at hg
  .obtain⟨e,eJ⟩:=cX hg;simp only[yAb]at eJ;subst e eJ;exact⟨aVM hU h0 _ _,by simp[PD.eV,PD.bW],rfl⟩
  .cases hg
 .cases hg
theorem aVN:∀args p,E9 0 args []≠some (p,[]):=by
 intro args p h;unfold E9 at h
 repeat' split at h
 all_goals first|(cases h;done)|(simp_all;done)
theorem aVO:∀args p,KI 0 args []≠some (p,[]):=by
 intro args p h;unfold KI HH at h
 repeat' split at h
 all_goals first|(cases h;done)|(simp_all;done)
theorem aVP:∀args p,KJ 0 args []≠some (p,[]):=by
 intro args p h;unfold KJ HH at h
 repeat' split at h
 all_goals first|(cases h;done)|(simp_all;done)
theorem aVQ:∀args p,NC 0 args []≠some (p,[]):=by
 intro args p h;unfold NC at h
 repeat' split at h
 all_goals first|(cases h;done)|(simp_all;done)
theorem aVR:∀args p,PK 0 args []≠some (p,[]):=by
 intro args p h;unfold PK at h
 repeat' split at h
 all_goals first|(cases h;done)|(simp_all;done)
def DrQ(args:List PD)(σ:List U)(p:PD)(σ':List U):Prop:=∃l,args=[dA.aA l]/\Z6 (jX l 0) Em.fE.aA 4 σ p σ'
def DsQ(args:List PD)(σ:List U)(p:PD)(σ':List U):Prop:=∃ns l,args=[texts.aA ns,dA.aA l]/\Z6 (aVS ns l 0) Em.stop.aA 4 σ p σ'
theorem aLS{P:Program}{E:aE}{f:FuncId}{Q:List PD->List U->PD->List U->Prop}{fl:Nat}{args:Dq}{σ σ':Dp}{p:PD}(h:ND P E f Q fl args σ=some (p,σ')):Q args σ p σ':=by
 unfold ND at h;split at h
 .rename_i hx;simp only[yAb,yAc]at h;obtain⟨rfl,rfl⟩:=h;exact hx.2.choose_spec.2
 .cases h
theorem aVT{args:Dq}{p:PD}:¬DrQ args [] p []:=λ⟨_,_,_,h,_⟩=>Aa
theorem aVU{args:Dq}{p:PD}:¬DsQ args [] p []:=λ⟨_,_,_,_,h,_⟩=>Aa
theorem aVV{a b:List Tk}(h:dA.aA a=dA.aA b):a=b:=by
 have e1:=Em.cJ (Em.str dA a);have e2:=Em.cJ (Em.str dA b);rw[h,e2]at e1;exact(yBw e1).symm
theorem aVW(a b:List PD->Option PD):VF (entry a) (entry b)=entry (λargs=>match a args with|some p=>some p|none=>b args):=by
 funext fl args σ
 unfold VF entry
 dsimp only
 cases a args<;>rfl
theorem aVX{E:aE}(hU:aG E):aG (E.add 45 VG):=by
 unfold VG HI VH;rw[aVW];exact hU.entry
def Dt0:aE:=aE.nil
theorem aLT:aF prog Dt0:=⟨λ_ hg=>Ao,λ_ hg=>Ao⟩
theorem aFS:aG Dt0:=aG.none
def DtJ:aE:=Dt0.add 45 VH
theorem aVY:aF prog DtJ:=aLT.xU follows λx y z hz=>by
 obtain⟨h,e⟩:=cX hz;cases e;subst h;exact aVZ aFS rfl y
def Dt1:aE:=Dt0.add 104 aCB
theorem aV0:aF prog Dt1:=aLT.iD follows λx z hz=>by cases hz;exact aV1 aFS rfl x
theorem aLU:aG Dt1:=aFS.entry
def Dt2:aE:=Dt1.add 49 RW
theorem aV2:aF prog Dt2:=aV0.iD follows λx z hz=>by obtain⟨h,e⟩:=cX hz;cases e;exact aV3 aLU rfl rfl x h
theorem aLV:aG Dt2:=aLU.entry
def Dt3:aE:=Dt2.add 108 VI
theorem aV4:aF prog Dt3:=aV2.iD follows λx z hz=>by cases hz;exact aV5 aLV rfl x.1 x.2
theorem aLW:aG Dt3:=aLV.entry
def Dt4:aE:=Dt3.add 36 aCC
theorem aV6:aF prog Dt4:=aV4.xU follows λx y z hz=>by
 obtain⟨h,e⟩:=cX hz;cases e;obtain⟨a,rfl⟩:∃a:Nat,x=a:=⟨x.toNat,ym⟩;obtain⟨b,rfl⟩:∃b:Nat,y=b:=⟨y.toNat,ym⟩;rw[yBk,yBk];exact aV7 aLW rfl a b ym ym
theorem aLX:aG Dt4:=aLW.entry
def Dt5:aE:=Dt4.add 37 aCD
theorem aV8:aF prog Dt5:=aV6.iD follows λx z hz=>by obtain⟨h,e⟩:=cX hz;cases e;exact aV9 aLX rfl x h
theorem aLY:aG Dt5:=aLX.entry
def Dt6:aE:=Dt5.add 13 Z7
theorem aWa:aF prog Dt6:=aV8.iD follows λx z hz=>by cases hz;exact aWb aLY rfl rfl rfl x.1 x.2
theorem aLZ:aG Dt6:=aLY.entry
def Dt7:aE:=Dt6.add 105 Z8
theorem aWc:aF prog Dt7:=aWa.iD follows λx z hz=>by cases hz;exact aWd aLZ rfl rfl x.1 x.2
theorem aL0:aG Dt7:=aLZ.entry
def Dt8:aE:=Dt7.add 140 aCE
theorem aWe:aF prog Dt8:=aWc.iD follows λx z hz=>by cases hz;exact aWf aL0 rfl x
theorem aL1:aG Dt8:=aL0.entry
def Dt9:aE:=Dt8.add 164 aCF
theorem aWg:aF prog Dt9:=aWe.aLQ λl hl=>aWh aL1 rfl rfl l hl
theorem aL2:aG Dt9:=aL1.entry
def aFT:aE:=Dt9.add 139 aCG
theorem aWi:aF prog aFT:=aWg.aLQ λl hl=>aWj aL2 rfl rfl l hl
theorem aL3:aG aFT:=aL2.entry
def aFU:aE:=aFT.add 107 gWi
theorem aWk:aF prog aFU:=aWi.iD follows λx z hz=>by obtain⟨h,e⟩:=cX hz;cases e;exact aWl aL3 rfl rfl x h
theorem aL4:aG aFU:=aL3.entry
def aFV:aE:=aFU.add 106 gFi
theorem aWm:aF prog aFV:=aWk.iD follows λx z hz=>by cases hz;exact aWn aL4 rfl x
theorem aL5:aG aFV:=aL4.entry
def aFW:aE:=aFV.add 50 Z9
theorem aWo:aF prog aFW:=aWm.iD follows λx z hz=>by obtain⟨h,e⟩:=cX hz;cases e;exact aWp aL5 rfl rfl rfl rfl rfl x h.1 h.2.1 h.2.2
theorem aL6:aG aFW:=aL5.entry
def aFX:aE:=aFW.add 184 aCH
theorem aWq:aF prog aFX:=aWo.xU follows λx y z hz=>by obtain⟨h,e⟩:=cX hz;cases e;exact aWr aL6 rfl x y h
theorem aL7:aG aFX:=aL6.entry
def aFY:aE:=aFX.add 165 aCI
theorem aWs:aF prog aFY:=aWq.xU follows λx y z hz=>by obtain⟨h,e⟩:=cX hz;cases e;exact aWt aL7 rfl rfl x y h
theorem aL8:aG aFY:=aL7.entry
def aFZ:aE:=aFY.add 142 gDr
theorem aWu:aF prog aFZ:=aWs.xU follows λx y z hz=>by obtain⟨h,e⟩:=cX hz;cases e;exact aWv aL8 rfl rfl x.1 h.1 x.2.1 x.2.2 y h.2
theorem aL9:aG aFZ:=aL8.entry
def aF0:aE:=aFZ.add 141 aCJ
theorem aWw:aF prog aF0:=aWu.iD follows λx z hz=>by obtain⟨h,e⟩:=cX hz;cases e;exact aWx aL9 rfl rfl rfl x.1 h.1 h.2 x.2.1 x.2.2
theorem aMa:aG aF0:=aL9.entry
def aF1:aE:=aF0.add 109 gSt
theorem aWy:aF prog aF1:=aWw.xU follows λx y z hz=>by obtain⟨h,e⟩:=cX hz;cases e;exact aWz aMa rfl rfl rfl rfl rfl x.1 h.1 x.2.1 x.2.2 y h.2.1 h.2.2
theorem aMb:aG aF1:=aMa.entry
def aF2:aE:=aF1.add 111 NB
theorem aWA:aF prog aF2:=aWB aMb aWy rfl
theorem aMc:aG aF2:=aMb.other aVr
def aF3:aE:=aF2.add 143 (yI λnm l=>.int .i64 (lH (iM nm) l 0))
theorem aWC:aF prog aF3:=aWD aMc aWA rfl rfl
theorem aMd:aG aF3:=aMc.other (aLR _)
def aF4:aE:=aF3.add 110 (yI λnm l=>.bool (l.any (iM nm)))
theorem aWE:aF prog aF4:=aWF aMd aWC rfl rfl
theorem aMe:aG aF4:=aMd.other (aLR _)
def aF5:aE:=aF4.add 53 gCl
theorem aWG:aF prog aF5:=aWE.xU follows λx y z hz=>by obtain⟨h,e⟩:=cX hz;cases e;exact aWH aMe rfl rfl rfl rfl x y h.1 h.2.1 h.2.2
theorem aMf:aG aF5:=aMe.entry
def aF6:aE:=aF5.add 51 HG
theorem aWI:aF prog aF6:=aWJ aMf aWG rfl
theorem aMg:aG aF6:=aMf.other aVs
def aF7:aE:=aF6.add 52 gDv
theorem aWK:aF prog aF7:=aWI.xU follows λx y z hz=>by obtain⟨h,e⟩:=cX hz;cases e;exact aWL aMg rfl rfl rfl rfl x h.1 y h.2.2
theorem aMh:aG aF7:=aMg.entry
def aF8:aE:=aF7.add 25 VJ
theorem aWM:aF prog aF8:=aWK.iD follows λx z hz=>by obtain⟨h,e⟩:=cX hz;cases e;exact aWN aMh rfl rfl rfl rfl rfl rfl x h
theorem aWO:aG aF8:=aMh.entry
def aF9:aE:=aF8.add 45 HI
theorem aWP:aF prog aF9:=aWQ aWM
theorem aWR:aG aF9:=aWO.entry
def aGa:aE:=aF9.add 40 KK
theorem aWS:aF prog aGa:=aMi aWP
theorem aWT:aG aGa:=aWR.entry
def aGb:aE:=aGa.add 14 aAa
theorem aWU:aF prog aGb:=aF.pick aWV aWS (g:=aAa) rfl
theorem aWW:aG aGb:=aWT.entry
def aGc:aE:=aGb.add 137 E9
theorem aWX:aF prog aGc:=aWY aWU
theorem aMj:aG aGc:=aWW.other aVN
def aGd:aE:=aGc.add 103 KI
theorem aWZ:aF prog aGd:=aW0 aWX aMj rfl rfl
theorem aMk:aG aGd:=aMj.other aVO
def aGe:aE:=aGd.add 112 KJ
theorem aW1:aF prog aGe:=aW2 aWZ aMk rfl rfl
theorem aMl:aG aGe:=aMk.other aVP
def aGf:aE:=aGe.add 55 NC
theorem aW3:aF prog aGf:=aW4 aW1 aMl rfl
theorem aW5:aG aGf:=aMl.other aVQ
def aGg:aE:=aGf.add 47 PK
theorem aW6:aF prog aGg:=aW7 aW3
theorem aMm:aG aGg:=aW5.other aVR
def aGh:aE:=aGg.add 126 (entry (aY dA dA λl=>bE (l.length<=100000) (some l)))
theorem aW8:aF prog aGh:=aVt aMm aW6 rfl
theorem aMn:aG aGh:=aMm.entry
def aGi:aE:=aGh.add 155 (eD RT)
theorem aW9:aF prog aGi:=aVH aMn aW8 rfl
theorem aMo:aG aGi:=aMn.eD
def aGj:aE:=aGi.add 175 (eD RU)
theorem aXa:aF prog aGj:=aVJ aMo aW9 rfl
theorem aMp:aG aGj:=aMo.eD
def aGk:aE:=aGj.add 129 (eD (RV 1))
theorem aXb:aF prog aGk:=aVL aMp aXa rfl
theorem aMq:aG aGk:=aMp.eD
def aGl:aE:=aGk.add 154 (eD PJ)
theorem aXc:aF prog aGl:=aVy aMq aXb rfl
theorem aMr:aG aGl:=aMq.eD
def aGm:aE:=aGl.add 134 (eD VE)
theorem aXd:aF prog aGm:=aVB aMr aXc rfl
theorem aMs:aG aGm:=aMr.eD
def aAb:aE:=aGm.add 94 (eD RS)
theorem aXe:aF prog aAb:=aVE aMs aXd rfl
theorem aMt:aG aAb:=aMs.eD
noncomputable def aAc:aE:=aAb.add 128 (jU prog aAb 128 (RQ RX pA))
theorem aXf:aF prog aAc:=aXe.ZV follows
theorem aMu:aG aAc:=aMt.jU λ_ _ h=>h.1 rfl
theorem aGn:VK aAb:=⟨aMt,rfl,rfl,rfl,rfl,rfl⟩
noncomputable def aAd:aE:=aAc.add 132 (jU prog aAc 132 (RQ RY pA))
theorem aXg:aF prog aAd:=aXf.ZV follows
theorem aMv:aG aAd:=aMu.jU λ_ _ h=>h.1 rfl
theorem aMw{E:aE}(h:E.ret 132=some (jU prog aAc 132 (RQ RY pA))):RC E 132 RY pA:=RC.of h λargs σ r q l n hd hs hr hn hl=>by obtain⟨k,rfl,rfl⟩:=hd;exact aXh aMu aGn rfl rfl k hs hr hn hl
noncomputable def aAe:aE:=aAd.add 157 (jU prog aAd 157 (RQ VL gY))
theorem aXi:aF prog aAe:=aXg.ZV follows
theorem aMx:aG aAe:=aMv.jU λ_ _ h=>h.1 rfl
theorem aXj{E:aE}(h:E.ret 157=some (jU prog aAd 157 (RQ VL gY))):RC E 157 VL gY:=RC.of h λargs σ r q l n hd hs hr hn hl=>by obtain⟨rfl,rfl⟩:=hd;exact aXk aMv aGn rfl rfl hs hr hn hl
noncomputable def aAf:aE:=aAe.add 90 (jU prog aAe 90 (RQ (HJ 1) gY))
theorem aXl:aF prog aAf:=aXi.ZV follows
theorem aMy:aG aAf:=aMx.jU λ_ _ h=>h.1 rfl
theorem aAg{E:aE}(h:E.ret 90=some (jU prog aAe 90 (RQ (HJ 1) gY))):RC E 90 (HJ 1) gY:=RC.of h λargs σ r q l n hd hs hr hn hl=>by obtain⟨w,rfl,rfl⟩:=hd;exact aXm aMx aGn rfl rfl w hs hr hn hl
noncomputable def aGo:aE:=aAf.add 86 (jU prog aAf 86 aGp)
theorem aXn:aF prog aGo:=aXl.ZV follows
theorem aMz:aG aGo:=aMy.jU λ_ _ h=>by
 obtain⟨_,_,_,_,⟨b,hb⟩,_⟩:=h;simp at hb
theorem aXo{E:aE}(h:E.ret 86=some (jU prog aAf 86 aGp)):RdC E:=⟨_,h,λσ l hl=>by
 obtain⟨p3,σ3,hp,hQ⟩:=aCm (aXp aMy rfl rfl (σ:=σ) (Em.cJ (Em.str dA l)) hl);obtain⟨id,rfl,e1,e2,⟨b,hb⟩,e3⟩:=hQ;have hlt:=(yA.1 hb).1;exact⟨id,σ3,hp,e1,e2 _ _ rfl (Em.cJ (Em.str dA l)),ym,λh=>(by subst h;simp at hb),e3⟩⟩
def VM:aE:=aGo.add 156 aCK
theorem aXq:aF prog VM:=aXn.xU follows λx y z hz=>by obtain⟨h,e⟩:=cX hz;cases e;exact aXr aMz rfl x y h
theorem aMA:aG VM:=aMz.entry
theorem aXs:PW VM 95 yJ:=aXt aMA rfl rfl
def VN:aE:=VM.fB 95 yJ
theorem aXu:aF prog VN:=aXq.fB follows
theorem aMB:aG VN:=aMA.fB
theorem aCL{E:aE}(h1:E.ret 95=some (jJ prog VM 95 (pB yJ)))(h2:E.bD 95=some (mY prog VM 95 (oQ yJ))):PC E 95 yJ:=PC.of aXs h1 h2
theorem aXv:PW VN 127 FA:=aXw aMB rfl (aMw rfl) (aCL rfl rfl)
def VO:aE:=VN.fB 127 FA
theorem aXx:aF prog VO:=aXu.fB follows
theorem aMC:aG VO:=aMB.fB
theorem aCM{E:aE}(h1:E.ret 127=some (jJ prog VN 127 (pB FA)))(h2:E.bD 127=some (mY prog VN 127 (oQ FA))):PC E 127 FA:=PC.of aXv h1 h2
theorem aXy:PW VO 87 vO:=aXz aMC rfl (aAg rfl) (aCL rfl rfl)
def VP:aE:=VO.fB 87 vO
theorem aXA:aF prog VP:=aXx.fB follows
theorem aMD:aG VP:=aMC.fB
theorem aAh{E:aE}(h1:E.ret 87=some (jJ prog VO 87 (pB vO)))(h2:E.bD 87=some (mY prog VO 87 (oQ vO))):PC E 87 vO:=PC.of aXy h1 h2
theorem aXB:PW VP 88 vP:=aXC aMD rfl (aCM rfl rfl)
def VQ:aE:=VP.fB 88 vP
theorem aXD:aF prog VQ:=aXA.fB follows
theorem aME:aG VQ:=aMD.fB
theorem aAi{E:aE}(h1:E.ret 88=some (jJ prog VP 88 (pB vP)))(h2:E.bD 88=some (mY prog VP 88 (oQ vP))):PC E 88 vP:=PC.of aXB h1 h2
theorem aXE:PW VQ 131 FB:=aXF aME rfl (aCM rfl rfl)
def VS:aE:=VQ.fB 131 FB
theorem aXG:aF prog VS:=aXD.fB follows
theorem aMF:aG VS:=aME.fB
theorem aCN{E:aE}(h1:E.ret 131=some (jJ prog VQ 131 (pB FB)))(h2:E.bD 131=some (mY prog VQ 131 (oQ FB))):PC E 131 FB:=PC.of aXE h1 h2
theorem aXH:PW VS 89 vQ:=aXI aMF rfl (aCM rfl rfl)
def VT:aE:=VS.fB 89 vQ
theorem aXJ:aF prog VT:=aXG.fB follows
theorem aMG:aG VT:=aMF.fB
theorem aAj{E:aE}(h1:E.ret 89=some (jJ prog VS 89 (pB vQ)))(h2:E.bD 89=some (mY prog VS 89 (oQ vQ))):PC E 89 vQ:=PC.of aXH h1 h2
theorem aXK:PW VT 130 HK:=aXL aMG rfl (aAh rfl rfl) (aCM rfl rfl)
def VU:aE:=VT.fB 130 HK
theorem aXM:aF prog VU:=aXJ.fB follows
theorem aMH:aG VU:=aMG.fB
theorem aMI{E:aE}(h1:E.ret 130=some (jJ prog VT 130 (pB HK)))(h2:E.bD 130=some (mY prog VT 130 (oQ HK))):PC E 130 HK:=PC.of aXK h1 h2
theorem aXN:PW VU 133 rB:=aXO aMH rfl rfl rfl (aXj rfl) (aCL rfl rfl)
def VV:aE:=VU.fB 133 rB
theorem aXP:aF prog VV:=aXM.fB follows
theorem aMJ:aG VV:=aMH.fB
theorem aMK{E:aE}(h1:E.ret 133=some (jJ prog VU 133 (pB rB)))(h2:E.bD 133=some (mY prog VU 133 (oQ rB))):PC E 133 rB:=PC.of aXN h1 h2
theorem aXQ:PW VV 91 pW:=aXR aMJ rfl (aAi rfl rfl) (aAh rfl rfl) (aMI rfl rfl) (aCN rfl rfl) (aAj rfl rfl) (aMw rfl)
def VW:aE:=VV.fB 91 pW
theorem aXS:aF prog VW:=aXP.fB follows
theorem aML:aG VW:=aMJ.fB
theorem aXT{E:aE}(h1:E.ret 91=some (jJ prog VV 91 (pB pW)))(h2:E.bD 91=some (mY prog VV 91 (oQ pW))):pX E 91 pW:=pX.of aXQ h1 h2
theorem aXU:PW VW 113 mZ:=aXV aML rfl (aAi rfl rfl) (aMI rfl rfl) (aCN rfl rfl) (aAj rfl rfl) (aMK rfl rfl) (aAg rfl)
def VX:aE:=VW.fB 113 mZ
theorem aXW:aF prog VX:=aXS.fB follows
theorem aMM:aG VX:=aML.fB
theorem aXX{E:aE}(h1:E.ret 113=some (jJ prog VW 113 (pB mZ)))(h2:E.bD 113=some (mY prog VW 113 (oQ mZ))):pX E 113 mZ:=pX.of aXU h1 h2
theorem aXY:PW VX 92 oR:=aXZ aMM rfl (aAi rfl rfl) (aAh rfl rfl) (aCN rfl rfl) (aAj rfl rfl) (aXX rfl rfl) (aAg rfl)
def VY:aE:=VX.fB 92 oR
theorem aX0:aF prog VY:=aXW.fB follows
theorem aMN:aG VY:=aMM.fB
theorem aX1{E:aE}(h1:E.ret 92=some (jJ prog VX 92 (pB oR)))(h2:E.bD 92=some (mY prog VX 92 (oQ oR))):pX E 92 oR:=pX.of aXY h1 h2
theorem aX2:PW VY 93 nD:=aX3 aMN rfl (aAi rfl rfl) (aAh rfl rfl) (aMK rfl rfl) (aCN rfl rfl) (aAj rfl rfl) (aAg rfl)
def aGq:aE:=VY.fB 93 nD
theorem aX4:aF prog aGq:=aX0.fB follows
theorem aMO:aG aGq:=aMN.fB
theorem aX5{E:aE}(h1:E.ret 93=some (jJ prog VY 93 (pB nD)))(h2:E.bD 93=some (mY prog VY 93 (oQ nD))):pX E 93 nD:=pX.of aX2 h1 h2
def aAk:aE:=aGq.add 57 aAl
theorem aX6:aF prog aAk:=aX4.iD follows λx z hz=>by obtain⟨h,e⟩:=cX hz;cases e;exact aX7 aMO rfl x h
theorem aMP:aG aAk:=aMO.entry
noncomputable def aCO:aE:=aAk.add 41 (ND prog aAk 41 DrQ)
theorem aX8:aF prog aCO:=aX6.aMQ follows
theorem aX9:aG aCO:=aMP.other λ_ _ h=>aVT (aLS h)
theorem aYa{E:aE}(h:E.ret 41=some (ND prog aAk 41 DrQ)):RdO E:=⟨_,h,λσ l hl=>by
 obtain⟨p,σ3,h1,h2⟩:=aYb aMP (aXo rfl) (aAh rfl rfl) (aAi rfl rfl) (aAj rfl rfl) (aAg rfl) (aXT rfl rfl) (aX1 rfl rfl) (aX5 rfl rfl) rfl rfl (aCL rfl rfl) l hl σ;obtain⟨p4,dL,h3,l',h4,h5⟩:=aYc (Q:=DrQ) h1 ⟨l,rfl,h2⟩;simp only[yBx,yAV]at h4;cases aVV h4;exact⟨p4,dL,h3,h5⟩⟩
noncomputable def aGr:aE:=aCO.add 56 (ND prog aCO 56 DsQ)
theorem aYd:aF prog aGr:=aX8.aMQ follows
theorem aMR:aG aGr:=aX9.other λ_ _ h=>aVU (aLS h)
def aGs:aE:=aGr.add 35 KL
theorem aYe:aF prog aGs:=aYd.iD follows λx z hz=>by
 obtain⟨⟨⟨h1,h2⟩,h3,h4⟩,e⟩:=cX hz;cases e;obtain⟨a,b⟩:=x;obtain⟨a,rfl⟩:=yDC h1;obtain⟨b,rfl⟩:=yDC (Int.le_of_lt h3);have:=aYf aMR rfl rfl a b (by simp at h3;omega) (by simp at h2;omega) (by simp at h4;omega);exact this
theorem aMS:aG aGs:=aMR.entry
def aAm:aE:=aGs.add 12 aCP
theorem aYg:aF prog aAm:=aYe.iD follows λx z hz=>by cases hz;exact aYh aMS rfl rfl rfl x.1 x.2
theorem aMT:aG aAm:=aMS.entry
noncomputable def aAn:aE:=aAm.add 54 (oC prog aAm 54 LnQ)
theorem aYi:aF prog aAn:=aYg.aGt follows
theorem aMU:aG aAn:=aMT.oC λ_ _ h=>h.1 rfl
theorem aMV{E:aE}(h:E.ret 54=some (oC prog aAm 54 LnQ)):RZ E:=RZ.of aMT rfl rfl rfl rfl h
noncomputable def aGu:aE:=aAn.add 46 (oC prog aAn 46 StQ)
theorem aGv:aF prog aGu:=aYi.aGt follows
theorem aYj:aG aGu:=aMU.oC λ_ _ h=>h.1 rfl
theorem aYk{E:aE}(h:E.ret 46=some (oC prog aAn 46 StQ)):aAo E:=aAo.of aMU rfl (aMV rfl) rfl rfl h
def aGw:aE:=aGu.add 45 VG
theorem aYl:aF prog aGw:=aF.aYm (aF.pick aGv aGv (g:=HI) rfl) (aF.pick aVY aGv (g:=VH) rfl)
theorem aMW:aG aGw:=aVX aYj
def aGx:aE:=aGw.add 26 aCQ
theorem aYn:aF prog aGx:=aYl.iD follows λx z hz=>by obtain⟨h,e⟩:=cX hz;cases e;exact aYo aMW rfl rfl (aMV rfl) (aYk rfl) rfl rfl rfl rfl x h
theorem aMX:aG aGx:=aMW.entry
def aGy:aE:=aGx.add 21 aAp
theorem aYp:aF prog aGy:=aYn.iD follows λx z hz=>by obtain⟨h,e⟩:=cX hz;cases e;exact aYq aMX rfl rfl rfl rfl x h
theorem aMY:aG aGy:=aMX.entry
def aGz:aE:=aGy.add 16 aCR
theorem aYr:aF prog aGz:=aYp.iD follows λx z hz=>by obtain⟨h,e⟩:=cX hz;cases e;exact aYs aMY rfl rfl (aYa rfl) rfl x h
theorem aMZ:aG aGz:=aMY.entry
def aGA:aE:=aGz.add 18 gEx
theorem aYt:aF prog aGA:=aYr.OV follows λargs p hg=>by
 split at hg
 rotate_left
 .cases hg
 cases hg;obtain⟨p2,σ2,q1,q2⟩:=aYu aMZ rfl;exact⟨p2,σ2,q1,q2,rfl,rfl⟩
theorem aM0:aG aGA:=aMZ.entry
def aGB:aE:=aGA.add 11 gKn
theorem aYv:aF prog aGB:=aYt.OV follows λargs p hg=>by
 split at hg
 rotate_left
 .cases hg
 cases hg;obtain⟨p2,σ2,q1,q2⟩:=aYw aM0 rfl rfl rfl rfl rfl rfl;exact⟨p2,σ2,q1,q2,rfl,rfl⟩
theorem aM1:aG aGB:=aM0.entry
def aFR:aE:=aGB.add 15 KL
theorem aVg:aF prog aFR:=aYv.iD follows λx z hz=>by
 obtain⟨⟨⟨h1,h2⟩,h3,h4⟩,e⟩:=cX hz;cases e;obtain⟨a,b⟩:=x;obtain⟨a,rfl⟩:=yDC h1;obtain⟨b,rfl⟩:=yDC (Int.le_of_lt h3);have:=aYx aM1 rfl rfl a b (by simp at h3;omega) (by simp at h2;omega) (by simp at h4;omega);exact this
theorem aLK:aG aFR:=aM1.entry
end Go.Kz
end
