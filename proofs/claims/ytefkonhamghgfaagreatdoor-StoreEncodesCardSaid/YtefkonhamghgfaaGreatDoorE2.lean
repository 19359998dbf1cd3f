/-
  Part E2 of the way: an interpreter over pure data, its soundness, walks through functions.
-/
import Derived.Test.YtefkonhamghgfaaGreatDoorE1
set_option linter.all false

set_option maxHeartbeats 40000000
open Go.Proofs.Tryz
noncomputable section
namespace Go.Kz
open Go Go.Proofs
set_option maxRecDepth 100000
section
open Classical in
def CN(E:aD)(o:bY)(x:oZ):bY:=if h:∃o',tO o'/\RunT prog E 13 [Em.aT.U o,Em.oK.U x] (Em.aT.U o')then Classical.choose h else⟨[],[],[],[]⟩
theorem aC3{E:aD}{o:bY}{x:oZ}(h:∃o',tO o'/\RunT prog E 13 [Em.aT.U o,Em.oK.U x] (Em.aT.U o')):tO (CN E o x)/\RunT prog E 13 [Em.aT.U o,Em.oK.U x] (Em.aT.U (CN E o x)):=by
 unfold CN
 rw[dif_pos h]
 exact Classical.choose_spec h
def NW(o:bY)(x:oZ):Prop:=nP o/\Small o/\tO o/\o.cM.length<=8/\(∀d∈o.cM,d.stops.length<=60)/\wT x/\1<=o.aX.length/\1<=o.cM.length
def NU(E:aD):Nat->List PD->List aB->Option (PD×List aB):=entry (fQ Em.aT Em.oK Em.aT fun o x=>dX (NW o x) (some (CN E o x)))
theorem aMo{E:aD}{o:bY}{x:oZ}(h:NW o x)(fl:Nat)(σ:List aB):NU E fl [Em.aT.U o,Em.oK.U x] σ=some (Em.aT.U (CN E o x),σ):=by
 have e1:=Em.dC (Em.aT.str o)
 have e2:=Em.dC (Em.oK.str x)
 unfold NU entry fQ
 simp only[e1,e2]
 rw[fB h]
theorem aMp{E:aD}(hU:aI E)(h0:E 13=none){o:bY}{x:oZ}(h:NW o x):tO (CN E o x):=(aC3 (aC4 hU h0 o x h.1 h.2.1 h.2.2.1 h.2.2.2.1 h.2.2.2.2.1 h.2.2.2.2.2.1 h.2.2.2.2.2.2.1 h.2.2.2.2.2.2.2)).1
def NT:Nat->List PD->List aB->Option (PD×List aB):=entry (b9 Em.aT (bH.qR i64) fun o=>dX (pL o/\(aW o).length<=1000000) (some (if jU o=0 then(aW o,0)else([],jU o))))
theorem aMq{o:bY}(h:pL o)(hl:(aW o).length<=1000000)(fl:Nat)(σ:List aB):NT fl [Em.aT.U o] σ=some (if jU o=0 then .aH [bH.U (aW o),.int .i64 0]else .aH [.slice 0 [] .any,.int .i64 (jU o)],σ):=by
 have e1:=Em.dC (Em.aT.str o)
 unfold NT entry b9
 simp only[e1,fB (show pL o/\_ from⟨h,hl⟩)]
 split<;>rfl
def wI:List PD->Option PD
 | [.slice z xs .any]=>match rO xs with
   |some l=>dX (l.length<=1000000000/\((iG ⟨l,false⟩).2.bad=false->(iG ⟨l,false⟩).2.aJ=[]->pL (iG ⟨l,false⟩).1)/\xs=aG l/\(l=[]\/z=1)) (some ((Em.aT.qR i64).U (qH l)))
   |none=>none
 |_=>none
theorem UF{p:PD}{σ:List aB}{l:List UInt8}{z:Nat}(hp:mH σ p=.slice z (aG l) .any)(hz:l=[]\/z=1)(hl:l.length<=1000000000)(hok:(iG ⟨l,false⟩).2.bad=false->(iG ⟨l,false⟩).2.aJ=[]->pL (iG ⟨l,false⟩).1)(fl:Nat) :
  fW wI fl [p] σ=some (.aH [Em.aT.U (qH l).1,.int .i64 (qH l).2],σ):=by
 have hi:(PD.slice z (aG l) .any).aY=true:=by
  cases l with
  |nil=>rfl
  |cons b r=>rcases hz with h|h;cases h;rw[h];exact F9 (b::r)
 unfold fW
 simp only[List.map_cons,List.map_nil,hp,PD.eM,hi,Bool.and_self,if_true]
 have e:wI [.slice z (aG l) .any]=some ((Em.aT.qR i64).U (qH l)):=by
  unfold wI
  simp only[zU]
  rw[fB ⟨hl,hok,trivial,hz⟩]
 rw[e]
 have hn:(((Em.aT.qR i64).U (qH l)).fF&&((Em.aT.qR i64).U (qH l)).aY)=true:=by
  rw[(Em.aT.qR i64).dU]
  show(PD.fF (.aH [Em.aT.U (qH l).1,.int .i64 (qH l).2])&&true)=true
  simp only[PD.fF,PD.rF,aMr,Bool.and_true,Bool.true_and]
  rfl
 simp only[hn,if_true]
 rfl
theorem aMs:eA prog .eql 50 .eN .eN=some (.bool true):=rfl
variable{E E0 E1 E2 E3 E4:aD}(hU:aI E)
include hU
theorem aMi(U0:aI E0)(h00:E0 13=none)(h0:E 4=none)(h1:E 5=some UA)(h2:E 6=some NJ)(h3:E 8=some NL)(h4:E 13=some (NU E0))
  (h5:E 10=some CB) (h6:E 14=some NT) (h7:E 15=some (aO prog E1 15))
  (H7:∀(o:bY) (hok:pL o) (ho:jU o=0->pM o/\(aW o).length<=1000000) (τ:List aB) (iV:τ≠[]),aN prog E1 0 (.inl 15) [Em.aT.U o] τ (fun p σ=>dJ τ σ/\((jU o≠0/\p=.aH [.eN,.int .i64 (jU o)])\/(jU o=0/\∃k,p=.aH [.ptr k 0,.int .i64 0]/\CO σ k o))))
  (h8:E 11=some (fW sC)) (h9:E 7=some IN)
  (h10:E 16=some (aO prog E2 16))
  (H10:∀(o:bY) (hl:(aW o).length<=1000000) (τ:List aB),aN prog E2 0 (.inl 16) [Em.aT.U o] τ (fun p σ=>∃k tO tN,p=.ptr k 0/\dJ τ σ/\xY σ k [o] tO (.slice 0 [] .full) (.slice 0 [] .full) 0 [] .full [iW 0 (aW o)] tN))
  (h11:E 17=some (aO prog E3 17))
  (H11:∀(o:bY) (hok:pM o) (hoO:nP o) (hlen:(aW o).length<=900000) (τ:List aB) (km ks:Nat) {tO tN:Tok} (hm:xY τ km [o] tO (.slice 0 [] .full) (.slice 0 [] .full) 0 [] .full [iW 0 (aW o)] tN) (hs:CO τ ks o),aN prog E3 0 (.inl 17) [.ptr km 0,.ptr ks 0] τ (fun p σ=>p=.bool true/\dJ τ σ))
  (h12:E 9=some (fW wI)) (h13:E 18=some (lI prog E4 18)) (U4:aI E4) (h40:E4 18=none) (h14:E 12=some (mB Em.aT nP))
  (p:oJ) (hp:yJ p) (x:oZ) (hx:wT x) (at_:Int) (ha:0<=at_/\at_<=65535) :
  aS prog E 4 [Em.qN.U p,Em.oK.U x,.int .u16 at_] (Em.bool.U true):=by
 have k:=aMt
 have fp:=aMu p
 simp only[yK,bJ]at fp
 cases cp:mP p with
 |false=>
  rw[cp]at fp
  simp only[yK,bJ,wU]
  apply aS.aK h0 func4 rfl
  focus(simp[show Tryz.f4.ntmps=_ from rfl,List.replicate];rfl)
  have gx:=An @h1 (An @k (An @h2 (@fp)))
  refine aC ?_
  clear gx
  simp(disch:=first|omega|(simp;done)|(simp;omega)) [yAu]<;>try rfl
 |true=>
 rw[cp]at fp
 have mp:=aMv hp cp
 have sm:=aC7 p cp
 have st:=aMw p hp cp
 have hrl:1<=(kN p).aX.length/\1<=(kN p).cM.length/\(kN p).cM.length<=8/\∀d∈(kN p).cM,d.stops.length<=60:=by
  obtain⟨r1,r3,d1,d3,c3,s3⟩:=NX cp
  refine⟨by simp only[kN,NY];exact r1,by simp only[kN,I6];exact d1,by simp only[kN,I6];omega,fun d hd=>?_⟩
  obtain⟨b,hb,i,_,rfl⟩:=NZ (yAk _) hd
  have:=s3 b hb
  simp only[oS,tW,yAe,List.length_range]
  omega
 have okc:NW (kN p) x:=⟨sm.nP,sm,st,hrl.2.2.1,hrl.2.2.2,hx,hrl.1,hrl.2.1⟩
 have cx:=aMo (E:=E0) okc
 have tc:=aMp U0 h00 okc
 obtain⟨o1,mK⟩:=gn (kN p)
 rw[mK]at mp cx tc
 obtain⟨o,ho⟩:=gn (CN E0 o1 x)
 rw[ho]at cx tc
 clear ho okc hrl sm st mK
 obtain⟨kO,kR,kG,kL⟩:=tc.ok
 have cC:=fun σ=>NV kR 0 σ
 have cE:=fun σ=>aMq kR (by omega) 0 σ
 by_cases he:jU o=0
 rotate_left
 ·rw[if_neg he]at cE
  obtain⟨e,hee⟩:=gn (jU o)
  rw[hee]at cE cC he
  obtain⟨q,σ1,k7,g7,hq⟩:=(H7 o kR (fun h=>absurd (hee.symm.trans h) he) [.box (Em.qN.U p),.box (Em.oK.U x),.box (Em.aT.U o)] (by simp)).st (by simp)
  have hq:q=.aH [.eN,.int .i64 e]:=by
   rcases hq with⟨_,h⟩ | ⟨h,_⟩
   ·rw[h,hee]
   ·exact absurd (hee.symm.trans h) he
  subst hq
  replace k7:=k7.trans (show _=some (PD.aH [.eN,.int .i64 e],σ1)from rfl)
  clear hee
  obtain⟨on,rs,ds,cs⟩:=o
  obtain⟨n1,r1,d1,c1⟩:=o1
  simp only[yK,fH,wU,bJ]at mp cx cC cE k7
  simp only[yK,wU,bJ]
  apply aS.aK h0 func4 rfl
  focus(simp[show Tryz.f4.ntmps=_ from rfl,List.replicate];rfl)
  have gx:=An @h1 (An @k (An @h2 (An @fp (An @h3 (An @mp (An @h4 (An @cx (An @h5 (An @cC (An @h6 (An @cE (An @h7 (An @k7 (An @he (@aMs)))))))))))))))
  refine aC ?_
  clear gx
  simp(disch:=first|omega|(simp;done)|(simp;omega)) [yAu]<;>try rfl
 ·rw[if_pos he,rE (zT o)]at cE
  obtain⟨q,σ1,k7,g7,hq⟩:=(H7 o kR (fun h=>⟨kG,by omega⟩) [.box (Em.qN.U p),.box (Em.oK.U x),.box (Em.aT.U o)] (by simp)).st (by simp)
  rcases hq with⟨h,_⟩ | ⟨_,kk,rfl,hN⟩
  ·exact absurd he h
  replace k7:=k7.trans (show _=some (PD.aH [.ptr kk 0,.int .i64 0],σ1)from rfl)
  rw[he]at cC
  have x2:=g7.at (i:=2) rfl
  obtain⟨w2,z2⟩:=yA.1 x2
  have cL:=fun σ=>aC8 (o:=o) (by omega) 0 σ
  rw[rE (zT o)]at cL
  have cQ:∀σ,fW sC 0 [.slice 1 (aG (aW o)) .any,.slice 1 (aG (aW o)) .any] σ=some (.bool true,σ):=fun σ=>aMx (by show PD.strip _=_;rw[GB (.inr rfl),cG (zT o)]) (by show PD.strip _=_;rw[GB (.inr rfl),cG (zT o)]) (by omega) 0
  have t1:σ1≠[]:=fun e=>by rw[e]at w2;exact absurd w2 (Nat.not_lt_zero _)
  obtain⟨q,σ2,N0,km,tO,tN,rfl,g10,hM⟩:=(H10 o (by omega) σ1).st t1
  replace N0:=N0.trans (show _=some (PD.ptr km 0,σ2)from rfl)
  have t2:σ2≠[]:=fun e=>by
   have:=(yA.1 hM).1
   rw[e]at this
   exact absurd this (Nat.not_lt_zero _)
  have hN2:CO σ2 kk o:=by
   obtain⟨j,v,tS,a,b⟩:=hN
   exact⟨j,v,tS,g10.at a,g10.at b⟩
  obtain⟨q,σ3,UG,rfl,g11⟩:=(H11 o kG kO (by omega) σ2 km kk hM hN2).st t2
  replace UG:=UG.trans (show _=some (PD.bool true,σ3)from rfl)
  have g3:=(g7.trans g10).trans g11
  have I7:=g3.at (i:=2) rfl
  obtain⟨oT,pN⟩:=yA.1 I7
  have t3:σ3≠[]:=fun e=>by rw[e]at oT;exact absurd oT (Nat.not_lt_zero _)
  have hne:=zT o
  have hpos:=List.length_pos_iff.2 hne
  have GC:=aMy kG he
  have CP:=aC9 (l:=aW o++[0]) (fun h=>aDa kG 0 h.2)
  have pO:=aDa kG 0
  obtain⟨a,rfl⟩:∃a:Nat,at_=a:=⟨at_.toNat,by omega⟩
  obtain⟨j,hj⟩:=gn (a%(aW o).length)
  have hjl:j<(aW o).length:=hj▸Nat.mod_lt _ hpos
  have hm:(a:Int).tmod ((aW o).length:Int)=(j:Int):=by rw[<-hj];rfl
  have qI:=aMz kG j hjl
  have uV:=aC9 qI
  have N1:∀σ,fW wI 0 [.slice 1 (aG (aW o)) .any] σ=_:=fun σ=>UF (l:=aW o) (z:=1) (by show PD.strip _=_;rw[GB (.inr rfl),cG hne]) (.inr rfl) (by omega) (fun _ _=>by have:=GD.fwd o [] kG;rw[yAl]at this;rw[this];exact kR) 0
  rw[GC]at N1
  have UH:∀σ (id v:Nat),σ[id]?=some (.row 5 1 v (aG (aW o++[0])))->fW wI 0 [.aF id v 0 ((aW o).length+1) 1] σ=_:=fun σ id v h=>UF (l:=aW o++[0]) (z:=1) (by have:=N2 h;rwa [yAa,List.length_singleton]at this) (.inr rfl) (by rw[yAa,List.length_singleton];omega) (fun _ h=>absurd h pO) 0
  rw[CP]at UH
  have hul:=iD (aW o)
  have htk:∀t,mH t (.slice 1 (List.take j (aG (aW o))) .any)=.slice (sz 1 ((aW o).take j)) (aG ((aW o).take j)) .any:=fun t=>by
   have:List.take j (aG (aW o))=aG ((aW o).take j):=by unfold aG;rw[List.map_take]
   rw[this]
   exact GB (.inr rfl)
  have N3:∀σ,fW wI 0 [.slice 1 (List.take j (aG (aW o))) .any] σ=_:=fun σ=>UF (l:=(aW o).take j) (htk σ) (by cases(aW o).take j<;>simp[sz]) (by rw[yAt];omega) (fun h1 h2=>absurd ⟨h1,h2⟩ qI) 0
  rw[uV]at N3
  have cK:=(aDb U4 h40 0 (aW o) hne (by omega) (.slice 1 (aG (aW o)) .any) (σ3++[.box (Em.aT.U o)]) (.inl rfl)).eg (by simp)
  replace cK:=cK.trans (show _=some (PD.aF (σ3.length+1) 0 0 (aW o).length 1,σ3++[.box (Em.aT.U o),.row 5 1 0 (aG (aW o))])from by simp[PD.strip])
  have ht:iF 30 121=true:=by decide
  obtain⟨pA,σA,aA,oA,_,kA,_⟩:=tX ht (σ:=σ3++[.box (Em.aT.U o),.row 5 1 0 (aG (aW o))]) (p:=.aF (σ3.length+1) 0 0 (aW o).length 1) (bs:=aW o) (ys:=[0]) (z:=1) (tok:=.full) (.inr ⟨hne,σ3.length+1,0,rfl,by simp⟩) (.inr rfl) (by rw[yAa,List.length_singleton];omega)
  obtain⟨iA,vA,rfl,rA⟩:=oA.row (by simp)
  have nA:∀q,q≠σ3.length+1->¬kW (.aF (σ3.length+1) 0 0 (aW o).length 1) q:=fun q hq ⟨_,_,_,_,e⟩=>by cases e;exact hq rfl
  have UI:=kA 2 _ (nA 2 (by omega)) (xZ I7 _)
  have UJ:=kA σ3.length (.box (Em.aT.U o)) (nA _ (by omega)) (by simp)
  have x3:(σ3++[aB.box (Em.aT.U o)])[σ3.length]?=some (.box (Em.aT.U o)):=by simp
  have x2b:(σ3++[aB.box (Em.aT.U o)])[2]?=_:=xZ I7 _
  replace aA:=(show dS prog 121 0 (σ3++[.box (Em.aT.U o),.row 5 1 0 (aG (aW o))]) 30 (.aF (σ3.length+1) 0 0 (aW o).length 1) (.slice 1 [.int .u8 0] .full)=_ from aA)
  rw[yAa,List.length_singleton]at aA
  obtain⟨wA2,zA2⟩:=yA.1 UI
  obtain⟨wA3,zA3⟩:=yA.1 UJ
  have hle:(aW o).length<=600000:=kL
  have cZ:=fun fl σ=>wX (a:=Em.aT) (R:=nP) kO kO fl σ
  rw[decide_eq_true rfl]at cZ
  have cDA:=UH σA iA vA rA
  obtain⟨L,hL⟩:=gn (aW o)
  rw[hL]at cE cL cQ N1 cDA N3 cK hne hpos hjl hm hul hle aA
  clear hL GC CP uV pO qI htk hN hN2 hM g7 g10 g11 g3 kO kR kG kL tc hj UH rA oA kA nA
  obtain⟨on,rs,ds,cs⟩:=o
  obtain⟨n1,r1,d1,c1⟩:=o1
  simp only[yK,fH,wU,bJ]at mp cx cC cE k7 cL x2 z2 I7 pN N0 N1 cDA N3 cZ cK aA UI zA2 UJ zA3 x3 x2b
  simp only[yK,wU,bJ]
  apply aS.aK h0 func4 rfl
  focus(simp[show Tryz.f4.ntmps=_ from rfl,List.replicate];rfl)
  have gx:=An @h1 (An @k (An @h2 (An @fp (An @h3 (An @mp (An @h4 (An @cx (An @h5 (An @cC (An @h6 (An @cE (An @h7 (An @k7 (An @x2 (An @w2 (An @z2 (An @h8 (An @h9 (An @cL (An @cQ (An @h10 (An @N0 (An @h11 (An @UG (An @I7 (An @oT (An @pN (An @h12 (An @N1 (An @h13 (An @cK (An @hul (An @ht (An @aA (An @cDA (An @hm (An @hjl (An @N3 (An @UI (An @wA2 (An @zA2 (An @UJ (An @wA3 (An @zA3 (An @h14 (@cZ))))))))))))))))))))))))))))))))))))))))))))))
  refine aC ?_
  clear gx
  simp(disch:=first|omega|(simp;done)|(simp;omega)) [yAu]<;>try rfl
end
section
variable{E:aD}(hU:aI E)
include hU
theorem aLu(h0:E 14=none)(h1:E 10=some CB)(h2:E 51=some CJ)(o:bY)(hok:pL o)(hl:(aW o).length<=1000000) :
  aS prog E 14 [Em.aT.U o] ((bH.qR i64).U (if jU o=0 then(aW o,0)else([],jU o))):=by
 have kC:=fun σ=>NV hok 0 σ
 have kE:=fun σ=>UE (show(aW o).length<=1000000000 by omega) 0 σ
 by_cases he:jU o=0
 ·rw[if_pos he]
  rw[he]at kC
  have e1:(bH.qR i64).U (aW o,0)=.aH [.slice 1 (aG (aW o)) .any,.int .i64 0]:=by
   show PD.aH [bH.U (aW o),.int .i64 0]=_
   rw[rE (zT o)]
  have e2:(PD.aH [.slice 1 (aG (aW o)) .any,.int .i64 0]).strip=.aH [.slice 1 (aG (aW o)) .any,.int .i64 0]:=by rw[<-e1];exact(bH.qR i64).str _
  rw[e1]
  obtain⟨L,hL⟩:=gn (aG (aW o))
  rw[hL]at kE e2 ⊢
  obtain⟨on,rs,ds,cs⟩:=o
  simp only[fH,bJ]at kC kE
  simp only[fH,bJ]
  apply aS.aK h0 func14 rfl
  focus(simp[show Tryz.f14.ntmps=_ from rfl,List.replicate];rfl)
  have gx:=An @h1 (An @kC (An @h2 (@kE)))
  refine aC ?_
  clear gx
  exact⟨_,_,rfl,e2⟩
 ·rw[if_neg he]
  obtain⟨e,ES⟩:=gn (jU o)
  rw[ES]at he kC ⊢
  obtain⟨on,rs,ds,cs⟩:=o
  simp only[fH,bJ]at kC
  simp only[fH,bJ]
  apply aS.aK h0 func14 rfl
  focus(simp[show Tryz.f14.ntmps=_ from rfl,List.replicate];rfl)
  have gx:=An @h1 (An @kC (@he))
  refine aC ?_
  clear gx
  exact⟨_,_,rfl,rfl⟩
end
section
theorem aC5{l:List UInt8}(h:l≠[]):zQ.U (l.map fun b=>(b.toNat:Int))=.slice 1 (aG l) .any:=by
 rw[<-aMj (.inr rfl),GB (.inr rfl),cG h]
theorem aI.tail{E:aD}(hU:aI E){f:FuncId}{g}(h:∀args p,g 0 args []=some (p,[])->∀fl σ,g fl args σ=some (p,σ)):aI (E.add f g):=by
 intro f' g' args p hg ha fl σ
 unfold aD.add at hg
 split at hg
 ·simp only[yAb]at hg
  subst hg
  exact h args p ha fl σ
 ·exact hU f' g' args p hg ha fl σ
theorem aE.le'{P:Program}{E E1:aD}{f:FuncId}{g g':Nat->List PD->List aB->Option (PD×List aB)}(h:aE P E1)(hf:E1 f=some g)(hE:aE P E)(hg:∀fl args σ x,g' fl args σ=some x->g fl args σ=some x):aE P (E.add f g'):=by
 intro F fl f1 g1 args c vs p σ' hF h1 hgo hs hX hv
 unfold aD.add at h1
 split at h1
 ·rename_i e
  subst e
  simp only[yAb]at h1;subst h1
  exact h hF hf (hg _ _ _ _ hgo) hs hX hv
 ·exact hE hF h1 hgo hs hX hv
section
variable{E:aD}(hU:aI E)
include hU
theorem aMk(h0:E 20=none)(z:Nat):aS prog E 20 [.slice z [] .any] (.int .u32 1):=by
 apply aS.aK h0 func20 rfl
 focus(simp[show Tryz.f20.ntmps=_ from rfl,List.replicate];rfl)
 have gx:=True.intro
 refine aC ?_
 clear gx
 refine Wp.cJ (fun m fr σ=>∃(k:Nat),∃gg:Nat->PD,(k=0)/\fr=[.slice z [] .any,gg 1,.int .u32 0,.int .u32 1,.int .u32 0,gg 5,gg 6,.slice z [] .any,.int .i64 0,.int .i64 0,gg 10,gg 11,gg 12,gg 13,gg 14,gg 15,gg 16,gg 17,gg 18,gg 19,gg 20,gg 21,gg 22,gg 23,gg 24,gg 25,gg 26]/\σ=[]) ?_ (0) (by refine⟨0,?_⟩;exact bW (rfl))
 rintro m fr σ ⟨k,gg,hI,rfl,rfl⟩
 have gx:=True.intro
 refine aC ?_
 clear gx
 exact⟨_,_,rfl,rfl⟩
theorem aMl(h0:E 88=none)(z:Nat):aS prog E 88 [.slice z [] .any] (.int .u32 1):=by
 apply aS.aK h0 func88 rfl
 focus(simp[show Tryz.f88.ntmps=_ from rfl,List.replicate];rfl)
 have gx:=True.intro
 refine aC ?_
 clear gx
 refine Wp.cJ (fun m fr σ=>∃(k:Nat),∃gg:Nat->PD,(k=0)/\fr=[.slice z [] .any,gg 1,.int .u32 0,.int .i64 1,.int .i64 0,gg 5,gg 6,.slice z [] .any,.int .i64 0,.int .i64 0,gg 10,gg 11,gg 12,gg 13,gg 14,gg 15,gg 16,gg 17,gg 18,gg 19,gg 20,gg 21,gg 22,gg 23,gg 24,gg 25,gg 26,gg 27,gg 28]/\σ=[]) ?_ (0) (by refine⟨0,?_⟩;exact bW (rfl))
 rintro m fr σ ⟨k,gg,hI,rfl,rfl⟩
 have gx:=True.intro
 refine aC ?_
 clear gx
 exact⟨_,_,rfl,rfl⟩
theorem aLl(h0:E 20=none)(l:List UInt8)(z:Nat)(hz:l=[]\/z=1)(hl:l.length<=100000000):aS prog E 20 [.slice z (aG l) .any] (.int .u32 (pK l)):=by
 by_cases h:l=[]
 ·subst h
  exact aMk hU h0 z
 ·rcases hz with rfl|rfl
  ·exact absurd rfl h
  have:=aMm hU h0 (l.map fun b=>(b.toNat:Int)) (fun c hc=>UB hc) (by rw[yAe];omega)
  rw[aC5 h]at this
  exact this
theorem aKu(h0:E 88=none)(l:List UInt8)(z:Nat)(hz:l=[]\/z=1)(hl:l.length<=100000000):aS prog E 88 [.slice z (aG l) .any] (.int .u32 (pK l)):=by
 by_cases h:l=[]
 ·subst h
  exact aMl hU h0 z
 ·rcases hz with rfl|rfl
  ·exact absurd rfl h
  have:=aMn hU h0 (l.map fun b=>(b.toNat:Int)) (fun c hc=>UB hc) (by rw[yAe];omega)
  rw[aC5 h]at this
  exact this
end
theorem aCf{args:List PD}{p:PD}(h:tU args=some p):∃l z,args=[.slice z (aG l) .any]/\p=.int .u32 (pK l)/\l.length<=100000000/\(l=[]\/z=1):=by
 unfold tU at h
 split at h
 rotate_left
 ·cases h
 rename_i z xs
 split at h
 rotate_left
 ·cases h
 rename_i l hl
 obtain⟨⟨h1,h2,h3⟩,e⟩:=fL h
 cases e
 exact⟨l,z,by rw[h2],rfl,h1,h3⟩
theorem aJ6{args:List PD}{p:PD}(h:wI args=some p):∃l z,args=[.slice z (aG l) .any]/\p=(Em.aT.qR i64).U (qH l)/\l.length<=1000000000/\((iG ⟨l,false⟩).2.bad=false->(iG ⟨l,false⟩).2.aJ=[]->pL (iG ⟨l,false⟩).1)/\(l=[]\/z=1):=by
 unfold wI at h
 split at h
 rotate_left
 ·cases h
 rename_i z xs
 split at h
 rotate_left
 ·cases h
 rename_i l hl
 obtain⟨⟨h1,hk,h2,h3⟩,e⟩:=fL h
 cases e
 exact⟨l,z,by rw[h2],rfl,h1,hk,h3⟩
theorem aCE{args:List PD}{bs:List UInt8}(h:xX args=some bs):∃kind l z,args=[.int .i64 kind,.slice z (aG l) .any]/\bs=iW kind l/\eG kind/\l.length<=1000000/\(l=[]\/z=1):=by
 unfold xX at h
 split at h
 rotate_left
 ·cases h
 rename_i kind z xs
 split at h
 rotate_left
 ·cases h
 rename_i l hl
 obtain⟨⟨h0,h1,h2,h3⟩,e⟩:=fL h
 cases e
 exact⟨kind,l,z,by rw[h2],rfl,h0,h1,h3⟩
theorem aLo(args:List PD):xX args≠some []:=fun h=>by
 obtain⟨k,l,z,_,e,_⟩:=aCE h
 exact UC k l e.symm
theorem aCB{fl:Nat}{args:List PD}{σ:List aB}{r:PD×List aB}(h:zO fl args σ=some r):fl=0/\∃p n,args=[p,.int .u32 n]/\(0<=n/\n<4294967296)/\dS prog 19 0 σ 30 p (.slice 1 (aG (b4 n)) .full)=some r:=by
 unfold zO at h
 split at h
 ·split at h
  ·rename_i hn
   exact⟨rfl,_,_,rfl,hn,h⟩
  ·cases h
 ·cases h
theorem aLj:∀args p,zO 0 args []≠some (p,[]):=by
 intro args p h
 obtain⟨_,q,n,rfl,hn,h⟩:=aCB h
 have hl:(aG (b4 n)).length=4:=by rw[iD,tV]
 have hv:mY [] (.slice 1 (aG (b4 n)) .full)=some (1,aG (b4 n)):=rfl
 obtain⟨Y,hY⟩:=gn (aG (b4 n))
 rw[hY]at hl hv h
 have hn:¬Y.length=0:=by omega
 unfold dS at h
 split at h
 rotate_left
 ·cases h
 split at h
 rotate_left
 ·cases h
 rename_i h1 e sz' ys h2 h3
 rw[hv]at h3
 cases h3
 split at h
 rotate_left
 ·cases h
 split at h
 rotate_left
 ·cases h
 split at h
 rotate_left
 ·cases h
 split at h
 ·split at h
  ·simp at h
  ·cases h
 ·split at h
  ·simp at h
  ·cases h
 ·cases h
theorem aLx{E:aD}(hE:aE prog E):aE prog (E.add 89 zP):=by
 refine aE.le' (E1:=UD) aC6 (g:=uU prog 64 1) (by first|rfl|exact if_pos rfl) hE fun fl args σ x h=>?_
 unfold zP at h
 split at h
 ·exact h
 ·cases h
theorem aLy{E:aD}(hU:aI E):aI (E.add 89 zP):=hU.tail fun args p h fl σ=>by
 unfold zP at h ⊢
 split at h
 ·simp only[yAb,yAc,and_true]at h
  rw[h]
 ·cases h
end
end Go.Kz
end
