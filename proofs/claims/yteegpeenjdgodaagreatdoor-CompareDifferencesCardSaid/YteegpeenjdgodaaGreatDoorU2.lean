/- Steps of the proof. -/
import Derived.Test.YteegpeenjdgodaaGreatDoorU7
import Derived.Test.YteegpeenjdgodaaGreatDoorT1
import Derived.Test.YteegpeenjdgodaaGreatDoorT5
set_option linter.all false
set_option maxHeartbeats 40000000
set_option maxRecDepth 100000
open Go.Proofs.Tryz
noncomputable section
namespace Go.Kz
open Go Go.Proofs
section
def mZ(fm b:Int)(c:bR):bR:={ c with dS:=y5 fm b c.dS,dst:=y5 fm b c.dst }
def lU(fm:Int)(c:bR):Bool:=decide (c.dS=fm)||decide (c.dst=fm)
def w6(fm b:Int)(o:aM):aM:={ o with aR:=o.aR.map (mZ fm b) }
theorem aPY(k id n:Nat){t:TypeId}{e:TypeId}(ht:prog.underlying t=some (.slice e)):jE prog .len #[t] [hn k id n]=some (.int .i64 n):=by
 unfold hn;split
 .rename_i h;subst h;simp[jE,ht]
 .simp[jE,ht]
theorem aEN{α:Type}{l:List α}{i:Nat}{x:α}(h:i<l.length)(e:l[i]=x):l.set i x=l:=by rw[<-e];simp
theorem aEO(l:List bR)(i:Nat)(h:i<l.length):∃(h1:i*5+1<(iU l).length) (h2:i*5+2<(iU l).length),(iU l)[i*5+1]=.int .i64 l[i].dS/\(iU l)[i*5+2]=.int .i64 l[i].dst:=by
 have hl:=U0 l;have h5:=aLz l i h;refine⟨ye,ye,?_,?_⟩
 .have h1:=yAL (λx=>x[1]?) h5;simp only[yAv,yBl]at h1;rw[yAJ yj,yAh (show i*5+1<(iU l).length by omega)]at h1;exact yBe h1
 .have h1:=yAL (λx=>x[2]?) h5;simp only[yAv,yBl]at h1;rw[yAJ yj,yAh (show i*5+2<(iU l).length by omega)]at h1;exact yBe h1
theorem gX.linked{bP σ1:Ex}{lo:Nat}{o:aM}{p:PD}{iR iD iC:Nat}{ds:Eu}{tS:Nat->Nat}{tss:Et}{tG:Nat->Nat->Nat}{tgs:Es}{tW:Nat->Nat->Nat->Nat}{fm b:Int}(hO:gX bP lo o p iR iD iC ds tS tss tG tgs tW)
  (hk:∀(id:Nat) (x:aB),(∀n v cs,x≠.row 58 n v cs)->bP[id]?=some x->σ1[id]?=some x) (hr:0<o.aR.length->σ1[iC]?=some (.row 58 5 0 (iU (o.aR.map (mZ fm b))))):gX σ1 lo (w6 fm b o) p iR iD iC ds tS tss tG tgs tW:=by
 have kk:∀ {id:Nat} {t:TypeId} {n v:Nat} {cs:Ey},t≠58->bP[id]?=some (.row t n v cs)->σ1[id]?=some (.row t n v cs):=λht h=>hk _ _ (λn v cs e=>ht (aB.row.inj e).1) h
 obtain⟨h1,h2,h3,h4,h5,h6,h7,h8⟩:=hO;refine⟨by rw[h1];simp[w6],λh=>⟨(h2 h).1,kk yj (h2 h).2⟩,λh=>?_,h4,λh=>⟨(h5 h).1,kk yj (h5 h).2⟩,λd h=>⟨(h6 d h).1,?_⟩,h7,h8⟩
 .have h':0<o.aR.length:=by simpa [w6]using h
  refine⟨(h3 h').1,?_⟩;simp only[w6];rw[aCR];exact hr h'
 .obtain⟨a1,a2,a3,a4⟩:=(h6 d h).2;refine⟨a1,λhp=>⟨(a2 hp).1,kk yj (a2 hp).2⟩,λs h=>⟨(a3 s h).1,?_⟩,a4⟩;obtain⟨b1,b2,b3,b4⟩:=(a3 s h).2;exact⟨b1,λhp=>⟨(b2 hp).1,kk yj (b2 hp).2⟩,λg h=>⟨(b3 g h).1,λhp=>⟨((b3 g h).2 hp).1,kk yj ((b3 g h).2 hp).2⟩⟩,b4⟩
variable{E E0:aE}(hU:aH E)
include hU
theorem aIY(h0:E 48=none)(fm b:Int)(hb1:-1<=b/\b<=1)
  (o:aM) (p:PD) (bP:List aB) (lo iR iD iC:Nat) (ds:List (List PD)) (tS:Nat->Nat) (tss:Nat->List (List PD)) (tG:Nat->Nat->Nat) (tgs:Nat->Nat->List (List PD)) (tW:Nat->Nat->Nat->Nat) (hO:gX bP lo o p iR iD iC ds tS tss tG tgs tW) (hlo:lo<=bP.length) (ho:eV o)
  (hb:∀c∈o.aR,(-1000000000<=c.dS/\c.dS<=1000000000)/\-1000000000<=c.dst/\c.dst<=1000000000) :
  aL prog E 0 (.inl 48) [p,.int .i64 fm,.int .i64 b] bP (λq σ'=>∃hs:Bool,q=.bool hs/\(hs=true↔o.aR.any (lU fm)=true)/\gX σ' lo (w6 fm b o) p iR iD iC ds tS tss tG tgs tW/\bP.length<=σ'.length/\(∀id,id<lo->σ'[id]?=bP[id]?)/\∀(id:Nat) (x:aB),(∀n v cs,x≠.row 58 n v cs)->bP[id]?=some x->σ'[id]?=some x):=by
 clear hU;have hp:=hO.p;subst hp;obtain⟨hR,hhR⟩:=gn (Go.Kz.hn 6 iR o.aK.length);obtain⟨hD,hhD⟩:=gn (Go.Kz.hb 5 iD (o.aD.length-1) o.aD.length);obtain⟨hC,hhC⟩:=gn (Go.Kz.hn 5 iC o.aR.length);have lC:=aPY 5 iC o.aR.length underlying33;have pR:hR.plain=true:=Aa;have pD:hD.plain=true:=zj;have pC:hC.plain=true:=Ab;have cC:hC.cells=[hC]:=Ag;unfold PD.plain at pR pD pC;unfold PD.cells at cC;simp only[hhR,hhD,hhC]at hO lC ⊢;simp[jE,underlying33]at lC;obtain⟨L0,nF⟩:=gn (bP.length);have hcl:o.aR.length<=1000000:=ho.2.2;refine aL.aN 67 h0 func48 (h:=?_);apply WL.CD yu;apply SL.box (p:=.agg [.str o.name,hR,hD,hC]) (hw:=Wt.i rfl) (hx:=rfl) (hp:=by simp[pR,pD,pC]) (hr:=Ns.i rfl) (hn:=Ns.i rfl) (hf:=Fr.i rfl)
 repeat(first
  |(refine Fr.i ?_;simp only[aW,yAY,yAZ];try rfl)
  |(refine By.i ?_;(focus(simp(disch:=first|omega|(simp;done)|(simp;omega)) [wrap_i64,wrap_u64,lC];first|done|rfl|exact⟨rfl,rfl⟩)))
  |(refine By.i ?_;simp(disch:=first|omega|(simp;done)|(simp;omega)) [wrap_i64,wrap_u64,lC];refine⟨ze,rfl⟩)
  |(refine Wt.i ?_;first|rfl|(focus(simp[lC];done)))
  |(refine Ns.i ?_;(try simp only[yAl,yAO,yAQ,yAi,yAa,yAS,yAT,yAp,Nat.reduceAdd]);rfl)|rfl
  |(apply SL.pass;(focus(refine Wt.i ?_;rfl)))|(apply tv;(focus rfl))|apply SL.move|apply SL.assign|apply SL.load|apply SL.uW|apply tv|apply SL.make|apply SL.binOp|apply SL.append|apply tv
  |apply SL.builtin|apply SL.fieldAddr|apply SL.indexAddr|apply tv|apply SL.extract|apply SL.uX|apply SL.pick|apply SL.store|apply SL.unOp|apply SL.convert|apply SL.index|apply SL.slice|apply SL.build
  |(apply SL.LA;rotate_left;(focus rfl);rotate_right)|apply tv|apply SL.buildSlice|apply SL.box|apply SL.alloc|apply SL.makeFunc)
 apply SQ.nil;refine aC (A2 lC nF) ?_;rw[nF];obtain⟨p8,GU⟩:=gn (bP++[aB.box (.agg [.str o.name,hR,hD,hC])]);have vG:p8[L0]?=some (.box (.agg [.str o.name,hR,hD,hC])):=by rw[<-GU,<-nF];simp
 have k0:∀(id:Nat) (x:aB),bP[id]?=some x->p8[id]?=some x:=λid x h=>by rw[<-GU];exact cL h
 have l3:p8.length=L0+1:=by rw[<-GU,yAa,nF];rfl
 rw[GU];have vT:0<o.aR.length->p8[iC]?=some (.row 58 5 0 (iU o.aR)):=λhp=>by
  have h1:=(hO.aJ hp).2;rw[aCR]at h1;exact k0 _ _ h1
 refine Wp.cI (λm fr σ=>∃(i:Nat) (hs:Bool) (σ1:List aB),∃gg:Nat->PD,(i+m=o.aR.length/\p8.length<=σ1.length/\(∀(id:Nat) (x:aB),(0<o.aR.length->id≠iC)->p8[id]?=some x->σ1[id]?=some x)/\(0<o.aR.length->σ1[iC]?=some (.row 58 5 0 (iU (iY (mZ fm b) i o.aR))))/\hs=(o.aR.take i).any (lU fm))/\fr=gg 0::.int .i64 fm::.int .i64 b::.ptr L0 0::gg 4::gg 5::gg 6::.bool hs::gg 8::gg 9::gg 10::hC::.int .i64 o.aR.length::.int .i64 i::gg 14::gg 15::gg 16::gg 17::gg 18::gg 19::gg 20::gg 21::gg 22::gg 23::gg 24::gg 25::gg 26::gg 27::gg 28::gg 29::gg 30::gg 31::gg 32::gg 33::gg 34::gg 35::gg 36::gg 37::gg 38::gg 39::gg 40::gg 41::gg 42::gg 43::gg 44::gg 45::gg 46::gg 47::gg 48::gg 49::gg 50::gg 51::gg 52::gg 53::gg 54::gg 55::gg 56::gg 57::gg 58::gg 59::gg 60::gg 61::gg 62::gg 63::gg 64::gg 65::gg 66::[]/\σ=σ1) ?_ (o.aR.length) (by refine⟨0,false,p8,?_⟩;exact bG (⟨ye,yAk _,λid x _ h=>h,vT,rfl⟩))
 rintro m fr σ ⟨i,hs,σ1,gg,hI,rfl,rfl⟩
 obtain⟨hm4,vY,eR,DY,mO⟩:=hI
 by_cases hi4:i<o.aR.length
 .have q1:(i:Int)<(o.aR.length:Int):=by omega
  have hCr:hC=.aU iC 0 0 o.aR.length 5:=by rw[<-hhC];exact XC ye
  have vt:=DY ye;have vg:=eR L0 _ (λh e=>by rw[e,vT h]at vG;cases vG) vG;obtain⟨rT,yT⟩:=yA.1 vt;obtain⟨rG,yG⟩:=yA.1 vg;obtain⟨l',hl'⟩:∃l',iY (mZ fm b) i o.aR=l':=⟨_,rfl⟩;have hll:i<l'.length:=by rw[<-hl',DZ];exact hi4
  have hli:l'[i]=o.aR[i]:=by subst hl';exact XD (mZ fm b) i o.aR hi4
  have hbr:=hb _ (yAm hi4);have hms:=XE (mZ fm b) i o.aR hi4;rw[hl']at vt hms yT;have hany:(o.aR.take (i+1)).any (lU fm)=((o.aR.take i).any (lU fm)||lU fm o.aR[i]):=by
   rw[yBG hi4,List.any_append];simp
  obtain⟨⟨cn,a,d,sh,th⟩,hc⟩:∃c,o.aR[i]=c:=⟨_,rfl⟩;rw[hc]at hms hbr hany hli;simp only at hbr;have hlen:(iU l').length=l'.length*5:=U0 l';obtain⟨x1,x2,a1,a2⟩:=aEO l' i hll;rw[hli]at a1 a2;have f1:=aLA l' i hll (a+b);rw[hli]at f1;have aEP:i<(l'.set i ⟨cn,a+b,d,sh,th⟩).length:=by rw[yAD];exact hll
  have aPZ:(iU (l'.set i ⟨cn,a+b,d,sh,th⟩)).length=l'.length*5:=by rw[U0,yAD]
  obtain⟨y1,y2,b1,b2⟩:=aEO (l'.set i ⟨cn,a+b,d,sh,th⟩) i aEP;rw[yDU]at b1 b2;have f2:=aCS (l'.set i ⟨cn,a+b,d,sh,th⟩) i aEP (d+b);rw[yDU,List.set_set]at f2;have f3:=aCS l' i hll (d+b);rw[hli]at f3;simp only at f1 f2 f3 b1 b2 a1 a2;have wa:IntKind.i64.wrap (a+b)=a+b:=ym;have wd:IntKind.i64.wrap (d+b)=d+b:=ym;have oJ:nP prog 33 (.aU iC 0 0 o.aR.length 5) (.int .i64 i)=some (.dH iC 0 (i*5)):=by
   simp[oN,hi4]
  have hl5:l'.length=o.aR.length:=by rw[<-hl',DZ]
  obtain⟨fs,hfs⟩:=gn (iU l');obtain⟨GV,D0⟩:=gn (iU (l'.set i ⟨cn,a+b,d,sh,th⟩));simp only[hfs]at vt yT f1 f3 a1 a2 hlen x1 x2;simp only[D0]at f1 f2 b1 b2 aPZ y1 y2;have g1:i*5+1+1<=fs.length:=ye;have g2:i*5+2+1<=fs.length:=ye;have g3:i*5+2+1<=GV.length:=ye;simp only[eC,yAS,yAT,yAp,Nat.reduceAdd,yBX,yAi,yAQ,yAO]at f1 f2 f3;have fin:∀(l9:List bR) (vK:Bool),l9=iY (mZ fm b) (i+1) o.aR->vK=((o.aR.take i).any (lU fm)||lU fm ⟨cn,a,d,sh,th⟩)->(i+1)+(m-1)=o.aR.length/\p8.length<=(σ.set iC (.row 58 5 0 (iU l9))).length/\(∀(id:Nat) (x:aB),(0<o.aR.length->id≠iC)->p8[id]?=some x->(σ.set iC (.row 58 5 0 (iU l9)))[id]?=some x)/\(0<o.aR.length->(σ.set iC (.row 58 5 0 (iU l9)))[iC]?=some (.row 58 5 0 (iU (iY (mZ fm b) (i+1) o.aR))))/\vK=(o.aR.take (i+1)).any (lU fm):=λl9 vK h1 h2=>by
   subst h1;exact⟨ye,by rw[yAD];exact vY,λid x h hx=>by rw[yAd (yBb (h ye))];exact eR id x h hx,λ_=>yAj rT,by rw[h2,hany]⟩
  have sel:σ.set iC (.row 58 5 0 fs)=σ:=by
   exact aEN rT yT
  rw[hCr]at vg yG;rw[hCr];have hal:hs=true\/hs=false:=by cases hs<;>simp
  by_cases fN:fm<=a
  .by_cases nL:fm<=d
   .have hL:mZ fm b ⟨cn,a,d,sh,th⟩=⟨cn,a+b,d+b,sh,th⟩:=by unfold mZ y5;simp[fN,nL]
    rw[hL]at hms;rcases hal with rfl|rfl
    .have hz:=h0;refine LC xq ?_;have hF:=fin (l'.set i ⟨cn,a+b,d+b,sh,th⟩) true hms Eg;exact bz
    .by_cases e1:a=fm
     .subst e1;refine AE xq ?_;exact wo
     .by_cases e2:d=fm
      .subst e2;refine AE yb ?_;exact wo
      .have hz:=h0;refine AE xw ?_;have hF:=fin (l'.set i ⟨cn,a+b,d+b,sh,th⟩) false hms Bu;exact ga
   .have hL:mZ fm b ⟨cn,a,d,sh,th⟩=⟨cn,a+b,d,sh,th⟩:=by unfold mZ y5;simp[fN,nL]
    rw[hL]at hms;rcases hal with rfl|rfl
    .have hz:=h0;refine LC xq ?_;have hF:=fin (l'.set i ⟨cn,a+b,d,sh,th⟩) true hms Eg;rw[D0]at hF;exact bz
    .by_cases e1:a=fm
     .subst e1;refine AE xq ?_;have hF:=fin (l'.set i ⟨cn,a+b,d,sh,th⟩) true hms (by rw[<-mO];simp[lU]);rw[D0]at hF;exact bz
     .by_cases e2:d=fm
      .exact absurd e2 ye
      .have hz:=h0;refine AE xw ?_;have hF:=fin (l'.set i ⟨cn,a+b,d,sh,th⟩) false hms Bu;rw[D0]at hF;exact ga
  .by_cases nL:fm<=d
   .have hL:mZ fm b ⟨cn,a,d,sh,th⟩=⟨cn,a,d+b,sh,th⟩:=by unfold mZ y5;simp[fN,nL]
    rw[hL]at hms;rcases hal with rfl|rfl
    .have hz:=h0;refine LC xq ?_;have hF:=fin (l'.set i ⟨cn,a,d+b,sh,th⟩) true hms Eg;exact bz
    .by_cases e1:a=fm
     .exact absurd e1 ye
     .by_cases e2:d=fm
      .subst e2;refine AE yb ?_;have hF:=fin (l'.set i ⟨cn,a,d+b,sh,th⟩) true hms (by rw[<-mO];simp[lU]);exact bz
      .have hz:=h0;refine AE xw ?_;have hF:=fin (l'.set i ⟨cn,a,d+b,sh,th⟩) false hms Bu;exact ga
   .have hL:mZ fm b ⟨cn,a,d,sh,th⟩=⟨cn,a,d,sh,th⟩:=by unfold mZ y5;simp[fN,nL]
    rw[hL]at hms;have hms:l'=iY (mZ fm b) (i+1) o.aR:=by rw[<-hms];exact(aEN hll hli).symm
    rcases hal with rfl|rfl
    .have hz:=h0;refine LC xq ?_;have hF:=fin l' true hms Eg;rw[hfs,sel]at hF;exact bz
    .by_cases e1:a=fm
     .exact absurd e1 ye
     .by_cases e2:d=fm
      .exact absurd e2 ye
      .have hz:=h0;refine AE xw ?_;have hF:=fin l' false hms Bu;rw[hfs,sel]at hF;exact ga
 .have q1:¬(i:Int)<(o.aR.length:Int):=by omega
  refine aC q1 ?_;have hft:o.aR.take i=o.aR:=yAz ye;have hmx:iY (mZ fm b) i o.aR=o.aR.map (mZ fm b):=by unfold iY;rw[hft,yAs ye,yAl]
  rw[hmx]at DY;rw[hft]at mO;have hle:bP.length<=σ.length:=by rw[l3]at vY;omega
  have hkk:∀(id:Nat) (x:aB),(∀n v cs,x≠.row 58 n v cs)->bP[id]?=some x->σ[id]?=some x:=λid x ht hx=>eR id x (λhp e=>by
    have h1:=(hO.aJ hp).2;rw[<-e,hx]at h1;exact ht _ _ _ (yBe h1)) (k0 id x hx)
  refine⟨_,_,rfl,hs,rfl,by rw[mO],hO.linked hkk DY,by first|exact hle|exact nF▸hle,λid hid=>?_,hkk⟩
  .have DO:id<bP.length:=by omega
   have hx0:bP[id]?=some bP[id]:=yAh DO;rw[hx0];exact eR id _ (λhp e=>by have:=(hO.aJ hp).1;omega) (k0 id _ hx0)
end
def B7(σ:List aB)(x:PD)(k:Nat)(hs:List (List PD)):Prop:=∃z ys,u6 σ x=some (z,ys)/\(ys.length=0\/z=k)/\ys.length=hs.length/\ys.flatMap PD.cells=hs.flatten
def uT(σ:List aB)(h:PD)(k e:Nat)(gs:List (List PD)):Prop:=(gs=[]/\∃z tok,h=.slice z [] tok)\/(gs≠[]/\∃id v,h=.aU id v 0 gs.length k/\σ[id]?=some (.row e k v gs.flatten))
def o7(σ:List aB)(B:Nat)(h:PD)(k e:Nat)(gs:List (List PD)):Prop:=(gs=[]/\h=.slice k [] .full)\/(gs≠[]/\∃id v,B<=id/\h=.aU id v 0 gs.length k/\σ[id]?=some (.row e k v gs.flatten))
theorem o7.plain{σ:Ex}{B:Nat}{h:PD}{k e:Nat}{gs:Eu}(H:o7 σ B h k e gs):h.plain=true/\h.cells=[h]:=by
 rcases H with⟨_,rfl⟩ | ⟨_,id,v,_,rfl,_⟩<;>exact⟨rfl,rfl⟩
theorem G0{e t k b:Nat}(hu:prog.underlying t=some (.slice e))(hi:fT prog e=some (k,b))(ho:∀i z,prog.info? e=some i->i.zero=some z->z.cells.toList.all Value.oneCell'=true)(hb:b<=1000){σ:Ex}{B:Nat}{h x:PD}{gs hs:Eu}(hB:B<=σ.length)(hg:∀g∈gs,g.length=k)(H:o7 σ B h k e gs)(V:B7 σ x k hs)(hl:gs.length+hs.length<=1000000) :
  ∃h' σ',(∀n,gH t n=true->cX prog n 0 σ t h x=some (h',σ'))/\o7 σ' B h' k e (gs++hs)/\σ.length<=σ'.length/\∀(i:Nat) (z:aB),i<B->σ[i]?=some z->σ'[i]?=some z:=by
 obtain⟨z,ys,v1,v2,v3,v4⟩:=V;unfold fT at hi;split at hi
 rotate_left
 .cases hi
 rename_i i h1;split at hi
 rotate_left
 .cases hi
 rename_i z0 h2;split at hi
 rotate_left
 .cases hi
 rename_i h3;simp only[yAb,yAc]at hi;obtain⟨rfl,rfl⟩:=hi;have hone:=ho i z0 h1 h2;have hmm:gs.length+ys.length<=maxLen:=zi;have hbb:(gs.length+ys.length)*i.bytes<=140737488355328:=by
  have:=yDg (show gs.length+ys.length<=1000000 by omega) hb;omega
 have hsz:0<i.size:=h3.2;rcases H with⟨rfl,rfl⟩ | ⟨hne,id,v,hid,rfl,hr⟩
 .by_cases h0:ys.length=0
  .have hh:hs=[]:=yAf ye;subst hh;refine⟨.slice i.size [] .full,σ,λn hn=>?_,.inl ⟨rfl,rfl⟩,yAk _,λ_ _ _ h=>h⟩;have hfr:Tok.full.fresh=true:=rfl;simp only[yAT,yAp]at hmm hbb;simp only[cX,hn,yAK,hu,v1,h1,h2,v2,h3.1,h3.2,hone,yBx,yAT,yCB,yAp,hmm,hbb,hfr,h0,yAF,yCT]
  .have hz:z=i.size:=v2.resolve_left h0;have hh:hs≠[]:=λe=>h0 (by rw[v3,e];rfl)
   refine⟨.aU σ.length 0 0 (0+ys.length) i.size,σ++[.row e i.size 0 (([]++ys).flatMap PD.cells)],λn hn=>?_,.inr ⟨by simpa using hh,σ.length,0,hB,by simp[v3],by simp[v4]⟩,yg,λ_ _ _ h=>cL h⟩;have hfr:Tok.full.fresh=true:=rfl;simp only[yAT,yAp]at hmm hbb;simp only[cX,hn,yAK,hu,v1,h1,h2,hz,yBZ,h3.1,h3.2,hone,yBx,yAT,yCB,yAp,hmm,hbb,hfr,h0,yAN]
 .have hfl:=qT gs hg;obtain⟨r1,r2⟩:=yA.1 hr
  by_cases h0:ys.length=0
  .have hh:hs=[]:=yAf ye;subst hh;have hy:ys=[]:=yAf h0;subst hy;refine⟨.aU id v 0 gs.length i.size,σ,λn hn=>?_,.inr ⟨by simpa using hne,id,v,hid,yg,by simpa using hr⟩,yAk _,λ_ _ _ h=>h⟩;have hle:0+(gs.length+0)*i.size<=gs.flatten.length:=by rw[hfl];simp
   have hpf:eC gs.flatten (0+gs.length*i.size) []=gs.flatten:=by
    unfold eC;simp
   have hst:σ.set id (.row e i.size v gs.flatten)=σ:=by
    rw[<-r2];simp
   simp only[yAT,yBt]at hmm hbb hle;simp only[cX,hn,yAK,hu,v1,h1,h2,v2,h3.1,h3.2,hone,yBx,yAT,yCB,yAF,yBt,hmm,hbb,hr,hle,List.flatMap_nil,hpf,hst]
  .have hz:z=i.size:=v2.resolve_left h0;have hh:hs≠[]:=λe=>h0 (by rw[v3,e];rfl)
   refine⟨.aU id (v+1) 0 (gs.length+ys.length) i.size,σ.set id (.row e i.size (v+1) (gs.flatten++ys.flatMap PD.cells)),λn hn=>?_,.inr ⟨by simp[hne],id,v+1,hid,by simp[v3],by rw[yAj r1,v4];simp⟩,yg,λj z hj h=>by rw[yAd ye];exact h⟩;have hlt:¬0+(gs.length+ys.length)*i.size<=gs.flatten.length:=by
    rw[hfl,yBu];have:0<ys.length*i.size:=yCX ye hsz;omega
   simp only[cX,hn,yAK,hu,v1,h1,h2,hz,yBZ,h3.1,h3.2,hone,yBx,yAF,hmm,hbb,hr];rw[yAI hlt,yAJ ⟨trivial,hfl.symm⟩]
theorem aE1{σ:Ex}{k:Nat}{x:PD}{tok:Tok}:B7 σ (.slice k [x] tok) k [x.cells]:=⟨k,[x],rfl,.inr rfl,rfl,yg⟩
theorem aE2{σ:Ex}{id e v k n off:Nat}{gs:Eu}(hr:σ[id]?=some (.row e k v gs.flatten))(hg:∀g∈gs,g.length=k)(hn:off+n<=gs.length):B7 σ (.aU id v (off*k) n k) k ((gs.drop off).take n):=by
 have hfl:=qT gs hg;have hle:off*k+n*k<=gs.flatten.length:=by rw[hfl,<-yBu];exact yBK k hn
 refine⟨k,qO k n (gs.flatten.drop (off*k)),by simp only[u6,hr];rw[yAJ ⟨trivial,trivial,hle⟩],.inr rfl,?_,?_⟩
 .rw[yR,yAt,yBd];omega
 .rw[H4 k n _ (by rw[yBd];omega),aCQ gs off hg,aCP _ n λg h=>hg g (yBg h)]
theorem aQg{e t k b:Nat}(hu:prog.underlying t=some (.slice e))(hi:bT prog e=some k){σ:Ex}{h:PD}{gs:Eu}(hg:∀g∈gs,g.length=k)(H:uT σ h k e gs)(i:Nat)(hle:i<=gs.length) :
  ∃x,jY prog t h none (some (some (.int .i64 i))) none=some x/\B7 σ x k (gs.take i):=by
 rcases H with⟨rfl,z,tok,rfl⟩ | ⟨hne,id,v,rfl,hr⟩
 .exact gp
 .refine⟨.aU id v 0 i k,by simp[jY,hu,hi,kK,fK,hle],?_⟩;have h:=aE2 (off:=0) (n:=i) hr hg ye;rw[yCT,yCa]at h;exact h
theorem XR{e t k b:Nat}(hu:prog.underlying t=some (.slice e))(hi:bT prog e=some k){σ:Ex}{h:PD}{gs:Eu}(hg:∀g∈gs,g.length=k)(H:uT σ h k e gs)(i:Nat)(hle:i<=gs.length) :
  ∃x,jY prog t h (some (some (.int .i64 i))) none none=some x/\B7 σ x k (gs.drop i):=by
 rcases H with⟨rfl,z,tok,rfl⟩ | ⟨hne,id,v,rfl,hr⟩
 .exact gp
 .have hp:0<gs.length:=yCt.2 hne
  by_cases hlt:i<gs.length
  .refine⟨.aU id v (i*k) (gs.length-i) k,by simp[jY,hu,hi,kK,fK,hle,hlt],?_⟩;have h:=aE2 (off:=i) (n:=gs.length-i) hr hg ye;rw[yAz (by rw[yBd];omega)]at h;exact h
  .refine⟨.slice k [] .any,?_,k,[],rfl,.inl rfl,by rw[yCk ye];rfl,by rw[yCk ye];rfl⟩;have h0:¬i=0:=ye;simp[jY,hu,hi,kK,fK,hle,hlt,h0]
theorem B7.bF{σ σ':Ex}{x:PD}{k:Nat}{hs:Eu}(V:B7 σ x k hs)(hk:∀(i:Nat) (z:aB),σ[i]?=some z->σ'[i]?=some z):B7 σ' x k hs:=by
 obtain⟨z,ys,v1,v2⟩:=V;refine⟨z,ys,?_,v2⟩;unfold u6 at v1 ⊢;split at v1
 .exact v1
 .exact ua
 .exact ua
 .cases v1
theorem uT.bF{σ σ':Ex}{h:PD}{k e:Nat}{gs:Eu}(H:uT σ h k e gs)(hk:∀(i:Nat) (z:aB),σ[i]?=some z->σ'[i]?=some z):uT σ' h k e gs:=by
 rcases H with h | ⟨hn,id,v,h1,h2⟩
 .exact .inl h
 .exact .inr ⟨hn,id,v,h1,hk _ _ h2⟩
theorem o7.mono{σ:Ex}{B B':Nat}{h:PD}{k e:Nat}{gs:Eu}(H:o7 σ B h k e gs)(hb:B'<=B):o7 σ B' h k e gs:=by
 rcases H with h | ⟨hn,id,v,h0,h1,h2⟩
 .exact .inl h
 .exact .inr ⟨hn,id,v,yAW hb h0,h1,h2⟩
section
theorem aQf{α:Type}{l:List α}{i:Nat}{x:α}(h:i<l.length):l.set i x=l.take i++x::l.drop (i+1):=by rw[yEm,yAJ h]
theorem PK{t e k b:Nat}(hu:prog.underlying t=some (.slice e))(hp:fT prog e=some (k,b))(ho:∀i z,prog.info? e=some i->i.zero=some z->z.cells.toList.all Value.oneCell'=true)(hb:b<=1000)(hps:bT prog e=some k){σ ρ:Ex}{h X:PD}{gs:Eu}(i:Nat)(hρ:σ++[.box X]=ρ)(H:uT σ h k e gs)(hg:∀g∈gs,g.length=k)(hl:gs.length<=900000)(hX:X.cells.length=k) :
  (i<=gs.length->∃x1 h1 σ1 h2 σ2 x3 h3 σ3,jY prog t h none (some (some (.int .i64 i))) none=some x1/\(∀n,gH t n=true->cX prog n 0 ρ t (.slice k [] .full) x1=some (h1,σ1))/\σ1[σ.length]?=some (.box X)/\(∀n,gH t n=true->cX prog n 0 σ1 t h1 (.slice k [X] .full)=some (h2,σ2))/\jY prog t h (some (some (.int .i64 (i:Int)))) none none=some x3/\(∀n,gH t n=true->cX prog n 0 σ2 t h2 x3=some (h3,σ3))/\o7 σ3 σ.length h3 k e (dA gs 0 i X.cells)/\σ.length<=σ3.length/\∀id,id<σ.length->σ3[id]?=σ[id]?)/\(i<gs.length->∃x1 h1 σ1 x3 h3 σ3,jY prog t h none (some (some (.int .i64 i))) none=some x1/\(∀n,gH t n=true->cX prog n 0 ρ t (.slice k [] .full) x1=some (h1,σ1))/\σ1[σ.length]?=some (.box X)/\jY prog t h (some (some (.int .i64 ((i:Int)+1)))) none none=some x3/\(∀n,gH t n=true->cX prog n 0 σ1 t h1 x3=some (h3,σ3))/\o7 σ3 σ.length h3 k e (dA gs 1 i X.cells)/\σ.length<=σ3.length/\∀id,id<σ.length->σ3[id]?=σ[id]?)/\(i<gs.length->∃x1 h1 σ1 h2 σ2 x3 h3 σ3,jY prog t h none (some (some (.int .i64 i))) none=some x1/\(∀n,gH t n=true->cX prog n 0 ρ t (.slice k [] .full) x1=some (h1,σ1))/\σ1[σ.length]?=some (.box X)/\(∀n,gH t n=true->cX prog n 0 σ1 t h1 (.slice k [X] .full)=some (h2,σ2))/\jY prog t h (some (some (.int .i64 ((i:Int)+1)))) none none=some x3/\(∀n,gH t n=true->cX prog n 0 σ2 t h2 x3=some (h3,σ3))/\o7 σ3 σ.length h3 k e (dA gs 2 i X.cells)/\σ.length<=σ3.length/\∀id,id<σ.length->σ3[id]?=σ[id]?):=by
 have up0:∀(j:Nat) (z:aB),σ[j]?=some z->ρ[j]?=some z:=λj z hz=>by rw[<-hρ];exact cL hz
 have xb:ρ[σ.length]?=some (.box X):=by rw[<-hρ];simp
 have rl:ρ.length=σ.length+1:=by rw[<-hρ,yAa];rfl
 have H:=H.bF up0;have fin:∀(σ':List aB),(∀(j:Nat) (z:aB),ρ[j]?=some z->σ'[j]?=some z)->∀id,id<σ.length->σ'[id]?=σ[id]?:=λσ' h id hid=>by rw[h id _ (up0 _ _ (yAh hid)),yAh hid]
 have tl:i<=gs.length->(gs.take i).length=i:=λ_=>Ai
 have hgt:∀g∈gs.take i,g.length=k:=λg h=>hg g (yAy h)
 have hd:i<=gs.length->∃x1 h1 σ1,jY prog t h none (some (some (.int .i64 i))) none=some x1/\(∀n,gH t n=true->cX prog n 0 ρ t (.slice k [] .full) x1=some (h1,σ1))/\o7 σ1 ρ.length h1 k e (gs.take i)/\ρ.length<=σ1.length/\∀(j:Nat) (z:aB),ρ[j]?=some z->σ1[j]?=some z:=λhi=>by
  obtain⟨x1,s1,v1⟩:=aQg (b:=b) hu hps hg H i hi;obtain⟨h1,σ1,e1,o1,l1,k1⟩:=G0 hu hp ho hb (B:=ρ.length) (gs:=[]) (yAk _) (λg h=>yw) (.inl ⟨rfl,rfl⟩) v1 (by rw[tl hi];simp;omega);exact⟨x1,h1,σ1,s1,e1,o1,l1,λj z hz=>k1 j z (yA.1 hz).1 hz⟩
 have nL:∀g∈gs.take i++[X.cells],g.length=k:=λg h=>by
  rcases yBf.1 h with h|h
  .exact hgt g h
  .rw[yCy.1 h];exact hX
 refine⟨λhi=>?_,λhi=>?_,λhi=>?_⟩
 .obtain⟨x1,h1,σ1,s1,e1,o1,l1,zX⟩:=hd hi;have tl:=tl hi;obtain⟨h2,σ2,e2,o2,l2,k2⟩:=G0 hu hp ho hb (B:=ρ.length) l1 hgt o1 (aE1 (x:=X) (tok:=.full)) (by rw[tl];simp;omega);have KU:∀(j:Nat) (z:aB),ρ[j]?=some z->σ2[j]?=some z:=λj z hz=>k2 j z (yA.1 hz).1 (zX j z hz)
  obtain⟨x3,s3,v3⟩:=XR (b:=b) hu hps hg H i ye;obtain⟨h3,σ3,e3,o3,l3,k3⟩:=G0 hu hp ho hb (B:=ρ.length) (yAW l1 l2) nL o2 (v3.bF KU) (by rw[yAa,tl,yBd];simp;omega);refine⟨x1,h1,σ1,h2,σ2,x3,h3,σ3,s1,e1,zX _ _ xb,e2,s3,e3,?_,ye,fin _ λj z hz=>k3 j z (yA.1 hz).1 (KU j z hz)⟩;rw[show dA gs 0 i X.cells=gs.take i++[X.cells]++gs.drop i from by unfold dA;rw[yAJ rfl];simp];exact o3.mono ye
 .obtain⟨x1,h1,σ1,s1,e1,o1,l1,zX⟩:=hd (yCh hi);have tl:=tl (yCh hi);obtain⟨x3,s3,v3⟩:=XR (b:=b) hu hps hg H (i+1) ye;obtain⟨h3,σ3,e3,o3,l3,k3⟩:=G0 hu hp ho hb (B:=ρ.length) l1 hgt o1 (v3.bF zX) (by rw[tl,yBd];omega);rw[show(((i+1:Nat)):Int)=(i:Int)+1 by omega]at s3;refine⟨x1,h1,σ1,x3,h3,σ3,s1,e1,zX _ _ xb,s3,e3,?_,ye,fin _ λj z hz=>k3 j z (yA.1 hz).1 (zX j z hz)⟩;rw[show dA gs 1 i X.cells=gs.take i++gs.drop (i+1)from by unfold dA;rw[yAI yj,yAJ rfl]];exact o3.mono ye
 .obtain⟨x1,h1,σ1,s1,e1,o1,l1,zX⟩:=hd (yCh hi);have tl:=tl (yCh hi);obtain⟨h2,σ2,e2,o2,l2,k2⟩:=G0 hu hp ho hb (B:=ρ.length) l1 hgt o1 (aE1 (x:=X) (tok:=.full)) (by rw[tl];simp;omega);have KU:∀(j:Nat) (z:aB),ρ[j]?=some z->σ2[j]?=some z:=λj z hz=>k2 j z (yA.1 hz).1 (zX j z hz)
  obtain⟨x3,s3,v3⟩:=XR (b:=b) hu hps hg H (i+1) ye;obtain⟨h3,σ3,e3,o3,l3,k3⟩:=G0 hu hp ho hb (B:=ρ.length) (yAW l1 l2) nL o2 (v3.bF KU) (by rw[yAa,tl,yBd];simp;omega);rw[show(((i+1:Nat)):Int)=(i:Int)+1 by omega]at s3;refine⟨x1,h1,σ1,h2,σ2,x3,h3,σ3,s1,e1,zX _ _ xb,e2,s3,e3,?_,ye,fin _ λj z hz=>k3 j z (yA.1 hz).1 (KU j z hz)⟩;rw[show dA gs 2 i X.cells=gs.take i++[X.cells]++gs.drop (i+1)from by unfold dA;rw[yAI yj,yAI yj,aQf hi];simp];exact o3.mono ye
variable{E E0:aE}(hU:aH E)
include hU
theorem aPU(h0:E 47=none)(σ:List aB)(h:PD)(gs:List (List PD))(way:Int)(i:Nat)(nm tn:List UInt8)(a b sh:Int)(zw:Nat)(xs:List PD)(hx:(PD.slice zw xs .any).strip=.slice zw xs .any)(H:uT σ h 6 48 gs)(hg:∀g∈gs,g.length=6)(hl:gs.length<=900000)(hw:way=0/\i<=gs.length\/(way=1\/way=2)/\i<gs.length) :
  aL prog E 0 (.inl 47) [h,.int .i64 way,.int .i64 i,.agg [.str nm,.str tn,.int .i64 a,.int .i64 b,.int .i64 sh,.slice zw xs .any]] σ (λq σ'=>o7 σ' σ.length q 6 48 (dA gs way i [.str nm,.str tn,.int .i64 a,.int .i64 b,.int .i64 sh,.slice zw xs .any])/\σ.length<=σ'.length/\∀id,id<σ.length->σ'[id]?=σ[id]?):=by
 clear hU;obtain⟨ρ,hρ⟩:=gn (σ++[aB.box (.agg [.str nm,.str tn,.int .i64 a,.int .i64 b,.int .i64 sh,.slice zw xs .any])]);have w1:IntKind.i64.wrap ((i:Int)+1)=(i:Int)+1:=ym;obtain⟨c0,c1,c2⟩:=PK (b:=80) underlying31 yf (lJ yf) yj yf i hρ H hg hl rfl;rcases hw with⟨rfl,hi⟩ | ⟨rfl|rfl,hi⟩
 .obtain⟨x1,h1,σ1,h2,σ2,x3,h3,σ3,s1,e1,fZ,e2,s3,e3,oO⟩:=c0 hi;exact wz
 .obtain⟨x1,h1,σ1,x3,h3,σ3,s1,e1,fZ,s3,e3,oO⟩:=c1 hi;obtain⟨xr,xv⟩:=yA.1 fZ;have hz:=h0;refine aL.aN 30 h0 func47 (h:=?_);exact vr
 .obtain⟨x1,h1,σ1,h2,σ2,x3,h3,σ3,s1,e1,fZ,e2,s3,e3,oO⟩:=c2 hi;exact wz
theorem aPV(h0:E 49=none)(σ:List aB)(h:PD)(gs:List (List PD))(way:Int)(i:Nat)(nm:List UInt8)(pe:Bool)(a b:Int)(zw:Nat)(xs:List PD)(hx:(PD.slice zw xs .any).strip=.slice zw xs .any)(H:uT σ h 5 53 gs)(hg:∀g∈gs,g.length=5)(hl:gs.length<=900000)(hw:way=0/\i<=gs.length\/(way=1\/way=2)/\i<gs.length) :
  aL prog E 0 (.inl 49) [h,.int .i64 way,.int .i64 i,.agg [.str nm,.bool pe,.int .i64 a,.int .i64 b,.slice zw xs .any]] σ (λq σ'=>o7 σ' σ.length q 5 53 (dA gs way i [.str nm,.bool pe,.int .i64 a,.int .i64 b,.slice zw xs .any])/\σ.length<=σ'.length/\∀id,id<σ.length->σ'[id]?=σ[id]?):=by
 clear hU;obtain⟨ρ,hρ⟩:=gn (σ++[aB.box (.agg [.str nm,.bool pe,.int .i64 a,.int .i64 b,.slice zw xs .any])]);have w1:IntKind.i64.wrap ((i:Int)+1)=(i:Int)+1:=ym;obtain⟨c0,c1,c2⟩:=PK (b:=64) underlying32 yf (lJ yf) yj yf i hρ H hg hl rfl;rcases hw with⟨rfl,hi⟩ | ⟨rfl|rfl,hi⟩
 .obtain⟨x1,h1,σ1,h2,σ2,x3,h3,σ3,s1,e1,fZ,e2,s3,e3,oO⟩:=c0 hi;exact wI
 .obtain⟨x1,h1,σ1,x3,h3,σ3,s1,e1,fZ,s3,e3,oO⟩:=c1 hi;obtain⟨xr,xv⟩:=yA.1 fZ;have hz:=h0;refine aL.aN 30 h0 func49 (h:=?_);exact vr
 .obtain⟨x1,h1,σ1,h2,σ2,x3,h3,σ3,s1,e1,fZ,e2,s3,e3,oO⟩:=c2 hi;exact wI
theorem aPW(h0:E 50=none)(σ:List aB)(h:PD)(gs:List (List PD))(way:Int)(i:Nat)(nm:List UInt8)(a b:Int)(zw:Nat)(xs:List PD)(hx:(PD.slice zw xs .any).strip=.slice zw xs .any)(H:uT σ h 4 56 gs)(hg:∀g∈gs,g.length=4)(hl:gs.length<=900000)(hw:way=0/\i<=gs.length\/(way=1\/way=2)/\i<gs.length) :
  aL prog E 0 (.inl 50) [h,.int .i64 way,.int .i64 i,.agg [.str nm,.int .i64 a,.int .i64 b,.slice zw xs .any]] σ (λq σ'=>o7 σ' σ.length q 4 56 (dA gs way i [.str nm,.int .i64 a,.int .i64 b,.slice zw xs .any])/\σ.length<=σ'.length/\∀id,id<σ.length->σ'[id]?=σ[id]?):=by
 clear hU;obtain⟨ρ,hρ⟩:=gn (σ++[aB.box (.agg [.str nm,.int .i64 a,.int .i64 b,.slice zw xs .any])]);have w1:IntKind.i64.wrap ((i:Int)+1)=(i:Int)+1:=ym;obtain⟨c0,c1,c2⟩:=PK (b:=56) underlying51 yf (lJ yf) yj yf i hρ H hg hl rfl;rcases hw with⟨rfl,hi⟩ | ⟨rfl|rfl,hi⟩
 .obtain⟨x1,h1,σ1,h2,σ2,x3,h3,σ3,s1,e1,fZ,e2,s3,e3,oO⟩:=c0 hi;exact wJ
 .obtain⟨x1,h1,σ1,x3,h3,σ3,s1,e1,fZ,s3,e3,oO⟩:=c1 hi;obtain⟨xr,xv⟩:=yA.1 fZ;have hz:=h0;refine aL.aN 30 h0 func50 (h:=?_);exact vr
 .obtain⟨x1,h1,σ1,h2,σ2,x3,h3,σ3,s1,e1,fZ,e2,s3,e3,oO⟩:=c2 hi;exact wJ
theorem aPX(h0:E 51=none)(σ:List aB)(h:PD)(gs:List (List PD))(way:Int)(i:Nat)(nm:List UInt8)(a b sh:Int)(th:Bool)(H:uT σ h 5 58 gs)(hg:∀g∈gs,g.length=5)(hl:gs.length<=900000)(hw:way=0/\i<=gs.length\/(way=1\/way=2)/\i<gs.length) :
  aL prog E 0 (.inl 51) [h,.int .i64 way,.int .i64 i,.agg [.str nm,.int .i64 a,.int .i64 b,.int .i64 sh,.bool th]] σ (λq σ'=>o7 σ' σ.length q 5 58 (dA gs way i [.str nm,.int .i64 a,.int .i64 b,.int .i64 sh,.bool th])/\σ.length<=σ'.length/\∀id,id<σ.length->σ'[id]?=σ[id]?):=by
 clear hU;obtain⟨ρ,hρ⟩:=gn (σ++[aB.box (.agg [.str nm,.int .i64 a,.int .i64 b,.int .i64 sh,.bool th])]);have w1:IntKind.i64.wrap ((i:Int)+1)=(i:Int)+1:=ym;obtain⟨c0,c1,c2⟩:=PK (b:=48) underlying33 yf (lJ yf) yj yf i hρ H hg hl rfl;rcases hw with⟨rfl,hi⟩ | ⟨rfl|rfl,hi⟩
 .obtain⟨x1,h1,σ1,h2,σ2,x3,h3,σ3,s1,e1,fZ,e2,s3,e3,oO⟩:=c0 hi;exact vo
 .obtain⟨x1,h1,σ1,x3,h3,σ3,s1,e1,fZ,s3,e3,oO⟩:=c1 hi;obtain⟨xr,xv⟩:=yA.1 fZ;have hz:=h0;refine aL.aN 30 h0 func51 (h:=?_);refine aC (A9 @s1 e1 s3 e3 w1 hρ fZ xr xv) ?_;exact ec
 .obtain⟨x1,h1,σ1,h2,σ2,x3,h3,σ3,s1,e1,fZ,e2,s3,e3,oO⟩:=c2 hi;exact vo
end
theorem aPQ:uM Em.div:=λd=>by
 rw[nN];refine .agg _ λc hc=>?_
 simp only[yBD,yCA,yCN]at hc;rcases hc with rfl|rfl|rfl|rfl|rfl
 .exact .str _
 .exact .bool _
 .exact ey
 .exact ey
 .exact N1 aCZ 4 _
theorem mJ.hq{α:Type}{em:Em α}{sz e id v L:Nat}{σ:Ex}{gs:Eu}{l:List α}(h1:sz≠1)(hr:0<l.length->σ[id]?=some (.row e sz v gs.flatten))(hg:0<l.length->∀g∈gs,g.length=sz)(hl:0<l.length->gs.length=l.length)(hL:1<=L)
  (h:∀i (hi:i<l.length) (hi2:i<gs.length),s4 em σ L gs[i] l[i]):mJ em sz σ (L+1) (Go.Kz.hq sz id v l.length) l:=λK=>by
 by_cases h0:l.length=0
 .obtain rfl:=yAf h0;obtain⟨M,rfl⟩:∃M,L=M+1:=⟨L-1,ye⟩;exact JI sz 0 σ (K+M) .any
 .rw[GS ye];exact jl
theorem aPR{σ:Ex}{lo:Nat}{ds:List cT}{id:Nat}(h:BE σ lo ds id):mJ Em.draw 2 σ 2 (Go.Kz.hq 2 id 0 ds.length) ds:=by
 refine mJ.hq (L:=1) (gs:=ds.map λw=>[PD.int .i64 w.aG,.int .i64 w.shift]) yj (λhp=>(h hp).2) (λ_ g hg=>by obtain⟨w,_,rfl⟩:=yAw.1 hg;rfl) (λ_=>yAe ..) (yAk _) λi hi hi2=>?_
 rw[yBE];exact BD UY _ CC σ
theorem aEM{σ:Ex}{lo:Nat}{s:bU}{iG:Nat}{gs:Eu}{iW:Nat->Nat}(h:rY σ lo s iG gs iW):mJ Em.eU 3 σ 3 (Go.Kz.hq 3 iG (s.aO.length-1) s.aO.length) s.aO:=by
 refine mJ.hq (L:=2) (gs:=gs) yj (λhp=>(h.row hp).2) (λ_=>zH h.len λi hi=>⟨_,(h.at_ i hi).1,rfl⟩) (λ_=>h.len) ye λi hi hi2=>?_
 have h1:=h.at_ i hi;have e:=(yA.1 h1.1).2;rw[e];exact aCM (L:=1) (aPR h1.2)
theorem aPS{σ:Ex}{lo:Nat}{d:bD}{iS:Nat}{ss:Eu}{tG:Nat->Nat}{tgs:Et}{tW:Nat->Nat->Nat}(h:mN σ lo d iS ss tG tgs tW):mJ Em.stop 4 σ 4 (Go.Kz.hq 4 iS (d.stops.length-1) d.stops.length) d.stops:=by
 refine mJ.hq (L:=3) (gs:=ss) yj (λhp=>(h.row hp).2) (λ_=>zH h.len λi hi=>⟨_,(h.at_ i hi).1,rfl⟩) (λ_=>h.len) ye λi hi hi2=>?_
 have h1:=h.at_ i hi;have e:=(yA.1 h1.1).2;rw[e];exact UW (L:=2) (aEM h1.2)
theorem rY.kept{σ σ':Ex}{lo:Nat}{s:bU}{iG:Nat}{gs:Eu}{iW:Nat->Nat}(h:rY σ lo s iG gs iW)(k:cF BC σ σ'):rY σ' lo s iG gs iW:=by
 obtain⟨h2,h3,h4,h5⟩:=h;exact⟨h2,λhp=>⟨(h3 hp).1,k _ _ _ _ _ (.inl rfl) (h3 hp).2⟩,λg h=>⟨(h4 g h).1,λhp=>⟨((h4 g h).2 hp).1,k _ _ _ _ _ (.inr rfl) ((h4 g h).2 hp).2⟩⟩,h5⟩
theorem mN.aCK{σ σ':Ex}{lo:Nat}{d:bD}{iS:Nat}{ss:Eu}{tG:Nat->Nat}{tgs:Et}{tW:Nat->Nat->Nat}(h:mN σ lo d iS ss tG tgs tW)(hr:0<d.stops.length->σ'[iS]?=σ[iS]?)(k:cF BC σ σ'):mN σ' lo d iS ss tG tgs tW:=by
 obtain⟨h2,h3,h4,h5⟩:=h;exact⟨h2,λhp=>⟨(h3 hp).1,(hr hp).trans (h3 hp).2⟩,λs h=>⟨(h4 s h).1,(h4 s h).2.kept k⟩,h5⟩
theorem mN.kept{σ σ':Ex}{lo:Nat}{d:bD}{iS:Nat}{ss:Eu}{tG:Nat->Nat}{tgs:Et}{tW:Nat->Nat->Nat}(h:mN σ lo d iS ss tG tgs tW)(k:cF oI σ σ'):mN σ' lo d iS ss tG tgs tW:=
 h.aCK (λhp=>(k _ _ _ _ _ (.inl rfl) (h.row hp).2).trans (h.row hp).2.symm) (k.mono λ_=>.inr)
theorem mN.DE{σ:Ex}{lo:Nat}{d:bD}{iS:Nat}{ss:Eu}{tG:Nat->Nat}{tgs:Et}{tW:Nat->Nat->Nat}(h:mN σ lo d iS ss tG tgs tW):rQ Em.div 7 oI σ [.str d.name,.bool d.eG,.int .i64 d.low,.int .i64 d.high,Go.Kz.hq 4 iS (d.stops.length-1) d.stops.length] d:=λσ' k=>(UX (L:=3) (aPS (h.kept k))).up ye
theorem rY.DE{σ:Ex}{lo:Nat}{s:bU}{iG:Nat}{gs:Eu}{iW:Nat->Nat}(h:rY σ lo s iG gs iW):rQ Em.stop 6 BC σ [.str s.name,.int .i64 s.num,.int .i64 s.den,Go.Kz.hq 3 iG (s.aO.length-1) s.aO.length] s:=λσ' k=>(UW (L:=2) (aEM (h.kept k))).up ye
def BZ{α:Type}(em:Em α)(sz:Nat)(e:TypeId)(N:Nat)(R:TypeId->Prop)(σ:List aB)(P:PD)(l:List α):Prop:=∃gs,uT σ P sz e gs/\(∀g∈gs,g.length=sz)/\eP (rQ em N R σ) gs l
theorem BZ.nE{α:Type}{em:Em α}{sz:Nat}{e:TypeId}{R R':TypeId->Prop}{σ:Ex}{P:PD}{l:List α}(h:BZ em sz e 7 R σ P l)(h1:1<sz)(hr:∀t,t=e\/R t->R' t):fP em sz R' σ P l:=by
 obtain⟨gs,H,hg,hA⟩:=h;rcases H with⟨rfl,z,tok,rfl⟩ | ⟨hne,id,v,rfl,dK⟩
 .have:l=[]:=yAf hA.len.symm;subst this;exact⟨rfl,rfl,λσ' _ K=>JI sz z σ' (K+6) tok⟩
 .rw[hA.len];exact fP.row h1 dK (hr _ (.inl rfl)) (λt ht=>hr t (.inr ht)) (λ_ _ _ _ _ _ h=>h) hg hA
theorem o7.nE{α:Type}{em:Em α}{sz N B:Nat}{e:TypeId}{R R':TypeId->Prop}{σ σ':Ex}{P:PD}{gs:Eu}{l:List α}(H:o7 σ' B P sz e gs)(h1:1<sz)(hr:∀t,t=e\/R t->R' t)(hg:∀g∈gs,g.length=sz)(hA:eP (rQ em (N+1) R σ) gs l)(hK:cF R σ σ'):∀τ,cF R' σ' τ->∀K,(aZ τ (K+(N+2)) P).strip=(em.list sz).aA l/\(aZ τ (K+(N+2)) P).bI=true:=λτ dX K=>by
 rcases H with⟨rfl,rfl⟩ | ⟨hne,id,v,_,rfl,dK⟩
 .have:l=[]:=yAf hA.len.symm;subst this;exact JI sz sz τ (K+N) .full
 .rw[hA.len];exact aLy h1 dK (hr _ (.inl rfl)) (λt ht=>hr t (.inr ht)) hK hg hA τ dX K
theorem KR{σ:Ex}{lo:Nat}{o:aM}{p:PD}{iR iD iC:Nat}{ds:Eu}{tS:Nat->Nat}{tss:Et}{tG:Nat->Nat->Nat}{tgs:Es}{tW:Nat->Nat->Nat->Nat}(h:gX σ lo o p iR iD iC ds tS tss tG tgs tW) :
  BZ Em.aG 6 48 7 uL σ (Go.Kz.hn 6 iR o.aK.length) o.aK/\BZ Em.div 5 53 7 oI σ (Go.Kz.hb 5 iD (o.aD.length-1) o.aD.length) o.aD/\BZ Em.aJ 5 58 7 uL σ (Go.Kz.hn 5 iC o.aR.length) o.aR:=by
 have cl:∀ {α:Type} {em:Em α} {f:α->Ey} {sz e id:Nat} (hc:uM em) (hf:∀x,em.aA x=.agg (f x)) (hs:∀x,(f x).length=sz) (l:List α) (hr:0<l.length->σ[id]?=some (.row e sz 0 ((l.map em.aA).flatMap PD.cells))),BZ em sz e 7 uL σ (Go.Kz.hn sz id l.length) l:=fun {α em f sz e id} hc hf hs l hr=>by
  refine⟨l.map f,?_,λg hg=>by obtain⟨x,_,rfl⟩:=yAw.1 hg;exact hs x,eP.of (yAe ..) λi h1 h2 σ' _=>?_⟩
  .by_cases h0:l=[]
   .subst h0;exact .inl ⟨rfl,_,_,rfl⟩
   .have hp:0<l.length:=yCt.2 h0;refine .inr ⟨by simpa using h0,id,0,by rw[XC hp,yAe],?_⟩;rw[<-aCN hf];exact hr hp
  .rw[yBE];exact(BD hc _ (hf _) σ').up ye
 refine⟨cl UU (λ_=>oD) (λ_=>rfl) _ λhp=>(h.aG hp).2,⟨ds,?_,zH h.len λi hi=>⟨_,(h.at_ i hi).1,rfl⟩,eP.of h.len λi h1 h2=>?_⟩,cl UZ (λ_=>G9) (λ_=>rfl) _ λhp=>(h.aJ hp).2⟩
 .by_cases h0:o.aD=[]
  .have hd:ds=[]:=yAf (by rw[h.len,h0];rfl);exact .inl ⟨hd,0,.full,by rw[h0];rfl⟩
  .have hp:0<o.aD.length:=yCt.2 h0;exact .inr ⟨λe=>Ep,iD,o.aD.length-1,by rw[B0 hp,h.len],(h.row hp).2⟩
 .exact jx
theorem aPT{σ:Ex}{lo:Nat}{d:bD}{iS:Nat}{ss:Eu}{tG:Nat->Nat}{tgs:Et}{tW:Nat->Nat->Nat}(h:mN σ lo d iS ss tG tgs tW):BZ Em.stop 4 56 6 BC σ (Go.Kz.hq 4 iS (d.stops.length-1) d.stops.length) d.stops:=by
 refine⟨ss,?_,zH h.len λi hi=>⟨_,(h.at_ i hi).1,rfl⟩,eP.of h.len λi h1 h2=>?_⟩
 .by_cases h0:d.stops=[]
  .have hd:ss=[]:=yAf (by rw[h.len,h0];rfl);exact .inl ⟨hd,0,.any,by rw[h0];rfl⟩
  .have hp:0<d.stops.length:=yCt.2 h0;exact .inr ⟨λe=>Ep,iS,d.stops.length-1,by rw[GS hp,h.len],(h.row hp).2⟩
 .exact jx
theorem tI{R:TypeId->Prop}{σ σ':Ex}(h:∀id,id<σ.length->σ'[id]?=σ[id]?):cF R σ σ':=λid t n v cs _ hy=>(h id (yA.1 hy).1).trans hy
def BY{α:Type}(E:aE)(f:FuncId)(em:Em α)(sz:Nat)(e:TypeId)(N:Nat)(R R':TypeId->Prop):Prop:=∀(σ:List aB) (P:PD) (l:List α) (way:Int) (i:Nat) (x:α),BZ em sz e (N+1) R σ P l->l.length<=900000->(way=0/\i<=l.length\/(way=1\/way=2)/\i<l.length) ->
 aL prog E 0 (.inl f) [P,.int .i64 way,.int .i64 i,em.aA x] σ (λQ σ'=>(Q.plain=true/\Q.cells=[Q]/\∀τ,cF R' σ' τ->∀K,(aZ τ (K+(N+2)) Q).strip=(em.list sz).aA (dA l way i x)/\(aZ τ (K+(N+2)) Q).bI=true)/\σ.length<=σ'.length/\∀id,id<σ.length->σ'[id]?=σ[id]?)
theorem aI5{E:aE}(hU:aH E)(h0:E 47=none):BY E 47 Em.aG 6 48 6 uL sV:=by
 intro σ P l way i x h hl hw;obtain⟨gs,H,hg,hA⟩:=h;have hlen:=hA.len;obtain⟨nm,tn,a,b,c,w⟩:=x;have hy:rQ Em.aG 7 uL σ [.str nm,.str tn,.int .i64 a,.int .i64 b,.int .i64 c,.slice (sz 1 w) (w.map i64.aA) .any] ⟨nm,tn,a,b,c,w⟩:=λσ' _=>(BD UU ⟨nm,tn,a,b,c,w⟩ rfl σ').up (show 1<=7 by decide)
 refine(aPU hU h0 σ P gs way i nm tn a b c (sz 1 w) (w.map i64.aA) (xO i64 1 w .any) H hg ye Da).mono λq σ' ⟨o1,o2,o3⟩=>?_
 exact jh
theorem aI7{E:aE}(hU:aH E)(h0:E 49=none):BY E 49 Em.div 5 53 6 oI sW:=by
 intro σ P l way i x h hl hw;obtain⟨gs,H,hg,hA⟩:=h;have hlen:=hA.len;obtain⟨nm,pe,a,b,w⟩:=x;have hy:rQ Em.div 7 oI σ [.str nm,.bool pe,.int .i64 a,.int .i64 b,.slice (sz 4 w) (w.map Em.stop.aA) .any] ⟨nm,pe,a,b,w⟩:=λσ' _=>(BD aPQ ⟨nm,pe,a,b,w⟩ rfl σ').up (show 1<=7 by decide)
 refine(aPV hU h0 σ P gs way i nm pe a b (sz 4 w) (w.map Em.stop.aA) (xO Em.stop 4 w .any) H hg ye Da).mono λq σ' ⟨o1,o2,o3⟩=>?_
 exact jz
theorem aI9{E:aE}(hU:aH E)(h0:E 50=none):BY E 50 Em.stop 4 56 5 BC oI:=by
 intro σ P l way i x h hl hw;obtain⟨gs,H,hg,hA⟩:=h;have hlen:=hA.len;obtain⟨nm,a,b,w⟩:=x;have hy:rQ Em.stop 6 BC σ [.str nm,.int .i64 a,.int .i64 b,.slice (sz 3 w) (w.map Em.eU.aA) .any] ⟨nm,a,b,w⟩:=λσ' _=>(BD aCZ ⟨nm,a,b,w⟩ rfl σ').up (show 1<=6 by decide)
 refine(aPW hU h0 σ P gs way i nm a b (sz 3 w) (w.map Em.eU.aA) (xO Em.eU 3 w .any) H hg ye Da).mono λq σ' ⟨o1,o2,o3⟩=>?_
 exact jz
theorem aJb{E:aE}(hU:aH E)(h0:E 51=none):BY E 51 Em.aJ 5 58 6 uL sX:=by
 intro σ P l way i x h hl hw;obtain⟨gs,H,hg,hA⟩:=h;have hlen:=hA.len;obtain⟨nm,a,b,c,th⟩:=x;have hy:rQ Em.aJ 7 uL σ [.str nm,.int .i64 a,.int .i64 b,.int .i64 c,.bool th] ⟨nm,a,b,c,th⟩:=λσ' _=>(BD UZ ⟨nm,a,b,c,th⟩ rfl σ').up (show 1<=7 by decide)
 refine(aPX hU h0 σ P gs way i nm a b c th H hg ye Da).mono λq σ' ⟨o1,o2,o3⟩=>?_
 exact jh
def y8:Nat->List PD->List aB->Option (PD×List aB):=entry (bZ Em.edit (i64.rJ i64) λx=>dY (VZ x.kind) (some ((IntKind.i64.wrap (x.kind-1)).tdiv 3,(IntKind.i64.wrap (x.kind-1)).tmod 3)))
theorem GQ{x:bJ}(h:1<=x.kind/\x.kind<=13)(fl:Nat)(σ:List aB):y8 fl [Em.edit.aA x] σ=some (.aP [.int .i64 ((x.kind-1)/3),.int .i64 ((x.kind-1)%3)],σ):=by
 have e1:=Em.cO (Em.edit.str x);have hw:IntKind.i64.wrap (x.kind-1)=x.kind-1:=ym;unfold y8 entry bZ;simp only[e1,gO (show VZ x.kind from⟨ye,ye⟩),hw];rw[yEn ye,yDz ye];rfl
def y9:Nat->List PD->List aB->Option (PD×List aB):=entry (bZ Em.edit Em.bool λx=>dY ((1<=x.kind/\x.kind<=13)/\fO x) (some (decide (gQ x=0))))
theorem GP{x:bJ}(h:(1<=x.kind/\x.kind<=13)/\fO x)(fl:Nat)(σ:List aB):y9 fl [Em.edit.aA x] σ=some (.bool (decide (gQ x=0)),σ):=by
 have e1:=Em.cO (Em.edit.str x);unfold y9 entry bZ;simp only[e1,gO h];rfl
def zV(w i n:Int):Bool:=decide (i<0\/n<i\/(w≠0/\i=n))
def DB:Nat->List PD->List aB->Option (PD×List aB):=entry (wH i64 i64 i64 Em.bool λw i n=>some (zV w i n))
theorem PA(w i n:Int)(fl:Nat)(σ:List aB):DB fl [.int .i64 w,.int .i64 i,.int .i64 n] σ=some (.bool (zV w i n),σ):=by
 have e:∀z:Int,i64.dec (.int .i64 z)=some z:=λz=>Em.cO (i64.str z)
 unfold DB entry wH;simp only[e];rfl
def sS(wy:Int):Int:=if wy=0 then 1 else if wy=1 then -1 else 0
def FT(wy i:Int)(r:bB)(o:aM):aM:={ lH (kQ i (sS wy)) o with aK:=dA o.aK wy i.toNat r }
def FV(wy i:Int)(d:bD)(o:aM):aM:={ w6 i (sS wy) o with aD:=dA o.aD wy i.toNat d }
def IY(i:Int)(o:aM):Prop:=∃d∈o.aD,∃s∈d.stops,∃g∈s.aO,g.aT.any (uI i)=true
def I0(i:Int)(o:aM):Prop:=o.aR.any (lU i)=true
def vF(bad conf:Prop)(EO:aM)(p:PD)(σ:List aB):Prop:=(bad/\p=.aP [fY,.int .i64 10])\/(¬bad/\conf/\p=.aP [fY,.int .i64 14])\/(¬bad/\¬conf/\∃P1 P2 P3,p=.aP [if bS EO=0 then .agg [.str EO.name,P1,P2,P3]else oZ,.int .i64 (bS EO)]/\fP Em.aG 6 sV σ P1 EO.aK/\fP Em.div 5 sW σ P2 EO.aD/\fP Em.aJ 5 sX σ P3 EO.aR)
def F0(E:aE):Prop:=∀(o:aM) (ho:eV o) (τ:List aB),aL prog E 0 (.inl 44) [Em.bH.aA o] τ (λp σ'=>(∃iR iD iC ds tS tss tG tgs tW,gX σ' τ.length o p iR iD iC ds tS tss tG tgs tW)/\τ.length<=σ'.length/\∀id,id<τ.length->σ'[id]?=τ[id]?)
def aBC(E:aE):Prop:=∀(fm b:Int) (hb1:-1<=b/\b<=1) (o:aM) (p:PD) (bP:List aB) (lo iR iD iC:Nat) (ds:List (List PD)) (tS:Nat->Nat) (tss:Nat->List (List PD)) (tG:Nat->Nat->Nat) (tgs:Nat->Nat->List (List PD)) (tW:Nat->Nat->Nat->Nat) (hO:gX bP lo o p iR iD iC ds tS tss tG tgs tW) (hlo:lo<=bP.length) (ho:eV o)
    (hb:∀d∈o.aD,∀s∈d.stops,∀g∈s.aO,∀w∈g.aT,-1000000000<=w.aG/\w.aG<=1000000000),
    aL prog E 0 (.inl 46) [p,.int .i64 fm,.int .i64 b] bP (λq σ'=>∃hs:Bool,q=.bool hs/\(hs=true↔IY fm o)/\gX σ' lo (lH (kQ fm b) o) p iR iD iC ds tS tss tG tgs tW/\bP.length<=σ'.length/\(∀id,id<lo->σ'[id]?=bP[id]?)/\∀(id:Nat) (x:aB),(∀n v cs,x≠.row 89 n v cs)->bP[id]?=some x->σ'[id]?=some x)
def aBD(E:aE):Prop:=∀(fm b:Int) (hb1:-1<=b/\b<=1) (o:aM) (p:PD) (bP:List aB) (lo iR iD iC:Nat) (ds:List (List PD)) (tS:Nat->Nat) (tss:Nat->List (List PD)) (tG:Nat->Nat->Nat) (tgs:Nat->Nat->List (List PD)) (tW:Nat->Nat->Nat->Nat) (hO:gX bP lo o p iR iD iC ds tS tss tG tgs tW) (hlo:lo<=bP.length) (ho:eV o)
    (hb:∀c∈o.aR,(-1000000000<=c.dS/\c.dS<=1000000000)/\-1000000000<=c.dst/\c.dst<=1000000000),
    aL prog E 0 (.inl 48) [p,.int .i64 fm,.int .i64 b] bP (λq σ'=>∃hs:Bool,q=.bool hs/\(hs=true↔I0 fm o)/\gX σ' lo (w6 fm b o) p iR iD iC ds tS tss tG tgs tW/\bP.length<=σ'.length/\(∀id,id<lo->σ'[id]?=bP[id]?)/\∀(id:Nat) (x:aB),(∀n v cs,x≠.row 58 n v cs)->bP[id]?=some x->σ'[id]?=some x)
theorem gX.bF{σ σ':Ex}{lo:Nat}{o:aM}{p:PD}{iR iD iC:Nat}{ds:Eu}{tS:Nat->Nat}{tss:Et}{tG:Nat->Nat->Nat}{tgs:Es}{tW:Nat->Nat->Nat->Nat}(h:gX σ lo o p iR iD iC ds tS tss tG tgs tW)(hk:∀(id:Nat) (o:aB),lo<=id->σ[id]?=some o->σ'[id]?=some o):gX σ' lo o p iR iD iC ds tS tss tG tgs tW:=
 { h with aG:=λq=>⟨(h.aG q).1,hk _ _ (h.aG q).1 (h.aG q).2⟩,aJ:=λq=>⟨(h.aJ q).1,hk _ _ (h.aJ q).1 (h.aJ q).2⟩,row:=λq=>⟨(h.row q).1,hk _ _ (h.row q).1 (h.row q).2⟩,at_:=λd hd=>⟨(h.at_ d hd).1,(h.at_ d hd).2.len,λq=>⟨((h.at_ d hd).2.row q).1,hk _ _ ((h.at_ d hd).2.row q).1 ((h.at_ d hd).2.row q).2⟩,λs hs=>⟨((h.at_ d hd).2.at_ s hs).1,((h.at_ d hd).2.at_ s hs).2.bF (yAk _) hk⟩,(h.at_ d hd).2.inj⟩ }
theorem PC{w i:Int}{n:Nat}(h:mL w i n)(hw:w=0\/w=1\/w=2):zV w i n=false:=by
 unfold mL at h;unfold zV;rw[yDW];rcases hw with rfl|rfl|rfl<;>simp at h ⊢<;>omega
theorem PB{w i:Int}{n:Nat}(h:¬mL w i n)(hw:w=0\/w=1\/w=2):zV w i n=true:=by
 unfold mL at h;unfold zV;rw[yBY];rcases hw with rfl|rfl|rfl<;>simp at h ⊢<;>omega
theorem PE{wy:Int}{i n:Nat}(h:mL wy (i:Int) n)(hw:wy=0\/wy=1\/wy=2):wy=0/\i<=n\/(wy=1\/wy=2)/\i<n:=by
 have h2:=h.2;rcases hw with rfl|rfl|rfl<;>simp at h2 ⊢<;>omega
theorem PF:sS 0=1:=rfl
theorem PG:sS 1=-1:=rfl
theorem PH:sS 2=0:=rfl
section
variable{E E1 E3 E5 Eo:aE}
theorem aJa(h0:E 18=none)(h1:E 43=some y9)(h2:E 44=some (gP prog E1 44))(H2:F0 E1)(h3:E 39=some y8)(h4:E 45=some DB)(h5:E 51=some (gP prog E3 51))(H5:BY E3 51 Em.aJ 5 58 6 uL sX)(h6:E 27=some (pL (oY prog Eo 27)))(H6:∀o,dP o->aI prog Eo 27 [Em.bH.aA o] (i64.aA (bS o)))
  (o:aM) (x:bJ) (ho:eV o) (hx:fO x) (hf:gQ x=0) (hk:10<=x.kind/\x.kind<=12) (hsm:o.aR.length<=900000) (hokr:dP (zT ((x.kind-1)%3) x.idx x.aJ o)) :
  aL prog E 0 (.inl 18) [Em.bH.aA o,Em.edit.aA x] [] (vF (¬mL ((x.kind-1)%3) x.idx o.aR.length) (False) (zT ((x.kind-1)%3) x.idx x.aJ o)):=by
 have hn:1<=x.kind/\x.kind<=13:=ye;have k1:=λfl σ=>GP (x:=x) ⟨hn,hx⟩ fl σ
 rw[hf,yAV rfl]at k1;have k3:=λfl σ=>GQ (x:=x) hn fl σ
 have hth:(x.kind-1)/3=3:=ye;rw[hth]at k3;obtain⟨wy,hwy⟩:=gn ((x.kind-1)%3);have iL:wy=0\/wy=1\/wy=2:=ye;rw[hwy]at k3 hokr;rw[hwy];have k2:=(H2 o ho [.box (Em.bH.aA o),.box (Em.edit.aA x),.box (.agg [.str [],.slice 0 [] .full,.slice 0 [] .full,.slice 0 [] .full])]).e0 yg;obtain⟨p,σ1,k2,⟨iR,iD,iC,ds,tS,tss,tG,tgs,tW,hO⟩,hl1,hk1⟩:=k2;have hp:=hO.p;subst hp;have b0:=hk1 0 yg;have b1:=hk1 1 yg;have b2:=hk1 2 yg;simp only[yBC,yBT]at b0 b1 b2;obtain⟨hR,hhR⟩:=gn (Go.Kz.hn 6 iR o.aK.length);obtain⟨hD,hhD⟩:=gn (Go.Kz.hb 5 iD (o.aD.length-1) o.aD.length);obtain⟨hC,hhC⟩:=gn (Go.Kz.hn 5 iC o.aR.length);have pR:hR.plain=true:=Aa;have pD:hD.plain=true:=zj;have pC:hC.plain=true:=Ab;have cR:hR.cells=[hR]:=Al;have cD:hD.cells=[hD]:=zq;have cC:hC.cells=[hC]:=Ag;unfold PD.plain at pR pD pC;unfold PD.cells at cR cD cC;simp only[hhR,hhD,hhC]at hO k2;obtain⟨OB,hOB⟩:=gn (σ1.length);have O9:3<=OB:=Bn;obtain⟨σ2,dB⟩:=gn (σ1++[aB.box (.agg [.str o.name,hR,hD,hC])]);have p6:gX σ2 3 o (.agg [.str o.name,hR,hD,hC]) iR iD iC ds tS tss tG tgs tW:=Ae;have p7:3<=σ2.length:=Bv;have BJ:σ2≠[]:=λe=>Ba
 have jS:∀x y:aB,(σ1++[x]).set OB y=σ1++[y]:=λx y=>Aj
 have jO:∀x:aB,(σ1++[x])[OB]?=some x:=λx=>Aj
 have c3:σ2[OB]?=some (.box (.agg [.str o.name,hR,hD,hC])):=Bo;have k4:=λfl σ=>PA wy x.idx (o.aR.length:Nat) fl σ
 obtain⟨kd,dv,ix,nm,⟨rn,rt,ra,rb,rf,wd⟩,⟨fn,fp,flo,fhi,fs⟩,⟨sn,sa,sb,sg⟩,⟨cn,ca,cb,cs,ct⟩⟩:=x;obtain⟨on,rs,dd,cc⟩:=o;simp only[eI,iA,aV]at k1 k2 k3 b0 b1 b2 hk hwy;simp only[eI,iA,aV];have n1:¬kd<1:=ye;have n2:¬13<kd:=ye;have c0:=cL (τ:=[aB.box (.agg [.str on,hR,hD,hC])]) b0;have c1:=cL (τ:=[aB.box (.agg [.str on,hR,hD,hC])]) b1;have c2:=cL (τ:=[aB.box (.agg [.str on,hR,hD,hC])]) b2;simp only at dB c3;rw[dB]at c0 c1 c2;obtain⟨w0,z0⟩:=yA.1 c0;obtain⟨w1,z1⟩:=yA.1 c1;obtain⟨w2,z2⟩:=yA.1 c2;obtain⟨w3,z3⟩:=yA.1 c3
 by_cases hb:mL wy ix cc.length
 rotate_left
 .exact bf
 have km:=PC hb iL;simp only[km]at k4;obtain⟨i,rfl⟩:∃i:Nat,ix=i:=⟨ix.toNat,Dq⟩;have hw:=PE hb iL;obtain⟨σ3,GB⟩:=gn (σ2);have GR:=p6;have u0:=c0;have u1:=c1;have u2:=c2;have u3:=c3;rw[GB]at GR u0 u1 u2 u3;obtain⟨v0,y0⟩:=yA.1 u0;obtain⟨v1,y1⟩:=yA.1 u1;obtain⟨v2,y2⟩:=yA.1 u2;obtain⟨v3,y3⟩:=yA.1 u3;have hV:=KR GR;simp only[hhR,hhD,hhC]at hV;have n3:σ3≠[]:=λe=>by rw[e]at u0;cases u0
 have k5:=(H5 σ3 hC cc wy i ⟨cn,ca,cb,cs,ct⟩ hV.2.2 hsm hw).e0 n3;obtain⟨Q,gE,k5,⟨pQ,cQ,lQ⟩,vY,eR⟩:=k5;have s0:=(eR 0 v0).trans u0;have s1:=(eR 1 v1).trans u1;have s2:=(eR 2 v2).trans u2;have s3:=(eR OB v3).trans u3;have lQ:fP Em.aJ 5 sX gE Q (dA cc wy i ⟨cn,ca,cb,cs,ct⟩):=⟨pQ,cQ,lQ⟩;unfold PD.plain at pQ;unfold PD.cells at cQ;obtain⟨f0,d0⟩:=yA.1 s0;obtain⟨f1,d1⟩:=yA.1 s1;obtain⟨f2,d2⟩:=yA.1 s2;obtain⟨f3,d3⟩:=yA.1 s3;obtain⟨eM,iH⟩:=gn (gE.set OB (.box (.agg [.str on,hR,hD,Q])));have kS:∀R,cF R gE eM:=λR=>Dj
 have a5:eM[OB]?=some (.box (.agg [.str on,hR,hD,Q])):=Ek;have t2:eM[2]?=some (.box (.agg [.str [],.slice 0 [] .full,.slice 0 [] .full,.slice 0 [] .full])):=by rw[<-iH,yAd ye];exact s2
 have m1:=(hV.1.nE (R':=sV) yj (λt ht=>ht.elim id False.elim)).bF ((tI eR).trans (kS _));have m2:=(hV.2.1.nE (R':=sW) yj (λt ht=>ht)).bF ((tI eR).trans (kS _));have m3:=lQ.bF (kS _);simp only[G9]at k5;have zU:=λfl=>JH (on:=on) m1 m2 m3 (H6 _ hokr) fl
 obtain⟨e,he⟩:=gn (bS (zT wy i ⟨cn,ca,cb,cs,ct⟩ ⟨on,rs,dd,cc⟩));have k6:∀fl,pL (oY prog Eo 27) fl [.agg [.str on,hR,hD,Q]] eM=some (.int .i64 e,eM):=λfl=>Bg
 obtain⟨r5,x5⟩:=yA.1 a5;obtain⟨r2,x2⟩:=yA.1 t2;unfold vF;rw[he]
 by_cases hz:e=0
 .subst hz;rcases iL with rfl|rfl|rfl
  iterate 3
   have DW:=h0;refine aL.aN 166 h0 func18 (h:=?_);refine aC (A20 h1 k1 h2 k2 h3 k3 n1 n2 hOB jO jS dB c0 c1 c2 c3 w0 w1 w2 (A20 w3 @z0 z1 @z2 @z3 pR pD pC cR cD cC h4 k4 GB h5 k5 u0 u1 u2 (A20 u3 @v0 @v1 @v2 @v3 y0 y1 y2 y3 s0 @s1 @s2 s3 @f0 @f1 @f2 @f3 @d0 @d1 (A20 @d2 @d3 pQ cQ iH h6 k6 @a5 r5 x5 @t2 r2 x2 pR pD pC cR cD cC (A2 pQ cQ))))) ?_;refine⟨.aP [.agg [.str on,hR,hD,Q],.int .i64 0],eM.set 2 (.box (.agg [.str on,hR,hD,Q])),?_,.inr (.inr ⟨λh=>h hb,id,hR,hD,Q,rfl,m1.bF (cF.set t2 _),m2.bF (cF.set t2 _),m3.bF (cF.set t2 _)⟩)⟩;simp[eF,r2]
 .have jI:=hz;rcases iL with rfl|rfl|rfl
  iterate 3
   have DW:=h0;refine aL.aN 166 h0 func18 (h:=?_);refine aC (A20 h1 k1 h2 k2 h3 k3 n1 n2 hOB jO jS dB c0 c1 c2 c3 w0 w1 w2 (A20 w3 @z0 z1 @z2 @z3 pR pD pC cR cD cC h4 k4 GB h5 k5 u0 u1 u2 (A20 u3 @v0 @v1 @v2 @v3 y0 y1 y2 y3 s0 @s1 @s2 s3 @f0 @f1 @f2 @f3 @d0 @d1 (A20 @d2 @d3 pQ cQ iH h6 k6 @hz @a5 r5 x5 @t2 r2 x2 pR pD pC cR cD (A3 cC pQ cQ))))) ?_;refine⟨.aP [oZ,.int .i64 e],eM.set 2 (.box oZ),?_,.inr (.inr ⟨λh=>h hb,id,hR,hD,Q,by rw[yAI hz],m1.bF (cF.set t2 _),m2.bF (cF.set t2 _),m3.bF (cF.set t2 _)⟩)⟩;simp[eF,r2,oZ]
end
section
variable{E E1 E3 E5 Eo:aE}
theorem aI3(h0:E 18=none)(h1:E 43=some y9)(h2:E 44=some (gP prog E1 44))(H2:F0 E1)(h3:E 39=some y8)(h6:E 27=some (pL (oY prog Eo 27)))(H6:∀o,dP o->aI prog Eo 27 [Em.bH.aA o] (i64.aA (bS o)))
  (o:aM) (x:bJ) (ho:eV o) (hx:fO x) (hf:gQ x=0) (hk:13<=x.kind/\x.kind<=13) (hokr:dP ({ o with name:=x.name })) :
  aL prog E 0 (.inl 18) [Em.bH.aA o,Em.edit.aA x] [] (vF (False) (False) ({ o with name:=x.name })):=by
 have hn:1<=x.kind/\x.kind<=13:=ye;have k1:=λfl σ=>GP (x:=x) ⟨hn,hx⟩ fl σ
 rw[hf,yAV rfl]at k1;have k3:=λfl σ=>GQ (x:=x) hn fl σ
 have hth:(x.kind-1)/3=4:=ye;rw[hth]at k3;obtain⟨wy,hwy⟩:=gn ((x.kind-1)%3);have iL:wy=0\/wy=1\/wy=2:=ye;rw[hwy]at k3;have k2:=(H2 o ho [.box (Em.bH.aA o),.box (Em.edit.aA x),.box (.agg [.str [],.slice 0 [] .full,.slice 0 [] .full,.slice 0 [] .full])]).e0 yg;obtain⟨p,σ1,k2,⟨iR,iD,iC,ds,tS,tss,tG,tgs,tW,hO⟩,hl1,hk1⟩:=k2;have hp:=hO.p;subst hp;have b0:=hk1 0 yg;have b1:=hk1 1 yg;have b2:=hk1 2 yg;simp only[yBC,yBT]at b0 b1 b2;obtain⟨hR,hhR⟩:=gn (Go.Kz.hn 6 iR o.aK.length);obtain⟨hD,hhD⟩:=gn (Go.Kz.hb 5 iD (o.aD.length-1) o.aD.length);obtain⟨hC,hhC⟩:=gn (Go.Kz.hn 5 iC o.aR.length);have pR:hR.plain=true:=Aa;have pD:hD.plain=true:=zj;have pC:hC.plain=true:=Ab;have cR:hR.cells=[hR]:=Al;have cD:hD.cells=[hD]:=zq;have cC:hC.cells=[hC]:=Ag;unfold PD.plain at pR pD pC;unfold PD.cells at cR cD cC;simp only[hhR,hhD,hhC]at hO k2;obtain⟨OB,hOB⟩:=gn (σ1.length);have O9:3<=OB:=Bn;obtain⟨σ2,dB⟩:=gn (σ1++[aB.box (.agg [.str o.name,hR,hD,hC])]);have p6:gX σ2 3 o (.agg [.str o.name,hR,hD,hC]) iR iD iC ds tS tss tG tgs tW:=Ae;have p7:3<=σ2.length:=Bv;have BJ:σ2≠[]:=λe=>Ba
 have jS:∀x y:aB,(σ1++[x]).set OB y=σ1++[y]:=λx y=>Aj
 have jO:∀x:aB,(σ1++[x])[OB]?=some x:=λx=>Aj
 have c3:σ2[OB]?=some (.box (.agg [.str o.name,hR,hD,hC])):=Bo;obtain⟨kd,dv,ix,nm,⟨rn,rt,ra,rb,rf,wd⟩,⟨fn,fp,flo,fhi,fs⟩,⟨sn,sa,sb,sg⟩,⟨cn,ca,cb,cs,ct⟩⟩:=x;obtain⟨on,rs,dd,cc⟩:=o;simp only[eI,iA,aV]at k1 k2 k3 b0 b1 b2 hk hwy;simp only[eI,iA,aV];have n1:¬kd<1:=ye;have n2:¬13<kd:=ye;have c0:=cL (τ:=[aB.box (.agg [.str on,hR,hD,hC])]) b0;have c1:=cL (τ:=[aB.box (.agg [.str on,hR,hD,hC])]) b1;have c2:=cL (τ:=[aB.box (.agg [.str on,hR,hD,hC])]) b2;simp only at dB c3;rw[dB]at c0 c1 c2;obtain⟨w0,z0⟩:=yA.1 c0;obtain⟨w1,z1⟩:=yA.1 c1;obtain⟨w2,z2⟩:=yA.1 c2;obtain⟨w3,z3⟩:=yA.1 c3;obtain rfl:kd=13:=ye;obtain⟨eM,iH⟩:=gn (σ2.set OB (.box (.agg [.str nm,hR,hD,hC])));have hO5:gX eM 3 ⟨on,rs,dd,cc⟩ (.agg [.str on,hR,hD,hC]) iR iD iC ds tS tss tG tgs tW:=by rw[<-iH,<-dB,jS];exact hO.bF λid y _ hy=>cL hy
 have hV:=KR hO5;simp only[hhR,hhD,hhC]at hV;have m1:=hV.1.nE (R':=sV) yj (λt ht=>ht.elim id False.elim);have m2:=hV.2.1.nE (R':=sW) yj (λt ht=>ht);have m3:=hV.2.2.nE (R':=sX) yj (λt ht=>ht.elim id False.elim);have a5:eM[OB]?=some (.box (.agg [.str nm,hR,hD,hC])):=by rw[<-iH];exact yAj w3
 have t2:eM[2]?=some (.box (.agg [.str [],.slice 0 [] .full,.slice 0 [] .full,.slice 0 [] .full])):=by rw[<-iH,yAd ye];exact c2
 have aQh:wy=0:=ye;subst aQh;have pQ:=pR;have cQ:=cR;have zU:=λfl=>JH (on:=nm) m1 m2 m3 (H6 _ hokr) fl
 obtain⟨e,he⟩:=gn (bS (⟨nm,rs,dd,cc⟩));have k6:∀fl,pL (oY prog Eo 27) fl [.agg [.str nm,hR,hD,hC]] eM=some (.int .i64 e,eM):=λfl=>Bg
 obtain⟨r5,x5⟩:=yA.1 a5;obtain⟨r2,x2⟩:=yA.1 t2;unfold vF;rw[he]
 by_cases hz:e=0
 .subst hz;refine aL.aN 166 h0 func18 (h:=?_);refine aC (A20 h1 k1 h2 k2 h3 k3 n1 n2 hOB jO jS dB c0 c1 c2 c3 w0 w1 w2 (A20 w3 @z0 z1 @z2 @z3 pR pD pC cR cD cC iH h6 k6 @a5 r5 x5 @t2 r2 (A9 x2 pR pD pC cR cD cC pQ cQ))) ?_;refine⟨.aP [.agg [.str nm,hR,hD,hC],.int .i64 0],eM.set 2 (.box (.agg [.str nm,hR,hD,hC])),?_,.inr (.inr ⟨id,id,hR,hD,hC,rfl,m1.bF (cF.set t2 _),m2.bF (cF.set t2 _),m3.bF (cF.set t2 _)⟩)⟩;simp[eF,r2]
 .have jI:=hz;refine aL.aN 166 h0 func18 (h:=?_);refine aC (A20 h1 k1 h2 k2 h3 k3 n1 n2 hOB jO jS dB c0 c1 c2 c3 w0 w1 w2 (A20 w3 @z0 z1 @z2 @z3 pR pD pC cR cD cC iH h6 k6 @hz @a5 r5 x5 @t2 (A10 r2 x2 pR pD pC cR cD cC pQ cQ))) ?_;refine⟨.aP [oZ,.int .i64 e],eM.set 2 (.box oZ),?_,.inr (.inr ⟨id,id,hR,hD,hC,by rw[yAI hz],m1.bF (cF.set t2 _),m2.bF (cF.set t2 _),m3.bF (cF.set t2 _)⟩)⟩;simp[eF,r2,oZ]
end
section
variable{E:aE}
theorem aI1(h0:E 18=none)(o:aM)(x:bJ)(hk:¬(1<=x.kind/\x.kind<=13)) :
  aL prog E 0 (.inl 18) [Em.bH.aA o,Em.edit.aA x] [] (λp σ=>p=.aP [fY,.int .i64 12]):=by
 obtain⟨kd,dv,ix,nm,⟨rn,rt,ra,rb,rf,wd⟩,⟨fn,fp,flo,fhi,fs⟩,⟨sn,sa,sb,sg⟩,⟨cn,ca,cb,cs,ct⟩⟩:=x;obtain⟨on,rs,dd,cc⟩:=o;simp only[eI,iA,aV]at hk ⊢
 by_cases n1:kd<1
 .have hz:=h0;refine aL.aN 166 h0 func18 (h:=?_);refine aC n1 ?_;exact⟨.aP [fY,.int .i64 12],_,by simp[eF,fY];rfl,rfl⟩
 .have n2:13<kd:=by omega
  have hz:=h0;refine aL.aN 166 h0 func18 (h:=?_);refine aC (A2 n1 n2) ?_;exact⟨.aP [fY,.int .i64 12],_,by simp[eF,fY];rfl,rfl⟩
theorem aI2(h0:E 18=none)(h1:E 43=some y9)(o:aM)(x:bJ)(hx:fO x)(hk:1<=x.kind/\x.kind<=13)(hf:gQ x≠0) :
  aL prog E 0 (.inl 18) [Em.bH.aA o,Em.edit.aA x] [] (λp σ=>p=.aP [fY,.int .i64 7]):=by
 have k1:=λfl σ=>GP (x:=x) ⟨hk,hx⟩ fl σ
 rw[yBc hf]at k1;obtain⟨kd,dv,ix,nm,⟨rn,rt,ra,rb,rf,wd⟩,⟨fn,fp,flo,fhi,fs⟩,⟨sn,sa,sb,sg⟩,⟨cn,ca,cb,cs,ct⟩⟩:=x;obtain⟨on,rs,dd,cc⟩:=o;simp only[eI,iA,aV]at hk k1 ⊢;have n1:¬kd<1:=ye;have n2:¬13<kd:=ye;refine aL.aN 166 h0 func18 (h:=?_);refine aC (A4 n1 n2 h1 k1) ?_;exact⟨.aP [fY,.int .i64 7],_,by simp[eF,fY];rfl,rfl⟩
end
end Go.Kz
end
