/- Steps of the proof. -/
import Derived.Test.YteegpeenjdgodaaGreatDoorU7
import Derived.Test.YteegpeenjdgodaaGreatDoorT1b
import Derived.Test.YteegpeenjdgodaaGreatDoorT5b
set_option linter.all false
set_option maxHeartbeats 40000000
set_option maxRecDepth 100000
open Go.Proofs.Tryz
noncomputable section
namespace Go.Kz
open Go Go.Proofs
section
def oZ(fm b:Int)(c:cJ):cJ:={ c with dJ:=BQ fm b c.dJ,dst:=BQ fm b c.dst }
def nV(fm:Int)(c:cJ):Bool:=decide (c.dJ=fm)||decide (c.dst=fm)
def zO(fm b:Int)(o:aY):aY:={ o with aL:=o.aL.map (oZ fm b) }
theorem aSw(k id n:Nat){t:TypeId}{e:TypeId}(ht:prog.underlying t=some (.slice e)):gF prog .len #[t] [hn k id n]=some (.int .i64 n):=by
 unfold hn;split
 .exact tq
 .simp[gF,ht]
theorem aGE{α:Type}{l:List α}{i:Nat}{x:α}(h:i<l.length)(e:l[i]=x):l.set i x=l:=by rw[<-e];simp
theorem aGF(l:List cJ)(i:Nat)(h:i<l.length):∃(h1:i*5+1<(jL l).length) (h2:i*5+2<(jL l).length),(jL l)[i*5+1]=.int .i64 l[i].dJ/\(jL l)[i*5+2]=.int .i64 l[i].dst:=by
 have hl:=L8 l;have h5:=aEI l i h;refine⟨Cd,Cd,?_,?_⟩
 .have h1:=yAL (λx=>x[1]?) h5;simp only[yAv,yBh]at h1;rw[yAJ Ch,yAh (show i*5+1<(jL l).length by omega)]at h1;exact yAS h1
 .have h1:=yAL (λx=>x[2]?) h5;simp only[yAv,yBh]at h1;rw[yAJ Ch,yAh (show i*5+2<(jL l).length by omega)]at h1;exact yAS h1
theorem jR.linked{aV σ1:Jj}{lo:Nat}{o:aY}{p:PD}{iR iD iC:Nat}{ds:Jh}{tS:Nat->Nat}{tss:Jg}{tG:Nat->Nat->Nat}{tgs:Jf}{tW:Nat->Nat->Nat->Nat}{fm b:Int}(hO:jR aV lo o p iR iD iC ds tS tss tG tgs tW)
  (hk:∀(id:Nat) (x:aA),(∀n v cs,x≠.row 58 n v cs)->aV[id]?=some x->σ1[id]?=some x) (hr:0<o.aL.length->σ1[iC]?=some (.row 58 5 0 (jL (o.aL.map (oZ fm b))))):jR σ1 lo (zO fm b o) p iR iD iC ds tS tss tG tgs tW:=by
 have kk:∀ {id:Nat} {t:TypeId} {n v:Nat} {cs:Jk},t≠58->aV[id]?=some (.row t n v cs)->σ1[id]?=some (.row t n v cs):=λht h=>hk _ _ (λn v cs e=>ht (aA.row.inj e).1) h
 obtain⟨h1,h2,h3,h4,h5,h6,h7,h8⟩:=hO;refine⟨by rw[h1];simp[zO],λh=>⟨(h2 h).1,kk Ch (h2 h).2⟩,λh=>?_,h4,λh=>⟨(h5 h).1,kk Ch (h5 h).2⟩,λd h=>⟨(h6 d h).1,?_⟩,h7,h8⟩
 .have h':0<o.aL.length:=by simpa [zO]using h
  refine⟨(h3 h').1,?_⟩;simp only[zO];rw[Q8];exact hr h'
 .obtain⟨a1,a2,a3,a4⟩:=(h6 d h).2;refine⟨a1,λhp=>⟨(a2 hp).1,kk Ch (a2 hp).2⟩,λs h=>⟨(a3 s h).1,?_⟩,a4⟩;obtain⟨b1,b2,b3,b4⟩:=(a3 s h).2;exact⟨b1,λhp=>⟨(b2 hp).1,kk Ch (b2 hp).2⟩,λg h=>⟨(b3 g h).1,λhp=>⟨((b3 g h).2 hp).1,kk Ch ((b3 g h).2 hp).2⟩⟩,b4⟩
variable{E E0:aE}(hU:aJ E)
include hU
theorem aKl(h0:E 48=none)(fm b:Int)(hb1:-1<=b/\b<=1)
  (o:aY) (p:PD) (aV:List aA) (lo iR iD iC:Nat) (ds:List (List PD)) (tS:Nat->Nat) (tss:Nat->List (List PD)) (tG:Nat->Nat->Nat) (tgs:Nat->Nat->List (List PD)) (tW:Nat->Nat->Nat->Nat) (hO:jR aV lo o p iR iD iC ds tS tss tG tgs tW) (hlo:lo<=aV.length) (ho:fX o)
  (hb:∀c∈o.aL,(-1000000000<=c.dJ/\c.dJ<=1000000000)/\-1000000000<=c.dst/\c.dst<=1000000000) :
  aK prog E 0 (.inl 48) [p,.int .i64 fm,.int .i64 b] aV (λq σ'=>∃hs:Bool,q=.bool hs/\(hs=true↔o.aL.any (nV fm)=true)/\jR σ' lo (zO fm b o) p iR iD iC ds tS tss tG tgs tW/\aV.length<=σ'.length/\(∀id,id<lo->σ'[id]?=aV[id]?)/\∀(id:Nat) (x:aA),(∀n v cs,x≠.row 58 n v cs)->aV[id]?=some x->σ'[id]?=some x):=by
 clear hU;have hp:=hO.p;subst hp;obtain⟨hR,hhR⟩:=gn (Go.Kz.hn 6 iR o.aQ.length);obtain⟨hD,hhD⟩:=gn (Go.Kz.hb 5 iD (o.aD.length-1) o.aD.length);obtain⟨hC,hhC⟩:=gn (Go.Kz.hn 5 iC o.aL.length);have lC:=aSw 5 iC o.aL.length underlying33;have pR:hR.plain=true:=Dl;have pD:hD.plain=true:=Cy;have pC:hC.plain=true:=Dm;have cC:hC.cells=[hC]:=Dv;unfold PD.plain at pR pD pC;unfold PD.cells at cC;simp only[hhR,hhD,hhC]at hO lC ⊢;simp[gF,underlying33]at lC;obtain⟨L0,lO⟩:=gn (aV.length);have hcl:o.aL.length<=1000000:=ho.2.2;refine aK.aG 67 h0 func48 (h:=?_);apply WL.tI Cj;apply SL.box (p:=.agg [.str o.name,hR,hD,hC]) (hw:=Wt.i rfl) (hx:=rfl) (hp:=Gv) (hr:=Ns.i rfl) (hn:=Ns.i rfl) (hf:=Fr.i rfl);refine TD lC ?_;apply SQ.nil;refine aC (A2 lC lO) ?_;rw[lO];obtain⟨oL,DW⟩:=gn (aV++[aA.box (.agg [.str o.name,hR,hD,hC])]);have vG:oL[L0]?=some (.box (.agg [.str o.name,hR,hD,hC])):=by rw[<-DW,<-lO];simp
 have k0:∀(id:Nat) (x:aA),aV[id]?=some x->oL[id]?=some x:=λid x h=>by rw[<-DW];exact bR h
 have l3:oL.length=L0+1:=by rw[<-DW,yAa,lO];rfl
 rw[DW];have vT:0<o.aL.length->oL[iC]?=some (.row 58 5 0 (jL o.aL)):=λhp=>by
  have h1:=(hO.bF hp).2;rw[Q8]at h1;exact k0 _ _ h1
 refine Wp.dW (λm fr σ=>∃(i:Nat) (hs:Bool) (σ1:List aA),∃gg:Nat->PD,(i+m=o.aL.length/\oL.length<=σ1.length/\(∀(id:Nat) (x:aA),(0<o.aL.length->id≠iC)->oL[id]?=some x->σ1[id]?=some x)/\(0<o.aL.length->σ1[iC]?=some (.row 58 5 0 (jL (kL (oZ fm b) i o.aL))))/\hs=(o.aL.take i).any (nV fm))/\fr=gg 0::.int .i64 fm::.int .i64 b::.ptr L0 0::gg 4::gg 5::gg 6::.bool hs::gg 8::gg 9::gg 10::hC::.int .i64 o.aL.length::.int .i64 i::gg 14::gg 15::gg 16::gg 17::gg 18::gg 19::gg 20::gg 21::gg 22::gg 23::gg 24::gg 25::gg 26::gg 27::gg 28::gg 29::gg 30::gg 31::gg 32::gg 33::gg 34::gg 35::gg 36::gg 37::gg 38::gg 39::gg 40::gg 41::gg 42::gg 43::gg 44::gg 45::gg 46::gg 47::gg 48::gg 49::gg 50::gg 51::gg 52::gg 53::gg 54::gg 55::gg 56::gg 57::gg 58::gg 59::gg 60::gg 61::gg 62::gg 63::gg 64::gg 65::gg 66::[]/\σ=σ1) ?_ (o.aL.length) (by refine⟨0,false,oL,?_⟩;exact cL (⟨Cd,yAk _,λid x _ h=>h,vT,rfl⟩))
 rintro m fr σ ⟨i,hs,σ1,gg,hI,rfl,rfl⟩
 obtain⟨hm4,jK,cE,sV,j7⟩:=hI
 by_cases hi4:i<o.aL.length
 .have q1:(i:Int)<(o.aL.length:Int):=by omega
  have hCr:hC=.aP iC 0 0 o.aL.length 5:=by rw[<-hhC];exact aAr Cd
  have vt:=sV Cd;have vg:=cE L0 _ (λh e=>Ik) vG;obtain⟨rT,yT⟩:=yA.1 vt;obtain⟨rG,yG⟩:=yA.1 vg;obtain⟨l',hl'⟩:∃l',kL (oZ fm b) i o.aL=l':=⟨_,rfl⟩;have hll:i<l'.length:=by rw[<-hl',GW];exact hi4
  have hli:l'[i]=o.aL[i]:=by subst hl';exact aAs (oZ fm b) i o.aL hi4
  have hbr:=hb _ (yAm hi4);have hms:=aAt (oZ fm b) i o.aL hi4;rw[hl']at vt hms yT;have hany:(o.aL.take (i+1)).any (nV fm)=((o.aL.take i).any (nV fm)||nV fm o.aL[i]):=by
   rw[yBI hi4,List.any_append];simp
  obtain⟨⟨cn,a,d,sh,th⟩,hc⟩:∃c,o.aL[i]=c:=⟨_,rfl⟩;rw[hc]at hms hbr hany hli;simp only at hbr;have hlen:(jL l').length=l'.length*5:=L8 l';obtain⟨x1,x2,a1,a2⟩:=aGF l' i hll;rw[hli]at a1 a2;have f1:=aEJ l' i hll (a+b);rw[hli]at f1;have aGG:i<(l'.set i ⟨cn,a+b,d,sh,th⟩).length:=by rw[yAD];exact hll
  have aSx:(jL (l'.set i ⟨cn,a+b,d,sh,th⟩)).length=l'.length*5:=by rw[L8,yAD]
  obtain⟨y1,y2,b1,b2⟩:=aGF (l'.set i ⟨cn,a+b,d,sh,th⟩) i aGG;rw[yCU]at b1 b2;have f2:=YN (l'.set i ⟨cn,a+b,d,sh,th⟩) i aGG (d+b);rw[yCU,List.set_set]at f2;have f3:=YN l' i hll (d+b);rw[hli]at f3;simp only at f1 f2 f3 b1 b2 a1 a2;have wa:IntKind.i64.wrap (a+b)=a+b:=Ci;have wd:IntKind.i64.wrap (d+b)=d+b:=Ci;have lN:jH prog 33 (.aP iC 0 0 o.aL.length 5) (.int .i64 i)=some (.dM iC 0 (i*5)):=by
   simp[jV,hi4]
  have hl5:l'.length=o.aL.length:=by rw[<-hl',GW]
  obtain⟨fs,hfs⟩:=gn (jL l');obtain⟨w9,x6⟩:=gn (jL (l'.set i ⟨cn,a+b,d,sh,th⟩));simp only[hfs]at vt yT f1 f3 a1 a2 hlen x1 x2;simp only[x6]at f1 f2 b1 b2 aSx y1 y2;have g1:i*5+1+1<=fs.length:=Cd;have g2:i*5+2+1<=fs.length:=Cd;have g3:i*5+2+1<=w9.length:=Cd;simp only[dL,yAT,yAO,yAp,Nat.reduceAdd,yBW,yAi,yBt,yAW]at f1 f2 f3;have fin:∀(l9:List cJ) (yF:Bool),l9=kL (oZ fm b) (i+1) o.aL->yF=((o.aL.take i).any (nV fm)||nV fm ⟨cn,a,d,sh,th⟩)->(i+1)+(m-1)=o.aL.length/\oL.length<=(σ.set iC (.row 58 5 0 (jL l9))).length/\(∀(id:Nat) (x:aA),(0<o.aL.length->id≠iC)->oL[id]?=some x->(σ.set iC (.row 58 5 0 (jL l9)))[id]?=some x)/\(0<o.aL.length->(σ.set iC (.row 58 5 0 (jL l9)))[iC]?=some (.row 58 5 0 (jL (kL (oZ fm b) (i+1) o.aL))))/\yF=(o.aL.take (i+1)).any (nV fm):=λl9 yF h1 h2=>by
   subst h1;exact⟨Cd,by rw[yAD];exact jK,λid x h hx=>by rw[yAd (yAU (h Cd))];exact cE id x h hx,λ_=>yAj rT,by rw[h2,hany]⟩
  have sel:σ.set iC (.row 58 5 0 fs)=σ:=by
   exact aGE rT yT
  rw[hCr]at vg yG;rw[hCr];have hal:hs=true\/hs=false:=by cases hs<;>simp
  by_cases iH:fm<=a
  .by_cases pF:fm<=d
   .have hL:oZ fm b ⟨cn,a,d,sh,th⟩=⟨cn,a+b,d+b,sh,th⟩:=by unfold oZ BQ;simp[iH,pF]
    rw[hL]at hms;rcases hal with rfl|rfl
    .have hz:=h0;refine N7 Bj ?_;have hF:=fin (l'.set i ⟨cn,a+b,d+b,sh,th⟩) true hms Is;exact dw
    .by_cases e1:a=fm
     .subst e1;refine CT Bj ?_;exact Au
     .by_cases e2:d=fm
      .subst e2;refine CT Ca ?_;exact Au
      .have hz:=h0;refine CT Bm ?_;have hF:=fin (l'.set i ⟨cn,a+b,d+b,sh,th⟩) false hms Ft;exact jk
   .have hL:oZ fm b ⟨cn,a,d,sh,th⟩=⟨cn,a+b,d,sh,th⟩:=by unfold oZ BQ;simp[iH,pF]
    rw[hL]at hms;rcases hal with rfl|rfl
    .have hz:=h0;refine N7 Bj ?_;have hF:=fin (l'.set i ⟨cn,a+b,d,sh,th⟩) true hms Is;rw[x6]at hF;exact dw
    .by_cases e1:a=fm
     .subst e1;refine CT Bj ?_;have hF:=fin (l'.set i ⟨cn,a+b,d,sh,th⟩) true hms (by rw[<-j7];simp[nV]);rw[x6]at hF;exact dw
     .by_cases e2:d=fm
      .exact absurd e2 Cd
      .have hz:=h0;refine CT Bm ?_;have hF:=fin (l'.set i ⟨cn,a+b,d,sh,th⟩) false hms Ft;rw[x6]at hF;exact jk
  .by_cases pF:fm<=d
   .have hL:oZ fm b ⟨cn,a,d,sh,th⟩=⟨cn,a,d+b,sh,th⟩:=by unfold oZ BQ;simp[iH,pF]
    rw[hL]at hms;rcases hal with rfl|rfl
    .have hz:=h0;refine N7 Bj ?_;have hF:=fin (l'.set i ⟨cn,a,d+b,sh,th⟩) true hms Is;exact dw
    .by_cases e1:a=fm
     .exact absurd e1 Cd
     .by_cases e2:d=fm
      .subst e2;refine CT Ca ?_;have hF:=fin (l'.set i ⟨cn,a,d+b,sh,th⟩) true hms (by rw[<-j7];simp[nV]);exact dw
      .have hz:=h0;refine CT Bm ?_;have hF:=fin (l'.set i ⟨cn,a,d+b,sh,th⟩) false hms Ft;exact jk
   .have hL:oZ fm b ⟨cn,a,d,sh,th⟩=⟨cn,a,d,sh,th⟩:=by unfold oZ BQ;simp[iH,pF]
    rw[hL]at hms;have hms:l'=kL (oZ fm b) (i+1) o.aL:=by rw[<-hms];exact(aGE hll hli).symm
    rcases hal with rfl|rfl
    .have hz:=h0;refine N7 Bj ?_;have hF:=fin l' true hms Is;rw[hfs,sel]at hF;exact dw
    .by_cases e1:a=fm
     .exact absurd e1 Cd
     .by_cases e2:d=fm
      .exact absurd e2 Cd
      .have hz:=h0;refine CT Bm ?_;have hF:=fin l' false hms Ft;rw[hfs,sel]at hF;exact jk
 .have q1:¬(i:Int)<(o.aL.length:Int):=by omega
  refine aC q1 ?_;have hft:o.aL.take i=o.aL:=yAz Cd;have hmx:kL (oZ fm b) i o.aL=o.aL.map (oZ fm b):=by unfold kL;rw[hft,yAs Cd,yAl]
  rw[hmx]at sV;rw[hft]at j7;have hle:aV.length<=σ.length:=by rw[l3]at jK;omega
  have hkk:∀(id:Nat) (x:aA),(∀n v cs,x≠.row 58 n v cs)->aV[id]?=some x->σ[id]?=some x:=λid x ht hx=>cE id x (λhp e=>by
    have h1:=(hO.bF hp).2;rw[<-e,hx]at h1;exact ht _ _ _ (yAS h1)) (k0 id x hx)
  refine⟨_,_,rfl,hs,rfl,by rw[j7],hO.linked hkk sV,by first|exact hle|exact lO▸hle,λid hid=>?_,hkk⟩
  .have x9:id<aV.length:=by omega
   have hx0:aV[id]?=some aV[id]:=yAh x9;rw[hx0];exact cE id _ (λhp e=>by have:=(hO.bF hp).1;omega) (k0 id _ hx0)
end
def EK(σ:List aA)(x:PD)(k:Nat)(hs:List (List PD)):Prop:=∃z ys,vA σ x=some (z,ys)/\(ys.length=0\/z=k)/\ys.length=hs.length/\ys.flatMap PD.cells=hs.flatten
def xJ(σ:List aA)(h:PD)(k e:Nat)(gs:List (List PD)):Prop:=(gs=[]/\∃z tok,h=.slice z [] tok)\/(gs≠[]/\∃id v,h=.aP id v 0 gs.length k/\σ[id]?=some (.row e k v gs.flatten))
def rC(σ:List aA)(B:Nat)(h:PD)(k e:Nat)(gs:List (List PD)):Prop:=(gs=[]/\h=.slice k [] .full)\/(gs≠[]/\∃id v,B<=id/\h=.aP id v 0 gs.length k/\σ[id]?=some (.row e k v gs.flatten))
theorem rC.plain{σ:Jj}{B:Nat}{h:PD}{k e:Nat}{gs:Jh}(H:rC σ B h k e gs):h.plain=true/\h.cells=[h]:=by
 rcases H with⟨_,rfl⟩ | ⟨_,id,v,_,rfl,_⟩<;>exact⟨rfl,rfl⟩
theorem JT{e t k b:Nat}(hu:prog.underlying t=some (.slice e))(hi:lJ prog e=some (k,b))(ho:∀i z,prog.info? e=some i->i.zero=some z->z.cells.toList.all Value.oneCell'=true)(hb:b<=1000){σ:Jj}{B:Nat}{h x:PD}{gs hs:Jh}(hB:B<=σ.length)(hg:∀g∈gs,g.length=k)(H:rC σ B h k e gs)(V:EK σ x k hs)(hl:gs.length+hs.length<=1000000) :
  ∃h' σ',(∀n,iM t n=true->dY prog n 0 σ t h x=some (h',σ'))/\rC σ' B h' k e (gs++hs)/\σ.length<=σ'.length/\∀(i:Nat) (z:aA),i<B->σ[i]?=some z->σ'[i]?=some z:=by
 obtain⟨z,ys,v1,v2,v3,v4⟩:=V;unfold lJ at hi;split at hi
 rotate_left
 .cases hi
 rename_i i h1;split at hi
 rotate_left
 .cases hi
 rename_i z0 h2;split at hi
 rotate_left
 .cases hi
 rename_i h3;simp only[yAb,yAc]at hi;obtain⟨rfl,rfl⟩:=hi;have hone:=ho i z0 h1 h2;have hmm:gs.length+ys.length<=maxLen:=Df;have hbb:(gs.length+ys.length)*i.bytes<=140737488355328:=by
  have:=yCV (show gs.length+ys.length<=1000000 by omega) hb;omega
 have hsz:0<i.size:=h3.2;rcases H with⟨rfl,rfl⟩ | ⟨hne,id,v,hid,rfl,hr⟩
 .by_cases h0:ys.length=0
  .have hh:hs=[]:=yAf Cd;subst hh;refine⟨.slice i.size [] .full,σ,λn hn=>?_,.inl ⟨rfl,rfl⟩,yAk _,λ_ _ _ h=>h⟩;have hfr:Tok.full.fresh=true:=rfl;simp only[yAO,yAp]at hmm hbb;simp only[dY,hn,yAK,hu,v1,h1,h2,v2,h3.1,h3.2,hone,yBA,yAO,yCA,yAp,hmm,hbb,hfr,h0,yAF,yCR]
  .have hz:z=i.size:=v2.resolve_left h0;have hh:hs≠[]:=λe=>h0 (by rw[v3,e];rfl)
   refine⟨.aP σ.length 0 0 (0+ys.length) i.size,σ++[.row e i.size 0 (([]++ys).flatMap PD.cells)],λn hn=>?_,.inr ⟨by simpa using hh,σ.length,0,hB,by simp[v3],by simp[v4]⟩,Ce,λ_ _ _ h=>bR h⟩;have hfr:Tok.full.fresh=true:=rfl;simp only[yAO,yAp]at hmm hbb;simp only[dY,hn,yAK,hu,v1,h1,h2,hz,yCe,h3.1,h3.2,hone,yBA,yAO,yCA,yAp,hmm,hbb,hfr,h0,yAN]
 .have hfl:=lA gs hg;obtain⟨r1,r2⟩:=yA.1 hr
  by_cases h0:ys.length=0
  .have hh:hs=[]:=yAf Cd;subst hh;have hy:ys=[]:=yAf h0;subst hy;refine⟨.aP id v 0 gs.length i.size,σ,λn hn=>?_,.inr ⟨by simpa using hne,id,v,hid,Ce,by simpa using hr⟩,yAk _,λ_ _ _ h=>h⟩;have hle:0+(gs.length+0)*i.size<=gs.flatten.length:=by rw[hfl];simp
   have hpf:dL gs.flatten (0+gs.length*i.size) []=gs.flatten:=by
    unfold dL;simp
   have hst:σ.set id (.row e i.size v gs.flatten)=σ:=by
    rw[<-r2];simp
   simp only[yAO,yBk]at hmm hbb hle;simp only[dY,hn,yAK,hu,v1,h1,h2,v2,h3.1,h3.2,hone,yBA,yAO,yCA,yAF,yBk,hmm,hbb,hr,hle,List.flatMap_nil,hpf,hst]
  .have hz:z=i.size:=v2.resolve_left h0;have hh:hs≠[]:=λe=>h0 (by rw[v3,e];rfl)
   refine⟨.aP id (v+1) 0 (gs.length+ys.length) i.size,σ.set id (.row e i.size (v+1) (gs.flatten++ys.flatMap PD.cells)),λn hn=>?_,.inr ⟨by simp[hne],id,v+1,hid,by simp[v3],by rw[yAj r1,v4];simp⟩,Ce,λj z hj h=>by rw[yAd Cd];exact h⟩;have hlt:¬0+(gs.length+ys.length)*i.size<=gs.flatten.length:=by
    rw[hfl,yBz];have:0<ys.length*i.size:=yDd Cd hsz;omega
   simp only[dY,hn,yAK,hu,v1,h1,h2,hz,yCe,h3.1,h3.2,hone,yBA,yAF,hmm,hbb,hr];rw[yAI hlt,yAJ ⟨trivial,hfl.symm⟩]
theorem aGR{σ:Jj}{k:Nat}{x:PD}{tok:Tok}:EK σ (.slice k [x] tok) k [x.cells]:=⟨k,[x],rfl,.inr rfl,rfl,Ce⟩
theorem aGS{σ:Jj}{id e v k n off:Nat}{gs:Jh}(hr:σ[id]?=some (.row e k v gs.flatten))(hg:∀g∈gs,g.length=k)(hn:off+n<=gs.length):EK σ (.aP id v (off*k) n k) k ((gs.drop off).take n):=by
 have hfl:=lA gs hg;have hle:off*k+n*k<=gs.flatten.length:=by rw[hfl,<-yBz];exact yBH k hn
 refine⟨k,sG k n (gs.flatten.drop (off*k)),by simp only[vA,hr];rw[yAJ ⟨trivial,trivial,hle⟩],.inr rfl,?_,?_⟩
 .rw[BF,yAt,yBa];omega
 .rw[KU k n _ (by rw[yBa];omega),Q7 gs off hg,Q6 _ n λg h=>hg g (yBd h)]
theorem aSM{e t k b:Nat}(hu:prog.underlying t=some (.slice e))(hi:cT prog e=some k){σ:Jj}{h:PD}{gs:Jh}(hg:∀g∈gs,g.length=k)(H:xJ σ h k e gs)(i:Nat)(hle:i<=gs.length) :
  ∃x,kQ prog t h none (some (some (.int .i64 i))) none=some x/\EK σ x k (gs.take i):=by
 rcases H with⟨rfl,z,tok,rfl⟩ | ⟨hne,id,v,rfl,hr⟩
 .exact js
 .refine⟨.aP id v 0 i k,by simp[kQ,hu,hi,kT,gL,hle],?_⟩;have h:=aGS (off:=0) (n:=i) hr hg Cd;rw[yCR,yCb]at h;exact h
theorem aAD{e t k b:Nat}(hu:prog.underlying t=some (.slice e))(hi:cT prog e=some k){σ:Jj}{h:PD}{gs:Jh}(hg:∀g∈gs,g.length=k)(H:xJ σ h k e gs)(i:Nat)(hle:i<=gs.length) :
  ∃x,kQ prog t h (some (some (.int .i64 i))) none none=some x/\EK σ x k (gs.drop i):=by
 rcases H with⟨rfl,z,tok,rfl⟩ | ⟨hne,id,v,rfl,hr⟩
 .exact js
 .have hp:0<gs.length:=yCl.2 hne
  by_cases hlt:i<gs.length
  .refine⟨.aP id v (i*k) (gs.length-i) k,by simp[kQ,hu,hi,kT,gL,hle,hlt],?_⟩;have h:=aGS (off:=i) (n:=gs.length-i) hr hg Cd;rw[yAz (by rw[yBa];omega)]at h;exact h
  .refine⟨.slice k [] .any,?_,k,[],rfl,.inl rfl,by rw[yCO Cd];rfl,by rw[yCO Cd];rfl⟩;have h0:¬i=0:=Cd;simp[kQ,hu,hi,kT,gL,hle,hlt,h0]
theorem EK.aM{σ σ':Jj}{x:PD}{k:Nat}{hs:Jh}(V:EK σ x k hs)(hk:∀(i:Nat) (z:aA),σ[i]?=some z->σ'[i]?=some z):EK σ' x k hs:=by
 obtain⟨z,ys,v1,v2⟩:=V;refine⟨z,ys,?_,v2⟩;unfold vA at v1 ⊢;split at v1
 .exact v1
 .exact xx
 .exact xx
 .cases v1
theorem xJ.aM{σ σ':Jj}{h:PD}{k e:Nat}{gs:Jh}(H:xJ σ h k e gs)(hk:∀(i:Nat) (z:aA),σ[i]?=some z->σ'[i]?=some z):xJ σ' h k e gs:=by
 rcases H with h | ⟨hn,id,v,h1,h2⟩
 .exact .inl h
 .exact .inr ⟨hn,id,v,h1,hk _ _ h2⟩
theorem rC.mono{σ:Jj}{B B':Nat}{h:PD}{k e:Nat}{gs:Jh}(H:rC σ B h k e gs)(hb:B'<=B):rC σ B' h k e gs:=by
 rcases H with h | ⟨hn,id,v,h0,h1,h2⟩
 .exact .inl h
 .exact .inr ⟨hn,id,v,yAQ hb h0,h1,h2⟩
section
theorem aSL{α:Type}{l:List α}{i:Nat}{x:α}(h:i<l.length):l.set i x=l.take i++x::l.drop (i+1):=by rw[yEn,yAJ h]
theorem llc{t e k b:Nat}(hu:prog.underlying t=some (.slice e))(hp:lJ prog e=some (k,b))(ho:∀i z,prog.info? e=some i->i.zero=some z->z.cells.toList.all Value.oneCell'=true)(hb:b<=1000)(hps:cT prog e=some k){σ ρ:Jj}{h X:PD}{gs:Jh}(i:Nat)(hρ:σ++[.box X]=ρ)(H:xJ σ h k e gs)(hg:∀g∈gs,g.length=k)(hl:gs.length<=900000)(hX:X.cells.length=k) :
  (i<=gs.length->∃x1 h1 σ1 h2 σ2 x3 h3 σ3,kQ prog t h none (some (some (.int .i64 i))) none=some x1/\(∀n,iM t n=true->dY prog n 0 ρ t (.slice k [] .full) x1=some (h1,σ1))/\σ1[σ.length]?=some (.box X)/\(∀n,iM t n=true->dY prog n 0 σ1 t h1 (.slice k [X] .full)=some (h2,σ2))/\kQ prog t h (some (some (.int .i64 (i:Int)))) none none=some x3/\(∀n,iM t n=true->dY prog n 0 σ2 t h2 x3=some (h3,σ3))/\rC σ3 σ.length h3 k e (aS gs 0 i X.cells)/\σ.length<=σ3.length/\∀id,id<σ.length->σ3[id]?=σ[id]?)/\(i<gs.length->∃x1 h1 σ1 x3 h3 σ3,kQ prog t h none (some (some (.int .i64 i))) none=some x1/\(∀n,iM t n=true->dY prog n 0 ρ t (.slice k [] .full) x1=some (h1,σ1))/\σ1[σ.length]?=some (.box X)/\kQ prog t h (some (some (.int .i64 ((i:Int)+1)))) none none=some x3/\(∀n,iM t n=true->dY prog n 0 σ1 t h1 x3=some (h3,σ3))/\rC σ3 σ.length h3 k e (aS gs 1 i X.cells)/\σ.length<=σ3.length/\∀id,id<σ.length->σ3[id]?=σ[id]?)/\(i<gs.length->∃x1 h1 σ1 h2 σ2 x3 h3 σ3,kQ prog t h none (some (some (.int .i64 i))) none=some x1/\(∀n,iM t n=true->dY prog n 0 ρ t (.slice k [] .full) x1=some (h1,σ1))/\σ1[σ.length]?=some (.box X)/\(∀n,iM t n=true->dY prog n 0 σ1 t h1 (.slice k [X] .full)=some (h2,σ2))/\kQ prog t h (some (some (.int .i64 ((i:Int)+1)))) none none=some x3/\(∀n,iM t n=true->dY prog n 0 σ2 t h2 x3=some (h3,σ3))/\rC σ3 σ.length h3 k e (aS gs 2 i X.cells)/\σ.length<=σ3.length/\∀id,id<σ.length->σ3[id]?=σ[id]?):=by
 have up0:∀(j:Nat) (z:aA),σ[j]?=some z->ρ[j]?=some z:=λj z hz=>by rw[<-hρ];exact bR hz
 have xb:ρ[σ.length]?=some (.box X):=by rw[<-hρ];simp
 have rl:ρ.length=σ.length+1:=by rw[<-hρ,yAa];rfl
 have H:=H.aM up0;have fin:∀(σ':List aA),(∀(j:Nat) (z:aA),ρ[j]?=some z->σ'[j]?=some z)->∀id,id<σ.length->σ'[id]?=σ[id]?:=λσ' h id hid=>by rw[h id _ (up0 _ _ (yAh hid)),yAh hid]
 have tl:i<=gs.length->(gs.take i).length=i:=λ_=>Eh
 have hgt:∀g∈gs.take i,g.length=k:=λg h=>hg g (yAy h)
 have hd:i<=gs.length->∃x1 h1 σ1,kQ prog t h none (some (some (.int .i64 i))) none=some x1/\(∀n,iM t n=true->dY prog n 0 ρ t (.slice k [] .full) x1=some (h1,σ1))/\rC σ1 ρ.length h1 k e (gs.take i)/\ρ.length<=σ1.length/\∀(j:Nat) (z:aA),ρ[j]?=some z->σ1[j]?=some z:=λhi=>by
  obtain⟨x1,s1,v1⟩:=aSM (b:=b) hu hps hg H i hi;obtain⟨h1,σ1,e1,o1,l1,k1⟩:=JT hu hp ho hb (B:=ρ.length) (gs:=[]) (yAk _) (λg h=>Ck) (.inl ⟨rfl,rfl⟩) v1 (by rw[tl hi];simp;omega);exact⟨x1,h1,σ1,s1,e1,o1,l1,λj z hz=>k1 j z (yA.1 hz).1 hz⟩
 have pF:∀g∈gs.take i++[X.cells],g.length=k:=λg h=>by
  rcases yBr.1 h with h|h
  .exact hgt g h
  .rw[yCt.1 h];exact hX
 refine⟨λhi=>?_,λhi=>?_,λhi=>?_⟩
 .obtain⟨x1,h1,σ1,s1,e1,o1,l1,CM⟩:=hd hi;have tl:=tl hi;obtain⟨h2,σ2,e2,o2,l2,k2⟩:=JT hu hp ho hb (B:=ρ.length) l1 hgt o1 (aGR (x:=X) (tok:=.full)) (by rw[tl];simp;omega);have NQ:∀(j:Nat) (z:aA),ρ[j]?=some z->σ2[j]?=some z:=λj z hz=>k2 j z (yA.1 hz).1 (CM j z hz)
  obtain⟨x3,s3,v3⟩:=aAD (b:=b) hu hps hg H i Cd;obtain⟨h3,σ3,e3,o3,l3,k3⟩:=JT hu hp ho hb (B:=ρ.length) (yAQ l1 l2) pF o2 (v3.aM NQ) (by rw[yAa,tl,yBa];simp;omega);refine⟨x1,h1,σ1,h2,σ2,x3,h3,σ3,s1,e1,CM _ _ xb,e2,s3,e3,?_,Cd,fin _ λj z hz=>k3 j z (yA.1 hz).1 (NQ j z hz)⟩;rw[show aS gs 0 i X.cells=gs.take i++[X.cells]++gs.drop i from by unfold aS;rw[yAJ rfl];simp];exact o3.mono Cd
 .obtain⟨x1,h1,σ1,s1,e1,o1,l1,CM⟩:=hd (yBQ hi);have tl:=tl (yBQ hi);obtain⟨x3,s3,v3⟩:=aAD (b:=b) hu hps hg H (i+1) Cd;obtain⟨h3,σ3,e3,o3,l3,k3⟩:=JT hu hp ho hb (B:=ρ.length) l1 hgt o1 (v3.aM CM) (by rw[tl,yBa];omega);rw[show(((i+1:Nat)):Int)=(i:Int)+1 by omega]at s3;refine⟨x1,h1,σ1,x3,h3,σ3,s1,e1,CM _ _ xb,s3,e3,?_,Cd,fin _ λj z hz=>k3 j z (yA.1 hz).1 (CM j z hz)⟩;rw[show aS gs 1 i X.cells=gs.take i++gs.drop (i+1)from by unfold aS;rw[yAI Ch,yAJ rfl]];exact o3.mono Cd
 .obtain⟨x1,h1,σ1,s1,e1,o1,l1,CM⟩:=hd (yBQ hi);have tl:=tl (yBQ hi);obtain⟨h2,σ2,e2,o2,l2,k2⟩:=JT hu hp ho hb (B:=ρ.length) l1 hgt o1 (aGR (x:=X) (tok:=.full)) (by rw[tl];simp;omega);have NQ:∀(j:Nat) (z:aA),ρ[j]?=some z->σ2[j]?=some z:=λj z hz=>k2 j z (yA.1 hz).1 (CM j z hz)
  obtain⟨x3,s3,v3⟩:=aAD (b:=b) hu hps hg H (i+1) Cd;obtain⟨h3,σ3,e3,o3,l3,k3⟩:=JT hu hp ho hb (B:=ρ.length) (yAQ l1 l2) pF o2 (v3.aM NQ) (by rw[yAa,tl,yBa];simp;omega);rw[show(((i+1:Nat)):Int)=(i:Int)+1 by omega]at s3;refine⟨x1,h1,σ1,h2,σ2,x3,h3,σ3,s1,e1,CM _ _ xb,e2,s3,e3,?_,Cd,fin _ λj z hz=>k3 j z (yA.1 hz).1 (NQ j z hz)⟩;rw[show aS gs 2 i X.cells=gs.take i++[X.cells]++gs.drop (i+1)from by unfold aS;rw[yAI Ch,yAI Ch,aSL hi];simp];exact o3.mono Cd
variable{E E0:aE}(hU:aJ E)
include hU
theorem aSs(h0:E 47=none)(σ:List aA)(h:PD)(gs:List (List PD))(way:Int)(i:Nat)(nm tn:List UInt8)(a b sh:Int)(zw:Nat)(xs:List PD)(hx:(PD.slice zw xs .any).strip=.slice zw xs .any)(H:xJ σ h 6 48 gs)(hg:∀g∈gs,g.length=6)(hl:gs.length<=900000)(hw:way=0/\i<=gs.length\/(way=1\/way=2)/\i<gs.length) :
  aK prog E 0 (.inl 47) [h,.int .i64 way,.int .i64 i,.agg [.str nm,.str tn,.int .i64 a,.int .i64 b,.int .i64 sh,.slice zw xs .any]] σ (λq σ'=>rC σ' σ.length q 6 48 (aS gs way i [.str nm,.str tn,.int .i64 a,.int .i64 b,.int .i64 sh,.slice zw xs .any])/\σ.length<=σ'.length/\∀id,id<σ.length->σ'[id]?=σ[id]?):=by
 clear hU;obtain⟨ρ,hρ⟩:=gn (σ++[aA.box (.agg [.str nm,.str tn,.int .i64 a,.int .i64 b,.int .i64 sh,.slice zw xs .any])]);have w1:IntKind.i64.wrap ((i:Int)+1)=(i:Int)+1:=Ci;obtain⟨c0,c1,c2⟩:=llc (b:=80) underlying31 Cf (mX Cf) Ch Cf i hρ H hg hl rfl;rcases hw with⟨rfl,hi⟩ | ⟨rfl|rfl,hi⟩
 .obtain⟨x1,h1,σ1,h2,σ2,x3,h3,σ3,s1,e1,iT,e2,s3,e3,oO⟩:=c0 hi;exact Ay
 .obtain⟨x1,h1,σ1,x3,h3,σ3,s1,e1,iT,s3,e3,oO⟩:=c1 hi;obtain⟨xr,xv⟩:=yA.1 iT;have hz:=h0;refine aK.aG 30 h0 func47 (h:=?_);exact Ai
 .obtain⟨x1,h1,σ1,h2,σ2,x3,h3,σ3,s1,e1,iT,e2,s3,e3,oO⟩:=c2 hi;exact Ay
theorem aSt(h0:E 49=none)(σ:List aA)(h:PD)(gs:List (List PD))(way:Int)(i:Nat)(nm:List UInt8)(pe:Bool)(a b:Int)(zw:Nat)(xs:List PD)(hx:(PD.slice zw xs .any).strip=.slice zw xs .any)(H:xJ σ h 5 53 gs)(hg:∀g∈gs,g.length=5)(hl:gs.length<=900000)(hw:way=0/\i<=gs.length\/(way=1\/way=2)/\i<gs.length) :
  aK prog E 0 (.inl 49) [h,.int .i64 way,.int .i64 i,.agg [.str nm,.bool pe,.int .i64 a,.int .i64 b,.slice zw xs .any]] σ (λq σ'=>rC σ' σ.length q 5 53 (aS gs way i [.str nm,.bool pe,.int .i64 a,.int .i64 b,.slice zw xs .any])/\σ.length<=σ'.length/\∀id,id<σ.length->σ'[id]?=σ[id]?):=by
 clear hU;obtain⟨ρ,hρ⟩:=gn (σ++[aA.box (.agg [.str nm,.bool pe,.int .i64 a,.int .i64 b,.slice zw xs .any])]);have w1:IntKind.i64.wrap ((i:Int)+1)=(i:Int)+1:=Ci;obtain⟨c0,c1,c2⟩:=llc (b:=64) underlying32 Cf (mX Cf) Ch Cf i hρ H hg hl rfl;rcases hw with⟨rfl,hi⟩ | ⟨rfl|rfl,hi⟩
 .obtain⟨x1,h1,σ1,h2,σ2,x3,h3,σ3,s1,e1,iT,e2,s3,e3,oO⟩:=c0 hi;exact Az
 .obtain⟨x1,h1,σ1,x3,h3,σ3,s1,e1,iT,s3,e3,oO⟩:=c1 hi;obtain⟨xr,xv⟩:=yA.1 iT;have hz:=h0;refine aK.aG 30 h0 func49 (h:=?_);exact Ai
 .obtain⟨x1,h1,σ1,h2,σ2,x3,h3,σ3,s1,e1,iT,e2,s3,e3,oO⟩:=c2 hi;exact Az
theorem aSu(h0:E 50=none)(σ:List aA)(h:PD)(gs:List (List PD))(way:Int)(i:Nat)(nm:List UInt8)(a b:Int)(zw:Nat)(xs:List PD)(hx:(PD.slice zw xs .any).strip=.slice zw xs .any)(H:xJ σ h 4 56 gs)(hg:∀g∈gs,g.length=4)(hl:gs.length<=900000)(hw:way=0/\i<=gs.length\/(way=1\/way=2)/\i<gs.length) :
  aK prog E 0 (.inl 50) [h,.int .i64 way,.int .i64 i,.agg [.str nm,.int .i64 a,.int .i64 b,.slice zw xs .any]] σ (λq σ'=>rC σ' σ.length q 4 56 (aS gs way i [.str nm,.int .i64 a,.int .i64 b,.slice zw xs .any])/\σ.length<=σ'.length/\∀id,id<σ.length->σ'[id]?=σ[id]?):=by
 clear hU;obtain⟨ρ,hρ⟩:=gn (σ++[aA.box (.agg [.str nm,.int .i64 a,.int .i64 b,.slice zw xs .any])]);have w1:IntKind.i64.wrap ((i:Int)+1)=(i:Int)+1:=Ci;obtain⟨c0,c1,c2⟩:=llc (b:=56) underlying51 Cf (mX Cf) Ch Cf i hρ H hg hl rfl;rcases hw with⟨rfl,hi⟩ | ⟨rfl|rfl,hi⟩
 .obtain⟨x1,h1,σ1,h2,σ2,x3,h3,σ3,s1,e1,iT,e2,s3,e3,oO⟩:=c0 hi;exact AI
 .obtain⟨x1,h1,σ1,x3,h3,σ3,s1,e1,iT,s3,e3,oO⟩:=c1 hi;obtain⟨xr,xv⟩:=yA.1 iT;have hz:=h0;refine aK.aG 30 h0 func50 (h:=?_);exact Ai
 .obtain⟨x1,h1,σ1,h2,σ2,x3,h3,σ3,s1,e1,iT,e2,s3,e3,oO⟩:=c2 hi;exact AI
theorem aSv(h0:E 51=none)(σ:List aA)(h:PD)(gs:List (List PD))(way:Int)(i:Nat)(nm:List UInt8)(a b sh:Int)(th:Bool)(H:xJ σ h 5 58 gs)(hg:∀g∈gs,g.length=5)(hl:gs.length<=900000)(hw:way=0/\i<=gs.length\/(way=1\/way=2)/\i<gs.length) :
  aK prog E 0 (.inl 51) [h,.int .i64 way,.int .i64 i,.agg [.str nm,.int .i64 a,.int .i64 b,.int .i64 sh,.bool th]] σ (λq σ'=>rC σ' σ.length q 5 58 (aS gs way i [.str nm,.int .i64 a,.int .i64 b,.int .i64 sh,.bool th])/\σ.length<=σ'.length/\∀id,id<σ.length->σ'[id]?=σ[id]?):=by
 clear hU;obtain⟨ρ,hρ⟩:=gn (σ++[aA.box (.agg [.str nm,.int .i64 a,.int .i64 b,.int .i64 sh,.bool th])]);have w1:IntKind.i64.wrap ((i:Int)+1)=(i:Int)+1:=Ci;obtain⟨c0,c1,c2⟩:=llc (b:=48) underlying33 Cf (mX Cf) Ch Cf i hρ H hg hl rfl;rcases hw with⟨rfl,hi⟩ | ⟨rfl|rfl,hi⟩
 .obtain⟨x1,h1,σ1,h2,σ2,x3,h3,σ3,s1,e1,iT,e2,s3,e3,oO⟩:=c0 hi;exact Ac
 .obtain⟨x1,h1,σ1,x3,h3,σ3,s1,e1,iT,s3,e3,oO⟩:=c1 hi;obtain⟨xr,xv⟩:=yA.1 iT;have hz:=h0;refine aK.aG 30 h0 func51 (h:=?_);refine aC (A9 @s1 e1 s3 e3 w1 hρ iT xr xv) ?_;exact ia
 .obtain⟨x1,h1,σ1,h2,σ2,x3,h3,σ3,s1,e1,iT,e2,s3,e3,oO⟩:=c2 hi;exact Ac
end
theorem aSo:xA Em.div:=λd=>by
 rw[nJ];refine .agg _ λc hc=>?_
 simp only[yBl,yBN,yBO]at hc;rcases hc with rfl|rfl|rfl|rfl|rfl
 .exact .str _
 .exact .bool _
 .exact ja
 .exact ja
 .exact QV aES 4 _
theorem lM.hq{α:Type}{em:Em α}{sz e id v L:Nat}{σ:Jj}{gs:Jh}{l:List α}(h1:sz≠1)(hr:0<l.length->σ[id]?=some (.row e sz v gs.flatten))(hg:0<l.length->∀g∈gs,g.length=sz)(hl:0<l.length->gs.length=l.length)(hL:1<=L)
  (h:∀i (hi:i<l.length) (hi2:i<gs.length),vN em σ L gs[i] l[i]):lM em sz σ (L+1) (Go.Kz.hq sz id v l.length) l:=λK=>by
 by_cases h0:l.length=0
 .obtain rfl:=yAf h0;obtain⟨M,rfl⟩:∃M,L=M+1:=⟨L-1,Cd⟩;exact L7 sz 0 σ (K+M) .any
 .rw[JR Cd];exact nj
theorem aSp{σ:Jj}{lo:Nat}{ds:List dQ}{id:Nat}(h:DS σ lo ds id):lM Em.draw 2 σ 2 (Go.Kz.hq 2 id 0 ds.length) ds:=by
 refine lM.hq (L:=1) (gs:=ds.map λw=>[PD.int .i64 w.aN,.int .i64 w.shift]) Ch (λhp=>(h hp).2) (λ_ g hg=>by obtain⟨w,_,rfl⟩:=yAw.1 hg;rfl) (λ_=>yAe ..) (yAk _) λi hi hi2=>?_
 rw[yBp];exact zX YJ _ EU σ
theorem aGD{σ:Jj}{lo:Nat}{s:cO}{iG:Nat}{gs:Jh}{iW:Nat->Nat}(h:uR σ lo s iG gs iW):lM Em.fB 3 σ 3 (Go.Kz.hq 3 iG (s.aO.length-1) s.aO.length) s.aO:=by
 refine lM.hq (L:=2) (gs:=gs) Ch (λhp=>(h.row hp).2) (λ_=>uC h.len λi hi=>⟨_,(h.at_ i hi).1,rfl⟩) (λ_=>h.len) Cd λi hi hi2=>?_
 have h1:=h.at_ i hi;have e:=(yA.1 h1.1).2;rw[e];exact aED (L:=1) (aSp h1.2)
theorem aSq{σ:Jj}{lo:Nat}{d:bO}{iS:Nat}{ss:Jh}{tG:Nat->Nat}{tgs:Jg}{tW:Nat->Nat->Nat}(h:oN σ lo d iS ss tG tgs tW):lM Em.stop 4 σ 4 (Go.Kz.hq 4 iS (d.stops.length-1) d.stops.length) d.stops:=by
 refine lM.hq (L:=3) (gs:=ss) Ch (λhp=>(h.row hp).2) (λ_=>uC h.len λi hi=>⟨_,(h.at_ i hi).1,rfl⟩) (λ_=>h.len) Cd λi hi hi2=>?_
 have h1:=h.at_ i hi;have e:=(yA.1 h1.1).2;rw[e];exact QX (L:=2) (aGD h1.2)
theorem uR.kept{σ σ':Jj}{lo:Nat}{s:cO}{iG:Nat}{gs:Jh}{iW:Nat->Nat}(h:uR σ lo s iG gs iW)(k:aW oJ σ σ'):uR σ' lo s iG gs iW:=by
 obtain⟨h2,h3,h4,h5⟩:=h;exact⟨h2,λhp=>⟨(h3 hp).1,k _ _ _ _ _ (.inl rfl) (h3 hp).2⟩,λg h=>⟨(h4 g h).1,λhp=>⟨((h4 g h).2 hp).1,k _ _ _ _ _ (.inr rfl) ((h4 g h).2 hp).2⟩⟩,h5⟩
theorem oN.YE{σ σ':Jj}{lo:Nat}{d:bO}{iS:Nat}{ss:Jh}{tG:Nat->Nat}{tgs:Jg}{tW:Nat->Nat->Nat}(h:oN σ lo d iS ss tG tgs tW)(hr:0<d.stops.length->σ'[iS]?=σ[iS]?)(k:aW oJ σ σ'):oN σ' lo d iS ss tG tgs tW:=by
 obtain⟨h2,h3,h4,h5⟩:=h;exact⟨h2,λhp=>⟨(h3 hp).1,(hr hp).trans (h3 hp).2⟩,λs h=>⟨(h4 s h).1,(h4 s h).2.kept k⟩,h5⟩
theorem oN.kept{σ σ':Jj}{lo:Nat}{d:bO}{iS:Nat}{ss:Jh}{tG:Nat->Nat}{tgs:Jg}{tW:Nat->Nat->Nat}(h:oN σ lo d iS ss tG tgs tW)(k:aW j5 σ σ'):oN σ' lo d iS ss tG tgs tW:=
 h.YE (λhp=>(k _ _ _ _ _ (.inl rfl) (h.row hp).2).trans (h.row hp).2.symm) (k.mono λ_=>.inr)
theorem oN.wV{σ:Jj}{lo:Nat}{d:bO}{iS:Nat}{ss:Jh}{tG:Nat->Nat}{tgs:Jg}{tW:Nat->Nat->Nat}(h:oN σ lo d iS ss tG tgs tW):lL Em.div 7 j5 σ [.str d.name,.bool d.dV,.int .i64 d.low,.int .i64 d.high,Go.Kz.hq 4 iS (d.stops.length-1) d.stops.length] d:=λσ' k=>(QT (L:=3) (aSq (h.kept k))).up Cd
theorem uR.wV{σ:Jj}{lo:Nat}{s:cO}{iG:Nat}{gs:Jh}{iW:Nat->Nat}(h:uR σ lo s iG gs iW):lL Em.stop 6 oJ σ [.str s.name,.int .i64 s.num,.int .i64 s.den,Go.Kz.hq 3 iG (s.aO.length-1) s.aO.length] s:=λσ' k=>(QX (L:=2) (aGD (h.kept k))).up Cd
def BO{α:Type}(em:Em α)(sz:Nat)(e:TypeId)(N:Nat)(R:TypeId->Prop)(σ:List aA)(P:PD)(l:List α):Prop:=∃gs,xJ σ P sz e gs/\(∀g∈gs,g.length=sz)/\eX (lL em N R σ) gs l
theorem BO.oI{α:Type}{em:Em α}{sz:Nat}{e:TypeId}{R R':TypeId->Prop}{σ:Jj}{P:PD}{l:List α}(h:BO em sz e 7 R σ P l)(h1:1<sz)(hr:∀t,t=e\/R t->R' t):cX em sz R' σ P l:=by
 obtain⟨gs,H,hg,hA⟩:=h;rcases H with⟨rfl,z,tok,rfl⟩ | ⟨hne,id,v,rfl,eT⟩
 .have:l=[]:=yAf hA.len.symm;subst this;exact⟨rfl,rfl,λσ' _ K=>L7 sz z σ' (K+6) tok⟩
 .rw[hA.len];exact cX.row h1 eT (hr _ (.inl rfl)) (λt ht=>hr t (.inr ht)) (λ_ _ _ _ _ _ h=>h) hg hA
theorem rC.oI{α:Type}{em:Em α}{sz N B:Nat}{e:TypeId}{R R':TypeId->Prop}{σ σ':Jj}{P:PD}{gs:Jh}{l:List α}(H:rC σ' B P sz e gs)(h1:1<sz)(hr:∀t,t=e\/R t->R' t)(hg:∀g∈gs,g.length=sz)(hA:eX (lL em (N+1) R σ) gs l)(hK:aW R σ σ'):∀τ,aW R' σ' τ->∀K,(bJ τ (K+(N+2)) P).strip=(em.list sz).aB l/\(bJ τ (K+(N+2)) P).cI=true:=λτ eF K=>by
 rcases H with⟨rfl,rfl⟩ | ⟨hne,id,v,_,rfl,eT⟩
 .have:l=[]:=yAf hA.len.symm;subst this;exact L7 sz sz τ (K+N) .full
 .rw[hA.len];exact Q5 h1 eT (hr _ (.inl rfl)) (λt ht=>hr t (.inr ht)) hK hg hA τ eF K
theorem NP{σ:Jj}{lo:Nat}{o:aY}{p:PD}{iR iD iC:Nat}{ds:Jh}{tS:Nat->Nat}{tss:Jg}{tG:Nat->Nat->Nat}{tgs:Jf}{tW:Nat->Nat->Nat->Nat}(h:jR σ lo o p iR iD iC ds tS tss tG tgs tW) :
  BO Em.aN 6 48 7 o6 σ (Go.Kz.hn 6 iR o.aQ.length) o.aQ/\BO Em.div 5 53 7 j5 σ (Go.Kz.hb 5 iD (o.aD.length-1) o.aD.length) o.aD/\BO Em.bF 5 58 7 o6 σ (Go.Kz.hn 5 iC o.aL.length) o.aL:=by
 have cl:∀ {α:Type} {em:Em α} {f:α->Jk} {sz e id:Nat} (hc:xA em) (hf:∀x,em.aB x=.agg (f x)) (hs:∀x,(f x).length=sz) (l:List α) (hr:0<l.length->σ[id]?=some (.row e sz 0 ((l.map em.aB).flatMap PD.cells))),BO em sz e 7 o6 σ (Go.Kz.hn sz id l.length) l:=fun {α em f sz e id} hc hf hs l hr=>by
  refine⟨l.map f,?_,λg hg=>by obtain⟨x,_,rfl⟩:=yAw.1 hg;exact hs x,eX.of (yAe ..) λi h1 h2 σ' _=>?_⟩
  .by_cases h0:l=[]
   .subst h0;exact .inl ⟨rfl,_,_,rfl⟩
   .have hp:0<l.length:=yCl.2 h0;refine .inr ⟨by simpa using h0,id,0,by rw[aAr hp,yAe],?_⟩;rw[<-aEG hf];exact hr hp
  .rw[yBp];exact(zX hc _ (hf _) σ').up Cd
 refine⟨cl QU (λ_=>oA) (λ_=>rfl) _ λhp=>(h.aN hp).2,⟨ds,?_,uC h.len λi hi=>⟨_,(h.at_ i hi).1,rfl⟩,eX.of h.len λi h1 h2=>?_⟩,cl QY (λ_=>CR) (λ_=>rfl) _ λhp=>(h.bF hp).2⟩
 .by_cases h0:o.aD=[]
  .have hd:ds=[]:=yAf (by rw[h.len,h0];rfl);exact .inl ⟨hd,0,.full,by rw[h0];rfl⟩
  .have hp:0<o.aD.length:=yCl.2 h0;exact .inr ⟨λe=>Jd,iD,o.aD.length-1,by rw[BP hp,h.len],(h.row hp).2⟩
 .exact jq
theorem aSr{σ:Jj}{lo:Nat}{d:bO}{iS:Nat}{ss:Jh}{tG:Nat->Nat}{tgs:Jg}{tW:Nat->Nat->Nat}(h:oN σ lo d iS ss tG tgs tW):BO Em.stop 4 56 6 oJ σ (Go.Kz.hq 4 iS (d.stops.length-1) d.stops.length) d.stops:=by
 refine⟨ss,?_,uC h.len λi hi=>⟨_,(h.at_ i hi).1,rfl⟩,eX.of h.len λi h1 h2=>?_⟩
 .by_cases h0:d.stops=[]
  .have hd:ss=[]:=yAf (by rw[h.len,h0];rfl);exact .inl ⟨hd,0,.any,by rw[h0];rfl⟩
  .have hp:0<d.stops.length:=yCl.2 h0;exact .inr ⟨λe=>Jd,iS,d.stops.length-1,by rw[JR hp,h.len],(h.row hp).2⟩
 .exact jq
theorem wE{R:TypeId->Prop}{σ σ':Jj}(h:∀id,id<σ.length->σ'[id]?=σ[id]?):aW R σ σ':=λid t n v cs _ hy=>(h id (yA.1 hy).1).trans hy
def EI{α:Type}(E:aE)(f:FuncId)(em:Em α)(sz:Nat)(e:TypeId)(N:Nat)(R R':TypeId->Prop):Prop:=∀(σ:List aA) (P:PD) (l:List α) (way:Int) (i:Nat) (x:α),BO em sz e (N+1) R σ P l->l.length<=900000->(way=0/\i<=l.length\/(way=1\/way=2)/\i<l.length) ->
 aK prog E 0 (.inl f) [P,.int .i64 way,.int .i64 i,em.aB x] σ (λQ σ'=>(Q.plain=true/\Q.cells=[Q]/\∀τ,aW R' σ' τ->∀K,(bJ τ (K+(N+2)) Q).strip=(em.list sz).aB (aS l way i x)/\(bJ τ (K+(N+2)) Q).cI=true)/\σ.length<=σ'.length/\∀id,id<σ.length->σ'[id]?=σ[id]?)
theorem aKr{E:aE}(hU:aJ E)(h0:E 47=none):EI E 47 Em.aN 6 48 6 o6 kI:=by
 intro σ P l way i x h hl hw;obtain⟨gs,H,hg,hA⟩:=h;have hlen:=hA.len;obtain⟨nm,tn,a,b,c,w⟩:=x;have hy:lL Em.aN 7 o6 σ [.str nm,.str tn,.int .i64 a,.int .i64 b,.int .i64 c,.slice (sz 1 w) (w.map i64.aB) .any] ⟨nm,tn,a,b,c,w⟩:=λσ' _=>(zX QU ⟨nm,tn,a,b,c,w⟩ rfl σ').up (show 1<=7 by decide)
 refine(aSs hU h0 σ P gs way i nm tn a b c (sz 1 w) (w.map i64.aB) (vO i64 1 w .any) H hg Cd Hf).mono λq σ' ⟨o1,o2,o3⟩=>?_
 exact mz
theorem aKt{E:aE}(hU:aJ E)(h0:E 49=none):EI E 49 Em.div 5 53 6 j5 kJ:=by
 intro σ P l way i x h hl hw;obtain⟨gs,H,hg,hA⟩:=h;have hlen:=hA.len;obtain⟨nm,pe,a,b,w⟩:=x;have hy:lL Em.div 7 j5 σ [.str nm,.bool pe,.int .i64 a,.int .i64 b,.slice (sz 4 w) (w.map Em.stop.aB) .any] ⟨nm,pe,a,b,w⟩:=λσ' _=>(zX aSo ⟨nm,pe,a,b,w⟩ rfl σ').up (show 1<=7 by decide)
 refine(aSt hU h0 σ P gs way i nm pe a b (sz 4 w) (w.map Em.stop.aB) (vO Em.stop 4 w .any) H hg Cd Hf).mono λq σ' ⟨o1,o2,o3⟩=>?_
 exact om
theorem aKv{E:aE}(hU:aJ E)(h0:E 50=none):EI E 50 Em.stop 4 56 5 oJ j5:=by
 intro σ P l way i x h hl hw;obtain⟨gs,H,hg,hA⟩:=h;have hlen:=hA.len;obtain⟨nm,a,b,w⟩:=x;have hy:lL Em.stop 6 oJ σ [.str nm,.int .i64 a,.int .i64 b,.slice (sz 3 w) (w.map Em.fB.aB) .any] ⟨nm,a,b,w⟩:=λσ' _=>(zX aES ⟨nm,a,b,w⟩ rfl σ').up (show 1<=6 by decide)
 refine(aSu hU h0 σ P gs way i nm a b (sz 3 w) (w.map Em.fB.aB) (vO Em.fB 3 w .any) H hg Cd Hf).mono λq σ' ⟨o1,o2,o3⟩=>?_
 exact om
theorem aKx{E:aE}(hU:aJ E)(h0:E 51=none):EI E 51 Em.bF 5 58 6 o6 jJ:=by
 intro σ P l way i x h hl hw;obtain⟨gs,H,hg,hA⟩:=h;have hlen:=hA.len;obtain⟨nm,a,b,c,th⟩:=x;have hy:lL Em.bF 7 o6 σ [.str nm,.int .i64 a,.int .i64 b,.int .i64 c,.bool th] ⟨nm,a,b,c,th⟩:=λσ' _=>(zX QY ⟨nm,a,b,c,th⟩ rfl σ').up (show 1<=7 by decide)
 refine(aSv hU h0 σ P gs way i nm a b c th H hg Cd Hf).mono λq σ' ⟨o1,o2,o3⟩=>?_
 exact mz
def qW:Nat->List PD->List aA->Option (PD×List aA):=entry (cU Em.edit (i64.p7 i64) λx=>eL (EP x.kind) (some ((IntKind.i64.wrap (x.kind-1)).tdiv 3,(IntKind.i64.wrap (x.kind-1)).tmod 3)))
theorem GV{x:bM}(h:1<=x.kind/\x.kind<=13)(fl:Nat)(σ:List aA):qW fl [Em.edit.aB x] σ=some (.aH [.int .i64 ((x.kind-1)/3),.int .i64 ((x.kind-1)%3)],σ):=by
 have e1:=Em.dC (Em.edit.str x);have hw:IntKind.i64.wrap (x.kind-1)=x.kind-1:=Ci;unfold qW entry cU;simp only[e1,fY (show EP x.kind from⟨Cd,Cd⟩),hw];rw[yCX Cd,yBX Cd];rfl
def BR:Nat->List PD->List aA->Option (PD×List aA):=entry (cU Em.edit Em.bool λx=>eL ((1<=x.kind/\x.kind<=13)/\dT x) (some (decide (fS x=0))))
theorem JQ{x:bM}(h:(1<=x.kind/\x.kind<=13)/\dT x)(fl:Nat)(σ:List aA):BR fl [Em.edit.aB x] σ=some (.bool (decide (fS x=0)),σ):=by
 have e1:=Em.dC (Em.edit.str x);unfold BR entry cU;simp only[e1,fY h];rfl
def CL(w i n:Int):Bool:=decide (i<0\/n<i\/(w≠0/\i=n))
def F0:Nat->List PD->List aA->Option (PD×List aA):=entry (wI i64 i64 i64 Em.bool λw i n=>some (CL w i n))
theorem SM(w i n:Int)(fl:Nat)(σ:List aA):F0 fl [.int .i64 w,.int .i64 i,.int .i64 n] σ=some (.bool (CL w i n),σ):=by
 have e:∀z:Int,i64.dec (.int .i64 z)=some z:=λz=>Em.dC (i64.str z)
 unfold F0 entry wI;simp only[e];rfl
def vK(wy:Int):Int:=if wy=0 then 1 else if wy=1 then -1 else 0
def IF(wy i:Int)(r:bP)(o:aY):aY:={ mT (mI i (vK wy)) o with aQ:=aS o.aQ wy i.toNat r }
def IG(wy i:Int)(d:bO)(o:aY):aY:={ zO i (vK wy) o with aD:=aS o.aD wy i.toNat d }
def LI(i:Int)(o:aY):Prop:=∃d∈o.aD,∃s∈d.stops,∃g∈s.aO,g.aR.any (wX i)=true
def LK(i:Int)(o:aY):Prop:=o.aL.any (nV i)=true
def xV(bad conf:Prop)(EO:aY)(p:PD)(σ:List aA):Prop:=(bad/\p=.aH [bE,.int .i64 10])\/(¬bad/\conf/\p=.aH [bE,.int .i64 14])\/(¬bad/\¬conf/\∃P1 P2 P3,p=.aH [if dG EO=0 then .agg [.str EO.name,P1,P2,P3]else bX,.int .i64 (dG EO)]/\cX Em.aN 6 kI σ P1 EO.aQ/\cX Em.div 5 kJ σ P2 EO.aD/\cX Em.bF 5 jJ σ P3 EO.aL)
def IL(E:aE):Prop:=∀(o:aY) (ho:fX o) (τ:List aA),aK prog E 0 (.inl 44) [Em.bY.aB o] τ (λp σ'=>(∃iR iD iC ds tS tss tG tgs tW,jR σ' τ.length o p iR iD iC ds tS tss tG tgs tW)/\τ.length<=σ'.length/\∀id,id<τ.length->σ'[id]?=τ[id]?)
def aDg(E:aE):Prop:=∀(fm b:Int) (hb1:-1<=b/\b<=1) (o:aY) (p:PD) (aV:List aA) (lo iR iD iC:Nat) (ds:List (List PD)) (tS:Nat->Nat) (tss:Nat->List (List PD)) (tG:Nat->Nat->Nat) (tgs:Nat->Nat->List (List PD)) (tW:Nat->Nat->Nat->Nat) (hO:jR aV lo o p iR iD iC ds tS tss tG tgs tW) (hlo:lo<=aV.length) (ho:fX o)
    (hb:∀d∈o.aD,∀s∈d.stops,∀g∈s.aO,∀w∈g.aR,-1000000000<=w.aN/\w.aN<=1000000000),
    aK prog E 0 (.inl 46) [p,.int .i64 fm,.int .i64 b] aV (λq σ'=>∃hs:Bool,q=.bool hs/\(hs=true↔LI fm o)/\jR σ' lo (mT (mI fm b) o) p iR iD iC ds tS tss tG tgs tW/\aV.length<=σ'.length/\(∀id,id<lo->σ'[id]?=aV[id]?)/\∀(id:Nat) (x:aA),(∀n v cs,x≠.row 89 n v cs)->aV[id]?=some x->σ'[id]?=some x)
def aDh(E:aE):Prop:=∀(fm b:Int) (hb1:-1<=b/\b<=1) (o:aY) (p:PD) (aV:List aA) (lo iR iD iC:Nat) (ds:List (List PD)) (tS:Nat->Nat) (tss:Nat->List (List PD)) (tG:Nat->Nat->Nat) (tgs:Nat->Nat->List (List PD)) (tW:Nat->Nat->Nat->Nat) (hO:jR aV lo o p iR iD iC ds tS tss tG tgs tW) (hlo:lo<=aV.length) (ho:fX o)
    (hb:∀c∈o.aL,(-1000000000<=c.dJ/\c.dJ<=1000000000)/\-1000000000<=c.dst/\c.dst<=1000000000),
    aK prog E 0 (.inl 48) [p,.int .i64 fm,.int .i64 b] aV (λq σ'=>∃hs:Bool,q=.bool hs/\(hs=true↔LK fm o)/\jR σ' lo (zO fm b o) p iR iD iC ds tS tss tG tgs tW/\aV.length<=σ'.length/\(∀id,id<lo->σ'[id]?=aV[id]?)/\∀(id:Nat) (x:aA),(∀n v cs,x≠.row 58 n v cs)->aV[id]?=some x->σ'[id]?=some x)
theorem jR.aM{σ σ':Jj}{lo:Nat}{o:aY}{p:PD}{iR iD iC:Nat}{ds:Jh}{tS:Nat->Nat}{tss:Jg}{tG:Nat->Nat->Nat}{tgs:Jf}{tW:Nat->Nat->Nat->Nat}(h:jR σ lo o p iR iD iC ds tS tss tG tgs tW)(hk:∀(id:Nat) (o:aA),lo<=id->σ[id]?=some o->σ'[id]?=some o):jR σ' lo o p iR iD iC ds tS tss tG tgs tW:=
 { h with aN:=λq=>⟨(h.aN q).1,hk _ _ (h.aN q).1 (h.aN q).2⟩,bF:=λq=>⟨(h.bF q).1,hk _ _ (h.bF q).1 (h.bF q).2⟩,row:=λq=>⟨(h.row q).1,hk _ _ (h.row q).1 (h.row q).2⟩,at_:=λd hd=>⟨(h.at_ d hd).1,(h.at_ d hd).2.len,λq=>⟨((h.at_ d hd).2.row q).1,hk _ _ ((h.at_ d hd).2.row q).1 ((h.at_ d hd).2.row q).2⟩,λs hs=>⟨((h.at_ d hd).2.at_ s hs).1,((h.at_ d hd).2.at_ s hs).2.aM (yAk _) hk⟩,(h.at_ d hd).2.inj⟩ }
theorem SO{w i:Int}{n:Nat}(h:eI w i n)(hw:w=0\/w=1\/w=2):CL w i n=false:=by
 unfold eI at h;unfold CL;rw[yDX];rcases hw with rfl|rfl|rfl<;>simp at h ⊢<;>omega
theorem SN{w i:Int}{n:Nat}(h:¬eI w i n)(hw:w=0\/w=1\/w=2):CL w i n=true:=by
 unfold eI at h;unfold CL;rw[yCa];rcases hw with rfl|rfl|rfl<;>simp at h ⊢<;>omega
theorem SR{wy:Int}{i n:Nat}(h:eI wy (i:Int) n)(hw:wy=0\/wy=1\/wy=2):wy=0/\i<=n\/(wy=1\/wy=2)/\i<n:=by
 have h2:=h.2;rcases hw with rfl|rfl|rfl<;>simp at h2 ⊢<;>omega
theorem SS:vK 0=1:=rfl
theorem SU:vK 1=-1:=rfl
theorem SW:vK 2=0:=rfl
section
variable{E E1 E3 E5 Eo:aE}
theorem aKw(h0:E 18=none)(h1:E 43=some BR)(h2:E 44=some (dO prog E1 44))(H2:IL E1)(h3:E 39=some qW)(h4:E 45=some F0)(h5:E 51=some (dO prog E3 51))(H5:EI E3 51 Em.bF 5 58 6 o6 jJ)(h6:E 27=some (qC (pL prog Eo 27)))(H6:∀o,dP o->aI prog Eo 27 [Em.bY.aB o] (i64.aB (dG o)))
  (o:aY) (x:bM) (ho:fX o) (hx:dT x) (hf:fS x=0) (hk:10<=x.kind/\x.kind<=12) (hsm:o.aL.length<=900000) (hokr:dP (rU ((x.kind-1)%3) x.idx x.bF o)) :
  aK prog E 0 (.inl 18) [Em.bY.aB o,Em.edit.aB x] [] (xV (¬eI ((x.kind-1)%3) x.idx o.aL.length) (False) (rU ((x.kind-1)%3) x.idx x.bF o)):=by
 have hn:1<=x.kind/\x.kind<=13:=Cd;have k1:=λfl σ=>JQ (x:=x) ⟨hn,hx⟩ fl σ
 rw[hf,yAX rfl]at k1;have k3:=λfl σ=>GV (x:=x) hn fl σ
 have hth:(x.kind-1)/3=3:=Cd;rw[hth]at k3;obtain⟨wy,hwy⟩:=gn ((x.kind-1)%3);have iI:wy=0\/wy=1\/wy=2:=Cd;rw[hwy]at k3 hokr;rw[hwy];have k2:=(H2 o ho [.box (Em.bY.aB o),.box (Em.edit.aB x),.box (.agg [.str [],.slice 0 [] .full,.slice 0 [] .full,.slice 0 [] .full])]).e0 Ce;obtain⟨p,σ1,k2,⟨iR,iD,iC,ds,tS,tss,tG,tgs,tW,hO⟩,hl1,hk1⟩:=k2;have hp:=hO.p;subst hp;have b0:=hk1 0 Ce;have b1:=hk1 1 Ce;have b2:=hk1 2 Ce;simp only[yBi,yBB]at b0 b1 b2;obtain⟨hR,hhR⟩:=gn (Go.Kz.hn 6 iR o.aQ.length);obtain⟨hD,hhD⟩:=gn (Go.Kz.hb 5 iD (o.aD.length-1) o.aD.length);obtain⟨hC,hhC⟩:=gn (Go.Kz.hn 5 iC o.aL.length);have pR:hR.plain=true:=Dl;have pD:hD.plain=true:=Cy;have pC:hC.plain=true:=Dm;have cR:hR.cells=[hR]:=Eg;have cD:hD.cells=[hD]:=Db;have cC:hC.cells=[hC]:=Dv;unfold PD.plain at pR pD pC;unfold PD.cells at cR cD cC;simp only[hhR,hhD,hhC]at hO k2;obtain⟨OB,hOB⟩:=gn (σ1.length);have SK:3<=OB:=Fk;obtain⟨σ2,bT⟩:=gn (σ1++[aA.box (.agg [.str o.name,hR,hD,hC])]);have eP:jR σ2 3 o (.agg [.str o.name,hR,hD,hC]) iR iD iC ds tS tss tG tgs tW:=Dt;have gC:3<=σ2.length:=Ew;have D2:σ2≠[]:=λe=>Ey
 have jS:∀x y:aA,(σ1++[x]).set OB y=σ1++[y]:=λx y=>Dy
 have jO:∀x:aA,(σ1++[x])[OB]?=some x:=λx=>Dy
 have c3:σ2[OB]?=some (.box (.agg [.str o.name,hR,hD,hC])):=Fl;have k4:=λfl σ=>SM wy x.idx (o.aL.length:Nat) fl σ
 obtain⟨kd,dv,ix,nm,⟨rn,rt,ra,rb,rf,wd⟩,⟨fn,fp,flo,fhi,fs⟩,⟨sn,sa,sb,sg⟩,⟨cn,ca,cb,cs,ct⟩⟩:=x;obtain⟨on,rs,dd,cc⟩:=o;simp only[bZ,fE,bC]at k1 k2 k3 b0 b1 b2 hk hwy;simp only[bZ,fE,bC];have n1:¬kd<1:=Cd;have n2:¬13<kd:=Cd;have c0:=bR (τ:=[aA.box (.agg [.str on,hR,hD,hC])]) b0;have c1:=bR (τ:=[aA.box (.agg [.str on,hR,hD,hC])]) b1;have c2:=bR (τ:=[aA.box (.agg [.str on,hR,hD,hC])]) b2;simp only at bT c3;rw[bT]at c0 c1 c2;obtain⟨w0,z0⟩:=yA.1 c0;obtain⟨w1,z1⟩:=yA.1 c1;obtain⟨w2,z2⟩:=yA.1 c2;obtain⟨w3,z3⟩:=yA.1 c3
 by_cases hb:eI wy ix cc.length
 rotate_left
 .exact cm
 have km:=SO hb iI;simp only[km]at k4;obtain⟨i,rfl⟩:∃i:Nat,ix=i:=⟨ix.toNat,Hw⟩;have hw:=SR hb iI;obtain⟨σ3,JA⟩:=gn (σ2);have qI:=eP;have u0:=c0;have u1:=c1;have u2:=c2;have u3:=c3;rw[JA]at qI u0 u1 u2 u3;obtain⟨v0,y0⟩:=yA.1 u0;obtain⟨v1,y1⟩:=yA.1 u1;obtain⟨v2,y2⟩:=yA.1 u2;obtain⟨v3,y3⟩:=yA.1 u3;have hV:=NP qI;simp only[hhR,hhD,hhC]at hV;have n3:σ3≠[]:=λe=>by rw[e]at u0;cases u0
 have k5:=(H5 σ3 hC cc wy i ⟨cn,ca,cb,cs,ct⟩ hV.2.2 hsm hw).e0 n3;obtain⟨Q,bW,k5,⟨pQ,cQ,lQ⟩,jK,cE⟩:=k5;have s0:=(cE 0 v0).trans u0;have s1:=(cE 1 v1).trans u1;have s2:=(cE 2 v2).trans u2;have s3:=(cE OB v3).trans u3;have lQ:cX Em.bF 5 jJ bW Q (aS cc wy i ⟨cn,ca,cb,cs,ct⟩):=⟨pQ,cQ,lQ⟩;unfold PD.plain at pQ;unfold PD.cells at cQ;obtain⟨f0,d0⟩:=yA.1 s0;obtain⟨f1,d1⟩:=yA.1 s1;obtain⟨f2,d2⟩:=yA.1 s2;obtain⟨f3,d3⟩:=yA.1 s3;obtain⟨eG,j3⟩:=gn (bW.set OB (.box (.agg [.str on,hR,hD,Q])));have kS:∀R,aW R bW eG:=λR=>Hq
 have a5:eG[OB]?=some (.box (.agg [.str on,hR,hD,Q])):=Ja;have t2:eG[2]?=some (.box (.agg [.str [],.slice 0 [] .full,.slice 0 [] .full,.slice 0 [] .full])):=by rw[<-j3,yAd Cd];exact s2
 have m1:=(hV.1.oI (R':=kI) Ch (λt ht=>ht.elim id False.elim)).aM ((wE cE).trans (kS _));have m2:=(hV.2.1.oI (R':=kJ) Ch (λt ht=>ht)).aM ((wE cE).trans (kS _));have m3:=lQ.aM (kS _);simp only[CR]at k5;have CJ:=λfl=>F7 (on:=on) m1 m2 m3 (H6 _ hokr) fl
 obtain⟨e,he⟩:=gn (dG (rU wy i ⟨cn,ca,cb,cs,ct⟩ ⟨on,rs,dd,cc⟩));have k6:∀fl,qC (pL prog Eo 27) fl [.agg [.str on,hR,hD,Q]] eG=some (.int .i64 e,eG):=λfl=>Fg
 obtain⟨r5,x5⟩:=yA.1 a5;obtain⟨r2,x2⟩:=yA.1 t2;unfold xV;rw[he]
 by_cases hz:e=0
 .subst hz;rcases iI with rfl|rfl|rfl
  iterate 3
   have CI:=h0;refine aK.aG 166 h0 func18 (h:=?_);refine aC (A20 h1 k1 h2 k2 h3 k3 n1 n2 hOB jO jS bT c0 c1 c2 c3 w0 w1 w2 (A20 w3 @z0 z1 @z2 @z3 pR pD pC cR cD cC h4 k4 JA h5 k5 u0 u1 u2 (A20 u3 @v0 @v1 @v2 @v3 y0 y1 y2 y3 s0 @s1 @s2 s3 @f0 @f1 @f2 @f3 @d0 @d1 (A20 @d2 @d3 pQ cQ j3 h6 k6 @a5 r5 x5 @t2 r2 x2 pR pD pC cR cD cC (A2 pQ cQ))))) ?_;refine⟨.aH [.agg [.str on,hR,hD,Q],.int .i64 0],eG.set 2 (.box (.agg [.str on,hR,hD,Q])),?_,.inr (.inr ⟨λh=>h hb,id,hR,hD,Q,rfl,m1.aM (aW.set t2 _),m2.aM (aW.set t2 _),m3.aM (aW.set t2 _)⟩)⟩;simp[bV,r2]
 .have l6:=hz;rcases iI with rfl|rfl|rfl
  iterate 3
   have CI:=h0;refine aK.aG 166 h0 func18 (h:=?_);refine aC (A20 h1 k1 h2 k2 h3 k3 n1 n2 hOB jO jS bT c0 c1 c2 c3 w0 w1 w2 (A20 w3 @z0 z1 @z2 @z3 pR pD pC cR cD cC h4 k4 JA h5 k5 u0 u1 u2 (A20 u3 @v0 @v1 @v2 @v3 y0 y1 y2 y3 s0 @s1 @s2 s3 @f0 @f1 @f2 @f3 @d0 @d1 (A20 @d2 @d3 pQ cQ j3 h6 k6 @hz @a5 r5 x5 @t2 r2 x2 pR pD pC cR cD (A3 cC pQ cQ))))) ?_;refine⟨.aH [bX,.int .i64 e],eG.set 2 (.box bX),?_,.inr (.inr ⟨λh=>h hb,id,hR,hD,Q,Gb,m1.aM (aW.set t2 _),m2.aM (aW.set t2 _),m3.aM (aW.set t2 _)⟩)⟩;simp[bV,r2,bX]
end
section
variable{E E1 E3 E5 Eo:aE}
theorem aKp(h0:E 18=none)(h1:E 43=some BR)(h2:E 44=some (dO prog E1 44))(H2:IL E1)(h3:E 39=some qW)(h6:E 27=some (qC (pL prog Eo 27)))(H6:∀o,dP o->aI prog Eo 27 [Em.bY.aB o] (i64.aB (dG o)))
  (o:aY) (x:bM) (ho:fX o) (hx:dT x) (hf:fS x=0) (hk:13<=x.kind/\x.kind<=13) (hokr:dP ({ o with name:=x.name })) :
  aK prog E 0 (.inl 18) [Em.bY.aB o,Em.edit.aB x] [] (xV (False) (False) ({ o with name:=x.name })):=by
 have hn:1<=x.kind/\x.kind<=13:=Cd;have k1:=λfl σ=>JQ (x:=x) ⟨hn,hx⟩ fl σ
 rw[hf,yAX rfl]at k1;have k3:=λfl σ=>GV (x:=x) hn fl σ
 have hth:(x.kind-1)/3=4:=Cd;rw[hth]at k3;obtain⟨wy,hwy⟩:=gn ((x.kind-1)%3);have iI:wy=0\/wy=1\/wy=2:=Cd;rw[hwy]at k3;have k2:=(H2 o ho [.box (Em.bY.aB o),.box (Em.edit.aB x),.box (.agg [.str [],.slice 0 [] .full,.slice 0 [] .full,.slice 0 [] .full])]).e0 Ce;obtain⟨p,σ1,k2,⟨iR,iD,iC,ds,tS,tss,tG,tgs,tW,hO⟩,hl1,hk1⟩:=k2;have hp:=hO.p;subst hp;have b0:=hk1 0 Ce;have b1:=hk1 1 Ce;have b2:=hk1 2 Ce;simp only[yBi,yBB]at b0 b1 b2;obtain⟨hR,hhR⟩:=gn (Go.Kz.hn 6 iR o.aQ.length);obtain⟨hD,hhD⟩:=gn (Go.Kz.hb 5 iD (o.aD.length-1) o.aD.length);obtain⟨hC,hhC⟩:=gn (Go.Kz.hn 5 iC o.aL.length);have pR:hR.plain=true:=Dl;have pD:hD.plain=true:=Cy;have pC:hC.plain=true:=Dm;have cR:hR.cells=[hR]:=Eg;have cD:hD.cells=[hD]:=Db;have cC:hC.cells=[hC]:=Dv;unfold PD.plain at pR pD pC;unfold PD.cells at cR cD cC;simp only[hhR,hhD,hhC]at hO k2;obtain⟨OB,hOB⟩:=gn (σ1.length);have SK:3<=OB:=Fk;obtain⟨σ2,bT⟩:=gn (σ1++[aA.box (.agg [.str o.name,hR,hD,hC])]);have eP:jR σ2 3 o (.agg [.str o.name,hR,hD,hC]) iR iD iC ds tS tss tG tgs tW:=Dt;have gC:3<=σ2.length:=Ew;have D2:σ2≠[]:=λe=>Ey
 have jS:∀x y:aA,(σ1++[x]).set OB y=σ1++[y]:=λx y=>Dy
 have jO:∀x:aA,(σ1++[x])[OB]?=some x:=λx=>Dy
 have c3:σ2[OB]?=some (.box (.agg [.str o.name,hR,hD,hC])):=Fl;obtain⟨kd,dv,ix,nm,⟨rn,rt,ra,rb,rf,wd⟩,⟨fn,fp,flo,fhi,fs⟩,⟨sn,sa,sb,sg⟩,⟨cn,ca,cb,cs,ct⟩⟩:=x;obtain⟨on,rs,dd,cc⟩:=o;simp only[bZ,fE,bC]at k1 k2 k3 b0 b1 b2 hk hwy;simp only[bZ,fE,bC];have n1:¬kd<1:=Cd;have n2:¬13<kd:=Cd;have c0:=bR (τ:=[aA.box (.agg [.str on,hR,hD,hC])]) b0;have c1:=bR (τ:=[aA.box (.agg [.str on,hR,hD,hC])]) b1;have c2:=bR (τ:=[aA.box (.agg [.str on,hR,hD,hC])]) b2;simp only at bT c3;rw[bT]at c0 c1 c2;obtain⟨w0,z0⟩:=yA.1 c0;obtain⟨w1,z1⟩:=yA.1 c1;obtain⟨w2,z2⟩:=yA.1 c2;obtain⟨w3,z3⟩:=yA.1 c3;obtain rfl:kd=13:=Cd;obtain⟨eG,j3⟩:=gn (σ2.set OB (.box (.agg [.str nm,hR,hD,hC])));have hO5:jR eG 3 ⟨on,rs,dd,cc⟩ (.agg [.str on,hR,hD,hC]) iR iD iC ds tS tss tG tgs tW:=by rw[<-j3,<-bT,jS];exact hO.aM λid y _ hy=>bR hy
 have hV:=NP hO5;simp only[hhR,hhD,hhC]at hV;have m1:=hV.1.oI (R':=kI) Ch (λt ht=>ht.elim id False.elim);have m2:=hV.2.1.oI (R':=kJ) Ch (λt ht=>ht);have m3:=hV.2.2.oI (R':=jJ) Ch (λt ht=>ht.elim id False.elim);have a5:eG[OB]?=some (.box (.agg [.str nm,hR,hD,hC])):=by rw[<-j3];exact yAj w3
 have t2:eG[2]?=some (.box (.agg [.str [],.slice 0 [] .full,.slice 0 [] .full,.slice 0 [] .full])):=by rw[<-j3,yAd Cd];exact c2
 have aSN:wy=0:=Cd;subst aSN;have pQ:=pR;have cQ:=cR;have CJ:=λfl=>F7 (on:=nm) m1 m2 m3 (H6 _ hokr) fl
 obtain⟨e,he⟩:=gn (dG (⟨nm,rs,dd,cc⟩));have k6:∀fl,qC (pL prog Eo 27) fl [.agg [.str nm,hR,hD,hC]] eG=some (.int .i64 e,eG):=λfl=>Fg
 obtain⟨r5,x5⟩:=yA.1 a5;obtain⟨r2,x2⟩:=yA.1 t2;unfold xV;rw[he]
 by_cases hz:e=0
 .subst hz;refine aK.aG 166 h0 func18 (h:=?_);refine aC (A20 h1 k1 h2 k2 h3 k3 n1 n2 hOB jO jS bT c0 c1 c2 c3 w0 w1 w2 (A20 w3 @z0 z1 @z2 @z3 pR pD pC cR cD cC j3 h6 k6 @a5 r5 x5 @t2 r2 (A9 x2 pR pD pC cR cD cC pQ cQ))) ?_;refine⟨.aH [.agg [.str nm,hR,hD,hC],.int .i64 0],eG.set 2 (.box (.agg [.str nm,hR,hD,hC])),?_,.inr (.inr ⟨id,id,hR,hD,hC,rfl,m1.aM (aW.set t2 _),m2.aM (aW.set t2 _),m3.aM (aW.set t2 _)⟩)⟩;simp[bV,r2]
 .have l6:=hz;refine aK.aG 166 h0 func18 (h:=?_);refine aC (A20 h1 k1 h2 k2 h3 k3 n1 n2 hOB jO jS bT c0 c1 c2 c3 w0 w1 w2 (A20 w3 @z0 z1 @z2 @z3 pR pD pC cR cD cC j3 h6 k6 @hz @a5 r5 x5 @t2 (A10 r2 x2 pR pD pC cR cD cC pQ cQ))) ?_;refine⟨.aH [bX,.int .i64 e],eG.set 2 (.box bX),?_,.inr (.inr ⟨id,id,hR,hD,hC,Gb,m1.aM (aW.set t2 _),m2.aM (aW.set t2 _),m3.aM (aW.set t2 _)⟩)⟩;simp[bV,r2,bX]
end
section
variable{E:aE}
theorem aKn(h0:E 18=none)(o:aY)(x:bM)(hk:¬(1<=x.kind/\x.kind<=13)) :
  aK prog E 0 (.inl 18) [Em.bY.aB o,Em.edit.aB x] [] (λp σ=>p=.aH [bE,.int .i64 12]):=by
 obtain⟨kd,dv,ix,nm,⟨rn,rt,ra,rb,rf,wd⟩,⟨fn,fp,flo,fhi,fs⟩,⟨sn,sa,sb,sg⟩,⟨cn,ca,cb,cs,ct⟩⟩:=x;obtain⟨on,rs,dd,cc⟩:=o;simp only[bZ,fE,bC]at hk ⊢
 by_cases n1:kd<1
 .have hz:=h0;refine aK.aG 166 h0 func18 (h:=?_);refine aC n1 ?_;exact⟨.aH [bE,.int .i64 12],_,by simp[bV,bE];rfl,rfl⟩
 .have n2:13<kd:=by omega
  have hz:=h0;refine aK.aG 166 h0 func18 (h:=?_);refine aC (A2 n1 n2) ?_;exact⟨.aH [bE,.int .i64 12],_,by simp[bV,bE];rfl,rfl⟩
theorem aKo(h0:E 18=none)(h1:E 43=some BR)(o:aY)(x:bM)(hx:dT x)(hk:1<=x.kind/\x.kind<=13)(hf:fS x≠0) :
  aK prog E 0 (.inl 18) [Em.bY.aB o,Em.edit.aB x] [] (λp σ=>p=.aH [bE,.int .i64 7]):=by
 have k1:=λfl σ=>JQ (x:=x) ⟨hk,hx⟩ fl σ
 rw[yBc hf]at k1;obtain⟨kd,dv,ix,nm,⟨rn,rt,ra,rb,rf,wd⟩,⟨fn,fp,flo,fhi,fs⟩,⟨sn,sa,sb,sg⟩,⟨cn,ca,cb,cs,ct⟩⟩:=x;obtain⟨on,rs,dd,cc⟩:=o;simp only[bZ,fE,bC]at hk k1 ⊢;have n1:¬kd<1:=Cd;have n2:¬13<kd:=Cd;refine aK.aG 166 h0 func18 (h:=?_);refine aC (A4 n1 n2 h1 k1) ?_;exact⟨.aH [bE,.int .i64 7],_,by simp[bV,bE];rfl,rfl⟩
end
end Go.Kz
end
