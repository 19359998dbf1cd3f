/- Steps of the proof. -/
import Derived.Test.YtnogdlnjafblaaaGreatDoorG7
import Derived.Test.YtnogdlnjafblaaaGreatDoorP3
set_option linter.all false
set_option maxHeartbeats 40000000
set_option maxRecDepth 100000
open Go.Proofs.Tryz
namespace Go.Kz
open Go Go.Proofs
section
theorem aEY{x y:Int}(h:mP x y=0):aBe (x,y):=by
 obtain⟨h1,h2⟩:=aBf h;have:=SZ h1;exact⟨⟨zi,zi⟩,zi,zi⟩
theorem ML{n:Int}(h:-1000000<=n/\n<=1000000):XK n:=⟨xb,xb⟩
theorem aU1{o:eG}(h:gI o=0){d:b9}(hd:d∈o.dY){s:dL}(hs:s∈d.stops):XL o.bM.length s:=by
 obtain⟨_,h2,h3,_⟩:=(OY o).1 h;obtain⟨k1,_,k2,_⟩:=(S0 _ _).1 (h3.2.1 d hd).2;obtain⟨_,q1,q2,q3⟩:=(aBg _ _ _ _).1 (k2 s hs);have hb:=aBh k1;refine⟨λg hg w hw=>(aBi (aBj q3 g hg).2 w hw).1,aEY q2,λg hg=>?_⟩;obtain⟨b1,b2⟩:=aBj q3 g hg;exact⟨ML xb,ML xb,λw hw=>ML (by have:=(aBi b2 w hw).2;omega)⟩
def KR(o:eG):Bx×Int:=if gI o≠0 then([],gI o)else if 20000<(bE (tS o)).length then([],4)else if 65536<(vZ o).length then([],16)else(vZ o,0)
def aBd(o:eG):Prop:=FE o/\(gI o=0->(vZ o).length<=1000000/\(bE (tS o)).length<=1000000)
theorem Wp.aEZ{P:Program}{E:aE}{rd:Option Nat}{fl:Nat}{fr:Bw}{ms:List Nat}{σ:Bv}{Q:PO->Prop}{c:Code}(R:List PD->List U->Prop)(h:Wp P E rd c fl fr ms σ (λr=>r.x=.normal/\r.ms=ms/\R r.fr r.σ))(k:∀fr' σ',R fr' σ'->Q ⟨.normal,fr',ms,σ'⟩):Wp P E rd c fl fr ms σ Q:=
 Wp.mono h λ⟨x,f,m,s⟩ ⟨h1,h2,h3⟩=>by
  simp only at h1 h2 h3;subst h1 h2;exact k _ _ h3
theorem hH.aU2{aR σ:Bv}{id:Nat}{s0:Bx}{k0:Int}{L:List (List Tk)}{K:List (Nat×U)}(h:hH aR id s0 k0 L σ K){g:Bq}{ns:List (List UInt8)}{A:PD}{n:Nat}
  (hC:∀σ id st s k,eC σ id s k->XL n st->(s++KS ns st).length<=1000000->0<=k->k+(bE (dB ns st)).length<=1000000->∃σ',g 0 [.ptr id 0,A,Em.stop.aA st] σ=some (.aK [],σ')/\eC σ' id (s++KS ns st) (k+(bE (dB ns st)).length)/\OZ id σ σ')
  (st:dL) (hst:XL n st) (ht:(s0++jC (L++dB ns st)).length<=1000000) (hk0:0<=k0) (hk:k0+(bE (L++dB ns st)).length<=1000000) :
  ∃σ',g 0 [.ptr id 0,A,Em.stop.aA st] σ=some (.aK [],σ')/\hH aR id s0 k0 (L++dB ns st) σ' K:=by
 rw[aBk]at ht;rw[S1,yAa]at hk;obtain⟨σ',h1,h2,h3⟩:=hC σ id st _ _ h.bw hst (by unfold KS;rw[yAi];exact ht) xb xb;refine⟨σ',h1,⟨?_,λj o hj e=>h3 j o hj (h.kp j o hj e),λp hp=>?_⟩⟩
 .rw[aBk,S1,yAa];unfold KS at h2;rw[yAi]at h2;have:k0+((bE L).length:Int)+((bE (dB ns st)).length:Int)=k0+(((bE L).length+(bE (dB ns st)).length:Nat):Int):=xb;rw[<-this];exact h2
 .exact oz
variable{E:aE}(hU:aF E)
include hU
set_option maxRecDepth 10000
theorem aTZ(h0:E 26=none)(h1:E 25=some SA)(hL:OT E)(hSt:XA E)(h2:E 35=some H7)(h3:E 40=some H6)(h4:E 55=some KN)(h5:E 47=some MG)(o:eG)(ho:aBd o) :
  aI prog E 26 [Em.fC.aA o] ((Em.text.gP i64).aA (KR o)):=by
 have hg:=aE0 ho.1
 by_cases he:gI o=0
 rotate_left
 .have hP:KR o=([],gI o):=by simp[KR,he]
  rw[hP];obtain⟨e,hee⟩:=gn (gI o);rw[hee]at he hg ⊢;obtain⟨on,rs,od,oc⟩:=o;simp only[E5,gA]at hg ⊢;refine aI.aU 157 h0 func26 (h:=?_);refine aD (A3 h1 hg @he) ?_;exact aa
 have hV:True->aF E:=λ_=>hU
 clear hU;obtain⟨ht,hk⟩:=ho.2 he;rw[he]at hg;have hiff:=(OY o).1 he;have hstw:=fun {d:b9} (hd:d∈o.dY) {s:dL} (hs:s∈d.stops)=>aU1 he hd hs
 have hP:KR o=if 20000<(bE (tS o)).length then([],4)else if 65536<(vZ o).length then([],16)else(vZ o,0):=by simp[KR,he]
 rw[hP];clear hP;have hpre:=fun {L R:List (List Tk)} (h:L++R=tS o)=>aKx (s:=[]) (k:=0) (F:=tS o) (by simpa [vZ]using ht) xb h
 unfold vZ;unfold vZ at ht;obtain⟨ns,hns⟩:=gn (wA o);obtain⟨F,hF⟩:=gn (tS o);obtain⟨gL,hgL,hpL,hC⟩:=hL;obtain⟨gS,hgS,hpS,hCS⟩:=hSt;have hCS:=λσ id st s k=>hCS σ id o st s k
 obtain⟨on,rs,ds,cs⟩:=o;simp only at hiff hstw hCS;obtain⟨hnm,⟨_,hrk,_⟩,⟨_,hdv,_⟩,_,hcp,_⟩:=hiff;obtain⟨dn,hdn⟩:=gn (ds.map b9.name);have tL:F=[wT C7,wT on]::(rs.map jL++(ds.flatMap (gQ ns)++cs.map (iA dn))):=by rw[<-hF,<-hns,<-hdn];rfl
 rw[hF]at hpre ht hk ⊢;rw[hns]at hCS;simp only[E5,gA]at hg hCS ⊢;obtain⟨O,hO⟩:=gn (PD.agg [.str on,.slice (sz 6 rs) (rs.map Em.bO.aA) .any,.slice (sz 5 ds) (ds.map Em.div.aA) .any,.slice (sz 5 cs) (cs.map Em.cF.aA) .any]);have b0:eC [.box O,.box (.typed 125 [.dJ,.slice 0 [] .full,.int .i64 0])] 1 [] 0:=⟨.dJ,0,.full,rfl,.inl rfl,.inl ⟨rfl,.inr rfl⟩⟩;have w0:hH [] 1 [] 0 [] [.box O,.box (.typed 125 [.dJ,.slice 0 [] .full,.int .i64 0])] [(0,.box O)]:=⟨show eC _ 1 [] 0 from b0,λ_ _ _ h=>yp,λp hp=>by
  simp only[yAS,yBh,yBi]at hp;subst hp;exact⟨rfl,wz,O,rfl⟩⟩
 have xp:∀args σ,pO E 54 0 (.inl 35) args σ=eU E 0 (.inl 35) args σ:=λ_ _=>aBl xl
 have xi:∀args σ,pO E 54 0 (.inl 40) args σ=eU E 0 (.inl 40) args σ:=λ_ _=>aBl xl
 obtain⟨a1,a2⟩:=hpre (L:=[]++[[wT C7,wT on]]) (R:=rs.map jL++(ds.flatMap (gQ ns)++cs.map (iA dn))) (by rw[tL];rfl);obtain⟨σ2,l2,w2⟩:=w0.line hC [wT C7,wT on] wz wz a1 xl a2 .full;simp only[yB,yBP,IC]at l2;rw[<-hO]at l2;have XO:=w2;rw[<-hO]at XO;obtain⟨y1,y2,y3,y4,y5,y6⟩:=aB (XO.ks (0,_) (yBa ..)).1;refine aI.aU 157 h0 func26 (h:=?_)
 first|(apply WL.jU;(focus decide +kernel))|(apply WL.dW xd;(focus decide +kernel);(focus decide +kernel))|(apply WL.jG;(focus decide +kernel);(focus decide +kernel))|(apply WL.kE;(focus decide +kernel))|(apply WL.kC xd;(focus decide +kernel);(focus decide +kernel))|(apply tu;(focus decide +kernel);(focus decide +kernel))
 refine aDI trivial ?_;apply SQ.nil;refine Wp.seq ?_;refine Wp.aEZ (λfr' σ'=>∃gg:Nat->PD,True/\fr'=gg 0::(.ptr 0 0)::(.str [])::(.int .i64 0)::gg 4::gg 5::gg 6::gg 7::gg 8::gg 9::gg 10::gg 11::gg 12::gg 13::gg 14::gg 15::gg 16::gg 17::gg 18::gg 19::gg 20::gg 21::gg 22::gg 23::gg 24::gg 25::gg 26::gg 27::gg 28::gg 29::gg 30::gg 31::gg 32::gg 33::gg 34::gg 35::gg 36::gg 37::gg 38::gg 39::gg 40::gg 41::gg 42::gg 43::gg 44::gg 45::gg 46::gg 47::gg 48::gg 49::gg 50::gg 51::gg 52::gg 53::gg 54::gg 55::gg 56::gg 57::gg 58::gg 59::gg 60::gg 61::gg 62::gg 63::gg 64::gg 65::gg 66::gg 67::gg 68::gg 69::gg 70::gg 71::gg 72::gg 73::gg 74::gg 75::gg 76::gg 77::gg 78::gg 79::gg 80::gg 81::gg 82::gg 83::gg 84::gg 85::gg 86::gg 87::gg 88::gg 89::gg 90::gg 91::gg 92::gg 93::gg 94::gg 95::gg 96::gg 97::gg 98::gg 99::gg 100::gg 101::gg 102::gg 103::gg 104::gg 105::gg 106::gg 107::gg 108::gg 109::gg 110::gg 111::gg 112::gg 113::gg 114::gg 115::gg 116::gg 117::gg 118::gg 119::gg 120::gg 121::gg 122::gg 123::gg 124::gg 125::gg 126::gg 127::gg 128::gg 129::gg 130::gg 131::gg 132::gg 133::gg 134::gg 135::gg 136::gg 137::gg 138::gg 139::gg 140::gg 141::gg 142::gg 143::gg 144::gg 145::gg 146::gg 147::gg 148::gg 149::gg 150::gg 151::gg 152::gg 153::gg 154::gg 155::gg 156::[]/\σ'=[.box (.agg [.str on,.slice (sz 6 rs) (rs.map Em.bO.aA) .any,.slice (sz 5 ds) (ds.map Em.div.aA) .any,.slice (sz 5 cs) (cs.map Em.cF.aA) .any])]) ?_ ?_
 .refine aD (A2 h1 hg) ?_;exact⟨rfl,rfl,vK trivial Ai Ai⟩
 rintro fr' σ' ⟨gg,-,rfl,rfl⟩
 refine aS.normal ?_;apply WL.jU xo;apply SL.build
 .exact Wt.i rfl
 .rfl
 .refine By.i ?_;simp;rfl
 .refine Fr.i ?_;exact az
 apply SL.aCJ
 .exact Wt.i rfl
 .exact Wt.i rfl
 .rfl
 .rfl
 .exact Ns.i rfl
 .exact Ns.i rfl
 .refine Fr.i ?_;exact az
 refine aDI trivial ?_;apply SQ.nil;refine aD (A8 hgL l2 y1 y2 y3 y4 y5 y6) ?_;clear y1 y2 y3 y4 y5 y6 l2;refine Wp.eV (λm fr σ=>∃(i:Nat) (σ1:List U),∃gg:Nat->PD,(i+m=rs.length/\hH [] 1 [] 0 ([wT C7,wT on]::(rs.take i).map jL) σ1 [(0,.box O)])/\fr=gg 0::.ptr 0 0::.str []::.int .i64 0::gg 4::.ptr 1 0::gg 6::gg 7::gg 8::gg 9::gg 10::gg 11::gg 12::gg 13::gg 14::gg 15::gg 16::gg 17::gg 18::gg 19::gg 20::gg 21::gg 22::gg 23::gg 24::gg 25::gg 26::gg 27::gg 28::gg 29::gg 30::gg 31::.slice (sz 6 rs) (rs.map Em.bO.aA) .any::.int .i64 rs.length::.int .i64 i::gg 35::gg 36::gg 37::gg 38::gg 39::gg 40::gg 41::gg 42::gg 43::gg 44::gg 45::gg 46::gg 47::gg 48::gg 49::gg 50::gg 51::gg 52::gg 53::gg 54::gg 55::gg 56::gg 57::gg 58::gg 59::gg 60::gg 61::gg 62::gg 63::gg 64::gg 65::gg 66::gg 67::gg 68::gg 69::gg 70::gg 71::gg 72::gg 73::gg 74::gg 75::gg 76::gg 77::gg 78::gg 79::gg 80::gg 81::gg 82::gg 83::gg 84::gg 85::gg 86::gg 87::gg 88::gg 89::gg 90::gg 91::gg 92::gg 93::gg 94::gg 95::gg 96::gg 97::gg 98::gg 99::gg 100::gg 101::gg 102::gg 103::gg 104::gg 105::gg 106::gg 107::gg 108::gg 109::gg 110::gg 111::gg 112::gg 113::gg 114::gg 115::gg 116::gg 117::gg 118::gg 119::gg 120::gg 121::gg 122::gg 123::gg 124::gg 125::gg 126::gg 127::gg 128::gg 129::gg 130::gg 131::gg 132::gg 133::gg 134::gg 135::gg 136::gg 137::gg 138::gg 139::gg 140::gg 141::gg 142::gg 143::gg 144::gg 145::gg 146::gg 147::gg 148::gg 149::gg 150::gg 151::gg 152::gg 153::gg 154::gg 155::gg 156::[]/\σ=σ1) ?_ (rs.length) (by refine⟨0,σ2,?_⟩;exact cG (⟨xb,by simpa using w2⟩))
 rintro m fr σ ⟨i,σ1,gg,hI,rfl,rfl⟩
 obtain⟨hm,hw⟩:=hI
 by_cases hi:i<rs.length
 .have q1:(i:Int)<(rs.length:Int):=by omega
  obtain⟨g,dX⟩:=gn (rs[i]);have hgm:g∈rs:=dX▸yAm hi
  have hsp:=aE1 hi jL;have htk:=KT hi;rw[dX]at hsp htk;obtain⟨r1,r2,r3,r4,r5,r6⟩:=g;obtain⟨_,_,hpt,hfi,hwl,hwd⟩:=aE2 (hrk _ hgm);simp only at hpt hfi hwl hwd;have gp:=XH (aEY hpt);have gi:=MM (ML (n:=r5) xb);have wi:=KU (i:=i) (by
   have h2:=O0 ([wT C7,wT on]::(rs.take i).map jL);have h3:=(hpre (L:=[wT C7,wT on]::(rs.take i).map jL) (R:=jL ⟨r1,r2,r3,r4,r5,r6⟩::(rs.drop (i+1)).map jL++(ds.flatMap (gQ ns)++cs.map (iA dn))) (by rw[tL,hsp];simp)).2;rw[yAK,yAe,yAt]at h2;omega)
  obtain⟨bx,hbx⟩:=gn (σ.length);have w3:=hw.box (.agg [.str r1,.str r2,.int .i64 r3,.int .i64 r4,.int .i64 r5,.slice (sz 1 r6) (r6.map i64.aA) .any]);rw[hbx]at w3;obtain⟨u1,v1,x1⟩:=bH σ;obtain⟨y1,y2,y3,y4,y5,y6⟩:=aB (w3.ks _ (yBa ..)).1;refine aD (A7 q1 hi dX hbx u1 @v1 x1) ?_;refine WL.kB (hV trivial) xo xo ?_;refine bF (A11 hbx h2 h3 gp gi y1 y2 y3 y4 y5 y6) ?_;apply SQ.nil;obtain⟨M,hM⟩:∃M,M=m:=⟨_,rfl⟩;rw[<-hM]at hm ⊢;refine aD (A7 hbx y1 y2 y3 y4 y5 y6) ?_;refine Wp.eV (λm fr σ=>∃(j:Nat) (W:List PD) (tok:Tok) (σ1:List U),∃gg:Nat->PD,(j+m=r6.length/\W=(([wT KV,wT r1,wT S2,wT r2,wT KW,fT r3 r4,wT S3,nT r5,wT S4]++(r6.take j).map nT).map eP).map PD.str/\XP σ1 tok W.length/\hH [] 1 [] 0 ([wT C7,wT on]::(rs.take i).map jL) σ1 [(0,.box O)])/\fr=gg 0::.ptr 0 0::.str []::.int .i64 0::gg 4::.ptr 1 0::gg 6::.ptr bx 0::.slice 1 W tok::gg 9::gg 10::gg 11::gg 12::gg 13::gg 14::gg 15::gg 16::gg 17::gg 18::gg 19::gg 20::gg 21::gg 22::gg 23::gg 24::gg 25::gg 26::gg 27::gg 28::gg 29::gg 30::gg 31::.slice (sz 6 rs) (rs.map Em.bO.aA) .any::.int .i64 rs.length::.int .i64 i::gg 35::gg 36::gg 37::gg 38::gg 39::gg 40::gg 41::gg 42::gg 43::gg 44::gg 45::gg 46::gg 47::gg 48::gg 49::.slice (sz 1 r6) (r6.map i64.aA) .any::.int .i64 r6.length::.int .i64 j::gg 53::gg 54::gg 55::gg 56::gg 57::gg 58::gg 59::gg 60::gg 61::gg 62::gg 63::gg 64::gg 65::gg 66::gg 67::gg 68::gg 69::gg 70::gg 71::gg 72::gg 73::gg 74::gg 75::gg 76::gg 77::gg 78::gg 79::gg 80::gg 81::gg 82::gg 83::gg 84::gg 85::gg 86::gg 87::gg 88::gg 89::gg 90::gg 91::gg 92::gg 93::gg 94::gg 95::gg 96::gg 97::gg 98::gg 99::gg 100::gg 101::gg 102::gg 103::gg 104::gg 105::gg 106::gg 107::gg 108::gg 109::gg 110::gg 111::gg 112::gg 113::gg 114::gg 115::gg 116::gg 117::gg 118::gg 119::gg 120::gg 121::gg 122::gg 123::gg 124::gg 125::gg 126::gg 127::gg 128::gg 129::gg 130::gg 131::gg 132::gg 133::gg 134::gg 135::gg 136::gg 137::gg 138::gg 139::gg 140::gg 141::gg 142::gg 143::gg 144::gg 145::gg 146::gg 147::gg 148::gg 149::gg 150::gg 151::gg 152::gg 153::gg 154::gg 155::gg 156::[]/\σ=σ1) ?_ (r6.length) (by refine⟨0,[.str [114,97,110,107],.str r1,.str [116,111,110,101],.str r2,.str [102,101,101,116],.str (pN (r3,r4)),.str [102,105,114,115,116],.str (Lib.itoa r5),.str [119,105,110,100]],.full,σ++[.box (.agg [.str r1,.str r2,.int .i64 r3,.int .i64 r4,.int .i64 r5,.slice (sz 1 r6) (r6.map i64.aA) .any])],?_⟩;exact jV (⟨xb,by simp[IC,MO,XG],.inl rfl,w3.sub (λp hp=>yBE _ hp)⟩) @hbx)
  rintro m fr σ ⟨j,W,tok,σ1,gg,hI,rfl,rfl⟩
  obtain⟨hm2,hW,hrow,hv⟩:=hI;have hWl:W.length=9+min j r6.length:=by rw[hW];simp;omega
  by_cases hj:j<r6.length
  .have q2:(j:Int)<(r6.length:Int):=by omega
   obtain⟨n,hn⟩:=gn (r6[j]);have aU3:n∈r6:=hn▸yAm hj
   have hnb:=hwd n aU3;have gn:=MM (ML (n:=n) xb);have FG:=KT hj;rw[hn]at FG;obtain⟨bY,σ',hap,aBm,hkp⟩:=aBn (tk:=.any) W [.str (Lib.itoa n)] (λe=>by rw[e]at hWl;simp at hWl;omega) wz hrow (by rw[hWl];simp;omega);have wj:=KU (i:=j) xb;refine aD (A7 q2 hj hn h3 gn hap wj) ?_;refine aM.normal (m-1) xb (by refine⟨j+1,W++[.str (Lib.itoa n)],bY,σ',?_⟩;exact jV (⟨xb,by rw[FG,hW];simp[MO],aBm,hv.app hkp⟩) @wj)
  .have q2:¬(j:Int)<(r6.length:Int):=by omega
   obtain rfl:j=r6.length:=xb;rw[yBz]at hW;have hx:jL ⟨r1,r2,r3,r4,r5,r6⟩=[wT KV,wT r1,wT S2,wT r2,wT KW,fT r3 r4,wT S3,nT r5,wT S4]++r6.map nT:=rfl;rw[<-hx]at hW;obtain⟨c1,c2⟩:=hpre (L:=([wT C7,wT on]::(rs.take i).map jL)++[jL ⟨r1,r2,r3,r4,r5,r6⟩]) (R:=(rs.drop (i+1)).map jL++(ds.flatMap (gQ ns)++cs.map (iA dn))) (by rw[tL,hsp];simp);obtain⟨j5,l5,w5⟩:=hv.line hC (jL ⟨r1,r2,r3,r4,r5,r6⟩) (by simp[jL]) (by simp[jL];omega) c1 xl c2 tok;rw[<-hW]at l5;refine aD (A4 q2 hgL l5 wi) ?_;refine aM.normal (M-1) xb (by refine⟨i+1,j5,?_⟩;exact jV (⟨xb,by rw[htk,yAH];simpa using w5⟩) @wi)
 .have q1:¬(i:Int)<(rs.length:Int):=by omega
  obtain rfl:i=rs.length:=xb;rw[yBz]at hw;obtain⟨PA,hPA⟩:=gn ([wT C7,wT on]::rs.map jL);have hFA:F=PA++(ds.flatMap (gQ ns)++cs.map (iA dn)):=by rw[tL,<-hPA];simp
  rw[hPA]at hw;have wO:=hw;rw[<-hO]at wO;obtain⟨z1,z2,z3,z4,z5,z6⟩:=aB (wO.ks (0,_) xm).1;refine aD (A7 q1 z1 @z2 @z3 @z4 @z5 z6) ?_;clear z1 z2 z3 z4 z5 z6 wO;refine Wp.eV (λm fr σ=>∃(i:Nat) (σ1:List U),∃gg:Nat->PD,(i+m=ds.length/\hH [] 1 [] 0 (PA++(ds.take i).flatMap (gQ ns)) σ1 [(0,.box O)])/\fr=gg 0::.ptr 0 0::.str []::.int .i64 0::gg 4::.ptr 1 0::gg 6::gg 7::gg 8::gg 9::gg 10::gg 11::gg 12::gg 13::gg 14::gg 15::gg 16::gg 17::gg 18::gg 19::gg 20::gg 21::gg 22::gg 23::gg 24::gg 25::gg 26::gg 27::gg 28::gg 29::gg 30::gg 31::gg 32::gg 33::gg 34::gg 35::gg 36::gg 37::gg 38::gg 39::gg 40::gg 41::gg 42::gg 43::gg 44::gg 45::gg 46::gg 47::gg 48::gg 49::gg 50::gg 51::gg 52::gg 53::gg 54::gg 55::gg 56::gg 57::gg 58::gg 59::gg 60::gg 61::gg 62::gg 63::gg 64::gg 65::gg 66::.slice (sz 5 ds) (ds.map Em.div.aA) .any::.int .i64 ds.length::.int .i64 i::gg 70::gg 71::gg 72::gg 73::gg 74::gg 75::gg 76::gg 77::gg 78::gg 79::gg 80::gg 81::gg 82::gg 83::gg 84::gg 85::gg 86::gg 87::gg 88::gg 89::gg 90::gg 91::gg 92::gg 93::gg 94::gg 95::gg 96::gg 97::gg 98::gg 99::gg 100::gg 101::gg 102::gg 103::gg 104::gg 105::gg 106::gg 107::gg 108::gg 109::gg 110::gg 111::gg 112::gg 113::gg 114::gg 115::gg 116::gg 117::gg 118::gg 119::gg 120::gg 121::gg 122::gg 123::gg 124::gg 125::gg 126::gg 127::gg 128::gg 129::gg 130::gg 131::gg 132::gg 133::gg 134::gg 135::gg 136::gg 137::gg 138::gg 139::gg 140::gg 141::gg 142::gg 143::gg 144::gg 145::gg 146::gg 147::gg 148::gg 149::gg 150::gg 151::gg 152::gg 153::gg 154::gg 155::gg 156::[]/\σ=σ1) ?_ (ds.length) (by refine⟨0,σ,?_⟩;exact cG (⟨xb,by simpa using hw⟩))
  rintro m fr σ ⟨i,σ1,gg,hI,rfl,rfl⟩
  obtain⟨hm,hw⟩:=hI
  by_cases hi:i<ds.length
  .have q1:(i:Int)<(ds.length:Int):=by omega
   obtain⟨g,dX⟩:=gn (ds[i]);have hgm:g∈ds:=dX▸yAm hi
   have hsp:=aE3 hi (gQ ns);have htk:=KT hi;rw[dX]at hsp htk;have aKy:=fun {s:dL} (hs:s∈g.stops)=>hstw hgm hs
   obtain⟨d1,d2,d3,d4,d5⟩:=g;simp only at aKy;have hcb:=aBh ((S0 _ _).1 (hdv _ hgm).2).1;simp only at hcb;have g3:=MM (ML (n:=d3) xb);have g4:=MM (ML (n:=d4) xb);obtain⟨P,hP⟩:=gn (PA++(ds.take i).flatMap (gQ ns));rw[hP]at hw;obtain⟨dh,hdh⟩:=gn (ID ⟨d1,d2,d3,d4,d5⟩);have KX:F=P++(dh::d5.flatMap (dB ns)++((ds.drop (i+1)).flatMap (gQ ns)++cs.map (iA dn))):=by rw[hFA,hsp,<-hP,<-hdh];simp[gQ]
   have wi:=KU (i:=i) (by
    have h1:=aBo (f:=gQ ns) (λa=>by simp[gQ]) (ds.take i);have h2:=O0 (PA++(ds.take i).flatMap (gQ ns));have h3:=(hpre (L:=P) (R:=dh::d5.flatMap (dB ns)++((ds.drop (i+1)).flatMap (gQ ns)++cs.map (iA dn))) (by rw[KX])).2;rw[<-hP]at h3;rw[yAt]at h1;rw[yAa]at h2;omega)
   obtain⟨bd,hbd⟩:=gn (σ.length);have w3:=hw.box (.agg [.str d1,.bool d2,.int .i64 d3,.int .i64 d4,.slice (sz 4 d5) (d5.map Em.stop.aA) .any]);rw[hbd]at w3;obtain⟨u1,v1,x1⟩:=bH σ;obtain⟨y1,y2,y3,y4,y5,y6⟩:=aB (w3.ks _ (yBa ..)).1;obtain⟨M,hM⟩:∃M,M=m:=⟨_,rfl⟩;rw[<-hM]at hm ⊢;refine aD (A13 q1 hi dX hbd u1 @v1 x1 y1 y2 y3 y4 y5 y6) ?_;refine Wp.aEZ (λfr' σ'=>∃(W:List PD) (tok:Tok) (j5:List U) (gg:Nat->PD),(W=((wT MP::wT d1::(if d2=true then [wT S5]else [])).map eP).map PD.str/\XP j5 tok W.length/\hH [] 1 [] 0 P j5 [(bd,.box (.agg [.str d1,.bool d2,.int .i64 d3,.int .i64 d4,.slice (sz 4 d5) (d5.map Em.stop.aA) .any])),(0,.box O)])/\fr'=gg 0::(.ptr 0 0)::(.str [])::(.int .i64 0)::gg 4::(.ptr 1 0)::gg 6::gg 7::gg 8::gg 9::gg 10::gg 11::(.ptr bd 0)::(.slice 1 W tok)::gg 14::gg 15::gg 16::gg 17::gg 18::gg 19::gg 20::gg 21::gg 22::gg 23::gg 24::gg 25::gg 26::gg 27::gg 28::gg 29::gg 30::gg 31::gg 32::gg 33::gg 34::gg 35::gg 36::gg 37::gg 38::gg 39::gg 40::gg 41::gg 42::gg 43::gg 44::gg 45::gg 46::gg 47::gg 48::gg 49::gg 50::gg 51::gg 52::gg 53::gg 54::gg 55::gg 56::gg 57::gg 58::gg 59::gg 60::gg 61::gg 62::gg 63::gg 64::gg 65::gg 66::(.slice (sz 5 ds) (ds.map Em.div.aA) .any)::(.int .i64 ds.length)::(.int .i64 i)::gg 70::gg 71::gg 72::gg 73::gg 74::gg 75::gg 76::gg 77::gg 78::gg 79::gg 80::gg 81::gg 82::gg 83::gg 84::gg 85::gg 86::gg 87::gg 88::gg 89::gg 90::gg 91::gg 92::gg 93::gg 94::gg 95::gg 96::gg 97::gg 98::gg 99::gg 100::gg 101::gg 102::gg 103::gg 104::gg 105::gg 106::gg 107::gg 108::gg 109::gg 110::gg 111::gg 112::gg 113::gg 114::gg 115::gg 116::gg 117::gg 118::gg 119::gg 120::gg 121::gg 122::gg 123::gg 124::gg 125::gg 126::gg 127::gg 128::gg 129::gg 130::gg 131::gg 132::gg 133::gg 134::gg 135::gg 136::gg 137::gg 138::gg 139::gg 140::gg 141::gg 142::gg 143::gg 144::gg 145::gg 146::gg 147::gg 148::gg 149::gg 150::gg 151::gg 152::gg 153::gg 154::gg 155::gg 156::[]/\σ'=j5) ?_ ?_
   .cases d2 with
    |false=>
     refine aD trivial ?_;exact⟨rfl,rfl,[.str [100,105,118,105,115,105,111,110],.str d1],.full,_,vK ⟨by simp[IC],.inl rfl,w3⟩ zy xe⟩
    |true=>
     obtain⟨bY,σ',hap,aBm,hkp⟩:=aBn (σ:=σ++[.box (.agg [.str d1,.bool true,.int .i64 d3,.int .i64 d4,.slice (sz 4 d5) (d5.map Em.stop.aA) .any])]) (tok:=.full) (tk:=.any) [.str [100,105,118,105,115,105,111,110],.str d1] [.str [112,101,100,97,108]] wz wz (.inl rfl) wz;refine aD hap ?_;exact⟨rfl,rfl,[.str [100,105,118,105,115,105,111,110],.str d1]++[.str [112,101,100,97,108]],bY,σ',vK ⟨by simp[IC],aBm,w3.app hkp⟩ zy xe⟩
   clear y1 y2 y3 y4 y5 y6 u1 v1 x1 w3 hw
   rintro fr' σ' ⟨W,tok,j5,gg,⟨hW,hrow,w5⟩,rfl,rfl⟩
   refine aS.normal ?_;have hWl:W.length<=3/\2<=W.length:=by rw[hW];cases d2<;>simp
   obtain⟨aU4,O1,hap,a2e,hkp⟩:=aBn (tk:=.any) W [.str [107,101,121,115],.str (Lib.itoa d3),.str (Lib.itoa d4)] (λe=>by rw[e]at hWl;simp at hWl) wz hrow xw;have w6:=w5.app hkp;obtain⟨c1,c2⟩:=hpre (L:=P++[dh]) (R:=d5.flatMap (dB ns)++((ds.drop (i+1)).flatMap (gQ ns)++cs.map (iA dn))) (by rw[KX];simp);obtain⟨C8,l7,w7⟩:=w6.line hC dh (by rw[<-hdh];simp[ID]) (by rw[<-hdh];cases d2<;>simp[ID]) c1 xl c2 aU4;have hW2:(dh.map eP).map PD.str=W++[.str [107,101,121,115],.str (Lib.itoa d3),.str (Lib.itoa d4)]:=by rw[<-hdh,hW];cases d2<;>simp[ID,IC,MO]
   rw[hW2]at l7;have x7:=aBp (fl:=0) hgL l7;obtain⟨y1,y2,y3,y4,y5,y6⟩:=aB (w5.ks _ (yBa ..)).1;refine WL.L0 54 (hV trivial) xo ?_;refine jJ (A12 x7 xi h3 @g3 @g4 hap y1 y2 y3 y4 y5 y6) ?_;apply SQ.nil;clear y1 y2 y3 y4 y5 y6 x7 l7;obtain⟨y1,y2,y3,y4,y5,y6⟩:=aB (w7.ks _ (yBa ..)).1;refine aD (A6 y1 y2 y3 y4 y5 y6) ?_;clear y1 y2 y3 y4 y5 y6;refine Wp.eV (λm fr σ=>∃(j:Nat) (σ1:List U),∃gg:Nat->PD,(j+m=d5.length/\hH [] 1 [] 0 (P++dh::(d5.take j).flatMap (dB ns)) σ1 [(bd,.box (.agg [.str d1,.bool d2,.int .i64 d3,.int .i64 d4,.slice (sz 4 d5) (d5.map Em.stop.aA) .any])),(0,.box O)])/\fr=gg 0::.ptr 0 0::.str []::.int .i64 0::gg 4::.ptr 1 0::gg 6::gg 7::gg 8::gg 9::gg 10::gg 11::.ptr bd 0::gg 13::gg 14::gg 15::gg 16::gg 17::gg 18::gg 19::gg 20::gg 21::gg 22::gg 23::gg 24::gg 25::gg 26::gg 27::gg 28::gg 29::gg 30::gg 31::gg 32::gg 33::gg 34::gg 35::gg 36::gg 37::gg 38::gg 39::gg 40::gg 41::gg 42::gg 43::gg 44::gg 45::gg 46::gg 47::gg 48::gg 49::gg 50::gg 51::gg 52::gg 53::gg 54::gg 55::gg 56::gg 57::gg 58::gg 59::gg 60::gg 61::gg 62::gg 63::gg 64::gg 65::gg 66::.slice (sz 5 ds) (ds.map Em.div.aA) .any::.int .i64 ds.length::.int .i64 i::gg 70::gg 71::gg 72::gg 73::gg 74::gg 75::gg 76::gg 77::gg 78::gg 79::gg 80::gg 81::gg 82::gg 83::gg 84::gg 85::gg 86::gg 87::gg 88::gg 89::gg 90::gg 91::gg 92::gg 93::gg 94::.slice (sz 4 d5) (d5.map Em.stop.aA) .any::.int .i64 d5.length::.int .i64 j::gg 98::gg 99::gg 100::gg 101::gg 102::gg 103::gg 104::gg 105::gg 106::gg 107::gg 108::gg 109::gg 110::gg 111::gg 112::gg 113::gg 114::gg 115::gg 116::gg 117::gg 118::gg 119::gg 120::gg 121::gg 122::gg 123::gg 124::gg 125::gg 126::gg 127::gg 128::gg 129::gg 130::gg 131::gg 132::gg 133::gg 134::gg 135::gg 136::gg 137::gg 138::gg 139::gg 140::gg 141::gg 142::gg 143::gg 144::gg 145::gg 146::gg 147::gg 148::gg 149::gg 150::gg 151::gg 152::gg 153::gg 154::gg 155::gg 156::[]/\σ=σ1) ?_ (d5.length) (by refine⟨0,C8,?_⟩;exact cG (⟨xb,by simpa using w7⟩))
   rintro m fr σ ⟨j,σ1,gg,hI,rfl,rfl⟩
   obtain⟨hm2,hv⟩:=hI
   by_cases hj:j<d5.length
   .have q2:(j:Int)<(d5.length:Int):=by omega
    obtain⟨st,hs2⟩:=gn (d5[j]);have hsm:st∈d5:=hs2▸yAm hj
    have KY:=aE3 hj (dB ns);have FG:=KT hj;rw[hs2]at KY FG;have hsw:=aKy hsm;obtain⟨c3,c4⟩:=hpre (L:=(P++dh::(d5.take j).flatMap (dB ns))++dB ns st) (R:=(d5.drop (j+1)).flatMap (dB ns)++((ds.drop (i+1)).flatMap (gQ ns)++cs.map (iA dn))) (by rw[KX,KY];simp);have wj:=KU (i:=j) (by
     have h1:=aBo (f:=dB ns) (λa=>by simp[dB]) (d5.take j);have h2:=O0 ((P++dh::(d5.take j).flatMap (dB ns))++dB ns st);rw[yAt]at h1;simp only[yAa,yAK]at h2 c4;omega)
    obtain⟨bs,hbs⟩:=gn (σ.length);have w8:=hv.box (Em.stop.aA st);rw[hbs]at w8;obtain⟨mQ,l9,w9⟩:=w8.aU2 hCS st hsw c3 xl c4;obtain⟨s1,s2,s3,s4⟩:=st;simp only[RX,gA]at l9 w8;have wO:=w8;rw[<-hO]at wO;obtain⟨z1,z2,z3,z4,z5,z6⟩:=aB (wO.ks (0,_) xm).1;obtain⟨u1,v1,x1⟩:=bH σ;obtain⟨y1,y2,y3,y4,y5,y6⟩:=aB (w8.ks _ (yBa ..)).1;refine aD (A20 q2 hj hs2 hbs u1 @v1 x1 y1 y2 y3 y4 y5 y6 z1 @z2 @z3 @z4 @z5 z6 (A3 hgS l9 wj)) ?_;have w10:=w9.sub (K':=[(bd,.box (.agg [.str d1,.bool d2,.int .i64 d3,.int .i64 d4,.slice (sz 4 d5) (d5.map Em.stop.aA) .any])),(0,.box O)]) yq;refine aM.normal (m-1) xb (by refine⟨j+1,mQ,?_⟩;exact jV (⟨xb,by rw[FG,yCv];simpa using w10⟩) @wj)
   .have q2:¬(j:Int)<(d5.length:Int):=by omega
    obtain rfl:j=d5.length:=xb;refine aD (A2 q2 wi) ?_;rw[yBz]at hv;have w8:=hv.sub (K':=[(0,.box O)]) yq;refine aM.normal (M-1) xb (by refine⟨i+1,σ,?_⟩;exact jV (⟨xb,by rw[htk,yCv,<-yAi,hP];simp only[yBg,yDd,yAl,gQ,hdh];exact w8⟩) @wi)
  .have q1:¬(i:Int)<(ds.length:Int):=by omega
   obtain rfl:i=ds.length:=xb;rw[yBz]at hw;obtain⟨PB,hPB⟩:=gn (PA++ds.flatMap (gQ ns));have hFB:F=PB++cs.map (iA dn):=by rw[hFA,<-hPB];simp
   rw[hPB]at hw;have wO:=hw;rw[<-hO]at wO;obtain⟨z1,z2,z3,z4,z5,z6⟩:=aB (wO.ks (0,_) (yBa ..)).1;refine aD (A7 q1 z1 @z2 @z3 @z4 @z5 z6) ?_;clear z1 z2 z3 z4 z5 z6 wO;refine Wp.eV (λm fr σ=>∃(i:Nat) (σ1:List U),∃gg:Nat->PD,(i+m=cs.length/\hH [] 1 [] 0 (PB++(cs.take i).map (iA dn)) σ1 [(0,.box O)])/\fr=gg 0::.ptr 0 0::.str []::.int .i64 0::gg 4::.ptr 1 0::gg 6::gg 7::gg 8::gg 9::gg 10::gg 11::gg 12::gg 13::gg 14::gg 15::gg 16::gg 17::gg 18::gg 19::gg 20::gg 21::gg 22::gg 23::gg 24::gg 25::gg 26::gg 27::gg 28::gg 29::gg 30::gg 31::gg 32::gg 33::gg 34::gg 35::gg 36::gg 37::gg 38::gg 39::gg 40::gg 41::gg 42::gg 43::gg 44::gg 45::gg 46::gg 47::gg 48::gg 49::gg 50::gg 51::gg 52::gg 53::gg 54::gg 55::gg 56::gg 57::gg 58::gg 59::gg 60::gg 61::gg 62::gg 63::gg 64::gg 65::gg 66::gg 67::gg 68::gg 69::gg 70::gg 71::gg 72::gg 73::gg 74::gg 75::gg 76::gg 77::gg 78::gg 79::gg 80::gg 81::gg 82::gg 83::gg 84::gg 85::gg 86::gg 87::gg 88::gg 89::gg 90::gg 91::gg 92::gg 93::gg 94::gg 95::gg 96::gg 97::gg 98::gg 99::gg 100::gg 101::gg 102::gg 103::gg 104::gg 105::gg 106::gg 107::.slice (sz 5 cs) (cs.map Em.cF.aA) .any::.int .i64 cs.length::.int .i64 i::gg 111::gg 112::gg 113::gg 114::gg 115::gg 116::gg 117::gg 118::gg 119::gg 120::gg 121::gg 122::gg 123::gg 124::gg 125::gg 126::gg 127::gg 128::gg 129::gg 130::gg 131::gg 132::gg 133::gg 134::gg 135::gg 136::gg 137::gg 138::gg 139::gg 140::gg 141::gg 142::gg 143::gg 144::gg 145::gg 146::gg 147::gg 148::gg 149::gg 150::gg 151::gg 152::gg 153::gg 154::gg 155::gg 156::[]/\σ=σ1) ?_ (cs.length) (by refine⟨0,σ,?_⟩;exact cG (⟨xb,by simpa using hw⟩))
   rintro m fr σ ⟨i,σ1,gg,hI,rfl,rfl⟩
   obtain⟨hm,hw⟩:=hI
   by_cases hi:i<cs.length
   .have q1:(i:Int)<(cs.length:Int):=by omega
    obtain⟨g,dX⟩:=gn (cs[i]);have hgm:g∈cs:=dX▸yAm hi
    have hsp:=aE1 hi (iA dn);have htk:=KT hi;rw[dX]at hsp htk;obtain⟨c1,c2,c3,c4,c5⟩:=g;obtain⟨_,⟨e1,e2,e3,e4⟩,⟨e5,e6⟩,_⟩:=hcp _ hgm;simp only at e1 e2 e3 e4 e5 e6;obtain⟨a,rfl⟩:∃a:Nat,c2=a:=⟨c2.toNat,xb⟩;obtain⟨b,rfl⟩:∃a:Nat,c3=a:=⟨c3.toNat,xb⟩;have ha:a<ds.length:=xb;have hb:b<ds.length:=xb;have ha2:(a:Int)<(ds.length:Int):=xb;have lR:(b:Int)<(ds.length:Int):=xb;obtain⟨DA,hDA⟩:=gn (ds[a]);obtain⟨DB,hDB⟩:=gn (ds[b]);have hna:dn.getD ((a:Nat):Int).toNat []=DA.name:=by rw[<-hdn];simp[ha,hDA]
    have hnb:dn.getD ((b:Nat):Int).toNat []=DB.name:=by rw[<-hdn];simp[hb,hDB]
    obtain⟨n1,n2,n3,n4,n5⟩:=DA;obtain⟨m1,m2,m3,m4,m5⟩:=DB;simp only at hna hnb;have g4:=MM (ML (n:=c4) xb);obtain⟨P,hP⟩:=gn (PB++(cs.take i).map (iA dn));rw[hP]at hw;obtain⟨ch,hch⟩:=gn (iA dn ⟨c1,(a:Nat),(b:Nat),c4,c5⟩);have KX:F=P++(ch::(cs.drop (i+1)).map (iA dn)):=by rw[hFB,hsp,<-hP,<-hch];simp
    have wi:=KU (i:=i) (by
     have h2:=O0 (PB++(cs.take i).map (iA dn));have h3:=(hpre (L:=P) (R:=ch::(cs.drop (i+1)).map (iA dn)) (by rw[KX])).2;rw[<-hP]at h3;rw[yAa,yAe,yAt]at h2;omega)
    obtain⟨bc,hbc⟩:=gn (σ.length);have w3:=hw.box (.agg [.str c1,.int .i64 (a:Nat),.int .i64 (b:Nat),.int .i64 c4,.bool c5]);rw[hbc]at w3;obtain⟨u1,v1,x1⟩:=bH σ;obtain⟨y1,y2,y3,y4,y5,y6⟩:=aB (w3.ks _ (yBa ..)).1;have wO:=w3;rw[<-hO]at wO;obtain⟨z1,z2,z3,z4,z5,z6⟩:=aB (wO.ks (0,_) xm).1;refine aD (A7 q1 hi dX hbc u1 @v1 x1) ?_;refine WL.kB (hV trivial) xo xo ?_;refine jJ (A20 hbc h3 @g4 ha hb ha2 lR hDA hDB y1 y2 y3 y4 y5 y6 z1 @z2 @z3 @z4 (A2 @z5 z6)) ?_;apply SQ.nil;refine aD (A7 hbc y1 y2 y3 y4 y5 y6) ?_;refine Wp.aEZ (λfr' σ'=>∃(W:List PD) (tok:Tok) (j5:List U) (gg:Nat->PD),(W=(([wT O2,wT c1,wT XQ,wT n1,wT XR,wT m1,wT XS,nT c4]++(if c5=true then [wT S6]else [])).map eP).map PD.str/\hH [] 1 [] 0 P j5 [(bc,.box (.agg [.str c1,.int .i64 (a:Nat),.int .i64 (b:Nat),.int .i64 c4,.bool c5])),(0,.box O)])/\fr'=gg 0::(.ptr 0 0)::(.str [])::(.int .i64 0)::gg 4::(.ptr 1 0)::gg 6::gg 7::gg 8::gg 9::gg 10::gg 11::gg 12::gg 13::gg 14::gg 15::gg 16::(.ptr bc 0)::(.slice 1 W tok)::gg 19::gg 20::gg 21::gg 22::gg 23::gg 24::gg 25::gg 26::gg 27::gg 28::gg 29::gg 30::gg 31::gg 32::gg 33::gg 34::gg 35::gg 36::gg 37::gg 38::gg 39::gg 40::gg 41::gg 42::gg 43::gg 44::gg 45::gg 46::gg 47::gg 48::gg 49::gg 50::gg 51::gg 52::gg 53::gg 54::gg 55::gg 56::gg 57::gg 58::gg 59::gg 60::gg 61::gg 62::gg 63::gg 64::gg 65::gg 66::gg 67::gg 68::gg 69::gg 70::gg 71::gg 72::gg 73::gg 74::gg 75::gg 76::gg 77::gg 78::gg 79::gg 80::gg 81::gg 82::gg 83::gg 84::gg 85::gg 86::gg 87::gg 88::gg 89::gg 90::gg 91::gg 92::gg 93::gg 94::gg 95::gg 96::gg 97::gg 98::gg 99::gg 100::gg 101::gg 102::gg 103::gg 104::gg 105::gg 106::gg 107::(.slice (sz 5 cs) (cs.map Em.cF.aA) .any)::(.int .i64 cs.length)::(.int .i64 i)::gg 111::gg 112::gg 113::gg 114::gg 115::gg 116::gg 117::gg 118::gg 119::gg 120::gg 121::gg 122::gg 123::gg 124::gg 125::gg 126::gg 127::gg 128::gg 129::gg 130::gg 131::gg 132::gg 133::gg 134::gg 135::gg 136::gg 137::gg 138::gg 139::gg 140::gg 141::gg 142::gg 143::gg 144::gg 145::gg 146::gg 147::gg 148::gg 149::gg 150::gg 151::gg 152::gg 153::gg 154::gg 155::gg 156::[]/\σ'=j5) ?_ ?_
    .cases c5 with
     |false=>
      refine aD trivial ?_;exact⟨rfl,rfl,[.str [99,111,117,112,108,101,114],.str c1,.str [102,114,111,109],.str n1,.str [116,111],.str m1,.str [115,104,105,102,116],.str (Lib.itoa c4)],.full,_,vK ⟨by simp[IC,MO],w3⟩ Aa xe⟩
     |true=>
      obtain⟨bY,σ',hap,aBm,hkp⟩:=aBn (σ:=σ++[.box (.agg [.str c1,.int .i64 (a:Nat),.int .i64 (b:Nat),.int .i64 c4,.bool true])]) (tok:=.full) (tk:=.any) [.str [99,111,117,112,108,101,114],.str c1,.str [102,114,111,109],.str n1,.str [116,111],.str m1,.str [115,104,105,102,116],.str (Lib.itoa c4)] [.str [116,104,114,111,117,103,104]] wz wz (.inl rfl) wz;refine aD hap ?_;exact⟨rfl,rfl,[.str [99,111,117,112,108,101,114],.str c1,.str [102,114,111,109],.str n1,.str [116,111],.str m1,.str [115,104,105,102,116],.str (Lib.itoa c4)]++[.str [116,104,114,111,117,103,104]],bY,σ',vK ⟨by simp[IC,MO],w3.app hkp⟩ Aa xe⟩
    clear y1 y2 y3 y4 y5 y6 u1 v1 x1 w3 hw z1 z2 z3 z4 z5 z6 wO
    rintro fr' σ' ⟨W,tok,j5,gg,⟨hW,w5⟩,rfl,rfl⟩
    refine aS.normal ?_;have hcw:ch=[wT O2,wT c1,wT XQ,wT n1,wT XR,wT m1,wT XS,nT c4]++(if c5=true then [wT S6]else []):=by rw[<-hch];simp only[iA,hna,hnb];rfl
    obtain⟨k1,k2⟩:=hpre (L:=P++[ch]) (R:=(cs.drop (i+1)).map (iA dn)) (by rw[KX];simp);obtain⟨C8,l7,w7⟩:=w5.line hC ch (by rw[hcw];simp) (by rw[hcw];cases c5<;>simp) k1 xl k2 tok;rw[hcw,<-hW]at l7;refine aD (A3 hgL l7 wi) ?_;have w8:=w7.sub (K':=[(0,.box O)]) yq;refine aM.normal (m-1) xb (by refine⟨i+1,C8,?_⟩;exact jV (⟨xb,by rw[htk,yAH,<-yAi,hP];simp only[yB,yBP,hch];exact w8⟩) @wi)
   .have q1:¬(i:Int)<(cs.length:Int):=by omega
    obtain rfl:i=cs.length:=xb;rw[yBz,<-hFB]at hw;have hbw:=hw.bw;simp only[yAQ,Int.zero_add]at hbw;have hne:jC F≠[]:=by rw[tL];simp[jC]
    have KD:=hbw.text hne;have tT:=hbw.len;obtain⟨pp,zz,tt,nV,_⟩:=hbw.ex;obtain⟨BB,hBB⟩:=gn (bX (jC F));rw[hBB]at nV;obtain⟨y1,y2,y3,y4,y5,y6⟩:=aB nV
    by_cases f1:20000<(bE F).length
    .have f1':(20000:Int)<((bE F).length:Int):=by omega
     rw[yAJ f1];refine aD (A8 q1 y1 y2 y3 y4 y5 y6 f1') ?_;exact aa
    .have f1':¬(20000:Int)<((bE F).length:Int):=by omega
     rw[yAI f1]
     by_cases f2:65536<(jC F).length
     .have O3:(65536:Int)<((jC F).length:Int):=by omega
      rw[yAJ f2];refine aD (A11 q1 y1 y2 y3 y4 y5 y6 f1' h4 tT O3) ?_;exact aa
     .have O3:¬(65536:Int)<((jC F).length:Int):=by omega
      rw[yAI f2];refine aD (A13 q1 y1 y2 y3 y4 y5 y6 f1' h4 tT O3 h5 KD) ?_;exact aa
end
section
variable{E:aE}(hU:aF E)
include hU
set_option maxRecDepth 10000
end
section
noncomputable def R7:Nat->List PD->List U->Option (PD×List U):=entry (cV (Em.text.list 1) .text .text λl s=>bJ (l=[]) (some []))
noncomputable def R0:Nat->List PD->List U->Option (PD×List U):=RZ E8 R7
def aZE(l:List (List UInt8))(s:List UInt8):Prop:=l.length<=1000/\(Lib.join l s).length<=1000000
theorem aZF{x:PD}{ws:List (List UInt8)}{s:Bx}(hx:x.strip=texts.aA ws)(h:aZE ws s)(fl:Nat)(σ:List U):R0 fl [x,.str s] σ=some (.str (Lib.join ws s),σ):=by
 unfold R0 RZ
 by_cases h0:ws=[]
 .subst h0;have e1:=Em.cR hx;have e2:Em.text.dec (.str s)=some s:=Em.cR rfl;have h1:E8 fl [x,.str s] σ=none:=by
   unfold E8 entry cV;simp only[e1,e2];rw[show bJ (SY [] s) (some (Lib.join [] s))=none by unfold bJ;rw[yAI (λh=>h.1 rfl)]]
  have h2:R7 fl [x,.str s] σ=some (.str [],σ):=by
   unfold R7 entry cV;simp only[e1,e2];rw[dN trivial];rfl
  rw[h1];exact h2
 .rw[aKA hx ⟨h0,h⟩]
def tH(s:dL):List UInt8:=32::(s.name++32::pN (s.num,s.den))
def LN(d:b9):List UInt8:=d.name++58::Lib.join (d.stops.map tH) [44]
def XI(o:eG):List (List UInt8)×Int:=if gI o≠0 then([],gI o)else(o.dY.map LN,0)
theorem aGL{w:Bx}(h:dR w=true):w.length<=32:=by
 cases w with
 |nil=>simp
 |cons c r=>
  simp only[dR,yAr,yBx]at h;exact h.1.1
theorem aNH{x y:Int}(h:mP x y=0):(pN (x,y)).length<=41:=by
 obtain⟨h1,h2⟩:=aBf h;obtain⟨k1,k2,k3,k4,k5⟩:=SZ h1;exact fu
theorem aNI{n:Nat}(s:UInt8):∀ {ws:List (List UInt8)},(∀w∈ws,w.length<=n)->(Lib.join ws [s]).length<=ws.length*(n+1)
 | [],_=>by simp[Lib.join,List.intercalate]
 | [w],h=>by
   have:=h w wz;simp[Lib.join,List.intercalate];omega
 |w::v::r,h=>by
  have ih:=aNI s (ws:=v::r) (λx hx=>h x (yBE _ hx));have hw:=h w (yBa ..);have e:Lib.join (w::v::r) [s]=w++s::Lib.join (v::r) [s]:=by simp[Lib.join,List.intercalate,List.intersperse]
  rw[e,yAa,yAK,yAK];rw[yBl,Nat.one_mul];omega
variable{E:aE}(hU:aF E)
include hU
set_option maxRecDepth 10000
theorem aRA(h0:E 45=none)(s:List UInt8):aI prog E 45 [.slice 0 [] .any,.str s] (.str []):=by
 refine aI.aU 75 h0 func45 (h:=?_);exact ue
theorem aT1(h0:E 21=none)(h1:E 25=some SA)(h2:E 35=some H7)(h3:E 45=some R0)(o:eG)(ho:FE o) :
  aI prog E 21 [Em.fC.aA o] ((texts.gP i64).aA (XI o)):=by
 have hg:=aE0 ho;unfold XI
 by_cases he:gI o=0
 rotate_left
 .rw[yAJ he];obtain⟨e,hee⟩:=gn (gI o);rw[hee]at he hg ⊢;obtain⟨on,rs,od,oc⟩:=o;simp only[E5,gA]at hg ⊢;refine aI.aU 53 h0 func21 (h:=?_);refine aD (A3 h1 hg @he) ?_;exact aa
 rw[yAI Bk];rw[he]at hg;obtain⟨_,_,⟨⟨_,hd8⟩,hdv,_⟩,_⟩:=(OY o).1 he;have hV:True->aF E:=λ_=>hU
 clear hU;obtain⟨on,rs,ds,oc⟩:=o;simp only at hdv hd8;simp only[E5,gA]at hg ⊢;obtain⟨O,hO⟩:=gn (PD.agg [.str on,.slice (sz 6 rs) (rs.map Em.bO.aA) .any,.slice (sz 5 ds) (ds.map Em.div.aA) .any,.slice (sz 5 oc) (oc.map Em.cF.aA) .any]);refine aI.aU 53 h0 func21 (h:=?_);refine aD (A2 h1 hg) ?_;refine Wp.eV (λm fr σ=>∃(i z:Nat) (W:List PD) (tok:Tok) (σ1:List U),∃gg:Nat->PD,(i+m=ds.length/\W=((ds.take i).map LN).map PD.str/\(W=[]\/z=1)/\iL σ1 tok 9 1 W.length)/\fr=[gg 0,.ptr 0 0,.slice 0 [] .full,.int .i64 0,gg 4,.slice z W tok,gg 6,gg 7,gg 8,gg 9,gg 10,gg 11,gg 12,gg 13,gg 14,gg 15,gg 16,.slice (sz 5 ds) (ds.map Em.div.aA) .any,.int .i64 ds.length,.int .i64 i,gg 20,gg 21,gg 22,gg 23,gg 24,gg 25,gg 26,gg 27,gg 28,gg 29,gg 30,gg 31,gg 32,gg 33,gg 34,gg 35,gg 36,gg 37,gg 38,gg 39,gg 40,gg 41,gg 42,gg 43,gg 44,gg 45,gg 46,gg 47,gg 48,gg 49,gg 50,gg 51,gg 52]/\σ=σ1) ?_ (ds.length) (by refine⟨0,0,[],.full,[.box (.agg [.str on,.slice (sz 6 rs) (rs.map Em.bO.aA) .any,.slice (sz 5 ds) (ds.map Em.div.aA) .any,.slice (sz 5 oc) (oc.map Em.cF.aA) .any])],?_⟩;exact cG (⟨xb,wz,.inl rfl,.inl ⟨rfl,rfl⟩⟩))
 rintro m fr σ ⟨i,z,W,tok,σ1,gg,hI,rfl,rfl⟩
 obtain⟨hm,hW,hz,hrow⟩:=hI;have hWl:W.length=min i ds.length:=by rw[hW];simp
 by_cases hi:i<ds.length
 .have q1:(i:Int)<(ds.length:Int):=by omega
  obtain⟨g,dX⟩:=gn (ds[i]);have hgm:g∈ds:=dX▸yAm hi
  have htk:=KT hi;rw[dX]at htk;have hdd:=hdv _ hgm;obtain⟨CX,hsl,hss,_⟩:=(S0 _ _).1 hdd.2;obtain⟨d1,d2,d3,d4,d5⟩:=g;have QX:=aGL hdd.1;simp only at QX hsl hss;have wi:=KU (i:=i) xb;have hrow:=hrow.more (τ:=[.box (.agg [.str d1,.bool d2,.int .i64 d3,.int .i64 d4,.slice (sz 4 d5) (d5.map Em.stop.aA) .any])]);obtain⟨bd,hbd⟩:=gn (σ.length);obtain⟨u1,v1,x1⟩:=bH σ;have hbox:(σ++[U.box (.agg [.str d1,.bool d2,.int .i64 d3,.int .i64 d4,.slice (sz 4 d5) (d5.map Em.stop.aA) .any])])[bd]?=some (.box (.agg [.str d1,.bool d2,.int .i64 d3,.int .i64 d4,.slice (sz 4 d5) (d5.map Em.stop.aA) .any])):=by rw[<-hbd];exact u1 _
  obtain⟨y1,y2,y3,y4,y5,y6⟩:=aB hbox;obtain⟨M,hM⟩:∃M,M=m:=⟨_,rfl⟩;rw[<-hM]at hm ⊢;refine aD (A13 q1 hi dX hbd u1 @v1 x1 y1 y2 y3 y4 y5 y6) ?_;clear y1 y2 y3 y4 y5 y6 u1 v1 x1;refine Wp.eV (λm fr σ=>∃(j z2:Nat) (V:List PD) (QO:Tok) (σ1:List U),∃gg:Nat->PD,(j+m=d5.length/\V=((d5.take j).map tH).map PD.str/\(V=[]\/z2=1)/\iL σ1 QO 9 1 V.length/\iL σ1 tok 9 1 W.length/\(∀id,tok=.own id->QO≠.own id)/\σ1[bd]?=some (.box (.agg [.str d1,.bool d2,.int .i64 d3,.int .i64 d4,.slice (sz 4 d5) (d5.map Em.stop.aA) .any])))/\fr=[gg 0,.ptr 0 0,.slice 0 [] .full,.int .i64 0,gg 4,.slice z W tok,gg 6,.ptr bd 0,.slice z2 V QO,gg 9,gg 10,gg 11,gg 12,gg 13,gg 14,gg 15,gg 16,.slice (sz 5 ds) (ds.map Em.div.aA) .any,.int .i64 ds.length,.int .i64 i,gg 20,gg 21,gg 22,gg 23,.slice (sz 4 d5) (d5.map Em.stop.aA) .any,.int .i64 d5.length,.int .i64 j,gg 27,gg 28,gg 29,gg 30,gg 31,gg 32,gg 33,gg 34,gg 35,gg 36,gg 37,gg 38,gg 39,gg 40,gg 41,gg 42,gg 43,gg 44,gg 45,gg 46,gg 47,gg 48,gg 49,gg 50,gg 51,gg 52]/\σ=σ1) ?_ (d5.length) (by refine⟨0,0,[],.full,σ++[.box (.agg [.str d1,.bool d2,.int .i64 d3,.int .i64 d4,.slice (sz 4 d5) (d5.map Em.stop.aA) .any])],?_⟩;exact jV (⟨xb,wz,.inl rfl,.inl ⟨rfl,rfl⟩,hrow,(λ_ _ e=>xx),hbox⟩) @hbd)
  rintro m fr σ ⟨j,z2,V,QO,σ1,gg,hI,rfl,rfl⟩
  obtain⟨hm2,hVq,fU,eH,aGM,hdis,hbox⟩:=hI;have hVl:V.length=min j d5.length:=by rw[hVq];simp
  by_cases hj:j<d5.length
  .have q2:(j:Int)<(d5.length:Int):=by omega
   obtain⟨st,hs2⟩:=gn (d5[j]);have hsm:st∈d5:=hs2▸yAm hj
   have FG:=KT hj;rw[hs2]at FG;obtain⟨_,hn2,hpt,_⟩:=(aBg _ _ _ _).1 (hss st hsm);obtain⟨s1,s2,s3,s4⟩:=st;simp only at hn2 hpt;have hn3:=aGL hn2;have hfl:=aNH hpt;have gp:=XH (aEY hpt);have wj:=KU (i:=j) xb;obtain⟨bs,hbs⟩:=gn (σ.length);obtain⟨u1,v1,x1⟩:=bH σ;have aZG:(σ++[U.box (.agg [.str s1,.int .i64 s2,.int .i64 s3,.slice (sz 3 s4) (s4.map Em.cD.aA) .any])])[bs]?=some (.box (.agg [.str s1,.int .i64 s2,.int .i64 s3,.slice (sz 3 s4) (s4.map Em.cD.aA) .any])):=by rw[<-hbs];exact u1 _
   obtain⟨y1,y2,y3,y4,y5,y6⟩:=aB aZG;obtain⟨aNJ,fI,hap,aNK,hk2,hn4⟩:=JZ (P:=prog) (t:=55) (e:=9) (k:=1) (b:=16) (s:=z2) (xs:=V) (p:=.str (tH ⟨s1,s2,s3,s4⟩)) (tk:=.any) (tok:=QO) underlying55 xg fU (eH.more (τ:=[.box (.agg [.str s1,.int .i64 s2,.int .i64 s3,.slice (sz 3 s4) (s4.map Em.cD.aA) .any])])) xb xb;have aGN:=hap;unfold tH at aGN;simp only at aGN;refine aD (A7 q2 hj hs2 hbs u1 @v1 x1) ?_;refine WL.kA (hV trivial) xo xo ?_;refine jJ (A10 hbs h2 gp aGN y1 y2 y3 y4 y5 y6) ?_;apply SQ.nil;refine aD wj ?_;have aZH:∀id,tok=.own id->id<σ.length:=λid e=>by
    rcases aGM with⟨_,h⟩ | ⟨_,id',h,h'⟩
    .rw[h]at e;cases e
    .rw[h]at e;simp only[Tok.own.injEq]at e;rw[<-e];exact(yA.1 h').1
   have hA:=aGM.more (τ:=[.box (.agg [.str s1,.int .i64 s2,.int .i64 s3,.slice (sz 3 s4) (s4.map Em.cD.aA) .any])]) |>.LQ (λid o e1 e2=>hk2 id o (hdis id e1) e2)
   have hB:∀id,tok=.own id->aNJ≠.own id:=λid e1 e2=>by
    rcases hn4 id e2 with e3|e3
    .exact hdis id e1 e3
    .have h4:=aZH id e1;rw[yAa]at e3;omega
   have hC:fI[bd]?=some (.box (.agg [.str d1,.bool d2,.int .i64 d3,.int .i64 d4,.slice (sz 4 d5) (d5.map Em.stop.aA) .any])):=by
    refine hk2 _ _ (λe=>?_) (by rw[yAg (yA.1 hbox).1];exact hbox);rcases eH with⟨_,h⟩ | ⟨_,id',h,h'⟩
    .rw[h]at e;cases e
    .rw[h]at e;simp only[Tok.own.injEq]at e;rw[e,hbox]at h';cases h'
   rw[show V.length+1=(V++[PD.str (tH ⟨s1,s2,s3,s4⟩)]).length by simp]at aNK;have YA:V++[PD.str (tH ⟨s1,s2,s3,s4⟩)]=((d5.take (j+1)).map tH).map PD.str:=by rw[FG,hVq];simp
   refine aM.normal (m-1) xb (by refine⟨j+1,1,V++[.str (tH ⟨s1,s2,s3,s4⟩)],aNJ,fI,?_⟩;exact jV (⟨xb,YA,.inr rfl,aNK,hA,hB,hC⟩) @wj)
  .have q2:¬(j:Int)<(d5.length:Int):=by omega
   obtain rfl:j=d5.length:=xb;rw[yBz]at hVq;have hst:(PD.slice z2 V QO).strip=texts.aA (d5.map tH):=by
    rw[hVq,PD.nQ,show((d5.map tH).map PD.str).map PD.strip=(d5.map tH).map PD.str by rw[yBo];rfl];rcases fU with h|h
    .rw[hVq]at h;have:d5.map tH=[]:=List.map_eq_nil_iff.1 h;rw[this];rfl
    .exact ck
   have hwl:∀w∈d5.map tH,w.length<=80:=λw hw=>by
    obtain⟨st,hsm,rfl⟩:=yAw.1 hw;obtain⟨_,hn2,hpt,_⟩:=(aBg _ _ _ _).1 (hss st hsm);have hn3:=aGL hn2;have hfl:=aNH hpt;simp only[tH,yAK,yAa];omega
   have hjl:=aNI 44 hwl;rw[yAe]at hjl;have gj:=aZF (s:=[44]) hst ⟨yh,xb⟩;obtain⟨JJ,hJJ⟩:=gn (Lib.join (d5.map tH) [44]);rw[hJJ]at gj hjl;have hout:LN ⟨d1,d2,d3,d4,d5⟩=d1++58::JJ:=by simp only[LN,hJJ]
   obtain⟨y1,y2,y3,y4,y5,y6⟩:=aB hbox;obtain⟨Y,hY⟩:=gn (PD.slice z2 V QO);rw[hY]at gj ⊢;obtain⟨bY,fI,hap,aNL,hk1,hn4⟩:=JZ (P:=prog) (t:=55) (e:=9) (k:=1) (b:=16) (s:=z) (xs:=W) (p:=.str (d1++58::JJ)) (tk:=.any) (tok:=tok) underlying55 xg hz aGM xb xb;refine aD q2 ?_;refine WL.kA (hV trivial) xo xo ?_;refine jJ (A9 h3 gj hap y1 y2 y3 y4 y5 y6) ?_;apply SQ.nil;refine aD wi ?_;rw[show W.length+1=(W++[PD.str (d1++58::JJ)]).length by simp]at aNL;have hW2:W++[PD.str (d1++58::JJ)]=((ds.take (i+1)).map LN).map PD.str:=by rw[htk,hW];simp[hout]
   refine aM.normal (M-1) xb (by refine⟨i+1,1,W++[.str (d1++58::JJ)],bY,fI,?_⟩;exact jV (⟨xb,hW2,.inr rfl,aNL⟩) @wi)
 .have q1:¬(i:Int)<(ds.length:Int):=by omega
  obtain rfl:i=ds.length:=xb;rw[yBz]at hW;have hst:(PD.slice z W tok).strip=texts.aA (ds.map LN):=by
   rw[hW,PD.nQ,show((ds.map LN).map PD.str).map PD.strip=(ds.map LN).map PD.str by rw[yBo];rfl];rcases hz with h|h
   .rw[hW]at h;have:ds.map LN=[]:=List.map_eq_nil_iff.1 h;rw[this];rfl
   .exact ck
  obtain⟨Y,hY⟩:=gn (PD.slice z W tok);exact me
end
end Go.Kz
