/- Steps of the proof. -/
import Derived.Test.YtnogdlnjafblaaaGreatDoorI7
import Derived.Test.YtnogdlnjafblaaaGreatDoorH3
set_option linter.all false
set_option maxHeartbeats 40000000
set_option maxRecDepth 100000
open Go.Proofs.Tryz
namespace Go.Kz
open Go Go.Proofs
section
theorem aG5{x y:Int}(h:mI x y=0):aCZ (x,y):=by
 obtain⟨h1,h2⟩:=aC0 h;have:=aC1 h1;exact⟨⟨zi,zi⟩,zi,zi⟩
theorem PQ{n:Int}(h:-1000000<=n/\n<=1000000):aAt n:=⟨ym,ym⟩
theorem aNo{o:eK}(h:gZ o=0){d:bY}(hd:d∈o.bR){s:cM}(hs:s∈d.stops):StW o.aU.length s:=by
 obtain⟨_,h2,h3,_⟩:=(NI o).1 h;obtain⟨k1,_,k2,_⟩:=(R8 _ _).1 (h3.2.1 d hd).2;obtain⟨_,q1,q2,q3⟩:=(aAu _ _ _ _).1 (k2 s hs);have hb:=aC2 k1;refine⟨λg hg w hw=>(aC3 (aC4 q3 g hg).2 w hw).1,aG5 q2,λg hg=>?_⟩;obtain⟨b1,b2⟩:=aC4 q3 g hg;exact⟨PQ ym,PQ ym,λw hw=>PQ (by have:=(aC3 b2 w hw).2;omega)⟩
def NH(o:eK):Dr×Int:=if gZ o≠0 then([],gZ o)else if 20000<(bQ (vT o)).length then([],4)else if 65536<(yM o).length then([],16)else(yM o,0)
def aCY(o:eK):Prop:=vS o/\(gZ o=0->(yM o).length<=1000000/\(bQ (vT o)).length<=1000000)
theorem Wp.aG6{P:Program}{E:aE}{rd:Option Nat}{fl:Nat}{fr:Dq}{ms:List Nat}{σ:Dp}{Q:PO->Prop}{c:Code}(R:List PD->List U->Prop)(h:Wp P E rd c fl fr ms σ (λr=>r.x=.normal/\r.ms=ms/\R r.fr r.σ))(k:∀fr' σ',R fr' σ'->Q ⟨.normal,fr',ms,σ'⟩):Wp P E rd c fl fr ms σ Q:=
 Wp.mono h λ⟨x,f,m,s⟩ ⟨h1,h2,h3⟩=>by
  simp only at h1 h2 h3;subst h1 h2;exact k _ _ h3
theorem iU.aZn{aQ σ:Dp}{id:Nat}{s0:Dr}{k0:Int}{L:List (List Tk)}{K:List (Nat×U)}(h:iU aQ id s0 k0 L σ K){g:Dj}{ns:List (List UInt8)}{A:PD}{n:Nat}
  (hC:∀σ id st s k,eQ σ id s k->StW n st->(s++NJ ns st).length<=1000000->0<=k->k+(bQ (dQ ns st)).length<=1000000->∃σ',g 0 [.ptr id 0,A,Em.stop.aA st] σ=some (.aI [],σ')/\eQ σ' id (s++NJ ns st) (k+(bQ (dQ ns st)).length)/\R9 id σ σ')
  (st:cM) (hst:StW n st) (ht:(s0++kR (L++dQ ns st)).length<=1000000) (hk0:0<=k0) (hk:k0+(bQ (L++dQ ns st)).length<=1000000) :
  ∃σ',g 0 [.ptr id 0,A,Em.stop.aA st] σ=some (.aI [],σ')/\iU aQ id s0 k0 (L++dQ ns st) σ' K:=by
 rw[aC5]at ht;rw[V4,yAa]at hk;obtain⟨σ',h1,h2,h3⟩:=hC σ id st _ _ h.bw hst (by unfold NJ;rw[yAi];exact ht) ym ym;refine⟨σ',h1,⟨?_,λj o hj e=>h3 j o hj (h.kp j o hj e),λp hp=>?_⟩⟩
 .rw[aC5,V4,yAa];unfold NJ at h2;rw[yAi]at h2;have:k0+((bQ L).length:Int)+((bQ (dQ ns st)).length:Int)=k0+(((bQ L).length+(bQ (dQ ns st)).length:Nat):Int):=ym;rw[<-this];exact h2
 .exact qq
variable{E:aE}(hU:aG E)
include hU
set_option maxRecDepth 10000
theorem aYo(h0:E 26=none)(h1:E 25=some VJ)(hL:RZ E)(hSt:aAo E)(h2:E 35=some KL)(h3:E 40=some KK)(h4:E 55=some NC)(h5:E 47=some PK)(o:eK)(ho:aCY o) :
  aJ prog E 26 [Em.fE.aA o] ((Em.text.iH i64).aA (NH o)):=by
 have hg:=aG7 ho.1
 by_cases he:gZ o=0
 rotate_left
 .have hP:NH o=([],gZ o):=by simp[NH,he]
  rw[hP];obtain⟨e,hee⟩:=gn (gZ o);rw[hee]at he hg ⊢;obtain⟨on,rs,od,oc⟩:=o;simp only[yG,eN]at hg ⊢;refine aJ.aV 157 h0 func26 (h:=?_);refine aD (A3 h1 hg @he) ?_;exact aa
 have hV:True->aG E:=λ_=>hU
 clear hU;obtain⟨ht,hk⟩:=ho.2 he;rw[he]at hg;have hiff:=(NI o).1 he;have hstw:=fun {d:bY} (hd:d∈o.bR) {s:cM} (hs:s∈d.stops)=>aNo he hd hs
 have hP:NH o=if 20000<(bQ (vT o)).length then([],4)else if 65536<(yM o).length then([],16)else(yM o,0):=by simp[NH,he]
 rw[hP];clear hP;have hpre:=fun {L R:List (List Tk)} (h:L++R=vT o)=>aNp (s:=[]) (k:=0) (F:=vT o) (by simpa [yM]using ht) ym h
 unfold yM;unfold yM at ht;obtain⟨ns,hns⟩:=gn (yN o);obtain⟨F,hF⟩:=gn (vT o);obtain⟨gL,hgL,hpL,hC⟩:=hL;obtain⟨gS,hgS,hpS,hCS⟩:=hSt;have hCS:=λσ id st s k=>hCS σ id o st s k
 obtain⟨on,rs,ds,cs⟩:=o;simp only at hiff hstw hCS;obtain⟨hnm,⟨_,hrk,_⟩,⟨_,hdv,_⟩,_,hcp,_⟩:=hiff;obtain⟨dn,hdn⟩:=gn (ds.map bY.name);have vH:F=[wT FF,wT on]::(rs.map kA++(ds.flatMap (iN ns)++cs.map (iV dn))):=by rw[<-hF,<-hns,<-hdn];rfl
 rw[hF]at hpre ht hk ⊢;rw[hns]at hCS;simp only[yG,eN]at hg hCS ⊢;obtain⟨O,hO⟩:=gn (PD.agg [.str on,.slice (sz 6 rs) (rs.map Em.bC.aA) .any,.slice (sz 5 ds) (ds.map Em.div.aA) .any,.slice (sz 5 cs) (cs.map Em.cC.aA) .any]);have b0:eQ [.box O,.box (.typed 125 [.cQ,.slice 0 [] .full,.int .i64 0])] 1 [] 0:=⟨.cQ,0,.full,rfl,.inl rfl,.inl ⟨rfl,.inr rfl⟩⟩;have w0:iU [] 1 [] 0 [] [.box O,.box (.typed 125 [.cQ,.slice 0 [] .full,.int .i64 0])] [(0,.box O)]:=⟨show eQ _ 1 [] 0 from b0,λ_ _ _ h=>Aa,λp hp=>by
  simp only[yAS,yBl,yBm]at hp;subst hp;exact⟨rfl,yo,O,rfl⟩⟩
 have xp:∀args σ,rD E 54 0 (.inl 35) args σ=fK E 0 (.inl 35) args σ:=λ_ _=>aC6 yx
 have xi:∀args σ,rD E 54 0 (.inl 40) args σ=fK E 0 (.inl 40) args σ:=λ_ _=>aC6 yx
 obtain⟨a1,a2⟩:=hpre (L:=[]++[[wT FF,wT on]]) (R:=rs.map kA++(ds.flatMap (iN ns)++cs.map (iV dn))) (by rw[vH];rfl);obtain⟨σ2,l2,w2⟩:=w0.line hC [wT FF,wT on] yo yo a1 yx a2 .full;simp only[yAX,yBA,KR]at l2;rw[<-hO]at l2;have w2':=w2;rw[<-hO]at w2';obtain⟨y1,y2,y3,y4,y5,y6⟩:=aB (w2'.ks (0,_) (yAZ ..)).1;refine aJ.aV 157 h0 func26 (h:=?_)
 first|(apply WL.kN;(focus decide +kernel))|(apply WL.eI yq;(focus decide +kernel);(focus decide +kernel))|(apply WL.jP;(focus decide +kernel);(focus decide +kernel))|(apply WL.lC;(focus decide +kernel))|(apply WL.lA yq;(focus decide +kernel);(focus decide +kernel))|(apply WL.lB;(focus decide +kernel);(focus decide +kernel))
 refine aFy trivial ?_;apply SQ.nil;refine Wp.seq ?_;refine Wp.aG6 (λfr' σ'=>∃gg:Nat->PD,True/\fr'=gg 0::(.ptr 0 0)::(.str [])::(.int .i64 0)::gg 4::gg 5::gg 6::gg 7::gg 8::gg 9::gg 10::gg 11::gg 12::gg 13::gg 14::gg 15::gg 16::gg 17::gg 18::gg 19::gg 20::gg 21::gg 22::gg 23::gg 24::gg 25::gg 26::gg 27::gg 28::gg 29::gg 30::gg 31::gg 32::gg 33::gg 34::gg 35::gg 36::gg 37::gg 38::gg 39::gg 40::gg 41::gg 42::gg 43::gg 44::gg 45::gg 46::gg 47::gg 48::gg 49::gg 50::gg 51::gg 52::gg 53::gg 54::gg 55::gg 56::gg 57::gg 58::gg 59::gg 60::gg 61::gg 62::gg 63::gg 64::gg 65::gg 66::gg 67::gg 68::gg 69::gg 70::gg 71::gg 72::gg 73::gg 74::gg 75::gg 76::gg 77::gg 78::gg 79::gg 80::gg 81::gg 82::gg 83::gg 84::gg 85::gg 86::gg 87::gg 88::gg 89::gg 90::gg 91::gg 92::gg 93::gg 94::gg 95::gg 96::gg 97::gg 98::gg 99::gg 100::gg 101::gg 102::gg 103::gg 104::gg 105::gg 106::gg 107::gg 108::gg 109::gg 110::gg 111::gg 112::gg 113::gg 114::gg 115::gg 116::gg 117::gg 118::gg 119::gg 120::gg 121::gg 122::gg 123::gg 124::gg 125::gg 126::gg 127::gg 128::gg 129::gg 130::gg 131::gg 132::gg 133::gg 134::gg 135::gg 136::gg 137::gg 138::gg 139::gg 140::gg 141::gg 142::gg 143::gg 144::gg 145::gg 146::gg 147::gg 148::gg 149::gg 150::gg 151::gg 152::gg 153::gg 154::gg 155::gg 156::[]/\σ'=[.box (.agg [.str on,.slice (sz 6 rs) (rs.map Em.bC.aA) .any,.slice (sz 5 ds) (ds.map Em.div.aA) .any,.slice (sz 5 cs) (cs.map Em.cC.aA) .any])]) ?_ ?_
 .refine aD (A2 h1 hg) ?_;exact⟨rfl,rfl,qT trivial Bu Bu⟩
 rintro fr' σ' ⟨gg,-,rfl,rfl⟩
 refine aS.normal ?_;apply WL.kN zb;apply SL.build
 .exact Wt.i rfl
 .rfl
 .refine By.i ?_;simp;rfl
 .refine Fr.i ?_;exact bl
 apply SL.aEC
 .exact Wt.i rfl
 .exact Wt.i rfl
 .rfl
 .rfl
 .exact Ns.i rfl
 .exact Ns.i rfl
 .refine Fr.i ?_;exact bl
 refine aFy trivial ?_;apply SQ.nil;refine aD (A8 hgL l2 y1 y2 y3 y4 y5 y6) ?_;clear y1 y2 y3 y4 y5 y6 l2;refine Wp.dK (λm fr σ=>∃(i:Nat) (σ1:List U),∃gg:Nat->PD,(i+m=rs.length/\iU [] 1 [] 0 ([wT FF,wT on]::(rs.take i).map kA) σ1 [(0,.box O)])/\fr=gg 0::.ptr 0 0::.str []::.int .i64 0::gg 4::.ptr 1 0::gg 6::gg 7::gg 8::gg 9::gg 10::gg 11::gg 12::gg 13::gg 14::gg 15::gg 16::gg 17::gg 18::gg 19::gg 20::gg 21::gg 22::gg 23::gg 24::gg 25::gg 26::gg 27::gg 28::gg 29::gg 30::gg 31::.slice (sz 6 rs) (rs.map Em.bC.aA) .any::.int .i64 rs.length::.int .i64 i::gg 35::gg 36::gg 37::gg 38::gg 39::gg 40::gg 41::gg 42::gg 43::gg 44::gg 45::gg 46::gg 47::gg 48::gg 49::gg 50::gg 51::gg 52::gg 53::gg 54::gg 55::gg 56::gg 57::gg 58::gg 59::gg 60::gg 61::gg 62::gg 63::gg 64::gg 65::gg 66::gg 67::gg 68::gg 69::gg 70::gg 71::gg 72::gg 73::gg 74::gg 75::gg 76::gg 77::gg 78::gg 79::gg 80::gg 81::gg 82::gg 83::gg 84::gg 85::gg 86::gg 87::gg 88::gg 89::gg 90::gg 91::gg 92::gg 93::gg 94::gg 95::gg 96::gg 97::gg 98::gg 99::gg 100::gg 101::gg 102::gg 103::gg 104::gg 105::gg 106::gg 107::gg 108::gg 109::gg 110::gg 111::gg 112::gg 113::gg 114::gg 115::gg 116::gg 117::gg 118::gg 119::gg 120::gg 121::gg 122::gg 123::gg 124::gg 125::gg 126::gg 127::gg 128::gg 129::gg 130::gg 131::gg 132::gg 133::gg 134::gg 135::gg 136::gg 137::gg 138::gg 139::gg 140::gg 141::gg 142::gg 143::gg 144::gg 145::gg 146::gg 147::gg 148::gg 149::gg 150::gg 151::gg 152::gg 153::gg 154::gg 155::gg 156::[]/\σ=σ1) ?_ (rs.length) (by refine⟨0,σ2,?_⟩;exact bV (⟨ym,by simpa using w2⟩))
 rintro m fr σ ⟨i,σ1,gg,hI,rfl,rfl⟩
 obtain⟨hm,hw⟩:=hI
 by_cases hi:i<rs.length
 .have q1:(i:Int)<(rs.length:Int):=by omega
  obtain⟨g,eJ⟩:=gn (rs[i]);have hgm:g∈rs:=eJ▸yAm hi
  have hsp:=aG8 hi kA;have htk:=KS hi;rw[eJ]at hsp htk;obtain⟨r1,r2,r3,r4,r5,r6⟩:=g;obtain⟨_,_,hpt,hfi,hwl,hwd⟩:=aG9 (hrk _ hgm);simp only at hpt hfi hwl hwd;have gp:=aAv (aG5 hpt);have gi:=PR (PQ (n:=r5) ym);have wi:=HO (i:=i) (by
   have h2:=SA ([wT FF,wT on]::(rs.take i).map kA);have h3:=(hpre (L:=[wT FF,wT on]::(rs.take i).map kA) (R:=kA ⟨r1,r2,r3,r4,r5,r6⟩::(rs.drop (i+1)).map kA++(ds.flatMap (iN ns)++cs.map (iV dn))) (by rw[vH,hsp];simp)).2;rw[yAK,yAe,yAt]at h2;omega)
  obtain⟨bx,hbx⟩:=gn (σ.length);have w3:=hw.box (.agg [.str r1,.str r2,.int .i64 r3,.int .i64 r4,.int .i64 r5,.slice (sz 1 r6) (r6.map i64.aA) .any]);rw[hbx]at w3;obtain⟨u1,v1,x1⟩:=bO σ;obtain⟨y1,y2,y3,y4,y5,y6⟩:=aB (w3.ks _ (yAZ ..)).1;refine aD (A7 q1 hi eJ hbx u1 @v1 x1) ?_;refine WL.kZ (hV trivial) zb zb ?_;refine bM (A11 hbx h2 h3 gp gi y1 y2 y3 y4 y5 y6) ?_;apply SQ.nil;obtain⟨M,hM⟩:∃M,M=m:=⟨_,rfl⟩;rw[<-hM]at hm ⊢;refine aD (A7 hbx y1 y2 y3 y4 y5 y6) ?_;refine Wp.dK (λm fr σ=>∃(j:Nat) (W:List PD) (tok:Tok) (σ1:List U),∃gg:Nat->PD,(j+m=r6.length/\W=(([wT NK,wT r1,wT V5,wT r2,wT NL,fT r3 r4,wT V6,nT r5,wT V7]++(r6.take j).map nT).map fF).map PD.str/\aAw σ1 tok W.length/\iU [] 1 [] 0 ([wT FF,wT on]::(rs.take i).map kA) σ1 [(0,.box O)])/\fr=gg 0::.ptr 0 0::.str []::.int .i64 0::gg 4::.ptr 1 0::gg 6::.ptr bx 0::.slice 1 W tok::gg 9::gg 10::gg 11::gg 12::gg 13::gg 14::gg 15::gg 16::gg 17::gg 18::gg 19::gg 20::gg 21::gg 22::gg 23::gg 24::gg 25::gg 26::gg 27::gg 28::gg 29::gg 30::gg 31::.slice (sz 6 rs) (rs.map Em.bC.aA) .any::.int .i64 rs.length::.int .i64 i::gg 35::gg 36::gg 37::gg 38::gg 39::gg 40::gg 41::gg 42::gg 43::gg 44::gg 45::gg 46::gg 47::gg 48::gg 49::.slice (sz 1 r6) (r6.map i64.aA) .any::.int .i64 r6.length::.int .i64 j::gg 53::gg 54::gg 55::gg 56::gg 57::gg 58::gg 59::gg 60::gg 61::gg 62::gg 63::gg 64::gg 65::gg 66::gg 67::gg 68::gg 69::gg 70::gg 71::gg 72::gg 73::gg 74::gg 75::gg 76::gg 77::gg 78::gg 79::gg 80::gg 81::gg 82::gg 83::gg 84::gg 85::gg 86::gg 87::gg 88::gg 89::gg 90::gg 91::gg 92::gg 93::gg 94::gg 95::gg 96::gg 97::gg 98::gg 99::gg 100::gg 101::gg 102::gg 103::gg 104::gg 105::gg 106::gg 107::gg 108::gg 109::gg 110::gg 111::gg 112::gg 113::gg 114::gg 115::gg 116::gg 117::gg 118::gg 119::gg 120::gg 121::gg 122::gg 123::gg 124::gg 125::gg 126::gg 127::gg 128::gg 129::gg 130::gg 131::gg 132::gg 133::gg 134::gg 135::gg 136::gg 137::gg 138::gg 139::gg 140::gg 141::gg 142::gg 143::gg 144::gg 145::gg 146::gg 147::gg 148::gg 149::gg 150::gg 151::gg 152::gg 153::gg 154::gg 155::gg 156::[]/\σ=σ1) ?_ (r6.length) (by refine⟨0,[.str [114,97,110,107],.str r1,.str [116,111,110,101],.str r2,.str [102,101,101,116],.str (yO (r3,r4)),.str [102,105,114,115,116],.str (Lib.itoa r5),.str [119,105,110,100]],.full,σ++[.box (.agg [.str r1,.str r2,.int .i64 r3,.int .i64 r4,.int .i64 r5,.slice (sz 1 r6) (r6.map i64.aA) .any])],?_⟩;exact fL (⟨ym,by simp[KR,PS,aC7],.inl rfl,w3.sub (λp hp=>yBB _ hp)⟩) @hbx)
  rintro m fr σ ⟨j,W,tok,σ1,gg,hI,rfl,rfl⟩
  obtain⟨hm2,hW,hrow,hv⟩:=hI;have hWl:W.length=9+min j r6.length:=by rw[hW];simp;omega
  by_cases hj:j<r6.length
  .have q2:(j:Int)<(r6.length:Int):=by omega
   obtain⟨n,hn⟩:=gn (r6[j]);have aZo:n∈r6:=hn▸yAm hj
   have hnb:=hwd n aZo;have gn:=PR (PQ (n:=n) ym);have HP:=KS hj;rw[hn]at HP;obtain⟨bP,σ',hap,aC8,hkp⟩:=aC9 (tk:=.any) W [.str (Lib.itoa n)] (λe=>by rw[e]at hWl;simp at hWl;omega) yo hrow (by rw[hWl];simp;omega);have wj:=HO (i:=j) ym;refine aD (A7 q2 hj hn h3 gn hap wj) ?_;refine aL.normal (m-1) ym (by refine⟨j+1,W++[.str (Lib.itoa n)],bP,σ',?_⟩;exact fL (⟨ym,by rw[HP,hW];simp[PS],aC8,hv.app hkp⟩) @wj)
  .have q2:¬(j:Int)<(r6.length:Int):=by omega
   obtain rfl:j=r6.length:=ym;rw[yBz]at hW;have hx:kA ⟨r1,r2,r3,r4,r5,r6⟩=[wT NK,wT r1,wT V5,wT r2,wT NL,fT r3 r4,wT V6,nT r5,wT V7]++r6.map nT:=rfl;rw[<-hx]at hW;obtain⟨c1,c2⟩:=hpre (L:=([wT FF,wT on]::(rs.take i).map kA)++[kA ⟨r1,r2,r3,r4,r5,r6⟩]) (R:=(rs.drop (i+1)).map kA++(ds.flatMap (iN ns)++cs.map (iV dn))) (by rw[vH,hsp];simp);obtain⟨kS,l5,w5⟩:=hv.line hC (kA ⟨r1,r2,r3,r4,r5,r6⟩) (by simp[kA]) (by simp[kA];omega) c1 yx c2 tok;rw[<-hW]at l5;refine aD (A4 q2 hgL l5 wi) ?_;refine aL.normal (M-1) ym (by refine⟨i+1,kS,?_⟩;exact fL (⟨ym,by rw[htk,yAH];simpa using w5⟩) @wi)
 .have q1:¬(i:Int)<(rs.length:Int):=by omega
  obtain rfl:i=rs.length:=ym;rw[yBz]at hw;obtain⟨PA,hPA⟩:=gn ([wT FF,wT on]::rs.map kA);have hFA:F=PA++(ds.flatMap (iN ns)++cs.map (iV dn)):=by rw[vH,<-hPA];simp
  rw[hPA]at hw;have wO:=hw;rw[<-hO]at wO;obtain⟨z1,z2,z3,z4,z5,z6⟩:=aB (wO.ks (0,_) za).1;refine aD (A7 q1 z1 @z2 @z3 @z4 @z5 z6) ?_;clear z1 z2 z3 z4 z5 z6 wO;refine Wp.dK (λm fr σ=>∃(i:Nat) (σ1:List U),∃gg:Nat->PD,(i+m=ds.length/\iU [] 1 [] 0 (PA++(ds.take i).flatMap (iN ns)) σ1 [(0,.box O)])/\fr=gg 0::.ptr 0 0::.str []::.int .i64 0::gg 4::.ptr 1 0::gg 6::gg 7::gg 8::gg 9::gg 10::gg 11::gg 12::gg 13::gg 14::gg 15::gg 16::gg 17::gg 18::gg 19::gg 20::gg 21::gg 22::gg 23::gg 24::gg 25::gg 26::gg 27::gg 28::gg 29::gg 30::gg 31::gg 32::gg 33::gg 34::gg 35::gg 36::gg 37::gg 38::gg 39::gg 40::gg 41::gg 42::gg 43::gg 44::gg 45::gg 46::gg 47::gg 48::gg 49::gg 50::gg 51::gg 52::gg 53::gg 54::gg 55::gg 56::gg 57::gg 58::gg 59::gg 60::gg 61::gg 62::gg 63::gg 64::gg 65::gg 66::.slice (sz 5 ds) (ds.map Em.div.aA) .any::.int .i64 ds.length::.int .i64 i::gg 70::gg 71::gg 72::gg 73::gg 74::gg 75::gg 76::gg 77::gg 78::gg 79::gg 80::gg 81::gg 82::gg 83::gg 84::gg 85::gg 86::gg 87::gg 88::gg 89::gg 90::gg 91::gg 92::gg 93::gg 94::gg 95::gg 96::gg 97::gg 98::gg 99::gg 100::gg 101::gg 102::gg 103::gg 104::gg 105::gg 106::gg 107::gg 108::gg 109::gg 110::gg 111::gg 112::gg 113::gg 114::gg 115::gg 116::gg 117::gg 118::gg 119::gg 120::gg 121::gg 122::gg 123::gg 124::gg 125::gg 126::gg 127::gg 128::gg 129::gg 130::gg 131::gg 132::gg 133::gg 134::gg 135::gg 136::gg 137::gg 138::gg 139::gg 140::gg 141::gg 142::gg 143::gg 144::gg 145::gg 146::gg 147::gg 148::gg 149::gg 150::gg 151::gg 152::gg 153::gg 154::gg 155::gg 156::[]/\σ=σ1) ?_ (ds.length) (by refine⟨0,σ,?_⟩;exact bV (⟨ym,by simpa using hw⟩))
  rintro m fr σ ⟨i,σ1,gg,hI,rfl,rfl⟩
  obtain⟨hm,hw⟩:=hI
  by_cases hi:i<ds.length
  .have q1:(i:Int)<(ds.length:Int):=by omega
   obtain⟨g,eJ⟩:=gn (ds[i]);have hgm:g∈ds:=eJ▸yAm hi
   have hsp:=aHa hi (iN ns);have htk:=KS hi;rw[eJ]at hsp htk;have aNq:=fun {s:cM} (hs:s∈g.stops)=>hstw hgm hs
   obtain⟨d1,d2,d3,d4,d5⟩:=g;simp only at aNq;have hcb:=aC2 ((R8 _ _).1 (hdv _ hgm).2).1;simp only at hcb;have g3:=PR (PQ (n:=d3) ym);have g4:=PR (PQ (n:=d4) ym);obtain⟨P,hP⟩:=gn (PA++(ds.take i).flatMap (iN ns));rw[hP]at hw;obtain⟨dh,hdh⟩:=gn (KT ⟨d1,d2,d3,d4,d5⟩);have FG:F=P++(dh::d5.flatMap (dQ ns)++((ds.drop (i+1)).flatMap (iN ns)++cs.map (iV dn))):=by rw[hFA,hsp,<-hP,<-hdh];simp[iN]
   have wi:=HO (i:=i) (by
    have h1:=aDa (f:=iN ns) (λa=>by simp[iN]) (ds.take i);have h2:=SA (PA++(ds.take i).flatMap (iN ns));have h3:=(hpre (L:=P) (R:=dh::d5.flatMap (dQ ns)++((ds.drop (i+1)).flatMap (iN ns)++cs.map (iV dn))) (by rw[FG])).2;rw[<-hP]at h3;rw[yAt]at h1;rw[yAa]at h2;omega)
   obtain⟨bd,hbd⟩:=gn (σ.length);have w3:=hw.box (.agg [.str d1,.bool d2,.int .i64 d3,.int .i64 d4,.slice (sz 4 d5) (d5.map Em.stop.aA) .any]);rw[hbd]at w3;obtain⟨u1,v1,x1⟩:=bO σ;obtain⟨y1,y2,y3,y4,y5,y6⟩:=aB (w3.ks _ (yAZ ..)).1;obtain⟨M,hM⟩:∃M,M=m:=⟨_,rfl⟩;rw[<-hM]at hm ⊢;refine aD (A13 q1 hi eJ hbd u1 @v1 x1 y1 y2 y3 y4 y5 y6) ?_;refine Wp.aG6 (λfr' σ'=>∃(W:List PD) (tok:Tok) (kS:List U) (gg:Nat->PD),(W=((wT PT::wT d1::(if d2=true then [wT V8]else [])).map fF).map PD.str/\aAw kS tok W.length/\iU [] 1 [] 0 P kS [(bd,.box (.agg [.str d1,.bool d2,.int .i64 d3,.int .i64 d4,.slice (sz 4 d5) (d5.map Em.stop.aA) .any])),(0,.box O)])/\fr'=gg 0::(.ptr 0 0)::(.str [])::(.int .i64 0)::gg 4::(.ptr 1 0)::gg 6::gg 7::gg 8::gg 9::gg 10::gg 11::(.ptr bd 0)::(.slice 1 W tok)::gg 14::gg 15::gg 16::gg 17::gg 18::gg 19::gg 20::gg 21::gg 22::gg 23::gg 24::gg 25::gg 26::gg 27::gg 28::gg 29::gg 30::gg 31::gg 32::gg 33::gg 34::gg 35::gg 36::gg 37::gg 38::gg 39::gg 40::gg 41::gg 42::gg 43::gg 44::gg 45::gg 46::gg 47::gg 48::gg 49::gg 50::gg 51::gg 52::gg 53::gg 54::gg 55::gg 56::gg 57::gg 58::gg 59::gg 60::gg 61::gg 62::gg 63::gg 64::gg 65::gg 66::(.slice (sz 5 ds) (ds.map Em.div.aA) .any)::(.int .i64 ds.length)::(.int .i64 i)::gg 70::gg 71::gg 72::gg 73::gg 74::gg 75::gg 76::gg 77::gg 78::gg 79::gg 80::gg 81::gg 82::gg 83::gg 84::gg 85::gg 86::gg 87::gg 88::gg 89::gg 90::gg 91::gg 92::gg 93::gg 94::gg 95::gg 96::gg 97::gg 98::gg 99::gg 100::gg 101::gg 102::gg 103::gg 104::gg 105::gg 106::gg 107::gg 108::gg 109::gg 110::gg 111::gg 112::gg 113::gg 114::gg 115::gg 116::gg 117::gg 118::gg 119::gg 120::gg 121::gg 122::gg 123::gg 124::gg 125::gg 126::gg 127::gg 128::gg 129::gg 130::gg 131::gg 132::gg 133::gg 134::gg 135::gg 136::gg 137::gg 138::gg 139::gg 140::gg 141::gg 142::gg 143::gg 144::gg 145::gg 146::gg 147::gg 148::gg 149::gg 150::gg 151::gg 152::gg 153::gg 154::gg 155::gg 156::[]/\σ'=kS) ?_ ?_
   .cases d2 with
    |false=>
     refine aD trivial ?_;exact⟨rfl,rfl,[.str [100,105,118,105,115,105,111,110],.str d1],.full,_,qT ⟨by simp[KR],.inl rfl,w3⟩ Bk yu⟩
    |true=>
     obtain⟨bP,σ',hap,aC8,hkp⟩:=aC9 (σ:=σ++[.box (.agg [.str d1,.bool true,.int .i64 d3,.int .i64 d4,.slice (sz 4 d5) (d5.map Em.stop.aA) .any])]) (tok:=.full) (tk:=.any) [.str [100,105,118,105,115,105,111,110],.str d1] [.str [112,101,100,97,108]] yo yo (.inl rfl) yo;refine aD hap ?_;exact⟨rfl,rfl,[.str [100,105,118,105,115,105,111,110],.str d1]++[.str [112,101,100,97,108]],bP,σ',qT ⟨by simp[KR],aC8,w3.app hkp⟩ Bk yu⟩
   clear y1 y2 y3 y4 y5 y6 u1 v1 x1 w3 hw
   rintro fr' σ' ⟨W,tok,kS,gg,⟨hW,hrow,w5⟩,rfl,rfl⟩
   refine aS.normal ?_;have hWl:W.length<=3/\2<=W.length:=by rw[hW];cases d2<;>simp
   obtain⟨aZp,SB,hap,a8K,hkp⟩:=aC9 (tk:=.any) W [.str [107,101,121,115],.str (Lib.itoa d3),.str (Lib.itoa d4)] (λe=>by rw[e]at hWl;simp at hWl) yo hrow zc;have w6:=w5.app hkp;obtain⟨c1,c2⟩:=hpre (L:=P++[dh]) (R:=d5.flatMap (dQ ns)++((ds.drop (i+1)).flatMap (iN ns)++cs.map (iV dn))) (by rw[FG];simp);obtain⟨FH,l7,w7⟩:=w6.line hC dh (by rw[<-hdh];simp[KT]) (by rw[<-hdh];cases d2<;>simp[KT]) c1 yx c2 aZp;have hW2:(dh.map fF).map PD.str=W++[.str [107,101,121,115],.str (Lib.itoa d3),.str (Lib.itoa d4)]:=by rw[<-hdh,hW];cases d2<;>simp[KT,KR,PS]
   rw[hW2]at l7;have x7:=aDb (fl:=0) hgL l7;obtain⟨y1,y2,y3,y4,y5,y6⟩:=aB (w5.ks _ (yAZ ..)).1;refine WL.OX 54 (hV trivial) zb ?_;refine j9 (A12 x7 xi h3 @g3 @g4 hap y1 y2 y3 y4 y5 y6) ?_;apply SQ.nil;clear y1 y2 y3 y4 y5 y6 x7 l7;obtain⟨y1,y2,y3,y4,y5,y6⟩:=aB (w7.ks _ (yAZ ..)).1;refine aD (A6 y1 y2 y3 y4 y5 y6) ?_;clear y1 y2 y3 y4 y5 y6;refine Wp.dK (λm fr σ=>∃(j:Nat) (σ1:List U),∃gg:Nat->PD,(j+m=d5.length/\iU [] 1 [] 0 (P++dh::(d5.take j).flatMap (dQ ns)) σ1 [(bd,.box (.agg [.str d1,.bool d2,.int .i64 d3,.int .i64 d4,.slice (sz 4 d5) (d5.map Em.stop.aA) .any])),(0,.box O)])/\fr=gg 0::.ptr 0 0::.str []::.int .i64 0::gg 4::.ptr 1 0::gg 6::gg 7::gg 8::gg 9::gg 10::gg 11::.ptr bd 0::gg 13::gg 14::gg 15::gg 16::gg 17::gg 18::gg 19::gg 20::gg 21::gg 22::gg 23::gg 24::gg 25::gg 26::gg 27::gg 28::gg 29::gg 30::gg 31::gg 32::gg 33::gg 34::gg 35::gg 36::gg 37::gg 38::gg 39::gg 40::gg 41::gg 42::gg 43::gg 44::gg 45::gg 46::gg 47::gg 48::gg 49::gg 50::gg 51::gg 52::gg 53::gg 54::gg 55::gg 56::gg 57::gg 58::gg 59::gg 60::gg 61::gg 62::gg 63::gg 64::gg 65::gg 66::.slice (sz 5 ds) (ds.map Em.div.aA) .any::.int .i64 ds.length::.int .i64 i::gg 70::gg 71::gg 72::gg 73::gg 74::gg 75::gg 76::gg 77::gg 78::gg 79::gg 80::gg 81::gg 82::gg 83::gg 84::gg 85::gg 86::gg 87::gg 88::gg 89::gg 90::gg 91::gg 92::gg 93::gg 94::.slice (sz 4 d5) (d5.map Em.stop.aA) .any::.int .i64 d5.length::.int .i64 j::gg 98::gg 99::gg 100::gg 101::gg 102::gg 103::gg 104::gg 105::gg 106::gg 107::gg 108::gg 109::gg 110::gg 111::gg 112::gg 113::gg 114::gg 115::gg 116::gg 117::gg 118::gg 119::gg 120::gg 121::gg 122::gg 123::gg 124::gg 125::gg 126::gg 127::gg 128::gg 129::gg 130::gg 131::gg 132::gg 133::gg 134::gg 135::gg 136::gg 137::gg 138::gg 139::gg 140::gg 141::gg 142::gg 143::gg 144::gg 145::gg 146::gg 147::gg 148::gg 149::gg 150::gg 151::gg 152::gg 153::gg 154::gg 155::gg 156::[]/\σ=σ1) ?_ (d5.length) (by refine⟨0,FH,?_⟩;exact bV (⟨ym,by simpa using w7⟩))
   rintro m fr σ ⟨j,σ1,gg,hI,rfl,rfl⟩
   obtain⟨hm2,hv⟩:=hI
   by_cases hj:j<d5.length
   .have q2:(j:Int)<(d5.length:Int):=by omega
    obtain⟨st,hs2⟩:=gn (d5[j]);have hsm:st∈d5:=hs2▸yAm hj
    have NM:=aHa hj (dQ ns);have HP:=KS hj;rw[hs2]at NM HP;have hsw:=aNq hsm;obtain⟨c3,c4⟩:=hpre (L:=(P++dh::(d5.take j).flatMap (dQ ns))++dQ ns st) (R:=(d5.drop (j+1)).flatMap (dQ ns)++((ds.drop (i+1)).flatMap (iN ns)++cs.map (iV dn))) (by rw[FG,NM];simp);have wj:=HO (i:=j) (by
     have h1:=aDa (f:=dQ ns) (λa=>by simp[dQ]) (d5.take j);have h2:=SA ((P++dh::(d5.take j).flatMap (dQ ns))++dQ ns st);rw[yAt]at h1;simp only[yAa,yAK]at h2 c4;omega)
    obtain⟨bs,hbs⟩:=gn (σ.length);have w8:=hv.box (Em.stop.aA st);rw[hbs]at w8;obtain⟨oD,l9,w9⟩:=w8.aZn hCS st hsw c3 yx c4;obtain⟨s1,s2,s3,s4⟩:=st;simp only[PE,eN]at l9 w8;have wO:=w8;rw[<-hO]at wO;obtain⟨z1,z2,z3,z4,z5,z6⟩:=aB (wO.ks (0,_) za).1;obtain⟨u1,v1,x1⟩:=bO σ;obtain⟨y1,y2,y3,y4,y5,y6⟩:=aB (w8.ks _ (yAZ ..)).1;refine aD (A20 q2 hj hs2 hbs u1 @v1 x1 y1 y2 y3 y4 y5 y6 z1 @z2 @z3 @z4 @z5 z6 (A3 hgS l9 wj)) ?_;have w10:=w9.sub (K':=[(bd,.box (.agg [.str d1,.bool d2,.int .i64 d3,.int .i64 d4,.slice (sz 4 d5) (d5.map Em.stop.aA) .any])),(0,.box O)]) Af;refine aL.normal (m-1) ym (by refine⟨j+1,oD,?_⟩;exact fL (⟨ym,by rw[HP,yCF];simpa using w10⟩) @wj)
   .have q2:¬(j:Int)<(d5.length:Int):=by omega
    obtain rfl:j=d5.length:=ym;refine aD (A2 q2 wi) ?_;rw[yBz]at hv;have w8:=hv.sub (K':=[(0,.box O)]) Af;refine aL.normal (M-1) ym (by refine⟨i+1,σ,?_⟩;exact fL (⟨ym,by rw[htk,yCF,<-yAi,hP];simp only[yBg,yDn,yAl,iN,hdh];exact w8⟩) @wi)
  .have q1:¬(i:Int)<(ds.length:Int):=by omega
   obtain rfl:i=ds.length:=ym;rw[yBz]at hw;obtain⟨PB,hPB⟩:=gn (PA++ds.flatMap (iN ns));have hFB:F=PB++cs.map (iV dn):=by rw[hFA,<-hPB];simp
   rw[hPB]at hw;have wO:=hw;rw[<-hO]at wO;obtain⟨z1,z2,z3,z4,z5,z6⟩:=aB (wO.ks (0,_) (yAZ ..)).1;refine aD (A7 q1 z1 @z2 @z3 @z4 @z5 z6) ?_;clear z1 z2 z3 z4 z5 z6 wO;refine Wp.dK (λm fr σ=>∃(i:Nat) (σ1:List U),∃gg:Nat->PD,(i+m=cs.length/\iU [] 1 [] 0 (PB++(cs.take i).map (iV dn)) σ1 [(0,.box O)])/\fr=gg 0::.ptr 0 0::.str []::.int .i64 0::gg 4::.ptr 1 0::gg 6::gg 7::gg 8::gg 9::gg 10::gg 11::gg 12::gg 13::gg 14::gg 15::gg 16::gg 17::gg 18::gg 19::gg 20::gg 21::gg 22::gg 23::gg 24::gg 25::gg 26::gg 27::gg 28::gg 29::gg 30::gg 31::gg 32::gg 33::gg 34::gg 35::gg 36::gg 37::gg 38::gg 39::gg 40::gg 41::gg 42::gg 43::gg 44::gg 45::gg 46::gg 47::gg 48::gg 49::gg 50::gg 51::gg 52::gg 53::gg 54::gg 55::gg 56::gg 57::gg 58::gg 59::gg 60::gg 61::gg 62::gg 63::gg 64::gg 65::gg 66::gg 67::gg 68::gg 69::gg 70::gg 71::gg 72::gg 73::gg 74::gg 75::gg 76::gg 77::gg 78::gg 79::gg 80::gg 81::gg 82::gg 83::gg 84::gg 85::gg 86::gg 87::gg 88::gg 89::gg 90::gg 91::gg 92::gg 93::gg 94::gg 95::gg 96::gg 97::gg 98::gg 99::gg 100::gg 101::gg 102::gg 103::gg 104::gg 105::gg 106::gg 107::.slice (sz 5 cs) (cs.map Em.cC.aA) .any::.int .i64 cs.length::.int .i64 i::gg 111::gg 112::gg 113::gg 114::gg 115::gg 116::gg 117::gg 118::gg 119::gg 120::gg 121::gg 122::gg 123::gg 124::gg 125::gg 126::gg 127::gg 128::gg 129::gg 130::gg 131::gg 132::gg 133::gg 134::gg 135::gg 136::gg 137::gg 138::gg 139::gg 140::gg 141::gg 142::gg 143::gg 144::gg 145::gg 146::gg 147::gg 148::gg 149::gg 150::gg 151::gg 152::gg 153::gg 154::gg 155::gg 156::[]/\σ=σ1) ?_ (cs.length) (by refine⟨0,σ,?_⟩;exact bV (⟨ym,by simpa using hw⟩))
   rintro m fr σ ⟨i,σ1,gg,hI,rfl,rfl⟩
   obtain⟨hm,hw⟩:=hI
   by_cases hi:i<cs.length
   .have q1:(i:Int)<(cs.length:Int):=by omega
    obtain⟨g,eJ⟩:=gn (cs[i]);have hgm:g∈cs:=eJ▸yAm hi
    have hsp:=aG8 hi (iV dn);have htk:=KS hi;rw[eJ]at hsp htk;obtain⟨c1,c2,c3,c4,c5⟩:=g;obtain⟨_,⟨e1,e2,e3,e4⟩,⟨e5,e6⟩,_⟩:=hcp _ hgm;simp only at e1 e2 e3 e4 e5 e6;obtain⟨a,rfl⟩:∃a:Nat,c2=a:=⟨c2.toNat,ym⟩;obtain⟨b,rfl⟩:∃a:Nat,c3=a:=⟨c3.toNat,ym⟩;have ha:a<ds.length:=ym;have hb:b<ds.length:=ym;have ha2:(a:Int)<(ds.length:Int):=ym;have mW:(b:Int)<(ds.length:Int):=ym;obtain⟨DA,hDA⟩:=gn (ds[a]);obtain⟨DB,hDB⟩:=gn (ds[b]);have hna:dn.getD ((a:Nat):Int).toNat []=DA.name:=by rw[<-hdn];simp[ha,hDA]
    have hnb:dn.getD ((b:Nat):Int).toNat []=DB.name:=by rw[<-hdn];simp[hb,hDB]
    obtain⟨n1,n2,n3,n4,n5⟩:=DA;obtain⟨m1,m2,m3,m4,m5⟩:=DB;simp only at hna hnb;have g4:=PR (PQ (n:=c4) ym);obtain⟨P,hP⟩:=gn (PB++(cs.take i).map (iV dn));rw[hP]at hw;obtain⟨ch,hch⟩:=gn (iV dn ⟨c1,(a:Nat),(b:Nat),c4,c5⟩);have FG:F=P++(ch::(cs.drop (i+1)).map (iV dn)):=by rw[hFB,hsp,<-hP,<-hch];simp
    have wi:=HO (i:=i) (by
     have h2:=SA (PB++(cs.take i).map (iV dn));have h3:=(hpre (L:=P) (R:=ch::(cs.drop (i+1)).map (iV dn)) (by rw[FG])).2;rw[<-hP]at h3;rw[yAa,yAe,yAt]at h2;omega)
    obtain⟨bc,hbc⟩:=gn (σ.length);have w3:=hw.box (.agg [.str c1,.int .i64 (a:Nat),.int .i64 (b:Nat),.int .i64 c4,.bool c5]);rw[hbc]at w3;obtain⟨u1,v1,x1⟩:=bO σ;obtain⟨y1,y2,y3,y4,y5,y6⟩:=aB (w3.ks _ (yAZ ..)).1;have wO:=w3;rw[<-hO]at wO;obtain⟨z1,z2,z3,z4,z5,z6⟩:=aB (wO.ks (0,_) za).1;refine aD (A7 q1 hi eJ hbc u1 @v1 x1) ?_;refine WL.kZ (hV trivial) zb zb ?_;refine j9 (A20 hbc h3 @g4 ha hb ha2 mW hDA hDB y1 y2 y3 y4 y5 y6 z1 @z2 @z3 @z4 (A2 @z5 z6)) ?_;apply SQ.nil;refine aD (A7 hbc y1 y2 y3 y4 y5 y6) ?_;refine Wp.aG6 (λfr' σ'=>∃(W:List PD) (tok:Tok) (kS:List U) (gg:Nat->PD),(W=(([wT SC,wT c1,wT aAx,wT n1,wT aAy,wT m1,wT aAz,nT c4]++(if c5=true then [wT V9]else [])).map fF).map PD.str/\iU [] 1 [] 0 P kS [(bc,.box (.agg [.str c1,.int .i64 (a:Nat),.int .i64 (b:Nat),.int .i64 c4,.bool c5])),(0,.box O)])/\fr'=gg 0::(.ptr 0 0)::(.str [])::(.int .i64 0)::gg 4::(.ptr 1 0)::gg 6::gg 7::gg 8::gg 9::gg 10::gg 11::gg 12::gg 13::gg 14::gg 15::gg 16::(.ptr bc 0)::(.slice 1 W tok)::gg 19::gg 20::gg 21::gg 22::gg 23::gg 24::gg 25::gg 26::gg 27::gg 28::gg 29::gg 30::gg 31::gg 32::gg 33::gg 34::gg 35::gg 36::gg 37::gg 38::gg 39::gg 40::gg 41::gg 42::gg 43::gg 44::gg 45::gg 46::gg 47::gg 48::gg 49::gg 50::gg 51::gg 52::gg 53::gg 54::gg 55::gg 56::gg 57::gg 58::gg 59::gg 60::gg 61::gg 62::gg 63::gg 64::gg 65::gg 66::gg 67::gg 68::gg 69::gg 70::gg 71::gg 72::gg 73::gg 74::gg 75::gg 76::gg 77::gg 78::gg 79::gg 80::gg 81::gg 82::gg 83::gg 84::gg 85::gg 86::gg 87::gg 88::gg 89::gg 90::gg 91::gg 92::gg 93::gg 94::gg 95::gg 96::gg 97::gg 98::gg 99::gg 100::gg 101::gg 102::gg 103::gg 104::gg 105::gg 106::gg 107::(.slice (sz 5 cs) (cs.map Em.cC.aA) .any)::(.int .i64 cs.length)::(.int .i64 i)::gg 111::gg 112::gg 113::gg 114::gg 115::gg 116::gg 117::gg 118::gg 119::gg 120::gg 121::gg 122::gg 123::gg 124::gg 125::gg 126::gg 127::gg 128::gg 129::gg 130::gg 131::gg 132::gg 133::gg 134::gg 135::gg 136::gg 137::gg 138::gg 139::gg 140::gg 141::gg 142::gg 143::gg 144::gg 145::gg 146::gg 147::gg 148::gg 149::gg 150::gg 151::gg 152::gg 153::gg 154::gg 155::gg 156::[]/\σ'=kS) ?_ ?_
    .cases c5 with
     |false=>
      refine aD trivial ?_;exact⟨rfl,rfl,[.str [99,111,117,112,108,101,114],.str c1,.str [102,114,111,109],.str n1,.str [116,111],.str m1,.str [115,104,105,102,116],.str (Lib.itoa c4)],.full,_,qT ⟨by simp[KR,PS],w3⟩ Bl yu⟩
     |true=>
      obtain⟨bP,σ',hap,aC8,hkp⟩:=aC9 (σ:=σ++[.box (.agg [.str c1,.int .i64 (a:Nat),.int .i64 (b:Nat),.int .i64 c4,.bool true])]) (tok:=.full) (tk:=.any) [.str [99,111,117,112,108,101,114],.str c1,.str [102,114,111,109],.str n1,.str [116,111],.str m1,.str [115,104,105,102,116],.str (Lib.itoa c4)] [.str [116,104,114,111,117,103,104]] yo yo (.inl rfl) yo;refine aD hap ?_;exact⟨rfl,rfl,[.str [99,111,117,112,108,101,114],.str c1,.str [102,114,111,109],.str n1,.str [116,111],.str m1,.str [115,104,105,102,116],.str (Lib.itoa c4)]++[.str [116,104,114,111,117,103,104]],bP,σ',qT ⟨by simp[KR,PS],w3.app hkp⟩ Bl yu⟩
    clear y1 y2 y3 y4 y5 y6 u1 v1 x1 w3 hw z1 z2 z3 z4 z5 z6 wO
    rintro fr' σ' ⟨W,tok,kS,gg,⟨hW,w5⟩,rfl,rfl⟩
    refine aS.normal ?_;have hcw:ch=[wT SC,wT c1,wT aAx,wT n1,wT aAy,wT m1,wT aAz,nT c4]++(if c5=true then [wT V9]else []):=by rw[<-hch];simp only[iV,hna,hnb];rfl
    obtain⟨k1,k2⟩:=hpre (L:=P++[ch]) (R:=(cs.drop (i+1)).map (iV dn)) (by rw[FG];simp);obtain⟨FH,l7,w7⟩:=w5.line hC ch (by rw[hcw];simp) (by rw[hcw];cases c5<;>simp) k1 yx k2 tok;rw[hcw,<-hW]at l7;refine aD (A3 hgL l7 wi) ?_;have w8:=w7.sub (K':=[(0,.box O)]) Af;refine aL.normal (m-1) ym (by refine⟨i+1,FH,?_⟩;exact fL (⟨ym,by rw[htk,yAH,<-yAi,hP];simp only[yAX,yBA,hch];exact w8⟩) @wi)
   .have q1:¬(i:Int)<(cs.length:Int):=by omega
    obtain rfl:i=cs.length:=ym;rw[yBz,<-hFB]at hw;have hbw:=hw.bw;simp only[yAQ,Int.zero_add]at hbw;have hne:kR F≠[]:=by rw[vH];simp[kR]
    have M3:=hbw.text hne;have vU:=hbw.len;obtain⟨pp,zz,tt,mD,_⟩:=hbw.ex;obtain⟨BB,hBB⟩:=gn (cH (kR F));rw[hBB]at mD;obtain⟨y1,y2,y3,y4,y5,y6⟩:=aB mD
    by_cases f1:20000<(bQ F).length
    .have f1':(20000:Int)<((bQ F).length:Int):=by omega
     rw[yAJ f1];refine aD (A8 q1 y1 y2 y3 y4 y5 y6 f1') ?_;exact aa
    .have f1':¬(20000:Int)<((bQ F).length:Int):=by omega
     rw[yAI f1]
     by_cases f2:65536<(kR F).length
     .have SD:(65536:Int)<((kR F).length:Int):=by omega
      rw[yAJ f2];refine aD (A11 q1 y1 y2 y3 y4 y5 y6 f1' h4 vU SD) ?_;exact aa
     .have SD:¬(65536:Int)<((kR F).length:Int):=by omega
      rw[yAI f2];refine aD (A13 q1 y1 y2 y3 y4 y5 y6 f1' h4 vU SD h5 M3) ?_;exact aa
end
section
variable{E:aE}(hU:aG E)
include hU
set_option maxRecDepth 10000
end
section
noncomputable def VH:Nat->List PD->List U->Option (PD×List U):=entry (cU (Em.text.list 1) .text .text λl s=>bE (l=[]) (some []))
noncomputable def VG:Nat->List PD->List U->Option (PD×List U):=VF HI VH
def a4B(l:List (List UInt8))(s:List UInt8):Prop:=l.length<=1000/\(Lib.join l s).length<=1000000
theorem a4C{x:PD}{ws:List (List UInt8)}{s:Dr}(hx:x.strip=texts.aA ws)(h:a4B ws s)(fl:Nat)(σ:List U):VG fl [x,.str s] σ=some (.str (Lib.join ws s),σ):=by
 unfold VG VF
 by_cases h0:ws=[]
 .subst h0;have e1:=Em.cJ hx;have e2:Em.text.dec (.str s)=some s:=Em.cJ rfl;have h1:HI fl [x,.str s] σ=none:=by
   unfold HI entry cU;simp only[e1,e2];rw[show bE (V3 [] s) (some (Lib.join [] s))=none by unfold bE;rw[yAI (λh=>h.1 rfl)]]
  have h2:VH fl [x,.str s] σ=some (.str [],σ):=by
   unfold VH entry cU;simp only[e1,e2];rw[dC trivial];rfl
  rw[h1];exact h2
 .rw[aNs hx ⟨h0,h⟩]
def lL(s:cM):List UInt8:=32::(s.name++32::yO (s.num,s.den))
def EJ(d:bY):List UInt8:=d.name++58::Lib.join (d.stops.map lL) [44]
def R7(o:eK):List (List UInt8)×Int:=if gZ o≠0 then([],gZ o)else(o.bR.map EJ,0)
theorem aBz{w:Dr}(h:cV w=true):w.length<=32:=by
 cases w with
 |nil=>simp
 |cons c r=>
  simp only[cV,yAr,yBC]at h;exact h.1.1
theorem aI0{x y:Int}(h:mI x y=0):(yO (x,y)).length<=41:=by
 obtain⟨h1,h2⟩:=aC0 h;obtain⟨k1,k2,k3,k4,k5⟩:=aC1 h1;have hg:x.toNat.gcd y.toNat=1:=by
  have:x.natAbs=x.toNat:=ym;rw[<-this];exact k5
 have:=(aAD hg ym ym ym []).2.2.1;simp only[yO,yAa,yBh];omega
theorem aI1{n:Nat}(s:UInt8):∀ {ws:List (List UInt8)},(∀w∈ws,w.length<=n)->(Lib.join ws [s]).length<=ws.length*(n+1)
 | [],_=>As
 | [w],h=>by
   have:=h w yo;simp[Lib.join,List.intercalate];omega
 |w::v::r,h=>by
  have ih:=aI1 s (ws:=v::r) (λx hx=>h x (yBB _ hx));have hw:=h w (yAZ ..);have e:Lib.join (w::v::r) [s]=w++s::Lib.join (v::r) [s]:=At;rw[e,yAa,yAK,yAK];rw[yBs,Nat.one_mul];omega
variable{E:aE}(hU:aG E)
include hU
set_option maxRecDepth 10000
theorem aVZ(h0:E 45=none)(s:List UInt8):aJ prog E 45 [.slice 0 [] .any,.str s] (.str []):=by
 refine aJ.aV 75 h0 func45 (h:=?_);exact vl
theorem aYq(h0:E 21=none)(h1:E 25=some VJ)(h2:E 35=some KL)(h3:E 45=some VG)(o:eK)(ho:vS o) :
  aJ prog E 21 [Em.fE.aA o] ((texts.iH i64).aA (R7 o)):=by
 have hg:=aG7 ho;unfold R7
 by_cases he:gZ o=0
 rotate_left
 .rw[yAJ he];obtain⟨e,hee⟩:=gn (gZ o);rw[hee]at he hg ⊢;obtain⟨on,rs,od,oc⟩:=o;simp only[yG,eN]at hg ⊢;refine aJ.aV 53 h0 func21 (h:=?_);refine aD (A3 h1 hg @he) ?_;exact aa
 rw[yAI Db];rw[he]at hg;obtain⟨_,_,⟨⟨_,hd8⟩,hdv,_⟩,_⟩:=(NI o).1 he;have hV:True->aG E:=λ_=>hU
 clear hU;obtain⟨on,rs,ds,oc⟩:=o;simp only at hdv hd8;simp only[yG,eN]at hg ⊢;obtain⟨O,hO⟩:=gn (PD.agg [.str on,.slice (sz 6 rs) (rs.map Em.bC.aA) .any,.slice (sz 5 ds) (ds.map Em.div.aA) .any,.slice (sz 5 oc) (oc.map Em.cC.aA) .any]);refine aJ.aV 53 h0 func21 (h:=?_);refine aD (A2 h1 hg) ?_;refine Wp.dK (λm fr σ=>∃(i z:Nat) (W:List PD) (tok:Tok) (σ1:List U),∃gg:Nat->PD,(i+m=ds.length/\W=((ds.take i).map EJ).map PD.str/\(W=[]\/z=1)/\iB σ1 tok 9 1 W.length)/\fr=[gg 0,.ptr 0 0,.slice 0 [] .full,.int .i64 0,gg 4,.slice z W tok,gg 6,gg 7,gg 8,gg 9,gg 10,gg 11,gg 12,gg 13,gg 14,gg 15,gg 16,.slice (sz 5 ds) (ds.map Em.div.aA) .any,.int .i64 ds.length,.int .i64 i,gg 20,gg 21,gg 22,gg 23,gg 24,gg 25,gg 26,gg 27,gg 28,gg 29,gg 30,gg 31,gg 32,gg 33,gg 34,gg 35,gg 36,gg 37,gg 38,gg 39,gg 40,gg 41,gg 42,gg 43,gg 44,gg 45,gg 46,gg 47,gg 48,gg 49,gg 50,gg 51,gg 52]/\σ=σ1) ?_ (ds.length) (by refine⟨0,0,[],.full,[.box (.agg [.str on,.slice (sz 6 rs) (rs.map Em.bC.aA) .any,.slice (sz 5 ds) (ds.map Em.div.aA) .any,.slice (sz 5 oc) (oc.map Em.cC.aA) .any])],?_⟩;exact bV (⟨ym,yo,.inl rfl,.inl ⟨rfl,rfl⟩⟩))
 rintro m fr σ ⟨i,z,W,tok,σ1,gg,hI,rfl,rfl⟩
 obtain⟨hm,hW,hz,hrow⟩:=hI;have hWl:W.length=min i ds.length:=by rw[hW];simp
 by_cases hi:i<ds.length
 .have q1:(i:Int)<(ds.length:Int):=by omega
  obtain⟨g,eJ⟩:=gn (ds[i]);have hgm:g∈ds:=eJ▸yAm hi
  have htk:=KS hi;rw[eJ]at htk;have hdd:=hdv _ hgm;obtain⟨qY,hsl,hss,_⟩:=(R8 _ _).1 hdd.2;obtain⟨d1,d2,d3,d4,d5⟩:=g;have OM:=aBz hdd.1;simp only at OM hsl hss;have wi:=HO (i:=i) ym;have hrow:=hrow.more (τ:=[.box (.agg [.str d1,.bool d2,.int .i64 d3,.int .i64 d4,.slice (sz 4 d5) (d5.map Em.stop.aA) .any])]);obtain⟨bd,hbd⟩:=gn (σ.length);obtain⟨u1,v1,x1⟩:=bO σ;have hbox:(σ++[U.box (.agg [.str d1,.bool d2,.int .i64 d3,.int .i64 d4,.slice (sz 4 d5) (d5.map Em.stop.aA) .any])])[bd]?=some (.box (.agg [.str d1,.bool d2,.int .i64 d3,.int .i64 d4,.slice (sz 4 d5) (d5.map Em.stop.aA) .any])):=by rw[<-hbd];exact u1 _
  obtain⟨y1,y2,y3,y4,y5,y6⟩:=aB hbox;obtain⟨M,hM⟩:∃M,M=m:=⟨_,rfl⟩;rw[<-hM]at hm ⊢;refine aD (A13 q1 hi eJ hbd u1 @v1 x1 y1 y2 y3 y4 y5 y6) ?_;clear y1 y2 y3 y4 y5 y6 u1 v1 x1;refine Wp.dK (λm fr σ=>∃(j z2:Nat) (V:List PD) (wB:Tok) (σ1:List U),∃gg:Nat->PD,(j+m=d5.length/\V=((d5.take j).map lL).map PD.str/\(V=[]\/z2=1)/\iB σ1 wB 9 1 V.length/\iB σ1 tok 9 1 W.length/\(∀id,tok=.own id->wB≠.own id)/\σ1[bd]?=some (.box (.agg [.str d1,.bool d2,.int .i64 d3,.int .i64 d4,.slice (sz 4 d5) (d5.map Em.stop.aA) .any])))/\fr=[gg 0,.ptr 0 0,.slice 0 [] .full,.int .i64 0,gg 4,.slice z W tok,gg 6,.ptr bd 0,.slice z2 V wB,gg 9,gg 10,gg 11,gg 12,gg 13,gg 14,gg 15,gg 16,.slice (sz 5 ds) (ds.map Em.div.aA) .any,.int .i64 ds.length,.int .i64 i,gg 20,gg 21,gg 22,gg 23,.slice (sz 4 d5) (d5.map Em.stop.aA) .any,.int .i64 d5.length,.int .i64 j,gg 27,gg 28,gg 29,gg 30,gg 31,gg 32,gg 33,gg 34,gg 35,gg 36,gg 37,gg 38,gg 39,gg 40,gg 41,gg 42,gg 43,gg 44,gg 45,gg 46,gg 47,gg 48,gg 49,gg 50,gg 51,gg 52]/\σ=σ1) ?_ (d5.length) (by refine⟨0,0,[],.full,σ++[.box (.agg [.str d1,.bool d2,.int .i64 d3,.int .i64 d4,.slice (sz 4 d5) (d5.map Em.stop.aA) .any])],?_⟩;exact fL (⟨ym,yo,.inl rfl,.inl ⟨rfl,rfl⟩,hrow,(λ_ _ e=>zh),hbox⟩) @hbd)
  rintro m fr σ ⟨j,z2,V,wB,σ1,gg,hI,rfl,rfl⟩
  obtain⟨hm2,hVq,fU,dZ,aI2,hdis,hbox⟩:=hI;have hVl:V.length=min j d5.length:=by rw[hVq];simp
  by_cases hj:j<d5.length
  .have q2:(j:Int)<(d5.length:Int):=by omega
   obtain⟨st,hs2⟩:=gn (d5[j]);have hsm:st∈d5:=hs2▸yAm hj
   have HP:=KS hj;rw[hs2]at HP;obtain⟨_,hn2,hpt,_⟩:=(aAu _ _ _ _).1 (hss st hsm);obtain⟨s1,s2,s3,s4⟩:=st;simp only at hn2 hpt;have hn3:=aBz hn2;have hfl:=aI0 hpt;have gp:=aAv (aG5 hpt);have wj:=HO (i:=j) ym;obtain⟨bs,hbs⟩:=gn (σ.length);obtain⟨u1,v1,x1⟩:=bO σ;have a4D:(σ++[U.box (.agg [.str s1,.int .i64 s2,.int .i64 s3,.slice (sz 3 s4) (s4.map Em.cK.aA) .any])])[bs]?=some (.box (.agg [.str s1,.int .i64 s2,.int .i64 s3,.slice (sz 3 s4) (s4.map Em.cK.aA) .any])):=by rw[<-hbs];exact u1 _
   obtain⟨y1,y2,y3,y4,y5,y6⟩:=aB a4D;obtain⟨aQA,dL,hap,aQB,hk2,hn4⟩:=vD (P:=prog) (t:=55) (e:=9) (k:=1) (b:=16) (s:=z2) (xs:=V) (p:=.str (lL ⟨s1,s2,s3,s4⟩)) (tk:=.any) (tok:=wB) underlying55 yp fU (dZ.more (τ:=[.box (.agg [.str s1,.int .i64 s2,.int .i64 s3,.slice (sz 3 s4) (s4.map Em.cK.aA) .any])])) ym ym;have aI3:=hap;unfold lL at aI3;simp only at aI3;refine aD (A7 q2 hj hs2 hbs u1 @v1 x1) ?_;refine WL.kY (hV trivial) zb zb ?_;refine j9 (A10 hbs h2 gp aI3 y1 y2 y3 y4 y5 y6) ?_;apply SQ.nil;refine aD wj ?_;have a4E:∀id,tok=.own id->id<σ.length:=λid e=>by
    rcases aI2 with⟨_,h⟩ | ⟨_,id',h,h'⟩
    .rw[h]at e;cases e
    .rw[h]at e;simp only[Tok.own.injEq]at e;rw[<-e];exact(yA.1 h').1
   have hA:=aI2.more (τ:=[.box (.agg [.str s1,.int .i64 s2,.int .i64 s3,.slice (sz 3 s4) (s4.map Em.cK.aA) .any])]) |>.MM (λid o e1 e2=>hk2 id o (hdis id e1) e2)
   have hB:∀id,tok=.own id->aQA≠.own id:=λid e1 e2=>by
    rcases hn4 id e2 with e3|e3
    .exact hdis id e1 e3
    .have h4:=a4E id e1;rw[yAa]at e3;omega
   have hC:dL[bd]?=some (.box (.agg [.str d1,.bool d2,.int .i64 d3,.int .i64 d4,.slice (sz 4 d5) (d5.map Em.stop.aA) .any])):=by
    refine hk2 _ _ (λe=>?_) (by rw[yAg (yA.1 hbox).1];exact hbox);rcases dZ with⟨_,h⟩ | ⟨_,id',h,h'⟩
    .rw[h]at e;cases e
    .rw[h]at e;simp only[Tok.own.injEq]at e;rw[e,hbox]at h';cases h'
   rw[show V.length+1=(V++[PD.str (lL ⟨s1,s2,s3,s4⟩)]).length by simp]at aQB;have hV2:V++[PD.str (lL ⟨s1,s2,s3,s4⟩)]=((d5.take (j+1)).map lL).map PD.str:=by rw[HP,hVq];simp
   refine aL.normal (m-1) ym (by refine⟨j+1,1,V++[.str (lL ⟨s1,s2,s3,s4⟩)],aQA,dL,?_⟩;exact fL (⟨ym,hV2,.inr rfl,aQB,hA,hB,hC⟩) @wj)
  .have q2:¬(j:Int)<(d5.length:Int):=by omega
   obtain rfl:j=d5.length:=ym;rw[yBz]at hVq;have hst:(PD.slice z2 V wB).strip=texts.aA (d5.map lL):=by
    rw[hVq,PD.lD,show((d5.map lL).map PD.str).map PD.strip=(d5.map lL).map PD.str by rw[yBc];rfl];rcases fU with h|h
    .rw[hVq]at h;have:d5.map lL=[]:=List.map_eq_nil_iff.1 h;rw[this];rfl
    .exact cz
   have hwl:∀w∈d5.map lL,w.length<=80:=λw hw=>by
    obtain⟨st,hsm,rfl⟩:=yAw.1 hw;obtain⟨_,hn2,hpt,_⟩:=(aAu _ _ _ _).1 (hss st hsm);have hn3:=aBz hn2;have hfl:=aI0 hpt;simp only[lL,yAK,yAa];omega
   have hjl:=aI1 44 hwl;rw[yAe]at hjl;have gj:=a4C (s:=[44]) hst ⟨zx,ym⟩;obtain⟨JJ,hJJ⟩:=gn (Lib.join (d5.map lL) [44]);rw[hJJ]at gj hjl;have hout:EJ ⟨d1,d2,d3,d4,d5⟩=d1++58::JJ:=by simp only[EJ,hJJ]
   obtain⟨y1,y2,y3,y4,y5,y6⟩:=aB hbox;obtain⟨Y,hY⟩:=gn (PD.slice z2 V wB);rw[hY]at gj ⊢;obtain⟨bP,dL,hap,aQC,hk1,hn4⟩:=vD (P:=prog) (t:=55) (e:=9) (k:=1) (b:=16) (s:=z) (xs:=W) (p:=.str (d1++58::JJ)) (tk:=.any) (tok:=tok) underlying55 yp hz aI2 ym ym;refine aD q2 ?_;refine WL.kY (hV trivial) zb zb ?_;refine j9 (A9 h3 gj hap y1 y2 y3 y4 y5 y6) ?_;apply SQ.nil;refine aD wi ?_;rw[show W.length+1=(W++[PD.str (d1++58::JJ)]).length by simp]at aQC;have hW2:W++[PD.str (d1++58::JJ)]=((ds.take (i+1)).map EJ).map PD.str:=by rw[htk,hW];simp[hout]
   refine aL.normal (M-1) ym (by refine⟨i+1,1,W++[.str (d1++58::JJ)],bP,dL,?_⟩;exact fL (⟨ym,hW2,.inr rfl,aQC⟩) @wi)
 .have q1:¬(i:Int)<(ds.length:Int):=by omega
  obtain rfl:i=ds.length:=ym;rw[yBz]at hW;have hst:(PD.slice z W tok).strip=texts.aA (ds.map EJ):=by
   rw[hW,PD.lD,show((ds.map EJ).map PD.str).map PD.strip=(ds.map EJ).map PD.str by rw[yBc];rfl];rcases hz with h|h
   .rw[hW]at h;have:ds.map EJ=[]:=List.map_eq_nil_iff.1 h;rw[this];rfl
   .exact cz
  obtain⟨Y,hY⟩:=gn (PD.slice z W tok);exact nw
end
end Go.Kz
