/- Steps of the proof. -/
import Derived.Test.YteegpeenjdgodaaGreatDoorP5b
set_option linter.all false
set_option maxHeartbeats 40000000
set_option maxRecDepth 100000
open Go.Proofs.Tryz
noncomputable section
namespace Go.Kz
open Go Go.Proofs
section
abbrev GV:Em (List (Int×Int)):=Em.dC.list 2
def uR(k:Nat):List bX->List bX->Int
 |_,[]=>0
 |pre,c::r=>if fN c.name=false then 8 else if pre.any (jX c.name)=true then 9 else if c.dK<0\/(k:Int)<=c.dK\/c.dst<0\/(k:Int)<=c.dst then 10 else if c.shift < -127\/127<c.shift then 3 else if c.dK=c.dst/\c.shift=0 then 7 else uR k (pre++[c]) r
def CN(l:List (Int×Int)):Bool:=l.any λx=>!decide (nG x.1 x.2=0)
def CO(ks:List (Int×Int))(l:List bX):Int:=if 8<ks.length\/40<l.length then 4 else if CN ks=true then 23 else uR ks.length [] l
variable{E:aE}(hU:aJ E)
include hU
theorem aMl(h0:E 64=none)(h1:E 96=some IX)(h2:E 60=some GB)(h3:E 98=some (vL λnm l=>.bool (l.any (jX nm))))(ks:List (Int×Int))(l:List bX)(hks:ks.length<=1000000)(hl:l.length<=1000000)(hn:∀x∈l,lV x.name) :
  aI prog E 64 [GV.aB ks,qM.aB l] (i64.aB (CO ks l)):=by
 unfold CO
 by_cases c1:8<ks.length
 .have c2:8<(ks.length:Int):=by omega
  rw[yAJ (.inl c1)];refine aI.aG 89 h0 func64 (h:=?_);refine aC (A2 c1 c2) ?_;exact ag
 have CU:¬8<(ks.length:Int):=Cj
 by_cases c2:40<l.length
 .have c3:40<(l.length:Int):=by omega
  rw[yAJ (.inr c2)];refine aI.aG 89 h0 func64 (h:=?_);refine aC (A4 c1 CU c2 c3) ?_;exact ag
 have Z0:¬40<(l.length:Int):=Cj;rw[yAI (λh=>h.elim c1 c2)];obtain⟨B,hB⟩:∃B,(if CN ks=true then(23:Int)else uR ks.length [] l)=B:=⟨_,rfl⟩;rw[hB];refine aI.aG 89 h0 func64 (h:=?_);refine aC (A4 c1 CU c2 Z0) ?_;obtain⟨C,hC⟩:=gn (uR ks.length [] l);rw[hC]at hB;refine Wp.dJ (λm fr σ=>∃(i:Nat) (σ1:List aA),∃gg:Nat->PD,(i+m=ks.length/\(if CN (ks.drop i)=true then(23:Int)else C)=B)/\fr=GV.aB ks::qM.aB l::gg 2::gg 3::gg 4::gg 5::gg 6::gg 7::gg 8::gg 9::gg 10::gg 11::gg 12::gg 13::gg 14::gg 15::gg 16::GV.aB ks::.int .i64 ks.length::.int .i64 i::gg 20::gg 21::gg 22::gg 23::gg 24::gg 25::gg 26::gg 27::gg 28::gg 29::gg 30::gg 31::gg 32::gg 33::gg 34::gg 35::gg 36::gg 37::gg 38::gg 39::gg 40::gg 41::gg 42::gg 43::gg 44::gg 45::gg 46::gg 47::gg 48::gg 49::gg 50::gg 51::gg 52::gg 53::gg 54::gg 55::gg 56::gg 57::gg 58::gg 59::gg 60::gg 61::gg 62::gg 63::gg 64::gg 65::gg 66::gg 67::gg 68::gg 69::gg 70::gg 71::gg 72::gg 73::gg 74::gg 75::gg 76::gg 77::gg 78::gg 79::gg 80::gg 81::gg 82::gg 83::gg 84::gg 85::gg 86::gg 87::gg 88::[]/\σ=σ1) ?_ (ks.length) (by refine⟨0,[],?_⟩;exact cE (⟨Cj,hB⟩))
 rintro m fr σ ⟨i,σ1,gg,hI,rfl,rfl⟩
 obtain⟨hm,hs⟩:=hI
 by_cases hi:i<ks.length
 .have q1:(i:Int)<(ks.length:Int):=by omega
  obtain⟨a,ha⟩:=gn (ks[i]);have hc:ks.drop i=a::ks.drop (i+1):=Cv;rw[hc]at hs;obtain⟨a0,a1⟩:=a;have hE:=aAe a0 a1;have j0:∀x:aA,(σ++[x])[σ.length]?=some x:=λx=>Ck
  have hcb:CN ((a0,a1)::ks.drop (i+1))=(!decide (nG a0 a1=0)||CN (ks.drop (i+1))):=rfl;rw[hcb]at hs;obtain⟨e,he⟩:=gn (nG a0 a1);rw[he]at hE hs
  by_cases c3:e=0
  .subst c3;simp only[decide_true,yBQ,yCa]at hs;refine aC (A6 q1 hi ha j0 h1 hE) ?_;refine bM.normal (m-1) Cj (by refine⟨i+1,σ++[.box (.agg [.int .i64 a0,.int .i64 a1])],?_⟩;exact cE (⟨Cj,hs⟩))
  .simp only[c3,decide_false,yCu,yDr,yAK]at hs;subst hs;refine aC (A7 q1 hi ha j0 h1 hE c3) ?_;exact ag
 have q1:¬(i:Int)<(ks.length:Int):=Cj;rw[yAs Cj]at hs;have hs2:C=B:=hs;rw[hs2]at hC;clear hs hs2 hB;refine aC q1 ?_;refine Wp.dJ (λm fr σ=>∃(i:Nat) (σ1:List aA),∃gg:Nat->PD,(i+m=l.length/\uR ks.length (l.take i) (l.drop i)=B)/\fr=GV.aB ks::qM.aB l::gg 2::gg 3::gg 4::gg 5::gg 6::gg 7::gg 8::gg 9::gg 10::gg 11::gg 12::gg 13::gg 14::gg 15::gg 16::gg 17::gg 18::gg 19::gg 20::gg 21::gg 22::gg 23::gg 24::gg 25::gg 26::qM.aB l::.int .i64 l.length::.int .i64 i::gg 30::gg 31::gg 32::gg 33::gg 34::gg 35::gg 36::gg 37::gg 38::gg 39::gg 40::gg 41::gg 42::gg 43::gg 44::gg 45::gg 46::gg 47::gg 48::gg 49::gg 50::gg 51::gg 52::gg 53::gg 54::gg 55::gg 56::gg 57::gg 58::gg 59::gg 60::gg 61::gg 62::gg 63::gg 64::gg 65::gg 66::gg 67::gg 68::gg 69::gg 70::gg 71::gg 72::gg 73::gg 74::gg 75::gg 76::gg 77::gg 78::gg 79::gg 80::gg 81::gg 82::gg 83::gg 84::gg 85::gg 86::gg 87::gg 88::[]/\σ=σ1) ?_ (l.length) (by refine⟨0,σ,?_⟩;exact cE (⟨Cj,hC⟩))
 rintro m fr σ ⟨i,σ1,gg,hI,rfl,rfl⟩
 obtain⟨hm,hs⟩:=hI
 by_cases hi:i<l.length
 .have q1:(i:Int)<(l.length:Int):=by omega
  obtain⟨a,ha⟩:=gn (l[i]);have hc:l.drop i=a::l.drop (i+1):=Cv;have htk:l.take (i+1)=l.take i++[a]:=Hp;have hna:=JP (hn a (ha▸yAm hi));rw[hc]at hs;unfold uR at hs;obtain⟨a0,a1,a2,a3,a4⟩:=a;simp only at hs hna;have j0:∀x:aA,(σ++[x])[σ.length]?=some x:=λx=>Ck
  have hle:i<=l.length:=Cj;cases c3:fN a0 with
  |false=>
   rw[c3]at hna hs;rw[yAJ rfl]at hs;subst hs;refine aC (A6 q1 hi ha j0 h2 hna) ?_;exact ag
  |true=>
  rw[c3]at hna hs;rw[yAI Ck]at hs;obtain⟨X,hX⟩:=gn (aA.box (.agg [.str a0,.int .i64 a1,.int .i64 a2,.int .i64 a3,.bool a4]));have hid:(σ++[X])[σ.length]?=some (.box (.agg [.str a0,.int .i64 a1,.int .i64 a2,.int .i64 a3,.bool a4])):=by rw[hX];exact j0 X
  have aPX:(l.take i=[]\/sz 5 l=5):=.inr (by simp[sz];intro h;rw[h]at hi;simp at hi);have hE:=aFS (f:=λnm l=>.bool (l.any (jX nm))) (z:=sz 5 l) (tok:=.any) aPX Er hid;obtain⟨lY,eC⟩:=gn (σ++[X]++((l.take i).take (lH (jX a0) (l.take i))).map xA);have vW:lY[σ.length]?=some (.box (.agg [.str a0,.int .i64 a1,.int .i64 a2,.int .i64 a3,.bool a4])):=by
   rw[<-eC,yAg Ck,j0 X,hX]
  rw[eC]at hE;obtain⟨hlt2,hxe⟩:=yA.1 vW;rw[<-hX,yCV]at hE;obtain⟨b,hb⟩:=gn ((l.take i).any (jX a0));rw[hb]at hE hs;clear eC hX hid;cases b with
  |true=>
   rw[yAJ rfl]at hs;subst hs;refine aC (A12 q1 hi ha j0 h2 hna @hle h3 hE vW hlt2 hxe) ?_;exact ag
  |false=>
  rw[yAI Ck]at hs
  by_cases c4:a1<0
  .rw[yAJ (.inl c4)]at hs;subst hs;refine aC (A13 q1 hi ha j0 h2 hna @hle h3 hE vW hlt2 hxe c4) ?_;exact ag
  by_cases c5:(ks.length:Int)<=a1
  .rw[yAJ (.inr (.inl c5))]at hs;subst hs;refine aC (A14 q1 hi ha j0 h2 hna @hle h3 hE vW hlt2 hxe c4 c5) ?_;exact ag
  by_cases c6:a2<0
  .rw[yAJ (.inr (.inr (.inl c6)))]at hs;subst hs;refine aC (A15 q1 hi ha j0 h2 hna @hle h3 hE vW hlt2 hxe c4 c5 c6) ?_;exact ag
  by_cases c7:(ks.length:Int)<=a2
  .rw[yAJ (.inr (.inr (.inr c7)))]at hs;subst hs;refine aC (A16 q1 hi ha j0 h2 hna @hle h3 hE vW hlt2 hxe c4 c5 c6 c7) ?_;exact ag
  rw[yAI (λh=>h.elim c4 λh=>h.elim c5 λh=>h.elim c6 c7)]at hs
  by_cases c8:a3 < -127
  .rw[yAJ (.inl c8)]at hs;subst hs;refine aC (A17 q1 hi ha j0 h2 hna @hle h3 hE vW hlt2 hxe c4 c5 c6 c7 c8) ?_;exact ag
  by_cases c9:127<a3
  .rw[yAJ (.inr c9)]at hs;subst hs;refine aC (A18 q1 hi ha j0 h2 hna @hle h3 hE vW hlt2 hxe c4 c5 c6 c7 c8 c9) ?_;exact ag
  rw[yAI (λh=>h.elim c8 c9)]at hs;have hst:uR ks.length (l.take (i+1)) (l.drop (i+1))=uR ks.length (l.take i++[⟨a0,a1,a2,a3,a4⟩]) (l.drop (i+1)):=by rw[htk]
  by_cases vX:a1=a2
  .by_cases AJ:a3=0
   .rw[yAJ ⟨vX,AJ⟩]at hs;subst hs;subst vX;subst AJ;refine aC (A16 q1 hi ha j0 h2 hna @hle h3 hE vW hlt2 hxe c4 c5 c8 c9) ?_;exact ag
   .rw[yAI (λh=>AJ h.2)]at hs;subst vX;refine aC (A17 q1 hi ha j0 h2 hna @hle h3 hE vW hlt2 hxe c4 c5 c8 c9 AJ) ?_;exact qv
  .rw[yAI (λh=>vX h.1)]at hs;refine aC (A19 q1 hi ha j0 h2 hna @hle h3 hE vW hlt2 hxe c4 c5 c6 c7 c8 c9 vX) ?_;exact qv
 .have q1:¬(i:Int)<(l.length:Int):=by omega
  rw[yAs Cj]at hs;have cI:B=0:=hs.symm;exact zg
end
section
def AI(ns:List (List UInt8)):List (PD×PD):=ns.map λn=>(.str n,.bool true)
def kP(ns:List (List UInt8)):aA:=.map (AI ns)
def lX(ns:List (List UInt8))(nm:List UInt8):Bool:=ns.any λn=>nm==n
theorem aFO(nm:List UInt8):∀(ns:List (List UInt8)) (i:Nat),lX ns nm=true->∃j,xM (.str nm) (AI ns) i=some (some (j,.bool true))
 | [],_,h=>Co
 |n::ns,i,h=>by
  cases e:nm==n with
  |true=>exact⟨i,by simp only[AI,yAW,xM,FV,e]⟩
  |false=>
   have h2:lX ns nm=true:=by simpa [lX,yDQ,e]using h
   obtain⟨j,hj⟩:=aFO nm ns (i+1) h2;exact⟨j,by simp only[AI,yAW,xM,FV,e];exact hj⟩
theorem aAf(nm:List UInt8):∀(ns:List (List UInt8)) (i:Nat),lX ns nm=false->xM (.str nm) (AI ns) i=some none
 | [],_,_=>rfl
 |n::ns,i,h=>by
  simp only[lX,yDQ,yDW]at h;simp only[AI,yAW,xM,FV,h.1];exact aAf nm ns (i+1) h.2
theorem SG:(prog).underlying 138=some (.map 9 4):=Cl
theorem aFP(nm:List UInt8):H9 prog 9 (.str nm)=true:=by
 have h:(prog).underlying 9=some .string:=Cl;unfold H9;rw[h]
theorem aPT:fP prog 4=some (.bool false):=by rfl
theorem aFQ{σ:Jp}{id:Nat}{ns:List (List UInt8)}(h:σ[id]?=some (kP ns))(nm:List UInt8):IA prog σ 138 (.gC id) (.str nm) false=some (.bool (lX ns nm)):=by
 unfold IA;simp only[SG,aFP,yAK,h,kP];cases e:lX ns nm with
 |true=>
  obtain⟨j,hj⟩:=aFO nm ns 0 e;simp only[hj];rfl
 |false=>
  simp only[aAf nm ns 0 e,aPT];rfl
theorem aPU{σ:Jp}{id fl:Nat}{ns:List (List UInt8)}(h:σ[id]?=some (kP ns))(hf:fl<=id)(nm:List UInt8)(hn:lX ns nm=false):IB prog fl σ 138 (.gC id) (.str nm) (.bool true)=some (σ.set id (kP (ns++[nm]))):=by
 unfold IB;simp only[SG,aFP,yAK,h,kP,hf,aAf nm ns 0 hn];simp[AI]
variable{E:aE}(hU:aJ E)
include hU
theorem aPV(h0:E 62=none)(fl id:Nat)(ns:List (List UInt8))(nm:List UInt8)(τ:List aA)(h:τ[id]?=some (kP ns))(hn:lX ns nm=true) :
  aK prog E fl (.inl 62) [.gC id,.str nm] τ (λp1 σ1=>p1=.int .i64 9/\σ1=τ):=by
 have hl:=aFQ h nm;rw[hn]at hl;refine aK.aG 10 h0 func62 (h:=?_);refine nH hl ?_;exact ay
theorem aPW(h0:E 62=none)(fl id:Nat)(ns:List (List UInt8))(nm:List UInt8)(τ:List aA)(h:τ[id]?=some (kP ns))(hf:fl<=id)(hn:lX ns nm=false) :
  aK prog E fl (.inl 62) [.gC id,.str nm] τ (λp1 σ1=>p1=.int .i64 0/\σ1=τ.set id (kP (ns++[nm]))):=by
 have hl:=aFQ h nm;rw[hn]at hl;have hp:=aPU h hf nm hn;refine aK.aG 10 h0 func62 (h:=?_);refine nH (A2 hl hp) ?_;exact ay
omit hU in
def EC:List (PD×PD)->Option (List (List UInt8))
 | []=>some []
 |(.str n,.bool true)::r=>match EC r with|some l=>some (n::l)|none=>none
 |_=>none
omit hU in
theorem aFR:∀ {es:List (PD×PD)} {l:List (List UInt8)},EC es=some l->es=AI l
 | [],l,h=>by simp only[EC,yAb]at h;subst h;rfl
 |x::r,l,h=>by
  unfold EC at h;split at h
  .cases ‹_::_=_›
  .rename_i n r' e;simp only[yCv]at e;obtain⟨rfl,rfl⟩:=e;split at h
   .rename_i l' hl;simp only[yAb]at h;subst h;rw[aFR hl];rfl
   .cases h
  .cases h
omit hU in
@[simp] theorem aAg:∀l:List (List UInt8),EC (AI l)=some l
  | []=>rfl
  |n::l=>by
   show EC ((.str n,.bool true)::AI l)=_
   simp only[EC,aAg l]
omit hU in
def xV:Nat->List PD->List aA->Option (PD×List aA):=λfl args σ=>match args with
 | [.gC id,.str nm]=>match σ[id]? with
   |some (.map es)=>match EC es with
    |some ns=>if lX ns nm=true then some (.int .i64 9,σ)else if fl<=id then some (.int .i64 0,σ.set id (kP (ns++[nm])))else none
    |none=>none
   |_=>none
 |_=>none
omit hU in
theorem aAb{fl id:Nat}{ns:List (List UInt8)}{nm:Jr}{σ:Jp}(h:σ[id]?=some (kP ns))(hn:lX ns nm=true):xV fl [.gC id,.str nm] σ=some (.int .i64 9,σ):=by
 unfold xV;simp only[h,kP,aAg,hn,yAK]
omit hU in
theorem aAc{fl id:Nat}{ns:List (List UInt8)}{nm:Jr}{σ:Jp}(h:σ[id]?=some (kP ns))(hn:lX ns nm=false)(hf:fl<=id):xV fl [.gC id,.str nm] σ=some (.int .i64 0,σ.set id (kP (ns++[nm]))):=by
 unfold xV;simp only[h,kP,aAg,hn,hf,yAK];rfl
theorem aMn(hE:aF prog E)(h0:E 62=none):aF prog (E.add 62 xV):=
 hE.add Cl λfl args σ p σ' h=>by
  unfold xV at h;split at h
  .rename_i id nm;split at h
   .rename_i es hes;split at h
    .rename_i ns hns;have hm:σ[id]?=some (kP ns):=by rw[hes,aFR hns];rfl
     split at h
     .rename_i hs;simp only[yAb,yAc]at h;obtain⟨rfl,rfl⟩:=h;exact aK.w9 (aPV hU h0 fl id ns nm σ hm hs)
     .rename_i hs;split at h
      .rename_i hf;simp only[yAb,yAc]at h;obtain⟨rfl,rfl⟩:=h;exact aK.w9 (aPW hU h0 fl id ns nm σ hm hf (by simpa using hs))
      .cases h
    .cases h
   .cases h
  .cases h
end
section
def AH(rs:List bH)(lo hg:Int):List (List UInt8)->List cJ->Int
 |_,[]=>0
 |ns,s::r=>if s5 rs lo hg s≠0 then s5 rs lo hg s else if lX ns s.name=true then 9 else AH rs lo hg (ns++[s.name]) r
def s6(rs:List bH)(d:bI):Int:=if nG d.low d.high≠0 then nG d.low d.high else if 60<d.stops.length then 4 else AH rs d.low d.high [] d.stops
def GU(s:cJ):Prop:=jQ s/\lV s.name
def Q9:Nat->List PD->List aA->Option (PD×List aA):=entry (eM Em.place Em.stop i64 λx s=>dY (CP x.1/\GU s) (some (s5 x.1 x.2.1 x.2.2 s)))
theorem aPS{rs:List bH}{s:cJ}(h:CP rs)(hs:GU s)(lo hg:Int)(fl:Nat)(σ:List aA):Q9 fl [.agg [aR.aB rs,.int .i64 lo,.int .i64 hg],Em.stop.aB s] σ=some (.int .i64 (s5 rs lo hg s),σ):=by
 have e1:=Em.cT (Em.place.str (rs,lo,hg));rw[aAd]at e1;have e2:=Em.cT (Em.stop.str s);unfold Q9 entry eM;simp only[e1,e2];rw[fM ⟨h,hs⟩];rfl
variable{E:aE}(hU:aJ E)
include hU
theorem aMp(h0:E 63=none)(h1:E 96=some IX)(h2:E 97=some Q9)(h3:E 62=some xV)(o:aV)(hrs:CP o.aR)(d:bI)(hd:d.stops.length<=1000000/\∀s∈d.stops,GU s) :
  aI prog E 63 [Em.bB.aB o,Em.div.aB d] (i64.aB (s6 o.aR d)):=by
 obtain⟨on,rs,od,oc⟩:=o;obtain⟨dn,dp,lo,hg,l⟩:=d;have hC:=aAe lo hg;obtain⟨hdl,hds⟩:=hd;simp only at hrs hdl hds;unfold s6;simp only[dT,nL,aU];obtain⟨c,hc⟩:=gn (nG lo hg);rw[hc]at hC ⊢
 by_cases c1:c=0
 rotate_left
 .rw[yAJ c1];refine aI.aG 47 h0 func63 (h:=?_);refine nH (A3 h1 hC c1) ?_;exact ag
 subst c1;simp only[ne_eq,yBM,yAN]
 by_cases c2:60<l.length
 .have c3:60<(l.length:Int):=by omega
  rw[yAJ c2];refine aI.aG 47 h0 func63 (h:=?_);refine nH (A4 h1 hC c2 c3) ?_;exact ag
 have c3:¬60<(l.length:Int):=Cj;rw[yAI c2];obtain⟨B,hB⟩:=gn (AH rs lo hg [] l);rw[hB];have us:=SG;refine aI.aG 47 h0 func63 (h:=?_);refine nH (A5 h1 hC c2 c3 @us) ?_;obtain⟨X,hX⟩:=gn (aA.box (.agg [.str on,.slice (sz 6 rs) (rs.map Em.aL.aB) .any,.slice (sz 5 od) (od.map Em.div.aB) .any,.slice (sz 5 oc) (oc.map Em.aZ.aB) .any]));obtain⟨Y,hY⟩:=gn (aA.box (.agg [.str dn,.bool dp,.int .i64 lo,.int .i64 hg,.slice (sz 4 l) (l.map Em.stop.aB) .any]));refine Wp.dJ (λm fr σ=>∃(i:Nat) (σ1:List aA),∃gg:Nat->PD,(i+m=l.length/\σ1[0]?=some X/\σ1[1]?=some Y/\σ1[2]?=some (kP ((l.take i).map cJ.name))/\AH rs lo hg ((l.take i).map cJ.name) (l.drop i)=B)/\fr=[gg 0,gg 1,.ptr 0 0,.ptr 1 0,gg 4,gg 5,.gC 2,gg 7,gg 8,gg 9,gg 10,gg 11,gg 12,gg 13,gg 14,gg 15,gg 16,gg 17,gg 18,gg 19,gg 20,gg 21,gg 22,oC.aB l,.int .i64 l.length,.int .i64 i,gg 26,gg 27,gg 28,gg 29,gg 30,gg 31,gg 32,gg 33,gg 34,gg 35,gg 36,gg 37,gg 38,gg 39,gg 40,gg 41,gg 42,gg 43,gg 44,gg 45,gg 46]/\σ=σ1) ?_ (l.length) (by refine⟨0,[X,Y,.map []],?_⟩;exact fQ (⟨Cj,rfl,rfl,rfl,hB⟩) (A2 hX hY))
 rintro m fr σ ⟨i,σ1,gg,hI,rfl,rfl⟩
 obtain⟨hm,hx0,hy0,DJ,hs⟩:=hI
 by_cases hi:i<l.length
 .have q1:(i:Int)<(l.length:Int):=by omega
  obtain⟨a,ha⟩:=gn (l[i]);have NH:l.drop i=a::l.drop (i+1):=Cv;have htk:(l.take (i+1)).map cJ.name=(l.take i).map cJ.name++[a.name]:=by rw[yBK hi,ha,yAH];rfl
  have hE:=aPS hrs (hds a (ha▸yAm hi)) lo hg;rw[NH]at hs;unfold AH at hs;have hx1:=hx0;have hy1:=hy0;rw[<-hX]at hx1;rw[<-hY]at hy1;obtain⟨gY,hxe⟩:=yA.1 hx1;obtain⟨mA,hye⟩:=yA.1 hy1;obtain⟨hlt2,hze⟩:=yA.1 DJ;obtain⟨a0,a1,a2,a3⟩:=a;have j0:∀x:aA,(σ++[x])[σ.length]?=some x:=λx=>Ck
  obtain⟨e,he⟩:=gn (s5 rs lo hg ⟨a0,a1,a2,a3⟩);rw[he]at hE hs;simp only[pZ,aU]at hE;simp only at hs htk
  by_cases c4:e=0
  rotate_left
  .rw[yAJ c4]at hs;subst hs;refine nH (A13 q1 hi ha j0 hx1 hy1 gY mA hxe hye h2 hE c4) ?_;exact ag
  subst c4;simp only[ne_eq,yBM,yAN]at hs;obtain⟨Z,hZ⟩:=gn (aA.box (.agg [.str a0,.int .i64 a1,.int .i64 a2,.slice (sz 3 a3) (a3.map Em.eZ.aB) .any]));have hmz:(σ++[Z])[2]?=some (kP ((l.take i).map cJ.name)):=by rw[yAg hlt2];exact DJ
  cases hb:lX ((l.take i).map cJ.name) a0 with
  |true=>
   rw[hb]at hs;rw[yAJ rfl]at hs;subst hs;have hA:=λfl=>aAb (fl:=fl) hmz hb
   rw[<-hZ]at hA;refine nH Bx ?_;exact ag
  |false=>
   rw[hb]at hs;rw[yAI Ck]at hs;have hA:=aAc (fl:=0) hmz hb (yAF _);obtain⟨lY,eC⟩:=gn ((σ++[Z]).set 2 (kP ((l.take i).map cJ.name++[a0])));have t0:lY[0]?=some X:=by rw[<-eC,yAd Cj,yAg gY];exact hx0
   have t1:lY[1]?=some Y:=by rw[<-eC,yAd Cj,yAg mA];exact hy0
   have t2:lY[2]?=some (kP ((l.take i).map cJ.name++[a0])):=by rw[<-eC];exact yAj Cu
   rw[eC]at hA;rw[<-hZ]at hA;clear eC;refine nH Bx ?_;refine bM.normal (m-1) Cj (by refine⟨i+1,lY,?_⟩;exact cE (⟨Cj,t0,t1,by rw[htk];exact t2,by rw[htk];exact hs⟩))
 .have q1:¬(i:Int)<(l.length:Int):=by omega
  rw[yAs Cj]at hs;have cI:B=0:=hs.symm;refine nH q1 ?_;exact aq
end
section
theorem aPw(n:Int)(h:gG n):jD prog 96 (.slice 1 [.str [79,112,101,110],.str [70,108,117,116,101],.str [82,101,101,100]] .full) (.int .u8 (n.tmod 3))=some (.fK [.str (CM n)] 0):=by
 obtain⟨k,rfl⟩:∃k:Nat,n=k:=⟨n.toNat,by have:=h.1;omega⟩;have hm:(k:Int).tmod 3=((k%3:Nat):Int):=rfl;have hs:CM k=GR.getD (k%3) []:=by
  unfold CM
  congr 1
 rw[hm,hs];have hlt:k%3<3:=yBA _ Cn
 generalize k%3=j at hlt
 match j,hlt with
 |0,_=>exact rfl
 |1,_=>exact rfl
 |2,_=>exact rfl
theorem aPx(x:oA)(k:Nat)(hk:k<=1000)(id off:Nat):jD prog 101 (.ptr id off) (.int .i64 ((k:Int).tmod 5))=some (.ptr id (off+k%5)) /\
  [PD.int .u8 x.kH,.int .u8 x.dC,.int .i8 x.first,.int .u8 x.AU,.int .u8 x.w0,.int .u8 x.w1,.int .u8 x.w2,.int .u8 x.w3,.int .u8 x.w4][4+k%5]?=some (.int .u8 (x8 x k)):=by
 have hm:(k:Int).tmod 5=((k%5:Nat):Int):=rfl;have hs:x8 x k=[x.w0,x.w1,x.w2,x.w3,x.w4].getD (k%5) 0:=rfl;rw[hm,hs];have hlt:k%5<5:=yBA _ Cn
 generalize k%5=j at hlt
 match j,hlt with
 |0,_=>exact⟨rfl,rfl⟩
 |1,_=>exact⟨rfl,rfl⟩
 |2,_=>exact⟨rfl,rfl⟩
 |3,_=>exact⟨rfl,rfl⟩
 |4,_=>exact⟨rfl,rfl⟩
variable{E:aE}(hU:aJ E)
include hU
theorem aMX(h0:E 30=none)(h1:E 67=some (entry (cK kI Em.dC λn=>dY (gG n) (some (pO n)))))(x:oA)(hx:CV x)(i:Nat)(hi:i<10) :
  aI prog E 30 [Em.xG.aB x,.int .i64 i] (Em.aL.aB (uO x i)):=by
 have hw:=aPx x;have hwl:∀k,(x9 x k).length=k:=λk=>by simp[x9]
 have hws:∀k,x9 x (k+1)=x9 x k++[x8 x k]:=λk=>by simp[x9,yDm]
 have hwb:∀k,0<=x8 x k/\x8 x k<=255:=λk=>by
  have hlt:k%5<5:=yBA _ Cn;exact jk
 obtain⟨W,hW⟩:=gn (x9 x);obtain⟨wa,hwa⟩:=gn (x8 x);obtain⟨dg,hdg⟩:=gn (UInt8.ofNat (48+(i:Int)).toNat);have hR:uO x i=⟨[82,dg],CM x.kH,(pO x.dC).1,(pO x.dC).2,x.first,W (1+(x.AU%25).toNat)⟩:=by
  rw[<-hW];unfold uO digit;rw[Nat.mod_eq_of_lt hi,<-hdg,show(48+(i:Int)).toNat=48+i by omega]
 rw[hR];rw[hwa]at hw hws hwb;rw[hW]at hws hwl;clear hR hW hwa;obtain⟨t,f,fi,pi,w0,w1,w2,w3,w4⟩:=x;obtain⟨ht,hf,hfi,hpi,g0,g1,g2,g3,g4⟩:=hx;simp only at hw ht hf hfi hpi;obtain⟨p,rfl⟩:∃p:Nat,pi=p:=⟨pi.toNat,by have:=hpi.1;omega⟩;have aWD:p%25<25:=yBA _ Cn;obtain⟨N,hN⟩:=gn (p%25);have e1:((p:Int)).tmod 25=(N:Int):=by rw[<-hN];rfl
 have e2:IntKind.i64.wrap (N:Int)=(N:Int):=Cq;have e3:IntKind.i64.wrap (1+(N:Int))=1+(N:Int):=Cq;have e4:((p:Int)%25).toNat=N:=Cj;simp only[aBr,oB,aU,e4];have hT:=aPw t ht;have d1:((i:Int)).tmod 10=(i:Int):=Int.tmod_eq_of_lt Cj Cj;have d2:IntKind.i64.wrap (48+(i:Int))=48+(i:Int):=Cq;have d3:IntKind.u8.wrap (48+(i:Int))=48+(i:Int):=Ct;have d4:IntKind.i64.wrap fi=fi:=by have:=hfi.1;have:=hfi.2;rw[yAP];omega
 have hF:∀fl σ,entry (cK kI Em.dC λn=>dY (gG n) (some (pO n))) fl [.int .u8 f] σ=some (.agg [.int .i64 (pO f).1,.int .i64 (pO f).2],σ):=λfl σ=>by
  exact tw
 refine aI.aG 48 h0 func30 (h:=?_);refine aC (A8 h1 hT @d1 @d2 @d3 @d4 hdg hF) ?_;have NC:W 0=[]:=yAf (hwl 0);refine Wp.dJ (λm fr σ=>∃(k z:Nat),∃gg:Nat->PD,(k+m=1+N/\(W k=[]\/z=1))/\fr=[gg 0,gg 1,.ptr 0 0,gg 3,.ptr 1 0,.ptr 2 0,.int .i64 k,gg 7,gg 8,gg 9,gg 10,gg 11,gg 12,gg 13,gg 14,gg 15,gg 16,gg 17,gg 18,gg 19,gg 20,gg 21,gg 22,gg 23,gg 24,gg 25,gg 26,gg 27,gg 28,gg 29,gg 30,gg 31,gg 32,gg 33,gg 34,gg 35,gg 36,gg 37,gg 38,gg 39,gg 40,gg 41,gg 42,gg 43,gg 44,gg 45,gg 46,gg 47]/\σ=St [.box (.agg [.int .u8 t,.int .u8 f,.int .i8 fi,.int .u8 p,.int .u8 w0,.int .u8 w1,.int .u8 w2,.int .u8 w3,.int .u8 w4]),.box (.agg [.str [],.str [],.int .i64 0,.int .i64 0,.int .i64 0,.slice 0 [] .full]),.box (.agg [.str [82,dg],.str (CM t),.int .i64 (pO f).1,.int .i64 (pO f).2,.int .i64 fi,.slice z ((W k).map i64.aB) (iM 3 (W k).length)])] 3 1 (W k).length) ?_ (1+N) (by refine⟨0,0,?_⟩;exact p6 (⟨Cj,.inl NC⟩) Fu Fu)
 rintro m fr σ ⟨k,z,gg,hI,rfl,rfl⟩
 obtain⟨hm,hz⟩:=hI
 by_cases hk:k<1+N
 .have q1:(k:Int)<1+(N:Int):=by omega
  obtain⟨hw1,oK⟩:=hw k Cj 0 4;obtain⟨aWE,L3⟩:=yA.1 oK;have hb1:IntKind.i64.wrap (wa k)=wa k:=by have:=hwb k;rw[yAP];omega
  have hl:=hwl k;refine aC (A10 e1 e2 e3 q1 hw1 oK L3 hb1 @hz hl) ?_;refine bM.normal (m-1) Cj (by refine⟨k+1,1,?_⟩;exact fQ (⟨Cj,.inr rfl⟩) (A2 hws hl))
 .have q1:¬(k:Int)<1+(N:Int):=by omega
  obtain rfl:k=1+N:=Cj;refine aC (A4 e1 e2 e3 q1) ?_;have hne:W (1+N)≠[]:=λh=>by have:=hwl (1+N);rw[h]at this;simp at this;omega
  have hz1:z=1:=hz.resolve_left hne;subst hz1;simp(disch:=first|omega|(simp;done)|(simp;omega)) [yAu,hwl,tK hne]<;>try rfl
end
section
theorem ZX(n:Int)(h:gG n):nY n∈EA:=by
 obtain⟨k,rfl⟩:∃k:Nat,n=k:=⟨n.toNat,by have:=h.1;omega⟩;have hs:nY k=EA.getD (k%6) (8,1):=by
  unfold nY
  congr 1
 rw[hs];have hlt:k%6<6:=yBA _ Cn
 generalize k%6=j at hlt
 match j,hlt with
 |0,_=>decide
 |1,_=>decide
 |2,_=>decide
 |3,_=>decide
 |4,_=>decide
 |5,_=>decide
theorem aPq(n:Int)(h:gG n):pO n∈rV:=by
 obtain⟨k,rfl⟩:∃k:Nat,n=k:=⟨n.toNat,by have:=h.1;omega⟩;have hs:pO k=rV.getD (k%16) (8,1):=by
  unfold pO
  congr 1
 rw[hs];have hlt:k%16<rV.length:=yBA _ Cn;rw[yAA,yAh hlt];exact yAm hlt
theorem ZY(a b:Int×Int):-60<=w8 a b/\w8 a b<=64:=by
 unfold w8;cases h:ZZ.find? λt=>decide (t.1=a)&&decide (t.2.1=b)with
 |none=>exact⟨Cn,Cn⟩
 |some t=>
  have hm:=List.mem_of_find?_eq_some h;exact(by decide:∀t∈ZZ,-60<=t.2.2/\t.2.2<=64) t hm
def GC:Nat->List PD->List aA->Option (PD×List aA):=entry (eM Em.dC Em.dC (Em.nT i64 i64) λa b=>dY (a∈EA/\b∈rV) (some (w8 a b,0)))
theorem aFy{a b:Int×Int}(ha:a∈EA)(hb:b∈rV)(fl:Nat)(σ:List aA):GC fl [.agg [.int .i64 a.1,.int .i64 a.2],.agg [.int .i64 b.1,.int .i64 b.2]] σ=some (.aH [.int .i64 (w8 a b),.int .i64 0],σ):=by
 have e1:Em.dC.dec (.agg [.int .i64 a.1,.int .i64 a.2])=some a:=Em.cT (Em.dC.str a);have e2:Em.dC.dec (.agg [.int .i64 b.1,.int .i64 b.2])=some b:=Em.cT (Em.dC.str b);unfold GC entry eM;simp only[e1,e2];rw[fM ⟨ha,hb⟩];rfl
variable{E:aE}(hU:aJ E)
include hU
theorem aPu(h0:E 31=none)(h1:E 68=some (entry (cK kI Em.dC λn=>dY (gG n) (some (nY n)))))(h2:E 69=some GC)
  (rs:List bH) (hrs:∀r∈rs,(r.num,r.den)∈rV) (nU:1<=rs.length) (zF:rs.length<=60) (lo hg:Int) (hlo:0<=lo) (hlh:lo<=hg) (hhg:hg<=200) (x:qI) (hx:EW x) (i:Nat) (aWC:i<10) :
  aI prog E 31 [aR.aB rs,.agg [.int .i64 lo,.int .i64 hg],Em.pull.aB x,.int .i64 i] (Em.stop.aB (vR rs lo hg x i)):=by
 obtain⟨r,f,k,a⟩:=x;obtain⟨hr,hf,hk,ha⟩:=hx;simp only at hr hf hk ha;obtain⟨r,rfl⟩:∃q:Nat,r=q:=⟨r.toNat,by have:=hr.1;omega⟩;obtain⟨k,rfl⟩:∃q:Nat,k=q:=⟨k.toNat,by have:=hk.1;omega⟩;obtain⟨a,rfl⟩:∃q:Nat,a=q:=⟨a.toNat,by have:=ha.1;omega⟩;have hrb:=hr.2;have hab:=ha.2;obtain⟨n,hn⟩:=gn (r%rs.length);have hnl:n<rs.length:=by rw[<-hn];exact yBA _ nU
 obtain⟨m,hm⟩:=gn ((n+1)%rs.length);have hml:m<rs.length:=by rw[<-hm];exact yBA _ nU
 have c1:(r:Int).tmod (rs.length:Int)=n:=by rw[<-hn];rfl
 have CU:(r:Int)%(rs.length:Int)=n:=by rw[<-hn];rfl
 have c2:((n:Int)+1).tmod (rs.length:Int)=m:=by rw[<-hm];rfl
 have Z0:((n:Int)+1)%(rs.length:Int)=m:=by rw[<-hm];rfl
 obtain⟨j,hj⟩:=gn (k%6);have hj6:j<6:=by rw[<-hj];exact yBA _ Cn
 have c3:(k:Int).tmod 6=(j:Int):=by rw[<-hj];rfl
 have Z1:(k:Int)%6=(j:Int):=by rw[<-hj];rfl
 obtain⟨w,hw⟩:∃w:Nat,hg-lo+1=w:=⟨(hg-lo+1).toNat,Cj⟩;obtain⟨u,hu⟩:=gn (a%w);have huw:u<w:=by rw[<-hu];exact yBA _ Cj
 have c4:(a:Int).tmod (w:Int)=u:=by rw[<-hu];rfl
 have uQ:(a:Int)%(w:Int)=u:=by rw[<-hu];rfl
 obtain⟨q,hq⟩:=gn (rs[n]);obtain⟨p,hp⟩:=gn (rs[m]);have hqf:=hrs q (hq▸yAm hnl);have hpf:=hrs p (hp▸yAm hml);have hF1:EB rs n=(q.num,q.den):=by unfold EB;rw[yAA,yAh hnl,hq];rfl
 have hF2:EB rs m=(p.num,p.den):=by unfold EB;rw[yAA,yAh hml,hp];rfl
 obtain⟨sh,hsh⟩:=gn (w8 (nY f) (q.num,q.den));obtain⟨st,hst⟩:=gn (w8 (nY f) (p.num,p.den));have Z2:=aFy (ZX f hf) hqf;have SB:=aFy (ZX f hf) hpf;rw[hsh]at Z2;rw[hst]at SB;obtain⟨dg,hdg⟩:=gn (UInt8.ofNat (48+(i:Int)).toNat);have hR:vR rs lo hg ⟨r,f,k,a⟩ i=⟨[83,dg],(nY f).1,(nY f).2,s4 j n sh lo hg (lo+u) m st⟩:=by
  unfold vR digit;simp only[CU,Z0,Z1,hw,uQ,yBp,hF1,hF2,hsh,hst,<-hdg,show(48+(i:Int)).toNat=48+i by omega]
 rw[hR];have aPv:-60<=sh/\sh<=64:=hsh▸ZY _ _
 clear hR hF1 hF2 hsh hst;obtain⟨q0,q1,q2,q3,q4,q5⟩:=q;obtain⟨p0,p1,p2,p3,p4,p5⟩:=p;simp only at Z2 SB;have d2:IntKind.i64.wrap (48+(i:Int))=48+(i:Int):=Cq;have d3:IntKind.u8.wrap (48+(i:Int))=48+(i:Int):=Ct;have d4:IntKind.i64.wrap (r:Int)=r:=Cq;have d5:IntKind.i64.wrap (a:Int)=a:=Cq;have d6:IntKind.i64.wrap (hg-lo)=hg-lo:=Cq;have d7:IntKind.i64.wrap (hg-lo+1)=w:=Cq;have d8:IntKind.i64.wrap (lo+(u:Int))=lo+u:=Cq;have d9:¬(rs.length:Int)=0:=Cj;have d10:¬(w:Int)=0:=Cj;have d11:¬rs=[]:=λh=>by rw[h]at nU;simp at nU
 have d12:¬w=0:=Cj;have hF:∀fl σ,entry (cK kI Em.dC λn=>dY (gG n) (some (nY n))) fl [.int .u8 f] σ=some (.agg [.int .i64 (nY f).1,.int .i64 (nY f).2],σ):=λfl σ=>by
  exact tw
 simp only[aBs,pZ,aU];refine aI.aG 158 h0 func31 (h:=?_);refine aC (A20 h1 h2 c1 c3 c4 @d2 @d3 @d4 @d5 @d6 @d7 @d8 @d9 @d10 @d11 @d12 hF Z2 hnl (A2 @hq hdg)) ?_;have hsb:-60<=sh/\sh<=64:=aPv;have b1:IntKind.i64.wrap (sh+7)=sh+7:=Cq;have b2:IntKind.i64.wrap (sh-12)=sh-12:=Cq;have b3:IntKind.i64.wrap (lo+(u:Int)-1)=lo+u-1:=Cq;have b4:IntKind.i64.wrap ((n:Int)+1)=(n:Int)+1:=Cq
 match j,hj6 with
 |0,_=>
  exact fe
 |1,_=>
  exact fe
 |2,_=>
  exact fe
 |3,_=>
  by_cases CL:lo<lo+(u:Int)
  .exact Bk
  .exact Bk
 |4,_=>
  by_cases CL:lo<lo+(u:Int)
  .refine aC (A5 b1 b2 b3 c3 CL) ?_;exact de
  .refine aC (A5 b1 b2 b3 c3 CL) ?_;exact de
 |5,_=>
  exact fe
end
section
theorem aPj(R:List oA)(i:Nat)(a:oA)(hi:i<R.length)(ha:R[i]=a):iI R (i+1)=iI R i++[uO a i]:=by
 unfold iI;exact qk
theorem aFv(R:List oA)(i:Nat):(iI R i).length=i:=by simp[iI]
def RD:Nat->List PD->List aA->Option (PD×List aA):=entry (eM Em.xG i64 Em.aL λx i=>dY (CV x/\0<=i/\i<10) (some (uO x i.toNat)))
theorem aPk{x:oA}{i:Nat}(hx:CV x)(hi:i<10)(fl:Nat)(σ:List aA):RD fl [Em.xG.aB x,.int .i64 i] σ=some (Em.aL.aB (uO x i),σ):=by
 have e2:i64.dec (.int .i64 (i:Int))=some (i:Int):=Em.cT rfl;unfold RD entry eM;simp only[Em.aBJ,e2];rw[fM ⟨hx,Cj,Cj⟩];rfl
theorem aPl(rs:List bH)(D:List r8)(i:Nat)(a:r8)(hi:i<D.length)(ha:D[i]=a):lU rs D (i+1)=lU rs D i++[AB rs a i]:=by
 unfold lU;exact qk
theorem aFw(rs:List bH)(D:List r8)(i:Nat):(lU rs D i).length=i:=by simp[lU]
theorem aPm(rs:List bH)(lo hg:Int)(L:List qI)(i:Nat)(a:qI)(hi:i<L.length)(ha:L[i]=a):vQ rs lo hg L (i+1)=vQ rs lo hg L i++[vR rs lo hg a i]:=by
 unfold vQ;exact qk
theorem aPn(rs:List bH)(lo hg:Int)(L:List qI)(i:Nat):(vQ rs lo hg L i).length=i:=by simp[vQ]
theorem aPo(n:Nat)(L:List tB)(i:Nat)(a:tB)(hi:i<L.length)(ha:L[i]=a):mO n L (i+1)=mO n L i++[JI n a i]:=by
 unfold mO;exact qk
theorem ZR(n:Nat)(L:List tB)(i:Nat):(mO n L i).length=i:=by simp[mO]
theorem lK.ne{σ:Jp}{tok:Tok}{e:TypeId}{k n id:Nat}{o:aA}(h:lK σ tok e k n)(ho:σ[id]?=some o)(hn:mK (some o)):tok≠.own id:=by
 rintro rfl
 rcases h with⟨_,h⟩ | ⟨_,id',h,h2⟩
 .cases h
 .simp only[Tok.own.injEq]at h;subst h;rw[ho,yAb]at h2;subst h2;exact hn
theorem lK.set{σ:Jp}{tok:Tok}{e:TypeId}{k n id:Nat}{o x:aA}(h:lK σ tok e k n)(ho:σ[id]?=some o)(hn:mK (some o)):lK (σ.set id x) tok e k n:=
 h.aM λj o' ej hj=>by
  have:id≠j:=λe=>h.ne ho hn (by rw[ej,e])
  rw[yAd this];exact hj
theorem bG{σ τ:Jp}{i:Nat}{o:aA}(h:σ[i]?=some o):(σ++τ)[i]?=some o:=by
 exact uq
def ZS:List PD->Option PD:=λargs=>match args with
 | [a,b,c,d]=>match aR.dec a,Em.dC.dec b,Em.pull.dec c,i64.dec d with
   |some rs,some lh,some x,some i=>dY ((∀r∈rs,(r.num,r.den)∈rV)/\1<=rs.length/\rs.length<=60/\0<=lh.1/\lh.1<=lh.2/\lh.2<=200/\EW x/\0<=i/\i<10) (some (Em.stop.aB (vR rs lh.1 lh.2 x i.toNat)))
   |_,_,_,_=>none
 |_=>none
def MI:Nat->List PD->List aA->Option (PD×List aA):=entry ZS
theorem aPp{W:PD}{rs:List bH}{lo hg:Int}{x:qI}{i:Nat}(hW:W.strip=aR.aB rs)(hr:∀r∈rs,(r.num,r.den)∈rV)(h1:1<=rs.length)(h2:rs.length<=60)(hlo:0<=lo)(hlh:lo<=hg)(hhg:hg<=200)(hx:EW x)(hi:i<10)(fl:Nat)(σ:List aA) :
  MI fl [W,.agg [.int .i64 lo,.int .i64 hg],Em.pull.aB x,.int .i64 i] σ=some (Em.stop.aB (vR rs lo hg x i),σ):=by
 have e1:aR.dec W=some rs:=Em.cT hW;have e2:Em.dC.dec (.agg [.int .i64 lo,.int .i64 hg])=some (lo,hg):=Em.cT (Em.dC.str (lo,hg));have e3:i64.dec (.int .i64 (i:Int))=some (i:Int):=Em.cT rfl;unfold MI entry ZS;simp only[e1,e2,e3,Em.aBJ];rw[fM ⟨hr,h1,h2,hlo,hlh,hhg,hx,Cj,Cj⟩];rfl
variable{E:aE}(hU:aJ E)
include hU
theorem aM1(h0:E 13=none)(h1:E 30=some RD)(h2:E 31=some MI)(p:pF)(hp:tA p)(hf:mF p=true):aI prog E 13 [Em.dQ.aB p] (Em.bB.aB (fU p)):=by
 obtain⟨R,D,C⟩:=p;have CI:=hf;simp only[mF,yAr,yCb]at CI;obtain⟨⟨⟨⟨⟨hR1,hR3⟩,GP⟩,hD3⟩,hC3⟩,vU⟩:=CI;obtain⟨hpR,hpD,hpC⟩:=hp;simp only at hpR hpD hpC;simp only[qL,dT,aU];refine aI.aG 153 h0 func13 (h:=?_);refine aC trivial ?_;refine Wp.dJ (λm fr σ=>∃(i z:Nat),∃gg:Nat->PD,(i+m=R.length/\(iI R i=[]\/z=6))/\fr=gg 0::.ptr 0 0::.ptr 1 0::.ptr 2 0::.int .i64 i::gg 5::gg 6::gg 7::gg 8::gg 9::gg 10::gg 11::gg 12::gg 13::gg 14::gg 15::gg 16::gg 17::gg 18::gg 19::gg 20::gg 21::gg 22::gg 23::gg 24::gg 25::gg 26::gg 27::gg 28::gg 29::gg 30::gg 31::gg 32::gg 33::gg 34::gg 35::gg 36::gg 37::gg 38::gg 39::gg 40::gg 41::gg 42::gg 43::gg 44::gg 45::gg 46::gg 47::gg 48::gg 49::gg 50::gg 51::gg 52::gg 53::gg 54::gg 55::gg 56::gg 57::gg 58::gg 59::gg 60::gg 61::gg 62::gg 63::gg 64::gg 65::gg 66::gg 67::gg 68::gg 69::gg 70::gg 71::gg 72::gg 73::gg 74::gg 75::gg 76::gg 77::gg 78::gg 79::gg 80::gg 81::gg 82::gg 83::gg 84::gg 85::gg 86::gg 87::gg 88::gg 89::gg 90::gg 91::gg 92::gg 93::gg 94::gg 95::gg 96::gg 97::gg 98::gg 99::gg 100::gg 101::gg 102::gg 103::gg 104::gg 105::gg 106::gg 107::gg 108::gg 109::gg 110::gg 111::gg 112::gg 113::gg 114::gg 115::gg 116::gg 117::gg 118::gg 119::gg 120::gg 121::gg 122::gg 123::gg 124::gg 125::gg 126::gg 127::gg 128::gg 129::gg 130::gg 131::gg 132::gg 133::gg 134::gg 135::gg 136::gg 137::gg 138::gg 139::gg 140::gg 141::gg 142::gg 143::gg 144::gg 145::gg 146::gg 147::gg 148::gg 149::gg 150::gg 151::gg 152::[]/\σ=St [.box (.agg [.slice (sz 9 R) (R.map Em.xG.aB) .any,.slice (sz 4 D) (D.map Em.CW.aB) .any,.slice (sz 4 C) (C.map Em.link.aB) .any]),.box (.agg [.str [],.slice 0 [] .full,.slice 0 [] .full,.slice 0 [] .full]),.box (.agg [.str [79,114,103,97,110],.slice z ((iI R i).map Em.aL.aB) (iM 3 (iI R i).length),.slice 0 [] .full,.slice 0 [] .full])] 48 6 (iI R i).length) ?_ (R.length) (by refine⟨0,0,?_⟩;exact p6 (⟨Cj,.inl rfl⟩) Fv Fv)
 rintro m fr σ ⟨i,z,gg,hI,rfl,rfl⟩
 obtain⟨hm,hz⟩:=hI
 by_cases hi:i<R.length
 .have q1:(i:Int)<(R.length:Int):=by omega
  obtain⟨a,ha⟩:=gn (R[i]);have hs:=aPj R i a hi ha;have hl:=aFv R i;have hG:=aPk (i:=i) (hpR a (ha▸yAm hi)) Cj;obtain⟨q,hq⟩:=gn (uO a i);rw[hq]at hG hs;obtain⟨L,hL⟩:=gn (iI R i);rw[hL]at hz hl hs ⊢;obtain⟨q0,ZT,q2,q3,q4,q5⟩:=q;obtain⟨a0,a1,a2,a3,a4,a5,a6,a7,a8⟩:=a;simp only[aBr,oB,aU]at hG;refine aC (A7 q1 hi ha h1 hG @hz hl) ?_;refine bM.normal (m-1) Cj (by refine⟨i+1,6,?_⟩;exact fQ (⟨Cj,.inr rfl⟩) (A2 hs hl))
 .have q1:¬(i:Int)<(R.length:Int):=by omega
  obtain rfl:i=R.length:=Cj;have hl:=aFv R R.length;have hne:iI R R.length≠[]:=λh=>by rw[h]at hl;simp at hl;omega
  have hz6:z=6:=hz.resolve_left hne;subst hz6;refine aC q1 ?_;have hrf:∀r∈iI R R.length,(r.num,r.den)∈rV:=by
   intro r hr;simp only[iI,yAw,yAS]at hr;obtain⟨j,hj,rfl⟩:=hr;have:R.getD j default=R[j]:=by simp[yAA,hj]
   rw[this];exact aPq _ (hpR _ (yAm hj)).2.1
  have hrl:=hl;obtain⟨rs,hrs⟩:=gn (iI R R.length);have hO:fU ⟨R,D,C⟩=⟨[79,114,103,97,110],rs,lU rs D D.length,mO D.length C C.length⟩:=by
   unfold fU;simp only[hrs]
  rw[hO];rw[hrs]at hrf hrl hne ⊢;clear hO hrs hz hl hm q1;obtain⟨W,hW⟩:=gn (PD.slice 6 (rs.map Em.aL.aB) (iM 3 rs.length));have hWs:W.strip=aR.aB rs:=by
   rw[<-hW,PD.sA];show _=PD.slice (sz 6 rs) (rs.map Em.aL.aB) .any
   rw[tK hne,show(rs.map Em.aL.aB).map PD.strip=rs.map Em.aL.aB by rw[yBE];exact yAG λx _=>Em.aL.str x];simp[hne]
  rw[hW];obtain⟨X0,qR⟩:=gn (aA.box (.agg [.slice (sz 9 R) (R.map Em.xG.aB) .any,.slice (sz 4 D) (D.map Em.CW.aB) .any,.slice (sz 4 C) (C.map Em.link.aB) .any]));obtain⟨aS,SA⟩:=gn (St [X0,.box (.agg [.str [],.slice 0 [] .full,.slice 0 [] .full,.slice 0 [] .full]),.box (.agg [.str [79,114,103,97,110],W,.slice 0 [] .full,.slice 0 [] .full])] 48 6 rs.length);have s0:aS[0]?=some X0:=by rw[<-SA];exact UG Ck
  have s1:aS[1]?=some (.box (.agg [.str [],.slice 0 [] .full,.slice 0 [] .full,.slice 0 [] .full])):=by rw[<-SA];exact UG Ck
  have s2:aS[2]?=some (.box (.agg [.str [79,114,103,97,110],W,.slice 0 [] .full,.slice 0 [] .full])):=by rw[<-SA];exact UG Ck
  rw[qR,SA];have EX:lU rs D 0=[]:=rfl;refine Wp.dJ (λm fr σ=>∃(i z:Nat) (tok:Tok) (σ1:List aA),∃gg:Nat->PD,(i+m=D.length/\(lU rs D i=[]\/z=5)/\lK σ1 tok 53 5 i/\σ1[0]?=some X0/\σ1[1]?=some (.box (.agg [.str [],.slice 0 [] .full,.slice 0 [] .full,.slice 0 [] .full]))/\σ1[2]?=some (.box (.agg [.str [79,114,103,97,110],W,.slice z ((lU rs D i).map Em.div.aB) tok,.slice 0 [] .full])))/\fr=gg 0::.ptr 0 0::.ptr 1 0::.ptr 2 0::gg 4::.int .i64 i::gg 6::gg 7::gg 8::gg 9::gg 10::gg 11::gg 12::gg 13::gg 14::gg 15::gg 16::gg 17::gg 18::gg 19::gg 20::gg 21::gg 22::gg 23::gg 24::gg 25::gg 26::gg 27::gg 28::gg 29::gg 30::gg 31::gg 32::gg 33::gg 34::gg 35::gg 36::gg 37::gg 38::gg 39::gg 40::gg 41::gg 42::gg 43::gg 44::gg 45::gg 46::gg 47::gg 48::gg 49::gg 50::gg 51::gg 52::gg 53::gg 54::gg 55::gg 56::gg 57::gg 58::gg 59::gg 60::gg 61::gg 62::gg 63::gg 64::gg 65::gg 66::gg 67::gg 68::gg 69::gg 70::gg 71::gg 72::gg 73::gg 74::gg 75::gg 76::gg 77::gg 78::gg 79::gg 80::gg 81::gg 82::gg 83::gg 84::gg 85::gg 86::gg 87::gg 88::gg 89::gg 90::gg 91::gg 92::gg 93::gg 94::gg 95::gg 96::gg 97::gg 98::gg 99::gg 100::gg 101::gg 102::gg 103::gg 104::gg 105::gg 106::gg 107::gg 108::gg 109::gg 110::gg 111::gg 112::gg 113::gg 114::gg 115::gg 116::gg 117::gg 118::gg 119::gg 120::gg 121::gg 122::gg 123::gg 124::gg 125::gg 126::gg 127::gg 128::gg 129::gg 130::gg 131::gg 132::gg 133::gg 134::gg 135::gg 136::gg 137::gg 138::gg 139::gg 140::gg 141::gg 142::gg 143::gg 144::gg 145::gg 146::gg 147::gg 148::gg 149::gg 150::gg 151::gg 152::[]/\σ=σ1) ?_ (D.length) (by refine⟨0,0,.full,aS,?_⟩;exact cE (⟨Cj,.inl rfl,.inl ⟨rfl,rfl⟩,s0,s1,by rw[EX];exact s2⟩))
  rintro m fr σ ⟨i,z,tok,σ1,gg,hI,rfl,rfl⟩
  obtain⟨hm,hz,hrow,g0,g1,g2⟩:=hI
  by_cases hi:i<D.length
  .have q1:(i:Int)<(D.length:Int):=by omega
   obtain⟨a,ha⟩:=gn (D[i]);obtain⟨mC,fV,hP8⟩:=hpD a (ha▸yAm hi);have hP3:a.stops.length<=3:=by
    have:=yAn.1 vU a (ha▸yAm hi);exact cw
   have hbs:=aPl rs D i a hi ha;obtain⟨l,ke,pe,P⟩:=a;simp only at mC fV hP8 hP3;obtain⟨l,rfl⟩:∃q:Nat,l=q:=⟨l.toNat,by have:=mC.1;omega⟩;obtain⟨ke,rfl⟩:∃q:Nat,ke=q:=⟨ke.toNat,by have:=fV.1;omega⟩;obtain⟨L,hL⟩:=gn (l%12);obtain⟨K,hK⟩:=gn (ke%9);have t1:(l:Int).tmod 12=(L:Int):=by rw[<-hL];rfl
   have t2:IntKind.i64.wrap (L:Int)=(L:Int):=Cq;have t3:IntKind.i64.wrap (36+(L:Int))=36+(L:Int):=Cq;have t4:(ke:Int).tmod 9=(K:Int):=by rw[<-hK];rfl
   have t5:IntKind.i64.wrap (K:Int)=(K:Int):=Cq;have t6:IntKind.i64.wrap (36+(L:Int)+(K:Int))=36+(L:Int)+K:=Cq;have d2:IntKind.i64.wrap (48+(i:Int))=48+(i:Int):=Cq;have d3:IntKind.u8.wrap (48+(i:Int))=48+(i:Int):=Ct;obtain⟨dg,hdg⟩:=gn (UInt8.ofNat (48+(i:Int)).toNat);obtain⟨ps,hps⟩:=gn (vQ rs (36+(L:Int)) (36+(L:Int)+K) P);have hbo:AB rs ⟨l,ke,pe,P⟩ i=⟨[68,dg],pe,36+(L:Int),36+(L:Int)+K,ps P.length⟩:=by
    unfold AB digit;simp only[show(l:Int)%12=(L:Int) by omega,show(ke:Int)%9=(K:Int) by omega,hps,<-hdg,show(48+(i:Int)).toNat=48+i by omega]
   rw[hbo]at hbs;have hpsl:∀k,(ps k).length=k:=λk=>by rw[<-hps];exact aPn _ _ _ _ _
   have aFx:ps 0=[]:=yAf (hpsl 0);have hpss:∀(k:Nat) (x:qI) (hk:k<P.length),P[k]=x->ps (k+1)=ps k++[vR rs (36+(L:Int)) (36+(L:Int)+K) x k]:=λk x hk hx=>by rw[<-hps];exact aPm _ _ _ _ _ _ hk hx
   have uP:=g0;rw[<-qR]at uP;refine aC (A13 q1 hi ha uP @t1 @t2 @t3 @t4 @t5 @t6 @d2 @d3 hdg) ?_;have hlt2:2<σ.length:=(yA.1 g2).1;obtain⟨BX,hBX⟩:=gn (aA.box (.agg [.int .u8 l,.int .u8 ke,.bool pe,.slice (sz 4 P) (P.map Em.pull.aB) .any]));rw[hBX];obtain⟨DX,hDX⟩:=gn (aA.box (.agg [.str [68,dg],.bool pe,.int .i64 (36+(L:Int)),.int .i64 (36+(L:Int)+K),.slice 0 [] .full]));rw[hDX];have u0:(σ++[BX,DX])[0]?=some X0:=by rw[yAg Cj];exact g0
   have u1:(σ++[BX,DX])[1]?=_:=(yAg Cj).trans g1;have u2:(σ++[BX,DX])[2]?=_:=(yAg Cj).trans g2;have u3:(σ++[BX,DX])[σ.length]?=some BX:=Ck;have u4:(σ++[BX,DX])[σ.length+1]?=some DX:=Ck;have urow:=hrow.more (τ:=[BX,DX]);obtain⟨σ3,JJ⟩:=gn (σ++[BX,DX]);rw[JJ]at u0 u1 u2 u3 u4 urow ⊢;obtain⟨pb,hpb⟩:=gn (σ.length);rw[hpb]at u3 u4 hlt2 ⊢;obtain⟨M,hM⟩:∃M,M=m:=⟨_,rfl⟩;rw[<-hM]at hm ⊢;clear hM JJ hpb g0 uP g1 g2 hrow;rw[<-hDX]at u4;refine Wp.dJ (λm fr σ=>∃(k z2:Nat) (JK:Tok) (σ2:List aA),∃gg:Nat->PD,(k+m=P.length/\(ps k=[]\/z2=4)/\lK σ2 JK 56 4 k/\lK σ2 tok 53 5 i/\(∀id,JK=.own id->tok≠.own id)/\σ2[0]?=some X0/\σ2[1]?=some (.box (.agg [.str [],.slice 0 [] .full,.slice 0 [] .full,.slice 0 [] .full]))/\σ2[2]?=some (.box (.agg [.str [79,114,103,97,110],W,.slice z ((lU rs D i).map Em.div.aB) tok,.slice 0 [] .full]))/\σ2[pb]?=some BX/\σ2[pb+1]?=some (.box (.agg [.str [68,dg],.bool pe,.int .i64 (36+(L:Int)),.int .i64 (36+(L:Int)+K),.slice z2 ((ps k).map Em.stop.aB) JK])))/\fr=gg 0::.ptr 0 0::.ptr 1 0::.ptr 2 0::gg 4::.int .i64 i::.ptr pb 0::gg 7::.ptr (pb+1) 0::.int .i64 k::gg 10::gg 11::gg 12::gg 13::gg 14::gg 15::gg 16::gg 17::gg 18::gg 19::gg 20::gg 21::gg 22::gg 23::gg 24::gg 25::gg 26::gg 27::gg 28::gg 29::gg 30::gg 31::gg 32::gg 33::gg 34::gg 35::gg 36::gg 37::gg 38::gg 39::gg 40::gg 41::gg 42::gg 43::gg 44::gg 45::gg 46::gg 47::gg 48::gg 49::gg 50::gg 51::gg 52::gg 53::gg 54::gg 55::gg 56::gg 57::gg 58::gg 59::gg 60::gg 61::gg 62::gg 63::gg 64::gg 65::gg 66::gg 67::gg 68::gg 69::gg 70::gg 71::gg 72::gg 73::gg 74::gg 75::gg 76::gg 77::gg 78::gg 79::gg 80::gg 81::gg 82::gg 83::gg 84::gg 85::gg 86::gg 87::gg 88::gg 89::gg 90::gg 91::gg 92::gg 93::gg 94::gg 95::gg 96::gg 97::gg 98::gg 99::gg 100::gg 101::gg 102::gg 103::gg 104::gg 105::gg 106::gg 107::gg 108::gg 109::gg 110::gg 111::gg 112::gg 113::gg 114::gg 115::gg 116::gg 117::gg 118::gg 119::gg 120::gg 121::gg 122::gg 123::gg 124::gg 125::gg 126::gg 127::gg 128::gg 129::gg 130::gg 131::gg 132::gg 133::gg 134::gg 135::gg 136::gg 137::gg 138::gg 139::gg 140::gg 141::gg 142::gg 143::gg 144::gg 145::gg 146::gg 147::gg 148::gg 149::gg 150::gg 151::gg 152::[]/\σ=σ2) ?_ (P.length) (by refine⟨0,0,.full,σ3,?_⟩;exact cE (⟨Cj,.inl aFx,.inl ⟨rfl,rfl⟩,urow,(λid e=>Dh),u0,u1,u2,u3,(by rw[aFx];exact u4)⟩))
   rintro m fr σ ⟨k,z2,JK,σ2,gg,hI,rfl,rfl⟩
   obtain⟨hm2,mB,pX,hrowD,P8,v0,v1,v2,v3,v4⟩:=hI
   by_cases hk:k<P.length
   .have q2:(k:Int)<(P.length:Int):=by omega
    obtain⟨x,hx⟩:=gn (P[k]);have hsu:=hpss k x hk hx;have hG:=aPp (i:=k) (x:=x) (lo:=36+(L:Int)) (hg:=36+(L:Int)+K) hWs hrf Cj Cj Cj Cj Cj (hP8 x (hx▸yAm hk)) Cj;obtain⟨q,hq⟩:=gn (vR rs (36+(L:Int)) (36+(L:Int)+K) x k);rw[hq]at hG hsu;obtain⟨q0,ZT,q2',q3⟩:=q;obtain⟨x0,x1,x2,x3⟩:=x;simp only[aBs,pZ,aU]at hG;rw[<-hBX]at v3;obtain⟨A,hA⟩:=gn ((ps k).map Em.stop.aB);have hAl:A.length=k:=by rw[<-hA,yAe,hpsl]
    have sX:A=[]\/z2=4:=mB.imp (λh=>Gy) id;obtain⟨jK,bR,hap,hr',hkeep,hnew⟩:=E8 (P:=prog) (t:=51) (e:=56) (k:=4) (b:=56) (s:=z2) (xs:=A) (p:=.agg [.str q0,.int .i64 ZT,.int .i64 q2',.slice (sz 3 q3) (q3.map Em.eZ.aB) .any]) (tk:=.any) (tok:=JK) (σ:=σ)
     underlying51 Cl sX (by rw[hAl];exact pX) Cj Cj
    rw[hA]at v4;have nX:mK (some X0):=Gn;have nB:mK (some BX):=by rw[<-hBX];trivial
    rw[hBX]at v3;have w0:=hkeep 0 _ (pX.ne v0 nX) v0;have w1:=hkeep 1 _ (pX.ne v1 trivial) v1;have w2:=hkeep 2 _ (pX.ne v2 trivial) v2;have w3:=hkeep pb _ (pX.ne v3 nB) v3;have w4:=hkeep (pb+1) _ (pX.ne v4 trivial) v4;rw[hAl]at hr';have aPr:=(hrowD.aM (σ':=bR) λid o e h=>hkeep id o (λe2=>P8 id e2 e) h);have aPs:∀id,jK=.own id->tok≠.own id:=λid e e2=>by
     rcases hnew id e with e3|e3
     .exact P8 id e3 e2
     .subst e3;rcases hrowD with⟨_,e4⟩ | ⟨_,id',e4,h5⟩
      .rw[e4]at e2;cases e2
      .rw[e4]at e2;simp only[Tok.own.injEq]at e2;subst e2;have:=(yA.1 h5).1;omega
    rw[<-hBX]at v3;refine aC (A12 q2 @hk hx @v0 @v1 @v2 @v3 @v4 h2 hG hap w4) ?_;have x7:pb+1<bR.length:=(yA.1 w4).1;refine bM.normal (m-1) Cj (by refine⟨k+1,4,jK,bR.set (pb+1) (.box (.agg [.str [68,dg],.bool pe,.int .i64 (36+(L:Int)),.int .i64 (36+(L:Int)+K),.slice 4 (A++[.agg [.str q0,.int .i64 ZT,.int .i64 q2',.slice (sz 3 q3) (q3.map Em.eZ.aB) .any]]) jK])),?_⟩;exact cE (⟨Cj,.inr rfl,hr'.set w4 trivial,aPr.set w4 trivial,aPs,(by rw[yAd Cj];exact w0),(by rw[yAd Cj];exact w1),(by rw[yAd Cj];exact w2),(by rw[yAd Cj];exact w3),(by rw[hsu,yAH,hA];exact yAj x7)⟩))
   .have q2:¬(k:Int)<(P.length:Int):=by omega
    obtain rfl:k=P.length:=Cj;obtain⟨Y,hY⟩:=gn (PD.slice z2 ((ps P.length).map Em.stop.aB) JK);have hYp:Y.plain=true:=by rw[<-hY];rfl
    have hYs:Y.strip=.slice (sz 4 (ps P.length)) ((ps P.length).map Em.stop.aB) .any:=by
     rw[<-hY,PD.sA,show((ps P.length).map Em.stop.aB).map PD.strip=(ps P.length).map Em.stop.aB by rw[yBE];exact yAG λx _=>Em.stop.str x];rcases mB with h|h
     .rw[h];rfl
     .rw[h];simp[sz]
    rw[hY]at v4;rw[<-hBX]at v3;obtain⟨A,hA⟩:=gn ((lU rs D i).map Em.div.aB);have hAl:A.length=i:=by rw[<-hA,yAe,aFw]
    have sX:A=[]\/z=5:=hz.imp (λh=>Gy) id;rw[hA]at v2;obtain⟨jK,bR,hap,hr',hkeep,hnew⟩:=E8 (P:=prog) (t:=32) (e:=53) (k:=5) (b:=64) (s:=z) (xs:=A) (p:=.agg [.str [68,dg],.bool pe,.int .i64 (36+(L:Int)),.int .i64 (36+(L:Int)+K),.slice (sz 4 (ps P.length)) ((ps P.length).map Em.stop.aB) .any]) (tk:=.any) (tok:=tok) (σ:=σ)
     underlying32 Cl sX (by rw[hAl];exact hrowD) Cj Cj
    have nX:mK (some X0):=Gn;have w0:=hkeep 0 _ (hrowD.ne v0 nX) v0;have w1:=hkeep 1 _ (hrowD.ne v1 trivial) v1;have w2:=hkeep 2 _ (hrowD.ne v2 trivial) v2;rw[hAl]at hr';refine aC (A10 q2 @v0 @v1 @v2 @v3 @v4 hap w2 hYp hYs) ?_;have x7:2<bR.length:=(yA.1 w2).1;refine bM.normal (M-1) Cj (by refine⟨i+1,5,jK,bR.set 2 (.box (.agg [.str [79,114,103,97,110],W,.slice 5 (A++[.agg [.str [68,dg],.bool pe,.int .i64 (36+(L:Int)),.int .i64 (36+(L:Int)+K),.slice (sz 4 (ps P.length)) ((ps P.length).map Em.stop.aB) .any]]) jK,.slice 0 [] .full])),?_⟩;exact cE (⟨Cj,.inr rfl,hr'.set w2 trivial,(by rw[yAd Cj];exact w0),(by rw[yAd Cj];exact w1),(by rw[hbs,yAH,hA];exact yAj x7)⟩))
  .have q1:¬(i:Int)<(D.length:Int):=by omega
   obtain rfl:i=D.length:=Cj;have hbl:=aFw rs D D.length;have hbne:lU rs D D.length≠[]:=λh=>by rw[h]at hbl;simp at hbl;omega
   have hz5:z=5:=hz.resolve_left hbne;subst hz5;obtain⟨Y,hY⟩:=gn (PD.slice 5 ((lU rs D D.length).map Em.div.aB) tok);have hYp:Y.plain=true:=by rw[<-hY];rfl
   have hYs:Y.strip=.slice (sz 5 (lU rs D D.length)) ((lU rs D D.length).map Em.div.aB) .any:=by
    rw[<-hY,PD.sA,show((lU rs D D.length).map Em.div.aB).map PD.strip=(lU rs D D.length).map Em.div.aB by rw[yBE];exact yAG λx _=>Em.div.str x];rw[tK hbne];simp[hbne]
   have hWp:W.plain=true:=by rw[<-hW];rfl
   have aPt:W.strip=.slice (sz 6 rs) (rs.map Em.aL.aB) .any:=hWs;rw[hY]at g2;have uP:=g0;rw[<-qR]at uP;refine aC (A4 q1 uP @g1 @g2) ?_;have lT:mO D.length C 0=[]:=rfl;refine Wp.dJ (λm fr σ=>∃(j z3:Nat) (D9:Tok) (σ1:List aA),∃gg:Nat->PD,(j+m=C.length/\(mO D.length C j=[]\/z3=5)/\lK σ1 D9 58 5 j/\σ1[0]?=some X0/\σ1[1]?=some (.box (.agg [.str [],.slice 0 [] .full,.slice 0 [] .full,.slice 0 [] .full]))/\σ1[2]?=some (.box (.agg [.str [79,114,103,97,110],W,Y,.slice z3 ((mO D.length C j).map Em.aZ.aB) D9])))/\fr=gg 0::.ptr 0 0::.ptr 1 0::.ptr 2 0::gg 4::gg 5::gg 6::gg 7::gg 8::gg 9::.int .i64 D.length::.int .i64 j::gg 12::gg 13::gg 14::gg 15::gg 16::gg 17::gg 18::gg 19::gg 20::gg 21::gg 22::gg 23::gg 24::gg 25::gg 26::gg 27::gg 28::gg 29::gg 30::gg 31::gg 32::gg 33::gg 34::gg 35::gg 36::gg 37::gg 38::gg 39::gg 40::gg 41::gg 42::gg 43::gg 44::gg 45::gg 46::gg 47::gg 48::gg 49::gg 50::gg 51::gg 52::gg 53::gg 54::gg 55::gg 56::gg 57::gg 58::gg 59::gg 60::gg 61::gg 62::gg 63::gg 64::gg 65::gg 66::gg 67::gg 68::gg 69::gg 70::gg 71::gg 72::gg 73::gg 74::gg 75::gg 76::gg 77::gg 78::gg 79::gg 80::gg 81::gg 82::gg 83::gg 84::gg 85::gg 86::gg 87::gg 88::gg 89::gg 90::gg 91::gg 92::gg 93::gg 94::gg 95::gg 96::gg 97::gg 98::gg 99::gg 100::gg 101::gg 102::gg 103::gg 104::gg 105::gg 106::gg 107::gg 108::gg 109::gg 110::gg 111::gg 112::gg 113::gg 114::gg 115::gg 116::gg 117::gg 118::gg 119::gg 120::gg 121::gg 122::gg 123::gg 124::gg 125::gg 126::gg 127::gg 128::gg 129::gg 130::gg 131::gg 132::gg 133::gg 134::gg 135::gg 136::gg 137::gg 138::gg 139::gg 140::gg 141::gg 142::gg 143::gg 144::gg 145::gg 146::gg 147::gg 148::gg 149::gg 150::gg 151::gg 152::[]/\σ=σ1) ?_ (C.length) (by refine⟨0,0,.full,σ,?_⟩;exact cE (⟨Cj,.inl lT,.inl ⟨rfl,rfl⟩,g0,g1,(by rw[lT];exact g2)⟩))
   rintro m fr σ ⟨j,z3,D9,σ1,gg,hI,rfl,rfl⟩
   obtain⟨hm,hz,hrow,g0,g1,g2⟩:=hI
   by_cases hj:j<C.length
   .have q1:(j:Int)<(C.length:Int):=by omega
    obtain⟨a,ha⟩:=gn (C[j]);obtain⟨ZU,ZV,ZW⟩:=hpC a (ha▸yAm hj);have hls:=aPo D.length C j a hj ha;obtain⟨o,d,s,th⟩:=a;simp only at ZU ZV ZW;obtain⟨o,rfl⟩:∃q:Nat,o=q:=⟨o.toNat,by have:=ZU.1;omega⟩;obtain⟨d,rfl⟩:∃q:Nat,d=q:=⟨d.toNat,by have:=ZV.1;omega⟩;have ho9:=ZU.2;have hd9:=ZV.2;have t1:IntKind.i64.wrap (o:Int)=(o:Int):=Cq;have t2:IntKind.i64.wrap (d:Int)=(d:Int):=Cq;have t3:IntKind.i64.wrap s=s:=by have:=ZW.1;have:=ZW.2;rw[yAP];omega
    have t4:¬(D.length:Int)=0:=Cj;have t5:¬D=[]:=λh=>by rw[h]at GP;simp at GP
    obtain⟨O,hO⟩:∃O:Int,(o:Int).tmod (D.length:Int)=O:=⟨_,rfl⟩;obtain⟨Q,hQ⟩:∃Q:Int,(d:Int).tmod (D.length:Int)=Q:=⟨_,rfl⟩;obtain⟨S,hS⟩:∃S:Int,s.tmod 25=S:=⟨_,rfl⟩;have hO':(o:Int)%(D.length:Int)=O:=hO;have hQ':(d:Int)%(D.length:Int)=Q:=hQ;have d2:IntKind.i64.wrap (48+(j:Int))=48+(j:Int):=Cq;have d3:IntKind.u8.wrap (48+(j:Int))=48+(j:Int):=Ct;obtain⟨dg,hdg⟩:=gn (UInt8.ofNat (48+(j:Int)).toNat);have hln:JI D.length ⟨o,d,s,th⟩ j=⟨[67,dg],O,Q,if O=Q/\S=0 then 12 else S,th⟩:=by
     unfold JI digit;simp only[hO',hQ',hS,<-hdg,show(48+(j:Int)).toNat=48+j by omega]
    rw[hln]at hls;have uP:=g0;rw[<-qR]at uP
    by_cases hoq:O=Q
    .by_cases pV:S=0
     .subst hoq;subst pV;have hE:(if O=O/\(0:Int)=0 then(12:Int)else(0:Int))=12:=Ck;rw[hE]at hls;obtain⟨A,hA⟩:=gn ((mO D.length C j).map Em.aZ.aB);have hAl:A.length=j:=by rw[<-hA,yAe,ZR]
      have sX:A=[]\/z3=5:=hz.imp (λh=>Gy) id;rw[hA]at g2;have nX:mK (some X0):=Gn;have u0:=bG (τ:=[.box (.agg [.int .u8 o,.int .u8 d,.int .i8 s,.bool th]),.box (.agg [.str [67,dg],.int .i64 O,.int .i64 O,.int .i64 12,.bool th])]) g0;have u1:=bG (τ:=[.box (.agg [.int .u8 o,.int .u8 d,.int .i8 s,.bool th]),.box (.agg [.str [67,dg],.int .i64 O,.int .i64 O,.int .i64 12,.bool th])]) g1;have u2:=bG (τ:=[.box (.agg [.int .u8 o,.int .u8 d,.int .i8 s,.bool th]),.box (.agg [.str [67,dg],.int .i64 O,.int .i64 O,.int .i64 12,.bool th])]) g2;have urow:=hrow.more (τ:=[.box (.agg [.int .u8 o,.int .u8 d,.int .i8 s,.bool th]),.box (.agg [.str [67,dg],.int .i64 O,.int .i64 O,.int .i64 12,.bool th])]);obtain⟨jK,bR,hap,hr',hkeep,hnew⟩:=E8 (P:=prog) (t:=33) (e:=58) (k:=5) (b:=48) (s:=z3) (xs:=A) (p:=.agg [.str [67,dg],.int .i64 O,.int .i64 O,.int .i64 12,.bool th]) (tk:=.any) (tok:=D9)
       underlying33 Cl sX Ji Cj Cj
      have w0:=hkeep 0 _ (urow.ne u0 nX) u0;have w1:=hkeep 1 _ (urow.ne u1 trivial) u1;have w2:=hkeep 2 _ (urow.ne u2 trivial) u2;rw[hAl]at hr';refine aC (A19 q1 hj ha uP @g2 u2 hap w2 @t1 @t2 @t3 @t4 @t5 hO hQ hS @d2 @d3 hdg) ?_;have x7:2<bR.length:=(yA.1 w2).1;refine bM.normal (m-1) Cj (by refine⟨j+1,5,jK,bR.set 2 (.box (.agg [.str [79,114,103,97,110],W,Y,.slice 5 (A++[.agg [.str [67,dg],.int .i64 O,.int .i64 O,.int .i64 12,.bool th]]) jK])),?_⟩;exact cE (⟨Cj,.inr rfl,hr'.set w2 trivial,(by rw[yAd Cj];exact w0),(by rw[yAd Cj];exact w1),Hq⟩))
     .subst hoq;have hE:(if O=O/\S=0 then(12:Int)else S)=S:=by simp[pV]
      rw[hE]at hls;obtain⟨A,hA⟩:=gn ((mO D.length C j).map Em.aZ.aB);have hAl:A.length=j:=by rw[<-hA,yAe,ZR]
      have sX:A=[]\/z3=5:=hz.imp (λh=>Gy) id;rw[hA]at g2;have nX:mK (some X0):=Gn;have u0:=bG (τ:=[.box (.agg [.int .u8 o,.int .u8 d,.int .i8 s,.bool th]),.box (.agg [.str [67,dg],.int .i64 O,.int .i64 O,.int .i64 S,.bool th])]) g0;have u1:=bG (τ:=[.box (.agg [.int .u8 o,.int .u8 d,.int .i8 s,.bool th]),.box (.agg [.str [67,dg],.int .i64 O,.int .i64 O,.int .i64 S,.bool th])]) g1;have u2:=bG (τ:=[.box (.agg [.int .u8 o,.int .u8 d,.int .i8 s,.bool th]),.box (.agg [.str [67,dg],.int .i64 O,.int .i64 O,.int .i64 S,.bool th])]) g2;have urow:=hrow.more (τ:=[.box (.agg [.int .u8 o,.int .u8 d,.int .i8 s,.bool th]),.box (.agg [.str [67,dg],.int .i64 O,.int .i64 O,.int .i64 S,.bool th])]);obtain⟨jK,bR,hap,hr',hkeep,hnew⟩:=E8 (P:=prog) (t:=33) (e:=58) (k:=5) (b:=48) (s:=z3) (xs:=A) (p:=.agg [.str [67,dg],.int .i64 O,.int .i64 O,.int .i64 S,.bool th]) (tk:=.any) (tok:=D9)
       underlying33 Cl sX Ji Cj Cj
      have w0:=hkeep 0 _ (urow.ne u0 nX) u0;have w1:=hkeep 1 _ (urow.ne u1 trivial) u1;have w2:=hkeep 2 _ (urow.ne u2 trivial) u2;rw[hAl]at hr';refine aC (A20 q1 hj ha uP @g2 u2 hap w2 @t1 @t2 @t3 @t4 @t5 hO hQ hS @d2 @d3 hdg pV) ?_;have x7:2<bR.length:=(yA.1 w2).1;refine bM.normal (m-1) Cj (by refine⟨j+1,5,jK,bR.set 2 (.box (.agg [.str [79,114,103,97,110],W,Y,.slice 5 (A++[.agg [.str [67,dg],.int .i64 O,.int .i64 O,.int .i64 S,.bool th]]) jK])),?_⟩;exact cE (⟨Cj,.inr rfl,hr'.set w2 trivial,(by rw[yAd Cj];exact w0),(by rw[yAd Cj];exact w1),Hq⟩))
    .skip
     have hE:(if O=Q/\S=0 then(12:Int)else S)=S:=by simp[hoq]
     rw[hE]at hls;obtain⟨A,hA⟩:=gn ((mO D.length C j).map Em.aZ.aB);have hAl:A.length=j:=by rw[<-hA,yAe,ZR]
     have sX:A=[]\/z3=5:=hz.imp (λh=>Gy) id;rw[hA]at g2;have nX:mK (some X0):=Gn;have u0:=bG (τ:=[.box (.agg [.int .u8 o,.int .u8 d,.int .i8 s,.bool th]),.box (.agg [.str [67,dg],.int .i64 O,.int .i64 Q,.int .i64 S,.bool th])]) g0;have u1:=bG (τ:=[.box (.agg [.int .u8 o,.int .u8 d,.int .i8 s,.bool th]),.box (.agg [.str [67,dg],.int .i64 O,.int .i64 Q,.int .i64 S,.bool th])]) g1;have u2:=bG (τ:=[.box (.agg [.int .u8 o,.int .u8 d,.int .i8 s,.bool th]),.box (.agg [.str [67,dg],.int .i64 O,.int .i64 Q,.int .i64 S,.bool th])]) g2;have urow:=hrow.more (τ:=[.box (.agg [.int .u8 o,.int .u8 d,.int .i8 s,.bool th]),.box (.agg [.str [67,dg],.int .i64 O,.int .i64 Q,.int .i64 S,.bool th])]);obtain⟨jK,bR,hap,hr',hkeep,hnew⟩:=E8 (P:=prog) (t:=33) (e:=58) (k:=5) (b:=48) (s:=z3) (xs:=A) (p:=.agg [.str [67,dg],.int .i64 O,.int .i64 Q,.int .i64 S,.bool th]) (tk:=.any) (tok:=D9)
      underlying33 Cl sX Ji Cj Cj
     have w0:=hkeep 0 _ (urow.ne u0 nX) u0;have w1:=hkeep 1 _ (urow.ne u1 trivial) u1;have w2:=hkeep 2 _ (urow.ne u2 trivial) u2;rw[hAl]at hr';refine aC (A20 q1 hj ha uP @g2 u2 hap w2 @t1 @t2 @t3 @t4 @t5 hO hQ hS @d2 @d3 hdg hoq) ?_;have x7:2<bR.length:=(yA.1 w2).1;refine bM.normal (m-1) Cj (by refine⟨j+1,5,jK,bR.set 2 (.box (.agg [.str [79,114,103,97,110],W,Y,.slice 5 (A++[.agg [.str [67,dg],.int .i64 O,.int .i64 Q,.int .i64 S,.bool th]]) jK])),?_⟩;exact cE (⟨Cj,.inr rfl,hr'.set w2 trivial,(by rw[yAd Cj];exact w0),(by rw[yAd Cj];exact w1),Hq⟩))
   .have q1:¬(j:Int)<(C.length:Int):=by omega
    obtain rfl:j=C.length:=Cj;have hzs:PD.strip (.slice z3 ((mO D.length C C.length).map Em.aZ.aB) D9)=.slice (sz 5 (mO D.length C C.length)) ((mO D.length C C.length).map Em.aZ.aB) .any:=by
     rw[PD.sA,show((mO D.length C C.length).map Em.aZ.aB).map PD.strip=(mO D.length C C.length).map Em.aZ.aB by rw[yBE];exact yAG λx _=>Em.aZ.str x];rcases hz with h|h
     .rw[h];rfl
     .rw[h];simp[sz]
    obtain⟨V,hV⟩:=gn (PD.slice z3 ((mO D.length C C.length).map Em.aZ.aB) D9);have hVp:V.plain=true:=by rw[<-hV];rfl
    rw[hV]at g2 hzs;have hs1:∀x,(σ.set 1 x)[1]?=some x:=λx=>yAj (yA.1 g1).1
    have uP:=g0;rw[<-qR]at uP;have hWq:=hWp;have hYq:=hYp;have hVq:=hVp;unfold PD.plain at hWq hYq hVq;refine aC (A7 q1 uP @g1 @g2 hWq hYq hVq) ?_;simp(disch:=first|omega|(simp;done)|(simp;omega)) [yAu,hs1,aPt,hYs,hzs]<;>try rfl
end
end Go.Kz
end
