/- Steps of the proof. -/
import Derived.Test.YteegpeenjdgodaaGreatDoorP5
set_option linter.all false
set_option maxHeartbeats 40000000
set_option maxRecDepth 100000
open Go.Proofs.Tryz
noncomputable section
namespace Go.Kz
open Go Go.Proofs
section
def vY(n d:Int):Int:=if d<=0\/1000000<d\/n < -1000000\/1000000<n\/Nat.gcd n.natAbs d.toNat≠1 then 2 else 0
def s7(n d:Int):Int:=if vY n d≠0 then 2 else if n<=0\/128*d<n then 3 else if 128<d then 4 else 0
def yQ(n:Int):Prop:=-9223372036854775808<=n/\n<=9223372036854775807
abbrev EF:Em Int:=Em.int .u64
def QX:Nat->List PD->List aA->Option (PD×List aA):=entry (eM EF EF EF λa b=>dY (0<=a/\a<=1000000/\0<=b/\b<=1000000) (some (Nat.gcd a.toNat b.toNat)))
theorem aQa{a b:Nat}(ha:a<=1000000)(hb:b<=1000000)(fl:Nat)(σ:List aA):QX fl [.int .u64 a,.int .u64 b] σ=some (.int .u64 (Nat.gcd a b),σ):=by
 have e1:EF.dec (.int .u64 a)=some (a:Int):=Em.cT rfl;have e2:EF.dec (.int .u64 b)=some (b:Int):=Em.cT rfl;unfold QX entry eM;simp only[e1,e2];rw[fM ⟨Cj,Cj,Cj,Cj⟩];rfl
variable{E:aE}(hU:aJ E)
include hU
theorem aLK(h0:E 145=none)(a b:Nat)(ha:a<=1000000)(hb:b<=1000000):aI prog E 145 [.int .u64 a,.int .u64 b] (EF.aB (Nat.gcd a b)):=by
 obtain⟨G,hG⟩:=gn (Nat.gcd a b);rw[hG];refine aI.aG 12 h0 func145 (h:=?_);refine aC trivial ?_;refine Wp.dJ (λm fr σ=>∃(u v:Nat),∃gg:Nat->PD,(v<=m/\u<=1000000/\v<=1000000/\Nat.gcd u v=G)/\fr=[.int .u64 u,.int .u64 v,gg 2,gg 3,gg 4,gg 5,gg 6,gg 7,gg 8,gg 9,gg 10,gg 11]/\σ=[]) ?_ (b) (by refine⟨a,b,?_⟩;exact cE (⟨yAk _,ha,hb,hG⟩))
 rintro m fr σ ⟨u,v,gg,hI,rfl,rfl⟩
 obtain⟨hm,hu,hv,hg⟩:=hI
 by_cases q:v=0
 .subst q;rw[Nat.gcd_zero_right]at hg;subst hg;refine aC trivial ?_;exact ag
 .have q1:0<v:=by omega
  have q2:¬(v:Int)=0:=Cj;have hml:u%v<v:=yBA _ Cj;have hgr:Nat.gcd v (u%v)=G:=by rw[Nat.gcd_comm v (u%v),<-Nat.gcd_rec,Nat.gcd_comm,hg]
  obtain⟨r,hr⟩:=gn (u%v);have w1:((u:Int)).tmod (v:Int)=(r:Int):=by rw[<-hr];rfl
  rw[hr]at hml hgr;have w2:IntKind.u64.wrap (r:Int)=(r:Int):=Ct;refine aC (A5 @q q1 q2 w1 w2) ?_;refine bM.normal (m-1) Cj (by refine⟨v,r,?_⟩;exact cE (⟨Cj,hv,Cj,hgr⟩))
theorem aLM(h0:E 146=none)(n:Int)(h:-1000000<=n/\n<=1000000):aI prog E 146 [.int .i64 n] (EF.aB n.natAbs):=by
 refine aI.aG 10 h0 func146 (h:=?_)
 by_cases a:n<0
 .have w1:IntKind.u64.wrap n=n+18446744073709551616:=by simp only[IntKind.wrap,IntKind.bits,IntKind.signed];simp;omega
  have w2:IntKind.u64.wrap (-(n+18446744073709551616))=(n.natAbs:Int):=Ct;refine aC (A3 @a w1 w2) ?_;exact ag
 .have w1:IntKind.u64.wrap n=(n.natAbs:Int):=by simp only[IntKind.wrap,IntKind.bits,IntKind.signed];simp;omega
  refine aC (A2 @a w1) ?_;exact ag
def QY:Nat->List PD->List aA->Option (PD×List aA):=entry (cK i64 EF λn=>dY (-1000000<=n/\n<=1000000) (some (n.natAbs:Int)))
omit hU in
theorem aQb{n:Int}(h:-1000000<=n/\n<=1000000)(fl:Nat)(σ:List aA):QY fl [.int .i64 n] σ=some (.int .u64 n.natAbs,σ):=by
 have e1:i64.dec (.int .i64 n)=some n:=Em.cT rfl;unfold QY entry cK;exact mu
theorem aLO(h0:E 124=none)(h1:E 146=some QY)(h2:E 145=some QX)(n d:Int):aI prog E 124 [.agg [.int .i64 n,.int .i64 d]] (i64.aB (vY n d)):=by
 by_cases a:d<=0
 .skip
  refine aI.aG 31 h0 func124 (h:=?_);refine aC @a ?_;simp(disch:=first|omega|(simp;done)|(simp;omega)) [yAu,vY,a]<;>try rfl
 by_cases b:1000000<d
 .skip
  refine aI.aG 31 h0 func124 (h:=?_);refine aC (A2 @a @b) ?_;simp(disch:=first|omega|(simp;done)|(simp;omega)) [yAu,vY,a,b]<;>try rfl
 by_cases c:n < -1000000
 .skip
  refine aI.aG 31 h0 func124 (h:=?_);refine aC (A3 @a @b @c) ?_;simp(disch:=first|omega|(simp;done)|(simp;omega)) [yAu,vY,a,b,c]<;>try rfl
 by_cases e:1000000<n
 .skip
  refine aI.aG 31 h0 func124 (h:=?_);refine aC (A4 @a @b @c @e) ?_;simp(disch:=first|omega|(simp;done)|(simp;omega)) [yAu,vY,a,b,c,e]<;>try rfl
 have hM:=aQb (n:=n) Cj;obtain⟨D,rfl⟩:∃D:Nat,d=D:=⟨d.toNat,Cj⟩;obtain⟨N,hN⟩:=gn (n.natAbs);rw[hN]at hM;have hG:=aQa (a:=N) (b:=D) Cj Cj;have w:IntKind.u64.wrap (D:Int)=D:=Ct;obtain⟨g,hg⟩:=gn (Nat.gcd N D);have a2:¬D=0:=Cj;have b2:¬1000000<D:=Cj;have hE:vY n D=if g=1 then 0 else 2:=by
  unfold vY;rw[hN,yBp]
  by_cases q:g=1
  .rw[yAJ q,yAI Cj]
  .rw[yAI q,yAJ Cj]
 rw[hE];rw[hg]at hG
 by_cases q:g=1
 .have q1:(g:Int)=1:=by omega
  exact ld
 .have q1:¬(g:Int)=1:=by omega
  exact ld
def QZ:Nat->List PD->List aA->Option (PD×List aA):=entry (cK Em.dC i64 λx=>some (vY x.1 x.2))
omit hU in
theorem aQc(n d:Int)(fl:Nat)(σ:List aA):QZ fl [.agg [.int .i64 n,.int .i64 d]] σ=some (.int .i64 (vY n d),σ):=by
 have e1:Em.dC.dec (.agg [.int .i64 n,.int .i64 d])=some (n,d):=Em.cT rfl;unfold QZ entry cK;simp only[e1];rfl
theorem aLQ(h0:E 93=none)(h1:E 124=some QZ)(n d:Int):aI prog E 93 [.agg [.int .i64 n,.int .i64 d]] (i64.aB (s7 n d)):=by
 have hF:=aQc n d
 by_cases a:vY n d=0
 .have hd:0<d/\d<=1000000:=by
   unfold vY at a;split at a
   .cases a
   .omega
  have w:IntKind.i64.wrap (128*d)=128*d:=Cq;rw[a]at hF;unfold s7;rw[a];refine aI.aG 23 h0 func93 (h:=?_)
  by_cases b:n<=0
  .refine aC (A3 h1 hF @b) ?_;simp(disch:=first|omega|(simp;done)|(simp;omega)) [yAu,b]<;>try rfl
  by_cases c:128*d<n
  .refine aC (A5 h1 hF @b @w @c) ?_;simp(disch:=first|omega|(simp;done)|(simp;omega)) [yAu,b,c]<;>try rfl
  by_cases e:128<d
  .exact qt
  .exact qt
 .unfold s7;rw[yAJ a];obtain⟨f,hf⟩:=gn (vY n d);rw[hf]at a hF;refine aI.aG 23 h0 func93 (h:=?_);refine aC (A3 h1 hF @a) ?_;exact ag
end
section
def eX{α:Type}(p:α->Bool):List α->Nat->Int
 | [],_=>-1
 |x::r,i=>if p x=true then(i:Int)else eX p r (i+1)
theorem SJ{α:Type}(p:α->Bool):∀(l:List α) (i:Nat),decide (0<=eX p l i)=l.any p
 | [],_=>rfl
 |x::r,i=>by
  unfold eX;cases h:p x with
  |true=>rw[yAJ rfl,yDQ,h];simp
  |false=>rw[yAI Cn,yDQ,h,SJ p r (i+1)];rfl
theorem aFV{α:Type}(p:α->Bool):∀(l:List α) (i:Nat),-1<=eX p l i/\eX p l i<i+l.length\/eX p l i=-1
 | [],_=>.inr rfl
 |x::r,i=>by
  unfold eX;split
  .refine .inl ⟨Cj,?_⟩;rw[yAT];omega
  .rcases aFV p r (i+1)with h|h
   .refine .inl ⟨h.1,?_⟩;rw[yAT];omega
   .exact .inr h
def mP(w:Int):Bool:=decide (w<0)||decide (1000000<w)
def Q0:Nat->List PD->List aA->Option (PD×List aA):=entry (cK i64 Em.bool λn=>some (mP n))
theorem aP5(n:Int)(fl:Nat)(σ:List aA):Q0 fl [.int .i64 n] σ=some (.bool (mP n),σ):=by
 have e:i64.dec (.int .i64 n)=some n:=Em.cT rfl;unfold Q0 entry cK;simp only[e];rfl
variable{E:aE}(hU:aJ E)
include hU
theorem aLS(h0:E 126=none)(n:Int):aI prog E 126 [.int .i64 n] (Em.bool.aB (mP n)):=by
 refine aI.aG 9 h0 func126 (h:=?_)
 by_cases a:n<0
 .refine aC @a ?_;simp(disch:=first|omega|(simp;done)|(simp;omega)) [yAu,mP,a]<;>try rfl
 .by_cases b:1000000<n
  .exact tj
  .exact tj
theorem aLU(h0:E 147=none)(h1:E 126=some Q0)(l:List Int)(hl:l.length<=1000000):aI prog E 147 [gH.aB l,.func 126 []] (i64.aB (eX mP l 0)):=by
 obtain⟨B,hB⟩:=gn (eX mP l 0);rw[hB];refine aI.aG 19 h0 func147 (h:=?_);refine aC trivial ?_;refine Wp.dJ (λm fr σ=>∃(i:Nat),∃gg:Nat->PD,(i+m=l.length/\eX mP (l.drop i) i=B)/\fr=[gH.aB l,.func 126 [],gg 2,gg 3,gg 4,gg 5,gH.aB l,.int .i64 l.length,.int .i64 i,gg 9,gg 10,gg 11,gg 12,gg 13,gg 14,gg 15,gg 16,gg 17,gg 18]/\σ=[]) ?_ (l.length) (by refine⟨0,?_⟩;exact cE (⟨Cj,hB⟩))
 rintro m fr σ ⟨i,gg,hI,rfl,rfl⟩
 obtain⟨hm,hs⟩:=hI
 by_cases hi:i<l.length
 .have q1:(i:Int)<(l.length:Int):=by omega
  obtain⟨a,ha⟩:=gn (l[i]);have hc:l.drop i=a::l.drop (i+1):=Cv;have hE:=aP5 a;rw[hc]at hs;unfold eX at hs;cases hb:mP a with
  |true=>
   rw[hb]at hE;rw[yAJ hb]at hs;have cI:B=(i:Int):=hs.symm;clear hs;refine aC (A3 q1 hi ha) ?_
   first|refine Wp.seq ?_|skip
   apply Wp.oE;refine nN (A4 h1 hE hi ha) ?_;apply SQ.nil;exact zg
  |false=>
   rw[hb]at hE;rw[yAI (by rw[hb];decide)]at hs;refine aC (A3 q1 hi ha) ?_
   first|refine Wp.seq ?_|skip
   apply Wp.oE;refine nN (A4 h1 hE hi ha) ?_;apply SQ.nil;refine aC q1 ?_;exact bl
 .have q1:¬(i:Int)<(l.length:Int):=by omega
  rw[yAs Cj]at hs;have cI:B=-1:=hs.symm;exact zg
def Q1:Nat->List PD->List aA->Option (PD×List aA):=entry (λargs=>match args with
 | [p,.func g []]=>if g=126 then cK gH i64 (λl=>dY (l.length<=1000000) (some (eX mP l 0))) [p]else none
 |_=>none)
omit hU in
theorem aP6{l:List Int}(hl:l.length<=1000000)(fl:Nat)(σ:List aA):Q1 fl [gH.aB l,.func 126 []] σ=some (.int .i64 (eX mP l 0),σ):=by
 have e1:=Em.cT (gH.str l);unfold Q1 entry cK;simp only[e1,yAK];rw[fM hl];rfl
def Q2:Nat->List PD->List aA->Option (PD×List aA):=entry (λargs=>match args with
 | [p,.func g []]=>if g=126 then cK gH Em.bool (λl=>dY (l.length<=1000000) (some (l.any mP))) [p]else none
 |_=>none)
omit hU in
theorem aP7{l:List Int}(hl:l.length<=1000000)(fl:Nat)(σ:List aA):Q2 fl [gH.aB l,.func 126 []] σ=some (.bool (l.any mP),σ):=by
 have e1:=Em.cT (gH.str l);unfold Q2 entry cK;simp only[e1,yAK];rw[fM hl];rfl
theorem aLW(h0:E 125=none)(h1:E 147=some Q1)(l:List Int)(hl:l.length<=1000000):aI prog E 125 [gH.aB l,.func 126 []] (Em.bool.aB (l.any mP)):=by
 have hE:=aP6 hl;rw[<-SJ mP l 0];refine aI.aG 9 h0 func125 (h:=?_);simp only[aU]at hE;exact Aw
def pA(r:bH):Int:=
 if fN r.name=false\/fN r.kH=false then 8 else if s7 r.num r.den≠0 then s7 r.num r.den else if ¬(-256<=r.first/\r.first<=256)then 3 else if r.mG.length=0 then 13 else if 128<r.mG.length then 4 else if r.mG.any mP=true then 3 else 0
def GB:Nat->List PD->List aA->Option (PD×List aA):=entry (cK Em.text Em.bool λs=>dY (s.length<=100000) (some (fN s)))
omit hU in
theorem JP{s:Jr}(h:s.length<=100000)(fl:Nat)(σ:List aA):GB fl [.str s] σ=some (.bool (fN s),σ):=by
 have e1:Em.text.dec (.str s)=some s:=Em.cT rfl;unfold GB entry cK;exact mu
theorem aLY(h0:E 95=none)(h1:E 125=some Q2)(l:List Int)(hl:l.length<=1000000):aI prog E 95 [gH.aB l] (i64.aB (if l.any mP=true then 3 else 0)):=by
 have hE:=aP7 hl;simp only[aU]at hE;cases hb:l.any mP with
 |true=>
  rw[hb]at hE;refine aI.aG 5 h0 func95 (h:=?_);exact Aw
 |false=>
  rw[hb]at hE;refine aI.aG 5 h0 func95 (h:=?_);exact Aw
def MF:Nat->List PD->List aA->Option (PD×List aA):=entry (cK Em.dC i64 λx=>some (s7 x.1 x.2))
omit hU in
theorem aFU(n d:Int)(fl:Nat)(σ:List aA):MF fl [.agg [.int .i64 n,.int .i64 d]] σ=some (.int .i64 (s7 n d),σ):=by
 have e1:Em.dC.dec (.agg [.int .i64 n,.int .i64 d])=some (n,d):=Em.cT rfl;unfold MF entry cK;simp only[e1];rfl
def Q4:Nat->List PD->List aA->Option (PD×List aA):=entry (cK i64 Em.bool λn=>some (decide (-256<=n)&&decide (n<=256)))
omit hU in
theorem aP8(n:Int)(fl:Nat)(σ:List aA):Q4 fl [.int .i64 n] σ=some (.bool (decide (-256<=n)&&decide (n<=256)),σ):=by
 have e1:i64.dec (.int .i64 n)=some n:=Em.cT rfl;unfold Q4 entry cK;simp only[e1];rfl
def Q3:Nat->List PD->List aA->Option (PD×List aA):=entry (cK gH i64 λl=>dY (l.length<=1000000) (some (if l.any mP=true then 3 else 0)))
omit hU in
theorem aP9{l:List Int}(h:l.length<=1000000)(fl:Nat)(σ:List aA):Q3 fl [gH.aB l] σ=some (.int .i64 (if l.any mP=true then 3 else 0),σ):=by
 have e1:=Em.cT (gH.str l);unfold Q3 entry cK;exact mu
def lV(s:List UInt8):Prop:=s.length<=100000
theorem aL2(h0:E 61=none)(h1:E 60=some GB)(h2:E 93=some MF)(h3:E 94=some Q4)(h4:E 95=some Q3)(r:bH)(hr:gS r)(hn:lV r.name)(ht:lV r.kH):aI prog E 61 [Em.aL.aB r] (i64.aB (pA r)):=by
 obtain⟨n,t,a,b,f,w⟩:=r;have e1:=JP hn;have e2:=JP ht;have e3:=aFU a b;have e4:=aP8 f;have e5:=aP9 (show w.length<=1000000 from hr);have hw:w.length<=1000000:=hr;unfold pA;simp only[aU]at e1 e2 e5;simp only[oB,aU];cases c1:fN n with
 |false=>
  rw[c1]at e1;rw[yAJ (.inl rfl)];refine aI.aG 38 h0 func61 (h:=?_);refine aC (A2 h1 e1) ?_;exact ag
 |true=>
 rw[c1]at e1;cases c2:fN t with
 |false=>
  rw[c2]at e2;rw[yAJ (.inr rfl)];refine aI.aG 38 h0 func61 (h:=?_);refine aC (A3 h1 e1 e2) ?_;exact ag
 |true=>
 rw[c2]at e2;rw[yAI Ck];obtain⟨p,hp⟩:=gn (s7 a b);rw[hp]at e3 ⊢
 by_cases c3:p=0
 rotate_left
 .rw[yAJ c3];refine aI.aG 38 h0 func61 (h:=?_);refine aC (A6 h1 h2 e1 e2 e3 c3) ?_;exact ag
 subst c3;rw[yAI Ck]
 by_cases c4:-256<=f/\f<=256
 rotate_left
 .rw[yAJ c4];have uQ:(decide (-256<=f)&&decide (f<=256))=false:=by simpa using λh=>Int.not_le.1 (λg=>c4 ⟨h,g⟩)
  rw[uQ]at e4;exact Bf
 rw[yAI (not_not_intro c4)];have uQ:(decide (-256<=f)&&decide (f<=256))=true:=by simpa using c4
 rw[uQ]at e4
 by_cases c5:w.length=0
 .rw[yAJ c5];have c5':(w.length:Int)=0:=Cj;have c6:w=[]:=yAf c5;subst c6;exact Bf
 rw[yAI c5];have c5':¬w=[]:=λh=>c5 Eb
 by_cases c6:128<w.length
 .rw[yAJ c6];have c7:128<(w.length:Int):=Cj;refine aI.aG 38 h0 func61 (h:=?_);refine aC (A11 h1 h2 h3 e1 e2 e3 e4 c5 c5' c6 c7) ?_;exact ag
 rw[yAI c6];have c7:¬128<(w.length:Int):=Cj;obtain⟨q,hq⟩:∃q,(if w.any mP=true then(3:Int)else 0)=q:=⟨_,rfl⟩;rw[hq]at e5 ⊢;refine aI.aG 38 h0 func61 (h:=?_);refine aC (A13 h1 h2 h3 h4 e1 e2 e3 e4 e5 c5 c5' c6 c7) ?_;exact ag
end
section
def AD(k:Nat):List dL->List dL->Int
 |_,[]=>0
 |pre,d::r=>if d.aL<0\/(k:Int)<=d.aL then 10 else if d.shift < -127\/127<d.shift then 3 else if (pre.any λx=>decide (x=d))=true then 9 else AD k (pre++[d]) r
def n7(k:Nat)(l:List dL):Int:=if 8<l.length then 4 else AD k [] l
variable{E:aE}(hU:aJ E)
include hU
theorem aL4(h0:E 167=none)(l:List dL)(v:dL)(hl:l.length<=1000000):aI prog E 167 [gJ.aB l,Em.draw.aB v] (i64.aB (eX (λx=>decide (x=v)) l 0)):=by
 obtain⟨B,hB⟩:∃B,eX (λx=>decide (x=v)) l 0=B:=⟨_,rfl⟩;rw[hB];obtain⟨v0,v1⟩:=v;simp only[EY];refine aI.aG 19 h0 func167 (h:=?_);refine aC trivial ?_;refine Wp.dJ (λm fr σ=>∃(i:Nat),∃gg:Nat->PD,(i+m=l.length/\eX (λx=>decide (x=dL.mk v0 v1)) (l.drop i) i=B)/\fr=[gJ.aB l,gg 1,gg 2,.ptr 0 0,gg 4,gg 5,gJ.aB l,.int .i64 l.length,.int .i64 i,gg 9,gg 10,gg 11,gg 12,gg 13,gg 14,gg 15,gg 16,gg 17,gg 18]/\σ=[.box (.agg [.int .i64 v0,.int .i64 v1])]) ?_ (l.length) (by refine⟨0,?_⟩;exact cE (⟨Cj,hB⟩))
 rintro m fr σ ⟨i,gg,hI,rfl,rfl⟩
 obtain⟨hm,hs⟩:=hI
 by_cases hi:i<l.length
 .have q1:(i:Int)<(l.length:Int):=by omega
  obtain⟨a,ha⟩:=gn (l[i]);have hc:l.drop i=a::l.drop (i+1):=Cv;rw[hc]at hs;unfold eX at hs;obtain⟨a0,a1⟩:=a
  by_cases hb:a0=v0
  .by_cases hb2:a1=v1
   .rw[yAJ (by rw[hb,hb2];simp)]at hs;have cI:B=(i:Int):=hs.symm;clear hs;refine aC (A5 q1 hi ha @hb hb2) ?_;exact aq
   .rw[yAI (by simpa using λ_=>hb2)]at hs;refine aC (An @q1 (An @hi (An @ha (An @hb (An @hb2 ((yAU hb2))))))) ?_;exact bl
  .rw[yAI (by simpa using λh=>absurd h hb)]at hs;refine aC (An @q1 (An @hi (An @ha (An @hb ((yAU hb)))))) ?_;exact bl
 .have q1:¬(i:Int)<(l.length:Int):=by omega
  rw[yAs Cj]at hs;have cI:B=-1:=hs.symm;exact zg
def Q5:Nat->List PD->List aA->Option (PD×List aA):=entry (eM gJ Em.draw i64 λl v=>dY (l.length<=1000000) (some (eX (λx=>decide (x=v)) l 0)))
omit hU in
theorem aP3{l:List dL}{v:dL}(hl:l.length<=1000000)(fl:Nat)(σ:List aA):Q5 fl [gJ.aB l,Em.draw.aB v] σ=some (.int .i64 (eX (λx=>decide (x=v)) l 0),σ):=by
 have e1:=Em.cT (gJ.str l);have e2:=Em.cT (Em.draw.str v);unfold Q5 entry eM;simp only[e1,e2];rw[fM hl];rfl
def Q6:Nat->List PD->List aA->Option (PD×List aA):=entry (eM gJ Em.draw Em.bool λl v=>dY (l.length<=1000000) (some (l.any λx=>decide (x=v))))
omit hU in
theorem aP4{l:List dL}{v:dL}{p:PD}(hl:l.length<=1000000)(hp:p.strip=gJ.aB l)(fl:Nat)(σ:List aA):Q6 fl [p,Em.draw.aB v] σ=some (.bool (l.any λx=>decide (x=v)),σ):=by
 have e1:=Em.cT hp;have e2:=Em.cT (Em.draw.str v);unfold Q6 entry eM;simp only[e1,e2];rw[fM hl];rfl
theorem aL6(h0:E 148=none)(h1:E 167=some Q5)(l:List dL)(v:dL)(hl:l.length<=1000000):aI prog E 148 [gJ.aB l,Em.draw.aB v] (Em.bool.aB (l.any λx=>decide (x=v))):=by
 have hE:=aP3 (v:=v) hl;rw[<-SJ _ l 0];simp only[aU,EY]at hE;simp only[EY];refine aI.aG 9 h0 func148 (h:=?_);exact Aw
theorem aL8(h0:E 128=none)(h1:E 148=some Q6)(rs:List bH)(hrs:rs.length<=1000000)(lo hg:Int)(l:List dL)(hl:l.length<=1000000) :
  aI prog E 128 [.agg [aR.aB rs,.int .i64 lo,.int .i64 hg],gJ.aB l] (i64.aB (n7 rs.length l)):=by
 unfold n7
 by_cases c:8<l.length
 .have c1:8<(l.length:Int):=by omega
  rw[yAJ c];refine aI.aG 45 h0 func128 (h:=?_);refine aC (A2 @c c1) ?_;exact ag
 have c1:¬8<(l.length:Int):=Cj;rw[yAI c];obtain⟨B,hB⟩:=gn (AD rs.length [] l);rw[hB];refine aI.aG 45 h0 func128 (h:=?_);refine aC (A2 @c c1) ?_;obtain⟨X,hX⟩:=gn (aA.box (.agg [.slice (sz 6 rs) (rs.map Em.aL.aB) .any,.int .i64 lo,.int .i64 hg]));refine Wp.dJ (λm fr σ=>∃(i:Nat) (σ1:List aA),∃gg:Nat->PD,(i+m=l.length/\σ1[0]?=some X/\AD rs.length (l.take i) (l.drop i)=B)/\fr=[gg 0,gJ.aB l,.ptr 0 0,gg 3,gg 4,gg 5,gg 6,gg 7,gg 8,gg 9,gJ.aB l,.int .i64 l.length,.int .i64 i,gg 13,gg 14,gg 15,gg 16,gg 17,gg 18,gg 19,gg 20,gg 21,gg 22,gg 23,gg 24,gg 25,gg 26,gg 27,gg 28,gg 29,gg 30,gg 31,gg 32,gg 33,gg 34,gg 35,gg 36,gg 37,gg 38,gg 39,gg 40,gg 41,gg 42,gg 43,gg 44]/\σ=σ1) ?_ (l.length) (by refine⟨0,[X],?_⟩;exact fQ (⟨Cj,rfl,hB⟩) @hX)
 rintro m fr σ ⟨i,σ1,gg,hI,rfl,rfl⟩
 obtain⟨hm,hx0,hs⟩:=hI
 by_cases hi:i<l.length
 .have q1:(i:Int)<(l.length:Int):=by omega
  obtain⟨a,ha⟩:=gn (l[i]);have hc:l.drop i=a::l.drop (i+1):=Cv;rw[hc]at hs;unfold AD at hs;obtain⟨a0,a1⟩:=a;have gY:0<σ.length:=(yA.1 hx0).1;have j0:∀x:aA,(σ++[x])[σ.length]?=some x:=λx=>Ck
  have j1:∀x:aA,(σ++[x])[0]?=some X:=λx=>Fh
  rw[<-hX]at j1;have hx1:=hx0;rw[<-hX]at hx1;obtain⟨hltx,hxe⟩:=yA.1 hx1
  by_cases c2:a0<0
  .rw[yAJ (.inl c2)]at hs;subst hs;refine aC (A9 q1 hi ha j0 j1 hx1 gY hxe c2) ?_;exact ag
  by_cases c3:(rs.length:Int)<=a0
  .rw[yAJ (.inr c3)]at hs;subst hs;refine aC (A10 q1 hi ha j0 j1 hx1 gY hxe c2 c3) ?_;exact ag
  rw[yAI (λh=>h.elim c2 c3)]at hs
  by_cases c4:a1 < -127
  .rw[yAJ (.inl c4)]at hs;subst hs;refine aC (A11 q1 hi ha j0 j1 hx1 gY hxe c2 c3 c4) ?_;exact ag
  by_cases c5:127<a1
  .rw[yAJ (.inr c5)]at hs;subst hs;refine aC (A12 q1 hi ha j0 j1 hx1 gY hxe c2 c3 c4 c5) ?_;exact ag
  rw[yAI (λh=>h.elim c4 c5)]at hs;have hsl:(PD.slice (sz 2 l) ((l.map Em.draw.aB).take i) .any).strip=gJ.aB (l.take i):=by
   rw[PD.sA,<-yCV,show((l.take i).map Em.draw.aB).map PD.strip=(l.take i).map Em.draw.aB by rw[yBE];exact yAG λx _=>Em.draw.str x];have hne:l≠[]:=λh=>by rw[h]at hi;simp at hi
   rw[aU];simp[sz,hne]
  have hE:=aP4 (v:=⟨a0,a1⟩) (l:=l.take i) (p:=PD.slice (sz 2 l) ((l.map Em.draw.aB).take i) .any) Er hsl;simp only[EY]at hE;have hle:i<=l.length:=Cj;have htk:l.take (i+1)=l.take i++[⟨a0,a1⟩]:=Hp;cases hb:(l.take i).any λx=>decide (x=dL.mk a0 a1)with
  |true=>
   rw[hb]at hE hs;rw[yAJ rfl]at hs;subst hs;refine aC Bw ?_;exact ag
  |false=>
   rw[hb]at hE hs;rw[yAI Cn]at hs;refine aC Bw ?_;refine bM.normal (m-1) Cj (by refine⟨i+1,σ++[.box (.agg [.int .i64 a0,.int .i64 a1])],?_⟩;exact cE (⟨Cj,Fh,by rw[htk];exact hs⟩))
 .have q1:¬(i:Int)<(l.length:Int):=by omega
  rw[yAs Cj]at hs;have cI:B=0:=hs.symm;exact zg
end
section
def zP(r:bH):Prop:=gS r/\lV r.name/\lV r.kH
def AG:List bH->Int
 | []=>0
 |r::t=>if pA r≠0 then pA r else AG t
def yF(rs:List bH)(lo hg:Int):Int:=if 60<rs.length then 4 else if AG rs≠0 then AG rs else nG lo hg
def MG:Nat->List PD->List aA->Option (PD×List aA):=entry (cK Em.aL i64 λr=>dY (zP r) (some (pA r)))
theorem aFM{r:bH}(h:zP r)(fl:Nat)(σ:List aA):MG fl [Em.aL.aB r] σ=some (.int .i64 (pA r),σ):=by
 have e1:=Em.cT (Em.aL.str r);unfold MG entry cK;exact mu
def IX:Nat->List PD->List aA->Option (PD×List aA):=entry (cK Em.dC i64 λx=>some (nG x.1 x.2))
theorem aAe(n d:Int)(fl:Nat)(σ:List aA):IX fl [.agg [.int .i64 n,.int .i64 d]] σ=some (.int .i64 (nG n d),σ):=by
 have e1:Em.dC.dec (.agg [.int .i64 n,.int .i64 d])=some (n,d):=Em.cT rfl;unfold IX entry cK;simp only[e1];rfl
variable{E:aE}(hU:aJ E)
include hU
theorem aMa(h0:E 127=none)(h1:E 61=some MG)(h2:E 96=some IX)(rs:List bH)(hrs:∀r∈rs,zP r)(hrl:rs.length<=1000000)(lo hg:Int) :
  aI prog E 127 [.agg [aR.aB rs,.int .i64 lo,.int .i64 hg]] (i64.aB (yF rs lo hg)):=by
 unfold yF
 by_cases c:60<rs.length
 .have c1:60<(rs.length:Int):=by omega
  rw[yAJ c];refine aI.aG 26 h0 func127 (h:=?_);refine aC (A2 @c c1) ?_;exact ag
 have c1:¬60<(rs.length:Int):=Cj;rw[yAI c];obtain⟨B,hB⟩:=gn ((if AG rs≠0 then AG rs else nG lo hg));rw[hB];have hC:=aAe lo hg;refine aI.aG 26 h0 func127 (h:=?_);refine aC (A2 @c c1) ?_;obtain⟨X,hX⟩:=gn (aA.box (.agg [.slice (sz 6 rs) (rs.map Em.aL.aB) .any,.int .i64 lo,.int .i64 hg]));refine Wp.dJ (λm fr σ=>∃(i:Nat) (σ1:List aA),∃gg:Nat->PD,(i+m=rs.length/\σ1[0]?=some X/\(if AG (rs.drop i)≠0 then AG (rs.drop i)else nG lo hg)=B)/\fr=[gg 0,.ptr 0 0,gg 2,gg 3,gg 4,gg 5,gg 6,gg 7,gg 8,gg 9,gg 10,aR.aB rs,.int .i64 rs.length,.int .i64 i,gg 14,gg 15,gg 16,gg 17,gg 18,gg 19,gg 20,gg 21,gg 22,gg 23,gg 24,gg 25]/\σ=σ1) ?_ (rs.length) (by refine⟨0,[X],?_⟩;exact fQ (⟨Cj,rfl,hB⟩) @hX)
 rintro m fr σ ⟨i,σ1,gg,hI,rfl,rfl⟩
 obtain⟨hm,hx0,hs⟩:=hI;have hx1:=hx0;rw[<-hX]at hx1;obtain⟨gY,hxe⟩:=yA.1 hx1
 by_cases hi:i<rs.length
 .have q1:(i:Int)<(rs.length:Int):=by omega
  obtain⟨a,ha⟩:=gn (rs[i]);have hc:rs.drop i=a::rs.drop (i+1):=Cv;rw[hc]at hs;unfold AG at hs;have hE:=aFM (hrs a (ha▸yAm hi));have j0:∀x:aA,(σ++[x])[σ.length]?=some x:=λx=>Ck
  obtain⟨e,he⟩:=gn (pA a);rw[he]at hE hs;simp only[oB,aU]at hE
  by_cases c2:e=0
  .subst c2;simp only[ne_eq,yBM,yAN]at hs;refine aC (A6 q1 hi ha j0 h1 hE) ?_;refine bM.normal (m-1) Cj (by refine⟨i+1,σ++[.box (.agg [.str a.name,.str a.kH,.int .i64 a.num,.int .i64 a.den,.int .i64 a.first,.slice (sz 1 a.mG) (a.mG.map i64.aB) .any])],?_⟩;exact cE (⟨Cj,Fh,hs⟩))
  .simp only[ne_eq,c2,yCz,yAK]at hs;subst hs;refine aC (A7 q1 hi ha j0 h1 hE c2) ?_;exact ag
 .have q1:¬(i:Int)<(rs.length:Int):=by omega
  rw[yAs Cj]at hs;have hs2:nG lo hg=B:=hs;rw[hs2]at hC;refine aC (A6 q1 hx1 gY hxe h2 hC) ?_;exact ag
end
end Go.Kz
namespace Go.Kz
section
open Go
section
variable{P:Program}{call:cY}{fl:Nat}{ops:Ju}{l:List Oper}{fr aX:Jq}{σ σ1:Jp}{K:List PD->List aA->Prop}
variable{dst:Option Tmp}{x y z:Operand}{t ty:TypeId}{pos:String}{edges:Array Edge}{guard:Option (Nat×Bool)}{p q v r:PD}{ok:Bool}
theorem SL.lookup(hw:Wt (Region.wanted ⟨dst,.lookup t x y ok,ty,pos,edges,guard⟩ (cH ops fr)=true))(hx:cU fr x=some p)(hy:cU fr y=some q)(hr:By (IA P σ t p q ok=some r))(hf:Fr (bC fr dst r=aX))(k:SQ P call fl ops l aX σ K) :
  SQ P call fl ops (⟨dst,.lookup t x y ok,ty,pos,edges,guard⟩::l) fr σ K:=
 .step hw.h (yZ rfl rfl (by simp only[dE,fJ hx,fJ hy,hr.h])) (hf.h▸k)
theorem SL.mapUpdate(hw:Wt (Region.wanted ⟨dst,.mapUpdate t x y z,ty,pos,edges,guard⟩ (cH ops fr)=true))(hx:cU fr x=some p)(hy:cU fr y=some q)(hz:cU fr z=some v)(hr:By (IB P fl σ t p q v=some σ1))(hf:Fr (bC fr dst (.aH [])=aX))(k:SQ P call fl ops l aX σ1 K) :
  SQ P call fl ops (⟨dst,.mapUpdate t x y z,ty,pos,edges,guard⟩::l) fr σ K:=
 .step hw.h (yZ rfl rfl (by simp only[dE,fJ hx,fJ hy,fJ hz,hr.h])) (hf.h▸k)
theorem SL.makeMap{kt e:TypeId}(hw:Wt (Region.wanted ⟨dst,.makeMap t none,ty,pos,edges,guard⟩ (cH ops fr)=true))(hx:By (P.underlying t=some (.map kt e)))(hr:Ns (σ++[.map []]=σ1)){n:Nat}(hn:Ns (σ.length=n))(hf:Fr (bC fr dst (.gC n)=aX))(k:SQ P call fl ops l aX σ1 K) :
  SQ P call fl ops (⟨dst,.makeMap t none,ty,pos,edges,guard⟩::l) fr σ K:=by
 obtain⟨rfl⟩:=hr.h;obtain⟨rfl⟩:=hn.h;exact .step hw.h (yZ rfl rfl (by simp only[dE,hx.h])) (hf.h▸k)
end
theorem nH{X R G:Prop}(gx:X)(r:R)(h:X->Hd R->G:=by
  (intro gx hh
   (repeat(first
    |(refine Fr.i ?_;simp only[bC,yBo,yBt];try rfl)
    |(refine By.i ?_;(focus(simp(disch:=first|omega|(simp;done)|(simp;omega)) [wrap_i64,wrap_u64,gx,entry,xI,cK,eM,wF];first|done|rfl|exact⟨rfl,rfl⟩)))
    |(refine By.i ?_;simp(disch:=first|omega|(simp;done)|(simp;omega)) [wrap_i64,wrap_u64,gx,entry,xI,cK,eM,wF];refine⟨Cz,rfl⟩)
    |(refine Wt.i ?_;first|rfl|(focus(simp[gx,entry,xI,cK,eM,wF];done)))
    |(refine Ns.i ?_;(try simp only[yAl,yAV,yBs,yAi,yAa,yAT,yAO,yAp,Nat.reduceAdd]);rfl)|rfl
    |(apply SL.pass;(focus(refine Wt.i ?_;rfl)))|(apply tu;(focus decide +kernel))|(apply tu;(focus rfl))|apply SL.move|apply SL.assign|apply SL.load|apply SL.yV|apply tu|apply SL.make
    |apply SL.binOp|apply SL.append|apply tu|apply SL.builtin|apply SL.fieldAddr|apply SL.indexAddr|apply SL.field|apply SL.extract|apply SL.yW|apply SL.pick|apply SL.store|apply SL.unOp|apply SL.convert|apply SL.index
    |apply SL.slice|apply SL.build|apply tu|apply SL.buildSlice|apply SL.box|apply SL.alloc|apply SL.makeFunc|apply SL.lookup|apply SL.mapUpdate|apply SL.makeMap|apply SQ.nil|(apply WL.tH;(focus decide +kernel))
    |(apply WL.CY Cs;(focus decide +kernel);(focus decide +kernel))|(apply tu;(focus decide +kernel);(focus decide +kernel))|(apply WL.KJ;(focus decide +kernel))
    |(apply WL.KK Cs;(focus decide +kernel);(focus decide +kernel))|(apply WL.KL;(focus decide +kernel);(focus decide +kernel))|(apply tu Cs;(focus decide +kernel);(focus decide +kernel))
    |(apply WL.KN Cs;(focus decide +kernel);(focus decide +kernel))|(apply WL.KO Cs;(focus decide +kernel);(focus decide +kernel))
    |(apply tu Cs;(focus decide +kernel);(focus decide +kernel))|apply tu|(apply WL.ct;(focus rfl))|(apply WL.cf;(focus rfl))|refine mQ.normal ?_|refine mQ.ret ?_|refine mQ.exit ?_
    |refine kJ.normal ?_|refine kJ.ret ?_|refine kJ.here ?_|refine tu Cn ?_|refine Wp.block ?_|refine Wp.skip ?_|refine Wp.ret ?_|refine Wp.exit ?_|refine bM.ret ?_|refine bM.exit ?_
    |refine nM.normal ?_|refine nM.ret ?_|refine nM.exit ?_|refine Wp.seq (Wp.seq ?_)|refine Wp.seq (Wp.block ?_)|(refine Wp.seq ?_;apply WL.ct;(focus rfl))|(refine Wp.seq ?_;apply WL.cf;(focus rfl))))
   exact hh.out)):G:=h gx ⟨r⟩
end
end Go.Kz
namespace Go.Kz
open Go Go.Proofs
section
def GS(pv:Option Int)(n:Int):Bool:=match pv with|none=>false|some t=>decide (n<=t)
def AF(k:Nat)(lo hg:Int):Option Int->List jA->Int
 |_,[]=>0
 |pv,g::r=>if min g.lo g.hi<lo\/hg<max g.lo g.hi then 23 else if g.hi<g.lo\/GS pv g.lo=true then 6 else if n7 k g.aQ≠0 then n7 k g.aQ else AF k lo hg (some g.hi) r
def NJ(l:List jA):Nat->Option Int
 |0=>none
 |j+1=>(l[j]?).map jA.hi
def AE(k:Nat)(lo hg:Int)(l:List jA):Int:=if l.length=0 then 13 else if 12<l.length then 4 else AF k lo hg none l
def s5(rs:List bH)(lo hg:Int)(s:cJ):Int:=
 if yF rs lo hg≠0 then yF rs lo hg else if fN s.name=false then 8 else if s7 s.num s.den≠0 then s7 s.num s.den else AE rs.length lo hg s.aN
def bV.place:bV (List bH×Int×Int):=((bV.one aR).pair ((bV.one i64).pair (.one i64))).nK (λr=>(r.1,r.2.1,r.2.2)) (λx y h=>by obtain⟨_,_,_⟩:=x;obtain⟨_,_,_⟩:=y;simpa using h)
def Em.place:Em (List bH×Int×Int):=.agg .place
@[simp] theorem aAd{r:List bH×Int×Int}:Em.place.aB r=.agg [aR.aB r.1,.int .i64 r.2.1,.int .i64 r.2.2]:=rfl
def CP(rs:List bH):Prop:=(∀r∈rs,zP r)/\rs.length<=1000000
def Q8:Nat->List PD->List aA->Option (PD×List aA):=entry (cK Em.place i64 λx=>dY (CP x.1) (some (yF x.1 x.2.1 x.2.2)))
theorem aP1{rs:List bH}(h:CP rs)(lo hg:Int)(fl:Nat)(σ:List aA):Q8 fl [.agg [aR.aB rs,.int .i64 lo,.int .i64 hg]] σ=some (.int .i64 (yF rs lo hg),σ):=by
 have e1:=Em.cT (Em.place.str (rs,lo,hg));rw[aAd]at e1;unfold Q8 entry cK;exact mu
def Q7:Nat->List PD->List aA->Option (PD×List aA):=entry (eM Em.place gJ i64 λx l=>dY (x.1.length<=1000000/\l.length<=1000000) (some (n7 x.1.length l)))
theorem aP2{rs:List bH}{l:List dL}(h:rs.length<=1000000)(hl:l.length<=1000000)(lo hg:Int)(fl:Nat)(σ:List aA):Q7 fl [.agg [aR.aB rs,.int .i64 lo,.int .i64 hg],gJ.aB l] σ=some (.int .i64 (n7 rs.length l),σ):=by
 have e1:=Em.cT (Em.place.str (rs,lo,hg));rw[aAd]at e1;have e2:=Em.cT (gJ.str l);unfold Q7 entry eM;simp only[e1,e2];rw[fM ⟨h,hl⟩];rfl
variable{E:aE}(hU:aJ E)
include hU
theorem aMc(h0:E 97=none)(h1:E 127=some Q8)(h2:E 60=some GB)(h3:E 93=some MF)(h4:E 128=some Q7)(rs:List bH)(hrs:CP rs)(lo hg:Int)(s:cJ)(hs:jQ s)(hn:lV s.name) :
  aI prog E 97 [.agg [aR.aB rs,.int .i64 lo,.int .i64 hg],Em.stop.aB s] (i64.aB (s5 rs lo hg s)):=by
 obtain⟨n,a,b,l⟩:=s;have e1:=aP1 hrs lo hg;have e2:=JP hn;have e3:=aFU a b;have hl:l.length<=1000000:=hs.1;unfold s5;obtain⟨p,hp⟩:=gn (yF rs lo hg);obtain⟨q,hq⟩:=gn (s7 a b);rw[hp]at e1 ⊢;simp only[aU]at e1;simp only[hq]at e3 ⊢;simp only[pZ,aU]
 by_cases c1:p=0
 rotate_left
 .rw[yAJ c1];refine aI.aG 94 h0 func97 (h:=?_);refine aC (A3 h1 e1 c1) ?_;exact ag
 subst c1;simp only[ne_eq,yBM,yAN];cases c2:fN n with
 |false=>
  simp only at e2;rw[c2]at e2;rw[yAJ rfl];refine aI.aG 94 h0 func97 (h:=?_);refine aC (A4 h1 h2 e1 e2) ?_;exact ag
 |true=>
 simp only at e2;rw[c2]at e2;rw[yAI Ck]
 by_cases c3:q=0
 rotate_left
 .rw[yAJ c3];refine aI.aG 94 h0 func97 (h:=?_);refine aC (A7 h1 h2 h3 e1 e2 e3 c3) ?_;exact ag
 subst c3;simp only[yBM,yAN];unfold AE
 by_cases c4:l.length=0
 .rw[yAJ c4];have c6:l=[]:=yAf c4;subst c6;refine aI.aG 94 h0 func97 (h:=?_);refine aC (A6 h1 h2 h3 e1 e2 e3) ?_;exact ag
 rw[yAI c4];have uQ:¬l=[]:=λh=>c4 Eb
 by_cases c5:12<l.length
 .rw[yAJ c5];have c6:12<(l.length:Int):=Cj;refine aI.aG 94 h0 func97 (h:=?_);refine aC (A10 h1 h2 h3 e1 e2 e3 c4 uQ c5 c6) ?_;exact ag
 rw[yAI c5];have c6:¬12<(l.length:Int):=Cj;obtain⟨B,hB⟩:=gn (AF rs.length lo hg none l);rw[hB];refine aI.aG 94 h0 func97 (h:=?_);refine aC (A10 h1 h2 h3 e1 e2 e3 c4 uQ c5 c6) ?_;obtain⟨X,hX⟩:=gn (aA.box (.agg [.slice (sz 6 rs) (rs.map Em.aL.aB) .any,.int .i64 lo,.int .i64 hg]));obtain⟨Y,hY⟩:=gn (aA.box (.agg [.str n,.int .i64 a,.int .i64 b,.slice (sz 3 l) (l.map Em.eZ.aB) .any]));refine Wp.dJ (λm fr σ=>∃(i:Nat) (σ1:List aA),∃gg:Nat->PD,(i+m=l.length/\σ1[0]?=some X/\σ1[1]?=some Y/\AF rs.length lo hg (NJ l i) (l.drop i)=B)/\fr=gg 0::gg 1::.ptr 0 0::.ptr 1 0::gg 4::gg 5::gg 6::gg 7::gg 8::gg 9::gg 10::gg 11::gg 12::gg 13::gg 14::gg 15::gg 16::gg 17::gg 18::gg 19::gg 20::gg 21::gg 22::gg 23::gg 24::gg 25::gg 26::gg 27::gg 28::gg 29::gg 30::gg 31::gg 32::gg 33::gg 34::gg 35::oQ.aB l::.int .i64 l.length::.int .i64 i::gg 39::gg 40::gg 41::gg 42::gg 43::gg 44::gg 45::gg 46::gg 47::gg 48::gg 49::gg 50::gg 51::gg 52::gg 53::gg 54::gg 55::gg 56::gg 57::gg 58::gg 59::gg 60::gg 61::gg 62::gg 63::gg 64::gg 65::gg 66::gg 67::gg 68::gg 69::gg 70::gg 71::gg 72::gg 73::gg 74::gg 75::gg 76::gg 77::gg 78::gg 79::gg 80::gg 81::gg 82::gg 83::gg 84::gg 85::gg 86::gg 87::gg 88::gg 89::gg 90::gg 91::gg 92::gg 93::[]/\σ=σ1) ?_ (l.length) (by refine⟨0,[X,Y],?_⟩;exact fQ (⟨Cj,rfl,rfl,hB⟩) (A2 hX hY))
 rintro m fr σ ⟨i,σ1,gg,hI,rfl,rfl⟩
 obtain⟨hm,hx0,hy0,hs2⟩:=hI
 by_cases hi:i<l.length
 .have q1:(i:Int)<(l.length:Int):=by omega
  obtain⟨g,iE⟩:=gn (l[i]);have hc:l.drop i=g::l.drop (i+1):=by rw[yAq hi,iE]
  have hpv:NJ l (i+1)=some g.hi:=by
   show(l[i]?).map jA.hi=_
   rw[yAh hi,iE];rfl
  rw[hc]at hs2;unfold AF at hs2;have hgm:g∈l:=iE▸yAm hi
  have hgl:g.aQ.length<=1000000:=hs.2 g hgm;have hD:=aP2 hrs.2 hgl lo hg;have hx1:=hx0;have hy1:=hy0;rw[<-hX]at hx1;rw[<-hY]at hy1;obtain⟨gY,hxe⟩:=yA.1 hx1;obtain⟨mA,hye⟩:=yA.1 hy1;obtain⟨g0,g1,gd⟩:=g;simp only[aU]at hD;simp only at hs2 hpv hgl hD;have j0:∀x:aA,(σ++[x])[σ.length]?=some x:=λx=>Ck
  obtain⟨MN,hMN⟩:=gn (min g0 g1);obtain⟨MX,hMX⟩:=gn (max g0 g1);have hmn:(if g1<g0 then g1 else g0)=MN:=by rw[<-hMN];split<;>omega
  have hmx:(if g0<g1 then g1 else g0)=MX:=by rw[<-hMX];split<;>omega
  rw[hMN,hMX]at hs2
  by_cases c7:MN<lo
  .rw[yAJ (.inl c7)]at hs2;subst hs2;refine aC (A13 q1 hi iE j0 hx1 hy1 gY mA hxe hye hmn hmx c7) ?_;exact ag
  by_cases c8:hg<MX
  .rw[yAJ (.inr c8)]at hs2;subst hs2;refine aC (A14 q1 hi iE j0 hx1 hy1 gY mA hxe hye hmn hmx c7 c8) ?_;exact ag
  rw[yAI (λh=>h.elim c7 c8)]at hs2
  by_cases c9:g1<g0
  .rw[yAJ (.inl c9)]at hs2;subst hs2;have GW:¬g0<g1:=Cj;have d7:¬g1<lo:=Cj;have d8:¬hg<g0:=Cj;refine aC (A14 q1 hi iE j0 hx1 hy1 gY mA hxe hye c9 GW @d7 @d8) ?_;exact ag
  have d7:¬g0<lo:=Cj;have d8:¬hg<g1:=Cj;have hm2:(if g0<g1 then g1 else g0)=g1:=by split<;>omega
  clear hmn hmx hMN hMX c7 c8;obtain⟨dr,hdr⟩:=gn (n7 rs.length gd);rw[hdr]at hD hs2;obtain⟨Z,hZ⟩:=gn (aA.box (.agg [.int .i64 g0,.int .i64 g1,.slice (sz 2 gd) (gd.map Em.draw.aB) .any]))
  by_cases ci:i=0
  .subst ci;rw[show NJ l 0=none from rfl,yAI (λh=>h.elim c9 (by simp[GS]))]at hs2
   by_cases vX:dr=0
   .subst vX;simp only[ne_eq,yBM,yAN]at hs2;refine aC (A16 q1 hi iE j0 hx1 hy1 gY mA hxe hye c9 hm2 @d7 @d8 h4 hD) ?_;refine bM.normal (m-1) Cj (by refine⟨1,σ++[Z],?_⟩;exact fQ (⟨Cj,Fh,by rw[yAg mA];exact hy0,by rw[show NJ l 1=some g1 from hpv];exact hs2⟩) @hZ)
   .simp only[ne_eq,vX,yCz,yAK]at hs2;subst hs2;refine aC (A17 q1 hi iE j0 hx1 hy1 gY mA hxe hye c9 hm2 @d7 @d8 h4 hD vX) ?_;exact ag
  .obtain⟨j,hji⟩:∃j,i=j+1:=⟨i-1,Cj⟩;have hj:j<l.length:=Cj;obtain⟨p,sF⟩:=gn (l[j]);have hpo:NJ l i=some p.hi:=by
    rw[hji];show(l[j]?).map jA.hi=_
    rw[yAh hj,sF];rfl
   rw[hpo]at hs2;obtain⟨p0,p1,pd⟩:=p;have w1:IntKind.i64.wrap ((i:Int)-1)=(j:Int):=Cq;have q3:0<i:=Cj
   by_cases AJ:g0<=p1
   .rw[yAJ (.inr (by simpa [GS]using AJ))]at hs2;subst hs2;refine aC (A19 q1 hi iE j0 hx1 hy1 gY mA hxe hye c9 hm2 @d7 @d8 q3 w1 hj sF AJ) ?_;exact ag
   rw[yAI (λh=>h.elim c9 (by simpa [GS]using AJ))]at hs2
   by_cases vX:dr=0
   .subst vX;simp only[ne_eq,yBM,yAN]at hs2;refine aC (A20 q1 hi iE j0 hx1 hy1 gY mA hxe hye c9 hm2 @d7 @d8 h4 hD q3 w1 hj (A2 sF AJ)) ?_;refine bM.normal (m-1) Cj (by refine⟨i+1,σ++[Z],?_⟩;exact fQ (⟨Cj,Fh,by rw[yAg mA];exact hy0,by rw[hpv];exact hs2⟩) @hZ)
   .simp only[ne_eq,vX,yCz,yAK]at hs2;subst hs2;refine aC (A20 q1 hi iE j0 hx1 hy1 gY mA hxe hye c9 hm2 @d7 @d8 h4 hD q3 w1 hj (A3 sF AJ vX)) ?_;exact ag
 .have q1:¬(i:Int)<(l.length:Int):=by omega
  rw[yAs Cj]at hs2;have cI:B=0:=hs2.symm;exact zg
end
section
def lH{α:Type}(p:α->Bool):List α->Nat
 | []=>0
 |x::r=>if p x=true then 1 else lH p r+1
def xA(x:bX):aA:=.box (.agg [.str x.name,.int .i64 x.dK,.int .i64 x.dst,.int .i64 x.shift,.bool x.qJ])
def jX(nm:List UInt8)(x:bX):Bool:=decide (x.name=nm)
def B8:Nat->List PD->List aA->Option (PD×List aA):=λ_ args σ=>match args with
 | [.agg [.str n,.int .i64 a,.int .i64 b,.int .i64 c,.bool t],.ptr id 0]=>match σ[id]? with
   |some (.box (.agg [.str nm,.int .i64 _,.int .i64 _,.int .i64 _,.bool _]))=>some (.bool (decide (n=nm)),σ++[.box (.agg [.str n,.int .i64 a,.int .i64 b,.int .i64 c,.bool t])])
   |_=>none
 |_=>none
variable{E:aE}(hU:aJ E)
include hU
theorem aPY(h0:E 99=none)(fl:Nat)(x0:List UInt8)(x1 x2 x3:Int)(x4:Bool)(nm:List UInt8)(c1 c2 c3:Int)(c4:Bool)(id:Nat)(τ:List aA)(hid:τ[id]?=some (.box (.agg [.str nm,.int .i64 c1,.int .i64 c2,.int .i64 c3,.bool c4]))) :
  aK prog E fl (.inl 99) [.agg [.str x0,.int .i64 x1,.int .i64 x2,.int .i64 x3,.bool x4],.ptr id 0] τ (λp1 σ1=>p1=.bool (decide (x0=nm))/\σ1=τ++[.box (.agg [.str x0,.int .i64 x1,.int .i64 x2,.int .i64 x3,.bool x4])]):=by
 obtain⟨hlt,he⟩:=yA.1 hid;have j0:∀x:aA,(τ++[x])[τ.length]?=some x:=λx=>Ck
 by_cases c:x0=nm
 .rw[yAX c];refine aK.aG 9 h0 func99 (h:=?_);exact AW
 .rw[yBe c];have f0:(x0==nm)=false:=by simpa using c
  refine aK.aG 9 h0 func99 (h:=?_);exact Au
theorem aMe(hE:aF prog E)(h0:E 99=none):aF prog (E.add 99 B8):=
 hE.add Cl λfl args σ p σ' h=>by
  unfold B8 at h;split at h
  .rename_i n a b c t id;split at h
   .rename_i nm c1 c2 c3 c4 hid;simp only[yAb,yAc]at h;obtain⟨rfl,rfl⟩:=h;exact aK.w9 (aPY hU h0 fl n a b c t nm c1 c2 c3 c4 id σ hid)
   .cases h
  .cases h
theorem aPZ(h0:E 129=none)(h1:E 99=some B8)(fl:Nat)(l:List bX)(nm:List UInt8)(c1 c2 c3:Int)(c4:Bool)(id:Nat)(τ:List aA)(hid:τ[id]?=some (.box (.agg [.str nm,.int .i64 c1,.int .i64 c2,.int .i64 c3,.bool c4])))(hl:l.length<=1000000)(z:Nat)(tok:Tok)(hz:l=[]\/z=5) :
  aK prog E fl (.inl 129) [.slice z (l.map Em.aZ.aB) tok,.func 99 [.ptr id 0]] τ (λp1 σ1=>p1=.int .i64 (eX (jX nm) l 0)/\σ1=τ++(l.take (lH (jX nm) l)).map xA):=by
 obtain⟨B,hB⟩:=gn (eX (jX nm) l 0);obtain⟨V,hV⟩:=gn (lH (jX nm) l);rw[hB,hV];refine aK.aG 19 h0 func129 (h:=?_);refine aC trivial ?_;refine Wp.dJ (λm fr σ=>∃(i:Nat),∃gg:Nat->PD,(i+m=l.length/\eX (jX nm) (l.drop i) i=B/\lH (jX nm) (l.drop i)+i=V)/\fr=[.slice z (l.map Em.aZ.aB) tok,.func 99 [.ptr id 0],gg 2,gg 3,gg 4,gg 5,.slice z (l.map Em.aZ.aB) tok,.int .i64 l.length,.int .i64 i,gg 9,gg 10,gg 11,gg 12,gg 13,gg 14,gg 15,gg 16,gg 17,gg 18]/\σ=τ++(l.take i).map xA) ?_ (l.length) (by refine⟨0,?_⟩;exact cE (⟨Cj,hB,hV⟩))
 rintro m fr σ ⟨i,gg,hI,rfl,rfl⟩
 obtain⟨hm,hs,hv⟩:=hI
 by_cases hi:i<l.length
 .have q1:(i:Int)<(l.length:Int):=by omega
  have hz1:z=5:=hz.resolve_left (λh=>by rw[h]at hi;simp at hi);subst hz1;obtain⟨a,ha⟩:=gn (l[i]);have hc:l.drop i=a::l.drop (i+1):=Cv;have htk:l.take (i+1)=l.take i++[a]:=Hp;obtain⟨hlt,_⟩:=yA.1 hid;obtain⟨ρ,hρ⟩:=gn (τ++(l.take i).map xA);have xZ:ρ[id]?=some (.box (.agg [.str nm,.int .i64 c1,.int .i64 c2,.int .i64 c3,.bool c4])):=Ht;have hst:τ++(l.take (i+1)).map xA=ρ++[xA a]:=Io;rw[hc]at hs hv;unfold eX at hs;unfold lH at hv;obtain⟨a0,a1,a2,a3,a4⟩:=a;have hE:B8 fl [.agg [.str a0,.int .i64 a1,.int .i64 a2,.int .i64 a3,.bool a4],.ptr id 0] ρ=some (.bool (decide (a0=nm)),ρ++[.box (.agg [.str a0,.int .i64 a1,.int .i64 a2,.int .i64 a3,.bool a4])]):=by
   unfold B8;simp only[xZ]
  have ED:τ++(l.take (i+1)).map xA=ρ++[.box (.agg [.str a0,.int .i64 a1,.int .i64 a2,.int .i64 a3,.bool a4])]:=hst;have HY:τ++List.take (i+1) (l.map xA)=ρ++[.box (.agg [.str a0,.int .i64 a1,.int .i64 a2,.int .i64 a3,.bool a4])]:=by rw[<-yCV];exact ED
  rw[hρ]
  by_cases hb:a0=nm
  .rw[yAJ (by simp[jX,hb])]at hs hv;exact zf
  .rw[yAI (by simp[jX,hb])]at hs hv;exact cy
 .exact zi
omit hU in
def EE:List PD->Option (List bX)
 | []=>some []
 |.agg [.str n,.int .i64 a,.int .i64 b,.int .i64 c,.bool t]::r=>match EE r with|some l=>some (⟨n,a,b,c,t⟩::l)|none=>none
 |_=>none
omit hU in
theorem aAh:∀ {xs:Jq} {l:List bX},EE xs=some l->xs=l.map Em.aZ.aB
 | [],l,h=>by simp only[EE,yAb]at h;subst h;rfl
 |x::r,l,h=>by
  unfold EE at h;split at h
  .cases ‹_::_=_›
  .rename_i n a b c t r' e;simp only[yCv]at e;obtain⟨rfl,rfl⟩:=e;split at h
   .rename_i l' hl;simp only[yAb]at h;subst h;rw[aAh hl];rfl
   .cases h
  .cases h
omit hU in
@[simp] theorem aFT:∀l:List bX,EE (l.map Em.aZ.aB)=some l
  | []=>rfl
  |x::l=>by
   show EE (.agg [.str x.name,.int .i64 x.dK,.int .i64 x.dst,.int .i64 x.shift,.bool x.qJ]::l.map Em.aZ.aB)=_
   simp only[EE,aFT l]
omit hU in
def vL(f:List UInt8->List bX->PD):Nat->List PD->List aA->Option (PD×List aA):=λ_ args σ=>match args with
 | [.slice z xs _,.func g [.ptr id 0]]=>match EE xs with
   |some l=>if g=99/\(l.length=0\/z=5)/\l.length<=1000000 then match σ[id]? with
     |some (.box (.agg [.str nm,.int .i64 _,.int .i64 _,.int .i64 _,.bool _]))=>some (f nm l,σ++(l.take (lH (jX nm) l)).map xA)
     |_=>none
    else none
   |none=>none
 |_=>none
omit hU in
theorem aFS{f:List UInt8->List bX->PD}{z:Nat}{l:List bX}{tok:Tok}{id:Nat}{σ:Jp}{nm:Jr}{c1 c2 c3:Int}{c4:Bool}(hz:l=[]\/z=5)(hl:l.length<=1000000)(hid:σ[id]?=some (.box (.agg [.str nm,.int .i64 c1,.int .i64 c2,.int .i64 c3,.bool c4])))(fl:Nat) :
  vL f fl [.slice z (l.map Em.aZ.aB) tok,.func 99 [.ptr id 0]] σ=some (f nm l,σ++(l.take (lH (jX nm) l)).map xA):=by
 unfold vL;simp only[aFT];rw[yAJ ⟨trivial,hz.imp (λh=>Eb) (λh=>h),hl⟩];simp only[hid]
theorem aMh(hE:aF prog E)(h0:E 129=none)(h1:E 99=some B8):aF prog (E.add 129 (vL λnm l=>.int .i64 (eX (jX nm) l 0))):=
 hE.add Cl λfl args σ p σ' h=>by
  unfold vL at h;split at h
  .rename_i z xs tok g id;split at h
   .rename_i l hl;split at h
    .rename_i hc;obtain⟨rfl,hz,hlen⟩:=hc;split at h
     .rename_i nm c1 c2 c3 c4 hid;simp only[yAb,yAc]at h;obtain⟨rfl,rfl⟩:=h;rw[aAh hl];exact aK.w9 (aPZ hU h0 h1 fl l nm c1 c2 c3 c4 id σ hid hlen z tok (hz.imp yAf λh=>h))
     .cases h
    .cases h
   .cases h
  .cases h
theorem aP0(h0:E 98=none)(h1:E 129=some (vL λnm l=>.int .i64 (eX (jX nm) l 0)))(fl:Nat)(l:List bX)(nm:List UInt8)(c1 c2 c3:Int)(c4:Bool)(id:Nat)(τ:List aA)(hid:τ[id]?=some (.box (.agg [.str nm,.int .i64 c1,.int .i64 c2,.int .i64 c3,.bool c4])))(hl:l.length<=1000000)(z:Nat)(tok:Tok)(hz:l=[]\/z=5) :
  aK prog E fl (.inl 98) [.slice z (l.map Em.aZ.aB) tok,.func 99 [.ptr id 0]] τ (λp1 σ1=>p1=.bool (l.any (jX nm))/\σ1=τ++(l.take (lH (jX nm) l)).map xA):=by
 have hE:=aFS (f:=λnm l=>.int .i64 (eX (jX nm) l 0)) hz hl hid (tok:=tok);obtain⟨ρ,hρ⟩:=gn (τ++(l.take (lH (jX nm) l)).map xA);rw[hρ]at hE;rw[hρ,<-SJ _ l 0];refine aK.aG 9 h0 func98 (h:=?_);refine aC (A2 h1 hE) ?_;exact ay
theorem aMj(hE:aF prog E)(h0:E 98=none)(h1:E 129=some (vL λnm l=>.int .i64 (eX (jX nm) l 0))):aF prog (E.add 98 (vL λnm l=>.bool (l.any (jX nm)))):=
 hE.add Cl λfl args σ p σ' h=>by
  unfold vL at h;split at h
  .rename_i z xs tok g id;split at h
   .rename_i l hl;split at h
    .rename_i hc;obtain⟨rfl,hz,hlen⟩:=hc;split at h
     .rename_i nm c1 c2 c3 c4 hid;simp only[yAb,yAc]at h;obtain⟨rfl,rfl⟩:=h;rw[aAh hl];exact aK.w9 (aP0 hU h0 h1 fl l nm c1 c2 c3 c4 id σ hid hlen z tok (hz.imp yAf λh=>h))
     .cases h
    .cases h
   .cases h
  .cases h
end
end Go.Kz
end
