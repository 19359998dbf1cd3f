/- Steps of the proof. -/
import Derived.Test.YtnogdlnjafblaaaGreatDoorP3
import Derived.Test.YtnogdlnjafblaaaGreatDoorP4
import Derived.Lib.Itoa
import Derived.Lib.ItoaNum
import Derived.Lib.Join
import Derived.Shelf.Strings.OnBuilder
set_option linter.all false
set_option maxHeartbeats 40000000
set_option maxRecDepth 100000
open Go.Proofs.Tryz
noncomputable section
namespace Go.Kz
open Go Go.Proofs
section
theorem follows:prog.follows .mixedOrders=true:=xg
def gB:List UInt8->List (List UInt8)
 | []=>[[]]
 |b::r=>if b=10 then []::gB r else(match gB r with|x::xs=>(b::x)::xs | []=>[[b]])
theorem aIL(s:List UInt8):gB s≠[]:=by
 cases s with
 |nil=>simp[gB]
 |cons b r=>
  unfold gB;split
  .simp
  .split<;>simp
theorem aIM:∀s:List UInt8,Lib.splitK [10] 0 (Lib.count s [10]) s=gB s
 | []=>rfl
 |b::r=>by
  have ih:=aIM r
  by_cases hb:b=10
  .subst hb;have hi:Lib.index (10::r) [10]=0:=by simp[Lib.index,List.isPrefixOf]
   rw[Lib.count_cons_eq,yCk];unfold gB;rw[yAJ rfl];simp only[Lib.splitK,hi];simp[ih]
  .have hpre:List.isPrefixOf [10] (b::r)=false:=by
    simp[List.isPrefixOf,yBc hb]
   rw[Lib.count_cons_ne _ _ _ hb];have hix:Lib.index (b::r) [10]=if Lib.index r [10]==-1 then -1 else Lib.index r [10]+1:=by
    simp[Lib.index,hpre]
   have hge:=Lib.index_ge r [10];unfold gB;rw[yAI hb];cases hk:Lib.count r [10]with
   |zero=>
    rw[hk]at ih;simp only[Lib.splitK]at ih ⊢;rw[<-ih]
   |succ k=>
    rw[hk]at ih;simp only[Lib.splitK]at ih ⊢
    by_cases h1:Lib.index r [10]=-1
    .simp only[h1,beq_self_eq_true,yAM]at ih hix;rw[hix];simp only[beq_self_eq_true,yAM];rw[<-ih]
    .have h2:(Lib.index r [10]==-1)=false:=by simpa using h1
     rw[h2]at ih hix;simp only[yAx,yAN]at ih hix;have h3:(Lib.index (b::r) [10]==-1)=false:=by rw[hix];simp;omega
     rw[h3];simp only[yAx,yAN];rw[<-ih,hix];have e1:(Lib.index r [10]+1).toNat=(Lib.index r [10]).toNat+1:=xb;simp[e1,Nat.add_right_comm]
abbrev u8:Em Int:=Em.int .u8
abbrev texts:Em (List (List UInt8)):=Em.text.list 1
theorem aIN:∀l:List (List UInt8),(l.map PD.str).flatMap PD.cells=l.map PD.str
 | []=>rfl
 |x::xs=>by
  simp only[yB,yBg,aIN xs];rfl
variable{E:aE}
theorem aQK(hE:aH prog E):aH prog (E.add 38 (entry (cV .text .text texts λs c=>bJ (c=[10]/\(s.length:Int)<4000000000) (some (gB s))))):=by
 refine hE.QS ⟨_,func38,rfl⟩ λargs c vs p hg hs hv=>?_
 obtain⟨s,sep,z,ha,hz,rfl⟩:=U8 hg;obtain⟨⟨rfl,hlen⟩,fU⟩:=dF hz;simp only[yAb]at fU;subst fU;have kR:=hv.strip;rw[ha]at kR;obtain⟨v,u,rfl,h1,h2⟩:=U7 kR;rw[h1.JV,h2.JV];obtain⟨⟨cs,T,fz,hheap,hh⟩,_⟩:=hs.gU.2 0 rfl;obtain⟨m,rfl⟩:=hh.2 .i64 rfl;have hcell:c.w.cell? ⟨0,0,none⟩=some (.int .i64 m):=by simp[World.cell?,hheap]
 have hss:(ByteArray.mk s.toArray).size=s.length:=zd;have hsep:(ByteArray.mk #[(10:UInt8)]).data.toList=[10]:=rfl;refine yBF (Tryz.strings_Split ⟨s.toArray⟩ ⟨#[10]⟩ m c.w (by rw[hss];omega) hcell xl) λe w' he=>?_
 obtain⟨rfl,rfl⟩:=he;have hdata:(Lib.splitB ⟨#[10]⟩ 0 (Lib.countB ⟨s.toArray⟩ ⟨#[10]⟩) ⟨s.toArray⟩).map (·.data.toList)=gB s:=by
  rw[Lib.splitB_data];exact aIM s
 have vU:=Lib.splitB_all ⟨#[10]⟩ xl 0 _ ⟨s.toArray⟩ rfl
 generalize Lib.splitB ⟨#[10]⟩ 0 (Lib.countB ⟨s.toArray⟩ ⟨#[10]⟩) ⟨s.toArray⟩=L at hdata vU
 have hcount:Lib.countB ⟨s.toArray⟩ ⟨#[10]⟩<=s.length:=by
  have:=Lib.countB_le ⟨#[10]⟩ xl _ ⟨s.toArray⟩ (yAk _);rw[hss]at this;exact this
 rw[<-vU];have hgr:c.w.grownBy (c.w.alloc (.cells (L.map Value.string).toArray 9)) none:=World.grownBy_alloc _ _ _;refine⟨_,rfl,hgr,λ_=>?_⟩;have hne:gB s≠[]:=aIL s;have hL:(gB s).length=L.length:=by rw[<-hdata,yAe]
 rw[gA,aCF hne];have hadd:∀j,(⟨c.w.heap.size,0,none⟩:Addr).add j=⟨c.w.heap.size,j,none⟩:=λj=>xq
 refine .slice _ _ _ 1 _ .any (L.map Value.string) (by simp[hL]) (yAk _) (by rw[vU];simp only[maxLen];omega) ?_ wz ?_ ?_ ?_ trivial
 .intro x hx;obtain⟨y,_,rfl⟩:=yAw.1 hx;rfl
 .intro v hv;obtain⟨y,_,rfl⟩:=yAw.1 hv;rfl
 .intro j v hj;refine⟨_,rfl,?_,aOj hs ?_⟩
  .rw[hadd];show(c.w.alloc _).cell? _=_
   have hnew:(c.w.alloc (.cells (L.map Value.string).toArray 9)).heap[c.w.heap.size]?=some (.cells (L.map Value.string).toArray 9 (0,0)):=yBB _ _;simp only[World.cell?,hnew];simpa using hj
  .rw[hadd];exact yAk _
 .intro j v d h1 h2;rw[show(gB s).map Em.text.aA=(gB s).map PD.str from rfl,aIN,<-hdata,yBo]at h2;rw[yAo]at h1 h2;cases hj:L[j]? with
  |none=>rw[hj]at h1;simp at h1
  |some y=>
   rw[hj]at h1 h2;simp only[yAC,yAb,Function.comp]at h1 h2;subst h1 h2;have:y=⟨y.data.toList.toArray⟩:=wz
   conv=>lhs;rw[this]
   exact .str _
theorem aQL(hE:aH prog E):aH prog (E.add 82 (entry (cV .text u8 i64 λs n=>bJ (0<=n/\n<=255) (some (Lib.indexByte s n.toNat.toUInt8))))):=by
 refine hE.QS ⟨_,func82,rfl⟩ λargs c vs p hg hs hv=>?_
 obtain⟨s,n,z,ha,hz,rfl⟩:=U8 hg;obtain⟨_,fU⟩:=dF hz;simp only[yAb]at fU;subst fU;have kR:=hv.strip;rw[ha]at kR;obtain⟨v,u,rfl,h1,h2⟩:=U7 kR;rw[h1.JV,h2.int_eq];refine yBF (Tryz.strings_IndexByte ⟨s.toArray⟩ n c.w) λe w' he=>?_
 obtain⟨rfl,rfl⟩:=he;exact⟨_,rfl,aCA _,λ_=>.int _ _⟩
theorem aQM(hE:aH prog E):aH prog (E.add 83 (entry (cV .text .text .bool λs t=>some (Lib.hasPrefix s t)))):=by
 refine hE.QS ⟨_,func83,rfl⟩ λargs c vs p hg hs hv=>?_
 obtain⟨s,n,z,ha,hz,rfl⟩:=U8 hg;simp only[yAb]at hz;subst hz;have kR:=hv.strip;rw[ha]at kR;obtain⟨v,u,rfl,h1,h2⟩:=U7 kR;rw[h1.JV,h2.JV];refine yBF (Tryz.strings_HasPrefix ⟨s.toArray⟩ ⟨n.toArray⟩ c.w) λe w' he=>?_
 obtain⟨rfl,rfl⟩:=he;exact⟨_,rfl,aCA _,λ_=>.bool _⟩
theorem aQN(hE:aH prog E):aH prog (E.add 122 (entry (cV .text .text .text λs t=>some (Lib.trimPrefix s t)))):=by
 refine hE.QS ⟨_,func122,rfl⟩ λargs c vs p hg hs hv=>?_
 obtain⟨s,n,z,ha,hz,rfl⟩:=U8 hg;simp only[yAb]at hz;subst hz;have kR:=hv.strip;rw[ha]at kR;obtain⟨v,u,rfl,h1,h2⟩:=U7 kR;rw[h1.JV,h2.JV];refine yBF (Tryz.strings_TrimPrefix ⟨s.toArray⟩ ⟨n.toArray⟩ c.w) λe w' he=>?_
 obtain⟨rfl,rfl⟩:=he;exact⟨_,rfl,aCA _,λ_=>.str _⟩
end
section
def lS(n:Int):Bool:=(decide (97<=n)&&decide (n<=122))||(decide (65<=n)&&decide (n<=90))
def bT(n:Int):Bool:=decide (48<=n)&&decide (n<=57)
def mZ(n:Int):Bool:=lS n||bT n||decide (n=95)
def dG(p:Int->Bool)(s:List UInt8):Nat:=(s.takeWhile λb=>p b.toNat).length
theorem EZ(p:Int->Bool)(s:List UInt8):dG p s<=s.length:=by
 unfold dG;exact(List.takeWhile_sublist _).length_le
theorem OL(p:Int->Bool)(b:UInt8)(r:List UInt8):dG p (b::r)=if p b.toNat=true then dG p r+1 else 0:=by
 unfold dG;rw[List.takeWhile_cons];split<;>simp_all
theorem aIJ(p:Int->Bool):∀(s:List UInt8) (n:Nat),n<=dG p s->dG p s=n+dG p (s.drop n)
 |s,0,_=>wz
 | [],n+1,h=>by simp[dG]at h
 |b::r,n+1,h=>by
  rw[OL]at h ⊢;split at h
  .rename_i hb;rw[yAJ hb,List.drop_succ_cons,aIJ p r n xb];omega
  .omega
theorem aQG(p:Int->Bool)(s:List UInt8)(n:Nat)(h:n<=dG p s)(hl:n<s.length):(n<dG p s)=(p s[n].toNat=true):=by
 have h1:=aIJ p s n h;rw[yAq hl,OL]at h1;apply propext;split at h1
 .rename_i hp;exact⟨λ_=>hp,λ_=>xb⟩
 .rename_i hp;exact⟨λ_=>xb,λh'=>absurd h' hp⟩
@[simp] theorem a17{α:Type}{s:List α}{l:Nat}:(s.drop l).take (s.length-l)=s.drop l:=yAz wz
variable{E:aE}(hU:aF E)
include hU
set_option maxRecDepth 10000
theorem aQH(h0:E 75=none)(n:Int):aI prog E 75 [u8.aA n] (Em.bool.aA (lS n)):=by
 refine aI.aU 17 h0 func75 (h:=?_)
 by_cases h1:97<=n<;>by_cases h2:n<=122<;>by_cases h3:65<=n<;>by_cases h4:n<=90
 all_goals
  refine aD (A4 h1 h2 h3 h4) ?_;simp(disch:=first|omega|(simp;done)|(simp;omega)) [yAu,lS,h1,h2,h3,h4]<;>try rfl
theorem aQI(h0:E 78=none)(n:Int):aI prog E 78 [u8.aA n] (Em.bool.aA (bT n)):=by
 refine aI.aU 9 h0 func78 (h:=?_)
 by_cases h1:48<=n<;>by_cases h2:n<=57
 all_goals
  refine aD (A2 h1 h2) ?_;simp(disch:=first|omega|(simp;done)|(simp;omega)) [yAu,bT,h1,h2]<;>try rfl
theorem aQJ(h0:E 77=none)(h1:E 75=some (entry (aX u8 .bool λn=>some (lS n))))(h2:E 78=some (entry (aX u8 .bool λn=>some (bT n))))(n:Int):aI prog E 77 [u8.aA n] (Em.bool.aA (mZ n)):=by
 refine aI.aU 13 h0 func77 (h:=?_);cases h3:lS n<;>cases h4:bT n
 all_goals
  refine aD (A4 h1 h2 h3 h4) ?_;simp(disch:=first|omega|(simp;done)|(simp;omega)) [yAu,mZ,h3,h4]<;>try rfl
theorem aIH(f:Nat)(p:Int->Bool)(h0:E 76=none)(h1:E f=some (entry (aX u8 .bool λn=>some (p n))))(s:List UInt8)(hs:(s.length:Int)<4000000000) :
  aI prog E 76 [.str s,.func f []] (i64.aA (dG p s)):=by
 refine aI.aU 20 h0 func76 (h:=?_);refine aD trivial ?_;refine Wp.eV (λm fr σ=>∃(i:Nat),∃gg:Nat->PD,(i+m=s.length/\i<=dG p s)/\fr=[.str s,.func f [],gg 2,gg 3,gg 4,.int .i64 i,gg 6,gg 7,gg 8,gg 9,gg 10,gg 11,gg 12,gg 13,gg 14,gg 15,gg 16,gg 17,gg 18,gg 19]/\σ=[]) ?_ (s.length) (by refine⟨0,?_⟩;exact cG (⟨xb,xb⟩))
 rintro m fr σ ⟨i,gg,hI,rfl,rfl⟩
 obtain⟨hm,hi⟩:=hI
 by_cases hl:i<s.length
 .have q1:(i:Int)<(s.length:Int):=by omega
  have hat:=aQG p s i hi hl;cases hp:p s[i].toNat with
  |true=>
   rw[hp]at hat;have hlt:i<dG p s:=by rw[hat]
   refine Wp.seq (Wp.seq ?_);apply Wp.dE;refine aIK (A3 q1 h1 hp) ?_;apply SQ.nil;refine aD q1 ?_;refine aM.normal (m-1) xb (by refine⟨i+1,?_⟩;exact cG (⟨xb,xb⟩))
  |false=>
   rw[hp]at hat;have hlt:¬i<dG p s:=by rw[hat];simp
   have he:i=dG p s:=xb;refine Wp.seq (Wp.seq ?_);apply Wp.dE;refine aIK (A3 q1 h1 hp) ?_;exact mo
 .have q1:¬(i:Int)<(s.length:Int):=by omega
  have:=EZ p s;have he:i=dG p s:=xb;refine Wp.seq (Wp.seq ?_);apply Wp.dE;refine bF q1 ?_;exact mo
end
section
def eX(s:List UInt8):Nat:=s.foldl (λn b=>10*n+(b.toNat-48)) 0
def fN(s:List UInt8):Prop:=∀b∈s,bT b.toNat=true
theorem aAH(s:List UInt8)(b:UInt8):eX (s++[b])=10*eX s+(b.toNat-48):=by simp[eX,List.foldl_append]
theorem aII:∀(t s:List UInt8),eX s<=eX (s++t)
 | [],s=>wz
 |b::r,s=>by
  have h:=aII r (s++[b]);rw[aAH,yAi]at h;simp only[List.singleton_append]at h;omega
theorem aQC(s:List UInt8)(i:Nat):eX (s.take i)<=eX s:=by
 have:=aII (s.drop i) (s.take i)
 rwa [yCx]at this
theorem aQD{s:Bx}{i:Nat}(h:i<s.length):eX (s.take (i+1))=10*eX (s.take i)+(s[i].toNat-48):=by
 rw[yBV h,aAH]
theorem aQE{s:Bx}(h:fN s){i:Nat}(hi:i<s.length):48<=s[i].toNat/\s[i].toNat<=57:=by
 have:=h s[i] (yAm hi);unfold bT at this;simp only[yAr,yBx]at this;omega
def kI(s:List UInt8)(most:Int):Int×Bool:=if (eX s:Int)<=most then((eX s:Int),true)else(0,false)
variable{E:aE}(hU:aF E)
include hU
set_option maxRecDepth 10000
theorem aQF(h0:E 120=none)(s:List UInt8)(most:Int)(hd:fN s)(iO:0<=most)(hm2:most<=2000000000)(hl:(s.length:Int)<4000000000) :
  aI prog E 120 [.str s,.int .i64 most] ((i64.gP .bool).aA (kI s most)):=by
 refine aI.aU 26 h0 func120 (h:=?_);refine aD trivial ?_;refine Wp.eV (λm fr σ=>∃(i v:Nat),∃gg:Nat->PD,(i+m=s.length/\v=eX (s.take i)/\(v:Int)<=most)/\fr=[.str s,.int .i64 most,gg 2,gg 3,gg 4,gg 5,.int .i64 v,gg 7,.str s,.int .i64 s.length,.int .i64 i,gg 11,gg 12,gg 13,gg 14,gg 15,gg 16,gg 17,gg 18,gg 19,gg 20,gg 21,gg 22,gg 23,gg 24,gg 25]/\σ=[]) ?_ (s.length) (by refine⟨0,0,?_⟩;exact cG (⟨xb,by simp[eX],xb⟩))
 rintro m fr σ ⟨i,v,gg,hI,rfl,rfl⟩
 obtain⟨hm,hv,hvm⟩:=hI
 by_cases hi:i<s.length
 .have q1:(i:Int)<(s.length:Int):=by omega
  have hb:=aQE hd hi;have hn:=aQD hi;rw[<-hv]at hn;obtain⟨d,lO⟩:∃d:Nat,s[i].toNat=d+48:=⟨s[i].toNat-48,xb⟩;have KE:(s[i].toNat:Int)-48=(d:Int):=xb;have hw:IntKind.u8.wrap (d:Int)=d:=wrap_u8 xb xb;have hn2:(eX (s.take (i+1)):Int)=10*(v:Int)+(d:Int):=xb
  by_cases hc:most<10*(v:Int)+(d:Int)
  .have hle:=aQC s (i+1);have hP:kI s most=(0,false):=by
    exact je
   refine aD (A4 q1 KE @hw hc) ?_;exact cq
  .refine aD (A4 q1 KE @hw hc) ?_;refine aM.normal (m-1) xb (by refine⟨i+1,eX (s.take (i+1)),?_⟩;exact jV (⟨xb,rfl,xb⟩) @hn2)
 .have q1:¬(i:Int)<(s.length:Int):=by omega
  have he:i=s.length:=xb;rw[he,yBz]at hv;subst hv;have hP:kI s most=((eX s:Int),true):=by
   unfold kI;rw[yAJ hvm]
  refine aD q1 ?_;exact cq
end
section
def cC:List PD->Option PD:=λargs=>match args with
 | [.str s,.func f []]=>bJ ((s.length:Int)<4000000000) (if f=78 then some (.int .i64 (dG bT s))else if f=77 then some (.int .i64 (dG mZ s))else none)
 |_=>none
theorem aQA{E:aE}(hU:aF E)(hE:aH prog E)(h0:E 76=none)(h1:E 78=some (entry (aX u8 .bool λn=>some (bT n))))(h2:E 77=some (entry (aX u8 .bool λn=>some (mZ n)))) :
  aH prog (E.add 76 (entry cC)):=by
 refine hE.Q8 follows λargs p hg=>?_
 unfold cC at hg;split at hg
 .rename_i s f;obtain⟨hl,dX⟩:=dF hg;clear hg
  .split at dX
   .rename_i hf;subst hf;simp only[yAb]at dX;subst dX;obtain⟨p1,σ1,e1,e2⟩:=aIH hU 78 bT h0 h1 s hl;exact pz
   .split at dX
    .rename_i hf;subst hf;simp only[yAb]at dX;subst dX;obtain⟨p1,σ1,e1,e2⟩:=aIH hU 77 mZ h0 h2 s hl;exact pz
    .cases dX
 .cases hg
def pk(s:List UInt8)(i:Nat):Nat:=(s.getD i 0).toNat
theorem oT{s:Bx}{i:Nat}(h:i<s.length):pk s i=s[i].toNat:=by simp[pk,List.getD,yAh h]
theorem OK{s:Bx}{i:Nat}(h:s.length<=i):pk s i=0:=by simp[pk,List.getD,yBp h]
abbrev EY:=List UInt8×Bx×Bx
def bC.parts:bC EY:=(bC.one .text).pair ((bC.one .text).pair (.one .text))
def Em.parts:Em EY:=.agg .parts
@[simp] theorem a15{p:EY}:Em.parts.aA p=.agg [.str p.1,.str p.2.1,.str p.2.2]:=rfl
@[simp] theorem a16{a b c:Bx}:Em.parts.dec (.agg [.str a,.str b,.str c])=some (a,b,c):=Em.cR rfl
def iY:EY×Int:=(([],[],[]),0)
def cE(s:List UInt8):EY×Int:=
 let a:=dG bT s
 if pk s a=39 then((s.take a,[],[]),(a:Int)+1)else
 if pk s a=45 then
  let n:=dG bT (s.drop (a+1))
  let m:=dG bT (s.drop (a+1+n+1))
  if n≠0/\pk s (a+1+n)=47/\m≠0/\pk s (a+1+n+1+m)=39 then((s.take a,(s.drop (a+1)).take n,(s.drop (a+1+n+1)).take m),(a:Int)+1+n+1+m+1)else iY
 else if pk s a=47 then
  let m:=dG bT (s.drop (a+1))
  if m≠0/\pk s (a+1+m)=39 then(([],s.take a,(s.drop (a+1)).take m),(a:Int)+1+m+1)else iY
 else iY
variable{E:aE}(hU:aF E)
include hU
set_option maxRecDepth 10000
theorem aQB(h0:E 79=none)(h1:E 76=some (entry cC))(s:List UInt8)(hs:(s.length:Int)<4000000000) :
  aI prog E 79 [.str s] ((Em.parts.gP i64).aA (cE s)):=by
 obtain⟨a,ha⟩:=gn (dG bT s);have hal:=EZ bT s;rw[ha]at hal;refine aI.aU 108 h0 func79 (h:=?_)
 by_cases hl:a=s.length
 .have q1:(a:Int)=(s.length:Int):=by omega
  have hp:cE s=iY:=by
   unfold cE;rw[ha];simp only[OK (yCE hl.symm)];simp
  repeat(first
   |(refine Fr.i ?_;simp only[aL,yAT,yAU];try rfl)
   |(refine By.i ?_;(focus(simp(disch:=first|omega|(simp;done)|(simp;omega)) [wrap_i64,wrap_u64,h1,cC,entry,hs,ha,q1];first|done|rfl|exact⟨rfl,rfl⟩)))
   |(refine By.i ?_;simp(disch:=first|omega|(simp;done)|(simp;omega)) [wrap_i64,wrap_u64,h1,cC,entry,hs,ha,q1];refine⟨xh,rfl⟩)
   |(refine Wt.i ?_;first|rfl|(focus(simp[h1,cC,entry,hs,ha,q1];done)))
   |(refine Ns.i ?_;(try simp only[yAl,yAQ,yAR,yAi,yAa,yAK,yAL,yAp,Nat.reduceAdd]);rfl)|rfl
   |(apply SL.pass;(focus(refine Wt.i ?_;rfl)))|(apply tu;(focus rfl))|apply SL.move|apply SL.assign|apply SL.load|apply SL.fK|apply tu|apply tu|apply SL.binOp|apply SL.append|apply tu
   |apply SL.builtin|apply SL.fieldAddr|apply SL.indexAddr|apply SL.field|apply SL.extract|apply SL.fL|apply SL.pick|apply SL.store|apply SL.unOp|apply SL.convert|apply SL.index|apply SL.slice|apply SL.build
   |apply SL.nilCheck|apply SL.buildSlice|apply SL.box|apply SL.alloc|apply SL.makeFunc|apply SQ.nil|(apply WL.jU;(focus decide +kernel))|(apply WL.dW xd;(focus decide +kernel);(focus decide +kernel))
   |(apply WL.jG;(focus decide +kernel);(focus decide +kernel))|(apply WL.kE;(focus decide +kernel))|(apply WL.kC xd;(focus decide +kernel);(focus decide +kernel))
   |(apply tu;(focus decide +kernel);(focus decide +kernel))|(apply WL.kB xd;(focus decide +kernel);(focus decide +kernel))|(apply WL.kA xd;(focus decide +kernel);(focus decide +kernel))
   |(apply WL.lA xd;(focus decide +kernel);(focus decide +kernel))|(apply tu xd;(focus decide +kernel);(focus decide +kernel))|apply tu|(apply WL.ct;(focus rfl))
   |(apply WL.cf;(focus rfl))|refine aS.normal ?_|refine aS.ret ?_|refine aS.exit ?_|refine aO.normal ?_|refine aO.ret ?_|refine aO.here ?_|refine aO.there xl ?_|refine Wp.block ?_
   |refine Wp.skip ?_|refine Wp.ret ?_|refine Wp.exit ?_|refine aM.ret ?_|refine aM.exit ?_|refine tu ?_|refine tu ?_|refine tu ?_|refine Wp.seq (Wp.seq ?_)|refine Wp.seq (Wp.block ?_)
   |(refine Wp.seq ?_;apply WL.ct;(focus rfl))|(refine Wp.seq ?_;apply WL.cf;(focus rfl)))
  exact an
 .have hlt:a<s.length:=by omega
  have q1:¬(a:Int)=(s.length:Int):=xb;have hpk:=oT hlt
  by_cases c1:pk s a=39
  .have q2:(s[a].toNat:Int)=39:=by omega
   have hp:cE s=((s.take a,[],[]),(a:Int)+1):=by
    unfold cE;rw[ha];simp only[c1,yAM]
   repeat(first
    |(refine Fr.i ?_;simp only[aL,yAT,yAU];try rfl)
    |(refine By.i ?_;(focus(simp(disch:=first|omega|(simp;done)|(simp;omega)) [wrap_i64,wrap_u64,h1,cC,entry,hs,ha,q1,q2];first|done|rfl|exact⟨rfl,rfl⟩)))
    |(refine By.i ?_;simp(disch:=first|omega|(simp;done)|(simp;omega)) [wrap_i64,wrap_u64,h1,cC,entry,hs,ha,q1,q2];refine⟨xh,rfl⟩)
    |(refine Wt.i ?_;first|rfl|(focus(simp[h1,cC,entry,hs,ha,q1,q2];done)))
    |(refine Ns.i ?_;(try simp only[yAl,yAQ,yAR,yAi,yAa,yAK,yAL,yAp,Nat.reduceAdd]);rfl)|rfl
    |(apply SL.pass;(focus(refine Wt.i ?_;rfl)))|(apply tu;(focus rfl))|apply SL.move|apply SL.assign|apply SL.load|apply SL.fK|apply tu|apply tu|apply SL.binOp|apply SL.append
    |apply tu|apply SL.builtin|apply SL.fieldAddr|apply SL.indexAddr|apply SL.field|apply SL.extract|apply SL.fL|apply SL.pick|apply SL.store|apply SL.unOp|apply SL.convert|apply SL.index|apply SL.slice
    |apply SL.build|apply SL.nilCheck|apply SL.buildSlice|apply SL.box|apply SL.alloc|apply SL.makeFunc|apply SQ.nil|(apply WL.jU;(focus decide +kernel))
    |(apply WL.dW xd;(focus decide +kernel);(focus decide +kernel))|(apply WL.jG;(focus decide +kernel);(focus decide +kernel))|(apply WL.kE;(focus decide +kernel))
    |(apply WL.kC xd;(focus decide +kernel);(focus decide +kernel))|(apply tu;(focus decide +kernel);(focus decide +kernel))|(apply WL.kB xd;(focus decide +kernel);(focus decide +kernel))
    |(apply WL.kA xd;(focus decide +kernel);(focus decide +kernel))|(apply WL.lA xd;(focus decide +kernel);(focus decide +kernel))
    |(apply tu xd;(focus decide +kernel);(focus decide +kernel))|apply tu|(apply WL.ct;(focus rfl))|(apply WL.cf;(focus rfl))|refine aS.normal ?_|refine aS.ret ?_|refine aS.exit ?_
    |refine aO.normal ?_|refine aO.ret ?_|refine aO.here ?_|refine aO.there xl ?_|refine Wp.block ?_|refine Wp.skip ?_|refine Wp.ret ?_|refine Wp.exit ?_|refine aM.ret ?_|refine aM.exit ?_
    |refine tu ?_|refine tu ?_|refine tu ?_|refine Wp.seq (Wp.seq ?_)|refine Wp.seq (Wp.block ?_)|(refine Wp.seq ?_;apply WL.ct;(focus rfl))|(refine Wp.seq ?_;apply WL.cf;(focus rfl)))
   simp(disch:=first|omega|(simp;done)|(simp;omega)) [yAu,hp]<;>try rfl
  .have q2:¬(s[a].toNat:Int)=39:=by omega
   by_cases c2:pk s a=45
   .have q3:(s[a].toNat:Int)=45:=by omega
    obtain⟨n,hn⟩:=gn (dG bT (s.drop (a+1)));have hnl:=EZ bT (s.drop (a+1));rw[hn,yBe]at hnl
    by_cases hn0:n=0
    .have hp:cE s=iY:=by
      unfold cE;rw[ha];simp only[c1,c2,yAN,yAM,hn,hn0];simp
     repeat(first
      |(refine Fr.i ?_;simp only[aL,yAT,yAU];try rfl)
      |(refine By.i ?_;(focus(simp(disch:=first|omega|(simp;done)|(simp;omega)) [wrap_i64,wrap_u64,h1,cC,entry,hs,ha,q1,q2,q3,hn,hn0];first|done|rfl|exact⟨rfl,rfl⟩)))
      |(refine By.i ?_;simp(disch:=first|omega|(simp;done)|(simp;omega)) [wrap_i64,wrap_u64,h1,cC,entry,hs,ha,q1,q2,q3,hn,hn0];refine⟨xh,rfl⟩)
      |(refine Wt.i ?_;first|rfl|(focus(simp[h1,cC,entry,hs,ha,q1,q2,q3,hn,hn0];done)))
      |(refine Ns.i ?_;(try simp only[yAl,yAQ,yAR,yAi,yAa,yAK,yAL,yAp,Nat.reduceAdd]);rfl)|rfl
      |(apply SL.pass;(focus(refine Wt.i ?_;rfl)))|(apply tu;(focus rfl))|apply SL.move|apply SL.assign|apply SL.load|apply SL.fK|apply tu|apply tu|apply SL.binOp|apply SL.append
      |apply tu|apply SL.builtin|apply SL.fieldAddr|apply SL.indexAddr|apply SL.field|apply SL.extract|apply SL.fL|apply SL.pick|apply SL.store|apply SL.unOp|apply SL.convert|apply SL.index|apply SL.slice
      |apply SL.build|apply SL.nilCheck|apply SL.buildSlice|apply SL.box|apply SL.alloc|apply SL.makeFunc|apply SQ.nil|(apply WL.jU;(focus decide +kernel))
      |(apply WL.dW xd;(focus decide +kernel);(focus decide +kernel))|(apply WL.jG;(focus decide +kernel);(focus decide +kernel))|(apply WL.kE;(focus decide +kernel))
      |(apply WL.kC xd;(focus decide +kernel);(focus decide +kernel))|(apply tu;(focus decide +kernel);(focus decide +kernel))
      |(apply WL.kB xd;(focus decide +kernel);(focus decide +kernel))|(apply WL.kA xd;(focus decide +kernel);(focus decide +kernel))
      |(apply WL.lA xd;(focus decide +kernel);(focus decide +kernel))|(apply tu xd;(focus decide +kernel);(focus decide +kernel))|apply tu|(apply WL.ct;(focus rfl))
      |(apply WL.cf;(focus rfl))|refine aS.normal ?_|refine aS.ret ?_|refine aS.exit ?_|refine aO.normal ?_|refine aO.ret ?_|refine aO.here ?_|refine aO.there xl ?_|refine Wp.block ?_
      |refine Wp.skip ?_|refine Wp.ret ?_|refine Wp.exit ?_|refine aM.ret ?_|refine aM.exit ?_|refine tu ?_|refine tu ?_|refine tu ?_|refine Wp.seq (Wp.seq ?_)|refine Wp.seq (Wp.block ?_)
      |(refine Wp.seq ?_;apply WL.ct;(focus rfl))|(refine Wp.seq ?_;apply WL.cf;(focus rfl)))
     exact an
    .have q4:¬(n:Int)=0:=by omega
     obtain⟨b,hb⟩:∃b,b=a+1+n:=⟨_,rfl⟩;have e1:(a:Int)+(1+(n:Int))=(b:Int):=xb;have nY:(a:Int)+1+(n:Int)=(b:Int):=xb;have e2:b-(a+1)=n:=xb;have htop:¬((s.drop (a+1)).take n=[]):=by
      intro h;have:=yAP List.length h;rw[yAt,yBe]at this;simp at this;omega
     obtain⟨top,htopv⟩:=gn ((s.drop (a+1)).take n);rw[htopv]at htop;have aDG:(top==[])=false:=by simpa using htop
     have aDH:top.isEmpty=false:=by simpa using htop
     by_cases hbl:b=s.length
     .have q5:(b:Int)=(s.length:Int):=by omega
      have hp:cE s=iY:=by
       unfold cE;rw[ha];simp only[c1,c2,yAN,yAM,hn,<-hb,OK (yCE hbl.symm)];simp
      repeat(first
       |(refine Fr.i ?_;simp only[aL,yAT,yAU];try rfl)
       |(refine By.i ?_;(focus(simp(disch:=first|omega|(simp;done)|(simp;omega)) [wrap_i64,wrap_u64,h1,cC,entry,hs,ha,q1,q2,q3,hn,q4,hn0,e1,nY,e2,htopv,q5];first|done|rfl|exact⟨rfl,rfl⟩)))
       |(refine By.i ?_;simp(disch:=first|omega|(simp;done)|(simp;omega)) [wrap_i64,wrap_u64,h1,cC,entry,hs,ha,q1,q2,q3,hn,q4,hn0,e1,nY,e2,htopv,q5];refine⟨xh,rfl⟩)
       |(refine Wt.i ?_;first|rfl|(focus(simp[h1,cC,entry,hs,ha,q1,q2,q3,hn,q4,hn0,e1,nY,e2,htopv,q5];done)))
       |(refine Ns.i ?_;(try simp only[yAl,yAQ,yAR,yAi,yAa,yAK,yAL,yAp,Nat.reduceAdd]);rfl)|rfl
       |(apply SL.pass;(focus(refine Wt.i ?_;rfl)))|(apply tu;(focus rfl))|apply SL.move|apply SL.assign|apply SL.load|apply SL.fK|apply tu|apply tu|apply SL.binOp|apply SL.append
       |apply tu|apply SL.builtin|apply SL.fieldAddr|apply SL.indexAddr|apply SL.field|apply SL.extract|apply SL.fL|apply SL.pick|apply SL.store|apply SL.unOp|apply SL.convert|apply SL.index
       |apply SL.slice|apply SL.build|apply SL.nilCheck|apply SL.buildSlice|apply SL.box|apply SL.alloc|apply SL.makeFunc|apply SQ.nil|(apply WL.jU;(focus decide +kernel))
       |(apply WL.dW xd;(focus decide +kernel);(focus decide +kernel))|(apply WL.jG;(focus decide +kernel);(focus decide +kernel))|(apply WL.kE;(focus decide +kernel))
       |(apply WL.kC xd;(focus decide +kernel);(focus decide +kernel))|(apply tu;(focus decide +kernel);(focus decide +kernel))
       |(apply WL.kB xd;(focus decide +kernel);(focus decide +kernel))|(apply WL.kA xd;(focus decide +kernel);(focus decide +kernel))
       |(apply WL.lA xd;(focus decide +kernel);(focus decide +kernel))|(apply tu xd;(focus decide +kernel);(focus decide +kernel))|apply tu|(apply WL.ct;(focus rfl))
       |(apply WL.cf;(focus rfl))|refine aS.normal ?_|refine aS.ret ?_|refine aS.exit ?_|refine aO.normal ?_|refine aO.ret ?_|refine aO.here ?_|refine aO.there xl ?_|refine Wp.block ?_
       |refine Wp.skip ?_|refine Wp.ret ?_|refine Wp.exit ?_|refine aM.ret ?_|refine aM.exit ?_|refine tu ?_|refine tu ?_|refine tu ?_|refine Wp.seq (Wp.seq ?_)
       |refine Wp.seq (Wp.block ?_)|(refine Wp.seq ?_;apply WL.ct;(focus rfl))|(refine Wp.seq ?_;apply WL.cf;(focus rfl)))
      exact an
     .have hbt:b<s.length:=by omega
      have q5:¬(b:Int)=(s.length:Int):=xb;have hpb:=oT hbt
      by_cases c3:pk s b=47
      .have q6:(s[b].toNat:Int)=47:=by omega
       obtain⟨m,hm⟩:=gn (dG bT (s.drop (b+1)));have hml:=EZ bT (s.drop (b+1));rw[hm,yBe]at hml;obtain⟨e,he⟩:∃e,e=b+1+m:=⟨_,rfl⟩;have e3:(b:Int)+1+(m:Int)=(e:Int):=xb;have e4:e-(b+1)=m:=xb
       by_cases hm0:m=0
       .have hp:cE s=iY:=by
         unfold cE;rw[ha];simp only[c1,c2,yAN,yAM,hn,<-hb,hm,hm0];simp
        repeat(first
         |(refine Fr.i ?_;simp only[aL,yAT,yAU];try rfl)
         |(refine By.i ?_;(focus(simp(disch:=first|omega|(simp;done)|(simp;omega)) [wrap_i64,wrap_u64,h1,cC,entry,hs,ha,q1,q2,q3,hn,q4,hn0,e1,nY,e2,htopv,q5,q6,hm,e3,hm0];first|done|rfl|exact⟨rfl,rfl⟩)))
         |(refine By.i ?_;simp(disch:=first|omega|(simp;done)|(simp;omega)) [wrap_i64,wrap_u64,h1,cC,entry,hs,ha,q1,q2,q3,hn,q4,hn0,e1,nY,e2,htopv,q5,q6,hm,e3,hm0];refine⟨xh,rfl⟩)
         |(refine Wt.i ?_;first|rfl|(focus(simp[h1,cC,entry,hs,ha,q1,q2,q3,hn,q4,hn0,e1,nY,e2,htopv,q5,q6,hm,e3,hm0];done)))
         |(refine Ns.i ?_;(try simp only[yAl,yAQ,yAR,yAi,yAa,yAK,yAL,yAp,Nat.reduceAdd]);rfl)|rfl
         |(apply SL.pass;(focus(refine Wt.i ?_;rfl)))|(apply tu;(focus rfl))|apply SL.move|apply SL.assign|apply SL.load|apply SL.fK|apply tu|apply tu|apply SL.binOp|apply SL.append
         |apply tu|apply SL.builtin|apply SL.fieldAddr|apply SL.indexAddr|apply SL.field|apply SL.extract|apply SL.fL|apply SL.pick|apply SL.store|apply SL.unOp|apply SL.convert|apply SL.index
         |apply SL.slice|apply SL.build|apply SL.nilCheck|apply SL.buildSlice|apply SL.box|apply SL.alloc|apply SL.makeFunc|apply SQ.nil|(apply WL.jU;(focus decide +kernel))
         |(apply WL.dW xd;(focus decide +kernel);(focus decide +kernel))|(apply WL.jG;(focus decide +kernel);(focus decide +kernel))|(apply WL.kE;(focus decide +kernel))
         |(apply WL.kC xd;(focus decide +kernel);(focus decide +kernel))|(apply tu;(focus decide +kernel);(focus decide +kernel))
         |(apply WL.kB xd;(focus decide +kernel);(focus decide +kernel))|(apply WL.kA xd;(focus decide +kernel);(focus decide +kernel))
         |(apply WL.lA xd;(focus decide +kernel);(focus decide +kernel))|(apply tu xd;(focus decide +kernel);(focus decide +kernel))|apply tu|(apply WL.ct;(focus rfl))
         |(apply WL.cf;(focus rfl))|refine aS.normal ?_|refine aS.ret ?_|refine aS.exit ?_|refine aO.normal ?_|refine aO.ret ?_|refine aO.here ?_|refine aO.there xl ?_
         |refine Wp.block ?_|refine Wp.skip ?_|refine Wp.ret ?_|refine Wp.exit ?_|refine aM.ret ?_|refine aM.exit ?_|refine tu ?_|refine tu ?_|refine tu ?_|refine Wp.seq (Wp.seq ?_)
         |refine Wp.seq (Wp.block ?_)|(refine Wp.seq ?_;apply WL.ct;(focus rfl))|(refine Wp.seq ?_;apply WL.cf;(focus rfl)))
        exact an
       .have q7:¬(m:Int)=0:=by omega
        by_cases hel:e=s.length
        .have q8:(e:Int)=(s.length:Int):=by omega
         have hp:cE s=iY:=by
          unfold cE;rw[ha];simp only[c1,c2,yAN,yAM,hn,<-hb,hm,<-he,OK (yCE hel.symm)];simp
         repeat(first
          |(refine Fr.i ?_;simp only[aL,yAT,yAU];try rfl)
          |(refine By.i ?_;(focus(simp(disch:=first|omega|(simp;done)|(simp;omega)) [wrap_i64,wrap_u64,h1,cC,entry,hs,ha,q1,q2,q3,hn,q4,hn0,e1,nY,e2,htopv,q5,q6,hm,e3,q7,hm0,q8];first|done|rfl|exact⟨rfl,rfl⟩)))
          |(refine By.i ?_;simp(disch:=first|omega|(simp;done)|(simp;omega)) [wrap_i64,wrap_u64,h1,cC,entry,hs,ha,q1,q2,q3,hn,q4,hn0,e1,nY,e2,htopv,q5,q6,hm,e3,q7,hm0,q8];refine⟨xh,rfl⟩)
          |(refine Wt.i ?_;first|rfl|(focus(simp[h1,cC,entry,hs,ha,q1,q2,q3,hn,q4,hn0,e1,nY,e2,htopv,q5,q6,hm,e3,q7,hm0,q8];done)))
          |(refine Ns.i ?_;(try simp only[yAl,yAQ,yAR,yAi,yAa,yAK,yAL,yAp,Nat.reduceAdd]);rfl)|rfl
          |(apply SL.pass;(focus(refine Wt.i ?_;rfl)))|(apply tu;(focus rfl))|apply SL.move|apply SL.assign|apply SL.load|apply SL.fK|apply tu|apply tu|apply SL.binOp|apply SL.append
          |apply tu|apply SL.builtin|apply SL.fieldAddr|apply SL.indexAddr|apply SL.field|apply SL.extract|apply SL.fL|apply SL.pick|apply SL.store|apply SL.unOp|apply SL.convert|apply SL.index
          |apply SL.slice|apply SL.build|apply SL.nilCheck|apply SL.buildSlice|apply SL.box|apply SL.alloc|apply SL.makeFunc|apply SQ.nil|(apply WL.jU;(focus decide +kernel))
          |(apply WL.dW xd;(focus decide +kernel);(focus decide +kernel))|(apply WL.jG;(focus decide +kernel);(focus decide +kernel))|(apply WL.kE;(focus decide +kernel))
          |(apply WL.kC xd;(focus decide +kernel);(focus decide +kernel))|(apply tu;(focus decide +kernel);(focus decide +kernel))
          |(apply WL.kB xd;(focus decide +kernel);(focus decide +kernel))|(apply WL.kA xd;(focus decide +kernel);(focus decide +kernel))
          |(apply WL.lA xd;(focus decide +kernel);(focus decide +kernel))|(apply tu xd;(focus decide +kernel);(focus decide +kernel))|apply tu|(apply WL.ct;(focus rfl))
          |(apply WL.cf;(focus rfl))|refine aS.normal ?_|refine aS.ret ?_|refine aS.exit ?_|refine aO.normal ?_|refine aO.ret ?_|refine aO.here ?_|refine aO.there xl ?_
          |refine Wp.block ?_|refine Wp.skip ?_|refine Wp.ret ?_|refine Wp.exit ?_|refine aM.ret ?_|refine aM.exit ?_|refine tu ?_|refine tu ?_|refine tu ?_|refine Wp.seq (Wp.seq ?_)
          |refine Wp.seq (Wp.block ?_)|(refine Wp.seq ?_;apply WL.ct;(focus rfl))|(refine Wp.seq ?_;apply WL.cf;(focus rfl)))
         exact an
        .have hlt2:e<s.length:=by omega
         have q8:¬(e:Int)=(s.length:Int):=xb;have hpe:=oT hlt2
         by_cases c4:pk s e=39
         .have q9:(s[e].toNat:Int)=39:=by omega
          have hp:cE s=((s.take a,top,(s.drop (b+1)).take m),(e:Int)+1):=by
           unfold cE;rw[ha];simp only[c2,hn,<-hb,hm,<-he,htopv];rw[yAI xb,yAJ trivial,yAJ ⟨hn0,c3,hm0,c4⟩];rw[show(a:Int)+1+n+1+m+1=e+1 by omega]
          repeat(first
           |(refine Fr.i ?_;simp only[aL,yAT,yAU];try rfl)
           |(refine By.i ?_;(focus(simp(disch:=first|omega|(simp;done)|(simp;omega)) [wrap_i64,wrap_u64,h1,cC,entry,hs,ha,q1,q2,q3,hn,q4,hn0,e1,nY,e2,htopv,q5,q6,hm,e3,e4,q7,hm0,q8,q9,htop,aDG,aDH];first|done|rfl|exact⟨rfl,rfl⟩)))
           |(refine By.i ?_;simp(disch:=first|omega|(simp;done)|(simp;omega)) [wrap_i64,wrap_u64,h1,cC,entry,hs,ha,q1,q2,q3,hn,q4,hn0,e1,nY,e2,htopv,q5,q6,hm,e3,e4,q7,hm0,q8,q9,htop,aDG,aDH];refine⟨xh,rfl⟩)
           |(refine Wt.i ?_;first|rfl|(focus(simp[h1,cC,entry,hs,ha,q1,q2,q3,hn,q4,hn0,e1,nY,e2,htopv,q5,q6,hm,e3,e4,q7,hm0,q8,q9,htop,aDG,aDH];done)))
           |(refine Ns.i ?_;(try simp only[yAl,yAQ,yAR,yAi,yAa,yAK,yAL,yAp,Nat.reduceAdd]);rfl)|rfl
           |(apply SL.pass;(focus(refine Wt.i ?_;rfl)))|(apply tu;(focus rfl))|apply SL.move|apply SL.assign|apply SL.load|apply SL.fK|apply tu|apply tu|apply SL.binOp|apply SL.append
           |apply tu|apply SL.builtin|apply SL.fieldAddr|apply SL.indexAddr|apply SL.field|apply SL.extract|apply SL.fL|apply SL.pick|apply SL.store|apply SL.unOp|apply SL.convert|apply SL.index
           |apply SL.slice|apply SL.build|apply SL.nilCheck|apply SL.buildSlice|apply SL.box|apply SL.alloc|apply SL.makeFunc|apply SQ.nil|(apply WL.jU;(focus decide +kernel))
           |(apply WL.dW xd;(focus decide +kernel);(focus decide +kernel))|(apply WL.jG;(focus decide +kernel);(focus decide +kernel))|(apply WL.kE;(focus decide +kernel))
           |(apply WL.kC xd;(focus decide +kernel);(focus decide +kernel))|(apply tu;(focus decide +kernel);(focus decide +kernel))
           |(apply WL.kB xd;(focus decide +kernel);(focus decide +kernel))|(apply WL.kA xd;(focus decide +kernel);(focus decide +kernel))
           |(apply WL.lA xd;(focus decide +kernel);(focus decide +kernel))|(apply tu xd;(focus decide +kernel);(focus decide +kernel))|apply tu|(apply WL.ct;(focus rfl))
           |(apply WL.cf;(focus rfl))|refine aS.normal ?_|refine aS.ret ?_|refine aS.exit ?_|refine aO.normal ?_|refine aO.ret ?_|refine aO.here ?_|refine aO.there xl ?_
           |refine Wp.block ?_|refine Wp.skip ?_|refine Wp.ret ?_|refine Wp.exit ?_|refine aM.ret ?_|refine aM.exit ?_|refine tu ?_|refine tu ?_|refine tu ?_
           |refine Wp.seq (Wp.seq ?_)|refine Wp.seq (Wp.block ?_)|(refine Wp.seq ?_;apply WL.ct;(focus rfl))|(refine Wp.seq ?_;apply WL.cf;(focus rfl)))
          exact qo
         .have q9:¬(s[e].toNat:Int)=39:=by omega
          have hp:cE s=iY:=by
           unfold cE;rw[ha];simp only[c1,c2,c4,yAN,yAM,hn,<-hb,hm,<-he];simp
          repeat(first
           |(refine Fr.i ?_;simp only[aL,yAT,yAU];try rfl)
           |(refine By.i ?_;(focus(simp(disch:=first|omega|(simp;done)|(simp;omega)) [wrap_i64,wrap_u64,h1,cC,entry,hs,ha,q1,q2,q3,hn,q4,hn0,e1,nY,e2,htopv,q5,q6,hm,e3,q7,hm0,q8,q9];first|done|rfl|exact⟨rfl,rfl⟩)))
           |(refine By.i ?_;simp(disch:=first|omega|(simp;done)|(simp;omega)) [wrap_i64,wrap_u64,h1,cC,entry,hs,ha,q1,q2,q3,hn,q4,hn0,e1,nY,e2,htopv,q5,q6,hm,e3,q7,hm0,q8,q9];refine⟨xh,rfl⟩)
           |(refine Wt.i ?_;first|rfl|(focus(simp[h1,cC,entry,hs,ha,q1,q2,q3,hn,q4,hn0,e1,nY,e2,htopv,q5,q6,hm,e3,q7,hm0,q8,q9];done)))
           |(refine Ns.i ?_;(try simp only[yAl,yAQ,yAR,yAi,yAa,yAK,yAL,yAp,Nat.reduceAdd]);rfl)|rfl
           |(apply SL.pass;(focus(refine Wt.i ?_;rfl)))|(apply tu;(focus rfl))|apply SL.move|apply SL.assign|apply SL.load|apply SL.fK|apply tu|apply tu|apply SL.binOp|apply SL.append
           |apply tu|apply SL.builtin|apply SL.fieldAddr|apply SL.indexAddr|apply SL.field|apply SL.extract|apply SL.fL|apply SL.pick|apply SL.store|apply SL.unOp|apply SL.convert|apply SL.index
           |apply SL.slice|apply SL.build|apply SL.nilCheck|apply SL.buildSlice|apply SL.box|apply SL.alloc|apply SL.makeFunc|apply SQ.nil|(apply WL.jU;(focus decide +kernel))
           |(apply WL.dW xd;(focus decide +kernel);(focus decide +kernel))|(apply WL.jG;(focus decide +kernel);(focus decide +kernel))|(apply WL.kE;(focus decide +kernel))
           |(apply WL.kC xd;(focus decide +kernel);(focus decide +kernel))|(apply tu;(focus decide +kernel);(focus decide +kernel))
           |(apply WL.kB xd;(focus decide +kernel);(focus decide +kernel))|(apply WL.kA xd;(focus decide +kernel);(focus decide +kernel))
           |(apply WL.lA xd;(focus decide +kernel);(focus decide +kernel))|(apply tu xd;(focus decide +kernel);(focus decide +kernel))|apply tu|(apply WL.ct;(focus rfl))
           |(apply WL.cf;(focus rfl))|refine aS.normal ?_|refine aS.ret ?_|refine aS.exit ?_|refine aO.normal ?_|refine aO.ret ?_|refine aO.here ?_|refine aO.there xl ?_
           |refine Wp.block ?_|refine Wp.skip ?_|refine Wp.ret ?_|refine Wp.exit ?_|refine aM.ret ?_|refine aM.exit ?_|refine tu ?_|refine tu ?_|refine tu ?_
           |refine Wp.seq (Wp.seq ?_)|refine Wp.seq (Wp.block ?_)|(refine Wp.seq ?_;apply WL.ct;(focus rfl))|(refine Wp.seq ?_;apply WL.cf;(focus rfl)))
          exact an
      .have q6:¬(s[b].toNat:Int)=47:=by omega
       have hp:cE s=iY:=by
        unfold cE;rw[ha];simp only[c1,c2,yAN,yAM,hn,<-hb,c3];simp
       repeat(first
        |(refine Fr.i ?_;simp only[aL,yAT,yAU];try rfl)
        |(refine By.i ?_;(focus(simp(disch:=first|omega|(simp;done)|(simp;omega)) [wrap_i64,wrap_u64,h1,cC,entry,hs,ha,q1,q2,q3,hn,q4,hn0,e1,nY,e2,htopv,q5,q6];first|done|rfl|exact⟨rfl,rfl⟩)))
        |(refine By.i ?_;simp(disch:=first|omega|(simp;done)|(simp;omega)) [wrap_i64,wrap_u64,h1,cC,entry,hs,ha,q1,q2,q3,hn,q4,hn0,e1,nY,e2,htopv,q5,q6];refine⟨xh,rfl⟩)
        |(refine Wt.i ?_;first|rfl|(focus(simp[h1,cC,entry,hs,ha,q1,q2,q3,hn,q4,hn0,e1,nY,e2,htopv,q5,q6];done)))
        |(refine Ns.i ?_;(try simp only[yAl,yAQ,yAR,yAi,yAa,yAK,yAL,yAp,Nat.reduceAdd]);rfl)|rfl
        |(apply SL.pass;(focus(refine Wt.i ?_;rfl)))|(apply tu;(focus rfl))|apply SL.move|apply SL.assign|apply SL.load|apply SL.fK|apply tu|apply tu|apply SL.binOp|apply SL.append
        |apply tu|apply SL.builtin|apply SL.fieldAddr|apply SL.indexAddr|apply SL.field|apply SL.extract|apply SL.fL|apply SL.pick|apply SL.store|apply SL.unOp|apply SL.convert|apply SL.index
        |apply SL.slice|apply SL.build|apply SL.nilCheck|apply SL.buildSlice|apply SL.box|apply SL.alloc|apply SL.makeFunc|apply SQ.nil|(apply WL.jU;(focus decide +kernel))
        |(apply WL.dW xd;(focus decide +kernel);(focus decide +kernel))|(apply WL.jG;(focus decide +kernel);(focus decide +kernel))|(apply WL.kE;(focus decide +kernel))
        |(apply WL.kC xd;(focus decide +kernel);(focus decide +kernel))|(apply tu;(focus decide +kernel);(focus decide +kernel))
        |(apply WL.kB xd;(focus decide +kernel);(focus decide +kernel))|(apply WL.kA xd;(focus decide +kernel);(focus decide +kernel))
        |(apply WL.lA xd;(focus decide +kernel);(focus decide +kernel))|(apply tu xd;(focus decide +kernel);(focus decide +kernel))|apply tu|(apply WL.ct;(focus rfl))
        |(apply WL.cf;(focus rfl))|refine aS.normal ?_|refine aS.ret ?_|refine aS.exit ?_|refine aO.normal ?_|refine aO.ret ?_|refine aO.here ?_|refine aO.there xl ?_|refine Wp.block ?_
        |refine Wp.skip ?_|refine Wp.ret ?_|refine Wp.exit ?_|refine aM.ret ?_|refine aM.exit ?_|refine tu ?_|refine tu ?_|refine tu ?_|refine Wp.seq (Wp.seq ?_)
        |refine Wp.seq (Wp.block ?_)|(refine Wp.seq ?_;apply WL.ct;(focus rfl))|(refine Wp.seq ?_;apply WL.cf;(focus rfl)))
       exact an
   .have q3:¬(s[a].toNat:Int)=45:=by omega
    by_cases c3:pk s a=47
    .have q6:(s[a].toNat:Int)=47:=by omega
     obtain⟨m,hm⟩:=gn (dG bT (s.drop (a+1)));have hml:=EZ bT (s.drop (a+1));rw[hm,yBe]at hml;obtain⟨e,he⟩:∃e,e=a+1+m:=⟨_,rfl⟩;have e3:(a:Int)+1+(m:Int)=(e:Int):=xb;have e4:e-(a+1)=m:=xb
     by_cases hm0:m=0
     .have hp:cE s=iY:=by
       unfold cE;rw[ha];simp only[c1,c2,c3,yAN,yAM,hm,hm0];simp
      repeat(first
       |(refine Fr.i ?_;simp only[aL,yAT,yAU];try rfl)
       |(refine By.i ?_;(focus(simp(disch:=first|omega|(simp;done)|(simp;omega)) [wrap_i64,wrap_u64,h1,cC,entry,hs,ha,q1,q2,q3,q6,hm,e3,hm0];first|done|rfl|exact⟨rfl,rfl⟩)))
       |(refine By.i ?_;simp(disch:=first|omega|(simp;done)|(simp;omega)) [wrap_i64,wrap_u64,h1,cC,entry,hs,ha,q1,q2,q3,q6,hm,e3,hm0];refine⟨xh,rfl⟩)
       |(refine Wt.i ?_;first|rfl|(focus(simp[h1,cC,entry,hs,ha,q1,q2,q3,q6,hm,e3,hm0];done)))
       |(refine Ns.i ?_;(try simp only[yAl,yAQ,yAR,yAi,yAa,yAK,yAL,yAp,Nat.reduceAdd]);rfl)|rfl
       |(apply SL.pass;(focus(refine Wt.i ?_;rfl)))|(apply tu;(focus rfl))|apply SL.move|apply SL.assign|apply SL.load|apply SL.fK|apply tu|apply tu|apply SL.binOp|apply SL.append
       |apply tu|apply SL.builtin|apply SL.fieldAddr|apply SL.indexAddr|apply SL.field|apply SL.extract|apply SL.fL|apply SL.pick|apply SL.store|apply SL.unOp|apply SL.convert|apply SL.index
       |apply SL.slice|apply SL.build|apply SL.nilCheck|apply SL.buildSlice|apply SL.box|apply SL.alloc|apply SL.makeFunc|apply SQ.nil|(apply WL.jU;(focus decide +kernel))
       |(apply WL.dW xd;(focus decide +kernel);(focus decide +kernel))|(apply WL.jG;(focus decide +kernel);(focus decide +kernel))|(apply WL.kE;(focus decide +kernel))
       |(apply WL.kC xd;(focus decide +kernel);(focus decide +kernel))|(apply tu;(focus decide +kernel);(focus decide +kernel))
       |(apply WL.kB xd;(focus decide +kernel);(focus decide +kernel))|(apply WL.kA xd;(focus decide +kernel);(focus decide +kernel))
       |(apply WL.lA xd;(focus decide +kernel);(focus decide +kernel))|(apply tu xd;(focus decide +kernel);(focus decide +kernel))|apply tu|(apply WL.ct;(focus rfl))
       |(apply WL.cf;(focus rfl))|refine aS.normal ?_|refine aS.ret ?_|refine aS.exit ?_|refine aO.normal ?_|refine aO.ret ?_|refine aO.here ?_|refine aO.there xl ?_|refine Wp.block ?_
       |refine Wp.skip ?_|refine Wp.ret ?_|refine Wp.exit ?_|refine aM.ret ?_|refine aM.exit ?_|refine tu ?_|refine tu ?_|refine tu ?_|refine Wp.seq (Wp.seq ?_)
       |refine Wp.seq (Wp.block ?_)|(refine Wp.seq ?_;apply WL.ct;(focus rfl))|(refine Wp.seq ?_;apply WL.cf;(focus rfl)))
      exact an
     .have q7:¬(m:Int)=0:=by omega
      by_cases hel:e=s.length
      .have q8:(e:Int)=(s.length:Int):=by omega
       have hp:cE s=iY:=by
        unfold cE;rw[ha];simp only[c1,c2,c3,yAN,yAM,hm,<-he,OK (yCE hel.symm)];simp
       repeat(first
        |(refine Fr.i ?_;simp only[aL,yAT,yAU];try rfl)
        |(refine By.i ?_;(focus(simp(disch:=first|omega|(simp;done)|(simp;omega)) [wrap_i64,wrap_u64,h1,cC,entry,hs,ha,q1,q2,q3,q6,hm,e3,q7,hm0,q8];first|done|rfl|exact⟨rfl,rfl⟩)))
        |(refine By.i ?_;simp(disch:=first|omega|(simp;done)|(simp;omega)) [wrap_i64,wrap_u64,h1,cC,entry,hs,ha,q1,q2,q3,q6,hm,e3,q7,hm0,q8];refine⟨xh,rfl⟩)
        |(refine Wt.i ?_;first|rfl|(focus(simp[h1,cC,entry,hs,ha,q1,q2,q3,q6,hm,e3,q7,hm0,q8];done)))
        |(refine Ns.i ?_;(try simp only[yAl,yAQ,yAR,yAi,yAa,yAK,yAL,yAp,Nat.reduceAdd]);rfl)|rfl
        |(apply SL.pass;(focus(refine Wt.i ?_;rfl)))|(apply tu;(focus rfl))|apply SL.move|apply SL.assign|apply SL.load|apply SL.fK|apply tu|apply tu|apply SL.binOp|apply SL.append
        |apply tu|apply SL.builtin|apply SL.fieldAddr|apply SL.indexAddr|apply SL.field|apply SL.extract|apply SL.fL|apply SL.pick|apply SL.store|apply SL.unOp|apply SL.convert|apply SL.index
        |apply SL.slice|apply SL.build|apply SL.nilCheck|apply SL.buildSlice|apply SL.box|apply SL.alloc|apply SL.makeFunc|apply SQ.nil|(apply WL.jU;(focus decide +kernel))
        |(apply WL.dW xd;(focus decide +kernel);(focus decide +kernel))|(apply WL.jG;(focus decide +kernel);(focus decide +kernel))|(apply WL.kE;(focus decide +kernel))
        |(apply WL.kC xd;(focus decide +kernel);(focus decide +kernel))|(apply tu;(focus decide +kernel);(focus decide +kernel))
        |(apply WL.kB xd;(focus decide +kernel);(focus decide +kernel))|(apply WL.kA xd;(focus decide +kernel);(focus decide +kernel))
        |(apply WL.lA xd;(focus decide +kernel);(focus decide +kernel))|(apply tu xd;(focus decide +kernel);(focus decide +kernel))|apply tu|(apply WL.ct;(focus rfl))
        |(apply WL.cf;(focus rfl))|refine aS.normal ?_|refine aS.ret ?_|refine aS.exit ?_|refine aO.normal ?_|refine aO.ret ?_|refine aO.here ?_|refine aO.there xl ?_|refine Wp.block ?_
        |refine Wp.skip ?_|refine Wp.ret ?_|refine Wp.exit ?_|refine aM.ret ?_|refine aM.exit ?_|refine tu ?_|refine tu ?_|refine tu ?_|refine Wp.seq (Wp.seq ?_)
        |refine Wp.seq (Wp.block ?_)|(refine Wp.seq ?_;apply WL.ct;(focus rfl))|(refine Wp.seq ?_;apply WL.cf;(focus rfl)))
       exact an
      .have hlt2:e<s.length:=by omega
       have q8:¬(e:Int)=(s.length:Int):=xb;have hpe:=oT hlt2
       by_cases c4:pk s e=39
       .have q9:(s[e].toNat:Int)=39:=by omega
        have hp:cE s=(([],s.take a,(s.drop (a+1)).take m),(e:Int)+1):=by
         unfold cE;rw[ha];simp only[c3,hm,<-he];rw[yAI xb,yAI xb,yAJ trivial,yAJ ⟨hm0,c4⟩];rw[show(a:Int)+1+m+1=e+1 by omega]
        repeat(first
         |(refine Fr.i ?_;simp only[aL,yAT,yAU];try rfl)
         |(refine By.i ?_;(focus(simp(disch:=first|omega|(simp;done)|(simp;omega)) [wrap_i64,wrap_u64,h1,cC,entry,hs,ha,q1,q2,q3,q6,hm,e3,e4,q7,hm0,q8,q9];first|done|rfl|exact⟨rfl,rfl⟩)))
         |(refine By.i ?_;simp(disch:=first|omega|(simp;done)|(simp;omega)) [wrap_i64,wrap_u64,h1,cC,entry,hs,ha,q1,q2,q3,q6,hm,e3,e4,q7,hm0,q8,q9];refine⟨xh,rfl⟩)
         |(refine Wt.i ?_;first|rfl|(focus(simp[h1,cC,entry,hs,ha,q1,q2,q3,q6,hm,e3,e4,q7,hm0,q8,q9];done)))
         |(refine Ns.i ?_;(try simp only[yAl,yAQ,yAR,yAi,yAa,yAK,yAL,yAp,Nat.reduceAdd]);rfl)|rfl
         |(apply SL.pass;(focus(refine Wt.i ?_;rfl)))|(apply tu;(focus rfl))|apply SL.move|apply SL.assign|apply SL.load|apply SL.fK|apply tu|apply tu|apply SL.binOp|apply SL.append
         |apply tu|apply SL.builtin|apply SL.fieldAddr|apply SL.indexAddr|apply SL.field|apply SL.extract|apply SL.fL|apply SL.pick|apply SL.store|apply SL.unOp|apply SL.convert|apply SL.index
         |apply SL.slice|apply SL.build|apply SL.nilCheck|apply SL.buildSlice|apply SL.box|apply SL.alloc|apply SL.makeFunc|apply SQ.nil|(apply WL.jU;(focus decide +kernel))
         |(apply WL.dW xd;(focus decide +kernel);(focus decide +kernel))|(apply WL.jG;(focus decide +kernel);(focus decide +kernel))|(apply WL.kE;(focus decide +kernel))
         |(apply WL.kC xd;(focus decide +kernel);(focus decide +kernel))|(apply tu;(focus decide +kernel);(focus decide +kernel))
         |(apply WL.kB xd;(focus decide +kernel);(focus decide +kernel))|(apply WL.kA xd;(focus decide +kernel);(focus decide +kernel))
         |(apply WL.lA xd;(focus decide +kernel);(focus decide +kernel))|(apply tu xd;(focus decide +kernel);(focus decide +kernel))|apply tu|(apply WL.ct;(focus rfl))
         |(apply WL.cf;(focus rfl))|refine aS.normal ?_|refine aS.ret ?_|refine aS.exit ?_|refine aO.normal ?_|refine aO.ret ?_|refine aO.here ?_|refine aO.there xl ?_
         |refine Wp.block ?_|refine Wp.skip ?_|refine Wp.ret ?_|refine Wp.exit ?_|refine aM.ret ?_|refine aM.exit ?_|refine tu ?_|refine tu ?_|refine tu ?_|refine Wp.seq (Wp.seq ?_)
         |refine Wp.seq (Wp.block ?_)|(refine Wp.seq ?_;apply WL.ct;(focus rfl))|(refine Wp.seq ?_;apply WL.cf;(focus rfl)))
        exact qo
       .have q9:¬(s[e].toNat:Int)=39:=by omega
        have hp:cE s=iY:=by
         unfold cE;rw[ha];simp only[c1,c2,c3,c4,yAN,yAM,hm,<-he];simp
        repeat(first
         |(refine Fr.i ?_;simp only[aL,yAT,yAU];try rfl)
         |(refine By.i ?_;(focus(simp(disch:=first|omega|(simp;done)|(simp;omega)) [wrap_i64,wrap_u64,h1,cC,entry,hs,ha,q1,q2,q3,q6,hm,e3,q7,hm0,q8,q9];first|done|rfl|exact⟨rfl,rfl⟩)))
         |(refine By.i ?_;simp(disch:=first|omega|(simp;done)|(simp;omega)) [wrap_i64,wrap_u64,h1,cC,entry,hs,ha,q1,q2,q3,q6,hm,e3,q7,hm0,q8,q9];refine⟨xh,rfl⟩)
         |(refine Wt.i ?_;first|rfl|(focus(simp[h1,cC,entry,hs,ha,q1,q2,q3,q6,hm,e3,q7,hm0,q8,q9];done)))
         |(refine Ns.i ?_;(try simp only[yAl,yAQ,yAR,yAi,yAa,yAK,yAL,yAp,Nat.reduceAdd]);rfl)|rfl
         |(apply SL.pass;(focus(refine Wt.i ?_;rfl)))|(apply tu;(focus rfl))|apply SL.move|apply SL.assign|apply SL.load|apply SL.fK|apply tu|apply tu|apply SL.binOp|apply SL.append
         |apply tu|apply SL.builtin|apply SL.fieldAddr|apply SL.indexAddr|apply SL.field|apply SL.extract|apply SL.fL|apply SL.pick|apply SL.store|apply SL.unOp|apply SL.convert|apply SL.index
         |apply SL.slice|apply SL.build|apply SL.nilCheck|apply SL.buildSlice|apply SL.box|apply SL.alloc|apply SL.makeFunc|apply SQ.nil|(apply WL.jU;(focus decide +kernel))
         |(apply WL.dW xd;(focus decide +kernel);(focus decide +kernel))|(apply WL.jG;(focus decide +kernel);(focus decide +kernel))|(apply WL.kE;(focus decide +kernel))
         |(apply WL.kC xd;(focus decide +kernel);(focus decide +kernel))|(apply tu;(focus decide +kernel);(focus decide +kernel))
         |(apply WL.kB xd;(focus decide +kernel);(focus decide +kernel))|(apply WL.kA xd;(focus decide +kernel);(focus decide +kernel))
         |(apply WL.lA xd;(focus decide +kernel);(focus decide +kernel))|(apply tu xd;(focus decide +kernel);(focus decide +kernel))|apply tu|(apply WL.ct;(focus rfl))
         |(apply WL.cf;(focus rfl))|refine aS.normal ?_|refine aS.ret ?_|refine aS.exit ?_|refine aO.normal ?_|refine aO.ret ?_|refine aO.here ?_|refine aO.there xl ?_
         |refine Wp.block ?_|refine Wp.skip ?_|refine Wp.ret ?_|refine Wp.exit ?_|refine aM.ret ?_|refine aM.exit ?_|refine tu ?_|refine tu ?_|refine tu ?_|refine Wp.seq (Wp.seq ?_)
         |refine Wp.seq (Wp.block ?_)|(refine Wp.seq ?_;apply WL.ct;(focus rfl))|(refine Wp.seq ?_;apply WL.cf;(focus rfl)))
        exact an
    .have q6:¬(s[a].toNat:Int)=47:=by omega
     have hp:cE s=iY:=by
      unfold cE;rw[ha];simp only[c1,c2,c3,yAN]
     repeat(first
      |(refine Fr.i ?_;simp only[aL,yAT,yAU];try rfl)
      |(refine By.i ?_;(focus(simp(disch:=first|omega|(simp;done)|(simp;omega)) [wrap_i64,wrap_u64,h1,cC,entry,hs,ha,q1,q2,q3,q6];first|done|rfl|exact⟨rfl,rfl⟩)))
      |(refine By.i ?_;simp(disch:=first|omega|(simp;done)|(simp;omega)) [wrap_i64,wrap_u64,h1,cC,entry,hs,ha,q1,q2,q3,q6];refine⟨xh,rfl⟩)
      |(refine Wt.i ?_;first|rfl|(focus(simp[h1,cC,entry,hs,ha,q1,q2,q3,q6];done)))
      |(refine Ns.i ?_;(try simp only[yAl,yAQ,yAR,yAi,yAa,yAK,yAL,yAp,Nat.reduceAdd]);rfl)|rfl
      |(apply SL.pass;(focus(refine Wt.i ?_;rfl)))|(apply tu;(focus rfl))|apply SL.move|apply SL.assign|apply SL.load|apply SL.fK|apply tu|apply tu|apply SL.binOp|apply SL.append
      |apply tu|apply SL.builtin|apply SL.fieldAddr|apply SL.indexAddr|apply SL.field|apply SL.extract|apply SL.fL|apply SL.pick|apply SL.store|apply SL.unOp|apply SL.convert|apply SL.index|apply SL.slice
      |apply SL.build|apply SL.nilCheck|apply SL.buildSlice|apply SL.box|apply SL.alloc|apply SL.makeFunc|apply SQ.nil|(apply WL.jU;(focus decide +kernel))
      |(apply WL.dW xd;(focus decide +kernel);(focus decide +kernel))|(apply WL.jG;(focus decide +kernel);(focus decide +kernel))|(apply WL.kE;(focus decide +kernel))
      |(apply WL.kC xd;(focus decide +kernel);(focus decide +kernel))|(apply tu;(focus decide +kernel);(focus decide +kernel))
      |(apply WL.kB xd;(focus decide +kernel);(focus decide +kernel))|(apply WL.kA xd;(focus decide +kernel);(focus decide +kernel))
      |(apply WL.lA xd;(focus decide +kernel);(focus decide +kernel))|(apply tu xd;(focus decide +kernel);(focus decide +kernel))|apply tu|(apply WL.ct;(focus rfl))
      |(apply WL.cf;(focus rfl))|refine aS.normal ?_|refine aS.ret ?_|refine aS.exit ?_|refine aO.normal ?_|refine aO.ret ?_|refine aO.here ?_|refine aO.there xl ?_|refine Wp.block ?_
      |refine Wp.skip ?_|refine Wp.ret ?_|refine Wp.exit ?_|refine aM.ret ?_|refine aM.exit ?_|refine tu ?_|refine tu ?_|refine tu ?_|refine Wp.seq (Wp.seq ?_)|refine Wp.seq (Wp.block ?_)
      |(refine Wp.seq ?_;apply WL.ct;(focus rfl))|(refine Wp.seq ?_;apply WL.cf;(focus rfl)))
     exact an
end
section
abbrev u64:Em Int:=Em.int .u64
abbrev CG:=Int×Int
def bC.mS:bC CG:=(bC.one i64).pair (.one i64)
def Em.mS:Em CG:=.agg .mS
@[simp] theorem aIG{p:CG}:Em.mS.aA p=.agg [.int .i64 p.1,.int .i64 p.2]:=rfl
def jI(n d:Nat):CG×Int:=if 1000000<n/n.gcd d\/1000000<d/n.gcd d then((0,0),4)else(((n/n.gcd d:Nat),(d/n.gcd d:Nat)),0)
variable{E:aE}(hU:aF E)
include hU
set_option maxRecDepth 10000
theorem aQx(h0:E 37=none)(n:Int)(hn:0<=n)(hn2:n<=9223372036854775807):aI prog E 37 [i64.aA n] (u64.aA n):=by
 refine aI.aU 10 h0 func37 (h:=?_);have h1:¬n<0:=xb;refine aD h1 ?_;exact aa
theorem aQy(h0:E 36=none)(a b:Nat)(ha:(a:Int)<=9223372036854775807)(hb:(b:Int)<=9223372036854775807):aI prog E 36 [.int .u64 a,.int .u64 b] (.int .u64 (a.gcd b)):=by
 refine aI.aU 12 h0 func36 (h:=?_);refine aD trivial ?_;refine Wp.eV (λm fr σ=>∃(x y:Nat),∃gg:Nat->PD,(m=y/\x.gcd y=a.gcd b/\(x:Int)<=9223372036854775807/\(y:Int)<=9223372036854775807)/\fr=[.int .u64 x,.int .u64 y,gg 2,gg 3,gg 4,gg 5,gg 6,gg 7,gg 8,gg 9,gg 10,gg 11]/\σ=[]) ?_ (b) (by refine⟨a,b,?_⟩;exact cG (⟨rfl,rfl,ha,hb⟩))
 rintro m fr σ ⟨x,y,gg,hI,rfl,rfl⟩
 obtain⟨hm,hg,hx,hy⟩:=hI
 by_cases h1:y=0
 .have q1:¬0<(y:Int):=by omega
  have q2:¬0<y:=xb;subst h1;rw[Nat.gcd_zero_right]at hg;refine aD (A2 q1 q2) ?_;simp(disch:=first|omega|(simp;done)|(simp;omega)) [yAu,hg]<;>try rfl
 .have q1:0<(y:Int):=by omega
  have q2:0<y:=xb;have hlt:=yBZ x q2;have hr:(x:Int)%(y:Int)=((x%y:Nat):Int):=xb;have hr2:(x:Int).tmod (y:Int)=((x%y:Nat):Int):=by rw[yDs xb];exact hr
  obtain⟨z,hz⟩:=gn (x%y);have hgn:y.gcd z=a.gcd b:=by rw[<-hz,<-hg,yDc x y,Nat.gcd_rec y x,yDc]
  rw[hz]at hr hr2 hlt;refine aD (A5 q1 q2 h1 hr hr2) ?_;refine aM.normal (z) xb (by refine⟨y,z,?_⟩;exact cG (⟨rfl,hgn,hy,xb⟩))
theorem aQz(h0:E 121=none)(h1:E 37=some (entry (aX i64 u64 λn=>bJ (0<=n/\n<=9223372036854775807) (some n))))
  (h2:E 36=some (entry (cV u64 u64 u64 λa b=>bJ (0<=a/\a<=9223372036854775807/\0<=b/\b<=9223372036854775807) (some (a.toNat.gcd b.toNat:Nat)))))
  (n d:Nat) (hn:(n:Int)<=9000000000000000000) (hd:(d:Int)<=9000000000000000000) (CS:d≠0):aI prog E 121 [.int .i64 n,.int .i64 d] ((Em.mS.gP i64).aA (jI n d)):=by
 refine aI.aU 48 h0 func121 (h:=?_);have q0:¬(d:Int)=0:=xb;obtain⟨g,hg⟩:=gn (n.gcd d);have VT:g≠0:=by
  rw[<-hg];intro h;exact CS (yDL h)
 have hgi:¬(g:Int)=0:=xb;obtain⟨x,hx⟩:=gn (n/g);obtain⟨y,hy⟩:=gn (d/g);have hxl:x<=n:=by rw[<-hx];exact yCH _ _
 have hyl:y<=d:=by rw[<-hy];exact yCH _ _
 have hxi:(n:Int)/(g:Int)=(x:Int):=by rw[<-hx];rfl
 have hyi:(d:Int)/(g:Int)=(y:Int):=by rw[<-hy];rfl
 have n1:¬(n:Int)<0:=xb;have n2:¬(d:Int)<0:=xb
 by_cases c1:1000000<x
 .have e1:1000000<(x:Int):=by omega
  have hm:jI n d=((0,0),4):=by
   unfold jI;rw[hg,hx,yAJ (.inl c1)]
  refine aD (A11 h1 h2 q0 CS hg VT hgi hxi hyi e1 c1) ?_;exact ji
 .have e1:¬1000000<(x:Int):=by omega
  by_cases c2:1000000<y
  .have e2:1000000<(y:Int):=by omega
   have hm:jI n d=((0,0),4):=by
    unfold jI;rw[hg,hx,hy,yAJ (.inr c2)]
   refine aD (A13 h1 h2 q0 CS hg VT hgi hxi hyi e1 c1 e2 c2) ?_;exact ji
  .have e2:¬1000000<(y:Int):=by omega
   have hm:jI n d=(((x:Int),(y:Int)),0):=by
    unfold jI;rw[hg,hx,hy,yAI xb]
   refine aD (A15 h1 h2 q0 CS hg VT hgi hxi hyi e1 c1 e2 c2 n1 n2) ?_;exact ji
end
section
structure Tk where
 kind:Int
 text:Bx
 num:Int
 cB:CG
 line:Int
 bR:Int
 deriving DecidableEq
def bC.tk:bC Tk:=((bC.one i64).pair ((bC.one .text).pair ((bC.one i64).pair (.pair .mS ((bC.one i64).pair (.one i64)))))).mF (λt=>(t.kind,t.text,t.num,t.cB,t.line,t.bR)) (λx y h=>xu)
def Em.tk:Em Tk:=.agg .tk
@[simp] theorem FC{t:Tk}:Em.tk.aA t=.agg [.int .i64 t.kind,.str t.text,.int .i64 t.num,.int .i64 t.cB.1,.int .i64 t.cB.2,.int .i64 t.line,.int .i64 t.bR]:=rfl
def bD:Tk:=⟨0,[],0,(0,0),0,0⟩
def wv(l:List UInt8)(d:Nat):Nat:=if l=[]then d else eX l
def pM(l:List UInt8):Prop:=l=[]\/eX l<=1000000
instance (l:List UInt8):Decidable (pM l):=by unfold pM;infer_instance
def gH(a b:Nat):List UInt8:=
 if a%b=0 then Lib.itoa ((a/b:Nat):Int)else if a/b=0 then Lib.itoa ((a%b:Nat):Int)++[47]++Lib.itoa (b:Int)else Lib.itoa ((a/b:Nat):Int)++[45]++(Lib.itoa ((a%b:Nat):Int)++[47]++Lib.itoa (b:Int))
def gZ(p:EY):Tk×Int:=
 if ¬(pM p.1/\pM p.2.1/\pM p.2.2)\/wv p.2.2 1=0 then(bD,2)else
 if (jI (wv p.1 0*wv p.2.2 1+wv p.2.1 0) (wv p.2.2 1)).2≠0 then(bD,2)else
  (⟨3,gH (jI (wv p.1 0*wv p.2.2 1+wv p.2.1 0) (wv p.2.2 1)).1.1.toNat (jI (wv p.1 0*wv p.2.2 1+wv p.2.1 0) (wv p.2.2 1)).1.2.toNat++[39],0,(jI (wv p.1 0*wv p.2.2 1+wv p.2.1 0) (wv p.2.2 1)).1,0,0⟩,0)
theorem aUJ(u:Nat):(Lib.decDigits u).length<=u+1:=by
 induction u using Nat.strongRecOn with
 |ind u ih=>
  rw[Lib.decDigits];split
  .simp
  .rename_i h;have:=ih (u/10) xb;rw[yAa,yBb];omega
theorem FD(n:Nat):(Lib.itoa (n:Int)).length<=n+1:=by
 unfold Lib.itoa;rw[yAI xb,yBq];exact aUJ n
theorem aES{l:Bx}{d:Nat}(h:pM l)(hd:d<=1000000):wv l d<=1000000:=by
 unfold wv;split
 .exact hd
 .rename_i hl;exact h.resolve_left hl
theorem aUK{n d:Nat}(hd:d≠0):jI n d=((0,0),4)\/∃x y:Nat,jI n d=(((x:Int),(y:Int)),0)/\y≠0/\x<=1000000/\y<=1000000:=by
 unfold jI;split
 .exact .inl rfl
 .rename_i h;have hg:n.gcd d≠0:=λe=>hd (yDL e)
  have hle:n.gcd d<=d:=Nat.gcd_le_right _ xb;have:=Nat.div_pos hle xb;exact .inr ⟨_,_,rfl,xb,xb,xb⟩
def iR(s:List UInt8):Tk×Int:=
 let v:=eX (Lib.trimPrefix s [45])
 if 1000000000<v then(bD,2)else
 let n:Int:=if pk s 0=45 then -(v:Int)else v
 (⟨2,Lib.itoa n,n,(0,0),0,0⟩,0)
variable{E:aE}(hU:aF E)
include hU
set_option maxRecDepth 10000
theorem aUy(h0:E 81=none)(h1:E 122=some (entry (cV .text .text .text λs t=>some (Lib.trimPrefix s t))))
  (h2:E 120=some (entry (cV .text i64 (i64.gP .bool) λs m=>bJ (fN s/\0<=m/\m<=2000000000/\(s.length:Int)<4000000000) (some (kI s m)))))
  (h3:E 40=some (entry (aX i64 .text λn=>bJ (-9223372036854775808<=n/\n<=9223372036854775807) (some (Lib.itoa n)))))
  (s:List UInt8) (hs:0<s.length) (hd:fN (Lib.trimPrefix s [45])) (hl:(s.length:Int)<4000000000):aI prog E 81 [.str s] ((Em.tk.gP i64).aA (iR s)):=by
 have rJ:((Lib.trimPrefix s [45]).length:Int)<4000000000:=by
  have:(Lib.trimPrefix s [45]).length<=s.length:=by
   unfold Lib.trimPrefix;split
   .rw[yBe];omega
   .exact yAk _
  omega
 obtain⟨t,ht⟩:=gn (Lib.trimPrefix s [45]);rw[ht]at hd rJ;have hpk:=oT hs;refine aI.aU 24 h0 func81 (h:=?_)
 by_cases hv:1000000000<eX t
 .have hP:kI t 1000000000=(0,false):=by
   exact je
  have hn:iR s=(bD,2):=by
   unfold iR;rw[ht];simp only[hv,yAM]
  refine aD (A6 h1 h2 ht hd rJ hP) ?_;simp(disch:=first|omega|(simp;done)|(simp;omega)) [yAu,hn,bD]<;>try rfl
 .have hP:kI t 1000000000=((eX t:Int),true):=by
   exact nh
  by_cases hc:pk s 0=45
  .have hq:(s[0].toNat:Int)=45:=by omega
   have hn:iR s=(⟨2,Lib.itoa (-(eX t:Int)),-(eX t:Int),(0,0),0,0⟩,0):=by
    unfold iR;rw[ht];simp only[hv,hc,yAM,yAN]
   exact kf
  .have hq:¬(s[0].toNat:Int)=45:=by omega
   have hn:iR s=(⟨2,Lib.itoa (eX t:Int),(eX t:Int),(0,0),0,0⟩,0):=by
    unfold iR;rw[ht];simp only[hv,hc,yAN]
   exact kf
theorem aUw(h0:E 80=none)
  (h2:E 120=some (entry (cV .text i64 (i64.gP .bool) λs m=>bJ (fN s/\0<=m/\m<=2000000000/\(s.length:Int)<4000000000) (some (kI s m)))))
  (h3:E 40=some (entry (aX i64 .text λn=>bJ (-9223372036854775808<=n/\n<=9223372036854775807) (some (Lib.itoa n)))))
  (h4:E 121=some (entry (cV i64 i64 (Em.mS.gP i64) λn d=>bJ (0<=n/\n<=9000000000000000000/\0<d/\d<=9000000000000000000) (some (jI n.toNat d.toNat)))))
  (p:EY) (CS:fN p.1) (oL:fN p.2.1) (lO:fN p.2.2) (hl0:(p.1.length:Int)<4000000000) (hl1:(p.2.1.length:Int)<4000000000) (rJ:(p.2.2.length:Int)<4000000000) :
  aI prog E 80 [Em.parts.aA p] ((Em.tk.gP i64).aA (gZ p)):=by
 obtain⟨s0,s1,s2⟩:=p;simp only at CS oL lO hl0 hl1 rJ;refine aI.aU 87 h0 func80 (h:=?_);refine aD trivial ?_;refine Wp.eV (λm fr σ=>∃(i w0 w1 w2:Nat),∃gg:Nat->PD,(i+m=3/\(w0=if 0<i then wv s0 0 else 0)/\(w1=if 1<i then wv s1 0 else 0)/\(w2=if 2<i then wv s2 1 else 1)/\(0<i->pM s0)/\(1<i->pM s1)/\(2<i->pM s2))/\fr=.agg [.str s0,.str s1,.str s2]::.ptr 0 0::.ptr 1 0::.int .i64 0::.ptr 2 0::gg 5::gg 6::gg 7::gg 8::gg 9::gg 10::gg 11::gg 12::gg 13::.ptr 2 2::.agg [.str s0,.str s1,.str s2]::.int .i64 i::gg 17::gg 18::gg 19::gg 20::gg 21::gg 22::gg 23::gg 24::gg 25::gg 26::gg 27::gg 28::gg 29::gg 30::gg 31::gg 32::gg 33::gg 34::gg 35::gg 36::gg 37::gg 38::gg 39::gg 40::gg 41::gg 42::gg 43::gg 44::gg 45::gg 46::gg 47::gg 48::gg 49::gg 50::gg 51::gg 52::gg 53::gg 54::gg 55::gg 56::gg 57::gg 58::gg 59::gg 60::gg 61::gg 62::gg 63::gg 64::gg 65::gg 66::gg 67::gg 68::gg 69::gg 70::gg 71::gg 72::gg 73::gg 74::gg 75::gg 76::gg 77::gg 78::gg 79::gg 80::gg 81::gg 82::gg 83::gg 84::gg 85::gg 86::[]/\σ=[.box (.agg [.str s0,.str s1,.str s2]),.box (Em.tk.aA bD),.box (.agg [.int .i64 w0,.int .i64 w1,.int .i64 w2])]) ?_ (3) (by refine⟨0,0,0,1,?_⟩;exact vK (⟨xb,rfl,rfl,rfl,λh=>absurd h xb,λh=>absurd h xb,λh=>absurd h xb⟩) xj xj)
 rintro m fr σ ⟨i,w0,w1,w2,gg,hI,rfl,rfl⟩
 obtain⟨hm,hw0,hw1,rK,IA,ho1,ho2⟩:=hI;rcases(show i=0\/i=1\/i=2\/i=3 by omega)with rfl|rfl|rfl|rfl
 .simp at hw0 hw1 rK
  by_cases he:s0=[]
  .have oQ:(s0==[])=true:=by simp[he]
   refine aD (A2 @he oQ) ?_;refine aM.normal (m-1) xb (by refine⟨1,w0,w1,w2,?_⟩;exact vK (⟨xb,by rw[hw0];simp[wv,he],by rw[hw1];simp,by rw[rK];simp,λ_=>.inl he,λh=>absurd h xb,λh=>absurd h xb⟩) xj xj)
  .have oQ:(s0==[])=false:=by simpa using he
   have EW:s0.isEmpty=false:=Bk
   by_cases hv:1000000<eX s0
   .have hP:kI s0 1000000=(0,false):=by
     exact je
    have hf:gZ (s0,s1,s2)=(bD,2):=by
     unfold gZ;rw[yAJ (.inl λh=>by
      have:pM s0:=h.1;rcases this with e|e
      .exact he e
      .omega)]
    refine aD (A7 @he oQ EW h2 CS hl0 hP) ?_;exact dy
   .have hP:kI s0 1000000=((eX s0:Int),true):=by
     exact nh
    refine aD (A7 @he oQ EW h2 CS hl0 hP) ?_;refine aM.normal (m-1) xb (by refine⟨1,eX s0,w1,w2,?_⟩;exact vK (⟨xb,by simp[wv,he],by rw[hw1];simp,by rw[rK];simp,λ_=>.inr xb,λh=>absurd h xb,λh=>absurd h xb⟩) xj xj)
 .simp at hw0 hw1 rK
  by_cases he:s1=[]
  .have oQ:(s1==[])=true:=by simp[he]
   refine aD (A2 @he oQ) ?_;refine aM.normal (m-1) xb (by refine⟨2,w0,w1,w2,?_⟩;exact vK (⟨xb,by rw[hw0];simp,by rw[hw1];simp[wv,he],by rw[rK];simp,λ_=>IA xb,λ_=>.inl he,λh=>absurd h xb⟩) xj xj)
  .have oQ:(s1==[])=false:=by simpa using he
   have EW:s1.isEmpty=false:=Bk
   by_cases hv:1000000<eX s1
   .have hP:kI s1 1000000=(0,false):=by
     exact je
    have hf:gZ (s0,s1,s2)=(bD,2):=by
     unfold gZ;rw[yAJ (.inl λh=>by
      have:pM s1:=h.2.1;rcases this with e|e
      .exact he e
      .omega)]
    refine aD (A7 @he oQ EW h2 oL hl1 hP) ?_;exact dy
   .have hP:kI s1 1000000=((eX s1:Int),true):=by
     exact nh
    refine aD (A7 @he oQ EW h2 oL hl1 hP) ?_;refine aM.normal (m-1) xb (by refine⟨2,w0,eX s1,w2,?_⟩;exact vK (⟨xb,by rw[hw0];simp,by simp[wv,he],by rw[rK];simp,λ_=>IA xb,λ_=>.inr xb,λh=>absurd h xb⟩) xj xj)
 .simp at hw0 hw1 rK
  by_cases he:s2=[]
  .have oQ:(s2==[])=true:=by simp[he]
   refine aD (A2 @he oQ) ?_;refine aM.normal (m-1) xb (by refine⟨3,w0,w1,w2,?_⟩;exact vK (⟨xb,by rw[hw0];simp,by rw[hw1];simp,by rw[rK];simp[wv,he],λ_=>IA xb,λ_=>ho1 xb,λ_=>.inl he⟩) xj xj)
  .have oQ:(s2==[])=false:=by simpa using he
   have EW:s2.isEmpty=false:=Bk
   by_cases hv:1000000<eX s2
   .have hP:kI s2 1000000=(0,false):=by
     exact je
    have hf:gZ (s0,s1,s2)=(bD,2):=by
     unfold gZ;rw[yAJ (.inl λh=>by
      have:pM s2:=h.2.2;rcases this with e|e
      .exact he e
      .omega)]
    refine aD (A7 @he oQ EW h2 lO rJ hP) ?_;exact dy
   .have hP:kI s2 1000000=((eX s2:Int),true):=by
     exact nh
    refine aD (A7 @he oQ EW h2 lO rJ hP) ?_;refine aM.normal (m-1) xb (by refine⟨3,w0,w1,eX s2,?_⟩;exact vK (⟨xb,by rw[hw0];simp,by rw[hw1];simp,by simp[wv,he],λ_=>IA xb,λ_=>ho1 xb,λ_=>.inr xb⟩) xj xj)
 .simp at hw0 hw1 rK;have ok0:=IA xb;have ok1:=ho1 xb;have ok2:=ho2 xb;have b0:w0<=1000000:=by rw[hw0];exact aES ok0 xb
  have b1:w1<=1000000:=by rw[hw1];exact aES ok1 xb
  have b2:w2<=1000000:=by rw[rK];exact aES ok2 xb
  by_cases hz:w2=0
  .have hf:gZ (s0,s1,s2)=(bD,2):=by
    unfold gZ;rw[yAJ (.inr (by simp only;rw[<-rK];exact hz))]
   subst hz;refine aD trivial ?_;exact dy
  .have hzi:¬(w2:Int)=0:=by omega
   obtain⟨N,hN⟩:∃N,N=w0*w2+w1:=⟨_,rfl⟩;obtain⟨K,hK⟩:=gn (w0*w2);have iO:w0*w2<=1000000*1000000:=Nat.mul_le_mul b0 b2;have hmi:(w0:Int)*(w2:Int)=(K:Int):=by rw[<-hK];simp
   have hNi:(K:Int)+(w1:Int)=(N:Int):=xb;have hfS:gZ (s0,s1,s2)=if (jI N w2).2≠0 then(bD,2)else(⟨3,gH (jI N w2).1.1.toNat (jI N w2).1.2.toNat++[39],0,(jI N w2).1,0,0⟩,0):=by
    unfold gZ;simp only;rw[<-hw0,<-hw1,<-rK,<-hN,yAI (by
     rintro(h|h)
     .exact h ⟨ok0,ok1,ok2⟩
     .exact hz h)]
   rcases aUK (n:=N) hz with hM | ⟨x,y,hM,hy,hxl,hyl⟩
   .rw[hM]at hfS;rw[yAJ wz]at hfS;refine aD (A6 hz hzi h4 hNi hmi hM) ?_;simp(disch:=first|omega|(simp;done)|(simp;omega)) [yAu,hfS,bD]<;>try rfl
   .rw[hM]at hfS;simp only[ne_eq,yBt,yAN,yBq]at hfS;have hyi:¬(y:Int)=0:=xb;obtain⟨q,hq⟩:=gn (x/y);obtain⟨r,hr⟩:=gn (x%y);have hqi:(x:Int)/(y:Int)=(q:Int):=by rw[<-hq];rfl
    have aET:(x:Int).tdiv (y:Int)=(q:Int):=by rw[yDM xb];exact hqi
    have hri:(x:Int)%(y:Int)=(r:Int):=by rw[<-hr];rfl
    have aEU:(x:Int).tmod (y:Int)=(r:Int):=by rw[yDs xb];exact hri
    have hql:q<=x:=by rw[<-hq];exact yCH _ _
    have hrl:r<=x:=by rw[<-hr];exact Nat.mod_le _ _
    have lq:=FD q;have lr:=FD r;have ly:=FD y;unfold gH at hfS;rw[hq,hr]at hfS
    by_cases L3:r=0
    .simp only[L3,yAM]at hfS;refine aD (A14 hz hzi h3 h4 hNi hmi hM hy hyi hqi aET hri aEU L3) ?_;exact jb
    .have aKp:¬(r:Int)=0:=by omega
     by_cases XD:q=0
     .simp only[L3,XD,yAM,yAN]at hfS;refine aD (A16 hz hzi h3 h4 hNi hmi hM hy hyi hqi aET hri aEU L3 aKp XD) ?_;exact jb
     .have aUL:¬(q:Int)=0:=by omega
      simp only[L3,XD,yAN]at hfS;refine aD (A17 hz hzi h3 h4 hNi hmi hM hy hyi hqi aET hri aEU L3 aKp XD aUL) ?_;exact jb
end
section
theorem XF:∀s:List UInt8,fN (s.take (dG bT s))
 | []=>by intro b hb;simp at hb
 |c::r=>by
  rw[OL];split
  .rename_i h;intro b hb;rw[yCO]at hb;rcases yAS.1 hb with rfl|hb
   .exact h
   .exact XF r b hb
  .intro b hb;simp at hb
theorem SV:fN []:=by intro b hb;simp at hb
theorem aUI(s:List UInt8):fN (cE s).1.1/\fN (cE s).1.2.1/\fN (cE s).1.2.2/\(cE s).1.1.length<=s.length/\(cE s).1.2.1.length<=s.length/\(cE s).1.2.2.length<=s.length:=by
 have h1:=XF s;have h2:=λn=>XF (s.drop n)
 have l1:∀n,(s.take n).length<=s.length:=λn=>Ar
 have l2:∀a n,((s.drop a).take n).length<=s.length:=λa n=>by rw[yAt,yBe];omega
 unfold cE iY;simp only
 repeat' split
 all_goals first
  |exact⟨h1,SV,SV,l1 _,yAF _,yAF _⟩
  |exact⟨h1,h2 _,h2 _,l1 _,l2 _ _,l2 _ _⟩
  |exact⟨SV,h1,h2 _,yAF _,l1 _,l2 _ _⟩
  |exact⟨SV,SV,SV,yAF _,yAF _,yAF _⟩
def marks:List UInt8:=[40,41,91,93,123,125,58,44,59,61,43,46,63,42,47]
def cY(s:List UInt8):Tk×Int×Int:=
 if lS (pk s 0)=true then
  if 32<dG mZ s then(bD,0,8)else(⟨1,s.take (dG mZ s),0,(0,0),0,0⟩,dG mZ s,0)
 else if bT (pk s 0)=true then
  if 0<(cE s).2 then((gZ (cE s).1).1,(cE s).2,(gZ (cE s).1).2)
  else((iR (s.take (dG bT s))).1,dG bT s,(iR (s.take (dG bT s))).2)
 else if pk s 0=45/\bT (pk s 1)=true then
  ((iR (s.take (1+dG bT (s.drop 1)))).1,1+dG bT (s.drop 1),(iR (s.take (1+dG bT (s.drop 1)))).2)
 else if pk s 0=34 then
  if Lib.indexByte (s.drop 1) 34<0 then(bD,0,15)else(⟨4,(s.drop 1).take (Lib.indexByte (s.drop 1) 34).toNat,0,(0,0),0,0⟩,Lib.indexByte (s.drop 1) 34+2,0)
 else if Lib.hasPrefix s [45,62]=true then(⟨5,s.take 2,0,(0,0),0,0⟩,2,0)
 else if 0<=Lib.indexByte marks (pk s 0).toUInt8 then(⟨5,s.take 1,0,(0,0),0,0⟩,1,0)
 else(bD,0,15)
@[simp] theorem a2d{α:Type}{s:List α}:s.tail.take (s.length-1)=s.tail:=yAz wz
theorem aEP:∀(s:List UInt8) (c:UInt8),Lib.indexByte s c<s.length
 | [],c=>by simp[Lib.indexByte]
 |b::r,c=>by
  have h:=aEP r c;unfold Lib.indexByte;rw[yAK];split
  .omega
  .split
   .omega
   .omega
theorem aBa{s:Bx}(h:Lib.hasPrefix s [45,62]=true):2<=s.length:=by
 match s,h with
 | [],h=>simp[Lib.hasPrefix,List.isPrefixOf]at h
 | [a],h=>simp[Lib.hasPrefix,List.isPrefixOf]at h
 |a::b::r,_=>simp
variable{E:aE}(hU:aF E)
include hU
set_option maxRecDepth 10000
theorem aUB(h0:E 39=none)(h1:E 76=some (entry cC))(h2:E 75=some (entry (aX u8 .bool λn=>some (lS n))))(h3:E 78=some (entry (aX u8 .bool λn=>some (bT n))))
  (h4:E 79=some (entry (aX .text (Em.parts.gP i64) λs=>bJ ((s.length:Int)<4000000000) (some (cE s)))))
  (h5:E 80=some (entry (aX .parts (Em.tk.gP i64) λp=>bJ (fN p.1/\fN p.2.1/\fN p.2.2/\(p.1.length:Int)<4000000000/\(p.2.1.length:Int)<4000000000/\(p.2.2.length:Int)<4000000000) (some (gZ p)))))
  (h6:E 81=some (entry (aX .text (Em.tk.gP i64) λs=>bJ (0<s.length/\fN (Lib.trimPrefix s [45])/\(s.length:Int)<4000000000) (some (iR s)))))
  (h7:E 82=some (entry (cV .text u8 i64 λs n=>bJ (0<=n/\n<=255) (some (Lib.indexByte s n.toNat.toUInt8)))))
  (h8:E 83=some (entry (cV .text .text .bool λs t=>some (Lib.hasPrefix s t))))
  (s:List UInt8) (hs:0<s.length) (hl:(s.length:Int)<4000000000):aI prog E 39 [.str s] ((Em.tk.J8 i64 i64).aA (cY s)):=by
 have hpk:=oT hs;refine aI.aU 110 h0 func39 (h:=?_);cases c1:lS (pk s 0)with
 |true=>
  have dQ:lS (s[0].toNat:Int)=true:=by rw[<-hpk];exact c1
  obtain⟨n,hn⟩:=gn (dG mZ s);have hnl:=EZ mZ s;rw[hn]at hnl
  by_cases c3:32<n
  .have mO:32<(n:Int):=by omega
   have hT:cY s=(bD,0,8):=by
    unfold cY;rw[yAJ c1,hn,yAJ c3]
   repeat(first
    |(refine Fr.i ?_;simp only[aL,yAT,yAU];try rfl)
    |(refine By.i ?_;(focus(simp(disch:=first|omega|(simp;done)|(simp;omega)) [wrap_i64,wrap_u64,hs,h1,h2,dQ,cC,hl,hn,c3,mO,entry,aX];first|done|rfl|exact⟨rfl,rfl⟩)))
    |(refine By.i ?_;simp(disch:=first|omega|(simp;done)|(simp;omega)) [wrap_i64,wrap_u64,hs,h1,h2,dQ,cC,hl,hn,c3,mO,entry,aX];refine⟨xh,rfl⟩)
    |(refine Wt.i ?_;first|rfl|(focus(simp[hs,h1,h2,dQ,cC,hl,hn,c3,mO,entry,aX];done)))
    |(refine Ns.i ?_;(try simp only[yAl,yAQ,yAR,yAi,yAa,yAK,yAL,yAp,Nat.reduceAdd]);rfl)|rfl
    |(apply SL.pass;(focus(refine Wt.i ?_;rfl)))|(apply tu;(focus rfl))|apply SL.move|apply SL.assign|apply SL.load|apply SL.fK|apply tu|apply tu|apply SL.binOp|apply SL.append
    |apply tu|apply SL.builtin|apply SL.fieldAddr|apply SL.indexAddr|apply SL.field|apply SL.extract|apply SL.fL|apply SL.pick|apply SL.store|apply SL.unOp|apply SL.convert|apply SL.index|apply SL.slice
    |apply SL.build|apply SL.nilCheck|apply SL.buildSlice|apply SL.box|apply SL.alloc|apply SL.makeFunc|apply SQ.nil|(apply WL.jU;(focus decide +kernel))
    |(apply WL.dW xd;(focus decide +kernel);(focus decide +kernel))|(apply WL.jG;(focus decide +kernel);(focus decide +kernel))|(apply WL.kE;(focus decide +kernel))
    |(apply WL.kC xd;(focus decide +kernel);(focus decide +kernel))|(apply tu;(focus decide +kernel);(focus decide +kernel))|(apply WL.kB xd;(focus decide +kernel);(focus decide +kernel))
    |(apply WL.kA xd;(focus decide +kernel);(focus decide +kernel))|(apply WL.lA xd;(focus decide +kernel);(focus decide +kernel))
    |(apply tu xd;(focus decide +kernel);(focus decide +kernel))|apply tu|(apply WL.ct;(focus rfl))|(apply WL.cf;(focus rfl))|refine aS.normal ?_|refine aS.ret ?_|refine aS.exit ?_
    |refine aO.normal ?_|refine aO.ret ?_|refine aO.here ?_|refine aO.there xl ?_|refine Wp.block ?_|refine Wp.skip ?_|refine Wp.ret ?_|refine Wp.exit ?_|refine aM.ret ?_|refine aM.exit ?_
    |refine tu ?_|refine tu ?_|refine tu ?_|refine Wp.seq (Wp.seq ?_)|refine Wp.seq (Wp.block ?_)|(refine Wp.seq ?_;apply WL.ct;(focus rfl))|(refine Wp.seq ?_;apply WL.cf;(focus rfl)))
   simp(disch:=first|omega|(simp;done)|(simp;omega)) [yAu,hT,bD]<;>try rfl
  .have mO:¬32<(n:Int):=by omega
   have hT:cY s=(⟨1,s.take n,0,(0,0),0,0⟩,(n:Int),0):=by
    unfold cY;rw[yAJ c1,hn,yAI c3]
   repeat(first
    |(refine Fr.i ?_;simp only[aL,yAT,yAU];try rfl)
    |(refine By.i ?_;(focus(simp(disch:=first|omega|(simp;done)|(simp;omega)) [wrap_i64,wrap_u64,hs,h1,h2,dQ,cC,hl,hn,c3,mO,entry,aX];first|done|rfl|exact⟨rfl,rfl⟩)))
    |(refine By.i ?_;simp(disch:=first|omega|(simp;done)|(simp;omega)) [wrap_i64,wrap_u64,hs,h1,h2,dQ,cC,hl,hn,c3,mO,entry,aX];refine⟨xh,rfl⟩)
    |(refine Wt.i ?_;first|rfl|(focus(simp[hs,h1,h2,dQ,cC,hl,hn,c3,mO,entry,aX];done)))
    |(refine Ns.i ?_;(try simp only[yAl,yAQ,yAR,yAi,yAa,yAK,yAL,yAp,Nat.reduceAdd]);rfl)|rfl
    |(apply SL.pass;(focus(refine Wt.i ?_;rfl)))|(apply tu;(focus rfl))|apply SL.move|apply SL.assign|apply SL.load|apply SL.fK|apply tu|apply tu|apply SL.binOp|apply SL.append
    |apply tu|apply SL.builtin|apply SL.fieldAddr|apply SL.indexAddr|apply SL.field|apply SL.extract|apply SL.fL|apply SL.pick|apply SL.store|apply SL.unOp|apply SL.convert|apply SL.index|apply SL.slice
    |apply SL.build|apply SL.nilCheck|apply SL.buildSlice|apply SL.box|apply SL.alloc|apply SL.makeFunc|apply SQ.nil|(apply WL.jU;(focus decide +kernel))
    |(apply WL.dW xd;(focus decide +kernel);(focus decide +kernel))|(apply WL.jG;(focus decide +kernel);(focus decide +kernel))|(apply WL.kE;(focus decide +kernel))
    |(apply WL.kC xd;(focus decide +kernel);(focus decide +kernel))|(apply tu;(focus decide +kernel);(focus decide +kernel))|(apply WL.kB xd;(focus decide +kernel);(focus decide +kernel))
    |(apply WL.kA xd;(focus decide +kernel);(focus decide +kernel))|(apply WL.lA xd;(focus decide +kernel);(focus decide +kernel))
    |(apply tu xd;(focus decide +kernel);(focus decide +kernel))|apply tu|(apply WL.ct;(focus rfl))|(apply WL.cf;(focus rfl))|refine aS.normal ?_|refine aS.ret ?_|refine aS.exit ?_
    |refine aO.normal ?_|refine aO.ret ?_|refine aO.here ?_|refine aO.there xl ?_|refine Wp.block ?_|refine Wp.skip ?_|refine Wp.ret ?_|refine Wp.exit ?_|refine aM.ret ?_|refine aM.exit ?_
    |refine tu ?_|refine tu ?_|refine tu ?_|refine Wp.seq (Wp.seq ?_)|refine Wp.seq (Wp.block ?_)|(refine Wp.seq ?_;apply WL.ct;(focus rfl))|(refine Wp.seq ?_;apply WL.cf;(focus rfl)))
   exact ef
 |false=>
  have dQ:lS (s[0].toNat:Int)=false:=by rw[<-hpk];exact c1
  have c1n:¬lS (pk s 0)=true:=by rw[c1];simp
  cases c2:bT (pk s 0)with
  |true=>
   have jB:bT (s[0].toNat:Int)=true:=by rw[<-hpk];exact c2
   obtain⟨P,k,hP⟩:∃P k,cE s=(P,k):=⟨_,_,rfl⟩;obtain⟨d1,d2,d3,l1,l2,l3⟩:=aUI s;rw[hP]at d1 d2 d3 l1 l2 l3;simp only at d1 d2 d3 l1 l2 l3;have l1':(P.1.length:Int)<4000000000:=xb;have l2':(P.2.1.length:Int)<4000000000:=xb;have l3':(P.2.2.length:Int)<4000000000:=xb;obtain⟨p1,p2,p3⟩:=P;simp only at d1 d2 d3 l1' l2' l3'
   by_cases c3:0<k
   .obtain⟨f,e,hF⟩:∃f e,gZ (p1,p2,p3)=(f,e):=⟨_,_,rfl⟩;have hT:cY s=(f,k,e):=by
     unfold cY;rw[yAI c1n,yAJ c2,hP];simp only[c3,yAM,hF]
    refine aD (A18 hs h1 h2 h3 h4 h5 dQ jB hl hP @d1 @d2 @d3 l1' l2' l3' c3 hF) ?_;exact ef
   .obtain⟨n,hn⟩:=gn (dG bT s);have hnl:=EZ bT s;rw[hn]at hnl;have hpos:0<n:=by
     rw[<-hn];obtain⟨b,r,rfl⟩:=yDw (yBu.1 hs);rw[OL,yAJ (by simpa [pk]using c2)];omega
    have hdn:=XF s;rw[hn]at hdn;have htr:Lib.trimPrefix (s.take n) [45]=s.take n:=by
     unfold Lib.trimPrefix;rw[yAI];intro h;obtain⟨b,r,rfl⟩:=yDw (yBu.1 hs);obtain⟨n',rfl⟩:∃n',n=n'+1:=⟨n-1,xb⟩;simp only[Lib.hasPrefix,yCO,List.isPrefixOf,yCc,yBA]at h;subst h;simp[pk,bT]at c2
    have hlen:0<(s.take n).length:=Ar;have vU:((s.take n).length:Int)<4000000000:=Ar;obtain⟨t,ht⟩:=gn (s.take n);rw[ht]at hdn htr hlen vU;have OU:fN (Lib.trimPrefix t [45]):=by rw[htr];exact hdn
    have MJ:¬t=[]:=yBu.1 hlen;obtain⟨f,e,hF⟩:∃f e,iR t=(f,e):=⟨_,_,rfl⟩;have hT:cY s=(f,(n:Int),e):=by
     unfold cY;rw[yAI c1n,yAJ c2,hP];simp only[c3,yAN,hn,ht,hF]
    repeat(first
     |(refine Fr.i ?_;simp only[aL,yAT,yAU];try rfl)
     |(refine By.i ?_;(focus(simp(disch:=first|omega|(simp;done)|(simp;omega)) [wrap_i64,wrap_u64,hs,h1,h2,h3,h4,h6,dQ,jB,hl,hP,cC,c3,hn,ht,OU,hlen,vU,MJ,hF,entry,aX];first|done|rfl|exact⟨rfl,rfl⟩)))
     |(refine By.i ?_;simp(disch:=first|omega|(simp;done)|(simp;omega)) [wrap_i64,wrap_u64,hs,h1,h2,h3,h4,h6,dQ,jB,hl,hP,cC,c3,hn,ht,OU,hlen,vU,MJ,hF,entry,aX];refine⟨xh,rfl⟩)
     |(refine Wt.i ?_;first|rfl|(focus(simp[hs,h1,h2,h3,h4,h6,dQ,jB,hl,hP,cC,c3,hn,ht,OU,hlen,vU,MJ,hF,entry,aX];done)))
     |(refine Ns.i ?_;(try simp only[yAl,yAQ,yAR,yAi,yAa,yAK,yAL,yAp,Nat.reduceAdd]);rfl)|rfl
     |(apply SL.pass;(focus(refine Wt.i ?_;rfl)))|(apply tu;(focus rfl))|apply SL.move|apply SL.assign|apply SL.load|apply SL.fK|apply tu|apply tu|apply SL.binOp|apply SL.append
     |apply tu|apply SL.builtin|apply SL.fieldAddr|apply SL.indexAddr|apply SL.field|apply SL.extract|apply SL.fL|apply SL.pick|apply SL.store|apply SL.unOp|apply SL.convert|apply SL.index|apply SL.slice
     |apply SL.build|apply SL.nilCheck|apply SL.buildSlice|apply SL.box|apply SL.alloc|apply SL.makeFunc|apply SQ.nil|(apply WL.jU;(focus decide +kernel))
     |(apply WL.dW xd;(focus decide +kernel);(focus decide +kernel))|(apply WL.jG;(focus decide +kernel);(focus decide +kernel))|(apply WL.kE;(focus decide +kernel))
     |(apply WL.kC xd;(focus decide +kernel);(focus decide +kernel))|(apply tu;(focus decide +kernel);(focus decide +kernel))
     |(apply WL.kB xd;(focus decide +kernel);(focus decide +kernel))|(apply WL.kA xd;(focus decide +kernel);(focus decide +kernel))
     |(apply WL.lA xd;(focus decide +kernel);(focus decide +kernel))|(apply tu xd;(focus decide +kernel);(focus decide +kernel))|apply tu|(apply WL.ct;(focus rfl))
     |(apply WL.cf;(focus rfl))|refine aS.normal ?_|refine aS.ret ?_|refine aS.exit ?_|refine aO.normal ?_|refine aO.ret ?_|refine aO.here ?_|refine aO.there xl ?_|refine Wp.block ?_
     |refine Wp.skip ?_|refine Wp.ret ?_|refine Wp.exit ?_|refine aM.ret ?_|refine aM.exit ?_|refine tu ?_|refine tu ?_|refine tu ?_|refine Wp.seq (Wp.seq ?_)|refine Wp.seq (Wp.block ?_)
     |(refine Wp.seq ?_;apply WL.ct;(focus rfl))|(refine Wp.seq ?_;apply WL.cf;(focus rfl)))
    exact ef
  |false=>
   have jB:bT (s[0].toNat:Int)=false:=by rw[<-hpk];exact c2
   have c2n:¬bT (pk s 0)=true:=by rw[c2];simp
   by_cases c3:pk s 0=45/\bT (pk s 1)=true
   .obtain⟨c3,c4⟩:=c3;have mO:(s[0].toNat:Int)=45:=xb;have hl1:1<s.length:=by
     refine Nat.lt_of_not_le λh=>?_
     rw[OK h]at c4;simp[bT]at c4
    have aEQ:=oT hl1;have fX:bT (s[1].toNat:Int)=true:=by rw[<-aEQ];exact c4
    have KP:1<(s.length:Int):=xb;obtain⟨n,hn⟩:=gn (dG bT (s.drop 1));have hnl:=EZ bT (s.drop 1);rw[hn,yBe]at hnl;obtain⟨b,r,rfl⟩:=yDw (yBu.1 hs);have hb:b=45:=by
     have:b.toNat=45:=by simpa [pk]using c3
     exact UInt8.toNat_inj.1 this
    subst hb;have hdn:=XF r;rw[List.drop_one,List.tail_cons]at hn;rw[hn]at hdn;have htk:(45::r).take (1+n)=45::r.take n:=by rw[yCk,yCO]
    have htr:Lib.trimPrefix (45::r.take n) [45]=r.take n:=by simp[Lib.trimPrefix,Lib.hasPrefix,List.isPrefixOf]
    have vU:((45::r.take n).length:Int)<4000000000:=by
     rw[yAK,yAt];rw[yAK]at hl;omega
    obtain⟨t,ht⟩:=gn (45::r.take n);have OU:fN (Lib.trimPrefix t [45]):=by rw[<-ht,htr];exact hdn
    have MJ:¬t=[]:=by rw[<-ht];simp
    have hlen:0<t.length:=yBu.2 MJ;rw[ht]at vU htk;obtain⟨f,e,hF⟩:∃f e,iR t=(f,e):=⟨_,_,rfl⟩;have hT:cY (45::r)=(f,1+(n:Int),e):=by
     unfold cY;rw[yAI c1n,yAI c2n,yAJ ⟨c3,c4⟩];simp only[List.drop_one,List.tail_cons,hn,htk,hF]
    obtain⟨S,hS⟩:∃S:List UInt8,S=45::r:=⟨_,rfl⟩;have oL:S.drop 1=r:=by rw[hS];rfl
    have KD:S.tail=r:=by rw[hS];rfl
    have e1:(1+(n:Int)).toNat=1+n:=xb;rw[<-hS]at hT hl hs hl1 KP htk;simp only[<-hS]at dQ jB mO fX hnl ⊢;have hrl:(r.length:Int)<4000000000:=by rw[hS,yAK]at hl;omega
    have hrt:r.take (S.length-1)=r:=by rw[hS,yAK,Nat.add_sub_cancel,yBz]
    repeat(first
     |(refine Fr.i ?_;simp only[aL,yAT,yAU];try rfl)
     |(refine By.i ?_;(focus(simp(disch:=first|omega|(simp;done)|(simp;omega)) [wrap_i64,wrap_u64,hs,h1,h2,h3,h6,dQ,jB,mO,fX,hl,hl1,KP,cC,hrt,oL,KD,hn,hrl,e1,htk,OU,hlen,vU,MJ,hF,entry,aX];first|done|rfl|exact⟨rfl,rfl⟩)))
     |(refine By.i ?_;simp(disch:=first|omega|(simp;done)|(simp;omega)) [wrap_i64,wrap_u64,hs,h1,h2,h3,h6,dQ,jB,mO,fX,hl,hl1,KP,cC,hrt,oL,KD,hn,hrl,e1,htk,OU,hlen,vU,MJ,hF,entry,aX];refine⟨xh,rfl⟩)
     |(refine Wt.i ?_;first|rfl|(focus(simp[hs,h1,h2,h3,h6,dQ,jB,mO,fX,hl,hl1,KP,cC,hrt,oL,KD,hn,hrl,e1,htk,OU,hlen,vU,MJ,hF,entry,aX];done)))
     |(refine Ns.i ?_;(try simp only[yAl,yAQ,yAR,yAi,yAa,yAK,yAL,yAp,Nat.reduceAdd]);rfl)|rfl
     |(apply SL.pass;(focus(refine Wt.i ?_;rfl)))|(apply tu;(focus rfl))|apply SL.move|apply SL.assign|apply SL.load|apply SL.fK|apply tu|apply tu|apply SL.binOp|apply SL.append
     |apply tu|apply SL.builtin|apply SL.fieldAddr|apply SL.indexAddr|apply SL.field|apply SL.extract|apply SL.fL|apply SL.pick|apply SL.store|apply SL.unOp|apply SL.convert|apply SL.index|apply SL.slice
     |apply SL.build|apply SL.nilCheck|apply SL.buildSlice|apply SL.box|apply SL.alloc|apply SL.makeFunc|apply SQ.nil|(apply WL.jU;(focus decide +kernel))
     |(apply WL.dW xd;(focus decide +kernel);(focus decide +kernel))|(apply WL.jG;(focus decide +kernel);(focus decide +kernel))|(apply WL.kE;(focus decide +kernel))
     |(apply WL.kC xd;(focus decide +kernel);(focus decide +kernel))|(apply tu;(focus decide +kernel);(focus decide +kernel))
     |(apply WL.kB xd;(focus decide +kernel);(focus decide +kernel))|(apply WL.kA xd;(focus decide +kernel);(focus decide +kernel))
     |(apply WL.lA xd;(focus decide +kernel);(focus decide +kernel))|(apply tu xd;(focus decide +kernel);(focus decide +kernel))|apply tu|(apply WL.ct;(focus rfl))
     |(apply WL.cf;(focus rfl))|refine aS.normal ?_|refine aS.ret ?_|refine aS.exit ?_|refine aO.normal ?_|refine aO.ret ?_|refine aO.here ?_|refine aO.there xl ?_|refine Wp.block ?_
     |refine Wp.skip ?_|refine Wp.ret ?_|refine Wp.exit ?_|refine aM.ret ?_|refine aM.exit ?_|refine tu ?_|refine tu ?_|refine tu ?_|refine Wp.seq (Wp.seq ?_)|refine Wp.seq (Wp.block ?_)
     |(refine Wp.seq ?_;apply WL.ct;(focus rfl))|(refine Wp.seq ?_;apply WL.cf;(focus rfl)))
    exact ef
   .have hrest:(if pk s 0=34 then(if Lib.indexByte (s.drop 1) 34<0 then((bD,0,15):Tk×Int×Int)else(⟨4,(s.drop 1).take (Lib.indexByte (s.drop 1) 34).toNat,0,(0,0),0,0⟩,Lib.indexByte (s.drop 1) 34+2,0))
      else if Lib.hasPrefix s [45,62]=true then(⟨5,s.take 2,0,(0,0),0,0⟩,2,0)
      else if 0<=Lib.indexByte marks (pk s 0).toUInt8 then(⟨5,s.take 1,0,(0,0),0,0⟩,1,0)else(bD,0,15))=cY s:=by
     unfold cY;rw[yAI c1n,yAI c2n,yAI c3]
    by_cases c4:pk s 0=45
    .have fX:(s[0].toNat:Int)=45:=by omega
     have n34:¬pk s 0=34:=xb
     by_cases hl1:1<s.length
     .have KP:1<(s.length:Int):=by omega
      have aEQ:=oT hl1;have c4n:bT (s[1].toNat:Int)=false:=by
       cases h:bT (s[1].toNat:Int)with
       |false=>rfl
       |true=>exact absurd ⟨c4,by rw[aEQ];exact h⟩ c3
      rw[yAI xb]at hrest;cases c6:Lib.hasPrefix s [45,62]with
      |true=>
       have rJ:2<=s.length:=aBa c6;have aBb:(2:Int)<=(s.length:Int):=xb;rw[yAJ c6]at hrest;refine aD (A16 hs h1 h2 h3 h7 h8 dQ jB fX hl hl1 KP c4n c6 rJ aBb) ?_;exact di
      |false=>
       rw[yAI (by rw[c6];simp)]at hrest;obtain⟨k,hk⟩:=gn (Lib.indexByte marks s[0]);have hk2:Lib.indexByte [40,41,91,93,123,125,58,44,59,61,43,46,63,42,47] s[0]=k:=hk;have SW:Lib.indexByte [40,41,91,93,123,125,58,44,59,61,43,46,63,42,47] (s[0].toNat).toUInt8=k:=yy;have SX:(s[0].toNat:Int)<=255:=Bh;rw[hpk,show(s[0].toNat).toUInt8=s[0]from by simp,hk]at hrest;have h45:s[0]=45:=UInt8.toNat_inj.1 xw;have hkm:k=-1:=by rw[<-hk,h45];decide
       have c7:¬0<=k:=xb;have aER:Lib.indexByte [40,41,91,93,123,125,58,44,59,61,43,46,63,42,47] 45=-1:=xl;rw[yAI c7]at hrest;refine aD (A20 hs h1 h2 h3 h7 h8 dQ jB fX hl hl1 KP c4n c6 hk2 SW SX c7 aER hkm) ?_;exact cw
     .have KP:¬1<(s.length:Int):=by omega
      rw[yAI xb]at hrest;cases c6:Lib.hasPrefix s [45,62]with
      |true=>
       have rJ:2<=s.length:=aBa c6;have aBb:(2:Int)<=(s.length:Int):=xb;omega
      |false=>
       rw[yAI (by rw[c6];simp)]at hrest;obtain⟨k,hk⟩:=gn (Lib.indexByte marks s[0]);have hk2:Lib.indexByte [40,41,91,93,123,125,58,44,59,61,43,46,63,42,47] s[0]=k:=hk;have SW:Lib.indexByte [40,41,91,93,123,125,58,44,59,61,43,46,63,42,47] (s[0].toNat).toUInt8=k:=yy;have SX:(s[0].toNat:Int)<=255:=Bh;rw[hpk,show(s[0].toNat).toUInt8=s[0]from by simp,hk]at hrest;have h45:s[0]=45:=UInt8.toNat_inj.1 xw;have hkm:k=-1:=by rw[<-hk,h45];decide
       have c7:¬0<=k:=xb;have aER:Lib.indexByte [40,41,91,93,123,125,58,44,59,61,43,46,63,42,47] 45=-1:=xl;rw[yAI c7]at hrest;refine aD (A19 hs h1 h2 h3 h7 h8 dQ jB fX hl hl1 KP c6 hk2 SW SX c7 aER hkm) ?_;exact cw
    .have fX:¬(s[0].toNat:Int)=45:=by omega
     by_cases c5:pk s 0=34
     .have IB:(s[0].toNat:Int)=34:=by omega
      obtain⟨k,hk⟩:=gn (Lib.indexByte (s.drop 1) 34);have hkt:Lib.indexByte s.tail 34=k:=by rw[<-hk,List.drop_one]
      have hkn:=aEP (s.drop 1) 34;rw[hk,yBe]at hkn;rw[yAJ c5,hk]at hrest
      by_cases c6:k<0
      .rw[yAJ c6]at hrest;refine aD (A13 hs h1 h2 h3 h7 dQ jB fX hl IB hk hkt c6) ?_;exact cw
      .rw[yAI c6]at hrest;obtain⟨k',rfl⟩:∃k':Nat,k=(k':Int):=⟨k.toNat,xb⟩;have e1:k'+1-1=k':=xb;have e2:((k':Int)+1).toNat=k'+1:=xb;have e3:k'+1<=s.length:=xb;rw[yBq]at hrest;refine aD (A16 hs h1 h2 h3 h7 dQ jB fX hl IB hk hkt c6 e1 e2 e3) ?_;exact di
     .have IB:¬(s[0].toNat:Int)=34:=by omega
      rw[yAI c5]at hrest;cases c6:Lib.hasPrefix s [45,62]with
      |true=>
       have rJ:2<=s.length:=aBa c6;have aBb:(2:Int)<=(s.length:Int):=xb;rw[yAJ c6]at hrest;refine aD (A14 hs h1 h2 h3 h7 h8 dQ jB fX hl IB c6 rJ aBb) ?_;exact di
      |false=>
       rw[yAI (by rw[c6];simp)]at hrest;obtain⟨k,hk⟩:=gn (Lib.indexByte marks s[0]);have hk2:Lib.indexByte [40,41,91,93,123,125,58,44,59,61,43,46,63,42,47] s[0]=k:=hk;have SW:Lib.indexByte [40,41,91,93,123,125,58,44,59,61,43,46,63,42,47] (s[0].toNat).toUInt8=k:=yy;have SX:(s[0].toNat:Int)<=255:=Bh;rw[hpk,show(s[0].toNat).toUInt8=s[0]from by simp,hk]at hrest
       by_cases c7:0<=k
       .rw[yAJ c7]at hrest;refine aD vu ?_;exact di
       .rw[yAI c7]at hrest;refine aD vu ?_;exact cw
end
theorem aUH(s:List UInt8):(cE s).2<=s.length:=by
 have lt:∀i,pk s i=39->i<s.length:=λi h=>Nat.lt_of_not_le λh'=>by rw[OK h']at h;cases h
 unfold cE iY;simp only;split
 .rename_i h;have:=lt _ h;exact cz
 .split
  .split
   .rename_i h;have:=lt _ h.2.2.2;exact cz
   .simp only;omega
  .split
   .split
    .rename_i h;have:=lt _ h.2;exact cz
    .simp only;omega
   .simp only;omega
theorem aKo{p:Int->Bool}{s:Bx}(hs:0<s.length)(h:p (pk s 0)=true):1<=dG p s:=by
 obtain⟨b,r,rfl⟩:=yDw (yBu.1 hs);rw[OL,yAJ (by simpa [pk]using h)];omega
theorem aUF{s:Bx}(hs:0<s.length)(h:(cY s).2.2=0):1<=(cY s).2.1/\(cY s).2.1<=s.length:=by
 unfold cY at h ⊢;split at h
 .rename_i c;rw[yAJ c];split at h
  .cases h
  .rename_i c3;rw[yAI c3];have h1:=aKo (p:=mZ) hs (by unfold mZ;rw[c];rfl);have h2:=EZ mZ s;exact cz
 .rename_i c;rw[yAI c];split at h
  .rename_i c2;rw[yAJ c2];split at h
   .rename_i c3;rw[yAJ c3];have:=aUH s;exact cz
   .rename_i c3;rw[yAI c3];have h1:=aKo (p:=bT) hs c2;have h2:=EZ bT s;exact cz
  .rename_i c2;rw[yAI c2];split at h
   .rename_i c3;rw[yAJ c3];have h2:=EZ bT (s.drop 1);rw[yBe]at h2;exact cz
   .rename_i c3;rw[yAI c3];split at h
    .rename_i c4;rw[yAJ c4];split at h
     .cases h
     .rename_i c5;rw[yAI c5];have h2:=aEP (s.drop 1) 34;rw[yBe]at h2;exact cz
    .rename_i c4;rw[yAI c4];split at h
     .rename_i c5;rw[yAJ c5];have:=aBa c5;exact cz
     .rename_i c5;rw[yAI c5];split at h
      .rename_i c6;rw[yAJ c6];exact cz
      .cases h
def jK:Nat->List UInt8->Int->Int->List Tk->List Tk×Int×Int
 |0,_,_,bR,out=>(out,bR,0)
 |n+1,r,ln,bR,out=>
  if r=[]\/pk r 0=37 then(out,bR,0)
  else if pk r 0=32\/pk r 0=9 then jK n (r.drop 1) ln (bR+1) out
  else if (cY r).2.2≠0 then(out,bR,(cY r).2.2)
  else if out.length=20000 then(out,bR,4)
  else jK n (r.drop (cY r).2.1.toNat) ln (bR+(cY r).2.1) (out++[{ (cY r).1 with line:=ln,bR:=bR }])
def oB:List (List UInt8)->Int->List Tk->List Tk×(Int×Int)×Int
 | [],_,out=>(out,(0,0),0)
 |l::ls,ln,out=>
  if (jK (l.length+1) l ln 1 out).2.2≠0 then([],(ln,(jK (l.length+1) l ln 1 out).2.1),(jK (l.length+1) l ln 1 out).2.2)
  else if (jK (l.length+1) l ln 1 out).1.length=out.length then oB ls (ln+1) out
  else if (jK (l.length+1) l ln 1 out).1.length=20000 then([],(ln,(l.length:Int)+1),4)
  else oB ls (ln+1) ((jK (l.length+1) l ln 1 out).1++[⟨6,[10],0,(0,0),ln,(l.length:Int)+1⟩])
def jZ(s:List UInt8):List Tk×(Int×Int)×Int:=if 65536<(s.length:Int)then([],(0,0),16)else oB (gB s) 1 []
theorem aA7:∀(n:Nat) (r:List UInt8) (ln bR:Int) (out:List Tk),out.length<=20000->(jK n r ln bR out).1.length<=20000
 |0,_,_,_,_,h=>h
 |n+1,r,ln,bR,out,h=>by
  unfold jK;split
  .exact h
  .split
   .exact aA7 n _ _ _ _ h
   .split
    .exact h
    .split
     .exact h
     .exact aA7 n _ _ _ _ ye
theorem aEL:∀(s:List UInt8),(gB s).length<=s.length+1/\∀l∈gB s,l.length<=s.length
 | []=>by simp[gB]
 |b::r=>by
  obtain⟨h1,h2⟩:=aEL r;unfold gB;split
  .refine⟨by simp only[yAK];omega,λl hl=>?_⟩;rcases yAS.1 hl with rfl|hl
   .exact yAF _
   .have:=h2 l hl;rw[yAK];omega
  .split
   .rename_i x xs heq;rw[heq]at h1 h2;refine⟨by simp only[yAK]at h1 ⊢;omega,λl hl=>?_⟩;rcases yAS.1 hl with rfl|hl
    .have:=h2 x wz;simp only[yAK];omega
    .have:=h2 l (by simp[hl]);rw[yAK];omega
   .exact⟨wz,λl hl=>by simp at hl;subst hl;simp⟩
section
abbrev cM:Em (List Tk):=Em.tk.list 7
abbrev Em.pos:Em (Int×Int):=Em.mS
theorem H8{σ:Bv}{tok:Tok}{e:TypeId}{k n q:Nat}{p:PD}(h:iL σ tok e k n)(hq:σ[q]?=some (.box p)):tok≠.own q:=by
 rintro rfl
 rcases h with⟨_,h⟩ | ⟨_,id,h1,h2⟩
 .cases h
 .simp only[Tok.own.injEq]at h1;subst h1;rw[hq]at h2;cases h2
theorem SU{σ:Bv}{tok:Tok}{e:TypeId}{k n q:Nat}{p:PD}{o:U}(h:iL σ tok e k n)(hq:σ[q]?=some (.box p)):iL (σ.set q o) tok e k n:=
 h.LQ λid o' ht h'=>by
  have:q≠id:=λe=>H8 h hq (by rw[ht,e])
  rw[yAd this];exact h'
theorem aA6:∀(n:Nat) (r:List UInt8) (ln bR:Int) (out:List Tk),∃x,(jK n r ln bR out).1=out++x
 |0,_,_,_,_=>⟨[],by simp[jK]⟩
 |n+1,r,ln,bR,out=>by
  unfold jK;split
  .exact⟨[],wz⟩
  .split
   .exact aA6 n _ _ _ _
   .split
    .exact⟨[],wz⟩
    .split
     .exact⟨[],wz⟩
     .obtain⟨x,h⟩:=aA6 n (r.drop (cY r).2.1.toNat) ln (bR+(cY r).2.1) (out++[{ (cY r).1 with line:=ln,bR:=bR }]);exact⟨_::x,by rw[h,yAi];rfl⟩
variable{E:aE}(hU:aF E)
include hU
set_option maxRecDepth 10000
theorem aUD(h0:E 14=none)(h1:E 38=some (entry (cV .text .text texts λs c=>bJ (c=[10]/\(s.length:Int)<4000000000) (some (gB s)))))
  (h2:E 39=some (entry (aX .text (Em.tk.J8 i64 i64) λs=>bJ (0<s.length/\(s.length:Int)<4000000000) (some (cY s)))))
  (s:List UInt8) (hl:(s.length:Int)<4000000000):aI prog E 14 [.str s] ((cM.J8 .pos i64).aA (jZ s)):=by
 refine aI.aU 111 h0 func14 (h:=?_)
 by_cases hq:65536<(s.length:Int)
 .have hS:jZ s=([],(0,0),16):=by
   unfold jZ;rw[yAJ hq]
  refine aD hq ?_;simp(disch:=first|omega|(simp;done)|(simp;omega)) [yAu,hS]<;>try rfl
 .obtain⟨hLn,hLl⟩:=aEL s;obtain⟨L,hL⟩:=gn (gB s);have hS:jZ s=oB L 1 []:=by
   unfold jZ;rw[yAI hq,hL]
  rw[hL]at hLn hLl;obtain⟨F,hF⟩:=gn (oB L 1 []);rw[hS,hF];refine aD (A4 hq h1 hl hL) ?_;refine Wp.eV (λm fr σ=>∃(i z:Nat) (o:List Tk) (tok:Tok) (aR:List U),∃gg:Nat->PD,(i+m=L.length/\oB (L.drop i) ((i:Int)+1) o=F/\(o=[]\/z=7)/\iL aR tok 36 7 o.length/\aR[0]?=some (U.box (.agg [.int .i64 0,.int .i64 0]))/\o.length<=20000)/\fr=.str s::gg 1::.slice 0 [] .full::.ptr 0 0::.int .i64 0::.slice z (o.map Em.tk.aA) tok::gg 6::gg 7::gg 8::gg 9::gg 10::gg 11::gg 12::gg 13::gg 14::gg 15::gg 16::gg 17::gg 18::texts.aA L::.int .i64 L.length::.int .i64 i::gg 22::gg 23::gg 24::gg 25::gg 26::gg 27::gg 28::gg 29::gg 30::gg 31::gg 32::gg 33::gg 34::gg 35::gg 36::gg 37::gg 38::gg 39::gg 40::gg 41::gg 42::gg 43::gg 44::gg 45::gg 46::gg 47::gg 48::gg 49::gg 50::gg 51::gg 52::gg 53::gg 54::gg 55::gg 56::gg 57::gg 58::gg 59::gg 60::gg 61::gg 62::gg 63::gg 64::gg 65::gg 66::gg 67::gg 68::gg 69::gg 70::gg 71::gg 72::gg 73::gg 74::gg 75::gg 76::gg 77::gg 78::gg 79::gg 80::gg 81::gg 82::gg 83::gg 84::gg 85::gg 86::gg 87::gg 88::gg 89::gg 90::gg 91::gg 92::gg 93::gg 94::gg 95::gg 96::gg 97::gg 98::gg 99::gg 100::gg 101::gg 102::gg 103::gg 104::gg 105::gg 106::gg 107::gg 108::gg 109::gg 110::[]/\σ=aR) ?_ (L.length) (by refine⟨0,0,[],.full,[U.box (.agg [.int .i64 0,.int .i64 0])],?_⟩;exact cG (⟨xb,by simpa using hF,.inl rfl,.inl ⟨rfl,rfl⟩,rfl,wz⟩))
  rintro m fr σ ⟨i,z,o,tok,aR,gg,hI,rfl,rfl⟩
  obtain⟨hm,hsc,hz,hrow,XB,hol⟩:=hI;have aEM:0<σ.length:=(yA.1 XB).1;have hs0:∀x,(σ.set 0 x)[0]?=some x:=λx=>yAj aEM
  have aUE:σ[0]=U.box (.agg [.int .i64 0,.int .i64 0]):=by rw[yAh aEM]at XB;simpa using XB
  by_cases hi:i<L.length
  .have q1:(i:Int)<(L.length:Int):=by omega
   have hll:=hLl L[i] (yAm hi);have hcons:L.drop i=L[i]::L.drop (i+1):=yAq hi;obtain⟨l,aKk⟩:=gn (L[i]);rw[aKk]at hll hcons;obtain⟨q,hqv⟩:=gn (σ.length);obtain⟨M,hM⟩:∃M,M=m:=⟨_,rfl⟩;obtain⟨o0,IA⟩:∃o0,o0=o:=⟨_,rfl⟩;obtain⟨ln,hln⟩:∃ln:Int,(i:Int)+1=ln:=⟨_,rfl⟩;obtain⟨R,hR⟩:=gn (jK (l.length+1) l ln 1 o0);have hR0:jK (l.length+1) l ln 1 o=R:=by rw[<-IA];exact hR
   rw[hcons,hln]at hsc;have iS:oB (l::L.drop (i+1)) ln o0=F:=by rw[IA];exact hsc
   clear hsc;unfold oB at iS;rw[hR]at iS;have hRl:R.1.length<=20000:=by rw[<-hR];exact aA7 _ _ _ _ _ (by rw[IA];exact hol)
   have ha1:∀(σ':List U) (x:U),0<σ'.length->(σ'++[x])[0]?=σ'[0]?:=λσ' x h=>yAg h
   have XD:0<q:=xb;refine aD (A4 q1 aKk hqv hln) ?_;refine Wp.eV (λm fr σ=>∃(z fuel:Nat) (rest:List UInt8) (bR:Int) (o:List Tk) (tok:Tok) (σ1:List U),∃gg:Nat->PD,(m=rest.length/\rest.length<fuel/\jK fuel rest ln bR o=R/\(o=[]\/z=7)/\iL σ1 tok 36 7 o.length/\σ1[0]?=some (.box (.agg [.int .i64 0,.int .i64 0]))/\σ1[q]?=some (.box (.agg [.int .i64 ln,.int .i64 bR]))/\o.length<=20000/\1<=bR/\bR+rest.length<=l.length+1)/\fr=.str s::gg 1::.slice 0 [] .full::.ptr 0 0::.int .i64 0::.slice z (o.map Em.tk.aA) tok::.int .i64 i::.str l::.int .i64 o0.length::.ptr q 0::.str rest::gg 11::gg 12::gg 13::gg 14::gg 15::gg 16::gg 17::gg 18::texts.aA L::.int .i64 L.length::.int .i64 i::gg 22::gg 23::gg 24::gg 25::gg 26::gg 27::gg 28::gg 29::gg 30::gg 31::gg 32::gg 33::gg 34::gg 35::gg 36::gg 37::gg 38::gg 39::gg 40::gg 41::gg 42::gg 43::gg 44::gg 45::gg 46::gg 47::gg 48::gg 49::gg 50::gg 51::gg 52::gg 53::gg 54::gg 55::gg 56::gg 57::gg 58::gg 59::gg 60::gg 61::gg 62::gg 63::gg 64::gg 65::gg 66::gg 67::gg 68::gg 69::gg 70::gg 71::gg 72::gg 73::gg 74::gg 75::gg 76::gg 77::gg 78::gg 79::gg 80::gg 81::gg 82::gg 83::gg 84::gg 85::gg 86::gg 87::gg 88::gg 89::gg 90::gg 91::gg 92::gg 93::gg 94::gg 95::gg 96::gg 97::gg 98::gg 99::gg 100::gg 101::gg 102::gg 103::gg 104::gg 105::gg 106::gg 107::gg 108::gg 109::gg 110::[]/\σ=σ1) ?_ (l.length) (by refine⟨z,l.length+1,l,1,o,tok,σ++[.box (.agg [.int .i64 ln,.int .i64 1])],?_⟩;exact jV (⟨rfl,xb,hR0,hz,hrow.more,by rw[yAg aEM];exact XB,by rw[<-hqv];exact yAB,hol,xb,xb⟩) (A2 IA hqv))
   rintro m fr σ ⟨z,fuel,rest,bR,o,tok,σ1,gg,hI,rfl,rfl⟩
   obtain⟨hm2,hfu,hli,fU,eH,hb0,hbq,aA8,CX,hc2⟩:=hI;have hql:q<σ.length:=(yA.1 hbq).1;have XE:0<σ.length:=(yA.1 hb0).1;have aA9:σ[0]=U.box (.agg [.int .i64 0,.int .i64 0]):=by rw[yAh XE]at hb0;simpa using hb0
   have aKl:∀(y x:U),((σ.set q y).set 0 x)[0]?=some x:=λy x=>yAj (by rw[yAD];exact XE)
   have C4:σ[q]=U.box (.agg [.int .i64 ln,.int .i64 bR]):=by rw[yAh hql]at hbq;simpa using hbq
   obtain⟨f,rfl⟩:∃f,fuel=f+1:=⟨fuel-1,xb⟩;unfold jK at hli
   by_cases hre:rest=[]
   .subst hre;rw[yAJ (.inl rfl)]at hli;have hpre:=aA6 (l.length+1) l ln 1 o0;rw[hR]at hpre;rw[<-hli]at iS hpre;simp only[ne_eq,yBt,yAN]at iS hpre
    by_cases ho:o.length=o0.length
    .have hoo:o=o0:=by
      exact jm
     rw[yAJ ho]at iS;refine aD (A3 ho hbq C4) ?_;exact jx
    .rw[yAI ho]at iS;have ho':¬(o.length:Int)=(o0.length:Int):=xb;have C5:∀x,(σ.set q x)[0]?=σ[0]?:=λx=>yAd xb
     have hsetq:∀x,(σ.set q x)[q]?=some x:=λx=>yAj hql
     have hwl:IntKind.i64.wrap ((l.length:Int)+1)=(l.length:Int)+1:=wrap_i64 xb xb
     by_cases hoc:o.length=20000
     .rw[yAJ hoc]at iS;have FB:(o.length:Int)=20000:=xb;have aEN:¬20000=o0.length:=xb;have aEO:¬(20000:Int)=(o0.length:Int):=xb;refine aD (A13 ho ho' hbq C4 hwl hoc FB aEN aEO C5 hsetq hb0 aA9) ?_;exact qt
     .rw[yAI hoc]at iS;have FB:¬(o.length:Int)=20000:=xb;have nH:=SU (o:=.box (.agg [.int .i64 ln,.int .i64 ((l.length:Int)+1)])) eH hbq
      focus
       obtain⟨bY,σ3,hap,hr',hkeep,_⟩:=JZ (P:=prog) (t:=29) (e:=36) (k:=7) (b:=64) (s:=z) (xs:=o.map Em.tk.aA) (p:=Em.tk.aA ⟨6,[10],0,(0,0),ln,(l.length:Int)+1⟩) (tk:=.any) underlying29 xg (by simpa using fU) (by rw[yAe];exact nH) yh yh;have hn0:tok≠.own 0:=H8 eH hb0;have hk0:=hkeep 0 _ hn0 ((C5 _).trans hb0);simp only[FC]at hap;refine aD (A10 ho ho' hbq C4 hwl hoc FB C5 hsetq hap) ?_;exact dx
   .have hrp:0<rest.length:=yBu.2 hre;have MH:(rest==[])=false:=by simpa using hre
    have MI:rest.isEmpty=false:=by simpa using hre
    have hpk:=oT hrp
    by_cases c1:pk rest 0=37
    .have dQ:(rest[0].toNat:Int)=37:=by omega
     rw[yAJ (.inr c1)]at hli;have hpre:=aA6 (l.length+1) l ln 1 o0;rw[hR]at hpre;rw[<-hli]at iS hpre;simp only[ne_eq,yBt,yAN]at iS hpre
     by_cases ho:o.length=o0.length
     .have hoo:o=o0:=by
       exact jm
      rw[yAJ ho]at iS;refine aD (A8 hre MH MI hrp dQ ho hbq C4) ?_;exact jx
     .rw[yAI ho]at iS;have ho':¬(o.length:Int)=(o0.length:Int):=xb;have C5:∀x,(σ.set q x)[0]?=σ[0]?:=λx=>yAd xb
      have hsetq:∀x,(σ.set q x)[q]?=some x:=λx=>yAj hql
      have hwl:IntKind.i64.wrap ((l.length:Int)+1)=(l.length:Int)+1:=wrap_i64 xb xb
      by_cases hoc:o.length=20000
      .rw[yAJ hoc]at iS;have FB:(o.length:Int)=20000:=xb;have aEN:¬20000=o0.length:=xb;have aEO:¬(20000:Int)=(o0.length:Int):=xb;refine aD (A18 hre MH MI hrp dQ ho ho' hbq C4 hwl hoc FB aEN aEO C5 hsetq hb0 aA9) ?_;exact qt
      .rw[yAI hoc]at iS;have FB:¬(o.length:Int)=20000:=xb;have nH:=SU (o:=.box (.agg [.int .i64 ln,.int .i64 ((l.length:Int)+1)])) eH hbq
       focus
        obtain⟨bY,σ3,hap,hr',hkeep,_⟩:=JZ (P:=prog) (t:=29) (e:=36) (k:=7) (b:=64) (s:=z) (xs:=o.map Em.tk.aA) (p:=Em.tk.aA ⟨6,[10],0,(0,0),ln,(l.length:Int)+1⟩) (tk:=.any) underlying29 xg (by simpa using fU) (by rw[yAe];exact nH) yh yh;have hn0:tok≠.own 0:=H8 eH hb0;have hk0:=hkeep 0 _ hn0 ((C5 _).trans hb0);simp only[FC]at hap;refine aD (A15 hre MH MI hrp dQ ho ho' hbq C4 hwl hoc FB C5 hsetq hap) ?_;exact dx
    .have dQ:¬(rest[0].toNat:Int)=37:=by omega
     rw[yAI (by rintro(h|h);exact hre h;exact c1 h)]at hli
     by_cases c2:pk rest 0=32\/pk rest 0=9
     .rw[yAJ c2]at hli;have hw:IntKind.i64.wrap (bR+1)=bR+1:=wrap_i64 xb xb;have nH:=SU (o:=.box (.agg [.int .i64 ln,.int .i64 (bR+1)])) eH hbq;have C5:∀x,(σ.set q x)[0]?=σ[0]?:=λx=>yAd xb
      have hsetq:∀x,(σ.set q x)[q]?=some x:=λx=>yAj hql
      have hlen:(rest.drop 1).length=rest.length-1:=yBe ..
      by_cases c3:pk rest 0=32
      .have mO:(rest[0].toNat:Int)=32:=by omega
       refine aD (A9 hre MH MI hrp dQ mO hbq C4 @hw) ?_;exact fP
      .have mO:¬(rest[0].toNat:Int)=32:=by omega
       have fX:(rest[0].toNat:Int)=9:=xb;refine aD (A10 hre MH MI hrp dQ mO fX hbq C4 @hw) ?_;exact fP
     .rw[yAI c2]at hli;have mO:¬(rest[0].toNat:Int)=32:=xb;have fX:¬(rest[0].toNat:Int)=9:=xb;obtain⟨t,n,e,hT⟩:∃t n e,cY rest=(t,n,e):=⟨_,_,_,rfl⟩;have htp:=λh=>aUF (s:=rest) hrp h
      rw[hT]at hli htp;simp only at hli htp;have hrl:(rest.length:Int)<4000000000:=xb;have hx0:∀x,(σ++[x])[0]?=some (.box (.agg [.int .i64 0,.int .i64 0])):=λx=>by rw[yAg XE];exact hb0
      have hxq:∀x,(σ++[x])[q]?=some (.box (.agg [.int .i64 ln,.int .i64 bR])):=λx=>by rw[yAg hql];exact hbq
      have hxs:∀x y,((σ++[x]).set 0 y)[0]?=some y:=λx y=>yAj yo
      have aKm:∀x y:U,(σ.set 0 y++[x])[0]?=some y:=λx y=>by rw[yAg (by rw[yAD];exact XE)];exact yAj XE
      by_cases he:e=0
      .subst he;obtain⟨QX,hn2⟩:=htp rfl;obtain⟨k,rfl⟩:∃k:Nat,n=(k:Int):=⟨n.toNat,xb⟩;rw[yAI wz]at hli
       by_cases hoc:o.length=20000
       .rw[yAJ hoc]at hli;rw[<-hli]at iS;rw[yAJ wz]at iS;have FB:(o.length:Int)=20000:=xb;refine aD (A18 hre MH MI hrp dQ mO fX hbq C4 h2 hrl hT hoc FB hx0 hxq hb0 aA9) ?_;exact qc
       .rw[yAI hoc]at hli;have FB:¬(o.length:Int)=20000:=xb;have e1:k<=rest.length:=xb;have hw:IntKind.i64.wrap (bR+(k:Int))=bR+(k:Int):=wrap_i64 xb xb;have nH:iL (σ++[.box (Em.tk.aA { t with line:=ln,bR:=bR })]) tok 36 7 o.length:=eH.more;rw[yBq]at hli;have hlen:(rest.drop k).length=rest.length-k:=yBe ..;have hst:∀x y,(σ++[x]).set σ.length y=σ++[y]:=λx y=>wz
        focus
         obtain⟨bY,σ3,hap,hr',hkeep,_⟩:=JZ (P:=prog) (t:=29) (e:=36) (k:=7) (b:=64) (s:=z) (xs:=o.map Em.tk.aA) (p:=Em.tk.aA { t with line:=ln,bR:=bR }) (tk:=.any) underlying29 xg (by simpa using fU) (by rw[yAe];exact nH) yh yh;have hk0:=hkeep 0 _ (H8 eH hb0) (hx0 _);have hkq:=hkeep q _ (H8 eH hbq) (hxq _);have aKn:q<σ3.length:=(yA.1 hkq).1;have aUG:σ3[q]=U.box (.agg [.int .i64 ln,.int .i64 bR]):=by rw[yAh aKn]at hkq;simpa using hkq
         have vX:=SU (o:=.box (.agg [.int .i64 ln,.int .i64 (bR+(k:Int))])) (by simpa using hr') hkq;have C5:∀x,(σ3.set q x)[0]?=σ3[0]?:=λx=>yAd xb
         have hsetq:∀x,(σ3.set q x)[q]?=some x:=λx=>yAj aKn
         simp only[FC]at hap;refine aD (A14 hre MH MI hrp dQ mO fX hbq C4 h2 hrl hT hoc FB) ?_;apply Wp.aAG hU [(9,q),(11,σ.length)] [(some q,some σ.length)] xo ⟨⟨0,rfl⟩,⟨0,rfl⟩,trivial⟩ xg ⟨xb,trivial⟩;refine aD (A10 hbq C4 hx0 hxq hst hap hkq aUG @hw e1) ?_;refine aM.normal ((rest.drop k).length) xb ⟨7,f,rest.drop k,bR+(k:Int),o++[{ t with line:=ln,bR:=bR }],bY,_,cG (⟨rfl,xb,hli,.inr rfl,by simpa using vX,by rw[C5];exact hk0,hsetq _,ye,xb,xb⟩)⟩
      .rw[yAJ he]at hli;rw[<-hli]at iS;rw[yAJ he]at iS;refine aD (A17 hre MH MI hrp dQ mO fX hbq C4 h2 hrl hT @he hx0 hxq hb0 aA9) ?_;exact qc
  .have q1:¬(i:Int)<(L.length:Int):=by omega
   have he:i=L.length:=xb;rw[he,yCh]at hsc;have iS:F=(o,(0,0),0):=hsc.symm;refine aD (A3 q1 XB aUE) ?_;simp(disch:=first|omega|(simp;done)|(simp;omega)) [yAu,iS,aOG hz,hs0]<;>try rfl
end
abbrev aKq:Em Int:=Em.int .i64
def H6:Nat->List PD->List U->Option (PD×List U):=entry (aX aKq .text λn=>bJ (-9223372036854775808<=n/\n<=9223372036854775807) (some (Lib.itoa n)))
theorem KQ(n:Int)(h:-9223372036854775808<=n/\n<=9223372036854775807)(fl:Nat)(σ:List U):H6 fl [.int .i64 n] σ=some (.str (Lib.itoa n),σ):=by
 have e:aKq.dec (.int .i64 n)=some n:=Em.cR rfl;unfold H6 entry aX;simp only[e];rw[dN h];rfl
def SY(l:List (List UInt8))(s:List UInt8):Prop:=l≠[]/\l.length<=1000/\(Lib.join l s).length<=1000000
def E8:Nat->List PD->List U->Option (PD×List U):=entry (cV (Em.text.list 1) .text .text λl s=>bJ (SY l s) (some (Lib.join l s)))
end Go.Kz
namespace Go.Kz
section
open Go Go.Proofs Go.RowKit
theorem aJn{E:aE}(hE:aH prog E):aH prog (E.add 40 H6):=by
 refine hE.QS ⟨_,func40,rfl⟩ λargs c vs p hg hs hv=>?_
 obtain⟨n,z,ha,hz,rfl⟩:=aOk hg;obtain⟨⟨h0,h1⟩,fU⟩:=dF hz;simp only[yAb]at fU;subst fU;have kR:=hv.strip;rw[ha]at kR;obtain⟨v,rfl,h2⟩:=aCB kR;rw[h2.int_eq];obtain⟨⟨cs,T,fz,hheap,hh⟩,_⟩:=hs.gU.2 1 rfl;have hcs:=hh.1 .u64 _ rfl;have htab:Lib.TabIs prog c.w "internal/strconv.uint64pow10" .u64 Lib.pow10Tab:=by
  unfold Lib.TabIs World.var?;have hg:prog.globalNamed "internal/strconv.uint64pow10" = some 1:=xg;rw[hg];simp only[yCT,hheap];rw[hcs];rfl
 refine yBF (Tryz.strconv_Itoa n h0 h1 c.w htab) λe w' he=>?_
 obtain⟨rfl,k,os,rfl⟩:=he;exact⟨_,rfl,⟨rfl,rfl,rfl,by simp[Go.Sort.grow],λi hi _=>by simp[Go.Sort.grow,Array.getElem?_append,hi]⟩,λ_=>.str _⟩
theorem aSr{E:aE}(hE:aH prog E):aH prog (E.add 45 E8):=by
 refine hE.QS ⟨_,func45,rfl⟩ λargs c vs p hg hs hv=>?_
 obtain⟨l,s,z,ha,hz,rfl⟩:=U8 hg;obtain⟨⟨hne,hl,hjl⟩,fU⟩:=dF hz;simp only[yAb]at fU;subst fU;have kR:=hv.strip;rw[ha]at kR;obtain⟨v,u,rfl,h1,h2⟩:=U7 kR;rw[h2.JV];obtain⟨A,capx,flx,rfl,a1,a2,a3,a4,a5,a6,a7,a8⟩:=h1.nW;have hfl:(l.map Em.text.aA).flatMap PD.cells=l.map PD.str:=by
  have:∀l:List (List UInt8),(l.map Em.text.aA).flatMap PD.cells=l.map PD.str:=λl=>by
   induction l with
   |nil=>rfl
   |cons x l ih=>rw[yB,yBg,ih];rfl
  exact this l
 rw[yAe]at a4;rw[aCF hne,yDb]at a4;rw[hfl]at a7;have hl0:0<l.length:=yBu.2 hne;obtain⟨ad,rfl,hc0,_⟩:=a6 0 (flx[0]' xb) wz;obtain⟨bk,o,spot⟩:=ad;have hsp:spot=none:=by
  cases spot with
  |none=>rfl
  |some q=>
   have:((⟨bk,o,some q⟩:Addr).add 0).spot.isSome=true:=xq;unfold World.cell? at hc0;split at hc0
   .rw[yAJ this]at hc0;cases hc0
   .cases hc0
 subst hsp;have hbk:bk<c.w.heap.size:=by
  have:=KH hc0
  rwa [aUM]at this
 have hx:(l.map λs:List UInt8=>(⟨s.toArray⟩:ByteArray)).map (·.data.toList)=l:=by
  rw[yBo]
  conv=>rhs;rw[<-List.map_id l]
  exact yAG λx _=>wz
 have hj:=Tryz.strings_Join bk o capx (l.map λs:List UInt8=>(⟨s.toArray⟩:ByteArray)) ⟨s.toArray⟩ c.w (λj x hjx=>by
  rw[yAo]at hjx;cases hlj:l[j]? with
  |none=>rw[hlj]at hjx;cases hjx
  |some y=>
   rw[hlj]at hjx;simp only[yAC,yAb]at hjx;subst hjx;have hjl:j<flx.length:=by rw[a4];exact(yA.1 hlj).1
   obtain⟨V2,e9,h9,_⟩:=a6 j flx[j] (yAh hjl);cases e9;have:=(a7 j flx[j] (.str y) (yAh hjl) (by rw[yAo,hlj];rfl)).JV;rw[<-MB,h9,this]) hbk yh (by rw[yAe];rw[yAe]at a1;exact a1) (by rw[hx];exact yBd hjl xb)
 rw[yAe,hx]at hj;rw[yAe];refine yBF hj λe w' he=>?_
 obtain⟨rfl,hB⟩:=he;refine⟨_,rfl,⟨hB.os,hB.tape,hB.output,hB.size,λk hk _=>hB.block k hk⟩,λ_=>?_⟩;exact .str _
end
end Go.Kz
end
