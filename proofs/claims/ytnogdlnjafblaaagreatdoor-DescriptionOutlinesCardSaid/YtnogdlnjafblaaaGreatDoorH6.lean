/- Steps of the proof. -/
import Derived.Test.YtnogdlnjafblaaaGreatDoorH3
import Derived.Test.YtnogdlnjafblaaaGreatDoorH4
import Derived.Lib.Itoa
import Derived.Lib.ItoaNum
import Derived.Lib.Join
import Derived.Shelf.Strings.OnBuilder
set_option linter.all false
set_option maxHeartbeats 40000000
set_option maxRecDepth 100000
open Go.Proofs.Tryz
noncomputable section
namespace Go.Kz
open Go Go.Proofs
section
theorem follows:prog.follows .mixedOrders=true:=yp
def iE:List UInt8->List (List UInt8)
 | []=>[[]]
 |b::r=>if b=10 then []::iE r else(match iE r with|x::xs=>(b::x)::xs | []=>[[b]])
theorem aK9(s:List UInt8):iE s≠[]:=by
 cases s with
 |nil=>simp[iE]
 |cons b r=>
  unfold iE;split
  .simp
  .split<;>simp
theorem aLa:∀s:List UInt8,Lib.splitK [10] 0 (Lib.count s [10]) s=iE s
 | []=>rfl
 |b::r=>by
  have ih:=aLa r
  by_cases hb:b=10
  .subst hb;have hi:Lib.index (10::r) [10]=0:=by simp[Lib.index,List.isPrefixOf]
   rw[Lib.count_cons_eq,yCq];unfold iE;rw[yAJ rfl];simp only[Lib.splitK,hi];simp[ih]
  .have hpre:List.isPrefixOf [10] (b::r)=false:=by
    simp[List.isPrefixOf,yBd hb]
   rw[Lib.count_cons_ne _ _ _ hb];have hix:Lib.index (b::r) [10]=if Lib.index r [10]==-1 then -1 else Lib.index r [10]+1:=by
    simp[Lib.index,hpre]
   have hge:=Lib.index_ge r [10];unfold iE;rw[yAI hb];cases hk:Lib.count r [10]with
   |zero=>
    rw[hk]at ih;simp only[Lib.splitK]at ih ⊢;rw[<-ih]
   |succ k=>
    rw[hk]at ih;simp only[Lib.splitK]at ih ⊢
    by_cases h1:Lib.index r [10]=-1
    .simp only[h1,beq_self_eq_true,yAM]at ih hix;rw[hix];simp only[beq_self_eq_true,yAM];rw[<-ih]
    .have h2:(Lib.index r [10]==-1)=false:=by simpa using h1
     rw[h2]at ih hix;simp only[yAx,yAO]at ih hix;have h3:(Lib.index (b::r) [10]==-1)=false:=by rw[hix];simp;omega
     rw[h3];simp only[yAx,yAO];rw[<-ih,hix];have e1:(Lib.index r [10]+1).toNat=(Lib.index r [10]).toNat+1:=ym;simp[e1,Nat.add_right_comm]
abbrev u8:Em Int:=Em.int .u8
abbrev texts:Em (List (List UInt8)):=Em.text.list 1
theorem aLb:∀l:List (List UInt8),(l.map PD.str).flatMap PD.cells=l.map PD.str
 | []=>rfl
 |x::xs=>by
  simp only[yAX,yBg,aLb xs];rfl
variable{E:aE}
theorem aUB(hE:aF prog E):aF prog (E.add 38 (entry (cU .text .text texts λs c=>bE (c=[10]/\(s.length:Int)<4000000000) (some (iE s))))):=by
 refine hE.J5 ⟨_,func38,rfl⟩ λargs c vs p hg hs hv=>?_
 obtain⟨s,sep,z,ha,hz,rfl⟩:=YJ hg;obtain⟨⟨rfl,hlen⟩,fU⟩:=cX hz;simp only[yAb]at fU;subst fU;have jR:=hv.strip;rw[ha]at jR;obtain⟨v,u,rfl,h1,h2⟩:=MI jR;rw[h1.EL,h2.EL];obtain⟨⟨cs,T,fz,hheap,hh⟩,_⟩:=hs.iG.2 0 rfl;obtain⟨m,rfl⟩:=hh.2 .i64 rfl;have hcell:c.w.cell? ⟨0,0,none⟩=some (.int .i64 m):=by simp[World.cell?,hheap]
 have hss:(ByteArray.mk s.toArray).size=s.length:=Aj;have hsep:(ByteArray.mk #[(10:UInt8)]).data.toList=[10]:=rfl;refine yBp (Tryz.strings_Split ⟨s.toArray⟩ ⟨#[10]⟩ m c.w (by rw[hss];omega) hcell yx) λe w' he=>?_
 obtain⟨rfl,rfl⟩:=he;have hdata:(Lib.splitB ⟨#[10]⟩ 0 (Lib.countB ⟨s.toArray⟩ ⟨#[10]⟩) ⟨s.toArray⟩).map (·.data.toList)=iE s:=by
  rw[Lib.splitB_data];exact aLa s
 have x9:=Lib.splitB_all ⟨#[10]⟩ yx 0 _ ⟨s.toArray⟩ rfl
 generalize Lib.splitB ⟨#[10]⟩ 0 (Lib.countB ⟨s.toArray⟩ ⟨#[10]⟩) ⟨s.toArray⟩=L at hdata x9
 have hcount:Lib.countB ⟨s.toArray⟩ ⟨#[10]⟩<=s.length:=by
  have:=Lib.countB_le ⟨#[10]⟩ yx _ ⟨s.toArray⟩ (yAk _);rw[hss]at this;exact this
 rw[<-x9];have hgr:c.w.grownBy (c.w.alloc (.cells (L.map Value.string).toArray 9)) none:=World.grownBy_alloc _ _ _;refine⟨_,rfl,hgr,λ_=>?_⟩;have hne:iE s≠[]:=aK9 s;have hL:(iE s).length=L.length:=by rw[<-hdata,yAe]
 rw[eN,T6 hne];have hadd:∀j,(⟨c.w.heap.size,0,none⟩:Addr).add j=⟨c.w.heap.size,j,none⟩:=λj=>ze
 refine .slice _ _ _ 1 _ .any (L.map Value.string) (by simp[hL]) (yAk _) (by rw[x9];simp only[maxLen];omega) ?_ yo ?_ ?_ ?_ trivial
 .intro x hx;obtain⟨y,_,rfl⟩:=yAw.1 hx;rfl
 .intro v hv;obtain⟨y,_,rfl⟩:=yAw.1 hv;rfl
 .intro j v hj;refine⟨_,rfl,?_,aSa hs ?_⟩
  .rw[hadd];show(c.w.alloc _).cell? _=_
   have hnew:(c.w.alloc (.cells (L.map Value.string).toArray 9)).heap[c.w.heap.size]?=some (.cells (L.map Value.string).toArray 9 (0,0)):=yBL _ _;simp only[World.cell?,hnew];simpa using hj
  .rw[hadd];exact yAk _
 .intro j v d h1 h2;rw[show(iE s).map Em.text.aA=(iE s).map PD.str from rfl,aLb,<-hdata,yBc]at h2;rw[yAo]at h1 h2;cases hj:L[j]? with
  |none=>rw[hj]at h1;simp at h1
  |some y=>
   rw[hj]at h1 h2;simp only[yAC,yAb,Function.comp]at h1 h2;subst h1 h2;have:y=⟨y.data.toList.toArray⟩:=yo
   conv=>lhs;rw[this]
   exact .str _
theorem aUC(hE:aF prog E):aF prog (E.add 82 (entry (cU .text u8 i64 λs n=>bE (0<=n/\n<=255) (some (Lib.indexByte s n.toNat.toUInt8))))):=by
 refine hE.J5 ⟨_,func82,rfl⟩ λargs c vs p hg hs hv=>?_
 obtain⟨s,n,z,ha,hz,rfl⟩:=YJ hg;obtain⟨_,fU⟩:=cX hz;simp only[yAb]at fU;subst fU;have jR:=hv.strip;rw[ha]at jR;obtain⟨v,u,rfl,h1,h2⟩:=MI jR;rw[h1.EL,h2.int_eq];refine yBp (Tryz.strings_IndexByte ⟨s.toArray⟩ n c.w) λe w' he=>?_
 exact uq
theorem aUD(hE:aF prog E):aF prog (E.add 83 (entry (cU .text .text .bool λs t=>some (Lib.hasPrefix s t)))):=by
 refine hE.J5 ⟨_,func83,rfl⟩ λargs c vs p hg hs hv=>?_
 obtain⟨s,n,z,ha,hz,rfl⟩:=YJ hg;simp only[yAb]at hz;subst hz;have jR:=hv.strip;rw[ha]at jR;obtain⟨v,u,rfl,h1,h2⟩:=MI jR;rw[h1.EL,h2.EL];refine yBp (Tryz.strings_HasPrefix ⟨s.toArray⟩ ⟨n.toArray⟩ c.w) λe w' he=>?_
 obtain⟨rfl,rfl⟩:=he;exact⟨_,rfl,aBI _,λ_=>.bool _⟩
theorem aUE(hE:aF prog E):aF prog (E.add 122 (entry (cU .text .text .text λs t=>some (Lib.trimPrefix s t)))):=by
 refine hE.J5 ⟨_,func122,rfl⟩ λargs c vs p hg hs hv=>?_
 obtain⟨s,n,z,ha,hz,rfl⟩:=YJ hg;simp only[yAb]at hz;subst hz;have jR:=hv.strip;rw[ha]at jR;obtain⟨v,u,rfl,h1,h2⟩:=MI jR;rw[h1.EL,h2.EL];refine yBp (Tryz.strings_TrimPrefix ⟨s.toArray⟩ ⟨n.toArray⟩ c.w) λe w' he=>?_
 obtain⟨rfl,rfl⟩:=he;exact⟨_,rfl,aBI _,λ_=>.str _⟩
end
section
def mX(n:Int):Bool:=(decide (97<=n)&&decide (n<=122))||(decide (65<=n)&&decide (n<=90))
def cB(n:Int):Bool:=decide (48<=n)&&decide (n<=57)
def oM(n:Int):Bool:=mX n||cB n||decide (n=95)
def dV(p:Int->Bool)(s:List UInt8):Nat:=(s.takeWhile λb=>p b.toNat).length
theorem HA(p:Int->Bool)(s:List UInt8):dV p s<=s.length:=by
 unfold dV;exact(List.takeWhile_sublist _).length_le
theorem RL(p:Int->Bool)(b:UInt8)(r:List UInt8):dV p (b::r)=if p b.toNat=true then dV p r+1 else 0:=by
 unfold dV;rw[List.takeWhile_cons];split<;>simp_all
theorem aK7(p:Int->Bool):∀(s:List UInt8) (n:Nat),n<=dV p s->dV p s=n+dV p (s.drop n)
 |s,0,_=>yo
 | [],n+1,h=>by simp[dV]at h
 |b::r,n+1,h=>by
  rw[RL]at h ⊢;split at h
  .rename_i hb;rw[yAJ hb,List.drop_succ_cons,aK7 p r n ym];omega
  .omega
theorem aUx(p:Int->Bool)(s:List UInt8)(n:Nat)(h:n<=dV p s)(hl:n<s.length):(n<dV p s)=(p s[n].toNat=true):=by
 have h1:=aK7 p s n h;rw[yAq hl,RL]at h1;apply propext;split at h1
 .rename_i hp;exact⟨λ_=>hp,λ_=>ym⟩
 .rename_i hp;exact⟨λ_=>ym,λh'=>absurd h' hp⟩
@[simp] theorem a8A{α:Type}{s:List α}{l:Nat}:(s.drop l).take (s.length-l)=s.drop l:=yAz yo
variable{E:aE}(hU:aG E)
include hU
set_option maxRecDepth 10000
theorem aUy(h0:E 75=none)(n:Int):aJ prog E 75 [u8.aA n] (Em.bool.aA (mX n)):=by
 refine aJ.aV 17 h0 func75 (h:=?_)
 by_cases h1:97<=n<;>by_cases h2:n<=122<;>by_cases h3:65<=n<;>by_cases h4:n<=90
 all_goals
  refine aD (A4 h1 h2 h3 h4) ?_;simp(disch:=first|omega|(simp;done)|(simp;omega)) [yAu,mX,h1,h2,h3,h4]<;>try rfl
theorem aUz(h0:E 78=none)(n:Int):aJ prog E 78 [u8.aA n] (Em.bool.aA (cB n)):=by
 refine aJ.aV 9 h0 func78 (h:=?_)
 by_cases h1:48<=n<;>by_cases h2:n<=57
 all_goals
  refine aD (A2 h1 h2) ?_;simp(disch:=first|omega|(simp;done)|(simp;omega)) [yAu,cB,h1,h2]<;>try rfl
theorem aUA(h0:E 77=none)(h1:E 75=some (entry (aY u8 .bool λn=>some (mX n))))(h2:E 78=some (entry (aY u8 .bool λn=>some (cB n))))(n:Int):aJ prog E 77 [u8.aA n] (Em.bool.aA (oM n)):=by
 refine aJ.aV 13 h0 func77 (h:=?_);cases h3:mX n<;>cases h4:cB n
 all_goals
  refine aD (A4 h1 h2 h3 h4) ?_;simp(disch:=first|omega|(simp;done)|(simp;omega)) [yAu,oM,h3,h4]<;>try rfl
theorem aK5(f:Nat)(p:Int->Bool)(h0:E 76=none)(h1:E f=some (entry (aY u8 .bool λn=>some (p n))))(s:List UInt8)(hs:(s.length:Int)<4000000000) :
  aJ prog E 76 [.str s,.func f []] (i64.aA (dV p s)):=by
 refine aJ.aV 20 h0 func76 (h:=?_);refine aD trivial ?_;refine Wp.dK (λm fr σ=>∃(i:Nat),∃gg:Nat->PD,(i+m=s.length/\i<=dV p s)/\fr=[.str s,.func f [],gg 2,gg 3,gg 4,.int .i64 i,gg 6,gg 7,gg 8,gg 9,gg 10,gg 11,gg 12,gg 13,gg 14,gg 15,gg 16,gg 17,gg 18,gg 19]/\σ=[]) ?_ (s.length) (by refine⟨0,?_⟩;exact bV (⟨ym,ym⟩))
 rintro m fr σ ⟨i,gg,hI,rfl,rfl⟩
 obtain⟨hm,hi⟩:=hI
 by_cases hl:i<s.length
 .have q1:(i:Int)<(s.length:Int):=by omega
  have hat:=aUx p s i hi hl;cases hp:p s[i].toNat with
  |true=>
   rw[hp]at hat;have hlt:i<dV p s:=by rw[hat]
   refine Wp.seq (Wp.seq ?_);apply Wp.dU;refine aK8 (A3 q1 h1 hp) ?_;apply SQ.nil;refine aD q1 ?_;refine aL.normal (m-1) ym (by refine⟨i+1,?_⟩;exact bV (⟨ym,ym⟩))
  |false=>
   rw[hp]at hat;have hlt:¬i<dV p s:=by rw[hat];simp
   have he:i=dV p s:=ym;refine Wp.seq (Wp.seq ?_);apply Wp.dU;refine aK8 (A3 q1 h1 hp) ?_;exact oe
 .have q1:¬(i:Int)<(s.length:Int):=by omega
  have:=HA p s;have he:i=dV p s:=ym;refine Wp.seq (Wp.seq ?_);apply Wp.dU;refine bM q1 ?_;exact oe
end
section
def fN(s:List UInt8):Nat:=s.foldl (λn b=>10*n+(b.toNat-48)) 0
def gE(s:List UInt8):Prop:=∀b∈s,cB b.toNat=true
theorem aCk(s:List UInt8)(b:UInt8):fN (s++[b])=10*fN s+(b.toNat-48):=by simp[fN,List.foldl_append]
theorem aK6:∀(t s:List UInt8),fN s<=fN (s++t)
 | [],s=>yo
 |b::r,s=>by
  have h:=aK6 r (s++[b]);rw[aCk,yAi]at h;simp only[List.singleton_append]at h;omega
theorem aUt(s:List UInt8)(i:Nat):fN (s.take i)<=fN s:=by
 have:=aK6 (s.drop i) (s.take i)
 rwa [yCK]at this
theorem aUu{s:Dr}{i:Nat}(h:i<s.length):fN (s.take (i+1))=10*fN (s.take i)+(s[i].toNat-48):=by
 rw[yBX h,aCk]
theorem aUv{s:Dr}(h:gE s){i:Nat}(hi:i<s.length):48<=s[i].toNat/\s[i].toNat<=57:=by
 have:=h s[i] (yAm hi);unfold cB at this;simp only[yAr,yBC]at this;omega
def lG(s:List UInt8)(most:Int):Int×Bool:=if (fN s:Int)<=most then((fN s:Int),true)else(0,false)
variable{E:aE}(hU:aG E)
include hU
set_option maxRecDepth 10000
theorem aUw(h0:E 120=none)(s:List UInt8)(most:Int)(hd:gE s)(jI:0<=most)(hm2:most<=2000000000)(hl:(s.length:Int)<4000000000) :
  aJ prog E 120 [.str s,.int .i64 most] ((i64.iH .bool).aA (lG s most)):=by
 refine aJ.aV 26 h0 func120 (h:=?_);refine aD trivial ?_;refine Wp.dK (λm fr σ=>∃(i v:Nat),∃gg:Nat->PD,(i+m=s.length/\v=fN (s.take i)/\(v:Int)<=most)/\fr=[.str s,.int .i64 most,gg 2,gg 3,gg 4,gg 5,.int .i64 v,gg 7,.str s,.int .i64 s.length,.int .i64 i,gg 11,gg 12,gg 13,gg 14,gg 15,gg 16,gg 17,gg 18,gg 19,gg 20,gg 21,gg 22,gg 23,gg 24,gg 25]/\σ=[]) ?_ (s.length) (by refine⟨0,0,?_⟩;exact bV (⟨ym,by simp[fN],ym⟩))
 rintro m fr σ ⟨i,v,gg,hI,rfl,rfl⟩
 obtain⟨hm,hv,hvm⟩:=hI
 by_cases hi:i<s.length
 .have q1:(i:Int)<(s.length:Int):=by omega
  have hb:=aUv hd hi;have hn:=aUu hi;rw[<-hv]at hn;obtain⟨d,kM⟩:∃d:Nat,s[i].toNat=d+48:=⟨s[i].toNat-48,ym⟩;have GX:(s[i].toNat:Int)-48=(d:Int):=ym;have hw:IntKind.u8.wrap (d:Int)=d:=wrap_u8 ym ym;have hn2:(fN (s.take (i+1)):Int)=10*(v:Int)+(d:Int):=ym
  by_cases hc:most<10*(v:Int)+(d:Int)
  .have hle:=aUt s (i+1);have hP:lG s most=(0,false):=by
    exact jr
   refine aD (A4 q1 GX @hw hc) ?_;exact dm
  .refine aD (A4 q1 GX @hw hc) ?_;refine aL.normal (m-1) ym (by refine⟨i+1,fN (s.take (i+1)),?_⟩;exact fL (⟨ym,rfl,ym⟩) @hn2)
 .have q1:¬(i:Int)<(s.length:Int):=by omega
  have he:i=s.length:=ym;rw[he,yBz]at hv;subst hv;have hP:lG s most=((fN s:Int),true):=by
   unfold lG;rw[yAJ hvm]
  refine aD q1 ?_;exact dm
end
section
def cP:List PD->Option PD:=λargs=>match args with
 | [.str s,.func f []]=>bE ((s.length:Int)<4000000000) (if f=78 then some (.int .i64 (dV cB s))else if f=77 then some (.int .i64 (dV oM s))else none)
 |_=>none
theorem aUr{E:aE}(hU:aG E)(hE:aF prog E)(h0:E 76=none)(h1:E 78=some (entry (aY u8 .bool λn=>some (cB n))))(h2:E 77=some (entry (aY u8 .bool λn=>some (oM n)))) :
  aF prog (E.add 76 (entry cP)):=by
 refine hE.OV follows λargs p hg=>?_
 unfold cP at hg;split at hg
 .rename_i s f;obtain⟨hl,eJ⟩:=cX hg;clear hg
  .split at eJ
   .rename_i hf;subst hf;simp only[yAb]at eJ;subst eJ;obtain⟨p1,σ1,e1,e2⟩:=aK5 hU 78 cB h0 h1 s hl;exact qw
   .split at eJ
    .rename_i hf;subst hf;simp only[yAb]at eJ;subst eJ;obtain⟨p1,σ1,e1,e2⟩:=aK5 hU 77 oM h0 h2 s hl;exact qw
    .cases eJ
 .cases hg
def pk(s:List UInt8)(i:Nat):Nat:=(s.getD i 0).toNat
theorem pV{s:Dr}{i:Nat}(h:i<s.length):pk s i=s[i].toNat:=by simp[pk,List.getD,yAh h]
theorem RJ{s:Dr}{i:Nat}(h:s.length<=i):pk s i=0:=by simp[pk,List.getD,yBo h]
abbrev G9:=List UInt8×Dr×Dr
def bJ.parts:bJ G9:=(bJ.one .text).pair ((bJ.one .text).pair (.one .text))
def Em.parts:Em G9:=.agg .parts
@[simp] theorem a8y{p:G9}:Em.parts.aA p=.agg [.str p.1,.str p.2.1,.str p.2.2]:=rfl
@[simp] theorem a8z{a b c:Dr}:Em.parts.dec (.agg [.str a,.str b,.str c])=some (a,b,c):=Em.cJ rfl
def jT:G9×Int:=(([],[],[]),0)
def cT(s:List UInt8):G9×Int:=
 let a:=dV cB s
 if pk s a=39 then((s.take a,[],[]),(a:Int)+1)else
 if pk s a=45 then
  let n:=dV cB (s.drop (a+1))
  let m:=dV cB (s.drop (a+1+n+1))
  if n≠0/\pk s (a+1+n)=47/\m≠0/\pk s (a+1+n+1+m)=39 then((s.take a,(s.drop (a+1)).take n,(s.drop (a+1+n+1)).take m),(a:Int)+1+n+1+m+1)else jT
 else if pk s a=47 then
  let m:=dV cB (s.drop (a+1))
  if m≠0/\pk s (a+1+m)=39 then(([],s.take a,(s.drop (a+1)).take m),(a:Int)+1+m+1)else jT
 else jT
variable{E:aE}(hU:aG E)
include hU
set_option maxRecDepth 10000
theorem aUs(h0:E 79=none)(h1:E 76=some (entry cP))(s:List UInt8)(hs:(s.length:Int)<4000000000) :
  aJ prog E 79 [.str s] ((Em.parts.iH i64).aA (cT s)):=by
 obtain⟨a,ha⟩:=gn (dV cB s);have hal:=HA cB s;rw[ha]at hal;refine aJ.aV 108 h0 func79 (h:=?_)
 by_cases hl:a=s.length
 .have q1:(a:Int)=(s.length:Int):=by omega
  have hp:cT s=jT:=by
   unfold cT;rw[ha];simp only[RJ (yCS hl.symm)];simp
  repeat(first
   |(refine Fr.i ?_;simp only[aM,yAT,yAU];try rfl)
   |(refine By.i ?_;(focus(simp(disch:=first|omega|(simp;done)|(simp;omega)) [wrap_i64,wrap_u64,h1,cP,entry,hs,ha,q1];first|done|rfl|exact⟨rfl,rfl⟩)))
   |(refine By.i ?_;simp(disch:=first|omega|(simp;done)|(simp;omega)) [wrap_i64,wrap_u64,h1,cP,entry,hs,ha,q1];refine⟨yw,rfl⟩)
   |(refine Wt.i ?_;first|rfl|(focus(simp[h1,cP,entry,hs,ha,q1];done)))
   |(refine Ns.i ?_;(try simp only[yAl,yAQ,yAR,yAi,yAa,yAK,yAL,yAp,Nat.reduceAdd]);rfl)|rfl
   |(apply SL.pass;(focus(refine Wt.i ?_;rfl)))|(apply tu;(focus rfl))|apply SL.move|apply SL.assign|apply SL.load|apply SL.gC|apply tu|apply SL.make|apply SL.binOp|apply SL.append|apply tu
   |apply SL.builtin|apply SL.fieldAddr|apply SL.indexAddr|apply SL.field|apply SL.extract|apply SL.gD|apply SL.pick|apply SL.store|apply SL.unOp|apply SL.convert|apply SL.index|apply SL.slice|apply SL.build
   |apply SL.nilCheck|apply SL.buildSlice|apply SL.box|apply SL.alloc|apply SL.makeFunc|apply SQ.nil|(apply WL.kN;(focus decide +kernel))|(apply WL.eI yq;(focus decide +kernel);(focus decide +kernel))
   |(apply WL.jP;(focus decide +kernel);(focus decide +kernel))|(apply WL.lC;(focus decide +kernel))|(apply WL.lA yq;(focus decide +kernel);(focus decide +kernel))
   |(apply WL.lB;(focus decide +kernel);(focus decide +kernel))|(apply WL.kZ yq;(focus decide +kernel);(focus decide +kernel))|(apply WL.kY yq;(focus decide +kernel);(focus decide +kernel))
   |(apply WL.lZ yq;(focus decide +kernel);(focus decide +kernel))|(apply tu yq;(focus decide +kernel);(focus decide +kernel))|apply tu|(apply WL.ct;(focus rfl))
   |(apply WL.cf;(focus rfl))|refine aS.normal ?_|refine aS.ret ?_|refine aS.exit ?_|refine aO.normal ?_|refine aO.ret ?_|refine aO.here ?_|refine aO.there yx ?_|refine Wp.block ?_
   |refine Wp.skip ?_|refine Wp.ret ?_|refine Wp.exit ?_|refine aL.ret ?_|refine aL.exit ?_|refine tu ?_|refine tu ?_|refine tu ?_|refine Wp.seq (Wp.seq ?_)|refine Wp.seq (Wp.block ?_)
   |(refine Wp.seq ?_;apply WL.ct;(focus rfl))|(refine Wp.seq ?_;apply WL.cf;(focus rfl)))
  exact ax
 .have hlt:a<s.length:=by omega
  have q1:¬(a:Int)=(s.length:Int):=ym;have hpk:=pV hlt
  by_cases c1:pk s a=39
  .have q2:(s[a].toNat:Int)=39:=by omega
   have hp:cT s=((s.take a,[],[]),(a:Int)+1):=by
    unfold cT;rw[ha];simp only[c1,yAM]
   repeat(first
    |(refine Fr.i ?_;simp only[aM,yAT,yAU];try rfl)
    |(refine By.i ?_;(focus(simp(disch:=first|omega|(simp;done)|(simp;omega)) [wrap_i64,wrap_u64,h1,cP,entry,hs,ha,q1,q2];first|done|rfl|exact⟨rfl,rfl⟩)))
    |(refine By.i ?_;simp(disch:=first|omega|(simp;done)|(simp;omega)) [wrap_i64,wrap_u64,h1,cP,entry,hs,ha,q1,q2];refine⟨yw,rfl⟩)
    |(refine Wt.i ?_;first|rfl|(focus(simp[h1,cP,entry,hs,ha,q1,q2];done)))
    |(refine Ns.i ?_;(try simp only[yAl,yAQ,yAR,yAi,yAa,yAK,yAL,yAp,Nat.reduceAdd]);rfl)|rfl
    |(apply SL.pass;(focus(refine Wt.i ?_;rfl)))|(apply tu;(focus rfl))|apply SL.move|apply SL.assign|apply SL.load|apply SL.gC|apply tu|apply SL.make|apply SL.binOp|apply SL.append
    |apply tu|apply SL.builtin|apply SL.fieldAddr|apply SL.indexAddr|apply SL.field|apply SL.extract|apply SL.gD|apply SL.pick|apply SL.store|apply SL.unOp|apply SL.convert|apply SL.index|apply SL.slice
    |apply SL.build|apply SL.nilCheck|apply SL.buildSlice|apply SL.box|apply SL.alloc|apply SL.makeFunc|apply SQ.nil|(apply WL.kN;(focus decide +kernel))
    |(apply WL.eI yq;(focus decide +kernel);(focus decide +kernel))|(apply WL.jP;(focus decide +kernel);(focus decide +kernel))|(apply WL.lC;(focus decide +kernel))
    |(apply WL.lA yq;(focus decide +kernel);(focus decide +kernel))|(apply WL.lB;(focus decide +kernel);(focus decide +kernel))|(apply WL.kZ yq;(focus decide +kernel);(focus decide +kernel))
    |(apply WL.kY yq;(focus decide +kernel);(focus decide +kernel))|(apply WL.lZ yq;(focus decide +kernel);(focus decide +kernel))
    |(apply tu yq;(focus decide +kernel);(focus decide +kernel))|apply tu|(apply WL.ct;(focus rfl))|(apply WL.cf;(focus rfl))|refine aS.normal ?_|refine aS.ret ?_|refine aS.exit ?_
    |refine aO.normal ?_|refine aO.ret ?_|refine aO.here ?_|refine aO.there yx ?_|refine Wp.block ?_|refine Wp.skip ?_|refine Wp.ret ?_|refine Wp.exit ?_|refine aL.ret ?_|refine aL.exit ?_
    |refine tu ?_|refine tu ?_|refine tu ?_|refine Wp.seq (Wp.seq ?_)|refine Wp.seq (Wp.block ?_)|(refine Wp.seq ?_;apply WL.ct;(focus rfl))|(refine Wp.seq ?_;apply WL.cf;(focus rfl)))
   simp(disch:=first|omega|(simp;done)|(simp;omega)) [yAu,hp]<;>try rfl
  .have q2:¬(s[a].toNat:Int)=39:=by omega
   by_cases c2:pk s a=45
   .have q3:(s[a].toNat:Int)=45:=by omega
    obtain⟨n,hn⟩:=gn (dV cB (s.drop (a+1)));have hnl:=HA cB (s.drop (a+1));rw[hn,yBf]at hnl
    by_cases hn0:n=0
    .have hp:cT s=jT:=by
      unfold cT;rw[ha];simp only[c1,c2,yAO,yAM,hn,hn0];simp
     repeat(first
      |(refine Fr.i ?_;simp only[aM,yAT,yAU];try rfl)
      |(refine By.i ?_;(focus(simp(disch:=first|omega|(simp;done)|(simp;omega)) [wrap_i64,wrap_u64,h1,cP,entry,hs,ha,q1,q2,q3,hn,hn0];first|done|rfl|exact⟨rfl,rfl⟩)))
      |(refine By.i ?_;simp(disch:=first|omega|(simp;done)|(simp;omega)) [wrap_i64,wrap_u64,h1,cP,entry,hs,ha,q1,q2,q3,hn,hn0];refine⟨yw,rfl⟩)
      |(refine Wt.i ?_;first|rfl|(focus(simp[h1,cP,entry,hs,ha,q1,q2,q3,hn,hn0];done)))
      |(refine Ns.i ?_;(try simp only[yAl,yAQ,yAR,yAi,yAa,yAK,yAL,yAp,Nat.reduceAdd]);rfl)|rfl
      |(apply SL.pass;(focus(refine Wt.i ?_;rfl)))|(apply tu;(focus rfl))|apply SL.move|apply SL.assign|apply SL.load|apply SL.gC|apply tu|apply SL.make|apply SL.binOp|apply SL.append
      |apply tu|apply SL.builtin|apply SL.fieldAddr|apply SL.indexAddr|apply SL.field|apply SL.extract|apply SL.gD|apply SL.pick|apply SL.store|apply SL.unOp|apply SL.convert|apply SL.index|apply SL.slice
      |apply SL.build|apply SL.nilCheck|apply SL.buildSlice|apply SL.box|apply SL.alloc|apply SL.makeFunc|apply SQ.nil|(apply WL.kN;(focus decide +kernel))
      |(apply WL.eI yq;(focus decide +kernel);(focus decide +kernel))|(apply WL.jP;(focus decide +kernel);(focus decide +kernel))|(apply WL.lC;(focus decide +kernel))
      |(apply WL.lA yq;(focus decide +kernel);(focus decide +kernel))|(apply WL.lB;(focus decide +kernel);(focus decide +kernel))
      |(apply WL.kZ yq;(focus decide +kernel);(focus decide +kernel))|(apply WL.kY yq;(focus decide +kernel);(focus decide +kernel))
      |(apply WL.lZ yq;(focus decide +kernel);(focus decide +kernel))|(apply tu yq;(focus decide +kernel);(focus decide +kernel))|apply tu|(apply WL.ct;(focus rfl))
      |(apply WL.cf;(focus rfl))|refine aS.normal ?_|refine aS.ret ?_|refine aS.exit ?_|refine aO.normal ?_|refine aO.ret ?_|refine aO.here ?_|refine aO.there yx ?_|refine Wp.block ?_
      |refine Wp.skip ?_|refine Wp.ret ?_|refine Wp.exit ?_|refine aL.ret ?_|refine aL.exit ?_|refine tu ?_|refine tu ?_|refine tu ?_|refine Wp.seq (Wp.seq ?_)|refine Wp.seq (Wp.block ?_)
      |(refine Wp.seq ?_;apply WL.ct;(focus rfl))|(refine Wp.seq ?_;apply WL.cf;(focus rfl)))
     exact ax
    .have q4:¬(n:Int)=0:=by omega
     obtain⟨b,hb⟩:∃b,b=a+1+n:=⟨_,rfl⟩;have e1:(a:Int)+(1+(n:Int))=(b:Int):=ym;have o8:(a:Int)+1+(n:Int)=(b:Int):=ym;have e2:b-(a+1)=n:=ym;have htop:¬((s.drop (a+1)).take n=[]):=by
      intro h;have:=yAP List.length h;rw[yAt,yBf]at this;simp at this;omega
     obtain⟨top,htopv⟩:=gn ((s.drop (a+1)).take n);rw[htopv]at htop;have aFw:(top==[])=false:=by simpa using htop
     have aFx:top.isEmpty=false:=by simpa using htop
     by_cases hbl:b=s.length
     .have q5:(b:Int)=(s.length:Int):=by omega
      have hp:cT s=jT:=by
       unfold cT;rw[ha];simp only[c1,c2,yAO,yAM,hn,<-hb,RJ (yCS hbl.symm)];simp
      repeat(first
       |(refine Fr.i ?_;simp only[aM,yAT,yAU];try rfl)
       |(refine By.i ?_;(focus(simp(disch:=first|omega|(simp;done)|(simp;omega)) [wrap_i64,wrap_u64,h1,cP,entry,hs,ha,q1,q2,q3,hn,q4,hn0,e1,o8,e2,htopv,q5];first|done|rfl|exact⟨rfl,rfl⟩)))
       |(refine By.i ?_;simp(disch:=first|omega|(simp;done)|(simp;omega)) [wrap_i64,wrap_u64,h1,cP,entry,hs,ha,q1,q2,q3,hn,q4,hn0,e1,o8,e2,htopv,q5];refine⟨yw,rfl⟩)
       |(refine Wt.i ?_;first|rfl|(focus(simp[h1,cP,entry,hs,ha,q1,q2,q3,hn,q4,hn0,e1,o8,e2,htopv,q5];done)))
       |(refine Ns.i ?_;(try simp only[yAl,yAQ,yAR,yAi,yAa,yAK,yAL,yAp,Nat.reduceAdd]);rfl)|rfl
       |(apply SL.pass;(focus(refine Wt.i ?_;rfl)))|(apply tu;(focus rfl))|apply SL.move|apply SL.assign|apply SL.load|apply SL.gC|apply tu|apply SL.make|apply SL.binOp|apply SL.append
       |apply tu|apply SL.builtin|apply SL.fieldAddr|apply SL.indexAddr|apply SL.field|apply SL.extract|apply SL.gD|apply SL.pick|apply SL.store|apply SL.unOp|apply SL.convert|apply SL.index
       |apply SL.slice|apply SL.build|apply SL.nilCheck|apply SL.buildSlice|apply SL.box|apply SL.alloc|apply SL.makeFunc|apply SQ.nil|(apply WL.kN;(focus decide +kernel))
       |(apply WL.eI yq;(focus decide +kernel);(focus decide +kernel))|(apply WL.jP;(focus decide +kernel);(focus decide +kernel))|(apply WL.lC;(focus decide +kernel))
       |(apply WL.lA yq;(focus decide +kernel);(focus decide +kernel))|(apply WL.lB;(focus decide +kernel);(focus decide +kernel))
       |(apply WL.kZ yq;(focus decide +kernel);(focus decide +kernel))|(apply WL.kY yq;(focus decide +kernel);(focus decide +kernel))
       |(apply WL.lZ yq;(focus decide +kernel);(focus decide +kernel))|(apply tu yq;(focus decide +kernel);(focus decide +kernel))|apply tu|(apply WL.ct;(focus rfl))
       |(apply WL.cf;(focus rfl))|refine aS.normal ?_|refine aS.ret ?_|refine aS.exit ?_|refine aO.normal ?_|refine aO.ret ?_|refine aO.here ?_|refine aO.there yx ?_|refine Wp.block ?_
       |refine Wp.skip ?_|refine Wp.ret ?_|refine Wp.exit ?_|refine aL.ret ?_|refine aL.exit ?_|refine tu ?_|refine tu ?_|refine tu ?_|refine Wp.seq (Wp.seq ?_)
       |refine Wp.seq (Wp.block ?_)|(refine Wp.seq ?_;apply WL.ct;(focus rfl))|(refine Wp.seq ?_;apply WL.cf;(focus rfl)))
      exact ax
     .have hbt:b<s.length:=by omega
      have q5:¬(b:Int)=(s.length:Int):=ym;have hpb:=pV hbt
      by_cases c3:pk s b=47
      .have q6:(s[b].toNat:Int)=47:=by omega
       obtain⟨m,hm⟩:=gn (dV cB (s.drop (b+1)));have hml:=HA cB (s.drop (b+1));rw[hm,yBf]at hml;obtain⟨e,he⟩:∃e,e=b+1+m:=⟨_,rfl⟩;have e3:(b:Int)+1+(m:Int)=(e:Int):=ym;have e4:e-(b+1)=m:=ym
       by_cases hm0:m=0
       .have hp:cT s=jT:=by
         unfold cT;rw[ha];simp only[c1,c2,yAO,yAM,hn,<-hb,hm,hm0];simp
        repeat(first
         |(refine Fr.i ?_;simp only[aM,yAT,yAU];try rfl)
         |(refine By.i ?_;(focus(simp(disch:=first|omega|(simp;done)|(simp;omega)) [wrap_i64,wrap_u64,h1,cP,entry,hs,ha,q1,q2,q3,hn,q4,hn0,e1,o8,e2,htopv,q5,q6,hm,e3,hm0];first|done|rfl|exact⟨rfl,rfl⟩)))
         |(refine By.i ?_;simp(disch:=first|omega|(simp;done)|(simp;omega)) [wrap_i64,wrap_u64,h1,cP,entry,hs,ha,q1,q2,q3,hn,q4,hn0,e1,o8,e2,htopv,q5,q6,hm,e3,hm0];refine⟨yw,rfl⟩)
         |(refine Wt.i ?_;first|rfl|(focus(simp[h1,cP,entry,hs,ha,q1,q2,q3,hn,q4,hn0,e1,o8,e2,htopv,q5,q6,hm,e3,hm0];done)))
         |(refine Ns.i ?_;(try simp only[yAl,yAQ,yAR,yAi,yAa,yAK,yAL,yAp,Nat.reduceAdd]);rfl)|rfl
         |(apply SL.pass;(focus(refine Wt.i ?_;rfl)))|(apply tu;(focus rfl))|apply SL.move|apply SL.assign|apply SL.load|apply SL.gC|apply tu|apply SL.make|apply SL.binOp|apply SL.append
         |apply tu|apply SL.builtin|apply SL.fieldAddr|apply SL.indexAddr|apply SL.field|apply SL.extract|apply SL.gD|apply SL.pick|apply SL.store|apply SL.unOp|apply SL.convert|apply SL.index
         |apply SL.slice|apply SL.build|apply SL.nilCheck|apply SL.buildSlice|apply SL.box|apply SL.alloc|apply SL.makeFunc|apply SQ.nil|(apply WL.kN;(focus decide +kernel))
         |(apply WL.eI yq;(focus decide +kernel);(focus decide +kernel))|(apply WL.jP;(focus decide +kernel);(focus decide +kernel))|(apply WL.lC;(focus decide +kernel))
         |(apply WL.lA yq;(focus decide +kernel);(focus decide +kernel))|(apply WL.lB;(focus decide +kernel);(focus decide +kernel))
         |(apply WL.kZ yq;(focus decide +kernel);(focus decide +kernel))|(apply WL.kY yq;(focus decide +kernel);(focus decide +kernel))
         |(apply WL.lZ yq;(focus decide +kernel);(focus decide +kernel))|(apply tu yq;(focus decide +kernel);(focus decide +kernel))|apply tu|(apply WL.ct;(focus rfl))
         |(apply WL.cf;(focus rfl))|refine aS.normal ?_|refine aS.ret ?_|refine aS.exit ?_|refine aO.normal ?_|refine aO.ret ?_|refine aO.here ?_|refine aO.there yx ?_
         |refine Wp.block ?_|refine Wp.skip ?_|refine Wp.ret ?_|refine Wp.exit ?_|refine aL.ret ?_|refine aL.exit ?_|refine tu ?_|refine tu ?_|refine tu ?_|refine Wp.seq (Wp.seq ?_)
         |refine Wp.seq (Wp.block ?_)|(refine Wp.seq ?_;apply WL.ct;(focus rfl))|(refine Wp.seq ?_;apply WL.cf;(focus rfl)))
        exact ax
       .have q7:¬(m:Int)=0:=by omega
        by_cases hel:e=s.length
        .have q8:(e:Int)=(s.length:Int):=by omega
         have hp:cT s=jT:=by
          unfold cT;rw[ha];simp only[c1,c2,yAO,yAM,hn,<-hb,hm,<-he,RJ (yCS hel.symm)];simp
         repeat(first
          |(refine Fr.i ?_;simp only[aM,yAT,yAU];try rfl)
          |(refine By.i ?_;(focus(simp(disch:=first|omega|(simp;done)|(simp;omega)) [wrap_i64,wrap_u64,h1,cP,entry,hs,ha,q1,q2,q3,hn,q4,hn0,e1,o8,e2,htopv,q5,q6,hm,e3,q7,hm0,q8];first|done|rfl|exact⟨rfl,rfl⟩)))
          |(refine By.i ?_;simp(disch:=first|omega|(simp;done)|(simp;omega)) [wrap_i64,wrap_u64,h1,cP,entry,hs,ha,q1,q2,q3,hn,q4,hn0,e1,o8,e2,htopv,q5,q6,hm,e3,q7,hm0,q8];refine⟨yw,rfl⟩)
          |(refine Wt.i ?_;first|rfl|(focus(simp[h1,cP,entry,hs,ha,q1,q2,q3,hn,q4,hn0,e1,o8,e2,htopv,q5,q6,hm,e3,q7,hm0,q8];done)))
          |(refine Ns.i ?_;(try simp only[yAl,yAQ,yAR,yAi,yAa,yAK,yAL,yAp,Nat.reduceAdd]);rfl)|rfl
          |(apply SL.pass;(focus(refine Wt.i ?_;rfl)))|(apply tu;(focus rfl))|apply SL.move|apply SL.assign|apply SL.load|apply SL.gC|apply tu|apply SL.make|apply SL.binOp|apply SL.append
          |apply tu|apply SL.builtin|apply SL.fieldAddr|apply SL.indexAddr|apply SL.field|apply SL.extract|apply SL.gD|apply SL.pick|apply SL.store|apply SL.unOp|apply SL.convert|apply SL.index
          |apply SL.slice|apply SL.build|apply SL.nilCheck|apply SL.buildSlice|apply SL.box|apply SL.alloc|apply SL.makeFunc|apply SQ.nil|(apply WL.kN;(focus decide +kernel))
          |(apply WL.eI yq;(focus decide +kernel);(focus decide +kernel))|(apply WL.jP;(focus decide +kernel);(focus decide +kernel))|(apply WL.lC;(focus decide +kernel))
          |(apply WL.lA yq;(focus decide +kernel);(focus decide +kernel))|(apply WL.lB;(focus decide +kernel);(focus decide +kernel))
          |(apply WL.kZ yq;(focus decide +kernel);(focus decide +kernel))|(apply WL.kY yq;(focus decide +kernel);(focus decide +kernel))
          |(apply WL.lZ yq;(focus decide +kernel);(focus decide +kernel))|(apply tu yq;(focus decide +kernel);(focus decide +kernel))|apply tu|(apply WL.ct;(focus rfl))
          |(apply WL.cf;(focus rfl))|refine aS.normal ?_|refine aS.ret ?_|refine aS.exit ?_|refine aO.normal ?_|refine aO.ret ?_|refine aO.here ?_|refine aO.there yx ?_
          |refine Wp.block ?_|refine Wp.skip ?_|refine Wp.ret ?_|refine Wp.exit ?_|refine aL.ret ?_|refine aL.exit ?_|refine tu ?_|refine tu ?_|refine tu ?_|refine Wp.seq (Wp.seq ?_)
          |refine Wp.seq (Wp.block ?_)|(refine Wp.seq ?_;apply WL.ct;(focus rfl))|(refine Wp.seq ?_;apply WL.cf;(focus rfl)))
         exact ax
        .have hlt2:e<s.length:=by omega
         have q8:¬(e:Int)=(s.length:Int):=ym;have hpe:=pV hlt2
         by_cases c4:pk s e=39
         .have q9:(s[e].toNat:Int)=39:=by omega
          have hp:cT s=((s.take a,top,(s.drop (b+1)).take m),(e:Int)+1):=by
           unfold cT;rw[ha];simp only[c2,hn,<-hb,hm,<-he,htopv];rw[yAI ym,yAJ trivial,yAJ ⟨hn0,c3,hm0,c4⟩];rw[show(a:Int)+1+n+1+m+1=e+1 by omega]
          repeat(first
           |(refine Fr.i ?_;simp only[aM,yAT,yAU];try rfl)
           |(refine By.i ?_;(focus(simp(disch:=first|omega|(simp;done)|(simp;omega)) [wrap_i64,wrap_u64,h1,cP,entry,hs,ha,q1,q2,q3,hn,q4,hn0,e1,o8,e2,htopv,q5,q6,hm,e3,e4,q7,hm0,q8,q9,htop,aFw,aFx];first|done|rfl|exact⟨rfl,rfl⟩)))
           |(refine By.i ?_;simp(disch:=first|omega|(simp;done)|(simp;omega)) [wrap_i64,wrap_u64,h1,cP,entry,hs,ha,q1,q2,q3,hn,q4,hn0,e1,o8,e2,htopv,q5,q6,hm,e3,e4,q7,hm0,q8,q9,htop,aFw,aFx];refine⟨yw,rfl⟩)
           |(refine Wt.i ?_;first|rfl|(focus(simp[h1,cP,entry,hs,ha,q1,q2,q3,hn,q4,hn0,e1,o8,e2,htopv,q5,q6,hm,e3,e4,q7,hm0,q8,q9,htop,aFw,aFx];done)))
           |(refine Ns.i ?_;(try simp only[yAl,yAQ,yAR,yAi,yAa,yAK,yAL,yAp,Nat.reduceAdd]);rfl)|rfl
           |(apply SL.pass;(focus(refine Wt.i ?_;rfl)))|(apply tu;(focus rfl))|apply SL.move|apply SL.assign|apply SL.load|apply SL.gC|apply tu|apply SL.make|apply SL.binOp|apply SL.append
           |apply tu|apply SL.builtin|apply SL.fieldAddr|apply SL.indexAddr|apply SL.field|apply SL.extract|apply SL.gD|apply SL.pick|apply SL.store|apply SL.unOp|apply SL.convert|apply SL.index
           |apply SL.slice|apply SL.build|apply SL.nilCheck|apply SL.buildSlice|apply SL.box|apply SL.alloc|apply SL.makeFunc|apply SQ.nil|(apply WL.kN;(focus decide +kernel))
           |(apply WL.eI yq;(focus decide +kernel);(focus decide +kernel))|(apply WL.jP;(focus decide +kernel);(focus decide +kernel))|(apply WL.lC;(focus decide +kernel))
           |(apply WL.lA yq;(focus decide +kernel);(focus decide +kernel))|(apply WL.lB;(focus decide +kernel);(focus decide +kernel))
           |(apply WL.kZ yq;(focus decide +kernel);(focus decide +kernel))|(apply WL.kY yq;(focus decide +kernel);(focus decide +kernel))
           |(apply WL.lZ yq;(focus decide +kernel);(focus decide +kernel))|(apply tu yq;(focus decide +kernel);(focus decide +kernel))|apply tu|(apply WL.ct;(focus rfl))
           |(apply WL.cf;(focus rfl))|refine aS.normal ?_|refine aS.ret ?_|refine aS.exit ?_|refine aO.normal ?_|refine aO.ret ?_|refine aO.here ?_|refine aO.there yx ?_
           |refine Wp.block ?_|refine Wp.skip ?_|refine Wp.ret ?_|refine Wp.exit ?_|refine aL.ret ?_|refine aL.exit ?_|refine tu ?_|refine tu ?_|refine tu ?_
           |refine Wp.seq (Wp.seq ?_)|refine Wp.seq (Wp.block ?_)|(refine Wp.seq ?_;apply WL.ct;(focus rfl))|(refine Wp.seq ?_;apply WL.cf;(focus rfl)))
          exact sw
         .have q9:¬(s[e].toNat:Int)=39:=by omega
          have hp:cT s=jT:=by
           unfold cT;rw[ha];simp only[c1,c2,c4,yAO,yAM,hn,<-hb,hm,<-he];simp
          repeat(first
           |(refine Fr.i ?_;simp only[aM,yAT,yAU];try rfl)
           |(refine By.i ?_;(focus(simp(disch:=first|omega|(simp;done)|(simp;omega)) [wrap_i64,wrap_u64,h1,cP,entry,hs,ha,q1,q2,q3,hn,q4,hn0,e1,o8,e2,htopv,q5,q6,hm,e3,q7,hm0,q8,q9];first|done|rfl|exact⟨rfl,rfl⟩)))
           |(refine By.i ?_;simp(disch:=first|omega|(simp;done)|(simp;omega)) [wrap_i64,wrap_u64,h1,cP,entry,hs,ha,q1,q2,q3,hn,q4,hn0,e1,o8,e2,htopv,q5,q6,hm,e3,q7,hm0,q8,q9];refine⟨yw,rfl⟩)
           |(refine Wt.i ?_;first|rfl|(focus(simp[h1,cP,entry,hs,ha,q1,q2,q3,hn,q4,hn0,e1,o8,e2,htopv,q5,q6,hm,e3,q7,hm0,q8,q9];done)))
           |(refine Ns.i ?_;(try simp only[yAl,yAQ,yAR,yAi,yAa,yAK,yAL,yAp,Nat.reduceAdd]);rfl)|rfl
           |(apply SL.pass;(focus(refine Wt.i ?_;rfl)))|(apply tu;(focus rfl))|apply SL.move|apply SL.assign|apply SL.load|apply SL.gC|apply tu|apply SL.make|apply SL.binOp|apply SL.append
           |apply tu|apply SL.builtin|apply SL.fieldAddr|apply SL.indexAddr|apply SL.field|apply SL.extract|apply SL.gD|apply SL.pick|apply SL.store|apply SL.unOp|apply SL.convert|apply SL.index
           |apply SL.slice|apply SL.build|apply SL.nilCheck|apply SL.buildSlice|apply SL.box|apply SL.alloc|apply SL.makeFunc|apply SQ.nil|(apply WL.kN;(focus decide +kernel))
           |(apply WL.eI yq;(focus decide +kernel);(focus decide +kernel))|(apply WL.jP;(focus decide +kernel);(focus decide +kernel))|(apply WL.lC;(focus decide +kernel))
           |(apply WL.lA yq;(focus decide +kernel);(focus decide +kernel))|(apply WL.lB;(focus decide +kernel);(focus decide +kernel))
           |(apply WL.kZ yq;(focus decide +kernel);(focus decide +kernel))|(apply WL.kY yq;(focus decide +kernel);(focus decide +kernel))
           |(apply WL.lZ yq;(focus decide +kernel);(focus decide +kernel))|(apply tu yq;(focus decide +kernel);(focus decide +kernel))|apply tu|(apply WL.ct;(focus rfl))
           |(apply WL.cf;(focus rfl))|refine aS.normal ?_|refine aS.ret ?_|refine aS.exit ?_|refine aO.normal ?_|refine aO.ret ?_|refine aO.here ?_|refine aO.there yx ?_
           |refine Wp.block ?_|refine Wp.skip ?_|refine Wp.ret ?_|refine Wp.exit ?_|refine aL.ret ?_|refine aL.exit ?_|refine tu ?_|refine tu ?_|refine tu ?_
           |refine Wp.seq (Wp.seq ?_)|refine Wp.seq (Wp.block ?_)|(refine Wp.seq ?_;apply WL.ct;(focus rfl))|(refine Wp.seq ?_;apply WL.cf;(focus rfl)))
          exact ax
      .have q6:¬(s[b].toNat:Int)=47:=by omega
       have hp:cT s=jT:=by
        unfold cT;rw[ha];simp only[c1,c2,yAO,yAM,hn,<-hb,c3];simp
       repeat(first
        |(refine Fr.i ?_;simp only[aM,yAT,yAU];try rfl)
        |(refine By.i ?_;(focus(simp(disch:=first|omega|(simp;done)|(simp;omega)) [wrap_i64,wrap_u64,h1,cP,entry,hs,ha,q1,q2,q3,hn,q4,hn0,e1,o8,e2,htopv,q5,q6];first|done|rfl|exact⟨rfl,rfl⟩)))
        |(refine By.i ?_;simp(disch:=first|omega|(simp;done)|(simp;omega)) [wrap_i64,wrap_u64,h1,cP,entry,hs,ha,q1,q2,q3,hn,q4,hn0,e1,o8,e2,htopv,q5,q6];refine⟨yw,rfl⟩)
        |(refine Wt.i ?_;first|rfl|(focus(simp[h1,cP,entry,hs,ha,q1,q2,q3,hn,q4,hn0,e1,o8,e2,htopv,q5,q6];done)))
        |(refine Ns.i ?_;(try simp only[yAl,yAQ,yAR,yAi,yAa,yAK,yAL,yAp,Nat.reduceAdd]);rfl)|rfl
        |(apply SL.pass;(focus(refine Wt.i ?_;rfl)))|(apply tu;(focus rfl))|apply SL.move|apply SL.assign|apply SL.load|apply SL.gC|apply tu|apply SL.make|apply SL.binOp|apply SL.append
        |apply tu|apply SL.builtin|apply SL.fieldAddr|apply SL.indexAddr|apply SL.field|apply SL.extract|apply SL.gD|apply SL.pick|apply SL.store|apply SL.unOp|apply SL.convert|apply SL.index
        |apply SL.slice|apply SL.build|apply SL.nilCheck|apply SL.buildSlice|apply SL.box|apply SL.alloc|apply SL.makeFunc|apply SQ.nil|(apply WL.kN;(focus decide +kernel))
        |(apply WL.eI yq;(focus decide +kernel);(focus decide +kernel))|(apply WL.jP;(focus decide +kernel);(focus decide +kernel))|(apply WL.lC;(focus decide +kernel))
        |(apply WL.lA yq;(focus decide +kernel);(focus decide +kernel))|(apply WL.lB;(focus decide +kernel);(focus decide +kernel))
        |(apply WL.kZ yq;(focus decide +kernel);(focus decide +kernel))|(apply WL.kY yq;(focus decide +kernel);(focus decide +kernel))
        |(apply WL.lZ yq;(focus decide +kernel);(focus decide +kernel))|(apply tu yq;(focus decide +kernel);(focus decide +kernel))|apply tu|(apply WL.ct;(focus rfl))
        |(apply WL.cf;(focus rfl))|refine aS.normal ?_|refine aS.ret ?_|refine aS.exit ?_|refine aO.normal ?_|refine aO.ret ?_|refine aO.here ?_|refine aO.there yx ?_|refine Wp.block ?_
        |refine Wp.skip ?_|refine Wp.ret ?_|refine Wp.exit ?_|refine aL.ret ?_|refine aL.exit ?_|refine tu ?_|refine tu ?_|refine tu ?_|refine Wp.seq (Wp.seq ?_)
        |refine Wp.seq (Wp.block ?_)|(refine Wp.seq ?_;apply WL.ct;(focus rfl))|(refine Wp.seq ?_;apply WL.cf;(focus rfl)))
       exact ax
   .have q3:¬(s[a].toNat:Int)=45:=by omega
    by_cases c3:pk s a=47
    .have q6:(s[a].toNat:Int)=47:=by omega
     obtain⟨m,hm⟩:=gn (dV cB (s.drop (a+1)));have hml:=HA cB (s.drop (a+1));rw[hm,yBf]at hml;obtain⟨e,he⟩:∃e,e=a+1+m:=⟨_,rfl⟩;have e3:(a:Int)+1+(m:Int)=(e:Int):=ym;have e4:e-(a+1)=m:=ym
     by_cases hm0:m=0
     .have hp:cT s=jT:=by
       unfold cT;rw[ha];simp only[c1,c2,c3,yAO,yAM,hm,hm0];simp
      repeat(first
       |(refine Fr.i ?_;simp only[aM,yAT,yAU];try rfl)
       |(refine By.i ?_;(focus(simp(disch:=first|omega|(simp;done)|(simp;omega)) [wrap_i64,wrap_u64,h1,cP,entry,hs,ha,q1,q2,q3,q6,hm,e3,hm0];first|done|rfl|exact⟨rfl,rfl⟩)))
       |(refine By.i ?_;simp(disch:=first|omega|(simp;done)|(simp;omega)) [wrap_i64,wrap_u64,h1,cP,entry,hs,ha,q1,q2,q3,q6,hm,e3,hm0];refine⟨yw,rfl⟩)
       |(refine Wt.i ?_;first|rfl|(focus(simp[h1,cP,entry,hs,ha,q1,q2,q3,q6,hm,e3,hm0];done)))
       |(refine Ns.i ?_;(try simp only[yAl,yAQ,yAR,yAi,yAa,yAK,yAL,yAp,Nat.reduceAdd]);rfl)|rfl
       |(apply SL.pass;(focus(refine Wt.i ?_;rfl)))|(apply tu;(focus rfl))|apply SL.move|apply SL.assign|apply SL.load|apply SL.gC|apply tu|apply SL.make|apply SL.binOp|apply SL.append
       |apply tu|apply SL.builtin|apply SL.fieldAddr|apply SL.indexAddr|apply SL.field|apply SL.extract|apply SL.gD|apply SL.pick|apply SL.store|apply SL.unOp|apply SL.convert|apply SL.index
       |apply SL.slice|apply SL.build|apply SL.nilCheck|apply SL.buildSlice|apply SL.box|apply SL.alloc|apply SL.makeFunc|apply SQ.nil|(apply WL.kN;(focus decide +kernel))
       |(apply WL.eI yq;(focus decide +kernel);(focus decide +kernel))|(apply WL.jP;(focus decide +kernel);(focus decide +kernel))|(apply WL.lC;(focus decide +kernel))
       |(apply WL.lA yq;(focus decide +kernel);(focus decide +kernel))|(apply WL.lB;(focus decide +kernel);(focus decide +kernel))
       |(apply WL.kZ yq;(focus decide +kernel);(focus decide +kernel))|(apply WL.kY yq;(focus decide +kernel);(focus decide +kernel))
       |(apply WL.lZ yq;(focus decide +kernel);(focus decide +kernel))|(apply tu yq;(focus decide +kernel);(focus decide +kernel))|apply tu|(apply WL.ct;(focus rfl))
       |(apply WL.cf;(focus rfl))|refine aS.normal ?_|refine aS.ret ?_|refine aS.exit ?_|refine aO.normal ?_|refine aO.ret ?_|refine aO.here ?_|refine aO.there yx ?_|refine Wp.block ?_
       |refine Wp.skip ?_|refine Wp.ret ?_|refine Wp.exit ?_|refine aL.ret ?_|refine aL.exit ?_|refine tu ?_|refine tu ?_|refine tu ?_|refine Wp.seq (Wp.seq ?_)
       |refine Wp.seq (Wp.block ?_)|(refine Wp.seq ?_;apply WL.ct;(focus rfl))|(refine Wp.seq ?_;apply WL.cf;(focus rfl)))
      exact ax
     .have q7:¬(m:Int)=0:=by omega
      by_cases hel:e=s.length
      .have q8:(e:Int)=(s.length:Int):=by omega
       have hp:cT s=jT:=by
        unfold cT;rw[ha];simp only[c1,c2,c3,yAO,yAM,hm,<-he,RJ (yCS hel.symm)];simp
       repeat(first
        |(refine Fr.i ?_;simp only[aM,yAT,yAU];try rfl)
        |(refine By.i ?_;(focus(simp(disch:=first|omega|(simp;done)|(simp;omega)) [wrap_i64,wrap_u64,h1,cP,entry,hs,ha,q1,q2,q3,q6,hm,e3,q7,hm0,q8];first|done|rfl|exact⟨rfl,rfl⟩)))
        |(refine By.i ?_;simp(disch:=first|omega|(simp;done)|(simp;omega)) [wrap_i64,wrap_u64,h1,cP,entry,hs,ha,q1,q2,q3,q6,hm,e3,q7,hm0,q8];refine⟨yw,rfl⟩)
        |(refine Wt.i ?_;first|rfl|(focus(simp[h1,cP,entry,hs,ha,q1,q2,q3,q6,hm,e3,q7,hm0,q8];done)))
        |(refine Ns.i ?_;(try simp only[yAl,yAQ,yAR,yAi,yAa,yAK,yAL,yAp,Nat.reduceAdd]);rfl)|rfl
        |(apply SL.pass;(focus(refine Wt.i ?_;rfl)))|(apply tu;(focus rfl))|apply SL.move|apply SL.assign|apply SL.load|apply SL.gC|apply tu|apply SL.make|apply SL.binOp|apply SL.append
        |apply tu|apply SL.builtin|apply SL.fieldAddr|apply SL.indexAddr|apply SL.field|apply SL.extract|apply SL.gD|apply SL.pick|apply SL.store|apply SL.unOp|apply SL.convert|apply SL.index
        |apply SL.slice|apply SL.build|apply SL.nilCheck|apply SL.buildSlice|apply SL.box|apply SL.alloc|apply SL.makeFunc|apply SQ.nil|(apply WL.kN;(focus decide +kernel))
        |(apply WL.eI yq;(focus decide +kernel);(focus decide +kernel))|(apply WL.jP;(focus decide +kernel);(focus decide +kernel))|(apply WL.lC;(focus decide +kernel))
        |(apply WL.lA yq;(focus decide +kernel);(focus decide +kernel))|(apply WL.lB;(focus decide +kernel);(focus decide +kernel))
        |(apply WL.kZ yq;(focus decide +kernel);(focus decide +kernel))|(apply WL.kY yq;(focus decide +kernel);(focus decide +kernel))
        |(apply WL.lZ yq;(focus decide +kernel);(focus decide +kernel))|(apply tu yq;(focus decide +kernel);(focus decide +kernel))|apply tu|(apply WL.ct;(focus rfl))
        |(apply WL.cf;(focus rfl))|refine aS.normal ?_|refine aS.ret ?_|refine aS.exit ?_|refine aO.normal ?_|refine aO.ret ?_|refine aO.here ?_|refine aO.there yx ?_|refine Wp.block ?_
        |refine Wp.skip ?_|refine Wp.ret ?_|refine Wp.exit ?_|refine aL.ret ?_|refine aL.exit ?_|refine tu ?_|refine tu ?_|refine tu ?_|refine Wp.seq (Wp.seq ?_)
        |refine Wp.seq (Wp.block ?_)|(refine Wp.seq ?_;apply WL.ct;(focus rfl))|(refine Wp.seq ?_;apply WL.cf;(focus rfl)))
       exact ax
      .have hlt2:e<s.length:=by omega
       have q8:¬(e:Int)=(s.length:Int):=ym;have hpe:=pV hlt2
       by_cases c4:pk s e=39
       .have q9:(s[e].toNat:Int)=39:=by omega
        have hp:cT s=(([],s.take a,(s.drop (a+1)).take m),(e:Int)+1):=by
         unfold cT;rw[ha];simp only[c3,hm,<-he];rw[yAI ym,yAI ym,yAJ trivial,yAJ ⟨hm0,c4⟩];rw[show(a:Int)+1+m+1=e+1 by omega]
        repeat(first
         |(refine Fr.i ?_;simp only[aM,yAT,yAU];try rfl)
         |(refine By.i ?_;(focus(simp(disch:=first|omega|(simp;done)|(simp;omega)) [wrap_i64,wrap_u64,h1,cP,entry,hs,ha,q1,q2,q3,q6,hm,e3,e4,q7,hm0,q8,q9];first|done|rfl|exact⟨rfl,rfl⟩)))
         |(refine By.i ?_;simp(disch:=first|omega|(simp;done)|(simp;omega)) [wrap_i64,wrap_u64,h1,cP,entry,hs,ha,q1,q2,q3,q6,hm,e3,e4,q7,hm0,q8,q9];refine⟨yw,rfl⟩)
         |(refine Wt.i ?_;first|rfl|(focus(simp[h1,cP,entry,hs,ha,q1,q2,q3,q6,hm,e3,e4,q7,hm0,q8,q9];done)))
         |(refine Ns.i ?_;(try simp only[yAl,yAQ,yAR,yAi,yAa,yAK,yAL,yAp,Nat.reduceAdd]);rfl)|rfl
         |(apply SL.pass;(focus(refine Wt.i ?_;rfl)))|(apply tu;(focus rfl))|apply SL.move|apply SL.assign|apply SL.load|apply SL.gC|apply tu|apply SL.make|apply SL.binOp|apply SL.append
         |apply tu|apply SL.builtin|apply SL.fieldAddr|apply SL.indexAddr|apply SL.field|apply SL.extract|apply SL.gD|apply SL.pick|apply SL.store|apply SL.unOp|apply SL.convert|apply SL.index
         |apply SL.slice|apply SL.build|apply SL.nilCheck|apply SL.buildSlice|apply SL.box|apply SL.alloc|apply SL.makeFunc|apply SQ.nil|(apply WL.kN;(focus decide +kernel))
         |(apply WL.eI yq;(focus decide +kernel);(focus decide +kernel))|(apply WL.jP;(focus decide +kernel);(focus decide +kernel))|(apply WL.lC;(focus decide +kernel))
         |(apply WL.lA yq;(focus decide +kernel);(focus decide +kernel))|(apply WL.lB;(focus decide +kernel);(focus decide +kernel))
         |(apply WL.kZ yq;(focus decide +kernel);(focus decide +kernel))|(apply WL.kY yq;(focus decide +kernel);(focus decide +kernel))
         |(apply WL.lZ yq;(focus decide +kernel);(focus decide +kernel))|(apply tu yq;(focus decide +kernel);(focus decide +kernel))|apply tu|(apply WL.ct;(focus rfl))
         |(apply WL.cf;(focus rfl))|refine aS.normal ?_|refine aS.ret ?_|refine aS.exit ?_|refine aO.normal ?_|refine aO.ret ?_|refine aO.here ?_|refine aO.there yx ?_
         |refine Wp.block ?_|refine Wp.skip ?_|refine Wp.ret ?_|refine Wp.exit ?_|refine aL.ret ?_|refine aL.exit ?_|refine tu ?_|refine tu ?_|refine tu ?_|refine Wp.seq (Wp.seq ?_)
         |refine Wp.seq (Wp.block ?_)|(refine Wp.seq ?_;apply WL.ct;(focus rfl))|(refine Wp.seq ?_;apply WL.cf;(focus rfl)))
        exact sw
       .have q9:¬(s[e].toNat:Int)=39:=by omega
        have hp:cT s=jT:=by
         unfold cT;rw[ha];simp only[c1,c2,c3,c4,yAO,yAM,hm,<-he];simp
        repeat(first
         |(refine Fr.i ?_;simp only[aM,yAT,yAU];try rfl)
         |(refine By.i ?_;(focus(simp(disch:=first|omega|(simp;done)|(simp;omega)) [wrap_i64,wrap_u64,h1,cP,entry,hs,ha,q1,q2,q3,q6,hm,e3,q7,hm0,q8,q9];first|done|rfl|exact⟨rfl,rfl⟩)))
         |(refine By.i ?_;simp(disch:=first|omega|(simp;done)|(simp;omega)) [wrap_i64,wrap_u64,h1,cP,entry,hs,ha,q1,q2,q3,q6,hm,e3,q7,hm0,q8,q9];refine⟨yw,rfl⟩)
         |(refine Wt.i ?_;first|rfl|(focus(simp[h1,cP,entry,hs,ha,q1,q2,q3,q6,hm,e3,q7,hm0,q8,q9];done)))
         |(refine Ns.i ?_;(try simp only[yAl,yAQ,yAR,yAi,yAa,yAK,yAL,yAp,Nat.reduceAdd]);rfl)|rfl
         |(apply SL.pass;(focus(refine Wt.i ?_;rfl)))|(apply tu;(focus rfl))|apply SL.move|apply SL.assign|apply SL.load|apply SL.gC|apply tu|apply SL.make|apply SL.binOp|apply SL.append
         |apply tu|apply SL.builtin|apply SL.fieldAddr|apply SL.indexAddr|apply SL.field|apply SL.extract|apply SL.gD|apply SL.pick|apply SL.store|apply SL.unOp|apply SL.convert|apply SL.index
         |apply SL.slice|apply SL.build|apply SL.nilCheck|apply SL.buildSlice|apply SL.box|apply SL.alloc|apply SL.makeFunc|apply SQ.nil|(apply WL.kN;(focus decide +kernel))
         |(apply WL.eI yq;(focus decide +kernel);(focus decide +kernel))|(apply WL.jP;(focus decide +kernel);(focus decide +kernel))|(apply WL.lC;(focus decide +kernel))
         |(apply WL.lA yq;(focus decide +kernel);(focus decide +kernel))|(apply WL.lB;(focus decide +kernel);(focus decide +kernel))
         |(apply WL.kZ yq;(focus decide +kernel);(focus decide +kernel))|(apply WL.kY yq;(focus decide +kernel);(focus decide +kernel))
         |(apply WL.lZ yq;(focus decide +kernel);(focus decide +kernel))|(apply tu yq;(focus decide +kernel);(focus decide +kernel))|apply tu|(apply WL.ct;(focus rfl))
         |(apply WL.cf;(focus rfl))|refine aS.normal ?_|refine aS.ret ?_|refine aS.exit ?_|refine aO.normal ?_|refine aO.ret ?_|refine aO.here ?_|refine aO.there yx ?_
         |refine Wp.block ?_|refine Wp.skip ?_|refine Wp.ret ?_|refine Wp.exit ?_|refine aL.ret ?_|refine aL.exit ?_|refine tu ?_|refine tu ?_|refine tu ?_|refine Wp.seq (Wp.seq ?_)
         |refine Wp.seq (Wp.block ?_)|(refine Wp.seq ?_;apply WL.ct;(focus rfl))|(refine Wp.seq ?_;apply WL.cf;(focus rfl)))
        exact ax
    .have q6:¬(s[a].toNat:Int)=47:=by omega
     have hp:cT s=jT:=by
      unfold cT;rw[ha];simp only[c1,c2,c3,yAO]
     repeat(first
      |(refine Fr.i ?_;simp only[aM,yAT,yAU];try rfl)
      |(refine By.i ?_;(focus(simp(disch:=first|omega|(simp;done)|(simp;omega)) [wrap_i64,wrap_u64,h1,cP,entry,hs,ha,q1,q2,q3,q6];first|done|rfl|exact⟨rfl,rfl⟩)))
      |(refine By.i ?_;simp(disch:=first|omega|(simp;done)|(simp;omega)) [wrap_i64,wrap_u64,h1,cP,entry,hs,ha,q1,q2,q3,q6];refine⟨yw,rfl⟩)
      |(refine Wt.i ?_;first|rfl|(focus(simp[h1,cP,entry,hs,ha,q1,q2,q3,q6];done)))
      |(refine Ns.i ?_;(try simp only[yAl,yAQ,yAR,yAi,yAa,yAK,yAL,yAp,Nat.reduceAdd]);rfl)|rfl
      |(apply SL.pass;(focus(refine Wt.i ?_;rfl)))|(apply tu;(focus rfl))|apply SL.move|apply SL.assign|apply SL.load|apply SL.gC|apply tu|apply SL.make|apply SL.binOp|apply SL.append
      |apply tu|apply SL.builtin|apply SL.fieldAddr|apply SL.indexAddr|apply SL.field|apply SL.extract|apply SL.gD|apply SL.pick|apply SL.store|apply SL.unOp|apply SL.convert|apply SL.index|apply SL.slice
      |apply SL.build|apply SL.nilCheck|apply SL.buildSlice|apply SL.box|apply SL.alloc|apply SL.makeFunc|apply SQ.nil|(apply WL.kN;(focus decide +kernel))
      |(apply WL.eI yq;(focus decide +kernel);(focus decide +kernel))|(apply WL.jP;(focus decide +kernel);(focus decide +kernel))|(apply WL.lC;(focus decide +kernel))
      |(apply WL.lA yq;(focus decide +kernel);(focus decide +kernel))|(apply WL.lB;(focus decide +kernel);(focus decide +kernel))
      |(apply WL.kZ yq;(focus decide +kernel);(focus decide +kernel))|(apply WL.kY yq;(focus decide +kernel);(focus decide +kernel))
      |(apply WL.lZ yq;(focus decide +kernel);(focus decide +kernel))|(apply tu yq;(focus decide +kernel);(focus decide +kernel))|apply tu|(apply WL.ct;(focus rfl))
      |(apply WL.cf;(focus rfl))|refine aS.normal ?_|refine aS.ret ?_|refine aS.exit ?_|refine aO.normal ?_|refine aO.ret ?_|refine aO.here ?_|refine aO.there yx ?_|refine Wp.block ?_
      |refine Wp.skip ?_|refine Wp.ret ?_|refine Wp.exit ?_|refine aL.ret ?_|refine aL.exit ?_|refine tu ?_|refine tu ?_|refine tu ?_|refine Wp.seq (Wp.seq ?_)|refine Wp.seq (Wp.block ?_)
      |(refine Wp.seq ?_;apply WL.ct;(focus rfl))|(refine Wp.seq ?_;apply WL.cf;(focus rfl)))
     exact ax
end
section
abbrev u64:Em Int:=Em.int .u64
abbrev KG:=Int×Int
def bJ.pU:bJ KG:=(bJ.one i64).pair (.one i64)
def Em.pU:Em KG:=.agg .pU
@[simp] theorem aK4{p:KG}:Em.pU.aA p=.agg [.int .i64 p.1,.int .i64 p.2]:=rfl
def j8(n d:Nat):KG×Int:=if 1000000<n/n.gcd d\/1000000<d/n.gcd d then((0,0),4)else(((n/n.gcd d:Nat),(d/n.gcd d:Nat)),0)
variable{E:aE}(hU:aG E)
include hU
set_option maxRecDepth 10000
theorem aUo(h0:E 37=none)(n:Int)(hn:0<=n)(hn2:n<=9223372036854775807):aJ prog E 37 [i64.aA n] (u64.aA n):=by
 refine aJ.aV 10 h0 func37 (h:=?_);have h1:¬n<0:=ym;refine aD h1 ?_;exact aa
theorem aUp(h0:E 36=none)(a b:Nat)(ha:(a:Int)<=9223372036854775807)(hb:(b:Int)<=9223372036854775807):aJ prog E 36 [.int .u64 a,.int .u64 b] (.int .u64 (a.gcd b)):=by
 refine aJ.aV 12 h0 func36 (h:=?_);refine aD trivial ?_;refine Wp.dK (λm fr σ=>∃(x y:Nat),∃gg:Nat->PD,(m=y/\x.gcd y=a.gcd b/\(x:Int)<=9223372036854775807/\(y:Int)<=9223372036854775807)/\fr=[.int .u64 x,.int .u64 y,gg 2,gg 3,gg 4,gg 5,gg 6,gg 7,gg 8,gg 9,gg 10,gg 11]/\σ=[]) ?_ (b) (by refine⟨a,b,?_⟩;exact bV (⟨rfl,rfl,ha,hb⟩))
 rintro m fr σ ⟨x,y,gg,hI,rfl,rfl⟩
 obtain⟨hm,hg,hx,hy⟩:=hI
 by_cases h1:y=0
 .have q1:¬0<(y:Int):=by omega
  have q2:¬0<y:=ym;subst h1;rw[Nat.gcd_zero_right]at hg;refine aD (A2 q1 q2) ?_;simp(disch:=first|omega|(simp;done)|(simp;omega)) [yAu,hg]<;>try rfl
 .have q1:0<(y:Int):=by omega
  have q2:0<y:=ym;have hlt:=yBj x q2;have hr:(x:Int)%(y:Int)=((x%y:Nat):Int):=ym;have hr2:(x:Int).tmod (y:Int)=((x%y:Nat):Int):=by rw[yCT ym];exact hr
  obtain⟨z,hz⟩:=gn (x%y);have hgn:y.gcd z=a.gcd b:=by rw[<-hz,<-hg,yDm x y,Nat.gcd_rec y x,yDm]
  rw[hz]at hr hr2 hlt;refine aD (A5 q1 q2 h1 hr hr2) ?_;refine aL.normal (z) ym (by refine⟨y,z,?_⟩;exact bV (⟨rfl,hgn,hy,ym⟩))
theorem aUq(h0:E 121=none)(h1:E 37=some (entry (aY i64 u64 λn=>bE (0<=n/\n<=9223372036854775807) (some n))))
  (h2:E 36=some (entry (cU u64 u64 u64 λa b=>bE (0<=a/\a<=9223372036854775807/\0<=b/\b<=9223372036854775807) (some (a.toNat.gcd b.toNat:Nat)))))
  (n d:Nat) (hn:(n:Int)<=9000000000000000000) (hd:(d:Int)<=9000000000000000000) (vF:d≠0):aJ prog E 121 [.int .i64 n,.int .i64 d] ((Em.pU.iH i64).aA (j8 n d)):=by
 refine aJ.aV 48 h0 func121 (h:=?_);have q0:¬(d:Int)=0:=ym;obtain⟨g,hg⟩:=gn (n.gcd d);have Y0:g≠0:=by
  rw[<-hg];intro h;exact vF (yDX h)
 have hgi:¬(g:Int)=0:=ym;obtain⟨x,hx⟩:=gn (n/g);obtain⟨y,hy⟩:=gn (d/g);have hxl:x<=n:=by rw[<-hx];exact yCU _ _
 have hyl:y<=d:=by rw[<-hy];exact yCU _ _
 have hxi:(n:Int)/(g:Int)=(x:Int):=by rw[<-hx];rfl
 have hyi:(d:Int)/(g:Int)=(y:Int):=by rw[<-hy];rfl
 have n1:¬(n:Int)<0:=ym;have n2:¬(d:Int)<0:=ym
 by_cases c1:1000000<x
 .have e1:1000000<(x:Int):=by omega
  have hm:j8 n d=((0,0),4):=by
   unfold j8;rw[hg,hx,yAJ (.inl c1)]
  refine aD (A11 h1 h2 q0 vF hg Y0 hgi hxi hyi e1 c1) ?_;exact jw
 .have e1:¬1000000<(x:Int):=by omega
  by_cases c2:1000000<y
  .have e2:1000000<(y:Int):=by omega
   have hm:j8 n d=((0,0),4):=by
    unfold j8;rw[hg,hx,hy,yAJ (.inr c2)]
   refine aD (A13 h1 h2 q0 vF hg Y0 hgi hxi hyi e1 c1 e2 c2) ?_;exact jw
  .have e2:¬1000000<(y:Int):=by omega
   have hm:j8 n d=(((x:Int),(y:Int)),0):=by
    unfold j8;rw[hg,hx,hy,yAI ym]
   refine aD (A15 h1 h2 q0 vF hg Y0 hgi hxi hyi e1 c1 e2 c2 n1 n2) ?_;exact jw
end
section
structure Tk where
 kind:Int
 text:Dr
 num:Int
 bB:KG
 line:Int
 cA:Int
 deriving DecidableEq
def bJ.tk:bJ Tk:=((bJ.one i64).pair ((bJ.one .text).pair ((bJ.one i64).pair (.pair .pU ((bJ.one i64).pair (.one i64)))))).nQ (λt=>(t.kind,t.text,t.num,t.bB,t.line,t.cA)) (λx y h=>zg)
def Em.tk:Em Tk:=.agg .tk
@[simp] theorem KP{t:Tk}:Em.tk.aA t=.agg [.int .i64 t.kind,.str t.text,.int .i64 t.num,.int .i64 t.bB.1,.int .i64 t.bB.2,.int .i64 t.line,.int .i64 t.cA]:=rfl
def bL:Tk:=⟨0,[],0,(0,0),0,0⟩
def wv(l:List UInt8)(d:Nat):Nat:=if l=[]then d else fN l
def rC(l:List UInt8):Prop:=l=[]\/fN l<=1000000
instance (l:List UInt8):Decidable (rC l):=by unfold rC;infer_instance
def iI(a b:Nat):List UInt8:=
 if a%b=0 then Lib.itoa ((a/b:Nat):Int)else if a/b=0 then Lib.itoa ((a%b:Nat):Int)++[47]++Lib.itoa (b:Int)else Lib.itoa ((a/b:Nat):Int)++[45]++(Lib.itoa ((a%b:Nat):Int)++[47]++Lib.itoa (b:Int))
def iS(p:G9):Tk×Int:=
 if ¬(rC p.1/\rC p.2.1/\rC p.2.2)\/wv p.2.2 1=0 then(bL,2)else
 if (j8 (wv p.1 0*wv p.2.2 1+wv p.2.1 0) (wv p.2.2 1)).2≠0 then(bL,2)else
  (⟨3,iI (j8 (wv p.1 0*wv p.2.2 1+wv p.2.1 0) (wv p.2.2 1)).1.1.toNat (j8 (wv p.1 0*wv p.2.2 1+wv p.2.1 0) (wv p.2.2 1)).1.2.toNat++[39],0,(j8 (wv p.1 0*wv p.2.2 1+wv p.2.1 0) (wv p.2.2 1)).1,0,0⟩,0)
theorem aY8(u:Nat):(Lib.decDigits u).length<=u+1:=by
 induction u using Nat.strongRecOn with
 |ind u ih=>
  rw[Lib.decDigits];split
  .simp
  .rename_i h;have:=ih (u/10) ym;rw[yAa,yBh];omega
theorem HM(n:Nat):(Lib.itoa (n:Int)).length<=n+1:=by
 unfold Lib.itoa;rw[yAI ym,yBk];exact aY8 n
theorem aG1{l:Dr}{d:Nat}(h:rC l)(hd:d<=1000000):wv l d<=1000000:=by
 unfold wv;split
 .exact hd
 .rename_i hl;exact h.resolve_left hl
theorem aY9{n d:Nat}(hd:d≠0):j8 n d=((0,0),4)\/∃x y:Nat,j8 n d=(((x:Int),(y:Int)),0)/\y≠0/\x<=1000000/\y<=1000000:=by
 unfold j8;split
 .exact .inl rfl
 .rename_i h;have hg:n.gcd d≠0:=λe=>hd (yDX e)
  have hle:n.gcd d<=d:=Nat.gcd_le_right _ ym;have:=Nat.div_pos hle ym;exact .inr ⟨_,_,rfl,ym,ym,ym⟩
def jK(s:List UInt8):Tk×Int:=
 let v:=fN (Lib.trimPrefix s [45])
 if 1000000000<v then(bL,2)else
 let n:Int:=if pk s 0=45 then -(v:Int)else v
 (⟨2,Lib.itoa n,n,(0,0),0,0⟩,0)
variable{E:aE}(hU:aG E)
include hU
set_option maxRecDepth 10000
theorem aYX(h0:E 81=none)(h1:E 122=some (entry (cU .text .text .text λs t=>some (Lib.trimPrefix s t))))
  (h2:E 120=some (entry (cU .text i64 (i64.iH .bool) λs m=>bE (gE s/\0<=m/\m<=2000000000/\(s.length:Int)<4000000000) (some (lG s m)))))
  (h3:E 40=some (entry (aY i64 .text λn=>bE (-9223372036854775808<=n/\n<=9223372036854775807) (some (Lib.itoa n)))))
  (s:List UInt8) (hs:0<s.length) (hd:gE (Lib.trimPrefix s [45])) (hl:(s.length:Int)<4000000000):aJ prog E 81 [.str s] ((Em.tk.iH i64).aA (jK s)):=by
 have s6:((Lib.trimPrefix s [45]).length:Int)<4000000000:=by
  have:(Lib.trimPrefix s [45]).length<=s.length:=by
   unfold Lib.trimPrefix;split
   .rw[yBf];omega
   .exact yAk _
  omega
 obtain⟨t,ht⟩:=gn (Lib.trimPrefix s [45]);rw[ht]at hd s6;have hpk:=pV hs;refine aJ.aV 24 h0 func81 (h:=?_)
 by_cases hv:1000000000<fN t
 .have hP:lG t 1000000000=(0,false):=by
   exact jr
  have hn:jK s=(bL,2):=by
   unfold jK;rw[ht];simp only[hv,yAM]
  refine aD (A6 h1 h2 ht hd s6 hP) ?_;simp(disch:=first|omega|(simp;done)|(simp;omega)) [yAu,hn,bL]<;>try rfl
 .have hP:lG t 1000000000=((fN t:Int),true):=by
   exact ou
  by_cases hc:pk s 0=45
  .have hq:(s[0].toNat:Int)=45:=by omega
   have hn:jK s=(⟨2,Lib.itoa (-(fN t:Int)),-(fN t:Int),(0,0),0,0⟩,0):=by
    unfold jK;rw[ht];simp only[hv,hc,yAM,yAO]
   exact lz
  .have hq:¬(s[0].toNat:Int)=45:=by omega
   have hn:jK s=(⟨2,Lib.itoa (fN t:Int),(fN t:Int),(0,0),0,0⟩,0):=by
    unfold jK;rw[ht];simp only[hv,hc,yAO]
   exact lz
theorem aYV(h0:E 80=none)
  (h2:E 120=some (entry (cU .text i64 (i64.iH .bool) λs m=>bE (gE s/\0<=m/\m<=2000000000/\(s.length:Int)<4000000000) (some (lG s m)))))
  (h3:E 40=some (entry (aY i64 .text λn=>bE (-9223372036854775808<=n/\n<=9223372036854775807) (some (Lib.itoa n)))))
  (h4:E 121=some (entry (cU i64 i64 (Em.pU.iH i64) λn d=>bE (0<=n/\n<=9000000000000000000/\0<d/\d<=9000000000000000000) (some (j8 n.toNat d.toNat)))))
  (p:G9) (vF:gE p.1) (pM:gE p.2.1) (kM:gE p.2.2) (hl0:(p.1.length:Int)<4000000000) (hl1:(p.2.1.length:Int)<4000000000) (s6:(p.2.2.length:Int)<4000000000) :
  aJ prog E 80 [Em.parts.aA p] ((Em.tk.iH i64).aA (iS p)):=by
 obtain⟨s0,s1,s2⟩:=p;simp only at vF pM kM hl0 hl1 s6;refine aJ.aV 87 h0 func80 (h:=?_);refine aD trivial ?_;refine Wp.dK (λm fr σ=>∃(i w0 w1 w2:Nat),∃gg:Nat->PD,(i+m=3/\(w0=if 0<i then wv s0 0 else 0)/\(w1=if 1<i then wv s1 0 else 0)/\(w2=if 2<i then wv s2 1 else 1)/\(0<i->rC s0)/\(1<i->rC s1)/\(2<i->rC s2))/\fr=.agg [.str s0,.str s1,.str s2]::.ptr 0 0::.ptr 1 0::.int .i64 0::.ptr 2 0::gg 5::gg 6::gg 7::gg 8::gg 9::gg 10::gg 11::gg 12::gg 13::.ptr 2 2::.agg [.str s0,.str s1,.str s2]::.int .i64 i::gg 17::gg 18::gg 19::gg 20::gg 21::gg 22::gg 23::gg 24::gg 25::gg 26::gg 27::gg 28::gg 29::gg 30::gg 31::gg 32::gg 33::gg 34::gg 35::gg 36::gg 37::gg 38::gg 39::gg 40::gg 41::gg 42::gg 43::gg 44::gg 45::gg 46::gg 47::gg 48::gg 49::gg 50::gg 51::gg 52::gg 53::gg 54::gg 55::gg 56::gg 57::gg 58::gg 59::gg 60::gg 61::gg 62::gg 63::gg 64::gg 65::gg 66::gg 67::gg 68::gg 69::gg 70::gg 71::gg 72::gg 73::gg 74::gg 75::gg 76::gg 77::gg 78::gg 79::gg 80::gg 81::gg 82::gg 83::gg 84::gg 85::gg 86::[]/\σ=[.box (.agg [.str s0,.str s1,.str s2]),.box (Em.tk.aA bL),.box (.agg [.int .i64 w0,.int .i64 w1,.int .i64 w2])]) ?_ (3) (by refine⟨0,0,0,1,?_⟩;exact qT (⟨ym,rfl,rfl,rfl,λh=>absurd h ym,λh=>absurd h ym,λh=>absurd h ym⟩) yy yy)
 rintro m fr σ ⟨i,w0,w1,w2,gg,hI,rfl,rfl⟩
 obtain⟨hm,hw0,hw1,lN,KO,ho1,ho2⟩:=hI;rcases(show i=0\/i=1\/i=2\/i=3 by omega)with rfl|rfl|rfl|rfl
 .simp at hw0 hw1 lN
  by_cases he:s0=[]
  .have pS:(s0==[])=true:=by simp[he]
   refine aD (A2 @he pS) ?_;refine aL.normal (m-1) ym (by refine⟨1,w0,w1,w2,?_⟩;exact qT (⟨ym,by rw[hw0];simp[wv,he],by rw[hw1];simp,by rw[lN];simp,λ_=>.inl he,λh=>absurd h ym,λh=>absurd h ym⟩) yy yy)
  .have pS:(s0==[])=false:=by simpa using he
   have G7:s0.isEmpty=false:=Db
   by_cases hv:1000000<fN s0
   .have hP:lG s0 1000000=(0,false):=by
     exact jr
    have hf:iS (s0,s1,s2)=(bL,2):=by
     unfold iS;rw[yAJ (.inl λh=>by
      have:rC s0:=h.1;rcases this with e|e
      .exact he e
      .omega)]
    refine aD (A7 @he pS G7 h2 vF hl0 hP) ?_;exact ff
   .have hP:lG s0 1000000=((fN s0:Int),true):=by
     exact ou
    refine aD (A7 @he pS G7 h2 vF hl0 hP) ?_;refine aL.normal (m-1) ym (by refine⟨1,fN s0,w1,w2,?_⟩;exact qT (⟨ym,by simp[wv,he],by rw[hw1];simp,by rw[lN];simp,λ_=>.inr ym,λh=>absurd h ym,λh=>absurd h ym⟩) yy yy)
 .simp at hw0 hw1 lN
  by_cases he:s1=[]
  .have pS:(s1==[])=true:=by simp[he]
   refine aD (A2 @he pS) ?_;refine aL.normal (m-1) ym (by refine⟨2,w0,w1,w2,?_⟩;exact qT (⟨ym,by rw[hw0];simp,by rw[hw1];simp[wv,he],by rw[lN];simp,λ_=>KO ym,λ_=>.inl he,λh=>absurd h ym⟩) yy yy)
  .have pS:(s1==[])=false:=by simpa using he
   have G7:s1.isEmpty=false:=Db
   by_cases hv:1000000<fN s1
   .have hP:lG s1 1000000=(0,false):=by
     exact jr
    have hf:iS (s0,s1,s2)=(bL,2):=by
     unfold iS;rw[yAJ (.inl λh=>by
      have:rC s1:=h.2.1;rcases this with e|e
      .exact he e
      .omega)]
    refine aD (A7 @he pS G7 h2 pM hl1 hP) ?_;exact ff
   .have hP:lG s1 1000000=((fN s1:Int),true):=by
     exact ou
    refine aD (A7 @he pS G7 h2 pM hl1 hP) ?_;refine aL.normal (m-1) ym (by refine⟨2,w0,fN s1,w2,?_⟩;exact qT (⟨ym,by rw[hw0];simp,by simp[wv,he],by rw[lN];simp,λ_=>KO ym,λ_=>.inr ym,λh=>absurd h ym⟩) yy yy)
 .simp at hw0 hw1 lN
  by_cases he:s2=[]
  .have pS:(s2==[])=true:=by simp[he]
   refine aD (A2 @he pS) ?_;refine aL.normal (m-1) ym (by refine⟨3,w0,w1,w2,?_⟩;exact qT (⟨ym,by rw[hw0];simp,by rw[hw1];simp,by rw[lN];simp[wv,he],λ_=>KO ym,λ_=>ho1 ym,λ_=>.inl he⟩) yy yy)
  .have pS:(s2==[])=false:=by simpa using he
   have G7:s2.isEmpty=false:=Db
   by_cases hv:1000000<fN s2
   .have hP:lG s2 1000000=(0,false):=by
     exact jr
    have hf:iS (s0,s1,s2)=(bL,2):=by
     unfold iS;rw[yAJ (.inl λh=>by
      have:rC s2:=h.2.2;rcases this with e|e
      .exact he e
      .omega)]
    refine aD (A7 @he pS G7 h2 kM s6 hP) ?_;exact ff
   .have hP:lG s2 1000000=((fN s2:Int),true):=by
     exact ou
    refine aD (A7 @he pS G7 h2 kM s6 hP) ?_;refine aL.normal (m-1) ym (by refine⟨3,w0,w1,fN s2,?_⟩;exact qT (⟨ym,by rw[hw0];simp,by rw[hw1];simp,by simp[wv,he],λ_=>KO ym,λ_=>ho1 ym,λ_=>.inr ym⟩) yy yy)
 .simp at hw0 hw1 lN;have ok0:=KO ym;have ok1:=ho1 ym;have ok2:=ho2 ym;have b0:w0<=1000000:=by rw[hw0];exact aG1 ok0 ym
  have b1:w1<=1000000:=by rw[hw1];exact aG1 ok1 ym
  have b2:w2<=1000000:=by rw[lN];exact aG1 ok2 ym
  by_cases hz:w2=0
  .have hf:iS (s0,s1,s2)=(bL,2):=by
    unfold iS;rw[yAJ (.inr (by simp only;rw[<-lN];exact hz))]
   subst hz;refine aD trivial ?_;exact ff
  .have hzi:¬(w2:Int)=0:=by omega
   obtain⟨N,hN⟩:∃N,N=w0*w2+w1:=⟨_,rfl⟩;obtain⟨K,hK⟩:=gn (w0*w2);have jI:w0*w2<=1000000*1000000:=Nat.mul_le_mul b0 b2;have hmi:(w0:Int)*(w2:Int)=(K:Int):=by rw[<-hK];simp
   have hNi:(K:Int)+(w1:Int)=(N:Int):=ym;have hfS:iS (s0,s1,s2)=if (j8 N w2).2≠0 then(bL,2)else(⟨3,iI (j8 N w2).1.1.toNat (j8 N w2).1.2.toNat++[39],0,(j8 N w2).1,0,0⟩,0):=by
    unfold iS;simp only;rw[<-hw0,<-hw1,<-lN,<-hN,yAI (by
     rintro(h|h)
     .exact h ⟨ok0,ok1,ok2⟩
     .exact hz h)]
   rcases aY9 (n:=N) hz with hM | ⟨x,y,hM,hy,hxl,hyl⟩
   .rw[hM]at hfS;rw[yAJ yo]at hfS;refine aD (A6 hz hzi h4 hNi hmi hM) ?_;simp(disch:=first|omega|(simp;done)|(simp;omega)) [yAu,hfS,bL]<;>try rfl
   .rw[hM]at hfS;simp only[ne_eq,yBr,yAO,yBk]at hfS;have hyi:¬(y:Int)=0:=ym;obtain⟨q,hq⟩:=gn (x/y);obtain⟨r,hr⟩:=gn (x%y);have hqi:(x:Int)/(y:Int)=(q:Int):=by rw[<-hq];rfl
    have aG2:(x:Int).tdiv (y:Int)=(q:Int):=by rw[yDY ym];exact hqi
    have hri:(x:Int)%(y:Int)=(r:Int):=by rw[<-hr];rfl
    have aG3:(x:Int).tmod (y:Int)=(r:Int):=by rw[yCT ym];exact hri
    have hql:q<=x:=by rw[<-hq];exact yCU _ _
    have hrl:r<=x:=by rw[<-hr];exact Nat.mod_le _ _
    have lq:=HM q;have lr:=HM r;have ly:=HM y;unfold iI at hfS;rw[hq,hr]at hfS
    by_cases O0:r=0
    .simp only[O0,yAM]at hfS;refine aD (A14 hz hzi h3 h4 hNi hmi hM hy hyi hqi aG2 hri aG3 O0) ?_;exact jn
    .have aNj:¬(r:Int)=0:=by omega
     by_cases hq0:q=0
     .simp only[O0,hq0,yAM,yAO]at hfS;refine aD (A16 hz hzi h3 h4 hNi hmi hM hy hyi hqi aG2 hri aG3 O0 aNj hq0) ?_;exact jn
     .have aZa:¬(q:Int)=0:=by omega
      simp only[O0,hq0,yAO]at hfS;refine aD (A17 hz hzi h3 h4 hNi hmi hM hy hyi hqi aG2 hri aG3 O0 aNj hq0 aZa) ?_;exact jn
end
section
theorem aAq:∀s:List UInt8,gE (s.take (dV cB s))
 | []=>by intro b hb;simp at hb
 |c::r=>by
  rw[RL];split
  .rename_i h;intro b hb;rw[yDa]at hb;rcases yAS.1 hb with rfl|hb
   .exact h
   .exact aAq r b hb
  .intro b hb;simp at hb
theorem V0:gE []:=by intro b hb;simp at hb
theorem aY7(s:List UInt8):gE (cT s).1.1/\gE (cT s).1.2.1/\gE (cT s).1.2.2/\(cT s).1.1.length<=s.length/\(cT s).1.2.1.length<=s.length/\(cT s).1.2.2.length<=s.length:=by
 have h1:=aAq s;have h2:=λn=>aAq (s.drop n)
 have l1:∀n,(s.take n).length<=s.length:=λn=>Ah
 have l2:∀a n,((s.drop a).take n).length<=s.length:=λa n=>by rw[yAt,yBf];omega
 unfold cT jT;simp only
 repeat' split
 all_goals first
  |exact⟨h1,V0,V0,l1 _,yAF _,yAF _⟩
  |exact⟨h1,h2 _,h2 _,l1 _,l2 _ _,l2 _ _⟩
  |exact⟨V0,h1,h2 _,yAF _,l1 _,l2 _ _⟩
  |exact⟨V0,V0,V0,yAF _,yAF _,yAF _⟩
def marks:List UInt8:=[40,41,91,93,123,125,58,44,59,61,43,46,63,42,47]
def dM(s:List UInt8):Tk×Int×Int:=
 if mX (pk s 0)=true then
  if 32<dV oM s then(bL,0,8)else(⟨1,s.take (dV oM s),0,(0,0),0,0⟩,dV oM s,0)
 else if cB (pk s 0)=true then
  if 0<(cT s).2 then((iS (cT s).1).1,(cT s).2,(iS (cT s).1).2)
  else((jK (s.take (dV cB s))).1,dV cB s,(jK (s.take (dV cB s))).2)
 else if pk s 0=45/\cB (pk s 1)=true then
  ((jK (s.take (1+dV cB (s.drop 1)))).1,1+dV cB (s.drop 1),(jK (s.take (1+dV cB (s.drop 1)))).2)
 else if pk s 0=34 then
  if Lib.indexByte (s.drop 1) 34<0 then(bL,0,15)else(⟨4,(s.drop 1).take (Lib.indexByte (s.drop 1) 34).toNat,0,(0,0),0,0⟩,Lib.indexByte (s.drop 1) 34+2,0)
 else if Lib.hasPrefix s [45,62]=true then(⟨5,s.take 2,0,(0,0),0,0⟩,2,0)
 else if 0<=Lib.indexByte marks (pk s 0).toUInt8 then(⟨5,s.take 1,0,(0,0),0,0⟩,1,0)
 else(bL,0,15)
@[simp] theorem a8J{α:Type}{s:List α}:s.tail.take (s.length-1)=s.tail:=yAz yo
theorem aGY:∀(s:List UInt8) (c:UInt8),Lib.indexByte s c<s.length
 | [],c=>by simp[Lib.indexByte]
 |b::r,c=>by
  have h:=aGY r c;unfold Lib.indexByte;rw[yAK];split
  .omega
  .split
   .omega
   .omega
theorem aCW{s:Dr}(h:Lib.hasPrefix s [45,62]=true):2<=s.length:=by
 match s,h with
 | [],h=>simp[Lib.hasPrefix,List.isPrefixOf]at h
 | [a],h=>simp[Lib.hasPrefix,List.isPrefixOf]at h
 |a::b::r,_=>simp
variable{E:aE}(hU:aG E)
include hU
set_option maxRecDepth 10000
theorem aY0(h0:E 39=none)(h1:E 76=some (entry cP))(h2:E 75=some (entry (aY u8 .bool λn=>some (mX n))))(h3:E 78=some (entry (aY u8 .bool λn=>some (cB n))))
  (h4:E 79=some (entry (aY .text (Em.parts.iH i64) λs=>bE ((s.length:Int)<4000000000) (some (cT s)))))
  (h5:E 80=some (entry (aY .parts (Em.tk.iH i64) λp=>bE (gE p.1/\gE p.2.1/\gE p.2.2/\(p.1.length:Int)<4000000000/\(p.2.1.length:Int)<4000000000/\(p.2.2.length:Int)<4000000000) (some (iS p)))))
  (h6:E 81=some (entry (aY .text (Em.tk.iH i64) λs=>bE (0<s.length/\gE (Lib.trimPrefix s [45])/\(s.length:Int)<4000000000) (some (jK s)))))
  (h7:E 82=some (entry (cU .text u8 i64 λs n=>bE (0<=n/\n<=255) (some (Lib.indexByte s n.toNat.toUInt8)))))
  (h8:E 83=some (entry (cU .text .text .bool λs t=>some (Lib.hasPrefix s t))))
  (s:List UInt8) (hs:0<s.length) (hl:(s.length:Int)<4000000000):aJ prog E 39 [.str s] ((Em.tk.MW i64 i64).aA (dM s)):=by
 have hpk:=pV hs;refine aJ.aV 110 h0 func39 (h:=?_);cases c1:mX (pk s 0)with
 |true=>
  have eA:mX (s[0].toNat:Int)=true:=by rw[<-hpk];exact c1
  obtain⟨n,hn⟩:=gn (dV oM s);have hnl:=HA oM s;rw[hn]at hnl
  by_cases c3:32<n
  .have mH:32<(n:Int):=by omega
   have hT:dM s=(bL,0,8):=by
    unfold dM;rw[yAJ c1,hn,yAJ c3]
   repeat(first
    |(refine Fr.i ?_;simp only[aM,yAT,yAU];try rfl)
    |(refine By.i ?_;(focus(simp(disch:=first|omega|(simp;done)|(simp;omega)) [wrap_i64,wrap_u64,hs,h1,h2,eA,cP,hl,hn,c3,mH,entry,aY];first|done|rfl|exact⟨rfl,rfl⟩)))
    |(refine By.i ?_;simp(disch:=first|omega|(simp;done)|(simp;omega)) [wrap_i64,wrap_u64,hs,h1,h2,eA,cP,hl,hn,c3,mH,entry,aY];refine⟨yw,rfl⟩)
    |(refine Wt.i ?_;first|rfl|(focus(simp[hs,h1,h2,eA,cP,hl,hn,c3,mH,entry,aY];done)))
    |(refine Ns.i ?_;(try simp only[yAl,yAQ,yAR,yAi,yAa,yAK,yAL,yAp,Nat.reduceAdd]);rfl)|rfl
    |(apply SL.pass;(focus(refine Wt.i ?_;rfl)))|(apply tu;(focus rfl))|apply SL.move|apply SL.assign|apply SL.load|apply SL.gC|apply tu|apply SL.make|apply SL.binOp|apply SL.append
    |apply tu|apply SL.builtin|apply SL.fieldAddr|apply SL.indexAddr|apply SL.field|apply SL.extract|apply SL.gD|apply SL.pick|apply SL.store|apply SL.unOp|apply SL.convert|apply SL.index|apply SL.slice
    |apply SL.build|apply SL.nilCheck|apply SL.buildSlice|apply SL.box|apply SL.alloc|apply SL.makeFunc|apply SQ.nil|(apply WL.kN;(focus decide +kernel))
    |(apply WL.eI yq;(focus decide +kernel);(focus decide +kernel))|(apply WL.jP;(focus decide +kernel);(focus decide +kernel))|(apply WL.lC;(focus decide +kernel))
    |(apply WL.lA yq;(focus decide +kernel);(focus decide +kernel))|(apply WL.lB;(focus decide +kernel);(focus decide +kernel))|(apply WL.kZ yq;(focus decide +kernel);(focus decide +kernel))
    |(apply WL.kY yq;(focus decide +kernel);(focus decide +kernel))|(apply WL.lZ yq;(focus decide +kernel);(focus decide +kernel))
    |(apply tu yq;(focus decide +kernel);(focus decide +kernel))|apply tu|(apply WL.ct;(focus rfl))|(apply WL.cf;(focus rfl))|refine aS.normal ?_|refine aS.ret ?_|refine aS.exit ?_
    |refine aO.normal ?_|refine aO.ret ?_|refine aO.here ?_|refine aO.there yx ?_|refine Wp.block ?_|refine Wp.skip ?_|refine Wp.ret ?_|refine Wp.exit ?_|refine aL.ret ?_|refine aL.exit ?_
    |refine tu ?_|refine tu ?_|refine tu ?_|refine Wp.seq (Wp.seq ?_)|refine Wp.seq (Wp.block ?_)|(refine Wp.seq ?_;apply WL.ct;(focus rfl))|(refine Wp.seq ?_;apply WL.cf;(focus rfl)))
   simp(disch:=first|omega|(simp;done)|(simp;omega)) [yAu,hT,bL]<;>try rfl
  .have mH:¬32<(n:Int):=by omega
   have hT:dM s=(⟨1,s.take n,0,(0,0),0,0⟩,(n:Int),0):=by
    unfold dM;rw[yAJ c1,hn,yAI c3]
   repeat(first
    |(refine Fr.i ?_;simp only[aM,yAT,yAU];try rfl)
    |(refine By.i ?_;(focus(simp(disch:=first|omega|(simp;done)|(simp;omega)) [wrap_i64,wrap_u64,hs,h1,h2,eA,cP,hl,hn,c3,mH,entry,aY];first|done|rfl|exact⟨rfl,rfl⟩)))
    |(refine By.i ?_;simp(disch:=first|omega|(simp;done)|(simp;omega)) [wrap_i64,wrap_u64,hs,h1,h2,eA,cP,hl,hn,c3,mH,entry,aY];refine⟨yw,rfl⟩)
    |(refine Wt.i ?_;first|rfl|(focus(simp[hs,h1,h2,eA,cP,hl,hn,c3,mH,entry,aY];done)))
    |(refine Ns.i ?_;(try simp only[yAl,yAQ,yAR,yAi,yAa,yAK,yAL,yAp,Nat.reduceAdd]);rfl)|rfl
    |(apply SL.pass;(focus(refine Wt.i ?_;rfl)))|(apply tu;(focus rfl))|apply SL.move|apply SL.assign|apply SL.load|apply SL.gC|apply tu|apply SL.make|apply SL.binOp|apply SL.append
    |apply tu|apply SL.builtin|apply SL.fieldAddr|apply SL.indexAddr|apply SL.field|apply SL.extract|apply SL.gD|apply SL.pick|apply SL.store|apply SL.unOp|apply SL.convert|apply SL.index|apply SL.slice
    |apply SL.build|apply SL.nilCheck|apply SL.buildSlice|apply SL.box|apply SL.alloc|apply SL.makeFunc|apply SQ.nil|(apply WL.kN;(focus decide +kernel))
    |(apply WL.eI yq;(focus decide +kernel);(focus decide +kernel))|(apply WL.jP;(focus decide +kernel);(focus decide +kernel))|(apply WL.lC;(focus decide +kernel))
    |(apply WL.lA yq;(focus decide +kernel);(focus decide +kernel))|(apply WL.lB;(focus decide +kernel);(focus decide +kernel))|(apply WL.kZ yq;(focus decide +kernel);(focus decide +kernel))
    |(apply WL.kY yq;(focus decide +kernel);(focus decide +kernel))|(apply WL.lZ yq;(focus decide +kernel);(focus decide +kernel))
    |(apply tu yq;(focus decide +kernel);(focus decide +kernel))|apply tu|(apply WL.ct;(focus rfl))|(apply WL.cf;(focus rfl))|refine aS.normal ?_|refine aS.ret ?_|refine aS.exit ?_
    |refine aO.normal ?_|refine aO.ret ?_|refine aO.here ?_|refine aO.there yx ?_|refine Wp.block ?_|refine Wp.skip ?_|refine Wp.ret ?_|refine Wp.exit ?_|refine aL.ret ?_|refine aL.exit ?_
    |refine tu ?_|refine tu ?_|refine tu ?_|refine Wp.seq (Wp.seq ?_)|refine Wp.seq (Wp.block ?_)|(refine Wp.seq ?_;apply WL.ct;(focus rfl))|(refine Wp.seq ?_;apply WL.cf;(focus rfl)))
   exact fm
 |false=>
  have eA:mX (s[0].toNat:Int)=false:=by rw[<-hpk];exact c1
  have c1n:¬mX (pk s 0)=true:=by rw[c1];simp
  cases c2:cB (pk s 0)with
  |true=>
   have iT:cB (s[0].toNat:Int)=true:=by rw[<-hpk];exact c2
   obtain⟨P,k,hP⟩:∃P k,cT s=(P,k):=⟨_,_,rfl⟩;obtain⟨d1,d2,d3,l1,l2,l3⟩:=aY7 s;rw[hP]at d1 d2 d3 l1 l2 l3;simp only at d1 d2 d3 l1 l2 l3;have l1':(P.1.length:Int)<4000000000:=ym;have l2':(P.2.1.length:Int)<4000000000:=ym;have l3':(P.2.2.length:Int)<4000000000:=ym;obtain⟨p1,p2,p3⟩:=P;simp only at d1 d2 d3 l1' l2' l3'
   by_cases c3:0<k
   .obtain⟨f,e,hF⟩:∃f e,iS (p1,p2,p3)=(f,e):=⟨_,_,rfl⟩;have hT:dM s=(f,k,e):=by
     unfold dM;rw[yAI c1n,yAJ c2,hP];simp only[c3,yAM,hF]
    refine aD (A18 hs h1 h2 h3 h4 h5 eA iT hl hP @d1 @d2 @d3 l1' l2' l3' c3 hF) ?_;exact fm
   .obtain⟨n,hn⟩:=gn (dV cB s);have hnl:=HA cB s;rw[hn]at hnl;have hpos:0<n:=by
     rw[<-hn];obtain⟨b,r,rfl⟩:=yDF (yBE.1 hs);rw[RL,yAJ (by simpa [pk]using c2)];omega
    have hdn:=aAq s;rw[hn]at hdn;have htr:Lib.trimPrefix (s.take n) [45]=s.take n:=by
     unfold Lib.trimPrefix;rw[yAI];intro h;obtain⟨b,r,rfl⟩:=yDF (yBE.1 hs);obtain⟨n',rfl⟩:∃n',n=n'+1:=⟨n-1,ym⟩;simp only[Lib.hasPrefix,yDa,List.isPrefixOf,yCg,yBI]at h;subst h;simp[pk,cB]at c2
    have hlen:0<(s.take n).length:=Ah;have x9:((s.take n).length:Int)<4000000000:=Ah;obtain⟨t,ht⟩:=gn (s.take n);rw[ht]at hdn htr hlen x9;have R0:gE (Lib.trimPrefix t [45]):=by rw[htr];exact hdn
    have PN:¬t=[]:=yBE.1 hlen;obtain⟨f,e,hF⟩:∃f e,jK t=(f,e):=⟨_,_,rfl⟩;have hT:dM s=(f,(n:Int),e):=by
     unfold dM;rw[yAI c1n,yAJ c2,hP];simp only[c3,yAO,hn,ht,hF]
    repeat(first
     |(refine Fr.i ?_;simp only[aM,yAT,yAU];try rfl)
     |(refine By.i ?_;(focus(simp(disch:=first|omega|(simp;done)|(simp;omega)) [wrap_i64,wrap_u64,hs,h1,h2,h3,h4,h6,eA,iT,hl,hP,cP,c3,hn,ht,R0,hlen,x9,PN,hF,entry,aY];first|done|rfl|exact⟨rfl,rfl⟩)))
     |(refine By.i ?_;simp(disch:=first|omega|(simp;done)|(simp;omega)) [wrap_i64,wrap_u64,hs,h1,h2,h3,h4,h6,eA,iT,hl,hP,cP,c3,hn,ht,R0,hlen,x9,PN,hF,entry,aY];refine⟨yw,rfl⟩)
     |(refine Wt.i ?_;first|rfl|(focus(simp[hs,h1,h2,h3,h4,h6,eA,iT,hl,hP,cP,c3,hn,ht,R0,hlen,x9,PN,hF,entry,aY];done)))
     |(refine Ns.i ?_;(try simp only[yAl,yAQ,yAR,yAi,yAa,yAK,yAL,yAp,Nat.reduceAdd]);rfl)|rfl
     |(apply SL.pass;(focus(refine Wt.i ?_;rfl)))|(apply tu;(focus rfl))|apply SL.move|apply SL.assign|apply SL.load|apply SL.gC|apply tu|apply SL.make|apply SL.binOp|apply SL.append
     |apply tu|apply SL.builtin|apply SL.fieldAddr|apply SL.indexAddr|apply SL.field|apply SL.extract|apply SL.gD|apply SL.pick|apply SL.store|apply SL.unOp|apply SL.convert|apply SL.index|apply SL.slice
     |apply SL.build|apply SL.nilCheck|apply SL.buildSlice|apply SL.box|apply SL.alloc|apply SL.makeFunc|apply SQ.nil|(apply WL.kN;(focus decide +kernel))
     |(apply WL.eI yq;(focus decide +kernel);(focus decide +kernel))|(apply WL.jP;(focus decide +kernel);(focus decide +kernel))|(apply WL.lC;(focus decide +kernel))
     |(apply WL.lA yq;(focus decide +kernel);(focus decide +kernel))|(apply WL.lB;(focus decide +kernel);(focus decide +kernel))
     |(apply WL.kZ yq;(focus decide +kernel);(focus decide +kernel))|(apply WL.kY yq;(focus decide +kernel);(focus decide +kernel))
     |(apply WL.lZ yq;(focus decide +kernel);(focus decide +kernel))|(apply tu yq;(focus decide +kernel);(focus decide +kernel))|apply tu|(apply WL.ct;(focus rfl))
     |(apply WL.cf;(focus rfl))|refine aS.normal ?_|refine aS.ret ?_|refine aS.exit ?_|refine aO.normal ?_|refine aO.ret ?_|refine aO.here ?_|refine aO.there yx ?_|refine Wp.block ?_
     |refine Wp.skip ?_|refine Wp.ret ?_|refine Wp.exit ?_|refine aL.ret ?_|refine aL.exit ?_|refine tu ?_|refine tu ?_|refine tu ?_|refine Wp.seq (Wp.seq ?_)|refine Wp.seq (Wp.block ?_)
     |(refine Wp.seq ?_;apply WL.ct;(focus rfl))|(refine Wp.seq ?_;apply WL.cf;(focus rfl)))
    exact fm
  |false=>
   have iT:cB (s[0].toNat:Int)=false:=by rw[<-hpk];exact c2
   have c2n:¬cB (pk s 0)=true:=by rw[c2];simp
   by_cases c3:pk s 0=45/\cB (pk s 1)=true
   .obtain⟨c3,c4⟩:=c3;have mH:(s[0].toNat:Int)=45:=ym;have hl1:1<s.length:=by
     refine Nat.lt_of_not_le λh=>?_
     rw[RJ h]at c4;simp[cB]at c4
    have aGZ:=pV hl1;have gA:cB (s[1].toNat:Int)=true:=by rw[<-aGZ];exact c4
    have NF:1<(s.length:Int):=ym;obtain⟨n,hn⟩:=gn (dV cB (s.drop 1));have hnl:=HA cB (s.drop 1);rw[hn,yBf]at hnl;obtain⟨b,r,rfl⟩:=yDF (yBE.1 hs);have hb:b=45:=by
     have:b.toNat=45:=by simpa [pk]using c3
     exact UInt8.toNat_inj.1 this
    subst hb;have hdn:=aAq r;rw[List.drop_one,List.tail_cons]at hn;rw[hn]at hdn;have htk:(45::r).take (1+n)=45::r.take n:=by rw[yCq,yDa]
    have htr:Lib.trimPrefix (45::r.take n) [45]=r.take n:=by simp[Lib.trimPrefix,Lib.hasPrefix,List.isPrefixOf]
    have x9:((45::r.take n).length:Int)<4000000000:=by
     rw[yAK,yAt];rw[yAK]at hl;omega
    obtain⟨t,ht⟩:=gn (45::r.take n);have R0:gE (Lib.trimPrefix t [45]):=by rw[<-ht,htr];exact hdn
    have PN:¬t=[]:=by rw[<-ht];simp
    have hlen:0<t.length:=yBE.2 PN;rw[ht]at x9 htk;obtain⟨f,e,hF⟩:∃f e,jK t=(f,e):=⟨_,_,rfl⟩;have hT:dM (45::r)=(f,1+(n:Int),e):=by
     unfold dM;rw[yAI c1n,yAI c2n,yAJ ⟨c3,c4⟩];simp only[List.drop_one,List.tail_cons,hn,htk,hF]
    obtain⟨S,hS⟩:∃S:List UInt8,S=45::r:=⟨_,rfl⟩;have pM:S.drop 1=r:=by rw[hS];rfl
    have M3:S.tail=r:=by rw[hS];rfl
    have e1:(1+(n:Int)).toNat=1+n:=ym;rw[<-hS]at hT hl hs hl1 NF htk;simp only[<-hS]at eA iT mH gA hnl ⊢;have hrl:(r.length:Int)<4000000000:=by rw[hS,yAK]at hl;omega
    have hrt:r.take (S.length-1)=r:=by rw[hS,yAK,Nat.add_sub_cancel,yBz]
    repeat(first
     |(refine Fr.i ?_;simp only[aM,yAT,yAU];try rfl)
     |(refine By.i ?_;(focus(simp(disch:=first|omega|(simp;done)|(simp;omega)) [wrap_i64,wrap_u64,hs,h1,h2,h3,h6,eA,iT,mH,gA,hl,hl1,NF,cP,hrt,pM,M3,hn,hrl,e1,htk,R0,hlen,x9,PN,hF,entry,aY];first|done|rfl|exact⟨rfl,rfl⟩)))
     |(refine By.i ?_;simp(disch:=first|omega|(simp;done)|(simp;omega)) [wrap_i64,wrap_u64,hs,h1,h2,h3,h6,eA,iT,mH,gA,hl,hl1,NF,cP,hrt,pM,M3,hn,hrl,e1,htk,R0,hlen,x9,PN,hF,entry,aY];refine⟨yw,rfl⟩)
     |(refine Wt.i ?_;first|rfl|(focus(simp[hs,h1,h2,h3,h6,eA,iT,mH,gA,hl,hl1,NF,cP,hrt,pM,M3,hn,hrl,e1,htk,R0,hlen,x9,PN,hF,entry,aY];done)))
     |(refine Ns.i ?_;(try simp only[yAl,yAQ,yAR,yAi,yAa,yAK,yAL,yAp,Nat.reduceAdd]);rfl)|rfl
     |(apply SL.pass;(focus(refine Wt.i ?_;rfl)))|(apply tu;(focus rfl))|apply SL.move|apply SL.assign|apply SL.load|apply SL.gC|apply tu|apply SL.make|apply SL.binOp|apply SL.append
     |apply tu|apply SL.builtin|apply SL.fieldAddr|apply SL.indexAddr|apply SL.field|apply SL.extract|apply SL.gD|apply SL.pick|apply SL.store|apply SL.unOp|apply SL.convert|apply SL.index|apply SL.slice
     |apply SL.build|apply SL.nilCheck|apply SL.buildSlice|apply SL.box|apply SL.alloc|apply SL.makeFunc|apply SQ.nil|(apply WL.kN;(focus decide +kernel))
     |(apply WL.eI yq;(focus decide +kernel);(focus decide +kernel))|(apply WL.jP;(focus decide +kernel);(focus decide +kernel))|(apply WL.lC;(focus decide +kernel))
     |(apply WL.lA yq;(focus decide +kernel);(focus decide +kernel))|(apply WL.lB;(focus decide +kernel);(focus decide +kernel))
     |(apply WL.kZ yq;(focus decide +kernel);(focus decide +kernel))|(apply WL.kY yq;(focus decide +kernel);(focus decide +kernel))
     |(apply WL.lZ yq;(focus decide +kernel);(focus decide +kernel))|(apply tu yq;(focus decide +kernel);(focus decide +kernel))|apply tu|(apply WL.ct;(focus rfl))
     |(apply WL.cf;(focus rfl))|refine aS.normal ?_|refine aS.ret ?_|refine aS.exit ?_|refine aO.normal ?_|refine aO.ret ?_|refine aO.here ?_|refine aO.there yx ?_|refine Wp.block ?_
     |refine Wp.skip ?_|refine Wp.ret ?_|refine Wp.exit ?_|refine aL.ret ?_|refine aL.exit ?_|refine tu ?_|refine tu ?_|refine tu ?_|refine Wp.seq (Wp.seq ?_)|refine Wp.seq (Wp.block ?_)
     |(refine Wp.seq ?_;apply WL.ct;(focus rfl))|(refine Wp.seq ?_;apply WL.cf;(focus rfl)))
    exact fm
   .have hrest:(if pk s 0=34 then(if Lib.indexByte (s.drop 1) 34<0 then((bL,0,15):Tk×Int×Int)else(⟨4,(s.drop 1).take (Lib.indexByte (s.drop 1) 34).toNat,0,(0,0),0,0⟩,Lib.indexByte (s.drop 1) 34+2,0))
      else if Lib.hasPrefix s [45,62]=true then(⟨5,s.take 2,0,(0,0),0,0⟩,2,0)
      else if 0<=Lib.indexByte marks (pk s 0).toUInt8 then(⟨5,s.take 1,0,(0,0),0,0⟩,1,0)else(bL,0,15))=dM s:=by
     unfold dM;rw[yAI c1n,yAI c2n,yAI c3]
    by_cases c4:pk s 0=45
    .have gA:(s[0].toNat:Int)=45:=by omega
     have n34:¬pk s 0=34:=ym
     by_cases hl1:1<s.length
     .have NF:1<(s.length:Int):=by omega
      have aGZ:=pV hl1;have c4n:cB (s[1].toNat:Int)=false:=by
       cases h:cB (s[1].toNat:Int)with
       |false=>rfl
       |true=>exact absurd ⟨c4,by rw[aGZ];exact h⟩ c3
      rw[yAI ym]at hrest;cases c6:Lib.hasPrefix s [45,62]with
      |true=>
       have s6:2<=s.length:=aCW c6;have aCX:(2:Int)<=(s.length:Int):=ym;rw[yAJ c6]at hrest;refine aD (A16 hs h1 h2 h3 h7 h8 eA iT gA hl hl1 NF c4n c6 s6 aCX) ?_;exact ek
      |false=>
       rw[yAI (by rw[c6];simp)]at hrest;obtain⟨k,hk⟩:=gn (Lib.indexByte marks s[0]);have hk2:Lib.indexByte [40,41,91,93,123,125,58,44,59,61,43,46,63,42,47] s[0]=k:=hk;have V1:Lib.indexByte [40,41,91,93,123,125,58,44,59,61,43,46,63,42,47] (s[0].toNat).toUInt8=k:=Ap;have V2:(s[0].toNat:Int)<=255:=Cy;rw[hpk,show(s[0].toNat).toUInt8=s[0]from by simp,hk]at hrest;have h45:s[0]=45:=UInt8.toNat_inj.1 zc;have hkm:k=-1:=by rw[<-hk,h45];decide
       have c7:¬0<=k:=ym;have aG0:Lib.indexByte [40,41,91,93,123,125,58,44,59,61,43,46,63,42,47] 45=-1:=yx;rw[yAI c7]at hrest;refine aD (A20 hs h1 h2 h3 h7 h8 eA iT gA hl hl1 NF c4n c6 hk2 V1 V2 c7 aG0 hkm) ?_;exact ef
     .have NF:¬1<(s.length:Int):=by omega
      rw[yAI ym]at hrest;cases c6:Lib.hasPrefix s [45,62]with
      |true=>
       have s6:2<=s.length:=aCW c6;have aCX:(2:Int)<=(s.length:Int):=ym;omega
      |false=>
       rw[yAI (by rw[c6];simp)]at hrest;obtain⟨k,hk⟩:=gn (Lib.indexByte marks s[0]);have hk2:Lib.indexByte [40,41,91,93,123,125,58,44,59,61,43,46,63,42,47] s[0]=k:=hk;have V1:Lib.indexByte [40,41,91,93,123,125,58,44,59,61,43,46,63,42,47] (s[0].toNat).toUInt8=k:=Ap;have V2:(s[0].toNat:Int)<=255:=Cy;rw[hpk,show(s[0].toNat).toUInt8=s[0]from by simp,hk]at hrest;have h45:s[0]=45:=UInt8.toNat_inj.1 zc;have hkm:k=-1:=by rw[<-hk,h45];decide
       have c7:¬0<=k:=ym;have aG0:Lib.indexByte [40,41,91,93,123,125,58,44,59,61,43,46,63,42,47] 45=-1:=yx;rw[yAI c7]at hrest;refine aD (A19 hs h1 h2 h3 h7 h8 eA iT gA hl hl1 NF c6 hk2 V1 V2 c7 aG0 hkm) ?_;exact ef
    .have gA:¬(s[0].toNat:Int)=45:=by omega
     by_cases c5:pk s 0=34
     .have KQ:(s[0].toNat:Int)=34:=by omega
      obtain⟨k,hk⟩:=gn (Lib.indexByte (s.drop 1) 34);have hkt:Lib.indexByte s.tail 34=k:=by rw[<-hk,List.drop_one]
      have hkn:=aGY (s.drop 1) 34;rw[hk,yBf]at hkn;rw[yAJ c5,hk]at hrest
      by_cases c6:k<0
      .rw[yAJ c6]at hrest;refine aD (A13 hs h1 h2 h3 h7 eA iT gA hl KQ hk hkt c6) ?_;exact ef
      .rw[yAI c6]at hrest;obtain⟨k',rfl⟩:∃k':Nat,k=(k':Int):=⟨k.toNat,ym⟩;have e1:k'+1-1=k':=ym;have e2:((k':Int)+1).toNat=k'+1:=ym;have e3:k'+1<=s.length:=ym;rw[yBk]at hrest;refine aD (A16 hs h1 h2 h3 h7 eA iT gA hl KQ hk hkt c6 e1 e2 e3) ?_;exact ek
     .have KQ:¬(s[0].toNat:Int)=34:=by omega
      rw[yAI c5]at hrest;cases c6:Lib.hasPrefix s [45,62]with
      |true=>
       have s6:2<=s.length:=aCW c6;have aCX:(2:Int)<=(s.length:Int):=ym;rw[yAJ c6]at hrest;refine aD (A14 hs h1 h2 h3 h7 h8 eA iT gA hl KQ c6 s6 aCX) ?_;exact ek
      |false=>
       rw[yAI (by rw[c6];simp)]at hrest;obtain⟨k,hk⟩:=gn (Lib.indexByte marks s[0]);have hk2:Lib.indexByte [40,41,91,93,123,125,58,44,59,61,43,46,63,42,47] s[0]=k:=hk;have V1:Lib.indexByte [40,41,91,93,123,125,58,44,59,61,43,46,63,42,47] (s[0].toNat).toUInt8=k:=Ap;have V2:(s[0].toNat:Int)<=255:=Cy;rw[hpk,show(s[0].toNat).toUInt8=s[0]from by simp,hk]at hrest
       by_cases c7:0<=k
       .rw[yAJ c7]at hrest;refine aD xy ?_;exact ek
       .rw[yAI c7]at hrest;refine aD xy ?_;exact ef
end
theorem aY6(s:List UInt8):(cT s).2<=s.length:=by
 have lt:∀i,pk s i=39->i<s.length:=λi h=>Nat.lt_of_not_le λh'=>by rw[RJ h']at h;cases h
 unfold cT jT;simp only;split
 .rename_i h;have:=lt _ h;exact cg
 .split
  .split
   .rename_i h;have:=lt _ h.2.2.2;exact cg
   .simp only;omega
  .split
   .split
    .rename_i h;have:=lt _ h.2;exact cg
    .simp only;omega
   .simp only;omega
theorem aNi{p:Int->Bool}{s:Dr}(hs:0<s.length)(h:p (pk s 0)=true):1<=dV p s:=by
 obtain⟨b,r,rfl⟩:=yDF (yBE.1 hs);rw[RL,yAJ (by simpa [pk]using h)];omega
theorem aY4{s:Dr}(hs:0<s.length)(h:(dM s).2.2=0):1<=(dM s).2.1/\(dM s).2.1<=s.length:=by
 unfold dM at h ⊢;split at h
 .rename_i c;rw[yAJ c];split at h
  .cases h
  .rename_i c3;rw[yAI c3];have h1:=aNi (p:=oM) hs (by unfold oM;rw[c];rfl);have h2:=HA oM s;exact cg
 .rename_i c;rw[yAI c];split at h
  .rename_i c2;rw[yAJ c2];split at h
   .rename_i c3;rw[yAJ c3];have:=aY6 s;exact cg
   .rename_i c3;rw[yAI c3];have h1:=aNi (p:=cB) hs c2;have h2:=HA cB s;exact cg
  .rename_i c2;rw[yAI c2];split at h
   .rename_i c3;rw[yAJ c3];have h2:=HA cB (s.drop 1);rw[yBf]at h2;exact cg
   .rename_i c3;rw[yAI c3];split at h
    .rename_i c4;rw[yAJ c4];split at h
     .cases h
     .rename_i c5;rw[yAI c5];have h2:=aGY (s.drop 1) 34;rw[yBf]at h2;exact cg
    .rename_i c4;rw[yAI c4];split at h
     .rename_i c5;rw[yAJ c5];have:=aCW c5;exact cg
     .rename_i c5;rw[yAI c5];split at h
      .rename_i c6;rw[yAJ c6];exact cg
      .cases h
def kQ:Nat->List UInt8->Int->Int->List Tk->List Tk×Int×Int
 |0,_,_,cA,out=>(out,cA,0)
 |n+1,r,ln,cA,out=>
  if r=[]\/pk r 0=37 then(out,cA,0)
  else if pk r 0=32\/pk r 0=9 then kQ n (r.drop 1) ln (cA+1) out
  else if (dM r).2.2≠0 then(out,cA,(dM r).2.2)
  else if out.length=20000 then(out,cA,4)
  else kQ n (r.drop (dM r).2.1.toNat) ln (cA+(dM r).2.1) (out++[{ (dM r).1 with line:=ln,cA:=cA }])
def vR:List (List UInt8)->Int->List Tk->List Tk×(Int×Int)×Int
 | [],_,out=>(out,(0,0),0)
 |l::ls,ln,out=>
  if (kQ (l.length+1) l ln 1 out).2.2≠0 then([],(ln,(kQ (l.length+1) l ln 1 out).2.1),(kQ (l.length+1) l ln 1 out).2.2)
  else if (kQ (l.length+1) l ln 1 out).1.length=out.length then vR ls (ln+1) out
  else if (kQ (l.length+1) l ln 1 out).1.length=20000 then([],(ln,(l.length:Int)+1),4)
  else vR ls (ln+1) ((kQ (l.length+1) l ln 1 out).1++[⟨6,[10],0,(0,0),ln,(l.length:Int)+1⟩])
def nE(s:List UInt8):List Tk×(Int×Int)×Int:=if 65536<(s.length:Int)then([],(0,0),16)else vR (iE s) 1 []
theorem aCT:∀(n:Nat) (r:List UInt8) (ln cA:Int) (out:List Tk),out.length<=20000->(kQ n r ln cA out).1.length<=20000
 |0,_,_,_,_,h=>h
 |n+1,r,ln,cA,out,h=>by
  unfold kQ;split
  .exact h
  .split
   .exact aCT n _ _ _ _ h
   .split
    .exact h
    .split
     .exact h
     .exact aCT n _ _ _ _ Ab
theorem aGU:∀(s:List UInt8),(iE s).length<=s.length+1/\∀l∈iE s,l.length<=s.length
 | []=>by simp[iE]
 |b::r=>by
  obtain⟨h1,h2⟩:=aGU r;unfold iE;split
  .refine⟨by simp only[yAK];omega,λl hl=>?_⟩;rcases yAS.1 hl with rfl|hl
   .exact yAF _
   .have:=h2 l hl;rw[yAK];omega
  .split
   .rename_i x xs heq;rw[heq]at h1 h2;refine⟨by simp only[yAK]at h1 ⊢;omega,λl hl=>?_⟩;rcases yAS.1 hl with rfl|hl
    .have:=h2 x yo;simp only[yAK];omega
    .have:=h2 l (by simp[hl]);rw[yAK];omega
   .exact⟨yo,λl hl=>by simp at hl;subst hl;simp⟩
section
abbrev dA:Em (List Tk):=Em.tk.list 7
abbrev Em.pos:Em (Int×Int):=Em.pU
theorem KM{σ:Dp}{tok:Tok}{e:TypeId}{k n q:Nat}{p:PD}(h:iB σ tok e k n)(hq:σ[q]?=some (.box p)):tok≠.own q:=by
 rintro rfl
 rcases h with⟨_,h⟩ | ⟨_,id,h1,h2⟩
 .cases h
 .simp only[Tok.own.injEq]at h1;subst h1;rw[hq]at h2;cases h2
theorem VZ{σ:Dp}{tok:Tok}{e:TypeId}{k n q:Nat}{p:PD}{o:U}(h:iB σ tok e k n)(hq:σ[q]?=some (.box p)):iB (σ.set q o) tok e k n:=
 h.MM λid o' ht h'=>by
  have:q≠id:=λe=>KM h hq (by rw[ht,e])
  rw[yAd this];exact h'
theorem aCS:∀(n:Nat) (r:List UInt8) (ln cA:Int) (out:List Tk),∃x,(kQ n r ln cA out).1=out++x
 |0,_,_,_,_=>⟨[],by simp[kQ]⟩
 |n+1,r,ln,cA,out=>by
  unfold kQ;split
  .exact⟨[],yo⟩
  .split
   .exact aCS n _ _ _ _
   .split
    .exact⟨[],yo⟩
    .split
     .exact⟨[],yo⟩
     .obtain⟨x,h⟩:=aCS n (r.drop (dM r).2.1.toNat) ln (cA+(dM r).2.1) (out++[{ (dM r).1 with line:=ln,cA:=cA }]);exact⟨_::x,by rw[h,yAi];rfl⟩
variable{E:aE}(hU:aG E)
include hU
set_option maxRecDepth 10000
theorem aY2(h0:E 14=none)(h1:E 38=some (entry (cU .text .text texts λs c=>bE (c=[10]/\(s.length:Int)<4000000000) (some (iE s)))))
  (h2:E 39=some (entry (aY .text (Em.tk.MW i64 i64) λs=>bE (0<s.length/\(s.length:Int)<4000000000) (some (dM s)))))
  (s:List UInt8) (hl:(s.length:Int)<4000000000):aJ prog E 14 [.str s] ((dA.MW .pos i64).aA (nE s)):=by
 refine aJ.aV 111 h0 func14 (h:=?_)
 by_cases hq:65536<(s.length:Int)
 .have hS:nE s=([],(0,0),16):=by
   unfold nE;rw[yAJ hq]
  refine aD hq ?_;simp(disch:=first|omega|(simp;done)|(simp;omega)) [yAu,hS]<;>try rfl
 .obtain⟨hLn,hLl⟩:=aGU s;obtain⟨L,hL⟩:=gn (iE s);have hS:nE s=vR L 1 []:=by
   unfold nE;rw[yAI hq,hL]
  rw[hL]at hLn hLl;obtain⟨F,hF⟩:=gn (vR L 1 []);rw[hS,hF];refine aD (A4 hq h1 hl hL) ?_;refine Wp.dK (λm fr σ=>∃(i z:Nat) (o:List Tk) (tok:Tok) (aQ:List U),∃gg:Nat->PD,(i+m=L.length/\vR (L.drop i) ((i:Int)+1) o=F/\(o=[]\/z=7)/\iB aQ tok 36 7 o.length/\aQ[0]?=some (U.box (.agg [.int .i64 0,.int .i64 0]))/\o.length<=20000)/\fr=.str s::gg 1::.slice 0 [] .full::.ptr 0 0::.int .i64 0::.slice z (o.map Em.tk.aA) tok::gg 6::gg 7::gg 8::gg 9::gg 10::gg 11::gg 12::gg 13::gg 14::gg 15::gg 16::gg 17::gg 18::texts.aA L::.int .i64 L.length::.int .i64 i::gg 22::gg 23::gg 24::gg 25::gg 26::gg 27::gg 28::gg 29::gg 30::gg 31::gg 32::gg 33::gg 34::gg 35::gg 36::gg 37::gg 38::gg 39::gg 40::gg 41::gg 42::gg 43::gg 44::gg 45::gg 46::gg 47::gg 48::gg 49::gg 50::gg 51::gg 52::gg 53::gg 54::gg 55::gg 56::gg 57::gg 58::gg 59::gg 60::gg 61::gg 62::gg 63::gg 64::gg 65::gg 66::gg 67::gg 68::gg 69::gg 70::gg 71::gg 72::gg 73::gg 74::gg 75::gg 76::gg 77::gg 78::gg 79::gg 80::gg 81::gg 82::gg 83::gg 84::gg 85::gg 86::gg 87::gg 88::gg 89::gg 90::gg 91::gg 92::gg 93::gg 94::gg 95::gg 96::gg 97::gg 98::gg 99::gg 100::gg 101::gg 102::gg 103::gg 104::gg 105::gg 106::gg 107::gg 108::gg 109::gg 110::[]/\σ=aQ) ?_ (L.length) (by refine⟨0,0,[],.full,[U.box (.agg [.int .i64 0,.int .i64 0])],?_⟩;exact bV (⟨ym,by simpa using hF,.inl rfl,.inl ⟨rfl,rfl⟩,rfl,yo⟩))
  rintro m fr σ ⟨i,z,o,tok,aQ,gg,hI,rfl,rfl⟩
  obtain⟨hm,hsc,hz,hrow,KN,hol⟩:=hI;have aGV:0<σ.length:=(yA.1 KN).1;have hs0:∀x,(σ.set 0 x)[0]?=some x:=λx=>yAj aGV
  have aY3:σ[0]=U.box (.agg [.int .i64 0,.int .i64 0]):=by rw[yAh aGV]at KN;simpa using KN
  by_cases hi:i<L.length
  .have q1:(i:Int)<(L.length:Int):=by omega
   have hll:=hLl L[i] (yAm hi);have hcons:L.drop i=L[i]::L.drop (i+1):=yAq hi;obtain⟨l,aNe⟩:=gn (L[i]);rw[aNe]at hll hcons;obtain⟨q,hqv⟩:=gn (σ.length);obtain⟨M,hM⟩:∃M,M=m:=⟨_,rfl⟩;obtain⟨o0,KO⟩:∃o0,o0=o:=⟨_,rfl⟩;obtain⟨ln,hln⟩:∃ln:Int,(i:Int)+1=ln:=⟨_,rfl⟩;obtain⟨R,hR⟩:=gn (kQ (l.length+1) l ln 1 o0);have hR0:kQ (l.length+1) l ln 1 o=R:=by rw[<-KO];exact hR
   rw[hcons,hln]at hsc;have jL:vR (l::L.drop (i+1)) ln o0=F:=by rw[KO];exact hsc
   clear hsc;unfold vR at jL;rw[hR]at jL;have hRl:R.1.length<=20000:=by rw[<-hR];exact aCT _ _ _ _ _ (by rw[KO];exact hol)
   have ha1:∀(σ':List U) (x:U),0<σ'.length->(σ'++[x])[0]?=σ'[0]?:=λσ' x h=>yAg h
   have hq0:0<q:=ym;refine aD (A4 q1 aNe hqv hln) ?_;refine Wp.dK (λm fr σ=>∃(z fuel:Nat) (rest:List UInt8) (cA:Int) (o:List Tk) (tok:Tok) (σ1:List U),∃gg:Nat->PD,(m=rest.length/\rest.length<fuel/\kQ fuel rest ln cA o=R/\(o=[]\/z=7)/\iB σ1 tok 36 7 o.length/\σ1[0]?=some (.box (.agg [.int .i64 0,.int .i64 0]))/\σ1[q]?=some (.box (.agg [.int .i64 ln,.int .i64 cA]))/\o.length<=20000/\1<=cA/\cA+rest.length<=l.length+1)/\fr=.str s::gg 1::.slice 0 [] .full::.ptr 0 0::.int .i64 0::.slice z (o.map Em.tk.aA) tok::.int .i64 i::.str l::.int .i64 o0.length::.ptr q 0::.str rest::gg 11::gg 12::gg 13::gg 14::gg 15::gg 16::gg 17::gg 18::texts.aA L::.int .i64 L.length::.int .i64 i::gg 22::gg 23::gg 24::gg 25::gg 26::gg 27::gg 28::gg 29::gg 30::gg 31::gg 32::gg 33::gg 34::gg 35::gg 36::gg 37::gg 38::gg 39::gg 40::gg 41::gg 42::gg 43::gg 44::gg 45::gg 46::gg 47::gg 48::gg 49::gg 50::gg 51::gg 52::gg 53::gg 54::gg 55::gg 56::gg 57::gg 58::gg 59::gg 60::gg 61::gg 62::gg 63::gg 64::gg 65::gg 66::gg 67::gg 68::gg 69::gg 70::gg 71::gg 72::gg 73::gg 74::gg 75::gg 76::gg 77::gg 78::gg 79::gg 80::gg 81::gg 82::gg 83::gg 84::gg 85::gg 86::gg 87::gg 88::gg 89::gg 90::gg 91::gg 92::gg 93::gg 94::gg 95::gg 96::gg 97::gg 98::gg 99::gg 100::gg 101::gg 102::gg 103::gg 104::gg 105::gg 106::gg 107::gg 108::gg 109::gg 110::[]/\σ=σ1) ?_ (l.length) (by refine⟨z,l.length+1,l,1,o,tok,σ++[.box (.agg [.int .i64 ln,.int .i64 1])],?_⟩;exact fL (⟨rfl,ym,hR0,hz,hrow.more,by rw[yAg aGV];exact KN,by rw[<-hqv];exact yAB,hol,ym,ym⟩) (A2 KO hqv))
   rintro m fr σ ⟨z,fuel,rest,cA,o,tok,σ1,gg,hI,rfl,rfl⟩
   obtain⟨hm2,hfu,hli,fU,dZ,hb0,hbq,aCU,qY,hc2⟩:=hI;have hql:q<σ.length:=(yA.1 hbq).1;have h0l:0<σ.length:=(yA.1 hb0).1;have aCV:σ[0]=U.box (.agg [.int .i64 0,.int .i64 0]):=by rw[yAh h0l]at hb0;simpa using hb0
   have aNf:∀(y x:U),((σ.set q y).set 0 x)[0]?=some x:=λy x=>yAj (by rw[yAD];exact h0l)
   have FC:σ[q]=U.box (.agg [.int .i64 ln,.int .i64 cA]):=by rw[yAh hql]at hbq;simpa using hbq
   obtain⟨f,rfl⟩:∃f,fuel=f+1:=⟨fuel-1,ym⟩;unfold kQ at hli
   by_cases hre:rest=[]
   .subst hre;rw[yAJ (.inl rfl)]at hli;have hpre:=aCS (l.length+1) l ln 1 o0;rw[hR]at hpre;rw[<-hli]at jL hpre;simp only[ne_eq,yBr,yAO]at jL hpre
    by_cases ho:o.length=o0.length
    .have hoo:o=o0:=by
      exact kg
     rw[yAJ ho]at jL;refine aD (A3 ho hbq FC) ?_;exact lg
    .rw[yAI ho]at jL;have ho':¬(o.length:Int)=(o0.length:Int):=ym;have FD:∀x,(σ.set q x)[0]?=σ[0]?:=λx=>yAd ym
     have hsetq:∀x,(σ.set q x)[q]?=some x:=λx=>yAj hql
     have hwl:IntKind.i64.wrap ((l.length:Int)+1)=(l.length:Int)+1:=wrap_i64 ym ym
     by_cases hoc:o.length=20000
     .rw[yAJ hoc]at jL;have HL:(o.length:Int)=20000:=ym;have aGW:¬20000=o0.length:=ym;have aGX:¬(20000:Int)=(o0.length:Int):=ym;refine aD (A13 ho ho' hbq FC hwl hoc HL aGW aGX FD hsetq hb0 aCV) ?_;exact tf
     .rw[yAI hoc]at jL;have HL:¬(o.length:Int)=20000:=ym;have oS:=VZ (o:=.box (.agg [.int .i64 ln,.int .i64 ((l.length:Int)+1)])) dZ hbq
      focus
       obtain⟨bP,σ3,hap,hr',hkeep,_⟩:=vD (P:=prog) (t:=29) (e:=36) (k:=7) (b:=64) (s:=z) (xs:=o.map Em.tk.aA) (p:=Em.tk.aA ⟨6,[10],0,(0,0),ln,(l.length:Int)+1⟩) (tk:=.any) underlying29 yp (by simpa using fU) (by rw[yAe];exact oS) zx zx;have hn0:tok≠.own 0:=KM dZ hb0;have hk0:=hkeep 0 _ hn0 ((FD _).trans hb0);simp only[KP]at hap;refine aD (A10 ho ho' hbq FC hwl hoc HL FD hsetq hap) ?_;exact ez
   .have hrp:0<rest.length:=yBE.2 hre;have PL:(rest==[])=false:=by simpa using hre
    have PM:rest.isEmpty=false:=by simpa using hre
    have hpk:=pV hrp
    by_cases c1:pk rest 0=37
    .have eA:(rest[0].toNat:Int)=37:=by omega
     rw[yAJ (.inr c1)]at hli;have hpre:=aCS (l.length+1) l ln 1 o0;rw[hR]at hpre;rw[<-hli]at jL hpre;simp only[ne_eq,yBr,yAO]at jL hpre
     by_cases ho:o.length=o0.length
     .have hoo:o=o0:=by
       exact kg
      rw[yAJ ho]at jL;refine aD (A8 hre PL PM hrp eA ho hbq FC) ?_;exact lg
     .rw[yAI ho]at jL;have ho':¬(o.length:Int)=(o0.length:Int):=ym;have FD:∀x,(σ.set q x)[0]?=σ[0]?:=λx=>yAd ym
      have hsetq:∀x,(σ.set q x)[q]?=some x:=λx=>yAj hql
      have hwl:IntKind.i64.wrap ((l.length:Int)+1)=(l.length:Int)+1:=wrap_i64 ym ym
      by_cases hoc:o.length=20000
      .rw[yAJ hoc]at jL;have HL:(o.length:Int)=20000:=ym;have aGW:¬20000=o0.length:=ym;have aGX:¬(20000:Int)=(o0.length:Int):=ym;refine aD (A18 hre PL PM hrp eA ho ho' hbq FC hwl hoc HL aGW aGX FD hsetq hb0 aCV) ?_;exact tf
      .rw[yAI hoc]at jL;have HL:¬(o.length:Int)=20000:=ym;have oS:=VZ (o:=.box (.agg [.int .i64 ln,.int .i64 ((l.length:Int)+1)])) dZ hbq
       focus
        obtain⟨bP,σ3,hap,hr',hkeep,_⟩:=vD (P:=prog) (t:=29) (e:=36) (k:=7) (b:=64) (s:=z) (xs:=o.map Em.tk.aA) (p:=Em.tk.aA ⟨6,[10],0,(0,0),ln,(l.length:Int)+1⟩) (tk:=.any) underlying29 yp (by simpa using fU) (by rw[yAe];exact oS) zx zx;have hn0:tok≠.own 0:=KM dZ hb0;have hk0:=hkeep 0 _ hn0 ((FD _).trans hb0);simp only[KP]at hap;refine aD (A15 hre PL PM hrp eA ho ho' hbq FC hwl hoc HL FD hsetq hap) ?_;exact ez
    .have eA:¬(rest[0].toNat:Int)=37:=by omega
     rw[yAI (by rintro(h|h);exact hre h;exact c1 h)]at hli
     by_cases c2:pk rest 0=32\/pk rest 0=9
     .rw[yAJ c2]at hli;have hw:IntKind.i64.wrap (cA+1)=cA+1:=wrap_i64 ym ym;have oS:=VZ (o:=.box (.agg [.int .i64 ln,.int .i64 (cA+1)])) dZ hbq;have FD:∀x,(σ.set q x)[0]?=σ[0]?:=λx=>yAd ym
      have hsetq:∀x,(σ.set q x)[q]?=some x:=λx=>yAj hql
      have hlen:(rest.drop 1).length=rest.length-1:=yBf ..
      by_cases c3:pk rest 0=32
      .have mH:(rest[0].toNat:Int)=32:=by omega
       refine aD (A9 hre PL PM hrp eA mH hbq FC @hw) ?_;exact ij
      .have mH:¬(rest[0].toNat:Int)=32:=by omega
       have gA:(rest[0].toNat:Int)=9:=ym;refine aD (A10 hre PL PM hrp eA mH gA hbq FC @hw) ?_;exact ij
     .rw[yAI c2]at hli;have mH:¬(rest[0].toNat:Int)=32:=ym;have gA:¬(rest[0].toNat:Int)=9:=ym;obtain⟨t,n,e,hT⟩:∃t n e,dM rest=(t,n,e):=⟨_,_,_,rfl⟩;have htp:=λh=>aY4 (s:=rest) hrp h
      rw[hT]at hli htp;simp only at hli htp;have hrl:(rest.length:Int)<4000000000:=ym;have hx0:∀x,(σ++[x])[0]?=some (.box (.agg [.int .i64 0,.int .i64 0])):=λx=>by rw[yAg h0l];exact hb0
      have hxq:∀x,(σ++[x])[q]?=some (.box (.agg [.int .i64 ln,.int .i64 cA])):=λx=>by rw[yAg hql];exact hbq
      have hxs:∀x y,((σ++[x]).set 0 y)[0]?=some y:=λx y=>yAj Ae
      have aNg:∀x y:U,(σ.set 0 y++[x])[0]?=some y:=λx y=>by rw[yAg (by rw[yAD];exact h0l)];exact yAj h0l
      by_cases he:e=0
      .subst he;obtain⟨OM,hn2⟩:=htp rfl;obtain⟨k,rfl⟩:∃k:Nat,n=(k:Int):=⟨n.toNat,ym⟩;rw[yAI yo]at hli
       by_cases hoc:o.length=20000
       .rw[yAJ hoc]at hli;rw[<-hli]at jL;rw[yAJ yo]at jL;have HL:(o.length:Int)=20000:=ym;refine aD (A18 hre PL PM hrp eA mH gA hbq FC h2 hrl hT hoc HL hx0 hxq hb0 aCV) ?_;exact qx
       .rw[yAI hoc]at hli;have HL:¬(o.length:Int)=20000:=ym;have e1:k<=rest.length:=ym;have hw:IntKind.i64.wrap (cA+(k:Int))=cA+(k:Int):=wrap_i64 ym ym;have oS:iB (σ++[.box (Em.tk.aA { t with line:=ln,cA:=cA })]) tok 36 7 o.length:=dZ.more;rw[yBk]at hli;have hlen:(rest.drop k).length=rest.length-k:=yBf ..;have hst:∀x y,(σ++[x]).set σ.length y=σ++[y]:=λx y=>yo
        focus
         obtain⟨bP,σ3,hap,hr',hkeep,_⟩:=vD (P:=prog) (t:=29) (e:=36) (k:=7) (b:=64) (s:=z) (xs:=o.map Em.tk.aA) (p:=Em.tk.aA { t with line:=ln,cA:=cA }) (tk:=.any) underlying29 yp (by simpa using fU) (by rw[yAe];exact oS) zx zx;have hk0:=hkeep 0 _ (KM dZ hb0) (hx0 _);have hkq:=hkeep q _ (KM dZ hbq) (hxq _);have aNh:q<σ3.length:=(yA.1 hkq).1;have aY5:σ3[q]=U.box (.agg [.int .i64 ln,.int .i64 cA]):=by rw[yAh aNh]at hkq;simpa using hkq
         have yK:=VZ (o:=.box (.agg [.int .i64 ln,.int .i64 (cA+(k:Int))])) (by simpa using hr') hkq;have FD:∀x,(σ3.set q x)[0]?=σ3[0]?:=λx=>yAd ym
         have hsetq:∀x,(σ3.set q x)[q]?=some x:=λx=>yAj aNh
         simp only[KP]at hap;refine aD (A14 hre PL PM hrp eA mH gA hbq FC h2 hrl hT hoc HL) ?_;apply Wp.aCj hU [(9,q),(11,σ.length)] [(some q,some σ.length)] zb ⟨⟨0,rfl⟩,⟨0,rfl⟩,trivial⟩ yp ⟨ym,trivial⟩;refine aD (A10 hbq FC hx0 hxq hst hap hkq aY5 @hw e1) ?_;refine aL.normal ((rest.drop k).length) ym ⟨7,f,rest.drop k,cA+(k:Int),o++[{ t with line:=ln,cA:=cA }],bP,_,bV (⟨rfl,ym,hli,.inr rfl,by simpa using yK,by rw[FD];exact hk0,hsetq _,Ab,ym,ym⟩)⟩
      .rw[yAJ he]at hli;rw[<-hli]at jL;rw[yAJ he]at jL;refine aD (A17 hre PL PM hrp eA mH gA hbq FC h2 hrl hT @he hx0 hxq hb0 aCV) ?_;exact qx
  .have q1:¬(i:Int)<(L.length:Int):=by omega
   have he:i=L.length:=ym;rw[he,yCe]at hsc;have jL:F=(o,(0,0),0):=hsc.symm;refine aD (A3 q1 KN aY3) ?_;simp(disch:=first|omega|(simp;done)|(simp;omega)) [yAu,jL,aSy hz,hs0]<;>try rfl
end
abbrev aNk:Em Int:=Em.int .i64
def KK:Nat->List PD->List U->Option (PD×List U):=entry (aY aNk .text λn=>bE (-9223372036854775808<=n/\n<=9223372036854775807) (some (Lib.itoa n)))
theorem NG(n:Int)(h:-9223372036854775808<=n/\n<=9223372036854775807)(fl:Nat)(σ:List U):KK fl [.int .i64 n] σ=some (.str (Lib.itoa n),σ):=by
 have e:aNk.dec (.int .i64 n)=some n:=Em.cJ rfl;unfold KK entry aY;simp only[e];rw[dC h];rfl
def V3(l:List (List UInt8))(s:List UInt8):Prop:=l≠[]/\l.length<=1000/\(Lib.join l s).length<=1000000
def HI:Nat->List PD->List U->Option (PD×List U):=entry (cU (Em.text.list 1) .text .text λl s=>bE (V3 l s) (some (Lib.join l s)))
end Go.Kz
namespace Go.Kz
section
open Go Go.Proofs Go.RowKit
theorem aMi{E:aE}(hE:aF prog E):aF prog (E.add 40 KK):=by
 refine hE.J5 ⟨_,func40,rfl⟩ λargs c vs p hg hs hv=>?_
 obtain⟨n,z,ha,hz,rfl⟩:=aSb hg;obtain⟨⟨h0,h1⟩,fU⟩:=cX hz;simp only[yAb]at fU;subst fU;have jR:=hv.strip;rw[ha]at jR;obtain⟨v,rfl,h2⟩:=TY jR;exact bf
theorem aWQ{E:aE}(hE:aF prog E):aF prog (E.add 45 HI):=by
 refine hE.J5 ⟨_,func45,rfl⟩ λargs c vs p hg hs hv=>?_
 obtain⟨l,s,z,ha,hz,rfl⟩:=YJ hg;obtain⟨⟨hne,hl,hjl⟩,fU⟩:=cX hz;simp only[yAb]at fU;subst fU;have jR:=hv.strip;rw[ha]at jR;obtain⟨v,u,rfl,h1,h2⟩:=MI jR;rw[h2.EL];obtain⟨A,capx,flx,rfl,a1,a2,a3,a4,a5,a6,a7,a8⟩:=h1.oH;have hfl:(l.map Em.text.aA).flatMap PD.cells=l.map PD.str:=by
  have:∀l:List (List UInt8),(l.map Em.text.aA).flatMap PD.cells=l.map PD.str:=λl=>by
   induction l with
   |nil=>rfl
   |cons x l ih=>rw[yAX,yBg,ih];rfl
  exact this l
 rw[yAe]at a4;rw[T6 hne,yCn]at a4;rw[hfl]at a7;have hl0:0<l.length:=yBE.2 hne;obtain⟨ad,rfl,hc0,_⟩:=a6 0 (flx[0]' ym) yo;obtain⟨bk,o,spot⟩:=ad;have hsp:spot=none:=by
  cases spot with
  |none=>rfl
  |some q=>
   have:((⟨bk,o,some q⟩:Addr).add 0).spot.isSome=true:=ze;unfold World.cell? at hc0;split at hc0
   .rw[yAJ this]at hc0;cases hc0
   .cases hc0
 subst hsp;have hbk:bk<c.w.heap.size:=by
  have:=M5 hc0
  rwa [aZb]at this
 have hx:(l.map λs:List UInt8=>(⟨s.toArray⟩:ByteArray)).map (·.data.toList)=l:=by
  rw[yBc]
  conv=>rhs;rw[<-List.map_id l]
  exact yAG λx _=>yo
 have hj:=Tryz.strings_Join bk o capx (l.map λs:List UInt8=>(⟨s.toArray⟩:ByteArray)) ⟨s.toArray⟩ c.w (λj x hjx=>by
  rw[yAo]at hjx;cases hlj:l[j]? with
  |none=>rw[hlj]at hjx;cases hjx
  |some y=>
   rw[hlj]at hjx;simp only[yAC,yAb]at hjx;subst hjx;have hjl:j<flx.length:=by rw[a4];exact(yA.1 hlj).1
   obtain⟨ZC,e9,h9,_⟩:=a6 j flx[j] (yAh hjl);cases e9;have:=(a7 j flx[j] (.str y) (yAh hjl) (by rw[yAo,hlj];rfl)).EL;rw[<-KE,h9,this]) hbk zx (by rw[yAe];rw[yAe]at a1;exact a1) (by rw[hx];exact yBe hjl ym)
 rw[yAe,hx]at hj;rw[yAe];refine yBp hj λe w' he=>?_
 obtain⟨rfl,hB⟩:=he;refine⟨_,rfl,⟨hB.os,hB.tape,hB.output,hB.size,λk hk _=>hB.block k hk⟩,λ_=>?_⟩;exact .str _
end
end Go.Kz
end
