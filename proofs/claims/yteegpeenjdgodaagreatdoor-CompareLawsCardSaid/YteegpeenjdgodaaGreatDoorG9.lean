/- Steps of the proof. -/
import Derived.Test.YteegpeenjdgodaaGreatDoorG3
import Derived.Lib.Itoa
import Derived.Lib.ItoaNum
import Derived.Lib.Join
import Derived.Test.YteegpeenjdgodaaGreatDoorG8
import Derived.Shelf.Strings.OnBuilder
import Derived.Shelf.Spec.SlicesInsert
import Derived.Test.YteegpeenjdgodaaGreatDoorG7
set_option linter.all false
set_option maxHeartbeats 40000000
set_option maxRecDepth 100000
open Go.Proofs.Tryz
noncomputable section
namespace Go.Kz
open Go Go.Proofs
abbrev aGm:Em Int:=Em.int .i64
def L3:Nat->List PD->List aB->Option (PD×List aB):=entry (bZ aGm .text λn=>dP (-9223372036854775808<=n/\n<=9223372036854775807) (some (Lib.itoa n)))
theorem aGf(n:Int)(h:-9223372036854775808<=n/\n<=9223372036854775807)(fl:Nat)(σ:List aB):L3 fl [.int .i64 n] σ=some (.str (Lib.itoa n),σ):=by
 have e:aGm.dec (.int .i64 n)=some n:=Em.cM rfl;unfold L3 entry bZ;simp only[e];rw[eV h];rfl
def QW(l:List (List UInt8))(s:List UInt8):Prop:=l≠[]/\l.length<=1000/\(Lib.join l s).length<=1000000
def C5:Nat->List PD->List aB->Option (PD×List aB):=entry (dZ (Em.text.list 1) .text .text λl s=>dP (QW l s) (some (Lib.join l s)))
theorem aSb(l:List (List UInt8))(s:List UInt8)(h:QW l s)(t:Tok)(fl:Nat)(σ:List aB):C5 fl [.slice 1 (l.map PD.str) t,.str s] σ=some (.str (Lib.join l s),σ):=by
 have e1:(Em.text.list 1).dec (.slice 1 (l.map PD.str) t)=some l:=Em.cM (by
  rw[PD.r8];show _=PD.slice (sz 1 l) (l.map PD.str) .any
  rw[s7 h.1,yAI (by simp[h.1]),yBz];rfl)
 have e2:Em.text.dec (.str s)=some s:=Em.cM rfl;unfold C5 entry dZ;simp only[e1,e2];rw[eV h];rfl
theorem aGg{k:Nat}(hk:k=1){xs:Gc}{l:List (List UInt8)}(hxs:xs=l.map PD.str){s:Gd}(h:QW l s)(t:Tok)(fl:Nat)(σ:List aB):C5 fl [.slice k xs t,.str s] σ=some (.str (Lib.join l s),σ):=by
 subst hk hxs;exact aSb l s h t fl σ
end Go.Kz
namespace Go.Kz
section
open Go Go.Proofs Go.RowKit
theorem aR2{E:aE}(hE:aF prog E):aF prog (E.add 65 L3):=by
 refine hE.H9 ⟨_,func65,rfl⟩ λargs c vs p hg hs hv=>?_
 obtain⟨n,z,ha,hz,rfl⟩:=aP8 hg;obtain⟨⟨h0,h1⟩,l8⟩:=fG hz;simp only[yAb]at l8;subst l8;have rA:=hv.strip;rw[ha]at rA;obtain⟨v,rfl,h2⟩:=P9 rA;exact cm
theorem aR5{E:aE}(hE:aF prog E):aF prog (E.add 66 C5):=by
 refine hE.H9 ⟨_,func66,rfl⟩ λargs c vs p hg hs hv=>?_
 obtain⟨l,s,z,ha,hz,rfl⟩:=aP9 hg;obtain⟨⟨hne,hl,hjl⟩,l8⟩:=fG hz;simp only[yAb]at l8;subst l8;have rA:=hv.strip;rw[ha]at rA;obtain⟨v,u,rfl,h1,h2⟩:=LI rA;rw[h2.LJ];obtain⟨A,capx,flx,rfl,a1,a2,a3,a4,a5,a6,a7,a8⟩:=h1.oF;have hfl:(l.map Em.text.aA).flatMap PD.cells=l.map PD.str:=by
  have:∀l:List (List UInt8),(l.map Em.text.aA).flatMap PD.cells=l.map PD.str:=λl=>by
   induction l with
   |nil=>rfl
   |cons x l ih=>rw[yAS,yBr,ih];rfl
  exact this l
 rw[yAe]at a4;rw[s7 hne,yDc]at a4;rw[hfl]at a7;have hl0:0<l.length:=yDe.2 hne;obtain⟨ad,rfl,hc0,_⟩:=a6 0 (flx[0]' Ah) Ai;obtain⟨bk,o,spot⟩:=ad;have hsp:spot=none:=by
  cases spot with
  |none=>rfl
  |some q=>
   have:((⟨bk,o,some q⟩:Addr).add 0).spot.isSome=true:=Av;unfold World.cell? at hc0;split at hc0
   .rw[yAJ this]at hc0;cases hc0
   .cases hc0
 subst hsp;have hbk:bk<c.w.heap.size:=by
  have:=zQ hc0
  rwa [Y6]at this
 have hx:(l.map λs:List UInt8=>(⟨s.toArray⟩:ByteArray)).map (·.data.toList)=l:=by
  rw[yBz]
  conv=>rhs;rw[<-List.map_id l]
  exact yAG λx _=>Ai
 have hj:=Tryz.strings_Join bk o capx (l.map λs:List UInt8=>(⟨s.toArray⟩:ByteArray)) ⟨s.toArray⟩ c.w (λj x hjx=>by
  rw[yAo]at hjx;cases hlj:l[j]? with
  |none=>rw[hlj]at hjx;cases hjx
  |some y=>
   rw[hlj]at hjx;simp only[yAC,yAb]at hjx;subst hjx;have hjl:j<flx.length:=by rw[a4];exact(yA.1 hlj).1
   obtain⟨JM,e9,h9,_⟩:=a6 j flx[j] (yAh hjl);cases e9;have:=(a7 j flx[j] (.str y) (yAh hjl) (by rw[yAo,hlj];rfl)).LJ;rw[<-tJ,h9,this]) hbk Bg (by rw[yAe];rw[yAe]at a1;exact a1) (by rw[hx];exact yAV hjl Ah)
 rw[yAe,hx]at hj;rw[yAe];refine yBA hj λe w' he=>?_
 obtain⟨rfl,hB⟩:=he;refine⟨_,rfl,⟨hB.os,hB.tape,hB.output,hB.size,λk hk _=>hB.block k hk⟩,λ_=>?_⟩;exact .str _
end
section
open Go Go.Proofs Go.RowKit Go.Lib
def jX(f ov t e k:Nat):Prop:=(f=112/\ov=137/\t=31/\e=48/\k=6)\/(f=114/\ov=139/\t=32/\e=53/\k=5)\/(f=116/\ov=141/\t=51/\e=56/\k=4)\/(f=120/\ov=143/\t=33/\e=58/\k=5)
theorem jX.ut{f ov t e k:Nat}(h4:jX f ov t e k):prog.underlying t=some (.slice e):=by
 exact ey
theorem jX.hz{f ov t e k:Nat}(h4:jX f ov t e k)(w:World):(Go.sizeOf e).run prog w=.ok k w:=by
 exact ey
theorem jX.hk{f ov t e k:Nat}(h4:jX f ov t e k):k=4\/k=5\/k=6:=by unfold jX at h4;omega
theorem kk{G:Prop}(h:G:=by rcases hk with rfl|rfl|rfl<;>omega):G:=h
def kW(k:Nat)(cur:Array Value)(i n:Nat):List Value:=(cur.toList.drop (i*k)).take ((n-i)*k)
def uE(k:Nat)(cur:Array Value)(i n:Nat):Array Value:=(cur.toList.take ((i+1)*k)++kW k cur i n++cur.toList.drop ((i+1)*k+(kW k cur i n).length)).toArray
def LR(k:Nat)(cur:Array Value)(i n:Nat)(vs:List Value):Array Value:=((uE k cur i n).toList.take (i*k)++vs++(uE k cur i n).toList.drop (i*k+vs.length)).toArray
theorem aQB{i n c:Nat}(hi:i<n)(hroom:n+1<=c)(hcm:c<=9223372036854775807):(¬((i:Int)=(n:Int)))/\(IntKind.i64.wrap ((n:Int)+1)=(n:Int)+1)/\(IntKind.i64.wrap ((i:Int)+1)=(i:Int)+1)/\(wrap64 ((n:Int)+1)=(n:Int)+1)/\(wrap64 ((i:Int)+1)=(i:Int)+1)/\((0:Int)<=(n:Int)+1)/\((0:Int)<=(i:Int)+1)/\(¬((c:Int)<(n:Int)+1))/\((n:Int)+1<=(c:Int))/\((i:Int)+1<=(n:Int)+1)/\((i:Int)<=(n:Int)+1)/\(¬(c=i+1))/\(¬(c=i))/\(((n:Int)+1).toNat=n+1)/\(((i:Int)+1).toNat=i+1):=
 ⟨Ah,Am,Am,(LP Ah Ah),(LP Ah Ah),Ah,Ah,Ah,Ah,Ah,Ah,Ah,Ah,Ah,Ah⟩
theorem aQC{f ov t e k:Nat}(h4:jX f ov t e k)(w:World)(b n c i vc:Nat)(a:Addr)(cur:Array Value)(T:TypeId)(vs:List Value){cA:Gf}{TA:TypeId}{fz:Nat×Nat}
  (hi:i<n) (hroom:n+1<=c) (hc:c<=maxLen) (hb:w.heap[b]?=some (.cells cur T (0,0))) (hcur:cur.size=c*k) (hab:a.block≠b) (ha:w.heap[a.block]?=some (.cells cA TA fz)) (ha0:cA.size≠0)
  (hvl:vs.length=k) (hvs:∀(j:Nat) (v:Value),vs[j]?=some v->w.cell? (a.add j)=some v) (h1c:∀v∈cur.toList,v.oneCell'=true) (h1v:∀v∈vs,v.oneCell'=true) :
  Calls prog f #[.slice (some ⟨b,0,none⟩) n c,.int .i64 i,.slice (some a) 1 vc] w λe w'=>
   e=.returned (.slice (some ⟨b,0,none⟩) (n+1) c)/\w'=(w.drew.setRow b (uE k cur i n)).setRow b (LR k cur i n vs):=by
 have mixed:prog.follows .mixedOrders=true:=Aj;have u3:=yAM (P:=prog) underlying3;have u4:=yAM (P:=prog) underlying4;have mU:=h4.ut;have ut:=yAM (P:=prog) mU;have hk:=h4.hk;have hz:∀w,(Go.sizeOf e).run prog w=.ok k w:=h4.hz;have hov:∀bo lb cb,(callFunc ov #[.slice (some a) 1 vc,.slice (some ⟨b,bo,none⟩) lb cb]).run prog w=.ok (.value (.bool false)) w:=λbo lb cb=>by
  unfold jX at h4;rcases h4 with⟨rfl,rfl,rfl,rfl,rfl⟩ | ⟨rfl,rfl,rfl,rfl,rfl⟩ | ⟨rfl,rfl,rfl,rfl,rfl⟩ | ⟨rfl,rfl,rfl,rfl,rfl⟩
  all_goals
   first|rw[yDV func137 Aj Aj Aj (e:=Extern.SlicesOverlaps.overlaps #[31,31] #[4]) Aj] | rw[yDV func139 Aj Aj Aj (e:=Extern.SlicesOverlaps.overlaps #[32,32] #[4]) Aj] | rw[yDV func141 Aj Aj Aj (e:=Extern.SlicesOverlaps.overlaps #[51,51] #[4]) Aj] | rw[yDV func143 Aj Aj Aj (e:=Extern.SlicesOverlaps.overlaps #[33,33] #[4]) Aj]
   rw[aQv w _ 4 _ mU _ hz a ⟨b,bo,none⟩ 1 vc lb cb hab ha ha0 hb];rfl
 have hcm:c<=9223372036854775807:=hc;obtain⟨l8,hw0,hw1,wR,X1,hb0,hb1,hb2,hb3,hb4,hb5,hq1,hq2,NH,uA⟩:=aQB hi hroom hcm;have hDl:(kW k cur i n).length=(n-i)*k:=by
  exact ru
 have hAs:(uE k cur i n).size=cur.size:=by
  unfold uE;simp only[yCq,yAa,yAt,yBg,yBj,hDl,hcur];exact kk
 have w6:∀v∈kW k cur i n,v.oneCell'=true:=λv hv=>h1c v (yBi (yAy hv))
 have h1A:∀v∈(uE k cur i n).toList,v.oneCell'=true:=by
  unfold uE;intro v hv;exact mz
 have hbd:w.drew.heap[b]?=some (.cells cur T (0,0)):=hb;have Y7:∀ty dc sc,(Builtin.copy_ #[t,t] ty #[.slice (some ⟨b,(i+1)*k,none⟩) (n-i) dc,.slice (some ⟨b,i*k,none⟩) (n+1-i) sc]).run prog w.drew=.ok (goInt (n-i:Nat)) (w.drew.setRow b (uE k cur i n)):=λty dc sc=>
  QJ mU hz w.drew b ((i+1)*k) _ dc (some ⟨b,i*k,none⟩) _ sc (n-i) (Nat.min_eq_right (Nat.sub_le_sub_right (yCs n) i)) (kW k cur i n) hDl (λj v hj=>⟨_,rfl,by
   rw[tJ];simp only[World.cell?,hbd];unfold kW at hj;rw[yAv]at hj;split at hj
   .exact ju
   .cases hj⟩) hbd (by rw[hDl,hcur];exact kk) w6
 obtain⟨W1,LU⟩:∃W1,W1=w.drew.setRow b (uE k cur i n):=⟨_,rfl⟩;have hb1:W1.heap[b]?=some (.cells (uE k cur i n) T (0,0)):=by rw[LU];exact yBV _ _ cur _ T (0,0) hbd
 have Y8:∀ty dc sc,(Builtin.copy_ #[t,t] ty #[.slice (some ⟨b,i*k,none⟩) (n+1-i) dc,.slice (some a) 1 sc]).run prog W1=.ok (goInt (1:Nat)) (W1.setRow b (LR k cur i n vs)):=λty dc sc=>
  QJ mU hz W1 b (i*k) _ dc (some a) 1 sc 1 (yBK (Nat.sub_pos_of_lt (Nat.lt_succ_of_lt hi))) vs kk (λj v hj=>⟨_,rfl,by
   have:=hvs j v hj;rw[LU];have hbl:(a.add j).block=a.block:=Dx;unfold World.cell? at this ⊢;rw[hbl]at this ⊢;rw[yBP _ _ _ _ (λh=>hab h)];exact this⟩) hb1 (by rw[hAs,hcur,hvl];exact kk) h1v
 subst LU;unfold jX at h4;rcases h4 with⟨rfl,rfl,rfl,rfl,rfl⟩ | ⟨rfl,rfl,rfl,rfl,rfl⟩ | ⟨rfl,rfl,rfl,rfl,rfl⟩ | ⟨rfl,rfl,rfl,rfl,rfl⟩
 all_goals
  first|go_enter func112,Tryz.ntmps112|go_enter func114,Tryz.ntmps114|go_enter func116,Tryz.ntmps116|go_enter func120,Tryz.ntmps120
  go_wp2_with (simp only[hov])
  go_region_law_o (refine step_copy_runI rfl _ _ _ _ rfl _ _ Dm Dm (Y7 _ _ _) ?_)
  go_wp2_with (at_builtin;refine wpList_copy_runI _ rfl _ _ _ _ rfl _ _ rfl rfl (Y8 _ _ _) ?_)
  go_ret
  exact⟨rfl,rfl⟩
end
section
open Go Go.Proofs Go.RowKit Go.Lib
def w7(k:Nat)(zc:Array Value)(cur:Array Value)(i n G:Nat):Array Value:=(cur.toList.take (i*k)).toArray++Builtin.zeroCells zc (n+1-i)++Builtin.zeroCells zc (G-(n+1))
def jY(k:Nat)(R:Array Value)(i:Nat)(vs:List Value):Array Value:=(R.toList.take (i*k)++vs++R.toList.drop (i*k+vs.length)).toArray
def IH(k:Nat)(S:Array Value)(i:Nat)(D:List Value):Array Value:=(S.toList.take ((i+1)*k)++D++S.toList.drop ((i+1)*k+D.length)).toArray
theorem aQM{i n:Nat}(hi:i<n):Nat.min 1 (n+1-i)=1:=by simp only[Nat.min_def];split<;>omega
theorem aQN{i n:Nat}:Nat.min (n-i) (n-i)=n-i:=Nat.min_self _
theorem aQO{k:Nat}(hk:k=4\/k=5\/k=6){i n r l:Nat}(hi:i<n)(hr:n*k+k<=r)(hl:l=k):i*k+l<=r:=kk
theorem aQP{k:Nat}(hk:k=4\/k=5\/k=6){i n r s l:Nat}(hi:i<n)(hr:n*k+k<=r)(hs:s=r)(hl:l=(n-i)*k):(i+1)*k+l<=s:=kk
theorem aQQ{k:Nat}(hk:k=4\/k=5\/k=6){R:Gf}{i n:Nat}{vs:Ge}(hi:i<n)(hr:n*k+k<=R.size)(hvl:vs.length=k):(jY k R i vs).size=R.size:=by
 unfold jY;simp only[yCq,yAa,yAt,yBg,yBj,hvl];exact kk
theorem aQR{k:Nat}(hk:k=4\/k=5\/k=6){cur:Gf}{i n c:Nat}(hcur:cur.size=c*k)(hi:i<n)(hnc:n<=c):(kW k cur i n).length=(n-i)*k:=by
 exact ru
theorem aQS{k:Nat}(hk:k=4\/k=5\/k=6){n G:Nat}(h:n+1<=G):n*k+k<=G*k:=kk
theorem aQT{k:Nat}(hk:k=4\/k=5\/k=6){zc cur:Gf}{i n c G:Nat}(hzs:zc.size=k)(hcur:cur.size=c*k)(hi:i<n)(hnc:n<=c)(hge:n+1<=G):(w7 k zc cur i n G).size=G*k:=by
 have h1:(cur.toList.take (i*k)).length=i*k:=by rw[yAt,yBj,hcur];exact kk
 unfold w7;simp only[yDP,yCq,h1,yDu,hzs];exact kk
theorem aQL{f ov t e k:Nat}(h4:jX f ov t e k)(w:World)(b n c i vc:Nat)(a:Addr)(cur:Array Value)(T:TypeId)(vs:List Value){cA:Gf}{TA:TypeId}{fz:Nat×Nat}
  (hi:i<n) (hnc:n<=c) (hroom:c<n+1) (hn:n<=200) (hb:w.heap[b]?=some (.cells cur T (0,0))) (hcur:cur.size=c*k) (ha:w.heap[a.block]?=some (.cells cA TA fz))
  (hvl:vs.length=k) (hvs:∀(j:Nat) (v:Value),vs[j]?=some v->w.cell? (a.add j)=some v) (h1c:∀v∈cur.toList,v.oneCell'=true) (h1v:∀v∈vs,v.oneCell'=true)
  {inf:TypeInfo} {z:Value} (hin:prog.info? e=some inf) (hzr:inf.zero=some z) (his:inf.size=k) (hib:inf.bytes<=1000) (hzs:z.cells.size=k) (hz1:∀v∈z.cells.toList,v.oneCell'=true) (G:Nat) (hG:Kept (G=grownCap w (n+1) c e)) :
  Calls prog f #[.slice (some ⟨b,0,none⟩) n c,.int .i64 i,.slice (some a) 1 vc] w λen w'=>
   en=.returned (.slice (some ⟨w.heap.size,0,none⟩) (n+1) G) /\
   w'=((w.drew.alloc (.cells (w7 k z.cells cur i n G) e)).setRow w.heap.size (jY k (w7 k z.cells cur i n G) i vs)).drew.setRow w.heap.size (IH k (jY k (w7 k z.cells cur i n G) i vs) i (kW k cur i n)):=by
 have mixed:prog.follows .mixedOrders=true:=Aj;have u3:=yAM (P:=prog) underlying3;have u4:=yAM (P:=prog) underlying4;have mU:=h4.ut;have ut:=yAM (P:=prog) mU;have hk:=h4.hk;have hz:∀w,(Go.sizeOf e).run prog w=.ok k w:=h4.hz;have hge:n+1<=G:=by rw[hG.out];exact yDs _ _ _ _
 have hbw:b<w.heap.size:=gJ hb;have haw:a.block<w.heap.size:=gJ ha;obtain⟨l8,hw0,hw1,wR,X1,hw5,hw4,hb2,hb5,hb6,hb7,hb8,hb9,hq1,hq2,LV,uA,hik⟩:=aQy hi hnc hroom hn hge;have hic:i<=c:=yCx (yBT hi hnc);have hold:(Builtin.firstCells inf.size i (.slice (some ⟨b,0,none⟩) i c)).run prog w.drew=.ok (cur.toList.take (i*k)).toArray w.drew:=by
  rw[his];exact BV (by rw[yAt,yBj,hcur,yBK];exact yBO _ hic) λj v hj=>by
   rw[tJ];simp only[World.cell?,Y5,hb,yAp];rw[yAv]at hj;split at hj
   .simpa using hj
   .cases hj
 have hrz:∀ty,(Builtin.append_ #[t,3] ty #[.slice (some ⟨b,0,none⟩) i c,.int .i64 ((n:Int)+1-i)]).run prog w =
   .ok (.slice (some ⟨w.heap.size,0,none⟩) (n+1) G) (w.drew.alloc (.cells (w7 k z.cells cur i n G) e)):=λty=>by
  obtain⟨m1,m2,m3,m4,m5⟩:=aQz hi hnc hroom hn hib;have h:=Lib.run_append_grow_zeros (P:=prog) w t 3 ty e inf z .i64 .i64 mU underlying3 hin hzr (some ⟨b,0,none⟩) i c (cur.toList.take (i*k)) hold (n+1-i) m1 (by rw[his];exact kk) m2 m3 m4 m5;rw[hik,<-hG.out]at h;rw[hw5];exact h
 have hRs:n*k+k<=(w7 k z.cells cur i n G).size:=by
  rw[aQT hk hzs hcur hi hnc hge];exact aQS hk hge
 obtain⟨R,hR⟩:=gn (w7 k z.cells cur i n G);rw[hR]at hrz hRs ⊢;have hheap:(w.drew.alloc (.cells R e)).heap[w.heap.size]?=some (.cells R e (0,0)):=yBZ w.drew _;have hcA:∀ty dc sc,(Builtin.copy_ #[t,t] ty #[.slice (some ⟨w.heap.size,i*k,none⟩) (n+1-i) dc,.slice (some a) 1 sc]).run prog (w.drew.alloc (.cells R e))=.ok (goInt (1:Nat)) ((w.drew.alloc (.cells R e)).setRow w.heap.size (jY k R i vs)):=λty dc sc=>
  QJ (cur:=R) (T:=e) mU hz (w.drew.alloc (.cells R e)) w.heap.size (i*k) (n+1-i) dc (some a) 1 sc 1 (aQM hi) vs (by rw[hvl,Nat.one_mul]) (λj v hj=>⟨_,rfl,by
   have:=hvs j v hj;have hbl:(a.add j).block=a.block:=Dx;unfold World.cell? at this ⊢;rw[hbl]at this ⊢;rw[yDt w.drew _ haw];exact this⟩) hheap (aQO hk hi hRs hvl) h1v
 have hSs:(jY k R i vs).size=R.size:=aQQ hk hi hRs hvl;have hDl:(kW k cur i n).length=(n-i)*k:=aQR hk hcur hi hnc;have w6:∀v∈kW k cur i n,v.oneCell'=true:=λv hv=>h1c v (yBi (yAy hv))
 have QO:(((w.drew.alloc (.cells R e)).setRow w.heap.size (jY k R i vs)).drew).heap[w.heap.size]?=some (.cells (jY k R i vs) e (0,0)):=yBV _ _ R _ e (0,0) hheap;have hcB:∀ty dc sc,(Builtin.copy_ #[t,t] ty #[.slice (some ⟨w.heap.size,(i+1)*k,none⟩) (n-i) dc,.slice (some ⟨b,i*k,none⟩) (n-i) sc]).run prog (((w.drew.alloc (.cells R e)).setRow w.heap.size (jY k R i vs)).drew)=.ok (goInt (n-i:Nat)) ((((w.drew.alloc (.cells R e)).setRow w.heap.size (jY k R i vs)).drew).setRow w.heap.size (IH k (jY k R i vs) i (kW k cur i n))):=λty dc sc=>
  QJ (cur:=jY k R i vs) (T:=e) mU hz ((w.drew.alloc (.cells R e)).setRow w.heap.size (jY k R i vs)).drew w.heap.size ((i+1)*k) (n-i) dc (some ⟨b,i*k,none⟩) (n-i) sc (n-i) aQN (kW k cur i n) hDl (λj v hj=>⟨_,rfl,by
   rw[tJ];simp only[World.cell?,Y5];rw[yBP _ _ _ _ (Nat.ne_of_lt hbw),yDt w.drew _ hbw];simp only[Y5,hb];unfold kW at hj;rw[yAv]at hj;split at hj
   .exact ju
   .cases hj⟩) QO (aQP hk hi hRs hSs hDl) w6
 have Y7:∀ty dc sc,(Builtin.copy_ #[t,t] ty #[.slice (some ⟨w.heap.size,i*k,none⟩) (n+1-i) dc,.slice (some a) 1 sc]).run prog ((w.alloc (.cells R e)).drew)=.ok (goInt (1:Nat)) (((w.alloc (.cells R e)).drew).setRow w.heap.size (jY k R i vs)):=hcA;have Y8:∀ty dc sc,(Builtin.copy_ #[t,t] ty #[.slice (some ⟨w.heap.size,(i+1)*k,none⟩) (n-i) dc,.slice (some ⟨b,i*k,none⟩) (n-i) sc]).run prog ((((w.alloc (.cells R e)).drew).setRow w.heap.size (jY k R i vs)).drew)=.ok (goInt (n-i:Nat)) (((((w.alloc (.cells R e)).drew).setRow w.heap.size (jY k R i vs)).drew).setRow w.heap.size (IH k (jY k R i vs) i (kW k cur i n))):=hcB;clear hcA hcB;clear hold hik hw5 hRs hSs hDl w6 hheap QO hR hin hzr his hib hzs hz1 hG hic hb hcur ha hvl hvs h1c h1v hbw haw;unfold jX at h4;rcases h4 with⟨rfl,rfl,rfl,rfl,rfl⟩ | ⟨rfl,rfl,rfl,rfl,rfl⟩ | ⟨rfl,rfl,rfl,rfl,rfl⟩ | ⟨rfl,rfl,rfl,rfl,rfl⟩
 all_goals
  first|go_enter func112,Tryz.ntmps112|go_enter func114,Tryz.ntmps114|go_enter func116,Tryz.ntmps116|go_enter func120,Tryz.ntmps120
  go_wp2_with (first
   |(at_builtin;refine Lib.wpList_append_run _ rfl _ _ _ _ rfl _ _ rfl rfl _ _ (hrz _) ?_)
   |(at_builtin;refine wpList_copy_runI _ rfl _ _ _ _ rfl _ _ rfl rfl (Y7 _ _ _) ?_))
  go_region_law_o (refine step_copy_runI rfl _ _ _ _ rfl _ _ Dm Dm (Y8 _ _ _) ?_)
  go_wp2
  go_ret
  exact⟨rfl,rfl⟩
end
section
open Go Go.Proofs Go.RowKit Go.Lib
theorem aQJ{α:Type}(L D V X:List α)(p k:Nat)(hV:V.length=k)(h:p+k<=L.length):(L.take (p+k)++D++X).take p++V++(L.take (p+k)++D++X).drop (p+k)=L.take p++V++D++X:=by
 have hl:(L.take (p+k)).length=p+k:=Bv;rw[yAi (L.take (p+k)),yDa Ah,yCj,yBK Ah,yEl Ah,yCu Ah,yAO,yAi,yAi,yAi]
theorem aQK{α:Type}(L Z D V X:List α)(p k:Nat)(hL:L.length=p)(hV:V.length=k):((L++Z).take p++V++X).take (p+k)++D=L++V++D:=by
 have h1:(L++Z).take p=L:=by rw[<-hL,yCr]
 have h2:(L++V).length=p+k:=by rw[yAa];omega
 rw[h1,<-h2,yCr]
theorem QN{f ov t e k:Nat}(h4:jX f ov t e k):IE prog f e k:=by
 have hk:=h4.hk;intro w b n c i vc a cur vs cA TA fz hi hnc hn hc hb hcur hab ha ha0 hvl hvs h1c h1v;have hbw:=gJ hb;have hDl:(kW k cur i n).length=(n-i)*k:=by
  exact ru
 have w6:∀v∈kW k cur i n,v.oneCell'=true:=λv hv=>h1c v (yBi (yAy hv))
 have e6:(i+1)*k=i*k+k:=kk;have hcl:cur.toList.length=c*k:=by rw[yBj,hcur]
 by_cases hroom:n+1<=c
 .refine yBA (aQC h4 w b n c i vc a cur e vs hi hroom hc hb hcur hab ha ha0 hvl hvs h1c h1v) λen w' he=>?_
  obtain⟨rfl,rfl⟩:=he;have hbd:w.drew.heap[b]?=some (.cells cur e (0,0)):=hb;have hb1:(w.drew.setRow b (uE k cur i n)).heap[b]?=some (.cells (uE k cur i n) e (0,0)):=yBV _ _ cur _ e (0,0) hbd;have hB:(LR k cur i n vs).toList=cur.toList.take (i*k)++vs++kW k cur i n++cur.toList.drop ((i+1)*k+(kW k cur i n).length):=by
   unfold LR uE;simp only[hvl,e6];exact aQJ _ _ _ _ _ _ hvl kk
  refine⟨b,c,LR k cur i n vs,rfl,.inl ⟨rfl,rfl⟩,hroom,hc,⟨rfl,rfl,rfl,Ai⟩,λj hj hne=>?_,yBV _ _ _ _ e (0,0) hb1,?_,?_,_,hB⟩
  .rw[yBP _ _ _ _ hne,yBP _ _ _ _ hne];rfl
  .have:=yAK List.length hB;rw[yBj,yAa,yAa,yAa,yAt,yBg,hcl,hvl,hDl]at this;rw[this];exact kk
  .intro v hv;rw[hB]at hv;simp only[yBf]at hv;rcases hv with((hv|hv)|hv)|hv
   .exact h1c v (yAy hv)
   .exact h1v v hv
   .exact w6 v hv
   .exact h1c v (yBi hv)
 .obtain⟨inf,z,hin,hzr,his,hib,hzs,hz1⟩:=QG (P:=prog) (e:=e) (k:=k) (by
   unfold jX at h4;rcases h4 with⟨rfl,rfl,rfl,rfl,rfl⟩ | ⟨rfl,rfl,rfl,rfl,rfl⟩ | ⟨rfl,rfl,rfl,rfl,rfl⟩ | ⟨rfl,rfl,rfl,rfl,rfl⟩<;>kernel_rfl)
  obtain⟨G,hG⟩:∃G,G=grownCap w (n+1) c e:=⟨_,rfl⟩;have hge:n+1<=G:=by rw[hG];exact yDs _ _ _ _
  have hle:G<=maxLen:=by rw[hG];exact yDN _ _ _ _ Ay
  have hGk:Kept (G=grownCap w (n+1) c e):=⟨hG⟩;clear hG;refine yBA (aQL h4 w b n c i vc a cur e vs hi hnc Ah hn hb hcur ha hvl hvs h1c h1v hin hzr his hib hzs hz1 G hGk) λen w' he=>?_
  obtain⟨rfl,rfl⟩:=he;obtain⟨R,hR⟩:=gn (w7 k z.cells cur i n G);have sS:(cur.toList.take (i*k)).length=i*k:=by rw[yAt,hcl];exact kk
  obtain⟨Z,hRZ,hZ1⟩:∃Z,R.toList=cur.toList.take (i*k)++Z/\∀v∈Z,v.oneCell'=true:=by
   refine⟨(Builtin.zeroCells z.cells (n+1-i)).toList++(Builtin.zeroCells z.cells (G-(n+1))).toList,?_,λv hv=>?_⟩
   .rw[<-hR];unfold w7;simp only[yDO,yAi]
   .rcases yBf.1 hv with hv|hv
    .exact NT hz1 Ah _ v hv
    .exact NT hz1 Ah _ v hv
  have hRs:R.size=G*k:=by
   rw[<-hR];unfold w7;simp only[yDP,yCq,sS,yDu,hzs];exact kk
  rw[hR];have hheap:(w.drew.alloc (.cells R e)).heap[w.heap.size]?=some (.cells R e (0,0)):=yBZ w.drew _;have QO:(((w.drew.alloc (.cells R e)).setRow w.heap.size (jY k R i vs)).drew).heap[w.heap.size]?=some (.cells (jY k R i vs) e (0,0)):=yBV _ _ R _ e (0,0) hheap;have hT:(IH k (jY k R i vs) i (kW k cur i n)).toList=cur.toList.take (i*k)++vs++kW k cur i n++(jY k R i vs).toList.drop ((i+1)*k+(kW k cur i n).length):=by
   unfold IH;simp only
   congr 1
   unfold jY;simp only[hRZ,e6,hvl];exact aQK _ _ _ _ _ _ _ sS hvl
  have hSs:(jY k R i vs).size=R.size:=by
   unfold jY;simp only[yCq,yAa,yAt,yBg,yBj,hvl];exact kk
  have h1R:∀v∈R.toList,v.oneCell'=true:=λv hv=>by
   rw[hRZ]at hv;rcases yBf.1 hv with hv|hv
   .exact h1c v (yAy hv)
   .exact hZ1 v hv
  have h1S:∀v∈(jY k R i vs).toList,v.oneCell'=true:=by
   unfold jY;intro v hv;simp only[yBf]at hv;rcases hv with(hv|hv)|hv
   .exact h1R v (yAy hv)
   .exact h1v v hv
   .exact h1R v (yBi hv)
  refine⟨w.heap.size,G,IH k (jY k R i vs) i (kW k cur i n),rfl,.inr (yAk _),hge,hle,⟨rfl,rfl,rfl,Ai⟩,λj hj hne=>?_,yBV _ _ _ _ e (0,0) QO,?_,?_,_,hT⟩
  .rw[yBP _ _ _ _ Ah];show(World.setRow _ _ _).heap[j]?=_
   rw[yBP _ _ _ _ Ah,yDt w.drew _ hj];rfl
  .have:=yAK List.length hT;rw[yBj,yAa,yAa,yAa,sS,yBg,hvl,hDl,yBj,hSs,hRs]at this;rw[this];exact kk
  .intro v hv;rw[hT]at hv;simp only[yBf]at hv;rcases hv with((hv|hv)|hv)|hv
   .exact h1c v (yAy hv)
   .exact h1v v hv
   .exact w6 v hv
   .exact h1S v (yBi hv)
theorem aDU:IE prog 112 48 6:=QN (.inl ⟨rfl,rfl,rfl,rfl,rfl⟩)
theorem aMv:IE prog 114 53 5:=QN (.inr (.inl ⟨rfl,rfl,rfl,rfl,rfl⟩))
theorem aMC:IE prog 116 56 4:=QN (.inr (.inr (.inl ⟨rfl,rfl,rfl,rfl,rfl⟩)))
theorem aMy:IE prog 120 58 5:=QN (.inr (.inr (.inr ⟨rfl,rfl,rfl,rfl,rfl⟩)))
end
section
open Go Go.Proofs Go.RowKit Go.Lib
theorem aQX{i c:Nat}(hic:i+1<=c)(hc:c<=9223372036854775807) :
  ¬((i:Int)=(i:Int)+1)/\(i:Int)<=(i:Int)+1/\(i:Int)+1<=(c:Int)/\(0:Int)<=(i:Int)+1/\((i:Int)+1).toNat=i+1/\(i:Int)<=(c:Int)/\¬(c=i)/\i+1-i=1/\i+1-(i+1)=0/\i<=c/\i<=i+1:=by
 refine⟨Ah,Ah,Ah,Ah,Ah,Ah,Ah,Ah,Ah,Ah,Ah⟩
theorem aQY{P:Program}{t e ty:TypeId}{k:Nat}(hu:P.underlying t=some (.slice e))(hsz:∀w,(Go.sizeOf e).run P w=.ok k w)(w:World)(a:Addr)(n c:Nat)(X:Option Addr)(cx:Nat)(hnc:n<=c) :
  (Builtin.append_ #[t,t] ty #[.slice (some a) n c,.slice X 0 cx]).run P w=.ok (.slice (some a) n c) w:=by
 have hfy:(Builtin.firstCells k 0 (.slice X 0 cx)).run P w=.ok #[] w:=by
  cases X<;>simp[Builtin.firstCells,loadCells,loadCellsFrom]
 simp[Builtin.append_,yAM hu,hsz,Builtin.lenOf,hfy,storeCells,hnc]
theorem aFy{P:Program}{t e ty:TypeId}(hu:P.underlying t=some (.slice e)){z:Value}(hzr:∀w,(zeroValue e).run P w=.ok z w)(w:World)(b off cx:Nat){cur:Gf}{T:TypeId}(hb:w.heap[b]?=some (.cells cur T (0,0)))
  (hle:off+(Builtin.zeroCells z.cells 1).toList.length<=cur.size) (h1:∀v∈(Builtin.zeroCells z.cells 1).toList,v.oneCell'=true) :
  (Builtin.clear_ #[t] ty #[.slice (some ⟨b,off,none⟩) 1 cx]).run P w=.ok (.tuple #[]) (w.setRow b (cur.toList.take off++(Builtin.zeroCells z.cells 1).toList++cur.toList.drop (off+(Builtin.zeroCells z.cells 1).toList.length)).toArray):=by
 have hst:=yCZ (P:=P) b off T (Builtin.zeroCells z.cells 1).toList 0 cur w hb Ah h1;simp only[yBo]at hst;simp[Builtin.clear_,yAM hu,hzr,hst]
end
section
open Go Go.Proofs Go.RowKit Go.Lib
theorem aQU{i n m c:Nat}(hi:n=i+1+m)(hn:n<=c)(hc:c<=9223372036854775807) :
  ¬((i:Int)=(i:Int)+1)/\(i:Int)<=(i:Int)+1/\(i:Int)+1<=(n:Int)/\(0:Int)<=(i:Int)+1/\((i:Int)+1).toNat=i+1/\(i:Int)<=(c:Int)/\¬(c=i)/\i<=c/\i<=i+1/\n-(i+1)=m/\n-(i+m)=1/\(n:Int)<=(c:Int)/\((i+m:Nat):Int)<=(n:Int)/\i+1-i=1/\(i:Int)+1<=(c:Int)/\i+m<=c/\¬(c-(i+m)=0)/\((i:Int)+(m:Int))<=(n:Int):=by
 refine⟨Ah,Ah,Ah,Ah,Ah,Ah,Ah,Ah,Ah,Ah,Ah,Ah,Ah,Ah,Ah,Ah,Ah,Ah⟩
def qQ(f t e k:Nat):Prop:=(f=113/\t=31/\e=48/\k=6)\/(f=115/\t=32/\e=53/\k=5)\/(f=117/\t=51/\e=56/\k=4)\/(f=121/\t=33/\e=58/\k=5)
theorem qQ.ut{f t e k:Nat}(h4:qQ f t e k):prog.underlying t=some (.slice e):=by
 exact kr
theorem qQ.hz{f t e k:Nat}(h4:qQ f t e k)(w:World):(Go.sizeOf e).run prog w=.ok k w:=by
 exact kr
theorem qQ.hk{f t e k:Nat}(h4:qQ f t e k):k=4\/k=5\/k=6:=by unfold qQ at h4;omega
theorem aQV{f t e k:Nat}(h4:qQ f t e k)(w:World)(b i n m c:Nat)(cur c1 c2:Array Value)(hi:n=i+1+m)(hn:n<=c)(hc:c<=9223372036854775807)
  (D:List Value) (hld:(loadCellsFrom ⟨b,(i+1)*k,none⟩ 0 (m*k) #[]).run prog w.drew=.ok D.toArray w.drew)
  (hst:(storeCells ⟨b,i*k,none⟩ D).run prog w.drew=.ok () (w.drew.setRow b c1)) (hq:¬(c=i+1))
  (hcl:∀ty cx,(Builtin.clear_ #[t] ty #[.slice (some ⟨b,(i+m)*k,none⟩) 1 cx]).run prog (w.drew.setRow b c1)=.ok (.tuple #[]) ((w.drew.setRow b c1).setRow b c2)) :
  Calls prog f #[.slice (some ⟨b,0,none⟩) n c,.int .i64 i,.int .i64 ((i:Int)+1)] w λe w'=>
   e=.returned (.slice (some ⟨b,0,none⟩) (i+m) c)/\w'=(w.drew.setRow b c1).setRow b c2:=by
 have mixed:prog.follows .mixedOrders=true:=Aj;have u3:=yAM (P:=prog) underlying3;have u4:=yAM (P:=prog) underlying4;have mU:=h4.ut;have ut:=yAM (P:=prog) mU;have hz:∀w,(Go.sizeOf e).run prog w=.ok k w:=h4.hz;obtain⟨a1,a2,a3,a4,a5,a6,a7,a8,a9,C1,a11,a12,a13,a14,a15,a16,a17,a18⟩:=aQU hi hn hc;clear hi;unfold qQ at h4;rcases h4 with⟨rfl,rfl,rfl,rfl⟩ | ⟨rfl,rfl,rfl,rfl⟩ | ⟨rfl,rfl,rfl,rfl⟩ | ⟨rfl,rfl,rfl,rfl⟩
 all_goals
  first|go_enter func113,Tryz.ntmps113|go_enter func115,Tryz.ntmps115|go_enter func117,Tryz.ntmps117|go_enter func121,Tryz.ntmps121
  go_wp2_with fail
  go_region_o
  go_wp2_with fail
  go_ret
  exact⟨rfl,rfl⟩
def LW(k:Nat)(cur:Array Value)(z:Value)(i:Nat):Array Value:=(cur.toList.take (i*k)++(Builtin.zeroCells z.cells 1).toList++cur.toList.drop (i*k+(Builtin.zeroCells z.cells 1).toList.length)).toArray
theorem aQW{f t e k:Nat}(h4:qQ f t e k)(w:World)(b i c:Nat)(cur:Array Value)(T:TypeId)(hic:i+1<=c)(hc:c<=9223372036854775807)(hb:w.heap[b]?=some (.cells cur T (0,0)))(hcur:cur.size=c*k)
  {z:Value} (hzr:∀w,(zeroValue e).run prog w=.ok z w) (hle:i*k+(Builtin.zeroCells z.cells 1).toList.length<=cur.size) (h1:∀v∈(Builtin.zeroCells z.cells 1).toList,v.oneCell'=true) :
  Calls prog f #[.slice (some ⟨b,0,none⟩) (i+1) c,.int .i64 i,.int .i64 ((i:Int)+1)] w λe w'=>
   e=.returned (.slice (some ⟨b,0,none⟩) i c)/\w'=w.drew.setRow b (LW k cur z i):=by
 have mixed:prog.follows .mixedOrders=true:=Aj;have u3:=yAM (P:=prog) underlying3;have u4:=yAM (P:=prog) underlying4;have mU:=h4.ut;have ut:=yAM (P:=prog) mU;have hz:∀w,(Go.sizeOf e).run prog w=.ok k w:=h4.hz;obtain⟨a1,a2,a3,a4,a5,a6,a7,a8,a9,C1,a11⟩:=aQX hic hc;have hap:∀ty X cx,(Builtin.append_ #[t,t] ty #[.slice (some ⟨b,0,none⟩) i c,.slice X 0 cx]).run prog w.drew=.ok (.slice (some ⟨b,0,none⟩) i c) w.drew:=λty X cx=>
  aQY mU hz w.drew _ i c X cx C1
 have hcl:∀ty cx,(Builtin.clear_ #[t] ty #[.slice (some ⟨b,i*k,none⟩) 1 cx]).run prog w.drew=.ok (.tuple #[]) (w.drew.setRow b (LW k cur z i)):=λty cx=>
  aFy mU hzr w.drew b (i*k) cx hb hle h1
 clear hb hcur hle h1 hzr
 by_cases hq:c=i+1
 .subst hq;unfold qQ at h4;rcases h4 with⟨rfl,rfl,rfl,rfl⟩ | ⟨rfl,rfl,rfl,rfl⟩ | ⟨rfl,rfl,rfl,rfl⟩ | ⟨rfl,rfl,rfl,rfl⟩
  all_goals
   first|go_enter func113,Tryz.ntmps113|go_enter func115,Tryz.ntmps115|go_enter func117,Tryz.ntmps117|go_enter func121,Tryz.ntmps121
   go_wp2_with fail
   go_region_o
   go_wp2_with fail
   go_ret
   exact⟨rfl,rfl⟩
 .unfold qQ at h4;rcases h4 with⟨rfl,rfl,rfl,rfl⟩ | ⟨rfl,rfl,rfl,rfl⟩ | ⟨rfl,rfl,rfl,rfl⟩ | ⟨rfl,rfl,rfl,rfl⟩
  all_goals
   first|go_enter func113,Tryz.ntmps113|go_enter func115,Tryz.ntmps115|go_enter func117,Tryz.ntmps117|go_enter func121,Tryz.ntmps121
   go_wp2_with fail
   go_region_o
   go_wp2_with fail
   go_ret
   exact⟨rfl,rfl⟩
theorem QP{f t e k:Nat}(h4:qQ f t e k):ID prog f e k:=by
 have hk:=h4.hk;have mU:=h4.ut;intro w b n c i cur hi hnc hc hb hcur h1c;obtain⟨inf,z,aQZ,hzr,his,hib,hzs,hz1⟩:=QG (P:=prog) (e:=e) (k:=k) (by
  unfold qQ at h4;rcases h4 with⟨rfl,rfl,rfl,rfl⟩ | ⟨rfl,rfl,rfl,rfl⟩ | ⟨rfl,rfl,rfl,rfl⟩ | ⟨rfl,rfl,rfl,rfl⟩<;>kernel_rfl)
 have hzv:∀w,(zeroValue e).run prog w=.ok z w:=λw=>by simp[zeroValue,typeInfo,aQZ,hzr]
 have hzl:(Builtin.zeroCells z.cells 1).toList.length=k:=by rw[yBj,yDu,hzs,Nat.one_mul]
 have hzo:∀v∈(Builtin.zeroCells z.cells 1).toList,v.oneCell'=true:=NT hz1 (kk) 1;obtain⟨Z,hZ⟩:=gn ((Builtin.zeroCells z.cells 1).toList);have hcl:cur.toList.length=c*k:=by rw[yBj,hcur]
 have hT:(cur.toList.take (i*k)).length=i*k:=by rw[yAt,hcl];exact kk
 have hcm:c<=9223372036854775807:=hc
 by_cases hm:n=i+1
 .subst hm;refine yBA (aQW h4 w b i c cur e hnc hcm hb hcur hzv (by rw[hzl,hcur];exact kk) hzo) λen w' he=>?_
  obtain⟨rfl,rfl⟩:=he;have hA:(LW k cur z i).toList=cur.toList.take (i*k)++(Z++cur.toList.drop (i*k+Z.length)):=by
   unfold LW;simp only[yAi,hZ]
  rw[hZ]at hzl hzo;refine⟨LW k cur z i,rfl,⟨rfl,rfl,rfl,Ai⟩,λj hj=>?_,yBV _ _ cur _ e (0,0) hb,?_,?_,Z++cur.toList.drop (i*k+Z.length),?_⟩
  .rw[yBP _ _ _ _ hj];rfl
  .have:=yAK List.length hA;rw[yBj,yAa,yAa,hT,yBg,hzl,hcl]at this;exact kk
  .intro v hv;rw[hA]at hv;simp only[yBf]at hv;rcases hv with hv|hv|hv
   .exact h1c v (yAy hv)
   .exact hzo v hv
   .exact h1c v (yBi hv)
  .rw[hA];simp
 obtain⟨m,rfl⟩:∃m,n=i+1+m:=⟨n-(i+1),kk⟩;obtain⟨D,hD⟩:=gn ((cur.toList.drop ((i+1)*k)).take (m*k));have hDl:D.length=m*k:=by rw[<-hD,yAt,yBg,hcl];exact kk
 have w6:∀v∈D,v.oneCell'=true:=λv hv=>h1c v (by rw[<-hD]at hv;exact yBi (yAy hv))
 obtain⟨c1,dY⟩:=gn ((cur.toList.take (i*k)++D++cur.toList.drop (i*k+D.length)).toArray);have ZA:c1.toList=cur.toList.take (i*k)++D++cur.toList.drop (i*k+D.length):=by rw[<-dY]
 have aFz:c1.size=c*k:=by
  have:=yAK List.length ZA;rw[yBj,yAa,yAa,hT,yBg,hDl,hcl]at this;exact kk
 have h11:∀v∈c1.toList,v.oneCell'=true:=λv hv=>by
  rw[ZA]at hv;exact mz
 have hbd:w.drew.heap[b]?=some (.cells cur e (0,0)):=hb;have hb1:(w.drew.setRow b c1).heap[b]?=some (.cells c1 e (0,0)):=yBV _ _ cur _ e (0,0) hbd;have hst:=yCZ (P:=prog) b (i*k) e D 0 cur w.drew hbd (kk) w6;simp only[yBo]at hst;rw[dY]at hst;have hld:(loadCells ⟨b,(i+1)*k,none⟩ (m*k)).run prog w.drew=.ok D.toArray w.drew:=BV hDl λj v hj=>by
  rw[tJ];simp only[World.cell?,hbd];rw[<-hD,yAv]at hj;split at hj
  .exact ju
  .cases hj
 obtain⟨c2,hc2⟩:=gn ((c1.toList.take ((i+m)*k)++Z++c1.toList.drop ((i+m)*k+Z.length)).toArray);have aQ0:∀ty cx,(Builtin.clear_ #[t] ty #[.slice (some ⟨b,(i+m)*k,none⟩) 1 cx]).run prog (w.drew.setRow b c1)=.ok (.tuple #[]) ((w.drew.setRow b c1).setRow b c2):=λty cx=>by
  have:=aFy (ty:=ty) mU hzv (w.drew.setRow b c1) b ((i+m)*k) cx hb1 (by rw[hzl,aFz];exact kk) hzo;rw[hZ,hc2]at this;exact this
 rw[hZ]at hzl hzo;have ZB:c2.toList=c1.toList.take ((i+m)*k)++(Z++c1.toList.drop ((i+m)*k+Z.length)):=by rw[<-hc2];simp
 refine yBA (aQV h4 w b i (i+1+m) m c cur c1 c2 rfl hnc hcm D hld hst (kk) aQ0) λen w' he=>?_
 obtain⟨rfl,rfl⟩:=he;have xH:i+1+m-1=i+m:=kk;have hn2:i+m-i=m:=kk;rw[xH,hn2,hD];refine⟨c2,rfl,⟨rfl,rfl,rfl,Ai⟩,λj hj=>?_,yBV _ _ c1 _ e (0,0) hb1,?_,?_,Z++c1.toList.drop ((i+m)*k+Z.length),?_⟩
 .rw[yBP _ _ _ _ hj,yBP _ _ _ _ hj];rfl
 .have:=yAK List.length ZB;rw[yBj,yAa,yAa,yAt,yBg,hzl,yBj,aFz]at this;exact kk
 .intro v hv;rw[ZB]at hv;simp only[yBf]at hv;rcases hv with hv|hv|hv
  .exact h11 v (yAy hv)
  .exact hzo v hv
  .exact h11 v (yBi hv)
 .rw[ZB,ZA]
  congr 1
  rw[yDa (by rw[yAa,hT,hDl];exact kk),yAz (by rw[yAa,hT,hDl];exact kk)]
theorem aMH:ID prog 113 48 6:=QP (.inl ⟨rfl,rfl,rfl,rfl⟩)
theorem aDV:ID prog 115 53 5:=QP (.inr (.inl ⟨rfl,rfl,rfl,rfl⟩))
theorem aMP:ID prog 117 56 4:=QP (.inr (.inr (.inl ⟨rfl,rfl,rfl,rfl⟩)))
theorem aMM:ID prog 121 58 5:=QP (.inr (.inr (.inr ⟨rfl,rfl,rfl,rfl⟩)))
end
end Go.Kz
namespace Go.Kz
open Go Go.Proofs
def In0:aE:=ClE.add 112 (xW 48 6)
theorem aSe:aF prog In0:=aCN.KC ⟨_,func112,rfl⟩ aDU
def ZP:aE:=In0.add 115 (rH 53 5)
theorem aSd:aF prog ZP:=aSe.KD ⟨_,func115,rfl⟩ aDV
def kR(c:UInt8):List PD:=[.str [c],.str [116],.int .i64 8,.int .i64 1,.int .i64 36,.slice 1 [.int .i64 1,.int .i64 1,.int .i64 1] .any]
def kO(rs:List PD)(w:Int):PD:=.agg [.str [111],.slice 6 rs .any,.slice 5 [.agg [.str [100],.bool .false,.int .i64 36,.int .i64 40,.slice 4 [.agg [.str [115],.int .i64 8,.int .i64 1,.slice 3 [.agg [.int .i64 36,.int .i64 40,.slice 2 [.agg [.int .i64 w,.int .i64 0]] .any]] .any]] .any]] .any,.slice 0 [] .any]
def kZ:List PD:=[.str [],.str [],.int .i64 0,.int .i64 0,.int .i64 0,.slice 0 [] .any]
def kE(k:Int)(r:List PD):PD:=.agg ([.int .i64 k,.int .i64 0,.int .i64 0,.str []]++r++[.str [],.bool .false,.int .i64 0,.int .i64 0,.slice 0 [] .any,.str [],.int .i64 0,.int .i64 0,.slice 0 [] .any,.str [],.int .i64 0,.int .i64 0,.int .i64 0,.bool .false])
def kN(e:Int):PD:=.aI [.agg [.str [],.slice 0 [] .any,.slice 0 [] .any,.slice 0 [] .any],.int .i64 e]
def ZO:List (List PD×PD):=
 [([kO [.agg (kR 114)] 0,kE 1 (kR 113)],.aI [kO [.agg (kR 113),.agg (kR 114)] 1,.int .i64 0]),([kO [.agg (kR 114)] 0,kE 2 kZ],kN 14),([kO [.agg (kR 114)] 0,kE 5 kZ],kN 13)]
theorem aSc:(ZO.all (gX prog ZP 1000 23))=true:=Aj
def ApE:aE:=ZP.add 23 (λ_ args σ=>match rE ZO args with|some p=>some (p,σ)|none=>none)
theorem aSa:aF prog ApE:=aSd.N6 bI ZO aSc
section
section
variable{E:aE}(hU:aH E)
include hU
theorem aRX(h0:E 56=none)(d i:Int)(nm rn rt fn sn cn:List UInt8)(ra rb rf fl fh sa sb ca cb cs:Int)(fp ct:Bool)(wk sk gk:Nat)(W S G:List PD):aJ prog E 56 [(.agg [.int .i64 7,.int .i64 d,.int .i64 i,.str nm,.str rn,.str rt,.int .i64 ra,.int .i64 rb,.int .i64 rf,.slice wk W .any,.str fn,.bool fp,.int .i64 fl,.int .i64 fh,.slice sk S .any,.str sn,.int .i64 sa,.int .i64 sb,.slice gk G .any,.str cn,.int .i64 ca,.int .i64 cb,.int .i64 cs,.bool ct])] (.aI [.int .i64 2,.int .i64 0]):=by
 refine aJ.aN 12 h0 func56 (h:=?_);refine aC trivial ?_;exact bx
theorem aRY(d i:Int)(nm rn rt fn sn cn:List UInt8)(ra rb rf fl fh sa sb ca cb cs:Int)(fp ct:Bool)(wk sk gk:Nat)(W S G:List PD)(h0:E 29=none){gW:Fw}(hW:E 56=some gW)(LU:∀AM σ,gW AM [(.agg [.int .i64 7,.int .i64 d,.int .i64 i,.str nm,.str rn,.str rt,.int .i64 ra,.int .i64 rb,.int .i64 rf,.slice wk W .any,.str fn,.bool fp,.int .i64 fl,.int .i64 fh,.slice sk S .any,.str sn,.int .i64 sa,.int .i64 sb,.slice gk G .any,.str cn,.int .i64 ca,.int .i64 cb,.int .i64 cs,.bool ct])] σ=some (.aI [.int .i64 2,.int .i64 0],σ))(hI:E 65=some L3)(hJ:E 66=some C5)(hli:(Lib.itoa i).length<=100)(hld:(Lib.itoa d).length<=100)(hi:-9223372036854775808<=i/\i<=9223372036854775807)(hd:-9223372036854775808<=d/\d<=9223372036854775807)(hl:(Lib.join [[97,100,100],[115,116,111,112],Lib.itoa d,Lib.itoa i,sn] [32]).length<=100000):aJ prog E 29 [(.agg [.int .i64 7,.int .i64 d,.int .i64 i,.str nm,.str rn,.str rt,.int .i64 ra,.int .i64 rb,.int .i64 rf,.slice wk W .any,.str fn,.bool fp,.int .i64 fl,.int .i64 fh,.slice sk S .any,.str sn,.int .i64 sa,.int .i64 sb,.slice gk G .any,.str cn,.int .i64 ca,.int .i64 cb,.int .i64 cs,.bool ct])] (.aI [.str (Lib.join [[97,100,100],[115,116,111,112],Lib.itoa d,Lib.itoa i,sn] [32]),.int .i64 0]):=by
 have f1:=aGf i hi;have f2:=aGf d hd;have hj:QW [[97,100,100],[115,116,111,112],Lib.itoa d,Lib.itoa i,sn] [32]:=⟨Ai,Ai,Ah⟩;have f3:∀t fl σ,C5 fl [.slice prog.types[9].size [.str ([97,100,100]),.str ([115,116,111,112]),.str (Lib.itoa d),.str (Lib.itoa i),.str (sn)] t,.str [32]] σ=some (.str (Lib.join [[97,100,100],[115,116,111,112],Lib.itoa d,Lib.itoa i,sn] [32]),σ):=λt fl σ=>aGg Aj rfl hj t fl σ
 have f4:∀t fl σ,C5 fl [.slice 1 [.str ([97,100,100]),.str ([115,116,111,112]),.str (Lib.itoa d),.str (Lib.itoa i),.str (sn)] t,.str [32]] σ=some (.str (Lib.join [[97,100,100],[115,116,111,112],Lib.itoa d,Lib.itoa i,sn] [32]),σ):=λt fl σ=>aGg rfl rfl hj t fl σ
 refine aJ.aN 72 h0 func29 (h:=?_);refine aC (A8 hW LU hI hJ @f1 @f2 @f3 @f4) ?_;exact bx
end
def ZK:aE:=λ_=>none
theorem aRZ{P:Program}:aF P ZK:=λ_ hg=>by cases hg
theorem aR0:aH ZK:=aH.none
def ZL:aE:=ZK.add 65 L3
theorem aR1:aF prog ZL:=aR2 aRZ
theorem aR3:aH ZL:=aR0.entry
def QX:aE:=ZL.add 66 C5
theorem aR4:aF prog QX:=aR5 aR1
theorem aGh:aH QX:=aR3.entry
noncomputable def ZM:aE:=QX.add 56 (entry (GZ prog QX 56))
theorem aR6:aF prog ZM:=aR4.aJD bI _
theorem aR7:aH ZM:=aGh.entry
def aGi:PD:=.agg [.int .i64 7,.int .i64 1,.int .i64 0,.str [],.str [],.str [],.int .i64 0,.int .i64 0,.int .i64 0,.slice 0 [] .any,.str [],.bool false,.int .i64 0,.int .i64 0,.slice 0 [] .any,.str [70,108,117,116,101],.int .i64 0,.int .i64 0,.slice 0 [] .any,.str [],.int .i64 0,.int .i64 0,.int .i64 0,.bool false]
def ZN:List UInt8:=[97,100,100,32,115,116,111,112,32,49,32,48,32,70,108,117,116,101]
theorem aGj:Lib.itoa 0=[48]:=Ao
theorem aGk:Lib.itoa 1=[49]:=Ao
theorem aGl:Lib.join [[97,100,100],[115,116,111,112],Lib.itoa 1,Lib.itoa 0,[70,108,117,116,101]] [32]=ZN:=by
 rw[aGj,aGk];rfl
theorem aR8:aJ prog ZM 29 [aGi] (.aI [.str ZN,.int .i64 0]):=by
 have h:=aRY aR7 1 0 [] [] [] [] [70,108,117,116,101] [] 0 0 0 0 0 0 0 0 0 0 false false 0 0 0 [] [] [] rfl rfl
  (λAM σ=>aJC (aRX aGh rfl 1 0 [] [] [] [] [70,108,117,116,101] [] 0 0 0 0 0 0 0 0 0 0 false false 0 0 0 [] [] []) rfl rfl AM σ) rfl rfl (by rw[aGj];decide) (by rw[aGk];decide) Al Al (by rw[aGl];decide)
 rw[aGl]at h;exact h
def puT:List (List PD×PD):=[([aGi],.aI [.str ZN,.int .i64 0])]
def KnE:aE:=ApE.add 29 (λ_ args σ=>match rE puT args with|some p=>some (p,σ)|none=>none)
theorem aR9:aF prog KnE:=aF.pick (aR6.aJE bI puT (λr hr=>by
 obtain rfl:=yCM.1 hr;exact⟨aR8,rfl,rfl⟩)) aSa (yAJ rfl)
theorem aMa:aF prog (KnE.add 10 (entry (vP Em.bool (some true)))):=aR9.aJG (f:=10) (N:=1000) bI Aj
end
theorem aN9{P:Program}{σ:Gb}{t e:TypeId}{k b s z:Nat}{xs:Gc}(hu:P.underlying t=some (.slice e))(hi:iM P e=some (k,b))(hz:xs=[]\/z=k)
  (hm:xs.length<=100000000000000) (hb:xs.length*b<=140737488355328) :
  ∃tok σ',gH P 0 σ t (.slice s [] .full) (.slice z xs .any)=some (.slice (if xs.length=0 then s else k) xs tok,σ')/\kK σ' tok e k xs.length/\(∀(id:Nat) (o:aB),σ[id]?=some o->σ'[id]?=some o):=by
 unfold iM at hi;split at hi
 .rename_i i h1;split at hi
  .rename_i z0 h2;split at hi
   .rename_i h3;simp only[yAb,yAc]at hi;obtain⟨rfl,rfl⟩:=hi;have D8:xs.length=0\/z=i.size:=hz.imp (λh=>Bu) id;have hmm:xs.length<=maxLen:=Ay
    by_cases h0:xs.length=0
    .have hx:xs=[]:=yAf h0;subst hx;refine⟨.full,σ,?_,.inl ⟨rfl,rfl⟩,λ_ _ h=>h⟩;simp only[gH,hu,h1,h2,yAQ,true_or,h3.1,h3.2,yBy,yBo,yAF,yDi,yAL,maxLen]
    .refine⟨.own σ.length,σ++[.own e i.size xs.length],?_,.inr ⟨Ah,_,rfl,yAB⟩,λid o h=>?_⟩
     .have hz1:z=i.size:=D8.resolve_left h0;simp only[gH,hu,h1,h2,yAQ,true_or,yCa,hz1,h3.1,h3.2,hmm,hb,yBy,yAL,h0,yAN,yAO,yAp]
     .exact jw
   .cases hi
  .cases hi
 .cases hi
theorem HT{P:Program}{σ:Gb}{t e:TypeId}{k b s z n:Nat}{xs:Gc}(ht:lE t n=true)(hu:P.underlying t=some (.slice e))(hi:iM P e=some (k,b))(ho:∀i z,P.info? e=some i->i.zero=some z->z.cells.toList.all Value.oneCell'=true)
  (hz:z=k) (h0:0<xs.length) (hm:xs.length<=100000000000000) (hb:xs.length*b<=140737488355328) :
  fR P n 0 σ t (.slice s [] .full) (.slice z xs .any)=some (.aR σ.length 0 0 xs.length k,σ++[.row e k 0 (xs.flatMap PD.cells)]):=by
 exact cz
def Calm(c:PD):Prop:=∀σ K,(bF σ (K+1) c).strip=c.strip/\(bF σ (K+1) c).bQ=true
inductive Clean:PD->Prop
 |str (s:List UInt8):Clean (.str s)
 |int (k:IntKind) (n:Int):Clean (.int k n)
 |bool (b:Bool):Clean (.bool b)
 |agg (cs:List PD) (h:∀c∈cs,Clean c):Clean (.agg cs)
 |slice (n:Nat) (xs:List PD) (h:∀c∈xs,Clean c):Clean (.slice n xs .any)
theorem Clean.bF{p:PD}(h:Clean p):∀σ K,bF σ K p=p:=by
 induction h with
 |str s=>intro σ K;cases K<;>rfl
 |int k n=>intro σ K;cases K<;>rfl
 |bool b=>intro σ K;cases K<;>rfl
 |agg cs h ih=>
  intro σ K;cases K with
  |zero=>rfl
  |succ K=>
   have:cs.map (Go.Kz.bF σ K)=cs:=by
    conv=>rhs;rw[<-List.map_id cs]
    exact yAG λc hc=>ih c hc σ K
   simp only[Go.Kz.bF,this]
 |slice n xs h ih=>
  intro σ K;cases K with
  |zero=>rfl
  |succ K=>
   have:xs.map (Go.Kz.bF σ K)=xs:=by
    conv=>rhs;rw[<-List.map_id xs]
    exact yAG λc hc=>ih c hc σ K
   simp only[Go.Kz.bF,this]
theorem Clean.bQ{p:PD}(h:Clean p):p.bQ=true:=by
 induction h with
 |str s=>rfl
 |int k n=>rfl
 |bool b=>rfl
 |agg cs h ih=>
  simp only[PD.bQ,PD.r9];exact yAn.2 ih
 |slice n xs h ih=>
  simp only[PD.bQ,PD.r9,yDj];exact yAn.2 ih
def CI{α:Type}(em:Em α):Prop:=∀x,Clean (em.aA x)
theorem aNw{α:Type}{em:Em α}(h:CI em)(k:Nat):CI (em.list k):=λl=>by
 rw[aW];refine .slice _ _ λc hc=>?_
 obtain⟨x,_,rfl⟩:=yAw.1 hc;exact h x
theorem aNx:CI i64:=λn=>.int _ n
theorem aEh:CI Em.draw:=λd=>by
 rw[DF];refine .agg _ λc hc=>?_
 simp only[yBh,yBX,yC]at hc;rcases hc with rfl|rfl<;>exact .int _ _
theorem aEl:CI Em.aK:=λd=>by
 rw[DG];refine .agg _ λc hc=>?_
 simp only[yBh,yBX,yC]at hc;rcases hc with rfl|rfl|rfl|rfl|rfl
 .exact .str _
 .exact .int _ _
 .exact .int _ _
 .exact .int _ _
 .exact .bool _
def tQ{α:Type}(em:Em α)(σ:List aB)(L:Nat)(g:List PD)(x:α):Prop:=∀K,(PD.agg (g.map (bF σ (K+L)))).strip=em.aA x/\PD.fH (g.map (bF σ (K+L)))=true
theorem aNy{α:Type}{em:Em α}{g:Gc}{x:α}(hc:∀c∈g,Calm c)(hg:(PD.agg g).strip=em.aA x)(σ:List aB)(L:Nat):tQ em σ (L+1) g x:=λK=>by
 constructor
 .rw[<-hg];simp only[PD.strip,PD.qY]
  congr 1
  rw[yBz];exact yAG λc h=>(hc c h σ (K+L)).1
 .rw[PD.r9];refine yAn.2 λc h=>?_
  obtain⟨c0,h0,rfl⟩:=yAw.1 h;exact(hc c0 h0 σ (K+L)).2
theorem aEv{sz:Nat}(f:PD->PD):∀(n:Nat) (gs:List (List PD)),(∀g∈gs,g.length=sz)->n<=gs.length->sJ sz n (gs.flatten.map f)=(gs.take n).map λg=>.agg (g.map f)
 |0,_,_,_=>rfl
 |n+1,[],_,h=>Br
 |n+1,g::gs,hl,h=>by
  have hg:=hl g (yBc ..);have hg':(g.map f).length=sz:=by rw[yAe];exact hg
  rw[yBq,yAH,yDG,yAS];unfold sJ;rw[yDa Ah,yAz Ah,yEl Ah,yCu Ah,yAO];rw[aEv f n gs (λq hq=>hl q (yBH _ hq)) Bh]
theorem nH{sz:Nat}:∀gs:List (List PD),(∀g∈gs,g.length=sz)->gs.flatten.length=gs.length*sz
 | [],_=>Ai
 |g::gs,h=>by
  rw[yBq,yAa,h g (yBc ..),nH gs λq hq=>h q (yBH _ hq),yAT,yBU,yDo]
theorem tP{sz:Nat}:∀(gs:List (List PD)) (i:Nat) (h:i<gs.length),(∀g∈gs,g.length=sz)->(gs.flatten.drop (i*sz)).take sz=gs[i]
 | [],i,h,_=>Br
 |g::gs,0,_,hl=>by
  have hg:=hl g (yBc ..);rw[yDi,yCd,yBq,yDa Ah,yAz Ah];rfl
 |g::gs,i+1,h,hl=>by
  have hg:=hl g (yBc ..);have e1:(i+1)*sz=g.length+i*sz:=by rw[yBU];omega
  rw[yBq,e1,yEj];rw[tP gs i Bh λq hq=>hl q (yBH _ hq)];rfl
theorem wH{sz:Nat}{new:Gc}{j:Nat}(hj:j+new.length<=sz):∀(gs:List (List PD)) (i:Nat) (h:i<gs.length),(∀g∈gs,g.length=sz)->dG gs.flatten (i*sz+j) new=(gs.set i (dG gs[i] j new)).flatten
 | [],i,h,_=>Br
 |g::gs,0,_,hl=>by
  have hg:=hl g (yBc ..);simp only[dG,yDi,yAp,yBq,yBu,List.getElem_cons_zero];rw[yDa Ah,yEl Ah];simp only[yAi]
 |g::gs,i+1,h,hl=>by
  have hg:=hl g (yBc ..);have ih:=wH hj gs i Bh λq hq=>hl q (yBH _ hq)
  simp only[yBq,yBx,List.getElem_cons_succ];rw[<-ih];simp only[dG];have e1:(i+1)*sz+j=g.length+(i*sz+j):=by rw[yBU];omega
  have e2:(i+1)*sz+j+new.length=g.length+(i*sz+j+new.length):=by rw[yBU];omega
  rw[e2,e1,List.take_length_add_append,yEj];simp only[yAi]
theorem PB{α:Type}{em:Em α}{σ:Gb}{id e sz v n L:Nat}{gs:Fz}(dQ:σ[id]?=some (.row e sz v gs.flatten))(h1:sz≠1)(hl:∀g∈gs,g.length=sz)(hn:n<=gs.length)(xs:List α)(hx:xs.length=n)
  (h:∀i (hi:i<n),tQ em σ L (gs[i]'(yBT hi hn)) (xs[i]'(hx▸hi))) (K:Nat):(bF σ (K+L+1) (.aR id v 0 n sz)).strip=(em.list sz).aA xs/\(bF σ (K+L+1) (.aR id v 0 n sz)).bQ=true:=by
 have hlen:0+n*sz<=gs.flatten.length:=by
  rw[nH gs hl,yAp];exact yBO sz hn
 have e:bF σ (K+L+1) (.aR id v 0 n sz)=.slice sz ((gs.take n).map λg=>.agg (g.map (bF σ (K+L)))) .any:=by
  simp only[bF,dQ,hlen,yBy,yAL,yCd,tM,h1,yAN];rw[aEv _ n gs hl hn]
 rw[e]
 constructor
 .rw[PD.r8,aW];have hm:((gs.take n).map λg=>PD.agg (g.map (bF σ (K+L)))).map PD.strip=xs.map em.aA:=by
   apply List.ext_getElem
   .simp only[yAe,yAt];omega
   .intro i h2 h3;simp only[yAe,yAt]at h2;simp only[yBE,List.getElem_take];exact(h i Ah K).1
  rw[hm]
  congr 1
  simp only[yAe,yAt,Kz.sz];have:min n gs.length=n:=Ah;rw[this]
  by_cases h0:xs=[]
  .subst h0;simp only[yAQ]at hx;simp[<-hx]
  .have:¬n=0:=λh=>h0 (yAf Ah)
   have h2:¬xs.length=0:=Ah;rw[yAI this,yAI h2]
 .simp only[PD.bQ,PD.r9,yDj];refine yAn.2 λc hc=>?_
  obtain⟨g,hg,rfl⟩:=yAw.1 hc;obtain⟨i,hi,rfl⟩:=yCA hg;simp only[yAt]at hi;rw[List.getElem_take];simp only[PD.bQ];exact(h i Ah K).2
def Grp{α:Type}(em:Em α)(R:α->Prop)(sz:Nat)(g:List PD):Prop:=g.length=sz/\(∀c∈g,Calm c/\c.plain=true)/\∃x,R x/\(PD.agg g).strip=em.aA x
def K1{α:Type}(em:Em α)(R:α->Prop)(e sz:Nat)(σ:List aB)(id n:Nat)(P:PD):Prop:=∃v gs,P=.aR id v 0 n sz/\σ[id]?=some (.row e sz v (List.flatten gs))/\n<=gs.length/\gs.length<=1000/\∀g∈gs,Grp em R sz g
structure aEu (σ:List aB) (B K:Nat) (nm:List UInt8) (RP DP SP:PD) (C:List bP) (tC:Tok) (d0:List UInt8) (d1:Bool) (d2 d3:Int):Prop where
 o:σ[0]?=some (.box (.agg [.str nm,RP,DP,.slice 5 (C.map Em.aK.aA) tC]))
 z:σ[2]?=some (.box (.agg [.str [],.slice 0 [] .full,.slice 0 [] .full,.slice 0 [] .full]))
 d:σ[B]?=some (.box (.agg [.str d0,.bool d1,.int .i64 d2,.int .i64 d3,SP]))
 b:4<B
 c:C.length<=1000
 r:∃n,K1 Em.aG fX 48 6 σ 3 n RP
 dv:DP=.slice 0 [] .full\/∃n,K1 Em.div fY 53 5 σ 4 n DP/\K<n
 s:SP=.slice 4 [] .full\/∃n,K1 Em.stop iV 56 4 σ (B+1) n SP
theorem PA{α:Type}{em:Em α}(sz z:Nat)(σ:List aB)(K:Nat)(tok:Tok):(bF σ (K+2) (.slice z [] tok)).strip=(em.list sz).aA []/\(bF σ (K+2) (.slice z [] tok)).bQ=true:=⟨rfl,rfl⟩
theorem aOy{P:Program}{σ:Gb}{t e:TypeId}{k b n id v m:Nat}{cs:Gc}{x:PD}{tok:Tok}(ht:lE t n=true)(hu:P.underlying t=some (.slice e))(hi:iM P e=some (k,b))(ho:∀i z,P.info? e=some i->i.zero=some z->z.cells.toList.all Value.oneCell'=true)
  (dQ:σ[id]?=some (.row e k v cs)) (hl:m*k=cs.length) (hx:x.cells.length=k) (hm:m<=1000000) (hb:b<=1000) :
  fR P n 0 σ t (.aR id v 0 m k) (.slice k [x] tok)=some (.aR id (v+1) 0 (m+1) k,σ.set id (.row e k (v+1) (cs++x.cells))):=by
 unfold iM at hi;split at hi
 .rename_i i h1;split at hi
  .rename_i z0 h2;split at hi
   .rename_i h3;simp only[yAb,yAc]at hi;obtain⟨rfl,rfl⟩:=hi;have hone:=ho i z0 h1 h2;have hmm:m+1<=maxLen:=Ay;have hbb:(m+1)*i.bytes<=140737488355328:=by
     have:=yDy (show m+1<=1000001 by omega) hb;omega
    have hlt:¬0+(m+1)*i.size<=cs.length:=by
     rw[<-hl,yBU];have:=h3.1;omega
    simp only[fR,ht,yAL,hu,vY,h1,h2,h3.1,h3.2,hone,yBy,yCa,yAT,yAQ,yAp,yAF,hmm,hbb,dQ];rw[yAI (by simpa using hlt),yAJ ⟨trivial,hl⟩];simp
   .cases hi
  .cases hi
 .cases hi
theorem aEr(R:List bB):(R.map Em.aG.aA).flatMap PD.cells=(R.map λr=>[PD.str r.name,.str r.jJ,.int .i64 r.num,.int .i64 r.den,.int .i64 r.first,fM.aA r.kX]).flatten:=by
 induction R with
 |nil=>rfl
 |cons r R ih=>simp only[yAS,yBr,yBq,ih];rfl
theorem aOa(R:List bD):(R.map Em.div.aA).flatMap PD.cells=(R.map λr=>[PD.str r.name,.bool r.eE,.int .i64 r.low,.int .i64 r.high,mX.aA r.stops]).flatten:=by
 induction R with
 |nil=>rfl
 |cons r R ih=>simp only[yAS,yBr,yBq,ih];rfl
theorem aOd(R:List bW):(R.map Em.stop.aA).flatMap PD.cells=(R.map λr=>[PD.str r.name,.int .i64 r.num,.int .i64 r.den,nO.aA r.aU]).flatten:=by
 induction R with
 |nil=>rfl
 |cons r R ih=>simp only[yAS,yBr,yBq,ih];rfl
theorem FA{P:Program}{σ:Gb}{t e:TypeId}{k b s z n:Nat}{tok:Tok}(ht:lE t n=true)(hu:P.underlying t=some (.slice e))(hi:iM P e=some (k,b))(ho:∀i z,P.info? e=some i->i.zero=some z->z.cells.toList.all Value.oneCell'=true) :
  fR P n 0 σ t (.slice s [] .full) (.slice z [] tok)=some (.slice s [] .full,σ):=by
 unfold iM at hi;split at hi
 .rename_i i h1;split at hi
  .rename_i z0 h2;split at hi
   .rename_i h3;have hone:=ho i z0 h1 h2;have hfr:Tok.full.fresh=true:=rfl;simp only[fR,ht,yAL,hu,vY,h1,h2,h3.1,h3.2,hone,yBy,yAQ,true_or,hfr,yBo,yDi,yAF]
   .cases hi
  .cases hi
 .cases hi
def frG(gg:Nat->PD)(B K:Nat):List PD:=gg 0::gg 1::.ptr 0 0::.ptr 1 0::.ptr 2 0::gg 5::.int .i64 K::.ptr B 0::gg 8::gg 9::gg 10::gg 11::gg 12::gg 13::gg 14::gg 15::gg 16::gg 17::gg 18::gg 19::gg 20::gg 21::gg 22::gg 23::gg 24::gg 25::gg 26::gg 27::gg 28::gg 29::gg 30::gg 31::gg 32::gg 33::gg 34::gg 35::gg 36::gg 37::gg 38::gg 39::gg 40::gg 41::gg 42::gg 43::gg 44::gg 45::gg 46::gg 47::gg 48::gg 49::gg 50::gg 51::gg 52::gg 53::gg 54::gg 55::gg 56::gg 57::gg 58::gg 59::gg 60::gg 61::gg 62::gg 63::gg 64::gg 65::gg 66::gg 67::gg 68::gg 69::gg 70::gg 71::gg 72::gg 73::gg 74::gg 75::gg 76::gg 77::gg 78::gg 79::gg 80::gg 81::gg 82::gg 83::gg 84::gg 85::gg 86::gg 87::gg 88::gg 89::gg 90::gg 91::gg 92::gg 93::gg 94::gg 95::gg 96::gg 97::gg 98::gg 99::gg 100::gg 101::gg 102::gg 103::gg 104::gg 105::gg 106::gg 107::gg 108::gg 109::gg 110::gg 111::gg 112::gg 113::gg 114::gg 115::gg 116::gg 117::gg 118::gg 119::gg 120::gg 121::gg 122::gg 123::gg 124::gg 125::gg 126::gg 127::gg 128::gg 129::gg 130::gg 131::gg 132::gg 133::gg 134::gg 135::gg 136::gg 137::gg 138::gg 139::gg 140::gg 141::gg 142::gg 143::gg 144::gg 145::gg 146::gg 147::gg 148::gg 149::gg 150::gg 151::gg 152::gg 153::gg 154::gg 155::gg 156::gg 157::gg 158::gg 159::gg 160::gg 161::gg 162::gg 163::gg 164::gg 165::gg 166::gg 167::gg 168::gg 169::gg 170::gg 171::gg 172::gg 173::gg 174::gg 175::gg 176::gg 177::gg 178::gg 179::gg 180::gg 181::gg 182::gg 183::gg 184::gg 185::gg 186::gg 187::gg 188::gg 189::gg 190::gg 191::gg 192::gg 193::gg 194::gg 195::gg 196::gg 197::gg 198::gg 199::gg 200::gg 201::gg 202::gg 203::gg 204::gg 205::gg 206::gg 207::gg 208::gg 209::gg 210::gg 211::gg 212::gg 213::gg 214::gg 215::gg 216::gg 217::gg 218::gg 219::gg 220::gg 221::gg 222::gg 223::gg 224::gg 225::gg 226::gg 227::gg 228::gg 229::gg 230::gg 231::gg 232::gg 233::gg 234::gg 235::gg 236::gg 237::gg 238::gg 239::gg 240::gg 241::gg 242::gg 243::gg 244::gg 245::gg 246::gg 247::gg 248::gg 249::gg 250::gg 251::gg 252::gg 253::gg 254::gg 255::gg 256::gg 257::gg 258::gg 259::gg 260::gg 261::gg 262::gg 263::gg 264::gg 265::gg 266::gg 267::gg 268::gg 269::gg 270::gg 271::gg 272::gg 273::gg 274::[]
structure aWf (B K:Nat) (nm:List UInt8) (RP DP SP:PD) (C:List bP) (tC:Tok) (d0:List UInt8) (d1:Bool) (d2 d3:Int) (r:PO):Prop where
 x:r.x=.normal
 m:r.ms=[]
 f:∃gg:Nat->PD,r.fr=frG gg B K
 i:aEu r.σ B K nm RP DP SP C tC d0 d1 d2 d3
theorem qO{t:TypeId}(h:(match prog.info? t with|some i=>(match i.zero with|some z=>z.cells.toList.all Value.oneCell' | none=>true)|none=>true)=true):∀i z,prog.info? t=some i->i.zero=some z->z.cells.toList.all Value.oneCell'=true:=by
 intro i z h1 h2;rw[h1]at h;simp only[h2]at h;exact h
section
def hd(k id n:Nat):PD:=if n=0 then .slice 0 [] .full else .aR id 0 0 n k
def newRow(e:TypeId)(k:Nat)(xs:List PD):List aB:=if xs.length=0 then []else [.row e k 0 (xs.flatMap PD.cells)]
def iH(e:TypeId)(k:Nat):Nat->List PD->List aB->Option (PD×List aB):=λfl args σ=>match args with
 | [.slice z xs .any]=>if xs.length=0 then some (.slice 0 [] .full,σ)else if z=k/\xs.length<=1000000 then some (.aR σ.length 0 0 xs.length k,σ++[.row e k 0 (xs.flatMap PD.cells)])else none
 |_=>none
theorem HA{e:TypeId}{k:Nat}{E:aE}(hU:aH E){f:FuncId}:aH (E.add f (iH e k)):=hU.tail λargs p h fl σ=>by
 unfold iH at h ⊢;split at h
 .split at h
  .rename_i h0;simp only[yAb,yAc,yBl]at h;simp only[h0,yAL,h]
  .exact yh
 .cases h
theorem HR{α:Type}{em:Em α}{e:TypeId}{k:Nat}(l:List α)(hl:l.length<=1000000)(fl:Nat)(σ:List aB):iH e k fl [(em.list k).aA l] σ=some (hd k σ.length l.length,σ++newRow e k (l.map em.aA)):=by
 rw[aW];unfold iH hd newRow;simp only[yAe]
 by_cases h0:l.length=0
 .simp[h0]
 .have hne:l≠[]:=λh=>h0 Bu
  simp[h0,s7 hne,hl]
variable{E:aE}(hU:aH E)
include hU
theorem aOg(h0:E 73=none)(fl:Nat)(z:Nat)(τ:List aB):aL prog E fl (.inl 73) [.slice z [] .jF] τ (λp σ'=>p=.slice 0 [] .full/\σ'=τ):=by
 have hb:gQ (.slice z [] .jF)=some true:=rfl;refine aL.aN 8 h0 func73 (h:=?_);exact yc
theorem aOh(h0:E 73=none)(fl:Nat)(z:Nat)(τ:List aB):aL prog E fl (.inl 73) [.slice z [] .jR] τ (λp σ'=>p=.slice 6 [] .full/\σ'=τ):=by
 have hb:gQ (.slice z [] .jR)=some false:=rfl;have hz:∀(n:Nat) (hn:lE 31 n=true) (σ:List aB) (s z:Nat) (tok:Tok),fR prog n fl σ 31 (.slice s [] .full) (.slice z [] tok)=some (.slice s [] .full,σ):=λn hn σ s z tok=>by
  have h:=FA (P:=prog) (σ:=σ) (t:=31) (e:=48) (k:=6) (b:=80) (s:=s) (z:=z) (tok:=tok) (n:=n) hn underlying31 Aj (qO Aj);exact h
 refine aL.aN 8 h0 func73 (h:=?_);exact xu
theorem aOi(h0:E 73=none)(fl:Nat)(xs:List PD)(hp:0<xs.length)(hl:xs.length<=1000000)(τ:List aB) :
  aL prog E fl (.inl 73) [.slice 6 xs .any] τ (λp σ'=>p=.aR τ.length 0 0 xs.length 6/\σ'=τ++[.row 48 6 0 (xs.flatMap PD.cells)]):=by
 have f1:∀(n:Nat) (hn:lE 31 n=true) (σ:List aB) (s:Nat),fR prog n fl σ 31 (.slice s [] .full) (.slice 6 xs .any)=some (.aR σ.length 0 0 xs.length 6,σ++[.row 48 6 0 (xs.flatMap PD.cells)]):=λn hn σ s=>by
  have h:=HT (P:=prog) (σ:=σ) (t:=31) (e:=48) (k:=6) (b:=80) (s:=s) (z:=6) (n:=n) (xs:=xs) hn underlying31 Aj (qO Aj) rfl hp Ah Ah;exact h
 have hb:gQ (.slice 6 xs .any)=some false:=by
  exact eu
 refine aL.aN 8 h0 func73 (h:=?_);exact xw
theorem aMd(hE:aF prog E)(h0:E 73=none):aF prog (E.add 73 (iH 48 6)):=
 hE.HU bI λfl args σ p σ' h c vs dQ hv=>by
  unfold iH at h;split at h
  .rename_i z xs;split at h
   .rename_i hx;obtain rfl:=yAf hx;simp only[yAb,yAc]at h;obtain⟨rfl,rfl⟩:=h;rcases HV hv with hv|hv
    .obtain⟨p1,σ1,e1,rfl,rfl⟩:=(aOg hU h0 fl z σ).ex;exact dm
    .obtain⟨p1,σ1,e1,rfl,rfl⟩:=(aOh hU h0 fl z σ).ex;exact gu
   .rename_i hx;split at h
    .rename_i hc;obtain⟨rfl,hl⟩:=hc;simp only[yAb,yAc]at h;obtain⟨rfl,rfl⟩:=h;obtain⟨p1,σ1,e1,rfl,rfl⟩:=(aOi hU h0 fl xs Ah hl σ).ex;exact dm
    .cases h
  .cases h
theorem aOj(h0:E 74=none)(fl:Nat)(z:Nat)(τ:List aB):aL prog E fl (.inl 74) [.slice z [] .jF] τ (λp σ'=>p=.slice 0 [] .full/\σ'=τ):=by
 have hb:gQ (.slice z [] .jF)=some true:=rfl;refine aL.aN 8 h0 func74 (h:=?_);exact yc
theorem aOk(h0:E 74=none)(fl:Nat)(z:Nat)(τ:List aB):aL prog E fl (.inl 74) [.slice z [] .jR] τ (λp σ'=>p=.slice 5 [] .full/\σ'=τ):=by
 have hb:gQ (.slice z [] .jR)=some false:=rfl;have hz:∀(n:Nat) (hn:lE 32 n=true) (σ:List aB) (s z:Nat) (tok:Tok),fR prog n fl σ 32 (.slice s [] .full) (.slice z [] tok)=some (.slice s [] .full,σ):=λn hn σ s z tok=>by
  have h:=FA (P:=prog) (σ:=σ) (t:=32) (e:=53) (k:=5) (b:=64) (s:=s) (z:=z) (tok:=tok) (n:=n) hn underlying32 Aj (qO Aj);exact h
 refine aL.aN 8 h0 func74 (h:=?_);exact xu
theorem aOl(h0:E 74=none)(fl:Nat)(xs:List PD)(hp:0<xs.length)(hl:xs.length<=1000000)(τ:List aB) :
  aL prog E fl (.inl 74) [.slice 5 xs .any] τ (λp σ'=>p=.aR τ.length 0 0 xs.length 5/\σ'=τ++[.row 53 5 0 (xs.flatMap PD.cells)]):=by
 have f1:∀(n:Nat) (hn:lE 32 n=true) (σ:List aB) (s:Nat),fR prog n fl σ 32 (.slice s [] .full) (.slice 5 xs .any)=some (.aR σ.length 0 0 xs.length 5,σ++[.row 53 5 0 (xs.flatMap PD.cells)]):=λn hn σ s=>by
  have h:=HT (P:=prog) (σ:=σ) (t:=32) (e:=53) (k:=5) (b:=64) (s:=s) (z:=5) (n:=n) (xs:=xs) hn underlying32 Aj (qO Aj) rfl hp Ah Ah;exact h
 have hb:gQ (.slice 5 xs .any)=some false:=by
  exact eu
 refine aL.aN 8 h0 func74 (h:=?_);exact xw
theorem aMf(hE:aF prog E)(h0:E 74=none):aF prog (E.add 74 (iH 53 5)):=
 hE.HU bI λfl args σ p σ' h c vs dQ hv=>by
  unfold iH at h;split at h
  .rename_i z xs;split at h
   .rename_i hx;obtain rfl:=yAf hx;simp only[yAb,yAc]at h;obtain⟨rfl,rfl⟩:=h;rcases HV hv with hv|hv
    .obtain⟨p1,σ1,e1,rfl,rfl⟩:=(aOj hU h0 fl z σ).ex;exact dm
    .obtain⟨p1,σ1,e1,rfl,rfl⟩:=(aOk hU h0 fl z σ).ex;exact gu
   .rename_i hx;split at h
    .rename_i hc;obtain⟨rfl,hl⟩:=hc;simp only[yAb,yAc]at h;obtain⟨rfl,rfl⟩:=h;obtain⟨p1,σ1,e1,rfl,rfl⟩:=(aOl hU h0 fl xs Ah hl σ).ex;exact dm
    .cases h
  .cases h
theorem aOm(h0:E 75=none)(fl:Nat)(z:Nat)(τ:List aB):aL prog E fl (.inl 75) [.slice z [] .jF] τ (λp σ'=>p=.slice 0 [] .full/\σ'=τ):=by
 have hb:gQ (.slice z [] .jF)=some true:=rfl;refine aL.aN 8 h0 func75 (h:=?_);exact yc
theorem aOn(h0:E 75=none)(fl:Nat)(z:Nat)(τ:List aB):aL prog E fl (.inl 75) [.slice z [] .jR] τ (λp σ'=>p=.slice 5 [] .full/\σ'=τ):=by
 have hb:gQ (.slice z [] .jR)=some false:=rfl;have hz:∀(n:Nat) (hn:lE 33 n=true) (σ:List aB) (s z:Nat) (tok:Tok),fR prog n fl σ 33 (.slice s [] .full) (.slice z [] tok)=some (.slice s [] .full,σ):=λn hn σ s z tok=>by
  have h:=FA (P:=prog) (σ:=σ) (t:=33) (e:=58) (k:=5) (b:=48) (s:=s) (z:=z) (tok:=tok) (n:=n) hn underlying33 Aj (qO Aj);exact h
 refine aL.aN 8 h0 func75 (h:=?_);exact xu
theorem aOo(h0:E 75=none)(fl:Nat)(xs:List PD)(hp:0<xs.length)(hl:xs.length<=1000000)(τ:List aB) :
  aL prog E fl (.inl 75) [.slice 5 xs .any] τ (λp σ'=>p=.aR τ.length 0 0 xs.length 5/\σ'=τ++[.row 58 5 0 (xs.flatMap PD.cells)]):=by
 have f1:∀(n:Nat) (hn:lE 33 n=true) (σ:List aB) (s:Nat),fR prog n fl σ 33 (.slice s [] .full) (.slice 5 xs .any)=some (.aR σ.length 0 0 xs.length 5,σ++[.row 58 5 0 (xs.flatMap PD.cells)]):=λn hn σ s=>by
  have h:=HT (P:=prog) (σ:=σ) (t:=33) (e:=58) (k:=5) (b:=48) (s:=s) (z:=5) (n:=n) (xs:=xs) hn underlying33 Aj (qO Aj) rfl hp Ah Ah;exact h
 have hb:gQ (.slice 5 xs .any)=some false:=by
  exact eu
 refine aL.aN 8 h0 func75 (h:=?_);exact xw
theorem aMh(hE:aF prog E)(h0:E 75=none):aF prog (E.add 75 (iH 58 5)):=
 hE.HU bI λfl args σ p σ' h c vs dQ hv=>by
  unfold iH at h;split at h
  .rename_i z xs;split at h
   .rename_i hx;obtain rfl:=yAf hx;simp only[yAb,yAc]at h;obtain⟨rfl,rfl⟩:=h;rcases HV hv with hv|hv
    .obtain⟨p1,σ1,e1,rfl,rfl⟩:=(aOm hU h0 fl z σ).ex;exact dm
    .obtain⟨p1,σ1,e1,rfl,rfl⟩:=(aOn hU h0 fl z σ).ex;exact gu
   .rename_i hx;split at h
    .rename_i hc;obtain⟨rfl,hl⟩:=hc;simp only[yAb,yAc]at h;obtain⟨rfl,rfl⟩:=h;obtain⟨p1,σ1,e1,rfl,rfl⟩:=(aOo hU h0 fl xs Ah hl σ).ex;exact dm
    .cases h
  .cases h
theorem aOp(h0:E 110=none)(fl:Nat)(z:Nat)(τ:List aB):aL prog E fl (.inl 110) [.slice z [] .jF] τ (λp σ'=>p=.slice 0 [] .full/\σ'=τ):=by
 have hb:gQ (.slice z [] .jF)=some true:=rfl;refine aL.aN 8 h0 func110 (h:=?_);exact yc
theorem aOq(h0:E 110=none)(fl:Nat)(z:Nat)(τ:List aB):aL prog E fl (.inl 110) [.slice z [] .jR] τ (λp σ'=>p=.slice 4 [] .full/\σ'=τ):=by
 have hb:gQ (.slice z [] .jR)=some false:=rfl;have hz:∀(n:Nat) (hn:lE 51 n=true) (σ:List aB) (s z:Nat) (tok:Tok),fR prog n fl σ 51 (.slice s [] .full) (.slice z [] tok)=some (.slice s [] .full,σ):=λn hn σ s z tok=>by
  have h:=FA (P:=prog) (σ:=σ) (t:=51) (e:=56) (k:=4) (b:=56) (s:=s) (z:=z) (tok:=tok) (n:=n) hn underlying51 Aj (qO Aj);exact h
 refine aL.aN 8 h0 func110 (h:=?_);exact xu
theorem aOr(h0:E 110=none)(fl:Nat)(xs:List PD)(hp:0<xs.length)(hl:xs.length<=1000000)(τ:List aB) :
  aL prog E fl (.inl 110) [.slice 4 xs .any] τ (λp σ'=>p=.aR τ.length 0 0 xs.length 4/\σ'=τ++[.row 56 4 0 (xs.flatMap PD.cells)]):=by
 have f1:∀(n:Nat) (hn:lE 51 n=true) (σ:List aB) (s:Nat),fR prog n fl σ 51 (.slice s [] .full) (.slice 4 xs .any)=some (.aR σ.length 0 0 xs.length 4,σ++[.row 56 4 0 (xs.flatMap PD.cells)]):=λn hn σ s=>by
  have h:=HT (P:=prog) (σ:=σ) (t:=51) (e:=56) (k:=4) (b:=56) (s:=s) (z:=4) (n:=n) (xs:=xs) hn underlying51 Aj (qO Aj) rfl hp Ah Ah;exact h
 have hb:gQ (.slice 4 xs .any)=some false:=by
  exact eu
 refine aL.aN 8 h0 func110 (h:=?_);exact xw
theorem aMj(hE:aF prog E)(h0:E 110=none):aF prog (E.add 110 (iH 56 4)):=
 hE.HU bI λfl args σ p σ' h c vs dQ hv=>by
  unfold iH at h;split at h
  .rename_i z xs;split at h
   .rename_i hx;obtain rfl:=yAf hx;simp only[yAb,yAc]at h;obtain⟨rfl,rfl⟩:=h;rcases HV hv with hv|hv
    .obtain⟨p1,σ1,e1,rfl,rfl⟩:=(aOp hU h0 fl z σ).ex;exact dm
    .obtain⟨p1,σ1,e1,rfl,rfl⟩:=(aOq hU h0 fl z σ).ex;exact gu
   .rename_i hx;split at h
    .rename_i hc;obtain⟨rfl,hl⟩:=hc;simp only[yAb,yAc]at h;obtain⟨rfl,rfl⟩:=h;obtain⟨p1,σ1,e1,rfl,rfl⟩:=(aOr hU h0 fl xs Ah hl σ).ex;exact dm
    .cases h
  .cases h
theorem aOs(h0:E 118=none)(fl:Nat)(z:Nat)(τ:List aB):aL prog E fl (.inl 118) [.slice z [] .jF] τ (λp σ'=>p=.slice 0 [] .full/\σ'=τ):=by
 have hb:gQ (.slice z [] .jF)=some true:=rfl;refine aL.aN 8 h0 func118 (h:=?_);exact yc
theorem aOt(h0:E 118=none)(fl:Nat)(z:Nat)(τ:List aB):aL prog E fl (.inl 118) [.slice z [] .jR] τ (λp σ'=>p=.slice 3 [] .full/\σ'=τ):=by
 have hb:gQ (.slice z [] .jR)=some false:=rfl;have hz:∀(n:Nat) (hn:lE 54 n=true) (σ:List aB) (s z:Nat) (tok:Tok),fR prog n fl σ 54 (.slice s [] .full) (.slice z [] tok)=some (.slice s [] .full,σ):=λn hn σ s z tok=>by
  have h:=FA (P:=prog) (σ:=σ) (t:=54) (e:=92) (k:=3) (b:=40) (s:=s) (z:=z) (tok:=tok) (n:=n) hn underlying54 Aj (qO Aj);exact h
 refine aL.aN 8 h0 func118 (h:=?_);exact xu
theorem aOu(h0:E 118=none)(fl:Nat)(xs:List PD)(hp:0<xs.length)(hl:xs.length<=1000000)(τ:List aB) :
  aL prog E fl (.inl 118) [.slice 3 xs .any] τ (λp σ'=>p=.aR τ.length 0 0 xs.length 3/\σ'=τ++[.row 92 3 0 (xs.flatMap PD.cells)]):=by
 have f1:∀(n:Nat) (hn:lE 54 n=true) (σ:List aB) (s:Nat),fR prog n fl σ 54 (.slice s [] .full) (.slice 3 xs .any)=some (.aR σ.length 0 0 xs.length 3,σ++[.row 92 3 0 (xs.flatMap PD.cells)]):=λn hn σ s=>by
  have h:=HT (P:=prog) (σ:=σ) (t:=54) (e:=92) (k:=3) (b:=40) (s:=s) (z:=3) (n:=n) (xs:=xs) hn underlying54 Aj (qO Aj) rfl hp Ah Ah;exact h
 have hb:gQ (.slice 3 xs .any)=some false:=by
  exact eu
 refine aL.aN 8 h0 func118 (h:=?_);exact xw
theorem aMl(hE:aF prog E)(h0:E 118=none):aF prog (E.add 118 (iH 92 3)):=
 hE.HU bI λfl args σ p σ' h c vs dQ hv=>by
  unfold iH at h;split at h
  .rename_i z xs;split at h
   .rename_i hx;obtain rfl:=yAf hx;simp only[yAb,yAc]at h;obtain⟨rfl,rfl⟩:=h;rcases HV hv with hv|hv
    .obtain⟨p1,σ1,e1,rfl,rfl⟩:=(aOs hU h0 fl z σ).ex;exact dm
    .obtain⟨p1,σ1,e1,rfl,rfl⟩:=(aOt hU h0 fl z σ).ex;exact gu
   .rename_i hx;split at h
    .rename_i hc;obtain⟨rfl,hl⟩:=hc;simp only[yAb,yAc]at h;obtain⟨rfl,rfl⟩:=h;obtain⟨p1,σ1,e1,rfl,rfl⟩:=(aOu hU h0 fl xs Ah hl σ).ex;exact dm
    .cases h
  .cases h
theorem aOv(h0:E 119=none)(fl:Nat)(z:Nat)(τ:List aB):aL prog E fl (.inl 119) [.slice z [] .jF] τ (λp σ'=>p=.slice 0 [] .full/\σ'=τ):=by
 have hb:gQ (.slice z [] .jF)=some true:=rfl;refine aL.aN 8 h0 func119 (h:=?_);exact yc
theorem aOw(h0:E 119=none)(fl:Nat)(z:Nat)(τ:List aB):aL prog E fl (.inl 119) [.slice z [] .jR] τ (λp σ'=>p=.slice 2 [] .full/\σ'=τ):=by
 have hb:gQ (.slice z [] .jR)=some false:=rfl;have hz:∀(n:Nat) (hn:lE 90 n=true) (σ:List aB) (s z:Nat) (tok:Tok),fR prog n fl σ 90 (.slice s [] .full) (.slice z [] tok)=some (.slice s [] .full,σ):=λn hn σ s z tok=>by
  have h:=FA (P:=prog) (σ:=σ) (t:=90) (e:=89) (k:=2) (b:=16) (s:=s) (z:=z) (tok:=tok) (n:=n) hn underlying90 Aj (qO Aj);exact h
 refine aL.aN 8 h0 func119 (h:=?_);exact xu
theorem aOx(h0:E 119=none)(fl:Nat)(xs:List PD)(hp:0<xs.length)(hl:xs.length<=1000000)(τ:List aB) :
  aL prog E fl (.inl 119) [.slice 2 xs .any] τ (λp σ'=>p=.aR τ.length 0 0 xs.length 2/\σ'=τ++[.row 89 2 0 (xs.flatMap PD.cells)]):=by
 have f1:∀(n:Nat) (hn:lE 90 n=true) (σ:List aB) (s:Nat),fR prog n fl σ 90 (.slice s [] .full) (.slice 2 xs .any)=some (.aR σ.length 0 0 xs.length 2,σ++[.row 89 2 0 (xs.flatMap PD.cells)]):=λn hn σ s=>by
  have h:=HT (P:=prog) (σ:=σ) (t:=90) (e:=89) (k:=2) (b:=16) (s:=s) (z:=2) (n:=n) (xs:=xs) hn underlying90 Aj (qO Aj) rfl hp Ah Ah;exact h
 have hb:gQ (.slice 2 xs .any)=some false:=by
  exact eu
 refine aL.aN 8 h0 func119 (h:=?_);exact xw
theorem aMn(hE:aF prog E)(h0:E 119=none):aF prog (E.add 119 (iH 89 2)):=
 hE.HU bI λfl args σ p σ' h c vs dQ hv=>by
  unfold iH at h;split at h
  .rename_i z xs;split at h
   .rename_i hx;obtain rfl:=yAf hx;simp only[yAb,yAc]at h;obtain⟨rfl,rfl⟩:=h;rcases HV hv with hv|hv
    .obtain⟨p1,σ1,e1,rfl,rfl⟩:=(aOv hU h0 fl z σ).ex;exact dm
    .obtain⟨p1,σ1,e1,rfl,rfl⟩:=(aOw hU h0 fl z σ).ex;exact gu
   .rename_i hx;split at h
    .rename_i hc;obtain⟨rfl,hl⟩:=hc;simp only[yAb,yAc]at h;obtain⟨rfl,rfl⟩:=h;obtain⟨p1,σ1,e1,rfl,rfl⟩:=(aOx hU h0 fl xs Ah hl σ).ex;exact dm
    .cases h
  .cases h
end
end Go.Kz
end
