/- Steps of the proof. -/
import Derived.Test.YteegpeenjdgodaaGreatDoorP3
import Derived.Lib.Itoa
import Derived.Lib.ItoaNum
import Derived.Lib.Join
import Derived.Test.YteegpeenjdgodaaGreatDoorP8
import Derived.Shelf.Strings.OnBuilder
import Derived.Shelf.Spec.SlicesInsert
import Derived.Test.YteegpeenjdgodaaGreatDoorP5d
set_option linter.all false
set_option maxHeartbeats 40000000
set_option maxRecDepth 100000
open Go.Proofs.Tryz
noncomputable section
namespace Go.Kz
open Go Go.Proofs
abbrev aHe:Em Int:=Em.int .i64
def N4:Nat->List PD->List aA->Option (PD×List aA):=entry (cK aHe .text λn=>dY (-9223372036854775808<=n/\n<=9223372036854775807) (some (Lib.itoa n)))
theorem aG7(n:Int)(h:-9223372036854775808<=n/\n<=9223372036854775807)(fl:Nat)(σ:List aA):N4 fl [.int .i64 n] σ=some (.str (Lib.itoa n),σ):=by
 have e:aHe.dec (.int .i64 n)=some n:=Em.cT rfl;unfold N4 entry cK;simp only[e];rw[fM h];rfl
def TH(l:List (List UInt8))(s:List UInt8):Prop:=l≠[]/\l.length<=1000/\(Lib.join l s).length<=1000000
def EP:Nat->List PD->List aA->Option (PD×List aA):=entry (eM (Em.text.list 1) .text .text λl s=>dY (TH l s) (some (Lib.join l s)))
theorem aSQ(l:List (List UInt8))(s:List UInt8)(h:TH l s)(t:Tok)(fl:Nat)(σ:List aA):EP fl [.slice 1 (l.map PD.str) t,.str s] σ=some (.str (Lib.join l s),σ):=by
 have e1:(Em.text.list 1).dec (.slice 1 (l.map PD.str) t)=some l:=Em.cT (by
  rw[PD.sA];show _=PD.slice (sz 1 l) (l.map PD.str) .any
  rw[tK h.1,yAI (by simp[h.1]),yBE];rfl)
 have e2:Em.text.dec (.str s)=some s:=Em.cT rfl;unfold EP entry eM;simp only[e1,e2];rw[fM h];rfl
theorem aG8{k:Nat}(hk:k=1){xs:Jq}{l:List (List UInt8)}(hxs:xs=l.map PD.str){s:Jr}(h:TH l s)(t:Tok)(fl:Nat)(σ:List aA):EP fl [.slice k xs t,.str s] σ=some (.str (Lib.join l s),σ):=by
 subst hk hxs;exact aSQ l s h t fl σ
end Go.Kz
namespace Go.Kz
section
open Go Go.Proofs Go.RowKit
theorem aSH{E:aE}(hE:aF prog E):aF prog (E.add 65 N4):=by
 refine hE.JQ ⟨_,func65,rfl⟩ λargs c vs p hg hs hv=>?_
 obtain⟨n,z,ha,hz,rfl⟩:=aQS hg;obtain⟨⟨h0,h1⟩,mB⟩:=fO hz;simp only[yAb]at mB;subst mB;have sH:=hv.strip;rw[ha]at sH;obtain⟨v,rfl,h2⟩:=SN sH;exact cu
theorem aSK{E:aE}(hE:aF prog E):aF prog (E.add 66 EP):=by
 refine hE.JQ ⟨_,func66,rfl⟩ λargs c vs p hg hs hv=>?_
 obtain⟨l,s,z,ha,hz,rfl⟩:=aQT hg;obtain⟨⟨hne,hl,hjl⟩,mB⟩:=fO hz;simp only[yAb]at mB;subst mB;have sH:=hv.strip;rw[ha]at sH;obtain⟨v,u,rfl,h1,h2⟩:=NP sH;rw[h2.NQ];obtain⟨A,capx,flx,rfl,a1,a2,a3,a4,a5,a6,a7,a8⟩:=h1.pK;have hfl:(l.map Em.text.aB).flatMap PD.cells=l.map PD.str:=by
  have:∀l:List (List UInt8),(l.map Em.text.aB).flatMap PD.cells=l.map PD.str:=λl=>by
   induction l with
   |nil=>rfl
   |cons x l ih=>rw[yAW,yBw,ih];rfl
  exact this l
 rw[yAe]at a4;rw[tK hne,yDh]at a4;rw[hfl]at a7;have hl0:0<l.length:=yCo.2 hne;obtain⟨ad,rfl,hc0,_⟩:=a6 0 (flx[0]' Cj) Ck;obtain⟨bk,o,spot⟩:=ad;have hsp:spot=none:=by
  cases spot with
  |none=>rfl
  |some q=>
   have:((⟨bk,o,some q⟩:Addr).add 0).spot.isSome=true:=Cw;unfold World.cell? at hc0;split at hc0
   .rw[yAJ this]at hc0;cases hc0
   .cases hc0
 subst hsp;have hbk:bk<c.w.heap.size:=by
  have:=BJ hc0
  rwa [aAC]at this
 have hx:(l.map λs:List UInt8=>(⟨s.toArray⟩:ByteArray)).map (·.data.toList)=l:=by
  rw[yBE]
  conv=>rhs;rw[<-List.map_id l]
  exact yAG λx _=>Ck
 have hj:=Tryz.strings_Join bk o capx (l.map λs:List UInt8=>(⟨s.toArray⟩:ByteArray)) ⟨s.toArray⟩ c.w (λj x hjx=>by
  rw[yAo]at hjx;cases hlj:l[j]? with
  |none=>rw[hlj]at hjx;cases hjx
  |some y=>
   rw[hlj]at hjx;simp only[yAC,yAb]at hjx;subst hjx;have hjl:j<flx.length:=by rw[a4];exact(yA.1 hlj).1
   obtain⟨H4,e9,h9,_⟩:=a6 j flx[j] (yAh hjl);cases e9;have:=(a7 j flx[j] (.str y) (yAh hjl) (by rw[yAo,hlj];rfl)).NQ;rw[<-tY,h9,this]) hbk Dq (by rw[yAe];rw[yAe]at a1;exact a1) (by rw[hx];exact yAQ hjl Cj)
 rw[yAe,hx]at hj;rw[yAe];refine yBC hj λe w' he=>?_
 obtain⟨rfl,hB⟩:=he;refine⟨_,rfl,⟨hB.os,hB.tape,hB.output,hB.size,λk hk _=>hB.block k hk⟩,λ_=>?_⟩;exact .str _
end
section
open Go Go.Proofs Go.RowKit Go.Lib
def InC(f ov t e k:Nat):Prop:=(f=112/\ov=137/\t=31/\e=48/\k=6)\/(f=114/\ov=139/\t=32/\e=53/\k=5)\/(f=116/\ov=141/\t=51/\e=56/\k=4)\/(f=120/\ov=143/\t=33/\e=58/\k=5)
theorem InC.ut{f ov t e k:Nat}(h4:InC f ov t e k):prog.underlying t=some (.slice e):=by
 exact fy
theorem InC.hz{f ov t e k:Nat}(h4:InC f ov t e k)(w:World):(Go.sizeOf e).run prog w=.ok k w:=by
 exact fy
theorem InC.hk{f ov t e k:Nat}(h4:InC f ov t e k):k=4\/k=5\/k=6:=by unfold InC at h4;omega
theorem kk{G:Prop}(h:G:=by rcases hk with rfl|rfl|rfl<;>omega):G:=h
def mE(k:Nat)(cur:Array Value)(i n:Nat):List Value:=(cur.toList.drop (i*k)).take ((n-i)*k)
def wA(k:Nat)(cur:Array Value)(i n:Nat):Array Value:=(cur.toList.take ((i+1)*k)++mE k cur i n++cur.toList.drop ((i+1)*k+(mE k cur i n).length)).toArray
def NX(k:Nat)(cur:Array Value)(i n:Nat)(vs:List Value):Array Value:=((wA k cur i n).toList.take (i*k)++vs++(wA k cur i n).toList.drop (i*k+vs.length)).toArray
theorem room_arith{i n c:Nat}(hi:i<n)(hroom:n+1<=c)(hcm:c<=9223372036854775807):(¬((i:Int)=(n:Int)))/\(IntKind.i64.wrap ((n:Int)+1)=(n:Int)+1)/\(IntKind.i64.wrap ((i:Int)+1)=(i:Int)+1)/\(wrap64 ((n:Int)+1)=(n:Int)+1)/\(wrap64 ((i:Int)+1)=(i:Int)+1)/\((0:Int)<=(n:Int)+1)/\((0:Int)<=(i:Int)+1)/\(¬((c:Int)<(n:Int)+1))/\((n:Int)+1<=(c:Int))/\((i:Int)+1<=(n:Int)+1)/\((i:Int)<=(n:Int)+1)/\(¬(c=i+1))/\(¬(c=i))/\(((n:Int)+1).toNat=n+1)/\(((i:Int)+1).toNat=i+1):=
 ⟨Cj,Cq,Cq,(NV Cj Cj),(NV Cj Cj),Cj,Cj,Cj,Cj,Cj,Cj,Cj,Cj,Cj,Cj⟩
theorem aRk{f ov t e k:Nat}(h4:InC f ov t e k)(w:World)(b n c i vc:Nat)(a:Addr)(cur:Array Value)(T:TypeId)(vs:List Value){cA:Jt}{TA:TypeId}{fz:Nat×Nat}
  (hi:i<n) (hroom:n+1<=c) (hc:c<=maxLen) (hb:w.heap[b]?=some (.cells cur T (0,0))) (hcur:cur.size=c*k) (hab:a.block≠b) (ha:w.heap[a.block]?=some (.cells cA TA fz)) (ha0:cA.size≠0)
  (hvl:vs.length=k) (hvs:∀(j:Nat) (v:Value),vs[j]?=some v->w.cell? (a.add j)=some v) (h1c:∀v∈cur.toList,v.oneCell'=true) (h1v:∀v∈vs,v.oneCell'=true) :
  Calls prog f #[.slice (some ⟨b,0,none⟩) n c,.int .i64 i,.slice (some a) 1 vc] w λe w'=>
   e=.returned (.slice (some ⟨b,0,none⟩) (n+1) c)/\w'=(w.drew.setRow b (wA k cur i n)).setRow b (NX k cur i n vs):=by
 have mixed:prog.follows .mixedOrders=true:=Cl;have u3:=yAM (P:=prog) underlying3;have u4:=yAM (P:=prog) underlying4;have n8:=h4.ut;have ut:=yAM (P:=prog) n8;have hk:=h4.hk;have hz:∀w,(Go.sizeOf e).run prog w=.ok k w:=h4.hz;have hov:∀bo lb cb,(callFunc ov #[.slice (some a) 1 vc,.slice (some ⟨b,bo,none⟩) lb cb]).run prog w=.ok (.value (.bool false)) w:=λbo lb cb=>by
  unfold InC at h4;rcases h4 with⟨rfl,rfl,rfl,rfl,rfl⟩ | ⟨rfl,rfl,rfl,rfl,rfl⟩ | ⟨rfl,rfl,rfl,rfl,rfl⟩ | ⟨rfl,rfl,rfl,rfl,rfl⟩
  all_goals
   first|rw[yDS func137 Cl Cl Cl (e:=Extern.SlicesOverlaps.overlaps #[31,31] #[4]) Cl] | rw[yDS func139 Cl Cl Cl (e:=Extern.SlicesOverlaps.overlaps #[32,32] #[4]) Cl] | rw[yDS func141 Cl Cl Cl (e:=Extern.SlicesOverlaps.overlaps #[51,51] #[4]) Cl] | rw[yDS func143 Cl Cl Cl (e:=Extern.SlicesOverlaps.overlaps #[33,33] #[4]) Cl]
   rw[aRe w _ 4 _ n8 _ hz a ⟨b,bo,none⟩ 1 vc lb cb hab ha ha0 hb];rfl
 have hcm:c<=9223372036854775807:=hc;obtain⟨mB,hw0,hw1,oK,L3,hb0,hb1,hb2,hb3,hb4,hb5,hq1,hq2,PH,vW⟩:=room_arith hi hroom hcm;have hDl:(mE k cur i n).length=(n-i)*k:=by
  exact uu
 have hAs:(wA k cur i n).size=cur.size:=by
  unfold wA;simp only[yCl,yAa,yAt,yBa,yBc,hDl,hcur];exact kk
 have yM:∀v∈mE k cur i n,v.oneCell'=true:=λv hv=>h1c v (yBd (yAy hv))
 have h1A:∀v∈(wA k cur i n).toList,v.oneCell'=true:=by
  unfold wA;intro v hv;exact qh
 have hbd:w.drew.heap[b]?=some (.cells cur T (0,0)):=hb;have aAD:∀ty dc sc,(Builtin.copy_ #[t,t] ty #[.slice (some ⟨b,(i+1)*k,none⟩) (n-i) dc,.slice (some ⟨b,i*k,none⟩) (n+1-i) sc]).run prog w.drew=.ok (goInt (n-i:Nat)) (w.drew.setRow b (wA k cur i n)):=λty dc sc=>
  S2 n8 hz w.drew b ((i+1)*k) _ dc (some ⟨b,i*k,none⟩) _ sc (n-i) (Nat.min_eq_right (Nat.sub_le_sub_right (yCf n) i)) (mE k cur i n) hDl (λj v hj=>⟨_,rfl,by
   rw[tY];simp only[World.cell?,hbd];unfold mE at hj;rw[yAv]at hj;split at hj
   .exact mm
   .cases hj⟩) hbd (by rw[hDl,hcur];exact kk) yM
 obtain⟨W1,NY⟩:∃W1,W1=w.drew.setRow b (wA k cur i n):=⟨_,rfl⟩;have hb1:W1.heap[b]?=some (.cells (wA k cur i n) T (0,0)):=by rw[NY];exact yBT _ _ cur _ T (0,0) hbd
 have aAE:∀ty dc sc,(Builtin.copy_ #[t,t] ty #[.slice (some ⟨b,i*k,none⟩) (n+1-i) dc,.slice (some a) 1 sc]).run prog W1=.ok (goInt (1:Nat)) (W1.setRow b (NX k cur i n vs)):=λty dc sc=>
  S2 n8 hz W1 b (i*k) _ dc (some a) 1 sc 1 (yBL (Nat.sub_pos_of_lt (Nat.lt_succ_of_lt hi))) vs kk (λj v hj=>⟨_,rfl,by
   have:=hvs j v hj;rw[NY];have hbl:(a.add j).block=a.block:=Gm;unfold World.cell? at this ⊢;rw[hbl]at this ⊢;rw[yBJ _ _ _ _ (λh=>hab h)];exact this⟩) hb1 (by rw[hAs,hcur,hvl];exact kk) h1v
 subst NY;unfold InC at h4;rcases h4 with⟨rfl,rfl,rfl,rfl,rfl⟩ | ⟨rfl,rfl,rfl,rfl,rfl⟩ | ⟨rfl,rfl,rfl,rfl,rfl⟩ | ⟨rfl,rfl,rfl,rfl,rfl⟩
 all_goals
  first|go_enter func112,Tryz.ntmps112|go_enter func114,Tryz.ntmps114|go_enter func116,Tryz.ntmps116|go_enter func120,Tryz.ntmps120
  go_wp2_with (simp only[hov])
  go_region_law_o (refine step_copy_runI rfl _ _ _ _ rfl _ _ Gb Gb (aAD _ _ _) ?_)
  go_wp2_with (at_builtin;refine wpList_copy_runI _ rfl _ _ _ _ rfl _ _ rfl rfl (aAE _ _ _) ?_)
  go_ret
  exact⟨rfl,rfl⟩
end
section
open Go Go.Proofs Go.RowKit Go.Lib
def yN(k:Nat)(zc:Array Value)(cur:Array Value)(i n G:Nat):Array Value:=(cur.toList.take (i*k)).toArray++Builtin.zeroCells zc (n+1-i)++Builtin.zeroCells zc (G-(n+1))
def lJ(k:Nat)(R:Array Value)(i:Nat)(vs:List Value):Array Value:=(R.toList.take (i*k)++vs++R.toList.drop (i*k+vs.length)).toArray
def JY(k:Nat)(S:Array Value)(i:Nat)(D:List Value):Array Value:=(S.toList.take ((i+1)*k)++D++S.toList.drop ((i+1)*k+D.length)).toArray
theorem aRv{i n:Nat}(hi:i<n):Nat.min 1 (n+1-i)=1:=by simp only[Nat.min_def];split<;>omega
theorem aRw{i n:Nat}:Nat.min (n-i) (n-i)=n-i:=Nat.min_self _
theorem aRx{k:Nat}(hk:k=4\/k=5\/k=6){i n r l:Nat}(hi:i<n)(hr:n*k+k<=r)(hl:l=k):i*k+l<=r:=kk
theorem aRy{k:Nat}(hk:k=4\/k=5\/k=6){i n r s l:Nat}(hi:i<n)(hr:n*k+k<=r)(hs:s=r)(hl:l=(n-i)*k):(i+1)*k+l<=s:=kk
theorem aRz{k:Nat}(hk:k=4\/k=5\/k=6){R:Jt}{i n:Nat}{vs:Js}(hi:i<n)(hr:n*k+k<=R.size)(hvl:vs.length=k):(lJ k R i vs).size=R.size:=by
 unfold lJ;simp only[yCl,yAa,yAt,yBa,yBc,hvl];exact kk
theorem aRA{k:Nat}(hk:k=4\/k=5\/k=6){cur:Jt}{i n c:Nat}(hcur:cur.size=c*k)(hi:i<n)(hnc:n<=c):(mE k cur i n).length=(n-i)*k:=by
 exact uu
theorem aRB{k:Nat}(hk:k=4\/k=5\/k=6){n G:Nat}(h:n+1<=G):n*k+k<=G*k:=kk
theorem aRC{k:Nat}(hk:k=4\/k=5\/k=6){zc cur:Jt}{i n c G:Nat}(hzs:zc.size=k)(hcur:cur.size=c*k)(hi:i<n)(hnc:n<=c)(hge:n+1<=G):(yN k zc cur i n G).size=G*k:=by
 have h1:(cur.toList.take (i*k)).length=i*k:=by rw[yAt,yBc,hcur];exact kk
 unfold yN;simp only[yDz,yCl,h1,yCP,hzs];exact kk
theorem aRu{f ov t e k:Nat}(h4:InC f ov t e k)(w:World)(b n c i vc:Nat)(a:Addr)(cur:Array Value)(T:TypeId)(vs:List Value){cA:Jt}{TA:TypeId}{fz:Nat×Nat}
  (hi:i<n) (hnc:n<=c) (hroom:c<n+1) (hn:n<=200) (hb:w.heap[b]?=some (.cells cur T (0,0))) (hcur:cur.size=c*k) (ha:w.heap[a.block]?=some (.cells cA TA fz))
  (hvl:vs.length=k) (hvs:∀(j:Nat) (v:Value),vs[j]?=some v->w.cell? (a.add j)=some v) (h1c:∀v∈cur.toList,v.oneCell'=true) (h1v:∀v∈vs,v.oneCell'=true)
  {inf:TypeInfo} {z:Value} (hin:prog.info? e=some inf) (hzr:inf.zero=some z) (his:inf.size=k) (hib:inf.bytes<=1000) (hzs:z.cells.size=k) (hz1:∀v∈z.cells.toList,v.oneCell'=true) (G:Nat) (hG:Kept (G=grownCap w (n+1) c e)) :
  Calls prog f #[.slice (some ⟨b,0,none⟩) n c,.int .i64 i,.slice (some a) 1 vc] w λen w'=>
   en=.returned (.slice (some ⟨w.heap.size,0,none⟩) (n+1) G) /\
   w'=((w.drew.alloc (.cells (yN k z.cells cur i n G) e)).setRow w.heap.size (lJ k (yN k z.cells cur i n G) i vs)).drew.setRow w.heap.size (JY k (lJ k (yN k z.cells cur i n G) i vs) i (mE k cur i n)):=by
 have mixed:prog.follows .mixedOrders=true:=Cl;have u3:=yAM (P:=prog) underlying3;have u4:=yAM (P:=prog) underlying4;have n8:=h4.ut;have ut:=yAM (P:=prog) n8;have hk:=h4.hk;have hz:∀w,(Go.sizeOf e).run prog w=.ok k w:=h4.hz;have hge:n+1<=G:=by rw[hG.out];exact yDc _ _ _ _
 have hbw:b<w.heap.size:=iB hb;have haw:a.block<w.heap.size:=iB ha;obtain⟨mB,hw0,hw1,oK,L3,hw5,hw4,hb2,hb5,hb6,hb7,hb8,hb9,hq1,hq2,G4,vW,hik⟩:=aRh hi hnc hroom hn hge;have hic:i<=c:=yBR (yBS hi hnc);have hold:(Builtin.firstCells inf.size i (.slice (some ⟨b,0,none⟩) i c)).run prog w.drew=.ok (cur.toList.take (i*k)).toArray w.drew:=by
  rw[his];exact DI (by rw[yAt,yBc,hcur,yBL];exact yBI _ hic) λj v hj=>by
   rw[tY];simp only[World.cell?,aAB,hb,yAp];rw[yAv]at hj;split at hj
   .simpa using hj
   .cases hj
 have hrz:∀ty,(Builtin.append_ #[t,3] ty #[.slice (some ⟨b,0,none⟩) i c,.int .i64 ((n:Int)+1-i)]).run prog w =
   .ok (.slice (some ⟨w.heap.size,0,none⟩) (n+1) G) (w.drew.alloc (.cells (yN k z.cells cur i n G) e)):=λty=>by
  obtain⟨m1,m2,m3,m4,m5⟩:=aRi hi hnc hroom hn hib;have h:=Lib.run_append_grow_zeros (P:=prog) w t 3 ty e inf z .i64 .i64 n8 underlying3 hin hzr (some ⟨b,0,none⟩) i c (cur.toList.take (i*k)) hold (n+1-i) m1 (by rw[his];exact kk) m2 m3 m4 m5;rw[hik,<-hG.out]at h;rw[hw5];exact h
 have hRs:n*k+k<=(yN k z.cells cur i n G).size:=by
  rw[aRC hk hzs hcur hi hnc hge];exact aRB hk hge
 obtain⟨R,hR⟩:=gn (yN k z.cells cur i n G);rw[hR]at hrz hRs ⊢;have hheap:(w.drew.alloc (.cells R e)).heap[w.heap.size]?=some (.cells R e (0,0)):=yBW w.drew _;have hcA:∀ty dc sc,(Builtin.copy_ #[t,t] ty #[.slice (some ⟨w.heap.size,i*k,none⟩) (n+1-i) dc,.slice (some a) 1 sc]).run prog (w.drew.alloc (.cells R e))=.ok (goInt (1:Nat)) ((w.drew.alloc (.cells R e)).setRow w.heap.size (lJ k R i vs)):=λty dc sc=>
  S2 (cur:=R) (T:=e) n8 hz (w.drew.alloc (.cells R e)) w.heap.size (i*k) (n+1-i) dc (some a) 1 sc 1 (aRv hi) vs (by rw[hvl,Nat.one_mul]) (λj v hj=>⟨_,rfl,by
   have:=hvs j v hj;have hbl:(a.add j).block=a.block:=Gm;unfold World.cell? at this ⊢;rw[hbl]at this ⊢;rw[yDd w.drew _ haw];exact this⟩) hheap (aRx hk hi hRs hvl) h1v
 have hSs:(lJ k R i vs).size=R.size:=aRz hk hi hRs hvl;have hDl:(mE k cur i n).length=(n-i)*k:=aRA hk hcur hi hnc;have yM:∀v∈mE k cur i n,v.oneCell'=true:=λv hv=>h1c v (yBd (yAy hv))
 have S4:(((w.drew.alloc (.cells R e)).setRow w.heap.size (lJ k R i vs)).drew).heap[w.heap.size]?=some (.cells (lJ k R i vs) e (0,0)):=yBT _ _ R _ e (0,0) hheap;have hcB:∀ty dc sc,(Builtin.copy_ #[t,t] ty #[.slice (some ⟨w.heap.size,(i+1)*k,none⟩) (n-i) dc,.slice (some ⟨b,i*k,none⟩) (n-i) sc]).run prog (((w.drew.alloc (.cells R e)).setRow w.heap.size (lJ k R i vs)).drew)=.ok (goInt (n-i:Nat)) ((((w.drew.alloc (.cells R e)).setRow w.heap.size (lJ k R i vs)).drew).setRow w.heap.size (JY k (lJ k R i vs) i (mE k cur i n))):=λty dc sc=>
  S2 (cur:=lJ k R i vs) (T:=e) n8 hz ((w.drew.alloc (.cells R e)).setRow w.heap.size (lJ k R i vs)).drew w.heap.size ((i+1)*k) (n-i) dc (some ⟨b,i*k,none⟩) (n-i) sc (n-i) aRw (mE k cur i n) hDl (λj v hj=>⟨_,rfl,by
   rw[tY];simp only[World.cell?,aAB];rw[yBJ _ _ _ _ (Nat.ne_of_lt hbw),yDd w.drew _ hbw];simp only[aAB,hb];unfold mE at hj;rw[yAv]at hj;split at hj
   .exact mm
   .cases hj⟩) S4 (aRy hk hi hRs hSs hDl) yM
 have aAD:∀ty dc sc,(Builtin.copy_ #[t,t] ty #[.slice (some ⟨w.heap.size,i*k,none⟩) (n+1-i) dc,.slice (some a) 1 sc]).run prog ((w.alloc (.cells R e)).drew)=.ok (goInt (1:Nat)) (((w.alloc (.cells R e)).drew).setRow w.heap.size (lJ k R i vs)):=hcA;have aAE:∀ty dc sc,(Builtin.copy_ #[t,t] ty #[.slice (some ⟨w.heap.size,(i+1)*k,none⟩) (n-i) dc,.slice (some ⟨b,i*k,none⟩) (n-i) sc]).run prog ((((w.alloc (.cells R e)).drew).setRow w.heap.size (lJ k R i vs)).drew)=.ok (goInt (n-i:Nat)) (((((w.alloc (.cells R e)).drew).setRow w.heap.size (lJ k R i vs)).drew).setRow w.heap.size (JY k (lJ k R i vs) i (mE k cur i n))):=hcB;clear hcA hcB;clear hold hik hw5 hRs hSs hDl yM hheap S4 hR hin hzr his hib hzs hz1 hG hic hb hcur ha hvl hvs h1c h1v hbw haw;unfold InC at h4;rcases h4 with⟨rfl,rfl,rfl,rfl,rfl⟩ | ⟨rfl,rfl,rfl,rfl,rfl⟩ | ⟨rfl,rfl,rfl,rfl,rfl⟩ | ⟨rfl,rfl,rfl,rfl,rfl⟩
 all_goals
  first|go_enter func112,Tryz.ntmps112|go_enter func114,Tryz.ntmps114|go_enter func116,Tryz.ntmps116|go_enter func120,Tryz.ntmps120
  go_wp2_with (first
   |(at_builtin;refine Lib.wpList_append_run _ rfl _ _ _ _ rfl _ _ rfl rfl _ _ (hrz _) ?_)
   |(at_builtin;refine wpList_copy_runI _ rfl _ _ _ _ rfl _ _ rfl rfl (aAD _ _ _) ?_))
  go_region_law_o (refine step_copy_runI rfl _ _ _ _ rfl _ _ Gb Gb (aAE _ _ _) ?_)
  go_wp2
  go_ret
  exact⟨rfl,rfl⟩
end
section
open Go Go.Proofs Go.RowKit Go.Lib
theorem aRs{α:Type}(L D V X:List α)(p k:Nat)(hV:V.length=k)(h:p+k<=L.length):(L.take (p+k)++D++X).take p++V++(L.take (p+k)++D++X).drop (p+k)=L.take p++V++D++X:=by
 have hl:(L.take (p+k)).length=p+k:=Er;rw[yAi (L.take (p+k)),yCR Cj,yCd,yBL Cj,yEj Cj,yDl Cj,yAV,yAi,yAi,yAi]
theorem aRt{α:Type}(L Z D V X:List α)(p k:Nat)(hL:L.length=p)(hV:V.length=k):((L++Z).take p++V++X).take (p+k)++D=L++V++D:=by
 have h1:(L++Z).take p=L:=by rw[<-hL,yCt]
 have h2:(L++V).length=p+k:=by rw[yAa];omega
 rw[h1,<-h2,yCt]
theorem ins_all{f ov t e k:Nat}(h4:InC f ov t e k):JW prog f e k:=by
 have hk:=h4.hk;intro w b n c i vc a cur vs cA TA fz hi hnc hn hc hb hcur hab ha ha0 hvl hvs h1c h1v;have hbw:=iB hb;have hDl:(mE k cur i n).length=(n-i)*k:=by
  exact uu
 have yM:∀v∈mE k cur i n,v.oneCell'=true:=λv hv=>h1c v (yBd (yAy hv))
 have e6:(i+1)*k=i*k+k:=kk;have hcl:cur.toList.length=c*k:=by rw[yBc,hcur]
 by_cases hroom:n+1<=c
 .refine yBC (aRk h4 w b n c i vc a cur e vs hi hroom hc hb hcur hab ha ha0 hvl hvs h1c h1v) λen w' he=>?_
  obtain⟨rfl,rfl⟩:=he;have hbd:w.drew.heap[b]?=some (.cells cur e (0,0)):=hb;have hb1:(w.drew.setRow b (wA k cur i n)).heap[b]?=some (.cells (wA k cur i n) e (0,0)):=yBT _ _ cur _ e (0,0) hbd;have hB:(NX k cur i n vs).toList=cur.toList.take (i*k)++vs++mE k cur i n++cur.toList.drop ((i+1)*k+(mE k cur i n).length):=by
   unfold NX wA;simp only[hvl,e6];exact aRs _ _ _ _ _ _ hvl kk
  refine⟨b,c,NX k cur i n vs,rfl,.inl ⟨rfl,rfl⟩,hroom,hc,⟨rfl,rfl,rfl,Ck⟩,λj hj hne=>?_,yBT _ _ _ _ e (0,0) hb1,?_,?_,_,hB⟩
  .rw[yBJ _ _ _ _ hne,yBJ _ _ _ _ hne];rfl
  .have:=yAL List.length hB;rw[yBc,yAa,yAa,yAa,yAt,yBa,hcl,hvl,hDl]at this;rw[this];exact kk
  .intro v hv;rw[hB]at hv;simp only[yBh]at hv;rcases hv with((hv|hv)|hv)|hv
   .exact h1c v (yAy hv)
   .exact h1v v hv
   .exact yM v hv
   .exact h1c v (yBd hv)
 .obtain⟨inf,z,hin,hzr,his,hib,hzs,hz1⟩:=NU (P:=prog) (e:=e) (k:=k) (by
   unfold InC at h4;rcases h4 with⟨rfl,rfl,rfl,rfl,rfl⟩ | ⟨rfl,rfl,rfl,rfl,rfl⟩ | ⟨rfl,rfl,rfl,rfl,rfl⟩ | ⟨rfl,rfl,rfl,rfl,rfl⟩<;>kernel_rfl)
  obtain⟨G,hG⟩:∃G,G=grownCap w (n+1) c e:=⟨_,rfl⟩;have hge:n+1<=G:=by rw[hG];exact yDc _ _ _ _
  have hle:G<=maxLen:=by rw[hG];exact yDy _ _ _ _ Dj
  have hGk:Kept (G=grownCap w (n+1) c e):=⟨hG⟩;clear hG;refine yBC (aRu h4 w b n c i vc a cur e vs hi hnc Cj hn hb hcur ha hvl hvs h1c h1v hin hzr his hib hzs hz1 G hGk) λen w' he=>?_
  obtain⟨rfl,rfl⟩:=he;obtain⟨R,hR⟩:=gn (yN k z.cells cur i n G);have lT:(cur.toList.take (i*k)).length=i*k:=by rw[yAt,hcl];exact kk
  obtain⟨Z,hRZ,hZ1⟩:∃Z,R.toList=cur.toList.take (i*k)++Z/\∀v∈Z,v.oneCell'=true:=by
   refine⟨(Builtin.zeroCells z.cells (n+1-i)).toList++(Builtin.zeroCells z.cells (G-(n+1))).toList,?_,λv hv=>?_⟩
   .rw[<-hR];unfold yN;simp only[yDe,yAi]
   .rcases yBh.1 hv with hv|hv
    .exact H3 hz1 Cj _ v hv
    .exact H3 hz1 Cj _ v hv
  have hRs:R.size=G*k:=by
   rw[<-hR];unfold yN;simp only[yDz,yCl,lT,yCP,hzs];exact kk
  rw[hR];have hheap:(w.drew.alloc (.cells R e)).heap[w.heap.size]?=some (.cells R e (0,0)):=yBW w.drew _;have S4:(((w.drew.alloc (.cells R e)).setRow w.heap.size (lJ k R i vs)).drew).heap[w.heap.size]?=some (.cells (lJ k R i vs) e (0,0)):=yBT _ _ R _ e (0,0) hheap;have hT:(JY k (lJ k R i vs) i (mE k cur i n)).toList=cur.toList.take (i*k)++vs++mE k cur i n++(lJ k R i vs).toList.drop ((i+1)*k+(mE k cur i n).length):=by
   unfold JY;simp only
   congr 1
   unfold lJ;simp only[hRZ,e6,hvl];exact aRt _ _ _ _ _ _ _ lT hvl
  have hSs:(lJ k R i vs).size=R.size:=by
   unfold lJ;simp only[yCl,yAa,yAt,yBa,yBc,hvl];exact kk
  have h1R:∀v∈R.toList,v.oneCell'=true:=λv hv=>by
   rw[hRZ]at hv;rcases yBh.1 hv with hv|hv
   .exact h1c v (yAy hv)
   .exact hZ1 v hv
  have h1S:∀v∈(lJ k R i vs).toList,v.oneCell'=true:=by
   unfold lJ;intro v hv;simp only[yBh]at hv;rcases hv with(hv|hv)|hv
   .exact h1R v (yAy hv)
   .exact h1v v hv
   .exact h1R v (yBd hv)
  refine⟨w.heap.size,G,JY k (lJ k R i vs) i (mE k cur i n),rfl,.inr (yAk _),hge,hle,⟨rfl,rfl,rfl,Ck⟩,λj hj hne=>?_,yBT _ _ _ _ e (0,0) S4,?_,?_,_,hT⟩
  .rw[yBJ _ _ _ _ Cj];show(World.setRow _ _ _).heap[j]?=_
   rw[yBJ _ _ _ _ Cj,yDd w.drew _ hj];rfl
  .have:=yAL List.length hT;rw[yBc,yAa,yAa,yAa,lT,yBa,hvl,hDl,yBc,hSs,hRs]at this;rw[this];exact kk
  .intro v hv;rw[hT]at hv;simp only[yBh]at hv;rcases hv with((hv|hv)|hv)|hv
   .exact h1c v (yAy hv)
   .exact h1v v hv
   .exact yM v hv
   .exact h1S v (yBd hv)
theorem aEZ:JW prog 112 48 6:=ins_all (.inl ⟨rfl,rfl,rfl,rfl,rfl⟩)
theorem aNq:JW prog 114 53 5:=ins_all (.inr (.inl ⟨rfl,rfl,rfl,rfl,rfl⟩))
theorem aNx:JW prog 116 56 4:=ins_all (.inr (.inr (.inl ⟨rfl,rfl,rfl,rfl,rfl⟩)))
theorem aNt:JW prog 120 58 5:=ins_all (.inr (.inr (.inr ⟨rfl,rfl,rfl,rfl,rfl⟩)))
end
section
open Go Go.Proofs Go.RowKit Go.Lib
theorem aGr{i c:Nat}(hic:i+1<=c)(hc:c<=9223372036854775807) :
  ¬((i:Int)=(i:Int)+1)/\(i:Int)<=(i:Int)+1/\(i:Int)+1<=(c:Int)/\(0:Int)<=(i:Int)+1/\((i:Int)+1).toNat=i+1/\(i:Int)<=(c:Int)/\¬(c=i)/\i+1-i=1/\i+1-(i+1)=0/\i<=c/\i<=i+1:=by
 refine⟨Cj,Cj,Cj,Cj,Cj,Cj,Cj,Cj,Cj,Cj,Cj⟩
def EJ(cur:Array Value)(z:Value)(i:Nat):Array Value:=(cur.toList.take (i*5)++(Builtin.zeroCells z.cells 1).toList++cur.toList.drop (i*5+(Builtin.zeroCells z.cells 1).toList.length)).toArray
theorem aGs{P:Program}{t e ty:TypeId}{k:Nat}(hu:P.underlying t=some (.slice e))(hsz:∀w,(Go.sizeOf e).run P w=.ok k w)(w:World)(a:Addr)(n c:Nat)(X:Option Addr)(cx:Nat)(hnc:n<=c) :
  (Builtin.append_ #[t,t] ty #[.slice (some a) n c,.slice X 0 cx]).run P w=.ok (.slice (some a) n c) w:=by
 have hfy:(Builtin.firstCells k 0 (.slice X 0 cx)).run P w=.ok #[] w:=by
  cases X<;>simp[Builtin.firstCells,loadCells,loadCellsFrom]
 simp[Builtin.append_,yAM hu,hsz,Builtin.lenOf,hfy,storeCells,hnc]
theorem aAI{P:Program}{t e ty:TypeId}(hu:P.underlying t=some (.slice e)){z:Value}(hzr:∀w,(zeroValue e).run P w=.ok z w)(w:World)(b off cx:Nat){cur:Jt}{T:TypeId}(hb:w.heap[b]?=some (.cells cur T (0,0)))
  (hle:off+(Builtin.zeroCells z.cells 1).toList.length<=cur.size) (h1:∀v∈(Builtin.zeroCells z.cells 1).toList,v.oneCell'=true) :
  (Builtin.clear_ #[t] ty #[.slice (some ⟨b,off,none⟩) 1 cx]).run P w=.ok (.tuple #[]) (w.setRow b (cur.toList.take off++(Builtin.zeroCells z.cells 1).toList++cur.toList.drop (off+(Builtin.zeroCells z.cells 1).toList.length)).toArray):=by
 have hst:=yDf (P:=P) b off T (Builtin.zeroCells z.cells 1).toList 0 cur w hb Cj h1;simp only[yBm]at hst;simp[Builtin.clear_,yAM hu,hzr,hst]
theorem aRH(w:World)(b i c:Nat)(cur:Array Value)(T:TypeId)(hic:i+1<=c)(hc:c<=9223372036854775807)(hb:w.heap[b]?=some (.cells cur T (0,0)))(hcur:cur.size=c*5)
  {z:Value} (hzr:∀w,(zeroValue 53).run prog w=.ok z w) (hle:i*5+(Builtin.zeroCells z.cells 1).toList.length<=cur.size) (h1:∀v∈(Builtin.zeroCells z.cells 1).toList,v.oneCell'=true) :
  Calls prog 115 #[.slice (some ⟨b,0,none⟩) (i+1) c,.int .i64 i,.int .i64 ((i:Int)+1)] w λe w'=>
   e=.returned (.slice (some ⟨b,0,none⟩) i c)/\w'=w.drew.setRow b (EJ cur z i):=by
 have mixed:prog.follows .mixedOrders=true:=Cl;have u3:=yAM (P:=prog) underlying3;have u4:=yAM (P:=prog) underlying4;have ut:=yAM (P:=prog) underlying32;have hz:∀w,(Go.sizeOf 53).run prog w=.ok 5 w:=λw=>Cl
 obtain⟨a1,a2,a3,a4,a5,a6,a7,a8,a9,AL,a11⟩:=aGr hic hc;have hap:∀ty X cx,(Builtin.append_ #[32,32] ty #[.slice (some ⟨b,0,none⟩) i c,.slice X 0 cx]).run prog w.drew=.ok (.slice (some ⟨b,0,none⟩) i c) w.drew:=λty X cx=>
  aGs underlying32 hz w.drew _ i c X cx AL
 have hcl:∀ty cx,(Builtin.clear_ #[32] ty #[.slice (some ⟨b,i*5,none⟩) 1 cx]).run prog w.drew=.ok (.tuple #[]) (w.drew.setRow b (EJ cur z i)):=λty cx=>
  aAI underlying32 hzr w.drew b (i*5) cx hb hle h1
 clear hb hcur hle h1 hzr
 by_cases hq:c=i+1
 .subst hq
  go_enter func115,Tryz.ntmps115
  go_wp2_with fail
  go_region_o
  go_wp2_with fail
  go_ret
  exact⟨rfl,rfl⟩
 .go_enter func115,Tryz.ntmps115
  go_wp2_with fail
  go_region_o
  go_wp2_with fail
  go_ret
  exact⟨rfl,rfl⟩
def aAM(e k:Nat):Nat->List PD->List aA->Option (PD×List aA):=λfl args σ=>match args with
 | [.aO id ver 0 n sz,.int .i64 i,.int .i64 j]=>match σ[id]? with
   |some (.row e' size fS cs)=>if fl<=id/\fS=ver/\size=k/\sz=k/\e'=e/\cs.length=n*k/\0<=i/\i+1=n/\j=n/\0<k then
     some (.aO id (ver+1) 0 i.toNat k,σ.set id (.row e k (ver+1) (cs.take (i.toNat*k))))else none
   |_=>none
 |_=>none
theorem I1{E:aE}(hE:aF prog E):aF prog (E.add 115 (aAM 53 5)):=by
 refine hE.JR ⟨_,func115,rfl⟩ λfl args c vs p σ' hg hs _ hv=>?_
 unfold aAM at hg;split at hg
 rotate_left
 .cases hg
 rename_i id ver n sz i j;split at hg
 rotate_left
 .cases hg
 rename_i e' size fS cs hq;split at hg
 rotate_left
 .cases hg
 rename_i hc;obtain⟨hfl,rfl,rfl,rfl,rfl,hlen,FY,hin,rfl,hk⟩:=hc;simp only[yAb,yAc]at hg;obtain⟨rfl,rfl⟩:=hg;obtain⟨v1,v2,v3,rfl,h1,h2,h3⟩:=aAA hv;obtain⟨b,cap,rfl,hp,q1,q2⟩:=h1.BM;obtain⟨_,C,hr,hCo⟩:=(hp.2 _ _ _ cs hq).2 rfl;obtain⟨b',C',cur,e1,e2,e3,e4,e5,e6,e7,e8⟩:=hs.row id _ _ _ cs hp.1 hq;rw[hr]at e1;simp only[yBH,yAb,yBG,yBk,yCe]at e1;obtain⟨rfl,rfl⟩:=e1;have hcapC:cap=C:=Cj;subst hcapC;obtain rfl:=h2.int_eq;obtain rfl:=h3.int_eq;obtain⟨j,rfl⟩:=yEm FY;obtain rfl:n=j+1:=Cj;obtain⟨inf,z,aAJ,hzr,his,hib,hzs,hz1⟩:=NU (P:=prog) (e:=53) (k:=5) Cl;have hzv:∀w,(zeroValue 53).run prog w=.ok z w:=λw=>by simp[zeroValue,typeInfo,aAJ,hzr]
 have hzl:(Builtin.zeroCells z.cells 1).toList.length=5:=by rw[yBc,yCP,hzs]
 have hzo:∀v∈(Builtin.zeroCells z.cells 1).toList,v.oneCell'=true:=H3 hz1 Cj 1;have hj:((j:Int)+1)=((j+1:Nat):Int):=Cj;have run:=aRH c.w b j cap cur 53 q1 q2 e2 e3 hzv (by rw[hzl,e3];omega) hzo;rw[hj]at run;refine yBC run λen w' he=>?_
 obtain⟨rfl,rfl⟩:=he;have hA:(EJ cur z j).toList=cur.toList.take (j*5)++((Builtin.zeroCells z.cells 1).toList++cur.toList.drop (j*5+(Builtin.zeroCells z.cells 1).toList.length)):=by
  unfold EJ;simp only[yAi]
 have hAs:(EJ cur z j).size=cap*5:=by
  have:=yAL List.length hA;rw[yBc,yAa,yAa,yAt,yBa,hzl,yBc,e3]at this;omega
 have hT:(cur.toList.take (j*5)).length=j*5:=by rw[yAt,yBc,e3];omega
 have hcl:(cs.take (j*5)).length=j*5:=Er;have p1:aY c (cur.toList.take (j*5)) (cs.take (j*5)):=by
  have:=e7.take_drop 0 (j*5);rw[yBZ,yBZ,yCd,yBL Cj]at this;exact this
 have hk1:∀m,m<c.w.heap.size->bE (c.ρ id)≠some m->(c.w.drew.setRow b (EJ cur z j)).heap[m]?=c.w.heap[m]?:=λm _ h=>by
  rw[yBJ _ _ _ _ (λe=>h (by rw[hr,e];rfl))];rfl
 have hall:∃b0 C0 j6,c.ρ id=.slice (some ⟨b0,0,none⟩) 0 C0/\(c.w.drew.setRow b (EJ cur z j)).heap[b0]?=some (.cells j6 53 (0,0))/\j6.size=C0*5/\C0<=maxLen/\0<5 /\
   (cs.take (j*5)).length<=j6.size/\aY c (j6.toList.take (cs.take (j*5)).length) (cs.take (j*5))/\∀v∈j6.toList,v.oneCell'=true:=by
  refine⟨b,cap,EJ cur z j,hr,yBT _ _ cur _ 53 (0,0) e2,hAs,e4,Cj,by rw[hcl,hAs];omega,?_,?_⟩
  .rw[hcl,hA,yCR (by rw[hT];exact yAk _),yCd,Nat.min_self];exact p1
  .intro v hv;rw[hA]at hv;simp only[yBh]at hv;rcases hv with hv|hv|hv
   .exact e8 v (yAy hv)
   .exact hzo v hv
   .exact e8 v (yBd hv)
 refine⟨c.put _ id (c.ρ id) (.row 53 5 (fS+1) (cs.take (j*5))),rfl,rfl,Sr.putRow hs hp.1 hq (yCf _) (λ_=>rfl) ⟨rfl,rfl,rfl,Ck⟩ hk1 (.inl rfl) hall,
  Nx.putRow hs hp.1 hq hfl (yCf _) (λ_=>rfl) ⟨rfl,rfl,rfl,Ck⟩ hk1 (.inl rfl),?_,λi hi=>.inl hi⟩
 refine .aO _ _ _ _ _ _ _ ⟨hp.1,λe0 DC v1 BN hq1=>?_⟩ (Nat.le_of_succ_le q1) q2;exact ey
end
end Go.Kz
namespace Go.Kz
open Go Go.Proofs
def In0:aE:=ClE.add 112 (zU 48 6)
theorem aST:aF prog In0:=aDU.MK ⟨_,func112,rfl⟩ aEZ
def InE:aE:=In0.add 115 (aAM 53 5)
theorem aSS:aF prog InE:=I1 aST
def puA:List (List PD×PD):=
 [([(.agg [(.str [111]),(.slice 6 [(.agg [(.str [114]),(.str [116]),(.int .i64 8),(.int .i64 1),(.int .i64 36),(.slice 1 [(.int .i64 1),(.int .i64 1),(.int .i64 1)] .any)])] .any),(.slice 5 [(.agg [(.str [100]),(.bool .false),(.int .i64 36),(.int .i64 40),(.slice 4 [(.agg [(.str [115]),(.int .i64 8),(.int .i64 1),(.slice 3 [(.agg [(.int .i64 36),(.int .i64 40),(.slice 2 [(.agg [(.int .i64 0),(.int .i64 0)])] .any)])] .any)])] .any)])] .any),(.slice 0 [] .any)]),(.agg [(.int .i64 1),(.int .i64 0),(.int .i64 0),(.str []),(.str [113]),(.str [116]),(.int .i64 8),(.int .i64 1),(.int .i64 36),(.slice 1 [(.int .i64 1),(.int .i64 1),(.int .i64 1)] .any),(.str []),(.bool .false),(.int .i64 0),(.int .i64 0),(.slice 0 [] .any),(.str []),(.int .i64 0),(.int .i64 0),(.slice 0 [] .any),(.str []),(.int .i64 0),(.int .i64 0),(.int .i64 0),(.bool .false)])],(.aH [(.agg [(.str [111]),(.slice 6 [(.agg [(.str [113]),(.str [116]),(.int .i64 8),(.int .i64 1),(.int .i64 36),(.slice 1 [(.int .i64 1),(.int .i64 1),(.int .i64 1)] .any)]),(.agg [(.str [114]),(.str [116]),(.int .i64 8),(.int .i64 1),(.int .i64 36),(.slice 1 [(.int .i64 1),(.int .i64 1),(.int .i64 1)] .any)])] .any),(.slice 5 [(.agg [(.str [100]),(.bool .false),(.int .i64 36),(.int .i64 40),(.slice 4 [(.agg [(.str [115]),(.int .i64 8),(.int .i64 1),(.slice 3 [(.agg [(.int .i64 36),(.int .i64 40),(.slice 2 [(.agg [(.int .i64 1),(.int .i64 0)])] .any)])] .any)])] .any)])] .any),(.slice 0 [] .any)]),(.int .i64 0)])),
  ([(.agg [(.str [111]),(.slice 6 [(.agg [(.str [114]),(.str [116]),(.int .i64 8),(.int .i64 1),(.int .i64 36),(.slice 1 [(.int .i64 1),(.int .i64 1),(.int .i64 1)] .any)])] .any),(.slice 5 [(.agg [(.str [100]),(.bool .false),(.int .i64 36),(.int .i64 40),(.slice 4 [(.agg [(.str [115]),(.int .i64 8),(.int .i64 1),(.slice 3 [(.agg [(.int .i64 36),(.int .i64 40),(.slice 2 [(.agg [(.int .i64 0),(.int .i64 0)])] .any)])] .any)])] .any)])] .any),(.slice 0 [] .any)]),(.agg [(.int .i64 2),(.int .i64 0),(.int .i64 0),(.str []),(.str []),(.str []),(.int .i64 0),(.int .i64 0),(.int .i64 0),(.slice 0 [] .any),(.str []),(.bool .false),(.int .i64 0),(.int .i64 0),(.slice 0 [] .any),(.str []),(.int .i64 0),(.int .i64 0),(.slice 0 [] .any),(.str []),(.int .i64 0),(.int .i64 0),(.int .i64 0),(.bool .false)])],(.aH [(.agg [(.str []),(.slice 0 [] .any),(.slice 0 [] .any),(.slice 0 [] .any)]),(.int .i64 14)])),
  ([(.agg [(.str [111]),(.slice 6 [(.agg [(.str [114]),(.str [116]),(.int .i64 8),(.int .i64 1),(.int .i64 36),(.slice 1 [(.int .i64 1),(.int .i64 1),(.int .i64 1)] .any)])] .any),(.slice 5 [(.agg [(.str [100]),(.bool .false),(.int .i64 36),(.int .i64 40),(.slice 4 [(.agg [(.str [115]),(.int .i64 8),(.int .i64 1),(.slice 3 [(.agg [(.int .i64 36),(.int .i64 40),(.slice 2 [(.agg [(.int .i64 0),(.int .i64 0)])] .any)])] .any)])] .any)])] .any),(.slice 0 [] .any)]),(.agg [(.int .i64 5),(.int .i64 0),(.int .i64 0),(.str []),(.str []),(.str []),(.int .i64 0),(.int .i64 0),(.int .i64 0),(.slice 0 [] .any),(.str []),(.bool .false),(.int .i64 0),(.int .i64 0),(.slice 0 [] .any),(.str []),(.int .i64 0),(.int .i64 0),(.slice 0 [] .any),(.str []),(.int .i64 0),(.int .i64 0),(.int .i64 0),(.bool .false)])],(.aH [(.agg [(.str []),(.slice 0 [] .any),(.slice 0 [] .any),(.slice 0 [] .any)]),(.int .i64 13)]))]
theorem aSR:(puA.all (iT prog InE 1000 23))=true:=Cl
end Go.Kz
namespace Go.Kz
open Go Go.Proofs
def ApE:aE:=InE.add 23 (λ_ args σ=>match sL puA args with|some p=>some (p,σ)|none=>none)
theorem aSP:aF prog ApE:=aSS.QE bK puA aSR
section
section
variable{E:aE}(hU:aJ E)
include hU
theorem aSC(h0:E 56=none)(d i:Int)(nm rn rt fn sn cn:List UInt8)(ra rb rf fl fh sa sb ca cb cs:Int)(fp ct:Bool)(wk sk gk:Nat)(W S G:List PD):aI prog E 56 [(.agg [.int .i64 7,.int .i64 d,.int .i64 i,.str nm,.str rn,.str rt,.int .i64 ra,.int .i64 rb,.int .i64 rf,.slice wk W .any,.str fn,.bool fp,.int .i64 fl,.int .i64 fh,.slice sk S .any,.str sn,.int .i64 sa,.int .i64 sb,.slice gk G .any,.str cn,.int .i64 ca,.int .i64 cb,.int .i64 cs,.bool ct])] (.aH [.int .i64 2,.int .i64 0]):=by
 refine aI.aG 12 h0 func56 (h:=?_);refine aC trivial ?_;exact cg
theorem aSD(d i:Int)(nm rn rt fn sn cn:List UInt8)(ra rb rf fl fh sa sb ca cb cs:Int)(fp ct:Bool)(wk sk gk:Nat)(W S G:List PD)(h0:E 29=none){gW:Jk}(hW:E 56=some gW)(NY:∀CH σ,gW CH [(.agg [.int .i64 7,.int .i64 d,.int .i64 i,.str nm,.str rn,.str rt,.int .i64 ra,.int .i64 rb,.int .i64 rf,.slice wk W .any,.str fn,.bool fp,.int .i64 fl,.int .i64 fh,.slice sk S .any,.str sn,.int .i64 sa,.int .i64 sb,.slice gk G .any,.str cn,.int .i64 ca,.int .i64 cb,.int .i64 cs,.bool ct])] σ=some (.aH [.int .i64 2,.int .i64 0],σ))(hI:E 65=some N4)(hJ:E 66=some EP)(hli:(Lib.itoa i).length<=100)(hld:(Lib.itoa d).length<=100)(hi:-9223372036854775808<=i/\i<=9223372036854775807)(hd:-9223372036854775808<=d/\d<=9223372036854775807)(hl:(Lib.join [[97,100,100],[115,116,111,112],Lib.itoa d,Lib.itoa i,sn] [32]).length<=100000):aI prog E 29 [(.agg [.int .i64 7,.int .i64 d,.int .i64 i,.str nm,.str rn,.str rt,.int .i64 ra,.int .i64 rb,.int .i64 rf,.slice wk W .any,.str fn,.bool fp,.int .i64 fl,.int .i64 fh,.slice sk S .any,.str sn,.int .i64 sa,.int .i64 sb,.slice gk G .any,.str cn,.int .i64 ca,.int .i64 cb,.int .i64 cs,.bool ct])] (.aH [.str (Lib.join [[97,100,100],[115,116,111,112],Lib.itoa d,Lib.itoa i,sn] [32]),.int .i64 0]):=by
 have f1:=aG7 i hi;have f2:=aG7 d hd;have hj:TH [[97,100,100],[115,116,111,112],Lib.itoa d,Lib.itoa i,sn] [32]:=⟨Ck,Ck,Cj⟩;have f3:∀t fl σ,EP fl [.slice prog.types[9].size [.str ([97,100,100]),.str ([115,116,111,112]),.str (Lib.itoa d),.str (Lib.itoa i),.str (sn)] t,.str [32]] σ=some (.str (Lib.join [[97,100,100],[115,116,111,112],Lib.itoa d,Lib.itoa i,sn] [32]),σ):=λt fl σ=>aG8 Cl rfl hj t fl σ
 have f4:∀t fl σ,EP fl [.slice 1 [.str ([97,100,100]),.str ([115,116,111,112]),.str (Lib.itoa d),.str (Lib.itoa i),.str (sn)] t,.str [32]] σ=some (.str (Lib.join [[97,100,100],[115,116,111,112],Lib.itoa d,Lib.itoa i,sn] [32]),σ):=λt fl σ=>aG8 rfl rfl hj t fl σ
 refine aI.aG 72 h0 func29 (h:=?_);refine aC (A8 hW NY hI hJ @f1 @f2 @f3 @f4) ?_;exact cg
end
def Sx0:aE:=λ_=>none
theorem aSE{P:Program}:aF P Sx0:=λ_ hg=>by cases hg
theorem aSF:aJ Sx0:=aJ.none
def Sx1:aE:=Sx0.add 65 N4
theorem aSG:aF prog Sx1:=aSH aSE
theorem aSI:aJ Sx1:=aSF.entry
def TI:aE:=Sx1.add 66 EP
theorem aSJ:aF prog TI:=aSK aSG
theorem aG9:aJ TI:=aSI.entry
noncomputable def Sx3:aE:=TI.add 56 (entry (IH prog TI 56))
theorem aSL:aF prog Sx3:=aSJ.aJ5 bK _
theorem aSM:aJ Sx3:=aG9.entry
def aHa:PD:=.agg [.int .i64 7,.int .i64 1,.int .i64 0,.str [],.str [],.str [],.int .i64 0,.int .i64 0,.int .i64 0,.slice 0 [] .any,.str [],.bool false,.int .i64 0,.int .i64 0,.slice 0 [] .any,.str [70,108,117,116,101],.int .i64 0,.int .i64 0,.slice 0 [] .any,.str [],.int .i64 0,.int .i64 0,.int .i64 0,.bool false]
def aAR:List UInt8:=[97,100,100,32,115,116,111,112,32,49,32,48,32,70,108,117,116,101]
theorem aHb:Lib.itoa 0=[48]:=Cp
theorem aHc:Lib.itoa 1=[49]:=Cp
theorem aHd:Lib.join [[97,100,100],[115,116,111,112],Lib.itoa 1,Lib.itoa 0,[70,108,117,116,101]] [32]=aAR:=by
 rw[aHb,aHc];rfl
theorem aSN:aI prog Sx3 29 [aHa] (.aH [.str aAR,.int .i64 0]):=by
 have h:=aSD aSM 1 0 [] [] [] [] [70,108,117,116,101] [] 0 0 0 0 0 0 0 0 0 0 false false 0 0 0 [] [] [] rfl rfl
  (λCH σ=>aJ4 (aSC aG9 rfl 1 0 [] [] [] [] [70,108,117,116,101] [] 0 0 0 0 0 0 0 0 0 0 false false 0 0 0 [] [] []) rfl rfl CH σ) rfl rfl (by rw[aHb];decide) (by rw[aHc];decide) Cn Cn (by rw[aHd];decide)
 rw[aHd]at h;exact h
def puT:List (List PD×PD):=[([aHa],.aH [.str aAR,.int .i64 0])]
def KnE:aE:=ApE.add 29 (λ_ args σ=>match sL puT args with|some p=>some (p,σ)|none=>none)
theorem aSO:aF prog KnE:=aF.pick (aSL.aJ6 bK puT (λr hr=>by
 obtain rfl:=yCn.1 hr;exact⟨aSN,rfl,rfl⟩)) aSP (yAJ rfl)
theorem aM4:aF prog (KnE.add 10 (entry (xI Em.bool (some true)))):=aSO.aJ8 (f:=10) (N:=1000) bK Cl
end
theorem aOS{P:Program}{σ:Jp}{t e:TypeId}{k b s z:Nat}{xs:Jq}(hu:P.underlying t=some (.slice e))(hi:lL P e=some (k,b))(hz:xs=[]\/z=k)
  (hm:xs.length<=100000000000000) (hb:xs.length*b<=140737488355328) :
  ∃tok σ',kK P 0 σ t (.slice s [] .full) (.slice z xs .any)=some (.slice (if xs.length=0 then s else k) xs tok,σ')/\lK σ' tok e k xs.length/\(∀(id:Nat) (o:aA),σ[id]?=some o->σ'[id]?=some o):=by
 unfold lL at hi;split at hi
 .rename_i i h1;split at hi
  .rename_i z0 h2;split at hi
   .rename_i h3;simp only[yAb,yAc]at hi;obtain⟨rfl,rfl⟩:=hi;have FX:xs.length=0\/z=i.size:=hz.imp (λh=>Eb) id;have hmm:xs.length<=maxLen:=Dj
    by_cases h0:xs.length=0
    .have hx:xs=[]:=yAf h0;subst hx;refine⟨.full,σ,?_,.inl ⟨rfl,rfl⟩,λ_ _ h=>h⟩;simp only[kK,hu,h1,h2,yAO,yCA,h3.1,h3.2,yBy,yBm,yAF,yCO,yAK,maxLen]
    .refine⟨.own σ.length,σ++[.own e i.size xs.length],?_,.inr ⟨Cj,_,rfl,yAB⟩,λid o h=>?_⟩
     .have hz1:z=i.size:=FX.resolve_left h0;simp only[kK,hu,h1,h2,yAO,yCA,yCi,hz1,h3.1,h3.2,hmm,hb,yBy,yAK,h0,yAN,yAV,yAp]
     .exact uq
   .cases hi
  .cases hi
 .cases hi
theorem JF{P:Program}{σ:Jp}{t e:TypeId}{k b s z n:Nat}{xs:Jq}(ht:iK t n=true)(hu:P.underlying t=some (.slice e))(hi:lL P e=some (k,b))(ho:∀i z,P.info? e=some i->i.zero=some z->z.cells.toList.all Value.oneCell'=true)
  (hz:z=k) (h0:0<xs.length) (hm:xs.length<=100000000000000) (hb:xs.length*b<=140737488355328) :
  dM P n 0 σ t (.slice s [] .full) (.slice z xs .any)=some (.aO σ.length 0 0 xs.length k,σ++[.row e k 0 (xs.flatMap PD.cells)]):=by
 exact dm
def Calm(c:PD):Prop:=∀σ K,(bF σ (K+1) c).strip=c.strip/\(bF σ (K+1) c).bY=true
inductive Clean:PD->Prop
 |str (s:List UInt8):Clean (.str s)
 |int (k:IntKind) (n:Int):Clean (.int k n)
 |bool (b:Bool):Clean (.bool b)
 |agg (cs:List PD) (h:∀c∈cs,Clean c):Clean (.agg cs)
 |slice (n:Nat) (xs:List PD) (h:∀c∈xs,Clean c):Clean (.slice n xs .any)
theorem Clean.bF{p:PD}(h:Clean p):∀σ K,bF σ K p=p:=by
 induction h with
 |str s=>intro σ K;cases K<;>rfl
 |int k n=>intro σ K;cases K<;>rfl
 |bool b=>intro σ K;cases K<;>rfl
 |agg cs h ih=>
  intro σ K;cases K with
  |zero=>rfl
  |succ K=>
   have:cs.map (Go.Kz.bF σ K)=cs:=by
    conv=>rhs;rw[<-List.map_id cs]
    exact yAG λc hc=>ih c hc σ K
   simp only[Go.Kz.bF,this]
 |slice n xs h ih=>
  intro σ K;cases K with
  |zero=>rfl
  |succ K=>
   have:xs.map (Go.Kz.bF σ K)=xs:=by
    conv=>rhs;rw[<-List.map_id xs]
    exact yAG λc hc=>ih c hc σ K
   simp only[Go.Kz.bF,this]
theorem Clean.bY{p:PD}(h:Clean p):p.bY=true:=by
 induction h with
 |str s=>rfl
 |int k n=>rfl
 |bool b=>rfl
 |agg cs h ih=>
  simp only[PD.bY,PD.tO];exact yAn.2 ih
 |slice n xs h ih=>
  simp only[PD.bY,PD.tO,yDp];exact yAn.2 ih
def w5{α:Type}(em:Em α):Prop:=∀x,Clean (em.aB x)
theorem RL{α:Type}{em:Em α}(h:w5 em)(k:Nat):w5 (em.list k):=λl=>by
 rw[aU];refine .slice _ _ λc hc=>?_
 obtain⟨x,_,rfl⟩:=yAw.1 hc;exact h x
theorem aOq:w5 i64:=λn=>.int _ n
theorem ZE:w5 Em.draw:=λd=>by
 rw[EY];refine .agg _ λc hc=>?_
 simp only[yBn,yBN,yBO]at hc;rcases hc with rfl|rfl<;>exact .int _ _
theorem aPh:w5 Em.eZ:=λd=>by
 rw[KH];refine .agg _ λc hc=>?_
 simp only[yBn,yBN,yBO]at hc;rcases hc with rfl|rfl|rfl
 .exact iy
 .exact iy
 .exact RL ZE 2 _
theorem aFt:w5 Em.stop:=λd=>by
 rw[pZ];refine .agg _ λc hc=>?_
 simp only[yBn,yBN,yBO]at hc;rcases hc with rfl|rfl|rfl|rfl
 .exact .str _
 .exact iy
 .exact iy
 .exact RL aPh 3 _
theorem RO:w5 Em.aZ:=λd=>by
 rw[CX];refine .agg _ λc hc=>?_
 simp only[yBn,yBN,yBO]at hc;rcases hc with rfl|rfl|rfl|rfl|rfl
 .exact .str _
 .exact iy
 .exact iy
 .exact iy
 .exact .bool _
def vM{α:Type}(em:Em α)(σ:List aA)(L:Nat)(g:List PD)(x:α):Prop:=∀K,(PD.agg (g.map (bF σ (K+L)))).strip=em.aB x/\PD.fW (g.map (bF σ (K+L)))=true
theorem aOr{α:Type}{em:Em α}{g:Jq}{x:α}(hc:∀c∈g,Calm c)(hg:(PD.agg g).strip=em.aB x)(σ:List aA)(L:Nat):vM em σ (L+1) g x:=λK=>by
 constructor
 .rw[<-hg];simp only[PD.strip,PD.r9]
  congr 1
  rw[yBE];exact yAG λc h=>(hc c h σ (K+L)).1
 .rw[PD.tO];refine yAn.2 λc h=>?_
  obtain⟨c0,h0,rfl⟩:=yAw.1 h;exact(hc c0 h0 σ (K+L)).2
theorem aFu{sz:Nat}(f:PD->PD):∀(n:Nat) (gs:List (List PD)),(∀g∈gs,g.length=sz)->n<=gs.length->sI sz n (gs.flatten.map f)=(gs.take n).map λg=>.agg (g.map f)
 |0,_,_,_=>rfl
 |n+1,[],_,h=>Ea
 |n+1,g::gs,hl,h=>by
  have hg:=hl g (yBf ..);have hg':(g.map f).length=sz:=by rw[yAe];exact hg
  rw[yBB,yAH,yDo,yAW];unfold sI;rw[yCR Cj,yAz Cj,yEj Cj,yDl Cj,yAV];rw[aFu f n gs (λq hq=>hl q (yCq _ hq)) Dl]
theorem lF{sz:Nat}:∀gs:List (List PD),(∀g∈gs,g.length=sz)->gs.flatten.length=gs.length*sz
 | [],_=>Ck
 |g::gs,h=>by
  rw[yBB,yAa,h g (yBf ..),lF gs λq hq=>h q (yCq _ hq),yAT,yBV,Nat.add_comm]
theorem qX{sz:Nat}:∀(gs:List (List PD)) (i:Nat) (h:i<gs.length),(∀g∈gs,g.length=sz)->(gs.flatten.drop (i*sz)).take sz=gs[i]
 | [],i,h,_=>Ea
 |g::gs,0,_,hl=>by
  have hg:=hl g (yBf ..);rw[yCO,yBZ,yBB,yCR Cj,yAz Cj];rfl
 |g::gs,i+1,h,hl=>by
  have hg:=hl g (yBf ..);have e1:(i+1)*sz=g.length+i*sz:=by rw[yBV];omega
  rw[yBB,e1,yEh];rw[qX gs i Dl λq hq=>hl q (yCq _ hq)];rfl
theorem wY{sz:Nat}{new:Jq}{j:Nat}(hj:j+new.length<=sz):∀(gs:List (List PD)) (i:Nat) (h:i<gs.length),(∀g∈gs,g.length=sz)->dF gs.flatten (i*sz+j) new=(gs.set i (dF gs[i] j new)).flatten
 | [],i,h,_=>Ea
 |g::gs,0,_,hl=>by
  have hg:=hl g (yBf ..);simp only[dF,yCO,yAp,yBB,yBo,List.getElem_cons_zero];rw[yCR Cj,yEj Cj];simp only[yAi]
 |g::gs,i+1,h,hl=>by
  have hg:=hl g (yBf ..);have ih:=wY hj gs i Dl λq hq=>hl q (yCq _ hq)
  simp only[yBB,yBt,List.getElem_cons_succ];rw[<-ih];simp only[dF];have e1:(i+1)*sz+j=g.length+(i*sz+j):=by rw[yBV];omega
  have e2:(i+1)*sz+j+new.length=g.length+(i*sz+j+new.length):=by rw[yBV];omega
  rw[e2,e1,List.take_length_add_append,yEh];simp only[yAi]
theorem RM{α:Type}{em:Em α}{σ:Jp}{id e sz v n L:Nat}{gs:Jn}(eQ:σ[id]?=some (.row e sz v gs.flatten))(h1:sz≠1)(hl:∀g∈gs,g.length=sz)(hn:n<=gs.length)(xs:List α)(hx:xs.length=n)
  (h:∀i (hi:i<n),vM em σ L (gs[i]'(yBS hi hn)) (xs[i]'(hx▸hi))) (K:Nat):(bF σ (K+L+1) (.aO id v 0 n sz)).strip=(em.list sz).aB xs/\(bF σ (K+L+1) (.aO id v 0 n sz)).bY=true:=by
 have hlen:0+n*sz<=gs.flatten.length:=by
  rw[lF gs hl,yAp];exact yBI sz hn
 have e:bF σ (K+L+1) (.aO id v 0 n sz)=.slice sz ((gs.take n).map λg=>.agg (g.map (bF σ (K+L)))) .any:=by
  simp only[bF,eQ,hlen,yBy,yAK,yBZ,vI,h1,yAN];rw[aFu _ n gs hl hn]
 rw[e]
 constructor
 .rw[PD.sA,aU];have hm:((gs.take n).map λg=>PD.agg (g.map (bF σ (K+L)))).map PD.strip=xs.map em.aB:=by
   apply List.ext_getElem
   .simp only[yAe,yAt];omega
   .intro i h2 h3;simp only[yAe,yAt]at h2;simp only[yBq,List.getElem_take];exact(h i Cj K).1
  rw[hm]
  congr 1
  simp only[yAe,yAt,Kz.sz];have:min n gs.length=n:=Cj;rw[this]
  by_cases h0:xs=[]
  .subst h0;simp only[yAO]at hx;simp[<-hx]
  .have:¬n=0:=λh=>h0 (yAf Cj)
   have h2:¬xs.length=0:=Cj;rw[yAI this,yAI h2]
 .simp only[PD.bY,PD.tO,yDp];refine yAn.2 λc hc=>?_
  obtain⟨g,hg,rfl⟩:=yAw.1 hc;obtain⟨i,hi,rfl⟩:=yBU hg;simp only[yAt]at hi;rw[List.getElem_take];simp only[PD.bY];exact(h i Cj K).2
def Grp{α:Type}(em:Em α)(R:α->Prop)(sz:Nat)(g:List PD):Prop:=g.length=sz/\(∀c∈g,Calm c/\c.plain=true)/\∃x,R x/\(PD.agg g).strip=em.aB x
def NB{α:Type}(em:Em α)(R:α->Prop)(e sz:Nat)(σ:List aA)(id n:Nat)(P:PD):Prop:=∃v gs,P=.aO id v 0 n sz/\σ[id]?=some (.row e sz v (List.flatten gs))/\n<=gs.length/\gs.length<=1000/\∀g∈gs,Grp em R sz g
structure aFs (σ:List aA) (B K:Nat) (nm:List UInt8) (RP DP SP:PD) (C:List bX) (tC:Tok) (d0:List UInt8) (d1:Bool) (d2 d3:Int):Prop where
 o:σ[0]?=some (.box (.agg [.str nm,RP,DP,.slice 5 (C.map Em.aZ.aB) tC]))
 z:σ[2]?=some (.box (.agg [.str [],.slice 0 [] .full,.slice 0 [] .full,.slice 0 [] .full]))
 d:σ[B]?=some (.box (.agg [.str d0,.bool d1,.int .i64 d2,.int .i64 d3,SP]))
 b:4<B
 c:C.length<=1000
 r:∃n,NB Em.aL gS 48 6 σ 3 n RP
 dv:DP=.slice 0 [] .full\/∃n,NB Em.div gT 53 5 σ 4 n DP/\K<n
 s:SP=.slice 4 [] .full\/∃n,NB Em.stop jQ 56 4 σ (B+1) n SP
theorem MO{α:Type}{em:Em α}(sz z:Nat)(σ:List aA)(K:Nat)(tok:Tok):(bF σ (K+2) (.slice z [] tok)).strip=(em.list sz).aB []/\(bF σ (K+2) (.slice z [] tok)).bY=true:=⟨rfl,rfl⟩
theorem aPi{P:Program}{σ:Jp}{t e:TypeId}{k b n id v m:Nat}{cs:Jq}{x:PD}{tok:Tok}(ht:iK t n=true)(hu:P.underlying t=some (.slice e))(hi:lL P e=some (k,b))(ho:∀i z,P.info? e=some i->i.zero=some z->z.cells.toList.all Value.oneCell'=true)
  (eQ:σ[id]?=some (.row e k v cs)) (hl:m*k=cs.length) (hx:x.cells.length=k) (hm:m<=1000000) (hb:b<=1000) :
  dM P n 0 σ t (.aO id v 0 m k) (.slice k [x] tok)=some (.aO id (v+1) 0 (m+1) k,σ.set id (.row e k (v+1) (cs++x.cells))):=by
 unfold lL at hi;split at hi
 .rename_i i h1;split at hi
  .rename_i z0 h2;split at hi
   .rename_i h3;simp only[yAb,yAc]at hi;obtain⟨rfl,rfl⟩:=hi;have hone:=ho i z0 h1 h2;have hmm:m+1<=maxLen:=Dj;have hbb:(m+1)*i.bytes<=140737488355328:=by
     have:=yCU (show m+1<=1000001 by omega) hb;omega
    have hlt:¬0+(m+1)*i.size<=cs.length:=by
     rw[<-hl,yBV];have:=h3.1;omega
    simp only[dM,ht,yAK,hu,tV,h1,h2,h3.1,h3.2,hone,yBy,yCi,yAT,yAO,yAp,yAF,hmm,hbb,eQ];rw[yAI (by simpa using hlt),yAJ ⟨trivial,hl⟩];simp
   .cases hi
  .cases hi
 .cases hi
theorem aFp(R:List bH):(R.map Em.aL.aB).flatMap PD.cells=(R.map λr=>[PD.str r.name,.str r.kH,.int .i64 r.num,.int .i64 r.den,.int .i64 r.first,gH.aB r.mG]).flatten:=by
 induction R with
 |nil=>rfl
 |cons r R ih=>simp only[yAW,yBw,yBB,ih];rfl
theorem aOT(R:List bI):(R.map Em.div.aB).flatMap PD.cells=(R.map λr=>[PD.str r.name,.bool r.dO,.int .i64 r.low,.int .i64 r.high,oC.aB r.stops]).flatten:=by
 induction R with
 |nil=>rfl
 |cons r R ih=>simp only[yAW,yBw,yBB,ih];rfl
theorem aOW(R:List cJ):(R.map Em.stop.aB).flatMap PD.cells=(R.map λr=>[PD.str r.name,.int .i64 r.num,.int .i64 r.den,oQ.aB r.aN]).flatten:=by
 induction R with
 |nil=>rfl
 |cons r R ih=>simp only[yAW,yBw,yBB,ih];rfl
theorem D7{P:Program}{σ:Jp}{t e:TypeId}{k b s z n:Nat}{tok:Tok}(ht:iK t n=true)(hu:P.underlying t=some (.slice e))(hi:lL P e=some (k,b))(ho:∀i z,P.info? e=some i->i.zero=some z->z.cells.toList.all Value.oneCell'=true) :
  dM P n 0 σ t (.slice s [] .full) (.slice z [] tok)=some (.slice s [] .full,σ):=by
 unfold lL at hi;split at hi
 .rename_i i h1;split at hi
  .rename_i z0 h2;split at hi
   .rename_i h3;have hone:=ho i z0 h1 h2;have hfr:Tok.full.fresh=true:=rfl;simp only[dM,ht,yAK,hu,tV,h1,h2,h3.1,h3.2,hone,yBy,yAO,yCA,hfr,yBm,yCO,yAF]
   .cases hi
  .cases hi
 .cases hi
def frG(gg:Nat->PD)(B K:Nat):List PD:=gg 0::gg 1::.ptr 0 0::.ptr 1 0::.ptr 2 0::gg 5::.int .i64 K::.ptr B 0::gg 8::gg 9::gg 10::gg 11::gg 12::gg 13::gg 14::gg 15::gg 16::gg 17::gg 18::gg 19::gg 20::gg 21::gg 22::gg 23::gg 24::gg 25::gg 26::gg 27::gg 28::gg 29::gg 30::gg 31::gg 32::gg 33::gg 34::gg 35::gg 36::gg 37::gg 38::gg 39::gg 40::gg 41::gg 42::gg 43::gg 44::gg 45::gg 46::gg 47::gg 48::gg 49::gg 50::gg 51::gg 52::gg 53::gg 54::gg 55::gg 56::gg 57::gg 58::gg 59::gg 60::gg 61::gg 62::gg 63::gg 64::gg 65::gg 66::gg 67::gg 68::gg 69::gg 70::gg 71::gg 72::gg 73::gg 74::gg 75::gg 76::gg 77::gg 78::gg 79::gg 80::gg 81::gg 82::gg 83::gg 84::gg 85::gg 86::gg 87::gg 88::gg 89::gg 90::gg 91::gg 92::gg 93::gg 94::gg 95::gg 96::gg 97::gg 98::gg 99::gg 100::gg 101::gg 102::gg 103::gg 104::gg 105::gg 106::gg 107::gg 108::gg 109::gg 110::gg 111::gg 112::gg 113::gg 114::gg 115::gg 116::gg 117::gg 118::gg 119::gg 120::gg 121::gg 122::gg 123::gg 124::gg 125::gg 126::gg 127::gg 128::gg 129::gg 130::gg 131::gg 132::gg 133::gg 134::gg 135::gg 136::gg 137::gg 138::gg 139::gg 140::gg 141::gg 142::gg 143::gg 144::gg 145::gg 146::gg 147::gg 148::gg 149::gg 150::gg 151::gg 152::gg 153::gg 154::gg 155::gg 156::gg 157::gg 158::gg 159::gg 160::gg 161::gg 162::gg 163::gg 164::gg 165::gg 166::gg 167::gg 168::gg 169::gg 170::gg 171::gg 172::gg 173::gg 174::gg 175::gg 176::gg 177::gg 178::gg 179::gg 180::gg 181::gg 182::gg 183::gg 184::gg 185::gg 186::gg 187::gg 188::gg 189::gg 190::gg 191::gg 192::gg 193::gg 194::gg 195::gg 196::gg 197::gg 198::gg 199::gg 200::gg 201::gg 202::gg 203::gg 204::gg 205::gg 206::gg 207::gg 208::gg 209::gg 210::gg 211::gg 212::gg 213::gg 214::gg 215::gg 216::gg 217::gg 218::gg 219::gg 220::gg 221::gg 222::gg 223::gg 224::gg 225::gg 226::gg 227::gg 228::gg 229::gg 230::gg 231::gg 232::gg 233::gg 234::gg 235::gg 236::gg 237::gg 238::gg 239::gg 240::gg 241::gg 242::gg 243::gg 244::gg 245::gg 246::gg 247::gg 248::gg 249::gg 250::gg 251::gg 252::gg 253::gg 254::gg 255::gg 256::gg 257::gg 258::gg 259::gg 260::gg 261::gg 262::gg 263::gg 264::gg 265::gg 266::gg 267::gg 268::gg 269::gg 270::gg 271::gg 272::gg 273::gg 274::[]
structure aWB (B K:Nat) (nm:List UInt8) (RP DP SP:PD) (C:List bX) (tC:Tok) (d0:List UInt8) (d1:Bool) (d2 d3:Int) (r:PO):Prop where
 x:r.x=.normal
 m:r.ms=[]
 f:∃gg:Nat->PD,r.fr=frG gg B K
 i:aFs r.σ B K nm RP DP SP C tC d0 d1 d2 d3
theorem nF{t:TypeId}(h:(match prog.info? t with|some i=>(match i.zero with|some z=>z.cells.toList.all Value.oneCell' | none=>true)|none=>true)=true):∀i z,prog.info? t=some i->i.zero=some z->z.cells.toList.all Value.oneCell'=true:=by
 intro i z h1 h2;rw[h1]at h;simp only[h2]at h;exact h
section
def hd(k id n:Nat):PD:=if n=0 then .slice 0 [] .full else .aO id 0 0 n k
def newRow(e:TypeId)(k:Nat)(xs:List PD):List aA:=if xs.length=0 then []else [.row e k 0 (xs.flatMap PD.cells)]
def iX(e:TypeId)(k:Nat):Nat->List PD->List aA->Option (PD×List aA):=λfl args σ=>match args with
 | [.slice z xs .any]=>if xs.length=0 then some (.slice 0 [] .full,σ)else if z=k/\xs.length<=1000000 then some (.aO σ.length 0 0 xs.length k,σ++[.row e k 0 (xs.flatMap PD.cells)])else none
 |_=>none
theorem IY{e:TypeId}{k:Nat}{E:aE}(hU:aJ E){f:FuncId}:aJ (E.add f (iX e k)):=hU.tail λargs p h fl σ=>by
 unfold iX at h ⊢;split at h
 .split at h
  .rename_i h0;simp only[yAb,yAc,yBk]at h;simp only[h0,yAK,h]
  .exact As
 .cases h
theorem JE{α:Type}{em:Em α}{e:TypeId}{k:Nat}(l:List α)(hl:l.length<=1000000)(fl:Nat)(σ:List aA):iX e k fl [(em.list k).aB l] σ=some (hd k σ.length l.length,σ++newRow e k (l.map em.aB)):=by
 rw[aU];unfold iX hd newRow;simp only[yAe]
 by_cases h0:l.length=0
 .simp[h0]
 .have hne:l≠[]:=λh=>h0 Eb
  simp[h0,tK hne,hl]
variable{E:aE}(hU:aJ E)
include hU
theorem aOZ(h0:E 73=none)(fl:Nat)(z:Nat)(τ:List aA):aK prog E fl (.inl 73) [.slice z [] .j7] τ (λp σ'=>p=.slice 0 [] .full/\σ'=τ):=by
 have hb:iJ (.slice z [] .j7)=some true:=rfl;refine aK.aG 8 h0 func73 (h:=?_);exact Aj
theorem aO0(h0:E 73=none)(fl:Nat)(z:Nat)(τ:List aA):aK prog E fl (.inl 73) [.slice z [] .kY] τ (λp σ'=>p=.slice 6 [] .full/\σ'=τ):=by
 have hb:iJ (.slice z [] .kY)=some false:=rfl;have hz:∀(n:Nat) (hn:iK 31 n=true) (σ:List aA) (s z:Nat) (tok:Tok),dM prog n fl σ 31 (.slice s [] .full) (.slice z [] tok)=some (.slice s [] .full,σ):=λn hn σ s z tok=>by
  have h:=D7 (P:=prog) (σ:=σ) (t:=31) (e:=48) (k:=6) (b:=80) (s:=s) (z:=z) (tok:=tok) (n:=n) hn underlying31 Cl (nF Cl);exact h
 refine aK.aG 8 h0 func73 (h:=?_);exact zz
theorem aO1(h0:E 73=none)(fl:Nat)(xs:List PD)(hp:0<xs.length)(hl:xs.length<=1000000)(τ:List aA) :
  aK prog E fl (.inl 73) [.slice 6 xs .any] τ (λp σ'=>p=.aO τ.length 0 0 xs.length 6/\σ'=τ++[.row 48 6 0 (xs.flatMap PD.cells)]):=by
 have f1:∀(n:Nat) (hn:iK 31 n=true) (σ:List aA) (s:Nat),dM prog n fl σ 31 (.slice s [] .full) (.slice 6 xs .any)=some (.aO σ.length 0 0 xs.length 6,σ++[.row 48 6 0 (xs.flatMap PD.cells)]):=λn hn σ s=>by
  have h:=JF (P:=prog) (σ:=σ) (t:=31) (e:=48) (k:=6) (b:=80) (s:=s) (z:=6) (n:=n) (xs:=xs) hn underlying31 Cl (nF Cl) rfl hp Cj Cj;exact h
 have hb:iJ (.slice 6 xs .any)=some false:=by
  exact fo
 refine aK.aG 8 h0 func73 (h:=?_);exact Aa
theorem aM8(hE:aF prog E)(h0:E 73=none):aF prog (E.add 73 (iX 48 6)):=
 hE.JG bK λfl args σ p σ' h c vs eQ hv=>by
  unfold iX at h;split at h
  .rename_i z xs;split at h
   .rename_i hx;obtain rfl:=yAf hx;simp only[yAb,yAc]at h;obtain⟨rfl,rfl⟩:=h;rcases JH hv with hv|hv
    .obtain⟨p1,σ1,e1,rfl,rfl⟩:=(aOZ hU h0 fl z σ).ex;exact dy
    .obtain⟨p1,σ1,e1,rfl,rfl⟩:=(aO0 hU h0 fl z σ).ex;exact jd
   .rename_i hx;split at h
    .rename_i hc;obtain⟨rfl,hl⟩:=hc;simp only[yAb,yAc]at h;obtain⟨rfl,rfl⟩:=h;obtain⟨p1,σ1,e1,rfl,rfl⟩:=(aO1 hU h0 fl xs Cj hl σ).ex;exact dy
    .cases h
  .cases h
theorem aO2(h0:E 74=none)(fl:Nat)(z:Nat)(τ:List aA):aK prog E fl (.inl 74) [.slice z [] .j7] τ (λp σ'=>p=.slice 0 [] .full/\σ'=τ):=by
 have hb:iJ (.slice z [] .j7)=some true:=rfl;refine aK.aG 8 h0 func74 (h:=?_);exact Aj
theorem aO3(h0:E 74=none)(fl:Nat)(z:Nat)(τ:List aA):aK prog E fl (.inl 74) [.slice z [] .kY] τ (λp σ'=>p=.slice 5 [] .full/\σ'=τ):=by
 have hb:iJ (.slice z [] .kY)=some false:=rfl;have hz:∀(n:Nat) (hn:iK 32 n=true) (σ:List aA) (s z:Nat) (tok:Tok),dM prog n fl σ 32 (.slice s [] .full) (.slice z [] tok)=some (.slice s [] .full,σ):=λn hn σ s z tok=>by
  have h:=D7 (P:=prog) (σ:=σ) (t:=32) (e:=53) (k:=5) (b:=64) (s:=s) (z:=z) (tok:=tok) (n:=n) hn underlying32 Cl (nF Cl);exact h
 refine aK.aG 8 h0 func74 (h:=?_);exact zz
theorem aO4(h0:E 74=none)(fl:Nat)(xs:List PD)(hp:0<xs.length)(hl:xs.length<=1000000)(τ:List aA) :
  aK prog E fl (.inl 74) [.slice 5 xs .any] τ (λp σ'=>p=.aO τ.length 0 0 xs.length 5/\σ'=τ++[.row 53 5 0 (xs.flatMap PD.cells)]):=by
 have f1:∀(n:Nat) (hn:iK 32 n=true) (σ:List aA) (s:Nat),dM prog n fl σ 32 (.slice s [] .full) (.slice 5 xs .any)=some (.aO σ.length 0 0 xs.length 5,σ++[.row 53 5 0 (xs.flatMap PD.cells)]):=λn hn σ s=>by
  have h:=JF (P:=prog) (σ:=σ) (t:=32) (e:=53) (k:=5) (b:=64) (s:=s) (z:=5) (n:=n) (xs:=xs) hn underlying32 Cl (nF Cl) rfl hp Cj Cj;exact h
 have hb:iJ (.slice 5 xs .any)=some false:=by
  exact fo
 refine aK.aG 8 h0 func74 (h:=?_);exact Aa
theorem aNa(hE:aF prog E)(h0:E 74=none):aF prog (E.add 74 (iX 53 5)):=
 hE.JG bK λfl args σ p σ' h c vs eQ hv=>by
  unfold iX at h;split at h
  .rename_i z xs;split at h
   .rename_i hx;obtain rfl:=yAf hx;simp only[yAb,yAc]at h;obtain⟨rfl,rfl⟩:=h;rcases JH hv with hv|hv
    .obtain⟨p1,σ1,e1,rfl,rfl⟩:=(aO2 hU h0 fl z σ).ex;exact dy
    .obtain⟨p1,σ1,e1,rfl,rfl⟩:=(aO3 hU h0 fl z σ).ex;exact jd
   .rename_i hx;split at h
    .rename_i hc;obtain⟨rfl,hl⟩:=hc;simp only[yAb,yAc]at h;obtain⟨rfl,rfl⟩:=h;obtain⟨p1,σ1,e1,rfl,rfl⟩:=(aO4 hU h0 fl xs Cj hl σ).ex;exact dy
    .cases h
  .cases h
theorem aO5(h0:E 75=none)(fl:Nat)(z:Nat)(τ:List aA):aK prog E fl (.inl 75) [.slice z [] .j7] τ (λp σ'=>p=.slice 0 [] .full/\σ'=τ):=by
 have hb:iJ (.slice z [] .j7)=some true:=rfl;refine aK.aG 8 h0 func75 (h:=?_);exact Aj
theorem aO6(h0:E 75=none)(fl:Nat)(z:Nat)(τ:List aA):aK prog E fl (.inl 75) [.slice z [] .kY] τ (λp σ'=>p=.slice 5 [] .full/\σ'=τ):=by
 have hb:iJ (.slice z [] .kY)=some false:=rfl;have hz:∀(n:Nat) (hn:iK 33 n=true) (σ:List aA) (s z:Nat) (tok:Tok),dM prog n fl σ 33 (.slice s [] .full) (.slice z [] tok)=some (.slice s [] .full,σ):=λn hn σ s z tok=>by
  have h:=D7 (P:=prog) (σ:=σ) (t:=33) (e:=58) (k:=5) (b:=48) (s:=s) (z:=z) (tok:=tok) (n:=n) hn underlying33 Cl (nF Cl);exact h
 refine aK.aG 8 h0 func75 (h:=?_);exact zz
theorem aO7(h0:E 75=none)(fl:Nat)(xs:List PD)(hp:0<xs.length)(hl:xs.length<=1000000)(τ:List aA) :
  aK prog E fl (.inl 75) [.slice 5 xs .any] τ (λp σ'=>p=.aO τ.length 0 0 xs.length 5/\σ'=τ++[.row 58 5 0 (xs.flatMap PD.cells)]):=by
 have f1:∀(n:Nat) (hn:iK 33 n=true) (σ:List aA) (s:Nat),dM prog n fl σ 33 (.slice s [] .full) (.slice 5 xs .any)=some (.aO σ.length 0 0 xs.length 5,σ++[.row 58 5 0 (xs.flatMap PD.cells)]):=λn hn σ s=>by
  have h:=JF (P:=prog) (σ:=σ) (t:=33) (e:=58) (k:=5) (b:=48) (s:=s) (z:=5) (n:=n) (xs:=xs) hn underlying33 Cl (nF Cl) rfl hp Cj Cj;exact h
 have hb:iJ (.slice 5 xs .any)=some false:=by
  exact fo
 refine aK.aG 8 h0 func75 (h:=?_);exact Aa
theorem aNc(hE:aF prog E)(h0:E 75=none):aF prog (E.add 75 (iX 58 5)):=
 hE.JG bK λfl args σ p σ' h c vs eQ hv=>by
  unfold iX at h;split at h
  .rename_i z xs;split at h
   .rename_i hx;obtain rfl:=yAf hx;simp only[yAb,yAc]at h;obtain⟨rfl,rfl⟩:=h;rcases JH hv with hv|hv
    .obtain⟨p1,σ1,e1,rfl,rfl⟩:=(aO5 hU h0 fl z σ).ex;exact dy
    .obtain⟨p1,σ1,e1,rfl,rfl⟩:=(aO6 hU h0 fl z σ).ex;exact jd
   .rename_i hx;split at h
    .rename_i hc;obtain⟨rfl,hl⟩:=hc;simp only[yAb,yAc]at h;obtain⟨rfl,rfl⟩:=h;obtain⟨p1,σ1,e1,rfl,rfl⟩:=(aO7 hU h0 fl xs Cj hl σ).ex;exact dy
    .cases h
  .cases h
theorem aO8(h0:E 110=none)(fl:Nat)(z:Nat)(τ:List aA):aK prog E fl (.inl 110) [.slice z [] .j7] τ (λp σ'=>p=.slice 0 [] .full/\σ'=τ):=by
 have hb:iJ (.slice z [] .j7)=some true:=rfl;refine aK.aG 8 h0 func110 (h:=?_);exact Aj
theorem aO9(h0:E 110=none)(fl:Nat)(z:Nat)(τ:List aA):aK prog E fl (.inl 110) [.slice z [] .kY] τ (λp σ'=>p=.slice 4 [] .full/\σ'=τ):=by
 have hb:iJ (.slice z [] .kY)=some false:=rfl;have hz:∀(n:Nat) (hn:iK 51 n=true) (σ:List aA) (s z:Nat) (tok:Tok),dM prog n fl σ 51 (.slice s [] .full) (.slice z [] tok)=some (.slice s [] .full,σ):=λn hn σ s z tok=>by
  have h:=D7 (P:=prog) (σ:=σ) (t:=51) (e:=56) (k:=4) (b:=56) (s:=s) (z:=z) (tok:=tok) (n:=n) hn underlying51 Cl (nF Cl);exact h
 refine aK.aG 8 h0 func110 (h:=?_);exact zz
theorem aPa(h0:E 110=none)(fl:Nat)(xs:List PD)(hp:0<xs.length)(hl:xs.length<=1000000)(τ:List aA) :
  aK prog E fl (.inl 110) [.slice 4 xs .any] τ (λp σ'=>p=.aO τ.length 0 0 xs.length 4/\σ'=τ++[.row 56 4 0 (xs.flatMap PD.cells)]):=by
 have f1:∀(n:Nat) (hn:iK 51 n=true) (σ:List aA) (s:Nat),dM prog n fl σ 51 (.slice s [] .full) (.slice 4 xs .any)=some (.aO σ.length 0 0 xs.length 4,σ++[.row 56 4 0 (xs.flatMap PD.cells)]):=λn hn σ s=>by
  have h:=JF (P:=prog) (σ:=σ) (t:=51) (e:=56) (k:=4) (b:=56) (s:=s) (z:=4) (n:=n) (xs:=xs) hn underlying51 Cl (nF Cl) rfl hp Cj Cj;exact h
 have hb:iJ (.slice 4 xs .any)=some false:=by
  exact fo
 refine aK.aG 8 h0 func110 (h:=?_);exact Aa
theorem aNe(hE:aF prog E)(h0:E 110=none):aF prog (E.add 110 (iX 56 4)):=
 hE.JG bK λfl args σ p σ' h c vs eQ hv=>by
  unfold iX at h;split at h
  .rename_i z xs;split at h
   .rename_i hx;obtain rfl:=yAf hx;simp only[yAb,yAc]at h;obtain⟨rfl,rfl⟩:=h;rcases JH hv with hv|hv
    .obtain⟨p1,σ1,e1,rfl,rfl⟩:=(aO8 hU h0 fl z σ).ex;exact dy
    .obtain⟨p1,σ1,e1,rfl,rfl⟩:=(aO9 hU h0 fl z σ).ex;exact jd
   .rename_i hx;split at h
    .rename_i hc;obtain⟨rfl,hl⟩:=hc;simp only[yAb,yAc]at h;obtain⟨rfl,rfl⟩:=h;obtain⟨p1,σ1,e1,rfl,rfl⟩:=(aPa hU h0 fl xs Cj hl σ).ex;exact dy
    .cases h
  .cases h
theorem aPb(h0:E 118=none)(fl:Nat)(z:Nat)(τ:List aA):aK prog E fl (.inl 118) [.slice z [] .j7] τ (λp σ'=>p=.slice 0 [] .full/\σ'=τ):=by
 have hb:iJ (.slice z [] .j7)=some true:=rfl;refine aK.aG 8 h0 func118 (h:=?_);exact Aj
theorem aPc(h0:E 118=none)(fl:Nat)(z:Nat)(τ:List aA):aK prog E fl (.inl 118) [.slice z [] .kY] τ (λp σ'=>p=.slice 3 [] .full/\σ'=τ):=by
 have hb:iJ (.slice z [] .kY)=some false:=rfl;have hz:∀(n:Nat) (hn:iK 54 n=true) (σ:List aA) (s z:Nat) (tok:Tok),dM prog n fl σ 54 (.slice s [] .full) (.slice z [] tok)=some (.slice s [] .full,σ):=λn hn σ s z tok=>by
  have h:=D7 (P:=prog) (σ:=σ) (t:=54) (e:=92) (k:=3) (b:=40) (s:=s) (z:=z) (tok:=tok) (n:=n) hn underlying54 Cl (nF Cl);exact h
 refine aK.aG 8 h0 func118 (h:=?_);exact zz
theorem aPd(h0:E 118=none)(fl:Nat)(xs:List PD)(hp:0<xs.length)(hl:xs.length<=1000000)(τ:List aA) :
  aK prog E fl (.inl 118) [.slice 3 xs .any] τ (λp σ'=>p=.aO τ.length 0 0 xs.length 3/\σ'=τ++[.row 92 3 0 (xs.flatMap PD.cells)]):=by
 have f1:∀(n:Nat) (hn:iK 54 n=true) (σ:List aA) (s:Nat),dM prog n fl σ 54 (.slice s [] .full) (.slice 3 xs .any)=some (.aO σ.length 0 0 xs.length 3,σ++[.row 92 3 0 (xs.flatMap PD.cells)]):=λn hn σ s=>by
  have h:=JF (P:=prog) (σ:=σ) (t:=54) (e:=92) (k:=3) (b:=40) (s:=s) (z:=3) (n:=n) (xs:=xs) hn underlying54 Cl (nF Cl) rfl hp Cj Cj;exact h
 have hb:iJ (.slice 3 xs .any)=some false:=by
  exact fo
 refine aK.aG 8 h0 func118 (h:=?_);exact Aa
theorem aNg(hE:aF prog E)(h0:E 118=none):aF prog (E.add 118 (iX 92 3)):=
 hE.JG bK λfl args σ p σ' h c vs eQ hv=>by
  unfold iX at h;split at h
  .rename_i z xs;split at h
   .rename_i hx;obtain rfl:=yAf hx;simp only[yAb,yAc]at h;obtain⟨rfl,rfl⟩:=h;rcases JH hv with hv|hv
    .obtain⟨p1,σ1,e1,rfl,rfl⟩:=(aPb hU h0 fl z σ).ex;exact dy
    .obtain⟨p1,σ1,e1,rfl,rfl⟩:=(aPc hU h0 fl z σ).ex;exact jd
   .rename_i hx;split at h
    .rename_i hc;obtain⟨rfl,hl⟩:=hc;simp only[yAb,yAc]at h;obtain⟨rfl,rfl⟩:=h;obtain⟨p1,σ1,e1,rfl,rfl⟩:=(aPd hU h0 fl xs Cj hl σ).ex;exact dy
    .cases h
  .cases h
theorem aPe(h0:E 119=none)(fl:Nat)(z:Nat)(τ:List aA):aK prog E fl (.inl 119) [.slice z [] .j7] τ (λp σ'=>p=.slice 0 [] .full/\σ'=τ):=by
 have hb:iJ (.slice z [] .j7)=some true:=rfl;refine aK.aG 8 h0 func119 (h:=?_);exact Aj
theorem aPf(h0:E 119=none)(fl:Nat)(z:Nat)(τ:List aA):aK prog E fl (.inl 119) [.slice z [] .kY] τ (λp σ'=>p=.slice 2 [] .full/\σ'=τ):=by
 have hb:iJ (.slice z [] .kY)=some false:=rfl;have hz:∀(n:Nat) (hn:iK 90 n=true) (σ:List aA) (s z:Nat) (tok:Tok),dM prog n fl σ 90 (.slice s [] .full) (.slice z [] tok)=some (.slice s [] .full,σ):=λn hn σ s z tok=>by
  have h:=D7 (P:=prog) (σ:=σ) (t:=90) (e:=89) (k:=2) (b:=16) (s:=s) (z:=z) (tok:=tok) (n:=n) hn underlying90 Cl (nF Cl);exact h
 refine aK.aG 8 h0 func119 (h:=?_);exact zz
theorem aPg(h0:E 119=none)(fl:Nat)(xs:List PD)(hp:0<xs.length)(hl:xs.length<=1000000)(τ:List aA) :
  aK prog E fl (.inl 119) [.slice 2 xs .any] τ (λp σ'=>p=.aO τ.length 0 0 xs.length 2/\σ'=τ++[.row 89 2 0 (xs.flatMap PD.cells)]):=by
 have f1:∀(n:Nat) (hn:iK 90 n=true) (σ:List aA) (s:Nat),dM prog n fl σ 90 (.slice s [] .full) (.slice 2 xs .any)=some (.aO σ.length 0 0 xs.length 2,σ++[.row 89 2 0 (xs.flatMap PD.cells)]):=λn hn σ s=>by
  have h:=JF (P:=prog) (σ:=σ) (t:=90) (e:=89) (k:=2) (b:=16) (s:=s) (z:=2) (n:=n) (xs:=xs) hn underlying90 Cl (nF Cl) rfl hp Cj Cj;exact h
 have hb:iJ (.slice 2 xs .any)=some false:=by
  exact fo
 refine aK.aG 8 h0 func119 (h:=?_);exact Aa
theorem aNi(hE:aF prog E)(h0:E 119=none):aF prog (E.add 119 (iX 89 2)):=
 hE.JG bK λfl args σ p σ' h c vs eQ hv=>by
  unfold iX at h;split at h
  .rename_i z xs;split at h
   .rename_i hx;obtain rfl:=yAf hx;simp only[yAb,yAc]at h;obtain⟨rfl,rfl⟩:=h;rcases JH hv with hv|hv
    .obtain⟨p1,σ1,e1,rfl,rfl⟩:=(aPe hU h0 fl z σ).ex;exact dy
    .obtain⟨p1,σ1,e1,rfl,rfl⟩:=(aPf hU h0 fl z σ).ex;exact jd
   .rename_i hx;split at h
    .rename_i hc;obtain⟨rfl,hl⟩:=hc;simp only[yAb,yAc]at h;obtain⟨rfl,rfl⟩:=h;obtain⟨p1,σ1,e1,rfl,rfl⟩:=(aPg hU h0 fl xs Cj hl σ).ex;exact dy
    .cases h
  .cases h
end
end Go.Kz
end
