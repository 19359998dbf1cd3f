/- Steps of the proof. -/
import Derived.Test.YteegpeenjdgodaaGreatDoorS3
import Derived.Lib.Itoa
import Derived.Lib.ItoaNum
import Derived.Lib.Join
import Derived.Test.YteegpeenjdgodaaGreatDoorS8
import Derived.Shelf.Strings.OnBuilder
import Derived.Shelf.Spec.SlicesInsert
import Derived.Test.YteegpeenjdgodaaGreatDoorS7
set_option linter.all false
set_option maxHeartbeats 40000000
set_option maxRecDepth 100000
open Go.Proofs.Tryz
noncomputable section
namespace Go.Kz
open Go Go.Proofs
abbrev aEL:Em Int:=Em.int .i64
def KQ:Nat->List PD->List aB->Option (PD×List aB):=entry (bZ aEL .text λn=>dY (-9223372036854775808<=n/\n<=9223372036854775807) (some (Lib.itoa n)))
theorem aEE(n:Int)(h:-9223372036854775808<=n/\n<=9223372036854775807)(fl:Nat)(σ:List aB):KQ fl [.int .i64 n] σ=some (.str (Lib.itoa n),σ):=by
 have e:aEL.dec (.int .i64 n)=some n:=Em.cO rfl;unfold KQ entry bZ;simp only[e];rw[gO h];rfl
def O7(l:List (List UInt8))(s:List UInt8):Prop:=l≠[]/\l.length<=1000/\(Lib.join l s).length<=1000000
def BW:Nat->List PD->List aB->Option (PD×List aB):=entry (eD (Em.text.list 1) .text .text λl s=>dY (O7 l s) (some (Lib.join l s)))
theorem aPM(l:List (List UInt8))(s:List UInt8)(h:O7 l s)(t:Tok)(fl:Nat)(σ:List aB):BW fl [.slice 1 (l.map PD.str) t,.str s] σ=some (.str (Lib.join l s),σ):=by
 have e1:(Em.text.list 1).dec (.slice 1 (l.map PD.str) t)=some l:=Em.cO (by
  rw[PD.rH];show _=PD.slice (sz 1 l) (l.map PD.str) .any
  rw[rE h.1,yAI (by simp[h.1]),yBA];rfl)
 have e2:Em.text.dec (.str s)=some s:=Em.cO rfl;unfold BW entry eD;simp only[e1,e2];rw[gO h];rfl
theorem aEF{k:Nat}(hk:k=1){xs:Ey}{l:List (List UInt8)}(hxs:xs=l.map PD.str){s:Ez}(h:O7 l s)(t:Tok)(fl:Nat)(σ:List aB):BW fl [.slice k xs t,.str s] σ=some (.str (Lib.join l s),σ):=by
 subst hk hxs;exact aPM l s h t fl σ
end Go.Kz
namespace Go.Kz
section
open Go Go.Proofs Go.RowKit
theorem aPD{E:aE}(hE:aF prog E):aF prog (E.add 65 KQ):=by
 refine hE.GG ⟨_,func65,rfl⟩ λargs c vs p hg hs hv=>?_
 obtain⟨n,z,ha,hz,rfl⟩:=aNG hg;obtain⟨⟨h0,h1⟩,jI⟩:=gA hz;simp only[yAb]at jI;subst jI;have qN:=hv.strip;rw[ha]at qN;obtain⟨v,rfl,h2⟩:=OO qN;exact bg
theorem aPG{E:aE}(hE:aF prog E):aF prog (E.add 66 BW):=by
 refine hE.GG ⟨_,func66,rfl⟩ λargs c vs p hg hs hv=>?_
 obtain⟨l,s,z,ha,hz,rfl⟩:=aNH hg;obtain⟨⟨hne,hl,hjl⟩,jI⟩:=gA hz;simp only[yAb]at jI;subst jI;have qN:=hv.strip;rw[ha]at qN;obtain⟨v,u,rfl,h1,h2⟩:=J9 qN;rw[h2.KA];obtain⟨A,capx,flx,rfl,a1,a2,a3,a4,a5,a6,a7,a8⟩:=h1.nS;have hfl:(l.map Em.text.aA).flatMap PD.cells=l.map PD.str:=by
  have:∀l:List (List UInt8),(l.map Em.text.aA).flatMap PD.cells=l.map PD.str:=λl=>by
   induction l with
   |nil=>rfl
   |cons x l ih=>rw[yAR,yBs,ih];rfl
  exact this l
 rw[yAe]at a4;rw[rE hne,yDc]at a4;rw[hfl]at a7;have hl0:0<l.length:=yCt.2 hne;obtain⟨ad,rfl,hc0,_⟩:=a6 0 (flx[0]' ye) yg;obtain⟨bk,o,spot⟩:=ad;have hsp:spot=none:=by
  cases spot with
  |none=>rfl
  |some q=>
   have:((⟨bk,o,some q⟩:Addr).add 0).spot.isSome=true:=zg;unfold World.cell? at hc0;split at hc0
   .rw[yAJ this]at hc0;cases hc0
   .cases hc0
 subst hsp;have hbk:bk<c.w.heap.size:=by
  have:=yP hc0
  rwa [WS]at this
 have hx:(l.map λs:List UInt8=>(⟨s.toArray⟩:ByteArray)).map (·.data.toList)=l:=by
  rw[yBA]
  conv=>rhs;rw[<-List.map_id l]
  exact yAG λx _=>yg
 have hj:=Tryz.strings_Join bk o capx (l.map λs:List UInt8=>(⟨s.toArray⟩:ByteArray)) ⟨s.toArray⟩ c.w (λj x hjx=>by
  rw[yAo]at hjx;cases hlj:l[j]? with
  |none=>rw[hlj]at hjx;cases hjx
  |some y=>
   rw[hlj]at hjx;simp only[yAC,yAb]at hjx;subst hjx;have hjl:j<flx.length:=by rw[a4];exact(yA.1 hlj).1
   obtain⟨IA,e9,h9,_⟩:=a6 j flx[j] (yAh hjl);cases e9;have:=(a7 j flx[j] (.str y) (yAh hjl) (by rw[yAo,hlj];rfl)).KA;rw[<-sM,h9,this]) hbk zo (by rw[yAe];rw[yAe]at a1;exact a1) (by rw[hx];exact yAW hjl ye)
 rw[yAe,hx]at hj;rw[yAe];refine yBB hj λe w' he=>?_
 obtain⟨rfl,hB⟩:=he;refine⟨_,rfl,⟨hB.os,hB.tape,hB.output,hB.size,λk hk _=>hB.block k hk⟩,λ_=>?_⟩;exact .str _
end
section
open Go Go.Proofs Go.RowKit Go.Lib
def pU(f ov t e k:Nat):Prop:=(f=112/\ov=137/\t=31/\e=48/\k=6)\/(f=114/\ov=139/\t=32/\e=53/\k=5)\/(f=116/\ov=141/\t=51/\e=56/\k=4)\/(f=120/\ov=143/\t=33/\e=58/\k=5)
theorem pU.ut{f ov t e k:Nat}(h4:pU f ov t e k):prog.underlying t=some (.slice e):=by
 exact iw
theorem pU.hz{f ov t e k:Nat}(h4:pU f ov t e k)(w:World):(Go.sizeOf e).run prog w=.ok k w:=by
 exact iw
theorem pU.hk{f ov t e k:Nat}(h4:pU f ov t e k):k=4\/k=5\/k=6:=by unfold pU at h4;omega
theorem kk{G:Prop}(h:G:=by rcases hk with rfl|rfl|rfl<;>omega):G:=h
def kF(k:Nat)(cur:Array Value)(i n:Nat):List Value:=(cur.toList.drop (i*k)).take ((n-i)*k)
def tH(k:Nat)(cur:Array Value)(i n:Nat):Array Value:=(cur.toList.take ((i+1)*k)++kF k cur i n++cur.toList.drop ((i+1)*k+(kF k cur i n).length)).toArray
def KJ(k:Nat)(cur:Array Value)(i n:Nat)(vs:List Value):Array Value:=((tH k cur i n).toList.take (i*k)++vs++(tH k cur i n).toList.drop (i*k+vs.length)).toArray
theorem aN7{i n c:Nat}(hi:i<n)(hroom:n+1<=c)(hcm:c<=9223372036854775807):(¬((i:Int)=(n:Int)))/\(IntKind.i64.wrap ((n:Int)+1)=(n:Int)+1)/\(IntKind.i64.wrap ((i:Int)+1)=(i:Int)+1)/\(wrap64 ((n:Int)+1)=(n:Int)+1)/\(wrap64 ((i:Int)+1)=(i:Int)+1)/\((0:Int)<=(n:Int)+1)/\((0:Int)<=(i:Int)+1)/\(¬((c:Int)<(n:Int)+1))/\((n:Int)+1<=(c:Int))/\((i:Int)+1<=(n:Int)+1)/\((i:Int)<=(n:Int)+1)/\(¬(c=i+1))/\(¬(c=i))/\(((n:Int)+1).toNat=n+1)/\(((i:Int)+1).toNat=i+1):=
 ⟨ye,ym,ym,(KH ye ye),(KH ye ye),ye,ye,ye,ye,ye,ye,ye,ye,ye,ye⟩
theorem aN8{f ov t e k:Nat}(h4:pU f ov t e k)(w:World)(b n c i vc:Nat)(a:Addr)(cur:Array Value)(T:TypeId)(vs:List Value){cA:Fb}{TA:TypeId}{fz:Nat×Nat}
  (hi:i<n) (hroom:n+1<=c) (hc:c<=maxLen) (hb:w.heap[b]?=some (.cells cur T (0,0))) (hcur:cur.size=c*k) (hab:a.block≠b) (ha:w.heap[a.block]?=some (.cells cA TA fz)) (ha0:cA.size≠0)
  (hvl:vs.length=k) (hvs:∀(j:Nat) (v:Value),vs[j]?=some v->w.cell? (a.add j)=some v) (h1c:∀v∈cur.toList,v.oneCell'=true) (h1v:∀v∈vs,v.oneCell'=true) :
  Calls prog f #[.slice (some ⟨b,0,none⟩) n c,.int .i64 i,.slice (some a) 1 vc] w λe w'=>
   e=.returned (.slice (some ⟨b,0,none⟩) (n+1) c)/\w'=(w.drew.setRow b (tH k cur i n)).setRow b (KJ k cur i n vs):=by
 have mixed:prog.follows .mixedOrders=true:=yf;have u3:=yAM (P:=prog) underlying3;have u4:=yAM (P:=prog) underlying4;have o4:=h4.ut;have ut:=yAM (P:=prog) o4;have hk:=h4.hk;have hz:∀w,(Go.sizeOf e).run prog w=.ok k w:=h4.hz;have hov:∀bo lb cb,(callFunc ov #[.slice (some a) 1 vc,.slice (some ⟨b,bo,none⟩) lb cb]).run prog w=.ok (.value (.bool false)) w:=λbo lb cb=>by
  unfold pU at h4;rcases h4 with⟨rfl,rfl,rfl,rfl,rfl⟩ | ⟨rfl,rfl,rfl,rfl,rfl⟩ | ⟨rfl,rfl,rfl,rfl,rfl⟩ | ⟨rfl,rfl,rfl,rfl,rfl⟩
  all_goals
   first|rw[yDT func137 yf yf yf (e:=Extern.SlicesOverlaps.overlaps #[31,31] #[4]) yf] | rw[yDT func139 yf yf yf (e:=Extern.SlicesOverlaps.overlaps #[32,32] #[4]) yf] | rw[yDT func141 yf yf yf (e:=Extern.SlicesOverlaps.overlaps #[51,51] #[4]) yf] | rw[yDT func143 yf yf yf (e:=Extern.SlicesOverlaps.overlaps #[33,33] #[4]) yf]
   rw[aN0 w _ 4 _ o4 _ hz a ⟨b,bo,none⟩ 1 vc lb cb hab ha ha0 hb];rfl
 have hcm:c<=9223372036854775807:=hc;obtain⟨jI,hw0,hw1,oX,IZ,hb0,hb1,hb2,hb3,hb4,hb5,hq1,hq2,L6,tB⟩:=aN7 hi hroom hcm;have hDl:(kF k cur i n).length=(n-i)*k:=by
  exact oz
 have hAs:(tH k cur i n).size=cur.size:=by
  unfold tH;simp only[yCq,yAa,yAt,yBd,yBi,hDl,hcur];exact kk
 have vW:∀v∈kF k cur i n,v.oneCell'=true:=λv hv=>h1c v (yBg (yAy hv))
 have h1A:∀v∈(tH k cur i n).toList,v.oneCell'=true:=by
  unfold tH;intro v hv;exact kr
 have hbd:w.drew.heap[b]?=some (.cells cur T (0,0)):=hb;have WT:∀ty dc sc,(Builtin.copy_ #[t,t] ty #[.slice (some ⟨b,(i+1)*k,none⟩) (n-i) dc,.slice (some ⟨b,i*k,none⟩) (n+1-i) sc]).run prog w.drew=.ok (goInt (n-i:Nat)) (w.drew.setRow b (tH k cur i n)):=λty dc sc=>
  OV o4 hz w.drew b ((i+1)*k) _ dc (some ⟨b,i*k,none⟩) _ sc (n-i) (Nat.min_eq_right (Nat.sub_le_sub_right (yCs n) i)) (kF k cur i n) hDl (λj v hj=>⟨_,rfl,by
   rw[sM];simp only[World.cell?,hbd];unfold kF at hj;rw[yAv]at hj;split at hj
   .exact iz
   .cases hj⟩) hbd (by rw[hDl,hcur];exact kk) vW
 obtain⟨W1,KK⟩:∃W1,W1=w.drew.setRow b (tH k cur i n):=⟨_,rfl⟩;have hb1:W1.heap[b]?=some (.cells (tH k cur i n) T (0,0)):=by rw[KK];exact yBU _ _ cur _ T (0,0) hbd
 have WU:∀ty dc sc,(Builtin.copy_ #[t,t] ty #[.slice (some ⟨b,i*k,none⟩) (n+1-i) dc,.slice (some a) 1 sc]).run prog W1=.ok (goInt (1:Nat)) (W1.setRow b (KJ k cur i n vs)):=λty dc sc=>
  OV o4 hz W1 b (i*k) _ dc (some a) 1 sc 1 (yBS (Nat.sub_pos_of_lt (Nat.lt_succ_of_lt hi))) vs kk (λj v hj=>⟨_,rfl,by
   have:=hvs j v hj;rw[KK];have hbl:(a.add j).block=a.block:=Ch;unfold World.cell? at this ⊢;rw[hbl]at this ⊢;rw[yBN _ _ _ _ (λh=>hab h)];exact this⟩) hb1 (by rw[hAs,hcur,hvl];exact kk) h1v
 subst KK;unfold pU at h4;rcases h4 with⟨rfl,rfl,rfl,rfl,rfl⟩ | ⟨rfl,rfl,rfl,rfl,rfl⟩ | ⟨rfl,rfl,rfl,rfl,rfl⟩ | ⟨rfl,rfl,rfl,rfl,rfl⟩
 all_goals
  first|go_enter func112,Tryz.ntmps112|go_enter func114,Tryz.ntmps114|go_enter func116,Tryz.ntmps116|go_enter func120,Tryz.ntmps120
  go_wp2_with (simp only[hov])
  go_region_law_o (refine step_copy_runI rfl _ _ _ _ rfl _ _ Ca Ca (WT _ _ _) ?_)
  go_wp2_with (at_builtin;refine wpList_copy_runI _ rfl _ _ _ _ rfl _ _ rfl rfl (WU _ _ _) ?_)
  go_ret
  exact⟨rfl,rfl⟩
end
section
open Go Go.Proofs Go.RowKit Go.Lib
def vX(k:Nat)(zc:Array Value)(cur:Array Value)(i n G:Nat):Array Value:=(cur.toList.take (i*k)).toArray++Builtin.zeroCells zc (n+1-i)++Builtin.zeroCells zc (G-(n+1))
def jP(k:Nat)(R:Array Value)(i:Nat)(vs:List Value):Array Value:=(R.toList.take (i*k)++vs++R.toList.drop (i*k+vs.length)).toArray
def GM(k:Nat)(S:Array Value)(i:Nat)(D:List Value):Array Value:=(S.toList.take ((i+1)*k)++D++S.toList.drop ((i+1)*k+D.length)).toArray
theorem aOm{i n:Nat}(hi:i<n):Nat.min 1 (n+1-i)=1:=by simp only[Nat.min_def];split<;>omega
theorem aOn{i n:Nat}:Nat.min (n-i) (n-i)=n-i:=Nat.min_self _
theorem aOo{k:Nat}(hk:k=4\/k=5\/k=6){i n r l:Nat}(hi:i<n)(hr:n*k+k<=r)(hl:l=k):i*k+l<=r:=kk
theorem aOp{k:Nat}(hk:k=4\/k=5\/k=6){i n r s l:Nat}(hi:i<n)(hr:n*k+k<=r)(hs:s=r)(hl:l=(n-i)*k):(i+1)*k+l<=s:=kk
theorem aOq{k:Nat}(hk:k=4\/k=5\/k=6){R:Fb}{i n:Nat}{vs:Fa}(hi:i<n)(hr:n*k+k<=R.size)(hvl:vs.length=k):(jP k R i vs).size=R.size:=by
 unfold jP;simp only[yCq,yAa,yAt,yBd,yBi,hvl];exact kk
theorem aOr{k:Nat}(hk:k=4\/k=5\/k=6){cur:Fb}{i n c:Nat}(hcur:cur.size=c*k)(hi:i<n)(hnc:n<=c):(kF k cur i n).length=(n-i)*k:=by
 exact oz
theorem aOs{k:Nat}(hk:k=4\/k=5\/k=6){n G:Nat}(h:n+1<=G):n*k+k<=G*k:=kk
theorem aOt{k:Nat}(hk:k=4\/k=5\/k=6){zc cur:Fb}{i n c G:Nat}(hzs:zc.size=k)(hcur:cur.size=c*k)(hi:i<n)(hnc:n<=c)(hge:n+1<=G):(vX k zc cur i n G).size=G*k:=by
 have h1:(cur.toList.take (i*k)).length=i*k:=by rw[yAt,yBi,hcur];exact kk
 unfold vX;simp only[yDP,yCq,h1,yDu,hzs];exact kk
theorem aOk{f ov t e k:Nat}(h4:pU f ov t e k)(w:World)(b n c i vc:Nat)(a:Addr)(cur:Array Value)(T:TypeId)(vs:List Value){cA:Fb}{TA:TypeId}{fz:Nat×Nat}
  (hi:i<n) (hnc:n<=c) (hroom:c<n+1) (hn:n<=200) (hb:w.heap[b]?=some (.cells cur T (0,0))) (hcur:cur.size=c*k) (ha:w.heap[a.block]?=some (.cells cA TA fz))
  (hvl:vs.length=k) (hvs:∀(j:Nat) (v:Value),vs[j]?=some v->w.cell? (a.add j)=some v) (h1c:∀v∈cur.toList,v.oneCell'=true) (h1v:∀v∈vs,v.oneCell'=true)
  {inf:TypeInfo} {z:Value} (hin:prog.info? e=some inf) (hzr:inf.zero=some z) (his:inf.size=k) (hib:inf.bytes<=1000) (hzs:z.cells.size=k) (hz1:∀v∈z.cells.toList,v.oneCell'=true) (G:Nat) (hG:Kept (G=grownCap w (n+1) c e)) :
  Calls prog f #[.slice (some ⟨b,0,none⟩) n c,.int .i64 i,.slice (some a) 1 vc] w λen w'=>
   en=.returned (.slice (some ⟨w.heap.size,0,none⟩) (n+1) G) /\
   w'=((w.drew.alloc (.cells (vX k z.cells cur i n G) e)).setRow w.heap.size (jP k (vX k z.cells cur i n G) i vs)).drew.setRow w.heap.size (GM k (jP k (vX k z.cells cur i n G) i vs) i (kF k cur i n)):=by
 have mixed:prog.follows .mixedOrders=true:=yf;have u3:=yAM (P:=prog) underlying3;have u4:=yAM (P:=prog) underlying4;have o4:=h4.ut;have ut:=yAM (P:=prog) o4;have hk:=h4.hk;have hz:∀w,(Go.sizeOf e).run prog w=.ok k w:=h4.hz;have hge:n+1<=G:=by rw[hG.out];exact yDs _ _ _ _
 have hbw:b<w.heap.size:=fM hb;have haw:a.block<w.heap.size:=fM ha;obtain⟨jI,hw0,hw1,oX,IZ,hw5,hw4,hb2,hb5,hb6,hb7,hb8,hb9,hq1,hq2,KL,tB,hik⟩:=aN3 hi hnc hroom hn hge;have hic:i<=c:=yCh (yBP hi hnc);have hold:(Builtin.firstCells inf.size i (.slice (some ⟨b,0,none⟩) i c)).run prog w.drew=.ok (cur.toList.take (i*k)).toArray w.drew:=by
  rw[his];exact AV (by rw[yAt,yBi,hcur,yBS];exact yBK _ hic) λj v hj=>by
   rw[sM];simp only[World.cell?,WO,hb,yAp];rw[yAv]at hj;split at hj
   .simpa using hj
   .cases hj
 have hrz:∀ty,(Builtin.append_ #[t,3] ty #[.slice (some ⟨b,0,none⟩) i c,.int .i64 ((n:Int)+1-i)]).run prog w =
   .ok (.slice (some ⟨w.heap.size,0,none⟩) (n+1) G) (w.drew.alloc (.cells (vX k z.cells cur i n G) e)):=λty=>by
  obtain⟨m1,m2,m3,m4,m5⟩:=aN4 hi hnc hroom hn hib;have h:=Lib.run_append_grow_zeros (P:=prog) w t 3 ty e inf z .i64 .i64 o4 underlying3 hin hzr (some ⟨b,0,none⟩) i c (cur.toList.take (i*k)) hold (n+1-i) m1 (by rw[his];exact kk) m2 m3 m4 m5;rw[hik,<-hG.out]at h;rw[hw5];exact h
 have hRs:n*k+k<=(vX k z.cells cur i n G).size:=by
  rw[aOt hk hzs hcur hi hnc hge];exact aOs hk hge
 obtain⟨R,hR⟩:=gn (vX k z.cells cur i n G);rw[hR]at hrz hRs ⊢;have hheap:(w.drew.alloc (.cells R e)).heap[w.heap.size]?=some (.cells R e (0,0)):=yBW w.drew _;have hcA:∀ty dc sc,(Builtin.copy_ #[t,t] ty #[.slice (some ⟨w.heap.size,i*k,none⟩) (n+1-i) dc,.slice (some a) 1 sc]).run prog (w.drew.alloc (.cells R e))=.ok (goInt (1:Nat)) ((w.drew.alloc (.cells R e)).setRow w.heap.size (jP k R i vs)):=λty dc sc=>
  OV (cur:=R) (T:=e) o4 hz (w.drew.alloc (.cells R e)) w.heap.size (i*k) (n+1-i) dc (some a) 1 sc 1 (aOm hi) vs (by rw[hvl,Nat.one_mul]) (λj v hj=>⟨_,rfl,by
   have:=hvs j v hj;have hbl:(a.add j).block=a.block:=Ch;unfold World.cell? at this ⊢;rw[hbl]at this ⊢;rw[yDt w.drew _ haw];exact this⟩) hheap (aOo hk hi hRs hvl) h1v
 have hSs:(jP k R i vs).size=R.size:=aOq hk hi hRs hvl;have hDl:(kF k cur i n).length=(n-i)*k:=aOr hk hcur hi hnc;have vW:∀v∈kF k cur i n,v.oneCell'=true:=λv hv=>h1c v (yBg (yAy hv))
 have OY:(((w.drew.alloc (.cells R e)).setRow w.heap.size (jP k R i vs)).drew).heap[w.heap.size]?=some (.cells (jP k R i vs) e (0,0)):=yBU _ _ R _ e (0,0) hheap;have hcB:∀ty dc sc,(Builtin.copy_ #[t,t] ty #[.slice (some ⟨w.heap.size,(i+1)*k,none⟩) (n-i) dc,.slice (some ⟨b,i*k,none⟩) (n-i) sc]).run prog (((w.drew.alloc (.cells R e)).setRow w.heap.size (jP k R i vs)).drew)=.ok (goInt (n-i:Nat)) ((((w.drew.alloc (.cells R e)).setRow w.heap.size (jP k R i vs)).drew).setRow w.heap.size (GM k (jP k R i vs) i (kF k cur i n))):=λty dc sc=>
  OV (cur:=jP k R i vs) (T:=e) o4 hz ((w.drew.alloc (.cells R e)).setRow w.heap.size (jP k R i vs)).drew w.heap.size ((i+1)*k) (n-i) dc (some ⟨b,i*k,none⟩) (n-i) sc (n-i) aOn (kF k cur i n) hDl (λj v hj=>⟨_,rfl,by
   rw[sM];simp only[World.cell?,WO];rw[yBN _ _ _ _ (Nat.ne_of_lt hbw),yDt w.drew _ hbw];simp only[WO,hb];unfold kF at hj;rw[yAv]at hj;split at hj
   .exact iz
   .cases hj⟩) OY (aOp hk hi hRs hSs hDl) vW
 have WT:∀ty dc sc,(Builtin.copy_ #[t,t] ty #[.slice (some ⟨w.heap.size,i*k,none⟩) (n+1-i) dc,.slice (some a) 1 sc]).run prog ((w.alloc (.cells R e)).drew)=.ok (goInt (1:Nat)) (((w.alloc (.cells R e)).drew).setRow w.heap.size (jP k R i vs)):=hcA;have WU:∀ty dc sc,(Builtin.copy_ #[t,t] ty #[.slice (some ⟨w.heap.size,(i+1)*k,none⟩) (n-i) dc,.slice (some ⟨b,i*k,none⟩) (n-i) sc]).run prog ((((w.alloc (.cells R e)).drew).setRow w.heap.size (jP k R i vs)).drew)=.ok (goInt (n-i:Nat)) (((((w.alloc (.cells R e)).drew).setRow w.heap.size (jP k R i vs)).drew).setRow w.heap.size (GM k (jP k R i vs) i (kF k cur i n))):=hcB;clear hcA hcB;clear hold hik hw5 hRs hSs hDl vW hheap OY hR hin hzr his hib hzs hz1 hG hic hb hcur ha hvl hvs h1c h1v hbw haw;unfold pU at h4;rcases h4 with⟨rfl,rfl,rfl,rfl,rfl⟩ | ⟨rfl,rfl,rfl,rfl,rfl⟩ | ⟨rfl,rfl,rfl,rfl,rfl⟩ | ⟨rfl,rfl,rfl,rfl,rfl⟩
 all_goals
  first|go_enter func112,Tryz.ntmps112|go_enter func114,Tryz.ntmps114|go_enter func116,Tryz.ntmps116|go_enter func120,Tryz.ntmps120
  go_wp2_with (first
   |(at_builtin;refine Lib.wpList_append_run _ rfl _ _ _ _ rfl _ _ rfl rfl _ _ (hrz _) ?_)
   |(at_builtin;refine wpList_copy_runI _ rfl _ _ _ _ rfl _ _ rfl rfl (WT _ _ _) ?_))
  go_region_law_o (refine step_copy_runI rfl _ _ _ _ rfl _ _ Ca Ca (WU _ _ _) ?_)
  go_wp2
  go_ret
  exact⟨rfl,rfl⟩
end
section
open Go Go.Proofs Go.RowKit Go.Lib
theorem aOh{α:Type}(L D V X:List α)(p k:Nat)(hV:V.length=k)(h:p+k<=L.length):(L.take (p+k)++D++X).take p++V++(L.take (p+k)++D++X).drop (p+k)=L.take p++V++D++X:=by
 have hl:(L.take (p+k)).length=p+k:=Ai;rw[yAi (L.take (p+k)),yDa ye,yCi,yBS ye,yEj ye,yCk ye,yAO,yAi,yAi,yAi]
theorem aOi{α:Type}(L Z D V X:List α)(p k:Nat)(hL:L.length=p)(hV:V.length=k):((L++Z).take p++V++X).take (p+k)++D=L++V++D:=by
 have h1:(L++Z).take p=L:=by rw[<-hL,yCr]
 have h2:(L++V).length=p+k:=by rw[yAa];omega
 rw[h1,<-h2,yCr]
theorem aOj{f ov t e k:Nat}(h4:pU f ov t e k):WQ prog f e k:=by
 have hk:=h4.hk;intro w b n c i vc a cur vs cA TA fz hi hnc hn hc hb hcur hab ha ha0 hvl hvs h1c h1v;have hbw:=fM hb;have hDl:(kF k cur i n).length=(n-i)*k:=by
  exact oz
 have vW:∀v∈kF k cur i n,v.oneCell'=true:=λv hv=>h1c v (yBg (yAy hv))
 have e6:(i+1)*k=i*k+k:=kk;have hcl:cur.toList.length=c*k:=by rw[yBi,hcur]
 by_cases hroom:n+1<=c
 .refine yBB (aN8 h4 w b n c i vc a cur e vs hi hroom hc hb hcur hab ha ha0 hvl hvs h1c h1v) λen w' he=>?_
  obtain⟨rfl,rfl⟩:=he;have hbd:w.drew.heap[b]?=some (.cells cur e (0,0)):=hb;have hb1:(w.drew.setRow b (tH k cur i n)).heap[b]?=some (.cells (tH k cur i n) e (0,0)):=yBU _ _ cur _ e (0,0) hbd;have hB:(KJ k cur i n vs).toList=cur.toList.take (i*k)++vs++kF k cur i n++cur.toList.drop ((i+1)*k+(kF k cur i n).length):=by
   unfold KJ tH;simp only[hvl,e6];exact aOh _ _ _ _ _ _ hvl kk
  refine⟨b,c,KJ k cur i n vs,rfl,.inl ⟨rfl,rfl⟩,hroom,hc,⟨rfl,rfl,rfl,yg⟩,λj hj hne=>?_,yBU _ _ _ _ e (0,0) hb1,?_,?_,_,hB⟩
  .rw[yBN _ _ _ _ hne,yBN _ _ _ _ hne];rfl
  .have:=yAL List.length hB;rw[yBi,yAa,yAa,yAa,yAt,yBd,hcl,hvl,hDl]at this;rw[this];exact kk
  .intro v hv;rw[hB]at hv;simp only[yBf]at hv;rcases hv with((hv|hv)|hv)|hv
   .exact h1c v (yAy hv)
   .exact h1v v hv
   .exact vW v hv
   .exact h1c v (yBg hv)
 .obtain⟨inf,z,hin,hzr,his,hib,hzs,hz1⟩:=aDR (P:=prog) (e:=e) (k:=k) (by
   unfold pU at h4;rcases h4 with⟨rfl,rfl,rfl,rfl,rfl⟩ | ⟨rfl,rfl,rfl,rfl,rfl⟩ | ⟨rfl,rfl,rfl,rfl,rfl⟩ | ⟨rfl,rfl,rfl,rfl,rfl⟩<;>kernel_rfl)
  obtain⟨G,hG⟩:∃G,G=grownCap w (n+1) c e:=⟨_,rfl⟩;have hge:n+1<=G:=by rw[hG];exact yDs _ _ _ _
  have hle:G<=maxLen:=by rw[hG];exact yDN _ _ _ _ zi
  have hGk:Kept (G=grownCap w (n+1) c e):=⟨hG⟩;clear hG;refine yBB (aOk h4 w b n c i vc a cur e vs hi hnc ye hn hb hcur ha hvl hvs h1c h1v hin hzr his hib hzs hz1 G hGk) λen w' he=>?_
  obtain⟨rfl,rfl⟩:=he;obtain⟨R,hR⟩:=gn (vX k z.cells cur i n G);have nF:(cur.toList.take (i*k)).length=i*k:=by rw[yAt,hcl];exact kk
  obtain⟨Z,hRZ,hZ1⟩:∃Z,R.toList=cur.toList.take (i*k)++Z/\∀v∈Z,v.oneCell'=true:=by
   refine⟨(Builtin.zeroCells z.cells (n+1-i)).toList++(Builtin.zeroCells z.cells (G-(n+1))).toList,?_,λv hv=>?_⟩
   .rw[<-hR];unfold vX;simp only[yDO,yAi]
   .rcases yBf.1 hv with hv|hv
    .exact MH hz1 ye _ v hv
    .exact MH hz1 ye _ v hv
  have hRs:R.size=G*k:=by
   rw[<-hR];unfold vX;simp only[yDP,yCq,nF,yDu,hzs];exact kk
  rw[hR];have hheap:(w.drew.alloc (.cells R e)).heap[w.heap.size]?=some (.cells R e (0,0)):=yBW w.drew _;have OY:(((w.drew.alloc (.cells R e)).setRow w.heap.size (jP k R i vs)).drew).heap[w.heap.size]?=some (.cells (jP k R i vs) e (0,0)):=yBU _ _ R _ e (0,0) hheap;have hT:(GM k (jP k R i vs) i (kF k cur i n)).toList=cur.toList.take (i*k)++vs++kF k cur i n++(jP k R i vs).toList.drop ((i+1)*k+(kF k cur i n).length):=by
   unfold GM;simp only
   congr 1
   unfold jP;simp only[hRZ,e6,hvl];exact aOi _ _ _ _ _ _ _ nF hvl
  have hSs:(jP k R i vs).size=R.size:=by
   unfold jP;simp only[yCq,yAa,yAt,yBd,yBi,hvl];exact kk
  have h1R:∀v∈R.toList,v.oneCell'=true:=λv hv=>by
   rw[hRZ]at hv;rcases yBf.1 hv with hv|hv
   .exact h1c v (yAy hv)
   .exact hZ1 v hv
  have h1S:∀v∈(jP k R i vs).toList,v.oneCell'=true:=by
   unfold jP;intro v hv;simp only[yBf]at hv;rcases hv with(hv|hv)|hv
   .exact h1R v (yAy hv)
   .exact h1v v hv
   .exact h1R v (yBg hv)
  refine⟨w.heap.size,G,GM k (jP k R i vs) i (kF k cur i n),rfl,.inr (yAk _),hge,hle,⟨rfl,rfl,rfl,yg⟩,λj hj hne=>?_,yBU _ _ _ _ e (0,0) OY,?_,?_,_,hT⟩
  .rw[yBN _ _ _ _ ye];show(World.setRow _ _ _).heap[j]?=_
   rw[yBN _ _ _ _ ye,yDt w.drew _ hj];rfl
  .have:=yAL List.length hT;rw[yBi,yAa,yAa,yAa,nF,yBd,hvl,hDl,yBi,hSs,hRs]at this;rw[this];exact kk
  .intro v hv;rw[hT]at hv;simp only[yBf]at hv;rcases hv with((hv|hv)|hv)|hv
   .exact h1c v (yAy hv)
   .exact h1v v hv
   .exact vW v hv
   .exact h1S v (yBg hv)
theorem aOl:WQ prog 112 48 6:=aOj (.inl ⟨rfl,rfl,rfl,rfl,rfl⟩)
end
section
open Go Go.Proofs Go.RowKit Go.Lib
theorem aOx{i c:Nat}(hic:i+1<=c)(hc:c<=9223372036854775807) :
  ¬((i:Int)=(i:Int)+1)/\(i:Int)<=(i:Int)+1/\(i:Int)+1<=(c:Int)/\(0:Int)<=(i:Int)+1/\((i:Int)+1).toNat=i+1/\(i:Int)<=(c:Int)/\¬(c=i)/\i+1-i=1/\i+1-(i+1)=0/\i<=c/\i<=i+1:=by
 refine⟨ye,ye,ye,ye,ye,ye,ye,ye,ye,ye,ye⟩
theorem aOy{P:Program}{t e ty:TypeId}{k:Nat}(hu:P.underlying t=some (.slice e))(hsz:∀w,(Go.sizeOf e).run P w=.ok k w)(w:World)(a:Addr)(n c:Nat)(X:Option Addr)(cx:Nat)(hnc:n<=c) :
  (Builtin.append_ #[t,t] ty #[.slice (some a) n c,.slice X 0 cx]).run P w=.ok (.slice (some a) n c) w:=by
 have hfy:(Builtin.firstCells k 0 (.slice X 0 cx)).run P w=.ok #[] w:=by
  cases X<;>simp[Builtin.firstCells,loadCells,loadCellsFrom]
 simp[Builtin.append_,yAM hu,hsz,Builtin.lenOf,hfy,storeCells,hnc]
theorem aDY{P:Program}{t e ty:TypeId}(hu:P.underlying t=some (.slice e)){z:Value}(hzr:∀w,(zeroValue e).run P w=.ok z w)(w:World)(b off cx:Nat){cur:Fb}{T:TypeId}(hb:w.heap[b]?=some (.cells cur T (0,0)))
  (hle:off+(Builtin.zeroCells z.cells 1).toList.length<=cur.size) (h1:∀v∈(Builtin.zeroCells z.cells 1).toList,v.oneCell'=true) :
  (Builtin.clear_ #[t] ty #[.slice (some ⟨b,off,none⟩) 1 cx]).run P w=.ok (.tuple #[]) (w.setRow b (cur.toList.take off++(Builtin.zeroCells z.cells 1).toList++cur.toList.drop (off+(Builtin.zeroCells z.cells 1).toList.length)).toArray):=by
 have hst:=yCZ (P:=P) b off T (Builtin.zeroCells z.cells 1).toList 0 cur w hb ye h1;simp only[yBt]at hst;simp[Builtin.clear_,yAM hu,hzr,hst]
end
section
open Go Go.Proofs Go.RowKit Go.Lib
theorem aOu{i n m c:Nat}(hi:n=i+1+m)(hn:n<=c)(hc:c<=9223372036854775807) :
  ¬((i:Int)=(i:Int)+1)/\(i:Int)<=(i:Int)+1/\(i:Int)+1<=(n:Int)/\(0:Int)<=(i:Int)+1/\((i:Int)+1).toNat=i+1/\(i:Int)<=(c:Int)/\¬(c=i)/\i<=c/\i<=i+1/\n-(i+1)=m/\n-(i+m)=1/\(n:Int)<=(c:Int)/\((i+m:Nat):Int)<=(n:Int)/\i+1-i=1/\(i:Int)+1<=(c:Int)/\i+m<=c/\¬(c-(i+m)=0)/\((i:Int)+(m:Int))<=(n:Int):=by
 refine⟨ye,ye,ye,ye,ye,ye,ye,ye,ye,ye,ye,ye,ye,ye,ye,ye,ye,ye⟩
def pV(f t e k:Nat):Prop:=(f=113/\t=31/\e=48/\k=6)\/(f=115/\t=32/\e=53/\k=5)\/(f=117/\t=51/\e=56/\k=4)\/(f=121/\t=33/\e=58/\k=5)
theorem pV.ut{f t e k:Nat}(h4:pV f t e k):prog.underlying t=some (.slice e):=by
 exact jk
theorem pV.hz{f t e k:Nat}(h4:pV f t e k)(w:World):(Go.sizeOf e).run prog w=.ok k w:=by
 exact jk
theorem pV.hk{f t e k:Nat}(h4:pV f t e k):k=4\/k=5\/k=6:=by unfold pV at h4;omega
theorem aOv{f t e k:Nat}(h4:pV f t e k)(w:World)(b i n m c:Nat)(cur c1 c2:Array Value)(hi:n=i+1+m)(hn:n<=c)(hc:c<=9223372036854775807)
  (D:List Value) (hld:(loadCellsFrom ⟨b,(i+1)*k,none⟩ 0 (m*k) #[]).run prog w.drew=.ok D.toArray w.drew)
  (hst:(storeCells ⟨b,i*k,none⟩ D).run prog w.drew=.ok () (w.drew.setRow b c1)) (hq:¬(c=i+1))
  (hcl:∀ty cx,(Builtin.clear_ #[t] ty #[.slice (some ⟨b,(i+m)*k,none⟩) 1 cx]).run prog (w.drew.setRow b c1)=.ok (.tuple #[]) ((w.drew.setRow b c1).setRow b c2)) :
  Calls prog f #[.slice (some ⟨b,0,none⟩) n c,.int .i64 i,.int .i64 ((i:Int)+1)] w λe w'=>
   e=.returned (.slice (some ⟨b,0,none⟩) (i+m) c)/\w'=(w.drew.setRow b c1).setRow b c2:=by
 have mixed:prog.follows .mixedOrders=true:=yf;have u3:=yAM (P:=prog) underlying3;have u4:=yAM (P:=prog) underlying4;have o4:=h4.ut;have ut:=yAM (P:=prog) o4;have hz:∀w,(Go.sizeOf e).run prog w=.ok k w:=h4.hz;obtain⟨a1,a2,a3,a4,a5,a6,a7,a8,a9,a10,a11,a12,a13,a14,a15,a16,a17,a18⟩:=aOu hi hn hc;clear hi;unfold pV at h4;rcases h4 with⟨rfl,rfl,rfl,rfl⟩ | ⟨rfl,rfl,rfl,rfl⟩ | ⟨rfl,rfl,rfl,rfl⟩ | ⟨rfl,rfl,rfl,rfl⟩
 all_goals
  first|go_enter func113,Tryz.ntmps113|go_enter func115,Tryz.ntmps115|go_enter func117,Tryz.ntmps117|go_enter func121,Tryz.ntmps121
  go_wp2_with fail
  go_region_o
  go_wp2_with fail
  go_ret
  exact⟨rfl,rfl⟩
def KM(k:Nat)(cur:Array Value)(z:Value)(i:Nat):Array Value:=(cur.toList.take (i*k)++(Builtin.zeroCells z.cells 1).toList++cur.toList.drop (i*k+(Builtin.zeroCells z.cells 1).toList.length)).toArray
theorem aOw{f t e k:Nat}(h4:pV f t e k)(w:World)(b i c:Nat)(cur:Array Value)(T:TypeId)(hic:i+1<=c)(hc:c<=9223372036854775807)(hb:w.heap[b]?=some (.cells cur T (0,0)))(hcur:cur.size=c*k)
  {z:Value} (hzr:∀w,(zeroValue e).run prog w=.ok z w) (hle:i*k+(Builtin.zeroCells z.cells 1).toList.length<=cur.size) (h1:∀v∈(Builtin.zeroCells z.cells 1).toList,v.oneCell'=true) :
  Calls prog f #[.slice (some ⟨b,0,none⟩) (i+1) c,.int .i64 i,.int .i64 ((i:Int)+1)] w λe w'=>
   e=.returned (.slice (some ⟨b,0,none⟩) i c)/\w'=w.drew.setRow b (KM k cur z i):=by
 have mixed:prog.follows .mixedOrders=true:=yf;have u3:=yAM (P:=prog) underlying3;have u4:=yAM (P:=prog) underlying4;have o4:=h4.ut;have ut:=yAM (P:=prog) o4;have hz:∀w,(Go.sizeOf e).run prog w=.ok k w:=h4.hz;obtain⟨a1,a2,a3,a4,a5,a6,a7,a8,a9,a10,a11⟩:=aOx hic hc;have hap:∀ty X cx,(Builtin.append_ #[t,t] ty #[.slice (some ⟨b,0,none⟩) i c,.slice X 0 cx]).run prog w.drew=.ok (.slice (some ⟨b,0,none⟩) i c) w.drew:=λty X cx=>
  aOy o4 hz w.drew _ i c X cx a10
 have hcl:∀ty cx,(Builtin.clear_ #[t] ty #[.slice (some ⟨b,i*k,none⟩) 1 cx]).run prog w.drew=.ok (.tuple #[]) (w.drew.setRow b (KM k cur z i)):=λty cx=>
  aDY o4 hzr w.drew b (i*k) cx hb hle h1
 clear hb hcur hle h1 hzr
 by_cases hq:c=i+1
 .subst hq;unfold pV at h4;rcases h4 with⟨rfl,rfl,rfl,rfl⟩ | ⟨rfl,rfl,rfl,rfl⟩ | ⟨rfl,rfl,rfl,rfl⟩ | ⟨rfl,rfl,rfl,rfl⟩
  all_goals
   first|go_enter func113,Tryz.ntmps113|go_enter func115,Tryz.ntmps115|go_enter func117,Tryz.ntmps117|go_enter func121,Tryz.ntmps121
   go_wp2_with fail
   go_region_o
   go_wp2_with fail
   go_ret
   exact⟨rfl,rfl⟩
 .unfold pV at h4;rcases h4 with⟨rfl,rfl,rfl,rfl⟩ | ⟨rfl,rfl,rfl,rfl⟩ | ⟨rfl,rfl,rfl,rfl⟩ | ⟨rfl,rfl,rfl,rfl⟩
  all_goals
   first|go_enter func113,Tryz.ntmps113|go_enter func115,Tryz.ntmps115|go_enter func117,Tryz.ntmps117|go_enter func121,Tryz.ntmps121
   go_wp2_with fail
   go_region_o
   go_wp2_with fail
   go_ret
   exact⟨rfl,rfl⟩
theorem aOz{f t e k:Nat}(h4:pV f t e k):WM prog f e k:=by
 have hk:=h4.hk;have o4:=h4.ut;intro w b n c i cur hi hnc hc hb hcur h1c;obtain⟨inf,z,aOA,hzr,his,hib,hzs,hz1⟩:=aDR (P:=prog) (e:=e) (k:=k) (by
  unfold pV at h4;rcases h4 with⟨rfl,rfl,rfl,rfl⟩ | ⟨rfl,rfl,rfl,rfl⟩ | ⟨rfl,rfl,rfl,rfl⟩ | ⟨rfl,rfl,rfl,rfl⟩<;>kernel_rfl)
 have hzv:∀w,(zeroValue e).run prog w=.ok z w:=λw=>by simp[zeroValue,typeInfo,aOA,hzr]
 have hzl:(Builtin.zeroCells z.cells 1).toList.length=k:=by rw[yBi,yDu,hzs,Nat.one_mul]
 have hzo:∀v∈(Builtin.zeroCells z.cells 1).toList,v.oneCell'=true:=MH hz1 (kk) 1;obtain⟨Z,hZ⟩:=gn ((Builtin.zeroCells z.cells 1).toList);have hcl:cur.toList.length=c*k:=by rw[yBi,hcur]
 have hT:(cur.toList.take (i*k)).length=i*k:=by rw[yAt,hcl];exact kk
 have hcm:c<=9223372036854775807:=hc
 by_cases hm:n=i+1
 .subst hm;refine yBB (aOw h4 w b i c cur e hnc hcm hb hcur hzv (by rw[hzl,hcur];exact kk) hzo) λen w' he=>?_
  obtain⟨rfl,rfl⟩:=he;have hA:(KM k cur z i).toList=cur.toList.take (i*k)++(Z++cur.toList.drop (i*k+Z.length)):=by
   unfold KM;simp only[yAi,hZ]
  rw[hZ]at hzl hzo;refine⟨KM k cur z i,rfl,⟨rfl,rfl,rfl,yg⟩,λj hj=>?_,yBU _ _ cur _ e (0,0) hb,?_,?_,Z++cur.toList.drop (i*k+Z.length),?_⟩
  .rw[yBN _ _ _ _ hj];rfl
  .have:=yAL List.length hA;rw[yBi,yAa,yAa,hT,yBd,hzl,hcl]at this;exact kk
  .intro v hv;rw[hA]at hv;simp only[yBf]at hv;rcases hv with hv|hv|hv
   .exact h1c v (yAy hv)
   .exact hzo v hv
   .exact h1c v (yBg hv)
  .rw[hA];simp
 obtain⟨m,rfl⟩:∃m,n=i+1+m:=⟨n-(i+1),kk⟩;obtain⟨D,hD⟩:=gn ((cur.toList.drop ((i+1)*k)).take (m*k));have hDl:D.length=m*k:=by rw[<-hD,yAt,yBd,hcl];exact kk
 have vW:∀v∈D,v.oneCell'=true:=λv hv=>h1c v (by rw[<-hD]at hv;exact yBg (yAy hv))
 obtain⟨c1,dI⟩:=gn ((cur.toList.take (i*k)++D++cur.toList.drop (i*k+D.length)).toArray);have WW:c1.toList=cur.toList.take (i*k)++D++cur.toList.drop (i*k+D.length):=by rw[<-dI]
 have aDZ:c1.size=c*k:=by
  have:=yAL List.length WW;rw[yBi,yAa,yAa,hT,yBd,hDl,hcl]at this;exact kk
 have h11:∀v∈c1.toList,v.oneCell'=true:=λv hv=>by
  rw[WW]at hv;exact kr
 have hbd:w.drew.heap[b]?=some (.cells cur e (0,0)):=hb;have hb1:(w.drew.setRow b c1).heap[b]?=some (.cells c1 e (0,0)):=yBU _ _ cur _ e (0,0) hbd;have hst:=yCZ (P:=prog) b (i*k) e D 0 cur w.drew hbd (kk) vW;simp only[yBt]at hst;rw[dI]at hst;have hld:(loadCells ⟨b,(i+1)*k,none⟩ (m*k)).run prog w.drew=.ok D.toArray w.drew:=AV hDl λj v hj=>by
  rw[sM];simp only[World.cell?,hbd];rw[<-hD,yAv]at hj;split at hj
  .exact iz
  .cases hj
 obtain⟨c2,hc2⟩:=gn ((c1.toList.take ((i+m)*k)++Z++c1.toList.drop ((i+m)*k+Z.length)).toArray);have aOB:∀ty cx,(Builtin.clear_ #[t] ty #[.slice (some ⟨b,(i+m)*k,none⟩) 1 cx]).run prog (w.drew.setRow b c1)=.ok (.tuple #[]) ((w.drew.setRow b c1).setRow b c2):=λty cx=>by
  have:=aDY (ty:=ty) o4 hzv (w.drew.setRow b c1) b ((i+m)*k) cx hb1 (by rw[hzl,aDZ];exact kk) hzo;rw[hZ,hc2]at this;exact this
 rw[hZ]at hzl hzo;have WX:c2.toList=c1.toList.take ((i+m)*k)++(Z++c1.toList.drop ((i+m)*k+Z.length)):=by rw[<-hc2];simp
 refine yBB (aOv h4 w b i (i+1+m) m c cur c1 c2 rfl hnc hcm D hld hst (kk) aOB) λen w' he=>?_
 obtain⟨rfl,rfl⟩:=he;have CL:i+1+m-1=i+m:=kk;have hn2:i+m-i=m:=kk;rw[CL,hn2,hD];refine⟨c2,rfl,⟨rfl,rfl,rfl,yg⟩,λj hj=>?_,yBU _ _ c1 _ e (0,0) hb1,?_,?_,Z++c1.toList.drop ((i+m)*k+Z.length),?_⟩
 .rw[yBN _ _ _ _ hj,yBN _ _ _ _ hj];rfl
 .have:=yAL List.length WX;rw[yBi,yAa,yAa,yAt,yBd,hzl,yBi,aDZ]at this;exact kk
 .intro v hv;rw[WX]at hv;simp only[yBf]at hv;rcases hv with hv|hv|hv
  .exact h11 v (yAy hv)
  .exact hzo v hv
  .exact h11 v (yBg hv)
 .rw[WX,WW]
  congr 1
  rw[yDa (by rw[yAa,hT,hDl];exact kk),yAz (by rw[yAa,hT,hDl];exact kk)]
theorem aOC:WM prog 115 53 5:=aOz (.inr (.inl ⟨rfl,rfl,rfl,rfl⟩))
end
end Go.Kz
namespace Go.Kz
open Go Go.Proofs
def In0:aE:=ClE.add 112 (WR 48 6)
theorem aPP:aF prog In0:=aBI.aN6 ⟨_,func112,rfl⟩ aOl
def XB:aE:=In0.add 115 (WN 53 5)
theorem aPO:aF prog XB:=aPP.aNZ ⟨_,func115,rfl⟩ aOC
def kR(c:UInt8):List PD:=[.str [c],.str [116],.int .i64 8,.int .i64 1,.int .i64 36,.slice 1 [.int .i64 1,.int .i64 1,.int .i64 1] .any]
def kO(rs:List PD)(w:Int):PD:=.agg [.str [111],.slice 6 rs .any,.slice 5 [.agg [.str [100],.bool .false,.int .i64 36,.int .i64 40,.slice 4 [.agg [.str [115],.int .i64 8,.int .i64 1,.slice 3 [.agg [.int .i64 36,.int .i64 40,.slice 2 [.agg [.int .i64 w,.int .i64 0]] .any]] .any]] .any]] .any,.slice 0 [] .any]
def kZ:List PD:=[.str [],.str [],.int .i64 0,.int .i64 0,.int .i64 0,.slice 0 [] .any]
def kE(k:Int)(r:List PD):PD:=.agg ([.int .i64 k,.int .i64 0,.int .i64 0,.str []]++r++[.str [],.bool .false,.int .i64 0,.int .i64 0,.slice 0 [] .any,.str [],.int .i64 0,.int .i64 0,.slice 0 [] .any,.str [],.int .i64 0,.int .i64 0,.int .i64 0,.bool .false])
def kN(e:Int):PD:=.aP [.agg [.str [],.slice 0 [] .any,.slice 0 [] .any,.slice 0 [] .any],.int .i64 e]
def XA:List (List PD×PD):=
 [([kO [.agg (kR 114)] 0,kE 1 (kR 113)],.aP [kO [.agg (kR 113),.agg (kR 114)] 1,.int .i64 0]),([kO [.agg (kR 114)] 0,kE 2 kZ],kN 14),([kO [.agg (kR 114)] 0,kE 5 kZ],kN 13)]
theorem aPN:(XA.all (gD prog XB 1000 23))=true:=yf
def ApE:aE:=XB.add 23 (λ_ args σ=>match qR XA args with|some p=>some (p,σ)|none=>none)
theorem aPL:aF prog ApE:=aPO.MY bK XA aPN
section
section
variable{E:aE}(hU:aH E)
include hU
theorem aPy(h0:E 56=none)(d i:Int)(nm rn rt fn sn cn:List UInt8)(ra rb rf fl fh sa sb ca cb cs:Int)(fp ct:Bool)(wk sk gk:Nat)(W S G:List PD):aI prog E 56 [(.agg [.int .i64 7,.int .i64 d,.int .i64 i,.str nm,.str rn,.str rt,.int .i64 ra,.int .i64 rb,.int .i64 rf,.slice wk W .any,.str fn,.bool fp,.int .i64 fl,.int .i64 fh,.slice sk S .any,.str sn,.int .i64 sa,.int .i64 sb,.slice gk G .any,.str cn,.int .i64 ca,.int .i64 cb,.int .i64 cs,.bool ct])] (.aP [.int .i64 2,.int .i64 0]):=by
 refine aI.aN 12 h0 func56 (h:=?_);refine aC trivial ?_;exact⟨_,_,rfl,rfl⟩
theorem aPz(d i:Int)(nm rn rt fn sn cn:List UInt8)(ra rb rf fl fh sa sb ca cb cs:Int)(fp ct:Bool)(wk sk gk:Nat)(W S G:List PD)(h0:E 29=none){gW:Er}(hW:E 56=some gW)(KK:∀W5 σ,gW W5 [(.agg [.int .i64 7,.int .i64 d,.int .i64 i,.str nm,.str rn,.str rt,.int .i64 ra,.int .i64 rb,.int .i64 rf,.slice wk W .any,.str fn,.bool fp,.int .i64 fl,.int .i64 fh,.slice sk S .any,.str sn,.int .i64 sa,.int .i64 sb,.slice gk G .any,.str cn,.int .i64 ca,.int .i64 cb,.int .i64 cs,.bool ct])] σ=some (.aP [.int .i64 2,.int .i64 0],σ))(hI:E 65=some KQ)(hJ:E 66=some BW)(hli:(Lib.itoa i).length<=100)(hld:(Lib.itoa d).length<=100)(hi:-9223372036854775808<=i/\i<=9223372036854775807)(hd:-9223372036854775808<=d/\d<=9223372036854775807)(hl:(Lib.join [[97,100,100],[115,116,111,112],Lib.itoa d,Lib.itoa i,sn] [32]).length<=100000):aI prog E 29 [(.agg [.int .i64 7,.int .i64 d,.int .i64 i,.str nm,.str rn,.str rt,.int .i64 ra,.int .i64 rb,.int .i64 rf,.slice wk W .any,.str fn,.bool fp,.int .i64 fl,.int .i64 fh,.slice sk S .any,.str sn,.int .i64 sa,.int .i64 sb,.slice gk G .any,.str cn,.int .i64 ca,.int .i64 cb,.int .i64 cs,.bool ct])] (.aP [.str (Lib.join [[97,100,100],[115,116,111,112],Lib.itoa d,Lib.itoa i,sn] [32]),.int .i64 0]):=by
 have f1:=aEE i hi;have f2:=aEE d hd;have hj:O7 [[97,100,100],[115,116,111,112],Lib.itoa d,Lib.itoa i,sn] [32]:=⟨yg,yg,ye⟩;have f3:∀t fl σ,BW fl [.slice prog.types[9].size [.str ([97,100,100]),.str ([115,116,111,112]),.str (Lib.itoa d),.str (Lib.itoa i),.str (sn)] t,.str [32]] σ=some (.str (Lib.join [[97,100,100],[115,116,111,112],Lib.itoa d,Lib.itoa i,sn] [32]),σ):=λt fl σ=>aEF yf rfl hj t fl σ
 have f4:∀t fl σ,BW fl [.slice 1 [.str ([97,100,100]),.str ([115,116,111,112]),.str (Lib.itoa d),.str (Lib.itoa i),.str (sn)] t,.str [32]] σ=some (.str (Lib.join [[97,100,100],[115,116,111,112],Lib.itoa d,Lib.itoa i,sn] [32]),σ):=λt fl σ=>aEF rfl rfl hj t fl σ
 refine aI.aN 72 h0 func29 (h:=?_);refine aC (A8 hW KK hI hJ @f1 @f2 @f3 @f4) ?_;exact⟨_,_,rfl,rfl⟩
end
def W6:aE:=λ_=>none
theorem aPA{P:Program}:aF P W6:=λ_ hg=>by cases hg
theorem aPB:aH W6:=aH.none
def W7:aE:=W6.add 65 KQ
theorem aPC:aF prog W7:=aPD aPA
theorem aPE:aH W7:=aPB.entry
def O8:aE:=W7.add 66 BW
theorem aPF:aF prog O8:=aPG aPC
theorem aEG:aH O8:=aPE.entry
noncomputable def W8:aE:=O8.add 56 (entry (FK prog O8 56))
theorem aPH:aF prog W8:=aPF.aH4 bK _
theorem aPI:aH W8:=aEG.entry
def aEH:PD:=.agg [.int .i64 7,.int .i64 1,.int .i64 0,.str [],.str [],.str [],.int .i64 0,.int .i64 0,.int .i64 0,.slice 0 [] .any,.str [],.bool false,.int .i64 0,.int .i64 0,.slice 0 [] .any,.str [70,108,117,116,101],.int .i64 0,.int .i64 0,.slice 0 [] .any,.str [],.int .i64 0,.int .i64 0,.int .i64 0,.bool false]
def W9:List UInt8:=[97,100,100,32,115,116,111,112,32,49,32,48,32,70,108,117,116,101]
theorem aEI:Lib.itoa 0=[48]:=yu
theorem aEJ:Lib.itoa 1=[49]:=yu
theorem aEK:Lib.join [[97,100,100],[115,116,111,112],Lib.itoa 1,Lib.itoa 0,[70,108,117,116,101]] [32]=W9:=by
 rw[aEI,aEJ];rfl
theorem aPJ:aI prog W8 29 [aEH] (.aP [.str W9,.int .i64 0]):=by
 have h:=aPz aPI 1 0 [] [] [] [] [70,108,117,116,101] [] 0 0 0 0 0 0 0 0 0 0 false false 0 0 0 [] [] [] rfl rfl
  (λW5 σ=>aH3 (aPy aEG rfl 1 0 [] [] [] [] [70,108,117,116,101] [] 0 0 0 0 0 0 0 0 0 0 false false 0 0 0 [] [] []) rfl rfl W5 σ) rfl rfl (by rw[aEI];decide) (by rw[aEJ];decide) yj yj (by rw[aEK];decide)
 rw[aEK]at h;exact h
def puT:List (List PD×PD):=[([aEH],.aP [.str W9,.int .i64 0])]
def KnE:aE:=ApE.add 29 (λ_ args σ=>match qR puT args with|some p=>some (p,σ)|none=>none)
theorem aPK:aF prog KnE:=aF.pick (aPH.aH5 bK puT (λr hr=>by
 obtain rfl:=yCy.1 hr;exact⟨aPJ,rfl,rfl⟩)) aPL (yAJ rfl)
theorem aK4:aF prog (KnE.add 10 (entry (uV Em.bool (some true)))):=aPK.aH7 (f:=10) (N:=1000) bK yf
end
theorem aLF{P:Program}{σ:Ex}{t e:TypeId}{k b s z:Nat}{xs:Ey}(hu:P.underlying t=some (.slice e))(hi:fT P e=some (k,b))(hz:xs=[]\/z=k)
  (hm:xs.length<=100000000000000) (hb:xs.length*b<=140737488355328) :
  ∃tok σ',fA P 0 σ t (.slice s [] .full) (.slice z xs .any)=some (.slice (if xs.length=0 then s else k) xs tok,σ')/\jR σ' tok e k xs.length/\(∀(id:Nat) (o:aB),σ[id]?=some o->σ'[id]?=some o):=by
 unfold fT at hi;split at hi
 .rename_i i h1;split at hi
  .rename_i z0 h2;split at hi
   .rename_i h3;simp only[yAb,yAc]at hi;obtain⟨rfl,rfl⟩:=hi;have C4:xs.length=0\/z=i.size:=hz.imp (λh=>Ah) id;have hmm:xs.length<=maxLen:=zi
    by_cases h0:xs.length=0
    .have hx:xs=[]:=yAf h0;subst hx;refine⟨.full,σ,?_,.inl ⟨rfl,rfl⟩,λ_ _ h=>h⟩;simp only[fA,hu,h1,h2,yAT,yCB,h3.1,h3.2,yBx,yBt,yAF,yCT,yAK,maxLen]
    .refine⟨.own σ.length,σ++[.own e i.size xs.length],?_,.inr ⟨ye,_,rfl,yAB⟩,λid o h=>?_⟩
     .have hz1:z=i.size:=C4.resolve_left h0;simp only[fA,hu,h1,h2,yAT,yCB,yBZ,hz1,h3.1,h3.2,hmm,hb,yBx,yAK,h0,yAN,yAO,yAp]
     .exact kf
   .cases hi
  .cases hi
 .cases hi
theorem F7{P:Program}{σ:Ex}{t e:TypeId}{k b s z n:Nat}{xs:Ey}(ht:gH t n=true)(hu:P.underlying t=some (.slice e))(hi:fT P e=some (k,b))(ho:∀i z,P.info? e=some i->i.zero=some z->z.cells.toList.all Value.oneCell'=true)
  (hz:z=k) (h0:0<xs.length) (hm:xs.length<=100000000000000) (hb:xs.length*b<=140737488355328) :
  cX P n 0 σ t (.slice s [] .full) (.slice z xs .any)=some (.aU σ.length 0 0 xs.length k,σ++[.row e k 0 (xs.flatMap PD.cells)]):=by
 exact bw
def Calm(c:PD):Prop:=∀σ K,(aZ σ (K+1) c).strip=c.strip/\(aZ σ (K+1) c).bI=true
inductive Clean:PD->Prop
 |str (s:List UInt8):Clean (.str s)
 |int (k:IntKind) (n:Int):Clean (.int k n)
 |bool (b:Bool):Clean (.bool b)
 |agg (cs:List PD) (h:∀c∈cs,Clean c):Clean (.agg cs)
 |slice (n:Nat) (xs:List PD) (h:∀c∈xs,Clean c):Clean (.slice n xs .any)
theorem Clean.aZ{p:PD}(h:Clean p):∀σ K,aZ σ K p=p:=by
 induction h with
 |str s=>intro σ K;cases K<;>rfl
 |int k n=>intro σ K;cases K<;>rfl
 |bool b=>intro σ K;cases K<;>rfl
 |agg cs h ih=>
  intro σ K;cases K with
  |zero=>rfl
  |succ K=>
   have:cs.map (Go.Kz.aZ σ K)=cs:=by
    conv=>rhs;rw[<-List.map_id cs]
    exact yAG λc hc=>ih c hc σ K
   simp only[Go.Kz.aZ,this]
 |slice n xs h ih=>
  intro σ K;cases K with
  |zero=>rfl
  |succ K=>
   have:xs.map (Go.Kz.aZ σ K)=xs:=by
    conv=>rhs;rw[<-List.map_id xs]
    exact yAG λc hc=>ih c hc σ K
   simp only[Go.Kz.aZ,this]
theorem Clean.bI{p:PD}(h:Clean p):p.bI=true:=by
 induction h with
 |str s=>rfl
 |int k n=>rfl
 |bool b=>rfl
 |agg cs h ih=>
  simp only[PD.bI,PD.rI];exact yAn.2 ih
 |slice n xs h ih=>
  simp only[PD.bI,PD.rI,yDj];exact yAn.2 ih
def uM{α:Type}(em:Em α):Prop:=∀x,Clean (em.aA x)
theorem N1{α:Type}{em:Em α}(h:uM em)(k:Nat):uM (em.list k):=λl=>by
 rw[aV];refine .slice _ _ λc hc=>?_
 obtain⟨x,_,rfl⟩:=yAw.1 hc;exact h x
theorem aLq:uM i64:=λn=>.int _ n
theorem UY:uM Em.draw:=λd=>by
 rw[CC];refine .agg _ λc hc=>?_
 simp only[yBD,yCA,yCN]at hc;rcases hc with rfl|rfl<;>exact .int _ _
theorem aL5:uM Em.eU:=λd=>by
 rw[G8];refine .agg _ λc hc=>?_
 simp only[yBD,yCA,yCN]at hc;rcases hc with rfl|rfl|rfl
 .exact ey
 .exact ey
 .exact N1 UY 2 _
theorem aCZ:uM Em.stop:=λd=>by
 rw[qE];refine .agg _ λc hc=>?_
 simp only[yBD,yCA,yCN]at hc;rcases hc with rfl|rfl|rfl|rfl
 .exact .str _
 .exact ey
 .exact ey
 .exact N1 aL5 3 _
theorem UZ:uM Em.aJ:=λd=>by
 rw[G9];refine .agg _ λc hc=>?_
 simp only[yBD,yCA,yCN]at hc;rcases hc with rfl|rfl|rfl|rfl|rfl
 .exact .str _
 .exact ey
 .exact ey
 .exact ey
 .exact .bool _
def s4{α:Type}(em:Em α)(σ:List aB)(L:Nat)(g:List PD)(x:α):Prop:=∀K,(PD.agg (g.map (aZ σ (K+L)))).strip=em.aA x/\PD.eJ (g.map (aZ σ (K+L)))=true
theorem aLr{α:Type}{em:Em α}{g:Ey}{x:α}(hc:∀c∈g,Calm c)(hg:(PD.agg g).strip=em.aA x)(σ:List aB)(L:Nat):s4 em σ (L+1) g x:=λK=>by
 constructor
 .rw[<-hg];simp only[PD.strip,PD.qI]
  congr 1
  rw[yBA];exact yAG λc h=>(hc c h σ (K+L)).1
 .rw[PD.rI];refine yAn.2 λc h=>?_
  obtain⟨c0,h0,rfl⟩:=yAw.1 h;exact(hc c0 h0 σ (K+L)).2
theorem aC0{sz:Nat}(f:PD->PD):∀(n:Nat) (gs:List (List PD)),(∀g∈gs,g.length=sz)->n<=gs.length->qO sz n (gs.flatten.map f)=(gs.take n).map λg=>.agg (g.map f)
 |0,_,_,_=>rfl
 |n+1,[],_,h=>Am
 |n+1,g::gs,hl,h=>by
  have hg:=hl g (yBh ..);have hg':(g.map f).length=sz:=by rw[yAe];exact hg
  rw[yBr,yAH,yDF,yAR];unfold qO;rw[yDa ye,yAz ye,yEj ye,yCk ye,yAO];rw[aC0 f n gs (λq hq=>hl q (yBV _ hq)) zx]
theorem qT{sz:Nat}:∀gs:List (List PD),(∀g∈gs,g.length=sz)->gs.flatten.length=gs.length*sz
 | [],_=>yg
 |g::gs,h=>by
  rw[yBr,yAa,h g (yBh ..),qT gs λq hq=>h q (yBV _ hq),yAS,yBQ,yDp]
theorem vJ{sz:Nat}:∀(gs:List (List PD)) (i:Nat) (h:i<gs.length),(∀g∈gs,g.length=sz)->(gs.flatten.drop (i*sz)).take sz=gs[i]
 | [],i,h,_=>Am
 |g::gs,0,_,hl=>by
  have hg:=hl g (yBh ..);rw[yCT,yCa,yBr,yDa ye,yAz ye];rfl
 |g::gs,i+1,h,hl=>by
  have hg:=hl g (yBh ..);have e1:(i+1)*sz=g.length+i*sz:=by rw[yBQ];omega
  rw[yBr,e1,yEh];rw[vJ gs i zx λq hq=>hl q (yBV _ hq)];rfl
theorem zI{sz:Nat}{new:Ey}{j:Nat}(hj:j+new.length<=sz):∀(gs:List (List PD)) (i:Nat) (h:i<gs.length),(∀g∈gs,g.length=sz)->eC gs.flatten (i*sz+j) new=(gs.set i (eC gs[i] j new)).flatten
 | [],i,h,_=>Am
 |g::gs,0,_,hl=>by
  have hg:=hl g (yBh ..);simp only[eC,yCT,yAp,yBr,yAY,List.getElem_cons_zero];rw[yDa ye,yEj ye];simp only[yAi]
 |g::gs,i+1,h,hl=>by
  have hg:=hl g (yBh ..);have ih:=zI hj gs i zx λq hq=>hl q (yBV _ hq)
  simp only[yBr,yAZ,List.getElem_cons_succ];rw[<-ih];simp only[eC];have e1:(i+1)*sz+j=g.length+(i*sz+j):=by rw[yBQ];omega
  have e2:(i+1)*sz+j+new.length=g.length+(i*sz+j+new.length):=by rw[yBQ];omega
  rw[e2,e1,List.take_length_add_append,yEh];simp only[yAi]
theorem N2{α:Type}{em:Em α}{σ:Ex}{id e sz v n L:Nat}{gs:Eu}(dK:σ[id]?=some (.row e sz v gs.flatten))(h1:sz≠1)(hl:∀g∈gs,g.length=sz)(hn:n<=gs.length)(xs:List α)(hx:xs.length=n)
  (h:∀i (hi:i<n),s4 em σ L (gs[i]'(yBP hi hn)) (xs[i]'(hx▸hi))) (K:Nat):(aZ σ (K+L+1) (.aU id v 0 n sz)).strip=(em.list sz).aA xs/\(aZ σ (K+L+1) (.aU id v 0 n sz)).bI=true:=by
 have hlen:0+n*sz<=gs.flatten.length:=by
  rw[qT gs hl,yAp];exact yBK sz hn
 have e:aZ σ (K+L+1) (.aU id v 0 n sz)=.slice sz ((gs.take n).map λg=>.agg (g.map (aZ σ (K+L)))) .any:=by
  simp only[aZ,dK,hlen,yBx,yAK,yCa,sQ,h1,yAN];rw[aC0 _ n gs hl hn]
 rw[e]
 constructor
 .rw[PD.rH,aV];have hm:((gs.take n).map λg=>PD.agg (g.map (aZ σ (K+L)))).map PD.strip=xs.map em.aA:=by
   apply List.ext_getElem
   .simp only[yAe,yAt];omega
   .intro i h2 h3;simp only[yAe,yAt]at h2;simp only[yBE,List.getElem_take];exact(h i ye K).1
  rw[hm]
  congr 1
  simp only[yAe,yAt,Kz.sz];have:min n gs.length=n:=ye;rw[this]
  by_cases h0:xs=[]
  .subst h0;simp only[yAT]at hx;simp[<-hx]
  .have:¬n=0:=λh=>h0 (yAf ye)
   have h2:¬xs.length=0:=ye;rw[yAI this,yAI h2]
 .simp only[PD.bI,PD.rI,yDj];refine yAn.2 λc hc=>?_
  obtain⟨g,hg,rfl⟩:=yAw.1 hc;obtain⟨i,hi,rfl⟩:=yCO hg;simp only[yAt]at hi;rw[List.getElem_take];simp only[PD.bI];exact(h i ye K).2
def Grp{α:Type}(em:Em α)(R:α->Prop)(sz:Nat)(g:List PD):Prop:=g.length=sz/\(∀c∈g,Calm c/\c.plain=true)/\∃x,R x/\(PD.agg g).strip=em.aA x
def JW{α:Type}(em:Em α)(R:α->Prop)(e sz:Nat)(σ:List aB)(id n:Nat)(P:PD):Prop:=∃v gs,P=.aU id v 0 n sz/\σ[id]?=some (.row e sz v (List.flatten gs))/\n<=gs.length/\gs.length<=1000/\∀g∈gs,Grp em R sz g
structure aCY (σ:List aB) (B K:Nat) (nm:List UInt8) (RP DP SP:PD) (C:List bR) (tC:Tok) (d0:List UInt8) (d1:Bool) (d2 d3:Int):Prop where
 o:σ[0]?=some (.box (.agg [.str nm,RP,DP,.slice 5 (C.map Em.aJ.aA) tC]))
 z:σ[2]?=some (.box (.agg [.str [],.slice 0 [] .full,.slice 0 [] .full,.slice 0 [] .full]))
 d:σ[B]?=some (.box (.agg [.str d0,.bool d1,.int .i64 d2,.int .i64 d3,SP]))
 b:4<B
 c:C.length<=1000
 r:∃n,JW Em.aG kG 48 6 σ 3 n RP
 dv:DP=.slice 0 [] .full\/∃n,JW Em.div mB 53 5 σ 4 n DP/\K<n
 s:SP=.slice 4 [] .full\/∃n,JW Em.stop mA 56 4 σ (B+1) n SP
theorem JI{α:Type}{em:Em α}(sz z:Nat)(σ:List aB)(K:Nat)(tok:Tok):(aZ σ (K+2) (.slice z [] tok)).strip=(em.list sz).aA []/\(aZ σ (K+2) (.slice z [] tok)).bI=true:=⟨rfl,rfl⟩
theorem aL6{P:Program}{σ:Ex}{t e:TypeId}{k b n id v m:Nat}{cs:Ey}{x:PD}{tok:Tok}(ht:gH t n=true)(hu:P.underlying t=some (.slice e))(hi:fT P e=some (k,b))(ho:∀i z,P.info? e=some i->i.zero=some z->z.cells.toList.all Value.oneCell'=true)
  (dK:σ[id]?=some (.row e k v cs)) (hl:m*k=cs.length) (hx:x.cells.length=k) (hm:m<=1000000) (hb:b<=1000) :
  cX P n 0 σ t (.aU id v 0 m k) (.slice k [x] tok)=some (.aU id (v+1) 0 (m+1) k,σ.set id (.row e k (v+1) (cs++x.cells))):=by
 unfold fT at hi;split at hi
 .rename_i i h1;split at hi
  .rename_i z0 h2;split at hi
   .rename_i h3;simp only[yAb,yAc]at hi;obtain⟨rfl,rfl⟩:=hi;have hone:=ho i z0 h1 h2;have hmm:m+1<=maxLen:=zi;have hbb:(m+1)*i.bytes<=140737488355328:=by
     have:=yDg (show m+1<=1000001 by omega) hb;omega
    have hlt:¬0+(m+1)*i.size<=cs.length:=by
     rw[<-hl,yBQ];have:=h3.1;omega
    simp only[cX,ht,yAK,hu,u6,h1,h2,h3.1,h3.2,hone,yBx,yBZ,yAS,yAT,yAp,yAF,hmm,hbb,dK];rw[yAI (by simpa using hlt),yAJ ⟨trivial,hl⟩];simp
   .cases hi
  .cases hi
 .cases hi
theorem aCU(R:List bB):(R.map Em.aG.aA).flatMap PD.cells=(R.map λr=>[PD.str r.name,.str r.jQ,.int .i64 r.num,.int .i64 r.den,.int .i64 r.first,eS.aA r.nM]).flatten:=by
 induction R with
 |nil=>rfl
 |cons r R ih=>simp only[yAR,yBs,yBr,ih];rfl
theorem aLH(R:List bD):(R.map Em.div.aA).flatMap PD.cells=(R.map λr=>[PD.str r.name,.bool r.eG,.int .i64 r.low,.int .i64 r.high,l8.aA r.stops]).flatten:=by
 induction R with
 |nil=>rfl
 |cons r R ih=>simp only[yAR,yBs,yBr,ih];rfl
theorem aLK(R:List bU):(R.map Em.stop.aA).flatMap PD.cells=(R.map λr=>[PD.str r.name,.int .i64 r.num,.int .i64 r.den,mS.aA r.aO]).flatten:=by
 induction R with
 |nil=>rfl
 |cons r R ih=>simp only[yAR,yBs,yBr,ih];rfl
theorem BI{P:Program}{σ:Ex}{t e:TypeId}{k b s z n:Nat}{tok:Tok}(ht:gH t n=true)(hu:P.underlying t=some (.slice e))(hi:fT P e=some (k,b))(ho:∀i z,P.info? e=some i->i.zero=some z->z.cells.toList.all Value.oneCell'=true) :
  cX P n 0 σ t (.slice s [] .full) (.slice z [] tok)=some (.slice s [] .full,σ):=by
 unfold fT at hi;split at hi
 .rename_i i h1;split at hi
  .rename_i z0 h2;split at hi
   .rename_i h3;have hone:=ho i z0 h1 h2;have hfr:Tok.full.fresh=true:=rfl;simp only[cX,ht,yAK,hu,u6,h1,h2,h3.1,h3.2,hone,yBx,yAT,yCB,hfr,yBt,yCT,yAF]
   .cases hi
  .cases hi
 .cases hi
def frG(gg:Nat->PD)(B K:Nat):List PD:=gg 0::gg 1::.ptr 0 0::.ptr 1 0::.ptr 2 0::gg 5::.int .i64 K::.ptr B 0::gg 8::gg 9::gg 10::gg 11::gg 12::gg 13::gg 14::gg 15::gg 16::gg 17::gg 18::gg 19::gg 20::gg 21::gg 22::gg 23::gg 24::gg 25::gg 26::gg 27::gg 28::gg 29::gg 30::gg 31::gg 32::gg 33::gg 34::gg 35::gg 36::gg 37::gg 38::gg 39::gg 40::gg 41::gg 42::gg 43::gg 44::gg 45::gg 46::gg 47::gg 48::gg 49::gg 50::gg 51::gg 52::gg 53::gg 54::gg 55::gg 56::gg 57::gg 58::gg 59::gg 60::gg 61::gg 62::gg 63::gg 64::gg 65::gg 66::gg 67::gg 68::gg 69::gg 70::gg 71::gg 72::gg 73::gg 74::gg 75::gg 76::gg 77::gg 78::gg 79::gg 80::gg 81::gg 82::gg 83::gg 84::gg 85::gg 86::gg 87::gg 88::gg 89::gg 90::gg 91::gg 92::gg 93::gg 94::gg 95::gg 96::gg 97::gg 98::gg 99::gg 100::gg 101::gg 102::gg 103::gg 104::gg 105::gg 106::gg 107::gg 108::gg 109::gg 110::gg 111::gg 112::gg 113::gg 114::gg 115::gg 116::gg 117::gg 118::gg 119::gg 120::gg 121::gg 122::gg 123::gg 124::gg 125::gg 126::gg 127::gg 128::gg 129::gg 130::gg 131::gg 132::gg 133::gg 134::gg 135::gg 136::gg 137::gg 138::gg 139::gg 140::gg 141::gg 142::gg 143::gg 144::gg 145::gg 146::gg 147::gg 148::gg 149::gg 150::gg 151::gg 152::gg 153::gg 154::gg 155::gg 156::gg 157::gg 158::gg 159::gg 160::gg 161::gg 162::gg 163::gg 164::gg 165::gg 166::gg 167::gg 168::gg 169::gg 170::gg 171::gg 172::gg 173::gg 174::gg 175::gg 176::gg 177::gg 178::gg 179::gg 180::gg 181::gg 182::gg 183::gg 184::gg 185::gg 186::gg 187::gg 188::gg 189::gg 190::gg 191::gg 192::gg 193::gg 194::gg 195::gg 196::gg 197::gg 198::gg 199::gg 200::gg 201::gg 202::gg 203::gg 204::gg 205::gg 206::gg 207::gg 208::gg 209::gg 210::gg 211::gg 212::gg 213::gg 214::gg 215::gg 216::gg 217::gg 218::gg 219::gg 220::gg 221::gg 222::gg 223::gg 224::gg 225::gg 226::gg 227::gg 228::gg 229::gg 230::gg 231::gg 232::gg 233::gg 234::gg 235::gg 236::gg 237::gg 238::gg 239::gg 240::gg 241::gg 242::gg 243::gg 244::gg 245::gg 246::gg 247::gg 248::gg 249::gg 250::gg 251::gg 252::gg 253::gg 254::gg 255::gg 256::gg 257::gg 258::gg 259::gg 260::gg 261::gg 262::gg 263::gg 264::gg 265::gg 266::gg 267::gg 268::gg 269::gg 270::gg 271::gg 272::gg 273::gg 274::[]
structure aTS (B K:Nat) (nm:List UInt8) (RP DP SP:PD) (C:List bR) (tC:Tok) (d0:List UInt8) (d1:Bool) (d2 d3:Int) (r:PO):Prop where
 x:r.x=.normal
 m:r.ms=[]
 f:∃gg:Nat->PD,r.fr=frG gg B K
 i:aCY r.σ B K nm RP DP SP C tC d0 d1 d2 d3
theorem lJ{t:TypeId}(h:(match prog.info? t with|some i=>(match i.zero with|some z=>z.cells.toList.all Value.oneCell' | none=>true)|none=>true)=true):∀i z,prog.info? t=some i->i.zero=some z->z.cells.toList.all Value.oneCell'=true:=by
 intro i z h1 h2;rw[h1]at h;simp only[h2]at h;exact h
section
def hd(k id n:Nat):PD:=if n=0 then .slice 0 [] .full else .aU id 0 0 n k
def newRow(e:TypeId)(k:Nat)(xs:List PD):List aB:=if xs.length=0 then []else [.row e k 0 (xs.flatMap PD.cells)]
def iT(e:TypeId)(k:Nat):Nat->List PD->List aB->Option (PD×List aB):=λfl args σ=>match args with
 | [.slice z xs .any]=>if xs.length=0 then some (.slice 0 [] .full,σ)else if z=k/\xs.length<=1000000 then some (.aU σ.length 0 0 xs.length k,σ++[.row e k 0 (xs.flatMap PD.cells)])else none
 |_=>none
theorem F2{e:TypeId}{k:Nat}{E:aE}(hU:aH E){f:FuncId}:aH (E.add f (iT e k)):=hU.tail λargs p h fl σ=>by
 unfold iT at h ⊢;split at h
 .split at h
  .rename_i h0;simp only[yAb,yAc,yBn]at h;simp only[h0,yAK,h]
  .exact vz
 .cases h
theorem F4{α:Type}{em:Em α}{e:TypeId}{k:Nat}(l:List α)(hl:l.length<=1000000)(fl:Nat)(σ:List aB):iT e k fl [(em.list k).aA l] σ=some (hd k σ.length l.length,σ++newRow e k (l.map em.aA)):=by
 rw[aV];unfold iT hd newRow;simp only[yAe]
 by_cases h0:l.length=0
 .simp[h0]
 .have hne:l≠[]:=λh=>h0 Ah
  simp[h0,rE hne,hl]
variable{E:aE}(hU:aH E)
include hU
theorem aLN(h0:E 73=none)(fl:Nat)(z:Nat)(τ:List aB):aL prog E fl (.inl 73) [.slice z [] .iK] τ (λp σ'=>p=.slice 0 [] .full/\σ'=τ):=by
 have hb:fU (.slice z [] .iK)=some true:=rfl;refine aL.aN 8 h0 func73 (h:=?_);exact vp
theorem aLO(h0:E 73=none)(fl:Nat)(z:Nat)(τ:List aB):aL prog E fl (.inl 73) [.slice z [] .jF] τ (λp σ'=>p=.slice 6 [] .full/\σ'=τ):=by
 have hb:fU (.slice z [] .jF)=some false:=rfl;have hz:∀(n:Nat) (hn:gH 31 n=true) (σ:List aB) (s z:Nat) (tok:Tok),cX prog n fl σ 31 (.slice s [] .full) (.slice z [] tok)=some (.slice s [] .full,σ):=λn hn σ s z tok=>by
  have h:=BI (P:=prog) (σ:=σ) (t:=31) (e:=48) (k:=6) (b:=80) (s:=s) (z:=z) (tok:=tok) (n:=n) hn underlying31 yf (lJ yf);exact h
 refine aL.aN 8 h0 func73 (h:=?_);exact vl
theorem aLP(h0:E 73=none)(fl:Nat)(xs:List PD)(hp:0<xs.length)(hl:xs.length<=1000000)(τ:List aB) :
  aL prog E fl (.inl 73) [.slice 6 xs .any] τ (λp σ'=>p=.aU τ.length 0 0 xs.length 6/\σ'=τ++[.row 48 6 0 (xs.flatMap PD.cells)]):=by
 have f1:∀(n:Nat) (hn:gH 31 n=true) (σ:List aB) (s:Nat),cX prog n fl σ 31 (.slice s [] .full) (.slice 6 xs .any)=some (.aU σ.length 0 0 xs.length 6,σ++[.row 48 6 0 (xs.flatMap PD.cells)]):=λn hn σ s=>by
  have h:=F7 (P:=prog) (σ:=σ) (t:=31) (e:=48) (k:=6) (b:=80) (s:=s) (z:=6) (n:=n) (xs:=xs) hn underlying31 yf (lJ yf) rfl hp ye ye;exact h
 have hb:fU (.slice 6 xs .any)=some false:=by
  exact cy
 refine aL.aN 8 h0 func73 (h:=?_);exact vm
theorem aK7(hE:aF prog E)(h0:E 73=none):aF prog (E.add 73 (iT 48 6)):=
 hE.F8 bK λfl args σ p σ' h c vs dK hv=>by
  unfold iT at h;split at h
  .rename_i z xs;split at h
   .rename_i hx;obtain rfl:=yAf hx;simp only[yAb,yAc]at h;obtain⟨rfl,rfl⟩:=h;rcases F9 hv with hv|hv
    .obtain⟨p1,σ1,e1,rfl,rfl⟩:=(aLN hU h0 fl z σ).ex;exact cg
    .obtain⟨p1,σ1,e1,rfl,rfl⟩:=(aLO hU h0 fl z σ).ex;exact eu
   .rename_i hx;split at h
    .rename_i hc;obtain⟨rfl,hl⟩:=hc;simp only[yAb,yAc]at h;obtain⟨rfl,rfl⟩:=h;obtain⟨p1,σ1,e1,rfl,rfl⟩:=(aLP hU h0 fl xs ye hl σ).ex;exact cg
    .cases h
  .cases h
theorem aLQ(h0:E 74=none)(fl:Nat)(z:Nat)(τ:List aB):aL prog E fl (.inl 74) [.slice z [] .iK] τ (λp σ'=>p=.slice 0 [] .full/\σ'=τ):=by
 have hb:fU (.slice z [] .iK)=some true:=rfl;refine aL.aN 8 h0 func74 (h:=?_);exact vp
theorem aLR(h0:E 74=none)(fl:Nat)(z:Nat)(τ:List aB):aL prog E fl (.inl 74) [.slice z [] .jF] τ (λp σ'=>p=.slice 5 [] .full/\σ'=τ):=by
 have hb:fU (.slice z [] .jF)=some false:=rfl;have hz:∀(n:Nat) (hn:gH 32 n=true) (σ:List aB) (s z:Nat) (tok:Tok),cX prog n fl σ 32 (.slice s [] .full) (.slice z [] tok)=some (.slice s [] .full,σ):=λn hn σ s z tok=>by
  have h:=BI (P:=prog) (σ:=σ) (t:=32) (e:=53) (k:=5) (b:=64) (s:=s) (z:=z) (tok:=tok) (n:=n) hn underlying32 yf (lJ yf);exact h
 refine aL.aN 8 h0 func74 (h:=?_);exact vl
theorem aLS(h0:E 74=none)(fl:Nat)(xs:List PD)(hp:0<xs.length)(hl:xs.length<=1000000)(τ:List aB) :
  aL prog E fl (.inl 74) [.slice 5 xs .any] τ (λp σ'=>p=.aU τ.length 0 0 xs.length 5/\σ'=τ++[.row 53 5 0 (xs.flatMap PD.cells)]):=by
 have f1:∀(n:Nat) (hn:gH 32 n=true) (σ:List aB) (s:Nat),cX prog n fl σ 32 (.slice s [] .full) (.slice 5 xs .any)=some (.aU σ.length 0 0 xs.length 5,σ++[.row 53 5 0 (xs.flatMap PD.cells)]):=λn hn σ s=>by
  have h:=F7 (P:=prog) (σ:=σ) (t:=32) (e:=53) (k:=5) (b:=64) (s:=s) (z:=5) (n:=n) (xs:=xs) hn underlying32 yf (lJ yf) rfl hp ye ye;exact h
 have hb:fU (.slice 5 xs .any)=some false:=by
  exact cy
 refine aL.aN 8 h0 func74 (h:=?_);exact vm
theorem aK9(hE:aF prog E)(h0:E 74=none):aF prog (E.add 74 (iT 53 5)):=
 hE.F8 bK λfl args σ p σ' h c vs dK hv=>by
  unfold iT at h;split at h
  .rename_i z xs;split at h
   .rename_i hx;obtain rfl:=yAf hx;simp only[yAb,yAc]at h;obtain⟨rfl,rfl⟩:=h;rcases F9 hv with hv|hv
    .obtain⟨p1,σ1,e1,rfl,rfl⟩:=(aLQ hU h0 fl z σ).ex;exact cg
    .obtain⟨p1,σ1,e1,rfl,rfl⟩:=(aLR hU h0 fl z σ).ex;exact eu
   .rename_i hx;split at h
    .rename_i hc;obtain⟨rfl,hl⟩:=hc;simp only[yAb,yAc]at h;obtain⟨rfl,rfl⟩:=h;obtain⟨p1,σ1,e1,rfl,rfl⟩:=(aLS hU h0 fl xs ye hl σ).ex;exact cg
    .cases h
  .cases h
theorem aLT(h0:E 75=none)(fl:Nat)(z:Nat)(τ:List aB):aL prog E fl (.inl 75) [.slice z [] .iK] τ (λp σ'=>p=.slice 0 [] .full/\σ'=τ):=by
 have hb:fU (.slice z [] .iK)=some true:=rfl;refine aL.aN 8 h0 func75 (h:=?_);exact vp
theorem aLU(h0:E 75=none)(fl:Nat)(z:Nat)(τ:List aB):aL prog E fl (.inl 75) [.slice z [] .jF] τ (λp σ'=>p=.slice 5 [] .full/\σ'=τ):=by
 have hb:fU (.slice z [] .jF)=some false:=rfl;have hz:∀(n:Nat) (hn:gH 33 n=true) (σ:List aB) (s z:Nat) (tok:Tok),cX prog n fl σ 33 (.slice s [] .full) (.slice z [] tok)=some (.slice s [] .full,σ):=λn hn σ s z tok=>by
  have h:=BI (P:=prog) (σ:=σ) (t:=33) (e:=58) (k:=5) (b:=48) (s:=s) (z:=z) (tok:=tok) (n:=n) hn underlying33 yf (lJ yf);exact h
 refine aL.aN 8 h0 func75 (h:=?_);exact vl
theorem aLV(h0:E 75=none)(fl:Nat)(xs:List PD)(hp:0<xs.length)(hl:xs.length<=1000000)(τ:List aB) :
  aL prog E fl (.inl 75) [.slice 5 xs .any] τ (λp σ'=>p=.aU τ.length 0 0 xs.length 5/\σ'=τ++[.row 58 5 0 (xs.flatMap PD.cells)]):=by
 have f1:∀(n:Nat) (hn:gH 33 n=true) (σ:List aB) (s:Nat),cX prog n fl σ 33 (.slice s [] .full) (.slice 5 xs .any)=some (.aU σ.length 0 0 xs.length 5,σ++[.row 58 5 0 (xs.flatMap PD.cells)]):=λn hn σ s=>by
  have h:=F7 (P:=prog) (σ:=σ) (t:=33) (e:=58) (k:=5) (b:=48) (s:=s) (z:=5) (n:=n) (xs:=xs) hn underlying33 yf (lJ yf) rfl hp ye ye;exact h
 have hb:fU (.slice 5 xs .any)=some false:=by
  exact cy
 refine aL.aN 8 h0 func75 (h:=?_);exact vm
theorem aLb(hE:aF prog E)(h0:E 75=none):aF prog (E.add 75 (iT 58 5)):=
 hE.F8 bK λfl args σ p σ' h c vs dK hv=>by
  unfold iT at h;split at h
  .rename_i z xs;split at h
   .rename_i hx;obtain rfl:=yAf hx;simp only[yAb,yAc]at h;obtain⟨rfl,rfl⟩:=h;rcases F9 hv with hv|hv
    .obtain⟨p1,σ1,e1,rfl,rfl⟩:=(aLT hU h0 fl z σ).ex;exact cg
    .obtain⟨p1,σ1,e1,rfl,rfl⟩:=(aLU hU h0 fl z σ).ex;exact eu
   .rename_i hx;split at h
    .rename_i hc;obtain⟨rfl,hl⟩:=hc;simp only[yAb,yAc]at h;obtain⟨rfl,rfl⟩:=h;obtain⟨p1,σ1,e1,rfl,rfl⟩:=(aLV hU h0 fl xs ye hl σ).ex;exact cg
    .cases h
  .cases h
theorem aLW(h0:E 110=none)(fl:Nat)(z:Nat)(τ:List aB):aL prog E fl (.inl 110) [.slice z [] .iK] τ (λp σ'=>p=.slice 0 [] .full/\σ'=τ):=by
 have hb:fU (.slice z [] .iK)=some true:=rfl;refine aL.aN 8 h0 func110 (h:=?_);exact vp
theorem aLX(h0:E 110=none)(fl:Nat)(z:Nat)(τ:List aB):aL prog E fl (.inl 110) [.slice z [] .jF] τ (λp σ'=>p=.slice 4 [] .full/\σ'=τ):=by
 have hb:fU (.slice z [] .jF)=some false:=rfl;have hz:∀(n:Nat) (hn:gH 51 n=true) (σ:List aB) (s z:Nat) (tok:Tok),cX prog n fl σ 51 (.slice s [] .full) (.slice z [] tok)=some (.slice s [] .full,σ):=λn hn σ s z tok=>by
  have h:=BI (P:=prog) (σ:=σ) (t:=51) (e:=56) (k:=4) (b:=56) (s:=s) (z:=z) (tok:=tok) (n:=n) hn underlying51 yf (lJ yf);exact h
 refine aL.aN 8 h0 func110 (h:=?_);exact vl
theorem aLY(h0:E 110=none)(fl:Nat)(xs:List PD)(hp:0<xs.length)(hl:xs.length<=1000000)(τ:List aB) :
  aL prog E fl (.inl 110) [.slice 4 xs .any] τ (λp σ'=>p=.aU τ.length 0 0 xs.length 4/\σ'=τ++[.row 56 4 0 (xs.flatMap PD.cells)]):=by
 have f1:∀(n:Nat) (hn:gH 51 n=true) (σ:List aB) (s:Nat),cX prog n fl σ 51 (.slice s [] .full) (.slice 4 xs .any)=some (.aU σ.length 0 0 xs.length 4,σ++[.row 56 4 0 (xs.flatMap PD.cells)]):=λn hn σ s=>by
  have h:=F7 (P:=prog) (σ:=σ) (t:=51) (e:=56) (k:=4) (b:=56) (s:=s) (z:=4) (n:=n) (xs:=xs) hn underlying51 yf (lJ yf) rfl hp ye ye;exact h
 have hb:fU (.slice 4 xs .any)=some false:=by
  exact cy
 refine aL.aN 8 h0 func110 (h:=?_);exact vm
theorem aLd(hE:aF prog E)(h0:E 110=none):aF prog (E.add 110 (iT 56 4)):=
 hE.F8 bK λfl args σ p σ' h c vs dK hv=>by
  unfold iT at h;split at h
  .rename_i z xs;split at h
   .rename_i hx;obtain rfl:=yAf hx;simp only[yAb,yAc]at h;obtain⟨rfl,rfl⟩:=h;rcases F9 hv with hv|hv
    .obtain⟨p1,σ1,e1,rfl,rfl⟩:=(aLW hU h0 fl z σ).ex;exact cg
    .obtain⟨p1,σ1,e1,rfl,rfl⟩:=(aLX hU h0 fl z σ).ex;exact eu
   .rename_i hx;split at h
    .rename_i hc;obtain⟨rfl,hl⟩:=hc;simp only[yAb,yAc]at h;obtain⟨rfl,rfl⟩:=h;obtain⟨p1,σ1,e1,rfl,rfl⟩:=(aLY hU h0 fl xs ye hl σ).ex;exact cg
    .cases h
  .cases h
theorem aLZ(h0:E 118=none)(fl:Nat)(z:Nat)(τ:List aB):aL prog E fl (.inl 118) [.slice z [] .iK] τ (λp σ'=>p=.slice 0 [] .full/\σ'=τ):=by
 have hb:fU (.slice z [] .iK)=some true:=rfl;refine aL.aN 8 h0 func118 (h:=?_);exact vp
theorem aL0(h0:E 118=none)(fl:Nat)(z:Nat)(τ:List aB):aL prog E fl (.inl 118) [.slice z [] .jF] τ (λp σ'=>p=.slice 3 [] .full/\σ'=τ):=by
 have hb:fU (.slice z [] .jF)=some false:=rfl;have hz:∀(n:Nat) (hn:gH 54 n=true) (σ:List aB) (s z:Nat) (tok:Tok),cX prog n fl σ 54 (.slice s [] .full) (.slice z [] tok)=some (.slice s [] .full,σ):=λn hn σ s z tok=>by
  have h:=BI (P:=prog) (σ:=σ) (t:=54) (e:=92) (k:=3) (b:=40) (s:=s) (z:=z) (tok:=tok) (n:=n) hn underlying54 yf (lJ yf);exact h
 refine aL.aN 8 h0 func118 (h:=?_);exact vl
theorem aL1(h0:E 118=none)(fl:Nat)(xs:List PD)(hp:0<xs.length)(hl:xs.length<=1000000)(τ:List aB) :
  aL prog E fl (.inl 118) [.slice 3 xs .any] τ (λp σ'=>p=.aU τ.length 0 0 xs.length 3/\σ'=τ++[.row 92 3 0 (xs.flatMap PD.cells)]):=by
 have f1:∀(n:Nat) (hn:gH 54 n=true) (σ:List aB) (s:Nat),cX prog n fl σ 54 (.slice s [] .full) (.slice 3 xs .any)=some (.aU σ.length 0 0 xs.length 3,σ++[.row 92 3 0 (xs.flatMap PD.cells)]):=λn hn σ s=>by
  have h:=F7 (P:=prog) (σ:=σ) (t:=54) (e:=92) (k:=3) (b:=40) (s:=s) (z:=3) (n:=n) (xs:=xs) hn underlying54 yf (lJ yf) rfl hp ye ye;exact h
 have hb:fU (.slice 3 xs .any)=some false:=by
  exact cy
 refine aL.aN 8 h0 func118 (h:=?_);exact vm
theorem aLf(hE:aF prog E)(h0:E 118=none):aF prog (E.add 118 (iT 92 3)):=
 hE.F8 bK λfl args σ p σ' h c vs dK hv=>by
  unfold iT at h;split at h
  .rename_i z xs;split at h
   .rename_i hx;obtain rfl:=yAf hx;simp only[yAb,yAc]at h;obtain⟨rfl,rfl⟩:=h;rcases F9 hv with hv|hv
    .obtain⟨p1,σ1,e1,rfl,rfl⟩:=(aLZ hU h0 fl z σ).ex;exact cg
    .obtain⟨p1,σ1,e1,rfl,rfl⟩:=(aL0 hU h0 fl z σ).ex;exact eu
   .rename_i hx;split at h
    .rename_i hc;obtain⟨rfl,hl⟩:=hc;simp only[yAb,yAc]at h;obtain⟨rfl,rfl⟩:=h;obtain⟨p1,σ1,e1,rfl,rfl⟩:=(aL1 hU h0 fl xs ye hl σ).ex;exact cg
    .cases h
  .cases h
theorem aL2(h0:E 119=none)(fl:Nat)(z:Nat)(τ:List aB):aL prog E fl (.inl 119) [.slice z [] .iK] τ (λp σ'=>p=.slice 0 [] .full/\σ'=τ):=by
 have hb:fU (.slice z [] .iK)=some true:=rfl;refine aL.aN 8 h0 func119 (h:=?_);exact vp
theorem aL3(h0:E 119=none)(fl:Nat)(z:Nat)(τ:List aB):aL prog E fl (.inl 119) [.slice z [] .jF] τ (λp σ'=>p=.slice 2 [] .full/\σ'=τ):=by
 have hb:fU (.slice z [] .jF)=some false:=rfl;have hz:∀(n:Nat) (hn:gH 90 n=true) (σ:List aB) (s z:Nat) (tok:Tok),cX prog n fl σ 90 (.slice s [] .full) (.slice z [] tok)=some (.slice s [] .full,σ):=λn hn σ s z tok=>by
  have h:=BI (P:=prog) (σ:=σ) (t:=90) (e:=89) (k:=2) (b:=16) (s:=s) (z:=z) (tok:=tok) (n:=n) hn underlying90 yf (lJ yf);exact h
 refine aL.aN 8 h0 func119 (h:=?_);exact vl
theorem aL4(h0:E 119=none)(fl:Nat)(xs:List PD)(hp:0<xs.length)(hl:xs.length<=1000000)(τ:List aB) :
  aL prog E fl (.inl 119) [.slice 2 xs .any] τ (λp σ'=>p=.aU τ.length 0 0 xs.length 2/\σ'=τ++[.row 89 2 0 (xs.flatMap PD.cells)]):=by
 have f1:∀(n:Nat) (hn:gH 90 n=true) (σ:List aB) (s:Nat),cX prog n fl σ 90 (.slice s [] .full) (.slice 2 xs .any)=some (.aU σ.length 0 0 xs.length 2,σ++[.row 89 2 0 (xs.flatMap PD.cells)]):=λn hn σ s=>by
  have h:=F7 (P:=prog) (σ:=σ) (t:=90) (e:=89) (k:=2) (b:=16) (s:=s) (z:=2) (n:=n) (xs:=xs) hn underlying90 yf (lJ yf) rfl hp ye ye;exact h
 have hb:fU (.slice 2 xs .any)=some false:=by
  exact cy
 refine aL.aN 8 h0 func119 (h:=?_);exact vm
theorem aLh(hE:aF prog E)(h0:E 119=none):aF prog (E.add 119 (iT 89 2)):=
 hE.F8 bK λfl args σ p σ' h c vs dK hv=>by
  unfold iT at h;split at h
  .rename_i z xs;split at h
   .rename_i hx;obtain rfl:=yAf hx;simp only[yAb,yAc]at h;obtain⟨rfl,rfl⟩:=h;rcases F9 hv with hv|hv
    .obtain⟨p1,σ1,e1,rfl,rfl⟩:=(aL2 hU h0 fl z σ).ex;exact cg
    .obtain⟨p1,σ1,e1,rfl,rfl⟩:=(aL3 hU h0 fl z σ).ex;exact eu
   .rename_i hx;split at h
    .rename_i hc;obtain⟨rfl,hl⟩:=hc;simp only[yAb,yAc]at h;obtain⟨rfl,rfl⟩:=h;obtain⟨p1,σ1,e1,rfl,rfl⟩:=(aL4 hU h0 fl xs ye hl σ).ex;exact cg
    .cases h
  .cases h
end
end Go.Kz
end
