/- Steps of the proof. -/
import Derived.Test.YteegpeenjdgodaaGreatDoorX1c
set_option linter.all false
set_option maxHeartbeats 40000000
set_option maxRecDepth 100000
open Go.Proofs.Tryz
namespace Go.Kz
open Go Go.Proofs
section
variable{E E0:aE}(hU:aJ E)
include hU
theorem aOy{gI gD:Jk}(h0:E 82=none)(h1:E 112=some gI)(h2:E 113=some gD)
  (l p:PD) (way i:Int) (nm tn:List UInt8) (a b sh:Int) (zw:Nat) (xs:List PD) (hx:(PD.slice zw xs .any).strip=.slice zw xs .any) (τ σ':List aA) (hw:way=0) (hi:0<=i/\i<=1000) (hI:gI 0 [l,.int .i64 i,.slice 6 [.agg [.str nm,.str tn,.int .i64 a,.int .i64 b,.int .i64 sh,.slice zw xs .any]] .full] (τ++[.box (.agg [.str nm,.str tn,.int .i64 a,.int .i64 b,.int .i64 sh,.slice zw xs .any])])=some (p,σ')) :
  aK prog E 0 (.inl 82) [l,.int .i64 way,.int .i64 i,.agg [.str nm,.str tn,.int .i64 a,.int .i64 b,.int .i64 sh,.slice zw xs .any]] τ (λp1 σ1=>p1=p/\σ1=σ'):=by
 subst hw;clear hU;refine aK.aG 29 h0 func82 (h:=?_);refine aC (A3 h1 hI hx) ?_;exact ay
theorem aOz{gI gD:Jk}(h0:E 82=none)(h1:E 112=some gI)(h2:E 113=some gD)
  (l p:PD) (way i:Int) (nm tn:List UInt8) (a b sh:Int) (zw:Nat) (xs:List PD) (hx:(PD.slice zw xs .any).strip=.slice zw xs .any) (τ σ':List aA) (hw:way=1) (hi:0<=i/\i<=1000) (hD:gD 0 [l,.int .i64 i,.int .i64 (i+1)] (τ++[.box (.agg [.str nm,.str tn,.int .i64 a,.int .i64 b,.int .i64 sh,.slice zw xs .any])])=some (p,σ')) :
  aK prog E 0 (.inl 82) [l,.int .i64 way,.int .i64 i,.agg [.str nm,.str tn,.int .i64 a,.int .i64 b,.int .i64 sh,.slice zw xs .any]] τ (λp1 σ1=>p1=p/\σ1=σ'):=by
 subst hw;clear hU;refine aK.aG 29 h0 func82 (h:=?_);exact Ac
theorem aOA(h0:E 82=none)(id n:Nat)(way:Int)(i:Nat)(nm tn:List UInt8)(a b sh:Int)(zw:Nat)(xs:List PD)(hx:(PD.slice zw xs .any).strip=.slice zw xs .any)(τ:List aA)(cs:List PD)(hw:way=2)(hi:i<n)(hn:n<=1000000)(hr:τ[id]?=some (.row 48 6 0 cs))(hl:cs.length=n*6) :
  aK prog E 0 (.inl 82) [.aO id 0 0 n 6,.int .i64 way,.int .i64 i,.agg [.str nm,.str tn,.int .i64 a,.int .i64 b,.int .i64 sh,.slice zw xs .any]] τ (λp1 σ1=>p1=.aO id 0 0 n 6/\σ1=τ.set id (.row 48 6 0 (dF cs (i*6) [.str nm,.str tn,.int .i64 a,.int .i64 b,.int .i64 sh,.slice zw xs .any]))++[.box (.agg [.str nm,.str tn,.int .i64 a,.int .i64 b,.int .i64 sh,.slice zw xs .any])]):=by
 subst hw;have GN:aJ E/\True:=⟨hU,trivial⟩;clear hU;have xk:jD prog 31 (.aO id 0 0 n 6) (.int .i64 i)=some (.dG id 0 (i*6)):=by
  simp[jT,hi]
 obtain⟨r7,y7⟩:=yA.1 hr;have fG:i*6+6<=cs.length:=Cj;have u7:=bG (τ:=[aA.box (.agg [.str nm,.str tn,.int .i64 a,.int .i64 b,.int .i64 sh,.slice zw xs .any])]) hr;have j0:∀x:aA,(τ++[x])[τ.length]?=some x:=λx=>Ck
 have q1:(i:Int)<(n:Int):=Cj;refine aK.aG 29 h0 func82 (h:=?_);exact dz
end
end Go.Kz
namespace Go.Kz
section
open Go Go.Proofs Go.RowKit Go.Lib
theorem aRD{i n m c:Nat}(hi:n=i+1+m)(hn:n<=c)(hc:c<=9223372036854775807) :
  ¬((i:Int)=(i:Int)+1)/\(i:Int)<=(i:Int)+1/\(i:Int)+1<=(n:Int)/\(0:Int)<=(i:Int)+1/\((i:Int)+1).toNat=i+1/\(i:Int)<=(c:Int)/\¬(c=i)/\i<=c/\i<=i+1/\n-(i+1)=m/\n-(i+m)=1/\(n:Int)<=(c:Int)/\((i+m:Nat):Int)<=(n:Int)/\i+1-i=1/\(i:Int)+1<=(c:Int)/\i+m<=c/\¬(c-(i+m)=0)/\((i:Int)+(m:Int))<=(n:Int):=by
 refine⟨Cj,Cj,Cj,Cj,Cj,Cj,Cj,Cj,Cj,Cj,Cj,Cj,Cj,Cj,Cj,Cj,Cj,Cj⟩
def DlC(f t e k:Nat):Prop:=(f=113/\t=31/\e=48/\k=6)\/(f=115/\t=32/\e=53/\k=5)\/(f=117/\t=51/\e=56/\k=4)\/(f=121/\t=33/\e=58/\k=5)
theorem DlC.ut{f t e k:Nat}(h4:DlC f t e k):prog.underlying t=some (.slice e):=by
 exact nj
theorem DlC.hz{f t e k:Nat}(h4:DlC f t e k)(w:World):(Go.sizeOf e).run prog w=.ok k w:=by
 exact nj
theorem DlC.hk{f t e k:Nat}(h4:DlC f t e k):k=4\/k=5\/k=6:=by unfold DlC at h4;omega
theorem aRE{f t e k:Nat}(h4:DlC f t e k)(w:World)(b i n m c:Nat)(cur c1 c2:Array Value)(hi:n=i+1+m)(hn:n<=c)(hc:c<=9223372036854775807)
  (D:List Value) (hld:(loadCellsFrom ⟨b,(i+1)*k,none⟩ 0 (m*k) #[]).run prog w.drew=.ok D.toArray w.drew)
  (hst:(storeCells ⟨b,i*k,none⟩ D).run prog w.drew=.ok () (w.drew.setRow b c1)) (hq:¬(c=i+1))
  (hcl:∀ty cx,(Builtin.clear_ #[t] ty #[.slice (some ⟨b,(i+m)*k,none⟩) 1 cx]).run prog (w.drew.setRow b c1)=.ok (.tuple #[]) ((w.drew.setRow b c1).setRow b c2)) :
  Calls prog f #[.slice (some ⟨b,0,none⟩) n c,.int .i64 i,.int .i64 ((i:Int)+1)] w λe w'=>
   e=.returned (.slice (some ⟨b,0,none⟩) (i+m) c)/\w'=(w.drew.setRow b c1).setRow b c2:=by
 have mixed:prog.follows .mixedOrders=true:=Cl;have u3:=yAM (P:=prog) underlying3;have u4:=yAM (P:=prog) underlying4;have n8:=h4.ut;have ut:=yAM (P:=prog) n8;have hz:∀w,(Go.sizeOf e).run prog w=.ok k w:=h4.hz;obtain⟨a1,a2,a3,a4,a5,a6,a7,a8,a9,AL,a11,a12,a13,a14,a15,a16,a17,a18⟩:=aRD hi hn hc;clear hi;unfold DlC at h4;rcases h4 with⟨rfl,rfl,rfl,rfl⟩ | ⟨rfl,rfl,rfl,rfl⟩ | ⟨rfl,rfl,rfl,rfl⟩ | ⟨rfl,rfl,rfl,rfl⟩
 all_goals
  first|go_enter func113,Tryz.ntmps113|go_enter func115,Tryz.ntmps115|go_enter func117,Tryz.ntmps117|go_enter func121,Tryz.ntmps121
  go_wp2_with fail
  go_region_o
  go_wp2_with fail
  go_ret
  exact⟨rfl,rfl⟩
def N0(k:Nat)(cur:Array Value)(z:Value)(i:Nat):Array Value:=(cur.toList.take (i*k)++(Builtin.zeroCells z.cells 1).toList++cur.toList.drop (i*k+(Builtin.zeroCells z.cells 1).toList.length)).toArray
theorem aRF{f t e k:Nat}(h4:DlC f t e k)(w:World)(b i c:Nat)(cur:Array Value)(T:TypeId)(hic:i+1<=c)(hc:c<=9223372036854775807)(hb:w.heap[b]?=some (.cells cur T (0,0)))(hcur:cur.size=c*k)
  {z:Value} (hzr:∀w,(zeroValue e).run prog w=.ok z w) (hle:i*k+(Builtin.zeroCells z.cells 1).toList.length<=cur.size) (h1:∀v∈(Builtin.zeroCells z.cells 1).toList,v.oneCell'=true) :
  Calls prog f #[.slice (some ⟨b,0,none⟩) (i+1) c,.int .i64 i,.int .i64 ((i:Int)+1)] w λe w'=>
   e=.returned (.slice (some ⟨b,0,none⟩) i c)/\w'=w.drew.setRow b (N0 k cur z i):=by
 have mixed:prog.follows .mixedOrders=true:=Cl;have u3:=yAM (P:=prog) underlying3;have u4:=yAM (P:=prog) underlying4;have n8:=h4.ut;have ut:=yAM (P:=prog) n8;have hz:∀w,(Go.sizeOf e).run prog w=.ok k w:=h4.hz;obtain⟨a1,a2,a3,a4,a5,a6,a7,a8,a9,AL,a11⟩:=aGr hic hc;have hap:∀ty X cx,(Builtin.append_ #[t,t] ty #[.slice (some ⟨b,0,none⟩) i c,.slice X 0 cx]).run prog w.drew=.ok (.slice (some ⟨b,0,none⟩) i c) w.drew:=λty X cx=>
  aGs n8 hz w.drew _ i c X cx AL
 have hcl:∀ty cx,(Builtin.clear_ #[t] ty #[.slice (some ⟨b,i*k,none⟩) 1 cx]).run prog w.drew=.ok (.tuple #[]) (w.drew.setRow b (N0 k cur z i)):=λty cx=>
  aAI n8 hzr w.drew b (i*k) cx hb hle h1
 clear hb hcur hle h1 hzr
 by_cases hq:c=i+1
 .subst hq;unfold DlC at h4;rcases h4 with⟨rfl,rfl,rfl,rfl⟩ | ⟨rfl,rfl,rfl,rfl⟩ | ⟨rfl,rfl,rfl,rfl⟩ | ⟨rfl,rfl,rfl,rfl⟩
  all_goals
   first|go_enter func113,Tryz.ntmps113|go_enter func115,Tryz.ntmps115|go_enter func117,Tryz.ntmps117|go_enter func121,Tryz.ntmps121
   go_wp2_with fail
   go_region_o
   go_wp2_with fail
   go_ret
   exact⟨rfl,rfl⟩
 .unfold DlC at h4;rcases h4 with⟨rfl,rfl,rfl,rfl⟩ | ⟨rfl,rfl,rfl,rfl⟩ | ⟨rfl,rfl,rfl,rfl⟩ | ⟨rfl,rfl,rfl,rfl⟩
  all_goals
   first|go_enter func113,Tryz.ntmps113|go_enter func115,Tryz.ntmps115|go_enter func117,Tryz.ntmps117|go_enter func121,Tryz.ntmps121
   go_wp2_with fail
   go_region_o
   go_wp2_with fail
   go_ret
   exact⟨rfl,rfl⟩
theorem del_all{f t e k:Nat}(h4:DlC f t e k):JV prog f e k:=by
 have hk:=h4.hk;have n8:=h4.ut;intro w b n c i cur hi hnc hc hb hcur h1c;obtain⟨inf,z,aAJ,hzr,his,hib,hzs,hz1⟩:=NU (P:=prog) (e:=e) (k:=k) (by
  unfold DlC at h4;rcases h4 with⟨rfl,rfl,rfl,rfl⟩ | ⟨rfl,rfl,rfl,rfl⟩ | ⟨rfl,rfl,rfl,rfl⟩ | ⟨rfl,rfl,rfl,rfl⟩<;>kernel_rfl)
 have hzv:∀w,(zeroValue e).run prog w=.ok z w:=λw=>by simp[zeroValue,typeInfo,aAJ,hzr]
 have hzl:(Builtin.zeroCells z.cells 1).toList.length=k:=by rw[yBc,yCP,hzs,Nat.one_mul]
 have hzo:∀v∈(Builtin.zeroCells z.cells 1).toList,v.oneCell'=true:=H3 hz1 (kk) 1;obtain⟨Z,hZ⟩:=gn ((Builtin.zeroCells z.cells 1).toList);have hcl:cur.toList.length=c*k:=by rw[yBc,hcur]
 have hT:(cur.toList.take (i*k)).length=i*k:=by rw[yAt,hcl];exact kk
 have hcm:c<=9223372036854775807:=hc
 by_cases hm:n=i+1
 .subst hm;refine yBC (aRF h4 w b i c cur e hnc hcm hb hcur hzv (by rw[hzl,hcur];exact kk) hzo) λen w' he=>?_
  obtain⟨rfl,rfl⟩:=he;have hA:(N0 k cur z i).toList=cur.toList.take (i*k)++(Z++cur.toList.drop (i*k+Z.length)):=by
   unfold N0;simp only[yAi,hZ]
  rw[hZ]at hzl hzo;refine⟨N0 k cur z i,rfl,⟨rfl,rfl,rfl,Ck⟩,λj hj=>?_,yBT _ _ cur _ e (0,0) hb,?_,?_,Z++cur.toList.drop (i*k+Z.length),?_⟩
  .rw[yBJ _ _ _ _ hj];rfl
  .have:=yAL List.length hA;rw[yBc,yAa,yAa,hT,yBa,hzl,hcl]at this;exact kk
  .intro v hv;rw[hA]at hv;simp only[yBh]at hv;rcases hv with hv|hv|hv
   .exact h1c v (yAy hv)
   .exact hzo v hv
   .exact h1c v (yBd hv)
  .rw[hA];simp
 obtain⟨m,rfl⟩:∃m,n=i+1+m:=⟨n-(i+1),kk⟩;obtain⟨D,hD⟩:=gn ((cur.toList.drop ((i+1)*k)).take (m*k));have hDl:D.length=m*k:=by rw[<-hD,yAt,yBa,hcl];exact kk
 have yM:∀v∈D,v.oneCell'=true:=λv hv=>h1c v (by rw[<-hD]at hv;exact yBd (yAy hv))
 obtain⟨c1,dX⟩:=gn ((cur.toList.take (i*k)++D++cur.toList.drop (i*k+D.length)).toArray);have aAK:c1.toList=cur.toList.take (i*k)++D++cur.toList.drop (i*k+D.length):=by rw[<-dX]
 have aGt:c1.size=c*k:=by
  have:=yAL List.length aAK;rw[yBc,yAa,yAa,hT,yBa,hDl,hcl]at this;exact kk
 have h11:∀v∈c1.toList,v.oneCell'=true:=λv hv=>by
  rw[aAK]at hv;exact qh
 have hbd:w.drew.heap[b]?=some (.cells cur e (0,0)):=hb;have hb1:(w.drew.setRow b c1).heap[b]?=some (.cells c1 e (0,0)):=yBT _ _ cur _ e (0,0) hbd;have hst:=yDf (P:=prog) b (i*k) e D 0 cur w.drew hbd (kk) yM;simp only[yBm]at hst;rw[dX]at hst;have hld:(loadCells ⟨b,(i+1)*k,none⟩ (m*k)).run prog w.drew=.ok D.toArray w.drew:=DI hDl λj v hj=>by
  rw[tY];simp only[World.cell?,hbd];rw[<-hD,yAv]at hj;split at hj
  .exact mm
  .cases hj
 obtain⟨c2,hc2⟩:=gn ((c1.toList.take ((i+m)*k)++Z++c1.toList.drop ((i+m)*k+Z.length)).toArray);have aRG:∀ty cx,(Builtin.clear_ #[t] ty #[.slice (some ⟨b,(i+m)*k,none⟩) 1 cx]).run prog (w.drew.setRow b c1)=.ok (.tuple #[]) ((w.drew.setRow b c1).setRow b c2):=λty cx=>by
  have:=aAI (ty:=ty) n8 hzv (w.drew.setRow b c1) b ((i+m)*k) cx hb1 (by rw[hzl,aGt];exact kk) hzo;rw[hZ,hc2]at this;exact this
 rw[hZ]at hzl hzo;have aAL:c2.toList=c1.toList.take ((i+m)*k)++(Z++c1.toList.drop ((i+m)*k+Z.length)):=by rw[<-hc2];simp
 refine yBC (aRE h4 w b i (i+1+m) m c cur c1 c2 rfl hnc hcm D hld hst (kk) aRG) λen w' he=>?_
 obtain⟨rfl,rfl⟩:=he;have yY:i+1+m-1=i+m:=kk;have hn2:i+m-i=m:=kk;rw[yY,hn2,hD];refine⟨c2,rfl,⟨rfl,rfl,rfl,Ck⟩,λj hj=>?_,yBT _ _ c1 _ e (0,0) hb1,?_,?_,Z++c1.toList.drop ((i+m)*k+Z.length),?_⟩
 .rw[yBJ _ _ _ _ hj,yBJ _ _ _ _ hj];rfl
 .have:=yAL List.length aAL;rw[yBc,yAa,yAa,yAt,yBa,hzl,yBc,aGt]at this;exact kk
 .intro v hv;rw[aAL]at hv;simp only[yBh]at hv;rcases hv with hv|hv|hv
  .exact h11 v (yAy hv)
  .exact hzo v hv
  .exact h11 v (yBd hv)
 .rw[aAL,aAK]
  congr 1
  rw[yCR (by rw[yAa,hT,hDl];exact kk),yAz (by rw[yAa,hT,hDl];exact kk)]
theorem aNC:JV prog 113 48 6:=del_all (.inl ⟨rfl,rfl,rfl,rfl⟩)
theorem aNF:JV prog 115 53 5:=del_all (.inr (.inl ⟨rfl,rfl,rfl,rfl⟩))
theorem aNL:JV prog 117 56 4:=del_all (.inr (.inr (.inl ⟨rfl,rfl,rfl,rfl⟩)))
theorem aNI:JV prog 121 58 5:=del_all (.inr (.inr (.inr ⟨rfl,rfl,rfl,rfl⟩)))
end
end Go.Kz
namespace Go.Kz
open Go Go.Proofs
section
variable{E E0:aE}(hU:aJ E)
include hU
theorem aLa(h0:E 56=none)(kd:Nat)(hk:kd<13)(d i:Int)(nm rn rt fn sn cn:List UInt8)(ra rb rf fl fh sa sb ca cb cs:Int)(fp ct:Bool)(wk sk gk:Nat)(W S G:List PD) :
  aK prog E 0 (.inl 56) [.agg [.int .i64 ((kd:Int)+1),.int .i64 d,.int .i64 i,.str nm,.str rn,.str rt,.int .i64 ra,.int .i64 rb,.int .i64 rf,.slice wk W .any,.str fn,.bool fp,.int .i64 fl,.int .i64 fh,.slice sk S .any,.str sn,.int .i64 sa,.int .i64 sb,.slice gk G .any,.str cn,.int .i64 ca,.int .i64 cb,.int .i64 cs,.bool ct]] [] (λp σ=>p=.aH [.int .i64 ((kd/3:Nat):Int),.int .i64 ((kd%3:Nat):Int)]):=by
 have e1:(kd:Int)/3=((kd/3:Nat):Int):=Cj;have e2:(kd:Int)%3=((kd%3:Nat):Int):=Cj;refine aK.aG 12 h0 func56 (h:=?_);refine aC trivial ?_;have e3:((kd:Int)).tmod 3=((kd%3:Nat):Int):=by rw[yBY Cj];omega
 refine⟨_,_,rfl,?_⟩;simp[e3]
end
section
variable{E E0:aE}(hU:aJ E)
include hU
theorem aOJ{gW:Jk}(h0:E 80=none)(h1:E 56=some gW)(nm:List UInt8)(iR nR iD nD iC nC:Nat)(σ:List aA)(k d i wy:Int)(xY rn rt fn sn cn:List UInt8)(ra rb rf fl fh sa sb ca cb cs:Int)(fp ct:Bool)(wk sk gk:Nat)(W S G:List PD)
  (hW:∀CH τ,gW CH [.agg [.int .i64 k,.int .i64 d,.int .i64 i,.str xY,.str rn,.str rt,.int .i64 ra,.int .i64 rb,.int .i64 rf,.slice wk W .any,.str fn,.bool fp,.int .i64 fl,.int .i64 fh,.slice sk S .any,.str sn,.int .i64 sa,.int .i64 sb,.slice gk G .any,.str cn,.int .i64 ca,.int .i64 cb,.int .i64 cs,.bool ct]] τ=some (.aH [.int .i64 0,.int .i64 wy],τ)) :
  aK prog E 0 (.inl 80) [.agg [.int .i64 k,.int .i64 d,.int .i64 i,.str xY,.str rn,.str rt,.int .i64 ra,.int .i64 rb,.int .i64 rf,.slice wk W .any,.str fn,.bool fp,.int .i64 fl,.int .i64 fh,.slice sk S .any,.str sn,.int .i64 sa,.int .i64 sb,.slice gk G .any,.str cn,.int .i64 ca,.int .i64 cb,.int .i64 cs,.bool ct],.agg [.str nm,Go.Kz.hd 6 iR nR,Go.Kz.hd 5 iD nD,Go.Kz.hd 5 iC nC]] σ (λp σ'=>p=.aH [.int .i64 nR,.bool true]/\∃L,σ'=σ++L):=by
 have lD:=z6 6 iR nR underlying31;obtain⟨hR,hhR⟩:=gn (Go.Kz.hd 6 iR nR);obtain⟨hD,hhD⟩:=gn (Go.Kz.hd 5 iD nD);obtain⟨hC,hhC⟩:=gn (Go.Kz.hd 5 iC nC);have pR:hR.plain=true:=Da;have pD:hD.plain=true:=Db;have pC:hC.plain=true:=Dc;unfold PD.plain at pR pD pC;simp only[hhR,hhD,hhC]at lD ⊢;simp[gA,underlying31]at lD;exact az
theorem aOI{gW:Jk}(h0:E 80=none)(h1:E 56=some gW)(nm:List UInt8)(iR nR iD nD iC nC:Nat)(σ:List aA)(k d i wy:Int)(xY rn rt fn sn cn:List UInt8)(ra rb rf fl fh sa sb ca cb cs:Int)(fp ct:Bool)(wk sk gk:Nat)(W S G:List PD)
  (hW:∀CH τ,gW CH [.agg [.int .i64 k,.int .i64 d,.int .i64 i,.str xY,.str rn,.str rt,.int .i64 ra,.int .i64 rb,.int .i64 rf,.slice wk W .any,.str fn,.bool fp,.int .i64 fl,.int .i64 fh,.slice sk S .any,.str sn,.int .i64 sa,.int .i64 sb,.slice gk G .any,.str cn,.int .i64 ca,.int .i64 cb,.int .i64 cs,.bool ct]] τ=some (.aH [.int .i64 1,.int .i64 wy],τ)) :
  aK prog E 0 (.inl 80) [.agg [.int .i64 k,.int .i64 d,.int .i64 i,.str xY,.str rn,.str rt,.int .i64 ra,.int .i64 rb,.int .i64 rf,.slice wk W .any,.str fn,.bool fp,.int .i64 fl,.int .i64 fh,.slice sk S .any,.str sn,.int .i64 sa,.int .i64 sb,.slice gk G .any,.str cn,.int .i64 ca,.int .i64 cb,.int .i64 cs,.bool ct],.agg [.str nm,Go.Kz.hd 6 iR nR,Go.Kz.hd 5 iD nD,Go.Kz.hd 5 iC nC]] σ (λp σ'=>p=.aH [.int .i64 nD,.bool true]/\∃L,σ'=σ++L):=by
 have lD:=z6 5 iD nD underlying32;obtain⟨hR,hhR⟩:=gn (Go.Kz.hd 6 iR nR);obtain⟨hD,hhD⟩:=gn (Go.Kz.hd 5 iD nD);obtain⟨hC,hhC⟩:=gn (Go.Kz.hd 5 iC nC);have pR:hR.plain=true:=Da;have pD:hD.plain=true:=Db;have pC:hC.plain=true:=Dc;unfold PD.plain at pR pD pC;simp only[hhR,hhD,hhC]at lD ⊢;simp[gA,underlying32]at lD;exact az
theorem aOK{gW:Jk}(h0:E 80=none)(h1:E 56=some gW)(nm:List UInt8)(iR nR iD nD iC nC:Nat)(σ:List aA)(k d i wy:Int)(xY rn rt fn sn cn:List UInt8)(ra rb rf fl fh sa sb ca cb cs:Int)(fp ct:Bool)(wk sk gk:Nat)(W S G:List PD)
  (hW:∀CH τ,gW CH [.agg [.int .i64 k,.int .i64 d,.int .i64 i,.str xY,.str rn,.str rt,.int .i64 ra,.int .i64 rb,.int .i64 rf,.slice wk W .any,.str fn,.bool fp,.int .i64 fl,.int .i64 fh,.slice sk S .any,.str sn,.int .i64 sa,.int .i64 sb,.slice gk G .any,.str cn,.int .i64 ca,.int .i64 cb,.int .i64 cs,.bool ct]] τ=some (.aH [.int .i64 3,.int .i64 wy],τ)) :
  aK prog E 0 (.inl 80) [.agg [.int .i64 k,.int .i64 d,.int .i64 i,.str xY,.str rn,.str rt,.int .i64 ra,.int .i64 rb,.int .i64 rf,.slice wk W .any,.str fn,.bool fp,.int .i64 fl,.int .i64 fh,.slice sk S .any,.str sn,.int .i64 sa,.int .i64 sb,.slice gk G .any,.str cn,.int .i64 ca,.int .i64 cb,.int .i64 cs,.bool ct],.agg [.str nm,Go.Kz.hd 6 iR nR,Go.Kz.hd 5 iD nD,Go.Kz.hd 5 iC nC]] σ (λp σ'=>p=.aH [.int .i64 nC,.bool true]/\∃L,σ'=σ++L):=by
 have lD:=z6 5 iC nC underlying33;obtain⟨hR,hhR⟩:=gn (Go.Kz.hd 6 iR nR);obtain⟨hD,hhD⟩:=gn (Go.Kz.hd 5 iD nD);obtain⟨hC,hhC⟩:=gn (Go.Kz.hd 5 iC nC);have pR:hR.plain=true:=Da;have pD:hD.plain=true:=Db;have pC:hC.plain=true:=Dc;unfold PD.plain at pR pD pC;simp only[hhR,hhD,hhC]at lD ⊢;simp[gA,underlying33]at lD;exact az
end
structure cF where
 kind:Int
 div:Int
 idx:Int
 name:Jr
 aL:bH
 frame:bI
 stop:cJ
 aZ:bX
 deriving DecidableEq
def bV.edit:bV cF:=((bV.one i64).pair ((bV.one i64).pair ((bV.one i64).pair ((bV.one .text).pair (bV.aL.pair (bV.div.pair (bV.stop.pair bV.aZ))))))).nK (λx=>(x.kind,x.div,x.idx,x.name,x.aL,x.frame,x.stop,x.aZ)) (λx y h=>Cr)
def Em.edit:Em cF:=.agg .edit
theorem bZ{x:cF}:Em.edit.aB x=.agg [.int .i64 x.kind,.int .i64 x.div,.int .i64 x.idx,.str x.name,.str x.aL.name,.str x.aL.kH,.int .i64 x.aL.num,.int .i64 x.aL.den,.int .i64 x.aL.first,gH.aB x.aL.mG,.str x.frame.name,.bool x.frame.dO,.int .i64 x.frame.low,.int .i64 x.frame.high,oC.aB x.frame.stops,.str x.stop.name,.int .i64 x.stop.num,.int .i64 x.stop.den,oQ.aB x.stop.aN,.str x.aZ.name,.int .i64 x.aZ.dK,.int .i64 x.aZ.dst,.int .i64 x.aZ.shift,.bool x.aZ.qJ]:=rfl
def dV:bH:=⟨[],[],0,0,0,[]⟩
def cX:bI:=⟨[],false,0,0,[]⟩
def eD:cJ:=⟨[],0,0,[]⟩
def eU:bX:=⟨[],0,0,0,false⟩
def gE:aV:=⟨[],[],[],[]⟩
def o7(x:cF):cF:=
 if x.kind=13 then { x with name:=[] }
 else
  let th:=(x.kind-1)/3
  let y:={ x with idx:=0,div:=if th=2 then 0 else x.div }
  if (x.kind-1)%3=1 then y
  else if th=0 then { y with aL:=dV }else if th=1 then { y with frame:=cX }else if th=2 then { y with stop:=eD }else { y with aZ:=eU }
def mN(x:cF):Bool:=decide (x.div=0/\x.idx=0/\x.name=[]/\x.aL=dV/\x.frame=cX/\x.stop=eD/\x.aZ=eU)
section
set_option pp.maxSteps 200000
set_option pp.deepTerms true
noncomputable def sQ:Nat->List PD->List aA->Option (PD×List aA):=entry (cK Em.edit (i64.nT i64) λx=>dY (1<=x.kind/\x.kind<=13) (some ((x.kind-1)/3,(x.kind-1)%3)))
theorem GK{x:cF}(h:1<=x.kind/\x.kind<=13)(fl:Nat)(σ:List aA):sQ fl [Em.edit.aB x] σ=some (.aH [.int .i64 ((x.kind-1)/3),.int .i64 ((x.kind-1)%3)],σ):=by
 have e1:=Em.cT (Em.edit.str x);unfold sQ entry cK;exact uc
theorem uM{α:Type}(em:Em α)(k:Nat)(xs:List α)(tok:Tok):(PD.slice (sz k xs) (xs.map em.aB) tok).strip=.slice (sz k xs) (xs.map em.aB) .any:=by
 rw[PD.sA];have h:(xs.map em.aB).map PD.strip=xs.map em.aB:=by
  rw[yBE];exact yAG λx _=>em.str x
 rw[h];cases xs<;>simp[sz]
def frF(gg:Nat->PD):List PD:=gg 0::.ptr 0 0::gg 2::gg 3::gg 4::gg 5::gg 6::gg 7::gg 8::gg 9::gg 10::gg 11::gg 12::gg 13::gg 14::gg 15::gg 16::gg 17::gg 18::gg 19::gg 20::gg 21::gg 22::gg 23::gg 24::gg 25::gg 26::gg 27::gg 28::gg 29::gg 30::gg 31::gg 32::gg 33::gg 34::gg 35::gg 36::gg 37::gg 38::gg 39::gg 40::gg 41::gg 42::gg 43::gg 44::gg 45::gg 46::gg 47::gg 48::gg 49::gg 50::gg 51::gg 52::gg 53::gg 54::gg 55::gg 56::gg 57::gg 58::gg 59::gg 60::gg 61::gg 62::gg 63::gg 64::gg 65::gg 66::gg 67::gg 68::gg 69::gg 70::gg 71::gg 72::gg 73::gg 74::gg 75::gg 76::gg 77::gg 78::gg 79::gg 80::gg 81::gg 82::[]
def aGi(x:cF)(t1 t2 t3:Tok):PD:=.agg [.int .i64 x.kind,.int .i64 x.div,.int .i64 x.idx,.str x.name,.str x.aL.name,.str x.aL.kH,.int .i64 x.aL.num,.int .i64 x.aL.den,.int .i64 x.aL.first,.slice (sz 1 x.aL.mG) (x.aL.mG.map i64.aB) t1,.str x.frame.name,.bool x.frame.dO,.int .i64 x.frame.low,.int .i64 x.frame.high,.slice (sz 4 x.frame.stops) (x.frame.stops.map Em.stop.aB) t2,.str x.stop.name,.int .i64 x.stop.num,.int .i64 x.stop.den,.slice (sz 3 x.stop.aN) (x.stop.aN.map Em.eZ.aB) t3,.str x.aZ.name,.int .i64 x.aZ.dK,.int .i64 x.aZ.dst,.int .i64 x.aZ.shift,.bool x.aZ.qJ]
theorem aRa{x:cF}(h:gS x.aL/\gT x.frame/\jQ x.stop):gS (o7 x).aL/\gT (o7 x).frame/\jQ (o7 x).stop:=by
 have n1:gS dV:=yAF _;have n2:gT cX:=⟨yAF _,λ_ h=>Co⟩;have n3:jQ eD:=⟨yAF _,λ_ h=>Co⟩;obtain⟨h1,h2,h3⟩:=h;unfold o7;split
 .exact⟨h1,h2,h3⟩
 .simp only;split
  .exact⟨h1,h2,h3⟩
  .split
   .exact⟨n1,h2,h3⟩
   .split
    .exact⟨h1,n2,h3⟩
    .split
     .exact⟨h1,h2,n3⟩
     .exact⟨h1,h2,h3⟩
variable{E:aE}(hU:aJ E)
include hU
theorem aLd(h0:E 78=none)(h1:E 56=some sQ)(h2:E 33=some (fH Em.aL gS))(h3:E 35=some (fH Em.div gT))(h4:E 72=some (fH Em.stop jQ))(x:cF)(hk:1<=x.kind/\x.kind<=13)(hx:gS x.aL/\gT x.frame/\jQ x.stop) :
  aI prog E 78 [Em.edit.aB x] (i64.aB (if mN (o7 x)then 0 else 7)):=by
 have k1:=λfl σ=>GK hk fl σ
 have hb:=aRa hx;obtain⟨B,hB⟩:=gn (o7 x);rw[hB]at hb ⊢;obtain⟨kd,dv,ix,nm,⟨rn,rt,ra,rb,rf,wd⟩,⟨fn,fp,flo,fhi,fs⟩,⟨sn,sa,sb,sg⟩,⟨cn,ca,cb,cs,ct⟩⟩:=x;simp only[bZ,aU]at k1 hk;simp only[bZ,aU];have hk1:¬kd<1:=Cj;have hk2:¬13<kd:=Cj;refine aI.aG 83 h0 func78 (h:=?_);refine aC (A4 h1 k1 hk1 hk2) ?_;refine Wp.mono (Q:=λr=>r.x=.normal/\r.ms=[]/\∃t1 t2 t3,∃gg:Nat->PD,True/\r.fr=frF gg/\r.σ=[.box (aGi B t1 t2 t3)]) ?_ ?_
 .have hc:kd=1\/kd=2\/kd=3\/kd=4\/kd=5\/kd=6\/kd=7\/kd=8\/kd=9\/kd=10\/kd=11\/kd=12\/kd=13:=by omega
  subst hB;clear k1 hb hk1 hk2;rcases hc with rfl|rfl|rfl|rfl|rfl|rfl|rfl|rfl|rfl|rfl|rfl|rfl|rfl
  all_goals
   refine aC trivial ?_
  all_goals exact⟨rfl,rfl,_,_,_,p6 trivial rfl rfl⟩
 rintro⟨px,fr,ms,σ⟩ ⟨hp,hm,t1,t2,t3,gg,_,hf,hs⟩
 simp only at hp hm hf hs;subst hp hm hf hs;unfold frF;clear k1;obtain⟨o1,o2,o3⟩:=hb;obtain⟨bk,bd,bi,bn,⟨an,aT,aa,ab,af,aw⟩,⟨dn,dp,dl,dh,dS⟩,⟨en,ea,eb,eg⟩,⟨gn,go,gd,gs,gt⟩⟩:=B;have q2:=λfl σ=>pH (a:=Em.aL) (R:=gS) o1 (show gS dV from yAF _) (p:=.agg [.str an,.str aT,.int .i64 aa,.int .i64 ab,.int .i64 af,.slice (sz 1 aw) (aw.map i64.aB) t1]) (q:=.agg [.str [],.str [],.int .i64 0,.int .i64 0,.int .i64 0,.slice 0 [] .full]) Gs rfl fl σ
 have q3:=λfl σ=>pH (a:=Em.div) (R:=gT) o2 (show gT cX from⟨yAF _,λ_ h=>Co⟩) (p:=.agg [.str dn,.bool dp,.int .i64 dl,.int .i64 dh,.slice (sz 4 dS) (dS.map Em.stop.aB) t2]) (q:=.agg [.str [],.bool false,.int .i64 0,.int .i64 0,.slice 0 [] .full]) Gs rfl fl σ
 have q4:=λfl σ=>pH (a:=Em.stop) (R:=jQ) o3 (show jQ eD from⟨yAF _,λ_ h=>Co⟩) (p:=.agg [.str en,.int .i64 ea,.int .i64 eb,.slice (sz 3 eg) (eg.map Em.eZ.aB) t3]) (q:=.agg [.str [],.int .i64 0,.int .i64 0,.slice 0 [] .full]) Gs rfl fl σ
 refine mQ.normal ?_;unfold aGi;simp only
 by_cases c1:bd=0
 rotate_left
 .refine aC c1 ?_;exact⟨_,_,rfl,by simp[mN,c1]⟩
 by_cases c2:bi=0
 rotate_left
 .refine aC (A2 c1 c2) ?_;exact⟨_,_,rfl,by simp[mN,c2]⟩
 by_cases c3:bn=[]
 rotate_left
 .have Z1:bn.isEmpty=false:=by cases bn with|nil=>exact absurd rfl c3|cons _ _=>rfl
  refine aC (A4 c1 c2 c3 Z1) ?_;exact⟨_,_,rfl,by simp[mN,c3]⟩
 by_cases c4:(⟨an,aT,aa,ab,af,aw⟩:bH)=dV
 rotate_left
 .rw[yBe c4]at q2;refine aC (A5 c1 c2 c3 h2 q2) ?_;exact⟨_,_,rfl,by simp[mN,c4]⟩
 rw[yAX c4]at q2
 by_cases c5:(⟨dn,dp,dl,dh,dS⟩:bI)=cX
 rotate_left
 .rw[yBe c5]at q3;refine aC (A7 c1 c2 c3 h2 q2 h3 q3) ?_;exact⟨_,_,rfl,by simp[mN,c5]⟩
 rw[yAX c5]at q3
 by_cases c6:(⟨en,ea,eb,eg⟩:cJ)=eD
 rotate_left
 .rw[yBe c6]at q4;refine aC (A9 c1 c2 c3 h2 q2 h3 q3 h4 q4) ?_;exact⟨_,_,rfl,by simp[mN,c6]⟩
 rw[yAX c6]at q4;refine aC (A9 c1 c2 c3 h2 q2 h3 q3 h4 q4) ?_
 by_cases c7:(⟨gn,go,gd,gs,gt⟩:bX)=eU
 .cases c7;have he:mN ⟨bk,bd,bi,bn,⟨an,aT,aa,ab,af,aw⟩,⟨dn,dp,dl,dh,dS⟩,⟨en,ea,eb,eg⟩,⟨[],0,0,0,false⟩⟩=true:=yAX ⟨c1,c2,c3,c4,c5,c6,rfl⟩;rw[yAJ he];refine aC trivial ?_;exact cg
 .have n1:(decide (gn=[])&&(decide (go=0)&&(decide (gd=0)&&(decide (gs=0)&&!gt))))=false:=Bool.eq_false_iff.2 λh=>by
   simp at h;obtain⟨rfl,rfl,rfl,rfl,rfl⟩:=h;exact c7 rfl
  have n2:(!decide (gn=[])||(!decide (go=0)||(!decide (gd=0)||(!decide (gs=0)||gt))))=true:=by
   revert n1
   generalize decide (gn=[])=A
   generalize decide (go=0)=B
   generalize decide (gd=0)=C
   generalize decide (gs=0)=D
   cases A<;>cases B<;>cases C<;>cases D<;>cases gt<;>simp
  simp only[n1,n2];refine aC trivial ?_;exact⟨_,_,rfl,by simp[mN,c7]⟩
theorem aLc(h0:E 78=none)(x:cF)(hk:x.kind<1\/13<x.kind) :
  aI prog E 78 [Em.edit.aB x] (i64.aB 12):=by
 obtain⟨kd,dv,ix,nm,⟨rn,rt,ra,rb,rf,wd⟩,⟨fn,fp,flo,fhi,fs⟩,⟨sn,sa,sb,sg⟩,⟨cn,ca,cb,cs,ct⟩⟩:=x;simp only[bZ,aU];simp only at hk
 by_cases hk1:kd<1
 rotate_left
 .have hk2:13<kd:=by omega
  refine aI.aG 83 h0 func78 (h:=?_);refine aC (A2 hk1 hk2) ?_;exact ag
 refine aI.aG 83 h0 func78 (h:=?_);refine aC hk1 ?_;exact ag
end
section
variable{E E0:aE}(hU:aJ E)
include hU
theorem aOp(h0:E 80=none)(h1:E 56=some sQ)(x:cF)(hx:7<=x.kind/\x.kind<=9)
  (o:aV) (p:PD) (aS:List aA) (lo iR iD iC:Nat) (ds:List (List PD)) (tS:Nat->Nat) (tss:Nat->List (List PD)) (tG:Nat->Nat->Nat) (tgs:Nat->Nat->List (List PD)) (tW:Nat->Nat->Nat->Nat) (hO:iY aS lo o p iR iD iC ds tS tss tG tgs tW) (ho:eF o) :
  aK prog E 0 (.inl 80) [Em.edit.aB x,p] aS (λq σ'=>(∃L,σ'=aS++L)/\((q=.aH [.int .i64 0,.bool false]/\(x.div<0\/(o.aD.length:Int)<=x.div))\/∃(d:Nat) (hd:d<o.aD.length),x.div=d/\q=.aH [.int .i64 o.aD[d].stops.length,.bool true])):=by
 have hp:=hO.p;subst hp;have k1:=λfl σ=>GK (x:=x) ⟨Cj,Cj⟩ fl σ
 have hth:(x.kind-1)/3=2:=Cj;rw[hth]at k1;obtain⟨hR,hhR⟩:=gn (Go.Kz.hd 6 iR o.aR.length);obtain⟨hD,hhD⟩:=gn (Go.Kz.hd 5 iD o.aD.length);obtain⟨hC,hhC⟩:=gn (Go.Kz.hd 5 iC o.aP.length);have lD:=z6 5 iD o.aD.length underlying32;have pR:hR.plain=true:=Da;have pD:hD.plain=true:=Db;have pC:hC.plain=true:=Dc;unfold PD.plain at pR pD pC;simp only[hhR,hhD,hhC]at hO lD ⊢;simp[gA,underlying32]at lD;obtain⟨kd,dv,ix,nm,⟨rn,rt,ra,rb,rf,wd⟩,⟨fn,fp,flo,fhi,fs⟩,⟨sn,sa,sb,sg⟩,⟨cn,ca,cb,cs,ct⟩⟩:=x;simp only[bZ,aU]at k1 hx hth;simp only[bZ,aU];refine aK.aG 48 h0 func80 (h:=?_);apply WL.tH Cp;apply SL.box (p:=.agg [.int .i64 kd,.int .i64 dv,.int .i64 ix,.str nm,.str rn,.str rt,.int .i64 ra,.int .i64 rb,.int .i64 rf,.slice (sz 1 wd) (wd.map i64.aB) .any,.str fn,.bool fp,.int .i64 flo,.int .i64 fhi,.slice (sz 4 fs) (fs.map Em.stop.aB) .any,.str sn,.int .i64 sa,.int .i64 sb,.slice (sz 3 sg) (sg.map Em.eZ.aB) .any,.str cn,.int .i64 ca,.int .i64 cb,.int .i64 cs,.bool ct]) (hw:=Wt.i rfl) (hx:=rfl) (hp:=rfl) (hr:=Ns.i rfl) (hn:=Ns.i rfl) (hf:=Fr.i rfl);apply SL.box (p:=.agg [.str o.name,hR,hD,hC]) (hw:=Wt.i rfl) (hx:=rfl) (hp:=Gz) (hr:=Ns.i rfl) (hn:=Ns.i rfl) (hf:=Fr.i rfl);refine oS lD ?_;apply SQ.nil
 by_cases c1:dv<0
 .refine aC (A4 h1 k1 lD c1) ?_;exact⟨_,_,rfl,⟨_,rfl⟩,.inl ⟨rfl,.inl c1⟩⟩
 by_cases c2:(o.aD.length:Int)<=dv
 .refine aC (A5 h1 k1 lD c1 c2) ?_;exact⟨_,_,rfl,⟨_,rfl⟩,.inl ⟨rfl,.inr c2⟩⟩
 obtain⟨d,rfl⟩:∃d:Nat,dv=d:=⟨dv.toNat,Cj⟩;have hi:d<o.aD.length:=Cj;have q1:(d:Int)<(o.aD.length:Int):=Cj;have hDr:hD=.aO iD 0 0 o.aD.length 5:=by rw[<-hhD];exact qF Cj
 have v2:∀L:List aA,(aS++L)[iD]?=some (.row 53 5 0 ds.flatten):=λL=>by
  have h:=(hO.row Cj).2;exact uq
 obtain⟨e1,e2⟩:=hO.at_ d hi;have gO:∀g∈ds,g.length=5:=λg h=>by
  exact ja
 have hat:=qX (sz:=5) ds d Jd gO;have hlen:=lF (sz:=5) ds gO;rw[(yA.1 e1).2]at hat;obtain⟨MP,hfs⟩:=gn (ds.flatten);rw[hfs]at v2 hlen hat;obtain⟨z,hz⟩:=gn (o.aD[d]);rw[hz]at hat e2;have fG:d*5+5<=MP.length:=Je;have xk:jD prog 32 hD (.int .i64 d)=some (.dG iD 0 (d*5)):=by
  rw[hDr];simp[jT,hi]
 obtain⟨hS,hhS⟩:=gn (Go.Kz.hd 4 (tS d) z.stops.length);have pS:hS.plain=true:=Gc;have cS:hS.cells=[hS]:=Gd;have lS:=z6 4 (tS d) z.stops.length underlying51;unfold PD.plain at pS;unfold PD.cells at cS;rw[hhS]at hat lS;simp[gA,underlying51]at lS;have f4:MP[d*5+4]?=some hS:=by
  have h:=yAL (λl=>l[4]?) hat;simp only[yAv,yBi]at h;rw[yAJ Cj]at h;exact h
 obtain⟨f5,f6⟩:=yA.1 f4;have r2:∀L:List aA,iD<(aS++L).length:=λL=>(yA.1 (v2 L)).1
 have y2:∀(L:List aA) (h:iD<(aS++L).length),(aS++L)[iD]=.row 53 5 0 MP:=λL h=>(yA.1 (v2 L)).2
 have r0:iD<aS.length:=(yA.1 (by have:=v2 [];rwa [yAl]at this)).1;have r1:iD<aS.length+2:=Cj;refine aC (A20 h1 k1 lD c1 c2 q1 hi xk @v2 r0 r1 r2 y2 fG @f4 @f5 @f6 pS cS lS) ?_;refine⟨_,_,rfl,⟨_,rfl⟩,.inr ⟨d,hi,rfl,?_⟩⟩;rw[hz];rfl
end
end Go.Kz
namespace Go.Kz
open Go Go.Proofs
section
def gX(x:cF):Int:=if x.kind<1\/13<x.kind then 12 else if mN (o7 x)then 0 else 7
def dW(x:cF):Prop:=gS x.aL/\gT x.frame/\jQ x.stop
noncomputable def CC:Nat->List PD->List aA->Option (PD×List aA):=entry (cK Em.edit i64 λx=>dY (dW x) (some (gX x)))
theorem I8{x:cF}(h:dW x)(fl:Nat)(σ:List aA):CC fl [Em.edit.aB x] σ=some (.int .i64 (gX x),σ):=by
 have e1:=Em.cT (Em.edit.str x);unfold CC entry cK;exact uc
def bP{α:Type}(l:List α)(way:Int)(i:Nat)(x:α):List α:=if way=0 then l.take i++x::l.drop i else if way=1 then l.take i++l.drop (i+1)else l.set i x
def wW(o:aV):Prop:=o.aR.length<=200/\o.aD.length<=200/\o.aP.length<=200/\∀d∈o.aD,d.stops.length<=200
def bA:PD:=.agg [.str [],.slice 0 [] .full,.slice 0 [] .full,.slice 0 [] .full]
def aW(R:TypeId->Prop)(σ σ':List aA):Prop:=∀(id:Nat) (t:TypeId) (n v:Nat) (cs:List PD),R t->σ[id]?=some (.row t n v cs)->σ'[id]?=some (.row t n v cs)
theorem aW.trans{R:TypeId->Prop}{σ τ ρ:Jp}(h:aW R σ τ)(k:aW R τ ρ):aW R σ ρ:=λid t n v cs hr hy=>k id t n v cs hr (h id t n v cs hr hy)
theorem aW.set{R:TypeId->Prop}{σ:Jp}{i:Nat}{b:PD}(hi:σ[i]?=some (.box b))(x:aA):aW R σ (σ.set i x):=λid t n v cs _ hy=>by
 by_cases e:id=i
 .rw[e,hi]at hy;cases hy
 .rw[yAd (yAU e)];exact hy
theorem aW.app(R:TypeId->Prop)(σ L:List aA):aW R σ (σ++L):=λid t n v cs _ hy=>by
 rw[yAg (yA.1 hy).1];exact hy
abbrev kM:TypeId->Prop:=λt=>t=48
abbrev kO:TypeId->Prop:=λt=>t=53\/t=56\/t=92\/t=89
abbrev jH:TypeId->Prop:=λt=>t=58
structure cO {α:Type} (em:Em α) (sz:Nat) (R:TypeId->Prop) (σ:List aA) (P:PD) (l:List α):Prop where
 plain:P.plain=true
 cells:P.cells=[P]
 bF:∀σ',aW R σ σ'->∀K,(Go.Kz.bF σ' (K+8) P).strip=(em.list sz).aB l/\(Go.Kz.bF σ' (K+8) P).bY=true
theorem cO.aM{α:Type}{em:Em α}{sz:Nat}{R:TypeId->Prop}{σ σ':Jp}{P:PD}{l:List α}(h:cO em sz R σ P l)(k:aW R σ σ'):cO em sz R σ' P l:=⟨h.plain,h.cells,λτ eC K=>h.bF τ (k.trans eC) K⟩
def bS:PD:=.agg [.str [],.slice 0 [] .full,.slice 0 [] .full,.slice 0 [] .full]
def GF(E:aE):Prop:=∀(σ:List aA) (on:List UInt8) (P1 P2 P3:PD) (rs:List bH) (dd:List bI) (cc:List bX),cO Em.aL 6 kM σ P1 rs->cO Em.div 5 kO σ P2 dd->cO Em.aZ 5 jH σ P3 cc->cL ⟨on,rs,dd,cc⟩->σ≠[] ->
 aK prog E 0 (.inl 79) [.agg [.str on,P1,P2,P3]] σ (λq σ'=>q=.aH [if bT ⟨on,rs,dd,cc⟩=0 then .agg [.str on,P1,P2,P3]else bS,.int .i64 (bT ⟨on,rs,dd,cc⟩)]/\∃L,σ'=σ++L)
def Y2(E:aE)(o0:List aA->PD->List bX->Prop):Prop:=∀(σ:List aA) (P:PD) (l:List bX) (way:Int) (i:Nat) (c:bX),o0 σ P l->(way=0/\i<=l.length\/(way=1\/way=2)/\i<l.length)->σ≠[] ->
 aK prog E 0 (.inl 87) [P,.int .i64 way,.int .i64 i,Em.aZ.aB c] σ (λQ σ'=>cO Em.aZ 5 jH σ' Q (bP l way i c)/\σ.length<=σ'.length/\∀(id:Nat) (y:aA),σ[id]?=some y->(∀n v cs,y≠.row 58 n v cs)->σ'[id]?=some y)
def ClnS(E1:aE):Prop:=∀(o:aV) (ho:eF o) (τ:List aA),aK prog E1 0 (.inl 41) [Em.bB.aB o] τ (λp σ'=>(∃iR iD iC ds tS tss tG tgs tW,iY σ' τ.length o p iR iD iC ds tS tss tG tgs tW)/\τ.length<=σ'.length/\∀id,id<τ.length->σ'[id]?=τ[id]?)
def lOz(A:List aA->PD->List bH->Prop)(B:List aA->PD->List bI->Prop)(C:List aA->PD->List bX->Prop):Prop:=∀(σ:List aA) (lo:Nat) (o:aV) (p:PD) (iR iD iC:Nat) (ds:List (List PD)) (tS:Nat->Nat) (tss:Nat->List (List PD)) (tG:Nat->Nat->Nat) (tgs:Nat->Nat->List (List PD)) (tW:Nat->Nat->Nat->Nat),iY σ lo o p iR iD iC ds tS tss tG tgs tW->3<=lo->wW o->A σ (Go.Kz.hd 6 iR o.aR.length) o.aR/\B σ (Go.Kz.hd 5 iD o.aD.length) o.aD/\C σ (Go.Kz.hd 5 iC o.aP.length) o.aP
variable{E E1 E2 E3 E4:aE}(hU:aJ E)
include hU
theorem aOk(h0:E 42=none)(h1:E 78=some CC)(h2:E 41=some (dI prog E1 41))
  (H2:ClnS E1)
  (h3:E 56=some sQ) (h4:E 80=some (dI prog E2 80)) (U2:aJ E2) (GI:E2 80=none) (GJ:E2 56=some sQ)
  {o0:List aA->PD->List bX->Prop} (h5:E 87=some (dI prog E3 87)) (H5:Y2 E3 o0) (h6:E 79=some (dI prog E4 79)) (H6:GF E4)
  (hIn:lOz (cO Em.aL 6 kM) (cO Em.div 5 kO) o0)
  (hKeep:∀(σ σ':List aA) (P:PD) (l:List bX),o0 σ P l->aW jH σ σ'->σ.length<=σ'.length->o0 σ' P l)
  (o:aV) (x:cF) (ho:eF o) (hsh:wW o) (hx:dW x) (hf:gX x=0) (hk:10<=x.kind/\x.kind<=12) (hokr:cL { o with aP:=bP o.aP ((x.kind-1)%3) x.idx.toNat x.aZ }) :
  aK prog E 0 (.inl 42) [Em.bB.aB o,Em.edit.aB x] [] (λp σ=>((x.idx<0\/(if (x.kind-1)%3=0 then(o.aP.length:Int)+1 else o.aP.length)<=x.idx)/\p=.aH [bA,.int .i64 10])\/(0<=x.idx/\¬(if (x.kind-1)%3=0 then(o.aP.length:Int)+1 else o.aP.length)<=x.idx/\∃P1 P2 P3,p=.aH [if bT { o with aP:=bP o.aP ((x.kind-1)%3) x.idx.toNat x.aZ }=0 then .agg [.str o.name,P1,P2,P3]else bS,.int .i64 (bT { o with aP:=bP o.aP ((x.kind-1)%3) x.idx.toNat x.aZ })]/\cO Em.aL 6 kM σ P1 o.aR/\cO Em.div 5 kO σ P2 o.aD/\cO Em.aZ 5 jH σ P3 (bP o.aP ((x.kind-1)%3) x.idx.toNat x.aZ))):=by
 have k1:=λfl σ=>I8 hx fl σ
 rw[hf]at k1;have k3:=λfl σ=>GK (x:=x) ⟨Cj,Cj⟩ fl σ
 have hth:(x.kind-1)/3=3:=Cj;rw[hth]at k3;obtain⟨wy,hwy⟩:=gn ((x.kind-1)%3);have iF:wy=0\/wy=1\/wy=2:=Cj;rw[hwy]at k3 hokr;rw[hwy];obtain⟨kd,dv,ix,nm,⟨rn,rt,ra,rb,rf,wd⟩,⟨fn,fp,flo,fhi,fs⟩,⟨sn,sa,sb,sg⟩,⟨cn,ca,cb,cs,ct⟩⟩:=x;obtain⟨on,rs,dd,cc⟩:=o;have k2:=(H2 ⟨on,rs,dd,cc⟩ ho [.box (Em.bB.aB ⟨on,rs,dd,cc⟩),.box (Em.edit.aB ⟨kd,dv,ix,nm,⟨rn,rt,ra,rb,rf,wd⟩,⟨fn,fp,flo,fhi,fs⟩,⟨sn,sa,sb,sg⟩,⟨cn,ca,cb,cs,ct⟩⟩),.box (.agg [.str [],.slice 0 [] .full,.slice 0 [] .full,.slice 0 [] .full])]).e0 Ck;obtain⟨p,σ1,k2,⟨iR,iD,iC,ds,tS,tss,tG,tgs,tW,hO⟩,hl1,hk1⟩:=k2;obtain⟨l1,l2,l3⟩:=hIn _ _ _ _ _ _ _ _ _ _ _ _ _ hO (yAk _) hsh;have hp:=hO.p;subst hp;have b0:=hk1 0 Ck;have b1:=hk1 1 Ck;have b2:=hk1 2 Ck;simp only[yBj,yBz]at b0 b1 b2;have k4:=(aOK U2 GI GJ on iR rs.length iD dd.length iC cc.length (σ1.set 0 (.box (.agg [.str on,Go.Kz.hd 6 iR rs.length,Go.Kz.hd 5 iD dd.length,Go.Kz.hd 5 iC cc.length]))) kd dv ix wy nm rn rt fn sn cn ra rb rf flo fhi sa sb ca cb cs fp ct (sz 1 wd) (sz 4 fs) (sz 3 sg) (wd.map i64.aB) (fs.map Em.stop.aB) (sg.map Em.eZ.aB) k3).e0 (λe=>by
  have:0<σ1.length:=(yA.1 b0).1;have h:=yAL List.length e;rw[yAD,yAO]at h;omega)
 obtain⟨_,σ2,k4,rfl,L2,bO⟩:=k4;obtain⟨hR,hhR⟩:=gn (Go.Kz.hd 6 iR rs.length);obtain⟨hD,hhD⟩:=gn (Go.Kz.hd 5 iD dd.length);obtain⟨hC,hhC⟩:=gn (Go.Kz.hd 5 iC cc.length);have pR:hR.plain=true:=Da;have pD:hD.plain=true:=Db;have pC:hC.plain=true:=Dc;have cR:hR.cells=[hR]:=Ee;have cD:hD.cells=[hD]:=Ef;have cC:hC.cells=[hC]:=Eg;unfold PD.plain at pR pD pC;unfold PD.cells at cR cD cC;simp only[hhR,hhD,hhC]at hO k2 k4 bO l1 l2 l3;simp only[bZ,dT,aU]at k1 k2 k3 b0 b1 b2 hk hth hwy;simp only[bZ,dT,aU];obtain⟨w0,z0⟩:=yA.1 b0;obtain⟨w1,z1⟩:=yA.1 b1;obtain⟨w2,z2⟩:=yA.1 b2;have hS:(σ1.set 0 (.box (.agg [.str on,hR,hD,hC]))).length=σ1.length:=yAD;have g0:σ2[0]?=some (.box (.agg [.str on,hR,hD,hC])):=by rw[bO,yAg Cj,yAj w0]
 have g1:=b1;rw[<-yAd (l:=σ1) (i:=0) (a:=.box (.agg [.str on,hR,hD,hC])) Cj,<-yAg (l₂:=L2) Cj,<-bO]at g1;have g2:=b2;rw[<-yAd (l:=σ1) (i:=0) (a:=.box (.agg [.str on,hR,hD,hC])) Cj,<-yAg (l₂:=L2) Cj,<-bO]at g2;obtain⟨v0,y0⟩:=yA.1 g0;obtain⟨v1,y1⟩:=yA.1 g1;obtain⟨v2,y2⟩:=yA.1 g2;have uH:¬kd=13:=Cj;refine aK.aG 132 h0 func42 (h:=?_);refine aC Br ?_;have hcl:cc.length<=1000000:=ho.2.2;rcases iF with rfl|rfl|rfl
 .by_cases i1:ix<0
  .exact bg
  by_cases i2:(cc.length:Int)+1<=ix
  .exact bf
  obtain⟨i,rfl⟩:∃i:Nat,ix=i:=⟨ix.toNat,Cj⟩;rw[yBp]at hokr ⊢;have rR:∀R,aW R σ1 σ2:=λR=>by
   exact sy
  have n2:σ2≠[]:=λe=>Cy
  have fZ:σ1.length<=σ2.length:=Dw;have k5:=(H5 σ2 hC cc 0 i ⟨cn,ca,cb,cs,ct⟩ (hKeep _ _ _ _ l3 (rR jH) fZ) (.inl ⟨rfl,Cj⟩) n2).e0 n2;obtain⟨Q,σ3,k5,lQ,rQ,eH⟩:=k5;have u0:=eH 0 _ g0 (λn v cs h=>Co);have u1:=eH 1 _ g1 (λn v cs h=>Co);have u2:=eH 2 _ g2 (λn v cs h=>Co);obtain⟨r0,x0⟩:=yA.1 u0;obtain⟨r1,x1⟩:=yA.1 u1;obtain⟨r2,x2⟩:=yA.1 u2;have pQ:=lQ.plain;have cQ:=lQ.cells;unfold PD.plain at pQ;unfold PD.cells at cQ;have D2:∀R:TypeId->Prop,(∀t,R t->t≠58)->aW R σ2 σ3:=λR hR id t n v cs hr hy=>eH id _ hy (λn v cs h=>Di)
  have kS:∀R,aW R σ3 (σ3.set 0 (.box (.agg [.str on,hR,hD,Q]))):=λR=>aW.set u0 _
  have m1:=((l1.aM (rR _)).aM (D2 _ (λt h=>Df))).aM (kS _);have m2:=((l2.aM (rR _)).aM (D2 _ (λt h=>Dn))).aM (kS _);have m3:=lQ.aM (kS _);have k6:=(H6 _ on hR hD Q rs dd _ m1 m2 m3 hokr (λe=>by
   have h:=yAL List.length e;rw[yAD,yAO]at h;omega)).e0 (λe=>by
   have h:=yAL List.length e;rw[yAD,yAO]at h;omega)
  obtain⟨q,eE,k6,rfl,L5,rfl⟩:=k6;simp only[CX]at k5;obtain⟨e,he⟩:=gn (bT ⟨on,rs,dd,bP cc 0 i ⟨cn,ca,cb,cs,ct⟩⟩);exact ah
 .by_cases i1:ix<0
  .exact bg
  by_cases i2:(cc.length:Int)<=ix
  .exact bf
  obtain⟨i,rfl⟩:∃i:Nat,ix=i:=⟨ix.toNat,Cj⟩;rw[yBp]at hokr ⊢;have rR:∀R,aW R σ1 σ2:=λR=>by
   exact sy
  have n2:σ2≠[]:=λe=>Cy
  have fZ:σ1.length<=σ2.length:=Dw;have k5:=(H5 σ2 hC cc 1 i ⟨cn,ca,cb,cs,ct⟩ (hKeep _ _ _ _ l3 (rR jH) fZ) (.inr ⟨.inl rfl,Cj⟩) n2).e0 n2;obtain⟨Q,σ3,k5,lQ,rQ,eH⟩:=k5;have u0:=eH 0 _ g0 (λn v cs h=>Co);have u1:=eH 1 _ g1 (λn v cs h=>Co);have u2:=eH 2 _ g2 (λn v cs h=>Co);obtain⟨r0,x0⟩:=yA.1 u0;obtain⟨r1,x1⟩:=yA.1 u1;obtain⟨r2,x2⟩:=yA.1 u2;have pQ:=lQ.plain;have cQ:=lQ.cells;unfold PD.plain at pQ;unfold PD.cells at cQ;have D2:∀R:TypeId->Prop,(∀t,R t->t≠58)->aW R σ2 σ3:=λR hR id t n v cs hr hy=>eH id _ hy (λn v cs h=>Di)
  have kS:∀R,aW R σ3 (σ3.set 0 (.box (.agg [.str on,hR,hD,Q]))):=λR=>aW.set u0 _
  have m1:=((l1.aM (rR _)).aM (D2 _ (λt h=>Df))).aM (kS _);have m2:=((l2.aM (rR _)).aM (D2 _ (λt h=>Dn))).aM (kS _);have m3:=lQ.aM (kS _);have k6:=(H6 _ on hR hD Q rs dd _ m1 m2 m3 hokr (λe=>by
   have h:=yAL List.length e;rw[yAD,yAO]at h;omega)).e0 (λe=>by
   have h:=yAL List.length e;rw[yAD,yAO]at h;omega)
  obtain⟨q,eE,k6,rfl,L5,rfl⟩:=k6;simp only[CX]at k5;obtain⟨e,he⟩:=gn (bT ⟨on,rs,dd,bP cc 1 i ⟨cn,ca,cb,cs,ct⟩⟩);exact ah
 .by_cases i1:ix<0
  .exact bg
  by_cases i2:(cc.length:Int)<=ix
  .exact bf
  obtain⟨i,rfl⟩:∃i:Nat,ix=i:=⟨ix.toNat,Cj⟩;rw[yBp]at hokr ⊢;have rR:∀R,aW R σ1 σ2:=λR=>by
   exact sy
  have n2:σ2≠[]:=λe=>Cy
  have fZ:σ1.length<=σ2.length:=Dw;have k5:=(H5 σ2 hC cc 2 i ⟨cn,ca,cb,cs,ct⟩ (hKeep _ _ _ _ l3 (rR jH) fZ) (.inr ⟨.inr rfl,Cj⟩) n2).e0 n2;obtain⟨Q,σ3,k5,lQ,rQ,eH⟩:=k5;have u0:=eH 0 _ g0 (λn v cs h=>Co);have u1:=eH 1 _ g1 (λn v cs h=>Co);have u2:=eH 2 _ g2 (λn v cs h=>Co);obtain⟨r0,x0⟩:=yA.1 u0;obtain⟨r1,x1⟩:=yA.1 u1;obtain⟨r2,x2⟩:=yA.1 u2;have pQ:=lQ.plain;have cQ:=lQ.cells;unfold PD.plain at pQ;unfold PD.cells at cQ;have D2:∀R:TypeId->Prop,(∀t,R t->t≠58)->aW R σ2 σ3:=λR hR id t n v cs hr hy=>eH id _ hy (λn v cs h=>Di)
  have kS:∀R,aW R σ3 (σ3.set 0 (.box (.agg [.str on,hR,hD,Q]))):=λR=>aW.set u0 _
  have m1:=((l1.aM (rR _)).aM (D2 _ (λt h=>Df))).aM (kS _);have m2:=((l2.aM (rR _)).aM (D2 _ (λt h=>Dn))).aM (kS _);have m3:=lQ.aM (kS _);have k6:=(H6 _ on hR hD Q rs dd _ m1 m2 m3 hokr (λe=>by
   have h:=yAL List.length e;rw[yAD,yAO]at h;omega)).e0 (λe=>by
   have h:=yAL List.length e;rw[yAD,yAO]at h;omega)
  obtain⟨q,eE,k6,rfl,L5,rfl⟩:=k6;simp only[CX]at k5;obtain⟨e,he⟩:=gn (bT ⟨on,rs,dd,bP cc 2 i ⟨cn,ca,cb,cs,ct⟩⟩);exact ah
end
section
theorem iY.aM{σ σ':Jp}{lo:Nat}{o:aV}{p:PD}{iR iD iC:Nat}{ds:Jn}{tS:Nat->Nat}{tss:Jm}{tG:Nat->Nat->Nat}{tgs:Jl}{tW:Nat->Nat->Nat->Nat}(h:iY σ lo o p iR iD iC ds tS tss tG tgs tW)(hk:∀(id:Nat) (x:aA),lo<=id->σ[id]?=some x->σ'[id]?=some x):iY σ' lo o p iR iD iC ds tS tss tG tgs tW:=
 { h with aL:=λq=>⟨(h.aL q).1,hk _ _ (h.aL q).1 (h.aL q).2⟩,aZ:=λq=>⟨(h.aZ q).1,hk _ _ (h.aZ q).1 (h.aZ q).2⟩,row:=λq=>⟨(h.row q).1,hk _ _ (h.row q).1 (h.row q).2⟩,at_:=λd hd=>⟨(h.at_ d hd).1,(h.at_ d hd).2.aM (yAk _) hk⟩ }
theorem ZG{o:aV}(h:wW o)(w i:Int):wW (jF w i o):=⟨h.1,by show(o.aD.map _).length<=200;rw[yAe];exact h.2.1,h.2.2.1,λd hd=>by
 obtain⟨t,ht,rfl⟩:=yAw.1 hd;show(t.stops.map _).length<=200
 rw[yAe];exact h.2.2.2 t ht⟩
def zX(g:Nat->List PD->List aA->Option (PD×List aA)):Nat->List PD->List aA->Option (PD×List aA):=λfl args σ=>if fl=0/\σ≠[]then g fl args σ else none
theorem ZH(g:Nat->List PD->List aA->Option (PD×List aA)):∀fl args σ,0<fl->zX g fl args σ=none:=λfl args σ h=>by
 unfold zX;rw[yAI (λh=>Cj)]
theorem aNW{E:aE}(hU:aJ E){f:FuncId}(g:Nat->List PD->List aA->Option (PD×List aA)):aJ (E.add f (zX g)):=hU.other λargs p h=>by
 unfold zX at h;rw[yAI (λh=>h.2 rfl)]at h;cases h
def Y4(E:aE):Prop:=∀(way index:Int) (o:aV) (p:PD) (aS:List aA) (lo iR iD iC:Nat) (ds:List (List PD)) (tS:Nat->Nat) (tss:Nat->List (List PD)) (tG:Nat->Nat->Nat) (tgs:Nat->Nat->List (List PD)) (tW:Nat->Nat->Nat->Nat),iY aS lo o p iR iD iC ds tS tss tG tgs tW->lo<=aS.length->eF o ->
    (∀d∈o.aD,∀s∈d.stops,∀g∈s.aN,∀w∈g.aQ,-1000000000<=w.aL/\w.aL<=1000000000)->(-1000000000<=way/\way<=1000000000) ->
    aK prog E 0 (.inl 81) [p,.int .i64 way,.int .i64 index] aS (λq σ'=>∃b:Bool,q=.bool b/\(b=true->xP way index o/\iY σ' lo (jF way index o) p iR iD iC ds tS tss tG tgs tW/\aS.length<=σ'.length/\∀id,id<lo->σ'[id]?=aS[id]?)/\(b=false->¬xP way index o/\aS.length<=σ'.length/\∀id,id<lo->σ'[id]?=aS[id]?))
def Y0(E:aE)(qC:List aA->PD->List bH->Prop):Prop:=∀(σ:List aA) (P:PD) (l:List bH) (way:Int) (i:Nat) (c:bH),qC σ P l->gS c->(way=0/\i<=l.length\/(way=1\/way=2)/\i<l.length)->σ≠[] ->
 aK prog E 0 (.inl 82) [P,.int .i64 way,.int .i64 i,Em.aL.aB c] σ (λQ σ'=>cO Em.aL 6 kM σ' Q (bP l way i c)/\σ.length<=σ'.length/\∀(id:Nat) (y:aA),σ[id]?=some y->(∀n v cs,y≠.row 48 n v cs)->σ'[id]?=some y)
variable{E E1 E2 E3 E4 E5:aE}(hU:aJ E)
include hU
theorem aOh(h0:E 42=none)(h1:E 78=some CC)(h2:E 41=some (dI prog E1 41))
  (H2:ClnS E1)
  (h3:E 56=some sQ) (h4:E 80=some (dI prog E2 80)) (U2:aJ E2) (GI:E2 80=none) (GJ:E2 56=some sQ)
  {qC:List aA->PD->List bH->Prop} (h5:E 82=some (dI prog E3 82)) (H5:Y0 E3 qC) (h7:E 81=some (dI prog E5 81)) (H7:Y4 E5) (h8:E 76=some (zX (entry (cK Em.aL Em.aL λr=>dY (gS r) (some r))))) (h6:E 79=some (dI prog E4 79)) (H6:GF E4)
  (hIn:lOz qC (cO Em.div 5 kO) (cO Em.aZ 5 jH))
  (o:aV) (x:cF) (ho:eF o) (hsh:wW o) (hx:dW x) (hf:gX x=0) (hk:1<=x.kind/\x.kind<=3) (hwr:∀d∈o.aD,∀s∈d.stops,∀g∈s.aN,∀w∈g.aQ,-1000000000<=w.aL/\w.aL<=1000000000) (hokr:xP ((x.kind-1)%3) x.idx o->cL { jF ((x.kind-1)%3) x.idx o with aR:=bP o.aR ((x.kind-1)%3) x.idx.toNat x.aL }) :
  aK prog E 0 (.inl 42) [Em.bB.aB o,Em.edit.aB x] [] (λp σ=>((x.idx<0\/(if (x.kind-1)%3=0 then(o.aR.length:Int)+1 else o.aR.length)<=x.idx)/\p=.aH [bA,.int .i64 10])\/(¬xP ((x.kind-1)%3) x.idx o/\0<=x.idx/\¬(if (x.kind-1)%3=0 then(o.aR.length:Int)+1 else o.aR.length)<=x.idx/\p=.aH [bA,.int .i64 14])\/(xP ((x.kind-1)%3) x.idx o/\0<=x.idx/\¬(if (x.kind-1)%3=0 then(o.aR.length:Int)+1 else o.aR.length)<=x.idx/\∃P1 P2 P3,p=.aH [if bT { jF ((x.kind-1)%3) x.idx o with aR:=bP o.aR ((x.kind-1)%3) x.idx.toNat x.aL }=0 then .agg [.str o.name,P1,P2,P3]else bS,.int .i64 (bT { jF ((x.kind-1)%3) x.idx o with aR:=bP o.aR ((x.kind-1)%3) x.idx.toNat x.aL })]/\cO Em.aL 6 kM σ P1 (bP o.aR ((x.kind-1)%3) x.idx.toNat x.aL)/\cO Em.div 5 kO σ P2 (o.aD.map (sN ((x.kind-1)%3) x.idx))/\cO Em.aZ 5 jH σ P3 o.aP)):=by
 have k1:=λfl σ=>I8 hx fl σ
 rw[hf]at k1;have k3:=λfl σ=>GK (x:=x) ⟨Cj,Cj⟩ fl σ
 have hth:(x.kind-1)/3=0:=Cj;rw[hth]at k3;obtain⟨wy,hwy⟩:=gn ((x.kind-1)%3);have iF:wy=0\/wy=1\/wy=2:=Cj;rw[hwy]at k3 hokr;rw[hwy];obtain⟨kd,dv,ix,nm,⟨rn,rt,ra,rb,rf,wd⟩,⟨fn,fp,flo,fhi,fs⟩,⟨sn,sa,sb,sg⟩,⟨cn,ca,cb,cs,ct⟩⟩:=x;obtain⟨on,rs,dd,cc⟩:=o;have k2:=(H2 ⟨on,rs,dd,cc⟩ ho [.box (Em.bB.aB ⟨on,rs,dd,cc⟩),.box (Em.edit.aB ⟨kd,dv,ix,nm,⟨rn,rt,ra,rb,rf,wd⟩,⟨fn,fp,flo,fhi,fs⟩,⟨sn,sa,sb,sg⟩,⟨cn,ca,cb,cs,ct⟩⟩),.box (.agg [.str [],.slice 0 [] .full,.slice 0 [] .full,.slice 0 [] .full])]).e0 Ck;obtain⟨p,σ1,k2,⟨iR,iD,iC,ds,tS,tss,tG,tgs,tW,hO⟩,hl1,hk1⟩:=k2;have hp:=hO.p;subst hp;have b0:=hk1 0 Ck;have b1:=hk1 1 Ck;have b2:=hk1 2 Ck;simp only[yBj,yBz]at b0 b1 b2;have k4:=(aOJ U2 GI GJ on iR rs.length iD dd.length iC cc.length (σ1.set 0 (.box (.agg [.str on,Go.Kz.hd 6 iR rs.length,Go.Kz.hd 5 iD dd.length,Go.Kz.hd 5 iC cc.length]))) kd dv ix wy nm rn rt fn sn cn ra rb rf flo fhi sa sb ca cb cs fp ct (sz 1 wd) (sz 4 fs) (sz 3 sg) (wd.map i64.aB) (fs.map Em.stop.aB) (sg.map Em.eZ.aB) k3).e0 (λe=>by
  have:0<σ1.length:=(yA.1 b0).1;have h:=yAL List.length e;rw[yAD,yAO]at h;omega)
 obtain⟨_,σ2,k4,rfl,L2,bO⟩:=k4;obtain⟨hR,hhR⟩:=gn (Go.Kz.hd 6 iR rs.length);obtain⟨hD,hhD⟩:=gn (Go.Kz.hd 5 iD dd.length);obtain⟨hC,hhC⟩:=gn (Go.Kz.hd 5 iC cc.length);have pR:hR.plain=true:=Da;have pD:hD.plain=true:=Db;have pC:hC.plain=true:=Dc;have cR:hR.cells=[hR]:=Ee;have cD:hD.cells=[hD]:=Ef;have cC:hC.cells=[hC]:=Eg;unfold PD.plain at pR pD pC;unfold PD.cells at cR cD cC;simp only[hhR,hhD,hhC]at hO k2 k4 bO;simp only[bZ,dT,aU]at k1 k2 k3 b0 b1 b2 hk hth hwy;simp only[bZ,dT,aU];obtain⟨w0,z0⟩:=yA.1 b0;obtain⟨w1,z1⟩:=yA.1 b1;obtain⟨w2,z2⟩:=yA.1 b2;have hS:(σ1.set 0 (.box (.agg [.str on,hR,hD,hC]))).length=σ1.length:=yAD;have g0:σ2[0]?=some (.box (.agg [.str on,hR,hD,hC])):=by rw[bO,yAg Cj,yAj w0]
 have g1:=b1;rw[<-yAd (l:=σ1) (i:=0) (a:=.box (.agg [.str on,hR,hD,hC])) Cj,<-yAg (l₂:=L2) Cj,<-bO]at g1;have g2:=b2;rw[<-yAd (l:=σ1) (i:=0) (a:=.box (.agg [.str on,hR,hD,hC])) Cj,<-yAg (l₂:=L2) Cj,<-bO]at g2;obtain⟨v0,y0⟩:=yA.1 g0;obtain⟨v1,y1⟩:=yA.1 g1;obtain⟨v2,y2⟩:=yA.1 g2;have uH:¬kd=13:=Cj;clear hU;refine aK.aG 132 h0 func42 (h:=?_);refine aC Br ?_;have hcl:rs.length<=1000000:=ho.1.1;rcases iF with rfl|rfl|rfl
 .by_cases i1:ix<0
  .exact bg
  by_cases i2:(rs.length:Int)+1<=ix
  .exact bf
  obtain⟨i,rfl⟩:∃i:Nat,ix=i:=⟨ix.toNat,Cj⟩;rw[yBp]at hokr ⊢;have n2:σ2≠[]:=λe=>Cy
  have fZ:σ1.length<=σ2.length:=Dw;have eL:iY σ2 3 ⟨on,rs,dd,cc⟩ (.agg [.str on,hR,hD,hC]) iR iD iC ds tS tss tG tgs tW:=by
   exact bz
  have k7:=(H7 0 i _ _ _ _ _ _ _ _ _ _ _ _ _ eL (yAQ Fb fZ) ho hwr Cj).e0 n2;obtain⟨q7,σ3,k7,b,rfl,hbt,hbf⟩:=k7;cases b with
  |false=>
   exact au
  |true=>
  obtain⟨ow,qH,rQ,eH⟩:=hbt rfl;have u0:=(eH 0 Cj).trans g0;have u1:=(eH 1 Cj).trans g1;have u2:=(eH 2 Cj).trans g2;obtain⟨r0,x0⟩:=yA.1 u0;obtain⟨r1,x1⟩:=yA.1 u1;obtain⟨r2,x2⟩:=yA.1 u2;refine aC Bo ?_;obtain⟨l1,l2,l3⟩:=hIn _ _ _ _ _ _ _ _ _ _ _ _ _ qH (yAk _) (ZG hsh _ _);simp only[jF]at l1 l2 l3;rw[yAe]at l2;simp only[hhR,hhD,hhC]at l1 l2 l3;have n3:σ3≠[]:=λe=>Dv
  have k5:=(H5 σ3 hR rs 0 i ⟨rn,rt,ra,rb,rf,wd⟩ l1 hx.1 (.inl ⟨rfl,Cj⟩) n3).e0 n3;obtain⟨Q,bR,k5,lQ,jI,bU⟩:=k5;have s0:=bU 0 _ u0 (λn v cs h=>Co);have s1:=bU 1 _ u1 (λn v cs h=>Co);have s2:=bU 2 _ u2 (λn v cs h=>Co);obtain⟨f0,d0⟩:=yA.1 s0;obtain⟨f1,d1⟩:=yA.1 s1;obtain⟨f2,d2⟩:=yA.1 s2;have pQ:=lQ.plain;have cQ:=lQ.cells;unfold PD.plain at pQ;unfold PD.cells at cQ;have o4:=pT (B:=[0,1]) h5 k5 jI (λid hi h=>by
   simp only[yBn,yBN,yBO]at hi;rcases hi with rfl|rfl
   .rw[s0,u0]
   .rw[s1,u1])
  have k8:uN E [0,1] 0 (.inl 76) [Em.aL.aB ⟨rn,rt,ra,rb,rf,wd⟩] σ3=some (Em.aL.aB ⟨rn,rt,ra,rb,rf,wd⟩,σ3):=pT h8 (by
   have e1:=Em.cT (Em.aL.str (⟨rn,rt,ra,rb,rf,wd⟩:bH));unfold zX entry cK;rw[yAJ ⟨rfl,n3⟩];simp only[e1,fM (show gS ⟨rn,rt,ra,rb,rf,wd⟩from hx.1)]) (yAk _) (λ_ _ _=>rfl)
  simp only[oB,aU]at o4 k8;refine Wp.D1 h8 (ZH _) n3 [(2,0),(3,1)] [0,1] [some 0,some 1] Cp ⟨⟨_,rfl⟩,⟨_,rfl⟩,trivial⟩ Cp Ek ?_;refine oS Bt ?_;apply SQ.nil;have qZ:∀R:TypeId->Prop,(∀t,R t->t≠48)->aW R σ3 bR:=λR hR id t n v cs hr hy=>bU id _ hy (λn v cs h=>Di)
  have kS:∀R,aW R bR (bR.set 0 (.box (.agg [.str on,Q,hD,hC]))):=λR=>aW.set s0 _
  have m1:=lQ.aM (kS _);have m2:=(l2.aM (qZ _ (λt h=>Dn))).aM (kS _);have m3:=(l3.aM (qZ _ (λt h=>Df))).aM (kS _);have o6:=hokr ow;simp only[jF]at o6 ⊢;have n4:bR.set 0 (.box (.agg [.str on,Q,hD,hC]))≠[]:=λe=>by
   exact gu
  have k6:=(H6 _ on Q hD hC _ _ cc m1 m2 m3 o6 n4).e0 n4;obtain⟨q,eE,k6,rfl,L5,rfl⟩:=k6;obtain⟨e,he⟩:=gn (bT ⟨on,bP rs 0 i ⟨rn,rt,ra,rb,rf,wd⟩,dd.map (sN 0 i),cc⟩);exact ai
 .by_cases i1:ix<0
  .exact bg
  by_cases i2:(rs.length:Int)<=ix
  .exact bf
  obtain⟨i,rfl⟩:∃i:Nat,ix=i:=⟨ix.toNat,Cj⟩;rw[yBp]at hokr ⊢;have n2:σ2≠[]:=λe=>Cy
  have fZ:σ1.length<=σ2.length:=Dw;have eL:iY σ2 3 ⟨on,rs,dd,cc⟩ (.agg [.str on,hR,hD,hC]) iR iD iC ds tS tss tG tgs tW:=by
   exact bz
  have k7:=(H7 1 i _ _ _ _ _ _ _ _ _ _ _ _ _ eL (yAQ Fb fZ) ho hwr Cj).e0 n2;obtain⟨q7,σ3,k7,b,rfl,hbt,hbf⟩:=k7;cases b with
  |false=>
   exact au
  |true=>
  obtain⟨ow,qH,rQ,eH⟩:=hbt rfl;have u0:=(eH 0 Cj).trans g0;have u1:=(eH 1 Cj).trans g1;have u2:=(eH 2 Cj).trans g2;obtain⟨r0,x0⟩:=yA.1 u0;obtain⟨r1,x1⟩:=yA.1 u1;obtain⟨r2,x2⟩:=yA.1 u2;refine aC Bo ?_;obtain⟨l1,l2,l3⟩:=hIn _ _ _ _ _ _ _ _ _ _ _ _ _ qH (yAk _) (ZG hsh _ _);simp only[jF]at l1 l2 l3;rw[yAe]at l2;simp only[hhR,hhD,hhC]at l1 l2 l3;have n3:σ3≠[]:=λe=>Dv
  have k5:=(H5 σ3 hR rs 1 i ⟨rn,rt,ra,rb,rf,wd⟩ l1 hx.1 (.inr ⟨.inl rfl,Cj⟩) n3).e0 n3;obtain⟨Q,bR,k5,lQ,jI,bU⟩:=k5;have s0:=bU 0 _ u0 (λn v cs h=>Co);have s1:=bU 1 _ u1 (λn v cs h=>Co);have s2:=bU 2 _ u2 (λn v cs h=>Co);obtain⟨f0,d0⟩:=yA.1 s0;obtain⟨f1,d1⟩:=yA.1 s1;obtain⟨f2,d2⟩:=yA.1 s2;have pQ:=lQ.plain;have cQ:=lQ.cells;unfold PD.plain at pQ;unfold PD.cells at cQ;have o4:=pT (B:=[0,1]) h5 k5 jI (λid hi h=>by
   simp only[yBn,yBN,yBO]at hi;rcases hi with rfl|rfl
   .rw[s0,u0]
   .rw[s1,u1])
  have k8:uN E [0,1] 0 (.inl 76) [Em.aL.aB ⟨rn,rt,ra,rb,rf,wd⟩] σ3=some (Em.aL.aB ⟨rn,rt,ra,rb,rf,wd⟩,σ3):=pT h8 (by
   have e1:=Em.cT (Em.aL.str (⟨rn,rt,ra,rb,rf,wd⟩:bH));unfold zX entry cK;rw[yAJ ⟨rfl,n3⟩];simp only[e1,fM (show gS ⟨rn,rt,ra,rb,rf,wd⟩from hx.1)]) (yAk _) (λ_ _ _=>rfl)
  simp only[oB,aU]at o4 k8;refine Wp.D1 h8 (ZH _) n3 [(2,0),(3,1)] [0,1] [some 0,some 1] Cp ⟨⟨_,rfl⟩,⟨_,rfl⟩,trivial⟩ Cp Ek ?_;refine oS Bt ?_;apply SQ.nil;have qZ:∀R:TypeId->Prop,(∀t,R t->t≠48)->aW R σ3 bR:=λR hR id t n v cs hr hy=>bU id _ hy (λn v cs h=>Di)
  have kS:∀R,aW R bR (bR.set 0 (.box (.agg [.str on,Q,hD,hC]))):=λR=>aW.set s0 _
  have m1:=lQ.aM (kS _);have m2:=(l2.aM (qZ _ (λt h=>Dn))).aM (kS _);have m3:=(l3.aM (qZ _ (λt h=>Df))).aM (kS _);have o6:=hokr ow;simp only[jF]at o6 ⊢;have n4:bR.set 0 (.box (.agg [.str on,Q,hD,hC]))≠[]:=λe=>by
   exact gu
  have k6:=(H6 _ on Q hD hC _ _ cc m1 m2 m3 o6 n4).e0 n4;obtain⟨q,eE,k6,rfl,L5,rfl⟩:=k6;obtain⟨e,he⟩:=gn (bT ⟨on,bP rs 1 i ⟨rn,rt,ra,rb,rf,wd⟩,dd.map (sN 1 i),cc⟩);exact ai
 .by_cases i1:ix<0
  .exact bg
  by_cases i2:(rs.length:Int)<=ix
  .exact bf
  obtain⟨i,rfl⟩:∃i:Nat,ix=i:=⟨ix.toNat,Cj⟩;rw[yBp]at hokr ⊢;have n2:σ2≠[]:=λe=>Cy
  have fZ:σ1.length<=σ2.length:=Dw;have eL:iY σ2 3 ⟨on,rs,dd,cc⟩ (.agg [.str on,hR,hD,hC]) iR iD iC ds tS tss tG tgs tW:=by
   exact bz
  have k7:=(H7 2 i _ _ _ _ _ _ _ _ _ _ _ _ _ eL (yAQ Fb fZ) ho hwr Cj).e0 n2;obtain⟨q7,σ3,k7,b,rfl,hbt,hbf⟩:=k7;cases b with
  |false=>
   exact au
  |true=>
  obtain⟨ow,qH,rQ,eH⟩:=hbt rfl;have u0:=(eH 0 Cj).trans g0;have u1:=(eH 1 Cj).trans g1;have u2:=(eH 2 Cj).trans g2;obtain⟨r0,x0⟩:=yA.1 u0;obtain⟨r1,x1⟩:=yA.1 u1;obtain⟨r2,x2⟩:=yA.1 u2;refine aC Bo ?_;obtain⟨l1,l2,l3⟩:=hIn _ _ _ _ _ _ _ _ _ _ _ _ _ qH (yAk _) (ZG hsh _ _);simp only[jF]at l1 l2 l3;rw[yAe]at l2;simp only[hhR,hhD,hhC]at l1 l2 l3;have n3:σ3≠[]:=λe=>Dv
  have k5:=(H5 σ3 hR rs 2 i ⟨rn,rt,ra,rb,rf,wd⟩ l1 hx.1 (.inr ⟨.inr rfl,Cj⟩) n3).e0 n3;obtain⟨Q,bR,k5,lQ,jI,bU⟩:=k5;have s0:=bU 0 _ u0 (λn v cs h=>Co);have s1:=bU 1 _ u1 (λn v cs h=>Co);have s2:=bU 2 _ u2 (λn v cs h=>Co);obtain⟨f0,d0⟩:=yA.1 s0;obtain⟨f1,d1⟩:=yA.1 s1;obtain⟨f2,d2⟩:=yA.1 s2;have pQ:=lQ.plain;have cQ:=lQ.cells;unfold PD.plain at pQ;unfold PD.cells at cQ;have o4:=pT (B:=[0,1]) h5 k5 jI (λid hi h=>by
   simp only[yBn,yBN,yBO]at hi;rcases hi with rfl|rfl
   .rw[s0,u0]
   .rw[s1,u1])
  have k8:uN E [0,1] 0 (.inl 76) [Em.aL.aB ⟨rn,rt,ra,rb,rf,wd⟩] σ3=some (Em.aL.aB ⟨rn,rt,ra,rb,rf,wd⟩,σ3):=pT h8 (by
   have e1:=Em.cT (Em.aL.str (⟨rn,rt,ra,rb,rf,wd⟩:bH));unfold zX entry cK;rw[yAJ ⟨rfl,n3⟩];simp only[e1,fM (show gS ⟨rn,rt,ra,rb,rf,wd⟩from hx.1)]) (yAk _) (λ_ _ _=>rfl)
  simp only[oB,aU]at o4 k8;refine Wp.D1 h8 (ZH _) n3 [(2,0),(3,1)] [0,1] [some 0,some 1] Cp ⟨⟨_,rfl⟩,⟨_,rfl⟩,trivial⟩ Cp Ek ?_;refine oS Bt ?_;apply SQ.nil;have qZ:∀R:TypeId->Prop,(∀t,R t->t≠48)->aW R σ3 bR:=λR hR id t n v cs hr hy=>bU id _ hy (λn v cs h=>Di)
  have kS:∀R,aW R bR (bR.set 0 (.box (.agg [.str on,Q,hD,hC]))):=λR=>aW.set s0 _
  have m1:=lQ.aM (kS _);have m2:=(l2.aM (qZ _ (λt h=>Dn))).aM (kS _);have m3:=(l3.aM (qZ _ (λt h=>Df))).aM (kS _);have o6:=hokr ow;simp only[jF]at o6 ⊢;have n4:bR.set 0 (.box (.agg [.str on,Q,hD,hC]))≠[]:=λe=>by
   exact gu
  have k6:=(H6 _ on Q hD hC _ _ cc m1 m2 m3 o6 n4).e0 n4;obtain⟨q,eE,k6,rfl,L5,rfl⟩:=k6;obtain⟨e,he⟩:=gn (bT ⟨on,bP rs 2 i ⟨rn,rt,ra,rb,rf,wd⟩,dd.map (sN 2 i),cc⟩);exact ai
end
section
variable{E E1 E2 E3 E4:aE}(hU:aJ E)
include hU
theorem aOg(h0:E 42=none)(h1:E 78=some CC)(h2:E 41=some (dI prog E1 41))
  (H2:ClnS E1)
  (h6:E 79=some (dI prog E4 79)) (H6:GF E4)
  (hIn:lOz (cO Em.aL 6 kM) (cO Em.div 5 kO) (cO Em.aZ 5 jH))
  (o:aV) (x:cF) (ho:eF o) (hsh:wW o) (hx:dW x) (hf:gX x=0) (hk:x.kind=13) (hokr:cL { o with name:=x.name }) :
  aK prog E 0 (.inl 42) [Em.bB.aB o,Em.edit.aB x] [] (λp σ=>∃P1 P2 P3,p=.aH [if bT { o with name:=x.name }=0 then .agg [.str x.name,P1,P2,P3]else bS,.int .i64 (bT { o with name:=x.name })]/\cO Em.aL 6 kM σ P1 o.aR/\cO Em.div 5 kO σ P2 o.aD/\cO Em.aZ 5 jH σ P3 o.aP):=by
 have k1:=λfl σ=>I8 hx fl σ
 rw[hf]at k1;obtain⟨kd,dv,ix,nm,⟨rn,rt,ra,rb,rf,wd⟩,⟨fn,fp,flo,fhi,fs⟩,⟨sn,sa,sb,sg⟩,⟨cn,ca,cb,cs,ct⟩⟩:=x;obtain⟨on,rs,dd,cc⟩:=o;have k2:=(H2 ⟨on,rs,dd,cc⟩ ho [.box (Em.bB.aB ⟨on,rs,dd,cc⟩),.box (Em.edit.aB ⟨kd,dv,ix,nm,⟨rn,rt,ra,rb,rf,wd⟩,⟨fn,fp,flo,fhi,fs⟩,⟨sn,sa,sb,sg⟩,⟨cn,ca,cb,cs,ct⟩⟩),.box (.agg [.str [],.slice 0 [] .full,.slice 0 [] .full,.slice 0 [] .full])]).e0 Ck;obtain⟨p,σ1,k2,⟨iR,iD,iC,ds,tS,tss,tG,tgs,tW,hO⟩,hl1,hk1⟩:=k2;obtain⟨l1,l2,l3⟩:=hIn _ _ _ _ _ _ _ _ _ _ _ _ _ hO (yAk _) hsh;have hp:=hO.p;subst hp;have b0:=hk1 0 Ck;have b1:=hk1 1 Ck;have b2:=hk1 2 Ck;simp only[yBj,yBz]at b0 b1 b2;obtain⟨hR,hhR⟩:=gn (Go.Kz.hd 6 iR rs.length);obtain⟨hD,hhD⟩:=gn (Go.Kz.hd 5 iD dd.length);obtain⟨hC,hhC⟩:=gn (Go.Kz.hd 5 iC cc.length);have pR:hR.plain=true:=Da;have pD:hD.plain=true:=Db;have pC:hC.plain=true:=Dc;have cR:hR.cells=[hR]:=Ee;have cD:hD.cells=[hD]:=Ef;have cC:hC.cells=[hC]:=Eg;unfold PD.plain at pR pD pC;unfold PD.cells at cR cD cC;simp only[hhR,hhD,hhC]at hO k2 l1 l2 l3;simp only[bZ,dT,aU]at k1 k2 b0 b1 b2 hk;simp only[bZ,dT,aU];obtain⟨w0,z0⟩:=yA.1 b0;obtain⟨w1,z1⟩:=yA.1 b1;obtain⟨w2,z2⟩:=yA.1 b2;subst hk;obtain⟨σ2,bO⟩:=gn ((σ1.set 0 (.box (.agg [.str on,hR,hD,hC]))).set 0 (.box (.agg [.str nm,hR,hD,hC])));have kS:∀R,aW R σ1 σ2:=λR=>by
  rw[<-bO];exact(aW.set b0 _).trans (aW.set (yAj w0) _)
 have m1:=l1.aM (kS _);have m2:=l2.aM (kS _);have m3:=l3.aM (kS _);have fZ:σ2.length=σ1.length:=by rw[<-bO,yAD,yAD]
 have n2:σ2≠[]:=λe=>by rw[e]at fZ;rw[<-fZ]at w0;exact absurd w0 (yAZ _)
 have k6:=(H6 _ nm hR hD hC _ _ _ m1 m2 m3 hokr n2).e0 n2;obtain⟨q,eE,k6,rfl,L5,rfl⟩:=k6;obtain⟨e,he⟩:=gn (bT ⟨nm,rs,dd,cc⟩);simp only at hokr ⊢;rw[he]at k6;simp only[he];have t2:(σ2++L5)[2]?=some (.box bS):=by
  rw[yAg Cj,<-bO,yAd Cj,yAd Cj];exact b2
 have kE:∀R X,aW R σ2 ((σ2++L5).set 2 X):=λR X=>(aW.app R σ2 L5).trans (aW.set t2 X)
 have a0:σ2[0]?=some (.box (.agg [.str nm,hR,hD,hC])):=by rw[<-bO,yAj (by rw[yAD];exact w0)]
 obtain⟨a1,a2⟩:=yA.1 a0;obtain⟨Z,hZ⟩:=gn (σ2++L5);rw[hZ]at k6 t2;simp only[hZ]at kE;unfold bS at t2;obtain⟨t3,t4⟩:=yA.1 t2;have c1:(σ1.set 0 (.box (.agg [.str on,hR,hD,hC])))[1]?=_:=(yAd Cj).trans b1;obtain⟨c2,c3⟩:=yA.1 c1;refine aK.aG 132 h0 func42 (h:=?_)
 by_cases hz:e=0
 .subst hz;rw[yAJ rfl]at k6;refine aC Cb ?_;refine⟨.aH [.agg [.str nm,hR,hD,hC],.int .i64 0],Z.set 2 (.box (.agg [.str nm,hR,hD,hC])),?_,hR,hD,hC,rfl,m1.aM (kE _ _),m2.aM (kE _ _),m3.aM (kE _ _)⟩;simp[bQ,t3]
 .rw[yAI hz]at k6;unfold bS at k6;refine aC Cb ?_;refine⟨.aH [bS,.int .i64 e],Z.set 2 (.box bS),?_,hR,hD,hC,Gg,m1.aM (kE _ _),m2.aM (kE _ _),m3.aM (kE _ _)⟩;simp[bQ,t3,bS]
theorem aOf(h0:E 42=none)(h1:E 78=some CC)(o:aV)(x:cF)(hx:dW x)(hf:gX x≠0) :
  aK prog E 0 (.inl 42) [Em.bB.aB o,Em.edit.aB x] [] (λp _=>p=.aH [bA,.int .i64 (gX x)]):=by
 have k1:=λfl σ=>I8 hx fl σ
 obtain⟨e,he⟩:=gn (gX x);rw[he]at k1 hf ⊢;obtain⟨kd,dv,ix,nm,⟨rn,rt,ra,rb,rf,wd⟩,⟨fn,fp,flo,fhi,fs⟩,⟨sn,sa,sb,sg⟩,⟨cn,ca,cb,cs,ct⟩⟩:=x;obtain⟨on,rs,dd,cc⟩:=o;simp only[bZ,dT,aU]at k1;simp only[bZ,dT,aU];refine aK.aG 132 h0 func42 (h:=?_);refine aC (A3 h1 k1 hf) ?_;exact cg
end
end Go.Kz
