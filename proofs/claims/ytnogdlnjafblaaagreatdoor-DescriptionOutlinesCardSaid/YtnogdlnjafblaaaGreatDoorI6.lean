/- Steps of the proof. -/
import Derived.Test.YtnogdlnjafblaaaGreatDoorH4
import Derived.Test.YtnogdlnjafblaaaGreatDoorH3
set_option linter.all false
set_option maxHeartbeats 40000000
set_option maxRecDepth 100000
open Go.Proofs.Tryz
noncomputable section
namespace Go.Proofs
open Go Go.RowKit
section
set_option maxRecDepth 100000
theorem Tryz.aZw(b g cap n:Nat)(p u:Value)(cur:Array Value)(fz:Nat×Nat)(l:List UInt8)(w:World)(hl:l.length=n)(h0:n≠0)(hb:w.heap[b]?=some (.cells #[p,.slice (some ⟨g,0,none⟩) n cap,u] 125 (0,0)))
  (hg:w.heap[g]?=some (.cells cur 5 fz)) (hnc:n<=cap) (hcm:cap<=maxLen) (hcs:cur.size=cap) (hcur:∀(j:Nat) (x:UInt8),l[j]?=some x->cur[j]?=some (.int .u8 x.toNat)) :
  Calls prog 47 #[.pointer (some ⟨b,0,none⟩)] w fun e w'=>e=.returned (.string ⟨l.toArray⟩)/\w'=w.drew.freeze ⟨g,0,none⟩ n:=by
 subst hl
 have c1:w.drew.cell? ⟨b,1,none⟩=some (.slice (some ⟨g,0,none⟩) l.length cap):=by
  have hb':w.drew.heap[b]?=_:=hb
  simp[World.cell?,hb']
 have hSD:=Lib.run_unsafeSliceData_row (P:=prog) w.drew #[45] 182 ⟨g,0,none⟩ l.length cap (by omega)
 have hUS:(Builtin.unsafeString_ #[182,3] 9 #[.pointer (some ⟨g,0,none⟩),.int .i64 l.length]).run prog w.drew=.ok (.string ⟨l.toArray⟩) (w.drew.freeze ⟨g,0,none⟩ l.length):=by
  refine Lib.run_unsafeString_row w.drew 182 3 9 5 underlying182 Tryz.aJj.cellsByte g cur.size (by have hg':w.drew.heap[g]?=_:=hg;simp[World.shape?,hg']) l (by intro e;rw[e]at h0;exact h0 rfl) (by omega) (by unfold maxLen at hcm;omega) ?_
  intro j x hx
  have hg':w.drew.heap[g]?=_:=hg
  have hadd:(⟨g,0,none⟩:Addr).add j=⟨g,j,none⟩:=by unfold Addr.add;split<;>simp_all
  rw[hadd]
  simp only[World.cell?,hg']
  simpa using hcur j x hx
 have t72:=underlying123;have a72:=Tryz.isAgg123;have z72:=Tryz.sizeOf123;have v72:=Tryz.zeroValue123;have u72:=run_underlying underlying123
 have t70:=underlying121;have a70:=Tryz.isAgg121;have z70:=Tryz.sizeOf121;have v70:=Tryz.zeroValue121;have u70:=run_underlying underlying121
 have t37:=underlying45;have a37:=Tryz.isAgg45;have z37:=Tryz.sizeOf45;have v37:=Tryz.zeroValue45;have u37:=run_underlying underlying45
 have t127:=underlying182;have a127:=Tryz.isAgg182;have z127:=Tryz.sizeOf182;have v127:=Tryz.zeroValue182;have aEr:=run_underlying underlying182
 have t3:=underlying3;have a3:=Tryz.isAgg3;have z3:=Tryz.sizeOf3;have v3:=Tryz.zeroValue3;have u3:=run_underlying underlying3
 have t9:=underlying9;have a9:=Tryz.isAgg9;have z9:=Tryz.sizeOf9;have v9:=Tryz.zeroValue9;have u9:=run_underlying underlying9
 have mixed:=Tryz.aBG.mixed
 go_enter func47,Tryz.ntmps47
 go_wp2
 go_region_o
 all_goals (go_wp2;go_ret;exact⟨rfl,rfl⟩)
theorem Tryz.aZx(b:Nat)(p u:Value)(w:World)(hb:w.heap[b]?=some (.cells #[p,.slice none 0 0,u] 125 (0,0))) :
  Calls prog 47 #[.pointer (some ⟨b,0,none⟩)] w fun e w'=>e=.returned (.string ⟨#[]⟩)/\w'=w.drew:=by
 have c1:w.drew.cell? ⟨b,1,none⟩=some (.slice none 0 0):=by
  have hb':w.drew.heap[b]?=_:=hb
  simp[World.cell?,hb']
 have hSD:=Lib.run_unsafeSliceData_nil (P:=prog) w.drew #[45] 182 0 0
 have hUS:=Lib.run_unsafeString_none (P:=prog) w.drew 182 3 9 none
 have t72:=underlying123;have a72:=Tryz.isAgg123;have z72:=Tryz.sizeOf123;have v72:=Tryz.zeroValue123;have u72:=run_underlying underlying123
 have t70:=underlying121;have a70:=Tryz.isAgg121;have z70:=Tryz.sizeOf121;have v70:=Tryz.zeroValue121;have u70:=run_underlying underlying121
 have t37:=underlying45;have a37:=Tryz.isAgg45;have z37:=Tryz.sizeOf45;have v37:=Tryz.zeroValue45;have u37:=run_underlying underlying45
 have t127:=underlying182;have a127:=Tryz.isAgg182;have z127:=Tryz.sizeOf182;have v127:=Tryz.zeroValue182;have aEr:=run_underlying underlying182
 have t3:=underlying3;have a3:=Tryz.isAgg3;have z3:=Tryz.sizeOf3;have v3:=Tryz.zeroValue3;have u3:=run_underlying underlying3
 have t9:=underlying9;have a9:=Tryz.isAgg9;have z9:=Tryz.sizeOf9;have v9:=Tryz.zeroValue9;have u9:=run_underlying underlying9
 have mixed:=Tryz.aBG.mixed
 go_enter func47,Tryz.ntmps47
 go_wp2
 go_region_o
 all_goals (go_wp2;go_ret;exact⟨rfl,rfl⟩)
theorem Tryz.aZy(b:Nat)(w:World)(h0:w.cell? ⟨b,0,none⟩=some (.pointer none))(hsh:w.shape? b=some (125,3))(hfz:w.frozen? ⟨b,0,none⟩=false) :
  Calls prog 137 #[.pointer (some ⟨b,0,none⟩)] w fun e w'=>e=.returned (.tuple #[])/\w'=w.setCell ⟨b,0,none⟩ (.pointer (some ⟨b,0,none⟩)):=by
 have L:=Tryz.aBE
 obtain⟨j,hj,hjs⟩:=Option.map_eq_some_iff.1 Tryz.aBF.sizeBuilder
 have mixed:=L.mixed
 have t72:=L.t72;have a72:=L.a72;have z72:=L.z72;have v72:=L.v72;have u72:=run_underlying L.t72
 have t70:=L.t70;have a70:=L.a70;have z70:=L.z70;have v70:=L.v70;have u70:=run_underlying L.t70
 have t9:=L.t9;have a9:=L.a9;have z9:=L.z9;have v9:=L.v9;have u9:=run_underlying L.t9
 have t4:=L.t4;have a4:=L.a4;have z4:=L.z4;have v4:=L.v4;have u4:=run_underlying L.t4
 have t164:=L.t164;have a164:=L.a164;have z164:=L.z164;have v164:=L.v164;have a8L:=run_underlying L.t164
 have hlies:liesAt prog prog.depth 125 (3/prog.cellsOf 125) 0 (Tryz.aBD.t 72) 1=true:=by kernel_rfl
 go_enter L.f240,Body.n240_ntmps Tryz.aBD
 go_wp2
 rw[Lib.run_to_unsafe w ⟨b,0,none⟩ L.t70 L.t164 hj (by rw[hjs];decide) hsh (Nat.zero_lt_succ 2)]
 simp only[Result.andThen]
 rw[Oper.upon_value]
 go_wp2
 rw[run_callFunc_extern L.f276 (by kernel_rfl) (by kernel_rfl) (by kernel_rfl) (e:=Extern.AbiNoEscape.same) (by kernel_rfl)]
 rw[Lib.run_noEscape]
 simp only[Result.andThen]
 rw[Oper.upon_value]
 go_wp2
 rw[Lib.run_from_unsafe w ⟨b,0,none⟩ L.t164 L.t70 hj hsh hlies]
 simp only[Result.andThen]
 rw[Oper.upon_value]
 go_wp2
 go_end0
 exact⟨rfl,rfl⟩
end
end Go.Proofs
namespace Go.Kz
open Go Go.Proofs
def E9:Nat->List PD->List U->Option (PD×List U):=λfl args σ=>match args with
 | [.ptr id 0]=>match σ[id]? with
   |some (.box (.typed 125 [.cQ,s,n]))=>if fl<=id then some (.aI [],σ.set id (.box (.typed 125 [.ptr id 0,s,n])))else none
   |some (.box (.typed 125 [.ptr id' 0,_,_]))=>if id'=id then some (.aI [],σ)else none
   |_=>none
 |_=>none
def PK:Nat->List PD->List U->Option (PD×List U):=λfl args σ=>match args with
 | [.ptr id 0]=>match σ[id]? with
   |some (.box (.typed 125 [_,.slice z xs tok,_]))=>match tok with
    |.nil=>some (.str [],σ)
    |.own fJ=>match σ[fJ]? with
      |some (.own 5 1 n)=>if n=xs.length/\0<n/\z=1/\fl<=fJ then(match J3 xs with|some l=>some (.str l,σ)|none=>none)else none
      |_=>none
    |_=>none
   |_=>none
 |_=>none
theorem aHd{c:Cx}{cs:Dt}{p q r:PD}(h:aK c cs.toList [p,q,r]):∃v u w,cs=#[v,u,w]/\VR c v p/\VR c u q/\VR c w r:=by
 obtain⟨v,u,w,e,h1,h2,h3⟩:=aZc h;exact⟨v,u,w,Array.toList_inj.1 (by simpa using e),h1,h2,h3⟩
theorem aWY{E:aE}(hE:aF prog E):aF prog (E.add 137 E9):=by
 refine hE.YI ⟨_,func137,rfl⟩ λfl args c vs p σ' hg hs hX hv=>?_
 unfold E9 at hg;split at hg
 .rename_i id;obtain⟨v,rfl,h1⟩:=TY hv;obtain⟨b,rfl,hd,_,hρ⟩:=h1.qN;split at hg
  .rename_i s n hbox;split at hg
   .rename_i hfl;simp only[yAb,yAc]at hg;obtain⟨rfl,rfl⟩:=hg;obtain⟨b',cs,T,e1,e2,e3,e4,e5⟩:=hs.box id _ hd hbox;rw[hρ]at e1;simp only[Value.pointer.injEq,yAb,Addr.mk.injEq,and_true]at e1;subst e1;obtain rfl:=e5 _ _ rfl;obtain⟨v0,v1,v2,rfl,q1,q2,q3⟩:=aHd e3;have fQ:v0=.pointer none:=q1.OJ;subst fQ;have hc0:c.w.cell? ⟨b,0,none⟩=some (.pointer none):=by simp[World.cell?,e2]
    refine Calls.mono (Tryz.aZy b c.w hc0 (by simp[World.shape?,e2]) (by simp[World.frozen?,e2])) λe w' he=>?_
    obtain⟨rfl,rfl⟩:=he;have hnew:=aJk (o:=0) (v:=Value.pointer (some ⟨b,0,none⟩)) e2;have hoth:∀k,k≠b->(c.w.setCell ⟨b,0,none⟩ (.pointer (some ⟨b,0,none⟩))).heap[k]?=c.w.heap[k]?:=λk hk=>aJl hk
    have h0:(c.w.setCell ⟨b,0,none⟩ (.pointer (some ⟨b,0,none⟩))).os=c.w.os/\(c.w.setCell ⟨b,0,none⟩ (.pointer (some ⟨b,0,none⟩))).tape=c.w.tape/\(c.w.setCell ⟨b,0,none⟩ (.pointer (some ⟨b,0,none⟩))).output=c.w.output/\(c.w.setCell ⟨b,0,none⟩ (.pointer (some ⟨b,0,none⟩))).heap.size=c.w.heap.size:=⟨rfl,rfl,rfl,by simp[World.setCell]⟩;have hp:VR c (.pointer (some ⟨b,0,none⟩)) (.ptr id 0):=.ptr id 0 b hd ⟨_,hbox⟩ hρ;refine⟨c.put _ id (c.ρ id) (.box (.typed 125 [.ptr id 0,s,n])),rfl,rfl,Sr.J4 hs hd hbox hρ h0 hoth hnew ?_ ⟨?_,λt ds e=>by simp only[PD.typed.injEq]at e;exact e.1⟩,Nx.J4 hs hd hbox hρ hfl h0 hoth,.aI [] [] rfl yo,λ_ h=>.inl h⟩
    .refine⟨rfl,λi v d h1 h2=>?_⟩
     match i,h1,h2 with
     |0,h1,h2=>
      exact uv
     |1,h1,h2=>
      exact uw
     |2,h1,h2=>
      simp[PD.cells]at h1 h2;subst h1 h2;exact q3
     |i+3,h1,h2=>simp[PD.cells]at h2
    .intro v hv;simp at hv;rcases hv with rfl|rfl|rfl
     .rfl
     .exact e4 _ yo
     .exact e4 _ yo
   .cases hg
  .rename_i id' s n hbox;split at hg
   .rename_i hid;subst hid;simp only[yAb,yAc]at hg;obtain⟨rfl,rfl⟩:=hg;obtain⟨b',cs,T,e1,e2,e3,e4,e5⟩:=hs.box _ _ hd hbox;rw[hρ]at e1;simp only[Value.pointer.injEq,yAb,Addr.mk.injEq,and_true]at e1;subst e1;obtain⟨v0,v1,v2,rfl,q1,q2,q3⟩:=aHd e3;exact bz
   .cases hg
  .cases hg
 .cases hg
theorem aW7{E:aE}(hE:aF prog E):aF prog (E.add 47 PK):=by
 refine hE.YI ⟨_,func47,rfl⟩ λfl args c vs p σ' hg hs hX hv=>?_
 unfold PK at hg;split at hg
 .rename_i id;obtain⟨v,rfl,h1⟩:=TY hv;obtain⟨b,rfl,hd,_,hρ⟩:=h1.qN;split at hg
  .rename_i a z xs tok kk hbox;obtain⟨b',cs,T,e1,e2,e3,e4,e5⟩:=hs.box id _ hd hbox;rw[hρ]at e1;simp only[Value.pointer.injEq,yAb,Addr.mk.injEq,and_true]at e1;subst e1;obtain rfl:=e5 _ _ rfl;obtain⟨v0,v1,v2,rfl,q1,q2,q3⟩:=aHd e3;obtain⟨A,cap,flx,rfl,a1,a2,a3,a4,a5,a6,a7,a8⟩:=q2.oH;split at hg
   .simp only[yAb,yAc]at hg;obtain⟨rfl,rfl⟩:=hg;obtain⟨q,_,_⟩:=a8;rw[q]at e2;refine Calls.mono (Tryz.aZx b v0 v2 c.w e2) λe w' he=>?_
    exact kf
   .rename_i fJ;split at hg
    .rename_i n hown;split at hg
     .rename_i hc;obtain⟨rfl,hn0,rfl,hfl⟩:=hc;split at hg
      .rename_i l hl;simp only[yAb,yAc]at hg;obtain⟨rfl,rfl⟩:=hg;have hxs:=aEv hl;obtain⟨kM,e0,m0,lM,hle,j5⟩:=a8;rw[hown]at lM;simp only[yAb,U.own.injEq]at lM;obtain⟨rfl,_,rfl⟩:=lM;have j5:=j5 rfl;obtain⟨ys,hrow⟩:=hs.own fJ _ _ _ kM hown;rw[j5]at hrow;rcases hrow.2 with⟨_,h0⟩ | ⟨g,cap',cur,fz,fQ,_,hg,hfz,hnc,hcm,hcs,htake⟩
       .omega
       .simp only[Value.slice.injEq]at fQ;obtain⟨rfl,_,rfl⟩:=fQ;have hlen:l.length=xs.length:=by rw[hxs,yAe]
        have hcells:∀(j:Nat) (x:UInt8),l[j]?=some x->cur[j]?=some (.int .u8 x.toNat):=λj x hj=>by
         exact bu
        refine Calls.mono (Tryz.aZw b g cap xs.length v0 v2 cur fz l c.w hlen ym e2 hg hnc hcm (by rw[hcs,Nat.mul_one]) hcells) λe w' he=>?_
        exact ai
      .cases hg
     .cases hg
    .cases hg
   .cases hg
  .cases hg
 .cases hg
def HH(fl id:Nat)(σ:List U)(x:PD)(r:PD):Option (PD×List U):=match σ[id]? with
 |some (.box (.typed 125 [p,.slice z xs tok,nn]))=>bE (fl<=id/\(p=.cQ\/p=.ptr id 0)) (match dX prog fl (σ.set id (.box (.typed 125 [.ptr id 0,.slice z xs tok,nn]))) 45 (.slice z xs tok) x with
  |some (.slice z' xs' bP,σ2)=>bE (σ2[id]?=some (.box (.typed 125 [.ptr id 0,.slice z xs tok,nn]))) (some (r,σ2.set id (.box (.typed 125 [.ptr id 0,.slice z' xs' bP,nn]))))
  |_=>none)
 |_=>none
def KI:Nat->List PD->List U->Option (PD×List U):=λfl args σ=>match args with
 | [.ptr id 0,.str l]=>HH fl id σ (KF l) (.aI [.int .i64 l.length,.bG .nilIface])
 |_=>none
def KJ:Nat->List PD->List U->Option (PD×List U):=λfl args σ=>match args with
 | [.ptr id 0,.int .u8 c]=>HH fl id σ (.slice 1 [.int .u8 c] .any) (.bG .nilIface)
 |_=>none
theorem aNv{fl id:Nat}{σ σ':Dp}{x r p':PD}(h:HH fl id σ x r=some (p',σ')):p'=r/\fl<=id/\∃p z xs tok nn z' xs' bP σ2,σ[id]?=some (.box (.typed 125 [p,.slice z xs tok,nn]))/\(p=.cQ\/p=.ptr id 0) /\
  dX prog fl (σ.set id (.box (.typed 125 [.ptr id 0,.slice z xs tok,nn]))) 45 (.slice z xs tok) x=some (.slice z' xs' bP,σ2)/\σ2[id]?=some (.box (.typed 125 [.ptr id 0,.slice z xs tok,nn]))/\σ'=σ2.set id (.box (.typed 125 [.ptr id 0,.slice z' xs' bP,nn])):=by
 unfold HH at h;split at h
 .rename_i p z xs tok nn hb;obtain⟨⟨h1,h2⟩,h⟩:=cX h;split at h
  .rename_i z' xs' bP σ2 ha;obtain⟨h3,h⟩:=cX h;simp only[yAb,yAc]at h;exact⟨h.1.symm,h1,p,z,xs,tok,nn,z',xs',bP,σ2,hb,h2,ha,h3,h.2.symm⟩
  .cases h
 .cases h
theorem aNw{fl id:Nat}{σ:Dp}{p s nn:PD}(hfl:fl<=id)(hb:σ[id]?=some (.box (.typed 125 [p,s,nn])))(hp:p=.cQ\/p=.ptr id 0):E9 fl [.ptr id 0] σ=some (.aI [],σ.set id (.box (.typed 125 [.ptr id 0,s,nn]))):=by
 rcases hp with rfl|rfl
 .simp only[E9,hb,hfl,if_true]
 .have hl:id<σ.length:=(yA.1 hb).1;have:σ.set id (.box (.typed 125 [.ptr id 0,s,nn]))=σ:=by
   refine List.ext_getElem? λj=>?_
   by_cases e:id=j
   .subst e;rw[yAj hl,hb]
   .rw[yAd e]
  simp only[E9,hb,this,if_true]
variable{E:aE}(hU:aG E)
set_option maxRecDepth 10000
include hU in
theorem aZz(h0:E 103=none)(h1:E 137=some E9)(fl:Nat)(args:List PD)(σ:List U)(p:PD)(σ':List U)(h:KI fl args σ=some (p,σ')) :
  mB prog E fl (.inl 103) args σ p σ':=by
 unfold KI at h;split at h
 .rename_i id l;obtain⟨rfl,hfl,q,z,xs,tok,nn,z',xs',bP,σ2,hb,hq,ha,h2,rfl⟩:=aNv h;have hl:id<σ.length:=(yA.1 hb).1;have hs1:∀x,(σ.set id x)[id]?=some x:=λx=>yAj hl
  have hc:=aNw hfl hb hq;obtain⟨p1,σ1,h3,h4,h5⟩:∃p1 σ1,mB prog E fl (.inl 103) [.ptr id 0,.str l] σ p1 σ1/\p1=.aI [.int .i64 l.length,.bG .nilIface]/\σ1=σ2.set id (.box (.typed 125 [.ptr id 0,.slice z' xs' bP,nn])):=by
   suffices hh:cF prog E fl (.inl 103) [.ptr id 0,.str l] σ (λp1 σ1=>p1=.aI [.int .i64 l.length,.bG .nilIface]/\σ1=σ2.set id (.box (.typed 125 [.ptr id 0,.slice z' xs' bP,nn])))from hh.ex
   refine cF.aV 19 h0 func103 (h:=?_);refine aD (A6 h1 hc hs1 ha h2 hfl) ?_;exact aa
  rw[<-h4,<-h5];exact h3
 .cases h
include hU in
theorem aZA(h0:E 112=none)(h1:E 137=some E9)(fl:Nat)(args:List PD)(σ:List U)(p:PD)(σ':List U)(h:KJ fl args σ=some (p,σ')) :
  mB prog E fl (.inl 112) args σ p σ':=by
 unfold KJ at h;split at h
 .rename_i id c;obtain⟨rfl,hfl,q,z,xs,tok,nn,z',xs',bP,σ2,hb,hq,ha,h2,rfl⟩:=aNv h;have hl:id<σ.length:=(yA.1 hb).1;have hs1:∀x,(σ.set id x)[id]?=some x:=λx=>yAj hl
  have hc:=aNw hfl hb hq;obtain⟨p1,σ1,h3,h4,h5⟩:∃p1 σ1,mB prog E fl (.inl 112) [.ptr id 0,.int .u8 c] σ p1 σ1/\p1=.bG .nilIface/\σ1=σ2.set id (.box (.typed 125 [.ptr id 0,.slice z' xs' bP,nn])):=by
   suffices hh:cF prog E fl (.inl 112) [.ptr id 0,.int .u8 c] σ (λp1 σ1=>p1=.bG .nilIface/\σ1=σ2.set id (.box (.typed 125 [.ptr id 0,.slice z' xs' bP,nn])))from hh.ex
   refine cF.aV 17 h0 func112 (h:=?_);refine aD (A6 h1 hc hs1 ha h2 hfl) ?_;exact aa
  rw[<-h4,<-h5];exact h3
 .cases h
theorem aW0(hE:aF prog E)(hU:aG E)(h0:E 103=none)(h1:E 137=some E9):aF prog (E.add 103 KI):=
 hE.add yp λfl args σ p σ' h=>aZz hU h0 h1 fl args σ p σ' h
theorem aW2(hE:aF prog E)(hU:aG E)(h0:E 112=none)(h1:E 137=some E9):aF prog (E.add 112 KJ):=
 hE.add yp λfl args σ p σ' h=>aZA hU h0 h1 fl args σ p σ' h
abbrev cH(s:List UInt8):List PD:=s.map λb=>PD.int .u8 b.toNat
structure eQ (σ:List U) (id:Nat) (s:List UInt8) (kk:Int):Prop where
 ex:∃p z tok,σ[id]?=some (.box (.typed 125 [p,.slice z (cH s) tok,.int .i64 kk]))/\(p=.cQ\/p=.ptr id 0)/\((s=[]/\(tok=.nil\/tok=.full))\/(s≠[]/\z=1/\∃fJ,tok=.own fJ/\σ[fJ]?=some (.own 5 1 s.length)))
theorem eQ.put{σ:Dp}{id:Nat}{kk:Int}{s l:Dr}(h:eQ σ id s kk)(hr:s.length+l.length<=100000000000000){z0:Nat}(hz:l=[]\/z0=1)(tk:Tok)(r:PD):∃σ',HH 0 id σ (.slice z0 (cH l) tk) r=some (r,σ')/\eQ σ' id (s++l) kk/\∀j q,j≠id->σ[j]?=some (.box q)->σ'[j]?=some (.box q):=by
 obtain⟨p,z,tok,hb,hp,hc⟩:=h.ex;have hl:id<σ.length:=(yA.1 hb).1;have hu:prog.underlying 45=some (.slice 5):=yp;obtain⟨i,hi,hi1,hi2,z',KU,hi4⟩:∃i,prog.info? 5=some i/\i.size=1/\i.bytes=1/\∃z,i.zero=some z/\z.cells.size=1:=by
  have h:xT prog 45=true:=zb;unfold xT at h;rw[hu]at h;simp only at h;split at h
  .rename_i i hi;split at h
   .rename_i hz;simp only[yAr,beq_iff_eq]at h;exact⟨i,hi,h.1,h.2,_,hz,by simp[Value.cells]⟩
   .cases h
  .cases h
 have hs1:∀x,(σ.set id x)[id]?=some x:=λx=>yAj hl
 have hs2:∀x y:U,(σ.set id x++[y])[id]?=some x:=λx y=>by rw[yAg (by rw[yAD];exact hl)];exact hs1 x
 have hmm:(cH s).length+(cH l).length<=maxLen:=by simp only[yAe,maxLen];omega
 have hbb:((cH s).length+(cH l).length)*1<=140737488355328:=by simp only[yAe];omega
 have hzl:(cH l).length=0\/z0=1:=hz.imp (λh=>zn) (λh=>h)
 by_cases hl0:l=[]
 .subst hl0;have hc0:(cH s).length=0\/z=1:=by
   rcases hc with⟨h,_⟩ | ⟨_,h,_⟩
   .left;rw[h];rfl
   .exact .inr h
  refine⟨(σ.set id (.box (.typed 125 [.ptr id 0,.slice z (cH s) tok,.int .i64 kk]))).set id (.box (.typed 125 [.ptr id 0,.slice z (cH s) tok,.int .i64 kk])),?_,⟨⟨.ptr id 0,z,tok,?_,.inr rfl,?_⟩⟩,λj q hj h=>by rw[List.set_set,yAd (Ne.symm hj)];exact h⟩
  .have ha:dX prog 0 (σ.set id (.box (.typed 125 [.ptr id 0,.slice z (cH s) tok,.int .i64 kk]))) 45 (.slice z (cH s) tok) (.slice z0 (cH []) tk)=some (.slice z (cH s) tok,σ.set id (.box (.typed 125 [.ptr id 0,.slice z (cH s) tok,.int .i64 kk]))):=by
    simp only[dX,hu,hi,hi1,hi2,KU,hi4];rw[if_pos ⟨hc0,hzl,ym,trivial,hmm,hbb⟩];rfl
   simp only[HH,hb];rw[dC ⟨yAF _,hp⟩,ha];simp only;rw[dC (hs1 _)]
  .rw[List.set_set,yAl];exact hs1 _
  .rw[yAl,List.set_set];rcases hc with h | ⟨h1,h2,fJ,h3,h4⟩
   .exact .inl h
   .have hne:id≠fJ:=by
     rintro rfl
     rw[hb]at h4;cases h4
    exact .inr ⟨h1,h2,fJ,h3,by rw[yAd hne];exact h4⟩
 .have hll:¬(cH l).length=0:=by rw[yAe];exact λh=>hl0 (yAf h)
  have hne:s++l≠[]:=by simp[hl0]
  rcases hc with⟨rfl,rfl|rfl⟩ | ⟨h1,rfl,fJ,rfl,h4⟩
  .refine⟨((σ.set id (.box (.typed 125 [.ptr id 0,.slice z (cH []) .nil,.int .i64 kk])))++[U.own 5 1 ((cH []).length+(cH l).length)]).set id (.box (.typed 125 [.ptr id 0,.slice 1 (cH []++cH l) (.own σ.length),.int .i64 kk])),?_,⟨⟨.ptr id 0,1,.own σ.length,?_,.inr rfl,?_⟩⟩,λj q hj h=>Bj⟩
   .have ha:dX prog 0 (σ.set id (.box (.typed 125 [.ptr id 0,.slice z (cH []) .nil,.int .i64 kk]))) 45 (.slice z (cH []) .nil) (.slice z0 (cH l) tk)=some (.slice 1 (cH []++cH l) (.own σ.length),(σ.set id (.box (.typed 125 [.ptr id 0,.slice z (cH []) .nil,.int .i64 kk])))++[U.own 5 1 ((cH []).length+(cH l).length)]):=by
     exact mq
    exact ru
   .rw[yAj (by rw[yAa,yAD];omega)];simp[cH]
   .exact jt
  .refine⟨((σ.set id (.box (.typed 125 [.ptr id 0,.slice z (cH []) .full,.int .i64 kk])))++[U.own 5 1 ((cH []).length+(cH l).length)]).set id (.box (.typed 125 [.ptr id 0,.slice 1 (cH []++cH l) (.own σ.length),.int .i64 kk])),?_,⟨⟨.ptr id 0,1,.own σ.length,?_,.inr rfl,?_⟩⟩,λj q hj h=>Bj⟩
   .have ha:dX prog 0 (σ.set id (.box (.typed 125 [.ptr id 0,.slice z (cH []) .full,.int .i64 kk]))) 45 (.slice z (cH []) .full) (.slice z0 (cH l) tk)=some (.slice 1 (cH []++cH l) (.own σ.length),(σ.set id (.box (.typed 125 [.ptr id 0,.slice z (cH []) .full,.int .i64 kk])))++[U.own 5 1 ((cH []).length+(cH l).length)]):=by
     exact mq
    exact ru
   .rw[yAj (by rw[yAa,yAD];omega)];simp[cH]
   .exact jt
  .have hn2:id≠fJ:=by
    rintro rfl
    rw[hb]at h4;cases h4
   have s6:fJ<σ.length:=(yA.1 h4).1;have hs3:∀x y:U,((σ.set id x).set fJ y)[id]?=some x:=λx y=>by rw[yAd (Ne.symm hn2)];exact hs1 x
   refine⟨((σ.set id (.box (.typed 125 [.ptr id 0,.slice 1 (cH s) (.own fJ),.int .i64 kk]))).set fJ (.own 5 1 ((cH s).length+(cH l).length))).set id (.box (.typed 125 [.ptr id 0,.slice 1 (cH s++cH l) (.own fJ),.int .i64 kk])),?_,⟨⟨.ptr id 0,1,.own fJ,?_,.inr rfl,?_⟩⟩,λj q hj h=>by
    have hj2:fJ≠j:=by
     rintro rfl
     rw[h4]at h;cases h
    rw[yAd (Ne.symm hj),yAd hj2,yAd (Ne.symm hj)];exact h⟩
   .have ha:dX prog 0 (σ.set id (.box (.typed 125 [.ptr id 0,.slice 1 (cH s) (.own fJ),.int .i64 kk]))) 45 (.slice 1 (cH s) (.own fJ)) (.slice z0 (cH l) tk)=some (.slice 1 (cH s++cH l) (.own fJ),(σ.set id (.box (.typed 125 [.ptr id 0,.slice 1 (cH s) (.own fJ),.int .i64 kk]))).set fJ (.own 5 1 ((cH s).length+(cH l).length))):=by
     simp only[dX,hu,hi,hi1,hi2,KU,hi4];rw[if_pos ⟨.inr trivial,hzl,ym,trivial,hmm,hbb⟩,if_neg hll,if_pos ⟨yAF _,trivial⟩,yAd hn2,h4];simp
    simp only[HH,hb];rw[dC ⟨yAF _,hp⟩,ha];simp only;rw[dC (hs3 _ _)]
   .rw[yAj (by simp only[yAD];exact hl)];simp[cH]
   .refine .inr ⟨hne,rfl,fJ,rfl,?_⟩;rw[yAd hn2,yAj (by rw[yAD];exact s6)];simp
theorem eQ.more{σ τ:Dp}{id:Nat}{kk:Int}{s:Dr}(h:eQ σ id s kk):eQ (σ++τ) id s kk:=by
 obtain⟨p,z,tok,hb,hp,hc⟩:=h.ex;have up:∀(j:Nat) (o:U),σ[j]?=some o->(σ++τ)[j]?=some o:=λj o h=>zp
 exact⟨p,z,tok,up _ _ hb,hp,hc.imp (λh=>h) λ⟨h1,h2,fJ,h3,h4⟩=>⟨h1,h2,fJ,h3,up _ _ h4⟩⟩
set_option maxRecDepth 10000
theorem eQ.aZu{σ:Dp}{id:Nat}{kk:Int}{s:Dr}(h:eQ σ id s kk)(l:List UInt8)(hr:s.length+l.length<=100000000000000):∃σ',KI 0 [.ptr id 0,.str l] σ=some (.aI [.int .i64 l.length,.bG .nilIface],σ')/\eQ σ' id (s++l) kk/\∀j q,j≠id->σ[j]?=some (.box q)->σ'[j]?=some (.box q):=by
 unfold KI KF;exact h.put hr (z0:=if l.length=0 then 0 else 1) (by by_cases h:l.length=0;exact .inl (yAf h);right;rw[if_neg h]) .any _
theorem eQ.aZv{σ:Dp}{id:Nat}{kk:Int}{s:Dr}(h:eQ σ id s kk)(b:UInt8)(n:Int)(hn:(b.toNat:Int)=n)(hr:s.length+1<=100000000000000):∃σ',KJ 0 [.ptr id 0,.int .u8 n] σ=some (.bG .nilIface,σ')/\eQ σ' id (s++[b]) kk/\∀j q,j≠id->σ[j]?=some (.box q)->σ'[j]?=some (.box q):=by
 subst hn;unfold KJ;exact h.put (l:=[b]) hr (z0:=1) (.inr rfl) .any _
theorem eQ.text{σ:Dp}{id:Nat}{kk:Int}{s:Dr}(h:eQ σ id s kk)(hs:s≠[]):PK 0 [.ptr id 0] σ=some (.str s,σ):=by
 obtain⟨p,z,tok,hb,hp,hc⟩:=h.ex;rcases hc with⟨rfl,_⟩ | ⟨h1,rfl,fJ,rfl,h4⟩
 .exact absurd rfl hs
 .have h0:0<s.length:=List.length_pos_iff.2 h1;simp only[PK,hb,h4,cH,aCf];simp[h0]
end Go.Kz
end
