/- Steps of the proof. -/
import Derived.Test.YtnogdlnjafblaaaGreatDoorP4
import Derived.Test.YtnogdlnjafblaaaGreatDoorP3
set_option linter.all false
set_option maxHeartbeats 40000000
set_option maxRecDepth 100000
open Go.Proofs.Tryz
noncomputable section
namespace Go.Proofs
open Go Go.RowKit
section
set_option maxRecDepth 100000
theorem Tryz.aVb(b g cap n:Nat)(p u:Value)(cur:Array Value)(fz:Nat×Nat)(l:List UInt8)(w:World)(hl:l.length=n)(h0:n≠0)(hb:w.heap[b]?=some (.cells #[p,.slice (some ⟨g,0,none⟩) n cap,u] 125 (0,0)))
  (hg:w.heap[g]?=some (.cells cur 5 fz)) (hnc:n<=cap) (hcm:cap<=maxLen) (hcs:cur.size=cap) (hcur:∀(j:Nat) (x:UInt8),l[j]?=some x->cur[j]?=some (.int .u8 x.toNat)) :
  Calls prog 47 #[.pointer (some ⟨b,0,none⟩)] w fun e w'=>e=.returned (.string ⟨l.toArray⟩)/\w'=w.drew.freeze ⟨g,0,none⟩ n:=by
 subst hl
 have c1:w.drew.cell? ⟨b,1,none⟩=some (.slice (some ⟨g,0,none⟩) l.length cap):=by
  have hb':w.drew.heap[b]?=_:=hb
  simp[World.cell?,hb']
 have hSD:=Lib.run_unsafeSliceData_row (P:=prog) w.drew #[45] 182 ⟨g,0,none⟩ l.length cap (by omega)
 have hUS:(Builtin.unsafeString_ #[182,3] 9 #[.pointer (some ⟨g,0,none⟩),.int .i64 l.length]).run prog w.drew=.ok (.string ⟨l.toArray⟩) (w.drew.freeze ⟨g,0,none⟩ l.length):=by
  refine Lib.run_unsafeString_row w.drew 182 3 9 5 underlying182 Tryz.aN4.cellsByte g cur.size (by have hg':w.drew.heap[g]?=_:=hg;simp[World.shape?,hg']) l (by intro e;rw[e]at h0;exact h0 rfl) (by omega) (by unfold maxLen at hcm;omega) ?_
  intro j x hx
  have hg':w.drew.heap[g]?=_:=hg
  have hadd:(⟨g,0,none⟩:Addr).add j=⟨g,j,none⟩:=by unfold Addr.add;split<;>simp_all
  rw[hadd]
  simp only[World.cell?,hg']
  simpa using hcur j x hx
 have t72:=underlying123;have a72:=Tryz.isAgg123;have z72:=Tryz.sizeOf123;have v72:=Tryz.zeroValue123;have u72:=run_underlying underlying123
 have t70:=underlying121;have a70:=Tryz.isAgg121;have z70:=Tryz.sizeOf121;have v70:=Tryz.zeroValue121;have u70:=run_underlying underlying121
 have t37:=underlying45;have a37:=Tryz.isAgg45;have z37:=Tryz.sizeOf45;have v37:=Tryz.zeroValue45;have u37:=run_underlying underlying45
 have t127:=underlying182;have a127:=Tryz.isAgg182;have z127:=Tryz.sizeOf182;have v127:=Tryz.zeroValue182;have aVc:=run_underlying underlying182
 have t3:=underlying3;have a3:=Tryz.isAgg3;have z3:=Tryz.sizeOf3;have v3:=Tryz.zeroValue3;have u3:=run_underlying underlying3
 have t9:=underlying9;have a9:=Tryz.isAgg9;have z9:=Tryz.sizeOf9;have v9:=Tryz.zeroValue9;have u9:=run_underlying underlying9
 have mixed:=Tryz.aGZ.mixed
 go_enter func47,Tryz.ntmps47
 go_wp2
 go_region_o
 all_goals (go_wp2;go_ret;exact⟨rfl,rfl⟩)
theorem Tryz.aVd(b:Nat)(p u:Value)(w:World)(hb:w.heap[b]?=some (.cells #[p,.slice none 0 0,u] 125 (0,0))) :
  Calls prog 47 #[.pointer (some ⟨b,0,none⟩)] w fun e w'=>e=.returned (.string ⟨#[]⟩)/\w'=w.drew:=by
 have c1:w.drew.cell? ⟨b,1,none⟩=some (.slice none 0 0):=by
  have hb':w.drew.heap[b]?=_:=hb
  simp[World.cell?,hb']
 have hSD:=Lib.run_unsafeSliceData_nil (P:=prog) w.drew #[45] 182 0 0
 have hUS:=Lib.run_unsafeString_none (P:=prog) w.drew 182 3 9 none
 have t72:=underlying123;have a72:=Tryz.isAgg123;have z72:=Tryz.sizeOf123;have v72:=Tryz.zeroValue123;have u72:=run_underlying underlying123
 have t70:=underlying121;have a70:=Tryz.isAgg121;have z70:=Tryz.sizeOf121;have v70:=Tryz.zeroValue121;have u70:=run_underlying underlying121
 have t37:=underlying45;have a37:=Tryz.isAgg45;have z37:=Tryz.sizeOf45;have v37:=Tryz.zeroValue45;have u37:=run_underlying underlying45
 have t127:=underlying182;have a127:=Tryz.isAgg182;have z127:=Tryz.sizeOf182;have v127:=Tryz.zeroValue182;have aVc:=run_underlying underlying182
 have t3:=underlying3;have a3:=Tryz.isAgg3;have z3:=Tryz.sizeOf3;have v3:=Tryz.zeroValue3;have u3:=run_underlying underlying3
 have t9:=underlying9;have a9:=Tryz.isAgg9;have z9:=Tryz.sizeOf9;have v9:=Tryz.zeroValue9;have u9:=run_underlying underlying9
 have mixed:=Tryz.aGZ.mixed
 go_enter func47,Tryz.ntmps47
 go_wp2
 go_region_o
 all_goals (go_wp2;go_ret;exact⟨rfl,rfl⟩)
theorem Tryz.aVe(b:Nat)(w:World)(h0:w.cell? ⟨b,0,none⟩=some (.pointer none))(hsh:w.shape? b=some (125,3))(hfz:w.frozen? ⟨b,0,none⟩=false) :
  Calls prog 137 #[.pointer (some ⟨b,0,none⟩)] w fun e w'=>e=.returned (.tuple #[])/\w'=w.setCell ⟨b,0,none⟩ (.pointer (some ⟨b,0,none⟩)):=by
 have L:=Tryz.aGW
 obtain⟨j,hj,hjs⟩:=Option.map_eq_some_iff.1 Tryz.aGX.sizeBuilder
 have mixed:=L.mixed
 have t72:=L.t72;have a72:=L.a72;have z72:=L.z72;have v72:=L.v72;have u72:=run_underlying L.t72
 have t70:=L.t70;have a70:=L.a70;have z70:=L.z70;have v70:=L.v70;have u70:=run_underlying L.t70
 have t9:=L.t9;have a9:=L.a9;have z9:=L.z9;have v9:=L.v9;have u9:=run_underlying L.t9
 have t4:=L.t4;have a4:=L.a4;have z4:=L.z4;have v4:=L.v4;have u4:=run_underlying L.t4
 have t164:=L.t164;have a164:=L.a164;have z164:=L.z164;have v164:=L.v164;have a2f:=run_underlying L.t164
 have hlies:liesAt prog prog.depth 125 (3/prog.cellsOf 125) 0 (Tryz.Z5.t 72) 1=true:=by kernel_rfl
 go_enter L.f240,Body.n240_ntmps Tryz.Z5
 go_wp2
 rw[Lib.run_to_unsafe w ⟨b,0,none⟩ L.t70 L.t164 hj (by rw[hjs];decide) hsh (Nat.zero_lt_succ 2)]
 simp only[Result.andThen]
 rw[Oper.upon_value]
 go_wp2
 rw[run_callFunc_extern L.f276 (by kernel_rfl) (by kernel_rfl) (by kernel_rfl) (e:=Extern.AbiNoEscape.same) (by kernel_rfl)]
 rw[Lib.run_noEscape]
 simp only[Result.andThen]
 rw[Oper.upon_value]
 go_wp2
 rw[Lib.run_from_unsafe w ⟨b,0,none⟩ L.t164 L.t70 hj hsh hlies]
 simp only[Result.andThen]
 rw[Oper.upon_value]
 go_wp2
 go_end0
 exact⟨rfl,rfl⟩
end
end Go.Proofs
namespace Go.Kz
open Go Go.Proofs
def CZ:Nat->List PD->List U->Option (PD×List U):=λfl args σ=>match args with
 | [.ptr id 0]=>match σ[id]? with
   |some (.box (.typed 125 [.dJ,s,n]))=>if fl<=id then some (.aK [],σ.set id (.box (.typed 125 [.ptr id 0,s,n])))else none
   |some (.box (.typed 125 [.ptr id' 0,_,_]))=>if id'=id then some (.aK [],σ)else none
   |_=>none
 |_=>none
def MG:Nat->List PD->List U->Option (PD×List U):=λfl args σ=>match args with
 | [.ptr id 0]=>match σ[id]? with
   |some (.box (.typed 125 [_,.slice z xs tok,_]))=>match tok with
    |.nil=>some (.str [],σ)
    |.own gC=>match σ[gC]? with
      |some (.own 5 1 n)=>if n=xs.length/\0<n/\z=1/\fl<=gC then(match KL xs with|some l=>some (.str l,σ)|none=>none)else none
      |_=>none
    |_=>none
   |_=>none
 |_=>none
theorem aE6{c:Cx}{cs:Ca}{p q r:PD}(h:aJ c cs.toList [p,q,r]):∃v u w,cs=#[v,u,w]/\VR c v p/\VR c u q/\VR c w r:=by
 obtain⟨v,u,w,e,h1,h2,h3⟩:=aUN h;exact⟨v,u,w,Array.toList_inj.1 (by simpa using e),h1,h2,h3⟩
theorem aSz{E:aE}(hE:aH prog E):aH prog (E.add 137 CZ):=by
 refine hE.aCz ⟨_,func137,rfl⟩ λfl args c vs p σ' hg hs hX hv=>?_
 unfold CZ at hg;split at hg
 .rename_i id;obtain⟨v,rfl,h1⟩:=aCB hv;obtain⟨b,rfl,hd,_,hρ⟩:=h1.vQ;split at hg
  .rename_i s n hbox;split at hg
   .rename_i hfl;simp only[yAb,yAc]at hg;obtain⟨rfl,rfl⟩:=hg;obtain⟨b',cs,T,e1,e2,e3,e4,e5⟩:=hs.box id _ hd hbox;rw[hρ]at e1;simp only[Value.pointer.injEq,yAb,Addr.mk.injEq,and_true]at e1;subst e1;obtain rfl:=e5 _ _ rfl;obtain⟨v0,v1,v2,rfl,q1,q2,q3⟩:=aE6 e3;have gV:v0=.pointer none:=q1.OI;subst gV;have hc0:c.w.cell? ⟨b,0,none⟩=some (.pointer none):=by simp[World.cell?,e2]
    refine Calls.mono (Tryz.aVe b c.w hc0 (by simp[World.shape?,e2]) (by simp[World.frozen?,e2])) λe w' he=>?_
    obtain⟨rfl,rfl⟩:=he;have hnew:=aN1 (o:=0) (v:=Value.pointer (some ⟨b,0,none⟩)) e2;have hoth:∀k,k≠b->(c.w.setCell ⟨b,0,none⟩ (.pointer (some ⟨b,0,none⟩))).heap[k]?=c.w.heap[k]?:=λk hk=>aN2 hk
    have h0:(c.w.setCell ⟨b,0,none⟩ (.pointer (some ⟨b,0,none⟩))).os=c.w.os/\(c.w.setCell ⟨b,0,none⟩ (.pointer (some ⟨b,0,none⟩))).tape=c.w.tape/\(c.w.setCell ⟨b,0,none⟩ (.pointer (some ⟨b,0,none⟩))).output=c.w.output/\(c.w.setCell ⟨b,0,none⟩ (.pointer (some ⟨b,0,none⟩))).heap.size=c.w.heap.size:=⟨rfl,rfl,rfl,by simp[World.setCell]⟩;have hp:VR c (.pointer (some ⟨b,0,none⟩)) (.ptr id 0):=.ptr id 0 b hd ⟨_,hbox⟩ hρ;refine⟨c.put _ id (c.ρ id) (.box (.typed 125 [.ptr id 0,s,n])),rfl,rfl,Sr.MC hs hd hbox hρ h0 hoth hnew ?_ ⟨?_,λt ds e=>by simp only[PD.typed.injEq]at e;exact e.1⟩,Nx.MC hs hd hbox hρ hfl h0 hoth,.aK [] [] rfl wz,λ_ h=>.inl h⟩
    .refine⟨rfl,λi v d h1 h2=>?_⟩
     match i,h1,h2 with
     |0,h1,h2=>
      simp[PD.cells]at h1 h2;subst h1 h2;exact hp
     |1,h1,h2=>
      simp[PD.cells]at h1 h2;subst h1 h2;exact q2
     |2,h1,h2=>
      simp[PD.cells]at h1 h2;subst h1 h2;exact q3
     |i+3,h1,h2=>simp[PD.cells]at h2
    .intro v hv;simp at hv;rcases hv with rfl|rfl|rfl
     .rfl
     .exact e4 _ wz
     .exact e4 _ wz
   .cases hg
  .rename_i id' s n hbox;split at hg
   .rename_i hid;subst hid;simp only[yAb,yAc]at hg;obtain⟨rfl,rfl⟩:=hg;obtain⟨b',cs,T,e1,e2,e3,e4,e5⟩:=hs.box _ _ hd hbox;rw[hρ]at e1;simp only[Value.pointer.injEq,yAb,Addr.mk.injEq,and_true]at e1;subst e1;obtain⟨v0,v1,v2,rfl,q1,q2,q3⟩:=aE6 e3;obtain⟨b2,rfl,_,_,pI⟩:=q1.vQ;rw[hρ]at pI;simp only[Value.pointer.injEq,yAb,Addr.mk.injEq,and_true]at pI;subst pI;have hc0:c.w.cell? ⟨b,0,none⟩=some (.pointer (some ⟨b,0,none⟩)):=by simp[World.cell?,e2]
    refine Calls.mono (Any.Builder_copyCheck_used Tryz.aGW Tryz.aGX b c.w hc0) λe w' he=>?_
    obtain⟨rfl,rfl⟩:=he;exact⟨c,rfl,rfl,hs,.refl _ _,.aK [] [] rfl wz,λ_ h=>.inl h⟩
   .cases hg
  .cases hg
 .cases hg
theorem aSI{E:aE}(hE:aH prog E):aH prog (E.add 47 MG):=by
 refine hE.aCz ⟨_,func47,rfl⟩ λfl args c vs p σ' hg hs hX hv=>?_
 unfold MG at hg;split at hg
 .rename_i id;obtain⟨v,rfl,h1⟩:=aCB hv;obtain⟨b,rfl,hd,_,hρ⟩:=h1.vQ;split at hg
  .rename_i a z xs tok kk hbox;obtain⟨b',cs,T,e1,e2,e3,e4,e5⟩:=hs.box id _ hd hbox;rw[hρ]at e1;simp only[Value.pointer.injEq,yAb,Addr.mk.injEq,and_true]at e1;subst e1;obtain rfl:=e5 _ _ rfl;obtain⟨v0,v1,v2,rfl,q1,q2,q3⟩:=aE6 e3;obtain⟨A,cap,flx,rfl,a1,a2,a3,a4,a5,a6,a7,a8⟩:=q2.nW;split at hg
   .simp only[yAb,yAc]at hg;obtain⟨rfl,rfl⟩:=hg;obtain⟨q,_,_⟩:=a8;rw[q]at e2;refine Calls.mono (Tryz.aVd b v0 v2 c.w e2) λe w' he=>?_
    obtain⟨rfl,rfl⟩:=he;have hgr:=aC3 c.w;exact⟨c.at c.w.drew,rfl,rfl,hs.grow hgr,Nx.grow hs hgr,.str [],λ_ h=>.inl h⟩
   .rename_i gC;split at hg
    .rename_i n hown;split at hg
     .rename_i hc;obtain⟨rfl,hn0,rfl,hfl⟩:=hc;split at hg
      .rename_i l hl;simp only[yAb,yAc]at hg;obtain⟨rfl,rfl⟩:=hg;have hxs:=aIy hl;obtain⟨lO,e0,m0,mY,hle,pI⟩:=a8;rw[hown]at mY;simp only[yAb,U.own.injEq]at mY;obtain⟨rfl,_,rfl⟩:=mY;have pI:=pI rfl;obtain⟨ys,hrow⟩:=hs.own gC _ _ _ lO hown;rw[pI]at hrow;rcases hrow.2 with⟨_,h0⟩ | ⟨g,cap',cur,fz,gV,_,hg,hfz,hnc,hcm,hcs,htake⟩
       .omega
       .simp only[Value.slice.injEq]at gV;obtain⟨rfl,_,rfl⟩:=gV;have hlen:l.length=xs.length:=by rw[hxs,yAe]
        have hcells:∀(j:Nat) (x:UInt8),l[j]?=some x->cur[j]?=some (.int .u8 x.toNat):=λj x hj=>by
         have hjl:j<xs.length:=by rw[<-hlen];exact(yA.1 hj).1
         have hjf:j<flx.length:=xb;obtain⟨ad,q3,q4,_⟩:=a6 j flx[j] (by simp[hjf]);cases q3;rw[aN3]at q4;simp only[World.cell?,hg]at q4;have KE:(xs.flatMap PD.cells)[j]?=some (.int .u8 x.toNat):=by
          rw[hxs,V4,yAo,hj];rfl
         have:=(a7 j flx[j] _ (by simp[hjf]) KE).int_eq;rw[this]at q4;simpa using q4
        refine Calls.mono (Tryz.aVb b g cap xs.length v0 v2 cur fz l c.w hlen xb e2 hg hnc hcm (by rw[hcs,Nat.mul_one]) hcells) λe w' he=>?_
        obtain⟨rfl,rfl⟩:=he;have hlt:g<c.w.heap.size:=fM hg;have hw1:∀k,k≠g->(c.w.drew.freeze ⟨g,0,none⟩ xs.length).heap[k]?=c.w.heap[k]?:=λk hk=>by
         unfold World.freeze;rw[if_neg xb];simp only[Array.getElem?_modify];rw[if_neg (Ne.symm hk)];rfl
        have hg':c.w.drew.heap[g]?=some (.cells cur 5 fz):=hg;have rK:(c.w.drew.freeze ⟨g,0,none⟩ xs.length).heap[g]?=some (.cells cur 5 (if fz.1==fz.2 then(0,0+xs.length)else(min fz.1 0,max fz.2 (0+xs.length)))):=by
         unfold World.freeze;rw[if_neg xb];simp only[Array.getElem?_modify,if_true,hg'];rfl
        have hsz:(c.w.drew.freeze ⟨g,0,none⟩ xs.length).os=c.w.os/\(c.w.drew.freeze ⟨g,0,none⟩ xs.length).tape=c.w.tape/\(c.w.drew.freeze ⟨g,0,none⟩ xs.length).output=c.w.output/\(c.w.drew.freeze ⟨g,0,none⟩ xs.length).heap.size=c.w.heap.size:=by
         unfold World.freeze;rw[if_neg xb];exact⟨rfl,rfl,rfl,wz⟩
        refine⟨c.at _,rfl,rfl,Sr.aAB hs lO hown pI hg hsz hw1 rK ?_,Nx.aAB lO pI hfl hg hsz hw1 rK,.str l,λ_ h=>.inl h⟩;simp only[yAp,Nat.mul_one];split
        .exact yAk _
        .exact cz
      .cases hg
     .cases hg
    .cases hg
   .cases hg
  .cases hg
 .cases hg
def E7(fl id:Nat)(σ:List U)(x:PD)(r:PD):Option (PD×List U):=match σ[id]? with
 |some (.box (.typed 125 [p,.slice z xs tok,nn]))=>bJ (fl<=id/\(p=.dJ\/p=.ptr id 0)) (match dV prog fl (σ.set id (.box (.typed 125 [.ptr id 0,.slice z xs tok,nn]))) 45 (.slice z xs tok) x with
  |some (.slice z' xs' bY,σ2)=>bJ (σ2[id]?=some (.box (.typed 125 [.ptr id 0,.slice z xs tok,nn]))) (some (r,σ2.set id (.box (.typed 125 [.ptr id 0,.slice z' xs' bY,nn]))))
  |_=>none)
 |_=>none
def H0:Nat->List PD->List U->Option (PD×List U):=λfl args σ=>match args with
 | [.ptr id 0,.str l]=>E7 fl id σ (HW l) (.aK [.int .i64 l.length,.bL .nilIface])
 |_=>none
def H2:Nat->List PD->List U->Option (PD×List U):=λfl args σ=>match args with
 | [.ptr id 0,.int .u8 c]=>E7 fl id σ (.slice 1 [.int .u8 c] .any) (.bL .nilIface)
 |_=>none
theorem aKC{fl id:Nat}{σ σ':Bv}{x r p':PD}(h:E7 fl id σ x r=some (p',σ')):p'=r/\fl<=id/\∃p z xs tok nn z' xs' bY σ2,σ[id]?=some (.box (.typed 125 [p,.slice z xs tok,nn]))/\(p=.dJ\/p=.ptr id 0) /\
  dV prog fl (σ.set id (.box (.typed 125 [.ptr id 0,.slice z xs tok,nn]))) 45 (.slice z xs tok) x=some (.slice z' xs' bY,σ2)/\σ2[id]?=some (.box (.typed 125 [.ptr id 0,.slice z xs tok,nn]))/\σ'=σ2.set id (.box (.typed 125 [.ptr id 0,.slice z' xs' bY,nn])):=by
 unfold E7 at h;split at h
 .rename_i p z xs tok nn hb;obtain⟨⟨h1,h2⟩,h⟩:=dF h;split at h
  .rename_i z' xs' bY σ2 ha;obtain⟨h3,h⟩:=dF h;simp only[yAb,yAc]at h;exact⟨h.1.symm,h1,p,z,xs,tok,nn,z',xs',bY,σ2,hb,h2,ha,h3,h.2.symm⟩
  .cases h
 .cases h
theorem aKD{fl id:Nat}{σ:Bv}{p s nn:PD}(hfl:fl<=id)(hb:σ[id]?=some (.box (.typed 125 [p,s,nn])))(hp:p=.dJ\/p=.ptr id 0):CZ fl [.ptr id 0] σ=some (.aK [],σ.set id (.box (.typed 125 [.ptr id 0,s,nn]))):=by
 rcases hp with rfl|rfl
 .simp only[CZ,hb,hfl,if_true]
 .have hl:id<σ.length:=(yA.1 hb).1;have:σ.set id (.box (.typed 125 [.ptr id 0,s,nn]))=σ:=by
   refine List.ext_getElem? λj=>?_
   by_cases e:id=j
   .subst e;rw[yAj hl,hb]
   .rw[yAd e]
  simp only[CZ,hb,this,if_true]
variable{E:aE}(hU:aF E)
set_option maxRecDepth 10000
include hU in
theorem aVf(h0:E 103=none)(h1:E 137=some CZ)(fl:Nat)(args:List PD)(σ:List U)(p:PD)(σ':List U)(h:H0 fl args σ=some (p,σ')) :
  lM prog E fl (.inl 103) args σ p σ':=by
 unfold H0 at h;split at h
 .rename_i id l;obtain⟨rfl,hfl,q,z,xs,tok,nn,z',xs',bY,σ2,hb,hq,ha,h2,rfl⟩:=aKC h;have hl:id<σ.length:=(yA.1 hb).1;have hs1:∀x,(σ.set id x)[id]?=some x:=λx=>yAj hl
  have hc:=aKD hfl hb hq;obtain⟨p1,σ1,h3,h4,h5⟩:∃p1 σ1,lM prog E fl (.inl 103) [.ptr id 0,.str l] σ p1 σ1/\p1=.aK [.int .i64 l.length,.bL .nilIface]/\σ1=σ2.set id (.box (.typed 125 [.ptr id 0,.slice z' xs' bY,nn])):=by
   suffices hh:cH prog E fl (.inl 103) [.ptr id 0,.str l] σ (λp1 σ1=>p1=.aK [.int .i64 l.length,.bL .nilIface]/\σ1=σ2.set id (.box (.typed 125 [.ptr id 0,.slice z' xs' bY,nn])))from hh.ex
   refine cH.aU 19 h0 func103 (h:=?_);refine aD (A6 h1 hc hs1 ha h2 hfl) ?_;exact aa
  rw[<-h4,<-h5];exact h3
 .cases h
include hU in
theorem aVg(h0:E 112=none)(h1:E 137=some CZ)(fl:Nat)(args:List PD)(σ:List U)(p:PD)(σ':List U)(h:H2 fl args σ=some (p,σ')) :
  lM prog E fl (.inl 112) args σ p σ':=by
 unfold H2 at h;split at h
 .rename_i id c;obtain⟨rfl,hfl,q,z,xs,tok,nn,z',xs',bY,σ2,hb,hq,ha,h2,rfl⟩:=aKC h;have hl:id<σ.length:=(yA.1 hb).1;have hs1:∀x,(σ.set id x)[id]?=some x:=λx=>yAj hl
  have hc:=aKD hfl hb hq;obtain⟨p1,σ1,h3,h4,h5⟩:∃p1 σ1,lM prog E fl (.inl 112) [.ptr id 0,.int .u8 c] σ p1 σ1/\p1=.bL .nilIface/\σ1=σ2.set id (.box (.typed 125 [.ptr id 0,.slice z' xs' bY,nn])):=by
   suffices hh:cH prog E fl (.inl 112) [.ptr id 0,.int .u8 c] σ (λp1 σ1=>p1=.bL .nilIface/\σ1=σ2.set id (.box (.typed 125 [.ptr id 0,.slice z' xs' bY,nn])))from hh.ex
   refine cH.aU 17 h0 func112 (h:=?_);refine aD (A6 h1 hc hs1 ha h2 hfl) ?_;exact aa
  rw[<-h4,<-h5];exact h3
 .cases h
theorem aSB(hE:aH prog E)(hU:aF E)(h0:E 103=none)(h1:E 137=some CZ):aH prog (E.add 103 H0):=
 hE.add xg λfl args σ p σ' h=>aVf hU h0 h1 fl args σ p σ' h
theorem aSD(hE:aH prog E)(hU:aF E)(h0:E 112=none)(h1:E 137=some CZ):aH prog (E.add 112 H2):=
 hE.add xg λfl args σ p σ' h=>aVg hU h0 h1 fl args σ p σ' h
abbrev bX(s:List UInt8):List PD:=s.map λb=>PD.int .u8 b.toNat
structure eC (σ:List U) (id:Nat) (s:List UInt8) (kk:Int):Prop where
 ex:∃p z tok,σ[id]?=some (.box (.typed 125 [p,.slice z (bX s) tok,.int .i64 kk]))/\(p=.dJ\/p=.ptr id 0)/\((s=[]/\(tok=.nil\/tok=.full))\/(s≠[]/\z=1/\∃gC,tok=.own gC/\σ[gC]?=some (.own 5 1 s.length)))
theorem eC.put{σ:Bv}{id:Nat}{kk:Int}{s l:Bx}(h:eC σ id s kk)(hr:s.length+l.length<=100000000000000){z0:Nat}(hz:l=[]\/z0=1)(tk:Tok)(r:PD):∃σ',E7 0 id σ (.slice z0 (bX l) tk) r=some (r,σ')/\eC σ' id (s++l) kk/\∀j q,j≠id->σ[j]?=some (.box q)->σ'[j]?=some (.box q):=by
 obtain⟨p,z,tok,hb,hp,hc⟩:=h.ex;have hl:id<σ.length:=(yA.1 hb).1;have hu:prog.underlying 45=some (.slice 5):=xg;obtain⟨i,hi,hi1,hi2,z',IE,hi4⟩:∃i,prog.info? 5=some i/\i.size=1/\i.bytes=1/\∃z,i.zero=some z/\z.cells.size=1:=by
  have h:vM prog 45=true:=xo;unfold vM at h;rw[hu]at h;simp only at h;split at h
  .rename_i i hi;split at h
   .rename_i hz;simp only[yAr,beq_iff_eq]at h;exact⟨i,hi,h.1,h.2,_,hz,by simp[Value.cells]⟩
   .cases h
  .cases h
 have hs1:∀x,(σ.set id x)[id]?=some x:=λx=>yAj hl
 have hs2:∀x y:U,(σ.set id x++[y])[id]?=some x:=λx y=>by rw[yAg (by rw[yAD];exact hl)];exact hs1 x
 have hmm:(bX s).length+(bX l).length<=maxLen:=by simp only[yAe,maxLen];omega
 have hbb:((bX s).length+(bX l).length)*1<=140737488355328:=by simp only[yAe];omega
 have hzl:(bX l).length=0\/z0=1:=hz.imp (λh=>ya) (λh=>h)
 by_cases hl0:l=[]
 .subst hl0;have hc0:(bX s).length=0\/z=1:=by
   rcases hc with⟨h,_⟩ | ⟨_,h,_⟩
   .left;rw[h];rfl
   .exact .inr h
  refine⟨(σ.set id (.box (.typed 125 [.ptr id 0,.slice z (bX s) tok,.int .i64 kk]))).set id (.box (.typed 125 [.ptr id 0,.slice z (bX s) tok,.int .i64 kk])),?_,⟨⟨.ptr id 0,z,tok,?_,.inr rfl,?_⟩⟩,λj q hj h=>by rw[List.set_set,yAd (Ne.symm hj)];exact h⟩
  .have ha:dV prog 0 (σ.set id (.box (.typed 125 [.ptr id 0,.slice z (bX s) tok,.int .i64 kk]))) 45 (.slice z (bX s) tok) (.slice z0 (bX []) tk)=some (.slice z (bX s) tok,σ.set id (.box (.typed 125 [.ptr id 0,.slice z (bX s) tok,.int .i64 kk]))):=by
    simp only[dV,hu,hi,hi1,hi2,IE,hi4];rw[if_pos ⟨hc0,hzl,xb,trivial,hmm,hbb⟩];rfl
   simp only[E7,hb];rw[dN ⟨yAF _,hp⟩,ha];simp only;rw[dN (hs1 _)]
  .rw[List.set_set,yAl];exact hs1 _
  .rw[yAl,List.set_set];rcases hc with h | ⟨h1,h2,gC,h3,h4⟩
   .exact .inl h
   .have hne:id≠gC:=by
     rintro rfl
     rw[hb]at h4;cases h4
    exact .inr ⟨h1,h2,gC,h3,by rw[yAd hne];exact h4⟩
 .have hll:¬(bX l).length=0:=by rw[yAe];exact λh=>hl0 (yAf h)
  have hne:s++l≠[]:=by simp[hl0]
  rcases hc with⟨rfl,rfl|rfl⟩ | ⟨h1,rfl,gC,rfl,h4⟩
  .refine⟨((σ.set id (.box (.typed 125 [.ptr id 0,.slice z (bX []) .nil,.int .i64 kk])))++[U.own 5 1 ((bX []).length+(bX l).length)]).set id (.box (.typed 125 [.ptr id 0,.slice 1 (bX []++bX l) (.own σ.length),.int .i64 kk])),?_,⟨⟨.ptr id 0,1,.own σ.length,?_,.inr rfl,?_⟩⟩,λj q hj h=>zw⟩
   .have ha:dV prog 0 (σ.set id (.box (.typed 125 [.ptr id 0,.slice z (bX []) .nil,.int .i64 kk]))) 45 (.slice z (bX []) .nil) (.slice z0 (bX l) tk)=some (.slice 1 (bX []++bX l) (.own σ.length),(σ.set id (.box (.typed 125 [.ptr id 0,.slice z (bX []) .nil,.int .i64 kk])))++[U.own 5 1 ((bX []).length+(bX l).length)]):=by
     exact kz
    exact qi
   .rw[yAj (by rw[yAa,yAD];omega)];simp[bX]
   .exact jg
  .refine⟨((σ.set id (.box (.typed 125 [.ptr id 0,.slice z (bX []) .full,.int .i64 kk])))++[U.own 5 1 ((bX []).length+(bX l).length)]).set id (.box (.typed 125 [.ptr id 0,.slice 1 (bX []++bX l) (.own σ.length),.int .i64 kk])),?_,⟨⟨.ptr id 0,1,.own σ.length,?_,.inr rfl,?_⟩⟩,λj q hj h=>zw⟩
   .have ha:dV prog 0 (σ.set id (.box (.typed 125 [.ptr id 0,.slice z (bX []) .full,.int .i64 kk]))) 45 (.slice z (bX []) .full) (.slice z0 (bX l) tk)=some (.slice 1 (bX []++bX l) (.own σ.length),(σ.set id (.box (.typed 125 [.ptr id 0,.slice z (bX []) .full,.int .i64 kk])))++[U.own 5 1 ((bX []).length+(bX l).length)]):=by
     exact kz
    exact qi
   .rw[yAj (by rw[yAa,yAD];omega)];simp[bX]
   .exact jg
  .have hn2:id≠gC:=by
    rintro rfl
    rw[hb]at h4;cases h4
   have rJ:gC<σ.length:=(yA.1 h4).1;have hs3:∀x y:U,((σ.set id x).set gC y)[id]?=some x:=λx y=>by rw[yAd (Ne.symm hn2)];exact hs1 x
   refine⟨((σ.set id (.box (.typed 125 [.ptr id 0,.slice 1 (bX s) (.own gC),.int .i64 kk]))).set gC (.own 5 1 ((bX s).length+(bX l).length))).set id (.box (.typed 125 [.ptr id 0,.slice 1 (bX s++bX l) (.own gC),.int .i64 kk])),?_,⟨⟨.ptr id 0,1,.own gC,?_,.inr rfl,?_⟩⟩,λj q hj h=>by
    have hj2:gC≠j:=by
     rintro rfl
     rw[h4]at h;cases h
    rw[yAd (Ne.symm hj),yAd hj2,yAd (Ne.symm hj)];exact h⟩
   .have ha:dV prog 0 (σ.set id (.box (.typed 125 [.ptr id 0,.slice 1 (bX s) (.own gC),.int .i64 kk]))) 45 (.slice 1 (bX s) (.own gC)) (.slice z0 (bX l) tk)=some (.slice 1 (bX s++bX l) (.own gC),(σ.set id (.box (.typed 125 [.ptr id 0,.slice 1 (bX s) (.own gC),.int .i64 kk]))).set gC (.own 5 1 ((bX s).length+(bX l).length))):=by
     simp only[dV,hu,hi,hi1,hi2,IE,hi4];rw[if_pos ⟨.inr trivial,hzl,xb,trivial,hmm,hbb⟩,if_neg hll,if_pos ⟨yAF _,trivial⟩,yAd hn2,h4];simp
    simp only[E7,hb];rw[dN ⟨yAF _,hp⟩,ha];simp only;rw[dN (hs3 _ _)]
   .rw[yAj (by simp only[yAD];exact hl)];simp[bX]
   .refine .inr ⟨hne,rfl,gC,rfl,?_⟩;rw[yAd hn2,yAj (by rw[yAD];exact rJ)];simp
theorem eC.more{σ τ:Bv}{id:Nat}{kk:Int}{s:Bx}(h:eC σ id s kk):eC (σ++τ) id s kk:=by
 obtain⟨p,z,tok,hb,hp,hc⟩:=h.ex;have up:∀(j:Nat) (o:U),σ[j]?=some o->(σ++τ)[j]?=some o:=λj o h=>yc
 exact⟨p,z,tok,up _ _ hb,hp,hc.imp (λh=>h) λ⟨h1,h2,gC,h3,h4⟩=>⟨h1,h2,gC,h3,up _ _ h4⟩⟩
set_option maxRecDepth 10000
theorem eC.aU9{σ:Bv}{id:Nat}{kk:Int}{s:Bx}(h:eC σ id s kk)(l:List UInt8)(hr:s.length+l.length<=100000000000000):∃σ',H0 0 [.ptr id 0,.str l] σ=some (.aK [.int .i64 l.length,.bL .nilIface],σ')/\eC σ' id (s++l) kk/\∀j q,j≠id->σ[j]?=some (.box q)->σ'[j]?=some (.box q):=by
 unfold H0 HW;exact h.put hr (z0:=if l.length=0 then 0 else 1) (by by_cases h:l.length=0;exact .inl (yAf h);right;rw[if_neg h]) .any _
theorem eC.aVa{σ:Bv}{id:Nat}{kk:Int}{s:Bx}(h:eC σ id s kk)(b:UInt8)(n:Int)(hn:(b.toNat:Int)=n)(hr:s.length+1<=100000000000000):∃σ',H2 0 [.ptr id 0,.int .u8 n] σ=some (.bL .nilIface,σ')/\eC σ' id (s++[b]) kk/\∀j q,j≠id->σ[j]?=some (.box q)->σ'[j]?=some (.box q):=by
 subst hn;unfold H2;exact h.put (l:=[b]) hr (z0:=1) (.inr rfl) .any _
theorem eC.text{σ:Bv}{id:Nat}{kk:Int}{s:Bx}(h:eC σ id s kk)(hs:s≠[]):MG 0 [.ptr id 0] σ=some (.str s,σ):=by
 obtain⟨p,z,tok,hb,hp,hc⟩:=h.ex;rcases hc with⟨rfl,_⟩ | ⟨h1,rfl,gC,rfl,h4⟩
 .exact absurd rfl hs
 .have h0:0<s.length:=List.length_pos_iff.2 h1;simp only[MG,hb,h4,bX,aAC];simp[h0]
end Go.Kz
end
