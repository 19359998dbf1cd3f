/- Steps of the proof. -/
import Derived.Test.YteegpeenjdgodaaGreatDoorH1b
import Derived.Test.YteegpeenjdgodaaGreatDoorG3
import Derived.Test.YteegpeenjdgodaaGreatDoorG9
import Derived.Test.YteegpeenjdgodaaGreatDoorG5c
set_option linter.all false
set_option maxHeartbeats 40000000
set_option maxRecDepth 100000
open Go.Proofs.Tryz
namespace Go.Kz
open Go Go.Proofs
section
def wD(e k:Nat):Nat->List PD->List aB->Option (PD×List aB):=λfl args σ=>match args with
 | [.aR id 0 0 n sz,.int .i64 i,.slice sx [y] _]=>match σ[id]? with
   |some (.row e' size 0 cs)=>if fl<=id/\size=k/\sz=k/\e'=e/\cs.length=n*k/\i=n/\0<n/\n<=200/\sx=k/\y.cells.length=k then
     some (.aR id 1 0 (n+1) k,σ.set id (.row e k 1 (cs++y.cells)))else none
   |_=>none
 |_=>none
def z7(e k:Nat):Nat->List PD->List aB->Option (PD×List aB):=λfl args σ=>match args with
 | [.slice 0 [] .full,.int .i64 i,.slice sx [y] _]=>if i=0/\sx=k/\y.cells.length=k then some (.aR σ.length 0 0 1 k,σ++[.row e k 0 y.cells])else none
 |_=>none
variable{E E0:aE}(hU:aH E)
include hU
theorem aQs{f ov t e k:Nat}(h4:jX f ov t e k)(h0:E f=none)(fl id n:Nat)(hfl:fl<=id)(y:PD)(tok:Tok)(τ:List aB)(cs:List PD)(hr:τ[id]?=some (.row e k 0 cs))(hl:cs.length=n*k)(hn:n<=200)(hp:0<n)(hy:y.cells.length=k) :
  aL prog E fl (.inl f) [.aR id 0 0 n k,.int .i64 n,.slice k [y] tok] τ (λp σ'=>p=.aR id 1 0 (n+1) k/\σ'=τ.set id (.row e k 1 (cs++y.cells))):=by
 have mU:=h4.ut;have hk:=h4.hk;have hsl:s8 prog t (.aR id 0 0 n k) (some (some (.int .i64 n))) none none=some (.slice k [] .any):=by
  have h1:cH prog e=some k:=by
   exact ey
  have h2:¬n=0:=Ah;simp[s8,mU,h1,mP,gU,h2]
 have hap:∀u,lE t u=true->fR prog u fl τ t (.aR id 0 0 n k) (.slice k [y] tok)=some (.aR id 1 0 (n+1) k,τ.set id (.row e k 1 (cs++y.cells))):=λu hu=>by
  obtain⟨inf,z,hin,hz,hs,hb,hzs,h1⟩:=QG (P:=prog) (e:=e) (k:=k) (by
   unfold jX at h4;rcases h4 with⟨rfl,rfl,rfl,rfl,rfl⟩ | ⟨rfl,rfl,rfl,rfl,rfl⟩ | ⟨rfl,rfl,rfl,rfl,rfl⟩ | ⟨rfl,rfl,rfl,rfl,rfl⟩<;>kernel_rfl)
  have hbb:(n+1)*inf.bytes<=140737488355328:=yAV (yDy (show n+1<=1000 by omega) hb) Al;have hml:n+1<=maxLen:=Ay;have hall:z.cells.toList.all Value.oneCell'=true:=yAn.2 λv hv=>h1 v hv
  have hv:vY τ (.slice k [y] tok)=some (k,[y]):=rfl;unfold jX at h4;rcases h4 with⟨rfl,rfl,rfl,rfl,rfl⟩ | ⟨rfl,rfl,rfl,rfl,rfl⟩ | ⟨rfl,rfl,rfl,rfl,rfl⟩ | ⟨rfl,rfl,rfl,rfl,rfl⟩
  all_goals
   unfold fR;rw[yAJ hu,mU,hv];simp only[hin,hz,hs,hzs,hall,hbb,hml,hr,yCX,hfl,yBy,yAL,Nat.lt_add_one,yDR,yCp,yCa,yBl];rw[yAI Ah,yAJ Ah];simp
 unfold jX at h4;rcases h4 with⟨rfl,rfl,rfl,rfl,rfl⟩ | ⟨rfl,rfl,rfl,rfl,rfl⟩ | ⟨rfl,rfl,rfl,rfl,rfl⟩ | ⟨rfl,rfl,rfl,rfl,rfl⟩
 all_goals
  have hz9:=h0
  first|apply aL.lY h0 func112 rfl|apply aL.lY h0 func114 rfl|apply aL.lY h0 func116 rfl|apply aL.lY h0 func120 rfl
  focus(simp[show Tryz.f112.ntmps=_ from rfl,show Tryz.f114.ntmps=_ from rfl,show Tryz.f116.ntmps=_ from rfl,show Tryz.f120.ntmps=_ from rfl,List.replicate];rfl)
  refine aC (A2 hsl hap) ?_;exact ay
theorem QH{f ov t e k:Nat}(h4:jX f ov t e k)(hE:aF prog E)(h0:E f=none):aF prog (E.add f (wD e k)):=
 hE.add bI λfl args σ p σ' h=>by
  unfold wD at h;split at h
  rotate_left
  .cases h
  rename_i id n sz i sx y tok;split at h
  rotate_left
  .cases h
  rename_i e' size cs hq;split at h
  rotate_left
  .cases h
  rename_i hc;obtain⟨hfl,rfl,rfl,rfl,hlen,rfl,hp,hn,rfl,hy⟩:=hc;simp only[yAb,yAc]at h;obtain⟨rfl,rfl⟩:=h;obtain⟨p1,σ1,k1,rfl,rfl⟩:=(aQs hU h4 h0 fl id n hfl y tok σ cs hq hlen hn hp hy).ex;exact k1
theorem aQt{f ov t e k:Nat}(h4:jX f ov t e k)(h0:E f=none)(fl:Nat)(y:PD)(tok:Tok)(τ:List aB)(hy:y.cells.length=k) :
  aL prog E fl (.inl f) [.slice 0 [] .full,.int .i64 0,.slice k [y] tok] τ (λp σ'=>p=.aR τ.length 0 0 1 k/\σ'=τ++[.row e k 0 y.cells]):=by
 have mU:=h4.ut;have hk:=h4.hk;have hap:∀u,lE t u=true->fR prog u fl τ t (.slice 0 [] .full) (.slice k [y] tok)=some (.aR τ.length 0 0 1 k,τ++[.row e k 0 y.cells]):=λu hu=>by
  obtain⟨inf,z,hin,hz,hs,hb,hzs,h1⟩:=QG (P:=prog) (e:=e) (k:=k) (by
   unfold jX at h4;rcases h4 with⟨rfl,rfl,rfl,rfl,rfl⟩ | ⟨rfl,rfl,rfl,rfl,rfl⟩ | ⟨rfl,rfl,rfl,rfl,rfl⟩ | ⟨rfl,rfl,rfl,rfl,rfl⟩<;>kernel_rfl)
  have hbb:(0+1)*inf.bytes<=140737488355328:=Ah;have hml:0+1<=maxLen:=Ay;have hall:z.cells.toList.all Value.oneCell'=true:=yAn.2 λv hv=>h1 v hv
  have hv:vY τ (.slice k [y] tok)=some (k,[y]):=rfl;unfold jX at h4;rcases h4 with⟨rfl,rfl,rfl,rfl,rfl⟩ | ⟨rfl,rfl,rfl,rfl,rfl⟩ | ⟨rfl,rfl,rfl,rfl,rfl⟩ | ⟨rfl,rfl,rfl,rfl,rfl⟩
  all_goals
   unfold fR;rw[yAJ hu,mU,hv];simp only[hin,hz,hs,hzs,hall,hbb,hml,yCX,yAQ,Tok.fresh,yBy,yAL,Nat.lt_add_one,yDR,yCp,yCa,true_or,yBl];simp
 unfold jX at h4;rcases h4 with⟨rfl,rfl,rfl,rfl,rfl⟩ | ⟨rfl,rfl,rfl,rfl,rfl⟩ | ⟨rfl,rfl,rfl,rfl,rfl⟩ | ⟨rfl,rfl,rfl,rfl,rfl⟩
 all_goals
  have hz9:=h0
  first|apply aL.lY h0 func112 rfl|apply aL.lY h0 func114 rfl|apply aL.lY h0 func116 rfl|apply aL.lY h0 func120 rfl
  focus(simp[show Tryz.f112.ntmps=_ from rfl,show Tryz.f114.ntmps=_ from rfl,show Tryz.f116.ntmps=_ from rfl,show Tryz.f120.ntmps=_ from rfl,List.replicate];rfl)
  refine aC hap ?_;exact ay
theorem QI{f ov t e k:Nat}(h4:jX f ov t e k)(hE:aF prog E)(h0:E f=none):aF prog (E.add f (z7 e k)):=
 hE.add bI λfl args σ p σ' h=>by
  unfold z7 at h;split at h
  rotate_left
  .cases h
  split at h
  rotate_left
  .cases h
  rename_i hc;obtain⟨rfl,rfl,hy⟩:=hc;simp only[yAb,yAc]at h;obtain⟨rfl,rfl⟩:=h;obtain⟨p1,σ1,k1,rfl,rfl⟩:=(aQt hU h4 h0 fl _ _ σ hy).ex;exact k1
theorem aMt(hE:aF prog E)(h0:E 112=none):aF prog (E.add 112 (wD 48 6)):=QH hU (.inl ⟨rfl,rfl,rfl,rfl,rfl⟩) hE h0
theorem aMu(hE:aF prog E)(h0:E 112=none):aF prog (E.add 112 (z7 48 6)):=QI hU (.inl ⟨rfl,rfl,rfl,rfl,rfl⟩) hE h0
theorem aMw(hE:aF prog E)(h0:E 114=none):aF prog (E.add 114 (wD 53 5)):=QH hU (.inr (.inl ⟨rfl,rfl,rfl,rfl,rfl⟩)) hE h0
theorem aMx(hE:aF prog E)(h0:E 114=none):aF prog (E.add 114 (z7 53 5)):=QI hU (.inr (.inl ⟨rfl,rfl,rfl,rfl,rfl⟩)) hE h0
theorem aMD(hE:aF prog E)(h0:E 116=none):aF prog (E.add 116 (wD 56 4)):=QH hU (.inr (.inr (.inl ⟨rfl,rfl,rfl,rfl,rfl⟩))) hE h0
theorem aME(hE:aF prog E)(h0:E 116=none):aF prog (E.add 116 (z7 56 4)):=QI hU (.inr (.inr (.inl ⟨rfl,rfl,rfl,rfl,rfl⟩))) hE h0
theorem aMz(hE:aF prog E)(h0:E 120=none):aF prog (E.add 120 (wD 58 5)):=QH hU (.inr (.inr (.inr ⟨rfl,rfl,rfl,rfl,rfl⟩))) hE h0
theorem aMA(hE:aF prog E)(h0:E 120=none):aF prog (E.add 120 (z7 58 5)):=QI hU (.inr (.inr (.inr ⟨rfl,rfl,rfl,rfl,rfl⟩))) hE h0
end
section
variable{E E0:aE}(hU:aH E)
include hU
theorem aND{gI gD:Fw}(h0:E 87=none)(h1:E 120=some gI)(h2:E 121=some gD)
  (l p:PD) (way i:Int) (nm:List UInt8) (a b sh:Int) (th:Bool) (τ σ':List aB) (hw:way=0) (hi:0<=i/\i<=1000) (hI:gI 0 [l,.int .i64 i,.slice 5 [.agg [.str nm,.int .i64 a,.int .i64 b,.int .i64 sh,.bool th]] .full] (τ++[.box (.agg [.str nm,.int .i64 a,.int .i64 b,.int .i64 sh,.bool th])])=some (p,σ')) :
  aL prog E 0 (.inl 87) [l,.int .i64 way,.int .i64 i,.agg [.str nm,.int .i64 a,.int .i64 b,.int .i64 sh,.bool th]] τ (λp1 σ1=>p1=p/\σ1=σ'):=by
 subst hw;clear hU;refine aL.aN 29 h0 func87 (h:=?_);exact yb
theorem aNE{gI gD:Fw}(h0:E 87=none)(h1:E 120=some gI)(h2:E 121=some gD)
  (l p:PD) (way i:Int) (nm:List UInt8) (a b sh:Int) (th:Bool) (τ σ':List aB) (hw:way=1) (hi:0<=i/\i<=1000) (hD:gD 0 [l,.int .i64 i,.int .i64 (i+1)] (τ++[.box (.agg [.str nm,.int .i64 a,.int .i64 b,.int .i64 sh,.bool th])])=some (p,σ')) :
  aL prog E 0 (.inl 87) [l,.int .i64 way,.int .i64 i,.agg [.str nm,.int .i64 a,.int .i64 b,.int .i64 sh,.bool th]] τ (λp1 σ1=>p1=p/\σ1=σ'):=by
 subst hw;clear hU;refine aL.aN 29 h0 func87 (h:=?_);exact xy
theorem aNF(h0:E 87=none)(id n:Nat)(way:Int)(i:Nat)(nm:List UInt8)(a b sh:Int)(th:Bool)(τ:List aB)(cs:List PD)(hw:way=2)(hi:i<n)(hn:n<=1000000)(hr:τ[id]?=some (.row 58 5 0 cs))(hl:cs.length=n*5) :
  aL prog E 0 (.inl 87) [.aR id 0 0 n 5,.int .i64 way,.int .i64 i,.agg [.str nm,.int .i64 a,.int .i64 b,.int .i64 sh,.bool th]] τ (λp1 σ1=>p1=.aR id 0 0 n 5/\σ1=τ.set id (.row 58 5 0 (dG cs (i*5) [.str nm,.int .i64 a,.int .i64 b,.int .i64 sh,.bool th]))++[.box (.agg [.str nm,.int .i64 a,.int .i64 b,.int .i64 sh,.bool th])]):=by
 subst hw;have EU:aH E/\True:=⟨hU,trivial⟩;clear hU;have xk:jZ prog 33 (.aR id 0 0 n 5) (.int .i64 i)=some (.dH id 0 (i*5)):=by
  simp[lH,hi]
 obtain⟨r7,y7⟩:=yA.1 hr;have gK:i*5+5<=cs.length:=Ah;have u7:=cE (τ:=[aB.box (.agg [.str nm,.int .i64 a,.int .i64 b,.int .i64 sh,.bool th])]) hr;have j0:∀x:aB,(τ++[x])[τ.length]?=some x:=λx=>Ai
 have q1:(i:Int)<(n:Int):=Ah;refine aL.aN 29 h0 func87 (h:=?_);exact dw
end
section
variable{E E0:aE}(hU:aH E)
include hU
theorem aNM{gI gD:Fw}(h0:E 85=none)(h1:E 116=some gI)(h2:E 117=some gD)
  (l p:PD) (way i:Int) (nm:List UInt8) (a b:Int) (h:PD) (hh:h=.slice 0 [] .full\/∃id m,h=.aR id 0 0 m 3) (τ σ':List aB) (hw:way=0) (hi:0<=i/\i<=1000) (hI:gI 0 [l,.int .i64 i,.slice 4 [.agg [.str nm,.int .i64 a,.int .i64 b,h.strip]] .full] (τ++[.box (.agg [.str nm,.int .i64 a,.int .i64 b,h])])=some (p,σ')) :
  aL prog E 0 (.inl 85) [l,.int .i64 way,.int .i64 i,.agg [.str nm,.int .i64 a,.int .i64 b,h]] τ (λp1 σ1=>p1=p/\σ1=σ'):=by
 subst hw;rcases hh with rfl | ⟨AJ,m1,rfl⟩
 .simp only[PD.strip]at hI;clear hU;refine aL.aN 29 h0 func85 (h:=?_);exact yb
 .simp only[PD.strip]at hI;clear hU;refine aL.aN 29 h0 func85 (h:=?_);exact yb
theorem aNN{gI gD:Fw}(h0:E 85=none)(h1:E 116=some gI)(h2:E 117=some gD)
  (l p:PD) (way i:Int) (nm:List UInt8) (a b:Int) (h:PD) (hh:h=.slice 0 [] .full\/∃id m,h=.aR id 0 0 m 3) (τ σ':List aB) (hw:way=1) (hi:0<=i/\i<=1000) (hD:gD 0 [l,.int .i64 i,.int .i64 (i+1)] (τ++[.box (.agg [.str nm,.int .i64 a,.int .i64 b,h])])=some (p,σ')) :
  aL prog E 0 (.inl 85) [l,.int .i64 way,.int .i64 i,.agg [.str nm,.int .i64 a,.int .i64 b,h]] τ (λp1 σ1=>p1=p/\σ1=σ'):=by
 subst hw;rcases hh with rfl | ⟨AJ,m1,rfl⟩
 .clear hU;refine aL.aN 29 h0 func85 (h:=?_);exact xy
 .clear hU;refine aL.aN 29 h0 func85 (h:=?_);exact xy
theorem aNO(h0:E 85=none)(id n:Nat)(way:Int)(i:Nat)(nm:List UInt8)(a b:Int)(h:PD)(hh:h=.slice 0 [] .full\/∃id m,h=.aR id 0 0 m 3)(τ:List aB)(cs:List PD)(hw:way=2)(hi:i<n)(hn:n<=1000000)(hr:τ[id]?=some (.row 56 4 0 cs))(hl:cs.length=n*4) :
  aL prog E 0 (.inl 85) [.aR id 0 0 n 4,.int .i64 way,.int .i64 i,.agg [.str nm,.int .i64 a,.int .i64 b,h]] τ (λp1 σ1=>p1=.aR id 0 0 n 4/\σ1=τ.set id (.row 56 4 0 (dG cs (i*4) [.str nm,.int .i64 a,.int .i64 b,h]))++[.box (.agg [.str nm,.int .i64 a,.int .i64 b,h])]):=by
 subst hw;rcases hh with rfl | ⟨AJ,m1,rfl⟩
 .have EU:aH E/\True:=⟨hU,trivial⟩;clear hU;have xk:jZ prog 51 (.aR id 0 0 n 4) (.int .i64 i)=some (.dH id 0 (i*4)):=by
   simp[lH,hi]
  obtain⟨r7,y7⟩:=yA.1 hr;have gK:i*4+4<=cs.length:=Ah;have u7:=cE (τ:=[aB.box (.agg [.str nm,.int .i64 a,.int .i64 b,.slice 0 [] .full])]) hr;exact xz
 .have EU:aH E/\True:=⟨hU,trivial⟩;clear hU;have xk:jZ prog 51 (.aR id 0 0 n 4) (.int .i64 i)=some (.dH id 0 (i*4)):=by
   simp[lH,hi]
  obtain⟨r7,y7⟩:=yA.1 hr;have gK:i*4+4<=cs.length:=Ah;have u7:=cE (τ:=[aB.box (.agg [.str nm,.int .i64 a,.int .i64 b,.aR AJ 0 0 m1 3])]) hr;exact xz
end
section
variable{E E0:aE}(hU:aH E)
include hU
theorem aNJ{gI gD:Fw}(h0:E 84=none)(h1:E 114=some gI)(h2:E 115=some gD)
  (l p:PD) (way i:Int) (nm:List UInt8) (pe:Bool) (a b:Int) (h:PD) (hh:h=.slice 0 [] .full\/∃id m,h=.aR id 0 0 m 4) (τ σ':List aB) (hw:way=0) (hi:0<=i/\i<=1000) (hI:gI 0 [l,.int .i64 i,.slice 5 [.agg [.str nm,.bool pe,.int .i64 a,.int .i64 b,h.strip]] .full] (τ++[.box (.agg [.str nm,.bool pe,.int .i64 a,.int .i64 b,h])])=some (p,σ')) :
  aL prog E 0 (.inl 84) [l,.int .i64 way,.int .i64 i,.agg [.str nm,.bool pe,.int .i64 a,.int .i64 b,h]] τ (λp1 σ1=>p1=p/\σ1=σ'):=by
 subst hw;rcases hh with rfl | ⟨AJ,m1,rfl⟩
 .simp only[PD.strip]at hI;clear hU;refine aL.aN 29 h0 func84 (h:=?_);exact yb
 .simp only[PD.strip]at hI;clear hU;refine aL.aN 29 h0 func84 (h:=?_);exact yb
theorem aNK{gI gD:Fw}(h0:E 84=none)(h1:E 114=some gI)(h2:E 115=some gD)
  (l p:PD) (way i:Int) (nm:List UInt8) (pe:Bool) (a b:Int) (h:PD) (hh:h=.slice 0 [] .full\/∃id m,h=.aR id 0 0 m 4) (τ σ':List aB) (hw:way=1) (hi:0<=i/\i<=1000) (hD:gD 0 [l,.int .i64 i,.int .i64 (i+1)] (τ++[.box (.agg [.str nm,.bool pe,.int .i64 a,.int .i64 b,h])])=some (p,σ')) :
  aL prog E 0 (.inl 84) [l,.int .i64 way,.int .i64 i,.agg [.str nm,.bool pe,.int .i64 a,.int .i64 b,h]] τ (λp1 σ1=>p1=p/\σ1=σ'):=by
 subst hw;rcases hh with rfl | ⟨AJ,m1,rfl⟩
 .clear hU;refine aL.aN 29 h0 func84 (h:=?_);exact xy
 .clear hU;refine aL.aN 29 h0 func84 (h:=?_);exact xy
theorem aNL(h0:E 84=none)(id n:Nat)(way:Int)(i:Nat)(nm:List UInt8)(pe:Bool)(a b:Int)(h:PD)(hh:h=.slice 0 [] .full\/∃id m,h=.aR id 0 0 m 4)(τ:List aB)(cs:List PD)(hw:way=2)(hi:i<n)(hn:n<=1000000)(hr:τ[id]?=some (.row 53 5 0 cs))(hl:cs.length=n*5) :
  aL prog E 0 (.inl 84) [.aR id 0 0 n 5,.int .i64 way,.int .i64 i,.agg [.str nm,.bool pe,.int .i64 a,.int .i64 b,h]] τ (λp1 σ1=>p1=.aR id 0 0 n 5/\σ1=τ.set id (.row 53 5 0 (dG cs (i*5) [.str nm,.bool pe,.int .i64 a,.int .i64 b,h]))++[.box (.agg [.str nm,.bool pe,.int .i64 a,.int .i64 b,h])]):=by
 subst hw;rcases hh with rfl | ⟨AJ,m1,rfl⟩
 .have EU:aH E/\True:=⟨hU,trivial⟩;clear hU;have xk:jZ prog 32 (.aR id 0 0 n 5) (.int .i64 i)=some (.dH id 0 (i*5)):=by
   simp[lH,hi]
  obtain⟨r7,y7⟩:=yA.1 hr;have gK:i*5+5<=cs.length:=Ah;have u7:=cE (τ:=[aB.box (.agg [.str nm,.bool pe,.int .i64 a,.int .i64 b,.slice 0 [] .full])]) hr;exact ya
 .have EU:aH E/\True:=⟨hU,trivial⟩;clear hU;have xk:jZ prog 32 (.aR id 0 0 n 5) (.int .i64 i)=some (.dH id 0 (i*5)):=by
   simp[lH,hi]
  obtain⟨r7,y7⟩:=yA.1 hr;have gK:i*5+5<=cs.length:=Ah;have u7:=cE (τ:=[aB.box (.agg [.str nm,.bool pe,.int .i64 a,.int .i64 b,.aR AJ 0 0 m1 4])]) hr;exact ya
end
section
variable{E E0:aE}(hU:aH E)
include hU
theorem aNG{gI gD:Fw}(h0:E 82=none)(h1:E 112=some gI)(h2:E 113=some gD)
  (l p:PD) (way i:Int) (nm tn:List UInt8) (a b sh:Int) (zw:Nat) (xs:List PD) (hx:(PD.slice zw xs .any).strip=.slice zw xs .any) (τ σ':List aB) (hw:way=0) (hi:0<=i/\i<=1000) (hI:gI 0 [l,.int .i64 i,.slice 6 [.agg [.str nm,.str tn,.int .i64 a,.int .i64 b,.int .i64 sh,.slice zw xs .any]] .full] (τ++[.box (.agg [.str nm,.str tn,.int .i64 a,.int .i64 b,.int .i64 sh,.slice zw xs .any])])=some (p,σ')) :
  aL prog E 0 (.inl 82) [l,.int .i64 way,.int .i64 i,.agg [.str nm,.str tn,.int .i64 a,.int .i64 b,.int .i64 sh,.slice zw xs .any]] τ (λp1 σ1=>p1=p/\σ1=σ'):=by
 subst hw;clear hU;refine aL.aN 29 h0 func82 (h:=?_);refine aC (A3 h1 hI hx) ?_;exact ay
theorem aNH{gI gD:Fw}(h0:E 82=none)(h1:E 112=some gI)(h2:E 113=some gD)
  (l p:PD) (way i:Int) (nm tn:List UInt8) (a b sh:Int) (zw:Nat) (xs:List PD) (hx:(PD.slice zw xs .any).strip=.slice zw xs .any) (τ σ':List aB) (hw:way=1) (hi:0<=i/\i<=1000) (hD:gD 0 [l,.int .i64 i,.int .i64 (i+1)] (τ++[.box (.agg [.str nm,.str tn,.int .i64 a,.int .i64 b,.int .i64 sh,.slice zw xs .any])])=some (p,σ')) :
  aL prog E 0 (.inl 82) [l,.int .i64 way,.int .i64 i,.agg [.str nm,.str tn,.int .i64 a,.int .i64 b,.int .i64 sh,.slice zw xs .any]] τ (λp1 σ1=>p1=p/\σ1=σ'):=by
 subst hw;clear hU;refine aL.aN 29 h0 func82 (h:=?_);exact xy
theorem aNI(h0:E 82=none)(id n:Nat)(way:Int)(i:Nat)(nm tn:List UInt8)(a b sh:Int)(zw:Nat)(xs:List PD)(hx:(PD.slice zw xs .any).strip=.slice zw xs .any)(τ:List aB)(cs:List PD)(hw:way=2)(hi:i<n)(hn:n<=1000000)(hr:τ[id]?=some (.row 48 6 0 cs))(hl:cs.length=n*6) :
  aL prog E 0 (.inl 82) [.aR id 0 0 n 6,.int .i64 way,.int .i64 i,.agg [.str nm,.str tn,.int .i64 a,.int .i64 b,.int .i64 sh,.slice zw xs .any]] τ (λp1 σ1=>p1=.aR id 0 0 n 6/\σ1=τ.set id (.row 48 6 0 (dG cs (i*6) [.str nm,.str tn,.int .i64 a,.int .i64 b,.int .i64 sh,.slice zw xs .any]))++[.box (.agg [.str nm,.str tn,.int .i64 a,.int .i64 b,.int .i64 sh,.slice zw xs .any])]):=by
 subst hw;have EU:aH E/\True:=⟨hU,trivial⟩;clear hU;have xk:jZ prog 31 (.aR id 0 0 n 6) (.int .i64 i)=some (.dH id 0 (i*6)):=by
  simp[lH,hi]
 obtain⟨r7,y7⟩:=yA.1 hr;have gK:i*6+6<=cs.length:=Ah;have u7:=cE (τ:=[aB.box (.agg [.str nm,.str tn,.int .i64 a,.int .i64 b,.int .i64 sh,.slice zw xs .any])]) hr;have j0:∀x:aB,(τ++[x])[τ.length]?=some x:=λx=>Ai
 have q1:(i:Int)<(n:Int):=Ah;refine aL.aN 29 h0 func82 (h:=?_);exact dw
end
section
variable{E E0:aE}(hU:aH E)
include hU
theorem aKg(h0:E 56=none)(kd:Nat)(hk:kd<13)(d i:Int)(nm rn rt fn sn cn:List UInt8)(ra rb rf fl fh sa sb ca cb cs:Int)(fp ct:Bool)(wk sk gk:Nat)(W S G:List PD) :
  aL prog E 0 (.inl 56) [.agg [.int .i64 ((kd:Int)+1),.int .i64 d,.int .i64 i,.str nm,.str rn,.str rt,.int .i64 ra,.int .i64 rb,.int .i64 rf,.slice wk W .any,.str fn,.bool fp,.int .i64 fl,.int .i64 fh,.slice sk S .any,.str sn,.int .i64 sa,.int .i64 sb,.slice gk G .any,.str cn,.int .i64 ca,.int .i64 cb,.int .i64 cs,.bool ct]] [] (λp σ=>p=.aI [.int .i64 ((kd/3:Nat):Int),.int .i64 ((kd%3:Nat):Int)]):=by
 have e1:(kd:Int)/3=((kd/3:Nat):Int):=Ah;have e2:(kd:Int)%3=((kd%3:Nat):Int):=Ah;refine aL.aN 12 h0 func56 (h:=?_);refine aC trivial ?_;have e3:((kd:Int)).tmod 3=((kd%3:Nat):Int):=by rw[yBY Ah];omega
 refine⟨_,_,rfl,?_⟩;simp[e3]
end
section
variable{E E0:aE}(hU:aH E)
include hU
theorem aNR{gW:Fw}(h0:E 80=none)(h1:E 56=some gW)(nm:List UInt8)(iR nR iD nD iC nC:Nat)(σ:List aB)(k d i wy:Int)(wQ rn rt fn sn cn:List UInt8)(ra rb rf fl fh sa sb ca cb cs:Int)(fp ct:Bool)(wk sk gk:Nat)(W S G:List PD)
  (hW:∀AM τ,gW AM [.agg [.int .i64 k,.int .i64 d,.int .i64 i,.str wQ,.str rn,.str rt,.int .i64 ra,.int .i64 rb,.int .i64 rf,.slice wk W .any,.str fn,.bool fp,.int .i64 fl,.int .i64 fh,.slice sk S .any,.str sn,.int .i64 sa,.int .i64 sb,.slice gk G .any,.str cn,.int .i64 ca,.int .i64 cb,.int .i64 cs,.bool ct]] τ=some (.aI [.int .i64 0,.int .i64 wy],τ)) :
  aL prog E 0 (.inl 80) [.agg [.int .i64 k,.int .i64 d,.int .i64 i,.str wQ,.str rn,.str rt,.int .i64 ra,.int .i64 rb,.int .i64 rf,.slice wk W .any,.str fn,.bool fp,.int .i64 fl,.int .i64 fh,.slice sk S .any,.str sn,.int .i64 sa,.int .i64 sb,.slice gk G .any,.str cn,.int .i64 ca,.int .i64 cb,.int .i64 cs,.bool ct],.agg [.str nm,Go.Kz.hd 6 iR nR,Go.Kz.hd 5 iD nD,Go.Kz.hd 5 iC nC]] σ (λp σ'=>p=.aI [.int .i64 nR,.bool true]/\∃L,σ'=σ++L):=by
 have lD:=x7 6 iR nR underlying31;obtain⟨hR,hhR⟩:=gn (Go.Kz.hd 6 iR nR);obtain⟨hD,hhD⟩:=gn (Go.Kz.hd 5 iD nD);obtain⟨hC,hhC⟩:=gn (Go.Kz.hd 5 iC nC);have pR:hR.plain=true:=Az;have pD:hD.plain=true:=Ba;have pC:hC.plain=true:=Bb;unfold PD.plain at pR pD pC;simp only[hhR,hhD,hhC]at lD ⊢;simp[j5,underlying31]at lD;exact az
theorem aNQ{gW:Fw}(h0:E 80=none)(h1:E 56=some gW)(nm:List UInt8)(iR nR iD nD iC nC:Nat)(σ:List aB)(k d i wy:Int)(wQ rn rt fn sn cn:List UInt8)(ra rb rf fl fh sa sb ca cb cs:Int)(fp ct:Bool)(wk sk gk:Nat)(W S G:List PD)
  (hW:∀AM τ,gW AM [.agg [.int .i64 k,.int .i64 d,.int .i64 i,.str wQ,.str rn,.str rt,.int .i64 ra,.int .i64 rb,.int .i64 rf,.slice wk W .any,.str fn,.bool fp,.int .i64 fl,.int .i64 fh,.slice sk S .any,.str sn,.int .i64 sa,.int .i64 sb,.slice gk G .any,.str cn,.int .i64 ca,.int .i64 cb,.int .i64 cs,.bool ct]] τ=some (.aI [.int .i64 1,.int .i64 wy],τ)) :
  aL prog E 0 (.inl 80) [.agg [.int .i64 k,.int .i64 d,.int .i64 i,.str wQ,.str rn,.str rt,.int .i64 ra,.int .i64 rb,.int .i64 rf,.slice wk W .any,.str fn,.bool fp,.int .i64 fl,.int .i64 fh,.slice sk S .any,.str sn,.int .i64 sa,.int .i64 sb,.slice gk G .any,.str cn,.int .i64 ca,.int .i64 cb,.int .i64 cs,.bool ct],.agg [.str nm,Go.Kz.hd 6 iR nR,Go.Kz.hd 5 iD nD,Go.Kz.hd 5 iC nC]] σ (λp σ'=>p=.aI [.int .i64 nD,.bool true]/\∃L,σ'=σ++L):=by
 have lD:=x7 5 iD nD underlying32;obtain⟨hR,hhR⟩:=gn (Go.Kz.hd 6 iR nR);obtain⟨hD,hhD⟩:=gn (Go.Kz.hd 5 iD nD);obtain⟨hC,hhC⟩:=gn (Go.Kz.hd 5 iC nC);have pR:hR.plain=true:=Az;have pD:hD.plain=true:=Ba;have pC:hC.plain=true:=Bb;unfold PD.plain at pR pD pC;simp only[hhR,hhD,hhC]at lD ⊢;simp[j5,underlying32]at lD;exact az
theorem aNS{gW:Fw}(h0:E 80=none)(h1:E 56=some gW)(nm:List UInt8)(iR nR iD nD iC nC:Nat)(σ:List aB)(k d i wy:Int)(wQ rn rt fn sn cn:List UInt8)(ra rb rf fl fh sa sb ca cb cs:Int)(fp ct:Bool)(wk sk gk:Nat)(W S G:List PD)
  (hW:∀AM τ,gW AM [.agg [.int .i64 k,.int .i64 d,.int .i64 i,.str wQ,.str rn,.str rt,.int .i64 ra,.int .i64 rb,.int .i64 rf,.slice wk W .any,.str fn,.bool fp,.int .i64 fl,.int .i64 fh,.slice sk S .any,.str sn,.int .i64 sa,.int .i64 sb,.slice gk G .any,.str cn,.int .i64 ca,.int .i64 cb,.int .i64 cs,.bool ct]] τ=some (.aI [.int .i64 3,.int .i64 wy],τ)) :
  aL prog E 0 (.inl 80) [.agg [.int .i64 k,.int .i64 d,.int .i64 i,.str wQ,.str rn,.str rt,.int .i64 ra,.int .i64 rb,.int .i64 rf,.slice wk W .any,.str fn,.bool fp,.int .i64 fl,.int .i64 fh,.slice sk S .any,.str sn,.int .i64 sa,.int .i64 sb,.slice gk G .any,.str cn,.int .i64 ca,.int .i64 cb,.int .i64 cs,.bool ct],.agg [.str nm,Go.Kz.hd 6 iR nR,Go.Kz.hd 5 iD nD,Go.Kz.hd 5 iC nC]] σ (λp σ'=>p=.aI [.int .i64 nC,.bool true]/\∃L,σ'=σ++L):=by
 have lD:=x7 5 iC nC underlying33;obtain⟨hR,hhR⟩:=gn (Go.Kz.hd 6 iR nR);obtain⟨hD,hhD⟩:=gn (Go.Kz.hd 5 iD nD);obtain⟨hC,hhC⟩:=gn (Go.Kz.hd 5 iC nC);have pR:hR.plain=true:=Az;have pD:hD.plain=true:=Ba;have pC:hC.plain=true:=Bb;unfold PD.plain at pR pD pC;simp only[hhR,hhD,hhC]at lD ⊢;simp[j5,underlying33]at lD;exact az
end
structure bC where
 kind:Int
 div:Int
 idx:Int
 name:Gd
 aG:bB
 frame:bD
 stop:bW
 aK:bP
 deriving DecidableEq
def bO.edit:bO bC:=((bO.one i64).pair ((bO.one i64).pair ((bO.one i64).pair ((bO.one .text).pair (bO.aG.pair (bO.div.pair (bO.stop.pair bO.aK))))))).mK (λx=>(x.kind,x.div,x.idx,x.name,x.aG,x.frame,x.stop,x.aK)) (λx y h=>Aq)
def Em.edit:Em bC:=.agg .edit
theorem cU{x:bC}:Em.edit.aA x=.agg [.int .i64 x.kind,.int .i64 x.div,.int .i64 x.idx,.str x.name,.str x.aG.name,.str x.aG.jJ,.int .i64 x.aG.num,.int .i64 x.aG.den,.int .i64 x.aG.first,fM.aA x.aG.kX,.str x.frame.name,.bool x.frame.eE,.int .i64 x.frame.low,.int .i64 x.frame.high,mX.aA x.frame.stops,.str x.stop.name,.int .i64 x.stop.num,.int .i64 x.stop.den,nO.aA x.stop.aU,.str x.aK.name,.int .i64 x.aK.dR,.int .i64 x.aK.dst,.int .i64 x.aK.shift,.bool x.aK.o9]:=rfl
def dK:bB:=⟨[],[],0,0,0,[]⟩
def bS:bD:=⟨[],false,0,0,[]⟩
def dN:bW:=⟨[],0,0,[]⟩
def eD:bP:=⟨[],0,0,0,false⟩
def pM:aP:=⟨[],[],[],[]⟩
def n5(x:bC):bC:=
 if x.kind=13 then { x with name:=[] }
 else
  let th:=(x.kind-1)/3
  let y:={ x with idx:=0,div:=if th=2 then 0 else x.div }
  if (x.kind-1)%3=1 then y
  else if th=0 then { y with aG:=dK }else if th=1 then { y with frame:=bS }else if th=2 then { y with stop:=dN }else { y with aK:=eD }
def lP(x:bC):Bool:=decide (x.div=0/\x.idx=0/\x.name=[]/\x.aG=dK/\x.frame=bS/\x.stop=dN/\x.aK=eD)
section
set_option pp.maxSteps 200000
set_option pp.deepTerms true
noncomputable def sN:Nat->List PD->List aB->Option (PD×List aB):=entry (bZ Em.edit (i64.sA i64) λx=>dP (1<=x.kind/\x.kind<=13) (some ((x.kind-1)/3,(x.kind-1)%3)))
theorem HK{x:bC}(h:1<=x.kind/\x.kind<=13)(fl:Nat)(σ:List aB):sN fl [Em.edit.aA x] σ=some (.aI [.int .i64 ((x.kind-1)/3),.int .i64 ((x.kind-1)%3)],σ):=by
 have e1:=Em.cM (Em.edit.str x);unfold sN entry bZ;simp only[e1,eV h];rfl
theorem vA{α:Type}(em:Em α)(k:Nat)(xs:List α)(tok:Tok):(PD.slice (sz k xs) (xs.map em.aA) tok).strip=.slice (sz k xs) (xs.map em.aA) .any:=by
 rw[PD.r8];have h:(xs.map em.aA).map PD.strip=xs.map em.aA:=by
  rw[yBz];exact yAG λx _=>em.str x
 rw[h];cases xs<;>simp[sz]
def frF(gg:Nat->PD):List PD:=gg 0::.ptr 0 0::gg 2::gg 3::gg 4::gg 5::gg 6::gg 7::gg 8::gg 9::gg 10::gg 11::gg 12::gg 13::gg 14::gg 15::gg 16::gg 17::gg 18::gg 19::gg 20::gg 21::gg 22::gg 23::gg 24::gg 25::gg 26::gg 27::gg 28::gg 29::gg 30::gg 31::gg 32::gg 33::gg 34::gg 35::gg 36::gg 37::gg 38::gg 39::gg 40::gg 41::gg 42::gg 43::gg 44::gg 45::gg 46::gg 47::gg 48::gg 49::gg 50::gg 51::gg 52::gg 53::gg 54::gg 55::gg 56::gg 57::gg 58::gg 59::gg 60::gg 61::gg 62::gg 63::gg 64::gg 65::gg 66::gg 67::gg 68::gg 69::gg 70::gg 71::gg 72::gg 73::gg 74::gg 75::gg 76::gg 77::gg 78::gg 79::gg 80::gg 81::gg 82::[]
def aFp(x:bC)(t1 t2 t3:Tok):PD:=.agg [.int .i64 x.kind,.int .i64 x.div,.int .i64 x.idx,.str x.name,.str x.aG.name,.str x.aG.jJ,.int .i64 x.aG.num,.int .i64 x.aG.den,.int .i64 x.aG.first,.slice (sz 1 x.aG.kX) (x.aG.kX.map i64.aA) t1,.str x.frame.name,.bool x.frame.eE,.int .i64 x.frame.low,.int .i64 x.frame.high,.slice (sz 4 x.frame.stops) (x.frame.stops.map Em.stop.aA) t2,.str x.stop.name,.int .i64 x.stop.num,.int .i64 x.stop.den,.slice (sz 3 x.stop.aU) (x.stop.aU.map Em.eZ.aA) t3,.str x.aK.name,.int .i64 x.aK.dR,.int .i64 x.aK.dst,.int .i64 x.aK.shift,.bool x.aK.o9]
theorem aQr{x:bC}(h:fX x.aG/\fY x.frame/\iV x.stop):fX (n5 x).aG/\fY (n5 x).frame/\iV (n5 x).stop:=by
 have n1:fX dK:=yAF _;have n2:fY bS:=⟨yAF _,λ_ h=>Ap⟩;have n3:iV dN:=⟨yAF _,λ_ h=>Ap⟩;obtain⟨h1,h2,h3⟩:=h;unfold n5;split
 .exact⟨h1,h2,h3⟩
 .simp only;split
  .exact⟨h1,h2,h3⟩
  .split
   .exact⟨n1,h2,h3⟩
   .split
    .exact⟨h1,n2,h3⟩
    .split
     .exact⟨h1,h2,n3⟩
     .exact⟨h1,h2,h3⟩
variable{E:aE}(hU:aH E)
include hU
theorem aKj(h0:E 78=none)(h1:E 56=some sN)(h2:E 33=some (eU Em.aG fX))(h3:E 35=some (eU Em.div fY))(h4:E 72=some (eU Em.stop iV))(x:bC)(hk:1<=x.kind/\x.kind<=13)(hx:fX x.aG/\fY x.frame/\iV x.stop) :
  aJ prog E 78 [Em.edit.aA x] (i64.aA (if lP (n5 x)then 0 else 7)):=by
 have k1:=λfl σ=>HK hk fl σ
 have hb:=aQr hx;obtain⟨B,hB⟩:=gn (n5 x);rw[hB]at hb ⊢;obtain⟨kd,dv,ix,nm,⟨rn,rt,ra,rb,rf,wd⟩,⟨fn,fp,flo,fhi,fs⟩,⟨sn,sa,sb,sg⟩,⟨cn,ca,cb,cs,ct⟩⟩:=x;simp only[cU,aW]at k1 hk;simp only[cU,aW];have hk1:¬kd<1:=Ah;have hk2:¬13<kd:=Ah;refine aJ.aN 83 h0 func78 (h:=?_);refine aC (A4 h1 k1 hk1 hk2) ?_;refine Wp.mono (Q:=λr=>r.x=.normal/\r.ms=[]/\∃t1 t2 t3,∃gg:Nat->PD,True/\r.fr=frF gg/\r.σ=[.box (aFp B t1 t2 t3)]) ?_ ?_
 .have hc:kd=1\/kd=2\/kd=3\/kd=4\/kd=5\/kd=6\/kd=7\/kd=8\/kd=9\/kd=10\/kd=11\/kd=12\/kd=13:=by omega
  subst hB;clear k1 hb hk1 hk2;rcases hc with rfl|rfl|rfl|rfl|rfl|rfl|rfl|rfl|rfl|rfl|rfl|rfl|rfl
  all_goals
   refine aC trivial ?_
  all_goals exact⟨rfl,rfl,_,_,_,j6 trivial rfl rfl⟩
 rintro⟨px,fr,ms,σ⟩ ⟨hp,hm,t1,t2,t3,gg,_,hf,hs⟩
 simp only at hp hm hf hs;subst hp hm hf hs;unfold frF;clear k1;obtain⟨o1,o2,o3⟩:=hb;obtain⟨bk,bd,bi,bn,⟨an,aT,aa,ab,af,aw⟩,⟨dn,dp,dl,dh,dS⟩,⟨en,ea,eb,eg⟩,⟨gn,go,gd,gs,gt⟩⟩:=B;have q2:=λfl σ=>pA (a:=Em.aG) (R:=fX) o1 (show fX dK from yAF _) (p:=.agg [.str an,.str aT,.int .i64 aa,.int .i64 ab,.int .i64 af,.slice (sz 1 aw) (aw.map i64.aA) t1]) (q:=.agg [.str [],.str [],.int .i64 0,.int .i64 0,.int .i64 0,.slice 0 [] .full]) Ea rfl fl σ
 have q3:=λfl σ=>pA (a:=Em.div) (R:=fY) o2 (show fY bS from⟨yAF _,λ_ h=>Ap⟩) (p:=.agg [.str dn,.bool dp,.int .i64 dl,.int .i64 dh,.slice (sz 4 dS) (dS.map Em.stop.aA) t2]) (q:=.agg [.str [],.bool false,.int .i64 0,.int .i64 0,.slice 0 [] .full]) Ea rfl fl σ
 have q4:=λfl σ=>pA (a:=Em.stop) (R:=iV) o3 (show iV dN from⟨yAF _,λ_ h=>Ap⟩) (p:=.agg [.str en,.int .i64 ea,.int .i64 eb,.slice (sz 3 eg) (eg.map Em.eZ.aA) t3]) (q:=.agg [.str [],.int .i64 0,.int .i64 0,.slice 0 [] .full]) Ea rfl fl σ
 refine kG.normal ?_;unfold aFp;simp only
 by_cases c1:bd=0
 rotate_left
 .refine aC c1 ?_;exact⟨_,_,rfl,by simp[lP,c1]⟩
 by_cases c2:bi=0
 rotate_left
 .refine aC (A2 c1 c2) ?_;exact⟨_,_,rfl,by simp[lP,c2]⟩
 by_cases c3:bn=[]
 rotate_left
 .have XY:bn.isEmpty=false:=by cases bn with|nil=>exact absurd rfl c3|cons _ _=>rfl
  refine aC (A4 c1 c2 c3 XY) ?_;exact⟨_,_,rfl,by simp[lP,c3]⟩
 by_cases c4:(⟨an,aT,aa,ab,af,aw⟩:bB)=dK
 rotate_left
 .rw[yBd c4]at q2;refine aC (A5 c1 c2 c3 h2 q2) ?_;exact⟨_,_,rfl,by simp[lP,c4]⟩
 rw[yAY c4]at q2
 by_cases c5:(⟨dn,dp,dl,dh,dS⟩:bD)=bS
 rotate_left
 .rw[yBd c5]at q3;refine aC (A7 c1 c2 c3 h2 q2 h3 q3) ?_;exact⟨_,_,rfl,by simp[lP,c5]⟩
 rw[yAY c5]at q3
 by_cases c6:(⟨en,ea,eb,eg⟩:bW)=dN
 rotate_left
 .rw[yBd c6]at q4;refine aC (A9 c1 c2 c3 h2 q2 h3 q3 h4 q4) ?_;exact⟨_,_,rfl,by simp[lP,c6]⟩
 rw[yAY c6]at q4;refine aC (A9 c1 c2 c3 h2 q2 h3 q3 h4 q4) ?_
 by_cases c7:(⟨gn,go,gd,gs,gt⟩:bP)=eD
 .cases c7;have he:lP ⟨bk,bd,bi,bn,⟨an,aT,aa,ab,af,aw⟩,⟨dn,dp,dl,dh,dS⟩,⟨en,ea,eb,eg⟩,⟨[],0,0,0,false⟩⟩=true:=yAY ⟨c1,c2,c3,c4,c5,c6,rfl⟩;rw[yAJ he];refine aC trivial ?_;exact bx
 .have n1:(decide (gn=[])&&(decide (go=0)&&(decide (gd=0)&&(decide (gs=0)&&!gt))))=false:=Bool.eq_false_iff.2 λh=>by
   simp at h;obtain⟨rfl,rfl,rfl,rfl,rfl⟩:=h;exact c7 rfl
  have n2:(!decide (gn=[])||(!decide (go=0)||(!decide (gd=0)||(!decide (gs=0)||gt))))=true:=by
   revert n1
   generalize decide (gn=[])=A
   generalize decide (go=0)=B
   generalize decide (gd=0)=C
   generalize decide (gs=0)=D
   cases A<;>cases B<;>cases C<;>cases D<;>cases gt<;>simp
  simp only[n1,n2];refine aC trivial ?_;exact⟨_,_,rfl,by simp[lP,c7]⟩
theorem aKi(h0:E 78=none)(x:bC)(hk:x.kind<1\/13<x.kind) :
  aJ prog E 78 [Em.edit.aA x] (i64.aA 12):=by
 obtain⟨kd,dv,ix,nm,⟨rn,rt,ra,rb,rf,wd⟩,⟨fn,fp,flo,fhi,fs⟩,⟨sn,sa,sb,sg⟩,⟨cn,ca,cb,cs,ct⟩⟩:=x;simp only[cU,aW];simp only at hk
 by_cases hk1:kd<1
 rotate_left
 .have hk2:13<kd:=by omega
  refine aJ.aN 83 h0 func78 (h:=?_);refine aC (A2 hk1 hk2) ?_;exact ag
 refine aJ.aN 83 h0 func78 (h:=?_);refine aC hk1 ?_;exact ag
end
section
variable{E E0:aE}(hU:aH E)
include hU
theorem aNv(h0:E 80=none)(h1:E 56=some sN)(x:bC)(hx:7<=x.kind/\x.kind<=9)
  (o:aP) (p:PD) (bJ:List aB) (lo iR iD iC:Nat) (ds:List (List PD)) (tS:Nat->Nat) (tss:Nat->List (List PD)) (tG:Nat->Nat->Nat) (tgs:Nat->Nat->List (List PD)) (tW:Nat->Nat->Nat->Nat) (hO:iI bJ lo o p iR iD iC ds tS tss tG tgs tW) (ho:gG o) :
  aL prog E 0 (.inl 80) [Em.edit.aA x,p] bJ (λq σ'=>(∃L,σ'=bJ++L)/\((q=.aI [.int .i64 0,.bool false]/\(x.div<0\/(o.aD.length:Int)<=x.div))\/∃(d:Nat) (hd:d<o.aD.length),x.div=d/\q=.aI [.int .i64 o.aD[d].stops.length,.bool true])):=by
 have hp:=hO.p;subst hp;have k1:=λfl σ=>HK (x:=x) ⟨Ah,Ah⟩ fl σ
 have hth:(x.kind-1)/3=2:=Ah;rw[hth]at k1;obtain⟨hR,hhR⟩:=gn (Go.Kz.hd 6 iR o.aM.length);obtain⟨hD,hhD⟩:=gn (Go.Kz.hd 5 iD o.aD.length);obtain⟨hC,hhC⟩:=gn (Go.Kz.hd 5 iC o.aO.length);have lD:=x7 5 iD o.aD.length underlying32;have pR:hR.plain=true:=Az;have pD:hD.plain=true:=Ba;have pC:hC.plain=true:=Bb;unfold PD.plain at pR pD pC;simp only[hhR,hhD,hhC]at hO lD ⊢;simp[j5,underlying32]at lD;obtain⟨kd,dv,ix,nm,⟨rn,rt,ra,rb,rf,wd⟩,⟨fn,fp,flo,fhi,fs⟩,⟨sn,sa,sb,sg⟩,⟨cn,ca,cb,cs,ct⟩⟩:=x;simp only[cU,aW]at k1 hx hth;simp only[cU,aW];refine aL.aN 48 h0 func80 (h:=?_);apply WL.zF Ao;apply SL.box (p:=.agg [.int .i64 kd,.int .i64 dv,.int .i64 ix,.str nm,.str rn,.str rt,.int .i64 ra,.int .i64 rb,.int .i64 rf,.slice (sz 1 wd) (wd.map i64.aA) .any,.str fn,.bool fp,.int .i64 flo,.int .i64 fhi,.slice (sz 4 fs) (fs.map Em.stop.aA) .any,.str sn,.int .i64 sa,.int .i64 sb,.slice (sz 3 sg) (sg.map Em.eZ.aA) .any,.str cn,.int .i64 ca,.int .i64 cb,.int .i64 cs,.bool ct]) (hw:=Wt.i rfl) (hx:=rfl) (hp:=rfl) (hr:=Ns.i rfl) (hn:=Ns.i rfl) (hf:=Fr.i rfl);apply SL.box (p:=.agg [.str o.name,hR,hD,hC]) (hw:=Wt.i rfl) (hx:=rfl) (hp:=by simp[pR,pD,pC]) (hr:=Ns.i rfl) (hn:=Ns.i rfl) (hf:=Fr.i rfl);refine oU lD ?_;apply SQ.nil
 by_cases c1:dv<0
 .refine aC (A4 h1 k1 lD c1) ?_;exact⟨_,_,rfl,⟨_,rfl⟩,.inl ⟨rfl,.inl c1⟩⟩
 by_cases c2:(o.aD.length:Int)<=dv
 .refine aC (A5 h1 k1 lD c1 c2) ?_;exact⟨_,_,rfl,⟨_,rfl⟩,.inl ⟨rfl,.inr c2⟩⟩
 obtain⟨d,rfl⟩:∃d:Nat,dv=d:=⟨dv.toNat,Ah⟩;have hi:d<o.aD.length:=Ah;have q1:(d:Int)<(o.aD.length:Int):=Ah;have hDr:hD=.aR iD 0 0 o.aD.length 5:=by rw[<-hhD];exact o5 Ah
 have v2:∀L:List aB,(bJ++L)[iD]?=some (.row 53 5 0 ds.flatten):=λL=>by
  have h:=(hO.row Ah).2;exact jw
 obtain⟨e1,e2⟩:=hO.at_ d hi;have jC:∀g∈ds,g.length=5:=λg h=>by
  exact mm
 have hat:=tP (sz:=5) ds d (by rw[hO.len];exact hi) jC;have hlen:=nH (sz:=5) ds jC;rw[(yA.1 e1).2]at hat;obtain⟨KL,hfs⟩:=gn (ds.flatten);rw[hfs]at v2 hlen hat;obtain⟨z,hz⟩:=gn (o.aD[d]);rw[hz]at hat e2;have gK:d*5+5<=KL.length:=by rw[hlen,hO.len];omega
 have xk:jZ prog 32 hD (.int .i64 d)=some (.dH iD 0 (d*5)):=by
  rw[hDr];simp[lH,hi]
 obtain⟨hS,hhS⟩:=gn (Go.Kz.hd 4 (tS d) z.stops.length);have pS:hS.plain=true:=Dn;have cS:hS.cells=[hS]:=Dp;have lS:=x7 4 (tS d) z.stops.length underlying51;unfold PD.plain at pS;unfold PD.cells at cS;rw[hhS]at hat lS;simp[j5,underlying51]at lS;have f4:KL[d*5+4]?=some hS:=by
  have h:=yAK (λl=>l[4]?) hat;simp only[yAv,yBn]at h;rw[yAJ Ah]at h;exact h
 obtain⟨f5,f6⟩:=yA.1 f4;have r2:∀L:List aB,iD<(bJ++L).length:=λL=>(yA.1 (v2 L)).1
 have y2:∀(L:List aB) (h:iD<(bJ++L).length),(bJ++L)[iD]=.row 53 5 0 KL:=λL h=>(yA.1 (v2 L)).2
 have r0:iD<bJ.length:=(yA.1 (by have:=v2 [];rwa [yAl]at this)).1;have r1:iD<bJ.length+2:=Ah;refine aC (A20 h1 k1 lD c1 c2 q1 hi xk @v2 r0 r1 r2 y2 gK @f4 @f5 @f6 pS cS lS) ?_;refine⟨_,_,rfl,⟨_,rfl⟩,.inr ⟨d,hi,rfl,?_⟩⟩;rw[hz];rfl
end
section
def iA(x:bC):Int:=if x.kind<1\/13<x.kind then 12 else if lP (n5 x)then 0 else 7
def fW(x:bC):Prop:=fX x.aG/\fY x.frame/\iV x.stop
noncomputable def AE:Nat->List PD->List aB->Option (PD×List aB):=entry (bZ Em.edit i64 λx=>dP (fW x) (some (iA x)))
theorem HJ{x:bC}(h:fW x)(fl:Nat)(σ:List aB):AE fl [Em.edit.aA x] σ=some (.int .i64 (iA x),σ):=by
 have e1:=Em.cM (Em.edit.str x);unfold AE entry bZ;simp only[e1,eV h];rfl
def bT{α:Type}(l:List α)(way:Int)(i:Nat)(x:α):List α:=if way=0 then l.take i++x::l.drop i else if way=1 then l.take i++l.drop (i+1)else l.set i x
def uY(o:aP):Prop:=o.aM.length<=200/\o.aD.length<=200/\o.aO.length<=200/\∀d∈o.aD,d.stops.length<=200
def bK:PD:=.agg [.str [],.slice 0 [] .full,.slice 0 [] .full,.slice 0 [] .full]
def aY(R:TypeId->Prop)(σ σ':List aB):Prop:=∀(id:Nat) (t:TypeId) (n v:Nat) (cs:List PD),R t->σ[id]?=some (.row t n v cs)->σ'[id]?=some (.row t n v cs)
theorem aY.trans{R:TypeId->Prop}{σ τ ρ:Gb}(h:aY R σ τ)(k:aY R τ ρ):aY R σ ρ:=λid t n v cs hr hy=>k id t n v cs hr (h id t n v cs hr hy)
theorem aY.set{R:TypeId->Prop}{σ:Gb}{i:Nat}{b:PD}(hi:σ[i]?=some (.box b))(x:aB):aY R σ (σ.set i x):=λid t n v cs _ hy=>by
 by_cases e:id=i
 .rw[e,hi]at hy;cases hy
 .rw[yAd (yAW e)];exact hy
theorem aY.app(R:TypeId->Prop)(σ L:List aB):aY R σ (σ++L):=λid t n v cs _ hy=>by
 rw[yAg (yA.1 hy).1];exact hy
abbrev oI:TypeId->Prop:=λt=>t=48
abbrev oJ:TypeId->Prop:=λt=>t=53\/t=56\/t=92\/t=89
abbrev mC:TypeId->Prop:=λt=>t=58
structure cO {α:Type} (em:Em α) (sz:Nat) (R:TypeId->Prop) (σ:List aB) (P:PD) (l:List α):Prop where
 plain:P.plain=true
 cells:P.cells=[P]
 bF:∀σ',aY R σ σ'->∀K,(Go.Kz.bF σ' (K+8) P).strip=(em.list sz).aA l/\(Go.Kz.bF σ' (K+8) P).bQ=true
theorem cO.aQ{α:Type}{em:Em α}{sz:Nat}{R:TypeId->Prop}{σ σ':Gb}{P:PD}{l:List α}(h:cO em sz R σ P l)(k:aY R σ σ'):cO em sz R σ' P l:=⟨h.plain,h.cells,λτ eH K=>h.bF τ (k.trans eH) K⟩
def bX:PD:=.agg [.str [],.slice 0 [] .full,.slice 0 [] .full,.slice 0 [] .full]
def EK(E:aE):Prop:=∀(σ:List aB) (on:List UInt8) (P1 P2 P3:PD) (rs:List bB) (dd:List bD) (cc:List bP),cO Em.aG 6 oI σ P1 rs->cO Em.div 5 oJ σ P2 dd->cO Em.aK 5 mC σ P3 cc->dI ⟨on,rs,dd,cc⟩->σ≠[] ->
 aL prog E 0 (.inl 79) [.agg [.str on,P1,P2,P3]] σ (λq σ'=>q=.aI [if bH ⟨on,rs,dd,cc⟩=0 then .agg [.str on,P1,P2,P3]else bX,.int .i64 (bH ⟨on,rs,dd,cc⟩)]/\∃L,σ'=σ++L)
def WZ(E:aE)(nV:List aB->PD->List bP->Prop):Prop:=∀(σ:List aB) (P:PD) (l:List bP) (way:Int) (i:Nat) (c:bP),nV σ P l->(way=0/\i<=l.length\/(way=1\/way=2)/\i<l.length)->σ≠[] ->
 aL prog E 0 (.inl 87) [P,.int .i64 way,.int .i64 i,Em.aK.aA c] σ (λQ σ'=>cO Em.aK 5 mC σ' Q (bT l way i c)/\σ.length<=σ'.length/\∀(id:Nat) (y:aB),σ[id]?=some y->(∀n v cs,y≠.row 58 n v cs)->σ'[id]?=some y)
def KI(E1:aE):Prop:=∀(o:aP) (ho:gG o) (τ:List aB),aL prog E1 0 (.inl 41) [Em.bM.aA o] τ (λp σ'=>(∃iR iD iC ds tS tss tG tgs tW,iI σ' τ.length o p iR iD iC ds tS tss tG tgs tW)/\τ.length<=σ'.length/\∀id,id<τ.length->σ'[id]?=τ[id]?)
def PJ(A:List aB->PD->List bB->Prop)(B:List aB->PD->List bD->Prop)(C:List aB->PD->List bP->Prop):Prop:=∀(σ:List aB) (lo:Nat) (o:aP) (p:PD) (iR iD iC:Nat) (ds:List (List PD)) (tS:Nat->Nat) (tss:Nat->List (List PD)) (tG:Nat->Nat->Nat) (tgs:Nat->Nat->List (List PD)) (tW:Nat->Nat->Nat->Nat),iI σ lo o p iR iD iC ds tS tss tG tgs tW->3<=lo->uY o->A σ (Go.Kz.hd 6 iR o.aM.length) o.aM/\B σ (Go.Kz.hd 5 iD o.aD.length) o.aD/\C σ (Go.Kz.hd 5 iC o.aO.length) o.aO
variable{E E1 E2 E3 E4:aE}(hU:aH E)
include hU
theorem aNq(h0:E 42=none)(h1:E 78=some AE)(h2:E 41=some (eT prog E1 41))
  (H2:KI E1)
  (h3:E 56=some sN) (h4:E 80=some (eT prog E2 80)) (U2:aH E2) (EN:E2 80=none) (EO:E2 56=some sN)
  {nV:List aB->PD->List bP->Prop} (h5:E 87=some (eT prog E3 87)) (H5:WZ E3 nV) (h6:E 79=some (eT prog E4 79)) (H6:EK E4)
  (hIn:PJ (cO Em.aG 6 oI) (cO Em.div 5 oJ) nV)
  (hKeep:∀(σ σ':List aB) (P:PD) (l:List bP),nV σ P l->aY mC σ σ'->σ.length<=σ'.length->nV σ' P l)
  (o:aP) (x:bC) (ho:gG o) (hsh:uY o) (hx:fW x) (hf:iA x=0) (hk:10<=x.kind/\x.kind<=12) (hokr:dI { o with aO:=bT o.aO ((x.kind-1)%3) x.idx.toNat x.aK }) :
  aL prog E 0 (.inl 42) [Em.bM.aA o,Em.edit.aA x] [] (λp σ=>((x.idx<0\/(if (x.kind-1)%3=0 then(o.aO.length:Int)+1 else o.aO.length)<=x.idx)/\p=.aI [bK,.int .i64 10])\/(0<=x.idx/\¬(if (x.kind-1)%3=0 then(o.aO.length:Int)+1 else o.aO.length)<=x.idx/\∃P1 P2 P3,p=.aI [if bH { o with aO:=bT o.aO ((x.kind-1)%3) x.idx.toNat x.aK }=0 then .agg [.str o.name,P1,P2,P3]else bX,.int .i64 (bH { o with aO:=bT o.aO ((x.kind-1)%3) x.idx.toNat x.aK })]/\cO Em.aG 6 oI σ P1 o.aM/\cO Em.div 5 oJ σ P2 o.aD/\cO Em.aK 5 mC σ P3 (bT o.aO ((x.kind-1)%3) x.idx.toNat x.aK))):=by
 have k1:=λfl σ=>HJ hx fl σ
 rw[hf]at k1;have k3:=λfl σ=>HK (x:=x) ⟨Ah,Ah⟩ fl σ
 have hth:(x.kind-1)/3=3:=Ah;rw[hth]at k3;obtain⟨wy,hwy⟩:=gn ((x.kind-1)%3);have HL:wy=0\/wy=1\/wy=2:=Ah;rw[hwy]at k3 hokr;rw[hwy];obtain⟨kd,dv,ix,nm,⟨rn,rt,ra,rb,rf,wd⟩,⟨fn,fp,flo,fhi,fs⟩,⟨sn,sa,sb,sg⟩,⟨cn,ca,cb,cs,ct⟩⟩:=x;obtain⟨on,rs,dd,cc⟩:=o;have k2:=(H2 ⟨on,rs,dd,cc⟩ ho [.box (Em.bM.aA ⟨on,rs,dd,cc⟩),.box (Em.edit.aA ⟨kd,dv,ix,nm,⟨rn,rt,ra,rb,rf,wd⟩,⟨fn,fp,flo,fhi,fs⟩,⟨sn,sa,sb,sg⟩,⟨cn,ca,cb,cs,ct⟩⟩),.box (.agg [.str [],.slice 0 [] .full,.slice 0 [] .full,.slice 0 [] .full])]).e0 Ai;obtain⟨p,σ1,k2,⟨iR,iD,iC,ds,tS,tss,tG,tgs,tW,hO⟩,hl1,hk1⟩:=k2;obtain⟨l1,l2,l3⟩:=hIn _ _ _ _ _ _ _ _ _ _ _ _ _ hO (yAk _) hsh;have hp:=hO.p;subst hp;have b0:=hk1 0 Ai;have b1:=hk1 1 Ai;have b2:=hk1 2 Ai;simp only[yBv,yBL]at b0 b1 b2;have k4:=(aNS U2 EN EO on iR rs.length iD dd.length iC cc.length (σ1.set 0 (.box (.agg [.str on,Go.Kz.hd 6 iR rs.length,Go.Kz.hd 5 iD dd.length,Go.Kz.hd 5 iC cc.length]))) kd dv ix wy nm rn rt fn sn cn ra rb rf flo fhi sa sb ca cb cs fp ct (sz 1 wd) (sz 4 fs) (sz 3 sg) (wd.map i64.aA) (fs.map Em.stop.aA) (sg.map Em.eZ.aA) k3).e0 (λe=>by
  have:0<σ1.length:=(yA.1 b0).1;have h:=yAK List.length e;rw[yAD,yAQ]at h;omega)
 obtain⟨_,σ2,k4,rfl,L2,dL⟩:=k4;obtain⟨hR,hhR⟩:=gn (Go.Kz.hd 6 iR rs.length);obtain⟨hD,hhD⟩:=gn (Go.Kz.hd 5 iD dd.length);obtain⟨hC,hhC⟩:=gn (Go.Kz.hd 5 iC cc.length);have pR:hR.plain=true:=Az;have pD:hD.plain=true:=Ba;have pC:hC.plain=true:=Bb;have cR:hR.cells=[hR]:=Bw;have cD:hD.cells=[hD]:=Bx;have cC:hC.cells=[hC]:=Bz;unfold PD.plain at pR pD pC;unfold PD.cells at cR cD cC;simp only[hhR,hhD,hhC]at hO k2 k4 dL l1 l2 l3;simp only[cU,gF,aW]at k1 k2 k3 b0 b1 b2 hk hth hwy;simp only[cU,gF,aW];obtain⟨w0,z0⟩:=yA.1 b0;obtain⟨w1,z1⟩:=yA.1 b1;obtain⟨w2,z2⟩:=yA.1 b2;have hS:(σ1.set 0 (.box (.agg [.str on,hR,hD,hC]))).length=σ1.length:=yAD;have g0:σ2[0]?=some (.box (.agg [.str on,hR,hD,hC])):=by rw[dL,yAg Ah,yAj w0]
 have g1:=b1;rw[<-yAd (l:=σ1) (i:=0) (a:=.box (.agg [.str on,hR,hD,hC])) Ah,<-yAg (l₂:=L2) Ah,<-dL]at g1;have g2:=b2;rw[<-yAd (l:=σ1) (i:=0) (a:=.box (.agg [.str on,hR,hD,hC])) Ah,<-yAg (l₂:=L2) Ah,<-dL]at g2;obtain⟨v0,y0⟩:=yA.1 g0;obtain⟨v1,y1⟩:=yA.1 g1;obtain⟨v2,y2⟩:=yA.1 g2;have sO:¬kd=13:=Ah;refine aL.aN 132 h0 func42 (h:=?_);refine aC zu ?_;have hcl:cc.length<=1000000:=ho.2.2;rcases HL with rfl|rfl|rfl
 .by_cases i1:ix<0
  .exact bg
  by_cases i2:(cc.length:Int)+1<=ix
  .exact bf
  obtain⟨i,rfl⟩:∃i:Nat,ix=i:=⟨ix.toNat,Ah⟩;rw[yBe]at hokr ⊢;have wP:∀R,aY R σ1 σ2:=λR=>by
   exact qi
  have n2:σ2≠[]:=λe=>Ax
  have lN:σ1.length<=σ2.length:=Bq;have k5:=(H5 σ2 hC cc 0 i ⟨cn,ca,cb,cs,ct⟩ (hKeep _ _ _ _ l3 (wP mC) lN) (.inl ⟨rfl,Ah⟩) n2).e0 n2;obtain⟨Q,σ3,k5,lQ,lO,cJ⟩:=k5;have u0:=cJ 0 _ g0 (λn v cs h=>Ap);have u1:=cJ 1 _ g1 (λn v cs h=>Ap);have u2:=cJ 2 _ g2 (λn v cs h=>Ap);obtain⟨r0,x0⟩:=yA.1 u0;obtain⟨r1,x1⟩:=yA.1 u1;obtain⟨r2,x2⟩:=yA.1 u2;have pQ:=lQ.plain;have cQ:=lQ.cells;unfold PD.plain at pQ;unfold PD.cells at cQ;have CM:∀R:TypeId->Prop,(∀t,R t->t≠58)->aY R σ2 σ3:=λR hR id t n v cs hr hy=>cJ id _ hy (λn v cs h=>Bf)
  have kS:∀R,aY R σ3 (σ3.set 0 (.box (.agg [.str on,hR,hD,Q]))):=λR=>aY.set u0 _
  have m1:=((l1.aQ (wP _)).aQ (CM _ (λt h=>Be))).aQ (kS _);have m2:=((l2.aQ (wP _)).aQ (CM _ (λt h=>Bi))).aQ (kS _);have m3:=lQ.aQ (kS _);have k6:=(H6 _ on hR hD Q rs dd _ m1 m2 m3 hokr (λe=>by
   have h:=yAK List.length e;rw[yAD,yAQ]at h;omega)).e0 (λe=>by
   have h:=yAK List.length e;rw[yAD,yAQ]at h;omega)
  obtain⟨q,wJ,k6,rfl,L5,rfl⟩:=k6;simp only[DG]at k5;obtain⟨e,he⟩:=gn (bH ⟨on,rs,dd,bT cc 0 i ⟨cn,ca,cb,cs,ct⟩⟩);exact ah
 .by_cases i1:ix<0
  .exact bg
  by_cases i2:(cc.length:Int)<=ix
  .exact bf
  obtain⟨i,rfl⟩:∃i:Nat,ix=i:=⟨ix.toNat,Ah⟩;rw[yBe]at hokr ⊢;have wP:∀R,aY R σ1 σ2:=λR=>by
   exact qi
  have n2:σ2≠[]:=λe=>Ax
  have lN:σ1.length<=σ2.length:=Bq;have k5:=(H5 σ2 hC cc 1 i ⟨cn,ca,cb,cs,ct⟩ (hKeep _ _ _ _ l3 (wP mC) lN) (.inr ⟨.inl rfl,Ah⟩) n2).e0 n2;obtain⟨Q,σ3,k5,lQ,lO,cJ⟩:=k5;have u0:=cJ 0 _ g0 (λn v cs h=>Ap);have u1:=cJ 1 _ g1 (λn v cs h=>Ap);have u2:=cJ 2 _ g2 (λn v cs h=>Ap);obtain⟨r0,x0⟩:=yA.1 u0;obtain⟨r1,x1⟩:=yA.1 u1;obtain⟨r2,x2⟩:=yA.1 u2;have pQ:=lQ.plain;have cQ:=lQ.cells;unfold PD.plain at pQ;unfold PD.cells at cQ;have CM:∀R:TypeId->Prop,(∀t,R t->t≠58)->aY R σ2 σ3:=λR hR id t n v cs hr hy=>cJ id _ hy (λn v cs h=>Bf)
  have kS:∀R,aY R σ3 (σ3.set 0 (.box (.agg [.str on,hR,hD,Q]))):=λR=>aY.set u0 _
  have m1:=((l1.aQ (wP _)).aQ (CM _ (λt h=>Be))).aQ (kS _);have m2:=((l2.aQ (wP _)).aQ (CM _ (λt h=>Bi))).aQ (kS _);have m3:=lQ.aQ (kS _);have k6:=(H6 _ on hR hD Q rs dd _ m1 m2 m3 hokr (λe=>by
   have h:=yAK List.length e;rw[yAD,yAQ]at h;omega)).e0 (λe=>by
   have h:=yAK List.length e;rw[yAD,yAQ]at h;omega)
  obtain⟨q,wJ,k6,rfl,L5,rfl⟩:=k6;simp only[DG]at k5;obtain⟨e,he⟩:=gn (bH ⟨on,rs,dd,bT cc 1 i ⟨cn,ca,cb,cs,ct⟩⟩);exact ah
 .by_cases i1:ix<0
  .exact bg
  by_cases i2:(cc.length:Int)<=ix
  .exact bf
  obtain⟨i,rfl⟩:∃i:Nat,ix=i:=⟨ix.toNat,Ah⟩;rw[yBe]at hokr ⊢;have wP:∀R,aY R σ1 σ2:=λR=>by
   exact qi
  have n2:σ2≠[]:=λe=>Ax
  have lN:σ1.length<=σ2.length:=Bq;have k5:=(H5 σ2 hC cc 2 i ⟨cn,ca,cb,cs,ct⟩ (hKeep _ _ _ _ l3 (wP mC) lN) (.inr ⟨.inr rfl,Ah⟩) n2).e0 n2;obtain⟨Q,σ3,k5,lQ,lO,cJ⟩:=k5;have u0:=cJ 0 _ g0 (λn v cs h=>Ap);have u1:=cJ 1 _ g1 (λn v cs h=>Ap);have u2:=cJ 2 _ g2 (λn v cs h=>Ap);obtain⟨r0,x0⟩:=yA.1 u0;obtain⟨r1,x1⟩:=yA.1 u1;obtain⟨r2,x2⟩:=yA.1 u2;have pQ:=lQ.plain;have cQ:=lQ.cells;unfold PD.plain at pQ;unfold PD.cells at cQ;have CM:∀R:TypeId->Prop,(∀t,R t->t≠58)->aY R σ2 σ3:=λR hR id t n v cs hr hy=>cJ id _ hy (λn v cs h=>Bf)
  have kS:∀R,aY R σ3 (σ3.set 0 (.box (.agg [.str on,hR,hD,Q]))):=λR=>aY.set u0 _
  have m1:=((l1.aQ (wP _)).aQ (CM _ (λt h=>Be))).aQ (kS _);have m2:=((l2.aQ (wP _)).aQ (CM _ (λt h=>Bi))).aQ (kS _);have m3:=lQ.aQ (kS _);have k6:=(H6 _ on hR hD Q rs dd _ m1 m2 m3 hokr (λe=>by
   have h:=yAK List.length e;rw[yAD,yAQ]at h;omega)).e0 (λe=>by
   have h:=yAK List.length e;rw[yAD,yAQ]at h;omega)
  obtain⟨q,wJ,k6,rfl,L5,rfl⟩:=k6;simp only[DG]at k5;obtain⟨e,he⟩:=gn (bH ⟨on,rs,dd,bT cc 2 i ⟨cn,ca,cb,cs,ct⟩⟩);exact ah
end
section
theorem iI.aQ{σ σ':Gb}{lo:Nat}{o:aP}{p:PD}{iR iD iC:Nat}{ds:Fz}{tS:Nat->Nat}{tss:Fy}{tG:Nat->Nat->Nat}{tgs:Fx}{tW:Nat->Nat->Nat->Nat}(h:iI σ lo o p iR iD iC ds tS tss tG tgs tW)(hk:∀(id:Nat) (x:aB),lo<=id->σ[id]?=some x->σ'[id]?=some x):iI σ' lo o p iR iD iC ds tS tss tG tgs tW:=
 { h with aG:=λq=>⟨(h.aG q).1,hk _ _ (h.aG q).1 (h.aG q).2⟩,aK:=λq=>⟨(h.aK q).1,hk _ _ (h.aK q).1 (h.aK q).2⟩,row:=λq=>⟨(h.row q).1,hk _ _ (h.row q).1 (h.row q).2⟩,at_:=λd hd=>⟨(h.at_ d hd).1,(h.at_ d hd).2.aQ (yAk _) hk⟩ }
theorem XH{o:aP}(h:uY o)(w i:Int):uY (iL w i o):=⟨h.1,by show(o.aD.map _).length<=200;rw[yAe];exact h.2.1,h.2.2.1,λd hd=>by
 obtain⟨t,ht,rfl⟩:=yAw.1 hd;show(t.stops.map _).length<=200
 rw[yAe];exact h.2.2.2 t ht⟩
def xX(g:Nat->List PD->List aB->Option (PD×List aB)):Nat->List PD->List aB->Option (PD×List aB):=λfl args σ=>if fl=0/\σ≠[]then g fl args σ else none
theorem XI(g:Nat->List PD->List aB->Option (PD×List aB)):∀fl args σ,0<fl->xX g fl args σ=none:=λfl args σ h=>by
 unfold xX;rw[yAI (λh=>Ah)]
theorem aM2{E:aE}(hU:aH E){f:FuncId}(g:Nat->List PD->List aB->Option (PD×List aB)):aH (E.add f (xX g)):=hU.other λargs p h=>by
 unfold xX at h;rw[yAI (λh=>h.2 rfl)]at h;cases h
def W2(E:aE):Prop:=∀(way index:Int) (o:aP) (p:PD) (bJ:List aB) (lo iR iD iC:Nat) (ds:List (List PD)) (tS:Nat->Nat) (tss:Nat->List (List PD)) (tG:Nat->Nat->Nat) (tgs:Nat->Nat->List (List PD)) (tW:Nat->Nat->Nat->Nat),iI bJ lo o p iR iD iC ds tS tss tG tgs tW->lo<=bJ.length->gG o ->
    (∀d∈o.aD,∀s∈d.stops,∀g∈s.aU,∀w∈g.aX,-1000000000<=w.aG/\w.aG<=1000000000)->(-1000000000<=way/\way<=1000000000) ->
    aL prog E 0 (.inl 81) [p,.int .i64 way,.int .i64 index] bJ (λq σ'=>∃b:Bool,q=.bool b/\(b=true->x6 way index o/\iI σ' lo (iL way index o) p iR iD iC ds tS tss tG tgs tW/\bJ.length<=σ'.length/\∀id,id<lo->σ'[id]?=bJ[id]?)/\(b=false->¬x6 way index o/\bJ.length<=σ'.length/\∀id,id<lo->σ'[id]?=bJ[id]?))
def WX(E:aE)(oZ:List aB->PD->List bB->Prop):Prop:=∀(σ:List aB) (P:PD) (l:List bB) (way:Int) (i:Nat) (c:bB),oZ σ P l->fX c->(way=0/\i<=l.length\/(way=1\/way=2)/\i<l.length)->σ≠[] ->
 aL prog E 0 (.inl 82) [P,.int .i64 way,.int .i64 i,Em.aG.aA c] σ (λQ σ'=>cO Em.aG 6 oI σ' Q (bT l way i c)/\σ.length<=σ'.length/\∀(id:Nat) (y:aB),σ[id]?=some y->(∀n v cs,y≠.row 48 n v cs)->σ'[id]?=some y)
variable{E E1 E2 E3 E4 E5:aE}(hU:aH E)
include hU
theorem aNn(h0:E 42=none)(h1:E 78=some AE)(h2:E 41=some (eT prog E1 41))
  (H2:KI E1)
  (h3:E 56=some sN) (h4:E 80=some (eT prog E2 80)) (U2:aH E2) (EN:E2 80=none) (EO:E2 56=some sN)
  {oZ:List aB->PD->List bB->Prop} (h5:E 82=some (eT prog E3 82)) (H5:WX E3 oZ) (h7:E 81=some (eT prog E5 81)) (H7:W2 E5) (h8:E 76=some (xX (entry (bZ Em.aG Em.aG λr=>dP (fX r) (some r))))) (h6:E 79=some (eT prog E4 79)) (H6:EK E4)
  (hIn:PJ oZ (cO Em.div 5 oJ) (cO Em.aK 5 mC))
  (o:aP) (x:bC) (ho:gG o) (hsh:uY o) (hx:fW x) (hf:iA x=0) (hk:1<=x.kind/\x.kind<=3) (hwr:∀d∈o.aD,∀s∈d.stops,∀g∈s.aU,∀w∈g.aX,-1000000000<=w.aG/\w.aG<=1000000000) (hokr:x6 ((x.kind-1)%3) x.idx o->dI { iL ((x.kind-1)%3) x.idx o with aM:=bT o.aM ((x.kind-1)%3) x.idx.toNat x.aG }) :
  aL prog E 0 (.inl 42) [Em.bM.aA o,Em.edit.aA x] [] (λp σ=>((x.idx<0\/(if (x.kind-1)%3=0 then(o.aM.length:Int)+1 else o.aM.length)<=x.idx)/\p=.aI [bK,.int .i64 10])\/(¬x6 ((x.kind-1)%3) x.idx o/\0<=x.idx/\¬(if (x.kind-1)%3=0 then(o.aM.length:Int)+1 else o.aM.length)<=x.idx/\p=.aI [bK,.int .i64 14])\/(x6 ((x.kind-1)%3) x.idx o/\0<=x.idx/\¬(if (x.kind-1)%3=0 then(o.aM.length:Int)+1 else o.aM.length)<=x.idx/\∃P1 P2 P3,p=.aI [if bH { iL ((x.kind-1)%3) x.idx o with aM:=bT o.aM ((x.kind-1)%3) x.idx.toNat x.aG }=0 then .agg [.str o.name,P1,P2,P3]else bX,.int .i64 (bH { iL ((x.kind-1)%3) x.idx o with aM:=bT o.aM ((x.kind-1)%3) x.idx.toNat x.aG })]/\cO Em.aG 6 oI σ P1 (bT o.aM ((x.kind-1)%3) x.idx.toNat x.aG)/\cO Em.div 5 oJ σ P2 (o.aD.map (qJ ((x.kind-1)%3) x.idx))/\cO Em.aK 5 mC σ P3 o.aO)):=by
 have k1:=λfl σ=>HJ hx fl σ
 rw[hf]at k1;have k3:=λfl σ=>HK (x:=x) ⟨Ah,Ah⟩ fl σ
 have hth:(x.kind-1)/3=0:=Ah;rw[hth]at k3;obtain⟨wy,hwy⟩:=gn ((x.kind-1)%3);have HL:wy=0\/wy=1\/wy=2:=Ah;rw[hwy]at k3 hokr;rw[hwy];obtain⟨kd,dv,ix,nm,⟨rn,rt,ra,rb,rf,wd⟩,⟨fn,fp,flo,fhi,fs⟩,⟨sn,sa,sb,sg⟩,⟨cn,ca,cb,cs,ct⟩⟩:=x;obtain⟨on,rs,dd,cc⟩:=o;have k2:=(H2 ⟨on,rs,dd,cc⟩ ho [.box (Em.bM.aA ⟨on,rs,dd,cc⟩),.box (Em.edit.aA ⟨kd,dv,ix,nm,⟨rn,rt,ra,rb,rf,wd⟩,⟨fn,fp,flo,fhi,fs⟩,⟨sn,sa,sb,sg⟩,⟨cn,ca,cb,cs,ct⟩⟩),.box (.agg [.str [],.slice 0 [] .full,.slice 0 [] .full,.slice 0 [] .full])]).e0 Ai;obtain⟨p,σ1,k2,⟨iR,iD,iC,ds,tS,tss,tG,tgs,tW,hO⟩,hl1,hk1⟩:=k2;have hp:=hO.p;subst hp;have b0:=hk1 0 Ai;have b1:=hk1 1 Ai;have b2:=hk1 2 Ai;simp only[yBv,yBL]at b0 b1 b2;have k4:=(aNR U2 EN EO on iR rs.length iD dd.length iC cc.length (σ1.set 0 (.box (.agg [.str on,Go.Kz.hd 6 iR rs.length,Go.Kz.hd 5 iD dd.length,Go.Kz.hd 5 iC cc.length]))) kd dv ix wy nm rn rt fn sn cn ra rb rf flo fhi sa sb ca cb cs fp ct (sz 1 wd) (sz 4 fs) (sz 3 sg) (wd.map i64.aA) (fs.map Em.stop.aA) (sg.map Em.eZ.aA) k3).e0 (λe=>by
  have:0<σ1.length:=(yA.1 b0).1;have h:=yAK List.length e;rw[yAD,yAQ]at h;omega)
 obtain⟨_,σ2,k4,rfl,L2,dL⟩:=k4;obtain⟨hR,hhR⟩:=gn (Go.Kz.hd 6 iR rs.length);obtain⟨hD,hhD⟩:=gn (Go.Kz.hd 5 iD dd.length);obtain⟨hC,hhC⟩:=gn (Go.Kz.hd 5 iC cc.length);have pR:hR.plain=true:=Az;have pD:hD.plain=true:=Ba;have pC:hC.plain=true:=Bb;have cR:hR.cells=[hR]:=Bw;have cD:hD.cells=[hD]:=Bx;have cC:hC.cells=[hC]:=Bz;unfold PD.plain at pR pD pC;unfold PD.cells at cR cD cC;simp only[hhR,hhD,hhC]at hO k2 k4 dL;simp only[cU,gF,aW]at k1 k2 k3 b0 b1 b2 hk hth hwy;simp only[cU,gF,aW];obtain⟨w0,z0⟩:=yA.1 b0;obtain⟨w1,z1⟩:=yA.1 b1;obtain⟨w2,z2⟩:=yA.1 b2;have hS:(σ1.set 0 (.box (.agg [.str on,hR,hD,hC]))).length=σ1.length:=yAD;have g0:σ2[0]?=some (.box (.agg [.str on,hR,hD,hC])):=by rw[dL,yAg Ah,yAj w0]
 have g1:=b1;rw[<-yAd (l:=σ1) (i:=0) (a:=.box (.agg [.str on,hR,hD,hC])) Ah,<-yAg (l₂:=L2) Ah,<-dL]at g1;have g2:=b2;rw[<-yAd (l:=σ1) (i:=0) (a:=.box (.agg [.str on,hR,hD,hC])) Ah,<-yAg (l₂:=L2) Ah,<-dL]at g2;obtain⟨v0,y0⟩:=yA.1 g0;obtain⟨v1,y1⟩:=yA.1 g1;obtain⟨v2,y2⟩:=yA.1 g2;have sO:¬kd=13:=Ah;clear hU;refine aL.aN 132 h0 func42 (h:=?_);refine aC zu ?_;have hcl:rs.length<=1000000:=ho.1.1;rcases HL with rfl|rfl|rfl
 .by_cases i1:ix<0
  .exact bg
  by_cases i2:(rs.length:Int)+1<=ix
  .exact bf
  obtain⟨i,rfl⟩:∃i:Nat,ix=i:=⟨ix.toNat,Ah⟩;rw[yBe]at hokr ⊢;have n2:σ2≠[]:=λe=>Ax
  have lN:σ1.length<=σ2.length:=Bq;have iB:iI σ2 3 ⟨on,rs,dd,cc⟩ (.agg [.str on,hR,hD,hC]) iR iD iC ds tS tss tG tgs tW:=by
   exact bw
  have k7:=(H7 0 i _ _ _ _ _ _ _ _ _ _ _ _ _ iB (yAV Cr lN) ho hwr Ah).e0 n2;obtain⟨q7,σ3,k7,b,rfl,hbt,hbf⟩:=k7;cases b with
  |false=>
   exact au
  |true=>
  obtain⟨ow,wN,lO,cJ⟩:=hbt rfl;have u0:=(cJ 0 Ah).trans g0;have u1:=(cJ 1 Ah).trans g1;have u2:=(cJ 2 Ah).trans g2;obtain⟨r0,x0⟩:=yA.1 u0;obtain⟨r1,x1⟩:=yA.1 u1;obtain⟨r2,x2⟩:=yA.1 u2;refine aC zo ?_;obtain⟨l1,l2,l3⟩:=hIn _ _ _ _ _ _ _ _ _ _ _ _ _ wN (yAk _) (XH hsh _ _);simp only[iL]at l1 l2 l3;rw[yAe]at l2;simp only[hhR,hhD,hhC]at l1 l2 l3;have n3:σ3≠[]:=λe=>Bo
  have k5:=(H5 σ3 hR rs 0 i ⟨rn,rt,ra,rb,rf,wd⟩ l1 hx.1 (.inl ⟨rfl,Ah⟩) n3).e0 n3;obtain⟨Q,bU,k5,lQ,nW,dO⟩:=k5;have s0:=dO 0 _ u0 (λn v cs h=>Ap);have s1:=dO 1 _ u1 (λn v cs h=>Ap);have s2:=dO 2 _ u2 (λn v cs h=>Ap);obtain⟨f0,d0⟩:=yA.1 s0;obtain⟨f1,d1⟩:=yA.1 s1;obtain⟨f2,d2⟩:=yA.1 s2;have pQ:=lQ.plain;have cQ:=lQ.cells;unfold PD.plain at pQ;unfold PD.cells at cQ;have nY:=o6 (B:=[0,1]) h5 k5 nW (λid hi h=>by
   simp only[yBh,yBX,yC]at hi;rcases hi with rfl|rfl
   .rw[s0,u0]
   .rw[s1,u1])
  have k8:wO E [0,1] 0 (.inl 76) [Em.aG.aA ⟨rn,rt,ra,rb,rf,wd⟩] σ3=some (Em.aG.aA ⟨rn,rt,ra,rb,rf,wd⟩,σ3):=o6 h8 (by
   have e1:=Em.cM (Em.aG.str (⟨rn,rt,ra,rb,rf,wd⟩:bB));unfold xX entry bZ;rw[yAJ ⟨rfl,n3⟩];simp only[e1,eV (show fX ⟨rn,rt,ra,rb,rf,wd⟩from hx.1)]) (yAk _) (λ_ _ _=>rfl)
  simp only[nN,aW]at nY k8;refine Wp.CL h8 (XI _) n3 [(2,0),(3,1)] [0,1] [some 0,some 1] Ao ⟨⟨_,rfl⟩,⟨_,rfl⟩,trivial⟩ Ao Ch ?_;refine oU zx ?_;apply SQ.nil;have pN:∀R:TypeId->Prop,(∀t,R t->t≠48)->aY R σ3 bU:=λR hR id t n v cs hr hy=>dO id _ hy (λn v cs h=>Bf)
  have kS:∀R,aY R bU (bU.set 0 (.box (.agg [.str on,Q,hD,hC]))):=λR=>aY.set s0 _
  have m1:=lQ.aQ (kS _);have m2:=(l2.aQ (pN _ (λt h=>Bi))).aQ (kS _);have m3:=(l3.aQ (pN _ (λt h=>Be))).aQ (kS _);have nZ:=hokr ow;simp only[iL]at nZ ⊢;have n4:bU.set 0 (.box (.agg [.str on,Q,hD,hC]))≠[]:=λe=>by
   exact fu
  have k6:=(H6 _ on Q hD hC _ _ cc m1 m2 m3 nZ n4).e0 n4;obtain⟨q,wJ,k6,rfl,L5,rfl⟩:=k6;obtain⟨e,he⟩:=gn (bH ⟨on,bT rs 0 i ⟨rn,rt,ra,rb,rf,wd⟩,dd.map (qJ 0 i),cc⟩);exact ai
 .by_cases i1:ix<0
  .exact bg
  by_cases i2:(rs.length:Int)<=ix
  .exact bf
  obtain⟨i,rfl⟩:∃i:Nat,ix=i:=⟨ix.toNat,Ah⟩;rw[yBe]at hokr ⊢;have n2:σ2≠[]:=λe=>Ax
  have lN:σ1.length<=σ2.length:=Bq;have iB:iI σ2 3 ⟨on,rs,dd,cc⟩ (.agg [.str on,hR,hD,hC]) iR iD iC ds tS tss tG tgs tW:=by
   exact bw
  have k7:=(H7 1 i _ _ _ _ _ _ _ _ _ _ _ _ _ iB (yAV Cr lN) ho hwr Ah).e0 n2;obtain⟨q7,σ3,k7,b,rfl,hbt,hbf⟩:=k7;cases b with
  |false=>
   exact au
  |true=>
  obtain⟨ow,wN,lO,cJ⟩:=hbt rfl;have u0:=(cJ 0 Ah).trans g0;have u1:=(cJ 1 Ah).trans g1;have u2:=(cJ 2 Ah).trans g2;obtain⟨r0,x0⟩:=yA.1 u0;obtain⟨r1,x1⟩:=yA.1 u1;obtain⟨r2,x2⟩:=yA.1 u2;refine aC zo ?_;obtain⟨l1,l2,l3⟩:=hIn _ _ _ _ _ _ _ _ _ _ _ _ _ wN (yAk _) (XH hsh _ _);simp only[iL]at l1 l2 l3;rw[yAe]at l2;simp only[hhR,hhD,hhC]at l1 l2 l3;have n3:σ3≠[]:=λe=>Bo
  have k5:=(H5 σ3 hR rs 1 i ⟨rn,rt,ra,rb,rf,wd⟩ l1 hx.1 (.inr ⟨.inl rfl,Ah⟩) n3).e0 n3;obtain⟨Q,bU,k5,lQ,nW,dO⟩:=k5;have s0:=dO 0 _ u0 (λn v cs h=>Ap);have s1:=dO 1 _ u1 (λn v cs h=>Ap);have s2:=dO 2 _ u2 (λn v cs h=>Ap);obtain⟨f0,d0⟩:=yA.1 s0;obtain⟨f1,d1⟩:=yA.1 s1;obtain⟨f2,d2⟩:=yA.1 s2;have pQ:=lQ.plain;have cQ:=lQ.cells;unfold PD.plain at pQ;unfold PD.cells at cQ;have nY:=o6 (B:=[0,1]) h5 k5 nW (λid hi h=>by
   simp only[yBh,yBX,yC]at hi;rcases hi with rfl|rfl
   .rw[s0,u0]
   .rw[s1,u1])
  have k8:wO E [0,1] 0 (.inl 76) [Em.aG.aA ⟨rn,rt,ra,rb,rf,wd⟩] σ3=some (Em.aG.aA ⟨rn,rt,ra,rb,rf,wd⟩,σ3):=o6 h8 (by
   have e1:=Em.cM (Em.aG.str (⟨rn,rt,ra,rb,rf,wd⟩:bB));unfold xX entry bZ;rw[yAJ ⟨rfl,n3⟩];simp only[e1,eV (show fX ⟨rn,rt,ra,rb,rf,wd⟩from hx.1)]) (yAk _) (λ_ _ _=>rfl)
  simp only[nN,aW]at nY k8;refine Wp.CL h8 (XI _) n3 [(2,0),(3,1)] [0,1] [some 0,some 1] Ao ⟨⟨_,rfl⟩,⟨_,rfl⟩,trivial⟩ Ao Ch ?_;refine oU zx ?_;apply SQ.nil;have pN:∀R:TypeId->Prop,(∀t,R t->t≠48)->aY R σ3 bU:=λR hR id t n v cs hr hy=>dO id _ hy (λn v cs h=>Bf)
  have kS:∀R,aY R bU (bU.set 0 (.box (.agg [.str on,Q,hD,hC]))):=λR=>aY.set s0 _
  have m1:=lQ.aQ (kS _);have m2:=(l2.aQ (pN _ (λt h=>Bi))).aQ (kS _);have m3:=(l3.aQ (pN _ (λt h=>Be))).aQ (kS _);have nZ:=hokr ow;simp only[iL]at nZ ⊢;have n4:bU.set 0 (.box (.agg [.str on,Q,hD,hC]))≠[]:=λe=>by
   exact fu
  have k6:=(H6 _ on Q hD hC _ _ cc m1 m2 m3 nZ n4).e0 n4;obtain⟨q,wJ,k6,rfl,L5,rfl⟩:=k6;obtain⟨e,he⟩:=gn (bH ⟨on,bT rs 1 i ⟨rn,rt,ra,rb,rf,wd⟩,dd.map (qJ 1 i),cc⟩);exact ai
 .by_cases i1:ix<0
  .exact bg
  by_cases i2:(rs.length:Int)<=ix
  .exact bf
  obtain⟨i,rfl⟩:∃i:Nat,ix=i:=⟨ix.toNat,Ah⟩;rw[yBe]at hokr ⊢;have n2:σ2≠[]:=λe=>Ax
  have lN:σ1.length<=σ2.length:=Bq;have iB:iI σ2 3 ⟨on,rs,dd,cc⟩ (.agg [.str on,hR,hD,hC]) iR iD iC ds tS tss tG tgs tW:=by
   exact bw
  have k7:=(H7 2 i _ _ _ _ _ _ _ _ _ _ _ _ _ iB (yAV Cr lN) ho hwr Ah).e0 n2;obtain⟨q7,σ3,k7,b,rfl,hbt,hbf⟩:=k7;cases b with
  |false=>
   exact au
  |true=>
  obtain⟨ow,wN,lO,cJ⟩:=hbt rfl;have u0:=(cJ 0 Ah).trans g0;have u1:=(cJ 1 Ah).trans g1;have u2:=(cJ 2 Ah).trans g2;obtain⟨r0,x0⟩:=yA.1 u0;obtain⟨r1,x1⟩:=yA.1 u1;obtain⟨r2,x2⟩:=yA.1 u2;refine aC zo ?_;obtain⟨l1,l2,l3⟩:=hIn _ _ _ _ _ _ _ _ _ _ _ _ _ wN (yAk _) (XH hsh _ _);simp only[iL]at l1 l2 l3;rw[yAe]at l2;simp only[hhR,hhD,hhC]at l1 l2 l3;have n3:σ3≠[]:=λe=>Bo
  have k5:=(H5 σ3 hR rs 2 i ⟨rn,rt,ra,rb,rf,wd⟩ l1 hx.1 (.inr ⟨.inr rfl,Ah⟩) n3).e0 n3;obtain⟨Q,bU,k5,lQ,nW,dO⟩:=k5;have s0:=dO 0 _ u0 (λn v cs h=>Ap);have s1:=dO 1 _ u1 (λn v cs h=>Ap);have s2:=dO 2 _ u2 (λn v cs h=>Ap);obtain⟨f0,d0⟩:=yA.1 s0;obtain⟨f1,d1⟩:=yA.1 s1;obtain⟨f2,d2⟩:=yA.1 s2;have pQ:=lQ.plain;have cQ:=lQ.cells;unfold PD.plain at pQ;unfold PD.cells at cQ;have nY:=o6 (B:=[0,1]) h5 k5 nW (λid hi h=>by
   simp only[yBh,yBX,yC]at hi;rcases hi with rfl|rfl
   .rw[s0,u0]
   .rw[s1,u1])
  have k8:wO E [0,1] 0 (.inl 76) [Em.aG.aA ⟨rn,rt,ra,rb,rf,wd⟩] σ3=some (Em.aG.aA ⟨rn,rt,ra,rb,rf,wd⟩,σ3):=o6 h8 (by
   have e1:=Em.cM (Em.aG.str (⟨rn,rt,ra,rb,rf,wd⟩:bB));unfold xX entry bZ;rw[yAJ ⟨rfl,n3⟩];simp only[e1,eV (show fX ⟨rn,rt,ra,rb,rf,wd⟩from hx.1)]) (yAk _) (λ_ _ _=>rfl)
  simp only[nN,aW]at nY k8;refine Wp.CL h8 (XI _) n3 [(2,0),(3,1)] [0,1] [some 0,some 1] Ao ⟨⟨_,rfl⟩,⟨_,rfl⟩,trivial⟩ Ao Ch ?_;refine oU zx ?_;apply SQ.nil;have pN:∀R:TypeId->Prop,(∀t,R t->t≠48)->aY R σ3 bU:=λR hR id t n v cs hr hy=>dO id _ hy (λn v cs h=>Bf)
  have kS:∀R,aY R bU (bU.set 0 (.box (.agg [.str on,Q,hD,hC]))):=λR=>aY.set s0 _
  have m1:=lQ.aQ (kS _);have m2:=(l2.aQ (pN _ (λt h=>Bi))).aQ (kS _);have m3:=(l3.aQ (pN _ (λt h=>Be))).aQ (kS _);have nZ:=hokr ow;simp only[iL]at nZ ⊢;have n4:bU.set 0 (.box (.agg [.str on,Q,hD,hC]))≠[]:=λe=>by
   exact fu
  have k6:=(H6 _ on Q hD hC _ _ cc m1 m2 m3 nZ n4).e0 n4;obtain⟨q,wJ,k6,rfl,L5,rfl⟩:=k6;obtain⟨e,he⟩:=gn (bH ⟨on,bT rs 2 i ⟨rn,rt,ra,rb,rf,wd⟩,dd.map (qJ 2 i),cc⟩);exact ai
end
section
variable{E E1 E2 E3 E4:aE}(hU:aH E)
include hU
theorem aNm(h0:E 42=none)(h1:E 78=some AE)(h2:E 41=some (eT prog E1 41))
  (H2:KI E1)
  (h6:E 79=some (eT prog E4 79)) (H6:EK E4)
  (hIn:PJ (cO Em.aG 6 oI) (cO Em.div 5 oJ) (cO Em.aK 5 mC))
  (o:aP) (x:bC) (ho:gG o) (hsh:uY o) (hx:fW x) (hf:iA x=0) (hk:x.kind=13) (hokr:dI { o with name:=x.name }) :
  aL prog E 0 (.inl 42) [Em.bM.aA o,Em.edit.aA x] [] (λp σ=>∃P1 P2 P3,p=.aI [if bH { o with name:=x.name }=0 then .agg [.str x.name,P1,P2,P3]else bX,.int .i64 (bH { o with name:=x.name })]/\cO Em.aG 6 oI σ P1 o.aM/\cO Em.div 5 oJ σ P2 o.aD/\cO Em.aK 5 mC σ P3 o.aO):=by
 have k1:=λfl σ=>HJ hx fl σ
 rw[hf]at k1;obtain⟨kd,dv,ix,nm,⟨rn,rt,ra,rb,rf,wd⟩,⟨fn,fp,flo,fhi,fs⟩,⟨sn,sa,sb,sg⟩,⟨cn,ca,cb,cs,ct⟩⟩:=x;obtain⟨on,rs,dd,cc⟩:=o;have k2:=(H2 ⟨on,rs,dd,cc⟩ ho [.box (Em.bM.aA ⟨on,rs,dd,cc⟩),.box (Em.edit.aA ⟨kd,dv,ix,nm,⟨rn,rt,ra,rb,rf,wd⟩,⟨fn,fp,flo,fhi,fs⟩,⟨sn,sa,sb,sg⟩,⟨cn,ca,cb,cs,ct⟩⟩),.box (.agg [.str [],.slice 0 [] .full,.slice 0 [] .full,.slice 0 [] .full])]).e0 Ai;obtain⟨p,σ1,k2,⟨iR,iD,iC,ds,tS,tss,tG,tgs,tW,hO⟩,hl1,hk1⟩:=k2;obtain⟨l1,l2,l3⟩:=hIn _ _ _ _ _ _ _ _ _ _ _ _ _ hO (yAk _) hsh;have hp:=hO.p;subst hp;have b0:=hk1 0 Ai;have b1:=hk1 1 Ai;have b2:=hk1 2 Ai;simp only[yBv,yBL]at b0 b1 b2;obtain⟨hR,hhR⟩:=gn (Go.Kz.hd 6 iR rs.length);obtain⟨hD,hhD⟩:=gn (Go.Kz.hd 5 iD dd.length);obtain⟨hC,hhC⟩:=gn (Go.Kz.hd 5 iC cc.length);have pR:hR.plain=true:=Az;have pD:hD.plain=true:=Ba;have pC:hC.plain=true:=Bb;have cR:hR.cells=[hR]:=Bw;have cD:hD.cells=[hD]:=Bx;have cC:hC.cells=[hC]:=Bz;unfold PD.plain at pR pD pC;unfold PD.cells at cR cD cC;simp only[hhR,hhD,hhC]at hO k2 l1 l2 l3;simp only[cU,gF,aW]at k1 k2 b0 b1 b2 hk;simp only[cU,gF,aW];obtain⟨w0,z0⟩:=yA.1 b0;obtain⟨w1,z1⟩:=yA.1 b1;obtain⟨w2,z2⟩:=yA.1 b2;subst hk;obtain⟨σ2,dL⟩:=gn ((σ1.set 0 (.box (.agg [.str on,hR,hD,hC]))).set 0 (.box (.agg [.str nm,hR,hD,hC])));have kS:∀R,aY R σ1 σ2:=λR=>by
  rw[<-dL];exact(aY.set b0 _).trans (aY.set (yAj w0) _)
 have m1:=l1.aQ (kS _);have m2:=l2.aQ (kS _);have m3:=l3.aQ (kS _);have lN:σ2.length=σ1.length:=by rw[<-dL,yAD,yAD]
 have n2:σ2≠[]:=λe=>by rw[e]at lN;rw[<-lN]at w0;exact absurd w0 (yBb _)
 have k6:=(H6 _ nm hR hD hC _ _ _ m1 m2 m3 hokr n2).e0 n2;obtain⟨q,wJ,k6,rfl,L5,rfl⟩:=k6;obtain⟨e,he⟩:=gn (bH ⟨nm,rs,dd,cc⟩);simp only at hokr ⊢;rw[he]at k6;simp only[he];have t2:(σ2++L5)[2]?=some (.box bX):=by
  rw[yAg Ah,<-dL,yAd Ah,yAd Ah];exact b2
 have kE:∀R X,aY R σ2 ((σ2++L5).set 2 X):=λR X=>(aY.app R σ2 L5).trans (aY.set t2 X)
 have a0:σ2[0]?=some (.box (.agg [.str nm,hR,hD,hC])):=by rw[<-dL,yAj (by rw[yAD];exact w0)]
 obtain⟨a1,a2⟩:=yA.1 a0;obtain⟨Z,hZ⟩:=gn (σ2++L5);rw[hZ]at k6 t2;simp only[hZ]at kE;unfold bX at t2;obtain⟨t3,t4⟩:=yA.1 t2;have c1:(σ1.set 0 (.box (.agg [.str on,hR,hD,hC])))[1]?=_:=(yAd Ah).trans b1;obtain⟨c2,c3⟩:=yA.1 c1;refine aL.aN 132 h0 func42 (h:=?_)
 by_cases hz:e=0
 .subst hz;rw[yAJ rfl]at k6;refine aC Ad ?_;refine⟨.aI [.agg [.str nm,hR,hD,hC],.int .i64 0],Z.set 2 (.box (.agg [.str nm,hR,hD,hC])),?_,hR,hD,hC,rfl,m1.aQ (kE _ _),m2.aQ (kE _ _),m3.aQ (kE _ _)⟩;simp[cI,t3]
 .rw[yAI hz]at k6;unfold bX at k6;refine aC Ad ?_;refine⟨.aI [bX,.int .i64 e],Z.set 2 (.box bX),?_,hR,hD,hC,by rw[yAI hz],m1.aQ (kE _ _),m2.aQ (kE _ _),m3.aQ (kE _ _)⟩;simp[cI,t3,bX]
theorem aNl(h0:E 42=none)(h1:E 78=some AE)(o:aP)(x:bC)(hx:fW x)(hf:iA x≠0) :
  aL prog E 0 (.inl 42) [Em.bM.aA o,Em.edit.aA x] [] (λp _=>p=.aI [bK,.int .i64 (iA x)]):=by
 have k1:=λfl σ=>HJ hx fl σ
 obtain⟨e,he⟩:=gn (iA x);rw[he]at k1 hf ⊢;obtain⟨kd,dv,ix,nm,⟨rn,rt,ra,rb,rf,wd⟩,⟨fn,fp,flo,fhi,fs⟩,⟨sn,sa,sb,sg⟩,⟨cn,ca,cb,cs,ct⟩⟩:=x;obtain⟨on,rs,dd,cc⟩:=o;simp only[cU,gF,aW]at k1;simp only[cU,gF,aW];refine aL.aN 132 h0 func42 (h:=?_);refine aC (A3 h1 k1 hf) ?_;exact bx
end
end Go.Kz
