/- Steps of the proof. -/
import Derived.Test.YteegpeenjdgodaaGreatDoorT1b
import Derived.Test.YteegpeenjdgodaaGreatDoorS3
import Derived.Test.YteegpeenjdgodaaGreatDoorS9
import Derived.Test.YteegpeenjdgodaaGreatDoorS5b
set_option linter.all false
set_option maxHeartbeats 40000000
set_option maxRecDepth 100000
open Go.Proofs.Tryz
namespace Go.Kz
open Go Go.Proofs
section
def xY(e k:Nat):Nat->List PD->List aA->Option (PD×List aA):=λfl args σ=>match args with
 | [.aP id 0 0 n sz,.int .i64 i,.slice sx [y] _]=>match σ[id]? with
   |some (.row e' size 0 cs)=>if fl<=id/\size=k/\sz=k/\e'=e/\cs.length=n*k/\i=n/\0<n/\n<=200/\sx=k/\y.cells.length=k then
     some (.aP id 1 0 (n+1) k,σ.set id (.row e k 1 (cs++y.cells)))else none
   |_=>none
 |_=>none
def BU(e k:Nat):Nat->List PD->List aA->Option (PD×List aA):=λfl args σ=>match args with
 | [.slice 0 [] .full,.int .i64 i,.slice sx [y] _]=>if i=0/\sx=k/\y.cells.length=k then some (.aP σ.length 0 0 1 k,σ++[.row e k 0 y.cells])else none
 |_=>none
variable{E E0:aE}(hU:aJ E)
include hU
theorem aQD{f ov t e k:Nat}(h4:InC f ov t e k)(h0:E f=none)(fl id n:Nat)(hfl:fl<=id)(y:PD)(tok:Tok)(τ:List aA)(cs:List PD)(hr:τ[id]?=some (.row e k 0 cs))(hl:cs.length=n*k)(hn:n<=200)(hp:0<n)(hy:y.cells.length=k) :
  aK prog E fl (.inl f) [.aP id 0 0 n k,.int .i64 n,.slice k [y] tok] τ (λp σ'=>p=.aP id 1 0 (n+1) k/\σ'=τ.set id (.row e k 1 (cs++y.cells))):=by
 have n7:=h4.ut;have hk:=h4.hk;have hsl:kQ prog t (.aP id 0 0 n k) (some (some (.int .i64 n))) none none=some (.slice k [] .any):=by
  have h1:cT prog e=some k:=by
   exact fo
  have h2:¬n=0:=Cd;simp[kQ,n7,h1,kT,gL,h2]
 have hap:∀u,iM t u=true->dY prog u fl τ t (.aP id 0 0 n k) (.slice k [y] tok)=some (.aP id 1 0 (n+1) k,τ.set id (.row e k 1 (cs++y.cells))):=λu hu=>by
  obtain⟨inf,z,hin,hz,hs,hb,hzs,h1⟩:=R5 (P:=prog) (e:=e) (k:=k) (by
   unfold InC at h4;rcases h4 with⟨rfl,rfl,rfl,rfl,rfl⟩ | ⟨rfl,rfl,rfl,rfl,rfl⟩ | ⟨rfl,rfl,rfl,rfl,rfl⟩ | ⟨rfl,rfl,rfl,rfl,rfl⟩<;>kernel_rfl)
  have hbb:(n+1)*inf.bytes<=140737488355328:=yAQ (yCV (show n+1<=1000 by omega) hb) Ch;have hml:n+1<=maxLen:=Df;have hall:z.cells.toList.all Value.oneCell'=true:=yAn.2 λv hv=>h1 v hv
  have hv:vA τ (.slice k [y] tok)=some (k,[y]):=rfl;unfold InC at h4;rcases h4 with⟨rfl,rfl,rfl,rfl,rfl⟩ | ⟨rfl,rfl,rfl,rfl,rfl⟩ | ⟨rfl,rfl,rfl,rfl,rfl⟩ | ⟨rfl,rfl,rfl,rfl,rfl⟩
  all_goals
   unfold dY;rw[yAJ hu,n7,hv];simp only[hin,hz,hs,hzs,hall,hbb,hml,hr,yDc,hfl,yBA,yAK,Nat.lt_add_one,yDP,yCj,yCe,yBn];rw[yAI Cd,yAJ Cd];simp
 unfold InC at h4;rcases h4 with⟨rfl,rfl,rfl,rfl,rfl⟩ | ⟨rfl,rfl,rfl,rfl,rfl⟩ | ⟨rfl,rfl,rfl,rfl,rfl⟩ | ⟨rfl,rfl,rfl,rfl,rfl⟩
 all_goals
  have CI:=h0
  first|apply aK.xO h0 func112 rfl|apply aK.xO h0 func114 rfl|apply aK.xO h0 func116 rfl|apply aK.xO h0 func120 rfl
  focus(simp[show Tryz.f112.ntmps=_ from rfl,show Tryz.f114.ntmps=_ from rfl,show Tryz.f116.ntmps=_ from rfl,show Tryz.f120.ntmps=_ from rfl,List.replicate];rfl)
  refine aC (A2 hsl hap) ?_;exact az
theorem R6{f ov t e k:Nat}(h4:InC f ov t e k)(hE:aF prog E)(h0:E f=none):aF prog (E.add f (xY e k)):=
 hE.add bS λfl args σ p σ' h=>by
  unfold xY at h;split at h
  rotate_left
  .cases h
  rename_i id n sz i sx y tok;split at h
  rotate_left
  .cases h
  rename_i e' size cs hq;split at h
  rotate_left
  .cases h
  rename_i hc;obtain⟨hfl,rfl,rfl,rfl,hlen,rfl,hp,hn,rfl,hy⟩:=hc;simp only[yAb,yAc]at h;obtain⟨rfl,rfl⟩:=h;obtain⟨p1,σ1,k1,rfl,rfl⟩:=(aQD hU h4 h0 fl id n hfl y tok σ cs hq hlen hn hp hy).ex;exact k1
theorem aQE{f ov t e k:Nat}(h4:InC f ov t e k)(h0:E f=none)(fl:Nat)(y:PD)(tok:Tok)(τ:List aA)(hy:y.cells.length=k) :
  aK prog E fl (.inl f) [.slice 0 [] .full,.int .i64 0,.slice k [y] tok] τ (λp σ'=>p=.aP τ.length 0 0 1 k/\σ'=τ++[.row e k 0 y.cells]):=by
 have n7:=h4.ut;have hk:=h4.hk;have hap:∀u,iM t u=true->dY prog u fl τ t (.slice 0 [] .full) (.slice k [y] tok)=some (.aP τ.length 0 0 1 k,τ++[.row e k 0 y.cells]):=λu hu=>by
  obtain⟨inf,z,hin,hz,hs,hb,hzs,h1⟩:=R5 (P:=prog) (e:=e) (k:=k) (by
   unfold InC at h4;rcases h4 with⟨rfl,rfl,rfl,rfl,rfl⟩ | ⟨rfl,rfl,rfl,rfl,rfl⟩ | ⟨rfl,rfl,rfl,rfl,rfl⟩ | ⟨rfl,rfl,rfl,rfl,rfl⟩<;>kernel_rfl)
  have hbb:(0+1)*inf.bytes<=140737488355328:=Cd;have hml:0+1<=maxLen:=Df;have hall:z.cells.toList.all Value.oneCell'=true:=yAn.2 λv hv=>h1 v hv
  have hv:vA τ (.slice k [y] tok)=some (k,[y]):=rfl;unfold InC at h4;rcases h4 with⟨rfl,rfl,rfl,rfl,rfl⟩ | ⟨rfl,rfl,rfl,rfl,rfl⟩ | ⟨rfl,rfl,rfl,rfl,rfl⟩ | ⟨rfl,rfl,rfl,rfl,rfl⟩
  all_goals
   unfold dY;rw[yAJ hu,n7,hv];simp only[hin,hz,hs,hzs,hall,hbb,hml,yDc,yAO,Tok.fresh,yBA,yAK,Nat.lt_add_one,yDP,yCj,yCe,yCA,yBn];simp
 unfold InC at h4;rcases h4 with⟨rfl,rfl,rfl,rfl,rfl⟩ | ⟨rfl,rfl,rfl,rfl,rfl⟩ | ⟨rfl,rfl,rfl,rfl,rfl⟩ | ⟨rfl,rfl,rfl,rfl,rfl⟩
 all_goals
  have CI:=h0
  first|apply aK.xO h0 func112 rfl|apply aK.xO h0 func114 rfl|apply aK.xO h0 func116 rfl|apply aK.xO h0 func120 rfl
  focus(simp[show Tryz.f112.ntmps=_ from rfl,show Tryz.f114.ntmps=_ from rfl,show Tryz.f116.ntmps=_ from rfl,show Tryz.f120.ntmps=_ from rfl,List.replicate];rfl)
  refine aC hap ?_;exact az
theorem R7{f ov t e k:Nat}(h4:InC f ov t e k)(hE:aF prog E)(h0:E f=none):aF prog (E.add f (BU e k)):=
 hE.add bS λfl args σ p σ' h=>by
  unfold BU at h;split at h
  rotate_left
  .cases h
  split at h
  rotate_left
  .cases h
  rename_i hc;obtain⟨rfl,rfl,hy⟩:=hc;simp only[yAb,yAc]at h;obtain⟨rfl,rfl⟩:=h;obtain⟨p1,σ1,k1,rfl,rfl⟩:=(aQE hU h4 h0 fl _ _ σ hy).ex;exact k1
theorem aMR(hE:aF prog E)(h0:E 112=none):aF prog (E.add 112 (xY 48 6)):=R6 hU (.inl ⟨rfl,rfl,rfl,rfl,rfl⟩) hE h0
theorem aMS(hE:aF prog E)(h0:E 112=none):aF prog (E.add 112 (BU 48 6)):=R7 hU (.inl ⟨rfl,rfl,rfl,rfl,rfl⟩) hE h0
theorem aMU(hE:aF prog E)(h0:E 114=none):aF prog (E.add 114 (xY 53 5)):=R6 hU (.inr (.inl ⟨rfl,rfl,rfl,rfl,rfl⟩)) hE h0
theorem aMV(hE:aF prog E)(h0:E 114=none):aF prog (E.add 114 (BU 53 5)):=R7 hU (.inr (.inl ⟨rfl,rfl,rfl,rfl,rfl⟩)) hE h0
theorem aM1(hE:aF prog E)(h0:E 116=none):aF prog (E.add 116 (xY 56 4)):=R6 hU (.inr (.inr (.inl ⟨rfl,rfl,rfl,rfl,rfl⟩))) hE h0
theorem aM2(hE:aF prog E)(h0:E 116=none):aF prog (E.add 116 (BU 56 4)):=R7 hU (.inr (.inr (.inl ⟨rfl,rfl,rfl,rfl,rfl⟩))) hE h0
theorem aMX(hE:aF prog E)(h0:E 120=none):aF prog (E.add 120 (xY 58 5)):=R6 hU (.inr (.inr (.inr ⟨rfl,rfl,rfl,rfl,rfl⟩))) hE h0
theorem aMY(hE:aF prog E)(h0:E 120=none):aF prog (E.add 120 (BU 58 5)):=R7 hU (.inr (.inr (.inr ⟨rfl,rfl,rfl,rfl,rfl⟩))) hE h0
end
section
variable{E E0:aE}(hU:aJ E)
include hU
theorem aNX{gI gD:Je}(h0:E 87=none)(h1:E 120=some gI)(h2:E 121=some gD)
  (l p:PD) (way i:Int) (nm:List UInt8) (a b sh:Int) (th:Bool) (τ σ':List aA) (hw:way=0) (hi:0<=i/\i<=1000) (hI:gI 0 [l,.int .i64 i,.slice 5 [.agg [.str nm,.int .i64 a,.int .i64 b,.int .i64 sh,.bool th]] .full] (τ++[.box (.agg [.str nm,.int .i64 a,.int .i64 b,.int .i64 sh,.bool th])])=some (p,σ')) :
  aK prog E 0 (.inl 87) [l,.int .i64 way,.int .i64 i,.agg [.str nm,.int .i64 a,.int .i64 b,.int .i64 sh,.bool th]] τ (λp1 σ1=>p1=p/\σ1=σ'):=by
 subst hw;clear hU;refine aK.aG 29 h0 func87 (h:=?_);exact Ad
theorem aNY{gI gD:Je}(h0:E 87=none)(h1:E 120=some gI)(h2:E 121=some gD)
  (l p:PD) (way i:Int) (nm:List UInt8) (a b sh:Int) (th:Bool) (τ σ':List aA) (hw:way=1) (hi:0<=i/\i<=1000) (hD:gD 0 [l,.int .i64 i,.int .i64 (i+1)] (τ++[.box (.agg [.str nm,.int .i64 a,.int .i64 b,.int .i64 sh,.bool th])])=some (p,σ')) :
  aK prog E 0 (.inl 87) [l,.int .i64 way,.int .i64 i,.agg [.str nm,.int .i64 a,.int .i64 b,.int .i64 sh,.bool th]] τ (λp1 σ1=>p1=p/\σ1=σ'):=by
 subst hw;clear hU;refine aK.aG 29 h0 func87 (h:=?_);exact zy
theorem aNZ(h0:E 87=none)(id n:Nat)(way:Int)(i:Nat)(nm:List UInt8)(a b sh:Int)(th:Bool)(τ:List aA)(cs:List PD)(hw:way=2)(hi:i<n)(hn:n<=1000000)(hr:τ[id]?=some (.row 58 5 0 cs))(hl:cs.length=n*5) :
  aK prog E 0 (.inl 87) [.aP id 0 0 n 5,.int .i64 way,.int .i64 i,.agg [.str nm,.int .i64 a,.int .i64 b,.int .i64 sh,.bool th]] τ (λp1 σ1=>p1=.aP id 0 0 n 5/\σ1=τ.set id (.row 58 5 0 (dL cs (i*5) [.str nm,.int .i64 a,.int .i64 b,.int .i64 sh,.bool th]))++[.box (.agg [.str nm,.int .i64 a,.int .i64 b,.int .i64 sh,.bool th])]):=by
 subst hw;have GD:aJ E/\True:=⟨hU,trivial⟩;clear hU;have xk:jH prog 33 (.aP id 0 0 n 5) (.int .i64 i)=some (.dM id 0 (i*5)):=by
  simp[jV,hi]
 obtain⟨r7,y7⟩:=yA.1 hr;have fJ:i*5+5<=cs.length:=Cd;have u7:=bR (τ:=[aA.box (.agg [.str nm,.int .i64 a,.int .i64 b,.int .i64 sh,.bool th])]) hr;have j0:∀x:aA,(τ++[x])[τ.length]?=some x:=λx=>Ce
 have q1:(i:Int)<(n:Int):=Cd;refine aK.aG 29 h0 func87 (h:=?_);exact dy
end
section
variable{E E0:aE}(hU:aJ E)
include hU
theorem aN6{gI gD:Je}(h0:E 85=none)(h1:E 116=some gI)(h2:E 117=some gD)
  (l p:PD) (way i:Int) (nm:List UInt8) (a b:Int) (h:PD) (hh:h=.slice 0 [] .full\/∃id m,h=.aP id 0 0 m 3) (τ σ':List aA) (hw:way=0) (hi:0<=i/\i<=1000) (hI:gI 0 [l,.int .i64 i,.slice 4 [.agg [.str nm,.int .i64 a,.int .i64 b,h.strip]] .full] (τ++[.box (.agg [.str nm,.int .i64 a,.int .i64 b,h])])=some (p,σ')) :
  aK prog E 0 (.inl 85) [l,.int .i64 way,.int .i64 i,.agg [.str nm,.int .i64 a,.int .i64 b,h]] τ (λp1 σ1=>p1=p/\σ1=σ'):=by
 subst hw;rcases hh with rfl | ⟨B8,m1,rfl⟩
 .simp only[PD.strip]at hI;clear hU;refine aK.aG 29 h0 func85 (h:=?_);exact Ad
 .simp only[PD.strip]at hI;clear hU;refine aK.aG 29 h0 func85 (h:=?_);exact Ad
theorem aN7{gI gD:Je}(h0:E 85=none)(h1:E 116=some gI)(h2:E 117=some gD)
  (l p:PD) (way i:Int) (nm:List UInt8) (a b:Int) (h:PD) (hh:h=.slice 0 [] .full\/∃id m,h=.aP id 0 0 m 3) (τ σ':List aA) (hw:way=1) (hi:0<=i/\i<=1000) (hD:gD 0 [l,.int .i64 i,.int .i64 (i+1)] (τ++[.box (.agg [.str nm,.int .i64 a,.int .i64 b,h])])=some (p,σ')) :
  aK prog E 0 (.inl 85) [l,.int .i64 way,.int .i64 i,.agg [.str nm,.int .i64 a,.int .i64 b,h]] τ (λp1 σ1=>p1=p/\σ1=σ'):=by
 subst hw;rcases hh with rfl | ⟨B8,m1,rfl⟩
 .clear hU;refine aK.aG 29 h0 func85 (h:=?_);exact zy
 .clear hU;refine aK.aG 29 h0 func85 (h:=?_);exact zy
theorem aN8(h0:E 85=none)(id n:Nat)(way:Int)(i:Nat)(nm:List UInt8)(a b:Int)(h:PD)(hh:h=.slice 0 [] .full\/∃id m,h=.aP id 0 0 m 3)(τ:List aA)(cs:List PD)(hw:way=2)(hi:i<n)(hn:n<=1000000)(hr:τ[id]?=some (.row 56 4 0 cs))(hl:cs.length=n*4) :
  aK prog E 0 (.inl 85) [.aP id 0 0 n 4,.int .i64 way,.int .i64 i,.agg [.str nm,.int .i64 a,.int .i64 b,h]] τ (λp1 σ1=>p1=.aP id 0 0 n 4/\σ1=τ.set id (.row 56 4 0 (dL cs (i*4) [.str nm,.int .i64 a,.int .i64 b,h]))++[.box (.agg [.str nm,.int .i64 a,.int .i64 b,h])]):=by
 subst hw;rcases hh with rfl | ⟨B8,m1,rfl⟩
 .have GD:aJ E/\True:=⟨hU,trivial⟩;clear hU;have xk:jH prog 51 (.aP id 0 0 n 4) (.int .i64 i)=some (.dM id 0 (i*4)):=by
   simp[jV,hi]
  obtain⟨r7,y7⟩:=yA.1 hr;have fJ:i*4+4<=cs.length:=Cd;have u7:=bR (τ:=[aA.box (.agg [.str nm,.int .i64 a,.int .i64 b,.slice 0 [] .full])]) hr;exact zz
 .have GD:aJ E/\True:=⟨hU,trivial⟩;clear hU;have xk:jH prog 51 (.aP id 0 0 n 4) (.int .i64 i)=some (.dM id 0 (i*4)):=by
   simp[jV,hi]
  obtain⟨r7,y7⟩:=yA.1 hr;have fJ:i*4+4<=cs.length:=Cd;have u7:=bR (τ:=[aA.box (.agg [.str nm,.int .i64 a,.int .i64 b,.aP B8 0 0 m1 3])]) hr;exact zz
end
section
variable{E E0:aE}(hU:aJ E)
include hU
theorem aN3{gI gD:Je}(h0:E 84=none)(h1:E 114=some gI)(h2:E 115=some gD)
  (l p:PD) (way i:Int) (nm:List UInt8) (pe:Bool) (a b:Int) (h:PD) (hh:h=.slice 0 [] .full\/∃id m,h=.aP id 0 0 m 4) (τ σ':List aA) (hw:way=0) (hi:0<=i/\i<=1000) (hI:gI 0 [l,.int .i64 i,.slice 5 [.agg [.str nm,.bool pe,.int .i64 a,.int .i64 b,h.strip]] .full] (τ++[.box (.agg [.str nm,.bool pe,.int .i64 a,.int .i64 b,h])])=some (p,σ')) :
  aK prog E 0 (.inl 84) [l,.int .i64 way,.int .i64 i,.agg [.str nm,.bool pe,.int .i64 a,.int .i64 b,h]] τ (λp1 σ1=>p1=p/\σ1=σ'):=by
 subst hw;rcases hh with rfl | ⟨B8,m1,rfl⟩
 .simp only[PD.strip]at hI;clear hU;refine aK.aG 29 h0 func84 (h:=?_);exact Ad
 .simp only[PD.strip]at hI;clear hU;refine aK.aG 29 h0 func84 (h:=?_);exact Ad
theorem aN4{gI gD:Je}(h0:E 84=none)(h1:E 114=some gI)(h2:E 115=some gD)
  (l p:PD) (way i:Int) (nm:List UInt8) (pe:Bool) (a b:Int) (h:PD) (hh:h=.slice 0 [] .full\/∃id m,h=.aP id 0 0 m 4) (τ σ':List aA) (hw:way=1) (hi:0<=i/\i<=1000) (hD:gD 0 [l,.int .i64 i,.int .i64 (i+1)] (τ++[.box (.agg [.str nm,.bool pe,.int .i64 a,.int .i64 b,h])])=some (p,σ')) :
  aK prog E 0 (.inl 84) [l,.int .i64 way,.int .i64 i,.agg [.str nm,.bool pe,.int .i64 a,.int .i64 b,h]] τ (λp1 σ1=>p1=p/\σ1=σ'):=by
 subst hw;rcases hh with rfl | ⟨B8,m1,rfl⟩
 .clear hU;refine aK.aG 29 h0 func84 (h:=?_);exact zy
 .clear hU;refine aK.aG 29 h0 func84 (h:=?_);exact zy
theorem aN5(h0:E 84=none)(id n:Nat)(way:Int)(i:Nat)(nm:List UInt8)(pe:Bool)(a b:Int)(h:PD)(hh:h=.slice 0 [] .full\/∃id m,h=.aP id 0 0 m 4)(τ:List aA)(cs:List PD)(hw:way=2)(hi:i<n)(hn:n<=1000000)(hr:τ[id]?=some (.row 53 5 0 cs))(hl:cs.length=n*5) :
  aK prog E 0 (.inl 84) [.aP id 0 0 n 5,.int .i64 way,.int .i64 i,.agg [.str nm,.bool pe,.int .i64 a,.int .i64 b,h]] τ (λp1 σ1=>p1=.aP id 0 0 n 5/\σ1=τ.set id (.row 53 5 0 (dL cs (i*5) [.str nm,.bool pe,.int .i64 a,.int .i64 b,h]))++[.box (.agg [.str nm,.bool pe,.int .i64 a,.int .i64 b,h])]):=by
 subst hw;rcases hh with rfl | ⟨B8,m1,rfl⟩
 .have GD:aJ E/\True:=⟨hU,trivial⟩;clear hU;have xk:jH prog 32 (.aP id 0 0 n 5) (.int .i64 i)=some (.dM id 0 (i*5)):=by
   simp[jV,hi]
  obtain⟨r7,y7⟩:=yA.1 hr;have fJ:i*5+5<=cs.length:=Cd;have u7:=bR (τ:=[aA.box (.agg [.str nm,.bool pe,.int .i64 a,.int .i64 b,.slice 0 [] .full])]) hr;exact Aa
 .have GD:aJ E/\True:=⟨hU,trivial⟩;clear hU;have xk:jH prog 32 (.aP id 0 0 n 5) (.int .i64 i)=some (.dM id 0 (i*5)):=by
   simp[jV,hi]
  obtain⟨r7,y7⟩:=yA.1 hr;have fJ:i*5+5<=cs.length:=Cd;have u7:=bR (τ:=[aA.box (.agg [.str nm,.bool pe,.int .i64 a,.int .i64 b,.aP B8 0 0 m1 4])]) hr;exact Aa
end
section
variable{E E0:aE}(hU:aJ E)
include hU
theorem aN0{gI gD:Je}(h0:E 82=none)(h1:E 112=some gI)(h2:E 113=some gD)
  (l p:PD) (way i:Int) (nm tn:List UInt8) (a b sh:Int) (zw:Nat) (xs:List PD) (hx:(PD.slice zw xs .any).strip=.slice zw xs .any) (τ σ':List aA) (hw:way=0) (hi:0<=i/\i<=1000) (hI:gI 0 [l,.int .i64 i,.slice 6 [.agg [.str nm,.str tn,.int .i64 a,.int .i64 b,.int .i64 sh,.slice zw xs .any]] .full] (τ++[.box (.agg [.str nm,.str tn,.int .i64 a,.int .i64 b,.int .i64 sh,.slice zw xs .any])])=some (p,σ')) :
  aK prog E 0 (.inl 82) [l,.int .i64 way,.int .i64 i,.agg [.str nm,.str tn,.int .i64 a,.int .i64 b,.int .i64 sh,.slice zw xs .any]] τ (λp1 σ1=>p1=p/\σ1=σ'):=by
 subst hw;clear hU;refine aK.aG 29 h0 func82 (h:=?_);refine aC (A3 h1 hI hx) ?_;exact az
theorem aN1{gI gD:Je}(h0:E 82=none)(h1:E 112=some gI)(h2:E 113=some gD)
  (l p:PD) (way i:Int) (nm tn:List UInt8) (a b sh:Int) (zw:Nat) (xs:List PD) (hx:(PD.slice zw xs .any).strip=.slice zw xs .any) (τ σ':List aA) (hw:way=1) (hi:0<=i/\i<=1000) (hD:gD 0 [l,.int .i64 i,.int .i64 (i+1)] (τ++[.box (.agg [.str nm,.str tn,.int .i64 a,.int .i64 b,.int .i64 sh,.slice zw xs .any])])=some (p,σ')) :
  aK prog E 0 (.inl 82) [l,.int .i64 way,.int .i64 i,.agg [.str nm,.str tn,.int .i64 a,.int .i64 b,.int .i64 sh,.slice zw xs .any]] τ (λp1 σ1=>p1=p/\σ1=σ'):=by
 subst hw;clear hU;refine aK.aG 29 h0 func82 (h:=?_);exact zy
theorem aN2(h0:E 82=none)(id n:Nat)(way:Int)(i:Nat)(nm tn:List UInt8)(a b sh:Int)(zw:Nat)(xs:List PD)(hx:(PD.slice zw xs .any).strip=.slice zw xs .any)(τ:List aA)(cs:List PD)(hw:way=2)(hi:i<n)(hn:n<=1000000)(hr:τ[id]?=some (.row 48 6 0 cs))(hl:cs.length=n*6) :
  aK prog E 0 (.inl 82) [.aP id 0 0 n 6,.int .i64 way,.int .i64 i,.agg [.str nm,.str tn,.int .i64 a,.int .i64 b,.int .i64 sh,.slice zw xs .any]] τ (λp1 σ1=>p1=.aP id 0 0 n 6/\σ1=τ.set id (.row 48 6 0 (dL cs (i*6) [.str nm,.str tn,.int .i64 a,.int .i64 b,.int .i64 sh,.slice zw xs .any]))++[.box (.agg [.str nm,.str tn,.int .i64 a,.int .i64 b,.int .i64 sh,.slice zw xs .any])]):=by
 subst hw;have GD:aJ E/\True:=⟨hU,trivial⟩;clear hU;have xk:jH prog 31 (.aP id 0 0 n 6) (.int .i64 i)=some (.dM id 0 (i*6)):=by
  simp[jV,hi]
 obtain⟨r7,y7⟩:=yA.1 hr;have fJ:i*6+6<=cs.length:=Cd;have u7:=bR (τ:=[aA.box (.agg [.str nm,.str tn,.int .i64 a,.int .i64 b,.int .i64 sh,.slice zw xs .any])]) hr;have j0:∀x:aA,(τ++[x])[τ.length]?=some x:=λx=>Ce
 have q1:(i:Int)<(n:Int):=Cd;refine aK.aG 29 h0 func82 (h:=?_);exact dy
end
section
variable{E E0:aE}(hU:aJ E)
include hU
theorem aKC(h0:E 56=none)(kd:Nat)(hk:kd<13)(d i:Int)(nm rn rt fn sn cn:List UInt8)(ra rb rf fl fh sa sb ca cb cs:Int)(fp ct:Bool)(wk sk gk:Nat)(W S G:List PD) :
  aK prog E 0 (.inl 56) [.agg [.int .i64 ((kd:Int)+1),.int .i64 d,.int .i64 i,.str nm,.str rn,.str rt,.int .i64 ra,.int .i64 rb,.int .i64 rf,.slice wk W .any,.str fn,.bool fp,.int .i64 fl,.int .i64 fh,.slice sk S .any,.str sn,.int .i64 sa,.int .i64 sb,.slice gk G .any,.str cn,.int .i64 ca,.int .i64 cb,.int .i64 cs,.bool ct]] [] (λp σ=>p=.aH [.int .i64 ((kd/3:Nat):Int),.int .i64 ((kd%3:Nat):Int)]):=by
 have e1:(kd:Int)/3=((kd/3:Nat):Int):=Cd;have e2:(kd:Int)%3=((kd%3:Nat):Int):=Cd;refine aK.aG 12 h0 func56 (h:=?_);refine aC trivial ?_;have e3:((kd:Int)).tmod 3=((kd%3:Nat):Int):=by rw[yBX Cd];omega
 refine⟨_,_,rfl,?_⟩;simp[e3]
end
section
variable{E E0:aE}(hU:aJ E)
include hU
theorem aOb{gW:Je}(h0:E 80=none)(h1:E 56=some gW)(nm:List UInt8)(iR nR iD nD iC nC:Nat)(σ:List aA)(k d i wy:Int)(xC rn rt fn sn cn:List UInt8)(ra rb rf fl fh sa sb ca cb cs:Int)(fp ct:Bool)(wk sk gk:Nat)(W S G:List PD)
  (hW:∀CA τ,gW CA [.agg [.int .i64 k,.int .i64 d,.int .i64 i,.str xC,.str rn,.str rt,.int .i64 ra,.int .i64 rb,.int .i64 rf,.slice wk W .any,.str fn,.bool fp,.int .i64 fl,.int .i64 fh,.slice sk S .any,.str sn,.int .i64 sa,.int .i64 sb,.slice gk G .any,.str cn,.int .i64 ca,.int .i64 cb,.int .i64 cs,.bool ct]] τ=some (.aH [.int .i64 0,.int .i64 wy],τ)) :
  aK prog E 0 (.inl 80) [.agg [.int .i64 k,.int .i64 d,.int .i64 i,.str xC,.str rn,.str rt,.int .i64 ra,.int .i64 rb,.int .i64 rf,.slice wk W .any,.str fn,.bool fp,.int .i64 fl,.int .i64 fh,.slice sk S .any,.str sn,.int .i64 sa,.int .i64 sb,.slice gk G .any,.str cn,.int .i64 ca,.int .i64 cb,.int .i64 cs,.bool ct],.agg [.str nm,Go.Kz.hd 6 iR nR,Go.Kz.hd 5 iD nD,Go.Kz.hd 5 iC nC]] σ (λp σ'=>p=.aH [.int .i64 nR,.bool true]/\∃L,σ'=σ++L):=by
 have lD:=zY 6 iR nR underlying31;obtain⟨hR,hhR⟩:=gn (Go.Kz.hd 6 iR nR);obtain⟨hD,hhD⟩:=gn (Go.Kz.hd 5 iD nD);obtain⟨hC,hhC⟩:=gn (Go.Kz.hd 5 iC nC);have pR:hR.plain=true:=Cu;have pD:hD.plain=true:=Cv;have pC:hC.plain=true:=Cw;unfold PD.plain at pR pD pC;simp only[hhR,hhD,hhC]at lD ⊢;simp[gF,underlying31]at lD;exact bf
theorem aOa{gW:Je}(h0:E 80=none)(h1:E 56=some gW)(nm:List UInt8)(iR nR iD nD iC nC:Nat)(σ:List aA)(k d i wy:Int)(xC rn rt fn sn cn:List UInt8)(ra rb rf fl fh sa sb ca cb cs:Int)(fp ct:Bool)(wk sk gk:Nat)(W S G:List PD)
  (hW:∀CA τ,gW CA [.agg [.int .i64 k,.int .i64 d,.int .i64 i,.str xC,.str rn,.str rt,.int .i64 ra,.int .i64 rb,.int .i64 rf,.slice wk W .any,.str fn,.bool fp,.int .i64 fl,.int .i64 fh,.slice sk S .any,.str sn,.int .i64 sa,.int .i64 sb,.slice gk G .any,.str cn,.int .i64 ca,.int .i64 cb,.int .i64 cs,.bool ct]] τ=some (.aH [.int .i64 1,.int .i64 wy],τ)) :
  aK prog E 0 (.inl 80) [.agg [.int .i64 k,.int .i64 d,.int .i64 i,.str xC,.str rn,.str rt,.int .i64 ra,.int .i64 rb,.int .i64 rf,.slice wk W .any,.str fn,.bool fp,.int .i64 fl,.int .i64 fh,.slice sk S .any,.str sn,.int .i64 sa,.int .i64 sb,.slice gk G .any,.str cn,.int .i64 ca,.int .i64 cb,.int .i64 cs,.bool ct],.agg [.str nm,Go.Kz.hd 6 iR nR,Go.Kz.hd 5 iD nD,Go.Kz.hd 5 iC nC]] σ (λp σ'=>p=.aH [.int .i64 nD,.bool true]/\∃L,σ'=σ++L):=by
 have lD:=zY 5 iD nD underlying32;obtain⟨hR,hhR⟩:=gn (Go.Kz.hd 6 iR nR);obtain⟨hD,hhD⟩:=gn (Go.Kz.hd 5 iD nD);obtain⟨hC,hhC⟩:=gn (Go.Kz.hd 5 iC nC);have pR:hR.plain=true:=Cu;have pD:hD.plain=true:=Cv;have pC:hC.plain=true:=Cw;unfold PD.plain at pR pD pC;simp only[hhR,hhD,hhC]at lD ⊢;simp[gF,underlying32]at lD;exact bf
theorem aOc{gW:Je}(h0:E 80=none)(h1:E 56=some gW)(nm:List UInt8)(iR nR iD nD iC nC:Nat)(σ:List aA)(k d i wy:Int)(xC rn rt fn sn cn:List UInt8)(ra rb rf fl fh sa sb ca cb cs:Int)(fp ct:Bool)(wk sk gk:Nat)(W S G:List PD)
  (hW:∀CA τ,gW CA [.agg [.int .i64 k,.int .i64 d,.int .i64 i,.str xC,.str rn,.str rt,.int .i64 ra,.int .i64 rb,.int .i64 rf,.slice wk W .any,.str fn,.bool fp,.int .i64 fl,.int .i64 fh,.slice sk S .any,.str sn,.int .i64 sa,.int .i64 sb,.slice gk G .any,.str cn,.int .i64 ca,.int .i64 cb,.int .i64 cs,.bool ct]] τ=some (.aH [.int .i64 3,.int .i64 wy],τ)) :
  aK prog E 0 (.inl 80) [.agg [.int .i64 k,.int .i64 d,.int .i64 i,.str xC,.str rn,.str rt,.int .i64 ra,.int .i64 rb,.int .i64 rf,.slice wk W .any,.str fn,.bool fp,.int .i64 fl,.int .i64 fh,.slice sk S .any,.str sn,.int .i64 sa,.int .i64 sb,.slice gk G .any,.str cn,.int .i64 ca,.int .i64 cb,.int .i64 cs,.bool ct],.agg [.str nm,Go.Kz.hd 6 iR nR,Go.Kz.hd 5 iD nD,Go.Kz.hd 5 iC nC]] σ (λp σ'=>p=.aH [.int .i64 nC,.bool true]/\∃L,σ'=σ++L):=by
 have lD:=zY 5 iC nC underlying33;obtain⟨hR,hhR⟩:=gn (Go.Kz.hd 6 iR nR);obtain⟨hD,hhD⟩:=gn (Go.Kz.hd 5 iD nD);obtain⟨hC,hhC⟩:=gn (Go.Kz.hd 5 iC nC);have pR:hR.plain=true:=Cu;have pD:hD.plain=true:=Cv;have pC:hC.plain=true:=Cw;unfold PD.plain at pR pD pC;simp only[hhR,hhD,hhC]at lD ⊢;simp[gF,underlying33]at lD;exact bf
end
structure bM where
 kind:Int
 div:Int
 idx:Int
 name:Jl
 aN:bP
 frame:bO
 stop:cO
 bF:cJ
 deriving DecidableEq
def cF.edit:cF bM:=((cF.one i64).pair ((cF.one i64).pair ((cF.one i64).pair ((cF.one .text).pair (cF.aN.pair (cF.div.pair (cF.stop.pair cF.bF))))))).nH (λx=>(x.kind,x.div,x.idx,x.name,x.aN,x.frame,x.stop,x.bF)) (λx y h=>Cl)
def Em.edit:Em bM:=.agg .edit
theorem bZ{x:bM}:Em.edit.aB x=.agg [.int .i64 x.kind,.int .i64 x.div,.int .i64 x.idx,.str x.name,.str x.aN.name,.str x.aN.j9,.int .i64 x.aN.num,.int .i64 x.aN.den,.int .i64 x.aN.first,gJ.aB x.aN.mC,.str x.frame.name,.bool x.frame.dV,.int .i64 x.frame.low,.int .i64 x.frame.high,oB.aB x.frame.stops,.str x.stop.name,.int .i64 x.stop.num,.int .i64 x.stop.den,oP.aB x.stop.aO,.str x.bF.name,.int .i64 x.bF.dJ,.int .i64 x.bF.dst,.int .i64 x.bF.shift,.bool x.bF.qM]:=rfl
def bB:bP:=⟨[],[],0,0,0,[]⟩
def aU:bO:=⟨[],false,0,0,[]⟩
def bA:cO:=⟨[],0,0,[]⟩
def bD:cJ:=⟨[],0,0,0,false⟩
def vL:aY:=⟨[],[],[],[]⟩
def o8(x:bM):bM:=
 if x.kind=13 then { x with name:=[] }
 else
  let th:=(x.kind-1)/3
  let y:={ x with idx:=0,div:=if th=2 then 0 else x.div }
  if (x.kind-1)%3=1 then y
  else if th=0 then { y with aN:=bB }else if th=1 then { y with frame:=aU }else if th=2 then { y with stop:=bA }else { y with bF:=bD }
def mJ(x:bM):Bool:=decide (x.div=0/\x.idx=0/\x.name=[]/\x.aN=bB/\x.frame=aU/\x.stop=bA/\x.bF=bD)
section
set_option pp.maxSteps 200000
set_option pp.deepTerms true
noncomputable def sQ:Nat->List PD->List aA->Option (PD×List aA):=entry (cU Em.edit (i64.p7 i64) λx=>eL (1<=x.kind/\x.kind<=13) (some ((x.kind-1)/3,(x.kind-1)%3)))
theorem GA{x:bM}(h:1<=x.kind/\x.kind<=13)(fl:Nat)(σ:List aA):sQ fl [Em.edit.aB x] σ=some (.aH [.int .i64 ((x.kind-1)/3),.int .i64 ((x.kind-1)%3)],σ):=by
 have e1:=Em.dC (Em.edit.str x);unfold sQ entry cU;simp only[e1,fY h];rfl
theorem vO{α:Type}(em:Em α)(k:Nat)(xs:List α)(tok:Tok):(PD.slice (sz k xs) (xs.map em.aB) tok).strip=.slice (sz k xs) (xs.map em.aB) .any:=by
 rw[PD.tO];have h:(xs.map em.aB).map PD.strip=xs.map em.aB:=by
  rw[yBs];exact yAG λx _=>em.str x
 rw[h];cases xs<;>simp[sz]
def frF(gg:Nat->PD):List PD:=gg 0::.ptr 0 0::gg 2::gg 3::gg 4::gg 5::gg 6::gg 7::gg 8::gg 9::gg 10::gg 11::gg 12::gg 13::gg 14::gg 15::gg 16::gg 17::gg 18::gg 19::gg 20::gg 21::gg 22::gg 23::gg 24::gg 25::gg 26::gg 27::gg 28::gg 29::gg 30::gg 31::gg 32::gg 33::gg 34::gg 35::gg 36::gg 37::gg 38::gg 39::gg 40::gg 41::gg 42::gg 43::gg 44::gg 45::gg 46::gg 47::gg 48::gg 49::gg 50::gg 51::gg 52::gg 53::gg 54::gg 55::gg 56::gg 57::gg 58::gg 59::gg 60::gg 61::gg 62::gg 63::gg 64::gg 65::gg 66::gg 67::gg 68::gg 69::gg 70::gg 71::gg 72::gg 73::gg 74::gg 75::gg 76::gg 77::gg 78::gg 79::gg 80::gg 81::gg 82::[]
def aFH(x:bM)(t1 t2 t3:Tok):PD:=.agg [.int .i64 x.kind,.int .i64 x.div,.int .i64 x.idx,.str x.name,.str x.aN.name,.str x.aN.j9,.int .i64 x.aN.num,.int .i64 x.aN.den,.int .i64 x.aN.first,.slice (sz 1 x.aN.mC) (x.aN.mC.map i64.aB) t1,.str x.frame.name,.bool x.frame.dV,.int .i64 x.frame.low,.int .i64 x.frame.high,.slice (sz 4 x.frame.stops) (x.frame.stops.map Em.stop.aB) t2,.str x.stop.name,.int .i64 x.stop.num,.int .i64 x.stop.den,.slice (sz 3 x.stop.aO) (x.stop.aO.map Em.fB.aB) t3,.str x.bF.name,.int .i64 x.bF.dJ,.int .i64 x.bF.dst,.int .i64 x.bF.shift,.bool x.bF.qM]
theorem aQC{x:bM}(h:gU x.aN/\gV x.frame/\jT x.stop):gU (o8 x).aN/\gV (o8 x).frame/\jT (o8 x).stop:=by
 have n1:gU bB:=yAF _;have n2:gV aU:=⟨yAF _,λ_ h=>Ck⟩;have n3:jT bA:=⟨yAF _,λ_ h=>Ck⟩;obtain⟨h1,h2,h3⟩:=h;unfold o8;split
 .exact⟨h1,h2,h3⟩
 .simp only;split
  .exact⟨h1,h2,h3⟩
  .split
   .exact⟨n1,h2,h3⟩
   .split
    .exact⟨h1,n2,h3⟩
    .split
     .exact⟨h1,h2,n3⟩
     .exact⟨h1,h2,h3⟩
variable{E:aE}(hU:aJ E)
include hU
theorem aKF(h0:E 78=none)(h1:E 56=some sQ)(h2:E 33=some (fP Em.aN gU))(h3:E 35=some (fP Em.div gV))(h4:E 72=some (fP Em.stop jT))(x:bM)(hk:1<=x.kind/\x.kind<=13)(hx:gU x.aN/\gV x.frame/\jT x.stop) :
  aI prog E 78 [Em.edit.aB x] (i64.aB (if mJ (o8 x)then 0 else 7)):=by
 have k1:=λfl σ=>GA hk fl σ
 have hb:=aQC hx;obtain⟨B,hB⟩:=gn (o8 x);rw[hB]at hb ⊢;obtain⟨kd,dv,ix,nm,⟨rn,rt,ra,rb,rf,wd⟩,⟨fn,fp,flo,fhi,fs⟩,⟨sn,sa,sb,sg⟩,⟨cn,ca,cb,cs,ct⟩⟩:=x;simp only[bZ,bC]at k1 hk;simp only[bZ,bC];have hk1:¬kd<1:=Cd;have hk2:¬13<kd:=Cd;refine aI.aG 83 h0 func78 (h:=?_);refine aC (A4 h1 k1 hk1 hk2) ?_;refine Wp.mono (Q:=λr=>r.x=.normal/\r.ms=[]/\∃t1 t2 t3,∃gg:Nat->PD,True/\r.fr=frF gg/\r.σ=[.box (aFH B t1 t2 t3)]) ?_ ?_
 .have hc:kd=1\/kd=2\/kd=3\/kd=4\/kd=5\/kd=6\/kd=7\/kd=8\/kd=9\/kd=10\/kd=11\/kd=12\/kd=13:=by omega
  subst hB;clear k1 hb hk1 hk2;rcases hc with rfl|rfl|rfl|rfl|rfl|rfl|rfl|rfl|rfl|rfl|rfl|rfl|rfl
  all_goals
   refine aC trivial ?_
  all_goals exact⟨rfl,rfl,_,_,_,rF trivial rfl rfl⟩
 rintro⟨px,fr,ms,σ⟩ ⟨hp,hm,t1,t2,t3,gg,_,hf,hs⟩
 simp only at hp hm hf hs;subst hp hm hf hs;unfold frF;clear k1;obtain⟨o1,o2,o3⟩:=hb;obtain⟨bk,bd,bi,bn,⟨an,aT,aa,ab,af,aw⟩,⟨dn,dp,dl,dh,dS⟩,⟨en,ea,eb,eg⟩,⟨gn,go,gd,gs,gt⟩⟩:=B;have q2:=λfl σ=>p6 (a:=Em.aN) (R:=gU) o1 (show gU bB from yAF _) (p:=.agg [.str an,.str aT,.int .i64 aa,.int .i64 ab,.int .i64 af,.slice (sz 1 aw) (aw.map i64.aB) t1]) (q:=.agg [.str [],.str [],.int .i64 0,.int .i64 0,.int .i64 0,.slice 0 [] .full]) Gm rfl fl σ
 have q3:=λfl σ=>p6 (a:=Em.div) (R:=gV) o2 (show gV aU from⟨yAF _,λ_ h=>Ck⟩) (p:=.agg [.str dn,.bool dp,.int .i64 dl,.int .i64 dh,.slice (sz 4 dS) (dS.map Em.stop.aB) t2]) (q:=.agg [.str [],.bool false,.int .i64 0,.int .i64 0,.slice 0 [] .full]) Gm rfl fl σ
 have q4:=λfl σ=>p6 (a:=Em.stop) (R:=jT) o3 (show jT bA from⟨yAF _,λ_ h=>Ck⟩) (p:=.agg [.str en,.int .i64 ea,.int .i64 eb,.slice (sz 3 eg) (eg.map Em.fB.aB) t3]) (q:=.agg [.str [],.int .i64 0,.int .i64 0,.slice 0 [] .full]) Gm rfl fl σ
 refine mM.normal ?_;unfold aFH;simp only
 by_cases c1:bd=0
 rotate_left
 .refine aC c1 ?_;exact⟨_,_,rfl,by simp[mJ,c1]⟩
 by_cases c2:bi=0
 rotate_left
 .refine aC (A2 c1 c2) ?_;exact⟨_,_,rfl,by simp[mJ,c2]⟩
 by_cases c3:bn=[]
 rotate_left
 .have Y6:bn.isEmpty=false:=by cases bn with|nil=>exact absurd rfl c3|cons _ _=>rfl
  refine aC (A4 c1 c2 c3 Y6) ?_;exact⟨_,_,rfl,by simp[mJ,c3]⟩
 by_cases c4:(⟨an,aT,aa,ab,af,aw⟩:bP)=bB
 rotate_left
 .rw[yBc c4]at q2;refine aC (A5 c1 c2 c3 h2 q2) ?_;exact⟨_,_,rfl,by simp[mJ,c4]⟩
 rw[yAX c4]at q2
 by_cases c5:(⟨dn,dp,dl,dh,dS⟩:bO)=aU
 rotate_left
 .rw[yBc c5]at q3;refine aC (A7 c1 c2 c3 h2 q2 h3 q3) ?_;exact⟨_,_,rfl,by simp[mJ,c5]⟩
 rw[yAX c5]at q3
 by_cases c6:(⟨en,ea,eb,eg⟩:cO)=bA
 rotate_left
 .rw[yBc c6]at q4;refine aC (A9 c1 c2 c3 h2 q2 h3 q3 h4 q4) ?_;exact⟨_,_,rfl,by simp[mJ,c6]⟩
 rw[yAX c6]at q4;refine aC (A9 c1 c2 c3 h2 q2 h3 q3 h4 q4) ?_
 by_cases c7:(⟨gn,go,gd,gs,gt⟩:cJ)=bD
 .cases c7;have he:mJ ⟨bk,bd,bi,bn,⟨an,aT,aa,ab,af,aw⟩,⟨dn,dp,dl,dh,dS⟩,⟨en,ea,eb,eg⟩,⟨[],0,0,0,false⟩⟩=true:=yAX ⟨c1,c2,c3,c4,c5,c6,rfl⟩;rw[yAJ he];refine aC trivial ?_;exact cg
 .have n1:(decide (gn=[])&&(decide (go=0)&&(decide (gd=0)&&(decide (gs=0)&&!gt))))=false:=Bool.eq_false_iff.2 λh=>by
   simp at h;obtain⟨rfl,rfl,rfl,rfl,rfl⟩:=h;exact c7 rfl
  have n2:(!decide (gn=[])||(!decide (go=0)||(!decide (gd=0)||(!decide (gs=0)||gt))))=true:=by
   revert n1
   generalize decide (gn=[])=A
   generalize decide (go=0)=B
   generalize decide (gd=0)=C
   generalize decide (gs=0)=D
   cases A<;>cases B<;>cases C<;>cases D<;>cases gt<;>simp
  simp only[n1,n2];refine aC trivial ?_;exact⟨_,_,rfl,by simp[mJ,c7]⟩
theorem aKE(h0:E 78=none)(x:bM)(hk:x.kind<1\/13<x.kind) :
  aI prog E 78 [Em.edit.aB x] (i64.aB 12):=by
 obtain⟨kd,dv,ix,nm,⟨rn,rt,ra,rb,rf,wd⟩,⟨fn,fp,flo,fhi,fs⟩,⟨sn,sa,sb,sg⟩,⟨cn,ca,cb,cs,ct⟩⟩:=x;simp only[bZ,bC];simp only at hk
 by_cases hk1:kd<1
 rotate_left
 .have hk2:13<kd:=by omega
  refine aI.aG 83 h0 func78 (h:=?_);refine aC (A2 hk1 hk2) ?_;exact ag
 refine aI.aG 83 h0 func78 (h:=?_);refine aC hk1 ?_;exact ag
end
section
variable{E E0:aE}(hU:aJ E)
include hU
theorem aNR(h0:E 80=none)(h1:E 56=some sQ)(x:bM)(hx:7<=x.kind/\x.kind<=9)
  (o:aY) (p:PD) (aV:List aA) (lo iR iD iC:Nat) (ds:List (List PD)) (tS:Nat->Nat) (tss:Nat->List (List PD)) (tG:Nat->Nat->Nat) (tgs:Nat->Nat->List (List PD)) (tW:Nat->Nat->Nat->Nat) (hO:jC aV lo o p iR iD iC ds tS tss tG tgs tW) (ho:fX o) :
  aK prog E 0 (.inl 80) [Em.edit.aB x,p] aV (λq σ'=>(∃L,σ'=aV++L)/\((q=.aH [.int .i64 0,.bool false]/\(x.div<0\/(o.aD.length:Int)<=x.div))\/∃(d:Nat) (hd:d<o.aD.length),x.div=d/\q=.aH [.int .i64 o.aD[d].stops.length,.bool true])):=by
 have hp:=hO.p;subst hp;have k1:=λfl σ=>GA (x:=x) ⟨Cd,Cd⟩ fl σ
 have hth:(x.kind-1)/3=2:=Cd;rw[hth]at k1;obtain⟨hR,hhR⟩:=gn (Go.Kz.hd 6 iR o.aQ.length);obtain⟨hD,hhD⟩:=gn (Go.Kz.hd 5 iD o.aD.length);obtain⟨hC,hhC⟩:=gn (Go.Kz.hd 5 iC o.aL.length);have lD:=zY 5 iD o.aD.length underlying32;have pR:hR.plain=true:=Cu;have pD:hD.plain=true:=Cv;have pC:hC.plain=true:=Cw;unfold PD.plain at pR pD pC;simp only[hhR,hhD,hhC]at hO lD ⊢;simp[gF,underlying32]at lD;obtain⟨kd,dv,ix,nm,⟨rn,rt,ra,rb,rf,wd⟩,⟨fn,fp,flo,fhi,fs⟩,⟨sn,sa,sb,sg⟩,⟨cn,ca,cb,cs,ct⟩⟩:=x;simp only[bZ,bC]at k1 hx hth;simp only[bZ,bC];refine aK.aG 48 h0 func80 (h:=?_);apply WL.tI Cj;apply SL.box (p:=.agg [.int .i64 kd,.int .i64 dv,.int .i64 ix,.str nm,.str rn,.str rt,.int .i64 ra,.int .i64 rb,.int .i64 rf,.slice (sz 1 wd) (wd.map i64.aB) .any,.str fn,.bool fp,.int .i64 flo,.int .i64 fhi,.slice (sz 4 fs) (fs.map Em.stop.aB) .any,.str sn,.int .i64 sa,.int .i64 sb,.slice (sz 3 sg) (sg.map Em.fB.aB) .any,.str cn,.int .i64 ca,.int .i64 cb,.int .i64 cs,.bool ct]) (hw:=Wt.i rfl) (hx:=rfl) (hp:=rfl) (hr:=Ns.i rfl) (hn:=Ns.i rfl) (hf:=Fr.i rfl);apply SL.box (p:=.agg [.str o.name,hR,hD,hC]) (hw:=Wt.i rfl) (hx:=rfl) (hp:=Gv) (hr:=Ns.i rfl) (hn:=Ns.i rfl) (hf:=Fr.i rfl);refine oQ lD ?_;apply SQ.nil
 by_cases c1:dv<0
 .refine aC (A4 h1 k1 lD c1) ?_;exact⟨_,_,rfl,⟨_,rfl⟩,.inl ⟨rfl,.inl c1⟩⟩
 by_cases c2:(o.aD.length:Int)<=dv
 .refine aC (A5 h1 k1 lD c1 c2) ?_;exact⟨_,_,rfl,⟨_,rfl⟩,.inl ⟨rfl,.inr c2⟩⟩
 obtain⟨d,rfl⟩:∃d:Nat,dv=d:=⟨dv.toNat,Cd⟩;have hi:d<o.aD.length:=Cd;have q1:(d:Int)<(o.aD.length:Int):=Cd;have hDr:hD=.aP iD 0 0 o.aD.length 5:=by rw[<-hhD];exact qG Cd
 have v2:∀L:List aA,(aV++L)[iD]?=some (.row 53 5 0 ds.flatten):=λL=>by
  have h:=(hO.row Cd).2;exact ud
 obtain⟨e1,e2⟩:=hO.at_ d hi;have gP:∀g∈ds,g.length=5:=λg h=>by
  exact ir
 have hat:=qX (sz:=5) ds d Ix gP;have hlen:=lA (sz:=5) ds gP;rw[(yA.1 e1).2]at hat;obtain⟨I1,hfs⟩:=gn (ds.flatten);rw[hfs]at v2 hlen hat;obtain⟨z,hz⟩:=gn (o.aD[d]);rw[hz]at hat e2;have fJ:d*5+5<=I1.length:=Iy;have xk:jH prog 32 hD (.int .i64 d)=some (.dM iD 0 (d*5)):=by
  rw[hDr];simp[jV,hi]
 obtain⟨hS,hhS⟩:=gn (Go.Kz.hd 4 (tS d) z.stops.length);have pS:hS.plain=true:=Fy;have cS:hS.cells=[hS]:=Fz;have lS:=zY 4 (tS d) z.stops.length underlying51;unfold PD.plain at pS;unfold PD.cells at cS;rw[hhS]at hat lS;simp[gF,underlying51]at lS;have f4:I1[d*5+4]?=some hS:=by
  have h:=yAL (λl=>l[4]?) hat;simp only[yAv,yBh]at h;rw[yAJ Cd]at h;exact h
 obtain⟨f5,f6⟩:=yA.1 f4;have r2:∀L:List aA,iD<(aV++L).length:=λL=>(yA.1 (v2 L)).1
 have y2:∀(L:List aA) (h:iD<(aV++L).length),(aV++L)[iD]=.row 53 5 0 I1:=λL h=>(yA.1 (v2 L)).2
 have r0:iD<aV.length:=(yA.1 (by have:=v2 [];rwa [yAl]at this)).1;have r1:iD<aV.length+2:=Cd;refine aC (A20 h1 k1 lD c1 c2 q1 hi xk @v2 r0 r1 r2 y2 fJ @f4 @f5 @f6 pS cS lS) ?_;refine⟨_,_,rfl,⟨_,rfl⟩,.inr ⟨d,hi,rfl,?_⟩⟩;rw[hz];rfl
end
section
def fS(x:bM):Int:=if x.kind<1\/13<x.kind then 12 else if mJ (o8 x)then 0 else 7
def dT(x:bM):Prop:=gU x.aN/\gV x.frame/\jT x.stop
noncomputable def B0:Nat->List PD->List aA->Option (PD×List aA):=entry (cU Em.edit i64 λx=>eL (dT x) (some (fS x)))
theorem IY{x:bM}(h:dT x)(fl:Nat)(σ:List aA):B0 fl [Em.edit.aB x] σ=some (.int .i64 (fS x),σ):=by
 have e1:=Em.dC (Em.edit.str x);unfold B0 entry cU;simp only[e1,fY h];rfl
def aS{α:Type}(l:List α)(way:Int)(i:Nat)(x:α):List α:=if way=0 then l.take i++x::l.drop i else if way=1 then l.take i++l.drop (i+1)else l.set i x
def w6(o:aY):Prop:=o.aQ.length<=200/\o.aD.length<=200/\o.aL.length<=200/\∀d∈o.aD,d.stops.length<=200
def bE:PD:=.agg [.str [],.slice 0 [] .full,.slice 0 [] .full,.slice 0 [] .full]
def aW(R:TypeId->Prop)(σ σ':List aA):Prop:=∀(id:Nat) (t:TypeId) (n v:Nat) (cs:List PD),R t->σ[id]?=some (.row t n v cs)->σ'[id]?=some (.row t n v cs)
theorem aW.trans{R:TypeId->Prop}{σ τ ρ:Jj}(h:aW R σ τ)(k:aW R τ ρ):aW R σ ρ:=λid t n v cs hr hy=>k id t n v cs hr (h id t n v cs hr hy)
theorem aW.set{R:TypeId->Prop}{σ:Jj}{i:Nat}{b:PD}(hi:σ[i]?=some (.box b))(x:aA):aW R σ (σ.set i x):=λid t n v cs _ hy=>by
 by_cases e:id=i
 .rw[e,hi]at hy;cases hy
 .rw[yAd (yAU e)];exact hy
theorem aW.app(R:TypeId->Prop)(σ L:List aA):aW R σ (σ++L):=λid t n v cs _ hy=>by
 rw[yAg (yA.1 hy).1];exact hy
abbrev kI:TypeId->Prop:=λt=>t=48
abbrev kJ:TypeId->Prop:=λt=>t=53\/t=56\/t=92\/t=89
abbrev jJ:TypeId->Prop:=λt=>t=58
structure cX {α:Type} (em:Em α) (sz:Nat) (R:TypeId->Prop) (σ:List aA) (P:PD) (l:List α):Prop where
 plain:P.plain=true
 cells:P.cells=[P]
 bJ:∀σ',aW R σ σ'->∀K,(Go.Kz.bJ σ' (K+8) P).strip=(em.list sz).aB l/\(Go.Kz.bJ σ' (K+8) P).cI=true
theorem cX.aM{α:Type}{em:Em α}{sz:Nat}{R:TypeId->Prop}{σ σ':Jj}{P:PD}{l:List α}(h:cX em sz R σ P l)(k:aW R σ σ'):cX em sz R σ' P l:=⟨h.plain,h.cells,λτ eF K=>h.bJ τ (k.trans eF) K⟩
def bX:PD:=.agg [.str [],.slice 0 [] .full,.slice 0 [] .full,.slice 0 [] .full]
def F5(E:aE):Prop:=∀(σ:List aA) (on:List UInt8) (P1 P2 P3:PD) (rs:List bP) (dd:List bO) (cc:List cJ),cX Em.aN 6 kI σ P1 rs->cX Em.div 5 kJ σ P2 dd->cX Em.bF 5 jJ σ P3 cc->dP ⟨on,rs,dd,cc⟩->σ≠[] ->
 aK prog E 0 (.inl 79) [.agg [.str on,P1,P2,P3]] σ (λq σ'=>q=.aH [if dG ⟨on,rs,dd,cc⟩=0 then .agg [.str on,P1,P2,P3]else bX,.int .i64 (dG ⟨on,rs,dd,cc⟩)]/\∃L,σ'=σ++L)
def X8(E:aE)(o4:List aA->PD->List cJ->Prop):Prop:=∀(σ:List aA) (P:PD) (l:List cJ) (way:Int) (i:Nat) (c:cJ),o4 σ P l->(way=0/\i<=l.length\/(way=1\/way=2)/\i<l.length)->σ≠[] ->
 aK prog E 0 (.inl 87) [P,.int .i64 way,.int .i64 i,Em.bF.aB c] σ (λQ σ'=>cX Em.bF 5 jJ σ' Q (aS l way i c)/\σ.length<=σ'.length/\∀(id:Nat) (y:aA),σ[id]?=some y->(∀n v cs,y≠.row 58 n v cs)->σ'[id]?=some y)
def ClnS(E1:aE):Prop:=∀(o:aY) (ho:fX o) (τ:List aA),aK prog E1 0 (.inl 41) [Em.bY.aB o] τ (λp σ'=>(∃iR iD iC ds tS tss tG tgs tW,jC σ' τ.length o p iR iD iC ds tS tss tG tgs tW)/\τ.length<=σ'.length/\∀id,id<τ.length->σ'[id]?=τ[id]?)
def lMz(A:List aA->PD->List bP->Prop)(B:List aA->PD->List bO->Prop)(C:List aA->PD->List cJ->Prop):Prop:=∀(σ:List aA) (lo:Nat) (o:aY) (p:PD) (iR iD iC:Nat) (ds:List (List PD)) (tS:Nat->Nat) (tss:Nat->List (List PD)) (tG:Nat->Nat->Nat) (tgs:Nat->Nat->List (List PD)) (tW:Nat->Nat->Nat->Nat),jC σ lo o p iR iD iC ds tS tss tG tgs tW->3<=lo->w6 o->A σ (Go.Kz.hd 6 iR o.aQ.length) o.aQ/\B σ (Go.Kz.hd 5 iD o.aD.length) o.aD/\C σ (Go.Kz.hd 5 iC o.aL.length) o.aL
variable{E E1 E2 E3 E4:aE}(hU:aJ E)
include hU
theorem aNM(h0:E 42=none)(h1:E 78=some B0)(h2:E 41=some (dO prog E1 41))
  (H2:ClnS E1)
  (h3:E 56=some sQ) (h4:E 80=some (dO prog E2 80)) (U2:aJ E2) (F8:E2 80=none) (F9:E2 56=some sQ)
  {o4:List aA->PD->List cJ->Prop} (h5:E 87=some (dO prog E3 87)) (H5:X8 E3 o4) (h6:E 79=some (dO prog E4 79)) (H6:F5 E4)
  (hIn:lMz (cX Em.aN 6 kI) (cX Em.div 5 kJ) o4)
  (hKeep:∀(σ σ':List aA) (P:PD) (l:List cJ),o4 σ P l->aW jJ σ σ'->σ.length<=σ'.length->o4 σ' P l)
  (o:aY) (x:bM) (ho:fX o) (hsh:w6 o) (hx:dT x) (hf:fS x=0) (hk:10<=x.kind/\x.kind<=12) (hokr:dP { o with aL:=aS o.aL ((x.kind-1)%3) x.idx.toNat x.bF }) :
  aK prog E 0 (.inl 42) [Em.bY.aB o,Em.edit.aB x] [] (λp σ=>((x.idx<0\/(if (x.kind-1)%3=0 then(o.aL.length:Int)+1 else o.aL.length)<=x.idx)/\p=.aH [bE,.int .i64 10])\/(0<=x.idx/\¬(if (x.kind-1)%3=0 then(o.aL.length:Int)+1 else o.aL.length)<=x.idx/\∃P1 P2 P3,p=.aH [if dG { o with aL:=aS o.aL ((x.kind-1)%3) x.idx.toNat x.bF }=0 then .agg [.str o.name,P1,P2,P3]else bX,.int .i64 (dG { o with aL:=aS o.aL ((x.kind-1)%3) x.idx.toNat x.bF })]/\cX Em.aN 6 kI σ P1 o.aQ/\cX Em.div 5 kJ σ P2 o.aD/\cX Em.bF 5 jJ σ P3 (aS o.aL ((x.kind-1)%3) x.idx.toNat x.bF))):=by
 have k1:=λfl σ=>IY hx fl σ
 rw[hf]at k1;have k3:=λfl σ=>GA (x:=x) ⟨Cd,Cd⟩ fl σ
 have hth:(x.kind-1)/3=3:=Cd;rw[hth]at k3;obtain⟨wy,hwy⟩:=gn ((x.kind-1)%3);have iI:wy=0\/wy=1\/wy=2:=Cd;rw[hwy]at k3 hokr;rw[hwy];obtain⟨kd,dv,ix,nm,⟨rn,rt,ra,rb,rf,wd⟩,⟨fn,fp,flo,fhi,fs⟩,⟨sn,sa,sb,sg⟩,⟨cn,ca,cb,cs,ct⟩⟩:=x;obtain⟨on,rs,dd,cc⟩:=o;have k2:=(H2 ⟨on,rs,dd,cc⟩ ho [.box (Em.bY.aB ⟨on,rs,dd,cc⟩),.box (Em.edit.aB ⟨kd,dv,ix,nm,⟨rn,rt,ra,rb,rf,wd⟩,⟨fn,fp,flo,fhi,fs⟩,⟨sn,sa,sb,sg⟩,⟨cn,ca,cb,cs,ct⟩⟩),.box (.agg [.str [],.slice 0 [] .full,.slice 0 [] .full,.slice 0 [] .full])]).e0 Ce;obtain⟨p,σ1,k2,⟨iR,iD,iC,ds,tS,tss,tG,tgs,tW,hO⟩,hl1,hk1⟩:=k2;obtain⟨l1,l2,l3⟩:=hIn _ _ _ _ _ _ _ _ _ _ _ _ _ hO (yAk _) hsh;have hp:=hO.p;subst hp;have b0:=hk1 0 Ce;have b1:=hk1 1 Ce;have b2:=hk1 2 Ce;simp only[yBi,yBB]at b0 b1 b2;have k4:=(aOc U2 F8 F9 on iR rs.length iD dd.length iC cc.length (σ1.set 0 (.box (.agg [.str on,Go.Kz.hd 6 iR rs.length,Go.Kz.hd 5 iD dd.length,Go.Kz.hd 5 iC cc.length]))) kd dv ix wy nm rn rt fn sn cn ra rb rf flo fhi sa sb ca cb cs fp ct (sz 1 wd) (sz 4 fs) (sz 3 sg) (wd.map i64.aB) (fs.map Em.stop.aB) (sg.map Em.fB.aB) k3).e0 (λe=>by
  have:0<σ1.length:=(yA.1 b0).1;have h:=yAL List.length e;rw[yAD,yAO]at h;omega)
 obtain⟨_,σ2,k4,rfl,L2,bT⟩:=k4;obtain⟨hR,hhR⟩:=gn (Go.Kz.hd 6 iR rs.length);obtain⟨hD,hhD⟩:=gn (Go.Kz.hd 5 iD dd.length);obtain⟨hC,hhC⟩:=gn (Go.Kz.hd 5 iC cc.length);have pR:hR.plain=true:=Cu;have pD:hD.plain=true:=Cv;have pC:hC.plain=true:=Cw;have cR:hR.cells=[hR]:=Ed;have cD:hD.cells=[hD]:=Ee;have cC:hC.cells=[hC]:=Ef;unfold PD.plain at pR pD pC;unfold PD.cells at cR cD cC;simp only[hhR,hhD,hhC]at hO k2 k4 bT l1 l2 l3;simp only[bZ,fE,bC]at k1 k2 k3 b0 b1 b2 hk hth hwy;simp only[bZ,fE,bC];obtain⟨w0,z0⟩:=yA.1 b0;obtain⟨w1,z1⟩:=yA.1 b1;obtain⟨w2,z2⟩:=yA.1 b2;have hS:(σ1.set 0 (.box (.agg [.str on,hR,hD,hC]))).length=σ1.length:=yAD;have g0:σ2[0]?=some (.box (.agg [.str on,hR,hD,hC])):=by rw[bT,yAg Cd,yAj w0]
 have g1:=b1;rw[<-yAd (l:=σ1) (i:=0) (a:=.box (.agg [.str on,hR,hD,hC])) Cd,<-yAg (l₂:=L2) Cd,<-bT]at g1;have g2:=b2;rw[<-yAd (l:=σ1) (i:=0) (a:=.box (.agg [.str on,hR,hD,hC])) Cd,<-yAg (l₂:=L2) Cd,<-bT]at g2;obtain⟨v0,y0⟩:=yA.1 g0;obtain⟨v1,y1⟩:=yA.1 g1;obtain⟨v2,y2⟩:=yA.1 g2;have uG:¬kd=13:=Cd;refine aK.aG 132 h0 func42 (h:=?_);refine aC Bl ?_;have hcl:cc.length<=1000000:=ho.2.2;rcases iI with rfl|rfl|rfl
 .by_cases i1:ix<0
  .exact bh
  by_cases i2:(cc.length:Int)+1<=ix
  .exact bg
  obtain⟨i,rfl⟩:∃i:Nat,ix=i:=⟨ix.toNat,Cd⟩;rw[yBj]at hokr ⊢;have x8:∀R,aW R σ1 σ2:=λR=>by
   exact ru
  have n2:σ2≠[]:=λe=>Cs
  have gC:σ1.length<=σ2.length:=Dr;have k5:=(H5 σ2 hC cc 0 i ⟨cn,ca,cb,cs,ct⟩ (hKeep _ _ _ _ l3 (x8 jJ) gC) (.inl ⟨rfl,Cd⟩) n2).e0 n2;obtain⟨Q,σ3,k5,lQ,rQ,eJ⟩:=k5;have u0:=eJ 0 _ g0 (λn v cs h=>Ck);have u1:=eJ 1 _ g1 (λn v cs h=>Ck);have u2:=eJ 2 _ g2 (λn v cs h=>Ck);obtain⟨r0,x0⟩:=yA.1 u0;obtain⟨r1,x1⟩:=yA.1 u1;obtain⟨r2,x2⟩:=yA.1 u2;have pQ:=lQ.plain;have cQ:=lQ.cells;unfold PD.plain at pQ;unfold PD.cells at cQ;have DU:∀R:TypeId->Prop,(∀t,R t->t≠58)->aW R σ2 σ3:=λR hR id t n v cs hr hy=>eJ id _ hy (λn v cs h=>De)
  have kS:∀R,aW R σ3 (σ3.set 0 (.box (.agg [.str on,hR,hD,Q]))):=λR=>aW.set u0 _
  have m1:=((l1.aM (x8 _)).aM (DU _ (λt h=>Da))).aM (kS _);have m2:=((l2.aM (x8 _)).aM (DU _ (λt h=>Di))).aM (kS _);have m3:=lQ.aM (kS _);have k6:=(H6 _ on hR hD Q rs dd _ m1 m2 m3 hokr (λe=>by
   have h:=yAL List.length e;rw[yAD,yAO]at h;omega)).e0 (λe=>by
   have h:=yAL List.length e;rw[yAD,yAO]at h;omega)
  obtain⟨q,eG,k6,rfl,L5,rfl⟩:=k6;simp only[CR]at k5;obtain⟨e,he⟩:=gn (dG ⟨on,rs,dd,aS cc 0 i ⟨cn,ca,cb,cs,ct⟩⟩);exact ah
 .by_cases i1:ix<0
  .exact bh
  by_cases i2:(cc.length:Int)<=ix
  .exact bg
  obtain⟨i,rfl⟩:∃i:Nat,ix=i:=⟨ix.toNat,Cd⟩;rw[yBj]at hokr ⊢;have x8:∀R,aW R σ1 σ2:=λR=>by
   exact ru
  have n2:σ2≠[]:=λe=>Cs
  have gC:σ1.length<=σ2.length:=Dr;have k5:=(H5 σ2 hC cc 1 i ⟨cn,ca,cb,cs,ct⟩ (hKeep _ _ _ _ l3 (x8 jJ) gC) (.inr ⟨.inl rfl,Cd⟩) n2).e0 n2;obtain⟨Q,σ3,k5,lQ,rQ,eJ⟩:=k5;have u0:=eJ 0 _ g0 (λn v cs h=>Ck);have u1:=eJ 1 _ g1 (λn v cs h=>Ck);have u2:=eJ 2 _ g2 (λn v cs h=>Ck);obtain⟨r0,x0⟩:=yA.1 u0;obtain⟨r1,x1⟩:=yA.1 u1;obtain⟨r2,x2⟩:=yA.1 u2;have pQ:=lQ.plain;have cQ:=lQ.cells;unfold PD.plain at pQ;unfold PD.cells at cQ;have DU:∀R:TypeId->Prop,(∀t,R t->t≠58)->aW R σ2 σ3:=λR hR id t n v cs hr hy=>eJ id _ hy (λn v cs h=>De)
  have kS:∀R,aW R σ3 (σ3.set 0 (.box (.agg [.str on,hR,hD,Q]))):=λR=>aW.set u0 _
  have m1:=((l1.aM (x8 _)).aM (DU _ (λt h=>Da))).aM (kS _);have m2:=((l2.aM (x8 _)).aM (DU _ (λt h=>Di))).aM (kS _);have m3:=lQ.aM (kS _);have k6:=(H6 _ on hR hD Q rs dd _ m1 m2 m3 hokr (λe=>by
   have h:=yAL List.length e;rw[yAD,yAO]at h;omega)).e0 (λe=>by
   have h:=yAL List.length e;rw[yAD,yAO]at h;omega)
  obtain⟨q,eG,k6,rfl,L5,rfl⟩:=k6;simp only[CR]at k5;obtain⟨e,he⟩:=gn (dG ⟨on,rs,dd,aS cc 1 i ⟨cn,ca,cb,cs,ct⟩⟩);exact ah
 .by_cases i1:ix<0
  .exact bh
  by_cases i2:(cc.length:Int)<=ix
  .exact bg
  obtain⟨i,rfl⟩:∃i:Nat,ix=i:=⟨ix.toNat,Cd⟩;rw[yBj]at hokr ⊢;have x8:∀R,aW R σ1 σ2:=λR=>by
   exact ru
  have n2:σ2≠[]:=λe=>Cs
  have gC:σ1.length<=σ2.length:=Dr;have k5:=(H5 σ2 hC cc 2 i ⟨cn,ca,cb,cs,ct⟩ (hKeep _ _ _ _ l3 (x8 jJ) gC) (.inr ⟨.inr rfl,Cd⟩) n2).e0 n2;obtain⟨Q,σ3,k5,lQ,rQ,eJ⟩:=k5;have u0:=eJ 0 _ g0 (λn v cs h=>Ck);have u1:=eJ 1 _ g1 (λn v cs h=>Ck);have u2:=eJ 2 _ g2 (λn v cs h=>Ck);obtain⟨r0,x0⟩:=yA.1 u0;obtain⟨r1,x1⟩:=yA.1 u1;obtain⟨r2,x2⟩:=yA.1 u2;have pQ:=lQ.plain;have cQ:=lQ.cells;unfold PD.plain at pQ;unfold PD.cells at cQ;have DU:∀R:TypeId->Prop,(∀t,R t->t≠58)->aW R σ2 σ3:=λR hR id t n v cs hr hy=>eJ id _ hy (λn v cs h=>De)
  have kS:∀R,aW R σ3 (σ3.set 0 (.box (.agg [.str on,hR,hD,Q]))):=λR=>aW.set u0 _
  have m1:=((l1.aM (x8 _)).aM (DU _ (λt h=>Da))).aM (kS _);have m2:=((l2.aM (x8 _)).aM (DU _ (λt h=>Di))).aM (kS _);have m3:=lQ.aM (kS _);have k6:=(H6 _ on hR hD Q rs dd _ m1 m2 m3 hokr (λe=>by
   have h:=yAL List.length e;rw[yAD,yAO]at h;omega)).e0 (λe=>by
   have h:=yAL List.length e;rw[yAD,yAO]at h;omega)
  obtain⟨q,eG,k6,rfl,L5,rfl⟩:=k6;simp only[CR]at k5;obtain⟨e,he⟩:=gn (dG ⟨on,rs,dd,aS cc 2 i ⟨cn,ca,cb,cs,ct⟩⟩);exact ah
end
section
theorem jC.aM{σ σ':Jj}{lo:Nat}{o:aY}{p:PD}{iR iD iC:Nat}{ds:Jh}{tS:Nat->Nat}{tss:Jg}{tG:Nat->Nat->Nat}{tgs:Jf}{tW:Nat->Nat->Nat->Nat}(h:jC σ lo o p iR iD iC ds tS tss tG tgs tW)(hk:∀(id:Nat) (x:aA),lo<=id->σ[id]?=some x->σ'[id]?=some x):jC σ' lo o p iR iD iC ds tS tss tG tgs tW:=
 { h with aN:=λq=>⟨(h.aN q).1,hk _ _ (h.aN q).1 (h.aN q).2⟩,bF:=λq=>⟨(h.bF q).1,hk _ _ (h.bF q).1 (h.bF q).2⟩,row:=λq=>⟨(h.row q).1,hk _ _ (h.row q).1 (h.row q).2⟩,at_:=λd hd=>⟨(h.at_ d hd).1,(h.at_ d hd).2.aM (yAk _) hk⟩ }
theorem YL{o:aY}(h:w6 o)(w i:Int):w6 (eY w i o):=⟨h.1,by show(o.aD.map _).length<=200;rw[yAe];exact h.2.1,h.2.2.1,λd hd=>by
 obtain⟨t,ht,rfl⟩:=yAw.1 hd;show(t.stops.map _).length<=200
 rw[yAe];exact h.2.2.2 t ht⟩
def zU(g:Nat->List PD->List aA->Option (PD×List aA)):Nat->List PD->List aA->Option (PD×List aA):=λfl args σ=>if fl=0/\σ≠[]then g fl args σ else none
theorem YM(g:Nat->List PD->List aA->Option (PD×List aA)):∀fl args σ,0<fl->zU g fl args σ=none:=λfl args σ h=>by
 unfold zU;rw[yAI (λh=>Cd)]
theorem aNo{E:aE}(hU:aJ E){f:FuncId}(g:Nat->List PD->List aA->Option (PD×List aA)):aJ (E.add f (zU g)):=hU.other λargs p h=>by
 unfold zU at h;rw[yAI (λh=>h.2 rfl)]at h;cases h
def YA(E:aE):Prop:=∀(way index:Int) (o:aY) (p:PD) (aV:List aA) (lo iR iD iC:Nat) (ds:List (List PD)) (tS:Nat->Nat) (tss:Nat->List (List PD)) (tG:Nat->Nat->Nat) (tgs:Nat->Nat->List (List PD)) (tW:Nat->Nat->Nat->Nat),jC aV lo o p iR iD iC ds tS tss tG tgs tW->lo<=aV.length->fX o ->
    (∀d∈o.aD,∀s∈d.stops,∀g∈s.aO,∀w∈g.aR,-1000000000<=w.aN/\w.aN<=1000000000)->(-1000000000<=way/\way<=1000000000) ->
    aK prog E 0 (.inl 81) [p,.int .i64 way,.int .i64 index] aV (λq σ'=>∃b:Bool,q=.bool b/\(b=true->sK way index o/\jC σ' lo (eY way index o) p iR iD iC ds tS tss tG tgs tW/\aV.length<=σ'.length/\∀id,id<lo->σ'[id]?=aV[id]?)/\(b=false->¬sK way index o/\aV.length<=σ'.length/\∀id,id<lo->σ'[id]?=aV[id]?))
def X6(E:aE)(qD:List aA->PD->List bP->Prop):Prop:=∀(σ:List aA) (P:PD) (l:List bP) (way:Int) (i:Nat) (c:bP),qD σ P l->gU c->(way=0/\i<=l.length\/(way=1\/way=2)/\i<l.length)->σ≠[] ->
 aK prog E 0 (.inl 82) [P,.int .i64 way,.int .i64 i,Em.aN.aB c] σ (λQ σ'=>cX Em.aN 6 kI σ' Q (aS l way i c)/\σ.length<=σ'.length/\∀(id:Nat) (y:aA),σ[id]?=some y->(∀n v cs,y≠.row 48 n v cs)->σ'[id]?=some y)
variable{E E1 E2 E3 E4 E5:aE}(hU:aJ E)
include hU
theorem aNJ(h0:E 42=none)(h1:E 78=some B0)(h2:E 41=some (dO prog E1 41))
  (H2:ClnS E1)
  (h3:E 56=some sQ) (h4:E 80=some (dO prog E2 80)) (U2:aJ E2) (F8:E2 80=none) (F9:E2 56=some sQ)
  {qD:List aA->PD->List bP->Prop} (h5:E 82=some (dO prog E3 82)) (H5:X6 E3 qD) (h7:E 81=some (dO prog E5 81)) (H7:YA E5) (h8:E 76=some (zU (entry (cU Em.aN Em.aN λr=>eL (gU r) (some r))))) (h6:E 79=some (dO prog E4 79)) (H6:F5 E4)
  (hIn:lMz qD (cX Em.div 5 kJ) (cX Em.bF 5 jJ))
  (o:aY) (x:bM) (ho:fX o) (hsh:w6 o) (hx:dT x) (hf:fS x=0) (hk:1<=x.kind/\x.kind<=3) (hwr:∀d∈o.aD,∀s∈d.stops,∀g∈s.aO,∀w∈g.aR,-1000000000<=w.aN/\w.aN<=1000000000) (hokr:sK ((x.kind-1)%3) x.idx o->dP { eY ((x.kind-1)%3) x.idx o with aQ:=aS o.aQ ((x.kind-1)%3) x.idx.toNat x.aN }) :
  aK prog E 0 (.inl 42) [Em.bY.aB o,Em.edit.aB x] [] (λp σ=>((x.idx<0\/(if (x.kind-1)%3=0 then(o.aQ.length:Int)+1 else o.aQ.length)<=x.idx)/\p=.aH [bE,.int .i64 10])\/(¬sK ((x.kind-1)%3) x.idx o/\0<=x.idx/\¬(if (x.kind-1)%3=0 then(o.aQ.length:Int)+1 else o.aQ.length)<=x.idx/\p=.aH [bE,.int .i64 14])\/(sK ((x.kind-1)%3) x.idx o/\0<=x.idx/\¬(if (x.kind-1)%3=0 then(o.aQ.length:Int)+1 else o.aQ.length)<=x.idx/\∃P1 P2 P3,p=.aH [if dG { eY ((x.kind-1)%3) x.idx o with aQ:=aS o.aQ ((x.kind-1)%3) x.idx.toNat x.aN }=0 then .agg [.str o.name,P1,P2,P3]else bX,.int .i64 (dG { eY ((x.kind-1)%3) x.idx o with aQ:=aS o.aQ ((x.kind-1)%3) x.idx.toNat x.aN })]/\cX Em.aN 6 kI σ P1 (aS o.aQ ((x.kind-1)%3) x.idx.toNat x.aN)/\cX Em.div 5 kJ σ P2 (o.aD.map (oY ((x.kind-1)%3) x.idx))/\cX Em.bF 5 jJ σ P3 o.aL)):=by
 have k1:=λfl σ=>IY hx fl σ
 rw[hf]at k1;have k3:=λfl σ=>GA (x:=x) ⟨Cd,Cd⟩ fl σ
 have hth:(x.kind-1)/3=0:=Cd;rw[hth]at k3;obtain⟨wy,hwy⟩:=gn ((x.kind-1)%3);have iI:wy=0\/wy=1\/wy=2:=Cd;rw[hwy]at k3 hokr;rw[hwy];obtain⟨kd,dv,ix,nm,⟨rn,rt,ra,rb,rf,wd⟩,⟨fn,fp,flo,fhi,fs⟩,⟨sn,sa,sb,sg⟩,⟨cn,ca,cb,cs,ct⟩⟩:=x;obtain⟨on,rs,dd,cc⟩:=o;have k2:=(H2 ⟨on,rs,dd,cc⟩ ho [.box (Em.bY.aB ⟨on,rs,dd,cc⟩),.box (Em.edit.aB ⟨kd,dv,ix,nm,⟨rn,rt,ra,rb,rf,wd⟩,⟨fn,fp,flo,fhi,fs⟩,⟨sn,sa,sb,sg⟩,⟨cn,ca,cb,cs,ct⟩⟩),.box (.agg [.str [],.slice 0 [] .full,.slice 0 [] .full,.slice 0 [] .full])]).e0 Ce;obtain⟨p,σ1,k2,⟨iR,iD,iC,ds,tS,tss,tG,tgs,tW,hO⟩,hl1,hk1⟩:=k2;have hp:=hO.p;subst hp;have b0:=hk1 0 Ce;have b1:=hk1 1 Ce;have b2:=hk1 2 Ce;simp only[yBi,yBB]at b0 b1 b2;have k4:=(aOb U2 F8 F9 on iR rs.length iD dd.length iC cc.length (σ1.set 0 (.box (.agg [.str on,Go.Kz.hd 6 iR rs.length,Go.Kz.hd 5 iD dd.length,Go.Kz.hd 5 iC cc.length]))) kd dv ix wy nm rn rt fn sn cn ra rb rf flo fhi sa sb ca cb cs fp ct (sz 1 wd) (sz 4 fs) (sz 3 sg) (wd.map i64.aB) (fs.map Em.stop.aB) (sg.map Em.fB.aB) k3).e0 (λe=>by
  have:0<σ1.length:=(yA.1 b0).1;have h:=yAL List.length e;rw[yAD,yAO]at h;omega)
 obtain⟨_,σ2,k4,rfl,L2,bT⟩:=k4;obtain⟨hR,hhR⟩:=gn (Go.Kz.hd 6 iR rs.length);obtain⟨hD,hhD⟩:=gn (Go.Kz.hd 5 iD dd.length);obtain⟨hC,hhC⟩:=gn (Go.Kz.hd 5 iC cc.length);have pR:hR.plain=true:=Cu;have pD:hD.plain=true:=Cv;have pC:hC.plain=true:=Cw;have cR:hR.cells=[hR]:=Ed;have cD:hD.cells=[hD]:=Ee;have cC:hC.cells=[hC]:=Ef;unfold PD.plain at pR pD pC;unfold PD.cells at cR cD cC;simp only[hhR,hhD,hhC]at hO k2 k4 bT;simp only[bZ,fE,bC]at k1 k2 k3 b0 b1 b2 hk hth hwy;simp only[bZ,fE,bC];obtain⟨w0,z0⟩:=yA.1 b0;obtain⟨w1,z1⟩:=yA.1 b1;obtain⟨w2,z2⟩:=yA.1 b2;have hS:(σ1.set 0 (.box (.agg [.str on,hR,hD,hC]))).length=σ1.length:=yAD;have g0:σ2[0]?=some (.box (.agg [.str on,hR,hD,hC])):=by rw[bT,yAg Cd,yAj w0]
 have g1:=b1;rw[<-yAd (l:=σ1) (i:=0) (a:=.box (.agg [.str on,hR,hD,hC])) Cd,<-yAg (l₂:=L2) Cd,<-bT]at g1;have g2:=b2;rw[<-yAd (l:=σ1) (i:=0) (a:=.box (.agg [.str on,hR,hD,hC])) Cd,<-yAg (l₂:=L2) Cd,<-bT]at g2;obtain⟨v0,y0⟩:=yA.1 g0;obtain⟨v1,y1⟩:=yA.1 g1;obtain⟨v2,y2⟩:=yA.1 g2;have uG:¬kd=13:=Cd;clear hU;refine aK.aG 132 h0 func42 (h:=?_);refine aC Bl ?_;have hcl:rs.length<=1000000:=ho.1.1;rcases iI with rfl|rfl|rfl
 .by_cases i1:ix<0
  .exact bh
  by_cases i2:(rs.length:Int)+1<=ix
  .exact bg
  obtain⟨i,rfl⟩:∃i:Nat,ix=i:=⟨ix.toNat,Cd⟩;rw[yBj]at hokr ⊢;have n2:σ2≠[]:=λe=>Cs
  have gC:σ1.length<=σ2.length:=Dr;have eP:jC σ2 3 ⟨on,rs,dd,cc⟩ (.agg [.str on,hR,hD,hC]) iR iD iC ds tS tss tG tgs tW:=by
   exact bz
  have k7:=(H7 0 i _ _ _ _ _ _ _ _ _ _ _ _ _ eP (yAQ Fa gC) ho hwr Cd).e0 n2;obtain⟨q7,σ3,k7,b,rfl,hbt,hbf⟩:=k7;cases b with
  |false=>
   exact au
  |true=>
  obtain⟨ow,qI,rQ,eJ⟩:=hbt rfl;have u0:=(eJ 0 Cd).trans g0;have u1:=(eJ 1 Cd).trans g1;have u2:=(eJ 2 Cd).trans g2;obtain⟨r0,x0⟩:=yA.1 u0;obtain⟨r1,x1⟩:=yA.1 u1;obtain⟨r2,x2⟩:=yA.1 u2;refine aC Bi ?_;obtain⟨l1,l2,l3⟩:=hIn _ _ _ _ _ _ _ _ _ _ _ _ _ qI (yAk _) (YL hsh _ _);simp only[eY]at l1 l2 l3;rw[yAe]at l2;simp only[hhR,hhD,hhC]at l1 l2 l3;have n3:σ3≠[]:=λe=>Dq
  have k5:=(H5 σ3 hR rs 0 i ⟨rn,rt,ra,rb,rf,wd⟩ l1 hx.1 (.inl ⟨rfl,Cd⟩) n3).e0 n3;obtain⟨Q,bW,k5,lQ,jK,cE⟩:=k5;have s0:=cE 0 _ u0 (λn v cs h=>Ck);have s1:=cE 1 _ u1 (λn v cs h=>Ck);have s2:=cE 2 _ u2 (λn v cs h=>Ck);obtain⟨f0,d0⟩:=yA.1 s0;obtain⟨f1,d1⟩:=yA.1 s1;obtain⟨f2,d2⟩:=yA.1 s2;have pQ:=lQ.plain;have cQ:=lQ.cells;unfold PD.plain at pQ;unfold PD.cells at cQ;have o5:=pP (B:=[0,1]) h5 k5 jK (λid hi h=>by
   simp only[yBl,yBN,yBO]at hi;rcases hi with rfl|rfl
   .rw[s0,u0]
   .rw[s1,u1])
  have k8:uL E [0,1] 0 (.inl 76) [Em.aN.aB ⟨rn,rt,ra,rb,rf,wd⟩] σ3=some (Em.aN.aB ⟨rn,rt,ra,rb,rf,wd⟩,σ3):=pP h8 (by
   have e1:=Em.dC (Em.aN.str (⟨rn,rt,ra,rb,rf,wd⟩:bP));unfold zU entry cU;rw[yAJ ⟨rfl,n3⟩];simp only[e1,fY (show gU ⟨rn,rt,ra,rb,rf,wd⟩from hx.1)]) (yAk _) (λ_ _ _=>rfl)
  simp only[oA,bC]at o5 k8;refine Wp.DT h8 (YM _) n3 [(2,0),(3,1)] [0,1] [some 0,some 1] Cj ⟨⟨_,rfl⟩,⟨_,rfl⟩,trivial⟩ Cj Ek ?_;refine oQ Bn ?_;apply SQ.nil;have qZ:∀R:TypeId->Prop,(∀t,R t->t≠48)->aW R σ3 bW:=λR hR id t n v cs hr hy=>cE id _ hy (λn v cs h=>De)
  have kS:∀R,aW R bW (bW.set 0 (.box (.agg [.str on,Q,hD,hC]))):=λR=>aW.set s0 _
  have m1:=lQ.aM (kS _);have m2:=(l2.aM (qZ _ (λt h=>Di))).aM (kS _);have m3:=(l3.aM (qZ _ (λt h=>Da))).aM (kS _);have o7:=hokr ow;simp only[eY]at o7 ⊢;have n4:bW.set 0 (.box (.agg [.str on,Q,hD,hC]))≠[]:=λe=>by
   exact gp
  have k6:=(H6 _ on Q hD hC _ _ cc m1 m2 m3 o7 n4).e0 n4;obtain⟨q,eG,k6,rfl,L5,rfl⟩:=k6;obtain⟨e,he⟩:=gn (dG ⟨on,aS rs 0 i ⟨rn,rt,ra,rb,rf,wd⟩,dd.map (oY 0 i),cc⟩);exact ai
 .by_cases i1:ix<0
  .exact bh
  by_cases i2:(rs.length:Int)<=ix
  .exact bg
  obtain⟨i,rfl⟩:∃i:Nat,ix=i:=⟨ix.toNat,Cd⟩;rw[yBj]at hokr ⊢;have n2:σ2≠[]:=λe=>Cs
  have gC:σ1.length<=σ2.length:=Dr;have eP:jC σ2 3 ⟨on,rs,dd,cc⟩ (.agg [.str on,hR,hD,hC]) iR iD iC ds tS tss tG tgs tW:=by
   exact bz
  have k7:=(H7 1 i _ _ _ _ _ _ _ _ _ _ _ _ _ eP (yAQ Fa gC) ho hwr Cd).e0 n2;obtain⟨q7,σ3,k7,b,rfl,hbt,hbf⟩:=k7;cases b with
  |false=>
   exact au
  |true=>
  obtain⟨ow,qI,rQ,eJ⟩:=hbt rfl;have u0:=(eJ 0 Cd).trans g0;have u1:=(eJ 1 Cd).trans g1;have u2:=(eJ 2 Cd).trans g2;obtain⟨r0,x0⟩:=yA.1 u0;obtain⟨r1,x1⟩:=yA.1 u1;obtain⟨r2,x2⟩:=yA.1 u2;refine aC Bi ?_;obtain⟨l1,l2,l3⟩:=hIn _ _ _ _ _ _ _ _ _ _ _ _ _ qI (yAk _) (YL hsh _ _);simp only[eY]at l1 l2 l3;rw[yAe]at l2;simp only[hhR,hhD,hhC]at l1 l2 l3;have n3:σ3≠[]:=λe=>Dq
  have k5:=(H5 σ3 hR rs 1 i ⟨rn,rt,ra,rb,rf,wd⟩ l1 hx.1 (.inr ⟨.inl rfl,Cd⟩) n3).e0 n3;obtain⟨Q,bW,k5,lQ,jK,cE⟩:=k5;have s0:=cE 0 _ u0 (λn v cs h=>Ck);have s1:=cE 1 _ u1 (λn v cs h=>Ck);have s2:=cE 2 _ u2 (λn v cs h=>Ck);obtain⟨f0,d0⟩:=yA.1 s0;obtain⟨f1,d1⟩:=yA.1 s1;obtain⟨f2,d2⟩:=yA.1 s2;have pQ:=lQ.plain;have cQ:=lQ.cells;unfold PD.plain at pQ;unfold PD.cells at cQ;have o5:=pP (B:=[0,1]) h5 k5 jK (λid hi h=>by
   simp only[yBl,yBN,yBO]at hi;rcases hi with rfl|rfl
   .rw[s0,u0]
   .rw[s1,u1])
  have k8:uL E [0,1] 0 (.inl 76) [Em.aN.aB ⟨rn,rt,ra,rb,rf,wd⟩] σ3=some (Em.aN.aB ⟨rn,rt,ra,rb,rf,wd⟩,σ3):=pP h8 (by
   have e1:=Em.dC (Em.aN.str (⟨rn,rt,ra,rb,rf,wd⟩:bP));unfold zU entry cU;rw[yAJ ⟨rfl,n3⟩];simp only[e1,fY (show gU ⟨rn,rt,ra,rb,rf,wd⟩from hx.1)]) (yAk _) (λ_ _ _=>rfl)
  simp only[oA,bC]at o5 k8;refine Wp.DT h8 (YM _) n3 [(2,0),(3,1)] [0,1] [some 0,some 1] Cj ⟨⟨_,rfl⟩,⟨_,rfl⟩,trivial⟩ Cj Ek ?_;refine oQ Bn ?_;apply SQ.nil;have qZ:∀R:TypeId->Prop,(∀t,R t->t≠48)->aW R σ3 bW:=λR hR id t n v cs hr hy=>cE id _ hy (λn v cs h=>De)
  have kS:∀R,aW R bW (bW.set 0 (.box (.agg [.str on,Q,hD,hC]))):=λR=>aW.set s0 _
  have m1:=lQ.aM (kS _);have m2:=(l2.aM (qZ _ (λt h=>Di))).aM (kS _);have m3:=(l3.aM (qZ _ (λt h=>Da))).aM (kS _);have o7:=hokr ow;simp only[eY]at o7 ⊢;have n4:bW.set 0 (.box (.agg [.str on,Q,hD,hC]))≠[]:=λe=>by
   exact gp
  have k6:=(H6 _ on Q hD hC _ _ cc m1 m2 m3 o7 n4).e0 n4;obtain⟨q,eG,k6,rfl,L5,rfl⟩:=k6;obtain⟨e,he⟩:=gn (dG ⟨on,aS rs 1 i ⟨rn,rt,ra,rb,rf,wd⟩,dd.map (oY 1 i),cc⟩);exact ai
 .by_cases i1:ix<0
  .exact bh
  by_cases i2:(rs.length:Int)<=ix
  .exact bg
  obtain⟨i,rfl⟩:∃i:Nat,ix=i:=⟨ix.toNat,Cd⟩;rw[yBj]at hokr ⊢;have n2:σ2≠[]:=λe=>Cs
  have gC:σ1.length<=σ2.length:=Dr;have eP:jC σ2 3 ⟨on,rs,dd,cc⟩ (.agg [.str on,hR,hD,hC]) iR iD iC ds tS tss tG tgs tW:=by
   exact bz
  have k7:=(H7 2 i _ _ _ _ _ _ _ _ _ _ _ _ _ eP (yAQ Fa gC) ho hwr Cd).e0 n2;obtain⟨q7,σ3,k7,b,rfl,hbt,hbf⟩:=k7;cases b with
  |false=>
   exact au
  |true=>
  obtain⟨ow,qI,rQ,eJ⟩:=hbt rfl;have u0:=(eJ 0 Cd).trans g0;have u1:=(eJ 1 Cd).trans g1;have u2:=(eJ 2 Cd).trans g2;obtain⟨r0,x0⟩:=yA.1 u0;obtain⟨r1,x1⟩:=yA.1 u1;obtain⟨r2,x2⟩:=yA.1 u2;refine aC Bi ?_;obtain⟨l1,l2,l3⟩:=hIn _ _ _ _ _ _ _ _ _ _ _ _ _ qI (yAk _) (YL hsh _ _);simp only[eY]at l1 l2 l3;rw[yAe]at l2;simp only[hhR,hhD,hhC]at l1 l2 l3;have n3:σ3≠[]:=λe=>Dq
  have k5:=(H5 σ3 hR rs 2 i ⟨rn,rt,ra,rb,rf,wd⟩ l1 hx.1 (.inr ⟨.inr rfl,Cd⟩) n3).e0 n3;obtain⟨Q,bW,k5,lQ,jK,cE⟩:=k5;have s0:=cE 0 _ u0 (λn v cs h=>Ck);have s1:=cE 1 _ u1 (λn v cs h=>Ck);have s2:=cE 2 _ u2 (λn v cs h=>Ck);obtain⟨f0,d0⟩:=yA.1 s0;obtain⟨f1,d1⟩:=yA.1 s1;obtain⟨f2,d2⟩:=yA.1 s2;have pQ:=lQ.plain;have cQ:=lQ.cells;unfold PD.plain at pQ;unfold PD.cells at cQ;have o5:=pP (B:=[0,1]) h5 k5 jK (λid hi h=>by
   simp only[yBl,yBN,yBO]at hi;rcases hi with rfl|rfl
   .rw[s0,u0]
   .rw[s1,u1])
  have k8:uL E [0,1] 0 (.inl 76) [Em.aN.aB ⟨rn,rt,ra,rb,rf,wd⟩] σ3=some (Em.aN.aB ⟨rn,rt,ra,rb,rf,wd⟩,σ3):=pP h8 (by
   have e1:=Em.dC (Em.aN.str (⟨rn,rt,ra,rb,rf,wd⟩:bP));unfold zU entry cU;rw[yAJ ⟨rfl,n3⟩];simp only[e1,fY (show gU ⟨rn,rt,ra,rb,rf,wd⟩from hx.1)]) (yAk _) (λ_ _ _=>rfl)
  simp only[oA,bC]at o5 k8;refine Wp.DT h8 (YM _) n3 [(2,0),(3,1)] [0,1] [some 0,some 1] Cj ⟨⟨_,rfl⟩,⟨_,rfl⟩,trivial⟩ Cj Ek ?_;refine oQ Bn ?_;apply SQ.nil;have qZ:∀R:TypeId->Prop,(∀t,R t->t≠48)->aW R σ3 bW:=λR hR id t n v cs hr hy=>cE id _ hy (λn v cs h=>De)
  have kS:∀R,aW R bW (bW.set 0 (.box (.agg [.str on,Q,hD,hC]))):=λR=>aW.set s0 _
  have m1:=lQ.aM (kS _);have m2:=(l2.aM (qZ _ (λt h=>Di))).aM (kS _);have m3:=(l3.aM (qZ _ (λt h=>Da))).aM (kS _);have o7:=hokr ow;simp only[eY]at o7 ⊢;have n4:bW.set 0 (.box (.agg [.str on,Q,hD,hC]))≠[]:=λe=>by
   exact gp
  have k6:=(H6 _ on Q hD hC _ _ cc m1 m2 m3 o7 n4).e0 n4;obtain⟨q,eG,k6,rfl,L5,rfl⟩:=k6;obtain⟨e,he⟩:=gn (dG ⟨on,aS rs 2 i ⟨rn,rt,ra,rb,rf,wd⟩,dd.map (oY 2 i),cc⟩);exact ai
end
section
variable{E E1 E2 E3 E4:aE}(hU:aJ E)
include hU
theorem aNI(h0:E 42=none)(h1:E 78=some B0)(h2:E 41=some (dO prog E1 41))
  (H2:ClnS E1)
  (h6:E 79=some (dO prog E4 79)) (H6:F5 E4)
  (hIn:lMz (cX Em.aN 6 kI) (cX Em.div 5 kJ) (cX Em.bF 5 jJ))
  (o:aY) (x:bM) (ho:fX o) (hsh:w6 o) (hx:dT x) (hf:fS x=0) (hk:x.kind=13) (hokr:dP { o with name:=x.name }) :
  aK prog E 0 (.inl 42) [Em.bY.aB o,Em.edit.aB x] [] (λp σ=>∃P1 P2 P3,p=.aH [if dG { o with name:=x.name }=0 then .agg [.str x.name,P1,P2,P3]else bX,.int .i64 (dG { o with name:=x.name })]/\cX Em.aN 6 kI σ P1 o.aQ/\cX Em.div 5 kJ σ P2 o.aD/\cX Em.bF 5 jJ σ P3 o.aL):=by
 have k1:=λfl σ=>IY hx fl σ
 rw[hf]at k1;obtain⟨kd,dv,ix,nm,⟨rn,rt,ra,rb,rf,wd⟩,⟨fn,fp,flo,fhi,fs⟩,⟨sn,sa,sb,sg⟩,⟨cn,ca,cb,cs,ct⟩⟩:=x;obtain⟨on,rs,dd,cc⟩:=o;have k2:=(H2 ⟨on,rs,dd,cc⟩ ho [.box (Em.bY.aB ⟨on,rs,dd,cc⟩),.box (Em.edit.aB ⟨kd,dv,ix,nm,⟨rn,rt,ra,rb,rf,wd⟩,⟨fn,fp,flo,fhi,fs⟩,⟨sn,sa,sb,sg⟩,⟨cn,ca,cb,cs,ct⟩⟩),.box (.agg [.str [],.slice 0 [] .full,.slice 0 [] .full,.slice 0 [] .full])]).e0 Ce;obtain⟨p,σ1,k2,⟨iR,iD,iC,ds,tS,tss,tG,tgs,tW,hO⟩,hl1,hk1⟩:=k2;obtain⟨l1,l2,l3⟩:=hIn _ _ _ _ _ _ _ _ _ _ _ _ _ hO (yAk _) hsh;have hp:=hO.p;subst hp;have b0:=hk1 0 Ce;have b1:=hk1 1 Ce;have b2:=hk1 2 Ce;simp only[yBi,yBB]at b0 b1 b2;obtain⟨hR,hhR⟩:=gn (Go.Kz.hd 6 iR rs.length);obtain⟨hD,hhD⟩:=gn (Go.Kz.hd 5 iD dd.length);obtain⟨hC,hhC⟩:=gn (Go.Kz.hd 5 iC cc.length);have pR:hR.plain=true:=Cu;have pD:hD.plain=true:=Cv;have pC:hC.plain=true:=Cw;have cR:hR.cells=[hR]:=Ed;have cD:hD.cells=[hD]:=Ee;have cC:hC.cells=[hC]:=Ef;unfold PD.plain at pR pD pC;unfold PD.cells at cR cD cC;simp only[hhR,hhD,hhC]at hO k2 l1 l2 l3;simp only[bZ,fE,bC]at k1 k2 b0 b1 b2 hk;simp only[bZ,fE,bC];obtain⟨w0,z0⟩:=yA.1 b0;obtain⟨w1,z1⟩:=yA.1 b1;obtain⟨w2,z2⟩:=yA.1 b2;subst hk;obtain⟨σ2,bT⟩:=gn ((σ1.set 0 (.box (.agg [.str on,hR,hD,hC]))).set 0 (.box (.agg [.str nm,hR,hD,hC])));have kS:∀R,aW R σ1 σ2:=λR=>by
  rw[<-bT];exact(aW.set b0 _).trans (aW.set (yAj w0) _)
 have m1:=l1.aM (kS _);have m2:=l2.aM (kS _);have m3:=l3.aM (kS _);have gC:σ2.length=σ1.length:=by rw[<-bT,yAD,yAD]
 have n2:σ2≠[]:=λe=>by rw[e]at gC;rw[<-gC]at w0;exact absurd w0 (yAZ _)
 have k6:=(H6 _ nm hR hD hC _ _ _ m1 m2 m3 hokr n2).e0 n2;obtain⟨q,eG,k6,rfl,L5,rfl⟩:=k6;obtain⟨e,he⟩:=gn (dG ⟨nm,rs,dd,cc⟩);simp only at hokr ⊢;rw[he]at k6;simp only[he];have t2:(σ2++L5)[2]?=some (.box bX):=by
  rw[yAg Cd,<-bT,yAd Cd,yAd Cd];exact b2
 have kE:∀R X,aW R σ2 ((σ2++L5).set 2 X):=λR X=>(aW.app R σ2 L5).trans (aW.set t2 X)
 have a0:σ2[0]?=some (.box (.agg [.str nm,hR,hD,hC])):=by rw[<-bT,yAj (by rw[yAD];exact w0)]
 obtain⟨a1,a2⟩:=yA.1 a0;obtain⟨Z,hZ⟩:=gn (σ2++L5);rw[hZ]at k6 t2;simp only[hZ]at kE;unfold bX at t2;obtain⟨t3,t4⟩:=yA.1 t2;have c1:(σ1.set 0 (.box (.agg [.str on,hR,hD,hC])))[1]?=_:=(yAd Cd).trans b1;obtain⟨c2,c3⟩:=yA.1 c1;refine aK.aG 132 h0 func42 (h:=?_)
 by_cases hz:e=0
 .subst hz;rw[yAJ rfl]at k6;refine aC Bu ?_;refine⟨.aH [.agg [.str nm,hR,hD,hC],.int .i64 0],Z.set 2 (.box (.agg [.str nm,hR,hD,hC])),?_,hR,hD,hC,rfl,m1.aM (kE _ _),m2.aM (kE _ _),m3.aM (kE _ _)⟩;simp[bV,t3]
 .rw[yAI hz]at k6;unfold bX at k6;refine aC Bu ?_;refine⟨.aH [bX,.int .i64 e],Z.set 2 (.box bX),?_,hR,hD,hC,Gb,m1.aM (kE _ _),m2.aM (kE _ _),m3.aM (kE _ _)⟩;simp[bV,t3,bX]
theorem aNH(h0:E 42=none)(h1:E 78=some B0)(o:aY)(x:bM)(hx:dT x)(hf:fS x≠0) :
  aK prog E 0 (.inl 42) [Em.bY.aB o,Em.edit.aB x] [] (λp _=>p=.aH [bE,.int .i64 (fS x)]):=by
 have k1:=λfl σ=>IY hx fl σ
 obtain⟨e,he⟩:=gn (fS x);rw[he]at k1 hf ⊢;obtain⟨kd,dv,ix,nm,⟨rn,rt,ra,rb,rf,wd⟩,⟨fn,fp,flo,fhi,fs⟩,⟨sn,sa,sb,sg⟩,⟨cn,ca,cb,cs,ct⟩⟩:=x;obtain⟨on,rs,dd,cc⟩:=o;simp only[bZ,fE,bC]at k1;simp only[bZ,fE,bC];refine aK.aG 132 h0 func42 (h:=?_);refine aC (A3 h1 k1 hf) ?_;exact cg
end
end Go.Kz
