/-
  StoreEncodes holds: the law answers true, whatever it is handed.
-/
import Derived.Test.YtefkonhamghgfaaGreatDoorP5
import Derived.Test.YtefkonhamghgfaaGreatDoorP3
import Derived.Test.YtefkonhamghgfaaGreatDoorP4
import Derived.Test.YtefkonhamghgfaaGreatDoorCards
import Derived.Test.YtefkonhamghgfaaGreatDoorTie
import Derived.SevenTiedAt
import Derived.Test.YtefkonhamghgfaaGreatDoorE2
import Derived.Test.YtefkonhamghgfaaGreatDoorF5
import Derived.Test.YtefkonhamghgfaaGreatDoorK5
import Derived.Test.YtefkonhamghgfaaGreatDoorD3
import Derived.Test.YtefkonhamghgfaaGreatDoorD4
set_option linter.all false

set_option maxHeartbeats 40000000
open Go.Proofs.Tryz
noncomputable section
namespace Go.Proofs.YtefkonhamghgfaaGreatDoor
open Go Go.Kz Go.ChangeShapes Go.WideShapes Go.ChangeAt Go.WideMaps Go.WideElems Go.RowKit
set_option maxRecDepth 100000
theorem own:ownKnob prog.godebug=none:=by kernel_rfl
theorem laidOut:laidOutB prog=true:=by kernel_rfl
abbrev DQ:List (String×DataW Unit):=[("math/bits.deBruijn32tab",Rows.laid_math_bits_deBruijn32tab),("math/bits.deBruijn64tab",Rows.laid_math_bits_deBruijn64tab),("internal/strconv.uint64pow10",Rows.laid_internal_strconv_uint64pow10)]
theorem aFm:(DQ.all fun x=>x.2.handleName?.isNone)=true:=by decide +kernel
def DR(g:Nat):List Int:=match vO g with|some (_,xs)=>xs|none=>[]
theorem XN:vO 1=some (.u64,DR 1):=rfl
theorem XO:vO 2=some (.u8,DR 2):=rfl
theorem XP:vO 3=some (.u8,DR 3):=rfl
theorem PE{g:Nat}(h0:g≠1)(h2:g≠2)(h3:g≠3):vO g=none:=by unfold vO;rw[if_neg h0,if_neg h2,if_neg h3]
theorem KW{g:Nat}(h:g≠0):DS g=none:=by unfold DS;rw[if_neg h]
theorem PF{g:Nat}{k:IntKind}{xs:List Int}(h:vO g=some (k,xs))(hi:DS g=none):XQ g (xs.map (Value.int k)).toArray:=by
 refine⟨fun k' zs hk=>?_,fun k' hk=>?_⟩
 ·rw[h]at hk
  simp only[yAb,yAc]at hk
  obtain⟨rfl,rfl⟩:=hk
  rfl
 ·rw[hi]at hk
  cases hk
theorem jZ{W:World}(hs:W.ShapedOpen prog)(h:laidMetH prog DQ W):Gl (.start W):=by
 rw[MakeChecks.laidMetH_plain _ _ _ aFm]at h
 obtain⟨ps,hv,_,_⟩:=h
 obtain⟨Ta,fa,ha⟩:=PG (P:=prog) (nm:= "internal/strconv.uint64pow10") (k:=.u64) (xs:=DR 1) (g:=1) (n:=20) hv (List.Mem.tail _ (List.Mem.tail _ (List.Mem.head _))) (by kernel_rfl) (t:=306) (by kernel_rfl) underlying306 underlying148 (by kernel_rfl) (by kernel_rfl)
 obtain⟨Tb,fb,hb⟩:=PG (P:=prog) (nm:= "math/bits.deBruijn32tab") (k:=.u8) (xs:=DR 2) (g:=2) (n:=32) hv (List.Mem.head _) (by kernel_rfl) (t:=310) (by kernel_rfl) underlying310 underlying5 (by kernel_rfl) (by kernel_rfl)
 obtain⟨Tc,fc,hc⟩:=PG (P:=prog) (nm:= "math/bits.deBruijn64tab") (k:=.u8) (xs:=DR 3) (g:=3) (n:=64) hv (List.Mem.tail _ (List.Mem.head _)) (by kernel_rfl) (t:=311) (by kernel_rfl) underlying311 underlying5 (by kernel_rfl) (by kernel_rfl)
 obtain⟨m,T0,fz0,h0⟩:=aFn (g:=0) (t:=3) (k:=.i64) (zero:=#[.int .i64 0]) hs (by decide +kernel) (by kernel_rfl) rfl (by kernel_rfl) (by kernel_rfl) underlying3
 refine⟨?_,?_⟩
 ·intro g ds hg
  by_cases e0:g=1
  ·subst e0
   simp only[wS,XN,yAb]at hg
   subst hg
   exact PH ha
  by_cases e2:g=2
  ·subst e2
   simp only[wS,XO,yAb]at hg
   subst hg
   exact PH hb
  by_cases e3:g=3
  ·subst e3
   simp only[wS,XP,yAb]at hg
   subst hg
   exact PH hc
  simp only[wS,PE e0 e2 e3]at hg
  cases hg
 ·intro g hg
  refine⟨?_,fun id hd=>hd.elim⟩
  by_cases e0:g=1
  ·subst e0
   exact⟨_,Ta,fa,ha,PF XN (KW (by decide))⟩
  by_cases e2:g=2
  ·subst e2
   exact⟨_,Tb,fb,hb,PF XO (KW (by decide))⟩
  by_cases e3:g=3
  ·subst e3
   exact⟨_,Tc,fc,hc,PF XP (KW (by decide))⟩
  by_cases e1:g=0
  ·subst e1
   refine⟨_,T0,fz0,h0,?_,?_⟩
   ·intro k zs hk
    rw[PE e0 e2 e3]at hk
    cases hk
   ·intro k hk
    have:k=.i64:=by
     have:DS 0=some .i64:=rfl
     rw[this]at hk
     exact(Option.some.inj hk).symm
    subst this
    exact⟨m,rfl⟩
  unfold XR at hg
  rw[PE e0 e2 e3,KW e1]at hg
  cases hg
def XM(os:Os):World:=World.doorLaid prog 400 os
theorem aFe(os:Os)(args:Array Value):laidMetH prog DQ ((XM os).forCall (fun _ _=>0) ⟨#[],args,[]⟩).memory:=
 laidMetH_of_parts3 (fuel:=8) (laidMet_of_run' 8 (by kernel_rfl) (by kernel_rfl)) (by kernel_rfl) (by kernel_rfl)
theorem named:(prog.funcs.toList.all fun fn=>!(fn.name== "runtime.NumGoroutine"))=true:=by kernel_rfl
theorem names(f:FuncId)(fn:Func)(h:prog.funcs[f]?=some fn):(fn.name== "runtime.NumGoroutine")=false:=by
 have:=yAn.1 named fn (Array.mem_toList_iff.2 (Array.mem_of_getElem? h))
 simpa using this
theorem aFo{d:Nat}{qs:List PD}(h:Typed prog (d+2) 93 qs):∃ws,qs=ws/\∃w0 w1 w2 w3 w4:Int,ws=[.int .u8 w0,.int .u8 w1,.int .u8 w2,.int .u8 w3,.int .u8 w4]/\eG w0/\eG w1/\eG w2/\eG w3/\eG w4:=by
 have hu:=underlying93
 unfold Typed at h
 rw[hu]at h
 simp only at h
 obtain⟨xs,hl,hx,rfl⟩:=h
 match xs,hl,hx with
 | [x0,x1,x2,x3,x4],_,hx=>
   obtain⟨a,rfl,wa⟩:=l9 underlying5 (hx x0 (by simp))
   obtain⟨b,rfl,wb⟩:=l9 underlying5 (hx x1 (by simp))
   obtain⟨c,rfl,wc⟩:=l9 underlying5 (hx x2 (by simp))
   obtain⟨e,rfl,we⟩:=l9 underlying5 (hx x3 (by simp))
   obtain⟨f,rfl,wf⟩:=l9 underlying5 (hx x4 (by simp))
   exact⟨_,rfl,a,b,c,e,f,rfl,wf_u8 wa,wf_u8 wb,wf_u8 wc,wf_u8 we,wf_u8 wf⟩
theorem wf_i8{z:Int}(hz:(Lit.int .i8 z).wf=true):-128<=z/\z<=127:=by
 simp only[Lit.wf,yAr,decide_eq_true_eq]at hz
 exact hz
section
variable{d:Nat}{qs:List PD}
theorem aFp(h:Typed prog (d+3) 95 qs):∃x:nM,kZ prog 95 qs=Em.vP.U x/\DT x:=by
 obtain⟨q0,r0,rfl,h0,h⟩:=lP (DU underlying95 h)
 obtain⟨q1,r1,rfl,h1,h⟩:=lP h
 obtain⟨q2,r2,rfl,h2,h⟩:=lP h
 obtain⟨q3,r3,rfl,h3,h⟩:=lP h
 obtain⟨q4,r4,rfl,h4,h⟩:=lP h
 obtain rfl:=DV h
 obtain⟨a,rfl,wa⟩:=l9 underlying5 h0
 obtain⟨b,rfl,wb⟩:=l9 underlying5 h1
 obtain⟨c,rfl,wc⟩:=l9 underlying92 h2
 obtain⟨e,rfl,we⟩:=l9 underlying5 h3
 obtain⟨ws,rfl,hw⟩:=aFo h4
 obtain⟨w0,w1,w2,w3,w4,rfl,k0,k1,k2,k3,k4⟩:=hw
 exact⟨⟨a,b,c,e,w0,w1,w2,w3,w4⟩,DW (by kernel_rfl),wf_u8 wa,wf_u8 wb,wf_i8 wc,wf_u8 we,k0,k1,k2,k3,k4⟩
theorem aFq(h:Typed prog (d+2) 98 qs):∃x:oY,kZ prog 98 qs=Em.pull.U x/\DY x:=by
 obtain⟨q0,r0,rfl,h0,h⟩:=lP (DU underlying98 h)
 obtain⟨q1,r1,rfl,h1,h⟩:=lP h
 obtain⟨q2,r2,rfl,h2,h⟩:=lP h
 obtain⟨q3,r3,rfl,h3,h⟩:=lP h
 obtain rfl:=DV h
 obtain⟨a,rfl,wa⟩:=l9 underlying5 h0
 obtain⟨b,rfl,wb⟩:=l9 underlying5 h1
 obtain⟨c,rfl,wc⟩:=l9 underlying5 h2
 obtain⟨e,rfl,we⟩:=l9 underlying5 h3
 exact⟨⟨a,b,c,e⟩,DW (by kernel_rfl),wf_u8 wa,wf_u8 wb,wf_u8 wc,wf_u8 we⟩
theorem aFr(h:Typed prog (d+4) 85 qs):∃x:qM,kZ prog 85 qs=Em.AZ.U x/\okB x:=by
 obtain⟨q0,r0,rfl,h0,h⟩:=lP (DU underlying85 h)
 obtain⟨q1,r1,rfl,h1,h⟩:=lP h
 obtain⟨q2,r2,rfl,h2,h⟩:=lP h
 obtain⟨q3,r3,rfl,h3,h⟩:=lP h
 obtain rfl:=DV h
 obtain⟨a,rfl,wa⟩:=l9 underlying5 h0
 obtain⟨b,rfl,wb⟩:=l9 underlying5 h1
 obtain⟨c,rfl⟩:=XS underlying4 h2
 obtain⟨ys,rfl,_,hy⟩:=KX (em:=Em.pull) (R:=DY) underlying83 (k:=4) (by kernel_rfl) (fun x hx=>aFq hx) h3
 exact⟨⟨a,b,c,ys⟩,DW (by kernel_rfl),wf_u8 wa,wf_u8 wb,hy⟩
theorem aFs(h:Typed prog (d+2) 100 qs):∃x:rM,kZ prog 100 qs=Em.link.U x/\PI x:=by
 obtain⟨q0,r0,rfl,h0,h⟩:=lP (DU underlying100 h)
 obtain⟨q1,r1,rfl,h1,h⟩:=lP h
 obtain⟨q2,r2,rfl,h2,h⟩:=lP h
 obtain⟨q3,r3,rfl,h3,h⟩:=lP h
 obtain rfl:=DV h
 obtain⟨a,rfl,wa⟩:=l9 underlying5 h0
 obtain⟨b,rfl,wb⟩:=l9 underlying5 h1
 obtain⟨c,rfl,wc⟩:=l9 underlying92 h2
 obtain⟨e,rfl⟩:=XS underlying4 h3
 exact⟨⟨a,b,c,e⟩,DW (by kernel_rfl),wf_u8 wa,wf_u8 wb,wf_i8 wc⟩
theorem aFf(h:Typed prog (d+6) 26 qs):∃x:oJ,kZ prog 26 qs=Em.qN.U x/\yJ x:=by
 obtain⟨q0,r0,rfl,h0,h⟩:=lP (DU underlying26 h)
 obtain⟨q1,r1,rfl,h1,h⟩:=lP h
 obtain⟨q2,r2,rfl,h2,h⟩:=lP h
 obtain rfl:=DV h
 obtain⟨xs,rfl,_,hx⟩:=KX (em:=Em.vP) (R:=DT) underlying22 (k:=9) (by kernel_rfl) (fun x hx=>aFp hx) h0
 obtain⟨ys,rfl,_,hy⟩:=KX (em:=Em.AZ) (R:=okB) underlying23 (k:=4) (by kernel_rfl) (fun x hx=>aFr hx) h1
 obtain⟨zs,rfl,_,hz⟩:=KX (em:=Em.link) (R:=PI) underlying24 (k:=4) (by kernel_rfl) (fun x hx=>aFs hx) h2
 exact⟨⟨xs,ys,zs⟩,DW (by kernel_rfl),hx,hy,hz⟩
theorem aFh(h:Typed prog (d+2) 27 qs):∃n:Int,kZ prog 27 qs=.int .u16 n/\0<=n/\n<=65535:=by
 obtain⟨n,rfl,w⟩:=l9 underlying27 h
 exact⟨n,rfl,wf_u16 w⟩
theorem aFg(h:Typed prog (d+2) 46 qs):∃x:oZ,kZ prog 46 qs=Em.oK.U x/\wT x:=by
 obtain⟨q0,r0,rfl,h0,h⟩:=lP (DU underlying46 h)
 obtain⟨q1,r1,rfl,h1,h⟩:=lP h
 obtain rfl:=DV h
 obtain⟨a,rfl,wa⟩:=l9 underlying5 h0
 obtain⟨b,rfl,wb⟩:=l9 underlying5 h1
 exact⟨⟨a,b⟩,DW (by kernel_rfl),wf_u8 wa,wf_u8 wb⟩
end
end Go.Proofs.YtefkonhamghgfaaGreatDoor
namespace Go.Kz
open Go Go.Proofs
set_option maxRecDepth 100000
theorem aE.le{P:Program}{E:aD}{f:FuncId}{g g':Nat->List PD->List aB->Option (PD×List aB)}(h:aE P (E.add f g))(hE:aE P E)(hg:∀fl args σ x,g' fl args σ=some x->g fl args σ=some x):aE P (E.add f g'):=by
 intro F fl f1 g1 args c vs p σ' hF h1 hgo hs hX hv
 unfold aD.add at h1
 split at h1
 ·rename_i e
  subst e
  simp only[yAb]at h1;subst h1
  exact h hF (show E.add f1 g f1=some g from if_pos rfl) (hg _ _ _ _ hgo) hs hX hv
 ·exact hE hF h1 hgo hs hX hv
theorem aA4{args args':List PD}(h:args.map PD.strip=args')(h2:args'.map PD.strip=args'):∀rs:List (List PD×PD),oE rs args=oE rs args'
 | []=>rfl
 |r::rs=>by
  unfold oE
  rw[h,h2,aA4 h h2 rs]
theorem aH3:(xU.all fun a=>q9.all fun b=>match oE IF [Em.bX.U a,Em.bX.U b]with|some p=>qE 40 p (.aH [.int .i64 (nD a b),.int .i64 0])|none=>false)=true:=by decide +kernel
theorem aH4:aE prog (pF.add 70 B9):=by
 refine aH5.le aA5 fun fl args σ x h=>?_
 unfold B9 entry fQ at h
 split at h
 rotate_left
 ·cases h
 rename_i p hp
 simp only[yAb]at h
 subst h
 split at hp
 rotate_left
 ·cases hp
 rename_i p1 p2
 split at hp
 rotate_left
 ·cases hp
 rename_i a b ha hb
 split at hp
 rotate_left
 ·cases hp
 rename_i z hz
 obtain⟨⟨h1,h2⟩,e⟩:=fL hz
 cases e
 simp only[yAb]at hp
 subst hp
 have e1:=Em.o0 ha
 have e2:=Em.o0 hb
 have hs:[p1,p2].map PD.strip=[Em.bX.U a,Em.bX.U b]:=by simp only[List.map_cons,List.map_nil,e1,e2]
 have hs2:[Em.bX.U a,Em.bX.U b].map PD.strip=[Em.bX.U a,Em.bX.U b]:=by simp only[List.map_cons,List.map_nil,Em.bX.str]
 rw[aA4 hs hs2]
 have ht:=yAn.1 (yAn.1 aH3 a h1) b h2
 split at ht
 ·rename_i q hq
  rw[hq]
  have:=B6 40 _ _ ht
  rw[this]
  rfl
 ·cases ht
theorem aE.aA6{E:aD}(hE:aE prog E){β:Type}{r:Em β}{F:List Int->β}{f:FuncId}(h:∀l:List Int,l.length<=1000000->aS prog E f [eD.U l,.func 108 []] (r.U (F l))) :
  aE prog (E.add f (entry (fun args=>match args with | [p,.func g []]=>if g=108 then b9 eD r (fun l=>dX (l.length<=1000000) (some (F l))) [p]else none|_=>none))):=by
 refine hE.D0 aU fun args p hg=>?_
 split at hg
 rotate_left
 ·cases hg
 rename_i p1 g1
 split at hg
 rotate_left
 ·cases hg
 rename_i e
 subst e
 simp only[b9]at hg
 split at hg
 rotate_left
 ·cases hg
 rename_i x hx
 split at hg
 rotate_left
 ·cases hg
 rename_i z hz
 simp only[yAb]at hg
 subst hg
 obtain⟨rx,e⟩:=fL hz
 cases e
 have e1:=Em.o0 hx
 obtain⟨p2,σ2,h1,h2⟩:=h x rx
 exact⟨p2,σ2,by simpa [e1,PD.strip]using h1,h2,by simp only[List.map_cons,List.map_nil,e1,PD.eM,eD.dU];rfl,r.dU _⟩
theorem aE.aH6{E:aD}(hE:aE prog E)(hU:aI E)(h0:E 33=none)(h1:E 69=some (entry (b9 jO Em.bX fun n=>dX (eG n) (some (gN n)))))(h2:E 70=some B9):aE prog (E.add 33 IG):=by
 refine hE.D0 aU fun args p hg=>?_
 unfold RY at hg
 split at hg
 rotate_left
 ·cases hg
 rename_i a b c d
 split at hg
 rotate_left
 ·cases hg
 rename_i rs lh x i ha hb hc hd
 obtain⟨⟨k1,k2,k3,k4,k5,k6,k7,k8,k9⟩,e⟩:=fL hg
 cases e
 have e1:=Em.o0 ha
 have e2:=Em.o0 hb
 have e3:=Em.o0 hc
 have e4:=Em.o0 hd
 obtain⟨j,rfl⟩:∃j:Nat,i=j:=⟨i.toNat,by omega⟩
 rw[Int.toNat_natCast]
 obtain⟨p2,σ2,q1,q2⟩:=aH7 hU h0 h1 h2 rs k1 k2 k3 lh.1 lh.2 k4 k5 k6 x k7 j (by omega)
 refine⟨p2,σ2,?_,q2,?_,Em.stop.dU _⟩
 ·simp only[List.map_cons,List.map_nil,e1,e2,e3,e4]
  exact q1
 ·simp only[List.map_cons,List.map_nil,e1,e2,e3,e4,PD.eM,aX.dU,Em.bX.dU,Em.pull.dU,i64.dU,Bool.and_self]
theorem aH8:∀args p,xV 0 args []≠some (p,[]):=by
 intro args p h
 unfold xV at h
 split at h
 ·simp at h
 ·cases h
theorem aA7(F:List UInt8->List cF->PD):∀args p,sA F 0 args []≠some (p,[]):=by
 intro args p h
 unfold sA at h
 repeat' split at h
 all_goals first|(cases h;done)|(simp_all;done)
theorem aH9:∀args p,uR 0 args []≠some (p,[]):=by
 intro args p h
 unfold uR at h
 repeat' split at h
 all_goals first|(cases h;done)|(simp_all;done)
theorem aE.aIa{E:aD}(hE:aE prog E)(hU:aI E)(h0:E 65=none)(h1:E 28=some (fV 5 uS)):aE prog (E.add 65 wG):=
 hE.zL aU fun l z hz=>by
  obtain⟨h,e⟩:=fL hz
  cases e
  exact(aIb hU h0 h1 l h (sz 1 l) (by cases l<;>simp[sz])).free
theorem aA8{args:List PD}{bs:List UInt8}(h:uS args=some bs):∃n,args=[.int .i64 n]/\bs=b8 n:=by
 unfold uS at h
 split at h
 ·cases h
  exact⟨_,rfl,rfl⟩
 ·cases h
theorem aA9{args:List PD}{bs:List UInt8}(h:zM args=some bs):∃s,args=[.str s]/\bs=aZ s/\s.length<=1000000:=by
 unfold zM at h
 split at h
 ·rename_i s
  split at h
  ·rename_i hl
   cases h
   exact⟨_,rfl,rfl,hl⟩
  ·cases h
 ·cases h
theorem aIc(args:List PD):uS args≠some []:=fun h=>by
 obtain⟨n,_,e⟩:=aA8 h
 have:=cT n
 rw[<-e]at this
 cases this
theorem aId(args:List PD):zM args≠some []:=fun h=>by
 obtain⟨n,_,e,_⟩:=aA9 h
 exact IH _ e.symm
theorem aBa{args:List PD}{bs:List UInt8}(h:rC args=some bs):∃l p,args=[p]/\p.strip=sB.U l/\bs=l.flatten/\l.flatten≠[]/\l.flatten.length<=100000000/\l.length<=1000:=by
 unfold rC at h
 split at h
 rotate_left
 ·cases h
 rename_i p
 split at h
 rotate_left
 ·cases h
 rename_i l hl
 split at h
 ·rename_i hc
  cases h
  exact⟨l,p,rfl,Em.o0 hl,rfl,hc.1,hc.2.1,hc.2.2⟩
 ·cases h
theorem aIe(args:List PD):rC args≠some []:=fun h=>by
 obtain⟨l,p,_,_,e,hn,_⟩:=aBa h
 exact hn e.symm
mutual
theorem PD.RZ:∀p:PD,p.strip.strip=p.strip
 |.agg cs=>by simp only[PD.strip,PD.II cs]
 |.typed t cs=>by simp only[PD.strip,PD.II cs]
 |.aH cs=>by simp only[PD.strip,PD.II cs]
 |.slice _ [] _=>by simp only[PD.strip]
 |.slice n (x::xs) _=>by simp only[PD.strip,PD.RZ x,PD.II xs]
 |.bool _|.int _ _|.str _|.eN|.gU|.eV _|.ptr _ _|.dE _ _ _ _|.aF _ _ _ _ _|.dQ _ _ _|.fD _|.iface _ _|.eF _ _|.func _ _|.dA _ _|.yield _=>by simp only[PD.strip]
theorem PD.II:∀l:List PD,PD.j7 (PD.j7 l)=PD.j7 l
 | []=>by simp only[PD.j7]
 |x::xs=>by simp only[PD.j7,PD.RZ x,PD.II xs]
end
theorem aE.aBb{P:Program}{E:aD}(hE:aE P E)(hP:P.follows .mixedOrders=true){e:TypeId}{f:FuncId}{g:List PD->Option (List UInt8)}
  (h:∀args bs,args.map PD.strip=args->g args=some bs->iS P E e f args bs/\PD.eM args=true):aE P (E.add f (fV e g)):=by
 classical
 have hg:fV e g=fV e fun args=>if args.map PD.strip=args then g args else none:=by
  funext fl args σ
  unfold fV
  simp only[List.map_map]
  rw[if_pos (show args.map (PD.strip ∘ PD.strip)=args.map PD.strip from yBg fun p _=>PD.RZ p)]
 rw[hg]
 refine @aE.R6 P E hE hP e f (fun args=>if args.map PD.strip=args then g args else none) (fun args bs hg=>?_)
 have hg:(if args.map PD.strip=args then g args else none)=some bs:=hg
 exact by
  split at hg
  ·rename_i hs
   exact h args bs hs hg
  ·cases hg
theorem aIf{σ:List aB}{p:PD}(h:(mH [] p).aY=true):mH σ p=mH [] p:=by
 cases p<;>first|rfl|(simp[mH,FB,PD.aY]at h)
theorem aI.fW{E:aD}(hU:aI E){f:FuncId}{g:List PD->Option PD}:aI (E.add f (fW g)):=by
 intro f' g' args p hE h fl σ
 unfold aD.add at hE
 split at hE
 rotate_left
 ·exact hU _ _ _ _ hE h fl σ
 simp only[yAb]at hE;subst hE
 have hm:∀args:List PD,PD.eM (args.map (mH []))=true->args.map (mH σ)=args.map (mH []):=fun args h=>yBg fun q hq=>aIf (by
  rw[PD.p7]at h
  exact yAn.1 h _ (yAw.2 ⟨q,hq,rfl⟩))
 unfold Kz.fW at h ⊢
 split at h
 rotate_left
 ·cases h
 rename_i hid
 rw[hm args hid,if_pos hid]
 split at h
 rotate_left
 ·cases h
 split at h
 ·rename_i hno
  rw[if_pos hno]
  simp only[yAb,yAc,and_true]at h
  rw[h]
 ·cases h
theorem aE.aIg{E:aD}(hE:aE prog E)(hU:aI E)(h0:E 58=none)(h1:E 90=some xW):aE prog (E.add 58 (fV 5 rC)):=
 hE.aBb aU fun args bs hs hg=>by
  obtain⟨l,p,rfl,hp,rfl,g1,g2,g3⟩:=aBa hg
  simp only[List.map_cons,List.map_nil,List.cons.injEq,and_true]at hs
  rw[hs]at hp
  subst hp
  exact⟨aIh hU h0 h1 l g1 g2 g3,by simp only[PD.eM,sB.dU];rfl⟩
theorem aIi:∀args p,xW 0 args []≠some (p,[]):=by
 intro args p h
 unfold xW at h
 repeat' split at h
 all_goals first|(cases h;done)|(simp_all;done)
theorem aIj{args:List PD}{p:PD}(h:sC args=some p):∃l z,args=[.slice z (aG l) .any,.slice z (aG l) .any]/\p=.bool true/\l.length<=1000000/\(l=[]\/z=1):=by
 unfold sC at h
 split at h
 rotate_left
 ·cases h
 rename_i z xs q
 split at h
 rotate_left
 ·cases h
 rename_i l hl
 obtain⟨⟨h1,h2,h3,h4⟩,e⟩:=fL h
 cases e
 exact⟨l,z,by rw[h4,h2],rfl,h1,h3⟩
def R8:aD:=fun _=>none
theorem aIk:aE prog R8:=fun _ hg=>by cases hg
theorem aBc:aI R8:=aI.none
def R9:aD:=R8.add 78 M1
theorem aIl:aE prog R9:=aIk.nR aU fun x z hz=>by cases hz;exact aIm aBc rfl x
theorem aBd:aI R9:=aBc.entry
def SA:aD:=R9.add 36 CA
theorem aIn:aE prog SA:=aIl.nR aU fun x z hz=>by obtain⟨h,e⟩:=fL hz;cases e;exact aIo aBd rfl rfl x h
theorem aBe:aI SA:=aBd.entry
def SB:aD:=SA.add 82 FC
theorem aIp:aE prog SB:=aIn.nR aU fun x z hz=>by cases hz;exact aIq aBe rfl x.1 x.2
theorem aBf:aI SB:=aBe.entry
def SC:aD:=SB.add 144 M3
theorem aIr:aE prog SC:=aIp.wY aU fun x y z hz=>by
 obtain⟨h,e⟩:=fL hz
 cases e
 obtain⟨a,rfl⟩:∃a:Nat,x=a:=⟨x.toNat,by omega⟩
 obtain⟨b,rfl⟩:∃b:Nat,y=b:=⟨y.toNat,by omega⟩
 rw[Int.toNat_natCast,Int.toNat_natCast]
 exact aIs aBf rfl a b (by omega) (by omega)
theorem aBg:aI SC:=aBf.entry
def SD:aD:=SC.add 145 M4
theorem aIt:aE prog SD:=aIr.nR aU fun x z hz=>by obtain⟨h,e⟩:=fL hz;cases e;exact aIu aBg rfl x h
theorem aBh:aI SD:=aBg.entry
def SE:aD:=SD.add 106 M5
theorem aIv:aE prog SE:=aIt.nR aU fun x z hz=>by cases hz;exact aIw aBh rfl rfl rfl x.1 x.2
theorem aBi:aI SE:=aBh.entry
def SF:aD:=SE.add 79 IJ
theorem aIx:aE prog SF:=aIv.nR aU fun x z hz=>by cases hz;exact aIy aBi rfl rfl x.1 x.2
theorem aBj:aI SF:=aBi.entry
def SG:aD:=SF.add 108 M6
theorem aIz:aE prog SG:=aIx.nR aU fun x z hz=>by cases hz;exact aIA aBj rfl x
theorem aBk:aI SG:=aBj.entry
def SH:aD:=SG.add 146 M7
theorem aIB:aE prog SH:=aIz.aA6 fun l hl=>aIC aBk rfl rfl l hl
theorem aBl:aI SH:=aBk.entry
def SI:aD:=SH.add 107 M8
theorem aID:aE prog SI:=aIB.aA6 fun l hl=>aIE aBl rfl rfl l hl
theorem aBm:aI SI:=aBl.entry
def SJ:aD:=SI.add 81 M9
theorem aIF:aE prog SJ:=aID.nR aU fun x z hz=>by obtain⟨h,e⟩:=fL hz;cases e;exact aIG aBm rfl rfl x h
theorem aBn:aI SJ:=aBm.entry
def SK:aD:=SJ.add 80 NA
theorem aIH:aE prog SK:=aIF.nR aU fun x z hz=>by cases hz;exact aII aBn rfl x
theorem aBo:aI SK:=aBn.entry
def SM:aD:=SK.add 37 IK
theorem aIJ:aE prog SM:=aIH.nR aU fun x z hz=>by obtain⟨h,e⟩:=fL hz;cases e;exact aIK aBo rfl rfl rfl rfl rfl x h.1 h.2.1 h.2.2
theorem aBp:aI SM:=aBo.entry
def SN:aD:=SM.add 176 NB
theorem aIL:aE prog SN:=aIJ.wY aU fun x y z hz=>by obtain⟨h,e⟩:=fL hz;cases e;exact aIM aBp rfl x y h
theorem aBq:aI SN:=aBp.entry
def SO:aD:=SN.add 147 NC
theorem aIN:aE prog SO:=aIL.wY aU fun x y z hz=>by obtain⟨h,e⟩:=fL hz;cases e;exact aIO aBq rfl rfl x y h
theorem aBr:aI SO:=aBq.entry
def SR:aD:=SO.add 110 ND
theorem aIP:aE prog SR:=aIN.wY aU fun x y z hz=>by obtain⟨h,e⟩:=fL hz;cases e;exact aIQ aBr rfl rfl x.1 h.1 x.2.1 x.2.2 y h.2
theorem aBs:aI SR:=aBr.entry
def SS:aD:=SR.add 109 NF
theorem aIR:aE prog SS:=aIP.nR aU fun x z hz=>by obtain⟨h,e⟩:=fL hz;cases e;exact aIS aBs rfl rfl rfl x.1 h.1 h.2 x.2.1 x.2.2
theorem aBt:aI SS:=aBs.entry
def SU:aD:=SS.add 83 NG
theorem aIT:aE prog SU:=aIR.wY aU fun x y z hz=>by obtain⟨h,e⟩:=fL hz;cases e;exact aIU aBt rfl rfl rfl rfl rfl x.1 h.1 x.2.1 x.2.2 y h.2.1 h.2.2
theorem aBu:aI SU:=aBt.entry
def SV:aD:=SU.add 85 xV
theorem aIV:aE prog SV:=aIW aBu aIT rfl
theorem aBv:aI SV:=aBu.other (aH8)
def SW:aD:=SV.add 111 (sA fun nm l=>.int .i64 (kV (kM nm) l 0))
theorem aIX:aE prog SW:=aIY aBv aIV rfl rfl
theorem aBw:aI SW:=aBv.other (aA7 _)
def SX:aD:=SW.add 84 (sA fun nm l=>.bool (l.any (kM nm)))
theorem aIZ:aE prog SX:=aI0 aBw aIX rfl rfl
theorem aBx:aI SX:=aBw.other (aA7 _)
def SY:aD:=SX.add 40 NH
theorem aI1:aE prog SY:=aIZ.wY aU fun x y z hz=>by obtain⟨h,e⟩:=fL hz;cases e;exact aI2 aBx rfl rfl rfl rfl x y h.1 h.2.1 h.2.2
theorem aBy:aI SY:=aBx.entry
def SZ:aD:=SY.add 38 uR
theorem aI3:aE prog SZ:=aI4 aBy aI1 rfl
theorem aBz:aI SZ:=aBy.other (aH9)
def S0:aD:=SZ.add 39 NI
theorem aI5:aE prog S0:=aI3.wY aU fun x y z hz=>by obtain⟨h,e⟩:=fL hz;cases e;exact aI6 aBz rfl rfl rfl rfl x h.1 y h.2.2
theorem aBA:aI S0:=aBz.entry
def S1:aD:=S0.add 10 CB
theorem aI7:aE prog S1:=aI5.nR aU fun x z hz=>by obtain⟨h,e⟩:=fL hz;cases e;exact aI8 aBA rfl rfl rfl rfl rfl rfl x h
theorem aBB:aI S1:=aBA.entry
def S2:aD:=S1.add 6 NJ
theorem aI9:aE prog S2:=aI7.nR aU fun x z hz=>by cases hz;exact aFt aBB rfl x
theorem aBC:aI S2:=aBB.entry
def S3:aD:=S2.add 68 (entry (b9 jO Em.bX fun n=>dX (eG n) (some (nE n))))
theorem aJa:aE prog S3:=aI9.nR aU fun x z hz=>by obtain⟨h,e⟩:=fL hz;cases e;exact aJb aBC rfl x h
theorem aBD:aI S3:=aBC.entry
def S4:aD:=S3.add 69 (entry (b9 jO Em.bX fun n=>dX (eG n) (some (gN n))))
theorem aJc:aE prog S4:=aJa.nR aU fun x z hz=>by obtain⟨h,e⟩:=fL hz;cases e;exact aJd aBD rfl x h
theorem aJe:aI S4:=aBD.entry
def S5:aD:=S4.add 70 B9
theorem aJf:aE prog S5:=aE.pick aH4 aJc (if_pos rfl)
theorem aBE:aI S5:=aJe.entry
def S6:aD:=S5.add 32 NK
theorem aJg:aE prog S6:=aJf.wY aU fun x y z hz=>by
 obtain⟨h,e⟩:=fL hz
 cases e
 obtain⟨a,rfl⟩:∃a:Nat,y=a:=⟨y.toNat,by omega⟩
 rw[Int.toNat_natCast]
 exact aJh aBE rfl rfl x h.1 a (by omega)
theorem aBF:aI S6:=aBE.entry
def S7:aD:=S6.add 33 IG
theorem aJi:aE prog S7:=aJg.aH6 aBF rfl rfl rfl
theorem aBG:aI S7:=aBF.entry
def mI:aD:=S7.add 8 NL
theorem aJj:aE prog mI:=aJi.nR aU fun x z hz=>by obtain⟨h,e⟩:=fL hz;cases e;exact aJk aBG rfl rfl rfl x h.1 h.2
theorem aBH:aI mI:=aBG.entry
theorem pG:Reads mI 100 aM i64.U:=fun τ id s hr hl=>aJl aBH rfl τ id s hr hl
def wH:aD:=mI.add 100 (aO prog mI 100)
theorem aJm:aE prog wH:=aJj.eJ aU 100
theorem aBI:aI wH:=aBH.st
theorem IL:Reads wH 71 iB PD.str:=aJn (E0:=mI) aBI rfl rfl pG
def CC:aD:=wH.add 71 (aO prog wH 71)
theorem aJo:aE prog CC:=aJm.eJ aU 71
theorem aBJ:aI CC:=aBI.st
theorem HR2:Reads CC 103 oR PD.bool:=aJp (E0:=mI) aBJ rfl rfl pG
def CD:aD:=CC.add 103 (aO prog CC 103)
theorem aJq:aE prog CD:=aJo.eJ aU 103
theorem aBK:aI CD:=aBJ.st
theorem HR3:Reads CD 101 sD Em.CE.U:=aJr (E0:=mI) aBK rfl rfl pG
def FD:aD:=CD.add 101 (aO prog CD 101)
theorem aJs:aE prog FD:=aJq.eJ aU 101
theorem aBL:aI FD:=aBK.st
theorem HR4:j9 FD 102 (gO 100) (dList aM) eD.U:=aJt (E1:=mI) (E2:=mI) aBL rfl rfl pG rfl pG
def FE:aD:=FD.add 102 (aO prog FD 102)
theorem aJu:aE prog FE:=aJs.eJ aU 102
theorem aBM:aI FE:=aBL.st
theorem HR5:Reads FE 73 jD Em.aR.U:=aJv (E1:=wH) (E2:=CD) (E3:=mI) (E4:=FD) aBM rfl rfl IL rfl HR3 rfl pG rfl HR4
def FF:aD:=FE.add 73 (aO prog FE 73)
theorem aJw:aE prog FF:=aJu.eJ aU 73
theorem aBN:aI FF:=aBM.st
theorem HR6:j9 FF 72 (gO 73) (dList jD) aX.U:=aJx (E1:=mI) (E2:=FE) aBN rfl rfl pG rfl HR5
def FG:aD:=FF.add 72 (aO prog FF 72)
theorem aJy:aE prog FG:=aJw.eJ aU 72
theorem aBO:aI FG:=aBN.st
theorem HR7:Reads FG 175 jE Em.draw.U:=aJz (E1:=mI) aBO rfl rfl pG
def FH:aD:=FG.add 175 (aO prog FG 175)
theorem aJA:aE prog FH:=aJy.eJ aU 175
theorem aBP:aI FH:=aBO.st
theorem HR8:j9 FH 174 (gO 175) (dList jE) iE.U:=aJB (E1:=mI) (E2:=FG) aBP rfl rfl pG rfl HR7
def FI:aD:=FH.add 174 (aO prog FH 174)
theorem aJC:aE prog FI:=aJA.eJ aU 174
theorem aBQ:aI FI:=aBP.st
theorem HR9:Reads FI 143 jF Em.bL.U:=aJD (E1:=mI) (E2:=FH) aBQ rfl rfl pG rfl HR8
def FJ:aD:=FI.add 143 (aO prog FI 143)
theorem aJE:aE prog FJ:=aJC.eJ aU 143
theorem aBR:aI FJ:=aBQ.st
theorem aJF:j9 FJ 142 (gO 143) (dList jF) jA.U:=aJG (E1:=mI) (E2:=FI) aBR rfl rfl pG rfl HR9
def FK:aD:=FJ.add 142 (aO prog FJ 142)
theorem aJH:aE prog FK:=aJE.eJ aU 142
theorem aBS:aI FK:=aBR.st
theorem aJI:Reads FK 105 jG Em.stop.U:=aJJ (E1:=wH) (E2:=CD) (E3:=FJ) aBS rfl rfl IL rfl HR3 rfl aJF
def FL:aD:=FK.add 105 (aO prog FK 105)
theorem aJK:aE prog FL:=aJH.eJ aU 105
theorem aBT:aI FL:=aBS.st
theorem aJL:j9 FL 104 (gO 105) (dList jG) j6.U:=aJM (E1:=mI) (E2:=FK) aBT rfl rfl pG rfl aJI
def FM:aD:=FL.add 104 (aO prog FL 104)
theorem aJN:aE prog FM:=aJK.eJ aU 104
theorem aBU:aI FM:=aBT.st
theorem aJO:Reads FM 75 jH Em.div.U:=aJP (E1:=wH) (E2:=CC) (E3:=mI) (E4:=FL) aBU rfl rfl IL rfl HR2 rfl pG rfl aJL
def FN:aD:=FM.add 75 (aO prog FM 75)
theorem aJQ:aE prog FN:=aJN.eJ aU 75
theorem aBV:aI FN:=aBU.st
theorem aJR:j9 FN 74 (gO 75) (dList jH) n9.U:=aJS (E1:=mI) (E2:=FM) aBV rfl rfl pG rfl aJO
def FO:aD:=FN.add 74 (aO prog FN 74)
theorem aJT:aE prog FO:=aJQ.eJ aU 74
theorem aBW:aI FO:=aBV.st
theorem aJU:Reads FO 77 jI Em.aP.U:=aJV (E1:=wH) (E2:=mI) (E3:=CC) aBW rfl rfl IL rfl pG rfl HR2
def FP:aD:=FO.add 77 (aO prog FO 77)
theorem aJW:aE prog FP:=aJT.eJ aU 77
theorem aBX:aI FP:=aBW.st
theorem aJX:j9 FP 76 (gO 77) (dList jI) lA.U:=aJY (E1:=mI) (E2:=FO) aBX rfl rfl pG rfl aJU
def CF:aD:=FP.add 76 (aO prog FP 76)
theorem aJZ:aE prog CF:=aJW.eJ aU 76
theorem aBY:aI CF:=aBX.st
theorem aBZ:Reads CF 34 iG Em.aT.U:=aJ0 (E1:=wH) (E2:=FF) (E3:=FN) (E4:=FP) aBY rfl rfl IL rfl HR6 rfl aJR rfl aJX
def FQ:aD:=CF.add 34 (aO prog CF 34)
theorem aJ1:aE prog FQ:=aJZ.eJ aU 34
theorem aB0:aI FQ:=aBY.st
theorem aJ2:Reads FQ 35 IM PD.bool:=aJ3 aB0 rfl
def S8:aD:=FQ.add 35 (aO prog FQ 35)
theorem aJ4:aE prog S8:=aJ1.eJ aU 35
theorem aB1:aI S8:=aB0.st
def S9:aD:=S8.add 9 (fW wI)
theorem aJ5:aE prog S9:=aJ4.NM aU fun args p hg=>by
 obtain⟨l,z,rfl,rfl,h1,hk,h2⟩:=aJ6 hg
 exact aJ7 (E0:=CF) (E1:=FQ) aB1 rfl rfl rfl rfl aBZ aJ2 l z h2 h1 hk
theorem aB2:aI S9:=aI.fW aB1
def NN:aD:=S9.add 28 (fV 5 uS)
theorem aB3:aE prog NN:=aJ5.R6 aU fun args bs hg=>by
 obtain⟨n,rfl,rfl⟩:=aA8 hg
 exact⟨aJ8 aB2 rfl n,rfl⟩
theorem TA:aI NN:=aB2.by aIc
def TB:aD:=NN.add 65 wG
theorem aJ9:aE prog TB:=aB3.aIa TA rfl rfl
theorem aB4:aI TB:=TA.entry
def TC:aD:=TB.add 66 CG
theorem aKa:aE prog TC:=aJ9.zL aU fun b z hz=>by
 cases hz
 exact(aKb aB4 rfl rfl b).free
theorem aB5:aI TC:=aB4.entry
def TD:aD:=TC.add 27 zN
theorem aKc:aE prog TD:=aKa.zL aU fun s z hz=>by
 obtain⟨h,e⟩:=fL hz
 cases e
 exact(aB6 aB5 rfl rfl s h).free
theorem aB7:aI TD:=aB5.entry
def TF:aD:=TD.add 90 xW
theorem aKd:aE prog TF:=aKe aKc aU aB7 rfl
theorem aB8:aI TF:=aB7.other aIi
def TG:aD:=TF.add 58 (fV 5 rC)
theorem aKf:aE prog TG:=aKd.aIg aB8 rfl rfl
theorem aB9:aI TG:=aB8.by aIe
def TH:aD:=TG.add 29 NO
theorem aKg:aE prog TH:=aKf.zL aU fun s z hz=>by
 obtain⟨h,e⟩:=fL hz
 cases e
 exact(aKh aB9 rfl rfl rfl rfl rfl s (by simp only[eT,aZ,yAa]at h;omega) (by simp only[eT,aZ,yAa]at h;omega) (by simp only[eT,aZ,yAa,uT,wJ]at h;omega)).free
theorem aCa:aI TH:=aB9.entry
def TI:aD:=TH.add 31 NP
theorem aKi:aE prog TI:=aKg.zL aU fun s z hz=>by
 obtain⟨h,e⟩:=fL hz
 cases e
 exact(aKj aCa rfl rfl rfl rfl rfl s (by simp only[fI,aZ,yAa]at h;omega)).free
theorem aCb:aI TI:=aCa.entry
def TJ:aD:=TI.add 67 NQ
theorem aKk:aE prog TJ:=aKi.zL aU fun s z hz=>by
 obtain⟨h,e⟩:=fL hz
 cases e
 exact(aKl aCb rfl rfl rfl rfl s (by simp only[fE,aZ,yAa]at h;omega) (by omega)).free
theorem aCc:aI TJ:=aCb.entry
def TK:aD:=TJ.add 30 NR
theorem aKm:aE prog TK:=aKk.zL aU fun s z hz=>by
 obtain⟨h,e⟩:=fL hz
 cases e
 exact(aKn aCc rfl rfl rfl rfl rfl rfl s h).free
theorem aKo:aI TK:=aCc.entry
theorem aKp:aE prog (NN.add 27 (fV 5 zM)):=aB3.R6 aU fun args bs hg=>by
 obtain⟨s,rfl,rfl,hl⟩:=aA9 hg
 exact⟨aB6 TA rfl rfl s hl,rfl⟩
def TL:aD:=TK.add 27 (fV 5 zM)
theorem aKq:aE prog TL:=aE.pick aKp aKm (if_pos rfl)
theorem aCd:aI TL:=aKo.by aId
def TM:aD:=TL.add 7 IN
theorem aKr:aE prog TM:=aKq.zL aU fun o z hz=>by
 obtain⟨h,e⟩:=fL hz
 cases e
 exact(aKs aCd rfl rfl rfl rfl rfl rfl o h).free
theorem aCe:aI TM:=aCd.entry
def TN:aD:=TM.add 88 (fW tU)
theorem aKt:aE prog TN:=aKr.NM aU fun args p hg=>by
 obtain⟨l,z,rfl,rfl,h1,h2⟩:=aCf hg
 exact aKu aCe rfl l z h2 h1
theorem aCg:aI TN:=aI.fW aCe
def mJ:aD:=TN.add 53 NS
theorem aKv:aE prog mJ:=aKt.aAZ aU fun k l z hz=>by
 obtain⟨h,e⟩:=fL hz
 cases e
 exact(aKw aCg rfl rfl k h.1 l (sz 1 l) (by cases l<;>simp[sz]) h.2).free
theorem aCh:aI mJ:=aCg.entry
theorem pH:∀n,cI mJ 92 (fun id=>[.ptr id 0,.int .i64 n]) (b8 n):=fun v=>aKx aCh rfl v
def wK:aD:=mJ.add 92 (aO prog mJ 92)
theorem aKy:aE prog wK:=aKv.eJ aU 92
theorem aCi:aI wK:=aCh.st
theorem IP:∀s,cI wK 93 (fun id=>[.ptr id 0,.str s]) (aZ s):=fun v=>aKz (E1:=mJ) aCi rfl rfl pH v
def CH:aD:=wK.add 93 (aO prog wK 93)
theorem aKA:aE prog CH:=aKy.eJ aU 93
theorem aCj:aI CH:=aCi.st
theorem HX2:∀b,cI CH 132 (fun id=>[.ptr id 0,.bool b]) (eW b):=fun v=>aKB (E1:=mJ) aCj rfl rfl pH v
def CI:aD:=CH.add 132 (aO prog CH 132)
theorem aKC:aE prog CI:=aKA.eJ aU 132
theorem aCk:aI CI:=aCj.st
theorem HX3:∀x:Int×Int,cI CI 130 (fun id=>[.ptr id 0,.agg [.int .i64 x.1,.int .i64 x.2]]) (pI x):=fun v=>aKD (E1:=mJ) aCk rfl rfl pH v
def FT:aD:=CI.add 130 (aO prog CI 130)
theorem aKE:aE prog FT:=aKC.eJ aU 130
theorem aCl:aI FT:=aCk.st
theorem HX4:∀l:List Int,cI FT 131 (fun id=>[.ptr id 0,.slice (sz 1 l) (l.map i64.U) .any,.dA 92 [.ptr id 0]]) (eList b8 l):=fun v=>aKF (E1:=mJ) (E2:=mJ) aCl rfl rfl pH rfl pH v
def FU:aD:=FT.add 131 (aO prog FT 131)
theorem aKG:aE prog FU:=aKE.eJ aU 131
theorem aCm:aI FU:=aCl.st
theorem HX5:∀x:bM,cI FU 94 (fun id=>[.ptr id 0,Em.aR.U x]) (eT x):=fun v=>aKH (E1:=wK) (E2:=CI) (E3:=mJ) (E4:=FT) aCm rfl rfl IP rfl HX3 rfl pH rfl HX4 v
def FV:aD:=FU.add 94 (aO prog FU 94)
theorem aKI:aE prog FV:=aKG.eJ aU 94
theorem aCn:aI FV:=aCm.st
theorem HX6:∀l:List bM,cI FV 112 (fun id=>[.ptr id 0,.slice (sz 6 l) (l.map Em.aR.U) .any,.dA 94 [.ptr id 0]]) (eList eT l):=fun v=>aKJ (E1:=mJ) (E2:=FU) aCn rfl rfl pH rfl HX5 v
def FW:aD:=FV.add 112 (aO prog FV 112)
theorem aKK:aE prog FW:=aKI.eJ aU 112
theorem aCo:aI FW:=aCn.st
theorem HX7:∀x:fA,qG FW 137 (fun id bw=>[Em.draw.U x,.ptr bw 0]) (jJ x):=fun v=>aKL (E1:=mJ) aCo rfl rfl pH v
def FX:aD:=FW.add 137 (aO prog FW 137)
theorem aKM:aE prog FX:=aKK.eJ aU 137
theorem aCp:aI FX:=aCo.st
theorem HX8:∀l:List fA,qG FX 136 (fun id bw=>[.ptr id 0,.slice (sz 2 l) (l.map Em.draw.U) .any,.func 137 [.ptr bw 0]]) (eList jJ l):=fun v=>aKN (E1:=mJ) (E2:=FW) aCp rfl rfl pH rfl HX7 v
def FY:aD:=FX.add 136 (aO prog FX 136)
theorem aKO:aE prog FY:=aKM.eJ aU 136
theorem aCq:aI FY:=aCp.st
theorem HX9:∀x:fY,qG FY 135 (fun id bw=>[Em.bL.U x,.ptr bw 0]) (iT x):=fun v=>aKP (E1:=mJ) (E2:=FX) aCq rfl rfl pH rfl HX8 v
def FZ:aD:=FY.add 135 (aO prog FY 135)
theorem aKQ:aE prog FZ:=aKO.eJ aU 135
theorem aCr:aI FZ:=aCq.st
theorem aKR:∀l:List fY,qG FZ 134 (fun id bw=>[.ptr id 0,.slice (sz 3 l) (l.map Em.bL.U) .any,.func 135 [.ptr bw 0]]) (eList iT l):=fun v=>aKS (E1:=mJ) (E2:=FY) aCr rfl rfl pH rfl HX9 v
def F0:aD:=FZ.add 134 (aO prog FZ 134)
theorem aKT:aE prog F0:=aKQ.eJ aU 134
theorem aCs:aI F0:=aCr.st
theorem aKU:∀x:dG,cI F0 96 (fun id=>[.ptr id 0,Em.stop.U x]) (fE x):=fun v=>aKV (E1:=wK) (E2:=CI) (E3:=FZ) aCs rfl rfl IP rfl HX3 rfl aKR v
def F3:aD:=F0.add 96 (aO prog F0 96)
theorem aKW:aE prog F3:=aKT.eJ aU 96
theorem aCt:aI F3:=aCs.st
theorem aKX:∀l:List dG,cI F3 133 (fun id=>[.ptr id 0,.slice (sz 4 l) (l.map Em.stop.U) .any,.dA 96 [.ptr id 0]]) (eList fE l):=fun v=>aKY (E1:=mJ) (E2:=F0) aCt rfl rfl pH rfl aKU v
def F4:aD:=F3.add 133 (aO prog F3 133)
theorem aKZ:aE prog F4:=aKW.eJ aU 133
theorem aCu:aI F4:=aCt.st
theorem aK0:∀x:cU,cI F4 95 (fun id=>[.ptr id 0,Em.div.U x]) (eX x):=fun v=>aK1 (E1:=wK) (E2:=CH) (E3:=mJ) (E4:=F3) aCu rfl rfl IP rfl HX2 rfl pH rfl aKX v
def F5:aD:=F4.add 95 (aO prog F4 95)
theorem aK2:aE prog F5:=aKZ.eJ aU 95
theorem aCv:aI F5:=aCu.st
theorem aK3:∀l:List cU,cI F5 113 (fun id=>[.ptr id 0,.slice (sz 5 l) (l.map Em.div.U) .any,.dA 95 [.ptr id 0]]) (eList eX l):=fun v=>aK4 (E1:=mJ) (E2:=F4) aCv rfl rfl pH rfl aK0 v
def F6:aD:=F5.add 113 (aO prog F5 113)
theorem aK5:aE prog F6:=aK2.eJ aU 113
theorem aCw:aI F6:=aCv.st
theorem aK6:∀x:cF,cI F6 97 (fun id=>[.ptr id 0,Em.aP.U x]) (fI x):=fun v=>aK7 (E1:=wK) (E2:=mJ) (E3:=CH) aCw rfl rfl IP rfl pH rfl HX2 v
def F7:aD:=F6.add 97 (aO prog F6 97)
theorem aK8:aE prog F7:=aK5.eJ aU 97
theorem aCx:aI F7:=aCw.st
theorem aK9:∀l:List cF,cI F7 114 (fun id=>[.ptr id 0,.slice (sz 5 l) (l.map Em.aP.U) .any,.dA 97 [.ptr id 0]]) (eList fI l):=fun v=>aLa (E1:=mJ) (E2:=F6) aCx rfl rfl pH rfl aK6 v
def F8:aD:=F7.add 114 (aO prog F7 114)
theorem aLb:aE prog F8:=aK8.eJ aU 114
theorem aCy:aI F8:=aCx.st
theorem aLc:∀x:bY,cI F8 86 (fun id=>[.ptr id 0,Em.aT.U x]) (aW x):=fun v=>aLd (E1:=wK) (E2:=FV) (E3:=F5) (E4:=F7) aCy rfl rfl IP rfl HX6 rfl aK3 rfl aK9 v
def TO:aD:=F8.add 86 (aO prog F8 86)
theorem aLe:aE prog TO:=aLb.eJ aU 86
theorem aCz:aI TO:=aCy.st
def TP:aD:=TO.add 51 CJ
theorem aLf:aE prog TP:=aLe.nR aU fun o z hz=>by
 obtain⟨h,e⟩:=fL hz
 cases e
 exact aLg (E1:=F8) aCz rfl rfl aLc o h
theorem aCA:aI TP:=aCz.entry
def TQ:aD:=TP.add 115 zO
theorem aLh:aE prog TQ:=aLf.add aU fun fl args σ p σ2 h=>by
 obtain⟨rfl,q,n,rfl,hn,hp⟩:=aCB h
 exact aLi aCA rfl q p n hn σ σ2 hp
theorem aCC:aI TQ:=aCA.other aLj
def TR:aD:=TQ.add 20 (fW tU)
theorem aLk:aE prog TR:=aLh.NM aU fun args p hg=>by
 obtain⟨l,z,rfl,rfl,h1,h2⟩:=aCf hg
 exact aLl aCC rfl l z h2 h1
theorem aCD:aI TR:=aI.fW aCC
def TS:aD:=TR.add 87 (fV 5 xX)
theorem aLm:aE prog TS:=aLk.aBb aU fun args bs hs hg=>by
 obtain⟨k,l,z,rfl,rfl,hk,hl,hz⟩:=aCE hg
 exact⟨aLn aCD rfl rfl rfl k hk l z hz hl,by
  rcases hz with rfl|rfl
  ·rfl
  ·show(PD.aY (.int .i64 k)&&(PD.aY (.slice 1 (aG l) .any)&&true))=true
   rw[F9]
   rfl⟩
theorem aCF:aI TS:=aCD.by aLo
def IQ:aD:=TS.add 63 CL
theorem aLp:aE prog IQ:=aLm.nR aU fun o z hz=>by
 obtain⟨h,e⟩:=fL hz
 cases e
 exact aLq (E1:=CF) aCF rfl rfl rfl aBZ o h.1 h.2
theorem aCG:aI IQ:=aCF.entry
def IS:aD:=IQ.add 52 (aO prog IQ 52)
theorem aLr:aE prog IS:=aLp.eJ aU 52
theorem aCH:aI IS:=aCG.st
def TT:aD:=IS.add 15 (aO prog IS 15)
theorem aLs:aE prog TT:=aLr.eJ aU 15
theorem aCI:aI TT:=aCH.st
def TU:aD:=TT.add 14 NT
theorem aLt:aE prog TU:=aLs.nR aU fun o z hz=>by
 obtain⟨h,e⟩:=fL hz
 cases e
 exact aLu aCI rfl rfl rfl o h.1 h.2
theorem aLv:aI TU:=aCI.entry
def IT:aD:=TU.add 89 zP
theorem aLw:aE prog IT:=aLx aLt
theorem aCJ:aI IT:=aLy aLv
def IU:aD:=IT.add 25 (lI prog IT 25)
theorem aLz:aE prog IU:=aLw.CM aU 25
theorem aCK:aI IU:=aCJ.eg
def IV:aD:=IU.add 55 (lI prog IU 55)
theorem aLA:aE prog IV:=aLz.CM aU 55
theorem aCL:aI IV:=aCK.eg
def IW:aD:=IV.add 59 (lI prog IV 59)
theorem aLB:aE prog IW:=aLA.CM aU 59
theorem aCM:aI IW:=aCL.eg
def GA:aD:=IW.add 26 (lI prog IW 26)
theorem aLC:aE prog GA:=aLB.CM aU 26
theorem TV:aI GA:=aCM.eg
def IX:aD:=GA.add 18 (lI prog GA 18)
theorem aLD:aE prog IX:=aLC.CM aU 18
theorem TW:aI IX:=TV.eg
def TX:aD:=IX.add 57 (lI prog IX 57)
theorem aLE:aE prog TX:=aLD.CM aU 57
theorem aCN:aI TX:=TW.eg
def TY:aD:=TX.add 54 (mB eD wV)
theorem aLF:aE prog TY:=aLE.DZ aU fun x y hx hy=>aLG aCN rfl x y hx hy
theorem aCO:aI TY:=aCN.entry
def TZ:aD:=TY.add 42 (mB iE GZ)
theorem aLH:aE prog TZ:=aLF.DZ aU fun x y hx hy=>aLI aCO rfl x y hx hy
theorem aCP:aI TZ:=aCO.entry
def T1:aD:=TZ.add 50 (mB lA G0)
theorem aLJ:aE prog T1:=aLH.DZ aU fun x y hx hy=>aLK aCP rfl x y hx hy
theorem aCQ:aI T1:=aCP.entry
def T2:aD:=T1.add 48 (mB Em.aR s9)
theorem aLL:aE prog T2:=aLJ.DZ aU fun x y hx hy=>aLM aCQ rfl rfl x y hx hy
theorem aCR:aI T2:=aCQ.entry
def T3:aD:=T2.add 47 (A4 aX KY 48)
theorem aLN:aE prog T3:=aLL.X4 aU fun x y hx hy=>aLO aCR rfl rfl x y hx hy
theorem aCS:aI T3:=aCR.entry
def T4:aD:=T3.add 41 (mB Em.bL yL)
theorem aLP:aE prog T4:=aLN.DZ aU fun x y hx hy=>aLQ aCS rfl rfl x y hx hy
theorem aCT:aI T4:=aCS.entry
def IY:aD:=T4.add 44 (A4 jA KZ 41)
theorem aLR:aE prog IY:=aLP.X4 aU fun x y hx hy=>aLS aCT rfl rfl x y hx hy
theorem aCU:aI IY:=aCT.entry
def IZ:aD:=IY.add 43 (aO prog IY 43)
theorem aLT:aE prog IZ:=aLR.eJ aU 43
theorem aCV:aI IZ:=aCU.st
def I0:aD:=IZ.add 46 (aO prog IZ 46)
theorem aLU:aE prog I0:=aLT.eJ aU 46
theorem aCW:aI I0:=aCV.st
def I1:aD:=I0.add 45 (aO prog I0 45)
theorem aLV:aE prog I1:=aLU.eJ aU 45
theorem aCX:aI I1:=aCW.st
def T5:aD:=I1.add 49 (aO prog I1 49)
theorem aLW:aE prog T5:=aLV.eJ aU 49
theorem aCY:aI T5:=aCX.st
def HE2:=aLX aCU rfl rfl
def HFS:=aLY (E1:=IY) aCV rfl rfl HE2
def HE3:=aLZ (E1:=IZ) aCW rfl rfl HFS
def HFD:=aL0 (E1:=I0) aCX rfl rfl HE3
def I2:aD:=T5.add 12 (mB Em.aT nP)
theorem aL1:aE prog I2:=aLW.DZ aU fun x y hx hy=>aL2 (E1:=I1) aCY rfl rfl rfl HFD rfl x y hx hy
theorem aCZ:aI I2:=aCY.entry
def I3:aD:=I2.add 16 (aO prog I2 16)
theorem aL3:aE prog I3:=aL1.eJ aU 16
theorem aC0:aI I3:=aCZ.st
def T6:aD:=I3.add 56 (lI prog I3 56)
theorem aL4:aE prog T6:=aL3.CM aU 56
theorem aC1:aI T6:=aC0.eg
def I4:aD:=T6.add 11 (fW sC)
theorem aL5:aE prog I4:=aL4.NM aU fun args p hg=>by
 obtain⟨l,z,rfl,rfl,h1,h2⟩:=aIj hg
 exact aL6 aC1 rfl l h1 z h2
theorem aC2:aI I4:=aI.fW aC1
def I5:aD:=I4.add 17 (aO prog I4 17)
theorem aL7:aE prog I5:=aL5.eJ aU 17
theorem T7:aI I5:=aC2.st
def T8:aD:=I5.add 13 (NU I5)
theorem aL8:aE prog T8:=aL7.aAZ aU fun o x z hz=>by
 obtain⟨h,e⟩:=fL hz
 cases e
 exact(aC3 (aC4 T7 rfl o x h.1 h.2.1 h.2.2.1 h.2.2.2.1 h.2.2.2.2.1 h.2.2.2.2.2.1 h.2.2.2.2.2.2.1 h.2.2.2.2.2.2.2)).2
theorem aL9:aI T8:=T7.entry
def T9:aD:=T8.add 5 UA
theorem aFj:aE prog T9:=aE.pick aMa aL8 (if_pos rfl)
theorem aMb:aI T9:=aL9.entry
def aMc:=fun o hok ho τ iV=>aMd (E1:=IQ) aCH rfl rfl rfl aCG rfl rfl rfl rfl o hok ho τ iV
def HMb:=fun o hl τ=>aMe aCZ rfl rfl rfl o hl τ
def aMf(fl:Nat){τ:List aB}{k j v:Nat}{J:List UInt8}{zK:Nat}{K:List Int}{tK:Tok}{O:List bY}{tO:Tok}{pP pQ:PD}(hb:rD τ k (.aF j v 0 J.length 1) zK K tK O tO pP pQ)(hJ:τ[j]?=some (.row 5 1 v (aG J)))(hn:J≠[])(hl:J.length<=1000000000):=aMg (E1:=GA) TW rfl rfl TV rfl fl hb hJ hn hl
def HSm:=fun o hok hoO hlen τ km ks {tO tN:Tok} hm hs=>aMh (E1:=IT) (E2:=IU) (E3:=IW) (E4:=IV) (E5:=I3) (E6:=IX) aC2 rfl rfl aCJ rfl rfl aCK rfl rfl rfl rfl aCM rfl rfl rfl aCL rfl rfl aC0 rfl rfl rfl TW rfl aMf rfl rfl o hok hoO hlen τ km ks (tO:=tO) (tN:=tN) hm hs
theorem aFi(p:oJ)(hp:yJ p)(x:oZ)(hx:wT x)(at_:Int)(ha:0<=at_/\at_<=65535):aS prog T9 4 [Em.qN.U p,Em.oK.U x,.int .u16 at_] (Em.bool.U true):=
 aMi (E0:=I5) (E1:=IS) (E2:=I2) (E3:=I4) (E4:=GA) aMb T7 rfl rfl rfl rfl rfl rfl rfl rfl rfl aMc rfl rfl rfl HMb rfl (fun o hok hoO hlen τ km ks _ _ hm hs=>HSm o hok hoO hlen τ km ks hm hs) rfl rfl TV rfl rfl p hp x hx at_ ha
end Go.Kz
namespace Go.Proofs.YtefkonhamghgfaaGreatDoor
open Go Go.Kz Go.ChangeShapes Go.WideShapes Go.ChangeAt Go.WideMaps Go.WideElems Go.RowKit
set_option maxRecDepth 100000
theorem lifted_StoreEncodes(os:Os)(started:os.Started)(H:Type)(enc:TypeId×Value->H) :
  ReturnsInHanded {} Tryz.checked os 4 .any (fun w args=>(Rows.storeEncodesSpec.pre enc prog Tryz.f4 [] false w args/\laidMetH prog DQ w)/\sizedMet enc prog Tryz.f4 (OpenSpec.ofChange Rows.storeEncodesSpec) false w args)
   (Rows.storeEncodesSpec.post enc prog Tryz.f4 false true false false):=by
 refine aFd (C:=Tryz.checked) (X:=fun w _=>laidMetH prog DQ w) (fun _ _ _ hh h=>h.of_heap hh) own started (by kernel_rfl) func4
  (ChangeSpec.witness_shaped (enc:=enc) (C:=Tryz.checked) (os:=os) (X:=fun w _=>laidMetH prog DQ w) false (XM os) #[.agg #[.slice none 0 0,.slice none 0 0,.slice none 0 0],.agg #[.int .u8 0,.int .u8 0],.int .u16 0] 12 rfl (World.shaped_of_RefB (by kernel_rfl) (by kernel_rfl)) (by kernel_rfl) (by kernel_rfl) (by kernel_rfl) (aFe os _)) ?_
 intro W base args ds gs before hsh hval hW _ _ hL _
 have hval:∀(j:Nat) t v,Tryz.f4.params[j]?=some t->args[j]?=some v->Value.okWide prog W .any base t v:=hval
 have KV:=hW
 obtain⟨p,q,hA,_,_,_,_⟩:=hW
 have hA:DataW.TrodAll enc prog W 0 (fun _=>true) true Tryz.f4.params.toList args.toList ds p:=hA
 rw[Tryz.params4]at hA hval
 obtain⟨v1,v2,v3,d1,d2,d3,p1,p2,p3,rfl,_,_,h1,h2,h3⟩:=trodAll_three hA
 obtain⟨q1,t1,r1⟩:=PB (n:=12) (t:=26) (v:=v1) (by kernel_rfl) (hval 0 _ _ rfl rfl) h1
 obtain⟨p1',e1,ok1⟩:=aFf t1
 rw[e1]at r1
 obtain⟨q2,t2,r2⟩:=PB (n:=12) (t:=46) (v:=v2) (by kernel_rfl) (hval 1 _ _ rfl rfl) h2
 obtain⟨s1,e2,ok2⟩:=aFg t2
 rw[e2]at r2
 obtain⟨q3,t3,r3⟩:=PB (n:=12) (t:=27) (v:=v3) (by kernel_rfl) (hval 2 _ _ rfl rfl) h3
 obtain⟨a1,e3,ok3⟩:=aFh t3
 rw[e3]at r3
 have run:=aFi p1' ok1 s1 ok2 a1 ok3
 refine(aS.calls aFj aU names run (jZ hsh hL) (PC r1 (PC r2 (PC r3 aFk)))).mono fun e' W' ⟨he,hb⟩=>?_
 subst he
 exact⟨_,rfl,aFl laidOut rfl KV hb rfl underlying4 (by kernel_rfl) (fun ds hg hd=>by
  subst hg
  match ds,hd with
  | [d1,d2,d3],_=>rfl)⟩
theorem storeEncodes_holds:Rows.StoreEncodesSaid:=
 OpenClaim.holds_of_wide 4 Tryz.f4 rfl rfl rfl rfl rfl rfl rfl ⟨rfl,rfl,rfl,rfl,rfl⟩ rfl rfl rfl rfl rfl (by kernel_rfl) func4 (by kernel_rfl)
  (of_decide_eq_true (by kernel_rfl)) (by unfold Func.isWrapper;first|(rw[if_pos (by decide +kernel)];kernel_rfl)|(rw[if_neg (by decide +kernel)];exact⟨rfl,rfl⟩))
  (fun os started H enc _=>lifted_StoreEncodes os started H enc)
theorem storeEncodes_card:Rows.StoreEncodesCardSaid:=
 Claim7.holds_tied_plain_at .later [] [.data,.data,.data] true (true,"06518084b796e290cff189155ad7057fb400f94426e64236ea98ba44b61cfdba") false
  storeEncodes_holds (fun _ h=>by cases h) (by kernel_rfl) (fun _ h=>by cases h) storeEncodes_row_tie rfl ⟨rfl,rfl⟩ (by kernel_rfl) rfl
  (fun f fn hf hfn=>by
   obtain rfl:f=4:=Option.some.inj ((show prog.funcNamed "bombarde/bombardelaw53.StoreEncodes" = some 4 by kernel_rfl).symm.trans hf) |>.symm
   obtain rfl:fn=Tryz.f4:=(Option.some.inj (func4.symm.trans hfn)).symm
   exact⟨by kernel_rfl,fun j t ht=>by
    rw[Tryz.params4]at ht
    have hm:=Array.mem_of_getElem? ht
    have hall:(#[26,46,27].all fun u=>!prog.wantsStandIn u)=true:=by kernel_rfl
    have:=Array.all_eq_true_iff_forall_mem.1 hall t hm
    exact(show prog.wantsStandIn t=false by simpa using this)⟩)
  (by kernel_rfl)
end Go.Proofs.YtefkonhamghgfaaGreatDoor
end
