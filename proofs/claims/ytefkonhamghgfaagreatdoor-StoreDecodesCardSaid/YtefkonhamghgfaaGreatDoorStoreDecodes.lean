/-
  StoreDecodes holds: the law answers true, whatever it is handed.
-/
import Derived.Test.YtefkonhamghgfaaGreatDoorP5
import Derived.Test.YtefkonhamghgfaaGreatDoorP3
import Derived.Test.YtefkonhamghgfaaGreatDoorP4
import Derived.Test.YtefkonhamghgfaaGreatDoorCards
import Derived.Test.YtefkonhamghgfaaGreatDoorTie
import Derived.SevenTiedAt
import Derived.Test.YtefkonhamghgfaaGreatDoorD2
import Derived.Test.YtefkonhamghgfaaGreatDoorP7
import Derived.Test.YtefkonhamghgfaaGreatDoorF5
import Derived.Test.YtefkonhamghgfaaGreatDoorK5
import Derived.Test.YtefkonhamghgfaaGreatDoorD3
import Derived.Test.YtefkonhamghgfaaGreatDoorD4
set_option linter.all false

namespace Go.Proofs.YtefkonhamghgfaaGreatDoor
open Go Go.Kz Go.ChangeShapes Go.WideShapes Go.ChangeAt Go.WideMaps Go.WideElems Go.RowKit
set_option maxRecDepth 100000
theorem own:ownKnob Tryz.prog.godebug=none:=by kernel_rfl
theorem laidOut:laidOutB Tryz.prog=true:=by kernel_rfl
abbrev laidL:List (String×DataW Unit):=[("math/bits.deBruijn32tab",Rows.laid_math_bits_deBruijn32tab),("math/bits.deBruijn64tab",Rows.laid_math_bits_deBruijn64tab),("internal/strconv.uint64pow10",Rows.laid_internal_strconv_uint64pow10)]
theorem laidL_plain:(laidL.all fun x=>x.2.handleName?.isNone)=true:=by decide +kernel
def tabOf (g:Nat):List Int:=match gtab g with | some (_,xs)=>xs | none=>[]
theorem gtab1:gtab 1=some (.u64,tabOf 1):=rfl
theorem gtab2:gtab 2=some (.u8,tabOf 2):=rfl
theorem gtab3:gtab 3=some (.u8,tabOf 3):=rfl
theorem gtab_ne {g:Nat} (h0:g≠1) (h2:g≠2) (h3:g≠3):gtab g=none:=by unfold gtab;rw [if_neg h0,if_neg h2,if_neg h3]
theorem gint_ne {g:Nat} (h:g≠0):gint g=none:=by unfold gint;rw [if_neg h]
theorem ghold_tab {g:Nat} {k:IntKind} {xs:List Int} (h:gtab g=some (k,xs)) (hi:gint g=none):ghold g (xs.map (Value.int k)).toArray:=by
 refine ⟨fun k' zs hk=>?_,fun k' hk=>?_⟩
 ·rw [h] at hk
  simp only [Option.some.injEq,Prod.mk.injEq] at hk
  obtain ⟨rfl,rfl⟩:=hk
  rfl
 ·rw [hi] at hk
  cases hk
theorem glob {W:World} (hs:W.ShapedOpen Tryz.prog) (h:laidMetH Tryz.prog laidL W):Gl (.start W):=by
 rw [MakeChecks.laidMetH_plain _ _ _ laidL_plain] at h
 obtain ⟨ps,hv,_,_⟩:=h
 obtain ⟨Ta,fa,ha⟩:=held_of_laid (P:=Tryz.prog) (nm:= "internal/strconv.uint64pow10") (k:=.u64) (xs:=tabOf 1) (g:=1) (n:=20) hv (List.Mem.tail _ (List.Mem.tail _ (List.Mem.head _))) (by kernel_rfl) (t:=306) (by kernel_rfl) Tryz.underlying306 Tryz.underlying148 (by kernel_rfl) (by kernel_rfl)
 obtain ⟨Tb,fb,hb⟩:=held_of_laid (P:=Tryz.prog) (nm:= "math/bits.deBruijn32tab") (k:=.u8) (xs:=tabOf 2) (g:=2) (n:=32) hv (List.Mem.head _) (by kernel_rfl) (t:=310) (by kernel_rfl) Tryz.underlying310 Tryz.underlying5 (by kernel_rfl) (by kernel_rfl)
 obtain ⟨Tc,fc,hc⟩:=held_of_laid (P:=Tryz.prog) (nm:= "math/bits.deBruijn64tab") (k:=.u8) (xs:=tabOf 3) (g:=3) (n:=64) hv (List.Mem.tail _ (List.Mem.head _)) (by kernel_rfl) (t:=311) (by kernel_rfl) Tryz.underlying311 Tryz.underlying5 (by kernel_rfl) (by kernel_rfl)
 obtain ⟨m,T0,fz0,h0⟩:=int_of_shaped (g:=0) (t:=3) (k:=.i64) (zero:=#[.int .i64 0]) hs (by decide +kernel) (by kernel_rfl) rfl (by kernel_rfl) (by kernel_rfl) Tryz.underlying3
 refine ⟨?_,?_⟩
 ·intro g ds hg
  by_cases e0:g=1
  ·subst e0
   simp only [gcells,gtab1,Option.some.injEq] at hg
   subst hg
   exact eptr_of_held ha
  by_cases e2:g=2
  ·subst e2
   simp only [gcells,gtab2,Option.some.injEq] at hg
   subst hg
   exact eptr_of_held hb
  by_cases e3:g=3
  ·subst e3
   simp only [gcells,gtab3,Option.some.injEq] at hg
   subst hg
   exact eptr_of_held hc
  simp only [gcells,gtab_ne e0 e2 e3] at hg
  cases hg
 ·intro g hg
  refine ⟨?_,fun id hd=>hd.elim⟩
  by_cases e0:g=1
  ·subst e0
   exact ⟨_,Ta,fa,ha,ghold_tab gtab1 (gint_ne (by decide))⟩
  by_cases e2:g=2
  ·subst e2
   exact ⟨_,Tb,fb,hb,ghold_tab gtab2 (gint_ne (by decide))⟩
  by_cases e3:g=3
  ·subst e3
   exact ⟨_,Tc,fc,hc,ghold_tab gtab3 (gint_ne (by decide))⟩
  by_cases e1:g=0
  ·subst e1
   refine ⟨_,T0,fz0,h0,?_,?_⟩
   ·intro k zs hk
    rw [gtab_ne e0 e2 e3] at hk
    cases hk
   ·intro k hk
    have:k=.i64:=by
     have:gint 0=some .i64:=rfl
     rw [this] at hk
     exact (Option.some.inj hk).symm
    subst this
    exact ⟨m,rfl⟩
  unfold gheld at hg
  rw [gtab_ne e0 e2 e3,gint_ne e1] at hg
  cases hg
noncomputable def door (os:Os):World:=World.doorLaid Tryz.prog 400 os
theorem door_met (os:Os) (args:Array Value):laidMetH Tryz.prog laidL ((door os).forCall (fun _ _=>0) ⟨#[],args,[]⟩).memory:=
 laidMetH_of_parts3 (fuel:=8) (laidMet_of_run' 8 (by kernel_rfl) (by kernel_rfl)) (by kernel_rfl) (by kernel_rfl)
theorem named:(Tryz.prog.funcs.toList.all fun fn=>!(fn.name== "runtime.NumGoroutine"))=true:=by kernel_rfl
theorem names (f:FuncId) (fn:Func) (h:Tryz.prog.funcs[f]?=some fn):(fn.name== "runtime.NumGoroutine")=false:=by
 have:=List.all_eq_true.1 named fn (Array.mem_toList_iff.2 (Array.mem_of_getElem? h))
 simpa using this
theorem typed_five {d:Nat} {qs:List PD} (h:Typed Tryz.prog (d+2) 93 qs):∃ ws,qs=ws∧∃ w0 w1 w2 w3 w4:Int,ws=[.int .u8 w0,.int .u8 w1,.int .u8 w2,.int .u8 w3,.int .u8 w4]∧okU8 w0∧okU8 w1∧okU8 w2∧okU8 w3∧okU8 w4:=by
 have hu:=Tryz.underlying93
 unfold Typed at h
 rw [hu] at h
 simp only at h
 obtain ⟨xs,hl,hx,rfl⟩:=h
 match xs,hl,hx with
 | [x0,x1,x2,x3,x4],_,hx=>
   obtain ⟨a,rfl,wa⟩:=typed_int Tryz.underlying5 (hx x0 (by simp))
   obtain ⟨b,rfl,wb⟩:=typed_int Tryz.underlying5 (hx x1 (by simp))
   obtain ⟨c,rfl,wc⟩:=typed_int Tryz.underlying5 (hx x2 (by simp))
   obtain ⟨e,rfl,we⟩:=typed_int Tryz.underlying5 (hx x3 (by simp))
   obtain ⟨f,rfl,wf⟩:=typed_int Tryz.underlying5 (hx x4 (by simp))
   exact ⟨_,rfl,a,b,c,e,f,rfl,wf_u8 wa,wf_u8 wb,wf_u8 wc,wf_u8 we,wf_u8 wf⟩
theorem wf_i8 {z:Int} (hz:(Lit.int .i8 z).wf=true):-128≤z∧z≤127:=by
 simp only [Lit.wf,Bool.and_eq_true,decide_eq_true_eq] at hz
 exact hz
section
variable {d:Nat} {qs:List PD}
theorem ty_rplan (h:Typed Tryz.prog (d+3) 95 qs):∃ x:RPlan,asPD Tryz.prog 95 qs=Em.rplan.emb x∧okRp x:=by
 obtain ⟨q0,r0,rfl,h0,h⟩:=typedF_cons (typed_struct Tryz.underlying95 h)
 obtain ⟨q1,r1,rfl,h1,h⟩:=typedF_cons h
 obtain ⟨q2,r2,rfl,h2,h⟩:=typedF_cons h
 obtain ⟨q3,r3,rfl,h3,h⟩:=typedF_cons h
 obtain ⟨q4,r4,rfl,h4,h⟩:=typedF_cons h
 obtain rfl:=typedF_nil h
 obtain ⟨a,rfl,wa⟩:=typed_int Tryz.underlying5 h0
 obtain ⟨b,rfl,wb⟩:=typed_int Tryz.underlying5 h1
 obtain ⟨c,rfl,wc⟩:=typed_int Tryz.underlying92 h2
 obtain ⟨e,rfl,we⟩:=typed_int Tryz.underlying5 h3
 obtain ⟨ws,rfl,hw⟩:=typed_five h4
 obtain ⟨w0,w1,w2,w3,w4,rfl,k0,k1,k2,k3,k4⟩:=hw
 exact ⟨⟨a,b,c,e,w0,w1,w2,w3,w4⟩,asPD_agg (by kernel_rfl),wf_u8 wa,wf_u8 wb,wf_i8 wc,wf_u8 we,k0,k1,k2,k3,k4⟩
theorem ty_pull (h:Typed Tryz.prog (d+2) 98 qs):∃ x:PullD,asPD Tryz.prog 98 qs=Em.pull.emb x∧okPu x:=by
 obtain ⟨q0,r0,rfl,h0,h⟩:=typedF_cons (typed_struct Tryz.underlying98 h)
 obtain ⟨q1,r1,rfl,h1,h⟩:=typedF_cons h
 obtain ⟨q2,r2,rfl,h2,h⟩:=typedF_cons h
 obtain ⟨q3,r3,rfl,h3,h⟩:=typedF_cons h
 obtain rfl:=typedF_nil h
 obtain ⟨a,rfl,wa⟩:=typed_int Tryz.underlying5 h0
 obtain ⟨b,rfl,wb⟩:=typed_int Tryz.underlying5 h1
 obtain ⟨c,rfl,wc⟩:=typed_int Tryz.underlying5 h2
 obtain ⟨e,rfl,we⟩:=typed_int Tryz.underlying5 h3
 exact ⟨⟨a,b,c,e⟩,asPD_agg (by kernel_rfl),wf_u8 wa,wf_u8 wb,wf_u8 wc,wf_u8 we⟩
theorem ty_board (h:Typed Tryz.prog (d+4) 85 qs):∃ x:BoardD,asPD Tryz.prog 85 qs=Em.board.emb x∧okB x:=by
 obtain ⟨q0,r0,rfl,h0,h⟩:=typedF_cons (typed_struct Tryz.underlying85 h)
 obtain ⟨q1,r1,rfl,h1,h⟩:=typedF_cons h
 obtain ⟨q2,r2,rfl,h2,h⟩:=typedF_cons h
 obtain ⟨q3,r3,rfl,h3,h⟩:=typedF_cons h
 obtain rfl:=typedF_nil h
 obtain ⟨a,rfl,wa⟩:=typed_int Tryz.underlying5 h0
 obtain ⟨b,rfl,wb⟩:=typed_int Tryz.underlying5 h1
 obtain ⟨c,rfl⟩:=typed_bool Tryz.underlying4 h2
 obtain ⟨ys,rfl,_,hy⟩:=typed_list (em:=Em.pull) (R:=okPu) Tryz.underlying83 (k:=4) (by kernel_rfl) (fun x hx=>ty_pull hx) h3
 exact ⟨⟨a,b,c,ys⟩,asPD_agg (by kernel_rfl),wf_u8 wa,wf_u8 wb,hy⟩
theorem ty_link (h:Typed Tryz.prog (d+2) 100 qs):∃ x:LinkD,asPD Tryz.prog 100 qs=Em.link.emb x∧okLk x:=by
 obtain ⟨q0,r0,rfl,h0,h⟩:=typedF_cons (typed_struct Tryz.underlying100 h)
 obtain ⟨q1,r1,rfl,h1,h⟩:=typedF_cons h
 obtain ⟨q2,r2,rfl,h2,h⟩:=typedF_cons h
 obtain ⟨q3,r3,rfl,h3,h⟩:=typedF_cons h
 obtain rfl:=typedF_nil h
 obtain ⟨a,rfl,wa⟩:=typed_int Tryz.underlying5 h0
 obtain ⟨b,rfl,wb⟩:=typed_int Tryz.underlying5 h1
 obtain ⟨c,rfl,wc⟩:=typed_int Tryz.underlying92 h2
 obtain ⟨e,rfl⟩:=typed_bool Tryz.underlying4 h3
 exact ⟨⟨a,b,c,e⟩,asPD_agg (by kernel_rfl),wf_u8 wa,wf_u8 wb,wf_i8 wc⟩
theorem ty_plan (h:Typed Tryz.prog (d+6) 26 qs):∃ x:PlanD,asPD Tryz.prog 26 qs=Em.plan.emb x∧okPl x:=by
 obtain ⟨q0,r0,rfl,h0,h⟩:=typedF_cons (typed_struct Tryz.underlying26 h)
 obtain ⟨q1,r1,rfl,h1,h⟩:=typedF_cons h
 obtain ⟨q2,r2,rfl,h2,h⟩:=typedF_cons h
 obtain rfl:=typedF_nil h
 obtain ⟨xs,rfl,_,hx⟩:=typed_list (em:=Em.rplan) (R:=okRp) Tryz.underlying22 (k:=9) (by kernel_rfl) (fun x hx=>ty_rplan hx) h0
 obtain ⟨ys,rfl,_,hy⟩:=typed_list (em:=Em.board) (R:=okB) Tryz.underlying23 (k:=4) (by kernel_rfl) (fun x hx=>ty_board hx) h1
 obtain ⟨zs,rfl,_,hz⟩:=typed_list (em:=Em.link) (R:=okLk) Tryz.underlying24 (k:=4) (by kernel_rfl) (fun x hx=>ty_link hx) h2
 exact ⟨⟨xs,ys,zs⟩,asPD_agg (by kernel_rfl),hx,hy,hz⟩
theorem ty_u8 (h:Typed Tryz.prog (d+2) 5 qs):∃ n:Int,asPD Tryz.prog 5 qs=.int .u8 n∧okU8 n:=by
 obtain ⟨n,rfl,w⟩:=typed_int Tryz.underlying5 h
 exact ⟨n,rfl,wf_u8 w⟩
theorem ty_u16 (h:Typed Tryz.prog (d+2) 27 qs):∃ n:Int,asPD Tryz.prog 27 qs=.int .u16 n∧0≤n∧n≤65535:=by
 obtain ⟨n,rfl,w⟩:=typed_int Tryz.underlying27 h
 exact ⟨n,rfl,wf_u16 w⟩
end
end Go.Proofs.YtefkonhamghgfaaGreatDoor

namespace Go.Kz
open Go Go.Proofs
set_option maxRecDepth 100000
set_option maxHeartbeats 40000000
theorem noU8_list {α:Type} {em:Em α} (h:∀ x,(em.emb x).noU8=true) (k:Nat) (l:List α):((em.list k).emb l).noU8=true:=by
 show (PD.slice (sz k l) (l.map em.emb) .any).noU8=true
 simp only [PD.noU8,PD.noU8L_all,List.all_map,List.all_eq_true]
 exact fun x _=>h x
theorem noU8_i64s (l:List Int):(i64s.emb l).noU8=true:=noU8_list (fun _=>rfl) 1 l
theorem noU8_organ (o:OrganD):(Em.organ.emb o).noU8=true:=by
 have h1:∀ r:RankD,(Em.rank.emb r).noU8=true:=fun r=>by
  rw [emb_rank]
  simp only [PD.noU8,PD.noU8L,noU8_i64s,Bool.and_true,Bool.true_and]
  rfl
 have h2:∀ r:DrawD,(Em.draw.emb r).noU8=true:=fun r=>rfl
 have h3:∀ r:SegD,(Em.seg.emb r).noU8=true:=fun r=>by
  rw [emb_seg]
  simp only [PD.noU8,PD.noU8L,noU8_list h2 2,Bool.and_true,Bool.true_and]
  rfl
 have h4:∀ r:StopD,(Em.stop.emb r).noU8=true:=fun r=>by
  rw [emb_stop]
  simp only [PD.noU8,PD.noU8L,noU8_list h3 3,Bool.and_true,Bool.true_and]
  rfl
 have h5:∀ r:DivD,(Em.div.emb r).noU8=true:=fun r=>by
  rw [emb_div]
  simp only [PD.noU8,PD.noU8L,noU8_list h4 4,Bool.and_true,Bool.true_and]
  rfl
 have h6:∀ r:CoupD,(Em.coup.emb r).noU8=true:=fun r=>rfl
 rw [emb_organ]
 simp only [PD.noU8,PD.noU8L,noU8_list h1 6,noU8_list h5 5,noU8_list h6 5,Bool.and_true]
noncomputable def gEncW:List PD→Option (List UInt8)
 | [p]=>match Em.organ.dec p with
   | some o=>if (eOrgan o).length≤100000 then some (eOrgan o) else none
   | none=>none
 | _=>none
theorem eOrgan_ne (s:OrganD):eOrgan s≠[]:=fun e=>by
 have:=congrArg List.length e
 simp only [eOrgan,eText,List.length_append,b8_length,List.length_nil] at this
 omega
theorem gEncW_of {o:OrganD} (h:(eOrgan o).length≤100000) {p:PD} (hp:p.strip=Em.organ.emb o) (fl:Nat) (σ:List SObj) :
  gBy 5 gEncW fl [p] σ=some (.rref σ.length 0 0 (eOrgan o).length 1,σ++[.row 5 1 0 (u8s (eOrgan o))]):=by
 have e1:Em.organ.dec (Em.organ.emb o)=some o:=Em.dec_some (Em.organ.str o)
 simp only [gBy,List.map_cons,List.map_nil,hp,gEncW,e1,if_pos h,byRow,if_neg (eOrgan_ne o)]
 rfl
noncomputable def gDecG:List PD→Option PD
 | [.slice z xs .any]=>match pbytes xs with
   | some l=>gif (l.length≤100000∧xs=u8s l∧(l=[]∨z=1)) (some ((Em.organ.tup2 i64).emb (decS l)))
   | none=>none
 | _=>none
noncomputable def gEqBG:List PD→Option PD
 | [.slice z xs .any,q]=>match pbytes xs with
   | some l=>gif (l.length≤1000000∧xs=u8s l∧(l=[]∨z=1)∧q=.slice z xs .any) (some (.bool true))
   | none=>none
 | _=>none
theorem u8s_byt (l:List UInt8):(u8s l).all isByt=true:=by
 unfold u8s
 rw [List.all_map,List.all_eq_true]
 exact fun _ _=>rfl
theorem bread_u8 {σ:List SObj} {id ver:Nat} {l:List UInt8} (h:σ[id]?=some (.row 5 1 ver (u8s l))):bread σ (.rref id ver 0 l.length 1)=.slice 1 (u8s l) .any:=by
 show breadR σ id ver 0 l.length 1=_
 unfold breadR
 rw [h]
 simp only
 rw [if_pos ⟨trivial,trivial,trivial,by simp,u8s_byt l⟩]
 simp [List.take_of_length_le]
theorem idfree_u8 (l:List UInt8):(PD.slice 1 (u8s l) .any).idfree=true:=by
 have h:∀ l:List UInt8,PD.idfreeL (u8s l)=true:=fun l=>by
  induction l with
  | nil=>rfl
  | cons b r ih=>
    show (PD.idfree _&&PD.idfreeL (u8s r))=true
    rw [ih]
    rfl
 simp [PD.idfree,h]
theorem gDecG_of {σ:List SObj} {id ver:Nat} {l:List UInt8} (h:σ[id]?=some (.row 5 1 ver (u8s l))) (hl:l.length≤100000) (fl:Nat) :
  bentry gDecG fl [.rref id ver 0 l.length 1] σ=some (.tup [Em.organ.emb (decS l).1,.int .i64 (decS l).2],σ):=by
 unfold bentry
 simp only [List.map_cons,List.map_nil,bread_u8 h,PD.idfreeL,idfree_u8,Bool.and_self,if_true]
 have e:gDecG [.slice 1 (u8s l) .any]=some ((Em.organ.tup2 i64).emb (decS l)):=by
  unfold gDecG
  simp only [pbytes_u8s]
  rw [gif_pos ⟨hl,trivial,.inr trivial⟩]
 rw [e]
 have hn:(((Em.organ.tup2 i64).emb (decS l)).noU8&&((Em.organ.tup2 i64).emb (decS l)).idfree)=true:=by
  rw [(Em.organ.tup2 i64).fre]
  show (PD.noU8 (.tup [Em.organ.emb (decS l).1,.int .i64 (decS l).2])&&true)=true
  simp only [PD.noU8,PD.noU8L,noU8_organ,Bool.and_true,Bool.true_and]
  rfl
 simp only [hn,if_true]
 rfl
theorem gEqBG_of {σ:List SObj} {id ver id2 ver2:Nat} {l:List UInt8} (h:σ[id]?=some (.row 5 1 ver (u8s l))) (h2:σ[id2]?=some (.row 5 1 ver2 (u8s l))) (hl:l.length≤1000000) (fl:Nat) :
  bentry gEqBG fl [.rref id ver 0 l.length 1,.rref id2 ver2 0 l.length 1] σ=some (.bool true,σ):=by
 unfold bentry
 simp only [List.map_cons,List.map_nil,bread_u8 h,bread_u8 h2,PD.idfreeL,idfree_u8,Bool.and_self,if_true]
 have e:gEqBG [.slice 1 (u8s l) .any,.slice 1 (u8s l) .any]=some (.bool true):=by
  unfold gEqBG
  simp only [pbytes_u8s]
  rw [gif_pos ⟨hl,trivial,.inr trivial,trivial⟩]
 rw [e]
 rfl
def noOrgan:OrganD:=⟨[],[],[],[]⟩
noncomputable def gZeq:Nat→List PD→List SObj→Option (PD×List SObj):=entry (gf2 Em.organ Em.organ Em.bool fun a b=>gif (a=noOrgan∧b=noOrgan) (some true))
theorem gZeq_of (fl:Nat) (σ:List SObj) {p q:PD} (hp:p.strip=Em.organ.emb noOrgan) (hq:q.strip=Em.organ.emb noOrgan):gZeq fl [p,q] σ=some (.bool true,σ):=by
 have e1:Em.organ.dec p=some noOrgan:=Em.dec_some hp
 have e2:Em.organ.dec q=some noOrgan:=Em.dec_some hq
 unfold gZeq entry gf2
 simp only [e1,e2]
 rw [gif_pos ⟨trivial,trivial⟩]
 rfl
noncomputable def gFits:Nat→List PD→List SObj→Option (PD×List SObj):=entry (gf1 Em.plan Em.bool fun p=>some (fitsB p))
theorem gFits_of (p:PlanD) (fl:Nat) (σ:List SObj):gFits fl [Em.plan.emb p] σ=some (.bool (fitsB p),σ):=by
 have e1:=Em.dec_some (Em.plan.str p)
 unfold gFits entry gf1
 simp only [e1]
 rfl
noncomputable def gMake:Nat→List PD→List SObj→Option (PD×List SObj):=entry (gf1 Em.plan Em.organ fun p=>gif (okPl p∧fitsB p=true) (some (organS p)))
theorem gMake_of {p:PlanD} (h:okPl p) (hf:fitsB p=true) (fl:Nat) (σ:List SObj):gMake fl [Em.plan.emb p] σ=some (Em.organ.emb (organS p),σ):=by
 have e1:=Em.dec_some (Em.plan.str p)
 unfold gMake entry gf1
 simp only [e1]
 rw [gif_pos ⟨h,hf⟩]
noncomputable abbrev gKn:Nat→List PD→List SObj→Option (PD×List SObj):=entry (gf0 Em.bool (some true))
theorem gKn_of (fl:Nat) (σ:List SObj):gKn fl [] σ=some (.bool true,σ):=rfl
theorem u8s_set (l:List UInt8) (k:Nat) (b:UInt8):(u8s l).set k (.int .u8 b.toNat)=u8s (l.set k b):=by
 unfold u8s
 rw [List.map_set]
theorem u8_add (a:UInt8) {b:Int} (hb:okU8 b):IntKind.u8.wrap ((a.toNat:Int)+b)=(((a+UInt8.ofNat b.toNat).toNat:Nat):Int):=by
 obtain ⟨k,rfl⟩:∃ k:Nat,b=k:=⟨b.toNat,by have:=hb.1;omega⟩
 have h1:k < 256:=by have:=hb.2;omega
 have h2:(UInt8.ofNat ((k:Int)).toNat).toNat=k:=by
  rw [Int.toNat_natCast,UInt8.toNat_ofNat']
  omega
 rw [UInt8.toNat_add,h2]
 show ((a.toNat:Int)+k)%256=_
 omega
theorem byte_size:psize Tryz.prog 5=some 1:=by kernel_rfl
theorem byte_ix {id ver n j:Nat} (h:j < n):pindexAddr Tryz.prog 30 (.rref id ver 0 n 1) (.int .i64 (j:Int))=some (.rptr id ver j):=by
 have hpa:pasNat (some (.int .i64 (j:Int)))=some j:=by simp [pasNat]
 unfold pindexAddr
 simp only [hpa,Tryz.underlying30,byte_size]
 rw [if_pos ⟨trivial,h⟩]
 simp
theorem byte_load {σ:List SObj} {id ver j:Nat} {l:List UInt8} {e:TypeId} {v:UInt8} (h:σ[id]?=some (.row e 1 ver (u8s l))) (hv:l[j]?=some v):pload Tryz.prog σ 5 (.rptr id ver j)=some (.int .u8 v.toNat):=by
 unfold pload
 simp only [h,if_true]
 unfold ppart
 have:(u8s l)[j]?=some (.int .u8 v.toNat):=by
  unfold u8s
  rw [List.getElem?_map,hv]
  rfl
 simp [Tryz.underlying5,this]
theorem byte_store {σ:List SObj} {id ver j:Nat} {l:List UInt8} {e:TypeId} {w:UInt8} (h:σ[id]?=some (.row e 1 ver (u8s l))) (hj:j < l.length):pstore Tryz.prog 0 σ 5 (.rptr id ver j) (.int .u8 w.toNat)=some (σ.set id (.row e 1 ver (u8s (l.set j w)))):=by
 unfold pstore
 simp only [h,byte_size,Nat.zero_le,if_true]
 rw [if_pos ⟨trivial,rfl,rfl,by rw [u8s_length];omega⟩]
 rw [← u8s_set]
 congr 3
 show pfillAt (u8s l) j [.int .u8 w.toNat]=_
 unfold pfillAt
 rw [List.set_eq_take_append_cons_drop,if_pos (by rw [u8s_length];exact hj)]
 simp
variable {E:PExt} (hU:Uni E)
include hU
theorem r_StoreDecodes (h0:E 3=none) (h1:E 5=some gKn) (h2:E 6=some gFits) (h3:E 8=some gMake) (h4:E 7=some (gBy 5 gEncW))
  (h5:E 9=some (bentry gDecG)) (h6:E 10=some gCk) (h7:E 11=some (bentry gEqBG)) (h8:E 12=some gZeq) (p:PlanD) (hp:okPl p) (at_ by_:Int) (ha:0≤at_∧at_≤65535) (hb:okU8 by_) :
  Run Tryz.prog E 3 [Em.plan.emb p,.int .u16 at_,.int .u8 by_] (Em.bool.emb true):=by
 have k:=gKn_of
 have fp:=gFits_of p
 simp only [emb_plan,emb_list] at fp
 cases cp:fitsB p with
 | false=>
   rw [cp] at fp
   simp only [emb_plan,emb_list]
   apply Run.bodyL h0 Tryz.func3 rfl
   focus (simp [show Tryz.f3.ntmps=_ from rfl,List.replicate];rfl)
   have gx:=An @h1 (An @k (An @h2 (@fp)))
   refine goA ?_
   clear gx
   simp (disch:=first | omega | (simp;done) | (simp;omega)) [decide_eq_decide] <;> try rfl
 | true=>
 rw [cp] at fp
 have mp:=gMake_of hp cp
 obtain ⟨ho1,ho2⟩:=organ_tight p hp cp
 have ho3:=organ_right p hp cp
 obtain ⟨o,ho⟩:=gn (organS p)
 rw [ho] at mp ho1 ho2 ho3
 clear ho
 have kE:=fun σ=>gEncW_of (o:=o) (by omega) (p:=Em.organ.emb o) (Em.organ.str o) 0 σ
 obtain ⟨L,hL⟩:=gn (eOrgan o)
 have hne:L≠[]:=hL▸eOrgan_ne o
 have hpos:=List.length_pos_iff.2 hne
 rw [hL] at kE ho2
 have hd0:=dec_enc ho1 ho3
 rw [hL] at hd0
 obtain ⟨a,rfl⟩:∃ a:Nat,at_=a:=⟨at_.toNat,by omega⟩
 obtain ⟨j,hj⟩:=gn (a%L.length)
 have hjl:j < L.length:=hj▸Nat.mod_lt _ hpos
 have hm:(a:Int).tmod (L.length:Int)=(j:Int):=by rw [← hj];rfl
 obtain ⟨v,hv⟩:=gn (L[j])
 obtain ⟨w,hw⟩:=gn (v+UInt8.ofNat by_.toNat)
 have hadd:=u8_add v hb
 rw [hw] at hadd
 have hun:(u8s L)[j]?=some (.int .u8 v.toNat):=by
  unfold u8s
  rw [List.getElem?_map,List.getElem?_eq_getElem hjl,hv]
  rfl
 obtain ⟨hu1,hu2⟩:=List.getElem?_eq_some_iff.1 hun
 obtain ⟨on,rs,ds,cs⟩:=o
 simp only [emb_plan,emb_organ,emb_list] at mp kE
 simp only [emb_plan,emb_list]
 apply Run.bodyL h0 Tryz.func3 rfl
 focus (simp [show Tryz.f3.ntmps=_ from rfl,List.replicate];rfl)
 have hix:=byte_ix (id:=1) (ver:=0) hjl
 have hpl:∀ X,pload Tryz.prog [X,.row 5 1 0 (u8s L)] 5 (.rptr 1 0 j)=some (.int .u8 v.toNat):=fun X=>byte_load rfl (by rw [List.getElem?_eq_getElem hjl,hv])
 have hps:∀ X,pstore Tryz.prog 0 [X,.row 5 1 0 (u8s L)] 5 (.rptr 1 0 j) (.int .u8 w.toNat)=some [X,.row 5 1 0 (u8s (L.set j w))]:=fun X=>byte_store (w:=w) rfl hjl
 obtain ⟨L',hL'⟩:∃ l,L.set j w=l:=⟨_,rfl⟩
 have hl':L'.length=L.length:=by rw [← hL',List.length_set]
 simp only [hL'] at hps
 have kD:=fun X=>gDecG_of (σ:=[X,.row 5 1 0 (u8s L')]) (id:=1) (ver:=0) rfl (by omega) 0
 rw [hl'] at kD
 obtain ⟨d,hd⟩:=gn (decS L')
 have hdr:=dec_right (l:=L')
 have hdw:=dec_wrong (l:=L')
 rw [hd] at kD hdr hdw
 have htk:List.take j (u8s L)++PD.int .u8 w.toNat::List.drop (j+1) (u8s L)=u8s L':=by
  have h:=u8s_set L j w
  rw [List.set_eq_take_append_cons_drop,if_pos hu1,hL'] at h
  exact h
 obtain ⟨o2,e2⟩:=d
 simp only at hdr hdw kD
 by_cases ce:e2=0
 ·subst ce
  obtain ⟨hr1,hr2⟩:=hdr rfl
  clear hdr hdw hd hd0
  have hok:okOr o2:=okOr_len (by rw [hr2];omega)
  have kC:=fun σ=>gCk_of hok 0 σ
  have kE2:=fun σ=>gEncW_of (o:=o2) (by rw [hr2];omega) (p:=Em.organ.emb o2) (Em.organ.str o2) 0 σ
  have kQ:=fun X Y=>gEqBG_of (σ:=[X,.row 5 1 0 (u8s L'),Y,.row 5 1 0 (u8s L')]) (id:=3) (ver:=0) (id2:=1) (ver2:=0) (l:=L') rfl rfl (by omega) 0
  rw [hr1] at kC
  rw [hr2] at kE2
  rw [hl'] at kE2 kQ
  clear hok hr1 hr2
  obtain ⟨n2,r2,d2,c2⟩:=o2
  simp only [emb_organ,emb_list] at kD kC kE2
  have gx:=An @h1 (An @k (An @h2 (An @fp (An @h3 (An @mp (An @h4 (An @kE (An @hm (An @hix (An @hpl (An @hadd (An @hu1 (An @hu2 (An @htk (An @h5 (An @kD (An @h6 (An @kC (An @kE2 (An @h7 (@kQ)))))))))))))))))))))
  refine goA ?_
  clear gx
  simp (disch:=first | omega | (simp;done) | (simp;omega)) [decide_eq_decide] <;> try rfl
 ·obtain ⟨hw1,hw2⟩:=hdw ce
  subst hw1
  subst hw2
  have hby:¬ by_=0:=fun h=>by
   subst h
   have:w=v:=by rw [← hw];simp
   have hLL:L'=L:=by
    rw [← hL',this,← hv]
    exact List.set_getElem_self hjl
   rw [hLL,hd0] at hd
   have h2:=congrArg Prod.snd hd
   exact ce h2.symm
  have kZ:=fun q (hq:q.strip=Em.organ.emb noOrgan) σ=>gZeq_of 0 σ (p:=Em.organ.emb noOrgan) (q:=q) (Em.organ.str noOrgan) hq
  have kZ1:=kZ (.agg [.str [],.slice 0 [] .full,.slice 0 [] .full,.slice 0 [] .full]) rfl
  clear hdr hdw hd hd0 kZ
  replace kD:=fun X=>(kD X).trans (show _=some (PD.tup [.agg [.str [],.slice 0 [] .any,.slice 0 [] .any,.slice 0 [] .any],.int .i64 26],[X,.row 5 1 0 (u8s L')]) from rfl)
  replace kZ1:=fun σ=>(show gZeq 0 [.agg [.str [],.slice 0 [] .any,.slice 0 [] .any,.slice 0 [] .any],.agg [.str [],.slice 0 [] .full,.slice 0 [] .full,.slice 0 [] .full]] σ=_ from kZ1 σ)
  have gx:=An @h1 (An @k (An @h2 (An @fp (An @h3 (An @mp (An @h4 (An @kE (An @hm (An @hix (An @hpl (An @hadd (An @hu1 (An @hu2 (An @htk (An @h5 (An @kD (An @h8 (An @kZ1 (@hby)))))))))))))))))))
  refine goA ?_
  clear gx
  simp (disch:=first | omega | (simp;done) | (simp;omega)) [decide_eq_decide] <;> try rfl
end Go.Kz

namespace Go.Kz
open Go Go.Proofs
set_option maxRecDepth 100000
theorem ExtOk.le {P:Program} {E:PExt} {f:FuncId} {g g':Nat→List PD→List SObj→Option (PD×List SObj)} (h:ExtOk P (E.add f g)) (hE:ExtOk P E) (hg:∀ fl args σ x,g' fl args σ=some x→g fl args σ=some x):ExtOk P (E.add f g'):=by
 intro F fl f1 g1 args c vs p σ' hF h1 hgo hs hX hv
 unfold PExt.add at h1
 split at h1
 ·rename_i e
  subst e
  simp only [Option.some.injEq] at h1;subst h1
  exact h hF (show E.add f1 g f1=some g from if_pos rfl) (hg _ _ _ _ hgo) hs hX hv
 ·exact hE hF h1 hgo hs hX hv
theorem gPures_strip {args args':List PD} (h:args.map PD.strip=args') (h2:args'.map PD.strip=args'):∀ rs:List (List PD×PD),gPures rs args=gPures rs args'
 | []=>rfl
 | r::rs=>by
   unfold gPures
   rw [h,h2,gPures_strip h h2 rs]
theorem shift_tab:(feetSix.all fun a=>feetAll.all fun b=>match gPures Bt3L [Em.feet.emb a,Em.feet.emb b] with | some p=>bPD 40 p (.tup [.int .i64 (shiftOf a b),.int .i64 0]) | none=>false)=true:=by decide +kernel
theorem shift_ok:ExtOk Tryz.prog (Bt2.add 70 gSh):=by
 refine Bt3_ok.le Bt2_ok fun fl args σ x h=>?_
 unfold gSh entry gf2 at h
 split at h
 rotate_left
 ·cases h
 rename_i p hp
 simp only [Option.some.injEq] at h
 subst h
 split at hp
 rotate_left
 ·cases hp
 rename_i p1 p2
 split at hp
 rotate_left
 ·cases hp
 rename_i a b ha hb
 split at hp
 rotate_left
 ·cases hp
 rename_i z hz
 obtain ⟨⟨h1,h2⟩,e⟩:=gif_some hz
 cases e
 simp only [Option.some.injEq] at hp
 subst hp
 have e1:=Em.of_dec ha
 have e2:=Em.of_dec hb
 have hs:[p1,p2].map PD.strip=[Em.feet.emb a,Em.feet.emb b]:=by simp only [List.map_cons,List.map_nil,e1,e2]
 have hs2:[Em.feet.emb a,Em.feet.emb b].map PD.strip=[Em.feet.emb a,Em.feet.emb b]:=by simp only [List.map_cons,List.map_nil,Em.feet.str]
 rw [gPures_strip hs hs2]
 have ht:=List.all_eq_true.1 (List.all_eq_true.1 shift_tab a h1) b h2
 split at ht
 ·rename_i q hq
  rw [hq]
  have:=bPD_eq 40 _ _ ht
  rw [this]
  rfl
 ·cases ht
theorem ExtOk.addInts {E:PExt} (hE:ExtOk Tryz.prog E) {β:Type} {r:Em β} {F:List Int→β} {f:FuncId} (h:∀ l:List Int,l.length≤1000000→Run Tryz.prog E f [i64s.emb l,.func 108 []] (r.emb (F l))) :
  ExtOk Tryz.prog (E.add f (entry (fun args=>match args with | [p,.func g []]=>if g=108 then gf1 i64s r (fun l=>gif (l.length≤1000000) (some (F l))) [p] else none | _=>none))):=by
 refine hE.addFree fol fun args p hg=>?_
 split at hg
 rotate_left
 ·cases hg
 rename_i p1 g1
 split at hg
 rotate_left
 ·cases hg
 rename_i e
 subst e
 simp only [gf1] at hg
 split at hg
 rotate_left
 ·cases hg
 rename_i x hx
 split at hg
 rotate_left
 ·cases hg
 rename_i z hz
 simp only [Option.some.injEq] at hg
 subst hg
 obtain ⟨rx,e⟩:=gif_some hz
 cases e
 have e1:=Em.of_dec hx
 obtain ⟨p2,σ2,h1,h2⟩:=h x rx
 exact ⟨p2,σ2,by simpa [e1,PD.strip] using h1,h2,by simp only [List.map_cons,List.map_nil,e1,PD.idfreeL,i64s.fre];rfl,r.fre _⟩
theorem ExtOk.addPull {E:PExt} (hE:ExtOk Tryz.prog E) (hU:Uni E) (h0:E 33=none) (h1:E 69=some (entry (gf1 u8e Em.feet fun n=>gif (okU8 n) (some (sixAt n))))) (h2:E 70=some gSh):ExtOk Tryz.prog (E.add 33 gPu):=by
 refine hE.addFree fol fun args p hg=>?_
 unfold gPl at hg
 split at hg
 rotate_left
 ·cases hg
 rename_i a b c d
 split at hg
 rotate_left
 ·cases hg
 rename_i rs lh x i ha hb hc hd
 obtain ⟨⟨k1,k2,k3,k4,k5,k6,k7,k8,k9⟩,e⟩:=gif_some hg
 cases e
 have e1:=Em.of_dec ha
 have e2:=Em.of_dec hb
 have e3:=Em.of_dec hc
 have e4:=Em.of_dec hd
 obtain ⟨j,rfl⟩:∃ j:Nat,i=j:=⟨i.toNat,by omega⟩
 rw [Int.toNat_natCast]
 obtain ⟨p2,σ2,q1,q2⟩:=r_pull hU h0 h1 h2 rs k1 k2 k3 lh.1 lh.2 k4 k5 k6 x k7 j (by omega)
 refine ⟨p2,σ2,?_,q2,?_,Em.stop.fre _⟩
 ·simp only [List.map_cons,List.map_nil,e1,e2,e3,e4]
  exact q1
 ·simp only [List.map_cons,List.map_nil,e1,e2,e3,e4,PD.idfreeL,ranks.fre,Em.feet.fre,Em.pull.fre,i64.fre,Bool.and_self]
theorem gClC_no:∀ args p,gClC 0 args []≠some (p,[]):=by
 intro args p h
 unfold gClC at h
 split at h
 ·simp at h
 ·cases h
theorem gNmC_no (F:List UInt8→List CoupD→PD):∀ args p,gNmC F 0 args []≠some (p,[]):=by
 intro args p h
 unfold gNmC at h
 repeat' split at h
 all_goals first | (cases h;done) | (simp_all;done)
theorem gAg_no:∀ args p,gAg 0 args []≠some (p,[]):=by
 intro args p h
 unfold gAg at h
 repeat' split at h
 all_goals first | (cases h;done) | (simp_all;done)
theorem ExtOk.addNums {E:PExt} (hE:ExtOk Tryz.prog E) (hU:Uni E) (h0:E 65=none) (h1:E 28=some (gBy 5 gNum)):ExtOk Tryz.prog (E.add 65 gNumsD):=
 hE.addT1 fol fun l z hz=>by
  obtain ⟨h,e⟩:=gif_some hz
  cases e
  exact (r_numbers hU h0 h1 l h (sz 1 l) (by cases l <;> simp [sz])).free
theorem gNum_some {args:List PD} {bs:List UInt8} (h:gNum args=some bs):∃ n,args=[.int .i64 n]∧bs=b8 n:=by
 unfold gNum at h
 split at h
 ·cases h
  exact ⟨_,rfl,rfl⟩
 ·cases h
theorem gWd_some {args:List PD} {bs:List UInt8} (h:gWd args=some bs):∃ s,args=[.str s]∧bs=eText s∧s.length≤1000000:=by
 unfold gWd at h
 split at h
 ·rename_i s
  split at h
  ·rename_i hl
   cases h
   exact ⟨_,rfl,rfl,hl⟩
  ·cases h
 ·cases h
theorem gNum_no (args:List PD):gNum args≠some []:=fun h=>by
 obtain ⟨n,_,e⟩:=gNum_some h
 have:=b8_length n
 rw [← e] at this
 cases this
theorem gWd_no (args:List PD):gWd args≠some []:=fun h=>by
 obtain ⟨n,_,e,_⟩:=gWd_some h
 exact eText_ne _ e.symm
theorem gCat_some {args:List PD} {bs:List UInt8} (h:gCat args=some bs):∃ l p,args=[p]∧p.strip=bytsE.emb l∧bs=l.flatten∧l.flatten≠[]∧l.flatten.length≤100000000∧l.length≤1000:=by
 unfold gCat at h
 split at h
 rotate_left
 ·cases h
 rename_i p
 split at h
 rotate_left
 ·cases h
 rename_i l hl
 split at h
 ·rename_i hc
  cases h
  exact ⟨l,p,rfl,Em.of_dec hl,rfl,hc.1,hc.2.1,hc.2.2⟩
 ·cases h
theorem gCat_no (args:List PD):gCat args≠some []:=fun h=>by
 obtain ⟨l,p,_,_,e,hn,_⟩:=gCat_some h
 exact hn e.symm
theorem gEncW_some {args:List PD} {bs:List UInt8} (h:gEncW args=some bs):∃ o p,args=[p]∧p.strip=Em.organ.emb o∧bs=eOrgan o∧(eOrgan o).length≤100000:=by
 unfold gEncW at h
 split at h
 rotate_left
 ·cases h
 rename_i p
 split at h
 rotate_left
 ·cases h
 rename_i o ho
 split at h
 ·rename_i hc
  cases h
  exact ⟨o,p,rfl,Em.of_dec ho,rfl,hc⟩
 ·cases h
theorem gEncW_no (args:List PD):gEncW args≠some []:=fun h=>by
 obtain ⟨o,p,_,_,e,_⟩:=gEncW_some h
 exact eOrgan_ne o e.symm
mutual
theorem PD.strip_strip:∀ p:PD,p.strip.strip=p.strip
 | .agg cs=>by simp only [PD.strip,PD.stripL_stripL cs]
 | .typed t cs=>by simp only [PD.strip,PD.stripL_stripL cs]
 | .tup cs=>by simp only [PD.strip,PD.stripL_stripL cs]
 | .slice _ [] _=>by simp only [PD.strip]
 | .slice n (x::xs) _=>by simp only [PD.strip,PD.strip_strip x,PD.stripL_stripL xs]
 | .bool _ | .int _ _ | .str _ | .nilptr | .nilfunc | .opq _ | .ptr _ _ | .sref _ _ _ _ | .rref _ _ _ _ _ | .rptr _ _ _ | .mref _ | .iface _ _ | .eptr _ _ | .func _ _ | .mfunc _ _ | .yield _=>by simp only [PD.strip]
theorem PD.stripL_stripL:∀ l:List PD,PD.stripL (PD.stripL l)=PD.stripL l
 | []=>by simp only [PD.stripL]
 | x::xs=>by simp only [PD.stripL,PD.strip_strip x,PD.stripL_stripL xs]
end
theorem ExtOk.addBS {P:Program} {E:PExt} (hE:ExtOk P E) (hP:P.follows .mixedOrders=true) {e:TypeId} {f:FuncId} {g:List PD→Option (List UInt8)}
  (h:∀ args bs,args.map PD.strip=args→g args=some bs→RunB P E e f args bs∧PD.idfreeL args=true):ExtOk P (E.add f (gBy e g)):=by
 classical
 have hg:gBy e g=gBy e fun args=>if args.map PD.strip=args then g args else none:=by
  funext fl args σ
  unfold gBy
  simp only [List.map_map]
  rw [if_pos (show args.map (PD.strip ∘ PD.strip)=args.map PD.strip from List.map_congr_left fun p _=>PD.strip_strip p)]
 rw [hg]
 refine @ExtOk.addBy P E hE hP e f (fun args=>if args.map PD.strip=args then g args else none) (fun args bs hg=>?_)
 have hg:(if args.map PD.strip=args then g args else none)=some bs:=hg
 exact by
  split at hg
  ·rename_i hs
   exact h args bs hs hg
  ·cases hg
theorem bread_plain {σ:List SObj} {p:PD} (h:(bread [] p).idfree=true):bread σ p=bread [] p:=by
 cases p <;> first | rfl | (simp [bread,breadR,PD.idfree] at h)
theorem Uni.bentry {E:PExt} (hU:Uni E) {f:FuncId} {g:List PD→Option PD}:Uni (E.add f (bentry g)):=by
 intro f' g' args p hE h fl σ
 unfold PExt.add at hE
 split at hE
 rotate_left
 ·exact hU _ _ _ _ hE h fl σ
 simp only [Option.some.injEq] at hE;subst hE
 have hm:∀ args:List PD,PD.idfreeL (args.map (bread []))=true→args.map (bread σ)=args.map (bread []):=fun args h=>List.map_congr_left fun q hq=>bread_plain (by
  rw [PD.idfreeL_all] at h
  exact List.all_eq_true.1 h _ (List.mem_map.2 ⟨q,hq,rfl⟩))
 unfold Kz.bentry at h ⊢
 split at h
 rotate_left
 ·cases h
 rename_i hid
 rw [hm args hid,if_pos hid]
 split at h
 rotate_left
 ·cases h
 split at h
 ·rename_i hno
  rw [if_pos hno]
  simp only [Option.some.injEq,Prod.mk.injEq,and_true] at h
  rw [h]
 ·cases h
theorem ExtOk.addCat {E:PExt} (hE:ExtOk Tryz.prog E) (hU:Uni E) (h0:E 58=none) (h1:E 90=some gGrow):ExtOk Tryz.prog (E.add 58 (gBy 5 gCat)):=
 hE.addBS fol fun args bs hs hg=>by
  obtain ⟨l,p,rfl,hp,rfl,g1,g2,g3⟩:=gCat_some hg
  simp only [List.map_cons,List.map_nil,List.cons.injEq,and_true] at hs
  rw [hs] at hp
  subst hp
  exact ⟨r_Concat hU h0 h1 l g1 g2 g3,by simp only [PD.idfreeL,bytsE.fre];rfl⟩
theorem ExtOk.addEnc {E:PExt} (hE:ExtOk Tryz.prog E) (hU:Uni E) (h0:E 7=none) (h1:E 27=some (gBy 5 gWd)) (h2:E 28=some (gBy 5 gNum))
  (h3:E 29=some gRankD) (h4:E 30=some gDivD) (h5:E 31=some gCoupD):ExtOk Tryz.prog (E.add 7 (gBy 5 gEncW)):=
 hE.addBS fol fun args bs hs hg=>by
  obtain ⟨o,p,rfl,hp,rfl,g1⟩:=gEncW_some hg
  simp only [List.map_cons,List.map_nil,List.cons.injEq,and_true] at hs
  rw [hs] at hp
  subst hp
  exact ⟨r_encB hU h0 h1 h2 h3 h4 h5 o (by omega),by simp only [PD.idfreeL,Em.organ.fre];rfl⟩
theorem gGrow_no:∀ args p,gGrow 0 args []≠some (p,[]):=by
 intro args p h
 unfold gGrow at h
 repeat' split at h
 all_goals first | (cases h;done) | (simp_all;done)
def z0:PD:=.agg [.str [],.slice 0 [] .any,.slice 0 [] .any,.slice 0 [] .any]
def puZ:List (List PD×PD):=[([z0,z0],.bool true)]
theorem puZ_all:(puZ.all (pureRun Tryz.prog ClE 1000 12))=true:=by kernel_rfl
theorem zeq_ok:ExtOk Tryz.prog (ClE.add 12 gZeq):=by
 refine ExtOk.le (ExtOk.addPures ClE_ok fol puZ puZ_all) ClE_ok fun fl args σ x h=>?_
 unfold gZeq entry gf2 at h
 split at h
 rotate_left
 ·cases h
 rename_i p hp
 simp only [Option.some.injEq] at h
 subst h
 split at hp
 rotate_left
 ·cases hp
 rename_i p1 p2
 split at hp
 rotate_left
 ·cases hp
 rename_i a b ha hb
 split at hp
 rotate_left
 ·cases hp
 rename_i z hz
 obtain ⟨⟨h1,h2⟩,e⟩:=gif_some hz
 cases e
 simp only [Option.some.injEq] at hp
 subst hp
 have e1:=Em.of_dec ha
 have e2:=Em.of_dec hb
 rw [h1] at e1
 rw [h2] at e2
 have e1':p1.strip=z0:=e1
 have e2':p2.strip=z0:=e2
 rw [gPures_strip (args:=[p1,p2]) (args':=[z0,z0]) (by simp only [List.map_cons,List.map_nil,e1',e2']) rfl]
 rfl
theorem gDecG_some {args:List PD} {p:PD} (h:gDecG args=some p):∃ l z,args=[.slice z (u8s l) .any]∧p=(Em.organ.tup2 i64).emb (decS l)∧l.length≤100000∧(l=[]∨z=1):=by
 unfold gDecG at h
 split at h
 rotate_left
 ·cases h
 rename_i z xs
 split at h
 rotate_left
 ·cases h
 rename_i l hl
 obtain ⟨⟨h1,h2,h3⟩,e⟩:=gif_some h
 cases e
 exact ⟨l,z,by rw [h2],rfl,h1,h3⟩
theorem gEqBG_some {args:List PD} {p:PD} (h:gEqBG args=some p):∃ l z,args=[.slice z (u8s l) .any,.slice z (u8s l) .any]∧p=.bool true∧l.length≤1000000∧(l=[]∨z=1):=by
 unfold gEqBG at h
 split at h
 rotate_left
 ·cases h
 rename_i z xs q
 split at h
 rotate_left
 ·cases h
 rename_i l hl
 obtain ⟨⟨h1,h2,h3,h4⟩,e⟩:=gif_some h
 cases e
 exact ⟨l,z,by rw [h4,h2],rfl,h1,h3⟩
noncomputable def Cq0:PExt:=fun _=>none
theorem Cq0_ok:ExtOk Tryz.prog Cq0:=fun _ hg=>by cases hg
theorem Cq0_uni:Uni Cq0:=Uni.none
noncomputable def Cq1:PExt:=Cq0.add 78 gLet
theorem Cq1_ok:ExtOk Tryz.prog Cq1:=Cq0_ok.add1 fol fun x z hz=>by cases hz;exact r_letter Cq0_uni rfl x
theorem Cq1_uni:Uni Cq1:=Cq0_uni.entry
noncomputable def Cq2:PExt:=Cq1.add 36 gNm
theorem Cq2_ok:ExtOk Tryz.prog Cq2:=Cq1_ok.add1 fol fun x z hz=>by obtain ⟨h,e⟩:=gif_some hz;cases e;exact r_isName Cq1_uni rfl rfl x h
theorem Cq2_uni:Uni Cq2:=Cq1_uni.entry
noncomputable def Cq3:PExt:=Cq2.add 82 gCp
theorem Cq3_ok:ExtOk Tryz.prog Cq3:=Cq2_ok.add1 fol fun x z hz=>by cases hz;exact r_compass Cq2_uni rfl x.1 x.2
theorem Cq3_uni:Uni Cq3:=Cq2_uni.entry
noncomputable def Cq4:PExt:=Cq3.add 144 gGcd
theorem Cq4_ok:ExtOk Tryz.prog Cq4:=Cq3_ok.add2 fol fun x y z hz=>by
 obtain ⟨h,e⟩:=gif_some hz
 cases e
 obtain ⟨a,rfl⟩:∃ a:Nat,x=a:=⟨x.toNat,by omega⟩
 obtain ⟨b,rfl⟩:∃ b:Nat,y=b:=⟨y.toNat,by omega⟩
 rw [Int.toNat_natCast,Int.toNat_natCast]
 exact r_gcd Cq3_uni rfl a b (by omega) (by omega)
theorem Cq4_uni:Uni Cq4:=Cq3_uni.entry
noncomputable def Cq5:PExt:=Cq4.add 145 gMag
theorem Cq5_ok:ExtOk Tryz.prog Cq5:=Cq4_ok.add1 fol fun x z hz=>by obtain ⟨h,e⟩:=gif_some hz;cases e;exact r_mag Cq4_uni rfl x h
theorem Cq5_uni:Uni Cq5:=Cq4_uni.entry
noncomputable def Cq6:PExt:=Cq5.add 106 gFr
theorem Cq6_ok:ExtOk Tryz.prog Cq6:=Cq5_ok.add1 fol fun x z hz=>by cases hz;exact r_frac Cq5_uni rfl rfl rfl x.1 x.2
theorem Cq6_uni:Uni Cq6:=Cq5_uni.entry
noncomputable def Cq7:PExt:=Cq6.add 79 gPi
theorem Cq7_ok:ExtOk Tryz.prog Cq7:=Cq6_ok.add1 fol fun x z hz=>by cases hz;exact r_pitch Cq6_uni rfl rfl x.1 x.2
theorem Cq7_uni:Uni Cq7:=Cq6_uni.entry
noncomputable def Cq8:PExt:=Cq7.add 108 gBad
theorem Cq8_ok:ExtOk Tryz.prog Cq8:=Cq7_ok.add1 fol fun x z hz=>by cases hz;exact r_bad Cq7_uni rfl x
theorem Cq8_uni:Uni Cq8:=Cq7_uni.entry
noncomputable def Cq9:PExt:=Cq8.add 146 gIxI
theorem Cq9_ok:ExtOk Tryz.prog Cq9:=Cq8_ok.addInts fun l hl=>r_IndexI Cq8_uni rfl rfl l hl
theorem Cq9_uni:Uni Cq9:=Cq8_uni.entry
noncomputable def Cq10:PExt:=Cq9.add 107 gCoI
theorem Cq10_ok:ExtOk Tryz.prog Cq10:=Cq9_ok.addInts fun l hl=>r_ContI Cq9_uni rfl rfl l hl
theorem Cq10_uni:Uni Cq10:=Cq9_uni.entry
noncomputable def Cq11:PExt:=Cq10.add 81 gWi
theorem Cq11_ok:ExtOk Tryz.prog Cq11:=Cq10_ok.add1 fol fun x z hz=>by obtain ⟨h,e⟩:=gif_some hz;cases e;exact r_winds Cq10_uni rfl rfl x h
theorem Cq11_uni:Uni Cq11:=Cq10_uni.entry
noncomputable def Cq12:PExt:=Cq11.add 80 gFi
theorem Cq12_ok:ExtOk Tryz.prog Cq12:=Cq11_ok.add1 fol fun x z hz=>by cases hz;exact r_first Cq11_uni rfl x
theorem Cq12_uni:Uni Cq12:=Cq11_uni.entry
noncomputable def Cq13:PExt:=Cq12.add 37 gRk
theorem Cq13_ok:ExtOk Tryz.prog Cq13:=Cq12_ok.add1 fol fun x z hz=>by obtain ⟨h,e⟩:=gif_some hz;cases e;exact r_rankCheck Cq12_uni rfl rfl rfl rfl rfl x h.1 h.2.1 h.2.2
theorem Cq13_uni:Uni Cq13:=Cq12_uni.entry
noncomputable def Cq14:PExt:=Cq13.add 176 gIxD
theorem Cq14_ok:ExtOk Tryz.prog Cq14:=Cq13_ok.add2 fol fun x y z hz=>by obtain ⟨h,e⟩:=gif_some hz;cases e;exact r_IndexD Cq13_uni rfl x y h
theorem Cq14_uni:Uni Cq14:=Cq13_uni.entry
noncomputable def Cq15:PExt:=Cq14.add 147 gCoD
theorem Cq15_ok:ExtOk Tryz.prog Cq15:=Cq14_ok.add2 fol fun x y z hz=>by obtain ⟨h,e⟩:=gif_some hz;cases e;exact r_ContD Cq14_uni rfl rfl x y h
theorem Cq15_uni:Uni Cq15:=Cq14_uni.entry
noncomputable def Cq16:PExt:=Cq15.add 110 gDr
theorem Cq16_ok:ExtOk Tryz.prog Cq16:=Cq15_ok.add2 fol fun x y z hz=>by obtain ⟨h,e⟩:=gif_some hz;cases e;exact r_draws Cq15_uni rfl rfl x.1 h.1 x.2.1 x.2.2 y h.2
theorem Cq16_uni:Uni Cq16:=Cq15_uni.entry
noncomputable def Cq17:PExt:=Cq16.add 109 gPlc
theorem Cq17_ok:ExtOk Tryz.prog Cq17:=Cq16_ok.add1 fol fun x z hz=>by obtain ⟨h,e⟩:=gif_some hz;cases e;exact r_place Cq16_uni rfl rfl rfl x.1 h.1 h.2 x.2.1 x.2.2
theorem Cq17_uni:Uni Cq17:=Cq16_uni.entry
noncomputable def Cq18:PExt:=Cq17.add 83 gSt
theorem Cq18_ok:ExtOk Tryz.prog Cq18:=Cq17_ok.add2 fol fun x y z hz=>by obtain ⟨h,e⟩:=gif_some hz;cases e;exact r_stop Cq17_uni rfl rfl rfl rfl rfl x.1 h.1 x.2.1 x.2.2 y h.2.1 h.2.2
theorem Cq18_uni:Uni Cq18:=Cq17_uni.entry
noncomputable def Cq19:PExt:=Cq18.add 85 gClC
theorem Cq19_ok:ExtOk Tryz.prog Cq19:=lib_clC Cq18_uni Cq18_ok rfl
theorem Cq19_uni:Uni Cq19:=Cq18_uni.other (gClC_no)
noncomputable def Cq20:PExt:=Cq19.add 111 (gNmC fun nm l=>.int .i64 (ixF (nmC nm) l 0))
theorem Cq20_ok:ExtOk Tryz.prog Cq20:=lib_IndexC Cq19_uni Cq19_ok rfl rfl
theorem Cq20_uni:Uni Cq20:=Cq19_uni.other (gNmC_no _)
noncomputable def Cq21:PExt:=Cq20.add 84 (gNmC fun nm l=>.bool (l.any (nmC nm)))
theorem Cq21_ok:ExtOk Tryz.prog Cq21:=lib_ContC Cq20_uni Cq20_ok rfl rfl
theorem Cq21_uni:Uni Cq21:=Cq20_uni.other (gNmC_no _)
noncomputable def Cq22:PExt:=Cq21.add 40 gCl
theorem Cq22_ok:ExtOk Tryz.prog Cq22:=Cq21_ok.add2 fol fun x y z hz=>by obtain ⟨h,e⟩:=gif_some hz;cases e;exact r_coupler Cq21_uni rfl rfl rfl rfl x y h.1 h.2.1 h.2.2
theorem Cq22_uni:Uni Cq22:=Cq21_uni.entry
noncomputable def Cq23:PExt:=Cq22.add 38 gAg
theorem Cq23_ok:ExtOk Tryz.prog Cq23:=lib_again Cq22_uni Cq22_ok rfl
theorem Cq23_uni:Uni Cq23:=Cq22_uni.other (gAg_no)
noncomputable def Cq24:PExt:=Cq23.add 39 gDv
theorem Cq24_ok:ExtOk Tryz.prog Cq24:=Cq23_ok.add2 fol fun x y z hz=>by obtain ⟨h,e⟩:=gif_some hz;cases e;exact r_div Cq23_uni rfl rfl rfl rfl x h.1 y h.2.2
theorem Cq24_uni:Uni Cq24:=Cq23_uni.entry
noncomputable def Cq25:PExt:=Cq24.add 10 gCk
theorem Cq25_ok:ExtOk Tryz.prog Cq25:=Cq24_ok.add1 fol fun x z hz=>by obtain ⟨h,e⟩:=gif_some hz;cases e;exact r_organ Cq24_uni rfl rfl rfl rfl rfl rfl x h
theorem Cq25_uni:Uni Cq25:=Cq24_uni.entry
noncomputable def Cq26:PExt:=Cq25.add 6 gFits
theorem Cq26_ok:ExtOk Tryz.prog Cq26:=Cq25_ok.add1 fol fun x z hz=>by cases hz;exact r_Fits Cq25_uni rfl x
theorem Cq26_uni:Uni Cq26:=Cq25_uni.entry
noncomputable def Cq27:PExt:=Cq26.add 68 (entry (gf1 u8e Em.feet fun n=>gif (okU8 n) (some (allAt n))))
theorem Cq27_ok:ExtOk Tryz.prog Cq27:=Cq26_ok.add1 fol fun x z hz=>by obtain ⟨h,e⟩:=gif_some hz;cases e;exact r_all Cq26_uni rfl x h
theorem Cq27_uni:Uni Cq27:=Cq26_uni.entry
noncomputable def Cq28:PExt:=Cq27.add 69 (entry (gf1 u8e Em.feet fun n=>gif (okU8 n) (some (sixAt n))))
theorem Cq28_ok:ExtOk Tryz.prog Cq28:=Cq27_ok.add1 fol fun x z hz=>by obtain ⟨h,e⟩:=gif_some hz;cases e;exact r_six Cq27_uni rfl x h
theorem Cq28_uni:Uni Cq28:=Cq27_uni.entry
noncomputable def Cq29:PExt:=Cq28.add 70 gSh
theorem Cq29_ok:ExtOk Tryz.prog Cq29:=ExtOk.pick shift_ok Cq28_ok (if_pos rfl)
theorem Cq29_uni:Uni Cq29:=Cq28_uni.entry
noncomputable def Cq30:PExt:=Cq29.add 32 gRM
theorem Cq30_ok:ExtOk Tryz.prog Cq30:=Cq29_ok.add2 fol fun x y z hz=>by
 obtain ⟨h,e⟩:=gif_some hz
 cases e
 obtain ⟨a,rfl⟩:∃ a:Nat,y=a:=⟨y.toNat,by omega⟩
 rw [Int.toNat_natCast]
 exact r_rankMake Cq29_uni rfl rfl x h.1 a (by omega)
theorem Cq30_uni:Uni Cq30:=Cq29_uni.entry
noncomputable def Cq31:PExt:=Cq30.add 33 gPu
theorem Cq31_ok:ExtOk Tryz.prog Cq31:=Cq30_ok.addPull Cq30_uni rfl rfl rfl
theorem Cq31_uni:Uni Cq31:=Cq30_uni.entry
noncomputable def Cq32:PExt:=Cq31.add 8 gMake
theorem Cq32_ok:ExtOk Tryz.prog Cq32:=Cq31_ok.add1 fol fun x z hz=>by obtain ⟨h,e⟩:=gif_some hz;cases e;exact r_Make Cq31_uni rfl rfl rfl x h.1 h.2
theorem Cq32_uni:Uni Cq32:=Cq31_uni.entry
theorem HR0:Reads Cq32 100 dNum i64.emb:=fun τ id s hr hl=>w_num Cq32_uni rfl τ id s hr hl
noncomputable def Cq33:PExt:=Cq32.add 100 (gEf Tryz.prog Cq32 100)
theorem Cq33_ok:ExtOk Tryz.prog Cq33:=Cq32_ok.addSt fol 100
theorem Cq33_uni:Uni Cq33:=Cq32_uni.st
theorem HR1:Reads Cq33 71 dText PD.str:=w_text (E0:=Cq32) Cq33_uni rfl rfl HR0
noncomputable def Cq34:PExt:=Cq33.add 71 (gEf Tryz.prog Cq33 71)
theorem Cq34_ok:ExtOk Tryz.prog Cq34:=Cq33_ok.addSt fol 71
theorem Cq34_uni:Uni Cq34:=Cq33_uni.st
theorem HR2:Reads Cq34 103 dTruth PD.bool:=w_truth (E0:=Cq32) Cq34_uni rfl rfl HR0
noncomputable def Cq35:PExt:=Cq34.add 103 (gEf Tryz.prog Cq34 103)
theorem Cq35_ok:ExtOk Tryz.prog Cq35:=Cq34_ok.addSt fol 103
theorem Cq35_uni:Uni Cq35:=Cq34_uni.st
theorem HR3:Reads Cq35 101 dFeet Em.fra.emb:=w_feet (E0:=Cq32) Cq35_uni rfl rfl HR0
noncomputable def Cq36:PExt:=Cq35.add 101 (gEf Tryz.prog Cq35 101)
theorem Cq36_ok:ExtOk Tryz.prog Cq36:=Cq35_ok.addSt fol 101
theorem Cq36_uni:Uni Cq36:=Cq35_uni.st
theorem HR4:ReadsA Cq36 102 (lstA 100) (dList dNum) i64s.emb:=w_list_int (E1:=Cq32) (E2:=Cq32) Cq36_uni rfl rfl HR0 rfl HR0
noncomputable def Cq37:PExt:=Cq36.add 102 (gEf Tryz.prog Cq36 102)
theorem Cq37_ok:ExtOk Tryz.prog Cq37:=Cq36_ok.addSt fol 102
theorem Cq37_uni:Uni Cq37:=Cq36_uni.st
theorem HR5:Reads Cq37 73 dRank Em.rank.emb:=w_rank (E1:=Cq33) (E2:=Cq35) (E3:=Cq32) (E4:=Cq36) Cq37_uni rfl rfl HR1 rfl HR3 rfl HR0 rfl HR4
noncomputable def Cq38:PExt:=Cq37.add 73 (gEf Tryz.prog Cq37 73)
theorem Cq38_ok:ExtOk Tryz.prog Cq38:=Cq37_ok.addSt fol 73
theorem Cq38_uni:Uni Cq38:=Cq37_uni.st
theorem HR6:ReadsA Cq38 72 (lstA 73) (dList dRank) ranks.emb:=w_list_rank (E1:=Cq32) (E2:=Cq37) Cq38_uni rfl rfl HR0 rfl HR5
noncomputable def Cq39:PExt:=Cq38.add 72 (gEf Tryz.prog Cq38 72)
theorem Cq39_ok:ExtOk Tryz.prog Cq39:=Cq38_ok.addSt fol 72
theorem Cq39_uni:Uni Cq39:=Cq38_uni.st
theorem HR7:Reads Cq39 175 dDraw Em.draw.emb:=w_draw (E1:=Cq32) Cq39_uni rfl rfl HR0
noncomputable def Cq40:PExt:=Cq39.add 175 (gEf Tryz.prog Cq39 175)
theorem Cq40_ok:ExtOk Tryz.prog Cq40:=Cq39_ok.addSt fol 175
theorem Cq40_uni:Uni Cq40:=Cq39_uni.st
theorem HR8:ReadsA Cq40 174 (lstA 175) (dList dDraw) drawsE.emb:=w_list_draw (E1:=Cq32) (E2:=Cq39) Cq40_uni rfl rfl HR0 rfl HR7
noncomputable def Cq41:PExt:=Cq40.add 174 (gEf Tryz.prog Cq40 174)
theorem Cq41_ok:ExtOk Tryz.prog Cq41:=Cq40_ok.addSt fol 174
theorem Cq41_uni:Uni Cq41:=Cq40_uni.st
theorem HR9:Reads Cq41 143 dSeg Em.seg.emb:=w_seg (E1:=Cq32) (E2:=Cq40) Cq41_uni rfl rfl HR0 rfl HR8
noncomputable def Cq42:PExt:=Cq41.add 143 (gEf Tryz.prog Cq41 143)
theorem Cq42_ok:ExtOk Tryz.prog Cq42:=Cq41_ok.addSt fol 143
theorem Cq42_uni:Uni Cq42:=Cq41_uni.st
theorem HR10:ReadsA Cq42 142 (lstA 143) (dList dSeg) segsE.emb:=w_list_seg (E1:=Cq32) (E2:=Cq41) Cq42_uni rfl rfl HR0 rfl HR9
noncomputable def Cq43:PExt:=Cq42.add 142 (gEf Tryz.prog Cq42 142)
theorem Cq43_ok:ExtOk Tryz.prog Cq43:=Cq42_ok.addSt fol 142
theorem Cq43_uni:Uni Cq43:=Cq42_uni.st
theorem HR11:Reads Cq43 105 dStop Em.stop.emb:=w_stop (E1:=Cq33) (E2:=Cq35) (E3:=Cq42) Cq43_uni rfl rfl HR1 rfl HR3 rfl HR10
noncomputable def Cq44:PExt:=Cq43.add 105 (gEf Tryz.prog Cq43 105)
theorem Cq44_ok:ExtOk Tryz.prog Cq44:=Cq43_ok.addSt fol 105
theorem Cq44_uni:Uni Cq44:=Cq43_uni.st
theorem HR12:ReadsA Cq44 104 (lstA 105) (dList dStop) stopsE.emb:=w_list_stop (E1:=Cq32) (E2:=Cq43) Cq44_uni rfl rfl HR0 rfl HR11
noncomputable def Cq45:PExt:=Cq44.add 104 (gEf Tryz.prog Cq44 104)
theorem Cq45_ok:ExtOk Tryz.prog Cq45:=Cq44_ok.addSt fol 104
theorem Cq45_uni:Uni Cq45:=Cq44_uni.st
theorem HR13:Reads Cq45 75 dDiv Em.div.emb:=w_div (E1:=Cq33) (E2:=Cq34) (E3:=Cq32) (E4:=Cq44) Cq45_uni rfl rfl HR1 rfl HR2 rfl HR0 rfl HR12
noncomputable def Cq46:PExt:=Cq45.add 75 (gEf Tryz.prog Cq45 75)
theorem Cq46_ok:ExtOk Tryz.prog Cq46:=Cq45_ok.addSt fol 75
theorem Cq46_uni:Uni Cq46:=Cq45_uni.st
theorem HR14:ReadsA Cq46 74 (lstA 75) (dList dDiv) divsE.emb:=w_list_div (E1:=Cq32) (E2:=Cq45) Cq46_uni rfl rfl HR0 rfl HR13
noncomputable def Cq47:PExt:=Cq46.add 74 (gEf Tryz.prog Cq46 74)
theorem Cq47_ok:ExtOk Tryz.prog Cq47:=Cq46_ok.addSt fol 74
theorem Cq47_uni:Uni Cq47:=Cq46_uni.st
theorem HR15:Reads Cq47 77 dCoup Em.coup.emb:=w_coup (E1:=Cq33) (E2:=Cq32) (E3:=Cq34) Cq47_uni rfl rfl HR1 rfl HR0 rfl HR2
noncomputable def Cq48:PExt:=Cq47.add 77 (gEf Tryz.prog Cq47 77)
theorem Cq48_ok:ExtOk Tryz.prog Cq48:=Cq47_ok.addSt fol 77
theorem Cq48_uni:Uni Cq48:=Cq47_uni.st
theorem HR16:ReadsA Cq48 76 (lstA 77) (dList dCoup) coupsE.emb:=w_list_coup (E1:=Cq32) (E2:=Cq47) Cq48_uni rfl rfl HR0 rfl HR15
noncomputable def Cq49:PExt:=Cq48.add 76 (gEf Tryz.prog Cq48 76)
theorem Cq49_ok:ExtOk Tryz.prog Cq49:=Cq48_ok.addSt fol 76
theorem Cq49_uni:Uni Cq49:=Cq48_uni.st
theorem HR17:Reads Cq49 34 dOrgan Em.organ.emb:=w_organ (E1:=Cq33) (E2:=Cq38) (E3:=Cq46) (E4:=Cq48) Cq49_uni rfl rfl HR1 rfl HR6 rfl HR14 rfl HR16
noncomputable def Cq50:PExt:=Cq49.add 34 (gEf Tryz.prog Cq49 34)
theorem Cq50_ok:ExtOk Tryz.prog Cq50:=Cq49_ok.addSt fol 34
theorem Cq50_uni:Uni Cq50:=Cq49_uni.st
theorem HR18:Reads Cq50 35 dWhole PD.bool:=w_whole Cq50_uni rfl
noncomputable def Cq51:PExt:=Cq50.add 35 (gEf Tryz.prog Cq50 35)
theorem Cq51_ok:ExtOk Tryz.prog Cq51:=Cq50_ok.addSt fol 35
theorem Cq51_uni:Uni Cq51:=Cq50_uni.st
noncomputable def Cq52:PExt:=Cq51.add 9 (bentry gDecG)
theorem Cq52_ok:ExtOk Tryz.prog Cq52:=Cq51_ok.addBR fol fun args p hg=>by
 obtain ⟨l,z,rfl,rfl,h1,h2⟩:=gDecG_some hg
 exact r_Decode (E0:=Cq49) (E1:=Cq50) Cq51_uni rfl rfl rfl rfl HR17 HR18 l z h2 (by omega) (dOrgan_ok h1)
theorem Cq52_uni:Uni Cq52:=Uni.bentry Cq51_uni
noncomputable def Cq53:PExt:=Cq52.add 28 (gBy 5 gNum)
theorem Cq53_ok:ExtOk Tryz.prog Cq53:=Cq52_ok.addBy fol fun args bs hg=>by
 obtain ⟨n,rfl,rfl⟩:=gNum_some hg
 exact ⟨r_number Cq52_uni rfl n,rfl⟩
theorem Cq53_uni:Uni Cq53:=Cq52_uni.by gNum_no
noncomputable def Cq54:PExt:=Cq53.add 65 gNumsD
theorem Cq54_ok:ExtOk Tryz.prog Cq54:=Cq53_ok.addNums Cq53_uni rfl rfl
theorem Cq54_uni:Uni Cq54:=Cq53_uni.entry
noncomputable def Cq55:PExt:=Cq54.add 66 gTruD
theorem Cq55_ok:ExtOk Tryz.prog Cq55:=Cq54_ok.addT1 fol fun b z hz=>by
 cases hz
 exact (r_truth Cq54_uni rfl rfl b).free
theorem Cq55_uni:Uni Cq55:=Cq54_uni.entry
noncomputable def Cq56:PExt:=Cq55.add 27 gWordD
theorem Cq56_ok:ExtOk Tryz.prog Cq56:=Cq55_ok.addT1 fol fun s z hz=>by
 obtain ⟨h,e⟩:=gif_some hz
 cases e
 exact (r_word Cq55_uni rfl rfl s h).free
theorem Cq56_uni:Uni Cq56:=Cq55_uni.entry
noncomputable def Cq57:PExt:=Cq56.add 90 gGrow
theorem Cq57_ok:ExtOk Tryz.prog Cq57:=gGrow_ok Cq56_ok fol Cq56_uni rfl
theorem Cq57_uni:Uni Cq57:=Cq56_uni.other gGrow_no
noncomputable def Cq58:PExt:=Cq57.add 58 (gBy 5 gCat)
theorem Cq58_ok:ExtOk Tryz.prog Cq58:=Cq57_ok.addCat Cq57_uni rfl rfl
theorem Cq58_uni:Uni Cq58:=Cq57_uni.by gCat_no
noncomputable def Cq59:PExt:=Cq58.add 29 gRankD
theorem Cq59_ok:ExtOk Tryz.prog Cq59:=Cq58_ok.addT1 fol fun s z hz=>by
 obtain ⟨h,e⟩:=gif_some hz
 cases e
 exact (r_rankB Cq58_uni rfl rfl rfl rfl rfl s (by simp only [eRank,eText,List.length_append] at h;omega) (by simp only [eRank,eText,List.length_append] at h;omega) (by simp only [eRank,eText,List.length_append,eList_len,flat_b8] at h;omega)).free
theorem Cq59_uni:Uni Cq59:=Cq58_uni.entry
noncomputable def Cq60:PExt:=Cq59.add 31 gCoupD
theorem Cq60_ok:ExtOk Tryz.prog Cq60:=Cq59_ok.addT1 fol fun s z hz=>by
 obtain ⟨h,e⟩:=gif_some hz
 cases e
 exact (r_coupB Cq59_uni rfl rfl rfl rfl rfl s (by simp only [eCoup,eText,List.length_append] at h;omega)).free
theorem Cq60_uni:Uni Cq60:=Cq59_uni.entry
noncomputable def Cq61:PExt:=Cq60.add 67 gStopD
theorem Cq61_ok:ExtOk Tryz.prog Cq61:=Cq60_ok.addT1 fol fun s z hz=>by
 obtain ⟨h,e⟩:=gif_some hz
 cases e
 exact (r_stopB Cq60_uni rfl rfl rfl rfl s (by simp only [eStop,eText,List.length_append] at h;omega) (by omega)).free
theorem Cq61_uni:Uni Cq61:=Cq60_uni.entry
noncomputable def Cq62:PExt:=Cq61.add 30 gDivD
theorem Cq62_ok:ExtOk Tryz.prog Cq62:=Cq61_ok.addT1 fol fun s z hz=>by
 obtain ⟨h,e⟩:=gif_some hz
 cases e
 exact (r_divB Cq61_uni rfl rfl rfl rfl rfl rfl s h).free
theorem Cq62_uni:Uni Cq62:=Cq61_uni.entry
theorem wordB_ok:ExtOk Tryz.prog (Cq53.add 27 (gBy 5 gWd)):=Cq53_ok.addBy fol fun args bs hg=>by
 obtain ⟨s,rfl,rfl,hl⟩:=gWd_some hg
 exact ⟨r_word Cq53_uni rfl rfl s hl,rfl⟩
noncomputable def Cq63:PExt:=Cq62.add 27 (gBy 5 gWd)
theorem Cq63_ok:ExtOk Tryz.prog Cq63:=ExtOk.pick wordB_ok Cq62_ok (if_pos rfl)
theorem Cq63_uni:Uni Cq63:=Cq62_uni.by gWd_no
noncomputable def Cq64:PExt:=Cq63.add 7 (gBy 5 gEncW)
theorem Cq64_ok:ExtOk Tryz.prog Cq64:=Cq63_ok.addEnc Cq63_uni rfl rfl rfl rfl rfl rfl
theorem Cq64_uni:Uni Cq64:=Cq63_uni.by gEncW_no
noncomputable def Cq65:PExt:=Cq64.add 11 (bentry gEqBG)
theorem Cq65_ok:ExtOk Tryz.prog Cq65:=Cq64_ok.addBR fol fun args p hg=>by
 obtain ⟨l,z,rfl,rfl,h1,h2⟩:=gEqBG_some hg
 exact r_EqualB Cq64_uni rfl l h1 z h2
theorem Cq65_uni:Uni Cq65:=Uni.bentry Cq64_uni
noncomputable def Cq66:PExt:=Cq65.add 12 gZeq
theorem Cq66_ok:ExtOk Tryz.prog Cq66:=ExtOk.pick zeq_ok Cq65_ok (if_pos rfl)
theorem Cq66_uni:Uni Cq66:=Cq65_uni.entry
noncomputable def Cq67:PExt:=Cq66.add 5 gKn
theorem Cq67_ok:ExtOk Tryz.prog Cq67:=ExtOk.pick PuK_ok Cq66_ok (if_pos rfl)
theorem Cq67_uni:Uni Cq67:=Cq66_uni.entry
end Go.Kz

namespace Go.Proofs.YtefkonhamghgfaaGreatDoor
open Go Go.Kz Go.ChangeShapes Go.WideShapes Go.ChangeAt Go.WideMaps Go.WideElems Go.RowKit
set_option maxRecDepth 100000
theorem lifted_StoreDecodes (os:Os) (started:os.Started) (H:Type) (enc:TypeId×Value→H) :
  ReturnsInHanded {} Tryz.checked os 3 .any (fun w args=>(Rows.storeDecodesSpec.pre enc Tryz.prog Tryz.f3 [] false w args∧laidMetH Tryz.prog laidL w)∧sizedMet enc Tryz.prog Tryz.f3 (OpenSpec.ofChange Rows.storeDecodesSpec) false w args)
   (Rows.storeDecodesSpec.post enc Tryz.prog Tryz.f3 false true false false):=by
 refine handed_shaped (C:=Tryz.checked) (X:=fun w _=>laidMetH Tryz.prog laidL w) (fun _ _ _ hh h=>h.of_heap hh) own started (by kernel_rfl) Tryz.func3
  (ChangeSpec.witness_shaped (enc:=enc) (C:=Tryz.checked) (os:=os) (X:=fun w _=>laidMetH Tryz.prog laidL w) false (door os) #[.agg #[.slice none 0 0,.slice none 0 0,.slice none 0 0],.int .u16 0,.int .u8 0] 12 rfl (World.shaped_of_RefB (by kernel_rfl) (by kernel_rfl)) (by kernel_rfl) (by kernel_rfl) (by kernel_rfl) (door_met os _)) ?_
 intro W base args ds gs before hsh hval hW _ _ hL _
 have hval:∀ (j:Nat) t v,Tryz.f3.params[j]?=some t→args[j]?=some v→Value.okWide Tryz.prog W .any base t v:=hval
 have hW':=hW
 obtain ⟨p,q,hA,_,_,_,_⟩:=hW
 have hA:DataW.TrodAll enc Tryz.prog W 0 (fun _=>true) true Tryz.f3.params.toList args.toList ds p:=hA
 rw [Tryz.params3] at hA hval
 obtain ⟨v1,v2,v3,d1,d2,d3,p1,p2,p3,rfl,_,_,h1,h2,h3⟩:=trodAll_three hA
 obtain ⟨q1,t1,r1⟩:=arg_typed (n:=12) (t:=26) (v:=v1) (by kernel_rfl) (hval 0 _ _ rfl rfl) h1
 obtain ⟨p1',e1,ok1⟩:=ty_plan t1
 rw [e1] at r1
 obtain ⟨q2,t2,r2⟩:=arg_typed (n:=12) (t:=27) (v:=v2) (by kernel_rfl) (hval 1 _ _ rfl rfl) h2
 obtain ⟨a1,e2,ok2⟩:=ty_u16 t2
 rw [e2] at r2
 obtain ⟨q3,t3,r3⟩:=arg_typed (n:=12) (t:=5) (v:=v3) (by kernel_rfl) (hval 2 _ _ rfl rfl) h3
 obtain ⟨b1,e3,ok3⟩:=ty_u8 t3
 rw [e3] at r3
 have run:=r_StoreDecodes Cq67_uni rfl rfl rfl rfl rfl rfl rfl rfl rfl p1' ok1 a1 b1 ok2 ok3
 refine (Run.calls Cq67_ok fol names run (glob hsh hL) (vrs_cons r1 (vrs_cons r2 (vrs_cons r3 vrs_nil)))).mono fun e' W' ⟨he,hb⟩=>?_
 subst he
 exact ⟨_,rfl,law_post laidOut rfl hW' hb rfl Tryz.underlying4 (by kernel_rfl) (fun ds hg hd=>by
  subst hg
  match ds,hd with
  | [d1,d2,d3],_=>rfl)⟩
theorem storeDecodes_holds:Rows.StoreDecodesSaid:=
 OpenClaim.holds_of_wide 3 Tryz.f3 rfl rfl rfl rfl rfl rfl rfl ⟨rfl,rfl,rfl,rfl,rfl⟩ rfl rfl rfl rfl rfl (by kernel_rfl) Tryz.func3 (by kernel_rfl)
  (of_decide_eq_true (by kernel_rfl)) (by unfold Func.isWrapper;first | (rw [if_pos (by decide +kernel)];kernel_rfl) | (rw [if_neg (by decide +kernel)];exact ⟨rfl,rfl⟩))
  (fun os started H enc _=>lifted_StoreDecodes os started H enc)
theorem storeDecodes_card:Rows.StoreDecodesCardSaid:=
 Claim7.holds_tied_plain_at .later [] [.data,.data,.data] true (true,"06518084b796e290cff189155ad7057fb400f94426e64236ea98ba44b61cfdba") false
  storeDecodes_holds (fun _ h=>by cases h) (by kernel_rfl) (fun _ h=>by cases h) storeDecodes_row_tie rfl ⟨rfl,rfl⟩ (by kernel_rfl) rfl
  (fun f fn hf hfn=>by
   obtain rfl:f=3:=Option.some.inj ((show Tryz.prog.funcNamed "bombarde/bombardelaw53.StoreDecodes" = some 3 by kernel_rfl).symm.trans hf) |>.symm
   obtain rfl:fn=Tryz.f3:=(Option.some.inj (Tryz.func3.symm.trans hfn)).symm
   exact ⟨by kernel_rfl,fun j t ht=>by
    rw [Tryz.params3] at ht
    have hm:=Array.mem_of_getElem? ht
    have hall:(#[26,27,5].all fun u=>!Tryz.prog.wantsStandIn u)=true:=by kernel_rfl
    have:=Array.all_eq_true_iff_forall_mem.1 hall t hm
    exact (show Tryz.prog.wantsStandIn t=false by simpa using this)⟩)
  (by kernel_rfl)
end Go.Proofs.YtefkonhamghgfaaGreatDoor
