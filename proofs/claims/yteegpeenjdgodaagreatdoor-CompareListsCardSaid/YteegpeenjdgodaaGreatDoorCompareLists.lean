/-
  CompareLists holds: the law answers true, whatever it is handed.
-/
import Derived.Test.YteegpeenjdgodaaGreatDoorLZ
set_option linter.all false
set_option maxHeartbeats 40000000
set_option maxRecDepth 100000
open Go.Proofs.Tryz
namespace Go.Proofs.YteegpeenjdgodaaGreatDoor
open Go Go.Kz Go.ChangeShapes Go.WideShapes Go.ChangeAt Go.WideMaps Go.WideElems Go.RowKit
set_option maxRecDepth 100000
theorem ty_changes{d:Nat}{qs:Jq}(h:Typed prog (d+8) 40 qs):∃l:List rE,lZ prog 40 qs=(Em.change.list 7).aB l/\∀c∈l,yQ c.kind/\tA c.dQ/\gG c.extra:=by
 obtain⟨l,rfl,hl,ho⟩:=KG (em:=Em.change) (R:=fun c=>yQ c.kind/\tA c.dQ/\gG c.extra) underlying40 (k:=7) (by kernel_rfl) (fun x hx=>aBf hx) h
 exact⟨l,aHU (by kernel_rfl),ho⟩
end Go.Proofs.YteegpeenjdgodaaGreatDoor
namespace Go.Kz
open Go Go.Proofs
section
variable{E:aE}(hU:aJ E)
include hU
theorem r_CompareLists(h0:E 4=none)(h1:E 10=some RE)(h2:E 11=some MH)(h3:E 13=some zV)(h4:E 16=some N8)(h6:E 18=some AQ)
  (h7:E 15=some (fH Em.bB eF)) (h8:E 17=some OA) (eW:E 19=some OC)
  (p:pF) (l:List rE) (hp:tA p) (hc:∀c∈l,yQ c.kind/\tA c.dQ/\gG c.extra):aI prog E 4 [Em.dQ.aB p,(Em.change.list 7).aB l] (Em.bool.aB true):=by
 have k:=aGw;have fp:=S6 p;simp only[qL,aU]at fp;cases cp:mF p with
 |false=>
  rw[cp]at fp;simp only[qL,aU];refine aI.aG 114 h0 func4 (h:=?_);refine aC (A4 h1 @k h2 fp) ?_;exact ag
 |true=>
 rw[cp]at fp
 by_cases c4:l.length<=4
 rotate_left
 .have q1:(4:Int)<(l.length:Int):=by omega
  simp only[qL,aU];refine aI.aG 114 h0 func4 (h:=?_);refine aC (A5 h1 @k h2 fp q1) ?_;exact ag
 have q1:¬(4:Int)<(l.length:Int):=Cj;have mp:=J0 hp cp;have hR:=F6 hp cp;obtain⟨O,hO⟩:=gn (fU p);rw[hO]at mp hR;clear hO;obtain⟨on,rs,dd,cc⟩:=O;simp only[dT,qL,aU]at mp ⊢;refine aI.aG 114 h0 func4 (h:=?_);refine aC (A7 h1 @k h2 fp q1 h3 @mp) ?_;obtain⟨X0,qR⟩:=gn (aA.box (.agg [.slice (sz 9 p.aR) (p.aR.map Em.xG.aB) .any,.slice (sz 4 p.aD) (p.aD.map Em.CW.aB) .any,.slice (sz 4 p.aP) (p.aP.map Em.link.aB) .any]));rw[qR];clear qR mp;have aTZ:∀ys:List cF,ys.map Em.edit.aB=[]\/sz 24 ys=24:=λys=>by
  unfold sz
  by_cases h:ys=[]
  .exact .inl Eb
  .exact .inr (yAI (λe=>h (yAf e)))
 refine Wp.dJ (λm fr σ=>∃(i:Nat) (ys:List cF),∃gg:Nat->PD,(i+m=l.length/\ys.length<=i/\(∀x∈ys,kL x))/\fr=gg 0::.slice (sz 7 l) (l.map Em.change.aB) .any::.ptr 0 0::gg 3::gg 4::.ptr 1 0::.slice (sz 24 ys) (ys.map Em.edit.aB) (iM 2 ys.length)::.int .i64 i::gg 8::gg 9::gg 10::gg 11::gg 12::gg 13::gg 14::gg 15::gg 16::gg 17::gg 18::gg 19::gg 20::gg 21::gg 22::gg 23::gg 24::gg 25::gg 26::gg 27::gg 28::gg 29::gg 30::gg 31::gg 32::gg 33::gg 34::gg 35::gg 36::gg 37::gg 38::gg 39::gg 40::gg 41::gg 42::gg 43::gg 44::gg 45::gg 46::gg 47::gg 48::gg 49::gg 50::gg 51::gg 52::gg 53::gg 54::gg 55::gg 56::gg 57::gg 58::gg 59::gg 60::gg 61::gg 62::gg 63::gg 64::gg 65::gg 66::gg 67::gg 68::gg 69::gg 70::gg 71::gg 72::gg 73::gg 74::gg 75::gg 76::gg 77::gg 78::gg 79::gg 80::gg 81::gg 82::gg 83::gg 84::gg 85::gg 86::gg 87::gg 88::gg 89::gg 90::gg 91::gg 92::gg 93::gg 94::gg 95::gg 96::gg 97::gg 98::gg 99::gg 100::gg 101::gg 102::gg 103::gg 104::gg 105::gg 106::gg 107::gg 108::gg 109::gg 110::gg 111::gg 112::gg 113::[]/\σ=St [X0,.box (.agg [.str on,.slice (sz 6 rs) (rs.map Em.aL.aB) .any,.slice (sz 5 dd) (dd.map Em.div.aB) .any,.slice (sz 5 cc) (cc.map Em.aZ.aB) .any])] 60 24 ys.length) ?_ (l.length) (by refine⟨0,[],?_⟩;exact p6 (⟨Cj,yAF _,λ_ h=>Co⟩) Fy Fy)
 rintro m fr σ ⟨i,ys,gg,hI,rfl,rfl⟩
 obtain⟨hm,hyl,hyf⟩:=hI
 by_cases hi:i<l.length
 rotate_left
 .have q2:¬(i:Int)<(l.length:Int):=by omega
  have k8:=aA6 (q:=.slice (sz 24 ys) (ys.map Em.edit.aB) (iM 2 ys.length)) hR.cL hyf Cj (by rw[uM,aU]);have hA:xF ⟨on,rs,dd,cc⟩ ys=yO ⟨on,rs,dd,cc⟩ ys 0:=by unfold xF;rw[yAJ hR.1,yAJ Cj]
  obtain⟨⟨g,fd,e⟩,hW⟩:∃r,yO ⟨on,rs,dd,cc⟩ ys 0=r:=⟨_,rfl⟩;rw[hA,hW]at k8;have k9:=aA6 (l:=List.replicate 2001 AR) (q:=.slice 24 (List.replicate 2001 (.agg [.int .i64 0,.int .i64 0,.int .i64 0,.str [],.str [],.str [],.int .i64 0,.int .i64 0,.int .i64 0,.slice 0 [] .full,.str [],.bool false,.int .i64 0,.int .i64 0,.slice 0 [] .full,.str [],.int .i64 0,.int .i64 0,.slice 0 [] .full,.str [],.int .i64 0,.int .i64 0,.int .i64 0,.bool false])) .full) hR.cL (λx h=>by rw[List.eq_of_mem_replicate h];exact aA9) (by rw[yEd];decide) (by rw[PD.sA,aU,List.map_replicate,List.map_replicate];rfl);have EH:xF ⟨on,rs,dd,cc⟩ (List.replicate 2001 AR)=(gE,0,4):=by unfold xF;rw[yAJ hR.1,yAI (by rw[yEd];decide)]
  rw[EH]at k9;obtain⟨BIG,hBIG⟩:=gn (List.replicate 2001 (PD.agg [.int .i64 0,.int .i64 0,.int .i64 0,.str [],.str [],.str [],.int .i64 0,.int .i64 0,.int .i64 0,.slice 0 [] .full,.str [],.bool false,.int .i64 0,.int .i64 0,.slice 0 [] .full,.str [],.int .i64 0,.int .i64 0,.slice 0 [] .full,.str [],.int .i64 0,.int .i64 0,.int .i64 0,.bool false]));have hmk:∀σ,tM prog σ 41 60 2001 2001=some (.slice 24 BIG .full,σ):=λσ=>by rw[<-hBIG];kernel_rfl
  rw[hBIG]at k9;clear hBIG;obtain⟨gnn,gr,gd,gc⟩:=g;simp only[dT,aU]at k8 k9;refine aC (A5 q2 h8 k8 k9 hmk) ?_;obtain⟨B0,EX⟩:=gn (St [X0,.box (.agg [.str on,.slice (sz 6 rs) (rs.map Em.aL.aB) .any,.slice (sz 5 dd) (dd.map Em.div.aB) .any,.slice (sz 5 cc) (cc.map Em.aZ.aB) .any])] 60 24 ys.length);obtain⟨ZB,hZB⟩:=gn (aA.box (.agg [.str gE.name,.slice (sz 6 gE.aR) (gE.aR.map Em.aL.aB) .any,.slice (sz 5 gE.aD) (gE.aD.map Em.div.aB) .any,.slice (sz 5 gE.aP) (gE.aP.map Em.aZ.aB) .any]));rw[EX,hZB];have w0:B0[1]?=some (.box (Em.bB.aB ⟨on,rs,dd,cc⟩)):=by rw[<-EX,dT];simp[aU]
  have l0:1<B0.length:=(yA.1 w0).1;obtain⟨n0,hn0⟩:=gn (B0.length);have v0:(B0++[.box (.agg [.str gnn,.slice (sz 6 gr) (gr.map Em.aL.aB) .any,.slice (sz 5 gd) (gd.map Em.div.aB) .any,.slice (sz 5 gc) (gc.map Em.aZ.aB) .any]),ZB])[n0]?=some (.box (.agg [.str gnn,.slice (sz 6 gr) (gr.map Em.aL.aB) .any,.slice (sz 5 gd) (gd.map Em.div.aB) .any,.slice (sz 5 gc) (gc.map Em.aZ.aB) .any])):=by rw[<-hn0];simp
  rw[hn0]at l0 ⊢;clear k8 k9 hmk hA EH EX hZB;refine Wp.dJ (λm fr σ=>∃(j:Nat) (q:aV) (σ1:List aA),∃gg:Nat->PD,(j+m=ys.length/\lA q/\yO q (ys.drop j) (j:Int)=(⟨gnn,gr,gd,gc⟩,fd,e)/\σ1[1]?=some (.box (Em.bB.aB q))/\σ1[n0]?=some (.box (.agg [.str gnn,.slice (sz 6 gr) (gr.map Em.aL.aB) .any,.slice (sz 5 gd) (gd.map Em.div.aB) .any,.slice (sz 5 gc) (gc.map Em.aZ.aB) .any])))/\fr=gg 0::gg 1::gg 2::gg 3::gg 4::.ptr 1 0::.slice (sz 24 ys) (ys.map Em.edit.aB) (iM 2 ys.length)::gg 7::.ptr n0 0::.int .i64 fd::.int .i64 e::gg 11::gg 12::gg 13::.int .i64 j::gg 15::gg 16::gg 17::gg 18::gg 19::gg 20::gg 21::gg 22::gg 23::gg 24::gg 25::gg 26::gg 27::gg 28::gg 29::gg 30::gg 31::gg 32::gg 33::gg 34::gg 35::gg 36::gg 37::gg 38::gg 39::gg 40::gg 41::gg 42::gg 43::gg 44::gg 45::gg 46::gg 47::gg 48::gg 49::gg 50::gg 51::gg 52::gg 53::gg 54::gg 55::gg 56::gg 57::gg 58::gg 59::gg 60::gg 61::gg 62::gg 63::gg 64::gg 65::gg 66::gg 67::gg 68::gg 69::gg 70::gg 71::gg 72::gg 73::gg 74::gg 75::gg 76::gg 77::gg 78::gg 79::gg 80::gg 81::gg 82::gg 83::gg 84::gg 85::gg 86::gg 87::gg 88::gg 89::gg 90::gg 91::gg 92::gg 93::gg 94::gg 95::gg 96::gg 97::gg 98::gg 99::gg 100::gg 101::gg 102::gg 103::gg 104::gg 105::gg 106::gg 107::gg 108::gg 109::gg 110::gg 111::gg 112::gg 113::[]/\σ=σ1) ?_ (ys.length) (by refine⟨0,⟨on,rs,dd,cc⟩,B0++[.box (.agg [.str gnn,.slice (sz 6 gr) (gr.map Em.aL.aB) .any,.slice (sz 5 gd) (gd.map Em.div.aB) .any,.slice (sz 5 gc) (gc.map Em.aZ.aB) .any]),ZB],?_⟩;exact cE (⟨Cj,hR,hW,bG w0,v0⟩))
  rintro m fr σ ⟨j,q,σ1,gg,hI,rfl,rfl⟩
  obtain⟨hm2,hq,hs,g1,g2⟩:=hI
  by_cases hj:j<ys.length
  rotate_left
  .have q3:¬(j:Int)<(ys.length:Int):=by omega
   rw[yAs Cj]at hs;unfold yO at hs;obtain⟨qn,qr,qd,qc⟩:=q;simp only[yAc,aV.mk.injEq]at hs;obtain⟨⟨rfl,rfl,rfl,rfl⟩,rfl,rfl⟩:=hs;have k7:=oR (a:=Em.bB) (R:=eF) hq.cL.eF hq.cL.eF;rw[yAX rfl]at k7;simp only[dT,aU]at k7 g1;obtain⟨w1,z1⟩:=yA.1 g1;obtain⟨w2,z2⟩:=yA.1 g2;refine aC (A9 q3 @g1 w1 z1 @g2 w2 @z2 h7 k7) ?_;exact ag
  have q3:(j:Int)<(ys.length:Int):=Cj;obtain⟨x,hxe⟩:=gn (ys[j]);have hxx:kL x:=hyf x (by rw[<-hxe];exact yAm hj);have dX:ys.drop j=x::ys.drop (j+1):=by rw[yAq hj,hxe]
  rw[dX]at hs;unfold yO at hs;have k6:=λfl σ=>TV hq hxx fl σ
  have hrt:=aBc hq hxx;obtain⟨⟨o2,f⟩,hr⟩:∃r,lB q x=r:=⟨_,rfl⟩;rw[hr]at k6 hs hrt;simp only at k6 hs hrt;obtain⟨kd,dv,ix,nm,⟨rn,rt,ra,rb,rf,wd⟩,⟨fn,fp2,flo,fhi,fs⟩,⟨sn,sa,sb,sg⟩,⟨cn,ca,cb,cs,ct⟩⟩:=x;obtain⟨qn,qr,qd,qc⟩:=q;obtain⟨J7,J8,J9,KA⟩:=o2;simp only[bZ,dT,aU]at k6 g1;have j1:∀z:aA,(σ++[z])[1]?=some (.box (.agg [.str qn,.slice (sz 6 qr) (qr.map Em.aL.aB) .any,.slice (sz 5 qd) (qd.map Em.div.aB) .any,.slice (sz 5 qc) (qc.map Em.aZ.aB) .any])):=λz=>bG g1
  have j2:∀z:aA,(σ++[z])[σ.length]?=some z:=λz=>Ck
  have j3:∀z y:aA,(σ++[z]).set σ.length y=σ++[y]:=λz y=>Ck
  have j4:=λz:aA=>bG (τ:=[z]) g2
  obtain⟨w1,z1⟩:=yA.1 g1;obtain⟨w2,z2⟩:=yA.1 g2
  by_cases hf:f=0
  .subst hf;rw[yAJ rfl]at hs;have G4:=hrt rfl;refine aC (A16 q3 hj hxe @g1 w1 z1 @g2 w2 @z2 j1 j2 j3 j4 h6 k6 @bZ) ?_;refine bM.normal (m-1) Cj ⟨j+1,⟨J7,J8,J9,KA⟩,_,cE (⟨Cj,G4,hs,bG (yAj w1),bG (by rw[yAd Cj];exact g2)⟩)⟩
  .rw[yAI hf]at hs;simp only[yAc]at hs;obtain⟨hg,rfl,rfl⟩:=hs;obtain⟨rfl,rfl,rfl,rfl⟩:gnn=[]/\gr=[]/\gd=[]/\gc=[]:=by cases hg;exact⟨rfl,rfl,rfl,rfl⟩
   have EU:=aHD aBa.eF;rw[yAX rfl]at EU;have zO:Em.bB.aB gE=.agg [.str [],.slice 0 [] .any,.slice 0 [] .any,.slice 0 [] .any]:=rfl;have g3:σ[n0]?=some (.box (Em.bB.aB gE)):=g2;rw[zO]at EU g3;have j5:=λz:aA=>bG (τ:=[z]) g3
   obtain⟨w3,z3⟩:=yA.1 g3;refine aC (A19 q3 hj hxe @g1 w1 z1 @g3 w3 @z3 j1 j2 j3 j5 h6 k6 @bZ hf eW EU) ?_;exact ag
 have q2:(i:Int)<(l.length:Int):=Cj;obtain⟨x,hxe⟩:=gn (l[i]);have hxx:=hc x (by rw[<-hxe];exact yAm hi);have fq:=S6 x.dQ;cases cq:mF x.dQ with
 |false=>
  rw[cq]at fq;obtain⟨kd,dv,ix,⟨pr,pd,pc⟩,ex⟩:=x;simp only[qL,aU]at fq;refine aC (A6 q2 hi hxe h2 fq @zI) ?_;exact ag
 |true=>
  have hcg:zJ x:=⟨hxx.1,hxx.2.1,cq,hxx.2.2⟩;have mc:=aHC hcg;have hX:=aHF hcg;obtain⟨X,hXe⟩:=gn (sM x);rw[hXe]at mc hX;rw[cq]at fq;obtain⟨kd,dv,ix,⟨pr,pd,pc⟩,ex⟩:=x;obtain⟨yk,yd,yi,nm,⟨rn,rt,ra,rb,rf,wd⟩,⟨fn,fp2,flo,fhi,fs⟩,⟨sn,sa,sb,sg⟩,⟨cn,ca,cb,cs,ct⟩⟩:=X;simp only[qL,aU]at fq;simp only[zI,bZ,qL,aU]at mc;have hap:=aTZ ys;refine aC (A9 q2 hi hxe h2 fq @zI h4 mc hap) ?_;refine bM.normal (m-1) Cj (by refine⟨i+1,ys++[⟨yk,yd,yi,nm,⟨rn,rt,ra,rb,rf,wd⟩,⟨fn,fp2,flo,fhi,fs⟩,⟨sn,sa,sb,sg⟩,⟨cn,ca,cb,cs,ct⟩⟩],?_⟩;exact p6 (⟨Cj,by rw[yAa];exact Nat.succ_le_succ hyl,λx h=>(yBh.1 h).elim (hyf x) λh=>by rw[yCn.1 h];exact hX⟩) Fl Fl)
end
end Go.Kz
namespace Go.Proofs.YteegpeenjdgodaaGreatDoor
open Go Go.Kz Go.ChangeShapes Go.WideShapes Go.ChangeAt Go.WideMaps Go.WideElems Go.RowKit
set_option maxRecDepth 100000
theorem lifted_CompareLists(os:Os)(started:os.Started)(H:Type)(enc:TypeId×Value->H) :
  ReturnsInHanded {} Tryz.checked os 4 .any (fun w args=>(Rows.compareListsSpec.pre enc prog Tryz.f4 [] false w args/\laidMetH prog AS w)/\sizedMet enc prog Tryz.f4 (OpenSpec.ofChange Rows.compareListsSpec) false w args)
   (Rows.compareListsSpec.post enc prog Tryz.f4 false true false false):=by
 refine aBd (C:=Tryz.checked) (X:=fun w _=>laidMetH prog AS w) (fun _ _ _ hh h=>h.of_heap hh) own started (by kernel_rfl) func4
  (ChangeSpec.witness_shaped (enc:=enc) (C:=Tryz.checked) (os:=os) (X:=fun w _=>laidMetH prog AS w) false (TY os) #[.agg #[.slice none 0 0,.slice none 0 0,.slice none 0 0],.slice none 0 0] 12 rfl (World.shaped_of_RefB (by kernel_rfl) (by kernel_rfl)) (by kernel_rfl) (by kernel_rfl) (by kernel_rfl) (aBe os _)) ?_
 intro W base args ds gs before hsh hval hW _ _ hL _
 have hval:∀(j:Nat) t v,Tryz.f4.params[j]?=some t->args[j]?=some v->Value.okWide prog W .any base t v:=hval
 have HC:=hW
 obtain⟨p,q,hA,_,_,_,_⟩:=hW
 have hA:DataW.TrodAll enc prog W 0 (fun _=>true) true Tryz.f4.params.toList args.toList ds p:=hA
 rw[Tryz.params4]at hA hval
 obtain⟨v1,v2,d1,d2,p1,p2,rfl,_,_,h1,h2⟩:=trodAll_two hA
 obtain⟨q1,t1,r1⟩:=OL (n:=12) (t:=26) (v:=v1) (by kernel_rfl) (hval 0 _ _ rfl rfl) h1
 obtain⟨p1',e1,KB⟩:=TZ t1
 rw[e1]at r1
 obtain⟨q2,t2,r2⟩:=OL (n:=12) (t:=40) (v:=v2) (by kernel_rfl) (hval 1 _ _ rfl rfl) h2
 obtain⟨CU,e2,KC⟩:=ty_changes t2
 rw[e2]at r2
 have run:=r_CompareLists aBg rfl rfl rfl rfl rfl rfl rfl rfl rfl p1' CU KB KC
 refine(aI.calls aBh bK names run (kG hsh hL) (OM r1 (OM r2 aBi))).mono fun e' W' ⟨he,hb⟩=>?_
 subst he
 exact⟨_,rfl,aBj laidOut rfl HC hb rfl underlying4 (by kernel_rfl) (fun ds hg hd=>by
  subst hg
  match ds,hd with
  | [d1,d2],_=>rfl)⟩
theorem compareLists_holds:Rows.CompareListsSaid:=
 OpenClaim.holds_of_wide 4 Tryz.f4 rfl rfl rfl rfl rfl rfl rfl ⟨rfl,rfl,rfl,rfl,rfl⟩ rfl rfl rfl rfl rfl (by kernel_rfl) func4 (by kernel_rfl)
  (of_decide_eq_true (by kernel_rfl)) (by unfold Func.isWrapper;first|(rw[yAJ (by decide +kernel)];kernel_rfl)|(rw[yAI (by decide +kernel)];exact⟨rfl,rfl⟩))
  (fun os started H enc _=>lifted_CompareLists os started H enc)
theorem compareLists_card:Rows.CompareListsCardSaid:=
 Claim7.holds_tied_plain_at .later [] [.data,.data,.data] true (true,"fb728158b6e916623bad043b76e2826853c2cfa1ed62eb5aad62ad7867ddaab4") false
  compareLists_holds (fun _ h=>by cases h) (by kernel_rfl) (fun _ h=>by cases h) compareLists_row_tie rfl ⟨rfl,rfl⟩ (by kernel_rfl) rfl
  (fun f fn hf hfn=>by
   obtain rfl:f=4:=yAR ((show prog.funcNamed "bombarde/bombardelaw51.CompareLists" = some 4 by kernel_rfl).symm.trans hf) |>.symm
   obtain rfl:fn=Tryz.f4:=(yAR (func4.symm.trans hfn)).symm
   exact⟨by kernel_rfl,fun j t ht=>by
    rw[Tryz.params4]at ht
    have hm:=yDn ht
    have hall:(#[26,40].all fun u=>!prog.wantsStandIn u)=true:=by kernel_rfl
    have:=yEo.1 hall t hm
    exact(show prog.wantsStandIn t=false by simpa using this)⟩)
  (by kernel_rfl)
end Go.Proofs.YteegpeenjdgodaaGreatDoor
