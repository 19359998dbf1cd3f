import Derived.Test.YteegpeenjdgodaaGreatDoorUZ
set_option linter.all false
set_option maxHeartbeats 40000000
set_option maxRecDepth 100000
open Go.Proofs.Tryz
noncomputable section
namespace Go.Kz
open Go Go.Proofs
section
def mP(J:List aB)(b:Nat)(tok:Tok)(n:Nat):Prop:=(n=0/\tok=.full)\/(0<n/\∃id,tok=.own (id+b)/\J[id]?=some (.own 60 24 n))
theorem mP.more{J:Ex}{b n:Nat}{tok:Tok}(h:mP J b tok n)(K:List aB):mP (J++K) b tok n:=by
 rcases h with h | ⟨h0,id,h1,h2⟩
 .exact .inl h
 .exact .inr ⟨h0,id,h1,by rw[yAg (yA.1 h2).1];exact h2⟩
theorem mP.set{J:Ex}{b n i:Nat}{tok:Tok}{o:aB}(h:mP J b tok n)(hi:J[i]?=some o)(ho:∀e k n,o≠.own e k n)(x:aB):mP (J.set i x) b tok n:=by
 rcases h with h | ⟨h0,id,h1,h2⟩
 .exact .inl h
 .refine .inr ⟨h0,id,h1,?_⟩;have:i≠id:=λe=>by
   subst e;rw[hi]at h2;exact ho _ _ _ (yBe h2)
  rw[yAd this];exact h2
theorem zZ{B J:Ex}{b s:Nat}{xs:Ey}{p:PD}{tk tok:Tok}(hb:B.length=b)(hs:xs=[]\/s=24)(hr:mP J b tok xs.length)(hm:xs.length<=100000) :
  ∃fG J',fA prog 0 (B++J) 41 (.slice s xs tok) (.slice 24 [p] tk)=some (.slice 24 (xs++[p]) fG,B++J')/\mP J' b fG (xs.length+1)/\(∀(i:Nat) (o:aB),(∀e k n,o≠.own e k n)->J[i]?=some o->J'[i]?=some o)/\J.length<=J'.length:=by
 have hbt:fT prog 60=some (24,288):=yf;have hm2:(xs.length+1)*288<=140737488355328:=ye;rcases hr with⟨h0,rfl⟩ | ⟨h0,id,rfl,h2⟩
 .have hx:xs=[]:=yAf h0;subst hx;refine⟨_,J++[.own 60 24 1],?_,.inr ⟨Nat.succ_pos _,J.length,rfl,yAB⟩,λi o _ h=>?_,yg⟩
  .rw[aFL underlying41 hbt ye,yAi,yAa,hb,yDp b];rfl
  .exact kf
 .have hs':s=24:=hs.resolve_left λe=>by rw[e]at h0;exact absurd h0 yj
  subst hs';refine⟨_,J.set id (.own 60 24 (xs.length+1)),?_,.inr ⟨Nat.succ_pos _,id,rfl,yAj (yA.1 h2).1⟩,λi o ho h=>?_,yg⟩
  .have hg:(B++J)[id+b]?=some (.own 60 24 xs.length):=by rw[yBz ye,hb,yDB];exact h2
   rw[aFM underlying41 hbt hg ye hm2,yDA _ _ ye,hb,yDB]
  .exact nk
def Marks(ms:List Nat)(J:List aB)(b:Nat):Prop:=ms.Nodup/\∀m∈ms,∃k,m=k+b/\J[k]?=some .mark
theorem Marks.nil{J:Ex}{b:Nat}:Marks [] J b:=⟨List.nodup_nil,λm h=>yw⟩
theorem Marks.bF{ms:List Nat}{J J':Ex}{b:Nat}(h:Marks ms J b)(hk:∀i:Nat,J[i]?=some .mark->J'[i]?=some .mark):Marks ms J' b:=
 ⟨h.1,λm hm=>by
  obtain⟨k,e,h2⟩:=h.2 m hm;exact⟨k,e,hk k h2⟩⟩
theorem Marks.more{ms:List Nat}{J:Ex}{b:Nat}(h:Marks ms J b)(K:List aB):Marks ms (J++K) b:=
 h.bF λi h=>by rw[yAg (yA.1 h).1];exact h
theorem Marks.set{ms:List Nat}{J:Ex}{b i:Nat}{o:aB}(h:Marks ms J b)(hi:J[i]?=some o)(ho:o≠.mark)(x:aB):Marks ms (J.set i x) b:=
 h.bF λj hj=>by
  have:i≠j:=λe=>by
   subst e;rw[hi]at hj;exact ho (yBe hj)
  rw[yAd this];exact hj
theorem Marks.lt{ms:List Nat}{J:Ex}{b m:Nat}(h:Marks ms J b)(hm:m∈ms):m<J.length+b:=by
 obtain⟨k,e,h2⟩:=h.2 m hm;have:=(yA.1 h2).1;omega
theorem Marks.cons{ms:List Nat}{J:Ex}{b k:Nat}(h:Marks ms J b)(hn:k+b∉ms)(hk:J[k]?=some .mark):Marks ((k+b)::ms) J b:=
 ⟨List.nodup_cons.2 ⟨hn,h.1⟩,λm hm=>by
  rcases yBD.1 hm with rfl|hm
  .exact⟨k,rfl,hk⟩
  .exact h.2 m hm⟩
theorem aFe:∀(ms:List Nat) (σ:List aB),ms.Nodup->(∀m∈ms,σ[m]?=some .mark)->∃σ',tX 0 ms σ=some σ'
 | [],σ,_,_=>⟨σ,rfl⟩
 |m::ms,σ,hn,h=>by
  obtain⟨h1,h2⟩:=List.nodup_cons.1 hn;obtain⟨σ',h3⟩:=aFe ms (σ.set m .none) h2 λk hk=>by
   have:m≠k:=λe=>h1 (by rw[e];exact hk)
   rw[yAd this];exact h k (yBV _ hk)
  refine⟨σ',?_⟩;rw[tX,yAJ (yAF m),h m (yBh ..)];exact h3
theorem Marks.drop{ms:List Nat}{B J:Ex}{b:Nat}(h:Marks ms J b)(hb:B.length=b):∃σ',tX 0 ms (B++J)=some σ':=
 aFe ms _ h.1 λm hm=>by
  obtain⟨k,rfl,h2⟩:=h.2 m hm;rw[yBz ye,hb,yDB];exact h2
section
variable{P:Program}{E:aE}{fl:Nat}{rd:Option Nat}{Q:PO->Prop}
structure D6 (I:Nat->List PD->List Nat->List aB->Prop) (m:Nat) (Q:PO->Prop) (r:PO):Prop where
 nx:r.x=.normal->∃m',m'<m/\I m' r.fr r.ms r.σ
 out:r.x≠.normal->Q r
theorem D6.normal{I:Nat->List PD->List Nat->List aB->Prop}{m:Nat}{fr:Ey}{ms:List Nat}{σ:Ex}(m':Nat)(h:m'<m)(k:I m' fr ms σ):D6 I m Q ⟨.normal,fr,ms,σ⟩:=⟨λ_=>⟨m',h,k⟩,λe=>absurd rfl e⟩
theorem D6.exit{I:Nat->List PD->List Nat->List aB->Prop}{m k:Nat}{fr:Ey}{ms:List Nat}{σ:Ex}(h:Q ⟨.exit k,fr,ms,σ⟩):D6 I m Q ⟨.exit k,fr,ms,σ⟩:=⟨λe=>zu,λ_=>h⟩
theorem Wp.aQP{b:Code}(I:Nat->List PD->List Nat->List aB->Prop)(h:∀m fr ms σ,I m fr ms σ->Wp P E rd b fl fr ms σ (D6 I m Q)):∀m {fr ms σ},I m fr ms σ->Wp P E rd (.loop b) fl fr ms σ Q:=by
 intro m
 induction m using Nat.strongRecOn with
 |ind m ih=>
  intro fr ms σ hi;refine Wp.loop ((h m fr ms σ hi).mono λr hr=>⟨λe=>?_,λe=>hr.out e⟩);obtain⟨m',h1,h2⟩:=hr.nx e;exact ih m' h1 h2
end
theorem aQQ{k:Nat}(h:0<k):eY (λi=>mQ (i+1)) k=mQ k::eY (λi=>mQ (i+1)) (k-1):=by
 obtain⟨j,rfl⟩:∃j,k=j+1:=⟨k-1,ye⟩;rfl
theorem X6{α β:Type}(f:Nat->α->β)(l:List α)(i:Nat)(h:i<l.length):(l.mapIdx f).drop i=f i l[i]::(l.mapIdx f).drop (i+1):=by
 rw[yAq (by rw[yBH];exact h),yDi]
theorem KY{α:Type}{zs l W:List α}{n:Nat}(h:zs++l=W)(hW:W.length<=n):zs.length<=n:=by
 have:=yAL List.length h;rw[yAa]at this;omega
theorem aFd{a b:aM}(ha:bS a=0)(hb:bS b=0):(lY a b).length<=10000:=by
 have h1:(n7 a).flatten.length<=600:=by
  rw[aFf];obtain⟨_,_,⟨⟨_,h3⟩,h4,_⟩,_⟩:=(gV a).1 ha;unfold tK;have:∀l:List bD,(∀d∈l,d.stops.length<=60)->(l.map λd=>d.stops.length).sum<=60*l.length:=by
   intro l
   induction l with
   |nil=>intro _;simp
   |cons d t ih=>
    intro h;exact lf
  have:=this a.aD λd hd=>((zQ _ _).1 (h4 d hd).2).2.1
  omega
 obtain⟨_,⟨a1,_⟩,⟨⟨_,a3⟩,_⟩,_⟩:=(gV a).1 ha;obtain⟨_,⟨b1,_⟩,⟨⟨_,b3⟩,_⟩,_⟩:=(gV b).1 hb;unfold lY n6;simp only[yAa,G4,yBH];omega
theorem z7(ys:List bJ):ys.map Em.edit.aA=[]\/sz 24 ys=24:=by
 unfold sz
 by_cases h:ys=[]
 .exact .inl Ah
 .exact .inr (yAI (λe=>h (yAf e)))
theorem kP{α:Type}(k:Nat):sz k ([]:List α)=0:=rfl
theorem CA(ys:List bJ)(y:bJ):sz 24 (ys++[y])=24:=by unfold sz;simp
variable{E:aE}(hU:aH E)
include hU
theorem aQw(h0:E 59=none)(h1:E 90=some G2)(h2:E 122=none)
  (h3:E 91=some G3) (h4:E 123=none)
  (a b:aM) (ha:bS a=0) (hb:bS b=0):aI prog E 59 [Em.bH.aA a,Em.bH.aA b] ((Em.edit.list 24).aA (lY a b)):=by
 have hW:=aFd ha hb;have hA:a.aK.length<=60/\a.aD.length<=8/\0<a.aD.length:=⟨((gV a).1 ha).2.1.1,((gV a).1 ha).2.2.1.1.2,yCY ((gV a).1 ha).2.2.1.1.1⟩;have hB:b.aK.length<=60/\b.aD.length<=8:=⟨((gV b).1 hb).2.1.1,((gV b).1 hb).2.2.1.1.2⟩;have hS:∀d∈a.aD,d.stops.length<=60:=λd hd=>((zQ _ _).1 (((gV a).1 ha).2.2.1.2.1 d hd).2).2.1
 have hw0:[]++(((n7 a).drop 0).flatten++eY (λi=>pA i) a.aK.length++eY (λi=>mQ (i+1)) (a.aD.length-1)++(b.aK.mapIdx λi r=>n8 i r)++n6 b)=lY a b:=rfl;have hg:∀(i:Nat) (hi:i<a.aD.length),(n7 a).drop i=eY (λk=>oA i k) a.aD[i].stops.length::(n7 a).drop (i+1):=λi hi=>by
  rw[yAq (by unfold n7;rw[yBH];exact hi)]
  congr 1
  simp only[n7,yDi]
 have hgl:∀i,a.aD.length<=i->(n7 a).drop i=[]:=λi hi=>yCk (by unfold n7;rw[yBH];exact hi)
 obtain⟨W,hWe⟩:=gn (lY a b);rw[hWe]at hW hw0 ⊢;clear hWe ha hb;obtain⟨R1,U7⟩:=gn (n6 b);obtain⟨RS,hRS⟩:=gn (n7 a);rw[hRS]at hw0 hg hgl;obtain⟨an,ar,ad,ac⟩:=a;obtain⟨bn,br,bd,bc⟩:=b;simp only at hw0 hg hgl hS hA hB;simp only[iA,aV];apply aI.qG h0 func59 rfl
 focus(simp[show Tryz.f59.ntmps=_ from rfl,List.replicate];rfl)
 refine aC trivial ?_;refine Wp.aQP (λm fr ms σ=>∃(i:Nat) (ys:List bJ) (tok:Tok) (J:List aB),∃gg:Nat->PD,(i+m=ad.length/\ys++((RS.drop i).flatten++eY (λi=>pA i) ar.length++eY (λi=>mQ (i+1)) (ad.length-1)++(br.mapIdx λi r=>n8 i r)++n6 ⟨bn,br,bd,bc⟩)=W/\mP J 3 tok ys.length/\Marks ms J 3)/\fr=gg 0::gg 1::.ptr 0 0::.ptr 1 0::gg 4::.ptr 2 0::gg 6::gg 7::gg 8::gg 9::gg 10::gg 11::gg 12::gg 13::gg 14::gg 15::gg 16::.slice (sz 5 ad) (ad.map Em.div.aA) .any::.int .i64 ad.length::.int .i64 i::gg 20::gg 21::gg 22::gg 23::gg 24::gg 25::gg 26::gg 27::gg 28::gg 29::gg 30::gg 31::gg 32::gg 33::gg 34::gg 35::gg 36::gg 37::gg 38::gg 39::gg 40::gg 41::gg 42::gg 43::gg 44::gg 45::gg 46::gg 47::gg 48::gg 49::gg 50::gg 51::gg 52::gg 53::gg 54::gg 55::gg 56::gg 57::gg 58::gg 59::gg 60::gg 61::gg 62::gg 63::gg 64::gg 65::gg 66::gg 67::gg 68::gg 69::gg 70::gg 71::gg 72::gg 73::gg 74::gg 75::gg 76::gg 77::gg 78::gg 79::gg 80::gg 81::gg 82::gg 83::gg 84::gg 85::gg 86::gg 87::gg 88::gg 89::gg 90::gg 91::gg 92::gg 93::[]/\σ=[.box (.agg [.str an,.slice (sz 6 ar) (ar.map Em.aG.aA) .any,.slice (sz 5 ad) (ad.map Em.div.aA) .any,.slice (sz 5 ac) (ac.map Em.aJ.aA) .any]),.box (.agg [.str bn,.slice (sz 6 br) (br.map Em.aG.aA) .any,.slice (sz 5 bd) (bd.map Em.div.aA) .any,.slice (sz 5 bc) (bc.map Em.aJ.aA) .any]),.box (.slice (sz 24 ys) (ys.map Em.edit.aA) tok)]++J) ?_ (ad.length) (by refine⟨0,[],.full,[],?_⟩;exact bG (⟨ye,hw0,.inl ⟨rfl,rfl⟩,.nil⟩))
 rintro m fr ms σ ⟨i,ys,tok,J,gg,hI,rfl,rfl⟩
 obtain⟨hm,hys,hrow,hmk⟩:=hI
 by_cases hi:i<ad.length
 rotate_left
 .have q2:¬(i:Int)<(ad.length:Int):=by omega
  rw[hgl i ye,List.flatten_nil,yAO]at hys;have gs:∀(fl s:Nat) (xs:List PD) (tok:Tok) (σ:List aB),G3 fl [.slice s xs tok] σ=some (.func 123 [.ptr σ.length 0],σ++[.box (.slice s xs tok)]):=λ_ _ _ _ _=>rfl
  refine aC q2 ?_;refine D6.exit ?_;refine aC (A2 h3 @gs) ?_;obtain⟨y,hy⟩:=gn (J.length);simp only[hy];refine Wp.QE (n:=y+4) (σ1:=λL=>[aB.box (.agg [.str an,.slice (sz 6 ar) (ar.map Em.aG.aA) .any,.slice (sz 5 ad) (ad.map Em.div.aA) .any,.slice (sz 5 ac) (ac.map Em.aJ.aA) .any]),.box (.agg [.str bn,.slice (sz 6 br) (br.map Em.aG.aA) .any,.slice (sz 5 bd) (bd.map Em.div.aA) .any,.slice (sz 5 bc) (bc.map Em.aJ.aA) .any]),.box (.slice (sz 24 ys) (ys.map Em.edit.aA) tok)]++(J++[.box (.slice (sz 6 ar) (ar.map Em.aG.aA) .any),.mark,L])) (aQR hU h4 ar ye (y+1+1+1)) rfl Aw (yAF _) (λL=>yg) (λL hL=>?_);refine sF.ind (λp:Nat×bB=>[PD.int .i64 (p.1:Int),Em.aG.aA p.2]) (λ_ rest σ=>∃(k:Nat) (zs:List bJ) (tk:Tok) (K:List aB),k<=ar.length/\rest=o9 ar k/\zs++(eY (λi=>pA i) k++(eY (λi=>mQ (i+1)) (ad.length-1)++((br.mapIdx λi r=>n8 i r)++n6 ⟨bn,br,bd,bc⟩)))=W/\mP K 3 tk zs.length /\
   K[y]?=some (.box (.slice (sz 6 ar) (ar.map Em.aG.aA) .any))/\K[y+1]?=some .mark/\K[y+2]?=some L/\Marks ms K 3/\σ=[aB.box (.agg [.str an,.slice (sz 6 ar) (ar.map Em.aG.aA) .any,.slice (sz 5 ad) (ad.map Em.div.aA) .any,.slice (sz 5 ac) (ac.map Em.aJ.aA) .any]),.box (.agg [.str bn,.slice (sz 6 br) (br.map Em.aG.aA) .any,.slice (sz 5 bd) (bd.map Em.div.aA) .any,.slice (sz 5 bc) (bc.map Em.aJ.aA) .any]),.box (.slice (sz 24 zs) (zs.map Em.edit.aA) tk)]++K) ?_ ?_ (o9 ar ar.length) [] _
   ⟨ar.length,ys,tok,J++[.box (.slice (sz 6 ar) (ar.map Em.aG.aA) .any),.mark,L],yAk _,rfl,by rw[<-hys];simp only[yAi],hrow.more _,Av,Av,Av,hmk.more _,rfl⟩
  .rintro done p rest σ ⟨k,zs,tk,K,hk,hrest,hzs,hr,g2,g3,g4,hmr,rfl⟩
   cases k with
   |zero=>cases hrest
   |succ k=>
    rw[z6 ye]at hrest;simp only[yC]at hrest;obtain⟨rfl,rfl⟩:=hrest;refine⟨Ax,aL.QC hL (yAF _) Bk rfl Dg λLB hLB=>?_⟩;refine aC trivial ?_;refine⟨rfl,Bk,_,Db,?_⟩;have hzl:zs.length<=10000:=by
     have:=yAL List.length hzs;rw[yAa]at this;omega
    have w4:=(yA.1 g4).1;have k2:(K.set (y+2) LB)[y]?=some (.box (.slice (sz 6 ar) (ar.map Em.aG.aA) .any)):=by rw[yAd ye];exact g2
    have k3:(K.set (y+2) LB)[y+1]?=some .mark:=by rw[yAd ye];exact g3
    have k4:(K.set (y+2) LB)[y+2]?=some LB:=yAj w4;have gT:=hr.set g4 Ad LB;have B9:∀e k n,LB≠.own e k n:=Cp;have wA:=hmr.set g4 Cb LB;obtain⟨KB,hKB⟩:=gn (K.set (y+2) LB);rw[hKB]at k2 k3 k4 gT wA ⊢;obtain⟨n5,K',hap,eN,iN,v8⟩:=zZ (B:=[aB.box (.agg [.str an,.slice (sz 6 ar) (ar.map Em.aG.aA) .any,.slice (sz 5 ad) (ad.map Em.div.aA) .any,.slice (sz 5 ac) (ac.map Em.aJ.aA) .any]),.box (.agg [.str bn,.slice (sz 6 br) (br.map Em.aG.aA) .any,.slice (sz 5 bd) (bd.map Em.div.aA) .any,.slice (sz 5 bc) (bc.map Em.aJ.aA) .any]),.box (.slice (sz 24 zs) (zs.map Em.edit.aA) tk)]) (tk:=.any) (p:=Em.edit.aA (pA k)) rfl (z7 zs) (by rw[yAe];exact gT) zo;have tL:=wA.bF λi h=>iN i _ yz h
    have j2:=iN _ _ yz k2;have j3:=iN _ _ yz k3;have j4:=iN _ _ B9 k4;obtain⟨X,hX⟩:=gn ((zs++[pA k]).map Em.edit.aA);rw[show zs.map Em.edit.aA++[Em.edit.aA (pA k)]=X by rw[<-hX,yAH];rfl]at hap;simp only[eI,pA,jN,cP,iX,kB,aV,yAQ,yAO,yBo,kP]at hap;refine aC hap ?_;refine⟨by simpa using j4,?_⟩;unfold HL;refine .inl ⟨rfl,k,zs++[pA k],n5,K'.set (y+2) L,ye,rfl,by rw[<-hzs];simp only[eY,yAi,yAQ,yAO],?_,by rw[yAd ye];exact j2,by rw[yAd ye];exact j3,yAj (yA.1 j4).1,tL.set j4 (by rw[hLB];intro h;cases h) L,?_⟩
    .have:=eN.set j4 B9 L
     rwa [yAe,<-show(zs++[pA k]).length=zs.length+1 from yAa]at this
    .subst hX;rw[CA];rfl
  .rintro done σ ⟨k,zs,tk,K,hk,hrest,hzs,hr,g2,g3,g4,hmr,rfl⟩
   cases k with
   |succ k=>rw[z6 ye]at hrest;cases hrest
   |zero=>
    refine⟨Ax,_,by unfold wL;rw[yAQ,yAQ,yAQ,yAO,show(aB.box (.agg [.str an,.slice (sz 6 ar) (ar.map Em.aG.aA) .any,.slice (sz 5 ad) (ad.map Em.div.aA) .any,.slice (sz 5 ac) (ac.map Em.aJ.aA) .any])::.box (.agg [.str bn,.slice (sz 6 br) (br.map Em.aG.aA) .any,.slice (sz 5 bd) (bd.map Em.div.aA) .any,.slice (sz 5 bc) (bc.map Em.aJ.aA) .any])::.box (.slice (sz 24 zs) (zs.map Em.edit.aA) tk)::K)[y+4+1]?=some L from g4,hL],?_⟩;have hny:y+1+3∉ms:=λh=>by have:=hmk.lt h;omega
    have wA:=Marks.cons (hmr.set g4 Cb .none) hny (by rw[yAd ye];exact g3);have gT:=hr.set g4 Ad .none;have dK:(aB.box (.agg [.str an,.slice (sz 6 ar) (ar.map Em.aG.aA) .any,.slice (sz 5 ad) (ad.map Em.div.aA) .any,.slice (sz 5 ac) (ac.map Em.aJ.aA) .any])::.box (.agg [.str bn,.slice (sz 6 br) (br.map Em.aG.aA) .any,.slice (sz 5 bd) (bd.map Em.div.aA) .any,.slice (sz 5 bc) (bc.map Em.aJ.aA) .any])::aB.box (.slice (sz 24 zs) (zs.map Em.edit.aA) tk)::K).set (y+4+1) .none=aB.box (.agg [.str an,.slice (sz 6 ar) (ar.map Em.aG.aA) .any,.slice (sz 5 ad) (ad.map Em.div.aA) .any,.slice (sz 5 ac) (ac.map Em.aJ.aA) .any])::.box (.agg [.str bn,.slice (sz 6 br) (br.map Em.aG.aA) .any,.slice (sz 5 bd) (bd.map Em.div.aA) .any,.slice (sz 5 bc) (bc.map Em.aJ.aA) .any])::.box (.slice (sz 24 zs) (zs.map Em.edit.aA) tk)::K.set (y+2) .none:=rfl;rw[dK];obtain⟨K0,GO⟩:=gn (K.set (y+2) .none);rw[GO]at gT wA ⊢;obtain⟨ms2,aFg⟩:=gn ((y+4)::ms);rw[show(y+1+3)::ms=ms2 from aFg]at wA;rw[aFg];refine aC trivial ?_;have hcast:((ad.length-1:Nat):Int)=(ad.length:Int)-1:=ye;simp only[eY,yAO]at hzs;obtain⟨R2,hR2⟩:=gn (n6 ⟨bn,br,bd,bc⟩);rw[hR2]at hzs;clear g2 g3 g4 dK GO hmr hr hys hL;refine Wp.cI (λm fr σ=>∃(k:Nat) (zs:List bJ) (tk:Tok) (K:List aB),∃gg:Nat->PD,(k+1<=ad.length/\m=k/\zs++(eY (λi=>mQ (i+1)) k++((br.mapIdx λi r=>n8 i r)++R2))=W/\mP K 3 tk zs.length/\Marks ms2 K 3)/\fr=gg 0::gg 1::.ptr 0 0::.ptr 1 0::gg 4::.ptr 2 0::gg 6::gg 7::gg 8::gg 9::.int .i64 (k:Int)::gg 11::gg 12::gg 13::gg 14::gg 15::gg 16::gg 17::gg 18::gg 19::gg 20::gg 21::gg 22::gg 23::gg 24::gg 25::gg 26::gg 27::gg 28::gg 29::gg 30::gg 31::gg 32::gg 33::gg 34::gg 35::gg 36::gg 37::gg 38::gg 39::gg 40::gg 41::gg 42::gg 43::gg 44::gg 45::gg 46::gg 47::gg 48::gg 49::gg 50::gg 51::gg 52::gg 53::gg 54::gg 55::gg 56::gg 57::gg 58::gg 59::gg 60::gg 61::gg 62::gg 63::gg 64::gg 65::gg 66::gg 67::gg 68::gg 69::gg 70::gg 71::gg 72::gg 73::gg 74::gg 75::gg 76::gg 77::gg 78::gg 79::gg 80::gg 81::gg 82::gg 83::gg 84::gg 85::gg 86::gg 87::gg 88::gg 89::gg 90::gg 91::gg 92::gg 93::[]/\σ=[aB.box (.agg [.str an,.slice (sz 6 ar) (ar.map Em.aG.aA) .any,.slice (sz 5 ad) (ad.map Em.div.aA) .any,.slice (sz 5 ac) (ac.map Em.aJ.aA) .any]),.box (.agg [.str bn,.slice (sz 6 br) (br.map Em.aG.aA) .any,.slice (sz 5 bd) (bd.map Em.div.aA) .any,.slice (sz 5 bc) (bc.map Em.aJ.aA) .any]),.box (.slice (sz 24 zs) (zs.map Em.edit.aA) tk)]++K) ?_ (ad.length-1) (by refine⟨ad.length-1,zs,tk,K0,?_⟩;exact dU (⟨ye,ye,hzs,gT,wA⟩) @hcast)
    rintro m fr σ ⟨k,zs,tk,K,gg,hI,rfl,rfl⟩
    obtain⟨hk,aT6,hzs,hr,hmr⟩:=hI
    by_cases hk0:0<k
    .have q3:(0:Int)<(k:Int):=by omega
     have hwr:IntKind.i64.wrap ((k:Int)-1)=((k-1:Nat):Int):=ym;rw[aQQ hk0]at hzs;obtain⟨n5,K',hap,eN,iN,v8⟩:=zZ (B:=[aB.box (.agg [.str an,.slice (sz 6 ar) (ar.map Em.aG.aA) .any,.slice (sz 5 ad) (ad.map Em.div.aA) .any,.slice (sz 5 ac) (ac.map Em.aJ.aA) .any]),.box (.agg [.str bn,.slice (sz 6 br) (br.map Em.aG.aA) .any,.slice (sz 5 bd) (bd.map Em.div.aA) .any,.slice (sz 5 bc) (bc.map Em.aJ.aA) .any]),.box (.slice (sz 24 zs) (zs.map Em.edit.aA) tk)]) (J:=K) (tk:=.any) (p:=Em.edit.aA (mQ k)) rfl (z7 zs) (by rw[yAe];exact hr) Ay;have tL:=(hmr).bF λi h=>iN i _ yz h
     obtain⟨X,hX⟩:=gn ((zs++[mQ k]).map Em.edit.aA);rw[show zs.map Em.edit.aA++[Em.edit.aA (mQ k)]=X by rw[<-hX,yAH];rfl]at hap;simp only[eI,mQ,jN,cP,iX,kB,aV,yAQ,yAO,yBo,kP]at hap;rw[yAe,<-show(zs++[mQ k]).length=zs.length+1 from yAa]at eN;refine aC (A4 q3 hk0 hap hwr) ?_;subst hX;refine bC.normal (m-1) ye (by refine⟨k-1,zs++[mQ k],n5,K',?_⟩;exact dU (⟨ye,ye,Cq,eN,tL⟩) @CA)
    obtain rfl:k=0:=ye;have q3:¬(0:Int)<((0:Nat):Int):=ye;simp only[eY,yAO]at hzs;refine aC q3 ?_;refine Wp.cI (λm fr σ=>∃(i:Nat) (zs:List bJ) (tk:Tok) (K:List aB),∃gg:Nat->PD,(i+m=br.length/\zs++((br.mapIdx λi r=>n8 i r).drop i++R2)=W/\mP K 3 tk zs.length/\Marks ms2 K 3)/\fr=gg 0::gg 1::.ptr 0 0::.ptr 1 0::gg 4::.ptr 2 0::gg 6::gg 7::gg 8::gg 9::gg 10::gg 11::gg 12::gg 13::gg 14::gg 15::gg 16::gg 17::gg 18::gg 19::gg 20::gg 21::gg 22::gg 23::gg 24::gg 25::gg 26::gg 27::gg 28::gg 29::gg 30::gg 31::gg 32::gg 33::gg 34::gg 35::gg 36::gg 37::gg 38::gg 39::gg 40::gg 41::gg 42::gg 43::gg 44::gg 45::gg 46::gg 47::gg 48::gg 49::gg 50::gg 51::gg 52::gg 53::gg 54::gg 55::gg 56::gg 57::gg 58::gg 59::.slice (sz 6 br) (br.map Em.aG.aA) .any::.int .i64 br.length::.int .i64 i::gg 63::gg 64::gg 65::gg 66::gg 67::gg 68::gg 69::gg 70::gg 71::gg 72::gg 73::gg 74::gg 75::gg 76::gg 77::gg 78::gg 79::gg 80::gg 81::gg 82::gg 83::gg 84::gg 85::gg 86::gg 87::gg 88::gg 89::gg 90::gg 91::gg 92::gg 93::[]/\σ=[aB.box (.agg [.str an,.slice (sz 6 ar) (ar.map Em.aG.aA) .any,.slice (sz 5 ad) (ad.map Em.div.aA) .any,.slice (sz 5 ac) (ac.map Em.aJ.aA) .any]),.box (.agg [.str bn,.slice (sz 6 br) (br.map Em.aG.aA) .any,.slice (sz 5 bd) (bd.map Em.div.aA) .any,.slice (sz 5 bc) (bc.map Em.aJ.aA) .any]),.box (.slice (sz 24 zs) (zs.map Em.edit.aA) tk)]++K) ?_ (br.length) (by refine⟨0,zs,tk,K,?_⟩;exact bG (⟨ye,hzs,hr,hmr⟩))
    rintro m fr σ ⟨i,zs,tk,K,gg,hI,rfl,rfl⟩
    obtain⟨hmi,hzs,hr,hmr⟩:=hI
    by_cases hi:i<br.length
    .have q4:(i:Int)<(br.length:Int):=by omega
     have hwr:IntKind.i64.wrap ((i:Int)+1)=(i:Int)+1:=ym;rw[X6 _ _ _ hi]at hzs;obtain⟨r,hre⟩:=gn (br[i]);rw[hre]at hzs;obtain⟨rn,rt,ra,rb,rf,wd⟩:=r;obtain⟨n5,K',hap,eN,iN,v8⟩:=zZ (B:=[aB.box (.agg [.str an,.slice (sz 6 ar) (ar.map Em.aG.aA) .any,.slice (sz 5 ad) (ad.map Em.div.aA) .any,.slice (sz 5 ac) (ac.map Em.aJ.aA) .any]),.box (.agg [.str bn,.slice (sz 6 br) (br.map Em.aG.aA) .any,.slice (sz 5 bd) (bd.map Em.div.aA) .any,.slice (sz 5 bc) (bc.map Em.aJ.aA) .any]),.box (.slice (sz 24 zs) (zs.map Em.edit.aA) tk)]) (J:=K++[.box (.agg [.str rn,.str rt,.int .i64 ra,.int .i64 rb,.int .i64 rf,.slice (sz 1 wd) (wd.map i64.aA) .any])]) (tk:=.any) (p:=Em.edit.aA (n8 i ⟨rn,rt,ra,rb,rf,wd⟩)) rfl (z7 zs) Bx Ay;have tL:=(hmr.more _).bF λi h=>iN i _ yz h
     obtain⟨X,hX⟩:=gn ((zs++[n8 i ⟨rn,rt,ra,rb,rf,wd⟩]).map Em.edit.aA);rw[show zs.map Em.edit.aA++[Em.edit.aA (n8 i ⟨rn,rt,ra,rb,rf,wd⟩)]=X by rw[<-hX,yAH];rfl]at hap;simp only[eI,n8,jN,cP,iX,kB,aV,yAQ,yAO,yBo,kP]at hap;rw[yAe,<-show(zs++[n8 i ⟨rn,rt,ra,rb,rf,wd⟩]).length=zs.length+1 from yAa]at eN;refine aC (A5 q4 hi hre @oD hap) ?_;subst hX;refine bC.normal (m-1) ye (by refine⟨i+1,zs++[n8 i ⟨rn,rt,ra,rb,rf,wd⟩],n5,K',?_⟩;exact dU (⟨ye,Cq,eN,tL⟩) (A2 @CA hwr))
    have q4:¬(i:Int)<(br.length:Int):=ye;rw[yCk (by rw[yBH];omega),yAO]at hzs;refine aC q4 ?_;refine Wp.cI (λm fr σ=>∃(i:Nat) (zs:List bJ) (tk:Tok) (K:List aB),∃gg:Nat->PD,(i+m=bd.length/\zs++(n6 ⟨bn,br,bd,bc⟩).drop i=W/\mP K 3 tk zs.length/\Marks ms2 K 3)/\fr=gg 0::gg 1::.ptr 0 0::.ptr 1 0::gg 4::.ptr 2 0::gg 6::gg 7::gg 8::gg 9::gg 10::gg 11::gg 12::gg 13::gg 14::gg 15::gg 16::gg 17::gg 18::gg 19::gg 20::gg 21::gg 22::gg 23::gg 24::gg 25::gg 26::gg 27::gg 28::gg 29::gg 30::gg 31::gg 32::gg 33::gg 34::gg 35::gg 36::gg 37::gg 38::gg 39::gg 40::gg 41::gg 42::gg 43::gg 44::gg 45::gg 46::gg 47::gg 48::gg 49::gg 50::gg 51::gg 52::gg 53::gg 54::gg 55::gg 56::gg 57::gg 58::gg 59::gg 60::gg 61::gg 62::gg 63::gg 64::gg 65::gg 66::gg 67::gg 68::gg 69::gg 70::gg 71::gg 72::gg 73::gg 74::.slice (sz 5 bd) (bd.map Em.div.aA) .any::.int .i64 bd.length::.int .i64 i::gg 78::gg 79::gg 80::gg 81::gg 82::gg 83::gg 84::gg 85::gg 86::gg 87::gg 88::gg 89::gg 90::gg 91::gg 92::gg 93::[]/\σ=[aB.box (.agg [.str an,.slice (sz 6 ar) (ar.map Em.aG.aA) .any,.slice (sz 5 ad) (ad.map Em.div.aA) .any,.slice (sz 5 ac) (ac.map Em.aJ.aA) .any]),.box (.agg [.str bn,.slice (sz 6 br) (br.map Em.aG.aA) .any,.slice (sz 5 bd) (bd.map Em.div.aA) .any,.slice (sz 5 bc) (bc.map Em.aJ.aA) .any]),.box (.slice (sz 24 zs) (zs.map Em.edit.aA) tk)]++K) ?_ (bd.length) (by refine⟨0,zs,tk,K,?_⟩;exact bG (⟨ye,by rw[hR2];exact hzs,hr,hmr⟩))
    rintro m fr σ ⟨i,zs,tk,K,gg,hI,rfl,rfl⟩
    obtain⟨hmi,hzs,hr,hmr⟩:=hI
    by_cases hi:i<bd.length
    .have q4:(i:Int)<(bd.length:Int):=by omega
     have hwr:IntKind.i64.wrap ((i:Int)+1)=(i:Int)+1:=ym;unfold n6 at hzs;rw[X6 _ _ _ hi]at hzs;obtain⟨d,hde⟩:=gn (bd[i]);rw[hde]at hzs;obtain⟨dn,dp,dl,dh,ds⟩:=d
     by_cases wX:i=0
     .rw[yAJ wX]at hzs;subst wX;obtain⟨n5,K',hap,eN,iN,v8⟩:=zZ (B:=[aB.box (.agg [.str an,.slice (sz 6 ar) (ar.map Em.aG.aA) .any,.slice (sz 5 ad) (ad.map Em.div.aA) .any,.slice (sz 5 ac) (ac.map Em.aJ.aA) .any]),.box (.agg [.str bn,.slice (sz 6 br) (br.map Em.aG.aA) .any,.slice (sz 5 bd) (bd.map Em.div.aA) .any,.slice (sz 5 bc) (bc.map Em.aJ.aA) .any]),.box (.slice (sz 24 zs) (zs.map Em.edit.aA) tk)]) (J:=K++[.box (.agg [.str dn,.bool dp,.int .i64 dl,.int .i64 dh,.slice (sz 4 ds) (ds.map Em.stop.aA) .any]),.box (.agg [.int .i64 6,.int .i64 0,.int .i64 0,.str [],.str [],.str [],.int .i64 0,.int .i64 0,.int .i64 0,.slice 0 [] .full,.str dn,.bool dp,.int .i64 dl,.int .i64 dh,.slice (sz 4 ds) (ds.map Em.stop.aA) .any,.str [],.int .i64 0,.int .i64 0,.slice 0 [] .full,.str [],.int .i64 0,.int .i64 0,.int .i64 0,.bool false])]) (tk:=.any) (p:=Em.edit.aA (wC 0 ⟨dn,dp,dl,dh,ds⟩)) rfl (z7 zs) Bx Ay;have tL:=(hmr.more _).bF λi h=>iN i _ yz h
      obtain⟨X,hX⟩:=gn ((zs++[wC 0 ⟨dn,dp,dl,dh,ds⟩]).map Em.edit.aA);rw[show zs.map Em.edit.aA++[Em.edit.aA (wC 0 ⟨dn,dp,dl,dh,ds⟩)]=X by rw[<-hX,yAH];rfl]at hap;simp only[eI,wC,show((0:Nat):Int)=0 from rfl,jN,cP,iX,kB,aV,yAQ,yAO,yBo,kP]at hap;rw[yAe,<-show(zs++[wC 0 ⟨dn,dp,dl,dh,ds⟩]).length=zs.length+1 from yAa]at eN;refine aC (A5 q4 hi hde @nN hap) ?_;subst hX;refine bC.normal (m-1) ye (by refine⟨0+1,zs++[wC 0 ⟨dn,dp,dl,dh,ds⟩],n5,K',?_⟩;exact dU (⟨ye,by rw[<-hzs];simp only[yAi,yAQ,yAO];rfl,eN,tL⟩) (A2 @CA hwr))
     .rw[yAI wX]at hzs;have q5:¬(i:Int)=0:=ye;obtain⟨n5,K',hap,eN,iN,v8⟩:=zZ (B:=[aB.box (.agg [.str an,.slice (sz 6 ar) (ar.map Em.aG.aA) .any,.slice (sz 5 ad) (ad.map Em.div.aA) .any,.slice (sz 5 ac) (ac.map Em.aJ.aA) .any]),.box (.agg [.str bn,.slice (sz 6 br) (br.map Em.aG.aA) .any,.slice (sz 5 bd) (bd.map Em.div.aA) .any,.slice (sz 5 bc) (bc.map Em.aJ.aA) .any]),.box (.slice (sz 24 zs) (zs.map Em.edit.aA) tk)]) (J:=K++[.box (.agg [.str dn,.bool dp,.int .i64 dl,.int .i64 dh,.slice (sz 4 ds) (ds.map Em.stop.aA) .any]),.box (.agg [.int .i64 4,.int .i64 0,.int .i64 i,.str [],.str [],.str [],.int .i64 0,.int .i64 0,.int .i64 0,.slice 0 [] .full,.str dn,.bool dp,.int .i64 dl,.int .i64 dh,.slice (sz 4 ds) (ds.map Em.stop.aA) .any,.str [],.int .i64 0,.int .i64 0,.slice 0 [] .full,.str [],.int .i64 0,.int .i64 0,.int .i64 0,.bool false])]) (tk:=.any) (p:=Em.edit.aA (uU i ⟨dn,dp,dl,dh,ds⟩)) rfl (z7 zs) Bx Ay;have tL:=(hmr.more _).bF λi h=>iN i _ yz h
      obtain⟨X,hX⟩:=gn ((zs++[uU i ⟨dn,dp,dl,dh,ds⟩]).map Em.edit.aA);rw[show zs.map Em.edit.aA++[Em.edit.aA (uU i ⟨dn,dp,dl,dh,ds⟩)]=X by rw[<-hX,yAH];rfl]at hap;simp only[eI,uU,jN,cP,iX,kB,aV,yAQ,yAO,yBo,kP]at hap;rw[yAe,<-show(zs++[uU i ⟨dn,dp,dl,dh,ds⟩]).length=zs.length+1 from yAa]at eN;refine aC (A7 q4 hi hde @nN hap q5 wX) ?_;subst hX;refine bC.normal (m-1) ye (by refine⟨i+1,zs++[uU i ⟨dn,dp,dl,dh,ds⟩],n5,K',?_⟩;exact dU (⟨ye,by rw[<-hzs];simp only[yAi,yAQ,yAO];rfl,eN,tL⟩) (A2 @CA hwr))
    have q4:¬(i:Int)<(bd.length:Int):=ye;rw[yCk (by unfold n6;rw[yBH];show bd.length<=i;omega),yAl]at hzs;subst hzs;obtain⟨σ',hdm⟩:=hmr.drop (B:=[aB.box (.agg [.str an,.slice (sz 6 ar) (ar.map Em.aG.aA) .any,.slice (sz 5 ad) (ad.map Em.div.aA) .any,.slice (sz 5 ac) (ac.map Em.aJ.aA) .any]),.box (.agg [.str bn,.slice (sz 6 br) (br.map Em.aG.aA) .any,.slice (sz 5 bd) (bd.map Em.div.aA) .any,.slice (sz 5 bc) (bc.map Em.aJ.aA) .any]),.box (.slice (sz 24 zs) (zs.map Em.edit.aA) tk)]) rfl;exact jt
 have q2:(i:Int)<(ad.length:Int):=ye;rw[hg i hi]at hys;have hSd:=hS ad[i] (yAm hi);obtain⟨d,hd⟩:=gn (ad[i]);rw[hd]at hys hSd;obtain⟨dn,dp,dl,dh,ds⟩:=d;simp only at hys hSd;have gs:∀(fl s:Nat) (xs:List PD) (tok:Tok) (σ:List aB),G2 fl [.slice s xs tok] σ=some (.func 122 [.ptr σ.length 0],σ++[.box (.slice s xs tok)]):=λ_ _ _ _ _=>rfl
 refine aC (A6 q2 hi @hd @nN h1 @gs) ?_;obtain⟨y,hy⟩:=gn (J.length);simp only[hy];refine Wp.QE (n:=y+6) (σ1:=λL=>[.box (.agg [.str an,.slice (sz 6 ar) (ar.map Em.aG.aA) .any,.slice (sz 5 ad) (ad.map Em.div.aA) .any,.slice (sz 5 ac) (ac.map Em.aJ.aA) .any]),.box (.agg [.str bn,.slice (sz 6 br) (br.map Em.aG.aA) .any,.slice (sz 5 bd) (bd.map Em.div.aA) .any,.slice (sz 5 bc) (bc.map Em.aJ.aA) .any]),.box (.slice (sz 24 ys) (ys.map Em.edit.aA) tok)]++(J++[.box (.int .i64 i),.box (.agg [.str dn,.bool dp,.int .i64 dl,.int .i64 dh,.slice (sz 4 ds) (ds.map Em.stop.aA) .any]),.box (.slice (sz 4 ds) (ds.map Em.stop.aA) .any),.mark,L])) (aQS hU h2 ds ye (y+2+1+1+1)) rfl Aw (yAF _) (λL=>yg) (λL hL=>?_);refine sF.ind (λp:Nat×bU=>[PD.int .i64 (p.1:Int),Em.stop.aA p.2]) (λ_ rest σ=>∃(k:Nat) (zs:List bJ) (tk:Tok) (K:List aB),k<=ds.length/\rest=o9 ds k/\zs++((eY (λk=>oA i k) k::RS.drop (i+1)).flatten++eY (λi=>pA i) ar.length++eY (λi=>mQ (i+1)) (ad.length-1)++(br.mapIdx λi r=>n8 i r)++n6 ⟨bn,br,bd,bc⟩)=W/\mP K 3 tk zs.length /\
  K[y]?=some (.box (.int .i64 i))/\K[y+2]?=some (.box (.slice (sz 4 ds) (ds.map Em.stop.aA) .any))/\K[y+3]?=some .mark/\K[y+4]?=some L/\Marks ms K 3/\σ=[.box (.agg [.str an,.slice (sz 6 ar) (ar.map Em.aG.aA) .any,.slice (sz 5 ad) (ad.map Em.div.aA) .any,.slice (sz 5 ac) (ac.map Em.aJ.aA) .any]),.box (.agg [.str bn,.slice (sz 6 br) (br.map Em.aG.aA) .any,.slice (sz 5 bd) (bd.map Em.div.aA) .any,.slice (sz 5 bc) (bc.map Em.aJ.aA) .any]),.box (.slice (sz 24 zs) (zs.map Em.edit.aA) tk)]++K) ?_ ?_ (o9 ds ds.length) [] _
  ⟨ds.length,ys,tok,J++[.box (.int .i64 i),.box (.agg [.str dn,.bool dp,.int .i64 dl,.int .i64 dh,.slice (sz 4 ds) (ds.map Em.stop.aA) .any]),.box (.slice (sz 4 ds) (ds.map Em.stop.aA) .any),.mark,L],yAk _,rfl,hys,hrow.more _,Av,Av,Av,Av,hmk.more _,rfl⟩
 .rintro done p rest σ ⟨k,zs,tk,K,hk,hrest,hzs,hr,g0,g2,g3,g4,hmr,rfl⟩
  cases k with
  |zero=>cases hrest
  |succ k=>
   rw[z6 ye]at hrest;simp only[yC]at hrest;obtain⟨rfl,rfl⟩:=hrest;refine⟨Ax,aL.QC hL (yAF _) Bk rfl Dg λLB hLB=>?_⟩;refine aC trivial ?_;refine⟨rfl,Bk,_,Db,?_⟩;have hzl:zs.length<=10000:=by
    have:=yAL List.length hzs;rw[yAa]at this;omega
   have w4:=(yA.1 g4).1;have k0:(K.set (y+4) LB)[y]?=some (.box (.int .i64 i)):=by rw[yAd ye];exact g0
   have k2:(K.set (y+4) LB)[y+2]?=some (.box (.slice (sz 4 ds) (ds.map Em.stop.aA) .any)):=by rw[yAd ye];exact g2
   have k3:(K.set (y+4) LB)[y+3]?=some .mark:=by rw[yAd ye];exact g3
   have k4:(K.set (y+4) LB)[y+4]?=some LB:=yAj w4;have gT:=hr.set g4 Ad LB;have B9:∀e k n,LB≠.own e k n:=Cp;have wA:=hmr.set g4 Cb LB;obtain⟨KB,hKB⟩:=gn (K.set (y+4) LB);rw[hKB]at k0 k2 k3 k4 gT wA ⊢;obtain⟨n5,K',hap,eN,iN,v8⟩:=zZ (B:=[aB.box (.agg [.str an,.slice (sz 6 ar) (ar.map Em.aG.aA) .any,.slice (sz 5 ad) (ad.map Em.div.aA) .any,.slice (sz 5 ac) (ac.map Em.aJ.aA) .any]),.box (.agg [.str bn,.slice (sz 6 br) (br.map Em.aG.aA) .any,.slice (sz 5 bd) (bd.map Em.div.aA) .any,.slice (sz 5 bc) (bc.map Em.aJ.aA) .any]),.box (.slice (sz 24 zs) (zs.map Em.edit.aA) tk)]) (tk:=.any) (p:=Em.edit.aA (oA i k)) rfl (z7 zs) (by rw[yAe];exact gT) zo;have tL:=wA.bF λi h=>iN i _ yz h
   have j0:=iN _ _ yz k0;have j2:=iN _ _ yz k2;have j3:=iN _ _ yz k3;have j4:=iN _ _ B9 k4;obtain⟨X,hX⟩:=gn ((zs++[oA i k]).map Em.edit.aA);rw[show zs.map Em.edit.aA++[Em.edit.aA (oA i k)]=X by rw[<-hX,yAH];rfl]at hap;simp only[eI,oA,jN,cP,iX,kB,aV,yAQ,yAO,yBo,kP]at hap;refine aC (A2 k0 hap) ?_;refine⟨by simpa using j4,?_⟩;unfold HL;refine .inl ⟨rfl,k,zs++[oA i k],n5,K'.set (y+4) L,ye,rfl,by rw[<-hzs];simp only[eY,yBr,yAi,yAQ,yAO],?_,by rw[yAd ye];exact j0,by rw[yAd ye];exact j2,by rw[yAd ye];exact j3,yAj (yA.1 j4).1,tL.set j4 (by rw[hLB];intro h;cases h) L,?_⟩
   .have:=eN.set j4 B9 L
    rwa [yAe,<-show(zs++[oA i k]).length=zs.length+1 from yAa]at this
   .subst hX;rw[CA];rfl
 .rintro done σ ⟨k,zs,tk,K,hk,hrest,hzs,hr,g0,g2,g3,g4,hmr,rfl⟩
  cases k with
  |succ k=>rw[z6 ye]at hrest;cases hrest
  |zero=>
   refine⟨Ax,_,by unfold wL;rw[yAQ,yAQ,yAQ,yAO,show(aB.box (.agg [.str an,.slice (sz 6 ar) (ar.map Em.aG.aA) .any,.slice (sz 5 ad) (ad.map Em.div.aA) .any,.slice (sz 5 ac) (ac.map Em.aJ.aA) .any])::.box (.agg [.str bn,.slice (sz 6 br) (br.map Em.aG.aA) .any,.slice (sz 5 bd) (bd.map Em.div.aA) .any,.slice (sz 5 bc) (bc.map Em.aJ.aA) .any])::.box (.slice (sz 24 zs) (zs.map Em.edit.aA) tk)::K)[y+6+1]?=some L from g4,hL],?_⟩;have hwr:IntKind.i64.wrap ((i:Int)+1)=(i:Int)+1:=ym;have hny:y+3+3∉ms:=λh=>by have:=hmk.lt h;omega
   have wA:=Marks.cons (hmr.set g4 Cb .none) hny (by rw[yAd ye];exact g3);refine aC hwr ?_;refine D6.normal (m-1) ye (by refine⟨i+1,zs,tk,K.set (y+4) .none,?_⟩;exact bG (⟨ye,by rw[<-hzs];simp[eY],hr.set g4 Ad _,wA⟩))
end
section
def PN:Nat->List PD->List aB->Option (PD×List aB):=entry (eD Em.bH Em.bH (Em.edit.list 24) λa b=>dY (bS a=0/\bS b=0) (some (lY a b)))
theorem aQI{a b:aM}(ha:bS a=0)(hb:bS b=0)(fl:Nat)(σ:List aB):PN fl [Em.bH.aA a,Em.bH.aA b] σ=some (.slice (sz 24 (lY a b)) ((lY a b).map Em.edit.aA) .any,σ):=by
 have e1:=Em.cO (Em.bH.str a);have e2:=Em.cO (Em.bH.str b);unfold PN entry eD;simp only[e1,e2];rw[gO ⟨ha,hb⟩];simp only[aV]
theorem aQJ{P:Program}{σ:Ex}{t e:TypeId}{k b s:Nat}{zs:Ey}(hu:P.underlying t=some (.slice e))(hi:fT P e=some (k,b))(h0:zs.length≠0)(hm:zs.length<=100000)(hb:zs.length*b<=140737488355328) :
  fA P 0 σ t (.slice s [] .full) (.slice k zs .any)=some (.slice k zs (.own σ.length),σ++[.own e k zs.length]):=by
 unfold fT at hi;split at hi
 .rename_i i h1;split at hi
  .rename_i z h2;split at hi
   .rename_i h3;simp only[yAb,yAc]at hi;obtain⟨rfl,rfl⟩:=hi;have hmm:zs.length<=maxLen:=zi;simp only[fA,hu,h1,h2,yAT,yCB,yBZ,h3.2,h3.1,hmm,hb,yBx,yAK,h0,yAN,yAO,yAp]
   .cases hi
  .cases hi
 .cases hi
theorem aQK{P:Program}{σ:Ex}{t e:TypeId}{id k b:Nat}{xs zs:Ey}(hu:P.underlying t=some (.slice e))(hi:fT P e=some (k,b))(hr:σ[id]?=some (.own e k xs.length))(h0:zs.length≠0)
  (hm:xs.length+zs.length<=100000) (hb:(xs.length+zs.length)*b<=140737488355328) :
  fA P 0 σ t (.slice k xs (.own id)) (.slice k zs .any)=some (.slice k (xs++zs) (.own id),σ.set id (.own e k (xs.length+zs.length))):=by
 unfold fT at hi;split at hi
 .rename_i i h1;split at hi
  .rename_i z h2;split at hi
   .rename_i h3;simp only[yAb,yAc]at hi;obtain⟨rfl,rfl⟩:=hi;have hmm:xs.length+zs.length<=maxLen:=zi;simp only[fA,hu,h1,h2,h3.2,h3.1,hmm,hb,yBZ,yBx,yAK,h0,yAN,yAF,hr]
   .cases hi
  .cases hi
 .cases hi
theorem aQL{B J:Ex}{b s:Nat}{xs zs:Ey}{tok:Tok}(hb:B.length=b)(hs:xs=[]\/s=24)(hr:mP J b tok xs.length)(h0:zs.length≠0)(hm:xs.length+zs.length<=100000) :
  ∃fG J',fA prog 0 (B++J) 41 (.slice s xs tok) (.slice 24 zs .any)=some (.slice 24 (xs++zs) fG,B++J')/\mP J' b fG (xs.length+zs.length)/\(∀(i:Nat) (o:aB),(∀e k n,o≠.own e k n)->J[i]?=some o->J'[i]?=some o)/\J.length<=J'.length:=by
 have hbt:fT prog 60=some (24,288):=yf;rcases hr with⟨hx0,rfl⟩ | ⟨hx0,id,rfl,h2⟩
 .have hx:xs=[]:=yAf hx0;subst hx;refine⟨_,J++[.own 60 24 zs.length],?_,.inr ⟨by simp only[yAT];omega,J.length,rfl,by rw[yAT,yAp];exact yAB⟩,λi o _ h=>?_,yg⟩
  .rw[aQJ underlying41 hbt h0 (by simp only[yAT]at hm;omega) (by simp only[yAT]at hm;omega),yAi,yAa,hb,yDp b];rfl
  .exact kf
 .have hs':s=24:=hs.resolve_left λe=>by rw[e]at hx0;exact absurd hx0 yj
  subst hs';refine⟨_,J.set id (.own 60 24 (xs.length+zs.length)),?_,.inr ⟨ye,id,rfl,yAj (yA.1 h2).1⟩,λi o ho h=>?_,yg⟩
  .have hg:(B++J)[id+b]?=some (.own 60 24 xs.length):=by rw[yBz ye,hb,yDB];exact h2
   rw[aQK underlying41 hbt hg h0 hm ye,yDA _ _ ye,hb,yDB]
  .exact nk
variable{E:aE}(hU:aH E)
include hU
theorem aQy(h0:E 25=none)(h1:E 27=some JC)(h2:E 41=some KW)(h3:E 32=some (rZ aK ED 33))
  (h4:E 34=some (rZ pE EE 35)) (h5:E 36=some (eZ nO EC))
  (h6:E 59=some PN) (h7:E 58=some G1) (h8:E 89=none)
  (a b:aM) (ha:gK a) (hb:gK b):aI prog E 25 [Em.bH.aA a,Em.bH.aA b] ((aFc.rJ i64).aA (nZ a b,0)):=by
 have hA:=OZ ha.dP;have hB:=OZ hb.dP;rw[ha.1]at hA;rw[hb.1]at hB;have hC:=aQM hb;have hR:=aQI ha.1 hb.1;have l1:=λfl σ=>kW (a:=aK) (R:=ED) (x:=a.aK) (y:=b.aK) (ha.dP.eV.1) (hb.dP.eV.1) fl σ
 have l2:=λfl σ=>kW (a:=pE) (R:=EE) (x:=a.aD) (y:=b.aD) (ha.dP.eV.2.1) (hb.dP.eV.2.1) fl σ
 have l3:=λfl σ=>kW (a:=nO) (R:=EC) (x:=a.aR) (y:=b.aR) (ha.dP.eV.2.2) (hb.dP.eV.2.2) fl σ
 obtain⟨an,ar,ad,ac⟩:=a;obtain⟨bn,br,bd,bc⟩:=b;simp only[iA,aV]at hA hB hC hR l1 l2 l3 ⊢;refine aI.aN 93 h0 func25 (h:=?_);refine aC trivial ?_;refine Wp.loop ?_;refine aC (A2 h1 hA) ?_;refine Wp.loop ?_;refine aC (A2 h1 hB) ?_;refine Wp.loop ?_;refine aC (A2 h2 hC) ?_;have hN:∀ys:List bJ,(if an=bn then []else [n4 bn])=ys->ys.length<=1:=λys h=>by rw[<-h];split<;>simp
 refine Wp.mono (Q:=λr=>r.x=.normal/\r.ms=[]/\∃(ys:List bJ) (tok:Tok) (J:List aB) (gg:Nat->PD),((if an=bn then []else [n4 bn])=ys/\mP J 5 tok ys.length)/\r.fr=[gg 0,gg 1,.ptr 0 0,.ptr 1 0,gg 4,gg 5,gg 6,gg 7,gg 8,.ptr 4 0,gg 10,gg 11,gg 12,gg 13,gg 14,gg 15,gg 16,gg 17,gg 18,gg 19,gg 20,gg 21,gg 22,gg 23,gg 24,gg 25,gg 26,gg 27,gg 28,gg 29,gg 30,gg 31,gg 32,gg 33,gg 34,gg 35,gg 36,gg 37,gg 38,gg 39,gg 40,gg 41,gg 42,gg 43,gg 44,gg 45,gg 46,gg 47,gg 48,gg 49,gg 50,gg 51,gg 52,gg 53,gg 54,gg 55,gg 56,gg 57,gg 58,gg 59,gg 60,gg 61,gg 62,gg 63,gg 64,gg 65,gg 66,gg 67,gg 68,gg 69,gg 70,gg 71,gg 72,gg 73,gg 74,gg 75,gg 76,gg 77,gg 78,gg 79,gg 80,gg 81,gg 82,gg 83,gg 84,gg 85,gg 86,gg 87,gg 88,gg 89,gg 90,gg 91,gg 92]/\r.σ=[aB.box (.agg [.str an,.slice (sz 6 ar) (ar.map Em.aG.aA) .any,.slice (sz 5 ad) (ad.map Em.div.aA) .any,.slice (sz 5 ac) (ac.map Em.aJ.aA) .any]),.box (.agg [.str bn,.slice (sz 6 br) (br.map Em.aG.aA) .any,.slice (sz 5 bd) (bd.map Em.div.aA) .any,.slice (sz 5 bc) (bc.map Em.aJ.aA) .any]),.box (.agg [.str an,.slice (sz 6 ar) (ar.map Em.aG.aA) .any,.slice (sz 5 ad) (ad.map Em.div.aA) .any,.slice (sz 5 ac) (ac.map Em.aJ.aA) .any]),.box (.agg [.str bn,.slice (sz 6 br) (br.map Em.aG.aA) .any,.slice (sz 5 bd) (bd.map Em.div.aA) .any,.slice (sz 5 bc) (bc.map Em.aJ.aA) .any]),.box (.slice (sz 24 ys) (ys.map Em.edit.aA) tok)]++J) ?_ ?_
 .by_cases e0:an=bn
  .rw[yAJ e0];have f0:(an==bn)=true:=by simpa using e0
   simp only[f0,yBR];refine aC trivial ?_;exact⟨rfl,rfl,[],.full,[],jZ ⟨rfl,.inl ⟨rfl,rfl⟩⟩ yx yx⟩
  .rw[yAI e0];have f0:(an==bn)=false:=by simpa using e0
   obtain⟨n5,K',hap,eN,iN,v8⟩:=zZ (B:=[aB.box (.agg [.str an,.slice (sz 6 ar) (ar.map Em.aG.aA) .any,.slice (sz 5 ad) (ad.map Em.div.aA) .any,.slice (sz 5 ac) (ac.map Em.aJ.aA) .any]),.box (.agg [.str bn,.slice (sz 6 br) (br.map Em.aG.aA) .any,.slice (sz 5 bd) (bd.map Em.div.aA) .any,.slice (sz 5 bc) (bc.map Em.aJ.aA) .any]),.box (.agg [.str an,.slice (sz 6 ar) (ar.map Em.aG.aA) .any,.slice (sz 5 ad) (ad.map Em.div.aA) .any,.slice (sz 5 ac) (ac.map Em.aJ.aA) .any]),.box (.agg [.str bn,.slice (sz 6 br) (br.map Em.aG.aA) .any,.slice (sz 5 bd) (bd.map Em.div.aA) .any,.slice (sz 5 bc) (bc.map Em.aJ.aA) .any]),.box (.slice 0 [] .full)]) (J:=[]) (s:=0) (xs:=[]) (tok:=.full) (tk:=.any) (p:=Em.edit.aA (n4 bn)) rfl (.inl rfl) (.inl ⟨rfl,rfl⟩) yj;simp only[eI,n4,jN,cP,iX,kB,aV,yAQ,yAO,yBo,kP,yAl]at hap;simp only[f0,yCn];refine aC hap ?_;exact⟨rfl,rfl,[n4 bn],n5,K',jZ ⟨rfl,eN⟩ As As⟩
 rintro⟨x,fr,ms,σ⟩ ⟨rfl,rfl,ys,tok,J,gg,⟨hys,hrow⟩,rfl,rfl⟩
 refine gG.normal ?_;obtain⟨S,hS⟩:=gn (decide (D5 ⟨an,ar,ad,ac⟩ ⟨bn,br,bd,bc⟩));refine Wp.seq ?_;refine Wp.mono (Q:=λr=>r.x=.normal/\r.ms=[]/\∃gg:Nat->PD,True/\r.fr=[gg 0,gg 1,.ptr 0 0,.ptr 1 0,gg 4,gg 5,gg 6,gg 7,gg 8,.ptr 4 0,.bool S,gg 11,gg 12,gg 13,gg 14,gg 15,gg 16,gg 17,gg 18,gg 19,gg 20,gg 21,gg 22,gg 23,gg 24,gg 25,gg 26,gg 27,gg 28,gg 29,gg 30,gg 31,gg 32,gg 33,gg 34,gg 35,gg 36,gg 37,gg 38,gg 39,gg 40,gg 41,gg 42,gg 43,gg 44,gg 45,gg 46,gg 47,gg 48,gg 49,gg 50,gg 51,gg 52,gg 53,gg 54,gg 55,gg 56,gg 57,gg 58,gg 59,gg 60,gg 61,gg 62,gg 63,gg 64,gg 65,gg 66,gg 67,gg 68,gg 69,gg 70,gg 71,gg 72,gg 73,gg 74,gg 75,gg 76,gg 77,gg 78,gg 79,gg 80,gg 81,gg 82,gg 83,gg 84,gg 85,gg 86,gg 87,gg 88,gg 89,gg 90,gg 91,gg 92]/\r.σ=[aB.box (.agg [.str an,.slice (sz 6 ar) (ar.map Em.aG.aA) .any,.slice (sz 5 ad) (ad.map Em.div.aA) .any,.slice (sz 5 ac) (ac.map Em.aJ.aA) .any]),.box (.agg [.str bn,.slice (sz 6 br) (br.map Em.aG.aA) .any,.slice (sz 5 bd) (bd.map Em.div.aA) .any,.slice (sz 5 bc) (bc.map Em.aJ.aA) .any]),.box (.agg [.str an,.slice (sz 6 ar) (ar.map Em.aG.aA) .any,.slice (sz 5 ad) (ad.map Em.div.aA) .any,.slice (sz 5 ac) (ac.map Em.aJ.aA) .any]),.box (.agg [.str bn,.slice (sz 6 br) (br.map Em.aG.aA) .any,.slice (sz 5 bd) (bd.map Em.div.aA) .any,.slice (sz 5 bc) (bc.map Em.aJ.aA) .any]),.box (.slice (sz 24 ys) (ys.map Em.edit.aA) tok)]++J) ?_ ?_
 .by_cases e1:ar=br
  .by_cases e2:ad=bd
   .have xD:S=true:=by rw[<-hS];exact yAV ⟨e1,e2⟩
    rw[xD];rw[yAV e1]at l1;rw[yAV e2]at l2;refine aC (A5 h3 h4 @pF l1 l2) ?_;exact ax
   .have xD:S=false:=by rw[<-hS];exact yBc λh=>e2 h.2
    rw[xD];rw[yAV e1]at l1;rw[yBc e2]at l2;refine aC (A5 h3 h4 @pF l1 l2) ?_;exact ax
  .have xD:S=false:=by rw[<-hS];exact yBc λh=>e1 h.1
   rw[xD];rw[yBc e1]at l1;refine aC (A4 h3 h4 @pF l1) ?_;exact ax
 rintro⟨x,fr,ms,σ⟩ ⟨rfl,rfl,gg,-,rfl,rfl⟩
 refine gG.normal ?_;have hac:ac.length<=40:=((gV _).1 ha.1).2.2.2.1;have hbc:bc.length<=40:=((gV _).1 hb.1).2.2.2.1;have hrl:=aFd ha.1 hb.1;have X5:(lY ⟨an,ar,ad,ac⟩ ⟨bn,br,bd,bc⟩).length≠0:=by
  have:=((gV _).1 hb.1).2.2.1.1.1;unfold lY n6;simp only[yAa,yBH];have h2:bd.length≠0:=this;omega
 by_cases hret:S=true/\ac=bc
 .obtain⟨hs,e3⟩:=hret;rw[yAV e3]at l3;have hD:nZ ⟨an,ar,ad,ac⟩ ⟨bn,br,bd,bc⟩=ys:=by
   rw[hs]at hS;unfold nZ;rw[yAJ ⟨of_decide_eq_true hS,e3⟩];exact hys
  rw[hD,hs];clear hD;refine aC (A2 h5 l3) ?_;exact aa
 have hD:nZ ⟨an,ar,ad,ac⟩ ⟨bn,br,bd,bc⟩=ys++eY (λi=>qA i) ac.length++(if S=true then []else lY ⟨an,ar,ad,ac⟩ ⟨bn,br,bd,bc⟩)++(bc.mapIdx λi c=>qB i c):=by
  unfold nZ;rw[yAI λh=>hret ⟨by rw[<-hS];exact yAV h.1,h.2⟩];show(if an=bn then []else [n4 bn])++_++_++_=_
  rw[hys,<-hS]
  congr 2
  by_cases h:D5 ⟨an,ar,ad,ac⟩ ⟨bn,br,bd,bc⟩
  .rw[yAJ h,yAJ (yAV h)]
  .rw[yAI h,yAI (λe=>h (of_decide_eq_true e))]
 obtain⟨W,hW⟩:=gn (nZ ⟨an,ar,ad,ac⟩ ⟨bn,br,bd,bc⟩);rw[hW]at hD ⊢;clear hW;have hyl:=hN ys hys;clear hys hN;refine Wp.seq ?_;refine Wp.mono (Q:=λr=>r.x=.normal/\r.ms=[]/\∃gg:Nat->PD,True/\r.fr=[gg 0,gg 1,.ptr 0 0,.ptr 1 0,gg 4,gg 5,gg 6,gg 7,gg 8,.ptr 4 0,.bool S,gg 11,gg 12,gg 13,gg 14,gg 15,gg 16,gg 17,gg 18,gg 19,gg 20,gg 21,gg 22,gg 23,gg 24,gg 25,gg 26,gg 27,gg 28,gg 29,gg 30,gg 31,gg 32,gg 33,gg 34,gg 35,gg 36,gg 37,gg 38,gg 39,gg 40,gg 41,gg 42,gg 43,gg 44,gg 45,gg 46,gg 47,gg 48,gg 49,gg 50,gg 51,gg 52,gg 53,gg 54,gg 55,gg 56,gg 57,gg 58,gg 59,gg 60,gg 61,gg 62,gg 63,gg 64,gg 65,gg 66,gg 67,gg 68,gg 69,gg 70,gg 71,gg 72,gg 73,gg 74,gg 75,gg 76,gg 77,gg 78,gg 79,gg 80,gg 81,gg 82,gg 83,gg 84,gg 85,gg 86,gg 87,gg 88,gg 89,gg 90,gg 91,gg 92]/\r.σ=[aB.box (.agg [.str an,.slice (sz 6 ar) (ar.map Em.aG.aA) .any,.slice (sz 5 ad) (ad.map Em.div.aA) .any,.slice (sz 5 ac) (ac.map Em.aJ.aA) .any]),.box (.agg [.str bn,.slice (sz 6 br) (br.map Em.aG.aA) .any,.slice (sz 5 bd) (bd.map Em.div.aA) .any,.slice (sz 5 bc) (bc.map Em.aJ.aA) .any]),.box (.agg [.str an,.slice (sz 6 ar) (ar.map Em.aG.aA) .any,.slice (sz 5 ad) (ad.map Em.div.aA) .any,.slice (sz 5 ac) (ac.map Em.aJ.aA) .any]),.box (.agg [.str bn,.slice (sz 6 br) (br.map Em.aG.aA) .any,.slice (sz 5 bd) (bd.map Em.div.aA) .any,.slice (sz 5 bc) (bc.map Em.aJ.aA) .any]),.box (.slice (sz 24 ys) (ys.map Em.edit.aA) tok)]++J) ?_ ?_
 .cases S with
  |false=>
   refine aC trivial ?_;exact ax
  |true=>
   have e3:¬ac=bc:=λe=>hret ⟨rfl,e⟩
   rw[yBc e3]at l3;refine aC (A2 h5 l3) ?_;exact ax
 rintro⟨x,fr,ms,σ⟩ ⟨rfl,rfl,gg,-,rfl,rfl⟩
 refine gG.normal ?_;refine Wp.seq ?_;refine Wp.mono (Q:=λr=>r.x=.normal/\∃(zs:List bJ) (tk:Tok) (K:List aB) (mk:Nat) (gg:Nat->PD),(zs=ys++eY (λi=>qA i) ac.length/\mP K 5 tk zs.length/\r.ms=[mk]/\Marks [mk] K 5)/\r.fr=[gg 0,gg 1,.ptr 0 0,.ptr 1 0,gg 4,gg 5,gg 6,gg 7,gg 8,.ptr 4 0,.bool S,gg 11,gg 12,gg 13,gg 14,gg 15,gg 16,gg 17,gg 18,gg 19,gg 20,gg 21,gg 22,gg 23,gg 24,gg 25,gg 26,gg 27,gg 28,gg 29,gg 30,gg 31,gg 32,gg 33,gg 34,gg 35,gg 36,gg 37,gg 38,gg 39,gg 40,gg 41,gg 42,gg 43,gg 44,gg 45,gg 46,gg 47,gg 48,gg 49,gg 50,gg 51,gg 52,gg 53,gg 54,gg 55,gg 56,gg 57,gg 58,gg 59,gg 60,gg 61,gg 62,gg 63,gg 64,gg 65,gg 66,gg 67,gg 68,gg 69,gg 70,gg 71,gg 72,gg 73,gg 74,gg 75,gg 76,gg 77,gg 78,gg 79,gg 80,gg 81,gg 82,gg 83,gg 84,gg 85,gg 86,gg 87,gg 88,gg 89,gg 90,gg 91,gg 92]/\r.σ=[aB.box (.agg [.str an,.slice (sz 6 ar) (ar.map Em.aG.aA) .any,.slice (sz 5 ad) (ad.map Em.div.aA) .any,.slice (sz 5 ac) (ac.map Em.aJ.aA) .any]),.box (.agg [.str bn,.slice (sz 6 br) (br.map Em.aG.aA) .any,.slice (sz 5 bd) (bd.map Em.div.aA) .any,.slice (sz 5 bc) (bc.map Em.aJ.aA) .any]),.box (.agg [.str an,.slice (sz 6 ar) (ar.map Em.aG.aA) .any,.slice (sz 5 ad) (ad.map Em.div.aA) .any,.slice (sz 5 ac) (ac.map Em.aJ.aA) .any]),.box (.agg [.str bn,.slice (sz 6 br) (br.map Em.aG.aA) .any,.slice (sz 5 bd) (bd.map Em.div.aA) .any,.slice (sz 5 bc) (bc.map Em.aJ.aA) .any]),.box (.slice (sz 24 zs) (zs.map Em.edit.aA) tk)]++K) ?_ ?_
 .have gs:∀(fl s:Nat) (xs:List PD) (tok:Tok) (σ:List aB),G1 fl [.slice s xs tok] σ=some (.func 89 [.ptr σ.length 0],σ++[.box (.slice s xs tok)]):=λ_ _ _ _ _=>rfl
  refine aC (A2 h7 @gs) ?_;obtain⟨y,hy⟩:=gn (J.length);simp only[hy];refine Wp.QE (n:=y+6) (σ1:=λL=>[aB.box (.agg [.str an,.slice (sz 6 ar) (ar.map Em.aG.aA) .any,.slice (sz 5 ad) (ad.map Em.div.aA) .any,.slice (sz 5 ac) (ac.map Em.aJ.aA) .any]),.box (.agg [.str bn,.slice (sz 6 br) (br.map Em.aG.aA) .any,.slice (sz 5 bd) (bd.map Em.div.aA) .any,.slice (sz 5 bc) (bc.map Em.aJ.aA) .any]),.box (.agg [.str an,.slice (sz 6 ar) (ar.map Em.aG.aA) .any,.slice (sz 5 ad) (ad.map Em.div.aA) .any,.slice (sz 5 ac) (ac.map Em.aJ.aA) .any]),.box (.agg [.str bn,.slice (sz 6 br) (br.map Em.aG.aA) .any,.slice (sz 5 bd) (bd.map Em.div.aA) .any,.slice (sz 5 bc) (bc.map Em.aJ.aA) .any]),.box (.slice (sz 24 ys) (ys.map Em.edit.aA) tok)]++(J++[.box (.slice (sz 5 ac) (ac.map Em.aJ.aA) .any),.mark,L])) (aQN hU h8 ac ye (y+1+1+1+1+1)) rfl Aw (yAF _) (λL=>yg) (λL hL=>?_);refine sF.ind (λp:Nat×bR=>[PD.int .i64 (p.1:Int),Em.aJ.aA p.2]) (λ_ rest σ=>∃(k:Nat) (zs:List bJ) (tk:Tok) (K:List aB),k<=ac.length/\rest=o9 ac k/\zs++eY (λi=>qA i) k=ys++eY (λi=>qA i) ac.length/\mP K 5 tk zs.length /\
   K[y]?=some (.box (.slice (sz 5 ac) (ac.map Em.aJ.aA) .any))/\K[y+1]?=some .mark/\K[y+2]?=some L/\σ=[aB.box (.agg [.str an,.slice (sz 6 ar) (ar.map Em.aG.aA) .any,.slice (sz 5 ad) (ad.map Em.div.aA) .any,.slice (sz 5 ac) (ac.map Em.aJ.aA) .any]),.box (.agg [.str bn,.slice (sz 6 br) (br.map Em.aG.aA) .any,.slice (sz 5 bd) (bd.map Em.div.aA) .any,.slice (sz 5 bc) (bc.map Em.aJ.aA) .any]),.box (.agg [.str an,.slice (sz 6 ar) (ar.map Em.aG.aA) .any,.slice (sz 5 ad) (ad.map Em.div.aA) .any,.slice (sz 5 ac) (ac.map Em.aJ.aA) .any]),.box (.agg [.str bn,.slice (sz 6 br) (br.map Em.aG.aA) .any,.slice (sz 5 bd) (bd.map Em.div.aA) .any,.slice (sz 5 bc) (bc.map Em.aJ.aA) .any]),.box (.slice (sz 24 zs) (zs.map Em.edit.aA) tk)]++K) ?_ ?_ (o9 ac ac.length) [] _
   ⟨ac.length,ys,tok,J++[.box (.slice (sz 5 ac) (ac.map Em.aJ.aA) .any),.mark,L],yAk _,rfl,rfl,hrow.more _,Av,Av,Av,rfl⟩
  .rintro done p rest σ ⟨k,zs,tk,K,hk,hrest,hzs,hr,g2,g3,g4,rfl⟩
   cases k with
   |zero=>cases hrest
   |succ k=>
    rw[z6 ye]at hrest;simp only[yC]at hrest;obtain⟨rfl,rfl⟩:=hrest;refine⟨Ax,aL.QC hL (yAF _) Bk rfl Dg λLB hLB=>?_⟩;refine aC trivial ?_;refine⟨rfl,Bk,_,Db,?_⟩;have hzl:zs.length<=10000:=by
     have:=yAL List.length hzs;simp only[yAa,G4]at this;omega
    have w4:=(yA.1 g4).1;have k2:(K.set (y+2) LB)[y]?=some (.box (.slice (sz 5 ac) (ac.map Em.aJ.aA) .any)):=by rw[yAd ye];exact g2
    have k3:(K.set (y+2) LB)[y+1]?=some .mark:=by rw[yAd ye];exact g3
    have k4:(K.set (y+2) LB)[y+2]?=some LB:=yAj w4;have gT:=hr.set g4 Ad LB;have B9:∀e k n,LB≠.own e k n:=Cp;obtain⟨KB,hKB⟩:=gn (K.set (y+2) LB);rw[hKB]at k2 k3 k4 gT ⊢;obtain⟨n5,K',hap,eN,iN,v8⟩:=zZ (B:=[aB.box (.agg [.str an,.slice (sz 6 ar) (ar.map Em.aG.aA) .any,.slice (sz 5 ad) (ad.map Em.div.aA) .any,.slice (sz 5 ac) (ac.map Em.aJ.aA) .any]),.box (.agg [.str bn,.slice (sz 6 br) (br.map Em.aG.aA) .any,.slice (sz 5 bd) (bd.map Em.div.aA) .any,.slice (sz 5 bc) (bc.map Em.aJ.aA) .any]),.box (.agg [.str an,.slice (sz 6 ar) (ar.map Em.aG.aA) .any,.slice (sz 5 ad) (ad.map Em.div.aA) .any,.slice (sz 5 ac) (ac.map Em.aJ.aA) .any]),.box (.agg [.str bn,.slice (sz 6 br) (br.map Em.aG.aA) .any,.slice (sz 5 bd) (bd.map Em.div.aA) .any,.slice (sz 5 bc) (bc.map Em.aJ.aA) .any]),.box (.slice (sz 24 zs) (zs.map Em.edit.aA) tk)]) (tk:=.any) (p:=Em.edit.aA (qA k)) rfl (z7 zs) (by rw[yAe];exact gT) zo;have j2:=iN _ _ yz k2;have j3:=iN _ _ yz k3;have j4:=iN _ _ B9 k4;obtain⟨X,hX⟩:=gn ((zs++[qA k]).map Em.edit.aA);rw[show zs.map Em.edit.aA++[Em.edit.aA (qA k)]=X by rw[<-hX,yAH];rfl]at hap;simp only[eI,qA,jN,cP,iX,kB,aV,yAQ,yAO,yBo,kP]at hap;refine aC hap ?_;refine⟨by simpa using j4,?_⟩;unfold HL;refine .inl ⟨rfl,k,zs++[qA k],n5,K'.set (y+2) L,ye,rfl,by rw[<-hzs];simp only[eY,yAi,yAQ,yAO],?_,by rw[yAd ye];exact j2,by rw[yAd ye];exact j3,yAj (yA.1 j4).1,?_⟩
    .have:=eN.set j4 B9 L
     rwa [yAe,<-show(zs++[qA k]).length=zs.length+1 from yAa]at this
    .subst hX;rw[CA];rfl
  .rintro done σ ⟨k,zs,tk,K,hk,hrest,hzs,hr,g2,g3,g4,rfl⟩
   cases k with
   |succ k=>rw[z6 ye]at hrest;cases hrest
   |zero=>
    refine⟨Ax,_,by unfold wL;rw[yAQ,yAQ,yAQ,yAQ,yAQ,yAO,show(aB.box (.agg [.str an,.slice (sz 6 ar) (ar.map Em.aG.aA) .any,.slice (sz 5 ad) (ad.map Em.div.aA) .any,.slice (sz 5 ac) (ac.map Em.aJ.aA) .any])::.box (.agg [.str bn,.slice (sz 6 br) (br.map Em.aG.aA) .any,.slice (sz 5 bd) (bd.map Em.div.aA) .any,.slice (sz 5 bc) (bc.map Em.aJ.aA) .any])::.box (.agg [.str an,.slice (sz 6 ar) (ar.map Em.aG.aA) .any,.slice (sz 5 ad) (ad.map Em.div.aA) .any,.slice (sz 5 ac) (ac.map Em.aJ.aA) .any])::.box (.agg [.str bn,.slice (sz 6 br) (br.map Em.aG.aA) .any,.slice (sz 5 bd) (bd.map Em.div.aA) .any,.slice (sz 5 bc) (bc.map Em.aJ.aA) .any])::.box (.slice (sz 24 zs) (zs.map Em.edit.aA) tk)::K)[y+6+1]?=some L from g4,hL],?_⟩;have hm2:Marks [y+1+5] (K.set (y+2) .none) 5:=Marks.cons .nil yg (by rw[yAd ye];exact g3);have gT:=hr.set g4 Ad .none;have dK:(aB.box (.agg [.str an,.slice (sz 6 ar) (ar.map Em.aG.aA) .any,.slice (sz 5 ad) (ad.map Em.div.aA) .any,.slice (sz 5 ac) (ac.map Em.aJ.aA) .any])::.box (.agg [.str bn,.slice (sz 6 br) (br.map Em.aG.aA) .any,.slice (sz 5 bd) (bd.map Em.div.aA) .any,.slice (sz 5 bc) (bc.map Em.aJ.aA) .any])::.box (.agg [.str an,.slice (sz 6 ar) (ar.map Em.aG.aA) .any,.slice (sz 5 ad) (ad.map Em.div.aA) .any,.slice (sz 5 ac) (ac.map Em.aJ.aA) .any])::.box (.agg [.str bn,.slice (sz 6 br) (br.map Em.aG.aA) .any,.slice (sz 5 bd) (bd.map Em.div.aA) .any,.slice (sz 5 bc) (bc.map Em.aJ.aA) .any])::aB.box (.slice (sz 24 zs) (zs.map Em.edit.aA) tk)::K).set (y+6+1) .none=aB.box (.agg [.str an,.slice (sz 6 ar) (ar.map Em.aG.aA) .any,.slice (sz 5 ad) (ad.map Em.div.aA) .any,.slice (sz 5 ac) (ac.map Em.aJ.aA) .any])::.box (.agg [.str bn,.slice (sz 6 br) (br.map Em.aG.aA) .any,.slice (sz 5 bd) (bd.map Em.div.aA) .any,.slice (sz 5 bc) (bc.map Em.aJ.aA) .any])::.box (.agg [.str an,.slice (sz 6 ar) (ar.map Em.aG.aA) .any,.slice (sz 5 ad) (ad.map Em.div.aA) .any,.slice (sz 5 ac) (ac.map Em.aJ.aA) .any])::.box (.agg [.str bn,.slice (sz 6 br) (br.map Em.aG.aA) .any,.slice (sz 5 bd) (bd.map Em.div.aA) .any,.slice (sz 5 bc) (bc.map Em.aJ.aA) .any])::.box (.slice (sz 24 zs) (zs.map Em.edit.aA) tk)::K.set (y+2) .none:=rfl;rw[dK];obtain⟨K0,GO⟩:=gn (K.set (y+2) .none);rw[GO]at gT hm2 ⊢;simp only[eY,yAl]at hzs;refine aC trivial ?_;exact⟨rfl,zs,tk,K0,y+6,jZ ⟨hzs,gT,rfl,hm2⟩ yx yx⟩
 rintro⟨x,fr,ms,σ⟩ ⟨rfl,zs,tk,K,mk,gg,⟨hzs,hrow,rfl,hmk⟩,rfl,rfl⟩
 refine gG.normal ?_;have hzl:zs.length<=41:=by rw[hzs,yAa,G4];omega
 refine Wp.seq ?_;refine Wp.mono (Q:=λr=>r.x=.normal/\r.ms=[mk]/\∃(us:List bJ) (tu:Tok) (U:List aB) (gg:Nat->PD),(us=zs++(if S=true then []else lY ⟨an,ar,ad,ac⟩ ⟨bn,br,bd,bc⟩)/\mP U 5 tu us.length/\Marks [mk] U 5)/\r.fr=[gg 0,gg 1,.ptr 0 0,.ptr 1 0,gg 4,gg 5,gg 6,gg 7,gg 8,.ptr 4 0,gg 10,gg 11,gg 12,gg 13,gg 14,gg 15,gg 16,gg 17,gg 18,gg 19,gg 20,gg 21,gg 22,gg 23,gg 24,gg 25,gg 26,gg 27,gg 28,gg 29,gg 30,gg 31,gg 32,gg 33,gg 34,gg 35,gg 36,gg 37,gg 38,gg 39,gg 40,gg 41,gg 42,gg 43,gg 44,gg 45,gg 46,gg 47,gg 48,gg 49,gg 50,gg 51,gg 52,gg 53,gg 54,gg 55,gg 56,gg 57,gg 58,gg 59,gg 60,gg 61,gg 62,gg 63,gg 64,gg 65,gg 66,gg 67,gg 68,gg 69,gg 70,gg 71,gg 72,gg 73,gg 74,gg 75,gg 76,gg 77,gg 78,gg 79,gg 80,gg 81,gg 82,gg 83,gg 84,gg 85,gg 86,gg 87,gg 88,gg 89,gg 90,gg 91,gg 92]/\r.σ=[aB.box (.agg [.str an,.slice (sz 6 ar) (ar.map Em.aG.aA) .any,.slice (sz 5 ad) (ad.map Em.div.aA) .any,.slice (sz 5 ac) (ac.map Em.aJ.aA) .any]),.box (.agg [.str bn,.slice (sz 6 br) (br.map Em.aG.aA) .any,.slice (sz 5 bd) (bd.map Em.div.aA) .any,.slice (sz 5 bc) (bc.map Em.aJ.aA) .any]),.box (.agg [.str an,.slice (sz 6 ar) (ar.map Em.aG.aA) .any,.slice (sz 5 ad) (ad.map Em.div.aA) .any,.slice (sz 5 ac) (ac.map Em.aJ.aA) .any]),.box (.agg [.str bn,.slice (sz 6 br) (br.map Em.aG.aA) .any,.slice (sz 5 bd) (bd.map Em.div.aA) .any,.slice (sz 5 bc) (bc.map Em.aJ.aA) .any]),.box (.slice (sz 24 us) (us.map Em.edit.aA) tu)]++U) ?_ ?_
 .cases S with
  |true=>
   rw[yAJ rfl,yAl];refine aC trivial ?_;exact⟨rfl,rfl,zs,tk,K,jZ ⟨rfl,hrow,hmk⟩ yx yx⟩
  |false=>
   rw[yAI yj];obtain⟨rb,hrb⟩:=gn (lY ⟨an,ar,ad,ac⟩ ⟨bn,br,bd,bc⟩);rw[hrb]at hR X5 hrl ⊢;have jI:sz 24 rb=24:=yAI X5;rw[jI]at hR;obtain⟨n5,K',hap,eN,iN,v8⟩:=aQL (B:=[aB.box (.agg [.str an,.slice (sz 6 ar) (ar.map Em.aG.aA) .any,.slice (sz 5 ad) (ad.map Em.div.aA) .any,.slice (sz 5 ac) (ac.map Em.aJ.aA) .any]),.box (.agg [.str bn,.slice (sz 6 br) (br.map Em.aG.aA) .any,.slice (sz 5 bd) (bd.map Em.div.aA) .any,.slice (sz 5 bc) (bc.map Em.aJ.aA) .any]),.box (.agg [.str an,.slice (sz 6 ar) (ar.map Em.aG.aA) .any,.slice (sz 5 ad) (ad.map Em.div.aA) .any,.slice (sz 5 ac) (ac.map Em.aJ.aA) .any]),.box (.agg [.str bn,.slice (sz 6 br) (br.map Em.aG.aA) .any,.slice (sz 5 bd) (bd.map Em.div.aA) .any,.slice (sz 5 bc) (bc.map Em.aJ.aA) .any]),.box (.slice (sz 24 zs) (zs.map Em.edit.aA) tk)]) (zs:=rb.map Em.edit.aA) rfl (z7 zs) (by rw[yAe];exact hrow) (by rw[yAe];exact X5) (by rw[yAe,yAe];omega);have aQO:=hmk.bF λi h=>iN i _ yz h
   rw[<-yAH]at hap;rw[yAe,yAe,<-yAa]at eN;have PS:sz 24 (zs++rb)=24:=yAI (by rw[yAa];omega);simp only[yAQ,yAO]at hap;have hst:(PD.slice 24 (rb.map Em.edit.aA) .any).strip=.slice 24 (rb.map Em.edit.aA) .any:=by have:=xO Em.edit 24 rb .any;rwa [jI]at this
   refine aC (A4 h6 hR hap hst) ?_;exact⟨rfl,rfl,zs++rb,n5,K',jZ ⟨rfl,eN,aQO⟩ Ce Ce⟩
 rintro⟨x,fr,ms,σ⟩ ⟨rfl,rfl,us,tu,U,gg,⟨hus,hru,hmu⟩,rfl,rfl⟩
 refine gG.normal ?_;have hW:us++(bc.mapIdx λi c=>qB i c)=W:=by rw[hD,hus,hzs]
 have hul:us.length<=20000:=by
  rw[hus,yAa];have:(if S=true then []else lY ⟨an,ar,ad,ac⟩ ⟨bn,br,bd,bc⟩).length<=10000:=by
   split
   .exact yAF _
   .exact hrl
  omega
 have hWl:W.length<=30000:=by rw[<-hW,yAa,yBH];omega
 clear hD hus hzs hzl hrow hmk;refine aC trivial ?_
 generalize [mk]=MS at hmu ⊢
 have DK:us++(bc.mapIdx λi c=>qB i c).drop 0=W:=hW;refine Wp.cI (λm fr σ=>∃(i:Nat) (zs:List bJ) (tk:Tok) (K:List aB),∃gg:Nat->PD,(i+m=bc.length/\zs++(bc.mapIdx λi c=>qB i c).drop i=W/\mP K 5 tk zs.length/\Marks MS K 5)/\fr=gg 0::gg 1::.ptr 0 0::.ptr 1 0::gg 4::gg 5::gg 6::gg 7::gg 8::.ptr 4 0::gg 10::gg 11::gg 12::gg 13::gg 14::gg 15::gg 16::gg 17::gg 18::gg 19::gg 20::gg 21::gg 22::gg 23::gg 24::gg 25::gg 26::gg 27::gg 28::gg 29::gg 30::gg 31::gg 32::gg 33::gg 34::gg 35::gg 36::gg 37::gg 38::gg 39::gg 40::gg 41::gg 42::gg 43::gg 44::gg 45::gg 46::gg 47::gg 48::gg 49::gg 50::gg 51::gg 52::gg 53::gg 54::gg 55::gg 56::gg 57::gg 58::gg 59::gg 60::gg 61::gg 62::gg 63::gg 64::gg 65::gg 66::gg 67::gg 68::gg 69::gg 70::gg 71::gg 72::gg 73::gg 74::gg 75::gg 76::gg 77::.slice (sz 5 bc) (bc.map Em.aJ.aA) .any::.int .i64 bc.length::.int .i64 i::gg 81::gg 82::gg 83::gg 84::gg 85::gg 86::gg 87::gg 88::gg 89::gg 90::gg 91::gg 92::[]/\σ=[aB.box (.agg [.str an,.slice (sz 6 ar) (ar.map Em.aG.aA) .any,.slice (sz 5 ad) (ad.map Em.div.aA) .any,.slice (sz 5 ac) (ac.map Em.aJ.aA) .any]),.box (.agg [.str bn,.slice (sz 6 br) (br.map Em.aG.aA) .any,.slice (sz 5 bd) (bd.map Em.div.aA) .any,.slice (sz 5 bc) (bc.map Em.aJ.aA) .any]),.box (.agg [.str an,.slice (sz 6 ar) (ar.map Em.aG.aA) .any,.slice (sz 5 ad) (ad.map Em.div.aA) .any,.slice (sz 5 ac) (ac.map Em.aJ.aA) .any]),.box (.agg [.str bn,.slice (sz 6 br) (br.map Em.aG.aA) .any,.slice (sz 5 bd) (bd.map Em.div.aA) .any,.slice (sz 5 bc) (bc.map Em.aJ.aA) .any]),.box (.slice (sz 24 zs) (zs.map Em.edit.aA) tk)]++K) ?_ (bc.length) (by refine⟨0,us,tu,U,?_⟩;exact bG (⟨ye,DK,hru,hmu⟩))
 rintro m fr σ ⟨i,zs,tk,K,gg,hI,rfl,rfl⟩
 obtain⟨hmi,hzs,hr,hmr⟩:=hI
 by_cases hi:i<bc.length
 .have q4:(i:Int)<(bc.length:Int):=by omega
  have hwr:IntKind.i64.wrap ((i:Int)+1)=(i:Int)+1:=ym;rw[X6 _ _ _ hi]at hzs;obtain⟨c,hce⟩:=gn (bc[i]);rw[hce]at hzs;obtain⟨cn,ca,cb,cs,ct⟩:=c;obtain⟨n5,K',hap,eN,iN,v8⟩:=zZ (B:=[aB.box (.agg [.str an,.slice (sz 6 ar) (ar.map Em.aG.aA) .any,.slice (sz 5 ad) (ad.map Em.div.aA) .any,.slice (sz 5 ac) (ac.map Em.aJ.aA) .any]),.box (.agg [.str bn,.slice (sz 6 br) (br.map Em.aG.aA) .any,.slice (sz 5 bd) (bd.map Em.div.aA) .any,.slice (sz 5 bc) (bc.map Em.aJ.aA) .any]),.box (.agg [.str an,.slice (sz 6 ar) (ar.map Em.aG.aA) .any,.slice (sz 5 ad) (ad.map Em.div.aA) .any,.slice (sz 5 ac) (ac.map Em.aJ.aA) .any]),.box (.agg [.str bn,.slice (sz 6 br) (br.map Em.aG.aA) .any,.slice (sz 5 bd) (bd.map Em.div.aA) .any,.slice (sz 5 bc) (bc.map Em.aJ.aA) .any]),.box (.slice (sz 24 zs) (zs.map Em.edit.aA) tk)]) (J:=K++[.box (.agg [.str cn,.int .i64 ca,.int .i64 cb,.int .i64 cs,.bool ct])]) (tk:=.any) (p:=Em.edit.aA (qB i ⟨cn,ca,cb,cs,ct⟩)) rfl (z7 zs) Bx (by rw[yAe];have:=KY hzs hWl;omega);have tL:=(hmr.more [.box (.agg [.str cn,.int .i64 ca,.int .i64 cb,.int .i64 cs,.bool ct])]).bF λi h=>iN i _ yz h
  obtain⟨X,hX⟩:=gn ((zs++[qB i ⟨cn,ca,cb,cs,ct⟩]).map Em.edit.aA);rw[show zs.map Em.edit.aA++[Em.edit.aA (qB i ⟨cn,ca,cb,cs,ct⟩)]=X by rw[<-hX,yAH];rfl]at hap;simp only[eI,qB,jN,cP,iX,kB,aV,yAQ,yAO,yBo,kP]at hap;rw[yAe,<-show(zs++[qB i ⟨cn,ca,cb,cs,ct⟩]).length=zs.length+1 from yAa]at eN;refine aC (A5 q4 hi hce @G9 hap) ?_;subst hX;refine bC.normal (m-1) ye (by refine⟨i+1,zs++[qB i ⟨cn,ca,cb,cs,ct⟩],n5,K',?_⟩;exact dU (⟨ye,Cq,eN,tL⟩) (A2 @CA hwr))
 have q4:¬(i:Int)<(bc.length:Int):=ye;rw[yCk (by rw[yBH];omega),yAl]at hzs;subst hzs;obtain⟨σ',hdm⟩:=hmr.drop (B:=[aB.box (.agg [.str an,.slice (sz 6 ar) (ar.map Em.aG.aA) .any,.slice (sz 5 ad) (ad.map Em.div.aA) .any,.slice (sz 5 ac) (ac.map Em.aJ.aA) .any]),.box (.agg [.str bn,.slice (sz 6 br) (br.map Em.aG.aA) .any,.slice (sz 5 bd) (bd.map Em.div.aA) .any,.slice (sz 5 bc) (bc.map Em.aJ.aA) .any]),.box (.agg [.str an,.slice (sz 6 ar) (ar.map Em.aG.aA) .any,.slice (sz 5 ad) (ad.map Em.div.aA) .any,.slice (sz 5 ac) (ac.map Em.aJ.aA) .any]),.box (.agg [.str bn,.slice (sz 6 br) (br.map Em.aG.aA) .any,.slice (sz 5 bd) (bd.map Em.div.aA) .any,.slice (sz 5 bc) (bc.map Em.aJ.aA) .any]),.box (.slice (sz 24 zs) (zs.map Em.edit.aA) tk)]) rfl;exact jt
end
end Go.Kz
end
