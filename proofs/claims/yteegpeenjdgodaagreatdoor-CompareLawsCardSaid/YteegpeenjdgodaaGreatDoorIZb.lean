import Derived.Test.YteegpeenjdgodaaGreatDoorIZ
set_option linter.all false
set_option maxHeartbeats 40000000
set_option maxRecDepth 100000
open Go.Proofs.Tryz
noncomputable section
namespace Go.Kz
open Go Go.Proofs
section
def nL(J:List aB)(b:Nat)(tok:Tok)(n:Nat):Prop:=(n=0/\tok=.full)\/(0<n/\∃id,tok=.own (id+b)/\J[id]?=some (.own 60 24 n))
theorem nL.more{J:Gb}{b n:Nat}{tok:Tok}(h:nL J b tok n)(K:List aB):nL (J++K) b tok n:=by
 rcases h with h | ⟨h0,id,h1,h2⟩
 .exact .inl h
 .exact .inr ⟨h0,id,h1,by rw[yAg (yA.1 h2).1];exact h2⟩
theorem nL.set{J:Gb}{b n i:Nat}{tok:Tok}{o:aB}(h:nL J b tok n)(hi:J[i]?=some o)(ho:∀e k n,o≠.own e k n)(x:aB):nL (J.set i x) b tok n:=by
 rcases h with h | ⟨h0,id,h1,h2⟩
 .exact .inl h
 .refine .inr ⟨h0,id,h1,?_⟩;have:i≠id:=λe=>by
   subst e;rw[hi]at h2;exact ho _ _ _ (yAU h2)
  rw[yAd this];exact h2
theorem AY{B J:Gb}{b s:Nat}{xs:Gc}{p:PD}{tk tok:Tok}(hb:B.length=b)(hs:xs=[]\/s=24)(hr:nL J b tok xs.length)(hm:xs.length<=100000) :
  ∃fZ J',gH prog 0 (B++J) 41 (.slice s xs tok) (.slice 24 [p] tk)=some (.slice 24 (xs++[p]) fZ,B++J')/\nL J' b fZ (xs.length+1)/\(∀(i:Nat) (o:aB),(∀e k n,o≠.own e k n)->J[i]?=some o->J'[i]?=some o)/\J.length<=J'.length:=by
 have hbt:iM prog 60=some (24,288):=Aj;have hm2:(xs.length+1)*288<=140737488355328:=Ah;rcases hr with⟨h0,rfl⟩ | ⟨h0,id,rfl,h2⟩
 .have hx:xs=[]:=yAf h0;subst hx;refine⟨_,J++[.own 60 24 1],?_,.inr ⟨Nat.succ_pos _,J.length,rfl,yAB⟩,λi o _ h=>?_,Ai⟩
  .rw[aHm underlying41 hbt Ah,yAi,yAa,hb,yDo b];rfl
  .exact jw
 .have hs':s=24:=hs.resolve_left λe=>by rw[e]at h0;exact absurd h0 Al
  subst hs';refine⟨_,J.set id (.own 60 24 (xs.length+1)),?_,.inr ⟨Nat.succ_pos _,id,rfl,yAj (yA.1 h2).1⟩,λi o ho h=>?_,Ai⟩
  .have hg:(B++J)[id+b]?=some (.own 60 24 xs.length):=by rw[yBS Ah,hb,yCC];exact h2
   rw[aHn underlying41 hbt hg Ah hm2,yDx _ _ Ah,hb,yCC]
  .exact qg
def Marks(ms:List Nat)(J:List aB)(b:Nat):Prop:=ms.Nodup/\∀m∈ms,∃k,m=k+b/\J[k]?=some .mark
theorem Marks.nil{J:Gb}{b:Nat}:Marks [] J b:=⟨List.nodup_nil,λm h=>Ap⟩
theorem Marks.aQ{ms:List Nat}{J J':Gb}{b:Nat}(h:Marks ms J b)(hk:∀i:Nat,J[i]?=some .mark->J'[i]?=some .mark):Marks ms J' b:=
 ⟨h.1,λm hm=>by
  obtain⟨k,e,h2⟩:=h.2 m hm;exact⟨k,e,hk k h2⟩⟩
theorem Marks.more{ms:List Nat}{J:Gb}{b:Nat}(h:Marks ms J b)(K:List aB):Marks ms (J++K) b:=
 h.aQ λi h=>by rw[yAg (yA.1 h).1];exact h
theorem Marks.set{ms:List Nat}{J:Gb}{b i:Nat}{o:aB}(h:Marks ms J b)(hi:J[i]?=some o)(ho:o≠.mark)(x:aB):Marks ms (J.set i x) b:=
 h.aQ λj hj=>by
  have:i≠j:=λe=>by
   subst e;rw[hi]at hj;exact ho (yAU hj)
  rw[yAd this];exact hj
theorem Marks.lt{ms:List Nat}{J:Gb}{b m:Nat}(h:Marks ms J b)(hm:m∈ms):m<J.length+b:=by
 obtain⟨k,e,h2⟩:=h.2 m hm;have:=(yA.1 h2).1;omega
theorem Marks.cons{ms:List Nat}{J:Gb}{b k:Nat}(h:Marks ms J b)(hn:k+b∉ms)(hk:J[k]?=some .mark):Marks ((k+b)::ms) J b:=
 ⟨List.nodup_cons.2 ⟨hn,h.1⟩,λm hm=>by
  rcases yBh.1 hm with rfl|hm
  .exact⟨k,rfl,hk⟩
  .exact h.2 m hm⟩
theorem aGL:∀(ms:List Nat) (σ:List aB),ms.Nodup->(∀m∈ms,σ[m]?=some .mark)->∃σ',uP 0 ms σ=some σ'
 | [],σ,_,_=>⟨σ,rfl⟩
 |m::ms,σ,hn,h=>by
  obtain⟨h1,h2⟩:=List.nodup_cons.1 hn;obtain⟨σ',h3⟩:=aGL ms (σ.set m .none) h2 λk hk=>by
   have:m≠k:=λe=>h1 (by rw[e];exact hk)
   rw[yAd this];exact h k (yBH _ hk)
  refine⟨σ',?_⟩;rw[uP,yAJ (yAF m),h m (yBc ..)];exact h3
theorem Marks.drop{ms:List Nat}{B J:Gb}{b:Nat}(h:Marks ms J b)(hb:B.length=b):∃σ',uP 0 ms (B++J)=some σ':=
 aGL ms _ h.1 λm hm=>by
  obtain⟨k,rfl,h2⟩:=h.2 m hm;rw[yBS Ah,hb,yCC];exact h2
section
variable{P:Program}{E:aE}{fl:Nat}{rd:Option Nat}{Q:PO->Prop}
structure FO (I:Nat->List PD->List Nat->List aB->Prop) (m:Nat) (Q:PO->Prop) (r:PO):Prop where
 nx:r.x=.normal->∃m',m'<m/\I m' r.fr r.ms r.σ
 out:r.x≠.normal->Q r
theorem FO.normal{I:Nat->List PD->List Nat->List aB->Prop}{m:Nat}{fr:Gc}{ms:List Nat}{σ:Gb}(m':Nat)(h:m'<m)(k:I m' fr ms σ):FO I m Q ⟨.normal,fr,ms,σ⟩:=⟨λ_=>⟨m',h,k⟩,λe=>absurd rfl e⟩
theorem FO.exit{I:Nat->List PD->List Nat->List aB->Prop}{m k:Nat}{fr:Gc}{ms:List Nat}{σ:Gb}(h:Q ⟨.exit k,fr,ms,σ⟩):FO I m Q ⟨.exit k,fr,ms,σ⟩:=⟨λe=>Bj,λ_=>h⟩
theorem Wp.aSZ{b:Code}(I:Nat->List PD->List Nat->List aB->Prop)(h:∀m fr ms σ,I m fr ms σ->Wp P E rd b fl fr ms σ (FO I m Q)):∀m {fr ms σ},I m fr ms σ->Wp P E rd (.loop b) fl fr ms σ Q:=by
 intro m
 induction m using Nat.strongRecOn with
 |ind m ih=>
  intro fr ms σ hi;refine Wp.loop ((h m fr ms σ hi).mono λr hr=>⟨λe=>?_,λe=>hr.out e⟩);obtain⟨m',h1,h2⟩:=hr.nx e;exact ih m' h1 h2
end
theorem aS0{k:Nat}(h:0<k):fP (λi=>nM (i+1)) k=nM k::fP (λi=>nM (i+1)) (k-1):=by
 obtain⟨j,rfl⟩:∃j,k=j+1:=⟨k-1,Ah⟩;rfl
theorem aAb{α β:Type}(f:Nat->α->β)(l:List α)(i:Nat)(h:i<l.length):(l.mapIdx f).drop i=f i l[i]::(l.mapIdx f).drop (i+1):=by
 rw[yAq (by rw[yBF];exact h),yDg]
theorem L7{α:Type}{zs l W:List α}{n:Nat}(h:zs++l=W)(hW:W.length<=n):zs.length<=n:=by
 have:=yAK List.length h;rw[yAa]at this;omega
theorem aGK{a b:aP}(ha:bH a=0)(hb:bH b=0):(mV a b).length<=10000:=by
 have h1:(oQ a).flatten.length<=600:=by
  rw[aGM];obtain⟨_,_,⟨⟨_,h3⟩,h4,_⟩,_⟩:=(gO a).1 ha;unfold rS;have:∀l:List bD,(∀d∈l,d.stops.length<=60)->(l.map λd=>d.stops.length).sum<=60*l.length:=by
   intro l
   induction l with
   |nil=>intro _;simp
   |cons d t ih=>
    intro h;exact qj
  have:=this a.aD λd hd=>((AW _ _).1 (h4 d hd).2).2.1
  omega
 obtain⟨_,⟨a1,_⟩,⟨⟨_,a3⟩,_⟩,_⟩:=(gO a).1 ha;obtain⟨_,⟨b1,_⟩,⟨⟨_,b3⟩,_⟩,_⟩:=(gO b).1 hb;unfold mV oP;simp only[yAa,IW,yBF];omega
theorem A0(ys:List bC):ys.map Em.edit.aA=[]\/sz 24 ys=24:=by
 unfold sz
 by_cases h:ys=[]
 .exact .inl Bu
 .exact .inr (yAI (λe=>h (yAf e)))
theorem lL{α:Type}(k:Nat):sz k ([]:List α)=0:=rfl
theorem DA(ys:List bC)(y:bC):sz 24 (ys++[y])=24:=by unfold sz;simp
variable{E:aE}(hU:aH E)
include hU
theorem aSF(h0:E 59=none)(h1:E 90=some IT)(h2:E 122=none)
  (h3:E 91=some IU) (h4:E 123=none)
  (a b:aP) (ha:bH a=0) (hb:bH b=0):aJ prog E 59 [Em.bM.aA a,Em.bM.aA b] ((Em.edit.list 24).aA (mV a b)):=by
 have hW:=aGK ha hb;have hA:a.aM.length<=60/\a.aD.length<=8/\0<a.aD.length:=⟨((gO a).1 ha).2.1.1,((gO a).1 ha).2.2.1.1.2,yCY ((gO a).1 ha).2.2.1.1.1⟩;have hB:b.aM.length<=60/\b.aD.length<=8:=⟨((gO b).1 hb).2.1.1,((gO b).1 hb).2.2.1.1.2⟩;have hS:∀d∈a.aD,d.stops.length<=60:=λd hd=>((AW _ _).1 (((gO a).1 ha).2.2.1.2.1 d hd).2).2.1
 have hw0:[]++(((oQ a).drop 0).flatten++fP (λi=>pU i) a.aM.length++fP (λi=>nM (i+1)) (a.aD.length-1)++(b.aM.mapIdx λi r=>oR i r)++oP b)=mV a b:=rfl;have hg:∀(i:Nat) (hi:i<a.aD.length),(oQ a).drop i=fP (λk=>oS i k) a.aD[i].stops.length::(oQ a).drop (i+1):=λi hi=>by
  rw[yAq (by unfold oQ;rw[yBF];exact hi)]
  congr 1
  simp only[oQ,yDg]
 have hgl:∀i,a.aD.length<=i->(oQ a).drop i=[]:=λi hi=>yCu (by unfold oQ;rw[yBF];exact hi)
 obtain⟨W,hWe⟩:=gn (mV a b);rw[hWe]at hW hw0 ⊢;clear hWe ha hb;obtain⟨R1,XP⟩:=gn (oP b);obtain⟨RS,hRS⟩:=gn (oQ a);rw[hRS]at hw0 hg hgl;obtain⟨an,ar,ad,ac⟩:=a;obtain⟨bn,br,bd,bc⟩:=b;simp only at hw0 hg hgl hS hA hB;simp only[gF,aW];apply aJ.lY h0 func59 rfl
 focus(simp[show Tryz.f59.ntmps=_ from rfl,List.replicate];rfl)
 refine aC trivial ?_;refine Wp.aSZ (λm fr ms σ=>∃(i:Nat) (ys:List bC) (tok:Tok) (J:List aB),∃gg:Nat->PD,(i+m=ad.length/\ys++((RS.drop i).flatten++fP (λi=>pU i) ar.length++fP (λi=>nM (i+1)) (ad.length-1)++(br.mapIdx λi r=>oR i r)++oP ⟨bn,br,bd,bc⟩)=W/\nL J 3 tok ys.length/\Marks ms J 3)/\fr=gg 0::gg 1::.ptr 0 0::.ptr 1 0::gg 4::.ptr 2 0::gg 6::gg 7::gg 8::gg 9::gg 10::gg 11::gg 12::gg 13::gg 14::gg 15::gg 16::.slice (sz 5 ad) (ad.map Em.div.aA) .any::.int .i64 ad.length::.int .i64 i::gg 20::gg 21::gg 22::gg 23::gg 24::gg 25::gg 26::gg 27::gg 28::gg 29::gg 30::gg 31::gg 32::gg 33::gg 34::gg 35::gg 36::gg 37::gg 38::gg 39::gg 40::gg 41::gg 42::gg 43::gg 44::gg 45::gg 46::gg 47::gg 48::gg 49::gg 50::gg 51::gg 52::gg 53::gg 54::gg 55::gg 56::gg 57::gg 58::gg 59::gg 60::gg 61::gg 62::gg 63::gg 64::gg 65::gg 66::gg 67::gg 68::gg 69::gg 70::gg 71::gg 72::gg 73::gg 74::gg 75::gg 76::gg 77::gg 78::gg 79::gg 80::gg 81::gg 82::gg 83::gg 84::gg 85::gg 86::gg 87::gg 88::gg 89::gg 90::gg 91::gg 92::gg 93::[]/\σ=[.box (.agg [.str an,.slice (sz 6 ar) (ar.map Em.aG.aA) .any,.slice (sz 5 ad) (ad.map Em.div.aA) .any,.slice (sz 5 ac) (ac.map Em.aK.aA) .any]),.box (.agg [.str bn,.slice (sz 6 br) (br.map Em.aG.aA) .any,.slice (sz 5 bd) (bd.map Em.div.aA) .any,.slice (sz 5 bc) (bc.map Em.aK.aA) .any]),.box (.slice (sz 24 ys) (ys.map Em.edit.aA) tok)]++J) ?_ (ad.length) (by refine⟨0,[],.full,[],?_⟩;exact cF (⟨Ah,hw0,.inl ⟨rfl,rfl⟩,.nil⟩))
 rintro m fr ms σ ⟨i,ys,tok,J,gg,hI,rfl,rfl⟩
 obtain⟨hm,hys,hrow,hmk⟩:=hI
 by_cases hi:i<ad.length
 rotate_left
 .have q2:¬(i:Int)<(ad.length:Int):=by omega
  rw[hgl i Ah,List.flatten_nil,yAO]at hys;have gs:∀(fl s:Nat) (xs:List PD) (tok:Tok) (σ:List aB),IU fl [.slice s xs tok] σ=some (.func 123 [.ptr σ.length 0],σ++[.box (.slice s xs tok)]):=λ_ _ _ _ _=>rfl
  refine aC q2 ?_;refine FO.exit ?_;refine aC (A2 h3 @gs) ?_;obtain⟨y,hy⟩:=gn (J.length);simp only[hy];refine Wp.RQ (n:=y+4) (σ1:=λL=>[aB.box (.agg [.str an,.slice (sz 6 ar) (ar.map Em.aG.aA) .any,.slice (sz 5 ad) (ad.map Em.div.aA) .any,.slice (sz 5 ac) (ac.map Em.aK.aA) .any]),.box (.agg [.str bn,.slice (sz 6 br) (br.map Em.aG.aA) .any,.slice (sz 5 bd) (bd.map Em.div.aA) .any,.slice (sz 5 bc) (bc.map Em.aK.aA) .any]),.box (.slice (sz 24 ys) (ys.map Em.edit.aA) tok)]++(J++[.box (.slice (sz 6 ar) (ar.map Em.aG.aA) .any),.mark,L])) (aS1 hU h4 ar Ah (y+1+1+1)) rfl Ck (yAF _) (λL=>Ai) (λL hL=>?_);refine tA.ind (λp:Nat×bB=>[PD.int .i64 (p.1:Int),Em.aG.aA p.2]) (λ_ rest σ=>∃(k:Nat) (zs:List bC) (tk:Tok) (K:List aB),k<=ar.length/\rest=pT ar k/\zs++(fP (λi=>pU i) k++(fP (λi=>nM (i+1)) (ad.length-1)++((br.mapIdx λi r=>oR i r)++oP ⟨bn,br,bd,bc⟩)))=W/\nL K 3 tk zs.length /\
   K[y]?=some (.box (.slice (sz 6 ar) (ar.map Em.aG.aA) .any))/\K[y+1]?=some .mark/\K[y+2]?=some L/\Marks ms K 3/\σ=[aB.box (.agg [.str an,.slice (sz 6 ar) (ar.map Em.aG.aA) .any,.slice (sz 5 ad) (ad.map Em.div.aA) .any,.slice (sz 5 ac) (ac.map Em.aK.aA) .any]),.box (.agg [.str bn,.slice (sz 6 br) (br.map Em.aG.aA) .any,.slice (sz 5 bd) (bd.map Em.div.aA) .any,.slice (sz 5 bc) (bc.map Em.aK.aA) .any]),.box (.slice (sz 24 zs) (zs.map Em.edit.aA) tk)]++K) ?_ ?_ (pT ar ar.length) [] _
   ⟨ar.length,ys,tok,J++[.box (.slice (sz 6 ar) (ar.map Em.aG.aA) .any),.mark,L],yAk _,rfl,by rw[<-hys];simp only[yAi],hrow.more _,Ci,Ci,Ci,hmk.more _,rfl⟩
  .rintro done p rest σ ⟨k,zs,tk,K,hk,hrest,hzs,hr,g2,g3,g4,hmr,rfl⟩
   cases k with
   |zero=>cases hrest
   |succ k=>
    rw[AZ Ah]at hrest;simp only[yCb]at hrest;obtain⟨rfl,rfl⟩:=hrest;refine⟨Cl,aL.RN hL (yAF _) Db rfl Ey λLB hLB=>?_⟩;refine aC trivial ?_;refine⟨rfl,Db,_,Es,?_⟩;have hzl:zs.length<=10000:=by
     have:=yAK List.length hzs;rw[yAa]at this;omega
    have w4:=(yA.1 g4).1;have k2:(K.set (y+2) LB)[y]?=some (.box (.slice (sz 6 ar) (ar.map Em.aG.aA) .any)):=by rw[yAd Ah];exact g2
    have k3:(K.set (y+2) LB)[y+1]?=some .mark:=by rw[yAd Ah];exact g3
    have k4:(K.set (y+2) LB)[y+2]?=some LB:=yAj w4;have jE:=hr.set g4 Bp LB;have C9:∀e k n,LB≠.own e k n:=Ee;have w8:=hmr.set g4 Dq LB;obtain⟨KB,hKB⟩:=gn (K.set (y+2) LB);rw[hKB]at k2 k3 k4 jE w8 ⊢;obtain⟨oO,K',hap,iY,cJ,lO⟩:=AY (B:=[aB.box (.agg [.str an,.slice (sz 6 ar) (ar.map Em.aG.aA) .any,.slice (sz 5 ad) (ad.map Em.div.aA) .any,.slice (sz 5 ac) (ac.map Em.aK.aA) .any]),.box (.agg [.str bn,.slice (sz 6 br) (br.map Em.aG.aA) .any,.slice (sz 5 bd) (bd.map Em.div.aA) .any,.slice (sz 5 bc) (bc.map Em.aK.aA) .any]),.box (.slice (sz 24 zs) (zs.map Em.edit.aA) tk)]) (tk:=.any) (p:=Em.edit.aA (pU k)) rfl (A0 zs) (by rw[yAe];exact jE) Bg;have uH:=w8.aQ λi h=>cJ i _ Au h
    have j2:=cJ _ _ Au k2;have j3:=cJ _ _ Au k3;have j4:=cJ _ _ C9 k4;obtain⟨X,hX⟩:=gn ((zs++[pU k]).map Em.edit.aA);rw[show zs.map Em.edit.aA++[Em.edit.aA (pU k)]=X by rw[<-hX,yAH];rfl]at hap;simp only[cU,pU,dK,bS,dN,eD,aW,yAR,yAO,yBp,lL]at hap;refine aC hap ?_;refine⟨by simpa using j4,?_⟩;unfold I5;refine .inl ⟨rfl,k,zs++[pU k],oO,K'.set (y+2) L,Ah,rfl,by rw[<-hzs];simp only[fP,yAi,yAR,yAO],?_,by rw[yAd Ah];exact j2,by rw[yAd Ah];exact j3,yAj (yA.1 j4).1,uH.set j4 (by rw[hLB];intro h;cases h) L,?_⟩
    .have:=iY.set j4 C9 L
     rwa [yAe,<-show(zs++[pU k]).length=zs.length+1 from yAa]at this
    .subst hX;rw[DA];rfl
  .rintro done σ ⟨k,zs,tk,K,hk,hrest,hzs,hr,g2,g3,g4,hmr,rfl⟩
   cases k with
   |succ k=>rw[AZ Ah]at hrest;cases hrest
   |zero=>
    refine⟨Cl,_,by unfold xI;rw[yAR,yAR,yAR,yAO,show(aB.box (.agg [.str an,.slice (sz 6 ar) (ar.map Em.aG.aA) .any,.slice (sz 5 ad) (ad.map Em.div.aA) .any,.slice (sz 5 ac) (ac.map Em.aK.aA) .any])::.box (.agg [.str bn,.slice (sz 6 br) (br.map Em.aG.aA) .any,.slice (sz 5 bd) (bd.map Em.div.aA) .any,.slice (sz 5 bc) (bc.map Em.aK.aA) .any])::.box (.slice (sz 24 zs) (zs.map Em.edit.aA) tk)::K)[y+4+1]?=some L from g4,hL],?_⟩;have hny:y+1+3∉ms:=λh=>by have:=hmk.lt h;omega
    have w8:=Marks.cons (hmr.set g4 Dq .none) hny (by rw[yAd Ah];exact g3);have jE:=hr.set g4 Bp .none;have dQ:(aB.box (.agg [.str an,.slice (sz 6 ar) (ar.map Em.aG.aA) .any,.slice (sz 5 ad) (ad.map Em.div.aA) .any,.slice (sz 5 ac) (ac.map Em.aK.aA) .any])::.box (.agg [.str bn,.slice (sz 6 br) (br.map Em.aG.aA) .any,.slice (sz 5 bd) (bd.map Em.div.aA) .any,.slice (sz 5 bc) (bc.map Em.aK.aA) .any])::aB.box (.slice (sz 24 zs) (zs.map Em.edit.aA) tk)::K).set (y+4+1) .none=aB.box (.agg [.str an,.slice (sz 6 ar) (ar.map Em.aG.aA) .any,.slice (sz 5 ad) (ad.map Em.div.aA) .any,.slice (sz 5 ac) (ac.map Em.aK.aA) .any])::.box (.agg [.str bn,.slice (sz 6 br) (br.map Em.aG.aA) .any,.slice (sz 5 bd) (bd.map Em.div.aA) .any,.slice (sz 5 bc) (bc.map Em.aK.aA) .any])::.box (.slice (sz 24 zs) (zs.map Em.edit.aA) tk)::K.set (y+2) .none:=rfl;rw[dQ];obtain⟨K0,IJ⟩:=gn (K.set (y+2) .none);rw[IJ]at jE w8 ⊢;obtain⟨ms2,aGN⟩:=gn ((y+4)::ms);rw[show(y+1+3)::ms=ms2 from aGN]at w8;rw[aGN];refine aC trivial ?_;have hcast:((ad.length-1:Nat):Int)=(ad.length:Int)-1:=Ah;simp only[fP,yAO]at hzs;obtain⟨R2,hR2⟩:=gn (oP ⟨bn,br,bd,bc⟩);rw[hR2]at hzs;clear g2 g3 g4 dQ IJ hmr hr hys hL;refine Wp.cZ (λm fr σ=>∃(k:Nat) (zs:List bC) (tk:Tok) (K:List aB),∃gg:Nat->PD,(k+1<=ad.length/\m=k/\zs++(fP (λi=>nM (i+1)) k++((br.mapIdx λi r=>oR i r)++R2))=W/\nL K 3 tk zs.length/\Marks ms2 K 3)/\fr=gg 0::gg 1::.ptr 0 0::.ptr 1 0::gg 4::.ptr 2 0::gg 6::gg 7::gg 8::gg 9::.int .i64 (k:Int)::gg 11::gg 12::gg 13::gg 14::gg 15::gg 16::gg 17::gg 18::gg 19::gg 20::gg 21::gg 22::gg 23::gg 24::gg 25::gg 26::gg 27::gg 28::gg 29::gg 30::gg 31::gg 32::gg 33::gg 34::gg 35::gg 36::gg 37::gg 38::gg 39::gg 40::gg 41::gg 42::gg 43::gg 44::gg 45::gg 46::gg 47::gg 48::gg 49::gg 50::gg 51::gg 52::gg 53::gg 54::gg 55::gg 56::gg 57::gg 58::gg 59::gg 60::gg 61::gg 62::gg 63::gg 64::gg 65::gg 66::gg 67::gg 68::gg 69::gg 70::gg 71::gg 72::gg 73::gg 74::gg 75::gg 76::gg 77::gg 78::gg 79::gg 80::gg 81::gg 82::gg 83::gg 84::gg 85::gg 86::gg 87::gg 88::gg 89::gg 90::gg 91::gg 92::gg 93::[]/\σ=[aB.box (.agg [.str an,.slice (sz 6 ar) (ar.map Em.aG.aA) .any,.slice (sz 5 ad) (ad.map Em.div.aA) .any,.slice (sz 5 ac) (ac.map Em.aK.aA) .any]),.box (.agg [.str bn,.slice (sz 6 br) (br.map Em.aG.aA) .any,.slice (sz 5 bd) (bd.map Em.div.aA) .any,.slice (sz 5 bc) (bc.map Em.aK.aA) .any]),.box (.slice (sz 24 zs) (zs.map Em.edit.aA) tk)]++K) ?_ (ad.length-1) (by refine⟨ad.length-1,zs,tk,K0,?_⟩;exact eS (⟨Ah,Ah,hzs,jE,w8⟩) @hcast)
    rintro m fr σ ⟨k,zs,tk,K,gg,hI,rfl,rfl⟩
    obtain⟨hk,aWt,hzs,hr,hmr⟩:=hI
    by_cases hk0:0<k
    .have q3:(0:Int)<(k:Int):=by omega
     have hwr:IntKind.i64.wrap ((k:Int)-1)=((k-1:Nat):Int):=Am;rw[aS0 hk0]at hzs;obtain⟨oO,K',hap,iY,cJ,lO⟩:=AY (B:=[aB.box (.agg [.str an,.slice (sz 6 ar) (ar.map Em.aG.aA) .any,.slice (sz 5 ad) (ad.map Em.div.aA) .any,.slice (sz 5 ac) (ac.map Em.aK.aA) .any]),.box (.agg [.str bn,.slice (sz 6 br) (br.map Em.aG.aA) .any,.slice (sz 5 bd) (bd.map Em.div.aA) .any,.slice (sz 5 bc) (bc.map Em.aK.aA) .any]),.box (.slice (sz 24 zs) (zs.map Em.edit.aA) tk)]) (J:=K) (tk:=.any) (p:=Em.edit.aA (nM k)) rfl (A0 zs) (by rw[yAe];exact hr) Cn;have uH:=(hmr).aQ λi h=>cJ i _ Au h
     obtain⟨X,hX⟩:=gn ((zs++[nM k]).map Em.edit.aA);rw[show zs.map Em.edit.aA++[Em.edit.aA (nM k)]=X by rw[<-hX,yAH];rfl]at hap;simp only[cU,nM,dK,bS,dN,eD,aW,yAR,yAO,yBp,lL]at hap;rw[yAe,<-show(zs++[nM k]).length=zs.length+1 from yAa]at iY;refine aC (A4 q3 hk0 hap hwr) ?_;subst hX;refine bV.normal (m-1) Ah (by refine⟨k-1,zs++[nM k],oO,K',?_⟩;exact eS (⟨Ah,Ah,Ef,iY,uH⟩) @DA)
    obtain rfl:k=0:=Ah;have q3:¬(0:Int)<((0:Nat):Int):=Ah;simp only[fP,yAO]at hzs;refine aC q3 ?_;refine Wp.cZ (λm fr σ=>∃(i:Nat) (zs:List bC) (tk:Tok) (K:List aB),∃gg:Nat->PD,(i+m=br.length/\zs++((br.mapIdx λi r=>oR i r).drop i++R2)=W/\nL K 3 tk zs.length/\Marks ms2 K 3)/\fr=gg 0::gg 1::.ptr 0 0::.ptr 1 0::gg 4::.ptr 2 0::gg 6::gg 7::gg 8::gg 9::gg 10::gg 11::gg 12::gg 13::gg 14::gg 15::gg 16::gg 17::gg 18::gg 19::gg 20::gg 21::gg 22::gg 23::gg 24::gg 25::gg 26::gg 27::gg 28::gg 29::gg 30::gg 31::gg 32::gg 33::gg 34::gg 35::gg 36::gg 37::gg 38::gg 39::gg 40::gg 41::gg 42::gg 43::gg 44::gg 45::gg 46::gg 47::gg 48::gg 49::gg 50::gg 51::gg 52::gg 53::gg 54::gg 55::gg 56::gg 57::gg 58::gg 59::.slice (sz 6 br) (br.map Em.aG.aA) .any::.int .i64 br.length::.int .i64 i::gg 63::gg 64::gg 65::gg 66::gg 67::gg 68::gg 69::gg 70::gg 71::gg 72::gg 73::gg 74::gg 75::gg 76::gg 77::gg 78::gg 79::gg 80::gg 81::gg 82::gg 83::gg 84::gg 85::gg 86::gg 87::gg 88::gg 89::gg 90::gg 91::gg 92::gg 93::[]/\σ=[aB.box (.agg [.str an,.slice (sz 6 ar) (ar.map Em.aG.aA) .any,.slice (sz 5 ad) (ad.map Em.div.aA) .any,.slice (sz 5 ac) (ac.map Em.aK.aA) .any]),.box (.agg [.str bn,.slice (sz 6 br) (br.map Em.aG.aA) .any,.slice (sz 5 bd) (bd.map Em.div.aA) .any,.slice (sz 5 bc) (bc.map Em.aK.aA) .any]),.box (.slice (sz 24 zs) (zs.map Em.edit.aA) tk)]++K) ?_ (br.length) (by refine⟨0,zs,tk,K,?_⟩;exact cF (⟨Ah,hzs,hr,hmr⟩))
    rintro m fr σ ⟨i,zs,tk,K,gg,hI,rfl,rfl⟩
    obtain⟨hmi,hzs,hr,hmr⟩:=hI
    by_cases hi:i<br.length
    .have q4:(i:Int)<(br.length:Int):=by omega
     have hwr:IntKind.i64.wrap ((i:Int)+1)=(i:Int)+1:=Am;rw[aAb _ _ _ hi]at hzs;obtain⟨r,hre⟩:=gn (br[i]);rw[hre]at hzs;obtain⟨rn,rt,ra,rb,rf,wd⟩:=r;obtain⟨oO,K',hap,iY,cJ,lO⟩:=AY (B:=[aB.box (.agg [.str an,.slice (sz 6 ar) (ar.map Em.aG.aA) .any,.slice (sz 5 ad) (ad.map Em.div.aA) .any,.slice (sz 5 ac) (ac.map Em.aK.aA) .any]),.box (.agg [.str bn,.slice (sz 6 br) (br.map Em.aG.aA) .any,.slice (sz 5 bd) (bd.map Em.div.aA) .any,.slice (sz 5 bc) (bc.map Em.aK.aA) .any]),.box (.slice (sz 24 zs) (zs.map Em.edit.aA) tk)]) (J:=K++[.box (.agg [.str rn,.str rt,.int .i64 ra,.int .i64 rb,.int .i64 rf,.slice (sz 1 wd) (wd.map i64.aA) .any])]) (tk:=.any) (p:=Em.edit.aA (oR i ⟨rn,rt,ra,rb,rf,wd⟩)) rfl (A0 zs) Dj Cn;have uH:=(hmr.more _).aQ λi h=>cJ i _ Au h
     obtain⟨X,hX⟩:=gn ((zs++[oR i ⟨rn,rt,ra,rb,rf,wd⟩]).map Em.edit.aA);rw[show zs.map Em.edit.aA++[Em.edit.aA (oR i ⟨rn,rt,ra,rb,rf,wd⟩)]=X by rw[<-hX,yAH];rfl]at hap;simp only[cU,oR,dK,bS,dN,eD,aW,yAR,yAO,yBp,lL]at hap;rw[yAe,<-show(zs++[oR i ⟨rn,rt,ra,rb,rf,wd⟩]).length=zs.length+1 from yAa]at iY;refine aC (A5 q4 hi hre @nN hap) ?_;subst hX;refine bV.normal (m-1) Ah (by refine⟨i+1,zs++[oR i ⟨rn,rt,ra,rb,rf,wd⟩],oO,K',?_⟩;exact eS (⟨Ah,Ef,iY,uH⟩) (A2 @DA hwr))
    have q4:¬(i:Int)<(br.length:Int):=Ah;rw[yCu (by rw[yBF];omega),yAO]at hzs;refine aC q4 ?_;refine Wp.cZ (λm fr σ=>∃(i:Nat) (zs:List bC) (tk:Tok) (K:List aB),∃gg:Nat->PD,(i+m=bd.length/\zs++(oP ⟨bn,br,bd,bc⟩).drop i=W/\nL K 3 tk zs.length/\Marks ms2 K 3)/\fr=gg 0::gg 1::.ptr 0 0::.ptr 1 0::gg 4::.ptr 2 0::gg 6::gg 7::gg 8::gg 9::gg 10::gg 11::gg 12::gg 13::gg 14::gg 15::gg 16::gg 17::gg 18::gg 19::gg 20::gg 21::gg 22::gg 23::gg 24::gg 25::gg 26::gg 27::gg 28::gg 29::gg 30::gg 31::gg 32::gg 33::gg 34::gg 35::gg 36::gg 37::gg 38::gg 39::gg 40::gg 41::gg 42::gg 43::gg 44::gg 45::gg 46::gg 47::gg 48::gg 49::gg 50::gg 51::gg 52::gg 53::gg 54::gg 55::gg 56::gg 57::gg 58::gg 59::gg 60::gg 61::gg 62::gg 63::gg 64::gg 65::gg 66::gg 67::gg 68::gg 69::gg 70::gg 71::gg 72::gg 73::gg 74::.slice (sz 5 bd) (bd.map Em.div.aA) .any::.int .i64 bd.length::.int .i64 i::gg 78::gg 79::gg 80::gg 81::gg 82::gg 83::gg 84::gg 85::gg 86::gg 87::gg 88::gg 89::gg 90::gg 91::gg 92::gg 93::[]/\σ=[aB.box (.agg [.str an,.slice (sz 6 ar) (ar.map Em.aG.aA) .any,.slice (sz 5 ad) (ad.map Em.div.aA) .any,.slice (sz 5 ac) (ac.map Em.aK.aA) .any]),.box (.agg [.str bn,.slice (sz 6 br) (br.map Em.aG.aA) .any,.slice (sz 5 bd) (bd.map Em.div.aA) .any,.slice (sz 5 bc) (bc.map Em.aK.aA) .any]),.box (.slice (sz 24 zs) (zs.map Em.edit.aA) tk)]++K) ?_ (bd.length) (by refine⟨0,zs,tk,K,?_⟩;exact cF (⟨Ah,by rw[hR2];exact hzs,hr,hmr⟩))
    rintro m fr σ ⟨i,zs,tk,K,gg,hI,rfl,rfl⟩
    obtain⟨hmi,hzs,hr,hmr⟩:=hI
    by_cases hi:i<bd.length
    .have q4:(i:Int)<(bd.length:Int):=by omega
     have hwr:IntKind.i64.wrap ((i:Int)+1)=(i:Int)+1:=Am;unfold oP at hzs;rw[aAb _ _ _ hi]at hzs;obtain⟨d,hde⟩:=gn (bd[i]);rw[hde]at hzs;obtain⟨dn,dp,dl,dh,ds⟩:=d
     by_cases xU:i=0
     .rw[yAJ xU]at hzs;subst xU;obtain⟨oO,K',hap,iY,cJ,lO⟩:=AY (B:=[aB.box (.agg [.str an,.slice (sz 6 ar) (ar.map Em.aG.aA) .any,.slice (sz 5 ad) (ad.map Em.div.aA) .any,.slice (sz 5 ac) (ac.map Em.aK.aA) .any]),.box (.agg [.str bn,.slice (sz 6 br) (br.map Em.aG.aA) .any,.slice (sz 5 bd) (bd.map Em.div.aA) .any,.slice (sz 5 bc) (bc.map Em.aK.aA) .any]),.box (.slice (sz 24 zs) (zs.map Em.edit.aA) tk)]) (J:=K++[.box (.agg [.str dn,.bool dp,.int .i64 dl,.int .i64 dh,.slice (sz 4 ds) (ds.map Em.stop.aA) .any]),.box (.agg [.int .i64 6,.int .i64 0,.int .i64 0,.str [],.str [],.str [],.int .i64 0,.int .i64 0,.int .i64 0,.slice 0 [] .full,.str dn,.bool dp,.int .i64 dl,.int .i64 dh,.slice (sz 4 ds) (ds.map Em.stop.aA) .any,.str [],.int .i64 0,.int .i64 0,.slice 0 [] .full,.str [],.int .i64 0,.int .i64 0,.int .i64 0,.bool false])]) (tk:=.any) (p:=Em.edit.aA (w9 0 ⟨dn,dp,dl,dh,ds⟩)) rfl (A0 zs) Dj Cn;have uH:=(hmr.more _).aQ λi h=>cJ i _ Au h
      obtain⟨X,hX⟩:=gn ((zs++[w9 0 ⟨dn,dp,dl,dh,ds⟩]).map Em.edit.aA);rw[show zs.map Em.edit.aA++[Em.edit.aA (w9 0 ⟨dn,dp,dl,dh,ds⟩)]=X by rw[<-hX,yAH];rfl]at hap;simp only[cU,w9,show((0:Nat):Int)=0 from rfl,dK,bS,dN,eD,aW,yAR,yAO,yBp,lL]at hap;rw[yAe,<-show(zs++[w9 0 ⟨dn,dp,dl,dh,ds⟩]).length=zs.length+1 from yAa]at iY;refine aC (A5 q4 hi hde @lX hap) ?_;subst hX;refine bV.normal (m-1) Ah (by refine⟨0+1,zs++[w9 0 ⟨dn,dp,dl,dh,ds⟩],oO,K',?_⟩;exact eS (⟨Ah,by rw[<-hzs];simp only[yAi,yAR,yAO];rfl,iY,uH⟩) (A2 @DA hwr))
     .rw[yAI xU]at hzs;have q5:¬(i:Int)=0:=Ah;obtain⟨oO,K',hap,iY,cJ,lO⟩:=AY (B:=[aB.box (.agg [.str an,.slice (sz 6 ar) (ar.map Em.aG.aA) .any,.slice (sz 5 ad) (ad.map Em.div.aA) .any,.slice (sz 5 ac) (ac.map Em.aK.aA) .any]),.box (.agg [.str bn,.slice (sz 6 br) (br.map Em.aG.aA) .any,.slice (sz 5 bd) (bd.map Em.div.aA) .any,.slice (sz 5 bc) (bc.map Em.aK.aA) .any]),.box (.slice (sz 24 zs) (zs.map Em.edit.aA) tk)]) (J:=K++[.box (.agg [.str dn,.bool dp,.int .i64 dl,.int .i64 dh,.slice (sz 4 ds) (ds.map Em.stop.aA) .any]),.box (.agg [.int .i64 4,.int .i64 0,.int .i64 i,.str [],.str [],.str [],.int .i64 0,.int .i64 0,.int .i64 0,.slice 0 [] .full,.str dn,.bool dp,.int .i64 dl,.int .i64 dh,.slice (sz 4 ds) (ds.map Em.stop.aA) .any,.str [],.int .i64 0,.int .i64 0,.slice 0 [] .full,.str [],.int .i64 0,.int .i64 0,.int .i64 0,.bool false])]) (tk:=.any) (p:=Em.edit.aA (vM i ⟨dn,dp,dl,dh,ds⟩)) rfl (A0 zs) Dj Cn;have uH:=(hmr.more _).aQ λi h=>cJ i _ Au h
      obtain⟨X,hX⟩:=gn ((zs++[vM i ⟨dn,dp,dl,dh,ds⟩]).map Em.edit.aA);rw[show zs.map Em.edit.aA++[Em.edit.aA (vM i ⟨dn,dp,dl,dh,ds⟩)]=X by rw[<-hX,yAH];rfl]at hap;simp only[cU,vM,dK,bS,dN,eD,aW,yAR,yAO,yBp,lL]at hap;rw[yAe,<-show(zs++[vM i ⟨dn,dp,dl,dh,ds⟩]).length=zs.length+1 from yAa]at iY;refine aC (A7 q4 hi hde @lX hap q5 xU) ?_;subst hX;refine bV.normal (m-1) Ah (by refine⟨i+1,zs++[vM i ⟨dn,dp,dl,dh,ds⟩],oO,K',?_⟩;exact eS (⟨Ah,by rw[<-hzs];simp only[yAi,yAR,yAO];rfl,iY,uH⟩) (A2 @DA hwr))
    have q4:¬(i:Int)<(bd.length:Int):=Ah;rw[yCu (by unfold oP;rw[yBF];show bd.length<=i;omega),yAl]at hzs;subst hzs;obtain⟨σ',hdm⟩:=hmr.drop (B:=[aB.box (.agg [.str an,.slice (sz 6 ar) (ar.map Em.aG.aA) .any,.slice (sz 5 ad) (ad.map Em.div.aA) .any,.slice (sz 5 ac) (ac.map Em.aK.aA) .any]),.box (.agg [.str bn,.slice (sz 6 br) (br.map Em.aG.aA) .any,.slice (sz 5 bd) (bd.map Em.div.aA) .any,.slice (sz 5 bc) (bc.map Em.aK.aA) .any]),.box (.slice (sz 24 zs) (zs.map Em.edit.aA) tk)]) rfl;exact mb
 have q2:(i:Int)<(ad.length:Int):=Ah;rw[hg i hi]at hys;have hSd:=hS ad[i] (yAm hi);obtain⟨d,hd⟩:=gn (ad[i]);rw[hd]at hys hSd;obtain⟨dn,dp,dl,dh,ds⟩:=d;simp only at hys hSd;have gs:∀(fl s:Nat) (xs:List PD) (tok:Tok) (σ:List aB),IT fl [.slice s xs tok] σ=some (.func 122 [.ptr σ.length 0],σ++[.box (.slice s xs tok)]):=λ_ _ _ _ _=>rfl
 refine aC (A6 q2 hi @hd @lX h1 @gs) ?_;obtain⟨y,hy⟩:=gn (J.length);simp only[hy];refine Wp.RQ (n:=y+6) (σ1:=λL=>[.box (.agg [.str an,.slice (sz 6 ar) (ar.map Em.aG.aA) .any,.slice (sz 5 ad) (ad.map Em.div.aA) .any,.slice (sz 5 ac) (ac.map Em.aK.aA) .any]),.box (.agg [.str bn,.slice (sz 6 br) (br.map Em.aG.aA) .any,.slice (sz 5 bd) (bd.map Em.div.aA) .any,.slice (sz 5 bc) (bc.map Em.aK.aA) .any]),.box (.slice (sz 24 ys) (ys.map Em.edit.aA) tok)]++(J++[.box (.int .i64 i),.box (.agg [.str dn,.bool dp,.int .i64 dl,.int .i64 dh,.slice (sz 4 ds) (ds.map Em.stop.aA) .any]),.box (.slice (sz 4 ds) (ds.map Em.stop.aA) .any),.mark,L])) (aS2 hU h2 ds Ah (y+2+1+1+1)) rfl Ck (yAF _) (λL=>Ai) (λL hL=>?_);refine tA.ind (λp:Nat×bW=>[PD.int .i64 (p.1:Int),Em.stop.aA p.2]) (λ_ rest σ=>∃(k:Nat) (zs:List bC) (tk:Tok) (K:List aB),k<=ds.length/\rest=pT ds k/\zs++((fP (λk=>oS i k) k::RS.drop (i+1)).flatten++fP (λi=>pU i) ar.length++fP (λi=>nM (i+1)) (ad.length-1)++(br.mapIdx λi r=>oR i r)++oP ⟨bn,br,bd,bc⟩)=W/\nL K 3 tk zs.length /\
  K[y]?=some (.box (.int .i64 i))/\K[y+2]?=some (.box (.slice (sz 4 ds) (ds.map Em.stop.aA) .any))/\K[y+3]?=some .mark/\K[y+4]?=some L/\Marks ms K 3/\σ=[.box (.agg [.str an,.slice (sz 6 ar) (ar.map Em.aG.aA) .any,.slice (sz 5 ad) (ad.map Em.div.aA) .any,.slice (sz 5 ac) (ac.map Em.aK.aA) .any]),.box (.agg [.str bn,.slice (sz 6 br) (br.map Em.aG.aA) .any,.slice (sz 5 bd) (bd.map Em.div.aA) .any,.slice (sz 5 bc) (bc.map Em.aK.aA) .any]),.box (.slice (sz 24 zs) (zs.map Em.edit.aA) tk)]++K) ?_ ?_ (pT ds ds.length) [] _
  ⟨ds.length,ys,tok,J++[.box (.int .i64 i),.box (.agg [.str dn,.bool dp,.int .i64 dl,.int .i64 dh,.slice (sz 4 ds) (ds.map Em.stop.aA) .any]),.box (.slice (sz 4 ds) (ds.map Em.stop.aA) .any),.mark,L],yAk _,rfl,hys,hrow.more _,Ci,Ci,Ci,Ci,hmk.more _,rfl⟩
 .rintro done p rest σ ⟨k,zs,tk,K,hk,hrest,hzs,hr,g0,g2,g3,g4,hmr,rfl⟩
  cases k with
  |zero=>cases hrest
  |succ k=>
   rw[AZ Ah]at hrest;simp only[yCb]at hrest;obtain⟨rfl,rfl⟩:=hrest;refine⟨Cl,aL.RN hL (yAF _) Db rfl Ey λLB hLB=>?_⟩;refine aC trivial ?_;refine⟨rfl,Db,_,Es,?_⟩;have hzl:zs.length<=10000:=by
    have:=yAK List.length hzs;rw[yAa]at this;omega
   have w4:=(yA.1 g4).1;have k0:(K.set (y+4) LB)[y]?=some (.box (.int .i64 i)):=by rw[yAd Ah];exact g0
   have k2:(K.set (y+4) LB)[y+2]?=some (.box (.slice (sz 4 ds) (ds.map Em.stop.aA) .any)):=by rw[yAd Ah];exact g2
   have k3:(K.set (y+4) LB)[y+3]?=some .mark:=by rw[yAd Ah];exact g3
   have k4:(K.set (y+4) LB)[y+4]?=some LB:=yAj w4;have jE:=hr.set g4 Bp LB;have C9:∀e k n,LB≠.own e k n:=Ee;have w8:=hmr.set g4 Dq LB;obtain⟨KB,hKB⟩:=gn (K.set (y+4) LB);rw[hKB]at k0 k2 k3 k4 jE w8 ⊢;obtain⟨oO,K',hap,iY,cJ,lO⟩:=AY (B:=[aB.box (.agg [.str an,.slice (sz 6 ar) (ar.map Em.aG.aA) .any,.slice (sz 5 ad) (ad.map Em.div.aA) .any,.slice (sz 5 ac) (ac.map Em.aK.aA) .any]),.box (.agg [.str bn,.slice (sz 6 br) (br.map Em.aG.aA) .any,.slice (sz 5 bd) (bd.map Em.div.aA) .any,.slice (sz 5 bc) (bc.map Em.aK.aA) .any]),.box (.slice (sz 24 zs) (zs.map Em.edit.aA) tk)]) (tk:=.any) (p:=Em.edit.aA (oS i k)) rfl (A0 zs) (by rw[yAe];exact jE) Bg;have uH:=w8.aQ λi h=>cJ i _ Au h
   have j0:=cJ _ _ Au k0;have j2:=cJ _ _ Au k2;have j3:=cJ _ _ Au k3;have j4:=cJ _ _ C9 k4;obtain⟨X,hX⟩:=gn ((zs++[oS i k]).map Em.edit.aA);rw[show zs.map Em.edit.aA++[Em.edit.aA (oS i k)]=X by rw[<-hX,yAH];rfl]at hap;simp only[cU,oS,dK,bS,dN,eD,aW,yAR,yAO,yBp,lL]at hap;refine aC (A2 k0 hap) ?_;refine⟨by simpa using j4,?_⟩;unfold I5;refine .inl ⟨rfl,k,zs++[oS i k],oO,K'.set (y+4) L,Ah,rfl,by rw[<-hzs];simp only[fP,yBq,yAi,yAR,yAO],?_,by rw[yAd Ah];exact j0,by rw[yAd Ah];exact j2,by rw[yAd Ah];exact j3,yAj (yA.1 j4).1,uH.set j4 (by rw[hLB];intro h;cases h) L,?_⟩
   .have:=iY.set j4 C9 L
    rwa [yAe,<-show(zs++[oS i k]).length=zs.length+1 from yAa]at this
   .subst hX;rw[DA];rfl
 .rintro done σ ⟨k,zs,tk,K,hk,hrest,hzs,hr,g0,g2,g3,g4,hmr,rfl⟩
  cases k with
  |succ k=>rw[AZ Ah]at hrest;cases hrest
  |zero=>
   refine⟨Cl,_,by unfold xI;rw[yAR,yAR,yAR,yAO,show(aB.box (.agg [.str an,.slice (sz 6 ar) (ar.map Em.aG.aA) .any,.slice (sz 5 ad) (ad.map Em.div.aA) .any,.slice (sz 5 ac) (ac.map Em.aK.aA) .any])::.box (.agg [.str bn,.slice (sz 6 br) (br.map Em.aG.aA) .any,.slice (sz 5 bd) (bd.map Em.div.aA) .any,.slice (sz 5 bc) (bc.map Em.aK.aA) .any])::.box (.slice (sz 24 zs) (zs.map Em.edit.aA) tk)::K)[y+6+1]?=some L from g4,hL],?_⟩;have hwr:IntKind.i64.wrap ((i:Int)+1)=(i:Int)+1:=Am;have hny:y+3+3∉ms:=λh=>by have:=hmk.lt h;omega
   have w8:=Marks.cons (hmr.set g4 Dq .none) hny (by rw[yAd Ah];exact g3);refine aC hwr ?_;refine FO.normal (m-1) Ah (by refine⟨i+1,zs,tk,K.set (y+4) .none,?_⟩;exact cF (⟨Ah,by rw[<-hzs];simp[fP],hr.set g4 Bp _,w8⟩))
end
section
def Q3:Nat->List PD->List aB->Option (PD×List aB):=entry (dZ Em.bM Em.bM (Em.edit.list 24) λa b=>dP (bH a=0/\bH b=0) (some (mV a b)))
theorem aST{a b:aP}(ha:bH a=0)(hb:bH b=0)(fl:Nat)(σ:List aB):Q3 fl [Em.bM.aA a,Em.bM.aA b] σ=some (.slice (sz 24 (mV a b)) ((mV a b).map Em.edit.aA) .any,σ):=by
 have e1:=Em.cM (Em.bM.str a);have e2:=Em.cM (Em.bM.str b);unfold Q3 entry dZ;simp only[e1,e2];rw[eV ⟨ha,hb⟩];simp only[aW]
theorem aSU{P:Program}{σ:Gb}{t e:TypeId}{k b s:Nat}{zs:Gc}(hu:P.underlying t=some (.slice e))(hi:iM P e=some (k,b))(h0:zs.length≠0)(hm:zs.length<=100000)(hb:zs.length*b<=140737488355328) :
  gH P 0 σ t (.slice s [] .full) (.slice k zs .any)=some (.slice k zs (.own σ.length),σ++[.own e k zs.length]):=by
 unfold iM at hi;split at hi
 .rename_i i h1;split at hi
  .rename_i z h2;split at hi
   .rename_i h3;simp only[yAb,yAc]at hi;obtain⟨rfl,rfl⟩:=hi;have hmm:zs.length<=maxLen:=Ay;simp only[gH,hu,h1,h2,yAQ,true_or,yCa,h3.2,h3.1,hmm,hb,yBy,yAL,h0,yAN,yAO,yAp]
   .cases hi
  .cases hi
 .cases hi
theorem aSV{P:Program}{σ:Gb}{t e:TypeId}{id k b:Nat}{xs zs:Gc}(hu:P.underlying t=some (.slice e))(hi:iM P e=some (k,b))(hr:σ[id]?=some (.own e k xs.length))(h0:zs.length≠0)
  (hm:xs.length+zs.length<=100000) (hb:(xs.length+zs.length)*b<=140737488355328) :
  gH P 0 σ t (.slice k xs (.own id)) (.slice k zs .any)=some (.slice k (xs++zs) (.own id),σ.set id (.own e k (xs.length+zs.length))):=by
 unfold iM at hi;split at hi
 .rename_i i h1;split at hi
  .rename_i z h2;split at hi
   .rename_i h3;simp only[yAb,yAc]at hi;obtain⟨rfl,rfl⟩:=hi;have hmm:xs.length+zs.length<=maxLen:=Ay;simp only[gH,hu,h1,h2,h3.2,h3.1,hmm,hb,yCa,yBy,yAL,h0,yAN,yAF,hr]
   .cases hi
  .cases hi
 .cases hi
theorem aSW{B J:Gb}{b s:Nat}{xs zs:Gc}{tok:Tok}(hb:B.length=b)(hs:xs=[]\/s=24)(hr:nL J b tok xs.length)(h0:zs.length≠0)(hm:xs.length+zs.length<=100000) :
  ∃fZ J',gH prog 0 (B++J) 41 (.slice s xs tok) (.slice 24 zs .any)=some (.slice 24 (xs++zs) fZ,B++J')/\nL J' b fZ (xs.length+zs.length)/\(∀(i:Nat) (o:aB),(∀e k n,o≠.own e k n)->J[i]?=some o->J'[i]?=some o)/\J.length<=J'.length:=by
 have hbt:iM prog 60=some (24,288):=Aj;rcases hr with⟨hx0,rfl⟩ | ⟨hx0,id,rfl,h2⟩
 .have hx:xs=[]:=yAf hx0;subst hx;refine⟨_,J++[.own 60 24 zs.length],?_,.inr ⟨by simp only[yAQ];omega,J.length,rfl,by rw[yAQ,yAp];exact yAB⟩,λi o _ h=>?_,Ai⟩
  .rw[aSU underlying41 hbt h0 (by simp only[yAQ]at hm;omega) (by simp only[yAQ]at hm;omega),yAi,yAa,hb,yDo b];rfl
  .exact jw
 .have hs':s=24:=hs.resolve_left λe=>by rw[e]at hx0;exact absurd hx0 Al
  subst hs';refine⟨_,J.set id (.own 60 24 (xs.length+zs.length)),?_,.inr ⟨Ah,id,rfl,yAj (yA.1 h2).1⟩,λi o ho h=>?_,Ai⟩
  .have hg:(B++J)[id+b]?=some (.own 60 24 xs.length):=by rw[yBS Ah,hb,yCC];exact h2
   rw[aSV underlying41 hbt hg h0 hm Ah,yDx _ _ Ah,hb,yCC]
  .exact qg
variable{E:aE}(hU:aH E)
include hU
theorem aSH(h0:E 25=none)(h1:E 27=some CA)(h2:E 41=some IQ)(h3:E 32=some (s4 aM FZ 33))
  (h4:E 34=some (s4 pX F0 35)) (h5:E 36=some (eU oC FY))
  (h6:E 59=some Q3) (h7:E 58=some IS) (h8:E 89=none)
  (a b:aP) (ha:gY a) (hb:gY b):aJ prog E 25 [Em.bM.aA a,Em.bM.aA b] ((L4.sA i64).aA (nK a b,0)):=by
 have hA:=FL ha.dI;have hB:=FL hb.dI;rw[ha.1]at hA;rw[hb.1]at hB;have hC:=aGJ hb;have hR:=aST ha.1 hb.1;have l1:=λfl σ=>mM (a:=aM) (R:=FZ) (x:=a.aM) (y:=b.aM) (ha.dI.gG.1) (hb.dI.gG.1) fl σ
 have l2:=λfl σ=>mM (a:=pX) (R:=F0) (x:=a.aD) (y:=b.aD) (ha.dI.gG.2.1) (hb.dI.gG.2.1) fl σ
 have l3:=λfl σ=>mM (a:=oC) (R:=FY) (x:=a.aO) (y:=b.aO) (ha.dI.gG.2.2) (hb.dI.gG.2.2) fl σ
 obtain⟨an,ar,ad,ac⟩:=a;obtain⟨bn,br,bd,bc⟩:=b;simp only[gF,aW]at hA hB hC hR l1 l2 l3 ⊢;refine aJ.aN 93 h0 func25 (h:=?_);refine aC trivial ?_;refine Wp.loop ?_;refine aC (A2 h1 hA) ?_;refine Wp.loop ?_;refine aC (A2 h1 hB) ?_;refine Wp.loop ?_;refine aC (A2 h2 hC) ?_;have hN:∀ys:List bC,(if an=bn then []else [oN bn])=ys->ys.length<=1:=λys h=>by rw[<-h];split<;>simp
 refine Wp.mono (Q:=λr=>r.x=.normal/\r.ms=[]/\∃(ys:List bC) (tok:Tok) (J:List aB) (gg:Nat->PD),((if an=bn then []else [oN bn])=ys/\nL J 5 tok ys.length)/\r.fr=[gg 0,gg 1,.ptr 0 0,.ptr 1 0,gg 4,gg 5,gg 6,gg 7,gg 8,.ptr 4 0,gg 10,gg 11,gg 12,gg 13,gg 14,gg 15,gg 16,gg 17,gg 18,gg 19,gg 20,gg 21,gg 22,gg 23,gg 24,gg 25,gg 26,gg 27,gg 28,gg 29,gg 30,gg 31,gg 32,gg 33,gg 34,gg 35,gg 36,gg 37,gg 38,gg 39,gg 40,gg 41,gg 42,gg 43,gg 44,gg 45,gg 46,gg 47,gg 48,gg 49,gg 50,gg 51,gg 52,gg 53,gg 54,gg 55,gg 56,gg 57,gg 58,gg 59,gg 60,gg 61,gg 62,gg 63,gg 64,gg 65,gg 66,gg 67,gg 68,gg 69,gg 70,gg 71,gg 72,gg 73,gg 74,gg 75,gg 76,gg 77,gg 78,gg 79,gg 80,gg 81,gg 82,gg 83,gg 84,gg 85,gg 86,gg 87,gg 88,gg 89,gg 90,gg 91,gg 92]/\r.σ=[aB.box (.agg [.str an,.slice (sz 6 ar) (ar.map Em.aG.aA) .any,.slice (sz 5 ad) (ad.map Em.div.aA) .any,.slice (sz 5 ac) (ac.map Em.aK.aA) .any]),.box (.agg [.str bn,.slice (sz 6 br) (br.map Em.aG.aA) .any,.slice (sz 5 bd) (bd.map Em.div.aA) .any,.slice (sz 5 bc) (bc.map Em.aK.aA) .any]),.box (.agg [.str an,.slice (sz 6 ar) (ar.map Em.aG.aA) .any,.slice (sz 5 ad) (ad.map Em.div.aA) .any,.slice (sz 5 ac) (ac.map Em.aK.aA) .any]),.box (.agg [.str bn,.slice (sz 6 br) (br.map Em.aG.aA) .any,.slice (sz 5 bd) (bd.map Em.div.aA) .any,.slice (sz 5 bc) (bc.map Em.aK.aA) .any]),.box (.slice (sz 24 ys) (ys.map Em.edit.aA) tok)]++J) ?_ ?_
 .by_cases e0:an=bn
  .rw[yAJ e0];have f0:(an==bn)=true:=by simpa using e0
   simp only[f0,yBJ];refine aC trivial ?_;exact⟨rfl,rfl,[],.full,[],j6 ⟨rfl,.inl ⟨rfl,rfl⟩⟩ As As⟩
  .rw[yAI e0];have f0:(an==bn)=false:=by simpa using e0
   obtain⟨oO,K',hap,iY,cJ,lO⟩:=AY (B:=[aB.box (.agg [.str an,.slice (sz 6 ar) (ar.map Em.aG.aA) .any,.slice (sz 5 ad) (ad.map Em.div.aA) .any,.slice (sz 5 ac) (ac.map Em.aK.aA) .any]),.box (.agg [.str bn,.slice (sz 6 br) (br.map Em.aG.aA) .any,.slice (sz 5 bd) (bd.map Em.div.aA) .any,.slice (sz 5 bc) (bc.map Em.aK.aA) .any]),.box (.agg [.str an,.slice (sz 6 ar) (ar.map Em.aG.aA) .any,.slice (sz 5 ad) (ad.map Em.div.aA) .any,.slice (sz 5 ac) (ac.map Em.aK.aA) .any]),.box (.agg [.str bn,.slice (sz 6 br) (br.map Em.aG.aA) .any,.slice (sz 5 bd) (bd.map Em.div.aA) .any,.slice (sz 5 bc) (bc.map Em.aK.aA) .any]),.box (.slice 0 [] .full)]) (J:=[]) (s:=0) (xs:=[]) (tok:=.full) (tk:=.any) (p:=Em.edit.aA (oN bn)) rfl (.inl rfl) (.inl ⟨rfl,rfl⟩) Al;simp only[cU,oN,dK,bS,dN,eD,aW,yAR,yAO,yBp,lL,yAl]at hap;simp only[f0,yCm];refine aC hap ?_;exact⟨rfl,rfl,[oN bn],oO,K',j6 ⟨rfl,iY⟩ Ce Ce⟩
 rintro⟨x,fr,ms,σ⟩ ⟨rfl,rfl,ys,tok,J,gg,⟨hys,hrow⟩,rfl,rfl⟩
 refine kG.normal ?_;obtain⟨S,hS⟩:=gn (decide (FN ⟨an,ar,ad,ac⟩ ⟨bn,br,bd,bc⟩));refine Wp.seq ?_;refine Wp.mono (Q:=λr=>r.x=.normal/\r.ms=[]/\∃gg:Nat->PD,True/\r.fr=[gg 0,gg 1,.ptr 0 0,.ptr 1 0,gg 4,gg 5,gg 6,gg 7,gg 8,.ptr 4 0,.bool S,gg 11,gg 12,gg 13,gg 14,gg 15,gg 16,gg 17,gg 18,gg 19,gg 20,gg 21,gg 22,gg 23,gg 24,gg 25,gg 26,gg 27,gg 28,gg 29,gg 30,gg 31,gg 32,gg 33,gg 34,gg 35,gg 36,gg 37,gg 38,gg 39,gg 40,gg 41,gg 42,gg 43,gg 44,gg 45,gg 46,gg 47,gg 48,gg 49,gg 50,gg 51,gg 52,gg 53,gg 54,gg 55,gg 56,gg 57,gg 58,gg 59,gg 60,gg 61,gg 62,gg 63,gg 64,gg 65,gg 66,gg 67,gg 68,gg 69,gg 70,gg 71,gg 72,gg 73,gg 74,gg 75,gg 76,gg 77,gg 78,gg 79,gg 80,gg 81,gg 82,gg 83,gg 84,gg 85,gg 86,gg 87,gg 88,gg 89,gg 90,gg 91,gg 92]/\r.σ=[aB.box (.agg [.str an,.slice (sz 6 ar) (ar.map Em.aG.aA) .any,.slice (sz 5 ad) (ad.map Em.div.aA) .any,.slice (sz 5 ac) (ac.map Em.aK.aA) .any]),.box (.agg [.str bn,.slice (sz 6 br) (br.map Em.aG.aA) .any,.slice (sz 5 bd) (bd.map Em.div.aA) .any,.slice (sz 5 bc) (bc.map Em.aK.aA) .any]),.box (.agg [.str an,.slice (sz 6 ar) (ar.map Em.aG.aA) .any,.slice (sz 5 ad) (ad.map Em.div.aA) .any,.slice (sz 5 ac) (ac.map Em.aK.aA) .any]),.box (.agg [.str bn,.slice (sz 6 br) (br.map Em.aG.aA) .any,.slice (sz 5 bd) (bd.map Em.div.aA) .any,.slice (sz 5 bc) (bc.map Em.aK.aA) .any]),.box (.slice (sz 24 ys) (ys.map Em.edit.aA) tok)]++J) ?_ ?_
 .by_cases e1:ar=br
  .by_cases e2:ad=bd
   .have yF:S=true:=by rw[<-hS];exact yAY ⟨e1,e2⟩
    rw[yF];rw[yAY e1]at l1;rw[yAY e2]at l2;refine aC (A5 h3 h4 @pY l1 l2) ?_;exact bz
   .have yF:S=false:=by rw[<-hS];exact yBd λh=>e2 h.2
    rw[yF];rw[yAY e1]at l1;rw[yBd e2]at l2;refine aC (A5 h3 h4 @pY l1 l2) ?_;exact bz
  .have yF:S=false:=by rw[<-hS];exact yBd λh=>e1 h.1
   rw[yF];rw[yBd e1]at l1;refine aC (A4 h3 h4 @pY l1) ?_;exact bz
 rintro⟨x,fr,ms,σ⟩ ⟨rfl,rfl,gg,-,rfl,rfl⟩
 refine kG.normal ?_;have hac:ac.length<=40:=((gO _).1 ha.1).2.2.2.1;have hbc:bc.length<=40:=((gO _).1 hb.1).2.2.2.1;have hrl:=aGK ha.1 hb.1;have hr0:(mV ⟨an,ar,ad,ac⟩ ⟨bn,br,bd,bc⟩).length≠0:=by
  have:=((gO _).1 hb.1).2.2.1.1.1;unfold mV oP;simp only[yAa,yBF];have h2:bd.length≠0:=this;omega
 by_cases hret:S=true/\ac=bc
 .obtain⟨hs,e3⟩:=hret;rw[yAY e3]at l3;have hD:nK ⟨an,ar,ad,ac⟩ ⟨bn,br,bd,bc⟩=ys:=by
   rw[hs]at hS;unfold nK;rw[yAJ ⟨yDh hS,e3⟩];exact hys
  rw[hD,hs];clear hD;refine aC (A2 h5 l3) ?_;exact ag
 have hD:nK ⟨an,ar,ad,ac⟩ ⟨bn,br,bd,bc⟩=ys++fP (λi=>qT i) ac.length++(if S=true then []else mV ⟨an,ar,ad,ac⟩ ⟨bn,br,bd,bc⟩)++(bc.mapIdx λi c=>qU i c):=by
  unfold nK;rw[yAI λh=>hret ⟨by rw[<-hS];exact yAY h.1,h.2⟩];show(if an=bn then []else [oN bn])++_++_++_=_
  rw[hys,<-hS]
  congr 2
  by_cases h:FN ⟨an,ar,ad,ac⟩ ⟨bn,br,bd,bc⟩
  .rw[yAJ h,yAJ (yAY h)]
  .rw[yAI h,yAI (λe=>h (yDh e))]
 obtain⟨W,hW⟩:=gn (nK ⟨an,ar,ad,ac⟩ ⟨bn,br,bd,bc⟩);rw[hW]at hD ⊢;clear hW;have hyl:=hN ys hys;clear hys hN;refine Wp.seq ?_;refine Wp.mono (Q:=λr=>r.x=.normal/\r.ms=[]/\∃gg:Nat->PD,True/\r.fr=[gg 0,gg 1,.ptr 0 0,.ptr 1 0,gg 4,gg 5,gg 6,gg 7,gg 8,.ptr 4 0,.bool S,gg 11,gg 12,gg 13,gg 14,gg 15,gg 16,gg 17,gg 18,gg 19,gg 20,gg 21,gg 22,gg 23,gg 24,gg 25,gg 26,gg 27,gg 28,gg 29,gg 30,gg 31,gg 32,gg 33,gg 34,gg 35,gg 36,gg 37,gg 38,gg 39,gg 40,gg 41,gg 42,gg 43,gg 44,gg 45,gg 46,gg 47,gg 48,gg 49,gg 50,gg 51,gg 52,gg 53,gg 54,gg 55,gg 56,gg 57,gg 58,gg 59,gg 60,gg 61,gg 62,gg 63,gg 64,gg 65,gg 66,gg 67,gg 68,gg 69,gg 70,gg 71,gg 72,gg 73,gg 74,gg 75,gg 76,gg 77,gg 78,gg 79,gg 80,gg 81,gg 82,gg 83,gg 84,gg 85,gg 86,gg 87,gg 88,gg 89,gg 90,gg 91,gg 92]/\r.σ=[aB.box (.agg [.str an,.slice (sz 6 ar) (ar.map Em.aG.aA) .any,.slice (sz 5 ad) (ad.map Em.div.aA) .any,.slice (sz 5 ac) (ac.map Em.aK.aA) .any]),.box (.agg [.str bn,.slice (sz 6 br) (br.map Em.aG.aA) .any,.slice (sz 5 bd) (bd.map Em.div.aA) .any,.slice (sz 5 bc) (bc.map Em.aK.aA) .any]),.box (.agg [.str an,.slice (sz 6 ar) (ar.map Em.aG.aA) .any,.slice (sz 5 ad) (ad.map Em.div.aA) .any,.slice (sz 5 ac) (ac.map Em.aK.aA) .any]),.box (.agg [.str bn,.slice (sz 6 br) (br.map Em.aG.aA) .any,.slice (sz 5 bd) (bd.map Em.div.aA) .any,.slice (sz 5 bc) (bc.map Em.aK.aA) .any]),.box (.slice (sz 24 ys) (ys.map Em.edit.aA) tok)]++J) ?_ ?_
 .cases S with
  |false=>
   refine aC trivial ?_;exact bz
  |true=>
   have e3:¬ac=bc:=λe=>hret ⟨rfl,e⟩
   rw[yBd e3]at l3;refine aC (A2 h5 l3) ?_;exact bz
 rintro⟨x,fr,ms,σ⟩ ⟨rfl,rfl,gg,-,rfl,rfl⟩
 refine kG.normal ?_;refine Wp.seq ?_;refine Wp.mono (Q:=λr=>r.x=.normal/\∃(zs:List bC) (tk:Tok) (K:List aB) (mk:Nat) (gg:Nat->PD),(zs=ys++fP (λi=>qT i) ac.length/\nL K 5 tk zs.length/\r.ms=[mk]/\Marks [mk] K 5)/\r.fr=[gg 0,gg 1,.ptr 0 0,.ptr 1 0,gg 4,gg 5,gg 6,gg 7,gg 8,.ptr 4 0,.bool S,gg 11,gg 12,gg 13,gg 14,gg 15,gg 16,gg 17,gg 18,gg 19,gg 20,gg 21,gg 22,gg 23,gg 24,gg 25,gg 26,gg 27,gg 28,gg 29,gg 30,gg 31,gg 32,gg 33,gg 34,gg 35,gg 36,gg 37,gg 38,gg 39,gg 40,gg 41,gg 42,gg 43,gg 44,gg 45,gg 46,gg 47,gg 48,gg 49,gg 50,gg 51,gg 52,gg 53,gg 54,gg 55,gg 56,gg 57,gg 58,gg 59,gg 60,gg 61,gg 62,gg 63,gg 64,gg 65,gg 66,gg 67,gg 68,gg 69,gg 70,gg 71,gg 72,gg 73,gg 74,gg 75,gg 76,gg 77,gg 78,gg 79,gg 80,gg 81,gg 82,gg 83,gg 84,gg 85,gg 86,gg 87,gg 88,gg 89,gg 90,gg 91,gg 92]/\r.σ=[aB.box (.agg [.str an,.slice (sz 6 ar) (ar.map Em.aG.aA) .any,.slice (sz 5 ad) (ad.map Em.div.aA) .any,.slice (sz 5 ac) (ac.map Em.aK.aA) .any]),.box (.agg [.str bn,.slice (sz 6 br) (br.map Em.aG.aA) .any,.slice (sz 5 bd) (bd.map Em.div.aA) .any,.slice (sz 5 bc) (bc.map Em.aK.aA) .any]),.box (.agg [.str an,.slice (sz 6 ar) (ar.map Em.aG.aA) .any,.slice (sz 5 ad) (ad.map Em.div.aA) .any,.slice (sz 5 ac) (ac.map Em.aK.aA) .any]),.box (.agg [.str bn,.slice (sz 6 br) (br.map Em.aG.aA) .any,.slice (sz 5 bd) (bd.map Em.div.aA) .any,.slice (sz 5 bc) (bc.map Em.aK.aA) .any]),.box (.slice (sz 24 zs) (zs.map Em.edit.aA) tk)]++K) ?_ ?_
 .have gs:∀(fl s:Nat) (xs:List PD) (tok:Tok) (σ:List aB),IS fl [.slice s xs tok] σ=some (.func 89 [.ptr σ.length 0],σ++[.box (.slice s xs tok)]):=λ_ _ _ _ _=>rfl
  refine aC (A2 h7 @gs) ?_;obtain⟨y,hy⟩:=gn (J.length);simp only[hy];refine Wp.RQ (n:=y+6) (σ1:=λL=>[aB.box (.agg [.str an,.slice (sz 6 ar) (ar.map Em.aG.aA) .any,.slice (sz 5 ad) (ad.map Em.div.aA) .any,.slice (sz 5 ac) (ac.map Em.aK.aA) .any]),.box (.agg [.str bn,.slice (sz 6 br) (br.map Em.aG.aA) .any,.slice (sz 5 bd) (bd.map Em.div.aA) .any,.slice (sz 5 bc) (bc.map Em.aK.aA) .any]),.box (.agg [.str an,.slice (sz 6 ar) (ar.map Em.aG.aA) .any,.slice (sz 5 ad) (ad.map Em.div.aA) .any,.slice (sz 5 ac) (ac.map Em.aK.aA) .any]),.box (.agg [.str bn,.slice (sz 6 br) (br.map Em.aG.aA) .any,.slice (sz 5 bd) (bd.map Em.div.aA) .any,.slice (sz 5 bc) (bc.map Em.aK.aA) .any]),.box (.slice (sz 24 ys) (ys.map Em.edit.aA) tok)]++(J++[.box (.slice (sz 5 ac) (ac.map Em.aK.aA) .any),.mark,L])) (aSX hU h8 ac Ah (y+1+1+1+1+1)) rfl Ck (yAF _) (λL=>Ai) (λL hL=>?_);refine tA.ind (λp:Nat×bP=>[PD.int .i64 (p.1:Int),Em.aK.aA p.2]) (λ_ rest σ=>∃(k:Nat) (zs:List bC) (tk:Tok) (K:List aB),k<=ac.length/\rest=pT ac k/\zs++fP (λi=>qT i) k=ys++fP (λi=>qT i) ac.length/\nL K 5 tk zs.length /\
   K[y]?=some (.box (.slice (sz 5 ac) (ac.map Em.aK.aA) .any))/\K[y+1]?=some .mark/\K[y+2]?=some L/\σ=[aB.box (.agg [.str an,.slice (sz 6 ar) (ar.map Em.aG.aA) .any,.slice (sz 5 ad) (ad.map Em.div.aA) .any,.slice (sz 5 ac) (ac.map Em.aK.aA) .any]),.box (.agg [.str bn,.slice (sz 6 br) (br.map Em.aG.aA) .any,.slice (sz 5 bd) (bd.map Em.div.aA) .any,.slice (sz 5 bc) (bc.map Em.aK.aA) .any]),.box (.agg [.str an,.slice (sz 6 ar) (ar.map Em.aG.aA) .any,.slice (sz 5 ad) (ad.map Em.div.aA) .any,.slice (sz 5 ac) (ac.map Em.aK.aA) .any]),.box (.agg [.str bn,.slice (sz 6 br) (br.map Em.aG.aA) .any,.slice (sz 5 bd) (bd.map Em.div.aA) .any,.slice (sz 5 bc) (bc.map Em.aK.aA) .any]),.box (.slice (sz 24 zs) (zs.map Em.edit.aA) tk)]++K) ?_ ?_ (pT ac ac.length) [] _
   ⟨ac.length,ys,tok,J++[.box (.slice (sz 5 ac) (ac.map Em.aK.aA) .any),.mark,L],yAk _,rfl,rfl,hrow.more _,Ci,Ci,Ci,rfl⟩
  .rintro done p rest σ ⟨k,zs,tk,K,hk,hrest,hzs,hr,g2,g3,g4,rfl⟩
   cases k with
   |zero=>cases hrest
   |succ k=>
    rw[AZ Ah]at hrest;simp only[yCb]at hrest;obtain⟨rfl,rfl⟩:=hrest;refine⟨Cl,aL.RN hL (yAF _) Db rfl Ey λLB hLB=>?_⟩;refine aC trivial ?_;refine⟨rfl,Db,_,Es,?_⟩;have hzl:zs.length<=10000:=by
     have:=yAK List.length hzs;simp only[yAa,IW]at this;omega
    have w4:=(yA.1 g4).1;have k2:(K.set (y+2) LB)[y]?=some (.box (.slice (sz 5 ac) (ac.map Em.aK.aA) .any)):=by rw[yAd Ah];exact g2
    have k3:(K.set (y+2) LB)[y+1]?=some .mark:=by rw[yAd Ah];exact g3
    have k4:(K.set (y+2) LB)[y+2]?=some LB:=yAj w4;have jE:=hr.set g4 Bp LB;have C9:∀e k n,LB≠.own e k n:=Ee;obtain⟨KB,hKB⟩:=gn (K.set (y+2) LB);rw[hKB]at k2 k3 k4 jE ⊢;obtain⟨oO,K',hap,iY,cJ,lO⟩:=AY (B:=[aB.box (.agg [.str an,.slice (sz 6 ar) (ar.map Em.aG.aA) .any,.slice (sz 5 ad) (ad.map Em.div.aA) .any,.slice (sz 5 ac) (ac.map Em.aK.aA) .any]),.box (.agg [.str bn,.slice (sz 6 br) (br.map Em.aG.aA) .any,.slice (sz 5 bd) (bd.map Em.div.aA) .any,.slice (sz 5 bc) (bc.map Em.aK.aA) .any]),.box (.agg [.str an,.slice (sz 6 ar) (ar.map Em.aG.aA) .any,.slice (sz 5 ad) (ad.map Em.div.aA) .any,.slice (sz 5 ac) (ac.map Em.aK.aA) .any]),.box (.agg [.str bn,.slice (sz 6 br) (br.map Em.aG.aA) .any,.slice (sz 5 bd) (bd.map Em.div.aA) .any,.slice (sz 5 bc) (bc.map Em.aK.aA) .any]),.box (.slice (sz 24 zs) (zs.map Em.edit.aA) tk)]) (tk:=.any) (p:=Em.edit.aA (qT k)) rfl (A0 zs) (by rw[yAe];exact jE) Bg;have j2:=cJ _ _ Au k2;have j3:=cJ _ _ Au k3;have j4:=cJ _ _ C9 k4;obtain⟨X,hX⟩:=gn ((zs++[qT k]).map Em.edit.aA);rw[show zs.map Em.edit.aA++[Em.edit.aA (qT k)]=X by rw[<-hX,yAH];rfl]at hap;simp only[cU,qT,dK,bS,dN,eD,aW,yAR,yAO,yBp,lL]at hap;refine aC hap ?_;refine⟨by simpa using j4,?_⟩;unfold I5;refine .inl ⟨rfl,k,zs++[qT k],oO,K'.set (y+2) L,Ah,rfl,by rw[<-hzs];simp only[fP,yAi,yAR,yAO],?_,by rw[yAd Ah];exact j2,by rw[yAd Ah];exact j3,yAj (yA.1 j4).1,?_⟩
    .have:=iY.set j4 C9 L
     rwa [yAe,<-show(zs++[qT k]).length=zs.length+1 from yAa]at this
    .subst hX;rw[DA];rfl
  .rintro done σ ⟨k,zs,tk,K,hk,hrest,hzs,hr,g2,g3,g4,rfl⟩
   cases k with
   |succ k=>rw[AZ Ah]at hrest;cases hrest
   |zero=>
    refine⟨Cl,_,by unfold xI;rw[yAR,yAR,yAR,yAR,yAR,yAO,show(aB.box (.agg [.str an,.slice (sz 6 ar) (ar.map Em.aG.aA) .any,.slice (sz 5 ad) (ad.map Em.div.aA) .any,.slice (sz 5 ac) (ac.map Em.aK.aA) .any])::.box (.agg [.str bn,.slice (sz 6 br) (br.map Em.aG.aA) .any,.slice (sz 5 bd) (bd.map Em.div.aA) .any,.slice (sz 5 bc) (bc.map Em.aK.aA) .any])::.box (.agg [.str an,.slice (sz 6 ar) (ar.map Em.aG.aA) .any,.slice (sz 5 ad) (ad.map Em.div.aA) .any,.slice (sz 5 ac) (ac.map Em.aK.aA) .any])::.box (.agg [.str bn,.slice (sz 6 br) (br.map Em.aG.aA) .any,.slice (sz 5 bd) (bd.map Em.div.aA) .any,.slice (sz 5 bc) (bc.map Em.aK.aA) .any])::.box (.slice (sz 24 zs) (zs.map Em.edit.aA) tk)::K)[y+6+1]?=some L from g4,hL],?_⟩;have hm2:Marks [y+1+5] (K.set (y+2) .none) 5:=Marks.cons .nil Ai (by rw[yAd Ah];exact g3);have jE:=hr.set g4 Bp .none;have dQ:(aB.box (.agg [.str an,.slice (sz 6 ar) (ar.map Em.aG.aA) .any,.slice (sz 5 ad) (ad.map Em.div.aA) .any,.slice (sz 5 ac) (ac.map Em.aK.aA) .any])::.box (.agg [.str bn,.slice (sz 6 br) (br.map Em.aG.aA) .any,.slice (sz 5 bd) (bd.map Em.div.aA) .any,.slice (sz 5 bc) (bc.map Em.aK.aA) .any])::.box (.agg [.str an,.slice (sz 6 ar) (ar.map Em.aG.aA) .any,.slice (sz 5 ad) (ad.map Em.div.aA) .any,.slice (sz 5 ac) (ac.map Em.aK.aA) .any])::.box (.agg [.str bn,.slice (sz 6 br) (br.map Em.aG.aA) .any,.slice (sz 5 bd) (bd.map Em.div.aA) .any,.slice (sz 5 bc) (bc.map Em.aK.aA) .any])::aB.box (.slice (sz 24 zs) (zs.map Em.edit.aA) tk)::K).set (y+6+1) .none=aB.box (.agg [.str an,.slice (sz 6 ar) (ar.map Em.aG.aA) .any,.slice (sz 5 ad) (ad.map Em.div.aA) .any,.slice (sz 5 ac) (ac.map Em.aK.aA) .any])::.box (.agg [.str bn,.slice (sz 6 br) (br.map Em.aG.aA) .any,.slice (sz 5 bd) (bd.map Em.div.aA) .any,.slice (sz 5 bc) (bc.map Em.aK.aA) .any])::.box (.agg [.str an,.slice (sz 6 ar) (ar.map Em.aG.aA) .any,.slice (sz 5 ad) (ad.map Em.div.aA) .any,.slice (sz 5 ac) (ac.map Em.aK.aA) .any])::.box (.agg [.str bn,.slice (sz 6 br) (br.map Em.aG.aA) .any,.slice (sz 5 bd) (bd.map Em.div.aA) .any,.slice (sz 5 bc) (bc.map Em.aK.aA) .any])::.box (.slice (sz 24 zs) (zs.map Em.edit.aA) tk)::K.set (y+2) .none:=rfl;rw[dQ];obtain⟨K0,IJ⟩:=gn (K.set (y+2) .none);rw[IJ]at jE hm2 ⊢;simp only[fP,yAl]at hzs;refine aC trivial ?_;exact⟨rfl,zs,tk,K0,y+6,j6 ⟨hzs,jE,rfl,hm2⟩ As As⟩
 rintro⟨x,fr,ms,σ⟩ ⟨rfl,zs,tk,K,mk,gg,⟨hzs,hrow,rfl,hmk⟩,rfl,rfl⟩
 refine kG.normal ?_;have hzl:zs.length<=41:=by rw[hzs,yAa,IW];omega
 refine Wp.seq ?_;refine Wp.mono (Q:=λr=>r.x=.normal/\r.ms=[mk]/\∃(us:List bC) (tu:Tok) (U:List aB) (gg:Nat->PD),(us=zs++(if S=true then []else mV ⟨an,ar,ad,ac⟩ ⟨bn,br,bd,bc⟩)/\nL U 5 tu us.length/\Marks [mk] U 5)/\r.fr=[gg 0,gg 1,.ptr 0 0,.ptr 1 0,gg 4,gg 5,gg 6,gg 7,gg 8,.ptr 4 0,gg 10,gg 11,gg 12,gg 13,gg 14,gg 15,gg 16,gg 17,gg 18,gg 19,gg 20,gg 21,gg 22,gg 23,gg 24,gg 25,gg 26,gg 27,gg 28,gg 29,gg 30,gg 31,gg 32,gg 33,gg 34,gg 35,gg 36,gg 37,gg 38,gg 39,gg 40,gg 41,gg 42,gg 43,gg 44,gg 45,gg 46,gg 47,gg 48,gg 49,gg 50,gg 51,gg 52,gg 53,gg 54,gg 55,gg 56,gg 57,gg 58,gg 59,gg 60,gg 61,gg 62,gg 63,gg 64,gg 65,gg 66,gg 67,gg 68,gg 69,gg 70,gg 71,gg 72,gg 73,gg 74,gg 75,gg 76,gg 77,gg 78,gg 79,gg 80,gg 81,gg 82,gg 83,gg 84,gg 85,gg 86,gg 87,gg 88,gg 89,gg 90,gg 91,gg 92]/\r.σ=[aB.box (.agg [.str an,.slice (sz 6 ar) (ar.map Em.aG.aA) .any,.slice (sz 5 ad) (ad.map Em.div.aA) .any,.slice (sz 5 ac) (ac.map Em.aK.aA) .any]),.box (.agg [.str bn,.slice (sz 6 br) (br.map Em.aG.aA) .any,.slice (sz 5 bd) (bd.map Em.div.aA) .any,.slice (sz 5 bc) (bc.map Em.aK.aA) .any]),.box (.agg [.str an,.slice (sz 6 ar) (ar.map Em.aG.aA) .any,.slice (sz 5 ad) (ad.map Em.div.aA) .any,.slice (sz 5 ac) (ac.map Em.aK.aA) .any]),.box (.agg [.str bn,.slice (sz 6 br) (br.map Em.aG.aA) .any,.slice (sz 5 bd) (bd.map Em.div.aA) .any,.slice (sz 5 bc) (bc.map Em.aK.aA) .any]),.box (.slice (sz 24 us) (us.map Em.edit.aA) tu)]++U) ?_ ?_
 .cases S with
  |true=>
   rw[yAJ rfl,yAl];refine aC trivial ?_;exact⟨rfl,rfl,zs,tk,K,j6 ⟨rfl,hrow,hmk⟩ As As⟩
  |false=>
   rw[yAI Al];obtain⟨rb,hrb⟩:=gn (mV ⟨an,ar,ad,ac⟩ ⟨bn,br,bd,bc⟩);rw[hrb]at hR hr0 hrl ⊢;have l8:sz 24 rb=24:=yAI hr0;rw[l8]at hR;obtain⟨oO,K',hap,iY,cJ,lO⟩:=aSW (B:=[aB.box (.agg [.str an,.slice (sz 6 ar) (ar.map Em.aG.aA) .any,.slice (sz 5 ad) (ad.map Em.div.aA) .any,.slice (sz 5 ac) (ac.map Em.aK.aA) .any]),.box (.agg [.str bn,.slice (sz 6 br) (br.map Em.aG.aA) .any,.slice (sz 5 bd) (bd.map Em.div.aA) .any,.slice (sz 5 bc) (bc.map Em.aK.aA) .any]),.box (.agg [.str an,.slice (sz 6 ar) (ar.map Em.aG.aA) .any,.slice (sz 5 ad) (ad.map Em.div.aA) .any,.slice (sz 5 ac) (ac.map Em.aK.aA) .any]),.box (.agg [.str bn,.slice (sz 6 br) (br.map Em.aG.aA) .any,.slice (sz 5 bd) (bd.map Em.div.aA) .any,.slice (sz 5 bc) (bc.map Em.aK.aA) .any]),.box (.slice (sz 24 zs) (zs.map Em.edit.aA) tk)]) (zs:=rb.map Em.edit.aA) rfl (A0 zs) (by rw[yAe];exact hrow) (by rw[yAe];exact hr0) (by rw[yAe,yAe];omega);have aSY:=hmk.aQ λi h=>cJ i _ Au h
   rw[<-yAH]at hap;rw[yAe,yAe,<-yAa]at iY;have Q7:sz 24 (zs++rb)=24:=yAI (by rw[yAa];omega);simp only[yAR,yAO]at hap;have hst:(PD.slice 24 (rb.map Em.edit.aA) .any).strip=.slice 24 (rb.map Em.edit.aA) .any:=by have:=vA Em.edit 24 rb .any;rwa [l8]at this
   refine aC (A4 h6 hR hap hst) ?_;exact⟨rfl,rfl,zs++rb,oO,K',j6 ⟨rfl,iY,aSY⟩ Du Du⟩
 rintro⟨x,fr,ms,σ⟩ ⟨rfl,rfl,us,tu,U,gg,⟨hus,hru,hmu⟩,rfl,rfl⟩
 refine kG.normal ?_;have hW:us++(bc.mapIdx λi c=>qU i c)=W:=by rw[hD,hus,hzs]
 have hul:us.length<=20000:=by
  rw[hus,yAa];have:(if S=true then []else mV ⟨an,ar,ad,ac⟩ ⟨bn,br,bd,bc⟩).length<=10000:=by
   split
   .exact yAF _
   .exact hrl
  omega
 have hWl:W.length<=30000:=by rw[<-hW,yAa,yBF];omega
 clear hD hus hzs hzl hrow hmk;refine aC trivial ?_
 generalize [mk]=MS at hmu ⊢
 have FC:us++(bc.mapIdx λi c=>qU i c).drop 0=W:=hW;refine Wp.cZ (λm fr σ=>∃(i:Nat) (zs:List bC) (tk:Tok) (K:List aB),∃gg:Nat->PD,(i+m=bc.length/\zs++(bc.mapIdx λi c=>qU i c).drop i=W/\nL K 5 tk zs.length/\Marks MS K 5)/\fr=gg 0::gg 1::.ptr 0 0::.ptr 1 0::gg 4::gg 5::gg 6::gg 7::gg 8::.ptr 4 0::gg 10::gg 11::gg 12::gg 13::gg 14::gg 15::gg 16::gg 17::gg 18::gg 19::gg 20::gg 21::gg 22::gg 23::gg 24::gg 25::gg 26::gg 27::gg 28::gg 29::gg 30::gg 31::gg 32::gg 33::gg 34::gg 35::gg 36::gg 37::gg 38::gg 39::gg 40::gg 41::gg 42::gg 43::gg 44::gg 45::gg 46::gg 47::gg 48::gg 49::gg 50::gg 51::gg 52::gg 53::gg 54::gg 55::gg 56::gg 57::gg 58::gg 59::gg 60::gg 61::gg 62::gg 63::gg 64::gg 65::gg 66::gg 67::gg 68::gg 69::gg 70::gg 71::gg 72::gg 73::gg 74::gg 75::gg 76::gg 77::.slice (sz 5 bc) (bc.map Em.aK.aA) .any::.int .i64 bc.length::.int .i64 i::gg 81::gg 82::gg 83::gg 84::gg 85::gg 86::gg 87::gg 88::gg 89::gg 90::gg 91::gg 92::[]/\σ=[aB.box (.agg [.str an,.slice (sz 6 ar) (ar.map Em.aG.aA) .any,.slice (sz 5 ad) (ad.map Em.div.aA) .any,.slice (sz 5 ac) (ac.map Em.aK.aA) .any]),.box (.agg [.str bn,.slice (sz 6 br) (br.map Em.aG.aA) .any,.slice (sz 5 bd) (bd.map Em.div.aA) .any,.slice (sz 5 bc) (bc.map Em.aK.aA) .any]),.box (.agg [.str an,.slice (sz 6 ar) (ar.map Em.aG.aA) .any,.slice (sz 5 ad) (ad.map Em.div.aA) .any,.slice (sz 5 ac) (ac.map Em.aK.aA) .any]),.box (.agg [.str bn,.slice (sz 6 br) (br.map Em.aG.aA) .any,.slice (sz 5 bd) (bd.map Em.div.aA) .any,.slice (sz 5 bc) (bc.map Em.aK.aA) .any]),.box (.slice (sz 24 zs) (zs.map Em.edit.aA) tk)]++K) ?_ (bc.length) (by refine⟨0,us,tu,U,?_⟩;exact cF (⟨Ah,FC,hru,hmu⟩))
 rintro m fr σ ⟨i,zs,tk,K,gg,hI,rfl,rfl⟩
 obtain⟨hmi,hzs,hr,hmr⟩:=hI
 by_cases hi:i<bc.length
 .have q4:(i:Int)<(bc.length:Int):=by omega
  have hwr:IntKind.i64.wrap ((i:Int)+1)=(i:Int)+1:=Am;rw[aAb _ _ _ hi]at hzs;obtain⟨c,hce⟩:=gn (bc[i]);rw[hce]at hzs;obtain⟨cn,ca,cb,cs,ct⟩:=c;obtain⟨oO,K',hap,iY,cJ,lO⟩:=AY (B:=[aB.box (.agg [.str an,.slice (sz 6 ar) (ar.map Em.aG.aA) .any,.slice (sz 5 ad) (ad.map Em.div.aA) .any,.slice (sz 5 ac) (ac.map Em.aK.aA) .any]),.box (.agg [.str bn,.slice (sz 6 br) (br.map Em.aG.aA) .any,.slice (sz 5 bd) (bd.map Em.div.aA) .any,.slice (sz 5 bc) (bc.map Em.aK.aA) .any]),.box (.agg [.str an,.slice (sz 6 ar) (ar.map Em.aG.aA) .any,.slice (sz 5 ad) (ad.map Em.div.aA) .any,.slice (sz 5 ac) (ac.map Em.aK.aA) .any]),.box (.agg [.str bn,.slice (sz 6 br) (br.map Em.aG.aA) .any,.slice (sz 5 bd) (bd.map Em.div.aA) .any,.slice (sz 5 bc) (bc.map Em.aK.aA) .any]),.box (.slice (sz 24 zs) (zs.map Em.edit.aA) tk)]) (J:=K++[.box (.agg [.str cn,.int .i64 ca,.int .i64 cb,.int .i64 cs,.bool ct])]) (tk:=.any) (p:=Em.edit.aA (qU i ⟨cn,ca,cb,cs,ct⟩)) rfl (A0 zs) Dj (by rw[yAe];have:=L7 hzs hWl;omega);have uH:=(hmr.more [.box (.agg [.str cn,.int .i64 ca,.int .i64 cb,.int .i64 cs,.bool ct])]).aQ λi h=>cJ i _ Au h
  obtain⟨X,hX⟩:=gn ((zs++[qU i ⟨cn,ca,cb,cs,ct⟩]).map Em.edit.aA);rw[show zs.map Em.edit.aA++[Em.edit.aA (qU i ⟨cn,ca,cb,cs,ct⟩)]=X by rw[<-hX,yAH];rfl]at hap;simp only[cU,qU,dK,bS,dN,eD,aW,yAR,yAO,yBp,lL]at hap;rw[yAe,<-show(zs++[qU i ⟨cn,ca,cb,cs,ct⟩]).length=zs.length+1 from yAa]at iY;refine aC (A5 q4 hi hce @DG hap) ?_;subst hX;refine bV.normal (m-1) Ah (by refine⟨i+1,zs++[qU i ⟨cn,ca,cb,cs,ct⟩],oO,K',?_⟩;exact eS (⟨Ah,Ef,iY,uH⟩) (A2 @DA hwr))
 have q4:¬(i:Int)<(bc.length:Int):=Ah;rw[yCu (by rw[yBF];omega),yAl]at hzs;subst hzs;obtain⟨σ',hdm⟩:=hmr.drop (B:=[aB.box (.agg [.str an,.slice (sz 6 ar) (ar.map Em.aG.aA) .any,.slice (sz 5 ad) (ad.map Em.div.aA) .any,.slice (sz 5 ac) (ac.map Em.aK.aA) .any]),.box (.agg [.str bn,.slice (sz 6 br) (br.map Em.aG.aA) .any,.slice (sz 5 bd) (bd.map Em.div.aA) .any,.slice (sz 5 bc) (bc.map Em.aK.aA) .any]),.box (.agg [.str an,.slice (sz 6 ar) (ar.map Em.aG.aA) .any,.slice (sz 5 ad) (ad.map Em.div.aA) .any,.slice (sz 5 ac) (ac.map Em.aK.aA) .any]),.box (.agg [.str bn,.slice (sz 6 br) (br.map Em.aG.aA) .any,.slice (sz 5 bd) (bd.map Em.div.aA) .any,.slice (sz 5 bc) (bc.map Em.aK.aA) .any]),.box (.slice (sz 24 zs) (zs.map Em.edit.aA) tk)]) rfl;exact mb
end
end Go.Kz
end
