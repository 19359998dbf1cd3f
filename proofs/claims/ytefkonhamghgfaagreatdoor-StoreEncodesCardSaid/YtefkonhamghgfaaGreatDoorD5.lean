/-
  Part D5 of the way: an interpreter over pure data, its soundness, walks through functions.
-/
import Derived.Test.YtefkonhamghgfaaGreatDoorP7
import Derived.Test.YtefkonhamghgfaaGreatDoorD2
set_option linter.all false

set_option maxHeartbeats 40000000
open Go.Proofs.Tryz
namespace Go.Kz
open Go Go.Proofs
theorem OC{P:Program}{σ:List aB}{t e:TypeId}{k b s z:Nat}{xs:List PD}(hu:P.underlying t=some (.slice e))(hi:mS P e=some (k,b))(hz:xs=[]\/z=k)
  (hm:xs.length<=100000000000000) (hb:xs.length*b<=140737488355328) :
  ∃tok σ',fZ P 0 σ t (.slice s [] .full) (.slice z xs .any)=some (.slice (if xs.length=0 then s else k) xs tok,σ')/\cV σ' tok e k xs.length/\(∀(id:Nat) (o:aB),σ[id]?=some o->σ'[id]?=some o):=by
 unfold mS at hi
 split at hi
 ·rename_i i h1
  split at hi
  ·rename_i z0 h2
   split at hi
   ·rename_i h3
    simp only[yAb,yAc]at hi
    obtain⟨rfl,rfl⟩:=hi
    have rY:xs.length=0\/z=i.size:=hz.imp (fun h=>by rw[h];rfl) id
    have hmm:xs.length<=maxLen:=by simp only[maxLen];omega
    by_cases h0:xs.length=0
    ·have hx:xs=[]:=yAf h0
     subst hx
     refine⟨.full,σ,?_,.inl ⟨rfl,rfl⟩,fun _ _ h=>h⟩
     simp only[fZ,hu,h1,h2,List.length_nil,true_or,h3.1,h3.2,and_self,Nat.add_zero,yBf,Nat.zero_mul,if_true,maxLen]
    ·refine⟨.own σ.length,σ++[.own e i.size xs.length],?_,.inr ⟨by omega,_,rfl,yBb⟩,fun id o h=>?_⟩
     ·have gL:z=i.size:=rY.resolve_left h0
      simp only[fZ,hu,h1,h2,List.length_nil,true_or,or_true,gL,h3.1,h3.2,hmm,hb,and_self,if_true,h0,if_false,List.nil_append,yAp]
     ·rw[yAg (yA.1 h).1]
      exact h
   ·cases hi
  ·cases hi
 ·cases hi
theorem uA{P:Program}{σ:List aB}{t e:TypeId}{k b s z n:Nat}{xs:List PD}(ht:iF t n=true)(hu:P.underlying t=some (.slice e))(hi:mS P e=some (k,b))(ho:∀i z,P.info? e=some i->i.zero=some z->z.cells.toList.all Value.oneCell'=true)
  (hz:z=k) (h0:0<xs.length) (hm:xs.length<=100000000000000) (hb:xs.length*b<=140737488355328) :
  dS P n 0 σ t (.slice s [] .full) (.slice z xs .any)=some (.aF σ.length 0 0 xs.length k,σ++[.row e k 0 (xs.flatMap PD.cells)]):=by
 unfold mS at hi
 split at hi
 ·rename_i i h1
  split at hi
  ·rename_i z0 h2
   split at hi
   ·rename_i h3
    simp only[yAb,yAc]at hi
    obtain⟨rfl,rfl⟩:=hi
    have hmm:xs.length<=maxLen:=by simp only[maxLen];omega
    have hne:¬xs.length=0:=by omega
    have hone:=ho i z0 h1 h2
    have hfr:Tok.full.fresh=true:=rfl
    simp only[dS,ht,if_true,hu,mY,h1,h2,hz,or_true,h3.1,h3.2,hone,and_self,List.length_nil,true_or,hmm,hb,hfr,hne,if_false,List.nil_append,yAp]
   ·cases hi
  ·cases hi
 ·cases hi
def Calm(c:PD):Prop:=∀σ K,(bA σ (K+1) c).strip=c.strip/\(bA σ (K+1) c).aY=true
theorem OG(s:List UInt8):Calm (.str s):=fun _ _=>⟨rfl,rfl⟩
theorem CY(k:IntKind)(n:Int):Calm (.int k n):=fun _ _=>⟨rfl,rfl⟩
theorem aMJ(b:Bool):Calm (.bool b):=fun _ _=>⟨rfl,rfl⟩
inductive Clean:PD->Prop
 |str (s:List UInt8):Clean (.str s)
 |int (k:IntKind) (n:Int):Clean (.int k n)
 |bool (b:Bool):Clean (.bool b)
 |agg (cs:List PD) (h:∀c∈cs,Clean c):Clean (.agg cs)
 |slice (n:Nat) (xs:List PD) (h:∀c∈xs,Clean c):Clean (.slice n xs .any)
theorem Clean.bA{p:PD}(h:Clean p):∀σ K,bA σ K p=p:=by
 induction h with
 |str s=>intro σ K;cases K<;>rfl
 |int k n=>intro σ K;cases K<;>rfl
 |bool b=>intro σ K;cases K<;>rfl
 |agg cs h ih=>
  intro σ K
  cases K with
  |zero=>rfl
  |succ K=>
   have:cs.map (Go.Kz.bA σ K)=cs:=by
    conv=>rhs;rw[<-List.map_id cs]
    exact yBg fun c hc=>ih c hc σ K
   simp only[Go.Kz.bA,this]
 |slice n xs h ih=>
  intro σ K
  cases K with
  |zero=>rfl
  |succ K=>
   have:xs.map (Go.Kz.bA σ K)=xs:=by
    conv=>rhs;rw[<-List.map_id xs]
    exact yBg fun c hc=>ih c hc σ K
   simp only[Go.Kz.bA,this]
theorem Clean.aY{p:PD}(h:Clean p):p.aY=true:=by
 induction h with
 |str s=>rfl
 |int k n=>rfl
 |bool b=>rfl
 |agg cs h ih=>
  simp only[PD.aY,PD.p7]
  exact yAn.2 ih
 |slice n xs h ih=>
  simp only[PD.aY,PD.p7,Bool.and_true]
  exact yAn.2 ih
theorem aML{n:Nat}{xs:List PD}{tok:Tok}(h:∀c∈xs,Clean c):Calm (.slice n xs tok):=by
 intro σ K
 have e:xs.map (bA σ K)=xs:=by
  conv=>rhs;rw[<-List.map_id xs]
  exact yBg fun c hc=>(h c hc).bA σ K
 simp only[bA,e]
 refine⟨by rw[PD.lG,PD.lG],(Clean.slice n xs h).aY⟩
def z6{α:Type}(em:Em α):Prop:=∀x,Clean (em.U x)
theorem aDj{α:Type}{em:Em α}(h:z6 em)(k:Nat):z6 (em.list k):=fun l=>by
 rw[bJ]
 refine .slice _ _ fun c hc=>?_
 obtain⟨x,_,rfl⟩:=yAw.1 hc
 exact h x
theorem aMI:z6 i64:=fun n=>.int _ n
theorem aMM:z6 Em.draw:=fun d=>by
 rw[GX]
 refine .agg _ fun c hc=>?_
 simp only[List.mem_cons,List.not_mem_nil,or_false]at hc
 rcases hc with rfl|rfl<;>exact .int _ _
theorem aDe:z6 Em.bL:=fun d=>by
 rw[GY]
 refine .agg _ fun c hc=>?_
 simp only[List.mem_cons,List.not_mem_nil,or_false]at hc
 rcases hc with rfl|rfl|rfl
 ·exact .int _ _
 ·exact .int _ _
 ·exact aDj aMM 2 _
theorem aMK:z6 Em.stop:=fun d=>by
 rw[vU]
 refine .agg _ fun c hc=>?_
 simp only[List.mem_cons,List.not_mem_nil,or_false]at hc
 rcases hc with rfl|rfl|rfl|rfl
 ·exact .str _
 ·exact .int _ _
 ·exact .int _ _
 ·exact aDj aDe 3 _
theorem aMN:z6 Em.aP:=fun d=>by
 rw[X2]
 refine .agg _ fun c hc=>?_
 simp only[List.mem_cons,List.not_mem_nil,or_false]at hc
 rcases hc with rfl|rfl|rfl|rfl|rfl
 ·exact .str _
 ·exact .int _ _
 ·exact .int _ _
 ·exact .int _ _
 ·exact .bool _
theorem OH{α:Type}{em:Em α}(h:z6 em)(k z:Nat)(l:List α)(tok:Tok):Calm (.slice z (l.map em.U) tok):=aML fun c hc=>by
 obtain⟨x,_,rfl⟩:=yAw.1 hc
 exact h x
def IsG{α:Type}(em:Em α)(σ:List aB)(L:Nat)(g:List PD)(x:α):Prop:=∀K,(PD.agg (g.map (bA σ (K+L)))).strip=em.U x/\PD.eM (g.map (bA σ (K+L)))=true
theorem aDd{α:Type}{em:Em α}{g:List PD}{x:α}(hc:∀c∈g,Calm c)(hg:(PD.agg g).strip=em.U x)(σ:List aB)(L:Nat):IsG em σ (L+1) g x:=fun K=>by
 constructor
 ·rw[<-hg]
  simp only[PD.strip,PD.xF]
  congr 1
  rw[List.map_map]
  exact yBg fun c h=>(hc c h σ (K+L)).1
 ·rw[PD.p7]
  refine yAn.2 fun c h=>?_
  obtain⟨c0,h0,rfl⟩:=yAw.1 h
  exact(hc c0 h0 σ (K+L)).2
theorem aDk{sz:Nat}(f:PD->PD):∀(n:Nat) (gs:List (List PD)),(∀g∈gs,g.length=sz)->n<=gs.length->mX sz n (gs.flatten.map f)=(gs.take n).map fun g=>.agg (g.map f)
 |0,_,_,_=>rfl
 |n+1,[],_,h=>by simp at h
 |n+1,g::gs,hl,h=>by
  have hg:=hl g (List.mem_cons_self ..)
  have hg':(g.map f).length=sz:=by rw[yAe];exact hg
  rw[List.flatten_cons,yBh,List.take_succ_cons,List.map_cons]
  unfold mX
  rw[List.take_append_of_le_length (by omega),yAz (by omega),List.drop_append_of_le_length (by omega),List.drop_of_length_le (by omega),List.nil_append]
  rw[aDk f n gs (fun q hq=>hl q (List.mem_cons_of_mem _ hq)) (by simpa using h)]
theorem oH{sz:Nat}:∀gs:List (List PD),(∀g∈gs,g.length=sz)->gs.flatten.length=gs.length*sz
 | [],_=>by simp
 |g::gs,h=>by
  rw[List.flatten_cons,yAa,h g (List.mem_cons_self ..),oH gs fun q hq=>h q (List.mem_cons_of_mem _ hq),List.length_cons,Nat.succ_mul,Nat.add_comm]
theorem zW{sz:Nat}:∀(gs:List (List PD)) (i:Nat) (h:i<gs.length),(∀g∈gs,g.length=sz)->(gs.flatten.drop (i*sz)).take sz=gs[i]
 | [],i,h,_=>by simp at h
 |g::gs,0,_,hl=>by
  have hg:=hl g (List.mem_cons_self ..)
  rw[Nat.zero_mul,List.drop_zero,List.flatten_cons,List.take_append_of_le_length (by omega),yAz (by omega)]
  rfl
 |g::gs,i+1,h,hl=>by
  have hg:=hl g (List.mem_cons_self ..)
  have e1:(i+1)*sz=g.length+i*sz:=by rw[Nat.succ_mul];omega
  rw[List.flatten_cons,e1,List.drop_length_add_append]
  rw[zW gs i (by simpa using h) fun q hq=>hl q (List.mem_cons_of_mem _ hq)]
  rfl
theorem zY{sz:Nat}{new:List PD}{j:Nat}(hj:j+new.length<=sz):∀(gs:List (List PD)) (i:Nat) (h:i<gs.length),(∀g∈gs,g.length=sz)->cX gs.flatten (i*sz+j) new=(gs.set i (cX gs[i] j new)).flatten
 | [],i,h,_=>by simp at h
 |g::gs,0,_,hl=>by
  have hg:=hl g (List.mem_cons_self ..)
  simp only[cX,Nat.zero_mul,yAp,List.flatten_cons,List.set_cons_zero,List.getElem_cons_zero]
  rw[List.take_append_of_le_length (by omega),List.drop_append_of_le_length (by omega)]
  simp only[yAi]
 |g::gs,i+1,h,hl=>by
  have hg:=hl g (List.mem_cons_self ..)
  have ih:=zY hj gs i (by simpa using h) fun q hq=>hl q (List.mem_cons_of_mem _ hq)
  simp only[List.flatten_cons,List.set_cons_succ,List.getElem_cons_succ]
  rw[<-ih]
  simp only[cX]
  have e1:(i+1)*sz+j=g.length+(i*sz+j):=by rw[Nat.succ_mul];omega
  have e2:(i+1)*sz+j+new.length=g.length+(i*sz+j+new.length):=by rw[Nat.succ_mul];omega
  rw[e2,e1,List.take_length_add_append,List.drop_length_add_append]
  simp only[yAi]
theorem U7(gs:List (List PD))(g:List PD):gs.flatten++g=(gs++[g]).flatten:=by simp
theorem aDc{α:Type}{em:Em α}{σ:List aB}{id e sz v n L:Nat}{gs:List (List PD)}(kJ:σ[id]?=some (.row e sz v gs.flatten))(h1:sz≠1)(hl:∀g∈gs,g.length=sz)(hn:n<=gs.length)(xs:List α)(hx:xs.length=n)
  (h:∀i (hi:i<n),IsG em σ L (gs[i]'(Nat.lt_of_lt_of_le hi hn)) (xs[i]'(hx▸hi))) (K:Nat):(bA σ (K+L+1) (.aF id v 0 n sz)).strip=(em.list sz).U xs/\(bA σ (K+L+1) (.aF id v 0 n sz)).aY=true:=by
 have hlen:0+n*sz<=gs.flatten.length:=by
  rw[oH gs hl,yAp]
  exact Nat.mul_le_mul_right sz hn
 have e:bA σ (K+L+1) (.aF id v 0 n sz)=.slice sz ((gs.take n).map fun g=>.agg (g.map (bA σ (K+L)))) .any:=by
  simp only[bA,kJ,hlen,and_self,if_true,List.drop_zero,qF,h1,if_false]
  rw[aDk _ n gs hl hn]
 rw[e]
 constructor
 ·rw[PD.lG,bJ]
  have hm:((gs.take n).map fun g=>PD.agg (g.map (bA σ (K+L)))).map PD.strip=xs.map em.U:=by
   apply List.ext_getElem
   ·simp only[yAe,yAt];omega
   ·intro i h2 h3
    simp only[yAe,yAt]at h2
    simp only[List.getElem_map,List.getElem_take]
    exact(h i (by omega) K).1
  rw[hm]
  congr 1
  simp only[yAe,yAt,Kz.sz]
  have:min n gs.length=n:=by omega
  rw[this]
  by_cases h0:xs=[]
  ·subst h0
   simp only[List.length_nil]at hx
   simp[<-hx]
  ·have:¬n=0:=fun h=>h0 (yAf (by omega))
   have h2:¬xs.length=0:=by omega
   rw[if_neg this,if_neg h2]
 ·simp only[PD.aY,PD.p7,Bool.and_true]
  refine yAn.2 fun c hc=>?_
  obtain⟨g,hg,rfl⟩:=yAw.1 hc
  obtain⟨i,hi,rfl⟩:=List.getElem_of_mem hg
  simp only[yAt]at hi
  rw[List.getElem_take]
  simp only[PD.aY]
  exact(h i (by omega) K).2
theorem UU{α β:Type}{P:α->β->Prop}:∀gs:List α,(∀g∈gs,∃x,P g x)->∃xs:List β,xs.length=gs.length/\∀i (h:i<gs.length) (h2:i<xs.length),P gs[i] xs[i]
 | [],_=>⟨[],rfl,fun i h=>absurd h (Nat.not_lt_zero i)⟩
 |g::gs,h=>by
  obtain⟨x,hx⟩:=h g (List.mem_cons_self ..)
  obtain⟨xs,h1,h2⟩:=UU gs fun q hq=>h q (List.mem_cons_of_mem _ hq)
  refine⟨x::xs,by rw[List.length_cons,List.length_cons,h1],fun i hi hi2=>?_⟩
  cases i with
  |zero=>exact hx
  |succ i=>exact h2 i (by simpa using hi) (by simpa using hi2)
def iX{α:Type}(em:Em α)(R:α->Prop)(sz:Nat)(g:List PD):Prop:=g.length=sz/\(∀c∈g,Calm c/\c.plain=true)/\∃x,R x/\(PD.agg g).strip=em.U x
def JI{α:Type}(em:Em α)(R:α->Prop)(e sz:Nat)(σ:List aB)(id n:Nat)(P:PD):Prop:=∃v gs,P=.aF id v 0 n sz/\σ[id]?=some (.row e sz v (List.flatten gs))/\n<=gs.length/\gs.length<=1000/\∀g∈gs,iX em R sz g
theorem JI.dH:True:=trivial
theorem JI.bA:True:=trivial
structure wL (σ:List aB) (B K:Nat) (nm:List UInt8) (RP DP SP:PD) (C:List cF) (tC:Tok) (d0:List UInt8) (d1:Bool) (d2 d3:Int):Prop where
 o:σ[0]?=some (.box (.agg [.str nm,RP,DP,.slice 5 (C.map Em.aP.U) tC]))
 z:σ[2]?=some (.box (.agg [.str [],.slice 0 [] .full,.slice 0 [] .full,.slice 0 [] .full]))
 d:σ[B]?=some (.box (.agg [.str d0,.bool d1,.int .i64 d2,.int .i64 d3,SP]))
 b:4<B
 c:C.length<=1000
 r:∃n,JI Em.aR s9 66 6 σ 3 n RP
 dv:DP=.slice 0 [] .full\/∃n,JI Em.div A3 71 5 σ 4 n DP/\K<n
 s:SP=.slice 4 [] .full\/∃n,JI Em.stop wW 74 4 σ (B+1) n SP
theorem JD{α:Type}{em:Em α}(sz z:Nat)(σ:List aB)(K:Nat)(tok:Tok):(bA σ (K+2) (.slice z [] tok)).strip=(em.list sz).U []/\(bA σ (K+2) (.slice z [] tok)).aY=true:=⟨rfl,rfl⟩
theorem aMH(C:List cF)(z:Nat)(hz:z=5)(σ:List aB)(K:Nat)(tok:Tok):(bA σ (K+2) (.slice z (C.map Em.aP.U) tok)).strip=lA.U C/\(bA σ (K+2) (.slice z (C.map Em.aP.U) tok)).aY=true:=by
 have h:=OH aMN 5 z C tok σ (K+1)
 refine⟨?_,h.2⟩
 rw[h.1,PD.lG,bJ,show(C.map Em.aP.U).map PD.strip=C.map Em.aP.U by rw[List.map_map];exact yBg fun x _=>Em.aP.str x,hz]
 simp[sz]
theorem aMO{α:Type}(em:Em α)(l:List α):(l.map em.U).map PD.strip=l.map em.U:=by
 rw[List.map_map]
 exact yBg fun x _=>em.str x
theorem UW{α:Type}(em:Em α)(k z:Nat)(l:List α)(hz:l=[]\/z=k)(tok:Tok):PD.strip (.slice z (l.map em.U) tok)=(em.list k).U l:=by
 rw[PD.lG,aMO,bJ,yAe]
 rcases hz with rfl|rfl
 ·rfl
 ·rfl
theorem wL.zX:True:=trivial
theorem wL.UY:True:=trivial
theorem wL.UT:True:=trivial
theorem wL.aDf:True:=trivial
theorem wL.more:True:=trivial
theorem U8{P:Program}{σ:List aB}{t e:TypeId}{k b n id v m:Nat}{cs:List PD}{x:PD}{tok:Tok}(ht:iF t n=true)(hu:P.underlying t=some (.slice e))(hi:mS P e=some (k,b))(ho:∀i z,P.info? e=some i->i.zero=some z->z.cells.toList.all Value.oneCell'=true)
  (kJ:σ[id]?=some (.row e k v cs)) (hl:m*k=cs.length) (hx:x.cells.length=k) (hm:m<=1000000) (hb:b<=1000) :
  dS P n 0 σ t (.aF id v 0 m k) (.slice k [x] tok)=some (.aF id (v+1) 0 (m+1) k,σ.set id (.row e k (v+1) (cs++x.cells))):=by
 unfold mS at hi
 split at hi
 ·rename_i i h1
  split at hi
  ·rename_i z0 h2
   split at hi
   ·rename_i h3
    simp only[yAb,yAc]at hi
    obtain⟨rfl,rfl⟩:=hi
    have hone:=ho i z0 h1 h2
    have hmm:m+1<=maxLen:=by simp only[maxLen];omega
    have hbb:(m+1)*i.bytes<=140737488355328:=by
     have:=Nat.mul_le_mul (show m+1<=1000001 by omega) hb
     omega
    have hlt:¬0+(m+1)*i.size<=cs.length:=by
     rw[<-hl,Nat.succ_mul]
     have:=h3.1
     omega
    simp only[dS,ht,if_true,hu,mY,h1,h2,h3.1,h3.2,hone,and_self,or_true,List.length_cons,List.length_nil,yAp,yBf,hmm,hbb,kJ]
    rw[if_neg (by simpa using hlt),if_pos ⟨trivial,hl⟩]
    simp
   ·cases hi
  ·cases hi
 ·cases hi
theorem cV.ne2{σ:List aB}{tok:Tok}{e:TypeId}{k n id:Nat}{o:aB}(h:cV σ tok e k n)(ho:σ[id]?=some o)(hn:∀e k n,o≠.own e k n):tok≠.own id:=by
 rintro rfl
 rcases h with⟨_,h⟩ | ⟨_,id',h,h2⟩
 ·cases h
 ·simp only[Tok.own.injEq]at h
  subst h
  rw[ho,yAb]at h2
  exact hn _ _ _ h2
theorem wL.UZ:True:=trivial
theorem wL.aDg:True:=trivial
theorem wL.aDh:True:=trivial
theorem wL.aDi:True:=trivial
theorem aDl{n:Nat}(hn:n<100):(n:Int).tdiv 10=((n/10:Nat):Int)/\(n:Int).tmod 10=((n%10:Nat):Int)/\IntKind.i64.wrap (((n/10:Nat):Int))=((n/10:Nat):Int)/\IntKind.i64.wrap (((n%10:Nat):Int))=((n%10:Nat):Int)/\IntKind.i64.wrap (48+((n/10:Nat):Int))=48+((n/10:Nat):Int)/\IntKind.i64.wrap (48+((n%10:Nat):Int))=48+((n%10:Nat):Int) /\
  IntKind.u8.wrap (48+((n/10:Nat):Int))=48+((n/10:Nat):Int)/\IntKind.u8.wrap (48+((n%10:Nat):Int))=48+((n%10:Nat):Int):=by
 refine⟨rfl,rfl,?_,?_,?_,?_,?_,?_⟩
 ·rw[IntKind.wrap_i64];omega
 ·rw[IntKind.wrap_i64];omega
 ·rw[IntKind.wrap_i64];omega
 ·rw[IntKind.wrap_i64];omega
 ·simp only[IntKind.wrap,IntKind.bits,IntKind.signed];simp;omega
 ·simp only[IntKind.wrap,IntKind.bits,IntKind.signed];simp;omega
end Go.Kz
namespace Go.Kz
open Go Go.Proofs
set_option maxRecDepth 100000
def iH(r:bM):Prop:=r.name.length<=10/\r.jN.length<=10/\dF r.num/\dF r.den/\dF r.first/\r.fJ.length<=30/\∀w∈r.fJ,dF w
def kP(s:dG):Prop:=s.name.length<=10/\dF s.num/\dF s.den/\s.fK.length<=4/\∀g∈s.fK,GI g/\g.nO.length<=4
def GG(l:List dG):Prop:=l.length<=70/\∀s∈l,kP s
def kD(d:cU):Prop:=d.name.length<=10/\dF d.low/\dF d.high/\GG d.stops
def N7(c:cF):Prop:=c.name.length<=10/\dF c.nN/\dF c.dst/\dF c.shift
def tF(nm:List UInt8)(C:List cF)(d0:List UInt8)(d2 d3:Int):Prop:=nm.length<=10/\C.length<=70/\(∀c∈C,N7 c)/\d0.length<=10/\dF d2/\dF d3
def tO(o:bY):Prop:=o.name.length<=10/\(o.aX.length<=70/\∀r∈o.aX,iH r)/\(o.cM.length<=10/\∀d∈o.cM,kD d)/\o.iM.length<=70/\∀c∈o.iM,N7 c
def lim(sz:Nat):Nat:=if sz=5 then 10 else 70
theorem iH.name{n n' t:List UInt8}{a b c:Int}{w:List Int}(h:iH ⟨n,t,a,b,c,w⟩)(hn:n'.length<=10):iH ⟨n',t,a,b,c,w⟩:=⟨hn,h.2⟩
theorem iH.fJ{n t:List UInt8}{a b c:Int}{w:List Int}(h:iH ⟨n,t,a,b,c,w⟩):iH ⟨n,t,a,b,c,[]⟩:=⟨h.1,h.2.1,h.2.2.1,h.2.2.2.1,h.2.2.2.2.1,by simp,by simp⟩
theorem kP.name{n n':List UInt8}{a b:Int}{w:List fY}(h:kP ⟨n,a,b,w⟩)(hn:n'.length<=10):kP ⟨n',a,b,w⟩:=⟨hn,h.2⟩
theorem JE:dF 0:=⟨by decide,by decide⟩
def iY{α:Type}(em:Em α)(R:α->Prop)(e sz:Nat)(σ:List aB)(id n:Nat)(P:PD):Prop:=∃v gs,P=.aF id v 0 n sz/\σ[id]?=some (.row e sz v (List.flatten gs))/\n<=gs.length/\gs.length<=lim sz/\∀g∈gs,iX em R sz g
theorem iY.dH{α:Type}{em:Em α}{R:α->Prop}{e sz id n:Nat}{σ σ':List aB}{P:PD}(h:iY em R e sz σ id n P)(hk:σ'[id]?=σ[id]?):iY em R e sz σ' id n P:=by
 obtain⟨v,gs,h1,h2,h3⟩:=h
 exact⟨v,gs,h1,hk.trans h2,h3⟩
theorem iY.bA{α:Type}{em:Em α}{R:α->Prop}{e sz id n:Nat}{σ:List aB}{P:PD}(h:iY em R e sz σ id n P)(h1:sz≠1):∃xs:List α,xs.length=n/\(∀x∈xs,R x)/\n<=lim sz/\∀K,(Go.Kz.bA σ (K+2) P).strip=(em.list sz).U xs/\(Go.Kz.bA σ (K+2) P).aY=true:=by
 obtain⟨v,gs,rfl,kJ,hn,hl,hg⟩:=h
 obtain⟨xs,hx1,hx2⟩:=UU gs fun g h=>(hg g h).2.2
 refine⟨xs.take n,by rw[yAt];omega,fun x hx=>?_,by omega,fun K=>?_⟩
 ·obtain⟨i,hi,rfl⟩:=List.getElem_of_mem (yAy hx)
  exact(hx2 i (by omega) hi).1
 ·refine aDc (L:=1) kJ h1 (fun g h=>(hg g h).1) hn (xs.take n) (by rw[yAt];omega) (fun i hi=>?_) K
  rw[List.getElem_take]
  exact aDd (fun c hc=>((hg _ (yAm (by omega))).2.1 c hc).1) (hx2 i (by omega) (by omega)).2 σ 0
structure fG (σ:List aB) (B K:Nat) (nm:List UInt8) (RP DP SP:PD) (C:List cF) (tC:Tok) (d0:List UInt8) (d1:Bool) (d2 d3:Int):Prop where
 o:σ[0]?=some (.box (.agg [.str nm,RP,DP,.slice 5 (C.map Em.aP.U) tC]))
 z:σ[2]?=some (.box (.agg [.str [],.slice 0 [] .full,.slice 0 [] .full,.slice 0 [] .full]))
 d:σ[B]?=some (.box (.agg [.str d0,.bool d1,.int .i64 d2,.int .i64 d3,SP]))
 b:4<B
 c:tF nm C d0 d2 d3
 r:∃n,iY Em.aR iH 66 6 σ 3 n RP
 dv:DP=.slice 0 [] .full\/∃n,iY Em.div kD 71 5 σ 4 n DP/\K<n
 s:SP=.slice 4 [] .full\/∃n,iY Em.stop kP 74 4 σ (B+1) n SP
theorem zZ{σ:List aB}{nm:List UInt8}{RP DP:PD}{C:List cF}{tC:Tok}{d0:List UInt8}{d2 d3:Int}(hC:tF nm C d0 d2 d3)(hR:∃n,iY Em.aR iH 66 6 σ 3 n RP)
  (hD:∃ds:List cU,ds.length<=10/\(∀d∈ds,kD d)/\∀K,(bA σ (K+6) DP).strip=n9.U ds/\(bA σ (K+6) DP).aY=true) :
  ∃o,tO o/\(bA σ 20 (.agg [.str nm,RP,DP,.slice 5 (C.map Em.aP.U) tC])).strip=Em.aT.U o/\(bA σ 20 (.agg [.str nm,RP,DP,.slice 5 (C.map Em.aP.U) tC])).aY=true:=by
 obtain⟨n,hR⟩:=hR
 obtain⟨rs,mF,qT,wD,JC⟩:=hR.bA (by decide)
 obtain⟨ds,tM,o7,yV⟩:=hD
 obtain⟨a1,a2⟩:=JC 17
 obtain⟨b1,b2⟩:=yV 13
 obtain⟨c1,c2⟩:=aMH C 5 rfl σ 17 tC
 refine⟨⟨nm,rs,ds,C⟩,⟨hC.1,⟨by have:n<=70:=wD;show rs.length<=70;omega,qT⟩,⟨tM,o7⟩,hC.2.1,hC.2.2.1⟩,?_,?_⟩
 ·show PD.agg [PD.strip (.str nm),PD.strip (bA σ 19 RP),PD.strip (bA σ 19 DP),PD.strip (bA σ 19 (.slice 5 (C.map Em.aP.U) tC))]=_
  rw[a1,b1,c1]
  rfl
 ·show(PD.aY (.str nm)&&(PD.aY (bA σ 19 RP)&&(PD.aY (bA σ 19 DP)&&(PD.aY (bA σ 19 (.slice 5 (C.map Em.aP.U) tC))&&true))))=true
  rw[a2,b2,c2]
  rfl
theorem CQ(n t:List UInt8)(a b c:Int)(z:Nat)(w:List Int)(tok:Tok)(hz:w=[]\/z=1)(hw:iH ⟨n,t,a,b,c,w⟩):iX Em.aR iH 6 [.str n,.str t,.int .i64 a,.int .i64 b,.int .i64 c,.slice z (w.map i64.U) tok]:=by
 refine⟨rfl,fun x hx=>?_,⟨n,t,a,b,c,w⟩,hw,?_⟩
 ·simp only[List.mem_cons,List.not_mem_nil,or_false]at hx
  rcases hx with rfl|rfl|rfl|rfl|rfl|rfl
  ·exact⟨OG _,rfl⟩
  ·exact⟨OG _,rfl⟩
  ·exact⟨CY _ _,rfl⟩
  ·exact⟨CY _ _,rfl⟩
  ·exact⟨CY _ _,rfl⟩
  ·exact⟨OH aMI 1 z w tok,rfl⟩
 ·have e:=UW i64 1 z w hz tok
  show PD.agg [.str n,.str t,.int .i64 a,.int .i64 b,.int .i64 c,PD.strip (.slice z (w.map i64.U) tok)]=_
  rw[e]
  rfl
theorem I8(n:List UInt8)(t:Bool)(a b:Int)(z:Nat)(w:List dG)(tok:Tok)(hz:w=[]\/z=4)(hw:kD ⟨n,t,a,b,w⟩):iX Em.div kD 5 [.str n,.bool t,.int .i64 a,.int .i64 b,.slice z (w.map Em.stop.U) tok]:=by
 refine⟨rfl,fun x hx=>?_,⟨n,t,a,b,w⟩,hw,?_⟩
 ·simp only[List.mem_cons,List.not_mem_nil,or_false]at hx
  rcases hx with rfl|rfl|rfl|rfl|rfl
  ·exact⟨OG _,rfl⟩
  ·exact⟨aMJ _,rfl⟩
  ·exact⟨CY _ _,rfl⟩
  ·exact⟨CY _ _,rfl⟩
  ·exact⟨OH aMK 4 z w tok,rfl⟩
 ·have e:=UW Em.stop 4 z w hz tok
  show PD.agg [.str n,.bool t,.int .i64 a,.int .i64 b,PD.strip (.slice z (w.map Em.stop.U) tok)]=_
  rw[e]
  rfl
theorem GH(n:List UInt8)(a b:Int)(z:Nat)(w:List fY)(tok:Tok)(hz:w=[]\/z=3)(hw:kP ⟨n,a,b,w⟩):iX Em.stop kP 4 [.str n,.int .i64 a,.int .i64 b,.slice z (w.map Em.bL.U) tok]:=by
 refine⟨rfl,fun x hx=>?_,⟨n,a,b,w⟩,hw,?_⟩
 ·simp only[List.mem_cons,List.not_mem_nil,or_false]at hx
  rcases hx with rfl|rfl|rfl|rfl
  ·exact⟨OG _,rfl⟩
  ·exact⟨CY _ _,rfl⟩
  ·exact⟨CY _ _,rfl⟩
  ·exact⟨OH aDe 3 z w tok,rfl⟩
 ·have e:=UW Em.bL 3 z w hz tok
  show PD.agg [.str n,.int .i64 a,.int .i64 b,PD.strip (.slice z (w.map Em.bL.U) tok)]=_
  rw[e]
  rfl
theorem OF{σ:List aB}{B K n v:Nat}{gs:List (List PD)}{SP:PD}{d0:List UInt8}{d1:Bool}{d2 d3:Int}(kJ:σ[4]?=some (.row 71 5 v (gs.set K [.str d0,.bool d1,.int .i64 d2,.int .i64 d3,SP]).flatten))(hn:n<=gs.length)(hK:K<n)(hl:gs.length<=10)
  (hg:∀g∈gs,iX Em.div kD 5 g) (rR:d0.length<=10/\dF d2/\dF d3) (hs:SP=.slice 4 [] .full\/∃n,iY Em.stop kP 74 4 σ (B+1) n SP) :
  ∃ds:List cU,ds.length<=10/\(∀d∈ds,kD d)/\∀J,(bA σ (J+6) (.aF 4 v 0 n 5)).strip=n9.U ds/\(bA σ (J+6) (.aF 4 v 0 n 5)).aY=true:=by
 obtain⟨S,JF,GJ⟩:∃S:List dG,GG S/\∀J,(bA σ (J+2) SP).strip=j6.U S/\(bA σ (J+2) SP).aY=true:=by
  rcases hs with rfl | ⟨n,h⟩
  ·exact⟨[],⟨by simp,by simp⟩,fun J=>JD 4 4 σ J .full⟩
  ·obtain⟨xs,h1,h2,h3,h4⟩:=h.bA (by decide)
   exact⟨xs,⟨by have:n<=70:=h3;omega,h2⟩,h4⟩
 obtain⟨xs,hx1,hx2⟩:=UU gs fun g h=>(hg g h).2.2
 have hlen:∀g∈gs.set K [.str d0,.bool d1,.int .i64 d2,.int .i64 d3,SP],g.length=5:=fun g h=>by
  rcases List.mem_or_eq_of_mem_set h with h|h
  ·exact(hg g h).1
  ·rw[h];rfl
 have hok:∀d∈(xs.set K ⟨d0,d1,d2,d3,S⟩).take n,kD d:=fun d hd=>by
  rcases List.mem_or_eq_of_mem_set (yAy hd)with h|h
  ·obtain⟨i,hi,rfl⟩:=List.getElem_of_mem h
   exact(hx2 i (by omega) hi).1
  ·rw[h];exact⟨rR.1,rR.2.1,rR.2.2,JF⟩
 refine⟨(xs.set K ⟨d0,d1,d2,d3,S⟩).take n,by rw[yAt];omega,hok,fun J=>?_⟩
 refine aDc (L:=5) kJ (by decide) hlen (by rw[yBd];exact hn) _ (by rw[yAt,yBd];omega) (fun i hi=>?_) J
 rw[List.getElem_take]
 by_cases e:K=i
 ·subst e
  rw[List.getElem_set_self,List.getElem_set_self]
  intro J
  obtain⟨a1,a2⟩:=GJ (J+3)
  constructor
  ·show PD.agg [.str d0,.bool d1,.int .i64 d2,.int .i64 d3,PD.strip (bA σ (J+5) SP)]=_
   rw[a1]
   rfl
  ·show(true&&(true&&(true&&(true&&(PD.aY (bA σ (J+5) SP)&&true)))))=true
   rw[a2]
   rfl
 ·rw[List.getElem_set_ne e,List.getElem_set_ne e]
  exact aDd (fun c hc=>((hg _ (yAm (by omega))).2.1 c hc).1) (hx2 i (by omega) (by omega)).2 σ 4
theorem fG.zX{σ:List aB}{B K:Nat}{nm:List UInt8}{RP DP SP:PD}{C:List cF}{tC:Tok}{d0:List UInt8}{d1:Bool}{d2 d3:Int}(h:fG σ B K nm RP DP SP C tC d0 d1 d2 d3){OI:List UInt8}{OJ JG:PD}{C':List cF}{UX:Tok}
  (hl:0<σ.length) (hC:tF OI C' d0 d2 d3) (hr:∃n,iY Em.aR iH 66 6 σ 3 n OJ) (hd:JG=.slice 0 [] .full\/∃n,iY Em.div kD 71 5 σ 4 n JG/\K<n) :
  fG (σ.set 0 (.box (.agg [.str OI,OJ,JG,.slice 5 (C'.map Em.aP.U) UX]))) B K OI OJ JG SP C' UX d0 d1 d2 d3:=by
 obtain⟨h1,h2,h3,h4,h5,h6,h7,h8⟩:=h
 have e:∀i,i≠0->(σ.set 0 (.box (.agg [.str OI,OJ,JG,.slice 5 (C'.map Em.aP.U) UX])))[i]?=σ[i]?:=fun i hi=>yAd (Ne.symm hi)
 exact⟨yAj hl,(e 2 (by decide)).trans h2,(e B (by omega)).trans h3,h4,hC,hr.imp fun n h=>h.dH (e 3 (by decide)),hd.imp id fun⟨n,h,k⟩=>⟨n,h.dH (e 4 (by decide)),k⟩,h8.imp id fun⟨n,h⟩=>⟨n,h.dH (e (B+1) (by omega))⟩⟩
theorem fG.UY{σ:List aB}{B K:Nat}{nm:List UInt8}{RP DP SP:PD}{C:List cF}{tC:Tok}{d0:List UInt8}{d1:Bool}{d2 d3:Int}(h:fG σ B K nm RP DP SP C tC d0 d1 d2 d3){OK:List UInt8}{GC:Bool}{CP uV:Int}{JH:PD}
  (hl:B<σ.length) (hB:tF nm C OK CP uV) (hs:JH=.slice 4 [] .full\/∃n,iY Em.stop kP 74 4 σ (B+1) n JH) :
  fG (σ.set B (.box (.agg [.str OK,.bool GC,.int .i64 CP,.int .i64 uV,JH]))) B K nm RP DP JH C tC OK GC CP uV:=by
 obtain⟨h1,h2,h3,h4,h5,h6,h7,h8⟩:=h
 have e:∀i,i≠B->(σ.set B (.box (.agg [.str OK,.bool GC,.int .i64 CP,.int .i64 uV,JH])))[i]?=σ[i]?:=fun i hi=>yAd (Ne.symm hi)
 exact⟨(e 0 (by omega)).trans h1,(e 2 (by omega)).trans h2,yAj hl,h4,hB,h6.imp fun n h=>h.dH (e 3 (by omega)),h7.imp id fun⟨n,h,k⟩=>⟨n,h.dH (e 4 (by omega)),k⟩,hs.imp id fun⟨n,h⟩=>⟨n,h.dH (e (B+1) (by omega))⟩⟩
theorem fG.UT{σ:List aB}{B K v n:Nat}{nm:List UInt8}{DP SP:PD}{C:List cF}{tC:Tok}{d0:List UInt8}{d1:Bool}{d2 d3:Int}(h:fG σ B K nm (.aF 3 v 0 n 6) DP SP C tC d0 d1 d2 d3)(gs:List (List PD))(hl:3<σ.length)(hn:n<=gs.length)(hg:gs.length<=70)(hgs:∀g∈gs,iX Em.aR iH 6 g) :
  fG (σ.set 3 (.row 66 6 v gs.flatten)) B K nm (.aF 3 v 0 n 6) DP SP C tC d0 d1 d2 d3:=by
 obtain⟨h1,h2,h3,h4,h5,h6,h7,h8⟩:=h
 have e:∀i,i≠3->(σ.set 3 (.row 66 6 v gs.flatten))[i]?=σ[i]?:=fun i hi=>yAd (Ne.symm hi)
 exact⟨(e 0 (by omega)).trans h1,(e 2 (by omega)).trans h2,(e B (by omega)).trans h3,h4,h5,⟨n,v,gs,rfl,yAj hl,hn,hg,hgs⟩,h7.imp id fun⟨n,h,k⟩=>⟨n,h.dH (e 4 (by omega)),k⟩,h8.imp id fun⟨n,h⟩=>⟨n,h.dH (e (B+1) (by omega))⟩⟩
theorem fG.aDf{σ:List aB}{B K v n:Nat}{nm:List UInt8}{RP DP:PD}{C:List cF}{tC:Tok}{d0:List UInt8}{d1:Bool}{d2 d3:Int}(h:fG σ B K nm RP DP (.aF (B+1) v 0 n 4) C tC d0 d1 d2 d3)(gs:List (List PD))(hl:B+1<σ.length)(hn:n<=gs.length)(hg:gs.length<=70)(hgs:∀g∈gs,iX Em.stop kP 4 g) :
  fG (σ.set (B+1) (.row 74 4 v gs.flatten)) B K nm RP DP (.aF (B+1) v 0 n 4) C tC d0 d1 d2 d3:=by
 obtain⟨h1,h2,h3,h4,h5,h6,h7,h8⟩:=h
 have e:∀i,i≠B+1->(σ.set (B+1) (.row 74 4 v gs.flatten))[i]?=σ[i]?:=fun i hi=>yAd (Ne.symm hi)
 exact⟨(e 0 (by omega)).trans h1,(e 2 (by omega)).trans h2,(e B (by omega)).trans h3,h4,h5,h6.imp fun n h=>h.dH (e 3 (by omega)),h7.imp id fun⟨n,h,k⟩=>⟨n,h.dH (e 4 (by omega)),k⟩,.inr ⟨n,v,gs,rfl,yAj hl,hn,hg,hgs⟩⟩
theorem fG.more{σ J:List aB}{B K:Nat}{nm:List UInt8}{RP DP SP:PD}{C:List cF}{tC:Tok}{d0:List UInt8}{d1:Bool}{d2 d3:Int}(h:fG σ B K nm RP DP SP C tC d0 d1 d2 d3):fG (σ++J) B K nm RP DP SP C tC d0 d1 d2 d3:=by
 obtain⟨h1,h2,h3,h4,h5,h6,h7,h8⟩:=h
 have k:∀ {α:Type} {em:Em α} {R:α->Prop} {e sz id n:Nat} {P:PD},iY em R e sz σ id n P->iY em R e sz (σ++J) id n P:=fun⟨v,gs,a,b,c⟩=>⟨v,gs,a,eK b,c⟩
 exact⟨eK h1,eK h2,eK h3,h4,h5,h6.imp fun n h=>k h,h7.imp id fun⟨n,h,q⟩=>⟨n,k h,q⟩,h8.imp id fun⟨n,h⟩=>⟨n,k h⟩⟩
theorem fG.UZ{σ σ':List aB}{B K:Nat}{nm:List UInt8}{RP DP SP:PD}{C:List cF}{tC:Tok}{d0:List UInt8}{d1:Bool}{d2 d3:Int}(h:fG σ B K nm RP DP SP C tC d0 d1 d2 d3)(hk:∀(id:Nat) (o:aB),σ[id]?=some o->(∀e k n,o≠.own e k n)->σ'[id]?=some o):fG σ' B K nm RP DP SP C tC d0 d1 d2 d3:=by
 obtain⟨h1,h2,h3,h4,h5,h6,h7,h8⟩:=h
 have k:∀ {α:Type} {em:Em α} {R:α->Prop} {e sz id n:Nat} {P:PD},iY em R e sz σ id n P->iY em R e sz σ' id n P:=fun⟨v,gs,a,b,c⟩=>⟨v,gs,a,hk _ _ b (fun _ _ _ h=>by cases h),c⟩
 exact⟨hk _ _ h1 (fun _ _ _ h=>by cases h),hk _ _ h2 (fun _ _ _ h=>by cases h),hk _ _ h3 (fun _ _ _ h=>by cases h),h4,h5,h6.imp fun n h=>k h,h7.imp id fun⟨n,h,q⟩=>⟨n,k h,q⟩,h8.imp id fun⟨n,h⟩=>⟨n,k h⟩⟩
theorem fG.aDg{σ:List aB}{B K v n:Nat}{nm:List UInt8}{RP DP SP:PD}{C:List cF}{tC:Tok}{d0:List UInt8}{d1:Bool}{d2 d3:Int}(h:fG σ B K nm RP DP SP C tC d0 d1 d2 d3)(gs:List (List PD))(hl0:0<σ.length)(hl:3<σ.length)(hn:n<=gs.length)(hg:gs.length<=70)(hgs:∀g∈gs,iX Em.aR iH 6 g) :
  fG ((σ.set 3 (.row 66 6 v gs.flatten)).set 0 (.box (.agg [.str nm,.aF 3 v 0 n 6,DP,.slice 5 (C.map Em.aP.U) tC]))) B K nm (.aF 3 v 0 n 6) DP SP C tC d0 d1 d2 d3:=by
 obtain⟨h1,h2,h3,h4,h5,h6,h7,h8⟩:=h
 have e:∀i,i≠3->i≠0->((σ.set 3 (.row 66 6 v gs.flatten)).set 0 (.box (.agg [.str nm,.aF 3 v 0 n 6,DP,.slice 5 (C.map Em.aP.U) tC])))[i]?=σ[i]?:=fun i hi h0=>by rw[yAd (Ne.symm h0),yAd (Ne.symm hi)]
 refine⟨yAj (by rw[yBd];exact hl0),(e 2 (by omega) (by omega)).trans h2,(e B (by omega) (by omega)).trans h3,h4,h5,⟨n,v,gs,rfl,?_,hn,hg,hgs⟩,h7.imp id fun⟨n,h,k⟩=>⟨n,h.dH (e 4 (by omega) (by omega)),k⟩,h8.imp id fun⟨n,h⟩=>⟨n,h.dH (e (B+1) (by omega) (by omega))⟩⟩
 rw[yAd (by decide)]
 exact yAj hl
theorem fG.aDh{σ:List aB}{B K v n:Nat}{nm:List UInt8}{RP DP SP:PD}{C:List cF}{tC:Tok}{d0:List UInt8}{d1:Bool}{d2 d3:Int}(h:fG σ B K nm RP DP SP C tC d0 d1 d2 d3)(gs:List (List PD))(hl0:0<σ.length)(hl:4<σ.length)(hn:n<=gs.length)(hK:K<n)(hg:gs.length<=10)(hgs:∀g∈gs,iX Em.div kD 5 g) :
  fG ((σ.set 4 (.row 71 5 v gs.flatten)).set 0 (.box (.agg [.str nm,RP,.aF 4 v 0 n 5,.slice 5 (C.map Em.aP.U) tC]))) B K nm RP (.aF 4 v 0 n 5) SP C tC d0 d1 d2 d3:=by
 obtain⟨h1,h2,h3,h4,h5,h6,h7,h8⟩:=h
 have e:∀i,i≠4->i≠0->((σ.set 4 (.row 71 5 v gs.flatten)).set 0 (.box (.agg [.str nm,RP,.aF 4 v 0 n 5,.slice 5 (C.map Em.aP.U) tC])))[i]?=σ[i]?:=fun i hi h0=>by rw[yAd (Ne.symm h0),yAd (Ne.symm hi)]
 refine⟨yAj (by rw[yBd];exact hl0),(e 2 (by omega) (by omega)).trans h2,(e B (by omega) (by omega)).trans h3,h4,h5,h6.imp fun n h=>h.dH (e 3 (by omega) (by omega)),.inr ⟨n,⟨v,gs,rfl,?_,hn,hg,hgs⟩,hK⟩,h8.imp id fun⟨n,h⟩=>⟨n,h.dH (e (B+1) (by omega) (by omega))⟩⟩
 rw[yAd (by decide)]
 exact yAj hl
theorem fG.aDi{σ:List aB}{B K v n:Nat}{nm:List UInt8}{RP DP SP:PD}{C:List cF}{tC:Tok}{d0:List UInt8}{d1:Bool}{d2 d3:Int}(h:fG σ B K nm RP DP SP C tC d0 d1 d2 d3)(gs:List (List PD))(hl0:B<σ.length)(hl:B+1<σ.length)(hn:n<=gs.length)(hg:gs.length<=70)(hgs:∀g∈gs,iX Em.stop kP 4 g) :
  fG ((σ.set (B+1) (.row 74 4 v gs.flatten)).set B (.box (.agg [.str d0,.bool d1,.int .i64 d2,.int .i64 d3,.aF (B+1) v 0 n 4]))) B K nm RP DP (.aF (B+1) v 0 n 4) C tC d0 d1 d2 d3:=by
 obtain⟨h1,h2,h3,h4,h5,h6,h7,h8⟩:=h
 have e:∀i,i≠B+1->i≠B->((σ.set (B+1) (.row 74 4 v gs.flatten)).set B (.box (.agg [.str d0,.bool d1,.int .i64 d2,.int .i64 d3,.aF (B+1) v 0 n 4])))[i]?=σ[i]?:=fun i hi h0=>by rw[yAd (Ne.symm h0),yAd (Ne.symm hi)]
 refine⟨(e 0 (by omega) (by omega)).trans h1,(e 2 (by omega) (by omega)).trans h2,yAj (by rw[yBd];exact hl0),h4,h5,h6.imp fun n h=>h.dH (e 3 (by omega) (by omega)),h7.imp id fun⟨n,h,k⟩=>⟨n,h.dH (e 4 (by omega) (by omega)),k⟩,.inr ⟨n,v,gs,rfl,?_,hn,hg,hgs⟩⟩
 rw[yAd (by omega)]
 exact yAj hl
theorem OA(R:List bM):(R.map Em.aR.U).flatMap PD.cells=(R.map fun r=>[PD.str r.name,.str r.jN,.int .i64 r.num,.int .i64 r.den,.int .i64 r.first,eD.U r.fJ]).flatten:=by
 induction R with
 |nil=>rfl
 |cons r R ih=>simp only[List.map_cons,List.flatMap_cons,List.flatten_cons,ih];rfl
theorem OB(R:List cU):(R.map Em.div.U).flatMap PD.cells=(R.map fun r=>[PD.str r.name,.bool r.oL,.int .i64 r.low,.int .i64 r.high,j6.U r.stops]).flatten:=by
 induction R with
 |nil=>rfl
 |cons r R ih=>simp only[List.map_cons,List.flatMap_cons,List.flatten_cons,ih];rfl
theorem OE(R:List dG):(R.map Em.stop.U).flatMap PD.cells=(R.map fun r=>[PD.str r.name,.int .i64 r.num,.int .i64 r.den,jA.U r.fK]).flatten:=by
 induction R with
 |nil=>rfl
 |cons r R ih=>simp only[List.map_cons,List.flatMap_cons,List.flatten_cons,ih];rfl
theorem OD{P:Program}{σ:List aB}{t e:TypeId}{k b s z n:Nat}{tok:Tok}(ht:iF t n=true)(hu:P.underlying t=some (.slice e))(hi:mS P e=some (k,b))(ho:∀i z,P.info? e=some i->i.zero=some z->z.cells.toList.all Value.oneCell'=true) :
  dS P n 0 σ t (.slice s [] .full) (.slice z [] tok)=some (.slice s [] .full,σ):=by
 unfold mS at hi
 split at hi
 ·rename_i i h1
  split at hi
  ·rename_i z0 h2
   split at hi
   ·rename_i h3
    have hone:=ho i z0 h1 h2
    have hfr:Tok.full.fresh=true:=rfl
    simp only[dS,ht,if_true,hu,mY,h1,h2,h3.1,h3.2,hone,and_self,List.length_nil,true_or,hfr,Nat.add_zero,Nat.zero_mul,yBf]
   ·cases hi
  ·cases hi
 ·cases hi
def CX(gg:Nat->PD)(B K:Nat):List PD:=gg 0::gg 1::.ptr 0 0::.ptr 1 0::.ptr 2 0::gg 5::.int .i64 K::.ptr B 0::gg 8::gg 9::gg 10::gg 11::gg 12::gg 13::gg 14::gg 15::gg 16::gg 17::gg 18::gg 19::gg 20::gg 21::gg 22::gg 23::gg 24::gg 25::gg 26::gg 27::gg 28::gg 29::gg 30::gg 31::gg 32::gg 33::gg 34::gg 35::gg 36::gg 37::gg 38::gg 39::gg 40::gg 41::gg 42::gg 43::gg 44::gg 45::gg 46::gg 47::gg 48::gg 49::gg 50::gg 51::gg 52::gg 53::gg 54::gg 55::gg 56::gg 57::gg 58::gg 59::gg 60::gg 61::gg 62::gg 63::gg 64::gg 65::gg 66::gg 67::gg 68::gg 69::gg 70::gg 71::gg 72::gg 73::gg 74::gg 75::gg 76::gg 77::gg 78::gg 79::gg 80::gg 81::gg 82::gg 83::gg 84::gg 85::gg 86::gg 87::gg 88::gg 89::gg 90::gg 91::gg 92::gg 93::gg 94::gg 95::gg 96::gg 97::gg 98::gg 99::gg 100::gg 101::gg 102::gg 103::gg 104::gg 105::gg 106::gg 107::gg 108::gg 109::gg 110::gg 111::gg 112::gg 113::gg 114::gg 115::gg 116::gg 117::gg 118::gg 119::gg 120::gg 121::gg 122::gg 123::gg 124::gg 125::gg 126::gg 127::gg 128::gg 129::gg 130::gg 131::gg 132::gg 133::gg 134::gg 135::gg 136::gg 137::gg 138::gg 139::gg 140::gg 141::gg 142::gg 143::gg 144::gg 145::gg 146::gg 147::gg 148::gg 149::gg 150::gg 151::gg 152::gg 153::gg 154::gg 155::gg 156::gg 157::gg 158::gg 159::gg 160::gg 161::gg 162::gg 163::gg 164::gg 165::gg 166::gg 167::gg 168::gg 169::gg 170::gg 171::gg 172::gg 173::gg 174::gg 175::gg 176::gg 177::gg 178::gg 179::gg 180::gg 181::gg 182::gg 183::gg 184::gg 185::gg 186::gg 187::gg 188::gg 189::gg 190::gg 191::gg 192::gg 193::gg 194::gg 195::gg 196::gg 197::gg 198::gg 199::gg 200::gg 201::gg 202::gg 203::gg 204::gg 205::gg 206::gg 207::gg 208::gg 209::gg 210::gg 211::gg 212::gg 213::gg 214::gg 215::gg 216::gg 217::gg 218::gg 219::gg 220::gg 221::gg 222::gg 223::gg 224::gg 225::gg 226::gg 227::gg 228::gg 229::gg 230::gg 231::gg 232::gg 233::gg 234::gg 235::gg 236::gg 237::gg 238::gg 239::gg 240::gg 241::gg 242::gg 243::gg 244::gg 245::gg 246::gg 247::gg 248::gg 249::gg 250::gg 251::gg 252::gg 253::gg 254::gg 255::gg 256::gg 257::gg 258::gg 259::gg 260::gg 261::gg 262::gg 263::gg 264::gg 265::gg 266::gg 267::gg 268::gg 269::gg 270::gg 271::gg 272::gg 273::gg 274::[]
structure aTe (B K:Nat) (nm:List UInt8) (RP DP SP:PD) (C:List cF) (tC:Tok) (d0:List UInt8) (d1:Bool) (d2 d3:Int) (r:PO):Prop where
 x:r.x=.normal
 m:r.ms=[]
 f:∃gg:Nat->PD,r.fr=CX gg B K
 i:wL r.σ B K nm RP DP SP C tC d0 d1 d2 d3
theorem n7{t:TypeId}(h:(match prog.info? t with|some i=>(match i.zero with|some z=>z.cells.toList.all Value.oneCell' | none=>true)|none=>true)=true):∀i z,prog.info? t=some i->i.zero=some z->z.cells.toList.all Value.oneCell'=true:=by
 intro i z h1 h2
 rw[h1]at h
 simp only[h2]at h
 exact h
structure aMG (B K:Nat) (nm:List UInt8) (RP DP SP:PD) (C:List cF) (tC:Tok) (d0:List UInt8) (d1:Bool) (d2 d3:Int) (r:PO):Prop where
 x:r.x=.normal
 m:r.ms=[]
 f:∃gg:Nat->PD,r.fr=CX gg B K
 i:fG r.σ B K nm RP DP SP C tC d0 d1 d2 d3
def x7(B K:Nat)(r:PO):Prop:=∃nm RP DP SP C tC d0 d1 d2 d3,aMG B K nm RP DP SP C tC d0 d1 d2 d3 r
theorem nF{B K:Nat}{fr:List PD}{σ:List aB}{nm:List UInt8}{RP DP SP:PD}{C:List cF}{tC:Tok}{d0:List UInt8}{d1:Bool}{d2 d3:Int}(hf:fr=CX (fun n=>fr.getD n (.aH [])) B K)(h:fG σ B K nm RP DP SP C tC d0 d1 d2 d3):x7 B K ⟨.normal,fr,[],σ⟩:=
 ⟨nm,RP,DP,SP,C,tC,d0,d1,d2,d3,rfl,rfl,⟨_,hf⟩,h⟩
end Go.Kz
