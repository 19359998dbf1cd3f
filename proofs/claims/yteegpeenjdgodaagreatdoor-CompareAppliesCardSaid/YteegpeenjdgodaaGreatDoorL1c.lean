/- Steps of the proof. -/
import Derived.Test.YteegpeenjdgodaaGreatDoorL1b
set_option linter.all false
set_option maxHeartbeats 40000000
set_option maxRecDepth 100000
open Go.Proofs.Tryz
noncomputable section
namespace Go.Kz
open Go Go.Proofs
def ET(σ:List aA)(x:PD)(k:Nat)(hs:List (List PD)):Prop:=∃z ys,tV σ x=some (z,ys)/\(ys.length=0\/z=k)/\ys.length=hs.length/\ys.flatMap PD.cells=hs.flatten
def xE(σ:List aA)(h:PD)(k e:Nat)(gs:List (List PD)):Prop:=(gs=[]/\∃z tok,h=.slice z [] tok)\/(gs≠[]/\∃id v,h=.aO id v 0 gs.length k/\σ[id]?=some (.row e k v gs.flatten))
def rC(σ:List aA)(B:Nat)(h:PD)(k e:Nat)(gs:List (List PD)):Prop:=(gs=[]/\h=.slice k [] .full)\/(gs≠[]/\∃id v,B<=id/\h=.aO id v 0 gs.length k/\σ[id]?=some (.row e k v gs.flatten))
theorem rC.plain{σ:Jp}{B:Nat}{h:PD}{k e:Nat}{gs:Jn}(H:rC σ B h k e gs):h.plain=true/\h.cells=[h]:=by
 rcases H with⟨_,rfl⟩ | ⟨_,id,v,_,rfl,_⟩<;>exact⟨rfl,rfl⟩
theorem J5{e t k b:Nat}(hu:prog.underlying t=some (.slice e))(hi:lL prog e=some (k,b))(ho:∀i z,prog.info? e=some i->i.zero=some z->z.cells.toList.all Value.oneCell'=true)(hb:b<=1000){σ:Jp}{B:Nat}{h x:PD}{gs hs:Jn}(hB:B<=σ.length)(hg:∀g∈gs,g.length=k)(H:rC σ B h k e gs)(V:ET σ x k hs)(hl:gs.length+hs.length<=1000000) :
  ∃h' σ',(∀n,iK t n=true->dM prog n 0 σ t h x=some (h',σ'))/\rC σ' B h' k e (gs++hs)/\σ.length<=σ'.length/\∀(i:Nat) (z:aA),i<B->σ[i]?=some z->σ'[i]?=some z:=by
 obtain⟨z,ys,v1,v2,v3,v4⟩:=V;unfold lL at hi;split at hi
 rotate_left
 .cases hi
 rename_i i h1;split at hi
 rotate_left
 .cases hi
 rename_i z0 h2;split at hi
 rotate_left
 .cases hi
 rename_i h3;simp only[yAb,yAc]at hi;obtain⟨rfl,rfl⟩:=hi;have hone:=ho i z0 h1 h2;have hmm:gs.length+ys.length<=maxLen:=Dj;have hbb:(gs.length+ys.length)*i.bytes<=140737488355328:=by
  have:=yCU (show gs.length+ys.length<=1000000 by omega) hb;omega
 have hsz:0<i.size:=h3.2;rcases H with⟨rfl,rfl⟩ | ⟨hne,id,v,hid,rfl,hr⟩
 .by_cases h0:ys.length=0
  .have hh:hs=[]:=yAf Cj;subst hh;refine⟨.slice i.size [] .full,σ,λn hn=>?_,.inl ⟨rfl,rfl⟩,yAk _,λ_ _ _ h=>h⟩;have hfr:Tok.full.fresh=true:=rfl;simp only[yAO,yAp]at hmm hbb;simp only[dM,hn,yAK,hu,v1,h1,h2,v2,h3.1,h3.2,hone,yBy,yAO,yCA,yAp,hmm,hbb,hfr,h0,yAF,yCO]
  .have hz:z=i.size:=v2.resolve_left h0;have hh:hs≠[]:=λe=>h0 (by rw[v3,e];rfl)
   refine⟨.aO σ.length 0 0 (0+ys.length) i.size,σ++[.row e i.size 0 (([]++ys).flatMap PD.cells)],λn hn=>?_,.inr ⟨by simpa using hh,σ.length,0,hB,by simp[v3],by simp[v4]⟩,Ck,λ_ _ _ h=>bG h⟩;have hfr:Tok.full.fresh=true:=rfl;simp only[yAO,yAp]at hmm hbb;simp only[dM,hn,yAK,hu,v1,h1,h2,hz,yCi,h3.1,h3.2,hone,yBy,yAO,yCA,yAp,hmm,hbb,hfr,h0,yAN]
 .have hfl:=lF gs hg;obtain⟨r1,r2⟩:=yA.1 hr
  by_cases h0:ys.length=0
  .have hh:hs=[]:=yAf Cj;subst hh;have hy:ys=[]:=yAf h0;subst hy;refine⟨.aO id v 0 gs.length i.size,σ,λn hn=>?_,.inr ⟨by simpa using hne,id,v,hid,Ck,by simpa using hr⟩,yAk _,λ_ _ _ h=>h⟩;have hle:0+(gs.length+0)*i.size<=gs.flatten.length:=by rw[hfl];simp
   have hpf:dF gs.flatten (0+gs.length*i.size) []=gs.flatten:=by
    unfold dF;simp
   have hst:σ.set id (.row e i.size v gs.flatten)=σ:=by
    rw[<-r2];simp
   simp only[yAO,yBm]at hmm hbb hle;simp only[dM,hn,yAK,hu,v1,h1,h2,v2,h3.1,h3.2,hone,yBy,yAO,yCA,yAF,yBm,hmm,hbb,hr,hle,List.flatMap_nil,hpf,hst]
  .have hz:z=i.size:=v2.resolve_left h0;have hh:hs≠[]:=λe=>h0 (by rw[v3,e];rfl)
   refine⟨.aO id (v+1) 0 (gs.length+ys.length) i.size,σ.set id (.row e i.size (v+1) (gs.flatten++ys.flatMap PD.cells)),λn hn=>?_,.inr ⟨by simp[hne],id,v+1,hid,by simp[v3],by rw[yAj r1,v4];simp⟩,Ck,λj z hj h=>by rw[yAd Cj];exact h⟩;have hlt:¬0+(gs.length+ys.length)*i.size<=gs.flatten.length:=by
    rw[hfl,yBx];have:0<ys.length*i.size:=yDb Cj hsz;omega
   simp only[dM,hn,yAK,hu,v1,h1,h2,hz,yCi,h3.1,h3.2,hone,yBy,yAF,hmm,hbb,hr];rw[yAI hlt,yAJ ⟨trivial,hfl.symm⟩]
theorem aHt{σ:Jp}{k:Nat}{x:PD}{tok:Tok}:ET σ (.slice k [x] tok) k [x.cells]:=⟨k,[x],rfl,.inr rfl,rfl,Ck⟩
theorem aHu{σ:Jp}{id e v k n off:Nat}{gs:Jn}(hr:σ[id]?=some (.row e k v gs.flatten))(hg:∀g∈gs,g.length=k)(hn:off+n<=gs.length):ET σ (.aO id v (off*k) n k) k ((gs.drop off).take n):=by
 have hfl:=lF gs hg;have hle:off*k+n*k<=gs.flatten.length:=by rw[hfl,<-yBx];exact yBI k hn
 refine⟨k,sI k n (gs.flatten.drop (off*k)),by simp only[tV,hr];rw[yAJ ⟨trivial,trivial,hle⟩],.inr rfl,?_,?_⟩
 .rw[BL,yAt,yBa];omega
 .rw[LD k n _ (by rw[yBa];omega),RY gs off hg,RX _ n λg h=>hg g (yBd h)]
theorem aTi{e t k b:Nat}(hu:prog.underlying t=some (.slice e))(hi:cM prog e=some k){σ:Jp}{h:PD}{gs:Jn}(hg:∀g∈gs,g.length=k)(H:xE σ h k e gs)(i:Nat)(hle:i<=gs.length) :
  ∃x,kU prog t h none (some (some (.int .i64 i))) none=some x/\ET σ x k (gs.take i):=by
 rcases H with⟨rfl,z,tok,rfl⟩ | ⟨hne,id,v,rfl,hr⟩
 .exact jx
 .refine⟨.aO id v 0 i k,by simp[kU,hu,hi,kV,gL,hle],?_⟩;have h:=aHu (off:=0) (n:=i) hr hg Cj;rw[yCO,yBZ]at h;exact h
theorem aA4{e t k b:Nat}(hu:prog.underlying t=some (.slice e))(hi:cM prog e=some k){σ:Jp}{h:PD}{gs:Jn}(hg:∀g∈gs,g.length=k)(H:xE σ h k e gs)(i:Nat)(hle:i<=gs.length) :
  ∃x,kU prog t h (some (some (.int .i64 i))) none none=some x/\ET σ x k (gs.drop i):=by
 rcases H with⟨rfl,z,tok,rfl⟩ | ⟨hne,id,v,rfl,hr⟩
 .exact jx
 .have hp:0<gs.length:=yCo.2 hne
  by_cases hlt:i<gs.length
  .refine⟨.aO id v (i*k) (gs.length-i) k,by simp[kU,hu,hi,kV,gL,hle,hlt],?_⟩;have h:=aHu (off:=i) (n:=gs.length-i) hr hg Cj;rw[yAz (by rw[yBa];omega)]at h;exact h
  .refine⟨.slice k [] .any,?_,k,[],rfl,.inl rfl,by rw[yDl Cj];rfl,by rw[yDl Cj];rfl⟩;have h0:¬i=0:=Cj;simp[kU,hu,hi,kV,gL,hle,hlt,h0]
theorem ET.aM{σ σ':Jp}{x:PD}{k:Nat}{hs:Jn}(V:ET σ x k hs)(hk:∀(i:Nat) (z:aA),σ[i]?=some z->σ'[i]?=some z):ET σ' x k hs:=by
 obtain⟨z,ys,v1,v2⟩:=V;refine⟨z,ys,?_,v2⟩;unfold tV at v1 ⊢;split at v1
 .exact v1
 .exact yg
 .exact yg
 .cases v1
theorem xE.aM{σ σ':Jp}{h:PD}{k e:Nat}{gs:Jn}(H:xE σ h k e gs)(hk:∀(i:Nat) (z:aA),σ[i]?=some z->σ'[i]?=some z):xE σ' h k e gs:=by
 rcases H with h | ⟨hn,id,v,h1,h2⟩
 .exact .inl h
 .exact .inr ⟨hn,id,v,h1,hk _ _ h2⟩
theorem rC.mono{σ:Jp}{B B':Nat}{h:PD}{k e:Nat}{gs:Jn}(H:rC σ B h k e gs)(hb:B'<=B):rC σ B' h k e gs:=by
 rcases H with h | ⟨hn,id,v,h0,h1,h2⟩
 .exact .inl h
 .exact .inr ⟨hn,id,v,yAQ hb h0,h1,h2⟩
section
theorem aTh{α:Type}{l:List α}{i:Nat}{x:α}(h:i<l.length):l.set i x=l.take i++x::l.drop (i+1):=by rw[yEn,yAJ h]
theorem llc{t e k b:Nat}(hu:prog.underlying t=some (.slice e))(hp:lL prog e=some (k,b))(ho:∀i z,prog.info? e=some i->i.zero=some z->z.cells.toList.all Value.oneCell'=true)(hb:b<=1000)(hps:cM prog e=some k){σ ρ:Jp}{h X:PD}{gs:Jn}(i:Nat)(hρ:σ++[.box X]=ρ)(H:xE σ h k e gs)(hg:∀g∈gs,g.length=k)(hl:gs.length<=900000)(hX:X.cells.length=k) :
  (i<=gs.length->∃x1 h1 σ1 h2 σ2 x3 h3 σ3,kU prog t h none (some (some (.int .i64 i))) none=some x1/\(∀n,iK t n=true->dM prog n 0 ρ t (.slice k [] .full) x1=some (h1,σ1))/\σ1[σ.length]?=some (.box X)/\(∀n,iK t n=true->dM prog n 0 σ1 t h1 (.slice k [X] .full)=some (h2,σ2))/\kU prog t h (some (some (.int .i64 (i:Int)))) none none=some x3/\(∀n,iK t n=true->dM prog n 0 σ2 t h2 x3=some (h3,σ3))/\rC σ3 σ.length h3 k e (bP gs 0 i X.cells)/\σ.length<=σ3.length/\∀id,id<σ.length->σ3[id]?=σ[id]?)/\(i<gs.length->∃x1 h1 σ1 x3 h3 σ3,kU prog t h none (some (some (.int .i64 i))) none=some x1/\(∀n,iK t n=true->dM prog n 0 ρ t (.slice k [] .full) x1=some (h1,σ1))/\σ1[σ.length]?=some (.box X)/\kU prog t h (some (some (.int .i64 ((i:Int)+1)))) none none=some x3/\(∀n,iK t n=true->dM prog n 0 σ1 t h1 x3=some (h3,σ3))/\rC σ3 σ.length h3 k e (bP gs 1 i X.cells)/\σ.length<=σ3.length/\∀id,id<σ.length->σ3[id]?=σ[id]?)/\(i<gs.length->∃x1 h1 σ1 h2 σ2 x3 h3 σ3,kU prog t h none (some (some (.int .i64 i))) none=some x1/\(∀n,iK t n=true->dM prog n 0 ρ t (.slice k [] .full) x1=some (h1,σ1))/\σ1[σ.length]?=some (.box X)/\(∀n,iK t n=true->dM prog n 0 σ1 t h1 (.slice k [X] .full)=some (h2,σ2))/\kU prog t h (some (some (.int .i64 ((i:Int)+1)))) none none=some x3/\(∀n,iK t n=true->dM prog n 0 σ2 t h2 x3=some (h3,σ3))/\rC σ3 σ.length h3 k e (bP gs 2 i X.cells)/\σ.length<=σ3.length/\∀id,id<σ.length->σ3[id]?=σ[id]?):=by
 have up0:∀(j:Nat) (z:aA),σ[j]?=some z->ρ[j]?=some z:=λj z hz=>by rw[<-hρ];exact bG hz
 have xb:ρ[σ.length]?=some (.box X):=by rw[<-hρ];simp
 have rl:ρ.length=σ.length+1:=by rw[<-hρ,yAa];rfl
 have H:=H.aM up0;have fin:∀(σ':List aA),(∀(j:Nat) (z:aA),ρ[j]?=some z->σ'[j]?=some z)->∀id,id<σ.length->σ'[id]?=σ[id]?:=λσ' h id hid=>by rw[h id _ (up0 _ _ (yAh hid)),yAh hid]
 have tl:i<=gs.length->(gs.take i).length=i:=λ_=>Er
 have hgt:∀g∈gs.take i,g.length=k:=λg h=>hg g (yAy h)
 have hd:i<=gs.length->∃x1 h1 σ1,kU prog t h none (some (some (.int .i64 i))) none=some x1/\(∀n,iK t n=true->dM prog n 0 ρ t (.slice k [] .full) x1=some (h1,σ1))/\rC σ1 ρ.length h1 k e (gs.take i)/\ρ.length<=σ1.length/\∀(j:Nat) (z:aA),ρ[j]?=some z->σ1[j]?=some z:=λhi=>by
  obtain⟨x1,s1,v1⟩:=aTi (b:=b) hu hps hg H i hi;obtain⟨h1,σ1,e1,o1,l1,k1⟩:=J5 hu hp ho hb (B:=ρ.length) (gs:=[]) (yAk _) (λg h=>Co) (.inl ⟨rfl,rfl⟩) v1 (by rw[tl hi];simp;omega);exact⟨x1,h1,σ1,s1,e1,o1,l1,λj z hz=>k1 j z (yA.1 hz).1 hz⟩
 have pE:∀g∈gs.take i++[X.cells],g.length=k:=λg h=>by
  rcases yBh.1 h with h|h
  .exact hgt g h
  .rw[yCn.1 h];exact hX
 refine⟨λhi=>?_,λhi=>?_,λhi=>?_⟩
 .obtain⟨x1,h1,σ1,s1,e1,o1,l1,CT⟩:=hd hi;have tl:=tl hi;obtain⟨h2,σ2,e2,o2,l2,k2⟩:=J5 hu hp ho hb (B:=ρ.length) l1 hgt o1 (aHt (x:=X) (tok:=.full)) (by rw[tl];simp;omega);have N6:∀(j:Nat) (z:aA),ρ[j]?=some z->σ2[j]?=some z:=λj z hz=>k2 j z (yA.1 hz).1 (CT j z hz)
  obtain⟨x3,s3,v3⟩:=aA4 (b:=b) hu hps hg H i Cj;obtain⟨h3,σ3,e3,o3,l3,k3⟩:=J5 hu hp ho hb (B:=ρ.length) (yAQ l1 l2) pE o2 (v3.aM N6) (by rw[yAa,tl,yBa];simp;omega);refine⟨x1,h1,σ1,h2,σ2,x3,h3,σ3,s1,e1,CT _ _ xb,e2,s3,e3,?_,Cj,fin _ λj z hz=>k3 j z (yA.1 hz).1 (N6 j z hz)⟩;rw[show bP gs 0 i X.cells=gs.take i++[X.cells]++gs.drop i from by unfold bP;rw[yAJ rfl];simp];exact o3.mono Cj
 .obtain⟨x1,h1,σ1,s1,e1,o1,l1,CT⟩:=hd (yBR hi);have tl:=tl (yBR hi);obtain⟨x3,s3,v3⟩:=aA4 (b:=b) hu hps hg H (i+1) Cj;obtain⟨h3,σ3,e3,o3,l3,k3⟩:=J5 hu hp ho hb (B:=ρ.length) l1 hgt o1 (v3.aM CT) (by rw[tl,yBa];omega);rw[show(((i+1:Nat)):Int)=(i:Int)+1 by omega]at s3;refine⟨x1,h1,σ1,x3,h3,σ3,s1,e1,CT _ _ xb,s3,e3,?_,Cj,fin _ λj z hz=>k3 j z (yA.1 hz).1 (CT j z hz)⟩;rw[show bP gs 1 i X.cells=gs.take i++gs.drop (i+1)from by unfold bP;rw[yAI Cn,yAJ rfl]];exact o3.mono Cj
 .obtain⟨x1,h1,σ1,s1,e1,o1,l1,CT⟩:=hd (yBR hi);have tl:=tl (yBR hi);obtain⟨h2,σ2,e2,o2,l2,k2⟩:=J5 hu hp ho hb (B:=ρ.length) l1 hgt o1 (aHt (x:=X) (tok:=.full)) (by rw[tl];simp;omega);have N6:∀(j:Nat) (z:aA),ρ[j]?=some z->σ2[j]?=some z:=λj z hz=>k2 j z (yA.1 hz).1 (CT j z hz)
  obtain⟨x3,s3,v3⟩:=aA4 (b:=b) hu hps hg H (i+1) Cj;obtain⟨h3,σ3,e3,o3,l3,k3⟩:=J5 hu hp ho hb (B:=ρ.length) (yAQ l1 l2) pE o2 (v3.aM N6) (by rw[yAa,tl,yBa];simp;omega);rw[show(((i+1:Nat)):Int)=(i:Int)+1 by omega]at s3;refine⟨x1,h1,σ1,h2,σ2,x3,h3,σ3,s1,e1,CT _ _ xb,e2,s3,e3,?_,Cj,fin _ λj z hz=>k3 j z (yA.1 hz).1 (N6 j z hz)⟩;rw[show bP gs 2 i X.cells=gs.take i++[X.cells]++gs.drop (i+1)from by unfold bP;rw[yAI Cn,yAI Cn,aTh hi];simp];exact o3.mono Cj
variable{E E0:aE}(hU:aJ E)
include hU
theorem aSY(h0:E 47=none)(σ:List aA)(h:PD)(gs:List (List PD))(way:Int)(i:Nat)(nm tn:List UInt8)(a b sh:Int)(zw:Nat)(xs:List PD)(hx:(PD.slice zw xs .any).strip=.slice zw xs .any)(H:xE σ h 6 48 gs)(hg:∀g∈gs,g.length=6)(hl:gs.length<=900000)(hw:way=0/\i<=gs.length\/(way=1\/way=2)/\i<gs.length) :
  aK prog E 0 (.inl 47) [h,.int .i64 way,.int .i64 i,.agg [.str nm,.str tn,.int .i64 a,.int .i64 b,.int .i64 sh,.slice zw xs .any]] σ (λq σ'=>rC σ' σ.length q 6 48 (bP gs way i [.str nm,.str tn,.int .i64 a,.int .i64 b,.int .i64 sh,.slice zw xs .any])/\σ.length<=σ'.length/\∀id,id<σ.length->σ'[id]?=σ[id]?):=by
 clear hU;obtain⟨ρ,hρ⟩:=gn (σ++[aA.box (.agg [.str nm,.str tn,.int .i64 a,.int .i64 b,.int .i64 sh,.slice zw xs .any])]);have w1:IntKind.i64.wrap ((i:Int)+1)=(i:Int)+1:=Cq;obtain⟨c0,c1,c2⟩:=llc (b:=80) underlying31 Cl (nF Cl) Cn Cl i hρ H hg hl rfl;rcases hw with⟨rfl,hi⟩ | ⟨rfl|rfl,hi⟩
 .obtain⟨x1,h1,σ1,h2,σ2,x3,h3,σ3,s1,e1,iP,e2,s3,e3,oO⟩:=c0 hi;exact Bb
 .obtain⟨x1,h1,σ1,x3,h3,σ3,s1,e1,iP,s3,e3,oO⟩:=c1 hi;obtain⟨xr,xv⟩:=yA.1 iP;have hz:=h0;refine aK.aG 30 h0 func47 (h:=?_);exact Ap
 .obtain⟨x1,h1,σ1,h2,σ2,x3,h3,σ3,s1,e1,iP,e2,s3,e3,oO⟩:=c2 hi;exact Bb
theorem aSZ(h0:E 49=none)(σ:List aA)(h:PD)(gs:List (List PD))(way:Int)(i:Nat)(nm:List UInt8)(pe:Bool)(a b:Int)(zw:Nat)(xs:List PD)(hx:(PD.slice zw xs .any).strip=.slice zw xs .any)(H:xE σ h 5 53 gs)(hg:∀g∈gs,g.length=5)(hl:gs.length<=900000)(hw:way=0/\i<=gs.length\/(way=1\/way=2)/\i<gs.length) :
  aK prog E 0 (.inl 49) [h,.int .i64 way,.int .i64 i,.agg [.str nm,.bool pe,.int .i64 a,.int .i64 b,.slice zw xs .any]] σ (λq σ'=>rC σ' σ.length q 5 53 (bP gs way i [.str nm,.bool pe,.int .i64 a,.int .i64 b,.slice zw xs .any])/\σ.length<=σ'.length/\∀id,id<σ.length->σ'[id]?=σ[id]?):=by
 clear hU;obtain⟨ρ,hρ⟩:=gn (σ++[aA.box (.agg [.str nm,.bool pe,.int .i64 a,.int .i64 b,.slice zw xs .any])]);have w1:IntKind.i64.wrap ((i:Int)+1)=(i:Int)+1:=Cq;obtain⟨c0,c1,c2⟩:=llc (b:=64) underlying32 Cl (nF Cl) Cn Cl i hρ H hg hl rfl;rcases hw with⟨rfl,hi⟩ | ⟨rfl|rfl,hi⟩
 .obtain⟨x1,h1,σ1,h2,σ2,x3,h3,σ3,s1,e1,iP,e2,s3,e3,oO⟩:=c0 hi;exact Bc
 .obtain⟨x1,h1,σ1,x3,h3,σ3,s1,e1,iP,s3,e3,oO⟩:=c1 hi;obtain⟨xr,xv⟩:=yA.1 iP;have hz:=h0;refine aK.aG 30 h0 func49 (h:=?_);exact Ap
 .obtain⟨x1,h1,σ1,h2,σ2,x3,h3,σ3,s1,e1,iP,e2,s3,e3,oO⟩:=c2 hi;exact Bc
theorem aS0(h0:E 50=none)(σ:List aA)(h:PD)(gs:List (List PD))(way:Int)(i:Nat)(nm:List UInt8)(a b:Int)(zw:Nat)(xs:List PD)(hx:(PD.slice zw xs .any).strip=.slice zw xs .any)(H:xE σ h 4 56 gs)(hg:∀g∈gs,g.length=4)(hl:gs.length<=900000)(hw:way=0/\i<=gs.length\/(way=1\/way=2)/\i<gs.length) :
  aK prog E 0 (.inl 50) [h,.int .i64 way,.int .i64 i,.agg [.str nm,.int .i64 a,.int .i64 b,.slice zw xs .any]] σ (λq σ'=>rC σ' σ.length q 4 56 (bP gs way i [.str nm,.int .i64 a,.int .i64 b,.slice zw xs .any])/\σ.length<=σ'.length/\∀id,id<σ.length->σ'[id]?=σ[id]?):=by
 clear hU;obtain⟨ρ,hρ⟩:=gn (σ++[aA.box (.agg [.str nm,.int .i64 a,.int .i64 b,.slice zw xs .any])]);have w1:IntKind.i64.wrap ((i:Int)+1)=(i:Int)+1:=Cq;obtain⟨c0,c1,c2⟩:=llc (b:=56) underlying51 Cl (nF Cl) Cn Cl i hρ H hg hl rfl;rcases hw with⟨rfl,hi⟩ | ⟨rfl|rfl,hi⟩
 .obtain⟨x1,h1,σ1,h2,σ2,x3,h3,σ3,s1,e1,iP,e2,s3,e3,oO⟩:=c0 hi;exact Bd
 .obtain⟨x1,h1,σ1,x3,h3,σ3,s1,e1,iP,s3,e3,oO⟩:=c1 hi;obtain⟨xr,xv⟩:=yA.1 iP;have hz:=h0;refine aK.aG 30 h0 func50 (h:=?_);exact Ap
 .obtain⟨x1,h1,σ1,h2,σ2,x3,h3,σ3,s1,e1,iP,e2,s3,e3,oO⟩:=c2 hi;exact Bd
theorem aS1(h0:E 51=none)(σ:List aA)(h:PD)(gs:List (List PD))(way:Int)(i:Nat)(nm:List UInt8)(a b sh:Int)(th:Bool)(H:xE σ h 5 58 gs)(hg:∀g∈gs,g.length=5)(hl:gs.length<=900000)(hw:way=0/\i<=gs.length\/(way=1\/way=2)/\i<gs.length) :
  aK prog E 0 (.inl 51) [h,.int .i64 way,.int .i64 i,.agg [.str nm,.int .i64 a,.int .i64 b,.int .i64 sh,.bool th]] σ (λq σ'=>rC σ' σ.length q 5 58 (bP gs way i [.str nm,.int .i64 a,.int .i64 b,.int .i64 sh,.bool th])/\σ.length<=σ'.length/\∀id,id<σ.length->σ'[id]?=σ[id]?):=by
 clear hU;obtain⟨ρ,hρ⟩:=gn (σ++[aA.box (.agg [.str nm,.int .i64 a,.int .i64 b,.int .i64 sh,.bool th])]);have w1:IntKind.i64.wrap ((i:Int)+1)=(i:Int)+1:=Cq;obtain⟨c0,c1,c2⟩:=llc (b:=48) underlying33 Cl (nF Cl) Cn Cl i hρ H hg hl rfl;rcases hw with⟨rfl,hi⟩ | ⟨rfl|rfl,hi⟩
 .obtain⟨x1,h1,σ1,h2,σ2,x3,h3,σ3,s1,e1,iP,e2,s3,e3,oO⟩:=c0 hi;exact Ah
 .obtain⟨x1,h1,σ1,x3,h3,σ3,s1,e1,iP,s3,e3,oO⟩:=c1 hi;obtain⟨xr,xv⟩:=yA.1 iP;have hz:=h0;refine aK.aG 30 h0 func51 (h:=?_);refine aC (A9 @s1 e1 s3 e3 w1 hρ iP xr xv) ?_;exact iq
 .obtain⟨x1,h1,σ1,h2,σ2,x3,h3,σ3,s1,e1,iP,e2,s3,e3,oO⟩:=c2 hi;exact Ah
end
theorem aSU:w5 Em.div:=λd=>by
 rw[nL];refine .agg _ λc hc=>?_
 simp only[yBn,yBN,yBO]at hc;rcases hc with rfl|rfl|rfl|rfl|rfl
 .exact .str _
 .exact .bool _
 .exact iy
 .exact iy
 .exact RL aFt 4 _
theorem lO.hq{α:Type}{em:Em α}{sz e id v L:Nat}{σ:Jp}{gs:Jn}{l:List α}(h1:sz≠1)(hr:0<l.length->σ[id]?=some (.row e sz v gs.flatten))(hg:0<l.length->∀g∈gs,g.length=sz)(hl:0<l.length->gs.length=l.length)(hL:1<=L)
  (h:∀i (hi:i<l.length) (hi2:i<gs.length),vM em σ L gs[i] l[i]):lO em sz σ (L+1) (Go.Kz.hq sz id v l.length) l:=λK=>by
 by_cases h0:l.length=0
 .obtain rfl:=yAf h0;obtain⟨M,rfl⟩:∃M,L=M+1:=⟨L-1,Cj⟩;exact MO sz 0 σ (K+M) .any
 .rw[J3 Cj];exact nq
theorem aSV{σ:Jp}{lo:Nat}{ds:List dL}{id:Nat}(h:D0 σ lo ds id):lO Em.draw 2 σ 2 (Go.Kz.hq 2 id 0 ds.length) ds:=by
 refine lO.hq (L:=1) (gs:=ds.map λw=>[PD.int .i64 w.aL,.int .i64 w.shift]) Cn (λhp=>(h hp).2) (λ_ g hg=>by obtain⟨w,_,rfl⟩:=yAw.1 hg;rfl) (λ_=>yAe ..) (yAk _) λi hi hi2=>?_
 rw[yBq];exact zZ ZE _ EY σ
theorem aHf{σ:Jp}{lo:Nat}{s:cJ}{iG:Nat}{gs:Jn}{iW:Nat->Nat}(h:uU σ lo s iG gs iW):lO Em.eZ 3 σ 3 (Go.Kz.hq 3 iG (s.aN.length-1) s.aN.length) s.aN:=by
 refine lO.hq (L:=2) (gs:=gs) Cn (λhp=>(h.row hp).2) (λ_=>uB h.len λi hi=>⟨_,(h.at_ i hi).1,rfl⟩) (λ_=>h.len) Cj λi hi hi2=>?_
 have h1:=h.at_ i hi;have e:=(yA.1 h1.1).2;rw[e];exact aFe (L:=1) (aSV h1.2)
theorem aSW{σ:Jp}{lo:Nat}{d:bI}{iS:Nat}{ss:Jn}{tG:Nat->Nat}{tgs:Jm}{tW:Nat->Nat->Nat}(h:oP σ lo d iS ss tG tgs tW):lO Em.stop 4 σ 4 (Go.Kz.hq 4 iS (d.stops.length-1) d.stops.length) d.stops:=by
 refine lO.hq (L:=3) (gs:=ss) Cn (λhp=>(h.row hp).2) (λ_=>uB h.len λi hi=>⟨_,(h.at_ i hi).1,rfl⟩) (λ_=>h.len) Cj λi hi hi2=>?_
 have h1:=h.at_ i hi;have e:=(yA.1 h1.1).2;rw[e];exact RN (L:=2) (aHf h1.2)
theorem uU.kept{σ σ':Jp}{lo:Nat}{s:cJ}{iG:Nat}{gs:Jn}{iW:Nat->Nat}(h:uU σ lo s iG gs iW)(k:aW oJ σ σ'):uU σ' lo s iG gs iW:=by
 obtain⟨h2,h3,h4,h5⟩:=h;exact⟨h2,λhp=>⟨(h3 hp).1,k _ _ _ _ _ (.inl rfl) (h3 hp).2⟩,λg h=>⟨(h4 g h).1,λhp=>⟨((h4 g h).2 hp).1,k _ _ _ _ _ (.inr rfl) ((h4 g h).2 hp).2⟩⟩,h5⟩
theorem oP.Y8{σ σ':Jp}{lo:Nat}{d:bI}{iS:Nat}{ss:Jn}{tG:Nat->Nat}{tgs:Jm}{tW:Nat->Nat->Nat}(h:oP σ lo d iS ss tG tgs tW)(hr:0<d.stops.length->σ'[iS]?=σ[iS]?)(k:aW oJ σ σ'):oP σ' lo d iS ss tG tgs tW:=by
 obtain⟨h2,h3,h4,h5⟩:=h;exact⟨h2,λhp=>⟨(h3 hp).1,(hr hp).trans (h3 hp).2⟩,λs h=>⟨(h4 s h).1,(h4 s h).2.kept k⟩,h5⟩
theorem oP.kept{σ σ':Jp}{lo:Nat}{d:bI}{iS:Nat}{ss:Jn}{tG:Nat->Nat}{tgs:Jm}{tW:Nat->Nat->Nat}(h:oP σ lo d iS ss tG tgs tW)(k:aW j8 σ σ'):oP σ' lo d iS ss tG tgs tW:=
 h.Y8 (λhp=>(k _ _ _ _ _ (.inl rfl) (h.row hp).2).trans (h.row hp).2.symm) (k.mono λ_=>.inr)
theorem oP.wS{σ:Jp}{lo:Nat}{d:bI}{iS:Nat}{ss:Jn}{tG:Nat->Nat}{tgs:Jm}{tW:Nat->Nat->Nat}(h:oP σ lo d iS ss tG tgs tW):lN Em.div 7 j8 σ [.str d.name,.bool d.dO,.int .i64 d.low,.int .i64 d.high,Go.Kz.hq 4 iS (d.stops.length-1) d.stops.length] d:=λσ' k=>(RI (L:=3) (aSW (h.kept k))).up Cj
theorem uU.wS{σ:Jp}{lo:Nat}{s:cJ}{iG:Nat}{gs:Jn}{iW:Nat->Nat}(h:uU σ lo s iG gs iW):lN Em.stop 6 oJ σ [.str s.name,.int .i64 s.num,.int .i64 s.den,Go.Kz.hq 3 iG (s.aN.length-1) s.aN.length] s:=λσ' k=>(RN (L:=2) (aHf (h.kept k))).up Cj
def BU{α:Type}(em:Em α)(sz:Nat)(e:TypeId)(N:Nat)(R:TypeId->Prop)(σ:List aA)(P:PD)(l:List α):Prop:=∃gs,xE σ P sz e gs/\(∀g∈gs,g.length=sz)/\eV (lN em N R σ) gs l
theorem BU.oI{α:Type}{em:Em α}{sz:Nat}{e:TypeId}{R R':TypeId->Prop}{σ:Jp}{P:PD}{l:List α}(h:BU em sz e 7 R σ P l)(h1:1<sz)(hr:∀t,t=e\/R t->R' t):cO em sz R' σ P l:=by
 obtain⟨gs,H,hg,hA⟩:=h;rcases H with⟨rfl,z,tok,rfl⟩ | ⟨hne,id,v,rfl,eQ⟩
 .have:l=[]:=yAf hA.len.symm;subst this;exact⟨rfl,rfl,λσ' _ K=>MO sz z σ' (K+6) tok⟩
 .rw[hA.len];exact cO.row h1 eQ (hr _ (.inl rfl)) (λt ht=>hr t (.inr ht)) (λ_ _ _ _ _ _ h=>h) hg hA
theorem rC.oI{α:Type}{em:Em α}{sz N B:Nat}{e:TypeId}{R R':TypeId->Prop}{σ σ':Jp}{P:PD}{gs:Jn}{l:List α}(H:rC σ' B P sz e gs)(h1:1<sz)(hr:∀t,t=e\/R t->R' t)(hg:∀g∈gs,g.length=sz)(hA:eV (lN em (N+1) R σ) gs l)(hK:aW R σ σ'):∀τ,aW R' σ' τ->∀K,(bF τ (K+(N+2)) P).strip=(em.list sz).aB l/\(bF τ (K+(N+2)) P).bY=true:=λτ eC K=>by
 rcases H with⟨rfl,rfl⟩ | ⟨hne,id,v,_,rfl,eQ⟩
 .have:l=[]:=yAf hA.len.symm;subst this;exact MO sz sz τ (K+N) .full
 .rw[hA.len];exact RW h1 eQ (hr _ (.inl rfl)) (λt ht=>hr t (.inr ht)) hK hg hA τ eC K
theorem N5{σ:Jp}{lo:Nat}{o:aV}{p:PD}{iR iD iC:Nat}{ds:Jn}{tS:Nat->Nat}{tss:Jm}{tG:Nat->Nat->Nat}{tgs:Jl}{tW:Nat->Nat->Nat->Nat}(h:jN σ lo o p iR iD iC ds tS tss tG tgs tW) :
  BU Em.aL 6 48 7 o5 σ (Go.Kz.hn 6 iR o.aR.length) o.aR/\BU Em.div 5 53 7 j8 σ (Go.Kz.hb 5 iD (o.aD.length-1) o.aD.length) o.aD/\BU Em.aZ 5 58 7 o5 σ (Go.Kz.hn 5 iC o.aP.length) o.aP:=by
 have cl:∀ {α:Type} {em:Em α} {f:α->Jq} {sz e id:Nat} (hc:w5 em) (hf:∀x,em.aB x=.agg (f x)) (hs:∀x,(f x).length=sz) (l:List α) (hr:0<l.length->σ[id]?=some (.row e sz 0 ((l.map em.aB).flatMap PD.cells))),BU em sz e 7 o5 σ (Go.Kz.hn sz id l.length) l:=fun {α em f sz e id} hc hf hs l hr=>by
  refine⟨l.map f,?_,λg hg=>by obtain⟨x,_,rfl⟩:=yAw.1 hg;exact hs x,eV.of (yAe ..) λi h1 h2 σ' _=>?_⟩
  .by_cases h0:l=[]
   .subst h0;exact .inl ⟨rfl,_,_,rfl⟩
   .have hp:0<l.length:=yCo.2 h0;refine .inr ⟨by simpa using h0,id,0,by rw[aAS hp,yAe],?_⟩;rw[<-aFh hf];exact hr hp
  .rw[yBq];exact(zZ hc _ (hf _) σ').up Cj
 refine⟨cl RJ (λ_=>oB) (λ_=>rfl) _ λhp=>(h.aL hp).2,⟨ds,?_,uB h.len λi hi=>⟨_,(h.at_ i hi).1,rfl⟩,eV.of h.len λi h1 h2=>?_⟩,cl RO (λ_=>CX) (λ_=>rfl) _ λhp=>(h.aZ hp).2⟩
 .by_cases h0:o.aD=[]
  .have hd:ds=[]:=yAf (by rw[h.len,h0];rfl);exact .inl ⟨hd,0,.full,by rw[h0];rfl⟩
  .have hp:0<o.aD.length:=yCo.2 h0;exact .inr ⟨λe=>Jj,iD,o.aD.length-1,by rw[BV hp,h.len],(h.row hp).2⟩
 .exact ju
end Go.Kz
end
