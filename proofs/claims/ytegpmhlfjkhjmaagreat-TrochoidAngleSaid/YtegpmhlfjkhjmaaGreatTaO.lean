/-Plain:insertion in place on any list:the list sorted as far as place p;it is a sorted permutation. -/
import Derived.Test.YtegpmhlfjkhjmaaGreatTaN
namespace Go.Proofs.YtegpmhlfjkhjmaaGreat
open Go Go.RowKit
variable {args:Array Operand}{at_:Array TypeId}{w:Bool}{k:Ci}{cd:Code}{c:Cv}{fn:Func}{f:FuncId}{a b r:Int}{cs cs' cs0 cs1 rs us zs:List CellD}{ds:List D0}{xs:List Operand}{N i j m n n1 o' t:Nat}{fo x:Operand}{p q y:Pt}{U U2 e:TypeId}{v z:Value}
variable {ty:TypeId}{pos:String}{af:Array Edge}{g:Option (Nat×Bool)}{dst:Option Nat}
theorem lj:type_of% @List.pairwise_cons:=@List.pairwise_cons
theorem rO:type_of% @List.not_mem_nil:=@List.not_mem_nil
theorem yG:type_of% @List.length_set:=@List.length_set
theorem yl:type_of% @List.pairwise_append:=@List.pairwise_append
theorem CT:type_of% @List.pairwise_singleton:=@List.pairwise_singleton
section
variable {α:Type}(e:α) (C:α→α→Int)
def pE (x:α) (out:List α):Nat→Nat
 |0=>0
 |k+1=>if C x (out.getD k e)<0 then pE x out k else k+1
def Dg (out:List α) (x:α):List α:=out.take (pE e C x out out.length)++x::out.drop (pE e C x out out.length)
def bp (L:List α):List α:=L.foldl (Dg e C) []
def A8 (out rest:List α) (x:α) (j:Nat):List α:=out.take j++x::(out.drop j++rest)
def UZ (L:List α) (p:Nat):List α:=bp e C (L.take p)++L.drop p
variable {e C}
theorem Mz (x:α) (out:List α): ∀k,pE e C x out k≤k
 |0=>ck _
 |k+1=>by
  show(if _ then pE e C x out k else k+1)≤k+1
  split
  ·have:=Mz x out k;omega
  ·exact ck _
theorem Pu {x:α}{out:List α}(h0:0<j) (h:C x (out.getD (j-1) e)<0):pE e C x out j=pE e C x out (j-1):=by
 match j,h0 with
 |j+1,_=>exact if_pos h
theorem Fo {x:α}{out:List α}(h:j=0∨ ¬C x (out.getD (j-1) e)<0):pE e C x out j=j:=by
 match j with
 |0=>rfl
 |j+1=>
  rcases h with h|h
  ·omega
  ·exact if_neg h
theorem LG {x:α}{out:List α}: ∀ {k r:Nat},pE e C x out k≤r→r<k→C x (out.getD r e)<0
 |0,r,_,h=>by omega
 |k+1,r,h1,h2=>by
  unfold pE at h1
  split at h1
  ·rename_i g
   rcases jY r k with h|h
   ·exact LG h1 h
   ·rw[show r=k from by omega];exact g
  ·omega
theorem Mf {x:α}{out:List α}: ∀ {k:Nat},0<pE e C x out k→ ¬C x (out.getD (pE e C x out k-1) e)<0
 |0,h=>absurd h (Nat.lt_irrefl 0)
 |k+1,h=>by
  unfold pE at h⊢
  by_cases g:C x (out.getD k e)<0
  ·rw[if_pos g] at h⊢;exact Mf h
  ·rw[if_neg g] at h⊢;exact g
theorem Su (out:List α) (x:α):(Dg e C out x).length=out.length+1:=by
 unfold Dg
 grind
theorem Fa: ∀(L O:List α),(L.foldl (Dg e C) O).length=O.length+L.length
 |[],O=>rfl
 |x::L,O=>by rw[vk,Fa L,Su,A9];omega
theorem fV (L:List α):(bp e C L).length=L.length:=by unfold bp;rw[Fa];simp
theorem S5 {L:List α}{p:Nat}(h:p<L.length):bp e C (L.take (p+1))=Dg e C (bp e C (L.take p)) (L.getD p e):=by
 unfold bp;rw[sT (d:=e) h,List.foldl_append];rfl
theorem LA (L:List α):UZ e C L 1=L:=by
 cases L with
 |nil=>rfl
 |cons x L=>rfl
theorem Lp (L:List α):UZ e C L L.length=bp e C L:=by unfold UZ;simp
theorem L5 {L:List α}{p:Nat}(h:p<L.length):UZ e C L p=A8 (bp e C (L.take p)) (L.drop (p+1)) (L.getD p e) p:=by
 have hl:(bp e C (L.take p)).length=p:=by rw[fV,gX,q5 (Nat.le_of_lt h)]
 unfold UZ A8
 rw[show(bp e C (L.take p)).take p=bp e C (L.take p) from kZ (qe hl),show(bp e C (L.take p)).drop p=[] from qI (qe hl),tF,nI h,List.getD,gE h]
 rfl
theorem zJ {L:List α}{p:Nat}(h:p<L.length) (hj:pE e C (L.getD p e) (bp e C (L.take p)) p=j):A8 (bp e C (L.take p)) (L.drop (p+1)) (L.getD p e) j=UZ e C L (p+1):=by
 have hl:(bp e C (L.take p)).length=p:=by rw[fV,gX,q5 (Nat.le_of_lt h)]
 unfold UZ A8
 rw[S5 h]
 unfold Dg
 grind
section
variable {out rest:List α}{x:α}{j:Nat}
theorem iQ (hj:j≤out.length):(A8 out rest x j).length=out.length+1+rest.length:=by
 unfold A8
 grind
theorem G3 (hj:j≤out.length):(A8 out rest x j).getD j e=x:=by
 unfold A8
 grind
theorem Gp (h0:0<j) (hj:j≤out.length):(A8 out rest x j).getD (j-1) e=out.getD (j-1) e:=by
 unfold A8
 grind
theorem Rg (h0:0<j) (hj:j≤out.length):((A8 out rest x j).set j (out.getD (j-1) e)).set (j-1) x=A8 out rest x (j-1):=by
 obtain⟨k,rfl⟩: ∃k,j=k+1:=⟨j-1,by omega⟩
 have hk:k<out.length:=by omega
 rw[Nat.add_sub_cancel]
 apply List.ext_getElem?
 intro q
 rw[List.getElem?_set,List.getElem?_set,yG,iQ hj]
 have hl2:(out.take k).length=k:=by grind
 unfold A8
 by_cases e1:k=q
 ·grind
 grind
end
theorem Es (out:List α) (x:α):(Dg e C out x).Perm (x::out):=by
 exact List.perm_middle.trans (by rw[Cq])
theorem Cs: ∀(L O:List α),(L.foldl (Dg e C) O).Perm (O++L)
 |[],O=>by simp
 |x::L,O=>by
  rw[vk]
  exact(Cs L _).trans (((Es O x).append_right L).trans List.perm_middle.symm)
theorem jl (L:List α):(bp e C L).Perm L:=Cs L []
theorem PJ {G:α→Prop}(anti: ∀x y,G x→G y→C y x= -C x y) (tr: ∀x y z,G x→G y→G z→C x y≤0→C y z≤0→C x z≤0) {out:List α}{x:α}(hx:G x) (hO: ∀y∈out,G y) (h:out.Pairwise fun a b=>C a b≤0):
 (Dg e C out x).Pairwise fun a b=>C a b≤0:=by
 have hp:=Mz (e:=e) (C:=C) x out out.length
 have up: ∀r,pE e C x out out.length≤r→r<out.length→C x (out.getD r e)<0:=fun r=>LG
 have dn:=Mf (e:=e) (C:=C) (x:=x) (out:=out) (k:=out.length)
 unfold Dg
 generalize pE e C x out out.length=j at hp up dn
 have h2:=h
 rw[←Cq j out] at h2
 obtain⟨h3,h4,h5⟩:=yl.1 h2
 have hgt: ∀y∈out.drop j,C x y≤0:=fun y hy=>by
  obtain⟨r,hr,rfl⟩:=List.mem_iff_getElem.1 hy
  rw[lZ] at hr
  have:=up (j+r) (by omega) (by omega)
  rw[List.getD,gE (by omega)] at this
  rw[List.getElem_drop]
  have t2:C x (out[j+r]'(by omega))<0:=this
  omega
 have hlt: ∀y∈out.take j,C y x≤0:=fun y hy=>by
  obtain⟨r,hr,rfl⟩:=List.mem_iff_getElem.1 hy
  rw[gX] at hr
  have hj:0<j:=by omega
  have hl:(out.take j).length=j:=by rw[gX];omega
  have g:=dn hj
  have hm:j-1<out.length:=by omega
  rw[List.getD,gE hm] at g
  have g2: ¬C x out[j-1]<0:=g
  have g3:=anti x out[j-1] hx (hO _ (wv hm))
  rw[List.getElem_take]
  have hr2:r<out.length:=by omega
  rcases jY r (j-1) with hlt|hge
  ·have g4:C out[r] out[j-1]≤0:=(List.pairwise_iff_getElem.1 h) r (j-1) hr2 hm hlt
   exact tr _ _ _ (hO _ (wv hr2)) (hO _ (wv hm)) hx g4 (by omega)
  ·have:r=j-1:=by omega
   subst this;omega
 refine yl.2 ⟨h3,lj.2 ⟨hgt,h4⟩,fun a ha b hb=>?_⟩
 rcases d8.1 hb with rfl|hb
 ·exact hlt a ha
 ·exact h5 a ha b hb
theorem wU {G:α→Prop}(anti: ∀x y,G x→G y→C y x= -C x y) (tr: ∀x y z,G x→G y→G z→C x y≤0→C y z≤0→C x z≤0): ∀(L:List α) {O:List α},(∀y∈L,G y)→(∀y∈O,G y)→(O.Pairwise fun a b=>C a b≤0)→
 (L.foldl (Dg e C) O).Pairwise fun a b=>C a b≤0
 |[],O,_,_,h=>h
 |x::L,O,hL,hO,h=>by
  rw[vk]
  refine wU anti tr L (fun y hy=>hL y (jd _ hy)) (fun y hy=>?_) (PJ anti tr (hL x io) hO h)
  rcases d8.1 ((Es O x).mem_iff.1 hy) with rfl|hy
  ·exact hL y io
  ·exact hO y hy
variable {enc:α→List CellD}{m:Nat}
theorem jX (h: ∀x,(enc x).length=m) {O:List α}(hj:j<O.length):((aW enc O++rs).drop (j*m)).take m=enc (O.getD j e):=by
 have hl:=a7 h O
 have h2:(j+1)*m≤O.length*m:=rI _ hj
 rw[tY] at h2
 rw[GU (by omega),wD h (kV (d:=e) hj),wx,←h (O.getD j e)]
 grind
theorem xc (h: ∀x,(enc x).length=m) {O:List α}(hj:j<O.length) (x:α):(aW enc O++rs).take (j*m)++enc x++(aW enc O++rs).drop (j*m+m)=aW enc (O.set j x)++rs:=by
 have hl:=a7 h O
 have h2:(j+1)*m≤(aW enc O).length:=by rw[hl];exact rI _ hj
 have h1:j*m≤(aW enc O).length:=by grind
 rw[show j*m+m=(j+1)*m from by rw[tY,Nat.one_mul],CJ h1,GU h2,Ff h,EW h,List.set_eq_take_append_cons_drop,if_pos hj,ii]
 show _=aW enc (O.take j)++(enc x++aW enc (O.drop (j+1)))++rs
 grind
end
def Cv.fwd (c:Cv):Cv:=if decide (cP c.p c.q>0) then c.rev else c
def zh:Cv→List Pt
 | .seg _ _ _=>[]
 | .arc k w f t=>(if (Cv.arc k w f t).inner (mi k) then[mi k] else[])++(if (Cv.arc k w f t).inner (lX k) then[lX k] else[])
def Rb (c:Cv):List Cv:=if c.isArc then nh c (zh c) else[c]
theorem HM (h:CvV c):CvV c.fwd:=by unfold Cv.fwd;split;exact h.rev;exact h
theorem In (h:decide (cP c.p c.q>0)=true):c.fwd=c.rev:=by unfold Cv.fwd;rw[h];rfl
theorem Jw (h:decide (cP c.p c.q>0)=false):c.fwd=c:=by unfold Cv.fwd;rw[h];rfl
theorem vo (h:CvV c): ∀p∈zh c,GP p∧c.on p=true:=by
 intro p hp
 cases c with
 |seg l f t=>cases hp
 |arc k w f t=>
  have hin: ∀ {x:Pt},(Cv.arc k w f t).inner x=true→(Cv.arc k w f t).on x=true:=fun h=>by unfold Cv.inner at h;rw[di] at h;exact h.1
  rcases pj.1 hp with hp|hp
  ·split at hp
   ·rename_i e;cases nC.1 hp;exact⟨r7 h.g.1 h.pos,hin e⟩
   grind
  ·split at hp
   ·rename_i e;cases nC.1 hp;exact⟨rR h.g.1 h.pos,hin e⟩
   grind
theorem Vw {f t:Pt}(h1:(Cv.arc k w f t).inner (mi k)=false) (h2:(Cv.arc k w f t).inner (lX k)=false):zh (.arc k w f t)=[]:=by
 show(if _ then[mi k] else[])++(if _ then[lX k] else[])=_;rw[h1,h2];rfl
theorem Y9 (h:CvV c): ∀d∈Rb c,CvV d:=by
 intro d hd
 unfold Rb at hd
 split at hd
 ·exact T9 h (fun p hp=>(vo h p hp).1) (fun p hp=>F5 (vo h p hp).2) d hd
 grind
def bL:Cv→Pt→Pt→Int
 | .seg _ _ _,_,_=>0
 | .arc k w f t,p,q=>if w then-yC k t p q else yC k f p q
def uj (c:Cv) (S:List Pt):List Cv:=kH c (c.p::(S++[c.q]))
def Xg:List CellD:=N4++N4++N4++N4++N4
theorem zI (c:Cv) (S:List Pt):(uj c S).length=S.length+1:=by
 unfold uj;rw[tJ,A9,d6];simp
theorem yK (c:Cv): ∀(l:List Pt) (a x:Pt),kH c (a::(l++[x]))=kH c (a::l)++[c.ends ((a::l).getD l.length dPt) x]
 |[],a,x=>rfl
 |b::l,a,x=>by
  show c.ends a b::kH c (b::(l++[x]))=c.ends a b::kH c (b::l)++_
  rw[yK c l b x];rfl
def Zu (x:Value):List Value→Value
 |[]=>x
 |xs=>.tuple (x::xs).toArray
def P7 (t n c:Nat):List D0→DV
 |[]=>.o t n c
 |ds=>.tn t n c ds
structure OkN (P:Program) (f:FuncId) (ds:List D0) (U:TypeId) (n m:Nat) (us:List CellD) (rs:List D0):Prop where
 cal:fT P f=true
 run: ∀(V:Nat→Prop) (vs:Array Value) (w:World),(∀x,V x→x<w.heap.size)→RdL V w vs.toList ds→Calls P f vs w fun e w'=> ∃(b c:Nat) (bs:Array Value) (rest:List CellD) (xs:List Value),
  e=.returned (Zu (.slice (some ⟨b,0,none⟩) n c) xs)∧Below w.heap.size w w'∧w.heap.size≤b∧b<w'.heap.size∧n≤c∧c≤maxLen∧rest.length=(c-n)*m∧w'.heap[b]? =some (.cells bs U (0,0))∧RdCs (fun x=>V x∨x=b) w' bs.toList (us++rest)∧RdL (fun x=>V x∨x=b) w' xs rs
structure OkT (P:Program) (f:FuncId) (U:TypeId) (n c n1:Nat) (cs0 cs1:List CellD) (ds:List D0):Prop where
 cal:fT P f=true
 run: ∀(V:Nat→Prop) (b:Nat) (bs vs:Array Value) (vl:List Value) (w:World),vs.toList=.slice (some ⟨b,0,none⟩) n c::vl→(∀x,V x→x<w.heap.size)→V b→w.heap[b]? =some (.cells bs U (0,0))→RdCs V w bs.toList cs0→RdL V w vl ds→
  Calls P f vs w fun e w'=> ∃bs':Array Value,e=.returned (.slice (some ⟨b,0,none⟩) n1 c)∧w'.heap[b]? =some (.cells bs' U (0,0))∧Mid b w w'∧RdCs V w' bs'.toList cs1
section
variable {P:Program}
theorem MR {a:Act}(h:a.tmps[t]? =some v):a.tmps.getD t undef=v:=by simp_all
theorem OkN.of {rs:List D0}(hcal:fT P f=true) (hf:P.funcs[f]? =some fn) (hb:fn.body=some cd) (hlen:Nat.ble ds.length fn.ntmps=true)
 (h:Dw P cd ⟨fn.ntmps,mU 0 ds,[]⟩ fun e σ=>(e=.normal∨e=.ret)∧ ∃(t k c:Nat) (rv:List ResultVar) (rest:List CellD),fn.results.toList=.tmp t::rv∧aQ t σ.tm=some (.o k n c)∧aQ k σ.bx=some (U,us++rest)∧n≤c∧c≤maxLen∧rest.length=(c-n)*m∧qP P σ rv=some rs):OkN P f ds U n m us rs:=by
 refine⟨hcal,fun V vs w hV hds=>calls_of_wp hf hb ?_⟩
 refine uO ?_ (h V ⟨w,fun _=>False,fn.ntmps⟩ (fun _=>0) _ w (acS (gj hlen) hV hds))
 rintro e a' w' ⟨σ',β',hn,⟨he,t,k,c,rv,rest,hrv,ht,hk,hc1,hc2,hrl,hres⟩,hr⟩
 obtain⟨xs,hrun,hxs⟩:=Cu hr _ _ hres
 obtain⟨v,ev,hv⟩:=hr.sees.tmp t _ trivial ht
 subst hv
 obtain⟨hvk,bs,ebl,hrd⟩:=hr.sees.box k _ _ hk
 have hBk:σ'.B k≠none:=by rw[show σ'.B k=_ from hk];simp
 have hk2:Keep (fun b=>V b∨ ∃k,σ'.B k≠none∧β' k=b) (fun x=>V x∨x=β' k) w' w':=⟨Nat.le_refl _,fun _ _ _=>rfl,fun x _ hx=>hx.imp id fun e=>⟨k,hBk,e.symm⟩⟩
 have hall:(fn.results.toList.mapM (rN a')).run P w'=.ok (.slice (some ⟨β' k,0,none⟩) n c::xs) w':=by
  rw[hrv,List.mapM_cons]
  have e1:(rN a' (.tmp t)).run P w'=.ok (.slice (some ⟨β' k,0,none⟩) n c) w':=by show(pure (a'.tmps.getD t undef):Go.Sem Value).run P w'=_;rw[MR ev];rfl
  simp only[eM,e1,fi,hrun,gK]
 have hresults:(results fn a'.tmps).run P w'=.ok (Zu (.slice (some ⟨β' k,0,none⟩) n c) xs) w':=by
  rw[vw hall]
  cases xs with
  |nil=>rfl
  |cons x xs=>exact congrArg (fun q=>Result.ok q w') (dif_neg (by simp))
 have hown:w.heap.size≤β' k:=(hr.own k hBk).resolve_right (fun h=>h)
 rcases he with rfl|rfl
 ·exact⟨hr.dfr,_,hresults,β' k,c,bs,rest,xs,rfl,hr.bel.to (fun _ h=>h),hown,hr.sees.av _ (.inr ⟨k,hBk,rfl⟩),hc1,hc2,hrl,ebl,hrd.keep hk2,hxs.keep hk2⟩
 ·exact⟨hr.dfr,_,hresults,β' k,c,bs,rest,xs,rfl,hr.bel.to (fun _ h=>h),hown,hr.sees.av _ (.inr ⟨k,hBk,rfl⟩),hc1,hc2,hrl,ebl,hrd.keep hk2,hxs.keep hk2⟩
theorem OkT.of {K:Nat}(hcal:fT P f=true) (hf:P.funcs[f]? =some fn) (hb:fn.body=some cd) (hlen:Nat.ble (ds.length+1) fn.ntmps=true) (hK:Nat.ble fn.ntmps K=true)
 (h:Dw P cd ⟨fn.ntmps,(0,.o K n m)::mU 1 ds,[(K,U,cs0)]⟩ fun e σ=>(e=.normal∨e=.ret)∧aQ K σ.bx=some (U,cs1)∧ ∃t,fn.results.toList=[.tmp t]∧aQ t σ.tm=some (.o K n1 m)):OkT P f U n m n1 cs0 cs1 ds:=by
 refine⟨hcal,fun V b bs vs vl w hvs hV hVb hbl hcs hds=>calls_of_wp hf hb ?_⟩
 refine uO ?_ (h _ _ (fun _=>b) _ w (Xu (gj hlen) (gj hK) hvs hV hVb hbl hcs hds))
 rintro e a' w' ⟨σ',β',hn,⟨he,hbx,t,hrv,ht⟩,hr⟩
 obtain⟨hfix,bs',ebl,hm,hrd⟩:=Wv hr hbx
 obtain⟨v,ev,hv⟩:=hr.sees.tmp t _ trivial ht
 have hv:v=.slice (some ⟨β' K,0,none⟩) n1 m:=hv
 rw[hfix] at hv
 subst hv
 have hall:(fn.results.toList.mapM (rN a')).run P w'=.ok [.slice (some ⟨b,0,none⟩) n1 m] w':=by
  rw[hrv,List.mapM_cons]
  have e1:(rN a' (.tmp t)).run P w'=.ok (.slice (some ⟨b,0,none⟩) n1 m) w':=by show(pure (a'.tmps.getD t undef):Go.Sem Value).run P w'=_;rw[MR ev];rfl
  simp only[eM,e1,fi,List.mapM_nil,gK]
 have hresults:(results fn a'.tmps).run P w'=.ok (.slice (some ⟨b,0,none⟩) n1 m) w':=vw hall
 rcases he with rfl|rfl
 ·exact⟨hr.dfr,_,hresults,bs',rfl,ebl,hm,hrd⟩
 ·exact⟨hr.dfr,_,hresults,bs',rfl,ebl,hm,hrd⟩
variable {ops os:Array Oper}{N:Nat}{tm:List (Nat×DV)}{bx:List (Nat×TypeId×List CellD)}
theorem KE {rs:List D0}
 (hf:cO (fun s=>aQ s tm) fo=some (.v (.c (.f f)))) (ha:qK (fun s=>aQ s tm) args.toList=some ds) (hok:OkN P f ds U n m us rs) (hd:aQ t bx=none) (hg:gd ops ⟨some t,.call ⟨.value fo,args,at_⟩,ty,pos,af,g⟩ (fun s=>aQ s tm)=some true):
 H9 P ops ⟨some t,.call ⟨.value fo,args,at_⟩,ty,pos,af,g⟩ ⟨N,tm,bx⟩ (fun σ'=> ∃c rest,n≤c∧c≤maxLen∧rest.length=(c-n)*m∧σ'=⟨N,(t,P7 t n c rs)::tm,(t,U,us++rest)::bx⟩):=by
 intro av w0 β a w hrel htn
 have hs:=Sees.of hrel.sees (L:=iY ops ⟨some t,.call ⟨.value fo,args,at_⟩,ty,pos,af,g⟩) (fun _ _=>trivial) (fun _ _ _ h=>h) (fun _ _ h=>h)
 refine⟨eL hs hg,?_⟩
 have h1:=RdC.func_eq (aC hs (x:=fo) (by simp[Op.operands,Call.operands]) hf)
 have h2:=jr hs args.toList ds (fun x hx=>by have hx2:=Array.mem_toList_iff.1 hx;simp[Op.operands,Call.operands,hx2]) ha
 have hc:=hok.cal
 unfold fT at hc
 cases hfn:P.funcs[f]? with
 |none=>rw[hfn] at hc;cases hc
 |some fn=>
  rw[hfn] at hc
  simp only[di,bne_iff_ne,ne_eq,qg] at hc
  have hrun:(execOp a.eval ⟨some t,.call ⟨.value fo,args,at_⟩,ty,pos,af,g⟩).run P w=.ok (.enter f (args.map a.eval)) w:=by
   have hb2:fn.body≠none:=by have:=hc.2;cases hbb:fn.body with
    |none=>rw[hbb] at this;cases this
    |some c=>simp
   simp[execOp,resolve,h1,Deferred.ofValue,invoke,callFunc,program,Sem.run,hfn,hc.1,hb2]
  unfold Gives
  rw[hrun]
  refine(hok.run _ (args.map a.eval) w hs.av (by simpa using h2)).mono ?_
  rintro e w' ⟨b,c,bs,rest,xs,rfl,hw,hb1,hb2,hc1,hc2,hrl,hcl,hrd,hxs⟩
  refine⟨_,rfl,⟨N,(t,P7 t n c rs)::tm,(t,U,us++rest)::bx⟩,fun k=>if k=t then b else β k,⟨c,rest,hc1,hc2,hrl,rfl⟩,rfl,?_⟩
  have hx:RdX (fun y=>(av y∨ ∃k,aQ k bx≠none∧β k=y)∨y=b) w' (fun k=>if k=t then b else β k) (Zu (.slice (some ⟨b,0,none⟩) n c) xs) (P7 t n c rs):=by
   cases rs with
   |nil=>
    cases xs with
    |nil=>show _=Value.slice (some ⟨if t=t then b else β t,0,none⟩) n c;rw[if_pos rfl];rfl
    |cons x xs=>exact absurd hxs.1 (by simp)
   |cons r rs=>
    cases xs with
    |nil=>exact absurd hxs.1 (by simp)
    |cons x xs=>exact⟨x::xs,by show _=Value.tuple (Value.slice (some ⟨if t=t then b else β t,0,none⟩) n c::x::xs).toArray;rw[if_pos rfl];rfl,hxs⟩
  have:=hrel.fresh (d:=t) (htn t rfl) hd hw hb1 hb2 hcl hrd hx (by intro k hk;cases rs<;>(injection hk with hk;exact hk.symm))
  refine this.congr (fun s=>?_) (fun l=>?_)
  ·show aQ s ((t,P7 t n c rs)::tm)=(if some t=some s then _ else aQ s tm)
   rw[b7]
   grind
  ·show aQ l ((t,U,us++rest)::bx)=(if some t=some l then _ else aQ l bx)
   rw[b7]
   grind
theorem J4 {k c:Nat}
 (hf:cO (fun s=>aQ s tm) fo=some (.v (.c (.f f)))) (hargs:args.toList=x::xs) (hx:cO (fun s=>aQ s tm) x=some (.o k n c)) (ha:qK (fun s=>aQ s tm) xs=some ds) (hb:aQ k bx=some (U,cs0)) (hok:OkT P f U n c n1 cs0 cs1 ds)
 (hg:gd ops ⟨some t,.call ⟨.value fo,args,at_⟩,ty,pos,af,g⟩ (fun s=>aQ s tm)=some true):
 H9 P ops ⟨some t,.call ⟨.value fo,args,at_⟩,ty,pos,af,g⟩ ⟨N,tm,bx⟩ (fun σ'=>σ'=⟨N,(t,.o k n1 c)::tm,(k,U,cs1)::bx⟩):=by
 intro av w0 β a w hrel htn
 have hs:=Sees.of hrel.sees (L:=iY ops ⟨some t,.call ⟨.value fo,args,at_⟩,ty,pos,af,g⟩) (fun _ _=>trivial) (fun _ _ _ h=>h) (fun _ _ h=>h)
 refine⟨eL hs hg,?_⟩
 have hin: ∀y∈x::xs,y∈(⟨some t,.call ⟨.value fo,args,at_⟩,ty,pos,af,g⟩:Oper).op.operands:=fun y hy=>by
  have hx2:y∈args:=by grind
  simp[Op.operands,Call.operands,hx2]
 have h1:=RdC.func_eq (aC hs (x:=fo) (by simp[Op.operands,Call.operands]) hf)
 have h2:=jr hs xs ds (fun y hy=>hin y (jd _ hy)) ha
 have h3:a.eval x=.slice (some ⟨β k,0,none⟩) n c:=aC hs (hin x (io ..)) hx
 obtain⟨hV,bs,e,hr⟩:=hs.box k U cs0 hb
 have hc:=hok.cal
 unfold fT at hc
 cases hfn:P.funcs[f]? with
 |none=>rw[hfn] at hc;cases hc
 |some fn=>
  rw[hfn] at hc
  simp only[di,bne_iff_ne,ne_eq,qg] at hc
  have hrun:(execOp a.eval ⟨some t,.call ⟨.value fo,args,at_⟩,ty,pos,af,g⟩).run P w=.ok (.enter f (args.map a.eval)) w:=by
   have hb2:fn.body≠none:=by have:=hc.2;cases hbb:fn.body with
    |none=>rw[hbb] at this;cases this
    |some c=>simp
   simp[execOp,resolve,h1,Deferred.ofValue,invoke,callFunc,program,Sem.run,hfn,hc.1,hb2]
  unfold Gives
  rw[hrun]
  refine(hok.run _ (β k) bs (args.map a.eval) (xs.map a.eval) w (by rw[yH,hargs,ru,h3]) hs.av hV e hr h2).mono ?_
  rintro e w' ⟨bs',rfl,hbl,hm,hr1⟩
  refine⟨_,rfl,⟨N,(t,.o k n1 c)::tm,(k,U,cs1)::bx⟩,β,rfl,rfl,?_⟩
  have hsv:=hrel.sval (k:=k) (d:=some t) (x:=.n) (v:=undef) hb hbl hm htn rfl hr1 trivial
  have hval:=hsv.value (d:=some t) (x:=.o k n1 c) (v:=.slice (some ⟨β k,0,none⟩) n1 c) htn (fJ _ _) rfl (by intro l hl;injection hl with hl;subst hl;rw[if_pos rfl];simp)
  rw[BQ] at hval
  refine hval.congr (fun s=>?_) (fun l=>?_)
  ·show aQ s ((t,DV.o k n1 c)::tm)=(if some t=some s then _ else if some t=some s then _ else aQ s tm)
   rw[b7]
   grind
  ·show aQ l ((k,U,cs1)::bx)=(if k=l then _ else aQ l bx)
   rw[b7]
variable {os:List Oper}{K:St→Prop}
theorem Ao {rs:List D0}
 (hf:cO (fun s=>aQ s tm) fo=some (.v (.c (.f f)))) (ha:qK (fun s=>aQ s tm) args.toList=some ds) (hok:OkN P f ds U n m us rs) (hd:aQ t bx=none) (hg:gd ops ⟨some t,.call ⟨.value fo,args,at_⟩,ty,pos,af,g⟩ (fun s=>aQ s tm)=some true)
 (hk: ∀c rest,n≤c→c≤maxLen→rest.length=(c-n)*m→dl P ops os ⟨N,(t,P7 t n c rs)::tm,(t,U,us++rest)::bx⟩ K):
 dl P ops (⟨some t,.call ⟨.value fo,args,at_⟩,ty,pos,af,g⟩::os) ⟨N,tm,bx⟩ K:=
 .inr ⟨_,KE hf ha hok hd hg,fun σ' ⟨c,rest,h1,h2,h3,e⟩=>by subst e;exact hk c rest h1 h2 h3⟩
theorem Ht {k c:Nat}
 (hf:cO (fun s=>aQ s tm) fo=some (.v (.c (.f f)))) (hargs:args.toList=x::xs) (hx:cO (fun s=>aQ s tm) x=some (.o k n c)) (ha:qK (fun s=>aQ s tm) xs=some ds) (hb:aQ k bx=some (U,cs0)) (hok:OkT P f U n c n1 cs0 cs1 ds)
 (hg:gd ops ⟨some t,.call ⟨.value fo,args,at_⟩,ty,pos,af,g⟩ (fun s=>aQ s tm)=some true) (hk:dl P ops os ⟨N,(t,.o k n1 c)::tm,(k,U,cs1)::bx⟩ K):
 dl P ops (⟨some t,.call ⟨.value fo,args,at_⟩,ty,pos,af,g⟩::os) ⟨N,tm,bx⟩ K:=
 .inr ⟨_,J4 hf hargs hx ha hb hok hg,fun σ' e=>by subst e;exact hk⟩
variable {T:TF}{B:BF}
theorem CF {k c:Nat}
 (hx:cO T x=some (.tn k n c ds)) (hg:gd ops ⟨dst,.extract x 0,ty,pos,af,g⟩ T=some true):Sem P ops ⟨dst,.extract x 0,ty,pos,af,g⟩ T B (.r (.o k n c)):=
 bI hg (fun l hl=>oi (by simp[Op.operands]) hx (by injection hl with hl;subst hl;rfl)) (fun V β a w hs=>by
  obtain⟨xs,hp,_⟩:=aC hs (x:=x) (by simp[Op.operands]) hx
  refine⟨_,?_,rfl⟩
  simp only[execOp,hp,Instr.extract,eM,gK]
  simp)
theorem CU {k c:Nat}{d:D0}
 (hx:cO T x=some (.tn k n c ds)) (hd:ds[i]? =some d) (hg:gd ops ⟨dst,.extract x (i+1),ty,pos,af,g⟩ T=some true):Sem P ops ⟨dst,.extract x (i+1),ty,pos,af,g⟩ T B (.r (.v d)):=
 bI hg (pF rfl) (fun V β a w hs=>by
  obtain⟨xs,hp,hr⟩:=aC hs (x:=x) (by simp[Op.operands]) hx
  have hlt:i<ds.length:=(j9.1 hd).1
  have hv:xs[i]? =some (xs[i]'(by rw[hr.1];exact hlt)):=gE _
  refine⟨_,?_,hr.2 i _ d hv hd⟩
  have h2:(Value.slice (some ⟨β k,0,none⟩) n c::xs).toArray[i+1]? =some (xs[i]'(by rw[hr.1];exact hlt)):=by simp
  simp only[execOp,hp,Instr.extract,h2,eM,gK,fi])
theorem NJ {k c:Nat}
 (hf:cO T fo=some (.v (.c (.f f)))) (hargs:args.toList=x::xs) (hx:cO T x=some (.o k n c)) (ha:qK T xs=some ds) (hb:B k=some (U,cs)) (hus:cs.take (n*m)=us) (hl:n*m≤cs.length) (hnc:n≤c) (hc:c≤maxLen) (hok:Ok P f (.c (.s n us)::ds) [.c (.i .i64 r)])
 (hg:gd ops ⟨dst,.call ⟨.value fo,args,at_⟩,ty,pos,af,g⟩ T=some true):Sem P ops ⟨dst,.call ⟨.value fo,args,at_⟩,ty,pos,af,g⟩ T B (.r (.v (.c (.i .i64 r)))):=by
 refine⟨pF rfl,fun V β a w hs=>⟨eL hs hg,?_⟩⟩
 have hin: ∀y∈x::xs,y∈(⟨dst,.call ⟨.value fo,args,at_⟩,ty,pos,af,g⟩:Oper).op.operands:=fun y hy=>by
  have hx2:y∈args:=by grind
  simp[Op.operands,Call.operands,hx2]
 have h1:=RdC.func_eq (aC hs (x:=fo) (by simp[Op.operands,Call.operands]) hf)
 have h2:=jr hs xs ds (fun y hy=>hin y (jd _ hy)) ha
 have h3:a.eval x=.slice (some ⟨β k,0,none⟩) n c:=aC hs (hin x (io ..)) hx
 have hmax:maxLen=9223372036854775807:=rfl
 have h4:=VO (q:=n) (c:=c) (m:=m) (off:=0) (ys:=us) hs hb (by rw[wC];exact hus) (fun _=>by omega) hnc (by omega)
 have hkeep:Keep V (fun x=>V x∧x≠β k) w w:=⟨Nat.le_refl _,fun _ _ _=>rfl,fun _ _ h=>h.1⟩
 have hcl:=hok.cal
 unfold fT at hcl
 cases hfn:P.funcs[f]? with
 |none=>rw[hfn] at hcl;cases hcl
 |some fn=>
  rw[hfn] at hcl
  simp only[di,bne_iff_ne,ne_eq,qg] at hcl
  have hrun:(execOp a.eval ⟨dst,.call ⟨.value fo,args,at_⟩,ty,pos,af,g⟩).run P w=.ok (.enter f (args.map a.eval)) w:=by
   have hb2:fn.body≠none:=by have:=hcl.2;cases hbb:fn.body with
    |none=>rw[hbb] at this;cases this
    |some c=>simp
   simp[execOp,resolve,h1,Deferred.ofValue,invoke,callFunc,program,Sem.run,hfn,hcl.1,hb2]
  unfold Gives
  rw[hrun]
  refine(hok.run (fun x=>V x∧x≠β k) (args.map a.eval) w (fun b hb=>hs.av b hb.1) (by rw[yH,hargs,ru,h3];exact tw h4 (h2.keep hkeep))).mono ?_
  rintro e w' ⟨v,rfl,hr,hb⟩
  refine⟨v,rfl,?_,hb⟩
  rw[hr.int_eq]
  exact .i _ _
theorem abS (hzl:zs.length=m) (hzr: ∀(V:Nat→Prop) (w:World),RdCs V w z.cells.toList zs) (r:Nat) (V:Nat→Prop) (w:World):RdCs V w (Builtin.zeroCells z.cells r).toList (List.replicate r zs).flatten:=by
 have hzs:z.cells.size=m:=by have:=(hzr (fun _=>False) default).1;rw[hzl] at this;simpa using this
 have key:RdCs V w ((List.range (r*m)).map (fun j=>z.cells[j%z.cells.size]!)) (List.replicate r zs).flatten:=by
  induction r with
  |zero=>simp;exact ro
  |succ r ih=>
   rw[Nat.succ_mul,List.range_add,rV,List.replicate_succ',List.flatten_append]
   refine o8 ih ?_
   have e2:(List.map (fun x=>r*m+x) (List.range m)).map (fun j=>z.cells[j%z.cells.size]!)=z.cells.toList:=by
    apply yN (by simp[hzs])
    intro j h1 h2
    simp at h1
    simp only[List.getElem_map,List.getElem_range,hzs]
    rw[Nat.mul_comm r,Nat.mul_add_mod,sN (by omega),getElem!_pos z.cells j (by omega)]
    simp
   grind
 unfold Builtin.zeroCells
 simpa [hzs] using key
theorem E5 {y:Operand}{k off c by_:Nat}
 (hU:xF P U=some (e,m,by_,zs)) (hy:cO T y=some (.w k off n c)) (hb:B k=some (e,cs)) (hoff:off+n*m≤cs.length) (hz:cs.take off++(List.replicate n zs).flatten++cs.drop (off+n*m)=cs')
 (hg:gd ops ⟨none,.call ⟨.builtin .clear,#[y],#[U]⟩,ty,pos,af,g⟩ T=some true):Sem P ops ⟨none,.call ⟨.builtin .clear,#[y],#[U]⟩,ty,pos,af,g⟩ T B (.s k e cs'):=by
 refine⟨rfl,⟨cs,hb⟩,fun V β a w hs=>⟨eL hs hg,?_⟩⟩
 have e1:a.eval y=.slice (some ⟨β k,off,none⟩) n c:=aC hs (x:=y) (by simp[Op.operands,Call.operands]) hy
 obtain⟨hu,i,z,hi,hzi,hsz,hby,hzl,hzr⟩:=jB hU
 obtain⟨hV,vs,ev,hr⟩:=hs.box k e cs hb
 have hexec: ∀ {w':World},(Builtin.clear_ #[U] ty #[a.eval y]).run P w=.ok (.tuple #[]) w'→(execOp a.eval ⟨none,.call ⟨.builtin .clear,#[y],#[U]⟩,ty,pos,af,g⟩).run P w=.ok (.value (.tuple #[])) w':=fun{w'} h=>by
  simp only[execOp,resolve,invoke,builtin,eM,gK,fi,uw,ru,uk]
  rw[h]
  rfl
 unfold Gives
 rcases li n with h0|h0
 ·subst h0
  rw[hexec (w':=w) (by rw[e1];simp[Builtin.clear_,run_underlying hu])]
  refine⟨vs,?_,rfl,rfl,rfl,?_⟩
  ·grind
  ·simp_all
 ·have hrow:=abS hzl hzr n V w
  have hzlen:(Builtin.zeroCells z.cells n).toList.length=n*m:=by rw[hrow.1,List.length_flatten,List.map_replicate,List.sum_replicate_nat,hzl]
  have hvl:vs.size=cs.length:=by have:=hr.1;simpa using this
  have hst:=run_storeCells_at P (β k) off e (Builtin.zeroCells z.cells n).toList 0 vs w ev (by omega) (S1 hrow)
  rw[hexec (w':=w.setRow (β k) (vs.toList.take off++(Builtin.zeroCells z.cells n).toList++vs.toList.drop (off+(Builtin.zeroCells z.cells n).toList.length)).toArray) (by
   rw[e1]
   simp[Builtin.clear_,run_underlying hu,Nat.ne_of_gt h0,zeroValue,typeInfo,hi,hzi]
   rw[hst]
   simp)]
  refine⟨_,o6 ev,rfl,rfl,rfl,?_⟩
  rw[←hz,hzlen]
  exact((hr.take off).append hrow).append (hr.drop (off+n*m))
theorem HS 
 (hU:xU P U=some m) (hx:cO (fun s=>aQ s tm) x=some (.v (.c (.s n us)))) (hg:gd ops ⟨some t,.binOp .eql U x (.const (.slice none 0 0)) U2,ty,pos,af,g⟩ (fun s=>aQ s tm)=some true)
 (hk: ∀b:Bool,(0<n→b=false)→dl P ops os ⟨N,(t,.v (.c (.b b)))::tm,bx⟩ K):dl P ops (⟨some t,.binOp .eql U x (.const (.slice none 0 0)) U2,ty,pos,af,g⟩::os) ⟨N,tm,bx⟩ K:=by
 refine .inr ⟨fun σ'=> ∃b:Bool,(0<n→b=false)∧σ'=⟨N,(t,.v (.c (.b b)))::tm,bx⟩,?_,fun σ' ⟨b,h,e⟩=>by subst e;exact hk b h⟩
 intro av w0 β a w hrel htn
 have hs:=Sees.of hrel.sees (L:=iY ops ⟨some t,.binOp .eql U x (.const (.slice none 0 0)) U2,ty,pos,af,g⟩) (fun _ _=>trivial) (fun _ _ _ h=>h) (fun _ _ h=>h)
 refine⟨eL hs hg,?_⟩
 have h1:=aC hs (x:=x) (by simp[Op.operands]) hx
 have h2: ∃A c,a.eval x=.slice A n c∧(0<n→A.isNone=false):=by
  generalize a.eval x=v at h1
  cases h1 with
  |s0 A c _=>exact⟨A,c,rfl,fun h=>absurd h (Nat.lt_irrefl 0)⟩
  |s b off c _ _ _ _=>exact⟨_,c,rfl,fun _=>rfl⟩
 obtain⟨A,c,e,hA⟩:=h2
 have hu: ∃el,P.underlying U=some (.slice el):=by
  unfold xU at hU
  grind
 obtain⟨el,hu⟩:=hu
 have heq:(Op.equal U (.slice A n c) (.slice none 0 0)).run P w=.ok A.isNone w:=by
  unfold Op.equal Op.maxDepth
  rw[show(10000:Nat)=9999+1 from rfl,Op.equalIn]
  simp only[eM,run_underlying hu,fi]
  cases A<;>rfl
 have hrun:(execOp a.eval ⟨some t,.binOp .eql U x (.const (.slice none 0 0)) U2,ty,pos,af,g⟩).run P w=.ok (.value (.bool A.isNone)) w:=by
  have e2:a.eval (.const (.slice none 0 0))=.slice none 0 0:=rfl
  have h3:(eqGuard .eql U x (.const (.slice none 0 0)) (.slice A n c) (.slice none 0 0)).run P w=.ok () w:=rfl
  have h4:binOp .eql U (.slice A n c) (.slice none 0 0)=(do pure (.bool (←Op.equal U (.slice A n c) (.slice none 0 0)))):=rfl
  simp only[execOp,e,e2,eM,h3,fi,h4,heq,gK]
 unfold Gives
 rw[hrun]
 refine⟨⟨N,(t,.v (.c (.b A.isNone)))::tm,bx⟩,β,⟨_,hA,rfl⟩,rfl,?_⟩
 have hval:=hrel.value (d:=some t) (x:=.v (.c (.b A.isNone))) (v:=.bool A.isNone) htn (fJ _ _) (.b _) (by intro l hl;cases hl)
 refine hval.congr (fun s=>?_) (fun _=>rfl)
 show aQ s ((t,DV.v (.c (.b A.isNone)))::tm)=(if some t=some s then _ else aQ s tm)
 rw[b7]
 grind
theorem ub {f:Nat}
 (hU:PD P U f=some o') (hx:cO T x=some (.v (.c (.p cs)))) (hu:cs.drop o'=us) (hg:gd ops ⟨dst,.fieldAddr U x f,ty,pos,af,g⟩ T=some true):
 Sem P ops ⟨dst,.fieldAddr U x f,ty,pos,af,g⟩ T B (.r (.q us)):=
 bI hg (pF rfl) (fun V β a w hs=>by
  obtain⟨b,off,vs,hp,hb,hv,hr,hc⟩:=RdC.ptr_eq (aC hs (by simp[Op.operands]) hx)
  obtain⟨fs,fd,h1,h2,h3,h4⟩:=GS hU
  refine⟨.pointer (some ⟨b,off+o',none⟩),?_,b,off+o',vs.drop o',rfl,hb,hv,by rw[←hu];exact hr.drop o',fun j u hj=>?_⟩
  ·simp only[execOp,Instr.fieldAt,hp,Instr.sureAddr,eM,gK,fi,run_underlying h1,h2,h4,kw]
  ·rw[List.getElem?_drop] at hj
   rw[Nat.add_assoc];exact hc (o'+j) u hj)
end
theorem abm {P:Program}{tm:List (Nat×DV)}{bx:List (Nat×TypeId×List CellD)}{c:Code}{Q:Exit→St→Prop}(ht:aQ t tm=some (.f n us)) (h:Dw P c ⟨N,(t,.v (.c (.s n us)))::tm,bx⟩ Q):Dw P c ⟨N,tm,bx⟩ Q:=fun av w0 β a w hr=>by
 obtain⟨v,hv,hx⟩:=hr.sees.tmp t _ trivial ht
 have h2:=hr.upd (t:=t) (x:=.v (.c (.s n us))) hv hx.2 rfl
 refine h av w0 β a w (h2.congr (fun s=>?_) (fun _=>rfl))
 show aQ s ((t,.v (.c (.s n us)))::tm)=_
 rw[b7];rfl
def Jj (a d b:Fin 4) (n1 n2 n3:Int):Int:=wt (BK (uK d) (uK a) n1) (BK (uK b) (uK a) n2) (BK (uK d) (uK b) n3)
def exF (q a b:Fin 4) (s:Int) (m:Int):Bool:=decide (Jj a q b (if a=q then 0 else s) m (if b=q then 0 else s)≤0)&&(a !=q&&b !=q)
set_option maxRecDepth 100000 in
theorem Iu: ∀(a b:Fin 4) (m:Fin 3),pd b a (i3 m)=true→(a==b&&i3 m==0)=false→exF 2 a b (-1) (i3 m)=false→exF 0 a b 1 (i3 m)=false→
 ((a=2∨a=3)∧(b=3∨b=0)∧i3 m=1)∨((a=0∨a=1)∧(b=1∨b=2)∧i3 m= -1):=by decide+kernel
set_option maxRecDepth 100000 in
theorem Vi: ∀(a b d:Fin 4) (i l:Fin 3),(a=2∨a=3)→(b=3∨b=0)→pd d a (i3 i)=true→pd d b (i3 l)=true→Fj (i3 i) 1 (i3 l)=true→
 (Jj a d b (i3 i) 1 (i3 l)≤0↔d≠1∧0≤i3 i∧i3 l≤0):=by decide+kernel
set_option maxRecDepth 100000 in
theorem Uh: ∀(a b d:Fin 4) (i l:Fin 3),(a=0∨a=1)→(b=1∨b=2)→pd d a (i3 i)=true→pd d b (i3 l)=true→Fj (i3 i) (-1) (i3 l)=true→
 (Jj a d b (i3 i) (-1) (i3 l)≤0↔d≠3∧i3 i≤0∧0≤i3 l):=by decide+kernel
theorem rg (k:Ci) (s p e:Pt):yC k s p e=Jj (kd k s) (kd k p) (kd k e) (cx p s) (cx e s) (cx p e):=by
 unfold yC oR Jj
 rw[fW,fW,fW]
theorem xw {a c:Rat}:bD a 0 c=aX a 0:=by
 unfold bD sB
 rw[pP,oG,if_pos (.inl rfl)]
theorem Ou {b c:Rat}(hc:0<c):bD 0 b c=aX b 0:=by
 have h1:aX c 0=1:=by unfold aX;rw[if_neg (by grind),if_pos hc]
 unfold bD sB
 rw[pP,h1,sv]
 grind
theorem Xz (s:Rat) (h0:0<k.q):s8 (gg k.x s k.y 0 k.q) k.y=0∧lu (gg k.x s k.y 0 k.q) k.x=aX (if kg k.q then s*rt k.q else s) 0:=by
 cases hq:kg k.q with
 |true=>
  have e:gg k.x s k.y 0 k.q=rP (k.x+s*rt k.q) (k.y+0*rt k.q):=by unfold gg;rw[hq];rfl
  rw[e,if_pos rfl]
  refine⟨?_,?_⟩
  ·show bD (k.y+0*rt k.q-k.y) 0 _=0
   rw[xw,show k.y+0*rt k.q-k.y=0 from by grind,pP]
  ·show bD (k.x+s*rt k.q-k.x) 0 _=_
   rw[xw,show k.x+s*rt k.q-k.x=s*rt k.q from by grind]
 |false=>
  have e:gg k.x s k.y 0 k.q=⟨k.x,s,k.y,0,k.q⟩:=by unfold gg;rw[hq];rfl
  rw[e,if_neg (by decide)]
  refine⟨?_,?_⟩
  ·show bD (k.y-k.y) 0 _=0
   rw[xw,show k.y-k.y=0 from by grind,pP]
  ·show bD (k.x-k.x) s (zc s k.q)=_
   rw[show k.x-k.x=0 from by grind]
   by_cases hs:s=0
   ·rw[hs,xw]
   ·rw[yU hs,Ou h0]
theorem AH (c:Rat):0≤rt c:=by
 have n1:=fg c.num
 have n2:=fg (c.den:Int)
 exact Rat.divInt_nonneg n1 n2
theorem ZB (h:cx p q≠0):cP p q=cx p q:=if_pos h
theorem K7 {q:Rat}(h0:0<q) (hs:kg q=true):0<rt q:=by
 have h1:=AH q
 have h2:=aaR h0 hs
 grind
theorem S9 (h0:0<k.q):s8 (mi k) k.y=0∧lu (mi k) k.x<0:=by
 obtain⟨a,b⟩:=Xz (k:=k) (-1) h0
 refine⟨a,?_⟩
 show lu (gg k.x (-1) k.y 0 k.q) k.x<0
 rw[b]
 cases hq:kg k.q with
 |true=>have:=K7 h0 hq;rw[if_pos rfl];unfold aX;rw[if_pos (by grind)];decide
 |false=>rw[if_neg (by decide)];decide+kernel
theorem PW (h0:0<k.q):s8 (lX k) k.y=0∧0<lu (lX k) k.x:=by
 obtain⟨a,b⟩:=Xz (k:=k) 1 h0
 refine⟨a,?_⟩
 show 0<lu (gg k.x 1 k.y 0 k.q) k.x
 rw[b]
 cases hq:kg k.q with
 |true=>have:=K7 h0 hq;rw[if_pos rfl];unfold aX;rw[if_neg (by grind),if_pos (by grind)];decide
 |false=>rw[if_neg (by decide)];decide+kernel
section
variable {k:Ci}(hk:GK k) (h0:0<k.q)
include hk h0
theorem qb:OnK k (mi k):=⟨r7 hk h0,GG hk h0⟩
theorem oX:OnK k (lX k):=⟨rR hk h0,Fu hk h0⟩
omit hk in
theorem yq:kd k (mi k)=2:=by
 obtain⟨a,b⟩:=S9 h0
 unfold kd;rw[if_neg (by omega),if_pos a,if_neg (by omega)]
omit hk in
theorem vM:kd k (lX k)=0:=by
 obtain⟨a,b⟩:=PW h0
 unfold kd;rw[if_neg (by omega),if_pos a,if_pos (by omega)]
theorem rL (hp:OnK k p):cx (mi k) p=if kd k p=2 then 0 else-1:=by
 have h:=gJ h0 (qb hk h0) hp
 rw[yq h0] at h
 unfold pd at h
 grind
theorem uH (hp:OnK k p):cx (lX k) p=if kd k p=0 then 0 else 1:=by
 have h:=gJ h0 (oX hk h0) hp
 rw[vM h0] at h
 unfold pd at h
 grind
omit hk in
theorem Mb {f t x:Pt}(of:OnK k f) (ot:OnK k t) (ox:OnK k x) (q:Fin 4) (hq: ∀y,OnK k y→cP y x=0→kd k y=q) (hi:(Cv.arc k w f t).inner x=false):
 (decide (yC k (if w then t else f) x (if w then f else t)≤0)&&(kd k f !=q&&kd k t !=q))=false:=by
 have hon:(Cv.arc k w f t).on x=decide (yC k (if w then t else f) x (if w then f else t)≤0):=by
  rw[zg (bK.2 ox.2)]
  cases w with
  |true=>exact Df h0 of ot ox
  |false=>exact AO of.1 ot.1 ox.1
 unfold Cv.inner at hi
 rw[hon] at hi
 cases h:decide (yC k (if w then t else f) x (if w then f else t)≤0) with
 |false=>rfl
 |true=>
  rw[h,iA] at hi
  rw[iA]
  rcases Bool.and_eq_false_iff.1 hi with g|g
  ·have:cP f x=0:=by simpa [Cv.p] using g
   rw[hq f of this,bne_self_eq_false,q7]
  ·have:cP t x=0:=by simpa [Cv.q] using g
   rw[hq t ot this,bne_self_eq_false,mX]
theorem Vj (oy:OnK k y) (h:cP y (mi k)=0):kd k y=2:=by
 have h1:=rL hk h0 oy
 have h2:=(eH.1 h).1
 have h3:=dd (cg (r7 hk h0)) (aU oy)
 grind
theorem Vn (oy:OnK k y) (h:cP y (lX k)=0):kd k y=0:=by
 have h1:=uH hk h0 oy
 have h2:=(eH.1 h).1
 have h3:=dd (cg (rR hk h0)) (aU oy)
 grind
omit hk in
theorem Fv (op:OnK k p) (oq:OnK k q) (hd:kd k p=kd k q) (hx:cx p q=0):cP p q=0:=by
 refine eH.2 ⟨hx,?_⟩
 have cp:=aU op
 have cq:=aU oq
 rw[nT cp cq] at hx
 rw[rW cp cq]
 have hp:=ww op
 have hq:=ww oq
 have hY:aB ((pY p-Re.of k.y)-(pY q-Re.of k.y))=aB (pY p-pY q):=congrArg aB (aM fun n=>by simp only[aj];grind)
 rw[←hY]
 have sp:=Bv cp k.y
 have sq:=Bv cq k.y
 generalize hP:pY p-Re.of k.y=P at*
 generalize hQ:pY q-Re.of k.y=Q at*
 have e:(P-Q)*(P+Q)=(xA k p-xA k q)+ -((pX p-pX q)*((pX p-Re.of k.x)+(pX q-Re.of k.x))):=by
  rw[←hP,←hQ]
  exact aM fun n=>by unfold xA;simp only[aD,aj,aE,aK,aV];grind
 have h1:aB ((P-Q)*(P+Q))=0:=by
  rw[e,dH _ (by rw[bG,aY,hx,oG];rfl),show xA k p-xA k q=xA k p+ -xA k q from aM fun n=>by simp only[aD,aj,aV]<;>grind,dH _ (by rw[bG,hq];rfl),hp]
 rw[aY] at h1
 rcases pV.1 h1 with g|g
 ·exact g
 ·have hs:aB P=aB Q:=by
   rw[←sp,←sq]
   rcases yX h0 op with⟨a,b,_⟩|⟨a,b⟩|⟨a,b,_⟩|⟨a,b⟩<;>rcases yX h0 oq with⟨a',b',_⟩|⟨a',b'⟩|⟨a',b',_⟩|⟨a',b'⟩<;>rw[a,a'] at hd<;>first|exact absurd hd (by decide)|skip
   all_goals have b1:=gY (p.a2-k.y) p.b2 (zc p.b2 p.c);have b2:=gY (q.a2-k.y) q.b2 (zc q.b2 q.c);unfold s8 at b b'⊢;omega
  have e2:aB P= -aB Q:=by
   rw[show P=(P+Q)+ -Q from aM fun n=>by simp only[aD,aV]<;>grind,nm g,bG]
  have e3:aB P=0:=by omega
  have e4:aB Q=0:=by omega
  rw[show P-Q=P+ -Q from aM fun n=>by simp only[aD,aj,aV]<;>grind,dH _ (by rw[bG,e4];rfl),e3]
theorem wO {f t:Pt}(of:OnK k f) (ot:OnK k t) (hm:(Cv.arc k w f t).mono=true):
 if w then(kd k t=0∨kd k t=1)∧(kd k f=1∨kd k f=2)∧cx f t= -1 else(kd k f=2∨kd k f=3)∧(kd k t=3∨kd k t=0)∧cx t f=1:=by
 have hm:(!decide (cP f t≥0)&&(!(Cv.arc k w f t).inner (mi k)&& !(Cv.arc k w f t).inner (lX k)))=true:=hm
 have hlt:cP f t<0:=by grind
 have hL:(Cv.arc k w f t).inner (mi k)=false:=by grind
 have hR:(Cv.arc k w f t).inner (lX k)=false:=by grind
 have iL:=Mb h0 of ot (qb hk h0) 2 (fun y oy h=>Vj hk h0 oy h) hL
 have iR:=Mb h0 of ot (oX hk h0) 0 (fun y oy h=>Vn hk h0 oy h) hR
 have ha:=dd (aU of) (aU ot)
 have hx:cx f t≤0:=by
  by_cases h:cx f t≤0
  ·exact h
  ·have:cP f t=cx f t:=ZB (by omega)
   omega
 cases w with
 |false=>
  simp only[Bool.false_eq_true,if_false] at iL iR⊢
  rw[rg,yq h0,rL hk h0 of,rL hk h0 ot] at iL
  rw[rg,vM h0,uH hk h0 of,uH hk h0 ot] at iR
  obtain⟨m,em⟩:=fp (fh t f)
  rw[em] at iL iR
  have hc:=gJ h0 ot of
  rw[em] at hc
  have hn:(kd k f==kd k t&&i3 m==0)=false:=by
   rw[←em]
   cases h:(kd k f==kd k t&&cx t f==0) with
   |false=>rfl
   |true=>
    rw[di] at h
    have:=Fv h0 of ot (beq_iff_eq.1 h.1) (by have:=beq_iff_eq.1 h.2;omega)
    omega
  rcases Iu (kd k f) (kd k t) m hc hn iL iR with⟨p,q,r⟩|⟨p,q,r⟩
  ·grind
  grind
 |true=>
  simp only[if_true] at iL iR⊢
  rw[rg,yq h0,rL hk h0 of,rL hk h0 ot] at iL
  rw[rg,vM h0,uH hk h0 of,uH hk h0 ot] at iR
  obtain⟨m,em⟩:=fp (fh f t)
  rw[em] at iL iR
  have hc:=gJ h0 of ot
  rw[em] at hc
  have hn:(kd k t==kd k f&&i3 m==0)=false:=by
   rw[←em]
   cases h:(kd k t==kd k f&&cx f t==0) with
   |false=>rfl
   |true=>
    rw[di] at h
    have:=Fv h0 of ot (beq_iff_eq.1 h.1).symm (by have:=beq_iff_eq.1 h.2;omega)
    omega
  rw[Bool.and_comm (kd k f !=2)] at iL
  rw[Bool.and_comm (kd k f !=0)] at iR
  rcases Iu (kd k t) (kd k f) m hc hn iL iR with⟨p,q,r⟩|⟨p,q,r⟩
  ·omega
  grind
end
def Be (uf up uq:Bool) (n1 n2 m:Int):Int:=Fw (DS up uf n1) (DS uq uf n2) (DS up uq m)
def Nk (a b c:Int):Bool:=(!(decide (a≤0)&&decide (b≤0))||decide (c≤0))&&(!(decide (a<0)&&decide (b≤0))||decide (c<0))&&(!(decide (a≤0)&&decide (b<0))||decide (c<0))
set_option maxRecDepth 1000000 in
theorem Zf: ∀(uf up uq ur:Bool) (i j l:Fin 3) (a:Fin 3),Fj (i3 i) (i3 j) (i3 a)=true→ ∀b:Fin 3,Fj (i3 j) (i3 l) (i3 b)=true→ ∀c:Fin 3,Fj (i3 i) (i3 l) (i3 c)=true→
 Fj (i3 a) (-(i3 b)) (i3 c)=true→Nk (Be uf up uq (i3 i) (i3 j) (i3 a)) (Be uf uq ur (i3 j) (i3 l) (i3 b)) (Be uf up ur (i3 i) (i3 l) (i3 c))=true:=by decide+kernel
theorem SX: ∀(uf up uq:Bool) (i j a:Fin 3),Fj (i3 i) (i3 j) (i3 a)=true→Be uf uq up (i3 j) (i3 i) (-(i3 a))= -Be uf up uq (i3 i) (i3 j) (i3 a):=by decide+kernel
set_option maxRecDepth 1000000 in
theorem UJ: ∀(uf up uq ux:Bool) (i j l:Fin 3) (a:Fin 3),Fj (i3 l) (i3 i) (i3 a)=true→ ∀b:Fin 3,Fj (i3 j) (i3 i) (i3 b)=true→ ∀c:Fin 3,Fj (i3 l) (i3 j) (i3 c)=true→
 Fj (i3 a) (i3 b) (i3 c)=true→Be uf up uq (i3 i) (i3 j) (-(i3 b))<0→Be up up ux 0 (i3 a) (-(i3 a))≤0→Be up ux uq (i3 a) (i3 b) (i3 c)≤0→(ux==up&&i3 a==0)=false→(ux==uq&&i3 c==0)=false→
 Be uf up ux (i3 i) (i3 l) (-(i3 a))<0∧Be uf ux uq (i3 l) (i3 j) (i3 c)<0:=by decide+kernel
theorem iM (k:Ci) (f p q:Pt):xI k f p q=Be (qp k f) (qp k p) (qp k q) (cx p f) (cx q f) (cx p q):=rfl
section
variable {k:Ci}{f p q r x:Pt}(hf:0≤f.c) (hp:0≤p.c) (hq:0≤q.c)
include hf hp hq
theorem Pf:xI k f q p= -xI k f p q:=by
 rw[iM,iM,dd hp hq]
 have h:=jx hf hp hq
 obtain⟨i,hi⟩:=fp (fh p f)
 obtain⟨j,hj⟩:=fp (fh q f)
 obtain⟨a,ha⟩:=fp (fh p q)
 rw[hi,hj,ha] at h⊢
 exact SX _ _ _ i j a h
variable (hr:0≤r.c)
include hr
theorem YN:Nk (xI k f p q) (xI k f q r) (xI k f p r)=true:=by
 rw[iM,iM,iM]
 have h1:=jx hf hp hq
 have h2:=jx hf hq hr
 have h3:=jx hf hp hr
 have h4:=jx hq hp hr
 rw[dd hq hr] at h4
 obtain⟨i,hi⟩:=fp (fh p f)
 obtain⟨j,hj⟩:=fp (fh q f)
 obtain⟨l,hl⟩:=fp (fh r f)
 obtain⟨a,ha⟩:=fp (fh p q)
 obtain⟨b,hb⟩:=fp (fh q r)
 obtain⟨c,hc⟩:=fp (fh p r)
 rw[hi,hj,ha] at h1
 rw[hj,hl,hb] at h2
 rw[hi,hl,hc] at h3
 rw[ha,hb,hc] at h4
 rw[hi,hj,hl,ha,hb,hc]
 exact Zf _ _ _ _ i j l a h1 b h2 c h3 h4
end
theorem T5: ∀(uf ux:Bool) (a:Fin 3),Be uf uf ux 0 (i3 a) (-(i3 a))≤0:=by decide+kernel
theorem VI {f x:Pt}(hf:0≤f.c) (hx:0≤x.c):xI k f f x≤0:=by
 rw[iM,BV hf,dd hx hf]
 obtain⟨a,ha⟩:=fp (fh x f)
 rw[ha]
 exact T5 _ _ a
theorem Rt: ∀(uf up uq:Bool) (i j a:Fin 3),Fj (i3 i) (i3 j) (i3 a)=true→Be uf up uq (i3 i) (i3 j) (i3 a)=0→(up==uq&&i3 a==0)=true:=by decide+kernel
theorem yR (h0:0<k.q) (op:OnK k p) (oq:OnK k q) (h:(qp k p==qp k q&&cx p q==0)=true):cP p q=0:=by
 rw[di] at h
 have hu:=beq_iff_eq.1 h.1
 have hx:=beq_iff_eq.1 h.2
 refine Fv h0 op oq ?_ hx
 have hc:=gJ h0 op oq
 rw[fW,fW] at hu
 rw[hx] at hc
 revert hu hc
 generalize kd k p=a
 generalize kd k q=b
 revert a b
 decide
theorem RQ {f:Pt}(h0:0<k.q) (hf:0≤f.c) (op:OnK k p) (oq:OnK k q) (h:xI k f p q=0):cP p q=0:=by
 have h1:=jx hf (aU op) (aU oq)
 rw[iM] at h
 obtain⟨i,hi⟩:=fp (fh p f)
 obtain⟨j,hj⟩:=fp (fh q f)
 obtain⟨a,ha⟩:=fp (fh p q)
 rw[hi,hj,ha] at h1 h
 exact yR h0 op oq (by rw[ha];exact Rt _ _ _ i j a h1 h)
theorem LZ {f x:Pt}(h0:0<k.q) (of:OnK k f) (op:OnK k p) (oq:OnK k q) (ox:OnK k x) (h1:xI k f p q<0) (h2:xI k p p x≤0) (h3:xI k p x q≤0) (n1:cP x p≠0) (n2:cP x q≠0):
 xI k f p x<0∧xI k f x q<0:=by
 have cf:=aU of
 have cp:=aU op
 have cq:=aU oq
 have cx':=aU ox
 have t1:=jx cf cx' cp
 have t2:=jx cf cq cp
 have t3:=jx cf cx' cq
 have t4:=jx cp cx' cq
 have e1:(qp k x==qp k p&&cx x p==0)=false:=by
  cases h:(qp k x==qp k p&&cx x p==0) with
  |false=>rfl
  |true=>exact absurd (yR h0 ox op h) n1
 have e2:(qp k x==qp k q&&cx x q==0)=false:=by
  cases h:(qp k x==qp k q&&cx x q==0) with
  |false=>rfl
  |true=>exact absurd (yR h0 ox oq h) n2
 rw[iM,dd cq cp] at h1
 rw[iM,BV cp,dd cx' cp] at h2
 rw[iM] at h3
 rw[iM,iM,dd cx' cp]
 obtain⟨i,hi⟩:=fp (fh p f)
 obtain⟨j,hj⟩:=fp (fh q f)
 obtain⟨l,hl⟩:=fp (fh x f)
 obtain⟨a,ha⟩:=fp (fh x p)
 obtain⟨b,hb⟩:=fp (fh q p)
 obtain⟨c,hc⟩:=fp (fh x q)
 rw[hl,hi,ha] at t1
 rw[hj,hi,hb] at t2
 rw[hl,hj,hc] at t3
 rw[ha,hb,hc] at t4
 rw[hi,hj,hb] at h1
 rw[ha] at h2 e1
 rw[ha,hb,hc] at h3
 rw[hc] at e2
 rw[hi,hj,hl,ha,hc]
 exact UJ _ _ _ _ i j l a t1 b t2 c t3 t4 h1 h2 h3 e1 e2
def Ci.by (k:Ci) (w:Bool):Ci:=if w then k.mir else k
def Pt.by (p:Pt) (w:Bool):Pt:=if w then p.flip else p
theorem OnK.by (w:Bool) (h:OnK k p):OnK (k.by w) (p.by w):=by
 cases w with
 |true=>exact h.flip
 |false=>exact h
theorem YF (w:Bool) (h:0<k.q):0<(k.by w).q:=by cases w<;>exact h
theorem HK (w:Bool) (hp:0≤p.c) (hq:0≤q.c):cP (p.by w) (q.by w)=0↔cP p q=0:=by
 cases w with
 |false=>exact Iff.rfl
 |true=>
  show cP p.flip q.flip=0↔_
  rw[eH,eH,m7 hp hq]
  exact⟨fun h=>⟨by omega,h.2⟩,fun h=>⟨by omega,h.2⟩⟩
theorem nO (k:Ci) (w:Bool) (f t p q:Pt):(Cv.arc k w f t).ord p q=xI (k.by w) (f.by w) (p.by w) (q.by w):=by cases w<;>rfl
section
variable {k:Ci}{w:Bool}{f t:Pt}(h0:0<k.q) (of:OnK k f)
include of
variable {p q r:Pt}(op:OnK k p) (oq:OnK k q)
include op oq
theorem j7:(Cv.arc k w f t).ord q p= -(Cv.arc k w f t).ord p q:=by
 rw[nO,nO]
 exact Pf (aU (of.by w)) (aU (op.by w)) (aU (oq.by w))
theorem uG (or_:OnK k r):Nk ((Cv.arc k w f t).ord p q) ((Cv.arc k w f t).ord q r) ((Cv.arc k w f t).ord p r)=true:=by
 rw[nO,nO,nO]
 exact YN (aU (of.by w)) (aU (op.by w)) (aU (oq.by w)) (aU (or_.by w))
include h0
theorem vY (h:(Cv.arc k w f t).ord p q=0):cP p q=0:=by
 rw[nO] at h
 exact(HK w (aU op) (aU oq)).1 (RQ (YF w h0) (aU (of.by w)) (op.by w) (oq.by w) h)
end
theorem y5 {f t:Pt}(of:OnK k f) (op:OnK k p):(Cv.arc k w f t).ord f p≤0:=by
 rw[nO];exact VI (aU (of.by w)) (aU (op.by w))
theorem EF {c:Int}(h:Nk a b c=true) (h1:a<0) (h2:b≤0):c<0:=by
 unfold Nk at h
 grind
theorem ID {c:Int}(h:Nk a b c=true) (h1:a≤0) (h2:b≤0):c≤0:=by
 unfold Nk at h
 grind
theorem Dl {c:Int}(h:Nk a b c=true) (h1:a≤0) (h2:b<0):c<0:=by
 unfold Nk at h
 grind
section
variable {k:Ci}{w:Bool}{f t:Pt}(h0:0<k.q) (of:OnK k f)
include h0 of
theorem HC {x:Pt}(ox:OnK k x): ∀ {S:List Pt},(∀y∈S,OnK k y)→S.Pairwise (fun p q=>(Cv.arc k w f t).ord p q<0)→(mO (.arc k w f t) S x).Pairwise (fun p q=>(Cv.arc k w f t).ord p q<0)
 |[],_,_=>by rw[C4];exact CT _ _
 |o::l,hS,hp=>by
  have oo:=hS o (by simp)
  have hl: ∀y∈l,OnK k y:=fun y hy=>hS y (by simp[hy])
  obtain⟨h1,h2⟩:=lj.1 hp
  by_cases h:(Cv.arc k w f t).ord o x<0
  ·rw[Ad h]
   refine lj.2 ⟨fun y hy=>?_,HC ox hl h2⟩
   rcases sU hy with g|g
   ·exact h1 y g
   ·rw[g];exact h
  ·rw[zY h]
   split
   ·exact hp
   ·rename_i hn
    have ha:=j7 (w:=w) (t:=t) of oo ox
    have hz:(Cv.arc k w f t).ord o x≠0:=fun e=>hn (vY h0 of oo ox e)
    refine lj.2 ⟨fun y hy=>?_,hp⟩
    rcases d8.1 hy with g|g
    ·rw[g];omega
    ·exact EF (uG of ox oo (hl y g)) (by omega) (qw (h1 y g))
omit h0 of in
theorem CP {c:Cv}{x:Pt}(hx:0≤x.c): ∀ {S:List Pt},(∀y∈S,y∈mO c S x)∧ ∃y∈mO c S x,cP y x=0
 |[]=>by rw[C4];exact⟨fun y hy=>(by cases hy),x,by simp,mh hx⟩
 |o::l=>by
  by_cases h:c.ord o x<0
  ·rw[Ad h]
   obtain⟨h1,y,h2,h3⟩:=CP (c:=c) hx (S:=l)
   refine⟨fun z hz=>?_,y,jd _ h2,h3⟩
   rcases d8.1 hz with g|g
   ·rw[g];simp
   ·exact jd _ (h1 z g)
  ·rw[zY h]
   split
   ·rename_i e;exact⟨fun z hz=>hz,o,by simp,e⟩
   ·exact⟨fun z hz=>jd _ hz,x,by simp,mh hx⟩
theorem HP: ∀(L:List Pt) {S:List Pt},(∀y∈L,OnK k y)→(∀y∈S,OnK k y)→S.Pairwise (fun p q=>(Cv.arc k w f t).ord p q<0)→
 (L.foldl (mO (.arc k w f t)) S).Pairwise (fun p q=>(Cv.arc k w f t).ord p q<0)∧(∀y∈S,y∈L.foldl (mO (.arc k w f t)) S)∧ ∀y∈L,∃z∈L.foldl (mO (.arc k w f t)) S,cP z y=0
 |[],S,_,_,hp=>⟨hp,fun y hy=>hy,fun y hy=>by cases hy⟩
 |x::L,S,hL,hS,hp=>by
  have ox:=hL x (by simp)
  have hS2: ∀y∈mO (.arc k w f t) S x,OnK k y:=fun y hy=>(sU hy).elim (hS y) (fun e=>e▸ox)
  obtain⟨h1,h2,h3⟩:=HP L (S:=mO (.arc k w f t) S x) (fun y hy=>hL y (by simp[hy])) hS2 (HC h0 of ox hS hp)
  obtain⟨g1,y,g2,g3⟩:=CP (c:=.arc k w f t) (x:=x) (aU ox) (S:=S)
  rw[vk]
  refine⟨h1,fun z hz=>h2 z (g1 z hz),fun z hz=>?_⟩
  rcases d8.1 hz with e|e
  ·rw[e];exact⟨y,h2 y g2,g3⟩
  ·exact h3 z e
theorem AV {L:List Pt}(hL: ∀y∈L,OnK k y):(qR (.arc k w f t) L).Pairwise (fun p q=>(Cv.arc k w f t).ord p q<0)∧ ∀y∈L,∃z∈qR (.arc k w f t) L,cP z y=0:=by
 obtain⟨h1,_,h3⟩:=HP (w:=w) (t:=t) h0 of L (S:=[]) hL (fun y hy=>by cases hy) .nil
 exact⟨h1,h3⟩
end
theorem wF {c:Cv}: ∀ {S:List Pt}{d:Cv},d∈kH c S→ ∃A p q B,S=A++p::q::B∧d=c.ends p q
 |[],d,h=>by cases h
 |[x],d,h=>by cases h
 |x::y::l,d,h=>by
  have h:d∈c.ends x y::kH c (y::l):=h
  rcases d8.1 h with h|h
  ·exact⟨[],x,y,l,rfl,h⟩
  ·obtain⟨A,p,q,B,e,hd⟩:=wF h
   exact⟨x::A,p,q,B,by rw[e];rfl,hd⟩
theorem A7 {x:Pt}(h0:0<k.q) (op:OnK k p) (oq:OnK k q) (ox:OnK k x):(Cv.arc k (!w) q p).inner x=(Cv.arc k w p q).inner x:=by
 have e:(Cv.arc k (!w) q p).on x=(Cv.arc k w p q).on x:=by
  rw[zg (bK.2 ox.2),zg (bK.2 ox.2)]
  cases w with
  |true=>
   have h1:=AO (k:=k) oq.1 op.1 ox.1
   have h2:=Df h0 op oq ox
   exact h1.trans h2.symm
  |false=>
   have h1:=Df h0 oq op ox
   have h2:=AO (k:=k) op.1 oq.1 ox.1
   exact h1.trans h2.symm
 show((Cv.arc k (!w) q p).on x&&(!(cP q x==0)&& !(cP p x==0)))=((Cv.arc k w p q).on x&&(!(cP p x==0)&& !(cP q x==0)))
 grind
theorem Ny (vc:CvV c): ∀d∈Rb c,d.fwd.mono=true:=by
 intro d hd
 have vd:=Y9 vc d hd
 cases c with
 |seg l f t=>
  have hd:d∈ [Cv.seg l f t]:=hd
  cases nC.1 hd
  have hn:cP f t≠0:=vc.ne
  have ha:=fS (cg vc.g.2.1) (cg vc.g.2.2)
  unfold Cv.fwd
  split
  ·rename_i e
   have e:cP f t>0:=of_decide_eq_true e
   show(!decide (cP t f≥0))=true
   rw[decide_eq_false (by omega)];rfl
  ·rename_i e
   have e: ¬cP f t>0:=fun g=>e (decide_eq_true g)
   show(!decide (cP f t≥0))=true
   rw[decide_eq_false (by omega)];rfl
 |arc k w f t=>
  have h0:0<k.q:=vc.pos
  have hk:=vc.g.1
  have of:OnK k f:=⟨vc.g.2.1,bK.1 vc.sp⟩
  have ot:OnK k t:=⟨vc.g.2.2,bK.1 vc.sq⟩
  have hd:d∈kH (.arc k w f t) (qR (.arc k w f t) ([f,t]++zh (.arc k w f t))):=by
   unfold Rb at hd;rw[if_pos (show(Cv.arc k w f t).isArc=true from rfl)] at hd;exact hd
  have hL: ∀y∈ [f,t]++zh (.arc k w f t),OnK k y:=fun y hy=>by
   rcases pj.1 hy with h|h
   ·simp only[d8,rO,or_false] at h
    rcases h with h|h<;>rw[h]<;>assumption
   ·exact⟨(vo vc y h).1,bK.1 (F5 (vo vc y h).2)⟩
  have hT: ∀y∈ [f,t]++zh (.arc k w f t),(Cv.arc k w f t).ord y t≤0:=fun y hy=>by
   rcases pj.1 hy with h|h
   ·simp only[d8,rO,or_false] at h
    rcases h with h|h
    ·rw[h];exact y5 of ot
    ·rw[h];have:=j7 (w:=w) (t:=t) of ot ot;omega
   ·have:=(vo vc y h).2
    unfold Cv.on at this
    rw[di] at this
    exact of_decide_eq_true this.2
  obtain⟨hs,hin⟩:=AV (w:=w) (t:=t) h0 of hL
  obtain⟨A,p,q,B,eS,rfl⟩:=wF hd
  have hmem: ∀y∈A++p::q::B,y∈ [f,t]++zh (.arc k w f t):=fun y hy=>nS (by rw[eS];exact hy)
  have op:OnK k p:=hL p (hmem p (by simp))
  have oq:OnK k q:=hL q (hmem q (by simp))
  rw[eS] at hs hin
  obtain⟨hA,hpq,hAB⟩:=yl.1 hs
  obtain⟨hp1,hq1⟩:=lj.1 hpq
  have hlt:(Cv.arc k w f t).ord p q<0:=hp1 q (by simp)
  have hne:cP p q≠0:=sF vc.g op.1 oq.1 hlt
  have ha:=fS (aU op) (aU oq)
  have key: ∀x,OnK k x→(x=mi k∨x=lX k)→(Cv.arc k w p q).inner x=false:=fun x ox hx=>by
   cases hi:(Cv.arc k w p q).inner x with
   |false=>rfl
   |true=>
    exfalso
    unfold Cv.inner at hi
    rw[di,di] at hi
    obtain⟨i1,i2,i3⟩:=hi
    have n1:cP p x≠0:=by simpa [Cv.p] using i2
    have n2:cP q x≠0:=by simpa [Cv.q] using i3
    unfold Cv.on at i1
    rw[di,di] at i1
    have b1:(Cv.arc k w p q).ord p x≤0:=of_decide_eq_true i1.1.2
    have b2:(Cv.arc k w p q).ord x q≤0:=of_decide_eq_true i1.2
    rw[nO] at b1 b2
    have hl2:=hlt
    rw[nO] at hl2
    have a1:=fS (aU op) (aU ox)
    have a2:=fS (aU oq) (aU ox)
    obtain⟨r1,r2⟩:=LZ (YF w h0) (of.by w) (op.by w) (oq.by w) (ox.by w) hl2 b1 b2 (fun e=>n1 (by have:=(HK w (aU ox) (aU op)).1 e;omega)) (fun e=>n2 (by have:=(HK w (aU ox) (aU oq)).1 e;omega))
    rw[←nO (t:=t)] at r1 r2
    have xt:(Cv.arc k w f t).ord x t<0:=EF (uG of ox oq ot) r2 (hT q (hmem q (by simp)))
    have fx:(Cv.arc k w f t).ord f x<0:=Dl (uG of of op ox) (y5 of op) r1
    have hin2:(Cv.arc k w f t).inner x=true:=by
     unfold Cv.inner
     rw[zg (bK.2 ox.2)]
     show(decide ((Cv.arc k w f t).ord f x≤0)&&decide ((Cv.arc k w f t).ord x t≤0)&&(!(cP f x==0)&& !(cP t x==0)))=true
     have m1:cP f x≠0:=sF vc.g of.1 ox.1 fx
     have m2:cP x t≠0:=sF vc.g ox.1 ot.1 xt
     have m3:=fS (aU ox) (aU ot)
     rw[decide_eq_true (qw fx),decide_eq_true (qw xt)]
     simp only[Bool.and_self,iA,di,qg,beq_eq_false_iff_ne,ne_eq]
     exact⟨m1,by omega⟩
    have hcut:x∈zh (.arc k w f t):=by
     show x∈(if _ then[mi k] else[])++(if _ then[lX k] else[])
     rcases hx with e|e
     ·rw[←e,hin2];simp
     ·refine pj.2 (.inr ?_)
      rw[←e,hin2];simp
    obtain⟨y,hy,ey⟩:=hin x (pj.2 (.inr hcut))
    have oy:OnK k y:=hL y (hmem y hy)
    have zy:(Cv.arc k w f t).ord y x=0:=vq (aU oy) (aU ox) ey vc.g
    have ay:=j7 (w:=w) (t:=t) of oy ox
    have apx:=j7 (w:=w) (t:=t) of op ox
    have aqx:=j7 (w:=w) (t:=t) of ox oq
    rcases pj.1 hy with g|g
    ·have l1:(Cv.arc k w f t).ord y p<0:=hAB y g p (by simp)
     have:=Dl (uG (w:=w) (t:=t) of ox oy op) (by omega) l1
     omega
    ·rcases d8.1 g with g|g
     ·have:=j7 (w:=w) (t:=t) of op op
      rw[g] at zy
      omega
     ·rcases d8.1 g with g|g
      ·rw[g] at zy
       omega
      ·have l1:(Cv.arc k w f t).ord q y<0:=(lj.1 hq1).1 y g
       have:=EF (uG (w:=w) (t:=t) of oq oy ox) l1 (by omega)
       omega
  have kL:=key _ (qb hk h0) (.inl rfl)
  have kR:=key _ (oX hk h0) (.inr rfl)
  unfold Cv.fwd
  split
  ·rename_i e
   have e:cP p q>0:=of_decide_eq_true e
   show(!decide (cP q p≥0)&&(!(Cv.arc k (!w) q p).inner (mi k)&& !(Cv.arc k (!w) q p).inner (lX k)))=true
   rw[A7 h0 op oq (qb hk h0),A7 h0 op oq (oX hk h0),kL,kR,decide_eq_false (by omega)];rfl
  ·rename_i e
   have e: ¬cP p q>0:=fun g=>e (decide_eq_true g)
   show(!decide (cP p q≥0)&&(!(Cv.arc k w p q).inner (mi k)&& !(Cv.arc k w p q).inner (lX k)))=true
   grind
theorem LE {f t:Pt}(vc:CvV (.arc k w f t)) (hm:(Cv.arc k w f t).mono=true) (op:OnK k p):
 (Cv.arc k w f t).on p=true↔kd k p≠(if w then 3 else 1)∧cx f p≤0∧cx p t≤0:=by
 have h0:0<k.q:=vc.pos
 have hk:=vc.g.1
 have of:OnK k f:=⟨vc.g.2.1,bK.1 vc.sp⟩
 have ot:OnK k t:=⟨vc.g.2.2,bK.1 vc.sq⟩
 have hh:=wO hk h0 of ot hm
 have af:=dd (aU of) (aU op)
 have cf:=gJ h0 op of
 have ct:=gJ h0 op ot
 rw[zg (bK.2 op.2)]
 show(decide ((Cv.arc k w f t).ord f p≤0)&&decide ((Cv.arc k w f t).ord p t≤0))=true↔_
 cases w with
 |false=>
  rw[AO of.1 ot.1 op.1,decide_eq_true_iff,rg]
  have h3:=jx (aU of) (aU op) (aU ot)
  obtain⟨a1,a2,a3⟩:=hh
  obtain⟨i,hi⟩:=fp (fh p f)
  obtain⟨l,hl⟩:=fp (fh p t)
  rw[a3] at h3⊢
  rw[hi] at h3 cf⊢
  rw[hl] at h3 ct⊢
  rw[Vi _ _ _ i l a1 a2 cf ct h3,if_neg (by decide)]
  constructor
  ·grind
  grind
 |true=>
  rw[Df h0 of ot op,decide_eq_true_iff,rg]
  have h3:=jx (aU ot) (aU op) (aU of)
  obtain⟨a1,a2,a3⟩:=hh
  obtain⟨i,hi⟩:=fp (fh p t)
  obtain⟨l,hl⟩:=fp (fh p f)
  rw[a3] at h3⊢
  rw[hi] at h3 ct⊢
  rw[hl] at h3 cf⊢
  rw[Uh _ _ _ i l a1 a2 ct cf h3,if_pos rfl]
  constructor
  ·grind
  grind
def T3 (a b c:Int):Prop:=(a≤0→b≤0→c≤0)∧(a<0→b≤0→c<0)∧(a≤0→b<0→c<0)
theorem XD (x y z:Re):T3 (aB (x-y)) (aB (y-z)) (aB (x-z)):=by
 have e:x-z=(x-y)+(y-z):=aM fun n=>by simp only[aD,aj]<;>grind
 rw[e]
 generalize x-y=X
 generalize y-z=Y
 have h1:=bg X
 have h2:=bg Y
 unfold T3
 by_cases a:aB X=0
 ·rw[nm a];omega
 ·by_cases b:aB Y=0
  ·rw[dH _ b];omega
  ·by_cases c:aB X=aB Y
   ·rw[jF c];omega
   grind
theorem B3 (x y:Rat):aX x y=aB (Re.of x-Re.of y):=by
 rw[←oE,←bQ]
 exact congrArg aB (aM fun n=>by simp only[aj,aK];grind)
section
variable {p q r:Pt}(hp:0≤p.c) (hq:0≤q.c) (hr:0≤r.c)
include hp hq hr
theorem PP:T3 (cP p q) (cP q r) (cP p r):=by
 have h1:T3 (cx p q) (cx q r) (cx p r):=by rw[nT hp hq,nT hq hr,nT hp hr];exact XD _ _ _
 have h2:T3 (cy p q) (cy q r) (cy p r):=by rw[rW hp hq,rW hq hr,rW hp hr];exact XD _ _ _
 have e: ∀(a b:Pt),cP a b=if cx a b≠0 then cx a b else cy a b:=fun _ _=>rfl
 unfold T3 at*
 grind
end
end Go.Proofs.YtegpmhlfjkhjmaaGreat
