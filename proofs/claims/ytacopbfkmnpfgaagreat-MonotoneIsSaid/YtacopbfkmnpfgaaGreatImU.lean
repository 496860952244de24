/-A run on known values:a region whose order is open. -/
import Derived.Test.YtacopbfkmnpfgaaGreatImT
import Derived.LoopN
namespace Go.Proofs.YtacopbfkmnpfgaaGreat
open Go Go.RowKit
abbrev PE:=Oper×Evt
def fT (l:List PE) (T:TX):TX:=l.foldl (fun T p=>wT p.1.dst p.2.x T) T
def fH (l:List PE) (H:HF):HF:=l.foldl (fun H p=>e8 H p.2.Hv p.2.Hv') H
section
variable {γ:Type}
def q8 (F:Nat→Option γ) (u:Nat→Option (Option γ)):Nat→Option γ:=fun t=>(u t).getD (F t)
theorem sJ: ∀(us:List (Nat→Option (Option γ))) (i:Nat) (F:Nat→Option γ),eX (fun j=>decide (j<i)) 0 us F=(us.take i).foldl q8 F
 |[],i,F=>by simp[eX]
 |u::us,0,F=>by
  rw[List.take_zero]
  exact funext fun t=>fp _ _ _ (fun j u _ hm=>by simp at hm)
 |u::us,i+1,F=>by
  rw[List.take_succ_cons,List.foldl_cons,←sJ us i]
  show eX (fun j=>decide (j<i+1)) (0+1) us (if decide (0<i+1)=true then(fun t=>(u t).getD (F t)) else F)=_
  rw[iL,if_pos (by simp)]
  congr 1
  funext j
  simp
theorem wx: ∀(us:List (Nat→Option (Option γ))) (F:Nat→Option γ),eX (fun _=>true) 0 us F=us.foldl q8 F
 |[],F=>rfl
 |u::us,F=>by
  rw[List.foldl_cons,←wx us]
  show eX (fun _=>true) (0+1) us (if true=true then(fun t=>(u t).getD (F t)) else F)=_
  rw[iL,if_pos rfl];rfl
end
section
variable {P:Program}{ops:Array Oper}{n m:Nat}{call:fb}
theorem vn {δ:Type}(f:Oper→Evt→δ): ∀(l:List PE),List.zipWith f (l.map Prod.fst) (l.map Prod.snd)=l.map fun p=>f p.1 p.2
 |[]=>rfl
 |p::l=>by simp[vn f l]
theorem QX (T:TX) (p:PE):q8 T (Iu p.1.dst p.2)=wT p.1.dst p.2.x T:=by
 funext t
 unfold q8 Iu wT
 split<;>rfl
theorem HB: ∀(l:List PE) (T:TX),(l.map fun p=>Iu p.1.dst p.2).foldl q8 T=fT l T
 |[],_=>rfl
 |p::l,T=>by
  rw[List.map_cons,List.foldl_cons,HB l,QX];rfl
theorem Rj {H:HF}{e:Evt}(h: ∀k c,e.Hv k=some c→H k=some c):q8 H (uH e)=e8 H e.Hv e.Hv':=by
 funext k
 unfold q8
 by_cases hch:e.Hv' k=e.Hv k
 ·rw[show uH e k=none from by unfold uH;rw[if_pos hch]]
  show H k=_
  unfold e8
  rw[hch]
  cases h2:e.Hv k with
  |none=>rfl
  |some c=>exact h k c h2
 ·rw[Nl hch]
  show e.Hv' k=_
  unfold e8
  cases h2:e.Hv' k with
  |some c=>rfl
  |none=>
   cases h3:e.Hv k with
   |some c=>rfl
   |none=>exact absurd (h2.trans h3.symm) hch
theorem Gc: ∀(l:List PE) (H:HF),(∀(j:Nat) (p:PE),l[j]? =some p→ ∀k c,p.2.Hv k=some c→fH (l.take j) H k=some c)→(l.map fun p=>uH p.2).foldl q8 H=fH l H
 |[],_,_=>rfl
 |p::l,H,h=>by
  have h0: ∀k c,p.2.Hv k=some c→H k=some c:=h 0 p rfl
  rw[List.map_cons,List.foldl_cons,Rj h0,Gc l _ (fun j q hq=>h (j+1) q (by simpa using hq))];rfl
def jJ (Hv Hv':HF):Lg→Prop
 | .p=>Hv=e0∧Hv'=e0
 | .r k=>(∀j,j≠k→Hv j=none)∧Hv'=Hv
 | .w k=> ∀j,j≠k→Hv j=none∧Hv' j=none
 | .nw k=>Hv=e0∧ ∀j,j≠k→Hv' j=none
 | .c K K'=>Hv=HS K∧Hv'=HS K'
theorem Foot.c {N N':Nat}{H H':Tr Bx}{Hv Hv':HF}{g:Lg}(h:Foot N N' H H' Hv Hv' g):jJ Hv Hv' g:=by
 cases g with
 |p=>exact⟨h.1,h.2.1⟩
 |r k=>exact⟨h.1,h.2.1⟩
 |w k=>exact h.1
 |nw k=>exact⟨h.2.2.1,h.2.2.2⟩
 |c K K'=>exact⟨h.1,h.2.1⟩
def Clear (Hv Hv' Hw Hw':HF):Prop:= ∀k,(Hv' k≠Hv k→Hw k=none∧Hw' k=none)∧(Hw' k≠Hw k→Hv k=none∧Hv' k=none)
theorem wg: ∀ {x y:AV},pW x y=true→x=y
 | .b _,y,h=>by cases y<;>simp[pW] at h;subst h;rfl
 | .i _ _,y,h=>by cases y<;>simp[pW] at h;obtain⟨h1,h2⟩:=h;subst h1 h2;rfl
 | .l _,y,h=>by cases y<;>simp[pW] at h;subst h;rfl
 | .p _ _,y,h=>by cases y<;>simp[pW] at h;obtain⟨h1,h2⟩:=h;subst h1 h2;rfl
 | .s _ _ _ _ _ _,y,h=>by cases y<;>simp[pW] at h;obtain⟨⟨⟨⟨⟨h1,h2⟩,h3⟩,h4⟩,h5⟩,h6⟩:=h;subst h1 h2 h3 h4 h5 h6;rfl
 | .z,y,h=>by cases y<;>simp[pW] at h;rfl
 | .ev,y,h=>by cases y<;>simp[pW] at h
 | .np,y,h=>by cases y<;>simp[pW] at h;rfl
 | .f0 _,y,h=>by cases y<;>simp[pW] at h;subst h;rfl
 | .fc a b,y,h=>by
   cases y<;>simp[pW] at h
   obtain⟨h1,h2⟩:=h
   rw[wg h1,wg h2]
theorem vU: ∀ {x y:Rp},A6 x y=true→x.flat=y.flat
 | .e,y,h=>by cases y<;>simp[A6] at h;rfl
 | .c _,y,h=>by cases y<;>simp[A6] at h;rw[wg h]
 | .n _ _ l r,y,h=>by
   cases y<;>simp[A6] at h
   obtain⟨h1,h2⟩:=h
   show l.flat++r.flat=_
   rw[vU h1,vU h2];rfl
theorem B6 {K K':Tr Bx}{k:Nat}(h:EM (K.get k) (K'.get k)=true):HS K k=HS K' k:=by
 unfold HS
 cases h1:K.get k with
 |none=>
  cases h2:K'.get k with
  |none=>rfl
  |some b=>rw[h1,h2] at h;simp[EM] at h
 |some b=>
  cases h2:K'.get k with
  |none=>rw[h1,h2] at h;simp[EM] at h
  |some b'=>
   rw[h1,h2] at h
   simp[EM] at h
   obtain⟨h3,h4⟩:=h
   show some (b.U,b.r.flat)=some (b'.U,b'.r.flat)
   rw[h3,vU h4]
theorem ks {K:Tr Bx}{k:Nat}(h:mG K k=true):HS K k=none:=by
 unfold mG at h
 unfold HS
 cases h1:K.get k with
 |none=>rfl
 |some b=>rw[h1] at h;cases h
theorem mp {Hw Hw':HF}:Clear e0 e0 Hw Hw':=fun _k=>⟨fun h=>absurd rfl h,fun _=>⟨rfl,rfl⟩⟩
theorem Clear.symm {Hv Hv' Hw Hw':HF}(h:Clear Hv Hv' Hw Hw'):Clear Hw Hw' Hv Hv':=fun k=>⟨(h k).2,(h k).1⟩
theorem yZ {a b:Nat}(h:(!Nat.beq a b)=true):a≠b:=fun e=>by subst e;rw[Nat.beq_refl] at h;cases h
theorem pt {Hv Hv' Hw Hw':HF}{k k':Nat}(h1:jJ Hv Hv' (.r k)) (h2: ∀j,j≠k'→Hw j=none∧Hw' j=none) (hne:k≠k'):Clear Hv Hv' Hw Hw':=fun j=>by
 obtain⟨h1,e⟩:=h1
 subst e
 refine⟨fun h=>absurd rfl h,fun h=>?_⟩
 by_cases ej:j=k
 ·exact absurd (by rw[(h2 j (by omega)).1,(h2 j (by omega)).2]) h
 ·exact⟨h1 j ej,h1 j ej⟩
theorem pG {Hv Hv' Hw Hw':HF}{k k':Nat}(h1: ∀j,j≠k→Hv j=none∧Hv' j=none) (h2: ∀j,j≠k'→Hw j=none∧Hw' j=none) (hne:k≠k'):Clear Hv Hv' Hw Hw':=fun j=>by
 constructor
 ·intro h
  by_cases ej:j=k'
  ·exact absurd (by rw[(h1 j (by omega)).1,(h1 j (by omega)).2]) h
  ·exact h2 j ej
 ·intro h
  by_cases ej:j=k
  ·exact absurd (by rw[(h2 j (by omega)).1,(h2 j (by omega)).2]) h
  ·exact h1 j ej
theorem pK {Hv Hv' Hw Hw':HF}{k:Nat}(h1: ∀j,j≠k→Hv j=none∧Hv' j=none) (h2:Hw k=none) (h3:Hw' k=none):Clear Hv Hv' Hw Hw':=fun j=>by
 constructor
 ·intro h
  by_cases ej:j=k
  ·subst ej;exact⟨h2,h3⟩
  ·exact absurd (by rw[(h1 j ej).1,(h1 j ej).2]) h
 ·intro h
  by_cases ej:j=k
  ·subst ej;exact absurd (by rw[h2,h3]) h
  ·exact h1 j ej
theorem Ac {Hv Hv' Hw Hw':HF}{k:Nat}(h1:jJ Hv Hv' (.r k)) (h2:Hw k=Hw' k):Clear Hv Hv' Hw Hw':=fun j=>by
 obtain⟨h1,e⟩:=h1
 subst e
 refine⟨fun h=>absurd rfl h,fun h=>?_⟩
 by_cases ej:j=k
 ·subst ej;exact absurd h2.symm h
 ·exact⟨h1 j ej,h1 j ej⟩
theorem M1 {Hv Hv':HF}{k:Nat}(h:jJ Hv Hv' (.nw k)): ∀j,j≠k→Hv j=none∧Hv' j=none:=fun j hj=>⟨by rw[h.1];rfl,h.2 j hj⟩
theorem kn {g g':Lg}{Hv Hv' Hw Hw':HF}(h1:jJ Hv Hv' g) (h2:jJ Hw Hw' g') (h:apart g g'=true):Clear Hv Hv' Hw Hw':=by
 cases g with
 |p=>obtain⟨rfl,rfl⟩:=h1;exact mp
 |r k=>
  cases g' with
  |p=>obtain⟨rfl,rfl⟩:=h2;exact mp.symm
  |r k'=>
   obtain⟨_,rfl⟩:=h1
   obtain⟨_,rfl⟩:=h2
   exact fun j=>⟨fun h=>absurd rfl h,fun h=>absurd rfl h⟩
  |w k'=>exact pt h1 h2 (yZ h)
  |nw k'=>exact pt h1 (M1 h2) (yZ h)
  |c K K'=>obtain⟨rfl,rfl⟩:=h2;exact Ac h1 (B6 h)
 |w k=>
  cases g' with
  |p=>obtain⟨rfl,rfl⟩:=h2;exact mp.symm
  |r k'=>exact(pt h2 h1 (yZ h)).symm
  |w k'=>exact pG h1 h2 (yZ h)
  |nw k'=>exact pG h1 (M1 h2) (yZ h)
  |c K K'=>
   obtain⟨rfl,rfl⟩:=h2
   have h:(mG K k&&mG K' k)=true:=h
   rw[Bool.and_eq_true] at h
   exact pK h1 (ks h.1) (ks h.2)
 |nw k=>
  cases g' with
  |p=>obtain⟨rfl,rfl⟩:=h2;exact mp.symm
  |r k'=>exact(pt h2 (M1 h1) (yZ h)).symm
  |w k'=>exact pG (M1 h1) h2 (Ne.symm (yZ h))
  |nw k'=>exact pG (M1 h1) (M1 h2) (yZ h)
  |c K K'=>
   obtain⟨rfl,rfl⟩:=h2
   have h:(mG K k&&mG K' k)=true:=h
   rw[Bool.and_eq_true] at h
   exact pK (M1 h1) (ks h.1) (ks h.2)
 |c K K'=>
  cases g' with
  |p=>obtain⟨rfl,rfl⟩:=h2;exact mp.symm
  |r k'=>obtain⟨rfl,rfl⟩:=h1;exact(Ac h2 (B6 h)).symm
  |w k'=>
   obtain⟨rfl,rfl⟩:=h1
   have h:(mG K k'&&mG K' k')=true:=h
   rw[Bool.and_eq_true] at h
   exact(pK h2 (ks h.1) (ks h.2)).symm
  |nw k'=>
   obtain⟨rfl,rfl⟩:=h1
   have h:(mG K k'&&mG K' k')=true:=h
   rw[Bool.and_eq_true] at h
   exact(pK (M1 h2) (ks h.1) (ks h.2)).symm
  |c _ _=>cases h
theorem od {mk:Nat}{g:Lg}: ∀ {l:uk},qt mk g l=true→ ∀j g',(j,g')∈l→mk.testBit j=false→apart g' g=true
 |[],_,j,g',h,_=>by cases h
 |(i,q)::l,hc,j,g',h,hb=>by
  have hc: @Bool.rec (fun _=>Bool) (bA (apart q g) (qt mk g l)) (qt mk g l) (mk.testBit i)=true:=hc
  rcases List.mem_cons.1 h with h|h
  ·injection h with h1 h2
   subst h1 h2
   rw[hb] at hc
   have hc:bA (apart g' g) (qt mk g l)=true:=hc
   rw[FC,Bool.and_eq_true] at hc
   exact hc.1
  ·refine od (l:=l) ?_ j g' h hb
   cases hq:mk.testBit i with
   |true=>rw[hq] at hc;exact hc
   |false=>
    rw[hq] at hc
    have hc:bA (apart q g) (qt mk g l)=true:=hc
    rw[FC,Bool.and_eq_true] at hc
    exact hc.2
end
section
variable {P:Program}{ops:Array Oper}{o:Oper}{n m N:Nat}{L:LX}{T:Tr XV}{H:Tr Bx}{call:fb}
theorem vc {acc:List Nat}{j:Nat}: ∀(l:List Nat) (m0:Nat),(l.foldl (fun m j=>m|||2^j|||acc.getD j 0) m0).testBit j=true→m0.testBit j=true∨ ∃b∈l,j=b∨(acc.getD b 0).testBit j=true
 |[],m0,h=>.inl h
 |b::l,m0,h=>by
  rcases vc l _ h with h|⟨b',hb,h⟩
  ·rw[Nat.testBit_or,Nat.testBit_or,Bool.or_eq_true,Bool.or_eq_true] at h
   rcases h with(h|h)|h
   ·exact .inl h
   ·rw[Nat.testBit_two_pow] at h
    have h:b=j:=by simpa using h
    exact .inr ⟨b,List.mem_cons_self ..,.inl h.symm⟩
   ·exact .inr ⟨b,List.mem_cons_self ..,.inr h⟩
  ·exact .inr ⟨b',List.mem_cons_of_mem _ hb,h⟩
def Pg (ops:Array Oper) (acc:List Nat):Prop:= ∀(i mk:Nat),acc[i]? =some mk→ ∀j,mk.testBit j=true→Prec ops j i
theorem tP: ∀(l:List Oper) (acc:List Nat),(∀k,k<l.length→l[k]? =ops[acc.length+k]?)→Pg ops acc→Pg ops (l.foldl (fun acc o=>acc++[xH acc o]) acc)∧(l.foldl (fun acc o=>acc++[xH acc o]) acc).length=acc.length+l.length
 |[],acc,_,hi=>⟨hi,rfl⟩
 |o::l,acc,hl,hi=>by
  have ho:ops[acc.length]? =some o:=by have:=hl 0 (by simp);simpa using this.symm
  have hi2:Pg ops (acc++[xH acc o]):=by
   intro i mk hmk j hj
   by_cases hlt:i<acc.length
   ·rw[List.getElem?_append_left hlt] at hmk
    exact hi i mk hmk j hj
   ·have hlen:=(List.getElem?_eq_some_iff.1 hmk).1
    have e:i=acc.length:=by simp at hlen;omega
    subst e
    rw[List.getElem?_append_right (Nat.le_refl _)] at hmk
    simp at hmk
    subst hmk
    rcases vc (bv o) 0 hj with h|⟨b,hb,h⟩
    ·simp at h
    ·rcases h with h|h
     ·subst h;exact .one ho hb
     ·refine Prec.tr ?_ (.one ho hb)
      cases hq:acc[b]? with
      |none=>rw[List.getD_eq_getElem?_getD,hq] at h;simp at h
      |some mk=>rw[List.getD_eq_getElem?_getD,hq] at h;exact hi b mk hq j h
  obtain⟨h1,h2⟩:=tP l (acc++[xH acc o]) (fun k hk=>by
   have:=hl (k+1) (by simpa using hk)
   rw[List.length_append]
   simp only[List.length_cons,List.length_nil]
   rw[show acc.length+(0+1)+k=acc.length+(k+1) by omega]
   simpa using this) hi2
  refine⟨h1,?_⟩
  rw[List.foldl_cons,h2];simp;omega
structure DidC (P:Program) (ops:Array Oper) (o:Oper) (n m:Nat) (L:LX) (T:Tr XV) (N:Nat) (H:Tr Bx) (e:Evt) (L':LX) (T':Tr XV) (H':Tr Bx) (g:Lg):Prop where
 run:FQ P ops o (TS m L T) e∨y6 ops o (TS m L T) e
 nm:e.N=N
 le:N≤e.N'
 tmp: ∀t y,TS m L' T' t=some y→wT o.dst e.x (TS m L T) t=some y
 tok:gW (TS m L' T')
 hok:fS H'
 hlt:fZ e.N' H'
 sub: ∀k c,e.Hv k=some c→HS H k=some c
 put: ∀k c,HS H' k=some c→e8 (HS H) e.Hv e.Hv' k=some c
 foot:jJ e.Hv e.Hv' g
theorem OT {k j:Nat}{c}(h:HS (H.del k) j=some c):j≠k∧HS H j=some c:=by
 unfold HS at h⊢
 cases h9:(H.del k).get j with
 |none=>rw[h9] at h;cases h
 |some b'=>
  rw[h9] at h
  injection h with h
  obtain⟨r1,r2⟩:=Tr.del_get H k j h9
  refine⟨r1,?_⟩
  rw[r2,←h];rfl
theorem rM: ∀ {hs:List Nat}{H:Tr Bx}{j:Nat}{c},HS (DZ H hs) j=some c→j∉hs∧HS H j=some c
 |[],H,j,c,h=>⟨by simp,h⟩
 |k::hs,H,j,c,h=>by
  obtain⟨h1,h2⟩:=rM (hs:=hs) (H:=H.del k) h
  obtain⟨h3,h4⟩:=OT h2
  exact⟨by simp[h3,h1],h4⟩
theorem tD: ∀ {hs:List Nat}{H:Tr Bx}{j:Nat}{b:Bx},(DZ H hs).get j=some b→H.get j=some b
 |[],_H,_j,_b,h=>h
 |k::hs,H,j,_b,h=>(Tr.del_get H k j (tD (hs:=hs) (H:=H.del k) h)).2
theorem vm {H0 Hc:Tr Bx}(hO0:fS H0) (hL0:fZ N H0): ∀ {hs:List Nat}{H H2:Tr Bx},Ai H0 Hc hs H=some H2→fS H→fZ N H→fS H2∧fZ N H2∧ ∀j c,HS H2 j=some c→HS H j=some c∨(j∈hs∧HS H0 j=some c∧HS Hc j=none)
 |[],H,H2,h,hO,hL=>by
  injection h with h
  subst h
  exact⟨hO,hL,fun j c h=>.inl h⟩
 |k::hs,H,H2,h,hO,hL=>by
  unfold Ai at h
  split at h
  ·rename_i b h1 h2
   obtain⟨g1,g2,g3⟩:=vm hO0 hL0 (hs:=hs) h (jp hO (hO0 k b h2).1 (hO0 k b h2).2) (jo hL (Nat.le_refl _) (hL0 k b h2))
   refine⟨g1,g2,fun j c hj=>?_⟩
   rcases g3 j c hj with q|⟨q1,q2,q3⟩
   ·rcases jE q with⟨e1,e2⟩|⟨_,e2⟩
    ·subst e1 e2
     exact .inr ⟨by simp,kH h2,by unfold HS;rw[h1];rfl⟩
    ·exact .inl e2
   ·exact .inr ⟨by simp[q1],q2,q3⟩
  ·cases h
theorem AO (hT:gW (TS m L T)) (hO:fS H) (hL:fZ N H) (hcall:iQ P call) {i:XI}(hi:Kb P n m ops o=some i) {hs:List Nat}{κ:LX→Tr XV→Nat→Tr Bx→Lg→Ro}(hr:EH call i hs L T N H κ≠ .no):
 ∃e L' T' H' g,EH call i hs L T N H κ=κ L' T' e.N' H' g∧DidC P ops o n m L T N H e L' T' H' g:=by
 cases hs with
 |nil=>
  obtain⟨e,L',T',H',g,e1,hd⟩:=qU (ops:=ops) (n:=n) hT hO hL hcall hi (κ:=κ) hr
  exact⟨e,L',T',H',g,e1,hd.run,hd.nm,hd.le,hd.tmp,hd.tok,hd.hok,hd.hlt,hd.sub,hd.put,hd.foot.c⟩
 |cons h t=>
  have hO2:fS (DZ H (h::t)):=fun j b hj=>hO j b (tD hj)
  have hL2:fZ N (DZ H (h::t)):=fun j b hj=>hL j b (tD hj)
  obtain⟨e,L',T',H',g,e1,hd⟩:=qU (ops:=ops) (n:=n) hT hO2 hL2 hcall hi (κ:=fun L T N H' g=>bI (GR g) (@Option.rec (Tr Bx) (fun _=>Ro) .no (fun H2=>κ L T N H2 g) (Ai H H' (h::t) H')) .no) hr
  have hr1:EH call i (h::t) L T N H κ=bI (GR g) (@Option.rec (Tr Bx) (fun _=>Ro) .no (fun H2=>κ L' T' e.N' H2 g) (Ai H H' (h::t) H')) .no:=e1
  have hcl:GR g=true:=by
   cases hq:GR g with
   |true=>rfl
   |false=>rw[hr1,hq] at hr;exact absurd rfl hr
  have hr2:EH call i (h::t) L T N H κ= @Option.rec (Tr Bx) (fun _=>Ro) .no (fun H2=>κ L' T' e.N' H2 g) (Ai H H' (h::t) H'):=by rw[hr1,hcl];rfl
  cases ha:Ai H H' (h::t) H' with
  |none=>rw[hr2,ha] at hr;exact absurd rfl hr
  |some H2=>
   rw[ha] at hr2
   have hLe:fZ e.N' H:=fun j b hj=>Nat.lt_of_lt_of_le (hL j b hj) hd.le
   obtain⟨g1,g2,g3⟩:=vm hO hLe ha hd.hok hd.hlt
   refine⟨e,L',T',H2,g,hr2,hd.run,hd.nm,hd.le,hd.tmp,hd.tok,g1,g2,fun k c hk=>(rM (hd.sub k c hk)).2,fun k c hk=>?_,hd.foot.c⟩
   rcases g3 k c hk with q|⟨q1,q2,q3⟩
   ·have hp:=hd.put k c q
    rcases qT hp with r|⟨r1,r2,r3⟩
    ·unfold e8;rw[r]
    ·unfold e8;rw[r1,r2];exact(rM r3).2
   ·--a hidden box
    have hv:e.Hv k=none:=by
     cases hx:e.Hv k with
     |none=>rfl
     |some d=>exact absurd q1 (rM (hd.sub k d hx)).1
    have hv':e.Hv' k=none:=by
     cases hx:e.Hv' k with
     |none=>rfl
     |some d=>
      exfalso
      have hf:=hd.foot
      cases g with
      |p=>obtain⟨_,h2,_⟩:=hf;rw[h2] at hx;cases hx
      |r b=>obtain⟨_,h2,_⟩:=hf;rw[h2,hv] at hx;cases hx
      |w b=>cases hcl
      |nw b=>cases hcl
      |c K K'=>obtain⟨_,h2,_,h4⟩:=hf;rw[h2,h4,q3] at hx;cases hx
    unfold e8;rw[hv',hv];exact q2
end
section
variable {P:Program}{ops:Array Oper}{n m:Nat}{call:fb}
def jM (lr lw:uk) (j:Nat) (g:Lg):Prop:=(j,g)∈lw∨((j,g)∈lr∧ ∃b,g=.r b)
theorem IX {b:Bool}{x:Ro}(h:bI b x .no≠ .no):b=true:=by
 cases b with
 |true=>rfl
 |false=>exact absurd rfl h
theorem ER {mk k:Nat}{g:Lg}{lr lw:uk}{κ:uk→uk→Ro}(h:wz mk k g lr lw κ≠ .no):wz mk k g lr lw κ=κ lr ((k,g)::lw)∧ ∀j g' Hv Hv' Hw Hw',jM lr lw j g'→mk.testBit j=false→jJ Hv Hv' g'→jJ Hw Hw' g→Clear Hv Hv' Hw Hw':=by
 have h1:=IX (b:=qt mk g lw) (x:=bI (qt mk g lr) (κ lr ((k,g)::lw)) .no) h
 have e1:wz mk k g lr lw κ=bI (qt mk g lr) (κ lr ((k,g)::lw)) .no:=by unfold wz;rw[h1];rfl
 rw[e1] at h
 have h2:=IX h
 refine⟨by rw[e1,h2];rfl,fun j g' Hv Hv' Hw Hw' hl hb f1 f2=>?_⟩
 rcases hl with hl|⟨hl,_⟩
 ·exact kn f1 f2 (od h1 j g' hl hb)
 ·exact kn f1 f2 (od h2 j g' hl hb)
theorem Ek {mk k:Nat}{g:Lg}{lr lw:uk}{κ:uk→uk→Ro}(h:KN mk k g lr lw κ≠ .no): ∃lr' lw',KN mk k g lr lw κ=κ lr' lw'∧(∀j g',jM lr lw j g'→jM lr' lw' j g')∧(g=.p∨jM lr' lw' k g)∧
 ∀j g' Hv Hv' Hw Hw',jM lr lw j g'→mk.testBit j=false→jJ Hv Hv' g'→jJ Hw Hw' g→Clear Hv Hv' Hw Hw':=by
 have hB: ∀ {g:Lg},wz mk k g lr lw κ≠ .no→ ∃lr' lw',wz mk k g lr lw κ=κ lr' lw'∧(∀j g',jM lr lw j g'→jM lr' lw' j g')∧(g=.p∨jM lr' lw' k g)∧
  ∀j g' Hv Hv' Hw Hw',jM lr lw j g'→mk.testBit j=false→jJ Hv Hv' g'→jJ Hw Hw' g→Clear Hv Hv' Hw Hw':=fun{g} h=>by
  obtain⟨h1,h2⟩:=ER h
  exact⟨lr,(k,g)::lw,h1,fun j g' hl=>hl.imp (fun q=>List.mem_cons_of_mem _ q) id,.inr (.inl (List.mem_cons_self ..)),h2⟩
 cases g with
 |p=>exact⟨lr,lw,rfl,fun _ _ h=>h,.inl rfl,fun j g' Hv Hv' Hw Hw' _ _ _ f2=>by obtain⟨rfl,rfl⟩:=f2;exact mp.symm⟩
 |r b=>
  have h1:=IX (b:=qt mk (.r b) lw) (x:=κ ((k,.r b)::lr) lw) h
  refine⟨(k,.r b)::lr,lw,?_,fun j g' hl=>hl.imp id fun q=>⟨List.mem_cons_of_mem _ q.1,q.2⟩,.inr (.inr ⟨List.mem_cons_self ..,b,rfl⟩),fun j g' Hv Hv' Hw Hw' hl hb f1 f2=>?_⟩
  ·show bI (qt mk (.r b) lw) (κ ((k,.r b)::lr) lw) .no=_
   rw[h1];rfl
  ·rcases hl with hl|⟨hl,b',rfl⟩
   ·exact kn f1 f2 (od h1 j g' hl hb)
   ·exact kn f1 f2 rfl
 |w b=>exact hB h
 |nw b=>exact hB h
 |c K K'=>exact hB h
def PM (ops:Array Oper) (j i:Nat):Prop:=((ji ops.toList).getD i 0).testBit j=true
structure InvD (P:Program) (ops:Array Oper) (T0:TX) (H0:HF) (N0:Nat) (full:List PE) (N:Nat):Prop where
 all: ∀(j:Nat) (p:PE),full[j]? =some p→ ∃Tl,(FQ P ops p.1 Tl p.2∨y6 ops p.1 Tl p.2)∧(∀t x,Tl t=some x→fT (full.take j) T0 t=some x)∧ ∀k c,p.2.Hv k=some c→fH (full.take j) H0 k=some c
 nm: ∀(j:Nat) (p:PE),full[j]? =some p→N0≤p.2.N∧p.2.N≤p.2.N'∧p.2.N'≤N
 mono: ∀(j i:Nat) (p q:PE),j<i→full[j]? =some p→full[i]? =some q→p.2.N'≤q.2.N
 con: ∀(j i:Nat) (p q:PE),j<i→ ¬PM ops j i→full[j]? =some p→full[i]? =some q→Clear p.2.Hv p.2.Hv' q.2.Hv q.2.Hv'
theorem JZ (l:List PE) (p:PE) (T:TX):fT (l++[p]) T=wT p.1.dst p.2.x (fT l T):=by unfold fT;rw[List.foldl_append];rfl
theorem Ku (l:List PE) (p:PE) (H:HF):fH (l++[p]) H=e8 (fH l H) p.2.Hv p.2.Hv':=by unfold fH;rw[List.foldl_append];rfl
theorem IU {d:Option Nat}{x:XV}{T1 T2:TX}(h: ∀t y,T1 t=some y→T2 t=some y): ∀t y,wT d x T1 t=some y→wT d x T2 t=some y:=by
 intro t y ht
 unfold wT at ht⊢
 split at ht
 ·rename_i e;rw[if_pos e];exact ht
 ·rename_i e;rw[if_neg e];exact h t y ht
theorem Eb {H1 H2 Hv Hv':HF}(h: ∀k c,H1 k=some c→H2 k=some c): ∀k c,e8 H1 Hv Hv' k=some c→e8 H2 Hv Hv' k=some c:=by
 intro k c hk
 rcases qT hk with r|⟨r1,r2,r3⟩
 ·unfold e8;rw[r]
 ·unfold e8;rw[r1,r2];exact h k c r3
theorem tn (hcall:iQ P call) {T0:TX}{H0:HF}{N0:Nat}: ∀(l:List Oper) (ms:List Nat) (js:List XJ) (pre:List PE) (L:LX) (T:Tr XV) (N:Nat) (H:Tr Bx) (lr lw:uk),
 nk P n m ops ms l=some js→ms.length=l.length→(∀k,k<l.length→ms[k]? =(ji ops.toList)[pre.length+k]?)→ops.toList=pre.map Prod.fst++l→
 gW (TS m L T)→fS H→fZ N H→N0≤N→InvD P ops T0 H0 N0 pre N→(∀t y,TS m L T t=some y→fT pre T0 t=some y)→(∀k c,HS H k=some c→fH pre H0 k=some c)→
 (∀(j:Nat) (p:PE),pre[j]? =some p→(p.2.Hv=e0∧p.2.Hv'=e0)∨ ∃g,jJ p.2.Hv p.2.Hv' g∧jM lr lw j g)→wF call js pre.length L T N H lr lw≠ .no→
 ∃full T' N' H',wF call js pre.length L T N H lr lw=.n T' N' H'∧N≤N'∧InvD P ops T0 H0 N0 full N'∧full.map Prod.fst=ops.toList∧gW (TS m [] T')∧fS H'∧fZ N' H'∧
  (∀t y,TS m [] T' t=some y→fT full T0 t=some y)∧ ∀k c,HS H' k=some c→fH full H0 k=some c
 |[],ms,js,pre,L,T,N,H,lr,lw,hw,hml,hms,ho,hT,hO,hL,hN,hi,hts,hhs,hlg,hr=>by
  have:js=[]:=by
   cases ms with
   |nil=>injection hw with hw;exact hw.symm
   |cons a b=>simp at hml
  subst this
  refine⟨pre,T,N,H,rfl,Nat.le_refl _,hi,by rw[ho];simp,fun t y h=>hT t y (v7 h),hO,hL,fun t y h=>hts t y (v7 h),hhs⟩
 |o::l,[],js,pre,L,T,N,H,lr,lw,hw,hml,hms,ho,hT,hO,hL,hN,hi,hts,hhs,hlg,hr=>by simp at hml
 |o::l,mk::ms,js,pre,L,T,N,H,lr,lw,hw,hml,hms,ho,hT,hO,hL,hN,hi,hts,hhs,hlg,hr=>by
  unfold nk at hw
  split at hw
  ·cases hw
  ·rename_i x hx
   split at hw
   ·cases hw
   ·rename_i xs hxs
    injection hw with hw
    subst hw
    have e1:wF call (⟨x,xi o.op,mk⟩::xs) pre.length L T N H lr lw=EH call x (@Bool.rec (fun _=>List Nat) [] (Qt mk lw) (xi o.op)) L T N H fun L T N H g=>KN mk pre.length g lr lw fun lr lw=>wF call xs (pre.length+1) L T N H lr lw:=rfl
    rw[e1] at hr
    obtain⟨e,L',T',H',g,e2,hd⟩:=AO (ops:=ops) (n:=n) hT hO hL hcall hx hr
    rw[e2] at hr
    obtain⟨lr',lw',e3,g1,g2,g3⟩:=Ek hr
    rw[e3] at hr
    have hmk:(ji ops.toList)[pre.length]? =some mk:=by have:=hms 0 (by simp);simpa using this.symm
    have hlen:(pre++[(o,e)]).length=pre.length+1:=by simp
    have hin: ∀(j:Nat) (p:PE),(pre++[(o,e)])[j]? =some p→(j<pre.length∧pre[j]? =some p)∨(j=pre.length∧p=(o,e)):=by
     intro j p hj
     by_cases hlt:j<pre.length
     ·rw[List.getElem?_append_left hlt] at hj;exact .inl ⟨hlt,hj⟩
     ·have h1:=(List.getElem?_eq_some_iff.1 hj).1
      have ej:j=pre.length:=by simp at h1;omega
      subst ej
      rw[List.getElem?_append_right (Nat.le_refl _)] at hj
      simp at hj
      exact .inr ⟨rfl,hj.symm⟩
    have htk: ∀j,j≤pre.length→(pre++[(o,e)]).take j=pre.take j:=fun j hj=>List.take_append_of_le_length hj
    have hne:N≤e.N':=hd.le
    have hi2:InvD P ops T0 H0 N0 (pre++[(o,e)]) e.N':=by
     refine⟨fun j p hj=>?_,fun j p hj=>?_,fun j i p q hji hj hq=>?_,fun j i p q hji hpm hj hq=>?_⟩
     ·rcases hin j p hj with⟨hlt,hj⟩|⟨rfl,rfl⟩
      ·rw[htk j (Nat.le_of_lt hlt)];exact hi.all j p hj
      ·rw[htk pre.length (Nat.le_refl _),List.take_length]
       exact⟨TS m L T,hd.run,hts,fun k c hk=>hhs k c (hd.sub k c hk)⟩
     ·rcases hin j p hj with⟨hlt,hj⟩|⟨rfl,rfl⟩
      ·have:=hi.nm j p hj;exact⟨this.1,this.2.1,Nat.le_trans this.2.2 hne⟩
      ·refine⟨by show N0≤e.N;rw[hd.nm];exact hN,by show e.N≤e.N';rw[hd.nm];exact hne,Nat.le_refl _⟩
     ·rcases hin i q hq with⟨hlt,hq⟩|⟨rfl,rfl⟩
      ·rcases hin j p hj with⟨_,hj⟩|⟨rfl,rfl⟩
       ·exact hi.mono j i p q hji hj hq
       ·omega
      ·rcases hin j p hj with⟨_,hj⟩|⟨rfl,rfl⟩
       ·show p.2.N'≤e.N
        rw[hd.nm];exact(hi.nm j p hj).2.2
       ·omega
     ·rcases hin i q hq with⟨hlt,hq⟩|⟨rfl,rfl⟩
      ·rcases hin j p hj with⟨_,hj⟩|⟨rfl,rfl⟩
       ·exact hi.con j i p q hji hpm hj hq
       ·omega
      ·rcases hin j p hj with⟨_,hj⟩|⟨rfl,rfl⟩
       ·rcases hlg j p hj with⟨h1,h2⟩|⟨g',f1,hl⟩
        ·rw[h1,h2];exact mp
        ·refine g3 j g' _ _ _ _ hl ?_ f1 hd.foot
         cases hb:mk.testBit j with
         |false=>rfl
         |true=>
          exfalso
          apply hpm
          unfold PM
          rw[List.getD_eq_getElem?_getD,hmk];exact hb
       ·omega
    have hlg2: ∀(j:Nat) (p:PE),(pre++[(o,e)])[j]? =some p→(p.2.Hv=e0∧p.2.Hv'=e0)∨ ∃g,jJ p.2.Hv p.2.Hv' g∧jM lr' lw' j g:=by
     intro j p hj
     rcases hin j p hj with⟨hlt,hj⟩|⟨rfl,rfl⟩
     ·rcases hlg j p hj with h|⟨g',f1,hl⟩
      ·exact .inl h
      ·exact .inr ⟨g',f1,g1 j g' hl⟩
     ·rcases g2 with rfl|h
      ·exact .inl hd.foot
      ·exact .inr ⟨g,hd.foot,h⟩
    rw[←hlen] at hr
    obtain⟨full,T2,N2,H2,e4,k1,k2,k3,k4,k5,k6,k7,k8⟩:=tn hcall l ms xs (pre++[(o,e)]) L' T' e.N' H' lr' lw' hxs (by simpa using hml) (fun k hk=>by
     have:=hms (k+1) (by simpa using hk)
     rw[hlen,show pre.length+1+k=pre.length+(k+1) by omega]
     simpa using this) (by rw[ho];simp) hd.tok hd.hok hd.hlt (Nat.le_trans hN hne) hi2
     (fun t y h=>by rw[JZ];exact IU hts t y (hd.tmp t y h)) (fun k c h=>by rw[Ku];exact Eb hhs k c (hd.put k c h)) hlg2 hr
    rw[hlen] at e4
    exact⟨full,T2,N2,H2,e1.trans (e2.trans (e3.trans e4)),Nat.le_trans hne k1,k2,k3,k4,k5,k6,k7,k8⟩
end
section
variable {P:Program}{ops:Array Oper}{n m N:Nat}{T:Tr XV}{H:Tr Bx}{call:fb}
theorem vt: ∀ {ms:List Nat}{l:List Oper}{js:List XJ},nk P n m ops ms l=some js→ms.length=l.length→ ∀o∈l,∃x,Kb P n m ops o=some x
 |_,[],_,_,_,o,ho=>by cases ho
 |[],_::_,_,_,hl,o,ho=>by simp at hl
 |mk::ms,o'::l,js,h,hl,o,ho=>by
  unfold nk at h
  split at h
  ·cases h
  ·rename_i x hx
   split at h
   ·cases h
   ·rename_i xs hxs
    rcases List.mem_cons.1 ho with rfl|ho
    ·exact⟨x,hx⟩
    ·exact vt hxs (by simpa using hl) o ho
theorem sy {d:Option Nat}{l:List Nat}(h:Dj d l=false): ∀t,d=some t→t∉l:=by
 intro t ht hm
 subst ht
 have:l.any (Nat.beq t)=true:=fE.2 hm
 rw[show Dj (some t) l=l.any (Nat.beq t) from rfl,this] at h
 cases h
theorem Gh {ms:List Nat}{l:List Oper}{i:Nat}{q:Oper}(h:RR ops ms l i=true) (hq:l[i]? =some q):(∀j∈bv q,j<i)∧ ∀j p,j<i→(ms.getD i 0).testBit j=false→l[j]? =some p→J4 ops p q=true:=by
 unfold RR at h
 rw[hq] at h
 dsimp only at h
 rw[Bool.and_eq_true] at h
 refine⟨fun j hj=>b9.1 (List.all_eq_true.1 h.1 j hj),fun j p hji hb hp=>?_⟩
 have:=List.all_eq_true.1 h.2 j (List.mem_range.2 hji)
 rw[hb,hp] at this
 simpa using this
theorem u5 (hfol:P.follows .mixedOrders=true) (hcall:iQ P call) (hchk:(List.range ops.size).all (RR ops (ji ops.toList) ops.toList)=true) {js:List XJ}(hw:nk P n m ops (ji ops.toList) ops.toList=some js)
 (hT:gW (TS m [] T)) (hO:fS H) (hL:fZ N H) (hr:wF call js 0 [] T N H [] []≠ .no) {Q:Exit→Act→World→Prop}{id:Nat}:
 ∃T' N' H',wF call js 0 [] T N H [] []=.n T' N' H'∧N≤N'∧gW (TS m [] T')∧fS H'∧fZ N' H'∧ ∀V A β a w,(∀k,A k→ ¬(N≤k∧k<N'))→StX V A n (TS m [] T) (HS H) β a w→
  (∀a' w',Ends P n m V A N (HS H) β w N' (TS m [] T') (HS H') a' w'→Q .normal a' w')→(Code.region id ops true).wp P Q a w:=by
 obtain⟨hM,hMl⟩:=tP (ops:=ops) ops.toList [] (fun k hk=>by simp) (fun i mk h=>by simp at h)
 have hMl:(ji ops.toList).length=ops.toList.length:=by rw[show(ji ops.toList).length=_ from hMl];simp
 have hi0:InvD P ops (TS m [] T) (HS H) N [] N:=⟨fun j p h=>by simp at h,fun j p h=>by simp at h,fun j i p q _ h=>by simp at h,fun j i p q _ _ h=>by simp at h⟩
 obtain⟨full,T',N',H',e1,k1,k2,k3,k4,k5,k6,k7,k8⟩:=tn (P:=P) (ops:=ops) (n:=n) hcall (T0:=TS m [] T) (H0:=HS H) (N0:=N) ops.toList (ji ops.toList) js [] [] T N H [] [] hw hMl (fun k _=>by simp) rfl hT hO hL (Nat.le_refl _) hi0
  (fun t y h=>h) (fun k c h=>h) (fun j p h=>by simp at h) hr
 refine⟨T',N',H',e1,k1,k4,k5,k6,fun V A β a w hA hst hQ=>?_⟩
 have hfl:full.length=ops.size:=by have:=congrArg List.length k3;simpa using this
 have hget: ∀ {i:Nat}{o:Oper}{e:Evt},ops[i]? =some o→(full.map Prod.snd)[i]? =some e→full[i]? =some (o,e):=by
  intro i o e ho he
  have h1:(full.map Prod.fst)[i]? =some o:=by rw[k3,Array.getElem?_toList];exact ho
  rw[List.getElem?_map] at h1 he
  cases hf:full[i]? with
  |none=>rw[hf] at he;cases he
  |some p=>
   rw[hf] at h1 he
   injection h1 with h1
   injection he with he
   rw[←h1,←he]
 have hgete: ∀ {i:Nat}{e:Evt},(full.map Prod.snd)[i]? =some e→ ∃o,full[i]? =some (o,e):=by
  intro i e he
  rw[List.getElem?_map] at he
  cases hf:full[i]? with
  |none=>rw[hf] at he;cases he
  |some p=>rw[hf] at he;injection he with he;exact⟨p.1,by rw[←he]⟩
 have hU:oT ops.toList (full.map Prod.snd)=full.map fun p=>Iu p.1.dst p.2:=by
  rw[←k3];exact vn (fun(o:Oper) e=>Iu o.dst e) full
 have hV:sf (full.map Prod.snd)=full.map fun p=>uH p.2:=by unfold sf;rw[List.map_map];rfl
 have hTi: ∀i,eX (fun j=>decide (j<i)) 0 (oT ops.toList (full.map Prod.snd)) (TS m [] T)=fT (full.take i) (TS m [] T):=fun i=>by rw[hU,sJ,←List.map_take,HB]
 have hHi: ∀i,eX (fun j=>decide (j<i)) 0 (sf (full.map Prod.snd)) (HS H)=fH (full.take i) (HS H):=fun i=>by
  rw[hV,sJ,←List.map_take]
  refine Gc _ _ (fun j p hj k c hk=>?_)
  have hji:j<i:=by
   have:=(List.getElem?_eq_some_iff.1 hj).1
   simp at this;omega
  rw[List.getElem?_take,if_pos hji] at hj
  obtain⟨_,_,_,h3⟩:=k2.all j p hj
  rw[List.take_take,Nat.min_eq_left (Nat.le_of_lt hji)]
  exact h3 k c hk
 have hTa:eX (fun _=>true) 0 (oT ops.toList (full.map Prod.snd)) (TS m [] T)=fT full (TS m [] T):=by rw[hU,wx,HB]
 have hHa:eX (fun _=>true) 0 (sf (full.map Prod.snd)) (HS H)=fH full (HS H):=by
  rw[hV,wx]
  refine Gc _ _ (fun j p hj k c hk=>?_)
  obtain⟨_,_,_,h3⟩:=k2.all j p hj
  exact h3 k c hk
 have hub: ∀ {i:Nat}{o:Oper},ops[i]? =some o→(∀j∈bv o,j<i)∧ ∀j p,j<i→((ji ops.toList).getD i 0).testBit j=false→ops.toList[j]? =some p→J4 ops p o=true:=fun{i o} ho=>by
  have hlt:=(Array.getElem?_eq_some_iff.1 ho).1
  exact Gh (List.all_eq_true.1 hchk i (List.mem_range.2 hlt)) (by rw[Array.getElem?_toList];exact ho)
 refine wp_region_any hfol ?_
 have hdrew:StX V A n (TS m [] T) (HS H) β a w.drew:=by
  refine⟨zY hst.mem,hst.dfr,hst.siz,fun t x ht=>?_⟩
  obtain⟨v,e,hr⟩:=hst.tmp t x ht
  have hk2:Keep (Zs V (HS H) β) (Zs V (HS H) β) w w.drew:=⟨Nat.le_refl _,fun _ _ _=>rfl,fun _ _ h=>h⟩
  exact⟨v,e,hr.mono hk2 (fun _ h=>h) (fun _ _=>rfl)⟩
 have hfalse: ∀j,(Array.replicate ops.size false).getD j false=false:=fun j=>by simp[Array.getD]
 have hz1:eX (fun j=>(Array.replicate ops.size false).getD j false) 0 (oT ops.toList (full.map Prod.snd)) (TS m [] T)=TS m [] T:=funext fun t=>fp _ _ _ fun j u _ hm=>by rw[hfalse] at hm;cases hm
 have hz2:eX (fun j=>(Array.replicate ops.size false).getD j false) 0 (sf (full.map Prod.snd)) (HS H)=HS H:=funext fun t=>fp _ _ _ fun j u _ hm=>by rw[hfalse] at hm;cases hm
 refine Ez (P:=P) (V:=V) (n:=n) (Q:=Q) (fun i o j ho hj=>(hub ho).1 j hj) (fun i o t ho ht=>?_) (PM ops) (fun j i hp=>?_) (fun j i oj oi hji hpm hoj hoi=>?_) (es:=full.map Prod.snd) (by simp[hfl]) (T0:=TS m [] T) (H0:=HS H) (N0:=N) (Nn:=N') (A0:=A) (β0:=β) (w0:=w)
  (fun i o e ho he=>?_) (fun i e he=>?_) (fun j i ej ei hji hej hei=>?_) (fun j i ej ei hji hpm hej hei=>?_) k1 hA (fun A' β' a' w' h1 h2 h3 h4=>?_) ops.size (Array.replicate ops.size false) A β a w.drew (by simp) (by unfold AB;refine Nat.le_trans List.countP_le_length ?_;simp) (fun i o j hi=>by rw[hfalse] at hi;cases hi) (fun _ h=>h) (fun _ h=>.inl h) ?_ ?_
 ·obtain⟨x,hx⟩:=vt hw hMl o (Array.mem_toList_iff.2 (Array.mem_of_getElem? ho))
  exact(yN hx).1 t ht
 ·unfold PM at hp
  cases hq:(ji ops.toList)[i]? with
  |none=>rw[List.getD_eq_getElem?_getD,hq] at hp;simp at hp
  |some mk=>rw[List.getD_eq_getElem?_getD,hq] at hp;exact hM i mk hq j hp
 ·have hb:((ji ops.toList).getD i 0).testBit j=false:=by
   cases hb:((ji ops.toList).getD i 0).testBit j with
   |false=>rfl
   |true=>exact absurd hb hpm
  have hind:=(hub hoi).2 j oj hji hb (by rw[Array.getElem?_toList];exact hoj)
  unfold J4 at hind
  simp only[Bool.and_eq_true,Bool.not_eq_true'] at hind
  obtain⟨⟨h1,h2⟩,h3⟩:=hind
  refine⟨fun d hd=>⟨sy h1 d hd,fun he=>?_⟩,fun d hd=>sy h2 d hd⟩
  rw[hd,he] at h3
  have h3:Nat.beq d d=false:=h3
  rw[Nat.beq_refl] at h3;cases h3
 ·obtain⟨Tl,g1,g2,g3⟩:=k2.all i (o,e) (hget ho he)
  exact⟨Tl,g1,fun t x _ hx=>by rw[hTi];exact g2 t x hx,fun k c hk=>by rw[hHi];exact g3 k c hk⟩
 ·obtain⟨o,ho⟩:=hgete he
  have:=k2.nm i (o,e) ho
  exact⟨this.1,this.2.2⟩
 ·obtain⟨o,ho⟩:=hgete hej
  obtain⟨o2,ho2⟩:=hgete hei
  exact k2.mono j i _ _ hji ho ho2
 ·obtain⟨o,ho⟩:=hgete hej
  obtain⟨o2,ho2⟩:=hgete hei
  exact k2.con j i _ _ hji hpm ho ho2
 ·rw[hHa] at h3
  rw[hTa,hHa] at h4
  exact hQ a' w' ⟨A',β',h1,h2,h3.less k8,h4.less k7 k8⟩
 ·rw[hz2]
  exact⟨rfl,rfl,rfl,Nat.le_refl _,fun _ _ _=>rfl,fun _ _=>rfl,fun k hk=>.inr ⟨k,hk,rfl⟩,fun _ h=>.inl h⟩
 ·rw[hz1,hz2];exact hdrew
end
section
variable {P:Program}{n m:Nat}{call:fb}
abbrev Oc:=Exit×Tr XV×Nat×Tr Bx
def Ro.out:Ro→Option Oc
 | .no=>none
 | .n T N H=>some (.normal,T,N,H)
 | .x id T N H=>some (.exit id,T,N,H)
 | .r T N H=>some (.ret,T,N,H)
def Does (P:Program) (n m:Nat) (c:(Exit→Act→World→Prop)→Act→World→Prop) (T:Tr XV) (N:Nat) (H:Tr Bx) (o:Oc):Prop:=
 N≤o.2.2.1∧gW (TS m [] o.2.1)∧fS o.2.2.2∧fZ o.2.2.1 o.2.2.2∧ ∀Q V A β a w,(∀k,A k→ ¬(N≤k∧k<o.2.2.1))→StX V A n (TS m [] T) (HS H) β a w→
  (∀a' w',Ends P n m V A N (HS H) β w o.2.2.1 (TS m [] o.2.1) (HS o.2.2.2) a' w'→Q o.1 a' w')→c Q a w
def F8 (P:Program) (n m:Nat) (c:Code) (run:lT):Prop:= ∀call,iQ P call→ ∀f T N H o,gW (TS m [] T)→fS H→fZ N H→(run call f T N H).out=some o→Does P n m (fun Q=>c.wp P Q) T N H o
theorem Ends.refl {V A:Nat→Prop}{T:TX}{H:HF}{β:Nat→Pl}{a:Act}{w:World}{N:Nat}(h:StX V A n T H β a w):Ends P n m V A N H β w N T H a w:=
 ⟨A,β,fun _ h=>h,fun _ h=>.inl h,Hst.refl,h⟩
theorem Does.skip {T:Tr XV}{N:Nat}{H:Tr Bx}{e:Exit}{c:(Exit→Act→World→Prop)→Act→World→Prop}(hT:gW (TS m [] T)) (hO:fS H) (hL:fZ N H) (h: ∀Q a w,Q e a w→c Q a w):Does P n m c T N H (e,T,N,H):=
 ⟨Nat.le_refl _,hT,hO,hL,fun Q _V _A _β a w _ hst hQ=>h Q a w (hQ a w (Ends.refl hst))⟩
theorem Does.seq {T T1:Tr XV}{N N1:Nat}{H H1:Tr Bx}{o:Oc}{e:Exit}{c d b:(Exit→Act→World→Prop)→Act→World→Prop}(h1:Does P n m c T N H (e,T1,N1,H1)) (h2:Does P n m d T1 N1 H1 o)
 (h: ∀Q a w,(∀Q',(∀a' w',d Q a' w'→Q' e a' w')→c Q' a w)→b Q a w):Does P n m b T N H o:=by
 obtain⟨k1,k2,k3,k4,k5⟩:=h1
 obtain⟨l1,l2,l3,l4,l5⟩:=h2
 refine⟨Nat.le_trans k1 l1,l2,l3,l4,fun Q V A β a w hA hst hQ=>h Q a w fun Q' hq'=>?_⟩
 refine k5 Q' V A β a w (fun k hk hh=>hA k hk ⟨hh.1,Nat.lt_of_lt_of_le hh.2 l1⟩) hst fun a1 w1 ⟨A1,β1,f1,f2,f3,f4⟩=>hq' a1 w1 ?_
 refine l5 Q V A1 β1 a1 w1 (tI hA f2 k1) f4 fun a2 w2 ⟨A2,β2,g1,g2,g3,g4⟩=>?_
 exact hQ a2 w2 ⟨A2,β2,fun k hk=>g1 k (f1 k hk),fun k hk=>Gn f2 k1 l1 k (g2 k hk),(f3.wide (Nat.le_refl _) l1).trans f1 (g3.wide k1 (Nat.le_refl _)),g4⟩
theorem Does.as {T:Tr XV}{N:Nat}{H:Tr Bx}{o:Oc}{e':Exit}{c b:(Exit→Act→World→Prop)→Act→World→Prop}(h1:Does P n m c T N H o)
 (h: ∀Q a w,(∀Q',(∀a' w',Q e' a' w'→Q' o.1 a' w')→c Q' a w)→b Q a w):Does P n m b T N H (e',o.2):=by
 obtain⟨k1,k2,k3,k4,k5⟩:=h1
 exact⟨k1,k2,k3,k4,fun Q V A β a w hA hst hQ=>h Q a w fun Q' hq'=>k5 Q' V A β a w hA hst fun a' w' he=>hq' a' w' (hQ a' w' he)⟩
noncomputable def CJ (c:lT) (call:fb) (F:Nat) (g:Nat):Tr XV→Nat→Tr Bx→Ro:=@Nat.rec (fun _=>Tr XV→Nat→Tr Bx→Ro) (fun _ _ _=>.no) (fun _ ih T N H=>@Ro.rec (fun _=>Ro) .no (fun T N H=>ih T N H) (fun id T N H=>.x id T N H) (fun T N H=>.r T N H) (c call F T N H)) g
theorem ti {c:Code}{run:lT}(hc:F8 P n m c run) (hcall:iQ P call) {F:Nat}: ∀(g:Nat) (T:Tr XV) (N:Nat) (H:Tr Bx) (o:Oc),gW (TS m [] T)→fS H→fZ N H→(CJ run call F g T N H).out=some o→Does P n m (fun Q=>Code.rounds P c Q g) T N H o
 |0,T,N,H,o,_,_,_,h=>by cases h
 |g+1,T,N,H,o,hT,hO,hL,h=>by
  have e:CJ run call F (g+1) T N H= @Ro.rec (fun _=>Ro) .no (fun T N H=>CJ run call F g T N H) (fun id T N H=>.x id T N H) (fun T N H=>.r T N H) (run call F T N H):=rfl
  rw[e] at h
  have hc1:=hc call hcall F T N H
  cases hr:run call F T N H with
  |no=>rw[hr] at h;cases h
  |n T1 N1 H1=>
   rw[hr] at h hc1
   have h1:=hc1 _ hT hO hL rfl
   refine h1.seq (ti hc hcall g T1 N1 H1 o h1.2.1 h1.2.2.1 h1.2.2.2.1 h) fun Q a w hq=>?_
   exact hq (Exit.then (Code.rounds P c Q g) Q) fun a' w' h=>h
  |x id T1 N1 H1=>
   rw[hr] at h hc1
   injection h with h
   subst h
   exact(hc1 _ hT hO hL rfl).as fun Q a w hq=>hq (Exit.then (Code.rounds P c Q g) Q) fun a' w' h=>h
  |r T1 N1 H1=>
   rw[hr] at h hc1
   injection h with h
   subst h
   exact(hc1 _ hT hO hL rfl).as fun Q a w hq=>hq (Exit.then (Code.rounds P c Q g) Q) fun a' w' h=>h
theorem fB (hfol:P.follows .mixedOrders=true): ∀(c:Code) {run:lT},cC P n m c=some run→F8 P n m c run
 | .skip,run,h=>by
   injection h with h
   subst h
   intro call hcall f T N H o hT hO hL hr
   injection hr with hr
   subst hr
   exact Does.skip hT hO hL fun Q a w h=>wp_skip h
 | .exit id,run,h=>by
   injection h with h
   subst h
   intro call hcall f T N H o hT hO hL hr
   injection hr with hr
   subst hr
   exact Does.skip hT hO hL fun Q a w h=>wp_exit h
 | .ret,run,h=>by
   injection h with h
   subst h
   intro call hcall f T N H o hT hO hL hr
   injection hr with hr
   subst hr
   exact Does.skip hT hO hL fun Q a w h=>wp_ret h
 | .region id ops false,run,h=>by
   unfold cC at h
   dsimp only at h
   cases hl:gP (Kb P n m ops) ops.toList with
   |none=>rw[hl] at h;cases h
   |some is=>
    rw[hl] at h
    injection h with h
    subst h
    intro call hcall f T N H o hT hO hL hr
    have hr:(Bg call is [] T N H).out=some o:=hr
    have hno:Bg call is [] T N H≠ .no:=fun e=>by rw[e] at hr;cases hr
    obtain⟨T',N',H',e1,k1,k2,k3,k4,_⟩:=pa (ops:=ops) hcall (Q:=fun _ _ _=>True) ops.toList is [] T N H hl hT hO hL hno
    rw[e1] at hr
    injection hr with hr
    subst hr
    refine⟨k1,k2,k3,k4,fun Q V A β a w hA hst hQ=>?_⟩
    obtain⟨T2,N2,H2,e2,_,_,_,_,k5⟩:=pa (ops:=ops) hcall (Q:=Q) ops.toList is [] T N H hl hT hO hL hno
    rw[e1] at e2
    injection e2 with e21 e22 e23
    subst e21 e22 e23
    exact wp_region_list (k5 V A β a w hA hst hQ)
 | .region id ops true,run,h=>by
   unfold cC at h
   dsimp only at h
   cases hchk:(List.range ops.size).all (RR ops (ji ops.toList) ops.toList) with
   |false=>rw[hchk] at h;cases h
   |true=>
    rw[hchk] at h
    cases hl:nk P n m ops (ji ops.toList) ops.toList with
    |none=>rw[hl] at h;cases h
    |some js=>
     rw[hl] at h
     injection h with h
     subst h
     intro call hcall f T N H o hT hO hL hr
     have hr:(wF call js 0 [] T N H [] []).out=some o:=hr
     have hno:wF call js 0 [] T N H [] []≠ .no:=fun e=>by rw[e] at hr;cases hr
     obtain⟨T',N',H',e1,k1,k2,k3,k4,_⟩:=u5 hfol hcall hchk hl hT hO hL hno (Q:=fun _ _ _=>True) (id:=id)
     rw[e1] at hr
     injection hr with hr
     subst hr
     refine⟨k1,k2,k3,k4,fun Q V A β a w hA hst hQ=>?_⟩
     obtain⟨T2,N2,H2,e2,_,_,_,_,k5⟩:=u5 hfol hcall hchk hl hT hO hL hno (Q:=Q) (id:=id)
     rw[e1] at e2
     injection e2 with e21 e22 e23
     subst e21 e22 e23
     exact k5 V A β a w hA hst hQ
 | .seq x y,run,h=>by
   unfold cC at h
   cases hx:cC P n m x with
   |none=>rw[hx] at h;cases h
   |some rx=>
    cases hy:cC P n m y with
    |none=>rw[hx,hy] at h;cases h
    |some ry=>
     rw[hx,hy] at h
     injection h with h
     subst h
     have ix:=fB hfol x hx
     have iy:=fB hfol y hy
     intro call hcall f T N H o hT hO hL hr
     have e:RW rx ry call f T N H= @Ro.rec (fun _=>Ro) .no (fun T N H=>ry call f T N H) (fun id T N H=>.x id T N H) (fun T N H=>.r T N H) (rx call f T N H):=rfl
     rw[e] at hr
     have hc1:=ix call hcall f T N H
     cases hq:rx call f T N H with
     |no=>rw[hq] at hr;cases hr
     |n T1 N1 H1=>
      rw[hq] at hr hc1
      have h1:=hc1 _ hT hO hL rfl
      exact h1.seq (iy call hcall f T1 N1 H1 o h1.2.1 h1.2.2.1 h1.2.2.2.1 hr) fun Q a w hq=>wp_seq (hq (Exit.then (y.wp P Q) Q) fun a' w' h=>h)
     |x id T1 N1 H1=>
      rw[hq] at hr hc1
      injection hr with hr
      subst hr
      exact(hc1 _ hT hO hL rfl).as fun Q a w hq=>wp_seq (hq (Exit.then (y.wp P Q) Q) fun a' w' h=>h)
     |r T1 N1 H1=>
      rw[hq] at hr hc1
      injection hr with hr
      subst hr
      exact(hc1 _ hT hO hL rfl).as fun Q a w hq=>wp_seq (hq (Exit.then (y.wp P Q) Q) fun a' w' h=>h)
 | .cond (.tmp t) x y,run,h=>by
   unfold cC at h
   cases hx:cC P n m x with
   |none=>rw[hx] at h;cases h
   |some rx=>
    cases hy:cC P n m y with
    |none=>rw[hx,hy] at h;cases h
    |some ry=>
     rw[hx,hy] at h
     dsimp only at h
     cases hb:m.testBit t with
     |true=>rw[hb] at h;cases h
     |false=>
      rw[hb] at h
      injection h with h
      subst h
      have ix:=fB hfol x hx
      have iy:=fB hfol y hy
      intro call hcall f T N H o hT hO hL hr
      have e:Nq t rx ry call f T N H= @Option.rec Bool (fun _=>Ro) .no (fun v=>@Bool.rec (fun _=>Ro) (ry call f T N H) (rx call f T N H) v) (oO (T.get t) fun v=>xB v some):=rfl
      rw[e] at hr
      cases hv:(oO (T.get t) fun v=>xB v some) with
      |none=>rw[hv] at hr;cases hr
      |some v=>
       rw[hv] at hr
       obtain⟨z,hz,h2⟩:=aK hv
       obtain⟨b,rfl,h3⟩:=ml h2
       injection h3 with h3
       subst h3
       have hts:TS m [] T t=some (.c (.b b)):=by unfold TS;rw[hb];exact hz
       have hev: ∀ {V A β a w},StX V A n (TS m [] T) (HS H) β a w→a.eval (.tmp t)=.bool b:=by
        intro V A β a w hst
        obtain⟨v',e,hr⟩:=hst.tmp t _ hts
        have:a.eval (.tmp t)=v':=by
         show a.tmps.getD t undef=v'
         obtain⟨hlt,e⟩:=Array.getElem?_eq_some_iff.1 e
         simp[Array.getD,hlt,e]
        rw[this]
        exact RdA.b_eq hr
       cases b with
       |true=>
        obtain⟨k1,k2,k3,k4,k5⟩:=ix call hcall f T N H o hT hO hL hr
        exact⟨k1,k2,k3,k4,fun Q V A β a w hA hst hQ=>wp_cond_true (hev hst) (k5 Q V A β a w hA hst hQ)⟩
       |false=>
        obtain⟨k1,k2,k3,k4,k5⟩:=iy call hcall f T N H o hT hO hL hr
        exact⟨k1,k2,k3,k4,fun Q V A β a w hA hst hQ=>wp_cond_false (hev hst) (k5 Q V A β a w hA hst hQ)⟩
 | .block id c,run,h=>by
   unfold cC at h
   cases hx:cC P n m c with
   |none=>rw[hx] at h;cases h
   |some rx=>
    rw[hx] at h
    injection h with h
    subst h
    have ix:=fB hfol c hx
    intro call hcall f T N H o hT hO hL hr
    have e:IY id rx call f T N H= @Ro.rec (fun _=>Ro) .no (fun T N H=>.n T N H) (fun id' T N H=>@Bool.rec (fun _=>Ro) (.x id' T N H) (.n T N H) (Nat.beq id' id)) (fun T N H=>.r T N H) (rx call f T N H):=rfl
    rw[e] at hr
    have hc1:=ix call hcall f T N H
    cases hq:rx call f T N H with
    |no=>rw[hq] at hr;cases hr
    |n T1 N1 H1=>
     rw[hq] at hr hc1
     injection hr with hr
     subst hr
     exact(hc1 _ hT hO hL rfl).as fun Q a w hq=>wp_block (hq (Exit.inBlock id Q) fun a' w' h=>h)
    |r T1 N1 H1=>
     rw[hq] at hr hc1
     injection hr with hr
     subst hr
     exact(hc1 _ hT hO hL rfl).as fun Q a w hq=>wp_block (hq (Exit.inBlock id Q) fun a' w' h=>h)
    |x id' T1 N1 H1=>
     rw[hq] at hr hc1
     cases hb:Nat.beq id' id with
     |true=>
      have hr:(match Nat.beq id' id with|true=>Ro.n T1 N1 H1|false=>Ro.x id' T1 N1 H1).out=some o:=by
       rw[hb];rw[show(@Ro.rec (fun _=>Ro) .no (fun T N H=>.n T N H) (fun id' T N H=>@Bool.rec (fun _=>Ro) (.x id' T N H) (.n T N H) (Nat.beq id' id)) (fun T N H=>.r T N H) (.x id' T1 N1 H1))= @Bool.rec (fun _=>Ro) (.x id' T1 N1 H1) (.n T1 N1 H1) (Nat.beq id' id) from rfl,hb] at hr;exact hr
      rw[hb] at hr
      injection hr with hr
      subst hr
      exact(hc1 _ hT hO hL rfl).as fun Q a w hq=>wp_block (hq (Exit.inBlock id Q) fun a' w' h=>by
       show if id'=id then Q .normal a' w' else Q (.exit id') a' w'
       rw[if_pos (Nat.eq_of_beq_eq_true hb)];exact h)
     |false=>
      rw[show(@Ro.rec (fun _=>Ro) .no (fun T N H=>.n T N H) (fun id' T N H=>@Bool.rec (fun _=>Ro) (.x id' T N H) (.n T N H) (Nat.beq id' id)) (fun T N H=>.r T N H) (.x id' T1 N1 H1))= @Bool.rec (fun _=>Ro) (.x id' T1 N1 H1) (.n T1 N1 H1) (Nat.beq id' id) from rfl,hb] at hr
      injection hr with hr
      subst hr
      exact(hc1 _ hT hO hL rfl).as fun Q a w hq=>wp_block (hq (Exit.inBlock id Q) fun a' w' h=>by
       show if id'=id then Q .normal a' w' else Q (.exit id') a' w'
       rw[if_neg (Nat.ne_of_beq_eq_false hb)];exact h)
 | .loop c,run,h=>by
   unfold cC at h
   cases hx:cC P n m c with
   |none=>rw[hx] at h;cases h
   |some rx=>
    rw[hx] at h
    injection h with h
    subst h
    have ix:=fB hfol c hx
    intro call hcall f T N H o hT hO hL hr
    have hr:(CJ rx call f f T N H).out=some o:=hr
    obtain⟨k1,k2,k3,k4,k5⟩:=ti ix hcall f T N H o hT hO hL hr
    exact⟨k1,k2,k3,k4,fun Q V A β a w hA hst hQ=>wp_loop_rounds f (k5 Q V A β a w hA hst hQ)⟩
 | .cond (.const v) x y,run,h=>by
   cases v with
   |bool b=>
    cases b with
    |true=>
     have ix:=fB hfol x (show cC P n m x=some run from h)
     intro call hcall f T N H o hT hO hL hr
     obtain⟨k1,k2,k3,k4,k5⟩:=ix call hcall f T N H o hT hO hL hr
     exact⟨k1,k2,k3,k4,fun Q V A β a w hA hst hQ=>wp_cond_true rfl (k5 Q V A β a w hA hst hQ)⟩
    |false=>
     have iy:=fB hfol y (show cC P n m y=some run from h)
     intro call hcall f T N H o hT hO hL hr
     obtain⟨k1,k2,k3,k4,k5⟩:=iy call hcall f T N H o hT hO hL hr
     exact⟨k1,k2,k3,k4,fun Q V A β a w hA hst hQ=>wp_cond_false rfl (k5 Q V A β a w hA hst hQ)⟩
   |_=>cases h
 | .cond (.func _) x y,run,h=>by cases h
 | .goto l,run,h=>by cases h
 | .label l,run,h=>by cases h
end
section
variable {P:Program}{n m:Nat}{T:Tr XV}{N:Nat}{H:Tr Bx}
theorem FZ {v:XV}{d:XD}(h:Tz v=some d):v=LK d:=by
 cases v with
 |c x=>injection h with h;subst h;rfl
 |a k r=>injection h with h;subst h;rfl
 |t ds=>cases h
 |u=>cases h
theorem qK {A Z:Nat→Prop}{w:World}{β:Nat→Pl}{v:Value}{d:XD}:RdX2 A Z w β v (LK d)↔RdD A Z w β v d:=by cases d<;>exact Iff.rfl
theorem Iv {d:XD}:sM (LK d)↔sD d:=by cases d<;>exact Iff.rfl
theorem StX.look {V A:Nat→Prop}{T:TX}{H:HF}{β:Nat→Pl}{a:Act}{w:World}{t:Nat}{x:XV}(h:StX V A n T H β a w) (ht:T t=some x):RdX2 A (Zs V H β) w β (a.tmps.getD t undef) x:=by
 obtain⟨v,e,hr⟩:=h.tmp t x ht
 obtain⟨hlt,e⟩:=Array.getElem?_eq_some_iff.1 e
 have:a.tmps.getD t undef=v:=by simp[Array.getD,hlt,e]
 rw[this];exact hr
theorem E6 (hT:gW (TS m [] T)) (hO:fS H) {rv:ResultVar}{r:XR}{d:XD}(hc:Ps P m rv=some r) (h:On T H r=some d):sD d∧ ∀V A β a w,StX V A n (TS m [] T) (HS H) β a w→
 ∃v,(jZ a rv).run P w=.ok v w∧RdD A (Zs V (HS H) β) w β v d:=by
 have hts: ∀ {t x},m.testBit t=false→T.get t=some x→TS m [] T t=some x:=fun hb h=>by unfold TS;rw[hb];exact h
 cases rv with
 |tmp t=>
  unfold Ps at hc
  dsimp only at hc
  cases hb:m.testBit t with
  |true=>rw[hb] at hc;cases hc
  |false=>
   rw[hb] at hc
   injection hc with hc
   subst hc
   obtain⟨v,hv,h2⟩:=aK (show oO (T.get t) Tz=some d from h)
   have e:=FZ h2
   subst e
   have hs:=hts hb hv
   exact⟨Iv.1 (hT t _ hs),fun V A β a w hst=>⟨_,rfl,qK.1 (hst.look hs)⟩⟩
 |cell t U=>
  unfold Ps at hc
  dsimp only at hc
  cases hb:m.testBit t with
  |true=>rw[hb] at hc;cases hc
  |false=>
   rw[hb] at hc
   dsimp only[cond_false] at hc
   split at hc
   ·rename_i k hU
    injection hc with hc
    subst hc
    obtain⟨v,hv,h⟩:=aK (show oO (T.get t) (fun v=>xP v fun k' off=>oO (H.get k') fun b=>bT (Nat.ble (Nat.add off k) b.n) (some (XD.a k (fr b.r b.n off k))))=some d from h)
    obtain⟨j,off,rfl,h⟩:=kg h
    obtain⟨b,hbx,h⟩:=aK h
    obtain⟨hn,h⟩:=bp h
    rw[dt] at hn
    injection h with h
    subst h
    obtain⟨hb1,hb2⟩:=hO j b hbx
    obtain⟨g1,g2⟩:=gg b.r b.n off k hb1 hb2 hn
    have hn':off+k≤b.r.flat.length:=by rw[←hb2];exact hn
    refine⟨⟨g1,by rw[g2];simp;omega⟩,fun V A β a w hst=>?_⟩
    obtain⟨e1,hk⟩:=RdA.p_eq (hst.look (hts hb hv))
    obtain⟨vs,ev,hz,hl,hr⟩:=hst.mem.box j b.U b.r.flat (kH hbx)
    have hr2:=(hr.drop off).take k
    have hlen:((vs.toList.take b.r.flat.length).drop off).take k=((vs.toList.drop off).take k):=by
     rw[List.drop_take,List.take_take,Nat.min_eq_left (by omega)]
    rw[hlen] at hr2
    have hrun:=fF (P:=P) (w:=w) hU (b:=(β j).b) (off:=off) (vs:=(vs.toList.drop off).take k) (by simp;omega) (fun j v hv=>by
     rw[List.getElem?_take] at hv
     split at hv
     ·rw[bq ev,←hv];simp
     ·cases hv)
    refine⟨.agg ((vs.toList.drop off).take k).toArray,?_,((vs.toList.drop off).take k).toArray,rfl,by rw[g2];simpa using hr2⟩
    simp only[jZ,e1,asAddr,Sem.run_bind,Sem.run_pure,Result.andThen_ok,hrun]
   ·rename_i k hU
    injection hc with hc
    subst hc
    obtain⟨v,hv,h⟩:=aK (show oO (T.get t) (fun v=>xP v fun k' off=>oO (H.get k') fun b=>oO (kL b.r off) fun a=>some (XD.c a))=some d from h)
    obtain⟨j,off,rfl,h⟩:=kg h
    obtain⟨b,hbx,h⟩:=aK h
    obtain⟨c,hc2,h⟩:=aK h
    injection h with h
    subst h
    obtain⟨hb1,hb2⟩:=hO j b hbx
    rw[lk b.r off hb1] at hc2
    have hlt:=(List.getElem?_eq_some_iff.1 hc2).1
    refine⟨trivial,fun V A β a w hst=>?_⟩
    obtain⟨e1,hk⟩:=RdA.p_eq (hst.look (hts hb hv))
    obtain⟨vs,ev,hz,hl,hr⟩:=hst.mem.box j b.U b.r.flat (kH hbx)
    have hv2:vs.toList[off]? =some (vs.toList[off]'(by simp;omega)):=List.getElem?_eq_getElem _
    have hrd:=hr.2 off (vs.toList[off]'(by simp;omega)) c (by rw[List.getElem?_take,if_pos hlt];exact hv2) hc2
    have hrun:=fI (P:=P) (w:=w) hU (b:=(β j).b) (off:=off) (by rw[bq ev,←Array.getElem?_toList,hv2])
    refine⟨_,?_,hrd⟩
    simp only[jZ,e1,asAddr,Sem.run_bind,Sem.run_pure,Result.andThen_ok,hrun]
   ·cases hc
theorem og (hT:gW (TS m [] T)) (hO:fS H): ∀(rvs:List ResultVar) (rs:List XR) (ds:List XD),gP (Ps P m) rvs=some rs→mZ T H rs=some ds→(∀d∈ds,sD d)∧ ∀V A β a w,StX V A n (TS m [] T) (HS H) β a w→
 ∃vs:List Value,(rvs.mapM (jZ a)).run P w=.ok vs w∧RdDs A (Zs V (HS H) β) w β vs ds
 |[],rs,ds,hc,h=>by
  injection hc with hc
  subst hc
  injection h with h
  subst h
  exact⟨fun d hd=>(by cases hd),fun V A β a w _=>⟨[],rfl,rfl,fun j v d hv=>by simp at hv⟩⟩
 |rv::rvs,rs,ds,hc,h=>by
  unfold gP at hc
  split at hc
  ·cases hc
  ·rename_i r hr
   split at hc
   ·cases hc
   ·rename_i rs' hrs
    injection hc with hc
    subst hc
    obtain⟨d,hd,h⟩:=aK (show oO (On T H r) (fun d=>oO (mZ T H rs') fun ds=>some (d::ds))=some ds from h)
    obtain⟨ds',hds,h⟩:=aK h
    injection h with h
    subst h
    obtain⟨k1,k2⟩:=E6 (n:=n) hT hO hr hd
    obtain⟨l1,l2⟩:=og hT hO rvs rs' ds' hrs hds
    refine⟨fun x hx=>?_,fun V A β a w hst=>?_⟩
    ·rcases List.mem_cons.1 hx with rfl|hx
     ·exact k1
     ·exact l1 x hx
    ·obtain⟨v,e1,r1⟩:=k2 V A β a w hst
     obtain⟨vs,e2,r2,r3⟩:=l2 V A β a w hst
     refine⟨v::vs,?_,by simp[r2],fun j y x hu hx=>?_⟩
     ·rw[List.mapM_cons]
      simp only[Sem.run_bind,e1,Result.andThen_ok,e2,Sem.run_pure]
     ·cases j with
      |zero=>simp at hu hx;subst hu hx;exact r1
      |succ j=>simp at hu hx;exact r3 j y x hu hx
theorem tL {ds:List XD}(h: ∀d∈ds,sD d):sM (mD ds):=by
 match ds,h with
 |[],_=>exact show ∀d∈([]:List XD),sD d from fun d hd=>by cases hd
 |[d],h=>exact Iv.2 (h d (List.mem_cons_self ..))
 |d::d'::r,h=>exact show ∀x∈d::d'::r,sD x from h
theorem rb {A Z:Nat→Prop}{w:World}{β:Nat→Pl}{vs:List Value}{ds:List XD}(h:RdDs A Z w β vs ds):RdX2 A Z w β (if h:vs.toArray.size=1 then vs.toArray[0] else .tuple vs.toArray) (mD ds):=by
 match vs,ds,h with
 |[],[],h=>exact⟨_,rfl,h⟩
 |[v],[d],h=>exact qK.2 (h.2 0 v d rfl rfl)
 |v::v'::vs',d::d'::ds',h=>exact⟨(v::v'::vs').toArray,dif_neg (by simp),by simpa using h⟩
 |[],d::ds,h=>exact absurd h.1 (by simp)
 |v::vs,[],h=>exact absurd h.1 (by simp)
 |[v],d::d'::ds,h=>exact absurd h.1 (by simp)
 |v::v'::vs,[d],h=>exact absurd h.1 (by simp)
theorem yV {fn:Func}{a:Act}{w:World}{vs:List Value}(hrun:(fn.results.toList.mapM (jZ a)).run P w=.ok vs w):
 (results fn a.tmps).run P w=.ok (if h:vs.toArray.size=1 then vs.toArray[0] else .tuple vs.toArray) w:=by
 have key: ∀g:ResultVar→Go.Sem Value,(∀r,g r=jZ a r)→(do let vs ←fn.results.mapM g;pure (if h:vs.size=1 then vs[0] else .tuple vs):Go.Sem Value).run P w=.ok (if h:vs.toArray.size=1 then vs.toArray[0] else .tuple vs.toArray) w:=by
  intro g hg
  rw[funext hg]
  simp[Array.mapM_eq_mapM_toList,hrun]
 unfold results
 exact key _ (fun r=>by cases r<;>rfl)
theorem sS: ∀(vs:List XV) (k:Nat) (t:Tr XV) (j:Nat) (x:XV),(kJ vs k t).get j=some x→(k≤j∧vs[j-k]? =some x)∨t.get j=some x
 |[],k,t,j,x,h=>.inr h
 |v::vs,k,t,j,x,h=>by
  rcases sS vs (k+1) (t.set v k) j x h with⟨h1,h2⟩|h
  ·refine .inl ⟨by omega,?_⟩
   rw[show j-k=(j-(k+1))+1 by omega]
   simpa using h2
  ·rcases Tr.set_get t k j h with⟨e1,e2⟩|⟨_,h⟩
   ·subst e1 e2;exact .inl ⟨Nat.le_refl _,by simp⟩
   ·exact .inr h
theorem yh {vs:List XV}{j:Nat}{x:XV}(h:(kJ vs 0 .e).get j=some x):vs[j]? =some x:=by
 rcases sS vs 0 .e j x h with⟨_,h⟩|h
 ·simpa using h
 ·cases h
theorem CB {vs:List XV}{t:Nat}{x:XV}(h:TS m [] (kJ vs 0 .e) t=some x):vs[t]? =some x:=by
 unfold TS at h
 cases hb:m.testBit t with
 |true=>rw[hb] at h;cases h
 |false=>rw[hb] at h;exact yh h
theorem u7: ∀(vs:List XV) (n:Nat),OE vs n=true→vs.length≤n
 |[],n,_=>Nat.zero_le _
 |v::vs,0,h=>by cases h
 |v::vs,n+1,h=>Nat.succ_le_succ (u7 vs n h)
theorem yb {vs:List XV}(h: ∀v∈vs,sM v):gW (TS m [] (kJ vs 0 .e)):=fun _ x ht=>h x (List.mem_of_getElem? (CB ht))
theorem QL {V A:Nat→Prop}{HH:HF}{β:Nat→Pl}{w:World}{args:Array Value}{vs:List XV}(hm:Mem V A HH β w) (hr:ub A (Zs V HH β) w β args.toList vs) (hn:vs.length≤n):
 StX V A n (TS m [] (kJ vs 0 .e)) HH β {tmps:=args++Array.replicate (n-args.size) undef,defers:=[]} w:=by
 have hl:args.size=vs.length:=by have:=hr.1;simpa using this
 refine⟨hm,rfl,by simp;omega,fun t x ht=>?_⟩
 have h2:=CB ht
 have hlt:t<args.size:=by rw[hl];exact(List.getElem?_eq_some_iff.1 h2).1
 have hv:args.toList[t]? =some args[t]:=by rw[Array.getElem?_toList];exact Array.getElem?_eq_getElem hlt
 refine⟨args[t],?_,hr.2 t _ x hv h2⟩
 show(args++Array.replicate (n-args.size) undef)[t]? =_
 rw[Array.getElem?_append_left hlt];exact Array.getElem?_eq_getElem hlt
theorem RdA.pure {A A' Z Z':Nat→Prop}{w:World}{β β':Nat→Pl}(hk:Keep Z Z' w w) {v:Value}{x:AV}(h:RdA A Z w β v x) (hp:PH x=true):RdA A' Z' w β' v x:=by
 cases h with
 |b v=>exact .b v
 |i k n=>exact .i k n
 |l v x h=>exact .l v x (h.keep hk)
 |p k off=>cases hp
 |s=>cases hp
 |z=>exact .z
 |ev a c h1 h2=>exact .ev a c h1 h2
 |np=>exact .np
 |f g cs xs y h1 h2 h3=>
  cases x with
  |f0 g'=>
   injection h1 with h1
   injection h1 with h1 h4
   subst h1 h4
   exact .f g' cs [] (.f0 g') rfl h2 fun j v x _ hx=>by simp at hx
  |fc=>cases hp
  |_=>cases h1
theorem RdD.pure {A A' Z Z':Nat→Prop}{w:World}{β β':Nat→Pl}(hk:Keep Z Z' w w) {v:Value}{d:XD}(h:RdD A Z w β v d) (hd:sD d) (hp:Nf (LK d)=true):RdD A' Z' w β' v d:=by
 cases d with
 |c x=>exact RdA.pure hk h hp
 |a k r=>
  obtain⟨cs,e,h1,h2⟩:=h
  exact⟨cs,e,h1,fun j v x hv hx=>(h2 j v x hv hx).pure hk (s5 hd.1 hp x (List.mem_of_getElem? hx))⟩
theorem RdX2.pure {A A' Z Z':Nat→Prop}{w:World}{β β':Nat→Pl}(hk:Keep Z Z' w w) {v:Value}{x:XV}(h:RdX2 A Z w β v x) (hd:sM x) (hp:Nf x=true):RdX2 A' Z' w β' v x:=by
 cases x with
 |c x=>exact RdA.pure hk h hp
 |a k r=>exact RdD.pure (d:=.a k r) hk h hd hp
 |t ds=>cases hp
 |u=>cases hp
theorem wv {a b:Bool}(h:bA a b=true):a=true∧b=true:=by cases a<;>simp[bA] at h⊢ <;>exact h
theorem yf: ∀ {vs:List XV},PL vs=true→ ∀v∈vs,Nf v=true
 |[],_,v,hv=>by cases hv
 |u0::vs,h,v,hv=>by
  obtain⟨h1,h2⟩:=wv (show bA (Nf u0) (PL vs)=true from h)
  rcases List.mem_cons.1 hv with rfl|hv
  ·exact h1
  ·exact yf h2 v hv
theorem xV: ∀ {ds:List XD},PO ds=true→ ∀d∈ds,Nf (LK d)=true
 |[],_,v,hv=>by cases hv
 |d0::vs,h,v,hv=>by
  obtain⟨h1,h2⟩:=wv (show bA (Nf (LK d0)) (PO vs)=true from h)
  rcases List.mem_cons.1 hv with rfl|hv
  ·exact h1
  ·exact xV h2 v hv
end
section
variable {P:Program}{n m:Nat}{T:Tr XV}{N:Nat}{H:Tr Bx}
theorem nK {F:XF}{κ:Tr XV→Nat→Tr Bx→Cr}{r:Ro}{y:Cr}(h:Fk F κ r=y) (hy:y≠ .no): ∃e T N H,r.out=some (e,T,N,H)∧(e=.normal∨e=.ret)∧κ T N H=y:=by
 cases r with
 |no=>exact absurd h.symm hy
 |n T N H=>exact⟨_,T,N,H,rfl,.inl rfl,h⟩
 |x id T N H=>exact absurd h.symm hy
 |r T N H=>exact⟨_,T,N,H,rfl,.inr rfl,h⟩
theorem LB {pu:Bool}{fn:Func}{F:XF}(h:cF P pu m fn=some F): ∃c,fn.body=some c∧cC P fn.ntmps m c=some F.run∧gP (Ps P m) fn.results.toList=some F.rs∧F.na=fn.ntmps:=by
 unfold cF at h
 split at h
 ·cases h
 ·rename_i c hc
  split at h
  ·rename_i x rs h1 h2
   injection h with h
   subst h
   exact⟨c,hc,h1,h2,rfl⟩
  ·cases h
theorem CP:fS .e:=fun k b h=>by cases h
theorem Dh:fZ 0 .e:=fun k b h=>by cases h
theorem sO {fn:Func}{c:Code}{fid:FuncId}{args:Array Value}{w:World}{vs:List XV}{V A:Nat→Prop}{β:Nat→Pl}{e:Exit}{T':Tr XV}{N':Nat}{H':Tr Bx}{rs:List XR}{ds:List XD}
 (hf:P.funcs[fid]? =some fn) (hb:fn.body=some c) (hrs:gP (Ps P m) fn.results.toList=some rs) (he:e=.normal∨e=.ret) (hds:mZ T' H' rs=some ds)
 (hd:Does P fn.ntmps m (fun Q=>c.wp P Q) (kJ vs 0 .e) N H (e,T',N',H')) (hA: ∀k,A k→ ¬(N≤k∧k<N')) (hm:Mem V A (HS H) β w) (hr:ub A (Zs V (HS H) β) w β args.toList vs) (hn:vs.length≤fn.ntmps):
 Calls P fid args w fun e w'=> ∃v A' β',e=.returned v∧(∀k,A k→A' k)∧(∀k,A' k→Ad A N N' k)∧Mem V A' (HS H') β' w'∧Hst N N' A (HS H) β w (HS H') β' w'∧ ∃us:List Value,RdDs A' (Zs V (HS H') β') w' β' us ds∧v=(if h:us.toArray.size=1 then us.toArray[0] else .tuple us.toArray):=by
 refine calls_of_wp hf hb ?_
 obtain⟨k1,k2,k3,k4,k5⟩:=hd
 refine k5 (bodyPost P fn _) V A β _ w hA (QL hm hr hn) fun a' w' ⟨A',β',f1,f2,f3,f4⟩=>?_
 obtain⟨g1,g2⟩:=og (n:=fn.ntmps) k2 k3 _ _ _ hrs hds
 obtain⟨us,hrun,hrd⟩:=g2 V A' β' a' w' f4
 have hres:=yV hrun
 rcases he with rfl|rfl
 ·exact⟨f4.dfr,_,hres,_,A',β',rfl,f1,f2,f4.mem,f3,us,hrd,rfl⟩
 ·exact⟨f4.dfr,_,hres,_,A',β',rfl,f1,f2,f4.mem,f3,us,hrd,rfl⟩
theorem yQ (hfol:P.follows .mixedOrders=true) {ih:fb}(hih:iQ P ih) {F:XF}{pu:Bool}{fn:Func}{g:FuncId}(hF:cF P pu m fn=some F) (hf:P.funcs[g]? =some fn) (hcal:eL P g=true) {fuel:Nat}{vs:List XV}(hvs: ∀v∈vs,sM v) (hO:fS H) (hL:fZ N H):
 (∀x,u6 F ih fuel vs N H=.p x→CallP P g vs x)∧ ∀x N' H',u6 F ih fuel vs N H=.h x N' H'→CallH P g vs N H x N' H':=by
 obtain⟨c,hb,hc,hrs,hna⟩:=LB hF
 have hcode:=fB hfol c hc
 have hlen: ∀ {y},u6 F ih fuel vs N H=y→y≠ .no→vs.length≤fn.ntmps∧(@Bool.rec (fun _=>Cr)
  (Fk F (fun T N' H'=>@Option.rec (List XD) (fun _=>Cr) .no (fun ds=>.h (mD ds) N' H') (mZ T H' F.rs)) (F.run ih fuel (kJ vs 0 .e) N H))
  (Fk F (fun T _ H'=>@Option.rec (List XD) (fun _=>Cr) .no (fun ds=>@Bool.rec (fun _=>Cr) .no (.p (mD ds)) (PO ds)) (mZ T H' F.rs)) (F.run ih fuel (kJ vs 0 .e) 0 .e))
  (bA F.pure (PL vs)))=y:=by
  intro y h hy
  unfold u6 at h
  cases hl:OE vs F.na with
  |false=>rw[hl] at h;exact absurd h.symm hy
  |true=>rw[hl] at h;exact⟨by rw[←hna];exact u7 _ _ hl,h⟩
 refine⟨fun x h=>?_,fun x N' H' h=>?_⟩
 ·obtain⟨hn,h⟩:=hlen h (by simp)
  cases hp:bA F.pure (PL vs) with
  |false=>
   rw[hp] at h
   obtain⟨e,T1,N1,H1,_,_,h⟩:=nK h (by simp)
   cases hd:mZ T1 H1 F.rs with
   |none=>rw[hd] at h;cases h
   |some ds=>rw[hd] at h;cases h
  |true=>
   rw[hp] at h
   have hpu:=yf (wv hp).2
   obtain⟨e,T1,N1,H1,ho,he,h⟩:=nK h (by simp)
   cases hd:mZ T1 H1 F.rs with
   |none=>rw[hd] at h;cases h
   |some ds=>
    rw[hd] at h
    dsimp only at h
    cases hq:PO ds with
    |false=>rw[hq] at h;cases h
    |true=>
     rw[hq] at h
     injection h with h
     subst h
     have hdo:=hcode ih hih fuel _ _ _ _ (yb (m:=m) hvs) CP Dh ho
     have hdok:=(og (n:=fn.ntmps) hdo.2.1 hdo.2.2.1 _ _ _ hrs hd).1
     refine⟨hcal,tL hdok,fun Z A β args w hZ hr=>?_⟩
     have hm:Mem Z (fun _=>False) (HS .e) β w:=⟨hZ,fun k hk=>absurd rfl hk,fun k hk=>hk.elim,fun k l hk=>absurd rfl hk,fun k hk=>absurd rfl hk,fun k U cs hk=>by cases hk⟩
     have hk1:Keep Z (Zs Z (HS .e) β) w w:=⟨Nat.le_refl _,fun _ _ _=>rfl,fun b _ hb=>by
      rcases hb with hb|⟨k,hk,_⟩
      ·exact hb
      ·exact absurd rfl hk⟩
     have hr2:ub (fun _=>False) (Zs Z (HS .e) β) w β args.toList vs:=⟨hr.1,fun j v x hv hx=>(hr.2 j v x hv hx).pure hk1 (hvs x (List.mem_of_getElem? hx)) (hpu x (List.mem_of_getElem? hx))⟩
     refine(sO hf hb hrs he hd hdo (V:=Z) (A:=fun _=>False) (β:=β) (fun k hk=>hk.elim) hm hr2 hn).mono fun e' w' hh=>?_
     obtain⟨v,A',β',rfl,_,_,hm',hh',us,hus,rfl⟩:=hh
     have hk2:Keep (Zs Z (HS H1) β') Z w' w':=⟨Nat.le_refl _,fun _ _ _=>rfl,fun b _ hb=>.inl hb⟩
     refine⟨_,rfl,fun A2 β2=>rb ⟨hus.1,fun j v d hv hd2=>(hus.2 j v d hv hd2).pure hk2 (hdok d (List.mem_of_getElem? hd2)) (xV hq d (List.mem_of_getElem? hd2))⟩,hh'.os,hh'.tape,hh'.output,hh'.size,fun k hk=>hh'.blk k hk fun j hj=>absurd rfl hj⟩
 ·obtain⟨hn,h⟩:=hlen h (by simp)
  cases hp:bA F.pure (PL vs) with
  |true=>
   rw[hp] at h
   obtain⟨e,T1,N1,H1,_,_,h⟩:=nK h (by simp)
   cases hd:mZ T1 H1 F.rs with
   |none=>rw[hd] at h;cases h
   |some ds=>
    rw[hd] at h
    dsimp only at h
    cases hq:PO ds with
    |false=>rw[hq] at h;cases h
    |true=>rw[hq] at h;cases h
  |false=>
   rw[hp] at h
   obtain⟨e,T1,N1,H1,ho,he,h⟩:=nK h (by simp)
   cases hd:mZ T1 H1 F.rs with
   |none=>rw[hd] at h;cases h
   |some ds=>
    rw[hd] at h
    injection h with h1 h2 h3
    subst h1 h2 h3
    have hdo:=hcode ih hih fuel _ _ _ _ (yb (m:=m) hvs) hO hL ho
    have hdok:=(og (n:=fn.ntmps) hdo.2.1 hdo.2.2.1 _ _ _ hrs hd).1
    refine⟨hdo.1,hcal,tL hdok,hdo.2.2.1,hdo.2.2.2.1,fun V A β args w hA hm hr=>?_⟩
    refine(sO hf hb hrs he hd hdo hA hm hr hn).mono fun e' w' hh=>?_
    obtain⟨v,A',β',rfl,g1,g2,hm',hh',us,hus,rfl⟩:=hh
    exact⟨_,A',β',rfl,g1,g2,hm',hh',rb hus⟩
structure EnvOk (P:Program) (E:Env):Prop where
 pr: ∀g p vs ds,E.pr.get g=some p→(∀v∈vs,sM v)→p vs=some ds→CallP P g vs (mD ds)
 fs: ∀g F,E.fs.get g=some (some F)→ ∃pu m fn,cF P pu m fn=some F∧P.funcs[g]? =some fn∧eL P g=true
theorem rg (hfol:P.follows .mixedOrders=true) {E:Env}(hE:EnvOk P E) {fuel:Nat}: ∀depth,iQ P (Dq E fuel depth)
 |0=>fun f vs N H _ _ _=>⟨fun x h=>(by cases h),fun x N' H' h=>(by cases h)⟩
 |d+1=>fun f vs N H hvs hO hL=>by
  have e1:Dq E fuel (d+1) f vs N H= @Option.rec (List XD) (fun _=>Cr) (@Option.rec XF (fun _=>Cr) .no (fun F=>u6 F (Dq E fuel d) fuel vs N H) (oO (E.fs.get f) fun x=>x)) (fun ds=>.p (mD ds)) (oO (E.pr.get f) fun p=>p vs):=rfl
  cases hp:(oO (E.pr.get f) fun p=>p vs) with
  |some ds=>
   rw[e1,hp]
   obtain⟨p,h1,h2⟩:=aK hp
   refine⟨fun x h=>?_,fun x N' H' h=>(by cases h)⟩
   injection h with h
   subst h
   exact hE.pr f p vs ds h1 hvs h2
  |none=>
   rw[e1,hp]
   cases hF:(oO (E.fs.get f) fun x=>x) with
   |none=>exact⟨fun x h=>(by cases h),fun x N' H' h=>(by cases h)⟩
   |some F=>
    obtain⟨y,h1,h2⟩:=aK hF
    subst h2
    obtain⟨pu,m,fn,h3,h4,h5⟩:=hE.fs f F h1
    exact yQ hfol (rg hfol hE d) h3 h4 h5 hvs hO hL
end
section
variable {β:Type}
noncomputable def SF (x:AV) (f:Nat→Option β):Option β:=@AV.rec (fun _=>Option β) (fun _=>none) (fun _ _=>none) f (fun _ _=>none) (fun _ _ _ _ _ _=>none) (f 0) none none (fun _=>none) (fun _ _ _ _=>none) x
noncomputable def aZ (s x:AV) (f:Int→Option β):Option β:=aB s fun b=>SF x fun n=>@Bool.rec (fun _=>Option β) (f (.ofNat n)) (@Nat.rec (fun _=>Option β) none (fun m _=>f (.negSucc m)) n) b
noncomputable def aF (x:AV) (y:Option β):Option β:=aB x fun b=>@Bool.rec (fun _=>Option β) y none b
noncomputable def T5 (r:Rp) (f:AV→Option β):Option β:=@Rp.rec (fun _=>Option β) none f (fun _ _ _ _ _ _=>none) r
noncomputable def r2 (r:Rp) (f:AV→AV→Option β):Option β:=@Rp.rec (fun _=>Option β) none (fun _=>none) (fun _ _ l r _ _=>T5 l fun x=>T5 r fun y=>f x y) r
end
noncomputable def c2 (r:Rp):Option (AV×AV):=@Option.rec (AV×AV) (fun _=>Option (AV×AV)) (oO (kL r 0) fun x=>oO (kL r 1) fun y=>some (x,y)) some (r2 r fun x y=>some (x,y))
noncomputable def TY (r:Rp):Option (AV×AV×AV×AV):=@Rp.rec (fun _=>Option (AV×AV×AV×AV)) none (fun _=>none) (fun _ _ l r _ _=>r2 l fun s x=>r2 r fun t y=>some (s,x,t,y)) r
noncomputable def c4 (r:Rp):Option (AV×AV×AV×AV):=@Option.rec (AV×AV×AV×AV) (fun _=>Option (AV×AV×AV×AV)) (oO (kL r 0) fun x=>oO (kL r 1) fun y=>oO (kL r 2) fun t=>oO (kL r 3) fun w=>some (x,y,t,w)) some (TY r)
noncomputable def ME (n:Nat):Bool:=Nat.blt n 1000000000000000000000000000000000000000000000000000000000000000000000000
noncomputable def dZ {β:Type}(v:XV) (f:Int→Option β):Option β:=xA v fun n r=>bT (Nat.beq n 2) (oO (c2 r) fun p=>aZ p.1 p.2 fun z=>bT (ME z.natAbs) (f z))
noncomputable def Sx {β:Type}(v:XV) (f:Int→Nat→Option β):Option β:=xA v fun n r=>bT (Nat.beq n 4) (oO (c4 r) fun p=>aZ p.1 p.2.1 fun z=>aF p.2.2.1 (SF p.2.2.2 fun d=>
 bT (Nat.blt 0 d) (bT (Nat.beq (Nat.gcd z.natAbs d) 1) (bT (ME z.natAbs) (bT (ME d) (f z d))))))
noncomputable def dW {β:Type}(v:XV) (f:Int→Option β):Option β:=xI v fun k x=>bT (Nat.beq (kN k) 3) (bI (oX x (-9223372036854775808)) none (bI (oX 9223372036854775807 x) none (f x)))
noncomputable def rZ (z:Int):Rp:=@Int.rec (fun _=>Rp) (fun n=>.n 1 true (.c (.b false)) (.c (.l n))) (fun n=>.n 1 true (.c (.b true)) (.c (.l (Nat.succ n)))) z
noncomputable def xZ (z:Int):XD:=.a 2 (rZ z)
noncomputable def xQ (z:Int) (d:Nat):XD:=.a 4 (.n 2 true (rZ z) (.n 1 true (.c (.b false)) (.c (.l d))))
noncomputable def T6 (z:Int) (g:Nat):Int:=@Int.rec (fun _=>Int) (fun n=>.ofNat (Nat.div n g)) (fun n=>Int.neg (.ofNat (Nat.div (Nat.succ n) g))) z
noncomputable def Ti (z:Int) (d g:Nat):XD:=xQ (T6 z g) (Nat.div d g)
noncomputable def Qd (z:Int) (d:Nat):XD:=Ti z d (Nat.gcd z.natAbs d)
noncomputable def Qi (y z:Int):Int:=@Int.rec (fun _=>Int) (fun _=>z) (fun _=>Int.neg z) y
noncomputable def xW (n:Int):XD:=.c (.i .i64 n)
noncomputable def Et (b:Bool):XD:=.c (.b b)
noncomputable def R4 (x y:Int):Int:=bI (oX x y) (-1) (bI (oX y x) 1 0)
abbrev oN:=List XV→Option (List XD)
noncomputable def l1 (f:XV→Option (List XD)):oN:=fun vs=>@List.rec XV (fun _=>Option (List XD)) none (fun v r _=>@List.rec XV (fun _=>Option (List XD)) (f v) (fun _ _ _=>none) r) vs
noncomputable def l2 (f:XV→XV→Option (List XD)):oN:=fun vs=>@List.rec XV (fun _=>Option (List XD)) none (fun v r _=>@List.rec XV (fun _=>Option (List XD)) none (fun v2 r2 _=>@List.rec XV (fun _=>Option (List XD)) (f v v2) (fun _ _ _=>none) r2) r) vs
noncomputable def q1 (f:Int→Nat→Option (List XD)):oN:=l1 fun v=>Sx v f
noncomputable def q2 (f:Int→Nat→Int→Nat→Option (List XD)):oN:=l2 fun v v2=>Sx v fun a b=>Sx v2 fun c d=>f a b c d
noncomputable def z1 (f:Int→Option (List XD)):oN:=l1 fun v=>dZ v f
noncomputable def z2 (f:Int→Int→Option (List XD)):oN:=l2 fun v v2=>dZ v fun a=>dZ v2 fun b=>f a b
noncomputable def w1 (f:Int→Option (List XD)):oN:=l1 fun v=>dW v f
noncomputable def ST (n:Nat) (k:Nat):Nat→Nat:=@Nat.rec (fun _=>Nat→Nat) (fun s=>s) (fun j ih s=>bI (Nat.ble (Nat.mul (Nat.add s (Nat.pow 2 j)) (Nat.add s (Nat.pow 2 j))) n) (ih (Nat.add s (Nat.pow 2 j))) (ih s)) k
noncomputable def T9 (n s:Nat) (f:Nat→Option (List XD)):Option (List XD):=bT (Nat.ble (Nat.mul s s) n) (bT (Nat.blt n (Nat.mul (Nat.succ s) (Nat.succ s))) (f s))
noncomputable def Mk (n:Nat) (f:Nat→Option (List XD)):Option (List XD):=T9 n (ST n (Nat.succ (Nat.div (Nat.log2 n) 2)) 0) f
noncomputable def Ua (z:Int) (f:Nat→Option (List XD)):Option (List XD):=@Int.rec (fun _=>Option (List XD)) (fun n=>Mk n f) (fun _=>none) z
noncomputable def G6:oN:=q2 fun a b c d=>some [Qd (Int.add (Int.mul a d) (Int.mul c b)) (Nat.mul b d)]
noncomputable def IE:oN:=q2 fun a b c d=>some [Qd (Int.sub (Int.mul a d) (Int.mul c b)) (Nat.mul b d)]
noncomputable def E3:oN:=q2 fun a b c d=>some [Qd (Int.mul a c) (Nat.mul b d)]
noncomputable def I6:oN:=q2 fun a b c d=>bI (Jm c 0) none (some [Qd (Qi c (Int.mul a d)) (Nat.mul b c.natAbs),xW 0])
noncomputable def Nu:oN:=q1 fun a b=>some [xQ (Int.neg a) b]
noncomputable def Fl:oN:=q2 fun a b c d=>some [xW (R4 (Int.mul a d) (Int.mul c b))]
noncomputable def BB:oN:=q1 fun a _=>some [xW (R4 a 0)]
noncomputable def AU:oN:=w1 fun a=>some [xQ a 1]
noncomputable def CE:oN:=q1 fun a b=>some [xZ (@Int.rec (fun _=>Int) (fun n=>.ofNat (Nat.div n b)) (fun n=>.negSucc (Nat.div n b)) a)]
noncomputable def HI:oN:=q2 fun a b c d=>some [Et (bA (Jm a c) (Nat.beq b d))]
noncomputable def Ju (z w:Int):XD:=.a 4 (.n 2 true (rZ z) (rZ w))
noncomputable def HJ:oN:=q1 fun a b=>@Int.rec (fun _=>Option (List XD)) (fun n=>Mk n fun s=>Mk b fun t=>bI (bA (Nat.beq (Nat.mul s s) n) (Nat.beq (Nat.mul t t) b)) (some [Ju s t,Et true]) (some [Ju 0 0,Et false])) (fun _=>some [Ju 0 0,Et false]) a
noncomputable def Mg:oN:=z2 fun a b=>some [xW (R4 a b)]
noncomputable def IV:oN:=w1 fun a=>some [xZ a]
noncomputable def Mm:oN:=z1 fun a=>some [xZ (Int.neg a)]
noncomputable def Nd:oN:=z2 fun a b=>some [xZ (Int.mul a b)]
noncomputable def Ff:oN:=z1 fun a=>Ua a fun s=>some [xZ (.ofNat s),xW 0]
noncomputable def CK:oN:=z1 fun a=>bI (oX a (-9223372036854775808)) none (bI (oX 9223372036854775807 a) none (some [xW a,Et true]))
section
variable {P:Program}
def AC (x:AV) (u:CellD):Prop:= ∀A Z w β v,RdA A Z w β v x→RdC Z w v u
def CA (u:CellD) (x:AV):Prop:= ∀A Z w β v,RdC Z w v u→RdA A Z w β v x
theorem AC.b (b:Bool):AC (.b b) (.b b):=fun A Z w β v h=>by
 cases h with
 |b=>exact .b b
 |f _ _ _ _ h1=>cases h1
theorem AC.i (k:IntKind) (n:Int):AC (.i k n) (.i k n):=fun A Z w β v h=>by
 cases h with
 |i=>exact .i k n
 |f _ _ _ _ h1=>cases h1
theorem AC.l (n:Nat):AC (.l n) (cL n):=fun A Z w β v h=>by
 cases h with
 |l _ _ h=>exact h
 |f _ _ _ _ h1=>cases h1
theorem Lk:cL ((0:Nat):Int)=.s 0 []:=by
 have:cH (0:Nat)=[]:=by unfold cH;rfl
 show CellD.s (cH 0).length ((cH 0).map (CellD.i .u32))=_
 rw[this];rfl
theorem AC.z:AC .z (cL ((0:Nat):Int)):=fun A Z w β v h=>by
 cases h with
 |z=>rw[Lk];exact .s0 none 0 (by omega)
 |f _ _ _ _ h1=>cases h1
theorem CA.b (b:Bool):CA (.b b) (.b b):=fun A Z w β v h=>by cases h with
 |b=>exact .b b
theorem CA.i (k:IntKind) (n:Int):CA (.i k n) (.i k n):=fun A Z w β v h=>by cases h with
 |i=>exact .i k n
theorem CA.l (n:Nat):CA (cL n) (.l n):=fun _A _Z _w _β v h=>.l v n h
def ACs:List AV→List CellD→Prop
 |[],[]=>True
 |x::xs,u::us=>AC x u∧ACs xs us
 |_,_=>False
def CAs:List CellD→List AV→Prop
 |[],[]=>True
 |u::us,x::xs=>CA u x∧CAs us xs
 |_,_=>False
theorem ACs.reads {A Z:Nat→Prop}{w:World}{β:Nat→Pl}: ∀ {xs:List AV}{us:List CellD}{vs:List Value},ACs xs us→RdAs A Z w β vs xs→RdCs Z w vs us
 |[],[],vs,_,h=>by
  have:vs=[]:=List.eq_nil_of_length_eq_zero h.1
  subst this;exact RdCs.nil
 |x::xs,y::us,[],_,h=>absurd h.1 (by simp)
 |x::xs,y::us,v::vs,hc,h=>by
  obtain⟨h1,h2⟩:=h.uncons
  exact RdCs.cons (hc.1 _ _ _ _ _ h1) (hc.2.reads h2)
 |[],_::_,_,hc,_=>hc.elim
 |_::_,[],_,hc,_=>hc.elim
theorem CAs.len: ∀ {us:List CellD}{xs:List AV},CAs us xs→us.length=xs.length
 |[],[],_=>rfl
 |_::us,_::xs,h=>by simp[h.2.len]
 |[],_::_,h=>h.elim
 |_::_,[],h=>h.elim
theorem CAs.at: ∀ {us:List CellD}{xs:List AV},CAs us xs→ ∀ {j:Nat}{x:AV},xs[j]? =some x→ ∃y,us[j]? =some y∧CA y x
 |[],[],_,j,x,h=>by simp at h
 |y::us,x0::xs,h,0,x,hx=>by simp at hx;subst hx;exact⟨y,rfl,h.1⟩
 |y::us,x0::xs,h,j+1,x,hx=>by simpa using h.2.at (by simpa using hx)
 |[],_::_,h,_,_,_=>h.elim
 |_::_,[],h,_,_,_=>h.elim
theorem CAs.reads {A Z:Nat→Prop}{w:World}{β:Nat→Pl}{us:List CellD}{xs:List AV}{vs:List Value}(hc:CAs us xs) (h:RdCs Z w vs us):RdAs A Z w β vs xs:=by
 refine⟨h.1.trans hc.len,fun j v x hv hx=>?_⟩
 obtain⟨y,h1,h2⟩:=hc.at hx
 exact h2 _ _ _ _ _ (h.2 j v y hv h1)
def QW (x:XV) (d:D0):Prop:= ∀A Z w β v,RdX2 A Z w β v x→RdV Z w v d
def rG (d:D0) (x:XD):Prop:=sD x∧ ∀A Z w β v,RdV Z w v d→RdD A Z w β v x
def InL:List XV→List D0→Prop
 |[],[]=>True
 |x::xs,u::us=>QW x u∧InL xs us
 |_,_=>False
def OutL:List D0→List XD→Prop
 |[],[]=>True
 |u::us,x::xs=>rG u x∧OutL us xs
 |_,_=>False
theorem InL.reads {A Z:Nat→Prop}{w:World}{β:Nat→Pl}: ∀ {xs:List XV}{us:List D0}{vs:List Value},InL xs us→ub A Z w β vs xs→RdL Z w vs us
 |[],[],vs,_,h=>by
  have:vs=[]:=List.eq_nil_of_length_eq_zero h.1
  subst this;exact RdL.nil
 |x::xs,y::us,[],_,h=>absurd h.1 (by simp)
 |x::xs,y::us,v::vs,hc,h=>by
  exact RdL.cons (hc.1 _ _ _ _ _ (h.2 0 v x rfl rfl)) (hc.2.reads (A:=A) (β:=β) ⟨by have:=h.1;simpa using this,fun j u z hu hz=>h.2 (j+1) u z (by simpa using hu) (by simpa using hz)⟩)
 |[],_::_,_,hc,_=>hc.elim
 |_::_,[],_,hc,_=>hc.elim
theorem OutL.ok: ∀ {us:List D0}{xs:List XD},OutL us xs→ ∀d∈xs,sD d
 |[],[],_,d,h=>by cases h
 |_::us,x::xs,h,d,hd=>by
  rcases List.mem_cons.1 hd with rfl|hd
  ·exact h.1.1
  ·exact h.2.ok d hd
 |[],_::_,h,_,_=>h.elim
 |_::_,[],h,_,_=>h.elim
theorem OutL.reads {A Z:Nat→Prop}{w:World}{β:Nat→Pl}: ∀ {us:List D0}{xs:List XD}{vs:List Value},OutL us xs→RdL Z w vs us→RdDs A Z w β vs xs
 |[],[],vs,_,h=>by
  have:vs=[]:=List.eq_nil_of_length_eq_zero h.1
  subst this;exact⟨rfl,fun j v d hv=>by simp at hv⟩
 |y::us,x::xs,[],_,h=>absurd h.1 (by simp)
 |y::us,x::xs,v::vs,hc,h=>by
  obtain⟨h1,h2⟩:=h.uncons
  have h3:=hc.2.reads (A:=A) (β:=β) h2
  refine⟨by simp[h3.1],fun j u d hu hd=>?_⟩
  cases j with
  |zero=>simp at hu hd;subst hu hd;exact hc.1.2 _ _ _ _ _ h1
  |succ j=>simp at hu hd;exact h3.2 j u d hu hd
 |[],_::_,_,hc,_=>hc.elim
 |_::_,[],_,hc,_=>hc.elim
theorem Tv {us:List D0}{xs:List XD}(hc:OutL us xs) {A Z:Nat→Prop}{w:World}{β:Nat→Pl}{v:Value}(h:Np Z w v us):RdX2 A Z w β v (mD xs):=by
 match us,xs,hc,h with
 |[d],[x],hc,h=>exact qK.2 (hc.1.2 _ _ _ _ _ h)
 |[],[],hc,h=>
  obtain⟨vs,e,h⟩:=h
  exact⟨vs,e,hc.reads h⟩
 |d::d'::us,x::x'::xs,hc,h=>
  obtain⟨vs,e,h⟩:=h
  exact⟨vs,e,hc.reads h⟩
 |[],_::_,hc,_=>exact hc.elim
 |_::_,[],hc,_=>exact hc.elim
 |[d],x::x'::xs,hc,_=>exact hc.2.elim
 |d::d'::us,[x],hc,_=>exact hc.2.elim
theorem nn {f:FuncId}{vs:List XV}{us rs:List D0}{xs:List XD}(hok:Ok P f us rs) (hi:InL vs us) (ho:OutL rs xs):CallP P f vs (mD xs):=by
 refine⟨hok.cal,tL ho.ok,fun Z A β args w hZ hr=>?_⟩
 refine(hok.run Z args w hZ (hi.reads hr)).mono fun e w' h=>?_
 obtain⟨v,rfl,h1,h2⟩:=h
 exact⟨v,rfl,fun A' β'=>Tv ho h1,h2⟩
theorem zu {β:Type}{x:AV}{f:Nat→Option β}{y:β}(h:SF x f=some y): ∃n:Nat,AC x (cL n)∧f n=some y:=by
 cases x with
 |l n=>exact⟨n,AC.l n,h⟩
 |z=>exact⟨0,AC.z,h⟩
 |_=>cases h
theorem Dv {β:Type}{s x:AV}{f:Int→Option β}{y:β}(h:aZ s x f=some y): ∃z:Int,AC s (.b (decide (z<0)))∧AC x (cL z)∧f z=some y:=by
 obtain⟨b,rfl,h⟩:=rV h
 obtain⟨n,hn,h⟩:=zu h
 cases b with
 |false=>exact⟨(n:Int),by rw[show decide ((n:Int)<0)=false by simp];exact AC.b _,hn,h⟩
 |true=>
  cases n with
  |zero=>cases h
  |succ m=>
   refine⟨.negSucc m,by rw[show decide (Int.negSucc m<0)=true from decide_eq_true (Int.negSucc_lt_zero m)];exact AC.b _,?_,h⟩
   have:cL (Int.negSucc m)=cL ((m+1:Nat):Int):=by unfold cL;rfl
   rw[this];exact hn
theorem wJ {β:Type}{r:Rp}{f:AV→AV→Option β}{y:β}(h:r2 r f=some y): ∃a b,r.flat=[a,b]∧f a b=some y:=by
 cases r with
 |n ls pu l r=>
  cases l with
  |c a=>
   cases r with
   |c b=>exact⟨a,b,rfl,h⟩
   |_=>cases h
  |_=>cases h
 |_=>cases h
theorem Lo {r:Rp}{p:AV×AV}(hr:r.ok) (hl:r.flat.length=2) (h:c2 r=some p):r.flat=[p.1,p.2]:=by
 unfold c2 at h
 cases h1:(r2 r fun x y=>some (x,y)) with
 |some q=>
  rw[h1] at h
  injection h with h
  subst h
  obtain⟨a,b,e,h2⟩:=wJ h1
  injection h2 with h2
  subst h2
  exact e
 |none=>
  rw[h1] at h
  obtain⟨x,hx,h⟩:=aK (show(oO (kL r 0) fun x=>oO (kL r 1) fun y=>some (x,y))=some p from h)
  obtain⟨y,hy,h⟩:=aK h
  injection h with h
  subst h
  rw[lk _ _ hr] at hx hy
  match hf:r.flat,hl with
  |[a,b],_=>rw[hf] at hx hy;simp at hx hy;rw[hx,hy]
theorem LZ {r:Rp}{p:AV×AV×AV×AV}(hr:r.ok) (hl:r.flat.length=4) (h:c4 r=some p):r.flat=[p.1,p.2.1,p.2.2.1,p.2.2.2]:=by
 unfold c4 at h
 cases h1:TY r with
 |some q=>
  rw[h1] at h
  injection h with h
  subst h
  cases r with
  |n ls pu l r=>
   obtain⟨a,b,e1,h2⟩:=wJ (show(r2 l fun s x=>r2 r fun t y=>some (s,x,t,y))=some q from h1)
   obtain⟨c,d,e2,h3⟩:=wJ h2
   injection h3 with h3
   subst h3
   show l.flat++r.flat=_
   rw[e1,e2];rfl
  |_=>cases h1
 |none=>
  rw[h1] at h
  obtain⟨x,hx,h⟩:=aK (show(oO (kL r 0) fun x=>oO (kL r 1) fun y=>oO (kL r 2) fun t=>oO (kL r 3) fun w=>some (x,y,t,w))=some p from h)
  obtain⟨y,hy,h⟩:=aK h
  obtain⟨t,ht,h⟩:=aK h
  obtain⟨w,hw,h⟩:=aK h
  injection h with h
  subst h
  rw[lk _ _ hr] at hx hy ht hw
  match hf:r.flat,hl with
  |[a,b,c,d],_=>rw[hf] at hx hy ht hw;simp at hx hy ht hw;rw[hx,hy,ht,hw]
theorem T7 {n:Nat}{r:Rp}{us:List CellD}(h:ACs r.flat us):QW (.a n r) (.a us):=fun A Z w β v hv=>by
 obtain⟨cs,e,hr⟩:=hv
 exact⟨cs,e,h.reads hr⟩
theorem wD {β:Type}{v:XV}{f:Int→Option β}{y:β}(hv:sM v) (h:dZ v f=some y): ∃z:Int,QW v (dI z)∧ME z.natAbs=true∧f z=some y:=by
 cases v with
 |a n r=>
  obtain⟨hn,h⟩:=bp (show bT (Nat.beq n 2) (oO (c2 r) fun p=>aZ p.1 p.2 fun z=>bT (ME z.natAbs) (f z))=some y from h)
  obtain⟨p,hp,h⟩:=aK h
  obtain⟨z,h1,h2,h⟩:=Dv h
  obtain⟨h3,h⟩:=bp h
  have hn:=Nat.eq_of_beq_eq_true hn
  have hf:=Lo hv.1 (by rw[←hv.2];exact hn) hp
  exact⟨z,T7 (by rw[hf];exact⟨h1,h2,trivial⟩),h3,h⟩
 |_=>cases h
end
section
variable {P:Program}{g:FuncId}
theorem su {k:Nat}(hk:8≤k) {z:Int}(h:ME z.natAbs=true):Sz k z:=by
 have h1:z.natAbs<1000000000000000000000000000000000000000000000000000000000000000000000000:=b9.1 h
 have h2:=jh hk
 have e:pw 8=1000000000000000000000000000000000000000000000000000000000000000000000000:=by decide+kernel
 rw[e] at h2
 exact⟨by omega,by omega⟩
theorem ua {β:Type}{v:XV}{f:Int→Nat→Option β}{y:β}(hv:sM v) (h:Sx v f=some y): ∃x:Rat,QW v (dR x)∧Rz 300 x∧f x.num x.den=some y:=by
 cases v with
 |a n r=>
  obtain⟨hn,h⟩:=bp (show bT (Nat.beq n 4) (oO (c4 r) fun p=>aZ p.1 p.2.1 fun z=>aF p.2.2.1 (SF p.2.2.2 fun d=>
   bT (Nat.blt 0 d) (bT (Nat.beq (Nat.gcd z.natAbs d) 1) (bT (ME z.natAbs) (bT (ME d) (f z d))))))=some y from h)
  obtain⟨p,hp,h⟩:=aK h
  obtain⟨z,h1,h2,h⟩:=Dv h
  obtain⟨b,hb,h⟩:=rV h
  cases b with
  |true=>cases h
  |false=>
   obtain⟨d,hd,h⟩:=zu h
   obtain⟨g1,h⟩:=bp h
   obtain⟨g2,h⟩:=bp h
   obtain⟨g3,h⟩:=bp h
   obtain⟨g4,h⟩:=bp h
   have hn:=Nat.eq_of_beq_eq_true hn
   have hf:=LZ hv.1 (by rw[←hv.2];exact hn) hp
   have hd0:0<d:=b9.1 g1
   have hg:Nat.gcd z.natAbs d=1:=Nat.eq_of_beq_eq_true g2
   refine⟨⟨z,d,by omega,hg⟩,T7 (by
    rw[hf]
    refine⟨h1,h2,?_,hd,trivial⟩
    rw[hb,show decide (((d:Nat):Int)<0)=false by simp]
    exact AC.b _),⟨su (by decide) g3,su (by decide) (by simpa using g4)⟩,h⟩
 |_=>cases h
theorem KE {β:Type}{v:XV}{f:Int→Option β}{y:β}(h:dW v f=some y): ∃x:Int,QW v (.c (.i .i64 x))∧ -9223372036854775808≤x∧x≤9223372036854775807∧f x=some y:=by
 obtain⟨k,x,rfl,h3⟩:=iC (show xI v (fun k x=>bT (Nat.beq (kN k) 3) (bI (oX x (-9223372036854775808)) none (bI (oX 9223372036854775807 x) none (f x))))=some y from h)
 obtain⟨hk,h4⟩:=bp h3
 have hk:k=.i64:=by cases k<;>first|rfl|cases hk
 subst hk
 cases h1:oX x (-9223372036854775808) with
 |true=>rw[h1] at h4;cases h4
 |false=>
  rw[h1] at h4
  have h5:bI (oX 9223372036854775807 x) none (f x)=some y:=h4
  cases h2:oX 9223372036854775807 x with
  |true=>rw[h2] at h5;cases h5
  |false=>
   rw[h2] at h5
   rw[iR] at h1 h2
   simp only[decide_eq_false_iff_not] at h1 h2
   exact⟨x,fun A Z w β v hv=>AC.i _ _ _ _ _ _ _ hv,by omega,by omega,h5⟩
theorem xq {f:XV→Option (List XD)}{vs:List XV}{ds:List XD}(h:l1 f vs=some ds): ∃v,vs=[v]∧f v=some ds:=by
 match vs,h with
 |[v],h=>exact⟨v,rfl,h⟩
theorem Dc {f:XV→XV→Option (List XD)}{vs:List XV}{ds:List XD}(h:l2 f vs=some ds): ∃v v2,vs=[v,v2]∧f v v2=some ds:=by
 match vs,h with
 |[v,v2],h=>exact⟨v,v2,rfl,h⟩
def ju (P:Program) (g:FuncId) (p:oN):Prop:= ∀vs ds,(∀v∈vs,sM v)→p vs=some ds→CallP P g vs (mD ds)
theorem Cp {f:Int→Nat→Option (List XD)}(h: ∀(x:Rat) ds,Rz 300 x→f x.num x.den=some ds→ ∃rs,Ok P g [dR x] rs∧OutL rs ds):ju P g (q1 f):=fun vs ds hvs hp=>by
 obtain⟨v,rfl,h1⟩:=xq hp
 obtain⟨x,i1,s1,h1⟩:=ua (hvs v (by simp)) h1
 obtain⟨rs,ho,hl⟩:=h x ds s1 h1
 exact nn ho ⟨i1,trivial⟩ hl
theorem vq {f:Int→Nat→Int→Nat→Option (List XD)}(h: ∀(x y:Rat) ds,Rz 300 x→Rz 300 y→f x.num x.den y.num y.den=some ds→ ∃rs,Ok P g [dR x,dR y] rs∧OutL rs ds):ju P g (q2 f):=fun vs ds hvs hp=>by
 obtain⟨v,v2,rfl,h1⟩:=Dc hp
 obtain⟨x,i1,s1,h1⟩:=ua (hvs v (by simp)) h1
 obtain⟨y,i2,s2,h1⟩:=ua (hvs v2 (by simp)) h1
 obtain⟨rs,ho,hl⟩:=h x y ds s1 s2 h1
 exact nn ho ⟨i1,i2,trivial⟩ hl
theorem I4 {f:Int→Option (List XD)}(h: ∀(x:Int) ds,(∀k,8≤k→Sz k x)→f x=some ds→ ∃rs,Ok P g [dI x] rs∧OutL rs ds):ju P g (z1 f):=fun vs ds hvs hp=>by
 obtain⟨v,rfl,h1⟩:=xq hp
 obtain⟨x,i1,s1,h1⟩:=wD (hvs v (by simp)) h1
 obtain⟨rs,ho,hl⟩:=h x ds (fun k hk=>su hk s1) h1
 exact nn ho ⟨i1,trivial⟩ hl
theorem Nw {f:Int→Int→Option (List XD)}(h: ∀(x y:Int) ds,(∀k,8≤k→Sz k x)→(∀k,8≤k→Sz k y)→f x y=some ds→ ∃rs,Ok P g [dI x,dI y] rs∧OutL rs ds):ju P g (z2 f):=fun vs ds hvs hp=>by
 obtain⟨v,v2,rfl,h1⟩:=Dc hp
 obtain⟨x,i1,s1,h1⟩:=wD (hvs v (by simp)) h1
 obtain⟨y,i2,s2,h1⟩:=wD (hvs v2 (by simp)) h1
 obtain⟨rs,ho,hl⟩:=h x y ds (fun k hk=>su hk s1) (fun k hk=>su hk s2) h1
 exact nn ho ⟨i1,i2,trivial⟩ hl
theorem M2 {f:Int→Option (List XD)}(h: ∀(x:Int) ds,-9223372036854775808≤x→x≤9223372036854775807→f x=some ds→ ∃rs,Ok P g [.c (.i .i64 x)] rs∧OutL rs ds):ju P g (w1 f):=fun vs ds hvs hp=>by
 obtain⟨v,rfl,h1⟩:=xq hp
 obtain⟨x,i1,a1,b1,h1⟩:=KE h1
 obtain⟨rs,ho,hl⟩:=h x ds a1 b1 h1
 exact nn ho ⟨i1,trivial⟩ hl
theorem Mu (n:Int):rG (.c (.i .i64 n)) (xW n):=⟨trivial,fun _A _Z _w _β _v h=>CA.i _ _ _ _ _ _ _ h⟩
theorem Ds (b:Bool):rG (.c (.b b)) (Et b):=⟨trivial,fun _A _Z _w _β _v h=>CA.b _ _ _ _ _ _ h⟩
theorem wG (z:Int):(rZ z).ok∧CAs (cI z) (rZ z).flat∧(rZ z).flat.length=2∧ ∀x∈(rZ z).flat,PH x=true:=by
 cases z with
 |ofNat n=>exact⟨⟨rfl,trivial,trivial,fun _ x hx=>by rcases List.mem_cons.1 hx with rfl|hx;rfl;rw[List.mem_singleton.1 hx];rfl⟩,⟨by rw[show decide (Int.ofNat n<0)=false by simp];exact CA.b _,CA.l n,trivial⟩,rfl,fun x hx=>by rcases List.mem_cons.1 hx with rfl|hx;rfl;rw[List.mem_singleton.1 hx];rfl⟩
 |negSucc n=>exact⟨⟨rfl,trivial,trivial,fun _ x hx=>by rcases List.mem_cons.1 hx with rfl|hx;rfl;rw[List.mem_singleton.1 hx];rfl⟩,⟨by rw[show decide (Int.negSucc n<0)=true from decide_eq_true (Int.negSucc_lt_zero n)];exact CA.b _,(by
   have:cL (Int.negSucc n)=cL ((n+1:Nat):Int):=by unfold cL;rfl
   rw[this];exact CA.l _),trivial⟩,rfl,fun x hx=>by rcases List.mem_cons.1 hx with rfl|hx;rfl;rw[List.mem_singleton.1 hx];rfl⟩
theorem MQ {us:List CellD}{n:Nat}{r:Rp}(h1:r.ok) (h2:n=r.flat.length) (h:CAs us r.flat):rG (.a us) (.a n r):=⟨⟨h1,h2⟩,fun A Z w β v hv=>by
 obtain⟨cs,e,hr⟩:=hv
 exact⟨cs,e,h.reads hr⟩⟩
theorem Cc (z:Int):rG (dI z) (xZ z):=by
 obtain⟨h1,h2,h3,_⟩:=wG z
 exact MQ h1 h3.symm h2
theorem CAs.append: ∀ {us us':List CellD}{xs xs':List AV},CAs us xs→CAs us' xs'→CAs (us++us') (xs++xs')
 |[],_,[],_,_,h=>h
 |_::_,_,_::_,_,h,h'=>⟨h.1,h.2.append h'⟩
 |[],_,_::_,_,h,_=>h.elim
 |_::_,_,[],_,h,_=>h.elim
theorem F3 (z t:Int):rG (dQ z t) (Ju z t):=by
 obtain⟨h1,h2,h3,h4⟩:=wG z
 obtain⟨g1,g2,g3,g4⟩:=wG t
 refine MQ (r:=.n 2 true (rZ z) (rZ t)) ⟨h3.symm,h1,g1,fun _ x hx=>?_⟩ ?_ (h2.append g2)
 ·rcases List.mem_append.1 hx with hx|hx
  ·exact h4 x hx
  ·exact g4 x hx
 ·show 4=((rZ z).flat++(rZ t).flat).length
  simp[h3,g3]
theorem IR {x:Rat}{n:Int}{d:Nat}(hn:x.num=n) (hd:x.den=d):rG (dR x) (xQ n d):=by
 subst hn hd
 exact F3 x.num (x.den:Int)
theorem N7 {z:Int}{g:Nat}(hg:(g:Int)∣z):T6 z g=z/g:=by
 cases z with
 |ofNat n=>rfl
 |negSucc n=>
  show-((((n+1)/g:Nat):Int))=_
  obtain⟨c,hc⟩:=hg
  by_cases h0:g=0
  ·subst h0;simp at hc
  ·have h1:((n+1:Nat):Int)=g*(-c):=by rw[Int.mul_neg,←hc];rfl
   rw[hc,Int.mul_ediv_cancel_left _ (by omega),Int.natCast_ediv,h1,Int.mul_ediv_cancel_left _ (by omega),Int.neg_neg]
theorem vY (n:Int) {d:Nat}(hd:d≠0):rG (dR (mkRat n d)) (Qd n d):=by
 refine IR ?_ ?_
 ·rw[Rat.num_mkRat,if_neg hd,Nat.gcd_comm]
  exact(N7 (Int.ofNat_dvd_left.2 (Nat.gcd_dvd_left _ _))).symm
 ·rw[Rat.den_mkRat,if_neg hd,Nat.gcd_comm]
  rfl
theorem FT (h: ∀ {x y:Rat},Rz 300 x→Rz 300 y→Ok P g [dR x,dR y] [dR (x+y)]):ju P g G6:=vq fun x y ds hx hy hd=>by
 injection hd with hd
 subst hd
 exact⟨_,h hx hy,by rw[Rat.add_def'];exact vY _ (Nat.mul_ne_zero x.den_nz y.den_nz),trivial⟩
theorem Is (h: ∀ {x y:Rat},Rz 300 x→Rz 300 y→Ok P g [dR x,dR y] [dR (x-y)]):ju P g IE:=vq fun x y ds hx hy hd=>by
 injection hd with hd
 subst hd
 exact⟨_,h hx hy,by rw[Rat.sub_def'];exact vY _ (Nat.mul_ne_zero x.den_nz y.den_nz),trivial⟩
theorem Jj (h: ∀ {x y:Rat},Rz 300 x→Rz 300 y→Ok P g [dR x,dR y] [dR (x*y)]):ju P g E3:=vq fun x y ds hx hy hd=>by
 injection hd with hd
 subst hd
 exact⟨_,h hx hy,by rw[Rat.mul_def'];exact vY _ (Nat.mul_ne_zero x.den_nz y.den_nz),trivial⟩
theorem Pj (h: ∀ {x:Rat},Rz 300 x→Ok P g [dR x] [dR (-x)]):ju P g Nu:=Cp fun x ds hx hd=>by
 injection hd with hd
 subst hd
 exact⟨_,h hx,IR rfl rfl,trivial⟩
end
end Go.Proofs.YtacopbfkmnpfgaaGreat
