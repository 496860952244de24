/-Plain:runs of true places on a circle of places,as a program collects them going around once,and as one looks for them from each place. -/
import Derived.Test.YtegpmhlfjkhjmaaGreatYmT
namespace Go.Proofs.YtegpmhlfjkhjmaaGreat
variable {a f i n s:Nat}
theorem r7:type_of% @Nat.mod_lt:=@Nat.mod_lt
theorem CB:type_of% @List.map_congr_left:=@List.map_congr_left
def r6 (e:Nat→Bool) (i:Nat):Nat→Nat
 |0=>0
 |f+1=>if e (i+1) then r6 e (i+1) f+1 else 0
def N9 (e:Nat→Bool) (a:Nat):Bool:=e (a+1)&& !e a
def nh (e:Nat→Bool) (s n:Nat):List Nat:=((List.range n).map (s+ ·)).filter (N9 e)
section
variable {e:Nat→Bool}
theorem CO: ∀(f i:Nat),r6 e i f≤f
 |0,_=>cg _
 |f+1,i=>by
  unfold r6
  have:=CO f (i+1)
  split<;>omega
theorem xR: ∀(f i j:Nat),j<r6 e i f→e (i+1+j)=true
 |0,i,j,h=>absurd h (yc _)
 |f+1,i,j,h=>by
  unfold r6 at h
  split at h
  ·rename_i g
   cases j with
   |zero=>exact g
   |succ j=>rw[show i+1+(j+1)=(i+1)+1+j from by omega];exact xR f (i+1) j (by omega)
  ·omega
theorem wq: ∀(f i:Nat),r6 e i f≠f→e (i+1+r6 e i f)=false
 |0,i,h=>absurd rfl h
 |f+1,i,h=>by
  unfold r6 at h⊢
  by_cases g:e (i+1)=true
  ·rw[if_pos g] at h⊢
   rw[show i+1+(r6 e (i+1) f+1)=(i+1)+1+r6 e (i+1) f from by omega]
   exact wq f (i+1) (by omega)
  ·rw[if_neg g]
   simpa using g
theorem DH {m:Nat}(h:m≤f) (h1: ∀j,j<m→e (i+1+j)=true) (h2:m=f∨e (i+1+m)=false):r6 e i f=m:=by
 rcases Nat.lt_trichotomy (r6 e i f) m with g|g|g
 ·have a:=wq (e:=e) f i (by omega)
  rw[h1 _ g] at a;cases a
 ·exact g
 ·have a:=xR (e:=e) f i m g
  have b:=CO (e:=e) f i
  rcases h2 with h2|h2
  ·omega
  ·rw[h2] at a;cases a
theorem Kx (h:r6 e i f≠f∨e (i+1+f)=false):r6 e i (f+1)=r6 e i f:=by
 refine DH (by have:=CO (e:=e) f i;omega) (fun j hj=>xR f i j hj) (.inr ?_)
 by_cases g:r6 e i f=f
 ·rw[g];exact h.resolve_left (fun k=>k g)
 ·exact wq f i g
theorem M5 (h:r6 e i f=f) (g:e (i+1+f)=true):r6 e i (f+1)=f+1:=by
 refine DH (cg _) (fun j hj=>?_) (.inl rfl)
 by_cases k:j=f
 ·rw[k];exact g
 ·exact xR f i j (by omega)
theorem tz (s n:Nat):nh e s (n+1)=nh e s n++(if N9 e (s+n) then[s+n] else[]):=by
 unfold nh
 rw[List.range_succ,oZ,vu]
 congr 1
 rw[List.map_singleton,List.filter_cons]
 split<;>rfl
theorem Kp (s n:Nat) (h:N9 e (s+n)=false):nh e s (n+1)=nh e s n:=by rw[tz,h];simp
theorem RS (s n:Nat) (h:N9 e (s+n)=true):nh e s (n+1)=nh e s n++[s+n]:=by rw[tz,h];simp
theorem Fk:N9 e a=true↔e (a+1)=true∧e a=false:=by unfold N9;simp
theorem iG:a∈nh e s n↔s≤a∧a<s+n∧e (a+1)=true∧e a=false:=by
 unfold nh
 rw[mx,Fk,nB]
 constructor
 ·rintro⟨⟨j,hj,rfl⟩,h2⟩
  have:=lZ.1 hj
  exact⟨by omega,by omega,h2⟩
 ·rintro⟨h1,h2,h3⟩
  exact⟨⟨a-s,lZ.2 (by omega),by omega⟩,h3⟩
theorem F5 (s:Nat): ∀n,(nh e s n).Pairwise (· < ·)
 |0=>List.Pairwise.nil
 |n+1=>by
  rw[tz]
  refine xN.2 ⟨F5 s n,?_,fun a ha b hb=>?_⟩
  ·split
   ·exact C3 _ _
   ·exact List.Pairwise.nil
  ·split at hb
   ·rw[nD.1 hb];exact(iG.1 ha).2.1
   ·cases hb
theorem Be {s:Nat}(h0:e s=false): ∀n,e (s+n)=true→ ∃L a,nh e s n=L++[a]∧r6 e (a+1) (s+n-(a+1))=s+n-(a+1)
 |0,h=>by rw[sw,h0] at h;cases h
 |n+1,h=>by
  cases g:e (s+n) with
  |false=>
   refine⟨nh e s n,s+n,RS s n (Fk.2 ⟨h,g⟩),?_⟩
   rw[show s+(n+1)-(s+n+1)=0 from by omega];rfl
  |true=>
   obtain⟨L,a,h1,h2⟩:=Be h0 n g
   refine⟨L,a,by rw[Kp s n (by unfold N9;rw[g];simp)];exact h1,?_⟩
   have ha:a∈nh e s n:=by rw[h1];simp
   have hb:=(iG.1 ha).2.1
   rw[show s+(n+1)-(a+1)=s+n-(a+1)+1 from by omega]
   exact M5 h2 (by rw[show a+1+1+(s+n-(a+1))=s+(n+1) from by omega];exact h)
theorem AE {b:Nat}(ha:a∈nh e s n) (hab:a<b) (hb:b≤s+n) (h:e b=false):r6 e (a+1) (s+n-(a+1))≠s+n-(a+1):=fun q=>by
 obtain⟨_,h2,h3,_⟩:=iG.1 ha
 by_cases g:b=a+1
 ·rw[g,h3] at h;cases h
 ·have:=xR (e:=e) _ _ (b-(a+2)) (by rw[q];omega)
  rw[show a+1+1+(b-(a+2))=b from by omega,h] at this;cases this
end
def uI (P:List Cv) (u v:Nat):Cv:=(P.getD (u%P.length) aX).ends (P.getD (u%P.length) aX).p (P.getD (v%P.length) aX).q
def m7 (P:List Cv) (e:Nat→Bool) (s n:Nat):List Cv:=(nh e s n).map fun a=>uI P (a+1) (a+1+r6 e (a+1) (s+n-(a+1)))
theorem Mx (c:Cv):c.ends c.p c.q=c:=by cases c<;>rfl
theorem Ia (c:Cv) (a b x:Pt):(c.ends a b).ends (c.ends a b).p x=c.ends a x:=by cases c<;>rfl
section
variable {P:List Cv}{e:Nat→Bool}{s n:Nat}
theorem Te:(m7 P e s n).length≤n:=by
 unfold m7 nh
 rw[oN]
 exact iO (tx _ _) (by simp)
theorem AM (h:e (s+n+1)=false):m7 P e s (n+1)=m7 P e s n:=by
 unfold m7
 rw[Kp s n (by unfold N9;rw[h];rfl)]
 refine CB fun a ha=>?_
 have:=(iG.1 ha).2.1
 rw[show s+(n+1)-(a+1)=s+n-(a+1)+1 from by omega,Kx (.inr (by rw[show a+1+1+(s+n-(a+1))=s+n+1 from by omega];exact h))]
theorem n7 (h:e (s+n+1)=true) (g:e (s+n)=false):m7 P e s (n+1)=m7 P e s n++[P.getD ((s+n+1)%P.length) aX]:=by
 unfold m7
 rw[RS s n (Fk.2 ⟨h,g⟩),oZ]
 congr 1
 ·refine CB fun a ha=>?_
  have:=(iG.1 ha).2.1
  rw[show s+(n+1)-(a+1)=s+n-(a+1)+1 from by omega,Kx (.inl (AE ha (b:=s+n) (by omega) (cg _) g))]
 ·rw[List.map_singleton,show s+(n+1)-(s+n+1)=0 from by omega]
  show[uI P (s+n+1) (s+n+1)]=_
  unfold uI
  rw[Mx]
theorem RF (h0:e s=false) (h:e (s+n+1)=true) (g:e (s+n)=true): ∃L c,m7 P e s n=L++[c]∧m7 P e s (n+1)=L++[c.ends c.p (P.getD ((s+n+1)%P.length) aX).q]:=by
 obtain⟨L,a,h1,h2⟩:=Be h0 n g
 have ha:a∈nh e s n:=by rw[h1];simp
 have hb:=(iG.1 ha).2
 refine⟨L.map fun a=>uI P (a+1) (a+1+r6 e (a+1) (s+n-(a+1))),uI P (a+1) (s+n),?_,?_⟩
 ·unfold m7
  rw[h1,oZ,List.map_singleton,h2,show a+1+(s+n-(a+1))=s+n from by omega]
 ·unfold m7
  rw[Kp s n (by unfold N9;rw[g];simp),h1,oZ,List.map_singleton]
  congr 1
  ·refine CB fun b hb2=>?_
   have hm:b∈nh e s n:=by rw[h1];exact AP _ hb2
   have hlt:b<a:=(xN.1 (h1▸F5 (e:=e) s n)).2.2 b hb2 a (by simp)
   have:=(iG.1 hm).2.1
   rw[show s+(n+1)-(b+1)=s+n-(b+1)+1 from by omega,Kx (.inl (AE hm hlt (by omega) hb.2.2))]
  ·rw[show s+(n+1)-(a+1)=s+n-(a+1)+1 from by omega,M5 h2 (by rw[show a+1+1+(s+n-(a+1))=s+n+1 from by omega];exact h),show a+1+(s+n-(a+1)+1)=s+n+1 from by omega]
   unfold uI
   rw[Ia]
end
structure Rnd (e:Nat→Bool) (n:Nat):Prop where
 pos:0<n
 per: ∀x,e (x+n)=e x
def qL (e:Nat→Bool) (n:Nat):List Nat:=(List.range n).filter fun i=>e i&& !e (i+n-1)
section
variable {P:List Cv}{e:Nat→Bool}{s n:Nat}
theorem UV {u v:Nat}:uI P (u+P.length) (v+P.length)=uI P u v:=by unfold uI;rw[Nat.add_mod_right,Nat.add_mod_right]
theorem LP (h: ∀x,e (x+n)=e x): ∀(f i:Nat),r6 e (i+n) f=r6 e i f
 |0,i=>rfl
 |f+1,i=>by
  unfold r6
  rw[show i+n+1=i+1+n from by omega,h,LP h f (i+1)]
theorem Uy (hr:Rnd e P.length) (hs:e s=false):m7 P e s P.length=(nh e s P.length).map fun a=>uI P (a+1) (a+1+r6 e (a+1) P.length):=by
 unfold m7
 refine CB fun a ha=>?_
 obtain⟨h1,h2,h3,_⟩:=iG.1 ha
 have hd:=AE ha (b:=s+P.length) (by omega) (cg _) (by rw[hr.per];exact hs)
 rw[DH (e:=e) (f:=P.length) (i:=a+1) (m:=r6 e (a+1) (s+P.length-(a+1))) (iO (CO _ _) (by omega)) (fun j hj=>xR _ _ j hj) (.inr (wq _ _ hd))]
theorem Pc (hr:Rnd e n) (hs:s<n):((nh e s n).map fun a=>(a+1)%n).Perm (qL e n):=by
 have md: ∀x,x<n→(x+n)%n=x:=fun x hx=>by rw[Nat.add_mod_right];exact rl hx
 have ml: ∀a,s≤a→a<s+n→(a+1)%n=if a+1<n then a+1 else if a+1<n+n then a+1-n else 0:=fun a h1 h2=>by
  by_cases g:a+1<n
  ·rw[if_pos g];exact rl g
  ·rw[if_neg g]
   by_cases g2:a+1<n+n
   ·rw[if_pos g2,show a+1=(a+1-n)+n from by omega,md _ (by omega)];omega
   ·omega
 refine(List.perm_ext_iff_of_nodup ?_ ?_).2 fun i=>?_
 ·refine List.Pairwise.map _ (R:=fun a b=>a∈nh e s n∧b∈nh e s n∧a<b) (fun a b ⟨ha,hb,h⟩ q=>?_) (ug (fun{a b} ha hb h=>⟨ha,hb,h⟩) (F5 s n))
  obtain⟨a1,a2,_⟩:=iG.1 ha
  obtain⟨b1,b2,_⟩:=iG.1 hb
  rw[ml a a1 a2,ml b b1 b2] at q
  grind
 ·exact List.Pairwise.filter _ List.nodup_range
 ·unfold qL
  rw[nB,mx,lZ]
  constructor
  ·rintro⟨a,ha,rfl⟩
   obtain⟨a1,a2,a3,a4⟩:=iG.1 ha
   have hl:=ml a a1 a2
   refine⟨Nat.mod_lt _ hr.pos,?_⟩
   by_cases g:a+1<n
   ·rw[if_pos g] at hl
    rw[hl,a3,show a+1+n-1=a+n from by omega,hr.per,a4];rfl
   ·rw[if_neg g,if_pos (by omega)] at hl
    rw[hl,show a+1-n+n-1=a from by omega,a4,←hr.per,show a+1-n+n=a+1 from by omega,a3];rfl
  ·rintro⟨h1,h2⟩
   rw[dL] at h2
   have h3:e (i+n-1)=false:=by simpa using h2.2
   by_cases g:s+1≤i
   ·refine⟨i-1,iG.2 ⟨by omega,by omega,by rw[show i-1+1=i from by omega];exact h2.1,?_⟩,?_⟩
    ·rw[show i+n-1=i-1+n from by omega,hr.per] at h3;exact h3
    ·show(i-1+1)%n=i
     rw[show i-1+1=i from by omega];exact rl h1
   ·refine⟨i+n-1,iG.2 ⟨by omega,by omega,by rw[show i+n-1+1=i+n from by omega,hr.per];exact h2.1,h3⟩,?_⟩
    show(i+n-1+1)%n=i
    rw[show i+n-1+1=i+n from by omega,md _ h1]
theorem S5 (hr:Rnd e P.length) (hs:e s=false) (hl:s<P.length):m7 P e s P.length=((nh e s P.length).map fun a=>(a+1)%P.length).map fun i=>uI P i (i+r6 e i P.length):=by
 rw[Uy hr hs,List.map_map]
 refine CB fun a ha=>?_
 obtain⟨a1,a2,_⟩:=iG.1 ha
 show _=uI P ((a+1)%P.length) ((a+1)%P.length+r6 e ((a+1)%P.length) P.length)
 by_cases g:a+1<P.length
 ·rw[rl g]
 ·obtain⟨b,hb⟩: ∃b,a+1=b+P.length:=⟨a+1-P.length,by omega⟩
  rw[hb,Nat.add_mod_right,rl (show b<P.length by omega),LP hr.per,show b+P.length+r6 e b P.length=b+r6 e b P.length+P.length from by omega,UV]
end
end Go.Proofs.YtegpmhlfjkhjmaaGreat
namespace Go.Proofs.YtegpmhlfjkhjmaaGreat
open Go Go.RowKit
variable {d:Ci}{c:Cv}{lm:Int}{rs:List CellD}{L:List Ci}{l:Ln}{N c9 i j m n:Nat}{e:Nat→Bool}{a' b' p q:Pt}{a a1 a2 b b1 b2 w x y z:Rat}
def dh (a b:Cv):Int:=cP a.p b.p
def vH (p:Cv):List Cv→Nat
 |[]=>0
 |x::l=>if dh x p<0 then vH p l+1 else 0
def ua (o:List Cv) (p:Cv):List Cv:=o.take (vH p o)++p::o.drop (vH p o)
def jV (R:List Cv) (e:Nat→Bool) (i:Nat):Cv:=uI R i (i+r6 e i R.length)
def jk (R:List Cv) (e:Nat→Bool) (i:Nat):List Cv:=(((List.range i).filter fun i=>e i&& !e (i+R.length-1)).map (jV R e)).foldl ua []
theorem Cq (p:Cv): ∀ {l:List Cv}{k:Nat},k≤l.length→(∀j,j<k→dh (l.getD j aX) p<0)→(k=l.length∨ ¬dh (l.getD k aX) p<0)→vH p l=k
 |[],k,h,_,_=>by simp at h;subst h;rfl
 |x::l,0,_,_,h=>by
  rcases h with h|h
  ·simp at h
  ·unfold vH;rw[if_neg (by simpa using h)]
 |x::l,k+1,h,hj,h2=>by
  unfold vH
  rw[if_pos (by simpa using hj 0 (by omega)),Cq p (l:=l) (k:=k) (by simpa using h) (fun j q=>by simpa using hj (j+1) (by omega)) (by simpa using h2)]
theorem sE (o:List Cv) (p:Cv):(ua o p).length=o.length+1:=by
 unfold ua;rw[dt,dH,ui,fS];omega
theorem Es (x:Cv) (l:List Cv) (p:Cv):ua (x::l) p=if dh x p<0 then x::ua l p else p::x::l:=by
 unfold ua
 show(x::l).take (if dh x p<0 then vH p l+1 else 0)++p::(x::l).drop (if dh x p<0 then vH p l+1 else 0)=_
 split<;>rfl
theorem tD: ∀(l:List Cv) (p:Cv),(ua l p).Perm (p::l)
 |[],p=>List.Perm.refl _
 |x::l,p=>by
  rw[Es]
  split
  ·exact(List.Perm.cons x (tD l p)).trans (List.Perm.swap p x l)
  ·exact List.Perm.refl _
theorem qh: ∀(L o:List Cv),(L.foldl ua o).Perm (o++L)
 |[],o=>by simp
 |x::L,o=>by
  rw[vF]
  exact(qh L _).trans (((tD o x).append_right L).trans List.perm_middle.symm)
section
variable {G:Cv→Prop}(anti: ∀x y,G x→G y→dh y x= -dh x y) (tr: ∀x y z,G x→G y→G z→dh x y≤0→dh y z≤0→dh x z≤0)
include anti tr
theorem H7: ∀ {l:List Cv}{p:Cv},G p→(∀x∈l,G x)→(∀x∈l,dh x p≠0)→l.Pairwise (fun a b=>dh a b<0)→(ua l p).Pairwise fun a b=>dh a b<0
 |[],p,_,_,_,_=>C3 _ _
 |x::l,p,hp,hl,hn,h=>by
  obtain⟨h1,h2⟩:=lg.1 h
  have hx:=hl x fO
  have hl2: ∀y∈l,G y:=fun y hy=>hl y (fC _ hy)
  rw[Es]
  split
  ·rename_i e
   refine lg.2 ⟨fun y hy=>?_,H7 hp hl2 (fun y hy=>hn y (fC _ hy)) h2⟩
   rcases dD.1 ((tD l p).mem_iff.1 hy) with rfl|hy
   ·exact e
   ·exact h1 y hy
  ·rename_i e
   have e2:dh p x<0:=by
    have:=anti p x hp hx
    have:=hn x fO
    omega
   refine lg.2 ⟨fun y hy=>?_,h⟩
   rcases dD.1 hy with rfl|hy
   ·exact e2
   ·exact TH anti tr hp hx (hl2 y hy) e2 (tC (h1 y hy))
theorem EC: ∀(L:List Cv) {o:List Cv},(∀x∈L,G x)→(∀x∈o,G x)→(∀x∈o,∀y∈L,dh x y≠0)→L.Pairwise (fun a b=>dh a b≠0)→o.Pairwise (fun a b=>dh a b<0)→(L.foldl ua o).Pairwise fun a b=>dh a b<0
 |[],o,_,_,_,_,h=>h
 |x::L,o,hL,ho,hn,hp,h=>by
  obtain⟨p1,p2⟩:=lg.1 hp
  have gx:=hL x fO
  rw[vF]
  refine EC L (fun y hy=>hL y (fC _ hy)) (fun y hy=>?_) (fun y hy z hz=>?_) p2 (H7 anti tr gx ho (fun y hy=>hn y hy x fO) h)
  ·rcases dD.1 ((tD o x).mem_iff.1 hy) with rfl|hy
   ·exact gx
   ·exact ho y hy
  ·rcases dD.1 ((tD o x).mem_iff.1 hy) with rfl|hy
   ·exact p1 z hz
   ·exact hn y hy z (fC _ hz)
end
theorem EU {e:Nat→Bool}{s:Nat}: ∀n,2*(nh e s n).length≤n+1
 |0=>by show 2*0≤1;omega
 |1=>by
  rw[tz]
  show 2*(if _ then[s+0] else[]).length≤2
  split<;>simp
 |n+2=>by
  have ih:=EU (e:=e) (s:=s) n
  rw[tz,tz,dt,dt]
  cases h:e (s+n+1) with
  |true=>
   rw[show N9 e (s+(n+1))=false from by unfold N9;rw[show s+(n+1)=s+n+1 from by omega,h];simp,if_neg (show ¬false=true by decide)]
   split<;>simp<;>omega
  |false=>
   rw[show N9 e (s+n)=false from by unfold N9;rw[h];rfl,if_neg (show ¬false=true by decide)]
   split<;>simp<;>omega
theorem IA {P:List Cv}{s:Nat}:2*(m7 P e s n).length≤n+1:=by unfold m7;rw[oN];exact EU n
theorem Gl {a b:Pt}(ha:0≤a.c) (hb:0≤b.c) (ha':0≤a'.c) (hb':0≤b'.c) (h:cP a a'=0) (g:cP b b'=0):cP a b=cP a' b':=by
 have x1:=wS ha ha' h hb
 have x2:=wS hb hb' g ha'
 have y1:=Cg ha ha' h hb
 have y2:=Cg hb hb' g ha'
 have c1:=ef ha' hb
 have c2:=ef ha' hb'
 have d1:cy b a'= -cy a' b:=by rw[si hb ha',si ha' hb,vC]
 have d2:cy b' a'= -cy a' b':=by rw[si hb' ha',si ha' hb',vC]
 show(if cx a b≠0 then cx a b else cy a b)=(if cx a' b'≠0 then cx a' b' else cy a' b')
 rw[show cx a b=cx a' b' from by omega,show cy a b=cy a' b' from by omega]
section
variable {k:Ci}(hk:GK k) (h0:0<k.q) {P R:List Cv}(S:Sim k P R) {e:Nat→Bool}(hr:Rnd e P.length)
theorem Rnd.mod {e:Nat→Bool}(h:Rnd e n) (x:Nat):e (x%n)=e x:=by
 have key: ∀q r,e (r+n*q)=e r:=fun q r=>by
  induction q with
  |zero=>rw[Nat.mul_zero,sw]
  |succ q ih=>rw[Nat.mul_succ,←Nat.add_assoc,h.per,ih]
 have:=key (x/n) (x%n)
 rw[Nat.mod_add_div] at this
 exact this.symm
include hk h0 S hr
theorem KW (hi:i<P.length) (he:e i=true) (hb:e (i+P.length-1)=false): ∃a b a' b':Pt,jV P e i=.arc k false a b∧jV R e i=.arc k false a' b'∧a=(P.getD i aX).p∧a'=(R.getD i aX).p∧CvV (.arc k false a b)∧CvV (.arc k false a' b')∧cP a a'=0∧cP b b'=0∧r6 e i P.length≤P.length∧e (i+1+r6 e i P.length)=false:=by
 have hn:=S.two
 have hpos:0<P.length:=by omega
 have hm:=CO (e:=e) P.length i
 have hlt:r6 e i P.length≠P.length:=fun q=>by
  have:=xR (e:=e) P.length i (P.length-2) (by omega)
  rw[show i+1+(P.length-2)=i+P.length-1 from by omega,hb] at this;cases this
 have hs:=wq _ _ hlt
 generalize hm9:r6 e i P.length=m at hm hlt hs
 have hj:(i+m)%P.length<P.length:=r7 _ hpos
 have hj2:(i+m+1)%P.length<P.length:=r7 _ hpos
 obtain⟨a,b,a',b',p1,p2,⟨o1,o2⟩,⟨o3,o4⟩,z1,z2,z3,_⟩:=S.at_ i hi
 obtain⟨c,d,c',d',q1,q2,⟨u1,u2⟩,⟨u3,u4⟩,w1,w2,w3,_⟩:=S.at_ _ hj
 have nx:=S.nxt _ hj
 rw[q1,show((i+m)%P.length+1)%P.length=(i+m+1)%P.length from by rw[Nat.mod_add_mod]] at nx
 have nx:d=(P.getD ((i+m+1)%P.length) aX).p:=nx
 have hne:(i+m+1)%P.length≠i:=fun q=>by
  have:=hr.mod (i+m+1)
  rw[q,he,show i+m+1=i+1+m from by omega,hs] at this;cases this
 obtain⟨c2,d2,_,_,r1,_,⟨v1,_⟩,_⟩:=S.at_ _ hj2
 have dne:cP a d≠0:=by
  rw[nx]
  rcases gO i ((i+m+1)%P.length) with g|g
  ·have:=S.dis i _ g hj2
   rw[p1] at this;exact this
  ·have:=S.dis ((i+m+1)%P.length) i (by omega) hi
   rw[p1,r1] at this
   rw[r1]
   exact fun q=>this (nK (bk o1) (bk v1) q)
 have e1:jV P e i=.arc k false a d:=by
  unfold jV uI
  rw[hm9,rl hi,p1,q1];rfl
 have e2:jV R e i=.arc k false a' d':=by
  unfold jV uI
  rw[←S.len,hm9,rl hi,p2,q2];rfl
 have cv: ∀ {x y:Pt},OnK k x→OnK k y→cP x y≠0→CvV (.arc k false x y):=fun ox oy h=>⟨⟨hk,ox.1,oy.1⟩,h0,b5.2 ox.2,b5.2 oy.2,h⟩
 refine⟨a,d,a',d',e1,e2,by rw[p1];rfl,by rw[p2];rfl,cv o1 u2 dne,cv o3 u4 ?_,z1,w2,hm,hs⟩
 rw[←Gl (bk o1) (bk u2) (bk o3) (bk u4) z1 w2];exact dne
end
theorem yT:i∈qL e n↔i<n∧e i=true∧e (i+n-1)=false:=by
 unfold qL
 rw[mx,lZ,dL,qu]
theorem M9 {k:Ci}{v w:Bool}{a b c d:Pt}:Qc (.arc k v a b) (.arc k w c d)=true:=by
 have: ∀x:Rat,Ad x x=true:=fun x=>by unfold Ad;rw[show aM x x=0 from by unfold aM;grind];rfl
 show(Ad k.x k.x&&Ad k.y k.y&&Ad k.q k.q)=true
 rw[this,this,this];rfl
section
variable {k:Ci}(hk:GK k) (h0:0<k.q) {P R:List Cv}(S:Sim k P R) {e:Nat→Bool}(hr:Rnd e P.length) {s:Nat}(hs:s<P.length) (es:e s=false)
include hk h0 S hr hs es
theorem G7:(bp aX dh (m7 P e s P.length)).length=(jk R e R.length).length∧(∀x∈bp aX dh (m7 P e s P.length),CvV x∧x.cw=false∧x.isArc=true)∧(∀x∈jk R e R.length,CvV x)∧
 ∀i,i<(bp aX dh (m7 P e s P.length)).length→eqC ((bp aX dh (m7 P e s P.length)).getD i aX) ((jk R e R.length).getD i aX)=true:=by
 have hb:=Pc hr hs
 rw[S5 hr es hs]
 have c0: ∀ {x:Cv},CvV x→0≤x.p.c:=fun v=>cm (iT v.g)
 have anti: ∀x y,CvV x→CvV y→dh y x= -dh x y:=fun x y hx hy=>fH (c0 hx) (c0 hy)
 have tr: ∀x y z,CvV x→CvV y→CvV z→dh x y≤0→dh y z≤0→dh x z≤0:=fun x y z hx hy hz h1 h2=>(Sj (c0 hx) (c0 hy) (c0 hz)).1 h1 h2
 have run:=fun i (h:i∈qL e P.length)=>KW hk h0 S hr (yT.1 h).1 (yT.1 h).2.1 (yT.1 h).2.2
 have vP: ∀i∈qL e P.length,CvV (jV P e i)∧(jV P e i).cw=false∧(jV P e i).isArc=true∧(jV P e i).p=(P.getD i aX).p:=fun i h=>by
  obtain⟨a,b,a',b',e1,e2,e3,e4,v1,v2,_⟩:=run i h
  rw[e1];exact⟨v1,rfl,rfl,e3⟩
 have vR: ∀i∈qL e P.length,CvV (jV R e i):=fun i h=>by
  obtain⟨a,b,a',b',e1,e2,e3,e4,v1,v2,_⟩:=run i h
  rw[e2];exact v2
 have same: ∀i∈qL e P.length,∀j∈qL e P.length,dh (jV R e i) (jV R e j)=dh (jV P e i) (jV P e j):=fun i hi j hj=>by
  obtain⟨a,b,a',b',e1,e2,_,_,v1,v2,z1,_⟩:=run i hi
  obtain⟨c,d,c',d',f1,f2,_,_,w1,w2,z2,_⟩:=run j hj
  rw[e1,e2,f1,f2]
  exact(Gl (cm (iT v1.g)) (cm (iT w1.g)) (cm (iT v2.g)) (cm (iT w2.g)) z1 z2).symm
 have dis: ∀i∈qL e P.length,∀j∈qL e P.length,i≠j→dh (jV P e i) (jV P e j)≠0:=fun i hi j hj hij=>by
  show cP _ _≠0
  rw[(vP i hi).2.2.2,(vP j hj).2.2.2]
  rcases gO i j with g|g
  ·exact S.dis i j g (yT.1 hj).1
  ·intro q
   have q2:=anti _ _ (vP i hi).1 (vP j hj).1
   have:dh (jV P e j) (jV P e i)=cP (P.getD j aX).p (P.getD i aX).p:=by unfold dh;rw[(vP i hi).2.2.2,(vP j hj).2.2.2]
   have q3:dh (jV P e i) (jV P e j)=cP (P.getD i aX).p (P.getD j aX).p:=by unfold dh;rw[(vP i hi).2.2.2,(vP j hj).2.2.2]
   exact S.dis j i (by omega) (yT.1 hi).1 (by omega)
 have ndB:(qL e P.length).Nodup:=List.Pairwise.filter _ List.nodup_range
 have hJ:(bp 0 (fun i j=>dh (jV P e i) (jV P e j)) (qL e P.length)).Perm (qL e P.length):=kU _
 have sJ:(bp 0 (fun i j=>dh (jV P e i) (jV P e j)) (qL e P.length)).Pairwise fun i j=>dh (jV P e i) (jV P e j)≤0:=
  wQ (e:=0) (C:=fun i j=>dh (jV P e i) (jV P e j)) (G:=fun i=>i∈qL e P.length) (fun x y hx hy=>anti _ _ (vP x hx).1 (vP y hy).1) (fun x y z hx hy hz h1 h2=>tr _ _ _ (vP x hx).1 (vP y hy).1 (vP z hz).1 h1 h2) (qL e P.length) (O:=[]) (fun y hy=>hy) (fun y hy=>by cases hy) .nil
 generalize bp 0 (fun i j=>dh (jV P e i) (jV P e j)) (qL e P.length)=J at hJ sJ
 have mJ: ∀i∈J,i∈qL e P.length:=fun i h=>hJ.mem_iff.1 h
 have ndJ:J.Nodup:=hJ.symm.nodup ndB
 have sJ2:J.Pairwise fun i j=>dh (jV P e i) (jV P e j)<0:=ug (fun{a b} ha hb g=>by
  have:=dis a (mJ a ha) b (mJ b hb) g.2
  omega) (sJ.and ndJ)
 have lt9: ∀ {Q:List Cv}{A B:List Cv},(∀x∈A,CvV x)→A.Perm B→A.Pairwise (fun a b=>dh a b<0)→B.Pairwise (fun a b=>dh a b<0)→A=B:=fun{Q A B} hA hp h1 h2=>CZ (fun a ha b hb g g2=>by
  have:=anti a b (hA a ha) (hA b hb)
  omega) hp h1 h2
 have eX:bp aX dh ((((nh e s P.length).map fun a=>(a+1)%P.length)).map fun i=>uI P i (i+r6 e i P.length))=J.map (jV P e):=by
  have pm:=(kU (e:=aX) (C:=dh) ((((nh e s P.length).map fun a=>(a+1)%P.length)).map fun i=>uI P i (i+r6 e i P.length))).trans ((hb.trans hJ.symm).map (jV P e))
  have hv: ∀x∈J.map (jV P e),CvV x:=fun x hx=>by
   obtain⟨i,hi,rfl⟩:=nB.1 hx
   exact(vP i (mJ i hi)).1
  have hv2: ∀x∈bp aX dh ((((nh e s P.length).map fun a=>(a+1)%P.length)).map fun i=>uI P i (i+r6 e i P.length)),CvV x:=fun x hx=>hv x (pm.mem_iff.1 hx)
  have h2:(J.map (jV P e)).Pairwise fun a b=>dh a b<0:=List.pairwise_map.2 sJ2
  refine lt9 (Q:=[]) hv2 pm ?_ h2
  have s1:=wQ (e:=aX) (C:=dh) (G:=CvV) anti tr ((((nh e s P.length).map fun a=>(a+1)%P.length)).map fun i=>uI P i (i+r6 e i P.length)) (O:=[]) (fun x hx=>hv2 x ((kU _).mem_iff.2 hx)) (fun y hy=>by cases hy) .nil
  have s2:(bp aX dh ((((nh e s P.length).map fun a=>(a+1)%P.length)).map fun i=>uI P i (i+r6 e i P.length))).Pairwise fun a b=>dh a b≠0∧CvV a∧CvV b:=by
   refine pm.symm.pairwise (ug (fun{a b} ha hb g=>⟨by omega,hv a ha,hv b hb⟩) h2) (fun{a b} g=>⟨fun q=>g.1 ?_,g.2.2,g.2.1⟩)
   have:=anti a b g.2.1 g.2.2
   omega
  refine List.Pairwise.imp (fun{a b} g=>?_) (List.Pairwise.and s1 s2)
  have:=g.1
  have:=g.2.1
  omega
 have eY:jk R e R.length=J.map (jV R e):=by
  have bR:((List.range R.length).filter fun i=>e i&& !e (i+R.length-1))=qL e P.length:=by unfold qL;rw[S.len]
  unfold jk
  rw[bR]
  have pm:=(qh ((qL e P.length).map (jV R e)) []).trans ((hJ.symm.map (jV R e)))
  have hv: ∀x∈(qL e P.length).map (jV R e),CvV x:=fun x hx=>by
   obtain⟨i,hi,rfl⟩:=nB.1 hx
   exact vR i hi
  refine lt9 (Q:=[]) (fun x hx=>hv x ((qh _ []).mem_iff.1 hx)) pm ?_ (List.pairwise_map.2 (ug (fun{a b} ha hb g=>by rw[same a (mJ a ha) b (mJ b hb)];exact g) sJ2))
  refine EC (G:=CvV) anti tr _ hv (fun x hx=>by cases hx) (fun x hx=>by cases hx) (List.pairwise_map.2 (ug (fun{a b} ha hb g=>?_) ndB)) .nil
  rw[same a ha b hb];exact dis a ha b hb g
 rw[eX,eY]
 refine⟨by simp,fun x hx=>?_,fun x hx=>?_,fun i hi=>?_⟩
 ·obtain⟨i,hi,rfl⟩:=nB.1 hx
  have:=vP i (mJ i hi)
  exact⟨this.1,this.2.1,this.2.2.1⟩
 ·obtain⟨i,hi,rfl⟩:=nB.1 hx
  exact vR i (mJ i hi)
 ·have hi2:i<J.length:=by simpa using hi
  have a1: ∀(f:Nat→Cv),(J.map f).getD i aX=f (J[i]):=fun f=>by simp[List.getD,hi2]
  rw[a1,a1]
  obtain⟨a,b,a',b',e1,e2,_,_,v1,v2,z1,z2,_⟩:=run _ (mJ _ (uG hi2))
  rw[e1,e2]
  unfold eqC
  rw[M9]
  show(true&&((false==false)&&((cP a a'==0)&&(cP b b'==0))))=true
  rw[z1,z2];rfl
end
theorem KC {p q r s:Int}(hq:0<q) (hs:0<s) (h:p*s≤r*q):fr p q≤fr r s:=by
 apply gg
 intro hn
 have h0:fr r s<fr p q:=by grind
 have hqs:=pc (qr hq hs)
 have h1:=xW h0 hqs
 have e1:=gU (p:=p) hq
 have e2:=gU (p:=r) hs
 rw[f8] at h1
 have h2:((r*q:Int):Rat)<((p*s:Int):Rat):=by
  rw[f8,f8,←e1,←e2]
  grind
 have:=iM.1 h2
 omega
theorem Xn (h:z<w) (e:z.den=w.den):z.num<w.num:=by
 apply gg
 intro hn
 have hz:=xU z
 have hw:=xU w
 have hd:(0:Int)<z.den:=by have:=z.den_pos;omega
 have:fr w.num (w.den:Int)≤fr z.num (z.den:Int):=KC (by omega) hd (by rw[←e];exact AR (by omega) (by omega))
 rw[hz,hw] at this
 grind
section
variable {S:Rat→Prop}(cv: ∀x y z,S x→S z→x≤y→y≤z→S y)
include cv
theorem Ss (hz:S z) (hw:S w) (dz: ∀p q:Int,0<q→S (fr p q)→(z.den:Int)≤q) (dw: ∀p q:Int,0<q→S (fr p q)→(w.den:Int)≤q)
 (nz:z.den=1→z≠0→ ¬S (z-((aM z 0:Int):Rat))) (nw:w.den=1→w≠0→ ¬S (w-((aM w 0:Int):Rat))) (h:z<w):False:=by
 have pz:=z.den_pos
 have pw:=w.den_pos
 have d1:=dz w.num w.den (by omega) (by rw[xU];exact hw)
 have d2:=dw z.num z.den (by omega) (by rw[xU];exact hz)
 have e:z.den=w.den:=by omega
 have hn:=Xn h e
 have fz:=xU z
 have fw:=xU w
 by_cases g:z.den=1
 ·have iz:((z.num:Int):Rat)=z:=by
   have:=gU (p:=z.num) (q:=(z.den:Int)) (by omega)
   rw[fz,g] at this;grind
  have iw:((w.num:Int):Rat)=w:=by
   have:=gU (p:=w.num) (q:=(w.den:Int)) (by omega)
   rw[fw,←e,g] at this;grind
  have step: ∀ {a b:Int},a≤b→(a:Rat)≤(b:Rat):=fun h=>fI.2 h
  by_cases k:0≤z.num
  ·have w0:0<w:=by rw[←iw];exact pc (by omega)
   have c1:aM w 0=1:=by unfold aM;rw[if_neg (by grind),if_pos w0]
   refine nw (by omega) (by grind) (cv z _ w hz hw ?_ ?_)
   ·rw[c1,←iw,←iz]
    have:=step (show z.num+1≤w.num by omega)
    rw[kW] at this
    grind
   ·rw[c1];grind
  ·have z0:z<0:=by
    rw[←iz];exact iM.2 (show z.num<(0:Int) by omega)
   have c1:aM z 0= -1:=by unfold aM;rw[if_pos z0]
   refine nz g (by grind) (cv z _ w hz hw ?_ ?_)
   ·rw[c1];grind
   ·rw[c1,←iw,←iz]
    have:=step (show z.num+1≤w.num by omega)
    rw[kW] at this
    grind
 ·have q2:(0:Int)<(z.den:Int)-1:=by omega
  have hq:(0:Int)<(z.den:Int):=by omega
  have f1:z.num.fdiv z.den*z.den≤z.num:=by
   rw[tw];exact Int.mul_fdiv_self_le hq
  have f2:z.num<(z.num.fdiv z.den+1)*z.den:=by
   have:=Int.lt_mul_fdiv_self_add (x:=z.num) (k:=(z.den:Int)) hq
   grind
  generalize z.num.fdiv z.den=f at f1 f2
  have key:=dz (z.num-f) ((z.den:Int)-1) q2 (cv z _ w hz hw ?_ ?_)
  ·omega
  ·have h9:=KC (p:=z.num) (r:=z.num-f) hq q2 (by grind)
   rw[fz] at h9;exact h9
  ·have h8:(z.num+1)*((z.den:Int)-1)≤w.num*((z.den:Int)-1):=AR (by omega) (by omega)
   have h9:=KC (p:=z.num-f) (r:=w.num) q2 (show(0:Int)<(w.den:Int) by omega) (by rw[←e];grind)
   rw[fw] at h9;exact h9
end
theorem RY {a b:Re}(hx:uL a b x) (hz:uL a b z) (h1:x≤y) (h2:y≤z):uL a b y:=by
 have nn: ∀ {p q:Rat},p≤q→0≤aT (Re.of q-Re.of p):=fun{p q} h=>by
  rw[yn,cV]
  unfold aM;grind
 refine⟨?_,?_⟩
 ·rw[show Re.of y-a=(Re.of y-Re.of x)+(Re.of x-a) from br fun k=>by simp only[aI,aQ];grind]
  exact jR (nn h1) hx.1
 ·rw[show b-Re.of y=(Re.of z-Re.of y)+(b-Re.of z) from br fun k=>by simp only[aI,aQ];grind]
  exact jR (nn h2) hz.2
theorem Simp.uniq {a b:Re}(hz:Simp a b z) (hw:Simp a b w):z=w:=by
 have cv: ∀x y z,uL a b x→uL a b z→x≤y→y≤z→uL a b y:=fun x y z hx hz h1 h2=>RY hx hz h1 h2
 apply gg
 intro hn
 rcases(show z<w∨w<z by grind) with h|h
 ·exact(Ss cv hz.mem hw.mem hz.den hw.den hz.near hw.near h).elim
 ·exact(Ss cv hw.mem hz.mem hw.den hz.den hw.near hz.near h).elim
theorem Simp.congr {a b c d:Re}(h:Simp a b z) (e: ∀x,uL a b x↔uL c d x):Simp c d z:=
 ⟨(e z).1 h.mem,fun p q hq hm=>h.den p q hq ((e _).2 hm),fun h1 h2 hm=>h.near h1 h2 ((e _).2 hm)⟩
theorem aaC (h:cP p q=0):cx p q=0:=gg fun g=>g ((Zl g).symm.trans h)
theorem GE (gp:GP p) (gq:GP q) :uL (pX p) (pX q) x↔mO p x<0∧0<mO q x:=by
 unfold uL
 rw[oH (cm gp),oH (cm gq),eM (pX p)]
 have h1:=bJ (Re.of x-pX p)
 have h2:=bJ (pX q-Re.of x)
 omega
theorem Vh {p' q':Pt}(gp:GP p) (gq:GP q) (gp':GP p') (gq':GP q') (e1:cP p p'=0) (e2:cP q q'=0) (x:Rat):uL (pX p) (pX q) x↔uL (pX p') (pX q') x:=by
 rw[GE gp gq,GE gp' gq']
 have a1:=aaC e1
 have a2:=aaC e2
 have b1:=W8 gp gp'
 have b2:=W8 gq gq'
 exact⟨fun h=>⟨Pp gp' gp (by omega) h.1,Qs gq gq' (by omega) h.2⟩,fun h=>⟨Pp gp gp' (by omega) h.1,Qs gq' gq (by omega) h.2⟩⟩
theorem LQ (gp:GP p) (gq:GP q) (h:cx p q<0): ∃x:Rat,Rz 6841 x∧Ok Tryz.prog 126 [.a (cR p.a1++cR p.b1++cR (zc p.b1 p.c)),.a (cR q.a1++cR q.b1++cR (zc q.b1 q.c))] [dR x,.c (.i .i64 0)]∧Ok Tryz.prog 269 [.a (cR p.a1++cR p.b1++cR (zc p.b1 p.c)),.a (cR q.a1++cR q.b1++cR (zc q.b1 q.c))] [dR x]∧Simp (pX p) (pX q) x:=by
 have ab:aT (pX q-pX p)=1:=by
  rw[oc (cm gp) (cm gq),eM] at h
  have:=bJ (pX q-pX p)
  omega
 exact PR gp.a1 gp.b1 (ij gp.c (by decide)) gq.a1 gq.b1 (ij gq.c (by decide)) (aa0 gp) (aa0 gq) ab
theorem Fa {k:Ci}{f t:Pt}(vc:CvV (.arc k false f t)) (ea:(Cv.arc k false f t).inner (jT k)=false) (eb:(Cv.arc k false f t).inner (jE k)=false):(Cv.arc k false f t).fwd.mono=true:=by
 have h1:(Cv.arc k false f t)∈Rl (.arc k false f t):=by
  have h:iU (Cv.arc k false f t) []=[.arc k false f t]:=(Du (L:=[]) vc (fun p hp=>by cases hp)).symm
  show _∈iU _ (zr _)
  rw[Uk ea eb,h]
  exact nD.2 rfl
 exact Nd vc _ h1
section
variable {k:Ci}{a b a' b':Pt}(vP:CvV (.arc k false a b)) (vR:CvV (.arc k false a' b')) (e1:cP a a'=0) (e2:cP b b'=0)
 (iP: ∀x,x=jT k∨x=jE k→(Cv.arc k false a b).inner x=false∧(Cv.arc k false a' b').inner x=false)
include vP vR e1 e2 iP
theorem abj: ∃x:Rat,Rz 6841 x∧
 Ok Tryz.prog 126 [.a (cR (Cv.arc k false a b).fwd.p.a1++cR (Cv.arc k false a b).fwd.p.b1++cR (zc (Cv.arc k false a b).fwd.p.b1 (Cv.arc k false a b).fwd.p.c)),.a (cR (Cv.arc k false a b).fwd.q.a1++cR (Cv.arc k false a b).fwd.q.b1++cR (zc (Cv.arc k false a b).fwd.q.b1 (Cv.arc k false a b).fwd.q.c))] [dR x,.c (.i .i64 0)]∧
 Ok Tryz.prog 269 [.a (cR (Cv.arc k false a' b').fwd.p.a1++cR (Cv.arc k false a' b').fwd.p.b1++cR (zc (Cv.arc k false a' b').fwd.p.b1 (Cv.arc k false a' b').fwd.p.c)),.a (cR (Cv.arc k false a' b').fwd.q.a1++cR (Cv.arc k false a' b').fwd.q.b1++cR (zc (Cv.arc k false a' b').fwd.q.b1 (Cv.arc k false a' b').fwd.q.c))] [dR x]∧
 yu (Cv.arc k false a b).fwd x=true∧yu (Cv.arc k false a' b').fwd x=true∧(Cv.arc k false a' b').fwd.vert=false∧xr (Cv.arc k false a b).fwd x=xr (Cv.arc k false a' b').fwd x∧mO (Cv.arc k false a b).fwd.p x<0∧0<mO (Cv.arc k false a b).fwd.q x:=by
 have wP:=Ha vP
 have wR:=Ha vR
 have mP:=Fa vP (iP _ (.inl rfl)).1 (iP _ (.inr rfl)).1
 have mR:=Fa vR (iP _ (.inl rfl)).2 (iP _ (.inr rfl)).2
 have ee:cP a b=cP a' b':=Gl (cm vP.g.2.1) (cm vP.g.2.2) (cm vR.g.2.1) (cm vR.g.2.2) e1 e2
 have same: ∃w s t s' t',(Cv.arc k false a b).fwd=.arc k w s t∧(Cv.arc k false a' b').fwd=.arc k w s' t'∧cP s s'=0∧cP t t'=0:=by
  cases h:decide (cP a b>0) with
  |true=>exact⟨_,_,_,_,_,Mj h,Mj (ee▸h),e2,e1⟩
  |false=>exact⟨_,_,_,_,_,MM h,MM (ee▸h),e1,e2⟩
 obtain⟨w,s,t,s',t',q1,q2,q3,q4⟩:=same
 rw[q1] at wP mP⊢
 rw[q2] at wR mR⊢
 have cPx:=LJ wP mP rfl
 have cRx:=LJ wR mR rfl
 obtain⟨x,x1,x2,_,x4⟩:=LQ wP.g.2.1 wP.g.2.2 cPx
 obtain⟨y,_,_,y3,y4⟩:=LQ wR.g.2.1 wR.g.2.2 cRx
 have hI:=Vh wP.g.2.1 wP.g.2.2 wR.g.2.1 wR.g.2.2 q3 q4
 have hxy:x=y:=(x4.congr hI).uniq y4
 subst hxy
 obtain⟨i1,i2⟩:=(GE wP.g.2.1 wP.g.2.2).1 x4.mem
 obtain⟨j1,j2⟩:=(GE wR.g.2.1 wR.g.2.2).1 y4.mem
 exact⟨x,x1,x2,y3,Ww rfl i1 i2,Ww rfl j1 j2,rfl,rfl,i1,i2⟩
end
structure Bz (b:Nat) (x:Rat):Prop where
 n:x.num.natAbs<2^b
 d:x.den<2^b
theorem ED {a b:Int}(ha:a.natAbs<2^n) (hb:b.natAbs<2^n) (h0:b≠0):Bz n (Rat.divInt a b):=by
 refine⟨Nat.lt_of_le_of_lt ?_ ha,Nat.lt_of_le_of_lt ?_ hb⟩
 ·rw[Rat.num_divInt]
  refine iO (rD _ _) ?_
  rw[s6,Int.natAbs_sign_of_ne_zero h0];omega
 ·rw[Rat.den_divInt,if_neg h0]
  exact Nat.div_le_self _ _
theorem tN {a b:Nat}(h:a<2^n) (g:b<2^m):a*b<2^(n+m):=by
 rw[Nat.pow_add]
 exact Nat.mul_lt_mul'' h g
theorem Bz.mono (h:Bz n x) (hl:n≤m):Bz m x:=⟨Nat.lt_of_lt_of_le h.n (Nat.pow_le_pow_right (by decide) hl),po h.d (Nat.pow_le_pow_right (by decide) hl)⟩
theorem Bz.neg (h:Bz n x):Bz n (-x):=⟨by rw[Rat.neg_num,Int.natAbs_neg];exact h.n,by rw[Rat.neg_den];exact h.d⟩
theorem Bz.mul (hx:Bz n x) (hy:Bz m y):Bz (n+m) (x*y):=by
 rw[←Vd]
 exact ED (by rw[s6];exact tN hx.n hy.n) (by rw[s6];exact tN hx.d hy.d) (by have:=qr (den_pos x) (den_pos y);omega)
theorem Bz.add (hx:Bz n x) (hy:Bz m y):Bz (n+m+1) (x+y):=by
 rw[←SE]
 have h1:=tN hx.n hy.d
 have h2:=tN hy.n hx.d
 have h3:=tN hx.d hy.d
 rw[Nat.add_comm m n] at h2
 have h4:2^(n+m+1)=2^(n+m)+2^(n+m):=by rw[Nat.pow_succ];omega
 refine ED ?_ ?_ (by have:=qr (den_pos x) (den_pos y);omega)
 ·refine Nat.lt_of_le_of_lt (Int.natAbs_add_le _ _) ?_
  rw[s6,s6,yw,yw,h4];omega
 ·rw[s6,yw,yw,h4];omega
theorem Bz.sub (hx:Bz n x) (hy:Bz m y):Bz (n+m+1) (x-y):=by rw[Rat.sub_eq_add_neg];exact hx.add hy.neg
theorem Bz.div (hx:Bz n x) (hy:Bz m y) (h0:y≠0):Bz (n+m) (x/y):=by
 rw[←U8]
 refine ED (by rw[s6];exact tN hx.n hy.d) (by rw[s6];exact tN hx.d hy.n) fun e=>?_
 rcases v6.1 e with h|h
 ·exact jG x h
 ·exact h0 (Rat.num_eq_zero.1 h)
theorem YC (k:Nat):((2^(29*k):Nat):Int)≤pw k:=by
 have h:(2^(29*k):Nat)≤1000000000^k:=by rw[Nat.pow_mul];exact Nat.pow_le_pow_left (by decide) k
 unfold pw
 have h2:((1000000000^k:Nat):Int)=1000000000^k:=Int.natCast_pow ..
 omega
theorem Bz.rz {k:Nat}(h:Bz n x) (hk:n≤29*k):Rz k x:=by
 have h1:=po h.n (Nat.pow_le_pow_right (show 0<2 by decide) hk)
 have h2:=po h.d (Nat.pow_le_pow_right (show 0<2 by decide) hk)
 have h3:=YC k
 exact⟨⟨by omega,by omega⟩,⟨by omega,by omega⟩⟩
def zH (l:Ln) (k:Ci):Rat:=mq l k/(fi l*fi l)
def S6 (l:Ln):Bool:=decide (aM l.b 0<0)||(aM l.b 0==0&&decide (aM (-l.a) 0<0))
def RZ (l:Ln):Rat:=if S6 l then-l.b else l.b
def Qd (l:Ln):Rat:=if S6 l then- -l.a else-l.a
def F3 (l:Ln) (k:Ci):Pt:=fV (nF l k) (-RZ l) (nC l k) (-Qd l) (zH l k)
def Gf (l:Ln) (k:Ci):Pt:=fV (nF l k) (RZ l) (nC l k) (Qd l) (zH l k)
def zg (l:Ln) (k:Ci):List Pt:=if aM (zH l k) 0= -1 then[] else if aM (zH l k) 0=0 then[⟨nF l k,0,nC l k,0,0⟩] else[F3 l k,Gf l k]
def lK (k d:Ci):List Pt:=if pD k d then[] else if pT k d then[] else zg (mQ k d) k
theorem Mt (h:0<x):aM x 0=1:=by unfold aM;rw[if_neg (by grind),if_pos h]
theorem aai {c n:Rat}(hc:0≤c) (hn:0<n):aT (Re.rt (c*(n*n))-Re.of n*Re.rt c)=0:=by
 have h9:0≤c*(n*n):=jo hc (jo (Rat.le_of_lt hn) (Rat.le_of_lt hn))
 refine LF ?_ (xy _) ?_
 ·rw[bH,cV,Mt hn]
  have:=xy c
  omega
 ·rw[wF (x:=Re.rt (c*(n*n))*Re.rt (c*(n*n))-Re.of n*Re.rt c*(Re.of n*Re.rt c)) (y:=Re.rt (c*(n*n))*Re.rt (c*(n*n))-Re.of (c*(n*n))) (z:= -(Re.of (n*n)*(Re.rt c*Re.rt c-Re.of c))) (br fun j=>by simp only[aI,aR,bc,bD];grind) (CF (te _ (oE hc)))]
  exact oE h9
theorem vr {c:Rat}(h0:0<c):0≤(fV a1 b1 a2 b2 c).c:=by
 unfold fV
 split
 ·exact tI
 ·exact Rat.le_of_lt h0
theorem wM {d1 d2 c n:Rat}(h0:0<c) (hn:0<n) (e1:b1=d1*n) (e2:b2=d2*n):cP (fV a1 b1 a2 b2 c) (fV a1 d1 a2 d2 (c*(n*n)))=0:=by
 have h9:0<c*(n*n):=kw h0 (kw hn hn)
 obtain⟨x1,y1⟩:=K6 (a1:=a1) (b1:=b1) (a2:=a2) (b2:=b2) h0
 obtain⟨x2,y2⟩:=K6 (a1:=a1) (b1:=d1) (a2:=a2) (b2:=d2) h9
 have hr:=aai (Rat.le_of_lt h0) hn
 refine eP.2 ⟨?_,?_⟩
 ·rw[oc (vr h0) (vr h9),wF (y:=(pX (fV a1 b1 a2 b2 c)-(Re.of a1+Re.of b1*Re.rt c))+ -(pX (fV a1 d1 a2 d2 (c*(n*n)))-(Re.of a1+Re.of d1*Re.rt (c*(n*n))))) (z:= -(Re.of d1*(Re.rt (c*(n*n))-Re.of n*Re.rt c))) (br fun j=>by simp only[aQ,aI,aR,bc,bD];grind) (CF (te _ hr))]
  exact BA x1 (CF x2)
 ·rw[si (vr h0) (vr h9),wF (y:=(pY (fV a1 b1 a2 b2 c)-(Re.of a2+Re.of b2*Re.rt c))+ -(pY (fV a1 d1 a2 d2 (c*(n*n)))-(Re.of a2+Re.of d2*Re.rt (c*(n*n))))) (z:= -(Re.of d2*(Re.rt (c*(n*n))-Re.of n*Re.rt c))) (br fun j=>by simp only[aQ,aI,aR,bc,bD];grind) (CF (te _ hr))]
  exact BA y1 (CF y2)
section
variable {l:Ln}{k:Ci}(hn:0<fi l)
include hn
theorem H2:zH l k*(fi l*fi l)=mq l k:=by
 unfold zH
 have:fi l*fi l≠0:=by have:=kw hn hn;grind
 exact o9 this
theorem YZ:aM (zH l k) 0=aM (mq l k) 0:=by
 rw[←H2 hn,←cV,←cV,←ia,bH,cV (fi l*fi l),Mt (kw hn hn),Int.mul_one]
theorem nd (x:Rat):x=x/fi l*fi l:=(o9 (by grind)).symm
theorem Rg (h:0<zH l k):(cP (F3 l k) (MT l k)=0∧cP (Gf l k) (Ll l k)=0)∨(cP (F3 l k) (Ll l k)=0∧cP (Gf l k) (MT l k)=0):=by
 have e:=H2 (k:=k) hn
 have a1:=nd hn l.b
 have a2:=nd hn (-l.a)
 unfold F3 Gf MT Ll RZ Qd
 rw[←e]
 cases S6 l with
 |false=>exact .inl ⟨wM h hn (by simp;grind) (by simp;grind),wM h hn (by simp;grind) (by simp;grind)⟩
 |true=>exact .inr ⟨wM h hn (by simp;grind) (by simp;grind),wM h hn (by simp;grind) (by simp;grind)⟩
theorem N5 (g1: ∀p∈zg l k,0≤p.c) (_g2: ∀p∈jd l k,0≤p.c):(∀x∈zg l k,∃y∈jd l k,cP x y=0)∧ ∀y∈jd l k,∃x∈zg l k,cP y x=0:=by
 have hs:=YZ (k:=k) hn
 unfold zg jd at*
 rw[hs] at g1⊢
 by_cases h1:aM (mq l k) 0= -1
 ·rw[if_pos h1]
  rw[if_pos (show aM (mq l k) 0<0 by omega)]
  exact⟨fun x hx=>(by cases hx),fun x hx=>(by cases hx)⟩
 ·rw[if_neg h1] at g1⊢
  have h2: ¬aM (mq l k) 0<0:=fun h=>h1 (by have:=d6 (mq l k) 0;omega)
  rw[if_neg h2]
  by_cases h3:aM (mq l k) 0=0
  ·rw[if_pos h3] at g1⊢
   rw[if_pos h3]
   have: ∀x∈ [(⟨nF l k,0,nC l k,0,0⟩:Pt)],∃y∈ [(⟨nF l k,0,nC l k,0,0⟩:Pt)],cP x y=0:=fun x hx=>⟨x,hx,mi (g1 x hx)⟩
   exact⟨this,this⟩
  ·rw[if_neg h3] at g1⊢
   rw[if_neg h3]
   have hp:0<zH l k:=sT (by rw[hs];exact h2) (by rw[hs];exact h3)
   have cP1:0≤(F3 l k).c:=vr hp
   have cQ1:0≤(Gf l k).c:=vr hp
   have hr:0<mq l k:=sT h2 h3
   have cP2:0≤(MT l k).c:=vr hr
   have cQ2:0≤(Ll l k).c:=vr hr
   have two: ∀ {a b c d:Pt},0≤a.c→0≤b.c→0≤c.c→0≤d.c→(cP a c=0∧cP b d=0)∨(cP a d=0∧cP b c=0)→ ∀ {M:List Pt},(c∈M∧d∈M∧ ∀y∈M,y=c∨y=d)→(∀x∈ [a,b],∃y∈M,cP x y=0)∧ ∀y∈M,∃x∈ [a,b],cP y x=0:=by
    intro a b c d ha hb hc hd h M hM
    obtain⟨m1,m2,m3⟩:=hM
    refine⟨fun x hx=>?_,fun y hy=>?_⟩
    ·simp only[dD,qS,or_false] at hx
     rcases hx with rfl|rfl<;>rcases h with h|h
     ·exact⟨c,m1,h.1⟩
     ·exact⟨d,m2,h.1⟩
     ·exact⟨d,m2,h.2⟩
     ·exact⟨c,m1,h.2⟩
    ·rcases m3 y hy with rfl|rfl<;>rcases h with h|h
     ·exact⟨a,by simp,nK ha hc h.1⟩
     ·exact⟨b,by simp,nK hb hc h.2⟩
     ·exact⟨b,by simp,nK hb hd h.2⟩
     ·exact⟨a,by simp,nK ha hd h.1⟩
   refine two cP1 cQ1 cP2 cQ2 (Rg hn hp) ?_
   split
   ·exact⟨by simp,by simp,fun y hy=>by simp only[dD,qS,or_false] at hy;exact hy.symm⟩
   ·exact⟨by simp,by simp,fun y hy=>by simp only[dD,qS,or_false] at hy;exact hy⟩
end
section
variable {l:Ln}{k:Ci}(hl:GL l) (hk:GK k)
include hl
theorem Wt: ¬(l.b=0∧l.a=0):=fun e=>hl.n (by unfold fi;rw[e.1,e.2];grind)
include hk
theorem Yz:Rz 200 (zH l k):=((yI hl hk).div ((mU hl).mul (mU hl)) (by
 have h:=hl.n
 intro e
 rcases AL.1 e with e|e<;>exact h e)).mono (by decide)
end
theorem Zt {k:Ci}(h:fi l≠0):zH l k=(k.q-((nF l k-k.x)*(nF l k-k.x)+(nC l k-k.y)*(nC l k-k.y)))/fi l:=by
 have h1:=o9 (a:=nL l k.x k.y) h
 have e1:nF l k-k.x= -(nL l k.x k.y/fi l*l.a):=by unfold nF;grind
 have e2:nC l k-k.y= -(nL l k.x k.y/fi l*l.b):=by unfold nC;grind
 rw[e1,e2]
 unfold zH mq
 generalize nL l k.x k.y/fi l=t at h1
 generalize nL l k.x k.y=v at h1
 have hn:fi l=l.a*l.a+l.b*l.b:=rfl
 generalize fi l=n at h h1 hn
 rw[show n*k.q-v*v=(k.q-(-(t*l.a)* -(t*l.a)+ -(t*l.b)* -(t*l.b)))*n from by grind]
 generalize k.q-(-(t*l.a)* -(t*l.a)+ -(t*l.b)* -(t*l.b))=r
 have h2:n*n≠0:=fun e=>(AL.1 e).elim h h
 have h3:=o9 (a:=r*n) h2
 have h4:=o9 (a:=r) h
 generalize r*n/(n*n)=x at h3
 generalize r/n=y at h4
 have h5:(x-y)*(n*n)=0:=by grind
 rcases AL.1 h5 with h6|h6
 ·grind
 ·exact absurd h6 h2
section
variable {l:Ln}{k:Ci}
theorem Pa (h:S6 l=true):RZ l= -l.b∧Qd l= - -l.a:=by unfold RZ Qd;rw[h];exact⟨rfl,rfl⟩
theorem SB (h:S6 l=false):RZ l=l.b∧Qd l= -l.a:=by unfold RZ Qd;rw[h];exact⟨rfl,rfl⟩
theorem ZR (h:aM (zH l k) 0= -1):zg l k=[]:=if_pos h
theorem X5 (h: ¬aM (zH l k) 0= -1) (g:aM (zH l k) 0=0):zg l k=[⟨nF l k,0,nC l k,0,0⟩]:=(if_neg h).trans (if_pos g)
theorem GO (h: ¬aM (zH l k) 0= -1) (g: ¬aM (zH l k) 0=0):zg l k=[F3 l k,Gf l k]:=(if_neg h).trans (if_neg g)
end
structure RK (k:Ci):Prop where
 x:Bz 16 k.x
 y:Bz 16 k.y
 q:Bz 17 k.q
 pos:0<k.q
theorem RK.k {k:Ci}(h:RK k):GK k:=⟨h.x.rz (by decide),h.y.rz (by decide),h.q.rz (by decide)⟩
theorem Sk:Bz 2 (2:Rat):=⟨by decide+kernel,by decide+kernel⟩
section
variable {k d:Ci}(hk:RK k) (hd:RK d)
include hk hd
theorem X4:(Bz 35 (mQ k d).a∧Bz 35 (mQ k d).b)∧Bz 167 (mQ k d).c:=by
 have f: ∀ {c:Ci},RK c→Bz 83 (CC c):=fun h=>(((h.x.mul h.x).add (h.y.mul h.y)).sub h.q).mono (by decide)
 exact⟨⟨(Sk.mul (hd.x.sub hk.x)).mono (by decide),(Sk.mul (hd.y.sub hk.y)).mono (by decide)⟩,((f hd).sub (f hk)).mono (by decide)⟩
section
variable (hc:pT k d=false)
include hc
theorem FJ:0<fi (mQ k d):=by
 have h1:=(ub hk.k hd.k hc).n
 have h2:0≤fi (mQ k d):=by
  unfold fi
  have a:=Uz (mQ k d).a
  have b:=Uz (mQ k d).b
  grind
 grind
theorem ZP:Rz 34 (zH (mQ k d) k)∧Rz 2 (RZ (mQ k d))∧Rz 2 (Qd (mQ k d)):=by
 obtain⟨⟨a,b⟩,c⟩:=X4 hk hd
 have n:Bz 141 (fi (mQ k d)):=((a.mul a).add (b.mul b)).mono (by decide)
 have v:Bz 271 (nL (mQ k d) k.x k.y):=(((a.mul hk.x).add (b.mul hk.y)).sub c).mono (by decide)
 have r:Bz 701 (mq (mQ k d) k):=((n.mul hk.q).sub (v.mul v)).mono (by decide)
 have h0:fi (mQ k d)*fi (mQ k d)≠0:=by have:=kw (FJ hk hd hc) (FJ hk hd hc);grind
 refine⟨(r.div (n.mul n) h0).rz (by decide),?_,?_⟩
 ·unfold RZ;split
  ·exact b.neg.rz (by decide)
  ·exact b.rz (by decide)
 ·unfold Qd;split
  ·exact a.neg.neg.rz (by decide)
  ·exact a.neg.rz (by decide)
theorem Vp: ¬(RZ (mQ k d)=0∧Qd (mQ k d)=0):=by
 have hz:=Wt (ub hk.k hd.k hc)
 unfold RZ Qd
 rintro⟨h1,h2⟩
 refine hz ⟨?_,?_⟩
 ·split at h1<;>grind
 ·split at h2<;>grind
theorem Xf (h:0<zH (mQ k d) k):GP (F3 (mQ k d) k)∧GP (Gf (mQ k d) k):=by
 obtain⟨h1,h2,h3⟩:=ZP hk hd hc
 have g:=ub hk.k hd.k hc
 have nz:=Vp hk hd hc
 exact⟨xf (kv g hk.k) (h2.neg.mono (by decide)) (j7 g hk.k) (h3.neg.mono (by decide)) (h1.mono (by decide)) h (fun e=>nz ⟨by grind,by grind⟩),xf (kv g hk.k) (h2.mono (by decide)) (j7 g hk.k) (h3.mono (by decide)) (h1.mono (by decide)) h nz⟩
theorem TP: ∀p∈zg (mQ k d) k,GP p:=by
 intro p hp
 have g:=ub hk.k hd.k hc
 unfold zg at hp
 split at hp
 ·cases hp
 ·rename_i h1
  split at hp
  ·rw[nD.1 hp];exact GP.rat ((kv g hk.k).mono (by decide)) ((j7 g hk.k).mono (by decide))
  ·rename_i h2
   have hp0:0<zH (mQ k d) k:=sT (fun h=>h1 (by have:=d6 (zH (mQ k d) k) 0;omega)) h2
   obtain⟨q1,q2⟩:=Xf hk hd hc hp0
   simp only[dD,qS,or_false] at hp
   rcases hp with rfl|rfl
   ·exact q1
   ·exact q2
end
theorem B5: ∀p∈lK k d,GP p:=by
 intro p hp
 unfold lK at hp
 split at hp
 ·cases hp
 ·split at hp
  ·cases hp
  ·rename_i h;exact TP hk hd (by simpa using h) p hp
theorem Er:(∀x∈lK k d,∃y∈bG k d,cP x y=0)∧ ∀y∈bG k d,∃x∈lK k d,cP y x=0:=by
 have o1:=B5 hk hd
 have o2:=lB hk.k hd.k
 unfold lK bG at*
 by_cases h:pT k d=true
 ·rw[if_pos h,if_pos h]
  split<;>exact⟨fun x hx=>(by cases hx),fun x hx=>(by cases hx)⟩
 ·have h1:pD k d=false:=by
   cases e:pD k d with
   |false=>rfl
   |true=>
    unfold pD at e
    rw[dL] at e
    exact absurd e.1 h
  rw[if_neg (by rw[h1];decide),if_neg h] at o1⊢
  rw[if_neg h] at o2⊢
  exact N5 (FJ hk hd (by simpa using h)) (fun p hp=>cm (o1 p hp)) (fun p hp=>cm (o2 p hp))
end
def JZ (k d:Ci):Int:=if pD k d then 10 else 0
section
variable {k d:Ci}
theorem SN (h:pD k d=true):lK k d=[]∧JZ k d=10:=by unfold lK JZ;rw[h];exact⟨rfl,rfl⟩
theorem LY (h:pD k d=false) (g:pT k d=true):lK k d=[]∧JZ k d=0:=by unfold lK JZ;rw[h,g];exact⟨rfl,rfl⟩
theorem K1 (h:pD k d=false) (g:pT k d=false):lK k d=zg (mQ k d) k∧JZ k d=0:=by unfold lK JZ;rw[h,g];exact⟨rfl,rfl⟩
end
theorem CV {k:Ci}:(lK k d).length≤2:=by
 unfold lK zg
 repeat' split
 all_goals simp
def dK:Ci:=⟨0,0,0⟩
theorem dU (k:Ci):(aV k).length=12:=rfl
theorem rA (k:Ci) (r:List CellD):(aV k++r).take 12=aV k:=List.take_left' rfl
def fz (e:Nat→Bool):Nat→Int
 |0=> -1
 |n+1=>if fz e n≥0 then fz e n else if e n then-1 else n
theorem Nr {e:Nat→Bool}: ∀ {n:Nat},(∀i,i<n→e i=true)→fz e n= -1
 |0,_=>rfl
 |n+1,h=>by
  have h1:=Nr (n:=n) fun i hi=>h i (by omega)
  show(if fz e n≥0 then fz e n else if e n then-1 else n)= -1
  rw[h1,h n (by omega)];rfl
theorem IC {e:Nat→Bool}{k:Nat}(h: ∀i,i<k→e i=true) (g:e k=false): ∀ {n:Nat},k<n→fz e n=k
 |0,hn=>absurd hn (by omega)
 |n+1,hn=>by
  show(if fz e n≥0 then fz e n else if e n then-1 else n)=k
  by_cases hk:k=n
  ·rw[←hk,Nr h,g];rfl
  ·rw[IC h g (by omega:k<n),if_pos (by omega)]
theorem Wy {e:Nat→Bool}: ∀ {n:Nat},(fz e n= -1∧ ∀i,i<n→e i=true)∨ ∃k:Nat,k<n∧fz e n=k∧e k=false
 |0=>.inl ⟨rfl,fun i hi=>absurd hi (by omega)⟩
 |n+1=>by
  rcases Wy (e:=e) (n:=n) with⟨h1,h2⟩|⟨k,h1,h2,h3⟩
  ·cases h:e n with
   |true=>
    have hh: ∀i,i<n+1→e i=true:=fun i hi=>by
     by_cases hq:i=n
     ·rw[hq];exact h
     ·exact h2 i (by omega)
    exact .inl ⟨Nr hh,hh⟩
   |false=>exact .inr ⟨n,by omega,IC h2 h (by omega),h⟩
  ·refine .inr ⟨k,by omega,?_,h3⟩
   show(if fz e n≥0 then fz e n else if e n then-1 else n)=k
   rw[h2,if_pos (by omega)]
def qg (L:List Ci) (m:Pt):Bool:=L.all fun d=>decide (mr d m<0)
def eO (L:List Ci) (m:Pt) (i:Nat):Bool:=decide (mr (L.getD i dK) m<0)
theorem UH {m:Pt}:decide (fz (eO L m) L.length≥0)= !qg L m:=by
 rcases Wy (e:=eO L m) (n:=L.length) with⟨h1,h2⟩|⟨k,h1,h2,h3⟩
 ·have ho:qg L m=true:=by
   unfold qg
   rw[kY]
   intro d hd
   obtain⟨i,hi,rfl⟩:=List.getElem_of_mem hd
   have:=h2 i hi
   unfold eO at this
   simpa [List.getD,hi] using this
  rw[h1,ho];rfl
 ·have ho:qg L m=false:=by
   cases ho:qg L m with
   |false=>rfl
   |true=>
    unfold qg at ho
    rw[kY] at ho
    have:=ho _ (bd (d:=dK) h1)
    unfold eO at h3
    rw[this] at h3;cases h3
  rw[h2,ho,decide_eq_true (by omega)];rfl
def nO (e:Nat→Bool) (N n:Nat):List CellD:=(List.range N).map fun i=>CellD.b (decide (i<n)&&e i)
def tE (e:Nat→Bool) (N:Nat):List CellD:=(List.range N).map fun i=>CellD.b (e i)
theorem dN:(tE e N).length=N*1:=by unfold tE;simp
theorem zj:(nO e N n).length=N*1:=by unfold nO;simp
theorem Kg:List.replicate N (CellD.b false)=nO e N 0++[]:=by
 apply u9<;>simp[nO]
theorem DR:nO e N N=tE e N:=by
 apply u9
 ·simp[nO,tE]
 ·intro i h1 h2
  have:i<N:=by simpa [tE] using h2
  simp[nO,tE,this]
theorem FW (h:n<N):(nO e N n++[]).take (n*1)++[CellD.b (e n)]++(nO e N n++[]).drop (n*1+1)=nO e N (n+1)++[]:=by
 rw[iZ,iZ,vM,nk]
 have h0:n<(nO e N n).length:=by rw[zj];omega
 rw[show[CellD.b (e n)]++(nO e N n).drop (n+1)=CellD.b (e n)::(nO e N n).drop (n+1) from rfl]
 have h1:(nO e N n).set n (CellD.b (e n))=(nO e N n).take n++CellD.b (e n)::(nO e N n).drop (n+1):=by rw[List.set_eq_take_append_cons_drop,if_pos h0]
 rw[←h1]
 apply u9
 ·simp[nO]
 ·intro i h1 h2
  rw[List.getElem_set]
  by_cases c:n=i
  ·subst c;simp[nO]
  ·rw[if_neg c]
   simp[nO]
   by_cases a:i<n
   ·simp[a,show i<n+1 from by omega]
   ·simp[a,show ¬i<n+1 from by omega]
theorem pP (h:n<N):(tE e N).drop (n*1)=[CellD.b (e n)]++(tE e N).drop (n+1):=by
 rw[vM,pq (by simp[tE];exact h)]
 simp[tE]
def bl (x:Nat):Int:=if x=0 then 0 else if x=1 then 1 else if x≤3 then 2 else if x≤7 then 3 else 4
theorem aaQ (x:Nat):0≤bl x∧bl x≤4:=by unfold bl;repeat' split<;>try omega
theorem Ym {s:ByteArray}{x:Nat}(h1:x≤12) (h:((List.range 13).all fun m=>(((s[m]?).getD 0).toNat:Int)==bl m)=true):(((s[(x:Int).toNat]?).getD 0).toNat:Int)=bl x:=by
 rw[kY] at h
 rw[Int.toNat_natCast]
 exact beq_iff_eq.1 (h x (lZ.2 (by omega)))
theorem ZG (ha:Rz 6000000 a) (hb:Rz 6000000 b):Ok Tryz.prog 294 [dR a,dR b] [.c (.b (aM a b==0))]:=by
 refine bX Tryz.func294 rfl ?_
 refine ac rfl (l6 (aO ha) (aO hb)) ?_
 exact ah (az ae)
theorem abU {k:Ci}(hk:GK k) (hd:GK d):Ok Tryz.prog 209 [.a (aV k),.a (aV d)] [.c (.b (pD k d))]:=by
 refine bX Tryz.func209 rfl ?_
 refine ac rfl (ZG (aO (hk.x)) (aO (hd.x))) ?_
 refine jU (bE rfl) (fun c1 hb1=>?_)
 cases c1
 ·refine ar (bE rfl)<|ah ?_
  rw[show pD k d=false from by unfold pD Ad;rw[hb1];rfl]
  exact az ae
 ·refine ac rfl (ZG (aO (hk.y)) (aO (hd.y))) ?_
  refine jU (bE rfl) (fun c2 hb2=>?_)
  cases c2
  ·refine ah ?_
   rw[show pD k d=false from by unfold pD Ad;rw[hb1,hb2];rfl]
   exact az ae
  ·refine ac rfl (ZG (aO (hk.q)) (aO (hd.q)))<|ah ?_
   rw[show pD k d=(aM k.q d.q==0) from by unfold pD Ad;rw[hb1,hb2];rfl]
   exact az ae
theorem WE {k:Ci}(hk:GK k) (hd:GK d):Ok Tryz.prog 210 [.a (aV k),.a (aV d)] [.c (.b (pT k d))]:=by
 refine bX Tryz.func210 rfl ?_
 refine ac rfl (l6 (aO (hk.x)) (aO (hd.x))) ?_
 refine jU (bE rfl) (fun c1 hb1=>?_)
 cases c1
 ·refine ah ?_
  rw[show pT k d=false from by unfold pT Ad;rw[hb1];rfl]
  exact az ae
 ·refine ac rfl (l6 (aO (hk.y)) (aO (hd.y)))<|ah ?_
  rw[show pT k d=(aM k.y d.y==0) from by unfold pT Ad;rw[hb1];rfl]
  exact az ae
theorem V6 {k:Ci}(hk:GK k):Ok Tryz.prog 295 [.a (aV k)] [dR (CC k)]:=by
 refine bX Tryz.func295 rfl<|cJ 14 [] ?_
 refine aK rfl (od (aO (hk.x)) (aO (hk.x))) ?_
 refine aK rfl (od (aO (hk.y)) (aO (hk.y))) ?_
 refine aK rfl (CW (aO (aP (hk.x) (hk.x))) (aO (aP (hk.y) (hk.y)))) ?_
 refine aK rfl (qv (aO (gj (aP (hk.x) (hk.x)) (aP (hk.y) (hk.y)))) (aO (hk.q))) ?_
 exact ah (aS aZ rfl ae)
theorem aaL {k:Ci}(hk:GK k) (hd:GK d) (hn:pT k d=false):Ok Tryz.prog 211 [.a (aV k),.a (aV d)] [.a (iI (mQ k d)),.c (.i .i64 0)]:=by
 have zt:Rz 6000000 (2:Rat):=Ga.m_
 have f1:Rz 6000000 (CC k):=(wv hk).m_
 have f2:Rz 6000000 (CC d):=(wv hd).m_
 refine bX Tryz.func211 rfl<|ac rfl (fp (WE hk hd) hn)<|sb rfl<|ac rfl (jJ (gT (by decide) (by decide)) (show((2:Int):Rat)=2 from rfl))<|cJ 22 [] ?_
 refine aK rfl (qv (aO (hd.x)) (aO (hk.x))) ?_
 refine aK rfl (od (G3) (aO (cT (hd.x) (hk.x)))) ?_
 refine aK rfl (qv (aO (hd.y)) (aO (hk.y))) ?_
 refine aK rfl (od (G3) (aO (cT (hd.y) (hk.y)))) ?_
 refine aK rfl (V6 hd) ?_
 refine aK rfl (V6 hk) ?_
 refine aK rfl (qv (G3) (G3)) ?_
 refine aq (aG (us:=(cR (2*(d.x-k.x))++cR (2*(d.y-k.y))++cR ((CC d)-(CC k)))) XJ U4 rfl rfl rfl) ?_
 exact ah (aS TX rfl (az ae))
theorem ZU (ha:Rz 2000000 a) (hb:Rz 2000000 b) (h0:b≠0):Ok Tryz.prog 377 [dR a,dR b] [dR (a/b)]:=by
 refine bX Tryz.func377 rfl<|ac rfl (qt (ha.m_) (hb.m_) h0)<|sb rfl ?_
 exact ah (aS aZ rfl ae)
theorem aba (ha:Rz 2000000 a) (hb:Rz 2000000 b) (h0:b≠0):Ok Tryz.prog 351 [dR a,dR b] [dR (a/b)]:=by
 refine bX Tryz.func351 rfl<|ac rfl (qt (ha.m_) (hb.m_) h0) ?_
 exact ah (aS aZ rfl ae)
theorem ZJ {k:Ci}(hl:GL l) (hk:GK k):Ok Tryz.prog 350 [.a (iI l),.a ((cR k.x++cR k.y))] [.a ((cR (nF l k)++cR (nC l k)))]:=by
 have v1:=pO hl hk
 have n1:=mU hl
 have n0:=hl.n
 have fx:=kv hl hk
 have fy:=j7 hl hk
 refine bX Tryz.func350 rfl<|cJ 15 [] ?_
 refine aK rfl (gG (aO (hl.a)) (aO (hk.x))) ?_
 refine aK rfl (gG (aO (hl.b)) (aO (hk.y))) ?_
 refine aK rfl (qO (aO (aP (hl.a) (hk.x))) (aO (aP (hl.b) (hk.y)))) ?_
 refine aK rfl (sZ (aO (gj (aP (hl.a) (hk.x)) (aP (hl.b) (hk.y)))) (aO (hl.c)))<|cJ 14 [] ?_
 refine aK rfl (gG (aO (hl.a)) (aO (hl.a))) ?_
 refine aK rfl (gG (aO (hl.b)) (aO (hl.b))) ?_
 refine aK rfl (qO (aO (aP (hl.a) (hl.a))) (aO (aP (hl.b) (hl.b)))) ?_
 refine aK rfl ((show Ok Tryz.prog 377 _ [dR (nL l k.x k.y/fi l)] from ZU (v1.m_) (n1.m_) hl.n))<|cJ 15 [] ?_
 refine aK rfl (gG (aO (nJ (by assumption) (by assumption) (by assumption))) (aO (hl.a)))<|aK rfl (sZ (aO (hk.x)) (aO (aP (nJ (by assumption) (by assumption) (by assumption)) (hl.a)))) ?_
 refine aK rfl (gG (aO (nJ (by assumption) (by assumption) (by assumption))) (aO (hl.b)))<|aK rfl (sZ (aO (hk.y)) (aO (aP (nJ (by assumption) (by assumption) (by assumption)) (hl.b))))<|aq (aG (us:=(cR (k.x-((nL l k.x k.y/fi l)*l.a))++cR (k.y-((nL l k.x k.y/fi l)*l.b)))) HR Fu rfl rfl rfl) ?_
 exact ah (aS NF rfl ae)
theorem aan {k:Ci}(hl:GL l) (hk:GK k):Ok Tryz.prog 299 [.a (iI l),.a (aV k)] [dR (zH l k),.a ((cR (nF l k)++cR (nC l k)))]:=by
 have v1:=pO hl hk
 have n1:=mU hl
 have n0:=hl.n
 have fx:=kv hl hk
 have fy:=j7 hl hk
 refine bX Tryz.func299 rfl<|ar (aG (us:=(cR k.x++cR k.y)) HR Fu rfl rfl rfl) ?_
 refine ac rfl (ZJ hl hk)<|cJ 12 [] ?_
 refine aK rfl (qv (G3) (aO (hk.x))) ?_
 refine aK rfl (qv (G3) (aO (hk.y)))<|cJ 11 [] ?_
 refine aK rfl (od (aO (cT (by assumption) (hk.x))) (aO (cT (by assumption) (hk.x)))) ?_
 refine aK rfl (od (aO (cT (by assumption) (hk.y))) (aO (cT (by assumption) (hk.y)))) ?_
 refine aK rfl (CW (aO (aP (cT (by assumption) (hk.x)) (cT (by assumption) (hk.x)))) (aO (aP (cT (by assumption) (hk.y)) (cT (by assumption) (hk.y))))) ?_
 refine aK rfl (qv (aO (hk.q)) (aO (gj (aP (cT (by assumption) (hk.x)) (cT (by assumption) (hk.x))) (aP (cT (by assumption) (hk.y)) (cT (by assumption) (hk.y))))))<|cJ 16 [4,5,999999] ?_
 refine aK rfl (od (aO (hl.a)) (aO (hl.a))) ?_
 refine aK rfl (od (aO (hl.b)) (aO (hl.b))) ?_
 refine aK rfl (CW (aO (aP (hl.a) (hl.a))) (aO (aP (hl.b) (hl.b)))) ?_
 refine aK rfl ((show Ok Tryz.prog 351 _ [dR (zH l k)] from by rw[Zt hl.n];exact aba ((hk.q.sub (((fx.sub hk.x).mul (fx.sub hk.x)).add ((fy.sub hk.y).mul (fy.sub hk.y)))).m_) (n1.m_) hl.n)) ?_
 refine DQ.mk<|iE (eh aZ rfl) rfl rfl rfl rfl<|dF ?_
 refine DQ.mk<|iE (eh NF rfl) rfl rfl rfl rfl<|dF ?_
 exact ah (aS aZ rfl (aS NF rfl ae))
theorem adL {k:Ci}(hl:GL l) (hk:GK k):Ok Tryz.prog 212 [.a (iI l),.a (aV k)] [.c (.s ((zg l k).length) (ao aj (zg l k)))]:=by
 have hq:Rz 200 (zH l k):=Yz hl hk
 have kz:Rz 6000000 (zH l k):=hq.m_
 have fx:=kv hl hk
 have fy:=j7 hl hk
 have hb0:Rz 100 l.b:=hl.b.m_
 have ha0:Rz 100 l.a:=hl.a.m_
 have nz:=Wt hl
 refine bX Tryz.func212 rfl ?_
 refine ac rfl (aan hl hk) ?_
 refine ac rfl (cK) ?_
 refine dk rfl (fun hc1=>?_) (fun hc1=>?_)
 ·refine ah ?_
  rw[ZR (by simpa using hc1)]
  exact az ae
 ·refine dk rfl (fun hc2=>?_) (fun hc2=>?_)
  ·refine ac rfl (Tj)<|ar (bV (n:=1) (us:=(cR (nF l k)++cR 0++cR (nC l k)++cR 0++cR 0)) du rfl rfl rfl (by decide) (by decide) rfl) ?_
   refine ah ?_
   rw[X5 (by simpa using hc1) (by simpa using hc2)]
   exact az ae
  ·have g1: ¬aM (zH l k) 0= -1:=by simpa using hc1
   have g2: ¬aM (zH l k) 0=0:=by simpa using hc2
   have h0:0<zH l k:=sT (fun h=>g1 (by have:=d6 (zH l k) 0;omega)) g2
   refine cJ 7 [] ?_
   refine aK rfl (dX (aO (hl.a))) ?_
   refine ac rfl (cK) ?_
   refine jU (bE rfl) (fun c3 hb3=>?_)
   cases c3
   ·refine jU (bE rfl) (fun c4 hb4=>?_)
    cases c4
    ·obtain⟨eU,eV⟩:=SB (l:=l) (by unfold S6;rw[hb3,hb4];rfl)
     refine sb rfl<|cJ 20 [] ?_
     refine aK rfl (dX (aO (hl.b))) ?_
     refine aK rfl (dX (aO (l5 (hl.a)))) ?_
     refine aK rfl ((show Ok Tryz.prog 301 _ [.a (aj (F3 l k))] from by unfold F3;rw[eU,eV];exact rT (fx.m_) hb0.neg (fy.m_) ha0.neg.neg hq h0 (fun e=>nz ⟨by grind,by grind⟩))) ?_
     refine aK rfl ((show Ok Tryz.prog 301 _ [.a (aj (Gf l k))] from by unfold Gf;rw[eU,eV];exact rT (fx.m_) hb0 (fy.m_) ha0.neg hq h0 (fun e=>nz ⟨by grind,by grind⟩))) ?_
     refine aq (bV (n:=2) (us:=aj (F3 l k)++aj (Gf l k)) du rfl rfl rfl (by decide) (by decide) rfl) ?_
     refine ah ?_
     rw[GO g1 g2]
     exact az ae
    ·refine ac rfl (cK) ?_
     refine dk rfl (fun hc5=>?_) (fun hc5=>?_)
     ·obtain⟨eU,eV⟩:=Pa (l:=l) (by unfold S6;rw[hb3,hb4,hc5];rfl)
      refine cJ 4 [] ?_
      refine aK rfl (dX (aO (hl.b))) ?_
      refine aK rfl (dX (aO (l5 (hl.a))))<|cJ 20 [] ?_
      refine aK rfl (dX (aO (l5 (hl.b)))) ?_
      refine aK rfl (dX (aO (l5 (l5 (hl.a))))) ?_
      refine aK rfl ((show Ok Tryz.prog 301 _ [.a (aj (F3 l k))] from by unfold F3;rw[eU,eV];exact rT (fx.m_) hb0.neg.neg (fy.m_) ha0.neg.neg.neg hq h0 (fun e=>nz ⟨by grind,by grind⟩))) ?_
      refine aK rfl ((show Ok Tryz.prog 301 _ [.a (aj (Gf l k))] from by unfold Gf;rw[eU,eV];exact rT (fx.m_) hb0.neg (fy.m_) ha0.neg.neg hq h0 (fun e=>nz ⟨by grind,by grind⟩))) ?_
      refine aq (bV (n:=2) (us:=aj (F3 l k)++aj (Gf l k)) du rfl rfl rfl (by decide) (by decide) rfl) ?_
      refine ah ?_
      rw[GO g1 g2]
      exact az ae
     ·obtain⟨eU,eV⟩:=SB (l:=l) (by unfold S6;rw[hb3,hb4,hc5];rfl)
      refine cJ 20 [] ?_
      refine aK rfl (dX (aO (hl.b))) ?_
      refine aK rfl (dX (aO (l5 (hl.a)))) ?_
      refine aK rfl ((show Ok Tryz.prog 301 _ [.a (aj (F3 l k))] from by unfold F3;rw[eU,eV];exact rT (fx.m_) hb0.neg (fy.m_) ha0.neg.neg hq h0 (fun e=>nz ⟨by grind,by grind⟩))) ?_
      refine aK rfl ((show Ok Tryz.prog 301 _ [.a (aj (Gf l k))] from by unfold Gf;rw[eU,eV];exact rT (fx.m_) hb0 (fy.m_) ha0.neg hq h0 (fun e=>nz ⟨by grind,by grind⟩))) ?_
      refine aq (bV (n:=2) (us:=aj (F3 l k)++aj (Gf l k)) du rfl rfl rfl (by decide) (by decide) rfl) ?_
      refine ah ?_
      rw[GO g1 g2]
      exact az ae
   ·obtain⟨eU,eV⟩:=Pa (l:=l) (by unfold S6;rw[hb3];rfl)
    refine DL.mk<|wO (oI rfl)<|dZ ?_
    refine sy rfl<|cJ 4 [] ?_
    refine aK rfl (dX (aO (hl.b))) ?_
    refine aK rfl (dX (aO (l5 (hl.a))))<|cJ 20 [] ?_
    refine aK rfl (dX (aO (l5 (hl.b)))) ?_
    refine aK rfl (dX (aO (l5 (l5 (hl.a))))) ?_
    refine aK rfl ((show Ok Tryz.prog 301 _ [.a (aj (F3 l k))] from by unfold F3;rw[eU,eV];exact rT (fx.m_) hb0.neg.neg (fy.m_) ha0.neg.neg.neg hq h0 (fun e=>nz ⟨by grind,by grind⟩))) ?_
    refine aK rfl ((show Ok Tryz.prog 301 _ [.a (aj (Gf l k))] from by unfold Gf;rw[eU,eV];exact rT (fx.m_) hb0.neg (fy.m_) ha0.neg.neg hq h0 (fun e=>nz ⟨by grind,by grind⟩))) ?_
    refine aq (bV (n:=2) (us:=aj (F3 l k)++aj (Gf l k)) du rfl rfl rfl (by decide) (by decide) rfl) ?_
    refine ah ?_
    rw[GO g1 g2]
    exact az ae
theorem Wq {k:Ci}(hk:GK k) (hd:GK d):Ok Tryz.prog 121 [.a (aV k),.a (aV d)] [.c (.s ((lK k d).length) (ao aj (lK k d))),.c (.i .i64 (JZ k d))]:=by
 refine bX Tryz.func121 rfl ?_
 refine ac rfl (abU hk hd) ?_
 refine dk rfl (fun hc1=>?_) (fun hc1=>?_)
 ·refine ah ?_
  rw[(SN hc1).1,(SN hc1).2]
  exact az (az ae)
 ·refine ac rfl (WE hk hd) ?_
  refine dk rfl (fun hc2=>?_) (fun hc2=>?_)
  ·refine ah ?_
   rw[(LY hc1 hc2).1,(LY hc1 hc2).2]
   exact az (az ae)
  ·refine ac rfl (aaL hk hd hc2)<|ac rfl (adL (ub hk hd hc2) hk)<|ah ?_
   rw[(K1 hc1 hc2).1,(K1 hc1 hc2).2]
   exact az (az ae)
theorem Tp {k:Ci}{a b:Pt}(vP:CvV (.arc k false a b)) (vR:CvV (.arc k false a' b')) (e1:cP a a'=0) (e2:cP b b'=0)
 (iP: ∀x,x=jT k∨x=jE k→(Cv.arc k false a b).inner x=false∧(Cv.arc k false a' b').inner x=false):
 ∃m:Pt,GB m∧Ok Tryz.prog 43 [.a (aC (.arc k false a b))] [.a (aj m)]∧Ok Tryz.prog 56 [.a (aC (.arc k false a' b'))] [.a (aj m)]∧ ∃x,m=xr (Cv.arc k false a b).fwd x∧mO (Cv.arc k false a b).fwd.p x<0∧0<mO (Cv.arc k false a b).fwd.q x:=by
 obtain⟨x,hx,h1,h2,h3,h4,h5,h6,i1,i2⟩:=abj vP vR e1 e2 iP
 obtain⟨⟨z1,z2,z3⟩,hv⟩:=JA (Ha vP) hx h3
 obtain⟨ea,eb⟩:=QR (Cv.arc k false a b).fwd x
 refine⟨xr (Cv.arc k false a b).fwd x,⟨ea▸hx.mono (by decide),eb▸dJ (by decide),z1,z2,z3,hv⟩,abe vP (iP _ (.inl rfl)).1 (iP _ (.inr rfl)).1 hx h3 h1,h6▸ZK vR h5 hx h4 h2,x,rfl,i1,i2⟩
theorem adV {m:Pt}(hm:GB m) (hd:RK d):Ok Tryz.prog 45 [.a (aV d),.c (.p (aj m))] [.c (.b (decide (mr d m≥0)))]:=by
 refine bX Tryz.func45 rfl ?_
 refine ar (mw (us:=aj m) bq rfl rfl rfl rfl) ?_
 refine ac rfl (OU hd.k hm) ?_
 exact ah (az ae)
theorem adn (hL: ∀d∈L,RK d) (lL:L.length≤4) {m:Pt}(hm:GB m):Ok Tryz.prog 131 [.c (.s L.length (ao aV L)),.c (.k 45 [.p (aj m)])] [.c (.i .i64 (fz (eO L m) L.length))]:=by
 refine bX Tryz.func131 rfl ?_
 refine DW.mk<|bn (ι:={n:Nat // n≤L.length∧ ∀i,i<n→eO L m i=true}) (fun i=>⟨19,[(0,.v (.c (.s L.length (ao aV L)))),(1,.v (.c (.k 45 [.p (aj m)]))),(7,.v (.c (.i .i64 (L.length:Int)))),(8,.v (.c (.i .i64 (i.1:Int))))],[]⟩) (fun i=>L.length-i.1) ⟨0,eF _,fun i hi=>absurd hi (by omega)⟩ (ap ⟨rfl,rfl,rfl,rfl,trivial⟩ trivial rfl) ?_
 rintro⟨n,h2,h3⟩
 replace h2:n≤L.length:=h2
 replace h3: ∀i,i<n→eO L m i=true:=h3
 dsimp only
 refine nu ?_
 refine dk rfl (fun hc1=>?_) (fun hc1=>?_)
 ·have g1:n<L.length:=by have:=of_decide_eq_true hc1;omega
  refine ar (fl dK dU g1 D3 rfl)<|ar (ck (us:=aV (L.getD n dK)) qK rfl (rA _ _) (dU _) rfl) ?_
  refine ar (p9 rfl rfl (adV hm (hL _ (bd g1))) rfl) ?_
  refine dk rfl (fun hc2=>?_) (fun hc2=>?_)
  ·have g2:eO L m n=false:=by have:=of_decide_eq_true hc2;unfold eO;rw[decide_eq_false (by omega)]
   refine ah ?_
   rw[IC h3 g2 g1]
   exact az ae
  ·have g2:eO L m n=true:=by have:=of_decide_eq_false hc2;unfold eO;rw[decide_eq_true (by omega)]
   refine ar (ca (by omega) rfl) ?_
   exact⟨⟨n+1,g1,fun i hi=>(gO i n).elim (h3 i) fun q=>(show i=n by omega)▸g2⟩,ap ⟨rfl,rfl,rfl,rfl,trivial⟩ trivial rfl,by show L.length-(n+1)<L.length-n;omega⟩
 ·have hp:n=L.length:=by have:=of_decide_eq_false hc1;omega
  refine ah ?_
  rw[Nr (hp▸h3)]
  exact az ae
theorem aaE (hL: ∀d∈L,RK d) (lL:L.length≤4) {m:Pt}(hm:GB m):Ok Tryz.prog 44 [.c (.s L.length (ao aV L)),.c (.k 45 [.p (aj m)])] [.c (.b (!qg L m))]:=by
 refine bX Tryz.func44 rfl<|ac rfl (adn hL lL hm)<|ah ?_
 rw[←UH]
 exact az ae
theorem aaV (hN:N≤100):Ok Tryz.prog 48 [.c (.s N (tE e N)),.c (.b false)] [.c (.i .i64 (fz e N))]:=by
 refine bX Tryz.func48 rfl ?_
 refine DW.mk<|bn (ι:={n:Nat // n≤N∧ ∀i,i<n→e i=true}) (fun i=>⟨19,[(0,.v (.c (.s N (tE e N)))),(1,.v (.c (.b false))),(7,.v (.c (.i .i64 (N:Int)))),(8,.v (.c (.i .i64 (i.1:Int))))],[]⟩) (fun i=>N-i.1) ⟨0,eF _,fun i hi=>absurd hi (by omega)⟩ (ap ⟨rfl,rfl,rfl,rfl,trivial⟩ trivial rfl) ?_
 rintro⟨n,h2,h3⟩
 replace h2:n≤N:=h2
 replace h3: ∀i,i<n→e i=true:=h3
 dsimp only
 refine nu ?_
 refine dk rfl (fun hc1=>?_) (fun hc1=>?_)
 ·have g1:n<N:=by have:=of_decide_eq_true hc1;omega
  refine ar (bI (us:=[CellD.b (e n)]++(tE e N).drop (n+1)) A6 rfl rfl (by omega) (dN) (pP g1) rfl) ?_
  refine ar (b7 lW rfl rfl rfl) ?_
  refine ar (zF rfl rfl jM rfl) ?_
  refine dk rfl (fun hc2=>?_) (fun hc2=>?_)
  ·have g2:e n=false:=(beq_iff_eq.1 hc2).symm
   refine ah ?_
   rw[IC h3 g2 g1]
   exact az ae
  ·have g2:e n=true:=by have:=hc2;revert this;cases e n<;>decide
   refine ar (ca (by omega) rfl) ?_
   exact⟨⟨n+1,g1,fun i hi=>(gO i n).elim (h3 i) fun q=>(show i=n by omega)▸g2⟩,ap ⟨rfl,rfl,rfl,rfl,trivial⟩ trivial rfl,by show N-(n+1)<N-n;omega⟩
 ·have hp:n=N:=by have:=of_decide_eq_false hc1;omega
  refine ah ?_
  rw[Nr (hp▸h3)]
  exact az ae
theorem aaK (hN:N≤100):Ok Tryz.prog 47 [.c (.s N (tE e N)),.c (.b false)] [.c (.b (decide (fz e N≥0)))]:=by
 refine bX Tryz.func47 rfl<|ac rfl (aaV hN) ?_
 exact ah (az ae)
section
variable {P:Program}{ops:Array Oper}{T:TF}{B:BF}{dst:Option Nat}{y:Operand}{t:TypeId}{ty:TypeId}{pos:String}{af:Array Edge}{g:Option (Nat×Bool)}
theorem SO {s:ByteArray}{k:IntKind}{i n:Int}(hU:P.underlying t=some .string) (hi:cG T y=some (.v (.c (.i k i)))) (h0:0≤i∧i<s.size) (hn:(((s[i.toNat]?).getD 0).toNat:Int)=n) (hg:gd ops ⟨dst,.index t (.const (.string s)) y,ty,pos,af,g⟩ T=some true):
 Sem P ops ⟨dst,.index t (.const (.string s)) y,ty,pos,af,g⟩ T B (.r (.v (.c (.i .u8 n)))):=
 bL hg (pS rfl) (fun V β a w hs=>by
  have h2:=fT (aD hs (x:=y) (by simp[Op.operands]) hi)
  have h3:i.toNat<s.size:=by omega
  refine⟨.int .u8 n,?_,.i _ _⟩
  subst hn
  have h4:=run_index_string (P:=P) w t s k i hU
  rw[dif_pos h0] at h4
  simp only[execOp,h2]
  show(Instr.index t (.string s) (.int k i)>>=_).run P w=_
  rw[fb,h4,ByteArray.getElem?_lt' s _ h3]
  rfl)
end
theorem NP {P:Program}{σ:St}{Q:Exit→St→Prop}{x y:Code}(h:Dw P y σ Q):Dw P (.cond (.const (.bool false)) x y) σ Q:=fun av w0 β a w hr=>
 wp_cond_split (t:=false) rfl (fun e=>nomatch e) (fun _=>h av w0 β a w hr)
theorem aaw {x:Int}(h0:0≤x) (h1:x≤255):IntKind.u8.wrap x=x:=by unfold IntKind.wrap;simp[IntKind.bits,IntKind.signed];omega
theorem abQ {d:Cv}(vc:CvV c) (vd:CvV d):Ok Tryz.prog 50 [.a (aC c),.a (aC d)] [.c (.i .i64 (dh c d))]:=by
 refine bX Tryz.func50 rfl ?_
 refine ar (ce (us:=aj c.p) bq rfl rfl (mY _) rfl rfl) ?_
 refine ar (ce (us:=aj d.p) bq rfl rfl (mY _) rfl rfl) ?_
 refine ac rfl (Pz (iT vc.g) (iT vd.g)) ?_
 exact ah (az ae)
theorem acI {L:List Cv}(hn1:1≤L.length) (hn:L.length≤12) (hG: ∀x∈L,CvV x):OkS Tryz.prog 243 49 L.length c9 (ao aC L++rs) (ao aC (bp aX dh L)++rs) [.c (.i .i64 0),.c (.i .i64 (L.length:Int)),.c (.f 50)]:=by
 refine OkS.of (K:=100000) (by kernel_rfl) Tryz.func243 rfl rfl rfl rfl ?_
 rw[show Tryz.f243.ntmps=53 from rfl]
 refine aa<|ag<|ar (ju (r:=1) rfl rfl rfl rfl) ?_
 refine aE<|bn (ι:={p:Nat // 1≤p∧p≤L.length}) (fun i=>⟨53,[(0,.o 100000 L.length c9),(1,.v (.c (.i .i64 0))),(2,.v (.c (.i .i64 (L.length:Int)))),(3,.v (.c (.f 50))),(8,.v (.c (.i .i64 (i.1:Int))))],[(100000,49,ao aC (UB aX dh L i.1)++rs)]⟩) (fun i=>L.length-i.1) ⟨1,cg _,hn1⟩ (ap ⟨rfl,rfl,rfl,rfl,rfl,trivial⟩ ⟨congrArg (fun q=>some (49,ao aC q++rs)) ((LD L).symm),trivial⟩ rfl) ?_
 rintro⟨p,h1,h2⟩
 replace h1:1≤p:=h1
 replace h2:p≤L.length:=h2
 dsimp only
 refine aa<|aa<|ag ?_
 refine aJ rfl (fun hc1=>?_) (fun hc1=>?_)
 ·have g1:p<L.length:=by have:=of_decide_eq_true hc1;omega
  have hOl:(bp aX dh (L.take p)).length=p:=by rw[fL,dH,il h2]
  refine aA<|aa<|aE<|aa<|ag<|aE<|bn (ι:={j:Nat // j≤p∧pM aX dh (L.getD p aX) (bp aX dh (L.take p)) p=pM aX dh (L.getD p aX) (bp aX dh (L.take p)) j}) (fun i=>⟨53,[(0,.o 100000 L.length c9),(1,.v (.c (.i .i64 0))),(2,.v (.c (.i .i64 (L.length:Int)))),(3,.v (.c (.f 50))),(8,.v (.c (.i .i64 (p:Int)))),(9,.v (.c (.i .i64 (i.1:Int))))],[(100000,49,ao aC (AV (bp aX dh (L.take p)) (L.drop (p+1)) (L.getD p aX) i.1)++rs)]⟩) (fun i=>i.1) ⟨p,cg _,rfl⟩ (ap ⟨rfl,rfl,rfl,rfl,rfl,rfl,trivial⟩ ⟨congrArg (fun q=>some (49,ao aC q++rs)) (Ma g1),trivial⟩ rfl) ?_
  rintro⟨j,h3,h4⟩
  replace h3:j≤p:=h3
  replace h4:pM aX dh (L.getD p aX) (bp aX dh (L.take p)) p=pM aX dh (L.getD p aX) (bp aX dh (L.take p)) j:=h4
  dsimp only
  refine aa<|aa<|lX 17 rfl rfl<|cn 3 ?_
  refine ST (bE rfl) (fun c2 hb2=>?_)
  cases c2
  ·have g2:j=0:=by have:=of_decide_eq_false hb2;omega
   refine yW<|dG<|bt<|bz rfl<|bi<|ag<|ar (ca (by omega) rfl) ?_
   exact⟨⟨p+1,by omega,g1⟩,ap ⟨rfl,rfl,rfl,rfl,rfl,trivial⟩ ⟨congrArg (fun q=>some (49,ao aC q++rs)) (zG g1 (h4.trans (FH (.inl g2)))),trivial⟩ rfl,by show L.length-(p+1)<L.length-p;omega⟩
  ·have g2:0<j:=by have:=of_decide_eq_true hb2;omega
   have hjl:j≤(bp aX dh (L.take p)).length:=by rw[hOl];exact h3
   refine cn 3<|ba (bo gP rfl rfl (by omega) rfl) ?_
   refine ba (ce (us:=aC (L.getD p aX)) bO rfl rfl ((jP (e:=aX) (O:=(AV (bp aX dh (L.take p)) (L.drop (p+1)) (L.getD p aX) j)) ai (by rw[iH hjl,hOl,fS];omega)).trans (congrArg aC (FX hjl))) (ai _) rfl) ?_
   refine cn 2<|ba (ci (((j-1:Nat):Int)) ((bK (by omega) (by omega)).trans (congrArg some (by omega))) rfl)<|ba (bo gP rfl rfl (by omega) rfl) ?_
   refine ba (ce (us:=aC ((bp aX dh (L.take p)).getD (j-1) aX)) bO rfl rfl ((jP (e:=aX) (O:=(AV (bp aX dh (L.take p)) (L.drop (p+1)) (L.getD p aX) j)) ai (by rw[iH hjl,hOl,fS];omega)).trans (congrArg aC (FT g2 hjl))) (ai _) rfl) ?_
   refine ba (cb rfl (abQ (hG _ (bd g1)) (hG _ (Cm ((kU _).mem_iff.1 (bd (show j-1<(bp aX dh (L.take p)).length by rw[hOl];omega)))))))<|yW<|dG<|bt ?_
   refine aJ rfl (fun hc3=>?_) (fun hc3=>?_)
   ·have g3:dh (L.getD p aX) ((bp aX dh (L.take p)).getD (j-1) aX)<0:=of_decide_eq_true hc3
    refine aA<|aa<|aE<|pQ 16 [100000,999999] dP (by kernel_rfl) rfl rfl<|cn 4<|ba (ci (((j-1:Nat):Int)) ((bK (by omega) (by omega)).trans (congrArg some (by omega))) rfl)<|cn 2<|ba (ci (((j-1:Nat):Int)) ((bK (by omega) (by omega)).trans (congrArg some (by omega))) rfl)<|ba (bo gP rfl rfl (by omega) rfl) ?_
    refine DO (by kernel_rfl) (ce (us:=aC ((bp aX dh (L.take p)).getD (j-1) aX)) bO rfl rfl ((jP (e:=aX) (O:=(AV (bp aX dh (L.take p)) (L.drop (p+1)) (L.getD p aX) j)) ai (by rw[iH hjl,hOl,fS];omega)).trans (congrArg aC (FT g2 hjl))) (ai _) rfl) ?_
    refine cn 2<|ba (bo gP rfl rfl (by omega) rfl) ?_
    refine DO (by kernel_rfl) (ce (us:=aC (L.getD p aX)) bO rfl rfl ((jP (e:=aX) (O:=(AV (bp aX dh (L.take p)) (L.drop (p+1)) (L.getD p aX) j)) ai (by rw[iH hjl,hOl,fS];omega)).trans (congrArg aC (FX hjl))) (ai _) rfl) ?_
    refine ba (bo gP rfl rfl (by omega) rfl) ?_
    refine iE (aY (us:=ao aC ((AV (bp aX dh (L.take p)) (L.drop (p+1)) (L.getD p aX) j).set j ((bp aX dh (L.take p)).getD (j-1) aX))++rs) bO rfl rfl rfl (ai _) (by rw[dt,am ai,iH hjl,hOl,fS];omega) (wD ai (by rw[iH hjl,hOl,fS];omega) _) rfl) rfl rfl rfl rfl ?_
    refine ln<|tv<|aU (bo gP rfl rfl (by omega) rfl) ?_
    refine gi (aY (us:=ao aC (((AV (bp aX dh (L.take p)) (L.drop (p+1)) (L.getD p aX) j).set j ((bp aX dh (L.take p)).getD (j-1) aX)).set (j-1) (L.getD p aX))++rs) bO rfl rfl rfl (ai _) (by rw[dt,am ai,xI,iH hjl,hOl,fS];omega) (wD ai (by rw[xI,iH hjl,hOl,fS];omega) _) rfl) ?_
    refine bt<|ag<|ar (ci (((j-1:Nat):Int)) ((bK (by omega) (by omega)).trans (congrArg some (by omega))) rfl) ?_
    exact⟨⟨j-1,by omega,h4.trans (Sa g2 g3)⟩,ap ⟨rfl,rfl,rfl,rfl,rfl,rfl,trivial⟩ ⟨congrArg (fun q=>some (49,ao aC q++rs)) (Rt g2 hjl),trivial⟩ rfl,by show j-1<j;omega⟩
   ·have g3: ¬dh (L.getD p aX) ((bp aX dh (L.take p)).getD (j-1) aX)<0:=of_decide_eq_false hc3
    refine bi<|ag<|ar (ca (by omega) rfl) ?_
    exact⟨⟨p+1,by omega,g1⟩,ap ⟨rfl,rfl,rfl,rfl,rfl,trivial⟩ ⟨congrArg (fun q=>some (49,ao aC q++rs)) (zG g1 (h4.trans (FH (.inr g3)))),trivial⟩ rfl,by show L.length-(p+1)<L.length-p;omega⟩
 ·have hp:p=L.length:=by have:=of_decide_eq_false hc1;omega
  refine bi ?_
  exact⟨.inl rfl,congrArg (fun q=>some (49,ao aC q++rs)) (by rw[hp,Mg])⟩
theorem Yj:Ok Tryz.prog 243 [.c (.s 0 []),.c (.i .i64 0),.c (.i .i64 0),.c (.f 50)] []:=by
 refine bX Tryz.func243 rfl<|ar (ju (r:=1) rfl rfl rfl rfl) ?_
 refine DW.mk<|bn (ι:=Nat) (fun i=>match i with|_=>⟨53,[(0,.v (.c (.s 0 []))),(1,.v (.c (.i .i64 0))),(2,.v (.c (.i .i64 0))),(3,.v (.c (.f 50))),(8,.v (.c (.i .i64 1)))],[]⟩) (fun i=>0-i) 0 (ap ⟨rfl,rfl,rfl,rfl,rfl,trivial⟩ trivial rfl) ?_
 intro i
 match i with
 |_=>
  show Dw _ _ ⟨53,[(0,.v (.c (.s 0 []))),(1,.v (.c (.i .i64 0))),(2,.v (.c (.i .i64 0))),(3,.v (.c (.f 50))),(8,.v (.c (.i .i64 1)))],[]⟩ _
  refine nu<|sb rfl ?_
  exact I0 ae
theorem S1 {x:Nat}(hx:x≤12):Ok Tryz.prog 252 [.c (.i .u64 (x:Int))] [.c (.i .i64 (bl x))]:=by
 have b1:=aaQ x
 refine eo Tryz.func252 25 [.tmp 2] rfl<|aa<|ag<|aa<|aa<|bm<|bU 1<|aU (a8 (c:=false) (fh rfl) (decide_eq_false (by omega))) ?_
 refine bt<|bz rfl<|aA<|aa<|aa<|bm<|bU 1<|aU (a8 (c:=false) (fh rfl) (decide_eq_false (by omega))) ?_
 refine bt<|bz rfl<|aA<|aa<|aa<|bm<|bU 1<|aU (a8 (c:=false) (fh rfl) (decide_eq_false (by omega))) ?_
 refine bt<|bz rfl<|aA<|aa<|ag<|ar (bZ (r:=(x:Int)) fQ Yy rfl (aaw (by omega) (by omega)) rfl) ?_
 refine ar (SO (n:=bl x) (by kernel_rfl) rfl ⟨by omega,Int.lt_of_le_of_lt (b:=12) (by omega) (by decide+kernel)⟩ (Ym hx (by decide+kernel)) rfl) ?_
 refine ar (bZ (r:=bl x) Yy Rh rfl (pK (by omega) (by omega)) rfl) ?_
 refine ar (ci (bl x) ((bh (by omega) (by omega)).trans (congrArg some (by omega))) rfl)<|a7 ?_
 exact ah (az ae)
theorem Xb {x:Nat}(hx:x≤12):Ok Tryz.prog 138 [.c (.i .u64 (x:Int))] [.c (.i .i64 (bl x))]:=by
 refine eo Tryz.func138 8 [.tmp 2] rfl<|aa<|bm<|ed<|aa<|NP<|aA<|aa<|bm<|bU 1<|aU (cb rfl (S1 hx))<|ed<|a7 ?_
 exact ah (az ae)
theorem acu {L:List Cv}(hn1:1≤L.length) (hn:L.length≤12) (hG: ∀x∈L,CvV x) :OkS Tryz.prog 137 49 L.length c9 (ao aC L++rs) (ao aC (bp aX dh L)++rs) [.c (.i .i64 0),.c (.i .i64 (L.length:Int)),.c (.i .i64 lm),.c (.f 50)]:=by
 refine OkS.of (K:=100000) (by kernel_rfl) Tryz.func137 rfl rfl rfl rfl ?_
 rw[show Tryz.f137.ntmps=148 from rfl]
 refine aa<|ag<|aa<|ag<|aE ?_
 refine bn (ι:=Nat) (fun i=>match i with|_=>⟨148,[(0,.o 100000 L.length c9),(1,.v (.c (.i .i64 0))),(2,.v (.c (.i .i64 (L.length:Int)))),(3,.v (.c (.i .i64 lm))),(4,.v (.c (.f 50))),(10,.v (.c (.b true))),(11,.v (.c (.b true)))],[(100000,49,ao aC L++rs)]⟩) (fun i=>0-i) 0 (ap ⟨rfl,rfl,rfl,rfl,rfl,rfl,rfl,trivial⟩ ⟨rfl,trivial⟩ rfl) ?_
 intro i
 match i with
 |_=>
  show Dw _ _ ⟨148,[(0,.o 100000 L.length c9),(1,.v (.c (.i .i64 0))),(2,.v (.c (.i .i64 (L.length:Int)))),(3,.v (.c (.i .i64 lm))),(4,.v (.c (.f 50))),(10,.v (.c (.b true))),(11,.v (.c (.b true)))],[(100000,49,ao aC L++rs)]⟩ _
  refine aE<|aa<|ag<|ar (ci ((L.length:Int)) ((bK (by omega) (by omega)).trans (congrArg some (by omega))) rfl)<|aa<|aa<|bm<|bU 1<|aU (a8 (c:=true) (fh rfl) (decide_eq_true (by omega))) ?_
  refine bt<|dO rfl<|aa<|ag ?_
  refine DL.mk<|sO (kP rfl rfl rfl rfl rfl (acI hn1 hn hG) rfl)<|dZ ?_
  refine a7 ?_
  exact⟨.inr rfl,rfl⟩
theorem Z9:Ok Tryz.prog 137 [.c (.s 0 []),.c (.i .i64 0),.c (.i .i64 0),.c (.i .i64 lm),.c (.f 50)] []:=by
 refine bX Tryz.func137 rfl ?_
 refine DW.mk<|bn (ι:=Nat) (fun i=>match i with|_=>⟨148,[(0,.v (.c (.s 0 []))),(1,.v (.c (.i .i64 0))),(2,.v (.c (.i .i64 0))),(3,.v (.c (.i .i64 lm))),(4,.v (.c (.f 50))),(10,.v (.c (.b true))),(11,.v (.c (.b true)))],[]⟩) (fun i=>0-i) 0 (ap ⟨rfl,rfl,rfl,rfl,rfl,rfl,rfl,trivial⟩ trivial rfl) ?_
 intro i
 match i with
 |_=>
  show Dw _ _ ⟨148,[(0,.v (.c (.s 0 []))),(1,.v (.c (.i .i64 0))),(2,.v (.c (.i .i64 0))),(3,.v (.c (.i .i64 lm))),(4,.v (.c (.f 50))),(10,.v (.c (.b true))),(11,.v (.c (.b true)))],[]⟩ _
  refine nu<|ar (ju (r:=0) rfl rfl rfl rfl) ?_
  refine sy rfl<|ac rfl (Yj) ?_
  exact ah ae
theorem adA {L:List Cv}(hn1:1≤L.length) (hn:L.length≤12) (hG: ∀x∈L,CvV x):OkS Tryz.prog 49 49 L.length c9 (ao aC L++rs) (ao aC (bp aX dh L)++rs) [.c (.f 50)]:=by
 refine OkS.of (K:=100000) (by kernel_rfl) Tryz.func49 rfl rfl rfl rfl ?_
 rw[show Tryz.f49.ntmps=14 from rfl]
 refine aa<|ag<|ar (iq gP rfl rfl) ?_
 refine ag<|ar (bZ (r:=(L.length:Int)) Rh FV rfl (iC (by omega) (by omega)) rfl) ?_
 refine ac rfl (Xb hn) ?_
 refine DL.mk<|sO (kP rfl rfl rfl rfl rfl (acu hn1 hn hG) rfl)<|dZ ?_
 exact⟨.inl rfl,rfl⟩
theorem ab6:Ok Tryz.prog 49 [.c (.s 0 []),.c (.f 50)] []:=by
 refine bX Tryz.func49 rfl ?_
 refine ar (bZ (r:=0) Rh FV rfl (rfl) rfl) ?_
 refine ac rfl ((show Ok _ _ [.c (.i .u64 0)] [.c (.i .i64 0)] from Xb (x:=0) (by decide)))<|ac rfl (Z9) ?_
 exact I0 ae
theorem oO {α:Type}{d:α}{f:α→Bool}{l:List α}(h:j<l.length) (g:f (l.getD j d)=true):(l.take (j+1)).filter f=(l.take j).filter f++[l.getD j d]:=by
 rw[AO,vu,eB (d:=d) h]
 show _++List.filter f [l.getD j d]=_
 rw[List.filter_cons_of_pos g];rfl
theorem we {α:Type}{d:α}{f:α→Bool}{l:List α}(h:j<l.length) (g:f (l.getD j d)=false):(l.take (j+1)).filter f=(l.take j).filter f:=by
 rw[AO,vu,eB (d:=d) h]
 show _++List.filter f [l.getD j d]=_
 rw[List.filter_cons_of_neg (by rw[g];decide)]
 exact iZ _
theorem jI {α β:Type}{d:α}{f:α→List β}{l:List α}(h:n<l.length):(l.take (n+1)).flatMap f=(l.take n).flatMap f++f (l.getD n d):=by
 rw[AO,List.flatMap_append,eB (d:=d) h]
 show _++List.flatMap f [l.getD n d]=_
 rw[List.flatMap_cons,List.flatMap_nil,iZ]
def aW (k:Ci) (L:List Ci):List Pt:=L.flatMap (lK k)
def nt (k:Ci) (L:List Ci) (c:Cv):List Pt:=(aW k L).filter c.on
def ns (k:Ci) (L:List Ci) (c:Cv):List Cv:=tX c (mu c (nt k L c))
def bj (k:Ci) (L:List Ci):List Cv:=(aw k).flatMap (ns k L)
def xq (k:Ci) (L:List Ci) (n:Nat):List Cv:=((aw k).take n).flatMap (ns k L)
theorem wG {k:Ci}: ∀ {L:List Ci},(aW k L).length≤2*L.length
 |[]=>cg _
 |d::L=>by
  have h:=wG (k:=k) (L:=L)
  have h2:=CV (k:=k) (d:=d)
  unfold aW at h⊢
  rw[List.flatMap_cons,dt,ui]
  omega
section
variable {k:Ci}{L:List Ci}(hk:RK k) (hL: ∀d∈L,RK d) (lL:L.length≤4)
include hk hL
theorem Hr: ∀p∈aW k L,GP p:=fun p hp=>by
 obtain⟨d,hd,h⟩:=List.mem_flatMap.1 hp
 exact B5 hk (hL d hd) p h
end
theorem Nm {k:Ci}:(aW k (L.take n)).length≤2*n:=
 iO wG (by rw[dH];omega)
theorem zQ {k:Ci}(lL:L.length≤4):(ns k L c).length≤9:=by
 have h1:(ns k L c).length=(mu c (nt k L c)).length+1:=HU _ _
 have h2:(mu c (nt k L c)).length≤(bQ (bp dPt (bT c) (nt k L c)) (nt k L c).length).length:=tx _ _
 have h3:=y7 (S:=bp dPt (bT c) (nt k L c)) (n:=(nt k L c).length)
 have h4:(nt k L c).length≤(aW k L).length:=tx _ _
 have h5:=wG (k:=k) (L:=L)
 omega
theorem HB {k:Ci}:0<(ns k L c).length:=by
 have h1:(ns k L c).length=(mu c (nt k L c)).length+1:=HU _ _
 omega
theorem IZ {k:Ci}: ∀c∈aw k,c.isArc=true:=fun c hc=>by
 rcases dD.1 hc with rfl|hc
 ·rfl
 ·rw[nD.1 hc];rfl
theorem PG {k:Ci}(hk:GK k) (h0:0<k.q): ∀c∈aw k,CvV c:=fun c hc=>by
 rcases dD.1 hc with rfl|hc
 ·exact VZ hk h0
 ·rw[nD.1 hc];exact V5 hk h0
theorem BY {k:Ci}(lL:L.length≤4) (hn:n≤2):(xq k L n).length≤9*n:=by
 have hA:=zQ (k:=k) (c:=.arc k false (jT k) (jE k)) lL
 have hB:=zQ (k:=k) (c:=.arc k false (jE k) (jT k)) lL
 match n,hn with
 |0,_=>exact cg _
 |1,_=>
  show(ns k L (.arc k false (jT k) (jE k))++[]).length≤9
  rw[iZ];exact hA
 |2,_=>
  show(ns k L (.arc k false (jT k) (jE k))++(ns k L (.arc k false (jE k) (jT k))++[])).length≤18
  rw[iZ,dt];omega
end Go.Proofs.YtegpmhlfjkhjmaaGreat
