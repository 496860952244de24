/-Plain:runs of true places on a circle of places,as a program collects them going around once,and as one looks for them from each place. -/
import Derived.Test.YtegpmhlfjkhjmaaGreatYgU
namespace Go.Proofs.YtegpmhlfjkhjmaaGreat
variable {a f i n s:Nat}
theorem Bb:type_of% @List.map_congr_left:=@List.map_congr_left
theorem Cm:type_of% @Nat.pow_le_pow_right:=@Nat.pow_le_pow_right
def rF (e:Nat→Bool) (i:Nat):Nat→Nat
 |0=>0
 |f+1=>if e (i+1) then rF e (i+1) f+1 else 0
def Ms (e:Nat→Bool) (a:Nat):Bool:=e (a+1)&& !e a
def lP (e:Nat→Bool) (s n:Nat):List Nat:=((List.range n).map (s+ ·)).filter (Ms e)
section
variable {e:Nat→Bool}
theorem BJ: ∀(f i:Nat),rF e i f≤f
 |0,_=>cj _
 |f+1,i=>by
  unfold rF
  have:=BJ f (i+1)
  split<;>omega
theorem xg: ∀(f i j:Nat),j<rF e i f→e (i+1+j)=true
 |0,i,j,h=>absurd h (Nat.not_lt_zero _)
 |f+1,i,j,h=>by
  unfold rF at h
  split at h
  ·rename_i g
   cases j with
   |zero=>exact g
   |succ j=>rw[show i+1+(j+1)=(i+1)+1+j from by omega];exact xg f (i+1) j (by omega)
  ·omega
theorem uI: ∀(f i:Nat),rF e i f≠f→e (i+1+rF e i f)=false
 |0,i,h=>absurd rfl h
 |f+1,i,h=>by
  unfold rF at h⊢
  by_cases g:e (i+1)=true
  ·rw[if_pos g] at h⊢
   rw[show i+1+(rF e (i+1) f+1)=(i+1)+1+rF e (i+1) f from by omega]
   exact uI f (i+1) (by omega)
  ·rw[if_neg g]
   simpa using g
theorem Ib {m:Nat}(h:m≤f) (h1: ∀j,j<m→e (i+1+j)=true) (h2:m=f∨e (i+1+m)=false):rF e i f=m:=by
 rcases Nat.lt_trichotomy (rF e i f) m with g|g|g
 ·have a:=uI (e:=e) f i (by omega)
  rw[h1 _ g] at a;cases a
 ·exact g
 ·have a:=xg (e:=e) f i m g
  have b:=BJ (e:=e) f i
  rcases h2 with h2|h2
  ·omega
  ·rw[h2] at a;cases a
theorem Ja (h:rF e i f≠f∨e (i+1+f)=false):rF e i (f+1)=rF e i f:=by
 refine Ib (by have:=BJ (e:=e) f i;omega) (fun j hj=>xg f i j hj) (.inr ?_)
 by_cases g:rF e i f=f
 ·rw[g];exact h.resolve_left (fun k=>k g)
 ·exact uI f i g
theorem KF (h:rF e i f=f) (g:e (i+1+f)=true):rF e i (f+1)=f+1:=by
 refine Ib (cj _) (fun j hj=>?_) (.inl rfl)
 by_cases k:j=f
 ·rw[k];exact g
 ·exact xg f i j (by omega)
theorem rK (s n:Nat):lP e s (n+1)=lP e s n++(if Ms e (s+n) then[s+n] else[]):=by
 unfold lP
 rw[List.range_succ,ts,zY]
 congr 1
 rw[List.map_singleton,List.filter_cons]
 split<;>rfl
theorem IP (s n:Nat) (h:Ms e (s+n)=false):lP e s (n+1)=lP e s n:=by rw[rK,h];simp
theorem Oo (s n:Nat) (h:Ms e (s+n)=true):lP e s (n+1)=lP e s n++[s+n]:=by rw[rK,h];simp
theorem FJ:Ms e a=true↔e (a+1)=true∧e a=false:=by unfold Ms;simp
theorem gK:a∈lP e s n↔s≤a∧a<s+n∧e (a+1)=true∧e a=false:=by
 unfold lP
 rw[ln,FJ,tV]
 constructor
 ·rintro⟨⟨j,hj,rfl⟩,h2⟩
  have:=mG.1 hj
  exact⟨by omega,by omega,h2⟩
 ·rintro⟨h1,h2,h3⟩
  exact⟨⟨a-s,mG.2 (by omega),by omega⟩,h3⟩
theorem Fa (s:Nat): ∀n,(lP e s n).Pairwise (· < ·)
 |0=>List.Pairwise.nil
 |n+1=>by
  rw[rK]
  refine xw.2 ⟨Fa s n,?_,fun a ha b hb=>?_⟩
  ·split
   ·exact Bf _ _
   ·exact List.Pairwise.nil
  ·split at hb
   ·rw[kj.1 hb];exact(gK.1 ha).2.1
   ·cases hb
theorem zd {s:Nat}(h0:e s=false): ∀n,e (s+n)=true→ ∃L a,lP e s n=L++[a]∧rF e (a+1) (s+n-(a+1))=s+n-(a+1)
 |0,h=>by rw[tC,h0] at h;cases h
 |n+1,h=>by
  cases g:e (s+n) with
  |false=>
   refine⟨lP e s n,s+n,Oo s n (FJ.2 ⟨h,g⟩),?_⟩
   rw[show s+(n+1)-(s+n+1)=0 from by omega];rfl
  |true=>
   obtain⟨L,a,h1,h2⟩:=zd h0 n g
   refine⟨L,a,by rw[IP s n (by unfold Ms;rw[g];simp)];exact h1,?_⟩
   have ha:a∈lP e s n:=by rw[h1];simp
   have hb:=(gK.1 ha).2.1
   rw[show s+(n+1)-(a+1)=s+n-(a+1)+1 from by omega]
   exact KF h2 (by rw[show a+1+1+(s+n-(a+1))=s+(n+1) from by omega];exact h)
theorem y9 {b:Nat}(ha:a∈lP e s n) (hab:a<b) (hb:b≤s+n) (h:e b=false):rF e (a+1) (s+n-(a+1))≠s+n-(a+1):=fun q=>by
 obtain⟨_,h2,h3,_⟩:=gK.1 ha
 by_cases g:b=a+1
 ·rw[g,h3] at h;cases h
 ·have:=xg (e:=e) _ _ (b-(a+2)) (by rw[q];omega)
  rw[show a+1+1+(b-(a+2))=b from by omega,h] at this;cases this
end
def Db (P:List Cv) (u v:Nat):Cv:=(P.getD (u%P.length) bL).ends (P.getD (u%P.length) bL).p (P.getD (v%P.length) bL).q
def lK (P:List Cv) (e:Nat→Bool) (s n:Nat):List Cv:=(lP e s n).map fun a=>Db P (a+1) (a+1+rF e (a+1) (s+n-(a+1)))
theorem Q1 (c:Cv):c.ends c.p c.q=c:=by cases c<;>rfl
theorem O7 (c:Cv) (a b x:Pt):(c.ends a b).ends (c.ends a b).p x=c.ends a x:=by cases c<;>rfl
section
variable {P:List Cv}{e:Nat→Bool}{s n:Nat}
theorem Sr:(lK P e s n).length≤n:=by
 unfold lK lP
 rw[List.length_map]
 exact mM (rg _ _) (by simp)
theorem zP (h:e (s+n+1)=false):lK P e s (n+1)=lK P e s n:=by
 unfold lK
 rw[IP s n (by unfold Ms;rw[h];rfl)]
 refine Bb fun a ha=>?_
 have:=(gK.1 ha).2.1
 rw[show s+(n+1)-(a+1)=s+n-(a+1)+1 from by omega,Ja (.inr (by rw[show a+1+1+(s+n-(a+1))=s+n+1 from by omega];exact h))]
theorem nk (h:e (s+n+1)=true) (g:e (s+n)=false):lK P e s (n+1)=lK P e s n++[P.getD ((s+n+1)%P.length) bL]:=by
 unfold lK
 rw[Oo s n (FJ.2 ⟨h,g⟩),ts]
 congr 1
 ·refine Bb fun a ha=>?_
  have:=(gK.1 ha).2.1
  rw[show s+(n+1)-(a+1)=s+n-(a+1)+1 from by omega,Ja (.inl (y9 ha (b:=s+n) (by omega) (cj _) g))]
 ·rw[List.map_singleton,show s+(n+1)-(s+n+1)=0 from by omega]
  show[Db P (s+n+1) (s+n+1)]=_
  unfold Db
  rw[Q1]
theorem OV (h0:e s=false) (h:e (s+n+1)=true) (g:e (s+n)=true): ∃L c,lK P e s n=L++[c]∧lK P e s (n+1)=L++[c.ends c.p (P.getD ((s+n+1)%P.length) bL).q]:=by
 obtain⟨L,a,h1,h2⟩:=zd h0 n g
 have ha:a∈lP e s n:=by rw[h1];simp
 have hb:=(gK.1 ha).2
 refine⟨L.map fun a=>Db P (a+1) (a+1+rF e (a+1) (s+n-(a+1))),Db P (a+1) (s+n),?_,?_⟩
 ·unfold lK
  rw[h1,ts,List.map_singleton,h2,show a+1+(s+n-(a+1))=s+n from by omega]
 ·unfold lK
  rw[IP s n (by unfold Ms;rw[g];simp),h1,ts,List.map_singleton]
  congr 1
  ·refine Bb fun b hb2=>?_
   have hm:b∈lP e s n:=by rw[h1];exact List.mem_append_left _ hb2
   have hlt:b<a:=(xw.1 (h1▸Fa (e:=e) s n)).2.2 b hb2 a (by simp)
   have:=(gK.1 hm).2.1
   rw[show s+(n+1)-(b+1)=s+n-(b+1)+1 from by omega,Ja (.inl (y9 hm hlt (by omega) hb.2.2))]
  ·rw[show s+(n+1)-(a+1)=s+n-(a+1)+1 from by omega,KF h2 (by rw[show a+1+1+(s+n-(a+1))=s+n+1 from by omega];exact h),show a+1+(s+n-(a+1)+1)=s+n+1 from by omega]
   unfold Db
   rw[O7]
end
structure Rnd (e:Nat→Bool) (n:Nat):Prop where
 pos:0<n
 per: ∀x,e (x+n)=e x
def pn (e:Nat→Bool) (n:Nat):List Nat:=(List.range n).filter fun i=>e i&& !e (i+n-1)
section
variable {P:List Cv}{e:Nat→Bool}{s n:Nat}
theorem Tn {u v:Nat}:Db P (u+P.length) (v+P.length)=Db P u v:=by unfold Db;rw[Nat.add_mod_right,Nat.add_mod_right]
theorem JA (h: ∀x,e (x+n)=e x): ∀(f i:Nat),rF e (i+n) f=rF e i f
 |0,i=>rfl
 |f+1,i=>by
  unfold rF
  rw[show i+n+1=i+1+n from by omega,h,JA h f (i+1)]
theorem Sh (hr:Rnd e P.length) (hs:e s=false):lK P e s P.length=(lP e s P.length).map fun a=>Db P (a+1) (a+1+rF e (a+1) P.length):=by
 unfold lK
 refine Bb fun a ha=>?_
 obtain⟨h1,h2,h3,_⟩:=gK.1 ha
 have hd:=y9 ha (b:=s+P.length) (by omega) (cj _) (by rw[hr.per];exact hs)
 rw[Ib (e:=e) (f:=P.length) (i:=a+1) (m:=rF e (a+1) (s+P.length-(a+1))) (mM (BJ _ _) (by omega)) (fun j hj=>xg _ _ j hj) (.inr (uI _ _ hd))]
theorem MI (hr:Rnd e n) (hs:s<n):((lP e s n).map fun a=>(a+1)%n).Perm (pn e n):=by
 have md: ∀x,x<n→(x+n)%n=x:=fun x hx=>by rw[Nat.add_mod_right];exact rZ hx
 have ml: ∀a,s≤a→a<s+n→(a+1)%n=if a+1<n then a+1 else if a+1<n+n then a+1-n else 0:=fun a h1 h2=>by
  by_cases g:a+1<n
  ·rw[if_pos g];exact rZ g
  ·rw[if_neg g]
   by_cases g2:a+1<n+n
   ·rw[if_pos g2,show a+1=(a+1-n)+n from by omega,md _ (by omega)];omega
   ·omega
 refine(List.perm_ext_iff_of_nodup ?_ ?_).2 fun i=>?_
 ·refine List.Pairwise.map _ (R:=fun a b=>a∈lP e s n∧b∈lP e s n∧a<b) (fun a b ⟨ha,hb,h⟩ q=>?_) (ti (fun{a b} ha hb h=>⟨ha,hb,h⟩) (Fa s n))
  obtain⟨a1,a2,_⟩:=gK.1 ha
  obtain⟨b1,b2,_⟩:=gK.1 hb
  rw[ml a a1 a2,ml b b1 b2] at q
  grind
 ·exact List.Pairwise.filter _ List.nodup_range
 ·unfold pn
  rw[tV,ln,mG]
  constructor
  ·rintro⟨a,ha,rfl⟩
   obtain⟨a1,a2,a3,a4⟩:=gK.1 ha
   have hl:=ml a a1 a2
   refine⟨Nat.mod_lt _ hr.pos,?_⟩
   by_cases g:a+1<n
   ·rw[if_pos g] at hl
    rw[hl,a3,show a+1+n-1=a+n from by omega,hr.per,a4];rfl
   ·rw[if_neg g,if_pos (by omega)] at hl
    rw[hl,show a+1-n+n-1=a from by omega,a4,←hr.per,show a+1-n+n=a+1 from by omega,a3];rfl
  ·rintro⟨h1,h2⟩
   rw[dF] at h2
   have h3:e (i+n-1)=false:=by simpa using h2.2
   by_cases g:s+1≤i
   ·refine⟨i-1,gK.2 ⟨by omega,by omega,by rw[show i-1+1=i from by omega];exact h2.1,?_⟩,?_⟩
    ·rw[show i+n-1=i-1+n from by omega,hr.per] at h3;exact h3
    ·show(i-1+1)%n=i
     rw[show i-1+1=i from by omega];exact rZ h1
   ·refine⟨i+n-1,gK.2 ⟨by omega,by omega,by rw[show i+n-1+1=i+n from by omega,hr.per];exact h2.1,h3⟩,?_⟩
    show(i+n-1+1)%n=i
    rw[show i+n-1+1=i+n from by omega,md _ h1]
theorem RC (hr:Rnd e P.length) (hs:e s=false) (hl:s<P.length):lK P e s P.length=((lP e s P.length).map fun a=>(a+1)%P.length).map fun i=>Db P i (i+rF e i P.length):=by
 rw[Sh hr hs,List.map_map]
 refine Bb fun a ha=>?_
 obtain⟨a1,a2,_⟩:=gK.1 ha
 show _=Db P ((a+1)%P.length) ((a+1)%P.length+rF e ((a+1)%P.length) P.length)
 by_cases g:a+1<P.length
 ·rw[rZ g]
 ·obtain⟨b,hb⟩: ∃b,a+1=b+P.length:=⟨a+1-P.length,by omega⟩
  rw[hb,Nat.add_mod_right,rZ (show b<P.length by omega),JA hr.per,show b+P.length+rF e b P.length=b+rF e b P.length+P.length from by omega,Tn]
end
end Go.Proofs.YtegpmhlfjkhjmaaGreat
namespace Go.Proofs.YtegpmhlfjkhjmaaGreat
open Go Go.RowKit
variable {d:Ci}{c:Cv}{lm:Int}{rs:List CellD}{L:List Ci}{l:Ln}{N c9 i j m n:Nat}{e:Nat→Bool}{a' b' p q:Pt}{a a1 a2 b b1 b2 w x y z:Rat}
def cW (a b:Cv):Int:=cP a.p b.p
def FX (p:Cv):List Cv→Nat
 |[]=>0
 |x::l=>if cW x p<0 then FX p l+1 else 0
def G7 (o:List Cv) (p:Cv):List Cv:=o.take (FX p o)++p::o.drop (FX p o)
def ry (R:List Cv) (e:Nat→Bool) (i:Nat):Cv:=Db R i (i+rF e i R.length)
def Z6 (R:List Cv) (e:Nat→Bool) (i:Nat):List Cv:=(((List.range i).filter fun i=>e i&& !e (i+R.length-1)).map (ry R e)).foldl G7 []
theorem Dm (x:Cv) (l:List Cv) (p:Cv):G7 (x::l) p=if cW x p<0 then x::G7 l p else p::x::l:=by
 unfold G7
 show(x::l).take (if cW x p<0 then FX p l+1 else 0)++p::(x::l).drop (if cW x p<0 then FX p l+1 else 0)=_
 split<;>rfl
theorem rD: ∀(l:List Cv) (p:Cv),(G7 l p).Perm (p::l)
 |[],p=>List.Perm.refl _
 |x::l,p=>by
  rw[Dm]
  split
  ·exact(List.Perm.cons x (rD l p)).trans (List.Perm.swap p x l)
  ·exact List.Perm.refl _
theorem xc: ∀(L o:List Cv),(L.foldl G7 o).Perm (o++L)
 |[],o=>by simp
 |x::L,o=>by
  rw[vf]
  exact(xc L _).trans (((rD o x).append_right L).trans List.perm_middle.symm)
section
variable {G:Cv→Prop}(anti: ∀x y,G x→G y→cW y x= -cW x y) (tr: ∀x y z,G x→G y→G z→cW x y≤0→cW y z≤0→cW x z≤0)
include anti tr
theorem Gf: ∀ {l:List Cv}{p:Cv},G p→(∀x∈l,G x)→(∀x∈l,cW x p≠0)→l.Pairwise (fun a b=>cW a b<0)→(G7 l p).Pairwise fun a b=>cW a b<0
 |[],p,_,_,_,_=>Bf _ _
 |x::l,p,hp,hl,hn,h=>by
  obtain⟨h1,h2⟩:=jU.1 h
  have hx:=hl x gT
  have hl2: ∀y∈l,G y:=fun y hy=>hl y (gN _ hy)
  rw[Dm]
  split
  ·rename_i e
   refine jU.2 ⟨fun y hy=>?_,Gf hp hl2 (fun y hy=>hn y (gN _ hy)) h2⟩
   rcases dM.1 ((rD l p).mem_iff.1 hy) with rfl|hy
   ·exact e
   ·exact h1 y hy
  ·rename_i e
   have e2:cW p x<0:=by
    have:=anti p x hp hx
    have:=hn x gT
    omega
   refine jU.2 ⟨fun y hy=>?_,h⟩
   rcases dM.1 hy with rfl|hy
   ·exact e2
   ·exact SJ anti tr hp hx (hl2 y hy) e2 (rV (h1 y hy))
theorem DT: ∀(L:List Cv) {o:List Cv},(∀x∈L,G x)→(∀x∈o,G x)→(∀x∈o,∀y∈L,cW x y≠0)→L.Pairwise (fun a b=>cW a b≠0)→o.Pairwise (fun a b=>cW a b<0)→(L.foldl G7 o).Pairwise fun a b=>cW a b<0
 |[],o,_,_,_,_,h=>h
 |x::L,o,hL,ho,hn,hp,h=>by
  obtain⟨p1,p2⟩:=jU.1 hp
  have gx:=hL x gT
  rw[vf]
  refine DT L (fun y hy=>hL y (gN _ hy)) (fun y hy=>?_) (fun y hy z hz=>?_) p2 (Gf anti tr gx ho (fun y hy=>hn y hy x gT) h)
  ·rcases dM.1 ((rD o x).mem_iff.1 hy) with rfl|hy
   ·exact gx
   ·exact ho y hy
  ·rcases dM.1 ((rD o x).mem_iff.1 hy) with rfl|hy
   ·exact p1 z hz
   ·exact hn y hy z (gN _ hz)
end
theorem Dl {e:Nat→Bool}{s:Nat}: ∀n,2*(lP e s n).length≤n+1
 |0=>by show 2*0≤1;omega
 |1=>by
  rw[rK]
  show 2*(if _ then[s+0] else[]).length≤2
  split<;>simp
 |n+2=>by
  have ih:=Dl (e:=e) (s:=s) n
  rw[rK,rK,dj,dj]
  cases h:e (s+n+1) with
  |true=>
   rw[show Ms e (s+(n+1))=false from by unfold Ms;rw[show s+(n+1)=s+n+1 from by omega,h];simp,if_neg (show ¬false=true by decide)]
   split<;>simp<;>omega
  |false=>
   rw[show Ms e (s+n)=false from by unfold Ms;rw[h];rfl,if_neg (show ¬false=true by decide)]
   split<;>simp<;>omega
theorem OX {P:List Cv}{s:Nat}:2*(lK P e s n).length≤n+1:=by unfold lK;rw[List.length_map];exact Dl n
theorem Fi {a b:Pt}(ha:0≤a.c) (hb:0≤b.c) (ha':0≤a'.c) (hb':0≤b'.c) (h:cP a a'=0) (g:cP b b'=0):cP a b=cP a' b':=by
 have x1:=vY ha ha' h hb
 have x2:=vY hb hb' g ha'
 have y1:=AJ ha ha' h hb
 have y2:=AJ hb hb' g ha'
 have c1:=de ha' hb
 have c2:=de ha' hb'
 have d1:cy b a'= -cy a' b:=by rw[rb hb ha',rb ha' hb,uE]
 have d2:cy b' a'= -cy a' b':=by rw[rb hb' ha',rb ha' hb',uE]
 show(if cx a b≠0 then cx a b else cy a b)=(if cx a' b'≠0 then cx a' b' else cy a' b')
 rw[show cx a b=cx a' b' from by omega,show cy a b=cy a' b' from by omega]
section
variable {k:Ci}(hk:GK k) (h0:0<k.q) {P R:List Cv}(S:Sim k P R) {e:Nat→Bool}(hr:Rnd e P.length)
theorem Rnd.mod {e:Nat→Bool}(h:Rnd e n) (x:Nat):e (x%n)=e x:=by
 have key: ∀q r,e (r+n*q)=e r:=fun q r=>by
  induction q with
  |zero=>rw[Nat.mul_zero,tC]
  |succ q ih=>rw[Nat.mul_succ,←Nat.add_assoc,h.per,ih]
 have:=key (x/n) (x%n)
 rw[Nat.mod_add_div] at this
 exact this.symm
include hk h0 S hr
theorem Sw (hi:i<P.length) (he:e i=true) (hb:e (i+P.length-1)=false): ∃a b a' b':Pt,ry P e i=.arc k false a b∧ry R e i=.arc k false a' b'∧a=(P.getD i bL).p∧a'=(R.getD i bL).p∧CvV (.arc k false a b)∧CvV (.arc k false a' b')∧cP a a'=0∧cP b b'=0∧rF e i P.length≤P.length∧e (i+1+rF e i P.length)=false:=by
 have hn:=S.two
 have hpos:0<P.length:=by omega
 have hm:=BJ (e:=e) P.length i
 have hlt:rF e i P.length≠P.length:=fun q=>by
  have:=xg (e:=e) P.length i (P.length-2) (by omega)
  rw[show i+1+(P.length-2)=i+P.length-1 from by omega,hb] at this;cases this
 have hs:=uI _ _ hlt
 generalize hm9:rF e i P.length=m at hm hlt hs
 have hj:(i+m)%P.length<P.length:=Nat.mod_lt _ hpos
 have hj2:(i+m+1)%P.length<P.length:=Nat.mod_lt _ hpos
 obtain⟨a,b,a',b',p1,p2,⟨o1,o2⟩,⟨o3,o4⟩,z1,z2,z3,_⟩:=S.at_ i hi
 obtain⟨c,d,c',d',q1,q2,⟨u1,u2⟩,⟨u3,u4⟩,w1,w2,w3,_⟩:=S.at_ _ hj
 have nx:=S.nxt _ hj
 rw[q1,show((i+m)%P.length+1)%P.length=(i+m+1)%P.length from by rw[Nat.mod_add_mod]] at nx
 have nx:d=(P.getD ((i+m+1)%P.length) bL).p:=nx
 have hne:(i+m+1)%P.length≠i:=fun q=>by
  have:=hr.mod (i+m+1)
  rw[q,he,show i+m+1=i+1+m from by omega,hs] at this;cases this
 obtain⟨c2,d2,_,_,r1,_,⟨v1,_⟩,_⟩:=S.at_ _ hj2
 have dne:cP a d≠0:=by
  rw[nx]
  rcases kH i ((i+m+1)%P.length) with g|g
  ·have:=S.dis i _ g hj2
   rw[p1] at this;exact this
  ·have:=S.dis ((i+m+1)%P.length) i (by omega) hi
   rw[p1,r1] at this
   rw[r1]
   exact fun q=>this (m7 (a7 o1) (a7 v1) q)
 have e1:ry P e i=.arc k false a d:=by
  unfold ry Db
  rw[hm9,rZ hi,p1,q1];rfl
 have e2:ry R e i=.arc k false a' d':=by
  unfold ry Db
  rw[←S.len,hm9,rZ hi,p2,q2];rfl
 have cv: ∀ {x y:Pt},OnK k x→OnK k y→cP x y≠0→CvV (.arc k false x y):=fun ox oy h=>⟨⟨hk,ox.1,oy.1⟩,h0,bH.2 ox.2,bH.2 oy.2,h⟩
 refine⟨a,d,a',d',e1,e2,by rw[p1];rfl,by rw[p2];rfl,cv o1 u2 dne,cv o3 u4 ?_,z1,w2,hm,hs⟩
 rw[←Fi (a7 o1) (a7 u2) (a7 o3) (a7 u4) z1 w2];exact dne
end
theorem yM:i∈pn e n↔i<n∧e i=true∧e (i+n-1)=false:=by
 unfold pn
 rw[ln,mG,dF,rl]
theorem LC {k:Ci}{v w:Bool}{a b c d:Pt}:UA (.arc k v a b) (.arc k w c d)=true:=by
 have: ∀x:Rat,yV x x=true:=fun x=>by unfold yV;rw[show aw x x=0 from by unfold aw;grind];rfl
 show(yV k.x k.x&&yV k.y k.y&&yV k.q k.q)=true
 rw[this,this,this];rfl
section
variable {k:Ci}(hk:GK k) (h0:0<k.q) {P R:List Cv}(S:Sim k P R) {e:Nat→Bool}(hr:Rnd e P.length) {s:Nat}(hs:s<P.length) (es:e s=false)
include hk h0 S hr hs es
theorem Oe:(bc bL cW (lK P e s P.length)).length=(Z6 R e R.length).length∧(∀x∈bc bL cW (lK P e s P.length),CvV x∧x.cw=false∧x.isArc=true)∧(∀x∈Z6 R e R.length,CvV x)∧
 ∀i,i<(bc bL cW (lK P e s P.length)).length→eqC ((bc bL cW (lK P e s P.length)).getD i bL) ((Z6 R e R.length).getD i bL)=true:=by
 have hb:=MI hr hs
 rw[RC hr es hs]
 have c0: ∀ {x:Cv},CvV x→0≤x.p.c:=fun v=>b9 (jK v.g)
 have anti: ∀x y,CvV x→CvV y→cW y x= -cW x y:=fun x y hx hy=>fg (c0 hx) (c0 hy)
 have tr: ∀x y z,CvV x→CvV y→CvV z→cW x y≤0→cW y z≤0→cW x z≤0:=fun x y z hx hy hz h1 h2=>(NN (c0 hx) (c0 hy) (c0 hz)).1 h1 h2
 have run:=fun i (h:i∈pn e P.length)=>Sw hk h0 S hr (yM.1 h).1 (yM.1 h).2.1 (yM.1 h).2.2
 have vP: ∀i∈pn e P.length,CvV (ry P e i)∧(ry P e i).cw=false∧(ry P e i).isArc=true∧(ry P e i).p=(P.getD i bL).p:=fun i h=>by
  obtain⟨a,b,a',b',e1,e2,e3,e4,v1,v2,_⟩:=run i h
  rw[e1];exact⟨v1,rfl,rfl,e3⟩
 have vR: ∀i∈pn e P.length,CvV (ry R e i):=fun i h=>by
  obtain⟨a,b,a',b',e1,e2,e3,e4,v1,v2,_⟩:=run i h
  rw[e2];exact v2
 have same: ∀i∈pn e P.length,∀j∈pn e P.length,cW (ry R e i) (ry R e j)=cW (ry P e i) (ry P e j):=fun i hi j hj=>by
  obtain⟨a,b,a',b',e1,e2,_,_,v1,v2,z1,_⟩:=run i hi
  obtain⟨c,d,c',d',f1,f2,_,_,w1,w2,z2,_⟩:=run j hj
  rw[e1,e2,f1,f2]
  exact(Fi (b9 (jK v1.g)) (b9 (jK w1.g)) (b9 (jK v2.g)) (b9 (jK w2.g)) z1 z2).symm
 have dis: ∀i∈pn e P.length,∀j∈pn e P.length,i≠j→cW (ry P e i) (ry P e j)≠0:=fun i hi j hj hij=>by
  show cP _ _≠0
  rw[(vP i hi).2.2.2,(vP j hj).2.2.2]
  rcases kH i j with g|g
  ·exact S.dis i j g (yM.1 hj).1
  ·intro q
   have q2:=anti _ _ (vP i hi).1 (vP j hj).1
   have:cW (ry P e j) (ry P e i)=cP (P.getD j bL).p (P.getD i bL).p:=by unfold cW;rw[(vP i hi).2.2.2,(vP j hj).2.2.2]
   have q3:cW (ry P e i) (ry P e j)=cP (P.getD i bL).p (P.getD j bL).p:=by unfold cW;rw[(vP i hi).2.2.2,(vP j hj).2.2.2]
   exact S.dis j i (by omega) (yM.1 hi).1 (by omega)
 have ndB:(pn e P.length).Nodup:=List.Pairwise.filter _ List.nodup_range
 have hJ:(bc 0 (fun i j=>cW (ry P e i) (ry P e j)) (pn e P.length)).Perm (pn e P.length):=iI _
 have sJ:(bc 0 (fun i j=>cW (ry P e i) (ry P e j)) (pn e P.length)).Pairwise fun i j=>cW (ry P e i) (ry P e j)≤0:=
  v8 (e:=0) (C:=fun i j=>cW (ry P e i) (ry P e j)) (G:=fun i=>i∈pn e P.length) (fun x y hx hy=>anti _ _ (vP x hx).1 (vP y hy).1) (fun x y z hx hy hz h1 h2=>tr _ _ _ (vP x hx).1 (vP y hy).1 (vP z hz).1 h1 h2) (pn e P.length) (O:=[]) (fun y hy=>hy) (fun y hy=>by cases hy) .nil
 generalize bc 0 (fun i j=>cW (ry P e i) (ry P e j)) (pn e P.length)=J at hJ sJ
 have mJ: ∀i∈J,i∈pn e P.length:=fun i h=>hJ.mem_iff.1 h
 have ndJ:J.Nodup:=hJ.symm.nodup ndB
 have sJ2:J.Pairwise fun i j=>cW (ry P e i) (ry P e j)<0:=ti (fun{a b} ha hb g=>by
  have:=dis a (mJ a ha) b (mJ b hb) g.2
  omega) (sJ.and ndJ)
 have lt9: ∀ {Q:List Cv}{A B:List Cv},(∀x∈A,CvV x)→A.Perm B→A.Pairwise (fun a b=>cW a b<0)→B.Pairwise (fun a b=>cW a b<0)→A=B:=fun{Q A B} hA hp h1 h2=>Cj (fun a ha b hb g g2=>by
  have:=anti a b (hA a ha) (hA b hb)
  omega) hp h1 h2
 have eX:bc bL cW ((((lP e s P.length).map fun a=>(a+1)%P.length)).map fun i=>Db P i (i+rF e i P.length))=J.map (ry P e):=by
  have pm:=(iI (e:=bL) (C:=cW) ((((lP e s P.length).map fun a=>(a+1)%P.length)).map fun i=>Db P i (i+rF e i P.length))).trans ((hb.trans hJ.symm).map (ry P e))
  have hv: ∀x∈J.map (ry P e),CvV x:=fun x hx=>by
   obtain⟨i,hi,rfl⟩:=tV.1 hx
   exact(vP i (mJ i hi)).1
  have hv2: ∀x∈bc bL cW ((((lP e s P.length).map fun a=>(a+1)%P.length)).map fun i=>Db P i (i+rF e i P.length)),CvV x:=fun x hx=>hv x (pm.mem_iff.1 hx)
  have h2:(J.map (ry P e)).Pairwise fun a b=>cW a b<0:=List.pairwise_map.2 sJ2
  refine lt9 (Q:=[]) hv2 pm ?_ h2
  have s1:=v8 (e:=bL) (C:=cW) (G:=CvV) anti tr ((((lP e s P.length).map fun a=>(a+1)%P.length)).map fun i=>Db P i (i+rF e i P.length)) (O:=[]) (fun x hx=>hv2 x ((iI _).mem_iff.2 hx)) (fun y hy=>by cases hy) .nil
  have s2:(bc bL cW ((((lP e s P.length).map fun a=>(a+1)%P.length)).map fun i=>Db P i (i+rF e i P.length))).Pairwise fun a b=>cW a b≠0∧CvV a∧CvV b:=by
   refine pm.symm.pairwise (ti (fun{a b} ha hb g=>⟨by omega,hv a ha,hv b hb⟩) h2) (fun{a b} g=>⟨fun q=>g.1 ?_,g.2.2,g.2.1⟩)
   have:=anti a b g.2.1 g.2.2
   omega
  refine List.Pairwise.imp (fun{a b} g=>?_) (List.Pairwise.and s1 s2)
  have:=g.1
  have:=g.2.1
  omega
 have eY:Z6 R e R.length=J.map (ry R e):=by
  have bR:((List.range R.length).filter fun i=>e i&& !e (i+R.length-1))=pn e P.length:=by unfold pn;rw[S.len]
  unfold Z6
  rw[bR]
  have pm:=(xc ((pn e P.length).map (ry R e)) []).trans ((hJ.symm.map (ry R e)))
  have hv: ∀x∈(pn e P.length).map (ry R e),CvV x:=fun x hx=>by
   obtain⟨i,hi,rfl⟩:=tV.1 hx
   exact vR i hi
  refine lt9 (Q:=[]) (fun x hx=>hv x ((xc _ []).mem_iff.1 hx)) pm ?_ (List.pairwise_map.2 (ti (fun{a b} ha hb g=>by rw[same a (mJ a ha) b (mJ b hb)];exact g) sJ2))
  refine DT (G:=CvV) anti tr _ hv (fun x hx=>by cases hx) (fun x hx=>by cases hx) (List.pairwise_map.2 (ti (fun{a b} ha hb g=>?_) ndB)) .nil
  rw[same a ha b hb];exact dis a ha b hb g
 rw[eX,eY]
 refine⟨by simp,fun x hx=>?_,fun x hx=>?_,fun i hi=>?_⟩
 ·obtain⟨i,hi,rfl⟩:=tV.1 hx
  have:=vP i (mJ i hi)
  exact⟨this.1,this.2.1,this.2.2.1⟩
 ·obtain⟨i,hi,rfl⟩:=tV.1 hx
  exact vR i (mJ i hi)
 ·have hi2:i<J.length:=by simpa using hi
  have a1: ∀(f:Nat→Cv),(J.map f).getD i bL=f (J[i]):=fun f=>by simp[List.getD,hi2]
  rw[a1,a1]
  obtain⟨a,b,a',b',e1,e2,_,_,v1,v2,z1,z2,_⟩:=run _ (mJ _ (tz hi2))
  rw[e1,e2]
  unfold eqC
  rw[LC]
  show(true&&((false==false)&&((cP a a'==0)&&(cP b b'==0))))=true
  rw[z1,z2];rfl
end
theorem IJ {p q r s:Int}(hq:0<q) (hs:0<s) (h:p*s≤r*q):fr p q≤fr r s:=by
 apply fH
 intro hn
 have h0:fr r s<fr p q:=by grind
 have hqs:=nT (p5 hq hs)
 have h1:=xx h0 hqs
 have e1:=fZ (p:=p) hq
 have e2:=fZ (p:=r) hs
 rw[fE] at h1
 have h2:((r*q:Int):Rat)<((p*s:Int):Rat):=by
  rw[fE,fE,←e1,←e2]
  grind
 have:=iv.1 h2
 omega
theorem XK (h:z<w) (e:z.den=w.den):z.num<w.num:=by
 apply fH
 intro hn
 have hz:=wU z
 have hw:=wU w
 have hd:(0:Int)<z.den:=by have:=z.den_pos;omega
 have:fr w.num (w.den:Int)≤fr z.num (z.den:Int):=IJ (by omega) hd (by rw[←e];exact zw (by omega) (by omega))
 rw[hz,hw] at this
 grind
section
variable {S:Rat→Prop}(cv: ∀x y z,S x→S z→x≤y→y≤z→S y)
include cv
theorem QI (hz:S z) (hw:S w) (dz: ∀p q:Int,0<q→S (fr p q)→(z.den:Int)≤q) (dw: ∀p q:Int,0<q→S (fr p q)→(w.den:Int)≤q)
 (nz:z.den=1→z≠0→ ¬S (z-((aw z 0:Int):Rat))) (nw:w.den=1→w≠0→ ¬S (w-((aw w 0:Int):Rat))) (h:z<w):False:=by
 have pz:=z.den_pos
 have pw:=w.den_pos
 have d1:=dz w.num w.den (by omega) (by rw[wU];exact hw)
 have d2:=dw z.num z.den (by omega) (by rw[wU];exact hz)
 have e:z.den=w.den:=by omega
 have hn:=XK h e
 have fz:=wU z
 have fw:=wU w
 by_cases g:z.den=1
 ·have iz:((z.num:Int):Rat)=z:=by
   have:=fZ (p:=z.num) (q:=(z.den:Int)) (by omega)
   rw[fz,g] at this;grind
  have iw:((w.num:Int):Rat)=w:=by
   have:=fZ (p:=w.num) (q:=(w.den:Int)) (by omega)
   rw[fw,←e,g] at this;grind
  have step: ∀ {a b:Int},a≤b→(a:Rat)≤(b:Rat):=fun h=>ef.2 h
  by_cases k:0≤z.num
  ·have w0:0<w:=by rw[←iw];exact nT (by omega)
   have c1:aw w 0=1:=by unfold aw;rw[if_neg (by grind),if_pos w0]
   refine nw (by omega) (by grind) (cv z _ w hz hw ?_ ?_)
   ·rw[c1,←iw,←iz]
    have:=step (show z.num+1≤w.num by omega)
    rw[iE] at this
    grind
   ·rw[c1];grind
  ·have z0:z<0:=by
    rw[←iz];exact iv.2 (show z.num<(0:Int) by omega)
   have c1:aw z 0= -1:=by unfold aw;rw[if_pos z0]
   refine nz g (by grind) (cv z _ w hz hw ?_ ?_)
   ·rw[c1];grind
   ·rw[c1,←iw,←iz]
    have:=step (show z.num+1≤w.num by omega)
    rw[iE] at this
    grind
 ·have q2:(0:Int)<(z.den:Int)-1:=by omega
  have hq:(0:Int)<(z.den:Int):=by omega
  have f1:z.num.fdiv z.den*z.den≤z.num:=by
   rw[rE];exact Int.mul_fdiv_self_le hq
  have f2:z.num<(z.num.fdiv z.den+1)*z.den:=by
   have:=Int.lt_mul_fdiv_self_add (x:=z.num) (k:=(z.den:Int)) hq
   grind
  generalize z.num.fdiv z.den=f at f1 f2
  have key:=dz (z.num-f) ((z.den:Int)-1) q2 (cv z _ w hz hw ?_ ?_)
  ·omega
  ·have h9:=IJ (p:=z.num) (r:=z.num-f) hq q2 (by grind)
   rw[fz] at h9;exact h9
  ·have h8:(z.num+1)*((z.den:Int)-1)≤w.num*((z.den:Int)-1):=zw (by omega) (by omega)
   have h9:=IJ (p:=z.num-f) (r:=w.num) q2 (show(0:Int)<(w.den:Int) by omega) (by rw[←e];grind)
   rw[fw] at h9;exact h9
end
theorem Nq {a b:Re}(hx:tI a b x) (hz:tI a b z) (h1:x≤y) (h2:y≤z):tI a b y:=by
 have nn: ∀ {p q:Rat},p≤q→0≤aO (Re.of q-Re.of p):=fun{p q} h=>by
  rw[wN,ca]
  unfold aw;grind
 refine⟨?_,?_⟩
 ·rw[show Re.of y-a=(Re.of y-Re.of x)+(Re.of x-a) from ba fun k=>by simp only[ao,aI];grind]
  exact jv (nn h1) hx.1
 ·rw[show b-Re.of y=(Re.of z-Re.of y)+(b-Re.of z) from ba fun k=>by simp only[ao,aI];grind]
  exact jv (nn h2) hz.2
theorem Simp.uniq {a b:Re}(hz:Simp a b z) (hw:Simp a b w):z=w:=by
 have cv: ∀x y z,tI a b x→tI a b z→x≤y→y≤z→tI a b y:=fun x y z hx hz h1 h2=>Nq hx hz h1 h2
 apply fH
 intro hn
 rcases(show z<w∨w<z by grind) with h|h
 ·exact(QI cv hz.mem hw.mem hz.den hw.den hz.near hw.near h).elim
 ·exact(QI cv hw.mem hz.mem hw.den hz.den hw.near hz.near h).elim
theorem Simp.congr {a b c d:Re}(h:Simp a b z) (e: ∀x,tI a b x↔tI c d x):Simp c d z:=
 ⟨(e z).1 h.mem,fun p q hq hm=>h.den p q hq ((e _).2 hm),fun h1 h2 hm=>h.near h1 h2 ((e _).2 hm)⟩
theorem Zd (h:cP p q=0):cx p q=0:=fH fun g=>g ((L3 g).symm.trans h)
theorem Ec (gp:GP p) (gq:GP q) :tI (pX p) (pX q) x↔jm p x<0∧0<jm q x:=by
 unfold tI
 rw[nC (b9 gp),nC (b9 gq),d7 (pX p)]
 have h1:=bp (Re.of x-pX p)
 have h2:=bp (pX q-Re.of x)
 omega
theorem RY {p' q':Pt}(gp:GP p) (gq:GP q) (gp':GP p') (gq':GP q') (e1:cP p p'=0) (e2:cP q q'=0) (x:Rat):tI (pX p) (pX q) x↔tI (pX p') (pX q') x:=by
 rw[Ec gp gq,Ec gp' gq']
 have a1:=Zd e1
 have a2:=Zd e2
 have b1:=TK gp gp'
 have b2:=TK gq gq'
 exact⟨fun h=>⟨Ov gp' gp (by omega) h.1,QC gq gq' (by omega) h.2⟩,fun h=>⟨Ov gp gp' (by omega) h.1,QC gq' gq (by omega) h.2⟩⟩
theorem Kg (gp:GP p) (gq:GP q) (h:cx p q<0): ∃x:Rat,Rz 6841 x∧Ok Tryz.prog 126 [.a (cR p.a1++cR p.b1++cR (zc p.b1 p.c)),.a (cR q.a1++cR q.b1++cR (zc q.b1 q.c))] [dR x,.c (.i .i64 0)]∧Ok Tryz.prog 269 [.a (cR p.a1++cR p.b1++cR (zc p.b1 p.c)),.a (cR q.a1++cR q.b1++cR (zc q.b1 q.c))] [dR x]∧Simp (pX p) (pX q) x:=by
 have ab:aO (pX q-pX p)=1:=by
  rw[n8 (b9 gp) (b9 gq),d7] at h
  have:=bp (pX q-pX p)
  omega
 exact OG gp.a1 gp.b1 (gw gp.c (by decide)) gq.a1 gq.b1 (gw gq.c (by decide)) (Zv gp) (Zv gq) ab
theorem DM {k:Ci}{f t:Pt}(vc:CvV (.arc k false f t)) (ea:(Cv.arc k false f t).inner (fY k)=false) (eb:(Cv.arc k false f t).inner (fR k)=false):(Cv.arc k false f t).fwd.mono=true:=by
 have h1:(Cv.arc k false f t)∈Pq (.arc k false f t):=by
  have h:mN (Cv.arc k false f t) []=[.arc k false f t]:=(BQ (L:=[]) vc (fun p hp=>by cases hp)).symm
  show _∈mN _ (yg _)
  rw[SH ea eb,h]
  exact kj.2 rfl
 exact Lz vc _ h1
section
variable {k:Ci}{a b a' b':Pt}(vP:CvV (.arc k false a b)) (vR:CvV (.arc k false a' b')) (e1:cP a a'=0) (e2:cP b b'=0)
 (iP: ∀x,x=fY k∨x=fR k→(Cv.arc k false a b).inner x=false∧(Cv.arc k false a' b').inner x=false)
include vP vR e1 e2 iP
theorem Yv: ∃x:Rat,Rz 6841 x∧
 Ok Tryz.prog 126 [.a (cR (Cv.arc k false a b).fwd.p.a1++cR (Cv.arc k false a b).fwd.p.b1++cR (zc (Cv.arc k false a b).fwd.p.b1 (Cv.arc k false a b).fwd.p.c)),.a (cR (Cv.arc k false a b).fwd.q.a1++cR (Cv.arc k false a b).fwd.q.b1++cR (zc (Cv.arc k false a b).fwd.q.b1 (Cv.arc k false a b).fwd.q.c))] [dR x,.c (.i .i64 0)]∧
 Ok Tryz.prog 269 [.a (cR (Cv.arc k false a' b').fwd.p.a1++cR (Cv.arc k false a' b').fwd.p.b1++cR (zc (Cv.arc k false a' b').fwd.p.b1 (Cv.arc k false a' b').fwd.p.c)),.a (cR (Cv.arc k false a' b').fwd.q.a1++cR (Cv.arc k false a' b').fwd.q.b1++cR (zc (Cv.arc k false a' b').fwd.q.b1 (Cv.arc k false a' b').fwd.q.c))] [dR x]∧
 wH (Cv.arc k false a b).fwd x=true∧wH (Cv.arc k false a' b').fwd x=true∧(Cv.arc k false a' b').fwd.vert=false∧t8 (Cv.arc k false a b).fwd x=t8 (Cv.arc k false a' b').fwd x∧jm (Cv.arc k false a b).fwd.p x<0∧0<jm (Cv.arc k false a b).fwd.q x:=by
 have wP:=H0 vP
 have wR:=H0 vR
 have mP:=DM vP (iP _ (.inl rfl)).1 (iP _ (.inr rfl)).1
 have mR:=DM vR (iP _ (.inl rfl)).2 (iP _ (.inr rfl)).2
 have ee:cP a b=cP a' b':=Fi (b9 vP.g.2.1) (b9 vP.g.2.2) (b9 vR.g.2.1) (b9 vR.g.2.2) e1 e2
 have same: ∃w s t s' t',(Cv.arc k false a b).fwd=.arc k w s t∧(Cv.arc k false a' b').fwd=.arc k w s' t'∧cP s s'=0∧cP t t'=0:=by
  cases h:decide (cP a b>0) with
  |true=>exact⟨_,_,_,_,_,HE h,HE (ee▸h),e2,e1⟩
  |false=>exact⟨_,_,_,_,_,HU h,HU (ee▸h),e1,e2⟩
 obtain⟨w,s,t,s',t',q1,q2,q3,q4⟩:=same
 rw[q1] at wP mP⊢
 rw[q2] at wR mR⊢
 have cPx:=JI wP mP rfl
 have cRx:=JI wR mR rfl
 obtain⟨x,x1,x2,_,x4⟩:=Kg wP.g.2.1 wP.g.2.2 cPx
 obtain⟨y,_,_,y3,y4⟩:=Kg wR.g.2.1 wR.g.2.2 cRx
 have hI:=RY wP.g.2.1 wP.g.2.2 wR.g.2.1 wR.g.2.2 q3 q4
 have hxy:x=y:=(x4.congr hI).uniq y4
 subst hxy
 obtain⟨i1,i2⟩:=(Ec wP.g.2.1 wP.g.2.2).1 x4.mem
 obtain⟨j1,j2⟩:=(Ec wR.g.2.1 wR.g.2.2).1 y4.mem
 exact⟨x,x1,x2,y3,Tw rfl i1 i2,Tw rfl j1 j2,rfl,rfl,i1,i2⟩
end
structure Bz (b:Nat) (x:Rat):Prop where
 n:x.num.natAbs<2^b
 d:x.den<2^b
theorem Qc {a b:Int}(ha:a.natAbs<2^n) (hb:b.natAbs<2^n) (h0:b≠0):Bz n (Rat.divInt a b):=by
 refine⟨Nat.lt_of_le_of_lt ?_ ha,Nat.lt_of_le_of_lt ?_ hb⟩
 ·rw[Rat.num_divInt]
  refine mM (qz _ _) ?_
  rw[rW,Int.natAbs_sign_of_ne_zero h0];omega
 ·rw[Rat.den_divInt,if_neg h0]
  exact Nat.div_le_self _ _
theorem tx {a b:Nat}(h:a<2^n) (g:b<2^m):a*b<2^(n+m):=by
 rw[Nat.pow_add]
 exact Nat.mul_lt_mul'' h g
theorem Bz.mono (h:Bz n x) (hl:n≤m):Bz m x:=⟨Nat.lt_of_lt_of_le h.n (Cm (by decide) hl),od h.d (Cm (by decide) hl)⟩
theorem Bz.neg (h:Bz n x):Bz n (-x):=⟨by rw[Rat.neg_num,Int.natAbs_neg];exact h.n,by rw[Rat.neg_den];exact h.d⟩
theorem Bz.mul (hx:Bz n x) (hy:Bz m y):Bz (n+m) (x*y):=by
 rw[←Tq]
 exact Qc (by rw[rW];exact tx hx.n hy.n) (by rw[rW];exact tx hx.d hy.d) (by have:=p5 (den_pos x) (den_pos y);omega)
theorem Bz.add (hx:Bz n x) (hy:Bz m y):Bz (n+m+1) (x+y):=by
 rw[←PT]
 have h1:=tx hx.n hy.d
 have h2:=tx hy.n hx.d
 have h3:=tx hx.d hy.d
 rw[Nat.add_comm m n] at h2
 have h4:2^(n+m+1)=2^(n+m)+2^(n+m):=by rw[Nat.pow_succ];omega
 refine Qc ?_ ?_ (by have:=p5 (den_pos x) (den_pos y);omega)
 ·refine Nat.lt_of_le_of_lt (Int.natAbs_add_le _ _) ?_
  rw[rW,rW,xz,xz,h4];omega
 ·rw[rW,xz,xz,h4];omega
theorem Bz.sub (hx:Bz n x) (hy:Bz m y):Bz (n+m+1) (x-y):=by rw[Rat.sub_eq_add_neg];exact hx.add hy.neg
theorem Bz.div (hx:Bz n x) (hy:Bz m y) (h0:y≠0):Bz (n+m) (x/y):=by
 rw[←R5]
 refine Qc (by rw[rW];exact tx hx.n hy.d) (by rw[rW];exact tx hx.d hy.n) fun e=>?_
 rcases t9.1 e with h|h
 ·exact jp x h
 ·exact h0 (Rat.num_eq_zero.1 h)
theorem Vg (k:Nat):((2^(29*k):Nat):Int)≤pw k:=by
 have h:(2^(29*k):Nat)≤1000000000^k:=by rw[Nat.pow_mul];exact Nat.pow_le_pow_left (by decide) k
 unfold pw
 have h2:((1000000000^k:Nat):Int)=1000000000^k:=Int.natCast_pow ..
 omega
theorem Bz.rz {k:Nat}(h:Bz n x) (hk:n≤29*k):Rz k x:=by
 have h1:=od h.n (Cm (show 0<2 by decide) hk)
 have h2:=od h.d (Cm (show 0<2 by decide) hk)
 have h3:=Vg k
 exact⟨⟨by omega,by omega⟩,⟨by omega,by omega⟩⟩
def lJ (l:Ln) (k:Ci):Rat:=qi l k/(fM l*fM l)
def Oz (l:Ln):Bool:=decide (aw l.b 0<0)||(aw l.b 0==0&&decide (aw (-l.a) 0<0))
def MH (l:Ln):Rat:=if Oz l then-l.b else l.b
def ME (l:Ln):Rat:=if Oz l then- -l.a else-l.a
def D2 (l:Ln) (k:Ci):Pt:=dU (l7 l k) (-MH l) (ms l k) (-ME l) (lJ l k)
def Dn (l:Ln) (k:Ci):Pt:=dU (l7 l k) (MH l) (ms l k) (ME l) (lJ l k)
def xe (l:Ln) (k:Ci):List Pt:=if aw (lJ l k) 0= -1 then[] else if aw (lJ l k) 0=0 then[⟨l7 l k,0,ms l k,0,0⟩] else[D2 l k,Dn l k]
def ij (k d:Ci):List Pt:=if iQ k d then[] else if wi k d then[] else xe (lv k d) k
theorem iY (h:0<x):aw x 0=1:=by unfold aw;rw[if_neg (by grind),if_pos h]
theorem Z3 {c n:Rat}(hc:0≤c) (hn:0<n):aO (Re.rt (c*(n*n))-Re.of n*Re.rt c)=0:=by
 have h9:0≤c*(n*n):=f7 hc (f7 (n7 hn) (n7 hn))
 refine KH ?_ (uk _) ?_
 ·rw[bj,ca,iY hn]
  have:=uk c
  omega
 ·rw[iX (x:=Re.rt (c*(n*n))*Re.rt (c*(n*n))-Re.of n*Re.rt c*(Re.of n*Re.rt c)) (y:=Re.rt (c*(n*n))*Re.rt (c*(n*n))-Re.of (c*(n*n))) (z:= -(Re.of (n*n)*(Re.rt c*Re.rt c-Re.of c))) (ba fun j=>by simp only[ao,aD,aV,bg];grind) (Ab (tR _ (my hc)))]
  exact my h9
theorem uo {c:Rat}(h0:0<c):0≤(dU a1 b1 a2 b2 c).c:=by
 unfold dU
 split
 ·exact kO
 ·exact n7 h0
theorem vH {d1 d2 c n:Rat}(h0:0<c) (hn:0<n) (e1:b1=d1*n) (e2:b2=d2*n):cP (dU a1 b1 a2 b2 c) (dU a1 d1 a2 d2 (c*(n*n)))=0:=by
 have h9:0<c*(n*n):=cY h0 (cY hn hn)
 obtain⟨x1,y1⟩:=Ay (a1:=a1) (b1:=b1) (a2:=a2) (b2:=b2) h0
 obtain⟨x2,y2⟩:=Ay (a1:=a1) (b1:=d1) (a2:=a2) (b2:=d2) h9
 have hr:=Z3 (n7 h0) hn
 refine d8.2 ⟨?_,?_⟩
 ·rw[n8 (uo h0) (uo h9),iX (y:=(pX (dU a1 b1 a2 b2 c)-(Re.of a1+Re.of b1*Re.rt c))+ -(pX (dU a1 d1 a2 d2 (c*(n*n)))-(Re.of a1+Re.of d1*Re.rt (c*(n*n))))) (z:= -(Re.of d1*(Re.rt (c*(n*n))-Re.of n*Re.rt c))) (ba fun j=>by simp only[aI,ao,aD,aV,bg];grind) (Ab (tR _ hr))]
  exact Bq x1 (Ab x2)
 ·rw[rb (uo h0) (uo h9),iX (y:=(pY (dU a1 b1 a2 b2 c)-(Re.of a2+Re.of b2*Re.rt c))+ -(pY (dU a1 d1 a2 d2 (c*(n*n)))-(Re.of a2+Re.of d2*Re.rt (c*(n*n))))) (z:= -(Re.of d2*(Re.rt (c*(n*n))-Re.of n*Re.rt c))) (ba fun j=>by simp only[aI,ao,aD,aV,bg];grind) (Ab (tR _ hr))]
  exact Bq y1 (Ab y2)
section
variable {l:Ln}{k:Ci}(hn:0<fM l)
include hn
theorem Gt:lJ l k*(fM l*fM l)=qi l k:=by
 unfold lJ
 have:fM l*fM l≠0:=by have:=cY hn hn;grind
 exact no this
theorem Xi:aw (lJ l k) 0=aw (qi l k) 0:=by
 rw[←Gt hn,←ca,←ca,←gg,bj,ca (fM l*fM l),iY (cY hn hn),ri]
theorem nd (x:Rat):x=x/fM l*fM l:=(no (by grind)).symm
theorem Nw (h:0<lJ l k):(cP (D2 l k) (TA l k)=0∧cP (Dn l k) (TH l k)=0)∨(cP (D2 l k) (TH l k)=0∧cP (Dn l k) (TA l k)=0):=by
 have e:=Gt (k:=k) hn
 have a1:=nd hn l.b
 have a2:=nd hn (-l.a)
 unfold D2 Dn TA TH MH ME
 rw[←e]
 cases Oz l with
 |false=>exact .inl ⟨vH h hn (by simp;grind) (by simp;grind),vH h hn (by simp;grind) (by simp;grind)⟩
 |true=>exact .inr ⟨vH h hn (by simp;grind) (by simp;grind),vH h hn (by simp;grind) (by simp;grind)⟩
theorem LS (g1: ∀p∈xe l k,0≤p.c) (_g2: ∀p∈ve l k,0≤p.c):(∀x∈xe l k,∃y∈ve l k,cP x y=0)∧ ∀y∈ve l k,∃x∈xe l k,cP y x=0:=by
 have hs:=Xi (k:=k) hn
 unfold xe ve at*
 rw[hs] at g1⊢
 by_cases h1:aw (qi l k) 0= -1
 ·rw[if_pos h1]
  rw[if_pos (show aw (qi l k) 0<0 by omega)]
  exact⟨fun x hx=>(by cases hx),fun x hx=>(by cases hx)⟩
 ·rw[if_neg h1] at g1⊢
  have h2: ¬aw (qi l k) 0<0:=fun h=>h1 (by have:=dA (qi l k) 0;omega)
  rw[if_neg h2]
  by_cases h3:aw (qi l k) 0=0
  ·rw[if_pos h3] at g1⊢
   rw[if_pos h3]
   have: ∀x∈ [(⟨l7 l k,0,ms l k,0,0⟩:Pt)],∃y∈ [(⟨l7 l k,0,ms l k,0,0⟩:Pt)],cP x y=0:=fun x hx=>⟨x,hx,kX (g1 x hx)⟩
   exact⟨this,this⟩
  ·rw[if_neg h3] at g1⊢
   rw[if_neg h3]
   have hp:0<lJ l k:=rA (by rw[hs];exact h2) (by rw[hs];exact h3)
   have cP1:0≤(D2 l k).c:=uo hp
   have cQ1:0≤(Dn l k).c:=uo hp
   have hr:0<qi l k:=rA h2 h3
   have cP2:0≤(TA l k).c:=uo hr
   have cQ2:0≤(TH l k).c:=uo hr
   have two: ∀ {a b c d:Pt},0≤a.c→0≤b.c→0≤c.c→0≤d.c→(cP a c=0∧cP b d=0)∨(cP a d=0∧cP b c=0)→ ∀ {M:List Pt},(c∈M∧d∈M∧ ∀y∈M,y=c∨y=d)→(∀x∈ [a,b],∃y∈M,cP x y=0)∧ ∀y∈M,∃x∈ [a,b],cP y x=0:=by
    intro a b c d ha hb hc hd h M hM
    obtain⟨m1,m2,m3⟩:=hM
    refine⟨fun x hx=>?_,fun y hy=>?_⟩
    ·simp only[dM,rm,or_false] at hx
     rcases hx with rfl|rfl<;>rcases h with h|h
     ·exact⟨c,m1,h.1⟩
     ·exact⟨d,m2,h.1⟩
     ·exact⟨d,m2,h.2⟩
     ·exact⟨c,m1,h.2⟩
    ·rcases m3 y hy with rfl|rfl<;>rcases h with h|h
     ·exact⟨a,by simp,m7 ha hc h.1⟩
     ·exact⟨b,by simp,m7 hb hc h.2⟩
     ·exact⟨b,by simp,m7 hb hd h.2⟩
     ·exact⟨a,by simp,m7 ha hd h.1⟩
   refine two cP1 cQ1 cP2 cQ2 (Nw hn hp) ?_
   split
   ·exact⟨by simp,by simp,fun y hy=>by simp only[dM,rm,or_false] at hy;exact hy.symm⟩
   ·exact⟨by simp,by simp,fun y hy=>by simp only[dM,rm,or_false] at hy;exact hy⟩
end
section
variable {l:Ln}{k:Ci}(hl:GL l) (hk:GK k)
include hl
theorem Up: ¬(l.b=0∧l.a=0):=fun e=>hl.n (by unfold fM;rw[e.1,e.2];grind)
include hk
theorem We:Rz 200 (lJ l k):=((FH hl hk).div ((qH hl).mul (qH hl)) (by
 have h:=hl.n
 intro e
 rcases qE.1 e with e|e<;>exact h e)).mono (by decide)
end
theorem WO {k:Ci}(h:fM l≠0):lJ l k=(k.q-((l7 l k-k.x)*(l7 l k-k.x)+(ms l k-k.y)*(ms l k-k.y)))/fM l:=by
 have h1:=no (a:=tj l k.x k.y) h
 have e1:l7 l k-k.x= -(tj l k.x k.y/fM l*l.a):=by unfold l7;grind
 have e2:ms l k-k.y= -(tj l k.x k.y/fM l*l.b):=by unfold ms;grind
 rw[e1,e2]
 unfold lJ qi
 generalize tj l k.x k.y/fM l=t at h1
 generalize tj l k.x k.y=v at h1
 have hn:fM l=l.a*l.a+l.b*l.b:=rfl
 generalize fM l=n at h h1 hn
 rw[show n*k.q-v*v=(k.q-(-(t*l.a)* -(t*l.a)+ -(t*l.b)* -(t*l.b)))*n from by grind]
 generalize k.q-(-(t*l.a)* -(t*l.a)+ -(t*l.b)* -(t*l.b))=r
 have h2:n*n≠0:=fun e=>(qE.1 e).elim h h
 have h3:=no (a:=r*n) h2
 have h4:=no (a:=r) h
 generalize r*n/(n*n)=x at h3
 generalize r/n=y at h4
 have h5:(x-y)*(n*n)=0:=by grind
 rcases qE.1 h5 with h6|h6
 ·grind
 ·exact absurd h6 h2
section
variable {l:Ln}{k:Ci}
theorem MQ (h:Oz l=true):MH l= -l.b∧ME l= - -l.a:=by unfold MH ME;rw[h];exact⟨rfl,rfl⟩
theorem PG (h:Oz l=false):MH l=l.b∧ME l= -l.a:=by unfold MH ME;rw[h];exact⟨rfl,rfl⟩
theorem PM (h:aw (lJ l k) 0= -1):xe l k=[]:=if_pos h
theorem Na (h: ¬aw (lJ l k) 0= -1) (g:aw (lJ l k) 0=0):xe l k=[⟨l7 l k,0,ms l k,0,0⟩]:=(if_neg h).trans (if_pos g)
theorem Ck (h: ¬aw (lJ l k) 0= -1) (g: ¬aw (lJ l k) 0=0):xe l k=[D2 l k,Dn l k]:=(if_neg h).trans (if_neg g)
end
structure RK (k:Ci):Prop where
 x:Bz 16 k.x
 y:Bz 16 k.y
 q:Bz 17 k.q
 pos:0<k.q
theorem RK.k {k:Ci}(h:RK k):GK k:=⟨h.x.rz (by decide),h.y.rz (by decide),h.q.rz (by decide)⟩
theorem PK:Bz 2 (2:Rat):=⟨by decide+kernel,by decide+kernel⟩
section
variable {k d:Ci}(hk:RK k) (hd:RK d)
include hk hd
theorem VJ:(Bz 35 (lv k d).a∧Bz 35 (lv k d).b)∧Bz 167 (lv k d).c:=by
 have f: ∀ {c:Ci},RK c→Bz 83 (CF c):=fun h=>(((h.x.mul h.x).add (h.y.mul h.y)).sub h.q).mono (by decide)
 exact⟨⟨(PK.mul (hd.x.sub hk.x)).mono (by decide),(PK.mul (hd.y.sub hk.y)).mono (by decide)⟩,((f hd).sub (f hk)).mono (by decide)⟩
section
variable (hc:wi k d=false)
include hc
theorem Eh:0<fM (lv k d):=by
 have h1:=(vU hk.k hd.k hc).n
 have h2:0≤fM (lv k d):=by
  unfold fM
  have a:=Ri (lv k d).a
  have b:=Ri (lv k d).b
  grind
 grind
theorem Xa:Rz 34 (lJ (lv k d) k)∧Rz 2 (MH (lv k d))∧Rz 2 (ME (lv k d)):=by
 obtain⟨⟨a,b⟩,c⟩:=VJ hk hd
 have n:Bz 141 (fM (lv k d)):=((a.mul a).add (b.mul b)).mono (by decide)
 have v:Bz 271 (tj (lv k d) k.x k.y):=(((a.mul hk.x).add (b.mul hk.y)).sub c).mono (by decide)
 have r:Bz 701 (qi (lv k d) k):=((n.mul hk.q).sub (v.mul v)).mono (by decide)
 have h0:fM (lv k d)*fM (lv k d)≠0:=by have:=cY (Eh hk hd hc) (Eh hk hd hc);grind
 refine⟨(r.div (n.mul n) h0).rz (by decide),?_,?_⟩
 ·unfold MH;split
  ·exact b.neg.rz (by decide)
  ·exact b.rz (by decide)
 ·unfold ME;split
  ·exact a.neg.neg.rz (by decide)
  ·exact a.neg.rz (by decide)
theorem Tc: ¬(MH (lv k d)=0∧ME (lv k d)=0):=by
 have hz:=Up (vU hk.k hd.k hc)
 unfold MH ME
 rintro⟨h1,h2⟩
 refine hz ⟨?_,?_⟩
 ·split at h1<;>grind
 ·split at h2<;>grind
theorem Wp (h:0<lJ (lv k d) k):GP (D2 (lv k d) k)∧GP (Dn (lv k d) k):=by
 obtain⟨h1,h2,h3⟩:=Xa hk hd hc
 have g:=vU hk.k hd.k hc
 have nz:=Tc hk hd hc
 exact⟨we (mg g hk.k) (h2.neg.mono (by decide)) (mh g hk.k) (h3.neg.mono (by decide)) (h1.mono (by decide)) h (fun e=>nz ⟨by grind,by grind⟩),we (mg g hk.k) (h2.mono (by decide)) (mh g hk.k) (h3.mono (by decide)) (h1.mono (by decide)) h nz⟩
theorem SW: ∀p∈xe (lv k d) k,GP p:=by
 intro p hp
 have g:=vU hk.k hd.k hc
 unfold xe at hp
 split at hp
 ·cases hp
 ·rename_i h1
  split at hp
  ·rw[kj.1 hp];exact GP.rat ((mg g hk.k).mono (by decide)) ((mh g hk.k).mono (by decide))
  ·rename_i h2
   have hp0:0<lJ (lv k d) k:=rA (fun h=>h1 (by have:=dA (lJ (lv k d) k) 0;omega)) h2
   obtain⟨q1,q2⟩:=Wp hk hd hc hp0
   simp only[dM,rm,or_false] at hp
   rcases hp with rfl|rfl
   ·exact q1
   ·exact q2
end
theorem xU: ∀p∈ij k d,GP p:=by
 intro p hp
 unfold ij at hp
 split at hp
 ·cases hp
 ·split at hp
  ·cases hp
  ·rename_i h;exact SW hk hd (by simpa using h) p hp
theorem CV:(∀x∈ij k d,∃y∈BM k d,cP x y=0)∧ ∀y∈BM k d,∃x∈ij k d,cP y x=0:=by
 have o1:=xU hk hd
 have o2:=yE hk.k hd.k
 unfold ij BM at*
 by_cases h:wi k d=true
 ·rw[if_pos h,if_pos h]
  split<;>exact⟨fun x hx=>(by cases hx),fun x hx=>(by cases hx)⟩
 ·have h1:iQ k d=false:=by
   cases e:iQ k d with
   |false=>rfl
   |true=>
    unfold iQ at e
    rw[dF] at e
    exact absurd e.1 h
  rw[if_neg (by rw[h1];decide),if_neg h] at o1⊢
  rw[if_neg h] at o2⊢
  exact LS (Eh hk hd (by simpa using h)) (fun p hp=>b9 (o1 p hp)) (fun p hp=>b9 (o2 p hp))
end
def ID (k d:Ci):Int:=if iQ k d then 10 else 0
section
variable {k d:Ci}
theorem Pl (h:iQ k d=true):ij k d=[]∧ID k d=10:=by unfold ij ID;rw[h];exact⟨rfl,rfl⟩
theorem J8 (h:iQ k d=false) (g:wi k d=true):ij k d=[]∧ID k d=0:=by unfold ij ID;rw[h,g];exact⟨rfl,rfl⟩
theorem EJ (h:iQ k d=false) (g:wi k d=false):ij k d=xe (lv k d) k∧ID k d=0:=by unfold ij ID;rw[h,g];exact⟨rfl,rfl⟩
end
theorem Bc {k:Ci}:(ij k d).length≤2:=by
 unfold ij xe
 repeat' split
 all_goals simp
def dK:Ci:=⟨0,0,0⟩
theorem pQ (k:Ci):(bo k).length=12:=rfl
theorem EO (k:Ci) (r:List CellD):(bo k++r).take 12=bo k:=List.take_left' rfl
def fz (e:Nat→Bool):Nat→Int
 |0=> -1
 |n+1=>if fz e n≥0 then fz e n else if e n then-1 else n
theorem L6 {e:Nat→Bool}: ∀ {n:Nat},(∀i,i<n→e i=true)→fz e n= -1
 |0,_=>rfl
 |n+1,h=>by
  have h1:=L6 (n:=n) fun i hi=>h i (by omega)
  show(if fz e n≥0 then fz e n else if e n then-1 else n)= -1
  rw[h1,h n (by omega)];rfl
theorem GD {e:Nat→Bool}{k:Nat}(h: ∀i,i<k→e i=true) (g:e k=false): ∀ {n:Nat},k<n→fz e n=k
 |0,hn=>absurd hn (by omega)
 |n+1,hn=>by
  show(if fz e n≥0 then fz e n else if e n then-1 else n)=k
  by_cases hk:k=n
  ·rw[←hk,L6 h,g];rfl
  ·rw[GD h g (by omega:k<n),if_pos (by omega)]
theorem TL {e:Nat→Bool}: ∀ {n:Nat},(fz e n= -1∧ ∀i,i<n→e i=true)∨ ∃k:Nat,k<n∧fz e n=k∧e k=false
 |0=>.inl ⟨rfl,fun i hi=>absurd hi (by omega)⟩
 |n+1=>by
  rcases TL (e:=e) (n:=n) with⟨h1,h2⟩|⟨k,h1,h2,h3⟩
  ·cases h:e n with
   |true=>
    have hh: ∀i,i<n+1→e i=true:=fun i hi=>by
     by_cases hq:i=n
     ·rw[hq];exact h
     ·exact h2 i (by omega)
    exact .inl ⟨L6 hh,hh⟩
   |false=>exact .inr ⟨n,by omega,GD h2 h (by omega),h⟩
  ·refine .inr ⟨k,by omega,?_,h3⟩
   show(if fz e n≥0 then fz e n else if e n then-1 else n)=k
   rw[h2,if_pos (by omega)]
def qr (L:List Ci) (m:Pt):Bool:=L.all fun d=>decide (jQ d m<0)
def eO (L:List Ci) (m:Pt) (i:Nat):Bool:=decide (jQ (L.getD i dK) m<0)
theorem Rm {m:Pt}:decide (fz (eO L m) L.length≥0)= !qr L m:=by
 rcases TL (e:=eO L m) (n:=L.length) with⟨h1,h2⟩|⟨k,h1,h2,h3⟩
 ·have ho:qr L m=true:=by
   unfold qr
   rw[mu]
   intro d hd
   obtain⟨i,hi,rfl⟩:=List.getElem_of_mem hd
   have:=h2 i hi
   unfold eO at this
   simpa [List.getD,hi] using this
  rw[h1,ho];rfl
 ·have ho:qr L m=false:=by
   cases ho:qr L m with
   |false=>rfl
   |true=>
    unfold qr at ho
    rw[mu] at ho
    have:=ho _ (bJ (d:=dK) h1)
    unfold eO at h3
    rw[this] at h3;cases h3
  rw[h2,ho,decide_eq_true (by omega)];rfl
def p8 (e:Nat→Bool) (N n:Nat):List CellD:=(List.range N).map fun i=>CellD.b (decide (i<n)&&e i)
def B6 (e:Nat→Bool) (N:Nat):List CellD:=(List.range N).map fun i=>CellD.b (e i)
theorem nm:(B6 e N).length=N*1:=by unfold B6;simp
theorem BK:(p8 e N n).length=N*1:=by unfold p8;simp
theorem P3:List.replicate N (CellD.b false)=p8 e N 0++[]:=by
 apply wJ<;>simp[p8]
theorem Ho:p8 e N N=B6 e N:=by
 apply wJ
 ·simp[p8,B6]
 ·intro i h1 h2
  have:i<N:=by simpa [B6] using h2
  simp[p8,B6,this]
theorem Kb (h:n<N):(p8 e N n++[]).take (n*1)++[CellD.b (e n)]++(p8 e N n++[]).drop (n*1+1)=p8 e N (n+1)++[]:=by
 rw[l9,l9,Nat.mul_one,qc]
 have h0:n<(p8 e N n).length:=by rw[BK];omega
 rw[show[CellD.b (e n)]++(p8 e N n).drop (n+1)=CellD.b (e n)::(p8 e N n).drop (n+1) from rfl]
 have h1:(p8 e N n).set n (CellD.b (e n))=(p8 e N n).take n++CellD.b (e n)::(p8 e N n).drop (n+1):=by rw[List.set_eq_take_append_cons_drop,if_pos h0]
 rw[←h1]
 apply wJ
 ·simp[p8]
 ·intro i h1 h2
  rw[List.getElem_set]
  by_cases c:n=i
  ·subst c;simp[p8]
  ·rw[if_neg c]
   simp[p8]
   by_cases a:i<n
   ·simp[a,show i<n+1 from by omega]
   ·simp[a,show ¬i<n+1 from by omega]
theorem Ep (h:n<N):(B6 e N).drop (n*1)=[CellD.b (e n)]++(B6 e N).drop (n+1):=by
 rw[Nat.mul_one,oD (by simp[B6];exact h)]
 simp[B6]
def bl (x:Nat):Int:=if x=0 then 0 else if x=1 then 1 else if x≤3 then 2 else if x≤7 then 3 else 4
theorem Za (x:Nat):0≤bl x∧bl x≤4:=by unfold bl;repeat' split<;>try omega
theorem VP {s:ByteArray}{x:Nat}(h1:x≤12) (h:((List.range 13).all fun m=>(((s[m]?).getD 0).toNat:Int)==bl m)=true):(((s[(x:Int).toNat]?).getD 0).toNat:Int)=bl x:=by
 rw[mu] at h
 rw[Int.toNat_natCast]
 exact beq_iff_eq.1 (h x (mG.2 (by omega)))
theorem Vc (ha:Rz 6000000 a) (hb:Rz 6000000 b):Ok Tryz.prog 294 [dR a,dR b] [.c (.b (aw a b==0))]:=by
 refine bW Tryz.func294 rfl ?_
 refine ac rfl (kQ (aE ha) (aE hb)) ?_
 exact ah (ak aa)
theorem ZZ {k:Ci}(hk:GK k) (hd:GK d):Ok Tryz.prog 209 [.a (bo k),.a (bo d)] [.c (.b (iQ k d))]:=by
 refine bW Tryz.func209 rfl ?_
 refine ac rfl (Vc (aE (hk.x)) (aE (hd.x))) ?_
 refine jC (bq rfl) (fun c1 hb1=>?_)
 cases c1
 ·refine ar (bq rfl)<|ah ?_
  rw[show iQ k d=false from by unfold iQ yV;rw[hb1];rfl]
  exact ak aa
 ·refine ac rfl (Vc (aE (hk.y)) (aE (hd.y))) ?_
  refine jC (bq rfl) (fun c2 hb2=>?_)
  cases c2
  ·refine ah ?_
   rw[show iQ k d=false from by unfold iQ yV;rw[hb1,hb2];rfl]
   exact ak aa
  ·refine ac rfl (Vc (aE (hk.q)) (aE (hd.q)))<|ah ?_
   rw[show iQ k d=(aw k.q d.q==0) from by unfold iQ yV;rw[hb1,hb2];rfl]
   exact ak aa
theorem UX {k:Ci}(hk:GK k) (hd:GK d):Ok Tryz.prog 210 [.a (bo k),.a (bo d)] [.c (.b (wi k d))]:=by
 refine bW Tryz.func210 rfl ?_
 refine ac rfl (kQ (aE (hk.x)) (aE (hd.x))) ?_
 refine jC (bq rfl) (fun c1 hb1=>?_)
 cases c1
 ·refine ah ?_
  rw[show wi k d=false from by unfold wi yV;rw[hb1];rfl]
  exact ak aa
 ·refine ac rfl (kQ (aE (hk.y)) (aE (hd.y)))<|ah ?_
  rw[show wi k d=(aw k.y d.y==0) from by unfold wi yV;rw[hb1];rfl]
  exact ak aa
theorem Uy {k:Ci}(hk:GK k):Ok Tryz.prog 295 [.a (bo k)] [dR (CF k)]:=by
 refine bW Tryz.func295 rfl<|cz 14 [] ?_
 refine aC rfl (np (aE (hk.x)) (aE (hk.x))) ?_
 refine aC rfl (np (aE (hk.y)) (aE (hk.y))) ?_
 refine aC rfl (BB (aE (aF (hk.x) (hk.x))) (aE (aF (hk.y) (hk.y)))) ?_
 refine aC rfl (o5 (aE (ig (aF (hk.x) (hk.x)) (aF (hk.y) (hk.y)))) (aE (hk.q))) ?_
 exact ah (aQ aX rfl aa)
theorem Yl {k:Ci}(hk:GK k) (hd:GK d) (hn:wi k d=false):Ok Tryz.prog 211 [.a (bo k),.a (bo d)] [.a (jq (lv k d)),.c (.i .i64 0)]:=by
 have zt:Rz 6000000 (2:Rat):=IQ.m_
 have f1:Rz 6000000 (CF k):=(AW hk).m_
 have f2:Rz 6000000 (CF d):=(AW hd).m_
 refine bW Tryz.func211 rfl<|ac rfl (eG (UX hk hd) hn)<|qg rfl<|ac rfl (lh (fX (by decide) (by decide)) (show((2:Int):Rat)=2 from rfl))<|cz 22 [] ?_
 refine aC rfl (o5 (aE (hd.x)) (aE (hk.x))) ?_
 refine aC rfl (np (HJ) (aE (cT (hd.x) (hk.x)))) ?_
 refine aC rfl (o5 (aE (hd.y)) (aE (hk.y))) ?_
 refine aC rfl (np (HJ) (aE (cT (hd.y) (hk.y)))) ?_
 refine aC rfl (Uy hd) ?_
 refine aC rfl (Uy hk) ?_
 refine aC rfl (o5 (HJ) (HJ)) ?_
 refine aq (az (us:=(cR (2*(d.x-k.x))++cR (2*(d.y-k.y))++cR ((CF d)-(CF k)))) YM W7 rfl rfl rfl) ?_
 exact ah (aQ V3 rfl (ak aa))
theorem XY (ha:Rz 2000000 a) (hb:Rz 2000000 b) (h0:b≠0):Ok Tryz.prog 377 [dR a,dR b] [dR (a/b)]:=by
 refine bW Tryz.func377 rfl<|ac rfl (o7 (ha.m_) (hb.m_) h0)<|qg rfl ?_
 exact ah (aQ aX rfl aa)
theorem ZY (ha:Rz 2000000 a) (hb:Rz 2000000 b) (h0:b≠0):Ok Tryz.prog 351 [dR a,dR b] [dR (a/b)]:=by
 refine bW Tryz.func351 rfl<|ac rfl (o7 (ha.m_) (hb.m_) h0) ?_
 exact ah (aQ aX rfl aa)
theorem Vo {k:Ci}(hl:GL l) (hk:GK k):Ok Tryz.prog 350 [.a (jq l),.a ((cR k.x++cR k.y))] [.a ((cR (l7 l k)++cR (ms l k)))]:=by
 have v1:=yl hl hk
 have n1:=qH hl
 have n0:=hl.n
 have fx:=mg hl hk
 have fy:=mh hl hk
 refine bW Tryz.func350 rfl<|cz 15 [] ?_
 refine aC rfl (fP (aE (hl.a)) (aE (hk.x))) ?_
 refine aC rfl (fP (aE (hl.b)) (aE (hk.y))) ?_
 refine aC rfl (pr (aE (aF (hl.a) (hk.x))) (aE (aF (hl.b) (hk.y)))) ?_
 refine aC rfl (r7 (aE (ig (aF (hl.a) (hk.x)) (aF (hl.b) (hk.y)))) (aE (hl.c)))<|cz 14 [] ?_
 refine aC rfl (fP (aE (hl.a)) (aE (hl.a))) ?_
 refine aC rfl (fP (aE (hl.b)) (aE (hl.b))) ?_
 refine aC rfl (pr (aE (aF (hl.a) (hl.a))) (aE (aF (hl.b) (hl.b)))) ?_
 refine aC rfl ((show Ok Tryz.prog 377 _ [dR (tj l k.x k.y/fM l)] from XY (v1.m_) (n1.m_) hl.n))<|cz 15 [] ?_
 refine aC rfl (fP (aE (Rz.div (by assumption) (by assumption) (by assumption))) (aE (hl.a)))<|aC rfl (r7 (aE (hk.x)) (aE (aF (Rz.div (by assumption) (by assumption) (by assumption)) (hl.a)))) ?_
 refine aC rfl (fP (aE (Rz.div (by assumption) (by assumption) (by assumption))) (aE (hl.b)))<|aC rfl (r7 (aE (hk.y)) (aE (aF (Rz.div (by assumption) (by assumption) (by assumption)) (hl.b))))<|aq (az (us:=(cR (k.x-((tj l k.x k.y/fM l)*l.a))++cR (k.y-((tj l k.x k.y/fM l)*l.b)))) IW G1 rfl rfl rfl) ?_
 exact ah (aQ LI rfl aa)
theorem Zb {k:Ci}(hl:GL l) (hk:GK k):Ok Tryz.prog 299 [.a (jq l),.a (bo k)] [dR (lJ l k),.a ((cR (l7 l k)++cR (ms l k)))]:=by
 have v1:=yl hl hk
 have n1:=qH hl
 have n0:=hl.n
 have fx:=mg hl hk
 have fy:=mh hl hk
 refine bW Tryz.func299 rfl<|ar (az (us:=(cR k.x++cR k.y)) IW G1 rfl rfl rfl) ?_
 refine ac rfl (Vo hl hk)<|cz 12 [] ?_
 refine aC rfl (o5 (HJ) (aE (hk.x))) ?_
 refine aC rfl (o5 (HJ) (aE (hk.y)))<|cz 11 [] ?_
 refine aC rfl (np (aE (cT (by assumption) (hk.x))) (aE (cT (by assumption) (hk.x)))) ?_
 refine aC rfl (np (aE (cT (by assumption) (hk.y))) (aE (cT (by assumption) (hk.y)))) ?_
 refine aC rfl (BB (aE (aF (cT (by assumption) (hk.x)) (cT (by assumption) (hk.x)))) (aE (aF (cT (by assumption) (hk.y)) (cT (by assumption) (hk.y))))) ?_
 refine aC rfl (o5 (aE (hk.q)) (aE (ig (aF (cT (by assumption) (hk.x)) (cT (by assumption) (hk.x))) (aF (cT (by assumption) (hk.y)) (cT (by assumption) (hk.y))))))<|cz 16 [4,5,999999] ?_
 refine aC rfl (np (aE (hl.a)) (aE (hl.a))) ?_
 refine aC rfl (np (aE (hl.b)) (aE (hl.b))) ?_
 refine aC rfl (BB (aE (aF (hl.a) (hl.a))) (aE (aF (hl.b) (hl.b)))) ?_
 refine aC rfl ((show Ok Tryz.prog 351 _ [dR (lJ l k)] from by rw[WO hl.n];exact ZY ((hk.q.sub (((fx.sub hk.x).mul (fx.sub hk.x)).add ((fy.sub hk.y).mul (fy.sub hk.y)))).m_) (n1.m_) hl.n)) ?_
 refine DQ.mk<|iM (dL aX rfl) rfl rfl rfl rfl<|dc ?_
 refine DQ.mk<|iM (dL LI rfl) rfl rfl rfl rfl<|dc ?_
 exact ah (aQ aX rfl (aQ LI rfl aa))
theorem abi {k:Ci}(hl:GL l) (hk:GK k):Ok Tryz.prog 212 [.a (jq l),.a (bo k)] [.c (.s ((xe l k).length) (aJ ai (xe l k)))]:=by
 have hq:Rz 200 (lJ l k):=We hl hk
 have kz:Rz 6000000 (lJ l k):=hq.m_
 have fx:=mg hl hk
 have fy:=mh hl hk
 have hb0:Rz 100 l.b:=hl.b.m_
 have ha0:Rz 100 l.a:=hl.a.m_
 have nz:=Up hl
 refine bW Tryz.func212 rfl ?_
 refine ac rfl (Zb hl hk) ?_
 refine ac rfl (cn) ?_
 refine df rfl (fun hc1=>?_) (fun hc1=>?_)
 ·refine ah ?_
  rw[PM (by simpa using hc1)]
  exact ak aa
 ·refine df rfl (fun hc2=>?_) (fun hc2=>?_)
  ·refine ac rfl (S6)<|ar (da (n:=1) (us:=(cR (l7 l k)++cR 0++cR (ms l k)++cR 0++cR 0)) jD rfl rfl rfl (by decide) (by decide) rfl) ?_
   refine ah ?_
   rw[Na (by simpa using hc1) (by simpa using hc2)]
   exact ak aa
  ·have g1: ¬aw (lJ l k) 0= -1:=by simpa using hc1
   have g2: ¬aw (lJ l k) 0=0:=by simpa using hc2
   have h0:0<lJ l k:=rA (fun h=>g1 (by have:=dA (lJ l k) 0;omega)) g2
   refine cz 7 [] ?_
   refine aC rfl (dD (aE (hl.a))) ?_
   refine ac rfl (cn) ?_
   refine jC (bq rfl) (fun c3 hb3=>?_)
   cases c3
   ·refine jC (bq rfl) (fun c4 hb4=>?_)
    cases c4
    ·obtain⟨eU,eV⟩:=PG (l:=l) (by unfold Oz;rw[hb3,hb4];rfl)
     refine qg rfl<|cz 20 [] ?_
     refine aC rfl (dD (aE (hl.b))) ?_
     refine aC rfl (dD (aE (lj (hl.a)))) ?_
     refine aC rfl ((show Ok Tryz.prog 301 _ [.a (ai (D2 l k))] from by unfold D2;rw[eU,eV];exact rj (fx.m_) hb0.neg (fy.m_) ha0.neg.neg hq h0 (fun e=>nz ⟨by grind,by grind⟩))) ?_
     refine aC rfl ((show Ok Tryz.prog 301 _ [.a (ai (Dn l k))] from by unfold Dn;rw[eU,eV];exact rj (fx.m_) hb0 (fy.m_) ha0.neg hq h0 (fun e=>nz ⟨by grind,by grind⟩))) ?_
     refine aq (da (n:=2) (us:=ai (D2 l k)++ai (Dn l k)) jD rfl rfl rfl (by decide) (by decide) rfl) ?_
     refine ah ?_
     rw[Ck g1 g2]
     exact ak aa
    ·refine ac rfl (cn) ?_
     refine df rfl (fun hc5=>?_) (fun hc5=>?_)
     ·obtain⟨eU,eV⟩:=MQ (l:=l) (by unfold Oz;rw[hb3,hb4,hc5];rfl)
      refine cz 4 [] ?_
      refine aC rfl (dD (aE (hl.b))) ?_
      refine aC rfl (dD (aE (lj (hl.a))))<|cz 20 [] ?_
      refine aC rfl (dD (aE (lj (hl.b)))) ?_
      refine aC rfl (dD (aE (lj (lj (hl.a))))) ?_
      refine aC rfl ((show Ok Tryz.prog 301 _ [.a (ai (D2 l k))] from by unfold D2;rw[eU,eV];exact rj (fx.m_) hb0.neg.neg (fy.m_) ha0.neg.neg.neg hq h0 (fun e=>nz ⟨by grind,by grind⟩))) ?_
      refine aC rfl ((show Ok Tryz.prog 301 _ [.a (ai (Dn l k))] from by unfold Dn;rw[eU,eV];exact rj (fx.m_) hb0.neg (fy.m_) ha0.neg.neg hq h0 (fun e=>nz ⟨by grind,by grind⟩))) ?_
      refine aq (da (n:=2) (us:=ai (D2 l k)++ai (Dn l k)) jD rfl rfl rfl (by decide) (by decide) rfl) ?_
      refine ah ?_
      rw[Ck g1 g2]
      exact ak aa
     ·obtain⟨eU,eV⟩:=PG (l:=l) (by unfold Oz;rw[hb3,hb4,hc5];rfl)
      refine cz 20 [] ?_
      refine aC rfl (dD (aE (hl.b))) ?_
      refine aC rfl (dD (aE (lj (hl.a)))) ?_
      refine aC rfl ((show Ok Tryz.prog 301 _ [.a (ai (D2 l k))] from by unfold D2;rw[eU,eV];exact rj (fx.m_) hb0.neg (fy.m_) ha0.neg.neg hq h0 (fun e=>nz ⟨by grind,by grind⟩))) ?_
      refine aC rfl ((show Ok Tryz.prog 301 _ [.a (ai (Dn l k))] from by unfold Dn;rw[eU,eV];exact rj (fx.m_) hb0 (fy.m_) ha0.neg hq h0 (fun e=>nz ⟨by grind,by grind⟩))) ?_
      refine aq (da (n:=2) (us:=ai (D2 l k)++ai (Dn l k)) jD rfl rfl rfl (by decide) (by decide) rfl) ?_
      refine ah ?_
      rw[Ck g1 g2]
      exact ak aa
   ·obtain⟨eU,eV⟩:=MQ (l:=l) (by unfold Oz;rw[hb3];rfl)
    refine DL.mk<|vu (nI rfl)<|eQ ?_
    refine rx rfl<|cz 4 [] ?_
    refine aC rfl (dD (aE (hl.b))) ?_
    refine aC rfl (dD (aE (lj (hl.a))))<|cz 20 [] ?_
    refine aC rfl (dD (aE (lj (hl.b)))) ?_
    refine aC rfl (dD (aE (lj (lj (hl.a))))) ?_
    refine aC rfl ((show Ok Tryz.prog 301 _ [.a (ai (D2 l k))] from by unfold D2;rw[eU,eV];exact rj (fx.m_) hb0.neg.neg (fy.m_) ha0.neg.neg.neg hq h0 (fun e=>nz ⟨by grind,by grind⟩))) ?_
    refine aC rfl ((show Ok Tryz.prog 301 _ [.a (ai (Dn l k))] from by unfold Dn;rw[eU,eV];exact rj (fx.m_) hb0.neg (fy.m_) ha0.neg.neg hq h0 (fun e=>nz ⟨by grind,by grind⟩))) ?_
    refine aq (da (n:=2) (us:=ai (D2 l k)++ai (Dn l k)) jD rfl rfl rfl (by decide) (by decide) rfl) ?_
    refine ah ?_
    rw[Ck g1 g2]
    exact ak aa
theorem TM {k:Ci}(hk:GK k) (hd:GK d):Ok Tryz.prog 121 [.a (bo k),.a (bo d)] [.c (.s ((ij k d).length) (aJ ai (ij k d))),.c (.i .i64 (ID k d))]:=by
 refine bW Tryz.func121 rfl ?_
 refine ac rfl (ZZ hk hd) ?_
 refine df rfl (fun hc1=>?_) (fun hc1=>?_)
 ·refine ah ?_
  rw[(Pl hc1).1,(Pl hc1).2]
  exact ak (ak aa)
 ·refine ac rfl (UX hk hd) ?_
  refine df rfl (fun hc2=>?_) (fun hc2=>?_)
  ·refine ah ?_
   rw[(J8 hc1 hc2).1,(J8 hc1 hc2).2]
   exact ak (ak aa)
  ·refine ac rfl (Yl hk hd hc2)<|ac rfl (abi (vU hk hd hc2) hk)<|ah ?_
   rw[(EJ hc1 hc2).1,(EJ hc1 hc2).2]
   exact ak (ak aa)
theorem R4 {k:Ci}{a b:Pt}(vP:CvV (.arc k false a b)) (vR:CvV (.arc k false a' b')) (e1:cP a a'=0) (e2:cP b b'=0)
 (iP: ∀x,x=fY k∨x=fR k→(Cv.arc k false a b).inner x=false∧(Cv.arc k false a' b').inner x=false):
 ∃m:Pt,GB m∧Ok Tryz.prog 43 [.a (aG (.arc k false a b))] [.a (ai m)]∧Ok Tryz.prog 56 [.a (aG (.arc k false a' b'))] [.a (ai m)]∧ ∃x,m=t8 (Cv.arc k false a b).fwd x∧jm (Cv.arc k false a b).fwd.p x<0∧0<jm (Cv.arc k false a b).fwd.q x:=by
 obtain⟨x,hx,h1,h2,h3,h4,h5,h6,i1,i2⟩:=Yv vP vR e1 e2 iP
 obtain⟨⟨z1,z2,z3⟩,hv⟩:=I3 (H0 vP) hx h3
 obtain⟨ea,eb⟩:=PI (Cv.arc k false a b).fwd x
 refine⟨t8 (Cv.arc k false a b).fwd x,⟨ea▸hx.mono (by decide),eb▸eK (by decide),z1,z2,z3,hv⟩,YY vP (iP _ (.inl rfl)).1 (iP _ (.inr rfl)).1 hx h3 h1,h6▸Xs vR h5 hx h4 h2,x,rfl,i1,i2⟩
theorem abr {m:Pt}(hm:GB m) (hd:RK d):Ok Tryz.prog 45 [.a (bo d),.c (.p (ai m))] [.c (.b (decide (jQ d m≥0)))]:=by
 refine bW Tryz.func45 rfl ?_
 refine ar (lp (us:=ai m) bE rfl rfl rfl rfl) ?_
 refine ac rfl (Qr hd.k hm) ?_
 exact ah (ak aa)
theorem abm (hL: ∀d∈L,RK d) (lL:L.length≤4) {m:Pt}(hm:GB m):Ok Tryz.prog 131 [.c (.s L.length (aJ bo L)),.c (.k 45 [.p (ai m)])] [.c (.i .i64 (fz (eO L m) L.length))]:=by
 refine bW Tryz.func131 rfl ?_
 refine DW.mk<|bF (ι:={n:Nat // n≤L.length∧ ∀i,i<n→eO L m i=true}) (fun i=>⟨19,[(0,.v (.c (.s L.length (aJ bo L)))),(1,.v (.c (.k 45 [.p (ai m)]))),(7,.v (.c (.i .i64 (L.length:Int)))),(8,.v (.c (.i .i64 (i.1:Int))))],[]⟩) (fun i=>L.length-i.1) ⟨0,ju _,fun i hi=>absurd hi (by omega)⟩ (aA ⟨rfl,rfl,rfl,rfl,trivial⟩ trivial rfl) ?_
 rintro⟨n,h2,h3⟩
 replace h2:n≤L.length:=h2
 replace h3: ∀i,i<n→eO L m i=true:=h3
 dsimp only
 refine nZ ?_
 refine df rfl (fun hc1=>?_) (fun hc1=>?_)
 ·have g1:n<L.length:=by have:=of_decide_eq_true hc1;omega
  refine ar (tX dK pQ g1 Wf rfl)<|ar (gF (us:=bo (L.getD n dK)) sI rfl (EO _ _) (pQ _) rfl) ?_
  refine ar (oV rfl rfl (abr hm (hL _ (bJ g1))) rfl) ?_
  refine df rfl (fun hc2=>?_) (fun hc2=>?_)
  ·have g2:eO L m n=false:=by have:=of_decide_eq_true hc2;unfold eO;rw[decide_eq_false (by omega)]
   refine ah ?_
   rw[GD h3 g2 g1]
   exact ak aa
  ·have g2:eO L m n=true:=by have:=of_decide_eq_false hc2;unfold eO;rw[decide_eq_true (by omega)]
   refine ar (eu (by omega) rfl) ?_
   exact⟨⟨n+1,g1,fun i hi=>(kH i n).elim (h3 i) fun q=>(show i=n by omega)▸g2⟩,aA ⟨rfl,rfl,rfl,rfl,trivial⟩ trivial rfl,by show L.length-(n+1)<L.length-n;omega⟩
 ·have hp:n=L.length:=by have:=of_decide_eq_false hc1;omega
  refine ah ?_
  rw[L6 (hp▸h3)]
  exact ak aa
theorem YF (hL: ∀d∈L,RK d) (lL:L.length≤4) {m:Pt}(hm:GB m):Ok Tryz.prog 44 [.c (.s L.length (aJ bo L)),.c (.k 45 [.p (ai m)])] [.c (.b (!qr L m))]:=by
 refine bW Tryz.func44 rfl<|ac rfl (abm hL lL hm)<|ah ?_
 rw[←Rm]
 exact ak aa
theorem Y1 (hN:N≤100):Ok Tryz.prog 48 [.c (.s N (B6 e N)),.c (.b false)] [.c (.i .i64 (fz e N))]:=by
 refine bW Tryz.func48 rfl ?_
 refine DW.mk<|bF (ι:={n:Nat // n≤N∧ ∀i,i<n→e i=true}) (fun i=>⟨19,[(0,.v (.c (.s N (B6 e N)))),(1,.v (.c (.b false))),(7,.v (.c (.i .i64 (N:Int)))),(8,.v (.c (.i .i64 (i.1:Int))))],[]⟩) (fun i=>N-i.1) ⟨0,ju _,fun i hi=>absurd hi (by omega)⟩ (aA ⟨rfl,rfl,rfl,rfl,trivial⟩ trivial rfl) ?_
 rintro⟨n,h2,h3⟩
 replace h2:n≤N:=h2
 replace h3: ∀i,i<n→e i=true:=h3
 dsimp only
 refine nZ ?_
 refine df rfl (fun hc1=>?_) (fun hc1=>?_)
 ·have g1:n<N:=by have:=of_decide_eq_true hc1;omega
  refine ar (bK (us:=[CellD.b (e n)]++(B6 e N).drop (n+1)) NE rfl rfl (by omega) (nm) (Ep g1) rfl) ?_
  refine ar (ci mv rfl rfl rfl) ?_
  refine ar (pp rfl rfl gY rfl) ?_
  refine df rfl (fun hc2=>?_) (fun hc2=>?_)
  ·have g2:e n=false:=(beq_iff_eq.1 hc2).symm
   refine ah ?_
   rw[GD h3 g2 g1]
   exact ak aa
  ·have g2:e n=true:=by have:=hc2;revert this;cases e n<;>decide
   refine ar (eu (by omega) rfl) ?_
   exact⟨⟨n+1,g1,fun i hi=>(kH i n).elim (h3 i) fun q=>(show i=n by omega)▸g2⟩,aA ⟨rfl,rfl,rfl,rfl,trivial⟩ trivial rfl,by show N-(n+1)<N-n;omega⟩
 ·have hp:n=N:=by have:=of_decide_eq_false hc1;omega
  refine ah ?_
  rw[L6 (hp▸h3)]
  exact ak aa
theorem Yq (hN:N≤100):Ok Tryz.prog 47 [.c (.s N (B6 e N)),.c (.b false)] [.c (.b (decide (fz e N≥0)))]:=by
 refine bW Tryz.func47 rfl<|ac rfl (Y1 hN) ?_
 exact ah (ak aa)
section
variable {P:Program}{ops:Array Oper}{T:TF}{B:BF}{dst:Option Nat}{y:Operand}{t:TypeId}{ty:TypeId}{pos:String}{af:Array Edge}{g:Option (Nat×Bool)}
theorem Pj {s:ByteArray}{k:IntKind}{i n:Int}(hU:P.underlying t=some .string) (hi:cO T y=some (.v (.c (.i k i)))) (h0:0≤i∧i<s.size) (hn:(((s[i.toNat]?).getD 0).toNat:Int)=n) (hg:gd ops ⟨dst,.index t (.const (.string s)) y,ty,pos,af,g⟩ T=some true):
 Sem P ops ⟨dst,.index t (.const (.string s)) y,ty,pos,af,g⟩ T B (.r (.v (.c (.i .u8 n)))):=
 bG hg (qo rfl) (fun V β a w hs=>by
  have h2:=fO (ap hs (x:=y) (by simp[Op.operands]) hi)
  have h3:i.toNat<s.size:=by omega
  refine⟨.int .u8 n,?_,.i _ _⟩
  subst hn
  have h4:=run_index_string (P:=P) w t s k i hU
  rw[dif_pos h0] at h4
  simp only[execOp,h2]
  show(Instr.index t (.string s) (.int k i)>>=_).run P w=_
  rw[eH,h4,ByteArray.getElem?_lt' s _ h3]
  rfl)
end
theorem L4 {P:Program}{σ:St}{Q:Exit→St→Prop}{x y:Code}(h:Dw P y σ Q):Dw P (.cond (.const (.bool false)) x y) σ Q:=fun av w0 β a w hr=>
 wp_cond_split (t:=false) rfl (fun e=>nomatch e) (fun _=>h av w0 β a w hr)
theorem aaH {x:Int}(h0:0≤x) (h1:x≤255):IntKind.u8.wrap x=x:=by unfold IntKind.wrap;simp[IntKind.bits,IntKind.signed];omega
theorem ZW {d:Cv}(vc:CvV c) (vd:CvV d):Ok Tryz.prog 50 [.a (aG c),.a (aG d)] [.c (.i .i64 (cW c d))]:=by
 refine bW Tryz.func50 rfl ?_
 refine ar (cg (us:=ai c.p) bE rfl rfl (qa _) rfl rfl) ?_
 refine ar (cg (us:=ai d.p) bE rfl rfl (qa _) rfl rfl) ?_
 refine ac rfl (ON (jK vc.g) (jK vd.g)) ?_
 exact ah (ak aa)
theorem Yu {L:List Cv}(hn1:1≤L.length) (hn:L.length≤12) (hG: ∀x∈L,CvV x):OkS Tryz.prog 243 49 L.length c9 (aJ aG L++rs) (aJ aG (bc bL cW L)++rs) [.c (.i .i64 0),.c (.i .i64 (L.length:Int)),.c (.f 50)]:=by
 refine OkS.of (K:=100000) (by kernel_rfl) Tryz.func243 rfl rfl rfl rfl ?_
 rw[show Tryz.f243.ntmps=53 from rfl]
 refine ae<|ag<|ar (mj (r:=1) rfl rfl rfl rfl) ?_
 refine aP<|bF (ι:={p:Nat // 1≤p∧p≤L.length}) (fun i=>⟨53,[(0,.o 100000 L.length c9),(1,.v (.c (.i .i64 0))),(2,.v (.c (.i .i64 (L.length:Int)))),(3,.v (.c (.f 50))),(8,.v (.c (.i .i64 (i.1:Int))))],[(100000,49,aJ aG (Rn bL cW L i.1)++rs)]⟩) (fun i=>L.length-i.1) ⟨1,cj _,hn1⟩ (aA ⟨rfl,rfl,rfl,rfl,rfl,trivial⟩ ⟨congrArg (fun q=>some (49,aJ aG q++rs)) ((Lh L).symm),trivial⟩ rfl) ?_
 rintro⟨p,h1,h2⟩
 replace h1:1≤p:=h1
 replace h2:p≤L.length:=h2
 dsimp only
 refine ae<|ae<|ag ?_
 refine aS rfl (fun hc1=>?_) (fun hc1=>?_)
 ·have g1:p<L.length:=by have:=of_decide_eq_true hc1;omega
  have hOl:(bc bL cW (L.take p)).length=p:=by rw[fk,gz,qO h2]
  refine aB<|ae<|aP<|ae<|ag<|aP<|bF (ι:={j:Nat // j≤p∧oF bL cW (L.getD p bL) (bc bL cW (L.take p)) p=oF bL cW (L.getD p bL) (bc bL cW (L.take p)) j}) (fun i=>⟨53,[(0,.o 100000 L.length c9),(1,.v (.c (.i .i64 0))),(2,.v (.c (.i .i64 (L.length:Int)))),(3,.v (.c (.f 50))),(8,.v (.c (.i .i64 (p:Int)))),(9,.v (.c (.i .i64 (i.1:Int))))],[(100000,49,aJ aG (zV (bc bL cW (L.take p)) (L.drop (p+1)) (L.getD p bL) i.1)++rs)]⟩) (fun i=>i.1) ⟨p,cj _,rfl⟩ (aA ⟨rfl,rfl,rfl,rfl,rfl,rfl,trivial⟩ ⟨congrArg (fun q=>some (49,aJ aG q++rs)) (KL g1),trivial⟩ rfl) ?_
  rintro⟨j,h3,h4⟩
  replace h3:j≤p:=h3
  replace h4:oF bL cW (L.getD p bL) (bc bL cW (L.take p)) p=oF bL cW (L.getD p bL) (bc bL cW (L.take p)) j:=h4
  dsimp only
  refine ae<|ae<|nu 17 rfl rfl<|cE 3 ?_
  refine JB (bq rfl) (fun c2 hb2=>?_)
  cases c2
  ·have g2:j=0:=by have:=of_decide_eq_false hb2;omega
   refine Aq<|dN<|bD<|bn rfl<|b7<|ag<|ar (eu (by omega) rfl) ?_
   exact⟨⟨p+1,by omega,g1⟩,aA ⟨rfl,rfl,rfl,rfl,rfl,trivial⟩ ⟨congrArg (fun q=>some (49,aJ aG q++rs)) (yS g1 (h4.trans (Fs (.inl g2)))),trivial⟩ rfl,by show L.length-(p+1)<L.length-p;omega⟩
  ·have g2:0<j:=by have:=of_decide_eq_true hb2;omega
   have hjl:j≤(bc bL cW (L.take p)).length:=by rw[hOl];exact h3
   refine cE 3<|bh (bk lB rfl rfl (by omega) rfl) ?_
   refine bh (cg (us:=aG (L.getD p bL)) bT rfl rfl ((jt (e:=bL) (O:=(zV (bc bL cW (L.take p)) (L.drop (p+1)) (L.getD p bL) j)) aj (by rw[gV hjl,hOl,jF];omega)).trans (congrArg aG (Fj hjl))) (aj _) rfl) ?_
   refine cE 2<|bh (bZ (((j-1:Nat):Int)) ((bI (by omega) (by omega)).trans (congrArg some (by omega))) rfl)<|bh (bk lB rfl rfl (by omega) rfl) ?_
   refine bh (cg (us:=aG ((bc bL cW (L.take p)).getD (j-1) bL)) bT rfl rfl ((jt (e:=bL) (O:=(zV (bc bL cW (L.take p)) (L.drop (p+1)) (L.getD p bL) j)) aj (by rw[gV hjl,hOl,jF];omega)).trans (congrArg aG (FF g2 hjl))) (aj _) rfl) ?_
   refine bh (cb rfl (ZW (hG _ (bJ g1)) (hG _ (List.mem_of_mem_take ((iI _).mem_iff.1 (bJ (show j-1<(bc bL cW (L.take p)).length by rw[hOl];omega)))))))<|Aq<|dN<|bD ?_
   refine aS rfl (fun hc3=>?_) (fun hc3=>?_)
   ·have g3:cW (L.getD p bL) ((bc bL cW (L.take p)).getD (j-1) bL)<0:=of_decide_eq_true hc3
    refine aB<|ae<|aP<|sU 16 [100000,999999] il (by kernel_rfl) rfl rfl<|cE 4<|bh (bZ (((j-1:Nat):Int)) ((bI (by omega) (by omega)).trans (congrArg some (by omega))) rfl)<|cE 2<|bh (bZ (((j-1:Nat):Int)) ((bI (by omega) (by omega)).trans (congrArg some (by omega))) rfl)<|bh (bk lB rfl rfl (by omega) rfl) ?_
    refine Cd (by kernel_rfl) (cg (us:=aG ((bc bL cW (L.take p)).getD (j-1) bL)) bT rfl rfl ((jt (e:=bL) (O:=(zV (bc bL cW (L.take p)) (L.drop (p+1)) (L.getD p bL) j)) aj (by rw[gV hjl,hOl,jF];omega)).trans (congrArg aG (FF g2 hjl))) (aj _) rfl) ?_
    refine cE 2<|bh (bk lB rfl rfl (by omega) rfl) ?_
    refine Cd (by kernel_rfl) (cg (us:=aG (L.getD p bL)) bT rfl rfl ((jt (e:=bL) (O:=(zV (bc bL cW (L.take p)) (L.drop (p+1)) (L.getD p bL) j)) aj (by rw[gV hjl,hOl,jF];omega)).trans (congrArg aG (Fj hjl))) (aj _) rfl) ?_
    refine bh (bk lB rfl rfl (by omega) rfl) ?_
    refine iM (aY (us:=aJ aG ((zV (bc bL cW (L.take p)) (L.drop (p+1)) (L.getD p bL) j).set j ((bc bL cW (L.take p)).getD (j-1) bL))++rs) bT rfl rfl rfl (aj _) (by rw[dj,aM aj,gV hjl,hOl,jF];omega) (v5 aj (by rw[gV hjl,hOl,jF];omega) _) rfl) rfl rfl rfl rfl ?_
    refine mT<|zK<|aW (bk lB rfl rfl (by omega) rfl) ?_
    refine iu (aY (us:=aJ aG (((zV (bc bL cW (L.take p)) (L.drop (p+1)) (L.getD p bL) j).set j ((bc bL cW (L.take p)).getD (j-1) bL)).set (j-1) (L.getD p bL))++rs) bT rfl rfl rfl (aj _) (by rw[dj,aM aj,wQ,gV hjl,hOl,jF];omega) (v5 aj (by rw[wQ,gV hjl,hOl,jF];omega) _) rfl) ?_
    refine bD<|ag<|ar (bZ (((j-1:Nat):Int)) ((bI (by omega) (by omega)).trans (congrArg some (by omega))) rfl) ?_
    exact⟨⟨j-1,by omega,h4.trans (NP g2 g3)⟩,aA ⟨rfl,rfl,rfl,rfl,rfl,rfl,trivial⟩ ⟨congrArg (fun q=>some (49,aJ aG q++rs)) (PP g2 hjl),trivial⟩ rfl,by show j-1<j;omega⟩
   ·have g3: ¬cW (L.getD p bL) ((bc bL cW (L.take p)).getD (j-1) bL)<0:=of_decide_eq_false hc3
    refine b7<|ag<|ar (eu (by omega) rfl) ?_
    exact⟨⟨p+1,by omega,g1⟩,aA ⟨rfl,rfl,rfl,rfl,rfl,trivial⟩ ⟨congrArg (fun q=>some (49,aJ aG q++rs)) (yS g1 (h4.trans (Fs (.inr g3)))),trivial⟩ rfl,by show L.length-(p+1)<L.length-p;omega⟩
 ·have hp:p=L.length:=by have:=of_decide_eq_false hc1;omega
  refine b7 ?_
  exact⟨.inl rfl,congrArg (fun q=>some (49,aJ aG q++rs)) (by rw[hp,K7])⟩
theorem W3:Ok Tryz.prog 243 [.c (.s 0 []),.c (.i .i64 0),.c (.i .i64 0),.c (.f 50)] []:=by
 refine bW Tryz.func243 rfl<|ar (mj (r:=1) rfl rfl rfl rfl) ?_
 refine DW.mk<|bF (ι:=Nat) (fun i=>match i with|_=>⟨53,[(0,.v (.c (.s 0 []))),(1,.v (.c (.i .i64 0))),(2,.v (.c (.i .i64 0))),(3,.v (.c (.f 50))),(8,.v (.c (.i .i64 1)))],[]⟩) (fun i=>0-i) 0 (aA ⟨rfl,rfl,rfl,rfl,rfl,trivial⟩ trivial rfl) ?_
 intro i
 match i with
 |_=>
  show Dw _ _ ⟨53,[(0,.v (.c (.s 0 []))),(1,.v (.c (.i .i64 0))),(2,.v (.c (.i .i64 0))),(3,.v (.c (.f 50))),(8,.v (.c (.i .i64 1)))],[]⟩ _
  refine nZ<|qg rfl ?_
  exact HO aa
theorem SU {x:Nat}(hx:x≤12):Ok Tryz.prog 252 [.c (.i .u64 (x:Int))] [.c (.i .i64 (bl x))]:=by
 have b1:=Za x
 refine ex Tryz.func252 25 [.tmp 2] rfl<|ae<|ag<|ae<|ae<|bz<|bQ 1<|aW (aU (c:=false) (ew rfl) (decide_eq_false (by omega))) ?_
 refine bD<|bn rfl<|aB<|ae<|ae<|bz<|bQ 1<|aW (aU (c:=false) (ew rfl) (decide_eq_false (by omega))) ?_
 refine bD<|bn rfl<|aB<|ae<|ae<|bz<|bQ 1<|aW (aU (c:=false) (ew rfl) (decide_eq_false (by omega))) ?_
 refine bD<|bn rfl<|aB<|ae<|ag<|ar (bv (r:=(x:Int)) fA BD rfl (aaH (by omega) (by omega)) rfl) ?_
 refine ar (Pj (n:=bl x) (by kernel_rfl) rfl ⟨by omega,Int.lt_of_le_of_lt (b:=12) (by omega) (by decide+kernel)⟩ (VP hx (by decide+kernel)) rfl) ?_
 refine ar (bv (r:=bl x) BD Om rfl (ii (by omega) (by omega)) rfl) ?_
 refine ar (bZ (bl x) ((bm (by omega) (by omega)).trans (congrArg some (by omega))) rfl)<|a9 ?_
 exact ah (ak aa)
theorem Uk {x:Nat}(hx:x≤12):Ok Tryz.prog 138 [.c (.i .u64 (x:Int))] [.c (.i .i64 (bl x))]:=by
 refine ex Tryz.func138 8 [.tmp 2] rfl<|ae<|bz<|fL<|ae<|L4<|aB<|ae<|bz<|bQ 1<|aW (cb rfl (SU hx))<|fL<|a9 ?_
 exact ah (ak aa)
theorem Yp {L:List Cv}(hn1:1≤L.length) (hn:L.length≤12) (hG: ∀x∈L,CvV x) :OkS Tryz.prog 137 49 L.length c9 (aJ aG L++rs) (aJ aG (bc bL cW L)++rs) [.c (.i .i64 0),.c (.i .i64 (L.length:Int)),.c (.i .i64 lm),.c (.f 50)]:=by
 refine OkS.of (K:=100000) (by kernel_rfl) Tryz.func137 rfl rfl rfl rfl ?_
 rw[show Tryz.f137.ntmps=148 from rfl]
 refine ae<|ag<|ae<|ag<|aP ?_
 refine bF (ι:=Nat) (fun i=>match i with|_=>⟨148,[(0,.o 100000 L.length c9),(1,.v (.c (.i .i64 0))),(2,.v (.c (.i .i64 (L.length:Int)))),(3,.v (.c (.i .i64 lm))),(4,.v (.c (.f 50))),(10,.v (.c (.b true))),(11,.v (.c (.b true)))],[(100000,49,aJ aG L++rs)]⟩) (fun i=>0-i) 0 (aA ⟨rfl,rfl,rfl,rfl,rfl,rfl,rfl,trivial⟩ ⟨rfl,trivial⟩ rfl) ?_
 intro i
 match i with
 |_=>
  show Dw _ _ ⟨148,[(0,.o 100000 L.length c9),(1,.v (.c (.i .i64 0))),(2,.v (.c (.i .i64 (L.length:Int)))),(3,.v (.c (.i .i64 lm))),(4,.v (.c (.f 50))),(10,.v (.c (.b true))),(11,.v (.c (.b true)))],[(100000,49,aJ aG L++rs)]⟩ _
  refine aP<|ae<|ag<|ar (bZ ((L.length:Int)) ((bI (by omega) (by omega)).trans (congrArg some (by omega))) rfl)<|ae<|ae<|bz<|bQ 1<|aW (aU (c:=true) (ew rfl) (decide_eq_true (by omega))) ?_
  refine bD<|dG rfl<|ae<|ag ?_
  refine DL.mk<|r5 (jO rfl rfl rfl rfl rfl (Yu hn1 hn hG) rfl)<|eQ ?_
  refine a9 ?_
  exact⟨.inr rfl,rfl⟩
theorem VN:Ok Tryz.prog 137 [.c (.s 0 []),.c (.i .i64 0),.c (.i .i64 0),.c (.i .i64 lm),.c (.f 50)] []:=by
 refine bW Tryz.func137 rfl ?_
 refine DW.mk<|bF (ι:=Nat) (fun i=>match i with|_=>⟨148,[(0,.v (.c (.s 0 []))),(1,.v (.c (.i .i64 0))),(2,.v (.c (.i .i64 0))),(3,.v (.c (.i .i64 lm))),(4,.v (.c (.f 50))),(10,.v (.c (.b true))),(11,.v (.c (.b true)))],[]⟩) (fun i=>0-i) 0 (aA ⟨rfl,rfl,rfl,rfl,rfl,rfl,rfl,trivial⟩ trivial rfl) ?_
 intro i
 match i with
 |_=>
  show Dw _ _ ⟨148,[(0,.v (.c (.s 0 []))),(1,.v (.c (.i .i64 0))),(2,.v (.c (.i .i64 0))),(3,.v (.c (.i .i64 lm))),(4,.v (.c (.f 50))),(10,.v (.c (.b true))),(11,.v (.c (.b true)))],[]⟩ _
  refine nZ<|ar (mj (r:=0) rfl rfl rfl rfl) ?_
  refine rx rfl<|ac rfl (W3) ?_
  exact ah aa
theorem aaS {L:List Cv}(hn1:1≤L.length) (hn:L.length≤12) (hG: ∀x∈L,CvV x):OkS Tryz.prog 49 49 L.length c9 (aJ aG L++rs) (aJ aG (bc bL cW L)++rs) [.c (.f 50)]:=by
 refine OkS.of (K:=100000) (by kernel_rfl) Tryz.func49 rfl rfl rfl rfl ?_
 rw[show Tryz.f49.ntmps=14 from rfl]
 refine ae<|ag<|ar (iJ lB rfl rfl) ?_
 refine ag<|ar (bv (r:=(L.length:Int)) Om FI rfl (gZ (by omega) (by omega)) rfl) ?_
 refine ac rfl (Uk hn) ?_
 refine DL.mk<|r5 (jO rfl rfl rfl rfl rfl (Yp hn1 hn hG) rfl)<|eQ ?_
 exact⟨.inl rfl,rfl⟩
theorem Yx:Ok Tryz.prog 49 [.c (.s 0 []),.c (.f 50)] []:=by
 refine bW Tryz.func49 rfl ?_
 refine ar (bv (r:=0) Om FI rfl (rfl) rfl) ?_
 refine ac rfl ((show Ok _ _ [.c (.i .u64 0)] [.c (.i .i64 0)] from Uk (x:=0) (by decide)))<|ac rfl (VN) ?_
 exact HO aa
theorem oE {α:Type}{d:α}{f:α→Bool}{l:List α}(h:j<l.length) (g:f (l.getD j d)=true):(l.take (j+1)).filter f=(l.take j).filter f++[l.getD j d]:=by
 rw[List.take_add_one,zY,eh (d:=d) h]
 show _++List.filter f [l.getD j d]=_
 rw[List.filter_cons_of_pos g];rfl
theorem wn {α:Type}{d:α}{f:α→Bool}{l:List α}(h:j<l.length) (g:f (l.getD j d)=false):(l.take (j+1)).filter f=(l.take j).filter f:=by
 rw[List.take_add_one,zY,eh (d:=d) h]
 show _++List.filter f [l.getD j d]=_
 rw[List.filter_cons_of_neg (by rw[g];decide)]
 exact l9 _
theorem m8 {α β:Type}{d:α}{f:α→List β}{l:List α}(h:n<l.length):(l.take (n+1)).flatMap f=(l.take n).flatMap f++f (l.getD n d):=by
 rw[List.take_add_one,List.flatMap_append,eh (d:=d) h]
 show _++List.flatMap f [l.getD n d]=_
 rw[List.flatMap_cons,List.flatMap_nil,l9]
def aR (k:Ci) (L:List Ci):List Pt:=L.flatMap (ij k)
def j9 (k:Ci) (L:List Ci) (c:Cv):List Pt:=(aR k L).filter c.on
def jx (k:Ci) (L:List Ci) (c:Cv):List Cv:=q8 c (jS c (j9 k L c))
def a8 (k:Ci) (L:List Ci):List Cv:=(bi k).flatMap (jx k L)
def ws (k:Ci) (L:List Ci) (n:Nat):List Cv:=((bi k).take n).flatMap (jx k L)
theorem vW {k:Ci}: ∀ {L:List Ci},(aR k L).length≤2*L.length
 |[]=>cj _
 |d::L=>by
  have h:=vW (k:=k) (L:=L)
  have h2:=Bc (k:=k) (d:=d)
  unfold aR at h⊢
  rw[List.flatMap_cons,dj,zz]
  omega
section
variable {k:Ci}{L:List Ci}(hk:RK k) (hL: ∀d∈L,RK d) (lL:L.length≤4)
include hk hL
theorem H5: ∀p∈aR k L,GP p:=fun p hp=>by
 obtain⟨d,hd,h⟩:=List.mem_flatMap.1 hp
 exact xU hk (hL d hd) p h
end
theorem LV {k:Ci}:(aR k (L.take n)).length≤2*n:=
 mM vW (by rw[gz];omega)
theorem yy {k:Ci}(lL:L.length≤4):(jx k L c).length≤9:=by
 have h1:(jx k L c).length=(jS c (j9 k L c)).length+1:=Gs _ _
 have h2:(jS c (j9 k L c)).length≤(bt (bc dPt (br c) (j9 k L c)) (j9 k L c).length).length:=rg _ _
 have h3:=yO (S:=bc dPt (br c) (j9 k L c)) (n:=(j9 k L c).length)
 have h4:(j9 k L c).length≤(aR k L).length:=rg _ _
 have h5:=vW (k:=k) (L:=L)
 omega
theorem HS {k:Ci}:0<(jx k L c).length:=by
 have h1:(jx k L c).length=(jS c (j9 k L c)).length+1:=Gs _ _
 omega
theorem GV {k:Ci}: ∀c∈bi k,c.isArc=true:=fun c hc=>by
 rcases dM.1 hc with rfl|hc
 ·rfl
 ·rw[kj.1 hc];rfl
theorem Xj {k:Ci}(hk:GK k) (h0:0<k.q): ∀c∈bi k,CvV c:=fun c hc=>by
 rcases dM.1 hc with rfl|hc
 ·exact T4 hk h0
 ·rw[kj.1 hc];exact Uq hk h0
theorem Ev {k:Ci}(lL:L.length≤4) (hn:n≤2):(ws k L n).length≤9*n:=by
 have hA:=yy (k:=k) (c:=.arc k false (fY k) (fR k)) lL
 have hB:=yy (k:=k) (c:=.arc k false (fR k) (fY k)) lL
 match n,hn with
 |0,_=>exact cj _
 |1,_=>
  show(jx k L (.arc k false (fY k) (fR k))++[]).length≤9
  rw[l9];exact hA
 |2,_=>
  show(jx k L (.arc k false (fY k) (fR k))++(jx k L (.arc k false (fR k) (fY k))++[])).length≤18
  rw[l9,dj];omega
end Go.Proofs.YtegpmhlfjkhjmaaGreat
