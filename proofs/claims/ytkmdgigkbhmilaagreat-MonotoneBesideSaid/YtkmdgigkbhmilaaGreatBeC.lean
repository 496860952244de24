/-Layer 1:integers as values:FromInt64,Sign,Cmp. -/
import Derived.Test.YtkmdgigkbhmilaaGreatBeB
import Derived.Test.YtkmdgigkbhmilaaGreatProg
import Derived.Deep.RegionHeld3
namespace Go.Proofs.YtkmdgigkbhmilaaGreat
open Go.RowKit
variable {cs:Array Value}{neg:Bool}{x:Int}{xs:List Int}{base c g k n:Nat}{A:Option Addr}{row:Option Nat}{t:TypeId}{w w' w0 w2:World}
theorem jH:type_of% @Bool.true_and:=@Bool.true_and
theorem rW:type_of% @Bool.false_and:=@Bool.false_and
def sg (neg:Bool) (v:Int):Int:=if neg then-v else v
theorem gW (v:Int):sg true v= -v:=rfl
theorem du (v:Int):sg false v=v:=rfl
def IsInt (w:World) (neg:Bool) (A:Option Addr) (n c:Nat) (x:Int):Prop:= ∃xs,Sl w A n c xs∧Nrm xs∧x=sg neg (val xs)∧(neg=true→0<n)
def HO (w:World) (x:Int) (e:Ending) (w':World):Prop:= ∃neg A n c,e=.returned (.agg #[.bool neg,.slice A n c])∧IsInt w' neg A n c x∧(∀b off,A=some ⟨b,off,none⟩→w.heap.size≤b)∧Below w.heap.size w w'
section
variable {w w':World}{neg:Bool}{A:Option Addr}{n c:Nat}{x:Int}{xs:List Int}
theorem IsInt.below (h:IsInt w neg A n c x) (hb:Below w.heap.size w w'):IsInt w' neg A n c x:=by
 obtain⟨xs,h1,h2⟩:=h
 exact⟨xs,h1.below hb,h2⟩
theorem iK (h:Sl w A n c xs) (neg:Bool):IsInt w (neg&&decide (0<(trm xs).length)) A (trm xs).length (trm xs).length (sg neg (val xs)):=by
 have ht:=h.trm
 refine⟨trm xs,⟨ht.1,cK _,nn ht.2.1 ht.2.2.1,ht.2.2.2⟩,sO xs,?_,?_⟩
 ·rw[jc]
  cases neg
  ·rfl
  ·by_cases h0:0<(trm xs).length
   ·grind
   ·have e:trm xs=[]:=lJ.1 (by omega)
    have e2:val xs=0:=by rw[←jc,e];rfl
    rw[e2];simp[sg]
 grind
theorem IsInt.le (h:IsInt w neg A n c x) (h1:x<pw k) (h2: -x<pw k):n≤k:=by
 obtain⟨xs,hs,hn,hx,_⟩:=h
 rw[←hs.len]
 refine hn.len hs.2.2.2 ?_
 cases neg
 ·rw[du] at hx;omega
 ·rw[gW] at hx;omega
theorem IsInt.sign (h:IsInt w neg A n c x):(neg=true→x<0)∧(neg=false→0<n→0<x)∧(n=0→x=0)∧(x=0→n=0):=by
 obtain⟨xs,hs,hn,hx,hp⟩:=h
 have hl:=hs.len
 have hpos:0<n→0<val xs:=by
  intro h0
  have h1:=hn.ge hs.2.2.2 (by intro e;subst e;simp at hl;omega)
  have:=dw (xs.length-1)
  omega
 have hz:n=0→val xs=0:=by
  intro h0
  have e:xs=[]:=by grind
  rw[e];rfl
 refine⟨fun h=>?_,fun h h0=>?_,fun h=>?_,fun h=>?_⟩
 ·subst h;rw[gW] at hx;have:=hpos (hp rfl);omega
 ·subst h;rw[du] at hx;have:=hpos h0;omega
 ·have:=hz h;rw[hx,this];cases neg<;>rfl
 ·rcases jZ n with h1|h1
  ·grind
  ·have:=hpos h1
   cases neg
   ·rw[du] at hx;omega
   ·rw[gW] at hx;omega
end
theorem Bk.set (h:Bk w g t cs) (i:Nat) (v:Value):Bk (w.setCell ⟨g,i,none⟩ v) g t (cs.setIfInBounds i v):=heap_setCell_same w g i cs t v h
theorem Ow.apart (h:Ow w base (.slice A n c) n xs) (hg:g<base): ∀b off,A=some ⟨b,off,none⟩→some b≠some g:=by
 intro b off e
 have:=IT h.1 b (by rw[e];simp[Value.ownBlock])
 grind
theorem Ow.fresh (h:Ow w base (.slice A n c) n xs) (hk:k≤base): ∀b off,A=some ⟨b,off,none⟩→k≤b:=by
 intro b off e
 have:=IT h.1 b (by rw[e];simp[Value.ownBlock])
 omega
structure Boxed2 (w w2:World) (g:Nat) (a b:Value):Prop where
 c0:(w2.setCell ⟨g,0,none⟩ a).cell? ⟨g,0,none⟩=some a
 c1:((w2.setCell ⟨g,0,none⟩ a).setCell ⟨g,1,none⟩ b).cell? ⟨g,1,none⟩=some b
 o0:w2.cell? ⟨g,0,none⟩≠none
 f0:w2.frozen? ⟨g,0,none⟩=false
 f1:w2.frozen? ⟨g,1,none⟩=false
 gr:w2.grownBy ((w2.setCell ⟨g,0,none⟩ a).setCell ⟨g,1,none⟩ b) (some g)
 be:Below w.heap.size w ((w2.setCell ⟨g,0,none⟩ a).setCell ⟨g,1,none⟩ b)
theorem tv {p q:Value}(h:Bk w2 g t #[p,q]) (hb:Below w.heap.size w w2) (hg:w.heap.size≤g) (a b:Value):Boxed2 w w2 g a b:=by
 have h0:=h.set 0 a
 have h1:=h0.set 1 b
 have g1: ∀(w:World) (i:Nat) (v:Value),w.grownBy (w.setCell ⟨g,i,none⟩ v) (some g):=fun w i v=>⟨rfl,rfl,rfl,by simp,fun k _ hk=>heap_setCell_other w ⟨g,i,none⟩ k v (fun e=>hk (by simp[e]))⟩
 have gr:=vj (g1 w2 0 a) (g1 _ 1 b)
 exact⟨(h0.cell 0).trans rfl,(h1.cell 1).trans rfl,by rw[h.cell 0];simp,h.frozen 0,h.frozen 1,gr,hb.grown gr hb.size (by intro k hk;injection hk with hk;omega)⟩
theorem IsInt.grown (h:IsInt w neg A n c x) (hg:w.grownBy w' row) (hne: ∀b off,A=some ⟨b,off,none⟩→some b≠row):IsInt w' neg A n c x:=by
 obtain⟨xs,h1,h2⟩:=h
 exact⟨xs,h1.grown hg hne,h2⟩
theorem QD (A B:Option Addr) (n c m d:Nat) (xs ys:List Int) (w:World) (ha:Sl w A n c xs) (hb:Sl w B m d ys) (hn:n≤100000000) (hm:m≤100000000):
 Calls Tryz.prog 270 #[.slice A n c,.slice B m d] w fun e w'=> ∃k,DI w k (val xs+val ys) e w':=by
 by_cases h:m≤n
 ·exact((DH A B n c m d xs ys w ha hb hn h).1).mono fun e w' h=>⟨n+1,h⟩
 ·refine((DH B A m d n c ys xs w hb ha hm (by omega)).2 (by omega)).mono fun e w' h=>⟨m+1,?_⟩
  rw[Int.add_comm];exact h
set_option maxHeartbeats 1000000 in
set_option maxRecDepth 10000 in
theorem Ig (x:Int) (w:World) (h0: -9223372036854775808≤x) (h1:x≤9223372036854775807):Calls Tryz.prog 127 #[.int .i64 x] w (HO w x):=by
 by_cases hx:x<0
 ·have e1:IntKind.u64.wrap (-IntKind.u64.wrap x)= -x:=by unfold IntKind.wrap;simp[IntKind.bits,IntKind.signed];omega
  go_enter Tryz.func127,Tryz.ntmps127
  go_wp2_with fail
  refine(zu (-x) _ (by omega) (by omega) (by omega)).mono ?_
  rintro e w1 ⟨B,d,ys,rfl,hown,hval,hbel⟩
  have hb1:=((fu w.heap.size w).alloc (cK _) (.cells #[.bool false,.slice none 0 0] 33)).trans (hbel.mono (by simp))
  go_wp2_with fail
  refine(kK true B _ d ys _ hown.sl).mono ?_
  rintro e w2 ⟨rfl,hbel2⟩
  have hb2:=hb1.trans (hbel2.mono hb1.size)
  have hi:=(iK hown.sl true).below hbel2
  rw[hval,gW,Int.neg_neg] at hi
  have hbk:Bk w2 w.heap.size 33 #[.bool false,.slice none 0 0]:=((Bk.new w 33 #[.bool false,.slice none 0 0]).below hbel).below hbel2
  have hc0:w2.cell? ⟨w.heap.size,0,none⟩=some (.bool false):=(hbk.cell 0).trans rfl
  have hc1:w2.cell? ⟨w.heap.size,1,none⟩=some (.slice none 0 0):=(hbk.cell 1).trans rfl
  have hne:=hown.apart (g:=w.heap.size) (by simp)
  have hfr:=hown.fresh (k:=w.heap.size) (by simp)
  have Hb:=tv hbk hb2 (cK _)
  generalize (trm ys).length=l at*
  obtain⟨k0,k1,_,f0,f1,gr,be⟩:=Hb (.bool (true&&decide (0<l))) (.slice B l l)
  have hi2:=hi.grown gr hne
  clear e1 hbel hbel2 hown Hb hi gr hb2 hb1 hbk
  simp only[jH] at*
  go_wp2
  refine bodyPost_ret (by simp[results,Tryz.results127,go_sem,k0,k1];try rfl) rfl ?_
  exact⟨_,_,_,_,rfl,hi2,hfr,be⟩
 ·have e1:IntKind.u64.wrap x=x:=by unfold IntKind.wrap;simp[IntKind.bits,IntKind.signed];omega
  go_enter Tryz.func127,Tryz.ntmps127
  go_wp2_with fail
  refine(zu (x) _ (by omega) (by omega) (by omega)).mono ?_
  rintro e w1 ⟨B,d,ys,rfl,hown,hval,hbel⟩
  have hb1:=((fu w.heap.size w).alloc (cK _) (.cells #[.bool false,.slice none 0 0] 33)).trans (hbel.mono (by simp))
  go_wp2_with fail
  refine(kK false B _ d ys _ hown.sl).mono ?_
  rintro e w2 ⟨rfl,hbel2⟩
  have hb2:=hb1.trans (hbel2.mono hb1.size)
  have hi:=(iK hown.sl false).below hbel2
  rw[hval,du] at hi
  have hbk:Bk w2 w.heap.size 33 #[.bool false,.slice none 0 0]:=((Bk.new w 33 #[.bool false,.slice none 0 0]).below hbel).below hbel2
  have hc0:w2.cell? ⟨w.heap.size,0,none⟩=some (.bool false):=(hbk.cell 0).trans rfl
  have hc1:w2.cell? ⟨w.heap.size,1,none⟩=some (.slice none 0 0):=(hbk.cell 1).trans rfl
  have hne:=hown.apart (g:=w.heap.size) (by simp)
  have hfr:=hown.fresh (k:=w.heap.size) (by simp)
  have Hb:=tv hbk hb2 (cK _)
  generalize (trm ys).length=l at*
  obtain⟨k0,k1,_,f0,f1,gr,be⟩:=Hb (.bool (false&&decide (0<l))) (.slice B l l)
  have hi2:=hi.grown gr hne
  clear e1 hbel hbel2 hown Hb hi gr hb2 hb1 hbk
  simp only[rW] at*
  go_wp2
  refine bodyPost_ret (by simp[results,Tryz.results127,go_sem,k0,k1];try rfl) rfl ?_
  exact⟨_,_,_,_,rfl,hi2,hfr,be⟩
theorem Oh (neg:Bool) (A:Option Addr) (n c:Nat) (x:Int) (w:World) (h:IsInt w neg A n c x):
 Calls Tryz.prog 155 #[.agg #[.bool neg,.slice A n c]] w fun e w'=>e=.returned (.int .i64 (eL x 0))∧Below w.heap.size w w':=by
 obtain⟨s1,s2,s3,s4⟩:=h.sign
 cases neg
 ·rcases jZ n with h0|h0
  ·subst h0
   have e:=s3 rfl
   subst e
   clear s1 s2 s3 s4 h
   go_enter Tryz.func155,Tryz.ntmps155
   go_wp2
   go_ret
   exact⟨rfl,(fu _ _).alloc (cK _) _⟩
  ·have e:=iq (fF (s2 rfl h0))
   clear s1 s2 s3 s4 h
   go_enter Tryz.func155,Tryz.ntmps155
   go_wp2
   go_ret
   exact⟨by rw[e.out];rfl,(fu _ _).alloc (cK _) _⟩
 ·have e:=iq (fy (s1 rfl))
  clear s1 s2 s3 s4 h
  go_enter Tryz.func155,Tryz.ntmps155
  go_wp2
  go_ret
  exact⟨by rw[e.out];rfl,(fu _ _).alloc (cK _) _⟩
theorem HT (a b:Int):eL (-a) (-b)=eL b a:=by
 unfold eL
 by_cases h1:b<a
 ·grind
 grind
theorem IsInt.nonneg (h:IsInt w false A n c x):0≤x:=by
 obtain⟨xs,hs,_,hx,_⟩:=h
 rw[hx,du];exact dg hs.2.2.2
set_option maxHeartbeats 1000000 in
set_option maxRecDepth 10000 in
theorem RE (na nb:Bool) (A B:Option Addr) (n c m d:Nat) (x y:Int) (w:World) (ha:IsInt w na A n c x) (hb:IsInt w nb B m d y):
 Calls Tryz.prog 204 #[.agg #[.bool na,.slice A n c],.agg #[.bool nb,.slice B m d]] w fun e w'=>e=.returned (.int .i64 (eL x y))∧Below w.heap.size w w':=by
 have hbel:Below w.heap.size w ((w.alloc (.cells #[.bool na,.slice A n c] 33)).alloc (.cells #[.bool nb,.slice B m d] 33)):=((fu _ _).alloc (cK _) _).alloc (by simp) _
 cases na<;>cases nb
 ·obtain⟨xs,hs,_,rfl,_⟩:=ha
  obtain⟨ys,ht,_,rfl,_⟩:=hb
  rw[du,du]
  go_enter Tryz.func204,Tryz.ntmps204
  go_wp2_with fail
  refine(nU A B n c m d xs ys _ (hs.below hbel) (ht.below hbel)).mono ?_
  rintro e w1 ⟨rfl,hb1⟩
  go_wp2
  go_ret
  exact⟨rfl,hbel.trans (hb1.mono (by simp;omega))⟩
 ·have e:=iq (fF (show y<x by have:=ha.nonneg;have:=hb.sign.1 rfl;omega))
  clear ha hb
  go_enter Tryz.func204,Tryz.ntmps204
  go_wp2
  go_ret
  exact⟨by rw[e.out];rfl,hbel⟩
 ·have e:=iq (fy (show x<y by have:=hb.nonneg;have:=ha.sign.1 rfl;omega))
  clear ha hb
  go_enter Tryz.func204,Tryz.ntmps204
  go_wp2
  go_ret
  exact⟨by rw[e.out];rfl,hbel⟩
 ·obtain⟨xs,hs,_,rfl,_⟩:=ha
  obtain⟨ys,ht,_,rfl,_⟩:=hb
  rw[gW,gW,HT]
  go_enter Tryz.func204,Tryz.ntmps204
  go_wp2_with fail
  refine(nU B A m d n c ys xs _ (ht.below hbel) (hs.below hbel)).mono ?_
  rintro e w1 ⟨rfl,hb1⟩
  go_wp2
  go_ret
  exact⟨rfl,hbel.trans (hb1.mono (by simp;omega))⟩
theorem W4 (a b:Bool) (u v:Int):sg (a !=b) (u*v)=sg a u*sg b v:=by cases a<;>cases b<;>simp[sg,Int.neg_mul,Int.mul_neg]
theorem Xm (a:Bool) (u v:Int):sg a (u+v)=sg a u+sg a v:=by cases a<;>simp[sg]<;>omega
def vZ (w:World) (a b:Value) (c d:Value):World:=((w.alloc (.cells #[a,b] 33)).alloc (.cells #[c,d] 33)).alloc (.cells #[.bool false,.slice none 0 0] 33)
set_option maxHeartbeats 1000000 in
set_option maxRecDepth 10000 in
theorem Od (na nb:Bool) (A B:Option Addr) (n c m d:Nat) (x y:Int) (w:World) (ha:IsInt w na A n c x) (hb:IsInt w nb B m d y) (hn:n≤100000000) (hm:m≤100000000):
 Calls Tryz.prog 121 #[.agg #[.bool na,.slice A n c],.agg #[.bool nb,.slice B m d]] w (HO w (x*y)):=by
 obtain⟨xs,hs,_,rfl,_⟩:=ha
 obtain⟨ys,ht,_,rfl,_⟩:=hb
 rw[←W4]
 obtain⟨s,hsn⟩: ∃s,(na !=nb)=s:=⟨_,rfl⟩
 rw[hsn]
 replace hsn:(!(na==nb))=s:=hsn
 have hbel:Below w.heap.size w (vZ w (.bool na) (.slice A n c) (.bool nb) (.slice B m d)):=(((fu _ _).alloc (cK _) _).alloc (by simp) _).alloc (by simp;omega) _
 have k1:Bk (vZ w (.bool na) (.slice A n c) (.bool nb) (.slice B m d)) w.heap.size 33 #[.bool na,.slice A n c]:=((Bk.new w 33 _).alloc _).alloc _
 have k2:Bk (vZ w (.bool na) (.slice A n c) (.bool nb) (.slice B m d)) (w.heap.size+1) 33 #[.bool nb,.slice B m d]:=by
  have:=(Bk.new (w.alloc (.cells #[.bool na,.slice A n c] 33)) 33 #[.bool nb,.slice B m d]).alloc (.cells #[.bool false,.slice none 0 0] 33)
  simpa [vZ] using this
 have k3:Bk (vZ w (.bool na) (.slice A n c) (.bool nb) (.slice B m d)) (w.heap.size+1+1) 33 #[.bool false,.slice none 0 0]:=by
  have:=Bk.new ((w.alloc (.cells #[.bool na,.slice A n c] 33)).alloc (.cells #[.bool nb,.slice B m d] 33)) 33 #[.bool false,.slice none 0 0]
  simpa [vZ] using this
 have hsz:(vZ w (.bool na) (.slice A n c) (.bool nb) (.slice B m d)).heap.size=w.heap.size+3:=by simp[vZ]
 replace hs:=hs.below hbel
 replace ht:=ht.below hbel
 go_enter Tryz.func121,Tryz.ntmps121
 go_wp2_with fail
 rw[show((w.alloc (.cells #[.bool na,.slice A n c] 33)).alloc (.cells #[.bool nb,.slice B m d] 33)).alloc (.cells #[.bool false,.slice none 0 0] 33)=vZ w (.bool na) (.slice A n c) (.bool nb) (.slice B m d) from rfl]
 generalize vZ w (.bool na) (.slice A n c) (.bool nb) (.slice B m d)=w0 at*
 have j1:Bk w0.drew w.heap.size 33 #[.bool na,.slice A n c]:=k1
 have j2:Bk w0.drew (w.heap.size+1) 33 #[.bool nb,.slice B m d]:=k2
 have j3:Bk w0.drew (w.heap.size+1+1) 33 #[.bool false,.slice none 0 0]:=k3
 have hs0:Sl w0.drew A n c xs:=hs
 have ht0:Sl w0.drew B m d ys:=ht
 have hbd:Below w.heap.size w w0.drew:=hbel.drew
 have hq0:Below w0.heap.size w0.drew w0.drew:=fu _ _
 have f1:w0.drew.cell? ⟨w.heap.size,0,none⟩=some (.bool na):=(j1.cell 0).trans rfl
 have f2:w0.drew.cell? ⟨w.heap.size,1,none⟩=some (.slice A n c):=(j1.cell 1).trans rfl
 have f3:w0.drew.cell? ⟨w.heap.size+1,0,none⟩=some (.bool nb):=(j2.cell 0).trans rfl
 have f4:w0.drew.cell? ⟨w.heap.size+1,1,none⟩=some (.slice B m d):=(j2.cell 1).trans rfl
 clear hs ht k1 k2 k3
 go_region_held3 (fun w'=>w'.cell? ⟨w.heap.size,0,none⟩=some (.bool na)∧w'.cell? ⟨w.heap.size,1,none⟩=some (.slice A n c)∧w'.cell? ⟨w.heap.size+1,0,none⟩=some (.bool nb)∧w'.cell? ⟨w.heap.size+1,1,none⟩=some (.slice B m d))
  (first|exact⟨f1,f2,f3,f4⟩|exact⟨((j1.below hq0).cell 0).trans rfl,((j1.below hq0).cell 1).trans rfl,((j2.below hq0).cell 0).trans rfl,((j2.below hq0).cell 1).trans rfl⟩|exact⟨gr.cell (((j1.below hq0).cell 0).trans rfl) (by simp;omega),gr.cell (((j1.below hq0).cell 1).trans rfl) (by simp;omega),gr.cell (((j2.below hq0).cell 0).trans rfl) (by simp),gr.cell (((j2.below hq0).cell 1).trans rfl) (by simp)⟩)
  (first
   |(go_at_call 208;refine(zW A B n c m d xs ys _ (hs0.below hq0) (ht0.below hq0) hn hm).mono ?_;rintro e w4 ⟨A4,c4,zs,rfl,hown,hval,hb4⟩;replace hown:=hown.le (b:=w0.heap.size) hq0.size;replace hq0:=hq0.trans (hb4.mono hq0.size))
   |(go_at_call 207;refine(kK s A4 _ c4 zs _ hown.sl).mono ?_;rintro e w5 ⟨rfl,hb5⟩;have hi:=(iK hown.sl s).below hb5;replace hq0:=hq0.trans (hb5.mono hq0.size);have hk3:=j3.below hq0;have hc0:=(hk3.cell 0).trans rfl;have hc1:=(hk3.cell 1).trans rfl;have hne:=hown.apart (g:=w.heap.size+1+1) (by omega);have hfr:=hown.fresh (k:=w.heap.size) (by omega);generalize (trm zs).length=l at*;obtain⟨z0,z1,_,g0,g1,gr,be⟩:=tv hk3 (hbd.trans (hq0.mono (by omega))) (by omega) (.bool (s&&decide (0<l))) (.slice A4 l l)))
 have hi2:=hi.grown gr hne
 rw[hval] at hi2
 clear hi gr hown hq0 hb4 hb5 hk3 j1 j2 j3 hs0 ht0 f1 f2 f3 f4 hbd hbel
 go_wp2
 refine bodyPost_ret (by simp[results,Tryz.results121,go_sem,z0,z1];try rfl) rfl ?_
 exact⟨_,_,_,_,rfl,hi2,hfr,be⟩
set_option maxHeartbeats 1000000 in
set_option maxRecDepth 10000 in
theorem Ns (na nb:Bool) (A B:Option Addr) (n c m d:Nat) (x y:Int) (w:World) (ha:IsInt w na A n c x) (hb:IsInt w nb B m d y) (hab:na=nb) (hn:n≤100000000) (hm:m≤100000000):
 Calls Tryz.prog 209 #[.agg #[.bool na,.slice A n c],.agg #[.bool nb,.slice B m d]] w (HO w (x+y)):=by
 obtain⟨xs,hs,_,rfl,_⟩:=ha
 obtain⟨ys,ht,_,rfl,_⟩:=hb
 subst hab
 rw[←Xm]
 have hsn:(na==na)=true:=by simp
 have hbel:Below w.heap.size w (vZ w (.bool na) (.slice A n c) (.bool na) (.slice B m d)):=(((fu _ _).alloc (cK _) _).alloc (by simp) _).alloc (by simp;omega) _
 have k1:Bk (vZ w (.bool na) (.slice A n c) (.bool na) (.slice B m d)) w.heap.size 33 #[.bool na,.slice A n c]:=((Bk.new w 33 _).alloc _).alloc _
 have k2:Bk (vZ w (.bool na) (.slice A n c) (.bool na) (.slice B m d)) (w.heap.size+1) 33 #[.bool na,.slice B m d]:=by
  have:=(Bk.new (w.alloc (.cells #[.bool na,.slice A n c] 33)) 33 #[.bool na,.slice B m d]).alloc (.cells #[.bool false,.slice none 0 0] 33)
  simpa [vZ] using this
 have k3:Bk (vZ w (.bool na) (.slice A n c) (.bool na) (.slice B m d)) (w.heap.size+1+1) 33 #[.bool false,.slice none 0 0]:=by
  have:=Bk.new ((w.alloc (.cells #[.bool na,.slice A n c] 33)).alloc (.cells #[.bool na,.slice B m d] 33)) 33 #[.bool false,.slice none 0 0]
  simpa [vZ] using this
 have hsz:(vZ w (.bool na) (.slice A n c) (.bool na) (.slice B m d)).heap.size=w.heap.size+3:=by simp[vZ]
 replace hs:=hs.below hbel
 replace ht:=ht.below hbel
 go_enter Tryz.func209,Tryz.ntmps209
 go_wp2_with fail
 rw[show((w.alloc (.cells #[.bool na,.slice A n c] 33)).alloc (.cells #[.bool na,.slice B m d] 33)).alloc (.cells #[.bool false,.slice none 0 0] 33)=vZ w (.bool na) (.slice A n c) (.bool na) (.slice B m d) from rfl]
 generalize vZ w (.bool na) (.slice A n c) (.bool na) (.slice B m d)=w0 at*
 have j1:Bk w0.drew w.heap.size 33 #[.bool na,.slice A n c]:=k1
 have j2:Bk w0.drew (w.heap.size+1) 33 #[.bool na,.slice B m d]:=k2
 have j3:Bk w0.drew (w.heap.size+1+1) 33 #[.bool false,.slice none 0 0]:=k3
 have hs0:Sl w0.drew A n c xs:=hs
 have ht0:Sl w0.drew B m d ys:=ht
 have hbd:Below w.heap.size w w0.drew:=hbel.drew
 have hq0:Below w0.heap.size w0.drew w0.drew:=fu _ _
 have f1:w0.drew.cell? ⟨w.heap.size,0,none⟩=some (.bool na):=(j1.cell 0).trans rfl
 have f2:w0.drew.cell? ⟨w.heap.size,1,none⟩=some (.slice A n c):=(j1.cell 1).trans rfl
 have f3:w0.drew.cell? ⟨w.heap.size+1,0,none⟩=some (.bool na):=(j2.cell 0).trans rfl
 have f4:w0.drew.cell? ⟨w.heap.size+1,1,none⟩=some (.slice B m d):=(j2.cell 1).trans rfl
 clear hs ht k1 k2 k3
 go_region_held3 (fun w'=>w'.cell? ⟨w.heap.size,0,none⟩=some (.bool na)∧w'.cell? ⟨w.heap.size,1,none⟩=some (.slice A n c)∧w'.cell? ⟨w.heap.size+1,0,none⟩=some (.bool na)∧w'.cell? ⟨w.heap.size+1,1,none⟩=some (.slice B m d))
  (first|exact⟨f1,f2,f3,f4⟩|exact⟨((j1.below hq0).cell 0).trans rfl,((j1.below hq0).cell 1).trans rfl,((j2.below hq0).cell 0).trans rfl,((j2.below hq0).cell 1).trans rfl⟩|exact⟨gr.cell (((j1.below hq0).cell 0).trans rfl) (by simp;omega),gr.cell (((j1.below hq0).cell 1).trans rfl) (by simp;omega),gr.cell (((j2.below hq0).cell 0).trans rfl) (by simp),gr.cell (((j2.below hq0).cell 1).trans rfl) (by simp)⟩)
  (first
   |(go_at_call 270;refine(QD A B n c m d xs ys _ (hs0.below hq0) (ht0.below hq0) hn hm).mono ?_;rintro e w4 ⟨k4,A4,c4,zs,rfl,hown,hval,hb4⟩;replace hown:=hown.le (b:=w0.heap.size) hq0.size;replace hq0:=hq0.trans (hb4.mono hq0.size))
   |(go_at_call 207;refine(kK na A4 _ c4 zs _ hown.sl).mono ?_;rintro e w5 ⟨rfl,hb5⟩;have hi:=(iK hown.sl na).below hb5;replace hq0:=hq0.trans (hb5.mono hq0.size);have hk3:=j3.below hq0;have hc0:=(hk3.cell 0).trans rfl;have hc1:=(hk3.cell 1).trans rfl;have hne:=hown.apart (g:=w.heap.size+1+1) (by omega);have hfr:=hown.fresh (k:=w.heap.size) (by omega);generalize (trm zs).length=l at*;obtain⟨z0,z1,_,g0,g1,gr,be⟩:=tv hk3 (hbd.trans (hq0.mono (by omega))) (by omega) (.bool (na&&decide (0<l))) (.slice A4 l l)))
 have hi2:=hi.grown gr hne
 rw[hval] at hi2
 clear hi gr hown hq0 hb4 hb5 hk3 j1 j2 j3 hs0 ht0 f1 f2 f3 f4 hbd hbel
 go_wp2
 refine bodyPost_ret (by simp[results,Tryz.results209,go_sem,z0,z1];try rfl) rfl ?_
 exact⟨_,_,_,_,rfl,hi2,hfr,be⟩
theorem Pw (a b:Bool) (h:(a==b)=false) (u v:Int):sg a (u-v)=sg a u+sg b v:=by cases a<;>cases b<;>simp[sg] at h⊢ <;>omega
theorem Sl.old (h:Sl w A n c xs): ∀b off,A=some ⟨b,off,none⟩→0<n→b<w.heap.size:=by
 intro b off e h0
 obtain⟨b',off',e',hlt,_⟩:=h.1.2 h0
 grind
theorem Sl.grown' (h:Sl w A n c xs) (hg:w.grownBy w' row) (hne: ∀b off,A=some ⟨b,off,none⟩→0<n→some b≠row):Sl w' A n c xs:=by
 refine⟨⟨h.1.1,fun hn=>?_⟩,h.2⟩
 obtain⟨b,off,e,hlt,hc⟩:=h.1.2 hn
 exact⟨b,off,e,rA hlt hg.size,fun j u hu=>hg.cell (hc j u hu) (hne b off e hn)⟩
theorem kY (w:World) (g i:Nat) (v:Value):w.grownBy (w.setCell ⟨g,i,none⟩ v) (some g):=⟨rfl,rfl,rfl,by simp,fun k _ hk=>heap_setCell_other w ⟨g,i,none⟩ k v (fun e=>hk (by simp[e]))⟩
theorem Bk.other {g':Nat}(h:Bk w g t cs) (hne:g≠g') (i:Nat) (v:Value):Bk (w.setCell ⟨g',i,none⟩ v) g t cs:=h.grown (kY w g' i v) (by simpa using hne)
def IA (w:World) (g g':Nat) (a b c d:Value):World:=(((w.setCell ⟨g,0,none⟩ c).setCell ⟨g,1,none⟩ d).setCell ⟨g',0,none⟩ a).setCell ⟨g',1,none⟩ b
section
variable {w:World}{g g':Nat}{a b c d:Value}{t:TypeId}
theorem aaq (h:Bk w g t #[a,b]) (hne:g≠g'):Bk (IA w g g' a b c d) g t #[c,d]:=(((h.set 0 c).set 1 d).other hne 0 a).other hne 1 b
theorem ZQ (h:Bk w g' t #[c,d]) (hne:g'≠g):Bk (IA w g g' a b c d) g' t #[a,b]:=(((h.other hne 0 c).other hne 1 d).set 0 a).set 1 b
theorem Zn (h:Bk w k t cs) (h1:k≠g) (h2:k≠g'):Bk (IA w g g' a b c d) k t cs:=(((h.other h1 0 c).other h1 1 d).other h2 0 a).other h2 1 b
theorem MN (h:Below w0.heap.size w0 w) (h1:w0.heap.size≤g) (h2:w0.heap.size≤g'):Below w0.heap.size w0 (IA w g g' a b c d):=by
 have e: ∀(x:Nat),w0.heap.size≤x→ ∀k,some x=some k→w0.heap.size≤k:=by grind
 have b1:=h.grown (kY w g 0 c) h.size (e g h1)
 have b2:=b1.grown (kY _ g 1 d) b1.size (e g h1)
 have b3:=b2.grown (kY _ g' 0 a) b2.size (e g' h2)
 exact b3.grown (kY _ g' 1 b) b3.size (e g' h2)
theorem Qe {e:Nat}(h:Sl w A n e xs) (h1: ∀b off,A=some ⟨b,off,none⟩→0<n→b<g∧b<g'):Sl (IA w g g' a b c d) A n e xs:=by
 have n1: ∀b off,A=some ⟨b,off,none⟩→0<n→some b≠some g:=fun b off e h0=>by have:=h1 b off e h0;simp;omega
 have n2: ∀b off,A=some ⟨b,off,none⟩→0<n→some b≠some g':=fun b off e h0=>by have:=h1 b off e h0;simp;omega
 exact(((h.grown' (kY w g 0 c) n1).grown' (kY _ g 1 d) n1).grown' (kY _ g' 0 a) n2).grown' (kY _ g' 1 b) n2
theorem NS:(IA w g g' a b c d).heap.size=w.heap.size:=by simp[IA]
end
set_option maxHeartbeats 2000000 in
set_option maxRecDepth 10000 in
theorem JO (na nb:Bool) (A B:Option Addr) (n c m d:Nat) (x y:Int) (w:World) (ha:IsInt w na A n c x) (hb:IsInt w nb B m d y) (hab:(na==nb)=false) (hn:n≤100000000) (hm:m≤100000000):
 Calls Tryz.prog 209 #[.agg #[.bool na,.slice A n c],.agg #[.bool nb,.slice B m d]] w (HO w (x+y)):=by
 obtain⟨xs,hs,_,rfl,_⟩:=ha
 obtain⟨ys,ht,_,rfl,_⟩:=hb
 obtain⟨t,htt⟩: ∃t,eL (val xs) (val ys)=t:=⟨_,rfl⟩
 have oldA:=hs.old
 have oldB:=ht.old
 have hbel:Below w.heap.size w (vZ w (.bool na) (.slice A n c) (.bool nb) (.slice B m d)):=(((fu _ _).alloc (cK _) _).alloc (by simp) _).alloc (by simp;omega) _
 have k1:Bk (vZ w (.bool na) (.slice A n c) (.bool nb) (.slice B m d)) w.heap.size 33 #[.bool na,.slice A n c]:=((Bk.new w 33 _).alloc _).alloc _
 have k2:Bk (vZ w (.bool na) (.slice A n c) (.bool nb) (.slice B m d)) (w.heap.size+1) 33 #[.bool nb,.slice B m d]:=by
  have:=(Bk.new (w.alloc (.cells #[.bool na,.slice A n c] 33)) 33 #[.bool nb,.slice B m d]).alloc (.cells #[.bool false,.slice none 0 0] 33)
  simpa [vZ] using this
 have k3:Bk (vZ w (.bool na) (.slice A n c) (.bool nb) (.slice B m d)) (w.heap.size+1+1) 33 #[.bool false,.slice none 0 0]:=by
  have:=Bk.new ((w.alloc (.cells #[.bool na,.slice A n c] 33)).alloc (.cells #[.bool nb,.slice B m d] 33)) 33 #[.bool false,.slice none 0 0]
  simpa [vZ] using this
 have hsz:(vZ w (.bool na) (.slice A n c) (.bool nb) (.slice B m d)).heap.size=w.heap.size+3:=by simp[vZ]
 replace hs:=hs.below hbel
 replace ht:=ht.below hbel
 have Hx:=iq (Pw na nb hab (val xs) (val ys))
 have Hy:=iq (Pw nb na (by cases na<;>cases nb<;>simp at hab⊢) (val ys) (val xs))
 go_enter Tryz.func209,Tryz.ntmps209
 go_wp2_with fail
 refine(nU A B n c m d xs ys (vZ w (.bool na) (.slice A n c) (.bool nb) (.slice B m d)) hs ht).mono ?_
 rintro e w1 ⟨rfl,hb1⟩
 rw[htt]
 replace hs:=hs.below hb1
 replace ht:=ht.below hb1
 replace k1:=k1.below hb1
 replace k2:=k2.below hb1
 replace k3:=k3.below hb1
 have hs1:w.heap.size+3≤w1.heap.size:=by have:=hb1.size;omega
 replace hbel:=hbel.trans (hb1.mono (by omega))
 clear hb1 hsz
 by_cases htn:t<0
 ·have hle:val xs≤val ys:=by
   unfold eL at htt
   split at htt
   ·omega
   ·split at htt<;>omega
  clear htt
  have c10:=(k1.cell 0).trans rfl
  have c11:=(k1.cell 1).trans rfl
  have c20:=(k2.cell 0).trans rfl
  have c21:=(k2.cell 1).trans rfl
  have z10:=k1.frozen 0
  have z11:=k1.frozen 1
  have z20:=k2.frozen 0
  have z21:=k2.frozen 1
  have hs2:Sl (IA w1 w.heap.size (w.heap.size+1) (.bool na) (.slice A n c) (.bool nb) (.slice B m d)) A n c xs:=Qe hs (fun b off e h0=>by have:=oldA b off e h0;omega)
  have ht2:Sl (IA w1 w.heap.size (w.heap.size+1) (.bool na) (.slice A n c) (.bool nb) (.slice B m d)) B m d ys:=Qe ht (fun b off e h0=>by have:=oldB b off e h0;omega)
  have k12:Bk (IA w1 w.heap.size (w.heap.size+1) (.bool na) (.slice A n c) (.bool nb) (.slice B m d)) w.heap.size 33 #[.bool nb,.slice B m d]:=aaq k1 (by omega)
  have k22:Bk (IA w1 w.heap.size (w.heap.size+1) (.bool na) (.slice A n c) (.bool nb) (.slice B m d)) (w.heap.size+1) 33 #[.bool na,.slice A n c]:=ZQ k2 (by omega)
  have k32:Bk (IA w1 w.heap.size (w.heap.size+1) (.bool na) (.slice A n c) (.bool nb) (.slice B m d)) (w.heap.size+1+1) 33 #[.bool false,.slice none 0 0]:=Zn k3 (by omega) (by omega)
  have hbel2:Below w.heap.size w (IA w1 w.heap.size (w.heap.size+1) (.bool na) (.slice A n c) (.bool nb) (.slice B m d)):=MN hbel (cK _) (by omega)
  have hs12:w.heap.size+3≤(IA w1 w.heap.size (w.heap.size+1) (.bool na) (.slice A n c) (.bool nb) (.slice B m d)).heap.size:=by rw[NS];exact hs1
  clear k1 k2 k3 hs ht hbel hs1
  go_wp2_with fail
  rw[show(((w1.setCell ⟨w.heap.size,0,none⟩ (.bool nb)).setCell ⟨w.heap.size,1,none⟩ (.slice B m d)).setCell ⟨w.heap.size+1,0,none⟩ (.bool na)).setCell ⟨w.heap.size+1,1,none⟩ (.slice A n c)=IA w1 w.heap.size (w.heap.size+1) (.bool na) (.slice A n c) (.bool nb) (.slice B m d) from rfl]
  generalize IA w1 w.heap.size (w.heap.size+1) (.bool na) (.slice A n c) (.bool nb) (.slice B m d)=w6 at*
  clear c10 c11 c20 c21 z10 z11 z20 z21
  have hs:=hs2
  have ht:=ht2
  have k1:=k12
  have k2:=k22
  have k3:=k32
  have hbel:=hbel2
  have hs1:=hs12
  clear hs2 ht2 k12 k22 k32 hbel2 hs12
  focus
   have j1:Bk w6.drew w.heap.size 33 #[.bool nb,.slice B m d]:=k1
   have j2:Bk w6.drew (w.heap.size+1) 33 #[.bool na,.slice A n c]:=k2
   have j3:Bk w6.drew (w.heap.size+1+1) 33 #[.bool false,.slice none 0 0]:=k3
   have hs0:Sl w6.drew B m d ys:=ht
   have ht0:Sl w6.drew A n c xs:=hs
   have hbd:Below w.heap.size w w6.drew:=hbel.drew
   have hq0:Below w6.heap.size w6.drew w6.drew:=fu _ _
   have f1:w6.drew.cell? ⟨w.heap.size,0,none⟩=some (.bool nb):=(j1.cell 0).trans rfl
   have f2:w6.drew.cell? ⟨w.heap.size,1,none⟩=some (.slice B m d):=(j1.cell 1).trans rfl
   have f4:w6.drew.cell? ⟨w.heap.size+1,1,none⟩=some (.slice A n c):=(j2.cell 1).trans rfl
   clear hs ht k1 k2 k3
   go_region_held3 (fun w'=>w'.cell? ⟨w.heap.size,0,none⟩=some (.bool nb)∧w'.cell? ⟨w.heap.size,1,none⟩=some (.slice B m d)∧w'.cell? ⟨w.heap.size+1,1,none⟩=some (.slice A n c))
    (first|exact⟨f1,f2,f4⟩|exact⟨((j1.below hq0).cell 0).trans rfl,((j1.below hq0).cell 1).trans rfl,((j2.below hq0).cell 1).trans rfl⟩|exact⟨gr.cell (((j1.below hq0).cell 0).trans rfl) (by simp;omega),gr.cell (((j1.below hq0).cell 1).trans rfl) (by simp;omega),gr.cell (((j2.below hq0).cell 1).trans rfl) (by simp)⟩)
    (first
     |(go_at_call 271;refine(Dy B A m d n c ys xs _ (hs0.below hq0) (ht0.below hq0) hm hle).mono ?_;rintro e w4 ⟨A4,c4,zs,rfl,hown,hval,hb4⟩;replace hown:=hown.le (b:=w6.heap.size) hq0.size;replace hq0:=hq0.trans (hb4.mono hq0.size))
     |(go_at_call 207;refine(kK nb A4 _ c4 zs _ hown.sl).mono ?_;rintro e w5 ⟨rfl,hb5⟩;have hi:=(iK hown.sl nb).below hb5;replace hq0:=hq0.trans (hb5.mono hq0.size);have hk3:=j3.below hq0;have hc0:=(hk3.cell 0).trans rfl;have hc1:=(hk3.cell 1).trans rfl;have hne:=hown.apart (g:=w.heap.size+1+1) (by omega);have hfr:=hown.fresh (k:=w.heap.size) (by omega);generalize (trm zs).length=l at*;obtain⟨z0,z1,_,g0,g1,gr,be⟩:=tv hk3 (hbd.trans (hq0.mono (by omega))) (by omega) (.bool (nb&&decide (0<l))) (.slice A4 l l)))
   have hi2:=hi.grown gr hne
   rw[hval] at hi2
   clear hi gr hown hq0 hb4 hb5 hk3 j1 j2 j3 hs0 ht0 f1 f2 f4 hbd hbel
   go_wp2
   refine bodyPost_ret (by simp[results,Tryz.results209,go_sem,z0,z1];try rfl) rfl ?_
   refine⟨_,_,_,_,rfl,?_,hfr,be⟩
   rw[Int.add_comm,←Hy.out]
   exact hi2
 ·have hle:val ys≤val xs:=by
   unfold eL at htt
   split at htt
   ·omega
   ·split at htt<;>omega
  clear htt
  go_wp2_with fail
  focus
   have j1:Bk w1.drew w.heap.size 33 #[.bool na,.slice A n c]:=k1
   have j2:Bk w1.drew (w.heap.size+1) 33 #[.bool nb,.slice B m d]:=k2
   have j3:Bk w1.drew (w.heap.size+1+1) 33 #[.bool false,.slice none 0 0]:=k3
   have hs0:Sl w1.drew A n c xs:=hs
   have ht0:Sl w1.drew B m d ys:=ht
   have hbd:Below w.heap.size w w1.drew:=hbel.drew
   have hq0:Below w1.heap.size w1.drew w1.drew:=fu _ _
   have f1:w1.drew.cell? ⟨w.heap.size,0,none⟩=some (.bool na):=(j1.cell 0).trans rfl
   have f2:w1.drew.cell? ⟨w.heap.size,1,none⟩=some (.slice A n c):=(j1.cell 1).trans rfl
   have f4:w1.drew.cell? ⟨w.heap.size+1,1,none⟩=some (.slice B m d):=(j2.cell 1).trans rfl
   clear hs ht k1 k2 k3
   go_region_held3 (fun w'=>w'.cell? ⟨w.heap.size,0,none⟩=some (.bool na)∧w'.cell? ⟨w.heap.size,1,none⟩=some (.slice A n c)∧w'.cell? ⟨w.heap.size+1,1,none⟩=some (.slice B m d))
    (first|exact⟨f1,f2,f4⟩|exact⟨((j1.below hq0).cell 0).trans rfl,((j1.below hq0).cell 1).trans rfl,((j2.below hq0).cell 1).trans rfl⟩|exact⟨gr.cell (((j1.below hq0).cell 0).trans rfl) (by simp;omega),gr.cell (((j1.below hq0).cell 1).trans rfl) (by simp;omega),gr.cell (((j2.below hq0).cell 1).trans rfl) (by simp)⟩)
    (first
     |(go_at_call 271;refine(Dy A B n c m d xs ys _ (hs0.below hq0) (ht0.below hq0) hn hle).mono ?_;rintro e w4 ⟨A4,c4,zs,rfl,hown,hval,hb4⟩;replace hown:=hown.le (b:=w1.heap.size) hq0.size;replace hq0:=hq0.trans (hb4.mono hq0.size))
     |(go_at_call 207;refine(kK na A4 _ c4 zs _ hown.sl).mono ?_;rintro e w5 ⟨rfl,hb5⟩;have hi:=(iK hown.sl na).below hb5;replace hq0:=hq0.trans (hb5.mono hq0.size);have hk3:=j3.below hq0;have hc0:=(hk3.cell 0).trans rfl;have hc1:=(hk3.cell 1).trans rfl;have hne:=hown.apart (g:=w.heap.size+1+1) (by omega);have hfr:=hown.fresh (k:=w.heap.size) (by omega);generalize (trm zs).length=l at*;obtain⟨z0,z1,_,g0,g1,gr,be⟩:=tv hk3 (hbd.trans (hq0.mono (by omega))) (by omega) (.bool (na&&decide (0<l))) (.slice A4 l l)))
   have hi2:=hi.grown gr hne
   rw[hval] at hi2
   clear hi gr hown hq0 hb4 hb5 hk3 j1 j2 j3 hs0 ht0 f1 f2 f4 hbd hbel
   go_wp2
   refine bodyPost_ret (by simp[results,Tryz.results209,go_sem,z0,z1];try rfl) rfl ?_
   refine⟨_,_,_,_,rfl,?_,hfr,be⟩
   rw[←Hx.out]
   exact hi2
theorem J3 (A B:Option Addr) (n c m d:Nat) (xs ys:List Int) (w:World) (ha:Sl w A n c xs) (hb:Sl w B m d ys) (hn:n≤100000000) (hm:m≤100000000) (h0:val ys≠0):
 Calls Tryz.prog 267 #[.slice A n c,.slice B m d] w (B5 w (val xs/val ys) (val xs%val ys)):=by
 by_cases h1:(trm ys).length=1
 ·exact JH A B n c m d xs ys w ha hb hn h1
 ·by_cases hlt:val xs<val ys
  ·exact GZ A B n c m d xs ys w ha hb hn h1 hlt
  ·have h2:(trm ys).length≠0:=by
    intro e
    have e2:trm ys=[]:=lJ.1 e
    exact h0 (by rw[←jc,e2];rfl)
   exact GN A B n c m d ((trm ys).length-2) xs ys w ha hb hn hm (by omega) (by omega)
theorem BT (na nb:Bool) (A B:Option Addr) (n c m d:Nat) (x y:Int) (w:World) (ha:IsInt w na A n c x) (hb:IsInt w nb B m d y) (hn:n≤100000000) (hm:m≤100000000):
 Calls Tryz.prog 209 #[.agg #[.bool na,.slice A n c],.agg #[.bool nb,.slice B m d]] w (HO w (x+y)):=by
 by_cases h:na=nb
 ·exact Ns na nb A B n c m d x y w ha hb h hn hm
 ·exact JO na nb A B n c m d x y w ha hb (by simpa using h) hn hm
set_option maxRecDepth 10000 in
theorem KS {o:Oper}{a:Act}{K:Act→World→Prop}{Q:Exit→Act→World→Prop}(s x:Operand)
 (ho:o.op=.call {callee:=.builtin .append,args:= #[s,x],argTypes:= #[31,31]})
 (A:Option Addr) (n c:Nat) (xs:List Int) (hs:a.eval s=.slice none 0 0) (hx:a.eval x=.slice A n c) (ha:Sl w A n c xs) (hn:n≤1000000000)
 (h: ∀v' w',Ow w' w.heap.size v' n xs→w.grownBy w' none→K (a.put o.dst v') w'):o.wp Tryz.prog a w K Q:=by
 obtain⟨i0,hi0,hz0,hz1,hz2⟩:=info_parts ou
 have hla:=ha.len
 cases A with
 |none=>
  have h0:n=0:=by
   rcases jZ n with h0|h0
   ·exact h0
   ·obtain⟨b,off,e,_⟩:=ha.1.2 h0;cases e
  subst h0
  obtain rfl:=lJ.1 hla
  have hrun:=pN (P:=Tryz.prog) w w.heap.size 31 o.type 192 i0 1 c oM hi0 (.slice none 0 0) 0 [] (qE _ _ _ _)
  unfold Oper.wp
  simp[execOp,ho,resolve,invoke,builtin,hs,hx,hrun,Result.andThen]
  exact(h _ _ ⟨qE _ _ _ _,Lim.nil⟩ (World.grownBy.refl _ _))
 |some ad=>
  refine wp_append_own w s x 31 ho w.heap.size 192 i0 (.int .u32 0) 1 4 oM hi0 hz0 hz1 hz2 rfl (by decide) (.slice none 0 0) 0 [] hs (qE _ _ _ _) ad n c (xs.map (Value.int .u32)) hx (by simp[hla]) ?_ (by intro u hu;simp at hu;obtain⟨z,_,rfl⟩:=hu;simp[Value.oneCell']) (by unfold maxLen;omega) (by omega) (cK _) ?_
  ·intro j u hu
   have hj:0<n:=by
    rcases jZ n with h0|h0
    ·subst h0
     obtain rfl:=lJ.1 hla
     simp at hu
    ·exact h0
   obtain⟨b,off,e,hlt,hc⟩:=ha.1.2 hj
   injection e with e
   subst e
   have:=hc j u hu
   unfold Addr.add
   split
   ·rename_i h0;subst h0;exact this
   ·exact this
  ·intro v' w' hown hgr _
   refine h v' w' ⟨by simpa using hown,ha.2.2.2⟩ ?_
   simpa [Value.ownBlock] using hgr
set_option maxHeartbeats 1000000 in
set_option maxRecDepth 10000 in
theorem PZ (na:Bool) (A:Option Addr) (n c:Nat) (x:Int) (w:World) (ha:IsInt w na A n c x) (hn:n≤100000000):
 Calls Tryz.prog 202 #[.agg #[.bool na,.slice A n c]] w (HO w (-x)):=by
 obtain⟨xs,hs,_,rfl,_⟩:=ha
 obtain⟨s,hsn⟩: ∃s,(!na)=s:=⟨_,rfl⟩
 have e: -sg na (val xs)=sg s (val xs):=by subst hsn;cases na<;>simp[sg]
 rw[e]
 clear e
 have hbel:Below w.heap.size w ((w.alloc (.cells #[.bool na,.slice A n c] 33)).alloc (.cells #[.bool false,.slice none 0 0] 33)):=((fu _ _).alloc (cK _) _).alloc (by simp) _
 have k1:Bk ((w.alloc (.cells #[.bool na,.slice A n c] 33)).alloc (.cells #[.bool false,.slice none 0 0] 33)) w.heap.size 33 #[.bool na,.slice A n c]:=(Bk.new w 33 _).alloc _
 have k3:Bk ((w.alloc (.cells #[.bool na,.slice A n c] 33)).alloc (.cells #[.bool false,.slice none 0 0] 33)) (w.heap.size+1) 33 #[.bool false,.slice none 0 0]:=by
  have:=Bk.new (w.alloc (.cells #[.bool na,.slice A n c] 33)) 33 #[.bool false,.slice none 0 0]
  simpa using this
 have hsz:((w.alloc (.cells #[.bool na,.slice A n c] 33)).alloc (.cells #[.bool false,.slice none 0 0] 33)).heap.size=w.heap.size+2:=by simp
 replace hs:=hs.below hbel
 go_enter Tryz.func202,Tryz.ntmps202
 go_wp2_with fail
 generalize (w.alloc (.cells #[.bool na,.slice A n c] 33)).alloc (.cells #[.bool false,.slice none 0 0] 33)=w0 at*
 have j1:Bk w0.drew w.heap.size 33 #[.bool na,.slice A n c]:=k1
 have j3:Bk w0.drew (w.heap.size+1) 33 #[.bool false,.slice none 0 0]:=k3
 have hs0:Sl w0.drew A n c xs:=hs
 have hbd:Below w.heap.size w w0.drew:=hbel.drew
 have hq0:Below w0.heap.size w0.drew w0.drew:=fu _ _
 have f1:w0.drew.cell? ⟨w.heap.size,0,none⟩=some (.bool na):=(j1.cell 0).trans rfl
 have f2:w0.drew.cell? ⟨w.heap.size,1,none⟩=some (.slice A n c):=(j1.cell 1).trans rfl
 clear hs k1 k3
 go_region_held3 (fun w'=>w'.cell? ⟨w.heap.size,0,none⟩=some (.bool na)∧w'.cell? ⟨w.heap.size,1,none⟩=some (.slice A n c))
  (first|exact⟨f1,f2⟩|exact⟨((j1.below hq0).cell 0).trans rfl,((j1.below hq0).cell 1).trans rfl⟩|exact⟨gr.cell (((j1.below hq0).cell 0).trans rfl) (by simp),gr.cell (((j1.below hq0).cell 1).trans rfl) (by simp)⟩)
  (first
   |(refine KS _ _ rfl A n c xs rfl rfl (hs0.below hq0) (by omega) ?_;intro v4 w4 hown hg4;obtain⟨A4,c4,rfl⟩:=hown.form;replace hown:=hown.le (b:=w0.heap.size) hq0.size;replace hq0:=hq0.grown hg4 hq0.size (by simp))
   |(go_at_call 207;refine(kK s A4 _ c4 xs _ hown.sl).mono ?_;rintro e w5 ⟨rfl,hb5⟩;have hi:=(iK hown.sl s).below hb5;replace hq0:=hq0.trans (hb5.mono hq0.size);have hk3:=j3.below hq0;have hc0:=(hk3.cell 0).trans rfl;have hc1:=(hk3.cell 1).trans rfl;have hne:=hown.apart (g:=w.heap.size+1) (by omega);have hfr:=hown.fresh (k:=w.heap.size) (by omega);generalize (trm xs).length=l at*;obtain⟨z0,z1,_,g0,g1,gr,be⟩:=tv hk3 (hbd.trans (hq0.mono (by omega))) (by omega) (.bool (s&&decide (0<l))) (.slice A4 l l)))
 have hi2:=hi.grown gr hne
 clear hi gr hown hq0 hb5 hk3 j1 j3 hs0 f1 f2 hbd hbel
 go_wp2
 refine bodyPost_ret (by simp[results,Tryz.results202,go_sem,z0,z1];try rfl) rfl ?_
 exact⟨_,_,_,_,rfl,hi2,hfr,be⟩
theorem IsInt.flip (h:IsInt w neg A n c x):IsInt w (!neg&&decide (0<n)) A n c (-x):=by
 obtain⟨s1,s2,s3,s4⟩:=h.sign
 obtain⟨xs,hs,hn,hx,hp⟩:=h
 refine⟨xs,hs,hn,?_,?_⟩
 ·cases neg
  ·by_cases h0:0<n
   ·simp[h0,sg] at hx⊢;omega
   ·have:=s3 (by omega)
    simp[h0,sg] at hx⊢;omega
  ·simp[sg] at hx⊢;omega
 ·intro h;simp at h;exact h.2
set_option maxHeartbeats 1000000 in
set_option maxRecDepth 10000 in
theorem QE (na nb:Bool) (A B:Option Addr) (n c m d:Nat) (x y:Int) (w:World) (ha:IsInt w na A n c x) (hb:IsInt w nb B m d y) (hn:n≤100000000) (hm:m≤100000000):
 Calls Tryz.prog 298 #[.agg #[.bool na,.slice A n c],.agg #[.bool nb,.slice B m d]] w (HO w (x-y)):=by
 have hf:=hb.flip
 obtain⟨s,hsn⟩: ∃s,(!nb&&decide (0<m))=s:=⟨_,rfl⟩
 rw[hsn] at hf
 rw[Int.sub_eq_add_neg]
 have hbel:Below w.heap.size w (vZ w (.bool na) (.slice A n c) (.bool s) (.slice B m d)):=(((fu _ _).alloc (cK _) _).alloc (by simp) _).alloc (by simp;omega) _
 have ha2:=ha.below hbel
 have hf2:=hf.below hbel
 have k3:Bk (vZ w (.bool na) (.slice A n c) (.bool s) (.slice B m d)) (w.heap.size+1+1) 33 #[.bool false,.slice none 0 0]:=by
  have:=Bk.new ((w.alloc (.cells #[.bool na,.slice A n c] 33)).alloc (.cells #[.bool s,.slice B m d] 33)) 33 #[.bool false,.slice none 0 0]
  simpa [vZ] using this
 have hsz:(vZ w (.bool na) (.slice A n c) (.bool s) (.slice B m d)).heap.size=w.heap.size+3:=by simp[vZ]
 clear ha hb hf
 cases nb
 ·replace hsn:decide (0<m)=s:=by simpa using hsn
  go_enter Tryz.func298,Tryz.ntmps298
  go_wp2_with fail
  refine(BT _ _ _ _ _ _ _ _ _ _ _ ha2 hf2 hn hm).mono ?_
  rintro e w1 ⟨neg,A',n',c',rfl,hi,hfr,hb1⟩
  have hk3:=k3.below hb1
  have hc0:=(hk3.cell 0).trans rfl
  have hc1:=(hk3.cell 1).trans rfl
  have hne: ∀b off,A'=some ⟨b,off,none⟩→some b≠some (w.heap.size+1+1):=fun b off e=>by have:=hfr b off e;simp;omega
  have hfr2: ∀b off,A'=some ⟨b,off,none⟩→w.heap.size≤b:=fun b off e=>by have:=hfr b off e;omega
  obtain⟨z0,z1,_,g0,g1,gr,be⟩:=tv hk3 (hbel.trans (hb1.mono (by omega))) (by omega) (.bool neg) (.slice A' n' c')
  have hi2:=hi.grown gr hne
  clear hi gr hb1 hk3 k3 hbel ha2 hf2 hfr hne
  go_wp2
  refine bodyPost_ret (by simp[results,Tryz.results298,go_sem,z0,z1];try rfl) rfl ?_
  exact⟨_,_,_,_,rfl,hi2,hfr2,be⟩
 ·obtain rfl:false=s:=by simpa using hsn
  go_enter Tryz.func298,Tryz.ntmps298
  go_wp2_with fail
  refine(BT _ _ _ _ _ _ _ _ _ _ _ ha2 hf2 hn hm).mono ?_
  rintro e w1 ⟨neg,A',n',c',rfl,hi,hfr,hb1⟩
  have hk3:=k3.below hb1
  have hc0:=(hk3.cell 0).trans rfl
  have hc1:=(hk3.cell 1).trans rfl
  have hne: ∀b off,A'=some ⟨b,off,none⟩→some b≠some (w.heap.size+1+1):=fun b off e=>by have:=hfr b off e;simp;omega
  have hfr2: ∀b off,A'=some ⟨b,off,none⟩→w.heap.size≤b:=fun b off e=>by have:=hfr b off e;omega
  obtain⟨z0,z1,_,g0,g1,gr,be⟩:=tv hk3 (hbel.trans (hb1.mono (by omega))) (by omega) (.bool neg) (.slice A' n' c')
  have hi2:=hi.grown gr hne
  clear hi gr hb1 hk3 k3 hbel ha2 hf2 hfr hne
  go_wp2
  refine bodyPost_ret (by simp[results,Tryz.results298,go_sem,z0,z1];try rfl) rfl ?_
  exact⟨_,_,_,_,rfl,hi2,hfr2,be⟩
theorem QG (na:Bool) (A:Option Addr) (n c:Nat) (xs:List Int) (w:World) (hs:Sl w A n c xs) (hn:n≤1):
 Calls Tryz.prog 266 #[.agg #[.bool na,.slice A n c]] w fun e w'=>e=.returned (.tuple #[.int .u64 (val xs),.bool true])∧Below w.heap.size w w':=by
 have hl:=hs.len
 have hbel:Below w.heap.size w (w.alloc (.cells #[.bool na,.slice A n c] 33)):=(fu _ _).alloc (cK _) _
 rcases jZ n with h0|h0
 ·subst h0
  obtain rfl:=lJ.1 hl
  go_enter Tryz.func266,Tryz.ntmps266
  go_wp2
  go_ret2
  exact⟨rfl,hbel⟩
 ·obtain rfl:n=1:=by omega
  obtain⟨b,off,x,rfl,hb,hx,hc,hx0,hx1⟩:=(hs.below hbel).at_ (show 0<1 by omega)
  rw[vi] at hc
  have hv:Hid (val xs=x):=by
   show _=_
   have h1:=bg hx.out
   rw[dC (by omega)] at h1
   simp[val,sI] at h1
   exact h1
  go_enter Tryz.func266,Tryz.ntmps266
  go_wp2
  go_ret2
  exact⟨by rw[hv.out];rfl,hbel⟩
theorem OI (na:Bool) (A:Option Addr) (c:Nat) (xs:List Int) (w:World) (hs:Sl w A 2 c xs):
 Calls Tryz.prog 266 #[.agg #[.bool na,.slice A (2:Nat) c]] w fun e w'=>e=.returned (.tuple #[.int .u64 (val xs),.bool true])∧Below w.heap.size w w':=by
 have hl:=hs.len
 have hbel:Below w.heap.size w (w.alloc (.cells #[.bool na,.slice A 2 c] 33)):=(fu _ _).alloc (cK _) _
 obtain⟨b,off,x,rfl,hb,hx,hc,hx0,hx1⟩:=(hs.below hbel).at_ (show 0<2 by omega)
 obtain⟨_,_,y,e1,_,hy,hcy,hy0,hy1⟩:=(hs.below hbel).at_ (show 1<2 by omega)
 injection e1 with e1
 injection e1 with e1 e2 _
 subst e1 e2
 rw[vi] at hc
 have hv:Hid (val xs=y*1000000000+x):=by
  show _=_
  have h1:=bg hx.out
  have h2:=bg hy.out
  rw[dC (by omega),h1,eu] at h2
  simp[val,sI] at h2
  omega
 go_enter Tryz.func266,Tryz.ntmps266
 go_wp2_with fail
 go_quiet (fail)
 go_wp2
 go_ret2
 exact⟨by rw[hv.out];rfl,Below.drewN' hbel _⟩
theorem Mf (na:Bool) (A:Option Addr) (n c:Nat) (w:World) (hn:3≤n):
 Calls Tryz.prog 266 #[.agg #[.bool na,.slice A n c]] w fun e w'=>e=.returned (.tuple #[.int .u64 0,.bool false])∧Below w.heap.size w w':=by
 have hbel:Below w.heap.size w (w.alloc (.cells #[.bool na,.slice A n c] 33)):=(fu _ _).alloc (cK _) _
 have h0:((n:Int)==0)=false:=by simp;omega
 have h1:((n:Int)==1)=false:=by simp;omega
 have h2:((n:Int)==2)=false:=by simp;omega
 go_enter Tryz.func266,Tryz.ntmps266
 go_wp2
 go_ret2
 exact⟨rfl,hbel⟩
end Go.Proofs.YtkmdgigkbhmilaaGreat
