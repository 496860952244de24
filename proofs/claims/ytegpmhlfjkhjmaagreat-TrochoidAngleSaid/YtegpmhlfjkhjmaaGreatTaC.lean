/-Layer 1:integers as values:FromInt64,Sign,Cmp. -/
import Derived.Test.YtegpmhlfjkhjmaaGreatTaB
import Derived.Test.YtegpmhlfjkhjmaaGreatProg
import Derived.Deep.RegionHeld3
import Derived.Orders
namespace Go.Proofs.YtegpmhlfjkhjmaaGreat
open Go.RowKit
variable {cs:Array Value}{neg:Bool}{x:Int}{xs:List Int}{base c g k n:Nat}{A:Option Addr}{row:Option Nat}{t:TypeId}{w w' w0 w2:World}
theorem iA:type_of% @Bool.true_and:=@Bool.true_and
theorem q7:type_of% @Bool.false_and:=@Bool.false_and
theorem tH:type_of% @List.getElem?_take:=@List.getElem?_take
theorem CK:type_of% @List.getElem?_append_left:=@List.getElem?_append_left
theorem GH:type_of% @List.getElem?_append_right:=@List.getElem?_append_right
def sg (neg:Bool) (v:Int):Int:=if neg then-v else v
theorem gV (v:Int):sg true v= -v:=rfl
theorem cW (v:Int):sg false v=v:=rfl
def IsInt (w:World) (neg:Bool) (A:Option Addr) (n c:Nat) (x:Int):Prop:= ∃xs,Sl w A n c xs∧Nrm xs∧x=sg neg (val xs)∧(neg=true→0<n)
def Ii (w:World) (x:Int) (e:Ending) (w':World):Prop:= ∃neg A n c,e=.returned (.agg #[.bool neg,.slice A n c])∧IsInt w' neg A n c x∧(∀b off,A=some ⟨b,off,none⟩→w.heap.size≤b)∧Below w.heap.size w w'
section
variable {w w':World}{neg:Bool}{A:Option Addr}{n c:Nat}{x:Int}{xs:List Int}
theorem IsInt.below (h:IsInt w neg A n c x) (hb:Below w.heap.size w w'):IsInt w' neg A n c x:=by
 obtain⟨xs,h1,h2⟩:=h
 exact⟨xs,h1.below hb,h2⟩
theorem iS (h:Sl w A n c xs) (neg:Bool):IsInt w (neg&&decide (0<(trm xs).length)) A (trm xs).length (trm xs).length (sg neg (val xs)):=by
 have ht:=h.trm
 refine⟨trm xs,⟨ht.1,ck _,nF ht.2.1 ht.2.2.1,ht.2.2.2⟩,uz xs,?_,?_⟩
 ·rw[ja]
  cases neg
  ·rfl
  ·by_cases h0:0<(trm xs).length
   ·grind
   ·have e:trm xs=[]:=nJ.1 (by omega)
    have e2:val xs=0:=by rw[←ja,e];rfl
    rw[e2];simp[sg]
 grind
theorem IsInt.le (h:IsInt w neg A n c x) (h1:x<pw k) (h2: -x<pw k):n≤k:=by
 obtain⟨xs,hs,hn,hx,_⟩:=h
 rw[←hs.len]
 refine hn.len hs.2.2.2 ?_
 cases neg
 ·rw[cW] at hx;omega
 ·rw[gV] at hx;omega
theorem IsInt.sign (h:IsInt w neg A n c x):(neg=true→x<0)∧(neg=false→0<n→0<x)∧(n=0→x=0)∧(x=0→n=0):=by
 obtain⟨xs,hs,hn,hx,hp⟩:=h
 have hl:=hs.len
 have hpos:0<n→0<val xs:=by
  intro h0
  have h1:=hn.ge hs.2.2.2 (by intro e;subst e;simp at hl;omega)
  have:=cU (xs.length-1)
  omega
 have hz:n=0→val xs=0:=by
  intro h0
  have e:xs=[]:=by grind
  rw[e];rfl
 refine⟨fun h=>?_,fun h h0=>?_,fun h=>?_,fun h=>?_⟩
 ·subst h;rw[gV] at hx;have:=hpos (hp rfl);omega
 ·subst h;rw[cW] at hx;have:=hpos h0;omega
 ·have:=hz h;rw[hx,this];cases neg<;>rfl
 ·rcases li n with h1|h1
  ·grind
  ·have:=hpos h1
   cases neg
   ·rw[cW] at hx;omega
   ·rw[gV] at hx;omega
end
theorem Bk.set (h:Bk w g t cs) (i:Nat) (v:Value):Bk (w.setCell ⟨g,i,none⟩ v) g t (cs.setIfInBounds i v):=heap_setCell_same w g i cs t v h
theorem Ow.apart (h:Ow w base (.slice A n c) n xs) (hg:g<base): ∀b off,A=some ⟨b,off,none⟩→some b≠some g:=by
 intro b off e
 have:=KM h.1 b (by rw[e];simp[Value.ownBlock])
 grind
theorem Ow.fresh (h:Ow w base (.slice A n c) n xs) (hk:k≤base): ∀b off,A=some ⟨b,off,none⟩→k≤b:=by
 intro b off e
 have:=KM h.1 b (by rw[e];simp[Value.ownBlock])
 omega
structure Boxed2 (w w2:World) (g:Nat) (a b:Value):Prop where
 c0:(w2.setCell ⟨g,0,none⟩ a).cell? ⟨g,0,none⟩=some a
 c1:((w2.setCell ⟨g,0,none⟩ a).setCell ⟨g,1,none⟩ b).cell? ⟨g,1,none⟩=some b
 o0:w2.cell? ⟨g,0,none⟩≠none
 f0:w2.frozen? ⟨g,0,none⟩=false
 f1:w2.frozen? ⟨g,1,none⟩=false
 gr:w2.grownBy ((w2.setCell ⟨g,0,none⟩ a).setCell ⟨g,1,none⟩ b) (some g)
 be:Below w.heap.size w ((w2.setCell ⟨g,0,none⟩ a).setCell ⟨g,1,none⟩ b)
theorem ug {p q:Value}(h:Bk w2 g t #[p,q]) (hb:Below w.heap.size w w2) (hg:w.heap.size≤g) (a b:Value):Boxed2 w w2 g a b:=by
 have h0:=h.set 0 a
 have h1:=h0.set 1 b
 have g1: ∀(w:World) (i:Nat) (v:Value),w.grownBy (w.setCell ⟨g,i,none⟩ v) (some g):=fun w i v=>⟨rfl,rfl,rfl,by simp,fun k _ hk=>heap_setCell_other w ⟨g,i,none⟩ k v (fun e=>hk (by simp[e]))⟩
 have gr:=vW (g1 w2 0 a) (g1 _ 1 b)
 exact⟨(h0.cell 0).trans rfl,(h1.cell 1).trans rfl,by rw[h.cell 0];simp,h.frozen 0,h.frozen 1,gr,hb.grown gr hb.size (by intro k hk;injection hk with hk;omega)⟩
theorem IsInt.grown (h:IsInt w neg A n c x) (hg:w.grownBy w' row) (hne: ∀b off,A=some ⟨b,off,none⟩→some b≠row):IsInt w' neg A n c x:=by
 obtain⟨xs,h1,h2⟩:=h
 exact⟨xs,h1.grown hg hne,h2⟩
theorem PH (A B:Option Addr) (n c m d:Nat) (xs ys:List Int) (w:World) (ha:Sl w A n c xs) (hb:Sl w B m d ys) (hn:n≤100000000) (hm:m≤100000000):
 Calls Tryz.prog 345 #[.slice A n c,.slice B m d] w fun e w'=> ∃k,Et w k (val xs+val ys) e w':=by
 by_cases h:m≤n
 ·exact((EE A B n c m d xs ys w ha hb hn h).1).mono fun e w' h=>⟨n+1,h⟩
 ·refine((EE B A m d n c ys xs w hb ha hm (by omega)).2 (by omega)).mono fun e w' h=>⟨m+1,?_⟩
  rw[Int.add_comm];exact h
set_option maxHeartbeats 1000000 in
set_option maxRecDepth 10000 in
theorem IQ (x:Int) (w:World) (h0: -9223372036854775808≤x) (h1:x≤9223372036854775807):Calls Tryz.prog 163 #[.int .i64 x] w (Ii w x):=by
 by_cases hx:x<0
 ·have e1:IntKind.u64.wrap (-IntKind.u64.wrap x)= -x:=by unfold IntKind.wrap;simp[IntKind.bits,IntKind.signed];omega
  go_enter Tryz.func163,Tryz.ntmps163
  go_wp2_with fail
  refine(A5 (-x) _ (by omega) (by omega) (by omega)).mono ?_
  rintro e w1 ⟨B,d,ys,rfl,hown,hval,hbel⟩
  have hb1:=((fJ w.heap.size w).alloc (ck _) (.cells #[.bool false,.slice none 0 0] 36)).trans (hbel.mono (by simp))
  go_wp2_with fail
  refine(kh true B _ d ys _ hown.sl).mono ?_
  rintro e w2 ⟨rfl,hbel2⟩
  have hb2:=hb1.trans (hbel2.mono hb1.size)
  have hi:=(iS hown.sl true).below hbel2
  rw[hval,gV,Int.neg_neg] at hi
  have hbk:Bk w2 w.heap.size 36 #[.bool false,.slice none 0 0]:=((Bk.new w 36 #[.bool false,.slice none 0 0]).below hbel).below hbel2
  have hc0:w2.cell? ⟨w.heap.size,0,none⟩=some (.bool false):=(hbk.cell 0).trans rfl
  have hc1:w2.cell? ⟨w.heap.size,1,none⟩=some (.slice none 0 0):=(hbk.cell 1).trans rfl
  have hne:=hown.apart (g:=w.heap.size) (by simp)
  have hfr:=hown.fresh (k:=w.heap.size) (by simp)
  have Hb:=ug hbk hb2 (ck _)
  generalize (trm ys).length=l at*
  obtain⟨k0,k1,_,f0,f1,gr,be⟩:=Hb (.bool (true&&decide (0<l))) (.slice B l l)
  have hi2:=hi.grown gr hne
  clear e1 hbel hbel2 hown Hb hi gr hb2 hb1 hbk
  simp only[iA] at*
  go_wp2
  refine bodyPost_ret (by simp[results,Tryz.results163,go_sem,k0,k1];try rfl) rfl ?_
  exact⟨_,_,_,_,rfl,hi2,hfr,be⟩
 ·have e1:IntKind.u64.wrap x=x:=by unfold IntKind.wrap;simp[IntKind.bits,IntKind.signed];omega
  go_enter Tryz.func163,Tryz.ntmps163
  go_wp2_with fail
  refine(A5 (x) _ (by omega) (by omega) (by omega)).mono ?_
  rintro e w1 ⟨B,d,ys,rfl,hown,hval,hbel⟩
  have hb1:=((fJ w.heap.size w).alloc (ck _) (.cells #[.bool false,.slice none 0 0] 36)).trans (hbel.mono (by simp))
  go_wp2_with fail
  refine(kh false B _ d ys _ hown.sl).mono ?_
  rintro e w2 ⟨rfl,hbel2⟩
  have hb2:=hb1.trans (hbel2.mono hb1.size)
  have hi:=(iS hown.sl false).below hbel2
  rw[hval,cW] at hi
  have hbk:Bk w2 w.heap.size 36 #[.bool false,.slice none 0 0]:=((Bk.new w 36 #[.bool false,.slice none 0 0]).below hbel).below hbel2
  have hc0:w2.cell? ⟨w.heap.size,0,none⟩=some (.bool false):=(hbk.cell 0).trans rfl
  have hc1:w2.cell? ⟨w.heap.size,1,none⟩=some (.slice none 0 0):=(hbk.cell 1).trans rfl
  have hne:=hown.apart (g:=w.heap.size) (by simp)
  have hfr:=hown.fresh (k:=w.heap.size) (by simp)
  have Hb:=ug hbk hb2 (ck _)
  generalize (trm ys).length=l at*
  obtain⟨k0,k1,_,f0,f1,gr,be⟩:=Hb (.bool (false&&decide (0<l))) (.slice B l l)
  have hi2:=hi.grown gr hne
  clear e1 hbel hbel2 hown Hb hi gr hb2 hb1 hbk
  simp only[q7] at*
  go_wp2
  refine bodyPost_ret (by simp[results,Tryz.results163,go_sem,k0,k1];try rfl) rfl ?_
  exact⟨_,_,_,_,rfl,hi2,hfr,be⟩
theorem PY (neg:Bool) (A:Option Addr) (n c:Nat) (x:Int) (w:World) (h:IsInt w neg A n c x):
 Calls Tryz.prog 161 #[.agg #[.bool neg,.slice A n c]] w fun e w'=>e=.returned (.int .i64 (fk x 0))∧Below w.heap.size w w':=by
 obtain⟨s1,s2,s3,s4⟩:=h.sign
 cases neg
 ·rcases li n with h0|h0
  ·subst h0
   have e:=s3 rfl
   subst e
   clear s1 s2 s3 s4 h
   go_enter Tryz.func161,Tryz.ntmps161
   go_wp2
   go_ret
   exact⟨rfl,(fJ _ _).alloc (ck _) _⟩
  ·have e:=ix (fQ (s2 rfl h0))
   clear s1 s2 s3 s4 h
   go_enter Tryz.func161,Tryz.ntmps161
   go_wp2
   go_ret
   exact⟨by rw[e.out];rfl,(fJ _ _).alloc (ck _) _⟩
 ·have e:=ix (fK (s1 rfl))
  clear s1 s2 s3 s4 h
  go_enter Tryz.func161,Tryz.ntmps161
  go_wp2
  go_ret
  exact⟨by rw[e.out];rfl,(fJ _ _).alloc (ck _) _⟩
theorem Iy (a b:Int):fk (-a) (-b)=fk b a:=by
 unfold fk
 by_cases h1:b<a
 ·grind
 grind
theorem IsInt.nonneg (h:IsInt w false A n c x):0≤x:=by
 obtain⟨xs,hs,_,hx,_⟩:=h
 rw[hx,cW];exact cS hs.2.2.2
set_option maxHeartbeats 1000000 in
set_option maxRecDepth 10000 in
theorem QA (na nb:Bool) (A B:Option Addr) (n c m d:Nat) (x y:Int) (w:World) (ha:IsInt w na A n c x) (hb:IsInt w nb B m d y):
 Calls Tryz.prog 165 #[.agg #[.bool na,.slice A n c],.agg #[.bool nb,.slice B m d]] w fun e w'=>e=.returned (.int .i64 (fk x y))∧Below w.heap.size w w':=by
 have hbel:Below w.heap.size w ((w.alloc (.cells #[.bool na,.slice A n c] 36)).alloc (.cells #[.bool nb,.slice B m d] 36)):=((fJ _ _).alloc (ck _) _).alloc (by simp) _
 cases na<;>cases nb
 ·obtain⟨xs,hs,_,rfl,_⟩:=ha
  obtain⟨ys,ht,_,rfl,_⟩:=hb
  rw[cW,cW]
  go_enter Tryz.func165,Tryz.ntmps165
  go_wp2_with fail
  refine(oI A B n c m d xs ys _ (hs.below hbel) (ht.below hbel)).mono ?_
  rintro e w1 ⟨rfl,hb1⟩
  go_wp2
  go_ret
  exact⟨rfl,hbel.trans (hb1.mono (by simp;omega))⟩
 ·have e:=ix (fQ (show y<x by have:=ha.nonneg;have:=hb.sign.1 rfl;omega))
  clear ha hb
  go_enter Tryz.func165,Tryz.ntmps165
  go_wp2
  go_ret
  exact⟨by rw[e.out];rfl,hbel⟩
 ·have e:=ix (fK (show x<y by have:=hb.nonneg;have:=ha.sign.1 rfl;omega))
  clear ha hb
  go_enter Tryz.func165,Tryz.ntmps165
  go_wp2
  go_ret
  exact⟨by rw[e.out];rfl,hbel⟩
 ·obtain⟨xs,hs,_,rfl,_⟩:=ha
  obtain⟨ys,ht,_,rfl,_⟩:=hb
  rw[gV,gV,Iy]
  go_enter Tryz.func165,Tryz.ntmps165
  go_wp2_with fail
  refine(oI B A m d n c ys xs _ (ht.below hbel) (hs.below hbel)).mono ?_
  rintro e w1 ⟨rfl,hb1⟩
  go_wp2
  go_ret
  exact⟨rfl,hbel.trans (hb1.mono (by simp;omega))⟩
theorem Z5 (a b:Bool) (u v:Int):sg (a !=b) (u*v)=sg a u*sg b v:=by cases a<;>cases b<;>simp[sg,Int.neg_mul,Int.mul_neg]
theorem Zo (a:Bool) (u v:Int):sg a (u+v)=sg a u+sg a v:=by cases a<;>simp[sg]<;>omega
def xy (w:World) (a b:Value) (c d:Value):World:=((w.alloc (.cells #[a,b] 36)).alloc (.cells #[c,d] 36)).alloc (.cells #[.bool false,.slice none 0 0] 36)
set_option maxHeartbeats 1000000 in
set_option maxRecDepth 10000 in
theorem OO (na nb:Bool) (A B:Option Addr) (n c m d:Nat) (x y:Int) (w:World) (ha:IsInt w na A n c x) (hb:IsInt w nb B m d y) (hn:n≤100000000) (hm:m≤100000000):
 Calls Tryz.prog 166 #[.agg #[.bool na,.slice A n c],.agg #[.bool nb,.slice B m d]] w (Ii w (x*y)):=by
 obtain⟨xs,hs,_,rfl,_⟩:=ha
 obtain⟨ys,ht,_,rfl,_⟩:=hb
 rw[←Z5]
 obtain⟨s,hsn⟩: ∃s,(na !=nb)=s:=⟨_,rfl⟩
 rw[hsn]
 replace hsn:(!(na==nb))=s:=hsn
 have hbel:Below w.heap.size w (xy w (.bool na) (.slice A n c) (.bool nb) (.slice B m d)):=(((fJ _ _).alloc (ck _) _).alloc (by simp) _).alloc (by simp;omega) _
 have k1:Bk (xy w (.bool na) (.slice A n c) (.bool nb) (.slice B m d)) w.heap.size 36 #[.bool na,.slice A n c]:=((Bk.new w 36 _).alloc _).alloc _
 have k2:Bk (xy w (.bool na) (.slice A n c) (.bool nb) (.slice B m d)) (w.heap.size+1) 36 #[.bool nb,.slice B m d]:=by
  have:=(Bk.new (w.alloc (.cells #[.bool na,.slice A n c] 36)) 36 #[.bool nb,.slice B m d]).alloc (.cells #[.bool false,.slice none 0 0] 36)
  simpa [xy] using this
 have k3:Bk (xy w (.bool na) (.slice A n c) (.bool nb) (.slice B m d)) (w.heap.size+1+1) 36 #[.bool false,.slice none 0 0]:=by
  have:=Bk.new ((w.alloc (.cells #[.bool na,.slice A n c] 36)).alloc (.cells #[.bool nb,.slice B m d] 36)) 36 #[.bool false,.slice none 0 0]
  simpa [xy] using this
 have hsz:(xy w (.bool na) (.slice A n c) (.bool nb) (.slice B m d)).heap.size=w.heap.size+3:=by simp[xy]
 replace hs:=hs.below hbel
 replace ht:=ht.below hbel
 go_enter Tryz.func166,Tryz.ntmps166
 go_wp2_with fail
 rw[show((w.alloc (.cells #[.bool na,.slice A n c] 36)).alloc (.cells #[.bool nb,.slice B m d] 36)).alloc (.cells #[.bool false,.slice none 0 0] 36)=xy w (.bool na) (.slice A n c) (.bool nb) (.slice B m d) from rfl]
 generalize xy w (.bool na) (.slice A n c) (.bool nb) (.slice B m d)=w0 at*
 have j1:Bk w0.drew w.heap.size 36 #[.bool na,.slice A n c]:=k1
 have j2:Bk w0.drew (w.heap.size+1) 36 #[.bool nb,.slice B m d]:=k2
 have j3:Bk w0.drew (w.heap.size+1+1) 36 #[.bool false,.slice none 0 0]:=k3
 have hs0:Sl w0.drew A n c xs:=hs
 have ht0:Sl w0.drew B m d ys:=ht
 have hbd:Below w.heap.size w w0.drew:=hbel.drew
 have hq0:Below w0.heap.size w0.drew w0.drew:=fJ _ _
 have f1:w0.drew.cell? ⟨w.heap.size,0,none⟩=some (.bool na):=(j1.cell 0).trans rfl
 have f2:w0.drew.cell? ⟨w.heap.size,1,none⟩=some (.slice A n c):=(j1.cell 1).trans rfl
 have f3:w0.drew.cell? ⟨w.heap.size+1,0,none⟩=some (.bool nb):=(j2.cell 0).trans rfl
 have f4:w0.drew.cell? ⟨w.heap.size+1,1,none⟩=some (.slice B m d):=(j2.cell 1).trans rfl
 clear hs ht k1 k2 k3
 go_region_held3 (fun w'=>w'.cell? ⟨w.heap.size,0,none⟩=some (.bool na)∧w'.cell? ⟨w.heap.size,1,none⟩=some (.slice A n c)∧w'.cell? ⟨w.heap.size+1,0,none⟩=some (.bool nb)∧w'.cell? ⟨w.heap.size+1,1,none⟩=some (.slice B m d))
  (first|exact⟨f1,f2,f3,f4⟩|exact⟨((j1.below hq0).cell 0).trans rfl,((j1.below hq0).cell 1).trans rfl,((j2.below hq0).cell 0).trans rfl,((j2.below hq0).cell 1).trans rfl⟩|exact⟨gr.cell (((j1.below hq0).cell 0).trans rfl) (by simp;omega),gr.cell (((j1.below hq0).cell 1).trans rfl) (by simp;omega),gr.cell (((j2.below hq0).cell 0).trans rfl) (by simp),gr.cell (((j2.below hq0).cell 1).trans rfl) (by simp)⟩)
  (first
   |(go_at_call 281;refine(Bg A B n c m d xs ys _ (hs0.below hq0) (ht0.below hq0) hn hm).mono ?_;rintro e w4 ⟨A4,c4,zs,rfl,hown,hval,hb4⟩;replace hown:=hown.le (b:=w0.heap.size) hq0.size;replace hq0:=hq0.trans (hb4.mono hq0.size))
   |(go_at_call 277;refine(kh s A4 _ c4 zs _ hown.sl).mono ?_;rintro e w5 ⟨rfl,hb5⟩;have hi:=(iS hown.sl s).below hb5;replace hq0:=hq0.trans (hb5.mono hq0.size);have hk3:=j3.below hq0;have hc0:=(hk3.cell 0).trans rfl;have hc1:=(hk3.cell 1).trans rfl;have hne:=hown.apart (g:=w.heap.size+1+1) (by omega);have hfr:=hown.fresh (k:=w.heap.size) (by omega);generalize (trm zs).length=l at*;obtain⟨z0,z1,_,g0,g1,gr,be⟩:=ug hk3 (hbd.trans (hq0.mono (by omega))) (by omega) (.bool (s&&decide (0<l))) (.slice A4 l l)))
 have hi2:=hi.grown gr hne
 rw[hval] at hi2
 clear hi gr hown hq0 hb4 hb5 hk3 j1 j2 j3 hs0 ht0 f1 f2 f3 f4 hbd hbel
 go_wp2
 refine bodyPost_ret (by simp[results,Tryz.results166,go_sem,z0,z1];try rfl) rfl ?_
 exact⟨_,_,_,_,rfl,hi2,hfr,be⟩
set_option maxHeartbeats 1000000 in
set_option maxRecDepth 10000 in
theorem N1 (na nb:Bool) (A B:Option Addr) (n c m d:Nat) (x y:Int) (w:World) (ha:IsInt w na A n c x) (hb:IsInt w nb B m d y) (hab:na=nb) (hn:n≤100000000) (hm:m≤100000000):
 Calls Tryz.prog 291 #[.agg #[.bool na,.slice A n c],.agg #[.bool nb,.slice B m d]] w (Ii w (x+y)):=by
 obtain⟨xs,hs,_,rfl,_⟩:=ha
 obtain⟨ys,ht,_,rfl,_⟩:=hb
 subst hab
 rw[←Zo]
 have hsn:(na==na)=true:=by simp
 have hbel:Below w.heap.size w (xy w (.bool na) (.slice A n c) (.bool na) (.slice B m d)):=(((fJ _ _).alloc (ck _) _).alloc (by simp) _).alloc (by simp;omega) _
 have k1:Bk (xy w (.bool na) (.slice A n c) (.bool na) (.slice B m d)) w.heap.size 36 #[.bool na,.slice A n c]:=((Bk.new w 36 _).alloc _).alloc _
 have k2:Bk (xy w (.bool na) (.slice A n c) (.bool na) (.slice B m d)) (w.heap.size+1) 36 #[.bool na,.slice B m d]:=by
  have:=(Bk.new (w.alloc (.cells #[.bool na,.slice A n c] 36)) 36 #[.bool na,.slice B m d]).alloc (.cells #[.bool false,.slice none 0 0] 36)
  simpa [xy] using this
 have k3:Bk (xy w (.bool na) (.slice A n c) (.bool na) (.slice B m d)) (w.heap.size+1+1) 36 #[.bool false,.slice none 0 0]:=by
  have:=Bk.new ((w.alloc (.cells #[.bool na,.slice A n c] 36)).alloc (.cells #[.bool na,.slice B m d] 36)) 36 #[.bool false,.slice none 0 0]
  simpa [xy] using this
 have hsz:(xy w (.bool na) (.slice A n c) (.bool na) (.slice B m d)).heap.size=w.heap.size+3:=by simp[xy]
 replace hs:=hs.below hbel
 replace ht:=ht.below hbel
 go_enter Tryz.func291,Tryz.ntmps291
 go_wp2_with fail
 rw[show((w.alloc (.cells #[.bool na,.slice A n c] 36)).alloc (.cells #[.bool na,.slice B m d] 36)).alloc (.cells #[.bool false,.slice none 0 0] 36)=xy w (.bool na) (.slice A n c) (.bool na) (.slice B m d) from rfl]
 generalize xy w (.bool na) (.slice A n c) (.bool na) (.slice B m d)=w0 at*
 have j1:Bk w0.drew w.heap.size 36 #[.bool na,.slice A n c]:=k1
 have j2:Bk w0.drew (w.heap.size+1) 36 #[.bool na,.slice B m d]:=k2
 have j3:Bk w0.drew (w.heap.size+1+1) 36 #[.bool false,.slice none 0 0]:=k3
 have hs0:Sl w0.drew A n c xs:=hs
 have ht0:Sl w0.drew B m d ys:=ht
 have hbd:Below w.heap.size w w0.drew:=hbel.drew
 have hq0:Below w0.heap.size w0.drew w0.drew:=fJ _ _
 have f1:w0.drew.cell? ⟨w.heap.size,0,none⟩=some (.bool na):=(j1.cell 0).trans rfl
 have f2:w0.drew.cell? ⟨w.heap.size,1,none⟩=some (.slice A n c):=(j1.cell 1).trans rfl
 have f3:w0.drew.cell? ⟨w.heap.size+1,0,none⟩=some (.bool na):=(j2.cell 0).trans rfl
 have f4:w0.drew.cell? ⟨w.heap.size+1,1,none⟩=some (.slice B m d):=(j2.cell 1).trans rfl
 clear hs ht k1 k2 k3
 go_region_held3 (fun w'=>w'.cell? ⟨w.heap.size,0,none⟩=some (.bool na)∧w'.cell? ⟨w.heap.size,1,none⟩=some (.slice A n c)∧w'.cell? ⟨w.heap.size+1,0,none⟩=some (.bool na)∧w'.cell? ⟨w.heap.size+1,1,none⟩=some (.slice B m d))
  (first|exact⟨f1,f2,f3,f4⟩|exact⟨((j1.below hq0).cell 0).trans rfl,((j1.below hq0).cell 1).trans rfl,((j2.below hq0).cell 0).trans rfl,((j2.below hq0).cell 1).trans rfl⟩|exact⟨gr.cell (((j1.below hq0).cell 0).trans rfl) (by simp;omega),gr.cell (((j1.below hq0).cell 1).trans rfl) (by simp;omega),gr.cell (((j2.below hq0).cell 0).trans rfl) (by simp),gr.cell (((j2.below hq0).cell 1).trans rfl) (by simp)⟩)
  (first
   |(go_at_call 345;refine(PH A B n c m d xs ys _ (hs0.below hq0) (ht0.below hq0) hn hm).mono ?_;rintro e w4 ⟨k4,A4,c4,zs,rfl,hown,hval,hb4⟩;replace hown:=hown.le (b:=w0.heap.size) hq0.size;replace hq0:=hq0.trans (hb4.mono hq0.size))
   |(go_at_call 277;refine(kh na A4 _ c4 zs _ hown.sl).mono ?_;rintro e w5 ⟨rfl,hb5⟩;have hi:=(iS hown.sl na).below hb5;replace hq0:=hq0.trans (hb5.mono hq0.size);have hk3:=j3.below hq0;have hc0:=(hk3.cell 0).trans rfl;have hc1:=(hk3.cell 1).trans rfl;have hne:=hown.apart (g:=w.heap.size+1+1) (by omega);have hfr:=hown.fresh (k:=w.heap.size) (by omega);generalize (trm zs).length=l at*;obtain⟨z0,z1,_,g0,g1,gr,be⟩:=ug hk3 (hbd.trans (hq0.mono (by omega))) (by omega) (.bool (na&&decide (0<l))) (.slice A4 l l)))
 have hi2:=hi.grown gr hne
 rw[hval] at hi2
 clear hi gr hown hq0 hb4 hb5 hk3 j1 j2 j3 hs0 ht0 f1 f2 f3 f4 hbd hbel
 go_wp2
 refine bodyPost_ret (by simp[results,Tryz.results291,go_sem,z0,z1];try rfl) rfl ?_
 exact⟨_,_,_,_,rfl,hi2,hfr,be⟩
theorem R7 (a b:Bool) (h:(a==b)=false) (u v:Int):sg a (u-v)=sg a u+sg b v:=by cases a<;>cases b<;>simp[sg] at h⊢ <;>omega
theorem Sl.old (h:Sl w A n c xs): ∀b off,A=some ⟨b,off,none⟩→0<n→b<w.heap.size:=by
 intro b off e h0
 obtain⟨b',off',e',hlt,_⟩:=h.1.2 h0
 grind
theorem Sl.grown' (h:Sl w A n c xs) (hg:w.grownBy w' row) (hne: ∀b off,A=some ⟨b,off,none⟩→0<n→some b≠row):Sl w' A n c xs:=by
 refine⟨⟨h.1.1,fun hn=>?_⟩,h.2⟩
 obtain⟨b,off,e,hlt,hc⟩:=h.1.2 hn
 exact⟨b,off,e,oO hlt hg.size,fun j u hu=>hg.cell (hc j u hu) (hne b off e hn)⟩
theorem kT (w:World) (g i:Nat) (v:Value):w.grownBy (w.setCell ⟨g,i,none⟩ v) (some g):=⟨rfl,rfl,rfl,by simp,fun k _ hk=>heap_setCell_other w ⟨g,i,none⟩ k v (fun e=>hk (by simp[e]))⟩
theorem Bk.other {g':Nat}(h:Bk w g t cs) (hne:g≠g') (i:Nat) (v:Value):Bk (w.setCell ⟨g',i,none⟩ v) g t cs:=h.grown (kT w g' i v) (by simpa using hne)
def JB (w:World) (g g':Nat) (a b c d:Value):World:=(((w.setCell ⟨g,0,none⟩ c).setCell ⟨g,1,none⟩ d).setCell ⟨g',0,none⟩ a).setCell ⟨g',1,none⟩ b
section
variable {w:World}{g g':Nat}{a b c d:Value}{t:TypeId}
theorem abW (h:Bk w g t #[a,b]) (hne:g≠g'):Bk (JB w g g' a b c d) g t #[c,d]:=(((h.set 0 c).set 1 d).other hne 0 a).other hne 1 b
theorem abH (h:Bk w g' t #[c,d]) (hne:g'≠g):Bk (JB w g g' a b c d) g' t #[a,b]:=(((h.other hne 0 c).other hne 1 d).set 0 a).set 1 b
theorem acD (h:Bk w k t cs) (h1:k≠g) (h2:k≠g'):Bk (JB w g g' a b c d) k t cs:=(((h.other h1 0 c).other h1 1 d).other h2 0 a).other h2 1 b
theorem Nb (h:Below w0.heap.size w0 w) (h1:w0.heap.size≤g) (h2:w0.heap.size≤g'):Below w0.heap.size w0 (JB w g g' a b c d):=by
 have e: ∀(x:Nat),w0.heap.size≤x→ ∀k,some x=some k→w0.heap.size≤k:=by grind
 have b1:=h.grown (kT w g 0 c) h.size (e g h1)
 have b2:=b1.grown (kT _ g 1 d) b1.size (e g h1)
 have b3:=b2.grown (kT _ g' 0 a) b2.size (e g' h2)
 exact b3.grown (kT _ g' 1 b) b3.size (e g' h2)
theorem Rc {e:Nat}(h:Sl w A n e xs) (h1: ∀b off,A=some ⟨b,off,none⟩→0<n→b<g∧b<g'):Sl (JB w g g' a b c d) A n e xs:=by
 have n1: ∀b off,A=some ⟨b,off,none⟩→0<n→some b≠some g:=fun b off e h0=>by have:=h1 b off e h0;simp;omega
 have n2: ∀b off,A=some ⟨b,off,none⟩→0<n→some b≠some g':=fun b off e h0=>by have:=h1 b off e h0;simp;omega
 exact(((h.grown' (kT w g 0 c) n1).grown' (kT _ g 1 d) n1).grown' (kT _ g' 0 a) n2).grown' (kT _ g' 1 b) n2
theorem QC:(JB w g g' a b c d).heap.size=w.heap.size:=by simp[JB]
end
set_option maxHeartbeats 2000000 in
set_option maxRecDepth 10000 in
theorem Kg (na nb:Bool) (A B:Option Addr) (n c m d:Nat) (x y:Int) (w:World) (ha:IsInt w na A n c x) (hb:IsInt w nb B m d y) (hab:(na==nb)=false) (hn:n≤100000000) (hm:m≤100000000):
 Calls Tryz.prog 291 #[.agg #[.bool na,.slice A n c],.agg #[.bool nb,.slice B m d]] w (Ii w (x+y)):=by
 obtain⟨xs,hs,_,rfl,_⟩:=ha
 obtain⟨ys,ht,_,rfl,_⟩:=hb
 obtain⟨t,htt⟩: ∃t,fk (val xs) (val ys)=t:=⟨_,rfl⟩
 have oldA:=hs.old
 have oldB:=ht.old
 have hbel:Below w.heap.size w (xy w (.bool na) (.slice A n c) (.bool nb) (.slice B m d)):=(((fJ _ _).alloc (ck _) _).alloc (by simp) _).alloc (by simp;omega) _
 have k1:Bk (xy w (.bool na) (.slice A n c) (.bool nb) (.slice B m d)) w.heap.size 36 #[.bool na,.slice A n c]:=((Bk.new w 36 _).alloc _).alloc _
 have k2:Bk (xy w (.bool na) (.slice A n c) (.bool nb) (.slice B m d)) (w.heap.size+1) 36 #[.bool nb,.slice B m d]:=by
  have:=(Bk.new (w.alloc (.cells #[.bool na,.slice A n c] 36)) 36 #[.bool nb,.slice B m d]).alloc (.cells #[.bool false,.slice none 0 0] 36)
  simpa [xy] using this
 have k3:Bk (xy w (.bool na) (.slice A n c) (.bool nb) (.slice B m d)) (w.heap.size+1+1) 36 #[.bool false,.slice none 0 0]:=by
  have:=Bk.new ((w.alloc (.cells #[.bool na,.slice A n c] 36)).alloc (.cells #[.bool nb,.slice B m d] 36)) 36 #[.bool false,.slice none 0 0]
  simpa [xy] using this
 have hsz:(xy w (.bool na) (.slice A n c) (.bool nb) (.slice B m d)).heap.size=w.heap.size+3:=by simp[xy]
 replace hs:=hs.below hbel
 replace ht:=ht.below hbel
 have Hx:=ix (R7 na nb hab (val xs) (val ys))
 have Hy:=ix (R7 nb na (by cases na<;>cases nb<;>simp at hab⊢) (val ys) (val xs))
 go_enter Tryz.func291,Tryz.ntmps291
 go_wp2_with fail
 refine(oI A B n c m d xs ys (xy w (.bool na) (.slice A n c) (.bool nb) (.slice B m d)) hs ht).mono ?_
 rintro e w1 ⟨rfl,hb1⟩
 rw[htt]
 replace hs:=hs.below hb1
 replace ht:=ht.below hb1
 replace k1:=k1.below hb1
 replace k2:=k2.below hb1
 replace k3:=k3.below hb1
 have hs1:w.heap.size+3≤w1.heap.size:=by have:=hb1.size;omega
 replace hbel:=hbel.trans (hb1.mono (by omega))
 clear hb1 hsz
 by_cases htn:t<0
 ·have hle:val xs≤val ys:=by
   unfold fk at htt
   split at htt
   ·omega
   ·split at htt<;>omega
  clear htt
  have c10:=(k1.cell 0).trans rfl
  have c11:=(k1.cell 1).trans rfl
  have c20:=(k2.cell 0).trans rfl
  have c21:=(k2.cell 1).trans rfl
  have z10:=k1.frozen 0
  have z11:=k1.frozen 1
  have z20:=k2.frozen 0
  have z21:=k2.frozen 1
  have hs2:Sl (JB w1 w.heap.size (w.heap.size+1) (.bool na) (.slice A n c) (.bool nb) (.slice B m d)) A n c xs:=Rc hs (fun b off e h0=>by have:=oldA b off e h0;omega)
  have ht2:Sl (JB w1 w.heap.size (w.heap.size+1) (.bool na) (.slice A n c) (.bool nb) (.slice B m d)) B m d ys:=Rc ht (fun b off e h0=>by have:=oldB b off e h0;omega)
  have k12:Bk (JB w1 w.heap.size (w.heap.size+1) (.bool na) (.slice A n c) (.bool nb) (.slice B m d)) w.heap.size 36 #[.bool nb,.slice B m d]:=abW k1 (by omega)
  have k22:Bk (JB w1 w.heap.size (w.heap.size+1) (.bool na) (.slice A n c) (.bool nb) (.slice B m d)) (w.heap.size+1) 36 #[.bool na,.slice A n c]:=abH k2 (by omega)
  have k32:Bk (JB w1 w.heap.size (w.heap.size+1) (.bool na) (.slice A n c) (.bool nb) (.slice B m d)) (w.heap.size+1+1) 36 #[.bool false,.slice none 0 0]:=acD k3 (by omega) (by omega)
  have hbel2:Below w.heap.size w (JB w1 w.heap.size (w.heap.size+1) (.bool na) (.slice A n c) (.bool nb) (.slice B m d)):=Nb hbel (ck _) (by omega)
  have hs12:w.heap.size+3≤(JB w1 w.heap.size (w.heap.size+1) (.bool na) (.slice A n c) (.bool nb) (.slice B m d)).heap.size:=by rw[QC];exact hs1
  clear k1 k2 k3 hs ht hbel hs1
  go_wp2_with fail
  rw[show(((w1.setCell ⟨w.heap.size,0,none⟩ (.bool nb)).setCell ⟨w.heap.size,1,none⟩ (.slice B m d)).setCell ⟨w.heap.size+1,0,none⟩ (.bool na)).setCell ⟨w.heap.size+1,1,none⟩ (.slice A n c)=JB w1 w.heap.size (w.heap.size+1) (.bool na) (.slice A n c) (.bool nb) (.slice B m d) from rfl]
  generalize JB w1 w.heap.size (w.heap.size+1) (.bool na) (.slice A n c) (.bool nb) (.slice B m d)=w6 at*
  clear c10 c11 c20 c21 z10 z11 z20 z21
  have hs:=hs2
  have ht:=ht2
  have k1:=k12
  have k2:=k22
  have k3:=k32
  have hbel:=hbel2
  have hs1:=hs12
  clear hs2 ht2 k12 k22 k32 hbel2 hs12
  focus
   have j1:Bk w6.drew w.heap.size 36 #[.bool nb,.slice B m d]:=k1
   have j2:Bk w6.drew (w.heap.size+1) 36 #[.bool na,.slice A n c]:=k2
   have j3:Bk w6.drew (w.heap.size+1+1) 36 #[.bool false,.slice none 0 0]:=k3
   have hs0:Sl w6.drew B m d ys:=ht
   have ht0:Sl w6.drew A n c xs:=hs
   have hbd:Below w.heap.size w w6.drew:=hbel.drew
   have hq0:Below w6.heap.size w6.drew w6.drew:=fJ _ _
   have f1:w6.drew.cell? ⟨w.heap.size,0,none⟩=some (.bool nb):=(j1.cell 0).trans rfl
   have f2:w6.drew.cell? ⟨w.heap.size,1,none⟩=some (.slice B m d):=(j1.cell 1).trans rfl
   have f4:w6.drew.cell? ⟨w.heap.size+1,1,none⟩=some (.slice A n c):=(j2.cell 1).trans rfl
   clear hs ht k1 k2 k3
   go_region_held3 (fun w'=>w'.cell? ⟨w.heap.size,0,none⟩=some (.bool nb)∧w'.cell? ⟨w.heap.size,1,none⟩=some (.slice B m d)∧w'.cell? ⟨w.heap.size+1,1,none⟩=some (.slice A n c))
    (first|exact⟨f1,f2,f4⟩|exact⟨((j1.below hq0).cell 0).trans rfl,((j1.below hq0).cell 1).trans rfl,((j2.below hq0).cell 1).trans rfl⟩|exact⟨gr.cell (((j1.below hq0).cell 0).trans rfl) (by simp;omega),gr.cell (((j1.below hq0).cell 1).trans rfl) (by simp;omega),gr.cell (((j2.below hq0).cell 1).trans rfl) (by simp)⟩)
    (first
     |(go_at_call 346;refine(EO B A m d n c ys xs _ (hs0.below hq0) (ht0.below hq0) hm hle).mono ?_;rintro e w4 ⟨A4,c4,zs,rfl,hown,hval,hb4⟩;replace hown:=hown.le (b:=w6.heap.size) hq0.size;replace hq0:=hq0.trans (hb4.mono hq0.size))
     |(go_at_call 277;refine(kh nb A4 _ c4 zs _ hown.sl).mono ?_;rintro e w5 ⟨rfl,hb5⟩;have hi:=(iS hown.sl nb).below hb5;replace hq0:=hq0.trans (hb5.mono hq0.size);have hk3:=j3.below hq0;have hc0:=(hk3.cell 0).trans rfl;have hc1:=(hk3.cell 1).trans rfl;have hne:=hown.apart (g:=w.heap.size+1+1) (by omega);have hfr:=hown.fresh (k:=w.heap.size) (by omega);generalize (trm zs).length=l at*;obtain⟨z0,z1,_,g0,g1,gr,be⟩:=ug hk3 (hbd.trans (hq0.mono (by omega))) (by omega) (.bool (nb&&decide (0<l))) (.slice A4 l l)))
   have hi2:=hi.grown gr hne
   rw[hval] at hi2
   clear hi gr hown hq0 hb4 hb5 hk3 j1 j2 j3 hs0 ht0 f1 f2 f4 hbd hbel
   go_wp2
   refine bodyPost_ret (by simp[results,Tryz.results291,go_sem,z0,z1];try rfl) rfl ?_
   refine⟨_,_,_,_,rfl,?_,hfr,be⟩
   rw[Int.add_comm,←Hy.out]
   exact hi2
 ·have hle:val ys≤val xs:=by
   unfold fk at htt
   split at htt
   ·omega
   ·split at htt<;>omega
  clear htt
  go_wp2_with fail
  focus
   have j1:Bk w1.drew w.heap.size 36 #[.bool na,.slice A n c]:=k1
   have j2:Bk w1.drew (w.heap.size+1) 36 #[.bool nb,.slice B m d]:=k2
   have j3:Bk w1.drew (w.heap.size+1+1) 36 #[.bool false,.slice none 0 0]:=k3
   have hs0:Sl w1.drew A n c xs:=hs
   have ht0:Sl w1.drew B m d ys:=ht
   have hbd:Below w.heap.size w w1.drew:=hbel.drew
   have hq0:Below w1.heap.size w1.drew w1.drew:=fJ _ _
   have f1:w1.drew.cell? ⟨w.heap.size,0,none⟩=some (.bool na):=(j1.cell 0).trans rfl
   have f2:w1.drew.cell? ⟨w.heap.size,1,none⟩=some (.slice A n c):=(j1.cell 1).trans rfl
   have f4:w1.drew.cell? ⟨w.heap.size+1,1,none⟩=some (.slice B m d):=(j2.cell 1).trans rfl
   clear hs ht k1 k2 k3
   go_region_held3 (fun w'=>w'.cell? ⟨w.heap.size,0,none⟩=some (.bool na)∧w'.cell? ⟨w.heap.size,1,none⟩=some (.slice A n c)∧w'.cell? ⟨w.heap.size+1,1,none⟩=some (.slice B m d))
    (first|exact⟨f1,f2,f4⟩|exact⟨((j1.below hq0).cell 0).trans rfl,((j1.below hq0).cell 1).trans rfl,((j2.below hq0).cell 1).trans rfl⟩|exact⟨gr.cell (((j1.below hq0).cell 0).trans rfl) (by simp;omega),gr.cell (((j1.below hq0).cell 1).trans rfl) (by simp;omega),gr.cell (((j2.below hq0).cell 1).trans rfl) (by simp)⟩)
    (first
     |(go_at_call 346;refine(EO A B n c m d xs ys _ (hs0.below hq0) (ht0.below hq0) hn hle).mono ?_;rintro e w4 ⟨A4,c4,zs,rfl,hown,hval,hb4⟩;replace hown:=hown.le (b:=w1.heap.size) hq0.size;replace hq0:=hq0.trans (hb4.mono hq0.size))
     |(go_at_call 277;refine(kh na A4 _ c4 zs _ hown.sl).mono ?_;rintro e w5 ⟨rfl,hb5⟩;have hi:=(iS hown.sl na).below hb5;replace hq0:=hq0.trans (hb5.mono hq0.size);have hk3:=j3.below hq0;have hc0:=(hk3.cell 0).trans rfl;have hc1:=(hk3.cell 1).trans rfl;have hne:=hown.apart (g:=w.heap.size+1+1) (by omega);have hfr:=hown.fresh (k:=w.heap.size) (by omega);generalize (trm zs).length=l at*;obtain⟨z0,z1,_,g0,g1,gr,be⟩:=ug hk3 (hbd.trans (hq0.mono (by omega))) (by omega) (.bool (na&&decide (0<l))) (.slice A4 l l)))
   have hi2:=hi.grown gr hne
   rw[hval] at hi2
   clear hi gr hown hq0 hb4 hb5 hk3 j1 j2 j3 hs0 ht0 f1 f2 f4 hbd hbel
   go_wp2
   refine bodyPost_ret (by simp[results,Tryz.results291,go_sem,z0,z1];try rfl) rfl ?_
   refine⟨_,_,_,_,rfl,?_,hfr,be⟩
   rw[←Hx.out]
   exact hi2
theorem Kt (A B:Option Addr) (n c m d:Nat) (xs ys:List Int) (w:World) (ha:Sl w A n c xs) (hb:Sl w B m d ys) (hn:n≤100000000) (hm:m≤100000000) (h0:val ys≠0):
 Calls Tryz.prog 348 #[.slice A n c,.slice B m d] w (D2 w (val xs/val ys) (val xs%val ys)):=by
 by_cases h1:(trm ys).length=1
 ·exact Ki A B n c m d xs ys w ha hb hn h1
 ·by_cases hlt:val xs<val ys
  ·exact Ig A B n c m d xs ys w ha hb hn h1 hlt
  ·have h2:(trm ys).length≠0:=by
    intro e
    have e2:trm ys=[]:=nJ.1 e
    exact h0 (by rw[←ja,e2];rfl)
   exact Jk A B n c m d ((trm ys).length-2) xs ys w ha hb hn hm (by omega) (by omega)
theorem Dy (na nb:Bool) (A B:Option Addr) (n c m d:Nat) (x y:Int) (w:World) (ha:IsInt w na A n c x) (hb:IsInt w nb B m d y) (hn:n≤100000000) (hm:m≤100000000):
 Calls Tryz.prog 291 #[.agg #[.bool na,.slice A n c],.agg #[.bool nb,.slice B m d]] w (Ii w (x+y)):=by
 by_cases h:na=nb
 ·exact N1 na nb A B n c m d x y w ha hb h hn hm
 ·exact Kg na nb A B n c m d x y w ha hb (by simpa using h) hn hm
set_option maxRecDepth 10000 in
theorem KZ {o:Oper}{a:Act}{K:Act→World→Prop}{Q:Exit→Act→World→Prop}(s x:Operand)
 (ho:o.op=.call {callee:=.builtin .append,args:= #[s,x],argTypes:= #[34,34]})
 (A:Option Addr) (n c:Nat) (xs:List Int) (hs:a.eval s=.slice none 0 0) (hx:a.eval x=.slice A n c) (ha:Sl w A n c xs) (hn:n≤1000000000)
 (h: ∀v' w',Ow w' w.heap.size v' n xs→w.grownBy w' none→K (a.put o.dst v') w'):o.wp Tryz.prog a w K Q:=by
 obtain⟨i0,hi0,hz0,hz1,hz2⟩:=info_parts oH
 have hla:=ha.len
 cases A with
 |none=>
  have h0:n=0:=by
   rcases li n with h0|h0
   ·exact h0
   ·obtain⟨b,off,e,_⟩:=ha.1.2 h0;cases e
  subst h0
  obtain rfl:=nJ.1 hla
  have hrun:=qF (P:=Tryz.prog) w w.heap.size 34 o.type 194 i0 1 c pi hi0 (.slice none 0 0) 0 [] (ra _ _ _ _)
  unfold Oper.wp
  simp[execOp,ho,resolve,invoke,builtin,hs,hx,hrun,Result.andThen]
  exact(h _ _ ⟨ra _ _ _ _,Lim.nil⟩ (World.grownBy.refl _ _))
 |some ad=>
  refine wp_append_own w s x 34 ho w.heap.size 194 i0 (.int .u32 0) 1 4 pi hi0 hz0 hz1 hz2 rfl (by decide) (.slice none 0 0) 0 [] hs (ra _ _ _ _) ad n c (xs.map (Value.int .u32)) hx (by simp[hla]) ?_ (by intro u hu;simp at hu;obtain⟨z,_,rfl⟩:=hu;simp[Value.oneCell']) (by unfold maxLen;omega) (by omega) (ck _) ?_
  ·intro j u hu
   have hj:0<n:=by
    rcases li n with h0|h0
    ·subst h0
     obtain rfl:=nJ.1 hla
     simp at hu
    ·exact h0
   obtain⟨b,off,e,hlt,hc⟩:=ha.1.2 hj
   injection e with e
   subst e
   have:=hc j u hu
   unfold Addr.add
   split
   ·rename_i h0;subst h0;exact this
   ·exact this
  ·intro v' w' hown hgr _
   refine h v' w' ⟨by simpa using hown,ha.2.2.2⟩ ?_
   simpa [Value.ownBlock] using hgr
set_option maxHeartbeats 1000000 in
set_option maxRecDepth 10000 in
theorem Ps (na:Bool) (A:Option Addr) (n c:Nat) (x:Int) (w:World) (ha:IsInt w na A n c x) (hn:n≤100000000):
 Calls Tryz.prog 167 #[.agg #[.bool na,.slice A n c]] w (Ii w (-x)):=by
 obtain⟨xs,hs,_,rfl,_⟩:=ha
 obtain⟨s,hsn⟩: ∃s,(!na)=s:=⟨_,rfl⟩
 have e: -sg na (val xs)=sg s (val xs):=by subst hsn;cases na<;>simp[sg]
 rw[e]
 clear e
 have hbel:Below w.heap.size w ((w.alloc (.cells #[.bool na,.slice A n c] 36)).alloc (.cells #[.bool false,.slice none 0 0] 36)):=((fJ _ _).alloc (ck _) _).alloc (by simp) _
 have k1:Bk ((w.alloc (.cells #[.bool na,.slice A n c] 36)).alloc (.cells #[.bool false,.slice none 0 0] 36)) w.heap.size 36 #[.bool na,.slice A n c]:=(Bk.new w 36 _).alloc _
 have k3:Bk ((w.alloc (.cells #[.bool na,.slice A n c] 36)).alloc (.cells #[.bool false,.slice none 0 0] 36)) (w.heap.size+1) 36 #[.bool false,.slice none 0 0]:=by
  have:=Bk.new (w.alloc (.cells #[.bool na,.slice A n c] 36)) 36 #[.bool false,.slice none 0 0]
  simpa using this
 have hsz:((w.alloc (.cells #[.bool na,.slice A n c] 36)).alloc (.cells #[.bool false,.slice none 0 0] 36)).heap.size=w.heap.size+2:=by simp
 replace hs:=hs.below hbel
 go_enter Tryz.func167,Tryz.ntmps167
 go_wp2_with fail
 generalize (w.alloc (.cells #[.bool na,.slice A n c] 36)).alloc (.cells #[.bool false,.slice none 0 0] 36)=w0 at*
 have j1:Bk w0.drew w.heap.size 36 #[.bool na,.slice A n c]:=k1
 have j3:Bk w0.drew (w.heap.size+1) 36 #[.bool false,.slice none 0 0]:=k3
 have hs0:Sl w0.drew A n c xs:=hs
 have hbd:Below w.heap.size w w0.drew:=hbel.drew
 have hq0:Below w0.heap.size w0.drew w0.drew:=fJ _ _
 have f1:w0.drew.cell? ⟨w.heap.size,0,none⟩=some (.bool na):=(j1.cell 0).trans rfl
 have f2:w0.drew.cell? ⟨w.heap.size,1,none⟩=some (.slice A n c):=(j1.cell 1).trans rfl
 clear hs k1 k3
 go_region_held3 (fun w'=>w'.cell? ⟨w.heap.size,0,none⟩=some (.bool na)∧w'.cell? ⟨w.heap.size,1,none⟩=some (.slice A n c))
  (first|exact⟨f1,f2⟩|exact⟨((j1.below hq0).cell 0).trans rfl,((j1.below hq0).cell 1).trans rfl⟩|exact⟨gr.cell (((j1.below hq0).cell 0).trans rfl) (by simp),gr.cell (((j1.below hq0).cell 1).trans rfl) (by simp)⟩)
  (first
   |(refine KZ _ _ rfl A n c xs rfl rfl (hs0.below hq0) (by omega) ?_;intro v4 w4 hown hg4;obtain⟨A4,c4,rfl⟩:=hown.form;replace hown:=hown.le (b:=w0.heap.size) hq0.size;replace hq0:=hq0.grown hg4 hq0.size (by simp))
   |(go_at_call 277;refine(kh s A4 _ c4 xs _ hown.sl).mono ?_;rintro e w5 ⟨rfl,hb5⟩;have hi:=(iS hown.sl s).below hb5;replace hq0:=hq0.trans (hb5.mono hq0.size);have hk3:=j3.below hq0;have hc0:=(hk3.cell 0).trans rfl;have hc1:=(hk3.cell 1).trans rfl;have hne:=hown.apart (g:=w.heap.size+1) (by omega);have hfr:=hown.fresh (k:=w.heap.size) (by omega);generalize (trm xs).length=l at*;obtain⟨z0,z1,_,g0,g1,gr,be⟩:=ug hk3 (hbd.trans (hq0.mono (by omega))) (by omega) (.bool (s&&decide (0<l))) (.slice A4 l l)))
 have hi2:=hi.grown gr hne
 clear hi gr hown hq0 hb5 hk3 j1 j3 hs0 f1 f2 hbd hbel
 go_wp2
 refine bodyPost_ret (by simp[results,Tryz.results167,go_sem,z0,z1];try rfl) rfl ?_
 exact⟨_,_,_,_,rfl,hi2,hfr,be⟩
theorem IsInt.flip (h:IsInt w neg A n c x):IsInt w (!neg&&decide (0<n)) A n c (-x):=by
 obtain⟨s1,s2,s3,s4⟩:=h.sign
 obtain⟨xs,hs,hn,hx,hp⟩:=h
 refine⟨xs,hs,hn,?_,?_⟩
 ·cases neg
  ·by_cases h0:0<n
   ·simp[h0,sg] at hx⊢;omega
   ·have:=s3 (by omega)
    simp[h0,sg] at hx⊢;omega
  ·simp[sg] at hx⊢;omega
 ·intro h;simp at h;exact h.2
set_option maxHeartbeats 1000000 in
set_option maxRecDepth 10000 in
theorem Pa (na nb:Bool) (A B:Option Addr) (n c m d:Nat) (x y:Int) (w:World) (ha:IsInt w na A n c x) (hb:IsInt w nb B m d y) (hn:n≤100000000) (hm:m≤100000000):
 Calls Tryz.prog 376 #[.agg #[.bool na,.slice A n c],.agg #[.bool nb,.slice B m d]] w (Ii w (x-y)):=by
 have hf:=hb.flip
 obtain⟨s,hsn⟩: ∃s,(!nb&&decide (0<m))=s:=⟨_,rfl⟩
 rw[hsn] at hf
 rw[Int.sub_eq_add_neg]
 have hbel:Below w.heap.size w (xy w (.bool na) (.slice A n c) (.bool s) (.slice B m d)):=(((fJ _ _).alloc (ck _) _).alloc (by simp) _).alloc (by simp;omega) _
 have ha2:=ha.below hbel
 have hf2:=hf.below hbel
 have k3:Bk (xy w (.bool na) (.slice A n c) (.bool s) (.slice B m d)) (w.heap.size+1+1) 36 #[.bool false,.slice none 0 0]:=by
  have:=Bk.new ((w.alloc (.cells #[.bool na,.slice A n c] 36)).alloc (.cells #[.bool s,.slice B m d] 36)) 36 #[.bool false,.slice none 0 0]
  simpa [xy] using this
 have hsz:(xy w (.bool na) (.slice A n c) (.bool s) (.slice B m d)).heap.size=w.heap.size+3:=by simp[xy]
 clear ha hb hf
 cases nb
 ·replace hsn:decide (0<m)=s:=by simpa using hsn
  go_enter Tryz.func376,Tryz.ntmps376
  go_wp2_with fail
  refine(Dy _ _ _ _ _ _ _ _ _ _ _ ha2 hf2 hn hm).mono ?_
  rintro e w1 ⟨neg,A',n',c',rfl,hi,hfr,hb1⟩
  have hk3:=k3.below hb1
  have hc0:=(hk3.cell 0).trans rfl
  have hc1:=(hk3.cell 1).trans rfl
  have hne: ∀b off,A'=some ⟨b,off,none⟩→some b≠some (w.heap.size+1+1):=fun b off e=>by have:=hfr b off e;simp;omega
  have hfr2: ∀b off,A'=some ⟨b,off,none⟩→w.heap.size≤b:=fun b off e=>by have:=hfr b off e;omega
  obtain⟨z0,z1,_,g0,g1,gr,be⟩:=ug hk3 (hbel.trans (hb1.mono (by omega))) (by omega) (.bool neg) (.slice A' n' c')
  have hi2:=hi.grown gr hne
  clear hi gr hb1 hk3 k3 hbel ha2 hf2 hfr hne
  go_wp2
  refine bodyPost_ret (by simp[results,Tryz.results376,go_sem,z0,z1];try rfl) rfl ?_
  exact⟨_,_,_,_,rfl,hi2,hfr2,be⟩
 ·obtain rfl:false=s:=by simpa using hsn
  go_enter Tryz.func376,Tryz.ntmps376
  go_wp2_with fail
  refine(Dy _ _ _ _ _ _ _ _ _ _ _ ha2 hf2 hn hm).mono ?_
  rintro e w1 ⟨neg,A',n',c',rfl,hi,hfr,hb1⟩
  have hk3:=k3.below hb1
  have hc0:=(hk3.cell 0).trans rfl
  have hc1:=(hk3.cell 1).trans rfl
  have hne: ∀b off,A'=some ⟨b,off,none⟩→some b≠some (w.heap.size+1+1):=fun b off e=>by have:=hfr b off e;simp;omega
  have hfr2: ∀b off,A'=some ⟨b,off,none⟩→w.heap.size≤b:=fun b off e=>by have:=hfr b off e;omega
  obtain⟨z0,z1,_,g0,g1,gr,be⟩:=ug hk3 (hbel.trans (hb1.mono (by omega))) (by omega) (.bool neg) (.slice A' n' c')
  have hi2:=hi.grown gr hne
  clear hi gr hb1 hk3 k3 hbel ha2 hf2 hfr hne
  go_wp2
  refine bodyPost_ret (by simp[results,Tryz.results376,go_sem,z0,z1];try rfl) rfl ?_
  exact⟨_,_,_,_,rfl,hi2,hfr2,be⟩
theorem PS (na:Bool) (A:Option Addr) (n c:Nat) (xs:List Int) (w:World) (hs:Sl w A n c xs) (hn:n≤1):
 Calls Tryz.prog 347 #[.agg #[.bool na,.slice A n c]] w fun e w'=>e=.returned (.tuple #[.int .u64 (val xs),.bool true])∧Below w.heap.size w w':=by
 have hl:=hs.len
 have hbel:Below w.heap.size w (w.alloc (.cells #[.bool na,.slice A n c] 36)):=(fJ _ _).alloc (ck _) _
 rcases li n with h0|h0
 ·subst h0
  obtain rfl:=nJ.1 hl
  go_enter Tryz.func347,Tryz.ntmps347
  go_wp2
  go_ret2
  exact⟨rfl,hbel⟩
 ·obtain rfl:n=1:=by omega
  obtain⟨b,off,x,rfl,hb,hx,hc,hx0,hx1⟩:=(hs.below hbel).at_ (show 0<1 by omega)
  rw[rZ] at hc
  have hv:Hid (val xs=x):=by
   show _=_
   have h1:=bm hx.out
   rw[de (by omega)] at h1
   simp[val,uJ] at h1
   exact h1
  go_enter Tryz.func347,Tryz.ntmps347
  go_wp2
  go_ret2
  exact⟨by rw[hv.out];rfl,hbel⟩
theorem QO (na:Bool) (A:Option Addr) (c:Nat) (xs:List Int) (w:World) (hs:Sl w A 2 c xs):
 Calls Tryz.prog 347 #[.agg #[.bool na,.slice A (2:Nat) c]] w fun e w'=>e=.returned (.tuple #[.int .u64 (val xs),.bool true])∧Below w.heap.size w w':=by
 have hl:=hs.len
 have hbel:Below w.heap.size w (w.alloc (.cells #[.bool na,.slice A 2 c] 36)):=(fJ _ _).alloc (ck _) _
 obtain⟨b,off,x,rfl,hb,hx,hc,hx0,hx1⟩:=(hs.below hbel).at_ (show 0<2 by omega)
 obtain⟨_,_,y,e1,_,hy,hcy,hy0,hy1⟩:=(hs.below hbel).at_ (show 1<2 by omega)
 injection e1 with e1
 injection e1 with e1 e2 _
 subst e1 e2
 rw[rZ] at hc
 have hv:Hid (val xs=y*1000000000+x):=by
  show _=_
  have h1:=bm hx.out
  have h2:=bm hy.out
  rw[de (by omega),h1,dT] at h2
  simp[val,uJ] at h2
  omega
 go_enter Tryz.func347,Tryz.ntmps347
 go_wp2_with fail
 go_quiet (fail)
 go_wp2
 go_ret2
 exact⟨by rw[hv.out];rfl,Below.drewN' hbel _⟩
theorem No (na:Bool) (A:Option Addr) (n c:Nat) (w:World) (hn:3≤n):
 Calls Tryz.prog 347 #[.agg #[.bool na,.slice A n c]] w fun e w'=>e=.returned (.tuple #[.int .u64 0,.bool false])∧Below w.heap.size w w':=by
 have hbel:Below w.heap.size w (w.alloc (.cells #[.bool na,.slice A n c] 36)):=(fJ _ _).alloc (ck _) _
 have h0:((n:Int)==0)=false:=by simp;omega
 have h1:((n:Int)==1)=false:=by simp;omega
 have h2:((n:Int)==2)=false:=by simp;omega
 go_enter Tryz.func347,Tryz.ntmps347
 go_wp2
 go_ret2
 exact⟨rfl,hbel⟩
end Go.Proofs.YtegpmhlfjkhjmaaGreat
namespace Go.Proofs.YtegpmhlfjkhjmaaGreat
open Go Go.RowKit
variable {a:Act}{vs vs':List Value}{b k t:Nat}{E L L' V V' av av':Nat→Prop}{o:Oper}{d sl:Option Nat}{P:Program}{U:TypeId}{v:Value}{K:Value→World→Prop}{w w':World}
inductive CellD where
 |b (v:Bool)
 |i (k:IntKind) (n:Int)
 |f (g:FuncId)
 |s (n:Nat) (xs:List CellD)
 |l (x:Int)
 |p (us:List CellD)
 |k (g:FuncId) (xs:List CellD)
 |x
 |e (v:Value)
inductive RdC (av:Nat→Prop) (w:World):Value→CellD→Prop
 |b (v:Bool):RdC av w (.bool v) (.b v)
 |i (k:IntKind) (n:Int):RdC av w (.int k n) (.i k n)
 |f (g:FuncId):RdC av w (.func (.func g) #[] #[]) (.f g)
 |s0 (A:Option Addr) (c:Nat):c≤9223372036854775807→RdC av w (.slice A 0 c) (.s 0 [])
 |s (b off c sz n:Nat) (xs:List CellD) (cv:Nat→Value):0<n→n≤c→c≤9223372036854775807→xs.length=n*sz→b<w.heap.size→ ¬av b→
    (∀j,j<n*sz→w.cell? ⟨b,off+j,none⟩=some (cv j))→(∀(j:Nat) (u:CellD),xs[j]? =some u→RdC av w (cv j) u)→RdC av w (.slice (some ⟨b,off,none⟩) n c) (.s n xs)
 |l (A:Option Addr) (n c:Nat) (xs:List Int):RdI .u32 w A n xs→n≤c→c≤9223372036854775807→Lim xs→(∀b off,0<n→A=some ⟨b,off,none⟩→ ¬av b)→RdC av w (.slice A n c) (.l (val xs))
 |p (b off:Nat) (us:List CellD) (cv:Nat→Value):b<w.heap.size→ ¬av b→(∀j,j<us.length→w.cell? ⟨b,off+j,none⟩=some (cv j))→(∀(j:Nat) (u:CellD),us[j]? =some u→RdC av w (cv j) u)→RdC av w (.pointer (some ⟨b,off,none⟩)) (.p us)
 |k (g:FuncId) (cs:Array Value) (xs:List CellD):cs.size=xs.length→(∀(j:Nat) (v:Value) (u:CellD),cs[j]? =some v→xs[j]? =some u→RdC av w v u)→RdC av w (.func (.func g) #[] cs) (.k g xs)
 |x (v:Value):(∀cs,v≠ .agg cs)→(∀cs,v≠ .tuple cs)→RdC av w v .x
 |e (v:Value):(∀cs,v≠ .agg cs)→(∀cs,v≠ .tuple cs)→RdC av w v (.e v)
structure Keep (av av':Nat→Prop) (w w':World):Prop where
 size:w.heap.size≤w'.heap.size
 block: ∀b,b<w.heap.size→ ¬av b→w'.heap[b]? =w.heap[b]?
 less: ∀b,b<w.heap.size→av' b→av b
theorem Keep.below (h:Below w.heap.size w w'):Keep av av w w':=⟨h.size,fun b hb _=>h.block b hb,fun _ _ h=>h⟩
theorem og {a:Addr}(h:w'.heap[a.block]? =w.heap[a.block]?):w'.cell? a=w.cell? a:=by
 unfold World.cell?;rw[h]
theorem RdC.keep (hk:Keep av av' w w') {u:CellD}(h:RdC av w v u):RdC av' w' v u:=by
 induction h with
 |b v=>exact .b v
 |i k n=>exact .i k n
 |f g=>exact .f g
 |x v h1 h2=>exact .x v h1 h2
 |e v h1 h2=>exact .e v h1 h2
 |s0 A c hc=>exact .s0 A c hc
 |l A n c xs h0 h1 h2 h3 h4=>
  refine .l A n c xs ⟨h0.1,fun hn=>?_⟩ h1 h2 h3 (fun b off hn e hb=>?_)
  ·obtain⟨b,off,e,hlt,hc⟩:=h0.2 hn
   exact⟨b,off,e,oO hlt hk.size,fun j u hu=>(og (a:=⟨b,off+j,none⟩) (hk.block b hlt (h4 b off hn e))).trans (hc j u hu)⟩
  ·obtain⟨b',off',e',hlt,_⟩:=h0.2 hn
   rw[e] at e'
   injection e' with e'
   injection e' with e1 e2
   subst e1
   exact h4 b off hn e (hk.less b hlt hb)
 |p b off us cv h4 h5 h6 _ ih=>exact .p b off us cv (oO h4 hk.size) (fun h=>h5 (hk.less b h4 h)) (fun j hj=>(og (a:=⟨b,off+j,none⟩) (hk.block b h4 h5)).trans (h6 j hj)) ih
 |k g cs xs h _ ih=>exact .k g cs xs h ih
 |s b off c sz n xs cv h0 h1 h2 h3 h4 h5 h6 _ ih=>
  exact .s b off c sz n xs cv h0 h1 h2 h3 (oO h4 hk.size) (fun h=>h5 (hk.less b h4 h)) (fun j hj=>(og (a:=⟨b,off+j,none⟩) (hk.block b h4 h5)).trans (h6 j hj)) ih
inductive D0 where
 |c (u:CellD)
 |a (us:List CellD)
def D0.cells:D0→List CellD
 | .c u=>[u]
 | .a us=>us
def RdCs (av:Nat→Prop) (w:World) (vs:List Value) (us:List CellD):Prop:=vs.length=us.length∧ ∀(j:Nat) (v:Value) (u:CellD),vs[j]? =some v→us[j]? =some u→RdC av w v u
def RdV (av:Nat→Prop) (w:World) (v:Value):D0→Prop
 | .c u=>RdC av w v u
 | .a us=> ∃cs:Array Value,v=.agg cs∧RdCs av w cs.toList us
def RdL (av:Nat→Prop) (w:World) (vs:List Value) (ds:List D0):Prop:=vs.length=ds.length∧ ∀(j:Nat) (v:Value) (d:D0),vs[j]? =some v→ds[j]? =some d→RdV av w v d
def Xk (av:Nat→Prop) (w:World) (v:Value):List D0→Prop
 |[d]=>RdV av w v d
 |ds=> ∃vs:Array Value,v=.tuple vs∧RdL av w vs.toList ds
section
variable {av av':Nat→Prop}{w w':World}
theorem RdCs.keep (hk:Keep av av' w w') {us:List CellD}(h:RdCs av w vs us):RdCs av' w' vs us:=⟨h.1,fun j v u hv hu=>(h.2 j v u hv hu).keep hk⟩
theorem RdV.keep (hk:Keep av av' w w') {d:D0}(h:RdV av w v d):RdV av' w' v d:=by
 cases d with
 |c u=>exact RdC.keep hk h
 |a us=>obtain⟨cs,e,h⟩:=h;exact⟨cs,e,h.keep hk⟩
theorem RdL.keep (hk:Keep av av' w w') {ds:List D0}(h:RdL av w vs ds):RdL av' w' vs ds:=⟨h.1,fun j v d hv hd=>(h.2 j v d hv hd).keep hk⟩
theorem RdL.nil:RdL av w [] []:=⟨rfl,fun j v d hv=>by simp at hv⟩
theorem RdL.cons {d:D0}{ds:List D0}(h:RdV av w v d) (hs:RdL av w vs ds):RdL av w (v::vs) (d::ds):=by
 refine⟨by simp[hs.1],fun j x e hx he=>?_⟩
 cases j with
 |zero=>simp at hx he;subst hx he;exact h
 |succ j=>simp at hx he;exact hs.2 j x e hx he
theorem RdCs.nil:RdCs av w [] []:=⟨rfl,fun j v d hv=>by simp at hv⟩
theorem RdCs.cons {d:CellD}{ds:List CellD}(h:RdC av w v d) (hs:RdCs av w vs ds):RdCs av w (v::vs) (d::ds):=by
 refine⟨by simp[hs.1],fun j x e hx he=>?_⟩
 cases j with
 |zero=>simp at hx he;subst hx he;exact h
 |succ j=>simp at hx he;exact hs.2 j x e hx he
theorem RdCs.uncons {d:CellD}{ds:List CellD}(h:RdCs av w (v::vs) (d::ds)):RdC av w v d∧RdCs av w vs ds:=
 ⟨h.2 0 v d rfl rfl,by have:=h.1;simpa using this,fun j x e hx he=>h.2 (j+1) x e (by simpa using hx) (by simpa using he)⟩
theorem RdL.uncons {d:D0}{ds:List D0}(h:RdL av w (v::vs) (d::ds)):RdV av w v d∧RdL av w vs ds:=
 ⟨h.2 0 v d rfl rfl,by have:=h.1;simpa using this,fun j x e hx he=>h.2 (j+1) x e (by simpa using hx) (by simpa using he)⟩
theorem RdCs.append {us us':List CellD}(h:RdCs av w vs us) (h':RdCs av w vs' us'):RdCs av w (vs++vs') (us++us'):=by
 refine⟨by simp[h.1,h'.1],fun j v u hv hu=>?_⟩
 by_cases hj:j<vs.length
 ·rw[CK hj] at hv
  rw[CK (by rw[←h.1];exact hj)] at hu
  exact h.2 j v u hv hu
 ·rw[GH (by omega)] at hv
  rw[GH (by rw[←h.1];omega)] at hu
  rw[←h.1] at hu
  exact h'.2 _ v u hv hu
theorem RdCs.drop {us:List CellD}(h:RdCs av w vs us) (k:Nat):RdCs av w (vs.drop k) (us.drop k):=
 ⟨by simp[h.1],fun j v u hv hu=>h.2 (k+j) v u (by simpa using hv) (by simpa using hu)⟩
theorem RdCs.take {us:List CellD}(h:RdCs av w vs us) (k:Nat):RdCs av w (vs.take k) (us.take k):=by
 refine⟨by simp[h.1],fun j v u hv hu=>?_⟩
 rw[tH] at hv hu
 split at hv
 ·rename_i hj;rw[if_pos hj] at hu;exact h.2 j v u hv hu
 grind
theorem RdV.cells {d:D0}(h:RdV av w v d):RdCs av w v.cells.toList d.cells:=by
 cases d with
 |c u=>
  have e:v.cells= #[v]:=by
   cases h with
   |x v h1 h2=>cases v<;>first|rfl|exact absurd rfl (h1 _)
   |e v h1 h2=>cases v<;>first|rfl|exact absurd rfl (h1 _)
   |_=>rfl
  rw[e];exact RdCs.cons h RdCs.nil
 |a us=>obtain⟨cs,rfl,h⟩:=h;exact h
theorem RdC.one {u:CellD}(h:RdC av w v u):(∀cs,v≠ .agg cs)∧(∀cs,v≠ .tuple cs):=by
 cases h with
 |x v h1 h2=>exact⟨h1,h2⟩
 |e v h1 h2=>exact⟨h1,h2⟩
 |_=>simp
end
def fT (P:Program) (g:FuncId):Bool:=
 match P.funcs[g]? with
 |some fn=>fn.name != "runtime.NumGoroutine" && !fn.body.isNone
 |none=>false
structure Ok (P:Program) (f:FuncId) (ds rs:List D0):Prop where
 cal:fT P f=true
 run: ∀(av:Nat→Prop) (vs:Array Value) (w:World),(∀b,av b→b<w.heap.size)→RdL av w vs.toList ds→Calls P f vs w fun e w'=> ∃v,e=.returned v∧Xk av w' v rs∧Below w.heap.size w w'
def Ey (P:Program) (K:Value→World→Prop):Result Next→Prop
 | .ok (.value v) w'=>K v w'
 | .ok .skip w'=>K undef w'
 | .ok (.enter f args) w'=>Calls P f args w' fun e w''=> ∃v,e=.returned v∧K v w''
 | .ok (.row row args) w'=>Rows P row args w' fun v w''=>K v w''
 |_=>False
def Gives (P:Program) (o:Oper) (a:Act) (w:World) (K:Value→World→Prop):Prop:=Ey P K ((execOp a.eval o).run P w)
theorem Gives.wp {K':Act→World→Prop}{Q:Exit→Act→World→Prop}(h:Gives P o a w K) (hK: ∀v w',K v w'→K' (a.put o.dst v) w'):o.wp P a w K' Q:=by
 unfold Gives at h
 unfold Oper.wp
 generalize (execOp a.eval o).run P w=r at*
 cases r with
 |ok n w'=>
  cases n<;>simp only[Ey] at h<;>simp only[Oper.upon]
  case value v=>exact hK _ _ h
  case skip=>exact hK _ _ h
  case enter f args=>exact h.mono fun e w'' ⟨v,he,hv⟩=>by subst he;exact hK _ _ hv
  case row row args=>exact h.mono fun v w'' hv=>hK _ _ hv
 |halt x w'=>simp only[Ey] at h
theorem Gives.mono {K':Value→World→Prop}(h:Gives P o a w K) (hK: ∀v w',K v w'→K' v w'):Gives P o a w K':=by
 unfold Gives at*
 generalize (execOp a.eval o).run P w=r at*
 cases r with
 |ok n w'=>
  cases n<;>simp only[Ey] at h⊢
  case value v=>exact hK _ _ h
  case skip=>exact hK _ _ h
  case enter f args=>exact h.mono fun e w'' ⟨v,he,hv⟩=>⟨v,he,hK _ _ hv⟩
  case row row args=>exact h.mono fun v w'' hv=>hK _ _ hv
 |halt x w'=>simp only[Ey] at h
inductive DV where
 |v (d:D0)
 |t (ds:List D0)
 |p (k off:Nat)
 |o (k n c:Nat)
 |w (k off n c:Nat)
 |q (us:List CellD)
 |u
 |n
 |z
 |f (n:Nat) (us:List CellD)
 |tn (k n c:Nat) (ds:List D0)
 |oe (k n c:Nat) (v:Value)
def mN:DV→Option Nat
 | .p k _=>some k
 | .o k _ _=>some k
 | .w k _ _ _=>some k
 | .tn k _ _ _=>some k
 | .oe k _ _ _=>some k
 |_=>none
def aQ {α:Type}(t:Nat):List (Nat×α)→Option α
 |[]=>none
 |(k,x)::r=>bif Nat.beq k t then some x else aQ t r
structure St where
 n:Nat
 tm:List (Nat×DV)
 bx:List (Nat×TypeId×List CellD)
abbrev TF:=Nat→Option DV
abbrev BF:=Nat→Option (TypeId×List CellD)
def St.T (σ:St):TF:=fun t=>aQ t σ.tm
def St.B (σ:St):BF:=fun k=>aQ k σ.bx
def RdX (V:Nat→Prop) (w:World) (β:Nat→Nat) (v:Value):DV→Prop
 | .v d=>RdV V w v d
 | .t ds=> ∃vs:Array Value,v=.tuple vs∧RdL V w vs.toList ds
 | .p k off=>v=.pointer (some ⟨β k,off,none⟩)
 | .o k n c=>v=.slice (some ⟨β k,0,none⟩) n c
 | .w k off n c=>v=.slice (some ⟨β k,off,none⟩) n c
 | .q us=> ∃b off,∃vs:List Value,v=.pointer (some ⟨b,off,none⟩)∧b<w.heap.size∧ ¬V b∧RdCs V w vs us∧ ∀(j:Nat) (u:Value),vs[j]? =some u→w.cell? ⟨b,off+j,none⟩=some u
 | .u=>v=undef
 | .n=>True
 | .z=>v=.slice none 0 0
 | .f n us=>(∃A,v=.slice A n n)∧RdV V w v (.c (.s n us))
 | .tn k n c ds=> ∃xs:List Value,v=.tuple (.slice (some ⟨β k,0,none⟩) n c::xs).toArray∧RdL V w xs ds
 | .oe k n c u=>v=.slice (some ⟨β k,0,none⟩) n c∧v=u
theorem RdX.keep (hk:Keep V V' w w') {β:Nat→Nat}{x:DV}(h:RdX V w β v x):RdX V' w' β v x:=by
 cases x with
 |v d=>exact RdV.keep hk h
 |t ds=>obtain⟨vs,e,h⟩:=h;exact⟨vs,e,RdL.keep hk h⟩
 |p k off=>exact h
 |o k n c=>exact h
 |w k off n c=>exact h
 |q us=>
  obtain⟨b,off,vs,e,hb,hv,h,hc⟩:=h
  exact⟨b,off,vs,e,oO hb hk.size,fun h=>hv (hk.less b hb h),RdCs.keep hk h,fun j u hj=>(og (a:=⟨b,off+j,none⟩) (hk.block b hb hv)).trans (hc j u hj)⟩
 |u=>exact h
 |n=>trivial
 |z=>exact h
 |f n us=>exact⟨h.1,RdV.keep hk h.2⟩
 |tn k n c ds=>obtain⟨xs,e,h⟩:=h;exact⟨xs,e,RdL.keep hk h⟩
 |oe k n c u=>exact h
def Box (V:Nat→Prop) (w:World) (b:Nat) (T:TypeId) (cs:List CellD):Prop:=V b∧ ∃vs:Array Value,w.heap[b]? =some (.cells vs T (0,0))∧RdCs V w vs.toList cs
structure Sees (V:Nat→Prop) (L:Nat→Prop) (T:TF) (B:BF) (β:Nat→Nat) (a:Act) (w:World):Prop where
 av: ∀b,V b→b<w.heap.size
 box: ∀k U cs,B k=some (U,cs)→Box V w (β k) U cs
 tmp: ∀t x,L t→T t=some x→ ∃v,a.tmps[t]? =some v∧RdX V w β v x
inductive Eff where
 |r (x:DV)
 |a (U:TypeId) (cs:List CellD) (sl:Option Nat)
 |s (k:Nat) (U:TypeId) (cs:List CellD)
 |c (k:Nat) (x:DV)
 |rs (k:Nat) (U:TypeId) (cs:List CellD) (x:DV)
 |skip
def ZR:Option Nat→Nat→Value
 |none,b=>.pointer (some ⟨b,0,none⟩)
 |some n,b=>.slice (some ⟨b,0,none⟩) n n
def Sa:Option Nat→Nat→DV
 |none,d=>.p d 0
 |some n,d=>.o d n n
def iY (ops:Array Oper) (o:Oper):Nat→Prop:=fun t=>t∈o.looksAt ops
abbrev Ek (o:Oper) (ops:Array Oper) (a:Act):Bool:=Region.wanted o (yielded ops a.tmps)
structure Mid (b:Nat) (w w':World):Prop where
 os:w'.os=w.os
 tape:w'.tape=w.tape
 output:w'.output=w.output
 size:w.heap.size≤w'.heap.size
 block: ∀c,c<w.heap.size→c≠b→w'.heap[c]? =w.heap[c]?
def Sem (P:Program) (ops:Array Oper) (o:Oper) (T:TF) (B:BF):Eff→Prop
 | .r x=>(∀k,mN x=some k→ ∃t y,iY ops o t∧T t=some y∧mN y=some k)∧ ∀V β a w,Sees V (iY ops o) T B β a w→Ek o ops a=true∧Gives P o a w fun v w'=>RdX V w' β v x∧Below w.heap.size w w'
 | .a U cs sl=> ∀V β a w,Sees V (iY ops o) T B β a w→Ek o ops a=true∧Gives P o a w fun v w'=> ∃vs:Array Value,v=ZR sl w.heap.size∧w'=w.alloc (.cells vs U)∧RdCs V w vs.toList cs
 | .s k U cs=>o.dst=none∧(∃cs0,B k=some (U,cs0))∧ ∀V β a w,Sees V (iY ops o) T B β a w→Ek o ops a=true∧Gives P o a w fun _ w'=>
    ∃vs:Array Value,w'.heap=w.heap.setIfInBounds (β k) (.cells vs U (0,0))∧w'.os=w.os∧w'.tape=w.tape∧w'.output=w.output∧RdCs V w vs.toList cs
 | .rs k U cs x=>mN x=none∧(∃cs0,B k=some (U,cs0))∧ ∀V β a w,Sees V (iY ops o) T B β a w→Ek o ops a=true∧Gives P o a w fun v w'=>
    ∃vs:Array Value,w'.heap[β k]? =some (.cells vs U (0,0))∧Mid (β k) w w'∧RdCs V w' vs.toList cs∧RdX V w' β v x
 | .c k x=>mN x=none∧B k≠none∧ ∀V β a w,Sees V (iY ops o) T B β a w→Ek o ops a=true∧Gives P o a w fun v w'=>RdX (fun b=>V b∧b≠β k) w' β v x∧Below w.heap.size w w'
 | .skip=> ∀V β a w,Sees V (iY ops o) T B β a w→Ek o ops a=false
def ent (d:Nat):Eff→DV
 | .r x=>x
 | .a _ _ sl=>Sa sl d
 | .s _ _ _=>.u
 | .c _ x=>x
 | .rs _ _ _ x=>x
 | .skip=>.u
def ol (k:Nat) (T:TF):TF:=fun t=>match T t with
 |some y=>if mN y=some k then some .n else some y
 |none=>none
def Eff.tf (e:Eff) (dst:Option Nat) (T:TF):TF:=
 match e with
 | .c k x=>fun t=>if dst=some t then some x else ol k T t
 |e=>fun t=>if dst=some t then some (ent t e) else T t
def Eff.bf (e:Eff) (dst:Option Nat) (B:BF):BF:=
 match e with
 | .a U cs _=>fun k=>if dst=some k then some (U,cs) else B k
 | .s k' U cs=>fun k=>if k'=k then some (U,cs) else B k
 | .rs k' U cs _=>fun k=>if k'=k then some (U,cs) else B k
 | .c k' _=>fun k=>if k=k' then none else B k
 |_=>B
structure Ent where
 w:World
 E:Nat→Prop
 K:Nat
structure BelE (e:Ent) (w:World):Prop where
 os:w.os=e.w.os
 tape:w.tape=e.w.tape
 output:w.output=e.w.output
 size:e.w.heap.size≤w.heap.size
 block: ∀c,c<e.w.heap.size→ ¬e.E c→w.heap[c]? =e.w.heap[c]?
theorem BelE.refl (e:Ent):BelE e e.w:=⟨rfl,rfl,rfl,ck _,fun _ _ _=>rfl⟩
theorem BelE.next {e:Ent}(h:BelE e w) (h1:w'.os=w.os) (h2:w'.tape=w.tape) (h3:w'.output=w.output) (h4:w.heap.size≤w'.heap.size)
 (h5: ∀c,c<e.w.heap.size→ ¬e.E c→w'.heap[c]? =w.heap[c]?):BelE e w':=
 ⟨h1.trans h.os,h2.trans h.tape,h3.trans h.output,nF h.size h4,fun c hc hE=>(h5 c hc hE).trans (h.block c hc hE)⟩
theorem BelE.below {e:Ent}(h:BelE e w) (k:Below w.heap.size w w'):BelE e w':=
 h.next k.os k.tape k.output k.size (fun c hc _=>k.block c (oO hc h.size))
theorem BelE.to {K:Nat}(h:BelE ⟨w,E,K⟩ w') (hE: ∀c,¬E c):Below w.heap.size w w':=⟨h.os,h.tape,h.output,h.size,fun c hc=>h.block c hc (hE c)⟩
structure Rel (av:Nat→Prop) (w0:Ent) (n:Nat) (T:TF) (B:BF) (β:Nat→Nat) (a:Act) (w:World):Prop where
 dfr:a.defers=[]
 siz:a.tmps.size=n
 bel:BelE w0 w
 avl: ∀b,av b→b<w0.w.heap.size
 avE: ∀b,av b→ ¬w0.E b
 big:n≤w0.K
 fix: ∀b,w0.E b→B w0.K≠none→β w0.K=b
 inj: ∀k l,B k≠none→B l≠none→β k=β l→k=l
 own: ∀k,B k≠none→w0.w.heap.size≤β k∨w0.E (β k)
 wf: ∀t x k,T t=some x→mN x=some k→B k≠none
 sees:Sees (fun b=>av b∨ ∃k,B k≠none∧β k=b) (fun _=>True) T B β a w
section
variable {P:Program}{ops:Array Oper}{o:Oper}{T T':TF}{B B':BF}{av:Nat→Prop}{w0:Ent}{w:World}{n:Nat}{β:Nat→Nat}{a:Act}
theorem Rel.congr (h:Rel av w0 n T B β a w) (hT: ∀t,T' t=T t) (hB: ∀k,B' k=B k):Rel av w0 n T' B' β a w:=by
 have e1:T'=T:=funext hT
 have e2:B'=B:=funext hB
 grind
theorem AA {a:Act}(h:d≠some t):(a.put d v).tmps[t]? =a.tmps[t]? :=by
 cases d with
 |none=>rfl
 |some d=>
  have hne:d≠t:=by grind
  simp[Act.put,Array.getElem?_setIfInBounds_ne hne]
theorem CN {a:Act}{d:Nat}(h:d<a.tmps.size):(a.put (some d) v).tmps[d]? =some v:=by
 simp[Act.put,h]
theorem DC (a:Act) (d:Option Nat) (v:Value):(a.put d v).tmps.size=a.tmps.size:=by cases d<;>simp[Act.put]
theorem yE (a:Act) (d:Option Nat) (v:Value):(a.put d v).defers=a.defers:=by cases d<;>rfl
theorem Sees.of (h:Sees V L' T B β a w) (hL: ∀t,L t→L' t) (hT: ∀t x,L t→T' t=some x→T t=some x) (hB: ∀k c,B' k=some c→B k=some c):Sees V L T' B' β a w:=
 ⟨h.av,fun k U cs hk=>h.box k U cs (hB k _ hk),fun t x hl ht=>h.tmp t x (hL t hl) (hT t x hl ht)⟩
theorem Rel.value (h:Rel av w0 n T B β a w) (hd: ∀t,d=some t→t<n) {x:DV}(hb:Below w.heap.size w w')
 (hx:RdX (fun b=>av b∨ ∃k,B k≠none∧β k=b) w' β v x) (hp: ∀k,mN x=some k→B k≠none):Rel av w0 n (fun t=>if d=some t then some x else T t) B β (a.put d v) w':=by
 have hk:=Keep.below (av:=fun b=>av b∨ ∃k,B k≠none∧β k=b) hb
 refine⟨by rw[yE];exact h.dfr,by rw[DC];exact h.siz,h.bel.below hb,h.avl,h.avE,h.big,h.fix,h.inj,h.own,?_,?_,?_,?_⟩
 ·intro t y k ht hy
  split at ht
  ·grind
  ·exact h.wf t y k ht hy
 ·exact fun b hv=>oO (h.sees.av b hv) hb.size
 ·intro k U cs hc
  obtain⟨hv,vs,e,hr⟩:=h.sees.box k U cs hc
  exact⟨hv,vs,(hb.block _ (h.sees.av _ hv)).trans e,hr.keep hk⟩
 ·intro t y hl ht
  split at ht
  ·rename_i hdt
   injection ht with ht
   subst ht
   rw[hdt]
   exact⟨v,CN (by rw[h.siz];exact hd t hdt),hx⟩
  ·rename_i hdt
   obtain⟨u,e,hr⟩:=h.sees.tmp t y trivial ht
   exact⟨u,(AA hdt).trans e,hr.keep hk⟩
theorem iD (w:World) (o:Obj):(w.alloc o).heap.size=w.heap.size+1:=by simp
theorem Rel.fresh (h:Rel av w0 n T B β a w) {d:Nat}(hd:d<n) (hf:B d=none) {cs:List CellD}{vs:Array Value}{x:DV}(hw:Below w.heap.size w w') (hb1:w.heap.size≤b) (hb2:b<w'.heap.size)
 (hcl:w'.heap[b]? =some (.cells vs U (0,0))) (hr:RdCs (fun y=>(av y∨ ∃k,B k≠none∧β k=y)∨y=b) w' vs.toList cs) (hx:RdX (fun y=>(av y∨ ∃k,B k≠none∧β k=y)∨y=b) w' (fun k=>if k=d then b else β k) v x) (hp: ∀k,mN x=some k→k=d):
 Rel av w0 n (fun t=>if some d=some t then some x else T t) (fun k=>if some d=some k then some (U,cs) else B k) (fun k=>if k=d then b else β k) (a.put (some d) v) w':=by
 have hB: ∀k,(if some d=some k then some (U,cs) else B k)≠none→k≠d→B k≠none:=by
  intro k hk hne
  rw[if_neg (by simpa using fun e=>hne e.symm)] at hk
  exact hk
 have hlt: ∀k,B k≠none→β k<w.heap.size:=fun k hk=>h.sees.av _ (.inr ⟨k,hk,rfl⟩)
 have hV: ∀y,(av y∨ ∃k,(if some d=some k then some (U,cs) else B k)≠none∧(if k=d then b else β k)=y)→(av y∨ ∃k,B k≠none∧β k=y)∨y=b:=by
  rintro y (hy|⟨k,hk,hy⟩)
  ·exact .inl (.inl hy)
  ·by_cases hkd:k=d
   ·rw[if_pos hkd] at hy;exact .inr hy.symm
   ·rw[if_neg hkd] at hy;exact .inl (.inr ⟨k,hB k hk hkd,hy⟩)
 have hkeep:Keep (fun y=>av y∨ ∃k,B k≠none∧β k=y) (fun y=>av y∨ ∃k,(if some d=some k then some (U,cs) else B k)≠none∧(if k=d then b else β k)=y) w w':=
  ⟨hw.size,fun y hy _=>hw.block y hy,fun y hy hv=>(hV y hv).resolve_right (by omega)⟩
 have hkeep2:Keep (fun y=>(av y∨ ∃k,B k≠none∧β k=y)∨y=b) (fun y=>av y∨ ∃k,(if some d=some k then some (U,cs) else B k)≠none∧(if k=d then b else β k)=y) w' w':=⟨Nat.le_refl _,fun _ _ _=>rfl,fun y _ hv=>hV y hv⟩
 have hRX: ∀v x,(∀k,mN x=some k→k≠d)→RdX (fun y=>av y∨ ∃k,B k≠none∧β k=y) w β v x→RdX (fun y=>av y∨ ∃k,(if some d=some k then some (U,cs) else B k)≠none∧(if k=d then b else β k)=y) w' (fun k=>if k=d then b else β k) v x:=by
  intro v x hxk hr
  have hr2:=RdX.keep hkeep hr
  cases x with
  |p k off=>
   have hne:k≠d:=hxk k rfl
   show v=.pointer (some ⟨if k=d then b else β k,off,none⟩)
   rw[if_neg hne];exact hr
  |o k n c=>
   have hne:k≠d:=hxk k rfl
   show v=.slice (some ⟨if k=d then b else β k,0,none⟩) n c
   rw[if_neg hne];exact hr
  |w k off n c=>
   have hne:k≠d:=hxk k rfl
   show v=.slice (some ⟨if k=d then b else β k,off,none⟩) n c
   rw[if_neg hne];exact hr
  |v d=>exact hr2
  |t ds=>exact hr2
  |q us=>exact hr2
  |u=>exact hr2
  |n=>trivial
  |z=>exact hr2
  |f n us=>exact hr2
  |tn k n c ds=>
   have hne:k≠d:=hxk k rfl
   obtain⟨xs,e,h⟩:=hr2
   exact⟨xs,by show v=Value.tuple (Value.slice (some ⟨if k=d then b else β k,0,none⟩) n c::xs).toArray;rw[if_neg hne];exact e,h⟩
  |oe k n c u=>
   have hne:k≠d:=hxk k rfl
   exact⟨by show v=.slice (some ⟨if k=d then b else β k,0,none⟩) n c;rw[if_neg hne];exact hr2.1,hr2.2⟩
 refine⟨by rw[yE];exact h.dfr,by rw[DC];exact h.siz,h.bel.below hw,h.avl,h.avE,h.big,fun b hb hK=>?_,?_,?_,?_,?_,?_,?_⟩
 ·have hKd:w0.K≠d:=by have:=h.big;omega
  rw[if_neg hKd]
  exact h.fix b hb (hB _ hK hKd)
 ·intro k l hk hl e
  by_cases hkd:k=d<;>by_cases hld:l=d
  ·rw[hkd,hld]
  ·rw[if_pos hkd,if_neg hld] at e
   have:=hlt l (hB l hl hld);omega
  ·rw[if_neg hkd,if_pos hld] at e
   have:=hlt k (hB k hk hkd);omega
  ·rw[if_neg hkd,if_neg hld] at e
   exact h.inj k l (hB k hk hkd) (hB l hl hld) e
 ·intro k hk
  by_cases hkd:k=d
  ·rw[if_pos hkd];exact .inl (nF h.bel.size hb1)
  ·rw[if_neg hkd];exact h.own k (hB k hk hkd)
 ·intro t y k ht hy
  by_cases hdt:d=t
  ·rw[if_pos (by rw[hdt])] at ht
   injection ht with ht
   subst ht
   rw[hp k hy,if_pos rfl];simp
  ·rw[if_neg (by simpa using hdt)] at ht
   have h1:=h.wf t y k ht hy
   have hne:d≠k:=fun e=>h1 (by rw[←e];exact hf)
   rw[if_neg (by simpa using hne)];exact h1
 ·intro y hy
  rcases hV y hy with hv|hv
  ·have:=h.sees.av y hv;omega
  grind
 ·intro k U' cs' hk
  by_cases hkd:k=d
  ·subst hkd
   rw[if_pos rfl] at hk
   injection hk with hk
   injection hk with h1 h2
   subst h1 h2
   refine⟨.inr ⟨k,by rw[if_pos rfl];simp,rfl⟩,vs,?_,hr.keep hkeep2⟩
   grind
  ·rw[if_neg (by simpa using fun e=>hkd e.symm)] at hk
   obtain⟨hv,vs',e,hr⟩:=h.sees.box k U' cs' hk
   refine⟨.inr ⟨k,by rw[if_neg (by simpa using fun e=>hkd e.symm),hk];simp,rfl⟩,vs',?_,hr.keep hkeep⟩
   rw[if_neg hkd,hw.block _ (h.sees.av _ hv)];exact e
 ·intro t y _ ht
  by_cases hdt:d=t
  ·subst hdt
   rw[if_pos rfl] at ht
   injection ht with ht
   subst ht
   exact⟨v,CN (by rw[h.siz];exact hd),RdX.keep hkeep2 hx⟩
  ·rw[if_neg (by simpa using hdt)] at ht
   obtain⟨v,e,hr⟩:=h.sees.tmp t y trivial ht
   refine⟨v,(AA (by simpa using hdt)).trans e,hRX v y ?_ hr⟩
   intro k e2 e3
   subst e3
   exact h.wf t y _ ht e2 hf
theorem Rel.box (h:Rel av w0 n T B β a w) {d:Nat}(hd:d<n) (hf:B d=none) {cs:List CellD}{vs:Array Value}
 (hx:RdCs (fun b=>av b∨ ∃k,B k≠none∧β k=b) w vs.toList cs):
 Rel av w0 n (fun t=>if some d=some t then some (Sa sl t) else T t) (fun k=>if some d=some k then some (U,cs) else B k) (fun k=>if k=d then w.heap.size else β k) (a.put (some d) (ZR sl w.heap.size)) (w.alloc (.cells vs U)):=by
 have hw:=(fJ _ w).alloc (ck _) (.cells vs U)
 have:=h.fresh (x:=Sa sl d) (v:=ZR sl w.heap.size) hd hf hw (ck _) (by rw[iD];omega) (heap_alloc_new w _) (hx.keep ⟨hw.size,fun y hy _=>hw.block y hy,fun y hy hv=>hv.resolve_right (by omega)⟩)
  (by
   cases sl with
   |none=>show _=Value.pointer (some ⟨if d=d then w.heap.size else β d,0,none⟩);rw[if_pos rfl];rfl
   |some m=>show _=Value.slice (some ⟨if d=d then w.heap.size else β d,0,none⟩) m m;rw[if_pos rfl];rfl)
  (by cases sl<;>(intro k hk;injection hk with hk;exact hk.symm))
 grind
theorem Rel.store (h:Rel av w0 n T B β a w) {cs0 cs:List CellD}(hk:B k=some (U,cs0)) {vs:Array Value}
 (hh:w'.heap=w.heap.setIfInBounds (β k) (.cells vs U (0,0))) (ho:w'.os=w.os) (ht:w'.tape=w.tape) (hu:w'.output=w.output)
 (hx:RdCs (fun b=>av b∨ ∃k,B k≠none∧β k=b) w vs.toList cs):
 Rel av w0 n T (fun l=>if k=l then some (U,cs) else B l) β a w':=by
 have hB: ∀l,(if k=l then some (U,cs) else B l)≠none↔B l≠none:=by grind
 have hsz:w'.heap.size=w.heap.size:=by grind
 have hbk:β k<w.heap.size:=h.sees.av _ (.inr ⟨k,by rw[hk];simp,rfl⟩)
 have hoth: ∀b,b≠β k→w'.heap[b]? =w.heap[b]? :=by grind
 have hV:(fun b=>av b∨ ∃l,(if k=l then some (U,cs) else B l)≠none∧β l=b)=(fun b=>av b∨ ∃l,B l≠none∧β l=b):=by grind
 have hkeep:Keep (fun b=>av b∨ ∃l,B l≠none∧β l=b) (fun b=>av b∨ ∃l,B l≠none∧β l=b) w w':=
  ⟨by omega,fun b _ hv=>hoth b (fun e=>hv (.inr ⟨k,by rw[hk];simp,e.symm⟩)),fun _ _ h=>h⟩
 refine⟨h.dfr,h.siz,?_,h.avl,h.avE,h.big,fun b hb hK=>h.fix b hb ((hB _).1 hK),?_,?_,?_,?_⟩
 ·refine h.bel.next ho ht hu (by omega) fun b hb hE=>hoth b (fun e=>?_)
  rcases h.own k (by rw[hk];simp) with g|g
  ·omega
  grind
 ·exact fun l m hl hm=>h.inj l m ((hB l).1 hl) ((hB m).1 hm)
 ·exact fun l hl=>h.own l ((hB l).1 hl)
 ·exact fun t x l hT hx=>(hB l).2 (h.wf t x l hT hx)
 rw[hV]
 refine⟨?_,?_,?_⟩
 ·exact fun b hb=>by rw[hsz];exact h.sees.av b hb
 ·intro l U' cs' hl
  by_cases e:k=l
  ·subst e
   rw[if_pos rfl] at hl
   injection hl with hl
   injection hl with h1 h2
   subst h1 h2
   exact⟨.inr ⟨k,by rw[hk];simp,rfl⟩,vs,by rw[hh];simp[hbk],hx.keep hkeep⟩
  ·rw[if_neg e] at hl
   obtain⟨hv,vs',e',hr⟩:=h.sees.box l U' cs' hl
   exact⟨hv,vs',(hoth _ (fun e2=>e (h.inj k l (by rw[hk];simp) (by rw[hl];simp) e2.symm))).trans e',hr.keep hkeep⟩
 ·intro t x hL hT
  obtain⟨v,e,hr⟩:=h.sees.tmp t x hL hT
  exact⟨v,e,hr.keep hkeep⟩
theorem Rel.sval (h:Rel av w0 n T B β a w) {cs0 cs:List CellD}(hk:B k=some (U,cs0)) {vs:Array Value}
 (hh:w'.heap[β k]? =some (.cells vs U (0,0))) (hm:Mid (β k) w w') {d:Option Nat}(hd: ∀t,d=some t→t<n) {x:DV}{v:Value}(hp:mN x=none)
 (hc:RdCs (fun b=>av b∨ ∃k,B k≠none∧β k=b) w' vs.toList cs) (hx:RdX (fun b=>av b∨ ∃k,B k≠none∧β k=b) w' β v x):
 Rel av w0 n (fun t=>if d=some t then some x else T t) (fun l=>if k=l then some (U,cs) else B l) β (a.put d v) w':=by
 have hB: ∀l,(if k=l then some (U,cs) else B l)≠none↔B l≠none:=by grind
 have hV:(fun b=>av b∨ ∃l,(if k=l then some (U,cs) else B l)≠none∧β l=b)=(fun b=>av b∨ ∃l,B l≠none∧β l=b):=by grind
 have hkeep:Keep (fun b=>av b∨ ∃l,B l≠none∧β l=b) (fun b=>av b∨ ∃l,B l≠none∧β l=b) w w':=
  ⟨hm.size,fun b hb hv=>hm.block b hb (fun e=>hv (.inr ⟨k,by rw[hk];simp,e.symm⟩)),fun _ _ h=>h⟩
 refine⟨by rw[yE];exact h.dfr,by rw[DC];exact h.siz,?_,h.avl,h.avE,h.big,fun b hb hK=>h.fix b hb ((hB _).1 hK),?_,?_,?_,?_⟩
 ·refine h.bel.next hm.os hm.tape hm.output hm.size fun b hb hE=>hm.block b (oO hb h.bel.size) (fun e=>?_)
  rcases h.own k (by rw[hk];simp) with g|g
  ·omega
  grind
 ·exact fun l m hl hm=>h.inj l m ((hB l).1 hl) ((hB m).1 hm)
 ·exact fun l hl=>h.own l ((hB l).1 hl)
 ·intro t y l ht hy
  refine(hB l).2 ?_
  split at ht
  ·grind
  ·exact h.wf t y l ht hy
 rw[hV]
 refine⟨?_,?_,?_⟩
 ·exact fun b hb=>oO (h.sees.av b hb) hm.size
 ·intro l U' cs' hl
  by_cases e:k=l
  ·subst e
   rw[if_pos rfl] at hl
   injection hl with hl
   injection hl with h1 h2
   subst h1 h2
   exact⟨.inr ⟨k,by rw[hk];simp,rfl⟩,vs,hh,hc⟩
  ·rw[if_neg e] at hl
   obtain⟨hv,vs',e',hr⟩:=h.sees.box l U' cs' hl
   exact⟨hv,vs',(hm.block _ (h.sees.av _ hv) (fun e2=>e (h.inj k l (by rw[hk];simp) (by rw[hl];simp) e2.symm))).trans e',hr.keep hkeep⟩
 ·intro t y hl ht
  split at ht
  ·rename_i hdt
   injection ht with ht
   subst ht
   rw[hdt]
   exact⟨v,CN (by rw[h.siz];exact hd t hdt),hx⟩
  ·rename_i hdt
   obtain⟨u,e,hr⟩:=h.sees.tmp t y trivial ht
   exact⟨u,(AA hdt).trans e,hr.keep hkeep⟩
theorem Rel.drop (h:Rel av w0 n T B β a w) (k:Nat):Rel av w0 n (ol k T) (fun l=>if l=k then none else B l) β a w:=by
 have hB: ∀l,(if l=k then none else B l)≠none→B l≠none∧l≠k:=by grind
 have hkeep:Keep (fun b=>av b∨ ∃l,B l≠none∧β l=b) (fun b=>av b∨ ∃l,(if l=k then none else B l)≠none∧β l=b) w w:=
  ⟨Nat.le_refl _,fun _ _ _=>rfl,fun b _ hb=>hb.imp id fun⟨l,h1,h2⟩=>⟨l,(hB l h1).1,h2⟩⟩
 have hT: ∀t x,ol k T t=some x→x=.n∨(T t=some x∧mN x≠some k):=by
  intro t x ht
  unfold ol at ht
  grind
 refine⟨h.dfr,h.siz,h.bel,h.avl,h.avE,h.big,fun b hb hK=>h.fix b hb (hB _ hK).1,fun l m hl hm=>h.inj l m (hB l hl).1 (hB m hm).1,fun l hl=>h.own l (hB l hl).1,?_,?_,?_,?_⟩
 ·intro t x l ht hx
  rcases hT t x ht with rfl|⟨h1,h2⟩
  ·cases hx
  ·have:=h.wf t x l h1 hx
   rw[if_neg (fun e=>h2 (by rw[hx,e]))];exact this
 ·rintro b (hb|⟨l,hl,hb⟩)
  ·exact h.sees.av b (.inl hb)
  ·exact h.sees.av b (.inr ⟨l,(hB l hl).1,hb⟩)
 ·intro l U cs hl
  have hl0:(if l=k then none else B l)=some (U,cs):=hl
  have hne:l≠k:=by grind
  rw[if_neg hne] at hl0
  obtain⟨_,vs,e,hr⟩:=h.sees.box l U cs hl0
  exact⟨.inr ⟨l,by rw[if_neg hne,hl0];simp,rfl⟩,vs,e,hr.keep hkeep⟩
 ·intro t x hL ht
  rcases hT t x ht with rfl|⟨h1,_⟩
  ·unfold ol at ht
   split at ht
   ·rename_i y hy
    obtain⟨v,e,_⟩:=h.sees.tmp t y hL hy
    exact⟨v,e,trivial⟩
   grind
  ·obtain⟨v,e,hr⟩:=h.sees.tmp t x hL h1
   exact⟨v,e,hr.keep hkeep⟩
theorem FK (h:Rel av w0 n T B β a w) (hk:B k≠none):(fun b=>av b∨ ∃l,(if l=k then none else B l)≠none∧β l=b)=(fun b=>(av b∨ ∃l,B l≠none∧β l=b)∧b≠β k):=by
 funext b
 refine propext ⟨?_,?_⟩
 ·rintro(hb|⟨l,hl,hb⟩)
  ·refine⟨.inl hb,fun e=>?_⟩
   have:=h.avl b hb
   rcases h.own k hk with g|g
   ·omega
   ·exact h.avE b hb (e▸g)
  ·by_cases e:l=k
   ·grind
   ·rw[if_neg e] at hl
    exact⟨.inr ⟨l,hl,hb⟩,fun e2=>e (h.inj l k hl hk (hb.trans e2))⟩
 grind
theorem Rel.drew (h:Rel av w0 n T B β a w):Rel av w0 n T B β a w.drew:=
 ⟨h.dfr,h.siz,h.bel.below (fJ _ w).drew,h.avl,h.avE,h.big,h.fix,h.inj,h.own,h.wf,⟨h.sees.av,fun k U cs hk=>by
  obtain⟨hv,vs,e,hr⟩:=h.sees.box k U cs hk
  exact⟨hv,vs,e,hr.keep (Keep.below (fJ _ w).drew)⟩,fun t x hL hT=>by
  obtain⟨v,e,hr⟩:=h.sees.tmp t x hL hT
  exact⟨v,e,hr.keep (Keep.below (fJ _ w).drew)⟩⟩⟩
theorem Rel.step {Ts:TF}{Bs:BF}{e:Eff}(h:Rel av w0 n T B β a w) (hs:Sem P ops o Ts Bs e) (hd: ∀t,o.dst=some t→t<n)
 (hT: ∀t x,iY ops o t→Ts t=some x→T t=some x) (hB: ∀k c,Bs k=some c→B k=some c) (hf: ∀U cs sl,e=.a U cs sl→ ∃d,o.dst=some d∧B d=none)
 {Q:Exit→Act→World→Prop}{K:Act→World→Prop}(hK: ∀β' a' w',Rel av w0 n (e.tf o.dst T) (e.bf o.dst B) β' a' w'→K a' w'):
 if Region.wanted o (yielded ops a.tmps) then o.wp P a w K Q∨(o.asks P a w∧LetsOut Q) else K (a.put o.dst undef) w:=by
 have hsee:=Sees.of h.sees (L:=iY ops o) (fun _ _=>trivial) hT hB
 cases e with
 |r x=>
  obtain⟨hp,hs⟩:=hs
  obtain⟨hw,hg⟩:=hs _ β a w hsee
  rw[if_pos hw]
  refine .inl (hg.wp fun v w' ⟨hx,hb⟩=>hK β _ _ ?_)
  refine(h.value hd hb hx ?_).congr (fun t=>?_) (fun _=>rfl)
  ·intro k e
   obtain⟨t,y,hl,ht,hy⟩:=hp k e
   exact h.wf t y k (hT t _ hl ht) hy
  ·rfl
 |a U cs sl=>
  obtain⟨hw,hg⟩:=hs _ β a w hsee
  obtain⟨d,hd',hfr⟩:=hf U cs sl rfl
  rw[if_pos hw]
  refine .inl (hg.wp fun v w' ⟨vs,hv,hw',hx⟩=>hK (fun k=>if k=d then w.heap.size else β k) _ _ ?_)
  subst hv hw'
  have:=h.box (U:=U) (sl:=sl) (hd d hd') hfr hx
  rw[hd']
  refine this.congr (fun t=>?_) (fun k=>?_)
  ·unfold Eff.tf ent;rfl
  ·unfold Eff.bf;rfl
 |s k U cs=>
  obtain⟨hn,⟨cs0,hk⟩,hs⟩:=hs
  obtain⟨hw,hg⟩:=hs _ β a w hsee
  rw[if_pos hw]
  refine .inl (hg.wp fun v w' ⟨vs,hh,ho,ht,hu,hx⟩=>hK β _ _ ?_)
  rw[hn]
  refine(h.store (hB k _ hk) hh ho ht hu hx).congr (fun t=>?_) (fun l=>?_)
  ·unfold Eff.tf;simp
  ·unfold Eff.bf;rfl
 |rs k U cs x=>
  obtain⟨hp,⟨cs0,hk⟩,hs⟩:=hs
  obtain⟨hw,hg⟩:=hs _ β a w hsee
  rw[if_pos hw]
  refine .inl (hg.wp fun v w' ⟨vs,hh,hm,hc,hx⟩=>hK β _ _ ?_)
  exact(h.sval (hB k _ hk) hh hm hd hp hc hx).congr (fun t=>rfl) (fun l=>rfl)
 |c k x=>
  obtain⟨hx0,hk0,hs⟩:=hs
  obtain⟨hw,hg⟩:=hs _ β a w hsee
  rw[if_pos hw]
  refine .inl (hg.wp fun v w' ⟨hx,hb⟩=>hK β _ _ ?_)
  have hk:B k≠none:=by
   cases hc:Bs k with
   |none=>exact absurd hc hk0
   |some c=>rw[hB k c hc];simp
  have hd2:=h.drop k
  have e:=FK h hk
  refine(hd2.value hd hb (x:=x) (v:=v) (by rw[e];exact hx) (fun l hl=>by rw[hx0] at hl;cases hl)).congr (fun t=>?_) (fun l=>rfl)
  rfl
 |skip=>
  have hw:=hs _ β a w hsee
  unfold Ek at hw
  rw[if_neg (by rw[hw];simp)]
  refine hK β _ _ ?_
  refine(h.value (v:=undef) (x:=.u) hd (fJ _ _) rfl (by intro k e;cases e)).congr (fun t=>?_) (fun _=>rfl)
  rfl
end
end Go.Proofs.YtegpmhlfjkhjmaaGreat
