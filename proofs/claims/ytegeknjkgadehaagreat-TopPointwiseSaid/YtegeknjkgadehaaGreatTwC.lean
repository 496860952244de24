/-Layer 1:integers as values:FromInt64,Sign,Cmp. -/
import Derived.Test.YtegeknjkgadehaaGreatTwB
import Derived.Test.YtegeknjkgadehaaGreatProg
import Derived.Deep.RegionHeld3
import Derived.Orders
namespace Go.Proofs.YtegeknjkgadehaaGreat
open Go.RowKit
variable {cs:Array Value}{neg:Bool}{x:Int}{xs:List Int}{base c g k n:Nat}{A:Option Addr}{row:Option Nat}{t:TypeId}{w w' w0 w2:World}
theorem iI:type_of% @Bool.true_and:=@Bool.true_and
theorem j6:type_of% @List.getElem?_take:=@List.getElem?_take
theorem pU:type_of% @Bool.false_and:=@Bool.false_and
theorem uJ:type_of% @List.getElem?_append_left:=@List.getElem?_append_left
theorem tL:type_of% @List.getElem?_append_right:=@List.getElem?_append_right
def sg (neg:Bool) (v:Int):Int:=if neg then-v else v
theorem fW (v:Int):sg true v= -v:=rfl
theorem cr (v:Int):sg false v=v:=rfl
def IsInt (w:World) (neg:Bool) (A:Option Addr) (n c:Nat) (x:Int):Prop:= ∃xs,Sl w A n c xs/\Nrm xs/\x=sg neg (val xs)/\(neg=true->0<n)
def H7 (w:World) (x:Int) (e:Ending) (w':World):Prop:= ∃neg A n c,e=.returned (.agg #[.bool neg,.slice A n c])/\IsInt w' neg A n c x/\(∀b off,A=some ⟨b,off,none⟩->w.heap.size<=b)/\Below w.heap.size w w'
section
variable {w w':World}{neg:Bool}{A:Option Addr}{n c:Nat}{x:Int}{xs:List Int}
theorem IsInt.below (h:IsInt w neg A n c x) (j:Below w.heap.size w w'):IsInt w' neg A n c x:=by obtain⟨xs,u,y⟩:=h;exact⟨xs,u.below j,y⟩
theorem gT (h:Sl w A n c xs) (neg:Bool):IsInt w (neg&&decide (0<(trm xs).length)) A (trm xs).length (trm xs).length (sg neg (val xs)):=by
 have j:=h.trm;refine⟨trm xs,⟨j.1,bd _,fw j.2.1 j.2.2.1,j.2.2.2⟩,sf xs,?_,?_⟩
 ·rw[ip];cases neg;·rfl
  ·by_cases y:0<(trm xs).length;·grind
   ·have e:trm xs=[]:=iv.1 (by omega);have u:val xs=0:=by rw[<-ip,e];rfl
    rw[u];simp[sg]
 grind
theorem IsInt.le (h:IsInt w neg A n c x) (y:x<pw k) (D: -x<pw k):n<=k:=by
 obtain⟨xs,hs,u,j,_⟩:=h;rw[<-hs.len];refine u.len hs.2.2.2 ?_;cases neg;·rw[cr] at j;omega
 ·rw[fW] at j;omega
theorem IsInt.sign (h:IsInt w neg A n c x):(neg=true->x<0)/\(neg=false->0<n->0<x)/\(n=0->x=0)/\(x=0->n=0):=by
 obtain⟨xs,hs,J,u,I⟩:=h;have hl:=hs.len;have j:0<n->0<val xs:=by intro y;have D:=J.ge hs.2.2.2 (by intro e;subst e;simp at hl;omega);have:=dP (xs.length-1);omega
 have H:n=0->val xs=0:=by
  intro y;have e:xs=[]:=by grind
  rw[e];rfl
 refine⟨fun h=>?_,fun h y=>?_,fun h=>?_,fun h=>?_⟩;·subst h;rw[fW] at u;have:=j (I rfl);omega
 ·subst h;rw[cr] at u;have:=j y;omega
 ·have:=H h;rw[u,this];cases neg<;>rfl
 ·rcases iS n with D|D;·grind
  ·have:=j D;cases neg;·rw[cr] at u;omega
   ·rw[fW] at u;omega
end
theorem Bk.set (h:Bk w g t cs) (i:Nat) (v:Value):Bk (w.setCell ⟨g,i,none⟩ v) g t (cs.setIfInBounds i v):=heap_setCell_same w g i cs t v h
theorem Ow.apart (h:Ow w base (.slice A n c) n xs) (j:g<base): ∀b off,A=some ⟨b,off,none⟩->some b≠some g:=by intro b off e;have:=KA h.1 b (by rw[e];simp[Value.ownBlock]);grind
theorem Ow.fresh (h:Ow w base (.slice A n c) n xs) (j:k<=base): ∀b off,A=some ⟨b,off,none⟩->k<=b:=by intro b off e;have:=KA h.1 b (by rw[e];simp[Value.ownBlock]);omega
structure Boxed2 (w w2:World) (g:Nat) (a b:Value):Prop where
 c0:(w2.setCell ⟨g,0,none⟩ a).cell? ⟨g,0,none⟩=some a
 c1:((w2.setCell ⟨g,0,none⟩ a).setCell ⟨g,1,none⟩ b).cell? ⟨g,1,none⟩=some b
 o0:w2.cell? ⟨g,0,none⟩≠none
 f0:w2.frozen? ⟨g,0,none⟩=false
 f1:w2.frozen? ⟨g,1,none⟩=false
 gr:w2.grownBy ((w2.setCell ⟨g,0,none⟩ a).setCell ⟨g,1,none⟩ b) (some g)
 be:Below w.heap.size w ((w2.setCell ⟨g,0,none⟩ a).setCell ⟨g,1,none⟩ b)
theorem sx {p q:Value}(h:Bk w2 g t #[p,q]) (y:Below w.heap.size w w2) (J:w.heap.size<=g) (a b:Value):Boxed2 w w2 g a b:=by have D:=h.set 0 a;have I:=D.set 1 b;have H: ∀(w:World) (i:Nat) (v:Value),w.grownBy (w.setCell ⟨g,i,none⟩ v) (some g):=fun w i v=>⟨rfl,rfl,rfl,by simp,fun k _ j=>heap_setCell_other w ⟨g,i,none⟩ k v (fun e=>j (by simp[e]))⟩;have u:=ua (H w2 0 a) (H _ 1 b);exact⟨(D.cell 0).trans rfl,(I.cell 1).trans rfl,by rw[h.cell 0];simp,h.frozen 0,h.frozen 1,u,y.grown u y.size (by intro k j;injection j with j;omega)⟩
theorem IsInt.grown (h:IsInt w neg A n c x) (u:w.grownBy w' row) (j: ∀b off,A=some ⟨b,off,none⟩->some b≠row):IsInt w' neg A n c x:=by obtain⟨xs,y,D⟩:=h;exact⟨xs,y.grown u j,D⟩
theorem Pf (A B:Option Addr) (n c m d:Nat) (xs ys:List Int) (w:World) (j:Sl w A n c xs) (u:Sl w B m d ys) (y:n<=100000000) (D:m<=100000000):
 Calls Tryz.prog 196 #[.slice A n c,.slice B m d] w fun e w'=> ∃k,Ec w k (val xs+val ys) e w':=by
 by_cases h:m<=n
 ·exact((ER A B n c m d xs ys w j u y h).1).mono fun e w' h=>⟨n+1,h⟩
 ·refine((ER B A m d n c ys xs w u j D (by omega)).2 (by omega)).mono fun e w' h=>⟨m+1,?_⟩
  rw[Int.add_comm];exact h
set_option maxHeartbeats 1000000 in
set_option maxRecDepth 10000 in
theorem Jd (x:Int) (w:World) (h0: -9223372036854775808<=x) (h1:x<=9223372036854775807):Calls Tryz.prog 170 #[.int .i64 x] w (H7 w x):=by
 by_cases hx:x<0
 ·have e1:IntKind.u64.wrap (-IntKind.u64.wrap x)= -x:=by unfold IntKind.wrap;simp[IntKind.bits,IntKind.signed];omega
  go_enter Tryz.func170,Tryz.ntmps170;go_wp2_with fail;refine(ze (-x) _ (by omega) (by omega) (by omega)).mono ?_;rintro e w1 ⟨B,d,ys,rfl,j,I,u⟩;have D:=((ef w.heap.size w).alloc (bd _) (.cells #[.bool false,.slice none 0 0] 38)).trans (u.mono (by simp));go_wp2_with fail;refine(jO true B _ d ys _ j.sl).mono ?_;rintro e w2 ⟨rfl,h⟩;have H:=D.trans (h.mono D.size);have hi:=(gT j.sl true).below h;rw[I,fW,Int.neg_neg] at hi;have y:Bk w2 w.heap.size 38 #[.bool false,.slice none 0 0]:=((Bk.new w 38 #[.bool false,.slice none 0 0]).below u).below h;have a1:w2.cell? ⟨w.heap.size,0,none⟩=some (.bool false):=(y.cell 0).trans rfl;have a0:w2.cell? ⟨w.heap.size,1,none⟩=some (.slice none 0 0):=(y.cell 1).trans rfl;have N:=j.apart (g:=w.heap.size) (by simp);have R:=j.fresh (k:=w.heap.size) (by simp);have Hb:=sx y H (bd _);generalize (trm ys).length=l at*;obtain⟨k0,k1,_,f0,f1,W,be⟩:=Hb (.bool (true&&decide (0<l))) (.slice B l l);have J:=hi.grown W N;clear e1 u h j Hb hi W H D y;simp only[iI] at*;go_wp2;refine bodyPost_ret (by simp[results,Tryz.results170,go_sem,k0,k1];try rfl) rfl ?_;exact⟨_,_,_,_,rfl,J,R,be⟩
 ·have e1:IntKind.u64.wrap x=x:=by unfold IntKind.wrap;simp[IntKind.bits,IntKind.signed];omega
  go_enter Tryz.func170,Tryz.ntmps170;go_wp2_with fail;refine(ze (x) _ (by omega) (by omega) (by omega)).mono ?_;rintro e w1 ⟨B,d,ys,rfl,j,I,u⟩;have D:=((ef w.heap.size w).alloc (bd _) (.cells #[.bool false,.slice none 0 0] 38)).trans (u.mono (by simp));go_wp2_with fail;refine(jO false B _ d ys _ j.sl).mono ?_;rintro e w2 ⟨rfl,h⟩;have H:=D.trans (h.mono D.size);have hi:=(gT j.sl false).below h;rw[I,cr] at hi;have y:Bk w2 w.heap.size 38 #[.bool false,.slice none 0 0]:=((Bk.new w 38 #[.bool false,.slice none 0 0]).below u).below h;have a1:w2.cell? ⟨w.heap.size,0,none⟩=some (.bool false):=(y.cell 0).trans rfl;have a0:w2.cell? ⟨w.heap.size,1,none⟩=some (.slice none 0 0):=(y.cell 1).trans rfl;have N:=j.apart (g:=w.heap.size) (by simp);have R:=j.fresh (k:=w.heap.size) (by simp);have Hb:=sx y H (bd _);generalize (trm ys).length=l at*;obtain⟨k0,k1,_,f0,f1,W,be⟩:=Hb (.bool (false&&decide (0<l))) (.slice B l l);have J:=hi.grown W N;clear e1 u h j Hb hi W H D y;simp only[pU] at*;go_wp2;refine bodyPost_ret (by simp[results,Tryz.results170,go_sem,k0,k1];try rfl) rfl ?_;exact⟨_,_,_,_,rfl,J,R,be⟩
theorem QN (neg:Bool) (A:Option Addr) (n c:Nat) (x:Int) (w:World) (h:IsInt w neg A n c x):
 Calls Tryz.prog 105 #[.agg #[.bool neg,.slice A n c]] w fun e w'=>e=.returned (.int .i64 (dC x 0))/\Below w.heap.size w w':=by
 obtain⟨u,j,s3,y⟩:=h.sign
 cases neg
 ·rcases iS n with D|D
  ·subst D
   have e:=s3 rfl
   subst e
   clear u j s3 y h
   go_enter Tryz.func105,Tryz.ntmps105
   go_wp2
   go_ret
   exact⟨rfl,(ef _ _).alloc (bd _) _⟩
  ·have e:=gw (eA (j rfl D))
   clear u j s3 y h
   go_enter Tryz.func105,Tryz.ntmps105
   go_wp2
   go_ret
   exact⟨by rw[e.out];rfl,(ef _ _).alloc (bd _) _⟩
 ·have e:=gw (eg (u rfl))
  clear u j s3 y h
  go_enter Tryz.func105,Tryz.ntmps105
  go_wp2
  go_ret
  exact⟨by rw[e.out];rfl,(ef _ _).alloc (bd _) _⟩
theorem Ih (a b:Int):dC (-a) (-b)=dC b a:=by
 unfold dC;by_cases h:b<a;·grind
 grind
theorem IsInt.nonneg (h:IsInt w false A n c x):0<=x:=by obtain⟨xs,hs,_,j,_⟩:=h;rw[j,cr];exact cm hs.2.2.2
set_option maxHeartbeats 1000000 in
set_option maxRecDepth 10000 in
theorem Qp (I H:Bool) (A B:Option Addr) (n c m d:Nat) (x y:Int) (w:World) (u:IsInt w I A n c x) (D:IsInt w H B m d y):
 Calls Tryz.prog 109 #[.agg #[.bool I,.slice A n c],.agg #[.bool H,.slice B m d]] w fun e w'=>e=.returned (.int .i64 (dC x y))/\Below w.heap.size w w':=by
 have h:Below w.heap.size w ((w.alloc (.cells #[.bool I,.slice A n c] 38)).alloc (.cells #[.bool H,.slice B m d] 38)):=((ef _ _).alloc (bd _) _).alloc (by simp) _
 cases I<;>cases H
 ·obtain⟨xs,hs,_,rfl,_⟩:=u
  obtain⟨ys,J,_,rfl,_⟩:=D
  rw[cr,cr]
  go_enter Tryz.func109,Tryz.ntmps109
  go_wp2_with fail
  refine(nn A B n c m d xs ys _ (hs.below h) (J.below h)).mono ?_
  rintro e w1 ⟨rfl,j⟩
  go_wp2
  go_ret
  exact⟨rfl,h.trans (j.mono (by simp;omega))⟩
 ·have e:=gw (eA (show y<x by have:=u.nonneg;have:=D.sign.1 rfl;omega))
  clear u D
  go_enter Tryz.func109,Tryz.ntmps109
  go_wp2
  go_ret
  exact⟨by rw[e.out];rfl,h⟩
 ·have e:=gw (eg (show x<y by have:=D.nonneg;have:=u.sign.1 rfl;omega))
  clear u D
  go_enter Tryz.func109,Tryz.ntmps109
  go_wp2
  go_ret
  exact⟨by rw[e.out];rfl,h⟩
 ·obtain⟨xs,hs,_,rfl,_⟩:=u
  obtain⟨ys,J,_,rfl,_⟩:=D
  rw[fW,fW,Ih]
  go_enter Tryz.func109,Tryz.ntmps109
  go_wp2_with fail
  refine(nn B A m d n c ys xs _ (J.below h) (hs.below h)).mono ?_
  rintro e w1 ⟨rfl,j⟩
  go_wp2
  go_ret
  exact⟨rfl,h.trans (j.mono (by simp;omega))⟩
theorem aaa (a b:Bool) (u v:Int):sg (a !=b) (u*v)=sg a u*sg b v:=by cases a<;>cases b<;>simp[sg,Int.neg_mul,Int.mul_neg]
theorem abz (a:Bool) (u v:Int):sg a (u+v)=sg a u+sg a v:=by cases a<;>simp[sg]<;>omega
def vb (w:World) (a b:Value) (c d:Value):World:=((w.alloc (.cells #[a,b] 38)).alloc (.cells #[c,d] 38)).alloc (.cells #[.bool false,.slice none 0 0] 38)
set_option maxHeartbeats 1000000 in
set_option maxRecDepth 10000 in
theorem PW (D u:Bool) (A B:Option Addr) (n c m d:Nat) (x y:Int) (w:World) (ha:IsInt w D A n c x) (hb:IsInt w u B m d y) (hn:n<=100000000) (hm:m<=100000000):
 Calls Tryz.prog 110 #[.agg #[.bool D,.slice A n c],.agg #[.bool u,.slice B m d]] w (H7 w (x*y)):=by
 obtain⟨xs,hs,_,rfl,_⟩:=ha
 obtain⟨ys,ht,_,rfl,_⟩:=hb
 rw[<-aaa]
 obtain⟨s,R⟩: ∃s,(D !=u)=s:=⟨_,rfl⟩
 rw[R]
 replace R:(!(D==u))=s:=R
 have H:Below w.heap.size w (vb w (.bool D) (.slice A n c) (.bool u) (.slice B m d)):=(((ef _ _).alloc (bd _) _).alloc (by simp) _).alloc (by simp;omega) _
 have k1:Bk (vb w (.bool D) (.slice A n c) (.bool u) (.slice B m d)) w.heap.size 38 #[.bool D,.slice A n c]:=((Bk.new w 38 _).alloc _).alloc _
 have k2:Bk (vb w (.bool D) (.slice A n c) (.bool u) (.slice B m d)) (w.heap.size+1) 38 #[.bool u,.slice B m d]:=by have:=(Bk.new (w.alloc (.cells #[.bool D,.slice A n c] 38)) 38 #[.bool u,.slice B m d]).alloc (.cells #[.bool false,.slice none 0 0] 38);simpa [vb] using this
 have k3:Bk (vb w (.bool D) (.slice A n c) (.bool u) (.slice B m d)) (w.heap.size+1+1) 38 #[.bool false,.slice none 0 0]:=by have:=Bk.new ((w.alloc (.cells #[.bool D,.slice A n c] 38)).alloc (.cells #[.bool u,.slice B m d] 38)) 38 #[.bool false,.slice none 0 0];simpa [vb] using this
 have b0:(vb w (.bool D) (.slice A n c) (.bool u) (.slice B m d)).heap.size=w.heap.size+3:=by simp[vb]
 replace hs:=hs.below H
 replace ht:=ht.below H
 go_enter Tryz.func110,Tryz.ntmps110
 go_wp2_with fail
 rw[show((w.alloc (.cells #[.bool D,.slice A n c] 38)).alloc (.cells #[.bool u,.slice B m d] 38)).alloc (.cells #[.bool false,.slice none 0 0] 38)=vb w (.bool D) (.slice A n c) (.bool u) (.slice B m d) from rfl]
 generalize vb w (.bool D) (.slice A n c) (.bool u) (.slice B m d)=w0 at*
 have J:Bk w0.drew w.heap.size 38 #[.bool D,.slice A n c]:=k1
 have N:Bk w0.drew (w.heap.size+1) 38 #[.bool u,.slice B m d]:=k2
 have j3:Bk w0.drew (w.heap.size+1+1) 38 #[.bool false,.slice none 0 0]:=k3
 have a0:Sl w0.drew A n c xs:=hs
 have a1:Sl w0.drew B m d ys:=ht
 have a2:Below w.heap.size w w0.drew:=H.drew
 have h:Below w0.heap.size w0.drew w0.drew:=ef _ _
 have f1:w0.drew.cell? ⟨w.heap.size,0,none⟩=some (.bool D):=(J.cell 0).trans rfl
 have f2:w0.drew.cell? ⟨w.heap.size,1,none⟩=some (.slice A n c):=(J.cell 1).trans rfl
 have f3:w0.drew.cell? ⟨w.heap.size+1,0,none⟩=some (.bool u):=(N.cell 0).trans rfl
 have f4:w0.drew.cell? ⟨w.heap.size+1,1,none⟩=some (.slice B m d):=(N.cell 1).trans rfl
 clear hs ht k1 k2 k3
 go_region_held3 (fun w'=>w'.cell? ⟨w.heap.size,0,none⟩=some (.bool D)/\w'.cell? ⟨w.heap.size,1,none⟩=some (.slice A n c)/\w'.cell? ⟨w.heap.size+1,0,none⟩=some (.bool u)/\w'.cell? ⟨w.heap.size+1,1,none⟩=some (.slice B m d))
  (first|exact⟨f1,f2,f3,f4⟩|exact⟨((J.below h).cell 0).trans rfl,((J.below h).cell 1).trans rfl,((N.below h).cell 0).trans rfl,((N.below h).cell 1).trans rfl⟩|exact⟨gr.cell (((J.below h).cell 0).trans rfl) (by simp;omega),gr.cell (((J.below h).cell 1).trans rfl) (by simp;omega),gr.cell (((N.below h).cell 0).trans rfl) (by simp),gr.cell (((N.below h).cell 1).trans rfl) (by simp)⟩)
  (first
   |(go_at_call 191;refine(yK A B n c m d xs ys _ (a0.below h) (a1.below h) hn hm).mono ?_;rintro e w4 ⟨A4,c4,zs,rfl,j,a3,a5⟩;replace j:=j.le (b:=w0.heap.size) h.size;replace h:=h.trans (a5.mono h.size))
   |(go_at_call 190;refine(jO s A4 _ c4 zs _ j.sl).mono ?_;rintro e w5 ⟨rfl,W⟩;have hi:=(gT j.sl s).below W;replace h:=h.trans (W.mono h.size);have I:=j3.below h;have b2:=(I.cell 0).trans rfl;have b1:=(I.cell 1).trans rfl;have a6:=j.apart (g:=w.heap.size+1+1) (by omega);have a9:=j.fresh (k:=w.heap.size) (by omega);generalize (trm zs).length=l at*;obtain⟨z0,z1,_,g0,g1,gr,be⟩:=sx I (a2.trans (h.mono (by omega))) (by omega) (.bool (s&&decide (0<l))) (.slice A4 l l)))
 have a4:=hi.grown gr a6
 rw[a3] at a4
 clear hi gr j h a5 W I J N j3 a0 a1 f1 f2 f3 f4 a2 H
 go_wp2
 refine bodyPost_ret (by simp[results,Tryz.results110,go_sem,z0,z1];try rfl) rfl ?_
 exact⟨_,_,_,_,rfl,a4,a9,be⟩
set_option maxHeartbeats 1000000 in
set_option maxRecDepth 10000 in
theorem Nx (j nb:Bool) (A B:Option Addr) (n c m d:Nat) (x y:Int) (w:World) (ha:IsInt w j A n c x) (hb:IsInt w nb B m d y) (a9:j=nb) (hn:n<=100000000) (hm:m<=100000000):
 Calls Tryz.prog 118 #[.agg #[.bool j,.slice A n c],.agg #[.bool nb,.slice B m d]] w (H7 w (x+y)):=by
 obtain⟨xs,hs,_,rfl,_⟩:=ha
 obtain⟨ys,ht,_,rfl,_⟩:=hb
 subst a9
 rw[<-abz]
 have b2:(j==j)=true:=by simp
 have D:Below w.heap.size w (vb w (.bool j) (.slice A n c) (.bool j) (.slice B m d)):=(((ef _ _).alloc (bd _) _).alloc (by simp) _).alloc (by simp;omega) _
 have k1:Bk (vb w (.bool j) (.slice A n c) (.bool j) (.slice B m d)) w.heap.size 38 #[.bool j,.slice A n c]:=((Bk.new w 38 _).alloc _).alloc _
 have k2:Bk (vb w (.bool j) (.slice A n c) (.bool j) (.slice B m d)) (w.heap.size+1) 38 #[.bool j,.slice B m d]:=by have:=(Bk.new (w.alloc (.cells #[.bool j,.slice A n c] 38)) 38 #[.bool j,.slice B m d]).alloc (.cells #[.bool false,.slice none 0 0] 38);simpa [vb] using this
 have k3:Bk (vb w (.bool j) (.slice A n c) (.bool j) (.slice B m d)) (w.heap.size+1+1) 38 #[.bool false,.slice none 0 0]:=by have:=Bk.new ((w.alloc (.cells #[.bool j,.slice A n c] 38)).alloc (.cells #[.bool j,.slice B m d] 38)) 38 #[.bool false,.slice none 0 0];simpa [vb] using this
 have b0:(vb w (.bool j) (.slice A n c) (.bool j) (.slice B m d)).heap.size=w.heap.size+3:=by simp[vb]
 replace hs:=hs.below D
 replace ht:=ht.below D
 go_enter Tryz.func118,Tryz.ntmps118
 go_wp2_with fail
 rw[show((w.alloc (.cells #[.bool j,.slice A n c] 38)).alloc (.cells #[.bool j,.slice B m d] 38)).alloc (.cells #[.bool false,.slice none 0 0] 38)=vb w (.bool j) (.slice A n c) (.bool j) (.slice B m d) from rfl]
 generalize vb w (.bool j) (.slice A n c) (.bool j) (.slice B m d)=w0 at*
 have I:Bk w0.drew w.heap.size 38 #[.bool j,.slice A n c]:=k1
 have J:Bk w0.drew (w.heap.size+1) 38 #[.bool j,.slice B m d]:=k2
 have j3:Bk w0.drew (w.heap.size+1+1) 38 #[.bool false,.slice none 0 0]:=k3
 have W:Sl w0.drew A n c xs:=hs
 have a0:Sl w0.drew B m d ys:=ht
 have a1:Below w.heap.size w w0.drew:=D.drew
 have h:Below w0.heap.size w0.drew w0.drew:=ef _ _
 have f1:w0.drew.cell? ⟨w.heap.size,0,none⟩=some (.bool j):=(I.cell 0).trans rfl
 have f2:w0.drew.cell? ⟨w.heap.size,1,none⟩=some (.slice A n c):=(I.cell 1).trans rfl
 have f3:w0.drew.cell? ⟨w.heap.size+1,0,none⟩=some (.bool j):=(J.cell 0).trans rfl
 have f4:w0.drew.cell? ⟨w.heap.size+1,1,none⟩=some (.slice B m d):=(J.cell 1).trans rfl
 clear hs ht k1 k2 k3
 go_region_held3 (fun w'=>w'.cell? ⟨w.heap.size,0,none⟩=some (.bool j)/\w'.cell? ⟨w.heap.size,1,none⟩=some (.slice A n c)/\w'.cell? ⟨w.heap.size+1,0,none⟩=some (.bool j)/\w'.cell? ⟨w.heap.size+1,1,none⟩=some (.slice B m d))
  (first|exact⟨f1,f2,f3,f4⟩|exact⟨((I.below h).cell 0).trans rfl,((I.below h).cell 1).trans rfl,((J.below h).cell 0).trans rfl,((J.below h).cell 1).trans rfl⟩|exact⟨R.cell (((I.below h).cell 0).trans rfl) (by simp;omega),R.cell (((I.below h).cell 1).trans rfl) (by simp;omega),R.cell (((J.below h).cell 0).trans rfl) (by simp),R.cell (((J.below h).cell 1).trans rfl) (by simp)⟩)
  (first
   |(go_at_call 196;refine(Pf A B n c m d xs ys _ (W.below h) (a0.below h) hn hm).mono ?_;rintro e w4 ⟨k4,A4,c4,zs,rfl,u,a2,a4⟩;replace u:=u.le (b:=w0.heap.size) h.size;replace h:=h.trans (a4.mono h.size))
   |(go_at_call 190;refine(jO j A4 _ c4 zs _ u.sl).mono ?_;rintro e w5 ⟨rfl,N⟩;have hi:=(gT u.sl j).below N;replace h:=h.trans (N.mono h.size);have H:=j3.below h;have b3:=(H.cell 0).trans rfl;have b1:=(H.cell 1).trans rfl;have a5:=u.apart (g:=w.heap.size+1+1) (by omega);have a6:=u.fresh (k:=w.heap.size) (by omega);generalize (trm zs).length=l at*;obtain⟨z0,z1,_,g0,g1,R,be⟩:=sx H (a1.trans (h.mono (by omega))) (by omega) (.bool (j&&decide (0<l))) (.slice A4 l l)))
 have a3:=hi.grown R a5
 rw[a2] at a3
 clear hi R u h a4 N H I J j3 W a0 f1 f2 f3 f4 a1 D
 go_wp2
 refine bodyPost_ret (by simp[results,Tryz.results118,go_sem,z0,z1];try rfl) rfl ?_
 exact⟨_,_,_,_,rfl,a3,a6,be⟩
theorem SS (a b:Bool) (h:(a==b)=false) (u v:Int):sg a (u-v)=sg a u+sg b v:=by cases a<;>cases b<;>simp[sg] at h⊢ <;>omega
theorem Sl.old (h:Sl w A n c xs): ∀b off,A=some ⟨b,off,none⟩->0<n->b<w.heap.size:=by intro b off e y;obtain⟨D,j,H,u,_⟩:=h.1.2 y;grind
theorem Sl.grown' (h:Sl w A n c xs) (H:w.grownBy w' row) (D: ∀b off,A=some ⟨b,off,none⟩->0<n->some b≠row):Sl w' A n c xs:=by refine⟨⟨h.1.1,fun I=>?_⟩,h.2⟩;obtain⟨b,off,e,y,J⟩:=h.1.2 I;exact⟨b,off,e,kE y H.size,fun j u N=>H.cell (J j u N) (D b off e I)⟩
theorem jR (w:World) (g i:Nat) (v:Value):w.grownBy (w.setCell ⟨g,i,none⟩ v) (some g):=⟨rfl,rfl,rfl,by simp,fun k _ h=>heap_setCell_other w ⟨g,i,none⟩ k v (fun e=>h (by simp[e]))⟩
theorem Bk.other {g':Nat}(h:Bk w g t cs) (j:g≠g') (i:Nat) (v:Value):Bk (w.setCell ⟨g',i,none⟩ v) g t cs:=h.grown (jR w g' i v) (by simpa using j)
def Jx (w:World) (g g':Nat) (a b c d:Value):World:=(((w.setCell ⟨g,0,none⟩ c).setCell ⟨g,1,none⟩ d).setCell ⟨g',0,none⟩ a).setCell ⟨g',1,none⟩ b
section
variable {w:World}{g g':Nat}{a b c d:Value}{t:TypeId}
theorem ae4 (h:Bk w g t #[a,b]) (j:g≠g'):Bk (Jx w g g' a b c d) g t #[c,d]:=(((h.set 0 c).set 1 d).other j 0 a).other j 1 b
theorem aff (h:Bk w g' t #[c,d]) (j:g'≠g):Bk (Jx w g g' a b c d) g' t #[a,b]:=(((h.other j 0 c).other j 1 d).set 0 a).set 1 b
theorem ad5 (h:Bk w k t cs) (u:k≠g) (j:k≠g'):Bk (Jx w g g' a b c d) k t cs:=(((h.other u 0 c).other u 1 d).other j 0 a).other j 1 b
theorem NG (h:Below w0.heap.size w0 w) (u:w0.heap.size<=g) (D:w0.heap.size<=g'):Below w0.heap.size w0 (Jx w g g' a b c d):=by
 have e: ∀(x:Nat),w0.heap.size<=x-> ∀k,some x=some k->w0.heap.size<=k:=by grind
 have H:=h.grown (jR w g 0 c) h.size (e g u);have j:=H.grown (jR _ g 1 d) H.size (e g u);have y:=j.grown (jR _ g' 0 a) j.size (e g' D);exact y.grown (jR _ g' 1 b) y.size (e g' D)
theorem Pz {e:Nat}(h:Sl w A n e xs) (y: ∀b off,A=some ⟨b,off,none⟩->0<n->b<g/\b<g'):Sl (Jx w g g' a b c d) A n e xs:=by
 have u: ∀b off,A=some ⟨b,off,none⟩->0<n->some b≠some g:=fun b off e j=>by have:=y b off e j;simp;omega
 have D: ∀b off,A=some ⟨b,off,none⟩->0<n->some b≠some g':=fun b off e j=>by have:=y b off e j;simp;omega
 exact(((h.grown' (jR w g 0 c) u).grown' (jR _ g 1 d) u).grown' (jR _ g' 0 a) D).grown' (jR _ g' 1 b) D
theorem Tg:(Jx w g g' a b c d).heap.size=w.heap.size:=by simp[Jx]
end
set_option maxHeartbeats 2000000 in
set_option maxRecDepth 10000 in
theorem JH (H D:Bool) (A B:Option Addr) (n c m d:Nat) (x y:Int) (w:World) (ha:IsInt w H A n c x) (hb:IsInt w D B m d y) (b8:(H==D)=false) (hn:n<=100000000) (hm:m<=100000000):
 Calls Tryz.prog 118 #[.agg #[.bool H,.slice A n c],.agg #[.bool D,.slice B m d]] w (H7 w (x+y)):=by
 obtain⟨xs,hs,_,rfl,_⟩:=ha
 obtain⟨ys,ht,_,rfl,_⟩:=hb
 obtain⟨t,I⟩: ∃t,dC (val xs) (val ys)=t:=⟨_,rfl⟩
 have b5:=hs.old
 have c5:=ht.old
 have u:Below w.heap.size w (vb w (.bool H) (.slice A n c) (.bool D) (.slice B m d)):=(((ef _ _).alloc (bd _) _).alloc (by simp) _).alloc (by simp;omega) _
 have k1:Bk (vb w (.bool H) (.slice A n c) (.bool D) (.slice B m d)) w.heap.size 38 #[.bool H,.slice A n c]:=((Bk.new w 38 _).alloc _).alloc _
 have k2:Bk (vb w (.bool H) (.slice A n c) (.bool D) (.slice B m d)) (w.heap.size+1) 38 #[.bool D,.slice B m d]:=by have:=(Bk.new (w.alloc (.cells #[.bool H,.slice A n c] 38)) 38 #[.bool D,.slice B m d]).alloc (.cells #[.bool false,.slice none 0 0] 38);simpa [vb] using this
 have k3:Bk (vb w (.bool H) (.slice A n c) (.bool D) (.slice B m d)) (w.heap.size+1+1) 38 #[.bool false,.slice none 0 0]:=by have:=Bk.new ((w.alloc (.cells #[.bool H,.slice A n c] 38)).alloc (.cells #[.bool D,.slice B m d] 38)) 38 #[.bool false,.slice none 0 0];simpa [vb] using this
 have d0:(vb w (.bool H) (.slice A n c) (.bool D) (.slice B m d)).heap.size=w.heap.size+3:=by simp[vb]
 replace hs:=hs.below u
 replace ht:=ht.below u
 have Hx:=gw (SS H D b8 (val xs) (val ys))
 have Hy:=gw (SS D H (by cases H<;>cases D<;>simp at b8⊢) (val ys) (val xs))
 go_enter Tryz.func118,Tryz.ntmps118
 go_wp2_with fail
 refine(nn A B n c m d xs ys (vb w (.bool H) (.slice A n c) (.bool D) (.slice B m d)) hs ht).mono ?_
 rintro e w1 ⟨rfl,N⟩
 rw[I]
 replace hs:=hs.below N
 replace ht:=ht.below N
 replace k1:=k1.below N
 replace k2:=k2.below N
 replace k3:=k3.below N
 have b3:w.heap.size+3<=w1.heap.size:=by have:=N.size;omega
 replace u:=u.trans (N.mono (by omega))
 clear N d0
 by_cases e3:t<0
 ·have b0:val xs<=val ys:=by
   unfold dC at I;split at I;·omega
   ·split at I<;>omega
  clear I
  have d1:=(k1.cell 0).trans rfl
  have c9:=(k1.cell 1).trans rfl
  have d4:=(k2.cell 0).trans rfl
  have c7:=(k2.cell 1).trans rfl
  have d2:=k1.frozen 0
  have c8:=k1.frozen 1
  have c6:=k2.frozen 0
  have d3:=k2.frozen 1
  have c3:Sl (Jx w1 w.heap.size (w.heap.size+1) (.bool H) (.slice A n c) (.bool D) (.slice B m d)) A n c xs:=Pz hs (fun b off e h0=>by have:=b5 b off e h0;omega)
  have b4:Sl (Jx w1 w.heap.size (w.heap.size+1) (.bool H) (.slice A n c) (.bool D) (.slice B m d)) B m d ys:=Pz ht (fun b off e h0=>by have:=c5 b off e h0;omega)
  have b6:Bk (Jx w1 w.heap.size (w.heap.size+1) (.bool H) (.slice A n c) (.bool D) (.slice B m d)) w.heap.size 38 #[.bool D,.slice B m d]:=ae4 k1 (by omega)
  have c0:Bk (Jx w1 w.heap.size (w.heap.size+1) (.bool H) (.slice A n c) (.bool D) (.slice B m d)) (w.heap.size+1) 38 #[.bool H,.slice A n c]:=aff k2 (by omega)
  have c1:Bk (Jx w1 w.heap.size (w.heap.size+1) (.bool H) (.slice A n c) (.bool D) (.slice B m d)) (w.heap.size+1+1) 38 #[.bool false,.slice none 0 0]:=ad5 k3 (by omega) (by omega)
  have a0:Below w.heap.size w (Jx w1 w.heap.size (w.heap.size+1) (.bool H) (.slice A n c) (.bool D) (.slice B m d)):=NG u (bd _) (by omega)
  have a9:w.heap.size+3<=(Jx w1 w.heap.size (w.heap.size+1) (.bool H) (.slice A n c) (.bool D) (.slice B m d)).heap.size:=by rw[Tg];exact b3
  clear k1 k2 k3 hs ht u b3
  go_wp2_with fail
  rw[show(((w1.setCell ⟨w.heap.size,0,none⟩ (.bool D)).setCell ⟨w.heap.size,1,none⟩ (.slice B m d)).setCell ⟨w.heap.size+1,0,none⟩ (.bool H)).setCell ⟨w.heap.size+1,1,none⟩ (.slice A n c)=Jx w1 w.heap.size (w.heap.size+1) (.bool H) (.slice A n c) (.bool D) (.slice B m d) from rfl]
  generalize Jx w1 w.heap.size (w.heap.size+1) (.bool H) (.slice A n c) (.bool D) (.slice B m d)=w6 at*
  clear d1 c9 d4 c7 d2 c8 c6 d3
  have hs:=c3
  have ht:=b4
  have k1:=b6
  have k2:=c0
  have k3:=c1
  have u:=a0
  have b3:=a9
  clear c3 b4 b6 c0 c1 a0 a9
  focus
   have R:Bk w6.drew w.heap.size 38 #[.bool D,.slice B m d]:=k1
   have j2:Bk w6.drew (w.heap.size+1) 38 #[.bool H,.slice A n c]:=k2
   have j3:Bk w6.drew (w.heap.size+1+1) 38 #[.bool false,.slice none 0 0]:=k3
   have a2:Sl w6.drew B m d ys:=ht
   have a3:Sl w6.drew A n c xs:=hs
   have a4:Below w.heap.size w w6.drew:=u.drew
   have h:Below w6.heap.size w6.drew w6.drew:=ef _ _
   have f1:w6.drew.cell? ⟨w.heap.size,0,none⟩=some (.bool D):=(R.cell 0).trans rfl
   have f2:w6.drew.cell? ⟨w.heap.size,1,none⟩=some (.slice B m d):=(R.cell 1).trans rfl
   have f4:w6.drew.cell? ⟨w.heap.size+1,1,none⟩=some (.slice A n c):=(j2.cell 1).trans rfl
   clear hs ht k1 k2 k3
   go_region_held3 (fun w'=>w'.cell? ⟨w.heap.size,0,none⟩=some (.bool D)/\w'.cell? ⟨w.heap.size,1,none⟩=some (.slice B m d)/\w'.cell? ⟨w.heap.size+1,1,none⟩=some (.slice A n c))
    (first|exact⟨f1,f2,f4⟩|exact⟨((R.below h).cell 0).trans rfl,((R.below h).cell 1).trans rfl,((j2.below h).cell 1).trans rfl⟩|exact⟨gr.cell (((R.below h).cell 0).trans rfl) (by simp;omega),gr.cell (((R.below h).cell 1).trans rfl) (by simp;omega),gr.cell (((j2.below h).cell 1).trans rfl) (by simp)⟩)
    (first
     |(go_at_call 197;refine(Ex B A m d n c ys xs _ (a2.below h) (a3.below h) hm b0).mono ?_;rintro e w4 ⟨A4,c4,zs,rfl,j,a5,a6⟩;replace j:=j.le (b:=w6.heap.size) h.size;replace h:=h.trans (a6.mono h.size))
     |(go_at_call 190;refine(jO D A4 _ c4 zs _ j.sl).mono ?_;rintro e w5 ⟨rfl,W⟩;have hi:=(gT j.sl D).below W;replace h:=h.trans (W.mono h.size);have J:=j3.below h;have e2:=(J.cell 0).trans rfl;have e1:=(J.cell 1).trans rfl;have b2:=j.apart (g:=w.heap.size+1+1) (by omega);have b1:=j.fresh (k:=w.heap.size) (by omega);generalize (trm zs).length=l at*;obtain⟨z0,z1,_,g0,g1,gr,be⟩:=sx J (a4.trans (h.mono (by omega))) (by omega) (.bool (D&&decide (0<l))) (.slice A4 l l)))
   have a1:=hi.grown gr b2
   rw[a5] at a1
   clear hi gr j h a6 W J R j2 j3 a2 a3 f1 f2 f4 a4 u
   go_wp2
   refine bodyPost_ret (by simp[results,Tryz.results118,go_sem,z0,z1];try rfl) rfl ?_
   refine⟨_,_,_,_,rfl,?_,b1,be⟩
   rw[Int.add_comm,<-Hy.out]
   exact a1
 ·have b0:val ys<=val xs:=by
   unfold dC at I;split at I;·omega
   ·split at I<;>omega
  clear I
  go_wp2_with fail
  focus
   have R:Bk w1.drew w.heap.size 38 #[.bool H,.slice A n c]:=k1
   have j2:Bk w1.drew (w.heap.size+1) 38 #[.bool D,.slice B m d]:=k2
   have j3:Bk w1.drew (w.heap.size+1+1) 38 #[.bool false,.slice none 0 0]:=k3
   have a2:Sl w1.drew A n c xs:=hs
   have a3:Sl w1.drew B m d ys:=ht
   have a4:Below w.heap.size w w1.drew:=u.drew
   have h:Below w1.heap.size w1.drew w1.drew:=ef _ _
   have f1:w1.drew.cell? ⟨w.heap.size,0,none⟩=some (.bool H):=(R.cell 0).trans rfl
   have f2:w1.drew.cell? ⟨w.heap.size,1,none⟩=some (.slice A n c):=(R.cell 1).trans rfl
   have f4:w1.drew.cell? ⟨w.heap.size+1,1,none⟩=some (.slice B m d):=(j2.cell 1).trans rfl
   clear hs ht k1 k2 k3
   go_region_held3 (fun w'=>w'.cell? ⟨w.heap.size,0,none⟩=some (.bool H)/\w'.cell? ⟨w.heap.size,1,none⟩=some (.slice A n c)/\w'.cell? ⟨w.heap.size+1,1,none⟩=some (.slice B m d))
    (first|exact⟨f1,f2,f4⟩|exact⟨((R.below h).cell 0).trans rfl,((R.below h).cell 1).trans rfl,((j2.below h).cell 1).trans rfl⟩|exact⟨gr.cell (((R.below h).cell 0).trans rfl) (by simp;omega),gr.cell (((R.below h).cell 1).trans rfl) (by simp;omega),gr.cell (((j2.below h).cell 1).trans rfl) (by simp)⟩)
    (first
     |(go_at_call 197;refine(Ex A B n c m d xs ys _ (a2.below h) (a3.below h) hn b0).mono ?_;rintro e w4 ⟨A4,c4,zs,rfl,j,a5,a6⟩;replace j:=j.le (b:=w1.heap.size) h.size;replace h:=h.trans (a6.mono h.size))
     |(go_at_call 190;refine(jO H A4 _ c4 zs _ j.sl).mono ?_;rintro e w5 ⟨rfl,W⟩;have hi:=(gT j.sl H).below W;replace h:=h.trans (W.mono h.size);have J:=j3.below h;have e2:=(J.cell 0).trans rfl;have e1:=(J.cell 1).trans rfl;have b2:=j.apart (g:=w.heap.size+1+1) (by omega);have b1:=j.fresh (k:=w.heap.size) (by omega);generalize (trm zs).length=l at*;obtain⟨z0,z1,_,g0,g1,gr,be⟩:=sx J (a4.trans (h.mono (by omega))) (by omega) (.bool (H&&decide (0<l))) (.slice A4 l l)))
   have a1:=hi.grown gr b2
   rw[a5] at a1
   clear hi gr j h a6 W J R j2 j3 a2 a3 f1 f2 f4 a4 u
   go_wp2
   refine bodyPost_ret (by simp[results,Tryz.results118,go_sem,z0,z1];try rfl) rfl ?_
   refine⟨_,_,_,_,rfl,?_,b1,be⟩
   rw[<-Hx.out]
   exact a1
theorem JQ (A B:Option Addr) (n c m d:Nat) (xs ys:List Int) (w:World) (j:Sl w A n c xs) (u:Sl w B m d ys) (h:n<=100000000) (H:m<=100000000) (I:val ys≠0):
 Calls Tryz.prog 263 #[.slice A n c,.slice B m d] w (CE w (val xs/val ys) (val xs%val ys)):=by
 by_cases D:(trm ys).length=1
 ·exact J9 A B n c m d xs ys w j u h D
 ·by_cases y:val xs<val ys
  ·exact IJ A B n c m d xs ys w j u h D y
  ·have N:(trm ys).length≠0:=by intro e;have J:trm ys=[]:=iv.1 e;exact I (by rw[<-ip,J];rfl)
   exact Hg A B n c m d ((trm ys).length-2) xs ys w j u h H (by omega) (by omega)
theorem Bl (u j:Bool) (A B:Option Addr) (n c m d:Nat) (x y:Int) (w:World) (H:IsInt w u A n c x) (I:IsInt w j B m d y) (D:n<=100000000) (J:m<=100000000):
 Calls Tryz.prog 118 #[.agg #[.bool u,.slice A n c],.agg #[.bool j,.slice B m d]] w (H7 w (x+y)):=by
 by_cases h:u=j
 ·exact Nx u j A B n c m d x y w H I h D J
 ·exact JH u j A B n c m d x y w H I (by simpa using h) D J
set_option maxRecDepth 10000 in
theorem LC {o:Oper}{a:Act}{K:Act->World->Prop}{Q:Exit->Act->World->Prop}(s x:Operand)
 (ho:o.op=.call {callee:=.builtin .append,args:= #[s,x],argTypes:= #[36,36]})
 (A:Option Addr) (n c:Nat) (xs:List Int) (hs:a.eval s=.slice none 0 0) (hx:a.eval x=.slice A n c) (R:Sl w A n c xs) (hn:n<=1000000000)
 (h: ∀W w',Ow w' w.heap.size W n xs->w.grownBy w' none->K (a.put o.dst W) w'):o.wp Tryz.prog a w K Q:=by
 obtain⟨i0,H,a3,a2,a1⟩:=info_parts nj
 have D:=R.len
 cases A with
 |none=>
  have y:n=0:=by
   rcases iS n with y|y;·exact y
   ·obtain⟨b,off,e,_⟩:=R.1.2 y;cases e
  subst y
  obtain rfl:=iv.1 D
  have N:=oP (P:=Tryz.prog) w w.heap.size 36 o.type 255 i0 1 c nL H (.slice none 0 0) 0 [] (pB _ _ _ _)
  unfold Oper.wp
  simp[execOp,ho,resolve,invoke,builtin,hs,hx,N,Result.andThen]
  exact(h _ _ ⟨pB _ _ _ _,Lim.nil⟩ (World.grownBy.refl _ _))
 |some ad=>
  refine wp_append_own w s x 36 ho w.heap.size 255 i0 (.int .u32 0) 1 4 nL H a3 a2 a1 rfl (by decide) (.slice none 0 0) 0 [] hs (pB _ _ _ _) ad n c (xs.map (Value.int .u32)) hx (by simp[D]) ?_ (by intro u I;simp at I;obtain⟨z,_,rfl⟩:=I;simp[Value.oneCell']) (by unfold maxLen;omega) (by omega) (bd _) ?_
  ·intro j u I
   have hj:0<n:=by
    rcases iS n with y|y
    ·subst y;obtain rfl:=iv.1 D;simp at I
    ·exact y
   obtain⟨b,off,e,a4,hc⟩:=R.1.2 hj
   injection e with e
   subst e
   have:=hc j u I
   unfold Addr.add
   split
   ·rename_i y;subst y;exact this
   ·exact this
  ·intro W w' J a0 _
   refine h W w' ⟨by simpa using J,R.2.2.2⟩ ?_
   simpa [Value.ownBlock] using a0
set_option maxHeartbeats 1000000 in
set_option maxRecDepth 10000 in
theorem TJ (u:Bool) (A:Option Addr) (n c:Nat) (x:Int) (w:World) (ha:IsInt w u A n c x) (hn:n<=100000000):
 Calls Tryz.prog 165 #[.agg #[.bool u,.slice A n c]] w (H7 w (-x)):=by
 obtain⟨xs,hs,_,rfl,_⟩:=ha
 obtain⟨s,a3⟩: ∃s,(!u)=s:=⟨_,rfl⟩
 have e: -sg u (val xs)=sg s (val xs):=by subst a3;cases u<;>simp[sg]
 rw[e]
 clear e
 have y:Below w.heap.size w ((w.alloc (.cells #[.bool u,.slice A n c] 38)).alloc (.cells #[.bool false,.slice none 0 0] 38)):=((ef _ _).alloc (bd _) _).alloc (by simp) _
 have k1:Bk ((w.alloc (.cells #[.bool u,.slice A n c] 38)).alloc (.cells #[.bool false,.slice none 0 0] 38)) w.heap.size 38 #[.bool u,.slice A n c]:=(Bk.new w 38 _).alloc _
 have k3:Bk ((w.alloc (.cells #[.bool u,.slice A n c] 38)).alloc (.cells #[.bool false,.slice none 0 0] 38)) (w.heap.size+1) 38 #[.bool false,.slice none 0 0]:=by have:=Bk.new (w.alloc (.cells #[.bool u,.slice A n c] 38)) 38 #[.bool false,.slice none 0 0];simpa using this
 have a4:((w.alloc (.cells #[.bool u,.slice A n c] 38)).alloc (.cells #[.bool false,.slice none 0 0] 38)).heap.size=w.heap.size+2:=by simp
 replace hs:=hs.below y
 go_enter Tryz.func165,Tryz.ntmps165
 go_wp2_with fail
 generalize (w.alloc (.cells #[.bool u,.slice A n c] 38)).alloc (.cells #[.bool false,.slice none 0 0] 38)=w0 at*
 have H:Bk w0.drew w.heap.size 38 #[.bool u,.slice A n c]:=k1
 have j3:Bk w0.drew (w.heap.size+1) 38 #[.bool false,.slice none 0 0]:=k3
 have J:Sl w0.drew A n c xs:=hs
 have N:Below w.heap.size w w0.drew:=y.drew
 have h:Below w0.heap.size w0.drew w0.drew:=ef _ _
 have f1:w0.drew.cell? ⟨w.heap.size,0,none⟩=some (.bool u):=(H.cell 0).trans rfl
 have f2:w0.drew.cell? ⟨w.heap.size,1,none⟩=some (.slice A n c):=(H.cell 1).trans rfl
 clear hs k1 k3
 go_region_held3 (fun w'=>w'.cell? ⟨w.heap.size,0,none⟩=some (.bool u)/\w'.cell? ⟨w.heap.size,1,none⟩=some (.slice A n c))
  (first|exact⟨f1,f2⟩|exact⟨((H.below h).cell 0).trans rfl,((H.below h).cell 1).trans rfl⟩|exact⟨R.cell (((H.below h).cell 0).trans rfl) (by simp),R.cell (((H.below h).cell 1).trans rfl) (by simp)⟩)
  (first
   |(refine LC _ _ rfl A n c xs rfl rfl (J.below h) (by omega) ?_;intro v4 w4 j a2;obtain⟨A4,c4,rfl⟩:=j.form;replace j:=j.le (b:=w0.heap.size) h.size;replace h:=h.grown a2 h.size (by simp))
   |(go_at_call 190;refine(jO s A4 _ c4 xs _ j.sl).mono ?_;rintro e w5 ⟨rfl,I⟩;have hi:=(gT j.sl s).below I;replace h:=h.trans (I.mono h.size);have D:=j3.below h;have a6:=(D.cell 0).trans rfl;have a5:=(D.cell 1).trans rfl;have W:=j.apart (g:=w.heap.size+1) (by omega);have a0:=j.fresh (k:=w.heap.size) (by omega);generalize (trm xs).length=l at*;obtain⟨z0,z1,_,g0,g1,R,be⟩:=sx D (N.trans (h.mono (by omega))) (by omega) (.bool (s&&decide (0<l))) (.slice A4 l l)))
 have a1:=hi.grown R W
 clear hi R j h I D H j3 J f1 f2 N y
 go_wp2
 refine bodyPost_ret (by simp[results,Tryz.results165,go_sem,z0,z1];try rfl) rfl ?_
 exact⟨_,_,_,_,rfl,a1,a0,be⟩
theorem IsInt.flip (h:IsInt w neg A n c x):IsInt w (!neg&&decide (0<n)) A n c (-x):=by
 obtain⟨J,H,s3,I⟩:=h.sign;obtain⟨xs,hs,y,j,D⟩:=h;refine⟨xs,hs,y,?_,?_⟩
 ·cases neg
  ·by_cases u:0<n;·simp[u,sg] at j⊢;omega
   ·have:=s3 (by omega);simp[u,sg] at j⊢;omega
  ·simp[sg] at j⊢;omega
 ·intro h;simp at h;exact h.2
set_option maxHeartbeats 1000000 in
set_option maxRecDepth 10000 in
theorem QX (na nb:Bool) (A B:Option Addr) (n c m d:Nat) (x y:Int) (w:World) (ha:IsInt w na A n c x) (hb:IsInt w nb B m d y) (hn:n<=100000000) (hm:m<=100000000):
 Calls Tryz.prog 317 #[.agg #[.bool na,.slice A n c],.agg #[.bool nb,.slice B m d]] w (H7 w (x-y)):=by
 have hf:=hb.flip
 obtain⟨s,N⟩: ∃s,(!nb&&decide (0<m))=s:=⟨_,rfl⟩
 rw[N] at hf
 rw[Int.sub_eq_add_neg]
 have h:Below w.heap.size w (vb w (.bool na) (.slice A n c) (.bool s) (.slice B m d)):=(((ef _ _).alloc (bd _) _).alloc (by simp) _).alloc (by simp;omega) _
 have R:=ha.below h
 have J:=hf.below h
 have k3:Bk (vb w (.bool na) (.slice A n c) (.bool s) (.slice B m d)) (w.heap.size+1+1) 38 #[.bool false,.slice none 0 0]:=by have:=Bk.new ((w.alloc (.cells #[.bool na,.slice A n c] 38)).alloc (.cells #[.bool s,.slice B m d] 38)) 38 #[.bool false,.slice none 0 0];simpa [vb] using this
 have a3:(vb w (.bool na) (.slice A n c) (.bool s) (.slice B m d)).heap.size=w.heap.size+3:=by simp[vb]
 clear ha hb hf
 cases nb
 ·replace N:decide (0<m)=s:=by simpa using N
  go_enter Tryz.func317,Tryz.ntmps317
  go_wp2_with fail
  refine(Bl _ _ _ _ _ _ _ _ _ _ _ R J hn hm).mono ?_
  rintro e w1 ⟨neg,W,n',c',rfl,hi,D,u⟩
  have j:=k3.below u
  have a2:=(j.cell 0).trans rfl
  have a1:=(j.cell 1).trans rfl
  have H: ∀b off,W=some ⟨b,off,none⟩->some b≠some (w.heap.size+1+1):=fun b off e=>by have:=D b off e;simp;omega
  have I: ∀b off,W=some ⟨b,off,none⟩->w.heap.size<=b:=fun b off e=>by have:=D b off e;omega
  obtain⟨z0,z1,_,g0,g1,gr,be⟩:=sx j (h.trans (u.mono (by omega))) (by omega) (.bool neg) (.slice W n' c')
  have a0:=hi.grown gr H
  clear hi gr u j k3 h R J D H
  go_wp2
  refine bodyPost_ret (by simp[results,Tryz.results317,go_sem,z0,z1];try rfl) rfl ?_
  exact⟨_,_,_,_,rfl,a0,I,be⟩
 ·obtain rfl:false=s:=by simpa using N
  go_enter Tryz.func317,Tryz.ntmps317
  go_wp2_with fail
  refine(Bl _ _ _ _ _ _ _ _ _ _ _ R J hn hm).mono ?_
  rintro e w1 ⟨neg,W,n',c',rfl,hi,D,u⟩
  have j:=k3.below u
  have a2:=(j.cell 0).trans rfl
  have a1:=(j.cell 1).trans rfl
  have H: ∀b off,W=some ⟨b,off,none⟩->some b≠some (w.heap.size+1+1):=fun b off e=>by have:=D b off e;simp;omega
  have I: ∀b off,W=some ⟨b,off,none⟩->w.heap.size<=b:=fun b off e=>by have:=D b off e;omega
  obtain⟨z0,z1,_,g0,g1,gr,be⟩:=sx j (h.trans (u.mono (by omega))) (by omega) (.bool neg) (.slice W n' c')
  have a0:=hi.grown gr H
  clear hi gr u j k3 h R J D H
  go_wp2
  refine bodyPost_ret (by simp[results,Tryz.results317,go_sem,z0,z1];try rfl) rfl ?_
  exact⟨_,_,_,_,rfl,a0,I,be⟩
theorem Pg (y:Bool) (A:Option Addr) (n c:Nat) (xs:List Int) (w:World) (hs:Sl w A n c xs) (R:n<=1):
 Calls Tryz.prog 262 #[.agg #[.bool y,.slice A n c]] w fun e w'=>e=.returned (.tuple #[.int .u64 (val xs),.bool true])/\Below w.heap.size w w':=by
 have hl:=hs.len
 have h:Below w.heap.size w (w.alloc (.cells #[.bool y,.slice A n c] 38)):=(ef _ _).alloc (bd _) _
 rcases iS n with u|u
 ·subst u
  obtain rfl:=iv.1 hl
  go_enter Tryz.func262,Tryz.ntmps262
  go_wp2
  go_ret2
  exact⟨rfl,h⟩
 ·obtain rfl:n=1:=by omega
  obtain⟨b,off,x,rfl,W,H,J,I,N⟩:=(hs.below h).at_ (show 0<1 by omega)
  rw[um] at J
  have D:Hid (val xs=x):=by show _=_;have j:=aN H.out;rw[cz (by omega)] at j;simp[val,su] at j;exact j
  go_enter Tryz.func262,Tryz.ntmps262
  go_wp2
  go_ret2
  exact⟨by rw[D.out];rfl,h⟩
theorem TU (D:Bool) (A:Option Addr) (c:Nat) (xs:List Int) (w:World) (hs:Sl w A 2 c xs):
 Calls Tryz.prog 262 #[.agg #[.bool D,.slice A (2:Nat) c]] w fun e w'=>e=.returned (.tuple #[.int .u64 (val xs),.bool true])/\Below w.heap.size w w':=by
 have hl:=hs.len
 have h:Below w.heap.size w (w.alloc (.cells #[.bool D,.slice A 2 c] 38)):=(ef _ _).alloc (bd _) _
 obtain⟨b,off,x,rfl,hb,I,R,J,W⟩:=(hs.below h).at_ (show 0<2 by omega)
 obtain⟨_,_,y,j,_,hy,a1,N,a0⟩:=(hs.below h).at_ (show 1<2 by omega)
 injection j with j
 injection j with j e2 _
 subst j e2
 rw[um] at R
 have H:Hid (val xs=y*1000000000+x):=by show _=_;have h1:=aN I.out;have u:=aN hy.out;rw[cz (by omega),h1,d5] at u;simp[val,su] at u;omega
 go_enter Tryz.func262,Tryz.ntmps262
 go_wp2_with fail
 go_quiet (fail)
 go_wp2
 go_ret2
 exact⟨by rw[H.out];rfl,Below.drewN' h _⟩
theorem NE (j:Bool) (A:Option Addr) (n c:Nat) (w:World) (u:3<=n):
 Calls Tryz.prog 262 #[.agg #[.bool j,.slice A n c]] w fun e w'=>e=.returned (.tuple #[.int .u64 0,.bool false])/\Below w.heap.size w w':=by
 have h:Below w.heap.size w (w.alloc (.cells #[.bool j,.slice A n c] 38)):=(ef _ _).alloc (bd _) _
 have y:((n:Int)==0)=false:=by simp;omega
 have D:((n:Int)==1)=false:=by simp;omega
 have H:((n:Int)==2)=false:=by simp;omega
 go_enter Tryz.func262,Tryz.ntmps262
 go_wp2
 go_ret2
 exact⟨rfl,h⟩
end Go.Proofs.YtegeknjkgadehaaGreat
namespace Go.Proofs.YtegeknjkgadehaaGreat
open Go Go.RowKit
variable {a:Act}{vs vs':List Value}{b k t:Nat}{E L L' V V' av av':Nat->Prop}{o:Oper}{d sl:Option Nat}{P:Program}{U:TypeId}{v:Value}{K:Value->World->Prop}{w w':World}
inductive CellD where
 |b (v:Bool)
 |i (k:IntKind) (n:Int)
 |f (g:FuncId)
 |s (n:Nat) (xs:List CellD)
 |l (x:Int)
 |p (us:List CellD)
 |k (g:FuncId) (xs:List CellD)
 |x
 |e (v:Value)
inductive RdC (av:Nat->Prop) (w:World):Value->CellD->Prop
 |b (v:Bool):RdC av w (.bool v) (.b v)
 |i (k:IntKind) (n:Int):RdC av w (.int k n) (.i k n)
 |f (g:FuncId):RdC av w (.func (.func g) #[] #[]) (.f g)
 |s0 (A:Option Addr) (c:Nat):c<=9223372036854775807->RdC av w (.slice A 0 c) (.s 0 [])
 |s (b off c sz n:Nat) (xs:List CellD) (cv:Nat->Value):0<n->n<=c->c<=9223372036854775807->xs.length=n*sz->b<w.heap.size-> ¬av b->
    (∀j,j<n*sz->w.cell? ⟨b,off+j,none⟩=some (cv j))->(∀(j:Nat) (u:CellD),xs[j]? =some u->RdC av w (cv j) u)->RdC av w (.slice (some ⟨b,off,none⟩) n c) (.s n xs)
 |l (A:Option Addr) (n c:Nat) (xs:List Int):RdI .u32 w A n xs->n<=c->c<=9223372036854775807->Lim xs->(∀b off,0<n->A=some ⟨b,off,none⟩-> ¬av b)->RdC av w (.slice A n c) (.l (val xs))
 |p (b off:Nat) (us:List CellD) (cv:Nat->Value):b<w.heap.size-> ¬av b->(∀j,j<us.length->w.cell? ⟨b,off+j,none⟩=some (cv j))->(∀(j:Nat) (u:CellD),us[j]? =some u->RdC av w (cv j) u)->RdC av w (.pointer (some ⟨b,off,none⟩)) (.p us)
 |k (g:FuncId) (cs:Array Value) (xs:List CellD):cs.size=xs.length->(∀(j:Nat) (v:Value) (u:CellD),cs[j]? =some v->xs[j]? =some u->RdC av w v u)->RdC av w (.func (.func g) #[] cs) (.k g xs)
 |x (v:Value):(∀cs,v≠ .agg cs)->(∀cs,v≠ .tuple cs)->RdC av w v .x
 |e (v:Value):(∀cs,v≠ .agg cs)->(∀cs,v≠ .tuple cs)->RdC av w v (.e v)
structure Keep (av av':Nat->Prop) (w w':World):Prop where
 size:w.heap.size<=w'.heap.size
 block: ∀b,b<w.heap.size-> ¬av b->w'.heap[b]? =w.heap[b]?
 less: ∀b,b<w.heap.size->av' b->av b
theorem Keep.below (h:Below w.heap.size w w'):Keep av av w w':=⟨h.size,fun b j _=>h.block b j,fun _ _ h=>h⟩
theorem mZ {a:Addr}(h:w'.heap[a.block]? =w.heap[a.block]?):w'.cell? a=w.cell? a:=by unfold World.cell?;rw[h]
theorem RdC.keep (H:Keep av av' w w') {u:CellD}(h:RdC av w v u):RdC av' w' v u:=by
 induction h with
 |b v=>exact .b v
 |i k n=>exact .i k n
 |f g=>exact .f g
 |x v I J=>exact .x v I J
 |e v I J=>exact .e v I J
 |s0 A c hc=>exact .s0 A c hc
 |l A n c xs R I J h3 y=>
  refine .l A n c xs ⟨R.1,fun N=>?_⟩ I J h3 (fun b off N e hb=>?_)
  ·obtain⟨b,off,e,D,hc⟩:=R.2 N;exact⟨b,off,e,kE D H.size,fun j u hu=>(mZ (a:=⟨b,off+j,none⟩) (H.block b D (y b off N e))).trans (hc j u hu)⟩
  ·obtain⟨b',a0,e',D,_⟩:=R.2 N;rw[e] at e';injection e' with e';injection e' with e1 e2;subst e1;exact y b off N e (H.less b D hb)
 |p b off us cv y W h6 _ ih=>exact .p b off us cv (kE y H.size) (fun h=>W (H.less b y h)) (fun j hj=>(mZ (a:=⟨b,off+j,none⟩) (H.block b y W)).trans (h6 j hj)) ih
 |k g cs xs h _ ih=>exact .k g cs xs h ih
 |s b off c sz n xs cv R I J h3 y W h6 _ ih=>
  exact .s b off c sz n xs cv R I J h3 (kE y H.size) (fun h=>W (H.less b y h)) (fun j hj=>(mZ (a:=⟨b,off+j,none⟩) (H.block b y W)).trans (h6 j hj)) ih
inductive D0 where
 |c (u:CellD)
 |a (us:List CellD)
def D0.cells:D0->List CellD
 | .c u=>[u]
 | .a us=>us
def RdCs (av:Nat->Prop) (w:World) (vs:List Value) (us:List CellD):Prop:=vs.length=us.length/\ ∀(j:Nat) (v:Value) (u:CellD),vs[j]? =some v->us[j]? =some u->RdC av w v u
def RdV (av:Nat->Prop) (w:World) (v:Value):D0->Prop
 | .c u=>RdC av w v u
 | .a us=> ∃cs:Array Value,v=.agg cs/\RdCs av w cs.toList us
def RdL (av:Nat->Prop) (w:World) (vs:List Value) (h:List D0):Prop:=vs.length=h.length/\ ∀(j:Nat) (v:Value) (d:D0),vs[j]? =some v->h[j]? =some d->RdV av w v d
def Y7 (av:Nat->Prop) (w:World) (v:Value):List D0->Prop
 |[d]=>RdV av w v d
 |ds=> ∃vs:Array Value,v=.tuple vs/\RdL av w vs.toList ds
section
variable {av av':Nat->Prop}{w w':World}
theorem RdCs.keep (D:Keep av av' w w') {us:List CellD}(h:RdCs av w vs us):RdCs av' w' vs us:=⟨h.1,fun j v u y H=>(h.2 j v u y H).keep D⟩
theorem RdV.keep (j:Keep av av' w w') {d:D0}(h:RdV av w v d):RdV av' w' v d:=by
 cases d with
 |c u=>exact RdC.keep j h
 |a us=>obtain⟨cs,e,h⟩:=h;exact⟨cs,e,h.keep j⟩
theorem RdL.keep (H:Keep av av' w w') {u:List D0}(h:RdL av w vs u):RdL av' w' vs u:=⟨h.1,fun j v d y D=>(h.2 j v d y D).keep H⟩
theorem RdL.nil:RdL av w [] []:=⟨rfl,fun j v d h=>by simp at h⟩
theorem RdL.cons {d:D0}{D:List D0}(h:RdV av w v d) (hs:RdL av w vs D):RdL av w (v::vs) (d::D):=by
 refine⟨by simp[hs.1],fun j x e u y=>?_⟩;cases j with
 |zero=>simp at u y;subst u y;exact h
 |succ j=>simp at u y;exact hs.2 j x e u y
theorem RdCs.nil:RdCs av w [] []:=⟨rfl,fun j v d h=>by simp at h⟩
theorem RdCs.cons {d:CellD}{D:List CellD}(h:RdC av w v d) (hs:RdCs av w vs D):RdCs av w (v::vs) (d::D):=by
 refine⟨by simp[hs.1],fun j x e u y=>?_⟩;cases j with
 |zero=>simp at u y;subst u y;exact h
 |succ j=>simp at u y;exact hs.2 j x e u y
theorem RdCs.uncons {d:CellD}{u:List CellD}(h:RdCs av w (v::vs) (d::u)):RdC av w v d/\RdCs av w vs u:=
 ⟨h.2 0 v d rfl rfl,by have:=h.1;simpa using this,fun j x e y D=>h.2 (j+1) x e (by simpa using y) (by simpa using D)⟩
theorem RdL.uncons {d:D0}{u:List D0}(h:RdL av w (v::vs) (d::u)):RdV av w v d/\RdL av w vs u:=
 ⟨h.2 0 v d rfl rfl,by have:=h.1;simpa using this,fun j x e y D=>h.2 (j+1) x e (by simpa using y) (by simpa using D)⟩
theorem RdCs.append {us us':List CellD}(h:RdCs av w vs us) (H:RdCs av w vs' us'):RdCs av w (vs++vs') (us++us'):=by
 refine⟨by simp[h.1,H.1],fun j v u D y=>?_⟩;by_cases I:j<vs.length
 ·rw[uJ I] at D;rw[uJ (by rw[<-h.1];exact I)] at y;exact h.2 j v u D y
 ·rw[tL (by omega)] at D;rw[tL (by rw[<-h.1];omega)] at y;rw[<-h.1] at y;exact H.2 _ v u D y
theorem RdCs.drop {us:List CellD}(h:RdCs av w vs us) (k:Nat):RdCs av w (vs.drop k) (us.drop k):=
 ⟨by simp[h.1],fun j v u y D=>h.2 (k+j) v u (by simpa using y) (by simpa using D)⟩
theorem RdCs.take {us:List CellD}(h:RdCs av w vs us) (k:Nat):RdCs av w (vs.take k) (us.take k):=by
 refine⟨by simp[h.1],fun j v u y D=>?_⟩;rw[j6] at y D;split at y;·rename_i H;rw[if_pos H] at D;exact h.2 j v u y D
 grind
theorem RdV.cells {d:D0}(h:RdV av w v d):RdCs av w v.cells.toList d.cells:=by
 cases d with
 |c u=>
  have e:v.cells= #[v]:=by
   cases h with
   |x v j y=>cases v<;>first|rfl|exact absurd rfl (j _)
   |e v j y=>cases v<;>first|rfl|exact absurd rfl (j _)
   |_=>rfl
  rw[e];exact RdCs.cons h RdCs.nil
 |a us=>obtain⟨cs,rfl,h⟩:=h;exact h
theorem RdC.one {u:CellD}(h:RdC av w v u):(∀cs,v≠ .agg cs)/\(∀cs,v≠ .tuple cs):=by
 cases h with
 |x v j y=>exact⟨j,y⟩
 |e v j y=>exact⟨j,y⟩
 |_=>simp
end
def fv (P:Program) (g:FuncId):Bool:=
 match P.funcs[g]? with
 |some fn=>fn.name != "runtime.NumGoroutine" && !fn.body.isNone
 |none=>false
structure Ok (P:Program) (f:FuncId) (ds rs:List D0):Prop where
 cal:fv P f=true
 run: ∀(av:Nat->Prop) (vs:Array Value) (w:World),(∀b,av b->b<w.heap.size)->RdL av w vs.toList ds->Calls P f vs w fun e w'=> ∃v,e=.returned v/\Y7 av w' v rs/\Below w.heap.size w w'
def DI (P:Program) (K:Value->World->Prop):Result Next->Prop
 | .ok (.value v) w'=>K v w'
 | .ok .skip w'=>K undef w'
 | .ok (.enter f args) w'=>Calls P f args w' fun e h=> ∃v,e=.returned v/\K v h
 | .ok (.row row args) w'=>Rows P row args w' fun v h=>K v h
 |_=>False
def Gives (P:Program) (o:Oper) (a:Act) (w:World) (K:Value->World->Prop):Prop:=DI P K ((execOp a.eval o).run P w)
theorem Gives.wp {D:Act->World->Prop}{Q:Exit->Act->World->Prop}(h:Gives P o a w K) (j: ∀v w',K v w'->D (a.put o.dst v) w'):o.wp P a w D Q:=by
 unfold Gives at h;unfold Oper.wp;generalize (execOp a.eval o).run P w=r at*;cases r with
 |ok n w'=>
  cases n<;>simp only[DI] at h<;>simp only[Oper.upon];case value v=>exact j _ _ h
  case skip=>exact j _ _ h
  case enter f args=>exact h.mono fun e y ⟨v,H,u⟩=>by subst H;exact j _ _ u
  case row row args=>exact h.mono fun v y u=>j _ _ u
 |halt x w'=>simp only[DI] at h
theorem Gives.mono {D:Value->World->Prop}(h:Gives P o a w K) (j: ∀v w',K v w'->D v w'):Gives P o a w D:=by
 unfold Gives at*;generalize (execOp a.eval o).run P w=r at*;cases r with
 |ok n w'=>
  cases n<;>simp only[DI] at h⊢;case value v=>exact j _ _ h
  case skip=>exact j _ _ h
  case enter f args=>exact h.mono fun e y ⟨v,H,u⟩=>⟨v,H,j _ _ u⟩
  case row row args=>exact h.mono fun v y u=>j _ _ u
 |halt x w'=>simp only[DI] at h
inductive DV where
 |v (d:D0)
 |t (ds:List D0)
 |p (k off:Nat)
 |o (k n c:Nat)
 |w (k off n c:Nat)
 |q (us:List CellD)
 |u
 |n
 |z
 |f (n:Nat) (us:List CellD)
 |tn (k n c:Nat) (ds:List D0)
 |oe (k n c:Nat) (v:Value)
def jq:DV->Option Nat
 | .p k _=>some k
 | .o k _ _=>some k
 | .w k _ _ _=>some k
 | .tn k _ _ _=>some k
 | .oe k _ _ _=>some k
 |_=>none
def look {h:Type}(t:Nat):List (Nat×h)->Option h
 |[]=>none
 |(k,x)::r=>bif Nat.beq k t then some x else look t r
structure St where
 n:Nat
 tm:List (Nat×DV)
 bx:List (Nat×TypeId×List CellD)
abbrev TF:=Nat->Option DV
abbrev BF:=Nat->Option (TypeId×List CellD)
def St.T (h:St):TF:=fun t=>look t h.tm
def St.B (h:St):BF:=fun k=>look k h.bx
def RdX (V:Nat->Prop) (w:World) (β:Nat->Nat) (v:Value):DV->Prop
 | .v d=>RdV V w v d
 | .t ds=> ∃vs:Array Value,v=.tuple vs/\RdL V w vs.toList ds
 | .p k off=>v=.pointer (some ⟨β k,off,none⟩)
 | .o k n c=>v=.slice (some ⟨β k,0,none⟩) n c
 | .w k off n c=>v=.slice (some ⟨β k,off,none⟩) n c
 | .q us=> ∃b off,∃vs:List Value,v=.pointer (some ⟨b,off,none⟩)/\b<w.heap.size/\ ¬V b/\RdCs V w vs us/\ ∀(j:Nat) (u:Value),vs[j]? =some u->w.cell? ⟨b,off+j,none⟩=some u
 | .u=>v=undef
 | .n=>True
 | .z=>v=.slice none 0 0
 | .f n us=>(∃A,v=.slice A n n)/\RdV V w v (.c (.s n us))
 | .tn k n c ds=> ∃xs:List Value,v=.tuple (.slice (some ⟨β k,0,none⟩) n c::xs).toArray/\RdL V w xs ds
 | .oe k n c u=>v=.slice (some ⟨β k,0,none⟩) n c/\v=u
theorem RdX.keep (y:Keep V V' w w') {β:Nat->Nat}{x:DV}(h:RdX V w β v x):RdX V' w' β v x:=by
 cases x with
 |v d=>exact RdV.keep y h
 |t N=>obtain⟨vs,e,h⟩:=h;exact⟨vs,e,RdL.keep y h⟩
 |p k off=>exact h
 |o k n c=>exact h
 |w k off n c=>exact h
 |q us=>
  obtain⟨b,off,vs,e,D,H,h,I⟩:=h;exact⟨b,off,vs,e,kE D y.size,fun h=>H (y.less b D h),RdCs.keep y h,fun j u J=>(mZ (a:=⟨b,off+j,none⟩) (y.block b D H)).trans (I j u J)⟩
 |u=>exact h
 |n=>trivial
 |z=>exact h
 |f n us=>exact⟨h.1,RdV.keep y h.2⟩
 |tn k n c N=>obtain⟨xs,e,h⟩:=h;exact⟨xs,e,RdL.keep y h⟩
 |oe k n c u=>exact h
def Box (V:Nat->Prop) (w:World) (b:Nat) (T:TypeId) (cs:List CellD):Prop:=V b/\ ∃vs:Array Value,w.heap[b]? =some (.cells vs T (0,0))/\RdCs V w vs.toList cs
structure Sees (V:Nat->Prop) (L:Nat->Prop) (T:TF) (B:BF) (β:Nat->Nat) (a:Act) (w:World):Prop where
 av: ∀b,V b->b<w.heap.size
 box: ∀k U cs,B k=some (U,cs)->Box V w (β k) U cs
 tmp: ∀t x,L t->T t=some x-> ∃v,a.tmps[t]? =some v/\RdX V w β v x
inductive Eff where
 |r (x:DV)
 |a (U:TypeId) (cs:List CellD) (sl:Option Nat)
 |s (k:Nat) (U:TypeId) (cs:List CellD)
 |c (k:Nat) (x:DV)
 |rs (k:Nat) (U:TypeId) (cs:List CellD) (x:DV)
 |skip
def ab7:Option Nat->Nat->Value
 |none,b=>.pointer (some ⟨b,0,none⟩)
 |some n,b=>.slice (some ⟨b,0,none⟩) n n
def Tn:Option Nat->Nat->DV
 |none,d=>.p d 0
 |some n,d=>.o d n n
def d6 (ops:Array Oper) (o:Oper):Nat->Prop:=fun t=>t∈o.looksAt ops
abbrev wx (o:Oper) (ops:Array Oper) (a:Act):Bool:=Region.wanted o (yielded ops a.tmps)
structure Mid (b:Nat) (w w':World):Prop where
 os:w'.os=w.os
 tape:w'.tape=w.tape
 output:w'.output=w.output
 size:w.heap.size<=w'.heap.size
 block: ∀c,c<w.heap.size->c≠b->w'.heap[c]? =w.heap[c]?
def Sem (P:Program) (ops:Array Oper) (o:Oper) (T:TF) (B:BF):Eff->Prop
 | .r x=>(∀k,jq x=some k-> ∃t y,d6 ops o t/\T t=some y/\jq y=some k)/\ ∀V β a w,Sees V (d6 ops o) T B β a w->wx o ops a=true/\Gives P o a w fun v w'=>RdX V w' β v x/\Below w.heap.size w w'
 | .a U cs sl=> ∀V β a w,Sees V (d6 ops o) T B β a w->wx o ops a=true/\Gives P o a w fun v w'=> ∃vs:Array Value,v=ab7 sl w.heap.size/\w'=w.alloc (.cells vs U)/\RdCs V w vs.toList cs
 | .s k U cs=>o.dst=none/\(∃cs0,B k=some (U,cs0))/\ ∀V β a w,Sees V (d6 ops o) T B β a w->wx o ops a=true/\Gives P o a w fun _ w'=>
    ∃vs:Array Value,w'.heap=w.heap.setIfInBounds (β k) (.cells vs U (0,0))/\w'.os=w.os/\w'.tape=w.tape/\w'.output=w.output/\RdCs V w vs.toList cs
 | .rs k U cs x=>jq x=none/\(∃cs0,B k=some (U,cs0))/\ ∀V β a w,Sees V (d6 ops o) T B β a w->wx o ops a=true/\Gives P o a w fun v w'=>
    ∃vs:Array Value,w'.heap[β k]? =some (.cells vs U (0,0))/\Mid (β k) w w'/\RdCs V w' vs.toList cs/\RdX V w' β v x
 | .c k x=>jq x=none/\B k≠none/\ ∀V β a w,Sees V (d6 ops o) T B β a w->wx o ops a=true/\Gives P o a w fun v w'=>RdX (fun b=>V b/\b≠β k) w' β v x/\Below w.heap.size w w'
 | .skip=> ∀V β a w,Sees V (d6 ops o) T B β a w->wx o ops a=false
def ent (d:Nat):Eff->DV
 | .r x=>x
 | .a _ _ sl=>Tn sl d
 | .s _ _ _=>.u
 | .c _ x=>x
 | .rs _ _ _ x=>x
 | .skip=>.u
def oM (k:Nat) (T:TF):TF:=fun t=>match T t with
 |some y=>if jq y=some k then some .n else some y
 |none=>none
def Eff.tf (e:Eff) (dst:Option Nat) (T:TF):TF:=
 match e with
 | .c k x=>fun t=>if dst=some t then some x else oM k T t
 |e=>fun t=>if dst=some t then some (ent t e) else T t
def Eff.bf (e:Eff) (dst:Option Nat) (B:BF):BF:=
 match e with
 | .a U cs _=>fun k=>if dst=some k then some (U,cs) else B k
 | .s k' U cs=>fun k=>if k'=k then some (U,cs) else B k
 | .rs k' U cs _=>fun k=>if k'=k then some (U,cs) else B k
 | .c k' _=>fun k=>if k=k' then none else B k
 |_=>B
structure Ent where
 w:World
 E:Nat->Prop
 K:Nat
structure BelE (e:Ent) (w:World):Prop where
 os:w.os=e.w.os
 tape:w.tape=e.w.tape
 output:w.output=e.w.output
 size:e.w.heap.size<=w.heap.size
 block: ∀c,c<e.w.heap.size-> ¬e.E c->w.heap[c]? =e.w.heap[c]?
theorem BelE.refl (e:Ent):BelE e e.w:=⟨rfl,rfl,rfl,bd _,fun _ _ _=>rfl⟩
theorem BelE.next {e:Ent}(h:BelE e w) (H:w'.os=w.os) (I:w'.tape=w.tape) (y:w'.output=w.output) (J:w.heap.size<=w'.heap.size)
 (D: ∀c,c<e.w.heap.size-> ¬e.E c->w'.heap[c]? =w.heap[c]?):BelE e w':=
 ⟨H.trans h.os,I.trans h.tape,y.trans h.output,fw h.size J,fun c u j=>(D c u j).trans (h.block c u j)⟩
theorem BelE.below {e:Ent}(h:BelE e w) (k:Below w.heap.size w w'):BelE e w':=
 h.next k.os k.tape k.output k.size (fun c j _=>k.block c (kE j h.size))
theorem BelE.to {K:Nat}(h:BelE ⟨w,E,K⟩ w') (u: ∀c,¬E c):Below w.heap.size w w':=⟨h.os,h.tape,h.output,h.size,fun c j=>h.block c j (u c)⟩
structure Rel (av:Nat->Prop) (w0:Ent) (n:Nat) (T:TF) (B:BF) (β:Nat->Nat) (a:Act) (w:World):Prop where
 dfr:a.defers=[]
 siz:a.tmps.size=n
 bel:BelE w0 w
 avl: ∀b,av b->b<w0.w.heap.size
 avE: ∀b,av b-> ¬w0.E b
 big:n<=w0.K
 fix: ∀b,w0.E b->B w0.K≠none->β w0.K=b
 inj: ∀k l,B k≠none->B l≠none->β k=β l->k=l
 own: ∀k,B k≠none->w0.w.heap.size<=β k\/w0.E (β k)
 wf: ∀t x k,T t=some x->jq x=some k->B k≠none
 sees:Sees (fun b=>av b\/ ∃k,B k≠none/\β k=b) (fun _=>True) T B β a w
section
variable {P:Program}{ops:Array Oper}{o:Oper}{T T':TF}{B B':BF}{av:Nat->Prop}{w0:Ent}{w:World}{n:Nat}{β:Nat->Nat}{a:Act}
theorem Rel.congr (h:Rel av w0 n T B β a w) (u: ∀t,T' t=T t) (j: ∀k,B' k=B k):Rel av w0 n T' B' β a w:=by have D:T'=T:=funext u;have y:B'=B:=funext j;grind
theorem rn {a:Act}(h:d≠some t):(a.put d v).tmps[t]? =a.tmps[t]? :=by
 cases d with
 |none=>rfl
 |some d=>
  have j:d≠t:=by grind
  simp[Act.put,Array.getElem?_setIfInBounds_ne j]
theorem uy {a:Act}{d:Nat}(h:d<a.tmps.size):(a.put (some d) v).tmps[d]? =some v:=by simp[Act.put,h]
theorem tq (a:Act) (d:Option Nat) (v:Value):(a.put d v).tmps.size=a.tmps.size:=by cases d<;>simp[Act.put]
theorem o4 (a:Act) (d:Option Nat) (v:Value):(a.put d v).defers=a.defers:=by cases d<;>rfl
theorem Sees.of (h:Sees V L' T B β a w) (j: ∀t,L t->L' t) (H: ∀t x,L t->T' t=some x->T t=some x) (u: ∀k c,B' k=some c->B k=some c):Sees V L T' B' β a w:=
 ⟨h.av,fun k U cs y=>h.box k U cs (u k _ y),fun t x hl D=>h.tmp t x (j t hl) (H t x hl D)⟩
theorem Rel.value (h:Rel av w0 n T B β a w) (hd: ∀t,d=some t->t<n) {x:DV}(I:Below w.heap.size w w')
 (R:RdX (fun b=>av b\/ ∃k,B k≠none/\β k=b) w' β v x) (hp: ∀k,jq x=some k->B k≠none):Rel av w0 n (fun t=>if d=some t then some x else T t) B β (a.put d v) w':=by
 have N:=Keep.below (av:=fun b=>av b\/ ∃k,B k≠none/\β k=b) I
 refine⟨by rw[o4];exact h.dfr,by rw[tq];exact h.siz,h.bel.below I,h.avl,h.avE,h.big,h.fix,h.inj,h.own,?_,?_,?_,?_⟩
 ·intro t y k D hy
  split at D
  ·grind
  ·exact h.wf t y k D hy
 ·exact fun b H=>kE (h.sees.av b H) I.size
 ·intro k U cs W
  obtain⟨H,vs,e,J⟩:=h.sees.box k U cs W
  exact⟨H,vs,(I.block _ (h.sees.av _ H)).trans e,J.keep N⟩
 ·intro t y hl D
  split at D
  ·rename_i j
   injection D with D
   subst D
   rw[j]
   exact⟨v,uy (by rw[h.siz];exact hd t j),R⟩
  ·rename_i j
   obtain⟨u,e,J⟩:=h.sees.tmp t y trivial D
   exact⟨u,(rn j).trans e,J.keep N⟩
theorem dA (w:World) (o:Obj):(w.alloc o).heap.size=w.heap.size+1:=by simp
theorem Rel.fresh (h:Rel av w0 n T B β a w) {d:Nat}(hd:d<n) (hf:B d=none) {cs:List CellD}{vs:Array Value}{x:DV}(hw:Below w.heap.size w w') (a5:w.heap.size<=b) (b1:b<w'.heap.size)
 (b0:w'.heap[b]? =some (.cells vs U (0,0))) (hr:RdCs (fun y=>(av y\/ ∃k,B k≠none/\β k=y)\/y=b) w' vs.toList cs) (hx:RdX (fun y=>(av y\/ ∃k,B k≠none/\β k=y)\/y=b) w' (fun k=>if k=d then b else β k) v x) (hp: ∀k,jq x=some k->k=d):
 Rel av w0 n (fun t=>if some d=some t then some x else T t) (fun k=>if some d=some k then some (U,cs) else B k) (fun k=>if k=d then b else β k) (a.put (some d) v) w':=by
 have hB: ∀k,(if some d=some k then some (U,cs) else B k)≠none->k≠d->B k≠none:=by intro k I D;rw[if_neg (by simpa using fun e=>D e.symm)] at I;exact I
 have a3: ∀k,B k≠none->β k<w.heap.size:=fun k I=>h.sees.av _ (.inr ⟨k,I,rfl⟩)
 have hV: ∀y,(av y\/ ∃k,(if some d=some k then some (U,cs) else B k)≠none/\(if k=d then b else β k)=y)->(av y\/ ∃k,B k≠none/\β k=y)\/y=b:=by
  rintro y (R|⟨k,I,R⟩);·exact .inl (.inl R)
  ·by_cases j:k=d;·rw[if_pos j] at R;exact .inr R.symm
   ·rw[if_neg j] at R;exact .inl (.inr ⟨k,hB k I j,R⟩)
 have a1:Keep (fun y=>av y\/ ∃k,B k≠none/\β k=y) (fun y=>av y\/ ∃k,(if some d=some k then some (U,cs) else B k)≠none/\(if k=d then b else β k)=y) w w':=
  ⟨hw.size,fun y R _=>hw.block y R,fun y R hv=>(hV y hv).resolve_right (by omega)⟩
 have J:Keep (fun y=>(av y\/ ∃k,B k≠none/\β k=y)\/y=b) (fun y=>av y\/ ∃k,(if some d=some k then some (U,cs) else B k)≠none/\(if k=d then b else β k)=y) w' w':=⟨Nat.le_refl _,fun _ _ _=>rfl,fun y _ hv=>hV y hv⟩
 have a9: ∀v x,(∀k,jq x=some k->k≠d)->RdX (fun y=>av y\/ ∃k,B k≠none/\β k=y) w β v x->RdX (fun y=>av y\/ ∃k,(if some d=some k then some (U,cs) else B k)≠none/\(if k=d then b else β k)=y) w' (fun k=>if k=d then b else β k) v x:=by
  intro v x a2 hr;have H:=RdX.keep a1 hr;cases x with
  |p k off=>
   have D:k≠d:=a2 k rfl;show v=.pointer (some ⟨if k=d then b else β k,off,none⟩);rw[if_neg D];exact hr
  |o k n c=>
   have D:k≠d:=a2 k rfl;show v=.slice (some ⟨if k=d then b else β k,0,none⟩) n c;rw[if_neg D];exact hr
  |w k off n c=>
   have D:k≠d:=a2 k rfl;show v=.slice (some ⟨if k=d then b else β k,off,none⟩) n c;rw[if_neg D];exact hr
  |v d=>exact H
  |t ds=>exact H
  |q us=>exact H
  |u=>exact H
  |n=>trivial
  |z=>exact H
  |f n us=>exact H
  |tn k n c ds=>
   have D:k≠d:=a2 k rfl;obtain⟨xs,e,h⟩:=H;exact⟨xs,by show v=Value.tuple (Value.slice (some ⟨if k=d then b else β k,0,none⟩) n c::xs).toArray;rw[if_neg D];exact e,h⟩
  |oe k n c u=>
   have D:k≠d:=a2 k rfl;exact⟨by show v=.slice (some ⟨if k=d then b else β k,0,none⟩) n c;rw[if_neg D];exact H.1,H.2⟩
 refine⟨by rw[o4];exact h.dfr,by rw[tq];exact h.siz,h.bel.below hw,h.avl,h.avE,h.big,fun b hb hK=>?_,?_,?_,?_,?_,?_,?_⟩
 ·have a4:w0.K≠d:=by have:=h.big;omega
  rw[if_neg a4]
  exact h.fix b hb (hB _ hK a4)
 ·intro k l I hl e
  by_cases j:k=d<;>by_cases a0:l=d
  ·rw[j,a0]
  ·rw[if_pos j,if_neg a0] at e
   have:=a3 l (hB l hl a0);omega
  ·rw[if_neg j,if_pos a0] at e
   have:=a3 k (hB k I j);omega
  ·rw[if_neg j,if_neg a0] at e
   exact h.inj k l (hB k I j) (hB l hl a0) e
 ·intro k I
  by_cases j:k=d
  ·rw[if_pos j];exact .inl (fw h.bel.size a5)
  ·rw[if_neg j];exact h.own k (hB k I j)
 ·intro t y k N R
  by_cases W:d=t
  ·rw[if_pos (by rw[W])] at N
   injection N with N
   subst N
   rw[hp k R,if_pos rfl];simp
  ·rw[if_neg (by simpa using W)] at N
   have h1:=h.wf t y k N R
   have D:d≠k:=fun e=>h1 (by rw[<-e];exact hf)
   rw[if_neg (by simpa using D)];exact h1
 ·intro y R
  rcases hV y R with hv|hv
  ·have:=h.sees.av y hv;omega
  grind
 ·intro k U' a6 I
  by_cases j:k=d
  ·subst j
   rw[if_pos rfl] at I
   injection I with I
   injection I with h1 h2
   subst h1 h2
   refine⟨.inr ⟨k,by rw[if_pos rfl];simp,rfl⟩,vs,?_,hr.keep J⟩
   grind
  ·rw[if_neg (by simpa using fun e=>j e.symm)] at I
   obtain⟨hv,vs',e,hr⟩:=h.sees.box k U' a6 I
   refine⟨.inr ⟨k,by rw[if_neg (by simpa using fun e=>j e.symm),I];simp,rfl⟩,vs',?_,hr.keep a1⟩
   rw[if_neg j,hw.block _ (h.sees.av _ hv)];exact e
 ·intro t y _ N
  by_cases W:d=t
  ·subst W
   rw[if_pos rfl] at N
   injection N with N
   subst N
   exact⟨v,uy (by rw[h.siz];exact hd),RdX.keep J hx⟩
  ·rw[if_neg (by simpa using W)] at N
   obtain⟨v,e,hr⟩:=h.sees.tmp t y trivial N
   refine⟨v,(rn (by simpa using W)).trans e,a9 v y ?_ hr⟩
   intro k e2 e3
   subst e3
   exact h.wf t y _ N e2 hf
theorem Rel.box (h:Rel av w0 n T B β a w) {d:Nat}(I:d<n) (N:B d=none) {cs:List CellD}{vs:Array Value}
 (J:RdCs (fun b=>av b\/ ∃k,B k≠none/\β k=b) w vs.toList cs):
 Rel av w0 n (fun t=>if some d=some t then some (Tn sl t) else T t) (fun k=>if some d=some k then some (U,cs) else B k) (fun k=>if k=d then w.heap.size else β k) (a.put (some d) (ab7 sl w.heap.size)) (w.alloc (.cells vs U)):=by
 have j:=(ef _ w).alloc (bd _) (.cells vs U)
 have:=h.fresh (x:=Tn sl d) (v:=ab7 sl w.heap.size) I N j (bd _) (by rw[dA];omega) (heap_alloc_new w _) (J.keep ⟨j.size,fun y D _=>j.block y D,fun y D H=>H.resolve_right (by omega)⟩)
  (by
   cases sl with
   |none=>show _=Value.pointer (some ⟨if d=d then w.heap.size else β d,0,none⟩);rw[if_pos rfl];rfl
   |some m=>show _=Value.slice (some ⟨if d=d then w.heap.size else β d,0,none⟩) m m;rw[if_pos rfl];rfl)
  (by cases sl<;>(intro k u;injection u with u;exact u.symm))
 grind
theorem Rel.store (h:Rel av w0 n T B β a w) {cs0 cs:List CellD}(D:B k=some (U,cs0)) {vs:Array Value}
 (hh:w'.heap=w.heap.setIfInBounds (β k) (.cells vs U (0,0))) (ho:w'.os=w.os) (ht:w'.tape=w.tape) (hu:w'.output=w.output)
 (J:RdCs (fun b=>av b\/ ∃k,B k≠none/\β k=b) w vs.toList cs):
 Rel av w0 n T (fun l=>if k=l then some (U,cs) else B l) β a w':=by
 have y: ∀l,(if k=l then some (U,cs) else B l)≠none↔B l≠none:=by grind
 have a0:w'.heap.size=w.heap.size:=by grind
 have a1:β k<w.heap.size:=h.sees.av _ (.inr ⟨k,by rw[D];simp,rfl⟩)
 have u: ∀b,b≠β k->w'.heap[b]? =w.heap[b]? :=by grind
 have hV:(fun b=>av b\/ ∃l,(if k=l then some (U,cs) else B l)≠none/\β l=b)=(fun b=>av b\/ ∃l,B l≠none/\β l=b):=by grind
 have j:Keep (fun b=>av b\/ ∃l,B l≠none/\β l=b) (fun b=>av b\/ ∃l,B l≠none/\β l=b) w w':=
  ⟨by omega,fun b _ I=>u b (fun e=>I (.inr ⟨k,by rw[D];simp,e.symm⟩)),fun _ _ h=>h⟩
 refine⟨h.dfr,h.siz,?_,h.avl,h.avE,h.big,fun b H hK=>h.fix b H ((y _).1 hK),?_,?_,?_,?_⟩
 ·refine h.bel.next ho ht hu (by omega) fun b H hE=>u b (fun e=>?_)
  rcases h.own k (by rw[D];simp) with g|g
  ·omega
  grind
 ·exact fun l m hl hm=>h.inj l m ((y l).1 hl) ((y m).1 hm)
 ·exact fun l hl=>h.own l ((y l).1 hl)
 ·exact fun t x l N J=>(y l).2 (h.wf t x l N J)
 rw[hV]
 refine⟨?_,?_,?_⟩
 ·exact fun b H=>by rw[a0];exact h.sees.av b H
 ·intro l U' R hl
  by_cases e:k=l
  ·subst e
   rw[if_pos rfl] at hl
   injection hl with hl
   injection hl with h1 h2
   subst h1 h2
   exact⟨.inr ⟨k,by rw[D];simp,rfl⟩,vs,by rw[hh];simp[a1],J.keep j⟩
  ·rw[if_neg e] at hl
   obtain⟨I,vs',e',W⟩:=h.sees.box l U' R hl
   exact⟨I,vs',(u _ (fun e2=>e (h.inj k l (by rw[D];simp) (by rw[hl];simp) e2.symm))).trans e',W.keep j⟩
 ·intro t x hL N
  obtain⟨v,e,W⟩:=h.sees.tmp t x hL N
  exact⟨v,e,W.keep j⟩
theorem Rel.sval (h:Rel av w0 n T B β a w) {cs0 cs:List CellD}(W:B k=some (U,cs0)) {vs:Array Value}
 (hh:w'.heap[β k]? =some (.cells vs U (0,0))) (D:Mid (β k) w w') {d:Option Nat}(hd: ∀t,d=some t->t<n) {x:DV}{v:Value}(hp:jq x=none)
 (hc:RdCs (fun b=>av b\/ ∃k,B k≠none/\β k=b) w' vs.toList cs) (hx:RdX (fun b=>av b\/ ∃k,B k≠none/\β k=b) w' β v x):
 Rel av w0 n (fun t=>if d=some t then some x else T t) (fun l=>if k=l then some (U,cs) else B l) β (a.put d v) w':=by
 have N: ∀l,(if k=l then some (U,cs) else B l)≠none↔B l≠none:=by grind
 have hV:(fun b=>av b\/ ∃l,(if k=l then some (U,cs) else B l)≠none/\β l=b)=(fun b=>av b\/ ∃l,B l≠none/\β l=b):=by grind
 have j:Keep (fun b=>av b\/ ∃l,B l≠none/\β l=b) (fun b=>av b\/ ∃l,B l≠none/\β l=b) w w':=
  ⟨D.size,fun b J R=>D.block b J (fun e=>R (.inr ⟨k,by rw[W];simp,e.symm⟩)),fun _ _ h=>h⟩
 refine⟨by rw[o4];exact h.dfr,by rw[tq];exact h.siz,?_,h.avl,h.avE,h.big,fun b J hK=>h.fix b J ((N _).1 hK),?_,?_,?_,?_⟩
 ·refine h.bel.next D.os D.tape D.output D.size fun b J hE=>D.block b (kE J h.bel.size) (fun e=>?_)
  rcases h.own k (by rw[W];simp) with g|g
  ·omega
  grind
 ·exact fun l m hl D=>h.inj l m ((N l).1 hl) ((N m).1 D)
 ·exact fun l hl=>h.own l ((N l).1 hl)
 ·intro t y l I hy
  refine(N l).2 ?_
  split at I
  ·grind
  ·exact h.wf t y l I hy
 rw[hV]
 refine⟨?_,?_,?_⟩
 ·exact fun b J=>kE (h.sees.av b J) D.size
 ·intro l U' a0 hl
  by_cases e:k=l
  ·subst e
   rw[if_pos rfl] at hl
   injection hl with hl
   injection hl with h1 h2
   subst h1 h2
   exact⟨.inr ⟨k,by rw[W];simp,rfl⟩,vs,hh,hc⟩
  ·rw[if_neg e] at hl
   obtain⟨R,vs',e',hr⟩:=h.sees.box l U' a0 hl
   exact⟨R,vs',(D.block _ (h.sees.av _ R) (fun e2=>e (h.inj k l (by rw[W];simp) (by rw[hl];simp) e2.symm))).trans e',hr.keep j⟩
 ·intro t y hl I
  split at I
  ·rename_i H
   injection I with I
   subst I
   rw[H]
   exact⟨v,uy (by rw[h.siz];exact hd t H),hx⟩
  ·rename_i H
   obtain⟨u,e,hr⟩:=h.sees.tmp t y trivial I
   exact⟨u,(rn H).trans e,hr.keep j⟩
theorem Rel.drop (h:Rel av w0 n T B β a w) (k:Nat):Rel av w0 n (oM k T) (fun l=>if l=k then none else B l) β a w:=by
 have I: ∀l,(if l=k then none else B l)≠none->B l≠none/\l≠k:=by grind
 have j:Keep (fun b=>av b\/ ∃l,B l≠none/\β l=b) (fun b=>av b\/ ∃l,(if l=k then none else B l)≠none/\β l=b) w w:=
  ⟨Nat.le_refl _,fun _ _ _=>rfl,fun b _ H=>H.imp id fun⟨l,N,h2⟩=>⟨l,(I l N).1,h2⟩⟩
 have hT: ∀t x,oM k T t=some x->x=.n\/(T t=some x/\jq x≠some k):=by intro t x D;unfold oM at D;grind
 refine⟨h.dfr,h.siz,h.bel,h.avl,h.avE,h.big,fun b H hK=>h.fix b H (I _ hK).1,fun l m hl hm=>h.inj l m (I l hl).1 (I m hm).1,fun l hl=>h.own l (I l hl).1,?_,?_,?_,?_⟩
 ·intro t x l D R;rcases hT t x D with rfl|⟨N,h2⟩;·cases R
  ·have:=h.wf t x l N R;rw[if_neg (fun e=>h2 (by rw[R,e]))];exact this
 ·rintro b (H|⟨l,hl,H⟩);·exact h.sees.av b (.inl H)
  ·exact h.sees.av b (.inr ⟨l,(I l hl).1,H⟩)
 ·intro l U cs hl;have u:(if l=k then none else B l)=some (U,cs):=hl;have J:l≠k:=by grind
  rw[if_neg J] at u;obtain⟨_,vs,e,W⟩:=h.sees.box l U cs u;exact⟨.inr ⟨l,by rw[if_neg J,u];simp,rfl⟩,vs,e,W.keep j⟩
 ·intro t x hL D;rcases hT t x D with rfl|⟨N,_⟩
  ·unfold oM at D;split at D
   ·rename_i y hy;obtain⟨v,e,_⟩:=h.sees.tmp t y hL hy;exact⟨v,e,trivial⟩
   grind
  ·obtain⟨v,e,W⟩:=h.sees.tmp t x hL N;exact⟨v,e,W.keep j⟩
theorem LU (h:Rel av w0 n T B β a w) (u:B k≠none):(fun b=>av b\/ ∃l,(if l=k then none else B l)≠none/\β l=b)=(fun b=>(av b\/ ∃l,B l≠none/\β l=b)/\b≠β k):=by
 funext b;refine propext ⟨?_,?_⟩
 ·rintro(j|⟨l,hl,j⟩)
  ·refine⟨.inl j,fun e=>?_⟩;have:=h.avl b j;rcases h.own k u with g|g;·omega
   ·exact h.avE b j (e▸g)
  ·by_cases e:l=k;·grind
   ·rw[if_neg e] at hl;exact⟨.inr ⟨l,hl,j⟩,fun y=>e (h.inj l k hl u (j.trans y))⟩
 grind
theorem Rel.drew (h:Rel av w0 n T B β a w):Rel av w0 n T B β a w.drew:=
 ⟨h.dfr,h.siz,h.bel.below (ef _ w).drew,h.avl,h.avE,h.big,h.fix,h.inj,h.own,h.wf,⟨h.sees.av,fun k U cs D=>by
  obtain⟨u,vs,e,j⟩:=h.sees.box k U cs D;exact⟨u,vs,e,j.keep (Keep.below (ef _ w).drew)⟩,fun t x y H=>by
  obtain⟨v,e,j⟩:=h.sees.tmp t x y H;exact⟨v,e,j.keep (Keep.below (ef _ w).drew)⟩⟩⟩
theorem Rel.step {Ts:TF}{Bs:BF}{e:Eff}(h:Rel av w0 n T B β a w) (hs:Sem P ops o Ts Bs e) (R: ∀t,o.dst=some t->t<n)
 (hT: ∀t x,d6 ops o t->Ts t=some x->T t=some x) (hB: ∀k c,Bs k=some c->B k=some c) (hf: ∀U cs sl,e=.a U cs sl-> ∃d,o.dst=some d/\B d=none)
 {Q:Exit->Act->World->Prop}{K:Act->World->Prop}(J: ∀a3 a' w',Rel av w0 n (e.tf o.dst T) (e.bf o.dst B) a3 a' w'->K a' w'):
 if Region.wanted o (yielded ops a.tmps) then o.wp P a w K Q\/(o.asks P a w/\LetsOut Q) else K (a.put o.dst undef) w:=by
 have j:=Sees.of h.sees (L:=d6 ops o) (fun _ _=>trivial) hT hB
 cases e with
 |r x=>
  obtain⟨hp,hs⟩:=hs
  obtain⟨D,I⟩:=hs _ β a w j
  rw[if_pos D]
  refine .inl (I.wp fun v w' ⟨H,hb⟩=>J β _ _ ?_)
  refine(h.value R hb H ?_).congr (fun t=>?_) (fun _=>rfl)
  ·intro k e
   obtain⟨t,y,hl,ht,hy⟩:=hp k e
   exact h.wf t y k (hT t _ hl ht) hy
  ·rfl
 |a U cs sl=>
  obtain⟨D,I⟩:=hs _ β a w j
  obtain⟨d,N,a2⟩:=hf U cs sl rfl
  rw[if_pos D]
  refine .inl (I.wp fun v w' ⟨vs,hv,a4,H⟩=>J (fun k=>if k=d then w.heap.size else β k) _ _ ?_)
  subst hv a4
  have:=h.box (U:=U) (sl:=sl) (R d N) a2 H
  rw[N]
  refine this.congr (fun t=>?_) (fun k=>?_)
  ·unfold Eff.tf ent;rfl
  ·unfold Eff.bf;rfl
 |s k U cs=>
  obtain⟨hn,⟨cs0,W⟩,hs⟩:=hs
  obtain⟨D,I⟩:=hs _ β a w j
  rw[if_pos D]
  refine .inl (I.wp fun v w' ⟨vs,hh,ho,ht,hu,H⟩=>J β _ _ ?_)
  rw[hn]
  refine(h.store (hB k _ W) hh ho ht hu H).congr (fun t=>?_) (fun l=>?_)
  ·unfold Eff.tf;simp
  ·unfold Eff.bf;rfl
 |rs k U cs x=>
  obtain⟨hp,⟨cs0,W⟩,hs⟩:=hs
  obtain⟨D,I⟩:=hs _ β a w j
  rw[if_pos D]
  refine .inl (I.wp fun v w' ⟨vs,hh,hm,hc,H⟩=>J β _ _ ?_)
  exact(h.sval (hB k _ W) hh hm R hp hc H).congr (fun t=>rfl) (fun l=>rfl)
 |c k x=>
  obtain⟨a0,a1,hs⟩:=hs
  obtain⟨D,I⟩:=hs _ β a w j
  rw[if_pos D]
  refine .inl (I.wp fun v w' ⟨H,hb⟩=>J β _ _ ?_)
  have W:B k≠none:=by
   cases hc:Bs k with
   |none=>exact absurd hc a1
   |some c=>rw[hB k c hc];simp
  have a5:=h.drop k
  have e:=LU h W
  refine(a5.value R hb (x:=x) (v:=v) (by rw[e];exact H) (fun l hl=>by rw[a0] at hl;cases hl)).congr (fun t=>?_) (fun l=>rfl)
  rfl
 |skip=>
  have D:=hs _ β a w j
  unfold wx at D
  rw[if_neg (by rw[D];simp)]
  refine J β _ _ ?_
  refine(h.value (v:=undef) (x:=.u) R (ef _ _) rfl (by intro k e;cases e)).congr (fun t=>?_) (fun _=>rfl)
  rfl
end
end Go.Proofs.YtegeknjkgadehaaGreat
