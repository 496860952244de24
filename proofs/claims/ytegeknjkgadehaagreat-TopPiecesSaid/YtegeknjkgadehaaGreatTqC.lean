/-Layer 1:integers as values:FromInt64,Sign,Cmp. -/
import Derived.Test.YtegeknjkgadehaaGreatTqB
import Derived.Test.YtegeknjkgadehaaGreatProg
import Derived.Deep.RegionHeld3
import Derived.Orders
namespace Go.Proofs.YtegeknjkgadehaaGreat
open Go Go.RowKit
section
open Go.RowKit
variable {cs:Array Value}{neg:Bool}{x:Int}{xs:List Int}{base c g k n:Nat}{A:Option Addr}{row:Option Nat}{t:TypeId}{w w' w0 w2:World}
theorem ii:type_of% @Bool.true_and:=@Bool.true_and
theorem kS:type_of% @List.getElem?_take:=@List.getElem?_take
theorem oG:type_of% @Bool.false_and:=@Bool.false_and
theorem ui:type_of% @List.getElem?_append_left:=@List.getElem?_append_left
theorem xq:type_of% @List.getElem?_append_right:=@List.getElem?_append_right
def sg (neg:Bool) (v:Int):Int:=if neg then-v else v
theorem gA (v:Int):sg true v= -v:=rfl
theorem cK (v:Int):sg false v=v:=rfl
def IsInt (w:World) (neg:Bool) (A:Option Addr) (n c:Nat) (x:Int):Prop:= ∃xs,Sl w A n c xs/\Nrm xs/\x=sg neg (val xs)/\(neg=true->0<n)
def JZ (w:World) (x:Int) (e:Ending) (w':World):Prop:= ∃neg A n c,e=.returned (.agg #[.bool neg,.slice A n c])/\IsInt w' neg A n c x/\(∀b off,A=some ⟨b,off,none⟩->w.heap.size<=b)/\Below w.heap.size w w'
section
variable {w w':World}{neg:Bool}{A:Option Addr}{n c:Nat}{x:Int}{xs:List Int}
theorem IsInt.below (h:IsInt w neg A n c x) (D:Below w.heap.size w w'):IsInt w' neg A n c x:=by obtain⟨xs,h1,j⟩:=h;exact⟨xs,h1.below D,j⟩
theorem iF (h:Sl w A n c xs) (neg:Bool):IsInt w (neg&&decide (0<(trm xs).length)) A (trm xs).length (trm xs).length (sg neg (val xs)):=by
 have j:=h.trm;refine⟨trm xs,⟨j.1,bk _,gG j.2.1 j.2.2.1,j.2.2.2⟩,tk xs,?_,?_⟩
 .rw[iT];cases neg;·rfl
  .by_cases h0:0<(trm xs).length;·grind
   .have e:trm xs=[]:=jM.1 (by omega);have D:val xs=0:=by rw[<-iT,e];rfl
    rw[D];simp[sg]
 grind
theorem IsInt.le (h:IsInt w neg A n c x) (h1:x<pw k) (I: -x<pw k):n<=k:=by
 obtain⟨xs,hs,D,j,_⟩:=h;rw[<-hs.len];refine D.len hs.2.2.2 ?_;cases neg;·rw[cK] at j;omega
 .rw[gA] at j;omega
theorem IsInt.sign (h:IsInt w neg A n c x):(neg=true->x<0)/\(neg=false->0<n->0<x)/\(n=0->x=0)/\(x=0->n=0):=by
 obtain⟨xs,hs,J,D,I⟩:=h;have hl:=hs.len;have j:0<n->0<val xs:=by intro h0;have h1:=J.ge hs.2.2.2 (by intro e;subst e;simp at hl;omega);have:=eX (xs.length-1);omega
 have R:n=0->val xs=0:=by
  intro h0;have e:xs=[]:=by grind
  rw[e];rfl
 refine⟨fun h=>?_,fun h h0=>?_,fun h=>?_,fun h=>?_⟩;·subst h;rw[gA] at D;have:=j (I rfl);omega
 .subst h;rw[cK] at D;have:=j h0;omega
 .have:=R h;rw[D,this];cases neg<;>rfl
 .rcases je n with h1|h1;·grind
  .have:=j h1;cases neg;·rw[cK] at D;omega
   .rw[gA] at D;omega
end
theorem Bk.set (h:Bk w g t cs) (i:Nat) (v:Value):Bk (w.setCell ⟨g,i,none⟩ v) g t (cs.setIfInBounds i v):=heap_setCell_same w g i cs t v h
theorem Ow.apart (h:Ow w base (.slice A n c) n xs) (j:g<base): ∀b off,A=some ⟨b,off,none⟩->some b≠some g:=by intro b off e;have:=KV h.1 b (by rw[e];simp[Value.ownBlock]);grind
theorem Ow.fresh (h:Ow w base (.slice A n c) n xs) (j:k<=base): ∀b off,A=some ⟨b,off,none⟩->k<=b:=by intro b off e;have:=KV h.1 b (by rw[e];simp[Value.ownBlock]);omega
structure Boxed2 (w w2:World) (g:Nat) (a b:Value):Prop where
 c0:(w2.setCell ⟨g,0,none⟩ a).cell? ⟨g,0,none⟩=some a
 c1:((w2.setCell ⟨g,0,none⟩ a).setCell ⟨g,1,none⟩ b).cell? ⟨g,1,none⟩=some b
 o0:w2.cell? ⟨g,0,none⟩≠none
 f0:w2.frozen? ⟨g,0,none⟩=false
 f1:w2.frozen? ⟨g,1,none⟩=false
 gr:w2.grownBy ((w2.setCell ⟨g,0,none⟩ a).setCell ⟨g,1,none⟩ b) (some g)
 be:Below w.heap.size w ((w2.setCell ⟨g,0,none⟩ a).setCell ⟨g,1,none⟩ b)
theorem tR {p q:Value}(h:Bk w2 g t #[p,q]) (D:Below w.heap.size w w2) (J:w.heap.size<=g) (a b:Value):Boxed2 w w2 g a b:=by have h0:=h.set 0 a;have I: ∀(w:World) (i:Nat) (v:Value),w.grownBy (w.setCell ⟨g,i,none⟩ v) (some g):=fun w i v=>⟨rfl,rfl,rfl,by simp,fun k _ j=>heap_setCell_other w ⟨g,i,none⟩ k v (fun e=>j (by simp[e]))⟩;have gr:=vg (I w2 0 a) (I _ 1 b);exact⟨(h0.cell 0).trans rfl,((h0.set 1 b).cell 1).trans rfl,by rw[h.cell 0];simp,h.frozen 0,h.frozen 1,gr,D.grown gr D.size (by intro k j;injection j with j;omega)⟩
theorem IsInt.grown (h:IsInt w neg A n c x) (I:w.grownBy w' row) (j: ∀b off,A=some ⟨b,off,none⟩->some b≠row):IsInt w' neg A n c x:=by obtain⟨xs,h1,D⟩:=h;exact⟨xs,h1.grown I j,D⟩
theorem RM (A B:Option Addr) (n c m d:Nat) (xs ys:List Int) (w:World) (D:Sl w A n c xs) (j:Sl w B m d ys) (I:n<=100000000) (hm:m<=100000000):Calls Tryz.prog 196 #[.slice A n c,.slice B m d] w fun e w'=> ∃k,Eo w k (val xs+val ys) e w':=by
 by_cases h:m<=n
 .exact((EK A B n c m d xs ys w D j I h).1).mono fun e w' h=>⟨n+1,h⟩
 .refine((EK B A m d n c ys xs w j D hm (by omega)).2 (by omega)).mono fun e w' h=>⟨m+1,?_⟩
  rw[Int.add_comm];exact h
theorem Iz (x:Int) (w:World) (h0: -9223372036854775808<=x) (h1:x<=9223372036854775807):Calls Tryz.prog 170 #[.int .i64 x] w (JZ w x):=by
 by_cases hx:x<0
 .have e1:IntKind.u64.wrap (-IntKind.u64.wrap x)= -x:=by unfold IntKind.wrap;simp[IntKind.bits,IntKind.signed];omega
  go_enter Tryz.func170,Tryz.ntmps170;go_wp2_with fail;refine(Az (-x) _ (by omega) (by omega) (by omega)).mono ?_;rintro e w1 ⟨B,d,ys,rfl,D,a3,I⟩;have R:=((fe w.heap.size w).alloc (bk _) (.cells #[.bool false,.slice none 0 0] 38)).trans (I.mono (by simp));go_wp2_with fail;refine(jZ true B _ d ys _ D.sl).mono ?_;rintro e w2 ⟨rfl,j⟩;have W:=R.trans (j.mono R.size);have hi:=(iF D.sl true).below j;rw[a3,gA,Int.neg_neg] at hi;have J:Bk w2 w.heap.size 38 #[.bool false,.slice none 0 0]:=((Bk.new w 38 #[.bool false,.slice none 0 0]).below I).below j;have a9:w2.cell? ⟨w.heap.size,0,none⟩=some (.bool false):=(J.cell 0).trans rfl;have b3:w2.cell? ⟨w.heap.size,1,none⟩=some (.slice none 0 0):=(J.cell 1).trans rfl;have a6:=D.fresh (k:=w.heap.size) (by simp);have Hb:=tR J W (bk _);generalize (trm ys).length=l at*;obtain⟨k0,k1,_,f0,f1,gr,be⟩:=Hb (.bool (true&&decide (0<l))) (.slice B l l);have a5:=hi.grown gr (D.apart (g:=w.heap.size) (by simp));simp only[ii] at*;go_wp2;refine bodyPost_ret (by simp[results,Tryz.results170,go_sem,k0,k1];try rfl) rfl ?_;exact⟨_,_,_,_,rfl,a5,a6,be⟩
 .have e1:IntKind.u64.wrap x=x:=by unfold IntKind.wrap;simp[IntKind.bits,IntKind.signed];omega
  go_enter Tryz.func170,Tryz.ntmps170;go_wp2_with fail;refine(Az x _ (by omega) (by omega) (by omega)).mono ?_;rintro e w1 ⟨B,d,ys,rfl,D,a3,I⟩;have R:=((fe w.heap.size w).alloc (bk _) (.cells #[.bool false,.slice none 0 0] 38)).trans (I.mono (by simp));go_wp2_with fail;refine(jZ false B _ d ys _ D.sl).mono ?_;rintro e w2 ⟨rfl,j⟩;have W:=R.trans (j.mono R.size);have hi:=(iF D.sl false).below j;rw[a3,cK] at hi;have J:Bk w2 w.heap.size 38 #[.bool false,.slice none 0 0]:=((Bk.new w 38 #[.bool false,.slice none 0 0]).below I).below j;have a9:w2.cell? ⟨w.heap.size,0,none⟩=some (.bool false):=(J.cell 0).trans rfl;have b3:w2.cell? ⟨w.heap.size,1,none⟩=some (.slice none 0 0):=(J.cell 1).trans rfl;have a6:=D.fresh (k:=w.heap.size) (by simp);have Hb:=tR J W (bk _);generalize (trm ys).length=l at*;obtain⟨k0,k1,_,f0,f1,gr,be⟩:=Hb (.bool (false&&decide (0<l))) (.slice B l l);have a5:=hi.grown gr (D.apart (g:=w.heap.size) (by simp));simp only[oG] at*;go_wp2;refine bodyPost_ret (by simp[results,Tryz.results170,go_sem,k0,k1];try rfl) rfl ?_;exact⟨_,_,_,_,rfl,a5,a6,be⟩
theorem R8 (neg:Bool) (A:Option Addr) (n c:Nat) (x:Int) (w:World) (h:IsInt w neg A n c x):Calls Tryz.prog 105 #[.agg #[.bool neg,.slice A n c]] w fun e w'=>e=.returned (.int .i64 (dT x 0))/\Below w.heap.size w w':=by
 obtain⟨D,j,s3,I⟩:=h.sign
 cases neg
 .rcases je n with h0|h0
  .subst h0
   go_enter Tryz.func105,Tryz.ntmps105
   go_wp2
   go_ret
   exact⟨rfl,(fe _ _).alloc (bk _) _⟩
  .have e:=gX (fu (j rfl h0))
   go_enter Tryz.func105,Tryz.ntmps105
   go_wp2
   go_ret
   exact⟨by rw[e.out];rfl,(fe _ _).alloc (bk _) _⟩
 .have e:=gX (fk (D rfl))
  go_enter Tryz.func105,Tryz.ntmps105
  go_wp2
  go_ret
  exact⟨by rw[e.out];rfl,(fe _ _).alloc (bk _) _⟩
theorem Jz (a b:Int):dT (-a) (-b)=dT b a:=by
 unfold dT;by_cases h1:b<a;·grind
 grind
theorem IsInt.nonneg (h:IsInt w false A n c x):0<=x:=by obtain⟨xs,hs,_,j,_⟩:=h;rw[j,cK];exact cH hs.2.2.2
theorem RA (na nb:Bool) (A B:Option Addr) (n c m d:Nat) (x y:Int) (w:World) (J:IsInt w na A n c x) (I:IsInt w nb B m d y):Calls Tryz.prog 109 #[.agg #[.bool na,.slice A n c],.agg #[.bool nb,.slice B m d]] w fun e w'=>e=.returned (.int .i64 (dT x y))/\Below w.heap.size w w':=by
 have j:Below w.heap.size w ((w.alloc (.cells #[.bool na,.slice A n c] 38)).alloc (.cells #[.bool nb,.slice B m d] 38)):=((fe _ _).alloc (bk _) _).alloc (by simp) _
 cases na<;>cases nb
 .obtain⟨xs,hs,_,rfl,_⟩:=J
  obtain⟨ys,R,_,rfl,_⟩:=I
  go_enter Tryz.func109,Tryz.ntmps109
  go_wp2_with fail
  refine(nK A B n c m d xs ys _ (hs.below j) (R.below j)).mono ?_
  rintro e w1 ⟨rfl,D⟩
  go_wp2
  go_ret
  exact⟨rfl,j.trans (D.mono (by simp;omega))⟩
 .have e:=gX (fu (show y<x by have:=J.nonneg;have:=I.sign.1 rfl;omega))
  go_enter Tryz.func109,Tryz.ntmps109
  go_wp2
  go_ret
  exact⟨by rw[e.out];rfl,j⟩
 .have e:=gX (fk (show x<y by have:=I.nonneg;have:=J.sign.1 rfl;omega))
  go_enter Tryz.func109,Tryz.ntmps109
  go_wp2
  go_ret
  exact⟨by rw[e.out];rfl,j⟩
 .obtain⟨xs,hs,_,rfl,_⟩:=J
  obtain⟨ys,R,_,rfl,_⟩:=I
  rw[gA,gA,Jz]
  go_enter Tryz.func109,Tryz.ntmps109
  go_wp2_with fail
  refine(nK B A m d n c ys xs _ (R.below j) (hs.below j)).mono ?_
  rintro e w1 ⟨rfl,D⟩
  go_wp2
  go_ret
  exact⟨rfl,j.trans (D.mono (by simp;omega))⟩
theorem adY (a b:Bool) (u v:Int):sg (a !=b) (u*v)=sg a u*sg b v:=by cases a<;>cases b<;>simp[sg,Int.neg_mul,Int.mul_neg]
theorem adJ (a:Bool) (u v:Int):sg a (u+v)=sg a u+sg a v:=by cases a<;>simp[sg]<;>omega
def v7 (w:World) (a b:Value) (c d:Value):World:=((w.alloc (.cells #[a,b] 38)).alloc (.cells #[c,d] 38)).alloc (.cells #[.bool false,.slice none 0 0] 38)
theorem Sa (na nb:Bool) (A B:Option Addr) (n c m d:Nat) (x y:Int) (w:World) (ha:IsInt w na A n c x) (hb:IsInt w nb B m d y) (hn:n<=100000000) (hm:m<=100000000):Calls Tryz.prog 110 #[.agg #[.bool na,.slice A n c],.agg #[.bool nb,.slice B m d]] w (JZ w (x*y)):=by
 obtain⟨xs,hs,_,rfl,_⟩:=ha
 obtain⟨ys,ht,_,rfl,_⟩:=hb
 rw[<-adY]
 obtain⟨s,R⟩: ∃s,(na !=nb)=s:=⟨_,rfl⟩
 rw[R]
 replace R:(!(na==nb))=s:=R
 have I:Below w.heap.size w (v7 w (.bool na) (.slice A n c) (.bool nb) (.slice B m d)):=(((fe _ _).alloc (bk _) _).alloc (by simp) _).alloc (by simp;omega) _
 have k1:Bk (v7 w (.bool na) (.slice A n c) (.bool nb) (.slice B m d)) w.heap.size 38 #[.bool na,.slice A n c]:=((Bk.new w 38 _).alloc _).alloc _
 have k2:Bk (v7 w (.bool na) (.slice A n c) (.bool nb) (.slice B m d)) (w.heap.size+1) 38 #[.bool nb,.slice B m d]:=by have:=(Bk.new (w.alloc (.cells #[.bool na,.slice A n c] 38)) 38 #[.bool nb,.slice B m d]).alloc (.cells #[.bool false,.slice none 0 0] 38);simpa [v7] using this
 have k3:Bk (v7 w (.bool na) (.slice A n c) (.bool nb) (.slice B m d)) (w.heap.size+1+1) 38 #[.bool false,.slice none 0 0]:=by have:=Bk.new ((w.alloc (.cells #[.bool na,.slice A n c] 38)).alloc (.cells #[.bool nb,.slice B m d] 38)) 38 #[.bool false,.slice none 0 0];simpa [v7] using this
 have c5:(v7 w (.bool na) (.slice A n c) (.bool nb) (.slice B m d)).heap.size=w.heap.size+3:=by simp[v7]
 replace hs:=hs.below I
 replace ht:=ht.below I
 go_enter Tryz.func110,Tryz.ntmps110
 go_wp2_with fail
 rw[show((w.alloc (.cells #[.bool na,.slice A n c] 38)).alloc (.cells #[.bool nb,.slice B m d] 38)).alloc (.cells #[.bool false,.slice none 0 0] 38)=v7 w (.bool na) (.slice A n c) (.bool nb) (.slice B m d) from rfl]
 generalize v7 w (.bool na) (.slice A n c) (.bool nb) (.slice B m d)=w0 at*
 have j1:Bk w0.drew w.heap.size 38 #[.bool na,.slice A n c]:=k1
 have W:Bk w0.drew (w.heap.size+1) 38 #[.bool nb,.slice B m d]:=k2
 have j3:Bk w0.drew (w.heap.size+1+1) 38 #[.bool false,.slice none 0 0]:=k3
 have b3:Sl w0.drew A n c xs:=hs
 have a5:Sl w0.drew B m d ys:=ht
 have a9:Below w.heap.size w w0.drew:=I.drew
 have j:Below w0.heap.size w0.drew w0.drew:=fe _ _
 go_region_held3 (fun w'=>w'.cell? ⟨w.heap.size,0,none⟩=some (.bool na)/\w'.cell? ⟨w.heap.size,1,none⟩=some (.slice A n c)/\w'.cell? ⟨w.heap.size+1,0,none⟩=some (.bool nb)/\w'.cell? ⟨w.heap.size+1,1,none⟩=some (.slice B m d))
  (first|exact⟨f1,f2,f3,f4⟩|exact⟨((j1.below j).cell 0).trans rfl,((j1.below j).cell 1).trans rfl,((W.below j).cell 0).trans rfl,((W.below j).cell 1).trans rfl⟩|exact⟨gr.cell (((j1.below j).cell 0).trans rfl) (by simp;omega),gr.cell (((j1.below j).cell 1).trans rfl) (by simp;omega),gr.cell (((W.below j).cell 0).trans rfl) (by simp),gr.cell (((W.below j).cell 1).trans rfl) (by simp)⟩)
  (first
   |(go_at_call 191;refine(zi A B n c m d xs ys _ (b3.below j) (a5.below j) hn hm).mono ?_;rintro e w4 ⟨A4,c4,zs,rfl,D,b4,a6⟩;replace D:=D.le (b:=w0.heap.size) j.size;replace j:=j.trans (a6.mono j.size))
   |(go_at_call 190;refine(jZ s A4 _ c4 zs _ D.sl).mono ?_;rintro e w5 ⟨rfl,a3⟩;have hi:=(iF D.sl s).below a3;replace j:=j.trans (a3.mono j.size);have J:=j3.below j;have c3:=(J.cell 0).trans rfl;have b7:=(J.cell 1).trans rfl;have b5:=D.apart (g:=w.heap.size+1+1) (by omega);have b6:=D.fresh (k:=w.heap.size) (by omega);generalize (trm zs).length=l at*;obtain⟨z0,z1,_,g0,g1,gr,be⟩:=tR J (a9.trans (j.mono (by omega))) (by omega) (.bool (s&&decide (0<l))) (.slice A4 l l)))
 have a4:=hi.grown gr b5
 rw[b4] at a4
 go_wp2
 refine bodyPost_ret (by simp[results,Tryz.results110,go_sem,z0,z1];try rfl) rfl ?_
 exact⟨_,_,_,_,rfl,a4,b6,be⟩
theorem PA (na nb:Bool) (A B:Option Addr) (n c m d:Nat) (x y:Int) (w:World) (ha:IsInt w na A n c x) (hb:IsInt w nb B m d y) (b5:na=nb) (hn:n<=100000000) (hm:m<=100000000):Calls Tryz.prog 118 #[.agg #[.bool na,.slice A n c],.agg #[.bool nb,.slice B m d]] w (JZ w (x+y)):=by
 obtain⟨xs,hs,_,rfl,_⟩:=ha
 obtain⟨ys,ht,_,rfl,_⟩:=hb
 subst b5
 rw[<-adJ]
 have I:Below w.heap.size w (v7 w (.bool na) (.slice A n c) (.bool na) (.slice B m d)):=(((fe _ _).alloc (bk _) _).alloc (by simp) _).alloc (by simp;omega) _
 have k1:Bk (v7 w (.bool na) (.slice A n c) (.bool na) (.slice B m d)) w.heap.size 38 #[.bool na,.slice A n c]:=((Bk.new w 38 _).alloc _).alloc _
 have k2:Bk (v7 w (.bool na) (.slice A n c) (.bool na) (.slice B m d)) (w.heap.size+1) 38 #[.bool na,.slice B m d]:=by have:=(Bk.new (w.alloc (.cells #[.bool na,.slice A n c] 38)) 38 #[.bool na,.slice B m d]).alloc (.cells #[.bool false,.slice none 0 0] 38);simpa [v7] using this
 have k3:Bk (v7 w (.bool na) (.slice A n c) (.bool na) (.slice B m d)) (w.heap.size+1+1) 38 #[.bool false,.slice none 0 0]:=by have:=Bk.new ((w.alloc (.cells #[.bool na,.slice A n c] 38)).alloc (.cells #[.bool na,.slice B m d] 38)) 38 #[.bool false,.slice none 0 0];simpa [v7] using this
 have c6:(v7 w (.bool na) (.slice A n c) (.bool na) (.slice B m d)).heap.size=w.heap.size+3:=by simp[v7]
 replace hs:=hs.below I
 replace ht:=ht.below I
 go_enter Tryz.func118,Tryz.ntmps118
 go_wp2_with fail
 rw[show((w.alloc (.cells #[.bool na,.slice A n c] 38)).alloc (.cells #[.bool na,.slice B m d] 38)).alloc (.cells #[.bool false,.slice none 0 0] 38)=v7 w (.bool na) (.slice A n c) (.bool na) (.slice B m d) from rfl]
 generalize v7 w (.bool na) (.slice A n c) (.bool na) (.slice B m d)=w0 at*
 have j1:Bk w0.drew w.heap.size 38 #[.bool na,.slice A n c]:=k1
 have R:Bk w0.drew (w.heap.size+1) 38 #[.bool na,.slice B m d]:=k2
 have j3:Bk w0.drew (w.heap.size+1+1) 38 #[.bool false,.slice none 0 0]:=k3
 have a9:Sl w0.drew A n c xs:=hs
 have a4:Sl w0.drew B m d ys:=ht
 have a6:Below w.heap.size w w0.drew:=I.drew
 have j:Below w0.heap.size w0.drew w0.drew:=fe _ _
 go_region_held3 (fun w'=>w'.cell? ⟨w.heap.size,0,none⟩=some (.bool na)/\w'.cell? ⟨w.heap.size,1,none⟩=some (.slice A n c)/\w'.cell? ⟨w.heap.size+1,0,none⟩=some (.bool na)/\w'.cell? ⟨w.heap.size+1,1,none⟩=some (.slice B m d))
  (first|exact⟨f1,f2,f3,f4⟩|exact⟨((j1.below j).cell 0).trans rfl,((j1.below j).cell 1).trans rfl,((R.below j).cell 0).trans rfl,((R.below j).cell 1).trans rfl⟩|exact⟨gr.cell (((j1.below j).cell 0).trans rfl) (by simp;omega),gr.cell (((j1.below j).cell 1).trans rfl) (by simp;omega),gr.cell (((R.below j).cell 0).trans rfl) (by simp),gr.cell (((R.below j).cell 1).trans rfl) (by simp)⟩)
  (first
   |(go_at_call 196;refine(RM A B n c m d xs ys _ (a9.below j) (a4.below j) hn hm).mono ?_;rintro e w4 ⟨k4,A4,c4,zs,rfl,D,b3,a5⟩;replace D:=D.le (b:=w0.heap.size) j.size;replace j:=j.trans (a5.mono j.size))
   |(go_at_call 190;refine(jZ na A4 _ c4 zs _ D.sl).mono ?_;rintro e w5 ⟨rfl,W⟩;have hi:=(iF D.sl na).below W;replace j:=j.trans (W.mono j.size);have J:=j3.below j;have c5:=(J.cell 0).trans rfl;have c3:=(J.cell 1).trans rfl;have b4:=D.apart (g:=w.heap.size+1+1) (by omega);have b6:=D.fresh (k:=w.heap.size) (by omega);generalize (trm zs).length=l at*;obtain⟨z0,z1,_,g0,g1,gr,be⟩:=tR J (a6.trans (j.mono (by omega))) (by omega) (.bool (na&&decide (0<l))) (.slice A4 l l)))
 have a3:=hi.grown gr b4
 rw[b3] at a3
 go_wp2
 refine bodyPost_ret (by simp[results,Tryz.results118,go_sem,z0,z1];try rfl) rfl ?_
 exact⟨_,_,_,_,rfl,a3,b6,be⟩
theorem Vj (a b:Bool) (h:(a==b)=false) (u v:Int):sg a (u-v)=sg a u+sg b v:=by cases a<;>cases b<;>simp[sg] at h⊢ <;>omega
theorem Sl.old (h:Sl w A n c xs): ∀b off,A=some ⟨b,off,none⟩->0<n->b<w.heap.size:=by intro b off e h0;obtain⟨D,j,I,hlt,_⟩:=h.1.2 h0;grind
theorem Sl.grown' (h:Sl w A n c xs) (I:w.grownBy w' row) (D: ∀b off,A=some ⟨b,off,none⟩->0<n->some b≠row):Sl w' A n c xs:=by refine⟨⟨h.1.1,fun J=>?_⟩,h.2⟩;obtain⟨b,off,e,hlt,W⟩:=h.1.2 J;exact⟨b,off,e,kW hlt I.size,fun j u R=>I.cell (W j u R) (D b off e J)⟩
theorem kj (w:World) (g i:Nat) (v:Value):w.grownBy (w.setCell ⟨g,i,none⟩ v) (some g):=⟨rfl,rfl,rfl,by simp,fun k _ j=>heap_setCell_other w ⟨g,i,none⟩ k v (fun e=>j (by simp[e]))⟩
theorem Bk.other {g':Nat}(h:Bk w g t cs) (j:g≠g') (i:Nat) (v:Value):Bk (w.setCell ⟨g',i,none⟩ v) g t cs:=h.grown (kj w g' i v) (by simpa using j)
def Kw (w:World) (g g':Nat) (a b c d:Value):World:=(((w.setCell ⟨g,0,none⟩ c).setCell ⟨g,1,none⟩ d).setCell ⟨g',0,none⟩ a).setCell ⟨g',1,none⟩ b
section
variable {w:World}{g g':Nat}{a b c d:Value}{t:TypeId}
theorem afH (h:Bk w g t #[a,b]) (j:g≠g'):Bk (Kw w g g' a b c d) g t #[c,d]:=(((h.set 0 c).set 1 d).other j 0 a).other j 1 b
theorem ag6 (h:Bk w g' t #[c,d]) (j:g'≠g):Bk (Kw w g g' a b c d) g' t #[a,b]:=(((h.other j 0 c).other j 1 d).set 0 a).set 1 b
theorem ae7 (h:Bk w k t cs) (h1:k≠g) (j:k≠g'):Bk (Kw w g g' a b c d) k t cs:=(((h.other h1 0 c).other h1 1 d).other j 0 a).other j 1 b
theorem O7 (h:Below w0.heap.size w0 w) (h1:w0.heap.size<=g) (j:w0.heap.size<=g'):Below w0.heap.size w0 (Kw w g g' a b c d):=by
 have e: ∀(x:Nat),w0.heap.size<=x-> ∀k,some x=some k->w0.heap.size<=k:=by grind
 have b1:=h.grown (kj w g 0 c) h.size (e g h1);have b2:=b1.grown (kj _ g 1 d) b1.size (e g h1);have D:=b2.grown (kj _ g' 0 a) b2.size (e g' j);exact D.grown (kj _ g' 1 b) D.size (e g' j)
theorem RS {e:Nat}(h:Sl w A n e xs) (h1: ∀b off,A=some ⟨b,off,none⟩->0<n->b<g/\b<g'):Sl (Kw w g g' a b c d) A n e xs:=by
 have j: ∀b off,A=some ⟨b,off,none⟩->0<n->some b≠some g:=fun b off e h0=>by have:=h1 b off e h0;simp;omega
 have D: ∀b off,A=some ⟨b,off,none⟩->0<n->some b≠some g':=fun b off e h0=>by have:=h1 b off e h0;simp;omega
 exact(((h.grown' (kj w g 0 c) j).grown' (kj _ g 1 d) j).grown' (kj _ g' 0 a) D).grown' (kj _ g' 1 b) D
theorem Su:(Kw w g g' a b c d).heap.size=w.heap.size:=by simp[Kw]
end
theorem Lm (na nb:Bool) (A B:Option Addr) (n c m d:Nat) (x y:Int) (w:World) (ha:IsInt w na A n c x) (hb:IsInt w nb B m d y) (c7:(na==nb)=false) (hn:n<=100000000) (hm:m<=100000000):Calls Tryz.prog 118 #[.agg #[.bool na,.slice A n c],.agg #[.bool nb,.slice B m d]] w (JZ w (x+y)):=by
 obtain⟨xs,hs,_,rfl,_⟩:=ha
 obtain⟨ys,ht,_,rfl,_⟩:=hb
 obtain⟨t,R⟩: ∃t,dT (val xs) (val ys)=t:=⟨_,rfl⟩
 have d7:=hs.old
 have d2:=ht.old
 have I:Below w.heap.size w (v7 w (.bool na) (.slice A n c) (.bool nb) (.slice B m d)):=(((fe _ _).alloc (bk _) _).alloc (by simp) _).alloc (by simp;omega) _
 have k1:Bk (v7 w (.bool na) (.slice A n c) (.bool nb) (.slice B m d)) w.heap.size 38 #[.bool na,.slice A n c]:=((Bk.new w 38 _).alloc _).alloc _
 have k2:Bk (v7 w (.bool na) (.slice A n c) (.bool nb) (.slice B m d)) (w.heap.size+1) 38 #[.bool nb,.slice B m d]:=by have:=(Bk.new (w.alloc (.cells #[.bool na,.slice A n c] 38)) 38 #[.bool nb,.slice B m d]).alloc (.cells #[.bool false,.slice none 0 0] 38);simpa [v7] using this
 have k3:Bk (v7 w (.bool na) (.slice A n c) (.bool nb) (.slice B m d)) (w.heap.size+1+1) 38 #[.bool false,.slice none 0 0]:=by have:=Bk.new ((w.alloc (.cells #[.bool na,.slice A n c] 38)).alloc (.cells #[.bool nb,.slice B m d] 38)) 38 #[.bool false,.slice none 0 0];simpa [v7] using this
 have e6:(v7 w (.bool na) (.slice A n c) (.bool nb) (.slice B m d)).heap.size=w.heap.size+3:=by simp[v7]
 replace hs:=hs.below I
 replace ht:=ht.below I
 have Hx:=gX (Vj na nb c7 (val xs) (val ys))
 have Hy:=gX (Vj nb na (by cases na<;>cases nb<;>simp at c7⊢) (val ys) (val xs))
 go_enter Tryz.func118,Tryz.ntmps118
 go_wp2_with fail
 refine(nK A B n c m d xs ys (v7 w (.bool na) (.slice A n c) (.bool nb) (.slice B m d)) hs ht).mono ?_
 rintro e w1 ⟨rfl,W⟩
 rw[R]
 replace hs:=hs.below W
 replace ht:=ht.below W
 replace k1:=k1.below W
 replace k2:=k2.below W
 replace k3:=k3.below W
 have c6:w.heap.size+3<=w1.heap.size:=by have:=W.size;omega
 replace I:=I.trans (W.mono (by omega))
 clear W e6
 by_cases g6:t<0
 .have c3:val xs<=val ys:=by
   unfold dT at R;split at R;·omega
   .split at R<;>omega
  clear R
  have g5:=(k1.cell 0).trans rfl
  have g3:=(k1.cell 1).trans rfl
  have e2:=(k2.cell 0).trans rfl
  have e9:=(k2.cell 1).trans rfl
  have g4:=k1.frozen 0
  have e5:=k1.frozen 1
  have f3:=k2.frozen 0
  have e3:=k2.frozen 1
  have d6:Sl (Kw w1 w.heap.size (w.heap.size+1) (.bool na) (.slice A n c) (.bool nb) (.slice B m d)) A n c xs:=RS hs (fun b off e h0=>by have:=d7 b off e h0;omega)
  have d3:Sl (Kw w1 w.heap.size (w.heap.size+1) (.bool na) (.slice A n c) (.bool nb) (.slice B m d)) B m d ys:=RS ht (fun b off e h0=>by have:=d2 b off e h0;omega)
  have d4:Bk (Kw w1 w.heap.size (w.heap.size+1) (.bool na) (.slice A n c) (.bool nb) (.slice B m d)) w.heap.size 38 #[.bool nb,.slice B m d]:=afH k1 (by omega)
  have c8:Bk (Kw w1 w.heap.size (w.heap.size+1) (.bool na) (.slice A n c) (.bool nb) (.slice B m d)) (w.heap.size+1) 38 #[.bool na,.slice A n c]:=ag6 k2 (by omega)
  have d5:Bk (Kw w1 w.heap.size (w.heap.size+1) (.bool na) (.slice A n c) (.bool nb) (.slice B m d)) (w.heap.size+1+1) 38 #[.bool false,.slice none 0 0]:=ae7 k3 (by omega) (by omega)
  have b5:Below w.heap.size w (Kw w1 w.heap.size (w.heap.size+1) (.bool na) (.slice A n c) (.bool nb) (.slice B m d)):=O7 I (bk _) (by omega)
  have b6:w.heap.size+3<=(Kw w1 w.heap.size (w.heap.size+1) (.bool na) (.slice A n c) (.bool nb) (.slice B m d)).heap.size:=by rw[Su];exact c6
  clear k1 k2 k3 hs ht I c6
  go_wp2_with fail
  rw[show(((w1.setCell ⟨w.heap.size,0,none⟩ (.bool nb)).setCell ⟨w.heap.size,1,none⟩ (.slice B m d)).setCell ⟨w.heap.size+1,0,none⟩ (.bool na)).setCell ⟨w.heap.size+1,1,none⟩ (.slice A n c)=Kw w1 w.heap.size (w.heap.size+1) (.bool na) (.slice A n c) (.bool nb) (.slice B m d) from rfl]
  generalize Kw w1 w.heap.size (w.heap.size+1) (.bool na) (.slice A n c) (.bool nb) (.slice B m d)=w6 at*
  clear g5 g3 e2 e9 g4 e5 f3 e3
  have hs:=d6
  have ht:=d3
  have k1:=d4
  have k2:=c8
  have k3:=d5
  have I:=b5
  have c6:=b6
  clear d6 d3 d4 c8 d5 b5 b6
  focus
   have j1:Bk w6.drew w.heap.size 38 #[.bool nb,.slice B m d]:=k1
   have j2:Bk w6.drew (w.heap.size+1) 38 #[.bool na,.slice A n c]:=k2
   have j3:Bk w6.drew (w.heap.size+1+1) 38 #[.bool false,.slice none 0 0]:=k3
   have b3:Sl w6.drew B m d ys:=ht
   have a4:Sl w6.drew A n c xs:=hs
   have a6:Below w.heap.size w w6.drew:=I.drew
   have j:Below w6.heap.size w6.drew w6.drew:=fe _ _
   have f1:w6.drew.cell? ⟨w.heap.size,0,none⟩=some (.bool nb):=(j1.cell 0).trans rfl
   have f2:w6.drew.cell? ⟨w.heap.size,1,none⟩=some (.slice B m d):=(j1.cell 1).trans rfl
   have f4:w6.drew.cell? ⟨w.heap.size+1,1,none⟩=some (.slice A n c):=(j2.cell 1).trans rfl
   clear hs ht k1 k2 k3
   go_region_held3 (fun w'=>w'.cell? ⟨w.heap.size,0,none⟩=some (.bool nb)/\w'.cell? ⟨w.heap.size,1,none⟩=some (.slice B m d)/\w'.cell? ⟨w.heap.size+1,1,none⟩=some (.slice A n c))
    (first|exact⟨f1,f2,f4⟩|exact⟨((j1.below j).cell 0).trans rfl,((j1.below j).cell 1).trans rfl,((j2.below j).cell 1).trans rfl⟩|exact⟨gr.cell (((j1.below j).cell 0).trans rfl) (by simp;omega),gr.cell (((j1.below j).cell 1).trans rfl) (by simp;omega),gr.cell (((j2.below j).cell 1).trans rfl) (by simp)⟩)
    (first
     |(go_at_call 197;refine(E3 B A m d n c ys xs _ (b3.below j) (a4.below j) hm c3).mono ?_;rintro e w4 ⟨A4,c4,zs,rfl,D,b4,a5⟩;replace D:=D.le (b:=w6.heap.size) j.size;replace j:=j.trans (a5.mono j.size))
     |(go_at_call 190;refine(jZ nb A4 _ c4 zs _ D.sl).mono ?_;rintro e w5 ⟨rfl,a3⟩;have hi:=(iF D.sl nb).below a3;replace j:=j.trans (a3.mono j.size);have J:=j3.below j;have g2:=(J.cell 0).trans rfl;have e4:=(J.cell 1).trans rfl;have b7:=D.apart (g:=w.heap.size+1+1) (by omega);have c5:=D.fresh (k:=w.heap.size) (by omega);generalize (trm zs).length=l at*;obtain⟨z0,z1,_,g0,g1,gr,be⟩:=tR J (a6.trans (j.mono (by omega))) (by omega) (.bool (nb&&decide (0<l))) (.slice A4 l l)))
   have a9:=hi.grown gr b7
   rw[b4] at a9
   clear hi gr D j a5 a3 J j1 j2 j3 b3 a4 f1 f2 f4 a6 I
   go_wp2
   refine bodyPost_ret (by simp[results,Tryz.results118,go_sem,z0,z1];try rfl) rfl ?_
   refine⟨_,_,_,_,rfl,?_,c5,be⟩
   rw[Int.add_comm,<-Hy.out]
   exact a9
 .have c3:val ys<=val xs:=by
   unfold dT at R;split at R;·omega
   .split at R<;>omega
  clear R
  go_wp2_with fail
  focus
   have j1:Bk w1.drew w.heap.size 38 #[.bool na,.slice A n c]:=k1
   have j2:Bk w1.drew (w.heap.size+1) 38 #[.bool nb,.slice B m d]:=k2
   have j3:Bk w1.drew (w.heap.size+1+1) 38 #[.bool false,.slice none 0 0]:=k3
   have b3:Sl w1.drew A n c xs:=hs
   have a4:Sl w1.drew B m d ys:=ht
   have a6:Below w.heap.size w w1.drew:=I.drew
   have j:Below w1.heap.size w1.drew w1.drew:=fe _ _
   have f1:w1.drew.cell? ⟨w.heap.size,0,none⟩=some (.bool na):=(j1.cell 0).trans rfl
   have f2:w1.drew.cell? ⟨w.heap.size,1,none⟩=some (.slice A n c):=(j1.cell 1).trans rfl
   have f4:w1.drew.cell? ⟨w.heap.size+1,1,none⟩=some (.slice B m d):=(j2.cell 1).trans rfl
   clear hs ht k1 k2 k3
   go_region_held3 (fun w'=>w'.cell? ⟨w.heap.size,0,none⟩=some (.bool na)/\w'.cell? ⟨w.heap.size,1,none⟩=some (.slice A n c)/\w'.cell? ⟨w.heap.size+1,1,none⟩=some (.slice B m d))
    (first|exact⟨f1,f2,f4⟩|exact⟨((j1.below j).cell 0).trans rfl,((j1.below j).cell 1).trans rfl,((j2.below j).cell 1).trans rfl⟩|exact⟨gr.cell (((j1.below j).cell 0).trans rfl) (by simp;omega),gr.cell (((j1.below j).cell 1).trans rfl) (by simp;omega),gr.cell (((j2.below j).cell 1).trans rfl) (by simp)⟩)
    (first
     |(go_at_call 197;refine(E3 A B n c m d xs ys _ (b3.below j) (a4.below j) hn c3).mono ?_;rintro e w4 ⟨A4,c4,zs,rfl,D,b4,a5⟩;replace D:=D.le (b:=w1.heap.size) j.size;replace j:=j.trans (a5.mono j.size))
     |(go_at_call 190;refine(jZ na A4 _ c4 zs _ D.sl).mono ?_;rintro e w5 ⟨rfl,a3⟩;have hi:=(iF D.sl na).below a3;replace j:=j.trans (a3.mono j.size);have J:=j3.below j;have g2:=(J.cell 0).trans rfl;have e4:=(J.cell 1).trans rfl;have b7:=D.apart (g:=w.heap.size+1+1) (by omega);have c5:=D.fresh (k:=w.heap.size) (by omega);generalize (trm zs).length=l at*;obtain⟨z0,z1,_,g0,g1,gr,be⟩:=tR J (a6.trans (j.mono (by omega))) (by omega) (.bool (na&&decide (0<l))) (.slice A4 l l)))
   have a9:=hi.grown gr b7
   rw[b4] at a9
   clear hi gr D j a5 a3 J j1 j2 j3 b3 a4 f1 f2 f4 a6 I
   go_wp2
   refine bodyPost_ret (by simp[results,Tryz.results118,go_sem,z0,z1];try rfl) rfl ?_
   refine⟨_,_,_,_,rfl,?_,c5,be⟩
   rw[<-Hx.out]
   exact a9
theorem LU (A B:Option Addr) (n c m d:Nat) (xs ys:List Int) (w:World) (I:Sl w A n c xs) (j:Sl w B m d ys) (D:n<=100000000) (hm:m<=100000000) (h0:val ys≠0):Calls Tryz.prog 263 #[.slice A n c,.slice B m d] w (DI w (val xs/val ys) (val xs%val ys)):=by
 by_cases h1:(trm ys).length=1
 .exact LE A B n c m d xs ys w I j D h1
 .by_cases hlt:val xs<val ys
  .exact JL A B n c m d xs ys w I j D h1 hlt
  .have R:(trm ys).length≠0:=by intro e;have J:trm ys=[]:=jM.1 e;exact h0 (by rw[<-iT,J];rfl)
   exact JW A B n c m d ((trm ys).length-2) xs ys w I j D hm (by omega) (by omega)
theorem CI (na nb:Bool) (A B:Option Addr) (n c m d:Nat) (x y:Int) (w:World) (I:IsInt w na A n c x) (j:IsInt w nb B m d y) (D:n<=100000000) (hm:m<=100000000):Calls Tryz.prog 118 #[.agg #[.bool na,.slice A n c],.agg #[.bool nb,.slice B m d]] w (JZ w (x+y)):=by
 by_cases h:na=nb
 .exact PA na nb A B n c m d x y w I j h D hm
 .exact Lm na nb A B n c m d x y w I j (by simpa using h) D hm
set_option maxRecDepth 10000 in
theorem Of {o:Oper}{a:Act}{K:Act->World->Prop}{Q:Exit->Act->World->Prop}(s x:Operand) (ho:o.op=.call {callee:=.builtin .append,args:= #[s,x],argTypes:= #[36,36]}) (A:Option Addr) (n c:Nat) (xs:List Int) (hs:a.eval s=.slice none 0 0) (hx:a.eval x=.slice A n c) (ha:Sl w A n c xs) (hn:n<=1000000000) (h: ∀v' w',Ow w' w.heap.size v' n xs->w.grownBy w' none->K (a.put o.dst v') w'):o.wp Tryz.prog a w K Q:=by
 obtain⟨i0,I,a6,a4,a3⟩:=info_parts nP
 have D:=ha.len
 cases A with
 |none=>
  have h0:n=0:=by
   rcases je n with h0|h0;·exact h0
   .obtain⟨b,off,e,_⟩:=ha.1.2 h0;cases e
  subst h0
  obtain rfl:=jM.1 D
  unfold Oper.wp
  simp[execOp,ho,resolve,invoke,builtin,hs,hx,pS w w.heap.size 36 o.type 255 i0 1 c oA I (.slice none 0 0) 0 [] (qQ _ _ _ _),Result.andThen]
  exact(h _ _ ⟨qQ _ _ _ _,Lim.nil⟩ (World.grownBy.refl _ _))
 |some ad=>
  refine wp_append_own w s x 36 ho w.heap.size 255 i0 (.int .u32 0) 1 4 oA I a6 a4 a3 rfl (by decide) (.slice none 0 0) 0 [] hs (qQ _ _ _ _) ad n c (xs.map (Value.int .u32)) hx (by simp[D]) ?_ (by intro u J;simp at J;obtain⟨z,_,rfl⟩:=J;simp[Value.oneCell']) (by unfold maxLen;omega) (by omega) (bk _) ?_
  .intro j u J
   have hj:0<n:=by
    rcases je n with h0|h0
    .subst h0;obtain rfl:=jM.1 D;simp at J
    .exact h0
   obtain⟨b,off,e,hlt,hc⟩:=ha.1.2 hj
   injection e with e
   subst e
   have:=hc j u J
   unfold Addr.add
   split
   .rename_i h0;subst h0;exact this
   .exact this
  .intro v' w' R a5 _
   refine h v' w' ⟨by simpa using R,ha.2.2.2⟩ ?_
   simpa [Value.ownBlock] using a5
set_option maxRecDepth 10000 in
theorem UN (na:Bool) (A:Option Addr) (n c:Nat) (x:Int) (w:World) (ha:IsInt w na A n c x) (hn:n<=100000000):Calls Tryz.prog 165 #[.agg #[.bool na,.slice A n c]] w (JZ w (-x)):=by
 obtain⟨xs,hs,_,rfl,_⟩:=ha
 obtain⟨s,a5⟩: ∃s,(!na)=s:=⟨_,rfl⟩
 have e: -sg na (val xs)=sg s (val xs):=by subst a5;cases na<;>simp[sg]
 rw[e]
 have I:Below w.heap.size w ((w.alloc (.cells #[.bool na,.slice A n c] 38)).alloc (.cells #[.bool false,.slice none 0 0] 38)):=((fe _ _).alloc (bk _) _).alloc (by simp) _
 have k1:Bk ((w.alloc (.cells #[.bool na,.slice A n c] 38)).alloc (.cells #[.bool false,.slice none 0 0] 38)) w.heap.size 38 #[.bool na,.slice A n c]:=(Bk.new w 38 _).alloc _
 have k3:Bk ((w.alloc (.cells #[.bool na,.slice A n c] 38)).alloc (.cells #[.bool false,.slice none 0 0] 38)) (w.heap.size+1) 38 #[.bool false,.slice none 0 0]:=by have:=Bk.new (w.alloc (.cells #[.bool na,.slice A n c] 38)) 38 #[.bool false,.slice none 0 0];simpa using this
 have b7:((w.alloc (.cells #[.bool na,.slice A n c] 38)).alloc (.cells #[.bool false,.slice none 0 0] 38)).heap.size=w.heap.size+2:=by simp
 replace hs:=hs.below I
 go_enter Tryz.func165,Tryz.ntmps165
 go_wp2_with fail
 generalize (w.alloc (.cells #[.bool na,.slice A n c] 38)).alloc (.cells #[.bool false,.slice none 0 0] 38)=w0 at*
 have W:Bk w0.drew w.heap.size 38 #[.bool na,.slice A n c]:=k1
 have j3:Bk w0.drew (w.heap.size+1) 38 #[.bool false,.slice none 0 0]:=k3
 have a4:Sl w0.drew A n c xs:=hs
 have a3:Below w.heap.size w w0.drew:=I.drew
 have j:Below w0.heap.size w0.drew w0.drew:=fe _ _
 have f1:w0.drew.cell? ⟨w.heap.size,0,none⟩=some (.bool na):=(W.cell 0).trans rfl
 have f2:w0.drew.cell? ⟨w.heap.size,1,none⟩=some (.slice A n c):=(W.cell 1).trans rfl
 go_region_held3 (fun w'=>w'.cell? ⟨w.heap.size,0,none⟩=some (.bool na)/\w'.cell? ⟨w.heap.size,1,none⟩=some (.slice A n c))
  (first|exact⟨f1,f2⟩|exact⟨((W.below j).cell 0).trans rfl,((W.below j).cell 1).trans rfl⟩|exact⟨gr.cell (((W.below j).cell 0).trans rfl) (by simp),gr.cell (((W.below j).cell 1).trans rfl) (by simp)⟩)
  (first
   |(refine Of _ _ rfl A n c xs rfl rfl (a4.below j) (by omega) ?_;intro v4 w4 D b4;obtain⟨A4,c4,rfl⟩:=D.form;replace D:=D.le (b:=w0.heap.size) j.size;replace j:=j.grown b4 j.size (by simp))
   |(go_at_call 190;refine(jZ s A4 _ c4 xs _ D.sl).mono ?_;rintro e w5 ⟨rfl,R⟩;have hi:=(iF D.sl s).below R;replace j:=j.trans (R.mono j.size);have J:=j3.below j;have b6:=(J.cell 0).trans rfl;have b5:=(J.cell 1).trans rfl;have a6:=D.apart (g:=w.heap.size+1) (by omega);have a9:=D.fresh (k:=w.heap.size) (by omega);generalize (trm xs).length=l at*;obtain⟨z0,z1,_,g0,g1,gr,be⟩:=tR J (a3.trans (j.mono (by omega))) (by omega) (.bool (s&&decide (0<l))) (.slice A4 l l)))
 go_wp2
 refine bodyPost_ret (by simp[results,Tryz.results165,go_sem,z0,z1];try rfl) rfl ?_
 exact⟨_,_,_,_,rfl,hi.grown gr a6,a9,be⟩
theorem IsInt.flip (h:IsInt w neg A n c x):IsInt w (!neg&&decide (0<n)) A n c (-x):=by
 obtain⟨W,I,s3,R⟩:=h.sign;obtain⟨xs,hs,D,j,J⟩:=h;refine⟨xs,hs,D,?_,?_⟩
 .cases neg
  .by_cases h0:0<n;·simp[h0,sg] at j⊢;omega
   .have:=s3 (by omega);simp[h0,sg] at j⊢;omega
  .simp[sg] at j⊢;omega
 .intro h;simp at h;exact h.2
theorem TE (na nb:Bool) (A B:Option Addr) (n c m d:Nat) (x y:Int) (w:World) (ha:IsInt w na A n c x) (hb:IsInt w nb B m d y) (hn:n<=100000000) (hm:m<=100000000):Calls Tryz.prog 317 #[.agg #[.bool na,.slice A n c],.agg #[.bool nb,.slice B m d]] w (JZ w (x-y)):=by
 have hf:=hb.flip
 obtain⟨s,a3⟩: ∃s,(!nb&&decide (0<m))=s:=⟨_,rfl⟩
 rw[a3] at hf
 rw[Int.sub_eq_add_neg]
 have j:Below w.heap.size w (v7 w (.bool na) (.slice A n c) (.bool s) (.slice B m d)):=(((fe _ _).alloc (bk _) _).alloc (by simp) _).alloc (by simp;omega) _
 have a5:=ha.below j
 have a4:=hf.below j
 have k3:Bk (v7 w (.bool na) (.slice A n c) (.bool s) (.slice B m d)) (w.heap.size+1+1) 38 #[.bool false,.slice none 0 0]:=by have:=Bk.new ((w.alloc (.cells #[.bool na,.slice A n c] 38)).alloc (.cells #[.bool s,.slice B m d] 38)) 38 #[.bool false,.slice none 0 0];simpa [v7] using this
 have b4:(v7 w (.bool na) (.slice A n c) (.bool s) (.slice B m d)).heap.size=w.heap.size+3:=by simp[v7]
 cases nb
 .replace a3:decide (0<m)=s:=by simpa using a3
  go_enter Tryz.func317,Tryz.ntmps317
  go_wp2_with fail
  refine(CI _ _ _ _ _ _ _ _ _ _ _ a5 a4 hn hm).mono ?_
  rintro e w1 ⟨neg,A',n',c',rfl,hi,J,I⟩
  have D:=k3.below I
  have b3:=(D.cell 0).trans rfl
  have a9:=(D.cell 1).trans rfl
  have R: ∀b off,A'=some ⟨b,off,none⟩->some b≠some (w.heap.size+1+1):=fun b off e=>by have:=J b off e;simp;omega
  have W: ∀b off,A'=some ⟨b,off,none⟩->w.heap.size<=b:=fun b off e=>by have:=J b off e;omega
  obtain⟨z0,z1,_,g0,g1,gr,be⟩:=tR D (j.trans (I.mono (by omega))) (by omega) (.bool neg) (.slice A' n' c')
  go_wp2
  refine bodyPost_ret (by simp[results,Tryz.results317,go_sem,z0,z1];try rfl) rfl ?_
  exact⟨_,_,_,_,rfl,hi.grown gr R,W,be⟩
 .obtain rfl:false=s:=by simpa using a3
  go_enter Tryz.func317,Tryz.ntmps317
  go_wp2_with fail
  refine(CI _ _ _ _ _ _ _ _ _ _ _ a5 a4 hn hm).mono ?_
  rintro e w1 ⟨neg,A',n',c',rfl,hi,J,I⟩
  have D:=k3.below I
  have b3:=(D.cell 0).trans rfl
  have a9:=(D.cell 1).trans rfl
  have R: ∀b off,A'=some ⟨b,off,none⟩->some b≠some (w.heap.size+1+1):=fun b off e=>by have:=J b off e;simp;omega
  have W: ∀b off,A'=some ⟨b,off,none⟩->w.heap.size<=b:=fun b off e=>by have:=J b off e;omega
  obtain⟨z0,z1,_,g0,g1,gr,be⟩:=tR D (j.trans (I.mono (by omega))) (by omega) (.bool neg) (.slice A' n' c')
  go_wp2
  refine bodyPost_ret (by simp[results,Tryz.results317,go_sem,z0,z1];try rfl) rfl ?_
  exact⟨_,_,_,_,rfl,hi.grown gr R,W,be⟩
theorem ST (na:Bool) (A:Option Addr) (n c:Nat) (xs:List Int) (w:World) (hs:Sl w A n c xs) (hn:n<=1):Calls Tryz.prog 262 #[.agg #[.bool na,.slice A n c]] w fun e w'=>e=.returned (.tuple #[.int .u64 (val xs),.bool true])/\Below w.heap.size w w':=by
 have hl:=hs.len
 have j:Below w.heap.size w (w.alloc (.cells #[.bool na,.slice A n c] 38)):=(fe _ _).alloc (bk _) _
 rcases je n with h0|h0
 .subst h0
  obtain rfl:=jM.1 hl
  go_enter Tryz.func262,Tryz.ntmps262
  go_wp2
  go_ret2
  exact⟨rfl,j⟩
 .obtain rfl:n=1:=by omega
  obtain⟨b,off,x,rfl,hb,D,W,J,I⟩:=(hs.below j).at_ (show 0<1 by omega)
  rw[ru] at W
  have R:Hid (val xs=x):=by have h1:=aQ D.out;rw[cV (by omega)] at h1;simp[val,tL] at h1;exact h1
  go_enter Tryz.func262,Tryz.ntmps262
  go_wp2
  go_ret2
  exact⟨by rw[R.out];rfl,j⟩
theorem Tu (na:Bool) (A:Option Addr) (c:Nat) (xs:List Int) (w:World) (hs:Sl w A 2 c xs):Calls Tryz.prog 262 #[.agg #[.bool na,.slice A (2:Nat) c]] w fun e w'=>e=.returned (.tuple #[.int .u64 (val xs),.bool true])/\Below w.heap.size w w':=by
 have hl:=hs.len
 have j:Below w.heap.size w (w.alloc (.cells #[.bool na,.slice A 2 c] 38)):=(fe _ _).alloc (bk _) _
 obtain⟨b,off,x,rfl,hb,I,W,a4,a3⟩:=(hs.below j).at_ (show 0<2 by omega)
 obtain⟨_,_,y,e1,_,R,a6,a5,J⟩:=(hs.below j).at_ (show 1<2 by omega)
 injection e1 with e1
 injection e1 with e1 e2 _
 subst e1 e2
 rw[ru] at W
 have hv:Hid (val xs=y*1000000000+x):=by show _=_;have D:=aQ R.out;rw[cV (by omega),aQ I.out,eZ] at D;simp[val,tL] at D;omega
 go_enter Tryz.func262,Tryz.ntmps262
 go_wp2_with fail
 go_quiet (fail)
 go_wp2
 go_ret2
 exact⟨by rw[hv.out];rfl,Below.drewN' j _⟩
theorem Ph (na:Bool) (A:Option Addr) (n c:Nat) (w:World) (I:3<=n):Calls Tryz.prog 262 #[.agg #[.bool na,.slice A n c]] w fun e w'=>e=.returned (.tuple #[.int .u64 0,.bool false])/\Below w.heap.size w w':=by
 have j:Below w.heap.size w (w.alloc (.cells #[.bool na,.slice A n c] 38)):=(fe _ _).alloc (bk _) _
 have h0:((n:Int)==0)=false:=by simp;omega
 have h1:((n:Int)==1)=false:=by simp;omega
 have D:((n:Int)==2)=false:=by simp;omega
 go_enter Tryz.func262,Tryz.ntmps262
 go_wp2
 go_ret2
 exact⟨rfl,j⟩
end
section
variable {a:Act}{vs vs':List Value}{b k t:Nat}{E L L' V V' av av':Nat->Prop}{o:Oper}{d sl:Option Nat}{P:Program}{U:TypeId}{v:Value}{K:Value->World->Prop}{w w':World}
inductive CellD where
 |b (v:Bool)
 |i (k:IntKind) (n:Int)
 |f (g:FuncId)
 |s (n:Nat) (xs:List CellD)
 |l (x:Int)
 |p (us:List CellD)
 |k (g:FuncId) (xs:List CellD)
 |x
 |e (v:Value)
inductive RdC (av:Nat->Prop) (w:World):Value->CellD->Prop
 |b (v:Bool):RdC av w (.bool v) (.b v)
 |i (k:IntKind) (n:Int):RdC av w (.int k n) (.i k n)
 |f (g:FuncId):RdC av w (.func (.func g) #[] #[]) (.f g)
 |s0 (A:Option Addr) (c:Nat):c<=9223372036854775807->RdC av w (.slice A 0 c) (.s 0 [])
 |s (b off c sz n:Nat) (xs:List CellD) (cv:Nat->Value):0<n->n<=c->c<=9223372036854775807->xs.length=n*sz->b<w.heap.size-> ¬av b->
    (∀j,j<n*sz->w.cell? ⟨b,off+j,none⟩=some (cv j))->(∀(j:Nat) (u:CellD),xs[j]? =some u->RdC av w (cv j) u)->RdC av w (.slice (some ⟨b,off,none⟩) n c) (.s n xs)
 |l (A:Option Addr) (n c:Nat) (xs:List Int):RdI .u32 w A n xs->n<=c->c<=9223372036854775807->Lim xs->(∀b off,0<n->A=some ⟨b,off,none⟩-> ¬av b)->RdC av w (.slice A n c) (.l (val xs))
 |p (b off:Nat) (us:List CellD) (cv:Nat->Value):b<w.heap.size-> ¬av b->(∀j,j<us.length->w.cell? ⟨b,off+j,none⟩=some (cv j))->(∀(j:Nat) (u:CellD),us[j]? =some u->RdC av w (cv j) u)->RdC av w (.pointer (some ⟨b,off,none⟩)) (.p us)
 |k (g:FuncId) (cs:Array Value) (xs:List CellD):cs.size=xs.length->(∀(j:Nat) (v:Value) (u:CellD),cs[j]? =some v->xs[j]? =some u->RdC av w v u)->RdC av w (.func (.func g) #[] cs) (.k g xs)
 |x (v:Value):(∀cs,v≠ .agg cs)->(∀cs,v≠ .tuple cs)->RdC av w v .x
 |e (v:Value):(∀cs,v≠ .agg cs)->(∀cs,v≠ .tuple cs)->RdC av w v (.e v)
structure Keep (av av':Nat->Prop) (w w':World):Prop where
 size:w.heap.size<=w'.heap.size
 block: ∀b,b<w.heap.size-> ¬av b->w'.heap[b]? =w.heap[b]?
 less: ∀b,b<w.heap.size->av' b->av b
theorem Keep.below (h:Below w.heap.size w w'):Keep av av w w':=⟨h.size,fun b j _=>h.block b j,fun _ _ h=>h⟩
theorem nv {a:Addr}(h:w'.heap[a.block]? =w.heap[a.block]?):w'.cell? a=w.cell? a:=by unfold World.cell?;rw[h]
theorem RdC.keep (I:Keep av av' w w') {u:CellD}(h:RdC av w v u):RdC av' w' v u:=by
 induction h with
 |b v=>exact .b v
 |i k n=>exact .i k n
 |f g=>exact .f g
 |x v h1 J=>exact .x v h1 J
 |e v h1 J=>exact .e v h1 J
 |s0 A c hc=>exact .s0 A c hc
 |l A n c xs h0 h1 J h3 D=>
  refine .l A n c xs ⟨h0.1,fun hn=>?_⟩ h1 J h3 (fun b off hn e hb=>?_)
  .obtain⟨b,off,e,hlt,hc⟩:=h0.2 hn;exact⟨b,off,e,kW hlt I.size,fun j u hu=>(nv (I.block b hlt (D b off hn e))).trans (hc j u hu)⟩
  .obtain⟨b',a3,e',hlt,_⟩:=h0.2 hn;rw[e] at e';injection e' with e';injection e' with e1 e2;subst e1;exact D b off hn e (I.less b hlt hb)
 |p b off us cv D W h6 _ R=>exact .p b off us cv (kW D I.size) (fun h=>W (I.less b D h)) (fun j hj=>(nv (I.block b D W)).trans (h6 j hj)) R
 |k g cs xs h _ R=>exact .k g cs xs h R
 |s b off c sz n xs cv h0 h1 J h3 D W h6 _ R=>exact .s b off c sz n xs cv h0 h1 J h3 (kW D I.size) (fun h=>W (I.less b D h)) (fun j hj=>(nv (I.block b D W)).trans (h6 j hj)) R
inductive D0 where
 |c (u:CellD)
 |a (us:List CellD)
def D0.cells:D0->List CellD
 | .c u=>[u]
 | .a us=>us
def RdCs (av:Nat->Prop) (w:World) (vs:List Value) (us:List CellD):Prop:=vs.length=us.length/\ ∀(j:Nat) (v:Value) (u:CellD),vs[j]? =some v->us[j]? =some u->RdC av w v u
def RdV (av:Nat->Prop) (w:World) (v:Value):D0->Prop
 | .c u=>RdC av w v u
 | .a us=> ∃cs:Array Value,v=.agg cs/\RdCs av w cs.toList us
def RdL (av:Nat->Prop) (w:World) (vs:List Value) (D:List D0):Prop:=vs.length=D.length/\ ∀(j:Nat) (v:Value) (d:D0),vs[j]? =some v->D[j]? =some d->RdV av w v d
def Wz (av:Nat->Prop) (w:World) (v:Value):List D0->Prop
 |[d]=>RdV av w v d
 |ds=> ∃vs:Array Value,v=.tuple vs/\RdL av w vs.toList ds
section
variable {av av':Nat->Prop}{w w':World}
theorem RdCs.keep (J:Keep av av' w w') {us:List CellD}(h:RdCs av w vs us):RdCs av' w' vs us:=⟨h.1,fun j v u D I=>(h.2 j v u D I).keep J⟩
theorem RdV.keep (j:Keep av av' w w') {d:D0}(h:RdV av w v d):RdV av' w' v d:=by
 cases d with
 |c u=>exact RdC.keep j h
 |a us=>obtain⟨cs,e,h⟩:=h;exact⟨cs,e,h.keep j⟩
theorem RdL.keep (R:Keep av av' w w') {D:List D0}(h:RdL av w vs D):RdL av' w' vs D:=⟨h.1,fun j v d I J=>(h.2 j v d I J).keep R⟩
theorem RdL.nil:RdL av w [] []:=⟨rfl,fun j v d D=>by simp at D⟩
theorem RdL.cons {d:D0}{J:List D0}(h:RdV av w v d) (hs:RdL av w vs J):RdL av w (v::vs) (d::J):=by
 refine⟨by simp[hs.1],fun j x e D I=>?_⟩;cases j with
 |zero=>simp at D I;subst D I;exact h
 |succ j=>simp at D I;exact hs.2 j x e D I
theorem RdCs.nil:RdCs av w [] []:=⟨rfl,fun j v d D=>by simp at D⟩
theorem RdCs.cons {d:CellD}{J:List CellD}(h:RdC av w v d) (hs:RdCs av w vs J):RdCs av w (v::vs) (d::J):=by
 refine⟨by simp[hs.1],fun j x e D I=>?_⟩;cases j with
 |zero=>simp at D I;subst D I;exact h
 |succ j=>simp at D I;exact hs.2 j x e D I
theorem RdCs.uncons {d:CellD}{D:List CellD}(h:RdCs av w (v::vs) (d::D)):RdC av w v d/\RdCs av w vs D:=
 ⟨h.2 0 v d rfl rfl,by have:=h.1;simpa using this,fun j x e I J=>h.2 (j+1) x e (by simpa using I) (by simpa using J)⟩
theorem RdL.uncons {d:D0}{D:List D0}(h:RdL av w (v::vs) (d::D)):RdV av w v d/\RdL av w vs D:=
 ⟨h.2 0 v d rfl rfl,by have:=h.1;simpa using this,fun j x e I J=>h.2 (j+1) x e (by simpa using I) (by simpa using J)⟩
theorem RdCs.append {us us':List CellD}(h:RdCs av w vs us) (R:RdCs av w vs' us'):RdCs av w (vs++vs') (us++us'):=by
 refine⟨by simp[h.1,R.1],fun j v u I D=>?_⟩;by_cases J:j<vs.length
 .rw[ui J] at I;rw[ui (by rw[<-h.1];exact J)] at D;exact h.2 j v u I D
 .rw[xq (by omega)] at I;rw[xq (by rw[<-h.1];omega)] at D;rw[<-h.1] at D;exact R.2 _ v u I D
theorem RdCs.drop {us:List CellD}(h:RdCs av w vs us) (k:Nat):RdCs av w (vs.drop k) (us.drop k):=
 ⟨by simp[h.1],fun j v u D I=>h.2 (k+j) v u (by simpa using D) (by simpa using I)⟩
theorem RdCs.take {us:List CellD}(h:RdCs av w vs us) (k:Nat):RdCs av w (vs.take k) (us.take k):=by
 refine⟨by simp[h.1],fun j v u I D=>?_⟩;rw[kS] at I D;split at I;·rename_i J;rw[if_pos J] at D;exact h.2 j v u I D
 grind
theorem RdV.cells {d:D0}(h:RdV av w v d):RdCs av w v.cells.toList d.cells:=by
 cases d with
 |c u=>
  have e:v.cells= #[v]:=by
   cases h with
   |x v h1 j=>cases v<;>first|rfl|exact absurd rfl (h1 _)
   |e v h1 j=>cases v<;>first|rfl|exact absurd rfl (h1 _)
   |_=>rfl
  rw[e];exact RdCs.cons h RdCs.nil
 |a us=>obtain⟨cs,rfl,h⟩:=h;exact h
theorem RdC.one {u:CellD}(h:RdC av w v u):(∀cs,v≠ .agg cs)/\(∀cs,v≠ .tuple cs):=by
 cases h with
 |x v h1 j=>exact⟨h1,j⟩
 |e v h1 j=>exact⟨h1,j⟩
 |_=>simp
end
def dk (P:Program) (g:FuncId):Bool:=
 match P.funcs[g]? with
 |some fn=>fn.name != "runtime.NumGoroutine" && !fn.body.isNone
 |none=>false
structure Ok (P:Program) (f:FuncId) (ds rs:List D0):Prop where
 cal:dk P f=true
 run: ∀(av:Nat->Prop) (vs:Array Value) (w:World),(∀b,av b->b<w.heap.size)->RdL av w vs.toList ds->Calls P f vs w fun e w'=> ∃v,e=.returned v/\Wz av w' v rs/\Below w.heap.size w w'
def Fc (P:Program) (K:Value->World->Prop):Result Next->Prop
 | .ok (.value v) w'=>K v w'
 | .ok .skip w'=>K undef w'
 | .ok (.enter f args) w'=>Calls P f args w' fun e j=> ∃v,e=.returned v/\K v j
 | .ok (.row row args) w'=>Rows P row args w' fun v j=>K v j
 |_=>False
def Gives (P:Program) (o:Oper) (a:Act) (w:World) (K:Value->World->Prop):Prop:=Fc P K ((execOp a.eval o).run P w)
theorem Gives.wp {J:Act->World->Prop}{Q:Exit->Act->World->Prop}(h:Gives P o a w K) (j: ∀v w',K v w'->J (a.put o.dst v) w'):o.wp P a w J Q:=by
 unfold Gives at h;unfold Oper.wp;generalize (execOp a.eval o).run P w=r at*;cases r with
 |ok n w'=>
  cases n<;>simp only[Fc] at h<;>simp only[Oper.upon];case value v=>exact j _ _ h
  case skip=>exact j _ _ h
  case enter f args=>exact h.mono fun e D ⟨v,R,I⟩=>by subst R;exact j _ _ I
  case row row args=>exact h.mono fun v D I=>j _ _ I
 |halt x w'=>simp only[Fc] at h
theorem Gives.mono {J:Value->World->Prop}(h:Gives P o a w K) (j: ∀v w',K v w'->J v w'):Gives P o a w J:=by
 unfold Gives at*;generalize (execOp a.eval o).run P w=r at*;cases r with
 |ok n w'=>
  cases n<;>simp only[Fc] at h⊢;case value v=>exact j _ _ h
  case skip=>exact j _ _ h
  case enter f args=>exact h.mono fun e D ⟨v,R,I⟩=>⟨v,R,j _ _ I⟩
  case row row args=>exact h.mono fun v D I=>j _ _ I
 |halt x w'=>simp only[Fc] at h
inductive DV where
 |v (d:D0)
 |t (ds:List D0)
 |p (k off:Nat)
 |o (k n c:Nat)
 |w (k off n c:Nat)
 |q (us:List CellD)
 |u
 |n
 |z
 |f (n:Nat) (us:List CellD)
 |tn (k n c:Nat) (ds:List D0)
 |oe (k n c:Nat) (v:Value)
def jR:DV->Option Nat
 | .p k _=>some k
 | .o k _ _=>some k
 | .w k _ _ _=>some k
 | .tn k _ _ _=>some k
 | .oe k _ _ _=>some k
 |_=>none
def look {j:Type}(t:Nat):List (Nat×j)->Option j
 |[]=>none
 |(k,x)::r=>bif Nat.beq k t then some x else look t r
structure St where
 n:Nat
 tm:List (Nat×DV)
 bx:List (Nat×TypeId×List CellD)
abbrev TF:=Nat->Option DV
abbrev BF:=Nat->Option (TypeId×List CellD)
def St.T (j:St):TF:=fun t=>look t j.tm
def St.B (j:St):BF:=fun k=>look k j.bx
def RdX (V:Nat->Prop) (w:World) (β:Nat->Nat) (v:Value):DV->Prop
 | .v d=>RdV V w v d
 | .t ds=> ∃vs:Array Value,v=.tuple vs/\RdL V w vs.toList ds
 | .p k off=>v=.pointer (some ⟨β k,off,none⟩)
 | .o k n c=>v=.slice (some ⟨β k,0,none⟩) n c
 | .w k off n c=>v=.slice (some ⟨β k,off,none⟩) n c
 | .q us=> ∃b off,∃vs:List Value,v=.pointer (some ⟨b,off,none⟩)/\b<w.heap.size/\ ¬V b/\RdCs V w vs us/\ ∀(j:Nat) (u:Value),vs[j]? =some u->w.cell? ⟨b,off+j,none⟩=some u
 | .u=>v=undef
 | .n=>True
 | .z=>v=.slice none 0 0
 | .f n us=>(∃A,v=.slice A n n)/\RdV V w v (.c (.s n us))
 | .tn k n c ds=> ∃xs:List Value,v=.tuple (.slice (some ⟨β k,0,none⟩) n c::xs).toArray/\RdL V w xs ds
 | .oe k n c u=>v=.slice (some ⟨β k,0,none⟩) n c/\v=u
theorem RdX.keep (D:Keep V V' w w') {β:Nat->Nat}{x:DV}(h:RdX V w β v x):RdX V' w' β v x:=by
 cases x with
 |v d=>exact RdV.keep D h
 |t R=>obtain⟨vs,e,h⟩:=h;exact⟨vs,e,RdL.keep D h⟩
 |p k off=>exact h
 |o k n c=>exact h
 |w k off n c=>exact h
 |q us=>obtain⟨b,off,vs,e,I,J,h,hc⟩:=h;exact⟨b,off,vs,e,kW I D.size,fun h=>J (D.less b I h),RdCs.keep D h,fun j u W=>(nv (D.block b I J)).trans (hc j u W)⟩
 |u=>exact h
 |n=>trivial
 |z=>exact h
 |f n us=>exact⟨h.1,RdV.keep D h.2⟩
 |tn k n c R=>obtain⟨xs,e,h⟩:=h;exact⟨xs,e,RdL.keep D h⟩
 |oe k n c u=>exact h
def Box (V:Nat->Prop) (w:World) (b:Nat) (T:TypeId) (cs:List CellD):Prop:=V b/\ ∃vs:Array Value,w.heap[b]? =some (.cells vs T (0,0))/\RdCs V w vs.toList cs
structure Sees (V:Nat->Prop) (L:Nat->Prop) (T:TF) (B:BF) (β:Nat->Nat) (a:Act) (w:World):Prop where
 av: ∀b,V b->b<w.heap.size
 box: ∀k U cs,B k=some (U,cs)->Box V w (β k) U cs
 tmp: ∀t x,L t->T t=some x-> ∃v,a.tmps[t]? =some v/\RdX V w β v x
inductive Eff where
 |r (x:DV)
 |a (U:TypeId) (cs:List CellD) (sl:Option Nat)
 |s (k:Nat) (U:TypeId) (cs:List CellD)
 |c (k:Nat) (x:DV)
 |rs (k:Nat) (U:TypeId) (cs:List CellD) (x:DV)
 |skip
def acD:Option Nat->Nat->Value
 |none,b=>.pointer (some ⟨b,0,none⟩)
 |some n,b=>.slice (some ⟨b,0,none⟩) n n
def Rt:Option Nat->Nat->DV
 |none,d=>.p d 0
 |some n,d=>.o d n n
def ek (eO:Array Oper) (o:Oper):Nat->Prop:=fun t=>t∈o.looksAt eO
abbrev xc (o:Oper) (eO:Array Oper) (a:Act):Bool:=Region.wanted o (yielded eO a.tmps)
structure Mid (b:Nat) (w w':World):Prop where
 os:w'.os=w.os
 tape:w'.tape=w.tape
 output:w'.output=w.output
 size:w.heap.size<=w'.heap.size
 block: ∀c,c<w.heap.size->c≠b->w'.heap[c]? =w.heap[c]?
def Sem (P:Program) (eO:Array Oper) (o:Oper) (T:TF) (B:BF):Eff->Prop
 | .r x=>(∀k,jR x=some k-> ∃t y,ek eO o t/\T t=some y/\jR y=some k)/\ ∀V β a w,Sees V (ek eO o) T B β a w->xc o eO a=true/\Gives P o a w fun v w'=>RdX V w' β v x/\Below w.heap.size w w'
 | .a U cs sl=> ∀V β a w,Sees V (ek eO o) T B β a w->xc o eO a=true/\Gives P o a w fun v w'=> ∃vs:Array Value,v=acD sl w.heap.size/\w'=w.alloc (.cells vs U)/\RdCs V w vs.toList cs
 | .s k U cs=>o.dst=none/\(∃cs0,B k=some (U,cs0))/\ ∀V β a w,Sees V (ek eO o) T B β a w->xc o eO a=true/\Gives P o a w fun _ w'=>∃vs:Array Value,w'.heap=w.heap.setIfInBounds (β k) (.cells vs U (0,0))/\w'.os=w.os/\w'.tape=w.tape/\w'.output=w.output/\RdCs V w vs.toList cs
 | .rs k U cs x=>jR x=none/\(∃cs0,B k=some (U,cs0))/\ ∀V β a w,Sees V (ek eO o) T B β a w->xc o eO a=true/\Gives P o a w fun v w'=>∃vs:Array Value,w'.heap[β k]? =some (.cells vs U (0,0))/\Mid (β k) w w'/\RdCs V w' vs.toList cs/\RdX V w' β v x
 | .c k x=>jR x=none/\B k≠none/\ ∀V β a w,Sees V (ek eO o) T B β a w->xc o eO a=true/\Gives P o a w fun v w'=>RdX (fun b=>V b/\b≠β k) w' β v x/\Below w.heap.size w w'
 | .skip=> ∀V β a w,Sees V (ek eO o) T B β a w->xc o eO a=false
def ent (d:Nat):Eff->DV
 | .r x=>x
 | .a _ _ sl=>Rt sl d
 | .s _ _ _=>.u
 | .c _ x=>x
 | .rs _ _ _ x=>x
 | .skip=>.u
def nN (k:Nat) (T:TF):TF:=fun t=>match T t with
 |some y=>if jR y=some k then some .n else some y
 |none=>none
def Eff.tf (e:Eff) (dst:Option Nat) (T:TF):TF:=
 match e with
 | .c k x=>fun t=>if dst=some t then some x else nN k T t
 |e=>fun t=>if dst=some t then some (ent t e) else T t
def Eff.bf (e:Eff) (dst:Option Nat) (B:BF):BF:=
 match e with
 | .a U cs _=>fun k=>if dst=some k then some (U,cs) else B k
 | .s k' U cs=>fun k=>if k'=k then some (U,cs) else B k
 | .rs k' U cs _=>fun k=>if k'=k then some (U,cs) else B k
 | .c k' _=>fun k=>if k=k' then none else B k
 |_=>B
structure Ent where
 w:World
 E:Nat->Prop
 K:Nat
structure BelE (e:Ent) (w:World):Prop where
 os:w.os=e.w.os
 tape:w.tape=e.w.tape
 output:w.output=e.w.output
 size:e.w.heap.size<=w.heap.size
 block: ∀c,c<e.w.heap.size-> ¬e.E c->w.heap[c]? =e.w.heap[c]?
theorem BelE.refl (e:Ent):BelE e e.w:=⟨rfl,rfl,rfl,bk _,fun _ _ _=>rfl⟩
theorem BelE.next {e:Ent}(h:BelE e w) (h1:w'.os=w.os) (I:w'.tape=w.tape) (W:w'.output=w.output) (R:w.heap.size<=w'.heap.size) (J: ∀c,c<e.w.heap.size-> ¬e.E c->w'.heap[c]? =w.heap[c]?):BelE e w':=
 ⟨h1.trans h.os,I.trans h.tape,W.trans h.output,gG h.size R,fun c j D=>(J c j D).trans (h.block c j D)⟩
theorem BelE.below {e:Ent}(h:BelE e w) (k:Below w.heap.size w w'):BelE e w':=
 h.next k.os k.tape k.output k.size (fun c j _=>k.block c (kW j h.size))
theorem BelE.to {K:Nat}(h:BelE ⟨w,E,K⟩ w') (D: ∀c,¬E c):Below w.heap.size w w':=⟨h.os,h.tape,h.output,h.size,fun c j=>h.block c j (D c)⟩
structure Rel (av:Nat->Prop) (w0:Ent) (n:Nat) (T:TF) (B:BF) (β:Nat->Nat) (a:Act) (w:World):Prop where
 dfr:a.defers=[]
 siz:a.tmps.size=n
 bel:BelE w0 w
 avl: ∀b,av b->b<w0.w.heap.size
 avE: ∀b,av b-> ¬w0.E b
 big:n<=w0.K
 fix: ∀b,w0.E b->B w0.K≠none->β w0.K=b
 inj: ∀k l,B k≠none->B l≠none->β k=β l->k=l
 own: ∀k,B k≠none->w0.w.heap.size<=β k\/w0.E (β k)
 wf: ∀t x k,T t=some x->jR x=some k->B k≠none
 sees:Sees (fun b=>av b\/ ∃k,B k≠none/\β k=b) (fun _=>True) T B β a w
section
variable {P:Program}{eO:Array Oper}{o:Oper}{T T':TF}{B B':BF}{av:Nat->Prop}{w0:Ent}{w:World}{n:Nat}{β:Nat->Nat}{a:Act}
theorem Rel.congr (h:Rel av w0 n T B β a w) (D: ∀t,T' t=T t) (j: ∀k,B' k=B k):Rel av w0 n T' B' β a w:=by have e1:T'=T:=funext D;have I:B'=B:=funext j;grind
theorem ss {a:Act}(h:d≠some t):(a.put d v).tmps[t]? =a.tmps[t]? :=by
 cases d with
 |none=>rfl
 |some d=>
  have j:d≠t:=by grind
  simp[Act.put,Array.getElem?_setIfInBounds_ne j]
theorem vj {a:Act}{d:Nat}(h:d<a.tmps.size):(a.put (some d) v).tmps[d]? =some v:=by simp[Act.put,h]
theorem va (a:Act) (d:Option Nat) (v:Value):(a.put d v).tmps.size=a.tmps.size:=by cases d<;>simp[Act.put]
theorem pa (a:Act) (d:Option Nat) (v:Value):(a.put d v).defers=a.defers:=by cases d<;>rfl
theorem Sees.of (h:Sees V L' T B β a w) (I: ∀t,L t->L' t) (J: ∀t x,L t->T' t=some x->T t=some x) (j: ∀k c,B' k=some c->B k=some c):Sees V L T' B' β a w:=
 ⟨h.av,fun k U cs D=>h.box k U cs (j k _ D),fun t x hl R=>h.tmp t x (I t hl) (J t x hl R)⟩
theorem Rel.value (h:Rel av w0 n T B β a w) (hd: ∀t,d=some t->t<n) {x:DV}(I:Below w.heap.size w w') (hx:RdX (fun b=>av b\/ ∃k,B k≠none/\β k=b) w' β v x) (hp: ∀k,jR x=some k->B k≠none):Rel av w0 n (fun t=>if d=some t then some x else T t) B β (a.put d v) w':=by
 have W:=Keep.below (av:=fun b=>av b\/ ∃k,B k≠none/\β k=b) I
 refine⟨by rw[pa];exact h.dfr,by rw[va];exact h.siz,h.bel.below I,h.avl,h.avE,h.big,h.fix,h.inj,h.own,?_,?_,?_,?_⟩
 .intro t y k D hy
  split at D
  .grind
  .exact h.wf t y k D hy
 .exact fun b J=>kW (h.sees.av b J) I.size
 .intro k U cs hc
  obtain⟨J,vs,e,R⟩:=h.sees.box k U cs hc
  exact⟨J,vs,(I.block _ (h.sees.av _ J)).trans e,R.keep W⟩
 .intro t y hl D
  split at D
  .rename_i j
   injection D with D
   subst D
   rw[j]
   exact⟨v,vj (by rw[h.siz];exact hd t j),hx⟩
  .rename_i j
   obtain⟨u,e,R⟩:=h.sees.tmp t y trivial D
   exact⟨u,(ss j).trans e,R.keep W⟩
theorem d8 (w:World) (o:Obj):(w.alloc o).heap.size=w.heap.size+1:=by simp
theorem Rel.fresh (h:Rel av w0 n T B β a w) {d:Nat}(hd:d<n) (hf:B d=none) {cs:List CellD}{vs:Array Value}{x:DV}(hw:Below w.heap.size w w') (b3:w.heap.size<=b) (b5:b<w'.heap.size) (b6:w'.heap[b]? =some (.cells vs U (0,0))) (hr:RdCs (fun y=>(av y\/ ∃k,B k≠none/\β k=y)\/y=b) w' vs.toList cs) (hx:RdX (fun y=>(av y\/ ∃k,B k≠none/\β k=y)\/y=b) w' (fun k=>if k=d then b else β k) v x) (hp: ∀k,jR x=some k->k=d):Rel av w0 n (fun t=>if some d=some t then some x else T t) (fun k=>if some d=some k then some (U,cs) else B k) (fun k=>if k=d then b else β k) (a.put (some d) v) w':=by
 have hB: ∀k,(if some d=some k then some (U,cs) else B k)≠none->k≠d->B k≠none:=by intro k J D;rw[if_neg (by simpa using fun e=>D e.symm)] at J;exact J
 have hlt: ∀k,B k≠none->β k<w.heap.size:=fun k J=>h.sees.av _ (.inr ⟨k,J,rfl⟩)
 have hV: ∀y,(av y\/ ∃k,(if some d=some k then some (U,cs) else B k)≠none/\(if k=d then b else β k)=y)->(av y\/ ∃k,B k≠none/\β k=y)\/y=b:=by
  rintro y (W|⟨k,J,W⟩);·exact .inl (.inl W)
  .by_cases j:k=d;·rw[if_pos j] at W;exact .inr W.symm
   .rw[if_neg j] at W;exact .inl (.inr ⟨k,hB k J j,W⟩)
 have a6:Keep (fun y=>av y\/ ∃k,B k≠none/\β k=y) (fun y=>av y\/ ∃k,(if some d=some k then some (U,cs) else B k)≠none/\(if k=d then b else β k)=y) w w':=
  ⟨hw.size,fun y W _=>hw.block y W,fun y W hv=>(hV y hv).resolve_right (by omega)⟩
 have R:Keep (fun y=>(av y\/ ∃k,B k≠none/\β k=y)\/y=b) (fun y=>av y\/ ∃k,(if some d=some k then some (U,cs) else B k)≠none/\(if k=d then b else β k)=y) w' w':=⟨Nat.le_refl _,fun _ _ _=>rfl,fun y _ hv=>hV y hv⟩
 have b4: ∀v x,(∀k,jR x=some k->k≠d)->RdX (fun y=>av y\/ ∃k,B k≠none/\β k=y) w β v x->RdX (fun y=>av y\/ ∃k,(if some d=some k then some (U,cs) else B k)≠none/\(if k=d then b else β k)=y) w' (fun k=>if k=d then b else β k) v x:=by
  intro v x a5 hr;have I:=RdX.keep a6 hr;cases x with
  |p k off=>have D:k≠d:=a5 k rfl;show v=.pointer (some ⟨if k=d then b else β k,off,none⟩);rw[if_neg D];exact hr
  |o k n c=>have D:k≠d:=a5 k rfl;show v=.slice (some ⟨if k=d then b else β k,0,none⟩) n c;rw[if_neg D];exact hr
  |w k off n c=>have D:k≠d:=a5 k rfl;show v=.slice (some ⟨if k=d then b else β k,off,none⟩) n c;rw[if_neg D];exact hr
  |v d=>exact I
  |t ds=>exact I
  |q us=>exact I
  |u=>exact I
  |n=>trivial
  |z=>exact I
  |f n us=>exact I
  |tn k n c ds=>have D:k≠d:=a5 k rfl;obtain⟨xs,e,h⟩:=I;exact⟨xs,by show v=Value.tuple (Value.slice (some ⟨if k=d then b else β k,0,none⟩) n c::xs).toArray;rw[if_neg D];exact e,h⟩
  |oe k n c u=>have D:k≠d:=a5 k rfl;exact⟨by show v=.slice (some ⟨if k=d then b else β k,0,none⟩) n c;rw[if_neg D];exact I.1,I.2⟩
 refine⟨by rw[pa];exact h.dfr,by rw[va];exact h.siz,h.bel.below hw,h.avl,h.avE,h.big,fun b hb hK=>?_,?_,?_,?_,?_,?_,?_⟩
 .have a9:w0.K≠d:=by have:=h.big;omega
  rw[if_neg a9]
  exact h.fix b hb (hB _ hK a9)
 .intro k l J hl e
  by_cases j:k=d<;>by_cases a4:l=d
  .rw[j,a4]
  .rw[if_pos j,if_neg a4] at e
   have:=hlt l (hB l hl a4);omega
  .rw[if_neg j,if_pos a4] at e
   have:=hlt k (hB k J j);omega
  .rw[if_neg j,if_neg a4] at e
   exact h.inj k l (hB k J j) (hB l hl a4) e
 .intro k J
  by_cases j:k=d
  .rw[if_pos j];exact .inl (gG h.bel.size b3)
  .rw[if_neg j];exact h.own k (hB k J j)
 .intro t y k ht W
  by_cases a3:d=t
  .rw[if_pos (by rw[a3])] at ht
   injection ht with ht
   subst ht
   rw[hp k W,if_pos rfl];simp
  .rw[if_neg (by simpa using a3)] at ht
   have h1:=h.wf t y k ht W
   have D:d≠k:=fun e=>h1 (by rw[<-e];exact hf)
   rw[if_neg (by simpa using D)];exact h1
 .intro y W
  rcases hV y W with hv|hv
  .have:=h.sees.av y hv;omega
  grind
 .intro k U' cs' J
  by_cases j:k=d
  .subst j
   rw[if_pos rfl] at J
   injection J with J
   injection J with h1 h2
   subst h1 h2
   refine⟨.inr ⟨k,by rw[if_pos rfl];simp,rfl⟩,vs,?_,hr.keep R⟩
   grind
  .rw[if_neg (by simpa using fun e=>j e.symm)] at J
   obtain⟨hv,vs',e,hr⟩:=h.sees.box k U' cs' J
   refine⟨.inr ⟨k,by rw[if_neg (by simpa using fun e=>j e.symm),J];simp,rfl⟩,vs',?_,hr.keep a6⟩
   rw[if_neg j,hw.block _ (h.sees.av _ hv)];exact e
 .intro t y _ ht
  by_cases a3:d=t
  .subst a3
   rw[if_pos rfl] at ht
   injection ht with ht
   subst ht
   exact⟨v,vj (by rw[h.siz];exact hd),RdX.keep R hx⟩
  .rw[if_neg (by simpa using a3)] at ht
   obtain⟨v,e,hr⟩:=h.sees.tmp t y trivial ht
   refine⟨v,(ss (by simpa using a3)).trans e,b4 v y ?_ hr⟩
   intro k e2 e3
   subst e3
   exact h.wf t y _ ht e2 hf
theorem Rel.box (h:Rel av w0 n T B β a w) {d:Nat}(R:d<n) (W:B d=none) {cs:List CellD}{vs:Array Value} (J:RdCs (fun b=>av b\/ ∃k,B k≠none/\β k=b) w vs.toList cs):Rel av w0 n (fun t=>if some d=some t then some (Rt sl t) else T t) (fun k=>if some d=some k then some (U,cs) else B k) (fun k=>if k=d then w.heap.size else β k) (a.put (some d) (acD sl w.heap.size)) (w.alloc (.cells vs U)):=by
 have j:=(fe _ w).alloc (bk _) (.cells vs U)
 have:=h.fresh (x:=Rt sl d) (v:=acD sl w.heap.size) R W j (bk _) (by rw[d8];omega) (heap_alloc_new w _) (J.keep ⟨j.size,fun y I _=>j.block y I,fun y I hv=>hv.resolve_right (by omega)⟩)
  (by
   cases sl with
   |none=>show _=Value.pointer (some ⟨if d=d then w.heap.size else β d,0,none⟩);rw[if_pos rfl];rfl
   |some m=>show _=Value.slice (some ⟨if d=d then w.heap.size else β d,0,none⟩) m m;rw[if_pos rfl];rfl)
  (by cases sl<;>(intro k D;injection D with D;exact D.symm))
 grind
theorem Rel.store (h:Rel av w0 n T B β a w) {cs0 cs:List CellD}(I:B k=some (U,cs0)) {vs:Array Value} (hh:w'.heap=w.heap.setIfInBounds (β k) (.cells vs U (0,0))) (ho:w'.os=w.os) (ht:w'.tape=w.tape) (hu:w'.output=w.output) (hx:RdCs (fun b=>av b\/ ∃k,B k≠none/\β k=b) w vs.toList cs):Rel av w0 n T (fun l=>if k=l then some (U,cs) else B l) β a w':=by
 have J: ∀l,(if k=l then some (U,cs) else B l)≠none↔B l≠none:=by grind
 have a3:w'.heap.size=w.heap.size:=by grind
 have W:β k<w.heap.size:=h.sees.av _ (.inr ⟨k,by rw[I];simp,rfl⟩)
 have D: ∀b,b≠β k->w'.heap[b]? =w.heap[b]? :=by grind
 have hV:(fun b=>av b\/ ∃l,(if k=l then some (U,cs) else B l)≠none/\β l=b)=(fun b=>av b\/ ∃l,B l≠none/\β l=b):=by grind
 have j:Keep (fun b=>av b\/ ∃l,B l≠none/\β l=b) (fun b=>av b\/ ∃l,B l≠none/\β l=b) w w':=
  ⟨by omega,fun b _ hv=>D b (fun e=>hv (.inr ⟨k,by rw[I];simp,e.symm⟩)),fun _ _ h=>h⟩
 refine⟨h.dfr,h.siz,?_,h.avl,h.avE,h.big,fun b R hK=>h.fix b R ((J _).1 hK),?_,?_,?_,?_⟩
 .refine h.bel.next ho ht hu (by omega) fun b R hE=>D b (fun e=>?_)
  rcases h.own k (by rw[I];simp) with g|g
  .omega
  grind
 .exact fun l m hl hm=>h.inj l m ((J l).1 hl) ((J m).1 hm)
 .exact fun l hl=>h.own l ((J l).1 hl)
 .exact fun t x l hT hx=>(J l).2 (h.wf t x l hT hx)
 rw[hV]
 refine⟨?_,?_,?_⟩
 .exact fun b R=>by rw[a3];exact h.sees.av b R
 .intro l U' cs' hl
  by_cases e:k=l
  .subst e
   rw[if_pos rfl] at hl
   injection hl with hl
   injection hl with h1 h2
   subst h1 h2
   exact⟨.inr ⟨k,by rw[I];simp,rfl⟩,vs,by rw[hh];simp[W],hx.keep j⟩
  .rw[if_neg e] at hl
   obtain⟨hv,vs',e',hr⟩:=h.sees.box l U' cs' hl
   exact⟨hv,vs',(D _ (fun e2=>e (h.inj k l (by rw[I];simp) (by rw[hl];simp) e2.symm))).trans e',hr.keep j⟩
 .intro t x hL hT
  obtain⟨v,e,hr⟩:=h.sees.tmp t x hL hT
  exact⟨v,e,hr.keep j⟩
theorem Rel.sval (h:Rel av w0 n T B β a w) {cs0 cs:List CellD}(W:B k=some (U,cs0)) {vs:Array Value} (hh:w'.heap[β k]? =some (.cells vs U (0,0))) (hm:Mid (β k) w w') {d:Option Nat}(hd: ∀t,d=some t->t<n) {x:DV}{v:Value}(hp:jR x=none) (hc:RdCs (fun b=>av b\/ ∃k,B k≠none/\β k=b) w' vs.toList cs) (hx:RdX (fun b=>av b\/ ∃k,B k≠none/\β k=b) w' β v x):Rel av w0 n (fun t=>if d=some t then some x else T t) (fun l=>if k=l then some (U,cs) else B l) β (a.put d v) w':=by
 have R: ∀l,(if k=l then some (U,cs) else B l)≠none↔B l≠none:=by grind
 have hV:(fun b=>av b\/ ∃l,(if k=l then some (U,cs) else B l)≠none/\β l=b)=(fun b=>av b\/ ∃l,B l≠none/\β l=b):=by grind
 have j:Keep (fun b=>av b\/ ∃l,B l≠none/\β l=b) (fun b=>av b\/ ∃l,B l≠none/\β l=b) w w':=
  ⟨hm.size,fun b J hv=>hm.block b J (fun e=>hv (.inr ⟨k,by rw[W];simp,e.symm⟩)),fun _ _ h=>h⟩
 refine⟨by rw[pa];exact h.dfr,by rw[va];exact h.siz,?_,h.avl,h.avE,h.big,fun b J hK=>h.fix b J ((R _).1 hK),?_,?_,?_,?_⟩
 .refine h.bel.next hm.os hm.tape hm.output hm.size fun b J hE=>hm.block b (kW J h.bel.size) (fun e=>?_)
  rcases h.own k (by rw[W];simp) with g|g
  .omega
  grind
 .exact fun l m hl hm=>h.inj l m ((R l).1 hl) ((R m).1 hm)
 .exact fun l hl=>h.own l ((R l).1 hl)
 .intro t y l I hy
  refine(R l).2 ?_
  split at I
  .grind
  .exact h.wf t y l I hy
 rw[hV]
 refine⟨?_,?_,?_⟩
 .exact fun b J=>kW (h.sees.av b J) hm.size
 .intro l U' cs' hl
  by_cases e:k=l
  .subst e
   rw[if_pos rfl] at hl
   injection hl with hl
   injection hl with h1 h2
   subst h1 h2
   exact⟨.inr ⟨k,by rw[W];simp,rfl⟩,vs,hh,hc⟩
  .rw[if_neg e] at hl
   obtain⟨hv,vs',e',hr⟩:=h.sees.box l U' cs' hl
   exact⟨hv,vs',(hm.block _ (h.sees.av _ hv) (fun e2=>e (h.inj k l (by rw[W];simp) (by rw[hl];simp) e2.symm))).trans e',hr.keep j⟩
 .intro t y hl I
  split at I
  .rename_i D
   injection I with I
   subst I
   rw[D]
   exact⟨v,vj (by rw[h.siz];exact hd t D),hx⟩
  .rename_i D
   obtain⟨u,e,hr⟩:=h.sees.tmp t y trivial I
   exact⟨u,(ss D).trans e,hr.keep j⟩
theorem Rel.drop (h:Rel av w0 n T B β a w) (k:Nat):Rel av w0 n (nN k T) (fun l=>if l=k then none else B l) β a w:=by
 have R: ∀l,(if l=k then none else B l)≠none->B l≠none/\l≠k:=by grind
 have j:Keep (fun b=>av b\/ ∃l,B l≠none/\β l=b) (fun b=>av b\/ ∃l,(if l=k then none else B l)≠none/\β l=b) w w:=
  ⟨Nat.le_refl _,fun _ _ _=>rfl,fun b _ I=>I.imp id fun⟨l,h1,h2⟩=>⟨l,(R l h1).1,h2⟩⟩
 have hT: ∀t x,nN k T t=some x->x=.n\/(T t=some x/\jR x≠some k):=by intro t x J;unfold nN at J;grind
 refine⟨h.dfr,h.siz,h.bel,h.avl,h.avE,h.big,fun b I hK=>h.fix b I (R _ hK).1,fun l m hl hm=>h.inj l m (R l hl).1 (R m hm).1,fun l hl=>h.own l (R l hl).1,?_,?_,?_,?_⟩
 .intro t x l J hx;rcases hT t x J with rfl|⟨h1,h2⟩;·cases hx
  .have:=h.wf t x l h1 hx;rw[if_neg (fun e=>h2 (by rw[hx,e]))];exact this
 .rintro b (I|⟨l,hl,I⟩);·exact h.sees.av b (.inl I)
  .exact h.sees.av b (.inr ⟨l,(R l hl).1,I⟩)
 .intro l U cs hl;have D:(if l=k then none else B l)=some (U,cs):=hl;have W:l≠k:=by grind
  rw[if_neg W] at D;obtain⟨_,vs,e,hr⟩:=h.sees.box l U cs D;exact⟨.inr ⟨l,by rw[if_neg W,D];simp,rfl⟩,vs,e,hr.keep j⟩
 .intro t x hL J;rcases hT t x J with rfl|⟨h1,_⟩
  .unfold nN at J;split at J
   .rename_i y hy;obtain⟨v,e,_⟩:=h.sees.tmp t y hL hy;exact⟨v,e,trivial⟩
   grind
  .obtain⟨v,e,hr⟩:=h.sees.tmp t x hL h1;exact⟨v,e,hr.keep j⟩
theorem Gx (h:Rel av w0 n T B β a w) (D:B k≠none):(fun b=>av b\/ ∃l,(if l=k then none else B l)≠none/\β l=b)=(fun b=>(av b\/ ∃l,B l≠none/\β l=b)/\b≠β k):=by
 funext b;refine propext ⟨?_,?_⟩
 .rintro(j|⟨l,hl,j⟩)
  .refine⟨.inl j,fun e=>?_⟩;have:=h.avl b j;rcases h.own k D with g|g;·omega
   .exact h.avE b j (e▸g)
  .by_cases e:l=k;·grind
   .rw[if_neg e] at hl;exact⟨.inr ⟨l,hl,j⟩,fun I=>e (h.inj l k hl D (j.trans I))⟩
 grind
theorem Rel.drew (h:Rel av w0 n T B β a w):Rel av w0 n T B β a w.drew:=
 ⟨h.dfr,h.siz,h.bel.below (fe _ w).drew,h.avl,h.avE,h.big,h.fix,h.inj,h.own,h.wf,⟨h.sees.av,fun k U cs D=>by
  obtain⟨R,vs,e,j⟩:=h.sees.box k U cs D;exact⟨R,vs,e,j.keep (Keep.below (fe _ w).drew)⟩,fun t x I J=>by
  obtain⟨v,e,j⟩:=h.sees.tmp t x I J;exact⟨v,e,j.keep (Keep.below (fe _ w).drew)⟩⟩⟩
theorem Rel.step {Ts:TF}{Bs:BF}{e:Eff}(h:Rel av w0 n T B β a w) (hs:Sem P eO o Ts Bs e) (hd: ∀t,o.dst=some t->t<n) (hT: ∀t x,ek eO o t->Ts t=some x->T t=some x) (hB: ∀k c,Bs k=some c->B k=some c) (hf: ∀U cs sl,e=.a U cs sl-> ∃d,o.dst=some d/\B d=none) {Q:Exit->Act->World->Prop}{K:Act->World->Prop}(R: ∀a6 a' w',Rel av w0 n (e.tf o.dst T) (e.bf o.dst B) a6 a' w'->K a' w'):if Region.wanted o (yielded eO a.tmps) then o.wp P a w K Q\/(o.asks P a w/\LetsOut Q) else K (a.put o.dst undef) w:=by
 have j:=Sees.of h.sees (fun _ _=>trivial) hT hB
 cases e with
 |r x=>
  obtain⟨hp,hs⟩:=hs
  obtain⟨D,J⟩:=hs _ β a w j
  rw[if_pos D]
  refine .inl (J.wp fun v w' ⟨I,hb⟩=>R β _ _ ?_)
  refine(h.value hd hb I ?_).congr (fun t=>?_) (fun _=>rfl)
  .intro k e
   obtain⟨t,y,hl,ht,hy⟩:=hp k e
   exact h.wf t y k (hT t _ hl ht) hy
  .rfl
 |a U cs sl=>
  obtain⟨D,J⟩:=hs _ β a w j
  obtain⟨d,W,a5⟩:=hf U cs sl rfl
  rw[if_pos D]
  refine .inl (J.wp fun v w' ⟨vs,hv,a3,I⟩=>R (fun k=>if k=d then w.heap.size else β k) _ _ ?_)
  subst hv a3
  have:=h.box (U:=U) (sl:=sl) (hd d W) a5 I
  rw[W]
  refine this.congr (fun t=>?_) (fun k=>?_)
  .unfold Eff.tf ent;rfl
  .unfold Eff.bf;rfl
 |s k U cs=>
  obtain⟨hn,⟨cs0,hk⟩,hs⟩:=hs
  obtain⟨D,J⟩:=hs _ β a w j
  rw[if_pos D]
  refine .inl (J.wp fun v w' ⟨vs,hh,ho,ht,hu,I⟩=>R β _ _ ?_)
  rw[hn]
  refine(h.store (hB k _ hk) hh ho ht hu I).congr (fun t=>?_) (fun l=>?_)
  .unfold Eff.tf;simp
  .unfold Eff.bf;rfl
 |rs k U cs x=>
  obtain⟨hp,⟨cs0,hk⟩,hs⟩:=hs
  obtain⟨D,J⟩:=hs _ β a w j
  rw[if_pos D]
  refine .inl (J.wp fun v w' ⟨vs,hh,hm,hc,I⟩=>R β _ _ ?_)
  exact(h.sval (hB k _ hk) hh hm hd hp hc I).congr (fun t=>rfl) (fun l=>rfl)
 |c k x=>
  obtain⟨a9,b3,hs⟩:=hs
  obtain⟨D,J⟩:=hs _ β a w j
  rw[if_pos D]
  refine .inl (J.wp fun v w' ⟨I,hb⟩=>R β _ _ ?_)
  have hk:B k≠none:=by
   cases hc:Bs k with
   |none=>exact absurd hc b3
   |some c=>rw[hB k c hc];simp
  refine((h.drop k).value hd hb (by rw[Gx h hk];exact I) (fun l hl=>by rw[a9] at hl;cases hl)).congr (fun t=>?_) (fun l=>rfl)
  rfl
 |skip=>
  have D:=hs _ β a w j
  unfold xc at D
  rw[if_neg (by rw[D];simp)]
  refine R β _ _ ?_
  refine(h.value (x:=.u) hd (fe _ _) rfl (by intro k e;cases e)).congr (fun t=>?_) (fun _=>rfl)
  rfl
end
end
end Go.Proofs.YtegeknjkgadehaaGreat
