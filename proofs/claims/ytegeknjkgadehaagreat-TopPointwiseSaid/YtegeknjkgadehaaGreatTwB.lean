/-Layer 1:divide,the long division. -/
import Derived.Test.YtegeknjkgadehaaGreatTwA
import Derived.Test.YtegeknjkgadehaaGreatProg
namespace Go.Proofs.YtegeknjkgadehaaGreat
open Go.RowKit
variable {S T y:Int}{V Y zs:List Int}{p:Nat}
theorem Iw {w:World}{j n:Nat}{e:TypeId}{v:Value}{xs:List Value}(h:w.ownsRow j e 1 v n xs) (x:0<n): ∃g c,v=.slice (some ⟨g,0,none⟩) n c/\j<=g/\g<w.heap.size:=by
 rcases h.2 with⟨rfl,rfl⟩|⟨g,cap,k,rfl,u,D,_⟩;·grind
 grind
theorem JN (j g N E k cs m d L:Nat) (B:Option Addr) (us ys:List Int) (h:Int) (w:World) (J:w.ownsRow j 255 1 (.slice (some ⟨g,0,none⟩) N E) N (us.map (Value.int .u32))) (D:Lim us)
 (I:k+m+1<=N) (H:N<=10000000000) (K:Sl w B m d ys) (x: ∀b off,B=some ⟨b,off,none⟩->some b≠some g) (U:0<=h) (W:h<1000000000) (u:m+1<=cs) (R:L=m+1):
 Calls Tryz.prog 320 #[.slice (some ⟨g,k,none⟩) L cs,.slice B m d,.int .u64 h] w fun e w'=> ∃zs C,e=.returned (.bool (decide (0<C)))/\Kn w w' j g N E k m us (val ((us.drop k).take (m+1))-h*val ys) zs C:=by
 subst R;exact E3 j g N E k cs m d B us ys h w J D I H K x U W u
theorem NL (h g N D k cs m d L:Nat) (B:Option Addr) (us ys:List Int) (w:World) (I:w.ownsRow h 255 1 (.slice (some ⟨g,0,none⟩) N D) N (us.map (Value.int .u32))) (x:Lim us)
 (H:k+m+1<=N) (E:N<=10000000000) (J:Sl w B m d ys) (u: ∀b off,B=some ⟨b,off,none⟩->some b≠some g) (j:m+1<=cs) (K:L=m+1):
 Calls Tryz.prog 321 #[.slice (some ⟨g,k,none⟩) L cs,.slice B m d] w fun e w'=> ∃zs C,e=.returned (.tuple #[])/\0<=C/\zs.length=m+1/\Lim zs/\val zs+pw (m+1)*C=val ((us.drop k).take (m+1))+val ys/\w'.ownsRow h 255 1 (.slice (some ⟨g,0,none⟩) N D) N ((us.take k++zs++us.drop (k+(m+1))).map (Value.int .u32))/\w.grownBy w' (some g):=by
 subst K;exact Ii h g N D k cs m d B us ys w I x H E J u j
theorem NM (h:Lim Y) (E:Nrm Y) (hl:Y.length=p+2) (u:Y[p+1]? =some y) (hS:1000000000/(y+1)=S) (k:Lim V) (D:Nrm V) (I:val V=val Y*S):
 V.length=p+2/\1<=S/\S<1000000000/\1<=y/\pw (p+1)<=val V/\val V<pw (p+2):=by
 have H:=h.at_ u
 have R:=E.ge h (by intro e;subst e;simp at hl)
 rw[hl,show p+2-1=p+1 from rfl] at R
 have e1:val Y=val (Y.take (p+1))+pw (p+1)*y:=by
  have W:val Y=val (Y.take (p+2)):=by rw[cz (by omega)]
  rw[W,aN u]
 have h2:=eK (h.take (p+1))
 have h3:=cm (h.take (p+1))
 rw[eu,dK (by omega)] at h2
 have hp:=dP (p+1)
 have N:1<=y:=by
  rcases kr 0 y with g|g;·exact g
  ·have:y=0:=by omega
   subst this;simp at e1;omega
 have x:=wg 1000000000 (y+1)
 have e4:=pg 1000000000 (show 0<y+1 by omega)
 have e5:=p5 1000000000 (show y+1≠0 by omega)
 rw[hS] at x
 have j:1<=S:=by
  rcases kr 0 S with g|g;·exact g
  ·have:=dS (a:=y+1) (b:=S) (c:=0) (by omega) (by omega);omega
 have w:S<1000000000:=by have:=xu (c:=S) (show 2<=y+1 by omega) (by omega);omega
 have J:val V<pw (p+2):=by
  have U:val Y*S<pw (p+1)*(y+1)*S:=by refine Int.mul_lt_mul_of_pos_right ?_ (by omega);rw[Int.mul_add];omega
  have a2:pw (p+1)*((y+1)*S)<=pw (p+1)*1000000000:=dS (by omega) (by omega);have K:pw (p+2)=1000000000*pw (p+1):=d5 (p+1);rw[Int.mul_assoc] at U;rw[I,K];omega
 have h6:pw (p+1)<=val V:=by have:=dS (a:=val Y) j (by omega);grind
 have h7:=D.len k J
 have h8:p+1<V.length:=by have:=eK k;exact Tz (by omega)
 grind
theorem OL (g:Lim Y) (E:Nrm Y) (hl:Y.length=p+2) (h:Y[p+1]? =some y) (H:1000000000/(y+1)=S):1<=S/\S<1000000000/\1<=y:=by
 have x:=g.at_ h;have K:=E.ge g (by intro e;subst e;simp at hl);have U:val Y=val (Y.take (p+1))+pw (p+1)*y:=by
  have D:val Y=val (Y.take (p+2)):=by grind
  rw[D,aN h]
 have R:=eK (g.take (p+1));have w:1<=y:=by grind
 have u:=wg 1000000000 (y+1);have J:=pg 1000000000 (show 0<y+1 by omega);have N:=p5 1000000000 (show y+1≠0 by omega);rw[H] at u;have j:1<=S:=by
  rcases kr 0 S with I|I;·grind
  ·have:=dS (a:=y+1) (b:=S) (c:=0) (by omega) (by omega);omega
 have k:S<1000000000:=by have:=xu (c:=S) (show 2<=y+1 by omega) (by omega);omega
 grind
theorem Kd.start {k:Nat}(g:Lim zs) (h:zs.length=k+1) (u:val zs=T) (w:pw (p+1)<=val V) (j:p+2<=k):Kd (zs++[0]) (List.replicate (k+2-(p+2)) 0) V T (k+2) (p+2) (k+2-(p+2)):=by
 refine⟨g.snoc (by omega) (by omega),by simp[h],Lim.zeros _,by simp,?_,?_⟩
 ·rw[ui (by omega),pi];have:=eK (g.drop (k+2-(p+2)));grind
 ·rw[pG (by simp),pi,u];simp[val]
set_option maxHeartbeats 8000000 in
set_option maxRecDepth 10000 in
theorem Hg (A B:Option Addr) (n c m d p:Nat) (xs ys:List Int) (w:World) (ha:Sl w A n c xs) (hb:Sl w B m d ys) (hn:n<=100000000) (hm:m<=100000000) (h1:(trm ys).length=p+2) (m4:val ys<=val xs):
 Calls Tryz.prog 263 #[.slice A n c,.slice B m d] w (CE w (val xs/val ys) (val xs%val ys)):=by
 obtain⟨X,hX⟩: ∃X,trm xs=X:=⟨_,rfl⟩
 obtain⟨Y,hY⟩: ∃Y,trm ys=Y:=⟨_,rfl⟩
 obtain⟨k,hk⟩: ∃k,X.length=k:=⟨_,rfl⟩
 have ta:=ha.trm
 have tb:=hb.trm
 have nb:=sf ys
 have h8:=ip xs
 have g7:=ip ys
 rw[hX] at ta h8
 rw[hY] at tb h1 g7 nb
 have T2:k<=n:=by have:=sA xs;rw[hX,hk,ha.len] at this;exact this
 have P1:p+2<=m:=by have:=sA ys;rw[hY,h1,hb.len] at this;exact this
 rw[hk] at ta
 rw[h1] at tb
 rw[<-h8,<-g7] at m4
 rw[<-h8,<-g7]
 have V0:p+2<=k:=by have h3:=nb.ge tb.2.2.2 (by intro e;subst e;simp at h1);have h4:=eK ta.2.2.2;have:=Tz (show pw (Y.length-1)<pw X.length by omega);omega
 obtain⟨t,ht⟩: ∃t,dC (val X) (val Y)=t:=⟨_,rfl⟩
 have P0:0<=t:=by rw[<-ht];unfold dC;rw[if_neg (by omega)];split<;>omega
 have HX:=gw hX
 have HY:=gw hY
 have Hk:=gw hk
 have Hl:=gw h1
 have Hc:=gw ht
 obtain⟨b1,o1,y,e1,K2,hy,J,X0,Y0⟩:=tb.at_ (show p+1<p+2 by omega)
 obtain⟨S,hS⟩: ∃S,1000000000/(y+1)=S:=⟨_,rfl⟩
 have l7:Hid (∀V,Lim V->Nrm V->val V=val Y*S->V.length=p+2/\1<=S/\S<1000000000/\1<=y/\pw (p+1)<=val V/\val V<pw (p+2)):=fun V lV nV hV=>NM tb.2.2.2 nb Hl.out hy.out hS lV nV hV
 obtain⟨z9,q4,hy2⟩:=OL tb.2.2.2 nb Hl.out hy.out hS
 clear hX hY hk h1 ht h8 g7 nb m4
 subst e1
 go_enter Tryz.func263,Tryz.ntmps263
 go_wp2_with fail
 refine(lN A n c k xs X w ha HX Hk).mono ?_
 rintro e w1 ⟨rfl,rfl⟩
 go_wp2_with fail
 refine(lN _ m d (p+2) ys Y w hb HY Hl).mono ?_
 rintro e w1 ⟨rfl,rfl⟩
 go_wp2_with fail
 refine(nn A _ k c (p+2) d X Y w ta tb).mono ?_
 rintro e w1 ⟨rfl,I⟩
 rw[Hc.out]
 replace J:=Oh I J
 obtain⟨i0,q6,m2,q3,n3⟩:=info_parts nj
 have lS:Lim [S]:=Lim.nil.cons (by omega) q4
 have g1: ∀w0:World,Sl (w0.alloc (.cells #[.int .u32 S] 255)) (some ⟨w0.heap.size,0,none⟩) 1 1 [S]:=fun w0=>⟨RdI.lit w0 255 .u32 [S] _ _ 1 rfl rfl rfl,bd _,by omega,lS⟩
 have vS:val [S]=S:=by simp[val]
 go_wp2_with fail
 refine(yK A (some ⟨w1.heap.size,0,none⟩) k c 1 1 X [S] _ ((ta.below I).below ((ef _ _).alloc (bd _) _)) (g1 w1) (by omega) (by omega)).mono ?_
 rintro e w2 ⟨Au,cu,zs,rfl,E,b6,a2⟩
 rw[vS] at b6
 replace a2:=(I.alloc I.size _).trans (a2.mono (by have:=I.size;simp;omega))
 replace E:=E.le (b:=w.heap.size) (by have:=I.size;simp;omega)
 have i2:=a2.size
 go_wp2_with (at_builtin;go_must (refine wpList_append_own _ rfl _ _ 36 rfl w.heap.size 255 i0 (.int .u32 0) 1 4 nL q6 m2 q3 n3 rfl (by decide) _ _ _ rfl (E.1.alloc _) ⟨w2.heap.size,0,none⟩ 1 1 [.int .u32 0] rfl rfl (cell_one_new _ _ _) (by simp[Value.oneCell']) (by unfold maxLen;omega) (by omega) (by simp;omega) ?_);intro v3 w3 x c5 _)
 have u:=iY E.1 a2 i2 c5
 have s4:=u.size
 obtain⟨gu,a5,rfl,i6,q5⟩:=Iw x (by omega)
 have e3:zs.map (Value.int .u32)++[.int .u32 0]=(zs++[0]).map (Value.int .u32):=by simp
 rw[e3] at x
 have lz:zs.length=k+1:=E.len
 have Hz:Hid (Lim zs/\zs.length=k+1/\val zs=val X*S):=⟨E.2,lz,b6⟩
 clear E c5 b6 e3 lz a2 i2
 go_wp2_with fail
 refine(yK (some ⟨b1,o1,none⟩) (some ⟨w3.heap.size,0,none⟩) (p+2) d 1 1 Y [S] _ ((tb.below u).below ((ef _ _).alloc (bd _) _)) (g1 w3) (by omega) (by omega)).mono ?_
 rintro e w4 ⟨Av,cv,zv,rfl,a4,a9,a1⟩
 rw[vS] at a9
 have u8:=a1.size
 simp only[World.size_alloc] at u8
 obtain⟨gv,T1,e4,j1,x2⟩:=Iw a4.1 (by omega)
 injection e4 with e4 _ A2
 subst e4 A2
 obtain⟨V,hV⟩: ∃V,trm zv=V:=⟨_,rfl⟩
 have a0:=a4.sl.trm
 rw[hV] at a0
 obtain⟨l6,_,_,_,m0,n4⟩:=l7.out V (by rw[<-hV];exact a4.2.trm) (by rw[<-hV];exact sf _) (by rw[<-hV,ip];exact a9)
 rw[l6] at a0
 have i4:=a4.sl
 have HV:Hid (trm zv=V):=hV
 have h9:Hid (V.length=p+2):=l6
 have b0:Hid (val V=val Y*S/\pw (p+1)<=val V/\val V<pw (p+2)):=⟨by rw[<-hV,ip];exact a9,m0,n4⟩
 have p3:gv≠gu:=by have:=j1;simp at this;omega
 replace a1:=((ef w3.heap.size w3).alloc (bd _) (.cells #[.int .u32 S] 255)).trans (a1.mono (by simp))
 replace x:=yF x a1
 replace u:=u.trans (a1.mono s4)
 replace q5:gu<w4.heap.size:=by omega
 have c6:w.heap.size<=w4.heap.size:=u.size
 clear hV l6 m0 n4 a4 a9 u8 j1 l7 a1
 obtain⟨D,hD⟩: ∃D,k=p+2+D:=⟨k-(p+2),by omega⟩
 subst hD
 go_wp2_with fail
 refine(lN _ _ _ (p+2) zv V w4 i4 HV h9).mono ?_
 rintro e w5 ⟨rfl,rfl⟩
 go_wp2_with (at_make;go_must (refine wpList_make_full _ rfl _ _ 36 rfl w.heap.size 255 i0 (.int .u32 0) 1 nL q6 m2 q3 _ _ _ _ (D+2) rfl rfl (by omega) (by omega) (by rw[n3];omega) (by unfold maxLen;omega) c6 ?_);intro w5 b8 c3)
 rw[rE] at b8
 have c7:Below w4.heap.size w4 w5:=(ef _ _).grown c3 (bd _) (by simp)
 replace x:=yF x c7
 replace a0:=a0.below c7
 replace u:=u.trans (c7.mono c6)
 have c8:gu≠w4.heap.size:=by omega
 have i8:gv≠w4.heap.size:=by omega
 have i5:w.heap.size<=w4.heap.size:=c6
 clear c3 c7 q5 x2 c6 I J s4 i4 g1 tb ha hb lS
 have A4:Hid (Lim X):=ta.2.2.2
 clear ta
 generalize w4.heap.size=gq at*
 have Hst:Hid (Kd (zs++[0]) (List.replicate (D+2) 0) V (val X*S) (p+2+D+1+1) (p+2) (D+2)):=by have h:=Kd.start Hz.out.1 Hz.out.2.1 Hz.out.2.2 b0.out.2.1 (show p+2<=p+2+D by omega);rwa [show p+2+D+2-(p+2)=D+2 from by omega] at h
 clear Hz
 go_loopw [11] (fun i wr=> ∃(j:Nat) (us qs:List Int),j<=D+2/\i=.int .i64 ((j:Int)-1)/\wr.ownsRow w.heap.size 255 1 (.slice (some ⟨gu,0,none⟩) (p+2+D+1+1) a5) (p+2+D+1+1) (us.map (Value.int .u32))/\wr.ownsRow w.heap.size 255 1 (.slice (some ⟨gq,0,none⟩) (D+2) (D+2)) (D+2) (qs.map (Value.int .u32))/\Sl wr (some ⟨gv,0,none⟩) (p+2) cv V/\Below w.heap.size w wr/\Hid (Kd us qs V (val X*S) (p+2+D+1+1) (p+2) j))
  (fun i _=>(intOf i+1).toNat)
 case atStart=>exact⟨D+2,_,_,bd _,by first|rfl|go_num,x,b8,a0,u,Hst⟩
 case round=>
  clear x b8 a0 u Hst
  obtain⟨j,us,qs,hj,rfl,hu,hq,a0,g5,H⟩:=hrel
  have hz:=g5.size
  have U1:p+2+D+1+1<=a5:=(show Ow wr w.heap.size (.slice (some ⟨gu,0,none⟩) (p+2+D+1+1) a5) (p+2+D+1+1) us from⟨hu,H.out.ul⟩).sl.2.1
  rcases iS j with p4|p4
  ·subst p4
   have so:=(show Ow wr w.heap.size (.slice (some ⟨gu,0,none⟩) (p+2+D+1+1) a5) (p+2+D+1+1) us from⟨hu,H.out.ul⟩).sl
   obtain⟨n2,p1⟩:=H.out.fin b0.out.1 z9 (by have:=b0.out.2.1;have:=dP (p+1);omega) A4.out
   have o8:val (us.take (p+2))=val us:=tT H.out.ul (by have h1:=H.out.lt;have h2:=b0.out.2.2;simp only[lE] at h1;omega)
   have l4:=so.take (p+2) a5 (by omega) (by omega) so.2.2.1
   obtain⟨W,hW⟩: ∃W,trm (us.take (p+2))=W:=⟨_,rfl⟩
   obtain⟨lw,i1⟩: ∃l,W.length=l:=⟨_,rfl⟩
   have r4:=l4.trm
   have o0:val W=val us:=by rw[<-hW,ip,o8]
   have H2:lw<=p+2:=by rw[<-i1,<-hW];have:=sA (us.take (p+2));rw[l4.len] at this;exact this
   rw[hW,i1] at r4
   have HW:=gw hW
   have w8:=gw i1
   have g3:Hid (Lim qs/\val qs=val X/val Y/\val W/S=val X%val Y):=⟨H.out.ql,n2,by rw[o0];exact p1⟩
   clear hW i1 n2 p1 o8 o0 so H
   go_wp2_with fail
   refine(lN _ _ _ lw (us.take (p+2)) W wr l4 HW w8).mono ?_
   rintro e w6 ⟨rfl,rfl⟩
   go_wp2_with fail
   refine(BL _ lw _ W S _ r4 (by omega) (by omega) q4).mono ?_
   rintro e w7 ⟨A1,n1,c1,z6,B1,m1,d1,rs,rfl,h2,h3,h4,h5,h6⟩
   go_wp2
   go_ret2
   exact⟨_,_,_,qs,A1,n1,c1,z6,rfl,⟨yF hq h6,g3.out.1⟩,g3.out.2.1,h2.le hz,h3.trans g3.out.2.2,g5.trans (h6.mono hz)⟩
  ·obtain⟨j,rfl⟩: ∃i,j=i+1:=⟨j-1,by omega⟩
   have ej:((j+1:Nat):Int)-1=(j:Int):=by omega
   rw[ej]
   clear ej
   obtain⟨u0,d4⟩:=oa H.out.un (show j+(p+2)<p+2+D+1+1 by omega)
   obtain⟨u1,e2⟩:=oa H.out.un (show j+(p+1)<p+2+D+1+1 by omega)
   obtain⟨u2,f0⟩:=oa H.out.un (show j+p<p+2+D+1+1 by omega)
   obtain⟨N2,_,_⟩:=o9 hu d4
   obtain⟨R0,_,_⟩:=o9 hu e2
   obtain⟨l0,_,_⟩:=o9 hu f0
   have X1:=H.out.ul.at_ d4
   have P2:=H.out.ul.at_ e2
   have s2:=H.out.ul.at_ f0
   obtain⟨_,_,N,a3,U0,z8,z3,C1,C2⟩:=a0.at_ (show p+1<p+2 by omega)
   injection a3 with a3
   injection a3 with a3 k7 _
   subst a3 k7
   obtain⟨_,_,v2,a3,_,z7,y0,d3,n0⟩:=a0.at_ (show p<p+2 by omega)
   injection a3 with a3
   injection a3 with a3 k7 _
   subst a3 k7
   rw[dt] at z3 y0
   obtain⟨wo,x9⟩: ∃wo,wo=wr:=⟨_,rfl⟩
   subst x9
   obtain⟨tt,z5⟩: ∃tt,u0*1000000000+u1=tt:=⟨_,rfl⟩
   have He:Hid (Est (pw p) (val (us.drop j)) (val V) tt u2 N v2):=by
    have a6:=Rj (n:=p+2) H.out.ul H.out.un (show j+(p+2)<p+2+D+1+1 by omega) H.out.lt b0.out.2.2;have h3:=ag1 (H.out.ul.drop j) (oW f0) (oW e2) (oW d4);have h2:=agK a0.2.2.2 z7.out z8.out h9.out;rw[z5] at h3;rw[a6.1] at h3;have v4:1<=N:=by
     rcases kr 0 N with h4|h4;·exact h4
     ·obtain⟨s,s0,s1,e⟩:=h2;have:N=0:=by omega
      subst this;have h5:=b0.out.2.1;have e5:pw (p+1)=1000000000*pw p:=d5 p;have:=dS (a:=pw p) (show 0*1000000000+v2<=999999999 by omega) (by have:=dP p;omega);omega
    exact⟨dP p,h3,h2,by omega,s2.1,s2.2,v4,d3,n0,a6.2.2⟩
   have B2:1<=N:=He.out.v10
   have H1:=He.out.top
   have D1:=He.out.t0
   obtain⟨r1,r6⟩:=He.out.small
   have p0:0<=tt%N:=p5 _ (by omega)
   have r5:tt%N<N:=pg _ (by omega)
   have Hst:Hid (tt%N=tt-tt/N*N/\val (us.drop j)<(tt/N+1)*val V):=by refine⟨?_,He.out.first⟩;have:=wg tt N;have:=sU N (tt/N);omega
   have Hu:=gw (And.intro d4 (And.intro e2 f0))
   clear d4 e2 f0
   go_wp2_with fail
   go_quiet (fail)
   go_wp2_with fail
   go_quiet (fail)
   go_wp2_with fail
   try rw[show j+(p+2)-1=j+(p+1) from by omega]
   try simp only[show p+2-1=p+1 from rfl]
   go_loopw [13,14] (fun g r wr=> ∃(G R:Int) (q:Nat),g=.int .u64 G/\r=.int .u64 R/\0<=G/\G<=2000000000/\0<=R/\R<1000000000/\wr=wo.drewN q/\Hid (R=tt-G*N/\val (us.drop j)<(G+1)*val V))
    (fun g _ _=>(intOf g).toNat)
   case atStart=>exact⟨_,_,_,rfl,rfl,r6,r1,p0,by omega,by first|rfl|exact World.drewN_drewN _ _ _,Hst⟩
   case round=>
    clear r6 r1 p0 r5 Hst
    obtain⟨G,R,q,rfl,rfl,b2,h0,L0,Y1,rfl,HG⟩:=hrel
    have l3:0<=G*v2:=mh b2 d3
    have k6:G*v2<=2000000000*999999999:=qR h0 (by omega) d3 (by omega)
    have l5:(1000000000<=G/\R+N<1000000000)\/(G<1000000000/\R*1000000000+u2<G*v2/\R+N<1000000000)\/(1000000000<=G/\1000000000<=R+N)\/(G<1000000000/\R*1000000000+u2<G*v2/\1000000000<=R+N)\/(G<1000000000/\G*v2<=R*1000000000+u2):=by omega
    rcases l5 with⟨J,U⟩|⟨J,U,k8⟩|⟨J,U⟩|⟨J,U,k8⟩|⟨J,U⟩
    ·have Hs:Hid (R+N=tt-(G-1)*N/\val (us.drop j)<(G-1+1)*val V):=⟨by rw[HG.out.1];grind,He.out.big J⟩
     go_wp2_with fail
     go_quiet (fail)
     go_wp2
     go_roundw
     case rel=>exact⟨_,_,_,rfl,rfl,by omega,by omega,by omega,by omega,by first|rfl|exact World.drewN_drewN _ _ _,Hs⟩
     case measure=>simp[intOf]<;>omega
    ·have l9:1<=G:=by
      rcases kr 0 G with h4|h4;·exact h4
      ·have:G=0:=by omega
       subst this;simp at U;omega
     have Hs:Hid (R+N=tt-(G-1)*N/\val (us.drop j)<(G-1+1)*val V):=⟨by rw[HG.out.1];grind,He.out.test b2 HG.out.1 U⟩
     have e6:decide (1000000000<=G)=false:=by simp;omega
     have f3: ¬((p:Int)<0):=by omega
     have d2:(p:Int)<(p:Int)+2:=by omega
     have f4: ¬((j:Int)+(p:Int)<0):=by omega
     have g0:(j:Int)+(p:Int)<(p:Int)+2+D+1+1:=by omega
     have b3:wo.cell? ⟨gu,j+(p+2)-2,none⟩=some (.int .u32 u2):=by rw[show j+(p+2)-2=j+p from by omega];exact l0
     go_wp2_with fail
     go_quiet (fail)
     clear e6 f3 d2 f4 g0 b3
     go_wp2
     go_roundw
     case rel=>exact⟨_,_,_,rfl,rfl,by omega,by omega,by omega,by omega,by first|rfl|exact World.drewN_drewN _ _ _,Hs⟩
     case measure=>simp[intOf]<;>omega
    focus
     have b5:R+N=tt-(G-1)*N:=by rw[HG.out.1];grind
     obtain⟨c9,f2⟩:=He.out.off (G:=G-1) (by omega) b5 U
     have HF:Hid (val (us.drop j)<(G-1+1)*val V/\(G-1-1)*val V<=val (us.drop j)):=⟨He.out.big J,He.out.done (by omega) c9 b5 f2⟩
     have e9:0<=G-1:=by omega
     clear f2 b5
     go_wp2_with fail
     go_quiet (fail)
     go_wp2_with fail
     clear b2 h0 HG l3 k6 J U
     generalize G-1=F at*
    rotate_left
    focus
     have l9:1<=G:=by
      rcases kr 0 G with h4|h4;·exact h4
      ·have:G=0:=by omega
       subst this;simp at U;omega
     have b5:R+N=tt-(G-1)*N:=by rw[HG.out.1];grind
     obtain⟨c9,f2⟩:=He.out.off (G:=G-1) (by omega) b5 k8
     have HF:Hid (val (us.drop j)<(G-1+1)*val V/\(G-1-1)*val V<=val (us.drop j)):=⟨He.out.test b2 HG.out.1 U,He.out.done (by omega) c9 b5 f2⟩
     have e9:0<=G-1:=by omega
     clear f2 b5
     have b3:wo.cell? ⟨gu,j+(p+2)-2,none⟩=some (.int .u32 u2):=by rw[show j+(p+2)-2=j+p from by omega];exact l0
     have e6:decide (1000000000<=G)=false:=by simp;omega
     have f3: ¬((p:Int)<0):=by omega
     have d2:(p:Int)<(p:Int)+2:=by omega
     have f4: ¬((j:Int)+(p:Int)<0):=by omega
     have g0:(j:Int)+(p:Int)<(p:Int)+2+D+1+1:=by omega
     go_wp2_with fail
     go_quiet (fail)
     go_wp2_with fail
     clear e6 f3 d2 f4 g0
     clear b2 h0 HG l3 k6 J U l9 k8 b3
     generalize G-1=F at*
    rotate_left
    focus
     have b3:wo.cell? ⟨gu,j+(p+2)-2,none⟩=some (.int .u32 u2):=by rw[show j+(p+2)-2=j+p from by omega];exact l0
     have HF:Hid (val (us.drop j)<(G+1)*val V/\(G-1)*val V<=val (us.drop j)):=⟨HG.out.2,He.out.done b2 J HG.out.1 U⟩
     have e9:0<=G:=b2
     have c9:G<1000000000:=J
     have e6:decide (1000000000<=G)=false:=by simp;omega
     have f3: ¬((p:Int)<0):=by omega
     have d2:(p:Int)<(p:Int)+2:=by omega
     have f4: ¬((j:Int)+(p:Int)<0):=by omega
     have g0:(j:Int)+(p:Int)<(p:Int)+2+D+1+1:=by omega
     go_wp2_with fail
     go_quiet (fail)
     go_wp2_with fail
     clear e6 f3 d2 f4 g0
     clear b2 h0 HG l3 k6 J U b3
     generalize G=F at*
    rotate_left
    all_goals
     have hUn:us.length=p+2+D+1+1:=H.out.un
     have h7: ∀b off,some (⟨gv,0,none⟩:Addr)=some ⟨b,off,none⟩->some b≠some gu:=by intro b off h;injection h with h;injection h with h _ _;subst h;simpa using p3
     have y5:(wo.drewN (q+nq)).ownsRow w.heap.size 255 1 (.slice (some ⟨gu,0,none⟩) (p+2+D+1+1) a5) (p+2+D+1+1) (us.map (Value.int .u32)):=hu
     have z0:(wo.drewN (q+nq)).ownsRow w.heap.size 255 1 (.slice (some ⟨gq,0,none⟩) (D+2) (D+2)) (D+2) (qs.map (Value.int .u32)):=hq
     have j0:Sl (wo.drewN (q+nq)) (some ⟨gv,0,none⟩) (p+2) cv V:=a0
     have d0:Below w.heap.size w (wo.drewN (q+nq)):=Below.drewN' g5 _
     refine(JN w.heap.size gu (p+2+D+1+1) a5 j (a5-j) (p+2) cv (j+(p+2)+1-j) (some ⟨gv,0,none⟩) us V F (wo.drewN (q+nq)) y5 H.out.ul (by omega) (by omega) j0 h7 e9 c9 (by omega) (by omega)).mono ?_
     rintro e w6 ⟨x3,C6,rfl,g8,j2,x1,g2,p2,k4⟩
     have c0:Below w.heap.size w w6:=d0.grown k4 d0.size (by intro k hk;injection hk with hk;subst hk;exact i6)
     have e8:=j0.grown k4 h7
     have t4:=z0.kept k4 (.inr (by simp[Value.ownBlock];exact fun h=>c8 h.symm))
     have a6:=Rj (n:=p+2) H.out.ul H.out.un (show j+(p+2)<p+2+D+1+1 by omega) H.out.lt b0.out.2.2
     rw[a6.1] at g2
     obtain⟨o,ho⟩:=oa (show qs.length=D+2 by rw[H.out.qn];omega) (show j<D+2 by omega)
     have s6:=c0.size
     by_cases hC:0<C6
     ·have Hd:decide (0<C6)=true:=by simpa using hC
      rw[Hd]
      clear Hd
      have w9:Lim (us.take j++x3++us.drop (j+(p+2+1))):=((H.out.ul.take j).append j2).append (H.out.ul.drop _)
      go_wp2_with fail
      refine(NL w.heap.size gu (p+2+D+1+1) a5 j (a5-j) (p+2) cv (j+(p+2)+1-j) (some ⟨gv,0,none⟩) _ V w6 p2 w9 (by omega) (by omega) e8 h7 (by omega) (by omega)).mono ?_
      rintro e w7 ⟨N1,C7,rfl,r5,r3,m3,j4,l8,j3⟩
      rw[P9 (by omega) g8] at j4
      rw[Nt (by omega) g8] at l8
      obtain⟨k1,k2,k3⟩:=VC j2 g8 m3 r3 g2 hC HF.out.2 He.out.u0 e9 b0.out.2.2 He.out.v0 j4
      have g4:Below w.heap.size w w7:=c0.grown j3 s6 (by intro k hk;injection hk with hk;subst hk;exact i6)
      have o3:=e8.grown j3 h7
      have z4:=t4.kept j3 (.inr (by simp[Value.ownBlock];exact fun h=>c8 h.symm))
      obtain⟨k9,y4,f1⟩:=o9 z4 ho
      have hK:=gw (H.out.step h9.out (show j+(p+2)<p+2+D+1+1 by omega) a0.2.2.2 m3 r3 k3 (by omega) k1 k2 a6.2.1)
      have K:=f1 (F-1)
      have k5:=l8.kept K.2 (.inr (by simp[Value.ownBlock];exact c8))
      have g6:=o3.grown K.2 (by intro b off h;injection h with h;injection h with h _ _;subst h;simpa using i8)
      have b4:=g4.grown K.2 g4.size (by intro k hk;injection hk with hk;subst hk;exact i5)
      clear f1 k1 k2 j4 g2
      go_wp2
      go_roundw
      case rel=>exact⟨j,_,_,by omega,by first|rfl|go_num,k5,K.1,g6,b4,hK⟩
      case measure=>simp[intOf]<;>omega
     ·have Hd:decide (0<C6)=false:=by simpa using hC
      rw[Hd]
      clear Hd
      obtain⟨k1,k2⟩:=VN g2 x1 hC HF.out.1
      obtain⟨k9,y4,f1⟩:=o9 t4 ho
      have hK:=gw (H.out.step h9.out (show j+(p+2)<p+2+D+1+1 by omega) a0.2.2.2 j2 g8 e9 c9 k1 k2 a6.2.1)
      have K:=f1 F
      have k5:=p2.kept K.2 (.inr (by simp[Value.ownBlock];exact c8))
      have g6:=e8.grown K.2 (by intro b off h;injection h with h;injection h with h _ _;subst h;simpa using i8)
      have b4:=c0.grown K.2 s6 (by intro k hk;injection hk with hk;subst hk;exact i5)
      clear f1 k1 k2 g2
      go_wp2
      go_roundw
      case rel=>exact⟨j,_,_,by omega,by first|rfl|go_num,k5,K.1,g6,b4,hK⟩
      case measure=>simp[intOf]<;>omega
end Go.Proofs.YtegeknjkgadehaaGreat
