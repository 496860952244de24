/-Layer 1:divide,the long division. -/
import Derived.Test.YtegeknjkgadehaaGreatTqA
import Derived.Test.YtegeknjkgadehaaGreatProg
namespace Go.Proofs.YtegeknjkgadehaaGreat
open Go.RowKit
variable {S T y:Int}{V Y zs:List Int}{p:Nat}
theorem JA {w:World}{base n:Nat}{e:TypeId}{v:Value}{xs:List Value}(h:w.ownsRow base e 1 v n xs) (D:0<n): ∃g c,v=.slice (some ⟨g,0,none⟩) n c/\base<=g/\g<w.heap.size:=by
 rcases h.2 with⟨rfl,rfl⟩|⟨g,cap,j,rfl,I,A,_⟩;·grind
 grind
theorem Lc (base g N I k cs m d L:Nat) (B:Option Addr) (us ys:List Int) (j:Int) (w:World) (R:w.ownsRow base 255 1 (.slice (some ⟨g,0,none⟩) N I) N (us.map (Value.int .u32))) (D:Lim us) (hk:k+m+1<=N) (hN:N<=10000000000) (hb:Sl w B m d ys) (A: ∀b off,B=some ⟨b,off,none⟩->some b≠some g) (h0:0<=j) (h1:j<1000000000) (J:m+1<=cs) (W:L=m+1):Calls Tryz.prog 320 #[.slice (some ⟨g,k,none⟩) L cs,.slice B m d,.int .u64 j] w fun e w'=> ∃zs C,e=.returned (.bool (decide (0<C)))/\KK w w' base g N I k m us (val ((us.drop k).take (m+1))-j*val ys) zs C:=by subst W;exact Gi base g N I k cs m d B us ys j w R D hk hN hb A h0 h1 J
theorem PT (base g N D k cs m d L:Nat) (B:Option Addr) (us ys:List Int) (w:World) (J:w.ownsRow base 255 1 (.slice (some ⟨g,0,none⟩) N D) N (us.map (Value.int .u32))) (A:Lim us) (hk:k+m+1<=N) (hN:N<=10000000000) (W:Sl w B m d ys) (j: ∀b off,B=some ⟨b,off,none⟩->some b≠some g) (I:m+1<=cs) (R:L=m+1):Calls Tryz.prog 321 #[.slice (some ⟨g,k,none⟩) L cs,.slice B m d] w fun e w'=> ∃zs C,e=.returned (.tuple #[])/\0<=C/\zs.length=m+1/\Lim zs/\val zs+pw (m+1)*C=val ((us.drop k).take (m+1))+val ys/\w'.ownsRow base 255 1 (.slice (some ⟨g,0,none⟩) N D) N ((us.take k++zs++us.drop (k+(m+1))).map (Value.int .u32))/\w.grownBy w' (some g):=by subst R;exact Ks base g N D k cs m d B us ys w J A hk hN W j I
theorem Pq (A:Lim Y) (nY:Nrm Y) (hl:Y.length=p+2) (I:Y[p+1]? =some y) (W:1000000000/(y+1)=S) (J:Lim V) (nV:Nrm V) (hV:val V=val Y*S):V.length=p+2/\1<=S/\S<1000000000/\1<=y/\pw (p+1)<=val V/\val V<pw (p+2):=by
 have a5:=A.at_ I
 have h1:=nY.ge A (by intro e;subst e;simp at hl)
 rw[hl,show p+2-1=p+1 from rfl] at h1
 have e1:val Y=val (Y.take (p+1))+pw (p+1)*y:=by
  have e2:val Y=val (Y.take (p+2)):=by rw[cV (by omega)]
  rw[e2,aQ I]
 have R:=fD (A.take (p+1))
 have h3:=cH (A.take (p+1))
 rw[fF,jh (by omega)] at R
 have a4:1<=y:=by
  rcases kI 0 y with j|j;·exact j
  .have:y=0:=by omega
   subst this;simp at e1;omega
 have e3:=xf 1000000000 (y+1)
 have e4:=pz 1000000000 (show 0<y+1 by omega)
 have e5:=qY 1000000000 (show y+1≠0 by omega)
 rw[W] at e3
 have D:1<=S:=by
  rcases kI 0 S with j|j;·exact j
  .have:=eQ (a:=y+1) (by omega) (by omega);omega
 have a6:S<1000000000:=by have:=xO (c:=S) (show 2<=y+1 by omega) (by omega);omega
 have h5:val V<pw (p+2):=by
  have a1:val Y*S<pw (p+1)*(y+1)*S:=by refine Int.mul_lt_mul_of_pos_right ?_ (by omega);rw[Int.mul_add];omega
  have a2:pw (p+1)*((y+1)*S)<=pw (p+1)*1000000000:=eQ (by omega) (by omega);have a3:pw (p+2)=1000000000*pw (p+1):=eZ (p+1);rw[Int.mul_assoc] at a1;rw[hV,a3];omega
 have h6:pw (p+1)<=val V:=by have:=eQ (a:=val Y) D (by omega);grind
 have h7:=nV.len J h5
 have h8:p+1<V.length:=by have:=fD J;exact U6 (by omega)
 grind
theorem Pv (j:Lim Y) (nY:Nrm Y) (hl:Y.length=p+2) (A:Y[p+1]? =some y) (I:1000000000/(y+1)=S):1<=S/\S<1000000000/\1<=y:=by
 have W:=j.at_ A;have h1:=nY.ge j (by intro e;subst e;simp at hl);have e1:val Y=val (Y.take (p+1))+pw (p+1)*y:=by
  have D:val Y=val (Y.take (p+2)):=by grind
  rw[D,aQ A]
 have h2:=fD (j.take (p+1));have R:1<=y:=by grind
 have J:=xf 1000000000 (y+1);have e4:=pz 1000000000 (show 0<y+1 by omega);have e5:=qY 1000000000 (show y+1≠0 by omega);rw[I] at J;have a4:1<=S:=by
  rcases kI 0 S with h4|h4;·grind
  .have:=eQ (a:=y+1) (by omega) (by omega);omega
 have a3:S<1000000000:=by have:=xO (c:=S) (show 2<=y+1 by omega) (by omega);omega
 grind
theorem Kd.start {k:Nat}(j:Lim zs) (D:zs.length=k+1) (I:val zs=T) (J:pw (p+1)<=val V) (A:p+2<=k):Kd (zs++[0]) (List.replicate (k+2-(p+2)) 0) V T (k+2) (p+2) (k+2-(p+2)):=by
 refine⟨j.snoc (by omega) (by omega),by simp[D],Lim.zeros _,by simp,?_,?_⟩
 .rw[xa (by omega),o5];have:=fD (j.drop (k+2-(p+2)));grind
 .rw[qM (by simp),o5,I];simp[val]
set_option maxHeartbeats 8000000 in
set_option maxRecDepth 10000 in
theorem JW (A B:Option Addr) (n c m d p:Nat) (xs ys:List Int) (w:World) (ha:Sl w A n c xs) (hb:Sl w B m d ys) (hn:n<=100000000) (hm:m<=100000000) (h1:(trm ys).length=p+2) (q4:val ys<=val xs):Calls Tryz.prog 263 #[.slice A n c,.slice B m d] w (DI w (val xs/val ys) (val xs%val ys)):=by
 obtain⟨X,hX⟩: ∃X,trm xs=X:=⟨_,rfl⟩
 obtain⟨Y,hY⟩: ∃Y,trm ys=Y:=⟨_,rfl⟩
 obtain⟨k,hk⟩: ∃k,X.length=k:=⟨_,rfl⟩
 have ta:=ha.trm
 have tb:=hb.trm
 have nb:=tk ys
 have k5:=iT xs
 have j3:=iT ys
 rw[hX] at ta k5
 rw[hY] at tb h1 j3 nb
 have hkn:k<=n:=by have:=tu xs;rw[hX,hk,ha.len] at this;exact this
 have hpm:p+2<=m:=by have:=tu ys;rw[hY,h1,hb.len] at this;exact this
 rw[hk] at ta
 rw[h1] at tb
 rw[<-k5,<-j3] at q4
 rw[<-k5,<-j3]
 have hkp:p+2<=k:=by have h3:=nb.ge tb.2.2.2 (by intro e;subst e;simp at h1);have h4:=fD ta.2.2.2;have:=U6 (show pw (Y.length-1)<pw X.length by omega);omega
 obtain⟨t,ht⟩: ∃t,dT (val X) (val Y)=t:=⟨_,rfl⟩
 have ht0:0<=t:=by rw[<-ht];unfold dT;rw[if_neg (by omega)];split<;>omega
 have HX:=gX hX
 have HY:=gX hY
 have Hk:=gX hk
 have Hl:=gX h1
 have Hc:=gX ht
 obtain⟨b1,o1,y,e1,hb1,hy,a5,hy0,hy1⟩:=tb.at_ (show p+1<p+2 by omega)
 obtain⟨S,hS⟩: ∃S,1000000000/(y+1)=S:=⟨_,rfl⟩
 have z4:Hid (∀V,Lim V->Nrm V->val V=val Y*S->V.length=p+2/\1<=S/\S<1000000000/\1<=y/\pw (p+1)<=val V/\val V<pw (p+2)):=fun V lV nV hV=>Pq tb.2.2.2 nb Hl.out hy.out hS lV nV hV
 obtain⟨K2,p4,hy2⟩:=Pv tb.2.2.2 nb Hl.out hy.out hS
 clear hX hY hk h1 ht k5 j3 nb q4
 subst e1
 go_enter Tryz.func263,Tryz.ntmps263
 go_wp2_with fail
 refine(mq A n c k xs X w ha HX Hk).mono ?_
 rintro e w1 ⟨rfl,rfl⟩
 go_wp2_with fail
 refine(mq _ m d (p+2) ys Y w hb HY Hl).mono ?_
 rintro e w1 ⟨rfl,rfl⟩
 go_wp2_with fail
 refine(nK A _ k c (p+2) d X Y w ta tb).mono ?_
 rintro e w1 ⟨rfl,a4⟩
 rw[Hc.out]
 replace a5:=OE a4 a5
 obtain⟨i0,y0,u8,x2,v4⟩:=info_parts nP
 have lS:Lim [S]:=Lim.nil.cons (by omega) p4
 have i6: ∀w0:World,Sl (w0.alloc (.cells #[.int .u32 S] 255)) (some ⟨w0.heap.size,0,none⟩) 1 1 [S]:=fun w0=>⟨RdI.lit w0 255 .u32 [S] _ _ 1 rfl rfl rfl,bk _,by omega,lS⟩
 have vS:val [S]=S:=by simp[val]
 go_wp2_with fail
 refine(zi A (some ⟨w1.heap.size,0,none⟩) k c 1 1 X [S] _ ((ta.below a4).below ((fe _ _).alloc (bk _) _)) (i6 w1) (by omega) (by omega)).mono ?_
 rintro e w2 ⟨Au,cu,zs,rfl,a3,d3,b7⟩
 rw[vS] at d3
 replace b7:=(a4.alloc a4.size _).trans (b7.mono (by have:=a4.size;simp;omega))
 replace a3:=a3.le (b:=w.heap.size) (by have:=a4.size;simp;omega)
 have l8:=b7.size
 go_wp2_with (at_builtin;go_must (refine wpList_append_own _ rfl _ _ 36 rfl w.heap.size 255 i0 (.int .u32 0) 1 4 oA y0 u8 x2 v4 rfl (by decide) _ _ _ rfl (a3.1.alloc _) ⟨w2.heap.size,0,none⟩ 1 1 [.int .u32 0] rfl rfl (cell_one_new _ _ _) (by simp[Value.oneCell']) (by unfold maxLen;omega) (by omega) (by simp;omega) ?_);intro v3 w3 J f2 _)
 have I:=jv a3.1 b7 l8 f2
 have r3:=I.size
 obtain⟨gu,c3,rfl,m0,x5⟩:=JA J (by omega)
 have e3:zs.map (Value.int .u32)++[.int .u32 0]=(zs++[0]).map (Value.int .u32):=by simp
 rw[e3] at J
 have lz:zs.length=k+1:=a3.len
 have Hz:Hid (Lim zs/\zs.length=k+1/\val zs=val X*S):=⟨a3.2,lz,d3⟩
 clear a3 f2 d3 e3 lz b7 l8
 go_wp2_with fail
 refine(zi (some ⟨b1,o1,none⟩) (some ⟨w3.heap.size,0,none⟩) (p+2) d 1 1 Y [S] _ ((tb.below I).below ((fe _ _).alloc (bk _) _)) (i6 w3) (by omega) (by omega)).mono ?_
 rintro e w4 ⟨Av,cv,zv,rfl,b5,c6,b3⟩
 rw[vS] at c6
 have y5:=b3.size
 simp only[World.size_alloc] at y5
 obtain⟨gv,cv',e4,l0,T1⟩:=JA b5.1 (by omega)
 injection e4 with e4 _ N1
 subst e4 N1
 obtain⟨V,hV⟩: ∃V,trm zv=V:=⟨_,rfl⟩
 have a9:=b5.sl.trm
 rw[hV] at a9
 obtain⟨m2,_,_,_,x9,r1⟩:=z4.out V (by rw[<-hV];exact b5.2.trm) (by rw[<-hV];exact tk _) (by rw[<-hV,iT];exact c6)
 rw[m2] at a9
 have l5:=b5.sl
 have HV:Hid (trm zv=V):=hV
 have k8:Hid (V.length=p+2):=m2
 have d2:Hid (val V=val Y*S/\pw (p+1)<=val V/\val V<pw (p+2)):=⟨by rw[<-hV,iT];exact c6,x9,r1⟩
 have x6:gv≠gu:=by have:=l0;simp at this;omega
 replace b3:=((fe w3.heap.size w3).alloc (bk _) (.cells #[.int .u32 S] 255)).trans (b3.mono (by simp))
 replace J:=Ab J b3
 replace I:=I.trans (b3.mono r3)
 replace x5:gu<w4.heap.size:=by omega
 have f3:w.heap.size<=w4.heap.size:=I.size
 clear hV m2 x9 r1 b5 c6 y5 l0 z4 b3
 obtain⟨D,hD⟩: ∃D,k=p+2+D:=⟨k-(p+2),by omega⟩
 subst hD
 go_wp2_with fail
 refine(mq _ _ _ (p+2) zv V w4 l5 HV k8).mono ?_
 rintro e w5 ⟨rfl,rfl⟩
 go_wp2_with (at_make;go_must (refine wpList_make_full _ rfl _ _ 36 rfl w.heap.size 255 i0 (.int .u32 0) 1 oA y0 u8 x2 _ _ _ _ (D+2) rfl rfl (by omega) (by omega) (by rw[v4];omega) (by unfold maxLen;omega) f3 ?_);intro w5 d7 e6)
 rw[sP] at d7
 have e2:Below w4.heap.size w4 w5:=(fe _ _).grown e6 (bk _) (by simp)
 replace J:=Ab J e2
 replace a9:=a9.below e2
 replace I:=I.trans (e2.mono f3)
 have e9:gu≠w4.heap.size:=by omega
 have l3:gv≠w4.heap.size:=by omega
 have l4:w.heap.size<=w4.heap.size:=f3
 clear e6 e2 x5 T1 f3 a4 a5 r3 l5 i6 tb ha hb lS
 have T2:Hid (Lim X):=ta.2.2.2
 clear ta
 generalize w4.heap.size=gq at*
 have Hst:Hid (Kd (zs++[0]) (List.replicate (D+2) 0) V (val X*S) (p+2+D+1+1) (p+2) (D+2)):=by have h:=Kd.start Hz.out.1 Hz.out.2.1 Hz.out.2.2 d2.out.2.1 (show p+2<=p+2+D by omega);rwa [show p+2+D+2-(p+2)=D+2 from by omega] at h
 clear Hz
 go_loopw [11] (fun i wr=> ∃(j:Nat) (us qs:List Int),j<=D+2/\i=.int .i64 ((j:Int)-1)/\wr.ownsRow w.heap.size 255 1 (.slice (some ⟨gu,0,none⟩) (p+2+D+1+1) c3) (p+2+D+1+1) (us.map (Value.int .u32))/\wr.ownsRow w.heap.size 255 1 (.slice (some ⟨gq,0,none⟩) (D+2) (D+2)) (D+2) (qs.map (Value.int .u32))/\Sl wr (some ⟨gv,0,none⟩) (p+2) cv V/\Below w.heap.size w wr/\Hid (Kd us qs V (val X*S) (p+2+D+1+1) (p+2) j))
  (fun i _=>(intOf i+1).toNat)
 case atStart=>exact⟨D+2,_,_,bk _,by first|rfl|go_num,J,d7,a9,I,Hst⟩
 case round=>
  clear J d7 a9 I Hst
  obtain⟨j,us,qs,hj,rfl,hu,hq,a9,h8,H⟩:=hrel
  have hz:=h8.size
  have hcu:p+2+D+1+1<=c3:=(show Ow wr w.heap.size (.slice (some ⟨gu,0,none⟩) (p+2+D+1+1) c3) (p+2+D+1+1) us from⟨hu,H.out.ul⟩).sl.2.1
  rcases je j with r5|r5
  .subst r5
   have so:=(show Ow wr w.heap.size (.slice (some ⟨gu,0,none⟩) (p+2+D+1+1) c3) (p+2+D+1+1) us from⟨hu,H.out.ul⟩).sl
   obtain⟨w8,s4⟩:=H.out.fin d2.out.1 K2 (by have:=d2.out.2.1;have:=eX (p+1);omega) T2.out
   have z5:val (us.take (p+2))=val us:=uE H.out.ul (by have h1:=H.out.lt;have h2:=d2.out.2.2;simp only[mU] at h1;omega)
   have p3:=so.take (p+2) c3 (by omega) (by omega) so.2.2.1
   obtain⟨W,hW⟩: ∃W,trm (us.take (p+2))=W:=⟨_,rfl⟩
   obtain⟨lw,k4⟩: ∃l,W.length=l:=⟨_,rfl⟩
   have q6:=p3.trm
   have x3:val W=val us:=by rw[<-hW,iT,z5]
   have hlwp:lw<=p+2:=by rw[<-k4,<-hW];have:=tu (us.take (p+2));rw[p3.len] at this;exact this
   rw[hW,k4] at q6
   have HW:=gX hW
   have P2:=gX k4
   have j0:Hid (Lim qs/\val qs=val X/val Y/\val W/S=val X%val Y):=⟨H.out.ql,w8,by rw[x3];exact s4⟩
   clear hW k4 w8 s4 z5 x3 so H
   go_wp2_with fail
   refine(mq _ _ _ lw (us.take (p+2)) W wr p3 HW P2).mono ?_
   rintro e w6 ⟨rfl,rfl⟩
   go_wp2_with fail
   refine(B4 _ lw _ W S _ q6 (by omega) (by omega) p4).mono ?_
   rintro e w7 ⟨A1,n1,c1,C1,B1,m1,d1,rs,rfl,h2,h3,h4,h5,h6⟩
   go_wp2
   go_ret2
   exact⟨_,_,_,qs,A1,n1,c1,C1,rfl,⟨Ab hq h6,j0.out.1⟩,j0.out.2.1,h2.le hz,h3.trans j0.out.2.2,h8.trans (h6.mono hz)⟩
  .obtain⟨j,rfl⟩: ∃i,j=i+1:=⟨j-1,by omega⟩
   have ej:((j+1:Nat):Int)-1=(j:Int):=by omega
   rw[ej]
   clear ej
   obtain⟨u0,g5⟩:=oM H.out.un (show j+(p+2)<p+2+D+1+1 by omega)
   obtain⟨u1,g8⟩:=oM H.out.un (show j+(p+1)<p+2+D+1+1 by omega)
   obtain⟨u2,g1⟩:=oM H.out.un (show j+p<p+2+D+1+1 by omega)
   obtain⟨cu0,_,_⟩:=o9 hu g5
   obtain⟨cu1,_,_⟩:=o9 hu g8
   obtain⟨m6,_,_⟩:=o9 hu g1
   have bu0:=H.out.ul.at_ g5
   have bu1:=H.out.ul.at_ g8
   have t4:=H.out.ul.at_ g1
   obtain⟨_,_,v1,b6,hbv,A4,P1,U0,U1⟩:=a9.at_ (show p+1<p+2 by omega)
   injection b6 with b6
   injection b6 with b6 p1 _
   subst b6 p1
   obtain⟨_,_,v2,b6,_,H2,z8,i4,s2⟩:=a9.at_ (show p<p+2 by omega)
   injection b6 with b6
   injection b6 with b6 p1 _
   subst b6 p1
   rw[dN] at P1 z8
   obtain⟨wo,H1⟩: ∃wo,wo=wr:=⟨_,rfl⟩
   subst H1
   obtain⟨tt,z9⟩: ∃tt,u0*1000000000+u1=tt:=⟨_,rfl⟩
   have He:Hid (Est (pw p) (val (us.drop j)) (val V) tt u2 v1 v2):=by
    have c5:=So (n:=p+2) H.out.ul H.out.un (show j+(p+2)<p+2+D+1+1 by omega) H.out.lt d2.out.2.2;have h3:=ah5 (H.out.ul.drop j) (pJ g1) (pJ g8) (pJ g5);have h2:=aiE a9.2.2.2 H2.out A4.out k8.out;rw[z9] at h3;rw[c5.1] at h3;have z6:1<=v1:=by
     rcases kI 0 v1 with h4|h4;·exact h4
     .obtain⟨s,s0,s1,e⟩:=h2;have:v1=0:=by omega
      subst this;have h5:=d2.out.2.1;have e5:pw (p+1)=1000000000*pw p:=eZ p;have:=eQ (a:=pw p) (show 0*1000000000+v2<=999999999 by omega) (by have:=eX p;omega);omega
    exact⟨eX p,h3,h2,by omega,t4.1,t4.2,z6,i4,s2,c5.2.2⟩
   have hv1p:1<=v1:=He.out.v10
   have htop:=He.out.top
   have U2:=He.out.t0
   obtain⟨w9,z3⟩:=He.out.small
   have x1:0<=tt%v1:=qY _ (by omega)
   have y4:tt%v1<v1:=pz _ (by omega)
   have Hst:Hid (tt%v1=tt-tt/v1*v1/\val (us.drop j)<(tt/v1+1)*val V):=by refine⟨?_,He.out.first⟩;have:=xf tt v1;have:=t5 v1 (tt/v1);omega
   have Hu:=gX (And.intro g5 (And.intro g8 g1))
   clear g5 g8 g1
   go_wp2_with fail
   go_quiet (fail)
   go_wp2_with fail
   go_quiet (fail)
   go_wp2_with fail
   try rw[show j+(p+2)-1=j+(p+1) from by omega]
   try simp only[show p+2-1=p+1 from rfl]
   go_loopw [13,14] (fun g r wr=> ∃(G R:Int) (q:Nat),g=.int .u64 G/\r=.int .u64 R/\0<=G/\G<=2000000000/\0<=R/\R<1000000000/\wr=wo.drewN q/\Hid (R=tt-G*v1/\val (us.drop j)<(G+1)*val V))
    (fun g _ _=>(intOf g).toNat)
   case atStart=>exact⟨_,_,_,rfl,rfl,z3,w9,x1,by omega,by first|rfl|exact World.drewN_drewN _ _ _,Hst⟩
   case round=>
    clear z3 w9 x1 y4 Hst
    obtain⟨G,R,q,rfl,rfl,c7,k6,hR0,hR1,rfl,HG⟩:=hrel
    have m4:0<=G*v2:=mp c7 i4
    have o3:G*v2<=2000000000*999999999:=qJ k6 (by omega) i4 (by omega)
    have n2:(1000000000<=G/\R+v1<1000000000)\/(G<1000000000/\R*1000000000+u2<G*v2/\R+v1<1000000000)\/(1000000000<=G/\1000000000<=R+v1)\/(G<1000000000/\R*1000000000+u2<G*v2/\1000000000<=R+v1)\/(G<1000000000/\G*v2<=R*1000000000+u2):=by omega
    rcases n2 with⟨a5,b4⟩|⟨a5,b4,p0⟩|⟨a5,b4⟩|⟨a5,b4,p0⟩|⟨a5,b4⟩
    .have Hs:Hid (R+v1=tt-(G-1)*v1/\val (us.drop j)<(G-1+1)*val V):=⟨by rw[HG.out.1];grind,He.out.big a5⟩
     go_wp2_with fail
     go_quiet (fail)
     go_wp2
     go_roundw
     case rel=>exact⟨_,_,_,rfl,rfl,by omega,by omega,by omega,by omega,by first|rfl|exact World.drewN_drewN _ _ _,Hs⟩
     case measure=>simp[intOf]<;>omega
    .have z0:1<=G:=by
      rcases kI 0 G with h4|h4;·exact h4
      .have:G=0:=by omega
       subst this;simp at b4;omega
     have Hs:Hid (R+v1=tt-(G-1)*v1/\val (us.drop j)<(G-1+1)*val V):=⟨by rw[HG.out.1];grind,He.out.test c7 HG.out.1 b4⟩
     have i2:decide (1000000000<=G)=false:=by simp;omega
     have g3: ¬((p:Int)<0):=by omega
     have j1:(p:Int)<(p:Int)+2:=by omega
     have g6: ¬((j:Int)+(p:Int)<0):=by omega
     have h9:(j:Int)+(p:Int)<(p:Int)+2+D+1+1:=by omega
     have c8:wo.cell? ⟨gu,j+(p+2)-2,none⟩=some (.int .u32 u2):=by rw[show j+(p+2)-2=j+p from by omega];exact m6
     go_wp2_with fail
     go_quiet (fail)
     clear i2 g3 j1 g6 h9 c8
     go_wp2
     go_roundw
     case rel=>exact⟨_,_,_,rfl,rfl,by omega,by omega,by omega,by omega,by first|rfl|exact World.drewN_drewN _ _ _,Hs⟩
     case measure=>simp[intOf]<;>omega
    focus
     have d4:R+v1=tt-(G-1)*v1:=by rw[HG.out.1];grind
     obtain⟨f4,g7⟩:=He.out.off (by omega) d4 b4
     have HF:Hid (val (us.drop j)<(G-1+1)*val V/\(G-1-1)*val V<=val (us.drop j)):=⟨He.out.big a5,He.out.done (by omega) f4 d4 g7⟩
     have g2:0<=G-1:=by omega
     clear g7 d4
     go_wp2_with fail
     go_quiet (fail)
     go_wp2_with fail
     clear c7 k6 HG m4 o3 a5 b4
     generalize G-1=F at*
    rotate_left
    focus
     have z0:1<=G:=by
      rcases kI 0 G with h4|h4;·exact h4
      .have:G=0:=by omega
       subst this;simp at b4;omega
     have d4:R+v1=tt-(G-1)*v1:=by rw[HG.out.1];grind
     obtain⟨f4,g7⟩:=He.out.off (by omega) d4 p0
     have HF:Hid (val (us.drop j)<(G-1+1)*val V/\(G-1-1)*val V<=val (us.drop j)):=⟨He.out.test c7 HG.out.1 b4,He.out.done (by omega) f4 d4 g7⟩
     have g2:0<=G-1:=by omega
     clear g7 d4
     have c8:wo.cell? ⟨gu,j+(p+2)-2,none⟩=some (.int .u32 u2):=by rw[show j+(p+2)-2=j+p from by omega];exact m6
     have i2:decide (1000000000<=G)=false:=by simp;omega
     have g3: ¬((p:Int)<0):=by omega
     have j1:(p:Int)<(p:Int)+2:=by omega
     have g6: ¬((j:Int)+(p:Int)<0):=by omega
     have h9:(j:Int)+(p:Int)<(p:Int)+2+D+1+1:=by omega
     go_wp2_with fail
     go_quiet (fail)
     go_wp2_with fail
     clear i2 g3 j1 g6 h9
     clear c7 k6 HG m4 o3 a5 b4 z0 p0 c8
     generalize G-1=F at*
    rotate_left
    focus
     have c8:wo.cell? ⟨gu,j+(p+2)-2,none⟩=some (.int .u32 u2):=by rw[show j+(p+2)-2=j+p from by omega];exact m6
     have HF:Hid (val (us.drop j)<(G+1)*val V/\(G-1)*val V<=val (us.drop j)):=⟨HG.out.2,He.out.done c7 a5 HG.out.1 b4⟩
     have g2:0<=G:=c7
     have f4:G<1000000000:=a5
     have i2:decide (1000000000<=G)=false:=by simp;omega
     have g3: ¬((p:Int)<0):=by omega
     have j1:(p:Int)<(p:Int)+2:=by omega
     have g6: ¬((j:Int)+(p:Int)<0):=by omega
     have h9:(j:Int)+(p:Int)<(p:Int)+2+D+1+1:=by omega
     go_wp2_with fail
     go_quiet (fail)
     go_wp2_with fail
     clear i2 g3 j1 g6 h9
     clear c7 k6 HG m4 o3 a5 b4 c8
     generalize G=F at*
    rotate_left
    all_goals
     have hUn:us.length=p+2+D+1+1:=H.out.un
     have k7: ∀b off,some (⟨gv,0,none⟩:Addr)=some ⟨b,off,none⟩->some b≠some gu:=by intro b off h;injection h with h;injection h with h _ _;subst h;simpa using x6
     have z7:(wo.drewN (q+nq)).ownsRow w.heap.size 255 1 (.slice (some ⟨gu,0,none⟩) (p+2+D+1+1) c3) (p+2+D+1+1) (us.map (Value.int .u32)):=hu
     have N2:(wo.drewN (q+nq)).ownsRow w.heap.size 255 1 (.slice (some ⟨gq,0,none⟩) (D+2) (D+2)) (D+2) (qs.map (Value.int .u32)):=hq
     have k9:Sl (wo.drewN (q+nq)) (some ⟨gv,0,none⟩) (p+2) cv V:=a9
     have g4:Below w.heap.size w (wo.drewN (q+nq)):=Below.drewN' h8 _
     refine(Lc w.heap.size gu (p+2+D+1+1) c3 j (c3-j) (p+2) cv (j+(p+2)+1-j) (some ⟨gv,0,none⟩) us V F (wo.drewN (q+nq)) z7 H.out.ul (by omega) (by omega) k9 k7 g2 f4 (by omega) (by omega)).mono ?_
     rintro e w6 ⟨A2,C6,rfl,j4,n4,B2,i8,x4,n0⟩
     have d6:Below w.heap.size w w6:=g4.grown n0 g4.size (by intro k hk;injection hk with hk;subst hk;exact m0)
     have g0:=k9.grown n0 k7
     have x8:=N2.kept n0 (.inr (by simp[Value.ownBlock];exact fun h=>e9 h.symm))
     have c5:=So H.out.ul H.out.un (show j+(p+2)<p+2+D+1+1 by omega) H.out.lt d2.out.2.2
     rw[c5.1] at i8
     obtain⟨o,ho⟩:=oM (show qs.length=D+2 by rw[H.out.qn];omega) (show j<D+2 by omega)
     have x7:=d6.size
     by_cases hC:0<C6
     .have Hd:decide (0<C6)=true:=by simpa using hC
      rw[Hd]
      clear Hd
      have S1:Lim (us.take j++A2++us.drop (j+(p+2+1))):=((H.out.ul.take j).append n4).append (H.out.ul.drop _)
      go_wp2_with fail
      refine(PT w.heap.size gu (p+2+D+1+1) c3 j (c3-j) (p+2) cv (j+(p+2)+1-j) (some ⟨gv,0,none⟩) _ V w6 x4 S1 (by omega) (by omega) g0 k7 (by omega) (by omega)).mono ?_
      rintro e w7 ⟨zs7,C7,rfl,y4,q5,q3,p2,r4,m3⟩
      rw[Tt (by omega) j4] at p2
      rw[PZ (by omega) j4] at r4
      obtain⟨k1,k2,k3⟩:=Yy n4 j4 q3 q5 i8 hC HF.out.2 He.out.u0 g2 d2.out.2.2 He.out.v0 p2
      have j2:Below w.heap.size w w7:=d6.grown m3 x7 (by intro k hk;injection hk with hk;subst hk;exact m0)
      have r6:=g0.grown m3 k7
      have P0:=x8.kept m3 (.inr (by simp[Value.ownBlock];exact fun h=>e9 h.symm))
      obtain⟨n3,C2,i1⟩:=o9 P0 ho
      have hK:=gX (H.out.step k8.out (show j+(p+2)<p+2+D+1+1 by omega) a9.2.2.2 q3 q5 k3 (by omega) k1 k2 c5.2.1)
      have a6:=i1 (F-1)
      have m5:=r4.kept a6.2 (.inr (by simp[Value.ownBlock];exact e9))
      have h7:=r6.grown a6.2 (by intro b off h;injection h with h;injection h with h _ _;subst h;simpa using l3)
      have d5:=j2.grown a6.2 j2.size (by intro k hk;injection hk with hk;subst hk;exact l4)
      clear i1 k1 k2 p2 i8
      go_wp2
      go_roundw
      case rel=>exact⟨j,_,_,by omega,by first|rfl|go_num,m5,a6.1,h7,d5,hK⟩
      case measure=>simp[intOf]<;>omega
     .have Hd:decide (0<C6)=false:=by simpa using hC
      rw[Hd]
      clear Hd
      obtain⟨k1,k2⟩:=XZ i8 B2 hC HF.out.1
      obtain⟨n3,C2,i1⟩:=o9 x8 ho
      have hK:=gX (H.out.step k8.out (show j+(p+2)<p+2+D+1+1 by omega) a9.2.2.2 n4 j4 g2 f4 k1 k2 c5.2.1)
      have a6:=i1 F
      have m5:=x4.kept a6.2 (.inr (by simp[Value.ownBlock];exact e9))
      have h7:=g0.grown a6.2 (by intro b off h;injection h with h;injection h with h _ _;subst h;simpa using l3)
      have d5:=d6.grown a6.2 x7 (by intro k hk;injection hk with hk;subst hk;exact l4)
      clear i1 k1 k2 i8
      go_wp2
      go_roundw
      case rel=>exact⟨j,_,_,by omega,by first|rfl|go_num,m5,a6.1,h7,d5,hK⟩
      case measure=>simp[intOf]<;>omega
end Go.Proofs.YtegeknjkgadehaaGreat
