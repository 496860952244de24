/-Layer 1:divide,the long division. -/
import Derived.Test.YtegpmhlfjkhjmaaGreatTaA
import Derived.Test.YtegpmhlfjkhjmaaGreatProg
namespace Go.Proofs.YtegpmhlfjkhjmaaGreat
open Go.RowKit
variable {S T y:Int}{V Y zs:List Int}{p:Nat}
theorem Ip {w:World}{base n:Nat}{e:TypeId}{v:Value}{xs:List Value}(h:w.ownsRow base e 1 v n xs) (hn:0<n): ∃g c,v=.slice (some ⟨g,0,none⟩) n c∧base≤g∧g<w.heap.size:=by
 rcases h.2 with⟨rfl,rfl⟩|⟨g,cap,cur,rfl,hb,hh,_⟩
 ·grind
 grind
theorem J3 (base g N cN k cs m d L:Nat) (B:Option Addr) (us ys:List Int) (by_:Int) (w:World) (hu:w.ownsRow base 194 1 (.slice (some ⟨g,0,none⟩) N cN) N (us.map (Value.int .u32))) (hul:Lim us)
 (hk:k+m+1≤N) (hN:N≤10000000000) (hb:Sl w B m d ys) (hne: ∀b off,B=some ⟨b,off,none⟩→some b≠some g) (h0:0≤by_) (h1:by_<1000000000) (hcs:m+1≤cs) (hL:L=m+1):
 Calls Tryz.prog 374 #[.slice (some ⟨g,k,none⟩) L cs,.slice B m d,.int .u64 by_] w fun e w'=> ∃zs C,e=.returned (.bool (decide (0<C)))∧JN w w' base g N cN k m us (val ((us.drop k).take (m+1))-by_*val ys) zs C:=by
 subst hL;exact FV base g N cN k cs m d B us ys by_ w hu hul hk hN hb hne h0 h1 hcs
theorem Ov (base g N cN k cs m d L:Nat) (B:Option Addr) (us ys:List Int) (w:World) (hu:w.ownsRow base 194 1 (.slice (some ⟨g,0,none⟩) N cN) N (us.map (Value.int .u32))) (hul:Lim us)
 (hk:k+m+1≤N) (hN:N≤10000000000) (hb:Sl w B m d ys) (hne: ∀b off,B=some ⟨b,off,none⟩→some b≠some g) (hcs:m+1≤cs) (hL:L=m+1):
 Calls Tryz.prog 375 #[.slice (some ⟨g,k,none⟩) L cs,.slice B m d] w fun e w'=> ∃zs C,e=.returned (.tuple #[])∧0≤C∧zs.length=m+1∧Lim zs∧val zs+pw (m+1)*C=val ((us.drop k).take (m+1))+val ys∧w'.ownsRow base 194 1 (.slice (some ⟨g,0,none⟩) N cN) N ((us.take k++zs++us.drop (k+(m+1))).map (Value.int .u32))∧w.grownBy w' (some g):=by
 subst hL;exact Ie base g N cN k cs m d B us ys w hu hul hk hN hb hne hcs
theorem M3 (lY:Lim Y) (nY:Nrm Y) (hl:Y.length=p+2) (hy:Y[p+1]? =some y) (hS:1000000000/(y+1)=S) (lV:Lim V) (nV:Nrm V) (hV:val V=val Y*S):
 V.length=p+2∧1≤S∧S<1000000000∧1≤y∧pw (p+1)≤val V∧val V<pw (p+2):=by
 have hy0:=lY.at_ hy
 have h1:=nY.ge lY (by intro e;subst e;simp at hl)
 rw[hl,show p+2-1=p+1 from rfl] at h1
 have e1:val Y=val (Y.take (p+1))+pw (p+1)*y:=by
  have e2:val Y=val (Y.take (p+2)):=by rw[de (by omega)]
  rw[e2,bm hy]
 have h2:=fR (lY.take (p+1))
 have h3:=cS (lY.take (p+1))
 rw[gX,q5 (by omega)] at h2
 have hp:=cU (p+1)
 have hy1:1≤y:=by
  rcases nj 0 y with h4|h4
  ·exact h4
  ·have:y=0:=by omega
   subst this;simp at e1;omega
 have e3:=yc 1000000000 (y+1)
 have e4:=oJ 1000000000 (show 0<y+1 by omega)
 have e5:=po 1000000000 (show y+1≠0 by omega)
 rw[hS] at e3
 have hS1:1≤S:=by
  rcases nj 0 S with h4|h4
  ·exact h4
  ·have:=ez (a:=y+1) (b:=S) (c:=0) (by omega) (by omega)
   omega
 have hS2:S<1000000000:=by
  have:=yT (c:=S) (show 2≤y+1 by omega) (by omega)
  omega
 have h5:val V<pw (p+2):=by
  have a1:val Y*S<pw (p+1)*(y+1)*S:=by
   refine Int.mul_lt_mul_of_pos_right ?_ (by omega)
   rw[Int.mul_add];omega
  have a2:pw (p+1)*((y+1)*S)≤pw (p+1)*1000000000:=ez (by omega) (by omega)
  have a3:pw (p+2)=1000000000*pw (p+1):=dT (p+1)
  rw[Int.mul_assoc] at a1
  rw[hV,a3];omega
 have h6:pw (p+1)≤val V:=by
  have:=ez (a:=val Y) hS1 (by omega)
  grind
 have h7:=nV.len lV h5
 have h8:p+1<V.length:=by
  have:=fR lV
  exact Ql (by omega)
 grind
theorem Ng (lY:Lim Y) (nY:Nrm Y) (hl:Y.length=p+2) (hy:Y[p+1]? =some y) (hS:1000000000/(y+1)=S):1≤S∧S<1000000000∧1≤y:=by
 have hy0:=lY.at_ hy
 have h1:=nY.ge lY (by intro e;subst e;simp at hl)
 have e1:val Y=val (Y.take (p+1))+pw (p+1)*y:=by
  have e2:val Y=val (Y.take (p+2)):=by grind
  rw[e2,bm hy]
 have h2:=fR (lY.take (p+1))
 have hy1:1≤y:=by grind
 have e3:=yc 1000000000 (y+1)
 have e4:=oJ 1000000000 (show 0<y+1 by omega)
 have e5:=po 1000000000 (show y+1≠0 by omega)
 rw[hS] at e3
 have hS1:1≤S:=by
  rcases nj 0 S with h4|h4
  ·grind
  ·have:=ez (a:=y+1) (b:=S) (c:=0) (by omega) (by omega)
   omega
 have hS2:S<1000000000:=by
  have:=yT (c:=S) (show 2≤y+1 by omega) (by omega)
  omega
 grind
theorem Kd.start {k:Nat}(lz:Lim zs) (hz:zs.length=k+1) (hT:val zs=T) (hV:pw (p+1)≤val V) (hkp:p+2≤k):Kd (zs++[0]) (List.replicate (k+2-(p+2)) 0) V T (k+2) (p+2) (k+2-(p+2)):=by
 refine⟨lz.snoc (by omega) (by omega),by simp[hz],Lim.zeros _,by simp,?_,?_⟩
 ·rw[GU (by omega),qt]
  have:=fR (lz.drop (k+2-(p+2)))
  grind
 ·rw[qI (by simp),qt,hT];simp[val]
set_option maxHeartbeats 8000000 in
set_option maxRecDepth 10000 in
theorem Jk (A B:Option Addr) (n c m d p:Nat) (xs ys:List Int) (w:World) (ha:Sl w A n c xs) (hb:Sl w B m d ys) (hn:n≤100000000) (hm:m≤100000000) (h1:(trm ys).length=p+2) (hge:val ys≤val xs):
 Calls Tryz.prog 348 #[.slice A n c,.slice B m d] w (D2 w (val xs/val ys) (val xs%val ys)):=by
 obtain⟨X,hX⟩: ∃X,trm xs=X:=⟨_,rfl⟩
 obtain⟨Y,hY⟩: ∃Y,trm ys=Y:=⟨_,rfl⟩
 obtain⟨k,hk⟩: ∃k,X.length=k:=⟨_,rfl⟩
 have ta:=ha.trm
 have tb:=hb.trm
 have nb:=uz ys
 have hva:=ja xs
 have hvb:=ja ys
 rw[hX] at ta hva
 rw[hY] at tb h1 hvb nb
 have hkn:k≤n:=by have:=uo xs;rw[hX,hk,ha.len] at this;exact this
 have hpm:p+2≤m:=by have:=uo ys;rw[hY,h1,hb.len] at this;exact this
 rw[hk] at ta
 rw[h1] at tb
 rw[←hva,←hvb] at hge
 rw[←hva,←hvb]
 have hkp:p+2≤k:=by
  have h3:=nb.ge tb.2.2.2 (by intro e;subst e;simp at h1)
  have h4:=fR ta.2.2.2
  have:=Ql (show pw (Y.length-1)<pw X.length by omega)
  omega
 obtain⟨t,ht⟩: ∃t,fk (val X) (val Y)=t:=⟨_,rfl⟩
 have ht0:0≤t:=by rw[←ht];unfold fk;rw[if_neg (by omega)];split<;>omega
 have HX:=ix hX
 have HY:=ix hY
 have Hk:=ix hk
 have Hl:=ix h1
 have Hc:=ix ht
 obtain⟨b1,o1,y,e1,hb1,hy,hc1,hy0,hy1⟩:=tb.at_ (show p+1<p+2 by omega)
 obtain⟨S,hS⟩: ∃S,1000000000/(y+1)=S:=⟨_,rfl⟩
 have Hsc:Hid (∀V,Lim V→Nrm V→val V=val Y*S→V.length=p+2∧1≤S∧S<1000000000∧1≤y∧pw (p+1)≤val V∧val V<pw (p+2)):=fun V lV nV hV=>M3 tb.2.2.2 nb Hl.out hy.out hS lV nV hV
 obtain⟨hS0,hS1,hy2⟩:=Ng tb.2.2.2 nb Hl.out hy.out hS
 clear hX hY hk h1 ht hva hvb nb hge
 subst e1
 go_enter Tryz.func348,Tryz.ntmps348
 go_wp2_with fail
 refine(ns A n c k xs X w ha HX Hk).mono ?_
 rintro e w1 ⟨rfl,rfl⟩
 go_wp2_with fail
 refine(ns _ m d (p+2) ys Y w hb HY Hl).mono ?_
 rintro e w1 ⟨rfl,rfl⟩
 go_wp2_with fail
 refine(oI A _ k c (p+2) d X Y w ta tb).mono ?_
 rintro e w1 ⟨rfl,hbel1⟩
 rw[Hc.out]
 replace hc1:=NU hbel1 hc1
 obtain⟨i0,hi0,hz0,hz1,hz2⟩:=info_parts oH
 have lS:Lim [S]:=Lim.nil.cons (by omega) hS1
 have hlit: ∀w0:World,Sl (w0.alloc (.cells #[.int .u32 S] 194)) (some ⟨w0.heap.size,0,none⟩) 1 1 [S]:=fun w0=>⟨RdI.lit w0 194 .u32 [S] _ _ 1 rfl rfl rfl,ck _,by omega,lS⟩
 have vS:val [S]=S:=by simp[val]
 go_wp2_with fail
 refine(Bg A (some ⟨w1.heap.size,0,none⟩) k c 1 1 X [S] _ ((ta.below hbel1).below ((fJ _ _).alloc (ck _) _)) (hlit w1) (by omega) (by omega)).mono ?_
 rintro e w2 ⟨Au,cu,zs,rfl,hown2,hval2,hbel2⟩
 rw[vS] at hval2
 replace hbel2:=(hbel1.alloc hbel1.size _).trans (hbel2.mono (by have:=hbel1.size;simp;omega))
 replace hown2:=hown2.le (b:=w.heap.size) (by have:=hbel1.size;simp;omega)
 have hz2':=hbel2.size
 go_wp2_with (at_builtin;go_must (refine wpList_append_own _ rfl _ _ 34 rfl w.heap.size 194 i0 (.int .u32 0) 1 4 pi hi0 hz0 hz1 hz2 rfl (by decide) _ _ _ rfl (hown2.1.alloc _) ⟨w2.heap.size,0,none⟩ 1 1 [.int .u32 0] rfl rfl (cell_one_new _ _ _) (by simp[Value.oneCell']) (by unfold maxLen;omega) (by omega) (by simp;omega) ?_);intro v3 w3 hown3 hgrow3 _)
 have hbel3:=jy hown2.1 hbel2 hz2' hgrow3
 have hz3:=hbel3.size
 obtain⟨gu,cu',rfl,hgu0,hgu⟩:=Ip hown3 (by omega)
 have e3:zs.map (Value.int .u32)++[.int .u32 0]=(zs++[0]).map (Value.int .u32):=by simp
 rw[e3] at hown3
 have lz:zs.length=k+1:=hown2.len
 have Hz:Hid (Lim zs∧zs.length=k+1∧val zs=val X*S):=⟨hown2.2,lz,hval2⟩
 clear hown2 hgrow3 hval2 e3 lz hbel2 hz2'
 go_wp2_with fail
 refine(Bg (some ⟨b1,o1,none⟩) (some ⟨w3.heap.size,0,none⟩) (p+2) d 1 1 Y [S] _ ((tb.below hbel3).below ((fJ _ _).alloc (ck _) _)) (hlit w3) (by omega) (by omega)).mono ?_
 rintro e w4 ⟨Av,cv,zv,rfl,hown4,hval4,hbel4⟩
 rw[vS] at hval4
 have hz4:=hbel4.size
 simp only[World.size_alloc] at hz4
 obtain⟨gv,cv',e4,hgv0,hgv⟩:=Ip hown4.1 (by omega)
 injection e4 with e4 _ e4'
 subst e4 e4'
 obtain⟨V,hV⟩: ∃V,trm zv=V:=⟨_,rfl⟩
 have slv:=hown4.sl.trm
 rw[hV] at slv
 obtain⟨hVl,_,_,_,hV1,hV2⟩:=Hsc.out V (by rw[←hV];exact hown4.2.trm) (by rw[←hV];exact uz _) (by rw[←hV,ja];exact hval4)
 rw[hVl] at slv
 have slzv:=hown4.sl
 have HV:Hid (trm zv=V):=hV
 have HVl:Hid (V.length=p+2):=hVl
 have HVv:Hid (val V=val Y*S∧pw (p+1)≤val V∧val V<pw (p+2)):=⟨by rw[←hV,ja];exact hval4,hV1,hV2⟩
 have hguv:gv≠gu:=by have:=hgv0;simp at this;omega
 replace hbel4:=((fJ w3.heap.size w3).alloc (ck _) (.cells #[.int .u32 S] 194)).trans (hbel4.mono (by simp))
 replace hown3:=AP hown3 hbel4
 replace hbel3:=hbel3.trans (hbel4.mono hz3)
 replace hgu:gu<w4.heap.size:=by omega
 have hz4':w.heap.size≤w4.heap.size:=hbel3.size
 clear hV hVl hV1 hV2 hown4 hval4 hz4 hgv0 Hsc hbel4
 obtain⟨D,hD⟩: ∃D,k=p+2+D:=⟨k-(p+2),by omega⟩
 subst hD
 go_wp2_with fail
 refine(ns _ _ _ (p+2) zv V w4 slzv HV HVl).mono ?_
 rintro e w5 ⟨rfl,rfl⟩
 go_wp2_with (at_make;go_must (refine wpList_make_full _ rfl _ _ 34 rfl w.heap.size 194 i0 (.int .u32 0) 1 pi hi0 hz0 hz1 _ _ _ _ (D+2) rfl rfl (by omega) (by omega) (by rw[hz2];omega) (by unfold maxLen;omega) hz4' ?_);intro w5 hown5 hgrow5)
 rw[ua] at hown5
 have hb45:Below w4.heap.size w4 w5:=(fJ _ _).grown hgrow5 (ck _) (by simp)
 replace hown3:=AP hown3 hb45
 replace slv:=slv.below hb45
 replace hbel3:=hbel3.trans (hb45.mono hz4')
 have hguq:gu≠w4.heap.size:=by omega
 have hgvq:gv≠w4.heap.size:=by omega
 have hgq0:w.heap.size≤w4.heap.size:=hz4'
 clear hgrow5 hb45 hgu hgv hz4' hbel1 hc1 hz3 slzv hlit tb ha hb lS
 have HXl:Hid (Lim X):=ta.2.2.2
 clear ta
 generalize w4.heap.size=gq at*
 have Hst:Hid (Kd (zs++[0]) (List.replicate (D+2) 0) V (val X*S) (p+2+D+1+1) (p+2) (D+2)):=by
  have h:=Kd.start Hz.out.1 Hz.out.2.1 Hz.out.2.2 HVv.out.2.1 (show p+2≤p+2+D by omega)
  rwa [show p+2+D+2-(p+2)=D+2 from by omega] at h
 clear Hz
 go_loopw [11] (fun i wr=> ∃(j:Nat) (us qs:List Int),j≤D+2∧i=.int .i64 ((j:Int)-1)∧wr.ownsRow w.heap.size 194 1 (.slice (some ⟨gu,0,none⟩) (p+2+D+1+1) cu') (p+2+D+1+1) (us.map (Value.int .u32))∧wr.ownsRow w.heap.size 194 1 (.slice (some ⟨gq,0,none⟩) (D+2) (D+2)) (D+2) (qs.map (Value.int .u32))∧Sl wr (some ⟨gv,0,none⟩) (p+2) cv V∧Below w.heap.size w wr∧Hid (Kd us qs V (val X*S) (p+2+D+1+1) (p+2) j))
  (fun i _=>(intOf i+1).toNat)
 case atStart=>exact⟨D+2,_,_,ck _,by first|rfl|go_num,hown3,hown5,slv,hbel3,Hst⟩
 case round=>
  clear hown3 hown5 slv hbel3 Hst
  obtain⟨j,us,qs,hj,rfl,hu,hq,slv,hbel,H⟩:=hrel
  have hz:=hbel.size
  have hcu:p+2+D+1+1≤cu':=(show Ow wr w.heap.size (.slice (some ⟨gu,0,none⟩) (p+2+D+1+1) cu') (p+2+D+1+1) us from⟨hu,H.out.ul⟩).sl.2.1
  rcases li j with hj0|hj0
  ·subst hj0
   have so:=(show Ow wr w.heap.size (.slice (some ⟨gu,0,none⟩) (p+2+D+1+1) cu') (p+2+D+1+1) us from⟨hu,H.out.ul⟩).sl
   obtain⟨hfq,hfr⟩:=H.out.fin HVv.out.1 hS0 (by have:=HVv.out.2.1;have:=cU (p+1);omega) HXl.out
   have hvu:val (us.take (p+2))=val us:=vF H.out.ul (by have h1:=H.out.lt;have h2:=HVv.out.2.2;simp only[wC] at h1;omega)
   have sot:=so.take (p+2) cu' (by omega) (by omega) so.2.2.1
   obtain⟨W,hW⟩: ∃W,trm (us.take (p+2))=W:=⟨_,rfl⟩
   obtain⟨lw,hlw⟩: ∃l,W.length=l:=⟨_,rfl⟩
   have sow:=sot.trm
   have hvW:val W=val us:=by rw[←hW,ja,hvu]
   have hlwp:lw≤p+2:=by rw[←hlw,←hW];have:=uo (us.take (p+2));rw[sot.len] at this;exact this
   rw[hW,hlw] at sow
   have HW:=ix hW
   have Hlw:=ix hlw
   have Hfin:Hid (Lim qs∧val qs=val X/val Y∧val W/S=val X%val Y):=⟨H.out.ql,hfq,by rw[hvW];exact hfr⟩
   clear hW hlw hfq hfr hvu hvW so H
   go_wp2_with fail
   refine(ns _ _ _ lw (us.take (p+2)) W wr sot HW Hlw).mono ?_
   rintro e w6 ⟨rfl,rfl⟩
   go_wp2_with fail
   refine(DP _ lw _ W S _ sow (by omega) (by omega) hS1).mono ?_
   rintro e w7 ⟨A1,n1,c1,zs1,B1,m1,d1,rs,rfl,h2,h3,h4,h5,h6⟩
   go_wp2
   go_ret2
   exact⟨_,_,_,qs,A1,n1,c1,zs1,rfl,⟨AP hq h6,Hfin.out.1⟩,Hfin.out.2.1,h2.le hz,h3.trans Hfin.out.2.2,hbel.trans (h6.mono hz)⟩
  ·obtain⟨j,rfl⟩: ∃i,j=i+1:=⟨j-1,by omega⟩
   have ej:((j+1:Nat):Int)-1=(j:Int):=by omega
   rw[ej]
   clear ej
   obtain⟨u0,hu0⟩:=pu H.out.un (show j+(p+2)<p+2+D+1+1 by omega)
   obtain⟨u1,hu1⟩:=pu H.out.un (show j+(p+1)<p+2+D+1+1 by omega)
   obtain⟨u2,hu2⟩:=pu H.out.un (show j+p<p+2+D+1+1 by omega)
   obtain⟨cu0,_,_⟩:=qj hu hu0
   obtain⟨cu1,_,_⟩:=qj hu hu1
   obtain⟨cu2,_,_⟩:=qj hu hu2
   have bu0:=H.out.ul.at_ hu0
   have bu1:=H.out.ul.at_ hu1
   have bu2:=H.out.ul.at_ hu2
   obtain⟨_,_,v1,ev1,hbv,hv1,Nz,bv10,bv11⟩:=slv.at_ (show p+1<p+2 by omega)
   injection ev1 with ev1
   injection ev1 with ev1 ev2 _
   subst ev1 ev2
   obtain⟨_,_,v2,ev1,_,hv2,cv2,bv20,bv21⟩:=slv.at_ (show p<p+2 by omega)
   injection ev1 with ev1
   injection ev1 with ev1 ev2 _
   subst ev1 ev2
   rw[iV] at Nz cv2
   obtain⟨wo,hwo⟩: ∃wo,wo=wr:=⟨_,rfl⟩
   subst hwo
   obtain⟨tt,htt⟩: ∃tt,u0*1000000000+u1=tt:=⟨_,rfl⟩
   have He:Hid (Est (pw p) (val (us.drop j)) (val V) tt u2 v1 v2):=by
    have hseg:=P5 (n:=p+2) H.out.ul H.out.un (show j+(p+2)<p+2+D+1+1 by omega) H.out.lt HVv.out.2.2
    have h3:=adU (H.out.ul.drop j) (qk hu2) (qk hu1) (qk hu0)
    have h2:=ad9 slv.2.2.2 hv2.out hv1.out HVl.out
    rw[htt] at h3
    rw[hseg.1] at h3
    have hv1':1≤v1:=by
     rcases nj 0 v1 with h4|h4
     ·exact h4
     ·obtain⟨s,s0,s1,e⟩:=h2
      have:v1=0:=by omega
      subst this
      have h5:=HVv.out.2.1
      have e5:pw (p+1)=1000000000*pw p:=dT p
      have:=ez (a:=pw p) (show 0*1000000000+v2≤999999999 by omega) (by have:=cU p;omega)
      omega
    exact⟨cU p,h3,h2,by omega,bu2.1,bu2.2,hv1',bv20,bv21,hseg.2.2⟩
   have hv1p:1≤v1:=He.out.v10
   have htop:=He.out.top
   have htt0:=He.out.t0
   obtain⟨hg1,hg0⟩:=He.out.small
   have hr0:0≤tt%v1:=po _ (by omega)
   have hr1:tt%v1<v1:=oJ _ (by omega)
   have Hst:Hid (tt%v1=tt-tt/v1*v1∧val (us.drop j)<(tt/v1+1)*val V):=by
    refine⟨?_,He.out.first⟩
    have:=yc tt v1
    have:=rA v1 (tt/v1)
    omega
   have Hu:=ix (And.intro hu0 (And.intro hu1 hu2))
   clear hu0 hu1 hu2
   go_wp2_with fail
   go_quiet (fail)
   go_wp2_with fail
   go_quiet (fail)
   go_wp2_with fail
   try rw[show j+(p+2)-1=j+(p+1) from by omega]
   try simp only[show p+2-1=p+1 from rfl]
   go_loopw [13,14] (fun g r wr=> ∃(G R:Int) (q:Nat),g=.int .u64 G∧r=.int .u64 R∧0≤G∧G≤2000000000∧0≤R∧R<1000000000∧wr=wo.drewN q∧Hid (R=tt-G*v1∧val (us.drop j)<(G+1)*val V))
    (fun g _ _=>(intOf g).toNat)
   case atStart=>exact⟨_,_,_,rfl,rfl,hg0,hg1,hr0,by omega,by first|rfl|exact World.drewN_drewN _ _ _,Hst⟩
   case round=>
    clear hg0 hg1 hr0 hr1 Hst
    obtain⟨G,R,q,rfl,rfl,hG0,hG1,hR0,hR1,rfl,HG⟩:=hrel
    have hp0:0≤G*v2:=fU hG0 bv20
    have hp1:G*v2≤2000000000*999999999:=qS hG1 (by omega) bv20 (by omega)
    have hcase:(1000000000≤G∧R+v1<1000000000)∨(G<1000000000∧R*1000000000+u2<G*v2∧R+v1<1000000000)∨(1000000000≤G∧1000000000≤R+v1)∨(G<1000000000∧R*1000000000+u2<G*v2∧1000000000≤R+v1)∨(G<1000000000∧G*v2≤R*1000000000+u2):=by omega
    rcases hcase with⟨hc1,hc2⟩|⟨hc1,hc2,hc3⟩|⟨hc1,hc2⟩|⟨hc1,hc2,hc3⟩|⟨hc1,hc2⟩
    ·have Hs:Hid (R+v1=tt-(G-1)*v1∧val (us.drop j)<(G-1+1)*val V):=⟨by rw[HG.out.1];grind,He.out.big hc1⟩
     go_wp2_with fail
     go_quiet (fail)
     go_wp2
     go_roundw
     case rel=>exact⟨_,_,_,rfl,rfl,by omega,by omega,by omega,by omega,by first|rfl|exact World.drewN_drewN _ _ _,Hs⟩
     case measure=>simp[intOf]<;>omega
    ·have hGp:1≤G:=by
      rcases nj 0 G with h4|h4
      ·exact h4
      ·have:G=0:=by omega
       subst this;simp at hc2;omega
     have Hs:Hid (R+v1=tt-(G-1)*v1∧val (us.drop j)<(G-1+1)*val V):=⟨by rw[HG.out.1];grind,He.out.test hG0 HG.out.1 hc2⟩
     have hgd:decide (1000000000≤G)=false:=by simp;omega
     have hi1: ¬((p:Int)<0):=by omega
     have hi2:(p:Int)<(p:Int)+2:=by omega
     have hi3: ¬((j:Int)+(p:Int)<0):=by omega
     have hi4:(j:Int)+(p:Int)<(p:Int)+2+D+1+1:=by omega
     have cu2':wo.cell? ⟨gu,j+(p+2)-2,none⟩=some (.int .u32 u2):=by rw[show j+(p+2)-2=j+p from by omega];exact cu2
     go_wp2_with fail
     go_quiet (fail)
     clear hgd hi1 hi2 hi3 hi4 cu2'
     go_wp2
     go_roundw
     case rel=>exact⟨_,_,_,rfl,rfl,by omega,by omega,by omega,by omega,by first|rfl|exact World.drewN_drewN _ _ _,Hs⟩
     case measure=>simp[intOf]<;>omega
    focus
     have hR2:R+v1=tt-(G-1)*v1:=by rw[HG.out.1];grind
     obtain⟨hF1,hF2⟩:=He.out.off (G:=G-1) (by omega) hR2 hc2
     have HF:Hid (val (us.drop j)<(G-1+1)*val V∧(G-1-1)*val V≤val (us.drop j)):=⟨He.out.big hc1,He.out.done (by omega) hF1 hR2 hF2⟩
     have hF0:0≤G-1:=by omega
     clear hF2 hR2
     go_wp2_with fail
     go_quiet (fail)
     go_wp2_with fail
     clear hG0 hG1 HG hp0 hp1 hc1 hc2
     generalize G-1=F at*
    rotate_left
    focus
     have hGp:1≤G:=by
      rcases nj 0 G with h4|h4
      ·exact h4
      ·have:G=0:=by omega
       subst this;simp at hc2;omega
     have hR2:R+v1=tt-(G-1)*v1:=by rw[HG.out.1];grind
     obtain⟨hF1,hF2⟩:=He.out.off (G:=G-1) (by omega) hR2 hc3
     have HF:Hid (val (us.drop j)<(G-1+1)*val V∧(G-1-1)*val V≤val (us.drop j)):=⟨He.out.test hG0 HG.out.1 hc2,He.out.done (by omega) hF1 hR2 hF2⟩
     have hF0:0≤G-1:=by omega
     clear hF2 hR2
     have cu2':wo.cell? ⟨gu,j+(p+2)-2,none⟩=some (.int .u32 u2):=by rw[show j+(p+2)-2=j+p from by omega];exact cu2
     have hgd:decide (1000000000≤G)=false:=by simp;omega
     have hi1: ¬((p:Int)<0):=by omega
     have hi2:(p:Int)<(p:Int)+2:=by omega
     have hi3: ¬((j:Int)+(p:Int)<0):=by omega
     have hi4:(j:Int)+(p:Int)<(p:Int)+2+D+1+1:=by omega
     go_wp2_with fail
     go_quiet (fail)
     go_wp2_with fail
     clear hgd hi1 hi2 hi3 hi4
     clear hG0 hG1 HG hp0 hp1 hc1 hc2 hGp hc3 cu2'
     generalize G-1=F at*
    rotate_left
    focus
     have cu2':wo.cell? ⟨gu,j+(p+2)-2,none⟩=some (.int .u32 u2):=by rw[show j+(p+2)-2=j+p from by omega];exact cu2
     have HF:Hid (val (us.drop j)<(G+1)*val V∧(G-1)*val V≤val (us.drop j)):=⟨HG.out.2,He.out.done hG0 hc1 HG.out.1 hc2⟩
     have hF0:0≤G:=hG0
     have hF1:G<1000000000:=hc1
     have hgd:decide (1000000000≤G)=false:=by simp;omega
     have hi1: ¬((p:Int)<0):=by omega
     have hi2:(p:Int)<(p:Int)+2:=by omega
     have hi3: ¬((j:Int)+(p:Int)<0):=by omega
     have hi4:(j:Int)+(p:Int)<(p:Int)+2+D+1+1:=by omega
     go_wp2_with fail
     go_quiet (fail)
     go_wp2_with fail
     clear hgd hi1 hi2 hi3 hi4
     clear hG0 hG1 HG hp0 hp1 hc1 hc2 cu2'
     generalize G=F at*
    rotate_left
    all_goals
     have hUn:us.length=p+2+D+1+1:=H.out.un
     have hne: ∀b off,some (⟨gv,0,none⟩:Addr)=some ⟨b,off,none⟩→some b≠some gu:=by
      intro b off h
      injection h with h
      injection h with h _ _
      subst h
      simpa using hguv
     have hu':(wo.drewN (q+nq)).ownsRow w.heap.size 194 1 (.slice (some ⟨gu,0,none⟩) (p+2+D+1+1) cu') (p+2+D+1+1) (us.map (Value.int .u32)):=hu
     have hq':(wo.drewN (q+nq)).ownsRow w.heap.size 194 1 (.slice (some ⟨gq,0,none⟩) (D+2) (D+2)) (D+2) (qs.map (Value.int .u32)):=hq
     have slv':Sl (wo.drewN (q+nq)) (some ⟨gv,0,none⟩) (p+2) cv V:=slv
     have hbel':Below w.heap.size w (wo.drewN (q+nq)):=Below.drewN' hbel _
     refine(J3 w.heap.size gu (p+2+D+1+1) cu' j (cu'-j) (p+2) cv (j+(p+2)+1-j) (some ⟨gv,0,none⟩) us V F (wo.drewN (q+nq)) hu' H.out.ul (by omega) (by omega) slv' hne hF0 hF1 (by omega) (by omega)).mono ?_
     rintro e w6 ⟨zs6,C6,rfl,hs1,hs2,hs3,hs4,hs5,hs6⟩
     have hbel6:Below w.heap.size w w6:=hbel'.grown hs6 hbel'.size (by intro k hk;injection hk with hk;subst hk;exact hgu0)
     have slv6:=slv'.grown hs6 hne
     have hq6:=hq'.kept hs6 (.inr (by simp[Value.ownBlock];exact fun h=>hguq h.symm))
     have hseg:=P5 (n:=p+2) H.out.ul H.out.un (show j+(p+2)<p+2+D+1+1 by omega) H.out.lt HVv.out.2.2
     rw[hseg.1] at hs4
     obtain⟨o,ho⟩:=pu (show qs.length=D+2 by rw[H.out.qn];omega) (show j<D+2 by omega)
     have hz6:=hbel6.size
     by_cases hC:0<C6
     ·have Hd:decide (0<C6)=true:=by simpa using hC
      rw[Hd]
      clear Hd
      have hl6:Lim (us.take j++zs6++us.drop (j+(p+2+1))):=((H.out.ul.take j).append hs2).append (H.out.ul.drop _)
      go_wp2_with fail
      refine(Ov w.heap.size gu (p+2+D+1+1) cu' j (cu'-j) (p+2) cv (j+(p+2)+1-j) (some ⟨gv,0,none⟩) _ V w6 hs5 hl6 (by omega) (by omega) slv6 hne (by omega) (by omega)).mono ?_
      rintro e w7 ⟨zs7,C7,rfl,hr1,hr2,hr3,hr4,hr5,hr6⟩
      rw[Si (by omega) hs1] at hr4
      rw[NI (by omega) hs1] at hr5
      obtain⟨k1,k2,k3⟩:=UU hs2 hs1 hr3 hr2 hs4 hC HF.out.2 He.out.u0 hF0 HVv.out.2.2 He.out.v0 hr4
      have hbel7:Below w.heap.size w w7:=hbel6.grown hr6 hz6 (by intro k hk;injection hk with hk;subst hk;exact hgu0)
      have slv7:=slv6.grown hr6 hne
      have hq7:=hq6.kept hr6 (.inr (by simp[Value.ownBlock];exact fun h=>hguq h.symm))
      obtain⟨hcell,hfz,hst⟩:=qj hq7 ho
      have hK:=ix (H.out.step HVl.out (show j+(p+2)<p+2+D+1+1 by omega) slv.2.2.2 hr3 hr2 k3 (by omega) k1 k2 hseg.2.1)
      have hst1:=hst (F-1)
      have hu7:=hr5.kept hst1.2 (.inr (by simp[Value.ownBlock];exact hguq))
      have slv8:=slv7.grown hst1.2 (by intro b off h;injection h with h;injection h with h _ _;subst h;simpa using hgvq)
      have hbel8:=hbel7.grown hst1.2 hbel7.size (by intro k hk;injection hk with hk;subst hk;exact hgq0)
      clear hst k1 k2 hr4 hs4
      go_wp2
      go_roundw
      case rel=>exact⟨j,_,_,by omega,by first|rfl|go_num,hu7,hst1.1,slv8,hbel8,hK⟩
      case measure=>simp[intOf]<;>omega
     ·have Hd:decide (0<C6)=false:=by simpa using hC
      rw[Hd]
      clear Hd
      obtain⟨k1,k2⟩:=VW hs4 hs3 hC HF.out.1
      obtain⟨hcell,hfz,hst⟩:=qj hq6 ho
      have hK:=ix (H.out.step HVl.out (show j+(p+2)<p+2+D+1+1 by omega) slv.2.2.2 hs2 hs1 hF0 hF1 k1 k2 hseg.2.1)
      have hst1:=hst F
      have hu7:=hs5.kept hst1.2 (.inr (by simp[Value.ownBlock];exact hguq))
      have slv8:=slv6.grown hst1.2 (by intro b off h;injection h with h;injection h with h _ _;subst h;simpa using hgvq)
      have hbel8:=hbel6.grown hst1.2 hz6 (by intro k hk;injection hk with hk;subst hk;exact hgq0)
      clear hst k1 k2 hs4
      go_wp2
      go_roundw
      case rel=>exact⟨j,_,_,by omega,by first|rfl|go_num,hu7,hst1.1,slv8,hbel8,hK⟩
      case measure=>simp[intOf]<;>omega
end Go.Proofs.YtegpmhlfjkhjmaaGreat
