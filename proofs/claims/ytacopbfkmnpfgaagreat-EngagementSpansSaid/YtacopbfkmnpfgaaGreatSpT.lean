/-A run on known values:append,whole. -/
import Derived.Test.YtacopbfkmnpfgaaGreatSpS
namespace Go.Proofs.YtacopbfkmnpfgaaGreat
open Go Go.RowKit
section
variable {P:Program}{ops:Array Oper}{o:Oper}{TT:TX}{m N:Nat}{L:LX}{T:Tr XV}{H:Tr Bx}{x:XV}
variable {N':Nat}{H':Tr Bx}{g:Lg}{call:eC}
variable {dst:Option Nat}{ty:TypeId}{pos:String}{af:Array Edge}{gd:Option (Nat×Bool)}
theorem yg {U e:TypeId}{i:TypeInfo}(hu:P.underlying U=some (.slice e)) (hi:P.info? e=some i) {w:World}{bl off n c q:Nat}{v:Value}{news:List Value}{vs:Array Value}(hsrc:Src P i.size U v q news w)
 (ev:w.heap[bl]? =some (.cells vs e (0,0))) (hroom:n+q≤c) (hfit:off+c*i.size≤vs.size):
 (Builtin.append_ #[U,U] ty #[.slice (some ⟨bl,off,none⟩) n c,v]).run P w=.ok (.slice (some ⟨bl,off,none⟩) (n+q) c) (w.setRow bl (vs.toList.take (off+n*i.size)++news++vs.toList.drop (off+n*i.size+news.length)).toArray):=by
 have hnl:news.length=q*i.size:=hsrc.newsLen
 have hfit2:off+n*i.size+0+news.length≤vs.size:=by
  rw[hnl]
  have:=Nat.mul_le_mul_right i.size hroom
  rw[Nat.add_mul] at this;omega
 have hst:=run_storeCells_at P bl (off+n*i.size) e news 0 vs w ev hfit2 hsrc.one
 simp only[Nat.add_zero] at hst
 have ha:(⟨bl,off,none⟩:Addr).add (n*i.size)=⟨bl,off+n*i.size,none⟩:=dO _ _ _
 rcases hsrc.kind with⟨e',hk⟩|hk<;>simp[Builtin.append_,run_underlying hu,sizeOf,typeInfo,hi,hsrc.len,hroom,hsrc.cells,ha,hst]
theorem wx {U e:TypeId}{i:TypeInfo}(hu:P.underlying U=some (.slice e)) (hi:P.info? e=some i) {w:World}{b:Option Addr}{n c:Nat}{v:Value}(hsrc:Src P i.size U v 0 [] w) (hroom:n≤c):
 (Builtin.append_ #[U,U] ty #[.slice b n c,v]).run P w=.ok (.slice b n c) w:=by
 rcases hsrc.kind with⟨e',hk⟩|hk<;>cases b<;>simp[Builtin.append_,run_underlying hu,sizeOf,typeInfo,hi,hsrc.len,hroom,hsrc.cells,storeCells]
theorem sV {w:World}{bl off n c sz:Nat}{U:TypeId}{vs:Array Value}(ev:w.heap[bl]? =some (.cells vs U (0,0))) (hle:off+n*sz≤vs.size):
 (Builtin.firstCells sz n (.slice (some ⟨bl,off,none⟩) n c)).run P w.drew=.ok ((vs.toList.drop off).take (n*sz)).toArray w.drew:=by
 have:=run_loadCells_list (P:=P) w.drew ⟨bl,off,none⟩ ((vs.toList.drop off).take (n*sz)) (fun j u hj=>by
  rw[dO]
  show w.cell? _=_
  rw[List.getElem?_take] at hj
  split at hj
  ·rw[bq ev,←hj];simp
  ·cases hj)
 have hl:((vs.toList.drop off).take (n*sz)).length=n*sz:=by simp;omega
 rw[hl] at this
 exact this
theorem mM {A Z:Nat→Prop}{w:World}{β:Nat→Pl}{vs:Array Value}{us:List AV}(hr:RdAs A Z w β (vs.toList.take us.length) us) {off n:Nat}(hle:off+n≤us.length):RdAs A Z w β ((vs.toList.drop off).take n) ((us.drop off).take n):=by
 have h:=(hr.drop off).take n
 have e:((vs.toList.take us.length).drop off).take n=(vs.toList.drop off).take n:=by
  rw[List.drop_take,List.take_take,Nat.min_eq_left (by omega)]
 rw[e] at h;exact h
theorem OG (_hT:gz (TS m L T)) (hO:fC H) (hL:fF N H) {U e:TypeId}{sz by_:Nat}{zs:List AV}{y z:Operand}{xo yo:XO}{x:XV}(hU:EJ P U=some (e,sz,by_,zs)) (h1:cO m y=some xo) (h2:cO m z=some yo)
 (h:Kb e sz by_ xo yo call L T N H=some (.mk x N' H' g)):ek P ops ⟨dst,.call ⟨.builtin .append,#[y,z],#[U,U]⟩,ty,pos,af,gd⟩ (TS m L T) N H x N' H' g:=by
 obtain⟨v,hv,h⟩:=aK h
 obtain⟨v2,hv2,h⟩:=aK h
 obtain⟨a,q1,h3⟩:=eS h
 obtain⟨b,q2,h4⟩:=eS h3
 subst q1 q2
 obtain⟨hu,i,zv,hi,hz,hsz,hby,hzl,h0,hzr⟩:=lR hU
 subst hsz
 obtain⟨q,ys,hF,hyo,hyl,hsrc,hsrc0⟩:=CN hu hO h4
 have hzs:zv.cells.size=i.size:=by
  have h1:=(hzr (fun _=>False) (fun _=>False) default (fun _=>⟨0,0⟩)).1
  rw[hzl] at h1;simpa using h1
 have hmy:y∈(Op.call ⟨.builtin .append,#[y,z],#[U,U]⟩).operands:=by simp[Op.operands,Call.operands]
 have hmz:z∈(Op.call ⟨.builtin .append,#[y,z],#[U,U]⟩).operands:=by simp[Op.operands,Call.operands]
 rw[eP] at hF
 split at hF
 ·rename_i hq
  have hq:=Nat.eq_of_beq_eq_true hq
  subst hq
  rcases gc hF with⟨k,off,n,lo,ex,m',rfl,h5⟩|⟨rfl,h5⟩|⟨rfl,h5⟩
  ·obtain⟨rfl,rfl,rfl,rfl⟩:=bO h5
   refine bm hO hL trivial fun A Z w β ac ht=>?_
   have hr:=aU (o:=⟨dst,.call ⟨.builtin .append,#[y,z],#[U,U]⟩,ty,pos,af,gd⟩) hmy h1 hv ht
   obtain⟨c,e1,hk,c1,c2,c3,c4,c5⟩:=RdA.s_eq hr
   have hs:=hsrc0 rfl A Z β w _ (aU (o:=⟨dst,.call ⟨.builtin .append,#[y,z],#[U,U]⟩,ty,pos,af,gd⟩) hmz h2 hv2 ht)
   refine⟨ac.eval y,jd ?_,hr⟩
   rw[e1]
   exact wx hu hi hs (by omega)
  ·obtain⟨rfl,rfl,rfl,rfl⟩:=bO h5
   refine bm hO hL trivial fun A Z w β ac ht=>?_
   have hr:=aU (o:=⟨dst,.call ⟨.builtin .append,#[y,z],#[U,U]⟩,ty,pos,af,gd⟩) hmy h1 hv ht
   have e1:=RdA.z_eq hr
   have hs:=hsrc0 rfl A Z β w _ (aU (o:=⟨dst,.call ⟨.builtin .append,#[y,z],#[U,U]⟩,ty,pos,af,gd⟩) hmz h2 hv2 ht)
   refine⟨ac.eval y,jd ?_,hr⟩
   rw[e1]
   exact wx hu hi hs (Nat.le_refl _)
  ·cases h5
 ·rename_i hq
  have hq0:0<q:=by
   rcases Nat.eq_zero_or_pos q with e|e
   ·subst e;exact absurd rfl hq
   ·exact e
  have hNA: ∀ {A:Nat→Prop},(∀k,A k→ ¬(N≤k∧k<N+1))→ ∀k,A k→k≠N:=fun h k hk e=>h k hk ⟨by omega,by omega⟩
  rcases gc hF with⟨k,off,n,lo,ex,m',rfl,h5⟩|⟨rfl,h5⟩|⟨rfl,h5⟩
  ·obtain⟨bx,hb,h6⟩:=aK h5
   obtain⟨g1,h7⟩:=bo h6
   obtain⟨g2,h8⟩:=bo h7
   obtain⟨g3,h9⟩:=bo h8
   obtain⟨g6,h10⟩:=bo h9
   obtain⟨g4,hfin⟩:=bo h10
   have g1:=Nat.eq_of_beq_eq_true g1
   have g2:=Nat.eq_of_beq_eq_true g2
   rw[cZ] at g3 g4 g6
   have h63:n+q≤maxLen:=Nat.le_trans (show n+q≤1000000 from g6) (by decide)
   have g3:(n+q)*by_≤140737488355328:=g3
   have g4:off+n*i.size≤bx.n:=g4
   obtain⟨hb1,hb2⟩:=hO k bx hb
   have hkk:=jW hb
   rw[g1] at hkk
   subst g2
   have hlb:=hL k bx hb
   have e5:(n+q)*i.size=n*i.size+q*i.size:=Nat.add_mul _ _ _
   have g4':off+n*i.size≤bx.r.flat.length:=by rw[←hb2];exact g4
   rw[eP] at hfin
   split at hfin
   ·rename_i hroom
    rw[cZ] at hroom
    have hroom:n+q≤lo:=hroom
    have key: ∀(nb:Nat) (nr:Rp),nr.ok→nb=nr.flat.length→nr.flat=bx.r.flat.take (off+n*i.size)++ys.flat++bx.r.flat.drop (off+(n+q)*i.size)→
     ek P ops ⟨dst,.call ⟨.builtin .append,#[y,z],#[U,U]⟩,ty,pos,af,gd⟩ (TS m L T) N H (.c (.s k off (n+q) lo ex i.size)) N (H.set ⟨e,nb,nr⟩ k) (.c H (H.set ⟨e,nb,nr⟩ k)):=by
     intro nb nr hnr hnb hnf
     refine o4 trivial (iW hO hnr hnb) (iS hL (Nat.le_refl _) hlb) (Nat.le_refl _) fun V A β ac w hA hm ht=>?_
     obtain⟨c,e1,hk,c1,c2,c3,c4,c5⟩:=RdA.s_eq (aU (o:=⟨dst,.call ⟨.builtin .append,#[y,z],#[U,U]⟩,ty,pos,af,gd⟩) hmy h1 hv ht)
     obtain⟨news,hs,hnr2⟩:=hsrc V A β w _ hm (aU (o:=⟨dst,.call ⟨.builtin .append,#[y,z],#[U,U]⟩,ty,pos,af,gd⟩) hmz h2 hv2 ht)
     obtain⟨vs,ev,hvz,hvl,hrd⟩:=hm.box k e bx.r.flat hkk
     have hcq:(n+q)*i.size≤c*i.size:=Nat.mul_le_mul_right _ (by omega)
     have hrun:=yg (ty:=ty) hu hi hs ev (n:=n) (c:=c) (off:=off) (by omega) (by omega)
     have hnl:news.length=q*i.size:=hs.newsLen
     have hex:=jd (dst:=dst) (pos:=pos) (af:=af) (gd:=gd) (a:=ac) (y:=y) (z:=z) (by rw[e1];exact hrun)
     unfold Gives
     rw[hex]
     have hpre:off+n*i.size+q*i.size≤vs.size:=by omega
     obtain⟨m1,m2⟩:=mQ (N:=N) (cs:=nr.flat) hm hkk (vs:=(vs.toList.take (off+n*i.size)++news++vs.toList.drop (off+n*i.size+news.length)).toArray) (by simp;omega) (ew ev) rfl rfl rfl
      (by rw[hnf];simp;omega) (by
       rw[hnf]
       have hw:=RdAs.append (RdAs.append (mM (off:=0) (n:=off+n*i.size) hrd (by omega)) hnr2) (hrd.drop (off+(n+q)*i.size))
       have e4:((vs.toList.take (off+n*i.size)++news++vs.toList.drop (off+n*i.size+news.length)).toArray).toList.take (bx.r.flat.take (off+n*i.size)++ys.flat++bx.r.flat.drop (off+(n+q)*i.size)).length=(vs.toList.drop 0).take (off+n*i.size)++news++(vs.toList.take bx.r.flat.length).drop (off+(n+q)*i.size):=by
        show(vs.toList.take (off+n*i.size)++news++vs.toList.drop (off+n*i.size+news.length)).take _=_
        rw[List.take_append,List.take_of_length_le (l:=vs.toList.take (off+n*i.size)++news) (by simp;omega),List.drop_take,List.drop_zero,show off+n*i.size+news.length=off+(n+q)*i.size by omega]
        congr 2
        simp;omega
       rw[e4];simpa using hw)
     refine⟨A,β,fun _ h=>h,fun _ h=>.inl h,m1.sub (fun j c hj=>?_),m2.less (fun j c hj=>?_),?_⟩
     ·rcases jg hj with⟨r1,r2⟩|⟨r1,r2⟩
      ·show(if j=k then some (e,nr.flat) else HS H j)=some c
       rw[if_pos r1,r2]
      ·show(if j=k then some (e,nr.flat) else HS H j)=some c
       rw[if_neg r1];exact r2
     ·rcases jg hj with⟨r1,r2⟩|⟨r1,r2⟩
      ·show(if j=k then some (e,nr.flat) else HS H j)=some c
       rw[if_pos r1,r2]
      ·show(if j=k then some (e,nr.flat) else HS H j)=some c
       rw[if_neg r1];exact r2
     ·exact RdA.s k off (n+q) lo ex i.size c hk hroom c2 c3 c4 c5
    rw[eP] at hfin
    split at hfin
    ·rename_i hin
     rw[cZ] at hin
     have hin:off+(n+q)*i.size≤bx.n:=hin
     obtain⟨rfl,rfl,rfl,rfl⟩:=ky hfin
     obtain⟨u1,u2⟩:=mH hyo bx.r bx.n (off+n*i.size) (q*i.size) hb1 hb2 hyl.symm (by omega)
     exact key bx.n (gP ys bx.r bx.n (off+n*i.size) (q*i.size)) u1 (by rw[u2,hb2];simp;omega) (by rw[u2,show off+n*i.size+q*i.size=off+(n+q)*i.size by omega])
    ·rename_i hin
     rw[cZ] at hin
     have hin: ¬off+(n+q)*i.size≤bx.n:=hin
     obtain⟨rfl,rfl,rfl,rfl⟩:=ky hfin
     obtain⟨s1,s2⟩:=fP bx.r bx.n 0 (off+n*i.size) hb1 hb2 (by omega)
     obtain⟨j1,j2⟩:=fM (ls:=off+n*i.size) (l:=e8 bx.r bx.n 0 (off+n*i.size)) (r:=ys) (by rw[s2];simp;omega) s1 hyo
     refine key (off+(n+q)*i.size) (eZ (off+n*i.size) (e8 bx.r bx.n 0 (off+n*i.size)) ys) j1 (by rw[j2,s2];simp;omega) (by rw[j2,s2,List.drop_zero,List.drop_of_length_le (i:=off+(n+q)*i.size) (by omega)];simp)
   ·rename_i hroom
    rw[cZ] at hroom
    have hroom: ¬n+q≤lo:=hroom
    rw[eP] at hfin
    split at hfin
    ·--it grows,for sure
     rename_i hex
     obtain⟨rfl,rfl,rfl,rfl⟩:=ky hfin
     obtain⟨s1,s2⟩:=fP bx.r bx.n off (n*i.size) hb1 hb2 g4
     obtain⟨j1,j2⟩:=fM (ls:=n*i.size) (l:=e8 bx.r bx.n off (n*i.size)) (r:=ys) (by rw[s2];simp;omega) s1 hyo
     have jl:(n+q)*i.size=(eZ (n*i.size) (e8 bx.r bx.n off (n*i.size)) ys).flat.length:=by rw[j2,s2];simp;omega
     refine o4 trivial (iW hO j1 jl) (iS hL (Nat.le_succ _) (Nat.lt_succ_self _)) (Nat.le_succ _) fun V A β ac w hA hm ht=>?_
     obtain⟨c,e1,hk,c1,c2,c3,c4,c5⟩:=RdA.s_eq (aU (o:=⟨dst,.call ⟨.builtin .append,#[y,z],#[U,U]⟩,ty,pos,af,gd⟩) hmy h1 hv ht)
     obtain⟨news,hs,hnr2⟩:=hsrc V A β w _ hm (aU (o:=⟨dst,.call ⟨.builtin .append,#[y,z],#[U,U]⟩,ty,pos,af,gd⟩) hmz h2 hv2 ht)
     obtain⟨vs,ev,hvz,hvl,hrd⟩:=hm.box k e bx.r.flat hkk
     have hc:=c4 hex
     have hgrow:c<n+q:=by omega
     have hrun:=run_append_grow_src (P:=P) (w:=w) U U ty e i zv hu hi hz (some ⟨(β k).b,off,none⟩) n c _ (sV (c:=c) ev (by omega)) (ac.eval z) q news hs hgrow (by have:maxLen=9223372036854775807:=rfl;omega) (growslice_fits hgrow (by rw[hby];exact g3))
     have hol:=mM hrd (off:=off) (n:=n*i.size) g4'
     have hnl:news.length=q*i.size:=hs.newsLen
     have hll:(((vs.toList.drop off).take (n*i.size))++news).length=(n+q)*i.size:=by rw[List.length_append,hnl,hol.1];simp;omega
     obtain⟨A',β',w1,w2,w3,w4,w5⟩:=oy (N:=N) (e:=e) (z:=zv) hm (hNA hA) hzs hll (hol.append hnr2) (grownCap_ge w (n+q) c e) (grownCap_le_maxLen w (n+q) c e h63)
     have hex2:=jd (dst:=dst) (pos:=pos) (af:=af) (gd:=gd) (a:=ac) (y:=y) (z:=z) (by rw[e1];exact hrun)
     unfold Gives
     rw[hex2]
     have hjf:(eZ (n*i.size) (e8 bx.r bx.n off (n*i.size)) ys).flat=(bx.r.flat.drop off).take (n*i.size)++ys.flat:=by rw[j2,s2]
     have hsub: ∀j c,HS (H.set ⟨e,(n+q)*i.size,eZ (n*i.size) (e8 bx.r bx.n off (n*i.size)) ys⟩ N) j=some c→(if j=N then some (e,(bx.r.flat.drop off).take (n*i.size)++ys.flat) else HS H j)=some c:=by
      intro j c hj
      rcases jg hj with⟨r1,r2⟩|⟨r1,r2⟩
      ·rw[if_pos r1,r2,hjf]
      ·rw[if_neg r1];exact r2
     exact⟨A',β',w1,w2,w3.sub hsub,w4.less hsub,w5 _ _⟩
    ·--not known
     obtain⟨hoff,hfin2⟩:=bo hfin
     have hoff:=Nat.eq_of_beq_eq_true hoff
     subst hoff
     obtain⟨rfl,rfl,rfl,rfl⟩:=ky hfin2
     obtain⟨s1,s2⟩:=fP bx.r bx.n 0 (n*i.size) hb1 hb2 g4
     obtain⟨j1,j2⟩:=fM (ls:=n*i.size) (l:=e8 bx.r bx.n 0 (n*i.size)) (r:=ys) (by rw[s2];simp;omega) s1 hyo
     have jl:(n+q)*i.size=(eZ (n*i.size) (e8 bx.r bx.n 0 (n*i.size)) ys).flat.length:=by rw[j2,s2];simp;omega
     have hod:fC (H.del k):=fun j b' hj=>hO j b' (Tr.del_get H k j hj).2
     have hld:fF N (H.del k):=fun j b' hj=>hL j b' (Tr.del_get H k j hj).2
     have hds: ∀j c,HS (H.del k) j=some c→j≠k∧HS H j=some c:=by
      intro j c hj
      unfold HS at hj⊢
      cases h9:(H.del k).get j with
      |none=>rw[h9] at hj;cases hj
      |some b'=>
       rw[h9] at hj
       injection hj with hj
       obtain⟨r1,r2⟩:=Tr.del_get H k j h9
       refine⟨r1,?_⟩
       rw[r2,←hj];rfl
     have hjf:(eZ (n*i.size) (e8 bx.r bx.n 0 (n*i.size)) ys).flat=(bx.r.flat.drop 0).take (n*i.size)++ys.flat:=by rw[j2,s2]
     refine o4 trivial (iW hod j1 jl) (iS hld (Nat.le_succ _) (Nat.lt_succ_self _)) (Nat.le_succ _) fun V A β ac w hA hm ht=>?_
     obtain⟨c,e1,hk,c1,c2,c3,c4,c5⟩:=RdA.s_eq (aU (o:=⟨dst,.call ⟨.builtin .append,#[y,z],#[U,U]⟩,ty,pos,af,gd⟩) hmy h1 hv ht)
     obtain⟨news,hs,hnr2⟩:=hsrc V A β w _ hm (aU (o:=⟨dst,.call ⟨.builtin .append,#[y,z],#[U,U]⟩,ty,pos,af,gd⟩) hmz h2 hv2 ht)
     obtain⟨vs,ev,hvz,hvl,hrd⟩:=hm.box k e bx.r.flat hkk
     have hnl:news.length=q*i.size:=hs.newsLen
     have hol:=mM hrd (off:=0) (n:=n*i.size) g4'
     have hkN:k≠N:=by omega
     by_cases hc:n+q≤c
     ·--in place:the box goes by a new name
      have hcq:(n+q)*i.size≤c*i.size:=Nat.mul_le_mul_right _ hc
      have hrun:=yg (ty:=ty) hu hi hs ev (n:=n) (c:=c) (off:=0) hc (by omega)
      have hex2:=jd (dst:=dst) (pos:=pos) (af:=af) (gd:=gd) (a:=ac) (y:=y) (z:=z) (by rw[e1];exact hrun)
      unfold Gives
      rw[hex2]
      simp only[Nat.zero_add]
      obtain⟨m1,m2⟩:=mQ (N:=N) (cs:=(bx.r.flat.drop 0).take (n*i.size)++ys.flat) hm hkk (vs:=(vs.toList.take (n*i.size)++news++vs.toList.drop (n*i.size+news.length)).toArray) (by simp;omega) (ew ev) rfl rfl rfl
       (by simp;omega) (by
        have hw:=hol.append hnr2
        have e4:((vs.toList.take (n*i.size)++news++vs.toList.drop (n*i.size+news.length)).toArray).toList.take ((bx.r.flat.drop 0).take (n*i.size)++ys.flat).length=(vs.toList.drop 0).take (n*i.size)++news:=by
         show(vs.toList.take (n*i.size)++news++vs.toList.drop (n*i.size+news.length)).take _=_
         rw[List.take_append_of_le_length (by simp;omega),List.take_of_length_le (by simp;omega),List.drop_zero]
        rw[e4];exact hw)
      obtain⟨n1,n2⟩:=Is (N:=N) m1 (hNA hA) (k0:=k) (U:=e) (cs:=(bx.r.flat.drop 0).take (n*i.size)++ys.flat) (if_pos rfl)
      have hsub: ∀j d,HS ((H.del k).set ⟨e,(n+q)*i.size,eZ (n*i.size) (e8 bx.r bx.n 0 (n*i.size)) ys⟩ N) j=some d→
       (if j=N then some (e,(bx.r.flat.drop 0).take (n*i.size)++ys.flat) else if j=k then none else if j=k then some (e,(bx.r.flat.drop 0).take (n*i.size)++ys.flat) else HS H j)=some d:=by
       intro j d hj
       rcases jg hj with⟨r1,r2⟩|⟨r1,r2⟩
       ·rw[if_pos r1,r2,hjf]
       ·obtain⟨r3,r4⟩:=hds j d r2
        rw[if_neg r1,if_neg r3,if_neg r3];exact r4
      refine⟨_,_,fun j hj=>.inl hj,fun j hj=>?_,n1.sub hsub,((m2.wide (Nat.le_refl _) (Nat.le_succ _)).trans (fun _ h=>h) n2).less hsub,?_⟩
      ·rcases hj with hj|hj
       ·exact .inl hj
       ·exact .inr ⟨Nat.le_of_eq hj.symm,by show j<N+1;omega⟩
      ·have hrs:=RdA.s (A:=fun j=>A j∨j=N) (Z:=Zs V (HS ((H.del k).set ⟨e,(n+q)*i.size,eZ (n*i.size) (e8 bx.r bx.n 0 (n*i.size)) ys⟩ N)) (fun j=>if j=N then β k else β j))
        (w:=w.setRow (β k).b (vs.toList.take (n*i.size)++news++vs.toList.drop (n*i.size+news.length)).toArray) (β:=fun j=>if j=N then β k else β j) N 0 (n+q) (n+q) false i.size c (.inr rfl) (Nat.le_refl _) hc c3 (fun e=>by cases e) (by rw[if_pos rfl];exact c5)
       rw[if_pos rfl] at hrs
       exact hrs
     ·have hgrow:c<n+q:=by omega
      have hrun:=run_append_grow_src (P:=P) (w:=w) U U ty e i zv hu hi hz (some ⟨(β k).b,0,none⟩) n c _ (sV (c:=c) ev (by omega)) (ac.eval z) q news hs hgrow (by have:maxLen=9223372036854775807:=rfl;omega) (growslice_fits hgrow (by rw[hby];exact g3))
      have hll:(((vs.toList.drop 0).take (n*i.size))++news).length=(n+q)*i.size:=by rw[List.length_append,hnl,hol.1];simp;omega
      obtain⟨A',β',w1,w2,w3,w4,w5⟩:=oy (N:=N) (e:=e) (z:=zv) hm (hNA hA) hzs hll (hol.append hnr2) (grownCap_ge w (n+q) c e) (grownCap_le_maxLen w (n+q) c e h63)
      have hex2:=jd (dst:=dst) (pos:=pos) (af:=af) (gd:=gd) (a:=ac) (y:=y) (z:=z) (by rw[e1];exact hrun)
      unfold Gives
      rw[hex2]
      have hsub: ∀j d,HS ((H.del k).set ⟨e,(n+q)*i.size,eZ (n*i.size) (e8 bx.r bx.n 0 (n*i.size)) ys⟩ N) j=some d→(if j=N then some (e,(bx.r.flat.drop 0).take (n*i.size)++ys.flat) else HS H j)=some d:=by
       intro j d hj
       rcases jg hj with⟨r1,r2⟩|⟨r1,r2⟩
       ·rw[if_pos r1,r2,hjf]
       ·rw[if_neg r1];exact(hds j d r2).2
      exact⟨A',β',w1,w2,w3.sub hsub,w4.less hsub,w5 _ _⟩
  ·--onto the nil slice
   obtain⟨g3,h6⟩:=bo h5
   obtain⟨g6,hfin⟩:=bo h6
   rw[cZ] at g3 g6
   have g3:q*by_≤140737488355328:=g3
   have h63:0+q≤maxLen:=by rw[Nat.zero_add];exact Nat.le_trans g6 (by decide)
   obtain⟨rfl,rfl,rfl,rfl⟩:=ky hfin
   refine o4 trivial (iW hO hyo hyl.symm) (iS hL (Nat.le_succ _) (Nat.lt_succ_self _)) (Nat.le_succ _) fun V A β ac w hA hm ht=>?_
   have e1:=RdA.z_eq (aU (o:=⟨dst,.call ⟨.builtin .append,#[y,z],#[U,U]⟩,ty,pos,af,gd⟩) hmy h1 hv ht)
   obtain⟨news,hs,hnr2⟩:=hsrc V A β w _ hm (aU (o:=⟨dst,.call ⟨.builtin .append,#[y,z],#[U,U]⟩,ty,pos,af,gd⟩) hmz h2 hv2 ht)
   have hnl:news.length=q*i.size:=hs.newsLen
   have hold:(Builtin.firstCells i.size 0 (.slice none 0 0)).run P w.drew=.ok ([]:List Value).toArray w.drew:=rfl
   have hgrow:0<0+q:=by omega
   have hrun:=run_append_grow_src (P:=P) (w:=w) U U ty e i zv hu hi hz none 0 0 _ hold (ac.eval z) q news hs hgrow (by have:maxLen=9223372036854775807:=rfl;omega) (growslice_fits hgrow (by rw[hby,Nat.zero_add];exact g3))
   obtain⟨A',β',w1,w2,w3,w4,w5⟩:=oy (N:=N) (e:=e) (z:=zv) (n:=0) (q:=q) (olds:=[]) (news:=news) hm (hNA hA) hzs (by simp[hnl]) (by simpa using hnr2) (grownCap_ge w (0+q) 0 e) (grownCap_le_maxLen w (0+q) 0 e h63)
   have hex2:=jd (dst:=dst) (pos:=pos) (af:=af) (gd:=gd) (a:=ac) (y:=y) (z:=z) (by rw[e1];exact hrun)
   unfold Gives
   rw[hex2]
   have hsub: ∀j d,HS (H.set ⟨e,q*i.size,ys⟩ N) j=some d→(if j=N then some (e,ys.flat) else HS H j)=some d:=by
    intro j d hj
    rcases jg hj with⟨r1,r2⟩|⟨r1,r2⟩
    ·rw[if_pos r1,r2]
    ·rw[if_neg r1];exact r2
   refine⟨A',β',w1,w2,w3.sub hsub,w4.less hsub,?_⟩
   show RdA A' _ _ β' _ (.s N 0 q q false i.size)
   rw[show AV.s N 0 q q false i.size=AV.s N 0 (0+q) (0+q) false i.size by rw[Nat.zero_add]]
   exact w5 _ _
  ·cases h5
end
section
variable {P:Program}{ops:Array Oper}{TT:TX}{m N:Nat}{L:LX}{T:Tr XV}{H:Tr Bx}
variable {N':Nat}{H':Tr Bx}{g:Lg}{call:eC}
variable {dst:Option Nat}{ty:TypeId}{pos:String}{af:Array Edge}{gd:Option (Nat×Bool)}
theorem sJ {U W e:TypeId}{i:TypeInfo}{z:Value}{kk k:IntKind}(hu:P.underlying U=some (.slice e)) (hW:P.underlying W=some (.int kk)) (hi:P.info? e=some i) (hz:i.zero=some z) (_hsz:z.cells.size=i.size) (h0:0<i.size) {w:World}{q:Nat}
 (hq:0<q) (hq2:q≤1000000) (hb:q*i.bytes≤140737488355328):
 (Builtin.append_ #[U,W] ty #[.slice none 0 0,.int k (q:Int)]).run P w=
  .ok (.slice (some ⟨w.heap.size,0,none⟩) q (grownCap w q 0 e)) (w.drew.alloc (.cells (([]++(Builtin.zeroCells z.cells q).toList).toArray++Builtin.zeroCells z.cells (grownCap w q 0 e-q)) e)):=by
 have hw:IntKind.i64.wrap (q:Int)=(q:Int):=by unfold IntKind.wrap;simp[IntKind.bits,IntKind.signed];omega
 have hl: ¬((q:Int)<0):=by omega
 have hbb: ¬(281474976710656<(q:Int)*(i.bytes:Int)):=by
  have h2:((q*i.bytes:Nat):Int)≤140737488355328:=Int.ofNat_le.2 hb
  rw[Int.natCast_mul] at h2;omega
 have hn0: ¬(q≤0):=by omega
 have hqs: ¬(q*i.size=0):=by have:=Nat.mul_pos hq h0;omega
 have hcap:Builtin.nextslicecap q 0=q:=by unfold Builtin.nextslicecap;rw[if_pos (by omega)]
 have hb2: ¬(281474976710656<q*i.bytes):=by omega
 have hmax: ¬((9223372036854775807:Int)<(q:Int)):=by omega
 have hq3:q≠0:=by omega
 have hs3:i.size≠0:=by omega
 simp[Builtin.append_,run_underlying hu,run_underlying hW,sizeOf,typeInfo,zeroValue,hi,hz,asInt,asIntOf,hw,hl,hbb,hqs,hcap,hb2,hmax,Question.forced,newRow,grownCap,Builtin.firstCells,hq3]
theorem Cp {U W:TypeId}{y z:Operand}{a:Act}{w w':World}{v:Value}(h:(Builtin.append_ #[U,W] ty #[a.eval y,a.eval z]).run P w=.ok v w'):(execOp a.eval ⟨dst,.call ⟨.builtin .append,#[y,z],#[U,W]⟩,ty,pos,af,gd⟩).run P w=.ok (.value v) w':=by
 simp only[execOp,resolve,invoke,builtin,Sem.run_bind,Sem.run_pure,Result.andThen_ok,List.map_toArray,List.map_cons,List.map_nil]
 rw[h]
 rfl
theorem Nx (_hT:gz (TS m L T)) (hO:fC H) (hL:fF N H) {U W e:TypeId}{sz by_:Nat}{zs:List AV}{kk:IntKind}{y z:Operand}{xo yo:XO}{x:XV}(hU:EJ P U=some (e,sz,by_,zs)) (hW:HA P W=some kk) (h1:cO m y=some xo) (h2:cO m z=some yo)
 (h:Kj e sz by_ (lI zs) xo yo call L T N H=some (.mk x N' H' g)):ek P ops ⟨dst,.call ⟨.builtin .append,#[y,z],#[U,W]⟩,ty,pos,af,gd⟩ (TS m L T) N H x N' H' g:=by
 obtain⟨v,hv,h⟩:=aK h
 obtain⟨v2,hv2,h⟩:=aK h
 obtain⟨a,q1,h⟩:=eS h
 obtain⟨kb,q,q2,h⟩:=li h
 subst q1 q2
 obtain⟨hu,i,zv,hi,hz,hsz,hby,hzl,h0,hzr⟩:=lR hU
 have hw:P.underlying W=some (.int kk):=by
  unfold HA at hW
  split at hW
  ·rename_i k e1;injection hW with hW;subst hW;exact e1
  ·cases hW
 rcases gc h with⟨k,off,n,lo,ex,m',rfl,h5⟩|⟨rfl,h5⟩|⟨rfl,h5⟩
 ·cases h5
 ·obtain⟨g1,h6⟩:=bo h5
  obtain⟨g2,h7⟩:=bo h6
  obtain⟨g3,h8⟩:=bo h7
  rw[bU] at g1
  rw[cZ] at g2 g3
  have g2:q*by_≤140737488355328:=g2
  have hzs:zv.cells.size=i.size:=by
   have h1:=(hzr (fun _=>False) (fun _=>False) default (fun _=>⟨0,0⟩)).1
   rw[hzl] at h1;rw[hsz];simpa using h1
  obtain⟨z1,z2⟩:=iF zs
  obtain⟨r1,r2⟩:=ks (m:=sz) (z:=lI zs) (by rw[z2,hzl]) z1 q
  have r2':(jy sz (lI zs) q).flat=pB zs q:=by rw[r2,z2]
  have hlen:q*sz=(jy sz (lI zs) q).flat.length:=by rw[r2',mq,hzl]
  have h63:0+q≤maxLen:=by rw[Nat.zero_add];exact Nat.le_trans g3 (by decide)
  obtain⟨rfl,rfl,rfl,rfl⟩:=ky h8
  have hNA: ∀ {A:Nat→Prop},(∀k,A k→ ¬(N≤k∧k<N+1))→ ∀k,A k→k≠N:=fun h k hk e=>h k hk ⟨by omega,by omega⟩
  refine o4 trivial (iW hO r1 hlen) (iS hL (Nat.le_succ _) (Nat.lt_succ_self _)) (Nat.le_succ _) fun V A β ac w hA hm ht=>?_
  have e1:=RdA.z_eq (aU (o:=⟨dst,.call ⟨.builtin .append,#[y,z],#[U,W]⟩,ty,pos,af,gd⟩) (by simp[Op.operands,Call.operands]) h1 hv ht)
  have e2:ac.eval z=.int kb (q:Int):=RdA.i_eq (aU (o:=⟨dst,.call ⟨.builtin .append,#[y,z],#[U,W]⟩,ty,pos,af,gd⟩) (by simp[Op.operands,Call.operands]) h2 hv2 ht)
  have hrun:=sJ (ty:=ty) (w:=w) (k:=kb) hu hw hi hz hzs (by omega) g1 g3 (by rw[hby];exact g2)
  have hrow:=nT hzl (hzr A (Zs V (HS H) β) w β) q
  obtain⟨A',β',w1,w2,w3,w4,w5⟩:=oy (N:=N) (e:=e) (z:=zv) (n:=0) (q:=q) (olds:=[]) (news:=(Builtin.zeroCells zv.cells q).toList) (us:=pB zs q) hm (hNA hA) hzs (by simp[Builtin.zeroCells,hzs]) (by
   have e3:(Builtin.zeroCells zv.cells q).toList=(madeCells zv.cells (q*sz)).toList:=by unfold Builtin.zeroCells madeCells;rw[hzs,hsz]
   rw[List.nil_append,e3]
   unfold madeCells
   simpa using hrow) (grownCap_ge w (0+q) 0 e) (grownCap_le_maxLen w (0+q) 0 e h63)
  have hex2:=Cp (dst:=dst) (pos:=pos) (af:=af) (gd:=gd) (a:=ac) (y:=y) (z:=z) (by rw[e1,e2];exact hrun)
  unfold Gives
  rw[hex2]
  have hsub: ∀j d,HS (H.set ⟨e,q*sz,jy sz (lI zs) q⟩ N) j=some d→(if j=N then some (e,pB zs q) else HS H j)=some d:=by
   intro j d hj
   rcases jg hj with⟨r3,r4⟩|⟨r3,r4⟩
   ·rw[if_pos r3,r4];exact congrArg (fun l=>some (e,l)) r2'.symm
   ·rw[if_neg r3];exact r4
  rw[Nat.zero_add] at w3 w4
  refine⟨A',β',w1,w2,w3.sub hsub,w4.less hsub,?_⟩
  show RdA A' _ _ β' _ (.s N 0 q q false sz)
  have:=w5 (Zs V (HS (H.set ⟨e,q*sz,jy sz (lI zs) q⟩ N)) β') (w.drew.alloc (.cells (([]++(Builtin.zeroCells zv.cells q).toList).toArray++Builtin.zeroCells zv.cells (grownCap w q 0 e-q)) e))
  rw[Nat.zero_add,hsz] at this
  exact this
 ·cases h5
end
section
variable {P:Program}{ops:Array Oper}{o:Oper}{TT:TX}{m N:Nat}{L:LX}{T:Tr XV}{H:Tr Bx}{x:XV}
variable {N':Nat}{H':Tr Bx}{g:Lg}{call:eC}
variable {dst:Option Nat}{ty:TypeId}{pos:String}{af:Array Edge}{gd:Option (Nat×Bool)}
theorem It {A Z:Nat→Prop}{w:World}{β:Nat→Pl}:RdX2 A Z w β (.tuple #[]) (.t []):=⟨#[],rfl,RdDs.nil⟩
theorem oL {U:TypeId}{y:Operand}{a:Act}{w w':World}(h:(Builtin.clear_ #[U] ty #[a.eval y]).run P w=.ok (.tuple #[]) w'):(execOp a.eval ⟨dst,.call ⟨.builtin .clear,#[y],#[U]⟩,ty,pos,af,gd⟩).run P w=.ok (.value (.tuple #[])) w':=by
 simp only[execOp,resolve,invoke,builtin,Sem.run_bind,Sem.run_pure,Result.andThen_ok,List.map_toArray,List.map_cons,List.map_nil]
 rw[h]
 rfl
theorem Om (_hT:gz (TS m L T)) (hO:fC H) (hL:fF N H) {U e:TypeId}{sz by_:Nat}{zs:List AV}{y:Operand}{xo:XO}{x:XV}(hU:EJ P U=some (e,sz,by_,zs)) (h1:cO m y=some xo)
 (h:JY sz (lI zs) xo call L T N H=some (.mk x N' H' g)):ek P ops ⟨dst,.call ⟨.builtin .clear,#[y],#[U]⟩,ty,pos,af,gd⟩ (TS m L T) N H x N' H' g:=by
 obtain⟨v,hv,h⟩:=aK h
 obtain⟨a,q1,h3⟩:=eS h
 subst q1
 obtain⟨hu,i,zv,hi,hz,hsz,hby,hzl,h0,hzr⟩:=lR hU
 have hmy:y∈(Op.call ⟨.builtin .clear,#[y],#[U]⟩).operands:=by simp[Op.operands,Call.operands]
 have hempty: ∀(w:World) (A:Option Addr) (c:Nat),(Builtin.clear_ #[U] ty #[.slice A 0 c]).run P w=.ok (.tuple #[]) w:=fun w A c=>by
  cases A<;>simp[Builtin.clear_,run_underlying hu]
 rcases gc h3 with⟨k,off,n,lo,ex,m',rfl,h4⟩|⟨rfl,h4⟩|⟨rfl,h4⟩
 ·rw[eP] at h4
  split at h4
  ·rename_i hn
   have hn:=Nat.eq_of_beq_eq_true hn
   subst hn
   obtain⟨rfl,rfl,rfl,rfl⟩:=bO h4
   refine bm hO hL (fun d hd=>by cases hd) fun A Z w β ac ht=>?_
   obtain⟨c,e1,_⟩:=RdA.s_eq (aU (o:=⟨dst,.call ⟨.builtin .clear,#[y],#[U]⟩,ty,pos,af,gd⟩) hmy h1 hv ht)
   exact⟨_,oL (by rw[e1];exact hempty _ _ _),It⟩
  ·rename_i hn
   have hn:n≠0:=fun e=>by subst e;exact hn rfl
   obtain⟨b,hb,h5⟩:=aK h4
   obtain⟨g1,h6⟩:=bo h5
   obtain⟨g2,h7⟩:=bo h6
   obtain⟨rfl,rfl,rfl,rfl⟩:=ky h7
   have g1:=Nat.eq_of_beq_eq_true g1
   subst g1
   rw[cZ] at g2
   have g2:off+n*sz≤b.n:=g2
   obtain⟨hb1,hb2⟩:=hO k b hb
   obtain⟨z1,z2⟩:=iF zs
   obtain⟨r1,r2⟩:=ks (m:=sz) (z:=lI zs) (by rw[z2,hzl]) z1 n
   have r2':(jy sz (lI zs) n).flat=pB zs n:=by rw[r2,z2]
   have hrl:n*sz=(jy sz (lI zs) n).flat.length:=by rw[r2',mq,hzl]
   obtain⟨u1,u2⟩:=mH r1 b.r b.n off (n*sz) hb1 hb2 hrl g2
   have hkk:=jW hb
   have g2':off+n*sz≤b.r.flat.length:=by rw[←hb2];exact g2
   have hlen:b.n=(gP (jy sz (lI zs) n) b.r b.n off (n*sz)).flat.length:=by rw[u2,hb2];simp;omega
   refine o4 (fun d hd=>by cases hd) (iW hO u1 hlen) (iS hL (Nat.le_refl _) (hL k b hb)) (Nat.le_refl _) fun V A β ac w hA hm ht=>?_
   obtain⟨c,e1,hk,c1,c2,c3,c4,c5⟩:=RdA.s_eq (aU (o:=⟨dst,.call ⟨.builtin .clear,#[y],#[U]⟩,ty,pos,af,gd⟩) hmy h1 hv ht)
   obtain⟨vs,ev,hvz,hvl,hrd⟩:=hm.box k b.U b.r.flat hkk
   have hrow:=nT hzl (hzr A (Zs V (HS H) β) w β) n
   have hzs:zv.cells.size=sz:=by have:=(hzr A (Zs V (HS H) β) w β).1;rw[hzl] at this;simpa using this
   have hzc:(Builtin.zeroCells zv.cells n).toList=(List.range (n*sz)).map (fun j=>zv.cells[j%zv.cells.size]!):=by
    unfold Builtin.zeroCells
    rw[hzs];simp
   rw[←hzc] at hrow
   have hzlen:(Builtin.zeroCells zv.cells n).toList.length=n*sz:=by rw[hzc];simp
   have hst:=run_storeCells_at P (β k).b off b.U (Builtin.zeroCells zv.cells n).toList 0 vs w ev (by omega) hrow.one
   simp only[Nat.add_zero] at hst
   have hrun:(Builtin.clear_ #[U] ty #[.slice (some ⟨(β k).b,off,none⟩) n c]).run P w=.ok (.tuple #[]) (w.setRow (β k).b (vs.toList.take off++(Builtin.zeroCells zv.cells n).toList++vs.toList.drop (off+(Builtin.zeroCells zv.cells n).toList.length)).toArray):=by
    simp[Builtin.clear_,run_underlying hu,hn,zeroValue,typeInfo,hi,hz]
    rw[hst]
    simp
   have hex:=oL (dst:=dst) (pos:=pos) (af:=af) (gd:=gd) (a:=ac) (y:=y) (by rw[e1];exact hrun)
   unfold Gives
   rw[hex]
   obtain⟨m1,m2⟩:=mQ (N:=_) (cs:=(gP (jy sz (lI zs) n) b.r b.n off (n*sz)).flat) hm hkk (vs:=(vs.toList.take off++(Builtin.zeroCells zv.cells n).toList++vs.toList.drop (off+(Builtin.zeroCells zv.cells n).toList.length)).toArray)
    (by simp only[List.size_toArray,List.length_append,hzlen];simp;omega) (ew ev) rfl rfl rfl (by rw[←hlen,hb2];simp only[List.size_toArray,List.length_append,hzlen];simp;omega) (by
     rw[←hlen,u2,r2']
     have hw:=RdAs.append (RdAs.append (mM (off:=0) (n:=off) hrd (by omega)) hrow) (hrd.drop (off+n*sz))
     have e4:((vs.toList.take off++(Builtin.zeroCells zv.cells n).toList++vs.toList.drop (off+(Builtin.zeroCells zv.cells n).toList.length)).toArray).toList.take b.n=(vs.toList.drop 0).take off++(Builtin.zeroCells zv.cells n).toList++(vs.toList.take b.r.flat.length).drop (off+n*sz):=by
      show(vs.toList.take off++(Builtin.zeroCells zv.cells n).toList++vs.toList.drop (off+(Builtin.zeroCells zv.cells n).toList.length)).take b.n=_
      rw[List.take_append,List.take_of_length_le (l:=vs.toList.take off++(Builtin.zeroCells zv.cells n).toList) (by rw[List.length_append,hzlen];simp;omega),List.drop_take,List.drop_zero,hzlen]
      congr 2
      rw[List.length_append,hzlen];simp;omega
     rw[e4];simpa using hw)
   have hsub: ∀j d,HS (H.set ⟨b.U,b.n,gP (jy sz (lI zs) n) b.r b.n off (n*sz)⟩ k) j=some d→(if j=k then some (b.U,(gP (jy sz (lI zs) n) b.r b.n off (n*sz)).flat) else HS H j)=some d:=by
    intro j d hj
    rcases jg hj with⟨q1,q2⟩|⟨q1,q2⟩
    ·rw[if_pos q1,q2]
    ·rw[if_neg q1];exact q2
   exact⟨A,β,fun _ h=>h,fun _ h=>.inl h,m1.sub hsub,m2.less hsub,It⟩
 ·obtain⟨rfl,rfl,rfl,rfl⟩:=bO h4
  refine bm hO hL (fun d hd=>by cases hd) fun A Z w β ac ht=>?_
  have e1:=RdA.z_eq (aU (o:=⟨dst,.call ⟨.builtin .clear,#[y],#[U]⟩,ty,pos,af,gd⟩) hmy h1 hv ht)
  exact⟨_,oL (by rw[e1];exact hempty _ _ _),It⟩
 ·obtain⟨rfl,rfl,rfl,rfl⟩:=bO h4
  refine bm hO hL (fun d hd=>by cases hd) fun A Z w β ac ht=>?_
  obtain⟨b,c,e1,_⟩:=RdA.ev_eq (aU (o:=⟨dst,.call ⟨.builtin .clear,#[y],#[U]⟩,ty,pos,af,gd⟩) hmy h1 hv ht)
  exact⟨_,oL (by rw[e1];exact hempty _ _ _),It⟩
theorem zG {mx:Bool}{k:IntKind}{A Z:Nat→Prop}{w:World}{β:Nat→Pl}: ∀ {vs:List XV}{us:List Value}{a r:Int},sM A Z w β us vs→PR mx k vs a=some r→(us.foldlM (if mx then Builtin.max2 else Builtin.min2) (.int k a)).run P w=.ok (.int k r) w
 |[],[],a,r,_,h=>by
  have h:some a=some r:=h
  injection h with h
  subst h;rfl
 |[],_::_,a,r,hr,_=>by have:=hr.1;simp at this
 |_::_,[],a,r,hr,_=>by have:=hr.1;simp at this
 |v::vs,y::us,a,r,hr,h=>by
  obtain⟨k',b,q,h2⟩:=gN (show xI v (fun k' b=>bT (Nat.beq (kN k) (kN k')) (PR mx k vs (bI mx (bI (nC a b) b a) (bI (nC b a) b a))))=some r from h)
  subst q
  obtain⟨hk,h3⟩:=bo h2
  have hk:=Gr hk
  subst hk
  have e1:y=.int k b:=RdA.i_eq (hr.2 0 y (.c (.i k b)) rfl rfl)
  subst e1
  have hrr:sM A Z w β us vs:=⟨by have:=hr.1;simpa using this,fun j v x hv hx=>hr.2 (j+1) v x (by simpa using hv) (by simpa using hx)⟩
  have ih:=zG hrr h3
  rw[List.foldlM_cons]
  cases mx with
  |true=>
   have e2:Builtin.max2 (.int k a) (.int k b)=pure (.int k (bI true (bI (nC a b) b a) (bI (nC b a) b a))):=by
    show pure (Value.int k (if b>a then b else a))=pure (Value.int k (bI (nC a b) b a))
    rw[eP,gZ]
    by_cases hab:a<b
    ·rw[if_pos (by omega),if_pos (by simpa using hab)]
    ·rw[if_neg (by omega),if_neg (by simpa using hab)]
   show(do let s' ←Builtin.max2 (.int k a) (.int k b);List.foldlM Builtin.max2 s' us:Go.Sem Value).run P w=_
   rw[e2]
   exact ih
  |false=>
   have e2:Builtin.min2 (.int k a) (.int k b)=pure (.int k (bI false (bI (nC a b) b a) (bI (nC b a) b a))):=by
    show pure (Value.int k (if b<a then b else a))=pure (Value.int k (bI (nC b a) b a))
    rw[eP,gZ]
    by_cases hab:b<a
    ·rw[if_pos hab,if_pos (by simpa using hab)]
    ·rw[if_neg hab,if_neg (by simpa using hab)]
   show(do let s' ←Builtin.min2 (.int k a) (.int k b);List.foldlM Builtin.min2 s' us:Go.Sem Value).run P w=_
   rw[e2]
   exact ih
theorem ON (_hT:gz (TS m L T)) (hO:fC H) (hL:fF N H) {ys:Array Operand}{ts:Array TypeId}{y:Operand}{zs:List Operand}{xo:XO}{xs:List XO}{x:XV}(hys:ys.toList=y::zs) (h1:cO m y=some xo) (h2:gm (cO m) zs=some xs)
 (h:H4 true xo xs call L T N H=some (.mk x N' H' g)):ek P ops ⟨dst,.call ⟨.builtin .max,ys,ts⟩,ty,pos,af,gd⟩ (TS m L T) N H x N' H' g:=by
 obtain⟨v,hv,h⟩:=aK h
 obtain⟨k,a,q1,h3⟩:=gN h
 subst q1
 obtain⟨vs,hvs,h4⟩:=aK h3
 obtain⟨r,hr,h5⟩:=aK h4
 obtain⟨rfl,rfl,rfl,rfl⟩:=bO h5
 have hmem: ∀z∈ys.toList,z∈(Op.call ⟨.builtin .max,ys,ts⟩).operands:=fun z hz=>by have:=Array.mem_toList_iff.1 hz;simp[Op.operands,Call.operands,this]
 refine bm hO hL trivial fun A Z w β ac ht=>?_
 have e1:ac.eval y=.int k a:=RdA.i_eq (aU (o:=⟨dst,.call ⟨.builtin .max,ys,ts⟩,ty,pos,af,gd⟩) (hmem y (by rw[hys];simp)) h1 hv ht)
 have hrd:=jk (o:=⟨dst,.call ⟨.builtin .max,ys,ts⟩,ty,pos,af,gd⟩) (fun z hz=>hmem z (by rw[hys];simp[hz])) h2 hvs ht
 refine⟨.int k r,?_,.i _ _⟩
 have hrun:=zG (P:=P) (mx:=true) hrd hr
 have e2:(ys.map ac.eval).toList=ac.eval y::zs.map ac.eval:=by rw[Array.toList_map,hys];rfl
 show(do let r ←Builtin.max_ ts ty (ys.map ac.eval);pure (Next.value r):Go.Sem Next).run P w=_
 unfold Builtin.max_
 rw[e2,e1,Sem.run_bind]
 show((List.foldlM Builtin.max2 (.int k a) (zs.map ac.eval)).run P w).andThen _=_
 rw[show(List.foldlM Builtin.max2 (Value.int k a) (zs.map ac.eval)).run P w=.ok (.int k r) w from hrun]
 rfl
theorem Na (_hT:gz (TS m L T)) (hO:fC H) (hL:fF N H) {ys:Array Operand}{ts:Array TypeId}{y:Operand}{zs:List Operand}{xo:XO}{xs:List XO}{x:XV}(hys:ys.toList=y::zs) (h1:cO m y=some xo) (h2:gm (cO m) zs=some xs)
 (h:H4 false xo xs call L T N H=some (.mk x N' H' g)):ek P ops ⟨dst,.call ⟨.builtin .min,ys,ts⟩,ty,pos,af,gd⟩ (TS m L T) N H x N' H' g:=by
 obtain⟨v,hv,h⟩:=aK h
 obtain⟨k,a,q1,h3⟩:=gN h
 subst q1
 obtain⟨vs,hvs,h4⟩:=aK h3
 obtain⟨r,hr,h5⟩:=aK h4
 obtain⟨rfl,rfl,rfl,rfl⟩:=bO h5
 have hmem: ∀z∈ys.toList,z∈(Op.call ⟨.builtin .min,ys,ts⟩).operands:=fun z hz=>by have:=Array.mem_toList_iff.1 hz;simp[Op.operands,Call.operands,this]
 refine bm hO hL trivial fun A Z w β ac ht=>?_
 have e1:ac.eval y=.int k a:=RdA.i_eq (aU (o:=⟨dst,.call ⟨.builtin .min,ys,ts⟩,ty,pos,af,gd⟩) (hmem y (by rw[hys];simp)) h1 hv ht)
 have hrd:=jk (o:=⟨dst,.call ⟨.builtin .min,ys,ts⟩,ty,pos,af,gd⟩) (fun z hz=>hmem z (by rw[hys];simp[hz])) h2 hvs ht
 refine⟨.int k r,?_,.i _ _⟩
 have hrun:=zG (P:=P) (mx:=false) hrd hr
 have e2:(ys.map ac.eval).toList=ac.eval y::zs.map ac.eval:=by rw[Array.toList_map,hys];rfl
 show(do let r ←Builtin.min_ ts ty (ys.map ac.eval);pure (Next.value r):Go.Sem Next).run P w=_
 unfold Builtin.min_
 rw[e2,e1,Sem.run_bind]
 show((List.foldlM Builtin.min2 (.int k a) (zs.map ac.eval)).run P w).andThen _=_
 rw[show(List.foldlM Builtin.min2 (Value.int k a) (zs.map ac.eval)).run P w=.ok (.int k r) w from hrun]
 rfl
theorem Dm (s:ByteArray) (j:Nat):s[j]? =s.data.toList[j]? :=by
 rw[Array.getElem?_toList]
 by_cases h:j<s.size
 ·have h2:j<s.data.size:=h
  rw[getElem?_pos s j h,Array.getElem?_eq_getElem h2];rfl
 ·have h2: ¬j<s.data.size:=h
  rw[getElem?_neg s j h,Array.getElem?_eq_none (by omega)]
theorem KR (_hT:gz (TS m L T)) (hO:fC H) (hL:fF N H) {U:TypeId}{s:ByteArray}{y:Operand}{xo:XO}{x:XV}(hU:P.underlying U=some .string) (h1:cO m y=some xo)
 (h:Er s xo call L T N H=some (.mk x N' H' g)):ek P ops ⟨dst,.index U (.const (.string s)) y,ty,pos,af,gd⟩ (TS m L T) N H x N' H' g:=by
 obtain⟨v,hv,h⟩:=aK h
 obtain⟨k,j,q1,h3⟩:=li h
 subst q1
 obtain⟨b,hb,h4⟩:=aK h3
 obtain⟨rfl,rfl,rfl,rfl⟩:=bO h4
 refine bm hO hL trivial fun A Z w β ac ht=>?_
 have e1:ac.eval y=.int k (j:Int):=RdA.i_eq (aU (o:=⟨dst,.index U (.const (.string s)) y,ty,pos,af,gd⟩) (by simp[Op.operands]) h1 hv ht)
 have e2:ac.eval (.const (.string s))=.string s:=rfl
 have e3:s[j]? =some b:=by rw[Dm];exact hb
 refine⟨.int .u8 b.toNat,?_,.i _ _⟩
 simp[execOp,Instr.index,e1,e2,asIntOf,run_underlying hU,e3]
theorem Oz (_hT:gz (TS m L T)) (hO:fC H) (hL:fF N H) {U:TypeId}{n sz:Nat}{y z:Operand}{xo yo:XO}{x:XV}(hU:PN P U=some (n,sz)) (h1:cO m y=some xo) (h2:cO m z=some yo)
 (h:JC n sz xo yo call L T N H=some (.mk x N' H' g)):ek P ops ⟨dst,.indexAddr U y z,ty,pos,af,gd⟩ (TS m L T) N H x N' H' g:=by
 obtain⟨v,hv,h⟩:=aK h
 obtain⟨v2,hv2,h⟩:=aK h
 obtain⟨k,off,q1,h3⟩:=jC h
 obtain⟨ki,j,q2,h4⟩:=li h3
 subst q1 q2
 obtain⟨hj,h5⟩:=bo h4
 obtain⟨rfl,rfl,rfl,rfl⟩:=bO h5
 rw[bU] at hj
 refine bm hO hL trivial fun A Z w β ac ht=>?_
 obtain⟨e1,hk⟩:=RdA.p_eq (aU (o:=⟨dst,.indexAddr U y z,ty,pos,af,gd⟩) (by simp[Op.operands]) h1 hv ht)
 have e2:ac.eval z=.int ki (j:Int):=RdA.i_eq (aU (o:=⟨dst,.indexAddr U y z,ty,pos,af,gd⟩) (by simp[Op.operands]) h2 hv2 ht)
 unfold PN at hU
 split at hU
 case h_2=>cases hU
 rename_i n' el hul
 cases hinf:P.info? el with
 |none=>rw[hinf] at hU;cases hU
 |some inf=>
  rw[hinf] at hU
  simp at hU
  obtain⟨q1,q2⟩:=hU
  subst q1
  have hso: ∀w,(sizeOf el).run P w=.ok sz w:=fun w=>by unfold sizeOf typeInfo;simp[program,Sem.run,hinf,q2]
  have hj0:(0:Int)≤(j:Int):=by omega
  have hj1:(j:Int)<(n':Int):=by omega
  refine⟨.pointer (some ⟨(β k).b,off+j*sz,none⟩),?_,.p _ _ hk⟩
  simp[execOp,Instr.indexAt,e1,e2,asIntOf,run_underlying hul,Instr.sureAddr,hj0,hso,dO,hj]
end
section
variable {P:Program}{ops:Array Oper}{o:Oper}{TT:TX}{m N:Nat}{L:LX}{T:Tr XV}{H:Tr Bx}{x:XV}
variable {N':Nat}{H':Tr Bx}{g:Lg}{call:eC}
theorem j5 {α β:Type}{f:α→β}{x:Option α}{y:β}(h:x.map f=some y): ∃v,x=some v∧f v=y:=by
 cases x with
 |none=>cases h
 |some v=>injection h with h;exact⟨v,rfl,h⟩
theorem CO {α:Type}{a:Array α}{x:α}(h:a.toList=[x]):a= #[x]:=by
 apply Array.ext';exact h
theorem Hi {α:Type}{a:Array α}{x y:α}(h:a.toList=[x,y]):a= #[x,y]:=by
 apply Array.ext';exact h
theorem CC (hT:gz (TS m L T)) (hO:fC H) (hL:fF N H) (hcall:ig P call) {k:i9}(hc:p7 P m o.op=some k) (h:k call L T N H=some (.mk x N' H' g)):ek P ops o (TS m L T) N H x N' H' g:=by
 obtain⟨dst,op,ty,pos,af,gd⟩:=o
 change p7 P m op=some k at hc
 cases op
 case move y=>obtain⟨xo,h1,rfl⟩:=dV hc;exact LU hT hO hL h1 h
 case assign y=>obtain⟨xo,h1,rfl⟩:=dV hc;exact Dk hT hO hL h1 h
 case pick c y z=>
  unfold p7 at hc
  dsimp only at hc
  split at hc
  ·rename_i co h1
   obtain⟨xo,yo,h2,h3,rfl⟩:=gD hc
   exact LP hT hO hL h1 h2 h3 h
  ·cases hc
 case alloc U=>obtain⟨zs,h1,rfl⟩:=j5 hc;exact GX hO hL h1 h
 case box U y=>obtain⟨xo,h1,rfl⟩:=dV hc;exact OZ hT hO hL h1 h
 case build U ps=>
  unfold p7 at hc
  dsimp only at hc
  split at hc
  ·rename_i pl zs h1 h2
   obtain⟨qs,h3,rfl⟩:=j5 hc
   exact I5 hT hO hL h1 h2 h3 h
  ·cases hc
 case buildSlice U n ps=>
  unfold p7 at hc
  dsimp only at hc
  split at hc
  ·rename_i e sz by_ zs h1
   cases hb:Nat.ble (n*sz) 10000 with
   |false=>rw[hb] at hc;cases hc
   |true=>
    rw[hb] at hc
    obtain⟨qs,h3,rfl⟩:=j5 hc
    exact Pr hT hO hL h1 (cZ.1 hb) h3 h
  ·cases hc
 case load U y=>
  unfold p7 at hc
  dsimp only at hc
  split at hc
  ·rename_i n h1;obtain⟨xo,h2,rfl⟩:=dV hc;exact NQ hT hO hL h1 h2 h
  ·rename_i n h1;obtain⟨xo,h2,rfl⟩:=dV hc;exact OQ hT hO hL h1 h2 h
  ·cases hc
 case store U a y=>
  unfold p7 at hc
  dsimp only at hc
  split at hc
  ·rename_i q n h1;obtain⟨xo,yo,h2,h3,rfl⟩:=gD hc;exact Qt hT hO hL h1 h2 h3 h
  ·cases hc
 case nilCheck y=>obtain⟨xo,h1,rfl⟩:=dV hc;exact L4 hT hO hL h1 h
 case binOp op U y z yt=>
  unfold p7 at hc
  dsimp only at hc
  split at hc
  ·rename_i h1
   split at hc
   ·obtain⟨xo,yo,h2,h3,rfl⟩:=gD hc;exact OM hT hO hL h1 h2 h3 h
   ·obtain⟨xo,yo,h2,h3,rfl⟩:=gD hc;exact OT hT hO hL h1 h2 h3 h
   ·cases hc
  ·rename_i k1 h1
   split at hc
   ·rename_i f hf;obtain⟨xo,yo,h2,h3,rfl⟩:=gD hc;exact N8 hT hO hL hf h2 h3 h
   ·split at hc
    ·rename_i f hf;obtain⟨xo,yo,h2,h3,rfl⟩:=gD hc;exact Pi hT hO hL hf h2 h3 h
    ·cases hc
  ·rename_i e h1
   split at hc
   ·obtain⟨xo,h2,rfl⟩:=dV hc;exact Ot hT hO hL h1 h2 h
   ·obtain⟨xo,h2,rfl⟩:=dV hc;exact O1 hT hO hL h1 h2 h
   ·cases hc
  ·cases hc
 case unOp op t y=>
  cases op<;>first|(obtain⟨xo,h1,rfl⟩:=dV hc;exact N7 hT hO hL h1 h)|(obtain⟨xo,h1,rfl⟩:=dV hc;exact Oq hT hO hL h1 h)|cases hc
 case convert s d y=>
  unfold p7 at hc
  dsimp only at hc
  split at hc
  ·rename_i k0 k1 h1 h2;obtain⟨xo,h3,rfl⟩:=dV hc;exact Mj hT hO hL h1 h2 h3 h
  ·cases hc
 case makeFunc fn first cs=>
  cases fn with
  |func f=>
   unfold p7 at hc
   dsimp only at hc
   cases hb:first.isEmpty with
   |false=>rw[hb] at hc;cases hc
   |true=>
    rw[hb] at hc
    obtain⟨xs,h1,rfl⟩:=j5 hc
    exact NW hT hO hL hb h1 h
  |_=>cases hc
 case makeSlice U y z=>
  unfold p7 at hc
  dsimp only at hc
  split at hc
  ·rename_i e sz by_ zs h1;obtain⟨xo,yo,h2,h3,rfl⟩:=gD hc;exact NT hT hO hL h1 h2 h3 h
  ·cases hc
 case slice U y lo hi mx=>
  unfold p7 at hc
  dsimp only at hc
  split at hc
  ·rename_i sz xo lo' hi' h1 h2 h3 h4 h5
   injection hc with hc
   subst hc
   have:mx=none:=by
    cases mx with
    |none=>rfl
    |some z=>cases hz:cO m z with
     |none=>simp[ug,hz] at h5
     |some w=>simp[ug,hz] at h5
   subst this
   exact Ox hT hO hL h1 h2 h3 h4 h
  ·rename_i sz xo lo' ho Mo h1 h2 h3 h4 h5
   injection hc with hc
   subst hc
   cases hi with
   |none=>simp[ug] at h4
   |some zh=>
    cases mx with
    |none=>simp[ug] at h5
    |some zM=>
     have g4:cO m zh=some ho:=by
      cases hz:cO m zh with
      |none=>simp[ug,hz] at h4
      |some w=>simp[ug,hz] at h4;rw[h4]
     have g5:cO m zM=some Mo:=by
      cases hz:cO m zM with
      |none=>simp[ug,hz] at h5
      |some w=>simp[ug,hz] at h5;rw[h5]
     exact NB hT hO hL h1 h2 h3 g4 g5 h
  ·cases hc
 case fieldAddr U y f=>
  unfold p7 at hc
  dsimp only at hc
  split at hc
  ·rename_i off h1;obtain⟨xo,h2,rfl⟩:=dV hc;exact P6 hT hO hL h1 h2 h
  ·cases hc
 case field U y f=>
  unfold p7 at hc
  dsimp only at hc
  split at hc
  ·rename_i off n h1;obtain⟨xo,h2,rfl⟩:=dV hc;exact Nj hT hO hL h1 h2 h
  ·rename_i off n h1;obtain⟨xo,h2,rfl⟩:=dV hc;exact M2 hT hO hL h1 h2 h
  ·cases hc
 case indexAddr U y z=>
  unfold p7 at hc
  dsimp only at hc
  split at hc
  ·rename_i sz h1;obtain⟨xo,yo,h2,h3,rfl⟩:=gD hc;exact P4 hT hO hL h1 h2 h3 h
  ·split at hc
   ·rename_i n sz h1;obtain⟨xo,yo,h2,h3,rfl⟩:=gD hc;exact Oz hT hO hL h1 h2 h3 h
   ·cases hc
 case index U y z=>
  cases y with
  |const v=>
   cases v with
   |string b=>
    unfold p7 at hc
    dsimp only at hc
    split at hc
    ·rename_i h1;obtain⟨xo,h2,rfl⟩:=dV hc;exact KR hT hO hL h1 h2 h
    ·cases hc
   |_=>cases hc
  |_=>cases hc
 case extract y i=>obtain⟨xo,h1,rfl⟩:=dV hc;exact NV hT hO hL h1 h
 case call c=>
  obtain⟨callee,ys,ts⟩:=c
  cases callee with
  |value f=>
   cases f with
   |func f=>
    obtain⟨xs,h1,rfl⟩:=j5 (show(gm (cO m) ys.toList).map (zy f)=some k from hc)
    exact Mt hT hO hL hcall h1 h
   |tmp t=>
    unfold p7 at hc
    dsimp only at hc
    split at hc
    ·rename_i fo xs h1 h2
     injection hc with hc
     subst hc
     exact Mk hT hO hL hcall h1 h2 h
    ·cases hc
   |_=>cases hc
  |invoke r mt=>cases hc
  |builtin b=>
   cases b
   case len=>
    unfold p7 at hc
    dsimp only at hc
    split at hc
    ·rename_i y U h1 h2
     split at hc
     ·rename_i sz h3
      obtain⟨xo,h4,rfl⟩:=dV hc
      rw[CO h1,CO h2]
      exact Od hT hO hL h3 h4 h
     ·cases hc
    ·cases hc
   case cap=>
    unfold p7 at hc
    dsimp only at hc
    split at hc
    ·rename_i y U h1 h2
     split at hc
     ·rename_i sz h3
      obtain⟨xo,h4,rfl⟩:=dV hc
      rw[CO h1,CO h2]
      exact O4 hT hO hL h3 h4 h
     ·cases hc
    ·cases hc
   case append=>
    unfold p7 at hc
    dsimp only at hc
    split at hc
    ·rename_i y z U W h1 h2
     split at hc
     ·rename_i e sz by_ zs h3
      cases hb:Nat.beq U W with
      |false=>
       rw[hb] at hc
       dsimp only[cond_false] at hc
       split at hc
       ·rename_i kk h6
        obtain⟨xo,yo,h4,h5,rfl⟩:=gD hc
        rw[Hi h1,Hi h2]
        exact Nx hT hO hL h3 h6 h4 h5 h
       ·cases hc
      |true=>
       rw[hb] at hc
       obtain⟨xo,yo,h4,h5,rfl⟩:=gD hc
       have e:=Nat.eq_of_beq_eq_true hb
       subst e
       rw[Hi h1,Hi h2]
       exact OG hT hO hL h3 h4 h5 h
     ·cases hc
    ·cases hc
   case max=>
    unfold p7 at hc
    dsimp only at hc
    split at hc
    ·rename_i y r h1
     split at hc
     ·rename_i xo xs h2 h3
      injection hc with hc
      subst hc
      exact ON hT hO hL h1 h2 h3 h
     ·cases hc
    ·cases hc
   case min=>
    unfold p7 at hc
    dsimp only at hc
    split at hc
    ·rename_i y r h1
     split at hc
     ·rename_i xo xs h2 h3
      injection hc with hc
      subst hc
      exact Na hT hO hL h1 h2 h3 h
     ·cases hc
    ·cases hc
   case clear=>
    unfold p7 at hc
    dsimp only at hc
    split at hc
    ·rename_i y U h1 h2
     split at hc
     ·rename_i e sz by_ zs h3
      obtain⟨xo,h4,rfl⟩:=dV hc
      rw[CO h1,CO h2]
      exact Om hT hO hL h3 h4 h
     ·cases hc
    ·cases hc
   all_goals cases hc
 all_goals cases hc
end
section
variable {P:Program}{ops:Array Oper}{o:Oper}{TT:TX}{n m N:Nat}{L:LX}{T:Tr XV}{H:Tr Bx}{x:XV}
variable {N':Nat}{H':Tr Bx}{g:Lg}{call:eC}
theorem wA {A Z:Nat→Prop}{w:World}{β:Nat→Pl}{a:Act}{gq:Option (XO×Bool)}{b:Bool}(hc:cG m ops o=some gq) (hb:MS gq L T=some b) (ht:pm A Z w β (dg ops o) (TS m L T) a):ns o ops a=b:=by
 unfold cG at hc
 unfold ns Region.wanted
 cases hg:o.guard with
 |none=>
  rw[hg] at hc
  injection hc with hc
  subst hc
  injection hb with hb
 |some gb=>
  obtain⟨gi,gv⟩:=gb
  rw[hg] at hc
  dsimp only at hc⊢
  unfold yielded
  cases h1:(ops[gi]?).bind (·.dst) with
  |none=>rw[h1] at hc;cases hc
  |some t=>
   rw[h1] at hc
   obtain⟨xo,h2,h3⟩:=j5 hc
   subst h3
   try dsimp only
   obtain⟨v,hv,hb⟩:=aK (show oO (xo.get L T) (fun v=>@XV.rec (fun _=>Option Bool) (fun a=>aB a fun b=>some (b==gv)) (fun _ _=>none) (fun _=>none) (some false) v)=some b from hb)
   have hl:dg ops o t:=List.mem_append_right _ (by rw[hg];simp[h1])
   obtain⟨u,e,hr⟩:=ht t v hl (yJ h2 hv)
   simp only[Option.bind_some,e]
   cases v with
   |c a'=>
    obtain⟨c,q,hb⟩:=qH hb
    subst q
    have hu:u=.bool c:=RdA.b_eq hr
    subst hu
    injection hb with hb
   |a _ _=>cases hb
   |t _=>cases hb
   |u=>
    have hu:u=undef:=hr
    subst hu
    injection hb with hb
theorem yK (t d:Nat) (y:XV) (L:LX):qW t ((d,y)::L)=if d=t then some y else qW t L:=by
 show @Bool.rec (fun _=>Option XV) (qW t L) (some y) (Nat.beq d t)=_
 rw[kx]
theorem tL {d:Option Nat}{κ:LX→Tr XV→Ro}: ∃L' T',Ce d (Iq m d) x L T κ=κ L' T'∧ ∀t y,TS m L' T' t=some y→vR d x (TS m L T) t=some y:=by
 cases d with
 |none=>exact⟨L,T,rfl,fun t y h=>h⟩
 |some d=>
  show ∃L' T',@Bool.rec (fun _=>Ro) (κ L (T.set x d)) (κ ((d,x)::L) T) (m.testBit d)=κ L' T'∧_
  cases hb:m.testBit d with
  |true=>
   refine⟨(d,x)::L,T,rfl,fun t y h=>?_⟩
   unfold TS at h
   unfold vR TS
   cases ht:m.testBit t with
   |true=>
    rw[ht] at h
    have h:qW t ((d,x)::L)=some y:=h
    rw[yK] at h
    by_cases e:d=t
    ·rw[if_pos e] at h;rw[if_pos (by rw[e])];exact h
    ·rw[if_neg e] at h;rw[if_neg (by simpa using e)];exact h
   |false=>
    rw[ht] at h
    rw[if_neg (by intro e;injection e with e;subst e;rw[hb] at ht;cases ht)]
    exact h
  |false=>
   refine⟨L,T.set x d,rfl,fun t y h=>?_⟩
   unfold TS at h
   unfold vR TS
   cases ht:m.testBit t with
   |true=>
    rw[ht] at h
    rw[if_neg (by intro e;injection e with e;subst e;rw[hb] at ht;cases ht)]
    exact h
   |false=>
    rw[ht] at h
    rcases Tr.set_get T d t h with⟨e1,e2⟩|⟨e1,e2⟩
    ·subst e1;rw[if_pos rfl,e2]
    ·rw[if_neg (by intro e;injection e with e;exact e1 e.symm)];exact e2
theorem xg {i:XI}(h:IV P n m ops o=some i):(∀t,o.dst=some t→t<n)∧i.dst=o.dst∧i.lo=Iq m o.dst∧cG m ops o=some i.g∧(p7 P m o.op=some i.k∨i.k=Ki):=by
 unfold IV at h
 cases hb:Kw n o.dst with
 |false=>rw[hb] at h;cases h
 |true=>
  rw[hb] at h
  dsimp only[cond] at h
  split at h
  ·rename_i gq k h1 h2
   injection h with h
   subst h
   refine⟨fun t ht=>?_,rfl,rfl,h1,.inl h2⟩
   rw[ht] at hb
   exact bU.1 hb
  ·rename_i gq h1 h2
   injection h with h
   subst h
   refine⟨fun t ht=>?_,rfl,rfl,h1,.inr rfl⟩
   rw[ht] at hb
   exact bU.1 hb
  ·cases h
structure Did (P:Program) (ops:Array Oper) (o:Oper) (n m:Nat) (L:LX) (T:Tr XV) (N:Nat) (H:Tr Bx) (e:Evt) (L':LX) (T':Tr XV) (H':Tr Bx) (g:Lg):Prop where
 run:Gx P ops o (TS m L T) e∨wN ops o (TS m L T) e
 nm:e.N=N
 le:N≤e.N'
 tmp: ∀t y,TS m L' T' t=some y→vR o.dst e.x (TS m L T) t=some y
 tok:gz (TS m L' T')
 hok:fC H'
 hlt:fF e.N' H'
 sub: ∀k c,e.Hv k=some c→HS H k=some c
 put: ∀k c,HS H' k=some c→eJ (HS H) e.Hv e.Hv' k=some c
 foot:Foot N e.N' H H' e.Hv e.Hv' g
 dn: ∀t,o.dst=some t→t<n
theorem pI (hT:gz (TS m L T)) (hO:fC H) (hL:fF N H) (hcall:ig P call) {i:XI}(hi:IV P n m ops o=some i) {κ:LX→Tr XV→Nat→Tr Bx→Lg→Ro}(hr:Jg call i L T N H κ≠ .no):
 ∃e L' T' H' g,Jg call i L T N H κ=κ L' T' e.N' H' g∧Did P ops o n m L T N H e L' T' H' g:=by
 obtain⟨hdn,hd,hlo,hg,hk⟩:=xg hi
 have htok: ∀ {x:XV}{L' T'},sE x→(∀t y,TS m L' T' t=some y→vR o.dst x (TS m L T) t=some y)→gz (TS m L' T'):=by
  intro x L' T' hx h t y ht
  have:=h t y ht
  unfold vR at this
  split at this
  ·injection this with e;subst e;exact hx
  ·exact hT t y this
 cases hgd:MS i.g L T with
 |none=>
  exfalso
  apply hr
  show @Option.rec Bool (fun _=>Ro) .no _ (MS i.g L T)=.no
  rw[hgd]
 |some b=>
  cases b with
  |false=>
   have e1:Jg call i L T N H κ=Ce i.dst i.lo .u L T fun L T=>κ L T N H .p:=by
    show @Option.rec Bool (fun _=>Ro) .no _ (MS i.g L T)=_
    rw[hgd]
   rw[hd,hlo] at e1
   obtain⟨L',T',e2,hts⟩:=tL (m:=m) (x:=.u) (L:=L) (T:=T) (d:=o.dst) (κ:=fun L T=>κ L T N H .p)
   have hf:Foot N N H H e0 e0 .p:=⟨rfl,rfl,rfl⟩
   refine⟨⟨.u,e0,e0,N,N⟩,L',T',H,.p,e1.trans e2,.inr ⟨rfl,rfl,fun V A β a w ht=>?_⟩,rfl,Nat.le_refl _,hts,htok (x:=.u) trivial hts,hO,hL,fun k c h=>(by cases h),fun k c h=>(by show eJ (HS H) e0 e0 k=_;rw[ui];exact h),hf,hdn⟩
   exact wA hg hgd ht
  |true=>
   have e1:Jg call i L T N H κ= @Option.rec Rs (fun _=>Ro) .no (fun r=>@Rs.rec (fun _=>Ro) (fun x N' H' g=>Ce i.dst i.lo x L T fun L T=>κ L T N' H' g) r) (i.k call L T N H):=by
    show @Option.rec Bool (fun _=>Ro) .no _ (MS i.g L T)=_
    rw[hgd]
   cases hkk:i.k call L T N H with
   |none=>
    exfalso
    apply hr
    rw[e1,hkk]
   |some r=>
    obtain⟨x,N',H',g⟩:=r
    have hk:p7 P m o.op=some i.k:=by
     rcases hk with hk|hk
     ·exact hk
     ·rw[hk] at hkk;cases hkk
    have e2:Jg call i L T N H κ=Ce i.dst i.lo x L T fun L T=>κ L T N' H' g:=by rw[e1,hkk]
    rw[hd,hlo] at e2
    obtain⟨L',T',e3,hts⟩:=tL (m:=m) (x:=x) (L:=L) (T:=T) (d:=o.dst) (κ:=fun L T=>κ L T N' H' g)
    obtain⟨h1,h2,h3,h4,Hv,Hv',h5,h6,h7,h8⟩:=CC (ops:=ops) hT hO hL hcall hk hkk
    exact⟨⟨x,Hv,Hv',N,N'⟩,L',T',H',g,e2.trans e3,.inl fun V A β a w hA hm ht=>⟨wA hg hgd ht,h5 V A β a w hA hm ht⟩,rfl,h1,hts,htok h2 hts,h3,h4,h6,h7,h8,hdn⟩
theorem StX.less {V A:Nat→Prop}{T1 T2:TX}{H1 H2:HF}{β:Nat→Pl}{a:Act}{w:World}(h:StX V A n T1 H1 β a w) (hT: ∀t y,T2 t=some y→T1 t=some y) (hH: ∀k c,H2 k=some c→H1 k=some c):StX V A n T2 H2 β a w:=by
 refine⟨h.mem.sub hH,h.dfr,h.siz,fun t y ht=>?_⟩
 obtain⟨v,e,hr⟩:=h.tmp t y (hT t y ht)
 have hk2:Keep (Zs V H1 β) (Zs V H2 β) w w:=⟨Nat.le_refl _,fun _ _ _=>rfl,fun b _ hb=>hb.imp id fun⟨k,hk,e⟩=>⟨k,(by
  cases q:H2 k with
  |none=>exact absurd q hk
  |some c=>rw[hH k c q];simp),e⟩⟩
 exact⟨v,e,hr.mono hk2 (fun _ h=>h) (fun _ _=>rfl)⟩
def Ends (_P:Program) (n _m:Nat) (V A:Nat→Prop) (N:Nat) (H:HF) (β:Nat→Pl) (w:World) (N':Nat) (T':TX) (H':HF) (a':Act) (w':World):Prop:=
 ∃A' β',(∀k,A k→A' k)∧(∀k,A' k→Ad A N N' k)∧Hst N N' A H β w H' β' w'∧StX V A' n T' H' β' a' w'
theorem rm {A A':Nat→Prop}{N N1 N2:Nat}(hA: ∀k,A k→ ¬(N≤k∧k<N2)) (h: ∀k,A' k→Ad A N N1 k) (hle:N≤N1): ∀k,A' k→ ¬(N1≤k∧k<N2):=by
 intro k hk ⟨g1,g2⟩
 rcases h k hk with h|h
 ·exact hA k h ⟨by omega,g2⟩
 ·omega
theorem EB {A A':Nat→Prop}{N N1 N2:Nat}(h: ∀k,A' k→Ad A N N1 k) (h1:N≤N1) (h2:N1≤N2): ∀k,Ad A' N1 N2 k→Ad A N N2 k:=by
 intro k hk
 rcases hk with hk|hk
 ·rcases h k hk with g|g
  ·exact .inl g
  ·exact .inr ⟨g.1,by omega⟩
 ·exact .inr ⟨by omega,hk.2⟩
theorem uU {t:Nat}{y:XV}(h:TS m [] T t=some y):TS m L T t=some y:=by
 unfold TS at h⊢
 cases hb:m.testBit t with
 |true=>rw[hb] at h;cases h
 |false=>rw[hb] at h;exact h
theorem nI (hcall:ig P call) {Q:Exit→Act→World→Prop}: ∀(l:List Oper) (is:List XI) (L:LX) (T:Tr XV) (N:Nat) (H:Tr Bx),gm (IV P n m ops) l=some is→gz (TS m L T)→fC H→fF N H→yC call is L T N H≠ .no→
 ∃T' N' H',yC call is L T N H=.n T' N' H'∧N≤N'∧gz (TS m [] T')∧fC H'∧fF N' H'∧ ∀V A β a w,(∀k,A k→ ¬(N≤k∧k<N'))→StX V A n (TS m L T) (HS H) β a w→
  (∀a' w',Ends P n m V A N (HS H) β w N' (TS m [] T') (HS H') a' w'→Q .normal a' w')→wpList P ops Q l a w
 |[],is,L,T,N,H,hl,hT,hO,hL,_=>by
  injection hl with hl
  subst hl
  refine⟨T,N,H,rfl,Nat.le_refl _,fun t y h=>hT t y (uU h),hO,hL,fun V A β a w _ hst hQ=>?_⟩
  exact hQ a w ⟨A,β,fun _ h=>h,fun _ h=>.inl h,Hst.refl,hst.less (fun t y h=>uU h) (fun _ _ h=>h)⟩
 |o::l,is,L,T,N,H,hl,hT,hO,hL,hr=>by
  unfold gm at hl
  split at hl
  ·cases hl
  ·rename_i i hi
   split at hl
   ·cases hl
   ·rename_i is' his
    injection hl with hl
    subst hl
    have e0':yC call (i::is') L T N H=Jg call i L T N H fun L T N H _=>yC call is' L T N H:=rfl
    rw[e0'] at hr
    obtain⟨e,L',T',H',g,e1,hd⟩:=pI (ops:=ops) hT hO hL hcall hi hr
    rw[e1] at hr
    obtain⟨T2,N2,H2,e2,k1,k2,k3,k4,k5⟩:=nI hcall (Q:=Q) l is' L' T' e.N' H' his hd.tok hd.hok hd.hlt hr
    refine⟨T2,N2,H2,e0'.trans (e1.trans e2),Nat.le_trans hd.le k1,k2,k3,k4,fun V A β a w hA hst hQ=>?_⟩
    unfold wpList
    have hf: ∀k,A k→ ¬(e.N≤k∧k<e.N'):=fun k hk hh=>hA k hk ⟨by rw[←hd.nm];exact hh.1,Nat.lt_of_lt_of_le hh.2 k1⟩
    refine hst.step hd.run (fun t y _ h=>h) hd.sub hf hd.dn (fun A' β' a' w' g1 g2 g3 g4=>?_)
    rw[hd.nm] at g2 g3
    refine k5 V A' β' a' w' (rm hA g2 hd.le) (g4.less hd.tmp hd.put) (fun a2 w2 ⟨A2,β2,f1,f2,f3,f4⟩=>?_)
    refine hQ a2 w2 ⟨A2,β2,fun k hk=>f1 k (g1 k hk),fun k hk=>EB g2 hd.le k1 k (f2 k hk),?_,f4⟩
    exact((g3.less hd.put).wide (Nat.le_refl _) k1).trans g1 (f3.wide hd.le (Nat.le_refl _))
end
abbrev PE:=Oper×Evt
def fT (l:List PE) (T:TX):TX:=l.foldl (fun T p=>vR p.1.dst p.2.x T) T
def fH (l:List PE) (H:HF):HF:=l.foldl (fun H p=>eJ H p.2.Hv p.2.Hv') H
section
variable {γ:Type}
def pU (F:Nat→Option γ) (u:Nat→Option (Option γ)):Nat→Option γ:=fun t=>(u t).getD (F t)
theorem qQ: ∀(us:List (Nat→Option (Option γ))) (i:Nat) (F:Nat→Option γ),eu (fun j=>decide (j<i)) 0 us F=(us.take i).foldl pU F
 |[],i,F=>by simp[eu]
 |u::us,0,F=>by
  rw[List.take_zero]
  exact funext fun t=>eX _ _ _ (fun j u _ hm=>by simp at hm)
 |u::us,i+1,F=>by
  rw[List.take_succ_cons,List.foldl_cons,←qQ us i]
  show eu (fun j=>decide (j<i+1)) (0+1) us (if decide (0<i+1)=true then(fun t=>(u t).getD (F t)) else F)=_
  rw[gY,if_pos (by simp)]
  congr 1
  funext j
  simp
theorem vE: ∀(us:List (Nat→Option (Option γ))) (F:Nat→Option γ),eu (fun _=>true) 0 us F=us.foldl pU F
 |[],F=>rfl
 |u::us,F=>by
  rw[List.foldl_cons,←vE us]
  show eu (fun _=>true) (0+1) us (if true=true then(fun t=>(u t).getD (F t)) else F)=_
  rw[gY,if_pos rfl];rfl
end
section
variable {P:Program}{ops:Array Oper}{n m:Nat}{call:eC}
theorem tj {δ:Type}(f:Oper→Evt→δ): ∀(l:List PE),List.zipWith f (l.map Prod.fst) (l.map Prod.snd)=l.map fun p=>f p.1 p.2
 |[]=>rfl
 |p::l=>by simp[tj f l]
theorem M9 (T:TX) (p:PE):pU T (Ei p.1.dst p.2)=vR p.1.dst p.2.x T:=by
 funext t
 unfold pU Ei vR
 split<;>rfl
theorem FW: ∀(l:List PE) (T:TX),(l.map fun p=>Ei p.1.dst p.2).foldl pU T=fT l T
 |[],_=>rfl
 |p::l,T=>by
  rw[List.map_cons,List.foldl_cons,FW l,M9];rfl
theorem NE {H:HF}{e:Evt}(h: ∀k c,e.Hv k=some c→H k=some c):pU H (uH e)=eJ H e.Hv e.Hv':=by
 funext k
 unfold pU
 by_cases hch:e.Hv' k=e.Hv k
 ·rw[show uH e k=none from by unfold uH;rw[if_pos hch]]
  show H k=_
  unfold eJ
  rw[hch]
  cases h2:e.Hv k with
  |none=>rfl
  |some c=>exact h k c h2
 ·rw[J2 hch]
  show e.Hv' k=_
  unfold eJ
  cases h2:e.Hv' k with
  |some c=>rfl
  |none=>
   cases h3:e.Hv k with
   |some c=>rfl
   |none=>exact absurd (h2.trans h3.symm) hch
theorem E2: ∀(l:List PE) (H:HF),(∀(j:Nat) (p:PE),l[j]? =some p→ ∀k c,p.2.Hv k=some c→fH (l.take j) H k=some c)→(l.map fun p=>uH p.2).foldl pU H=fH l H
 |[],_,_=>rfl
 |p::l,H,h=>by
  have h0: ∀k c,p.2.Hv k=some c→H k=some c:=h 0 p rfl
  rw[List.map_cons,List.foldl_cons,NE h0,E2 l _ (fun j q hq=>h (j+1) q (by simpa using hq))];rfl
def jn (Hv Hv':HF):Lg→Prop
 | .p=>Hv=e0∧Hv'=e0
 | .r k=>(∀j,j≠k→Hv j=none)∧Hv'=Hv
 | .w k=> ∀j,j≠k→Hv j=none∧Hv' j=none
 | .nw k=>Hv=e0∧ ∀j,j≠k→Hv' j=none
 | .c K K'=>Hv=HS K∧Hv'=HS K'
theorem Foot.c {N N':Nat}{H H':Tr Bx}{Hv Hv':HF}{g:Lg}(h:Foot N N' H H' Hv Hv' g):jn Hv Hv' g:=by
 cases g with
 |p=>exact⟨h.1,h.2.1⟩
 |r k=>exact⟨h.1,h.2.1⟩
 |w k=>exact h.1
 |nw k=>exact⟨h.2.2.1,h.2.2.2⟩
 |c K K'=>exact⟨h.1,h.2.1⟩
def Clear (Hv Hv' Hw Hw':HF):Prop:= ∀k,(Hv' k≠Hv k→Hw k=none∧Hw' k=none)∧(Hw' k≠Hw k→Hv k=none∧Hv' k=none)
theorem ve: ∀ {x y:AV},oB x y=true→x=y
 | .b _,y,h=>by cases y<;>simp[oB] at h;subst h;rfl
 | .i _ _,y,h=>by cases y<;>simp[oB] at h;obtain⟨h1,h2⟩:=h;subst h1 h2;rfl
 | .l _,y,h=>by cases y<;>simp[oB] at h;subst h;rfl
 | .p _ _,y,h=>by cases y<;>simp[oB] at h;obtain⟨h1,h2⟩:=h;subst h1 h2;rfl
 | .s _ _ _ _ _ _,y,h=>by cases y<;>simp[oB] at h;obtain⟨⟨⟨⟨⟨h1,h2⟩,h3⟩,h4⟩,h5⟩,h6⟩:=h;subst h1 h2 h3 h4 h5 h6;rfl
 | .z,y,h=>by cases y<;>simp[oB] at h;rfl
 | .ev,y,h=>by cases y<;>simp[oB] at h
 | .np,y,h=>by cases y<;>simp[oB] at h;rfl
 | .f0 _,y,h=>by cases y<;>simp[oB] at h;subst h;rfl
 | .fc a b,y,h=>by
   cases y<;>simp[oB] at h
   obtain⟨h1,h2⟩:=h
   rw[ve h1,ve h2]
theorem vp: ∀ {x y:Rp},y4 x y=true→x.flat=y.flat
 | .e,y,h=>by cases y<;>simp[y4] at h;rfl
 | .c _,y,h=>by cases y<;>simp[y4] at h;rw[ve h]
 | .n _ _ l r,y,h=>by
   cases y<;>simp[y4] at h
   obtain⟨h1,h2⟩:=h
   show l.flat++r.flat=_
   rw[vp h1,vp h2];rfl
theorem Aw {K K':Tr Bx}{k:Nat}(h:Cj (K.get k) (K'.get k)=true):HS K k=HS K' k:=by
 unfold HS
 cases h1:K.get k with
 |none=>
  cases h2:K'.get k with
  |none=>rfl
  |some b=>rw[h1,h2] at h;simp[Cj] at h
 |some b=>
  cases h2:K'.get k with
  |none=>rw[h1,h2] at h;simp[Cj] at h
  |some b'=>
   rw[h1,h2] at h
   simp[Cj] at h
   obtain⟨h3,h4⟩:=h
   show some (b.U,b.r.flat)=some (b'.U,b'.r.flat)
   rw[h3,vp h4]
theorem jI {K:Tr Bx}{k:Nat}(h:ln K k=true):HS K k=none:=by
 unfold ln at h
 unfold HS
 cases h1:K.get k with
 |none=>rfl
 |some b=>rw[h1] at h;cases h
theorem kZ {Hw Hw':HF}:Clear e0 e0 Hw Hw':=fun _k=>⟨fun h=>absurd rfl h,fun _=>⟨rfl,rfl⟩⟩
theorem Clear.symm {Hv Hv' Hw Hw':HF}(h:Clear Hv Hv' Hw Hw'):Clear Hw Hw' Hv Hv':=fun k=>⟨(h k).2,(h k).1⟩
theorem xh {a b:Nat}(h:(!Nat.beq a b)=true):a≠b:=fun e=>by subst e;rw[Nat.beq_refl] at h;cases h
theorem oS {Hv Hv' Hw Hw':HF}{k k':Nat}(h1:jn Hv Hv' (.r k)) (h2: ∀j,j≠k'→Hw j=none∧Hw' j=none) (hne:k≠k'):Clear Hv Hv' Hw Hw':=fun j=>by
 obtain⟨h1,e⟩:=h1
 subst e
 refine⟨fun h=>absurd rfl h,fun h=>?_⟩
 by_cases ej:j=k
 ·exact absurd (by rw[(h2 j (by omega)).1,(h2 j (by omega)).2]) h
 ·exact⟨h1 j ej,h1 j ej⟩
theorem oh {Hv Hv' Hw Hw':HF}{k k':Nat}(h1: ∀j,j≠k→Hv j=none∧Hv' j=none) (h2: ∀j,j≠k'→Hw j=none∧Hw' j=none) (hne:k≠k'):Clear Hv Hv' Hw Hw':=fun j=>by
 constructor
 ·intro h
  by_cases ej:j=k'
  ·exact absurd (by rw[(h1 j (by omega)).1,(h1 j (by omega)).2]) h
  ·exact h2 j ej
 ·intro h
  by_cases ej:j=k
  ·exact absurd (by rw[(h2 j (by omega)).1,(h2 j (by omega)).2]) h
  ·exact h1 j ej
theorem ox {Hv Hv' Hw Hw':HF}{k:Nat}(h1: ∀j,j≠k→Hv j=none∧Hv' j=none) (h2:Hw k=none) (h3:Hw' k=none):Clear Hv Hv' Hw Hw':=fun j=>by
 constructor
 ·intro h
  by_cases ej:j=k
  ·subst ej;exact⟨h2,h3⟩
  ·exact absurd (by rw[(h1 j ej).1,(h1 j ej).2]) h
 ·intro h
  by_cases ej:j=k
  ·subst ej;exact absurd (by rw[h2,h3]) h
  ·exact h1 j ej
theorem yj {Hv Hv' Hw Hw':HF}{k:Nat}(h1:jn Hv Hv' (.r k)) (h2:Hw k=Hw' k):Clear Hv Hv' Hw Hw':=fun j=>by
 obtain⟨h1,e⟩:=h1
 subst e
 refine⟨fun h=>absurd rfl h,fun h=>?_⟩
 by_cases ej:j=k
 ·subst ej;exact absurd h2.symm h
 ·exact⟨h1 j ej,h1 j ej⟩
theorem KA {Hv Hv':HF}{k:Nat}(h:jn Hv Hv' (.nw k)): ∀j,j≠k→Hv j=none∧Hv' j=none:=fun j hj=>⟨by rw[h.1];rfl,h.2 j hj⟩
theorem jE {g g':Lg}{Hv Hv' Hw Hw':HF}(h1:jn Hv Hv' g) (h2:jn Hw Hw' g') (h:apart g g'=true):Clear Hv Hv' Hw Hw':=by
 cases g with
 |p=>obtain⟨rfl,rfl⟩:=h1;exact kZ
 |r k=>
  cases g' with
  |p=>obtain⟨rfl,rfl⟩:=h2;exact kZ.symm
  |r k'=>
   obtain⟨_,rfl⟩:=h1
   obtain⟨_,rfl⟩:=h2
   exact fun j=>⟨fun h=>absurd rfl h,fun h=>absurd rfl h⟩
  |w k'=>exact oS h1 h2 (xh h)
  |nw k'=>exact oS h1 (KA h2) (xh h)
  |c K K'=>obtain⟨rfl,rfl⟩:=h2;exact yj h1 (Aw h)
 |w k=>
  cases g' with
  |p=>obtain⟨rfl,rfl⟩:=h2;exact kZ.symm
  |r k'=>exact(oS h2 h1 (xh h)).symm
  |w k'=>exact oh h1 h2 (xh h)
  |nw k'=>exact oh h1 (KA h2) (xh h)
  |c K K'=>
   obtain⟨rfl,rfl⟩:=h2
   have h:(ln K k&&ln K' k)=true:=h
   rw[Bool.and_eq_true] at h
   exact ox h1 (jI h.1) (jI h.2)
 |nw k=>
  cases g' with
  |p=>obtain⟨rfl,rfl⟩:=h2;exact kZ.symm
  |r k'=>exact(oS h2 (KA h1) (xh h)).symm
  |w k'=>exact oh (KA h1) h2 (Ne.symm (xh h))
  |nw k'=>exact oh (KA h1) (KA h2) (xh h)
  |c K K'=>
   obtain⟨rfl,rfl⟩:=h2
   have h:(ln K k&&ln K' k)=true:=h
   rw[Bool.and_eq_true] at h
   exact ox (KA h1) (jI h.1) (jI h.2)
 |c K K'=>
  cases g' with
  |p=>obtain⟨rfl,rfl⟩:=h2;exact kZ.symm
  |r k'=>obtain⟨rfl,rfl⟩:=h1;exact(yj h2 (Aw h)).symm
  |w k'=>
   obtain⟨rfl,rfl⟩:=h1
   have h:(ln K k'&&ln K' k')=true:=h
   rw[Bool.and_eq_true] at h
   exact(ox h2 (jI h.1) (jI h.2)).symm
  |nw k'=>
   obtain⟨rfl,rfl⟩:=h1
   have h:(ln K k'&&ln K' k')=true:=h
   rw[Bool.and_eq_true] at h
   exact(ox (KA h2) (jI h.1) (jI h.2)).symm
  |c _ _=>cases h
theorem mS {mk:Nat}{g:Lg}: ∀ {l:sS},pE mk g l=true→ ∀j g',(j,g')∈l→mk.testBit j=false→apart g' g=true
 |[],_,j,g',h,_=>by cases h
 |(i,q)::l,hc,j,g',h,hb=>by
  have hc: @Bool.rec (fun _=>Bool) (bA (apart q g) (pE mk g l)) (pE mk g l) (mk.testBit i)=true:=hc
  rcases List.mem_cons.1 h with h|h
  ·injection h with h1 h2
   subst h1 h2
   rw[hb] at hc
   have hc:bA (apart g' g) (pE mk g l)=true:=hc
   rw[Ft,Bool.and_eq_true] at hc
   exact hc.1
  ·refine mS (l:=l) ?_ j g' h hb
   cases hq:mk.testBit i with
   |true=>rw[hq] at hc;exact hc
   |false=>
    rw[hq] at hc
    have hc:bA (apart q g) (pE mk g l)=true:=hc
    rw[Ft,Bool.and_eq_true] at hc
    exact hc.2
end
section
variable {P:Program}{ops:Array Oper}{o:Oper}{n m N:Nat}{L:LX}{T:Tr XV}{H:Tr Bx}{call:eC}
theorem tU {acc:List Nat}{j:Nat}: ∀(l:List Nat) (m0:Nat),(l.foldl (fun m j=>m|||2^j|||acc.getD j 0) m0).testBit j=true→m0.testBit j=true∨ ∃b∈l,j=b∨(acc.getD b 0).testBit j=true
 |[],m0,h=>.inl h
 |b::l,m0,h=>by
  rcases tU l _ h with h|⟨b',hb,h⟩
  ·rw[Nat.testBit_or,Nat.testBit_or,Bool.or_eq_true,Bool.or_eq_true] at h
   rcases h with(h|h)|h
   ·exact .inl h
   ·rw[Nat.testBit_two_pow] at h
    have h:b=j:=by simpa using h
    exact .inr ⟨b,List.mem_cons_self ..,.inl h.symm⟩
   ·exact .inr ⟨b,List.mem_cons_self ..,.inr h⟩
  ·exact .inr ⟨b',List.mem_cons_of_mem _ hb,h⟩
def L8 (ops:Array Oper) (acc:List Nat):Prop:= ∀(i mk:Nat),acc[i]? =some mk→ ∀j,mk.testBit j=true→Prec ops j i
theorem rn: ∀(l:List Oper) (acc:List Nat),(∀k,k<l.length→l[k]? =ops[acc.length+k]?)→L8 ops acc→L8 ops (l.foldl (fun acc o=>acc++[xJ acc o]) acc)∧(l.foldl (fun acc o=>acc++[xJ acc o]) acc).length=acc.length+l.length
 |[],acc,_,hi=>⟨hi,rfl⟩
 |o::l,acc,hl,hi=>by
  have ho:ops[acc.length]? =some o:=by have:=hl 0 (by simp);simpa using this.symm
  have hi2:L8 ops (acc++[xJ acc o]):=by
   intro i mk hmk j hj
   by_cases hlt:i<acc.length
   ·rw[List.getElem?_append_left hlt] at hmk
    exact hi i mk hmk j hj
   ·have hlen:=(List.getElem?_eq_some_iff.1 hmk).1
    have e:i=acc.length:=by simp at hlen;omega
    subst e
    rw[List.getElem?_append_right (Nat.le_refl _)] at hmk
    simp at hmk
    subst hmk
    rcases tU (bv o) 0 hj with h|⟨b,hb,h⟩
    ·simp at h
    ·rcases h with h|h
     ·subst h;exact .one ho hb
     ·refine Prec.tr ?_ (.one ho hb)
      cases hq:acc[b]? with
      |none=>rw[List.getD_eq_getElem?_getD,hq] at h;simp at h
      |some mk=>rw[List.getD_eq_getElem?_getD,hq] at h;exact hi b mk hq j h
  obtain⟨h1,h2⟩:=rn l (acc++[xJ acc o]) (fun k hk=>by
   have:=hl (k+1) (by simpa using hk)
   rw[List.length_append]
   simp only[List.length_cons,List.length_nil]
   rw[show acc.length+(0+1)+k=acc.length+(k+1) by omega]
   simpa using this) hi2
  refine⟨h1,?_⟩
  rw[List.foldl_cons,h2];simp;omega
structure DidC (P:Program) (ops:Array Oper) (o:Oper) (n m:Nat) (L:LX) (T:Tr XV) (N:Nat) (H:Tr Bx) (e:Evt) (L':LX) (T':Tr XV) (H':Tr Bx) (g:Lg):Prop where
 run:Gx P ops o (TS m L T) e∨wN ops o (TS m L T) e
 nm:e.N=N
 le:N≤e.N'
 tmp: ∀t y,TS m L' T' t=some y→vR o.dst e.x (TS m L T) t=some y
 tok:gz (TS m L' T')
 hok:fC H'
 hlt:fF e.N' H'
 sub: ∀k c,e.Hv k=some c→HS H k=some c
 put: ∀k c,HS H' k=some c→eJ (HS H) e.Hv e.Hv' k=some c
 foot:jn e.Hv e.Hv' g
theorem KO {k j:Nat}{c}(h:HS (H.del k) j=some c):j≠k∧HS H j=some c:=by
 unfold HS at h⊢
 cases h9:(H.del k).get j with
 |none=>rw[h9] at h;cases h
 |some b'=>
  rw[h9] at h
  injection h with h
  obtain⟨r1,r2⟩:=Tr.del_get H k j h9
  refine⟨r1,?_⟩
  rw[r2,←h];rfl
theorem qA: ∀ {hs:List Nat}{H:Tr Bx}{j:Nat}{c},HS (C5 H hs) j=some c→j∉hs∧HS H j=some c
 |[],H,j,c,h=>⟨by simp,h⟩
 |k::hs,H,j,c,h=>by
  obtain⟨h1,h2⟩:=qA (hs:=hs) (H:=H.del k) h
  obtain⟨h3,h4⟩:=KO h2
  exact⟨by simp[h3,h1],h4⟩
theorem sv: ∀ {hs:List Nat}{H:Tr Bx}{j:Nat}{b:Bx},(C5 H hs).get j=some b→H.get j=some b
 |[],_H,_j,_b,h=>h
 |k::hs,H,j,_b,h=>(Tr.del_get H k j (sv (hs:=hs) (H:=H.del k) h)).2
theorem tZ {H0 Hc:Tr Bx}(hO0:fC H0) (hL0:fF N H0): ∀ {hs:List Nat}{H H2:Tr Bx},ye H0 Hc hs H=some H2→fC H→fF N H→fC H2∧fF N H2∧ ∀j c,HS H2 j=some c→HS H j=some c∨(j∈hs∧HS H0 j=some c∧HS Hc j=none)
 |[],H,H2,h,hO,hL=>by
  injection h with h
  subst h
  exact⟨hO,hL,fun j c h=>.inl h⟩
 |k::hs,H,H2,h,hO,hL=>by
  unfold ye at h
  split at h
  ·rename_i b h1 h2
   obtain⟨g1,g2,g3⟩:=tZ hO0 hL0 (hs:=hs) h (iW hO (hO0 k b h2).1 (hO0 k b h2).2) (iS hL (Nat.le_refl _) (hL0 k b h2))
   refine⟨g1,g2,fun j c hj=>?_⟩
   rcases g3 j c hj with q|⟨q1,q2,q3⟩
   ·rcases jg q with⟨e1,e2⟩|⟨_,e2⟩
    ·subst e1 e2
     exact .inr ⟨by simp,jW h2,by unfold HS;rw[h1];rfl⟩
    ·exact .inl e2
   ·exact .inr ⟨by simp[q1],q2,q3⟩
  ·cases h
theorem zk (hT:gz (TS m L T)) (hO:fC H) (hL:fF N H) (hcall:ig P call) {i:XI}(hi:IV P n m ops o=some i) {hs:List Nat}{κ:LX→Tr XV→Nat→Tr Bx→Lg→Ro}(hr:Ct call i hs L T N H κ≠ .no):
 ∃e L' T' H' g,Ct call i hs L T N H κ=κ L' T' e.N' H' g∧DidC P ops o n m L T N H e L' T' H' g:=by
 cases hs with
 |nil=>
  obtain⟨e,L',T',H',g,e1,hd⟩:=pI (ops:=ops) (n:=n) hT hO hL hcall hi (κ:=κ) hr
  exact⟨e,L',T',H',g,e1,hd.run,hd.nm,hd.le,hd.tmp,hd.tok,hd.hok,hd.hlt,hd.sub,hd.put,hd.foot.c⟩
 |cons h t=>
  have hO2:fC (C5 H (h::t)):=fun j b hj=>hO j b (sv hj)
  have hL2:fF N (C5 H (h::t)):=fun j b hj=>hL j b (sv hj)
  obtain⟨e,L',T',H',g,e1,hd⟩:=pI (ops:=ops) (n:=n) hT hO2 hL2 hcall hi (κ:=fun L T N H' g=>bI (Gy g) (@Option.rec (Tr Bx) (fun _=>Ro) .no (fun H2=>κ L T N H2 g) (ye H H' (h::t) H')) .no) hr
  have hr1:Ct call i (h::t) L T N H κ=bI (Gy g) (@Option.rec (Tr Bx) (fun _=>Ro) .no (fun H2=>κ L' T' e.N' H2 g) (ye H H' (h::t) H')) .no:=e1
  have hcl:Gy g=true:=by
   cases hq:Gy g with
   |true=>rfl
   |false=>rw[hr1,hq] at hr;exact absurd rfl hr
  have hr2:Ct call i (h::t) L T N H κ= @Option.rec (Tr Bx) (fun _=>Ro) .no (fun H2=>κ L' T' e.N' H2 g) (ye H H' (h::t) H'):=by rw[hr1,hcl];rfl
  cases ha:ye H H' (h::t) H' with
  |none=>rw[hr2,ha] at hr;exact absurd rfl hr
  |some H2=>
   rw[ha] at hr2
   have hLe:fF e.N' H:=fun j b hj=>Nat.lt_of_lt_of_le (hL j b hj) hd.le
   obtain⟨g1,g2,g3⟩:=tZ hO hLe ha hd.hok hd.hlt
   refine⟨e,L',T',H2,g,hr2,hd.run,hd.nm,hd.le,hd.tmp,hd.tok,g1,g2,fun k c hk=>(qA (hd.sub k c hk)).2,fun k c hk=>?_,hd.foot.c⟩
   rcases g3 k c hk with q|⟨q1,q2,q3⟩
   ·have hp:=hd.put k c q
    rcases pA hp with r|⟨r1,r2,r3⟩
    ·unfold eJ;rw[r]
    ·unfold eJ;rw[r1,r2];exact(qA r3).2
   ·--a hidden box
    have hv:e.Hv k=none:=by
     cases hx:e.Hv k with
     |none=>rfl
     |some d=>exact absurd q1 (qA (hd.sub k d hx)).1
    have hv':e.Hv' k=none:=by
     cases hx:e.Hv' k with
     |none=>rfl
     |some d=>
      exfalso
      have hf:=hd.foot
      cases g with
      |p=>obtain⟨_,h2,_⟩:=hf;rw[h2] at hx;cases hx
      |r b=>obtain⟨_,h2,_⟩:=hf;rw[h2,hv] at hx;cases hx
      |w b=>cases hcl
      |nw b=>cases hcl
      |c K K'=>obtain⟨_,h2,_,h4⟩:=hf;rw[h2,h4,q3] at hx;cases hx
    unfold eJ;rw[hv',hv];exact q2
end
section
variable {P:Program}{ops:Array Oper}{n m:Nat}{call:eC}
def jq (lr lw:sS) (j:Nat) (g:Lg):Prop:=(j,g)∈lw∨((j,g)∈lr∧ ∃b,g=.r b)
theorem FG {b:Bool}{x:Ro}(h:bI b x .no≠ .no):b=true:=by
 cases b with
 |true=>rfl
 |false=>exact absurd rfl h
theorem BZ {mk k:Nat}{g:Lg}{lr lw:sS}{κ:sS→sS→Ro}(h:uN mk k g lr lw κ≠ .no):uN mk k g lr lw κ=κ lr ((k,g)::lw)∧ ∀j g' Hv Hv' Hw Hw',jq lr lw j g'→mk.testBit j=false→jn Hv Hv' g'→jn Hw Hw' g→Clear Hv Hv' Hw Hw':=by
 have h1:=FG (b:=pE mk g lw) (x:=bI (pE mk g lr) (κ lr ((k,g)::lw)) .no) h
 have e1:uN mk k g lr lw κ=bI (pE mk g lr) (κ lr ((k,g)::lw)) .no:=by unfold uN;rw[h1];rfl
 rw[e1] at h
 have h2:=FG h
 refine⟨by rw[e1,h2];rfl,fun j g' Hv Hv' Hw Hw' hl hb f1 f2=>?_⟩
 rcases hl with hl|⟨hl,_⟩
 ·exact jE f1 f2 (mS h1 j g' hl hb)
 ·exact jE f1 f2 (mS h2 j g' hl hb)
theorem CQ {mk k:Nat}{g:Lg}{lr lw:sS}{κ:sS→sS→Ro}(h:Ib mk k g lr lw κ≠ .no): ∃lr' lw',Ib mk k g lr lw κ=κ lr' lw'∧(∀j g',jq lr lw j g'→jq lr' lw' j g')∧(g=.p∨jq lr' lw' k g)∧
 ∀j g' Hv Hv' Hw Hw',jq lr lw j g'→mk.testBit j=false→jn Hv Hv' g'→jn Hw Hw' g→Clear Hv Hv' Hw Hw':=by
 have hB: ∀ {g:Lg},uN mk k g lr lw κ≠ .no→ ∃lr' lw',uN mk k g lr lw κ=κ lr' lw'∧(∀j g',jq lr lw j g'→jq lr' lw' j g')∧(g=.p∨jq lr' lw' k g)∧
  ∀j g' Hv Hv' Hw Hw',jq lr lw j g'→mk.testBit j=false→jn Hv Hv' g'→jn Hw Hw' g→Clear Hv Hv' Hw Hw':=fun{g} h=>by
  obtain⟨h1,h2⟩:=BZ h
  exact⟨lr,(k,g)::lw,h1,fun j g' hl=>hl.imp (fun q=>List.mem_cons_of_mem _ q) id,.inr (.inl (List.mem_cons_self ..)),h2⟩
 cases g with
 |p=>exact⟨lr,lw,rfl,fun _ _ h=>h,.inl rfl,fun j g' Hv Hv' Hw Hw' _ _ _ f2=>by obtain⟨rfl,rfl⟩:=f2;exact kZ.symm⟩
 |r b=>
  have h1:=FG (b:=pE mk (.r b) lw) (x:=κ ((k,.r b)::lr) lw) h
  refine⟨(k,.r b)::lr,lw,?_,fun j g' hl=>hl.imp id fun q=>⟨List.mem_cons_of_mem _ q.1,q.2⟩,.inr (.inr ⟨List.mem_cons_self ..,b,rfl⟩),fun j g' Hv Hv' Hw Hw' hl hb f1 f2=>?_⟩
  ·show bI (pE mk (.r b) lw) (κ ((k,.r b)::lr) lw) .no=_
   rw[h1];rfl
  ·rcases hl with hl|⟨hl,b',rfl⟩
   ·exact jE f1 f2 (mS h1 j g' hl hb)
   ·exact jE f1 f2 rfl
 |w b=>exact hB h
 |nw b=>exact hB h
 |c K K'=>exact hB h
def PM (ops:Array Oper) (j i:Nat):Prop:=((iN ops.toList).getD i 0).testBit j=true
structure InvD (P:Program) (ops:Array Oper) (T0:TX) (H0:HF) (N0:Nat) (full:List PE) (N:Nat):Prop where
 all: ∀(j:Nat) (p:PE),full[j]? =some p→ ∃Tl,(Gx P ops p.1 Tl p.2∨wN ops p.1 Tl p.2)∧(∀t x,Tl t=some x→fT (full.take j) T0 t=some x)∧ ∀k c,p.2.Hv k=some c→fH (full.take j) H0 k=some c
 nm: ∀(j:Nat) (p:PE),full[j]? =some p→N0≤p.2.N∧p.2.N≤p.2.N'∧p.2.N'≤N
 mono: ∀(j i:Nat) (p q:PE),j<i→full[j]? =some p→full[i]? =some q→p.2.N'≤q.2.N
 con: ∀(j i:Nat) (p q:PE),j<i→ ¬PM ops j i→full[j]? =some p→full[i]? =some q→Clear p.2.Hv p.2.Hv' q.2.Hv q.2.Hv'
theorem IR (l:List PE) (p:PE) (T:TX):fT (l++[p]) T=vR p.1.dst p.2.x (fT l T):=by unfold fT;rw[List.foldl_append];rfl
theorem Ii (l:List PE) (p:PE) (H:HF):fH (l++[p]) H=eJ (fH l H) p.2.Hv p.2.Hv':=by unfold fH;rw[List.foldl_append];rfl
theorem Dq {d:Option Nat}{x:XV}{T1 T2:TX}(h: ∀t y,T1 t=some y→T2 t=some y): ∀t y,vR d x T1 t=some y→vR d x T2 t=some y:=by
 intro t y ht
 unfold vR at ht⊢
 split at ht
 ·rename_i e;rw[if_pos e];exact ht
 ·rename_i e;rw[if_neg e];exact h t y ht
theorem C8 {H1 H2 Hv Hv':HF}(h: ∀k c,H1 k=some c→H2 k=some c): ∀k c,eJ H1 Hv Hv' k=some c→eJ H2 Hv Hv' k=some c:=by
 intro k c hk
 rcases pA hk with r|⟨r1,r2,r3⟩
 ·unfold eJ;rw[r]
 ·unfold eJ;rw[r1,r2];exact h k c r3
theorem sn (hcall:ig P call) {T0:TX}{H0:HF}{N0:Nat}: ∀(l:List Oper) (ms:List Nat) (js:List XJ) (pre:List PE) (L:LX) (T:Tr XV) (N:Nat) (H:Tr Bx) (lr lw:sS),
 lW P n m ops ms l=some js→ms.length=l.length→(∀k,k<l.length→ms[k]? =(iN ops.toList)[pre.length+k]?)→ops.toList=pre.map Prod.fst++l→
 gz (TS m L T)→fC H→fF N H→N0≤N→InvD P ops T0 H0 N0 pre N→(∀t y,TS m L T t=some y→fT pre T0 t=some y)→(∀k c,HS H k=some c→fH pre H0 k=some c)→
 (∀(j:Nat) (p:PE),pre[j]? =some p→(p.2.Hv=e0∧p.2.Hv'=e0)∨ ∃g,jn p.2.Hv p.2.Hv' g∧jq lr lw j g)→uw call js pre.length L T N H lr lw≠ .no→
 ∃full T' N' H',uw call js pre.length L T N H lr lw=.n T' N' H'∧N≤N'∧InvD P ops T0 H0 N0 full N'∧full.map Prod.fst=ops.toList∧gz (TS m [] T')∧fC H'∧fF N' H'∧
  (∀t y,TS m [] T' t=some y→fT full T0 t=some y)∧ ∀k c,HS H' k=some c→fH full H0 k=some c
 |[],ms,js,pre,L,T,N,H,lr,lw,hw,hml,hms,ho,hT,hO,hL,hN,hi,hts,hhs,hlg,hr=>by
  have:js=[]:=by
   cases ms with
   |nil=>injection hw with hw;exact hw.symm
   |cons a b=>simp at hml
  subst this
  refine⟨pre,T,N,H,rfl,Nat.le_refl _,hi,by rw[ho];simp,fun t y h=>hT t y (uU h),hO,hL,fun t y h=>hts t y (uU h),hhs⟩
 |o::l,[],js,pre,L,T,N,H,lr,lw,hw,hml,hms,ho,hT,hO,hL,hN,hi,hts,hhs,hlg,hr=>by simp at hml
 |o::l,mk::ms,js,pre,L,T,N,H,lr,lw,hw,hml,hms,ho,hT,hO,hL,hN,hi,hts,hhs,hlg,hr=>by
  unfold lW at hw
  split at hw
  ·cases hw
  ·rename_i x hx
   split at hw
   ·cases hw
   ·rename_i xs hxs
    injection hw with hw
    subst hw
    have e1:uw call (⟨x,vP o.op,mk⟩::xs) pre.length L T N H lr lw=Ct call x (@Bool.rec (fun _=>List Nat) [] (Ph mk lw) (vP o.op)) L T N H fun L T N H g=>Ib mk pre.length g lr lw fun lr lw=>uw call xs (pre.length+1) L T N H lr lw:=rfl
    rw[e1] at hr
    obtain⟨e,L',T',H',g,e2,hd⟩:=zk (ops:=ops) (n:=n) hT hO hL hcall hx hr
    rw[e2] at hr
    obtain⟨lr',lw',e3,g1,g2,g3⟩:=CQ hr
    rw[e3] at hr
    have hmk:(iN ops.toList)[pre.length]? =some mk:=by have:=hms 0 (by simp);simpa using this.symm
    have hlen:(pre++[(o,e)]).length=pre.length+1:=by simp
    have hin: ∀(j:Nat) (p:PE),(pre++[(o,e)])[j]? =some p→(j<pre.length∧pre[j]? =some p)∨(j=pre.length∧p=(o,e)):=by
     intro j p hj
     by_cases hlt:j<pre.length
     ·rw[List.getElem?_append_left hlt] at hj;exact .inl ⟨hlt,hj⟩
     ·have h1:=(List.getElem?_eq_some_iff.1 hj).1
      have ej:j=pre.length:=by simp at h1;omega
      subst ej
      rw[List.getElem?_append_right (Nat.le_refl _)] at hj
      simp at hj
      exact .inr ⟨rfl,hj.symm⟩
    have htk: ∀j,j≤pre.length→(pre++[(o,e)]).take j=pre.take j:=fun j hj=>List.take_append_of_le_length hj
    have hne:N≤e.N':=hd.le
    have hi2:InvD P ops T0 H0 N0 (pre++[(o,e)]) e.N':=by
     refine⟨fun j p hj=>?_,fun j p hj=>?_,fun j i p q hji hj hq=>?_,fun j i p q hji hpm hj hq=>?_⟩
     ·rcases hin j p hj with⟨hlt,hj⟩|⟨rfl,rfl⟩
      ·rw[htk j (Nat.le_of_lt hlt)];exact hi.all j p hj
      ·rw[htk pre.length (Nat.le_refl _),List.take_length]
       exact⟨TS m L T,hd.run,hts,fun k c hk=>hhs k c (hd.sub k c hk)⟩
     ·rcases hin j p hj with⟨hlt,hj⟩|⟨rfl,rfl⟩
      ·have:=hi.nm j p hj;exact⟨this.1,this.2.1,Nat.le_trans this.2.2 hne⟩
      ·refine⟨by show N0≤e.N;rw[hd.nm];exact hN,by show e.N≤e.N';rw[hd.nm];exact hne,Nat.le_refl _⟩
     ·rcases hin i q hq with⟨hlt,hq⟩|⟨rfl,rfl⟩
      ·rcases hin j p hj with⟨_,hj⟩|⟨rfl,rfl⟩
       ·exact hi.mono j i p q hji hj hq
       ·omega
      ·rcases hin j p hj with⟨_,hj⟩|⟨rfl,rfl⟩
       ·show p.2.N'≤e.N
        rw[hd.nm];exact(hi.nm j p hj).2.2
       ·omega
     ·rcases hin i q hq with⟨hlt,hq⟩|⟨rfl,rfl⟩
      ·rcases hin j p hj with⟨_,hj⟩|⟨rfl,rfl⟩
       ·exact hi.con j i p q hji hpm hj hq
       ·omega
      ·rcases hin j p hj with⟨_,hj⟩|⟨rfl,rfl⟩
       ·rcases hlg j p hj with⟨h1,h2⟩|⟨g',f1,hl⟩
        ·rw[h1,h2];exact kZ
        ·refine g3 j g' _ _ _ _ hl ?_ f1 hd.foot
         cases hb:mk.testBit j with
         |false=>rfl
         |true=>
          exfalso
          apply hpm
          unfold PM
          rw[List.getD_eq_getElem?_getD,hmk];exact hb
       ·omega
    have hlg2: ∀(j:Nat) (p:PE),(pre++[(o,e)])[j]? =some p→(p.2.Hv=e0∧p.2.Hv'=e0)∨ ∃g,jn p.2.Hv p.2.Hv' g∧jq lr' lw' j g:=by
     intro j p hj
     rcases hin j p hj with⟨hlt,hj⟩|⟨rfl,rfl⟩
     ·rcases hlg j p hj with h|⟨g',f1,hl⟩
      ·exact .inl h
      ·exact .inr ⟨g',f1,g1 j g' hl⟩
     ·rcases g2 with rfl|h
      ·exact .inl hd.foot
      ·exact .inr ⟨g,hd.foot,h⟩
    rw[←hlen] at hr
    obtain⟨full,T2,N2,H2,e4,k1,k2,k3,k4,k5,k6,k7,k8⟩:=sn hcall l ms xs (pre++[(o,e)]) L' T' e.N' H' lr' lw' hxs (by simpa using hml) (fun k hk=>by
     have:=hms (k+1) (by simpa using hk)
     rw[hlen,show pre.length+1+k=pre.length+(k+1) by omega]
     simpa using this) (by rw[ho];simp) hd.tok hd.hok hd.hlt (Nat.le_trans hN hne) hi2
     (fun t y h=>by rw[IR];exact Dq hts t y (hd.tmp t y h)) (fun k c h=>by rw[Ii];exact C8 hhs k c (hd.put k c h)) hlg2 hr
    rw[hlen] at e4
    exact⟨full,T2,N2,H2,e1.trans (e2.trans (e3.trans e4)),Nat.le_trans hne k1,k2,k3,k4,k5,k6,k7,k8⟩
end
section
variable {P:Program}{ops:Array Oper}{n m N:Nat}{T:Tr XV}{H:Tr Bx}{call:eC}
theorem tT: ∀ {ms:List Nat}{l:List Oper}{js:List XJ},lW P n m ops ms l=some js→ms.length=l.length→ ∀o∈l,∃x,IV P n m ops o=some x
 |_,[],_,_,_,o,ho=>by cases ho
 |[],_::_,_,_,hl,o,ho=>by simp at hl
 |mk::ms,o'::l,js,h,hl,o,ho=>by
  unfold lW at h
  split at h
  ·cases h
  ·rename_i x hx
   split at h
   ·cases h
   ·rename_i xs hxs
    rcases List.mem_cons.1 ho with rfl|ho
    ·exact⟨x,hx⟩
    ·exact tT hxs (by simpa using hl) o ho
theorem rL {d:Option Nat}{l:List Nat}(h:AJ d l=false): ∀t,d=some t→t∉l:=by
 intro t ht hm
 subst ht
 have:l.any (Nat.beq t)=true:=fh.2 hm
 rw[show AJ (some t) l=l.any (Nat.beq t) from rfl,this] at h
 cases h
theorem Ea {ms:List Nat}{l:List Oper}{i:Nat}{q:Oper}(h:No ops ms l i=true) (hq:l[i]? =some q):(∀j∈bv q,j<i)∧ ∀j p,j<i→(ms.getD i 0).testBit j=false→l[j]? =some p→IM ops p q=true:=by
 unfold No at h
 rw[hq] at h
 dsimp only at h
 rw[Bool.and_eq_true] at h
 refine⟨fun j hj=>bU.1 (List.all_eq_true.1 h.1 j hj),fun j p hji hb hp=>?_⟩
 have:=List.all_eq_true.1 h.2 j (List.mem_range.2 hji)
 rw[hb,hp] at this
 simpa using this
theorem tG (hfol:P.follows .mixedOrders=true) (hcall:ig P call) (hchk:(List.range ops.size).all (No ops (iN ops.toList) ops.toList)=true) {js:List XJ}(hw:lW P n m ops (iN ops.toList) ops.toList=some js)
 (hT:gz (TS m [] T)) (hO:fC H) (hL:fF N H) (hr:uw call js 0 [] T N H [] []≠ .no) {Q:Exit→Act→World→Prop}{id:Nat}:
 ∃T' N' H',uw call js 0 [] T N H [] []=.n T' N' H'∧N≤N'∧gz (TS m [] T')∧fC H'∧fF N' H'∧ ∀V A β a w,(∀k,A k→ ¬(N≤k∧k<N'))→StX V A n (TS m [] T) (HS H) β a w→
  (∀a' w',Ends P n m V A N (HS H) β w N' (TS m [] T') (HS H') a' w'→Q .normal a' w')→(Code.region id ops true).wp P Q a w:=by
 obtain⟨hM,hMl⟩:=rn (ops:=ops) ops.toList [] (fun k hk=>by simp) (fun i mk h=>by simp at h)
 have hMl:(iN ops.toList).length=ops.toList.length:=by rw[show(iN ops.toList).length=_ from hMl];simp
 have hi0:InvD P ops (TS m [] T) (HS H) N [] N:=⟨fun j p h=>by simp at h,fun j p h=>by simp at h,fun j i p q _ h=>by simp at h,fun j i p q _ _ h=>by simp at h⟩
 obtain⟨full,T',N',H',e1,k1,k2,k3,k4,k5,k6,k7,k8⟩:=sn (P:=P) (ops:=ops) (n:=n) hcall (T0:=TS m [] T) (H0:=HS H) (N0:=N) ops.toList (iN ops.toList) js [] [] T N H [] [] hw hMl (fun k _=>by simp) rfl hT hO hL (Nat.le_refl _) hi0
  (fun t y h=>h) (fun k c h=>h) (fun j p h=>by simp at h) hr
 refine⟨T',N',H',e1,k1,k4,k5,k6,fun V A β a w hA hst hQ=>?_⟩
 have hfl:full.length=ops.size:=by have:=congrArg List.length k3;simpa using this
 have hget: ∀ {i:Nat}{o:Oper}{e:Evt},ops[i]? =some o→(full.map Prod.snd)[i]? =some e→full[i]? =some (o,e):=by
  intro i o e ho he
  have h1:(full.map Prod.fst)[i]? =some o:=by rw[k3,Array.getElem?_toList];exact ho
  rw[List.getElem?_map] at h1 he
  cases hf:full[i]? with
  |none=>rw[hf] at he;cases he
  |some p=>
   rw[hf] at h1 he
   injection h1 with h1
   injection he with he
   rw[←h1,←he]
 have hgete: ∀ {i:Nat}{e:Evt},(full.map Prod.snd)[i]? =some e→ ∃o,full[i]? =some (o,e):=by
  intro i e he
  rw[List.getElem?_map] at he
  cases hf:full[i]? with
  |none=>rw[hf] at he;cases he
  |some p=>rw[hf] at he;injection he with he;exact⟨p.1,by rw[←he]⟩
 have hU:nG ops.toList (full.map Prod.snd)=full.map fun p=>Ei p.1.dst p.2:=by
  rw[←k3];exact tj (fun(o:Oper) e=>Ei o.dst e) full
 have hV:qk (full.map Prod.snd)=full.map fun p=>uH p.2:=by unfold qk;rw[List.map_map];rfl
 have hTi: ∀i,eu (fun j=>decide (j<i)) 0 (nG ops.toList (full.map Prod.snd)) (TS m [] T)=fT (full.take i) (TS m [] T):=fun i=>by rw[hU,qQ,←List.map_take,FW]
 have hHi: ∀i,eu (fun j=>decide (j<i)) 0 (qk (full.map Prod.snd)) (HS H)=fH (full.take i) (HS H):=fun i=>by
  rw[hV,qQ,←List.map_take]
  refine E2 _ _ (fun j p hj k c hk=>?_)
  have hji:j<i:=by
   have:=(List.getElem?_eq_some_iff.1 hj).1
   simp at this;omega
  rw[List.getElem?_take,if_pos hji] at hj
  obtain⟨_,_,_,h3⟩:=k2.all j p hj
  rw[List.take_take,Nat.min_eq_left (Nat.le_of_lt hji)]
  exact h3 k c hk
 have hTa:eu (fun _=>true) 0 (nG ops.toList (full.map Prod.snd)) (TS m [] T)=fT full (TS m [] T):=by rw[hU,vE,FW]
 have hHa:eu (fun _=>true) 0 (qk (full.map Prod.snd)) (HS H)=fH full (HS H):=by
  rw[hV,vE]
  refine E2 _ _ (fun j p hj k c hk=>?_)
  obtain⟨_,_,_,h3⟩:=k2.all j p hj
  exact h3 k c hk
 have hub: ∀ {i:Nat}{o:Oper},ops[i]? =some o→(∀j∈bv o,j<i)∧ ∀j p,j<i→((iN ops.toList).getD i 0).testBit j=false→ops.toList[j]? =some p→IM ops p o=true:=fun{i o} ho=>by
  have hlt:=(Array.getElem?_eq_some_iff.1 ho).1
  exact Ea (List.all_eq_true.1 hchk i (List.mem_range.2 hlt)) (by rw[Array.getElem?_toList];exact ho)
 refine wp_region_any hfol ?_
 have hdrew:StX V A n (TS m [] T) (HS H) β a w.drew:=by
  refine⟨x5 hst.mem,hst.dfr,hst.siz,fun t x ht=>?_⟩
  obtain⟨v,e,hr⟩:=hst.tmp t x ht
  have hk2:Keep (Zs V (HS H) β) (Zs V (HS H) β) w w.drew:=⟨Nat.le_refl _,fun _ _ _=>rfl,fun _ _ h=>h⟩
  exact⟨v,e,hr.mono hk2 (fun _ h=>h) (fun _ _=>rfl)⟩
 have hfalse: ∀j,(Array.replicate ops.size false).getD j false=false:=fun j=>by simp[Array.getD]
 have hz1:eu (fun j=>(Array.replicate ops.size false).getD j false) 0 (nG ops.toList (full.map Prod.snd)) (TS m [] T)=TS m [] T:=funext fun t=>eX _ _ _ fun j u _ hm=>by rw[hfalse] at hm;cases hm
 have hz2:eu (fun j=>(Array.replicate ops.size false).getD j false) 0 (qk (full.map Prod.snd)) (HS H)=HS H:=funext fun t=>eX _ _ _ fun j u _ hm=>by rw[hfalse] at hm;cases hm
 refine Co (P:=P) (V:=V) (n:=n) (Q:=Q) (fun i o j ho hj=>(hub ho).1 j hj) (fun i o t ho ht=>?_) (PM ops) (fun j i hp=>?_) (fun j i oj oi hji hpm hoj hoi=>?_) (es:=full.map Prod.snd) (by simp[hfl]) (T0:=TS m [] T) (H0:=HS H) (N0:=N) (Nn:=N') (A0:=A) (β0:=β) (w0:=w)
  (fun i o e ho he=>?_) (fun i e he=>?_) (fun j i ej ei hji hej hei=>?_) (fun j i ej ei hji hpm hej hei=>?_) k1 hA (fun A' β' a' w' h1 h2 h3 h4=>?_) ops.size (Array.replicate ops.size false) A β a w.drew (by simp) (by unfold zK;refine Nat.le_trans List.countP_le_length ?_;simp) (fun i o j hi=>by rw[hfalse] at hi;cases hi) (fun _ h=>h) (fun _ h=>.inl h) ?_ ?_
 ·obtain⟨x,hx⟩:=tT hw hMl o (Array.mem_toList_iff.2 (Array.mem_of_getElem? ho))
  exact(xg hx).1 t ht
 ·unfold PM at hp
  cases hq:(iN ops.toList)[i]? with
  |none=>rw[List.getD_eq_getElem?_getD,hq] at hp;simp at hp
  |some mk=>rw[List.getD_eq_getElem?_getD,hq] at hp;exact hM i mk hq j hp
 ·have hb:((iN ops.toList).getD i 0).testBit j=false:=by
   cases hb:((iN ops.toList).getD i 0).testBit j with
   |false=>rfl
   |true=>exact absurd hb hpm
  have hind:=(hub hoi).2 j oj hji hb (by rw[Array.getElem?_toList];exact hoj)
  unfold IM at hind
  simp only[Bool.and_eq_true,Bool.not_eq_true'] at hind
  obtain⟨⟨h1,h2⟩,h3⟩:=hind
  refine⟨fun d hd=>⟨rL h1 d hd,fun he=>?_⟩,fun d hd=>rL h2 d hd⟩
  rw[hd,he] at h3
  have h3:Nat.beq d d=false:=h3
  rw[Nat.beq_refl] at h3;cases h3
 ·obtain⟨Tl,g1,g2,g3⟩:=k2.all i (o,e) (hget ho he)
  exact⟨Tl,g1,fun t x _ hx=>by rw[hTi];exact g2 t x hx,fun k c hk=>by rw[hHi];exact g3 k c hk⟩
 ·obtain⟨o,ho⟩:=hgete he
  have:=k2.nm i (o,e) ho
  exact⟨this.1,this.2.2⟩
 ·obtain⟨o,ho⟩:=hgete hej
  obtain⟨o2,ho2⟩:=hgete hei
  exact k2.mono j i _ _ hji ho ho2
 ·obtain⟨o,ho⟩:=hgete hej
  obtain⟨o2,ho2⟩:=hgete hei
  exact k2.con j i _ _ hji hpm ho ho2
 ·rw[hHa] at h3
  rw[hTa,hHa] at h4
  exact hQ a' w' ⟨A',β',h1,h2,h3.less k8,h4.less k7 k8⟩
 ·rw[hz2]
  exact⟨rfl,rfl,rfl,Nat.le_refl _,fun _ _ _=>rfl,fun _ _=>rfl,fun k hk=>.inr ⟨k,hk,rfl⟩,fun _ h=>.inl h⟩
 ·rw[hz1,hz2];exact hdrew
end
end Go.Proofs.YtacopbfkmnpfgaaGreat
