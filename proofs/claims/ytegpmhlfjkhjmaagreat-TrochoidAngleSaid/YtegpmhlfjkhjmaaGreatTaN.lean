/-Points in the order of a curve:the reference. -/
import Derived.Test.YtegpmhlfjkhjmaaGreatTaM
namespace Go.Proofs.YtegpmhlfjkhjmaaGreat
open Go Go.RowKit
variable {w:Bool}{k:Ci}{c:Cv}{l:Ln}{f p q t:Pt}
theorem Q4 (hk:GK k) (hp:GP p):Ok Tryz.prog 379 [.a (bT k),.a (aw p)] [.c (.i .i64 (Ay k p))]:=by
 refine b9 Tryz.func379 rfl<|dF 6 [] ?_
 refine aI rfl (Kc) ?_
 refine aI rfl (xRY hp (hk.y.m_))<|dF 14 [] ?_
 refine D5 (bJ rfl) (fun c1 hb1=>?_)
 cases c1
 ·refine D5 (bJ rfl) (fun c2 hb2=>?_)
  cases c2
  ·refine qq rfl<|ai ?_
   rw[ZN hb1 hb2]
   exact ak ag
  ·refine aI rfl (qz) ?_
   refine aI rfl (xRX hp (hk.x.m_)) ?_
   refine dS rfl (fun hc3=>?_) (fun hc3=>?_)
   ·refine ai ?_
    rw[acO hb1 hb2 hc3]
    exact ak ag
   ·refine ai ?_
    rw[ab9 hb1 hb2 hc3]
    exact ak ag
 ·refine DQ.mk<|B7 (tg rfl)<|dP ?_
  refine lr rfl<|ai ?_
  rw[abB hb1]
  exact ak ag
theorem I2 (hk:GK k) (hp:GP p) (hq:GP q):Ok Tryz.prog 355 [.a (bT k),.a (aw p),.a (aw q)] [.c (.i .i64 (oR k p q))]:=by
 have b1:=Pp k p
 have b2:=Pp k q
 have b3:=fh p q
 refine b9 Tryz.func355 rfl<|dF 8 [] ?_
 refine aI rfl (Q4 hk hp) ?_
 refine aI rfl (Q4 hk hq) ?_
 refine dS rfl (fun hc1=>?_) (fun hc1=>?_)
 ·refine ar (bF ((Ay k p)-(Ay k q)) (aS (by omega) (by omega)) rfl)<|ai ?_
  rw[ZK (k:=k) (p:=p) (q:=q) (by simpa using hc1)]
  exact ak ag
 ·refine dF 6 [] ?_
  refine aI rfl (qz) ?_
  refine aI rfl (qz) ?_
  refine aI rfl (xCX hp hq) ?_
  refine dS rfl (fun hc2=>?_) (fun hc2=>?_)
  ·refine ar (il (r:= -cx p q) rfl (IH b3) rfl) ?_
   refine ai ?_
   rw[TB (k:=k) (p:=p) (q:=q) (by simpa using hc1) hc2]
   exact ak ag
  ·refine ai ?_
   rw[Wn (k:=k) (p:=p) (q:=q) (by simpa using hc1) hc2]
   exact ak ag
theorem LR (hk:GK k) (hf:GP f) (hp:GP p):Ok Tryz.prog 353 [.a (bT k),.a (aw f),.a (aw p)] [.c (.i .i64 (sS k f p))]:=by
 refine b9 Tryz.func353 rfl ?_
 refine ac rfl (I2 hk hp hf) ?_
 refine dS rfl (fun hc1=>?_) (fun hc1=>?_)
 ·refine ai ?_
  rw[ZY hc1]
  exact ak ag
 ·refine dS rfl (fun hc2=>?_) (fun hc2=>?_)
  ·refine ai ?_
   rw[YG hc1 hc2]
   exact ak ag
  ·refine ai ?_
   rw[Zv hc1 hc2]
   exact ak ag
theorem S2 {n:Int}:Ok Tryz.prog 354 [.c (.i .i64 n)] [.c (.i .i64 (sg1 n))]:=by
 refine b9 Tryz.func354 rfl<|ar (zU rfl rfl rfl) ?_
 refine ar (zN rfl rfl rfl) ?_
 refine ai ?_
 rw[show sg1 n=min 1 (max (-1) n) from rfl]
 exact ak ag
theorem G1 (hk:GK k) (hf:GP f) (hp:GP p) (hq:GP q):Ok Tryz.prog 304 [.a (bT k),.a (aw f),.a (aw p),.a (aw q)] [.c (.i .i64 (yC k f p q))]:=by
 have b1:=PR k f p
 have b2:=PR k f q
 refine b9 Tryz.func304 rfl<|dF 10 [] ?_
 refine aI rfl (LR hk hf hp) ?_
 refine aI rfl (LR hk hf hq) ?_
 refine dS rfl (fun hc1=>?_) (fun hc1=>?_)
 ·refine ar (bF ((sS k f p)-(sS k f q)) (aS (by omega) (by omega)) rfl)<|ac rfl (S2)<|ai ?_
  rw[abw (k:=k) (f:=f) (p:=p) (q:=q) (by simpa using hc1)]
  exact ak ag
 ·refine ac rfl (I2 hk hp hq)<|ac rfl (S2)<|ai ?_
  rw[abg (k:=k) (f:=f) (p:=p) (q:=q) (by simpa using hc1)]
  exact ak ag
theorem Qr (_hk:GK k) (_hf:GP f) (_ht:GP t):Ok Tryz.prog 224 [.a (([.b true]++rx++bT k++[.b w]++aw f++aw t))] [.a (([.b true]++rx++bT k++[.b (!w)]++aw t++aw f))]:=by
 refine b9 Tryz.func224 rfl<|ar (fv (aw t) cn rfl (by kernel_rfl)) ?_
 refine ar (fv (aw f) cn rfl (by kernel_rfl)) ?_
 refine r9 (br (us:=([.b true]++rx++bT k++[.b w]++aw t++aw t)) cn rfl rfl rfl rfl (gj (by kernel_rfl)) (by kernel_rfl) rfl) ?_
 refine r9 (br (us:=([.b true]++rx++bT k++[.b w]++aw t++aw f)) cn rfl rfl rfl rfl (gj (by kernel_rfl)) (by kernel_rfl) rfl) ?_
 refine ar (lp sK rfl)<|ar (bJ rfl) ?_
 refine ar (lp sK rfl) ?_
 refine r9 (br (us:=([.b true]++rx++bT k++[.b (!w)]++aw t++aw f)) sK rfl rfl rfl rfl (gj (by kernel_rfl)) (by kernel_rfl) rfl) ?_
 refine ar (j5 cG rfl) ?_
 refine r9 (eQ cG rfl) ?_
 exact ai (mw (us:=([.b true]++rx++bT k++[.b (!w)]++aw t++aw f)) cG rfl rfl (by kernel_rfl) (by kernel_rfl) ag)
theorem aal (_hl:GL l) (_hf:GP f) (_ht:GP t):Ok Tryz.prog 224 [.a (([.b false]++oW l++w9++[.b false]++aw f++aw t))] [.a (([.b false]++oW l++w9++[.b false]++aw t++aw f))]:=by
 refine b9 Tryz.func224 rfl<|ar (fv (aw t) cn rfl (by kernel_rfl)) ?_
 refine ar (fv (aw f) cn rfl (by kernel_rfl)) ?_
 refine r9 (br (us:=([.b false]++oW l++w9++[.b false]++aw t++aw t)) cn rfl rfl rfl rfl (gj (by kernel_rfl)) (by kernel_rfl) rfl) ?_
 refine r9 (br (us:=([.b false]++oW l++w9++[.b false]++aw t++aw f)) cn rfl rfl rfl rfl (gj (by kernel_rfl)) (by kernel_rfl) rfl) ?_
 refine ar (lp sK rfl)<|ar (bJ rfl) ?_
 refine r9 (br (us:=([.b false]++oW l++w9++[.b false]++aw t++aw f)) sK rfl rfl rfl rfl (gj (by kernel_rfl)) (by kernel_rfl) rfl) ?_
 refine ar (j5 cG rfl) ?_
 refine r9 (eQ cG rfl) ?_
 exact ai (mw (us:=([.b false]++oW l++w9++[.b false]++aw t++aw f)) cG rfl rfl (by kernel_rfl) (by kernel_rfl) ag)
theorem U8 (hk:GK k) (hf:GP f) (ht:GP t):Ok Tryz.prog 303 [.a (([.b true]++rx++bT k++[.b true]++aw f++aw t))] [.a (([.b true]++rx++bT k++[.b false]++aw t++aw f))]:=by
 refine b9 Tryz.func303 rfl<|ar (lp sK rfl)<|lr rfl ?_
 refine ar (j5 cG rfl) ?_
 refine ac rfl (Qr (w:=true) hk hf ht) ?_
 refine r9 (eQ cG rfl) ?_
 exact ai (mw (us:=([.b true]++rx++bT k++[.b false]++aw t++aw f)) cG rfl rfl (by kernel_rfl) (by kernel_rfl) ag)
theorem Ud (_hk:GK k) (_hf:GP f) (_ht:GP t):Ok Tryz.prog 303 [.a (([.b true]++rx++bT k++[.b false]++aw f++aw t))] [.a (([.b true]++rx++bT k++[.b false]++aw f++aw t))]:=by
 refine b9 Tryz.func303 rfl<|ar (lp sK rfl)<|qq rfl<|ar (j5 cG rfl) ?_
 refine r9 (eQ cG rfl) ?_
 exact ai (mw (us:=([.b true]++rx++bT k++[.b false]++aw f++aw t)) cG rfl rfl (by kernel_rfl) (by kernel_rfl) ag)
theorem ZS (hk:GK k) (_hf:GP f) (_ht:GP t) (hp:GP p):Ok Tryz.prog 215 [.a (([.b true]++rx++bT k++[.b w]++aw f++aw t)),.a (aw p)] [.c (.b ((Cv.arc k w f t).supp p))]:=by
 refine b9 Tryz.func215 rfl ?_
 refine ar (lp sK rfl) ?_
 refine lr rfl ?_
 refine ar (fv (bT k) AX rfl (by kernel_rfl)) ?_
 refine ac rfl (abk hk hp) ?_
 exact ai (ak ag)
theorem JG (hk:GK k) (h0:0<k.q) (of:OnK k f) (ot:OnK k t) (op:OnK k p):Ok Tryz.prog 216 [.a (([.b true]++rx++bT k++[.b true]++aw f++aw t)),.a (aw p)] [.c (.b (decide ((Cv.arc k true f t).ord f p≤0)&&decide ((Cv.arc k true f t).ord p t≤0)))]:=by
 have hf:=of.1
 have ht:=ot.1
 have hp:=op.1
 have e1:(decide ((Cv.arc k true f t).ord f p≤0)&&decide ((Cv.arc k true f t).ord p t≤0))=decide (yC k t p f≤0):=Df h0 of ot op
 refine b9 Tryz.func216 rfl ?_
 refine ar (lp sK rfl) ?_
 refine qq rfl ?_
 refine ar (j5 cG rfl) ?_
 refine ac rfl (U8 hk hf ht) ?_
 refine r9 (eQ cG rfl) ?_
 refine ar (fv (bT k) AX rfl (by kernel_rfl)) ?_
 refine ar (fv (aw t) cn rfl (by kernel_rfl)) ?_
 refine ar (fv (aw f) cn rfl (by kernel_rfl)) ?_
 refine ac rfl (G1 hk ht hp hf)<|ai ?_
 rw[e1]
 exact ak ag
theorem I9 (hk:GK k) (_h0:0<k.q) (of:OnK k f) (ot:OnK k t) (op:OnK k p):Ok Tryz.prog 216 [.a (([.b true]++rx++bT k++[.b false]++aw f++aw t)),.a (aw p)] [.c (.b (decide ((Cv.arc k false f t).ord f p≤0)&&decide ((Cv.arc k false f t).ord p t≤0)))]:=by
 have hf:=of.1
 have ht:=ot.1
 have hp:=op.1
 have e1:(decide ((Cv.arc k false f t).ord f p≤0)&&decide ((Cv.arc k false f t).ord p t≤0))=decide (yC k f p t≤0):=AO hf ht hp
 refine b9 Tryz.func216 rfl ?_
 refine ar (lp sK rfl) ?_
 refine qq rfl ?_
 refine ar (j5 cG rfl) ?_
 refine ac rfl (Ud hk hf ht) ?_
 refine r9 (eQ cG rfl) ?_
 refine ar (fv (bT k) AX rfl (by kernel_rfl)) ?_
 refine ar (fv (aw f) cn rfl (by kernel_rfl)) ?_
 refine ar (fv (aw t) cn rfl (by kernel_rfl)) ?_
 refine ac rfl (G1 hk hf hp ht)<|ai ?_
 rw[e1]
 exact ak ag
theorem aaY (hk:GK k) (h0:0<k.q) (of:OnK k f) (ot:OnK k t) (op:OnK k p):Ok Tryz.prog 216 [.a (([.b true]++rx++bT k++[.b w]++aw f++aw t)),.a (aw p)] [.c (.b (decide ((Cv.arc k w f t).ord f p≤0)&&decide ((Cv.arc k w f t).ord p t≤0)))]:=by
 cases w with
 |true=>exact JG hk h0 of ot op
 |false=>exact I9 hk h0 of ot op
theorem Wy (hk:GK k) (h0:0<k.q) (of:OnK k f) (ot:OnK k t) (hp:GP p):Ok Tryz.prog 123 [.a (([.b true]++rx++bT k++[.b w]++aw f++aw t)),.a (aw p)] [.c (.b ((Cv.arc k w f t).on p))]:=by
 have hf:=of.1
 have ht:=ot.1
 refine b9 Tryz.func123 rfl ?_
 refine ar (j5 cG rfl) ?_
 refine ac rfl (ZS hk hf ht hp) ?_
 refine lg (bJ rfl) (fun c1 hb1=>?_)
 cases c1
 ·refine ai ?_
  rw[ad0 (c:=(Cv.arc k w f t)) (p:=p) hb1]
  exact ak ag
 ·have op:OnK k p:=⟨hp,bK.1 hb1⟩
  refine ar (j5 cG rfl) ?_
  refine ac rfl (aaY hk h0 of ot op)<|ai ?_
  rw[zg (c:=(Cv.arc k w f t)) (p:=p) hb1]
  exact ak ag
theorem OT (hk:GK k) (h0:0<k.q) (of:OnK k f) (ot:OnK k t) (hp:GP p):Ok Tryz.prog 223 [.a (([.b true]++rx++bT k++[.b w]++aw f++aw t)),.a (aw p)] [.c (.b ((Cv.arc k w f t).inner p))]:=by
 have hf:=of.1
 have ht:=ot.1
 refine b9 Tryz.func223 rfl ?_
 refine ar (j5 cG rfl) ?_
 refine ac rfl (Wy hk h0 of ot hp) ?_
 refine lg (bJ rfl) (fun c1 hb1=>?_)
 cases c1
 ·refine ar (bJ rfl)<|ai ?_
  rw[acj (c:=(Cv.arc k w f t)) (p:=p) hb1]
  exact ak ag
 ·refine ar (fv (aw f) cn rfl (by kernel_rfl)) ?_
  refine ac rfl (zW hf hp) ?_
  refine lg (bJ rfl) (fun c2 hb2=>?_)
  cases c2
  ·refine ai ?_
   rw[Zd (c:=(Cv.arc k w f t)) (p:=p) hb1 hb2]
   exact ak ag
  ·refine ar (fv (aw t) cn rfl (by kernel_rfl)) ?_
   refine ac rfl (zW ht hp)<|ai ?_
   rw[Z7 (c:=(Cv.arc k w f t)) (p:=p) hb1 hb2]
   exact ak ag
theorem MY (_hl:GL l) (hf:GP f) (ht:GP t):Ok Tryz.prog 231 [.a (([.b false]++oW l++w9++[.b false]++aw f++aw t))] [.c (.b ((Cv.seg l f t).vert))]:=by
 refine b9 Tryz.func231 rfl<|dF 13 [] ?_
 refine aq (lp sK rfl) ?_
 refine aq (bJ rfl) ?_
 refine aq (fv (aw f) cn rfl (by kernel_rfl)) ?_
 refine aI rfl (qz) ?_
 refine aq (fv (aw t) cn rfl (by kernel_rfl)) ?_
 refine aI rfl (qz) ?_
 refine aI rfl (xEX hf ht) ?_
 exact ai (ak ag)
theorem GO (_hk:GK k) (_hf:GP f) (_ht:GP t):Ok Tryz.prog 231 [.a (([.b true]++rx++bT k++[.b w]++aw f++aw t))] [.c (.b ((Cv.arc k w f t).vert))]:=by
 refine b9 Tryz.func231 rfl<|dF 13 [] ?_
 refine aq (lp sK rfl) ?_
 refine aq (bJ rfl) ?_
 exact ai (ak ag)
theorem yEX (hp:GP p) (hq:GP q):Ok Tryz.prog 336 [.a ((cR p.a1++cR p.b1++cR (zc p.b1 p.c))),.a ((cR q.a1++cR q.b1++cR (zc q.b1 q.c)))] [.c (.b (cx p q==0))]:=by
 refine b9 Tryz.func336 rfl ?_
 refine ac rfl (yCX hp hq) ?_
 exact ai (ak ag)
theorem Gj (_hl:GL l) (hf:GP f) (ht:GP t):Ok Tryz.prog 268 [.a (([.b false]++oW l++w9++[.b false]++aw f++aw t))] [.c (.b ((Cv.seg l f t).vert))]:=by
 refine b9 Tryz.func268 rfl<|dF 13 [] ?_
 refine aq (lp sK rfl) ?_
 refine aq (bJ rfl) ?_
 refine aq (fv (aw f) cn rfl (by kernel_rfl)) ?_
 refine aI rfl (vt) ?_
 refine aq (fv (aw t) cn rfl (by kernel_rfl)) ?_
 refine aI rfl (vt) ?_
 refine aI rfl (yEX hf ht) ?_
 exact ai (ak ag)
theorem B8 (_hk:GK k) (_hf:GP f) (_ht:GP t):Ok Tryz.prog 268 [.a (([.b true]++rx++bT k++[.b w]++aw f++aw t))] [.c (.b ((Cv.arc k w f t).vert))]:=by
 refine b9 Tryz.func268 rfl<|dF 13 [] ?_
 refine aq (lp sK rfl) ?_
 refine aq (bJ rfl) ?_
 exact ai (ak ag)
theorem Zi (hc:CvV c):Ok Tryz.prog 268 [.a (aZ c)] [.c (.b c.vert)]:=by
 cases c with
 |seg l f t=>exact Gj hc.g.1 hc.g.2.1 hc.g.2.2
 |arc k w f t=>exact B8 hc.g.1 hc.g.2.1 hc.g.2.2
theorem ZE (hc:CvV c):Ok Tryz.prog 147 [.a (aZ c)] [.a (aZ c.rev)]:=by
 cases c with
 |seg l f t=>exact Y1 hc.g.1 hc.g.2.1 hc.g.2.2
 |arc k w f t=>exact Zz hc.g.1 hc.g.2.1 hc.g.2.2
theorem J6 (hl:GL l) (hp:GP p) (hq:GP q) (h1:Bp l p=0) (h2:Bp l q=0) (hn:cP p q≠0):cx p q=0↔l.b=0:=by
 have cp:=cg hp
 have cq:=cg hq
 rw[SN hp] at h1
 rw[SN hq] at h2
 have e:Re.of l.a*(pX p-pX q)+Re.of l.b*(pY p-pY q)=PB l p+ -PB l q:=aM fun n=>by unfold PB;simp only[aD,aj,aE,aK,aV];grind
 have h3:aB (Re.of l.a*(pX p-pX q)+Re.of l.b*(pY p-pY q))=0:=by rw[e,dH _ (by rw[bG,h2];rfl),h1]
 rw[nT cp cq]
 have hy:aB (pX p-pX q)=0→aB (pY p-pY q)≠0:=fun h g=>hn (eH.2 ⟨by rw[nT cp cq];exact h,by rw[rW cp cq];exact g⟩)
 constructor
 ·intro h
  rw[nm (by rw[aY,h,ny]),aY,bQ] at h3
  rcases pV.1 h3 with g|g
  ·exact uN.1 g
  grind
 ·intro h
  have ha:aX l.a 0≠0:=fun g=>hl.n (by unfold cZ;rw[uN.1 g,h];grind)
  rw[h,dH _ (by rw[aY,bQ,pP,oG]),aY,bQ] at h3
  rcases pV.1 h3 with g|g
  ·grind
  grind
theorem AM {a b c:Rat}(ha:Rz 400000 a) (hb:Rz 400000 b) (hc:Rz 400000 c) (h1:vV a b c≠0) (h2:a*a-b*b*c≠0):Ok Tryz.prog 315 [.a ((cR a++cR b++cR c))] [.a ((cR (a*IR a b c)++cR (-b*IR a b c)++cR (zc (-b*IR a b c) c))),.c (.i .i64 0)]:=by
 have o1:Rz 6000000 (1:Rat):=o7 (by decide+kernel)
 have n1:Rz 2020000 (a*a-b*b*c):=((ha.mul ha).sub ((hb.mul hb).mul hc)).m_
 have n2:Rz 6000000 (a*a-b*b*c):=n1.m_
 have i1:Rz 6000000 (IR a b c):=(Rz.div (k:=1) (o7 (by decide+kernel)) n1 h2).m_
 have ka:Rz 6000000 a:=ha.m_
 have kb:Rz 6000000 (-b):=(hb.m_).neg
 have wa:Rz 1000000 a:=ha.m_
 have wb:Rz 1000000 b:=hb.m_
 have wc:Rz 1000000 c:=hc.m_
 refine b9 Tryz.func315 rfl ?_
 refine ac rfl (KK wa wb wc) ?_
 refine dS rfl (fun hc1=>?_) (fun hc1=>?_)
 ·exact absurd (by simpa using hc1) h1
 ·refine dF 10 [4,999999] ?_
  refine aI rfl ((show Ok Tryz.prog 70 [.c (.i .i64 1)] [dR 1] from ig (by omega) (by omega))) ?_
  refine aI rfl (DK wa wb wc) ?_
  refine aI rfl (qB o1 n2 h2) ?_
  refine DQ.mk<|gD (eQ bU rfl) rfl rfl rfl rfl<|dP ?_
  refine qq rfl ?_
  refine dF 10 [] ?_
  refine aI rfl (dV (bk hb)) ?_
  refine aq (aF (us:=(cR a++cR (-b)++cR c)) nA lW rfl rfl rfl) ?_
  refine aI rfl (IX ka kb i1) ?_
  exact ai (bj d9 rfl (ak ag))
end Go.Proofs.YtegpmhlfjkhjmaaGreat
