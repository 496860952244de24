/-Monotone curves:program and reference. -/
import Derived.Test.YtegpmhlfjkhjmaaGreatYqM
namespace Go.Proofs.YtegpmhlfjkhjmaaGreat
open Go Go.RowKit
variable {w:Bool}{k:Ci}{c:Cv}{rs:List CellD}{O:List Cv}{l:Ln}{j:Nat}{f p q t:Pt}
theorem lp:type_of% @List.pairwise_cons:=@List.pairwise_cons
theorem xT:type_of% @List.length_set:=@List.length_set
theorem xW:type_of% @List.pairwise_append:=@List.pairwise_append
theorem P7 (hk:GK k) (hp:GP p):Ok Tryz.prog 379 [.a (aX k),.a (aj p)] [.c (.i .i64 (zw k p))]:=by
 refine ca Tryz.func379 rfl<|cT 6 [] ?_
 refine aK rfl (I1) ?_
 refine aK rfl (xRY hp (hk.y.m_))<|cT 14 [] ?_
 refine AF (bz rfl) (fun c1 hb1=>?_)
 cases c1
 ·refine AF (bz rfl) (fun c2 hb2=>?_)
  cases c2
  ·refine qQ rfl<|ah ?_
   rw[Yz hb1 hb2]
   exact az ae
  ·refine aK rfl (p6) ?_
   refine aK rfl (xRX hp (hk.x.m_)) ?_
   refine dD rfl (fun hc3=>?_) (fun hc3=>?_)
   ·refine ah ?_
    rw[Zy hb1 hb2 hc3]
    exact az ae
   ·refine ah ?_
    rw[aaD hb1 hb2 hc3]
    exact az ae
 ·refine DQ.mk<|wJ (oE rfl)<|d7 ?_
  refine tg rfl<|ah ?_
  rw[aaj hb1]
  exact az ae
theorem Gj (hk:GK k) (hp:GP p) (hq:GP q):Ok Tryz.prog 355 [.a (aX k),.a (aj p),.a (aj q)] [.c (.i .i64 (ov k p q))]:=by
 have b1:=Qu k p
 have b2:=Qu k q
 have b3:=fv p q
 refine ca Tryz.func355 rfl<|cT 8 [] ?_
 refine aK rfl (P7 hk hp) ?_
 refine aK rfl (P7 hk hq) ?_
 refine dD rfl (fun hc1=>?_) (fun hc1=>?_)
 ·refine ar (ci ((zw k p)-(zw k q)) (bO (by omega) (by omega)) rfl)<|ah ?_
  rw[Wf (k:=k) (p:=p) (q:=q) (by simpa using hc1)]
  exact az ae
 ·refine cT 6 [] ?_
  refine aK rfl (p6) ?_
  refine aK rfl (p6) ?_
  refine aK rfl (xCX hp hq) ?_
  refine dD rfl (fun hc2=>?_) (fun hc2=>?_)
  ·refine ar (gl (r:= -cx p q) rfl (DB b3) rfl) ?_
   refine ah ?_
   rw[R9 (k:=k) (p:=p) (q:=q) (by simpa using hc1) hc2]
   exact az ae
  ·refine ah ?_
   rw[SJ (k:=k) (p:=p) (q:=q) (by simpa using hc1) hc2]
   exact az ae
theorem Lc (hk:GK k) (hf:GP f) (hp:GP p):Ok Tryz.prog 353 [.a (aX k),.a (aj f),.a (aj p)] [.c (.i .i64 (sj k f p))]:=by
 refine ca Tryz.func353 rfl ?_
 refine ac rfl (Gj hk hp hf) ?_
 refine dD rfl (fun hc1=>?_) (fun hc1=>?_)
 ·refine ah ?_
  rw[Yb hc1]
  exact az ae
 ·refine dD rfl (fun hc2=>?_) (fun hc2=>?_)
  ·refine ah ?_
   rw[XQ hc1 hc2]
   exact az ae
  ·refine ah ?_
   rw[Wb hc1 hc2]
   exact az ae
theorem N6 {n:Int}:Ok Tryz.prog 354 [.c (.i .i64 n)] [.c (.i .i64 (Xy n))]:=by
 refine ca Tryz.func354 rfl<|ar (F6 rfl rfl rfl) ?_
 refine ar (LO rfl rfl rfl) ?_
 refine ah ?_
 rw[show Xy n=min 1 (max (-1) n) from rfl]
 exact az ae
theorem Fi (hk:GK k) (hf:GP f) (hp:GP p) (hq:GP q):Ok Tryz.prog 304 [.a (aX k),.a (aj f),.a (aj p),.a (aj q)] [.c (.i .i64 (x7 k f p q))]:=by
 have b1:=PH k f p
 have b2:=PH k f q
 refine ca Tryz.func304 rfl<|cT 10 [] ?_
 refine aK rfl (Lc hk hf hp) ?_
 refine aK rfl (Lc hk hf hq) ?_
 refine dD rfl (fun hc1=>?_) (fun hc1=>?_)
 ·refine ar (ci ((sj k f p)-(sj k f q)) (bO (by omega) (by omega)) rfl)<|ac rfl (N6)<|ah ?_
  rw[aak (k:=k) (f:=f) (p:=p) (q:=q) (by simpa using hc1)]
  exact az ae
 ·refine ac rfl (Gj hk hp hq)<|ac rfl (N6)<|ah ?_
  rw[ZW (k:=k) (f:=f) (p:=p) (q:=q) (by simpa using hc1)]
  exact az ae
theorem Nt (_hk:GK k) (_hf:GP f) (_ht:GP t):Ok Tryz.prog 224 [.a (([.b true]++np++aX k++[.b w]++aj f++aj t))] [.a (([.b true]++np++aX k++[.b (!w)]++aj t++aj f))]:=by
 refine ca Tryz.func224 rfl<|ar (dg (aj t) bv rfl (by kernel_rfl)) ?_
 refine ar (dg (aj f) bv rfl (by kernel_rfl)) ?_
 refine re (bd (us:=([.b true]++np++aX k++[.b w]++aj t++aj t)) bv rfl rfl rfl rfl (fP (by kernel_rfl)) (by kernel_rfl) rfl) ?_
 refine re (bd (us:=([.b true]++np++aX k++[.b w]++aj t++aj f)) bv rfl rfl rfl rfl (fP (by kernel_rfl)) (by kernel_rfl) rfl) ?_
 refine ar (gI kP rfl)<|ar (bz rfl) ?_
 refine ar (gI kP rfl) ?_
 refine re (bd (us:=([.b true]++np++aX k++[.b (!w)]++aj t++aj f)) kP rfl rfl rfl rfl (fP (by kernel_rfl)) (by kernel_rfl) rfl) ?_
 refine ar (gT bW rfl) ?_
 refine re (fg bW rfl) ?_
 exact ah (kV (us:=([.b true]++np++aX k++[.b (!w)]++aj t++aj f)) bW rfl rfl (by kernel_rfl) (by kernel_rfl) ae)
theorem Xx (_hl:GL l) (_hf:GP f) (_ht:GP t):Ok Tryz.prog 224 [.a (([.b false]++gK l++qR++[.b false]++aj f++aj t))] [.a (([.b false]++gK l++qR++[.b false]++aj t++aj f))]:=by
 refine ca Tryz.func224 rfl<|ar (dg (aj t) bv rfl (by kernel_rfl)) ?_
 refine ar (dg (aj f) bv rfl (by kernel_rfl)) ?_
 refine re (bd (us:=([.b false]++gK l++qR++[.b false]++aj t++aj t)) bv rfl rfl rfl rfl (fP (by kernel_rfl)) (by kernel_rfl) rfl) ?_
 refine re (bd (us:=([.b false]++gK l++qR++[.b false]++aj t++aj f)) bv rfl rfl rfl rfl (fP (by kernel_rfl)) (by kernel_rfl) rfl) ?_
 refine ar (gI kP rfl)<|ar (bz rfl) ?_
 refine re (bd (us:=([.b false]++gK l++qR++[.b false]++aj t++aj f)) kP rfl rfl rfl rfl (fP (by kernel_rfl)) (by kernel_rfl) rfl) ?_
 refine ar (gT bW rfl) ?_
 refine re (fg bW rfl) ?_
 exact ah (kV (us:=([.b false]++gK l++qR++[.b false]++aj t++aj f)) bW rfl rfl (by kernel_rfl) (by kernel_rfl) ae)
theorem Uf (hk:GK k) (hf:GP f) (ht:GP t):Ok Tryz.prog 303 [.a (([.b true]++np++aX k++[.b true]++aj f++aj t))] [.a (([.b true]++np++aX k++[.b false]++aj t++aj f))]:=by
 refine ca Tryz.func303 rfl<|ar (gI kP rfl)<|tg rfl ?_
 refine ar (gT bW rfl) ?_
 refine ac rfl (Nt (w:=true) hk hf ht) ?_
 refine re (fg bW rfl) ?_
 exact ah (kV (us:=([.b true]++np++aX k++[.b false]++aj t++aj f)) bW rfl rfl (by kernel_rfl) (by kernel_rfl) ae)
theorem SR (_hk:GK k) (_hf:GP f) (_ht:GP t):Ok Tryz.prog 303 [.a (([.b true]++np++aX k++[.b false]++aj f++aj t))] [.a (([.b true]++np++aX k++[.b false]++aj f++aj t))]:=by
 refine ca Tryz.func303 rfl<|ar (gI kP rfl)<|qQ rfl<|ar (gT bW rfl) ?_
 refine re (fg bW rfl) ?_
 exact ah (kV (us:=([.b true]++np++aX k++[.b false]++aj f++aj t)) bW rfl rfl (by kernel_rfl) (by kernel_rfl) ae)
theorem YF (hk:GK k) (_hf:GP f) (_ht:GP t) (hp:GP p):Ok Tryz.prog 215 [.a (([.b true]++np++aX k++[.b w]++aj f++aj t)),.a (aj p)] [.c (.b ((Cv.arc k w f t).supp p))]:=by
 refine ca Tryz.func215 rfl ?_
 refine ar (gI kP rfl) ?_
 refine tg rfl ?_
 refine ar (dg (aX k) qV rfl (by kernel_rfl)) ?_
 refine ac rfl (abt hk hp) ?_
 exact ah (az ae)
theorem IS (hk:GK k) (h0:0<k.q) (of:OnK k f) (ot:OnK k t) (op:OnK k p):Ok Tryz.prog 216 [.a (([.b true]++np++aX k++[.b true]++aj f++aj t)),.a (aj p)] [.c (.b (decide ((Cv.arc k true f t).ord f p≤0)&&decide ((Cv.arc k true f t).ord p t≤0)))]:=by
 have hf:=of.1
 have ht:=ot.1
 have hp:=op.1
 have e1:(decide ((Cv.arc k true f t).ord f p≤0)&&decide ((Cv.arc k true f t).ord p t≤0))=decide (x7 k t p f≤0):=Ea h0 of ot op
 refine ca Tryz.func216 rfl ?_
 refine ar (gI kP rfl) ?_
 refine qQ rfl ?_
 refine ar (gT bW rfl) ?_
 refine ac rfl (Uf hk hf ht) ?_
 refine re (fg bW rfl) ?_
 refine ar (dg (aX k) qV rfl (by kernel_rfl)) ?_
 refine ar (dg (aj t) bv rfl (by kernel_rfl)) ?_
 refine ar (dg (aj f) bv rfl (by kernel_rfl)) ?_
 refine ac rfl (Fi hk ht hp hf)<|ah ?_
 rw[e1]
 exact az ae
theorem G0 (hk:GK k) (_h0:0<k.q) (of:OnK k f) (ot:OnK k t) (op:OnK k p):Ok Tryz.prog 216 [.a (([.b true]++np++aX k++[.b false]++aj f++aj t)),.a (aj p)] [.c (.b (decide ((Cv.arc k false f t).ord f p≤0)&&decide ((Cv.arc k false f t).ord p t≤0)))]:=by
 have hf:=of.1
 have ht:=ot.1
 have hp:=op.1
 have e1:(decide ((Cv.arc k false f t).ord f p≤0)&&decide ((Cv.arc k false f t).ord p t≤0))=decide (x7 k f p t≤0):=E1 hf ht hp
 refine ca Tryz.func216 rfl ?_
 refine ar (gI kP rfl) ?_
 refine qQ rfl ?_
 refine ar (gT bW rfl) ?_
 refine ac rfl (SR hk hf ht) ?_
 refine re (fg bW rfl) ?_
 refine ar (dg (aX k) qV rfl (by kernel_rfl)) ?_
 refine ar (dg (aj f) bv rfl (by kernel_rfl)) ?_
 refine ar (dg (aj t) bv rfl (by kernel_rfl)) ?_
 refine ac rfl (Fi hk hf hp ht)<|ah ?_
 rw[e1]
 exact az ae
theorem abD (hk:GK k) (h0:0<k.q) (of:OnK k f) (ot:OnK k t) (op:OnK k p):Ok Tryz.prog 216 [.a (([.b true]++np++aX k++[.b w]++aj f++aj t)),.a (aj p)] [.c (.b (decide ((Cv.arc k w f t).ord f p≤0)&&decide ((Cv.arc k w f t).ord p t≤0)))]:=by
 cases w with
 |true=>exact IS hk h0 of ot op
 |false=>exact G0 hk h0 of ot op
theorem UJ (hk:GK k) (h0:0<k.q) (of:OnK k f) (ot:OnK k t) (hp:GP p):Ok Tryz.prog 123 [.a (([.b true]++np++aX k++[.b w]++aj f++aj t)),.a (aj p)] [.c (.b ((Cv.arc k w f t).on p))]:=by
 have hf:=of.1
 have ht:=ot.1
 refine ca Tryz.func123 rfl ?_
 refine ar (gT bW rfl) ?_
 refine ac rfl (YF hk hf ht hp) ?_
 refine jT (bz rfl) (fun c1 hb1=>?_)
 cases c1
 ·refine ah ?_
  rw[Ys (c:=(Cv.arc k w f t)) (p:=p) hb1]
  exact az ae
 ·have op:OnK k p:=⟨hp,b7.1 hb1⟩
  refine ar (gT bW rfl) ?_
  refine ac rfl (abD hk h0 of ot op)<|ah ?_
  rw[CX (c:=(Cv.arc k w f t)) (p:=p) hb1]
  exact az ae
theorem RB (hk:GK k) (h0:0<k.q) (of:OnK k f) (ot:OnK k t) (hp:GP p):Ok Tryz.prog 223 [.a (([.b true]++np++aX k++[.b w]++aj f++aj t)),.a (aj p)] [.c (.b ((Cv.arc k w f t).inner p))]:=by
 have hf:=of.1
 have ht:=ot.1
 refine ca Tryz.func223 rfl ?_
 refine ar (gT bW rfl) ?_
 refine ac rfl (UJ hk h0 of ot hp) ?_
 refine jT (bz rfl) (fun c1 hb1=>?_)
 cases c1
 ·refine ar (bz rfl)<|ah ?_
  rw[aat (c:=(Cv.arc k w f t)) (p:=p) hb1]
  exact az ae
 ·refine ar (dg (aj f) bv rfl (by kernel_rfl)) ?_
  refine ac rfl (yr hf hp) ?_
  refine jT (bz rfl) (fun c2 hb2=>?_)
  cases c2
  ·refine ah ?_
   rw[V9 (c:=(Cv.arc k w f t)) (p:=p) hb1 hb2]
   exact az ae
  ·refine ar (dg (aj t) bv rfl (by kernel_rfl)) ?_
   refine ac rfl (yr ht hp)<|ah ?_
   rw[Yc (c:=(Cv.arc k w f t)) (p:=p) hb1 hb2]
   exact az ae
theorem Lg (_hl:GL l) (hf:GP f) (ht:GP t):Ok Tryz.prog 231 [.a (([.b false]++gK l++qR++[.b false]++aj f++aj t))] [.c (.b ((Cv.seg l f t).vert))]:=by
 refine ca Tryz.func231 rfl<|cT 13 [] ?_
 refine aq (gI kP rfl) ?_
 refine aq (bz rfl) ?_
 refine aq (dg (aj f) bv rfl (by kernel_rfl)) ?_
 refine aK rfl (p6) ?_
 refine aq (dg (aj t) bv rfl (by kernel_rfl)) ?_
 refine aK rfl (p6) ?_
 refine aK rfl (xEX hf ht) ?_
 exact ah (az ae)
theorem Ff (_hk:GK k) (_hf:GP f) (_ht:GP t):Ok Tryz.prog 231 [.a (([.b true]++np++aX k++[.b w]++aj f++aj t))] [.c (.b ((Cv.arc k w f t).vert))]:=by
 refine ca Tryz.func231 rfl<|cT 13 [] ?_
 refine aq (gI kP rfl) ?_
 refine aq (bz rfl) ?_
 exact ah (az ae)
theorem yEX (hp:GP p) (hq:GP q):Ok Tryz.prog 336 [.a ((cR p.a1++cR p.b1++cR (zc p.b1 p.c))),.a ((cR q.a1++cR q.b1++cR (zc q.b1 q.c)))] [.c (.b (cx p q==0))]:=by
 refine ca Tryz.func336 rfl ?_
 refine ac rfl (yCX hp hq) ?_
 exact ah (az ae)
theorem FS (_hl:GL l) (hf:GP f) (ht:GP t):Ok Tryz.prog 268 [.a (([.b false]++gK l++qR++[.b false]++aj f++aj t))] [.c (.b ((Cv.seg l f t).vert))]:=by
 refine ca Tryz.func268 rfl<|cT 13 [] ?_
 refine aq (gI kP rfl) ?_
 refine aq (bz rfl) ?_
 refine aq (dg (aj f) bv rfl (by kernel_rfl)) ?_
 refine aK rfl (pc) ?_
 refine aq (dg (aj t) bv rfl (by kernel_rfl)) ?_
 refine aK rfl (pc) ?_
 refine aK rfl (yEX hf ht) ?_
 exact ah (az ae)
theorem Bl (_hk:GK k) (_hf:GP f) (_ht:GP t):Ok Tryz.prog 268 [.a (([.b true]++np++aX k++[.b w]++aj f++aj t))] [.c (.b ((Cv.arc k w f t).vert))]:=by
 refine ca Tryz.func268 rfl<|cT 13 [] ?_
 refine aq (gI kP rfl) ?_
 refine aq (bz rfl) ?_
 exact ah (az ae)
theorem XD (hc:CvV c):Ok Tryz.prog 268 [.a (aD c)] [.c (.b c.vert)]:=by
 cases c with
 |seg l f t=>exact FS hc.g.1 hc.g.2.1 hc.g.2.2
 |arc k w f t=>exact Bl hc.g.1 hc.g.2.1 hc.g.2.2
theorem YC (hc:CvV c):Ok Tryz.prog 147 [.a (aD c)] [.a (aD c.rev)]:=by
 cases c with
 |seg l f t=>exact X8 hc.g.1 hc.g.2.1 hc.g.2.2
 |arc k w f t=>exact YB hc.g.1 hc.g.2.1 hc.g.2.2
theorem JQ (hl:GL l) (hp:GP p) (hq:GP q) (h1:AI l p=0) (h2:AI l q=0) (hn:cP p q≠0):cx p q=0↔l.b=0:=by
 have cp:=co hp
 have cq:=co hq
 rw[Q0 hp] at h1
 rw[Q0 hq] at h2
 have e:Re.of l.a*(pX p-pX q)+Re.of l.b*(pY p-pY q)=RS l p+ -RS l q:=bt fun n=>by unfold RS;simp only[aU,aG,aT,bi,bE];grind
 have h3:aS (Re.of l.a*(pX p-pX q)+Re.of l.b*(pY p-pY q))=0:=by rw[e,dO _ (by rw[cm,h2];rfl),h1]
 rw[pN cp cq]
 have hy:aS (pX p-pX q)=0→aS (pY p-pY q)≠0:=fun h g=>hn (fj.2 ⟨by rw[pN cp cq];exact h,by rw[tw cp cq];exact g⟩)
 constructor
 ·intro h
  rw[m8 (by rw[bJ,h,pD]),bJ,cO] at h3
  rcases u9.1 h3 with g|g
  ·exact B7.1 g
  grind
 ·intro h
  have ha:aJ l.a 0≠0:=fun g=>hl.n (by unfold fa;rw[B7.1 g,h];grind)
  rw[h,dO _ (by rw[bJ,cO,pT,qk]),bJ,cO] at h3
  rcases u9.1 h3 with g|g
  ·grind
  grind
theorem Ao {a b c:Rat}(ha:Rz 400000 a) (hb:Rz 400000 b) (hc:Rz 400000 c) (h1:uN a b c≠0) (h2:a*a-b*b*c≠0):Ok Tryz.prog 315 [.a ((cR a++cR b++cR c))] [.a ((cR (a*HQ a b c)++cR (-b*HQ a b c)++cR (zc (-b*HQ a b c) c))),.c (.i .i64 0)]:=by
 have o1:Rz 6000000 (1:Rat):=nr (by decide+kernel)
 have n1:Rz 2020000 (a*a-b*b*c):=((ha.mul ha).sub ((hb.mul hb).mul hc)).m_
 have n2:Rz 6000000 (a*a-b*b*c):=n1.m_
 have i1:Rz 6000000 (HQ a b c):=(nu (k:=1) (nr (by decide+kernel)) n1 h2).m_
 have ka:Rz 6000000 a:=ha.m_
 have kb:Rz 6000000 (-b):=(hb.m_).neg
 have wa:Rz 1000000 a:=ha.m_
 have wb:Rz 1000000 b:=hb.m_
 have wc:Rz 1000000 c:=hc.m_
 refine ca Tryz.func315 rfl ?_
 refine ac rfl (IM wa wb wc) ?_
 refine dD rfl (fun hc1=>?_) (fun hc1=>?_)
 ·exact absurd (by simpa using hc1) h1
 ·refine cT 10 [4,999999] ?_
  refine aK rfl ((show Ok Tryz.prog 70 [.c (.i .i64 1)] [dR 1] from iY (by omega) (by omega))) ?_
  refine aK rfl (CV wa wb wc) ?_
  refine aK rfl (qy o1 n2 h2) ?_
  refine DQ.mk<|iQ (fg bF rfl) rfl rfl rfl rfl<|d7 ?_
  refine qQ rfl ?_
  refine cT 10 [] ?_
  refine aK rfl (dS (aQ hb)) ?_
  refine aq (aM (us:=(cR a++cR (-b)++cR c)) m9 lh rfl rfl rfl) ?_
  refine aK rfl (H6 ka kb i1) ?_
  exact ah (aV dh rfl (az ae))
section
variable {α:Type}(e:α) (C:α→α→Int)
def pE (x:α) (out:List α):Nat→Nat
 |0=>0
 |k+1=>if C x (out.getD k e)<0 then pE x out k else k+1
def CD (out:List α) (x:α):List α:=out.take (pE e C x out out.length)++x::out.drop (pE e C x out out.length)
def bp (L:List α):List α:=L.foldl (CD e C) []
def Ae (out rest:List α) (x:α) (j:Nat):List α:=out.take j++x::(out.drop j++rest)
def TV (L:List α) (p:Nat):List α:=bp e C (L.take p)++L.drop p
variable {e C}
theorem Kj (x:α) (out:List α): ∀k,pE e C x out k≤k
 |0=>ce _
 |k+1=>by
  show(if _ then pE e C x out k else k+1)≤k+1
  split
  ·have:=Kj x out k;omega
  ·exact ce _
theorem RL {x:α}{out:List α}(h0:0<j) (h:C x (out.getD (j-1) e)<0):pE e C x out j=pE e C x out (j-1):=by
 match j,h0 with
 |j+1,_=>exact if_pos h
theorem FK {x:α}{out:List α}(h:j=0∨ ¬C x (out.getD (j-1) e)<0):pE e C x out j=j:=by
 match j with
 |0=>rfl
 |j+1=>
  rcases h with h|h
  ·omega
  ·exact if_neg h
theorem LU {x:α}{out:List α}: ∀ {k r:Nat},pE e C x out k≤r→r<k→C x (out.getD r e)<0
 |0,r,_,h=>by omega
 |k+1,r,h1,h2=>by
  unfold pE at h1
  split at h1
  ·rename_i g
   rcases io r k with h|h
   ·exact LU h1 h
   ·rw[show r=k from by omega];exact g
  ·omega
theorem KA {x:α}{out:List α}: ∀ {k:Nat},0<pE e C x out k→ ¬C x (out.getD (pE e C x out k-1) e)<0
 |0,h=>absurd h (Nat.lt_irrefl 0)
 |k+1,h=>by
  unfold pE at h⊢
  by_cases g:C x (out.getD k e)<0
  ·rw[if_pos g] at h⊢;exact KA h
  ·rw[if_neg g] at h⊢;exact g
theorem NR (out:List α) (x:α):(CD e C out x).length=out.length+1:=by
 unfold CD
 grind
theorem Dy: ∀(L O:List α),(L.foldl (CD e C) O).length=O.length+L.length
 |[],O=>rfl
 |x::L,O=>by rw[uI,Dy L,NR,tC];omega
theorem fE (L:List α):(bp e C L).length=L.length:=by unfold bp;rw[Dy];simp
theorem Pu {L:List α}{p:Nat}(h:p<L.length):bp e C (L.take (p+1))=CD e C (bp e C (L.take p)) (L.getD p e):=by
 unfold bp;rw[qu (d:=e) h,List.foldl_append];rfl
theorem J5 (L:List α):TV e C L 1=L:=by
 cases L with
 |nil=>rfl
 |cons x L=>rfl
theorem Ld (L:List α):TV e C L L.length=bp e C L:=by unfold TV;simp
theorem Kk {L:List α}{p:Nat}(h:p<L.length):TV e C L p=Ae (bp e C (L.take p)) (L.drop (p+1)) (L.getD p e) p:=by
 have hl:(bp e C (L.take p)).length=p:=by rw[fE,dE,ij (Nat.le_of_lt h)]
 unfold TV Ae
 rw[show(bp e C (L.take p)).take p=bp e C (L.take p) from ja (ph hl),show(bp e C (L.take p)).drop p=[] from pn (ph hl),nI,pj h,List.getD,f9 h]
 rfl
theorem zi {L:List α}{p:Nat}(h:p<L.length) (hj:pE e C (L.getD p e) (bp e C (L.take p)) p=j):Ae (bp e C (L.take p)) (L.drop (p+1)) (L.getD p e) j=TV e C L (p+1):=by
 have hl:(bp e C (L.take p)).length=p:=by rw[fE,dE,ij (Nat.le_of_lt h)]
 unfold TV Ae
 rw[Pu h]
 unfold CD
 grind
section
variable {out rest:List α}{x:α}{j:Nat}
theorem iD (hj:j≤out.length):(Ae out rest x j).length=out.length+1+rest.length:=by
 unfold Ae
 grind
theorem EI (hj:j≤out.length):(Ae out rest x j).getD j e=x:=by
 unfold Ae
 grind
theorem EZ (h0:0<j) (hj:j≤out.length):(Ae out rest x j).getD (j-1) e=out.getD (j-1) e:=by
 unfold Ae
 grind
theorem O2 (h0:0<j) (hj:j≤out.length):((Ae out rest x j).set j (out.getD (j-1) e)).set (j-1) x=Ae out rest x (j-1):=by
 obtain⟨k,rfl⟩: ∃k,j=k+1:=⟨j-1,by omega⟩
 have hk:k<out.length:=by omega
 rw[Nat.add_sub_cancel]
 apply List.ext_getElem?
 intro q
 rw[List.getElem?_set,List.getElem?_set,xT,iD hj]
 have hl2:(out.take k).length=k:=by grind
 unfold Ae
 by_cases e1:k=q
 ·grind
 grind
end
theorem Ei (out:List α) (x:α):(CD e C out x).Perm (x::out):=by
 exact List.perm_middle.trans (by rw[xi])
theorem B8: ∀(L O:List α),(L.foldl (CD e C) O).Perm (O++L)
 |[],O=>by simp
 |x::L,O=>by
  rw[uI]
  exact(B8 L _).trans (((Ei O x).append_right L).trans List.perm_middle.symm)
theorem kT (L:List α):(bp e C L).Perm L:=B8 L []
theorem O9 {G:α→Prop}(anti: ∀x y,G x→G y→C y x= -C x y) (tr: ∀x y z,G x→G y→G z→C x y≤0→C y z≤0→C x z≤0) {out:List α}{x:α}(hx:G x) (hO: ∀y∈out,G y) (h:out.Pairwise fun a b=>C a b≤0):
 (CD e C out x).Pairwise fun a b=>C a b≤0:=by
 have hp:=Kj (e:=e) (C:=C) x out out.length
 have up: ∀r,pE e C x out out.length≤r→r<out.length→C x (out.getD r e)<0:=fun r=>LU
 have dn:=KA (e:=e) (C:=C) (x:=x) (out:=out) (k:=out.length)
 unfold CD
 generalize pE e C x out out.length=j at hp up dn
 have h2:=h
 rw[←xi j out] at h2
 obtain⟨h3,h4,h5⟩:=xW.1 h2
 have hgt: ∀y∈out.drop j,C x y≤0:=fun y hy=>by
  obtain⟨r,hr,rfl⟩:=List.mem_iff_getElem.1 hy
  rw[fO] at hr
  have:=up (j+r) (by omega) (by omega)
  rw[List.getD,f9 (by omega)] at this
  rw[List.getElem_drop]
  have t2:C x (out[j+r]'(by omega))<0:=this
  omega
 have hlt: ∀y∈out.take j,C y x≤0:=fun y hy=>by
  obtain⟨r,hr,rfl⟩:=List.mem_iff_getElem.1 hy
  rw[dE] at hr
  have hj:0<j:=by omega
  have hl:(out.take j).length=j:=by rw[dE];omega
  have g:=dn hj
  have hm:j-1<out.length:=by omega
  rw[List.getD,f9 hm] at g
  have g2: ¬C x out[j-1]<0:=g
  have g3:=anti x out[j-1] hx (hO _ (ub hm))
  rw[List.getElem_take]
  have hr2:r<out.length:=by omega
  rcases io r (j-1) with hlt|hge
  ·have g4:C out[r] out[j-1]≤0:=(List.pairwise_iff_getElem.1 h) r (j-1) hr2 hm hlt
   exact tr _ _ _ (hO _ (ub hr2)) (hO _ (ub hm)) hx g4 (by omega)
  ·have:r=j-1:=by omega
   subst this;omega
 refine xW.2 ⟨h3,lp.2 ⟨hgt,h4⟩,fun a ha b hb=>?_⟩
 rcases dA.1 hb with rfl|hb
 ·exact hlt a ha
 ·exact h5 a ha b hb
theorem wg {G:α→Prop}(anti: ∀x y,G x→G y→C y x= -C x y) (tr: ∀x y z,G x→G y→G z→C x y≤0→C y z≤0→C x z≤0): ∀(L:List α) {O:List α},(∀y∈L,G y)→(∀y∈O,G y)→(O.Pairwise fun a b=>C a b≤0)→
 (L.foldl (CD e C) O).Pairwise fun a b=>C a b≤0
 |[],O,_,_,h=>h
 |x::L,O,hL,hO,h=>by
  rw[uI]
  refine wg anti tr L (fun y hy=>hL y (fB _ hy)) (fun y hy=>?_) (O9 anti tr (hL x fJ) hO h)
  rcases dA.1 ((Ei O x).mem_iff.1 hy) with rfl|hy
  ·exact hL y fJ
  ·exact hO y hy
variable {enc:α→List CellD}{m:Nat}
theorem jM (h: ∀x,(enc x).length=m) {O:List α}(hj:j<O.length):((aw enc O++rs).drop (j*m)).take m=enc (O.getD j e):=by
 have hl:=am h O
 have h2:(j+1)*m≤O.length*m:=o9 _ hj
 rw[oH] at h2
 rw[xh (by omega),jf h (ew (d:=e) hj),mV,←h (O.getD j e)]
 grind
theorem v8 (h: ∀x,(enc x).length=m) {O:List α}(hj:j<O.length) (x:α):(aw enc O++rs).take (j*m)++enc x++(aw enc O++rs).drop (j*m+m)=aw enc (O.set j x)++rs:=by
 have hl:=am h O
 have h2:(j+1)*m≤(aw enc O).length:=by rw[hl];exact o9 _ hj
 have h1:j*m≤(aw enc O).length:=by grind
 rw[show j*m+m=(j+1)*m from by rw[oH,Nat.one_mul],xz h1,xh h2,pZ h,pW h,List.set_eq_take_append_cons_drop,if_pos hj,dB]
 show _=aw enc (O.take j)++(enc x++aw enc (O.drop (j+1)))++rs
 grind
end
def Cv.fwd (c:Cv):Cv:=if decide (cP c.p c.q>0) then c.rev else c
def yj:Cv→List Pt
 | .seg _ _ _=>[]
 | .arc k w f t=>(if (Cv.arc k w f t).inner (jS k) then[jS k] else[])++(if (Cv.arc k w f t).inner (jI k) then[jI k] else[])
def P6 (c:Cv):List Cv:=if c.isArc then je c (yj c) else[c]
theorem Ii (h:CvV c):CvV c.fwd:=by unfold Cv.fwd;split;exact h.rev;exact h
theorem LA (h:decide (cP c.p c.q>0)=true):c.fwd=c.rev:=by unfold Cv.fwd;rw[h];rfl
theorem K7 (h:decide (cP c.p c.q>0)=false):c.fwd=c:=by unfold Cv.fwd;rw[h];rfl
theorem vE (h:CvV c): ∀p∈yj c,GP p∧c.on p=true:=by
 intro p hp
 cases c with
 |seg l f t=>cases hp
 |arc k w f t=>
  have hin: ∀ {x:Pt},(Cv.arc k w f t).inner x=true→(Cv.arc k w f t).on x=true:=fun h=>by unfold Cv.inner at h;rw[dN] at h;exact h.1
  rcases mW.1 hp with hp|hp
  ·split at hp
   ·rename_i e;cases nE.1 hp;exact⟨rN h.g.1 h.pos,hin e⟩
   grind
  ·split at hp
   ·rename_i e;cases nE.1 hp;exact⟨rS h.g.1 h.pos,hin e⟩
   grind
theorem UB (h1:(Cv.arc k w f t).inner (jS k)=false) (h2:(Cv.arc k w f t).inner (jI k)=false):yj (.arc k w f t)=[]:=by
 show(if _ then[jS k] else[])++(if _ then[jI k] else[])=_;rw[h1,h2];rfl
theorem WT (h:CvV c): ∀d∈P6 c,CvV d:=by
 intro d hd
 unfold P6 at hd
 split at hd
 ·exact SW h (fun p hp=>(vE h p hp).1) (fun p hp=>E3 (vE h p hp).2) d hd
 grind
theorem Zb (h:j<O.length):((aw aD O++rs).drop (j*66)).take 66=aD (O.getD j aY):=by
 have hl:=am ai O
 rw[xh (by omega),jf ai (ew (d:=aY) h),mV]
 exact MD _ _
theorem Ex (j:Nat):aw aD O++rs=aw aD (O.take j)++(aw aD (O.drop j)++rs):=by
 rw[←mV,←dB,xi]
theorem Qh {p c:Nat}(hp:O.length=p) (hj:j≤p) (hc:p≤c):((aw aD O++rs).drop (if j<c then j*66 else 0)).take ((p-j)*66)=aw aD (O.drop j):=by
 have h1:(aw aD (O.take j)).length=j*66:=by rw[am ai,dE,ij (by omega)]
 have h2:(aw aD (O.drop j)).length=(p-j)*66:=by rw[am ai,fO,hp]
 by_cases h:j<c
 ·rw[if_pos h,Ex j,←h1,List.drop_left,←h2,List.take_left]
 ·have e:p-j=0:=by omega
  rw[e,Nat.zero_mul,List.take_zero,List.drop_of_length_le (by omega)];rfl
theorem Qx {p c:Nat}(hp:O.length=p) (hj:j≤p) (hr:rs.length=(c-p)*66) (hc:p≤c):0<p-j→(if j<c then j*66 else 0)+(p-j)*66≤(aw aD O++rs).length:=by
 rw[dm,am ai,hp]
 grind
def bT:Cv→Pt→Pt→Int
 | .seg _ _ _,_,_=>0
 | .arc k w f t,p,q=>if w then-x7 k t p q else x7 k f p q
def t6 (c:Cv) (S:List Pt):List Cv:=gC c (c.p::(S++[c.q]))
def VW:List CellD:=Na++Na++Na++Na++Na
theorem Gh (c:Cv) (S:List Pt):(t6 c S).length=S.length+1:=by
 unfold t6;rw[iW,tC,dm];simp
theorem xM (c:Cv): ∀(l:List Pt) (a x:Pt),gC c (a::(l++[x]))=gC c (a::l)++[c.ends ((a::l).getD l.length dPt) x]
 |[],a,x=>rfl
 |b::l,a,x=>by
  show c.ends a b::gC c (b::(l++[x]))=c.ends a b::gC c (b::l)++_
  rw[xM c l b x];rfl
end Go.Proofs.YtegpmhlfjkhjmaaGreat
