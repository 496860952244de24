/-Monotone curves:program and reference. -/
import Derived.Test.YtegpmhlfjkhjmaaGreatYmM
namespace Go.Proofs.YtegpmhlfjkhjmaaGreat
open Go Go.RowKit
variable {w:Bool}{k:Ci}{c:Cv}{rs:List CellD}{O:List Cv}{l:Ln}{j:Nat}{f p q t:Pt}
theorem lg:type_of% @List.pairwise_cons:=@List.pairwise_cons
theorem xI:type_of% @List.length_set:=@List.length_set
theorem xN:type_of% @List.pairwise_append:=@List.pairwise_append
theorem Oz (hk:GK k) (hp:GP p):Ok Tryz.prog 379 [.a (aV k),.a (aj p)] [.c (.i .i64 (Ba k p))]:=by
 refine bX Tryz.func379 rfl<|cJ 6 [] ?_
 refine aK rfl (Kz) ?_
 refine aK rfl (xRY hp (hk.y.m_))<|cJ 14 [] ?_
 refine BD (bE rfl) (fun c1 hb1=>?_)
 cases c1
 ·refine BD (bE rfl) (fun c2 hb2=>?_)
  cases c2
  ·refine sb rfl<|ah ?_
   rw[Xi hb1 hb2]
   exact az ae
  ·refine aK rfl (qc) ?_
   refine aK rfl (xRX hp (hk.x.m_)) ?_
   refine dk rfl (fun hc3=>?_) (fun hc3=>?_)
   ·refine ah ?_
    rw[aaH hb1 hb2 hc3]
    exact az ae
   ·refine ah ?_
    rw[aaN hb1 hb2 hc3]
    exact az ae
 ·refine DQ.mk<|wt (oI rfl)<|dF ?_
  refine sy rfl<|ah ?_
  rw[aci hb1]
  exact az ae
theorem Jc (hk:GK k) (hp:GP p) (hq:GP q):Ok Tryz.prog 355 [.a (aV k),.a (aj p),.a (aj q)] [.c (.i .i64 (ov k p q))]:=by
 have b1:=PC k p
 have b2:=PC k q
 have b3:=fE p q
 refine bX Tryz.func355 rfl<|cJ 8 [] ?_
 refine aK rfl (Oz hk hp) ?_
 refine aK rfl (Oz hk hq) ?_
 refine dk rfl (fun hc1=>?_) (fun hc1=>?_)
 ·refine ar (ci ((Ba k p)-(Ba k q)) (bK (by omega) (by omega)) rfl)<|ah ?_
  rw[XD (k:=k) (p:=p) (q:=q) (by simpa using hc1)]
  exact az ae
 ·refine cJ 6 [] ?_
  refine aK rfl (qc) ?_
  refine aK rfl (qc) ?_
  refine aK rfl (xCX hp hq) ?_
  refine dk rfl (fun hc2=>?_) (fun hc2=>?_)
  ·refine ar (fa (r:= -cx p q) rfl (xv b3) rfl) ?_
   refine ah ?_
   rw[UW (k:=k) (p:=p) (q:=q) (by simpa using hc1) hc2]
   exact az ae
  ·refine ah ?_
   rw[Tl (k:=k) (p:=p) (q:=q) (by simpa using hc1) hc2]
   exact az ae
theorem M1 (hk:GK k) (hf:GP f) (hp:GP p):Ok Tryz.prog 353 [.a (aV k),.a (aj f),.a (aj p)] [.c (.i .i64 (sS k f p))]:=by
 refine bX Tryz.func353 rfl ?_
 refine ac rfl (Jc hk hp hf) ?_
 refine dk rfl (fun hc1=>?_) (fun hc1=>?_)
 ·refine ah ?_
  rw[YS hc1]
  exact az ae
 ·refine dk rfl (fun hc2=>?_) (fun hc2=>?_)
  ·refine ah ?_
   rw[XS hc1 hc2]
   exact az ae
  ·refine ah ?_
   rw[Z7 hc1 hc2]
   exact az ae
theorem Sp {n:Int}:Ok Tryz.prog 354 [.c (.i .i64 n)] [.c (.i .i64 (Yu n))]:=by
 refine bX Tryz.func354 rfl<|ar (Gz rfl rfl rfl) ?_
 refine ar (LL rfl rfl rfl) ?_
 refine ah ?_
 rw[show Yu n=min 1 (max (-1) n) from rfl]
 exact az ae
theorem FK (hk:GK k) (hf:GP f) (hp:GP p) (hq:GP q):Ok Tryz.prog 304 [.a (aV k),.a (aj f),.a (aj p),.a (aj q)] [.c (.i .i64 (yA k f p q))]:=by
 have b1:=Qo k f p
 have b2:=Qo k f q
 refine bX Tryz.func304 rfl<|cJ 10 [] ?_
 refine aK rfl (M1 hk hf hp) ?_
 refine aK rfl (M1 hk hf hq) ?_
 refine dk rfl (fun hc1=>?_) (fun hc1=>?_)
 ·refine ar (ci ((sS k f p)-(sS k f q)) (bK (by omega) (by omega)) rfl)<|ac rfl (Sp)<|ah ?_
  rw[ab1 (k:=k) (f:=f) (p:=p) (q:=q) (by simpa using hc1)]
  exact az ae
 ·refine ac rfl (Jc hk hp hq)<|ac rfl (Sp)<|ah ?_
  rw[abg (k:=k) (f:=f) (p:=p) (q:=q) (by simpa using hc1)]
  exact az ae
theorem RW (_hk:GK k) (_hf:GP f) (_ht:GP t):Ok Tryz.prog 224 [.a (([.b true]++nr++aV k++[.b w]++aj f++aj t))] [.a (([.b true]++nr++aV k++[.b (!w)]++aj t++aj f))]:=by
 refine bX Tryz.func224 rfl<|ar (cO (aj t) bq rfl (by kernel_rfl)) ?_
 refine ar (cO (aj f) bq rfl (by kernel_rfl)) ?_
 refine pu (aY (us:=([.b true]++nr++aV k++[.b w]++aj t++aj t)) bq rfl rfl rfl rfl (fe (by kernel_rfl)) (by kernel_rfl) rfl) ?_
 refine pu (aY (us:=([.b true]++nr++aV k++[.b w]++aj t++aj f)) bq rfl rfl rfl rfl (fe (by kernel_rfl)) (by kernel_rfl) rfl) ?_
 refine ar (gY lW rfl)<|ar (bE rfl) ?_
 refine ar (gY lW rfl) ?_
 refine pu (aY (us:=([.b true]++nr++aV k++[.b (!w)]++aj t++aj f)) lW rfl rfl rfl rfl (fe (by kernel_rfl)) (by kernel_rfl) rfl) ?_
 refine ar (gE bO rfl) ?_
 refine pu (eh bO rfl) ?_
 exact ah (kK (us:=([.b true]++nr++aV k++[.b (!w)]++aj t++aj f)) bO rfl rfl (by kernel_rfl) (by kernel_rfl) ae)
theorem YF (_hl:GL l) (_hf:GP f) (_ht:GP t):Ok Tryz.prog 224 [.a (([.b false]++iI l++rQ++[.b false]++aj f++aj t))] [.a (([.b false]++iI l++rQ++[.b false]++aj t++aj f))]:=by
 refine bX Tryz.func224 rfl<|ar (cO (aj t) bq rfl (by kernel_rfl)) ?_
 refine ar (cO (aj f) bq rfl (by kernel_rfl)) ?_
 refine pu (aY (us:=([.b false]++iI l++rQ++[.b false]++aj t++aj t)) bq rfl rfl rfl rfl (fe (by kernel_rfl)) (by kernel_rfl) rfl) ?_
 refine pu (aY (us:=([.b false]++iI l++rQ++[.b false]++aj t++aj f)) bq rfl rfl rfl rfl (fe (by kernel_rfl)) (by kernel_rfl) rfl) ?_
 refine ar (gY lW rfl)<|ar (bE rfl) ?_
 refine pu (aY (us:=([.b false]++iI l++rQ++[.b false]++aj t++aj f)) lW rfl rfl rfl rfl (fe (by kernel_rfl)) (by kernel_rfl) rfl) ?_
 refine ar (gE bO rfl) ?_
 refine pu (eh bO rfl) ?_
 exact ah (kK (us:=([.b false]++iI l++rQ++[.b false]++aj t++aj f)) bO rfl rfl (by kernel_rfl) (by kernel_rfl) ae)
theorem US (hk:GK k) (hf:GP f) (ht:GP t):Ok Tryz.prog 303 [.a (([.b true]++nr++aV k++[.b true]++aj f++aj t))] [.a (([.b true]++nr++aV k++[.b false]++aj t++aj f))]:=by
 refine bX Tryz.func303 rfl<|ar (gY lW rfl)<|sy rfl ?_
 refine ar (gE bO rfl) ?_
 refine ac rfl (RW (w:=true) hk hf ht) ?_
 refine pu (eh bO rfl) ?_
 exact ah (kK (us:=([.b true]++nr++aV k++[.b false]++aj t++aj f)) bO rfl rfl (by kernel_rfl) (by kernel_rfl) ae)
theorem UN (_hk:GK k) (_hf:GP f) (_ht:GP t):Ok Tryz.prog 303 [.a (([.b true]++nr++aV k++[.b false]++aj f++aj t))] [.a (([.b true]++nr++aV k++[.b false]++aj f++aj t))]:=by
 refine bX Tryz.func303 rfl<|ar (gY lW rfl)<|sb rfl<|ar (gE bO rfl) ?_
 refine pu (eh bO rfl) ?_
 exact ah (kK (us:=([.b true]++nr++aV k++[.b false]++aj f++aj t)) bO rfl rfl (by kernel_rfl) (by kernel_rfl) ae)
theorem YJ (hk:GK k) (_hf:GP f) (_ht:GP t) (hp:GP p):Ok Tryz.prog 215 [.a (([.b true]++nr++aV k++[.b w]++aj f++aj t)),.a (aj p)] [.c (.b ((Cv.arc k w f t).supp p))]:=by
 refine bX Tryz.func215 rfl ?_
 refine ar (gY lW rfl) ?_
 refine sy rfl ?_
 refine ar (cO (aV k) qK rfl (by kernel_rfl)) ?_
 refine ac rfl (abh hk hp) ?_
 exact ah (az ae)
theorem Kq (hk:GK k) (h0:0<k.q) (of:OnK k f) (ot:OnK k t) (op:OnK k p):Ok Tryz.prog 216 [.a (([.b true]++nr++aV k++[.b true]++aj f++aj t)),.a (aj p)] [.c (.b (decide ((Cv.arc k true f t).ord f p≤0)&&decide ((Cv.arc k true f t).ord p t≤0)))]:=by
 have hf:=of.1
 have ht:=ot.1
 have hp:=op.1
 have e1:(decide ((Cv.arc k true f t).ord f p≤0)&&decide ((Cv.arc k true f t).ord p t≤0))=decide (yA k t p f≤0):=Ei h0 of ot op
 refine bX Tryz.func216 rfl ?_
 refine ar (gY lW rfl) ?_
 refine sb rfl ?_
 refine ar (gE bO rfl) ?_
 refine ac rfl (US hk hf ht) ?_
 refine pu (eh bO rfl) ?_
 refine ar (cO (aV k) qK rfl (by kernel_rfl)) ?_
 refine ar (cO (aj t) bq rfl (by kernel_rfl)) ?_
 refine ar (cO (aj f) bq rfl (by kernel_rfl)) ?_
 refine ac rfl (FK hk ht hp hf)<|ah ?_
 rw[e1]
 exact az ae
theorem I4 (hk:GK k) (_h0:0<k.q) (of:OnK k f) (ot:OnK k t) (op:OnK k p):Ok Tryz.prog 216 [.a (([.b true]++nr++aV k++[.b false]++aj f++aj t)),.a (aj p)] [.c (.b (decide ((Cv.arc k false f t).ord f p≤0)&&decide ((Cv.arc k false f t).ord p t≤0)))]:=by
 have hf:=of.1
 have ht:=ot.1
 have hp:=op.1
 have e1:(decide ((Cv.arc k false f t).ord f p≤0)&&decide ((Cv.arc k false f t).ord p t≤0))=decide (yA k f p t≤0):=F2 hf ht hp
 refine bX Tryz.func216 rfl ?_
 refine ar (gY lW rfl) ?_
 refine sb rfl ?_
 refine ar (gE bO rfl) ?_
 refine ac rfl (UN hk hf ht) ?_
 refine pu (eh bO rfl) ?_
 refine ar (cO (aV k) qK rfl (by kernel_rfl)) ?_
 refine ar (cO (aj f) bq rfl (by kernel_rfl)) ?_
 refine ar (cO (aj t) bq rfl (by kernel_rfl)) ?_
 refine ac rfl (FK hk hf hp ht)<|ah ?_
 rw[e1]
 exact az ae
theorem abF (hk:GK k) (h0:0<k.q) (of:OnK k f) (ot:OnK k t) (op:OnK k p):Ok Tryz.prog 216 [.a (([.b true]++nr++aV k++[.b w]++aj f++aj t)),.a (aj p)] [.c (.b (decide ((Cv.arc k w f t).ord f p≤0)&&decide ((Cv.arc k w f t).ord p t≤0)))]:=by
 cases w with
 |true=>exact Kq hk h0 of ot op
 |false=>exact I4 hk h0 of ot op
theorem Wh (hk:GK k) (h0:0<k.q) (of:OnK k f) (ot:OnK k t) (hp:GP p):Ok Tryz.prog 123 [.a (([.b true]++nr++aV k++[.b w]++aj f++aj t)),.a (aj p)] [.c (.b ((Cv.arc k w f t).on p))]:=by
 have hf:=of.1
 have ht:=ot.1
 refine bX Tryz.func123 rfl ?_
 refine ar (gE bO rfl) ?_
 refine ac rfl (YJ hk hf ht hp) ?_
 refine jU (bE rfl) (fun c1 hb1=>?_)
 cases c1
 ·refine ah ?_
  rw[X7 (c:=(Cv.arc k w f t)) (p:=p) hb1]
  exact az ae
 ·have op:OnK k p:=⟨hp,b5.1 hb1⟩
  refine ar (gE bO rfl) ?_
  refine ac rfl (abF hk h0 of ot op)<|ah ?_
  rw[DE (c:=(Cv.arc k w f t)) (p:=p) hb1]
  exact az ae
theorem Pi (hk:GK k) (h0:0<k.q) (of:OnK k f) (ot:OnK k t) (hp:GP p):Ok Tryz.prog 223 [.a (([.b true]++nr++aV k++[.b w]++aj f++aj t)),.a (aj p)] [.c (.b ((Cv.arc k w f t).inner p))]:=by
 have hf:=of.1
 have ht:=ot.1
 refine bX Tryz.func223 rfl ?_
 refine ar (gE bO rfl) ?_
 refine ac rfl (Wh hk h0 of ot hp) ?_
 refine jU (bE rfl) (fun c1 hb1=>?_)
 cases c1
 ·refine ar (bE rfl)<|ah ?_
  rw[abD (c:=(Cv.arc k w f t)) (p:=p) hb1]
  exact az ae
 ·refine ar (cO (aj f) bq rfl (by kernel_rfl)) ?_
  refine ac rfl (yN hf hp) ?_
  refine jU (bE rfl) (fun c2 hb2=>?_)
  cases c2
  ·refine ah ?_
   rw[Yv (c:=(Cv.arc k w f t)) (p:=p) hb1 hb2]
   exact az ae
  ·refine ar (cO (aj t) bq rfl (by kernel_rfl)) ?_
   refine ac rfl (yN ht hp)<|ah ?_
   rw[XB (c:=(Cv.arc k w f t)) (p:=p) hb1 hb2]
   exact az ae
theorem MS (_hl:GL l) (hf:GP f) (ht:GP t):Ok Tryz.prog 231 [.a (([.b false]++iI l++rQ++[.b false]++aj f++aj t))] [.c (.b ((Cv.seg l f t).vert))]:=by
 refine bX Tryz.func231 rfl<|cJ 13 [] ?_
 refine aq (gY lW rfl) ?_
 refine aq (bE rfl) ?_
 refine aq (cO (aj f) bq rfl (by kernel_rfl)) ?_
 refine aK rfl (qc) ?_
 refine aq (cO (aj t) bq rfl (by kernel_rfl)) ?_
 refine aK rfl (qc) ?_
 refine aK rfl (xEX hf ht) ?_
 exact ah (az ae)
theorem GR (_hk:GK k) (_hf:GP f) (_ht:GP t):Ok Tryz.prog 231 [.a (([.b true]++nr++aV k++[.b w]++aj f++aj t))] [.c (.b ((Cv.arc k w f t).vert))]:=by
 refine bX Tryz.func231 rfl<|cJ 13 [] ?_
 refine aq (gY lW rfl) ?_
 refine aq (bE rfl) ?_
 exact ah (az ae)
theorem yEX (hp:GP p) (hq:GP q):Ok Tryz.prog 336 [.a ((cR p.a1++cR p.b1++cR (zc p.b1 p.c))),.a ((cR q.a1++cR q.b1++cR (zc q.b1 q.c)))] [.c (.b (cx p q==0))]:=by
 refine bX Tryz.func336 rfl ?_
 refine ac rfl (yCX hp hq) ?_
 exact ah (az ae)
theorem FG (_hl:GL l) (hf:GP f) (ht:GP t):Ok Tryz.prog 268 [.a (([.b false]++iI l++rQ++[.b false]++aj f++aj t))] [.c (.b ((Cv.seg l f t).vert))]:=by
 refine bX Tryz.func268 rfl<|cJ 13 [] ?_
 refine aq (gY lW rfl) ?_
 refine aq (bE rfl) ?_
 refine aq (cO (aj f) bq rfl (by kernel_rfl)) ?_
 refine aK rfl (pd) ?_
 refine aq (cO (aj t) bq rfl (by kernel_rfl)) ?_
 refine aK rfl (pd) ?_
 refine aK rfl (yEX hf ht) ?_
 exact ah (az ae)
theorem BU (_hk:GK k) (_hf:GP f) (_ht:GP t):Ok Tryz.prog 268 [.a (([.b true]++nr++aV k++[.b w]++aj f++aj t))] [.c (.b ((Cv.arc k w f t).vert))]:=by
 refine bX Tryz.func268 rfl<|cJ 13 [] ?_
 refine aq (gY lW rfl) ?_
 refine aq (bE rfl) ?_
 exact ah (az ae)
theorem Yn (hc:CvV c):Ok Tryz.prog 268 [.a (aC c)] [.c (.b c.vert)]:=by
 cases c with
 |seg l f t=>exact FG hc.g.1 hc.g.2.1 hc.g.2.2
 |arc k w f t=>exact BU hc.g.1 hc.g.2.1 hc.g.2.2
theorem YK (hc:CvV c):Ok Tryz.prog 147 [.a (aC c)] [.a (aC c.rev)]:=by
 cases c with
 |seg l f t=>exact Yb hc.g.1 hc.g.2.1 hc.g.2.2
 |arc k w f t=>exact Xt hc.g.1 hc.g.2.1 hc.g.2.2
theorem Km (hl:GL l) (hp:GP p) (hq:GP q) (h1:Bw l p=0) (h2:Bw l q=0) (hn:cP p q≠0):cx p q=0↔l.b=0:=by
 have cp:=cm hp
 have cq:=cm hq
 rw[P9 hp] at h1
 rw[P9 hq] at h2
 have e:Re.of l.a*(pX p-pX q)+Re.of l.b*(pY p-pY q)=SW l p+ -SW l q:=br fun n=>by unfold SW;simp only[aQ,aI,aR,bc,bD];grind
 have h3:aT (Re.of l.a*(pX p-pX q)+Re.of l.b*(pY p-pY q))=0:=by rw[e,dT _ (by rw[cj,h2];rfl),h1]
 rw[oc cp cq]
 have hy:aT (pX p-pX q)=0→aT (pY p-pY q)≠0:=fun h g=>hn (eP.2 ⟨by rw[oc cp cq];exact h,by rw[si cp cq];exact g⟩)
 constructor
 ·intro h
  rw[ng (by rw[bH,h,pF]),bH,cV] at h3
  rcases v6.1 h3 with g|g
  ·exact AH.1 g
  grind
 ·intro h
  have ha:aM l.a 0≠0:=fun g=>hl.n (by unfold fi;rw[AH.1 g,h];grind)
  rw[h,dT _ (by rw[bH,cV,p6,qN]),bH,cV] at h3
  rcases v6.1 h3 with g|g
  ·grind
  grind
theorem A7 {a b c:Rat}(ha:Rz 400000 a) (hb:Rz 400000 b) (hc:Rz 400000 c) (h1:vJ a b c≠0) (h2:a*a-b*b*c≠0):Ok Tryz.prog 315 [.a ((cR a++cR b++cR c))] [.a ((cR (a*HM a b c)++cR (-b*HM a b c)++cR (zc (-b*HM a b c) c))),.c (.i .i64 0)]:=by
 have o1:Rz 6000000 (1:Rat):=pe (by decide+kernel)
 have n1:Rz 2020000 (a*a-b*b*c):=((ha.mul ha).sub ((hb.mul hb).mul hc)).m_
 have n2:Rz 6000000 (a*a-b*b*c):=n1.m_
 have i1:Rz 6000000 (HM a b c):=(nJ (k:=1) (pe (by decide+kernel)) n1 h2).m_
 have ka:Rz 6000000 a:=ha.m_
 have kb:Rz 6000000 (-b):=(hb.m_).neg
 have wa:Rz 1000000 a:=ha.m_
 have wb:Rz 1000000 b:=hb.m_
 have wc:Rz 1000000 c:=hc.m_
 refine bX Tryz.func315 rfl ?_
 refine ac rfl (JW wa wb wc) ?_
 refine dk rfl (fun hc1=>?_) (fun hc1=>?_)
 ·exact absurd (by simpa using hc1) h1
 ·refine cJ 10 [4,999999] ?_
  refine aK rfl ((show Ok Tryz.prog 70 [.c (.i .i64 1)] [dR 1] from gT (by omega) (by omega))) ?_
  refine aK rfl (Di wa wb wc) ?_
  refine aK rfl (qt o1 n2 h2) ?_
  refine DQ.mk<|f5 (eh aZ rfl) rfl rfl rfl rfl<|dF ?_
  refine sb rfl ?_
  refine cJ 10 [] ?_
  refine aK rfl (dX (aO hb)) ?_
  refine aq (aG (us:=(cR a++cR (-b)++cR c)) lU jL rfl rfl rfl) ?_
  refine aK rfl (HK ka kb i1) ?_
  exact ah (aS df rfl (az ae))
section
variable {α:Type}(e:α) (C:α→α→Int)
def pM (x:α) (out:List α):Nat→Nat
 |0=>0
 |k+1=>if C x (out.getD k e)<0 then pM x out k else k+1
def C9 (out:List α) (x:α):List α:=out.take (pM e C x out out.length)++x::out.drop (pM e C x out out.length)
def bp (L:List α):List α:=L.foldl (C9 e C) []
def AV (out rest:List α) (x:α) (j:Nat):List α:=out.take j++x::(out.drop j++rest)
def UB (L:List α) (p:Nat):List α:=bp e C (L.take p)++L.drop p
variable {e C}
theorem Lo (x:α) (out:List α): ∀k,pM e C x out k≤k
 |0=>cg _
 |k+1=>by
  show(if _ then pM e C x out k else k+1)≤k+1
  split
  ·have:=Lo x out k;omega
  ·exact cg _
theorem Sa {x:α}{out:List α}(h0:0<j) (h:C x (out.getD (j-1) e)<0):pM e C x out j=pM e C x out (j-1):=by
 match j,h0 with
 |j+1,_=>exact if_pos h
theorem FH {x:α}{out:List α}(h:j=0∨ ¬C x (out.getD (j-1) e)<0):pM e C x out j=j:=by
 match j with
 |0=>rfl
 |j+1=>
  rcases h with h|h
  ·omega
  ·exact if_neg h
theorem Mq {x:α}{out:List α}: ∀ {k r:Nat},pM e C x out k≤r→r<k→C x (out.getD r e)<0
 |0,r,_,h=>by omega
 |k+1,r,h1,h2=>by
  unfold pM at h1
  split at h1
  ·rename_i g
   rcases gO r k with h|h
   ·exact Mq h1 h
   ·rw[show r=k from by omega];exact g
  ·omega
theorem KY {x:α}{out:List α}: ∀ {k:Nat},0<pM e C x out k→ ¬C x (out.getD (pM e C x out k-1) e)<0
 |0,h=>absurd h (Nat.lt_irrefl 0)
 |k+1,h=>by
  unfold pM at h⊢
  by_cases g:C x (out.getD k e)<0
  ·rw[if_pos g] at h⊢;exact KY h
  ·rw[if_neg g] at h⊢;exact g
theorem P7 (out:List α) (x:α):(C9 e C out x).length=out.length+1:=by
 unfold C9
 grind
theorem Ev: ∀(L O:List α),(L.foldl (C9 e C) O).length=O.length+L.length
 |[],O=>rfl
 |x::L,O=>by rw[vF,Ev L,P7,ui];omega
theorem fL (L:List α):(bp e C L).length=L.length:=by unfold bp;rw[Ev];simp
theorem Q4 {L:List α}{p:Nat}(h:p<L.length):bp e C (L.take (p+1))=C9 e C (bp e C (L.take p)) (L.getD p e):=by
 unfold bp;rw[qj (d:=e) h,List.foldl_append];rfl
theorem LD (L:List α):UB e C L 1=L:=by
 cases L with
 |nil=>rfl
 |cons x L=>rfl
theorem Mg (L:List α):UB e C L L.length=bp e C L:=by unfold UB;simp
theorem Ma {L:List α}{p:Nat}(h:p<L.length):UB e C L p=AV (bp e C (L.take p)) (L.drop (p+1)) (L.getD p e) p:=by
 have hl:(bp e C (L.take p)).length=p:=by rw[fL,dH,il (Nat.le_of_lt h)]
 unfold UB AV
 rw[show(bp e C (L.take p)).take p=bp e C (L.take p) from jm (qx hl),show(bp e C (L.take p)).drop p=[] from pk (qx hl),nE,pq h,List.getD,f9 h]
 rfl
theorem zG {L:List α}{p:Nat}(h:p<L.length) (hj:pM e C (L.getD p e) (bp e C (L.take p)) p=j):AV (bp e C (L.take p)) (L.drop (p+1)) (L.getD p e) j=UB e C L (p+1):=by
 have hl:(bp e C (L.take p)).length=p:=by rw[fL,dH,il (Nat.le_of_lt h)]
 unfold UB AV
 rw[Q4 h]
 unfold C9
 grind
section
variable {out rest:List α}{x:α}{j:Nat}
theorem iH (hj:j≤out.length):(AV out rest x j).length=out.length+1+rest.length:=by
 unfold AV
 grind
theorem FX (hj:j≤out.length):(AV out rest x j).getD j e=x:=by
 unfold AV
 grind
theorem FT (h0:0<j) (hj:j≤out.length):(AV out rest x j).getD (j-1) e=out.getD (j-1) e:=by
 unfold AV
 grind
theorem Rt (h0:0<j) (hj:j≤out.length):((AV out rest x j).set j (out.getD (j-1) e)).set (j-1) x=AV out rest x (j-1):=by
 obtain⟨k,rfl⟩: ∃k,j=k+1:=⟨j-1,by omega⟩
 have hk:k<out.length:=by omega
 rw[Nat.add_sub_cancel]
 apply List.ext_getElem?
 intro q
 rw[List.getElem?_set,List.getElem?_set,xI,iH hj]
 have hl2:(out.take k).length=k:=by grind
 unfold AV
 by_cases e1:k=q
 ·grind
 grind
end
theorem EY (out:List α) (x:α):(C9 e C out x).Perm (x::out):=by
 exact List.perm_middle.trans (by rw[xQ])
theorem Dz: ∀(L O:List α),(L.foldl (C9 e C) O).Perm (O++L)
 |[],O=>by simp
 |x::L,O=>by
  rw[vF]
  exact(Dz L _).trans (((EY O x).append_right L).trans List.perm_middle.symm)
theorem kU (L:List α):(bp e C L).Perm L:=Dz L []
theorem OS {G:α→Prop}(anti: ∀x y,G x→G y→C y x= -C x y) (tr: ∀x y z,G x→G y→G z→C x y≤0→C y z≤0→C x z≤0) {out:List α}{x:α}(hx:G x) (hO: ∀y∈out,G y) (h:out.Pairwise fun a b=>C a b≤0):
 (C9 e C out x).Pairwise fun a b=>C a b≤0:=by
 have hp:=Lo (e:=e) (C:=C) x out out.length
 have up: ∀r,pM e C x out out.length≤r→r<out.length→C x (out.getD r e)<0:=fun r=>Mq
 have dn:=KY (e:=e) (C:=C) (x:=x) (out:=out) (k:=out.length)
 unfold C9
 generalize pM e C x out out.length=j at hp up dn
 have h2:=h
 rw[←xQ j out] at h2
 obtain⟨h3,h4,h5⟩:=xN.1 h2
 have hgt: ∀y∈out.drop j,C x y≤0:=fun y hy=>by
  obtain⟨r,hr,rfl⟩:=List.mem_iff_getElem.1 hy
  rw[fS] at hr
  have:=up (j+r) (by omega) (by omega)
  rw[List.getD,f9 (by omega)] at this
  rw[List.getElem_drop]
  have t2:C x (out[j+r]'(by omega))<0:=this
  omega
 have hlt: ∀y∈out.take j,C y x≤0:=fun y hy=>by
  obtain⟨r,hr,rfl⟩:=List.mem_iff_getElem.1 hy
  rw[dH] at hr
  have hj:0<j:=by omega
  have hl:(out.take j).length=j:=by rw[dH];omega
  have g:=dn hj
  have hm:j-1<out.length:=by omega
  rw[List.getD,f9 hm] at g
  have g2: ¬C x out[j-1]<0:=g
  have g3:=anti x out[j-1] hx (hO _ (uG hm))
  rw[List.getElem_take]
  have hr2:r<out.length:=by omega
  rcases gO r (j-1) with hlt|hge
  ·have g4:C out[r] out[j-1]≤0:=(List.pairwise_iff_getElem.1 h) r (j-1) hr2 hm hlt
   exact tr _ _ _ (hO _ (uG hr2)) (hO _ (uG hm)) hx g4 (by omega)
  ·have:r=j-1:=by omega
   subst this;omega
 refine xN.2 ⟨h3,lg.2 ⟨hgt,h4⟩,fun a ha b hb=>?_⟩
 rcases dD.1 hb with rfl|hb
 ·exact hlt a ha
 ·exact h5 a ha b hb
theorem wQ {G:α→Prop}(anti: ∀x y,G x→G y→C y x= -C x y) (tr: ∀x y z,G x→G y→G z→C x y≤0→C y z≤0→C x z≤0): ∀(L:List α) {O:List α},(∀y∈L,G y)→(∀y∈O,G y)→(O.Pairwise fun a b=>C a b≤0)→
 (L.foldl (C9 e C) O).Pairwise fun a b=>C a b≤0
 |[],O,_,_,h=>h
 |x::L,O,hL,hO,h=>by
  rw[vF]
  refine wQ anti tr L (fun y hy=>hL y (fC _ hy)) (fun y hy=>?_) (OS anti tr (hL x fO) hO h)
  rcases dD.1 ((EY O x).mem_iff.1 hy) with rfl|hy
  ·exact hL y fO
  ·exact hO y hy
variable {enc:α→List CellD}{m:Nat}
theorem jP (h: ∀x,(enc x).length=m) {O:List α}(hj:j<O.length):((ao enc O++rs).drop (j*m)).take m=enc (O.getD j e):=by
 have hl:=am h O
 have h2:(j+1)*m≤O.length*m:=pf _ hj
 rw[oh] at h2
 rw[xT (by omega),iY h (eB (d:=e) hj),nk,←h (O.getD j e)]
 grind
theorem wD (h: ∀x,(enc x).length=m) {O:List α}(hj:j<O.length) (x:α):(ao enc O++rs).take (j*m)++enc x++(ao enc O++rs).drop (j*m+m)=ao enc (O.set j x)++rs:=by
 have hl:=am h O
 have h2:(j+1)*m≤(ao enc O).length:=by rw[hl];exact pf _ hj
 have h1:j*m≤(ao enc O).length:=by grind
 rw[show j*m+m=(j+1)*m from by rw[oh,Nat.one_mul],yy h1,xT h2,pW h,p5 h,List.set_eq_take_append_cons_drop,if_pos hj,dB]
 show _=ao enc (O.take j)++(enc x++ao enc (O.drop (j+1)))++rs
 grind
end
def Cv.fwd (c:Cv):Cv:=if decide (cP c.p c.q>0) then c.rev else c
def zr:Cv→List Pt
 | .seg _ _ _=>[]
 | .arc k w f t=>(if (Cv.arc k w f t).inner (jT k) then[jT k] else[])++(if (Cv.arc k w f t).inner (jE k) then[jE k] else[])
def Rl (c:Cv):List Cv:=if c.isArc then iU c (zr c) else[c]
theorem Ha (h:CvV c):CvV c.fwd:=by unfold Cv.fwd;split;exact h.rev;exact h
theorem Mj (h:decide (cP c.p c.q>0)=true):c.fwd=c.rev:=by unfold Cv.fwd;rw[h];rfl
theorem MM (h:decide (cP c.p c.q>0)=false):c.fwd=c:=by unfold Cv.fwd;rw[h];rfl
theorem wh (h:CvV c): ∀p∈zr c,GP p∧c.on p=true:=by
 intro p hp
 cases c with
 |seg l f t=>cases hp
 |arc k w f t=>
  have hin: ∀ {x:Pt},(Cv.arc k w f t).inner x=true→(Cv.arc k w f t).on x=true:=fun h=>by unfold Cv.inner at h;rw[dL] at h;exact h.1
  rcases mW.1 hp with hp|hp
  ·split at hp
   ·rename_i e;cases nD.1 hp;exact⟨sj h.g.1 h.pos,hin e⟩
   grind
  ·split at hp
   ·rename_i e;cases nD.1 hp;exact⟨r8 h.g.1 h.pos,hin e⟩
   grind
theorem Uk (h1:(Cv.arc k w f t).inner (jT k)=false) (h2:(Cv.arc k w f t).inner (jE k)=false):zr (.arc k w f t)=[]:=by
 show(if _ then[jT k] else[])++(if _ then[jE k] else[])=_;rw[h1,h2];rfl
theorem XH (h:CvV c): ∀d∈Rl c,CvV d:=by
 intro d hd
 unfold Rl at hd
 split at hd
 ·exact Vs h (fun p hp=>(wh h p hp).1) (fun p hp=>FQ (wh h p hp).2) d hd
 grind
theorem acr (h:j<O.length):((ao aC O++rs).drop (j*66)).take 66=aC (O.getD j aX):=by
 have hl:=am ai O
 rw[xT (by omega),iY ai (eB (d:=aX) h),nk]
 exact Oa _ _
theorem Gq (j:Nat):ao aC O++rs=ao aC (O.take j)++(ao aC (O.drop j)++rs):=by
 rw[←nk,←dB,xQ]
theorem Pb {p c:Nat}(hp:O.length=p) (hj:j≤p) (hc:p≤c):((ao aC O++rs).drop (if j<c then j*66 else 0)).take ((p-j)*66)=ao aC (O.drop j):=by
 have h1:(ao aC (O.take j)).length=j*66:=by rw[am ai,dH,il (by omega)]
 have h2:(ao aC (O.drop j)).length=(p-j)*66:=by rw[am ai,fS,hp]
 by_cases h:j<c
 ·rw[if_pos h,Gq j,←h1,List.drop_left,←h2,List.take_left]
 ·have e:p-j=0:=by omega
  rw[e,Nat.zero_mul,List.take_zero,List.drop_of_length_le (by omega)];rfl
theorem Q0 {p c:Nat}(hp:O.length=p) (hj:j≤p) (hr:rs.length=(c-p)*66) (hc:p≤c):0<p-j→(if j<c then j*66 else 0)+(p-j)*66≤(ao aC O++rs).length:=by
 rw[dt,am ai,hp]
 grind
def bT:Cv→Pt→Pt→Int
 | .seg _ _ _,_,_=>0
 | .arc k w f t,p,q=>if w then-yA k t p q else yA k f p q
def tX (c:Cv) (S:List Pt):List Cv:=gI c (c.p::(S++[c.q]))
def VT:List CellD:=M8++M8++M8++M8++M8
theorem HU (c:Cv) (S:List Pt):(tX c S).length=S.length+1:=by
 unfold tX;rw[jg,ui,dt];simp
theorem x5 (c:Cv): ∀(l:List Pt) (a x:Pt),gI c (a::(l++[x]))=gI c (a::l)++[c.ends ((a::l).getD l.length dPt) x]
 |[],a,x=>rfl
 |b::l,a,x=>by
  show c.ends a b::gI c (b::(l++[x]))=c.ends a b::gI c (b::l)++_
  rw[x5 c l b x];rfl
end Go.Proofs.YtegpmhlfjkhjmaaGreat
