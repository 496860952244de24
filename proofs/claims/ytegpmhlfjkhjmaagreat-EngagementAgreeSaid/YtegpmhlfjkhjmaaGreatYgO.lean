/-The pieces of a curve:the reference. -/
import Derived.Test.YtegpmhlfjkhjmaaGreatYgN
namespace Go.Proofs.YtegpmhlfjkhjmaaGreat
open Go Go.RowKit
variable {w:Bool}{k:Ci}{c:Cv}{rs:List CellD}{l:Ln}{j:Nat}{f p q t:Pt}
theorem jU:type_of% @List.pairwise_cons:=@List.pairwise_cons
theorem wQ:type_of% @List.length_set:=@List.length_set
theorem xw:type_of% @List.pairwise_append:=@List.pairwise_append
theorem Qj (hk:GK k) (hp:GP p):Ok Tryz.prog 379 [.a (bo k),.a (ai p)] [.c (.i .i64 (zZ k p))]:=by
 refine bW Tryz.func379 rfl<|cz 6 [] ?_
 refine aC rfl (Ih) ?_
 refine aC rfl (xRY hp (hk.y.m_))<|cz 14 [] ?_
 refine AG (bq rfl) (fun c1 hb1=>?_)
 cases c1
 ·refine AG (bq rfl) (fun c2 hb2=>?_)
  cases c2
  ·refine qg rfl<|ah ?_
   rw[WH hb1 hb2]
   exact ak aa
  ·refine aC rfl (p6) ?_
   refine aC rfl (xRX hp (hk.x.m_)) ?_
   refine df rfl (fun hc3=>?_) (fun hc3=>?_)
   ·refine ah ?_
    rw[aaE hb1 hb2 hc3]
    exact ak aa
   ·refine ah ?_
    rw[Yr hb1 hb2 hc3]
    exact ak aa
 ·refine DQ.mk<|vE (nI rfl)<|dc ?_
  refine rx rfl<|ah ?_
  rw[aay hb1]
  exact ak aa
theorem FN (hk:GK k) (hp:GP p) (hq:GP q):Ok Tryz.prog 355 [.a (bo k),.a (ai p),.a (ai q)] [.c (.i .i64 (ns k p q))]:=by
 have b1:=PL k p
 have b2:=PL k q
 have b3:=eJ p q
 refine bW Tryz.func355 rfl<|cz 8 [] ?_
 refine aC rfl (Qj hk hp) ?_
 refine aC rfl (Qj hk hq) ?_
 refine df rfl (fun hc1=>?_) (fun hc1=>?_)
 ·refine ar (bZ ((zZ k p)-(zZ k q)) (bI (by omega) (by omega)) rfl)<|ah ?_
  rw[Xx (k:=k) (p:=p) (q:=q) (by simpa using hc1)]
  exact ak aa
 ·refine cz 6 [] ?_
  refine aC rfl (p6) ?_
  refine aC rfl (p6) ?_
  refine aC rfl (xCX hp hq) ?_
  refine df rfl (fun hc2=>?_) (fun hc2=>?_)
  ·refine ar (fi (r:= -cx p q) rfl (Ad b3) rfl) ?_
   refine ah ?_
   rw[Tr (k:=k) (p:=p) (q:=q) (by simpa using hc1) hc2]
   exact ak aa
  ·refine ah ?_
   rw[Q6 (k:=k) (p:=p) (q:=q) (by simpa using hc1) hc2]
   exact ak aa
theorem Km (hk:GK k) (hf:GP f) (hp:GP p):Ok Tryz.prog 353 [.a (bo k),.a (ai f),.a (ai p)] [.c (.i .i64 (rS k f p))]:=by
 refine bW Tryz.func353 rfl ?_
 refine ac rfl (FN hk hp hf) ?_
 refine df rfl (fun hc1=>?_) (fun hc1=>?_)
 ·refine ah ?_
  rw[WM hc1]
  exact ak aa
 ·refine df rfl (fun hc2=>?_) (fun hc2=>?_)
  ·refine ah ?_
   rw[V2 hc1 hc2]
   exact ak aa
  ·refine ah ?_
   rw[Wo hc1 hc2]
   exact ak aa
theorem M7 {n:Int}:Ok Tryz.prog 354 [.c (.i .i64 n)] [.c (.i .i64 (XO n))]:=by
 refine bW Tryz.func354 rfl<|ar (E7 rfl rfl rfl) ?_
 refine ar (Ej rfl rfl rfl) ?_
 refine ah ?_
 rw[show XO n=min 1 (max (-1) n) from rfl]
 exact ak aa
theorem Eg (hk:GK k) (hf:GP f) (hp:GP p) (hq:GP q):Ok Tryz.prog 304 [.a (bo k),.a (ai f),.a (ai p),.a (ai q)] [.c (.i .i64 (xn k f p q))]:=by
 have b1:=Pi k f p
 have b2:=Pi k f q
 refine bW Tryz.func304 rfl<|cz 10 [] ?_
 refine aC rfl (Km hk hf hp) ?_
 refine aC rfl (Km hk hf hq) ?_
 refine df rfl (fun hc1=>?_) (fun hc1=>?_)
 ·refine ar (bZ ((rS k f p)-(rS k f q)) (bI (by omega) (by omega)) rfl)<|ac rfl (M7)<|ah ?_
  rw[YZ (k:=k) (f:=f) (p:=p) (q:=q) (by simpa using hc1)]
  exact ak aa
 ·refine ac rfl (FN hk hp hq)<|ac rfl (M7)<|ah ?_
  rw[Zp (k:=k) (f:=f) (p:=p) (q:=q) (by simpa using hc1)]
  exact ak aa
theorem M8 (_hk:GK k) (_hf:GP f) (_ht:GP t):Ok Tryz.prog 224 [.a (([.b true]++mw++bo k++[.b w]++ai f++ai t))] [.a (([.b true]++mw++bo k++[.b (!w)]++ai t++ai f))]:=by
 refine bW Tryz.func224 rfl<|ar (co (ai t) bE rfl (by kernel_rfl)) ?_
 refine ar (co (ai f) bE rfl (by kernel_rfl)) ?_
 refine nM (aY (us:=([.b true]++mw++bo k++[.b w]++ai t++ai t)) bE rfl rfl rfl rfl (dO (by kernel_rfl)) (by kernel_rfl) rfl) ?_
 refine nM (aY (us:=([.b true]++mw++bo k++[.b w]++ai t++ai f)) bE rfl rfl rfl rfl (dO (by kernel_rfl)) (by kernel_rfl) rfl) ?_
 refine ar (gn mv rfl)<|ar (bq rfl) ?_
 refine ar (gn mv rfl) ?_
 refine nM (aY (us:=([.b true]++mw++bo k++[.b (!w)]++ai t++ai f)) mv rfl rfl rfl rfl (dO (by kernel_rfl)) (by kernel_rfl) rfl) ?_
 refine ar (fU bT rfl) ?_
 refine nM (dL bT rfl) ?_
 exact ah (jM (us:=([.b true]++mw++bo k++[.b (!w)]++ai t++ai f)) bT rfl rfl (by kernel_rfl) (by kernel_rfl) aa)
theorem Ve (_hl:GL l) (_hf:GP f) (_ht:GP t):Ok Tryz.prog 224 [.a (([.b false]++jq l++tK++[.b false]++ai f++ai t))] [.a (([.b false]++jq l++tK++[.b false]++ai t++ai f))]:=by
 refine bW Tryz.func224 rfl<|ar (co (ai t) bE rfl (by kernel_rfl)) ?_
 refine ar (co (ai f) bE rfl (by kernel_rfl)) ?_
 refine nM (aY (us:=([.b false]++jq l++tK++[.b false]++ai t++ai t)) bE rfl rfl rfl rfl (dO (by kernel_rfl)) (by kernel_rfl) rfl) ?_
 refine nM (aY (us:=([.b false]++jq l++tK++[.b false]++ai t++ai f)) bE rfl rfl rfl rfl (dO (by kernel_rfl)) (by kernel_rfl) rfl) ?_
 refine ar (gn mv rfl)<|ar (bq rfl) ?_
 refine nM (aY (us:=([.b false]++jq l++tK++[.b false]++ai t++ai f)) mv rfl rfl rfl rfl (dO (by kernel_rfl)) (by kernel_rfl) rfl) ?_
 refine ar (fU bT rfl) ?_
 refine nM (dL bT rfl) ?_
 exact ah (jM (us:=([.b false]++jq l++tK++[.b false]++ai t++ai f)) bT rfl rfl (by kernel_rfl) (by kernel_rfl) aa)
theorem Rr (hk:GK k) (hf:GP f) (ht:GP t):Ok Tryz.prog 303 [.a (([.b true]++mw++bo k++[.b true]++ai f++ai t))] [.a (([.b true]++mw++bo k++[.b false]++ai t++ai f))]:=by
 refine bW Tryz.func303 rfl<|ar (gn mv rfl)<|rx rfl ?_
 refine ar (fU bT rfl) ?_
 refine ac rfl (M8 (w:=true) hk hf ht) ?_
 refine nM (dL bT rfl) ?_
 exact ah (jM (us:=([.b true]++mw++bo k++[.b false]++ai t++ai f)) bT rfl rfl (by kernel_rfl) (by kernel_rfl) aa)
theorem Rw (_hk:GK k) (_hf:GP f) (_ht:GP t):Ok Tryz.prog 303 [.a (([.b true]++mw++bo k++[.b false]++ai f++ai t))] [.a (([.b true]++mw++bo k++[.b false]++ai f++ai t))]:=by
 refine bW Tryz.func303 rfl<|ar (gn mv rfl)<|qg rfl<|ar (fU bT rfl) ?_
 refine nM (dL bT rfl) ?_
 exact ah (jM (us:=([.b true]++mw++bo k++[.b false]++ai f++ai t)) bT rfl rfl (by kernel_rfl) (by kernel_rfl) aa)
theorem Vu (hk:GK k) (_hf:GP f) (_ht:GP t) (hp:GP p):Ok Tryz.prog 215 [.a (([.b true]++mw++bo k++[.b w]++ai f++ai t)),.a (ai p)] [.c (.b ((Cv.arc k w f t).supp p))]:=by
 refine bW Tryz.func215 rfl ?_
 refine ar (gn mv rfl) ?_
 refine rx rfl ?_
 refine ar (co (bo k) sI rfl (by kernel_rfl)) ?_
 refine ac rfl (Y8 hk hp) ?_
 exact ah (ak aa)
theorem Jj (hk:GK k) (h0:0<k.q) (of:OnK k f) (ot:OnK k t) (op:OnK k p):Ok Tryz.prog 216 [.a (([.b true]++mw++bo k++[.b true]++ai f++ai t)),.a (ai p)] [.c (.b (decide ((Cv.arc k true f t).ord f p≤0)&&decide ((Cv.arc k true f t).ord p t≤0)))]:=by
 have hf:=of.1
 have ht:=ot.1
 have hp:=op.1
 have e1:(decide ((Cv.arc k true f t).ord f p≤0)&&decide ((Cv.arc k true f t).ord p t≤0))=decide (xn k t p f≤0):=Dd h0 of ot op
 refine bW Tryz.func216 rfl ?_
 refine ar (gn mv rfl) ?_
 refine qg rfl ?_
 refine ar (fU bT rfl) ?_
 refine ac rfl (Rr hk hf ht) ?_
 refine nM (dL bT rfl) ?_
 refine ar (co (bo k) sI rfl (by kernel_rfl)) ?_
 refine ar (co (ai t) bE rfl (by kernel_rfl)) ?_
 refine ar (co (ai f) bE rfl (by kernel_rfl)) ?_
 refine ac rfl (Eg hk ht hp hf)<|ah ?_
 rw[e1]
 exact ak aa
theorem HL (hk:GK k) (_h0:0<k.q) (of:OnK k f) (ot:OnK k t) (op:OnK k p):Ok Tryz.prog 216 [.a (([.b true]++mw++bo k++[.b false]++ai f++ai t)),.a (ai p)] [.c (.b (decide ((Cv.arc k false f t).ord f p≤0)&&decide ((Cv.arc k false f t).ord p t≤0)))]:=by
 have hf:=of.1
 have ht:=ot.1
 have hp:=op.1
 have e1:(decide ((Cv.arc k false f t).ord f p≤0)&&decide ((Cv.arc k false f t).ord p t≤0))=decide (xn k f p t≤0):=zi hf ht hp
 refine bW Tryz.func216 rfl ?_
 refine ar (gn mv rfl) ?_
 refine qg rfl ?_
 refine ar (fU bT rfl) ?_
 refine ac rfl (Rw hk hf ht) ?_
 refine nM (dL bT rfl) ?_
 refine ar (co (bo k) sI rfl (by kernel_rfl)) ?_
 refine ar (co (ai f) bE rfl (by kernel_rfl)) ?_
 refine ar (co (ai t) bE rfl (by kernel_rfl)) ?_
 refine ac rfl (Eg hk hf hp ht)<|ah ?_
 rw[e1]
 exact ak aa
theorem Yo (hk:GK k) (h0:0<k.q) (of:OnK k f) (ot:OnK k t) (op:OnK k p):Ok Tryz.prog 216 [.a (([.b true]++mw++bo k++[.b w]++ai f++ai t)),.a (ai p)] [.c (.b (decide ((Cv.arc k w f t).ord f p≤0)&&decide ((Cv.arc k w f t).ord p t≤0)))]:=by
 cases w with
 |true=>exact Jj hk h0 of ot op
 |false=>exact HL hk h0 of ot op
theorem TQ (hk:GK k) (h0:0<k.q) (of:OnK k f) (ot:OnK k t) (hp:GP p):Ok Tryz.prog 123 [.a (([.b true]++mw++bo k++[.b w]++ai f++ai t)),.a (ai p)] [.c (.b ((Cv.arc k w f t).on p))]:=by
 have hf:=of.1
 have ht:=ot.1
 refine bW Tryz.func123 rfl ?_
 refine ar (fU bT rfl) ?_
 refine ac rfl (Vu hk hf ht hp) ?_
 refine jC (bq rfl) (fun c1 hb1=>?_)
 cases c1
 ·refine ah ?_
  rw[W8 (c:=(Cv.arc k w f t)) (p:=p) hb1]
  exact ak aa
 ·have op:OnK k p:=⟨hp,bH.1 hb1⟩
  refine ar (fU bT rfl) ?_
  refine ac rfl (Yo hk h0 of ot op)<|ah ?_
  rw[yp (c:=(Cv.arc k w f t)) (p:=p) hb1]
  exact ak aa
theorem PU (hk:GK k) (h0:0<k.q) (of:OnK k f) (ot:OnK k t) (hp:GP p):Ok Tryz.prog 223 [.a (([.b true]++mw++bo k++[.b w]++ai f++ai t)),.a (ai p)] [.c (.b ((Cv.arc k w f t).inner p))]:=by
 have hf:=of.1
 have ht:=ot.1
 refine bW Tryz.func223 rfl ?_
 refine ar (fU bT rfl) ?_
 refine ac rfl (TQ hk h0 of ot hp) ?_
 refine jC (bq rfl) (fun c1 hb1=>?_)
 cases c1
 ·refine ar (bq rfl)<|ah ?_
  rw[aaf (c:=(Cv.arc k w f t)) (p:=p) hb1]
  exact ak aa
 ·refine ar (co (ai f) bE rfl (by kernel_rfl)) ?_
  refine ac rfl (xQ hf hp) ?_
  refine jC (bq rfl) (fun c2 hb2=>?_)
  cases c2
  ·refine ah ?_
   rw[Xt (c:=(Cv.arc k w f t)) (p:=p) hb1 hb2]
   exact ak aa
  ·refine ar (co (ai t) bE rfl (by kernel_rfl)) ?_
   refine ac rfl (xQ ht hp)<|ah ?_
   rw[U4 (c:=(Cv.arc k w f t)) (p:=p) hb1 hb2]
   exact ak aa
theorem Kl (_hl:GL l) (hf:GP f) (ht:GP t):Ok Tryz.prog 231 [.a (([.b false]++jq l++tK++[.b false]++ai f++ai t))] [.c (.b ((Cv.seg l f t).vert))]:=by
 refine bW Tryz.func231 rfl<|cz 13 [] ?_
 refine aq (gn mv rfl) ?_
 refine aq (bq rfl) ?_
 refine aq (co (ai f) bE rfl (by kernel_rfl)) ?_
 refine aC rfl (p6) ?_
 refine aq (co (ai t) bE rfl (by kernel_rfl)) ?_
 refine aC rfl (p6) ?_
 refine aC rfl (xEX hf ht) ?_
 exact ah (ak aa)
theorem Fh (_hk:GK k) (_hf:GP f) (_ht:GP t):Ok Tryz.prog 231 [.a (([.b true]++mw++bo k++[.b w]++ai f++ai t))] [.c (.b ((Cv.arc k w f t).vert))]:=by
 refine bW Tryz.func231 rfl<|cz 13 [] ?_
 refine aq (gn mv rfl) ?_
 refine aq (bq rfl) ?_
 exact ah (ak aa)
theorem yEX (hp:GP p) (hq:GP q):Ok Tryz.prog 336 [.a ((cR p.a1++cR p.b1++cR (zc p.b1 p.c))),.a ((cR q.a1++cR q.b1++cR (zc q.b1 q.c)))] [.c (.b (cx p q==0))]:=by
 refine bW Tryz.func336 rfl ?_
 refine ac rfl (yCX hp hq) ?_
 exact ah (ak aa)
theorem Ek (_hl:GL l) (hf:GP f) (ht:GP t):Ok Tryz.prog 268 [.a (([.b false]++jq l++tK++[.b false]++ai f++ai t))] [.c (.b ((Cv.seg l f t).vert))]:=by
 refine bW Tryz.func268 rfl<|cz 13 [] ?_
 refine aq (gn mv rfl) ?_
 refine aq (bq rfl) ?_
 refine aq (co (ai f) bE rfl (by kernel_rfl)) ?_
 refine aC rfl (n5) ?_
 refine aq (co (ai t) bE rfl (by kernel_rfl)) ?_
 refine aC rfl (n5) ?_
 refine aC rfl (yEX hf ht) ?_
 exact ah (ak aa)
theorem AM (_hk:GK k) (_hf:GP f) (_ht:GP t):Ok Tryz.prog 268 [.a (([.b true]++mw++bo k++[.b w]++ai f++ai t))] [.c (.b ((Cv.arc k w f t).vert))]:=by
 refine bW Tryz.func268 rfl<|cz 13 [] ?_
 refine aq (gn mv rfl) ?_
 refine aq (bq rfl) ?_
 exact ah (ak aa)
theorem XU (hc:CvV c):Ok Tryz.prog 268 [.a (aG c)] [.c (.b c.vert)]:=by
 cases c with
 |seg l f t=>exact Ek hc.g.1 hc.g.2.1 hc.g.2.2
 |arc k w f t=>exact AM hc.g.1 hc.g.2.1 hc.g.2.2
theorem Wq (hc:CvV c):Ok Tryz.prog 147 [.a (aG c)] [.a (aG c.rev)]:=by
 cases c with
 |seg l f t=>exact XW hc.g.1 hc.g.2.1 hc.g.2.2
 |arc k w f t=>exact Xg hc.g.1 hc.g.2.1 hc.g.2.2
theorem Iq (hl:GL l) (hp:GP p) (hq:GP q) (h1:z9 l p=0) (h2:z9 l q=0) (hn:cP p q≠0):cx p q=0↔l.b=0:=by
 have cp:=b9 hp
 have cq:=b9 hq
 rw[M4 hp] at h1
 rw[M4 hq] at h2
 have e:Re.of l.a*(pX p-pX q)+Re.of l.b*(pY p-pY q)=QR l p+ -QR l q:=ba fun n=>by unfold QR;simp only[aI,ao,aD,aV,bg];grind
 have h3:aO (Re.of l.a*(pX p-pX q)+Re.of l.b*(pY p-pY q))=0:=by rw[e,dE _ (by rw[b8,h2];rfl),h1]
 rw[n8 cp cq]
 have hy:aO (pX p-pX q)=0→aO (pY p-pY q)≠0:=fun h g=>hn (d8.2 ⟨by rw[n8 cp cq];exact h,by rw[rb cp cq];exact g⟩)
 constructor
 ·intro h
  rw[mm (by rw[bj,h,og]),bj,ca] at h3
  rcases t9.1 h3 with g|g
  ·exact Bx.1 g
  grind
 ·intro h
  have ha:aw l.a 0≠0:=fun g=>hl.n (by unfold fM;rw[Bx.1 g,h];grind)
  rw[h,dE _ (by rw[bj,ca,jl,lX]),bj,ca] at h3
  rcases t9.1 h3 with g|g
  ·grind
  grind
theorem zl {a b c:Rat}(ha:Rz 400000 a) (hb:Rz 400000 b) (hc:Rz 400000 c) (h1:vi a b c≠0) (h2:a*a-b*b*c≠0):Ok Tryz.prog 315 [.a ((cR a++cR b++cR c))] [.a ((cR (a*GC a b c)++cR (-b*GC a b c)++cR (zc (-b*GC a b c) c))),.c (.i .i64 0)]:=by
 have o1:Rz 6000000 (1:Rat):=n6 (by decide+kernel)
 have n1:Rz 2020000 (a*a-b*b*c):=((ha.mul ha).sub ((hb.mul hb).mul hc)).m_
 have n2:Rz 6000000 (a*a-b*b*c):=n1.m_
 have i1:Rz 6000000 (GC a b c):=(Rz.div (k:=1) (n6 (by decide+kernel)) n1 h2).m_
 have ka:Rz 6000000 a:=ha.m_
 have kb:Rz 6000000 (-b):=(hb.m_).neg
 have wa:Rz 1000000 a:=ha.m_
 have wb:Rz 1000000 b:=hb.m_
 have wc:Rz 1000000 c:=hc.m_
 refine bW Tryz.func315 rfl ?_
 refine ac rfl (Iy wa wb wc) ?_
 refine df rfl (fun hc1=>?_) (fun hc1=>?_)
 ·exact absurd (by simpa using hc1) h1
 ·refine cz 10 [4,999999] ?_
  refine aC rfl ((show Ok Tryz.prog 70 [.c (.i .i64 1)] [dR 1] from fX (by omega) (by omega))) ?_
  refine aC rfl (Bw wa wb wc) ?_
  refine aC rfl (o7 o1 n2 h2) ?_
  refine DQ.mk<|fp (dL aX rfl) rfl rfl rfl rfl<|dc ?_
  refine qg rfl ?_
  refine cz 10 [] ?_
  refine aC rfl (dD (aE hb)) ?_
  refine aq (az (us:=(cR a++cR (-b)++cR c)) kT js rfl rfl rfl) ?_
  refine aC rfl (F9 ka kb i1) ?_
  exact ah (aQ cG rfl (ak aa))
section
variable {α:Type}(e:α) (C:α→α→Int)
def oF (x:α) (out:List α):Nat→Nat
 |0=>0
 |k+1=>if C x (out.getD k e)<0 then oF x out k else k+1
def Cn (out:List α) (x:α):List α:=out.take (oF e C x out out.length)++x::out.drop (oF e C x out out.length)
def bc (L:List α):List α:=L.foldl (Cn e C) []
def zV (out rest:List α) (x:α) (j:Nat):List α:=out.take j++x::(out.drop j++rest)
def Rn (L:List α) (p:Nat):List α:=bc e C (L.take p)++L.drop p
variable {e C}
theorem Kw (x:α) (out:List α): ∀k,oF e C x out k≤k
 |0=>cj _
 |k+1=>by
  show(if _ then oF e C x out k else k+1)≤k+1
  split
  ·have:=Kw x out k;omega
  ·exact cj _
theorem NP {x:α}{out:List α}(h0:0<j) (h:C x (out.getD (j-1) e)<0):oF e C x out j=oF e C x out (j-1):=by
 match j,h0 with
 |j+1,_=>exact if_pos h
theorem Fs {x:α}{out:List α}(h:j=0∨ ¬C x (out.getD (j-1) e)<0):oF e C x out j=j:=by
 match j with
 |0=>rfl
 |j+1=>
  rcases h with h|h
  ·omega
  ·exact if_neg h
theorem J3 {x:α}{out:List α}: ∀ {k r:Nat},oF e C x out k≤r→r<k→C x (out.getD r e)<0
 |0,r,_,h=>by omega
 |k+1,r,h1,h2=>by
  unfold oF at h1
  split at h1
  ·rename_i g
   rcases kH r k with h|h
   ·exact J3 h1 h
   ·rw[show r=k from by omega];exact g
  ·omega
theorem Kx {x:α}{out:List α}: ∀ {k:Nat},0<oF e C x out k→ ¬C x (out.getD (oF e C x out k-1) e)<0
 |0,h=>absurd h (Nat.lt_irrefl 0)
 |k+1,h=>by
  unfold oF at h⊢
  by_cases g:C x (out.getD k e)<0
  ·rw[if_pos g] at h⊢;exact Kx h
  ·rw[if_neg g] at h⊢;exact g
theorem PD (out:List α) (x:α):(Cn e C out x).length=out.length+1:=by
 unfold Cn
 grind
theorem D1: ∀(L O:List α),(L.foldl (Cn e C) O).length=O.length+L.length
 |[],O=>rfl
 |x::L,O=>by rw[vf,D1 L,PD,zz];omega
theorem fk (L:List α):(bc e C L).length=L.length:=by unfold bc;rw[D1];simp
theorem Od {L:List α}{p:Nat}(h:p<L.length):bc e C (L.take (p+1))=Cn e C (bc e C (L.take p)) (L.getD p e):=by
 unfold bc;rw[r6 (d:=e) h,List.foldl_append];rfl
theorem Lh (L:List α):Rn e C L 1=L:=by
 cases L with
 |nil=>rfl
 |cons x L=>rfl
theorem K7 (L:List α):Rn e C L L.length=bc e C L:=by unfold Rn;simp
theorem KL {L:List α}{p:Nat}(h:p<L.length):Rn e C L p=zV (bc e C (L.take p)) (L.drop (p+1)) (L.getD p e) p:=by
 have hl:(bc e C (L.take p)).length=p:=by rw[fk,gz,qO (Nat.le_of_lt h)]
 unfold Rn zV
 rw[show(bc e C (L.take p)).take p=bc e C (L.take p) from jY (tS hl),show(bc e C (L.take p)).drop p=[] from pg (tS hl),sv,oD h,List.getD,ip h]
 rfl
theorem yS {L:List α}{p:Nat}(h:p<L.length) (hj:oF e C (L.getD p e) (bc e C (L.take p)) p=j):zV (bc e C (L.take p)) (L.drop (p+1)) (L.getD p e) j=Rn e C L (p+1):=by
 have hl:(bc e C (L.take p)).length=p:=by rw[fk,gz,qO (Nat.le_of_lt h)]
 unfold Rn zV
 rw[Od h]
 unfold Cn
 grind
section
variable {out rest:List α}{x:α}{j:Nat}
theorem gV (hj:j≤out.length):(zV out rest x j).length=out.length+1+rest.length:=by
 unfold zV
 grind
theorem Fj (hj:j≤out.length):(zV out rest x j).getD j e=x:=by
 unfold zV
 grind
theorem FF (h0:0<j) (hj:j≤out.length):(zV out rest x j).getD (j-1) e=out.getD (j-1) e:=by
 unfold zV
 grind
theorem PP (h0:0<j) (hj:j≤out.length):((zV out rest x j).set j (out.getD (j-1) e)).set (j-1) x=zV out rest x (j-1):=by
 obtain⟨k,rfl⟩: ∃k,j=k+1:=⟨j-1,by omega⟩
 have hk:k<out.length:=by omega
 rw[Nat.add_sub_cancel]
 apply List.ext_getElem?
 intro q
 rw[List.getElem?_set,List.getElem?_set,wQ,gV hj]
 have hl2:(out.take k).length=k:=by grind
 unfold zV
 by_cases e1:k=q
 ·grind
 grind
end
theorem Dc (out:List α) (x:α):(Cn e C out x).Perm (x::out):=by
 exact List.perm_middle.trans (by rw[A7])
theorem A9: ∀(L O:List α),(L.foldl (Cn e C) O).Perm (O++L)
 |[],O=>by simp
 |x::L,O=>by
  rw[vf]
  exact(A9 L _).trans (((Dc O x).append_right L).trans List.perm_middle.symm)
theorem iI (L:List α):(bc e C L).Perm L:=A9 L []
theorem Qd {G:α→Prop}(anti: ∀x y,G x→G y→C y x= -C x y) (tr: ∀x y z,G x→G y→G z→C x y≤0→C y z≤0→C x z≤0) {out:List α}{x:α}(hx:G x) (hO: ∀y∈out,G y) (h:out.Pairwise fun a b=>C a b≤0):
 (Cn e C out x).Pairwise fun a b=>C a b≤0:=by
 have hp:=Kw (e:=e) (C:=C) x out out.length
 have up: ∀r,oF e C x out out.length≤r→r<out.length→C x (out.getD r e)<0:=fun r=>J3
 have dn:=Kx (e:=e) (C:=C) (x:=x) (out:=out) (k:=out.length)
 unfold Cn
 generalize oF e C x out out.length=j at hp up dn
 have h2:=h
 rw[←A7 j out] at h2
 obtain⟨h3,h4,h5⟩:=xw.1 h2
 have hgt: ∀y∈out.drop j,C x y≤0:=fun y hy=>by
  obtain⟨r,hr,rfl⟩:=List.mem_iff_getElem.1 hy
  rw[jF] at hr
  have:=up (j+r) (by omega) (by omega)
  rw[List.getD,ip (by omega)] at this
  rw[List.getElem_drop]
  have t2:C x (out[j+r]'(by omega))<0:=this
  omega
 have hlt: ∀y∈out.take j,C y x≤0:=fun y hy=>by
  obtain⟨r,hr,rfl⟩:=List.mem_iff_getElem.1 hy
  rw[gz] at hr
  have hj:0<j:=by omega
  have hl:(out.take j).length=j:=by rw[gz];omega
  have g:=dn hj
  have hm:j-1<out.length:=by omega
  rw[List.getD,ip hm] at g
  have g2: ¬C x out[j-1]<0:=g
  have g3:=anti x out[j-1] hx (hO _ (tz hm))
  rw[List.getElem_take]
  have hr2:r<out.length:=by omega
  rcases kH r (j-1) with hlt|hge
  ·have g4:C out[r] out[j-1]≤0:=(List.pairwise_iff_getElem.1 h) r (j-1) hr2 hm hlt
   exact tr _ _ _ (hO _ (tz hr2)) (hO _ (tz hm)) hx g4 (by omega)
  ·have:r=j-1:=by omega
   subst this;omega
 refine xw.2 ⟨h3,jU.2 ⟨hgt,h4⟩,fun a ha b hb=>?_⟩
 rcases dM.1 hb with rfl|hb
 ·exact hlt a ha
 ·exact h5 a ha b hb
theorem v8 {G:α→Prop}(anti: ∀x y,G x→G y→C y x= -C x y) (tr: ∀x y z,G x→G y→G z→C x y≤0→C y z≤0→C x z≤0): ∀(L:List α) {O:List α},(∀y∈L,G y)→(∀y∈O,G y)→(O.Pairwise fun a b=>C a b≤0)→
 (L.foldl (Cn e C) O).Pairwise fun a b=>C a b≤0
 |[],O,_,_,h=>h
 |x::L,O,hL,hO,h=>by
  rw[vf]
  refine v8 anti tr L (fun y hy=>hL y (gN _ hy)) (fun y hy=>?_) (Qd anti tr (hL x gT) hO h)
  rcases dM.1 ((Dc O x).mem_iff.1 hy) with rfl|hy
  ·exact hL y gT
  ·exact hO y hy
variable {enc:α→List CellD}{m:Nat}
theorem jt (h: ∀x,(enc x).length=m) {O:List α}(hj:j<O.length):((aJ enc O++rs).drop (j*m)).take m=enc (O.getD j e):=by
 have hl:=aM h O
 have h2:(j+1)*m≤O.length*m:=rc _ hj
 rw[tF] at h2
 rw[zJ (by omega),iH h (eh (d:=e) hj),qc,←h (O.getD j e)]
 grind
theorem v5 (h: ∀x,(enc x).length=m) {O:List α}(hj:j<O.length) (x:α):(aJ enc O++rs).take (j*m)++enc x++(aJ enc O++rs).drop (j*m+m)=aJ enc (O.set j x)++rs:=by
 have hl:=aM h O
 have h2:(j+1)*m≤(aJ enc O).length:=by rw[hl];exact rc _ hj
 have h1:j*m≤(aJ enc O).length:=by grind
 rw[show j*m+m=(j+1)*m from by rw[tF,Nat.one_mul],xA h1,zJ h2,Du h,DR h,List.set_eq_take_append_cons_drop,if_pos hj,gW]
 show _=aJ enc (O.take j)++(enc x++aJ enc (O.drop (j+1)))++rs
 grind
end
def Cv.fwd (c:Cv):Cv:=if decide (cP c.p c.q>0) then c.rev else c
def yg:Cv→List Pt
 | .seg _ _ _=>[]
 | .arc k w f t=>(if (Cv.arc k w f t).inner (fY k) then[fY k] else[])++(if (Cv.arc k w f t).inner (fR k) then[fR k] else[])
def Pq (c:Cv):List Cv:=if c.isArc then mN c (yg c) else[c]
theorem H0 (h:CvV c):CvV c.fwd:=by unfold Cv.fwd;split;exact h.rev;exact h
theorem HE (h:decide (cP c.p c.q>0)=true):c.fwd=c.rev:=by unfold Cv.fwd;rw[h];rfl
theorem HU (h:decide (cP c.p c.q>0)=false):c.fwd=c:=by unfold Cv.fwd;rw[h];rfl
theorem uv (h:CvV c): ∀p∈yg c,GP p∧c.on p=true:=by
 intro p hp
 cases c with
 |seg l f t=>cases hp
 |arc k w f t=>
  have hin: ∀ {x:Pt},(Cv.arc k w f t).inner x=true→(Cv.arc k w f t).on x=true:=fun h=>by unfold Cv.inner at h;rw[dF] at h;exact h.1
  rcases ol.1 hp with hp|hp
  ·split at hp
   ·rename_i e;cases kj.1 hp;exact⟨qZ h.g.1 h.pos,hin e⟩
   grind
  ·split at hp
   ·rename_i e;cases kj.1 hp;exact⟨q5 h.g.1 h.pos,hin e⟩
   grind
theorem SH (h1:(Cv.arc k w f t).inner (fY k)=false) (h2:(Cv.arc k w f t).inner (fR k)=false):yg (.arc k w f t)=[]:=by
 show(if _ then[fY k] else[])++(if _ then[fR k] else[])=_;rw[h1,h2];rfl
theorem Wd (h:CvV c): ∀d∈Pq c,CvV d:=by
 intro d hd
 unfold Pq at hd
 split at hd
 ·exact SO h (fun p hp=>(uv h p hp).1) (fun p hp=>Fl (uv h p hp).2) d hd
 grind
def br:Cv→Pt→Pt→Int
 | .seg _ _ _,_,_=>0
 | .arc k w f t,p,q=>if w then-xn k t p q else xn k f p q
def q8 (c:Cv) (S:List Pt):List Cv:=jX c (c.p::(S++[c.q]))
def Us:List CellD:=LB++LB++LB++LB++LB
theorem Gs (c:Cv) (S:List Pt):(q8 c S).length=S.length+1:=by
 unfold q8;rw[sb,zz,dj];simp
theorem xy (c:Cv): ∀(l:List Pt) (a x:Pt),jX c (a::(l++[x]))=jX c (a::l)++[c.ends ((a::l).getD l.length dPt) x]
 |[],a,x=>rfl
 |b::l,a,x=>by
  show c.ends a b::jX c (b::(l++[x]))=c.ends a b::jX c (b::l)++_
  rw[xy c l b x];rfl
end Go.Proofs.YtegpmhlfjkhjmaaGreat
