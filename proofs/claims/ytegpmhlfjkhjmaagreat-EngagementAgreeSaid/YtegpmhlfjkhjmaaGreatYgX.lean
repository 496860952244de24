/-The distance of a point from an arc:the reference. -/
import Derived.Test.YtegpmhlfjkhjmaaGreatYgW
namespace Go.Proofs.YtegpmhlfjkhjmaaGreat
open Go Go.RowKit
variable {w:Bool}{k:Ci}{c:Cv}{a b n:Int}{l:Ln}{f m p t u v:Pt}{x:Rat}
theorem NS {q:Pt}(hp:GP p) (hq:GP q):Ok Tryz.prog 80 [.a (ai p),.a (ai q),dR 0] [.c (.i .i64 (abh p q))]:=by
 have z1:Rz 1 (0:Rat):=eK (by decide)
 obtain⟨⟨x1,x2,x3,x4⟩,x5,x6,x7,x8⟩:=Y4 hp hq
 have t0:Rz 400000 (p.a1-0):=(hp.a1.sub z1).m_
 have t1:Rz 400000 (p.a2-0):=(hp.a2.sub z1).m_
 have t2:Rz 400000 (q.a1-0):=(hq.a1.sub z1).m_
 have t3:Rz 400000 (q.a2-0):=(hq.a2.sub z1).m_
 have t4:Rz 400000 (p.b1):=hp.b1.m_
 have t5:Rz 400000 (p.b2):=hp.b2.m_
 have t6:Rz 400000 (q.b1):=hq.b1.m_
 have t7:Rz 400000 (q.b2):=hq.b2.m_
 have u10:Rz 2000000 ((p.a1-0)*(q.a1-0)):=((hp.a1.sub z1).mul (hq.a1.sub z1)).m_
 have u11:Rz 2000000 (p.b1*(q.a1-0)):=(hp.b1.mul (hq.a1.sub z1)).m_
 have u12:Rz 2000000 ((p.a1-0)*q.b1):=((hp.a1.sub z1).mul hq.b1).m_
 have u13:Rz 2000000 (p.b1*q.b1):=(hp.b1.mul hq.b1).m_
 have u20:Rz 2000000 ((p.a2-0)*(q.a2-0)):=((hp.a2.sub z1).mul (hq.a2.sub z1)).m_
 have u21:Rz 2000000 (p.b2*(q.a2-0)):=(hp.b2.mul (hq.a2.sub z1)).m_
 have u22:Rz 2000000 ((p.a2-0)*q.b2):=((hp.a2.sub z1).mul hq.b2).m_
 have u23:Rz 2000000 (p.b2*q.b2):=(hp.b2.mul hq.b2).m_
 have y1:Rz 2000000 (q9 p q):=x1.m_
 have w1:Rz 2000000 (q9 p q+q9 p q):=(x1.add x1).m_
 have y2:Rz 2000000 (uh p q):=x2.m_
 have w2:Rz 2000000 (uh p q+uh p q):=(x2.add x2).m_
 have y3:Rz 2000000 (uV p q):=x3.m_
 have w3:Rz 2000000 (uV p q+uV p q):=(x3.add x3).m_
 have y4:Rz 2000000 (wX p q):=x4.m_
 have w4:Rz 2000000 (wX p q+wX p q):=(x4.add x4).m_
 have v1:Rz 2000 (-(q9 p q+q9 p q)):=((x1.add x1).neg).m_
 have v2:Rz 2000 (-(uh p q+uh p q)):=((x2.add x2).neg).m_
 have v3:Rz 2000 (-(uV p q+uV p q)):=((x3.add x3).neg).m_
 have v4:Rz 2000 (-(wX p q+wX p q)):=((x4.add x4).neg).m_
 have f1:Rz 5000 (-(q9 p q+q9 p q)+sN p):=(v1.add x5).m_
 have f2:Rz 8000 (-(q9 p q+q9 p q)+sN p+sN q):=(f1.add x6).m_
 have z2:Rz 3 ((0:Rat)*0):=(z1.mul z1).m_
 have f3:Rz 9000 (-(q9 p q+q9 p q)+sN p+sN q-0*0):=(f2.sub z2).m_
 have f4:Rz 9000 (-(uh p q+uh p q)+qC oK p):=(v2.add x7).m_
 have f5:Rz 9000 (-(uV p q+uV p q)+qC oK q):=(v3.add x8).m_
 refine bW Tryz.func80 rfl<|ac rfl (cA (by decide) (by decide))<|ac rfl (cA (by decide) (by decide))<|ar (az (us:=(cR 0++cR 0)) IW G1 rfl rfl rfl) ?_
 refine ac rfl ((show Ok _ _ _ [.a ((cR (p.a1-0)++cR p.b1++cR p.c)),.a ((cR (p.a2-0)++cR p.b2++cR p.c))] from E4 goK hp))<|ac rfl ((show Ok _ _ _ [.a ((cR (q.a1-0)++cR q.b1++cR q.c)),.a ((cR (q.a2-0)++cR q.b2++cR q.c))] from E4 goK hq))<|cz 8 [] ?_
 refine aC rfl (yu (by first|assumption|(exact bY (by assumption) (by decide))) (by first|assumption|(exact bY (by assumption) (by decide))) (by first|assumption|(exact bY (by assumption) (by decide))) (by first|assumption|(exact bY (by assumption) (by decide)))) ?_
 refine aC rfl (yu (by first|assumption|(exact bY (by assumption) (by decide))) (by first|assumption|(exact bY (by assumption) (by decide))) (by first|assumption|(exact bY (by assumption) (by decide))) (by first|assumption|(exact bY (by assumption) (by decide)))) ?_
 refine aC rfl ((show Ok _ _ _ [.a ((cR (q9 p q)++cR (uh p q)++cR (uV p q)++cR (wX p q)++cR p.c++cR q.c))] from EX (by first|assumption|(exact bY (by assumption) (by decide))) (by first|assumption|(exact bY (by assumption) (by decide))) (by first|assumption|(exact bY (by assumption) (by decide))) (by first|assumption|(exact bY (by assumption) (by decide))) (by first|assumption|(exact bY (by assumption) (by decide))) (by first|assumption|(exact bY (by assumption) (by decide))) (by first|assumption|(exact bY (by assumption) (by decide))) (by first|assumption|(exact bY (by assumption) (by decide))))) ?_
 refine ac rfl (EX y1 y2 y3 y4 y1 y2 y3 y4)<|cz 8 [] ?_
 refine aC rfl ((show Ok _ _ _ [.a ((cR (sN p)++cR (qC oK p)++cR (zc (qC oK p) p.c)))] from J1 goK hp.gb)) ?_
 refine aC rfl ((show Ok _ _ _ [.a ((cR (sN q)++cR (qC oK q)++cR (zc (qC oK q) q.c)))] from J1 goK hq.gb))<|ac rfl (Ns w1 w2 w3 w4)<|cz 13 [] ?_
 refine aC rfl (pc (by first|assumption|exact bY (by assumption) (by decide)) (by first|assumption|exact bY (by assumption) (by decide))) ?_
 refine aC rfl (pc (by first|assumption|exact bY (by assumption) (by decide)) (by first|assumption|exact bY (by assumption) (by decide))) ?_
 refine aC rfl (zT (by first|assumption|exact bY (by assumption) (by decide)) (by first|assumption|exact bY (by assumption) (by decide))) ?_
 refine aC rfl (Je (by first|assumption|exact bY (by assumption) (by decide)) (by first|assumption|exact bY (by assumption) (by decide))) ?_
 refine nM (aY (us:=(cR (-(q9 p q+q9 p q)+(sN p)+(sN q)-0*0)++cR (-(uh p q+uh p q))++cR (-(uV p q+uV p q))++cR (-(wX p q+wX p q))++cR p.c++cR q.c)) aX rfl rfl rfl rfl (dO rfl) rfl rfl) ?_
 refine ac rfl (pc (by first|assumption|exact bY (by assumption) (by decide)) (by first|assumption|exact bY (by assumption) (by decide))) ?_
 refine nM (aY (us:=(cR (-(q9 p q+q9 p q)+(sN p)+(sN q)-0*0)++cR (-(uh p q+uh p q)+(qC oK p))++cR (-(uV p q+uV p q))++cR (-(wX p q+wX p q))++cR p.c++cR q.c)) aX rfl rfl rfl rfl (dO rfl) rfl rfl) ?_
 refine ac rfl (pc (by first|assumption|exact bY (by assumption) (by decide)) (by first|assumption|exact bY (by assumption) (by decide))) ?_
 refine nM (aY (us:=(cR (-(q9 p q+q9 p q)+(sN p)+(sN q)-0*0)++cR (-(uh p q+uh p q)+(qC oK p))++cR (-(uV p q+uV p q)+(qC oK q))++cR (-(wX p q+wX p q))++cR p.c++cR q.c)) aX rfl rfl rfl rfl (dO rfl) rfl rfl) ?_
 refine ac rfl (zM (f3.m_) (f4.m_) (f5.m_) (v4.m_) (hp.c.m_) (hq.c.m_)) ?_
 exact ah (ak aa)
theorem Wx (hk:GK k) (hu:GP u) (hv:GP v) (hp:GP p) (h1:CB k u p=1) (h2:CB k p v=1):Ok Tryz.prog 90 [.a (([.b true]++mw++bo k++[.b false]++ai u++ai v)),.a (ai p)] [.c (.b true)]:=by
 have h3:CB k v p= -1:=by rw[QF (b9 hp) (b9 hv),h2]
 refine bW Tryz.func90 rfl ?_
 refine ar (co (bo k) sI rfl (by kernel_rfl)) ?_
 refine ac rfl (Uw)<|cz 8 [6,7,999999] ?_
 refine aq (co (ai u) bE rfl (by kernel_rfl)) ?_
 refine aq (co (ai v) bE rfl (by kernel_rfl)) ?_
 refine DQ.mk<|fp (dL bE rfl) rfl rfl rfl rfl<|dc ?_
 refine DQ.mk<|fp (dL bE rfl) rfl rfl rfl rfl<|dc ?_
 refine ar (gn mv rfl)<|qg rfl<|ac rfl (se hk hu hv) ?_
 refine jC (bq rfl) (fun c1 hb1=>?_)
 cases c1
 ·refine df rfl (fun hc2=>?_) (fun hc2=>?_)
  ·refine ac rfl (bX (se hk hu hp) h1)<|ar (bq rfl) ?_
   refine ac rfl (bX (se hk hp hv) h2) ?_
   exact ah (ak aa)
  ·refine ac rfl (bX (se hk hv hp) h3)<|ar (bq rfl) ?_
   exact ah (ak aa)
 ·refine rx rfl ?_
  refine ac rfl (bX (se hk hu hp) h1) ?_
  refine ar (bq rfl) ?_
  refine ac rfl (bX (se hk hp hv) h2) ?_
  exact ah (ak aa)
theorem VB (hk:GK k) (hu:GP u) (hv:GP v) (hp:GP p) (h1:CB k u p=1) (h2:CB k p v=1) (hq:iC k.q=true) (q0:0<k.q) (e1:zf (p.a1-k.x) (p.a2-k.y) p.b1 p.b2 p.c=k.q) (e2:qC k p=0) (ne:cP p (rP k.x k.y)≠0):Ok Tryz.prog 26 [.a (([.b true]++mw++bo k++[.b false]++ai u++ai v)),.a (ai p),dR 0] [.c (.i .i64 0)]:=by
 have z1:Rz 1 (0:Rat):=eK (by decide)
 have z2:Rz 3 ((0:Rat)*0):=(z1.mul z1).m_
 have z3:Rz 3 ((0:Rat)+0):=(z1.add z1).m_
 have z4:Rz 3 (-((0:Rat)+0)):=z3.neg
 have q1:=hk.q
 have s1:Rz 10 (k.q+0*0):=(hk.q.add z2).m_
 refine bW Tryz.func26 rfl ?_
 refine ac rfl (bX di (jl 0)) ?_
 refine qg rfl<|cz 12 [] ?_
 refine aq (co (ai u) bE rfl (by kernel_rfl)) ?_
 refine aC rfl (NS hu hp) ?_
 refine aq (co (ai v) bE rfl (by kernel_rfl)) ?_
 refine aC rfl (NS hv hp) ?_
 refine aq (Ej rfl rfl rfl) ?_
 refine ar (gn mv rfl)<|qg rfl<|ar (co (bo k) sI rfl (by kernel_rfl))<|ac rfl (Uw)<|cz 4 [] ?_
 refine aC rfl ((show Ok _ _ _ [.a (ai (rP k.x k.y))] from AY)) ?_
 refine aC rfl (eG (c:=false) (HB hp (KB hk.x hk.y)) (beq_eq_false_iff_ne.2 ne)) ?_
 refine qg rfl ?_
 refine ar (fU bT rfl) ?_
 refine ac rfl (Wx hk hu hv hp h1 h2) ?_
 refine qg rfl ?_
 refine ac rfl (zo (J1 hk hp.gb) e1 e2 (show zc (qC k p) p.c=0 by rw[e2];rfl))<|cz 8 [] ?_
 refine aq (co (cR k.q) aX rfl (by kernel_rfl)) ?_
 refine aC rfl (zT (by first|assumption|exact bY (by assumption) (by decide)) (by first|assumption|exact bY (by assumption) (by decide))) ?_
 refine aC rfl (pc (by first|assumption|exact bY (by assumption) (by decide)) (by first|assumption|exact bY (by assumption) (by decide))) ?_
 refine cz 14 [14,999999] ?_
 refine aC rfl (pc (by first|assumption|exact bY (by assumption) (by decide)) (by first|assumption|exact bY (by assumption) (by decide))) ?_
 refine aq (co (cR k.q) aX rfl (by kernel_rfl)) ?_
 refine aC rfl (pV (by first|assumption|exact bY (by assumption) (by decide)) (by first|assumption|exact bY (by assumption) (by decide)) (by first|assumption|exact bY (by assumption) (by decide)) (fun h=>absurd h (tO.2 (n7 q0))) hq) ?_
 refine DQ.mk<|fp (dL cG rfl) rfl rfl rfl rfl<|dc ?_
 refine cz 15 [16,999999] ?_
 refine aC rfl (pc (by first|assumption|exact bY (by assumption) (by decide)) (by first|assumption|exact bY (by assumption) (by decide))) ?_
 refine aC rfl (gU (by first|assumption|exact bY (by assumption) (by decide))) ?_
 refine aq (co (cR k.q) aX rfl (by kernel_rfl)) ?_
 refine aC rfl (pV (by first|assumption|exact bY (by assumption) (by decide)) (by first|assumption|exact bY (by assumption) (by decide)) (by first|assumption|exact bY (by assumption) (by decide)) (fun h=>absurd h (tO.2 (n7 q0))) hq) ?_
 refine DQ.mk<|fp (dL cG rfl) rfl rfl rfl rfl<|dc ?_
 refine ac rfl (bX (vk (hk.q.m_) (eK (by decide)) (eK (by decide)) (by rw[show k.q+0*0+(0+0)*rt k.q=k.q from by grind];exact hk.q.m_) (eK (by decide)) (eK (by decide))) (by rw[show k.q+0*0+(0+0)*rt k.q=k.q from by grind,show k.q-k.q=0 from by grind]))<|rx rfl ?_
 exact ah (ak aa)
theorem V7 (hl:GL l):Ok Tryz.prog 60 [.a (jq l)] [.c (.b (X5 l))]:=by
 refine bW Tryz.func60 rfl ?_
 refine ac rfl (jk (hl.a.m_)) ?_
 refine ar (bq rfl) ?_
 refine ac rfl (jk (hl.b.m_)) ?_
 refine ar (bq rfl) ?_
 refine ac rfl (jk (hl.c.m_)) ?_
 refine ar (bq rfl) ?_
 refine ac rfl (di) ?_
 refine jC (bq rfl) (fun c1 hb1=>?_)
 cases c1
 ·refine ac rfl (di)<|ah ?_
  rw[Tz hb1]
  exact ak aa
 ·refine ah ?_
  rw[UI hb1]
  exact ak aa
theorem YI (hl:GL l):Ok Tryz.prog 60 [.a (jq l)] [.c (.b true)]:=eG (V7 hl) (ZI hl.n)
theorem Vw (hk:GK k):Ok Tryz.prog 59 [.a (bo k)] [.c (.b (decide (aw k.q 0>0)))]:=by
 refine bW Tryz.func59 rfl ?_
 refine ac rfl (jk (hk.x.m_)) ?_
 refine ar (bq rfl) ?_
 refine ac rfl (jk (hk.y.m_)) ?_
 refine ar (bq rfl) ?_
 refine ac rfl (jk (hk.q.m_)) ?_
 refine ar (bq rfl) ?_
 refine ac rfl (di) ?_
 exact ah (ak aa)
theorem YK (hk:GK k) (h0:0<k.q):Ok Tryz.prog 59 [.a (bo k)] [.c (.b true)]:=eG (Vw hk) (decide_eq_true (nH.2 h0))
theorem XD (vc:CvV (Cv.seg l f t)):Ok Tryz.prog 13 [.a (([.b false]++jq l++tK++[.b false]++ai f++ai t))] [.c (.b true)]:=by
 have hl:=vc.g.1
 have hf:=vc.g.2.1
 have ht:=vc.g.2.2
 refine bW Tryz.func13 rfl ?_
 refine ar (co (ai f) bE rfl (by kernel_rfl)) ?_
 refine ac rfl (eG (c:=true) (vN (hf.a1.m_) (hf.b1.m_) (hf.a2.m_) (hf.b2.m_) (hf.c.m_)) hf.v) ?_
 refine ar (bq rfl) ?_
 refine ar (co (ai t) bE rfl (by kernel_rfl)) ?_
 refine ac rfl (eG (c:=true) (vN (ht.a1.m_) (ht.b1.m_) (ht.a2.m_) (ht.b2.m_) (ht.c.m_)) ht.v) ?_
 refine qg rfl ?_
 refine ar (gn mv rfl) ?_
 refine ar (bq rfl) ?_
 refine ar (bq rfl) ?_
 refine ar (gn mv rfl) ?_
 refine ar (bq rfl) ?_
 refine ar (gn mv rfl) ?_
 refine ar (bq rfl) ?_
 refine ar (co (jq l) V3 rfl (by kernel_rfl))<|ac rfl (YI hl)<|qg rfl<|ar (fU bT rfl) ?_
 refine ar (co (ai f) bE rfl (by kernel_rfl)) ?_
 refine ac rfl (eG (c:=true) (Id hl hf ht hf) vc.sp) ?_
 refine ar (bq rfl) ?_
 refine ar (fU bT rfl) ?_
 refine ar (co (ai t) bE rfl (by kernel_rfl)) ?_
 refine ac rfl (eG (c:=true) (Id hl hf ht ht) vc.sq) ?_
 refine ar (bq rfl) ?_
 refine ar (co (ai f) bE rfl (by kernel_rfl)) ?_
 refine ar (co (ai t) bE rfl (by kernel_rfl)) ?_
 refine ac rfl (eG (c:=false) (HB hf ht) (beq_eq_false_iff_ne.2 vc.ne)) ?_
 exact ah (ak aa)
theorem UZ (vc:CvV (Cv.arc k w f t)):Ok Tryz.prog 13 [.a (([.b true]++mw++bo k++[.b w]++ai f++ai t))] [.c (.b true)]:=by
 have hk:=vc.g.1
 have hf:=vc.g.2.1
 have ht:=vc.g.2.2
 refine bW Tryz.func13 rfl ?_
 refine ar (co (ai f) bE rfl (by kernel_rfl)) ?_
 refine ac rfl (eG (c:=true) (vN (hf.a1.m_) (hf.b1.m_) (hf.a2.m_) (hf.b2.m_) (hf.c.m_)) hf.v) ?_
 refine ar (bq rfl) ?_
 refine ar (co (ai t) bE rfl (by kernel_rfl)) ?_
 refine ac rfl (eG (c:=true) (vN (ht.a1.m_) (ht.b1.m_) (ht.a2.m_) (ht.b2.m_) (ht.c.m_)) ht.v) ?_
 refine qg rfl ?_
 refine ar (gn mv rfl) ?_
 refine ar (bq rfl) ?_
 refine ar (co (bo k) sI rfl (by kernel_rfl)) ?_
 refine ac rfl (YK hk vc.pos) ?_
 refine ar (bq rfl) ?_
 refine ar (gn mv rfl) ?_
 refine ar (bq rfl) ?_
 refine DL.mk<|vu (nI rfl)<|eQ ?_
 refine qg rfl<|ar (fU bT rfl) ?_
 refine ar (co (ai f) bE rfl (by kernel_rfl)) ?_
 refine ac rfl (eG (c:=true) (Jt hk hf ht hf) vc.sp) ?_
 refine ar (bq rfl) ?_
 refine ar (fU bT rfl) ?_
 refine ar (co (ai t) bE rfl (by kernel_rfl)) ?_
 refine ac rfl (eG (c:=true) (Jt hk hf ht ht) vc.sq) ?_
 refine ar (bq rfl) ?_
 refine ar (co (ai f) bE rfl (by kernel_rfl)) ?_
 refine ar (co (ai t) bE rfl (by kernel_rfl)) ?_
 refine ac rfl (eG (c:=false) (HB hf ht) (beq_eq_false_iff_ne.2 vc.ne)) ?_
 exact ah (ak aa)
theorem UK (vc:CvV c):Ok Tryz.prog 13 [.a (aG c)] [.c (.b true)]:=by
 cases c with
 |seg l f t=>exact XD vc
 |arc k w f t=>exact UZ vc
def li:Ci:=⟨((4:Int):Rat),((0:Int):Rat),((3*3:Int):Rat)⟩
def rR:Ci:=⟨((0:Int):Rat),((0:Int):Rat),((5*5:Int):Rat)⟩
def qq (x y:Int):Pt:=rP (x:Rat) (y:Rat)
def vg:Cv:=.arc li false (qq 4 (-3)) (qq 4 3)
theorem Jw {k:Nat}(h: -100≤n) (h':n≤100) (hk:1≤k):Rz k ((n:Int):Rat):=(dm (qP (by omega) (by omega)) (by decide)).mono hk
theorem TT {P:Program}{f:FuncId}{ds rs:List D0}{x':Rat}(h:Ok P f ds (dR x::rs)) (e:x=x'):Ok P f ds (dR x'::rs):=by subst e;exact h
theorem AH:RK li:=⟨by constructor<;>decide+kernel,by constructor<;>decide+kernel,by constructor<;>decide+kernel,by decide+kernel⟩
theorem RZ:RK rR:=⟨by constructor<;>decide+kernel,by constructor<;>decide+kernel,by constructor<;>decide+kernel,by decide+kernel⟩
def OD:Cv:=.arc li false (qq 1 0) (qq 4 (-3))
def Nh:Cv:=.arc li false (qq 4 (-3)) (qq 7 0)
def Qo:Cv:=.arc li false (qq 7 0) (qq 4 3)
def Oh:Cv:=.arc li false (qq 4 3) (qq 1 0)
theorem SZ:a8 li [rR]=[OD,Nh,Qo,Oh]:=by kernel_rfl
theorem Wi:OD.fwd=.arc li false (qq 1 0) (qq 4 (-3)):=by kernel_rfl
theorem VQ:Nh.fwd=.arc li false (qq 4 (-3)) (qq 7 0):=by kernel_rfl
theorem U5:Qo.fwd=.arc li true (qq 4 3) (qq 7 0):=by kernel_rfl
theorem XA:Oh.fwd=.arc li true (qq 1 0) (qq 4 3):=by kernel_rfl
theorem aaj {s:Rat}(h1:1<x) (h7:x<7) (hs:s*s=1):jQ rR (dU x 0 li.y s (jZ li x))= -aw (8*x-32) 0:=by
 have k1:li.x=4:=by decide+kernel
 have k2:li.y=0:=by decide+kernel
 have k3:li.q=9:=by decide+kernel
 have d1:rR.x=0:=by decide+kernel
 have d2:rR.y=0:=by decide+kernel
 have d3:rR.q=25:=by decide+kernel
 have e:jZ li x=9-(x-4)*(x-4):=by unfold jZ;rw[k1,k3]
 have hc:0<jZ li x:=by
  rw[e,show 9-(x-4)*(x-4)=(x-1)*(7-x) from by grind]
  exact cY (by grind) (by grind)
 generalize jZ li x=c at*
 unfold dU
 split
 ·rename_i hq
  have h:=ze hc hq
  rw[za (by unfold qC Cc;rw[d1,d2];grind),show Ac rR ⟨x+0*rt c,0,li.y+s*rt c,0,0⟩=8*x-32 from by unfold Ac zf;rw[d1,d2,d3,k2];grind]
 ·rw[za (by unfold qC Cc;rw[d1,d2,k2];grind),show Ac rR ⟨x,0,li.y,s,c⟩=8*x-32 from by unfold Ac zf;rw[d1,d2,d3,k2];grind]
theorem Yy (hm:m=t8 (.arc li w f t) x) (h1:1<x) (h7:x<7):qr [rR] m=decide (4<x):=by
 subst hm
 show(decide (jQ rR (dU x 0 li.y (sW w) (jZ li x))<0)&&true)=_
 rw[aaj h1 h7 (by cases w<;>decide+kernel),wM]
 refine decide_eq_decide.2 ?_
 unfold aw
 split
 ·exact⟨fun h=>absurd h (by decide),fun h=>by grind⟩
 ·split
  ·exact⟨fun _=>by grind,fun _=>by decide⟩
  ·exact⟨fun h=>absurd h (by decide),fun h=>by grind⟩
theorem Y3 (h:jm (qq a b) x<0):((a:Int):Rat)<x:=by
 have h':aw ((a:Rat)-x) 0<0:=gD▸h
 unfold aw at h'
 (repeat' split at h')<;>grind
theorem ZX (h:0<jm (qq a b) x):x<((a:Int):Rat):=by
 have h':0<aw ((a:Rat)-x) 0:=gD▸h
 unfold aw at h'
 (repeat' split at h')<;>grind
theorem KO {d e:Int}(hf:c.fwd=.arc li w (qq a b) (qq d e)) (ha:1≤((a:Int):Rat)) (hd:((d:Int):Rat)≤7) (hm: ∃x,m=t8 c.fwd x∧jm c.fwd.p x<0∧0<jm c.fwd.q x):
 (((d:Int):Rat)≤4→qr [rR] m=false)∧(4≤((a:Int):Rat)→qr [rR] m=true):=by
 obtain⟨x,h1,h2,h3⟩:=hm
 rw[hf] at h1 h2 h3
 have a1:=Y3 h2
 have b1:=ZX h3
 rw[Yy h1 (by grind) (by grind)]
 exact⟨fun h=>decide_eq_false (by grind),fun h=>decide_eq_true (by grind)⟩
theorem ZF {m:Nat→Pt}(hm: ∀i,i<(a8 li [rR]).length→ ∃x,m i=t8 ((a8 li [rR]).getD i bL).fwd x∧jm ((a8 li [rR]).getD i bL).fwd.p x<0∧0<jm ((a8 li [rR]).getD i bL).fwd.q x):
 FK li [rR] m=fun i=>i%4==1||i%4==2:=by
 rw[SZ] at hm
 have o: ∀i,i<4→qr [rR] (m i)=(i==1||i==2):=fun i hi=>by
  have:=hm i hi
  match i,hi with
  |0,_=>exact(KO (c:=OD) Wi (by decide+kernel) (by decide+kernel) this).1 (by decide+kernel)
  |1,_=>exact(KO (c:=Nh) VQ (by decide+kernel) (by decide+kernel) this).2 (by decide+kernel)
  |2,_=>exact(KO (c:=Qo) U5 (by decide+kernel) (by decide+kernel) this).2 (by decide+kernel)
  |3,_=>exact(KO (c:=Oh) XA (by decide+kernel) (by decide+kernel) this).1 (by decide+kernel)
 funext i
 unfold FK
 rw[SZ]
 exact o (i%4) (Nat.mod_lt _ (by decide))
theorem XJ:bc bL cW (lK [OD,Nh,Qo,Oh] (fun i=>i%4==1||i%4==2) 0 [OD,Nh,Qo,Oh].length)=[vg]:=by kernel_rfl
theorem B3:CvV vg:=
 ⟨⟨AH.k,KB (Jw (by decide) (by decide) (by decide)) (Jw (by decide) (by decide) (by decide)),KB (Jw (by decide) (by decide) (by decide)) (Jw (by decide) (by decide) (by decide))⟩,AH.pos,by decide+kernel,by decide+kernel,by decide+kernel⟩
theorem Vf: ∀i:Int,0≤i→i<3+1→UD 3 3 (i+1) ((-1:Int):Rat)=decide (i<2):=fun i h0 h1=>by
 have:i=0∨i=1∨i=2∨i=3:=by omega
 rcases this with rfl|rfl|rfl|rfl<;>decide+kernel
theorem NZ (c:Cv) (r:List CellD):((aG c++r).drop 26).take 20=ai c.p:=by
 have hl:=aj c
 rw[zJ (by omega),xA (by rw[jF];omega)]
 exact qa c
theorem R9:Ok Tryz.prog 9 [.a (bo li),.c (.s 1 (bo rR))] [.c (.s [vg].length (aJ aG [vg])),.c (.b false)]:=by
 have hL: ∀d∈ [rR],RK d:=fun d hd=>by rw[kj.1 hd];exact RZ
 obtain⟨m,hm⟩:=PV AH hL
 have e:=ZF (m:=m) fun i hi=>(hm i hi).2.2.2
 rcases KS AH hL (by decide) (fun i hi=>⟨(hm i hi).1,(hm i hi).2.1⟩) with⟨h,_⟩|⟨s,h1,h2,h3,h⟩
 ·exact absurd (h 0 (by rw[SZ];decide)) (by rw[e];decide)
 ·have h0:s=0:=(jd s).elim id fun q=>absurd (h2 0 q) (by rw[e];decide)
  subst h0
  rw[e,SZ,XJ] at h
  exact h
theorem uc {x y r:Int}(x0: -1000≤x) (x1:x≤1000) (y0: -1000≤y) (y1:y≤1000) (r0:0≤r) (r1:r≤1000):Ok Tryz.prog 19 [.c (.i .i64 x),.c (.i .i64 y),.c (.i .i64 r)] [.a ((cR (((x:Int):Rat))++cR (((y:Int):Rat))++cR (((r*r:Int):Rat))))]:=by
 have r2:0≤r*r:=fK r0 r0
 have r3:r*r≤1000*1000:=pu r1 r1 r0 (by decide)
 refine bW Tryz.func19 rfl<|ac rfl (cA (by omega) (by omega))<|ac rfl (cA (by omega) (by omega))<|ar (bZ (r*r) ((congrArg some (ii (by omega) (by omega)))) rfl)<|ac rfl (cA (by omega) (by omega))<|ar (az (us:=(cR (((x:Int):Rat))++cR (((y:Int):Rat))++cR (((r*r:Int):Rat)))) Z9 Wr rfl rfl rfl) ?_
 exact ah (aQ sI rfl aa)
theorem Ix:Ok Tryz.prog 7 [] [.c (.b true)]:=by
 refine ex Tryz.func7 92 [.tmp 0] rfl<|ae<|ag<|ae<|ag<|ac rfl (cA (by decide) (by decide))<|ae<|ag<|ac rfl (cA (by decide) (by decide))<|ac rfl (cA (by decide) (by decide))<|ac rfl (TT (x':=((0:Int):Rat)) (Ou (Jw (n:=3) (by decide) (by decide) (by decide)) (Jw (n:=3) (by decide) (by decide) (by decide)) (by decide+kernel)) (by decide+kernel))<|ae<|ag<|ac rfl (cA (by decide) (by decide)) ?_
 refine ac rfl (cA (by decide) (by decide))<|ac rfl (cA (by decide) (by decide))<|ac rfl (TT (x':=((0:Int):Rat)) (Dh (Jw (n:=5) (by decide) (by decide) (by decide)) (Jw (n:=3) (by decide) (by decide) (by decide)) (Jw (n:=4) (by decide) (by decide) (by decide)) (by decide+kernel)) (by decide+kernel))<|ae<|ag<|ac rfl (uc (x:=4) (y:=0) (r:=3) (by decide) (by decide) (by decide) (by decide) (by decide) (by decide))<|ac rfl (uc (x:=0) (y:=0) (r:=5) (by decide) (by decide) (by decide) (by decide) (by decide) (by decide))<|ar (da (n:=1) (us:=(cR (((0:Int):Rat))++cR (((0:Int):Rat))++cR (((5*5:Int):Rat)))) Su rfl rfl rfl (by decide) (by decide) rfl) ?_
 refine ac rfl (R9)<|ae<|ag<|ac rfl (cA (by decide) (by decide))<|ac rfl (O2 (a:=3) (t:=3) (Jw (n:= -1) (by decide) (by decide) (by decide)) (by decide) (by decide) (by decide) (by decide) (by decide+kernel) (r:=2) (by decide) (by decide) Vf)<|ae<|nu 57 rfl rfl<|cE 16<|bh (cb rfl (eG (Dv (Jw (n:=0) (by decide) (by decide) (by decide)) (Jw (n:=0) (by decide) (by decide) (by decide))) (decide_eq_true rfl)))<|cE 4<|bh (cb rfl (eG (Dv (Jw (n:=0) (by decide) (by decide) (by decide)) (Jw (n:=0) (by decide) (by decide) (by decide))) (decide_eq_true rfl)))<|cE 8<|bh (aU (c:=true) (ew rfl) rfl) ?_
 refine cE 3<|bh (bK (us:=aG ([vg].getD 0 bL)++aJ aG ([vg].drop (0+1))) lB rfl rfl (⟨by decide,by decide⟩) (aM aj _) (iH aj (eh (show 0<[vg].length from by decide))) rfl) ?_
 refine bh (qh aj bT rfl)<|bh (cb rfl (UK B3))<|cE 3<|bh (bK (us:=aG ([vg].getD 0 bL)++aJ aG ([vg].drop (0+1))) lB rfl rfl (⟨by decide,by decide⟩) (aM aj _) (iH aj (eh (show 0<[vg].length from by decide))) rfl) ?_
 refine bh (pj I0 rfl rfl rfl) ?_
 refine bh (gF (us:=ai vg.p) bE rfl (NZ _ _) (aT _) rfl) ?_
 refine bh (cb rfl (BA (by decide) (by decide) (by decide) (by decide)))<|bh (cb rfl ((show Ok _ _ _ [.a (ai vg.p)] from AY)))<|bh (cb rfl (eG (c:=true) (HB B3.g.2.1 B3.g.2.1) (by decide+kernel)))<|cE 3<|bh (bK (us:=aG ([vg].getD 0 bL)++aJ aG ([vg].drop (0+1))) lB rfl rfl (⟨by decide,by decide⟩) (aM aj _) (iH aj (eh (show 0<[vg].length from by decide))) rfl) ?_
 refine bh (pj Ef rfl rfl rfl) ?_
 refine bh (gF (us:=ai vg.q) bE rfl (Gg _ _) (aT _) rfl) ?_
 refine bh (cb rfl (BA (by decide) (by decide) (by decide) (by decide)))<|bh (cb rfl ((show Ok _ _ _ [.a (ai vg.q)] from AY)))<|bh (cb rfl (eG (c:=true) (HB B3.g.2.2 B3.g.2.2) (by decide+kernel)))<|Aq<|dN<|bD<|a9 ?_
 exact ah (ak aa)
end Go.Proofs.YtegpmhlfjkhjmaaGreat
