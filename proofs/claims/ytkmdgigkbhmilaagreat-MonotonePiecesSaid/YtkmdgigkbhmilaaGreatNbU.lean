/-Points of an arc that are kept:the program. -/
import Derived.Test.YtkmdgigkbhmilaaGreatNbT
namespace Go.Proofs.YtkmdgigkbhmilaaGreat
open Go Go.RowKit
theorem PO {k:Ci}{w:Bool}{f t:Pt}(hk:GK k) (hf:GP f) (ht:GP t) {p q:Pt}(hp:GP p) (hq:GP q):Ok Tryz.prog 251 [.a (([.b true]++cS++ca k++[.b w]++au f++au t)),.a (au p),.a (au q)] [.c (.i .i64 (ci (Cv.arc k w f t) p q))]:=by
 have b1:=PV k t p q
 refine Ok.fn Tryz.func251 38 [.tmp 6] rfl<|aa<|ab<|ag<|aa<|aJ<|aa<|ab<|ag<|aP rfl<|aa<|ab<|ag ?_
 refine aw rfl (fun hc1=>?_) (fun hc1=>?_)
 ·refine aa<|ab<|al 1<|ah (cD (ca k) mJ rfl (by kernel_rfl))<|al 1<|ah (cD (au t) bo rfl (by kernel_rfl))<|al 2<|ah (am rfl (Ak hk ht hp hq))<|ah (dD (r:= -xb k t p q) rfl (mN b1) rfl) ?_
  refine ag<|an ?_
  rw[show ci (Cv.arc k w f t) p q= -xb k t p q from if_pos hc1]
  exact aq (aE ae)
 ·refine ao<|aa<|ab<|al 1<|ah (cD (ca k) mJ rfl (by kernel_rfl))<|al 1<|ah (cD (au f) bo rfl (by kernel_rfl))<|al 2<|ah (am rfl (Ak hk hf hp hq))<|ag<|an ?_
  rw[show ci (Cv.arc k w f t) p q=xb k f p q from if_neg (by rw[hc1];decide)]
  exact aq (aE ae)
theorem Rk {c:Cv}(vc:CvV c) (ha:c.isArc=true) {p q:Pt}(hp:GP p) (hq:GP q):Ok Tryz.prog 251 [.a (aB c),.a (au p),.a (au q)] [.c (.i .i64 (ci c p q))]:=by
 cases c with
 |seg l f t=>cases ha
 |arc k w f t=>exact PO vc.g.1 vc.g.2.1 vc.g.2.2 hp hq
theorem Us {c:Cv}(vc:CvV c) (ha:c.isArc=true) {p:Pt}(hp:GP p):Ok Tryz.prog 181 [.a (aB c),.a (au p)] [.c (.b (c.on p))]:=by
 cases c with
 |seg l f t=>cases ha
 |arc k w f t=>exact ON vc.g.1 vc.pos ⟨vc.g.2.1,cb.1 vc.sp⟩ ⟨vc.g.2.2,cb.1 vc.sq⟩ hp
theorem Ua {c:Cv}(vc:CvV c) (ha:c.isArc=true) {p:Pt}(hp:GP p):Ok Tryz.prog 102 [.a (aB c),.a (au p)] [.c (.b (c.inner p))]:=by
 cases c with
 |seg l f t=>cases ha
 |arc k w f t=>exact J9 vc.g.1 vc.pos ⟨vc.g.2.1,cb.1 vc.sp⟩ ⟨vc.g.2.2,cb.1 vc.sq⟩ hp
theorem Tk {c:Cv}(vc:CvV c) (ha:c.isArc=true) {p q:Pt}(hp:GP p) (hq:GP q):Ok Tryz.prog 250 [.a (au p),.a (au q),.c (.p (aB c))] [.c (.i .i64 (ci c p q))]:=by
 refine Ok.fn Tryz.func250 10 [.tmp 5] rfl<|aa<|ab<|ag<|aa<|ab<|ah (iN (us:=aB c) bd rfl (List.take_of_length_le (Nat.le_of_eq (ak _))) (ak _) rfl) ?_
 refine al 2<|ah (am rfl (Rk vc ha hp hq))<|ag<|an ?_
 exact aq (aE ae)
theorem U8 {c:Cv}(vc:CvV c) (ha:c.isArc=true) {p:Pt}(hp:GP p):Ok Tryz.prog 183 [.a (au p),.c (.p (aB c))] [.c (.b (!c.on p))]:=by
 refine Ok.fn Tryz.func183 8 [.tmp 3] rfl<|aa<|ab<|ag<|aa<|ab<|ah (iN (us:=aB c) bd rfl (List.take_of_length_le (Nat.le_of_eq (ak _))) (ak _) rfl) ?_
 refine al 1<|ah (am rfl (Us vc ha hp))<|ag<|an ?_
 exact aq (aE ae)
theorem D7 {c:Cv}(vc:CvV c) (ha:c.isArc=true) {p:Pt}(hp:GP p):Ok Tryz.prog 101 [.a (au p),.c (.p (aB c))] [.c (.b (!c.inner p))]:=by
 refine Ok.fn Tryz.func101 8 [.tmp 3] rfl<|aa<|ab<|ag<|aa<|ab<|ah (iN (us:=aB c) bd rfl (List.take_of_length_le (Nat.le_of_eq (ak _))) (ak _) rfl) ?_
 refine al 1<|ah (am rfl (Ua vc ha hp))<|ag<|an ?_
 exact aq (aE ae)
theorem Vp {c:Cv}(vc:CvV c) (ha:c.isArc=true) {L:List Pt}(hL: ∀p∈L,GP p) (lL:L.length≤12) (hq: ∀p∈L,c.on p=true):Ok Tryz.prog 180 [.c (.s ((L).length) (aI au (L))),.c (.k 183 [.p (aB c)])] [.c (.i .i64 (-1))]:=by
 refine Ok.fn Tryz.func180 19 [.tmp 4] rfl<|aa<|ab<|ag<|aa<|aa<|ab<|ag<|aJ<|bD (ι:={n:Nat // n≤L.length}) (fun i=>⟨19,[(0,.v (.c (.s ((L).length) (aI au (L))))),(1,.v (.c (.k 183 [.p (aB c)]))),(7,.v (.c (.i .i64 (L.length:Int)))),(8,.v (.c (.i .i64 (i.1:Int))))],[]⟩) (fun i=>L.length-i.1) ⟨0,Nat.zero_le _⟩ (aM ⟨rfl,rfl,rfl,rfl,trivial⟩ trivial rfl) ?_
 rintro⟨n,h2⟩
 replace h2:n≤L.length:=h2
 show Dw _ _ ⟨19,[(0,.v (.c (.s ((L).length) (aI au (L))))),(1,.v (.c (.k 183 [.p (aB c)]))),(7,.v (.c (.i .i64 (L.length:Int)))),(8,.v (.c (.i .i64 (n:Int))))],[]⟩ _
 refine aa<|ab<|ag<|aa ?_
 refine aw rfl (fun hc1=>?_) (fun hc1=>?_)
 ·have g1:n<L.length:=by have:=of_decide_eq_true hc1;omega
  refine ao<|aa<|aJ<|aa<|ab<|ag<|aa<|ab<|al 3<|ah (aW (us:=au (L.getD n dPt)++aI au (L.drop (n+1))) ek rfl rfl (by omega) (aG aO _) (bz aO (bi g1)) rfl) ?_
  refine ah (bb (us:=au (L.getD n dPt)) bo rfl (lp _ _) (aO _) rfl) ?_
  refine ah (gK rfl rfl (gQ (c:=false) (U8 vc ha (hL _ (b8 g1))) (by simp only[hq _ (b8 g1)];rfl)) rfl) ?_
  refine ar<|aP rfl<|ao<|ab<|ah (aK (r:=((n+1:Nat):Int)) rfl rfl ((aQ (by omega) (by omega)).trans (congrArg some (by omega))) rfl) ?_
  refine ag ?_
  exact⟨⟨n+1,g1⟩,aM ⟨rfl,rfl,rfl,rfl,trivial⟩ trivial rfl,by show L.length-(n+1)<L.length-n;omega⟩
 ·refine bj<|aa<|ab<|ag<|an ?_
  exact aq (aE ae)
theorem Vw {c:Cv}(vc:CvV c) (ha:c.isArc=true) {L:List Pt}(hL: ∀p∈L,GP p) (lL:L.length≤12) (hq: ∀p∈L,c.on p=true):Ok Tryz.prog 182 [.c (.s ((L).length) (aI au (L))),.c (.k 183 [.p (aB c)])] [.c (.b false)]:=by
 refine Ok.fn Tryz.func182 9 [.tmp 4] rfl<|aa<|ab<|ag<|aa<|ab<|al 2<|ah (am rfl (Vp vc ha hL lL hq))<|ah (bQ (c:=false) (iP rfl) (by decide)) ?_
 refine ag<|an ?_
 exact aq (aE ae)
theorem TQ {c:Cv}(vc:CvV c) (ha:c.isArc=true) {a b:Pt}(pa:GP a) (pb:GP b) (ea:c.inner a=true) (eb:c.inner b=true):Ok Tryz.prog 180 [.c (.s 2 (au a++au b)),.c (.k 101 [.p (aB c)])] [.c (.i .i64 (-1))]:=by
 refine Ok.fn Tryz.func180 19 [.tmp 4] rfl<|aa<|ab<|ag<|aa<|aa<|ab<|ag<|aJ ?_
 refine bD (ι:=Nat) (fun i=>match i with|0=>⟨19,[(0,.v (.c (.s 2 (au a++au b)))),(1,.v (.c (.k 101 [.p (aB c)]))),(7,.v (.c (.i .i64 2))),(8,.v (.c (.i .i64 0)))],[]⟩|1=>⟨19,[(0,.v (.c (.s 2 (au a++au b)))),(1,.v (.c (.k 101 [.p (aB c)]))),(7,.v (.c (.i .i64 2))),(8,.v (.c (.i .i64 1)))],[]⟩|_+2=>⟨19,[(0,.v (.c (.s 2 (au a++au b)))),(1,.v (.c (.k 101 [.p (aB c)]))),(7,.v (.c (.i .i64 2))),(8,.v (.c (.i .i64 2)))],[]⟩) (fun i=>2-i) 0 (aM ⟨rfl,rfl,rfl,rfl,trivial⟩ trivial rfl) ?_
 intro i
 match i with
 |0=>
  show Dw _ _ ⟨19,[(0,.v (.c (.s 2 (au a++au b)))),(1,.v (.c (.k 101 [.p (aB c)]))),(7,.v (.c (.i .i64 2))),(8,.v (.c (.i .i64 0)))],[]⟩ _
  refine aa<|ab<|ag<|aa<|bg rfl<|ao<|aa<|aJ<|aa<|ab<|ag<|aa<|ab<|al 3 ?_
  refine ah (aW (us:=au a++au b) ek rfl rfl (by decide) (rfl) (rfl) rfl) ?_
  refine ah (bb (us:=au a) bo rfl (lp _ _) (aO _) rfl) ?_
  refine ah (gK rfl rfl (gQ (c:=false) (D7 vc ha pa) (by simp only[ea];rfl)) rfl) ?_
  refine ar<|aP rfl<|ao<|ab<|ah (aK (r:=1) rfl rfl rfl rfl) ?_
  refine ag ?_
  exact⟨1,aM ⟨rfl,rfl,rfl,rfl,trivial⟩ trivial rfl,by show 2-1<2-0;decide⟩
 |1=>
  show Dw _ _ ⟨19,[(0,.v (.c (.s 2 (au a++au b)))),(1,.v (.c (.k 101 [.p (aB c)]))),(7,.v (.c (.i .i64 2))),(8,.v (.c (.i .i64 1)))],[]⟩ _
  refine aa<|ab<|ag<|aa<|bg rfl<|ao<|aa<|aJ<|aa<|ab<|ag<|aa<|ab<|al 3 ?_
  refine ah (aW (us:=au b) ek rfl rfl (by decide) (rfl) ((EB (aO a))) rfl) ?_
  refine ah (bb (us:=au b) bo rfl (List.take_of_length_le (Nat.le_of_eq (aO _))) (aO _) rfl) ?_
  refine ah (gK rfl rfl (gQ (c:=false) (D7 vc ha pb) (by simp only[eb];rfl)) rfl) ?_
  refine ar<|aP rfl<|ao<|ab<|ah (aK (r:=2) rfl rfl rfl rfl) ?_
  refine ag ?_
  exact⟨2,aM ⟨rfl,rfl,rfl,rfl,trivial⟩ trivial rfl,by show 2-2<2-1;decide⟩
 |z+2=>
  show Dw _ _ ⟨19,[(0,.v (.c (.s 2 (au a++au b)))),(1,.v (.c (.k 101 [.p (aB c)]))),(7,.v (.c (.i .i64 2))),(8,.v (.c (.i .i64 2)))],[]⟩ _
  refine aa<|ab<|ag<|aa<|aP rfl<|bj<|aa<|ab<|ag<|an ?_
  exact aq (aE ae)
theorem TN {c:Cv}(vc:CvV c) (ha:c.isArc=true) {a b:Pt}(pa:GP a) (_pb:GP b) (ea:c.inner a=false):Ok Tryz.prog 180 [.c (.s 2 (au a++au b)),.c (.k 101 [.p (aB c)])] [.c (.i .i64 0)]:=by
 refine Ok.fn Tryz.func180 19 [.tmp 4] rfl<|aa<|ab<|ag<|aa<|aa<|ab<|ag<|aJ ?_
 refine bD (ι:=Nat) (fun i=>match i with|_=>⟨19,[(0,.v (.c (.s 2 (au a++au b)))),(1,.v (.c (.k 101 [.p (aB c)]))),(7,.v (.c (.i .i64 2))),(8,.v (.c (.i .i64 0)))],[]⟩) (fun i=>0-i) 0 (aM ⟨rfl,rfl,rfl,rfl,trivial⟩ trivial rfl) ?_
 intro i
 match i with
 |_=>
  show Dw _ _ ⟨19,[(0,.v (.c (.s 2 (au a++au b)))),(1,.v (.c (.k 101 [.p (aB c)]))),(7,.v (.c (.i .i64 2))),(8,.v (.c (.i .i64 0)))],[]⟩ _
  refine aa<|ab<|ag<|aa<|bg rfl<|ao<|aa<|aJ<|aa<|ab<|ag<|aa<|ab<|al 3 ?_
  refine ah (aW (us:=au a++au b) ek rfl rfl (by decide) (rfl) (rfl) rfl) ?_
  refine ah (bb (us:=au a) bo rfl (lp _ _) (aO _) rfl) ?_
  refine ah (gK rfl rfl (gQ (c:=true) (D7 vc ha pa) (by simp only[ea];rfl)) rfl) ?_
  refine ar<|bg rfl<|aa<|ab<|ag<|an ?_
  exact aq (aE ae)
theorem Uk {c:Cv}(vc:CvV c) (ha:c.isArc=true) {a b:Pt}(pa:GP a) (pb:GP b) (ea:c.inner a=true) (eb:c.inner b=false):Ok Tryz.prog 180 [.c (.s 2 (au a++au b)),.c (.k 101 [.p (aB c)])] [.c (.i .i64 1)]:=by
 refine Ok.fn Tryz.func180 19 [.tmp 4] rfl<|aa<|ab<|ag<|aa<|aa<|ab<|ag<|aJ ?_
 refine bD (ι:=Nat) (fun i=>match i with|0=>⟨19,[(0,.v (.c (.s 2 (au a++au b)))),(1,.v (.c (.k 101 [.p (aB c)]))),(7,.v (.c (.i .i64 2))),(8,.v (.c (.i .i64 0)))],[]⟩|_+1=>⟨19,[(0,.v (.c (.s 2 (au a++au b)))),(1,.v (.c (.k 101 [.p (aB c)]))),(7,.v (.c (.i .i64 2))),(8,.v (.c (.i .i64 1)))],[]⟩) (fun i=>1-i) 0 (aM ⟨rfl,rfl,rfl,rfl,trivial⟩ trivial rfl) ?_
 intro i
 match i with
 |0=>
  show Dw _ _ ⟨19,[(0,.v (.c (.s 2 (au a++au b)))),(1,.v (.c (.k 101 [.p (aB c)]))),(7,.v (.c (.i .i64 2))),(8,.v (.c (.i .i64 0)))],[]⟩ _
  refine aa<|ab<|ag<|aa<|bg rfl<|ao<|aa<|aJ<|aa<|ab<|ag<|aa<|ab<|al 3 ?_
  refine ah (aW (us:=au a++au b) ek rfl rfl (by decide) (rfl) (rfl) rfl) ?_
  refine ah (bb (us:=au a) bo rfl (lp _ _) (aO _) rfl) ?_
  refine ah (gK rfl rfl (gQ (c:=false) (D7 vc ha pa) (by simp only[ea];rfl)) rfl) ?_
  refine ar<|aP rfl<|ao<|ab<|ah (aK (r:=1) rfl rfl rfl rfl) ?_
  refine ag ?_
  exact⟨1,aM ⟨rfl,rfl,rfl,rfl,trivial⟩ trivial rfl,by show 1-1<1-0;decide⟩
 |z+1=>
  show Dw _ _ ⟨19,[(0,.v (.c (.s 2 (au a++au b)))),(1,.v (.c (.k 101 [.p (aB c)]))),(7,.v (.c (.i .i64 2))),(8,.v (.c (.i .i64 1)))],[]⟩ _
  refine aa<|ab<|ag<|aa<|bg rfl<|ao<|aa<|aJ<|aa<|ab<|ag<|aa<|ab<|al 3 ?_
  refine ah (aW (us:=au b) ek rfl rfl (by decide) (rfl) ((EB (aO a))) rfl) ?_
  refine ah (bb (us:=au b) bo rfl (List.take_of_length_le (Nat.le_of_eq (aO _))) (aO _) rfl) ?_
  refine ah (gK rfl rfl (gQ (c:=true) (D7 vc ha pb) (by simp only[eb];rfl)) rfl) ?_
  refine ar<|bg rfl<|aa<|ab<|ag<|an ?_
  exact aq (aE ae)
theorem SX {c:Cv}(vc:CvV c) (ha:c.isArc=true) {a b:Pt}(pa:GP a) (pb:GP b) (ea:c.inner a=true) (eb:c.inner b=true):OkT Tryz.prog 100 46 2 2 2 (au a++au b++[]) (au a++au b++[]) [.c (.k 101 [.p (aB c)])]:=by
 refine OkT.of (K:=100000) (by kernel_rfl) Tryz.func100 rfl rfl rfl ?_
 rw[show Tryz.f100.ntmps=42 from rfl]
 refine aa<|ab<|ag<|aa<|ab<|al 2<|ah (qe (m:=20) (us:=au a++au b) rfl rfl rfl rfl rfl (rfl) (Nat.le_of_ble_eq_true rfl) (Nat.le_refl _) (by decide) (TQ vc ha pa pb ea eb) rfl) ?_
 refine ag<|aa<|aa<|ab<|ag<|bg rfl<|aa<|ab<|ag<|an ?_
 exact⟨.inr rfl,rfl,4,rfl,rfl⟩
theorem Sr {c:Cv}(vc:CvV c) (ha:c.isArc=true) {a b:Pt}(pa:GP a) (pb:GP b) (ea:c.inner a=true) (eb:c.inner b=false):OkT Tryz.prog 100 46 2 2 1 (au a++au b++[]) (au a++Jo) [.c (.k 101 [.p (aB c)])]:=by
 refine OkT.of (K:=100000) (by kernel_rfl) Tryz.func100 rfl rfl rfl ?_
 rw[show Tryz.f100.ntmps=42 from rfl]
 refine aa<|ab<|ag<|aa<|ab<|al 2<|ah (qe (m:=20) (us:=au a++au b) rfl rfl rfl rfl rfl (rfl) (Nat.le_of_ble_eq_true rfl) (Nat.le_refl _) (by decide) (Uk vc ha pa pb ea eb) rfl) ?_
 refine ag<|aa<|aa<|ab<|ag<|aP rfl<|ao<|aa<|aa<|ab<|al 1<|ah (aK (r:=2) rfl rfl rfl rfl) ?_
 refine ag<|aJ ?_
 refine bD (ι:=Nat) (fun i=>match i with|_=>⟨42,[(0,.o 100000 2 2),(1,.v (.c (.k 101 [.p (aB c)]))),(5,.v (.c (.i .i64 1))),(6,.v (.c (.i .i64 2)))],[(100000,46,au a++au b++[])]⟩) (fun i=>0-i) 0 (aM ⟨rfl,rfl,rfl,rfl,trivial⟩ ⟨rfl,trivial⟩ rfl) ?_
 intro i
 match i with
 |_=>
  show Dw _ _ ⟨42,[(0,.o 100000 2 2),(1,.v (.c (.k 101 [.p (aB c)]))),(5,.v (.c (.i .i64 1))),(6,.v (.c (.i .i64 2)))],[(100000,46,au a++au b++[])]⟩ _
  refine aa<|aa<|ab<|al 2<|ah (eZ ek rfl rfl) ?_
  refine ag<|aP rfl<|bj<|aa<|ab<|al 2<|ah (iI (q:=1) ek rfl rfl (by decide) (by decide) rfl) ?_
  refine bL (s5 (cs':=au a++Jo) ft rfl rfl (Nat.le_of_ble_eq_true rfl) (by rfl) rfl) ?_
  refine ar<|aa<|ab<|al 2<|ah (gV (q:=1) ek rfl rfl (by decide) rfl) ?_
  refine ag<|an ?_
  exact⟨.inr rfl,rfl,4,rfl,rfl⟩
theorem S9 {c:Cv}(vc:CvV c) (ha:c.isArc=true) {a b:Pt}(pa:GP a) (pb:GP b) (ea:c.inner a=false) (eb:c.inner b=true):OkT Tryz.prog 100 46 2 2 1 (au a++au b++[]) (au b++Jo) [.c (.k 101 [.p (aB c)])]:=by
 refine OkT.of (K:=100000) (by kernel_rfl) Tryz.func100 rfl rfl rfl ?_
 rw[show Tryz.f100.ntmps=42 from rfl]
 refine aa<|ab<|ag<|aa<|ab<|al 2<|ah (qe (m:=20) (us:=au a++au b) rfl rfl rfl rfl rfl (rfl) (Nat.le_of_ble_eq_true rfl) (Nat.le_refl _) (by decide) (TN vc ha pa pb ea) rfl) ?_
 refine ag<|aa<|aa<|ab<|ag<|aP rfl<|ao<|aa<|aa<|ab<|al 1<|ah (aK (r:=1) rfl rfl rfl rfl) ?_
 refine ag<|aJ ?_
 refine bD (ι:=Nat) (fun i=>match i with|0=>⟨42,[(0,.o 100000 2 2),(1,.v (.c (.k 101 [.p (aB c)]))),(5,.v (.c (.i .i64 0))),(6,.v (.c (.i .i64 1)))],[(100000,46,au a++au b++[])]⟩|_+1=>⟨42,[(0,.o 100000 2 2),(1,.v (.c (.k 101 [.p (aB c)]))),(5,.v (.c (.i .i64 1))),(6,.v (.c (.i .i64 2)))],[(100000,46,au b++au b++[])]⟩) (fun i=>1-i) 0 (aM ⟨rfl,rfl,rfl,rfl,trivial⟩ ⟨rfl,trivial⟩ rfl) ?_
 intro i
 match i with
 |0=>
  show Dw _ _ ⟨42,[(0,.o 100000 2 2),(1,.v (.c (.k 101 [.p (aB c)]))),(5,.v (.c (.i .i64 0))),(6,.v (.c (.i .i64 1)))],[(100000,46,au a++au b++[])]⟩ _
  refine aa<|aa<|ab<|al 2<|ah (eZ ek rfl rfl) ?_
  refine ag<|bg rfl<|ao<|aa<|aJ<|aa<|ab<|al 2<|ah (br ek rfl rfl (by decide) rfl) ?_
  refine ah (aA (us:=au b) bo rfl rfl (by rfl) (aO _) rfl) ?_
  refine aC (ai fO rfl) rfl<|ag<|aa<|ab<|al 2<|ah (gK rfl rfl (gQ (c:=false) (D7 vc ha pb) (by simp only[eb];rfl)) rfl) ?_
  refine ag<|bg rfl<|aa<|ab<|al 3<|ah (br ek rfl rfl (by decide) rfl) ?_
  refine bL (bm (us:=(au b++au b)++[]) bo rfl rfl rfl (aO _) (Nat.le_of_ble_eq_true rfl) (by rfl) rfl) ?_
  refine ar<|ab<|al 1<|ah (aK (r:=1) rfl rfl rfl rfl) ?_
  refine ag<|ab<|al 1<|ah (aK (r:=2) rfl rfl rfl rfl) ?_
  refine ag ?_
  exact⟨1,aM ⟨rfl,rfl,rfl,rfl,trivial⟩ ⟨rfl,trivial⟩ rfl,by show 1-1<1-0;decide⟩
 |z+1=>
  show Dw _ _ ⟨42,[(0,.o 100000 2 2),(1,.v (.c (.k 101 [.p (aB c)]))),(5,.v (.c (.i .i64 1))),(6,.v (.c (.i .i64 2)))],[(100000,46,au b++au b++[])]⟩ _
  refine aa<|aa<|ab<|al 2<|ah (eZ ek rfl rfl) ?_
  refine ag<|aP rfl<|bj<|aa<|ab<|al 2<|ah (iI (q:=1) ek rfl rfl (by decide) (by decide) rfl) ?_
  refine bL (s5 (cs':=au b++Jo) ft rfl rfl (Nat.le_of_ble_eq_true rfl) (by rfl) rfl) ?_
  refine ar<|aa<|ab<|al 2<|ah (gV (q:=1) ek rfl rfl (by decide) rfl) ?_
  refine ag<|an ?_
  exact⟨.inr rfl,rfl,4,rfl,rfl⟩
theorem SJ {c:Cv}(vc:CvV c) (ha:c.isArc=true) {a b:Pt}(pa:GP a) (pb:GP b) (ea:c.inner a=false) (eb:c.inner b=false):OkT Tryz.prog 100 46 2 2 0 (au a++au b++[]) (([]:List CellD)++(Jo++Jo)) [.c (.k 101 [.p (aB c)])]:=by
 refine OkT.of (K:=100000) (by kernel_rfl) Tryz.func100 rfl rfl rfl ?_
 rw[show Tryz.f100.ntmps=42 from rfl]
 refine aa<|ab<|ag<|aa<|ab<|al 2<|ah (qe (m:=20) (us:=au a++au b) rfl rfl rfl rfl rfl (rfl) (Nat.le_of_ble_eq_true rfl) (Nat.le_refl _) (by decide) (TN vc ha pa pb ea) rfl) ?_
 refine ag<|aa<|aa<|ab<|ag<|aP rfl<|ao<|aa<|aa<|ab<|al 1<|ah (aK (r:=1) rfl rfl rfl rfl) ?_
 refine ag<|aJ ?_
 refine bD (ι:=Nat) (fun i=>match i with|0=>⟨42,[(0,.o 100000 2 2),(1,.v (.c (.k 101 [.p (aB c)]))),(5,.v (.c (.i .i64 0))),(6,.v (.c (.i .i64 1)))],[(100000,46,au a++au b++[])]⟩|_+1=>⟨42,[(0,.o 100000 2 2),(1,.v (.c (.k 101 [.p (aB c)]))),(5,.v (.c (.i .i64 0))),(6,.v (.c (.i .i64 2)))],[(100000,46,au a++au b++[])]⟩) (fun i=>1-i) 0 (aM ⟨rfl,rfl,rfl,rfl,trivial⟩ ⟨rfl,trivial⟩ rfl) ?_
 intro i
 match i with
 |0=>
  show Dw _ _ ⟨42,[(0,.o 100000 2 2),(1,.v (.c (.k 101 [.p (aB c)]))),(5,.v (.c (.i .i64 0))),(6,.v (.c (.i .i64 1)))],[(100000,46,au a++au b++[])]⟩ _
  refine aa<|aa<|ab<|al 2<|ah (eZ ek rfl rfl) ?_
  refine ag<|bg rfl<|ao<|aa<|aJ<|aa<|ab<|al 2<|ah (br ek rfl rfl (by decide) rfl) ?_
  refine ah (aA (us:=au b) bo rfl rfl (by rfl) (aO _) rfl) ?_
  refine aC (ai fO rfl) rfl<|ag<|aa<|ab<|al 2<|ah (gK rfl rfl (gQ (c:=true) (D7 vc ha pb) (by simp only[eb];rfl)) rfl) ?_
  refine ag<|aP rfl<|ao<|ab<|al 1<|ah (aK (r:=2) rfl rfl rfl rfl) ?_
  refine ag ?_
  exact⟨1,aM ⟨rfl,rfl,rfl,rfl,trivial⟩ ⟨rfl,trivial⟩ rfl,by show 1-1<1-0;decide⟩
 |z+1=>
  show Dw _ _ ⟨42,[(0,.o 100000 2 2),(1,.v (.c (.k 101 [.p (aB c)]))),(5,.v (.c (.i .i64 0))),(6,.v (.c (.i .i64 2)))],[(100000,46,au a++au b++[])]⟩ _
  refine aa<|aa<|ab<|al 2<|ah (eZ ek rfl rfl) ?_
  refine ag<|aP rfl<|bj<|aa<|ab<|al 2<|ah (iI (q:=0) ek rfl rfl (by decide) (by decide) rfl) ?_
  refine bL (s5 (cs':=([]:List CellD)++(Jo++Jo)) ft rfl rfl (Nat.le_of_ble_eq_true rfl) (by rfl) rfl) ?_
  refine ar<|aa<|ab<|al 2<|ah (gV (q:=0) ek rfl rfl (by decide) rfl) ?_
  refine ag<|an ?_
  exact⟨.inr rfl,rfl,4,rfl,rfl⟩
theorem VN {L:List Pt}(hl:0<L.length) (lL:L.length≤12):OkN Tryz.prog 248 [.c (.s ((L).length) (aI au (L)))] 46 L.length 20 (aI au L) []:=by
 refine OkN.of (by kernel_rfl) Tryz.func248 rfl rfl ?_
 rw[show Tryz.f248.ntmps=8 from rfl]
 refine aa<|ab<|ag<|aa<|aa<|ab<|al 1 ?_
 refine Cm ek rfl rfl (fun bz1 hbz1=>?_)
 refine ar ?_
 refine aw rfl (fun hc2=>?_) (fun hc2=>?_)
 ·exact absurd hc2 (by rw[hbz1 hl];decide)
 ·refine ao<|aa<|ab<|ah (jx ft rfl) ?_
  refine al 1 ?_
  refine x4 (q:=L.length) (ys:=aI au (L)) (zs':=aI au L) ft rfl rfl (aG aO _) (hl) (by omega) (gP (by omega)) rfl (rfl) rfl (fun cg3 rg3 hga3 hgb3 hgc3=>?_)
  refine ag<|an ?_
  exact⟨.inr rfl,2,7,cg3,[],rg3,rfl,rfl,rfl,by omega,by assumption,by assumption,ae⟩
theorem Vu:Ok Tryz.prog 248 [.c (.s 0 [])] [.c (.s 0 [])]:=by
 refine Ok.fn Tryz.func248 8 [.tmp 2] rfl<|aa<|ab<|ag<|aa<|aa<|ab<|al 1 ?_
 refine Cm ek rfl rfl (fun bz1 hbz1=>?_)
 refine ar ?_
 refine aw rfl (fun hc2=>?_) (fun hc2=>?_)
 ·refine aa<|ab<|ag<|an ?_
  exact aq (aE ae)
 ·refine ao<|aa<|ab<|ah (jx ft rfl) ?_
  refine al 1<|ah (nB ft rfl rfl rfl) ?_
  refine ag<|TZ (t:=2) rfl<|an ?_
  exact aq (aE ae)
theorem Ss {c:Cv}(vc:CvV c) (ha:c.isArc=true) {L:List Pt}{c9:Nat}{rs:List CellD}(hn1:1≤L.length) (hn:L.length≤12) (hG: ∀x∈L,GP x):OkS Tryz.prog 305 46 L.length c9 (aI au L++rs) (aI au (bH dPt (ci c) L)++rs) [.c (.i .i64 0),.c (.i .i64 (L.length:Int)),.c (.k 250 [.p (aB c)])]:=by
 refine OkS.of (K:=100000) (by kernel_rfl) Tryz.func305 rfl rfl rfl rfl ?_
 rw[show Tryz.f305.ntmps=53 from rfl]
 refine aa<|ab<|al 1<|ah (aK (r:=1) rfl rfl rfl rfl) ?_
 refine ag<|aJ<|bD (ι:={p:Nat // 1≤p∧p≤L.length}) (fun i=>⟨53,[(0,.o 100000 L.length c9),(1,.v (.c (.i .i64 0))),(2,.v (.c (.i .i64 (L.length:Int)))),(3,.v (.c (.k 250 [.p (aB c)]))),(8,.v (.c (.i .i64 (i.1:Int))))],[(100000,46,aI au (Iy dPt (ci c) L i.1)++rs)]⟩) (fun i=>L.length-i.1) ⟨1,Nat.le_refl _,hn1⟩ (aM ⟨rfl,rfl,rfl,rfl,rfl,trivial⟩ ⟨congrArg (fun q=>some (46,aI au q++rs)) ((EI L).symm),trivial⟩ rfl) ?_
 rintro⟨p,h1,h2⟩
 replace h1:1≤p:=h1
 replace h2:p≤L.length:=h2
 show Dw _ _ ⟨53,[(0,.o 100000 L.length c9),(1,.v (.c (.i .i64 0))),(2,.v (.c (.i .i64 (L.length:Int)))),(3,.v (.c (.k 250 [.p (aB c)]))),(8,.v (.c (.i .i64 (p:Int))))],[(100000,46,aI au (Iy dPt (ci c) L p)++rs)]⟩ _
 refine aa<|aa<|ab<|ag ?_
 refine aw rfl (fun hc1=>?_) (fun hc1=>?_)
 ·have g1:p<L.length:=by have:=of_decide_eq_true hc1;omega
  have hOl:(bH dPt (ci c) (L.take p)).length=p:=by rw[dr,List.length_take,Nat.min_eq_left h2]
  refine ao<|aa<|aJ<|aa<|ab<|ag<|aJ<|bD (ι:={j:Nat // j≤p∧pk dPt (ci c) (L.getD p dPt) (bH dPt (ci c) (L.take p)) p=pk dPt (ci c) (L.getD p dPt) (bH dPt (ci c) (L.take p)) j}) (fun i=>⟨53,[(0,.o 100000 L.length c9),(1,.v (.c (.i .i64 0))),(2,.v (.c (.i .i64 (L.length:Int)))),(3,.v (.c (.k 250 [.p (aB c)]))),(8,.v (.c (.i .i64 (p:Int)))),(9,.v (.c (.i .i64 (i.1:Int))))],[(100000,46,aI au (rm (bH dPt (ci c) (L.take p)) (L.drop (p+1)) (L.getD p dPt) i.1)++rs)]⟩) (fun i=>i.1) ⟨p,Nat.le_refl _,rfl⟩ (aM ⟨rfl,rfl,rfl,rfl,rfl,rfl,trivial⟩ ⟨congrArg (fun q=>some (46,aI au q++rs)) (FU g1),trivial⟩ rfl) ?_
  rintro⟨j,h3,h4⟩
  replace h3:j≤p:=h3
  replace h4:pk dPt (ci c) (L.getD p dPt) (bH dPt (ci c) (L.take p)) p=pk dPt (ci c) (L.getD p dPt) (bH dPt (ci c) (L.take p)) j:=h4
  show Dw _ _ ⟨53,[(0,.o 100000 L.length c9),(1,.v (.c (.i .i64 0))),(2,.v (.c (.i .i64 (L.length:Int)))),(3,.v (.c (.k 250 [.p (aB c)]))),(8,.v (.c (.i .i64 (p:Int)))),(9,.v (.c (.i .i64 (j:Int))))],[(100000,46,aI au (rm (bH dPt (ci c) (L.take p)) (L.drop (p+1)) (L.getD p dPt) j)++rs)]⟩ _
  refine aa<|aa<|aR 17 rfl rfl<|ap 3 ?_
  refine fb (bN rfl) (fun c2 hb2=>?_)
  cases c2
  ·have g2:j=0:=by have:=of_decide_eq_false hb2;omega
   refine bk<|az<|ar<|aP rfl<|bj<|ab<|al 1<|ah (aK (r:=((p+1:Nat):Int)) rfl rfl ((aQ (by omega) (by omega)).trans (congrArg some (by omega))) rfl) ?_
   refine ag ?_
   exact⟨⟨p+1,by omega,g1⟩,aM ⟨rfl,rfl,rfl,rfl,rfl,trivial⟩ ⟨congrArg (fun q=>some (46,aI au q++rs)) (rS g1 (h4.trans (AE (.inl g2)))),trivial⟩ rfl,by show L.length-(p+1)<L.length-p;omega⟩
  ·have g2:0<j:=by have:=of_decide_eq_true hb2;omega
   have hjl:j≤(bH dPt (ci c) (L.take p)).length:=by rw[hOl];exact h3
   refine ap 3<|aj (br ek rfl rfl (by omega) rfl) ?_
   refine aj (aA (us:=au (L.getD p dPt)) bo rfl rfl ((kv (e:=dPt) (O:=(rm (bH dPt (ci c) (L.take p)) (L.drop (p+1)) (L.getD p dPt) j)) aO (by rw[gf hjl,hOl,List.length_drop];omega)).trans (congrArg au (Aw hjl))) (aO _) rfl) ?_
   refine ap 2<|aj (aK (r:=((j-1:Nat):Int)) rfl rfl ((bV (by omega) (by omega)).trans (congrArg some (by omega))) rfl) ?_
   refine aj (br ek rfl rfl (by omega) rfl) ?_
   refine aj (aA (us:=au ((bH dPt (ci c) (L.take p)).getD (j-1) dPt)) bo rfl rfl ((kv (e:=dPt) (O:=(rm (bH dPt (ci c) (L.take p)) (L.drop (p+1)) (L.getD p dPt) j)) aO (by rw[gf hjl,hOl,List.length_drop];omega)).trans (congrArg au (zH g2 hjl))) (aO _) rfl) ?_
   refine aj (gK rfl rfl (Tk vc ha (hG _ (b8 g1)) (hG _ (List.mem_of_mem_take ((jG _).mem_iff.1 (b8 (show j-1<(bH dPt (ci c) (L.take p)).length by rw[hOl];omega)))))) rfl) ?_
   refine bk<|az<|ar ?_
   refine aw rfl (fun hc3=>?_) (fun hc3=>?_)
   ·have g3:(ci c) (L.getD p dPt) ((bH dPt (ci c) (L.take p)).getD (j-1) dPt)<0:=of_decide_eq_true hc3
    refine ao<|aa<|aJ<|bZ 16 [100000,999999] aU (by kernel_rfl) rfl rfl<|ap 4<|aj (aK (r:=((j-1:Nat):Int)) rfl rfl ((bV (by omega) (by omega)).trans (congrArg some (by omega))) rfl) ?_
    refine ap 2<|aj (aK (r:=((j-1:Nat):Int)) rfl rfl ((bV (by omega) (by omega)).trans (congrArg some (by omega))) rfl) ?_
    refine aj (br ek rfl rfl (by omega) rfl) ?_
    refine tF (by kernel_rfl) (aA (us:=au ((bH dPt (ci c) (L.take p)).getD (j-1) dPt)) bo rfl rfl ((kv (e:=dPt) (O:=(rm (bH dPt (ci c) (L.take p)) (L.drop (p+1)) (L.getD p dPt) j)) aO (by rw[gf hjl,hOl,List.length_drop];omega)).trans (congrArg au (zH g2 hjl))) (aO _) rfl) ?_
    refine ap 2<|aj (br ek rfl rfl (by omega) rfl) ?_
    refine tF (by kernel_rfl) (aA (us:=au (L.getD p dPt)) bo rfl rfl ((kv (e:=dPt) (O:=(rm (bH dPt (ci c) (L.take p)) (L.drop (p+1)) (L.getD p dPt) j)) aO (by rw[gf hjl,hOl,List.length_drop];omega)).trans (congrArg au (Aw hjl))) (aO _) rfl) ?_
    refine aj (br ek rfl rfl (by omega) rfl) ?_
    refine gw (bm (us:=aI au ((rm (bH dPt (ci c) (L.take p)) (L.drop (p+1)) (L.getD p dPt) j).set j ((bH dPt (ci c) (L.take p)).getD (j-1) dPt))++rs) bo rfl rfl rfl (aO _) (by rw[List.length_append,aG aO,gf hjl,hOl,List.length_drop];omega) (qw aO (by rw[gf hjl,hOl,List.length_drop];omega) _) rfl) rfl rfl rfl rfl ?_
    refine aY<|bl<|ah (br ek rfl rfl (by omega) rfl) ?_
    refine bL (bm (us:=aI au (((rm (bH dPt (ci c) (L.take p)) (L.drop (p+1)) (L.getD p dPt) j).set j ((bH dPt (ci c) (L.take p)).getD (j-1) dPt)).set (j-1) (L.getD p dPt))++rs) bo rfl rfl rfl (aO _) (by rw[List.length_append,aG aO,List.length_set,gf hjl,hOl,List.length_drop];omega) (qw aO (by rw[List.length_set,gf hjl,hOl,List.length_drop];omega) _) rfl) ?_
    refine ar<|ab<|al 1<|ah (aK (r:=((j-1:Nat):Int)) rfl rfl ((bV (by omega) (by omega)).trans (congrArg some (by omega))) rfl) ?_
    refine ag ?_
    exact⟨⟨j-1,by omega,h4.trans (Iw g2 g3)⟩,aM ⟨rfl,rfl,rfl,rfl,rfl,rfl,trivial⟩ ⟨congrArg (fun q=>some (46,aI au q++rs)) (JI g2 hjl),trivial⟩ rfl,by show j-1<j;omega⟩
   ·have g3: ¬(ci c) (L.getD p dPt) ((bH dPt (ci c) (L.take p)).getD (j-1) dPt)<0:=of_decide_eq_false hc3
    refine bj<|ab<|al 1<|ah (aK (r:=((p+1:Nat):Int)) rfl rfl ((aQ (by omega) (by omega)).trans (congrArg some (by omega))) rfl) ?_
    refine ag ?_
    exact⟨⟨p+1,by omega,g1⟩,aM ⟨rfl,rfl,rfl,rfl,rfl,trivial⟩ ⟨congrArg (fun q=>some (46,aI au q++rs)) (rS g1 (h4.trans (AE (.inr g3)))),trivial⟩ rfl,by show L.length-(p+1)<L.length-p;omega⟩
 ·have hp:p=L.length:=by have:=of_decide_eq_false hc1;omega
  refine bj ?_
  exact⟨.inl rfl,congrArg (fun q=>some (46,aI au q++rs)) (by rw[hp,FE])⟩
theorem TG {c:Cv}(vc:CvV c) (ha:c.isArc=true) {L:List Pt}{c9:Nat}{rs:List CellD}(hn1:1≤L.length) (hn:L.length≤12) (hG: ∀x∈L,GP x):OkS Tryz.prog 292 46 L.length c9 (aI au L++rs) (aI au (bH dPt (ci c) L)++rs) [.c (.i .i64 (L.length:Int)),.c (.k 250 [.p (aB c)])]:=by
 refine OkS.of (K:=100000) (by kernel_rfl) Tryz.func292 rfl rfl rfl rfl ?_
 rw[show Tryz.f292.ntmps=63 from rfl]
 refine aa<|ab<|ag<|aa<|ab<|ag<|aa<|aJ ?_
 refine bD (ι:=Nat) (fun i=>match i with|_=>⟨63,[(0,.o 100000 L.length c9),(1,.v (.c (.i .i64 (L.length:Int)))),(2,.v (.c (.k 250 [.p (aB c)]))),(6,.v (.c (.i .i64 20))),(7,.v (.c (.i .i64 0))),(8,.v (.c (.i .i64 20)))],[(100000,46,aI au L++rs)]⟩) (fun i=>0-i) 0 (aM ⟨rfl,rfl,rfl,rfl,rfl,rfl,trivial⟩ ⟨rfl,trivial⟩ rfl) ?_
 intro i
 match i with
 |_=>
  show Dw _ _ ⟨63,[(0,.o 100000 L.length c9),(1,.v (.c (.i .i64 (L.length:Int)))),(2,.v (.c (.k 250 [.p (aB c)]))),(6,.v (.c (.i .i64 20))),(7,.v (.c (.i .i64 0))),(8,.v (.c (.i .i64 20)))],[(100000,46,aI au L++rs)]⟩ _
  refine aa<|aa<|ab<|al 2<|ah (bQ (c:=false) (iP rfl) (decide_eq_false (by omega))) ?_
  refine ar<|aP rfl<|bj<|aa<|ab<|al 4<|pp (j5 rfl rfl rfl rfl rfl (Ss vc ha hn1 hn hG) rfl) ?_
  refine ar<|aJ ?_
  refine bD (ι:=Nat) (fun i=>match i with|_=>⟨63,[(0,.o 100000 L.length c9),(1,.v (.c (.i .i64 (L.length:Int)))),(2,.v (.c (.k 250 [.p (aB c)]))),(6,.v (.c (.i .i64 20))),(7,.v (.c (.i .i64 0))),(8,.v (.c (.i .i64 20)))],[(100000,46,aI au (bH dPt (ci c) L)++rs)]⟩) (fun i=>0-i) 0 (aM ⟨rfl,rfl,rfl,rfl,rfl,rfl,trivial⟩ ⟨rfl,trivial⟩ rfl) ?_
  intro i
  match i with
  |_=>
   show Dw _ _ ⟨63,[(0,.o 100000 L.length c9),(1,.v (.c (.i .i64 (L.length:Int)))),(2,.v (.c (.k 250 [.p (aB c)]))),(6,.v (.c (.i .i64 20))),(7,.v (.c (.i .i64 0))),(8,.v (.c (.i .i64 20)))],[(100000,46,aI au (bH dPt (ci c) L)++rs)]⟩ _
   refine aa<|aa<|ab<|al 2<|ah (bQ (c:=false) (iP rfl) (decide_eq_false (by omega))) ?_
   refine ar<|aP rfl<|bj ?_
   exact⟨.inl rfl,rfl⟩
theorem Ui {c:Cv}(vc:CvV c) (ha:c.isArc=true) {L:List Pt}{c9:Nat}{rs:List CellD}(hn1:1≤L.length) (hn:L.length≤12) (hG: ∀x∈L,GP x):OkS Tryz.prog 249 46 L.length c9 (aI au L++rs) (aI au (bH dPt (ci c) L)++rs) [.c (.k 250 [.p (aB c)])]:=by
 refine OkS.of (K:=100000) (by kernel_rfl) Tryz.func249 rfl rfl rfl rfl ?_
 rw[show Tryz.f249.ntmps=9 from rfl]
 refine ab<|al 2<|ah (eZ ek rfl rfl) ?_
 refine al 1<|pp (j5 rfl rfl rfl rfl rfl (TG vc ha hn1 hn hG) rfl) ?_
 refine ar ?_
 exact⟨.inl rfl,rfl⟩
theorem QO {c:Cv}:Ok Tryz.prog 305 [.c (.s 0 []),.c (.i .i64 0),.c (.i .i64 0),.c (.k 250 [.p (aB c)])] []:=by
 refine Ok.fn Tryz.func305 53 [] rfl<|aa<|ab<|al 1<|ah (aK (r:=1) rfl rfl rfl rfl) ?_
 refine ag<|aJ ?_
 refine bD (ι:=Nat) (fun i=>match i with|_=>⟨53,[(0,.v (.c (.s 0 []))),(1,.v (.c (.i .i64 0))),(2,.v (.c (.i .i64 0))),(3,.v (.c (.k 250 [.p (aB c)]))),(8,.v (.c (.i .i64 1)))],[]⟩) (fun i=>0-i) 0 (aM ⟨rfl,rfl,rfl,rfl,rfl,trivial⟩ trivial rfl) ?_
 intro i
 match i with
 |_=>
  show Dw _ _ ⟨53,[(0,.v (.c (.s 0 []))),(1,.v (.c (.i .i64 0))),(2,.v (.c (.i .i64 0))),(3,.v (.c (.k 250 [.p (aB c)]))),(8,.v (.c (.i .i64 1)))],[]⟩ _
  refine aa<|aa<|ab<|ag<|aP rfl<|bj ?_
  exact JG ae
theorem QH {c:Cv}:Ok Tryz.prog 292 [.c (.s 0 []),.c (.i .i64 0),.c (.k 250 [.p (aB c)])] []:=by
 refine Ok.fn Tryz.func292 63 [] rfl<|aa<|ab<|ag<|aa<|ab<|ag<|aa<|aJ ?_
 refine bD (ι:=Nat) (fun i=>match i with|_=>⟨63,[(0,.v (.c (.s 0 []))),(1,.v (.c (.i .i64 0))),(2,.v (.c (.k 250 [.p (aB c)]))),(6,.v (.c (.i .i64 20))),(7,.v (.c (.i .i64 0))),(8,.v (.c (.i .i64 20)))],[]⟩) (fun i=>0-i) 0 (aM ⟨rfl,rfl,rfl,rfl,rfl,rfl,trivial⟩ trivial rfl) ?_
 intro i
 match i with
 |_=>
  show Dw _ _ ⟨63,[(0,.v (.c (.s 0 []))),(1,.v (.c (.i .i64 0))),(2,.v (.c (.k 250 [.p (aB c)]))),(6,.v (.c (.i .i64 20))),(7,.v (.c (.i .i64 0))),(8,.v (.c (.i .i64 20)))],[]⟩ _
  refine aa<|aa<|ab<|ag<|aP rfl<|bj<|aa<|ab<|al 4<|ah (am rfl (QO))<|ar<|aJ ?_
  refine bD (ι:=Nat) (fun i=>match i with|_=>⟨63,[(0,.v (.c (.s 0 []))),(1,.v (.c (.i .i64 0))),(2,.v (.c (.k 250 [.p (aB c)]))),(6,.v (.c (.i .i64 20))),(7,.v (.c (.i .i64 0))),(8,.v (.c (.i .i64 20)))],[]⟩) (fun i=>0-i) 0 (aM ⟨rfl,rfl,rfl,rfl,rfl,rfl,trivial⟩ trivial rfl) ?_
  intro i
  match i with
  |_=>
   show Dw _ _ ⟨63,[(0,.v (.c (.s 0 []))),(1,.v (.c (.i .i64 0))),(2,.v (.c (.k 250 [.p (aB c)]))),(6,.v (.c (.i .i64 20))),(7,.v (.c (.i .i64 0))),(8,.v (.c (.i .i64 20)))],[]⟩ _
   refine aa<|aa<|ab<|ag<|aP rfl<|bj ?_
   exact JG ae
theorem QJ {c:Cv}:Ok Tryz.prog 249 [.c (.s 0 []),.c (.k 250 [.p (aB c)])] []:=by
 refine Ok.fn Tryz.func249 9 [] rfl<|ab<|al 4<|ah (am rfl (QH))<|ar ?_
 exact JG ae
theorem TT {S:List Pt}(hS: ∀p∈S,GP p) (lS:S.length≤12) (hne: ∀i,i+1<S.length→cP (S.getD (i+1) dPt) (S.getD i dPt)≠0):Ok Tryz.prog 252 [.c (.s ((S).length) (aI au (S))),.c (.f 86)] [.c (.s ((S).length) (aI au (S)))]:=by
 refine Ok.fn Tryz.func252 66 [.tmp 4] rfl<|aa<|ab<|ag<|aa<|aa<|ab<|ag ?_
 refine aw rfl (fun hc1=>?_) (fun hc1=>?_)
 ·refine aa<|ab<|ag<|an ?_
  exact aq (aE ae)
 ·refine ao<|aa<|aa<|ab<|ag<|aJ<|bD (ι:={n:Nat // n+1≤S.length∨n=0}) (fun i=>⟨66,[(0,.v (.c (.s ((S).length) (aI au (S))))),(1,.v (.c (.f 86))),(5,.v (.c (.i .i64 (((i.1+1:Nat):Int)))))],[]⟩) (fun i=>S.length-i.1) ⟨0,.inr rfl⟩ (aM ⟨rfl,rfl,rfl,trivial⟩ trivial rfl) ?_
  rintro⟨n,h2⟩
  replace h2:n+1≤S.length∨n=0:=h2
  show Dw _ _ ⟨66,[(0,.v (.c (.s ((S).length) (aI au (S))))),(1,.v (.c (.f 86))),(5,.v (.c (.i .i64 (((n+1:Nat):Int)))))],[]⟩ _
  refine aa<|aa<|ab<|ag ?_
  refine aw rfl (fun hc2=>?_) (fun hc2=>?_)
  ·have g1:n+1<S.length:=by have:=of_decide_eq_true hc2;omega
   refine ao<|aa<|aJ<|aa<|aR 11 rfl rfl<|ap 3<|aj (aW (us:=au (S.getD (n+1) dPt)++aI au (S.drop ((n+1)+1))) ek rfl rfl (by omega) (aG aO _) (bz aO (bi g1)) rfl) ?_
   refine aj (bb (us:=au (((S.getD (n+1) dPt)))) bo rfl (lp _ _) (aO _) rfl) ?_
   refine ap 2<|aj (aK (r:=((n:Nat):Int)) rfl rfl ((bV (by omega) (by omega)).trans (congrArg some (by omega))) rfl) ?_
   refine aj (aW (us:=au (S.getD n dPt)++aI au (S.drop (n+1))) ek rfl rfl (by omega) (aG aO _) (bz aO (bi (by omega))) rfl) ?_
   refine aj (bb (us:=au (S.getD n dPt)) bo rfl (lp _ _) (aO _) rfl) ?_
   refine aj (am rfl (gQ (c:=false) (ro (GP.getD hS (n+1)) (GP.getD hS n)) (beq_eq_false_iff_ne.2 (hne n g1))))<|aY<|az<|ar<|aP rfl<|ao<|ab<|al 1<|ah (aK (r:=((n+1+1:Nat):Int)) rfl rfl ((aQ (by omega) (by omega)).trans (congrArg some (by omega))) rfl) ?_
   refine ag ?_
   exact⟨⟨n+1,.inl g1⟩,aM ⟨rfl,rfl,rfl,trivial⟩ trivial rfl,by show S.length-(n+1)<S.length-n;omega⟩
  ·refine bj<|aa<|ab<|ag<|an ?_
   exact aq (aE ae)
theorem xA (c:Cv) (q:Pt):(aB c).take 46++au q++(aB c).drop (46+20)=aB (c.ends c.p q):=by cases c<;>rfl
theorem GR (c:Cv):c.ends c.p c.q=c:=by cases c<;>rfl
theorem GE (c:Cv) (x q P:Pt):(c.ends x q).ends (c.ends x q).p P=c.ends x P:=by cases c<;>rfl
theorem GW (c:Cv) (x q P:Pt):(c.ends x q).setp P=c.ends P q:=by cases c<;>rfl
theorem Ho (c:Cv) (P:Pt):c.setp P=c.ends P c.q:=by cases c<;>rfl
theorem AQ {c:Cv}{p:Pt}(h:c.inner p=true):c.on p=true:=by unfold Cv.inner at h;rw[Bool.and_eq_true] at h;exact h.1
theorem nK {c:Cv}(hc:c.good) {p:Pt}(hp:GP p) (h:c.inner p=true):cP p c.p≠0∧cP p c.q≠0:=by
 unfold Cv.inner at h
 simp only[Bool.and_eq_true,Bool.not_eq_true',beq_eq_false_iff_ne] at h
 have h1:=fQ (b9 (cn hc)) (b9 hp)
 have h2:=fQ (b9 (cH hc)) (b9 hp)
 obtain⟨_,g1,g2⟩:=h
 exact⟨fun e=>g1 (by omega),fun e=>g2 (by omega)⟩
theorem RU {e:Pt}{C:Pt→Pt→Int}{L:List Pt}(hG: ∀p∈L,GP p) (h:L.Pairwise fun a b=>cP a b≠0): ∀i,i+1<(bH e C L).length→cP ((bH e C L).getD (i+1) dPt) ((bH e C L).getD i dPt)≠0:=fun i hi=>by
 have hp:=jG (e:=e) (C:=C) L
 have hG2: ∀p∈bH e C L,GP p:=fun p h=>hG p (hp.mem_iff.1 h)
 have h2:(bH e C L).Pairwise fun a b=>cP a b≠0:=by
  have h3:L.Pairwise fun a b=>cP a b≠0∧GP a∧GP b:=by
   refine List.Pairwise.imp_of_mem (fun{a b} ha hb g=>⟨g,hG a ha,hG b hb⟩) h
  have h4:=hp.symm.pairwise h3 (fun{a b} g=>⟨fun e=>g.1 (by rw[fQ (b9 g.2.2) (b9 g.2.1),e];rfl),g.2.2,g.2.1⟩)
  exact h4.imp fun g=>g.1
 have h5:=(List.pairwise_iff_getElem.1 h2) i (i+1) (by omega) hi (by omega)
 have g1:(bH e C L).getD (i+1) dPt=(bH e C L)[i+1]:=by rw[List.getD,List.getElem?_eq_getElem hi];rfl
 have g2:(bH e C L).getD i dPt=(bH e C L)[i]:=by rw[List.getD,List.getElem?_eq_getElem (by omega)];rfl
 rw[g1,g2]
 exact fun e=>h5 (by rw[fQ (b9 (hG2 _ (List.getElem_mem hi))) (b9 (hG2 _ (List.getElem_mem _))),e];rfl)
def xo (R:List Cv) (n:Nat):List Cv:=(R.take n).map Cv.fwd++R.drop n
section
variable {R:List Cv}{n:Nat}
theorem mY (h:n≤R.length):(xo R n).length=R.length:=by unfold xo;rw[List.length_append,List.length_map,List.length_take,List.length_drop];omega
theorem DB (h:n<R.length):(xo R n).getD n bn=R.getD n bn:=by
 unfold xo
 have hl:((R.take n).map Cv.fwd).length=n:=by rw[List.length_map,List.length_take,Nat.min_eq_left (Nat.le_of_lt h)]
 rw[List.getD,List.getElem?_append_right (by omega),hl,Nat.sub_self,List.getElem?_drop,Nat.add_zero];rfl
theorem Ae (h:n<R.length):(xo R n).set n (R.getD n bn).fwd=xo R (n+1):=by
 unfold xo
 have hl:((R.take n).map Cv.fwd).length=n:=by rw[List.length_map,List.length_take,Nat.min_eq_left (Nat.le_of_lt h)]
 rw[List.set_append_right _ _ (by omega),hl,Nat.sub_self,jN (d:=bn) h,List.map_append,List.append_assoc,List.drop_eq_getElem_cons h]
 rfl
theorem CR (h:n<R.length) (e:(R.getD n bn).fwd=R.getD n bn):xo R n=xo R (n+1):=by
 rw[←Ae h,e]
 apply List.ext_getElem?
 intro j
 rw[List.getElem?_set]
 split
 ·rename_i g
  subst g
  rw[if_pos (by rw[mY (Nat.le_of_lt h)];exact h),←DB h,bi (by rw[mY (Nat.le_of_lt h)];exact h)]
 ·rfl
theorem F7:xo R R.length=R.map Cv.fwd:=by unfold xo;simp
theorem O3:xo R 0=R:=by unfold xo;simp
end
theorem eB {c:Cv}(h:c.isArc=true):cG c=jU c (bH dPt (ci c) (f8 c)):=by unfold cG;rw[if_pos h]
theorem vP {c:Cv}(h:c.isArc=false):cG c=[c]:=by unfold cG;rw[if_neg (by rw[h];decide)]
theorem Tc {k:Ci}(hk:GK k) (h0:0<k.q):cP (jt k) (i9 k)≠0:=fun e=>by
 have h1:=(gC.1 e).1
 have kL:=IG (k:=k) h0
 have kR:=HP (k:=k) h0
 rcases zX (wS hk h0) (vF hk h0) kL.1 kL.2 with⟨_,b,_⟩|⟨_,b⟩
 ·have:=kR.2;omega
 ·omega
theorem nH {c:Cv}: ∀p∈f8 c,c.inner p=true:=fun p hp=>by
 cases c with
 |seg l f t=>cases hp
 |arc k w f t=>
  rcases List.mem_append.1 hp with hp|hp
  ·split at hp
   ·rename_i e;cases List.mem_singleton.1 hp;exact e
   ·cases hp
  ·split at hp
   ·rename_i e;cases List.mem_singleton.1 hp;exact e
   ·cases hp
theorem pG {c:Cv}(vc:CvV c):(f8 c).Pairwise fun a b=>cP a b≠0:=by
 cases c with
 |seg l f t=>exact List.Pairwise.nil
 |arc k w f t=>
  have h:=Tc vc.g.1 vc.pos
  show((if _ then[jt k] else[])++(if _ then[i9 k] else[])).Pairwise _
  split<;>split<;>simp[h]
theorem D3 {c:Cv}(vc:CvV c): ∀d∈cG c,CvV d:=fun d hd=>by
 cases ha:c.isArc with
 |false=>rw[vP ha] at hd;rw[List.mem_singleton.1 hd];exact vc
 |true=>
  rw[eB ha] at hd
  have hp:=jG (e:=dPt) (C:=ci c) (f8 c)
  have hS: ∀p∈bH dPt (ci c) (f8 c),GP p∧c.inner p=true:=fun p h=>⟨(en vc p (hp.mem_iff.1 h)).1,nH p (hp.mem_iff.1 h)⟩
  have hpw:(bH dPt (ci c) (f8 c)).Pairwise fun a b=>cP a b≠0:=by
   have h3:(f8 c).Pairwise fun a b=>cP a b≠0∧GP a∧GP b:=List.Pairwise.imp_of_mem (fun{a b} ha hb g=>⟨g,(en vc a ha).1,(en vc b hb).1⟩) (pG vc)
   have h4:=hp.symm.pairwise h3 (fun{a b} g=>⟨fun e=>g.1 (by rw[fQ (b9 g.2.2) (b9 g.2.1),e];rfl),g.2.2,g.2.1⟩)
   exact h4.imp fun g=>g.1
  generalize bH dPt (ci c) (f8 c)=S at hd hS hpw
  have key: ∀x∈c.p::(S++[c.q]),GP x∧c.supp x=true:=fun x hx=>by
   rcases List.mem_cons.1 hx with rfl|hx
   ·exact⟨cn vc.g,vc.sp⟩
   ·rcases List.mem_append.1 hx with hx|hx
    ·exact⟨(hS x hx).1,p9 (AQ (hS x hx).2)⟩
    ·rw[List.mem_singleton.1 hx];exact⟨cH vc.g,vc.sq⟩
  have all:(c.p::(S++[c.q])).Pairwise fun a b=>cP a b≠0:=by
   refine List.pairwise_cons.2 ⟨fun x hx=>?_,List.pairwise_append.2 ⟨hpw,List.pairwise_singleton _ _,fun x hx y hy=>?_⟩⟩
   ·rcases List.mem_append.1 hx with hx|hx
    ·have:=(nK vc.g (hS x hx).1 (hS x hx).2).1
     exact fun e=>this (by rw[fQ (b9 (cn vc.g)) (b9 (hS x hx).1),e];rfl)
    ·rw[List.mem_singleton.1 hx];exact vc.ne
   ·rw[List.mem_singleton.1 hy];exact(nK vc.g (hS x hx).1 (hS x hx).2).2
  obtain⟨A,p,q,B,e,rfl⟩:=pB hd
  have hp1:=key p (by rw[e];simp)
  have hq1:=key q (by rw[e];simp)
  have hne:cP p q≠0:=by
   rw[e] at all
   exact(List.pairwise_cons.1 (List.pairwise_append.1 all).2.1).1 q (by simp)
  have hg:=yG vc.g hp1.1 hq1.1
  cases c with
  |seg l f t=>cases ha
  |arc k w f t=>exact⟨hg,vc.pos,hp1.2,hq1.2,hne⟩
theorem BH {c:Cv}:0<(cG c).length:=by
 cases ha:c.isArc with
 |false=>rw[vP ha];exact Nat.zero_lt_one
 |true=>rw[eB ha,vj];omega
theorem CQ {c:Cv}:(cG c).length≤3:=by
 cases ha:c.isArc with
 |false=>rw[vP ha];exact Nat.le_of_ble_eq_true rfl
 |true=>rw[eB ha,vj,dr];have:=xP c;omega
theorem Gz (c:Cv):(oG c).Perm ((cG c).map Cv.fwd):=jG _
theorem Iz {c:Cv}(vc:CvV c): ∀d∈oG c,CvV d:=fun d hd=>by
 obtain⟨x,hx,rfl⟩:=List.mem_map.1 ((Gz c).mem_iff.1 hd)
 exact tS (D3 vc x hx)
theorem Ba (c:Cv) (r:List CellD):((aB c++r).drop (0+25))[0]? =some (.b c.cw):=by cases c<;>rfl
theorem Vy {c:Cv}(vc:CvV c) (ha:c.isArc=true) {L:List Pt}(hG: ∀p∈L,GP p) (lL:L.length≤12) (hpw:L.Pairwise fun a b=>cP a b≠0) (hl:0<L.length):Ok Tryz.prog 184 [.a (aB c),.c (.s ((L).length) (aI au (L)))] [.c (.s L.length (aI au (bH dPt (ci c) L)))]:=by
 have hS: ∀p∈(bH dPt (ci c) L),GP p:=fun p h=>hG p ((jG _).mem_iff.1 h)
 have lS:(bH dPt (ci c) L).length≤12:=by rw[dr];exact lL
 refine Ok.fn Tryz.func184 12 [.tmp 4] rfl<|aa<|ab<|ag<|aa<|ab<|al 1 ?_
 refine pV rfl rfl (VN hl lL) rfl rfl (fun cg1 rg1 hga1 hgb1 hgc1=>?_)
 refine ag<|aa<|jD (t:=2) (k:=2) rfl rfl<|ab<|al 1<|ah (kU (us:=[.p (aB c)]) rfl rfl) ?_
 refine pp (j5 rfl rfl rfl rfl rfl (Ui vc ha hl lL hG) rfl) ?_
 refine ar<|aa<|cV (t:=1) (m:=20) (us:=aI au (bH dPt (ci c) L)) rfl rfl (iY (n:=L.length) ((aG aO _).trans (by rw[dr])) (by assumption) (by omega)) (by omega) (by assumption) (fX ((aG aO _).trans (by rw[dr])))<|ab<|al 1<|ah (am rfl ((by have h9:=TT hS lS (RU hG hpw);rw[dr] at h9;exact h9)))<|ag<|an ?_
 exact aq (aE ae)
theorem VQ {c:Cv}:Ok Tryz.prog 184 [.a (aB c),.c (.s 0 [])] [.c (.s 0 [])]:=by
 refine Ok.fn Tryz.func184 12 [.tmp 4] rfl<|aa<|ab<|ag<|aa<|ab<|al 1<|ah (am rfl (Vu))<|ag<|aa<|jD (t:=2) (k:=2) rfl rfl<|ab<|al 1<|ah (kU (us:=[.p (aB c)]) rfl rfl) ?_
 refine ah (am rfl (QJ))<|ar<|aa<|ab<|al 1<|ah (am rfl ((show Ok _ _ _ [.c (.s 0 [])] from TT (S:=[]) (fun p h=>by cases h) (Nat.zero_le _) (fun i h=>by cases h))))<|ag<|an ?_
 exact aq (aE ae)
theorem VJ {c:Cv}(vc:CvV c) (ha:c.isArc=true) {L:List Pt}(hG: ∀p∈L,GP p) (lL:L.length≤12) (hpw:L.Pairwise fun a b=>cP a b≠0):Ok Tryz.prog 184 [.a (aB c),.c (.s ((L).length) (aI au (L)))] [.c (.s L.length (aI au (bH dPt (ci c) L)))]:=by
 rcases Nat.eq_zero_or_pos L.length with h|h
 ·obtain rfl:=List.length_eq_zero_iff.1 h
  exact VQ
 ·exact Vy vc ha hG lL hpw h
theorem MH {c:Cv}(vc:CvV c) (ha:c.isArc=true) {L:List Pt}(hG: ∀p∈L,GP p) (lL:L.length≤12) (hpw:L.Pairwise fun a b=>cP a b≠0) (hin: ∀p∈L,c.inner p=true):OkN Tryz.prog 103 [.a (aB c),.c (.s ((L).length) (aI au (L)))] 48 ((jU c (bH dPt (ci c) L)).length) 66 (aI aB (jU c (bH dPt (ci c) L))) [.c (.i .i64 0)]:=by
 have hS: ∀p∈(bH dPt (ci c) L),GP p∧c.inner p=true:=fun p h=>⟨hG p ((jG _).mem_iff.1 h),hin p ((jG _).mem_iff.1 h)⟩
 have eS:(bH dPt (ci c) L).length=L.length:=dr _
 refine OkN.of (by kernel_rfl) Tryz.func103 rfl rfl ?_
 rw[show Tryz.f103.ntmps=47 from rfl]
 refine aa<|ab<|al 1<|ah (fF rfl) ?_
 refine ag<|aa<|aa<|jD (t:=2) (k:=2) rfl rfl<|ab<|al 1<|ah (kU (us:=[.p (aB c)]) rfl rfl) ?_
 refine ah (am rfl (Vw vc ha hG lL (fun p h=>AQ (hin p h))))<|ar<|aP rfl<|ao<|aa<|ab<|ah (fF rfl) ?_
 refine ar<|aa<|ab<|ah (iN (us:=aB c) bd rfl (List.take_of_length_le (Nat.le_of_eq (ak _))) (ak _) rfl) ?_
 refine aC (ai eo rfl) rfl<|bL (aZ bd rfl rfl rfl (ak _) rfl rfl) ?_
 refine ar<|aa<|aa<|ab<|ah (iN (us:=aB c) bd rfl (List.take_of_length_le (Nat.le_of_eq (ak _))) (ak _) rfl) ?_
 refine al 1<|ah (am rfl (VJ vc ha hG lL hpw))<|ag<|aJ ?_
 refine n6 (ι:={x9:Nat×Nat×List CellD // 1≤x9.1∧x9.1≤L.length∧x9.1≤x9.2.1∧x9.2.1≤maxLen∧x9.2.2.length=(x9.2.1-x9.1)*66}) (fun i=>⟨47,[(2,.v (.c (.p (aB c)))),(6,.o 41 i.1.1 i.1.2.1),(7,.p 7 0),(17,.v (.c (.s L.length (aI au (bH dPt (ci c) L))))),(18,.v (.c (.i .i64 (L.length:Int)))),(19,.v (.c (.i .i64 (i.1.1:Int))))],[(7,48,aB ((c.ends (jo c (bH dPt (ci c) L) i.1.1) c.q))),(41,48,aI aB (nD c (bH dPt (ci c) L) i.1.1)++i.1.2.2)]⟩) (fun i=>L.length-i.1.1) (L.length+1) ?_ ?_
 ·refine aa<|ab<|ag<|aa ?_
  refine aw rfl (fun hc1=>?_) (fun hc1=>?_)
  ·have g1:0<L.length:=by have:=of_decide_eq_true hc1;omega
   have hx:=hS _ (b8 (d:=dPt) (show 0<(bH dPt (ci c) L).length by rw[eS];exact g1))
   refine ao<|aa<|aJ<|aa<|ab<|ah (aW (us:=au ((bH dPt (ci c) L).getD 0 dPt)++aI au ((bH dPt (ci c) L).drop (0+1))) ek rfl rfl (by omega) ((aG aO _).trans (by rw[dr])) (bz aO (bi (by rw[dr];exact g1))) rfl) ?_
   refine ah (bb (us:=au ((((bH dPt (ci c) L).getD 0 dPt)))) bo rfl (lp _ _) (aO _) rfl) ?_
   refine aC (ai fO rfl) rfl<|ag<|aa<|aa<|ab<|al 1<|ah (oc H3 rfl rfl rfl) ?_
   refine ah (bb (us:=au c.p) bo rfl (dW _) rfl rfl) ?_
   refine ah (am rfl (gQ (c:=false) (ro hx.1 (cn vc.g)) (beq_eq_false_iff_ne.2 (nK vc.g hx.1 hx.2).1)))<|al 2<|ah (oc Kl rfl rfl rfl) ?_
   refine ah (bb (us:=au c.q) bo rfl (dY _) rfl rfl) ?_
   refine ah (am rfl (gQ (c:=false) (ro hx.1 (cH vc.g)) (beq_eq_false_iff_ne.2 (nK vc.g hx.1 hx.2).2)))<|ag<|aP rfl<|ao<|aa<|ab<|ah (aA (us:=aB c) bd rfl rfl (by rw[List.drop_zero];exact List.take_of_length_le (Nat.le_of_eq (ak _))) (ak _) rfl) ?_
   refine aC (ai eo rfl) rfl<|bL (aZ bd rfl rfl rfl (ak _) rfl rfl) ?_
   refine ar<|aa<|bZ 6 [10,7,999999] aU (by kernel_rfl) rfl rfl<|ap 3<|gw (bm (us:=aB (c.ends c.p ((((bH dPt (ci c) L).getD 0 dPt))))) bo rfl rfl rfl rfl (by rw[ak];decide) (xA _ _) rfl) rfl rfl rfl rfl ?_
   refine ap 1<|gw (bm (us:=aB (c.setp ((((bH dPt (ci c) L).getD 0 dPt))))) bo rfl rfl rfl rfl (by rw[ak];decide) (qj _ _) rfl) rfl rfl rfl rfl ?_
   refine aY<|bG<|ar<|ab<|al 1<|ah (aA (us:=aB (c.ends c.p ((((bH dPt (ci c) L).getD 0 dPt))))) bd rfl rfl (by rw[List.drop_zero];exact List.take_of_length_le (Nat.le_of_eq (ak _))) (ak _) rfl) ?_
   refine ah (cC (n:=1) (us:=aB (c.ends c.p ((((bH dPt (ci c) L).getD 0 dPt))))) gA rfl (o7 rfl (ak _)) (dE (ak _)) (by decide) (by decide) rfl) ?_
   refine mm (ys:=aB (c.ends c.p ((((bH dPt (ci c) L).getD 0 dPt))))) gA rfl rfl (dE (ak _)) (by decide) (by decide) (by decide) rfl rfl (fun cg2 rg2 hga2 hgb2 hgc2=>?_)
   refine ag<|ab<|ah (aK (r:=1) rfl rfl rfl rfl) ?_
   refine ag ?_
   exact⟨⟨⟨1,cg2,rg2⟩,Nat.le_refl _,g1,hga2,hgb2,hgc2⟩,aM ⟨rfl,rfl,rfl,rfl,rfl,rfl,trivial⟩ ⟨congrArg (fun q=>some (48,aB q)) (by rw[Ho];rfl),congrArg (fun q=>some (48,q++rg2)) (by rw[G2 (by rw[eS];exact g1),iH]),trivial⟩ rfl,by show L.length-1<L.length+1;omega⟩
  ·have hz:(bH dPt (ci c) L)=[]:=List.length_eq_zero_iff.1 (by have:=of_decide_eq_false hc1;omega)
   have eC:jU c (bH dPt (ci c) L)=[c]:=by rw[hz];exact congrArg (fun q=>[q]) (GR c)
   have eN:(jU c (bH dPt (ci c) L)).length=1:=by rw[eC];rfl
   refine bj<|aa<|ab<|al 1<|ah (aA (us:=aB c) bd rfl rfl (by rw[List.drop_zero];exact List.take_of_length_le (Nat.le_of_eq (ak _))) (ak _) rfl) ?_
   refine ah (cC (n:=1) (us:=aB c) gA rfl (o7 rfl (ak _)) (dE (ak _)) (by decide) (by decide) rfl) ?_
   refine mm (ys:=aB c) gA rfl rfl (dE (ak _)) (by decide) (by decide) (by decide) rfl rfl (fun cg3 rg3 hga3 hgb3 hgc3=>?_)
   refine ag<|an ?_
   exact⟨.inr rfl,4,46,cg3,[.tmp 5],rg3,rfl,congrArg (fun q=>some (DV.o 46 q cg3)) (eN.symm),congrArg (fun q=>some (48,q++rg3)) (by rw[eC,iH]),by omega,by assumption,by rw[eN];assumption,(aE ae)⟩
 ·rintro⟨⟨n,c9,rs⟩,h1,h2,h3,h4,h5⟩
  dsimp only at h1 h2 h3 h4 h5
  show Dw _ _ ⟨47,[(2,.v (.c (.p (aB c)))),(6,.o 41 n c9),(7,.p 7 0),(17,.v (.c (.s L.length (aI au (bH dPt (ci c) L))))),(18,.v (.c (.i .i64 (L.length:Int)))),(19,.v (.c (.i .i64 (n:Int))))],[(7,48,aB ((c.ends (jo c (bH dPt (ci c) L) n) c.q))),(41,48,aI aB (nD c (bH dPt (ci c) L) n)++rs)]⟩ _
  refine aa<|ab<|ag<|aa ?_
  refine aw rfl (fun hc4=>?_) (fun hc4=>?_)
  ·have g1:n<L.length:=by have:=of_decide_eq_true hc4;omega
   have hx:=hS _ (b8 (d:=dPt) (show n<(bH dPt (ci c) L).length by rw[eS];exact g1))
   refine ao<|aa<|aJ<|aa<|ab<|ah (aW (us:=au ((bH dPt (ci c) L).getD n dPt)++aI au ((bH dPt (ci c) L).drop (n+1))) ek rfl rfl (by omega) ((aG aO _).trans (by rw[dr])) (bz aO (bi (by rw[dr];exact g1))) rfl) ?_
   refine ah (bb (us:=au ((((bH dPt (ci c) L).getD n dPt)))) bo rfl (lp _ _) (aO _) rfl) ?_
   refine aC (ai fO rfl) rfl<|ag<|aa<|aa<|ab<|al 1<|ah (oc H3 rfl rfl rfl) ?_
   refine ah (bb (us:=au c.p) bo rfl (dW _) rfl rfl) ?_
   refine ah (am rfl (gQ (c:=false) (ro hx.1 (cn vc.g)) (beq_eq_false_iff_ne.2 (nK vc.g hx.1 hx.2).1)))<|al 2<|ah (oc Kl rfl rfl rfl) ?_
   refine ah (bb (us:=au c.q) bo rfl (dY _) rfl rfl) ?_
   refine ah (am rfl (gQ (c:=false) (ro hx.1 (cH vc.g)) (beq_eq_false_iff_ne.2 (nK vc.g hx.1 hx.2).2)))<|ag<|aP rfl<|ao<|aa<|ab<|ah (aA (us:=aB ((c.ends (jo c (bH dPt (ci c) L) n) c.q))) bd rfl rfl (by rw[List.drop_zero];exact List.take_of_length_le (Nat.le_of_eq (ak _))) (ak _) rfl) ?_
   refine aC (ai eo rfl) rfl<|bL (aZ bd rfl rfl rfl (ak _) rfl rfl) ?_
   refine ar<|aa<|bZ 6 [10,7,999999] aU (by kernel_rfl) rfl rfl<|ap 3<|gw (bm (us:=aB (((c.ends (jo c (bH dPt (ci c) L) n) c.q)).ends ((c.ends (jo c (bH dPt (ci c) L) n) c.q)).p ((((bH dPt (ci c) L).getD n dPt))))) bo rfl rfl rfl rfl (by rw[ak];decide) (xA _ _) rfl) rfl rfl rfl rfl ?_
   refine ap 1<|gw (bm (us:=aB (((c.ends (jo c (bH dPt (ci c) L) n) c.q)).setp ((((bH dPt (ci c) L).getD n dPt))))) bo rfl rfl rfl rfl (by rw[ak];decide) (qj _ _) rfl) rfl rfl rfl rfl ?_
   refine aY<|bG<|ar<|ab<|al 1<|ah (aA (us:=aB (((c.ends (jo c (bH dPt (ci c) L) n) c.q)).ends ((c.ends (jo c (bH dPt (ci c) L) n) c.q)).p ((((bH dPt (ci c) L).getD n dPt))))) bd rfl rfl (by rw[List.drop_zero];exact List.take_of_length_le (Nat.le_of_eq (ak _))) (ak _) rfl) ?_
   refine ah (cC (n:=1) (us:=aB (((c.ends (jo c (bH dPt (ci c) L) n) c.q)).ends ((c.ends (jo c (bH dPt (ci c) L) n) c.q)).p ((((bH dPt (ci c) L).getD n dPt))))) gA rfl (o7 rfl (ak _)) (dE (ak _)) (by decide) (by decide) rfl) ?_
   refine mQ (us:=aI aB (nD c (bH dPt (ci c) L) n)) (rest:=rs) (ys:=aB (((c.ends (jo c (bH dPt (ci c) L) n) c.q)).ends ((c.ends (jo c (bH dPt (ci c) L) n) c.q)).p ((((bH dPt (ci c) L).getD n dPt))))) gA rfl rfl rfl ((aG ak _).trans (by rw[xz (by rw[dr];omega)])) (by assumption) (dE (ak _)) (by decide) (by omega) (by assumption) (by omega) (gP (by omega)) (.inl rfl) rfl (fun cg5 rg5 hga5 hgb5 hgc5=>?_)
   refine ag<|ab<|ah (aK (r:=((n+1:Nat):Int)) rfl rfl ((aQ (by omega) (by omega)).trans (congrArg some (by omega))) rfl) ?_
   refine ag ?_
   exact⟨⟨⟨n+1,cg5,rg5⟩,by omega,g1,hga5,hgb5,hgc5⟩,aM ⟨rfl,rfl,rfl,rfl,rfl,rfl,trivial⟩ ⟨congrArg (fun q=>some (48,aB q)) (by rw[GW,Gm]),congrArg (fun q=>some (48,q++rg5)) (by rw[yn (by rw[eS];exact g1),fA,iH,GE]),trivial⟩ rfl,by show L.length-(n+1)<L.length-n;omega⟩
  ·have hp:n=(bH dPt (ci c) L).length:=by have:=of_decide_eq_false hc4;omega
   have eN:(jU c (bH dPt (ci c) L)).length=n+1:=by rw[vj,hp]
   have eC:aI aB (nD c (bH dPt (ci c) L) n)++aB (c.ends (jo c (bH dPt (ci c) L) n) c.q)=aI aB (jU c (bH dPt (ci c) L)):=by rw[IV,fA,iH,hp]
   refine bj<|aa<|ab<|al 1<|ah (aA (us:=aB ((c.ends (jo c (bH dPt (ci c) L) n) c.q))) bd rfl rfl (by rw[List.drop_zero];exact List.take_of_length_le (Nat.le_of_eq (ak _))) (ak _) rfl) ?_
   refine ah (cC (n:=1) (us:=aB ((c.ends (jo c (bH dPt (ci c) L) n) c.q))) gA rfl (o7 rfl (ak _)) (dE (ak _)) (by decide) (by decide) rfl) ?_
   refine mQ (us:=aI aB (nD c (bH dPt (ci c) L) n)) (rest:=rs) (ys:=aB ((c.ends (jo c (bH dPt (ci c) L) n) c.q))) gA rfl rfl rfl ((aG ak _).trans (by rw[xz (by rw[dr];omega)])) (by assumption) (dE (ak _)) (by decide) (by omega) (by assumption) (by omega) (gP (by omega)) (.inr rfl) rfl (fun cg6 rg6 hga6 hgb6 hgc6=>?_)
   refine ag<|an ?_
   exact⟨.inr rfl,4,46,cg6,[.tmp 5],rg6,rfl,congrArg (fun q=>some (DV.o 46 q cg6)) (eN.symm),congrArg (fun q=>some (48,q++rg6)) (eC),by omega,by assumption,by rw[eN];assumption,(aE ae)⟩
end Go.Proofs.YtkmdgigkbhmilaaGreat
