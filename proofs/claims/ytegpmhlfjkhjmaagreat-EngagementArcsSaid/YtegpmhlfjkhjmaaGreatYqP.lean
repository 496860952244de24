/-Points of an arc that are kept:the program. -/
import Derived.Test.YtegpmhlfjkhjmaaGreatYqO
namespace Go.Proofs.YtegpmhlfjkhjmaaGreat
open Go Go.RowKit
variable {w:Bool}{k:Ci}{c:Cv}{rs:List CellD}{L S:List Pt}{N c9:Nat}{a b f p q t:Pt}{x y:Re}{U e ty:TypeId}
theorem oJ:type_of% @List.length_map:=@List.length_map
theorem YH (hk:GK k) (hf:GP f) (ht:GP t) (hp:GP p) (hq:GP q):Ok Tryz.prog 309 [.a (([.b true]++np++aX k++[.b w]++aj f++aj t)),.a (aj p),.a (aj q)] [.c (.i .i64 (bT (Cv.arc k w f t) p q))]:=by
 have b1:=Wv k t p q
 refine ca Tryz.func309 rfl ?_
 refine ar (gI kP rfl) ?_
 refine qQ rfl ?_
 refine ar (gI kP rfl) ?_
 refine dD rfl (fun hc1=>?_) (fun hc1=>?_)
 ·refine ar (dg (aX k) qV rfl (by kernel_rfl)) ?_
  refine ar (dg (aj t) bv rfl (by kernel_rfl)) ?_
  refine ac rfl (Fi hk ht hp hq) ?_
  refine ar (gl (r:= -x7 k t p q) rfl (DB b1) rfl) ?_
  refine ah ?_
  rw[show bT (Cv.arc k w f t) p q= -x7 k t p q from if_pos hc1]
  exact az ae
 ·refine ar (dg (aX k) qV rfl (by kernel_rfl)) ?_
  refine ar (dg (aj f) bv rfl (by kernel_rfl)) ?_
  refine ac rfl (Fi hk hf hp hq)<|ah ?_
  rw[show bT (Cv.arc k w f t) p q=x7 k f p q from if_neg (by rw[hc1];decide)]
  exact az ae
theorem YU (vc:CvV c) (ha:c.isArc=true) (hp:GP p) (hq:GP q):Ok Tryz.prog 309 [.a (aD c),.a (aj p),.a (aj q)] [.c (.i .i64 (bT c p q))]:=by
 cases c with
 |seg l f t=>cases ha
 |arc k w f t=>exact YH vc.g.1 vc.g.2.1 vc.g.2.2 hp hq
theorem HA (vc:CvV c) (ha:c.isArc=true) (hp:GP p):Ok Tryz.prog 123 [.a (aD c),.a (aj p)] [.c (.b (c.on p))]:=by
 cases c with
 |seg l f t=>cases ha
 |arc k w f t=>exact UJ vc.g.1 vc.pos ⟨vc.g.2.1,b7.1 vc.sp⟩ ⟨vc.g.2.2,b7.1 vc.sq⟩ hp
theorem aag (vc:CvV c) (ha:c.isArc=true) (hp:GP p):Ok Tryz.prog 223 [.a (aD c),.a (aj p)] [.c (.b (c.inner p))]:=by
 cases c with
 |seg l f t=>cases ha
 |arc k w f t=>exact RB vc.g.1 vc.pos ⟨vc.g.2.1,b7.1 vc.sp⟩ ⟨vc.g.2.2,b7.1 vc.sq⟩ hp
theorem aaJ (vc:CvV c) (ha:c.isArc=true) (hp:GP p) (hq:GP q):Ok Tryz.prog 308 [.a (aj p),.a (aj q),.c (.p (aD c))] [.c (.i .i64 (bT c p q))]:=by
 refine ca Tryz.func308 rfl<|ar (mM (us:=aD c) bW rfl (ja (ph (ai _))) (ai _) rfl) ?_
 refine ac rfl (YU vc ha hp hq) ?_
 exact ah (az ae)
theorem abX (vc:CvV c) (ha:c.isArc=true) (hp:GP p):Ok Tryz.prog 218 [.a (aj p),.c (.p (aD c))] [.c (.b (!c.on p))]:=by
 refine ca Tryz.func218 rfl<|ar (mM (us:=aD c) bW rfl (ja (ph (ai _))) (ai _) rfl) ?_
 refine ac rfl (HA vc ha hp) ?_
 exact ah (az ae)
theorem Uo (vc:CvV c) (ha:c.isArc=true) (hp:GP p):Ok Tryz.prog 222 [.a (aj p),.c (.p (aD c))] [.c (.b (!c.inner p))]:=by
 refine ca Tryz.func222 rfl<|ar (mM (us:=aD c) bW rfl (ja (ph (ai _))) (ai _) rfl) ?_
 refine ac rfl (aag vc ha hp) ?_
 exact ah (az ae)
theorem abR (vc:CvV c) (ha:c.isArc=true) (hL: ∀p∈L,GP p) (lL:L.length≤12) (hq: ∀p∈L,c.on p=true):Ok Tryz.prog 305 [.c (.s ((L).length) (aw aj (L))),.c (.k 218 [.p (aD c)])] [.c (.i .i64 (-1))]:=by
 refine ca Tryz.func305 rfl ?_
 refine DW.mk<|bh (ι:={n:Nat // n≤L.length}) (fun i=>⟨19,[(0,.v (.c (.s ((L).length) (aw aj (L))))),(1,.v (.c (.k 218 [.p (aD c)]))),(7,.v (.c (.i .i64 (L.length:Int)))),(8,.v (.c (.i .i64 (i.1:Int))))],[]⟩) (fun i=>L.length-i.1) ⟨0,eK _⟩ (ao ⟨rfl,rfl,rfl,rfl,trivial⟩ trivial rfl) ?_
 rintro⟨n,h2⟩
 replace h2:n≤L.length:=h2
 dsimp only
 refine no ?_
 refine dD rfl (fun hc1=>?_) (fun hc1=>?_)
 ·have g1:n<L.length:=by have:=of_decide_eq_true hc1;omega
  refine ar (eM dPt ak g1 cA rfl)<|ar (ip ak bv rfl)<|ar (mx rfl rfl (ez (c:=false) (abX vc ha (hL _ (bj g1))) (by simp only[hq _ (bj g1)];rfl)) rfl) ?_
  refine qQ rfl<|ar (cb (by omega) rfl) ?_
  exact⟨⟨n+1,g1⟩,ao ⟨rfl,rfl,rfl,rfl,trivial⟩ trivial rfl,by show L.length-(n+1)<L.length-n;omega⟩
 ·exact ah (az ae)
theorem abP (vc:CvV c) (ha:c.isArc=true) (hL: ∀p∈L,GP p) (lL:L.length≤12) (hq: ∀p∈L,c.on p=true):Ok Tryz.prog 217 [.c (.s ((L).length) (aw aj (L))),.c (.k 218 [.p (aD c)])] [.c (.b false)]:=by
 refine eH Tryz.func217 9 [.tmp 4] rfl<|aa<|ag<|aa<|bg<|bK 2<|aR (cj rfl (abR vc ha hL lL hq))<|aR (aP (c:=false) (dF rfl) (by decide)) ?_
 refine ex<|aZ ?_
 exact ah (az ae)
theorem ab9 (vc:CvV c) (ha:c.isArc=true) (pa:GP a) (_pb:GP b) (ea:c.inner a=false):Ok Tryz.prog 305 [.c (.s 2 (aj a++aj b)),.c (.k 222 [.p (aD c)])] [.c (.i .i64 0)]:=by
 refine ca Tryz.func305 rfl ?_
 refine DW.mk<|bh (ι:=Nat) (fun i=>match i with|_=>⟨19,[(0,.v (.c (.s 2 (aj a++aj b)))),(1,.v (.c (.k 222 [.p (aD c)]))),(7,.v (.c (.i .i64 2))),(8,.v (.c (.i .i64 0)))],[]⟩) (fun i=>0-i) 0 (ao ⟨rfl,rfl,rfl,rfl,trivial⟩ trivial rfl) ?_
 intro i
 match i with
 |_=>
  show Dw _ _ ⟨19,[(0,.v (.c (.s 2 (aj a++aj b)))),(1,.v (.c (.k 222 [.p (aD c)]))),(7,.v (.c (.i .i64 2))),(8,.v (.c (.i .i64 0)))],[]⟩ _
  refine no<|tg rfl<|ar (bH (us:=aj a++aj b) cA rfl rfl (by decide) (rfl) (rfl) rfl) ?_
  refine ar (ip ak bv rfl)<|ar (mx rfl rfl (ez (c:=true) (Uo vc ha pa) (by simp only[ea];rfl)) rfl) ?_
  refine tg rfl ?_
  exact ah (az ae)
theorem aaK (vc:CvV c) (ha:c.isArc=true) (pa:GP a) (pb:GP b) (ea:c.inner a=false) (eb:c.inner b=false):OkT Tryz.prog 221 47 2 2 0 (aj a++aj b++[]) (([]:List CellD)++(VW++VW)) [.c (.k 222 [.p (aD c)])]:=by
 refine OkT.of (K:=100000) (by kernel_rfl) Tryz.func221 rfl rfl rfl ?_
 rw[show Tryz.f221.ntmps=42 from rfl]
 refine aa<|ag<|aa<|ag<|ar (Ml (m:=20) (us:=aj a++aj b) rfl rfl rfl rfl rfl (rfl) (fP rfl) (ce _) (by decide) (ab9 vc ha pa pb ea) rfl) ?_
 refine aa<|aa<|ag<|a8 rfl<|aA<|aa<|aa<|ag<|ar (iU (r:=1) rfl rfl rfl rfl) ?_
 refine aB ?_
 refine bh (ι:=Nat) (fun i=>match i with|0=>⟨42,[(0,.o 100000 2 2),(1,.v (.c (.k 222 [.p (aD c)]))),(5,.v (.c (.i .i64 0))),(6,.v (.c (.i .i64 1)))],[(100000,47,aj a++aj b++[])]⟩|_+1=>⟨42,[(0,.o 100000 2 2),(1,.v (.c (.k 222 [.p (aD c)]))),(5,.v (.c (.i .i64 0))),(6,.v (.c (.i .i64 2)))],[(100000,47,aj a++aj b++[])]⟩) (fun i=>1-i) 0 (ao ⟨rfl,rfl,rfl,rfl,trivial⟩ ⟨rfl,trivial⟩ rfl) ?_
 intro i
 match i with
 |0=>
  show Dw _ _ ⟨42,[(0,.o 100000 2 2),(1,.v (.c (.k 222 [.p (aD c)]))),(5,.v (.c (.i .i64 0))),(6,.v (.c (.i .i64 1)))],[(100000,47,aj a++aj b++[])]⟩ _
  refine aa<|aa<|ag<|ar (iv cA rfl rfl) ?_
  refine df rfl<|aA<|aa<|aB<|aa<|bg<|bK 2<|aR (bq cA rfl rfl (by decide) rfl) ?_
  refine aR (bZ (us:=aj b) bv rfl rfl (by rfl) (ak _) rfl) ?_
  refine tO (jG yY rfl) rfl<|ex<|aa<|ag ?_
  refine ar (mx rfl rfl (ez (c:=true) (Uo vc ha pb) (by simp only[eb];rfl)) rfl) ?_
  refine a8 rfl<|aA<|ag<|ar (iU (r:=2) rfl rfl rfl rfl) ?_
  exact⟨1,ao ⟨rfl,rfl,rfl,rfl,trivial⟩ ⟨rfl,trivial⟩ rfl,by show 1-1<1-0;decide⟩
 |z+1=>
  show Dw _ _ ⟨42,[(0,.o 100000 2 2),(1,.v (.c (.k 222 [.p (aD c)]))),(5,.v (.c (.i .i64 0))),(6,.v (.c (.i .i64 2)))],[(100000,47,aj a++aj b++[])]⟩ _
  refine aa<|aa<|ag<|ar (iv cA rfl rfl) ?_
  refine a8 rfl<|a7<|aa<|ag<|ar (rm (q:=0) cA rfl rfl (by decide) (by decide) rfl) ?_
  refine re (DR (cs':=([]:List CellD)++(VW++VW)) dr rfl rfl (fP rfl) (by rfl) rfl) ?_
  refine aa<|ag<|ar (oc (q:=0) cA rfl rfl (by decide) rfl) ?_
  refine aZ ?_
  exact⟨.inr rfl,rfl,4,rfl,rfl⟩
theorem Et {P:Program}{ops:Array Oper}{os:List Oper}{K:St→Prop}{tm:List (Nat×DV)}{bx:List (Nat×TypeId×List CellD)}{t:Nat}{x y:Operand}{pos:String}{af:Array Edge}{g:Option (Nat×Bool)}{q m by_:Nat}{us ys zs zs':List CellD}
 (hU:tR P U=some (e,m,by_,zs)) (hx:cE (fun s=>aF s tm) x=some (.f 0 us)) (hy:cE (fun s=>aF s tm) y=some (.v (.c (.s q ys)))) (hys:ys.length=q*m) (hq:0<q)
 (hbytes:q*by_≤140737488355328) (h63:q≤maxLen) (hd:aF t bx=none) (hz:ys=zs')
 (hg:gd ops ⟨some t,.call ⟨.builtin .append,#[x,y],#[U,U]⟩,ty,pos,af,g⟩ (fun s=>aF s tm)=some true)
 (hk: ∀c' rest',q≤c'→c'≤maxLen→rest'.length=(c'-q)*m→dl P ops os ⟨N,(t,.o t q c')::tm,(t,e,zs'++rest')::bx⟩ K):
 dl P ops (⟨some t,.call ⟨.builtin .append,#[x,y],#[U,U]⟩,ty,pos,af,g⟩::os) ⟨N,tm,bx⟩ K:=by
 subst hz
 exact .inr ⟨_,BV hU hx hy hys hq hbytes h63 hd hg,fun σ' ⟨c',rest',h1,h2,h3,e⟩=>by subst e;exact hk c' rest' h1 h2 h3⟩
theorem acl (hl:0<L.length) (lL:L.length≤12):OkN Tryz.prog 306 [.c (.s ((L).length) (aw aj (L)))] 47 L.length 20 (aw aj L) []:=by
 refine OkN.of (by kernel_rfl) Tryz.func306 rfl rfl ?_
 rw[show Tryz.f306.ntmps=8 from rfl]
 refine aa<|ag<|aa<|aa<|bg<|bK 1 ?_
 refine yU cA rfl rfl (fun bz1 hbz1=>?_)
 refine ba ?_
 refine aI rfl (fun hc2=>?_) (fun hc2=>?_)
 ·exact absurd hc2 (by rw[hbz1 hl];decide)
 ·refine aA<|aa<|ag<|ar (j7 dr rfl) ?_
  refine DL.mk<|Et (q:=L.length) (ys:=aw aj (L)) (zs':=aw aj L) dr rfl rfl (am ak _) (hl) (by omega) (iM (by omega)) rfl (rfl) rfl (fun cg3 rg3 hga3 hgb3 hgc3=>dX ?_)
  refine aZ ?_
  exact⟨.inr rfl,2,7,cg3,[],rg3,rfl,rfl,rfl,by omega,by assumption,by assumption,ae⟩
theorem ab5:Ok Tryz.prog 306 [.c (.s 0 [])] [.c (.s 0 [])]:=by
 refine eH Tryz.func306 8 [.tmp 2] rfl<|aa<|ag<|aa<|aa<|bg<|bK 1 ?_
 refine yU cA rfl rfl (fun bz1 hbz1=>?_)
 refine ba ?_
 refine aI rfl (fun hc2=>?_) (fun hc2=>?_)
 ·refine aa<|ag<|aZ ?_
  exact ah (az ae)
 ·refine aA<|aa<|ag<|ar (j7 dr rfl) ?_
  refine ar (n6 dr rfl rfl rfl) ?_
  refine VZ (t:=2) rfl<|aZ ?_
  exact ah (az ae)
theorem Zh (vc:CvV c) (ha:c.isArc=true) (hn1:1≤L.length) (hn:L.length≤12) (hG: ∀x∈L,GP x):OkS Tryz.prog 380 47 L.length c9 (aw aj L++rs) (aw aj (bp dPt (bT c) L)++rs) [.c (.i .i64 0),.c (.i .i64 (L.length:Int)),.c (.k 308 [.p (aD c)])]:=by
 refine OkS.of (K:=100000) (by kernel_rfl) Tryz.func380 rfl rfl rfl rfl ?_
 rw[show Tryz.f380.ntmps=53 from rfl]
 refine aa<|ag<|ar (iU (r:=1) rfl rfl rfl rfl) ?_
 refine aB<|bh (ι:={p:Nat // 1≤p∧p≤L.length}) (fun i=>⟨53,[(0,.o 100000 L.length c9),(1,.v (.c (.i .i64 0))),(2,.v (.c (.i .i64 (L.length:Int)))),(3,.v (.c (.k 308 [.p (aD c)]))),(8,.v (.c (.i .i64 (i.1:Int))))],[(100000,47,aw aj (TV dPt (bT c) L i.1)++rs)]⟩) (fun i=>L.length-i.1) ⟨1,ce _,hn1⟩ (ao ⟨rfl,rfl,rfl,rfl,rfl,trivial⟩ ⟨congrArg (fun q=>some (47,aw aj q++rs)) ((J5 L).symm),trivial⟩ rfl) ?_
 rintro⟨p,h1,h2⟩
 replace h1:1≤p:=h1
 replace h2:p≤L.length:=h2
 dsimp only
 refine aa<|aa<|ag ?_
 refine aI rfl (fun hc1=>?_) (fun hc1=>?_)
 ·have g1:p<L.length:=by have:=of_decide_eq_true hc1;omega
  have hOl:(bp dPt (bT c) (L.take p)).length=p:=by rw[fE,dE,ij h2]
  refine aA<|aa<|aB<|aa<|ag<|aB<|bh (ι:={j:Nat // j≤p∧pE dPt (bT c) (L.getD p dPt) (bp dPt (bT c) (L.take p)) p=pE dPt (bT c) (L.getD p dPt) (bp dPt (bT c) (L.take p)) j}) (fun i=>⟨53,[(0,.o 100000 L.length c9),(1,.v (.c (.i .i64 0))),(2,.v (.c (.i .i64 (L.length:Int)))),(3,.v (.c (.k 308 [.p (aD c)]))),(8,.v (.c (.i .i64 (p:Int)))),(9,.v (.c (.i .i64 (i.1:Int))))],[(100000,47,aw aj (Ae (bp dPt (bT c) (L.take p)) (L.drop (p+1)) (L.getD p dPt) i.1)++rs)]⟩) (fun i=>i.1) ⟨p,ce _,rfl⟩ (ao ⟨rfl,rfl,rfl,rfl,rfl,rfl,trivial⟩ ⟨congrArg (fun q=>some (47,aw aj q++rs)) (Kk g1),trivial⟩ rfl) ?_
  rintro⟨j,h3,h4⟩
  replace h3:j≤p:=h3
  replace h4:pE dPt (bT c) (L.getD p dPt) (bp dPt (bT c) (L.take p)) p=pE dPt (bT c) (L.getD p dPt) (bp dPt (bT c) (L.take p)) j:=h4
  dsimp only
  refine aa<|aa<|ln 17 rfl rfl<|dt 3 ?_
  refine PM (bz rfl) (fun c2 hb2=>?_)
  cases c2
  ·have g2:j=0:=by have:=of_decide_eq_false hb2;omega
   refine yo<|dk<|ba<|a8 rfl<|a7<|ag<|ar (cb (by omega) rfl) ?_
   exact⟨⟨p+1,by omega,g1⟩,ao ⟨rfl,rfl,rfl,rfl,rfl,trivial⟩ ⟨congrArg (fun q=>some (47,aw aj q++rs)) (zi g1 (h4.trans (FK (.inl g2)))),trivial⟩ rfl,by show L.length-(p+1)<L.length-p;omega⟩
  ·have g2:0<j:=by have:=of_decide_eq_true hb2;omega
   have hjl:j≤(bp dPt (bT c) (L.take p)).length:=by rw[hOl];exact h3
   refine dt 3<|bD (bq cA rfl rfl (by omega) rfl) ?_
   refine bD (bZ (us:=aj (L.getD p dPt)) bv rfl rfl ((jM (e:=dPt) (O:=(Ae (bp dPt (bT c) (L.take p)) (L.drop (p+1)) (L.getD p dPt) j)) ak (by rw[iD hjl,hOl,fO];omega)).trans (congrArg aj (EI hjl))) (ak _) rfl) ?_
   refine dt 2<|bD (ci (((j-1:Nat):Int)) ((bO (by omega) (by omega)).trans (congrArg some (by omega))) rfl)<|bD (bq cA rfl rfl (by omega) rfl) ?_
   refine bD (bZ (us:=aj ((bp dPt (bT c) (L.take p)).getD (j-1) dPt)) bv rfl rfl ((jM (e:=dPt) (O:=(Ae (bp dPt (bT c) (L.take p)) (L.drop (p+1)) (L.getD p dPt) j)) ak (by rw[iD hjl,hOl,fO];omega)).trans (congrArg aj (EZ g2 hjl))) (ak _) rfl) ?_
   refine bD (mx rfl rfl (aaJ vc ha (hG _ (bj g1)) (hG _ (BZ ((kT _).mem_iff.1 (bj (show j-1<(bp dPt (bT c) (L.take p)).length by rw[hOl];omega)))))) rfl) ?_
   refine yo<|dk<|ba ?_
   refine aI rfl (fun hc3=>?_) (fun hc3=>?_)
   ·have g3:(bT c) (L.getD p dPt) ((bp dPt (bT c) (L.take p)).getD (j-1) dPt)<0:=of_decide_eq_true hc3
    refine aA<|aa<|aB<|pJ 16 [100000,999999] dM (by kernel_rfl) rfl rfl<|dt 4<|bD (ci (((j-1:Nat):Int)) ((bO (by omega) (by omega)).trans (congrArg some (by omega))) rfl)<|dt 2<|bD (ci (((j-1:Nat):Int)) ((bO (by omega) (by omega)).trans (congrArg some (by omega))) rfl)<|bD (bq cA rfl rfl (by omega) rfl) ?_
    refine CZ (by kernel_rfl) (bZ (us:=aj ((bp dPt (bT c) (L.take p)).getD (j-1) dPt)) bv rfl rfl ((jM (e:=dPt) (O:=(Ae (bp dPt (bT c) (L.take p)) (L.drop (p+1)) (L.getD p dPt) j)) ak (by rw[iD hjl,hOl,fO];omega)).trans (congrArg aj (EZ g2 hjl))) (ak _) rfl) ?_
    refine dt 2<|bD (bq cA rfl rfl (by omega) rfl) ?_
    refine CZ (by kernel_rfl) (bZ (us:=aj (L.getD p dPt)) bv rfl rfl ((jM (e:=dPt) (O:=(Ae (bp dPt (bT c) (L.take p)) (L.drop (p+1)) (L.getD p dPt) j)) ak (by rw[iD hjl,hOl,fO];omega)).trans (congrArg aj (EI hjl))) (ak _) rfl) ?_
    refine bD (bq cA rfl rfl (by omega) rfl) ?_
    refine jb (bd (us:=aw aj ((Ae (bp dPt (bT c) (L.take p)) (L.drop (p+1)) (L.getD p dPt) j).set j ((bp dPt (bT c) (L.take p)).getD (j-1) dPt))++rs) bv rfl rfl rfl (ak _) (by rw[dm,am ak,iD hjl,hOl,fO];omega) (v8 ak (by rw[iD hjl,hOl,fO];omega) _) rfl) rfl rfl rfl rfl ?_
    refine jY<|sE<|aR (bq cA rfl rfl (by omega) rfl) ?_
    refine f8 (bd (us:=aw aj (((Ae (bp dPt (bT c) (L.take p)) (L.drop (p+1)) (L.getD p dPt) j).set j ((bp dPt (bT c) (L.take p)).getD (j-1) dPt)).set (j-1) (L.getD p dPt))++rs) bv rfl rfl rfl (ak _) (by rw[dm,am ak,xT,iD hjl,hOl,fO];omega) (v8 ak (by rw[xT,iD hjl,hOl,fO];omega) _) rfl) ?_
    refine ba<|ag<|ar (ci (((j-1:Nat):Int)) ((bO (by omega) (by omega)).trans (congrArg some (by omega))) rfl) ?_
    exact⟨⟨j-1,by omega,h4.trans (RL g2 g3)⟩,ao ⟨rfl,rfl,rfl,rfl,rfl,rfl,trivial⟩ ⟨congrArg (fun q=>some (47,aw aj q++rs)) (O2 g2 hjl),trivial⟩ rfl,by show j-1<j;omega⟩
   ·have g3: ¬(bT c) (L.getD p dPt) ((bp dPt (bT c) (L.take p)).getD (j-1) dPt)<0:=of_decide_eq_false hc3
    refine a7<|ag<|ar (cb (by omega) rfl) ?_
    exact⟨⟨p+1,by omega,g1⟩,ao ⟨rfl,rfl,rfl,rfl,rfl,trivial⟩ ⟨congrArg (fun q=>some (47,aw aj q++rs)) (zi g1 (h4.trans (FK (.inr g3)))),trivial⟩ rfl,by show L.length-(p+1)<L.length-p;omega⟩
 ·have hp:p=L.length:=by have:=of_decide_eq_false hc1;omega
  refine a7 ?_
  exact⟨.inl rfl,congrArg (fun q=>some (47,aw aj q++rs)) (by rw[hp,Ld])⟩
theorem Z6 (vc:CvV c) (ha:c.isArc=true) (hn1:1≤L.length) (hn:L.length≤12) (hG: ∀x∈L,GP x):OkS Tryz.prog 356 47 L.length c9 (aw aj L++rs) (aw aj (bp dPt (bT c) L)++rs) [.c (.i .i64 (L.length:Int)),.c (.k 308 [.p (aD c)])]:=by
 refine OkS.of (K:=100000) (by kernel_rfl) Tryz.func356 rfl rfl rfl rfl ?_
 rw[show Tryz.f356.ntmps=63 from rfl]
 refine aa<|ag<|aa<|ag<|aa<|aB ?_
 refine bh (ι:=Nat) (fun i=>match i with|_=>⟨63,[(0,.o 100000 L.length c9),(1,.v (.c (.i .i64 (L.length:Int)))),(2,.v (.c (.k 308 [.p (aD c)]))),(6,.v (.c (.i .i64 20))),(7,.v (.c (.i .i64 0))),(8,.v (.c (.i .i64 20)))],[(100000,47,aw aj L++rs)]⟩) (fun i=>0-i) 0 (ao ⟨rfl,rfl,rfl,rfl,rfl,rfl,trivial⟩ ⟨rfl,trivial⟩ rfl) ?_
 intro i
 match i with
 |_=>
  show Dw _ _ ⟨63,[(0,.o 100000 L.length c9),(1,.v (.c (.i .i64 (L.length:Int)))),(2,.v (.c (.k 308 [.p (aD c)]))),(6,.v (.c (.i .i64 20))),(7,.v (.c (.i .i64 0))),(8,.v (.c (.i .i64 20)))],[(100000,47,aw aj L++rs)]⟩ _
  refine aa<|aa<|bg<|bK 2<|aR (aP (c:=false) (dF rfl) (decide_eq_false (by omega))) ?_
  refine ba<|a8 rfl<|a7<|aa<|ag ?_
  refine DL.mk<|sN (kY rfl rfl rfl rfl rfl (Zh vc ha hn1 hn hG) rfl)<|dX ?_
  refine aB ?_
  refine bh (ι:=Nat) (fun i=>match i with|_=>⟨63,[(0,.o 100000 L.length c9),(1,.v (.c (.i .i64 (L.length:Int)))),(2,.v (.c (.k 308 [.p (aD c)]))),(6,.v (.c (.i .i64 20))),(7,.v (.c (.i .i64 0))),(8,.v (.c (.i .i64 20)))],[(100000,47,aw aj (bp dPt (bT c) L)++rs)]⟩) (fun i=>0-i) 0 (ao ⟨rfl,rfl,rfl,rfl,rfl,rfl,trivial⟩ ⟨rfl,trivial⟩ rfl) ?_
  intro i
  match i with
  |_=>
   show Dw _ _ ⟨63,[(0,.o 100000 L.length c9),(1,.v (.c (.i .i64 (L.length:Int)))),(2,.v (.c (.k 308 [.p (aD c)]))),(6,.v (.c (.i .i64 20))),(7,.v (.c (.i .i64 0))),(8,.v (.c (.i .i64 20)))],[(100000,47,aw aj (bp dPt (bT c) L)++rs)]⟩ _
   refine aa<|aa<|bg<|bK 2<|aR (aP (c:=false) (dF rfl) (decide_eq_false (by omega))) ?_
   refine ba<|a8 rfl<|a7 ?_
   exact⟨.inl rfl,rfl⟩
theorem ZH (vc:CvV c) (ha:c.isArc=true) (hn1:1≤L.length) (hn:L.length≤12) (hG: ∀x∈L,GP x):OkS Tryz.prog 307 47 L.length c9 (aw aj L++rs) (aw aj (bp dPt (bT c) L)++rs) [.c (.k 308 [.p (aD c)])]:=by
 refine OkS.of (K:=100000) (by kernel_rfl) Tryz.func307 rfl rfl rfl rfl ?_
 rw[show Tryz.f307.ntmps=9 from rfl]
 refine ag<|ar (iv cA rfl rfl) ?_
 refine DL.mk<|sN (kY rfl rfl rfl rfl rfl (Z6 vc ha hn1 hn hG) rfl)<|dX ?_
 exact⟨.inl rfl,rfl⟩
theorem YN:Ok Tryz.prog 380 [.c (.s 0 []),.c (.i .i64 0),.c (.i .i64 0),.c (.k 308 [.p (aD c)])] []:=by
 refine ca Tryz.func380 rfl<|ar (iU (r:=1) rfl rfl rfl rfl) ?_
 refine DW.mk<|bh (ι:=Nat) (fun i=>match i with|_=>⟨53,[(0,.v (.c (.s 0 []))),(1,.v (.c (.i .i64 0))),(2,.v (.c (.i .i64 0))),(3,.v (.c (.k 308 [.p (aD c)]))),(8,.v (.c (.i .i64 1)))],[]⟩) (fun i=>0-i) 0 (ao ⟨rfl,rfl,rfl,rfl,rfl,trivial⟩ trivial rfl) ?_
 intro i
 match i with
 |_=>
  show Dw _ _ ⟨53,[(0,.v (.c (.s 0 []))),(1,.v (.c (.i .i64 0))),(2,.v (.c (.i .i64 0))),(3,.v (.c (.k 308 [.p (aD c)]))),(8,.v (.c (.i .i64 1)))],[]⟩ _
  refine no<|qQ rfl ?_
  exact HS ae
theorem WA:Ok Tryz.prog 356 [.c (.s 0 []),.c (.i .i64 0),.c (.k 308 [.p (aD c)])] []:=by
 refine ca Tryz.func356 rfl ?_
 refine DW.mk<|bh (ι:=Nat) (fun i=>match i with|_=>⟨63,[(0,.v (.c (.s 0 []))),(1,.v (.c (.i .i64 0))),(2,.v (.c (.k 308 [.p (aD c)]))),(6,.v (.c (.i .i64 20))),(7,.v (.c (.i .i64 0))),(8,.v (.c (.i .i64 20)))],[]⟩) (fun i=>0-i) 0 (ao ⟨rfl,rfl,rfl,rfl,rfl,rfl,trivial⟩ trivial rfl) ?_
 intro i
 match i with
 |_=>
  show Dw _ _ ⟨63,[(0,.v (.c (.s 0 []))),(1,.v (.c (.i .i64 0))),(2,.v (.c (.k 308 [.p (aD c)]))),(6,.v (.c (.i .i64 20))),(7,.v (.c (.i .i64 0))),(8,.v (.c (.i .i64 20)))],[]⟩ _
  refine no<|qQ rfl<|ac rfl (YN) ?_
  refine DW.mk<|bh (ι:=Nat) (fun i=>match i with|_=>⟨63,[(0,.v (.c (.s 0 []))),(1,.v (.c (.i .i64 0))),(2,.v (.c (.k 308 [.p (aD c)]))),(6,.v (.c (.i .i64 20))),(7,.v (.c (.i .i64 0))),(8,.v (.c (.i .i64 20)))],[]⟩) (fun i=>0-i) 0 (ao ⟨rfl,rfl,rfl,rfl,rfl,rfl,trivial⟩ trivial rfl) ?_
  intro i
  match i with
  |_=>
   show Dw _ _ ⟨63,[(0,.v (.c (.s 0 []))),(1,.v (.c (.i .i64 0))),(2,.v (.c (.k 308 [.p (aD c)]))),(6,.v (.c (.i .i64 20))),(7,.v (.c (.i .i64 0))),(8,.v (.c (.i .i64 20)))],[]⟩ _
   refine no<|qQ rfl ?_
   exact HS ae
theorem XN:Ok Tryz.prog 307 [.c (.s 0 []),.c (.k 308 [.p (aD c)])] []:=by
 refine ca Tryz.func307 rfl ?_
 refine ac rfl (WA) ?_
 exact HS ae
theorem acB (hS: ∀p∈S,GP p) (lS:S.length≤12) (hne: ∀i,i+1<S.length→cP (S.getD (i+1) dPt) (S.getD i dPt)≠0):Ok Tryz.prog 310 [.c (.s ((S).length) (aw aj (S))),.c (.f 220)] [.c (.s ((S).length) (aw aj (S)))]:=by
 refine ca Tryz.func310 rfl ?_
 refine dD rfl (fun hc1=>?_) (fun hc1=>?_)
 ·exact ah (az ae)
 ·refine DW.mk<|bh (ι:={n:Nat // n+1≤S.length∨n=0}) (fun i=>⟨66,[(0,.v (.c (.s ((S).length) (aw aj (S))))),(1,.v (.c (.f 220))),(5,.v (.c (.i .i64 (((i.1+1:Nat):Int)))))],[]⟩) (fun i=>S.length-i.1) ⟨0,.inr rfl⟩ (ao ⟨rfl,rfl,rfl,trivial⟩ trivial rfl) ?_
  rintro⟨n,h2⟩
  replace h2:n+1≤S.length∨n=0:=h2
  dsimp only
  refine no ?_
  refine dD rfl (fun hc2=>?_) (fun hc2=>?_)
  ·have g1:n+1<S.length:=by have:=of_decide_eq_true hc2;omega
   refine cT 11 []<|aq (bH (us:=aj (S.getD (n+1) dPt)++aw aj (S.drop ((n+1)+1))) cA rfl rfl (by omega) (am ak _) (jf ak (ew g1)) rfl) ?_
   refine aq (ip ak bv rfl)<|aq (ci (((n:Nat):Int)) ((bO (by omega) (by omega)).trans (congrArg some (by omega))) rfl)<|aq (bH (us:=aj (S.getD n dPt)++aw aj (S.drop (n+1))) cA rfl rfl (by omega) (am ak _) (jf ak (ew (by omega))) rfl) ?_
   refine aq (ip ak bv rfl)<|aK rfl (ez (c:=false) (yr (GP.getD hS (n+1)) (GP.getD hS n)) (beq_eq_false_iff_ne.2 (hne n g1)))<|qQ rfl<|ar (ci (((n+1+1:Nat):Int)) ((bk (by omega) (by omega)).trans (congrArg some (by omega))) rfl) ?_
   exact⟨⟨n+1,.inl g1⟩,ao ⟨rfl,rfl,rfl,trivial⟩ trivial rfl,by show S.length-(n+1)<S.length-n;omega⟩
  ·exact ah (az ae)
theorem wu (c:Cv) (q:Pt):(aD c).take 46++aj q++(aD c).drop (46+20)=aD (c.ends c.p q):=by cases c<;>rfl
theorem Mi (c:Cv):c.ends c.p c.q=c:=by cases c<;>rfl
theorem DC (c:Cv) (x q P:Pt):(c.ends x q).ends (c.ends x q).p P=c.ends x P:=by cases c<;>rfl
theorem D2 (c:Cv) (x q P:Pt):(c.ends x q).setp P=c.ends P q:=by cases c<;>rfl
theorem Ou (h:c.inner p=true):c.on p=true:=by unfold Cv.inner at h;rw[dN] at h;exact h.1
theorem OV (hc:c.good) (hp:GP p) (h:c.inner p=true):cP p c.p≠0∧cP p c.q≠0:=by
 unfold Cv.inner at h
 have h1:=fD (co (iq hc)) (co hp)
 have h2:=fD (co (o7 hc)) (co hp)
 grind
def Iy (R:List Cv) (n:Nat):List Cv:=(R.take n).map Cv.fwd++R.drop n
section
variable {R:List Cv}{n:Nat}
theorem yR (h:n≤R.length):(Iy R n).length=R.length:=by unfold Iy;rw[dm,oJ,dE,fO];omega
theorem OZ (h:n<R.length):(Iy R n).getD n aY=R.getD n aY:=by
 unfold Iy
 grind
theorem Lh (h:n<R.length):(Iy R n).set n (R.getD n aY).fwd=Iy R (n+1):=by
 unfold Iy
 have hl:((R.take n).map Cv.fwd).length=n:=by grind
 rw[List.set_append_right _ _ (by omega),hl,Nat.sub_self,qu (d:=aY) h,o5,mV,pj h]
 rfl
theorem PR (h:n<R.length) (e:(R.getD n aY).fwd=R.getD n aY):Iy R n=Iy R (n+1):=by
 rw[←Lh h,e]
 apply List.ext_getElem?
 intro j
 rw[List.getElem?_set]
 split
 ·rename_i g
  subst g
  rw[if_pos (by rw[yR (Nat.le_of_lt h)];exact h),←OZ h,ew (by rw[yR (Nat.le_of_lt h)];exact h)]
 ·rfl
theorem TL:Iy R R.length=R.map Cv.fwd:=by unfold Iy;simp
theorem aaT:Iy R 0=R:=by unfold Iy;simp
end
theorem UK (hk:GK k) (h0:0<k.q):cP (jS k) (jI k)≠0:=fun e=>by
 have h1:=(fj.1 e).1
 have kL:=QI (k:=k) h0
 have kR:=O5 (k:=k) h0
 rcases Fp (vJ hk h0) (uS hk h0) kL.1 kL.2 with⟨_,b,_⟩|⟨_,b⟩
 ·have:=kR.2;omega
 ·omega
theorem Pg (c:Cv) (r:List CellD):((aD c++r).drop (0+25))[0]? =some (.b c.cw):=by cases c<;>rfl
def pA (kf kt:Fin 4) (i:Int):Bool:=um kt kf i&& !(uK kt==uK kf&&i==0)
def pB (kf kt kx:Fin 4) (i j d:Int):Bool:=um kx kf j&&(um kx kt d&&(F8 j i d&&cwP kf kx kt j i d))
def pC (kx ky:Fin 4) (j l d e g:Int):Bool:=um kx ky g&&(F8 j l g&&F8 d e g)
set_option maxRecDepth 1000000 in
theorem Nl: ∀(kf kt:Fin 4) (i:Fin 3),pA kf kt (i3 i)=true→ ∀(kx:Fin 4) (j d:Fin 3),pB kf kt kx (i3 i) (i3 j) (i3 d)=true→ ∀(ky:Fin 4) (l e:Fin 3),pB kf kt ky (i3 i) (i3 l) (i3 e)=true→ ∀g:Fin 3,pC kx ky (i3 j) (i3 l) (i3 d) (i3 e) (i3 g)=true→
 Fj (Cw (uF kx) (uF kf) (-(i3 j))) (Cw (uF ky) (uF kf) (-(i3 l))) (Cw (uF kx) (uF ky) (-(i3 g)))= -vm (AU (uK kx) (uK kt) (i3 d)) (AU (uK ky) (uK kt) (i3 e)) (AU (uK kx) (uK ky) (i3 g)):=by decide+kernel
theorem Wm {x y:Pt}(h0:0<k.q) (of:OnK k f) (ot:OnK k t) (ox:OnK k x) (oy:OnK k y) (hne:cP f t≠0) (hx:(Cv.arc k true f t).on x=true) (hy:(Cv.arc k true f t).on y=true):(Cv.arc k true f t).ord x y= -x7 k t x y:=by
 have cf:=bn of
 have ct:=bn ot
 have cx':=bn ox
 have cy':=bn oy
 rw[CX (b7.2 ox.2)] at hx
 rw[CX (b7.2 oy.2)] at hy
 have hx:(decide ((Cv.arc k true f t).ord f x≤0)&&decide ((Cv.arc k true f t).ord x t≤0))=true:=hx
 have hy:(decide ((Cv.arc k true f t).ord f y≤0)&&decide ((Cv.arc k true f t).ord y t≤0))=true:=hy
 rw[Ea h0 of ot ox] at hx
 rw[Ea h0 of ot oy] at hy
 have t1:=kh cf cx' ct
 have t2:=kh cf cy' ct
 have t3:=kh cf cx' cy'
 have t4:=kh ct cx' cy'
 have m1:=iF h0 ot of
 have m2:=iF h0 ox of
 have m3:=iF h0 ox ot
 have m4:=iF h0 oy of
 have m5:=iF h0 oy ot
 have m6:=iF h0 ox oy
 have hn:(uK (kd k t)==uK (kd k f)&&cx t f==0)=false:=by
  rw[←fL,←fL]
  cases h:(ll k t==ll k f&&cx t f==0) with
  |false=>rfl
  |true=>exact absurd (yI h0 ot of h) (fun e=>hne (by rw[fD ct cf,e];rfl))
 have e1:x7 k t x f=vm (AU (uK (kd k x)) (uK (kd k t)) (cx x t)) (AU (uK (kd k f)) (uK (kd k t)) (-cx t f)) (AU (uK (kd k x)) (uK (kd k f)) (cx x f)):=by
  unfold x7 ov;rw[fL,fL,fL,d9 ct cf]
 have e2:x7 k t y f=vm (AU (uK (kd k y)) (uK (kd k t)) (cx y t)) (AU (uK (kd k f)) (uK (kd k t)) (-cx t f)) (AU (uK (kd k y)) (uK (kd k f)) (cx y f)):=by
  unfold x7 ov;rw[fL,fL,fL,d9 ct cf]
 rw[e1] at hx
 rw[e2] at hy
 show r9 k.mir f.flip x.flip y.flip=_
 rw[sb,fu,fu,fu,nj cx' cf,nj cy' cf,nj cx' cy',sr h0 of,sr h0 ox,sr h0 oy]
 unfold x7 ov
 rw[fL,fL,fL]
 obtain⟨i,hi⟩:=fR (fv t f)
 obtain⟨j,hj⟩:=fR (fv x f)
 obtain⟨l,hl⟩:=fR (fv y f)
 obtain⟨d,hd⟩:=fR (fv x t)
 obtain⟨e,he⟩:=fR (fv y t)
 obtain⟨g,hg⟩:=fR (fv x y)
 rw[hi] at t1 t2 m1 hn hx hy
 rw[hj] at t1 t3 m2 hx⊢
 rw[hl] at t2 t3 m4 hy⊢
 rw[hd] at t1 t4 m3 hx⊢
 rw[he] at t2 t4 m5 hy⊢
 rw[hg] at t3 t4 m6⊢
 exact Nl _ _ i (by unfold pA;rw[m1,hn];rfl) _ j d (by unfold pB cwP;rw[m2,m3,t1,hx];rfl) _ l e (by unfold pB cwP;rw[m4,m5,t2,hy];rfl) g (by unfold pC;rw[m6,t3,t4];rfl)
theorem Aa {x:Pt}(gx:GP x) (h:(Cv.arc k w f t).on x=true):OnK k x:=⟨gx,b7.1 (E3 h)⟩
theorem Us (vc:CvV c) (ha:c.isArc=true) {x y:Pt}(gx:GP x) (gy:GP y) (hx:c.on x=true) (hy:c.on y=true):bT c x y=c.ord x y:=by
 cases c with
 |seg l f t=>cases ha
 |arc k w f t=>
  cases w with
  |true=>exact(Wm vc.pos ⟨vc.g.2.1,b7.1 vc.sp⟩ ⟨vc.g.2.2,b7.1 vc.sq⟩ (Aa gx hx) (Aa gy hy) vc.ne hx hy).symm
  |false=>exact(Sj vc.g.2.1 gx gy).symm
theorem Cj {α:Type}{r:α→α→Prop}: ∀ {A B:List α},(∀a∈A,∀b∈A,r a b→ ¬r b a)→A.Perm B→A.Pairwise r→B.Pairwise r→A=B
 |[],B,_,h,_,_=>h.nil_eq
 |a::A,[],_,h,_,_=>absurd h.length_eq (by simp)
 |a::A,b::B,hs9,h,hA,hB=>by
  have hab:a=b:=by
   apply f7
   intro hn
   have h1:a∈B:=(dA.1 (h.mem_iff.1 fJ)).resolve_left hn
   have h2:b∈A:=(dA.1 (h.mem_iff.2 fJ)).resolve_left (Ne.symm hn)
   exact hs9 a fJ b (fB _ h2) ((lp.1 hA).1 b h2) ((lp.1 hB).1 a h1)
  subst hab
  rw[Cj (fun x hx y hy=>hs9 x (fB _ hx) y (fB _ hy)) h.cons_inv (lp.1 hA).2 (lp.1 hB).2]
section
variable {k:Ci}{w:Bool}{f t:Pt}(vc:CvV (.arc k w f t))
include vc
theorem Dl:OnK k f∧OnK k t:=⟨⟨vc.g.2.1,b7.1 vc.sp⟩,⟨vc.g.2.2,b7.1 vc.sq⟩⟩
theorem JW {x y:Pt}(ox:OnK k x) (oy:OnK k y) (h:(Cv.arc k w f t).ord x y≤0) (hne:cP x y≠0):(Cv.arc k w f t).ord x y<0:=by
 have:(Cv.arc k w f t).ord x y≠0:=fun e=>hne (vf vc.pos (Dl vc).1 ox oy e)
 omega
end
theorem Lr: ∀ {L:List Pt},(∀a∈L,∀b∈L,cP a b=0→cP b a=0)→L.Pairwise (fun a b=>cP a b≠0)→ ∀a∈L,∀b∈L,cP a b=0→a=b
 |[],_,_,_,h,_,_,_=>by cases h
 |x::L,hs,h,a,ha,b,hb,e=>by
  obtain⟨h1,h2⟩:=lp.1 h
  rcases dA.1 ha with rfl|ha'
  ·rcases dA.1 hb with rfl|hb'
   ·rfl
   ·exact absurd e (h1 b hb')
  ·rcases dA.1 hb with rfl|hb'
   ·exact absurd (hs a ha b hb e) (h1 a ha')
   ·exact Lr (fun a ha b hb=>hs a (fB _ ha) b (fB _ hb)) h2 a ha' b hb' e
theorem Qq (h:aS x=0) (g:aS y=0):aS (x+y)=0:=by rw[m8 h,g]
theorem GO (y:Re) (h:aS x=0):aS (y*x)=0:=by rw[bJ,h,pD]
theorem CR (h:aS x=0):aS (-x)=0:=by rw[cm,h];rfl
theorem aaF (h:aS (x*y)=0) (hx:aS x≠0):aS y=0:=by
 rw[bJ] at h
 exact(u9.1 h).resolve_left hx
def Mu (c d:Cv):Bool:=B5 c d&&((c.cw==d.cw)&&(cP c.p d.p==0&&cP c.q d.q==0))
theorem Bv {z:Re}(e:x-y=z) (hz:aS z=0):aS x=aS y:=dP (by rw[e];exact hz)
theorem aar (h:aS x=0) (g:aS y=0):aS (x-y)=0:=Qq h (CR g)
theorem KS {p q:Re}(hp:0≤aS p) (hq:0≤aS q) (h:aS (q*q-p*p)=0):aS (q-p)=0:=by
 rcases bL (q+p) with e|e|e
 ·refine aaF (x:=q+p) ?_ (by rw[e];decide)
  rw[show(q+p)*(q-p)=q*q-p*p from(bt fun n=>by simp only[aU,aG,aT];grind)];exact h
 ·have h1:aS q=0:=by
   apply f7
   intro hn
   have:=BA (x:=q) (y:=p) (by omega) hp
   omega
  have h2:aS p=0:=by rw[←m8 h1 p];exact e
  exact aar h1 h2
 ·have:=p9 hq hp;omega
theorem aba {c:Rat}(h0:0<c) (hs:jd c=true):aS (Re.of (rt c)-Re.rt c)=0:=by
 refine KS (xd c) ?_ ?_
 ·rw[cO];exact kO (DE c)
 ·rw[Bv (y:=Re.of (rt c*rt c)-Re.of c) (z:= -(Re.rt c*Re.rt c-Re.of c)) ((bt fun n=>by simp only[aG,aT,bi,bE];grind)) (CR (ow (Rat.le_of_lt h0))),Jr h0 hs]
  exact sX _
theorem Lp {a1 b1 a2 b2 c:Rat}(h0:0<c):aS (pX (fS a1 b1 a2 b2 c)-(Re.of a1+Re.of b1*Re.rt c))=0∧aS (pY (fS a1 b1 a2 b2 c)-(Re.of a2+Re.of b2*Re.rt c))=0:=by
 cases hs:jd c with
 |true=>
  have e:fS a1 b1 a2 b2 c=⟨a1+b1*rt c,0,a2+b2*rt c,0,0⟩:=by unfold fS;rw[hs];rfl
  have hr:=aba h0 hs
  rw[e]
  refine⟨?_,?_⟩
  ·show aS (wY (a1+b1*rt c) 0 0-_)=0
   rw[t9,show Re.of (a1+b1*rt c)+Re.of 0*Re.rt 0-(Re.of a1+Re.of b1*Re.rt c)=Re.of b1*(Re.of (rt c)-Re.rt c) from(bt fun n=>by simp only[aU,aG,aT,bi];grind)]
   exact GO _ hr
  ·show aS (wY (a2+b2*rt c) 0 0-_)=0
   rw[t9,show Re.of (a2+b2*rt c)+Re.of 0*Re.rt 0-(Re.of a2+Re.of b2*Re.rt c)=Re.of b2*(Re.of (rt c)-Re.rt c) from(bt fun n=>by simp only[aU,aG,aT,bi];grind)]
   exact GO _ hr
 |false=>
  have e:fS a1 b1 a2 b2 c=⟨a1,b1,a2,b2,c⟩:=by unfold fS;rw[hs];rfl
  rw[e]
  refine⟨?_,?_⟩
  ·show aS (wY a1 b1 c-_)=0
   rw[t9];exact sX _
  ·show aS (wY a2 b2 c-_)=0
   rw[t9];exact sX _
end Go.Proofs.YtegpmhlfjkhjmaaGreat
