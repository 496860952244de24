/-Points of an arc that are kept:the program. -/
import Derived.Test.YtegpmhlfjkhjmaaGreatYmO
namespace Go.Proofs.YtegpmhlfjkhjmaaGreat
open Go Go.RowKit
variable {w:Bool}{k:Ci}{c:Cv}{rs:List CellD}{L S:List Pt}{N c9:Nat}{a b f p q t:Pt}{x y:Re}{U e ty:TypeId}
theorem oN:type_of% @List.length_map:=@List.length_map
theorem YQ (hk:GK k) (hf:GP f) (ht:GP t) (hp:GP p) (hq:GP q):Ok Tryz.prog 309 [.a (([.b true]++nr++aV k++[.b w]++aj f++aj t)),.a (aj p),.a (aj q)] [.c (.i .i64 (bT (Cv.arc k w f t) p q))]:=by
 have b1:=ZX k t p q
 refine bX Tryz.func309 rfl ?_
 refine ar (gY lW rfl) ?_
 refine sb rfl ?_
 refine ar (gY lW rfl) ?_
 refine dk rfl (fun hc1=>?_) (fun hc1=>?_)
 ·refine ar (cO (aV k) qK rfl (by kernel_rfl)) ?_
  refine ar (cO (aj t) bq rfl (by kernel_rfl)) ?_
  refine ac rfl (FK hk ht hp hq) ?_
  refine ar (fa (r:= -yA k t p q) rfl (xv b1) rfl) ?_
  refine ah ?_
  rw[show bT (Cv.arc k w f t) p q= -yA k t p q from if_pos hc1]
  exact az ae
 ·refine ar (cO (aV k) qK rfl (by kernel_rfl)) ?_
  refine ar (cO (aj f) bq rfl (by kernel_rfl)) ?_
  refine ac rfl (FK hk hf hp hq)<|ah ?_
  rw[show bT (Cv.arc k w f t) p q=yA k f p q from if_neg (by rw[hc1];decide)]
  exact az ae
theorem Xy (vc:CvV c) (ha:c.isArc=true) (hp:GP p) (hq:GP q):Ok Tryz.prog 309 [.a (aC c),.a (aj p),.a (aj q)] [.c (.i .i64 (bT c p q))]:=by
 cases c with
 |seg l f t=>cases ha
 |arc k w f t=>exact YQ vc.g.1 vc.g.2.1 vc.g.2.2 hp hq
theorem Iw (vc:CvV c) (ha:c.isArc=true) (hp:GP p):Ok Tryz.prog 123 [.a (aC c),.a (aj p)] [.c (.b (c.on p))]:=by
 cases c with
 |seg l f t=>cases ha
 |arc k w f t=>exact Wh vc.g.1 vc.pos ⟨vc.g.2.1,b5.1 vc.sp⟩ ⟨vc.g.2.2,b5.1 vc.sq⟩ hp
theorem abx (vc:CvV c) (ha:c.isArc=true) (hp:GP p):Ok Tryz.prog 223 [.a (aC c),.a (aj p)] [.c (.b (c.inner p))]:=by
 cases c with
 |seg l f t=>cases ha
 |arc k w f t=>exact Pi vc.g.1 vc.pos ⟨vc.g.2.1,b5.1 vc.sp⟩ ⟨vc.g.2.2,b5.1 vc.sq⟩ hp
theorem acq (vc:CvV c) (ha:c.isArc=true) (hp:GP p) (hq:GP q):Ok Tryz.prog 308 [.a (aj p),.a (aj q),.c (.p (aC c))] [.c (.i .i64 (bT c p q))]:=by
 refine bX Tryz.func308 rfl<|ar (mw (us:=aC c) bO rfl (jm (qx (ai _))) (ai _) rfl) ?_
 refine ac rfl (Xy vc ha hp hq) ?_
 exact ah (az ae)
theorem adE (vc:CvV c) (ha:c.isArc=true) (hp:GP p):Ok Tryz.prog 218 [.a (aj p),.c (.p (aC c))] [.c (.b (!c.on p))]:=by
 refine bX Tryz.func218 rfl<|ar (mw (us:=aC c) bO rfl (jm (qx (ai _))) (ai _) rfl) ?_
 refine ac rfl (Iw vc ha hp) ?_
 exact ah (az ae)
theorem acg (vc:CvV c) (ha:c.isArc=true) (hp:GP p):Ok Tryz.prog 222 [.a (aj p),.c (.p (aC c))] [.c (.b (!c.inner p))]:=by
 refine bX Tryz.func222 rfl<|ar (mw (us:=aC c) bO rfl (jm (qx (ai _))) (ai _) rfl) ?_
 refine ac rfl (abx vc ha hp) ?_
 exact ah (az ae)
theorem adc (vc:CvV c) (ha:c.isArc=true) (hL: ∀p∈L,GP p) (lL:L.length≤12) (hq: ∀p∈L,c.on p=true):Ok Tryz.prog 305 [.c (.s ((L).length) (ao aj (L))),.c (.k 218 [.p (aC c)])] [.c (.i .i64 (-1))]:=by
 refine bX Tryz.func305 rfl ?_
 refine DW.mk<|bn (ι:={n:Nat // n≤L.length}) (fun i=>⟨19,[(0,.v (.c (.s ((L).length) (ao aj (L))))),(1,.v (.c (.k 218 [.p (aC c)]))),(7,.v (.c (.i .i64 (L.length:Int)))),(8,.v (.c (.i .i64 (i.1:Int))))],[]⟩) (fun i=>L.length-i.1) ⟨0,eF _⟩ (ap ⟨rfl,rfl,rfl,rfl,trivial⟩ trivial rfl) ?_
 rintro⟨n,h2⟩
 replace h2:n≤L.length:=h2
 dsimp only
 refine nu ?_
 refine dk rfl (fun hc1=>?_) (fun hc1=>?_)
 ·have g1:n<L.length:=by have:=of_decide_eq_true hc1;omega
  refine ar (fl dPt ak g1 cE rfl)<|ar (iK ak bq rfl)<|ar (p9 rfl rfl (fp (c:=false) (adE vc ha (hL _ (bd g1))) (by simp only[hq _ (bd g1)];rfl)) rfl) ?_
  refine sb rfl<|ar (ca (by omega) rfl) ?_
  exact⟨⟨n+1,g1⟩,ap ⟨rfl,rfl,rfl,rfl,trivial⟩ trivial rfl,by show L.length-(n+1)<L.length-n;omega⟩
 ·exact ah (az ae)
theorem adh (vc:CvV c) (ha:c.isArc=true) (hL: ∀p∈L,GP p) (lL:L.length≤12) (hq: ∀p∈L,c.on p=true):Ok Tryz.prog 217 [.c (.s ((L).length) (ao aj (L))),.c (.k 218 [.p (aC c)])] [.c (.b false)]:=by
 refine eo Tryz.func217 9 [.tmp 4] rfl<|aa<|ag<|aa<|bm<|bU 2<|aU (cb rfl (adc vc ha hL lL hq))<|aU (a8 (c:=false) (fh rfl) (by decide)) ?_
 refine ed<|a7 ?_
 exact ah (az ae)
theorem ado (vc:CvV c) (ha:c.isArc=true) (pa:GP a) (_pb:GP b) (ea:c.inner a=false):Ok Tryz.prog 305 [.c (.s 2 (aj a++aj b)),.c (.k 222 [.p (aC c)])] [.c (.i .i64 0)]:=by
 refine bX Tryz.func305 rfl ?_
 refine DW.mk<|bn (ι:=Nat) (fun i=>match i with|_=>⟨19,[(0,.v (.c (.s 2 (aj a++aj b)))),(1,.v (.c (.k 222 [.p (aC c)]))),(7,.v (.c (.i .i64 2))),(8,.v (.c (.i .i64 0)))],[]⟩) (fun i=>0-i) 0 (ap ⟨rfl,rfl,rfl,rfl,trivial⟩ trivial rfl) ?_
 intro i
 match i with
 |_=>
  show Dw _ _ ⟨19,[(0,.v (.c (.s 2 (aj a++aj b)))),(1,.v (.c (.k 222 [.p (aC c)]))),(7,.v (.c (.i .i64 2))),(8,.v (.c (.i .i64 0)))],[]⟩ _
  refine nu<|sy rfl<|ar (bI (us:=aj a++aj b) cE rfl rfl (by decide) (rfl) (rfl) rfl) ?_
  refine ar (iK ak bq rfl)<|ar (p9 rfl rfl (fp (c:=true) (acg vc ha pa) (by simp only[ea];rfl)) rfl) ?_
  refine sy rfl ?_
  exact ah (az ae)
theorem abV (vc:CvV c) (ha:c.isArc=true) (pa:GP a) (pb:GP b) (ea:c.inner a=false) (eb:c.inner b=false):OkT Tryz.prog 221 47 2 2 0 (aj a++aj b++[]) (([]:List CellD)++(VT++VT)) [.c (.k 222 [.p (aC c)])]:=by
 refine OkT.of (K:=100000) (by kernel_rfl) Tryz.func221 rfl rfl rfl ?_
 rw[show Tryz.f221.ntmps=42 from rfl]
 refine aa<|ag<|aa<|ag<|ar (Nq (m:=20) (us:=aj a++aj b) rfl rfl rfl rfl rfl (rfl) (fe rfl) (cg _) (by decide) (ado vc ha pa pb ea) rfl) ?_
 refine aa<|aa<|ag<|bz rfl<|aA<|aa<|aa<|ag<|ar (ju (r:=1) rfl rfl rfl rfl) ?_
 refine aE ?_
 refine bn (ι:=Nat) (fun i=>match i with|0=>⟨42,[(0,.o 100000 2 2),(1,.v (.c (.k 222 [.p (aC c)]))),(5,.v (.c (.i .i64 0))),(6,.v (.c (.i .i64 1)))],[(100000,47,aj a++aj b++[])]⟩|_+1=>⟨42,[(0,.o 100000 2 2),(1,.v (.c (.k 222 [.p (aC c)]))),(5,.v (.c (.i .i64 0))),(6,.v (.c (.i .i64 2)))],[(100000,47,aj a++aj b++[])]⟩) (fun i=>1-i) 0 (ap ⟨rfl,rfl,rfl,rfl,trivial⟩ ⟨rfl,trivial⟩ rfl) ?_
 intro i
 match i with
 |0=>
  show Dw _ _ ⟨42,[(0,.o 100000 2 2),(1,.v (.c (.k 222 [.p (aC c)]))),(5,.v (.c (.i .i64 0))),(6,.v (.c (.i .i64 1)))],[(100000,47,aj a++aj b++[])]⟩ _
  refine aa<|aa<|ag<|ar (iq cE rfl rfl) ?_
  refine dO rfl<|aA<|aa<|aE<|aa<|bm<|bU 2<|aU (bo cE rfl rfl (by decide) rfl) ?_
  refine aU (ce (us:=aj b) bq rfl rfl (by rfl) (ak _) rfl) ?_
  refine rZ (jh Ac rfl) rfl<|ed<|aa<|ag ?_
  refine ar (p9 rfl rfl (fp (c:=true) (acg vc ha pb) (by simp only[eb];rfl)) rfl) ?_
  refine bz rfl<|aA<|ag<|ar (ju (r:=2) rfl rfl rfl rfl) ?_
  exact⟨1,ap ⟨rfl,rfl,rfl,rfl,trivial⟩ ⟨rfl,trivial⟩ rfl,by show 1-1<1-0;decide⟩
 |z+1=>
  show Dw _ _ ⟨42,[(0,.o 100000 2 2),(1,.v (.c (.k 222 [.p (aC c)]))),(5,.v (.c (.i .i64 0))),(6,.v (.c (.i .i64 2)))],[(100000,47,aj a++aj b++[])]⟩ _
  refine aa<|aa<|ag<|ar (iq cE rfl rfl) ?_
  refine bz rfl<|bi<|aa<|ag<|ar (rK (q:=0) cE rfl rfl (by decide) (by decide) rfl) ?_
  refine pu (E7 (cs':=([]:List CellD)++(VT++VT)) du rfl rfl (fe rfl) (by rfl) rfl) ?_
  refine aa<|ag<|ar (ou (q:=0) cE rfl rfl (by decide) rfl) ?_
  refine a7 ?_
  exact⟨.inr rfl,rfl,4,rfl,rfl⟩
theorem Et {P:Program}{ops:Array Oper}{os:List Oper}{K:St→Prop}{tm:List (Nat×DV)}{bx:List (Nat×TypeId×List CellD)}{t:Nat}{x y:Operand}{pos:String}{af:Array Edge}{g:Option (Nat×Bool)}{q m by_:Nat}{us ys zs zs':List CellD}
 (hU:tG P U=some (e,m,by_,zs)) (hx:cG (fun s=>aF s tm) x=some (.f 0 us)) (hy:cG (fun s=>aF s tm) y=some (.v (.c (.s q ys)))) (hys:ys.length=q*m) (hq:0<q)
 (hbytes:q*by_≤140737488355328) (h63:q≤maxLen) (hd:aF t bx=none) (hz:ys=zs')
 (hg:gd ops ⟨some t,.call ⟨.builtin .append,#[x,y],#[U,U]⟩,ty,pos,af,g⟩ (fun s=>aF s tm)=some true)
 (hk: ∀c' rest',q≤c'→c'≤maxLen→rest'.length=(c'-q)*m→dl P ops os ⟨N,(t,.o t q c')::tm,(t,e,zs'++rest')::bx⟩ K):
 dl P ops (⟨some t,.call ⟨.builtin .append,#[x,y],#[U,U]⟩,ty,pos,af,g⟩::os) ⟨N,tm,bx⟩ K:=by
 subst hz
 exact .inr ⟨_,Cz hU hx hy hys hq hbytes h63 hd hg,fun σ' ⟨c',rest',h1,h2,h3,e⟩=>by subst e;exact hk c' rest' h1 h2 h3⟩
theorem adg (hl:0<L.length) (lL:L.length≤12):OkN Tryz.prog 306 [.c (.s ((L).length) (ao aj (L)))] 47 L.length 20 (ao aj L) []:=by
 refine OkN.of (by kernel_rfl) Tryz.func306 rfl rfl ?_
 rw[show Tryz.f306.ntmps=8 from rfl]
 refine aa<|ag<|aa<|aa<|bm<|bU 1 ?_
 refine yV cE rfl rfl (fun bz1 hbz1=>?_)
 refine bt ?_
 refine aJ rfl (fun hc2=>?_) (fun hc2=>?_)
 ·exact absurd hc2 (by rw[hbz1 hl];decide)
 ·refine aA<|aa<|ag<|ar (kj du rfl) ?_
  refine DL.mk<|Et (q:=L.length) (ys:=ao aj (L)) (zs':=ao aj L) du rfl rfl (am ak _) (hl) (by omega) (iQ (by omega)) rfl (rfl) rfl (fun cg3 rg3 hga3 hgb3 hgc3=>dZ ?_)
  refine a7 ?_
  exact⟨.inr rfl,2,7,cg3,[],rg3,rfl,rfl,rfl,by omega,by assumption,by assumption,ae⟩
theorem adF:Ok Tryz.prog 306 [.c (.s 0 [])] [.c (.s 0 [])]:=by
 refine eo Tryz.func306 8 [.tmp 2] rfl<|aa<|ag<|aa<|aa<|bm<|bU 1 ?_
 refine yV cE rfl rfl (fun bz1 hbz1=>?_)
 refine bt ?_
 refine aJ rfl (fun hc2=>?_) (fun hc2=>?_)
 ·refine aa<|ag<|a7 ?_
  exact ah (az ae)
 ·refine aA<|aa<|ag<|ar (kj du rfl) ?_
  refine ar (n8 du rfl rfl rfl) ?_
  refine VM (t:=2) rfl<|a7 ?_
  exact ah (az ae)
theorem abX (vc:CvV c) (ha:c.isArc=true) (hn1:1≤L.length) (hn:L.length≤12) (hG: ∀x∈L,GP x):OkS Tryz.prog 380 47 L.length c9 (ao aj L++rs) (ao aj (bp dPt (bT c) L)++rs) [.c (.i .i64 0),.c (.i .i64 (L.length:Int)),.c (.k 308 [.p (aC c)])]:=by
 refine OkS.of (K:=100000) (by kernel_rfl) Tryz.func380 rfl rfl rfl rfl ?_
 rw[show Tryz.f380.ntmps=53 from rfl]
 refine aa<|ag<|ar (ju (r:=1) rfl rfl rfl rfl) ?_
 refine aE<|bn (ι:={p:Nat // 1≤p∧p≤L.length}) (fun i=>⟨53,[(0,.o 100000 L.length c9),(1,.v (.c (.i .i64 0))),(2,.v (.c (.i .i64 (L.length:Int)))),(3,.v (.c (.k 308 [.p (aC c)]))),(8,.v (.c (.i .i64 (i.1:Int))))],[(100000,47,ao aj (UB dPt (bT c) L i.1)++rs)]⟩) (fun i=>L.length-i.1) ⟨1,cg _,hn1⟩ (ap ⟨rfl,rfl,rfl,rfl,rfl,trivial⟩ ⟨congrArg (fun q=>some (47,ao aj q++rs)) ((LD L).symm),trivial⟩ rfl) ?_
 rintro⟨p,h1,h2⟩
 replace h1:1≤p:=h1
 replace h2:p≤L.length:=h2
 dsimp only
 refine aa<|aa<|ag ?_
 refine aJ rfl (fun hc1=>?_) (fun hc1=>?_)
 ·have g1:p<L.length:=by have:=of_decide_eq_true hc1;omega
  have hOl:(bp dPt (bT c) (L.take p)).length=p:=by rw[fL,dH,il h2]
  refine aA<|aa<|aE<|aa<|ag<|aE<|bn (ι:={j:Nat // j≤p∧pM dPt (bT c) (L.getD p dPt) (bp dPt (bT c) (L.take p)) p=pM dPt (bT c) (L.getD p dPt) (bp dPt (bT c) (L.take p)) j}) (fun i=>⟨53,[(0,.o 100000 L.length c9),(1,.v (.c (.i .i64 0))),(2,.v (.c (.i .i64 (L.length:Int)))),(3,.v (.c (.k 308 [.p (aC c)]))),(8,.v (.c (.i .i64 (p:Int)))),(9,.v (.c (.i .i64 (i.1:Int))))],[(100000,47,ao aj (AV (bp dPt (bT c) (L.take p)) (L.drop (p+1)) (L.getD p dPt) i.1)++rs)]⟩) (fun i=>i.1) ⟨p,cg _,rfl⟩ (ap ⟨rfl,rfl,rfl,rfl,rfl,rfl,trivial⟩ ⟨congrArg (fun q=>some (47,ao aj q++rs)) (Ma g1),trivial⟩ rfl) ?_
  rintro⟨j,h3,h4⟩
  replace h3:j≤p:=h3
  replace h4:pM dPt (bT c) (L.getD p dPt) (bp dPt (bT c) (L.take p)) p=pM dPt (bT c) (L.getD p dPt) (bp dPt (bT c) (L.take p)) j:=h4
  dsimp only
  refine aa<|aa<|lX 17 rfl rfl<|cn 3 ?_
  refine ST (bE rfl) (fun c2 hb2=>?_)
  cases c2
  ·have g2:j=0:=by have:=of_decide_eq_false hb2;omega
   refine yW<|dG<|bt<|bz rfl<|bi<|ag<|ar (ca (by omega) rfl) ?_
   exact⟨⟨p+1,by omega,g1⟩,ap ⟨rfl,rfl,rfl,rfl,rfl,trivial⟩ ⟨congrArg (fun q=>some (47,ao aj q++rs)) (zG g1 (h4.trans (FH (.inl g2)))),trivial⟩ rfl,by show L.length-(p+1)<L.length-p;omega⟩
  ·have g2:0<j:=by have:=of_decide_eq_true hb2;omega
   have hjl:j≤(bp dPt (bT c) (L.take p)).length:=by rw[hOl];exact h3
   refine cn 3<|ba (bo cE rfl rfl (by omega) rfl) ?_
   refine ba (ce (us:=aj (L.getD p dPt)) bq rfl rfl ((jP (e:=dPt) (O:=(AV (bp dPt (bT c) (L.take p)) (L.drop (p+1)) (L.getD p dPt) j)) ak (by rw[iH hjl,hOl,fS];omega)).trans (congrArg aj (FX hjl))) (ak _) rfl) ?_
   refine cn 2<|ba (ci (((j-1:Nat):Int)) ((bK (by omega) (by omega)).trans (congrArg some (by omega))) rfl)<|ba (bo cE rfl rfl (by omega) rfl) ?_
   refine ba (ce (us:=aj ((bp dPt (bT c) (L.take p)).getD (j-1) dPt)) bq rfl rfl ((jP (e:=dPt) (O:=(AV (bp dPt (bT c) (L.take p)) (L.drop (p+1)) (L.getD p dPt) j)) ak (by rw[iH hjl,hOl,fS];omega)).trans (congrArg aj (FT g2 hjl))) (ak _) rfl) ?_
   refine ba (p9 rfl rfl (acq vc ha (hG _ (bd g1)) (hG _ (Cm ((kU _).mem_iff.1 (bd (show j-1<(bp dPt (bT c) (L.take p)).length by rw[hOl];omega)))))) rfl) ?_
   refine yW<|dG<|bt ?_
   refine aJ rfl (fun hc3=>?_) (fun hc3=>?_)
   ·have g3:(bT c) (L.getD p dPt) ((bp dPt (bT c) (L.take p)).getD (j-1) dPt)<0:=of_decide_eq_true hc3
    refine aA<|aa<|aE<|pQ 16 [100000,999999] dP (by kernel_rfl) rfl rfl<|cn 4<|ba (ci (((j-1:Nat):Int)) ((bK (by omega) (by omega)).trans (congrArg some (by omega))) rfl)<|cn 2<|ba (ci (((j-1:Nat):Int)) ((bK (by omega) (by omega)).trans (congrArg some (by omega))) rfl)<|ba (bo cE rfl rfl (by omega) rfl) ?_
    refine DO (by kernel_rfl) (ce (us:=aj ((bp dPt (bT c) (L.take p)).getD (j-1) dPt)) bq rfl rfl ((jP (e:=dPt) (O:=(AV (bp dPt (bT c) (L.take p)) (L.drop (p+1)) (L.getD p dPt) j)) ak (by rw[iH hjl,hOl,fS];omega)).trans (congrArg aj (FT g2 hjl))) (ak _) rfl) ?_
    refine cn 2<|ba (bo cE rfl rfl (by omega) rfl) ?_
    refine DO (by kernel_rfl) (ce (us:=aj (L.getD p dPt)) bq rfl rfl ((jP (e:=dPt) (O:=(AV (bp dPt (bT c) (L.take p)) (L.drop (p+1)) (L.getD p dPt) j)) ak (by rw[iH hjl,hOl,fS];omega)).trans (congrArg aj (FX hjl))) (ak _) rfl) ?_
    refine ba (bo cE rfl rfl (by omega) rfl) ?_
    refine iE (aY (us:=ao aj ((AV (bp dPt (bT c) (L.take p)) (L.drop (p+1)) (L.getD p dPt) j).set j ((bp dPt (bT c) (L.take p)).getD (j-1) dPt))++rs) bq rfl rfl rfl (ak _) (by rw[dt,am ak,iH hjl,hOl,fS];omega) (wD ak (by rw[iH hjl,hOl,fS];omega) _) rfl) rfl rfl rfl rfl ?_
    refine ln<|tv<|aU (bo cE rfl rfl (by omega) rfl) ?_
    refine gi (aY (us:=ao aj (((AV (bp dPt (bT c) (L.take p)) (L.drop (p+1)) (L.getD p dPt) j).set j ((bp dPt (bT c) (L.take p)).getD (j-1) dPt)).set (j-1) (L.getD p dPt))++rs) bq rfl rfl rfl (ak _) (by rw[dt,am ak,xI,iH hjl,hOl,fS];omega) (wD ak (by rw[xI,iH hjl,hOl,fS];omega) _) rfl) ?_
    refine bt<|ag<|ar (ci (((j-1:Nat):Int)) ((bK (by omega) (by omega)).trans (congrArg some (by omega))) rfl) ?_
    exact⟨⟨j-1,by omega,h4.trans (Sa g2 g3)⟩,ap ⟨rfl,rfl,rfl,rfl,rfl,rfl,trivial⟩ ⟨congrArg (fun q=>some (47,ao aj q++rs)) (Rt g2 hjl),trivial⟩ rfl,by show j-1<j;omega⟩
   ·have g3: ¬(bT c) (L.getD p dPt) ((bp dPt (bT c) (L.take p)).getD (j-1) dPt)<0:=of_decide_eq_false hc3
    refine bi<|ag<|ar (ca (by omega) rfl) ?_
    exact⟨⟨p+1,by omega,g1⟩,ap ⟨rfl,rfl,rfl,rfl,rfl,trivial⟩ ⟨congrArg (fun q=>some (47,ao aj q++rs)) (zG g1 (h4.trans (FH (.inr g3)))),trivial⟩ rfl,by show L.length-(p+1)<L.length-p;omega⟩
 ·have hp:p=L.length:=by have:=of_decide_eq_false hc1;omega
  refine bi ?_
  exact⟨.inl rfl,congrArg (fun q=>some (47,ao aj q++rs)) (by rw[hp,Mg])⟩
theorem aax (vc:CvV c) (ha:c.isArc=true) (hn1:1≤L.length) (hn:L.length≤12) (hG: ∀x∈L,GP x):OkS Tryz.prog 356 47 L.length c9 (ao aj L++rs) (ao aj (bp dPt (bT c) L)++rs) [.c (.i .i64 (L.length:Int)),.c (.k 308 [.p (aC c)])]:=by
 refine OkS.of (K:=100000) (by kernel_rfl) Tryz.func356 rfl rfl rfl rfl ?_
 rw[show Tryz.f356.ntmps=63 from rfl]
 refine aa<|ag<|aa<|ag<|aa<|aE ?_
 refine bn (ι:=Nat) (fun i=>match i with|_=>⟨63,[(0,.o 100000 L.length c9),(1,.v (.c (.i .i64 (L.length:Int)))),(2,.v (.c (.k 308 [.p (aC c)]))),(6,.v (.c (.i .i64 20))),(7,.v (.c (.i .i64 0))),(8,.v (.c (.i .i64 20)))],[(100000,47,ao aj L++rs)]⟩) (fun i=>0-i) 0 (ap ⟨rfl,rfl,rfl,rfl,rfl,rfl,trivial⟩ ⟨rfl,trivial⟩ rfl) ?_
 intro i
 match i with
 |_=>
  show Dw _ _ ⟨63,[(0,.o 100000 L.length c9),(1,.v (.c (.i .i64 (L.length:Int)))),(2,.v (.c (.k 308 [.p (aC c)]))),(6,.v (.c (.i .i64 20))),(7,.v (.c (.i .i64 0))),(8,.v (.c (.i .i64 20)))],[(100000,47,ao aj L++rs)]⟩ _
  refine aa<|aa<|bm<|bU 2<|aU (a8 (c:=false) (fh rfl) (decide_eq_false (by omega))) ?_
  refine bt<|bz rfl<|bi<|aa<|ag ?_
  refine DL.mk<|sO (kP rfl rfl rfl rfl rfl (abX vc ha hn1 hn hG) rfl)<|dZ ?_
  refine aE ?_
  refine bn (ι:=Nat) (fun i=>match i with|_=>⟨63,[(0,.o 100000 L.length c9),(1,.v (.c (.i .i64 (L.length:Int)))),(2,.v (.c (.k 308 [.p (aC c)]))),(6,.v (.c (.i .i64 20))),(7,.v (.c (.i .i64 0))),(8,.v (.c (.i .i64 20)))],[(100000,47,ao aj (bp dPt (bT c) L)++rs)]⟩) (fun i=>0-i) 0 (ap ⟨rfl,rfl,rfl,rfl,rfl,rfl,trivial⟩ ⟨rfl,trivial⟩ rfl) ?_
  intro i
  match i with
  |_=>
   show Dw _ _ ⟨63,[(0,.o 100000 L.length c9),(1,.v (.c (.i .i64 (L.length:Int)))),(2,.v (.c (.k 308 [.p (aC c)]))),(6,.v (.c (.i .i64 20))),(7,.v (.c (.i .i64 0))),(8,.v (.c (.i .i64 20)))],[(100000,47,ao aj (bp dPt (bT c) L)++rs)]⟩ _
   refine aa<|aa<|bm<|bU 2<|aU (a8 (c:=false) (fh rfl) (decide_eq_false (by omega))) ?_
   refine bt<|bz rfl<|bi ?_
   exact⟨.inl rfl,rfl⟩
theorem acz (vc:CvV c) (ha:c.isArc=true) (hn1:1≤L.length) (hn:L.length≤12) (hG: ∀x∈L,GP x):OkS Tryz.prog 307 47 L.length c9 (ao aj L++rs) (ao aj (bp dPt (bT c) L)++rs) [.c (.k 308 [.p (aC c)])]:=by
 refine OkS.of (K:=100000) (by kernel_rfl) Tryz.func307 rfl rfl rfl rfl ?_
 rw[show Tryz.f307.ntmps=9 from rfl]
 refine ag<|ar (iq cE rfl rfl) ?_
 refine DL.mk<|sO (kP rfl rfl rfl rfl rfl (aax vc ha hn1 hn hG) rfl)<|dZ ?_
 exact⟨.inl rfl,rfl⟩
theorem Xz:Ok Tryz.prog 380 [.c (.s 0 []),.c (.i .i64 0),.c (.i .i64 0),.c (.k 308 [.p (aC c)])] []:=by
 refine bX Tryz.func380 rfl<|ar (ju (r:=1) rfl rfl rfl rfl) ?_
 refine DW.mk<|bn (ι:=Nat) (fun i=>match i with|_=>⟨53,[(0,.v (.c (.s 0 []))),(1,.v (.c (.i .i64 0))),(2,.v (.c (.i .i64 0))),(3,.v (.c (.k 308 [.p (aC c)]))),(8,.v (.c (.i .i64 1)))],[]⟩) (fun i=>0-i) 0 (ap ⟨rfl,rfl,rfl,rfl,rfl,trivial⟩ trivial rfl) ?_
 intro i
 match i with
 |_=>
  show Dw _ _ ⟨53,[(0,.v (.c (.s 0 []))),(1,.v (.c (.i .i64 0))),(2,.v (.c (.i .i64 0))),(3,.v (.c (.k 308 [.p (aC c)]))),(8,.v (.c (.i .i64 1)))],[]⟩ _
  refine nu<|sb rfl ?_
  exact I0 ae
theorem YT:Ok Tryz.prog 356 [.c (.s 0 []),.c (.i .i64 0),.c (.k 308 [.p (aC c)])] []:=by
 refine bX Tryz.func356 rfl ?_
 refine DW.mk<|bn (ι:=Nat) (fun i=>match i with|_=>⟨63,[(0,.v (.c (.s 0 []))),(1,.v (.c (.i .i64 0))),(2,.v (.c (.k 308 [.p (aC c)]))),(6,.v (.c (.i .i64 20))),(7,.v (.c (.i .i64 0))),(8,.v (.c (.i .i64 20)))],[]⟩) (fun i=>0-i) 0 (ap ⟨rfl,rfl,rfl,rfl,rfl,rfl,trivial⟩ trivial rfl) ?_
 intro i
 match i with
 |_=>
  show Dw _ _ ⟨63,[(0,.v (.c (.s 0 []))),(1,.v (.c (.i .i64 0))),(2,.v (.c (.k 308 [.p (aC c)]))),(6,.v (.c (.i .i64 20))),(7,.v (.c (.i .i64 0))),(8,.v (.c (.i .i64 20)))],[]⟩ _
  refine nu<|sb rfl<|ac rfl (Xz) ?_
  refine DW.mk<|bn (ι:=Nat) (fun i=>match i with|_=>⟨63,[(0,.v (.c (.s 0 []))),(1,.v (.c (.i .i64 0))),(2,.v (.c (.k 308 [.p (aC c)]))),(6,.v (.c (.i .i64 20))),(7,.v (.c (.i .i64 0))),(8,.v (.c (.i .i64 20)))],[]⟩) (fun i=>0-i) 0 (ap ⟨rfl,rfl,rfl,rfl,rfl,rfl,trivial⟩ trivial rfl) ?_
  intro i
  match i with
  |_=>
   show Dw _ _ ⟨63,[(0,.v (.c (.s 0 []))),(1,.v (.c (.i .i64 0))),(2,.v (.c (.k 308 [.p (aC c)]))),(6,.v (.c (.i .i64 20))),(7,.v (.c (.i .i64 0))),(8,.v (.c (.i .i64 20)))],[]⟩ _
   refine nu<|sb rfl ?_
   exact I0 ae
theorem Xx:Ok Tryz.prog 307 [.c (.s 0 []),.c (.k 308 [.p (aC c)])] []:=by
 refine bX Tryz.func307 rfl ?_
 refine ac rfl (YT) ?_
 exact I0 ae
theorem ad2 (hS: ∀p∈S,GP p) (lS:S.length≤12) (hne: ∀i,i+1<S.length→cP (S.getD (i+1) dPt) (S.getD i dPt)≠0):Ok Tryz.prog 310 [.c (.s ((S).length) (ao aj (S))),.c (.f 220)] [.c (.s ((S).length) (ao aj (S)))]:=by
 refine bX Tryz.func310 rfl ?_
 refine dk rfl (fun hc1=>?_) (fun hc1=>?_)
 ·exact ah (az ae)
 ·refine DW.mk<|bn (ι:={n:Nat // n+1≤S.length∨n=0}) (fun i=>⟨66,[(0,.v (.c (.s ((S).length) (ao aj (S))))),(1,.v (.c (.f 220))),(5,.v (.c (.i .i64 (((i.1+1:Nat):Int)))))],[]⟩) (fun i=>S.length-i.1) ⟨0,.inr rfl⟩ (ap ⟨rfl,rfl,rfl,trivial⟩ trivial rfl) ?_
  rintro⟨n,h2⟩
  replace h2:n+1≤S.length∨n=0:=h2
  dsimp only
  refine nu ?_
  refine dk rfl (fun hc2=>?_) (fun hc2=>?_)
  ·have g1:n+1<S.length:=by have:=of_decide_eq_true hc2;omega
   refine cJ 11 []<|aq (bI (us:=aj (S.getD (n+1) dPt)++ao aj (S.drop ((n+1)+1))) cE rfl rfl (by omega) (am ak _) (iY ak (eB g1)) rfl) ?_
   refine aq (iK ak bq rfl)<|aq (ci (((n:Nat):Int)) ((bK (by omega) (by omega)).trans (congrArg some (by omega))) rfl)<|aq (bI (us:=aj (S.getD n dPt)++ao aj (S.drop (n+1))) cE rfl rfl (by omega) (am ak _) (iY ak (eB (by omega))) rfl) ?_
   refine aq (iK ak bq rfl)<|aK rfl (fp (c:=false) (yN (GP.getD hS (n+1)) (GP.getD hS n)) (beq_eq_false_iff_ne.2 (hne n g1)))<|sb rfl<|ar (ci (((n+1+1:Nat):Int)) ((bh (by omega) (by omega)).trans (congrArg some (by omega))) rfl) ?_
   exact⟨⟨n+1,.inl g1⟩,ap ⟨rfl,rfl,rfl,trivial⟩ trivial rfl,by show S.length-(n+1)<S.length-n;omega⟩
  ·exact ah (az ae)
theorem wz (c:Cv) (q:Pt):(aC c).take 46++aj q++(aC c).drop (46+20)=aC (c.ends c.p q):=by cases c<;>rfl
theorem NC (c:Cv):c.ends c.p c.q=c:=by cases c<;>rfl
theorem EH (c:Cv) (x q P:Pt):(c.ends x q).ends (c.ends x q).p P=c.ends x P:=by cases c<;>rfl
theorem EA (c:Cv) (x q P:Pt):(c.ends x q).setp P=c.ends P q:=by cases c<;>rfl
theorem P4 (h:c.inner p=true):c.on p=true:=by unfold Cv.inner at h;rw[dL] at h;exact h.1
theorem OM (hc:c.good) (hp:GP p) (h:c.inner p=true):cP p c.p≠0∧cP p c.q≠0:=by
 unfold Cv.inner at h
 have h1:=fH (cm (iT hc)) (cm hp)
 have h2:=fH (cm (sv hc)) (cm hp)
 grind
def Jw (R:List Cv) (n:Nat):List Cv:=(R.take n).map Cv.fwd++R.drop n
section
variable {R:List Cv}{n:Nat}
theorem zV (h:n≤R.length):(Jw R n).length=R.length:=by unfold Jw;rw[dt,oN,dH,fS];omega
theorem Pf (h:n<R.length):(Jw R n).getD n aX=R.getD n aX:=by
 unfold Jw
 grind
theorem MR (h:n<R.length):(Jw R n).set n (R.getD n aX).fwd=Jw R (n+1):=by
 unfold Jw
 have hl:((R.take n).map Cv.fwd).length=n:=by grind
 rw[List.set_append_right _ _ (by omega),hl,Nat.sub_self,qj (d:=aX) h,oZ,nk,pq h]
 rfl
theorem Pu (h:n<R.length) (e:(R.getD n aX).fwd=R.getD n aX):Jw R n=Jw R (n+1):=by
 rw[←MR h,e]
 apply List.ext_getElem?
 intro j
 rw[List.getElem?_set]
 split
 ·rename_i g
  subst g
  rw[if_pos (by rw[zV (Nat.le_of_lt h)];exact h),←Pf h,eB (by rw[zV (Nat.le_of_lt h)];exact h)]
 ·rfl
theorem VD:Jw R R.length=R.map Cv.fwd:=by unfold Jw;simp
theorem acJ:Jw R 0=R:=by unfold Jw;simp
end
theorem Ws (hk:GK k) (h0:0<k.q):cP (jT k) (jE k)≠0:=fun e=>by
 have h1:=(eP.1 e).1
 have kL:=Ra (k:=k) h0
 have kR:=Sx (k:=k) h0
 rcases Gi (uY hk h0) (v8 hk h0) kL.1 kL.2 with⟨_,b,_⟩|⟨_,b⟩
 ·have:=kR.2;omega
 ·omega
def pA (kf kt:Fin 4) (i:Int):Bool:=uO kt kf i&& !(uK kt==uK kf&&i==0)
def pB (kf kt kx:Fin 4) (i j d:Int):Bool:=uO kx kf j&&(uO kx kt d&&(G6 j i d&&cwP kf kx kt j i d))
def pC (kx ky:Fin 4) (j l d e g:Int):Bool:=uO kx ky g&&(G6 j l g&&G6 d e g)
set_option maxRecDepth 1000000 in
theorem NJ: ∀(kf kt:Fin 4) (i:Fin 3),pA kf kt (i3 i)=true→ ∀(kx:Fin 4) (j d:Fin 3),pB kf kt kx (i3 i) (i3 j) (i3 d)=true→ ∀(ky:Fin 4) (l e:Fin 3),pB kf kt ky (i3 i) (i3 l) (i3 e)=true→ ∀g:Fin 3,pC kx ky (i3 j) (i3 l) (i3 d) (i3 e) (i3 g)=true→
 GM (Dn (uF kx) (uF kf) (-(i3 j))) (Dn (uF ky) (uF kf) (-(i3 l))) (Dn (uF kx) (uF ky) (-(i3 g)))= -vx (BI (uK kx) (uK kt) (i3 d)) (BI (uK ky) (uK kt) (i3 e)) (BI (uK kx) (uK ky) (i3 g)):=by decide+kernel
theorem YH {x y:Pt}(h0:0<k.q) (of:OnK k f) (ot:OnK k t) (ox:OnK k x) (oy:OnK k y) (hne:cP f t≠0) (hx:(Cv.arc k true f t).on x=true) (hy:(Cv.arc k true f t).on y=true):(Cv.arc k true f t).ord x y= -yA k t x y:=by
 have cf:=bk of
 have ct:=bk ot
 have cx':=bk ox
 have cy':=bk oy
 rw[DE (b5.2 ox.2)] at hx
 rw[DE (b5.2 oy.2)] at hy
 have hx:(decide ((Cv.arc k true f t).ord f x≤0)&&decide ((Cv.arc k true f t).ord x t≤0))=true:=hx
 have hy:(decide ((Cv.arc k true f t).ord f y≤0)&&decide ((Cv.arc k true f t).ord y t≤0))=true:=hy
 rw[Ei h0 of ot ox] at hx
 rw[Ei h0 of ot oy] at hy
 have t1:=j6 cf cx' ct
 have t2:=j6 cf cy' ct
 have t3:=j6 cf cx' cy'
 have t4:=j6 ct cx' cy'
 have m1:=iv h0 ot of
 have m2:=iv h0 ox of
 have m3:=iv h0 ox ot
 have m4:=iv h0 oy of
 have m5:=iv h0 oy ot
 have m6:=iv h0 ox oy
 have hn:(uK (kd k t)==uK (kd k f)&&cx t f==0)=false:=by
  rw[←fP,←fP]
  cases h:(lj k t==lj k f&&cx t f==0) with
  |false=>rfl
  |true=>exact absurd (zT h0 ot of h) (fun e=>hne (by rw[fH ct cf,e];rfl))
 have e1:yA k t x f=vx (BI (uK (kd k x)) (uK (kd k t)) (cx x t)) (BI (uK (kd k f)) (uK (kd k t)) (-cx t f)) (BI (uK (kd k x)) (uK (kd k f)) (cx x f)):=by
  unfold yA ov;rw[fP,fP,fP,ef ct cf]
 have e2:yA k t y f=vx (BI (uK (kd k y)) (uK (kd k t)) (cx y t)) (BI (uK (kd k f)) (uK (kd k t)) (-cx t f)) (BI (uK (kd k y)) (uK (kd k f)) (cx y f)):=by
  unfold yA ov;rw[fP,fP,fP,ef ct cf]
 rw[e1] at hx
 rw[e2] at hy
 show sB k.mir f.flip x.flip y.flip=_
 rw[s8,fB,fB,fB,nl cx' cf,nl cy' cf,nl cx' cy',tj h0 of,tj h0 ox,tj h0 oy]
 unfold yA ov
 rw[fP,fP,fP]
 obtain⟨i,hi⟩:=fU (fE t f)
 obtain⟨j,hj⟩:=fU (fE x f)
 obtain⟨l,hl⟩:=fU (fE y f)
 obtain⟨d,hd⟩:=fU (fE x t)
 obtain⟨e,he⟩:=fU (fE y t)
 obtain⟨g,hg⟩:=fU (fE x y)
 rw[hi] at t1 t2 m1 hn hx hy
 rw[hj] at t1 t3 m2 hx⊢
 rw[hl] at t2 t3 m4 hy⊢
 rw[hd] at t1 t4 m3 hx⊢
 rw[he] at t2 t4 m5 hy⊢
 rw[hg] at t3 t4 m6⊢
 exact NJ _ _ i (by unfold pA;rw[m1,hn];rfl) _ j d (by unfold pB cwP;rw[m2,m3,t1,hx];rfl) _ l e (by unfold pB cwP;rw[m4,m5,t2,hy];rfl) g (by unfold pC;rw[m6,t3,t4];rfl)
theorem Af {x:Pt}(gx:GP x) (h:(Cv.arc k w f t).on x=true):OnK k x:=⟨gx,b5.1 (FQ h)⟩
theorem Ud (vc:CvV c) (ha:c.isArc=true) {x y:Pt}(gx:GP x) (gy:GP y) (hx:c.on x=true) (hy:c.on y=true):bT c x y=c.ord x y:=by
 cases c with
 |seg l f t=>cases ha
 |arc k w f t=>
  cases w with
  |true=>exact(YH vc.pos ⟨vc.g.2.1,b5.1 vc.sp⟩ ⟨vc.g.2.2,b5.1 vc.sq⟩ (Af gx hx) (Af gy hy) vc.ne hx hy).symm
  |false=>exact(Ua vc.g.2.1 gx gy).symm
theorem CZ {α:Type}{r:α→α→Prop}: ∀ {A B:List α},(∀a∈A,∀b∈A,r a b→ ¬r b a)→A.Perm B→A.Pairwise r→B.Pairwise r→A=B
 |[],B,_,h,_,_=>h.nil_eq
 |a::A,[],_,h,_,_=>absurd h.length_eq (by simp)
 |a::A,b::B,hs9,h,hA,hB=>by
  have hab:a=b:=by
   apply gg
   intro hn
   have h1:a∈B:=(dD.1 (h.mem_iff.1 fO)).resolve_left hn
   have h2:b∈A:=(dD.1 (h.mem_iff.2 fO)).resolve_left (Ne.symm hn)
   exact hs9 a fO b (fC _ h2) ((lg.1 hA).1 b h2) ((lg.1 hB).1 a h1)
  subst hab
  rw[CZ (fun x hx y hy=>hs9 x (fC _ hx) y (fC _ hy)) h.cons_inv (lg.1 hA).2 (lg.1 hB).2]
section
variable {k:Ci}{w:Bool}{f t:Pt}(vc:CvV (.arc k w f t))
include vc
theorem D7:OnK k f∧OnK k t:=⟨⟨vc.g.2.1,b5.1 vc.sp⟩,⟨vc.g.2.2,b5.1 vc.sq⟩⟩
theorem JQ {x y:Pt}(ox:OnK k x) (oy:OnK k y) (h:(Cv.arc k w f t).ord x y≤0) (hne:cP x y≠0):(Cv.arc k w f t).ord x y<0:=by
 have:(Cv.arc k w f t).ord x y≠0:=fun e=>hne (uW vc.pos (D7 vc).1 ox oy e)
 omega
end
theorem Lp: ∀ {L:List Pt},(∀a∈L,∀b∈L,cP a b=0→cP b a=0)→L.Pairwise (fun a b=>cP a b≠0)→ ∀a∈L,∀b∈L,cP a b=0→a=b
 |[],_,_,_,h,_,_,_=>by cases h
 |x::L,hs,h,a,ha,b,hb,e=>by
  obtain⟨h1,h2⟩:=lg.1 h
  rcases dD.1 ha with rfl|ha'
  ·rcases dD.1 hb with rfl|hb'
   ·rfl
   ·exact absurd e (h1 b hb')
  ·rcases dD.1 hb with rfl|hb'
   ·exact absurd (hs a ha b hb e) (h1 a ha')
   ·exact Lp (fun a ha b hb=>hs a (fC _ ha) b (fC _ hb)) h2 a ha' b hb' e
theorem BA (h:aT x=0) (g:aT y=0):aT (x+y)=0:=by rw[ng h,g]
theorem te (y:Re) (h:aT x=0):aT (y*x)=0:=by rw[bH,h,pF]
theorem CF (h:aT x=0):aT (-x)=0:=by rw[cj,h];rfl
theorem adO {x y:Rat}(h:aT (Re.of x-Re.of y)=0):x=y:=by
 rw[←BK] at h
 have:aM (x-y) 0=0:=by rw[oK];exact h
 have:=AH.1 this
 grind
theorem aaD (h:aT (x*y)=0) (hx:aT x≠0):aT y=0:=by
 rw[bH] at h
 exact(v6.1 h).resolve_left hx
theorem PM {x y:Rat}(h:Ad x y=true):x=y:=by
 have:=beq_iff_eq.1 h
 rw[BK] at this
 exact adO this
def eqC (c d:Cv):Bool:=Qc c d&&((c.cw==d.cw)&&(cP c.p d.p==0&&cP c.q d.q==0))
theorem wF {z:Re}(e:x-y=z) (hz:aT z=0):aT x=aT y:=dV (by rw[e];exact hz)
theorem WM (h:aT x=0) (g:aT y=0):aT (x-y)=0:=BA h (CF g)
theorem LF {p q:Re}(hp:0≤aT p) (hq:0≤aT q) (h:aT (q*q-p*p)=0):aT (q-p)=0:=by
 rcases bJ (q+p) with e|e|e
 ·refine aaD (x:=q+p) ?_ (by rw[e];decide)
  rw[show(q+p)*(q-p)=q*q-p*p from(br fun n=>by simp only[aQ,aI,aR];grind)];exact h
 ·have h1:aT q=0:=by
   apply gg
   intro hn
   have:=DI (x:=q) (y:=p) (by omega) hp
   omega
  have h2:aT p=0:=by rw[←ng h1 p];exact e
  exact WM h1 h2
 ·have:=qB hq hp;omega
theorem aaP {c:Rat}(h0:0<c) (hs:je c=true):aT (Re.of (rt c)-Re.rt c)=0:=by
 refine LF (xy c) ?_ ?_
 ·rw[cV];exact kJ (EI c)
 ·rw[wF (y:=Re.of (rt c*rt c)-Re.of c) (z:= -(Re.rt c*Re.rt c-Re.of c)) ((br fun n=>by simp only[aI,aR,bc,bD];grind)) (CF (oE (Rat.le_of_lt h0))),Kw h0 hs]
  exact sI _
theorem K6 {a1 b1 a2 b2 c:Rat}(h0:0<c):aT (pX (fV a1 b1 a2 b2 c)-(Re.of a1+Re.of b1*Re.rt c))=0∧aT (pY (fV a1 b1 a2 b2 c)-(Re.of a2+Re.of b2*Re.rt c))=0:=by
 cases hs:je c with
 |true=>
  have e:fV a1 b1 a2 b2 c=⟨a1+b1*rt c,0,a2+b2*rt c,0,0⟩:=by unfold fV;rw[hs];rfl
  have hr:=aaP h0 hs
  rw[e]
  refine⟨?_,?_⟩
  ·show aT (xB (a1+b1*rt c) 0 0-_)=0
   rw[qm,show Re.of (a1+b1*rt c)+Re.of 0*Re.rt 0-(Re.of a1+Re.of b1*Re.rt c)=Re.of b1*(Re.of (rt c)-Re.rt c) from(br fun n=>by simp only[aQ,aI,aR,bc];grind)]
   exact te _ hr
  ·show aT (xB (a2+b2*rt c) 0 0-_)=0
   rw[qm,show Re.of (a2+b2*rt c)+Re.of 0*Re.rt 0-(Re.of a2+Re.of b2*Re.rt c)=Re.of b2*(Re.of (rt c)-Re.rt c) from(br fun n=>by simp only[aQ,aI,aR,bc];grind)]
   exact te _ hr
 |false=>
  have e:fV a1 b1 a2 b2 c=⟨a1,b1,a2,b2,c⟩:=by unfold fV;rw[hs];rfl
  rw[e]
  refine⟨?_,?_⟩
  ·show aT (xB a1 b1 c-_)=0
   rw[qm];exact sI _
  ·show aT (xB a2 b2 c-_)=0
   rw[qm];exact sI _
end Go.Proofs.YtegpmhlfjkhjmaaGreat
