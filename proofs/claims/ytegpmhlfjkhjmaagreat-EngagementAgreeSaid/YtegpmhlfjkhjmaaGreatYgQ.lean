/-Points of an arc that are kept:the program. -/
import Derived.Test.YtegpmhlfjkhjmaaGreatYgP
namespace Go.Proofs.YtegpmhlfjkhjmaaGreat
open Go Go.RowKit
variable {w:Bool}{k:Ci}{c:Cv}{rs:List CellD}{L S:List Pt}{N c9:Nat}{a b f p q t:Pt}{x y:Re}{U e ty:TypeId}
theorem n7:type_of% @Rat.le_of_lt:=@Rat.le_of_lt
theorem XN (hk:GK k) (hf:GP f) (ht:GP t) (hp:GP p) (hq:GP q):Ok Tryz.prog 309 [.a (([.b true]++mw++bo k++[.b w]++ai f++ai t)),.a (ai p),.a (ai q)] [.c (.i .i64 (br (Cv.arc k w f t) p q))]:=by
 have b1:=Vi k t p q
 refine bW Tryz.func309 rfl ?_
 refine ar (gn mv rfl) ?_
 refine qg rfl ?_
 refine ar (gn mv rfl) ?_
 refine df rfl (fun hc1=>?_) (fun hc1=>?_)
 ·refine ar (co (bo k) sI rfl (by kernel_rfl)) ?_
  refine ar (co (ai t) bE rfl (by kernel_rfl)) ?_
  refine ac rfl (Eg hk ht hp hq) ?_
  refine ar (fi (r:= -xn k t p q) rfl (Ad b1) rfl) ?_
  refine ah ?_
  rw[show br (Cv.arc k w f t) p q= -xn k t p q from if_pos hc1]
  exact ak aa
 ·refine ar (co (bo k) sI rfl (by kernel_rfl)) ?_
  refine ar (co (ai f) bE rfl (by kernel_rfl)) ?_
  refine ac rfl (Eg hk hf hp hq)<|ah ?_
  rw[show br (Cv.arc k w f t) p q=xn k f p q from if_neg (by rw[hc1];decide)]
  exact ak aa
theorem Vm (vc:CvV c) (ha:c.isArc=true) (hp:GP p) (hq:GP q):Ok Tryz.prog 309 [.a (aG c),.a (ai p),.a (ai q)] [.c (.i .i64 (br c p q))]:=by
 cases c with
 |seg l f t=>cases ha
 |arc k w f t=>exact XN vc.g.1 vc.g.2.1 vc.g.2.2 hp hq
theorem H2 (vc:CvV c) (ha:c.isArc=true) (hp:GP p):Ok Tryz.prog 123 [.a (aG c),.a (ai p)] [.c (.b (c.on p))]:=by
 cases c with
 |seg l f t=>cases ha
 |arc k w f t=>exact TQ vc.g.1 vc.pos ⟨vc.g.2.1,bH.1 vc.sp⟩ ⟨vc.g.2.2,bH.1 vc.sq⟩ hp
theorem ZT (vc:CvV c) (ha:c.isArc=true) (hp:GP p):Ok Tryz.prog 223 [.a (aG c),.a (ai p)] [.c (.b (c.inner p))]:=by
 cases c with
 |seg l f t=>cases ha
 |arc k w f t=>exact PU vc.g.1 vc.pos ⟨vc.g.2.1,bH.1 vc.sp⟩ ⟨vc.g.2.2,bH.1 vc.sq⟩ hp
theorem YA (vc:CvV c) (ha:c.isArc=true) (hp:GP p) (hq:GP q):Ok Tryz.prog 308 [.a (ai p),.a (ai q),.c (.p (aG c))] [.c (.i .i64 (br c p q))]:=by
 refine bW Tryz.func308 rfl<|ar (lp (us:=aG c) bT rfl (jY (tS (aj _))) (aj _) rfl) ?_
 refine ac rfl (Vm vc ha hp hq) ?_
 exact ah (ak aa)
theorem abK (vc:CvV c) (ha:c.isArc=true) (hp:GP p):Ok Tryz.prog 218 [.a (ai p),.c (.p (aG c))] [.c (.b (!c.on p))]:=by
 refine bW Tryz.func218 rfl<|ar (lp (us:=aG c) bT rfl (jY (tS (aj _))) (aj _) rfl) ?_
 refine ac rfl (H2 vc ha hp) ?_
 exact ah (ak aa)
theorem aae (vc:CvV c) (ha:c.isArc=true) (hp:GP p):Ok Tryz.prog 222 [.a (ai p),.c (.p (aG c))] [.c (.b (!c.inner p))]:=by
 refine bW Tryz.func222 rfl<|ar (lp (us:=aG c) bT rfl (jY (tS (aj _))) (aj _) rfl) ?_
 refine ac rfl (ZT vc ha hp) ?_
 exact ah (ak aa)
theorem aaQ (vc:CvV c) (ha:c.isArc=true) (hL: ∀p∈L,GP p) (lL:L.length≤12) (hq: ∀p∈L,c.on p=true):Ok Tryz.prog 305 [.c (.s ((L).length) (aJ ai (L))),.c (.k 218 [.p (aG c)])] [.c (.i .i64 (-1))]:=by
 refine bW Tryz.func305 rfl ?_
 refine DW.mk<|bF (ι:={n:Nat // n≤L.length}) (fun i=>⟨19,[(0,.v (.c (.s ((L).length) (aJ ai (L))))),(1,.v (.c (.k 218 [.p (aG c)]))),(7,.v (.c (.i .i64 (L.length:Int)))),(8,.v (.c (.i .i64 (i.1:Int))))],[]⟩) (fun i=>L.length-i.1) ⟨0,ju _⟩ (aA ⟨rfl,rfl,rfl,rfl,trivial⟩ trivial rfl) ?_
 rintro⟨n,h2⟩
 replace h2:n≤L.length:=h2
 dsimp only
 refine nZ ?_
 refine df rfl (fun hc1=>?_) (fun hc1=>?_)
 ·have g1:n<L.length:=by have:=of_decide_eq_true hc1;omega
  refine ar (tX dPt aT g1 fD rfl)<|ar (qh aT bE rfl)<|ar (oV rfl rfl (eG (c:=false) (abK vc ha (hL _ (bJ g1))) (by simp only[hq _ (bJ g1)];rfl)) rfl) ?_
  refine qg rfl<|ar (eu (by omega) rfl) ?_
  exact⟨⟨n+1,g1⟩,aA ⟨rfl,rfl,rfl,rfl,trivial⟩ trivial rfl,by show L.length-(n+1)<L.length-n;omega⟩
 ·exact ah (ak aa)
theorem abt (vc:CvV c) (ha:c.isArc=true) (hL: ∀p∈L,GP p) (lL:L.length≤12) (hq: ∀p∈L,c.on p=true):Ok Tryz.prog 217 [.c (.s ((L).length) (aJ ai (L))),.c (.k 218 [.p (aG c)])] [.c (.b false)]:=by
 refine ex Tryz.func217 9 [.tmp 4] rfl<|ae<|ag<|ae<|bz<|bQ 2<|aW (cb rfl (aaQ vc ha hL lL hq))<|aW (aU (c:=false) (ew rfl) (by decide)) ?_
 refine fL<|a9 ?_
 exact ah (ak aa)
theorem abc (vc:CvV c) (ha:c.isArc=true) (pa:GP a) (_pb:GP b) (ea:c.inner a=false):Ok Tryz.prog 305 [.c (.s 2 (ai a++ai b)),.c (.k 222 [.p (aG c)])] [.c (.i .i64 0)]:=by
 refine bW Tryz.func305 rfl ?_
 refine DW.mk<|bF (ι:=Nat) (fun i=>match i with|_=>⟨19,[(0,.v (.c (.s 2 (ai a++ai b)))),(1,.v (.c (.k 222 [.p (aG c)]))),(7,.v (.c (.i .i64 2))),(8,.v (.c (.i .i64 0)))],[]⟩) (fun i=>0-i) 0 (aA ⟨rfl,rfl,rfl,rfl,trivial⟩ trivial rfl) ?_
 intro i
 match i with
 |_=>
  show Dw _ _ ⟨19,[(0,.v (.c (.s 2 (ai a++ai b)))),(1,.v (.c (.k 222 [.p (aG c)]))),(7,.v (.c (.i .i64 2))),(8,.v (.c (.i .i64 0)))],[]⟩ _
  refine nZ<|rx rfl<|ar (bK (us:=ai a++ai b) fD rfl rfl (by decide) (rfl) (rfl) rfl) ?_
  refine ar (qh aT bE rfl)<|ar (oV rfl rfl (eG (c:=true) (aae vc ha pa) (by simp only[ea];rfl)) rfl) ?_
  refine rx rfl ?_
  exact ah (ak aa)
theorem ZP (vc:CvV c) (ha:c.isArc=true) (pa:GP a) (pb:GP b) (ea:c.inner a=false) (eb:c.inner b=false):OkT Tryz.prog 221 47 2 2 0 (ai a++ai b++[]) (([]:List CellD)++(Us++Us)) [.c (.k 222 [.p (aG c)])]:=by
 refine OkT.of (K:=100000) (by kernel_rfl) Tryz.func221 rfl rfl rfl ?_
 rw[show Tryz.f221.ntmps=42 from rfl]
 refine ae<|ag<|ae<|ag<|ar (Mk (m:=20) (us:=ai a++ai b) rfl rfl rfl rfl rfl (rfl) (dO rfl) (cj _) (by decide) (abc vc ha pa pb ea) rfl) ?_
 refine ae<|ae<|ag<|bn rfl<|aB<|ae<|ae<|ag<|ar (mj (r:=1) rfl rfl rfl rfl) ?_
 refine aP ?_
 refine bF (ι:=Nat) (fun i=>match i with|0=>⟨42,[(0,.o 100000 2 2),(1,.v (.c (.k 222 [.p (aG c)]))),(5,.v (.c (.i .i64 0))),(6,.v (.c (.i .i64 1)))],[(100000,47,ai a++ai b++[])]⟩|_+1=>⟨42,[(0,.o 100000 2 2),(1,.v (.c (.k 222 [.p (aG c)]))),(5,.v (.c (.i .i64 0))),(6,.v (.c (.i .i64 2)))],[(100000,47,ai a++ai b++[])]⟩) (fun i=>1-i) 0 (aA ⟨rfl,rfl,rfl,rfl,trivial⟩ ⟨rfl,trivial⟩ rfl) ?_
 intro i
 match i with
 |0=>
  show Dw _ _ ⟨42,[(0,.o 100000 2 2),(1,.v (.c (.k 222 [.p (aG c)]))),(5,.v (.c (.i .i64 0))),(6,.v (.c (.i .i64 1)))],[(100000,47,ai a++ai b++[])]⟩ _
  refine ae<|ae<|ag<|ar (iJ fD rfl rfl) ?_
  refine dG rfl<|aB<|ae<|aP<|ae<|bz<|bQ 2<|aW (bk fD rfl rfl (by decide) rfl) ?_
  refine aW (cg (us:=ai b) bE rfl rfl (by rfl) (aT _) rfl) ?_
  refine uX (jR z8 rfl) rfl<|fL<|ae<|ag ?_
  refine ar (oV rfl rfl (eG (c:=true) (aae vc ha pb) (by simp only[eb];rfl)) rfl) ?_
  refine bn rfl<|aB<|ag<|ar (mj (r:=2) rfl rfl rfl rfl) ?_
  exact⟨1,aA ⟨rfl,rfl,rfl,rfl,trivial⟩ ⟨rfl,trivial⟩ rfl,by show 1-1<1-0;decide⟩
 |z+1=>
  show Dw _ _ ⟨42,[(0,.o 100000 2 2),(1,.v (.c (.k 222 [.p (aG c)]))),(5,.v (.c (.i .i64 0))),(6,.v (.c (.i .i64 2)))],[(100000,47,ai a++ai b++[])]⟩ _
  refine ae<|ae<|ag<|ar (iJ fD rfl rfl) ?_
  refine bn rfl<|b7<|ae<|ag<|ar (Ai (q:=0) fD rfl rfl (by decide) (by decide) rfl) ?_
  refine nM (DI (cs':=([]:List CellD)++(Us++Us)) jD rfl rfl (dO rfl) (by rfl) rfl) ?_
  refine ae<|ag<|ar (u9 (q:=0) fD rfl rfl (by decide) rfl) ?_
  refine a9 ?_
  exact⟨.inr rfl,rfl,4,rfl,rfl⟩
theorem LJ {P:Program}{ops:Array Oper}{os:List Oper}{K:St→Prop}{tm:List (Nat×DV)}{bx:List (Nat×TypeId×List CellD)}{t:Nat}{x y:Operand}{pos:String}{af:Array Edge}{g:Option (Nat×Bool)}{q m by_:Nat}{us ys zs zs':List CellD}
 (hU:xG P U=some (e,m,by_,zs)) (hx:cO (fun s=>aK s tm) x=some (.f 0 us)) (hy:cO (fun s=>aK s tm) y=some (.v (.c (.s q ys)))) (hys:ys.length=q*m) (hq:0<q)
 (hbytes:q*by_≤140737488355328) (h63:q≤maxLen) (hd:aK t bx=none) (hz:ys=zs')
 (hg:gd ops ⟨some t,.call ⟨.builtin .append,#[x,y],#[U,U]⟩,ty,pos,af,g⟩ (fun s=>aK s tm)=some true)
 (hk: ∀c' rest',q≤c'→c'≤maxLen→rest'.length=(c'-q)*m→dl P ops os ⟨N,(t,.o t q c')::tm,(t,e,zs'++rest')::bx⟩ K):
 dl P ops (⟨some t,.call ⟨.builtin .append,#[x,y],#[U,U]⟩,ty,pos,af,g⟩::os) ⟨N,tm,bx⟩ K:=by
 subst hz
 exact .inr ⟨_,Jb hU hx hy hys hq hbytes h63 hd hg,fun σ' ⟨c',rest',h1,h2,h3,e⟩=>by subst e;exact hk c' rest' h1 h2 h3⟩
theorem abG (hl:0<L.length) (lL:L.length≤12):OkN Tryz.prog 306 [.c (.s ((L).length) (aJ ai (L)))] 47 L.length 20 (aJ ai L) []:=by
 refine OkN.of (by kernel_rfl) Tryz.func306 rfl rfl ?_
 rw[show Tryz.f306.ntmps=8 from rfl]
 refine ae<|ag<|ae<|ae<|bz<|bQ 1 ?_
 refine FO fD rfl rfl (fun bz1 hbz1=>?_)
 refine bD ?_
 refine aS rfl (fun hc2=>?_) (fun hc2=>?_)
 ·exact absurd hc2 (by rw[hbz1 hl];decide)
 ·refine aB<|ae<|ag<|ar (Co jD rfl) ?_
  refine DL.mk<|LJ (q:=L.length) (ys:=aJ ai (L)) (zs':=aJ ai L) jD rfl rfl (aM aT _) (hl) (by omega) (wC (by omega)) rfl (rfl) rfl (fun cg3 rg3 hga3 hgb3 hgc3=>eQ ?_)
  refine a9 ?_
  exact⟨.inr rfl,2,7,cg3,[],rg3,rfl,rfl,rfl,by omega,by assumption,by assumption,aa⟩
theorem abv:Ok Tryz.prog 306 [.c (.s 0 [])] [.c (.s 0 [])]:=by
 refine ex Tryz.func306 8 [.tmp 2] rfl<|ae<|ag<|ae<|ae<|bz<|bQ 1 ?_
 refine FO fD rfl rfl (fun bz1 hbz1=>?_)
 refine bD ?_
 refine aS rfl (fun hc2=>?_) (fun hc2=>?_)
 ·refine ae<|ag<|a9 ?_
  exact ah (ak aa)
 ·refine aB<|ae<|ag<|ar (Co jD rfl) ?_
  refine ar (CC jD rfl rfl rfl) ?_
  refine aaF (t:=2) rfl<|a9 ?_
  exact ah (ak aa)
theorem Zg (vc:CvV c) (ha:c.isArc=true) (hn1:1≤L.length) (hn:L.length≤12) (hG: ∀x∈L,GP x):OkS Tryz.prog 380 47 L.length c9 (aJ ai L++rs) (aJ ai (bc dPt (br c) L)++rs) [.c (.i .i64 0),.c (.i .i64 (L.length:Int)),.c (.k 308 [.p (aG c)])]:=by
 refine OkS.of (K:=100000) (by kernel_rfl) Tryz.func380 rfl rfl rfl rfl ?_
 rw[show Tryz.f380.ntmps=53 from rfl]
 refine ae<|ag<|ar (mj (r:=1) rfl rfl rfl rfl) ?_
 refine aP<|bF (ι:={p:Nat // 1≤p∧p≤L.length}) (fun i=>⟨53,[(0,.o 100000 L.length c9),(1,.v (.c (.i .i64 0))),(2,.v (.c (.i .i64 (L.length:Int)))),(3,.v (.c (.k 308 [.p (aG c)]))),(8,.v (.c (.i .i64 (i.1:Int))))],[(100000,47,aJ ai (Rn dPt (br c) L i.1)++rs)]⟩) (fun i=>L.length-i.1) ⟨1,cj _,hn1⟩ (aA ⟨rfl,rfl,rfl,rfl,rfl,trivial⟩ ⟨congrArg (fun q=>some (47,aJ ai q++rs)) ((Lh L).symm),trivial⟩ rfl) ?_
 rintro⟨p,h1,h2⟩
 replace h1:1≤p:=h1
 replace h2:p≤L.length:=h2
 dsimp only
 refine ae<|ae<|ag ?_
 refine aS rfl (fun hc1=>?_) (fun hc1=>?_)
 ·have g1:p<L.length:=by have:=of_decide_eq_true hc1;omega
  have hOl:(bc dPt (br c) (L.take p)).length=p:=by rw[fk,gz,qO h2]
  refine aB<|ae<|aP<|ae<|ag<|aP<|bF (ι:={j:Nat // j≤p∧oF dPt (br c) (L.getD p dPt) (bc dPt (br c) (L.take p)) p=oF dPt (br c) (L.getD p dPt) (bc dPt (br c) (L.take p)) j}) (fun i=>⟨53,[(0,.o 100000 L.length c9),(1,.v (.c (.i .i64 0))),(2,.v (.c (.i .i64 (L.length:Int)))),(3,.v (.c (.k 308 [.p (aG c)]))),(8,.v (.c (.i .i64 (p:Int)))),(9,.v (.c (.i .i64 (i.1:Int))))],[(100000,47,aJ ai (zV (bc dPt (br c) (L.take p)) (L.drop (p+1)) (L.getD p dPt) i.1)++rs)]⟩) (fun i=>i.1) ⟨p,cj _,rfl⟩ (aA ⟨rfl,rfl,rfl,rfl,rfl,rfl,trivial⟩ ⟨congrArg (fun q=>some (47,aJ ai q++rs)) (KL g1),trivial⟩ rfl) ?_
  rintro⟨j,h3,h4⟩
  replace h3:j≤p:=h3
  replace h4:oF dPt (br c) (L.getD p dPt) (bc dPt (br c) (L.take p)) p=oF dPt (br c) (L.getD p dPt) (bc dPt (br c) (L.take p)) j:=h4
  dsimp only
  refine ae<|ae<|nu 17 rfl rfl<|cE 3 ?_
  refine JB (bq rfl) (fun c2 hb2=>?_)
  cases c2
  ·have g2:j=0:=by have:=of_decide_eq_false hb2;omega
   refine Aq<|dN<|bD<|bn rfl<|b7<|ag<|ar (eu (by omega) rfl) ?_
   exact⟨⟨p+1,by omega,g1⟩,aA ⟨rfl,rfl,rfl,rfl,rfl,trivial⟩ ⟨congrArg (fun q=>some (47,aJ ai q++rs)) (yS g1 (h4.trans (Fs (.inl g2)))),trivial⟩ rfl,by show L.length-(p+1)<L.length-p;omega⟩
  ·have g2:0<j:=by have:=of_decide_eq_true hb2;omega
   have hjl:j≤(bc dPt (br c) (L.take p)).length:=by rw[hOl];exact h3
   refine cE 3<|bh (bk fD rfl rfl (by omega) rfl) ?_
   refine bh (cg (us:=ai (L.getD p dPt)) bE rfl rfl ((jt (e:=dPt) (O:=(zV (bc dPt (br c) (L.take p)) (L.drop (p+1)) (L.getD p dPt) j)) aT (by rw[gV hjl,hOl,jF];omega)).trans (congrArg ai (Fj hjl))) (aT _) rfl) ?_
   refine cE 2<|bh (bZ (((j-1:Nat):Int)) ((bI (by omega) (by omega)).trans (congrArg some (by omega))) rfl)<|bh (bk fD rfl rfl (by omega) rfl) ?_
   refine bh (cg (us:=ai ((bc dPt (br c) (L.take p)).getD (j-1) dPt)) bE rfl rfl ((jt (e:=dPt) (O:=(zV (bc dPt (br c) (L.take p)) (L.drop (p+1)) (L.getD p dPt) j)) aT (by rw[gV hjl,hOl,jF];omega)).trans (congrArg ai (FF g2 hjl))) (aT _) rfl) ?_
   refine bh (oV rfl rfl (YA vc ha (hG _ (bJ g1)) (hG _ (List.mem_of_mem_take ((iI _).mem_iff.1 (bJ (show j-1<(bc dPt (br c) (L.take p)).length by rw[hOl];omega)))))) rfl) ?_
   refine Aq<|dN<|bD ?_
   refine aS rfl (fun hc3=>?_) (fun hc3=>?_)
   ·have g3:(br c) (L.getD p dPt) ((bc dPt (br c) (L.take p)).getD (j-1) dPt)<0:=of_decide_eq_true hc3
    refine aB<|ae<|aP<|sU 16 [100000,999999] il (by kernel_rfl) rfl rfl<|cE 4<|bh (bZ (((j-1:Nat):Int)) ((bI (by omega) (by omega)).trans (congrArg some (by omega))) rfl)<|cE 2<|bh (bZ (((j-1:Nat):Int)) ((bI (by omega) (by omega)).trans (congrArg some (by omega))) rfl)<|bh (bk fD rfl rfl (by omega) rfl) ?_
    refine Cd (by kernel_rfl) (cg (us:=ai ((bc dPt (br c) (L.take p)).getD (j-1) dPt)) bE rfl rfl ((jt (e:=dPt) (O:=(zV (bc dPt (br c) (L.take p)) (L.drop (p+1)) (L.getD p dPt) j)) aT (by rw[gV hjl,hOl,jF];omega)).trans (congrArg ai (FF g2 hjl))) (aT _) rfl) ?_
    refine cE 2<|bh (bk fD rfl rfl (by omega) rfl) ?_
    refine Cd (by kernel_rfl) (cg (us:=ai (L.getD p dPt)) bE rfl rfl ((jt (e:=dPt) (O:=(zV (bc dPt (br c) (L.take p)) (L.drop (p+1)) (L.getD p dPt) j)) aT (by rw[gV hjl,hOl,jF];omega)).trans (congrArg ai (Fj hjl))) (aT _) rfl) ?_
    refine bh (bk fD rfl rfl (by omega) rfl) ?_
    refine iM (aY (us:=aJ ai ((zV (bc dPt (br c) (L.take p)) (L.drop (p+1)) (L.getD p dPt) j).set j ((bc dPt (br c) (L.take p)).getD (j-1) dPt))++rs) bE rfl rfl rfl (aT _) (by rw[dj,aM aT,gV hjl,hOl,jF];omega) (v5 aT (by rw[gV hjl,hOl,jF];omega) _) rfl) rfl rfl rfl rfl ?_
    refine mT<|zK<|aW (bk fD rfl rfl (by omega) rfl) ?_
    refine iu (aY (us:=aJ ai (((zV (bc dPt (br c) (L.take p)) (L.drop (p+1)) (L.getD p dPt) j).set j ((bc dPt (br c) (L.take p)).getD (j-1) dPt)).set (j-1) (L.getD p dPt))++rs) bE rfl rfl rfl (aT _) (by rw[dj,aM aT,wQ,gV hjl,hOl,jF];omega) (v5 aT (by rw[wQ,gV hjl,hOl,jF];omega) _) rfl) ?_
    refine bD<|ag<|ar (bZ (((j-1:Nat):Int)) ((bI (by omega) (by omega)).trans (congrArg some (by omega))) rfl) ?_
    exact⟨⟨j-1,by omega,h4.trans (NP g2 g3)⟩,aA ⟨rfl,rfl,rfl,rfl,rfl,rfl,trivial⟩ ⟨congrArg (fun q=>some (47,aJ ai q++rs)) (PP g2 hjl),trivial⟩ rfl,by show j-1<j;omega⟩
   ·have g3: ¬(br c) (L.getD p dPt) ((bc dPt (br c) (L.take p)).getD (j-1) dPt)<0:=of_decide_eq_false hc3
    refine b7<|ag<|ar (eu (by omega) rfl) ?_
    exact⟨⟨p+1,by omega,g1⟩,aA ⟨rfl,rfl,rfl,rfl,rfl,trivial⟩ ⟨congrArg (fun q=>some (47,aJ ai q++rs)) (yS g1 (h4.trans (Fs (.inr g3)))),trivial⟩ rfl,by show L.length-(p+1)<L.length-p;omega⟩
 ·have hp:p=L.length:=by have:=of_decide_eq_false hc1;omega
  refine b7 ?_
  exact⟨.inl rfl,congrArg (fun q=>some (47,aJ ai q++rs)) (by rw[hp,K7])⟩
theorem aaa (vc:CvV c) (ha:c.isArc=true) (hn1:1≤L.length) (hn:L.length≤12) (hG: ∀x∈L,GP x):OkS Tryz.prog 356 47 L.length c9 (aJ ai L++rs) (aJ ai (bc dPt (br c) L)++rs) [.c (.i .i64 (L.length:Int)),.c (.k 308 [.p (aG c)])]:=by
 refine OkS.of (K:=100000) (by kernel_rfl) Tryz.func356 rfl rfl rfl rfl ?_
 rw[show Tryz.f356.ntmps=63 from rfl]
 refine ae<|ag<|ae<|ag<|ae<|aP ?_
 refine bF (ι:=Nat) (fun i=>match i with|_=>⟨63,[(0,.o 100000 L.length c9),(1,.v (.c (.i .i64 (L.length:Int)))),(2,.v (.c (.k 308 [.p (aG c)]))),(6,.v (.c (.i .i64 20))),(7,.v (.c (.i .i64 0))),(8,.v (.c (.i .i64 20)))],[(100000,47,aJ ai L++rs)]⟩) (fun i=>0-i) 0 (aA ⟨rfl,rfl,rfl,rfl,rfl,rfl,trivial⟩ ⟨rfl,trivial⟩ rfl) ?_
 intro i
 match i with
 |_=>
  show Dw _ _ ⟨63,[(0,.o 100000 L.length c9),(1,.v (.c (.i .i64 (L.length:Int)))),(2,.v (.c (.k 308 [.p (aG c)]))),(6,.v (.c (.i .i64 20))),(7,.v (.c (.i .i64 0))),(8,.v (.c (.i .i64 20)))],[(100000,47,aJ ai L++rs)]⟩ _
  refine ae<|ae<|bz<|bQ 2<|aW (aU (c:=false) (ew rfl) (decide_eq_false (by omega))) ?_
  refine bD<|bn rfl<|b7<|ae<|ag ?_
  refine DL.mk<|r5 (jO rfl rfl rfl rfl rfl (Zg vc ha hn1 hn hG) rfl)<|eQ ?_
  refine aP ?_
  refine bF (ι:=Nat) (fun i=>match i with|_=>⟨63,[(0,.o 100000 L.length c9),(1,.v (.c (.i .i64 (L.length:Int)))),(2,.v (.c (.k 308 [.p (aG c)]))),(6,.v (.c (.i .i64 20))),(7,.v (.c (.i .i64 0))),(8,.v (.c (.i .i64 20)))],[(100000,47,aJ ai (bc dPt (br c) L)++rs)]⟩) (fun i=>0-i) 0 (aA ⟨rfl,rfl,rfl,rfl,rfl,rfl,trivial⟩ ⟨rfl,trivial⟩ rfl) ?_
  intro i
  match i with
  |_=>
   show Dw _ _ ⟨63,[(0,.o 100000 L.length c9),(1,.v (.c (.i .i64 (L.length:Int)))),(2,.v (.c (.k 308 [.p (aG c)]))),(6,.v (.c (.i .i64 20))),(7,.v (.c (.i .i64 0))),(8,.v (.c (.i .i64 20)))],[(100000,47,aJ ai (bc dPt (br c) L)++rs)]⟩ _
   refine ae<|ae<|bz<|bQ 2<|aW (aU (c:=false) (ew rfl) (decide_eq_false (by omega))) ?_
   refine bD<|bn rfl<|b7 ?_
   exact⟨.inl rfl,rfl⟩
theorem ZR (vc:CvV c) (ha:c.isArc=true) (hn1:1≤L.length) (hn:L.length≤12) (hG: ∀x∈L,GP x):OkS Tryz.prog 307 47 L.length c9 (aJ ai L++rs) (aJ ai (bc dPt (br c) L)++rs) [.c (.k 308 [.p (aG c)])]:=by
 refine OkS.of (K:=100000) (by kernel_rfl) Tryz.func307 rfl rfl rfl rfl ?_
 rw[show Tryz.f307.ntmps=9 from rfl]
 refine ag<|ar (iJ fD rfl rfl) ?_
 refine DL.mk<|r5 (jO rfl rfl rfl rfl rfl (aaa vc ha hn1 hn hG) rfl)<|eQ ?_
 exact⟨.inl rfl,rfl⟩
theorem Wy:Ok Tryz.prog 380 [.c (.s 0 []),.c (.i .i64 0),.c (.i .i64 0),.c (.k 308 [.p (aG c)])] []:=by
 refine bW Tryz.func380 rfl<|ar (mj (r:=1) rfl rfl rfl rfl) ?_
 refine DW.mk<|bF (ι:=Nat) (fun i=>match i with|_=>⟨53,[(0,.v (.c (.s 0 []))),(1,.v (.c (.i .i64 0))),(2,.v (.c (.i .i64 0))),(3,.v (.c (.k 308 [.p (aG c)]))),(8,.v (.c (.i .i64 1)))],[]⟩) (fun i=>0-i) 0 (aA ⟨rfl,rfl,rfl,rfl,rfl,trivial⟩ trivial rfl) ?_
 intro i
 match i with
 |_=>
  show Dw _ _ ⟨53,[(0,.v (.c (.s 0 []))),(1,.v (.c (.i .i64 0))),(2,.v (.c (.i .i64 0))),(3,.v (.c (.k 308 [.p (aG c)]))),(8,.v (.c (.i .i64 1)))],[]⟩ _
  refine nZ<|qg rfl ?_
  exact HO aa
theorem V6:Ok Tryz.prog 356 [.c (.s 0 []),.c (.i .i64 0),.c (.k 308 [.p (aG c)])] []:=by
 refine bW Tryz.func356 rfl ?_
 refine DW.mk<|bF (ι:=Nat) (fun i=>match i with|_=>⟨63,[(0,.v (.c (.s 0 []))),(1,.v (.c (.i .i64 0))),(2,.v (.c (.k 308 [.p (aG c)]))),(6,.v (.c (.i .i64 20))),(7,.v (.c (.i .i64 0))),(8,.v (.c (.i .i64 20)))],[]⟩) (fun i=>0-i) 0 (aA ⟨rfl,rfl,rfl,rfl,rfl,rfl,trivial⟩ trivial rfl) ?_
 intro i
 match i with
 |_=>
  show Dw _ _ ⟨63,[(0,.v (.c (.s 0 []))),(1,.v (.c (.i .i64 0))),(2,.v (.c (.k 308 [.p (aG c)]))),(6,.v (.c (.i .i64 20))),(7,.v (.c (.i .i64 0))),(8,.v (.c (.i .i64 20)))],[]⟩ _
  refine nZ<|qg rfl<|ac rfl (Wy) ?_
  refine DW.mk<|bF (ι:=Nat) (fun i=>match i with|_=>⟨63,[(0,.v (.c (.s 0 []))),(1,.v (.c (.i .i64 0))),(2,.v (.c (.k 308 [.p (aG c)]))),(6,.v (.c (.i .i64 20))),(7,.v (.c (.i .i64 0))),(8,.v (.c (.i .i64 20)))],[]⟩) (fun i=>0-i) 0 (aA ⟨rfl,rfl,rfl,rfl,rfl,rfl,trivial⟩ trivial rfl) ?_
  intro i
  match i with
  |_=>
   show Dw _ _ ⟨63,[(0,.v (.c (.s 0 []))),(1,.v (.c (.i .i64 0))),(2,.v (.c (.k 308 [.p (aG c)]))),(6,.v (.c (.i .i64 20))),(7,.v (.c (.i .i64 0))),(8,.v (.c (.i .i64 20)))],[]⟩ _
   refine nZ<|qg rfl ?_
   exact HO aa
theorem Xb:Ok Tryz.prog 307 [.c (.s 0 []),.c (.k 308 [.p (aG c)])] []:=by
 refine bW Tryz.func307 rfl ?_
 refine ac rfl (V6) ?_
 exact HO aa
theorem aa6 (hS: ∀p∈S,GP p) (lS:S.length≤12) (hne: ∀i,i+1<S.length→cP (S.getD (i+1) dPt) (S.getD i dPt)≠0):Ok Tryz.prog 310 [.c (.s ((S).length) (aJ ai (S))),.c (.f 220)] [.c (.s ((S).length) (aJ ai (S)))]:=by
 refine bW Tryz.func310 rfl ?_
 refine df rfl (fun hc1=>?_) (fun hc1=>?_)
 ·exact ah (ak aa)
 ·refine DW.mk<|bF (ι:={n:Nat // n+1≤S.length∨n=0}) (fun i=>⟨66,[(0,.v (.c (.s ((S).length) (aJ ai (S))))),(1,.v (.c (.f 220))),(5,.v (.c (.i .i64 (((i.1+1:Nat):Int)))))],[]⟩) (fun i=>S.length-i.1) ⟨0,.inr rfl⟩ (aA ⟨rfl,rfl,rfl,trivial⟩ trivial rfl) ?_
  rintro⟨n,h2⟩
  replace h2:n+1≤S.length∨n=0:=h2
  dsimp only
  refine nZ ?_
  refine df rfl (fun hc2=>?_) (fun hc2=>?_)
  ·have g1:n+1<S.length:=by have:=of_decide_eq_true hc2;omega
   refine cz 11 []<|aq (bK (us:=ai (S.getD (n+1) dPt)++aJ ai (S.drop ((n+1)+1))) fD rfl rfl (by omega) (aM aT _) (iH aT (eh g1)) rfl) ?_
   refine aq (qh aT bE rfl)<|aq (bZ (((n:Nat):Int)) ((bI (by omega) (by omega)).trans (congrArg some (by omega))) rfl)<|aq (bK (us:=ai (S.getD n dPt)++aJ ai (S.drop (n+1))) fD rfl rfl (by omega) (aM aT _) (iH aT (eh (by omega))) rfl) ?_
   refine aq (qh aT bE rfl)<|aC rfl (eG (c:=false) (xQ (GP.getD hS (n+1)) (GP.getD hS n)) (beq_eq_false_iff_ne.2 (hne n g1)))<|qg rfl<|ar (bZ (((n+1+1:Nat):Int)) ((bm (by omega) (by omega)).trans (congrArg some (by omega))) rfl) ?_
   exact⟨⟨n+1,.inl g1⟩,aA ⟨rfl,rfl,rfl,trivial⟩ trivial rfl,by show S.length-(n+1)<S.length-n;omega⟩
  ·exact ah (ak aa)
theorem DA (c:Cv) (q:Pt):(aG c).take 46++ai q++(aG c).drop (46+20)=aG (c.ends c.p q):=by cases c<;>rfl
theorem LA (c:Cv):c.ends c.p c.q=c:=by cases c<;>rfl
theorem DK (c:Cv) (x q P:Pt):(c.ends x q).ends (c.ends x q).p P=c.ends x P:=by cases c<;>rfl
theorem DO (c:Cv) (x q P:Pt):(c.ends x q).setp P=c.ends P q:=by cases c<;>rfl
theorem Nz (h:c.inner p=true):c.on p=true:=by unfold Cv.inner at h;rw[dF] at h;exact h.1
theorem OI (hc:c.good) (hp:GP p) (h:c.inner p=true):cP p c.p≠0∧cP p c.q≠0:=by
 unfold Cv.inner at h
 have h1:=fg (b9 (jK hc)) (b9 hp)
 have h2:=fg (b9 (s8 hc)) (b9 hp)
 grind
def H6 (R:List Cv) (n:Nat):List Cv:=(R.take n).map Cv.fwd++R.drop n
section
variable {R:List Cv}{n:Nat}
theorem yI (h:n≤R.length):(H6 R n).length=R.length:=by unfold H6;rw[dj,List.length_map,gz,jF];omega
theorem Qi (h:n<R.length):(H6 R n).getD n bL=R.getD n bL:=by
 unfold H6
 grind
theorem KK (h:n<R.length):(H6 R n).set n (R.getD n bL).fwd=H6 R (n+1):=by
 unfold H6
 have hl:((R.take n).map Cv.fwd).length=n:=by grind
 rw[List.set_append_right _ _ (by omega),hl,Nat.sub_self,r6 (d:=bL) h,ts,qc,oD h]
 rfl
theorem Np (h:n<R.length) (e:(R.getD n bL).fwd=R.getD n bL):H6 R n=H6 R (n+1):=by
 rw[←KK h,e]
 apply List.ext_getElem?
 intro j
 rw[List.getElem?_set]
 split
 ·rename_i g
  subst g
  rw[if_pos (by rw[yI (Nat.le_of_lt h)];exact h),←Qi h,eh (by rw[yI (Nat.le_of_lt h)];exact h)]
 ·rfl
theorem Tk:H6 R R.length=R.map Cv.fwd:=by unfold H6;simp
theorem Zc:H6 R 0=R:=by unfold H6;simp
end
theorem T6 (hk:GK k) (h0:0<k.q):cP (fY k) (fR k)≠0:=fun e=>by
 have h1:=(d8.1 e).1
 have kL:=MT (k:=k) h0
 have kR:=Pk (k:=k) h0
 rcases Fc (nO hk h0) (nL hk h0) kL.1 kL.2 with⟨_,b,_⟩|⟨_,b⟩
 ·have:=kR.2;omega
 ·omega
def pA (kf kt:Fin 4) (i:Int):Bool:=tT kt kf i&& !(uK kt==uK kf&&i==0)
def pB (kf kt kx:Fin 4) (i j d:Int):Bool:=tT kx kf j&&(tT kx kt d&&(FL j i d&&Zi kf kx kt j i d))
def pC (kx ky:Fin 4) (j l d e g:Int):Bool:=tT kx ky g&&(FL j l g&&FL d e g)
set_option maxRecDepth 1000000 in
theorem LN: ∀(kf kt:Fin 4) (i:Fin 3),pA kf kt (i3 i)=true→ ∀(kx:Fin 4) (j d:Fin 3),pB kf kt kx (i3 i) (i3 j) (i3 d)=true→ ∀(ky:Fin 4) (l e:Fin 3),pB kf kt ky (i3 i) (i3 l) (i3 e)=true→ ∀g:Fin 3,pC kx ky (i3 j) (i3 l) (i3 d) (i3 e) (i3 g)=true→
 EV (BG (uF kx) (uF kf) (-(i3 j))) (BG (uF ky) (uF kf) (-(i3 l))) (BG (uF kx) (uF ky) (-(i3 g)))= -uz (As (uK kx) (uK kt) (i3 d)) (As (uK ky) (uK kt) (i3 e)) (As (uK kx) (uK ky) (i3 g)):=by decide+kernel
theorem WY {x y:Pt}(h0:0<k.q) (of:OnK k f) (ot:OnK k t) (ox:OnK k x) (oy:OnK k y) (hne:cP f t≠0) (hx:(Cv.arc k true f t).on x=true) (hy:(Cv.arc k true f t).on y=true):(Cv.arc k true f t).ord x y= -xn k t x y:=by
 have cf:=a7 of
 have ct:=a7 ot
 have cx':=a7 ox
 have cy':=a7 oy
 rw[yp (bH.2 ox.2)] at hx
 rw[yp (bH.2 oy.2)] at hy
 have hx:(decide ((Cv.arc k true f t).ord f x≤0)&&decide ((Cv.arc k true f t).ord x t≤0))=true:=hx
 have hy:(decide ((Cv.arc k true f t).ord f y≤0)&&decide ((Cv.arc k true f t).ord y t≤0))=true:=hy
 rw[Dd h0 of ot ox] at hx
 rw[Dd h0 of ot oy] at hy
 have t1:=jA cf cx' ct
 have t2:=jA cf cy' ct
 have t3:=jA cf cx' cy'
 have t4:=jA ct cx' cy'
 have m1:=gI h0 ot of
 have m2:=gI h0 ox of
 have m3:=gI h0 ox ot
 have m4:=gI h0 oy of
 have m5:=gI h0 oy ot
 have m6:=gI h0 ox oy
 have hn:(uK (kd k t)==uK (kd k f)&&cx t f==0)=false:=by
  rw[←fv,←fv]
  cases h:(j6 k t==j6 k f&&cx t f==0) with
  |false=>rfl
  |true=>exact absurd (yq h0 ot of h) (fun e=>hne (by rw[fg ct cf,e];rfl))
 have e1:xn k t x f=uz (As (uK (kd k x)) (uK (kd k t)) (cx x t)) (As (uK (kd k f)) (uK (kd k t)) (-cx t f)) (As (uK (kd k x)) (uK (kd k f)) (cx x f)):=by
  unfold xn ns;rw[fv,fv,fv,de ct cf]
 have e2:xn k t y f=uz (As (uK (kd k y)) (uK (kd k t)) (cx y t)) (As (uK (kd k f)) (uK (kd k t)) (-cx t f)) (As (uK (kd k y)) (uK (kd k f)) (cx y f)):=by
  unfold xn ns;rw[fv,fv,fv,de ct cf]
 rw[e1] at hx
 rw[e2] at hy
 show ru k.mir f.flip x.flip y.flip=_
 rw[rL,eP,eP,eP,lT cx' cf,lT cy' cf,lT cx' cy',rG h0 of,rG h0 ox,rG h0 oy]
 unfold xn ns
 rw[fv,fv,fv]
 obtain⟨i,hi⟩:=fC (eJ t f)
 obtain⟨j,hj⟩:=fC (eJ x f)
 obtain⟨l,hl⟩:=fC (eJ y f)
 obtain⟨d,hd⟩:=fC (eJ x t)
 obtain⟨e,he⟩:=fC (eJ y t)
 obtain⟨g,hg⟩:=fC (eJ x y)
 rw[hi] at t1 t2 m1 hn hx hy
 rw[hj] at t1 t3 m2 hx⊢
 rw[hl] at t2 t3 m4 hy⊢
 rw[hd] at t1 t4 m3 hx⊢
 rw[he] at t2 t4 m5 hy⊢
 rw[hg] at t3 t4 m6⊢
 exact LN _ _ i (by unfold pA;rw[m1,hn];rfl) _ j d (by unfold pB Zi;rw[m2,m3,t1,hx];rfl) _ l e (by unfold pB Zi;rw[m4,m5,t2,hy];rfl) g (by unfold pC;rw[m6,t3,t4];rfl)
theorem zF {x:Pt}(gx:GP x) (h:(Cv.arc k w f t).on x=true):OnK k x:=⟨gx,bH.1 (Fl h)⟩
theorem SK (vc:CvV c) (ha:c.isArc=true) {x y:Pt}(gx:GP x) (gy:GP y) (hx:c.on x=true) (hy:c.on y=true):br c x y=c.ord x y:=by
 cases c with
 |seg l f t=>cases ha
 |arc k w f t=>
  cases w with
  |true=>exact(WY vc.pos ⟨vc.g.2.1,bH.1 vc.sp⟩ ⟨vc.g.2.2,bH.1 vc.sq⟩ (zF gx hx) (zF gy hy) vc.ne hx hy).symm
  |false=>exact(SV vc.g.2.1 gx gy).symm
theorem Cj {α:Type}{r:α→α→Prop}: ∀ {A B:List α},(∀a∈A,∀b∈A,r a b→ ¬r b a)→A.Perm B→A.Pairwise r→B.Pairwise r→A=B
 |[],B,_,h,_,_=>h.nil_eq
 |a::A,[],_,h,_,_=>absurd h.length_eq (by simp)
 |a::A,b::B,hs9,h,hA,hB=>by
  have hab:a=b:=by
   apply fH
   intro hn
   have h1:a∈B:=(dM.1 (h.mem_iff.1 gT)).resolve_left hn
   have h2:b∈A:=(dM.1 (h.mem_iff.2 gT)).resolve_left (Ne.symm hn)
   exact hs9 a gT b (gN _ h2) ((jU.1 hA).1 b h2) ((jU.1 hB).1 a h1)
  subst hab
  rw[Cj (fun x hx y hy=>hs9 x (gN _ hx) y (gN _ hy)) h.cons_inv (jU.1 hA).2 (jU.1 hB).2]
section
variable {k:Ci}{w:Bool}{f t:Pt}(vc:CvV (.arc k w f t))
include vc
theorem CK:OnK k f∧OnK k t:=⟨⟨vc.g.2.1,bH.1 vc.sp⟩,⟨vc.g.2.2,bH.1 vc.sq⟩⟩
theorem I9 {x y:Pt}(ox:OnK k x) (oy:OnK k y) (h:(Cv.arc k w f t).ord x y≤0) (hne:cP x y≠0):(Cv.arc k w f t).ord x y<0:=by
 have:(Cv.arc k w f t).ord x y≠0:=fun e=>hne (uC vc.pos (CK vc).1 ox oy e)
 omega
end
theorem KP: ∀ {L:List Pt},(∀a∈L,∀b∈L,cP a b=0→cP b a=0)→L.Pairwise (fun a b=>cP a b≠0)→ ∀a∈L,∀b∈L,cP a b=0→a=b
 |[],_,_,_,h,_,_,_=>by cases h
 |x::L,hs,h,a,ha,b,hb,e=>by
  obtain⟨h1,h2⟩:=jU.1 h
  rcases dM.1 ha with rfl|ha'
  ·rcases dM.1 hb with rfl|hb'
   ·rfl
   ·exact absurd e (h1 b hb')
  ·rcases dM.1 hb with rfl|hb'
   ·exact absurd (hs a ha b hb e) (h1 a ha')
   ·exact KP (fun a ha b hb=>hs a (gN _ ha) b (gN _ hb)) h2 a ha' b hb' e
theorem Bq (h:aO x=0) (g:aO y=0):aO (x+y)=0:=by rw[mm h,g]
theorem tR (y:Re) (h:aO x=0):aO (y*x)=0:=by rw[bj,h,og]
theorem Ab (h:aO x=0):aO (-x)=0:=by rw[b8,h];rfl
theorem X9 (h:aO (x*y)=0) (hx:aO x≠0):aO y=0:=by
 rw[bj] at h
 exact(t9.1 h).resolve_left hx
def eqC (c d:Cv):Bool:=UA c d&&((c.cw==d.cw)&&(cP c.p d.p==0&&cP c.q d.q==0))
theorem iX {z:Re}(e:x-y=z) (hz:aO z=0):aO x=aO y:=dC (by rw[e];exact hz)
theorem Ka (h:aO x=0) (g:aO y=0):aO (x-y)=0:=Bq h (Ab g)
theorem KH {p q:Re}(hp:0≤aO p) (hq:0≤aO q) (h:aO (q*q-p*p)=0):aO (q-p)=0:=by
 rcases bp (q+p) with e|e|e
 ·refine X9 (x:=q+p) ?_ (by rw[e];decide)
  rw[show(q+p)*(q-p)=q*q-p*p from(ba fun n=>by simp only[aI,ao,aD];grind)];exact h
 ·have h1:aO q=0:=by
   apply fH
   intro hn
   have:=B7 (x:=q) (y:=p) (by omega) hp
   omega
  have h2:aO p=0:=by rw[←mm h1 p];exact e
  exact Ka h1 h2
 ·have:=pZ hq hp;omega
theorem Z8 {c:Rat}(h0:0<c) (hs:iC c=true):aO (Re.of (rt c)-Re.rt c)=0:=by
 refine KH (uk c) ?_ ?_
 ·rw[ca];exact jJ (zh c)
 ·rw[iX (y:=Re.of (rt c*rt c)-Re.of c) (z:= -(Re.rt c*Re.rt c-Re.of c)) ((ba fun n=>by simp only[ao,aD,aV,bg];grind)) (Ab (my (n7 h0))),ze h0 hs]
  exact pe _
theorem Ay {a1 b1 a2 b2 c:Rat}(h0:0<c):aO (pX (dU a1 b1 a2 b2 c)-(Re.of a1+Re.of b1*Re.rt c))=0∧aO (pY (dU a1 b1 a2 b2 c)-(Re.of a2+Re.of b2*Re.rt c))=0:=by
 cases hs:iC c with
 |true=>
  have e:dU a1 b1 a2 b2 c=⟨a1+b1*rt c,0,a2+b2*rt c,0,0⟩:=by unfold dU;rw[hs];rfl
  have hr:=Z8 h0 hs
  rw[e]
  refine⟨?_,?_⟩
  ·show aO (wt (a1+b1*rt c) 0 0-_)=0
   rw[pk,show Re.of (a1+b1*rt c)+Re.of 0*Re.rt 0-(Re.of a1+Re.of b1*Re.rt c)=Re.of b1*(Re.of (rt c)-Re.rt c) from(ba fun n=>by simp only[aI,ao,aD,aV];grind)]
   exact tR _ hr
  ·show aO (wt (a2+b2*rt c) 0 0-_)=0
   rw[pk,show Re.of (a2+b2*rt c)+Re.of 0*Re.rt 0-(Re.of a2+Re.of b2*Re.rt c)=Re.of b2*(Re.of (rt c)-Re.rt c) from(ba fun n=>by simp only[aI,ao,aD,aV];grind)]
   exact tR _ hr
 |false=>
  have e:dU a1 b1 a2 b2 c=⟨a1,b1,a2,b2,c⟩:=by unfold dU;rw[hs];rfl
  rw[e]
  refine⟨?_,?_⟩
  ·show aO (wt a1 b1 c-_)=0
   rw[pk];exact pe _
  ·show aO (wt a2 b2 c-_)=0
   rw[pk];exact pe _
end Go.Proofs.YtegpmhlfjkhjmaaGreat
