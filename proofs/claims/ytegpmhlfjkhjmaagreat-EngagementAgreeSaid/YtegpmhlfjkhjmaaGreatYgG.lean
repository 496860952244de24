/-Package swarfref01:times,by,compare,short,signed. -/
import Derived.Test.YtegpmhlfjkhjmaaGreatYgF
namespace Go.Proofs.YtegpmhlfjkhjmaaGreat
open Go Go.RowKit
variable {R V a b c d m r u v x y:Int}{rs us vs xs ys zs:List Int}{K N i k l n:Nat}{pos:String}{U e ty xt:TypeId}
variable {af:Array Edge}{g:Option (Nat×Bool)}{dst:Option Nat}
theorem cX:type_of% @Sz.small:=@Sz.small
theorem lX:type_of% @Int.zero_mul:=@Int.zero_mul
theorem oC:type_of% @Dw.weak:=@Dw.weak
theorem qM:type_of% @Int.lt_trichotomy:=@Int.lt_trichotomy
theorem p5:type_of% @Int.mul_pos:=@Int.mul_pos
theorem ri:type_of% @Int.mul_one:=@Int.mul_one
theorem sK:type_of% @Bool.not_false:=@Bool.not_false
theorem t9:type_of% @Int.mul_eq_zero:=@Int.mul_eq_zero
theorem xz:type_of% @Int.natAbs_natCast:=@Int.natAbs_natCast
theorem CR (hLxs:Lim xs) (hLys:Lim ys) (hn:xs.length≤100000000) (hm:ys.length≤100000000):Ok Tryz.prog 199 [.c (cM xs),.c (cM ys)] [.c (cL (val xs*val ys))]:=by
 refine ex Tryz.func199 68 [.tmp 4] rfl<|ae<|ag<|ae<|ag ?_
 refine ar (bZ ((xs.length:Int)+(ys.length:Int)) (bm (by(first|omega|(simp;omega))) (by(first|omega|(simp;omega)))) rfl) ?_
 refine DL.mk<|pD (kg (n:=xs.length+ys.length) xm rfl rfl (by(first|omega|(simp;omega))) (by(first|omega|(simp;omega))) rfl) rfl<|eQ ?_
 refine ae<|ae<|ag<|aP<|bF (ι:={t:Nat×List Int // TInv xs ys t.1 0 0 t.2}) (fun i=>⟨68,[(0,.v (.c (cM xs))),(1,.v (.c (cM ys))),(5,.o 14 (xs.length+ys.length) (xs.length+ys.length)),(6,.v (.c (.i .i64 (i.1.1:Int))))],[(14,194,i.1.2.map (CellD.i .u32))]⟩) (fun i=>xs.length-i.1.1) ⟨(0,List.replicate (xs.length+ys.length) 0),TInv.start⟩ (aA ⟨rfl,rfl,rfl,rfl,trivial⟩ ⟨by rw[show(List.replicate (xs.length+ys.length) (CellD.i .u32 0))=(List.replicate (xs.length+ys.length) 0).map (CellD.i .u32) from by simp];rfl,trivial⟩ rfl) ?_
 rintro⟨⟨j,zs⟩,hI⟩
 replace hI:TInv xs ys j 0 0 zs:=hI
 have g5:=hI.ik
 have g6:=hI.len
 dsimp only
 refine ae<|ae<|ag ?_
 refine aS rfl (fun hc1=>?_) (fun hc1=>?_)
 ·have hj:j<xs.length:=by simp only[decide_eq_true_eq] at hc1;omega
  refine aB<|ae<|aP<|ae<|ag<|ae<|ae<|ag<|aP<|bF (ι:={t:Nat×Int×List Int // TInv xs ys j t.1 t.2.1 t.2.2}) (fun i=>⟨68,[(0,.v (.c (cM xs))),(1,.v (.c (cM ys))),(5,.o 14 (xs.length+ys.length) (xs.length+ys.length)),(6,.v (.c (.i .i64 (j:Int)))),(7,.v (.c (.i .u64 i.1.2.1))),(8,.v (.c (.i .i64 (i.1.1:Int))))],[(14,194,i.1.2.2.map (CellD.i .u32))]⟩) (fun i=>ys.length-i.1.1) ⟨(0,0,zs),hI⟩ (aA ⟨rfl,rfl,rfl,rfl,rfl,rfl,trivial⟩ ⟨rfl,trivial⟩ rfl) ?_
  clear hI g6
  rintro⟨⟨k,c,zs⟩,hI⟩
  replace hI:TInv xs ys j k c zs:=hI
  have g1:=db hLxs j
  have g2:=db hLys k
  have g8:=db hI.L (j+k)
  have g3:=hI.c0
  have g4:=hI.c1
  have g5:=hI.ik
  have g7:=hI.kk
  have g6:=hI.len
  dsimp only
  refine ae<|ae<|ag ?_
  refine aS rfl (fun hc2=>?_) (fun hc2=>?_)
  ·have hk:k<ys.length:=by simp only[decide_eq_true_eq] at hc2;omega
   have hm0:0≤xs.getD j 0*ys.getD k 0:=fK g1.1 g2.1
   have hm1:xs.getD j 0*ys.getD k 0≤999999999*999999999:=pu (by omega) (by omega) g2.1 (by omega)
   refine aB<|ae<|aP<|ae<|nu 22 rfl rfl<|cE 4<|bh (bZ ((j:Int)+(k:Int)) (bm (by omega) (by omega)) rfl) ?_
   refine bh (bk iV rfl rfl (by(first|omega|(simp;omega))) rfl) ?_
   refine bh (oX fl rfl rfl (aas (i:=j+k) (by(first|omega|(simp;omega)))) rfl) ?_
   refine bh (bv (r:=zs.getD (j+k) 0) jn fA rfl (gZ (by(first|omega|(simp;omega))) (by(first|omega|(simp;omega)))) rfl) ?_
   refine bh (bZ (c+(zs.getD (j+k) 0)) (fG (by(first|omega|(simp;omega))) (by(first|omega|(simp;omega)))) rfl) ?_
   refine cE 2 ?_
   refine bh (bK iV rfl rfl (by(first|omega|(simp;omega))) (jh _) rfl rfl) ?_
   refine bh (ci fl rfl (jV (i:=j) (by(first|omega|(simp;omega)))) rfl) ?_
   refine bh (bv (r:=xs.getD j 0) jn fA rfl (gZ (by(first|omega|(simp;omega))) (by(first|omega|(simp;omega)))) rfl) ?_
   refine cE 2 ?_
   refine bh (bK iV rfl rfl (by(first|omega|(simp;omega))) (jh _) rfl rfl) ?_
   refine bh (ci fl rfl (jV (i:=k) (by(first|omega|(simp;omega)))) rfl) ?_
   refine bh (bv (r:=ys.getD k 0) jn fA rfl (gZ (by(first|omega|(simp;omega))) (by(first|omega|(simp;omega)))) rfl) ?_
   refine bh (bZ ((xs.getD j 0)*(ys.getD k 0)) (gO (by(first|omega|(simp;omega))) (by(first|omega|(simp;omega)))) rfl) ?_
   refine bh (bZ ((c+(zs.getD (j+k) 0))+((xs.getD j 0)*(ys.getD k 0))) (fG (by(first|omega|(simp;omega))) (by(first|omega|(simp;omega)))) rfl) ?_
   refine Aq<|dN<|bD<|ae<|bz<|bQ 3<|aW (bZ ((j:Int)+(k:Int)) (bm (by omega) (by omega)) rfl)<|bQ 1<|aW (l8 (r:=(c+zs.getD (j+k) 0+xs.getD j 0*ys.getD k 0)%1000000000) rfl rfl (by omega) (qX (by omega)) rfl) ?_
   refine aW (bv (r:=(c+zs.getD (j+k) 0+xs.getD j 0*ys.getD k 0)%1000000000) fA jn rfl (r9 (by omega) (by omega)) rfl) ?_
   refine aW (bk iV rfl rfl (by(first|omega|(simp;omega))) rfl) ?_
   refine iu (aY (us:=(zs.set (j+k) ((c+zs.getD (j+k) 0+xs.getD j 0*ys.getD k 0)%1000000000)).map (CellD.i .u32)) fl rfl rfl rfl rfl (by simp;omega) (qN (by(first|omega|(simp;omega)))) rfl) ?_
   refine bD<|ag<|ar (jI (r:=(c+zs.getD (j+k) 0+xs.getD j 0*ys.getD k 0)/1000000000) rfl rfl (by omega) (by rw[tJ (by omega)];exact gZ (by omega) (by omega)) rfl) ?_
   refine ag ?_
   refine ar (bZ ((k:Int)+1) (bm (by(first|omega|(simp;omega))) (by(first|omega|(simp;omega)))) rfl) ?_
   exact⟨⟨(k+1,(c+zs.getD (j+k) 0+xs.getD j 0*ys.getD k 0)/1000000000,zs.set (j+k) ((c+zs.getD (j+k) 0+xs.getD j 0*ys.getD k 0)%1000000000)),hI.step hLxs hLys hj hk rfl⟩,aA ⟨rfl,rfl,rfl,rfl,rfl,by rw[show((k+1:Nat):Int)=(k:Int)+1 from by omega];rfl,trivial⟩ ⟨rfl,trivial⟩ rfl,by show ys.length-(k+1)<ys.length-k;omega⟩
  ·have hk:k=ys.length:=by simp only[decide_eq_false_iff_not] at hc2;omega
   refine b7<|bz<|bQ 4 ?_
   refine aW (bZ ((j:Int)+(ys.length:Int)) (bm (by(first|omega|(simp;omega))) (by(first|omega|(simp;omega)))) rfl) ?_
   refine bQ 1<|aW (bv (r:=c) fA jn rfl (r9 (by omega) (by omega)) rfl) ?_
   refine aW (bk iV rfl rfl (by(first|omega|(simp;omega))) rfl) ?_
   refine iu (aY (us:=(zs.set (j+ys.length) c).map (CellD.i .u32)) fl rfl rfl rfl rfl (by simp;omega) (qN (by(first|omega|(simp;omega)))) rfl) ?_
   refine bD<|ag ?_
   refine ar (bZ ((j:Int)+1) (bm (by(first|omega|(simp;omega))) (by(first|omega|(simp;omega)))) rfl) ?_
   exact⟨⟨(j+1,zs.set (j+ys.length) c),hI.row hj hk⟩,aA ⟨rfl,rfl,rfl,by rw[show((j+1:Nat):Int)=(j:Int)+1 from by omega];rfl,trivial⟩ ⟨rfl,trivial⟩ rfl,by show xs.length-(j+1)<xs.length-j;omega⟩
 ·have hj:j=xs.length:=by simp only[decide_eq_false_iff_not] at hc1;omega
  have hfin:val xs*val ys=val zs:=(hI.done hj).symm
  have hLf:Lim zs:=hI.L
  refine b7<|ae ?_
  refine vT (t:=5) (zs:=zs) (ys:=zs) rfl rfl (by first|omega|(simp;omega)|simp) (by omega) (by omega) (jY (by first|omega|(simp;omega)|simp)) ?_
  refine ag<|ac rfl (kK hLf (by omega))<|a9 ?_
  rw[hfin]
  exact ah (ak aa)
theorem IF (hLxs:Lim xs) (hn:xs.length≤100000000) (h0:0≤m) (h1:m<1000000000):Ok Tryz.prog 282 [.c (cM xs),.c (.i .u32 m)] [.c (cL (val xs*m))]:=by
 have hv1:val [m]=m:=by simp[val]
 refine bW Tryz.func282 rfl<|ar (wS xm rfl rfl) ?_
 refine ac rfl (kK (Lim.nil.cons h0 h1) (dO rfl))<|ac rfl (CR hLxs (bV _) hn (gi (x:=val [m]) (k:=100000000) (by rw[hv1];exact cX (by omega) (by omega) (by omega))))<|ah ?_
 rw[show val xs*m=val xs*val (dg (val [m]).natAbs) from by rw[ce,show(((val [m]).natAbs:Nat):Int)=m from by simp[val];omega]]
 exact ak aa
theorem Gh (hLxs:Lim xs) (hLys:Lim ys) (nX:Nrm xs) (nY:Nrm ys) (hn:xs.length≤100000000) (_hm:ys.length≤100000000):Ok Tryz.prog 169 [.c (cM xs),.c (cM ys)] [.c (.i .i64 (d5 (val xs) (val ys)))]:=by
 refine ex Tryz.func169 41 [.tmp 4] rfl<|ae<|ag<|ae<|ae<|ag ?_
 refine aS rfl (fun hc1=>?_) (fun hc1=>?_)
 ·have hne:xs.length≠ys.length:=by simp only[bne_iff_ne,ne_eq] at hc1;omega
  refine ae<|ae<|ag ?_
  refine aS rfl (fun hc2=>?_) (fun hc2=>?_)
  ·have hfin:d5 (val xs) (val ys)= -1:=et (AU nY hLxs hLys (by simp only[decide_eq_true_eq] at hc2;omega))
   refine ae<|ag<|a9 ?_
   rw[hfin]
   exact ah (ak aa)
  ·have hfin:d5 (val xs) (val ys)=1:=eM (AU nX hLys hLxs (by simp only[decide_eq_false_iff_not] at hc2;omega))
   refine aB<|ae<|ag<|a9 ?_
   rw[hfin]
   exact ah (ak aa)
 ·have heq:xs.length=ys.length:=by simp only[bne_eq_false_iff_eq] at hc1;omega
  refine aB<|ae<|ae<|ag ?_
  refine ar (bZ ((xs.length:Int)-1) (bI (by(first|omega|(simp;omega))) (by(first|omega|(simp;omega)))) rfl) ?_
  refine aP<|bF (ι:={j:Nat // j≤xs.length∧xs.drop j=ys.drop j}) (fun i=>⟨41,[(0,.v (.c (cM xs))),(1,.v (.c (cM ys))),(5,.v (.c (.i .i64 ((i.1:Int)-1))))],[]⟩) (fun i=>i.1) ⟨xs.length,cj _,by rw[pg (cj _),pg (by omega)]⟩ (aA ⟨rfl,rfl,rfl,trivial⟩ trivial rfl) ?_
  rintro⟨j,hj,hD⟩
  dsimp only
  refine ae<|ae<|ag ?_
  refine aS rfl (fun hc3=>?_) (fun hc3=>?_)
  ·obtain⟨q,rfl⟩: ∃q,j=q+1:=⟨j-1,by simp only[decide_eq_true_eq] at hc3;omega⟩
   have e1:=getD_some (xs:=xs) (i:=q) (by omega)
   have e2:=getD_some (xs:=ys) (i:=q) (by omega)
   refine oC (σ':=⟨41,[(0,.v (.c (cM xs))),(1,.v (.c (cM ys))),(5,.v (.c (.i .i64 (q:Int))))],[]⟩) (aA ⟨rfl,rfl,by rw[show(q:Int)=((q+1:Nat):Int)-1 from by omega];rfl,trivial⟩ trivial rfl) ?_
   refine aB<|ae<|aP<|ae<|ae<|fb 9 [] ?_
   refine aq (bK iV rfl rfl (by(first|omega|(simp;omega))) (jh _) rfl rfl) ?_
   refine aq (ci fl rfl (jV (i:=q) (by(first|omega|(simp;omega)))) rfl) ?_
   refine aq (bK iV rfl rfl (by(first|omega|(simp;omega))) (jh _) rfl rfl) ?_
   refine aq (ci fl rfl (jV (i:=q) (by(first|omega|(simp;omega)))) rfl) ?_
   refine aS rfl (fun hc4=>?_) (fun hc4=>?_)
   ·have hfin:d5 (val xs) (val ys)= -1:=et (Fm hLxs hLys e1 e2 hD (by simpa using hc4))
    refine ae<|ag<|a9 ?_
    rw[hfin]
    exact ah (ak aa)
   ·have hlt: ¬xs.getD q 0<ys.getD q 0:=by simpa using hc4
    refine aB<|ae<|fb 9 [] ?_
    refine aq (bK iV rfl rfl (by(first|omega|(simp;omega))) (jh _) rfl rfl) ?_
    refine aq (ci fl rfl (jV (i:=q) (by(first|omega|(simp;omega)))) rfl) ?_
    refine aq (bK iV rfl rfl (by(first|omega|(simp;omega))) (jh _) rfl rfl) ?_
    refine aq (ci fl rfl (jV (i:=q) (by(first|omega|(simp;omega)))) rfl) ?_
    refine aS rfl (fun hc5=>?_) (fun hc5=>?_)
    ·have hfin:d5 (val xs) (val ys)=1:=eM (Fm hLys hLxs e2 e1 hD.symm (by simpa using hc5))
     refine ae<|ag<|a9 ?_
     rw[hfin]
     exact ah (ak aa)
    ·have hgt: ¬xs.getD q 0>ys.getD q 0:=by simpa using hc5
     refine aB<|ag ?_
     refine ar (bZ ((q:Int)-1) (bI (by(first|omega|(simp;omega))) (by(first|omega|(simp;omega)))) rfl) ?_
     exact⟨⟨q,by omega,Lt (by omega) (by omega) hD (by omega)⟩,aA ⟨rfl,rfl,rfl,trivial⟩ trivial rfl,by show q<q+1;omega⟩
  ·have hz:j=0:=by simp only[decide_eq_false_iff_not] at hc3;omega
   have hfin:d5 (val xs) (val ys)=0:=by subst hz;simp only[p9] at hD;rw[hD];exact jE rfl
   refine b7<|ae<|ag<|a9 ?_
   rw[hfin]
   exact ah (ak aa)
theorem zQ (hLxs:Lim xs) (hn:xs.length≤100000000) (hb:val xs≤18446744073709551615):Ok Tryz.prog 171 [.c (cM xs)] [.c (.i .u64 (val xs))]:=by
 refine ex Tryz.func171 21 [.tmp 2] rfl<|ae<|ag<|ae<|ag<|ae<|ae<|ag ?_
 refine ar (bZ ((xs.length:Int)-1) (bI (by(first|omega|(simp;omega))) (by(first|omega|(simp;omega)))) rfl) ?_
 refine aP<|bF (ι:={t:Nat×Int // ShInv xs t.1 t.2}) (fun i=>⟨21,[(0,.v (.c (cM xs))),(3,.v (.c (.i .u64 i.1.2))),(4,.v (.c (.i .i64 ((i.1.1:Int)-1))))],[]⟩) (fun i=>i.1.1) ⟨(xs.length,0),⟨Nat.le_refl _,pP 0,by rw[pS];simp⟩⟩ (aA ⟨rfl,rfl,rfl,trivial⟩ trivial rfl) ?_
 rintro⟨⟨j,r⟩,hI⟩
 replace hI:ShInv xs j r:=hI
 have g5:=hI.le
 have g3:=hI.r0
 dsimp only
 refine ae<|ae<|ag ?_
 refine aS rfl (fun hc1=>?_) (fun hc1=>?_)
 ·obtain⟨q,rfl⟩: ∃q,j=q+1:=⟨j-1,by simp only[decide_eq_true_eq] at hc1;omega⟩
  have hS:=hI.step hLxs
  have hB:=hS.bound hLxs
  have g1:=db hLxs q
  refine oC (σ':=⟨21,[(0,.v (.c (cM xs))),(3,.v (.c (.i .u64 r))),(4,.v (.c (.i .i64 (q:Int))))],[]⟩) (aA ⟨rfl,rfl,by rw[show(q:Int)=((q+1:Nat):Int)-1 from by omega];rfl,trivial⟩ trivial rfl) ?_
  refine aB<|ae<|aP<|ag ?_
  refine ar (bZ (r*1000000000) (gO (by(first|omega|(simp;omega))) (by(first|omega|(simp;omega)))) rfl) ?_
  refine ar (bK iV rfl rfl (by(first|omega|(simp;omega))) (jh _) rfl rfl) ?_
  refine ar (ci fl rfl (jV (i:=q) (by(first|omega|(simp;omega)))) rfl) ?_
  refine ar (bv (r:=xs.getD q 0) jn fA rfl (gZ (by(first|omega|(simp;omega))) (by(first|omega|(simp;omega)))) rfl) ?_
  refine ar (bZ ((r*1000000000)+(xs.getD q 0)) (fG (by(first|omega|(simp;omega))) (by(first|omega|(simp;omega)))) rfl) ?_
  refine ag ?_
  refine ar (bZ ((q:Int)-1) (bI (by(first|omega|(simp;omega))) (by(first|omega|(simp;omega)))) rfl) ?_
  exact⟨⟨(q,r*1000000000+xs.getD q 0),hS⟩,aA ⟨rfl,rfl,rfl,trivial⟩ trivial rfl,by show q<q+1;omega⟩
 ·have hz:j=0:=by simp only[decide_eq_false_iff_not] at hc1;omega
  have hfin:val xs=r:=by subst hz;have:=hI.v;simp[val,tD] at this;omega
  refine b7<|ae<|ag<|a9 ?_
  rw[hfin]
  exact ah (ak aa)
theorem Jq {neg:Bool}(hL:Lim xs) (hn:xs.length≤1000000000):Ok Tryz.prog 159 [.c (.b neg),.c (cM xs)] [dI (sg neg (val xs))]:=by
 refine bW Tryz.func159 rfl<|ac rfl (kK hL (by omega)) ?_
 refine jC (bq rfl) (fun c1 hb1=>?_)
 cases c1
 ·have hfin:dI (sg neg (val xs))=.a ([.b false]++[cL (val xs)]):=by rw[hb1,cJ];unfold dI cI;rw[show decide (val xs<0)=false from by have:=cD hL;simp;omega];rfl
  refine ar (az (us:=([.b false]++[cL (val xs)])) I5 H3 rfl rfl rfl) ?_
  refine ah ?_
  rw[hfin]
  exact aQ dJ rfl aa
 ·have hfin:dI (sg neg (val xs))=.a ([.b (decide (((dg (val xs).natAbs).length:Int)>0))]++[cL (val xs)]):=by rw[hb1];exact Tt (cD hL)
  refine ar (az (us:=([.b (decide ((((dg (val xs).natAbs).length:Int))>0))]++[cL (val xs)])) I5 H3 rfl rfl rfl) ?_
  refine ah ?_
  rw[hfin]
  exact aQ dJ rfl aa
theorem O9 (h:0<r):dg r.toNat=(r%1000000000)::dg (r/1000000000).toNat:=by
 rw[AV (by omega)]
 congr 1
 ·omega
 ·congr 1;omega
set_option maxHeartbeats 1000000 in
set_option maxRecDepth 10000 in
theorem If (u:Int) (w:World) (h0:0≤u) (h1:u≤18446744073709551615):
 Calls Tryz.prog 160 #[.int .u64 u] w fun e w'=> ∃v,e=.returned v∧w'.ownsRow w.heap.size 194 1 v (dg u.toNat).length ((dg u.toNat).map (Value.int .u32))∧Below w.heap.size w w':=by
 obtain⟨i0,hi0,hz0,hz1,hz2⟩:=info_parts nt
 have hlen:(dg u.toNat).length≤3:=by
  refine(iZ _).len (bV _) ?_
  rw[ce]
  have h3:pw 3=1000000000000000000000000000:=by decide
  omega
 go_enter Tryz.func160,Tryz.ntmps160
 go_wp2_with fail
 go_loopw [0,3] (fun n v wr=> ∃(r:Int) (k:Nat) (zs:List Int),n=.int .u64 r∧0≤r∧r≤u∧wr.ownsRow w.heap.size 194 1 v k (zs.map (Value.int .u32))∧Below w.heap.size w wr∧Hid (zs.length=k∧dg u.toNat=zs++dg r.toNat))
  (fun n _ _=>(intOf n).toNat)
 case atStart=>exact⟨u,0,[],rfl,h0,pP _,qS _ _ _ _,cU _ _,rfl,rfl⟩
 case round=>
  obtain⟨r,k,zs,rfl,hr0,hru,hown,hbel,H⟩:=hrel
  have hz:=hbel.size
  by_cases hr:0<r
  ·have Hs:Hid ((zs++[r%1000000000]).length=k+1∧dg u.toNat=(zs++[r%1000000000])++dg (r/1000000000).toNat):=by
    obtain⟨l1,l2⟩:=H.out
    refine⟨by simp[l1],?_⟩
    rw[l2,O9 hr];simp
   have hk:k≤3:=by
    obtain⟨l1,l2⟩:=H.out
    rw[l2] at hlen
    simp at hlen;omega
   clear H
   have e1:r.tmod 1000000000=r%1000000000:=qX hr0
   have e2:IntKind.u32.wrap (r%1000000000)=r%1000000000:=r9 (by omega) (by omega)
   have e3:r.tdiv 1000000000=r/1000000000:=tJ hr0
   have e4:IntKind.u64.wrap (r/1000000000)=r/1000000000:=gZ (by omega) (by omega)
   go_wp2_with (at_builtin;go_must (refine wpList_append_own _ rfl _ _ 34 rfl w.heap.size 194 i0 (.int .u32 0) 1 4 oc hi0 hz0 hz1 hz2 rfl (by decide) _ _ _ rfl (hown.alloc _) ⟨wr.heap.size,0,none⟩ 1 1 [.int .u32 _] rfl rfl (cell_one_new _ _ _) (by simp[Value.oneCell']) (by unfold maxLen;omega) (by omega) (by simp;omega) ?_);intro v' w1 hown' hgrow' _)
   go_roundw
   case rel=>exact⟨r/1000000000,k+1,_,by first|rfl|(simp[e3,e4]),by omega,by omega,by simpa using hown',ja hown hbel hz hgrow',Hs⟩
   case measure=>simp[intOf]<;>omega
  ·obtain rfl:r=0:=by omega
   have Hs:Hid (zs.length=k∧dg u.toNat=zs):=by
    obtain⟨l1,l2⟩:=H.out
    refine⟨l1,?_⟩
    rw[l2];simp[kS]
   clear H
   go_wp2
   go_ret
   obtain⟨l1,l2⟩:=Hs.out
   exact⟨_,rfl,by rw[l2,l1];exact hown,hbel⟩
theorem rM (h0:0≤u) (h1:u≤18446744073709551615):Ok Tryz.prog 160 [.c (.i .u64 u)] [.c (cL u)]:=⟨by kernel_rfl,fun av vs w hav h=>by
 obtain⟨vs⟩:=vs
 match vs,h.1,h with
 |[v],_,h=>
  obtain rfl:=fO h.uncons.1
  refine(If u w h0 h1).mono ?_
  rintro e w' ⟨v,rfl,g1,g2⟩
  obtain⟨A,c,rfl⟩:=Bi g1
  refine⟨_,rfl,?_,g2⟩
  have hn:u.natAbs=u.toNat:=by omega
  have hsl:=Ow.sl ⟨g1,bV _⟩
  have:=w9 (av:=av) hsl.1 hsl.2.1 hsl.2.2.1 (fun b off e hV=>by have:=Ow.fresh (k:=w.heap.size) (⟨g1,bV _⟩:Ow w' w.heap.size _ _ _) (cj _) b off e;have:=hav b hV;omega)
  show RdC av w' _ (cL u)
  unfold cL
  rw[hn];exact this⟩
structure DInv (us:List Int) (V:Int) (N j:Nat) (R:Int) (zs:List Int):Prop where
 le:j≤us.length
 R0:0≤R
 RV:R<V
 L:Lim zs
 len:zs.length=N
 hN:us.length≤N
 v:val (us.drop j)=val ((zs.take us.length).drop j)*V+R
theorem DB (h:i<xs.length):val (xs.drop i)=xs.getD i 0+1000000000*val (xs.drop (i+1)):=by
 rw[oD h,dP]
 grind
theorem DInv.start (hV:0<V) (hN:us.length≤N):DInv us V N us.length 0 (List.replicate N 0):=
 ⟨Nat.le_refl _,pP _,hV,Lim.zeros _,by simp,hN,by rw[pg (cj _),pg (by simp;omega)];simp[val]⟩
theorem DInv.step {q R':Int}(h:DInv us V N (i+1) R zs) (_hL:Lim us) (hq0:0≤q) (hq1:q<1000000000) (hR0:0≤R') (hRV:R'<V) (he:us.getD i 0+1000000000*R=q*V+R'):DInv us V N i R' (zs.set i q):=by
 have hi:i<us.length:=h.le
 have hlen:=h.len
 have hN:=h.hN
 refine⟨by omega,hR0,hRV,h.L.set hq0 hq1,by simp[hlen],hN,?_⟩
 have e1:((zs.set i q).take us.length)=(zs.take us.length).set i q:=by rw[List.take_set]
 have hi2:i<((zs.take us.length).set i q).length:=by grind
 rw[DB hi,h.v,e1,DB hi2]
 have e3:((zs.take us.length).set i q).drop (i+1)=(zs.take us.length).drop (i+1):=by rw[Ba (by omega)]
 grind
theorem DInv.done (h:DInv us V N 0 R zs):val us/V=val (zs.take us.length)∧val us%V=R:=by
 have hv:=h.v
 simp only[p9] at hv
 have h0:=h.R0
 have h1:=h.RV
 exact(Int.ediv_emod_unique (show 0<V by omega)).2 ⟨by rw[hv,rE V];omega,h0,h1⟩
theorem C8 (hR:0≤R) (hV:R<V) (hd:0≤d) (hd1:d<1000000000):0≤(d+1000000000*R)/V∧(d+1000000000*R)/V≤999999999:=by
 refine⟨Int.ediv_nonneg (by omega) (by omega),?_⟩
 have:(d+1000000000*R)/V<1000000000:=Int.ediv_lt_of_lt_mul (by omega) (by omega)
 omega
theorem X0 {T hi top:Int}(hV:top*pw n≤V) (htop:0<top) (hT:T<(hi+1)*pw n) (hT0:0≤T) (hVp:0<V):T/V≤hi/top:=by
 have h1:T/V*V≤T:=Int.ediv_mul_le _ (by omega)
 have h0:0≤T/V:=te hT0 (by omega)
 generalize T/V=q at*
 have h2:q*(top*pw n)≤q*V:=lZ hV h0
 have hp:=cH n
 have h3:q*top*pw n<(hi+1)*pw n:=by grind
 have h4:q*top<hi+1:=Int.lt_of_mul_lt_mul_right h3 (by omega)
 exact(Int.le_ediv_iff_mul_le htop).2 (by omega)
structure HInv (rs:List Int) (n:Nat) (H:Int):Prop where
 h0:0≤H
 h1:H≤999999999999999999
 h:val rs<(H+1)*pw (n-1)
theorem Sm (hL:Lim rs) (hn:1≤n) (hl:rs.length=n+1):HInv rs n (rs.getD n 0*1000000000+rs.getD (n-1) 0):=by
 have g1:=db hL n
 have g2:=db hL (n-1)
 refine⟨by omega,by omega,?_⟩
 obtain⟨k,rfl⟩: ∃k,n=k+1:=⟨n-1,by omega⟩
 have e1:=mU (xs:=rs) (k:=k+1) (by omega)
 have e2:=mU (xs:=rs) (k:=k) (by omega)
 rw[cV (by omega),e2] at e1
 have h1:=fe (hL.take k)
 rw[e1,dB]
 grind
theorem Rl (hL:Lim rs) (hn:1≤n) (hl:rs.length=n):HInv rs n (rs.getD (n-1) 0):=by
 have g2:=db hL (n-1)
 refine⟨by omega,by omega,?_⟩
 obtain⟨k,rfl⟩: ∃k,n=k+1:=⟨n-1,by omega⟩
 have e2:=mU (xs:=rs) (k:=k) (by omega)
 have h1:=fe (hL.take k)
 grind
theorem Qs (hL:Lim rs) (hl:rs.length<n):HInv rs n 0:=by
 refine⟨by omega,by omega,?_⟩
 have h1:=fe hL
 have:=lq (n:=rs.length) (m:=n-1) (by omega)
 omega
theorem HQ (hL:Lim vs) (hN:Nrm vs) (hne:vs≠ []):0<vs.getD (vs.length-1) 0∧vs.getD (vs.length-1) 0*pw (vs.length-1)≤val vs:=by
 obtain⟨ys,y,e,hy⟩:=hN.last hne
 have hl:vs.length=ys.length+1:=by grind
 have hk:vs.length-1<vs.length:=by omega
 have e1:=mU hk
 have h1:=cD (hL.take (vs.length-1))
 have h2:=db hL (vs.length-1)
 grind
theorem vq (h0:0≤r) (h:r<pw n):(dg r.natAbs).length≤n:=by
 refine(iZ _).len (bV _) ?_
 rw[ce];omega
theorem Vq {s:Int}(hs:0<s):(x*s)/(y*s)=x/y∧(x*s)%(y*s)=x%y*s:=by
 refine⟨Int.mul_ediv_mul_of_pos_left x y hs,?_⟩
 rw[rE x,rE y,Int.mul_emod_mul_of_pos _ _ hs,rE]
theorem E1 (h:Sz k a):Sz k (a.natAbs:Int):=h.of_le (by omega)
theorem o9 (ha:Sz 100000000 a) (hb:Sz 100000000 b):Ok Tryz.prog 169 [.c (cL a),.c (cL b)] [.c (.i .i64 (d5 a.natAbs b.natAbs))]:=by
 have:=Gh (bV a.natAbs) (bV b.natAbs) (iZ _) (iZ _) (gi ha) (gi hb)
 rw[ce,ce] at this
 exact this
theorem S4 (ha:Sz 100000000 a) (hb:Sz 100000000 b):Ok Tryz.prog 289 [.c (cL a),.c (cL b)] [.c (cL ((a.natAbs:Int)+b.natAbs))]:=by
 have:=O1 (bV a.natAbs) (bV b.natAbs) (gi ha) (gi hb)
 rw[ce,ce] at this
 exact this
theorem xV (ha:Sz 100000000 a) (h:b.natAbs≤a.natAbs):Ok Tryz.prog 283 [.c (cL a),.c (cL b)] [.c (cL ((a.natAbs:Int)-b.natAbs))]:=by
 have:=Lx (bV a.natAbs) (bV b.natAbs) (gi ha) ((iZ _).len (bV _) (by have:=fe (bV a.natAbs);rw[ce] at this⊢;omega)) (by rw[ce,ce];omega)
 rw[ce,ce] at this
 exact this
theorem Nm (ha:Sz 100000000 a) (hb:Sz 100000000 b):Ok Tryz.prog 199 [.c (cL a),.c (cL b)] [.c (cL ((a.natAbs:Int)*b.natAbs))]:=by
 have:=CR (bV a.natAbs) (bV b.natAbs) (gi ha) (gi hb)
 rw[ce,ce] at this
 exact this
theorem aah (ha:Sz 100000000 a) (h0:0≤m) (h1:m<1000000000):Ok Tryz.prog 282 [.c (cL a),.c (.i .u32 m)] [.c (cL ((a.natAbs:Int)*m))]:=by
 have:=IF (bV a.natAbs) (gi ha) h0 h1
 rw[ce] at this
 exact this
theorem iF {neg:Bool}(ha:Sz 100000000 a):Ok Tryz.prog 159 [.c (.b neg),.c (cL a)] [dI (sg neg (a.natAbs:Int))]:=by
 have:=Jq (neg:=neg) (bV a.natAbs) (by have:=gi ha;omega)
 rw[ce] at this
 exact this
theorem Nd (hr:0≤r) (h0:0≤d) (h1:d<1000000000) (hl:(dg r.natAbs).length≤100000000):Ok Tryz.prog 168 [.c (cM (d::dg r.natAbs))] [.c (cL (d+1000000000*r))]:=by
 have:=kK (Lim.cons h0 h1 (bV r.natAbs)) (by simp;omega)
 rw[dP,ce] at this
 rw[show((r.natAbs:Nat):Int)=r from by omega] at this
 exact this
theorem GH (ha:a.natAbs≤18446744073709551615):Ok Tryz.prog 171 [.c (cL a)] [.c (.i .u64 (a.natAbs:Int))]:=by
 have:=zQ (bV a.natAbs) (by have h3:pw 3=1000000000000000000000000000:=by decide
                            have:=(iZ a.natAbs).len (bV _) (k:=3) (by rw[ce];omega)
                            omega) (by rw[ce];omega)
 rw[ce] at this
 exact this
theorem LM (hLxs:Lim xs) (hLys:Lim ys) (_nX:Nrm xs) (nY:Nrm ys) (hn:xs.length≤20000000) (hm:ys.length≤20000000) (hy0:ys≠ []):Ok Tryz.prog 170 [.c (cM xs),.c (cM ys)] [.c (cL (val xs/val ys)),.c (cL (val xs%val ys))]:=by
 have hyl:1≤ys.length:=by have:=List.length_pos_iff.2 hy0;omega
 obtain⟨htop,htopv⟩:=HQ hLys nY hy0
 have hB1:=db hLys (ys.length-1)
 have hvy0:0<val ys:=by have h2:=lZ (cH (ys.length-1)) (show 0≤ys.getD (ys.length-1) 0 by omega);omega
 have hvx0:=cD hLxs
 obtain⟨B,hB⟩: ∃B,ys.getD (ys.length-1) 0=B:=⟨_,rfl⟩
 rw[hB] at htop hB1 htopv
 obtain⟨s,hs⟩: ∃s,1000000000/(B+1)=s:=⟨_,rfl⟩
 have hs1:1≤s:=by rw[←hs];exact(Int.le_ediv_iff_mul_le (by omega)).2 (by omega)
 have hs2:s≤500000000:=by rw[←hs];exact Int.ediv_le_of_le_mul (by omega) (by omega)
 obtain⟨V,hV⟩: ∃V,val ys*s=V:=⟨_,rfl⟩
 obtain⟨W,hW⟩: ∃W,val xs*s=W:=⟨_,rfl⟩
 have hV0:0<V:=by rw[←hV];exact p5 hvy0 (by omega)
 have hW0:0≤W:=by rw[←hW];exact fK hvx0 (by omega)
 have eV:(V.natAbs:Int)=V:=by omega
 have eW:(W.natAbs:Int)=W:=by omega
 have hVb:V<pw (ys.length+1):=by
  have h1:=fe hLys
  have h2:val ys*s≤val ys*1000000000:=lZ (by omega) (by omega)
  rw[dB];omega
 have hWb:W<pw (xs.length+1):=by
  have h1:=fe hLxs
  have h2:val xs*s≤val xs*1000000000:=lZ (by omega) (by omega)
  rw[dB];omega
 have hVlen:(dg V.natAbs).length≤ys.length+1:=vq (by omega) hVb
 have hWlen:(dg W.natAbs).length≤xs.length+1:=vq hW0 hWb
 have hVne:dg V.natAbs≠ []:=fun e=>by have:=dV.1 e;omega
 have hVl1:1≤(dg V.natAbs).length:=by have:=List.length_pos_iff.2 hVne;omega
 obtain⟨htop2,htopv2⟩:=HQ (bV V.natAbs) (iZ _) hVne
 have hB2:=db (bV V.natAbs) ((dg V.natAbs).length-1)
 rw[ce,eV] at htopv2
 obtain⟨top,ht⟩: ∃top,(dg V.natAbs).getD ((dg V.natAbs).length-1) 0=top:=⟨_,rfl⟩
 rw[ht] at htop2 htopv2 hB2
 obtain⟨n,hnl⟩: ∃n,(dg V.natAbs).length=n:=⟨_,rfl⟩
 rw[hnl] at hVlen hVl1 htopv2 ht
 have hVlt:V<pw n:=by have:=fe (bV V.natAbs);rw[ce,eV,hnl] at this;exact this
 obtain⟨hq1,hq2⟩:=Vq (x:=val xs) (y:=val ys) (s:=s) (by omega)
 rw[hV,hW] at hq1 hq2
 have szV:Sz 100000000 V:=⟨by have:=lq (n:=ys.length+1) (m:=100000000) (by omega);omega,by have:=cH 100000000;omega⟩
 have hby1:Ok Tryz.prog 282 [.c (cM ys),.c (.i .u32 s)] [.c (cL V)]:=by rw[←hV];exact IF hLys (by omega) (by omega) (by omega)
 have hby2:Ok Tryz.prog 282 [.c (cM xs),.c (.i .u32 s)] [.c (cL W)]:=by rw[←hW];exact IF hLxs (by omega) (by omega) (by omega)
 have hbyV: ∀g:Int,0≤g→g<1000000000→Ok Tryz.prog 282 [.c (cL V),.c (.i .u32 g)] [.c (cL (V*g))]:=fun g h0 h1=>by have:=aah szV h0 h1;rw[eV] at this;exact this
 refine ex Tryz.func170 173 [.tmp 4,.tmp 5] rfl<|ae<|ag ?_
 refine oO (ι:=Unit) (fun i=>⟨173,[(0,.v (.c (cM xs))),(1,.v (.c (cM ys)))],[]⟩) ?_ ?_
 ·refine ae<|ag ?_
  refine jC (bq rfl) (fun c1 hb1=>?_)
  cases c1
  ·refine bn rfl<|aB ?_
   exact⟨(),aA ⟨rfl,rfl,trivial⟩ trivial rfl⟩
  ·have ha2:xs.length≤2:=by simp only[decide_eq_true_eq] at hb1;omega
   refine aS rfl (fun hc2=>?_) (fun hc2=>?_)
   ·have hb2:ys.length≤2:=by simp only[decide_eq_true_eq] at hc2;omega
    have hp2:pw 2=1000000000000000000:=by decide
    have hvx2:=fe hLxs
    have hvy2:=fe hLys
    have hp3:=lq (n:=xs.length) (m:=2) ha2
    have hp4:=lq (n:=ys.length) (m:=2) hb2
    have hd0:0≤val xs/val ys:=te (by omega) (by omega)
    have hd1:val xs/val ys≤val xs:=Int.ediv_le_self _ (by omega)
    have hd2:val xs/val ys≤18446744073709551615:=by omega
    have hm0:0≤val xs%val ys:=n9 _ (by omega)
    have hm1:val xs%val ys<val ys:=nB _ (by omega)
    have hm2:val xs%val ys≤18446744073709551615:=by omega
    refine ae<|ag<|ac rfl (zQ hLxs (by omega) (by omega))<|ac rfl (zQ hLys (by omega) (by omega))<|ae<|fb 10 []<|aq (jI (r:=val xs/val ys) rfl rfl (by omega) (by rw[tJ (by omega)];exact gZ (by omega) (by omega)) rfl) ?_
    refine aC rfl (rM (by assumption) (by assumption))<|aq (l8 (r:=val xs%val ys) rfl rfl (by omega) (qX hvx0) rfl) ?_
    refine aC rfl (rM (by assumption) (by assumption))<|a9 ?_
    exact ah (ak (ak aa))
   ·refine aB ?_
    exact⟨(),aA ⟨rfl,rfl,trivial⟩ trivial rfl⟩
 ·rintro⟨⟩
  try dsimp only
  refine ae<|ag ?_
  refine ar (bZ (((ys.length-1:Nat):Int)) (by rw[show((ys.length-1:Nat):Int)=(ys.length:Int)-1 from by omega];exact bI (by omega) (by omega)) rfl) ?_
  refine ar (bK iV rfl rfl (by(first|omega|(simp;omega))) (jh _) rfl rfl) ?_
  refine ar (ci fl rfl (jV (i:=(ys.length-1)) (by(first|omega|(simp;omega)))) rfl) ?_
  refine ar (bv (r:=B) jn fA rfl (by rw[hB];exact gZ (by omega) (by omega)) rfl) ?_
  refine ar (bZ (B+1) (fG (by(first|omega|(simp;omega))) (by(first|omega|(simp;omega)))) rfl) ?_
  refine ar (jI (r:=s) rfl rfl (by omega) (by rw[tJ (by omega),hs];exact gZ (by omega) (by omega)) rfl) ?_
  refine ar (bv (r:=s) fA jn rfl (r9 (by omega) (by omega)) rfl) ?_
  refine ae<|ag<|ac rfl (hby1)<|ae<|ag ?_
  refine ar (bZ (((n-1:Nat):Int)) (by rw[hnl,show((n-1:Nat):Int)=(n:Int)-1 from by omega];exact bI (by omega) (by omega)) rfl) ?_
  refine ar (bK iV rfl rfl (by(first|omega|(simp;omega))) (jh _) rfl rfl) ?_
  refine ar (ci fl rfl (jV (i:=(n-1)) (by(first|omega|(simp;omega)))) rfl) ?_
  refine ar (bv (r:=top) jn fA rfl (by rw[ht];exact gZ (by omega) (by omega)) rfl) ?_
  refine ae<|ag<|ae<|ag ?_
  refine ar (bZ ((xs.length:Int)+1) (bm (by(first|omega|(simp;omega))) (by(first|omega|(simp;omega)))) rfl) ?_
  refine DL.mk<|pD (kg (n:=xs.length+1) xm rfl rfl (by omega) (by omega) rfl) rfl<|eQ ?_
  refine ae<|ag<|ac rfl (hby2)<|ae<|ag ?_
  refine ar (u9 (q:=((dg W.natAbs).length)) iV rfl rfl (by(first|omega|(simp;omega))) rfl) ?_
  refine ae<|ae<|ag ?_
  refine ar (bZ ((((dg W.natAbs).length:Int))-1) (bI (by(first|omega|(simp;omega))) (by(first|omega|(simp;omega)))) rfl) ?_
  refine aP<|bF (ι:={t:Nat×Int×List Int // DInv (dg W.natAbs) V (xs.length+1) t.1 t.2.1 t.2.2}) (fun i=>⟨173,[(8,.v (.c (.i .u32 s))),(9,.v (.c (cL V))),(10,.v (.c (.i .u64 top))),(11,.v (.c (cL i.1.2.1))),(12,.o 64 ((dg W.natAbs).length) (xs.length+1)),(13,.v (.c (cL W))),(14,.v (.c (.i .i64 ((i.1.1:Int)-1))))],[(64,194,i.1.2.2.map (CellD.i .u32))]⟩) (fun i=>i.1.1) ⟨((dg W.natAbs).length,0,List.replicate (xs.length+1) 0),DInv.start hV0 hWlen⟩ (aA ⟨rfl,rfl,rfl,by rw[show cL 0=.s 0 [] from by unfold cL;rw[show(0:Int).natAbs=0 from rfl,kS];rfl];rfl,rfl,rfl,rfl,trivial⟩ ⟨by rw[show(List.replicate (xs.length+1) (CellD.i .u32 0))=(List.replicate (xs.length+1) 0).map (CellD.i .u32) from by simp];rfl,trivial⟩ rfl) ?_
  rintro⟨⟨j,R,zs⟩,hI⟩
  replace hI:DInv (dg W.natAbs) V (xs.length+1) j R zs:=hI
  have g6:=hI.len
  have gR0:=hI.R0
  have gRV:=hI.RV
  have gle:=hI.le
  have eR:(R.natAbs:Int)=R:=by omega
  have hRlen:(dg R.natAbs).length≤n:=vq gR0 (by omega)
  dsimp only
  refine ae<|ae<|ag ?_
  refine aS rfl (fun hc3=>?_) (fun hc3=>?_)
  ·obtain⟨q,rfl⟩: ∃q,j=q+1:=⟨j-1,by simp only[decide_eq_true_eq] at hc3;omega⟩
   have gd:=db (bV W.natAbs) q
   obtain⟨T,hT⟩: ∃T,(dg W.natAbs).getD q 0+1000000000*R=T:=⟨_,rfl⟩
   have hT0:0≤T:=by omega
   have eT:(T.natAbs:Int)=T:=by omega
   have htrim:Ok Tryz.prog 168 [.c (cM ((dg W.natAbs).getD q 0::dg R.natAbs))] [.c (cL T)]:=by rw[←hT];exact Nd gR0 gd.1 gd.2 (by omega)
   have hTb:T<pw (n+1):=by rw[dB];omega
   have hTlen:(dg T.natAbs).length≤n+1:=vq hT0 hTb
   have szT:Sz 100000000 T:=⟨by have:=lq (n:=n+1) (m:=100000000) (by omega);omega,by have:=cH 100000000;omega⟩
   have hquo:=C8 gR0 gRV gd.1 gd.2
   rw[hT] at hquo
   have gt1:=db (bV T.natAbs) (dg V.natAbs).length
   have gt2:=db (bV T.natAbs) (n-1)
   refine oC (σ':=⟨173,[(8,.v (.c (.i .u32 s))),(9,.v (.c (cL V))),(10,.v (.c (.i .u64 top))),(11,.v (.c (cL R))),(12,.o 64 ((dg W.natAbs).length) (xs.length+1)),(13,.v (.c (cL W))),(14,.v (.c (.i .i64 (q:Int))))],[(64,194,zs.map (CellD.i .u32))]⟩) (aA ⟨rfl,rfl,rfl,rfl,rfl,rfl,by rw[show(q:Int)=((q+1:Nat):Int)-1 from by omega];rfl,trivial⟩ ⟨rfl,trivial⟩ rfl) ?_
   refine aB<|ae<|aP<|ae<|ag ?_
   refine ar (bK iV rfl rfl (by(first|omega|(simp;omega))) (jh _) rfl rfl) ?_
   refine ar (ci fl rfl (jV (i:=q) (by(first|omega|(simp;omega)))) rfl) ?_
   refine DL.mk<|pD (qd (us:=[.i .u32 ((dg W.natAbs).getD q 0)]) xm rfl rfl (by decide) (by decide) rfl) rfl<|eQ ?_
   refine DL.mk<|WD (CP (rs:=dg R.natAbs) xm rfl rfl rfl (by omega) rfl)<|eQ ?_
   refine ac rfl (htrim)<|ae<|ag ?_
   refine oO (ι:={H:Int // H=if n<(dg T.natAbs).length then(dg T.natAbs).getD n 0*1000000000 else 0}) (fun i=>⟨173,[(8,.v (.c (.i .u32 s))),(9,.v (.c (cL V))),(10,.v (.c (.i .u64 top))),(11,.v (.c (cL T))),(12,.o 64 ((dg W.natAbs).length) (xs.length+1)),(13,.v (.c (cL W))),(14,.v (.c (.i .i64 (q:Int)))),(15,.v (.c (.i .u64 i.1)))],[(64,194,zs.map (CellD.i .u32))]⟩) ?_ ?_
   ·refine ae<|ag ?_
    refine aS rfl (fun hc4=>?_) (fun hc4=>?_)
    ·have hlt:(dg V.natAbs).length<(dg T.natAbs).length:=by simp only[decide_eq_true_eq] at hc4;omega
     refine ag ?_
     refine ar (bK iV rfl rfl (by(first|omega|(simp;omega))) (jh _) rfl rfl) ?_
     refine ar (ci fl rfl (jV (i:=((dg V.natAbs).length)) (by(first|omega|(simp;omega)))) rfl) ?_
     refine ar (bv (r:=(dg T.natAbs).getD (((dg V.natAbs).length)) 0) jn fA rfl (gZ (by(first|omega|(simp;omega))) (by(first|omega|(simp;omega)))) rfl) ?_
     refine ar (bZ (((dg T.natAbs).getD (((dg V.natAbs).length)) 0)*1000000000) (gO (by(first|omega|(simp;omega))) (by(first|omega|(simp;omega)))) rfl) ?_
     exact⟨⟨(dg T.natAbs).getD (dg V.natAbs).length 0*1000000000,by rw[hnl] at*;rw[if_pos (by have:=hc4;simp only[decide_eq_true_eq] at this;omega)]⟩,aA ⟨rfl,rfl,rfl,rfl,rfl,rfl,rfl,rfl,trivial⟩ ⟨rfl,trivial⟩ rfl⟩
    ·refine aB ?_
     exact⟨⟨0,by rw[if_neg (by have:=hc4;simp only[decide_eq_false_iff_not] at this;omega)]⟩,aA ⟨rfl,rfl,rfl,rfl,rfl,rfl,rfl,rfl,trivial⟩ ⟨rfl,trivial⟩ rfl⟩
   ·rintro⟨H1,hH1⟩
    replace hH1:H1=if n<(dg T.natAbs).length then(dg T.natAbs).getD n 0*1000000000 else 0:=hH1
    rw[hnl] at gt1
    have hHb:0≤H1∧H1≤999999999000000000:=by rw[hH1];split<;>omega
    dsimp only
    refine oO (ι:={H:Int // HInv (dg T.natAbs) n H}) (fun i=>⟨173,[(8,.v (.c (.i .u32 s))),(9,.v (.c (cL V))),(10,.v (.c (.i .u64 top))),(11,.v (.c (cL T))),(12,.o 64 ((dg W.natAbs).length) (xs.length+1)),(13,.v (.c (cL W))),(14,.v (.c (.i .i64 (q:Int)))),(15,.v (.c (.i .u64 i.1)))],[(64,194,zs.map (CellD.i .u32))]⟩) ?_ ?_
    ·refine ae<|ag ?_
     refine aS rfl (fun hc5=>?_) (fun hc5=>?_)
     ·have hlt:n≤(dg T.natAbs).length:=by simp only[decide_eq_true_eq] at hc5;omega
      have hHT:HInv (dg T.natAbs) n (H1+(dg T.natAbs).getD (n-1) 0):=by
       rcases kH n (dg T.natAbs).length with h1|h1
       ·rw[hH1,if_pos h1];exact Sm (bV _) (by omega) (by omega)
       ·rw[hH1,if_neg (by omega),Int.zero_add];exact Rl (bV _) (by omega) (by omega)
      refine ag ?_
      refine ar (bZ (((n-1:Nat):Int)) (by rw[hnl,show((n-1:Nat):Int)=(n:Int)-1 from by omega];exact bI (by omega) (by omega)) rfl) ?_
      refine ar (bK iV rfl rfl (by(first|omega|(simp;omega))) (jh _) rfl rfl) ?_
      refine ar (ci fl rfl (jV (i:=(n-1)) (by(first|omega|(simp;omega)))) rfl) ?_
      refine ar (bv (r:=(dg T.natAbs).getD (n-1) 0) jn fA rfl (gZ (by(first|omega|(simp;omega))) (by(first|omega|(simp;omega)))) rfl) ?_
      refine ar (bZ (H1+((dg T.natAbs).getD (n-1) 0)) (fG (by(first|omega|(simp;omega))) (by(first|omega|(simp;omega)))) rfl) ?_
      exact⟨⟨H1+(dg T.natAbs).getD (n-1) 0,hHT⟩,aA ⟨rfl,rfl,rfl,rfl,rfl,rfl,rfl,rfl,trivial⟩ ⟨rfl,trivial⟩ rfl⟩
     ·have hHF:HInv (dg T.natAbs) n H1:=by
       simp only[decide_eq_false_iff_not] at hc5
       rw[hH1,if_neg (by omega)];exact Qs (bV _) (by omega)
      refine aB ?_
      exact⟨⟨H1,hHF⟩,aA ⟨rfl,rfl,rfl,rfl,rfl,rfl,rfl,rfl,trivial⟩ ⟨rfl,trivial⟩ rfl⟩
    ·rintro⟨H,hH⟩
     replace hH:HInv (dg T.natAbs) n H:=hH
     have hHa:=hH.h0
     have hHc:=hH.h1
     have hHh:=hH.h
     rw[ce,eT] at hHh
     have hest:=X0 htopv2 htop2 hHh hT0 hV0
     have hq0:0≤H/top:=te (by omega) (by omega)
     have hq9:H/top≤H:=Int.ediv_le_self _ (by omega)
     dsimp only
     refine ae<|ag<|ar (jI (r:=H/top) rfl rfl (by omega) (by rw[tJ (by omega)];exact gZ (by omega) (by omega)) rfl) ?_
     refine oO (ι:={g:Int // T/V≤g∧g≤999999999}) (fun i=>⟨173,[(8,.v (.c (.i .u32 s))),(9,.v (.c (cL V))),(10,.v (.c (.i .u64 top))),(11,.v (.c (cL T))),(12,.o 64 ((dg W.natAbs).length) (xs.length+1)),(13,.v (.c (cL W))),(14,.v (.c (.i .i64 (q:Int)))),(16,.v (.c (.i .u64 i.1)))],[(64,194,zs.map (CellD.i .u32))]⟩) ?_ ?_
     ·refine ae<|ag ?_
      refine aS rfl (fun hc6=>?_) (fun hc6=>?_)
      ·refine ag ?_
       exact⟨⟨999999999,hquo.2,pP _⟩,aA ⟨rfl,rfl,rfl,rfl,rfl,rfl,rfl,rfl,trivial⟩ ⟨rfl,trivial⟩ rfl⟩
      ·refine aB ?_
       exact⟨⟨H/top,hest,by have:=hc6;simp only[decide_eq_false_iff_not] at this;omega⟩,aA ⟨rfl,rfl,rfl,rfl,rfl,rfl,rfl,rfl,trivial⟩ ⟨rfl,trivial⟩ rfl⟩
     ·rintro⟨g,hg⟩
      replace hg:T/V≤g∧g≤999999999:=hg
      dsimp only
      refine ae<|ag<|ar (bv (r:=g) fA jn rfl (r9 (by omega) (by omega)) rfl) ?_
      refine ac rfl (hbyV g (by omega) (by omega))<|ae<|aP<|bF (ι:={g:Int // T/V≤g∧g≤999999999}) (fun i=>⟨173,[(8,.v (.c (.i .u32 s))),(9,.v (.c (cL V))),(10,.v (.c (.i .u64 top))),(11,.v (.c (cL T))),(12,.o 64 ((dg W.natAbs).length) (xs.length+1)),(13,.v (.c (cL W))),(14,.v (.c (.i .i64 (q:Int)))),(16,.v (.c (.i .u64 i.1))),(17,.v (.c (cL (V*i.1))))],[(64,194,zs.map (CellD.i .u32))]⟩) (fun i=>i.1.toNat) ⟨g,hg⟩ (aA ⟨rfl,rfl,rfl,rfl,rfl,rfl,rfl,rfl,rfl,trivial⟩ ⟨rfl,trivial⟩ rfl) ?_
      rintro⟨g,hg⟩
      replace hg:T/V≤g∧g≤999999999:=hg
      have hVg0:0≤V*g:=fK (by omega) (by omega)
      have eVg:((V*g).natAbs:Int)=V*g:=by omega
      have hVgb:V*g≤V*1000000000:=lZ (by omega) (by omega)
      have szP:Sz 100000000 (V*g):=⟨by have:=lq (n:=n+1) (m:=100000000) (by omega);rw[dB] at this;omega,by have:=cH 100000000;omega⟩
      have hcmp:Ok Tryz.prog 169 [.c (cL (V*g)),.c (cL T)] [.c (.i .i64 (d5 (V*g) T))]:=by have:=o9 szP szT;rw[eVg,eT] at this;exact this
      dsimp only
      refine ae<|ae<|ag<|ac rfl (hcmp) ?_
      refine aS rfl (fun hc7=>?_) (fun hc7=>?_)
      ·have hgt:T<V*g:=by simp only[decide_eq_true_eq] at hc7;rcases qM (V*g) T with h1|h1|h1<;>first|(rw[et h1] at hc7;omega)|(rw[jE h1] at hc7;omega)|exact h1
       have hg2:T/V≤g-1:=by have:T/V<g:=(Int.ediv_lt_iff_lt_mul hV0).2 (by rw[rE];exact hgt);omega
       have hVm:V*(g-1)=V*g-V:=by rw[Int.mul_sub,ri]
       have hVm0:0≤V*(g-1):=fK (by omega) (by omega)
       have hmin:Ok Tryz.prog 283 [.c (cL (V*g)),.c (cL V)] [.c (cL (V*(g-1)))]:=by have:=xV (b:=V) szP (by omega);rw[eVg,eV,←hVm] at this;exact this
       refine aB<|aP<|ae<|ag ?_
       refine ar (bZ (g-1) (Gb (by(first|omega|(simp;omega))) (by(first|omega|(simp;omega)))) rfl) ?_
       refine ag<|ac rfl (hmin) ?_
       exact⟨⟨g-1,hg2,by omega⟩,aA ⟨rfl,rfl,rfl,rfl,rfl,rfl,rfl,rfl,rfl,trivial⟩ ⟨rfl,trivial⟩ rfl,by show(g-1).toNat<g.toNat;omega⟩
      ·have hle:V*g≤T:=by simp only[decide_eq_false_iff_not] at hc7;rcases qM (V*g) T with h1|h1|h1<;>first|omega|(rw[eM h1] at hc7;omega)
       have hgq:g=T/V:=by have:g≤T/V:=(Int.le_ediv_iff_mul_le hV0).2 (by rw[rE];exact hle);omega
       have hr0:0≤T-V*g:=by omega
       have hr1:T-V*g<V:=by have:=nB T hV0;have h2:=qV T V;rw[←hgq] at h2;omega
       have hmin:Ok Tryz.prog 283 [.c (cL T),.c (cL (V*g))] [.c (cL (T-V*g))]:=by have:=xV (b:=V*g) szT (by omega);rw[eVg,eT] at this;exact this
       refine b7<|ae<|ag<|ac rfl (hmin)<|bz<|bQ 3<|aW (bv (r:=g) fA jn rfl (r9 (by omega) (by omega)) rfl) ?_
       refine aW (bk iV rfl rfl (by(first|omega|(simp;omega))) rfl) ?_
       refine iu (aY (us:=(zs.set q g).map (CellD.i .u32)) fl rfl rfl rfl rfl (by simp;omega) (qN (by(first|omega|(simp;omega)))) rfl) ?_
       refine bD<|ag ?_
       refine ar (bZ ((q:Int)-1) (bI (by(first|omega|(simp;omega))) (by(first|omega|(simp;omega)))) rfl) ?_
       exact⟨⟨(q,T-V*g,zs.set q g),hI.step (bV _) (by omega) (by omega) hr0 hr1 (by rw[hT];show T=g*V+(T-V*g);rw[rE g V];omega)⟩,aA ⟨rfl,rfl,rfl,rfl,rfl,rfl,rfl,trivial⟩ ⟨rfl,trivial⟩ rfl,by show q<q+1;omega⟩
  ·have hj0:j=0:=by simp only[decide_eq_false_iff_not] at hc3;omega
   subst hj0
   obtain⟨d1,d2⟩:=hI.done
   rw[ce,eW] at d1 d2
   refine b7<|ae<|ag<|ae<|ag ?_
   refine DL.mk<|pD (kg (n:=((dg R.natAbs).length)) xm rfl rfl (by omega) (by omega) rfl) rfl<|eQ ?_
   refine ae<|ae<|ag ?_
   refine ar (bZ ((((dg R.natAbs).length:Int))-1) (bI (by(first|omega|(simp;omega))) (by(first|omega|(simp;omega)))) rfl) ?_
   refine aP<|bF (ι:={t:Nat×Int×List Int // DInv (dg R.natAbs) s (dg R.natAbs).length t.1 t.2.1 t.2.2}) (fun i=>⟨173,[(8,.v (.c (.i .u32 s))),(11,.v (.c (cL R))),(12,.o 64 ((dg W.natAbs).length) (xs.length+1)),(18,.v (.c (.i .u64 i.1.2.1))),(19,.o 141 ((dg R.natAbs).length) ((dg R.natAbs).length)),(20,.v (.c (.i .i64 ((i.1.1:Int)-1))))],[(64,194,zs.map (CellD.i .u32)),(141,194,i.1.2.2.map (CellD.i .u32))]⟩) (fun i=>i.1.1) ⟨((dg R.natAbs).length,0,List.replicate (dg R.natAbs).length 0),DInv.start (by omega) (cj _)⟩ (aA ⟨rfl,rfl,rfl,rfl,rfl,rfl,trivial⟩ ⟨rfl,by rw[show(List.replicate (dg R.natAbs).length (CellD.i .u32 0))=(List.replicate (dg R.natAbs).length 0).map (CellD.i .u32) from by simp];rfl,trivial⟩ rfl) ?_
   rintro⟨⟨j2,c,ls⟩,hI2⟩
   replace hI2:DInv (dg R.natAbs) s (dg R.natAbs).length j2 c ls:=hI2
   have k6:=hI2.len
   have k0:=hI2.R0
   have k1:=hI2.RV
   have kle:=hI2.le
   dsimp only
   refine ae<|ae<|ag ?_
   refine aS rfl (fun hc8=>?_) (fun hc8=>?_)
   ·obtain⟨q2,rfl⟩: ∃q,j2=q+1:=⟨j2-1,by simp only[decide_eq_true_eq] at hc8;omega⟩
    have gd:=db (bV R.natAbs) q2
    have hb0:=C8 k0 k1 gd.1 gd.2
    rw[show(dg R.natAbs).getD q2 0+1000000000*c=c*1000000000+(dg R.natAbs).getD q2 0 from by omega] at hb0
    have hd20:0≤(c*1000000000+(dg R.natAbs).getD q2 0)/s:=hb0.1
    have hd21:(c*1000000000+(dg R.natAbs).getD q2 0)/s<1000000000:=by omega
    have hr20:0≤(c*1000000000+(dg R.natAbs).getD q2 0)%s:=n9 _ (by omega)
    have hr21:(c*1000000000+(dg R.natAbs).getD q2 0)%s<s:=nB _ (by omega)
    refine oC (σ':=⟨173,[(8,.v (.c (.i .u32 s))),(11,.v (.c (cL R))),(12,.o 64 ((dg W.natAbs).length) (xs.length+1)),(18,.v (.c (.i .u64 c))),(19,.o 141 ((dg R.natAbs).length) ((dg R.natAbs).length)),(20,.v (.c (.i .i64 (q2:Int))))],[(64,194,zs.map (CellD.i .u32)),(141,194,ls.map (CellD.i .u32))]⟩) (aA ⟨rfl,rfl,rfl,rfl,rfl,by rw[show(q2:Int)=((q2+1:Nat):Int)-1 from by omega];rfl,trivial⟩ ⟨rfl,rfl,trivial⟩ rfl) ?_
    refine aB<|ae<|aP<|ae<|ag ?_
    refine ar (bZ (c*1000000000) (gO (by(first|omega|(simp;omega))) (by(first|omega|(simp;omega)))) rfl) ?_
    refine ar (bK iV rfl rfl (by(first|omega|(simp;omega))) (jh _) rfl rfl) ?_
    refine ar (ci fl rfl (jV (i:=q2) (by(first|omega|(simp;omega)))) rfl) ?_
    refine ar (bv (r:=(dg R.natAbs).getD q2 0) jn fA rfl (gZ (by(first|omega|(simp;omega))) (by(first|omega|(simp;omega)))) rfl) ?_
    refine ar (bZ ((c*1000000000)+((dg R.natAbs).getD q2 0)) (fG (by(first|omega|(simp;omega))) (by(first|omega|(simp;omega)))) rfl) ?_
    refine ae<|bz<|bQ 4 ?_
    refine aW (bv (r:=s) jn fA rfl (gZ (by(first|omega|(simp;omega))) (by(first|omega|(simp;omega)))) rfl) ?_
    refine aW (jI (r:=(c*1000000000+(dg R.natAbs).getD q2 0)/s) rfl rfl (by omega) (by rw[tJ (by omega)];exact gZ (by omega) (by omega)) rfl) ?_
    refine aW (bv (r:=(c*1000000000+(dg R.natAbs).getD q2 0)/s) fA jn rfl (r9 (by omega) (by omega)) rfl) ?_
    refine aW (bk iV rfl rfl (by(first|omega|(simp;omega))) rfl) ?_
    refine iu (aY (us:=(ls.set q2 ((c*1000000000+(dg R.natAbs).getD q2 0)/s)).map (CellD.i .u32)) fl rfl rfl rfl rfl (by simp;omega) (qN (by(first|omega|(simp;omega)))) rfl) ?_
    refine bD<|ag ?_
    refine ar (bv (r:=s) jn fA rfl (gZ (by(first|omega|(simp;omega))) (by(first|omega|(simp;omega)))) rfl) ?_
    refine ar (l8 (r:=(c*1000000000+(dg R.natAbs).getD q2 0)%s) rfl rfl (by omega) (qX (by omega)) rfl) ?_
    refine ag ?_
    refine ar (bZ ((q2:Int)-1) (bI (by(first|omega|(simp;omega))) (by(first|omega|(simp;omega)))) rfl) ?_
    exact⟨⟨(q2,(c*1000000000+(dg R.natAbs).getD q2 0)%s,ls.set q2 ((c*1000000000+(dg R.natAbs).getD q2 0)/s)),hI2.step (bV _) hd20 hd21 hr20 hr21 (by rw[rE ((c*1000000000+(dg R.natAbs).getD q2 0)/s) s,qV];omega)⟩,aA ⟨rfl,rfl,rfl,rfl,rfl,rfl,trivial⟩ ⟨rfl,rfl,trivial⟩ rfl,by show q2<q2+1;omega⟩
   ·have hj0:j2=0:=by simp only[decide_eq_false_iff_not] at hc8;omega
    subst hj0
    obtain⟨d3,d4⟩:=hI2.done
    rw[ce,eR,jY (by omega)] at d3
    have f1:val xs/val ys=val (zs.take (dg W.natAbs).length):=by rw[←hq1,d1]
    have f2:val xs%val ys=val ls:=by rw[←d3,←d2,hq2,Int.mul_ediv_cancel _ (by omega)]
    have hLo:Lim (zs.take (dg W.natAbs).length):=hI.L.take _
    have hLl:=hI2.L
    refine b7<|ae ?_
    refine vT (t:=12) (zs:=zs) (ys:=zs.take ((dg W.natAbs).length)) rfl rfl (by first|omega|(simp;omega)|simp) (by omega) (by omega) (rfl) ?_
    refine vT (t:=19) (zs:=ls) (ys:=ls) rfl rfl (by first|omega|(simp;omega)|simp) (by omega) (by omega) (jY (by first|omega|(simp;omega)|simp)) ?_
    refine ag<|ac rfl (kK hLo (by simp<;>omega))<|ac rfl (kK hLl (by omega))<|a9 ?_
    rw[f1,f2]
    exact ah (ak (ak aa))
theorem NI (x:Int):cL x=cL ((x.natAbs:Nat):Int):=rfl
theorem BL (ha:Sz 20000000 a) (hb:Sz 20000000 b) (h0:b≠0):Ok Tryz.prog 170 [.c (cL a),.c (cL b)] [.c (cL ((a.natAbs:Int)/b.natAbs)),.c (cL ((a.natAbs:Int)%b.natAbs))]:=by
 have:=LM (bV a.natAbs) (bV b.natAbs) (iZ _) (iZ _) (gi ha) (gi hb) (fun e=>by have:=dV.1 e;omega)
 rw[ce,ce] at this
 exact this
theorem Tu (h:(decide (x<0)==decide (y<0))=true):sg (decide (x<0)) ((((x.natAbs:Int)+y.natAbs).natAbs:Nat):Int)=x+y:=by
 by_cases h1:x<0<;>by_cases h2:y<0<;>simp[h1,h2,sg] at h⊢ <;>omega
theorem ZU (h:(decide (x<0)==decide (y<0))=false) (hg:y.natAbs≤x.natAbs):sg (decide (x<0)) ((((x.natAbs:Int)-y.natAbs).natAbs:Nat):Int)=x+y:=by
 by_cases h1:x<0<;>by_cases h2:y<0<;>simp[h1,h2,sg] at h⊢ <;>omega
theorem aaq (h:(decide (x<0)==decide (y<0))=false) (hg:x.natAbs<y.natAbs):sg (decide (y<0)) ((((y.natAbs:Int)-x.natAbs).natAbs:Nat):Int)=x+y:=by
 by_cases h1:x<0<;>by_cases h2:y<0<;>simp[h1,h2,sg] at h⊢ <;>omega
theorem Wh:sg (!(decide (x<0)==decide (y<0))) ((((x.natAbs:Int)*y.natAbs).natAbs:Nat):Int)=x*y:=by
 by_cases h1:x<0<;>by_cases h2:y<0<;>simp only[h1,h2,sg,decide_true,decide_false,Bool.not_true,sK,beq_self_eq_true,Bool.false_eq_true,if_true,if_false,show(true==false)=false from rfl,show(false==true)=false from rfl]
 ·grind
 ·grind
 ·grind
 grind
theorem WE:sg (!decide (x<0)) ((x.natAbs:Nat):Int)= -x:=by
 by_cases h1:x<0<;>simp[h1,sg]<;>omega
theorem FA (h:decide (d5 a b≥0)=true):b≤a:=by
 simp only[decide_eq_true_eq] at h
 rcases qM a b with h1|h1|h1
 ·rw[et h1] at h;omega
 ·omega
 grind
theorem E3 (h:decide (d5 a b≥0)=false):a<b:=by
 simp only[decide_eq_false_iff_not] at h
 rcases qM a b with h1|h1|h1
 ·omega
 ·rw[jE h1] at h;omega
 ·rw[eM h1] at h;omega
theorem EP (hx:decide (x<0)=false) (hy: ¬(y<0)):d5 x.natAbs y.natAbs=d5 x y:=by grind
theorem EF (hx:decide (x<0)=true) (hy:y<0):d5 y.natAbs x.natAbs=d5 x y:=by
 simp only[decide_eq_true_eq] at hx
 rw[show(y.natAbs:Int)= -y from by omega,show(x.natAbs:Int)= -x from by omega,FP]
theorem Yb:sg (!(decide (x<0)==decide (y<0))) (((((x.natAbs:Int)/y.natAbs).natAbs:Nat)):Int)=q0 x y:=by
 unfold q0
 grind
theorem aad (_h0:y≠0):sg (decide (x<0)) (((((x.natAbs:Int)%y.natAbs).natAbs:Nat)):Int)=r0 x y:=by
 unfold r0
 grind
theorem JC:(x.natAbs:Int)%y.natAbs=0↔r0 x y=0:=by
 unfold r0
 generalize decide (x<0)=s
 cases s
 ·rw[cJ]
 ·rw[fV];omega
theorem JV (_h0:y≠0) (h:(x.natAbs:Int)%y.natAbs≠0):(r0 x y<0↔x<0):=by
 unfold r0
 by_cases hx:x<0
 ·rw[show decide (x<0)=true from by simpa using hx,fV];omega
 ·rw[show decide (x<0)=false from by simpa using hx,cJ];omega
structure RG (x y a c:Int):Prop where
 sa:Sz 20000000 a
 sc:Sz 20000000 c
 a0:0≤a
 c0:0≤c
 g:Int.gcd a c=Int.gcd x y
theorem RG.start (hx:Sz 20000000 x) (hy:Sz 20000000 y):RG x y (x.natAbs:Int) (y.natAbs:Int):=⟨hx.of_le (by omega),hy.of_le (by omega),by omega,by omega,rfl⟩
theorem RG.step (h:RG x y a c) (hc:c≠0):RG x y c ((a.natAbs:Int)%c.natAbs):=by
 have h1:=h.a0
 have h2:=h.c0
 have e1:(a.natAbs:Int)=a:=by omega
 have e2:(c.natAbs:Int)=c:=by omega
 rw[e1,e2]
 have h3:=n9 a hc
 have h4:=nB a (show 0<c by omega)
 exact⟨h.sc,h.sc.of_le (by omega),h2,h3,by rw[←h.g,EN h1 h2]⟩
theorem RG.less (h:RG x y a c) (hc:c≠0):((a.natAbs:Int)%c.natAbs).toNat<c.toNat:=by
 have:=h.c0
 have:=Ly (x:=a) hc
 omega
theorem RG.done (h:RG x y a c) (hc:c=0):(Int.gcd x y:Int)=sg false ((a.natAbs:Nat):Int):=by
 rw[←h.g,hc,cJ];simp
theorem KX (h:decide (((dg a.natAbs).length:Int)>2)=false):a.natAbs≤18446744073709551615:=by
 simp only[decide_eq_false_iff_not] at h
 have h1:=fe (bV a.natAbs)
 rw[ce] at h1
 have h2:=lq (n:=(dg a.natAbs).length) (m:=2) (by omega)
 have h3:pw 2=1000000000000000000:=by decide
 omega
theorem RG.word (h:RG x y a c) (ha:a.natAbs≤18446744073709551615) (hc:c.natAbs≤18446744073709551615):GInv2 x y (a.natAbs:Int) (c.natAbs:Int):=
 ⟨by omega,by omega,by omega,by omega,by rw[←h.g];rfl⟩
theorem GInv2.fin (h:GInv2 x y u v) (hv:v≤0):(Int.gcd x y:Int)=sg false ((u.natAbs:Nat):Int):=by
 rw[h.done hv,cJ,cJ];have:=h.u0;omega
theorem Sz.small3 (h0:0≤x) (h1:x≤18446744073709551615):Sz 100000000 x:=by
 have h3:pw 3=1000000000000000000000000000:=by decide
 have:Sz 3 x:=⟨by omega,by omega⟩
 exact this.mono (by decide)
theorem YE (hx:Sz 20000000 x):Sz 100000000 ((x.natAbs:Int)/y.natAbs):=by
 have h1:(x.natAbs:Int)/(y.natAbs:Int)≤x.natAbs:=Int.ediv_le_self _ (by omega)
 have h2:0≤(x.natAbs:Int)/(y.natAbs:Int):=by grind
 exact(hx.mono (by decide)).of_le (by omega)
theorem aap (hy:Sz 20000000 y) (h0:y≠0):Sz 100000000 ((x.natAbs:Int)%y.natAbs):=by
 have:=Ly (x:=x) h0
 exact(hy.mono (by decide)).of_le (by omega)
theorem GQ (hn:x<0) (h0: -9223372036854775808≤x):IntKind.u64.wrap x=x+18446744073709551616:=by unfold IntKind.wrap;simp[IntKind.bits,IntKind.signed];omega
theorem DG (hn:x<0) (h0: -9223372036854775808≤x):IntKind.u64.wrap (0-(x+18446744073709551616))= -x:=by unfold IntKind.wrap;simp[IntKind.bits,IntKind.signed];omega
theorem fi {P:Program}{ops:Array Oper}{T:TF}{B:BF}{x:Operand}{k:IntKind}
 (hx:cO T x=some (.v (.c (.i k m)))) (hr:k.wrap (0-m)=r) (hg:gd ops ⟨dst,.unOp .neg xt x,ty,pos,af,g⟩ T=some true):
 Sem P ops ⟨dst,.unOp .neg xt x,ty,pos,af,g⟩ T B (.r (.v (.c (.i k r)))):=by subst hr;exact SP hx hg
theorem It (h:Sz 100000000 ((x.natAbs:Int)/y.natAbs)):Ok Tryz.prog 159 [.c (.b (!(decide (x<0)==decide (y<0)))),.c (cL ((x.natAbs:Int)/y.natAbs))] [dI (q0 x y)]:=by
 rw[←Yb];exact iF h
theorem IY (h0:y≠0) (h:Sz 100000000 ((x.natAbs:Int)%y.natAbs)):Ok Tryz.prog 159 [.c (.b (decide (x<0))),.c (cL ((x.natAbs:Int)%y.natAbs))] [dI (r0 x y)]:=by
 rw[←aad h0];exact iF h
theorem Qn (h:(decide (x<0)==decide (y<0))=true):(d5 x.natAbs y.natAbs==0)=(x==y):=by
 have hs:x<0↔y<0:=by grind
 rcases qM (x.natAbs:Int) y.natAbs with h1|h1|h1
 ·rw[et h1,show(x==y)=false from by simp only[beq_eq_false_iff_ne];omega];rfl
 ·rw[jE h1,show(x==y)=true from by simp only[beq_iff_eq];omega];rfl
 ·rw[eM h1,show(x==y)=false from by simp only[beq_eq_false_iff_ne];omega];rfl
def isq:Nat→Nat
 |0=>0
 |n+1=>if (isq n+1)*(isq n+1)≤n+1 then isq n+1 else isq n
theorem FR (n:Nat):isq n*isq n≤n∧n<(isq n+1)*(isq n+1):=by
 induction n with
 |zero=>exact⟨by decide,by decide⟩
 |succ n ih=>
  unfold isq
  split
  ·grind
  grind
theorem Qh (ha:0≤a) (h:a≤b):a*a≤b*b:=pu h h ha (by omega)
theorem Dj (hb:0≤b) (h:a*a<b*b):a<b:=by
 by_cases h1:a<b
 ·grind
 ·have:=Qh hb (show b≤a by omega);omega
def bO (x:Int):Int:=if x<0 then 0 else(isq x.toNat:Nat)
theorem eg (x:Int):0≤bO x:=by unfold bO;split<;>omega
theorem qL (h:0≤x):bO x*bO x≤x:=by
 unfold bO;rw[if_neg (by omega)]
 have:=(FR x.toNat).1
 grind
theorem v7 (h:0≤x):x<(bO x+1)*(bO x+1):=by
 unfold bO;rw[if_neg (by omega)]
 have:=(FR x.toNat).2
 grind
theorem Ae (h:0≤x) (hr:0≤r) (h1:r*r≤x) (h2:x<(r+1)*(r+1)):bO x=r:=by
 have a1:=qL h
 have a2:=v7 h
 have a0:=eg x
 have:=Dj (a:=r) (b:=bO x+1) (by omega) (by omega)
 have:=Dj (a:=bO x) (b:=r+1) (by omega) (by omega)
 omega
theorem Dz:bO 0=0:=by decide
theorem uW (h:x<0):bO x=0:=by unfold bO;rw[if_pos h]
theorem MP:(bO x).natAbs≤x.natAbs:=by
 have h0:=eg x
 by_cases h:x<0
 ·rw[uW h];omega
 ·have h1:=qL (show 0≤x by omega)
  by_cases h2:bO x<1
  ·omega
  ·have:=lZ (show 1≤bO x by omega) h0
   omega
theorem GW (a b:Int):4*(a*b)≤(a+b)*(a+b):=by
 have h:0≤(a-b)*(a-b):=by
  rcases Int.le_total 0 (a-b) with h|h
  ·exact fK h h
  ·exact Int.mul_nonneg_of_nonpos_of_nonpos h h
 grind
theorem Pe (hx:0<x) (hr:0<r) (_hup:x<(r+1)*(r+1)):
 0≤(r+x.fdiv r).fdiv 2∧x<((r+x.fdiv r).fdiv 2+1)*((r+x.fdiv r).fdiv 2+1)∧0<(r+x.fdiv r).fdiv 2∧0≤x.fdiv r∧x.fdiv r≤x:=by
 have hq0:0≤x/r:=te (by omega) (by omega)
 have hq1:x/r≤x:=Int.ediv_le_self _ (by omega)
 have hq2:x<r*(x/r+1):=by have h1:=qV x r;have h2:=nB x hr;rw[Int.mul_add];omega
 obtain⟨q,hq⟩: ∃q,x/r=q:=⟨_,rfl⟩
 obtain⟨n,hn⟩: ∃n,(r+q)/2=n:=⟨_,rfl⟩
 have h4:=GW r (q+1)
 have h5:(r+(q+1))*(r+(q+1))≤(2*(n+1))*(2*(n+1)):=Qh (by omega) (by omega)
 grind
theorem G5 (_hx:0<x) (hr:0<r) (h:r≤(r+x.fdiv r).fdiv 2):r*r≤x:=by
 rw[ow _ (by omega:(0:Int)≤r),ow _ (by omega:(0:Int)≤2)] at h
 have h1:=qV x r
 have h2:=n9 x (show r≠0 by omega)
 have h3:r≤x/r:=by omega
 have:=lZ h3 (show 0≤r by omega)
 omega
structure NInv (K:Nat) (x r:Int):Prop where
 r0:0<r
 sz:Sz K r
 up:x<(r+1)*(r+1)
theorem NInv.sum (h:NInv K x r) (hs:Sz K x) (hx:0<x):Sz K (x.fdiv r)∧Sz (K+1) (r+x.fdiv r)∧Sz (K+1) ((r+x.fdiv r).fdiv 2):=by
 obtain⟨h1,h2,h3,h4,h5⟩:=Pe hx h.r0 h.up
 have h6:Sz K (x.fdiv r):=hs.of_le (by omega)
 have h7:=h.sz.add h6
 refine⟨h6,h7,h7.of_le ?_⟩
 grind
theorem NInv.next (h:NInv K x r) (hx:0<x) (hl:(r+x.fdiv r).fdiv 2<r):NInv K x ((r+x.fdiv r).fdiv 2):=by
 obtain⟨h1,h2,h3,h4,h5⟩:=Pe hx h.r0 h.up
 exact⟨h3,h.sz.of_le (by omega),h2⟩
theorem NInv.done (h:NInv K x r) (hx:0<x) (hl:r≤(r+x.fdiv r).fdiv 2):bO x=r:=
 Ae (by omega) (by have:=h.r0;omega) (G5 hx h.r0 hl) h.up
theorem xX:dI 0=.a ([.b false]++[.s 0 []]):=by unfold dI cI;rw[show cL 0=.s 0 [] from by unfold cL;rw[show(0:Int).natAbs=0 from rfl,kS];rfl];rfl
theorem ZJ (h:0≤v):([CellD.b false]++[cL v])=cI v:=by unfold cI;rw[show decide (v<0)=false from by simp;omega];rfl
theorem Zy (_h0:0≤x) (h:x<pw n) (hk:n≤2*k):x<(pw k+1)*(pw k+1):=by
 have h1:=lq (n:=n) (m:=2*k) hk
 have h2:pw (2*k)=pw k*pw k:=by rw[show 2*k=k+k from by omega,pf]
 have h3:=cH k
 grind
theorem NInv.start (h0:0<x) (_hs:Sz K x) (hk:((dg x.natAbs).length+1)/2=k) (hK:k<K):NInv K x (pw k):=by
 have hv:=fe (bV x.natAbs)
 rw[ce] at hv
 refine⟨cH k,?_,Zy (n:=(dg x.natAbs).length) (by omega) (by omega) (by omega)⟩
 have h1:Sz (k+1) (pw k):=⟨by have:=cH k;rw[dB];omega,by have:=cH k;have:=cH (k+1);omega⟩
 exact h1.mono (by omega)
theorem Wj (n:Nat):val (List.replicate n 0++[1])=pw n:=by
 induction n with
 |zero=>decide
 |succ n ih=>rw[List.replicate_succ,List.cons_append,dP,ih,dB];omega
theorem Zh (n:Nat):cL (pw n)=cM (List.replicate n 0++[1]):=by
 have hL:Lim (List.replicate n 0++[1]):=(Lim.zeros n).append (Lim.nil.cons (by omega) (by omega))
 have hN:Nrm (List.replicate n 0++[1]):=by
  induction n with
  |zero=>exact Bn [] 1 (by decide)
  |succ n ih=>exact Gm (ih ((Lim.zeros n).append (Lim.nil.cons (by omega) (by omega)))) (by simp)
 rw[TB,←Wj]
 have:=Jp hN hL
 rw[show(val (List.replicate n 0++[1])).natAbs=(val (List.replicate n 0++[1])).toNat from by have:=cD hL;omega,←this]
variable {P:Program}{ops:Array Oper}{T:TF}{B:BF}
theorem wq {x y:Operand}{z:CellD}
 (hU:xG P U=some (e,1,4,[z])) (hx:cO T x=some (.o k n n)) (hy:cO T y=some (.v (.c (cM [1])))) (hb:B k=some (e,List.replicate n (CellD.i .u32 0))) (hl:n≤1000000000)
 (hg:gd ops ⟨dst,.call ⟨.builtin .append,#[x,y],#[U,U]⟩,ty,pos,af,g⟩ T=some true):
 Sem P ops ⟨dst,.call ⟨.builtin .append,#[x,y],#[U,U]⟩,ty,pos,af,g⟩ T B (.c k (.v (.c (cL (pw n))))):=by
 rw[Zh]
 have:=yD (us:=(List.replicate n (0:Int)++[1]).map (CellD.i .u32)) hU hx hy hb (by simp) (jh _) (by omega) (by simp) (by omega) (by simp;omega) (by simp;unfold maxLen;omega) (by simp) hg
 rw[show n+[(1:Int)].length=(List.replicate n (0:Int)++[1]).length from by simp] at this
 exact this
theorem yH:d5 a b=0↔a=b:=by
 rcases qM a b with h|h|h
 ·rw[et h];constructor<;>intro h2<;>omega
 ·rw[jE h];constructor<;>intro h2<;>omega
 ·rw[eM h];constructor<;>intro h2<;>omega
theorem BI:d5 a b<0↔a<b:=by
 rcases qM a b with h|h|h
 ·rw[et h];constructor<;>intro h2<;>omega
 ·rw[jE h];constructor<;>intro h2<;>omega
 ·rw[eM h];constructor<;>intro h2<;>omega
theorem BH:0<d5 a b↔b<a:=by
 rcases qM a b with h|h|h
 ·rw[et h];constructor<;>intro h2<;>omega
 ·rw[jE h];constructor<;>intro h2<;>omega
 ·rw[eM h];constructor<;>intro h2<;>omega
theorem W4 (h:decide (d5 a b<0)=true):a<b:=BI.1 (by simpa using h)
theorem XF (h:decide (d5 a b<0)=false): ¬a<b:=fun e=>by have:=BI.2 e;simp at h;omega
theorem Sx (h:(d5 a b==0)=true):a=b:=yH.1 (by simpa using h)
theorem abw (h:(d5 a b !=0)=true):a≠b:=fun e=>by have:=yH.2 e;simp at h;omega
theorem YJ (h:(d5 a b !=0)=false):a=b:=yH.1 (by simpa using h)
theorem abl (h:decide (d5 a b>0)=true):b<a:=BH.1 (by simpa using h)
theorem abj (h:decide (d5 a b>0)=false): ¬b<a:=fun e=>by have:=BH.2 e;simp at h;omega
structure Rz (k:Nat) (x:Rat):Prop where
 n:Sz k x.num
 d:Sz k (x.den:Int)
theorem Sz.addm (h:Sz k x) (h':Sz l y):Sz (max k l+1) (x+y):=(h.mono (Nat.le_max_left k l)).add (h'.mono (Nat.le_max_right k l))
theorem Sz.gcd (h':Sz l y) (h0:y≠0):Sz l ((Int.gcd x y:Nat):Int):=h'.of_le (by
 have:Int.gcd x y≤y.natAbs:=Nat.le_of_dvd (by omega) (Nat.gcd_dvd_right ..)
 rw[xz];exact this)
theorem Rz.mono {x:Rat}(h:Rz k x) (hl:k≤l):Rz l x:=⟨h.n.mono hl,h.d.mono hl⟩
theorem Rz.m_ {x:Rat}(h:Rz k x) (hl:k≤l:=by decide):Rz l x:=h.mono hl
theorem aE {x:Rat}(h:Rz k x) (hl:k≤l:=by decide):Rz l x:=h.mono hl
theorem HJ {x:Rat}(h:Rz l x:=by first|assumption|exact Rz.mono (by assumption) (by decide)):Rz l x:=h
theorem den_pos (x:Rat):(0:Int)<(x.den:Int):=by have:=x.den_pos;omega
theorem jp (x:Rat):(x.den:Int)≠0:=by have:=den_pos x;omega
theorem qz (a b:Int):(a/b).natAbs≤a.natAbs:=Int.natAbs_ediv_le_natAbs a b
theorem Rz.of {n:Int}(hn:Sz k n) (hd:Sz k d) (h0:d≠0):Rz k (Rat.divInt n d):=by
 refine⟨hn.of_le ?_,hd.of_le ?_⟩
 ·rw[Rat.num_divInt]
  refine mM (qz _ _) ?_
  grind
 ·rw[Rat.den_divInt,if_neg h0]
  exact Nat.div_le_self d.natAbs (Int.gcd d n)
theorem PT {x y:Rat}:Rat.divInt (x.num*(y.den:Int)+y.num*(x.den:Int)) ((x.den:Int)*(y.den:Int))=x+y:=by
 rw[Rat.add_def',←Int.natCast_mul,Rat.divInt_ofNat]
theorem ZA {x y:Rat}(h:(x.den:Int)=(y.den:Int)):Rat.divInt (x.num+y.num) (x.den:Int)=x+y:=by
 rw[←PT,←h,←Int.add_mul,Rat.divInt_mul_right (jp x)]
theorem Tq {x y:Rat}:Rat.divInt (x.num*y.num) ((x.den:Int)*(y.den:Int))=x*y:=by
 rw[Rat.mul_def',←Int.natCast_mul,Rat.divInt_ofNat]
theorem R5 {x y:Rat}:Rat.divInt (x.num*(y.den:Int)) ((x.den:Int)*y.num)=x/y:=by
 rw[Rat.div_def,Rat.inv_def,←Rat.divInt_mul_divInt,Rat.num_divInt_den]
theorem Rz.add {x y:Rat}(hx:Rz k x) (hy:Rz l y):Rz (k+l+1) (x+y):=by
 rw[←PT]
 exact Rz.of (((hx.n.mul hy.d).addm (hy.n.mul hx.d)).mono (by omega)) ((hx.d.mul hy.d).mono (by omega)) (by have:=p5 (den_pos x) (den_pos y);omega)
theorem Rz.mul {x y:Rat}(hx:Rz k x) (hy:Rz l y):Rz (k+l) (x*y):=by
 rw[←Tq]
 exact Rz.of (hx.n.mul hy.n) (hx.d.mul hy.d) (by have:=p5 (den_pos x) (den_pos y);omega)
theorem Rz.neg {x:Rat}(hx:Rz k x):Rz k (-x):=⟨by rw[Rat.neg_num];exact hx.n.neg,by rw[Rat.neg_den];exact hx.d⟩
theorem Rz.sub {x y:Rat}(hx:Rz k x) (hy:Rz l y):Rz (k+l+1) (x-y):=by rw[Rat.sub_eq_add_neg];exact hx.add hy.neg
theorem Rz.div {x y:Rat}(hx:Rz k x) (hy:Rz l y) (h0:y≠0):Rz (k+l) (x/y):=by
 rw[←R5]
 exact Rz.of (hx.n.mul hy.d) (hx.d.mul hy.n) (by
  have h1:y.num≠0:=fun e=>h0 (Rat.num_eq_zero.1 e)
  intro e
  rcases t9.1 e with h|h
  ·exact jp x h
  ·exact h1 h)
theorem Sz.one (hk:1≤k):Sz k 1:=by
 have:=lq (n:=1) (m:=k) hk
 have h1:pw 1=1000000000:=by decide
 exact⟨by omega,by omega⟩
theorem Rz.int {n:Int}(h:Sz k n) (hk:1≤k):Rz k (n:Rat):=⟨by rw[Rat.num_intCast];exact h,by rw[Rat.den_intCast];exact Sz.one hk⟩
theorem Cg {n:Int}(hd:0<d):dR (Rat.divInt n d)=dQ (n.fdiv ((Int.gcd n d:Nat):Int)) (d.fdiv ((Int.gcd n d:Nat):Int)):=by
 unfold dR cR
 rw[Rat.num_divInt,Rat.den_divInt,if_neg (by omega),Int.sign_eq_one_of_pos hd,oi,Int.gcd_comm d n,ow _ (by omega),ow _ (by omega)]
 rw[show((d.natAbs/Int.gcd n d:Nat):Int)=d/((Int.gcd n d:Nat):Int) from by rw[Int.natCast_ediv];rw[show((d.natAbs:Nat):Int)=d from by omega]]
 rfl
theorem AP {n:Int}(hd:0<d) (hg:((Int.gcd n d:Nat):Int)=1):dR (Rat.divInt n d)=dQ n d:=by
 rw[Cg hd,hg,Int.fdiv_one,Int.fdiv_one]
theorem IG {n:Int}:dR (Rat.divInt n d)=dR (Rat.divInt (-n) (-d)):=by rw[Rat.neg_divInt_neg]
theorem Fx {n:Int}(h:d≠0):((Int.gcd n d:Nat):Int)≠0:=by simp_all
theorem vv {x y:Rat}:d5 (x.num*(y.den:Int)) (y.num*(x.den:Int))=if x<y then-1 else if y<x then 1 else 0:=by
 unfold d5
 simp only[Rat.lt_iff]
def aw (x y:Rat):Int:=if x<y then-1 else if y<x then 1 else 0
theorem yj {x:Rat}:d5 x.num 0=aw x 0:=by
 unfold aw
 rw[←vv]
 simp
theorem N1 {x:Rat}{n:Int}(h1:x.num=n) (h2:(x.den:Int)=d):dR x=dQ n d:=by unfold dR cR;rw[h1,h2];rfl
theorem Ir {n:Int}:dR (n:Rat)=dQ n 1:=N1 (Rat.num_intCast n) (by rw[Rat.den_intCast];rfl)
def Cy (x:Int):Bool:=bO x*bO x==x
def iC (x:Rat):Bool:=Cy x.num&&Cy (x.den:Int)
theorem KQ (h:x<0):Cy x=false:=by unfold Cy;rw[uW h];simp;omega
theorem io (ha:a≠0) (hb:b≠0):a*b≠0:=fun e=>by rcases t9.1 e with h|h<;>contradiction
theorem Ox {x:Rat}(h:x≠0):x.num≠0:=fun e=>h (Rat.num_eq_zero.1 e)
theorem Sz.isq (h:Sz k x):Sz k (bO x):=h.of_le MP
theorem Eb {x:Rat}(h:(aw x 0==0)=true):x=0:=by rw[←yj] at h;exact Rat.num_eq_zero.1 (Sx h)
theorem lQ {x y:Rat}:aw x y=0↔x=y:=by
 unfold aw
 rw[←vv,yH,Rat.eq_iff_mul_eq_mul]
theorem uL {x y:Rat}:aw x y<0↔x<y:=by
 unfold aw
 rw[←vv,BI,Rat.lt_iff]
theorem nH {x y:Rat}:0<aw x y↔y<x:=by
 unfold aw
 rw[←vv,BH,Rat.lt_iff]
theorem CS {x:Rat}:aw x 0=d5 x.num 0:=yj.symm
theorem I4 {x y:Rat}(h:(d5 (aw x 0) (aw y 0) !=0)=true):d5 (aw x 0) (aw y 0)=aw x y:=by
 have h1:=abw h
 rw[CS,CS] at*
 have px:=den_pos x
 have py:=den_pos y
 have e1: ∀ {a b:Int},a<0→0<b→a*b<0:=fun ha hb=>Int.mul_neg_of_neg_of_pos ha hb
 have hr:aw x y=d5 (x.num*(y.den:Int)) (y.num*(x.den:Int)):=by unfold aw;rw[←vv]
 rw[hr]
 rcases qM x.num 0 with hx|hx|hx<;>rcases qM y.num 0 with hy|hy|hy
 ·rw[et hx,et hy] at h1;exact absurd rfl h1
 ·rw[et hx,jE hy,et (a:= -1) (by decide),et]
  rw[hy,lX];exact e1 hx py
 ·rw[et hx,eM hy,et (a:= -1) (by decide),et]
  grind
 ·rw[jE hx,et hy,eM (a:=0) (by decide),eM]
  rw[hx,lX];exact e1 hy px
 ·grind
 ·rw[jE hx,eM hy,et (a:=0) (by decide),et]
  rw[hx,lX];exact p5 hy px
 ·rw[eM hx,et hy,eM (a:=1) (by decide),eM]
  grind
 ·rw[eM hx,jE hy,eM (a:=1) (by decide),eM]
  rw[hy,lX];exact p5 hx py
 ·rw[eM hx,eM hy] at h1;exact absurd rfl h1
theorem Gi {x y:Rat}:aw x y=d5 (x.num*(y.den:Int)) (y.num*(x.den:Int)):=by unfold aw;rw[←vv]
theorem e7 (h:((if x<0 then(7:Int) else 0)==0)=false):x<0:=by grind
theorem XS {x y:Rat}(h:(x.num==y.num)=false):decide (x=y)=false:=by grind
theorem Xw {x y:Rat}(h:(x.num==y.num)=true):decide (x=y)=((x.den:Int)==(y.den:Int)):=by
 simp only[beq_iff_eq] at h
 rw[Bool.eq_iff_iff,decide_eq_true_eq,beq_iff_eq]
 exact⟨fun e=>by rw[e],fun e=>Rat.ext h (by omega)⟩
theorem JE:Cy x=(d5 (bO x*bO x) x==0):=by
 unfold Cy
 rcases qM (bO x*bO x) x with h|h|h
 ·rw[et h];simp;omega
 ·rw[jE h];simp;omega
 ·rw[eM h];simp;omega
theorem UB {x:Rat}(h:Cy x.num=true) (h2:Cy (x.den:Int)=true):iC x=true:=by unfold iC;rw[h,h2];rfl
theorem PA {x:Rat}(h:Cy x.num=false):iC x=false:=by unfold iC;rw[h];rfl
theorem NV {x:Rat}(h:Cy (x.den:Int)=false):iC x=false:=by unfold iC;rw[h];cases Cy x.num<;>rfl
theorem AL:dQ 0 0=.a (([.b false]++[.s 0 []])++([.b false]++[.s 0 []])):=by
 have h:cI 0=[.b false]++[.s 0 []]:=by
  have:=xX
  unfold dI at this
  injection this
 unfold dQ cQ
 grind
theorem Sz.fdiv (h:Sz k x):Sz k (x.fdiv y):=h.of_le (by
 have h0: ∀a b:Nat,a/b≤a:=fun a b=>Nat.div_le_self a b
 rcases qM y 0 with hy|hy|hy
 ·rw[←Int.neg_fdiv_neg,ow _ (by omega)]
  have h2:(-x/ -y).natAbs≤(-x).natAbs:=qz _ _
  omega
 ·subst hy;simp
 ·rw[ow _ (by omega)]
  exact qz x y)
def Tp (xs:List Int):Prop:= ∀x∈xs,0≤x∧x≤4294967295
theorem Pr (h:Tp xs) (i:Nat):0≤xs.getD i 0∧xs.getD i 0≤4294967295:=by
 by_cases hi:i<xs.length
 ·have:xs.getD i 0=xs[i]:=by simp[List.getD,hi]
  rw[this];exact h _ (tz hi)
 grind
def vI (neg:Bool) (xs:List Int):Bool:=xs.all (fun x=>decide (x<1000000000))&&((trm xs).length==xs.length)&&(!neg||decide (0<xs.length))
theorem WV {neg:Bool}(hk:k<xs.length) (h:xs.getD k 0≥1000000000):vI neg xs=false:=by
 have h1:xs.all (fun x=>decide (x<1000000000))=false:=by
  rw[Bool.eq_false_iff]
  intro hall
  have h2:=mu.1 hall xs[k] (tz hk)
  grind
 unfold vI
 grind
theorem IU (hb:Tp xs) (h: ∀k,k<xs.length→xs.getD k 0<1000000000):Lim xs:=by
 intro x hx
 obtain⟨i,hi,rfl⟩:=List.getElem_of_mem hx
 have h1:=h i hi
 have h3:xs.getD i 0=xs[i]:=by grind
 have:=hb xs[i] (tz hi)
 omega
theorem BN (h:Lim xs):xs.all (fun x=>decide (x<1000000000))=true:=mu.2 fun x hx=>by have:=h x hx;simp;omega
theorem VR {neg:Bool}(h:Lim xs):vI neg xs=(((trm xs).length==xs.length)&&(!neg||decide (0<xs.length))):=by
 unfold vI;rw[BN h];rfl
theorem IS {neg:Bool}(h:Lim xs):vI neg xs=((((dg (val xs).natAbs).length:Int)==(xs.length:Int))&&(!neg||decide ((xs.length:Int)>0))):=by
 rw[VR h,Ku h]
 congr 1
 ·grind
 grind
theorem Lj (hx:Sz 100000000 x) (hy:Sz 100000000 y):Ok Tryz.prog 292 [dI x,dI y] [dI (Int.gcd x y:Int)]:=by
 refine bW Tryz.func292 rfl<|cz 8 [] ?_
 refine aC rfl (sG) ?_
 refine aC rfl (sG) ?_
 refine DW.mk<|bF (ι:={p:Int×Int // GInv x y p.1 p.2}) (fun i=>⟨61,[(4,.p 4 0),(5,.p 5 0),(6,.p 6 0)],[(4,36,([.b false]++[.s 0 []])),(5,36,cI i.1.1),(6,36,cI i.1.2)]⟩) (fun i=>i.1.2.toNat) ⟨(sg false (x.natAbs:Int),sg false (y.natAbs:Int)),GInv.start hx hy⟩ (aA ⟨rfl,rfl,rfl,trivial⟩ ⟨rfl,rfl,rfl,trivial⟩ rfl) ?_
 rintro⟨⟨a,c⟩,hg⟩
 replace hg:GInv x y a c:=hg
 have ha:=hg.sa
 have hcc:=hg.sc
 dsimp only
 refine nZ ?_
 refine df rfl (fun hc1=>?_) (fun hc1=>?_)
 ·have hne:=sr hc1
  refine ac rfl (F2)<|ac rfl (F2) ?_
  refine jC (bq rfl) (fun c2 hb2=>?_)
  cases c2
  ·refine qg rfl<|ac rfl (wT (by assumption) (by assumption) (by assumption))<|cz 3 [] ?_
   refine aC rfl (lg) ?_
   exact⟨⟨(c,sg false ((a.natAbs:Int)%c.natAbs)),hg.step hne⟩,aA ⟨rfl,rfl,rfl,trivial⟩ ⟨rfl,rfl,rfl,trivial⟩ rfl,hg.less hne⟩
  ·refine df rfl (fun hc3=>?_) (fun hc3=>?_)
   ·refine DW.mk<|bF (ι:={p:Int×Int // GInv2 x y p.1 p.2}) (fun i=>⟨61,[(4,.p 4 0),(7,.v (.c (.i .u64 i.1.1))),(9,.v (.c (.i .u64 i.1.2)))],[(4,36,([.b false]++[.s 0 []]))]⟩) (fun i=>i.1.2.toNat) ⟨(if a.natAbs<1000000000000000000 then(a.natAbs:Int) else 0,if c.natAbs<1000000000000000000 then(c.natAbs:Int) else 0),hg.word hb2 hc3⟩ (aA ⟨rfl,rfl,rfl,trivial⟩ ⟨rfl,trivial⟩ rfl) ?_
    rintro⟨⟨u,v⟩,hw⟩
    replace hw:GInv2 x y u v:=hw
    dsimp only
    refine nZ ?_
    refine df rfl (fun hc4=>?_) (fun hc4=>?_)
    ·have hv:v>0:=by simpa using hc4
     refine cz 6 []<|aq (Fq rfl rfl (by omega) rfl) ?_
     exact⟨⟨(v,u.tmod v),hw.step hv⟩,aA ⟨rfl,rfl,rfl,trivial⟩ ⟨rfl,trivial⟩ rfl,hw.less hv⟩
    ·refine ac rfl (Mt hw.u0 hw.u1)<|ac rfl (lg) ?_
     refine ah ?_
     rw[hw.done (by simpa using hc4)]
     exact aQ dJ rfl aa
   ·refine ac rfl (wT (by assumption) (by assumption) (by assumption))<|cz 3 [] ?_
    refine aC rfl (lg) ?_
    exact⟨⟨(c,sg false ((a.natAbs:Int)%c.natAbs)),hg.step hne⟩,aA ⟨rfl,rfl,rfl,trivial⟩ ⟨rfl,rfl,rfl,trivial⟩ rfl,hg.less hne⟩
 ·refine ar (OW rfl (by assumption) rfl) ?_
  refine ac rfl (sG) ?_
  refine ah ?_
  rw[hg.done (rH hc1)]
  exact aQ dJ rfl aa
theorem mO (hx:Sz 100000000 x) (hy:Sz 100000000 y) (h0:y≠0):Ok Tryz.prog 349 [dI x,dI y] [dI (x.fdiv y),dI (x.fmod y),.c (.i .i64 0)]:=by
 have hq:Sz 100000000 (q0 x y):=hx.q0
 have hr:Sz 100000000 (r0 x y):=hy.r0 h0
 have h1:Sz 100000000 (1:Int):=cX (by omega) (by omega) (by omega)
 refine bW Tryz.func349 rfl ?_
 refine df rfl (fun hc1=>?_) (fun hc1=>?_)
 ·exact absurd hc1 (by simp[dV,h0])
 ·refine ac rfl (wT (by assumption) (by assumption) (by assumption))<|cz 13 [] ?_
  refine aq (ko rfl rfl gY rfl) ?_
  refine aC rfl (lg) ?_
  refine aC rfl (lg) ?_
  refine jC (bq rfl) (fun c2 hb2=>?_)
  cases c2
  ·refine qg rfl<|cz 5 [4,5,999999] ?_
   refine DQ.mk<|iM (dL dJ rfl) rfl rfl rfl rfl<|dc ?_
   refine DQ.mk<|iM (dL dJ rfl) rfl rfl rfl rfl<|dc ?_
   obtain⟨e1,e2⟩:=xI (x:=x) h0 (.inl (rH hb2))
   refine ah ?_
   rw[e1,e2]
   exact aQ dJ rfl (aQ dJ rfl (ak aa))
  ·refine ar (ko rfl rfl gY rfl) ?_
   refine df rfl (fun hc3=>?_) (fun hc3=>?_)
   ·refine cz 6 [] ?_
    refine aC rfl (iy (by omega) (by omega))<|aC rfl (ST (by assumption) (by assumption)) ?_
    refine aC rfl (sP (by assumption) (by assumption))<|cz 5 [4,5,999999] ?_
    refine DQ.mk<|iM (dL dJ rfl) rfl rfl rfl rfl<|dc ?_
    refine DQ.mk<|iM (dL dJ rfl) rfl rfl rfl rfl<|dc ?_
    obtain⟨e1,e2⟩:=GS (x:=x) h0 (sr hb2) (EZ hc3)
    refine ah ?_
    rw[e1,e2]
    exact aQ dJ rfl (aQ dJ rfl (ak aa))
   ·refine cz 5 [4,5,999999] ?_
    refine DQ.mk<|iM (dL dJ rfl) rfl rfl rfl rfl<|dc ?_
    refine DQ.mk<|iM (dL dJ rfl) rfl rfl rfl rfl<|dc ?_
    obtain⟨e1,e2⟩:=xI (x:=x) h0 (.inr (E9 hc3))
    refine ah ?_
    rw[e1,e2]
    exact aQ dJ rfl (aQ dJ rfl (ak aa))
theorem yJ:Ok Tryz.prog 74 [dI x] [.c (.i .i64 (d5 x 0))]:=by
 refine bW Tryz.func74 rfl ?_
 refine df rfl (fun hc1=>?_) (fun hc1=>?_)
 ·refine ah ?_
  rw[jE (by have:=hc1;simp[dV] at this;omega)]
  exact ak aa
 ·refine df rfl (fun hc2=>?_) (fun hc2=>?_)
  ·refine ah ?_
   rw[et (by simpa using hc2)]
   exact ak aa
  ·refine ah ?_
   rw[eM (by have:=hc1;have h2:=hc2;simp[dV] at this h2;omega)]
   exact ak aa
theorem Lb (hx:Sz 100000000 x) (hy:Sz 100000000 y):Ok Tryz.prog 106 [dI x,dI y] [.c (.i .i64 (d5 x y))]:=by
 refine bW Tryz.func106 rfl ?_
 refine ar (ko rfl rfl gY rfl) ?_
 refine df rfl (fun hc1=>?_) (fun hc1=>?_)
 ·refine df rfl (fun hc2=>?_) (fun hc2=>?_)
  ·refine ah ?_
   rw[et (by have:=EZ hc1;have h2:=hc2;simp only[decide_eq_true_eq] at h2;omega)]
   exact ak aa
  ·refine ah ?_
   rw[eM (by have:=EZ hc1;have h2:=hc2;simp only[decide_eq_false_iff_not] at h2;omega)]
   exact ak aa
 ·refine df rfl (fun hc3=>?_) (fun hc3=>?_)
  ·refine ac rfl (o9 (by assumption) (by assumption))<|ah ?_
   rw[←EF hc3 (by have:=E9 hc1;have h2:=hc3;simp only[decide_eq_true_eq] at h2;omega)]
   exact ak aa
  ·refine ac rfl (o9 (by assumption) (by assumption))<|ah ?_
   rw[←EP hc3 (by have:=E9 hc1;have h2:=hc3;simp only[decide_eq_false_iff_not] at h2;omega)]
   exact ak aa
theorem pF (h0: -9223372036854775808≤x) (h1:x≤9223372036854775807):Ok Tryz.prog 66 [.c (.i .i64 x)] [dI x]:=by
 refine bW Tryz.func66 rfl ?_
 refine df rfl (fun hc1=>?_) (fun hc1=>?_)
 ·have hn:x<0:=by simpa using hc1
  refine ar (bv (r:=x+18446744073709551616) tW fA rfl (GQ hn h0) rfl) ?_
  refine ar (fi (r:= -x) rfl (DG hn h0) rfl) ?_
  refine ac rfl (rM (by omega) (by omega))<|ac rfl (iF (Sz.small3 (by omega) (by omega))) ?_
  have hfin:dI x=dI (sg true (((-x).natAbs:Nat):Int)):=congrArg dI (by rw[fV];omega)
  refine ah ?_
  rw[hfin]
  exact aQ dJ rfl aa
 ·have hn:0≤x:=by have:=hc1;simp at this;omega
  refine ar (bv (r:=x) tW fA rfl (gZ (by omega) (by omega)) rfl) ?_
  refine ac rfl (rM (by omega) (by omega))<|ac rfl (iF (Sz.small3 (by omega) (by omega))) ?_
  have hfin:dI x=dI (sg false ((x.natAbs:Nat):Int)):=congrArg dI (by rw[cJ];omega)
  refine ah ?_
  rw[hfin]
  exact aQ dJ rfl aa
theorem xT (hx:Sz 100000000 x):Ok Tryz.prog 192 [dI x] [dI (-x)]:=by
 refine bW Tryz.func192 rfl<|ac rfl (iF (by assumption)) ?_
 refine ah ?_
 rw[←WE (x:=x)]
 exact aQ dJ rfl aa
theorem nh (hx:Sz 40000000 x) (hy:Sz 40000000 y):Ok Tryz.prog 107 [dI x,dI y] [dI (x*y)]:=by
 have hx6:Sz 100000000 x:=hx.m_
 have hy6:Sz 100000000 y:=hy.m_
 have hp:Sz 100000000 ((x.natAbs:Int)*(y.natAbs:Int)):=((E1 hx).mul (E1 hy)).m_
 refine bW Tryz.func107 rfl<|cz 11 [] ?_
 refine aq (ko rfl rfl gY rfl) ?_
 refine aC rfl (Nm (by assumption) (by assumption))<|aC rfl (iF (by assumption))<|ah ?_
 rw[←Wh (x:=x) (y:=y)]
 exact aQ dJ rfl aa
theorem AQ (hx:Sz 90000000 x) (hy:Sz 90000000 y):Ok Tryz.prog 204 [dI x,dI y] [dI (x+y)]:=by
 have hx6:Sz 100000000 x:=hx.m_
 have hy6:Sz 100000000 y:=hy.m_
 have hp:Sz 100000000 ((x.natAbs:Int)+(y.natAbs:Int)):=((E1 (hx.mono (l:=99999999) (by decide))).add (E1 (hy.m_))).m_
 refine bW Tryz.func204 rfl<|ar (pp rfl rfl gY rfl) ?_
 refine df rfl (fun hc1=>?_) (fun hc1=>?_)
 ·refine cz 8 [] ?_
  refine aC rfl (S4 (by assumption) (by assumption)) ?_
  refine aC rfl (iF (by assumption))<|ah ?_
  rw[←Tu hc1]
  exact aQ dJ rfl aa
 ·refine ac rfl (o9 (by assumption) (by assumption)) ?_
  refine df rfl (fun hc2=>?_) (fun hc2=>?_)
  ·have hge:=FA hc2
   have hq:Sz 100000000 ((x.natAbs:Int)-(y.natAbs:Int)):=hx6.of_le (by omega)
   refine cz 8 [] ?_
   refine aC rfl (xV (by assumption) (by omega))<|aC rfl (iF (by assumption))<|ah ?_
   rw[←ZU hc1 (by omega)]
   exact aQ dJ rfl aa
  ·have hge:=E3 hc2
   have hq:Sz 100000000 ((y.natAbs:Int)-(x.natAbs:Int)):=hy6.of_le (by omega)
   refine cz 8 [] ?_
   refine aC rfl (xV (by assumption) (by omega))<|aC rfl (iF (by assumption))<|ah ?_
   rw[←aaq hc1 (by omega)]
   exact aQ dJ rfl aa
theorem SY (hx:Sz 90000000 x) (hy:Sz 90000000 y):Ok Tryz.prog 287 [dI x,dI y] [dI (x-y)]:=by
 have hx6:Sz 100000000 x:=hx.m_
 have hy6:Sz 100000000 y:=hy.m_
 have hyn:Sz 90000000 (-y):=hy.neg
 refine bW Tryz.func287 rfl<|cz 4 [] ?_
 refine aC rfl (xT (by assumption)) ?_
 refine aC rfl (AQ (by assumption) (by assumption))<|ah ?_
 rw[Int.sub_eq_add_neg]
 exact aQ dJ rfl aa
theorem ym (hx:Sz 100000000 x) (hy:Sz 100000000 y):Ok Tryz.prog 75 [dI x,dI y] [.c (.b (x==y))]:=by
 refine bW Tryz.func75 rfl ?_
 refine ar (pp rfl rfl gY rfl) ?_
 refine jC (bq rfl) (fun c1 hb1=>?_)
 cases c1
 ·refine ah ?_
  rw[show(x==y)=false from by have:=hb1;simp only[beq_eq_false_iff_ne,ne_eq] at this⊢;intro e;subst e;exact this rfl]
  exact ak aa
 ·refine ac rfl (o9 (by assumption) (by assumption))<|ah ?_
  rw[←Qn hb1]
  exact ak aa
theorem kY (hx:Sz 20000000 x) (hy:Sz 20000000 y) (h0:y≠0):Ok Tryz.prog 195 [dI x,dI y] [dI (x.fdiv y),dI (x.fmod y),.c (.i .i64 0)]:=by
 have hq:Sz 90000000 (q0 x y):=hx.q0.m_
 have hr:Sz 90000000 (r0 x y):=(hy.r0 h0).m_
 have h1:Sz 90000000 (1:Int):=cX (by omega) (by omega) (by omega)
 have hy9:Sz 90000000 y:=hy.m_
 have hqq:Sz 100000000 ((x.natAbs:Int)/y.natAbs):=YE hx
 have hrr:Sz 100000000 ((x.natAbs:Int)%y.natAbs):=aap hy h0
 refine bW Tryz.func195 rfl ?_
 refine df rfl (fun hc1=>?_) (fun hc1=>?_)
 ·exact absurd hc1 (by simp[dV,h0])
 ·refine ac rfl (BL (by assumption) (by assumption) (by assumption))<|cz 13 [] ?_
  refine aq (ko rfl rfl gY rfl) ?_
  refine aC rfl (It hqq) ?_
  refine aC rfl (IY h0 hrr) ?_
  refine jC (bq rfl) (fun c2 hb2=>?_)
  cases c2
  ·refine qg rfl<|cz 5 [4,5,999999] ?_
   refine DQ.mk<|iM (dL dJ rfl) rfl rfl rfl rfl<|dc ?_
   refine DQ.mk<|iM (dL dJ rfl) rfl rfl rfl rfl<|dc ?_
   obtain⟨e1,e2⟩:=xI (x:=x) h0 (.inl (JC.1 (rH hb2)))
   refine ah ?_
   rw[e1,e2]
   exact aQ dJ rfl (aQ dJ rfl (ak aa))
  ·refine ar (ko rfl rfl gY rfl) ?_
   refine df rfl (fun hc3=>?_) (fun hc3=>?_)
   ·refine cz 6 [] ?_
    refine aC rfl (pF (by omega) (by omega))<|aC rfl (SY (by assumption) (by assumption)) ?_
    refine aC rfl (AQ (by assumption) (by assumption))<|cz 5 [4,5,999999] ?_
    refine DQ.mk<|iM (dL dJ rfl) rfl rfl rfl rfl<|dc ?_
    refine DQ.mk<|iM (dL dJ rfl) rfl rfl rfl rfl<|dc ?_
    obtain⟨e1,e2⟩:=GS (x:=x) h0 (fun e=>sr hb2 (JC.2 e)) (by rw[JV h0 (sr hb2)];exact EZ hc3)
    refine ah ?_
    rw[e1,e2]
    exact aQ dJ rfl (aQ dJ rfl (ak aa))
   ·refine cz 5 [4,5,999999] ?_
    refine DQ.mk<|iM (dL dJ rfl) rfl rfl rfl rfl<|dc ?_
    refine DQ.mk<|iM (dL dJ rfl) rfl rfl rfl rfl<|dc ?_
    obtain⟨e1,e2⟩:=xI (x:=x) h0 (.inr (by rw[JV h0 (sr hb2)];exact E9 hc3))
    refine ah ?_
    rw[e1,e2]
    exact aQ dJ rfl (aQ dJ rfl (ak aa))
theorem D8 (hx:Sz 20000000 x) (hy:Sz 20000000 y):Ok Tryz.prog 76 [dI x,dI y] [dI (Int.gcd x y:Int)]:=by
 refine bW Tryz.func76 rfl<|cz 6 [] ?_
 refine DW.mk<|bF (ι:={p:Int×Int // RG x y p.1 p.2}) (fun i=>⟨54,[(4,.p 4 0),(5,.v (.c (cL i.1.1))),(6,.v (.c (cL i.1.2)))],[(4,36,([.b false]++[.s 0 []]))]⟩) (fun i=>i.1.2.toNat) ⟨((x.natAbs:Int),(y.natAbs:Int)),RG.start hx hy⟩ (aA ⟨rfl,by rw[NI x];rfl,by rw[NI y];rfl,trivial⟩ ⟨rfl,trivial⟩ rfl) ?_
 rintro⟨⟨a,c⟩,hg⟩
 replace hg:RG x y a c:=hg
 have ha:=hg.sa
 have hcc:=hg.sc
 have ha0:=hg.a0
 have hcc0:=hg.c0
 have ha6:Sz 100000000 a:=ha.m_
 dsimp only
 refine nZ ?_
 refine jC (bq rfl) (fun c1 hb1=>?_)
 cases c1
 ·refine DL.mk<|vu (nI rfl)<|eQ ?_
  refine qg rfl ?_
  refine df rfl (fun hc2=>?_) (fun hc2=>?_)
  ·refine ac rfl (iF (by assumption)) ?_
   refine ah ?_
   rw[hg.done (rH hb1)]
   exact aQ dJ rfl aa
  ·exact absurd hc2 (by simp[dV,rH hb1])
 ·have hne:=sr hb1
  refine jC (bq rfl) (fun c3 hb3=>?_)
  cases c3
  ·have hwa:=KX hb3
   refine df rfl (fun hc4=>?_) (fun hc4=>?_)
   ·refine ac rfl (BL (by assumption) (by assumption) (by assumption)) ?_
    exact⟨⟨(c,(a.natAbs:Int)%c.natAbs),hg.step hne⟩,aA ⟨rfl,rfl,rfl,trivial⟩ ⟨rfl,trivial⟩ rfl,hg.less hne⟩
   ·have hwc:=KX hc4
    refine df rfl (fun hc5=>?_) (fun hc5=>?_)
    ·exact absurd hc5 (by simp[dV,hne])
    ·refine ac rfl (GH (by assumption))<|ac rfl (GH (by assumption)) ?_
     refine DW.mk<|bF (ι:={p:Int×Int // GInv2 x y p.1 p.2}) (fun i=>⟨54,[(4,.p 4 0),(9,.v (.c (.i .u64 i.1.1))),(10,.v (.c (.i .u64 i.1.2)))],[(4,36,([.b false]++[.s 0 []]))]⟩) (fun i=>i.1.2.toNat) ⟨((a.natAbs:Int),(c.natAbs:Int)),hg.word hwa hwc⟩ (aA ⟨rfl,rfl,rfl,trivial⟩ ⟨rfl,trivial⟩ rfl) ?_
     rintro⟨⟨u,v⟩,hw⟩
     replace hw:GInv2 x y u v:=hw
     have hu0:=hw.u0
     have hu1:=hw.u1
     have hsu:Sz 100000000 u:=Sz.small3 hu0 hu1
     dsimp only
     refine nZ ?_
     refine df rfl (fun hc6=>?_) (fun hc6=>?_)
     ·have hv:v>0:=by simpa using hc6
      have hvn:v≠0:=by omega
      refine cz 6 []<|aq (Fq rfl rfl (by omega) rfl) ?_
      exact⟨⟨(v,u.tmod v),hw.step hv⟩,aA ⟨rfl,rfl,rfl,trivial⟩ ⟨rfl,trivial⟩ rfl,hw.less hv⟩
     ·refine ac rfl (rM (by omega) (by omega))<|ac rfl (iF (by assumption)) ?_
      refine ah ?_
      rw[hw.fin (by simpa using hc6)]
      exact aQ dJ rfl aa
  ·refine rx rfl<|ac rfl (BL (by assumption) (by assumption) (by assumption)) ?_
   exact⟨⟨(c,(a.natAbs:Int)%c.natAbs),hg.step hne⟩,aA ⟨rfl,rfl,rfl,trivial⟩ ⟨rfl,trivial⟩ rfl,hg.less hne⟩
end Go.Proofs.YtegpmhlfjkhjmaaGreat
