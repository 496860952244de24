/-Package swarfref01:times,by,compare,short,signed. -/
import Derived.Test.YtkfgimjmgfoneaaGreatDoorVfF
namespace Go.Proofs.YtkfgimjmgfoneaaGreatDoor
open Go Go.RowKit
variable {R V a b c d m r u v x y:Int}{rs us vs xs ys zs:List Int}{K N i k l n:Nat}{U e xt:TypeId}
variable {ty:TypeId}{pos:String}{af:Array Edge}{g:Option (Nat×Bool)}{dst:Option Nat}
theorem mA:type_of% @Sz.small:=@Sz.small
theorem k9:type_of% @Int.zero_mul:=@Int.zero_mul
theorem pi:type_of% @Int.lt_trichotomy:=@Int.lt_trichotomy
theorem sn:type_of% @Int.mul_eq_zero:=@Int.mul_eq_zero
theorem tv:type_of% @Bool.eq_false_iff:=@Bool.eq_false_iff
theorem xC (hLxs:Lim xs) (hLys:Lim ys) (hn:xs.length≤100000000) (hm:ys.length≤100000000):Ok Tryz.prog 118 [.c (cM xs),.c (cM ys)] [.c (cL (val xs*val ys))]:=by
 refine eG Tryz.func118 68 [.tmp 4] rfl<|ab<|ah<|ab<|ah ?_
 refine ar (bQ ((xs.length:Int)+(ys.length:Int)) (aP (by(first|omega|(simp;omega))) (by(first|omega|(simp;omega)))) rfl) ?_
 refine DL.mk<|tJ (lB (n:=xs.length+ys.length) ua rfl rfl (by(first|omega|(simp;omega))) (by(first|omega|(simp;omega))) rfl) rfl<|dC ?_
 refine ab<|ab<|ah<|aA<|aY (ι:={t:Nat×List Int // TInv xs ys t.1 0 0 t.2}) (fun i=>⟨68,[(0,.v (.c (cM xs))),(1,.v (.c (cM ys))),(5,.o 14 (xs.length+ys.length) (xs.length+ys.length)),(6,.v (.c (.i .i64 (i.1.1:Int))))],[(14,165,i.1.2.map (CellD.i .u32))]⟩) (fun i=>xs.length-i.1.1) ⟨(0,List.replicate (xs.length+ys.length) 0),TInv.start⟩ (ak ⟨rfl,rfl,rfl,rfl,trivial⟩ ⟨by rw[show(List.replicate (xs.length+ys.length) (CellD.i .u32 0))=(List.replicate (xs.length+ys.length) 0).map (CellD.i .u32) from by simp];rfl,trivial⟩ rfl) ?_
 rintro⟨⟨j,zs⟩,hI⟩
 replace hI:TInv xs ys j 0 0 zs:=hI
 have g5:=hI.ik
 have g6:=hI.len
 dsimp only
 refine ab<|ab<|ah ?_
 refine aB rfl (fun hc1=>?_) (fun hc1=>?_)
 ·have hj:j<xs.length:=by simp only[decide_eq_true_eq] at hc1;omega
  refine az<|ab<|aA<|ab<|ah<|ab<|ab<|ah<|aA<|aY (ι:={t:Nat×Int×List Int // TInv xs ys j t.1 t.2.1 t.2.2}) (fun i=>⟨68,[(0,.v (.c (cM xs))),(1,.v (.c (cM ys))),(5,.o 14 (xs.length+ys.length) (xs.length+ys.length)),(6,.v (.c (.i .i64 (j:Int)))),(7,.v (.c (.i .u64 i.1.2.1))),(8,.v (.c (.i .i64 (i.1.1:Int))))],[(14,165,i.1.2.2.map (CellD.i .u32))]⟩) (fun i=>ys.length-i.1.1) ⟨(0,0,zs),hI⟩ (ak ⟨rfl,rfl,rfl,rfl,rfl,rfl,trivial⟩ ⟨rfl,trivial⟩ rfl) ?_
  clear hI g6
  rintro⟨⟨k,c,zs⟩,hI⟩
  replace hI:TInv xs ys j k c zs:=hI
  have g1:=bU hLxs j
  have g2:=bU hLys k
  have g8:=bU hI.L (j+k)
  have g3:=hI.c0
  have g4:=hI.c1
  have g5:=hI.ik
  have g7:=hI.kk
  have g6:=hI.len
  dsimp only
  refine ab<|ab<|ah ?_
  refine aB rfl (fun hc2=>?_) (fun hc2=>?_)
  ·have hk:k<ys.length:=by simp only[decide_eq_true_eq] at hc2;omega
   have hm0:0≤xs.getD j 0*ys.getD k 0:=lC g1.1 g2.1
   have hm1:xs.getD j 0*ys.getD k 0≤999999999*999999999:=pj (by omega) (by omega) g2.1 (by omega)
   refine az<|ab<|aA<|ab<|nj 22 rfl rfl<|dO 4<|bA (bQ ((j:Int)+(k:Int)) (aP (by omega) (by omega)) rfl) ?_
   refine bA (bn gw rfl rfl (by(first|omega|(simp;omega))) rfl) ?_
   refine bA (bW dH rfl rfl (RD (i:=j+k) (by(first|omega|(simp;omega)))) rfl) ?_
   refine bA (bl (r:=zs.getD (j+k) 0) gO f7 rfl (iu (by(first|omega|(simp;omega))) (by(first|omega|(simp;omega)))) rfl) ?_
   refine bA (bQ (c+(zs.getD (j+k) 0)) (iW (by(first|omega|(simp;omega))) (by(first|omega|(simp;omega)))) rfl) ?_
   refine dO 2 ?_
   refine bA (aC gw rfl rfl (by(first|omega|(simp;omega))) (gG _) rfl rfl) ?_
   refine bA (aL dH rfl (im (i:=j) (by(first|omega|(simp;omega)))) rfl) ?_
   refine bA (bl (r:=xs.getD j 0) gO f7 rfl (iu (by(first|omega|(simp;omega))) (by(first|omega|(simp;omega)))) rfl) ?_
   refine dO 2 ?_
   refine bA (aC gw rfl rfl (by(first|omega|(simp;omega))) (gG _) rfl rfl) ?_
   refine bA (aL dH rfl (im (i:=k) (by(first|omega|(simp;omega)))) rfl) ?_
   refine bA (bl (r:=ys.getD k 0) gO f7 rfl (iu (by(first|omega|(simp;omega))) (by(first|omega|(simp;omega)))) rfl) ?_
   refine bA (bQ ((xs.getD j 0)*(ys.getD k 0)) (mz (by(first|omega|(simp;omega))) (by(first|omega|(simp;omega)))) rfl) ?_
   refine bA (bQ ((c+(zs.getD (j+k) 0))+((xs.getD j 0)*(ys.getD k 0))) (iW (by(first|omega|(simp;omega))) (by(first|omega|(simp;omega)))) rfl) ?_
   refine wd<|dh<|bv<|ab<|bR<|fK 3<|b9 (bQ ((j:Int)+(k:Int)) (aP (by omega) (by omega)) rfl)<|fK 1<|b9 (cC (r:=(c+zs.getD (j+k) 0+xs.getD j 0*ys.getD k 0)%1000000000) rfl rfl (by omega) (gA (by omega)) rfl) ?_
   refine b9 (bl (r:=(c+zs.getD (j+k) 0+xs.getD j 0*ys.getD k 0)%1000000000) f7 gO rfl (mQ (by omega) (by omega)) rfl) ?_
   refine b9 (bn gw rfl rfl (by(first|omega|(simp;omega))) rfl) ?_
   refine fV (aV (us:=(zs.set (j+k) ((c+zs.getD (j+k) 0+xs.getD j 0*ys.getD k 0)%1000000000)).map (CellD.i .u32)) dH rfl rfl rfl rfl (by simp;omega) (mt (by(first|omega|(simp;omega)))) rfl) ?_
   refine bv<|ah<|ar (gz (r:=(c+zs.getD (j+k) 0+xs.getD j 0*ys.getD k 0)/1000000000) rfl rfl (by omega) (by rw[nv (by omega)];exact iu (by omega) (by omega)) rfl) ?_
   refine ah ?_
   refine ar (bQ ((k:Int)+1) (aP (by(first|omega|(simp;omega))) (by(first|omega|(simp;omega)))) rfl) ?_
   exact⟨⟨(k+1,(c+zs.getD (j+k) 0+xs.getD j 0*ys.getD k 0)/1000000000,zs.set (j+k) ((c+zs.getD (j+k) 0+xs.getD j 0*ys.getD k 0)%1000000000)),hI.step hLxs hLys hj hk rfl⟩,ak ⟨rfl,rfl,rfl,rfl,rfl,by rw[show((k+1:Nat):Int)=(k:Int)+1 from by omega];rfl,trivial⟩ ⟨rfl,trivial⟩ rfl,by show ys.length-(k+1)<ys.length-k;omega⟩
  ·have hk:k=ys.length:=by simp only[decide_eq_false_iff_not] at hc2;omega
   refine aW<|bR<|fK 4 ?_
   refine b9 (bQ ((j:Int)+(ys.length:Int)) (aP (by(first|omega|(simp;omega))) (by(first|omega|(simp;omega)))) rfl) ?_
   refine fK 1<|b9 (bl (r:=c) f7 gO rfl (mQ (by omega) (by omega)) rfl) ?_
   refine b9 (bn gw rfl rfl (by(first|omega|(simp;omega))) rfl) ?_
   refine fV (aV (us:=(zs.set (j+ys.length) c).map (CellD.i .u32)) dH rfl rfl rfl rfl (by simp;omega) (mt (by(first|omega|(simp;omega)))) rfl) ?_
   refine bv<|ah ?_
   refine ar (bQ ((j:Int)+1) (aP (by(first|omega|(simp;omega))) (by(first|omega|(simp;omega)))) rfl) ?_
   exact⟨⟨(j+1,zs.set (j+ys.length) c),hI.row hj hk⟩,ak ⟨rfl,rfl,rfl,by rw[show((j+1:Nat):Int)=(j:Int)+1 from by omega];rfl,trivial⟩ ⟨rfl,trivial⟩ rfl,by show xs.length-(j+1)<xs.length-j;omega⟩
 ·have hj:j=xs.length:=by simp only[decide_eq_false_iff_not] at hc1;omega
  have hfin:val xs*val ys=val zs:=(hI.done hj).symm
  have hLf:Lim zs:=hI.L
  refine aW<|ab ?_
  refine pF (t:=5) (zs:=zs) (ys:=zs) rfl rfl (by first|omega|(simp;omega)|simp) (by omega) (by omega) (fp (by first|omega|(simp;omega)|simp)) ?_
  refine ah<|ac rfl (io hLf (by omega))<|bh ?_
  rw[hfin]
  exact ag (am aa)
theorem Du (hLxs:Lim xs) (hn:xs.length≤100000000) (h0:0≤m) (h1:m<1000000000):Ok Tryz.prog 154 [.c (cM xs),.c (.i .u32 m)] [.c (cL (val xs*m))]:=by
 have hv1:val [m]=m:=by simp[val]
 refine bS Tryz.func154 rfl<|ar (ws ua rfl rfl) ?_
 refine ac rfl (io (Lim.nil.cons h0 h1) (dG rfl))<|ac rfl (xC hLxs (bk _) hn (fA (x:=val [m]) (k:=100000000) (by rw[hv1];exact mA (by omega) (by omega) (by omega))))<|ag ?_
 rw[show val xs*m=val xs*val (ce (val [m]).natAbs) from by rw[bu,show(((val [m]).natAbs:Nat):Int)=m from by simp[val];omega]]
 exact am aa
theorem BL (hLxs:Lim xs) (hLys:Lim ys) (nX:Nrm xs) (nY:Nrm ys) (hn:xs.length≤100000000) (_hm:ys.length≤100000000):Ok Tryz.prog 117 [.c (cM xs),.c (cM ys)] [.c (.i .i64 (cO (val xs) (val ys)))]:=by
 refine eG Tryz.func117 41 [.tmp 4] rfl<|ab<|ah<|ab<|ab<|ah ?_
 refine aB rfl (fun hc1=>?_) (fun hc1=>?_)
 ·have hne:xs.length≠ys.length:=by simp only[bne_iff_ne,ne_eq] at hc1;omega
  refine ab<|ab<|ah ?_
  refine aB rfl (fun hc2=>?_) (fun hc2=>?_)
  ·have hfin:cO (val xs) (val ys)= -1:=dd (uL nY hLxs hLys (by simp only[decide_eq_true_eq] at hc2;omega))
   refine ab<|ah<|bh ?_
   rw[hfin]
   exact ag (am aa)
  ·have hfin:cO (val xs) (val ys)=1:=dk (uL nX hLys hLxs (by simp only[decide_eq_false_iff_not] at hc2;omega))
   refine az<|ab<|ah<|bh ?_
   rw[hfin]
   exact ag (am aa)
 ·have heq:xs.length=ys.length:=by simp only[bne_eq_false_iff_eq] at hc1;omega
  refine az<|ab<|ab<|ah ?_
  refine ar (bQ ((xs.length:Int)-1) (bC (by(first|omega|(simp;omega))) (by(first|omega|(simp;omega)))) rfl) ?_
  refine aA<|aY (ι:={j:Nat // j≤xs.length∧xs.drop j=ys.drop j}) (fun i=>⟨41,[(0,.v (.c (cM xs))),(1,.v (.c (cM ys))),(5,.v (.c (.i .i64 ((i.1:Int)-1))))],[]⟩) (fun i=>i.1) ⟨xs.length,aX _,by rw[mE (aX _),mE (by omega)]⟩ (ak ⟨rfl,rfl,rfl,trivial⟩ trivial rfl) ?_
  rintro⟨j,hj,hD⟩
  dsimp only
  refine ab<|ab<|ah ?_
  refine aB rfl (fun hc3=>?_) (fun hc3=>?_)
  ·obtain⟨q,rfl⟩: ∃q,j=q+1:=⟨j-1,by simp only[decide_eq_true_eq] at hc3;omega⟩
   have e1:=getD_some (xs:=xs) (i:=q) (by omega)
   have e2:=getD_some (xs:=ys) (i:=q) (by omega)
   refine Dw.weak (σ':=⟨41,[(0,.v (.c (cM xs))),(1,.v (.c (cM ys))),(5,.v (.c (.i .i64 (q:Int))))],[]⟩) (ak ⟨rfl,rfl,by rw[show(q:Int)=((q+1:Nat):Int)-1 from by omega];rfl,trivial⟩ trivial rfl) ?_
   refine az<|ab<|aA<|ab<|ab<|dx 9 [] ?_
   refine aq (aC gw rfl rfl (by(first|omega|(simp;omega))) (gG _) rfl rfl) ?_
   refine aq (aL dH rfl (im (i:=q) (by(first|omega|(simp;omega)))) rfl) ?_
   refine aq (aC gw rfl rfl (by(first|omega|(simp;omega))) (gG _) rfl rfl) ?_
   refine aq (aL dH rfl (im (i:=q) (by(first|omega|(simp;omega)))) rfl) ?_
   refine aB rfl (fun hc4=>?_) (fun hc4=>?_)
   ·have hfin:cO (val xs) (val ys)= -1:=dd (yH hLxs hLys e1 e2 hD (by simpa using hc4))
    refine ab<|ah<|bh ?_
    rw[hfin]
    exact ag (am aa)
   ·have hlt: ¬xs.getD q 0<ys.getD q 0:=by simpa using hc4
    refine az<|ab<|dx 9 [] ?_
    refine aq (aC gw rfl rfl (by(first|omega|(simp;omega))) (gG _) rfl rfl) ?_
    refine aq (aL dH rfl (im (i:=q) (by(first|omega|(simp;omega)))) rfl) ?_
    refine aq (aC gw rfl rfl (by(first|omega|(simp;omega))) (gG _) rfl rfl) ?_
    refine aq (aL dH rfl (im (i:=q) (by(first|omega|(simp;omega)))) rfl) ?_
    refine aB rfl (fun hc5=>?_) (fun hc5=>?_)
    ·have hfin:cO (val xs) (val ys)=1:=dk (yH hLys hLxs e2 e1 hD.symm (by simpa using hc5))
     refine ab<|ah<|bh ?_
     rw[hfin]
     exact ag (am aa)
    ·have hgt: ¬xs.getD q 0>ys.getD q 0:=by simpa using hc5
     refine az<|ah ?_
     refine ar (bQ ((q:Int)-1) (bC (by(first|omega|(simp;omega))) (by(first|omega|(simp;omega)))) rfl) ?_
     exact⟨⟨q,by omega,Fu (by omega) (by omega) hD (by omega)⟩,ak ⟨rfl,rfl,rfl,trivial⟩ trivial rfl,by show q<q+1;omega⟩
  ·have hz:j=0:=by simp only[decide_eq_false_iff_not] at hc3;omega
   have hfin:cO (val xs) (val ys)=0:=by subst hz;simp only[od] at hD;rw[hD];exact ie rfl
   refine aW<|ab<|ah<|bh ?_
   rw[hfin]
   exact ag (am aa)
theorem tu (hLxs:Lim xs) (hn:xs.length≤100000000) (hb:val xs≤18446744073709551615):Ok Tryz.prog 127 [.c (cM xs)] [.c (.i .u64 (val xs))]:=by
 refine eG Tryz.func127 21 [.tmp 2] rfl<|ab<|ah<|ab<|ah<|ab<|ab<|ah ?_
 refine ar (bQ ((xs.length:Int)-1) (bC (by(first|omega|(simp;omega))) (by(first|omega|(simp;omega)))) rfl) ?_
 refine aA<|aY (ι:={t:Nat×Int // ShInv xs t.1 t.2}) (fun i=>⟨21,[(0,.v (.c (cM xs))),(3,.v (.c (.i .u64 i.1.2))),(4,.v (.c (.i .i64 ((i.1.1:Int)-1))))],[]⟩) (fun i=>i.1.1) ⟨(xs.length,0),⟨Nat.le_refl _,pq 0,by rw[tO];simp⟩⟩ (ak ⟨rfl,rfl,rfl,trivial⟩ trivial rfl) ?_
 rintro⟨⟨j,r⟩,hI⟩
 replace hI:ShInv xs j r:=hI
 have g5:=hI.le
 have g3:=hI.r0
 dsimp only
 refine ab<|ab<|ah ?_
 refine aB rfl (fun hc1=>?_) (fun hc1=>?_)
 ·obtain⟨q,rfl⟩: ∃q,j=q+1:=⟨j-1,by simp only[decide_eq_true_eq] at hc1;omega⟩
  have hS:=hI.step hLxs
  have hB:=hS.bound hLxs
  have g1:=bU hLxs q
  refine Dw.weak (σ':=⟨21,[(0,.v (.c (cM xs))),(3,.v (.c (.i .u64 r))),(4,.v (.c (.i .i64 (q:Int))))],[]⟩) (ak ⟨rfl,rfl,by rw[show(q:Int)=((q+1:Nat):Int)-1 from by omega];rfl,trivial⟩ trivial rfl) ?_
  refine az<|ab<|aA<|ah ?_
  refine ar (bQ (r*1000000000) (mz (by(first|omega|(simp;omega))) (by(first|omega|(simp;omega)))) rfl) ?_
  refine ar (aC gw rfl rfl (by(first|omega|(simp;omega))) (gG _) rfl rfl) ?_
  refine ar (aL dH rfl (im (i:=q) (by(first|omega|(simp;omega)))) rfl) ?_
  refine ar (bl (r:=xs.getD q 0) gO f7 rfl (iu (by(first|omega|(simp;omega))) (by(first|omega|(simp;omega)))) rfl) ?_
  refine ar (bQ ((r*1000000000)+(xs.getD q 0)) (iW (by(first|omega|(simp;omega))) (by(first|omega|(simp;omega)))) rfl) ?_
  refine ah ?_
  refine ar (bQ ((q:Int)-1) (bC (by(first|omega|(simp;omega))) (by(first|omega|(simp;omega)))) rfl) ?_
  exact⟨⟨(q,r*1000000000+xs.getD q 0),hS⟩,ak ⟨rfl,rfl,rfl,trivial⟩ trivial rfl,by show q<q+1;omega⟩
 ·have hz:j=0:=by simp only[decide_eq_false_iff_not] at hc1;omega
  have hfin:val xs=r:=by subst hz;have:=hI.v;simp[val,pL] at this;omega
  refine aW<|ab<|ah<|bh ?_
  rw[hfin]
  exact ag (am aa)
theorem CO {neg:Bool}(hL:Lim xs) (hn:xs.length≤1000000000):Ok Tryz.prog 63 [.c (.b neg),.c (cM xs)] [dI (sg neg (val xs))]:=by
 refine bS Tryz.func63 rfl<|ac rfl (io hL (by omega)) ?_
 refine dF (au rfl) (fun c1 hb1=>?_)
 cases c1
 ·have hfin:dI (sg neg (val xs))=.a ([.b false]++[cL (val xs)]):=by rw[hb1,bL];unfold dI cI;rw[show decide (val xs<0)=false from by have:=bE hL;simp;omega];rfl
  refine ar (aG (us:=([.b false]++[cL (val xs)])) Ig CK rfl rfl rfl) ?_
  refine ag ?_
  rw[hfin]
  exact bb d6 rfl aa
 ·have hfin:dI (sg neg (val xs))=.a ([.b (decide (((ce (val xs).natAbs).length:Int)>0))]++[cL (val xs)]):=by rw[hb1];exact LZ (bE hL)
  refine ar (aG (us:=([.b (decide ((((ce (val xs).natAbs).length:Int))>0))]++[cL (val xs)])) Ig CK rfl rfl rfl) ?_
  refine ag ?_
  rw[hfin]
  exact bb d6 rfl aa
theorem Js (h:0<r):ce r.toNat=(r%1000000000)::ce (r/1000000000).toNat:=by
 rw[uy (by omega)]
 congr 1
 ·omega
 ·congr 1;omega
set_option maxHeartbeats 1000000 in
set_option maxRecDepth 10000 in
theorem Dn (u:Int) (w:World) (h0:0≤u) (h1:u≤18446744073709551615):
 Calls Tryz.prog 64 #[.int .u64 u] w fun e w'=> ∃v,e=.returned v∧w'.ownsRow w.heap.size 165 1 v (ce u.toNat).length ((ce u.toNat).map (Value.int .u32))∧Below w.heap.size w w':=by
 obtain⟨i0,hi0,hz0,hz1,hz2⟩:=info_parts jS
 have hlen:(ce u.toNat).length≤3:=by
  refine(fZ _).len (bk _) ?_
  rw[bu]
  have h3:pw 3=1000000000000000000000000000:=by decide
  omega
 go_enter Tryz.func64,Tryz.ntmps64
 go_wp2_with fail
 go_loopw [0,3] (fun n v wr=> ∃(r:Int) (k:Nat) (zs:List Int),n=.int .u64 r∧0≤r∧r≤u∧wr.ownsRow w.heap.size 165 1 v k (zs.map (Value.int .u32))∧Below w.heap.size w wr∧Hid (zs.length=k∧ce u.toNat=zs++ce r.toNat))
  (fun n _ _=>(intOf n).toNat)
 case atStart=>exact⟨u,0,[],rfl,h0,pq _,kO _ _ _ _,bP _ _,rfl,rfl⟩
 case round=>
  obtain⟨r,k,zs,rfl,hr0,hru,hown,hbel,H⟩:=hrel
  have hz:=hbel.size
  by_cases hr:0<r
  ·have Hs:Hid ((zs++[r%1000000000]).length=k+1∧ce u.toNat=(zs++[r%1000000000])++ce (r/1000000000).toNat):=by
    obtain⟨l1,l2⟩:=H.out
    refine⟨by simp[l1],?_⟩
    rw[l2,Js hr];simp
   have hk:k≤3:=by
    obtain⟨l1,l2⟩:=H.out
    rw[l2] at hlen
    simp at hlen;omega
   clear H
   have e1:r.tmod 1000000000=r%1000000000:=gA hr0
   have e2:IntKind.u32.wrap (r%1000000000)=r%1000000000:=mQ (by omega) (by omega)
   have e3:r.tdiv 1000000000=r/1000000000:=nv hr0
   have e4:IntKind.u64.wrap (r/1000000000)=r/1000000000:=iu (by omega) (by omega)
   go_wp2_with (at_builtin;go_must (refine wpList_append_own _ rfl _ _ 66 rfl w.heap.size 165 i0 (.int .u32 0) 1 4 ks hi0 hz0 hz1 hz2 rfl (by decide) _ _ _ rfl (hown.alloc _) ⟨wr.heap.size,0,none⟩ 1 1 [.int .u32 _] rfl rfl (cell_one_new _ _ _) (by simp[Value.oneCell']) (by unfold maxLen;omega) (by omega) (by simp;omega) ?_);intro v' w1 hown' hgrow' _)
   go_roundw
   case rel=>exact⟨r/1000000000,k+1,_,by first|rfl|(simp[e3,e4]),by omega,by omega,by simpa using hown',fb hown hbel hz hgrow',Hs⟩
   case measure=>simp[intOf]<;>omega
  ·obtain rfl:r=0:=by omega
   have Hs:Hid (zs.length=k∧ce u.toNat=zs):=by
    obtain⟨l1,l2⟩:=H.out
    refine⟨l1,?_⟩
    rw[l2];simp[iy]
   clear H
   go_wp2
   go_ret
   obtain⟨l1,l2⟩:=Hs.out
   exact⟨_,rfl,by rw[l2,l1];exact hown,hbel⟩
theorem mN (h0:0≤u) (h1:u≤18446744073709551615):Ok Tryz.prog 64 [.c (.i .u64 u)] [.c (cL u)]:=⟨by kernel_rfl,fun av vs w hav h=>by
 obtain⟨vs⟩:=vs
 match vs,h.1,h with
 |[v],_,h=>
  obtain rfl:=iM h.uncons.1
  refine(Dn u w h0 h1).mono ?_
  rintro e w' ⟨v,rfl,g1,g2⟩
  obtain⟨A,c,rfl⟩:=pn g1
  refine⟨_,rfl,?_,g2⟩
  have hn:u.natAbs=u.toNat:=by omega
  have hsl:=Ow.sl ⟨g1,bk _⟩
  have:=qk (av:=av) hsl.1 hsl.2.1 hsl.2.2.1 (fun b off e hV=>by have:=Ow.fresh (k:=w.heap.size) (⟨g1,bk _⟩:Ow w' w.heap.size _ _ _) (aX _) b off e;have:=hav b hV;omega)
  show RdC av w' _ (cL u)
  unfold cL
  rw[hn];exact this⟩
structure DInv (us:List Int) (V:Int) (N j:Nat) (R:Int) (zs:List Int):Prop where
 le:j≤us.length
 R0:0≤R
 RV:R<V
 L:Lim zs
 len:zs.length=N
 hN:us.length≤N
 v:val (us.drop j)=val ((zs.take us.length).drop j)*V+R
theorem xe (h:i<xs.length):val (xs.drop i)=xs.getD i 0+1000000000*val (xs.drop (i+1)):=by
 rw[kY h,cA]
 grind
theorem DInv.start (hV:0<V) (hN:us.length≤N):DInv us V N us.length 0 (List.replicate N 0):=
 ⟨Nat.le_refl _,pq _,hV,Lim.zeros _,by simp,hN,by rw[mE (aX _),mE (by simp;omega)];simp[val]⟩
theorem DInv.step {q R':Int}(h:DInv us V N (i+1) R zs) (_hL:Lim us) (hq0:0≤q) (hq1:q<1000000000) (hR0:0≤R') (hRV:R'<V) (he:us.getD i 0+1000000000*R=q*V+R'):DInv us V N i R' (zs.set i q):=by
 have hi:i<us.length:=h.le
 have hlen:=h.len
 have hN:=h.hN
 refine⟨by omega,hR0,hRV,h.L.set hq0 hq1,by simp[hlen],hN,?_⟩
 have e1:((zs.set i q).take us.length)=(zs.take us.length).set i q:=by rw[List.take_set]
 have hi2:i<((zs.take us.length).set i q).length:=by grind
 rw[xe hi,h.v,e1,xe hi2]
 have e3:((zs.take us.length).set i q).drop (i+1)=(zs.take us.length).drop (i+1):=by rw[List.drop_set_of_lt (by omega)]
 grind
theorem DInv.done (h:DInv us V N 0 R zs):val us/V=val (zs.take us.length)∧val us%V=R:=by
 have hv:=h.v
 simp only[od] at hv
 have h0:=h.R0
 have h1:=h.RV
 exact(Int.ediv_emod_unique (show 0<V by omega)).2 ⟨by rw[hv,qd V];omega,h0,h1⟩
theorem xW (hR:0≤R) (hV:R<V) (hd:0≤d) (hd1:d<1000000000):0≤(d+1000000000*R)/V∧(d+1000000000*R)/V≤999999999:=by
 refine⟨Int.ediv_nonneg (by omega) (by omega),?_⟩
 have:(d+1000000000*R)/V<1000000000:=Int.ediv_lt_of_lt_mul (by omega) (by omega)
 omega
theorem OG {T hi top:Int}(hV:top*pw n≤V) (htop:0<top) (hT:T<(hi+1)*pw n) (hT0:0≤T) (hVp:0<V):T/V≤hi/top:=by
 have h1:T/V*V≤T:=Int.ediv_mul_le _ (by omega)
 have h0:0≤T/V:=rK hT0 (by omega)
 generalize T/V=q at*
 have h2:q*(top*pw n)≤q*V:=mj hV h0
 have hp:=cW n
 have h3:q*top*pw n<(hi+1)*pw n:=by grind
 have h4:q*top<hi+1:=Int.lt_of_mul_lt_mul_right h3 (by omega)
 exact(Int.le_ediv_iff_mul_le htop).2 (by omega)
structure HInv (rs:List Int) (n:Nat) (H:Int):Prop where
 h0:0≤H
 h1:H≤999999999999999999
 h:val rs<(H+1)*pw (n-1)
theorem KT (hL:Lim rs) (hn:1≤n) (hl:rs.length=n+1):HInv rs n (rs.getD n 0*1000000000+rs.getD (n-1) 0):=by
 have g1:=bU hL n
 have g2:=bU hL (n-1)
 refine⟨by omega,by omega,?_⟩
 obtain⟨k,rfl⟩: ∃k,n=k+1:=⟨n-1,by omega⟩
 have e1:=jL (xs:=rs) (k:=k+1) (by omega)
 have e2:=jL (xs:=rs) (k:=k) (by omega)
 rw[bM (by omega),e2] at e1
 have h1:=dj (hL.take k)
 rw[e1,cK]
 grind
theorem Mc (hL:Lim rs) (hn:1≤n) (hl:rs.length=n):HInv rs n (rs.getD (n-1) 0):=by
 have g2:=bU hL (n-1)
 refine⟨by omega,by omega,?_⟩
 obtain⟨k,rfl⟩: ∃k,n=k+1:=⟨n-1,by omega⟩
 have e2:=jL (xs:=rs) (k:=k) (by omega)
 have h1:=dj (hL.take k)
 grind
theorem Kl (hL:Lim rs) (hl:rs.length<n):HInv rs n 0:=by
 refine⟨by omega,by omega,?_⟩
 have h1:=dj hL
 have:=lk (n:=rs.length) (m:=n-1) (by omega)
 omega
theorem AG (hL:Lim vs) (hN:Nrm vs) (hne:vs≠ []):0<vs.getD (vs.length-1) 0∧vs.getD (vs.length-1) 0*pw (vs.length-1)≤val vs:=by
 obtain⟨ys,y,e,hy⟩:=hN.last hne
 have hl:vs.length=ys.length+1:=by grind
 have hk:vs.length-1<vs.length:=by omega
 have e1:=jL hk
 have h1:=bE (hL.take (vs.length-1))
 have h2:=bU hL (vs.length-1)
 grind
theorem pG (h0:0≤r) (h:r<pw n):(ce r.natAbs).length≤n:=by
 refine(fZ _).len (bk _) ?_
 rw[bu];omega
theorem OB {s:Int}(hs:0<s):(x*s)/(y*s)=x/y∧(x*s)%(y*s)=x%y*s:=by
 refine⟨Int.mul_ediv_mul_of_pos_left x y hs,?_⟩
 rw[qd x,qd y,Int.mul_emod_mul_of_pos _ _ hs,qd]
theorem x8 (h:Sz k a):Sz k (a.natAbs:Int):=h.of_le (by omega)
theorem lp (ha:Sz 100000000 a) (hb:Sz 100000000 b):Ok Tryz.prog 117 [.c (cL a),.c (cL b)] [.c (.i .i64 (cO a.natAbs b.natAbs))]:=by
 have:=BL (bk a.natAbs) (bk b.natAbs) (fZ _) (fZ _) (fA ha) (fA hb)
 rw[bu,bu] at this
 exact this
theorem Lv (ha:Sz 100000000 a) (hb:Sz 100000000 b):Ok Tryz.prog 180 [.c (cL a),.c (cL b)] [.c (cL ((a.natAbs:Int)+b.natAbs))]:=by
 have:=JZ (bk a.natAbs) (bk b.natAbs) (fA ha) (fA hb)
 rw[bu,bu] at this
 exact this
theorem rb (ha:Sz 100000000 a) (h:b.natAbs≤a.natAbs):Ok Tryz.prog 155 [.c (cL a),.c (cL b)] [.c (cL ((a.natAbs:Int)-b.natAbs))]:=by
 have:=FW (bk a.natAbs) (bk b.natAbs) (fA ha) ((fZ _).len (bk _) (by have:=dj (bk a.natAbs);rw[bu] at this⊢;omega)) (by rw[bu,bu];omega)
 rw[bu,bu] at this
 exact this
theorem JG (ha:Sz 100000000 a) (hb:Sz 100000000 b):Ok Tryz.prog 118 [.c (cL a),.c (cL b)] [.c (cL ((a.natAbs:Int)*b.natAbs))]:=by
 have:=xC (bk a.natAbs) (bk b.natAbs) (fA ha) (fA hb)
 rw[bu,bu] at this
 exact this
theorem QL (ha:Sz 100000000 a) (h0:0≤m) (h1:m<1000000000):Ok Tryz.prog 154 [.c (cL a),.c (.i .u32 m)] [.c (cL ((a.natAbs:Int)*m))]:=by
 have:=Du (bk a.natAbs) (fA ha) h0 h1
 rw[bu] at this
 exact this
theorem fG {neg:Bool}(ha:Sz 100000000 a):Ok Tryz.prog 63 [.c (.b neg),.c (cL a)] [dI (sg neg (a.natAbs:Int))]:=by
 have:=CO (neg:=neg) (bk a.natAbs) (by have:=fA ha;omega)
 rw[bu] at this
 exact this
theorem Jj (hr:0≤r) (h0:0≤d) (h1:d<1000000000) (hl:(ce r.natAbs).length≤100000000):Ok Tryz.prog 102 [.c (cM (d::ce r.natAbs))] [.c (cL (d+1000000000*r))]:=by
 have:=io (Lim.cons h0 h1 (bk r.natAbs)) (by simp;omega)
 rw[cA,bu] at this
 rw[show((r.natAbs:Nat):Int)=r from by omega] at this
 exact this
theorem AW (ha:a.natAbs≤18446744073709551615):Ok Tryz.prog 127 [.c (cL a)] [.c (.i .u64 (a.natAbs:Int))]:=by
 have:=tu (bk a.natAbs) (by have h3:pw 3=1000000000000000000000000000:=by decide
                            have:=(fZ a.natAbs).len (bk _) (k:=3) (by rw[bu];omega)
                            omega) (by rw[bu];omega)
 rw[bu] at this
 exact this
theorem Fg (hLxs:Lim xs) (hLys:Lim ys) (_nX:Nrm xs) (nY:Nrm ys) (hn:xs.length≤20000000) (hm:ys.length≤20000000) (hy0:ys≠ []):Ok Tryz.prog 126 [.c (cM xs),.c (cM ys)] [.c (cL (val xs/val ys)),.c (cL (val xs%val ys))]:=by
 have hyl:1≤ys.length:=by have:=List.length_pos_iff.2 hy0;omega
 obtain⟨htop,htopv⟩:=AG hLys nY hy0
 have hB1:=bU hLys (ys.length-1)
 have hvy0:0<val ys:=by have h2:=mj (cW (ys.length-1)) (show 0≤ys.getD (ys.length-1) 0 by omega);omega
 have hvx0:=bE hLxs
 obtain⟨B,hB⟩: ∃B,ys.getD (ys.length-1) 0=B:=⟨_,rfl⟩
 rw[hB] at htop hB1 htopv
 obtain⟨s,hs⟩: ∃s,1000000000/(B+1)=s:=⟨_,rfl⟩
 have hs1:1≤s:=by rw[←hs];exact(Int.le_ediv_iff_mul_le (by omega)).2 (by omega)
 have hs2:s≤500000000:=by rw[←hs];exact Int.ediv_le_of_le_mul (by omega) (by omega)
 obtain⟨V,hV⟩: ∃V,val ys*s=V:=⟨_,rfl⟩
 obtain⟨W,hW⟩: ∃W,val xs*s=W:=⟨_,rfl⟩
 have hV0:0<V:=by rw[←hV];exact Int.mul_pos hvy0 (by omega)
 have hW0:0≤W:=by rw[←hW];exact lC hvx0 (by omega)
 have eV:(V.natAbs:Int)=V:=by omega
 have eW:(W.natAbs:Int)=W:=by omega
 have hVb:V<pw (ys.length+1):=by
  have h1:=dj hLys
  have h2:val ys*s≤val ys*1000000000:=mj (by omega) (by omega)
  rw[cK];omega
 have hWb:W<pw (xs.length+1):=by
  have h1:=dj hLxs
  have h2:val xs*s≤val xs*1000000000:=mj (by omega) (by omega)
  rw[cK];omega
 have hVlen:(ce V.natAbs).length≤ys.length+1:=pG (by omega) hVb
 have hWlen:(ce W.natAbs).length≤xs.length+1:=pG hW0 hWb
 have hVne:ce V.natAbs≠ []:=fun e=>by have:=df.1 e;omega
 have hVl1:1≤(ce V.natAbs).length:=by have:=List.length_pos_iff.2 hVne;omega
 obtain⟨htop2,htopv2⟩:=AG (bk V.natAbs) (fZ _) hVne
 have hB2:=bU (bk V.natAbs) ((ce V.natAbs).length-1)
 rw[bu,eV] at htopv2
 obtain⟨top,ht⟩: ∃top,(ce V.natAbs).getD ((ce V.natAbs).length-1) 0=top:=⟨_,rfl⟩
 rw[ht] at htop2 htopv2 hB2
 obtain⟨n,hnl⟩: ∃n,(ce V.natAbs).length=n:=⟨_,rfl⟩
 rw[hnl] at hVlen hVl1 htopv2 ht
 have hVlt:V<pw n:=by have:=dj (bk V.natAbs);rw[bu,eV,hnl] at this;exact this
 obtain⟨hq1,hq2⟩:=OB (x:=val xs) (y:=val ys) (s:=s) (by omega)
 rw[hV,hW] at hq1 hq2
 have szV:Sz 100000000 V:=⟨by have:=lk (n:=ys.length+1) (m:=100000000) (by omega);omega,by have:=cW 100000000;omega⟩
 have hby1:Ok Tryz.prog 154 [.c (cM ys),.c (.i .u32 s)] [.c (cL V)]:=by rw[←hV];exact Du hLys (by omega) (by omega) (by omega)
 have hby2:Ok Tryz.prog 154 [.c (cM xs),.c (.i .u32 s)] [.c (cL W)]:=by rw[←hW];exact Du hLxs (by omega) (by omega) (by omega)
 have hbyV: ∀g:Int,0≤g→g<1000000000→Ok Tryz.prog 154 [.c (cL V),.c (.i .u32 g)] [.c (cL (V*g))]:=fun g h0 h1=>by have:=QL szV h0 h1;rw[eV] at this;exact this
 refine eG Tryz.func126 173 [.tmp 4,.tmp 5] rfl<|ab<|ah ?_
 refine dV (ι:=Unit) (fun i=>⟨173,[(0,.v (.c (cM xs))),(1,.v (.c (cM ys)))],[]⟩) ?_ ?_
 ·refine ab<|ah ?_
  refine dF (au rfl) (fun c1 hb1=>?_)
  cases c1
  ·refine bT rfl<|az ?_
   exact⟨(),ak ⟨rfl,rfl,trivial⟩ trivial rfl⟩
  ·have ha2:xs.length≤2:=by simp only[decide_eq_true_eq] at hb1;omega
   refine aB rfl (fun hc2=>?_) (fun hc2=>?_)
   ·have hb2:ys.length≤2:=by simp only[decide_eq_true_eq] at hc2;omega
    have hp2:pw 2=1000000000000000000:=by decide
    have hvx2:=dj hLxs
    have hvy2:=dj hLys
    have hp3:=lk (n:=xs.length) (m:=2) ha2
    have hp4:=lk (n:=ys.length) (m:=2) hb2
    have hd0:0≤val xs/val ys:=rK (by omega) (by omega)
    have hd1:val xs/val ys≤val xs:=Int.ediv_le_self _ (by omega)
    have hd2:val xs/val ys≤18446744073709551615:=by omega
    have hm0:0≤val xs%val ys:=o7 _ (by omega)
    have hm1:val xs%val ys<val ys:=la _ (by omega)
    have hm2:val xs%val ys≤18446744073709551615:=by omega
    refine ab<|ah<|ac rfl (tu hLxs (by omega) (by omega))<|ac rfl (tu hLys (by omega) (by omega))<|ab<|dx 10 []<|aq (gz (r:=val xs/val ys) rfl rfl (by omega) (by rw[nv (by omega)];exact iu (by omega) (by omega)) rfl) ?_
    refine aO rfl (mN (by assumption) (by assumption))<|aq (cC (r:=val xs%val ys) rfl rfl (by omega) (gA hvx0) rfl) ?_
    refine aO rfl (mN (by assumption) (by assumption))<|bh ?_
    exact ag (am (am aa))
   ·refine az ?_
    exact⟨(),ak ⟨rfl,rfl,trivial⟩ trivial rfl⟩
 ·rintro⟨⟩
  try dsimp only
  refine ab<|ah ?_
  refine ar (bQ (((ys.length-1:Nat):Int)) (by rw[show((ys.length-1:Nat):Int)=(ys.length:Int)-1 from by omega];exact bC (by omega) (by omega)) rfl) ?_
  refine ar (aC gw rfl rfl (by(first|omega|(simp;omega))) (gG _) rfl rfl) ?_
  refine ar (aL dH rfl (im (i:=(ys.length-1)) (by(first|omega|(simp;omega)))) rfl) ?_
  refine ar (bl (r:=B) gO f7 rfl (by rw[hB];exact iu (by omega) (by omega)) rfl) ?_
  refine ar (bQ (B+1) (iW (by(first|omega|(simp;omega))) (by(first|omega|(simp;omega)))) rfl) ?_
  refine ar (gz (r:=s) rfl rfl (by omega) (by rw[nv (by omega),hs];exact iu (by omega) (by omega)) rfl) ?_
  refine ar (bl (r:=s) f7 gO rfl (mQ (by omega) (by omega)) rfl) ?_
  refine ab<|ah<|ac rfl (hby1)<|ab<|ah ?_
  refine ar (bQ (((n-1:Nat):Int)) (by rw[hnl,show((n-1:Nat):Int)=(n:Int)-1 from by omega];exact bC (by omega) (by omega)) rfl) ?_
  refine ar (aC gw rfl rfl (by(first|omega|(simp;omega))) (gG _) rfl rfl) ?_
  refine ar (aL dH rfl (im (i:=(n-1)) (by(first|omega|(simp;omega)))) rfl) ?_
  refine ar (bl (r:=top) gO f7 rfl (by rw[ht];exact iu (by omega) (by omega)) rfl) ?_
  refine ab<|ah<|ab<|ah ?_
  refine ar (bQ ((xs.length:Int)+1) (aP (by(first|omega|(simp;omega))) (by(first|omega|(simp;omega)))) rfl) ?_
  refine DL.mk<|tJ (lB (n:=xs.length+1) ua rfl rfl (by omega) (by omega) rfl) rfl<|dC ?_
  refine ab<|ah<|ac rfl (hby2)<|ab<|ah ?_
  refine ar (iU (q:=((ce W.natAbs).length)) gw rfl rfl (by(first|omega|(simp;omega))) rfl) ?_
  refine ab<|ab<|ah ?_
  refine ar (bQ ((((ce W.natAbs).length:Int))-1) (bC (by(first|omega|(simp;omega))) (by(first|omega|(simp;omega)))) rfl) ?_
  refine aA<|aY (ι:={t:Nat×Int×List Int // DInv (ce W.natAbs) V (xs.length+1) t.1 t.2.1 t.2.2}) (fun i=>⟨173,[(8,.v (.c (.i .u32 s))),(9,.v (.c (cL V))),(10,.v (.c (.i .u64 top))),(11,.v (.c (cL i.1.2.1))),(12,.o 64 ((ce W.natAbs).length) (xs.length+1)),(13,.v (.c (cL W))),(14,.v (.c (.i .i64 ((i.1.1:Int)-1))))],[(64,165,i.1.2.2.map (CellD.i .u32))]⟩) (fun i=>i.1.1) ⟨((ce W.natAbs).length,0,List.replicate (xs.length+1) 0),DInv.start hV0 hWlen⟩ (ak ⟨rfl,rfl,rfl,by rw[show cL 0=.s 0 [] from by unfold cL;rw[show(0:Int).natAbs=0 from rfl,iy];rfl];rfl,rfl,rfl,rfl,trivial⟩ ⟨by rw[show(List.replicate (xs.length+1) (CellD.i .u32 0))=(List.replicate (xs.length+1) 0).map (CellD.i .u32) from by simp];rfl,trivial⟩ rfl) ?_
  rintro⟨⟨j,R,zs⟩,hI⟩
  replace hI:DInv (ce W.natAbs) V (xs.length+1) j R zs:=hI
  have g6:=hI.len
  have gR0:=hI.R0
  have gRV:=hI.RV
  have gle:=hI.le
  have eR:(R.natAbs:Int)=R:=by omega
  have hRlen:(ce R.natAbs).length≤n:=pG gR0 (by omega)
  dsimp only
  refine ab<|ab<|ah ?_
  refine aB rfl (fun hc3=>?_) (fun hc3=>?_)
  ·obtain⟨q,rfl⟩: ∃q,j=q+1:=⟨j-1,by simp only[decide_eq_true_eq] at hc3;omega⟩
   have gd:=bU (bk W.natAbs) q
   obtain⟨T,hT⟩: ∃T,(ce W.natAbs).getD q 0+1000000000*R=T:=⟨_,rfl⟩
   have hT0:0≤T:=by omega
   have eT:(T.natAbs:Int)=T:=by omega
   have htrim:Ok Tryz.prog 102 [.c (cM ((ce W.natAbs).getD q 0::ce R.natAbs))] [.c (cL T)]:=by rw[←hT];exact Jj gR0 gd.1 gd.2 (by omega)
   have hTb:T<pw (n+1):=by rw[cK];omega
   have hTlen:(ce T.natAbs).length≤n+1:=pG hT0 hTb
   have szT:Sz 100000000 T:=⟨by have:=lk (n:=n+1) (m:=100000000) (by omega);omega,by have:=cW 100000000;omega⟩
   have hquo:=xW gR0 gRV gd.1 gd.2
   rw[hT] at hquo
   have gt1:=bU (bk T.natAbs) (ce V.natAbs).length
   have gt2:=bU (bk T.natAbs) (n-1)
   refine Dw.weak (σ':=⟨173,[(8,.v (.c (.i .u32 s))),(9,.v (.c (cL V))),(10,.v (.c (.i .u64 top))),(11,.v (.c (cL R))),(12,.o 64 ((ce W.natAbs).length) (xs.length+1)),(13,.v (.c (cL W))),(14,.v (.c (.i .i64 (q:Int))))],[(64,165,zs.map (CellD.i .u32))]⟩) (ak ⟨rfl,rfl,rfl,rfl,rfl,rfl,by rw[show(q:Int)=((q+1:Nat):Int)-1 from by omega];rfl,trivial⟩ ⟨rfl,trivial⟩ rfl) ?_
   refine az<|ab<|aA<|ab<|bR<|fK 2 ?_
   refine b9 (aC gw rfl rfl (by(first|omega|(simp;omega))) (gG _) rfl rfl) ?_
   refine b9 (aL dH rfl (im (i:=q) (by(first|omega|(simp;omega)))) rfl) ?_
   refine tJ (rn (us:=[.i .u32 ((ce W.natAbs).getD q 0)]) ua rfl rfl (by decide) (by decide) rfl) rfl ?_
   refine fK 1<|L6 (wR (rs:=ce R.natAbs) ua rfl rfl rfl (by omega) rfl) ?_
   refine b9 (mg rfl (htrim))<|jq<|ab<|ah ?_
   refine dV (ι:={H:Int // H=if n<(ce T.natAbs).length then(ce T.natAbs).getD n 0*1000000000 else 0}) (fun i=>⟨173,[(8,.v (.c (.i .u32 s))),(9,.v (.c (cL V))),(10,.v (.c (.i .u64 top))),(11,.v (.c (cL T))),(12,.o 64 ((ce W.natAbs).length) (xs.length+1)),(13,.v (.c (cL W))),(14,.v (.c (.i .i64 (q:Int)))),(15,.v (.c (.i .u64 i.1)))],[(64,165,zs.map (CellD.i .u32))]⟩) ?_ ?_
   ·refine ab<|ah ?_
    refine aB rfl (fun hc4=>?_) (fun hc4=>?_)
    ·have hlt:(ce V.natAbs).length<(ce T.natAbs).length:=by simp only[decide_eq_true_eq] at hc4;omega
     refine ah ?_
     refine ar (aC gw rfl rfl (by(first|omega|(simp;omega))) (gG _) rfl rfl) ?_
     refine ar (aL dH rfl (im (i:=((ce V.natAbs).length)) (by(first|omega|(simp;omega)))) rfl) ?_
     refine ar (bl (r:=(ce T.natAbs).getD (((ce V.natAbs).length)) 0) gO f7 rfl (iu (by(first|omega|(simp;omega))) (by(first|omega|(simp;omega)))) rfl) ?_
     refine ar (bQ (((ce T.natAbs).getD (((ce V.natAbs).length)) 0)*1000000000) (mz (by(first|omega|(simp;omega))) (by(first|omega|(simp;omega)))) rfl) ?_
     exact⟨⟨(ce T.natAbs).getD (ce V.natAbs).length 0*1000000000,by rw[hnl] at*;rw[if_pos (by have:=hc4;simp only[decide_eq_true_eq] at this;omega)]⟩,ak ⟨rfl,rfl,rfl,rfl,rfl,rfl,rfl,rfl,trivial⟩ ⟨rfl,trivial⟩ rfl⟩
    ·refine az ?_
     exact⟨⟨0,by rw[if_neg (by have:=hc4;simp only[decide_eq_false_iff_not] at this;omega)]⟩,ak ⟨rfl,rfl,rfl,rfl,rfl,rfl,rfl,rfl,trivial⟩ ⟨rfl,trivial⟩ rfl⟩
   ·rintro⟨H1,hH1⟩
    replace hH1:H1=if n<(ce T.natAbs).length then(ce T.natAbs).getD n 0*1000000000 else 0:=hH1
    rw[hnl] at gt1
    have hHb:0≤H1∧H1≤999999999000000000:=by rw[hH1];split<;>omega
    dsimp only
    refine dV (ι:={H:Int // HInv (ce T.natAbs) n H}) (fun i=>⟨173,[(8,.v (.c (.i .u32 s))),(9,.v (.c (cL V))),(10,.v (.c (.i .u64 top))),(11,.v (.c (cL T))),(12,.o 64 ((ce W.natAbs).length) (xs.length+1)),(13,.v (.c (cL W))),(14,.v (.c (.i .i64 (q:Int)))),(15,.v (.c (.i .u64 i.1)))],[(64,165,zs.map (CellD.i .u32))]⟩) ?_ ?_
    ·refine ab<|ah ?_
     refine aB rfl (fun hc5=>?_) (fun hc5=>?_)
     ·have hlt:n≤(ce T.natAbs).length:=by simp only[decide_eq_true_eq] at hc5;omega
      have hHT:HInv (ce T.natAbs) n (H1+(ce T.natAbs).getD (n-1) 0):=by
       rcases jb n (ce T.natAbs).length with h1|h1
       ·rw[hH1,if_pos h1];exact KT (bk _) (by omega) (by omega)
       ·rw[hH1,if_neg (by omega),Int.zero_add];exact Mc (bk _) (by omega) (by omega)
      refine ah ?_
      refine ar (bQ (((n-1:Nat):Int)) (by rw[hnl,show((n-1:Nat):Int)=(n:Int)-1 from by omega];exact bC (by omega) (by omega)) rfl) ?_
      refine ar (aC gw rfl rfl (by(first|omega|(simp;omega))) (gG _) rfl rfl) ?_
      refine ar (aL dH rfl (im (i:=(n-1)) (by(first|omega|(simp;omega)))) rfl) ?_
      refine ar (bl (r:=(ce T.natAbs).getD (n-1) 0) gO f7 rfl (iu (by(first|omega|(simp;omega))) (by(first|omega|(simp;omega)))) rfl) ?_
      refine ar (bQ (H1+((ce T.natAbs).getD (n-1) 0)) (iW (by(first|omega|(simp;omega))) (by(first|omega|(simp;omega)))) rfl) ?_
      exact⟨⟨H1+(ce T.natAbs).getD (n-1) 0,hHT⟩,ak ⟨rfl,rfl,rfl,rfl,rfl,rfl,rfl,rfl,trivial⟩ ⟨rfl,trivial⟩ rfl⟩
     ·have hHF:HInv (ce T.natAbs) n H1:=by
       simp only[decide_eq_false_iff_not] at hc5
       rw[hH1,if_neg (by omega)];exact Kl (bk _) (by omega)
      refine az ?_
      exact⟨⟨H1,hHF⟩,ak ⟨rfl,rfl,rfl,rfl,rfl,rfl,rfl,rfl,trivial⟩ ⟨rfl,trivial⟩ rfl⟩
    ·rintro⟨H,hH⟩
     replace hH:HInv (ce T.natAbs) n H:=hH
     have hHa:=hH.h0
     have hHc:=hH.h1
     have hHh:=hH.h
     rw[bu,eT] at hHh
     have hest:=OG htopv2 htop2 hHh hT0 hV0
     have hq0:0≤H/top:=rK (by omega) (by omega)
     have hq9:H/top≤H:=Int.ediv_le_self _ (by omega)
     dsimp only
     refine ab<|ah<|ar (gz (r:=H/top) rfl rfl (by omega) (by rw[nv (by omega)];exact iu (by omega) (by omega)) rfl) ?_
     refine dV (ι:={g:Int // T/V≤g∧g≤999999999}) (fun i=>⟨173,[(8,.v (.c (.i .u32 s))),(9,.v (.c (cL V))),(10,.v (.c (.i .u64 top))),(11,.v (.c (cL T))),(12,.o 64 ((ce W.natAbs).length) (xs.length+1)),(13,.v (.c (cL W))),(14,.v (.c (.i .i64 (q:Int)))),(16,.v (.c (.i .u64 i.1)))],[(64,165,zs.map (CellD.i .u32))]⟩) ?_ ?_
     ·refine ab<|ah ?_
      refine aB rfl (fun hc6=>?_) (fun hc6=>?_)
      ·refine ah ?_
       exact⟨⟨999999999,hquo.2,pq _⟩,ak ⟨rfl,rfl,rfl,rfl,rfl,rfl,rfl,rfl,trivial⟩ ⟨rfl,trivial⟩ rfl⟩
      ·refine az ?_
       exact⟨⟨H/top,hest,by have:=hc6;simp only[decide_eq_false_iff_not] at this;omega⟩,ak ⟨rfl,rfl,rfl,rfl,rfl,rfl,rfl,rfl,trivial⟩ ⟨rfl,trivial⟩ rfl⟩
     ·rintro⟨g,hg⟩
      replace hg:T/V≤g∧g≤999999999:=hg
      dsimp only
      refine ab<|ah<|ar (bl (r:=g) f7 gO rfl (mQ (by omega) (by omega)) rfl) ?_
      refine ac rfl (hbyV g (by omega) (by omega))<|ab<|aA<|aY (ι:={g:Int // T/V≤g∧g≤999999999}) (fun i=>⟨173,[(8,.v (.c (.i .u32 s))),(9,.v (.c (cL V))),(10,.v (.c (.i .u64 top))),(11,.v (.c (cL T))),(12,.o 64 ((ce W.natAbs).length) (xs.length+1)),(13,.v (.c (cL W))),(14,.v (.c (.i .i64 (q:Int)))),(16,.v (.c (.i .u64 i.1))),(17,.v (.c (cL (V*i.1))))],[(64,165,zs.map (CellD.i .u32))]⟩) (fun i=>i.1.toNat) ⟨g,hg⟩ (ak ⟨rfl,rfl,rfl,rfl,rfl,rfl,rfl,rfl,rfl,trivial⟩ ⟨rfl,trivial⟩ rfl) ?_
      rintro⟨g,hg⟩
      replace hg:T/V≤g∧g≤999999999:=hg
      have hVg0:0≤V*g:=lC (by omega) (by omega)
      have eVg:((V*g).natAbs:Int)=V*g:=by omega
      have hVgb:V*g≤V*1000000000:=mj (by omega) (by omega)
      have szP:Sz 100000000 (V*g):=⟨by have:=lk (n:=n+1) (m:=100000000) (by omega);rw[cK] at this;omega,by have:=cW 100000000;omega⟩
      have hcmp:Ok Tryz.prog 117 [.c (cL (V*g)),.c (cL T)] [.c (.i .i64 (cO (V*g) T))]:=by have:=lp szP szT;rw[eVg,eT] at this;exact this
      dsimp only
      refine ab<|ab<|ah<|ac rfl (hcmp) ?_
      refine aB rfl (fun hc7=>?_) (fun hc7=>?_)
      ·have hgt:T<V*g:=by simp only[decide_eq_true_eq] at hc7;rcases pi (V*g) T with h1|h1|h1<;>first|(rw[dd h1] at hc7;omega)|(rw[ie h1] at hc7;omega)|exact h1
       have hg2:T/V≤g-1:=by have:T/V<g:=(Int.ediv_lt_iff_lt_mul hV0).2 (by rw[qd];exact hgt);omega
       have hVm:V*(g-1)=V*g-V:=by rw[Int.mul_sub,Int.mul_one]
       have hVm0:0≤V*(g-1):=lC (by omega) (by omega)
       have hmin:Ok Tryz.prog 155 [.c (cL (V*g)),.c (cL V)] [.c (cL (V*(g-1)))]:=by have:=rb (b:=V) szP (by omega);rw[eVg,eV,←hVm] at this;exact this
       refine az<|aA<|ab<|ah ?_
       refine ar (bQ (g-1) (AS (by(first|omega|(simp;omega))) (by(first|omega|(simp;omega)))) rfl) ?_
       refine ah<|ac rfl (hmin) ?_
       exact⟨⟨g-1,hg2,by omega⟩,ak ⟨rfl,rfl,rfl,rfl,rfl,rfl,rfl,rfl,rfl,trivial⟩ ⟨rfl,trivial⟩ rfl,by show(g-1).toNat<g.toNat;omega⟩
      ·have hle:V*g≤T:=by simp only[decide_eq_false_iff_not] at hc7;rcases pi (V*g) T with h1|h1|h1<;>first|omega|(rw[dk h1] at hc7;omega)
       have hgq:g=T/V:=by have:g≤T/V:=(Int.le_ediv_iff_mul_le hV0).2 (by rw[qd];exact hle);omega
       have hr0:0≤T-V*g:=by omega
       have hr1:T-V*g<V:=by have:=la T hV0;have h2:=wy T V;rw[←hgq] at h2;omega
       have hmin:Ok Tryz.prog 155 [.c (cL T),.c (cL (V*g))] [.c (cL (T-V*g))]:=by have:=rb (b:=V*g) szT (by omega);rw[eVg,eT] at this;exact this
       refine aW<|ab<|ah<|ac rfl (hmin)<|bR<|fK 3<|b9 (bl (r:=g) f7 gO rfl (mQ (by omega) (by omega)) rfl) ?_
       refine b9 (bn gw rfl rfl (by(first|omega|(simp;omega))) rfl) ?_
       refine fV (aV (us:=(zs.set q g).map (CellD.i .u32)) dH rfl rfl rfl rfl (by simp;omega) (mt (by(first|omega|(simp;omega)))) rfl) ?_
       refine bv<|ah ?_
       refine ar (bQ ((q:Int)-1) (bC (by(first|omega|(simp;omega))) (by(first|omega|(simp;omega)))) rfl) ?_
       exact⟨⟨(q,T-V*g,zs.set q g),hI.step (bk _) (by omega) (by omega) hr0 hr1 (by rw[hT];show T=g*V+(T-V*g);rw[qd g V];omega)⟩,ak ⟨rfl,rfl,rfl,rfl,rfl,rfl,rfl,trivial⟩ ⟨rfl,trivial⟩ rfl,by show q<q+1;omega⟩
  ·have hj0:j=0:=by simp only[decide_eq_false_iff_not] at hc3;omega
   subst hj0
   obtain⟨d1,d2⟩:=hI.done
   rw[bu,eW] at d1 d2
   refine aW<|ab<|ah<|ab<|ah ?_
   refine DL.mk<|tJ (lB (n:=((ce R.natAbs).length)) ua rfl rfl (by omega) (by omega) rfl) rfl<|dC ?_
   refine ab<|ab<|ah ?_
   refine ar (bQ ((((ce R.natAbs).length:Int))-1) (bC (by(first|omega|(simp;omega))) (by(first|omega|(simp;omega)))) rfl) ?_
   refine aA<|aY (ι:={t:Nat×Int×List Int // DInv (ce R.natAbs) s (ce R.natAbs).length t.1 t.2.1 t.2.2}) (fun i=>⟨173,[(8,.v (.c (.i .u32 s))),(11,.v (.c (cL R))),(12,.o 64 ((ce W.natAbs).length) (xs.length+1)),(18,.v (.c (.i .u64 i.1.2.1))),(19,.o 141 ((ce R.natAbs).length) ((ce R.natAbs).length)),(20,.v (.c (.i .i64 ((i.1.1:Int)-1))))],[(64,165,zs.map (CellD.i .u32)),(141,165,i.1.2.2.map (CellD.i .u32))]⟩) (fun i=>i.1.1) ⟨((ce R.natAbs).length,0,List.replicate (ce R.natAbs).length 0),DInv.start (by omega) (aX _)⟩ (ak ⟨rfl,rfl,rfl,rfl,rfl,rfl,trivial⟩ ⟨rfl,by rw[show(List.replicate (ce R.natAbs).length (CellD.i .u32 0))=(List.replicate (ce R.natAbs).length 0).map (CellD.i .u32) from by simp];rfl,trivial⟩ rfl) ?_
   rintro⟨⟨j2,c,ls⟩,hI2⟩
   replace hI2:DInv (ce R.natAbs) s (ce R.natAbs).length j2 c ls:=hI2
   have k6:=hI2.len
   have k0:=hI2.R0
   have k1:=hI2.RV
   have kle:=hI2.le
   dsimp only
   refine ab<|ab<|ah ?_
   refine aB rfl (fun hc8=>?_) (fun hc8=>?_)
   ·obtain⟨q2,rfl⟩: ∃q,j2=q+1:=⟨j2-1,by simp only[decide_eq_true_eq] at hc8;omega⟩
    have gd:=bU (bk R.natAbs) q2
    have hb0:=xW k0 k1 gd.1 gd.2
    rw[show(ce R.natAbs).getD q2 0+1000000000*c=c*1000000000+(ce R.natAbs).getD q2 0 from by omega] at hb0
    have hd20:0≤(c*1000000000+(ce R.natAbs).getD q2 0)/s:=hb0.1
    have hd21:(c*1000000000+(ce R.natAbs).getD q2 0)/s<1000000000:=by omega
    have hr20:0≤(c*1000000000+(ce R.natAbs).getD q2 0)%s:=o7 _ (by omega)
    have hr21:(c*1000000000+(ce R.natAbs).getD q2 0)%s<s:=la _ (by omega)
    refine Dw.weak (σ':=⟨173,[(8,.v (.c (.i .u32 s))),(11,.v (.c (cL R))),(12,.o 64 ((ce W.natAbs).length) (xs.length+1)),(18,.v (.c (.i .u64 c))),(19,.o 141 ((ce R.natAbs).length) ((ce R.natAbs).length)),(20,.v (.c (.i .i64 (q2:Int))))],[(64,165,zs.map (CellD.i .u32)),(141,165,ls.map (CellD.i .u32))]⟩) (ak ⟨rfl,rfl,rfl,rfl,rfl,by rw[show(q2:Int)=((q2+1:Nat):Int)-1 from by omega];rfl,trivial⟩ ⟨rfl,rfl,trivial⟩ rfl) ?_
    refine az<|ab<|aA<|ab<|ah ?_
    refine ar (bQ (c*1000000000) (mz (by(first|omega|(simp;omega))) (by(first|omega|(simp;omega)))) rfl) ?_
    refine ar (aC gw rfl rfl (by(first|omega|(simp;omega))) (gG _) rfl rfl) ?_
    refine ar (aL dH rfl (im (i:=q2) (by(first|omega|(simp;omega)))) rfl) ?_
    refine ar (bl (r:=(ce R.natAbs).getD q2 0) gO f7 rfl (iu (by(first|omega|(simp;omega))) (by(first|omega|(simp;omega)))) rfl) ?_
    refine ar (bQ ((c*1000000000)+((ce R.natAbs).getD q2 0)) (iW (by(first|omega|(simp;omega))) (by(first|omega|(simp;omega)))) rfl) ?_
    refine ab<|bR<|fK 4 ?_
    refine b9 (bl (r:=s) gO f7 rfl (iu (by(first|omega|(simp;omega))) (by(first|omega|(simp;omega)))) rfl) ?_
    refine b9 (gz (r:=(c*1000000000+(ce R.natAbs).getD q2 0)/s) rfl rfl (by omega) (by rw[nv (by omega)];exact iu (by omega) (by omega)) rfl) ?_
    refine b9 (bl (r:=(c*1000000000+(ce R.natAbs).getD q2 0)/s) f7 gO rfl (mQ (by omega) (by omega)) rfl) ?_
    refine b9 (bn gw rfl rfl (by(first|omega|(simp;omega))) rfl) ?_
    refine fV (aV (us:=(ls.set q2 ((c*1000000000+(ce R.natAbs).getD q2 0)/s)).map (CellD.i .u32)) dH rfl rfl rfl rfl (by simp;omega) (mt (by(first|omega|(simp;omega)))) rfl) ?_
    refine bv<|ah ?_
    refine ar (bl (r:=s) gO f7 rfl (iu (by(first|omega|(simp;omega))) (by(first|omega|(simp;omega)))) rfl) ?_
    refine ar (cC (r:=(c*1000000000+(ce R.natAbs).getD q2 0)%s) rfl rfl (by omega) (gA (by omega)) rfl) ?_
    refine ah ?_
    refine ar (bQ ((q2:Int)-1) (bC (by(first|omega|(simp;omega))) (by(first|omega|(simp;omega)))) rfl) ?_
    exact⟨⟨(q2,(c*1000000000+(ce R.natAbs).getD q2 0)%s,ls.set q2 ((c*1000000000+(ce R.natAbs).getD q2 0)/s)),hI2.step (bk _) hd20 hd21 hr20 hr21 (by rw[qd ((c*1000000000+(ce R.natAbs).getD q2 0)/s) s,wy];omega)⟩,ak ⟨rfl,rfl,rfl,rfl,rfl,rfl,trivial⟩ ⟨rfl,rfl,trivial⟩ rfl,by show q2<q2+1;omega⟩
   ·have hj0:j2=0:=by simp only[decide_eq_false_iff_not] at hc8;omega
    subst hj0
    obtain⟨d3,d4⟩:=hI2.done
    rw[bu,eR,fp (by omega)] at d3
    have f1:val xs/val ys=val (zs.take (ce W.natAbs).length):=by rw[←hq1,d1]
    have f2:val xs%val ys=val ls:=by rw[←d3,←d2,hq2,Int.mul_ediv_cancel _ (by omega)]
    have hLo:Lim (zs.take (ce W.natAbs).length):=hI.L.take _
    have hLl:=hI2.L
    refine aW<|ab ?_
    refine pF (t:=12) (zs:=zs) (ys:=zs.take ((ce W.natAbs).length)) rfl rfl (by first|omega|(simp;omega)|simp) (by omega) (by omega) (rfl) ?_
    refine pF (t:=19) (zs:=ls) (ys:=ls) rfl rfl (by first|omega|(simp;omega)|simp) (by omega) (by omega) (fp (by first|omega|(simp;omega)|simp)) ?_
    refine ah<|ac rfl (io hLo (by simp<;>omega))<|ac rfl (io hLl (by omega))<|bh ?_
    rw[f1,f2]
    exact ag (am (am aa))
theorem HA (x:Int):cL x=cL ((x.natAbs:Nat):Int):=rfl
theorem wa (ha:Sz 20000000 a) (hb:Sz 20000000 b) (h0:b≠0):Ok Tryz.prog 126 [.c (cL a),.c (cL b)] [.c (cL ((a.natAbs:Int)/b.natAbs)),.c (cL ((a.natAbs:Int)%b.natAbs))]:=by
 have:=Fg (bk a.natAbs) (bk b.natAbs) (fZ _) (fZ _) (fA ha) (fA hb) (fun e=>by have:=df.1 e;omega)
 rw[bu,bu] at this
 exact this
theorem KQ (h:(decide (x<0)==decide (y<0))=true):sg (decide (x<0)) ((((x.natAbs:Int)+y.natAbs).natAbs:Nat):Int)=x+y:=by
 by_cases h1:x<0<;>by_cases h2:y<0<;>simp[h1,h2,sg] at h⊢ <;>omega
theorem Qc (h:(decide (x<0)==decide (y<0))=false) (hg:y.natAbs≤x.natAbs):sg (decide (x<0)) ((((x.natAbs:Int)-y.natAbs).natAbs:Nat):Int)=x+y:=by
 by_cases h1:x<0<;>by_cases h2:y<0<;>simp[h1,h2,sg] at h⊢ <;>omega
theorem QQ (h:(decide (x<0)==decide (y<0))=false) (hg:x.natAbs<y.natAbs):sg (decide (y<0)) ((((y.natAbs:Int)-x.natAbs).natAbs:Nat):Int)=x+y:=by
 by_cases h1:x<0<;>by_cases h2:y<0<;>simp[h1,h2,sg] at h⊢ <;>omega
theorem OX:sg (!(decide (x<0)==decide (y<0))) ((((x.natAbs:Int)*y.natAbs).natAbs:Nat):Int)=x*y:=by
 by_cases h1:x<0<;>by_cases h2:y<0<;>simp only[h1,h2,sg,decide_true,decide_false,Bool.not_true,Bool.not_false,beq_self_eq_true,Bool.false_eq_true,if_true,if_false,show(true==false)=false from rfl,show(false==true)=false from rfl]
 ·grind
 ·grind
 ·grind
 grind
theorem Pq:sg (!decide (x<0)) ((x.natAbs:Nat):Int)= -x:=by
 by_cases h1:x<0<;>simp[h1,sg]<;>omega
theorem El (h:decide (cO a b≥0)=true):b≤a:=by
 simp only[decide_eq_true_eq] at h
 rcases pi a b with h1|h1|h1
 ·rw[dd h1] at h;omega
 ·omega
 grind
theorem Er (h:decide (cO a b≥0)=false):a<b:=by
 simp only[decide_eq_false_iff_not] at h
 rcases pi a b with h1|h1|h1
 ·omega
 ·rw[ie h1] at h;omega
 ·rw[dk h1] at h;omega
theorem yk (hx:decide (x<0)=false) (hy: ¬(y<0)):cO x.natAbs y.natAbs=cO x y:=by grind
theorem yn (hx:decide (x<0)=true) (hy:y<0):cO y.natAbs x.natAbs=cO x y:=by
 simp only[decide_eq_true_eq] at hx
 rw[show(y.natAbs:Int)= -y from by omega,show(x.natAbs:Int)= -x from by omega,BB]
theorem R3:sg (!(decide (x<0)==decide (y<0))) (((((x.natAbs:Int)/y.natAbs).natAbs:Nat)):Int)=q0 x y:=by
 unfold q0
 grind
theorem RO (_h0:y≠0):sg (decide (x<0)) (((((x.natAbs:Int)%y.natAbs).natAbs:Nat)):Int)=r0 x y:=by
 unfold r0
 grind
theorem EX:(x.natAbs:Int)%y.natAbs=0↔r0 x y=0:=by
 unfold r0
 generalize decide (x<0)=s
 cases s
 ·rw[bL]
 ·rw[ef];omega
theorem DA (_h0:y≠0) (h:(x.natAbs:Int)%y.natAbs≠0):(r0 x y<0↔x<0):=by
 unfold r0
 by_cases hx:x<0
 ·rw[show decide (x<0)=true from by simpa using hx,ef];omega
 ·rw[show decide (x<0)=false from by simpa using hx,bL];omega
structure RG (x y a c:Int):Prop where
 sa:Sz 20000000 a
 sc:Sz 20000000 c
 a0:0≤a
 c0:0≤c
 g:Int.gcd a c=Int.gcd x y
theorem RG.start (hx:Sz 20000000 x) (hy:Sz 20000000 y):RG x y (x.natAbs:Int) (y.natAbs:Int):=⟨hx.of_le (by omega),hy.of_le (by omega),by omega,by omega,rfl⟩
theorem RG.step (h:RG x y a c) (hc:c≠0):RG x y c ((a.natAbs:Int)%c.natAbs):=by
 have h1:=h.a0
 have h2:=h.c0
 have e1:(a.natAbs:Int)=a:=by omega
 have e2:(c.natAbs:Int)=c:=by omega
 rw[e1,e2]
 have h3:=o7 a hc
 have h4:=la a (show 0<c by omega)
 exact⟨h.sc,h.sc.of_le (by omega),h2,h3,by rw[←h.g,zw h1 h2]⟩
theorem RG.less (h:RG x y a c) (hc:c≠0):((a.natAbs:Int)%c.natAbs).toNat<c.toNat:=by
 have:=h.c0
 have:=Fe (x:=a) hc
 omega
theorem RG.done (h:RG x y a c) (hc:c=0):(Int.gcd x y:Int)=sg false ((a.natAbs:Nat):Int):=by
 rw[←h.g,hc,bL];simp
theorem DP (h:decide (((ce a.natAbs).length:Int)>2)=false):a.natAbs≤18446744073709551615:=by
 simp only[decide_eq_false_iff_not] at h
 have h1:=dj (bk a.natAbs)
 rw[bu] at h1
 have h2:=lk (n:=(ce a.natAbs).length) (m:=2) (by omega)
 have h3:pw 2=1000000000000000000:=by decide
 omega
theorem RG.word (h:RG x y a c) (ha:a.natAbs≤18446744073709551615) (hc:c.natAbs≤18446744073709551615):GInv2 x y (a.natAbs:Int) (c.natAbs:Int):=
 ⟨by omega,by omega,by omega,by omega,by rw[←h.g];rfl⟩
theorem GInv2.fin (h:GInv2 x y u v) (hv:v≤0):(Int.gcd x y:Int)=sg false ((u.natAbs:Nat):Int):=by
 rw[h.done hv,bL,bL];have:=h.u0;omega
theorem Sz.small3 (h0:0≤x) (h1:x≤18446744073709551615):Sz 100000000 x:=by
 have h3:pw 3=1000000000000000000000000000:=by decide
 have:Sz 3 x:=⟨by omega,by omega⟩
 exact this.mono (by decide)
theorem Qp (hx:Sz 20000000 x):Sz 100000000 ((x.natAbs:Int)/y.natAbs):=by
 have h1:(x.natAbs:Int)/(y.natAbs:Int)≤x.natAbs:=Int.ediv_le_self _ (by omega)
 have h2:0≤(x.natAbs:Int)/(y.natAbs:Int):=by grind
 exact(hx.mono (by decide)).of_le (by omega)
theorem Rq (hy:Sz 20000000 y) (h0:y≠0):Sz 100000000 ((x.natAbs:Int)%y.natAbs):=by
 have:=Fe (x:=x) h0
 exact(hy.mono (by decide)).of_le (by omega)
theorem H0 (hn:x<0) (h0: -9223372036854775808≤x):IntKind.u64.wrap x=x+18446744073709551616:=by unfold IntKind.wrap;simp[IntKind.bits,IntKind.signed];omega
theorem Fv (hn:x<0) (h0: -9223372036854775808≤x):IntKind.u64.wrap (0-(x+18446744073709551616))= -x:=by unfold IntKind.wrap;simp[IntKind.bits,IntKind.signed];omega
theorem oN {P:Program}{ops:Array Oper}{T:TF}{B:BF}{x:Operand}{k:IntKind}
 (hx:bH T x=some (.v (.c (.i k m)))) (hr:k.wrap (0-m)=r) (hg:gd ops ⟨dst,.unOp .neg xt x,ty,pos,af,g⟩ T=some true):
 Sem P ops ⟨dst,.unOp .neg xt x,ty,pos,af,g⟩ T B (.r (.v (.c (.i k r)))):=by subst hr;exact LF hx hg
theorem CX (h:Sz 100000000 ((x.natAbs:Int)/y.natAbs)):Ok Tryz.prog 63 [.c (.b (!(decide (x<0)==decide (y<0)))),.c (cL ((x.natAbs:Int)/y.natAbs))] [dI (q0 x y)]:=by
 rw[←R3];exact fG h
theorem CY (h0:y≠0) (h:Sz 100000000 ((x.natAbs:Int)%y.natAbs)):Ok Tryz.prog 63 [.c (.b (decide (x<0))),.c (cL ((x.natAbs:Int)%y.natAbs))] [dI (r0 x y)]:=by
 rw[←RO h0];exact fG h
theorem Gx (h:(decide (x<0)==decide (y<0))=true):(cO x.natAbs y.natAbs==0)=(x==y):=by
 have hs:x<0↔y<0:=by grind
 rcases pi (x.natAbs:Int) y.natAbs with h1|h1|h1
 ·rw[dd h1,show(x==y)=false from by simp only[beq_eq_false_iff_ne];omega];rfl
 ·rw[ie h1,show(x==y)=true from by simp only[beq_iff_eq];omega];rfl
 ·rw[dk h1,show(x==y)=false from by simp only[beq_eq_false_iff_ne];omega];rfl
def isq:Nat→Nat
 |0=>0
 |n+1=>if (isq n+1)*(isq n+1)≤n+1 then isq n+1 else isq n
theorem Ar (n:Nat):isq n*isq n≤n∧n<(isq n+1)*(isq n+1):=by
 induction n with
 |zero=>exact⟨by decide,by decide⟩
 |succ n ih=>
  unfold isq
  split
  ·grind
  grind
theorem MQ (ha:0≤a) (h:a≤b):a*a≤b*b:=pj h h ha (by omega)
theorem xZ (hb:0≤b) (h:a*a<b*b):a<b:=by
 by_cases h1:a<b
 ·grind
 ·have:=MQ hb (show b≤a by omega);omega
def cn (x:Int):Int:=if x<0 then 0 else(isq x.toNat:Nat)
theorem fT (x:Int):0≤cn x:=by unfold cn;split<;>omega
theorem uv (h:0≤x):cn x*cn x≤x:=by
 unfold cn;rw[if_neg (by omega)]
 have:=(Ar x.toNat).1
 grind
theorem y5 (h:0≤x):x<(cn x+1)*(cn x+1):=by
 unfold cn;rw[if_neg (by omega)]
 have:=(Ar x.toNat).2
 grind
theorem tV (h:0≤x) (hr:0≤r) (h1:r*r≤x) (h2:x<(r+1)*(r+1)):cn x=r:=by
 have a1:=uv h
 have a2:=y5 h
 have a0:=fT x
 have:=xZ (a:=r) (b:=cn x+1) (by omega) (by omega)
 have:=xZ (a:=cn x) (b:=r+1) (by omega) (by omega)
 omega
theorem FY:cn 0=0:=by decide
theorem re (h:x<0):cn x=0:=by unfold cn;rw[if_pos h]
theorem GJ:(cn x).natAbs≤x.natAbs:=by
 have h0:=fT x
 by_cases h:x<0
 ·rw[re h];omega
 ·have h1:=uv (show 0≤x by omega)
  by_cases h2:cn x<1
  ·omega
  ·have:=mj (show 1≤cn x by omega) h0
   omega
theorem BG (a b:Int):4*(a*b)≤(a+b)*(a+b):=by
 have h:0≤(a-b)*(a-b):=by
  rcases Int.le_total 0 (a-b) with h|h
  ·exact lC h h
  ·exact Int.mul_nonneg_of_nonpos_of_nonpos h h
 grind
theorem HD (hx:0<x) (hr:0<r) (_hup:x<(r+1)*(r+1)):
 0≤(r+x.fdiv r).fdiv 2∧x<((r+x.fdiv r).fdiv 2+1)*((r+x.fdiv r).fdiv 2+1)∧0<(r+x.fdiv r).fdiv 2∧0≤x.fdiv r∧x.fdiv r≤x:=by
 have hq0:0≤x/r:=rK (by omega) (by omega)
 have hq1:x/r≤x:=Int.ediv_le_self _ (by omega)
 have hq2:x<r*(x/r+1):=by have h1:=wy x r;have h2:=la x hr;rw[Int.mul_add];omega
 obtain⟨q,hq⟩: ∃q,x/r=q:=⟨_,rfl⟩
 obtain⟨n,hn⟩: ∃n,(r+q)/2=n:=⟨_,rfl⟩
 have h4:=BG r (q+1)
 have h5:(r+(q+1))*(r+(q+1))≤(2*(n+1))*(2*(n+1)):=MQ (by omega) (by omega)
 grind
theorem Bo (_hx:0<x) (hr:0<r) (h:r≤(r+x.fdiv r).fdiv 2):r*r≤x:=by
 rw[sy _ (by omega:(0:Int)≤r),sy _ (by omega:(0:Int)≤2)] at h
 have h1:=wy x r
 have h2:=o7 x (show r≠0 by omega)
 have h3:r≤x/r:=by omega
 have:=mj h3 (show 0≤r by omega)
 omega
structure NInv (K:Nat) (x r:Int):Prop where
 r0:0<r
 sz:Sz K r
 up:x<(r+1)*(r+1)
theorem NInv.sum (h:NInv K x r) (hs:Sz K x) (hx:0<x):Sz K (x.fdiv r)∧Sz (K+1) (r+x.fdiv r)∧Sz (K+1) ((r+x.fdiv r).fdiv 2):=by
 obtain⟨h1,h2,h3,h4,h5⟩:=HD hx h.r0 h.up
 have h6:Sz K (x.fdiv r):=hs.of_le (by omega)
 have h7:=h.sz.add h6
 refine⟨h6,h7,h7.of_le ?_⟩
 grind
theorem NInv.next (h:NInv K x r) (hx:0<x) (hl:(r+x.fdiv r).fdiv 2<r):NInv K x ((r+x.fdiv r).fdiv 2):=by
 obtain⟨h1,h2,h3,h4,h5⟩:=HD hx h.r0 h.up
 exact⟨h3,h.sz.of_le (by omega),h2⟩
theorem NInv.done (h:NInv K x r) (hx:0<x) (hl:r≤(r+x.fdiv r).fdiv 2):cn x=r:=
 tV (by omega) (by have:=h.r0;omega) (Bo hx h.r0 hl) h.up
theorem zi:dI 0=.a ([.b false]++[.s 0 []]):=by unfold dI cI;rw[show cL 0=.s 0 [] from by unfold cL;rw[show(0:Int).natAbs=0 from rfl,iy];rfl];rfl
theorem R6 (h:0≤v):([CellD.b false]++[cL v])=cI v:=by unfold cI;rw[show decide (v<0)=false from by simp;omega];rfl
theorem QO (_h0:0≤x) (h:x<pw n) (hk:n≤2*k):x<(pw k+1)*(pw k+1):=by
 have h1:=lk (n:=n) (m:=2*k) hk
 have h2:pw (2*k)=pw k*pw k:=by rw[show 2*k=k+k from by omega,qo]
 have h3:=cW k
 grind
theorem NInv.start (h0:0<x) (_hs:Sz K x) (hk:((ce x.natAbs).length+1)/2=k) (hK:k<K):NInv K x (pw k):=by
 have hv:=dj (bk x.natAbs)
 rw[bu] at hv
 refine⟨cW k,?_,QO (n:=(ce x.natAbs).length) (by omega) (by omega) (by omega)⟩
 have h1:Sz (k+1) (pw k):=⟨by have:=cW k;rw[cK];omega,by have:=cW k;have:=cW (k+1);omega⟩
 exact h1.mono (by omega)
theorem Pd (n:Nat):val (List.replicate n 0++[1])=pw n:=by
 induction n with
 |zero=>decide
 |succ n ih=>rw[List.replicate_succ,List.cons_append,cA,ih,cK];omega
theorem QC (n:Nat):cL (pw n)=cM (List.replicate n 0++[1]):=by
 have hL:Lim (List.replicate n 0++[1]):=(Lim.zeros n).append (Lim.nil.cons (by omega) (by omega))
 have hN:Nrm (List.replicate n 0++[1]):=by
  induction n with
  |zero=>exact wK [] 1 (by decide)
  |succ n ih=>exact BX (ih ((Lim.zeros n).append (Lim.nil.cons (by omega) (by omega)))) (by simp)
 rw[MX,←Pd]
 have:=Ct hN hL
 rw[show(val (List.replicate n 0++[1])).natAbs=(val (List.replicate n 0++[1])).toNat from by have:=bE hL;omega,←this]
variable {P:Program}{ops:Array Oper}{T:TF}{B:BF}
theorem wY {x y:Operand}{z:CellD}
 (hU:mx P U=some (e,1,4,[z])) (hx:bH T x=some (.o k n n)) (hy:bH T y=some (.v (.c (cM [1])))) (hb:B k=some (e,List.replicate n (CellD.i .u32 0))) (hl:n≤1000000000)
 (hg:gd ops ⟨dst,.call ⟨.builtin .append,#[x,y],#[U,U]⟩,ty,pos,af,g⟩ T=some true):
 Sem P ops ⟨dst,.call ⟨.builtin .append,#[x,y],#[U,U]⟩,ty,pos,af,g⟩ T B (.c k (.v (.c (cL (pw n))))):=by
 rw[QC]
 have:=rl (us:=(List.replicate n (0:Int)++[1]).map (CellD.i .u32)) hU hx hy hb (by simp) (gG _) (by omega) (by simp) (by omega) (by simp;omega) (by simp;unfold maxLen;omega) (by simp) hg
 rw[show n+[(1:Int)].length=(List.replicate n (0:Int)++[1]).length from by simp] at this
 exact this
theorem rZ:cO a b=0↔a=b:=by
 rcases pi a b with h|h|h
 ·rw[dd h];constructor<;>intro h2<;>omega
 ·rw[ie h];constructor<;>intro h2<;>omega
 ·rw[dk h];constructor<;>intro h2<;>omega
theorem vZ:cO a b<0↔a<b:=by
 rcases pi a b with h|h|h
 ·rw[dd h];constructor<;>intro h2<;>omega
 ·rw[ie h];constructor<;>intro h2<;>omega
 ·rw[dk h];constructor<;>intro h2<;>omega
theorem IQ:0<cO a b↔b<a:=by
 rcases pi a b with h|h|h
 ·rw[dd h];constructor<;>intro h2<;>omega
 ·rw[ie h];constructor<;>intro h2<;>omega
 ·rw[dk h];constructor<;>intro h2<;>omega
theorem Se (h:decide (cO a b<0)=true):a<b:=vZ.1 (by simpa using h)
theorem P9 (h:decide (cO a b<0)=false): ¬a<b:=fun e=>by have:=vZ.2 e;simp at h;omega
theorem RB (h:(cO a b==0)=true):a=b:=rZ.1 (by simpa using h)
theorem SO (h:(cO a b !=0)=true):a≠b:=fun e=>by have:=rZ.2 e;simp at h;omega
theorem Rs (h:(cO a b !=0)=false):a=b:=rZ.1 (by simpa using h)
structure Rz (k:Nat) (x:Rat):Prop where
 n:Sz k x.num
 d:Sz k (x.den:Int)
theorem Sz.addm (h:Sz k x) (h':Sz l y):Sz (max k l+1) (x+y):=(h.mono (Nat.le_max_left k l)).add (h'.mono (Nat.le_max_right k l))
theorem Sz.gcd (h':Sz l y) (h0:y≠0):Sz l ((Int.gcd x y:Nat):Int):=h'.of_le (by
 have:Int.gcd x y≤y.natAbs:=Nat.le_of_dvd (by omega) (Nat.gcd_dvd_right ..)
 rw[Int.natAbs_natCast];exact this)
theorem Rz.mono {x:Rat}(h:Rz k x) (hl:k≤l):Rz l x:=⟨h.n.mono hl,h.d.mono hl⟩
theorem Rz.m_ {x:Rat}(h:Rz k x) (hl:k≤l:=by decide):Rz l x:=h.mono hl
theorem bd {x:Rat}(h:Rz k x) (hl:k≤l:=by decide):Rz l x:=h.mono hl
theorem MC {x:Rat}(h:Rz l x:=by first|assumption|exact Rz.mono (by assumption) (by decide)):Rz l x:=h
theorem den_pos (x:Rat):(0:Int)<(x.den:Int):=by have:=x.den_pos;omega
theorem oS (x:Rat):(x.den:Int)≠0:=by have:=den_pos x;omega
theorem zN (a b:Int):(a/b).natAbs≤a.natAbs:=Int.natAbs_ediv_le_natAbs a b
theorem Rz.of {n:Int}(hn:Sz k n) (hd:Sz k d) (h0:d≠0):Rz k (Rat.divInt n d):=by
 refine⟨hn.of_le ?_,hd.of_le ?_⟩
 ·rw[Rat.num_divInt]
  refine iz (zN _ _) ?_
  grind
 ·rw[Rat.den_divInt,if_neg h0]
  exact Nat.div_le_self d.natAbs (Int.gcd d n)
theorem Qs {x y:Rat}:Rat.divInt (x.num*(y.den:Int)+y.num*(x.den:Int)) ((x.den:Int)*(y.den:Int))=x+y:=by
 rw[Rat.add_def',←Int.natCast_mul,Rat.divInt_ofNat]
theorem N6 {x y:Rat}:Rat.divInt (x.num*y.num) ((x.den:Int)*(y.den:Int))=x*y:=by
 rw[Rat.mul_def',←Int.natCast_mul,Rat.divInt_ofNat]
theorem QK {x y:Rat}:Rat.divInt (x.num*(y.den:Int)) ((x.den:Int)*y.num)=x/y:=by
 rw[Rat.div_def,Rat.inv_def,←Rat.divInt_mul_divInt,Rat.num_divInt_den]
theorem Rz.add {x y:Rat}(hx:Rz k x) (hy:Rz l y):Rz (k+l+1) (x+y):=by
 rw[←Qs]
 exact Rz.of (((hx.n.mul hy.d).addm (hy.n.mul hx.d)).mono (by omega)) ((hx.d.mul hy.d).mono (by omega)) (by have:=Int.mul_pos (den_pos x) (den_pos y);omega)
theorem Rz.mul {x y:Rat}(hx:Rz k x) (hy:Rz l y):Rz (k+l) (x*y):=by
 rw[←N6]
 exact Rz.of (hx.n.mul hy.n) (hx.d.mul hy.d) (by have:=Int.mul_pos (den_pos x) (den_pos y);omega)
theorem Rz.neg {x:Rat}(hx:Rz k x):Rz k (-x):=⟨by rw[Rat.neg_num];exact hx.n.neg,by rw[Rat.neg_den];exact hx.d⟩
theorem Rz.sub {x y:Rat}(hx:Rz k x) (hy:Rz l y):Rz (k+l+1) (x-y):=by rw[Rat.sub_eq_add_neg];exact hx.add hy.neg
theorem Rz.div {x y:Rat}(hx:Rz k x) (hy:Rz l y) (h0:y≠0):Rz (k+l) (x/y):=by
 rw[←QK]
 exact Rz.of (hx.n.mul hy.d) (hx.d.mul hy.n) (by
  have h1:y.num≠0:=fun e=>h0 (Rat.num_eq_zero.1 e)
  intro e
  rcases sn.1 e with h|h
  ·exact oS x h
  ·exact h1 h)
theorem Sz.one (hk:1≤k):Sz k 1:=by
 have:=lk (n:=1) (m:=k) hk
 have h1:pw 1=1000000000:=by decide
 exact⟨by omega,by omega⟩
theorem Rz.int {n:Int}(h:Sz k n) (hk:1≤k):Rz k (n:Rat):=⟨by rw[Rat.num_intCast];exact h,by rw[Rat.den_intCast];exact Sz.one hk⟩
theorem u5 {n:Int}(hd:0<d):dR (Rat.divInt n d)=dQ (n.fdiv ((Int.gcd n d:Nat):Int)) (d.fdiv ((Int.gcd n d:Nat):Int)):=by
 unfold dR cR
 rw[Rat.num_divInt,Rat.den_divInt,if_neg (by omega),Int.sign_eq_one_of_pos hd,Int.one_mul,Int.gcd_comm d n,sy _ (by omega),sy _ (by omega)]
 rw[show((d.natAbs/Int.gcd n d:Nat):Int)=d/((Int.gcd n d:Nat):Int) from by rw[Int.natCast_ediv];rw[show((d.natAbs:Nat):Int)=d from by omega]]
 rfl
theorem uG {n:Int}(hd:0<d) (hg:((Int.gcd n d:Nat):Int)=1):dR (Rat.divInt n d)=dQ n d:=by
 rw[u5 hd,hg,Int.fdiv_one,Int.fdiv_one]
theorem CM {n:Int}:dR (Rat.divInt n d)=dR (Rat.divInt (-n) (-d)):=by rw[Rat.neg_divInt_neg]
theorem yp {n:Int}(h:d≠0):((Int.gcd n d:Nat):Int)≠0:=by simp_all
theorem pK {x y:Rat}:cO (x.num*(y.den:Int)) (y.num*(x.den:Int))=if x<y then-1 else if y<x then 1 else 0:=by
 unfold cO
 simp only[Rat.lt_iff]
def aM (x y:Rat):Int:=if x<y then-1 else if y<x then 1 else 0
theorem rr {x:Rat}:cO x.num 0=aM x 0:=by
 unfold aM
 rw[←pK]
 simp
theorem MG {x:Rat}{n:Int}(h1:x.num=n) (h2:(x.den:Int)=d):dR x=dQ n d:=by unfold dR cR;rw[h1,h2];rfl
theorem IJ {n:Int}:dR (n:Rat)=dQ n 1:=MG (Rat.num_intCast n) (by rw[Rat.den_intCast];rfl)
def Ca (x:Int):Bool:=cn x*cn x==x
def j9 (x:Rat):Bool:=Ca x.num&&Ca (x.den:Int)
theorem Kx (h:x<0):Ca x=false:=by unfold Ca;rw[re h];simp;omega
theorem jk (ha:a≠0) (hb:b≠0):a*b≠0:=fun e=>by rcases sn.1 e with h|h<;>contradiction
theorem OL {x:Rat}(h:x≠0):x.num≠0:=fun e=>h (Rat.num_eq_zero.1 e)
theorem Sz.isq (h:Sz k x):Sz k (cn x):=h.of_le GJ
theorem LE {x:Rat}(h:(aM x 0==0)=true):x=0:=by rw[←rr] at h;exact Rat.num_eq_zero.1 (RB h)
theorem lf {x y:Rat}:aM x y=0↔x=y:=by
 unfold aM
 rw[←pK,rZ,Rat.eq_iff_mul_eq_mul]
theorem BK {x y:Rat}:aM x y<0↔x<y:=by
 unfold aM
 rw[←pK,vZ,Rat.lt_iff]
theorem mZ {x y:Rat}:0<aM x y↔y<x:=by
 unfold aM
 rw[←pK,IQ,Rat.lt_iff]
theorem xi {x:Rat}:aM x 0=cO x.num 0:=rr.symm
theorem Dt {x y:Rat}(h:(cO (aM x 0) (aM y 0) !=0)=true):cO (aM x 0) (aM y 0)=aM x y:=by
 have h1:=SO h
 rw[xi,xi] at*
 have px:=den_pos x
 have py:=den_pos y
 have e1: ∀ {a b:Int},a<0→0<b→a*b<0:=fun ha hb=>Int.mul_neg_of_neg_of_pos ha hb
 have hr:aM x y=cO (x.num*(y.den:Int)) (y.num*(x.den:Int)):=by unfold aM;rw[←pK]
 rw[hr]
 rcases pi x.num 0 with hx|hx|hx<;>rcases pi y.num 0 with hy|hy|hy
 ·rw[dd hx,dd hy] at h1;exact absurd rfl h1
 ·rw[dd hx,ie hy,dd (a:= -1) (by decide),dd]
  rw[hy,k9];exact e1 hx py
 ·rw[dd hx,dk hy,dd (a:= -1) (by decide),dd]
  grind
 ·rw[ie hx,dd hy,dk (a:=0) (by decide),dk]
  rw[hx,k9];exact e1 hy px
 ·grind
 ·rw[ie hx,dk hy,dd (a:=0) (by decide),dd]
  rw[hx,k9];exact Int.mul_pos hy px
 ·rw[dk hx,dd hy,dk (a:=1) (by decide),dk]
  grind
 ·rw[dk hx,ie hy,dk (a:=1) (by decide),dk]
  rw[hy,k9];exact Int.mul_pos hx py
 ·rw[dk hx,dk hy] at h1;exact absurd rfl h1
theorem At {x y:Rat}:aM x y=cO (x.num*(y.den:Int)) (y.num*(x.den:Int)):=by unfold aM;rw[←pK]
theorem e7 (h:((if x<0 then(7:Int) else 0)==0)=false):x<0:=by grind
theorem Qr {x:Rat}(h:Ca x.num=true) (h2:Ca (x.den:Int)=true):j9 x=true:=by unfold j9;rw[h,h2];rfl
theorem Pu {x:Rat}(h:Ca x.num=false):j9 x=false:=by unfold j9;rw[h];rfl
theorem OF {x:Rat}(h:Ca (x.den:Int)=false):j9 x=false:=by unfold j9;rw[h];cases Ca x.num<;>rfl
theorem DS:dQ 0 0=.a (([.b false]++[.s 0 []])++([.b false]++[.s 0 []])):=by
 have h:cI 0=[.b false]++[.s 0 []]:=by
  have:=zi
  unfold dI at this
  injection this
 unfold dQ cQ
 grind
theorem aS {P:Program}{ops:Array Oper}{T:TF}{B:BF}{ps:Array (Nat×Operand)}{m by_:Nat}{zs us:List CellD}{dps:List (Nat×D0)}
 (hU:mx P U=some (e,m,by_,zs)) (hp:n6 T ps.toList=some dps) (hf:oV (fun i=>some (i*m,m)) (List.replicate n zs).flatten dps=some us) (hl:us.length=n*m) (hn:n*m≤16777216) (hm:0<n*m)
 (hg:gd ops ⟨dst,.buildSlice U n ps,ty,pos,af,g⟩ T=some true):Sem P ops ⟨dst,.buildSlice U n ps,ty,pos,af,g⟩ T B (.r (.v (.c (.s n us)))):=by
 have h:=rn (B:=B) hU hp hf hn hm hg
 refine⟨oD rfl,fun V β a w hs=>?_⟩
 obtain⟨hw,hg⟩:=h V β a w hs
 refine⟨hw,hg.mono ?_⟩
 rintro v w' ⟨vs,rfl,rfl,hr⟩
 refine⟨?_,(bP _ w).alloc (aX _) _⟩
 have hkeep:=Keep.below (av:=V) ((bP w.heap.size w).alloc (aX _) (.cells vs e))
 have hr2:=hr.keep hkeep
 have hvl:vs.size=n*m:=by have:=hr.1;rw[hl] at this;simpa using this
 have hn0:0<n:=by grind
 have hm0:0<m:=by grind
 have hnm:n≤n*m:=Nat.le_mul_of_pos_right n hm0
 refine .s w.heap.size 0 n m n _ (fun j=>vs.getD j undef) hn0 (aX _) (by omega) hl (by simp) (fun h=>by have:=hs.av _ h;omega) (fun j hj=>?_) (fun j u hj=>?_)
 ·simp_all
 ·have hlt:j<n*m:=by have:=(gF.1 hj).1;omega
  refine hr2.2 j _ u ?_ hj
  have:j<vs.size:=by omega
  simp[Array.getD,this]
theorem sL {P:Program}{ops:Array Oper}{o:Oper}{T:TF}{B:BF}{b c:Bool}(h:Sem P ops o T B (.r (.v (.c (.b b))))) (e:b=c):Sem P ops o T B (.r (.v (.c (.b c)))):=by subst e;exact h
theorem eQ (h0: -9223372036854775808≤a*b) (h1:a*b≤9223372036854775807):wB .mul .i64 a b=some (a*b):=congrArg some (oC h0 h1)
section
variable {P:Program}{f:FuncId}{ds rs:List D0}{x y z u v x' y' z' u' v':Rat}
theorem ya (h:Ok P f ds [dR x]) (e:x=x'):Ok P f ds [dR x']:=by subst e;exact h
theorem nT (h:Ok P f ds [.a (cR x++cR y++cR z)]) (e1:x=x') (e2:y=y') (e3:z=z'):Ok P f ds [.a (cR x'++cR y'++cR z')]:=by subst e1 e2 e3;exact h
theorem i9 {b c:Bool}(h:Ok P f ds [.c (.b b)]) (e:b=c):Ok P f ds [.c (.b c)]:=by subst e;exact h
theorem Ko (h:Ok P f ds [.c (.i .i64 b)]) (e:b=c):Ok P f ds [.c (.i .i64 c)]:=by subst e;exact h
end
def Lo (xs:List Int):Prop:= ∀x∈xs,0≤x∧x≤4294967295
theorem Hq (h:Lo xs) (i:Nat):0≤xs.getD i 0∧xs.getD i 0≤4294967295:=by
 by_cases hi:i<xs.length
 ·have:xs.getD i 0=xs[i]:=by simp[List.getD,hi]
  rw[this];exact h _ (sT hi)
 grind
def vI (neg:Bool) (xs:List Int):Bool:=xs.all (fun x=>decide (x<1000000000))&&((trm xs).length==xs.length)&&(!neg||decide (0<xs.length))
theorem Oy {neg:Bool}(hk:k<xs.length) (h:xs.getD k 0≥1000000000):vI neg xs=false:=by
 have h1:xs.all (fun x=>decide (x<1000000000))=false:=by
  rw[tv]
  intro hall
  have h2:=jc.1 hall xs[k] (sT hk)
  grind
 unfold vI
 grind
theorem Cz (hb:Lo xs) (h: ∀k,k<xs.length→xs.getD k 0<1000000000):Lim xs:=by
 intro x hx
 obtain⟨i,hi,rfl⟩:=List.getElem_of_mem hx
 have h1:=h i hi
 have h3:xs.getD i 0=xs[i]:=by grind
 have:=hb xs[i] (sT hi)
 omega
theorem wC (h:Lim xs):xs.all (fun x=>decide (x<1000000000))=true:=jc.2 fun x hx=>by have:=h x hx;simp;omega
theorem Oh {neg:Bool}(h:Lim xs):vI neg xs=(((trm xs).length==xs.length)&&(!neg||decide (0<xs.length))):=by
 unfold vI;rw[wC h];rfl
theorem CG {neg:Bool}(h:Lim xs):vI neg xs=((((ce (val xs).natAbs).length:Int)==(xs.length:Int))&&(!neg||decide ((xs.length:Int)>0))):=by
 rw[Oh h,Eu h]
 congr 1
 ·grind
 grind
theorem DE (hx:Sz 100000000 x) (hy:Sz 100000000 y):Ok Tryz.prog 112 [dI x,dI y] [dI (Int.gcd x y:Int)]:=by
 refine bS Tryz.func112 rfl<|cS 8 [] ?_
 refine aO rfl (qg) ?_
 refine aO rfl (qg) ?_
 refine DW.mk<|aY (ι:={p:Int×Int // GInv x y p.1 p.2}) (fun i=>⟨61,[(4,.p 4 0),(5,.p 5 0),(6,.p 6 0)],[(4,68,([.b false]++[.s 0 []])),(5,68,cI i.1.1),(6,68,cI i.1.2)]⟩) (fun i=>i.1.2.toNat) ⟨(sg false (x.natAbs:Int),sg false (y.natAbs:Int)),GInv.start hx hy⟩ (ak ⟨rfl,rfl,rfl,trivial⟩ ⟨rfl,rfl,rfl,trivial⟩ rfl) ?_
 rintro⟨⟨a,c⟩,hg⟩
 replace hg:GInv x y a c:=hg
 have ha:=hg.sa
 have hcc:=hg.sc
 dsimp only
 refine jt ?_
 refine cd rfl (fun hc1=>?_) (fun hc1=>?_)
 ·have hne:=nh hc1
  refine ac rfl (Bl)<|ac rfl (Bl) ?_
  refine dF (au rfl) (fun c2 hb2=>?_)
  cases c2
  ·refine nE rfl<|ac rfl (qz (by assumption) (by assumption) (by assumption))<|cS 3 [] ?_
   refine aO rfl (iI) ?_
   exact⟨⟨(c,sg false ((a.natAbs:Int)%c.natAbs)),hg.step hne⟩,ak ⟨rfl,rfl,rfl,trivial⟩ ⟨rfl,rfl,rfl,trivial⟩ rfl,hg.less hne⟩
  ·refine cd rfl (fun hc3=>?_) (fun hc3=>?_)
   ·refine DW.mk<|aY (ι:={p:Int×Int // GInv2 x y p.1 p.2}) (fun i=>⟨61,[(4,.p 4 0),(7,.v (.c (.i .u64 i.1.1))),(9,.v (.c (.i .u64 i.1.2)))],[(4,68,([.b false]++[.s 0 []]))]⟩) (fun i=>i.1.2.toNat) ⟨(if a.natAbs<1000000000000000000 then(a.natAbs:Int) else 0,if c.natAbs<1000000000000000000 then(c.natAbs:Int) else 0),hg.word hb2 hc3⟩ (ak ⟨rfl,rfl,rfl,trivial⟩ ⟨rfl,trivial⟩ rfl) ?_
    rintro⟨⟨u,v⟩,hw⟩
    replace hw:GInv2 x y u v:=hw
    dsimp only
    refine jt ?_
    refine cd rfl (fun hc4=>?_) (fun hc4=>?_)
    ·have hv:v>0:=by simpa using hc4
     refine cS 6 []<|aq (yc rfl rfl (by omega) rfl) ?_
     exact⟨⟨(v,u.tmod v),hw.step hv⟩,ak ⟨rfl,rfl,rfl,trivial⟩ ⟨rfl,trivial⟩ rfl,hw.less hv⟩
    ·refine ac rfl (Fn hw.u0 hw.u1)<|ac rfl (iI) ?_
     refine ag ?_
     rw[hw.done (by simpa using hc4)]
     exact bb d6 rfl aa
   ·refine ac rfl (qz (by assumption) (by assumption) (by assumption))<|cS 3 [] ?_
    refine aO rfl (iI) ?_
    exact⟨⟨(c,sg false ((a.natAbs:Int)%c.natAbs)),hg.step hne⟩,ak ⟨rfl,rfl,rfl,trivial⟩ ⟨rfl,rfl,rfl,trivial⟩ rfl,hg.less hne⟩
 ·refine ar (G5 rfl (by assumption) rfl) ?_
  refine ac rfl (qg) ?_
  refine ag ?_
  rw[hg.done (m6 hc1)]
  exact bb d6 rfl aa
theorem CQ (hx:Sz 100000000 x) (hy:Sz 100000000 y) (h0:y≠0):Ok Tryz.prog 148 [dI x,dI y] [dI (x.fdiv y),dI (x.fmod y),.c (.i .i64 0)]:=by
 have hq:Sz 100000000 (q0 x y):=hx.q0
 have hr:Sz 100000000 (r0 x y):=hy.r0 h0
 have h1:Sz 100000000 (1:Int):=mA (by omega) (by omega) (by omega)
 refine bS Tryz.func148 rfl ?_
 refine cd rfl (fun hc1=>?_) (fun hc1=>?_)
 ·exact absurd hc1 (by simp[df,h0])
 ·refine ac rfl (qz (by assumption) (by assumption) (by assumption))<|cS 13 [] ?_
  refine aq (fL rfl rfl fi rfl) ?_
  refine aO rfl (iI) ?_
  refine aO rfl (iI) ?_
  refine dF (au rfl) (fun c2 hb2=>?_)
  cases c2
  ·refine nE rfl<|cS 5 [4,5,999999] ?_
   refine DQ.mk<|il (fI d6 rfl) rfl rfl rfl rfl<|ez ?_
   refine DQ.mk<|il (fI d6 rfl) rfl rfl rfl rfl<|ez ?_
   obtain⟨e1,e2⟩:=rO (x:=x) h0 (.inl (m6 hb2))
   refine ag ?_
   rw[e1,e2]
   exact bb d6 rfl (bb d6 rfl (am aa))
  ·refine ar (fL rfl rfl fi rfl) ?_
   refine cd rfl (fun hc3=>?_) (fun hc3=>?_)
   ·refine cS 6 [] ?_
    refine aO rfl (wL (by omega) (by omega))<|aO rfl (LR (by assumption) (by assumption)) ?_
    refine aO rfl (KN (by assumption) (by assumption))<|cS 5 [4,5,999999] ?_
    refine DQ.mk<|il (fI d6 rfl) rfl rfl rfl rfl<|ez ?_
    refine DQ.mk<|il (fI d6 rfl) rfl rfl rfl rfl<|ez ?_
    obtain⟨e1,e2⟩:=Aw (x:=x) h0 (nh hb2) (yf hc3)
    refine ag ?_
    rw[e1,e2]
    exact bb d6 rfl (bb d6 rfl (am aa))
   ·refine cS 5 [4,5,999999] ?_
    refine DQ.mk<|il (fI d6 rfl) rfl rfl rfl rfl<|ez ?_
    refine DQ.mk<|il (fI d6 rfl) rfl rfl rfl rfl<|ez ?_
    obtain⟨e1,e2⟩:=rO (x:=x) h0 (.inr (zd hc3))
    refine ag ?_
    rw[e1,e2]
    exact bb d6 rfl (bb d6 rfl (am aa))
theorem rH:Ok Tryz.prog 87 [dI x] [.c (.i .i64 (cO x 0))]:=by
 refine bS Tryz.func87 rfl ?_
 refine cd rfl (fun hc1=>?_) (fun hc1=>?_)
 ·refine ag ?_
  rw[ie (by have:=hc1;simp[df] at this;omega)]
  exact am aa
 ·refine cd rfl (fun hc2=>?_) (fun hc2=>?_)
  ·refine ag ?_
   rw[dd (by simpa using hc2)]
   exact am aa
  ·refine ag ?_
   rw[dk (by have:=hc1;have h2:=hc2;simp[df] at this h2;omega)]
   exact am aa
theorem D9 (hx:Sz 100000000 x) (hy:Sz 100000000 y):Ok Tryz.prog 78 [dI x,dI y] [.c (.i .i64 (cO x y))]:=by
 refine bS Tryz.func78 rfl ?_
 refine ar (fL rfl rfl fi rfl) ?_
 refine cd rfl (fun hc1=>?_) (fun hc1=>?_)
 ·refine cd rfl (fun hc2=>?_) (fun hc2=>?_)
  ·refine ag ?_
   rw[dd (by have:=yf hc1;have h2:=hc2;simp only[decide_eq_true_eq] at h2;omega)]
   exact am aa
  ·refine ag ?_
   rw[dk (by have:=yf hc1;have h2:=hc2;simp only[decide_eq_false_iff_not] at h2;omega)]
   exact am aa
 ·refine cd rfl (fun hc3=>?_) (fun hc3=>?_)
  ·refine ac rfl (lp (by assumption) (by assumption))<|ag ?_
   rw[←yn hc3 (by have:=zd hc1;have h2:=hc3;simp only[decide_eq_true_eq] at h2;omega)]
   exact am aa
  ·refine ac rfl (lp (by assumption) (by assumption))<|ag ?_
   rw[←yk hc3 (by have:=zd hc1;have h2:=hc3;simp only[decide_eq_false_iff_not] at h2;omega)]
   exact am aa
theorem ng (h0: -9223372036854775808≤x) (h1:x≤9223372036854775807):Ok Tryz.prog 37 [.c (.i .i64 x)] [dI x]:=by
 refine bS Tryz.func37 rfl ?_
 refine cd rfl (fun hc1=>?_) (fun hc1=>?_)
 ·have hn:x<0:=by simpa using hc1
  refine ar (bl (r:=x+18446744073709551616) qB f7 rfl (H0 hn h0) rfl) ?_
  refine ar (oN (r:= -x) rfl (Fv hn h0) rfl) ?_
  refine ac rfl (mN (by omega) (by omega))<|ac rfl (fG (Sz.small3 (by omega) (by omega))) ?_
  have hfin:dI x=dI (sg true (((-x).natAbs:Nat):Int)):=congrArg dI (by rw[ef];omega)
  refine ag ?_
  rw[hfin]
  exact bb d6 rfl aa
 ·have hn:0≤x:=by have:=hc1;simp at this;omega
  refine ar (bl (r:=x) qB f7 rfl (iu (by omega) (by omega)) rfl) ?_
  refine ac rfl (mN (by omega) (by omega))<|ac rfl (fG (Sz.small3 (by omega) (by omega))) ?_
  have hfin:dI x=dI (sg false ((x.natAbs:Nat):Int)):=congrArg dI (by rw[bL];omega)
  refine ag ?_
  rw[hfin]
  exact bb d6 rfl aa
theorem uE (hx:Sz 100000000 x):Ok Tryz.prog 119 [dI x] [dI (-x)]:=by
 refine bS Tryz.func119 rfl<|ac rfl (fG (by assumption)) ?_
 refine ag ?_
 rw[←Pq (x:=x)]
 exact bb d6 rfl aa
theorem jQ (hx:Sz 40000000 x) (hy:Sz 40000000 y):Ok Tryz.prog 79 [dI x,dI y] [dI (x*y)]:=by
 have hx6:Sz 100000000 x:=hx.m_
 have hy6:Sz 100000000 y:=hy.m_
 have hp:Sz 100000000 ((x.natAbs:Int)*(y.natAbs:Int)):=((x8 hx).mul (x8 hy)).m_
 refine bS Tryz.func79 rfl<|cS 11 [] ?_
 refine aq (fL rfl rfl fi rfl) ?_
 refine aO rfl (JG (by assumption) (by assumption))<|aO rfl (fG (by assumption))<|ag ?_
 rw[←OX (x:=x) (y:=y)]
 exact bb d6 rfl aa
theorem uw (hx:Sz 90000000 x) (hy:Sz 90000000 y):Ok Tryz.prog 151 [dI x,dI y] [dI (x+y)]:=by
 have hx6:Sz 100000000 x:=hx.m_
 have hy6:Sz 100000000 y:=hy.m_
 have hp:Sz 100000000 ((x.natAbs:Int)+(y.natAbs:Int)):=((x8 (hx.mono (l:=99999999) (by decide))).add (x8 (hy.m_))).m_
 refine bS Tryz.func151 rfl<|ar (ri rfl rfl fi rfl) ?_
 refine cd rfl (fun hc1=>?_) (fun hc1=>?_)
 ·refine cS 8 [] ?_
  refine aO rfl (Lv (by assumption) (by assumption)) ?_
  refine aO rfl (fG (by assumption))<|ag ?_
  rw[←KQ hc1]
  exact bb d6 rfl aa
 ·refine ac rfl (lp (by assumption) (by assumption)) ?_
  refine cd rfl (fun hc2=>?_) (fun hc2=>?_)
  ·have hge:=El hc2
   have hq:Sz 100000000 ((x.natAbs:Int)-(y.natAbs:Int)):=hx6.of_le (by omega)
   refine cS 8 [] ?_
   refine aO rfl (rb (by assumption) (by omega))<|aO rfl (fG (by assumption))<|ag ?_
   rw[←Qc hc1 (by omega)]
   exact bb d6 rfl aa
  ·have hge:=Er hc2
   have hq:Sz 100000000 ((y.natAbs:Int)-(x.natAbs:Int)):=hy6.of_le (by omega)
   refine cS 8 [] ?_
   refine aO rfl (rb (by assumption) (by omega))<|aO rfl (fG (by assumption))<|ag ?_
   rw[←QQ hc1 (by omega)]
   exact bb d6 rfl aa
theorem Lq (hx:Sz 90000000 x) (hy:Sz 90000000 y):Ok Tryz.prog 150 [dI x,dI y] [dI (x-y)]:=by
 have hx6:Sz 100000000 x:=hx.m_
 have hy6:Sz 100000000 y:=hy.m_
 have hyn:Sz 90000000 (-y):=hy.neg
 refine bS Tryz.func150 rfl<|cS 4 [] ?_
 refine aO rfl (uE (by assumption)) ?_
 refine aO rfl (uw (by assumption) (by assumption))<|ag ?_
 rw[Int.sub_eq_add_neg]
 exact bb d6 rfl aa
theorem AN (hx:Sz 100000000 x) (hy:Sz 100000000 y):Ok Tryz.prog 88 [dI x,dI y] [.c (.b (x==y))]:=by
 refine bS Tryz.func88 rfl ?_
 refine ar (ri rfl rfl fi rfl) ?_
 refine dF (au rfl) (fun c1 hb1=>?_)
 cases c1
 ·refine ag ?_
  rw[show(x==y)=false from by have:=hb1;simp only[beq_eq_false_iff_ne,ne_eq] at this⊢;intro e;subst e;exact this rfl]
  exact am aa
 ·refine ac rfl (lp (by assumption) (by assumption))<|ag ?_
  rw[←Gx hb1]
  exact am aa
theorem jJ (hx:Sz 20000000 x) (hy:Sz 20000000 y) (h0:y≠0):Ok Tryz.prog 120 [dI x,dI y] [dI (x.fdiv y),dI (x.fmod y),.c (.i .i64 0)]:=by
 have hq:Sz 90000000 (q0 x y):=hx.q0.m_
 have hr:Sz 90000000 (r0 x y):=(hy.r0 h0).m_
 have h1:Sz 90000000 (1:Int):=mA (by omega) (by omega) (by omega)
 have hy9:Sz 90000000 y:=hy.m_
 have hqq:Sz 100000000 ((x.natAbs:Int)/y.natAbs):=Qp hx
 have hrr:Sz 100000000 ((x.natAbs:Int)%y.natAbs):=Rq hy h0
 refine bS Tryz.func120 rfl ?_
 refine cd rfl (fun hc1=>?_) (fun hc1=>?_)
 ·exact absurd hc1 (by simp[df,h0])
 ·refine ac rfl (wa (by assumption) (by assumption) (by assumption))<|cS 13 [] ?_
  refine aq (fL rfl rfl fi rfl) ?_
  refine aO rfl (CX hqq) ?_
  refine aO rfl (CY h0 hrr) ?_
  refine dF (au rfl) (fun c2 hb2=>?_)
  cases c2
  ·refine nE rfl<|cS 5 [4,5,999999] ?_
   refine DQ.mk<|il (fI d6 rfl) rfl rfl rfl rfl<|ez ?_
   refine DQ.mk<|il (fI d6 rfl) rfl rfl rfl rfl<|ez ?_
   obtain⟨e1,e2⟩:=rO (x:=x) h0 (.inl (EX.1 (m6 hb2)))
   refine ag ?_
   rw[e1,e2]
   exact bb d6 rfl (bb d6 rfl (am aa))
  ·refine ar (fL rfl rfl fi rfl) ?_
   refine cd rfl (fun hc3=>?_) (fun hc3=>?_)
   ·refine cS 6 [] ?_
    refine aO rfl (ng (by omega) (by omega))<|aO rfl (Lq (by assumption) (by assumption)) ?_
    refine aO rfl (uw (by assumption) (by assumption))<|cS 5 [4,5,999999] ?_
    refine DQ.mk<|il (fI d6 rfl) rfl rfl rfl rfl<|ez ?_
    refine DQ.mk<|il (fI d6 rfl) rfl rfl rfl rfl<|ez ?_
    obtain⟨e1,e2⟩:=Aw (x:=x) h0 (fun e=>nh hb2 (EX.2 e)) (by rw[DA h0 (nh hb2)];exact yf hc3)
    refine ag ?_
    rw[e1,e2]
    exact bb d6 rfl (bb d6 rfl (am aa))
   ·refine cS 5 [4,5,999999] ?_
    refine DQ.mk<|il (fI d6 rfl) rfl rfl rfl rfl<|ez ?_
    refine DQ.mk<|il (fI d6 rfl) rfl rfl rfl rfl<|ez ?_
    obtain⟨e1,e2⟩:=rO (x:=x) h0 (.inr (by rw[DA h0 (nh hb2)];exact zd hc3))
    refine ag ?_
    rw[e1,e2]
    exact bb d6 rfl (bb d6 rfl (am aa))
theorem yy (hx:Sz 20000000 x) (hy:Sz 20000000 y):Ok Tryz.prog 89 [dI x,dI y] [dI (Int.gcd x y:Int)]:=by
 refine bS Tryz.func89 rfl<|cS 6 [] ?_
 refine DW.mk<|aY (ι:={p:Int×Int // RG x y p.1 p.2}) (fun i=>⟨54,[(4,.p 4 0),(5,.v (.c (cL i.1.1))),(6,.v (.c (cL i.1.2)))],[(4,68,([.b false]++[.s 0 []]))]⟩) (fun i=>i.1.2.toNat) ⟨((x.natAbs:Int),(y.natAbs:Int)),RG.start hx hy⟩ (ak ⟨rfl,by rw[HA x];rfl,by rw[HA y];rfl,trivial⟩ ⟨rfl,trivial⟩ rfl) ?_
 rintro⟨⟨a,c⟩,hg⟩
 replace hg:RG x y a c:=hg
 have ha:=hg.sa
 have hcc:=hg.sc
 have ha0:=hg.a0
 have hcc0:=hg.c0
 have ha6:Sz 100000000 a:=ha.m_
 dsimp only
 refine jt ?_
 refine dF (au rfl) (fun c1 hb1=>?_)
 cases c1
 ·refine DL.mk<|jN (eB rfl)<|dC ?_
  refine nE rfl ?_
  refine cd rfl (fun hc2=>?_) (fun hc2=>?_)
  ·refine ac rfl (fG (by assumption)) ?_
   refine ag ?_
   rw[hg.done (m6 hb1)]
   exact bb d6 rfl aa
  ·exact absurd hc2 (by simp[df,m6 hb1])
 ·have hne:=nh hb1
  refine dF (au rfl) (fun c3 hb3=>?_)
  cases c3
  ·have hwa:=DP hb3
   refine cd rfl (fun hc4=>?_) (fun hc4=>?_)
   ·refine ac rfl (wa (by assumption) (by assumption) (by assumption)) ?_
    exact⟨⟨(c,(a.natAbs:Int)%c.natAbs),hg.step hne⟩,ak ⟨rfl,rfl,rfl,trivial⟩ ⟨rfl,trivial⟩ rfl,hg.less hne⟩
   ·have hwc:=DP hc4
    refine cd rfl (fun hc5=>?_) (fun hc5=>?_)
    ·exact absurd hc5 (by simp[df,hne])
    ·refine ac rfl (AW (by assumption))<|ac rfl (AW (by assumption)) ?_
     refine DW.mk<|aY (ι:={p:Int×Int // GInv2 x y p.1 p.2}) (fun i=>⟨54,[(4,.p 4 0),(9,.v (.c (.i .u64 i.1.1))),(10,.v (.c (.i .u64 i.1.2)))],[(4,68,([.b false]++[.s 0 []]))]⟩) (fun i=>i.1.2.toNat) ⟨((a.natAbs:Int),(c.natAbs:Int)),hg.word hwa hwc⟩ (ak ⟨rfl,rfl,rfl,trivial⟩ ⟨rfl,trivial⟩ rfl) ?_
     rintro⟨⟨u,v⟩,hw⟩
     replace hw:GInv2 x y u v:=hw
     have hu0:=hw.u0
     have hu1:=hw.u1
     have hsu:Sz 100000000 u:=Sz.small3 hu0 hu1
     dsimp only
     refine jt ?_
     refine cd rfl (fun hc6=>?_) (fun hc6=>?_)
     ·have hv:v>0:=by simpa using hc6
      have hvn:v≠0:=by omega
      refine cS 6 []<|aq (yc rfl rfl (by omega) rfl) ?_
      exact⟨⟨(v,u.tmod v),hw.step hv⟩,ak ⟨rfl,rfl,rfl,trivial⟩ ⟨rfl,trivial⟩ rfl,hw.less hv⟩
     ·refine ac rfl (mN (by omega) (by omega))<|ac rfl (fG (by assumption)) ?_
      refine ag ?_
      rw[hw.fin (by simpa using hc6)]
      exact bb d6 rfl aa
  ·refine kG rfl<|ac rfl (wa (by assumption) (by assumption) (by assumption)) ?_
   exact⟨⟨(c,(a.natAbs:Int)%c.natAbs),hg.step hne⟩,ak ⟨rfl,rfl,rfl,trivial⟩ ⟨rfl,trivial⟩ rfl,hg.less hne⟩
end Go.Proofs.YtkfgimjmgfoneaaGreatDoor
