/-Package swarfref01:times,by,compare,short,signed. -/
import Derived.Test.YtegpmhlfjkhjmaaGreatYqF
namespace Go.Proofs.YtegpmhlfjkhjmaaGreat
open Go Go.RowKit
variable {R V a b c d m r u v x y:Int}{rs us vs xs ys zs:List Int}{K N i k l n:Nat}{pos:String}{U e ty xt:TypeId}
variable {af:Array Edge}{g:Option (Nat×Bool)}{dst:Option Nat}
theorem dY:type_of% @Sz.small:=@Sz.small
theorem lj:type_of% @Dw.weak:=@Dw.weak
theorem qk:type_of% @Int.zero_mul:=@Int.zero_mul
theorem rK:type_of% @Int.lt_trichotomy:=@Int.lt_trichotomy
theorem qP:type_of% @Int.mul_pos:=@Int.mul_pos
theorem ui:type_of% @Bool.not_false:=@Bool.not_false
theorem u9:type_of% @Int.mul_eq_zero:=@Int.mul_eq_zero
theorem xS:type_of% @Int.natAbs_natCast:=@Int.natAbs_natCast
theorem DX (hLxs:Lim xs) (hLys:Lim ys) (hn:xs.length≤100000000) (hm:ys.length≤100000000):Ok Tryz.prog 199 [.c (cM xs),.c (cM ys)] [.c (cL (val xs*val ys))]:=by
 refine eH Tryz.func199 68 [.tmp 4] rfl<|aa<|ag<|aa<|ag ?_
 refine ar (ci ((xs.length:Int)+(ys.length:Int)) (bk (by(first|omega|(simp;omega))) (by(first|omega|(simp;omega)))) rfl) ?_
 refine DL.mk<|pi (ko (n:=xs.length+ys.length) xR rfl rfl (by(first|omega|(simp;omega))) (by(first|omega|(simp;omega))) rfl) rfl<|dX ?_
 refine aa<|aa<|ag<|aB<|bh (ι:={t:Nat×List Int // TInv xs ys t.1 0 0 t.2}) (fun i=>⟨68,[(0,.v (.c (cM xs))),(1,.v (.c (cM ys))),(5,.o 14 (xs.length+ys.length) (xs.length+ys.length)),(6,.v (.c (.i .i64 (i.1.1:Int))))],[(14,194,i.1.2.map (CellD.i .u32))]⟩) (fun i=>xs.length-i.1.1) ⟨(0,List.replicate (xs.length+ys.length) 0),TInv.start⟩ (ao ⟨rfl,rfl,rfl,rfl,trivial⟩ ⟨by rw[show(List.replicate (xs.length+ys.length) (CellD.i .u32 0))=(List.replicate (xs.length+ys.length) 0).map (CellD.i .u32) from by simp];rfl,trivial⟩ rfl) ?_
 rintro⟨⟨j,zs⟩,hI⟩
 replace hI:TInv xs ys j 0 0 zs:=hI
 have g5:=hI.ik
 have g6:=hI.len
 dsimp only
 refine aa<|aa<|ag ?_
 refine aI rfl (fun hc1=>?_) (fun hc1=>?_)
 ·have hj:j<xs.length:=by simp only[decide_eq_true_eq] at hc1;omega
  refine aA<|aa<|aB<|aa<|ag<|aa<|aa<|ag<|aB<|bh (ι:={t:Nat×Int×List Int // TInv xs ys j t.1 t.2.1 t.2.2}) (fun i=>⟨68,[(0,.v (.c (cM xs))),(1,.v (.c (cM ys))),(5,.o 14 (xs.length+ys.length) (xs.length+ys.length)),(6,.v (.c (.i .i64 (j:Int)))),(7,.v (.c (.i .u64 i.1.2.1))),(8,.v (.c (.i .i64 (i.1.1:Int))))],[(14,194,i.1.2.2.map (CellD.i .u32))]⟩) (fun i=>ys.length-i.1.1) ⟨(0,0,zs),hI⟩ (ao ⟨rfl,rfl,rfl,rfl,rfl,rfl,trivial⟩ ⟨rfl,trivial⟩ rfl) ?_
  clear hI g6
  rintro⟨⟨k,c,zs⟩,hI⟩
  replace hI:TInv xs ys j k c zs:=hI
  have g1:=di hLxs j
  have g2:=di hLys k
  have g8:=di hI.L (j+k)
  have g3:=hI.c0
  have g4:=hI.c1
  have g5:=hI.ik
  have g7:=hI.kk
  have g6:=hI.len
  dsimp only
  refine aa<|aa<|ag ?_
  refine aI rfl (fun hc2=>?_) (fun hc2=>?_)
  ·have hk:k<ys.length:=by simp only[decide_eq_true_eq] at hc2;omega
   have hm0:0≤xs.getD j 0*ys.getD k 0:=f5 g1.1 g2.1
   have hm1:xs.getD j 0*ys.getD k 0≤999999999*999999999:=rG (by omega) (by omega) g2.1 (by omega)
   refine aA<|aa<|aB<|aa<|ln 22 rfl rfl<|dt 4<|bD (ci ((j:Int)+(k:Int)) (bk (by omega) (by omega)) rfl) ?_
   refine bD (bq ju rfl rfl (by(first|omega|(simp;omega))) rfl) ?_
   refine bD (kW fF rfl rfl (aad (i:=j+k) (by(first|omega|(simp;omega)))) rfl) ?_
   refine bD (b6 (r:=zs.getD (j+k) 0) jH fM rfl (iB (by(first|omega|(simp;omega))) (by(first|omega|(simp;omega)))) rfl) ?_
   refine bD (ci (c+(zs.getD (j+k) 0)) (fW (by(first|omega|(simp;omega))) (by(first|omega|(simp;omega)))) rfl) ?_
   refine dt 2 ?_
   refine bD (bH ju rfl rfl (by(first|omega|(simp;omega))) (jx _) rfl rfl) ?_
   refine bD (b5 fF rfl (lk (i:=j) (by(first|omega|(simp;omega)))) rfl) ?_
   refine bD (b6 (r:=xs.getD j 0) jH fM rfl (iB (by(first|omega|(simp;omega))) (by(first|omega|(simp;omega)))) rfl) ?_
   refine dt 2 ?_
   refine bD (bH ju rfl rfl (by(first|omega|(simp;omega))) (jx _) rfl rfl) ?_
   refine bD (b5 fF rfl (lk (i:=k) (by(first|omega|(simp;omega)))) rfl) ?_
   refine bD (b6 (r:=ys.getD k 0) jH fM rfl (iB (by(first|omega|(simp;omega))) (by(first|omega|(simp;omega)))) rfl) ?_
   refine bD (ci ((xs.getD j 0)*(ys.getD k 0)) (iA (by(first|omega|(simp;omega))) (by(first|omega|(simp;omega)))) rfl) ?_
   refine bD (ci ((c+(zs.getD (j+k) 0))+((xs.getD j 0)*(ys.getD k 0))) (fW (by(first|omega|(simp;omega))) (by(first|omega|(simp;omega)))) rfl) ?_
   refine yo<|dk<|ba<|aa<|bg<|bK 3<|aR (ci ((j:Int)+(k:Int)) (bk (by omega) (by omega)) rfl)<|bK 1<|aR (gn (r:=(c+zs.getD (j+k) 0+xs.getD j 0*ys.getD k 0)%1000000000) rfl rfl (by omega) (qv (by omega)) rfl) ?_
   refine aR (b6 (r:=(c+zs.getD (j+k) 0+xs.getD j 0*ys.getD k 0)%1000000000) fM jH rfl (se (by omega) (by omega)) rfl) ?_
   refine aR (bq ju rfl rfl (by(first|omega|(simp;omega))) rfl) ?_
   refine f8 (bd (us:=(zs.set (j+k) ((c+zs.getD (j+k) 0+xs.getD j 0*ys.getD k 0)%1000000000)).map (CellD.i .u32)) fF rfl rfl rfl rfl (by simp;omega) (ri (by(first|omega|(simp;omega)))) rfl) ?_
   refine ba<|ag<|ar (kJ (r:=(c+zs.getD (j+k) 0+xs.getD j 0*ys.getD k 0)/1000000000) rfl rfl (by omega) (by rw[pd (by omega)];exact iB (by omega) (by omega)) rfl) ?_
   refine ag ?_
   refine ar (ci ((k:Int)+1) (bk (by(first|omega|(simp;omega))) (by(first|omega|(simp;omega)))) rfl) ?_
   exact⟨⟨(k+1,(c+zs.getD (j+k) 0+xs.getD j 0*ys.getD k 0)/1000000000,zs.set (j+k) ((c+zs.getD (j+k) 0+xs.getD j 0*ys.getD k 0)%1000000000)),hI.step hLxs hLys hj hk rfl⟩,ao ⟨rfl,rfl,rfl,rfl,rfl,by rw[show((k+1:Nat):Int)=(k:Int)+1 from by omega];rfl,trivial⟩ ⟨rfl,trivial⟩ rfl,by show ys.length-(k+1)<ys.length-k;omega⟩
  ·have hk:k=ys.length:=by simp only[decide_eq_false_iff_not] at hc2;omega
   refine a7<|bg<|bK 4 ?_
   refine aR (ci ((j:Int)+(ys.length:Int)) (bk (by(first|omega|(simp;omega))) (by(first|omega|(simp;omega)))) rfl) ?_
   refine bK 1<|aR (b6 (r:=c) fM jH rfl (se (by omega) (by omega)) rfl) ?_
   refine aR (bq ju rfl rfl (by(first|omega|(simp;omega))) rfl) ?_
   refine f8 (bd (us:=(zs.set (j+ys.length) c).map (CellD.i .u32)) fF rfl rfl rfl rfl (by simp;omega) (ri (by(first|omega|(simp;omega)))) rfl) ?_
   refine ba<|ag ?_
   refine ar (ci ((j:Int)+1) (bk (by(first|omega|(simp;omega))) (by(first|omega|(simp;omega)))) rfl) ?_
   exact⟨⟨(j+1,zs.set (j+ys.length) c),hI.row hj hk⟩,ao ⟨rfl,rfl,rfl,by rw[show((j+1:Nat):Int)=(j:Int)+1 from by omega];rfl,trivial⟩ ⟨rfl,trivial⟩ rfl,by show xs.length-(j+1)<xs.length-j;omega⟩
 ·have hj:j=xs.length:=by simp only[decide_eq_false_iff_not] at hc1;omega
  have hfin:val xs*val ys=val zs:=(hI.done hj).symm
  have hLf:Lim zs:=hI.L
  refine a7<|aa ?_
  refine we (t:=5) (zs:=zs) (ys:=zs) rfl rfl (by first|omega|(simp;omega)|simp) (by omega) (by omega) (ja (by first|omega|(simp;omega)|simp)) ?_
  refine ag<|ac rfl (lu hLf (by omega))<|aZ ?_
  rw[hfin]
  exact ah (az ae)
theorem JP (hLxs:Lim xs) (hn:xs.length≤100000000) (h0:0≤m) (h1:m<1000000000):Ok Tryz.prog 282 [.c (cM xs),.c (.i .u32 m)] [.c (cL (val xs*m))]:=by
 have hv1:val [m]=m:=by simp[val]
 refine ca Tryz.func282 rfl<|ar (xj xR rfl rfl) ?_
 refine ac rfl (lu (Lim.nil.cons h0 h1) (fP rfl))<|ac rfl (DX hLxs (b8 _) hn (ii (x:=val [m]) (k:=100000000) (by rw[hv1];exact dY (by omega) (by omega) (by omega))))<|ah ?_
 rw[show val xs*m=val xs*val (du (val [m]).natAbs) from by rw[cz,show(((val [m]).natAbs:Nat):Int)=m from by simp[val];omega]]
 exact az ae
theorem Gw (hLxs:Lim xs) (hLys:Lim ys) (nX:Nrm xs) (nY:Nrm ys) (hn:xs.length≤100000000) (_hm:ys.length≤100000000):Ok Tryz.prog 169 [.c (cM xs),.c (cM ys)] [.c (.i .i64 (eG (val xs) (val ys)))]:=by
 refine eH Tryz.func169 41 [.tmp 4] rfl<|aa<|ag<|aa<|aa<|ag ?_
 refine aI rfl (fun hc1=>?_) (fun hc1=>?_)
 ·have hne:xs.length≠ys.length:=by simp only[bne_iff_ne,ne_eq] at hc1;omega
  refine aa<|aa<|ag ?_
  refine aI rfl (fun hc2=>?_) (fun hc2=>?_)
  ·have hfin:eG (val xs) (val ys)= -1:=fb (Bo nY hLxs hLys (by simp only[decide_eq_true_eq] at hc2;omega))
   refine aa<|ag<|aZ ?_
   rw[hfin]
   exact ah (az ae)
  ·have hfin:eG (val xs) (val ys)=1:=fk (Bo nX hLys hLxs (by simp only[decide_eq_false_iff_not] at hc2;omega))
   refine aA<|aa<|ag<|aZ ?_
   rw[hfin]
   exact ah (az ae)
 ·have heq:xs.length=ys.length:=by simp only[bne_eq_false_iff_eq] at hc1;omega
  refine aA<|aa<|aa<|ag ?_
  refine ar (ci ((xs.length:Int)-1) (bO (by(first|omega|(simp;omega))) (by(first|omega|(simp;omega)))) rfl) ?_
  refine aB<|bh (ι:={j:Nat // j≤xs.length∧xs.drop j=ys.drop j}) (fun i=>⟨41,[(0,.v (.c (cM xs))),(1,.v (.c (cM ys))),(5,.v (.c (.i .i64 ((i.1:Int)-1))))],[]⟩) (fun i=>i.1) ⟨xs.length,ce _,by rw[pn (ce _),pn (by omega)]⟩ (ao ⟨rfl,rfl,rfl,trivial⟩ trivial rfl) ?_
  rintro⟨j,hj,hD⟩
  dsimp only
  refine aa<|aa<|ag ?_
  refine aI rfl (fun hc3=>?_) (fun hc3=>?_)
  ·obtain⟨q,rfl⟩: ∃q,j=q+1:=⟨j-1,by simp only[decide_eq_true_eq] at hc3;omega⟩
   have e1:=getD_some (xs:=xs) (i:=q) (by omega)
   have e2:=getD_some (xs:=ys) (i:=q) (by omega)
   refine lj (σ':=⟨41,[(0,.v (.c (cM xs))),(1,.v (.c (cM ys))),(5,.v (.c (.i .i64 (q:Int))))],[]⟩) (ao ⟨rfl,rfl,by rw[show(q:Int)=((q+1:Nat):Int)-1 from by omega];rfl,trivial⟩ trivial rfl) ?_
   refine aA<|aa<|aB<|aa<|aa<|dJ 9 [] ?_
   refine aq (bH ju rfl rfl (by(first|omega|(simp;omega))) (jx _) rfl rfl) ?_
   refine aq (b5 fF rfl (lk (i:=q) (by(first|omega|(simp;omega)))) rfl) ?_
   refine aq (bH ju rfl rfl (by(first|omega|(simp;omega))) (jx _) rfl rfl) ?_
   refine aq (b5 fF rfl (lk (i:=q) (by(first|omega|(simp;omega)))) rfl) ?_
   refine aI rfl (fun hc4=>?_) (fun hc4=>?_)
   ·have hfin:eG (val xs) (val ys)= -1:=fb (E5 hLxs hLys e1 e2 hD (by simpa using hc4))
    refine aa<|ag<|aZ ?_
    rw[hfin]
    exact ah (az ae)
   ·have hlt: ¬xs.getD q 0<ys.getD q 0:=by simpa using hc4
    refine aA<|aa<|dJ 9 [] ?_
    refine aq (bH ju rfl rfl (by(first|omega|(simp;omega))) (jx _) rfl rfl) ?_
    refine aq (b5 fF rfl (lk (i:=q) (by(first|omega|(simp;omega)))) rfl) ?_
    refine aq (bH ju rfl rfl (by(first|omega|(simp;omega))) (jx _) rfl rfl) ?_
    refine aq (b5 fF rfl (lk (i:=q) (by(first|omega|(simp;omega)))) rfl) ?_
    refine aI rfl (fun hc5=>?_) (fun hc5=>?_)
    ·have hfin:eG (val xs) (val ys)=1:=fk (E5 hLys hLxs e2 e1 hD.symm (by simpa using hc5))
     refine aa<|ag<|aZ ?_
     rw[hfin]
     exact ah (az ae)
    ·have hgt: ¬xs.getD q 0>ys.getD q 0:=by simpa using hc5
     refine aA<|ag ?_
     refine ar (ci ((q:Int)-1) (bO (by(first|omega|(simp;omega))) (by(first|omega|(simp;omega)))) rfl) ?_
     exact⟨⟨q,by omega,Mw (by omega) (by omega) hD (by omega)⟩,ao ⟨rfl,rfl,rfl,trivial⟩ trivial rfl,by show q<q+1;omega⟩
  ·have hz:j=0:=by simp only[decide_eq_false_iff_not] at hc3;omega
   have hfin:eG (val xs) (val ys)=0:=by subst hz;simp only[oW] at hD;rw[hD];exact kw rfl
   refine a7<|aa<|ag<|aZ ?_
   rw[hfin]
   exact ah (az ae)
theorem Ar (hLxs:Lim xs) (hn:xs.length≤100000000) (hb:val xs≤18446744073709551615):Ok Tryz.prog 171 [.c (cM xs)] [.c (.i .u64 (val xs))]:=by
 refine eH Tryz.func171 21 [.tmp 2] rfl<|aa<|ag<|aa<|ag<|aa<|aa<|ag ?_
 refine ar (ci ((xs.length:Int)-1) (bO (by(first|omega|(simp;omega))) (by(first|omega|(simp;omega)))) rfl) ?_
 refine aB<|bh (ι:={t:Nat×Int // ShInv xs t.1 t.2}) (fun i=>⟨21,[(0,.v (.c (cM xs))),(3,.v (.c (.i .u64 i.1.2))),(4,.v (.c (.i .i64 ((i.1.1:Int)-1))))],[]⟩) (fun i=>i.1.1) ⟨(xs.length,0),⟨Nat.le_refl _,nH 0,by rw[lJ];simp⟩⟩ (ao ⟨rfl,rfl,rfl,trivial⟩ trivial rfl) ?_
 rintro⟨⟨j,r⟩,hI⟩
 replace hI:ShInv xs j r:=hI
 have g5:=hI.le
 have g3:=hI.r0
 dsimp only
 refine aa<|aa<|ag ?_
 refine aI rfl (fun hc1=>?_) (fun hc1=>?_)
 ·obtain⟨q,rfl⟩: ∃q,j=q+1:=⟨j-1,by simp only[decide_eq_true_eq] at hc1;omega⟩
  have hS:=hI.step hLxs
  have hB:=hS.bound hLxs
  have g1:=di hLxs q
  refine lj (σ':=⟨21,[(0,.v (.c (cM xs))),(3,.v (.c (.i .u64 r))),(4,.v (.c (.i .i64 (q:Int))))],[]⟩) (ao ⟨rfl,rfl,by rw[show(q:Int)=((q+1:Nat):Int)-1 from by omega];rfl,trivial⟩ trivial rfl) ?_
  refine aA<|aa<|aB<|ag ?_
  refine ar (ci (r*1000000000) (iA (by(first|omega|(simp;omega))) (by(first|omega|(simp;omega)))) rfl) ?_
  refine ar (bH ju rfl rfl (by(first|omega|(simp;omega))) (jx _) rfl rfl) ?_
  refine ar (b5 fF rfl (lk (i:=q) (by(first|omega|(simp;omega)))) rfl) ?_
  refine ar (b6 (r:=xs.getD q 0) jH fM rfl (iB (by(first|omega|(simp;omega))) (by(first|omega|(simp;omega)))) rfl) ?_
  refine ar (ci ((r*1000000000)+(xs.getD q 0)) (fW (by(first|omega|(simp;omega))) (by(first|omega|(simp;omega)))) rfl) ?_
  refine ag ?_
  refine ar (ci ((q:Int)-1) (bO (by(first|omega|(simp;omega))) (by(first|omega|(simp;omega)))) rfl) ?_
  exact⟨⟨(q,r*1000000000+xs.getD q 0),hS⟩,ao ⟨rfl,rfl,rfl,trivial⟩ trivial rfl,by show q<q+1;omega⟩
 ·have hz:j=0:=by simp only[decide_eq_false_iff_not] at hc1;omega
  have hfin:val xs=r:=by subst hz;have:=hI.v;simp[val,tS] at this;omega
  refine a7<|aa<|ag<|aZ ?_
  rw[hfin]
  exact ah (az ae)
theorem JL {neg:Bool}(hL:Lim xs) (hn:xs.length≤1000000000):Ok Tryz.prog 159 [.c (.b neg),.c (cM xs)] [dI (sg neg (val xs))]:=by
 refine ca Tryz.func159 rfl<|ac rfl (lu hL (by omega)) ?_
 refine jT (bz rfl) (fun c1 hb1=>?_)
 cases c1
 ·have hfin:dI (sg neg (val xs))=.a ([.b false]++[cL (val xs)]):=by rw[hb1,cV];unfold dI cI;rw[show decide (val xs<0)=false from by have:=cK hL;simp;omega];rfl
  refine ar (aM (us:=([.b false]++[cL (val xs)])) JH GE rfl rfl rfl) ?_
  refine ah ?_
  rw[hfin]
  exact aV dT rfl ae
 ·have hfin:dI (sg neg (val xs))=.a ([.b (decide (((du (val xs).natAbs).length:Int)>0))]++[cL (val xs)]):=by rw[hb1];exact SQ (cK hL)
  refine ar (aM (us:=([.b (decide ((((du (val xs).natAbs).length:Int))>0))]++[cL (val xs)])) JH GE rfl rfl rfl) ?_
  refine ah ?_
  rw[hfin]
  exact aV dT rfl ae
theorem NT (h:0<r):du r.toNat=(r%1000000000)::du (r/1000000000).toNat:=by
 rw[Ba (by omega)]
 congr 1
 ·omega
 ·congr 1;omega
set_option maxHeartbeats 1000000 in
set_option maxRecDepth 10000 in
theorem JD (u:Int) (w:World) (h0:0≤u) (h1:u≤18446744073709551615):
 Calls Tryz.prog 160 #[.int .u64 u] w fun e w'=> ∃v,e=.returned v∧w'.ownsRow w.heap.size 194 1 v (du u.toNat).length ((du u.toNat).map (Value.int .u32))∧Below w.heap.size w w':=by
 obtain⟨i0,hi0,hz0,hz1,hz2⟩:=info_parts oB
 have hlen:(du u.toNat).length≤3:=by
  refine(jr _).len (b8 _) ?_
  rw[cz]
  have h3:pw 3=1000000000000000000000000000:=by decide
  omega
 go_enter Tryz.func160,Tryz.ntmps160
 go_wp2_with fail
 go_loopw [0,3] (fun n v wr=> ∃(r:Int) (k:Nat) (zs:List Int),n=.int .u64 r∧0≤r∧r≤u∧wr.ownsRow w.heap.size 194 1 v k (zs.map (Value.int .u32))∧Below w.heap.size w wr∧Hid (zs.length=k∧du u.toNat=zs++du r.toNat))
  (fun n _ _=>(intOf n).toNat)
 case atStart=>exact⟨u,0,[],rfl,h0,nH _,q9 _ _ _ _,eL _ _,rfl,rfl⟩
 case round=>
  obtain⟨r,k,zs,rfl,hr0,hru,hown,hbel,H⟩:=hrel
  have hz:=hbel.size
  by_cases hr:0<r
  ·have Hs:Hid ((zs++[r%1000000000]).length=k+1∧du u.toNat=(zs++[r%1000000000])++du (r/1000000000).toNat):=by
    obtain⟨l1,l2⟩:=H.out
    refine⟨by simp[l1],?_⟩
    rw[l2,NT hr];simp
   have hk:k≤3:=by
    obtain⟨l1,l2⟩:=H.out
    rw[l2] at hlen
    simp at hlen;omega
   clear H
   have e1:r.tmod 1000000000=r%1000000000:=qv hr0
   have e2:IntKind.u32.wrap (r%1000000000)=r%1000000000:=se (by omega) (by omega)
   have e3:r.tdiv 1000000000=r/1000000000:=pd hr0
   have e4:IntKind.u64.wrap (r/1000000000)=r/1000000000:=iB (by omega) (by omega)
   go_wp2_with (at_builtin;go_must (refine wpList_append_own _ rfl _ _ 34 rfl w.heap.size 194 i0 (.int .u32 0) 1 4 pq hi0 hz0 hz1 hz2 rfl (by decide) _ _ _ rfl (hown.alloc _) ⟨wr.heap.size,0,none⟩ 1 1 [.int .u32 _] rfl rfl (cell_one_new _ _ _) (by simp[Value.oneCell']) (by unfold maxLen;omega) (by omega) (by simp;omega) ?_);intro v' w1 hown' hgrow' _)
   go_roundw
   case rel=>exact⟨r/1000000000,k+1,_,by first|rfl|(simp[e3,e4]),by omega,by omega,by simpa using hown',jv hown hbel hz hgrow',Hs⟩
   case measure=>simp[intOf]<;>omega
  ·obtain rfl:r=0:=by omega
   have Hs:Hid (zs.length=k∧du u.toNat=zs):=by
    obtain⟨l1,l2⟩:=H.out
    refine⟨l1,?_⟩
    rw[l2];simp[lU]
   clear H
   go_wp2
   go_ret
   obtain⟨l1,l2⟩:=Hs.out
   exact⟨_,rfl,by rw[l2,l1];exact hown,hbel⟩
theorem sv (h0:0≤u) (h1:u≤18446744073709551615):Ok Tryz.prog 160 [.c (.i .u64 u)] [.c (cL u)]:=⟨by kernel_rfl,fun av vs w hav h=>by
 obtain⟨vs⟩:=vs
 match vs,h.1,h with
 |[v],_,h=>
  obtain rfl:=fQ h.uncons.1
  refine(JD u w h0 h1).mono ?_
  rintro e w' ⟨v,rfl,g1,g2⟩
  obtain⟨A,c,rfl⟩:=Cx g1
  refine⟨_,rfl,?_,g2⟩
  have hn:u.natAbs=u.toNat:=by omega
  have hsl:=Ow.sl ⟨g1,b8 _⟩
  have:=xV (av:=av) hsl.1 hsl.2.1 hsl.2.2.1 (fun b off e hV=>by have:=Ow.fresh (k:=w.heap.size) (⟨g1,b8 _⟩:Ow w' w.heap.size _ _ _) (ce _) b off e;have:=hav b hV;omega)
  show RdC av w' _ (cL u)
  unfold cL
  rw[hn];exact this⟩
structure DInv (us:List Int) (V:Int) (N j:Nat) (R:Int) (zs:List Int):Prop where
 le:j≤us.length
 R0:0≤R
 RV:R<V
 L:Lim zs
 len:zs.length=N
 hN:us.length≤N
 v:val (us.drop j)=val ((zs.take us.length).drop j)*V+R
theorem DK (h:i<xs.length):val (xs.drop i)=xs.getD i 0+1000000000*val (xs.drop (i+1)):=by
 rw[pj h,ef]
 grind
theorem DInv.start (hV:0<V) (hN:us.length≤N):DInv us V N us.length 0 (List.replicate N 0):=
 ⟨Nat.le_refl _,nH _,hV,Lim.zeros _,by simp,hN,by rw[pn (ce _),pn (by simp;omega)];simp[val]⟩
theorem DInv.step {q R':Int}(h:DInv us V N (i+1) R zs) (_hL:Lim us) (hq0:0≤q) (hq1:q<1000000000) (hR0:0≤R') (hRV:R'<V) (he:us.getD i 0+1000000000*R=q*V+R'):DInv us V N i R' (zs.set i q):=by
 have hi:i<us.length:=h.le
 have hlen:=h.len
 have hN:=h.hN
 refine⟨by omega,hR0,hRV,h.L.set hq0 hq1,by simp[hlen],hN,?_⟩
 have e1:((zs.set i q).take us.length)=(zs.take us.length).set i q:=by rw[List.take_set]
 have hi2:i<((zs.take us.length).set i q).length:=by grind
 rw[DK hi,h.v,e1,DK hi2]
 have e3:((zs.take us.length).set i q).drop (i+1)=(zs.take us.length).drop (i+1):=by rw[BS (by omega)]
 grind
theorem DInv.done (h:DInv us V N 0 R zs):val us/V=val (zs.take us.length)∧val us%V=R:=by
 have hv:=h.v
 simp only[oW] at hv
 have h0:=h.R0
 have h1:=h.RV
 exact(Int.ediv_emod_unique (show 0<V by omega)).2 ⟨by rw[hv,sG V];omega,h0,h1⟩
theorem DH (hR:0≤R) (hV:R<V) (hd:0≤d) (hd1:d<1000000000):0≤(d+1000000000*R)/V∧(d+1000000000*R)/V≤999999999:=by
 refine⟨Int.ediv_nonneg (by omega) (by omega),?_⟩
 have:(d+1000000000*R)/V<1000000000:=Int.ediv_lt_of_lt_mul (by omega) (by omega)
 omega
theorem X0 {T hi top:Int}(hV:top*pw n≤V) (htop:0<top) (hT:T<(hi+1)*pw n) (hT0:0≤T) (hVp:0<V):T/V≤hi/top:=by
 have h1:T/V*V≤T:=Int.ediv_mul_le _ (by omega)
 have h0:0≤T/V:=uh hT0 (by omega)
 generalize T/V=q at*
 have h2:q*(top*pw n)≤q*V:=mY hV h0
 have hp:=cX n
 have h3:q*top*pw n<(hi+1)*pw n:=by grind
 have h4:q*top<hi+1:=Int.lt_of_mul_lt_mul_right h3 (by omega)
 exact(Int.le_ediv_iff_mul_le htop).2 (by omega)
structure HInv (rs:List Int) (n:Nat) (H:Int):Prop where
 h0:0≤H
 h1:H≤999999999999999999
 h:val rs<(H+1)*pw (n-1)
theorem T1 (hL:Lim rs) (hn:1≤n) (hl:rs.length=n+1):HInv rs n (rs.getD n 0*1000000000+rs.getD (n-1) 0):=by
 have g1:=di hL n
 have g2:=di hL (n-1)
 refine⟨by omega,by omega,?_⟩
 obtain⟨k,rfl⟩: ∃k,n=k+1:=⟨n-1,by omega⟩
 have e1:=nK (xs:=rs) (k:=k+1) (by omega)
 have e2:=nK (xs:=rs) (k:=k) (by omega)
 rw[db (by omega),e2] at e1
 have h1:=fC (hL.take k)
 rw[e1,d5]
 grind
theorem TC (hL:Lim rs) (hn:1≤n) (hl:rs.length=n):HInv rs n (rs.getD (n-1) 0):=by
 have g2:=di hL (n-1)
 refine⟨by omega,by omega,?_⟩
 obtain⟨k,rfl⟩: ∃k,n=k+1:=⟨n-1,by omega⟩
 have e2:=nK (xs:=rs) (k:=k) (by omega)
 have h1:=fC (hL.take k)
 grind
theorem QX (hL:Lim rs) (hl:rs.length<n):HInv rs n 0:=by
 refine⟨by omega,by omega,?_⟩
 have h1:=fC hL
 have:=mK (n:=rs.length) (m:=n-1) (by omega)
 omega
theorem GS (hL:Lim vs) (hN:Nrm vs) (hne:vs≠ []):0<vs.getD (vs.length-1) 0∧vs.getD (vs.length-1) 0*pw (vs.length-1)≤val vs:=by
 obtain⟨ys,y,e,hy⟩:=hN.last hne
 have hl:vs.length=ys.length+1:=by grind
 have hk:vs.length-1<vs.length:=by omega
 have e1:=nK hk
 have h1:=cK (hL.take (vs.length-1))
 have h2:=di hL (vs.length-1)
 grind
theorem wi (h0:0≤r) (h:r<pw n):(du r.natAbs).length≤n:=by
 refine(jr _).len (b8 _) ?_
 rw[cz];omega
theorem Yk {s:Int}(hs:0<s):(x*s)/(y*s)=x/y∧(x*s)%(y*s)=x%y*s:=by
 refine⟨Int.mul_ediv_mul_of_pos_left x y hs,?_⟩
 rw[sG x,sG y,Int.mul_emod_mul_of_pos _ _ hs,sG]
theorem FN (h:Sz k a):Sz k (a.natAbs:Int):=h.of_le (by omega)
theorem qK (ha:Sz 100000000 a) (hb:Sz 100000000 b):Ok Tryz.prog 169 [.c (cL a),.c (cL b)] [.c (.i .i64 (eG a.natAbs b.natAbs))]:=by
 have:=Gw (b8 a.natAbs) (b8 b.natAbs) (jr _) (jr _) (ii ha) (ii hb)
 rw[cz,cz] at this
 exact this
theorem Te (ha:Sz 100000000 a) (hb:Sz 100000000 b):Ok Tryz.prog 289 [.c (cL a),.c (cL b)] [.c (cL ((a.natAbs:Int)+b.natAbs))]:=by
 have:=Ql (b8 a.natAbs) (b8 b.natAbs) (ii ha) (ii hb)
 rw[cz,cz] at this
 exact this
theorem yO (ha:Sz 100000000 a) (h:b.natAbs≤a.natAbs):Ok Tryz.prog 283 [.c (cL a),.c (cL b)] [.c (cL ((a.natAbs:Int)-b.natAbs))]:=by
 have:=Mf (b8 a.natAbs) (b8 b.natAbs) (ii ha) ((jr _).len (b8 _) (by have:=fC (b8 a.natAbs);rw[cz] at this⊢;omega)) (by rw[cz,cz];omega)
 rw[cz,cz] at this
 exact this
theorem NM (ha:Sz 100000000 a) (hb:Sz 100000000 b):Ok Tryz.prog 199 [.c (cL a),.c (cL b)] [.c (cL ((a.natAbs:Int)*b.natAbs))]:=by
 have:=DX (b8 a.natAbs) (b8 b.natAbs) (ii ha) (ii hb)
 rw[cz,cz] at this
 exact this
theorem aah (ha:Sz 100000000 a) (h0:0≤m) (h1:m<1000000000):Ok Tryz.prog 282 [.c (cL a),.c (.i .u32 m)] [.c (cL ((a.natAbs:Int)*m))]:=by
 have:=JP (b8 a.natAbs) (ii ha) h0 h1
 rw[cz] at this
 exact this
theorem i8 {neg:Bool}(ha:Sz 100000000 a):Ok Tryz.prog 159 [.c (.b neg),.c (cL a)] [dI (sg neg (a.natAbs:Int))]:=by
 have:=JL (neg:=neg) (b8 a.natAbs) (by have:=ii ha;omega)
 rw[cz] at this
 exact this
theorem Ov (hr:0≤r) (h0:0≤d) (h1:d<1000000000) (hl:(du r.natAbs).length≤100000000):Ok Tryz.prog 168 [.c (cM (d::du r.natAbs))] [.c (cL (d+1000000000*r))]:=by
 have:=lu (Lim.cons h0 h1 (b8 r.natAbs)) (by simp;omega)
 rw[ef,cz] at this
 rw[show((r.natAbs:Nat):Int)=r from by omega] at this
 exact this
theorem GJ (ha:a.natAbs≤18446744073709551615):Ok Tryz.prog 171 [.c (cL a)] [.c (.i .u64 (a.natAbs:Int))]:=by
 have:=Ar (b8 a.natAbs) (by have h3:pw 3=1000000000000000000000000000:=by decide
                            have:=(jr a.natAbs).len (b8 _) (k:=3) (by rw[cz];omega)
                            omega) (by rw[cz];omega)
 rw[cz] at this
 exact this
theorem Mc (hLxs:Lim xs) (hLys:Lim ys) (_nX:Nrm xs) (nY:Nrm ys) (hn:xs.length≤20000000) (hm:ys.length≤20000000) (hy0:ys≠ []):Ok Tryz.prog 170 [.c (cM xs),.c (cM ys)] [.c (cL (val xs/val ys)),.c (cL (val xs%val ys))]:=by
 have hyl:1≤ys.length:=by have:=List.length_pos_iff.2 hy0;omega
 obtain⟨htop,htopv⟩:=GS hLys nY hy0
 have hB1:=di hLys (ys.length-1)
 have hvy0:0<val ys:=by have h2:=mY (cX (ys.length-1)) (show 0≤ys.getD (ys.length-1) 0 by omega);omega
 have hvx0:=cK hLxs
 obtain⟨B,hB⟩: ∃B,ys.getD (ys.length-1) 0=B:=⟨_,rfl⟩
 rw[hB] at htop hB1 htopv
 obtain⟨s,hs⟩: ∃s,1000000000/(B+1)=s:=⟨_,rfl⟩
 have hs1:1≤s:=by rw[←hs];exact(Int.le_ediv_iff_mul_le (by omega)).2 (by omega)
 have hs2:s≤500000000:=by rw[←hs];exact Int.ediv_le_of_le_mul (by omega) (by omega)
 obtain⟨V,hV⟩: ∃V,val ys*s=V:=⟨_,rfl⟩
 obtain⟨W,hW⟩: ∃W,val xs*s=W:=⟨_,rfl⟩
 have hV0:0<V:=by rw[←hV];exact qP hvy0 (by omega)
 have hW0:0≤W:=by rw[←hW];exact f5 hvx0 (by omega)
 have eV:(V.natAbs:Int)=V:=by omega
 have eW:(W.natAbs:Int)=W:=by omega
 have hVb:V<pw (ys.length+1):=by
  have h1:=fC hLys
  have h2:val ys*s≤val ys*1000000000:=mY (by omega) (by omega)
  rw[d5];omega
 have hWb:W<pw (xs.length+1):=by
  have h1:=fC hLxs
  have h2:val xs*s≤val xs*1000000000:=mY (by omega) (by omega)
  rw[d5];omega
 have hVlen:(du V.natAbs).length≤ys.length+1:=wi (by omega) hVb
 have hWlen:(du W.natAbs).length≤xs.length+1:=wi hW0 hWb
 have hVne:du V.natAbs≠ []:=fun e=>by have:=eg.1 e;omega
 have hVl1:1≤(du V.natAbs).length:=by have:=List.length_pos_iff.2 hVne;omega
 obtain⟨htop2,htopv2⟩:=GS (b8 V.natAbs) (jr _) hVne
 have hB2:=di (b8 V.natAbs) ((du V.natAbs).length-1)
 rw[cz,eV] at htopv2
 obtain⟨top,ht⟩: ∃top,(du V.natAbs).getD ((du V.natAbs).length-1) 0=top:=⟨_,rfl⟩
 rw[ht] at htop2 htopv2 hB2
 obtain⟨n,hnl⟩: ∃n,(du V.natAbs).length=n:=⟨_,rfl⟩
 rw[hnl] at hVlen hVl1 htopv2 ht
 have hVlt:V<pw n:=by have:=fC (b8 V.natAbs);rw[cz,eV,hnl] at this;exact this
 obtain⟨hq1,hq2⟩:=Yk (x:=val xs) (y:=val ys) (s:=s) (by omega)
 rw[hV,hW] at hq1 hq2
 have szV:Sz 100000000 V:=⟨by have:=mK (n:=ys.length+1) (m:=100000000) (by omega);omega,by have:=cX 100000000;omega⟩
 have hby1:Ok Tryz.prog 282 [.c (cM ys),.c (.i .u32 s)] [.c (cL V)]:=by rw[←hV];exact JP hLys (by omega) (by omega) (by omega)
 have hby2:Ok Tryz.prog 282 [.c (cM xs),.c (.i .u32 s)] [.c (cL W)]:=by rw[←hW];exact JP hLxs (by omega) (by omega) (by omega)
 have hbyV: ∀g:Int,0≤g→g<1000000000→Ok Tryz.prog 282 [.c (cL V),.c (.i .u32 g)] [.c (cL (V*g))]:=fun g h0 h1=>by have:=aah szV h0 h1;rw[eV] at this;exact this
 refine eH Tryz.func170 173 [.tmp 4,.tmp 5] rfl<|aa<|ag ?_
 refine n8 (ι:=Unit) (fun i=>⟨173,[(0,.v (.c (cM xs))),(1,.v (.c (cM ys)))],[]⟩) ?_ ?_
 ·refine aa<|ag ?_
  refine jT (bz rfl) (fun c1 hb1=>?_)
  cases c1
  ·refine a8 rfl<|aA ?_
   exact⟨(),ao ⟨rfl,rfl,trivial⟩ trivial rfl⟩
  ·have ha2:xs.length≤2:=by simp only[decide_eq_true_eq] at hb1;omega
   refine aI rfl (fun hc2=>?_) (fun hc2=>?_)
   ·have hb2:ys.length≤2:=by simp only[decide_eq_true_eq] at hc2;omega
    have hp2:pw 2=1000000000000000000:=by decide
    have hvx2:=fC hLxs
    have hvy2:=fC hLys
    have hp3:=mK (n:=xs.length) (m:=2) ha2
    have hp4:=mK (n:=ys.length) (m:=2) hb2
    have hd0:0≤val xs/val ys:=uh (by omega) (by omega)
    have hd1:val xs/val ys≤val xs:=Int.ediv_le_self _ (by omega)
    have hd2:val xs/val ys≤18446744073709551615:=by omega
    have hm0:0≤val xs%val ys:=pu _ (by omega)
    have hm1:val xs%val ys<val ys:=og _ (by omega)
    have hm2:val xs%val ys≤18446744073709551615:=by omega
    refine aa<|ag<|ac rfl (Ar hLxs (by omega) (by omega))<|ac rfl (Ar hLys (by omega) (by omega))<|aa<|dJ 10 []<|aq (kJ (r:=val xs/val ys) rfl rfl (by omega) (by rw[pd (by omega)];exact iB (by omega) (by omega)) rfl) ?_
    refine aK rfl (sv (by assumption) (by assumption))<|aq (gn (r:=val xs%val ys) rfl rfl (by omega) (qv hvx0) rfl) ?_
    refine aK rfl (sv (by assumption) (by assumption))<|aZ ?_
    exact ah (az (az ae))
   ·refine aA ?_
    exact⟨(),ao ⟨rfl,rfl,trivial⟩ trivial rfl⟩
 ·rintro⟨⟩
  try dsimp only
  refine aa<|ag ?_
  refine ar (ci (((ys.length-1:Nat):Int)) (by rw[show((ys.length-1:Nat):Int)=(ys.length:Int)-1 from by omega];exact bO (by omega) (by omega)) rfl) ?_
  refine ar (bH ju rfl rfl (by(first|omega|(simp;omega))) (jx _) rfl rfl) ?_
  refine ar (b5 fF rfl (lk (i:=(ys.length-1)) (by(first|omega|(simp;omega)))) rfl) ?_
  refine ar (b6 (r:=B) jH fM rfl (by rw[hB];exact iB (by omega) (by omega)) rfl) ?_
  refine ar (ci (B+1) (fW (by(first|omega|(simp;omega))) (by(first|omega|(simp;omega)))) rfl) ?_
  refine ar (kJ (r:=s) rfl rfl (by omega) (by rw[pd (by omega),hs];exact iB (by omega) (by omega)) rfl) ?_
  refine ar (b6 (r:=s) fM jH rfl (se (by omega) (by omega)) rfl) ?_
  refine aa<|ag<|ac rfl (hby1)<|aa<|ag ?_
  refine ar (ci (((n-1:Nat):Int)) (by rw[hnl,show((n-1:Nat):Int)=(n:Int)-1 from by omega];exact bO (by omega) (by omega)) rfl) ?_
  refine ar (bH ju rfl rfl (by(first|omega|(simp;omega))) (jx _) rfl rfl) ?_
  refine ar (b5 fF rfl (lk (i:=(n-1)) (by(first|omega|(simp;omega)))) rfl) ?_
  refine ar (b6 (r:=top) jH fM rfl (by rw[ht];exact iB (by omega) (by omega)) rfl) ?_
  refine aa<|ag<|aa<|ag ?_
  refine ar (ci ((xs.length:Int)+1) (bk (by(first|omega|(simp;omega))) (by(first|omega|(simp;omega)))) rfl) ?_
  refine DL.mk<|pi (ko (n:=xs.length+1) xR rfl rfl (by omega) (by omega) rfl) rfl<|dX ?_
  refine aa<|ag<|ac rfl (hby2)<|aa<|ag ?_
  refine ar (oc (q:=((du W.natAbs).length)) ju rfl rfl (by(first|omega|(simp;omega))) rfl) ?_
  refine aa<|aa<|ag ?_
  refine ar (ci ((((du W.natAbs).length:Int))-1) (bO (by(first|omega|(simp;omega))) (by(first|omega|(simp;omega)))) rfl) ?_
  refine aB<|bh (ι:={t:Nat×Int×List Int // DInv (du W.natAbs) V (xs.length+1) t.1 t.2.1 t.2.2}) (fun i=>⟨173,[(8,.v (.c (.i .u32 s))),(9,.v (.c (cL V))),(10,.v (.c (.i .u64 top))),(11,.v (.c (cL i.1.2.1))),(12,.o 64 ((du W.natAbs).length) (xs.length+1)),(13,.v (.c (cL W))),(14,.v (.c (.i .i64 ((i.1.1:Int)-1))))],[(64,194,i.1.2.2.map (CellD.i .u32))]⟩) (fun i=>i.1.1) ⟨((du W.natAbs).length,0,List.replicate (xs.length+1) 0),DInv.start hV0 hWlen⟩ (ao ⟨rfl,rfl,rfl,by rw[show cL 0=.s 0 [] from by unfold cL;rw[show(0:Int).natAbs=0 from rfl,lU];rfl];rfl,rfl,rfl,rfl,trivial⟩ ⟨by rw[show(List.replicate (xs.length+1) (CellD.i .u32 0))=(List.replicate (xs.length+1) 0).map (CellD.i .u32) from by simp];rfl,trivial⟩ rfl) ?_
  rintro⟨⟨j,R,zs⟩,hI⟩
  replace hI:DInv (du W.natAbs) V (xs.length+1) j R zs:=hI
  have g6:=hI.len
  have gR0:=hI.R0
  have gRV:=hI.RV
  have gle:=hI.le
  have eR:(R.natAbs:Int)=R:=by omega
  have hRlen:(du R.natAbs).length≤n:=wi gR0 (by omega)
  dsimp only
  refine aa<|aa<|ag ?_
  refine aI rfl (fun hc3=>?_) (fun hc3=>?_)
  ·obtain⟨q,rfl⟩: ∃q,j=q+1:=⟨j-1,by simp only[decide_eq_true_eq] at hc3;omega⟩
   have gd:=di (b8 W.natAbs) q
   obtain⟨T,hT⟩: ∃T,(du W.natAbs).getD q 0+1000000000*R=T:=⟨_,rfl⟩
   have hT0:0≤T:=by omega
   have eT:(T.natAbs:Int)=T:=by omega
   have htrim:Ok Tryz.prog 168 [.c (cM ((du W.natAbs).getD q 0::du R.natAbs))] [.c (cL T)]:=by rw[←hT];exact Ov gR0 gd.1 gd.2 (by omega)
   have hTb:T<pw (n+1):=by rw[d5];omega
   have hTlen:(du T.natAbs).length≤n+1:=wi hT0 hTb
   have szT:Sz 100000000 T:=⟨by have:=mK (n:=n+1) (m:=100000000) (by omega);omega,by have:=cX 100000000;omega⟩
   have hquo:=DH gR0 gRV gd.1 gd.2
   rw[hT] at hquo
   have gt1:=di (b8 T.natAbs) (du V.natAbs).length
   have gt2:=di (b8 T.natAbs) (n-1)
   refine lj (σ':=⟨173,[(8,.v (.c (.i .u32 s))),(9,.v (.c (cL V))),(10,.v (.c (.i .u64 top))),(11,.v (.c (cL R))),(12,.o 64 ((du W.natAbs).length) (xs.length+1)),(13,.v (.c (cL W))),(14,.v (.c (.i .i64 (q:Int))))],[(64,194,zs.map (CellD.i .u32))]⟩) (ao ⟨rfl,rfl,rfl,rfl,rfl,rfl,by rw[show(q:Int)=((q+1:Nat):Int)-1 from by omega];rfl,trivial⟩ ⟨rfl,trivial⟩ rfl) ?_
   refine aA<|aa<|aB<|aa<|ag ?_
   refine ar (bH ju rfl rfl (by(first|omega|(simp;omega))) (jx _) rfl rfl) ?_
   refine ar (b5 fF rfl (lk (i:=q) (by(first|omega|(simp;omega)))) rfl) ?_
   refine DL.mk<|pi (oD (us:=[.i .u32 ((du W.natAbs).getD q 0)]) xR rfl rfl (by decide) (by decide) rfl) rfl<|dX ?_
   refine DL.mk<|XK (Dx (rs:=du R.natAbs) xR rfl rfl rfl (by omega) rfl)<|dX ?_
   refine ac rfl (htrim)<|aa<|ag ?_
   refine n8 (ι:={H:Int // H=if n<(du T.natAbs).length then(du T.natAbs).getD n 0*1000000000 else 0}) (fun i=>⟨173,[(8,.v (.c (.i .u32 s))),(9,.v (.c (cL V))),(10,.v (.c (.i .u64 top))),(11,.v (.c (cL T))),(12,.o 64 ((du W.natAbs).length) (xs.length+1)),(13,.v (.c (cL W))),(14,.v (.c (.i .i64 (q:Int)))),(15,.v (.c (.i .u64 i.1)))],[(64,194,zs.map (CellD.i .u32))]⟩) ?_ ?_
   ·refine aa<|ag ?_
    refine aI rfl (fun hc4=>?_) (fun hc4=>?_)
    ·have hlt:(du V.natAbs).length<(du T.natAbs).length:=by simp only[decide_eq_true_eq] at hc4;omega
     refine ag ?_
     refine ar (bH ju rfl rfl (by(first|omega|(simp;omega))) (jx _) rfl rfl) ?_
     refine ar (b5 fF rfl (lk (i:=((du V.natAbs).length)) (by(first|omega|(simp;omega)))) rfl) ?_
     refine ar (b6 (r:=(du T.natAbs).getD (((du V.natAbs).length)) 0) jH fM rfl (iB (by(first|omega|(simp;omega))) (by(first|omega|(simp;omega)))) rfl) ?_
     refine ar (ci (((du T.natAbs).getD (((du V.natAbs).length)) 0)*1000000000) (iA (by(first|omega|(simp;omega))) (by(first|omega|(simp;omega)))) rfl) ?_
     exact⟨⟨(du T.natAbs).getD (du V.natAbs).length 0*1000000000,by rw[hnl] at*;rw[if_pos (by have:=hc4;simp only[decide_eq_true_eq] at this;omega)]⟩,ao ⟨rfl,rfl,rfl,rfl,rfl,rfl,rfl,rfl,trivial⟩ ⟨rfl,trivial⟩ rfl⟩
    ·refine aA ?_
     exact⟨⟨0,by rw[if_neg (by have:=hc4;simp only[decide_eq_false_iff_not] at this;omega)]⟩,ao ⟨rfl,rfl,rfl,rfl,rfl,rfl,rfl,rfl,trivial⟩ ⟨rfl,trivial⟩ rfl⟩
   ·rintro⟨H1,hH1⟩
    replace hH1:H1=if n<(du T.natAbs).length then(du T.natAbs).getD n 0*1000000000 else 0:=hH1
    rw[hnl] at gt1
    have hHb:0≤H1∧H1≤999999999000000000:=by rw[hH1];split<;>omega
    dsimp only
    refine n8 (ι:={H:Int // HInv (du T.natAbs) n H}) (fun i=>⟨173,[(8,.v (.c (.i .u32 s))),(9,.v (.c (cL V))),(10,.v (.c (.i .u64 top))),(11,.v (.c (cL T))),(12,.o 64 ((du W.natAbs).length) (xs.length+1)),(13,.v (.c (cL W))),(14,.v (.c (.i .i64 (q:Int)))),(15,.v (.c (.i .u64 i.1)))],[(64,194,zs.map (CellD.i .u32))]⟩) ?_ ?_
    ·refine aa<|ag ?_
     refine aI rfl (fun hc5=>?_) (fun hc5=>?_)
     ·have hlt:n≤(du T.natAbs).length:=by simp only[decide_eq_true_eq] at hc5;omega
      have hHT:HInv (du T.natAbs) n (H1+(du T.natAbs).getD (n-1) 0):=by
       rcases io n (du T.natAbs).length with h1|h1
       ·rw[hH1,if_pos h1];exact T1 (b8 _) (by omega) (by omega)
       ·rw[hH1,if_neg (by omega),Int.zero_add];exact TC (b8 _) (by omega) (by omega)
      refine ag ?_
      refine ar (ci (((n-1:Nat):Int)) (by rw[hnl,show((n-1:Nat):Int)=(n:Int)-1 from by omega];exact bO (by omega) (by omega)) rfl) ?_
      refine ar (bH ju rfl rfl (by(first|omega|(simp;omega))) (jx _) rfl rfl) ?_
      refine ar (b5 fF rfl (lk (i:=(n-1)) (by(first|omega|(simp;omega)))) rfl) ?_
      refine ar (b6 (r:=(du T.natAbs).getD (n-1) 0) jH fM rfl (iB (by(first|omega|(simp;omega))) (by(first|omega|(simp;omega)))) rfl) ?_
      refine ar (ci (H1+((du T.natAbs).getD (n-1) 0)) (fW (by(first|omega|(simp;omega))) (by(first|omega|(simp;omega)))) rfl) ?_
      exact⟨⟨H1+(du T.natAbs).getD (n-1) 0,hHT⟩,ao ⟨rfl,rfl,rfl,rfl,rfl,rfl,rfl,rfl,trivial⟩ ⟨rfl,trivial⟩ rfl⟩
     ·have hHF:HInv (du T.natAbs) n H1:=by
       simp only[decide_eq_false_iff_not] at hc5
       rw[hH1,if_neg (by omega)];exact QX (b8 _) (by omega)
      refine aA ?_
      exact⟨⟨H1,hHF⟩,ao ⟨rfl,rfl,rfl,rfl,rfl,rfl,rfl,rfl,trivial⟩ ⟨rfl,trivial⟩ rfl⟩
    ·rintro⟨H,hH⟩
     replace hH:HInv (du T.natAbs) n H:=hH
     have hHa:=hH.h0
     have hHc:=hH.h1
     have hHh:=hH.h
     rw[cz,eT] at hHh
     have hest:=X0 htopv2 htop2 hHh hT0 hV0
     have hq0:0≤H/top:=uh (by omega) (by omega)
     have hq9:H/top≤H:=Int.ediv_le_self _ (by omega)
     dsimp only
     refine aa<|ag<|ar (kJ (r:=H/top) rfl rfl (by omega) (by rw[pd (by omega)];exact iB (by omega) (by omega)) rfl) ?_
     refine n8 (ι:={g:Int // T/V≤g∧g≤999999999}) (fun i=>⟨173,[(8,.v (.c (.i .u32 s))),(9,.v (.c (cL V))),(10,.v (.c (.i .u64 top))),(11,.v (.c (cL T))),(12,.o 64 ((du W.natAbs).length) (xs.length+1)),(13,.v (.c (cL W))),(14,.v (.c (.i .i64 (q:Int)))),(16,.v (.c (.i .u64 i.1)))],[(64,194,zs.map (CellD.i .u32))]⟩) ?_ ?_
     ·refine aa<|ag ?_
      refine aI rfl (fun hc6=>?_) (fun hc6=>?_)
      ·refine ag ?_
       exact⟨⟨999999999,hquo.2,nH _⟩,ao ⟨rfl,rfl,rfl,rfl,rfl,rfl,rfl,rfl,trivial⟩ ⟨rfl,trivial⟩ rfl⟩
      ·refine aA ?_
       exact⟨⟨H/top,hest,by have:=hc6;simp only[decide_eq_false_iff_not] at this;omega⟩,ao ⟨rfl,rfl,rfl,rfl,rfl,rfl,rfl,rfl,trivial⟩ ⟨rfl,trivial⟩ rfl⟩
     ·rintro⟨g,hg⟩
      replace hg:T/V≤g∧g≤999999999:=hg
      dsimp only
      refine aa<|ag<|ar (b6 (r:=g) fM jH rfl (se (by omega) (by omega)) rfl) ?_
      refine ac rfl (hbyV g (by omega) (by omega))<|aa<|aB<|bh (ι:={g:Int // T/V≤g∧g≤999999999}) (fun i=>⟨173,[(8,.v (.c (.i .u32 s))),(9,.v (.c (cL V))),(10,.v (.c (.i .u64 top))),(11,.v (.c (cL T))),(12,.o 64 ((du W.natAbs).length) (xs.length+1)),(13,.v (.c (cL W))),(14,.v (.c (.i .i64 (q:Int)))),(16,.v (.c (.i .u64 i.1))),(17,.v (.c (cL (V*i.1))))],[(64,194,zs.map (CellD.i .u32))]⟩) (fun i=>i.1.toNat) ⟨g,hg⟩ (ao ⟨rfl,rfl,rfl,rfl,rfl,rfl,rfl,rfl,rfl,trivial⟩ ⟨rfl,trivial⟩ rfl) ?_
      rintro⟨g,hg⟩
      replace hg:T/V≤g∧g≤999999999:=hg
      have hVg0:0≤V*g:=f5 (by omega) (by omega)
      have eVg:((V*g).natAbs:Int)=V*g:=by omega
      have hVgb:V*g≤V*1000000000:=mY (by omega) (by omega)
      have szP:Sz 100000000 (V*g):=⟨by have:=mK (n:=n+1) (m:=100000000) (by omega);rw[d5] at this;omega,by have:=cX 100000000;omega⟩
      have hcmp:Ok Tryz.prog 169 [.c (cL (V*g)),.c (cL T)] [.c (.i .i64 (eG (V*g) T))]:=by have:=qK szP szT;rw[eVg,eT] at this;exact this
      dsimp only
      refine aa<|aa<|ag<|ac rfl (hcmp) ?_
      refine aI rfl (fun hc7=>?_) (fun hc7=>?_)
      ·have hgt:T<V*g:=by simp only[decide_eq_true_eq] at hc7;rcases rK (V*g) T with h1|h1|h1<;>first|(rw[fb h1] at hc7;omega)|(rw[kw h1] at hc7;omega)|exact h1
       have hg2:T/V≤g-1:=by have:T/V<g:=(Int.ediv_lt_iff_lt_mul hV0).2 (by rw[sG];exact hgt);omega
       have hVm:V*(g-1)=V*g-V:=by rw[Int.mul_sub,Int.mul_one]
       have hVm0:0≤V*(g-1):=f5 (by omega) (by omega)
       have hmin:Ok Tryz.prog 283 [.c (cL (V*g)),.c (cL V)] [.c (cL (V*(g-1)))]:=by have:=yO (b:=V) szP (by omega);rw[eVg,eV,←hVm] at this;exact this
       refine aA<|aB<|aa<|ag ?_
       refine ar (ci (g-1) (HT (by(first|omega|(simp;omega))) (by(first|omega|(simp;omega)))) rfl) ?_
       refine ag<|ac rfl (hmin) ?_
       exact⟨⟨g-1,hg2,by omega⟩,ao ⟨rfl,rfl,rfl,rfl,rfl,rfl,rfl,rfl,rfl,trivial⟩ ⟨rfl,trivial⟩ rfl,by show(g-1).toNat<g.toNat;omega⟩
      ·have hle:V*g≤T:=by simp only[decide_eq_false_iff_not] at hc7;rcases rK (V*g) T with h1|h1|h1<;>first|omega|(rw[fk h1] at hc7;omega)
       have hgq:g=T/V:=by have:g≤T/V:=(Int.le_ediv_iff_mul_le hV0).2 (by rw[sG];exact hle);omega
       have hr0:0≤T-V*g:=by omega
       have hr1:T-V*g<V:=by have:=og T hV0;have h2:=rL T V;rw[←hgq] at h2;omega
       have hmin:Ok Tryz.prog 283 [.c (cL T),.c (cL (V*g))] [.c (cL (T-V*g))]:=by have:=yO (b:=V*g) szT (by omega);rw[eVg,eT] at this;exact this
       refine a7<|aa<|ag<|ac rfl (hmin)<|bg<|bK 3<|aR (b6 (r:=g) fM jH rfl (se (by omega) (by omega)) rfl) ?_
       refine aR (bq ju rfl rfl (by(first|omega|(simp;omega))) rfl) ?_
       refine f8 (bd (us:=(zs.set q g).map (CellD.i .u32)) fF rfl rfl rfl rfl (by simp;omega) (ri (by(first|omega|(simp;omega)))) rfl) ?_
       refine ba<|ag ?_
       refine ar (ci ((q:Int)-1) (bO (by(first|omega|(simp;omega))) (by(first|omega|(simp;omega)))) rfl) ?_
       exact⟨⟨(q,T-V*g,zs.set q g),hI.step (b8 _) (by omega) (by omega) hr0 hr1 (by rw[hT];show T=g*V+(T-V*g);rw[sG g V];omega)⟩,ao ⟨rfl,rfl,rfl,rfl,rfl,rfl,rfl,trivial⟩ ⟨rfl,trivial⟩ rfl,by show q<q+1;omega⟩
  ·have hj0:j=0:=by simp only[decide_eq_false_iff_not] at hc3;omega
   subst hj0
   obtain⟨d1,d2⟩:=hI.done
   rw[cz,eW] at d1 d2
   refine a7<|aa<|ag<|aa<|ag ?_
   refine DL.mk<|pi (ko (n:=((du R.natAbs).length)) xR rfl rfl (by omega) (by omega) rfl) rfl<|dX ?_
   refine aa<|aa<|ag ?_
   refine ar (ci ((((du R.natAbs).length:Int))-1) (bO (by(first|omega|(simp;omega))) (by(first|omega|(simp;omega)))) rfl) ?_
   refine aB<|bh (ι:={t:Nat×Int×List Int // DInv (du R.natAbs) s (du R.natAbs).length t.1 t.2.1 t.2.2}) (fun i=>⟨173,[(8,.v (.c (.i .u32 s))),(11,.v (.c (cL R))),(12,.o 64 ((du W.natAbs).length) (xs.length+1)),(18,.v (.c (.i .u64 i.1.2.1))),(19,.o 141 ((du R.natAbs).length) ((du R.natAbs).length)),(20,.v (.c (.i .i64 ((i.1.1:Int)-1))))],[(64,194,zs.map (CellD.i .u32)),(141,194,i.1.2.2.map (CellD.i .u32))]⟩) (fun i=>i.1.1) ⟨((du R.natAbs).length,0,List.replicate (du R.natAbs).length 0),DInv.start (by omega) (ce _)⟩ (ao ⟨rfl,rfl,rfl,rfl,rfl,rfl,trivial⟩ ⟨rfl,by rw[show(List.replicate (du R.natAbs).length (CellD.i .u32 0))=(List.replicate (du R.natAbs).length 0).map (CellD.i .u32) from by simp];rfl,trivial⟩ rfl) ?_
   rintro⟨⟨j2,c,ls⟩,hI2⟩
   replace hI2:DInv (du R.natAbs) s (du R.natAbs).length j2 c ls:=hI2
   have k6:=hI2.len
   have k0:=hI2.R0
   have k1:=hI2.RV
   have kle:=hI2.le
   dsimp only
   refine aa<|aa<|ag ?_
   refine aI rfl (fun hc8=>?_) (fun hc8=>?_)
   ·obtain⟨q2,rfl⟩: ∃q,j2=q+1:=⟨j2-1,by simp only[decide_eq_true_eq] at hc8;omega⟩
    have gd:=di (b8 R.natAbs) q2
    have hb0:=DH k0 k1 gd.1 gd.2
    rw[show(du R.natAbs).getD q2 0+1000000000*c=c*1000000000+(du R.natAbs).getD q2 0 from by omega] at hb0
    have hd20:0≤(c*1000000000+(du R.natAbs).getD q2 0)/s:=hb0.1
    have hd21:(c*1000000000+(du R.natAbs).getD q2 0)/s<1000000000:=by omega
    have hr20:0≤(c*1000000000+(du R.natAbs).getD q2 0)%s:=pu _ (by omega)
    have hr21:(c*1000000000+(du R.natAbs).getD q2 0)%s<s:=og _ (by omega)
    refine lj (σ':=⟨173,[(8,.v (.c (.i .u32 s))),(11,.v (.c (cL R))),(12,.o 64 ((du W.natAbs).length) (xs.length+1)),(18,.v (.c (.i .u64 c))),(19,.o 141 ((du R.natAbs).length) ((du R.natAbs).length)),(20,.v (.c (.i .i64 (q2:Int))))],[(64,194,zs.map (CellD.i .u32)),(141,194,ls.map (CellD.i .u32))]⟩) (ao ⟨rfl,rfl,rfl,rfl,rfl,by rw[show(q2:Int)=((q2+1:Nat):Int)-1 from by omega];rfl,trivial⟩ ⟨rfl,rfl,trivial⟩ rfl) ?_
    refine aA<|aa<|aB<|aa<|ag ?_
    refine ar (ci (c*1000000000) (iA (by(first|omega|(simp;omega))) (by(first|omega|(simp;omega)))) rfl) ?_
    refine ar (bH ju rfl rfl (by(first|omega|(simp;omega))) (jx _) rfl rfl) ?_
    refine ar (b5 fF rfl (lk (i:=q2) (by(first|omega|(simp;omega)))) rfl) ?_
    refine ar (b6 (r:=(du R.natAbs).getD q2 0) jH fM rfl (iB (by(first|omega|(simp;omega))) (by(first|omega|(simp;omega)))) rfl) ?_
    refine ar (ci ((c*1000000000)+((du R.natAbs).getD q2 0)) (fW (by(first|omega|(simp;omega))) (by(first|omega|(simp;omega)))) rfl) ?_
    refine aa<|bg<|bK 4 ?_
    refine aR (b6 (r:=s) jH fM rfl (iB (by(first|omega|(simp;omega))) (by(first|omega|(simp;omega)))) rfl) ?_
    refine aR (kJ (r:=(c*1000000000+(du R.natAbs).getD q2 0)/s) rfl rfl (by omega) (by rw[pd (by omega)];exact iB (by omega) (by omega)) rfl) ?_
    refine aR (b6 (r:=(c*1000000000+(du R.natAbs).getD q2 0)/s) fM jH rfl (se (by omega) (by omega)) rfl) ?_
    refine aR (bq ju rfl rfl (by(first|omega|(simp;omega))) rfl) ?_
    refine f8 (bd (us:=(ls.set q2 ((c*1000000000+(du R.natAbs).getD q2 0)/s)).map (CellD.i .u32)) fF rfl rfl rfl rfl (by simp;omega) (ri (by(first|omega|(simp;omega)))) rfl) ?_
    refine ba<|ag ?_
    refine ar (b6 (r:=s) jH fM rfl (iB (by(first|omega|(simp;omega))) (by(first|omega|(simp;omega)))) rfl) ?_
    refine ar (gn (r:=(c*1000000000+(du R.natAbs).getD q2 0)%s) rfl rfl (by omega) (qv (by omega)) rfl) ?_
    refine ag ?_
    refine ar (ci ((q2:Int)-1) (bO (by(first|omega|(simp;omega))) (by(first|omega|(simp;omega)))) rfl) ?_
    exact⟨⟨(q2,(c*1000000000+(du R.natAbs).getD q2 0)%s,ls.set q2 ((c*1000000000+(du R.natAbs).getD q2 0)/s)),hI2.step (b8 _) hd20 hd21 hr20 hr21 (by rw[sG ((c*1000000000+(du R.natAbs).getD q2 0)/s) s,rL];omega)⟩,ao ⟨rfl,rfl,rfl,rfl,rfl,rfl,trivial⟩ ⟨rfl,rfl,trivial⟩ rfl,by show q2<q2+1;omega⟩
   ·have hj0:j2=0:=by simp only[decide_eq_false_iff_not] at hc8;omega
    subst hj0
    obtain⟨d3,d4⟩:=hI2.done
    rw[cz,eR,ja (by omega)] at d3
    have f1:val xs/val ys=val (zs.take (du W.natAbs).length):=by rw[←hq1,d1]
    have f2:val xs%val ys=val ls:=by rw[←d3,←d2,hq2,Int.mul_ediv_cancel _ (by omega)]
    have hLo:Lim (zs.take (du W.natAbs).length):=hI.L.take _
    have hLl:=hI2.L
    refine a7<|aa ?_
    refine we (t:=12) (zs:=zs) (ys:=zs.take ((du W.natAbs).length)) rfl rfl (by first|omega|(simp;omega)|simp) (by omega) (by omega) (rfl) ?_
    refine we (t:=19) (zs:=ls) (ys:=ls) rfl rfl (by first|omega|(simp;omega)|simp) (by omega) (by omega) (ja (by first|omega|(simp;omega)|simp)) ?_
    refine ag<|ac rfl (lu hLo (by simp<;>omega))<|ac rfl (lu hLl (by omega))<|aZ ?_
    rw[f1,f2]
    exact ah (az (az ae))
theorem Qk (x:Int):cL x=cL ((x.natAbs:Nat):Int):=rfl
theorem Ck (ha:Sz 20000000 a) (hb:Sz 20000000 b) (h0:b≠0):Ok Tryz.prog 170 [.c (cL a),.c (cL b)] [.c (cL ((a.natAbs:Int)/b.natAbs)),.c (cL ((a.natAbs:Int)%b.natAbs))]:=by
 have:=Mc (b8 a.natAbs) (b8 b.natAbs) (jr _) (jr _) (ii ha) (ii hb) (fun e=>by have:=eg.1 e;omega)
 rw[cz,cz] at this
 exact this
theorem SY (h:(decide (x<0)==decide (y<0))=true):sg (decide (x<0)) ((((x.natAbs:Int)+y.natAbs).natAbs:Nat):Int)=x+y:=by
 by_cases h1:x<0<;>by_cases h2:y<0<;>simp[h1,h2,sg] at h⊢ <;>omega
theorem aab (h:(decide (x<0)==decide (y<0))=false) (hg:y.natAbs≤x.natAbs):sg (decide (x<0)) ((((x.natAbs:Int)-y.natAbs).natAbs:Nat):Int)=x+y:=by
 by_cases h1:x<0<;>by_cases h2:y<0<;>simp[h1,h2,sg] at h⊢ <;>omega
theorem aaY (h:(decide (x<0)==decide (y<0))=false) (hg:x.natAbs<y.natAbs):sg (decide (y<0)) ((((y.natAbs:Int)-x.natAbs).natAbs:Nat):Int)=x+y:=by
 by_cases h1:x<0<;>by_cases h2:y<0<;>simp[h1,h2,sg] at h⊢ <;>omega
theorem Xr:sg (!(decide (x<0)==decide (y<0))) ((((x.natAbs:Int)*y.natAbs).natAbs:Nat):Int)=x*y:=by
 by_cases h1:x<0<;>by_cases h2:y<0<;>simp only[h1,h2,sg,decide_true,decide_false,Bool.not_true,ui,beq_self_eq_true,Bool.false_eq_true,if_true,if_false,show(true==false)=false from rfl,show(false==true)=false from rfl]
 ·grind
 ·grind
 ·grind
 grind
theorem W1:sg (!decide (x<0)) ((x.natAbs:Nat):Int)= -x:=by
 by_cases h1:x<0<;>simp[h1,sg]<;>omega
theorem FM (h:decide (eG a b≥0)=true):b≤a:=by
 simp only[decide_eq_true_eq] at h
 rcases rK a b with h1|h1|h1
 ·rw[fb h1] at h;omega
 ·omega
 grind
theorem Fg (h:decide (eG a b≥0)=false):a<b:=by
 simp only[decide_eq_false_iff_not] at h
 rcases rK a b with h1|h1|h1
 ·omega
 ·rw[kw h1] at h;omega
 ·rw[fk h1] at h;omega
theorem E9 (hx:decide (x<0)=false) (hy: ¬(y<0)):eG x.natAbs y.natAbs=eG x y:=by grind
theorem FC (hx:decide (x<0)=true) (hy:y<0):eG y.natAbs x.natAbs=eG x y:=by
 simp only[decide_eq_true_eq] at hx
 rw[show(y.natAbs:Int)= -y from by omega,show(x.natAbs:Int)= -x from by omega,Hh]
theorem ZQ:sg (!(decide (x<0)==decide (y<0))) (((((x.natAbs:Int)/y.natAbs).natAbs:Nat)):Int)=q0 x y:=by
 unfold q0
 grind
theorem aae (_h0:y≠0):sg (decide (x<0)) (((((x.natAbs:Int)%y.natAbs).natAbs:Nat)):Int)=r0 x y:=by
 unfold r0
 grind
theorem LY:(x.natAbs:Int)%y.natAbs=0↔r0 x y=0:=by
 unfold r0
 generalize decide (x<0)=s
 cases s
 ·rw[cV]
 ·rw[gN];omega
theorem LR (_h0:y≠0) (h:(x.natAbs:Int)%y.natAbs≠0):(r0 x y<0↔x<0):=by
 unfold r0
 by_cases hx:x<0
 ·rw[show decide (x<0)=true from by simpa using hx,gN];omega
 ·rw[show decide (x<0)=false from by simpa using hx,cV];omega
structure RG (x y a c:Int):Prop where
 sa:Sz 20000000 a
 sc:Sz 20000000 c
 a0:0≤a
 c0:0≤c
 g:Int.gcd a c=Int.gcd x y
theorem RG.start (hx:Sz 20000000 x) (hy:Sz 20000000 y):RG x y (x.natAbs:Int) (y.natAbs:Int):=⟨hx.of_le (by omega),hy.of_le (by omega),by omega,by omega,rfl⟩
theorem RG.step (h:RG x y a c) (hc:c≠0):RG x y c ((a.natAbs:Int)%c.natAbs):=by
 have h1:=h.a0
 have h2:=h.c0
 have e1:(a.natAbs:Int)=a:=by omega
 have e2:(c.natAbs:Int)=c:=by omega
 rw[e1,e2]
 have h3:=pu a hc
 have h4:=og a (show 0<c by omega)
 exact⟨h.sc,h.sc.of_le (by omega),h2,h3,by rw[←h.g,Fm h1 h2]⟩
theorem RG.less (h:RG x y a c) (hc:c≠0):((a.natAbs:Int)%c.natAbs).toNat<c.toNat:=by
 have:=h.c0
 have:=MF (x:=a) hc
 omega
theorem RG.done (h:RG x y a c) (hc:c=0):(Int.gcd x y:Int)=sg false ((a.natAbs:Nat):Int):=by
 rw[←h.g,hc,cV];simp
theorem KO (h:decide (((du a.natAbs).length:Int)>2)=false):a.natAbs≤18446744073709551615:=by
 simp only[decide_eq_false_iff_not] at h
 have h1:=fC (b8 a.natAbs)
 rw[cz] at h1
 have h2:=mK (n:=(du a.natAbs).length) (m:=2) (by omega)
 have h3:pw 2=1000000000000000000:=by decide
 omega
theorem RG.word (h:RG x y a c) (ha:a.natAbs≤18446744073709551615) (hc:c.natAbs≤18446744073709551615):GInv2 x y (a.natAbs:Int) (c.natAbs:Int):=
 ⟨by omega,by omega,by omega,by omega,by rw[←h.g];rfl⟩
theorem GInv2.fin (h:GInv2 x y u v) (hv:v≤0):(Int.gcd x y:Int)=sg false ((u.natAbs:Nat):Int):=by
 rw[h.done hv,cV,cV];have:=h.u0;omega
theorem Sz.small3 (h0:0≤x) (h1:x≤18446744073709551615):Sz 100000000 x:=by
 have h3:pw 3=1000000000000000000000000000:=by decide
 have:Sz 3 x:=⟨by omega,by omega⟩
 exact this.mono (by decide)
theorem aaB (hx:Sz 20000000 x):Sz 100000000 ((x.natAbs:Int)/y.natAbs):=by
 have h1:(x.natAbs:Int)/(y.natAbs:Int)≤x.natAbs:=Int.ediv_le_self _ (by omega)
 have h2:0≤(x.natAbs:Int)/(y.natAbs:Int):=by grind
 exact(hx.mono (by decide)).of_le (by omega)
theorem aai (hy:Sz 20000000 y) (h0:y≠0):Sz 100000000 ((x.natAbs:Int)%y.natAbs):=by
 have:=MF (x:=x) h0
 exact(hy.mono (by decide)).of_le (by omega)
theorem Hq (hn:x<0) (h0: -9223372036854775808≤x):IntKind.u64.wrap x=x+18446744073709551616:=by unfold IntKind.wrap;simp[IntKind.bits,IntKind.signed];omega
theorem DA (hn:x<0) (h0: -9223372036854775808≤x):IntKind.u64.wrap (0-(x+18446744073709551616))= -x:=by unfold IntKind.wrap;simp[IntKind.bits,IntKind.signed];omega
theorem gl {P:Program}{ops:Array Oper}{T:TF}{B:BF}{x:Operand}{k:IntKind}
 (hx:cE T x=some (.v (.c (.i k m)))) (hr:k.wrap (0-m)=r) (hg:gd ops ⟨dst,.unOp .neg xt x,ty,pos,af,g⟩ T=some true):
 Sem P ops ⟨dst,.unOp .neg xt x,ty,pos,af,g⟩ T B (.r (.v (.c (.i k r)))):=by subst hr;exact Ue hx hg
theorem JI (h:Sz 100000000 ((x.natAbs:Int)/y.natAbs)):Ok Tryz.prog 159 [.c (.b (!(decide (x<0)==decide (y<0)))),.c (cL ((x.natAbs:Int)/y.natAbs))] [dI (q0 x y)]:=by
 rw[←ZQ];exact i8 h
theorem Js (h0:y≠0) (h:Sz 100000000 ((x.natAbs:Int)%y.natAbs)):Ok Tryz.prog 159 [.c (.b (decide (x<0))),.c (cL ((x.natAbs:Int)%y.natAbs))] [dI (r0 x y)]:=by
 rw[←aae h0];exact i8 h
theorem Rs (h:(decide (x<0)==decide (y<0))=true):(eG x.natAbs y.natAbs==0)=(x==y):=by
 have hs:x<0↔y<0:=by grind
 rcases rK (x.natAbs:Int) y.natAbs with h1|h1|h1
 ·rw[fb h1,show(x==y)=false from by simp only[beq_eq_false_iff_ne];omega];rfl
 ·rw[kw h1,show(x==y)=true from by simp only[beq_iff_eq];omega];rfl
 ·rw[fk h1,show(x==y)=false from by simp only[beq_eq_false_iff_ne];omega];rfl
def isq:Nat→Nat
 |0=>0
 |n+1=>if (isq n+1)*(isq n+1)≤n+1 then isq n+1 else isq n
theorem Ic (n:Nat):isq n*isq n≤n∧n<(isq n+1)*(isq n+1):=by
 induction n with
 |zero=>exact⟨by decide,by decide⟩
 |succ n ih=>
  unfold isq
  split
  ·grind
  grind
theorem Qp (ha:0≤a) (h:a≤b):a*a≤b*b:=rG h h ha (by omega)
theorem DU (hb:0≤b) (h:a*a<b*b):a<b:=by
 by_cases h1:a<b
 ·grind
 ·have:=Qp hb (show b≤a by omega);omega
def bV (x:Int):Int:=if x<0 then 0 else(isq x.toNat:Nat)
theorem eP (x:Int):0≤bV x:=by unfold bV;split<;>omega
theorem ro (h:0≤x):bV x*bV x≤x:=by
 unfold bV;rw[if_neg (by omega)]
 have:=(Ic x.toNat).1
 grind
theorem wx (h:0≤x):x<(bV x+1)*(bV x+1):=by
 unfold bV;rw[if_neg (by omega)]
 have:=(Ic x.toNat).2
 grind
theorem AN (h:0≤x) (hr:0≤r) (h1:r*r≤x) (h2:x<(r+1)*(r+1)):bV x=r:=by
 have a1:=ro h
 have a2:=wx h
 have a0:=eP x
 have:=DU (a:=r) (b:=bV x+1) (by omega) (by omega)
 have:=DU (a:=bV x) (b:=r+1) (by omega) (by omega)
 omega
theorem DN:bV 0=0:=by decide
theorem vY (h:x<0):bV x=0:=by unfold bV;rw[if_pos h]
theorem Rm:(bV x).natAbs≤x.natAbs:=by
 have h0:=eP x
 by_cases h:x<0
 ·rw[vY h];omega
 ·have h1:=ro (show 0≤x by omega)
  by_cases h2:bV x<1
  ·omega
  ·have:=mY (show 1≤bV x by omega) h0
   omega
theorem HK (a b:Int):4*(a*b)≤(a+b)*(a+b):=by
 have h:0≤(a-b)*(a-b):=by
  rcases Int.le_total 0 (a-b) with h|h
  ·exact f5 h h
  ·exact Int.mul_nonneg_of_nonpos_of_nonpos h h
 grind
theorem QD (hx:0<x) (hr:0<r) (_hup:x<(r+1)*(r+1)):
 0≤(r+x.fdiv r).fdiv 2∧x<((r+x.fdiv r).fdiv 2+1)*((r+x.fdiv r).fdiv 2+1)∧0<(r+x.fdiv r).fdiv 2∧0≤x.fdiv r∧x.fdiv r≤x:=by
 have hq0:0≤x/r:=uh (by omega) (by omega)
 have hq1:x/r≤x:=Int.ediv_le_self _ (by omega)
 have hq2:x<r*(x/r+1):=by have h1:=rL x r;have h2:=og x hr;rw[Int.mul_add];omega
 obtain⟨q,hq⟩: ∃q,x/r=q:=⟨_,rfl⟩
 obtain⟨n,hn⟩: ∃n,(r+q)/2=n:=⟨_,rfl⟩
 have h4:=HK r (q+1)
 have h5:(r+(q+1))*(r+(q+1))≤(2*(n+1))*(2*(n+1)):=Qp (by omega) (by omega)
 grind
theorem Hw (_hx:0<x) (hr:0<r) (h:r≤(r+x.fdiv r).fdiv 2):r*r≤x:=by
 rw[pv _ (by omega:(0:Int)≤r),pv _ (by omega:(0:Int)≤2)] at h
 have h1:=rL x r
 have h2:=pu x (show r≠0 by omega)
 have h3:r≤x/r:=by omega
 have:=mY h3 (show 0≤r by omega)
 omega
structure NInv (K:Nat) (x r:Int):Prop where
 r0:0<r
 sz:Sz K r
 up:x<(r+1)*(r+1)
theorem NInv.sum (h:NInv K x r) (hs:Sz K x) (hx:0<x):Sz K (x.fdiv r)∧Sz (K+1) (r+x.fdiv r)∧Sz (K+1) ((r+x.fdiv r).fdiv 2):=by
 obtain⟨h1,h2,h3,h4,h5⟩:=QD hx h.r0 h.up
 have h6:Sz K (x.fdiv r):=hs.of_le (by omega)
 have h7:=h.sz.add h6
 refine⟨h6,h7,h7.of_le ?_⟩
 grind
theorem NInv.next (h:NInv K x r) (hx:0<x) (hl:(r+x.fdiv r).fdiv 2<r):NInv K x ((r+x.fdiv r).fdiv 2):=by
 obtain⟨h1,h2,h3,h4,h5⟩:=QD hx h.r0 h.up
 exact⟨h3,h.sz.of_le (by omega),h2⟩
theorem NInv.done (h:NInv K x r) (hx:0<x) (hl:r≤(r+x.fdiv r).fdiv 2):bV x=r:=
 AN (by omega) (by have:=h.r0;omega) (Hw hx h.r0 hl) h.up
theorem yc:dI 0=.a ([.b false]++[.s 0 []]):=by unfold dI cI;rw[show cL 0=.s 0 [] from by unfold cL;rw[show(0:Int).natAbs=0 from rfl,lU];rfl];rfl
theorem abx (h:0≤v):([CellD.b false]++[cL v])=cI v:=by unfold cI;rw[show decide (v<0)=false from by simp;omega];rfl
theorem abb (_h0:0≤x) (h:x<pw n) (hk:n≤2*k):x<(pw k+1)*(pw k+1):=by
 have h1:=mK (n:=n) (m:=2*k) hk
 have h2:pw (2*k)=pw k*pw k:=by rw[show 2*k=k+k from by omega,qi]
 have h3:=cX k
 grind
theorem NInv.start (h0:0<x) (_hs:Sz K x) (hk:((du x.natAbs).length+1)/2=k) (hK:k<K):NInv K x (pw k):=by
 have hv:=fC (b8 x.natAbs)
 rw[cz] at hv
 refine⟨cX k,?_,abb (n:=(du x.natAbs).length) (by omega) (by omega) (by omega)⟩
 have h1:Sz (k+1) (pw k):=⟨by have:=cX k;rw[d5];omega,by have:=cX k;have:=cX (k+1);omega⟩
 exact h1.mono (by omega)
theorem WO (n:Nat):val (List.replicate n 0++[1])=pw n:=by
 induction n with
 |zero=>decide
 |succ n ih=>rw[List.replicate_succ,List.cons_append,ef,ih,d5];omega
theorem abr (n:Nat):cL (pw n)=cM (List.replicate n 0++[1]):=by
 have hL:Lim (List.replicate n 0++[1]):=(Lim.zeros n).append (Lim.nil.cons (by omega) (by omega))
 have hN:Nrm (List.replicate n 0++[1]):=by
  induction n with
  |zero=>exact C3 [] 1 (by decide)
  |succ n ih=>exact Gb (ih ((Lim.zeros n).append (Lim.nil.cons (by omega) (by omega)))) (by simp)
 rw[VF,←WO]
 have:=I6 hN hL
 rw[show(val (List.replicate n 0++[1])).natAbs=(val (List.replicate n 0++[1])).toNat from by have:=cK hL;omega,←this]
variable {P:Program}{ops:Array Oper}{T:TF}{B:BF}
theorem w9 {x y:Operand}{z:CellD}
 (hU:tR P U=some (e,1,4,[z])) (hx:cE T x=some (.o k n n)) (hy:cE T y=some (.v (.c (cM [1])))) (hb:B k=some (e,List.replicate n (CellD.i .u32 0))) (hl:n≤1000000000)
 (hg:gd ops ⟨dst,.call ⟨.builtin .append,#[x,y],#[U,U]⟩,ty,pos,af,g⟩ T=some true):
 Sem P ops ⟨dst,.call ⟨.builtin .append,#[x,y],#[U,U]⟩,ty,pos,af,g⟩ T B (.c k (.v (.c (cL (pw n))))):=by
 rw[abr]
 have:=yH (us:=(List.replicate n (0:Int)++[1]).map (CellD.i .u32)) hU hx hy hb (by simp) (jx _) (by omega) (by simp) (by omega) (by simp;omega) (by simp;unfold maxLen;omega) (by simp) hg
 rw[show n+[(1:Int)].length=(List.replicate n (0:Int)++[1]).length from by simp] at this
 exact this
theorem yn:eG a b=0↔a=b:=by
 rcases rK a b with h|h|h
 ·rw[fb h];constructor<;>intro h2<;>omega
 ·rw[kw h];constructor<;>intro h2<;>omega
 ·rw[fk h];constructor<;>intro h2<;>omega
theorem Dc:eG a b<0↔a<b:=by
 rcases rK a b with h|h|h
 ·rw[fb h];constructor<;>intro h2<;>omega
 ·rw[kw h];constructor<;>intro h2<;>omega
 ·rw[fk h];constructor<;>intro h2<;>omega
theorem BJ:0<eG a b↔b<a:=by
 rcases rK a b with h|h|h
 ·rw[fb h];constructor<;>intro h2<;>omega
 ·rw[kw h];constructor<;>intro h2<;>omega
 ·rw[fk h];constructor<;>intro h2<;>omega
theorem WY (h:decide (eG a b<0)=true):a<b:=Dc.1 (by simpa using h)
theorem Yn (h:decide (eG a b<0)=false): ¬a<b:=fun e=>by have:=Dc.2 e;simp at h;omega
theorem TO (h:(eG a b==0)=true):a=b:=yn.1 (by simpa using h)
theorem abW (h:(eG a b !=0)=true):a≠b:=fun e=>by have:=yn.2 e;simp at h;omega
theorem Zo (h:(eG a b !=0)=false):a=b:=yn.1 (by simpa using h)
theorem ab8 (h:decide (eG a b>0)=true):b<a:=BJ.1 (by simpa using h)
theorem acy (h:decide (eG a b>0)=false): ¬b<a:=fun e=>by have:=BJ.2 e;simp at h;omega
structure Rz (k:Nat) (x:Rat):Prop where
 n:Sz k x.num
 d:Sz k (x.den:Int)
theorem Sz.addm (h:Sz k x) (h':Sz l y):Sz (max k l+1) (x+y):=(h.mono (Nat.le_max_left k l)).add (h'.mono (Nat.le_max_right k l))
theorem Sz.gcd (h':Sz l y) (h0:y≠0):Sz l ((Int.gcd x y:Nat):Int):=h'.of_le (by
 have:Int.gcd x y≤y.natAbs:=Nat.le_of_dvd (by omega) (Nat.gcd_dvd_right ..)
 rw[xS];exact this)
theorem Rz.mono {x:Rat}(h:Rz k x) (hl:k≤l):Rz l x:=⟨h.n.mono hl,h.d.mono hl⟩
theorem Rz.m_ {x:Rat}(h:Rz k x) (hl:k≤l:=by decide):Rz l x:=h.mono hl
theorem aQ {x:Rat}(h:Rz k x) (hl:k≤l:=by decide):Rz l x:=h.mono hl
theorem Ix {x:Rat}(h:Rz l x:=by first|assumption|exact Rz.mono (by assumption) (by decide)):Rz l x:=h
theorem den_pos (x:Rat):(0:Int)<(x.den:Int):=by have:=x.den_pos;omega
theorem jL (x:Rat):(x.den:Int)≠0:=by have:=den_pos x;omega
theorem rJ (a b:Int):(a/b).natAbs≤a.natAbs:=Int.natAbs_ediv_le_natAbs a b
theorem Rz.of {n:Int}(hn:Sz k n) (hd:Sz k d) (h0:d≠0):Rz k (Rat.divInt n d):=by
 refine⟨hn.of_le ?_,hd.of_le ?_⟩
 ·rw[Rat.num_divInt]
  refine iK (rJ _ _) ?_
  grind
 ·rw[Rat.den_divInt,if_neg h0]
  exact Nat.div_le_self d.natAbs (Int.gcd d n)
theorem O3 {x y:Rat}:Rat.divInt (x.num*(y.den:Int)+y.num*(x.den:Int)) ((x.den:Int)*(y.den:Int))=x+y:=by
 rw[Rat.add_def',←Int.natCast_mul,Rat.divInt_ofNat]
theorem aa3 {x y:Rat}(h:(x.den:Int)=(y.den:Int)):Rat.divInt (x.num+y.num) (x.den:Int)=x+y:=by
 rw[←O3,←h,←Int.add_mul,Rat.divInt_mul_right (jL x)]
theorem SB {x y:Rat}:Rat.divInt (x.num*y.num) ((x.den:Int)*(y.den:Int))=x*y:=by
 rw[Rat.mul_def',←Int.natCast_mul,Rat.divInt_ofNat]
theorem SP {x y:Rat}:Rat.divInt (x.num*(y.den:Int)) ((x.den:Int)*y.num)=x/y:=by
 rw[Rat.div_def,Rat.inv_def,←Rat.divInt_mul_divInt,Rat.num_divInt_den]
theorem Rz.add {x y:Rat}(hx:Rz k x) (hy:Rz l y):Rz (k+l+1) (x+y):=by
 rw[←O3]
 exact Rz.of (((hx.n.mul hy.d).addm (hy.n.mul hx.d)).mono (by omega)) ((hx.d.mul hy.d).mono (by omega)) (by have:=qP (den_pos x) (den_pos y);omega)
theorem Rz.mul {x y:Rat}(hx:Rz k x) (hy:Rz l y):Rz (k+l) (x*y):=by
 rw[←SB]
 exact Rz.of (hx.n.mul hy.n) (hx.d.mul hy.d) (by have:=qP (den_pos x) (den_pos y);omega)
theorem Rz.neg {x:Rat}(hx:Rz k x):Rz k (-x):=⟨by rw[Rat.neg_num];exact hx.n.neg,by rw[Rat.neg_den];exact hx.d⟩
theorem Rz.sub {x y:Rat}(hx:Rz k x) (hy:Rz l y):Rz (k+l+1) (x-y):=by rw[Rat.sub_eq_add_neg];exact hx.add hy.neg
theorem Rz.div {x y:Rat}(hx:Rz k x) (hy:Rz l y) (h0:y≠0):Rz (k+l) (x/y):=by
 rw[←SP]
 exact Rz.of (hx.n.mul hy.d) (hx.d.mul hy.n) (by
  have h1:y.num≠0:=fun e=>h0 (Rat.num_eq_zero.1 e)
  intro e
  rcases u9.1 e with h|h
  ·exact jL x h
  ·exact h1 h)
theorem Sz.one (hk:1≤k):Sz k 1:=by
 have:=mK (n:=1) (m:=k) hk
 have h1:pw 1=1000000000:=by decide
 exact⟨by omega,by omega⟩
theorem Rz.int {n:Int}(h:Sz k n) (hk:1≤k):Rz k (n:Rat):=⟨by rw[Rat.num_intCast];exact h,by rw[Rat.den_intCast];exact Sz.one hk⟩
theorem CP {n:Int}(hd:0<d):dR (Rat.divInt n d)=dQ (n.fdiv ((Int.gcd n d:Nat):Int)) (d.fdiv ((Int.gcd n d:Nat):Int)):=by
 unfold dR cR
 rw[Rat.num_divInt,Rat.den_divInt,if_neg (by omega),Int.sign_eq_one_of_pos hd,pt,Int.gcd_comm d n,pv _ (by omega),pv _ (by omega)]
 rw[show((d.natAbs/Int.gcd n d:Nat):Int)=d/((Int.gcd n d:Nat):Int) from by rw[Int.natCast_ediv];rw[show((d.natAbs:Nat):Int)=d from by omega]]
 rfl
theorem By {n:Int}(hd:0<d) (hg:((Int.gcd n d:Nat):Int)=1):dR (Rat.divInt n d)=dQ n d:=by
 rw[CP hd,hg,Int.fdiv_one,Int.fdiv_one]
theorem IH {n:Int}:dR (Rat.divInt n d)=dR (Rat.divInt (-n) (-d)):=by rw[Rat.neg_divInt_neg]
theorem E7 {n:Int}(h:d≠0):((Int.gcd n d:Nat):Int)≠0:=by simp_all
theorem v6 {x y:Rat}:eG (x.num*(y.den:Int)) (y.num*(x.den:Int))=if x<y then-1 else if y<x then 1 else 0:=by
 unfold eG
 simp only[Rat.lt_iff]
def aJ (x y:Rat):Int:=if x<y then-1 else if y<x then 1 else 0
theorem yi {x:Rat}:eG x.num 0=aJ x 0:=by
 unfold aJ
 rw[←v6]
 simp
theorem Oe {x:Rat}{n:Int}(h1:x.num=n) (h2:(x.den:Int)=d):dR x=dQ n d:=by unfold dR cR;rw[h1,h2];rfl
theorem JV {n:Int}:dR (n:Rat)=dQ n 1:=Oe (Rat.num_intCast n) (by rw[Rat.den_intCast];rfl)
def Dg (x:Int):Bool:=bV x*bV x==x
def jd (x:Rat):Bool:=Dg x.num&&Dg (x.den:Int)
theorem LB (h:x<0):Dg x=false:=by unfold Dg;rw[vY h];simp;omega
theorem iJ (ha:a≠0) (hb:b≠0):a*b≠0:=fun e=>by rcases u9.1 e with h|h<;>contradiction
theorem NI {x:Rat}(h:x≠0):x.num≠0:=fun e=>h (Rat.num_eq_zero.1 e)
theorem Sz.isq (h:Sz k x):Sz k (bV x):=h.of_le Rm
theorem FI {x:Rat}(h:(aJ x 0==0)=true):x=0:=by rw[←yi] at h;exact Rat.num_eq_zero.1 (TO h)
theorem ng {x y:Rat}:aJ x y=0↔x=y:=by
 unfold aJ
 rw[←v6,yn,Rat.eq_iff_mul_eq_mul]
theorem H8 {x y:Rat}:aJ x y<0↔x<y:=by
 unfold aJ
 rw[←v6,Dc,Rat.lt_iff]
theorem y7 {x y:Rat}:0<aJ x y↔y<x:=by
 unfold aJ
 rw[←v6,BJ,Rat.lt_iff]
theorem Eb {x:Rat}:aJ x 0=eG x.num 0:=yi.symm
theorem JO {x y:Rat}(h:(eG (aJ x 0) (aJ y 0) !=0)=true):eG (aJ x 0) (aJ y 0)=aJ x y:=by
 have h1:=abW h
 rw[Eb,Eb] at*
 have px:=den_pos x
 have py:=den_pos y
 have e1: ∀ {a b:Int},a<0→0<b→a*b<0:=fun ha hb=>Int.mul_neg_of_neg_of_pos ha hb
 have hr:aJ x y=eG (x.num*(y.den:Int)) (y.num*(x.den:Int)):=by unfold aJ;rw[←v6]
 rw[hr]
 rcases rK x.num 0 with hx|hx|hx<;>rcases rK y.num 0 with hy|hy|hy
 ·rw[fb hx,fb hy] at h1;exact absurd rfl h1
 ·rw[fb hx,kw hy,fb (a:= -1) (by decide),fb]
  rw[hy,qk];exact e1 hx py
 ·rw[fb hx,fk hy,fb (a:= -1) (by decide),fb]
  grind
 ·rw[kw hx,fb hy,fk (a:=0) (by decide),fk]
  rw[hx,qk];exact e1 hy px
 ·grind
 ·rw[kw hx,fk hy,fb (a:=0) (by decide),fb]
  rw[hx,qk];exact qP hy px
 ·rw[fk hx,fb hy,fk (a:=1) (by decide),fk]
  grind
 ·rw[fk hx,kw hy,fk (a:=1) (by decide),fk]
  rw[hy,qk];exact qP hx py
 ·rw[fk hx,fk hy] at h1;exact absurd rfl h1
theorem Gt {x y:Rat}:aJ x y=eG (x.num*(y.den:Int)) (y.num*(x.den:Int)):=by unfold aJ;rw[←v6]
theorem e7 (h:((if x<0 then(7:Int) else 0)==0)=false):x<0:=by grind
theorem WE {x y:Rat}(h:(x.num==y.num)=false):decide (x=y)=false:=by grind
theorem Yv {x y:Rat}(h:(x.num==y.num)=true):decide (x=y)=((x.den:Int)==(y.den:Int)):=by
 simp only[beq_iff_eq] at h
 rw[xK,decide_eq_true_eq,beq_iff_eq]
 exact⟨fun e=>by rw[e],fun e=>Rat.ext h (by omega)⟩
theorem K3:Dg x=(eG (bV x*bV x) x==0):=by
 unfold Dg
 rcases rK (bV x*bV x) x with h|h|h
 ·rw[fb h];simp;omega
 ·rw[kw h];simp;omega
 ·rw[fk h];simp;omega
theorem Vk {x:Rat}(h:Dg x.num=true) (h2:Dg (x.den:Int)=true):jd x=true:=by unfold jd;rw[h,h2];rfl
theorem NQ {x:Rat}(h:Dg x.num=false):jd x=false:=by unfold jd;rw[h];rfl
theorem OD {x:Rat}(h:Dg (x.den:Int)=false):jd x=false:=by unfold jd;rw[h];cases Dg x.num<;>rfl
theorem AZ:dQ 0 0=.a (([.b false]++[.s 0 []])++([.b false]++[.s 0 []])):=by
 have h:cI 0=[.b false]++[.s 0 []]:=by
  have:=yc
  unfold dI at this
  injection this
 unfold dQ cQ
 grind
theorem Sz.fdiv (h:Sz k x):Sz k (x.fdiv y):=h.of_le (by
 have h0: ∀a b:Nat,a/b≤a:=fun a b=>Nat.div_le_self a b
 rcases rK y 0 with hy|hy|hy
 ·rw[←Int.neg_fdiv_neg,pv _ (by omega)]
  have h2:(-x/ -y).natAbs≤(-x).natAbs:=rJ _ _
  omega
 ·subst hy;simp
 ·rw[pv _ (by omega)]
  exact rJ x y)
def SS (xs:List Int):Prop:= ∀x∈xs,0≤x∧x≤4294967295
theorem Qi (h:SS xs) (i:Nat):0≤xs.getD i 0∧xs.getD i 0≤4294967295:=by
 by_cases hi:i<xs.length
 ·have:xs.getD i 0=xs[i]:=by simp[List.getD,hi]
  rw[this];exact h _ (ub hi)
 grind
def vI (neg:Bool) (xs:List Int):Bool:=xs.all (fun x=>decide (x<1000000000))&&((trm xs).length==xs.length)&&(!neg||decide (0<xs.length))
theorem W2 {neg:Bool}(hk:k<xs.length) (h:xs.getD k 0≥1000000000):vI neg xs=false:=by
 have h1:xs.all (fun x=>decide (x<1000000000))=false:=by
  rw[Bool.eq_false_iff]
  intro hall
  have h2:=lE.1 hall xs[k] (ub hk)
  grind
 unfold vI
 grind
theorem ID (hb:SS xs) (h: ∀k,k<xs.length→xs.getD k 0<1000000000):Lim xs:=by
 intro x hx
 obtain⟨i,hi,rfl⟩:=List.getElem_of_mem hx
 have h1:=h i hi
 have h3:xs.getD i 0=xs[i]:=by grind
 have:=hb xs[i] (ub hi)
 omega
theorem BX (h:Lim xs):xs.all (fun x=>decide (x<1000000000))=true:=lE.2 fun x hx=>by have:=h x hx;simp;omega
theorem XS {neg:Bool}(h:Lim xs):vI neg xs=(((trm xs).length==xs.length)&&(!neg||decide (0<xs.length))):=by
 unfold vI;rw[BX h];rfl
theorem Jk {neg:Bool}(h:Lim xs):vI neg xs=((((du (val xs).natAbs).length:Int)==(xs.length:Int))&&(!neg||decide ((xs.length:Int)>0))):=by
 rw[XS h,Kf h]
 congr 1
 ·grind
 grind
theorem Kl (hx:Sz 100000000 x) (hy:Sz 100000000 y):Ok Tryz.prog 292 [dI x,dI y] [dI (Int.gcd x y:Int)]:=by
 refine ca Tryz.func292 rfl<|cT 8 [] ?_
 refine aK rfl (ua) ?_
 refine aK rfl (ua) ?_
 refine DW.mk<|bh (ι:={p:Int×Int // GInv x y p.1 p.2}) (fun i=>⟨61,[(4,.p 4 0),(5,.p 5 0),(6,.p 6 0)],[(4,36,([.b false]++[.s 0 []])),(5,36,cI i.1.1),(6,36,cI i.1.2)]⟩) (fun i=>i.1.2.toNat) ⟨(sg false (x.natAbs:Int),sg false (y.natAbs:Int)),GInv.start hx hy⟩ (ao ⟨rfl,rfl,rfl,trivial⟩ ⟨rfl,rfl,rfl,trivial⟩ rfl) ?_
 rintro⟨⟨a,c⟩,hg⟩
 replace hg:GInv x y a c:=hg
 have ha:=hg.sa
 have hcc:=hg.sc
 dsimp only
 refine no ?_
 refine dD rfl (fun hc1=>?_) (fun hc1=>?_)
 ·have hne:=si hc1
  refine ac rfl (HR)<|ac rfl (HR) ?_
  refine jT (bz rfl) (fun c2 hb2=>?_)
  cases c2
  ·refine qQ rfl<|ac rfl (xn (by assumption) (by assumption) (by assumption))<|cT 3 [] ?_
   refine aK rfl (mm) ?_
   exact⟨⟨(c,sg false ((a.natAbs:Int)%c.natAbs)),hg.step hne⟩,ao ⟨rfl,rfl,rfl,trivial⟩ ⟨rfl,rfl,rfl,trivial⟩ rfl,hg.less hne⟩
  ·refine dD rfl (fun hc3=>?_) (fun hc3=>?_)
   ·refine DW.mk<|bh (ι:={p:Int×Int // GInv2 x y p.1 p.2}) (fun i=>⟨61,[(4,.p 4 0),(7,.v (.c (.i .u64 i.1.1))),(9,.v (.c (.i .u64 i.1.2)))],[(4,36,([.b false]++[.s 0 []]))]⟩) (fun i=>i.1.2.toNat) ⟨(if a.natAbs<1000000000000000000 then(a.natAbs:Int) else 0,if c.natAbs<1000000000000000000 then(c.natAbs:Int) else 0),hg.word hb2 hc3⟩ (ao ⟨rfl,rfl,rfl,trivial⟩ ⟨rfl,trivial⟩ rfl) ?_
    rintro⟨⟨u,v⟩,hw⟩
    replace hw:GInv2 x y u v:=hw
    dsimp only
    refine no ?_
    refine dD rfl (fun hc4=>?_) (fun hc4=>?_)
    ·have hv:v>0:=by simpa using hc4
     refine cT 6 []<|aq (ES rfl rfl (by omega) rfl) ?_
     exact⟨⟨(v,u.tmod v),hw.step hv⟩,ao ⟨rfl,rfl,rfl,trivial⟩ ⟨rfl,trivial⟩ rfl,hw.less hv⟩
    ·refine ac rfl (MY hw.u0 hw.u1)<|ac rfl (mm) ?_
     refine ah ?_
     rw[hw.done (by simpa using hc4)]
     exact aV dT rfl ae
   ·refine ac rfl (xn (by assumption) (by assumption) (by assumption))<|cT 3 [] ?_
    refine aK rfl (mm) ?_
    exact⟨⟨(c,sg false ((a.natAbs:Int)%c.natAbs)),hg.step hne⟩,ao ⟨rfl,rfl,rfl,trivial⟩ ⟨rfl,rfl,rfl,trivial⟩ rfl,hg.less hne⟩
 ·refine ar (Rf rfl (by assumption) rfl) ?_
  refine ac rfl (ua) ?_
  refine ah ?_
  rw[hg.done (sF hc1)]
  exact aV dT rfl ae
theorem nJ (hx:Sz 100000000 x) (hy:Sz 100000000 y) (h0:y≠0):Ok Tryz.prog 349 [dI x,dI y] [dI (x.fdiv y),dI (x.fmod y),.c (.i .i64 0)]:=by
 have hq:Sz 100000000 (q0 x y):=hx.q0
 have hr:Sz 100000000 (r0 x y):=hy.r0 h0
 have h1:Sz 100000000 (1:Int):=dY (by omega) (by omega) (by omega)
 refine ca Tryz.func349 rfl ?_
 refine dD rfl (fun hc1=>?_) (fun hc1=>?_)
 ·exact absurd hc1 (by simp[eg,h0])
 ·refine ac rfl (xn (by assumption) (by assumption) (by assumption))<|cT 13 [] ?_
  refine aq (gV rfl rfl gO rfl) ?_
  refine aK rfl (mm) ?_
  refine aK rfl (mm) ?_
  refine jT (bz rfl) (fun c2 hb2=>?_)
  cases c2
  ·refine qQ rfl<|cT 5 [4,5,999999] ?_
   refine DQ.mk<|jb (fg dT rfl) rfl rfl rfl rfl<|d7 ?_
   refine DQ.mk<|jb (fg dT rfl) rfl rfl rfl rfl<|d7 ?_
   obtain⟨e1,e2⟩:=yx (x:=x) h0 (.inl (sF hb2))
   refine ah ?_
   rw[e1,e2]
   exact aV dT rfl (aV dT rfl (az ae))
  ·refine ar (gV rfl rfl gO rfl) ?_
   refine dD rfl (fun hc3=>?_) (fun hc3=>?_)
   ·refine cT 6 [] ?_
    refine aK rfl (jh (by omega) (by omega))<|aK rfl (S0 (by assumption) (by assumption)) ?_
    refine aK rfl (tP (by assumption) (by assumption))<|cT 5 [4,5,999999] ?_
    refine DQ.mk<|jb (fg dT rfl) rfl rfl rfl rfl<|d7 ?_
    refine DQ.mk<|jb (fg dT rfl) rfl rfl rfl rfl<|d7 ?_
    obtain⟨e1,e2⟩:=GA (x:=x) h0 (si hb2) (EN hc3)
    refine ah ?_
    rw[e1,e2]
    exact aV dT rfl (aV dT rfl (az ae))
   ·refine cT 5 [4,5,999999] ?_
    refine DQ.mk<|jb (fg dT rfl) rfl rfl rfl rfl<|d7 ?_
    refine DQ.mk<|jb (fg dT rfl) rfl rfl rfl rfl<|d7 ?_
    obtain⟨e1,e2⟩:=yx (x:=x) h0 (.inr (FW hc3))
    refine ah ?_
    rw[e1,e2]
    exact aV dT rfl (aV dT rfl (az ae))
theorem yC:Ok Tryz.prog 74 [dI x] [.c (.i .i64 (eG x 0))]:=by
 refine ca Tryz.func74 rfl ?_
 refine dD rfl (fun hc1=>?_) (fun hc1=>?_)
 ·refine ah ?_
  rw[kw (by have:=hc1;simp[eg] at this;omega)]
  exact az ae
 ·refine dD rfl (fun hc2=>?_) (fun hc2=>?_)
  ·refine ah ?_
   rw[fb (by simpa using hc2)]
   exact az ae
  ·refine ah ?_
   rw[fk (by have:=hc1;have h2:=hc2;simp[eg] at this h2;omega)]
   exact az ae
theorem K6 (hx:Sz 100000000 x) (hy:Sz 100000000 y):Ok Tryz.prog 106 [dI x,dI y] [.c (.i .i64 (eG x y))]:=by
 refine ca Tryz.func106 rfl ?_
 refine ar (gV rfl rfl gO rfl) ?_
 refine dD rfl (fun hc1=>?_) (fun hc1=>?_)
 ·refine dD rfl (fun hc2=>?_) (fun hc2=>?_)
  ·refine ah ?_
   rw[fb (by have:=EN hc1;have h2:=hc2;simp only[decide_eq_true_eq] at h2;omega)]
   exact az ae
  ·refine ah ?_
   rw[fk (by have:=EN hc1;have h2:=hc2;simp only[decide_eq_false_iff_not] at h2;omega)]
   exact az ae
 ·refine dD rfl (fun hc3=>?_) (fun hc3=>?_)
  ·refine ac rfl (qK (by assumption) (by assumption))<|ah ?_
   rw[←FC hc3 (by have:=FW hc1;have h2:=hc3;simp only[decide_eq_true_eq] at h2;omega)]
   exact az ae
  ·refine ac rfl (qK (by assumption) (by assumption))<|ah ?_
   rw[←E9 hc3 (by have:=FW hc1;have h2:=hc3;simp only[decide_eq_false_iff_not] at h2;omega)]
   exact az ae
theorem qO (h0: -9223372036854775808≤x) (h1:x≤9223372036854775807):Ok Tryz.prog 66 [.c (.i .i64 x)] [dI x]:=by
 refine ca Tryz.func66 rfl ?_
 refine dD rfl (fun hc1=>?_) (fun hc1=>?_)
 ·have hn:x<0:=by simpa using hc1
  refine ar (b6 (r:=x+18446744073709551616) AT fM rfl (Hq hn h0) rfl) ?_
  refine ar (gl (r:= -x) rfl (DA hn h0) rfl) ?_
  refine ac rfl (sv (by omega) (by omega))<|ac rfl (i8 (Sz.small3 (by omega) (by omega))) ?_
  have hfin:dI x=dI (sg true (((-x).natAbs:Nat):Int)):=congrArg dI (by rw[gN];omega)
  refine ah ?_
  rw[hfin]
  exact aV dT rfl ae
 ·have hn:0≤x:=by have:=hc1;simp at this;omega
  refine ar (b6 (r:=x) AT fM rfl (iB (by omega) (by omega)) rfl) ?_
  refine ac rfl (sv (by omega) (by omega))<|ac rfl (i8 (Sz.small3 (by omega) (by omega))) ?_
  have hfin:dI x=dI (sg false ((x.natAbs:Nat):Int)):=congrArg dI (by rw[cV];omega)
  refine ah ?_
  rw[hfin]
  exact aV dT rfl ae
theorem wC (hx:Sz 100000000 x):Ok Tryz.prog 192 [dI x] [dI (-x)]:=by
 refine ca Tryz.func192 rfl<|ac rfl (i8 (by assumption)) ?_
 refine ah ?_
 rw[←W1 (x:=x)]
 exact aV dT rfl ae
theorem nW (hx:Sz 40000000 x) (hy:Sz 40000000 y):Ok Tryz.prog 107 [dI x,dI y] [dI (x*y)]:=by
 have hx6:Sz 100000000 x:=hx.m_
 have hy6:Sz 100000000 y:=hy.m_
 have hp:Sz 100000000 ((x.natAbs:Int)*(y.natAbs:Int)):=((FN hx).mul (FN hy)).m_
 refine ca Tryz.func107 rfl<|cT 11 [] ?_
 refine aq (gV rfl rfl gO rfl) ?_
 refine aK rfl (NM (by assumption) (by assumption))<|aK rfl (i8 (by assumption))<|ah ?_
 rw[←Xr (x:=x) (y:=y)]
 exact aV dT rfl ae
theorem A8 (hx:Sz 90000000 x) (hy:Sz 90000000 y):Ok Tryz.prog 204 [dI x,dI y] [dI (x+y)]:=by
 have hx6:Sz 100000000 x:=hx.m_
 have hy6:Sz 100000000 y:=hy.m_
 have hp:Sz 100000000 ((x.natAbs:Int)+(y.natAbs:Int)):=((FN (hx.mono (l:=99999999) (by decide))).add (FN (hy.m_))).m_
 refine ca Tryz.func204 rfl<|ar (yh rfl rfl gO rfl) ?_
 refine dD rfl (fun hc1=>?_) (fun hc1=>?_)
 ·refine cT 8 [] ?_
  refine aK rfl (Te (by assumption) (by assumption)) ?_
  refine aK rfl (i8 (by assumption))<|ah ?_
  rw[←SY hc1]
  exact aV dT rfl ae
 ·refine ac rfl (qK (by assumption) (by assumption)) ?_
  refine dD rfl (fun hc2=>?_) (fun hc2=>?_)
  ·have hge:=FM hc2
   have hq:Sz 100000000 ((x.natAbs:Int)-(y.natAbs:Int)):=hx6.of_le (by omega)
   refine cT 8 [] ?_
   refine aK rfl (yO (by assumption) (by omega))<|aK rfl (i8 (by assumption))<|ah ?_
   rw[←aab hc1 (by omega)]
   exact aV dT rfl ae
  ·have hge:=Fg hc2
   have hq:Sz 100000000 ((y.natAbs:Int)-(x.natAbs:Int)):=hy6.of_le (by omega)
   refine cT 8 [] ?_
   refine aK rfl (yO (by assumption) (by omega))<|aK rfl (i8 (by assumption))<|ah ?_
   rw[←aaY hc1 (by omega)]
   exact aV dT rfl ae
theorem Uq (hx:Sz 90000000 x) (hy:Sz 90000000 y):Ok Tryz.prog 287 [dI x,dI y] [dI (x-y)]:=by
 have hx6:Sz 100000000 x:=hx.m_
 have hy6:Sz 100000000 y:=hy.m_
 have hyn:Sz 90000000 (-y):=hy.neg
 refine ca Tryz.func287 rfl<|cT 4 [] ?_
 refine aK rfl (wC (by assumption)) ?_
 refine aK rfl (A8 (by assumption) (by assumption))<|ah ?_
 rw[Int.sub_eq_add_neg]
 exact aV dT rfl ae
theorem yb (hx:Sz 100000000 x) (hy:Sz 100000000 y):Ok Tryz.prog 75 [dI x,dI y] [.c (.b (x==y))]:=by
 refine ca Tryz.func75 rfl ?_
 refine ar (yh rfl rfl gO rfl) ?_
 refine jT (bz rfl) (fun c1 hb1=>?_)
 cases c1
 ·refine ah ?_
  rw[show(x==y)=false from by have:=hb1;simp only[beq_eq_false_iff_ne,ne_eq] at this⊢;intro e;subst e;exact this rfl]
  exact az ae
 ·refine ac rfl (qK (by assumption) (by assumption))<|ah ?_
  rw[←Rs hb1]
  exact az ae
theorem mr (hx:Sz 20000000 x) (hy:Sz 20000000 y) (h0:y≠0):Ok Tryz.prog 195 [dI x,dI y] [dI (x.fdiv y),dI (x.fmod y),.c (.i .i64 0)]:=by
 have hq:Sz 90000000 (q0 x y):=hx.q0.m_
 have hr:Sz 90000000 (r0 x y):=(hy.r0 h0).m_
 have h1:Sz 90000000 (1:Int):=dY (by omega) (by omega) (by omega)
 have hy9:Sz 90000000 y:=hy.m_
 have hqq:Sz 100000000 ((x.natAbs:Int)/y.natAbs):=aaB hx
 have hrr:Sz 100000000 ((x.natAbs:Int)%y.natAbs):=aai hy h0
 refine ca Tryz.func195 rfl ?_
 refine dD rfl (fun hc1=>?_) (fun hc1=>?_)
 ·exact absurd hc1 (by simp[eg,h0])
 ·refine ac rfl (Ck (by assumption) (by assumption) (by assumption))<|cT 13 [] ?_
  refine aq (gV rfl rfl gO rfl) ?_
  refine aK rfl (JI hqq) ?_
  refine aK rfl (Js h0 hrr) ?_
  refine jT (bz rfl) (fun c2 hb2=>?_)
  cases c2
  ·refine qQ rfl<|cT 5 [4,5,999999] ?_
   refine DQ.mk<|jb (fg dT rfl) rfl rfl rfl rfl<|d7 ?_
   refine DQ.mk<|jb (fg dT rfl) rfl rfl rfl rfl<|d7 ?_
   obtain⟨e1,e2⟩:=yx (x:=x) h0 (.inl (LY.1 (sF hb2)))
   refine ah ?_
   rw[e1,e2]
   exact aV dT rfl (aV dT rfl (az ae))
  ·refine ar (gV rfl rfl gO rfl) ?_
   refine dD rfl (fun hc3=>?_) (fun hc3=>?_)
   ·refine cT 6 [] ?_
    refine aK rfl (qO (by omega) (by omega))<|aK rfl (Uq (by assumption) (by assumption)) ?_
    refine aK rfl (A8 (by assumption) (by assumption))<|cT 5 [4,5,999999] ?_
    refine DQ.mk<|jb (fg dT rfl) rfl rfl rfl rfl<|d7 ?_
    refine DQ.mk<|jb (fg dT rfl) rfl rfl rfl rfl<|d7 ?_
    obtain⟨e1,e2⟩:=GA (x:=x) h0 (fun e=>si hb2 (LY.2 e)) (by rw[LR h0 (si hb2)];exact EN hc3)
    refine ah ?_
    rw[e1,e2]
    exact aV dT rfl (aV dT rfl (az ae))
   ·refine cT 5 [4,5,999999] ?_
    refine DQ.mk<|jb (fg dT rfl) rfl rfl rfl rfl<|d7 ?_
    refine DQ.mk<|jb (fg dT rfl) rfl rfl rfl rfl<|d7 ?_
    obtain⟨e1,e2⟩:=yx (x:=x) h0 (.inr (by rw[LR h0 (si hb2)];exact FW hc3))
    refine ah ?_
    rw[e1,e2]
    exact aV dT rfl (aV dT rfl (az ae))
theorem FT (hx:Sz 20000000 x) (hy:Sz 20000000 y):Ok Tryz.prog 76 [dI x,dI y] [dI (Int.gcd x y:Int)]:=by
 refine ca Tryz.func76 rfl<|cT 6 [] ?_
 refine DW.mk<|bh (ι:={p:Int×Int // RG x y p.1 p.2}) (fun i=>⟨54,[(4,.p 4 0),(5,.v (.c (cL i.1.1))),(6,.v (.c (cL i.1.2)))],[(4,36,([.b false]++[.s 0 []]))]⟩) (fun i=>i.1.2.toNat) ⟨((x.natAbs:Int),(y.natAbs:Int)),RG.start hx hy⟩ (ao ⟨rfl,by rw[Qk x];rfl,by rw[Qk y];rfl,trivial⟩ ⟨rfl,trivial⟩ rfl) ?_
 rintro⟨⟨a,c⟩,hg⟩
 replace hg:RG x y a c:=hg
 have ha:=hg.sa
 have hcc:=hg.sc
 have ha0:=hg.a0
 have hcc0:=hg.c0
 have ha6:Sz 100000000 a:=ha.m_
 dsimp only
 refine no ?_
 refine jT (bz rfl) (fun c1 hb1=>?_)
 cases c1
 ·refine DL.mk<|wF (oE rfl)<|dX ?_
  refine qQ rfl ?_
  refine dD rfl (fun hc2=>?_) (fun hc2=>?_)
  ·refine ac rfl (i8 (by assumption)) ?_
   refine ah ?_
   rw[hg.done (sF hb1)]
   exact aV dT rfl ae
  ·exact absurd hc2 (by simp[eg,sF hb1])
 ·have hne:=si hb1
  refine jT (bz rfl) (fun c3 hb3=>?_)
  cases c3
  ·have hwa:=KO hb3
   refine dD rfl (fun hc4=>?_) (fun hc4=>?_)
   ·refine ac rfl (Ck (by assumption) (by assumption) (by assumption)) ?_
    exact⟨⟨(c,(a.natAbs:Int)%c.natAbs),hg.step hne⟩,ao ⟨rfl,rfl,rfl,trivial⟩ ⟨rfl,trivial⟩ rfl,hg.less hne⟩
   ·have hwc:=KO hc4
    refine dD rfl (fun hc5=>?_) (fun hc5=>?_)
    ·exact absurd hc5 (by simp[eg,hne])
    ·refine ac rfl (GJ (by assumption))<|ac rfl (GJ (by assumption)) ?_
     refine DW.mk<|bh (ι:={p:Int×Int // GInv2 x y p.1 p.2}) (fun i=>⟨54,[(4,.p 4 0),(9,.v (.c (.i .u64 i.1.1))),(10,.v (.c (.i .u64 i.1.2)))],[(4,36,([.b false]++[.s 0 []]))]⟩) (fun i=>i.1.2.toNat) ⟨((a.natAbs:Int),(c.natAbs:Int)),hg.word hwa hwc⟩ (ao ⟨rfl,rfl,rfl,trivial⟩ ⟨rfl,trivial⟩ rfl) ?_
     rintro⟨⟨u,v⟩,hw⟩
     replace hw:GInv2 x y u v:=hw
     have hu0:=hw.u0
     have hu1:=hw.u1
     have hsu:Sz 100000000 u:=Sz.small3 hu0 hu1
     dsimp only
     refine no ?_
     refine dD rfl (fun hc6=>?_) (fun hc6=>?_)
     ·have hv:v>0:=by simpa using hc6
      have hvn:v≠0:=by omega
      refine cT 6 []<|aq (ES rfl rfl (by omega) rfl) ?_
      exact⟨⟨(v,u.tmod v),hw.step hv⟩,ao ⟨rfl,rfl,rfl,trivial⟩ ⟨rfl,trivial⟩ rfl,hw.less hv⟩
     ·refine ac rfl (sv (by omega) (by omega))<|ac rfl (i8 (by assumption)) ?_
      refine ah ?_
      rw[hw.fin (by simpa using hc6)]
      exact aV dT rfl ae
  ·refine tg rfl<|ac rfl (Ck (by assumption) (by assumption) (by assumption)) ?_
   exact⟨⟨(c,(a.natAbs:Int)%c.natAbs),hg.step hne⟩,ao ⟨rfl,rfl,rfl,trivial⟩ ⟨rfl,trivial⟩ rfl,hg.less hne⟩
end Go.Proofs.YtegpmhlfjkhjmaaGreat
