/-Package swarfref01:times,by,compare,short,signed. -/
import Derived.Test.YtegpmhlfjkhjmaaGreatYmF
namespace Go.Proofs.YtegpmhlfjkhjmaaGreat
open Go Go.RowKit
variable {R V a b c d m r u v x y:Int}{rs us vs xs ys zs:List Int}{K N i k l n:Nat}{pos:String}{U e ty xt:TypeId}
variable {af:Array Edge}{g:Option (Nat×Bool)}{dst:Option Nat}
theorem dS:type_of% @Sz.small:=@Sz.small
theorem lh:type_of% @Dw.weak:=@Dw.weak
theorem qN:type_of% @Int.zero_mul:=@Int.zero_mul
theorem rE:type_of% @Int.lt_trichotomy:=@Int.lt_trichotomy
theorem qr:type_of% @Int.mul_pos:=@Int.mul_pos
theorem tS:type_of% @Bool.not_false:=@Bool.not_false
theorem v6:type_of% @Int.mul_eq_zero:=@Int.mul_eq_zero
theorem yw:type_of% @Int.natAbs_natCast:=@Int.natAbs_natCast
theorem Ex (hLxs:Lim xs) (hLys:Lim ys) (hn:xs.length≤100000000) (hm:ys.length≤100000000):Ok Tryz.prog 199 [.c (cM xs),.c (cM ys)] [.c (cL (val xs*val ys))]:=by
 refine eo Tryz.func199 68 [.tmp 4] rfl<|aa<|ag<|aa<|ag ?_
 refine ar (ci ((xs.length:Int)+(ys.length:Int)) (bh (by(first|omega|(simp;omega))) (by(first|omega|(simp;omega)))) rfl) ?_
 refine DL.mk<|pE (j9 (n:=xs.length+ys.length) xZ rfl rfl (by(first|omega|(simp;omega))) (by(first|omega|(simp;omega))) rfl) rfl<|dZ ?_
 refine aa<|aa<|ag<|aE<|bn (ι:={t:Nat×List Int // TInv xs ys t.1 0 0 t.2}) (fun i=>⟨68,[(0,.v (.c (cM xs))),(1,.v (.c (cM ys))),(5,.o 14 (xs.length+ys.length) (xs.length+ys.length)),(6,.v (.c (.i .i64 (i.1.1:Int))))],[(14,194,i.1.2.map (CellD.i .u32))]⟩) (fun i=>xs.length-i.1.1) ⟨(0,List.replicate (xs.length+ys.length) 0),TInv.start⟩ (ap ⟨rfl,rfl,rfl,rfl,trivial⟩ ⟨by rw[show(List.replicate (xs.length+ys.length) (CellD.i .u32 0))=(List.replicate (xs.length+ys.length) 0).map (CellD.i .u32) from by simp];rfl,trivial⟩ rfl) ?_
 rintro⟨⟨j,zs⟩,hI⟩
 replace hI:TInv xs ys j 0 0 zs:=hI
 have g5:=hI.ik
 have g6:=hI.len
 dsimp only
 refine aa<|aa<|ag ?_
 refine aJ rfl (fun hc1=>?_) (fun hc1=>?_)
 ·have hj:j<xs.length:=by simp only[decide_eq_true_eq] at hc1;omega
  refine aA<|aa<|aE<|aa<|ag<|aa<|aa<|ag<|aE<|bn (ι:={t:Nat×Int×List Int // TInv xs ys j t.1 t.2.1 t.2.2}) (fun i=>⟨68,[(0,.v (.c (cM xs))),(1,.v (.c (cM ys))),(5,.o 14 (xs.length+ys.length) (xs.length+ys.length)),(6,.v (.c (.i .i64 (j:Int)))),(7,.v (.c (.i .u64 i.1.2.1))),(8,.v (.c (.i .i64 (i.1.1:Int))))],[(14,194,i.1.2.2.map (CellD.i .u32))]⟩) (fun i=>ys.length-i.1.1) ⟨(0,0,zs),hI⟩ (ap ⟨rfl,rfl,rfl,rfl,rfl,rfl,trivial⟩ ⟨rfl,trivial⟩ rfl) ?_
  clear hI g6
  rintro⟨⟨k,c,zs⟩,hI⟩
  replace hI:TInv xs ys j k c zs:=hI
  have g1:=dr hLxs j
  have g2:=dr hLys k
  have g8:=dr hI.L (j+k)
  have g3:=hI.c0
  have g4:=hI.c1
  have g5:=hI.ik
  have g7:=hI.kk
  have g6:=hI.len
  dsimp only
  refine aa<|aa<|ag ?_
  refine aJ rfl (fun hc2=>?_) (fun hc2=>?_)
  ·have hk:k<ys.length:=by simp only[decide_eq_true_eq] at hc2;omega
   have hm0:0≤xs.getD j 0*ys.getD k 0:=fZ g1.1 g2.1
   have hm1:xs.getD j 0*ys.getD k 0≤999999999*999999999:=rm (by omega) (by omega) g2.1 (by omega)
   refine aA<|aa<|aE<|aa<|lX 22 rfl rfl<|cn 4<|ba (ci ((j:Int)+(k:Int)) (bh (by omega) (by omega)) rfl) ?_
   refine ba (bo jv rfl rfl (by(first|omega|(simp;omega))) rfl) ?_
   refine ba (nT fN rfl rfl (acE (i:=j+k) (by(first|omega|(simp;omega)))) rfl) ?_
   refine ba (bZ (r:=zs.getD (j+k) 0) jF fQ rfl (iC (by(first|omega|(simp;omega))) (by(first|omega|(simp;omega)))) rfl) ?_
   refine ba (ci (c+(zs.getD (j+k) 0)) (gh (by(first|omega|(simp;omega))) (by(first|omega|(simp;omega)))) rfl) ?_
   refine cn 2 ?_
   refine ba (bI jv rfl rfl (by(first|omega|(simp;omega))) (jx _) rfl rfl) ?_
   refine ba (b7 fN rfl (kX (i:=j) (by(first|omega|(simp;omega)))) rfl) ?_
   refine ba (bZ (r:=xs.getD j 0) jF fQ rfl (iC (by(first|omega|(simp;omega))) (by(first|omega|(simp;omega)))) rfl) ?_
   refine cn 2 ?_
   refine ba (bI jv rfl rfl (by(first|omega|(simp;omega))) (jx _) rfl rfl) ?_
   refine ba (b7 fN rfl (kX (i:=k) (by(first|omega|(simp;omega)))) rfl) ?_
   refine ba (bZ (r:=ys.getD k 0) jF fQ rfl (iC (by(first|omega|(simp;omega))) (by(first|omega|(simp;omega)))) rfl) ?_
   refine ba (ci ((xs.getD j 0)*(ys.getD k 0)) (iu (by(first|omega|(simp;omega))) (by(first|omega|(simp;omega)))) rfl) ?_
   refine ba (ci ((c+(zs.getD (j+k) 0))+((xs.getD j 0)*(ys.getD k 0))) (gh (by(first|omega|(simp;omega))) (by(first|omega|(simp;omega)))) rfl) ?_
   refine yW<|dG<|bt<|aa<|bm<|bU 3<|aU (ci ((j:Int)+(k:Int)) (bh (by omega) (by omega)) rfl)<|bU 1<|aU (gD (r:=(c+zs.getD (j+k) 0+xs.getD j 0*ys.getD k 0)%1000000000) rfl rfl (by omega) (qz (by omega)) rfl) ?_
   refine aU (bZ (r:=(c+zs.getD (j+k) 0+xs.getD j 0*ys.getD k 0)%1000000000) fQ jF rfl (sV (by omega) (by omega)) rfl) ?_
   refine aU (bo jv rfl rfl (by(first|omega|(simp;omega))) rfl) ?_
   refine gi (aY (us:=(zs.set (j+k) ((c+zs.getD (j+k) 0+xs.getD j 0*ys.getD k 0)%1000000000)).map (CellD.i .u32)) fN rfl rfl rfl rfl (by simp;omega) (rM (by(first|omega|(simp;omega)))) rfl) ?_
   refine bt<|ag<|ar (kG (r:=(c+zs.getD (j+k) 0+xs.getD j 0*ys.getD k 0)/1000000000) rfl rfl (by omega) (by rw[ph (by omega)];exact iC (by omega) (by omega)) rfl) ?_
   refine ag ?_
   refine ar (ci ((k:Int)+1) (bh (by(first|omega|(simp;omega))) (by(first|omega|(simp;omega)))) rfl) ?_
   exact⟨⟨(k+1,(c+zs.getD (j+k) 0+xs.getD j 0*ys.getD k 0)/1000000000,zs.set (j+k) ((c+zs.getD (j+k) 0+xs.getD j 0*ys.getD k 0)%1000000000)),hI.step hLxs hLys hj hk rfl⟩,ap ⟨rfl,rfl,rfl,rfl,rfl,by rw[show((k+1:Nat):Int)=(k:Int)+1 from by omega];rfl,trivial⟩ ⟨rfl,trivial⟩ rfl,by show ys.length-(k+1)<ys.length-k;omega⟩
  ·have hk:k=ys.length:=by simp only[decide_eq_false_iff_not] at hc2;omega
   refine bi<|bm<|bU 4 ?_
   refine aU (ci ((j:Int)+(ys.length:Int)) (bh (by(first|omega|(simp;omega))) (by(first|omega|(simp;omega)))) rfl) ?_
   refine bU 1<|aU (bZ (r:=c) fQ jF rfl (sV (by omega) (by omega)) rfl) ?_
   refine aU (bo jv rfl rfl (by(first|omega|(simp;omega))) rfl) ?_
   refine gi (aY (us:=(zs.set (j+ys.length) c).map (CellD.i .u32)) fN rfl rfl rfl rfl (by simp;omega) (rM (by(first|omega|(simp;omega)))) rfl) ?_
   refine bt<|ag ?_
   refine ar (ci ((j:Int)+1) (bh (by(first|omega|(simp;omega))) (by(first|omega|(simp;omega)))) rfl) ?_
   exact⟨⟨(j+1,zs.set (j+ys.length) c),hI.row hj hk⟩,ap ⟨rfl,rfl,rfl,by rw[show((j+1:Nat):Int)=(j:Int)+1 from by omega];rfl,trivial⟩ ⟨rfl,trivial⟩ rfl,by show xs.length-(j+1)<xs.length-j;omega⟩
 ·have hj:j=xs.length:=by simp only[decide_eq_false_iff_not] at hc1;omega
  have hfin:val xs*val ys=val zs:=(hI.done hj).symm
  have hLf:Lim zs:=hI.L
  refine bi<|aa ?_
  refine ww (t:=5) (zs:=zs) (ys:=zs) rfl rfl (by first|omega|(simp;omega)|simp) (by omega) (by omega) (jm (by first|omega|(simp;omega)|simp)) ?_
  refine ag<|ac rfl (lT hLf (by omega))<|a7 ?_
  rw[hfin]
  exact ah (az ae)
theorem JP (hLxs:Lim xs) (hn:xs.length≤100000000) (h0:0≤m) (h1:m<1000000000):Ok Tryz.prog 282 [.c (cM xs),.c (.i .u32 m)] [.c (cL (val xs*m))]:=by
 have hv1:val [m]=m:=by simp[val]
 refine bX Tryz.func282 rfl<|ar (yo xZ rfl rfl) ?_
 refine ac rfl (lT (Lim.nil.cons h0 h1) (fe rfl))<|ac rfl (Ex hLxs (b8 _) hn (ig (x:=val [m]) (k:=100000000) (by rw[hv1];exact dS (by omega) (by omega) (by omega))))<|ah ?_
 rw[show val xs*m=val xs*val (dA (val [m]).natAbs) from by rw[cr,show(((val [m]).natAbs:Nat):Int)=m from by simp[val];omega]]
 exact az ae
theorem Im (hLxs:Lim xs) (hLys:Lim ys) (nX:Nrm xs) (nY:Nrm ys) (hn:xs.length≤100000000) (_hm:ys.length≤100000000):Ok Tryz.prog 169 [.c (cM xs),.c (cM ys)] [.c (.i .i64 (eK (val xs) (val ys)))]:=by
 refine eo Tryz.func169 41 [.tmp 4] rfl<|aa<|ag<|aa<|aa<|ag ?_
 refine aJ rfl (fun hc1=>?_) (fun hc1=>?_)
 ·have hne:xs.length≠ys.length:=by simp only[bne_iff_ne,ne_eq] at hc1;omega
  refine aa<|aa<|ag ?_
  refine aJ rfl (fun hc2=>?_) (fun hc2=>?_)
  ·have hfin:eK (val xs) (val ys)= -1:=fj (Cc nY hLxs hLys (by simp only[decide_eq_true_eq] at hc2;omega))
   refine aa<|ag<|a7 ?_
   rw[hfin]
   exact ah (az ae)
  ·have hfin:eK (val xs) (val ys)=1:=fm (Cc nX hLys hLxs (by simp only[decide_eq_false_iff_not] at hc2;omega))
   refine aA<|aa<|ag<|a7 ?_
   rw[hfin]
   exact ah (az ae)
 ·have heq:xs.length=ys.length:=by simp only[bne_eq_false_iff_eq] at hc1;omega
  refine aA<|aa<|aa<|ag ?_
  refine ar (ci ((xs.length:Int)-1) (bK (by(first|omega|(simp;omega))) (by(first|omega|(simp;omega)))) rfl) ?_
  refine aE<|bn (ι:={j:Nat // j≤xs.length∧xs.drop j=ys.drop j}) (fun i=>⟨41,[(0,.v (.c (cM xs))),(1,.v (.c (cM ys))),(5,.v (.c (.i .i64 ((i.1:Int)-1))))],[]⟩) (fun i=>i.1) ⟨xs.length,cg _,by rw[pk (cg _),pk (by omega)]⟩ (ap ⟨rfl,rfl,rfl,trivial⟩ trivial rfl) ?_
  rintro⟨j,hj,hD⟩
  dsimp only
  refine aa<|aa<|ag ?_
  refine aJ rfl (fun hc3=>?_) (fun hc3=>?_)
  ·obtain⟨q,rfl⟩: ∃q,j=q+1:=⟨j-1,by simp only[decide_eq_true_eq] at hc3;omega⟩
   have e1:=getD_some (xs:=xs) (i:=q) (by omega)
   have e2:=getD_some (xs:=ys) (i:=q) (by omega)
   refine lh (σ':=⟨41,[(0,.v (.c (cM xs))),(1,.v (.c (cM ys))),(5,.v (.c (.i .i64 (q:Int))))],[]⟩) (ap ⟨rfl,rfl,by rw[show(q:Int)=((q+1:Nat):Int)-1 from by omega];rfl,trivial⟩ trivial rfl) ?_
   refine aA<|aa<|aE<|aa<|aa<|dC 9 [] ?_
   refine aq (bI jv rfl rfl (by(first|omega|(simp;omega))) (jx _) rfl rfl) ?_
   refine aq (b7 fN rfl (kX (i:=q) (by(first|omega|(simp;omega)))) rfl) ?_
   refine aq (bI jv rfl rfl (by(first|omega|(simp;omega))) (jx _) rfl rfl) ?_
   refine aq (b7 fN rfl (kX (i:=q) (by(first|omega|(simp;omega)))) rfl) ?_
   refine aJ rfl (fun hc4=>?_) (fun hc4=>?_)
   ·have hfin:eK (val xs) (val ys)= -1:=fj (FP hLxs hLys e1 e2 hD (by simpa using hc4))
    refine aa<|ag<|a7 ?_
    rw[hfin]
    exact ah (az ae)
   ·have hlt: ¬xs.getD q 0<ys.getD q 0:=by simpa using hc4
    refine aA<|aa<|dC 9 [] ?_
    refine aq (bI jv rfl rfl (by(first|omega|(simp;omega))) (jx _) rfl rfl) ?_
    refine aq (b7 fN rfl (kX (i:=q) (by(first|omega|(simp;omega)))) rfl) ?_
    refine aq (bI jv rfl rfl (by(first|omega|(simp;omega))) (jx _) rfl rfl) ?_
    refine aq (b7 fN rfl (kX (i:=q) (by(first|omega|(simp;omega)))) rfl) ?_
    refine aJ rfl (fun hc5=>?_) (fun hc5=>?_)
    ·have hfin:eK (val xs) (val ys)=1:=fm (FP hLys hLxs e2 e1 hD.symm (by simpa using hc5))
     refine aa<|ag<|a7 ?_
     rw[hfin]
     exact ah (az ae)
    ·have hgt: ¬xs.getD q 0>ys.getD q 0:=by simpa using hc5
     refine aA<|ag ?_
     refine ar (ci ((q:Int)-1) (bK (by(first|omega|(simp;omega))) (by(first|omega|(simp;omega)))) rfl) ?_
     exact⟨⟨q,by omega,Nl (by omega) (by omega) hD (by omega)⟩,ap ⟨rfl,rfl,rfl,trivial⟩ trivial rfl,by show q<q+1;omega⟩
  ·have hz:j=0:=by simp only[decide_eq_false_iff_not] at hc3;omega
   have hfin:eK (val xs) (val ys)=0:=by subst hz;simp only[o7] at hD;rw[hD];exact j8 rfl
   refine bi<|aa<|ag<|a7 ?_
   rw[hfin]
   exact ah (az ae)
theorem A5 (hLxs:Lim xs) (hn:xs.length≤100000000) (hb:val xs≤18446744073709551615):Ok Tryz.prog 171 [.c (cM xs)] [.c (.i .u64 (val xs))]:=by
 refine eo Tryz.func171 21 [.tmp 2] rfl<|aa<|ag<|aa<|ag<|aa<|aa<|ag ?_
 refine ar (ci ((xs.length:Int)-1) (bK (by(first|omega|(simp;omega))) (by(first|omega|(simp;omega)))) rfl) ?_
 refine aE<|bn (ι:={t:Nat×Int // ShInv xs t.1 t.2}) (fun i=>⟨21,[(0,.v (.c (cM xs))),(3,.v (.c (.i .u64 i.1.2))),(4,.v (.c (.i .i64 ((i.1.1:Int)-1))))],[]⟩) (fun i=>i.1.1) ⟨(xs.length,0),⟨Nat.le_refl _,qw 0,by rw[lI];simp⟩⟩ (ap ⟨rfl,rfl,rfl,trivial⟩ trivial rfl) ?_
 rintro⟨⟨j,r⟩,hI⟩
 replace hI:ShInv xs j r:=hI
 have g5:=hI.le
 have g3:=hI.r0
 dsimp only
 refine aa<|aa<|ag ?_
 refine aJ rfl (fun hc1=>?_) (fun hc1=>?_)
 ·obtain⟨q,rfl⟩: ∃q,j=q+1:=⟨j-1,by simp only[decide_eq_true_eq] at hc1;omega⟩
  have hS:=hI.step hLxs
  have hB:=hS.bound hLxs
  have g1:=dr hLxs q
  refine lh (σ':=⟨21,[(0,.v (.c (cM xs))),(3,.v (.c (.i .u64 r))),(4,.v (.c (.i .i64 (q:Int))))],[]⟩) (ap ⟨rfl,rfl,by rw[show(q:Int)=((q+1:Nat):Int)-1 from by omega];rfl,trivial⟩ trivial rfl) ?_
  refine aA<|aa<|aE<|ag ?_
  refine ar (ci (r*1000000000) (iu (by(first|omega|(simp;omega))) (by(first|omega|(simp;omega)))) rfl) ?_
  refine ar (bI jv rfl rfl (by(first|omega|(simp;omega))) (jx _) rfl rfl) ?_
  refine ar (b7 fN rfl (kX (i:=q) (by(first|omega|(simp;omega)))) rfl) ?_
  refine ar (bZ (r:=xs.getD q 0) jF fQ rfl (iC (by(first|omega|(simp;omega))) (by(first|omega|(simp;omega)))) rfl) ?_
  refine ar (ci ((r*1000000000)+(xs.getD q 0)) (gh (by(first|omega|(simp;omega))) (by(first|omega|(simp;omega)))) rfl) ?_
  refine ag ?_
  refine ar (ci ((q:Int)-1) (bK (by(first|omega|(simp;omega))) (by(first|omega|(simp;omega)))) rfl) ?_
  exact⟨⟨(q,r*1000000000+xs.getD q 0),hS⟩,ap ⟨rfl,rfl,rfl,trivial⟩ trivial rfl,by show q<q+1;omega⟩
 ·have hz:j=0:=by simp only[decide_eq_false_iff_not] at hc1;omega
  have hfin:val xs=r:=by subst hz;have:=hI.v;simp[val,tV] at this;omega
  refine bi<|aa<|ag<|a7 ?_
  rw[hfin]
  exact ah (az ae)
theorem JK {neg:Bool}(hL:Lim xs) (hn:xs.length≤1000000000):Ok Tryz.prog 159 [.c (.b neg),.c (cM xs)] [dI (sg neg (val xs))]:=by
 refine bX Tryz.func159 rfl<|ac rfl (lT hL (by omega)) ?_
 refine jU (bE rfl) (fun c1 hb1=>?_)
 cases c1
 ·have hfin:dI (sg neg (val xs))=.a ([.b false]++[cL (val xs)]):=by rw[hb1,dd];unfold dI cI;rw[show decide (val xs<0)=false from by have:=cW hL;simp;omega];rfl
  refine ar (aG (us:=([.b false]++[cL (val xs)])) KD Ij rfl rfl rfl) ?_
  refine ah ?_
  rw[hfin]
  exact aS d9 rfl ae
 ·have hfin:dI (sg neg (val xs))=.a ([.b (decide (((dA (val xs).natAbs).length:Int)>0))]++[cL (val xs)]):=by rw[hb1];exact UG (cW hL)
  refine ar (aG (us:=([.b (decide ((((dA (val xs).natAbs).length:Int))>0))]++[cL (val xs)])) KD Ij rfl rfl rfl) ?_
  refine ah ?_
  rw[hfin]
  exact aS d9 rfl ae
theorem O4 (h:0<r):dA r.toNat=(r%1000000000)::dA (r/1000000000).toNat:=by
 rw[Cj (by omega)]
 congr 1
 ·omega
 ·congr 1;omega
set_option maxHeartbeats 1000000 in
set_option maxRecDepth 10000 in
theorem JI (u:Int) (w:World) (h0:0≤u) (h1:u≤18446744073709551615):
 Calls Tryz.prog 160 #[.int .u64 u] w fun e w'=> ∃v,e=.returned v∧w'.ownsRow w.heap.size 194 1 v (dA u.toNat).length ((dA u.toNat).map (Value.int .u32))∧Below w.heap.size w w':=by
 obtain⟨i0,hi0,hz0,hz1,hz2⟩:=info_parts oU
 have hlen:(dA u.toNat).length≤3:=by
  refine(js _).len (b8 _) ?_
  rw[cr]
  have h3:pw 3=1000000000000000000000000000:=by decide
  omega
 go_enter Tryz.func160,Tryz.ntmps160
 go_wp2_with fail
 go_loopw [0,3] (fun n v wr=> ∃(r:Int) (k:Nat) (zs:List Int),n=.int .u64 r∧0≤r∧r≤u∧wr.ownsRow w.heap.size 194 1 v k (zs.map (Value.int .u32))∧Below w.heap.size w wr∧Hid (zs.length=k∧dA u.toNat=zs++dA r.toNat))
  (fun n _ _=>(intOf n).toNat)
 case atStart=>exact⟨u,0,[],rfl,h0,qw _,rd _ _ _ _,eQ _ _,rfl,rfl⟩
 case round=>
  obtain⟨r,k,zs,rfl,hr0,hru,hown,hbel,H⟩:=hrel
  have hz:=hbel.size
  by_cases hr:0<r
  ·have Hs:Hid ((zs++[r%1000000000]).length=k+1∧dA u.toNat=(zs++[r%1000000000])++dA (r/1000000000).toNat):=by
    obtain⟨l1,l2⟩:=H.out
    refine⟨by simp[l1],?_⟩
    rw[l2,O4 hr];simp
   have hk:k≤3:=by
    obtain⟨l1,l2⟩:=H.out
    rw[l2] at hlen
    simp at hlen;omega
   clear H
   have e1:r.tmod 1000000000=r%1000000000:=qz hr0
   have e2:IntKind.u32.wrap (r%1000000000)=r%1000000000:=sV (by omega) (by omega)
   have e3:r.tdiv 1000000000=r/1000000000:=ph hr0
   have e4:IntKind.u64.wrap (r/1000000000)=r/1000000000:=iC (by omega) (by omega)
   go_wp2_with (at_builtin;go_must (refine wpList_append_own _ rfl _ _ 34 rfl w.heap.size 194 i0 (.int .u32 0) 1 4 pr hi0 hz0 hz1 hz2 rfl (by decide) _ _ _ rfl (hown.alloc _) ⟨wr.heap.size,0,none⟩ 1 1 [.int .u32 _] rfl rfl (cell_one_new _ _ _) (by simp[Value.oneCell']) (by unfold maxLen;omega) (by omega) (by simp;omega) ?_);intro v' w1 hown' hgrow' _)
   go_roundw
   case rel=>exact⟨r/1000000000,k+1,_,by first|rfl|(simp[e3,e4]),by omega,by omega,by simpa using hown',jt hown hbel hz hgrow',Hs⟩
   case measure=>simp[intOf]<;>omega
  ·obtain rfl:r=0:=by omega
   have Hs:Hid (zs.length=k∧dA u.toNat=zs):=by
    obtain⟨l1,l2⟩:=H.out
    refine⟨l1,?_⟩
    rw[l2];simp[lH]
   clear H
   go_wp2
   go_ret
   obtain⟨l1,l2⟩:=Hs.out
   exact⟨_,rfl,by rw[l2,l1];exact hown,hbel⟩
theorem tk (h0:0≤u) (h1:u≤18446744073709551615):Ok Tryz.prog 160 [.c (.i .u64 u)] [.c (cL u)]:=⟨by kernel_rfl,fun av vs w hav h=>by
 obtain⟨vs⟩:=vs
 match vs,h.1,h with
 |[v],_,h=>
  obtain rfl:=fT h.uncons.1
  refine(JI u w h0 h1).mono ?_
  rintro e w' ⟨v,rfl,g1,g2⟩
  obtain⟨A,c,rfl⟩:=C8 g1
  refine⟨_,rfl,?_,g2⟩
  have hn:u.natAbs=u.toNat:=by omega
  have hsl:=Ow.sl ⟨g1,b8 _⟩
  have:=xH (av:=av) hsl.1 hsl.2.1 hsl.2.2.1 (fun b off e hV=>by have:=Ow.fresh (k:=w.heap.size) (⟨g1,b8 _⟩:Ow w' w.heap.size _ _ _) (cg _) b off e;have:=hav b hV;omega)
  show RdC av w' _ (cL u)
  unfold cL
  rw[hn];exact this⟩
structure DInv (us:List Int) (V:Int) (N j:Nat) (R:Int) (zs:List Int):Prop where
 le:j≤us.length
 R0:0≤R
 RV:R<V
 L:Lim zs
 len:zs.length=N
 hN:us.length≤N
 v:val (us.drop j)=val ((zs.take us.length).drop j)*V+R
theorem EZ (h:i<xs.length):val (xs.drop i)=xs.getD i 0+1000000000*val (xs.drop (i+1)):=by
 rw[pq h,ei]
 grind
theorem DInv.start (hV:0<V) (hN:us.length≤N):DInv us V N us.length 0 (List.replicate N 0):=
 ⟨Nat.le_refl _,qw _,hV,Lim.zeros _,by simp,hN,by rw[pk (cg _),pk (by simp;omega)];simp[val]⟩
theorem DInv.step {q R':Int}(h:DInv us V N (i+1) R zs) (_hL:Lim us) (hq0:0≤q) (hq1:q<1000000000) (hR0:0≤R') (hRV:R'<V) (he:us.getD i 0+1000000000*R=q*V+R'):DInv us V N i R' (zs.set i q):=by
 have hi:i<us.length:=h.le
 have hlen:=h.len
 have hN:=h.hN
 refine⟨by omega,hR0,hRV,h.L.set hq0 hq1,by simp[hlen],hN,?_⟩
 have e1:((zs.set i q).take us.length)=(zs.take us.length).set i q:=by rw[List.take_set]
 have hi2:i<((zs.take us.length).set i q).length:=by grind
 rw[EZ hi,h.v,e1,EZ hi2]
 have e3:((zs.take us.length).set i q).drop (i+1)=(zs.take us.length).drop (i+1):=by rw[Cl (by omega)]
 grind
theorem DInv.done (h:DInv us V N 0 R zs):val us/V=val (zs.take us.length)∧val us%V=R:=by
 have hv:=h.v
 simp only[o7] at hv
 have h0:=h.R0
 have h1:=h.RV
 exact(Int.ediv_emod_unique (show 0<V by omega)).2 ⟨by rw[hv,tw V];omega,h0,h1⟩
theorem ER (hR:0≤R) (hV:R<V) (hd:0≤d) (hd1:d<1000000000):0≤(d+1000000000*R)/V∧(d+1000000000*R)/V≤999999999:=by
 refine⟨Int.ediv_nonneg (by omega) (by omega),?_⟩
 have:(d+1000000000*R)/V<1000000000:=Int.ediv_lt_of_lt_mul (by omega) (by omega)
 omega
theorem Xw {T hi top:Int}(hV:top*pw n≤V) (htop:0<top) (hT:T<(hi+1)*pw n) (hT0:0≤T) (hVp:0<V):T/V≤hi/top:=by
 have h1:T/V*V≤T:=Int.ediv_mul_le _ (by omega)
 have h0:0≤T/V:=uh hT0 (by omega)
 generalize T/V=q at*
 have h2:q*(top*pw n)≤q*V:=no hV h0
 have hp:=db n
 have h3:q*top*pw n<(hi+1)*pw n:=by grind
 have h4:q*top<hi+1:=Int.lt_of_mul_lt_mul_right h3 (by omega)
 exact(Int.le_ediv_iff_mul_le htop).2 (by omega)
structure HInv (rs:List Int) (n:Nat) (H:Int):Prop where
 h0:0≤H
 h1:H≤999999999999999999
 h:val rs<(H+1)*pw (n-1)
theorem Th (hL:Lim rs) (hn:1≤n) (hl:rs.length=n+1):HInv rs n (rs.getD n 0*1000000000+rs.getD (n-1) 0):=by
 have g1:=dr hL n
 have g2:=dr hL (n-1)
 refine⟨by omega,by omega,?_⟩
 obtain⟨k,rfl⟩: ∃k,n=k+1:=⟨n-1,by omega⟩
 have e1:=nN (xs:=rs) (k:=k+1) (by omega)
 have e2:=nN (xs:=rs) (k:=k) (by omega)
 rw[di (by omega),e2] at e1
 have h1:=fG (hL.take k)
 rw[e1,dY]
 grind
theorem TC (hL:Lim rs) (hn:1≤n) (hl:rs.length=n):HInv rs n (rs.getD (n-1) 0):=by
 have g2:=dr hL (n-1)
 refine⟨by omega,by omega,?_⟩
 obtain⟨k,rfl⟩: ∃k,n=k+1:=⟨n-1,by omega⟩
 have e2:=nN (xs:=rs) (k:=k) (by omega)
 have h1:=fG (hL.take k)
 grind
theorem Pd (hL:Lim rs) (hl:rs.length<n):HInv rs n 0:=by
 refine⟨by omega,by omega,?_⟩
 have h1:=fG hL
 have:=mH (n:=rs.length) (m:=n-1) (by omega)
 omega
theorem Ht (hL:Lim vs) (hN:Nrm vs) (hne:vs≠ []):0<vs.getD (vs.length-1) 0∧vs.getD (vs.length-1) 0*pw (vs.length-1)≤val vs:=by
 obtain⟨ys,y,e,hy⟩:=hN.last hne
 have hl:vs.length=ys.length+1:=by grind
 have hk:vs.length-1<vs.length:=by omega
 have e1:=nN hk
 have h1:=cW (hL.take (vs.length-1))
 have h2:=dr hL (vs.length-1)
 grind
theorem wZ (h0:0≤r) (h:r<pw n):(dA r.natAbs).length≤n:=by
 refine(js _).len (b8 _) ?_
 rw[cr];omega
theorem Yg {s:Int}(hs:0<s):(x*s)/(y*s)=x/y∧(x*s)%(y*s)=x%y*s:=by
 refine⟨Int.mul_ediv_mul_of_pos_left x y hs,?_⟩
 rw[tw x,tw y,Int.mul_emod_mul_of_pos _ _ hs,tw]
theorem Gj (h:Sz k a):Sz k (a.natAbs:Int):=h.of_le (by omega)
theorem qX (ha:Sz 100000000 a) (hb:Sz 100000000 b):Ok Tryz.prog 169 [.c (cL a),.c (cL b)] [.c (.i .i64 (eK a.natAbs b.natAbs))]:=by
 have:=Im (b8 a.natAbs) (b8 b.natAbs) (js _) (js _) (ig ha) (ig hb)
 rw[cr,cr] at this
 exact this
theorem Uq (ha:Sz 100000000 a) (hb:Sz 100000000 b):Ok Tryz.prog 289 [.c (cL a),.c (cL b)] [.c (cL ((a.natAbs:Int)+b.natAbs))]:=by
 have:=SS (b8 a.natAbs) (b8 b.natAbs) (ig ha) (ig hb)
 rw[cr,cr] at this
 exact this
theorem yJ (ha:Sz 100000000 a) (h:b.natAbs≤a.natAbs):Ok Tryz.prog 283 [.c (cL a),.c (cL b)] [.c (cL ((a.natAbs:Int)-b.natAbs))]:=by
 have:=NS (b8 a.natAbs) (b8 b.natAbs) (ig ha) ((js _).len (b8 _) (by have:=fG (b8 a.natAbs);rw[cr] at this⊢;omega)) (by rw[cr,cr];omega)
 rw[cr,cr] at this
 exact this
theorem OP (ha:Sz 100000000 a) (hb:Sz 100000000 b):Ok Tryz.prog 199 [.c (cL a),.c (cL b)] [.c (cL ((a.natAbs:Int)*b.natAbs))]:=by
 have:=Ex (b8 a.natAbs) (b8 b.natAbs) (ig ha) (ig hb)
 rw[cr,cr] at this
 exact this
theorem abT (ha:Sz 100000000 a) (h0:0≤m) (h1:m<1000000000):Ok Tryz.prog 282 [.c (cL a),.c (.i .u32 m)] [.c (cL ((a.natAbs:Int)*m))]:=by
 have:=JP (b8 a.natAbs) (ig ha) h0 h1
 rw[cr] at this
 exact this
theorem jc {neg:Bool}(ha:Sz 100000000 a):Ok Tryz.prog 159 [.c (.b neg),.c (cL a)] [dI (sg neg (a.natAbs:Int))]:=by
 have:=JK (neg:=neg) (b8 a.natAbs) (by have:=ig ha;omega)
 rw[cr] at this
 exact this
theorem Sc (hr:0≤r) (h0:0≤d) (h1:d<1000000000) (hl:(dA r.natAbs).length≤100000000):Ok Tryz.prog 168 [.c (cM (d::dA r.natAbs))] [.c (cL (d+1000000000*r))]:=by
 have:=lT (Lim.cons h0 h1 (b8 r.natAbs)) (by simp;omega)
 rw[ei,cr] at this
 rw[show((r.natAbs:Nat):Int)=r from by omega] at this
 exact this
theorem H0 (ha:a.natAbs≤18446744073709551615):Ok Tryz.prog 171 [.c (cL a)] [.c (.i .u64 (a.natAbs:Int))]:=by
 have:=A5 (b8 a.natAbs) (by have h3:pw 3=1000000000000000000000000000:=by decide
                            have:=(js a.natAbs).len (b8 _) (k:=3) (by rw[cr];omega)
                            omega) (by rw[cr];omega)
 rw[cr] at this
 exact this
theorem NT (hLxs:Lim xs) (hLys:Lim ys) (_nX:Nrm xs) (nY:Nrm ys) (hn:xs.length≤20000000) (hm:ys.length≤20000000) (hy0:ys≠ []):Ok Tryz.prog 170 [.c (cM xs),.c (cM ys)] [.c (cL (val xs/val ys)),.c (cL (val xs%val ys))]:=by
 have hyl:1≤ys.length:=by have:=List.length_pos_iff.2 hy0;omega
 obtain⟨htop,htopv⟩:=Ht hLys nY hy0
 have hB1:=dr hLys (ys.length-1)
 have hvy0:0<val ys:=by have h2:=no (db (ys.length-1)) (show 0≤ys.getD (ys.length-1) 0 by omega);omega
 have hvx0:=cW hLxs
 obtain⟨B,hB⟩: ∃B,ys.getD (ys.length-1) 0=B:=⟨_,rfl⟩
 rw[hB] at htop hB1 htopv
 obtain⟨s,hs⟩: ∃s,1000000000/(B+1)=s:=⟨_,rfl⟩
 have hs1:1≤s:=by rw[←hs];exact(Int.le_ediv_iff_mul_le (by omega)).2 (by omega)
 have hs2:s≤500000000:=by rw[←hs];exact Int.ediv_le_of_le_mul (by omega) (by omega)
 obtain⟨V,hV⟩: ∃V,val ys*s=V:=⟨_,rfl⟩
 obtain⟨W,hW⟩: ∃W,val xs*s=W:=⟨_,rfl⟩
 have hV0:0<V:=by rw[←hV];exact qr hvy0 (by omega)
 have hW0:0≤W:=by rw[←hW];exact fZ hvx0 (by omega)
 have eV:(V.natAbs:Int)=V:=by omega
 have eW:(W.natAbs:Int)=W:=by omega
 have hVb:V<pw (ys.length+1):=by
  have h1:=fG hLys
  have h2:val ys*s≤val ys*1000000000:=no (by omega) (by omega)
  rw[dY];omega
 have hWb:W<pw (xs.length+1):=by
  have h1:=fG hLxs
  have h2:val xs*s≤val xs*1000000000:=no (by omega) (by omega)
  rw[dY];omega
 have hVlen:(dA V.natAbs).length≤ys.length+1:=wZ (by omega) hVb
 have hWlen:(dA W.natAbs).length≤xs.length+1:=wZ hW0 hWb
 have hVne:dA V.natAbs≠ []:=fun e=>by have:=et.1 e;omega
 have hVl1:1≤(dA V.natAbs).length:=by have:=List.length_pos_iff.2 hVne;omega
 obtain⟨htop2,htopv2⟩:=Ht (b8 V.natAbs) (js _) hVne
 have hB2:=dr (b8 V.natAbs) ((dA V.natAbs).length-1)
 rw[cr,eV] at htopv2
 obtain⟨top,ht⟩: ∃top,(dA V.natAbs).getD ((dA V.natAbs).length-1) 0=top:=⟨_,rfl⟩
 rw[ht] at htop2 htopv2 hB2
 obtain⟨n,hnl⟩: ∃n,(dA V.natAbs).length=n:=⟨_,rfl⟩
 rw[hnl] at hVlen hVl1 htopv2 ht
 have hVlt:V<pw n:=by have:=fG (b8 V.natAbs);rw[cr,eV,hnl] at this;exact this
 obtain⟨hq1,hq2⟩:=Yg (x:=val xs) (y:=val ys) (s:=s) (by omega)
 rw[hV,hW] at hq1 hq2
 have szV:Sz 100000000 V:=⟨by have:=mH (n:=ys.length+1) (m:=100000000) (by omega);omega,by have:=db 100000000;omega⟩
 have hby1:Ok Tryz.prog 282 [.c (cM ys),.c (.i .u32 s)] [.c (cL V)]:=by rw[←hV];exact JP hLys (by omega) (by omega) (by omega)
 have hby2:Ok Tryz.prog 282 [.c (cM xs),.c (.i .u32 s)] [.c (cL W)]:=by rw[←hW];exact JP hLxs (by omega) (by omega) (by omega)
 have hbyV: ∀g:Int,0≤g→g<1000000000→Ok Tryz.prog 282 [.c (cL V),.c (.i .u32 g)] [.c (cL (V*g))]:=fun g h0 h1=>by have:=abT szV h0 h1;rw[eV] at this;exact this
 refine eo Tryz.func170 173 [.tmp 4,.tmp 5] rfl<|aa<|ag ?_
 refine m8 (ι:=Unit) (fun i=>⟨173,[(0,.v (.c (cM xs))),(1,.v (.c (cM ys)))],[]⟩) ?_ ?_
 ·refine aa<|ag ?_
  refine jU (bE rfl) (fun c1 hb1=>?_)
  cases c1
  ·refine bz rfl<|aA ?_
   exact⟨(),ap ⟨rfl,rfl,trivial⟩ trivial rfl⟩
  ·have ha2:xs.length≤2:=by simp only[decide_eq_true_eq] at hb1;omega
   refine aJ rfl (fun hc2=>?_) (fun hc2=>?_)
   ·have hb2:ys.length≤2:=by simp only[decide_eq_true_eq] at hc2;omega
    have hp2:pw 2=1000000000000000000:=by decide
    have hvx2:=fG hLxs
    have hvy2:=fG hLys
    have hp3:=mH (n:=xs.length) (m:=2) ha2
    have hp4:=mH (n:=ys.length) (m:=2) hb2
    have hd0:0≤val xs/val ys:=uh (by omega) (by omega)
    have hd1:val xs/val ys≤val xs:=Int.ediv_le_self _ (by omega)
    have hd2:val xs/val ys≤18446744073709551615:=by omega
    have hm0:0≤val xs%val ys:=pG _ (by omega)
    have hm1:val xs%val ys<val ys:=oR _ (by omega)
    have hm2:val xs%val ys≤18446744073709551615:=by omega
    refine aa<|ag<|ac rfl (A5 hLxs (by omega) (by omega))<|ac rfl (A5 hLys (by omega) (by omega))<|aa<|dC 10 []<|aq (kG (r:=val xs/val ys) rfl rfl (by omega) (by rw[ph (by omega)];exact iC (by omega) (by omega)) rfl) ?_
    refine aK rfl (tk (by assumption) (by assumption))<|aq (gD (r:=val xs%val ys) rfl rfl (by omega) (qz hvx0) rfl) ?_
    refine aK rfl (tk (by assumption) (by assumption))<|a7 ?_
    exact ah (az (az ae))
   ·refine aA ?_
    exact⟨(),ap ⟨rfl,rfl,trivial⟩ trivial rfl⟩
 ·rintro⟨⟩
  try dsimp only
  refine aa<|ag ?_
  refine ar (ci (((ys.length-1:Nat):Int)) (by rw[show((ys.length-1:Nat):Int)=(ys.length:Int)-1 from by omega];exact bK (by omega) (by omega)) rfl) ?_
  refine ar (bI jv rfl rfl (by(first|omega|(simp;omega))) (jx _) rfl rfl) ?_
  refine ar (b7 fN rfl (kX (i:=(ys.length-1)) (by(first|omega|(simp;omega)))) rfl) ?_
  refine ar (bZ (r:=B) jF fQ rfl (by rw[hB];exact iC (by omega) (by omega)) rfl) ?_
  refine ar (ci (B+1) (gh (by(first|omega|(simp;omega))) (by(first|omega|(simp;omega)))) rfl) ?_
  refine ar (kG (r:=s) rfl rfl (by omega) (by rw[ph (by omega),hs];exact iC (by omega) (by omega)) rfl) ?_
  refine ar (bZ (r:=s) fQ jF rfl (sV (by omega) (by omega)) rfl) ?_
  refine aa<|ag<|ac rfl (hby1)<|aa<|ag ?_
  refine ar (ci (((n-1:Nat):Int)) (by rw[hnl,show((n-1:Nat):Int)=(n:Int)-1 from by omega];exact bK (by omega) (by omega)) rfl) ?_
  refine ar (bI jv rfl rfl (by(first|omega|(simp;omega))) (jx _) rfl rfl) ?_
  refine ar (b7 fN rfl (kX (i:=(n-1)) (by(first|omega|(simp;omega)))) rfl) ?_
  refine ar (bZ (r:=top) jF fQ rfl (by rw[ht];exact iC (by omega) (by omega)) rfl) ?_
  refine aa<|ag<|aa<|ag ?_
  refine ar (ci ((xs.length:Int)+1) (bh (by(first|omega|(simp;omega))) (by(first|omega|(simp;omega)))) rfl) ?_
  refine DL.mk<|pE (j9 (n:=xs.length+1) xZ rfl rfl (by omega) (by omega) rfl) rfl<|dZ ?_
  refine aa<|ag<|ac rfl (hby2)<|aa<|ag ?_
  refine ar (ou (q:=((dA W.natAbs).length)) jv rfl rfl (by(first|omega|(simp;omega))) rfl) ?_
  refine aa<|aa<|ag ?_
  refine ar (ci ((((dA W.natAbs).length:Int))-1) (bK (by(first|omega|(simp;omega))) (by(first|omega|(simp;omega)))) rfl) ?_
  refine aE<|bn (ι:={t:Nat×Int×List Int // DInv (dA W.natAbs) V (xs.length+1) t.1 t.2.1 t.2.2}) (fun i=>⟨173,[(8,.v (.c (.i .u32 s))),(9,.v (.c (cL V))),(10,.v (.c (.i .u64 top))),(11,.v (.c (cL i.1.2.1))),(12,.o 64 ((dA W.natAbs).length) (xs.length+1)),(13,.v (.c (cL W))),(14,.v (.c (.i .i64 ((i.1.1:Int)-1))))],[(64,194,i.1.2.2.map (CellD.i .u32))]⟩) (fun i=>i.1.1) ⟨((dA W.natAbs).length,0,List.replicate (xs.length+1) 0),DInv.start hV0 hWlen⟩ (ap ⟨rfl,rfl,rfl,by rw[show cL 0=.s 0 [] from by unfold cL;rw[show(0:Int).natAbs=0 from rfl,lH];rfl];rfl,rfl,rfl,rfl,trivial⟩ ⟨by rw[show(List.replicate (xs.length+1) (CellD.i .u32 0))=(List.replicate (xs.length+1) 0).map (CellD.i .u32) from by simp];rfl,trivial⟩ rfl) ?_
  rintro⟨⟨j,R,zs⟩,hI⟩
  replace hI:DInv (dA W.natAbs) V (xs.length+1) j R zs:=hI
  have g6:=hI.len
  have gR0:=hI.R0
  have gRV:=hI.RV
  have gle:=hI.le
  have eR:(R.natAbs:Int)=R:=by omega
  have hRlen:(dA R.natAbs).length≤n:=wZ gR0 (by omega)
  dsimp only
  refine aa<|aa<|ag ?_
  refine aJ rfl (fun hc3=>?_) (fun hc3=>?_)
  ·obtain⟨q,rfl⟩: ∃q,j=q+1:=⟨j-1,by simp only[decide_eq_true_eq] at hc3;omega⟩
   have gd:=dr (b8 W.natAbs) q
   obtain⟨T,hT⟩: ∃T,(dA W.natAbs).getD q 0+1000000000*R=T:=⟨_,rfl⟩
   have hT0:0≤T:=by omega
   have eT:(T.natAbs:Int)=T:=by omega
   have htrim:Ok Tryz.prog 168 [.c (cM ((dA W.natAbs).getD q 0::dA R.natAbs))] [.c (cL T)]:=by rw[←hT];exact Sc gR0 gd.1 gd.2 (by omega)
   have hTb:T<pw (n+1):=by rw[dY];omega
   have hTlen:(dA T.natAbs).length≤n+1:=wZ hT0 hTb
   have szT:Sz 100000000 T:=⟨by have:=mH (n:=n+1) (m:=100000000) (by omega);omega,by have:=db 100000000;omega⟩
   have hquo:=ER gR0 gRV gd.1 gd.2
   rw[hT] at hquo
   have gt1:=dr (b8 T.natAbs) (dA V.natAbs).length
   have gt2:=dr (b8 T.natAbs) (n-1)
   refine lh (σ':=⟨173,[(8,.v (.c (.i .u32 s))),(9,.v (.c (cL V))),(10,.v (.c (.i .u64 top))),(11,.v (.c (cL R))),(12,.o 64 ((dA W.natAbs).length) (xs.length+1)),(13,.v (.c (cL W))),(14,.v (.c (.i .i64 (q:Int))))],[(64,194,zs.map (CellD.i .u32))]⟩) (ap ⟨rfl,rfl,rfl,rfl,rfl,rfl,by rw[show(q:Int)=((q+1:Nat):Int)-1 from by omega];rfl,trivial⟩ ⟨rfl,trivial⟩ rfl) ?_
   refine aA<|aa<|aE<|aa<|ag ?_
   refine ar (bI jv rfl rfl (by(first|omega|(simp;omega))) (jx _) rfl rfl) ?_
   refine ar (b7 fN rfl (kX (i:=q) (by(first|omega|(simp;omega)))) rfl) ?_
   refine DL.mk<|pE (oM (us:=[.i .u32 ((dA W.natAbs).getD q 0)]) xZ rfl rfl (by decide) (by decide) rfl) rfl<|dZ ?_
   refine DL.mk<|Yx (Ea (rs:=dA R.natAbs) xZ rfl rfl rfl (by omega) rfl)<|dZ ?_
   refine ac rfl (htrim)<|aa<|ag ?_
   refine m8 (ι:={H:Int // H=if n<(dA T.natAbs).length then(dA T.natAbs).getD n 0*1000000000 else 0}) (fun i=>⟨173,[(8,.v (.c (.i .u32 s))),(9,.v (.c (cL V))),(10,.v (.c (.i .u64 top))),(11,.v (.c (cL T))),(12,.o 64 ((dA W.natAbs).length) (xs.length+1)),(13,.v (.c (cL W))),(14,.v (.c (.i .i64 (q:Int)))),(15,.v (.c (.i .u64 i.1)))],[(64,194,zs.map (CellD.i .u32))]⟩) ?_ ?_
   ·refine aa<|ag ?_
    refine aJ rfl (fun hc4=>?_) (fun hc4=>?_)
    ·have hlt:(dA V.natAbs).length<(dA T.natAbs).length:=by simp only[decide_eq_true_eq] at hc4;omega
     refine ag ?_
     refine ar (bI jv rfl rfl (by(first|omega|(simp;omega))) (jx _) rfl rfl) ?_
     refine ar (b7 fN rfl (kX (i:=((dA V.natAbs).length)) (by(first|omega|(simp;omega)))) rfl) ?_
     refine ar (bZ (r:=(dA T.natAbs).getD (((dA V.natAbs).length)) 0) jF fQ rfl (iC (by(first|omega|(simp;omega))) (by(first|omega|(simp;omega)))) rfl) ?_
     refine ar (ci (((dA T.natAbs).getD (((dA V.natAbs).length)) 0)*1000000000) (iu (by(first|omega|(simp;omega))) (by(first|omega|(simp;omega)))) rfl) ?_
     exact⟨⟨(dA T.natAbs).getD (dA V.natAbs).length 0*1000000000,by rw[hnl] at*;rw[if_pos (by have:=hc4;simp only[decide_eq_true_eq] at this;omega)]⟩,ap ⟨rfl,rfl,rfl,rfl,rfl,rfl,rfl,rfl,trivial⟩ ⟨rfl,trivial⟩ rfl⟩
    ·refine aA ?_
     exact⟨⟨0,by rw[if_neg (by have:=hc4;simp only[decide_eq_false_iff_not] at this;omega)]⟩,ap ⟨rfl,rfl,rfl,rfl,rfl,rfl,rfl,rfl,trivial⟩ ⟨rfl,trivial⟩ rfl⟩
   ·rintro⟨H1,hH1⟩
    replace hH1:H1=if n<(dA T.natAbs).length then(dA T.natAbs).getD n 0*1000000000 else 0:=hH1
    rw[hnl] at gt1
    have hHb:0≤H1∧H1≤999999999000000000:=by rw[hH1];split<;>omega
    dsimp only
    refine m8 (ι:={H:Int // HInv (dA T.natAbs) n H}) (fun i=>⟨173,[(8,.v (.c (.i .u32 s))),(9,.v (.c (cL V))),(10,.v (.c (.i .u64 top))),(11,.v (.c (cL T))),(12,.o 64 ((dA W.natAbs).length) (xs.length+1)),(13,.v (.c (cL W))),(14,.v (.c (.i .i64 (q:Int)))),(15,.v (.c (.i .u64 i.1)))],[(64,194,zs.map (CellD.i .u32))]⟩) ?_ ?_
    ·refine aa<|ag ?_
     refine aJ rfl (fun hc5=>?_) (fun hc5=>?_)
     ·have hlt:n≤(dA T.natAbs).length:=by simp only[decide_eq_true_eq] at hc5;omega
      have hHT:HInv (dA T.natAbs) n (H1+(dA T.natAbs).getD (n-1) 0):=by
       rcases gO n (dA T.natAbs).length with h1|h1
       ·rw[hH1,if_pos h1];exact Th (b8 _) (by omega) (by omega)
       ·rw[hH1,if_neg (by omega),Int.zero_add];exact TC (b8 _) (by omega) (by omega)
      refine ag ?_
      refine ar (ci (((n-1:Nat):Int)) (by rw[hnl,show((n-1:Nat):Int)=(n:Int)-1 from by omega];exact bK (by omega) (by omega)) rfl) ?_
      refine ar (bI jv rfl rfl (by(first|omega|(simp;omega))) (jx _) rfl rfl) ?_
      refine ar (b7 fN rfl (kX (i:=(n-1)) (by(first|omega|(simp;omega)))) rfl) ?_
      refine ar (bZ (r:=(dA T.natAbs).getD (n-1) 0) jF fQ rfl (iC (by(first|omega|(simp;omega))) (by(first|omega|(simp;omega)))) rfl) ?_
      refine ar (ci (H1+((dA T.natAbs).getD (n-1) 0)) (gh (by(first|omega|(simp;omega))) (by(first|omega|(simp;omega)))) rfl) ?_
      exact⟨⟨H1+(dA T.natAbs).getD (n-1) 0,hHT⟩,ap ⟨rfl,rfl,rfl,rfl,rfl,rfl,rfl,rfl,trivial⟩ ⟨rfl,trivial⟩ rfl⟩
     ·have hHF:HInv (dA T.natAbs) n H1:=by
       simp only[decide_eq_false_iff_not] at hc5
       rw[hH1,if_neg (by omega)];exact Pd (b8 _) (by omega)
      refine aA ?_
      exact⟨⟨H1,hHF⟩,ap ⟨rfl,rfl,rfl,rfl,rfl,rfl,rfl,rfl,trivial⟩ ⟨rfl,trivial⟩ rfl⟩
    ·rintro⟨H,hH⟩
     replace hH:HInv (dA T.natAbs) n H:=hH
     have hHa:=hH.h0
     have hHc:=hH.h1
     have hHh:=hH.h
     rw[cr,eT] at hHh
     have hest:=Xw htopv2 htop2 hHh hT0 hV0
     have hq0:0≤H/top:=uh (by omega) (by omega)
     have hq9:H/top≤H:=Int.ediv_le_self _ (by omega)
     dsimp only
     refine aa<|ag<|ar (kG (r:=H/top) rfl rfl (by omega) (by rw[ph (by omega)];exact iC (by omega) (by omega)) rfl) ?_
     refine m8 (ι:={g:Int // T/V≤g∧g≤999999999}) (fun i=>⟨173,[(8,.v (.c (.i .u32 s))),(9,.v (.c (cL V))),(10,.v (.c (.i .u64 top))),(11,.v (.c (cL T))),(12,.o 64 ((dA W.natAbs).length) (xs.length+1)),(13,.v (.c (cL W))),(14,.v (.c (.i .i64 (q:Int)))),(16,.v (.c (.i .u64 i.1)))],[(64,194,zs.map (CellD.i .u32))]⟩) ?_ ?_
     ·refine aa<|ag ?_
      refine aJ rfl (fun hc6=>?_) (fun hc6=>?_)
      ·refine ag ?_
       exact⟨⟨999999999,hquo.2,qw _⟩,ap ⟨rfl,rfl,rfl,rfl,rfl,rfl,rfl,rfl,trivial⟩ ⟨rfl,trivial⟩ rfl⟩
      ·refine aA ?_
       exact⟨⟨H/top,hest,by have:=hc6;simp only[decide_eq_false_iff_not] at this;omega⟩,ap ⟨rfl,rfl,rfl,rfl,rfl,rfl,rfl,rfl,trivial⟩ ⟨rfl,trivial⟩ rfl⟩
     ·rintro⟨g,hg⟩
      replace hg:T/V≤g∧g≤999999999:=hg
      dsimp only
      refine aa<|ag<|ar (bZ (r:=g) fQ jF rfl (sV (by omega) (by omega)) rfl) ?_
      refine ac rfl (hbyV g (by omega) (by omega))<|aa<|aE<|bn (ι:={g:Int // T/V≤g∧g≤999999999}) (fun i=>⟨173,[(8,.v (.c (.i .u32 s))),(9,.v (.c (cL V))),(10,.v (.c (.i .u64 top))),(11,.v (.c (cL T))),(12,.o 64 ((dA W.natAbs).length) (xs.length+1)),(13,.v (.c (cL W))),(14,.v (.c (.i .i64 (q:Int)))),(16,.v (.c (.i .u64 i.1))),(17,.v (.c (cL (V*i.1))))],[(64,194,zs.map (CellD.i .u32))]⟩) (fun i=>i.1.toNat) ⟨g,hg⟩ (ap ⟨rfl,rfl,rfl,rfl,rfl,rfl,rfl,rfl,rfl,trivial⟩ ⟨rfl,trivial⟩ rfl) ?_
      rintro⟨g,hg⟩
      replace hg:T/V≤g∧g≤999999999:=hg
      have hVg0:0≤V*g:=fZ (by omega) (by omega)
      have eVg:((V*g).natAbs:Int)=V*g:=by omega
      have hVgb:V*g≤V*1000000000:=no (by omega) (by omega)
      have szP:Sz 100000000 (V*g):=⟨by have:=mH (n:=n+1) (m:=100000000) (by omega);rw[dY] at this;omega,by have:=db 100000000;omega⟩
      have hcmp:Ok Tryz.prog 169 [.c (cL (V*g)),.c (cL T)] [.c (.i .i64 (eK (V*g) T))]:=by have:=qX szP szT;rw[eVg,eT] at this;exact this
      dsimp only
      refine aa<|aa<|ag<|ac rfl (hcmp) ?_
      refine aJ rfl (fun hc7=>?_) (fun hc7=>?_)
      ·have hgt:T<V*g:=by simp only[decide_eq_true_eq] at hc7;rcases rE (V*g) T with h1|h1|h1<;>first|(rw[fj h1] at hc7;omega)|(rw[j8 h1] at hc7;omega)|exact h1
       have hg2:T/V≤g-1:=by have:T/V<g:=(Int.ediv_lt_iff_lt_mul hV0).2 (by rw[tw];exact hgt);omega
       have hVm:V*(g-1)=V*g-V:=by rw[Int.mul_sub,Int.mul_one]
       have hVm0:0≤V*(g-1):=fZ (by omega) (by omega)
       have hmin:Ok Tryz.prog 283 [.c (cL (V*g)),.c (cL V)] [.c (cL (V*(g-1)))]:=by have:=yJ (b:=V) szP (by omega);rw[eVg,eV,←hVm] at this;exact this
       refine aA<|aE<|aa<|ag ?_
       refine ar (ci (g-1) (Jm (by(first|omega|(simp;omega))) (by(first|omega|(simp;omega)))) rfl) ?_
       refine ag<|ac rfl (hmin) ?_
       exact⟨⟨g-1,hg2,by omega⟩,ap ⟨rfl,rfl,rfl,rfl,rfl,rfl,rfl,rfl,rfl,trivial⟩ ⟨rfl,trivial⟩ rfl,by show(g-1).toNat<g.toNat;omega⟩
      ·have hle:V*g≤T:=by simp only[decide_eq_false_iff_not] at hc7;rcases rE (V*g) T with h1|h1|h1<;>first|omega|(rw[fm h1] at hc7;omega)
       have hgq:g=T/V:=by have:g≤T/V:=(Int.le_ediv_iff_mul_le hV0).2 (by rw[tw];exact hle);omega
       have hr0:0≤T-V*g:=by omega
       have hr1:T-V*g<V:=by have:=oR T hV0;have h2:=sr T V;rw[←hgq] at h2;omega
       have hmin:Ok Tryz.prog 283 [.c (cL T),.c (cL (V*g))] [.c (cL (T-V*g))]:=by have:=yJ (b:=V*g) szT (by omega);rw[eVg,eT] at this;exact this
       refine bi<|aa<|ag<|ac rfl (hmin)<|bm<|bU 3<|aU (bZ (r:=g) fQ jF rfl (sV (by omega) (by omega)) rfl) ?_
       refine aU (bo jv rfl rfl (by(first|omega|(simp;omega))) rfl) ?_
       refine gi (aY (us:=(zs.set q g).map (CellD.i .u32)) fN rfl rfl rfl rfl (by simp;omega) (rM (by(first|omega|(simp;omega)))) rfl) ?_
       refine bt<|ag ?_
       refine ar (ci ((q:Int)-1) (bK (by(first|omega|(simp;omega))) (by(first|omega|(simp;omega)))) rfl) ?_
       exact⟨⟨(q,T-V*g,zs.set q g),hI.step (b8 _) (by omega) (by omega) hr0 hr1 (by rw[hT];show T=g*V+(T-V*g);rw[tw g V];omega)⟩,ap ⟨rfl,rfl,rfl,rfl,rfl,rfl,rfl,trivial⟩ ⟨rfl,trivial⟩ rfl,by show q<q+1;omega⟩
  ·have hj0:j=0:=by simp only[decide_eq_false_iff_not] at hc3;omega
   subst hj0
   obtain⟨d1,d2⟩:=hI.done
   rw[cr,eW] at d1 d2
   refine bi<|aa<|ag<|aa<|ag ?_
   refine DL.mk<|pE (j9 (n:=((dA R.natAbs).length)) xZ rfl rfl (by omega) (by omega) rfl) rfl<|dZ ?_
   refine aa<|aa<|ag ?_
   refine ar (ci ((((dA R.natAbs).length:Int))-1) (bK (by(first|omega|(simp;omega))) (by(first|omega|(simp;omega)))) rfl) ?_
   refine aE<|bn (ι:={t:Nat×Int×List Int // DInv (dA R.natAbs) s (dA R.natAbs).length t.1 t.2.1 t.2.2}) (fun i=>⟨173,[(8,.v (.c (.i .u32 s))),(11,.v (.c (cL R))),(12,.o 64 ((dA W.natAbs).length) (xs.length+1)),(18,.v (.c (.i .u64 i.1.2.1))),(19,.o 141 ((dA R.natAbs).length) ((dA R.natAbs).length)),(20,.v (.c (.i .i64 ((i.1.1:Int)-1))))],[(64,194,zs.map (CellD.i .u32)),(141,194,i.1.2.2.map (CellD.i .u32))]⟩) (fun i=>i.1.1) ⟨((dA R.natAbs).length,0,List.replicate (dA R.natAbs).length 0),DInv.start (by omega) (cg _)⟩ (ap ⟨rfl,rfl,rfl,rfl,rfl,rfl,trivial⟩ ⟨rfl,by rw[show(List.replicate (dA R.natAbs).length (CellD.i .u32 0))=(List.replicate (dA R.natAbs).length 0).map (CellD.i .u32) from by simp];rfl,trivial⟩ rfl) ?_
   rintro⟨⟨j2,c,ls⟩,hI2⟩
   replace hI2:DInv (dA R.natAbs) s (dA R.natAbs).length j2 c ls:=hI2
   have k6:=hI2.len
   have k0:=hI2.R0
   have k1:=hI2.RV
   have kle:=hI2.le
   dsimp only
   refine aa<|aa<|ag ?_
   refine aJ rfl (fun hc8=>?_) (fun hc8=>?_)
   ·obtain⟨q2,rfl⟩: ∃q,j2=q+1:=⟨j2-1,by simp only[decide_eq_true_eq] at hc8;omega⟩
    have gd:=dr (b8 R.natAbs) q2
    have hb0:=ER k0 k1 gd.1 gd.2
    rw[show(dA R.natAbs).getD q2 0+1000000000*c=c*1000000000+(dA R.natAbs).getD q2 0 from by omega] at hb0
    have hd20:0≤(c*1000000000+(dA R.natAbs).getD q2 0)/s:=hb0.1
    have hd21:(c*1000000000+(dA R.natAbs).getD q2 0)/s<1000000000:=by omega
    have hr20:0≤(c*1000000000+(dA R.natAbs).getD q2 0)%s:=pG _ (by omega)
    have hr21:(c*1000000000+(dA R.natAbs).getD q2 0)%s<s:=oR _ (by omega)
    refine lh (σ':=⟨173,[(8,.v (.c (.i .u32 s))),(11,.v (.c (cL R))),(12,.o 64 ((dA W.natAbs).length) (xs.length+1)),(18,.v (.c (.i .u64 c))),(19,.o 141 ((dA R.natAbs).length) ((dA R.natAbs).length)),(20,.v (.c (.i .i64 (q2:Int))))],[(64,194,zs.map (CellD.i .u32)),(141,194,ls.map (CellD.i .u32))]⟩) (ap ⟨rfl,rfl,rfl,rfl,rfl,by rw[show(q2:Int)=((q2+1:Nat):Int)-1 from by omega];rfl,trivial⟩ ⟨rfl,rfl,trivial⟩ rfl) ?_
    refine aA<|aa<|aE<|aa<|ag ?_
    refine ar (ci (c*1000000000) (iu (by(first|omega|(simp;omega))) (by(first|omega|(simp;omega)))) rfl) ?_
    refine ar (bI jv rfl rfl (by(first|omega|(simp;omega))) (jx _) rfl rfl) ?_
    refine ar (b7 fN rfl (kX (i:=q2) (by(first|omega|(simp;omega)))) rfl) ?_
    refine ar (bZ (r:=(dA R.natAbs).getD q2 0) jF fQ rfl (iC (by(first|omega|(simp;omega))) (by(first|omega|(simp;omega)))) rfl) ?_
    refine ar (ci ((c*1000000000)+((dA R.natAbs).getD q2 0)) (gh (by(first|omega|(simp;omega))) (by(first|omega|(simp;omega)))) rfl) ?_
    refine aa<|bm<|bU 4 ?_
    refine aU (bZ (r:=s) jF fQ rfl (iC (by(first|omega|(simp;omega))) (by(first|omega|(simp;omega)))) rfl) ?_
    refine aU (kG (r:=(c*1000000000+(dA R.natAbs).getD q2 0)/s) rfl rfl (by omega) (by rw[ph (by omega)];exact iC (by omega) (by omega)) rfl) ?_
    refine aU (bZ (r:=(c*1000000000+(dA R.natAbs).getD q2 0)/s) fQ jF rfl (sV (by omega) (by omega)) rfl) ?_
    refine aU (bo jv rfl rfl (by(first|omega|(simp;omega))) rfl) ?_
    refine gi (aY (us:=(ls.set q2 ((c*1000000000+(dA R.natAbs).getD q2 0)/s)).map (CellD.i .u32)) fN rfl rfl rfl rfl (by simp;omega) (rM (by(first|omega|(simp;omega)))) rfl) ?_
    refine bt<|ag ?_
    refine ar (bZ (r:=s) jF fQ rfl (iC (by(first|omega|(simp;omega))) (by(first|omega|(simp;omega)))) rfl) ?_
    refine ar (gD (r:=(c*1000000000+(dA R.natAbs).getD q2 0)%s) rfl rfl (by omega) (qz (by omega)) rfl) ?_
    refine ag ?_
    refine ar (ci ((q2:Int)-1) (bK (by(first|omega|(simp;omega))) (by(first|omega|(simp;omega)))) rfl) ?_
    exact⟨⟨(q2,(c*1000000000+(dA R.natAbs).getD q2 0)%s,ls.set q2 ((c*1000000000+(dA R.natAbs).getD q2 0)/s)),hI2.step (b8 _) hd20 hd21 hr20 hr21 (by rw[tw ((c*1000000000+(dA R.natAbs).getD q2 0)/s) s,sr];omega)⟩,ap ⟨rfl,rfl,rfl,rfl,rfl,rfl,trivial⟩ ⟨rfl,rfl,trivial⟩ rfl,by show q2<q2+1;omega⟩
   ·have hj0:j2=0:=by simp only[decide_eq_false_iff_not] at hc8;omega
    subst hj0
    obtain⟨d3,d4⟩:=hI2.done
    rw[cr,eR,jm (by omega)] at d3
    have f1:val xs/val ys=val (zs.take (dA W.natAbs).length):=by rw[←hq1,d1]
    have f2:val xs%val ys=val ls:=by rw[←d3,←d2,hq2,Int.mul_ediv_cancel _ (by omega)]
    have hLo:Lim (zs.take (dA W.natAbs).length):=hI.L.take _
    have hLl:=hI2.L
    refine bi<|aa ?_
    refine ww (t:=12) (zs:=zs) (ys:=zs.take ((dA W.natAbs).length)) rfl rfl (by first|omega|(simp;omega)|simp) (by omega) (by omega) (rfl) ?_
    refine ww (t:=19) (zs:=ls) (ys:=ls) rfl rfl (by first|omega|(simp;omega)|simp) (by omega) (by omega) (jm (by first|omega|(simp;omega)|simp)) ?_
    refine ag<|ac rfl (lT hLo (by simp<;>omega))<|ac rfl (lT hLl (by omega))<|a7 ?_
    rw[f1,f2]
    exact ah (az (az ae))
theorem OT (x:Int):cL x=cL ((x.natAbs:Nat):Int):=rfl
theorem Dt (ha:Sz 20000000 a) (hb:Sz 20000000 b) (h0:b≠0):Ok Tryz.prog 170 [.c (cL a),.c (cL b)] [.c (cL ((a.natAbs:Int)/b.natAbs)),.c (cL ((a.natAbs:Int)%b.natAbs))]:=by
 have:=NT (b8 a.natAbs) (b8 b.natAbs) (js _) (js _) (ig ha) (ig hb) (fun e=>by have:=et.1 e;omega)
 rw[cr,cr] at this
 exact this
theorem TR (h:(decide (x<0)==decide (y<0))=true):sg (decide (x<0)) ((((x.natAbs:Int)+y.natAbs).natAbs:Nat):Int)=x+y:=by
 by_cases h1:x<0<;>by_cases h2:y<0<;>simp[h1,h2,sg] at h⊢ <;>omega
theorem aaJ (h:(decide (x<0)==decide (y<0))=false) (hg:y.natAbs≤x.natAbs):sg (decide (x<0)) ((((x.natAbs:Int)-y.natAbs).natAbs:Nat):Int)=x+y:=by
 by_cases h1:x<0<;>by_cases h2:y<0<;>simp[h1,h2,sg] at h⊢ <;>omega
theorem abW (h:(decide (x<0)==decide (y<0))=false) (hg:x.natAbs<y.natAbs):sg (decide (y<0)) ((((y.natAbs:Int)-x.natAbs).natAbs:Nat):Int)=x+y:=by
 by_cases h1:x<0<;>by_cases h2:y<0<;>simp[h1,h2,sg] at h⊢ <;>omega
theorem ZI:sg (!(decide (x<0)==decide (y<0))) ((((x.natAbs:Int)*y.natAbs).natAbs:Nat):Int)=x*y:=by
 by_cases h1:x<0<;>by_cases h2:y<0<;>simp only[h1,h2,sg,decide_true,decide_false,Bool.not_true,tS,beq_self_eq_true,Bool.false_eq_true,if_true,if_false,show(true==false)=false from rfl,show(false==true)=false from rfl]
 ·grind
 ·grind
 ·grind
 grind
theorem Ze:sg (!decide (x<0)) ((x.natAbs:Nat):Int)= -x:=by
 by_cases h1:x<0<;>simp[h1,sg]<;>omega
theorem FU (h:decide (eK a b≥0)=true):b≤a:=by
 simp only[decide_eq_true_eq] at h
 rcases rE a b with h1|h1|h1
 ·rw[fj h1] at h;omega
 ·omega
 grind
theorem Gc (h:decide (eK a b≥0)=false):a<b:=by
 simp only[decide_eq_false_iff_not] at h
 rcases rE a b with h1|h1|h1
 ·omega
 ·rw[j8 h1] at h;omega
 ·rw[fm h1] at h;omega
theorem FS (hx:decide (x<0)=false) (hy: ¬(y<0)):eK x.natAbs y.natAbs=eK x y:=by grind
theorem G2 (hx:decide (x<0)=true) (hy:y<0):eK y.natAbs x.natAbs=eK x y:=by
 simp only[decide_eq_true_eq] at hx
 rw[show(y.natAbs:Int)= -y from by omega,show(x.natAbs:Int)= -x from by omega,HE]
theorem aaY:sg (!(decide (x<0)==decide (y<0))) (((((x.natAbs:Int)/y.natAbs).natAbs:Nat)):Int)=q0 x y:=by
 unfold q0
 grind
theorem aaB (_h0:y≠0):sg (decide (x<0)) (((((x.natAbs:Int)%y.natAbs).natAbs:Nat)):Int)=r0 x y:=by
 unfold r0
 grind
theorem Mk:(x.natAbs:Int)%y.natAbs=0↔r0 x y=0:=by
 unfold r0
 generalize decide (x<0)=s
 cases s
 ·rw[dd]
 ·rw[gJ];omega
theorem MD (_h0:y≠0) (h:(x.natAbs:Int)%y.natAbs≠0):(r0 x y<0↔x<0):=by
 unfold r0
 by_cases hx:x<0
 ·rw[show decide (x<0)=true from by simpa using hx,gJ];omega
 ·rw[show decide (x<0)=false from by simpa using hx,dd];omega
structure RG (x y a c:Int):Prop where
 sa:Sz 20000000 a
 sc:Sz 20000000 c
 a0:0≤a
 c0:0≤c
 g:Int.gcd a c=Int.gcd x y
theorem RG.start (hx:Sz 20000000 x) (hy:Sz 20000000 y):RG x y (x.natAbs:Int) (y.natAbs:Int):=⟨hx.of_le (by omega),hy.of_le (by omega),by omega,by omega,rfl⟩
theorem RG.step (h:RG x y a c) (hc:c≠0):RG x y c ((a.natAbs:Int)%c.natAbs):=by
 have h1:=h.a0
 have h2:=h.c0
 have e1:(a.natAbs:Int)=a:=by omega
 have e2:(c.natAbs:Int)=c:=by omega
 rw[e1,e2]
 have h3:=pG a hc
 have h4:=oR a (show 0<c by omega)
 exact⟨h.sc,h.sc.of_le (by omega),h2,h3,by rw[←h.g,F8 h1 h2]⟩
theorem RG.less (h:RG x y a c) (hc:c≠0):((a.natAbs:Int)%c.natAbs).toNat<c.toNat:=by
 have:=h.c0
 have:=Oe (x:=a) hc
 omega
theorem RG.done (h:RG x y a c) (hc:c=0):(Int.gcd x y:Int)=sg false ((a.natAbs:Nat):Int):=by
 rw[←h.g,hc,dd];simp
theorem Mv (h:decide (((dA a.natAbs).length:Int)>2)=false):a.natAbs≤18446744073709551615:=by
 simp only[decide_eq_false_iff_not] at h
 have h1:=fG (b8 a.natAbs)
 rw[cr] at h1
 have h2:=mH (n:=(dA a.natAbs).length) (m:=2) (by omega)
 have h3:pw 2=1000000000000000000:=by decide
 omega
theorem RG.word (h:RG x y a c) (ha:a.natAbs≤18446744073709551615) (hc:c.natAbs≤18446744073709551615):GInv2 x y (a.natAbs:Int) (c.natAbs:Int):=
 ⟨by omega,by omega,by omega,by omega,by rw[←h.g];rfl⟩
theorem GInv2.fin (h:GInv2 x y u v) (hv:v≤0):(Int.gcd x y:Int)=sg false ((u.natAbs:Nat):Int):=by
 rw[h.done hv,dd,dd];have:=h.u0;omega
theorem Sz.small3 (h0:0≤x) (h1:x≤18446744073709551615):Sz 100000000 x:=by
 have h3:pw 3=1000000000000000000000000000:=by decide
 have:Sz 3 x:=⟨by omega,by omega⟩
 exact this.mono (by decide)
theorem acR (hx:Sz 20000000 x):Sz 100000000 ((x.natAbs:Int)/y.natAbs):=by
 have h1:(x.natAbs:Int)/(y.natAbs:Int)≤x.natAbs:=Int.ediv_le_self _ (by omega)
 have h2:0≤(x.natAbs:Int)/(y.natAbs:Int):=by grind
 exact(hx.mono (by decide)).of_le (by omega)
theorem abq (hy:Sz 20000000 y) (h0:y≠0):Sz 100000000 ((x.natAbs:Int)%y.natAbs):=by
 have:=Oe (x:=x) h0
 exact(hy.mono (by decide)).of_le (by omega)
theorem Hg (hn:x<0) (h0: -9223372036854775808≤x):IntKind.u64.wrap x=x+18446744073709551616:=by unfold IntKind.wrap;simp[IntKind.bits,IntKind.signed];omega
theorem Eo (hn:x<0) (h0: -9223372036854775808≤x):IntKind.u64.wrap (0-(x+18446744073709551616))= -x:=by unfold IntKind.wrap;simp[IntKind.bits,IntKind.signed];omega
theorem fa {P:Program}{ops:Array Oper}{T:TF}{B:BF}{x:Operand}{k:IntKind}
 (hx:cG T x=some (.v (.c (.i k m)))) (hr:k.wrap (0-m)=r) (hg:gd ops ⟨dst,.unOp .neg xt x,ty,pos,af,g⟩ T=some true):
 Sem P ops ⟨dst,.unOp .neg xt x,ty,pos,af,g⟩ T B (.r (.v (.c (.i k r)))):=by subst hr;exact Vy hx hg
theorem Kj (h:Sz 100000000 ((x.natAbs:Int)/y.natAbs)):Ok Tryz.prog 159 [.c (.b (!(decide (x<0)==decide (y<0)))),.c (cL ((x.natAbs:Int)/y.natAbs))] [dI (q0 x y)]:=by
 rw[←aaY];exact jc h
theorem J5 (h0:y≠0) (h:Sz 100000000 ((x.natAbs:Int)%y.natAbs)):Ok Tryz.prog 159 [.c (.b (decide (x<0))),.c (cL ((x.natAbs:Int)%y.natAbs))] [dI (r0 x y)]:=by
 rw[←aaB h0];exact jc h
theorem PB (h:(decide (x<0)==decide (y<0))=true):(eK x.natAbs y.natAbs==0)=(x==y):=by
 have hs:x<0↔y<0:=by grind
 rcases rE (x.natAbs:Int) y.natAbs with h1|h1|h1
 ·rw[fj h1,show(x==y)=false from by simp only[beq_eq_false_iff_ne];omega];rfl
 ·rw[j8 h1,show(x==y)=true from by simp only[beq_iff_eq];omega];rfl
 ·rw[fm h1,show(x==y)=false from by simp only[beq_eq_false_iff_ne];omega];rfl
def isq:Nat→Nat
 |0=>0
 |n+1=>if (isq n+1)*(isq n+1)≤n+1 then isq n+1 else isq n
theorem Hn (n:Nat):isq n*isq n≤n∧n<(isq n+1)*(isq n+1):=by
 induction n with
 |zero=>exact⟨by decide,by decide⟩
 |succ n ih=>
  unfold isq
  split
  ·grind
  grind
theorem OG (ha:0≤a) (h:a≤b):a*a≤b*b:=rm h h ha (by omega)
theorem EG (hb:0≤b) (h:a*a<b*b):a<b:=by
 by_cases h1:a<b
 ·grind
 ·have:=OG hb (show b≤a by omega);omega
def bY (x:Int):Int:=if x<0 then 0 else(isq x.toNat:Nat)
theorem fg (x:Int):0≤bY x:=by unfold bY;split<;>omega
theorem rJ (h:0≤x):bY x*bY x≤x:=by
 unfold bY;rw[if_neg (by omega)]
 have:=(Hn x.toNat).1
 grind
theorem wI (h:0≤x):x<(bY x+1)*(bY x+1):=by
 unfold bY;rw[if_neg (by omega)]
 have:=(Hn x.toNat).2
 grind
theorem Bh (h:0≤x) (hr:0≤r) (h1:r*r≤x) (h2:x<(r+1)*(r+1)):bY x=r:=by
 have a1:=rJ h
 have a2:=wI h
 have a0:=fg x
 have:=EG (a:=r) (b:=bY x+1) (by omega) (by omega)
 have:=EG (a:=bY x) (b:=r+1) (by omega) (by omega)
 omega
theorem E5:bY 0=0:=by decide
theorem vz (h:x<0):bY x=0:=by unfold bY;rw[if_pos h]
theorem Ro:(bY x).natAbs≤x.natAbs:=by
 have h0:=fg x
 by_cases h:x<0
 ·rw[vz h];omega
 ·have h1:=rJ (show 0≤x by omega)
  by_cases h2:bY x<1
  ·omega
  ·have:=no (show 1≤bY x by omega) h0
   omega
theorem Jl (a b:Int):4*(a*b)≤(a+b)*(a+b):=by
 have h:0≤(a-b)*(a-b):=by
  rcases Int.le_total 0 (a-b) with h|h
  ·exact fZ h h
  ·exact Int.mul_nonneg_of_nonpos_of_nonpos h h
 grind
theorem PZ (hx:0<x) (hr:0<r) (_hup:x<(r+1)*(r+1)):
 0≤(r+x.fdiv r).fdiv 2∧x<((r+x.fdiv r).fdiv 2+1)*((r+x.fdiv r).fdiv 2+1)∧0<(r+x.fdiv r).fdiv 2∧0≤x.fdiv r∧x.fdiv r≤x:=by
 have hq0:0≤x/r:=uh (by omega) (by omega)
 have hq1:x/r≤x:=Int.ediv_le_self _ (by omega)
 have hq2:x<r*(x/r+1):=by have h1:=sr x r;have h2:=oR x hr;rw[Int.mul_add];omega
 obtain⟨q,hq⟩: ∃q,x/r=q:=⟨_,rfl⟩
 obtain⟨n,hn⟩: ∃n,(r+q)/2=n:=⟨_,rfl⟩
 have h4:=Jl r (q+1)
 have h5:(r+(q+1))*(r+(q+1))≤(2*(n+1))*(2*(n+1)):=OG (by omega) (by omega)
 grind
theorem IJ (_hx:0<x) (hr:0<r) (h:r≤(r+x.fdiv r).fdiv 2):r*r≤x:=by
 rw[pv _ (by omega:(0:Int)≤r),pv _ (by omega:(0:Int)≤2)] at h
 have h1:=sr x r
 have h2:=pG x (show r≠0 by omega)
 have h3:r≤x/r:=by omega
 have:=no h3 (show 0≤r by omega)
 omega
structure NInv (K:Nat) (x r:Int):Prop where
 r0:0<r
 sz:Sz K r
 up:x<(r+1)*(r+1)
theorem NInv.sum (h:NInv K x r) (hs:Sz K x) (hx:0<x):Sz K (x.fdiv r)∧Sz (K+1) (r+x.fdiv r)∧Sz (K+1) ((r+x.fdiv r).fdiv 2):=by
 obtain⟨h1,h2,h3,h4,h5⟩:=PZ hx h.r0 h.up
 have h6:Sz K (x.fdiv r):=hs.of_le (by omega)
 have h7:=h.sz.add h6
 refine⟨h6,h7,h7.of_le ?_⟩
 grind
theorem NInv.next (h:NInv K x r) (hx:0<x) (hl:(r+x.fdiv r).fdiv 2<r):NInv K x ((r+x.fdiv r).fdiv 2):=by
 obtain⟨h1,h2,h3,h4,h5⟩:=PZ hx h.r0 h.up
 exact⟨h3,h.sz.of_le (by omega),h2⟩
theorem NInv.done (h:NInv K x r) (hx:0<x) (hl:r≤(r+x.fdiv r).fdiv 2):bY x=r:=
 Bh (by omega) (by have:=h.r0;omega) (IJ hx h.r0 hl) h.up
theorem zY:dI 0=.a ([.b false]++[.s 0 []]):=by unfold dI cI;rw[show cL 0=.s 0 [] from by unfold cL;rw[show(0:Int).natAbs=0 from rfl,lH];rfl];rfl
theorem abM (h:0≤v):([CellD.b false]++[cL v])=cI v:=by unfold cI;rw[show decide (v<0)=false from by simp;omega];rfl
theorem acU (_h0:0≤x) (h:x<pw n) (hk:n≤2*k):x<(pw k+1)*(pw k+1):=by
 have h1:=mH (n:=n) (m:=2*k) hk
 have h2:pw (2*k)=pw k*pw k:=by rw[show 2*k=k+k from by omega,qY]
 have h3:=db k
 grind
theorem NInv.start (h0:0<x) (_hs:Sz K x) (hk:((dA x.natAbs).length+1)/2=k) (hK:k<K):NInv K x (pw k):=by
 have hv:=fG (b8 x.natAbs)
 rw[cr] at hv
 refine⟨db k,?_,acU (n:=(dA x.natAbs).length) (by omega) (by omega) (by omega)⟩
 have h1:Sz (k+1) (pw k):=⟨by have:=db k;rw[dY];omega,by have:=db k;have:=db (k+1);omega⟩
 exact h1.mono (by omega)
theorem YD (n:Nat):val (List.replicate n 0++[1])=pw n:=by
 induction n with
 |zero=>decide
 |succ n ih=>rw[List.replicate_succ,List.cons_append,ei,ih,dY];omega
theorem ab4 (n:Nat):cL (pw n)=cM (List.replicate n 0++[1]):=by
 have hL:Lim (List.replicate n 0++[1]):=(Lim.zeros n).append (Lim.nil.cons (by omega) (by omega))
 have hN:Nrm (List.replicate n 0++[1]):=by
  induction n with
  |zero=>exact CH [] 1 (by decide)
  |succ n ih=>exact Iz (ih ((Lim.zeros n).append (Lim.nil.cons (by omega) (by omega)))) (by simp)
 rw[W7,←YD]
 have:=KK hN hL
 rw[show(val (List.replicate n 0++[1])).natAbs=(val (List.replicate n 0++[1])).toNat from by have:=cW hL;omega,←this]
variable {P:Program}{ops:Array Oper}{T:TF}{B:BF}
theorem xo {x y:Operand}{z:CellD}
 (hU:tG P U=some (e,1,4,[z])) (hx:cG T x=some (.o k n n)) (hy:cG T y=some (.v (.c (cM [1])))) (hb:B k=some (e,List.replicate n (CellD.i .u32 0))) (hl:n≤1000000000)
 (hg:gd ops ⟨dst,.call ⟨.builtin .append,#[x,y],#[U,U]⟩,ty,pos,af,g⟩ T=some true):
 Sem P ops ⟨dst,.call ⟨.builtin .append,#[x,y],#[U,U]⟩,ty,pos,af,g⟩ T B (.c k (.v (.c (cL (pw n))))):=by
 rw[ab4]
 have:=Ab (us:=(List.replicate n (0:Int)++[1]).map (CellD.i .u32)) hU hx hy hb (by simp) (jx _) (by omega) (by simp) (by omega) (by simp;omega) (by simp;unfold maxLen;omega) (by simp) hg
 rw[show n+[(1:Int)].length=(List.replicate n (0:Int)++[1]).length from by simp] at this
 exact this
theorem yS:eK a b=0↔a=b:=by
 rcases rE a b with h|h|h
 ·rw[fj h];constructor<;>intro h2<;>omega
 ·rw[j8 h];constructor<;>intro h2<;>omega
 ·rw[fm h];constructor<;>intro h2<;>omega
theorem DU:eK a b<0↔a<b:=by
 rcases rE a b with h|h|h
 ·rw[fj h];constructor<;>intro h2<;>omega
 ·rw[j8 h];constructor<;>intro h2<;>omega
 ·rw[fm h];constructor<;>intro h2<;>omega
theorem Cp:0<eK a b↔b<a:=by
 rcases rE a b with h|h|h
 ·rw[fj h];constructor<;>intro h2<;>omega
 ·rw[j8 h];constructor<;>intro h2<;>omega
 ·rw[fm h];constructor<;>intro h2<;>omega
theorem Y2 (h:decide (eK a b<0)=true):a<b:=DU.1 (by simpa using h)
theorem ZH (h:decide (eK a b<0)=false): ¬a<b:=fun e=>by have:=DU.2 e;simp at h;omega
theorem UP (h:(eK a b==0)=true):a=b:=yS.1 (by simpa using h)
theorem adC (h:(eK a b !=0)=true):a≠b:=fun e=>by have:=yS.2 e;simp at h;omega
theorem acd (h:(eK a b !=0)=false):a=b:=yS.1 (by simpa using h)
theorem ac5 (h:decide (eK a b>0)=true):b<a:=Cp.1 (by simpa using h)
theorem adX (h:decide (eK a b>0)=false): ¬b<a:=fun e=>by have:=Cp.2 e;simp at h;omega
structure Rz (k:Nat) (x:Rat):Prop where
 n:Sz k x.num
 d:Sz k (x.den:Int)
theorem Sz.addm (h:Sz k x) (h':Sz l y):Sz (max k l+1) (x+y):=(h.mono (Nat.le_max_left k l)).add (h'.mono (Nat.le_max_right k l))
theorem Sz.gcd (h':Sz l y) (h0:y≠0):Sz l ((Int.gcd x y:Nat):Int):=h'.of_le (by
 have:Int.gcd x y≤y.natAbs:=Nat.le_of_dvd (by omega) (Nat.gcd_dvd_right ..)
 rw[yw];exact this)
theorem Rz.mono {x:Rat}(h:Rz k x) (hl:k≤l):Rz l x:=⟨h.n.mono hl,h.d.mono hl⟩
theorem Rz.m_ {x:Rat}(h:Rz k x) (hl:k≤l:=by decide):Rz l x:=h.mono hl
theorem aO {x:Rat}(h:Rz k x) (hl:k≤l:=by decide):Rz l x:=h.mono hl
theorem G3 {x:Rat}(h:Rz l x:=by first|assumption|exact Rz.mono (by assumption) (by decide)):Rz l x:=h
theorem den_pos (x:Rat):(0:Int)<(x.den:Int):=by have:=x.den_pos;omega
theorem jG (x:Rat):(x.den:Int)≠0:=by have:=den_pos x;omega
theorem rD (a b:Int):(a/b).natAbs≤a.natAbs:=Int.natAbs_ediv_le_natAbs a b
theorem Rz.of {n:Int}(hn:Sz k n) (hd:Sz k d) (h0:d≠0):Rz k (Rat.divInt n d):=by
 refine⟨hn.of_le ?_,hd.of_le ?_⟩
 ·rw[Rat.num_divInt]
  refine iO (rD _ _) ?_
  grind
 ·rw[Rat.den_divInt,if_neg h0]
  exact Nat.div_le_self d.natAbs (Int.gcd d n)
theorem SE {x y:Rat}:Rat.divInt (x.num*(y.den:Int)+y.num*(x.den:Int)) ((x.den:Int)*(y.den:Int))=x+y:=by
 rw[Rat.add_def',←Int.natCast_mul,Rat.divInt_ofNat]
theorem aaS {x y:Rat}(h:(x.den:Int)=(y.den:Int)):Rat.divInt (x.num+y.num) (x.den:Int)=x+y:=by
 rw[←SE,←h,←Int.add_mul,Rat.divInt_mul_right (jG x)]
theorem Vd {x y:Rat}:Rat.divInt (x.num*y.num) ((x.den:Int)*(y.den:Int))=x*y:=by
 rw[Rat.mul_def',←Int.natCast_mul,Rat.divInt_ofNat]
theorem U8 {x y:Rat}:Rat.divInt (x.num*(y.den:Int)) ((x.den:Int)*y.num)=x/y:=by
 rw[Rat.div_def,Rat.inv_def,←Rat.divInt_mul_divInt,Rat.num_divInt_den]
theorem Rz.add {x y:Rat}(hx:Rz k x) (hy:Rz l y):Rz (k+l+1) (x+y):=by
 rw[←SE]
 exact Rz.of (((hx.n.mul hy.d).addm (hy.n.mul hx.d)).mono (by omega)) ((hx.d.mul hy.d).mono (by omega)) (by have:=qr (den_pos x) (den_pos y);omega)
theorem Rz.mul {x y:Rat}(hx:Rz k x) (hy:Rz l y):Rz (k+l) (x*y):=by
 rw[←Vd]
 exact Rz.of (hx.n.mul hy.n) (hx.d.mul hy.d) (by have:=qr (den_pos x) (den_pos y);omega)
theorem Rz.neg {x:Rat}(hx:Rz k x):Rz k (-x):=⟨by rw[Rat.neg_num];exact hx.n.neg,by rw[Rat.neg_den];exact hx.d⟩
theorem Rz.sub {x y:Rat}(hx:Rz k x) (hy:Rz l y):Rz (k+l+1) (x-y):=by rw[Rat.sub_eq_add_neg];exact hx.add hy.neg
theorem Rz.div {x y:Rat}(hx:Rz k x) (hy:Rz l y) (h0:y≠0):Rz (k+l) (x/y):=by
 rw[←U8]
 exact Rz.of (hx.n.mul hy.d) (hx.d.mul hy.n) (by
  have h1:y.num≠0:=fun e=>h0 (Rat.num_eq_zero.1 e)
  intro e
  rcases v6.1 e with h|h
  ·exact jG x h
  ·exact h1 h)
theorem Sz.one (hk:1≤k):Sz k 1:=by
 have:=mH (n:=1) (m:=k) hk
 have h1:pw 1=1000000000:=by decide
 exact⟨by omega,by omega⟩
theorem Rz.int {n:Int}(h:Sz k n) (hk:1≤k):Rz k (n:Rat):=⟨by rw[Rat.num_intCast];exact h,by rw[Rat.den_intCast];exact Sz.one hk⟩
theorem CA {n:Int}(hd:0<d):dR (Rat.divInt n d)=dQ (n.fdiv ((Int.gcd n d:Nat):Int)) (d.fdiv ((Int.gcd n d:Nat):Int)):=by
 unfold dR cR
 rw[Rat.num_divInt,Rat.den_divInt,if_neg (by omega),Int.sign_eq_one_of_pos hd,pn,Int.gcd_comm d n,pv _ (by omega),pv _ (by omega)]
 rw[show((d.natAbs/Int.gcd n d:Nat):Int)=d/((Int.gcd n d:Nat):Int) from by rw[Int.natCast_ediv];rw[show((d.natAbs:Nat):Int)=d from by omega]]
 rfl
theorem B6 {n:Int}(hd:0<d) (hg:((Int.gcd n d:Nat):Int)=1):dR (Rat.divInt n d)=dQ n d:=by
 rw[CA hd,hg,Int.fdiv_one,Int.fdiv_one]
theorem KS {n:Int}:dR (Rat.divInt n d)=dR (Rat.divInt (-n) (-d)):=by rw[Rat.neg_divInt_neg]
theorem Gv {n:Int}(h:d≠0):((Int.gcd n d:Nat):Int)≠0:=by simp_all
theorem xd {x y:Rat}:eK (x.num*(y.den:Int)) (y.num*(x.den:Int))=if x<y then-1 else if y<x then 1 else 0:=by
 unfold eK
 simp only[Rat.lt_iff]
def aM (x y:Rat):Int:=if x<y then-1 else if y<x then 1 else 0
theorem zo {x:Rat}:eK x.num 0=aM x 0:=by
 unfold aM
 rw[←xd]
 simp
theorem Qm {x:Rat}{n:Int}(h1:x.num=n) (h2:(x.den:Int)=d):dR x=dQ n d:=by unfold dR cR;rw[h1,h2];rfl
theorem Ky {n:Int}:dR (n:Rat)=dQ n 1:=Qm (Rat.num_intCast n) (by rw[Rat.den_intCast];rfl)
def DX (x:Int):Bool:=bY x*bY x==x
def je (x:Rat):Bool:=DX x.num&&DX (x.den:Int)
theorem LB (h:x<0):DX x=false:=by unfold DX;rw[vz h];simp;omega
theorem iJ (ha:a≠0) (hb:b≠0):a*b≠0:=fun e=>by rcases v6.1 e with h|h<;>contradiction
theorem Qk {x:Rat}(h:x≠0):x.num≠0:=fun e=>h (Rat.num_eq_zero.1 e)
theorem Sz.isq (h:Sz k x):Sz k (bY x):=h.of_le Ro
theorem GJ {x:Rat}(h:(aM x 0==0)=true):x=0:=by rw[←zo] at h;exact Rat.num_eq_zero.1 (UP h)
theorem ni {x y:Rat}:aM x y=0↔x=y:=by
 unfold aM
 rw[←xd,yS,Rat.eq_iff_mul_eq_mul]
theorem IW {x y:Rat}:aM x y<0↔x<y:=by
 unfold aM
 rw[←xd,DU,Rat.lt_iff]
theorem Aa {x y:Rat}:0<aM x y↔y<x:=by
 unfold aM
 rw[←xd,Cp,Rat.lt_iff]
theorem E8 {x:Rat}:aM x 0=eK x.num 0:=zo.symm
theorem J2 {x y:Rat}(h:(eK (aM x 0) (aM y 0) !=0)=true):eK (aM x 0) (aM y 0)=aM x y:=by
 have h1:=adC h
 rw[E8,E8] at*
 have px:=den_pos x
 have py:=den_pos y
 have e1: ∀ {a b:Int},a<0→0<b→a*b<0:=fun ha hb=>Int.mul_neg_of_neg_of_pos ha hb
 have hr:aM x y=eK (x.num*(y.den:Int)) (y.num*(x.den:Int)):=by unfold aM;rw[←xd]
 rw[hr]
 rcases rE x.num 0 with hx|hx|hx<;>rcases rE y.num 0 with hy|hy|hy
 ·rw[fj hx,fj hy] at h1;exact absurd rfl h1
 ·rw[fj hx,j8 hy,fj (a:= -1) (by decide),fj]
  rw[hy,qN];exact e1 hx py
 ·rw[fj hx,fm hy,fj (a:= -1) (by decide),fj]
  grind
 ·rw[j8 hx,fj hy,fm (a:=0) (by decide),fm]
  rw[hx,qN];exact e1 hy px
 ·grind
 ·rw[j8 hx,fm hy,fj (a:=0) (by decide),fj]
  rw[hx,qN];exact qr hy px
 ·rw[fm hx,fj hy,fm (a:=1) (by decide),fm]
  grind
 ·rw[fm hx,j8 hy,fm (a:=1) (by decide),fm]
  rw[hy,qN];exact qr hx py
 ·rw[fm hx,fm hy] at h1;exact absurd rfl h1
theorem It {x y:Rat}:aM x y=eK (x.num*(y.den:Int)) (y.num*(x.den:Int)):=by unfold aM;rw[←xd]
theorem e7 (h:((if x<0 then(7:Int) else 0)==0)=false):x<0:=by grind
theorem Ya {x y:Rat}(h:(x.num==y.num)=false):decide (x=y)=false:=by grind
theorem YB {x y:Rat}(h:(x.num==y.num)=true):decide (x=y)=((x.den:Int)==(y.den:Int)):=by
 simp only[beq_iff_eq] at h
 rw[xE,decide_eq_true_eq,beq_iff_eq]
 exact⟨fun e=>by rw[e],fun e=>Rat.ext h (by omega)⟩
theorem MU:DX x=(eK (bY x*bY x) x==0):=by
 unfold DX
 rcases rE (bY x*bY x) x with h|h|h
 ·rw[fj h];simp;omega
 ·rw[j8 h];simp;omega
 ·rw[fm h];simp;omega
theorem WA {x:Rat}(h:DX x.num=true) (h2:DX (x.den:Int)=true):je x=true:=by unfold je;rw[h,h2];rfl
theorem OL {x:Rat}(h:DX x.num=false):je x=false:=by unfold je;rw[h];rfl
theorem QJ {x:Rat}(h:DX (x.den:Int)=false):je x=false:=by unfold je;rw[h];cases DX x.num<;>rfl
theorem B4:dQ 0 0=.a (([.b false]++[.s 0 []])++([.b false]++[.s 0 []])):=by
 have h:cI 0=[.b false]++[.s 0 []]:=by
  have:=zY
  unfold dI at this
  injection this
 unfold dQ cQ
 grind
theorem Sz.fdiv (h:Sz k x):Sz k (x.fdiv y):=h.of_le (by
 have h0: ∀a b:Nat,a/b≤a:=fun a b=>Nat.div_le_self a b
 rcases rE y 0 with hy|hy|hy
 ·rw[←Int.neg_fdiv_neg,pv _ (by omega)]
  have h2:(-x/ -y).natAbs≤(-x).natAbs:=rD _ _
  omega
 ·subst hy;simp
 ·rw[pv _ (by omega)]
  exact rD x y)
def TL (xs:List Int):Prop:= ∀x∈xs,0≤x∧x≤4294967295
theorem Sd (h:TL xs) (i:Nat):0≤xs.getD i 0∧xs.getD i 0≤4294967295:=by
 by_cases hi:i<xs.length
 ·have:xs.getD i 0=xs[i]:=by simp[List.getD,hi]
  rw[this];exact h _ (uG hi)
 grind
def vI (neg:Bool) (xs:List Int):Bool:=xs.all (fun x=>decide (x<1000000000))&&((trm xs).length==xs.length)&&(!neg||decide (0<xs.length))
theorem Z5 {neg:Bool}(hk:k<xs.length) (h:xs.getD k 0≥1000000000):vI neg xs=false:=by
 have h1:xs.all (fun x=>decide (x<1000000000))=false:=by
  rw[Bool.eq_false_iff]
  intro hall
  have h2:=kY.1 hall xs[k] (uG hk)
  grind
 unfold vI
 grind
theorem Ka (hb:TL xs) (h: ∀k,k<xs.length→xs.getD k 0<1000000000):Lim xs:=by
 intro x hx
 obtain⟨i,hi,rfl⟩:=List.getElem_of_mem hx
 have h1:=h i hi
 have h3:xs.getD i 0=xs[i]:=by grind
 have:=hb xs[i] (uG hi)
 omega
theorem Ds (h:Lim xs):xs.all (fun x=>decide (x<1000000000))=true:=kY.2 fun x hx=>by have:=h x hx;simp;omega
theorem Y0 {neg:Bool}(h:Lim xs):vI neg xs=(((trm xs).length==xs.length)&&(!neg||decide (0<xs.length))):=by
 unfold vI;rw[Ds h];rfl
theorem JY {neg:Bool}(h:Lim xs):vI neg xs=((((dA (val xs).natAbs).length:Int)==(xs.length:Int))&&(!neg||decide ((xs.length:Int)>0))):=by
 rw[Y0 h,M4 h]
 congr 1
 ·grind
 grind
theorem L8 (hx:Sz 100000000 x) (hy:Sz 100000000 y):Ok Tryz.prog 292 [dI x,dI y] [dI (Int.gcd x y:Int)]:=by
 refine bX Tryz.func292 rfl<|cJ 8 [] ?_
 refine aK rfl (tQ) ?_
 refine aK rfl (tQ) ?_
 refine DW.mk<|bn (ι:={p:Int×Int // GInv x y p.1 p.2}) (fun i=>⟨61,[(4,.p 4 0),(5,.p 5 0),(6,.p 6 0)],[(4,36,([.b false]++[.s 0 []])),(5,36,cI i.1.1),(6,36,cI i.1.2)]⟩) (fun i=>i.1.2.toNat) ⟨(sg false (x.natAbs:Int),sg false (y.natAbs:Int)),GInv.start hx hy⟩ (ap ⟨rfl,rfl,rfl,trivial⟩ ⟨rfl,rfl,rfl,trivial⟩ rfl) ?_
 rintro⟨⟨a,c⟩,hg⟩
 replace hg:GInv x y a c:=hg
 have ha:=hg.sa
 have hcc:=hg.sc
 dsimp only
 refine nu ?_
 refine dk rfl (fun hc1=>?_) (fun hc1=>?_)
 ·have hne:=sX hc1
  refine ac rfl (If)<|ac rfl (If) ?_
  refine jU (bE rfl) (fun c2 hb2=>?_)
  cases c2
  ·refine sb rfl<|ac rfl (yv (by assumption) (by assumption) (by assumption))<|cJ 3 [] ?_
   refine aK rfl (mj) ?_
   exact⟨⟨(c,sg false ((a.natAbs:Int)%c.natAbs)),hg.step hne⟩,ap ⟨rfl,rfl,rfl,trivial⟩ ⟨rfl,rfl,rfl,trivial⟩ rfl,hg.less hne⟩
  ·refine dk rfl (fun hc3=>?_) (fun hc3=>?_)
   ·refine DW.mk<|bn (ι:={p:Int×Int // GInv2 x y p.1 p.2}) (fun i=>⟨61,[(4,.p 4 0),(7,.v (.c (.i .u64 i.1.1))),(9,.v (.c (.i .u64 i.1.2)))],[(4,36,([.b false]++[.s 0 []]))]⟩) (fun i=>i.1.2.toNat) ⟨(if a.natAbs<1000000000000000000 then(a.natAbs:Int) else 0,if c.natAbs<1000000000000000000 then(c.natAbs:Int) else 0),hg.word hb2 hc3⟩ (ap ⟨rfl,rfl,rfl,trivial⟩ ⟨rfl,trivial⟩ rfl) ?_
    rintro⟨⟨u,v⟩,hw⟩
    replace hw:GInv2 x y u v:=hw
    dsimp only
    refine nu ?_
    refine dk rfl (fun hc4=>?_) (fun hc4=>?_)
    ·have hv:v>0:=by simpa using hc4
     refine cJ 6 []<|aq (G0 rfl rfl (by omega) rfl) ?_
     exact⟨⟨(v,u.tmod v),hw.step hv⟩,ap ⟨rfl,rfl,rfl,trivial⟩ ⟨rfl,trivial⟩ rfl,hw.less hv⟩
    ·refine ac rfl (NU hw.u0 hw.u1)<|ac rfl (mj) ?_
     refine ah ?_
     rw[hw.done (by simpa using hc4)]
     exact aS d9 rfl ae
   ·refine ac rfl (yv (by assumption) (by assumption) (by assumption))<|cJ 3 [] ?_
    refine aK rfl (mj) ?_
    exact⟨⟨(c,sg false ((a.natAbs:Int)%c.natAbs)),hg.step hne⟩,ap ⟨rfl,rfl,rfl,trivial⟩ ⟨rfl,rfl,rfl,trivial⟩ rfl,hg.less hne⟩
 ·refine ar (PI rfl (by assumption) rfl) ?_
  refine ac rfl (tQ) ?_
  refine ah ?_
  rw[hg.done (tg hc1)]
  exact aS d9 rfl ae
theorem nQ (hx:Sz 100000000 x) (hy:Sz 100000000 y) (h0:y≠0):Ok Tryz.prog 349 [dI x,dI y] [dI (x.fdiv y),dI (x.fmod y),.c (.i .i64 0)]:=by
 have hq:Sz 100000000 (q0 x y):=hx.q0
 have hr:Sz 100000000 (r0 x y):=hy.r0 h0
 have h1:Sz 100000000 (1:Int):=dS (by omega) (by omega) (by omega)
 refine bX Tryz.func349 rfl ?_
 refine dk rfl (fun hc1=>?_) (fun hc1=>?_)
 ·exact absurd hc1 (by simp[et,h0])
 ·refine ac rfl (yv (by assumption) (by assumption) (by assumption))<|cJ 13 [] ?_
  refine aq (lE rfl rfl jM rfl) ?_
  refine aK rfl (mj) ?_
  refine aK rfl (mj) ?_
  refine jU (bE rfl) (fun c2 hb2=>?_)
  cases c2
  ·refine sb rfl<|cJ 5 [4,5,999999] ?_
   refine DQ.mk<|iE (eh d9 rfl) rfl rfl rfl rfl<|dF ?_
   refine DQ.mk<|iE (eh d9 rfl) rfl rfl rfl rfl<|dF ?_
   obtain⟨e1,e2⟩:=yX (x:=x) h0 (.inl (tg hb2))
   refine ah ?_
   rw[e1,e2]
   exact aS d9 rfl (aS d9 rfl (az ae))
  ·refine ar (lE rfl rfl jM rfl) ?_
   refine dk rfl (fun hc3=>?_) (fun hc3=>?_)
   ·refine cJ 6 [] ?_
    refine aK rfl (jb (by omega) (by omega))<|aK rfl (U3 (by assumption) (by assumption)) ?_
    refine aK rfl (uc (by assumption) (by assumption))<|cJ 5 [4,5,999999] ?_
    refine DQ.mk<|iE (eh d9 rfl) rfl rfl rfl rfl<|dF ?_
    refine DQ.mk<|iE (eh d9 rfl) rfl rfl rfl rfl<|dF ?_
    obtain⟨e1,e2⟩:=HP (x:=x) h0 (sX hb2) (Gn hc3)
    refine ah ?_
    rw[e1,e2]
    exact aS d9 rfl (aS d9 rfl (az ae))
   ·refine cJ 5 [4,5,999999] ?_
    refine DQ.mk<|iE (eh d9 rfl) rfl rfl rfl rfl<|dF ?_
    refine DQ.mk<|iE (eh d9 rfl) rfl rfl rfl rfl<|dF ?_
    obtain⟨e1,e2⟩:=yX (x:=x) h0 (.inr (Fj hc3))
    refine ah ?_
    rw[e1,e2]
    exact aS d9 rfl (aS d9 rfl (az ae))
theorem yP:Ok Tryz.prog 74 [dI x] [.c (.i .i64 (eK x 0))]:=by
 refine bX Tryz.func74 rfl ?_
 refine dk rfl (fun hc1=>?_) (fun hc1=>?_)
 ·refine ah ?_
  rw[j8 (by have:=hc1;simp[et] at this;omega)]
  exact az ae
 ·refine dk rfl (fun hc2=>?_) (fun hc2=>?_)
  ·refine ah ?_
   rw[fj (by simpa using hc2)]
   exact az ae
  ·refine ah ?_
   rw[fm (by have:=hc1;have h2:=hc2;simp[et] at this h2;omega)]
   exact az ae
theorem LA (hx:Sz 100000000 x) (hy:Sz 100000000 y):Ok Tryz.prog 106 [dI x,dI y] [.c (.i .i64 (eK x y))]:=by
 refine bX Tryz.func106 rfl ?_
 refine ar (lE rfl rfl jM rfl) ?_
 refine dk rfl (fun hc1=>?_) (fun hc1=>?_)
 ·refine dk rfl (fun hc2=>?_) (fun hc2=>?_)
  ·refine ah ?_
   rw[fj (by have:=Gn hc1;have h2:=hc2;simp only[decide_eq_true_eq] at h2;omega)]
   exact az ae
  ·refine ah ?_
   rw[fm (by have:=Gn hc1;have h2:=hc2;simp only[decide_eq_false_iff_not] at h2;omega)]
   exact az ae
 ·refine dk rfl (fun hc3=>?_) (fun hc3=>?_)
  ·refine ac rfl (qX (by assumption) (by assumption))<|ah ?_
   rw[←G2 hc3 (by have:=Fj hc1;have h2:=hc3;simp only[decide_eq_true_eq] at h2;omega)]
   exact az ae
  ·refine ac rfl (qX (by assumption) (by assumption))<|ah ?_
   rw[←FS hc3 (by have:=Fj hc1;have h2:=hc3;simp only[decide_eq_false_iff_not] at h2;omega)]
   exact az ae
theorem qA (h0: -9223372036854775808≤x) (h1:x≤9223372036854775807):Ok Tryz.prog 66 [.c (.i .i64 x)] [dI x]:=by
 refine bX Tryz.func66 rfl ?_
 refine dk rfl (fun hc1=>?_) (fun hc1=>?_)
 ·have hn:x<0:=by simpa using hc1
  refine ar (bZ (r:=x+18446744073709551616) Ag fQ rfl (Hg hn h0) rfl) ?_
  refine ar (fa (r:= -x) rfl (Eo hn h0) rfl) ?_
  refine ac rfl (tk (by omega) (by omega))<|ac rfl (jc (Sz.small3 (by omega) (by omega))) ?_
  have hfin:dI x=dI (sg true (((-x).natAbs:Nat):Int)):=congrArg dI (by rw[gJ];omega)
  refine ah ?_
  rw[hfin]
  exact aS d9 rfl ae
 ·have hn:0≤x:=by have:=hc1;simp at this;omega
  refine ar (bZ (r:=x) Ag fQ rfl (iC (by omega) (by omega)) rfl) ?_
  refine ac rfl (tk (by omega) (by omega))<|ac rfl (jc (Sz.small3 (by omega) (by omega))) ?_
  have hfin:dI x=dI (sg false ((x.natAbs:Nat):Int)):=congrArg dI (by rw[dd];omega)
  refine ah ?_
  rw[hfin]
  exact aS d9 rfl ae
theorem ze (hx:Sz 100000000 x):Ok Tryz.prog 192 [dI x] [dI (-x)]:=by
 refine bX Tryz.func192 rfl<|ac rfl (jc (by assumption)) ?_
 refine ah ?_
 rw[←Ze (x:=x)]
 exact aS d9 rfl ae
theorem n5 (hx:Sz 40000000 x) (hy:Sz 40000000 y):Ok Tryz.prog 107 [dI x,dI y] [dI (x*y)]:=by
 have hx6:Sz 100000000 x:=hx.m_
 have hy6:Sz 100000000 y:=hy.m_
 have hp:Sz 100000000 ((x.natAbs:Int)*(y.natAbs:Int)):=((Gj hx).mul (Gj hy)).m_
 refine bX Tryz.func107 rfl<|cJ 11 [] ?_
 refine aq (lE rfl rfl jM rfl) ?_
 refine aK rfl (OP (by assumption) (by assumption))<|aK rfl (jc (by assumption))<|ah ?_
 rw[←ZI (x:=x) (y:=y)]
 exact aS d9 rfl ae
theorem BT (hx:Sz 90000000 x) (hy:Sz 90000000 y):Ok Tryz.prog 204 [dI x,dI y] [dI (x+y)]:=by
 have hx6:Sz 100000000 x:=hx.m_
 have hy6:Sz 100000000 y:=hy.m_
 have hp:Sz 100000000 ((x.natAbs:Int)+(y.natAbs:Int)):=((Gj (hx.mono (l:=99999999) (by decide))).add (Gj (hy.m_))).m_
 refine bX Tryz.func204 rfl<|ar (zF rfl rfl jM rfl) ?_
 refine dk rfl (fun hc1=>?_) (fun hc1=>?_)
 ·refine cJ 8 [] ?_
  refine aK rfl (Uq (by assumption) (by assumption)) ?_
  refine aK rfl (jc (by assumption))<|ah ?_
  rw[←TR hc1]
  exact aS d9 rfl ae
 ·refine ac rfl (qX (by assumption) (by assumption)) ?_
  refine dk rfl (fun hc2=>?_) (fun hc2=>?_)
  ·have hge:=FU hc2
   have hq:Sz 100000000 ((x.natAbs:Int)-(y.natAbs:Int)):=hx6.of_le (by omega)
   refine cJ 8 [] ?_
   refine aK rfl (yJ (by assumption) (by omega))<|aK rfl (jc (by assumption))<|ah ?_
   rw[←aaJ hc1 (by omega)]
   exact aS d9 rfl ae
  ·have hge:=Gc hc2
   have hq:Sz 100000000 ((y.natAbs:Int)-(x.natAbs:Int)):=hy6.of_le (by omega)
   refine cJ 8 [] ?_
   refine aK rfl (yJ (by assumption) (by omega))<|aK rfl (jc (by assumption))<|ah ?_
   rw[←abW hc1 (by omega)]
   exact aS d9 rfl ae
theorem UR (hx:Sz 90000000 x) (hy:Sz 90000000 y):Ok Tryz.prog 287 [dI x,dI y] [dI (x-y)]:=by
 have hx6:Sz 100000000 x:=hx.m_
 have hy6:Sz 100000000 y:=hy.m_
 have hyn:Sz 90000000 (-y):=hy.neg
 refine bX Tryz.func287 rfl<|cJ 4 [] ?_
 refine aK rfl (ze (by assumption)) ?_
 refine aK rfl (BT (by assumption) (by assumption))<|ah ?_
 rw[Int.sub_eq_add_neg]
 exact aS d9 rfl ae
theorem zN (hx:Sz 100000000 x) (hy:Sz 100000000 y):Ok Tryz.prog 75 [dI x,dI y] [.c (.b (x==y))]:=by
 refine bX Tryz.func75 rfl ?_
 refine ar (zF rfl rfl jM rfl) ?_
 refine jU (bE rfl) (fun c1 hb1=>?_)
 cases c1
 ·refine ah ?_
  rw[show(x==y)=false from by have:=hb1;simp only[beq_eq_false_iff_ne,ne_eq] at this⊢;intro e;subst e;exact this rfl]
  exact az ae
 ·refine ac rfl (qX (by assumption) (by assumption))<|ah ?_
  rw[←PB hb1]
  exact az ae
theorem mv (hx:Sz 20000000 x) (hy:Sz 20000000 y) (h0:y≠0):Ok Tryz.prog 195 [dI x,dI y] [dI (x.fdiv y),dI (x.fmod y),.c (.i .i64 0)]:=by
 have hq:Sz 90000000 (q0 x y):=hx.q0.m_
 have hr:Sz 90000000 (r0 x y):=(hy.r0 h0).m_
 have h1:Sz 90000000 (1:Int):=dS (by omega) (by omega) (by omega)
 have hy9:Sz 90000000 y:=hy.m_
 have hqq:Sz 100000000 ((x.natAbs:Int)/y.natAbs):=acR hx
 have hrr:Sz 100000000 ((x.natAbs:Int)%y.natAbs):=abq hy h0
 refine bX Tryz.func195 rfl ?_
 refine dk rfl (fun hc1=>?_) (fun hc1=>?_)
 ·exact absurd hc1 (by simp[et,h0])
 ·refine ac rfl (Dt (by assumption) (by assumption) (by assumption))<|cJ 13 [] ?_
  refine aq (lE rfl rfl jM rfl) ?_
  refine aK rfl (Kj hqq) ?_
  refine aK rfl (J5 h0 hrr) ?_
  refine jU (bE rfl) (fun c2 hb2=>?_)
  cases c2
  ·refine sb rfl<|cJ 5 [4,5,999999] ?_
   refine DQ.mk<|iE (eh d9 rfl) rfl rfl rfl rfl<|dF ?_
   refine DQ.mk<|iE (eh d9 rfl) rfl rfl rfl rfl<|dF ?_
   obtain⟨e1,e2⟩:=yX (x:=x) h0 (.inl (Mk.1 (tg hb2)))
   refine ah ?_
   rw[e1,e2]
   exact aS d9 rfl (aS d9 rfl (az ae))
  ·refine ar (lE rfl rfl jM rfl) ?_
   refine dk rfl (fun hc3=>?_) (fun hc3=>?_)
   ·refine cJ 6 [] ?_
    refine aK rfl (qA (by omega) (by omega))<|aK rfl (UR (by assumption) (by assumption)) ?_
    refine aK rfl (BT (by assumption) (by assumption))<|cJ 5 [4,5,999999] ?_
    refine DQ.mk<|iE (eh d9 rfl) rfl rfl rfl rfl<|dF ?_
    refine DQ.mk<|iE (eh d9 rfl) rfl rfl rfl rfl<|dF ?_
    obtain⟨e1,e2⟩:=HP (x:=x) h0 (fun e=>sX hb2 (Mk.2 e)) (by rw[MD h0 (sX hb2)];exact Gn hc3)
    refine ah ?_
    rw[e1,e2]
    exact aS d9 rfl (aS d9 rfl (az ae))
   ·refine cJ 5 [4,5,999999] ?_
    refine DQ.mk<|iE (eh d9 rfl) rfl rfl rfl rfl<|dF ?_
    refine DQ.mk<|iE (eh d9 rfl) rfl rfl rfl rfl<|dF ?_
    obtain⟨e1,e2⟩:=yX (x:=x) h0 (.inr (by rw[MD h0 (sX hb2)];exact Fj hc3))
    refine ah ?_
    rw[e1,e2]
    exact aS d9 rfl (aS d9 rfl (az ae))
theorem FA (hx:Sz 20000000 x) (hy:Sz 20000000 y):Ok Tryz.prog 76 [dI x,dI y] [dI (Int.gcd x y:Int)]:=by
 refine bX Tryz.func76 rfl<|cJ 6 [] ?_
 refine DW.mk<|bn (ι:={p:Int×Int // RG x y p.1 p.2}) (fun i=>⟨54,[(4,.p 4 0),(5,.v (.c (cL i.1.1))),(6,.v (.c (cL i.1.2)))],[(4,36,([.b false]++[.s 0 []]))]⟩) (fun i=>i.1.2.toNat) ⟨((x.natAbs:Int),(y.natAbs:Int)),RG.start hx hy⟩ (ap ⟨rfl,by rw[OT x];rfl,by rw[OT y];rfl,trivial⟩ ⟨rfl,trivial⟩ rfl) ?_
 rintro⟨⟨a,c⟩,hg⟩
 replace hg:RG x y a c:=hg
 have ha:=hg.sa
 have hcc:=hg.sc
 have ha0:=hg.a0
 have hcc0:=hg.c0
 have ha6:Sz 100000000 a:=ha.m_
 dsimp only
 refine nu ?_
 refine jU (bE rfl) (fun c1 hb1=>?_)
 cases c1
 ·refine DL.mk<|wO (oI rfl)<|dZ ?_
  refine sb rfl ?_
  refine dk rfl (fun hc2=>?_) (fun hc2=>?_)
  ·refine ac rfl (jc (by assumption)) ?_
   refine ah ?_
   rw[hg.done (tg hb1)]
   exact aS d9 rfl ae
  ·exact absurd hc2 (by simp[et,tg hb1])
 ·have hne:=sX hb1
  refine jU (bE rfl) (fun c3 hb3=>?_)
  cases c3
  ·have hwa:=Mv hb3
   refine dk rfl (fun hc4=>?_) (fun hc4=>?_)
   ·refine ac rfl (Dt (by assumption) (by assumption) (by assumption)) ?_
    exact⟨⟨(c,(a.natAbs:Int)%c.natAbs),hg.step hne⟩,ap ⟨rfl,rfl,rfl,trivial⟩ ⟨rfl,trivial⟩ rfl,hg.less hne⟩
   ·have hwc:=Mv hc4
    refine dk rfl (fun hc5=>?_) (fun hc5=>?_)
    ·exact absurd hc5 (by simp[et,hne])
    ·refine ac rfl (H0 (by assumption))<|ac rfl (H0 (by assumption)) ?_
     refine DW.mk<|bn (ι:={p:Int×Int // GInv2 x y p.1 p.2}) (fun i=>⟨54,[(4,.p 4 0),(9,.v (.c (.i .u64 i.1.1))),(10,.v (.c (.i .u64 i.1.2)))],[(4,36,([.b false]++[.s 0 []]))]⟩) (fun i=>i.1.2.toNat) ⟨((a.natAbs:Int),(c.natAbs:Int)),hg.word hwa hwc⟩ (ap ⟨rfl,rfl,rfl,trivial⟩ ⟨rfl,trivial⟩ rfl) ?_
     rintro⟨⟨u,v⟩,hw⟩
     replace hw:GInv2 x y u v:=hw
     have hu0:=hw.u0
     have hu1:=hw.u1
     have hsu:Sz 100000000 u:=Sz.small3 hu0 hu1
     dsimp only
     refine nu ?_
     refine dk rfl (fun hc6=>?_) (fun hc6=>?_)
     ·have hv:v>0:=by simpa using hc6
      have hvn:v≠0:=by omega
      refine cJ 6 []<|aq (G0 rfl rfl (by omega) rfl) ?_
      exact⟨⟨(v,u.tmod v),hw.step hv⟩,ap ⟨rfl,rfl,rfl,trivial⟩ ⟨rfl,trivial⟩ rfl,hw.less hv⟩
     ·refine ac rfl (tk (by omega) (by omega))<|ac rfl (jc (by assumption)) ?_
      refine ah ?_
      rw[hw.fin (by simpa using hc6)]
      exact aS d9 rfl ae
  ·refine sy rfl<|ac rfl (Dt (by assumption) (by assumption) (by assumption)) ?_
   exact⟨⟨(c,(a.natAbs:Int)%c.natAbs),hg.step hne⟩,ap ⟨rfl,rfl,rfl,trivial⟩ ⟨rfl,trivial⟩ rfl,hg.less hne⟩
end Go.Proofs.YtegpmhlfjkhjmaaGreat
