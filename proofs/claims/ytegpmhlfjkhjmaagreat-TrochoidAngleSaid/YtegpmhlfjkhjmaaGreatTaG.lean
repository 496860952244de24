/-Package swarfref01:plus,minus. -/
import Derived.Test.YtegpmhlfjkhjmaaGreatTaF
namespace Go.Proofs.YtegpmhlfjkhjmaaGreat
open Go Go.RowKit
variable {R V a b c d m r u v x y:Int}{rs us vs xs ys zs:List Int}{K N i k l n:Nat}{pos:String}{U e ty xt:TypeId}
variable {af:Array Edge}{g:Option (Nat×Bool)}{dst:Option Nat}
theorem eo:type_of% @Ok.fn:=@Ok.fn
theorem dC:type_of% @Sz.small:=@Sz.small
theorem nH:type_of% @Dw.weak:=@Dw.weak
theorem oG:type_of% @Int.zero_mul:=@Int.zero_mul
theorem qX:type_of% @Int.tdiv_eq_ediv_of_nonneg:=@Int.tdiv_eq_ediv_of_nonneg
theorem sZ:type_of% @Int.mul_pos:=@Int.mul_pos
theorem tc:type_of% @Int.lt_trichotomy:=@Int.lt_trichotomy
theorem uV:type_of% @Bool.not_false:=@Bool.not_false
theorem pV:type_of% @Int.mul_eq_zero:=@Int.mul_eq_zero
theorem sv:type_of% @Int.mul_one:=@Int.mul_one
theorem yO:type_of% @Int.natAbs_natCast:=@Int.natAbs_natCast
theorem Dn:type_of% @Int.le_ediv_iff_mul_le:=@Int.le_ediv_iff_mul_le
theorem RW (hLxs:Lim xs) (hLys:Lim ys) (hn:xs.length≤100000000) (hm:ys.length≤100000000):Ok Tryz.prog 289 [.c (cM xs),.c (cM ys)] [.c (cL (val xs+val ys))]:=by
 refine eo Tryz.func289 55 [.tmp 4] rfl<|ae<|ah<|ae<|ae<|ah ?_
 refine aP rfl (fun hc1=>?_) (fun hc1=>?_)
 ·have hlt:xs.length<ys.length:=by simp only[decide_eq_true_eq] at hc1;omega
  refine ah<|ae<|ah ?_
  refine ar (bF ((ys.length:Int)+1) (aT (by(first|omega|(simp;omega))) (by(first|omega|(simp;omega)))) rfl) ?_
  refine DL.mk<|qa (lU (n:=ys.length+1) yM rfl rfl (by(first|omega|(simp;omega))) (by(first|omega|(simp;omega))) rfl) rfl<|fa ?_
  refine ae<|ah<|ae<|ae<|ah<|aG<|bv (ι:={t:Nat×Int×List Int // PInv ys xs t.1 t.2.1 t.2.2}) (fun i=>⟨55,[(0,.v (.c (cM ys))),(1,.v (.c (cM xs))),(5,.o 18 (ys.length+1) (ys.length+1)),(6,.v (.c (.i .u32 i.1.2.1))),(7,.v (.c (.i .i64 (i.1.1:Int))))],[(18,194,(i.1.2.2++List.replicate (ys.length+1-i.1.1) 0).map (CellD.i .u32))]⟩) (fun i=>ys.length-i.1.1) ⟨(0,0,[]),⟨Nat.zero_le _,o9 0,by decide,Lim.nil,rfl,by simp[val]⟩⟩ (ap (bo rfl) ⟨by rw[show(List.replicate (ys.length+1) (CellD.i .u32 0))=(([]:List Int)++List.replicate (ys.length+1-0) 0).map (CellD.i .u32) from by simp];rfl,trivial⟩ rfl) ?_
  rintro⟨⟨k,c,zs⟩,hI⟩
  replace hI:PInv ys xs k c zs:=hI
  have g1:=du hLys k
  have g2:=du hLxs k
  have g3:=hI.c0
  have g4:=hI.c1
  have g5:=hI.le
  have g6:=hI.len
  dsimp only
  refine ae<|ae<|ah ?_
  refine aP rfl (fun hc2=>?_) (fun hc2=>?_)
  ·have hk:k<ys.length:=by simp only[decide_eq_true_eq] at hc2;omega
   refine aA<|ae<|aG<|ae<|ah ?_
   refine ar (bc jz rfl rfl (by(first|omega|(simp;omega))) (jR _) rfl rfl) ?_
   refine ar (bn f5 rfl (lJ (i:=k) (by(first|omega|(simp;omega)))) rfl) ?_
   refine ar (bF (c+(ys.getD k 0)) (oF (by(first|omega|(simp;omega))) (by(first|omega|(simp;omega)))) rfl) ?_
   refine ae<|ae<|ah ?_
   refine aP rfl (fun hc3=>?_) (fun hc3=>?_)
   ·have hkq:k<xs.length:=by simp only[decide_eq_true_eq] at hc3;omega
    have hS:c+ys.getD k 0+xs.getD k 0=c+ys.getD k 0+xs.getD k 0:=rfl
    have hb:c+ys.getD k 0+xs.getD k 0≤4294967295:=by omega
    refine ah ?_
    refine ar (bc jz rfl rfl (by(first|omega|(simp;omega))) (jR _) rfl rfl) ?_
    refine ar (bn f5 rfl (lJ (i:=k) (by(first|omega|(simp;omega)))) rfl) ?_
    refine ar (bF ((c+(ys.getD k 0))+(xs.getD k 0)) (oF (by(first|omega|(simp;omega))) (by(first|omega|(simp;omega)))) rfl) ?_
    refine ae<|bq<|bH 3<|aO (mW (r:=(c+ys.getD k 0+xs.getD k 0)%1000000000) rfl rfl (by omega) (rJ (by omega)) rfl) ?_
    refine aO (bE jz rfl rfl (by(first|omega|(simp;omega))) rfl) ?_
    refine jk (br (us:=((zs++List.replicate (ys.length+1-k) 0).set k ((c+ys.getD k 0+xs.getD k 0)%1000000000)).map (CellD.i .u32)) f5 rfl rfl rfl rfl (by simp;omega) (rf (by(first|omega|(simp;omega)))) rfl) ?_
    refine bt<|ah<|ar (iJ (r:=(c+ys.getD k 0+xs.getD k 0)/1000000000) rfl rfl (by omega) (by rw[qX (by omega)];exact sX (by omega) (by omega)) rfl) ?_
    refine ah ?_
    refine ar (bF ((k:Int)+1) (aT (by(first|omega|(simp;omega))) (by(first|omega|(simp;omega)))) rfl) ?_
    exact⟨⟨(k+1,(c+ys.getD k 0+xs.getD k 0)/1000000000,zs++[(c+ys.getD k 0+xs.getD k 0)%1000000000]),hI.step hLys hLxs hk hS⟩,ap ⟨rfl,rfl,rfl,rfl,by rw[show((k+1:Nat):Int)=(k:Int)+1 from by omega];rfl,trivial⟩ ⟨by rw[show ys.length+1-(k+1)=ys.length-k from by omega,←nk (m:=ys.length-k) (d:=(c+ys.getD k 0+xs.getD k 0)%1000000000) g6,show ys.length-k+1=ys.length+1-k from by omega];rfl,trivial⟩ rfl,by show ys.length-(k+1)<ys.length-k;omega⟩
   ·have hkq: ¬k<xs.length:=by simp only[decide_eq_false_iff_not] at hc3;omega
    have hq0:xs.getD k 0=0:=by rw[List.getD,rT (by omega)];rfl
    have hS:c+ys.getD k 0=c+ys.getD k 0+xs.getD k 0:=by omega
    refine aA<|ae<|bq<|bH 3<|aO (mW (r:=(c+ys.getD k 0)%1000000000) rfl rfl (by omega) (rJ (by omega)) rfl) ?_
    refine aO (bE jz rfl rfl (by(first|omega|(simp;omega))) rfl) ?_
    refine jk (br (us:=((zs++List.replicate (ys.length+1-k) 0).set k ((c+ys.getD k 0)%1000000000)).map (CellD.i .u32)) f5 rfl rfl rfl rfl (by simp;omega) (rf (by(first|omega|(simp;omega)))) rfl) ?_
    refine bt<|ah<|ar (iJ (r:=(c+ys.getD k 0)/1000000000) rfl rfl (by omega) (by rw[qX (by omega)];exact sX (by omega) (by omega)) rfl) ?_
    refine ah ?_
    refine ar (bF ((k:Int)+1) (aT (by(first|omega|(simp;omega))) (by(first|omega|(simp;omega)))) rfl) ?_
    exact⟨⟨(k+1,(c+ys.getD k 0)/1000000000,zs++[(c+ys.getD k 0)%1000000000]),hI.step hLys hLxs hk hS⟩,ap ⟨rfl,rfl,rfl,rfl,by rw[show((k+1:Nat):Int)=(k:Int)+1 from by omega];rfl,trivial⟩ ⟨by rw[show ys.length+1-(k+1)=ys.length-k from by omega,←nk (m:=ys.length-k) (d:=(c+ys.getD k 0)%1000000000) g6,show ys.length-k+1=ys.length+1-k from by omega];rfl,trivial⟩ rfl,by show ys.length-(k+1)<ys.length-k;omega⟩
  ·have hk:k=ys.length:=by simp only[decide_eq_false_iff_not] at hc2;omega
   have hfin:(val xs+val ys:Int)=val ((zs++List.replicate (ys.length+1-k) 0).set ys.length c):=by rw[show ys.length+1-k=0+1 from by omega,nk (by omega)];simp only[List.replicate_zero,m9];rw[hI.done hk (by omega)];omega
   have hLf:Lim ((zs++List.replicate (ys.length+1-k) 0).set ys.length c):=(hI.L.append (Lim.zeros _)).set g3 (by omega)
   refine bV<|ae<|bq<|bH 4 ?_
   refine aO (bE jz rfl rfl (by(first|omega|(simp;omega))) rfl) ?_
   refine jk (br (us:=((zs++List.replicate (ys.length+1-k) 0).set ys.length c).map (CellD.i .u32)) f5 rfl rfl rfl rfl (by simp;omega) (rf (by(first|omega|(simp;omega)))) rfl) ?_
   refine bt<|ae ?_
   refine wY (t:=5) (zs:=(zs++List.replicate (ys.length+1-k) 0).set ys.length c) (ys:=(zs++List.replicate (ys.length+1-k) 0).set ys.length c) rfl rfl (by first|omega|(simp;omega)|simp) (by omega) (by omega) (kZ (by first|omega|(simp;omega)|simp)) ?_
   refine ah<|ac rfl (mT hLf (by simp;omega))<|ba ?_
   rw[hfin]
   exact ai (ak ag)
 ·have hlt:ys.length≤xs.length:=by simp only[decide_eq_false_iff_not] at hc1;omega
  refine aA<|ae<|ah ?_
  refine ar (bF ((xs.length:Int)+1) (aT (by(first|omega|(simp;omega))) (by(first|omega|(simp;omega)))) rfl) ?_
  refine DL.mk<|qa (lU (n:=xs.length+1) yM rfl rfl (by(first|omega|(simp;omega))) (by(first|omega|(simp;omega))) rfl) rfl<|fa ?_
  refine ae<|ah<|ae<|ae<|ah<|aG<|bv (ι:={t:Nat×Int×List Int // PInv xs ys t.1 t.2.1 t.2.2}) (fun i=>⟨55,[(0,.v (.c (cM xs))),(1,.v (.c (cM ys))),(5,.o 18 (xs.length+1) (xs.length+1)),(6,.v (.c (.i .u32 i.1.2.1))),(7,.v (.c (.i .i64 (i.1.1:Int))))],[(18,194,(i.1.2.2++List.replicate (xs.length+1-i.1.1) 0).map (CellD.i .u32))]⟩) (fun i=>xs.length-i.1.1) ⟨(0,0,[]),⟨Nat.zero_le _,o9 0,by decide,Lim.nil,rfl,by simp[val]⟩⟩ (ap (bo rfl) ⟨by rw[show(List.replicate (xs.length+1) (CellD.i .u32 0))=(([]:List Int)++List.replicate (xs.length+1-0) 0).map (CellD.i .u32) from by simp];rfl,trivial⟩ rfl) ?_
  rintro⟨⟨k,c,zs⟩,hI⟩
  replace hI:PInv xs ys k c zs:=hI
  have g1:=du hLxs k
  have g2:=du hLys k
  have g3:=hI.c0
  have g4:=hI.c1
  have g5:=hI.le
  have g6:=hI.len
  dsimp only
  refine ae<|ae<|ah ?_
  refine aP rfl (fun hc4=>?_) (fun hc4=>?_)
  ·have hk:k<xs.length:=by simp only[decide_eq_true_eq] at hc4;omega
   refine aA<|ae<|aG<|ae<|ah ?_
   refine ar (bc jz rfl rfl (by(first|omega|(simp;omega))) (jR _) rfl rfl) ?_
   refine ar (bn f5 rfl (lJ (i:=k) (by(first|omega|(simp;omega)))) rfl) ?_
   refine ar (bF (c+(xs.getD k 0)) (oF (by(first|omega|(simp;omega))) (by(first|omega|(simp;omega)))) rfl) ?_
   refine ae<|ae<|ah ?_
   refine aP rfl (fun hc5=>?_) (fun hc5=>?_)
   ·have hkq:k<ys.length:=by simp only[decide_eq_true_eq] at hc5;omega
    have hS:c+xs.getD k 0+ys.getD k 0=c+xs.getD k 0+ys.getD k 0:=rfl
    have hb:c+xs.getD k 0+ys.getD k 0≤4294967295:=by omega
    refine ah ?_
    refine ar (bc jz rfl rfl (by(first|omega|(simp;omega))) (jR _) rfl rfl) ?_
    refine ar (bn f5 rfl (lJ (i:=k) (by(first|omega|(simp;omega)))) rfl) ?_
    refine ar (bF ((c+(xs.getD k 0))+(ys.getD k 0)) (oF (by(first|omega|(simp;omega))) (by(first|omega|(simp;omega)))) rfl) ?_
    refine ae<|bq<|bH 3<|aO (mW (r:=(c+xs.getD k 0+ys.getD k 0)%1000000000) rfl rfl (by omega) (rJ (by omega)) rfl) ?_
    refine aO (bE jz rfl rfl (by(first|omega|(simp;omega))) rfl) ?_
    refine jk (br (us:=((zs++List.replicate (xs.length+1-k) 0).set k ((c+xs.getD k 0+ys.getD k 0)%1000000000)).map (CellD.i .u32)) f5 rfl rfl rfl rfl (by simp;omega) (rf (by(first|omega|(simp;omega)))) rfl) ?_
    refine bt<|ah<|ar (iJ (r:=(c+xs.getD k 0+ys.getD k 0)/1000000000) rfl rfl (by omega) (by rw[qX (by omega)];exact sX (by omega) (by omega)) rfl) ?_
    refine ah ?_
    refine ar (bF ((k:Int)+1) (aT (by(first|omega|(simp;omega))) (by(first|omega|(simp;omega)))) rfl) ?_
    exact⟨⟨(k+1,(c+xs.getD k 0+ys.getD k 0)/1000000000,zs++[(c+xs.getD k 0+ys.getD k 0)%1000000000]),hI.step hLxs hLys hk hS⟩,ap ⟨rfl,rfl,rfl,rfl,by rw[show((k+1:Nat):Int)=(k:Int)+1 from by omega];rfl,trivial⟩ ⟨by rw[show xs.length+1-(k+1)=xs.length-k from by omega,←nk (m:=xs.length-k) (d:=(c+xs.getD k 0+ys.getD k 0)%1000000000) g6,show xs.length-k+1=xs.length+1-k from by omega];rfl,trivial⟩ rfl,by show xs.length-(k+1)<xs.length-k;omega⟩
   ·have hkq: ¬k<ys.length:=by simp only[decide_eq_false_iff_not] at hc5;omega
    have hq0:ys.getD k 0=0:=by rw[List.getD,rT (by omega)];rfl
    have hS:c+xs.getD k 0=c+xs.getD k 0+ys.getD k 0:=by omega
    refine aA<|ae<|bq<|bH 3<|aO (mW (r:=(c+xs.getD k 0)%1000000000) rfl rfl (by omega) (rJ (by omega)) rfl) ?_
    refine aO (bE jz rfl rfl (by(first|omega|(simp;omega))) rfl) ?_
    refine jk (br (us:=((zs++List.replicate (xs.length+1-k) 0).set k ((c+xs.getD k 0)%1000000000)).map (CellD.i .u32)) f5 rfl rfl rfl rfl (by simp;omega) (rf (by(first|omega|(simp;omega)))) rfl) ?_
    refine bt<|ah<|ar (iJ (r:=(c+xs.getD k 0)/1000000000) rfl rfl (by omega) (by rw[qX (by omega)];exact sX (by omega) (by omega)) rfl) ?_
    refine ah ?_
    refine ar (bF ((k:Int)+1) (aT (by(first|omega|(simp;omega))) (by(first|omega|(simp;omega)))) rfl) ?_
    exact⟨⟨(k+1,(c+xs.getD k 0)/1000000000,zs++[(c+xs.getD k 0)%1000000000]),hI.step hLxs hLys hk hS⟩,ap ⟨rfl,rfl,rfl,rfl,by rw[show((k+1:Nat):Int)=(k:Int)+1 from by omega];rfl,trivial⟩ ⟨by rw[show xs.length+1-(k+1)=xs.length-k from by omega,←nk (m:=xs.length-k) (d:=(c+xs.getD k 0)%1000000000) g6,show xs.length-k+1=xs.length+1-k from by omega];rfl,trivial⟩ rfl,by show xs.length-(k+1)<xs.length-k;omega⟩
  ·have hk:k=xs.length:=by simp only[decide_eq_false_iff_not] at hc4;omega
   have hfin:(val xs+val ys:Int)=val ((zs++List.replicate (xs.length+1-k) 0).set xs.length c):=by rw[show xs.length+1-k=0+1 from by omega,nk (by omega)];simp only[List.replicate_zero,m9];rw[hI.done hk (by omega)]
   have hLf:Lim ((zs++List.replicate (xs.length+1-k) 0).set xs.length c):=(hI.L.append (Lim.zeros _)).set g3 (by omega)
   refine bV<|ae<|bq<|bH 4 ?_
   refine aO (bE jz rfl rfl (by(first|omega|(simp;omega))) rfl) ?_
   refine jk (br (us:=((zs++List.replicate (xs.length+1-k) 0).set xs.length c).map (CellD.i .u32)) f5 rfl rfl rfl rfl (by simp;omega) (rf (by(first|omega|(simp;omega)))) rfl) ?_
   refine bt<|ae ?_
   refine wY (t:=5) (zs:=(zs++List.replicate (xs.length+1-k) 0).set xs.length c) (ys:=(zs++List.replicate (xs.length+1-k) 0).set xs.length c) rfl rfl (by first|omega|(simp;omega)|simp) (by omega) (by omega) (kZ (by first|omega|(simp;omega)|simp)) ?_
   refine ah<|ac rfl (mT hLf (by simp;omega))<|ba ?_
   rw[hfin]
   exact ai (ak ag)
theorem NE (hLxs:Lim xs) (hLys:Lim ys) (hn:xs.length≤100000000) (hlen:ys.length≤xs.length) (hle:val ys≤val xs):Ok Tryz.prog 283 [.c (cM xs),.c (cM ys)] [.c (cL (val xs-val ys))]:=by
 refine eo Tryz.func283 45 [.tmp 4] rfl<|ae<|ah<|ae<|ah ?_
 refine DL.mk<|qa (lU (n:=xs.length) yM rfl rfl (by(first|omega|(simp;omega))) (by(first|omega|(simp;omega))) rfl) rfl<|fa ?_
 refine ae<|ah<|ae<|ae<|ah<|aG<|bv (ι:={t:Nat×Int×List Int // SInv xs ys t.1 t.2.1 t.2.2}) (fun i=>⟨45,[(0,.v (.c (cM xs))),(1,.v (.c (cM ys))),(5,.o 11 xs.length xs.length),(6,.v (.c (.i .u32 i.1.2.1))),(7,.v (.c (.i .i64 (i.1.1:Int))))],[(11,194,(i.1.2.2++List.replicate (xs.length-i.1.1) 0).map (CellD.i .u32))]⟩) (fun i=>xs.length-i.1.1) ⟨(0,0,[]),⟨Nat.zero_le _,o9 0,by decide,Lim.nil,rfl,by simp[val]⟩⟩ (ap (bo rfl) ⟨by rw[show(List.replicate xs.length (CellD.i .u32 0))=(([]:List Int)++List.replicate (xs.length-0) 0).map (CellD.i .u32) from by simp];rfl,trivial⟩ rfl) ?_
 rintro⟨⟨k,c,zs⟩,hI⟩
 replace hI:SInv xs ys k c zs:=hI
 have g1:=du hLxs k
 have g2:=du hLys k
 have g3:=hI.c0
 have g4:=hI.c1
 have g5:=hI.le
 have g6:=hI.len
 dsimp only
 refine ae<|ae<|ah ?_
 refine aP rfl (fun hc1=>?_) (fun hc1=>?_)
 ·have hk:k<xs.length:=by simp only[decide_eq_true_eq] at hc1;omega
  refine aA<|ae<|aG<|ae<|ah ?_
  refine ar (bc jz rfl rfl (by(first|omega|(simp;omega))) (jR _) rfl rfl) ?_
  refine ar (bn f5 rfl (lJ (i:=k) (by(first|omega|(simp;omega)))) rfl) ?_
  refine ar (bF ((xs.getD k 0)+1000000000) (oF (by(first|omega|(simp;omega))) (by(first|omega|(simp;omega)))) rfl) ?_
  refine ar (bF (((xs.getD k 0)+1000000000)-c) (rl (by(first|omega|(simp;omega))) (by(first|omega|(simp;omega)))) rfl) ?_
  refine ae<|ae<|ah ?_
  refine aP rfl (fun hc2=>?_) (fun hc2=>?_)
  ·have hkq:k<ys.length:=by simp only[decide_eq_true_eq] at hc2;omega
   refine ah ?_
   refine ar (bc jz rfl rfl (by(first|omega|(simp;omega))) (jR _) rfl rfl) ?_
   refine ar (bn f5 rfl (lJ (i:=k) (by(first|omega|(simp;omega)))) rfl) ?_
   refine ar (bF ((((xs.getD k 0)+1000000000)-c)-(ys.getD k 0)) (rl (by(first|omega|(simp;omega))) (by(first|omega|(simp;omega)))) rfl) ?_
   refine ae<|ah<|ae<|ae<|ah ?_
   refine aP rfl (fun hc3=>?_) (fun hc3=>?_)
   ·simp only[decide_eq_true_eq] at hc3
    have hd1:0≤xs.getD k 0+1000000000-c-ys.getD k 0-1000000000:=by omega
    have hd2:xs.getD k 0+1000000000-c-ys.getD k 0-1000000000<1000000000:=by omega
    have hd3:(0:Int)≤0:=by omega
    have hd4:(0:Int)≤1:=by omega
    have hdS:xs.getD k 0+1000000000-c-ys.getD k 0-1000000000-1000000000*0=xs.getD k 0-c-ys.getD k 0:=by omega
    refine ah ?_
    refine ar (bF (((((xs.getD k 0)+1000000000)-c)-(ys.getD k 0))-1000000000) (rl (by(first|omega|(simp;omega))) (by(first|omega|(simp;omega)))) rfl) ?_
    refine bq<|bH 3 ?_
    refine aO (bE jz rfl rfl (by(first|omega|(simp;omega))) rfl) ?_
    refine jk (br (us:=((zs++List.replicate (xs.length-k) 0).set k (((((xs.getD k 0)+1000000000)-c)-(ys.getD k 0))-1000000000)).map (CellD.i .u32)) f5 rfl rfl rfl rfl (by simp;omega) (rf (by(first|omega|(simp;omega)))) rfl) ?_
    refine bt<|ah ?_
    refine ar (bF ((k:Int)+1) (aT (by(first|omega|(simp;omega))) (by(first|omega|(simp;omega)))) rfl) ?_
    exact⟨⟨(k+1,0,zs++[xs.getD k 0+1000000000-c-ys.getD k 0-1000000000]),hI.step hk hd1 hd2 hd3 hd4 hdS⟩,ap ⟨rfl,rfl,rfl,rfl,by rw[show((k+1:Nat):Int)=(k:Int)+1 from by omega];rfl,trivial⟩ ⟨by rw[show xs.length-(k+1)=xs.length-k-1 from by omega,←nk (m:=xs.length-k-1) (d:=xs.getD k 0+1000000000-c-ys.getD k 0-1000000000) g6,show xs.length-k-1+1=xs.length-k from by omega];rfl,trivial⟩ rfl,by show xs.length-(k+1)<xs.length-k;omega⟩
   ·simp only[decide_eq_false_iff_not] at hc3
    have hd1:0≤xs.getD k 0+1000000000-c-ys.getD k 0:=by omega
    have hd2:xs.getD k 0+1000000000-c-ys.getD k 0<1000000000:=by omega
    have hd3:(0:Int)≤1:=by omega
    have hd4:(1:Int)≤1:=by omega
    have hdS:xs.getD k 0+1000000000-c-ys.getD k 0-1000000000*1=xs.getD k 0-c-ys.getD k 0:=by omega
    refine aA<|bq<|bH 3 ?_
    refine aO (bE jz rfl rfl (by(first|omega|(simp;omega))) rfl) ?_
    refine jk (br (us:=((zs++List.replicate (xs.length-k) 0).set k ((((xs.getD k 0)+1000000000)-c)-(ys.getD k 0))).map (CellD.i .u32)) f5 rfl rfl rfl rfl (by simp;omega) (rf (by(first|omega|(simp;omega)))) rfl) ?_
    refine bt<|ah ?_
    refine ar (bF ((k:Int)+1) (aT (by(first|omega|(simp;omega))) (by(first|omega|(simp;omega)))) rfl) ?_
    exact⟨⟨(k+1,1,zs++[xs.getD k 0+1000000000-c-ys.getD k 0]),hI.step hk hd1 hd2 hd3 hd4 hdS⟩,ap ⟨rfl,rfl,rfl,rfl,by rw[show((k+1:Nat):Int)=(k:Int)+1 from by omega];rfl,trivial⟩ ⟨by rw[show xs.length-(k+1)=xs.length-k-1 from by omega,←nk (m:=xs.length-k-1) (d:=xs.getD k 0+1000000000-c-ys.getD k 0) g6,show xs.length-k-1+1=xs.length-k from by omega];rfl,trivial⟩ rfl,by show xs.length-(k+1)<xs.length-k;omega⟩
  ·have hkq: ¬k<ys.length:=by simp only[decide_eq_false_iff_not] at hc2;omega
   have hq0:ys.getD k 0=0:=by rw[List.getD,rT (by omega)];rfl
   refine aA<|ae<|ah<|ae<|ae<|ah ?_
   refine aP rfl (fun hc4=>?_) (fun hc4=>?_)
   ·simp only[decide_eq_true_eq] at hc4
    have hd1:0≤xs.getD k 0+1000000000-c-1000000000:=by omega
    have hd2:xs.getD k 0+1000000000-c-1000000000<1000000000:=by omega
    have hd3:(0:Int)≤0:=by omega
    have hd4:(0:Int)≤1:=by omega
    have hdS:xs.getD k 0+1000000000-c-1000000000-1000000000*0=xs.getD k 0-c-ys.getD k 0:=by omega
    refine ah ?_
    refine ar (bF ((((xs.getD k 0)+1000000000)-c)-1000000000) (rl (by(first|omega|(simp;omega))) (by(first|omega|(simp;omega)))) rfl) ?_
    refine bq<|bH 3 ?_
    refine aO (bE jz rfl rfl (by(first|omega|(simp;omega))) rfl) ?_
    refine jk (br (us:=((zs++List.replicate (xs.length-k) 0).set k ((((xs.getD k 0)+1000000000)-c)-1000000000)).map (CellD.i .u32)) f5 rfl rfl rfl rfl (by simp;omega) (rf (by(first|omega|(simp;omega)))) rfl) ?_
    refine bt<|ah ?_
    refine ar (bF ((k:Int)+1) (aT (by(first|omega|(simp;omega))) (by(first|omega|(simp;omega)))) rfl) ?_
    exact⟨⟨(k+1,0,zs++[xs.getD k 0+1000000000-c-1000000000]),hI.step hk hd1 hd2 hd3 hd4 hdS⟩,ap ⟨rfl,rfl,rfl,rfl,by rw[show((k+1:Nat):Int)=(k:Int)+1 from by omega];rfl,trivial⟩ ⟨by rw[show xs.length-(k+1)=xs.length-k-1 from by omega,←nk (m:=xs.length-k-1) (d:=xs.getD k 0+1000000000-c-1000000000) g6,show xs.length-k-1+1=xs.length-k from by omega];rfl,trivial⟩ rfl,by show xs.length-(k+1)<xs.length-k;omega⟩
   ·simp only[decide_eq_false_iff_not] at hc4
    have hd1:0≤xs.getD k 0+1000000000-c:=by omega
    have hd2:xs.getD k 0+1000000000-c<1000000000:=by omega
    have hd3:(0:Int)≤1:=by omega
    have hd4:(1:Int)≤1:=by omega
    have hdS:xs.getD k 0+1000000000-c-1000000000*1=xs.getD k 0-c-ys.getD k 0:=by omega
    refine aA<|bq<|bH 3 ?_
    refine aO (bE jz rfl rfl (by(first|omega|(simp;omega))) rfl) ?_
    refine jk (br (us:=((zs++List.replicate (xs.length-k) 0).set k (((xs.getD k 0)+1000000000)-c)).map (CellD.i .u32)) f5 rfl rfl rfl rfl (by simp;omega) (rf (by(first|omega|(simp;omega)))) rfl) ?_
    refine bt<|ah ?_
    refine ar (bF ((k:Int)+1) (aT (by(first|omega|(simp;omega))) (by(first|omega|(simp;omega)))) rfl) ?_
    exact⟨⟨(k+1,1,zs++[xs.getD k 0+1000000000-c]),hI.step hk hd1 hd2 hd3 hd4 hdS⟩,ap ⟨rfl,rfl,rfl,rfl,by rw[show((k+1:Nat):Int)=(k:Int)+1 from by omega];rfl,trivial⟩ ⟨by rw[show xs.length-(k+1)=xs.length-k-1 from by omega,←nk (m:=xs.length-k-1) (d:=xs.getD k 0+1000000000-c) g6,show xs.length-k-1+1=xs.length-k from by omega];rfl,trivial⟩ rfl,by show xs.length-(k+1)<xs.length-k;omega⟩
 ·have hk:k=xs.length:=by simp only[decide_eq_false_iff_not] at hc1;omega
  have hfin:val xs-val ys=val (zs++List.replicate (xs.length-k) 0):=by rw[show xs.length-k=0 from by omega];simp only[List.replicate_zero,m9];rw[hI.done hk hlen hle]
  have hLf:Lim (zs++List.replicate (xs.length-k) 0):=hI.L.append (Lim.zeros _)
  refine bV<|ae ?_
  refine wY (t:=5) (zs:=zs++List.replicate (xs.length-k) 0) (ys:=zs++List.replicate (xs.length-k) 0) rfl rfl (by first|omega|(simp;omega)|simp) (by omega) (by omega) (kZ (by first|omega|(simp;omega)|simp)) ?_
  refine ah<|ac rfl (mT hLf (by simp;omega))<|ba ?_
  rw[hfin]
  exact ai (ak ag)
theorem ET (hLxs:Lim xs) (hLys:Lim ys) (hn:xs.length≤100000000) (hm:ys.length≤100000000):Ok Tryz.prog 199 [.c (cM xs),.c (cM ys)] [.c (cL (val xs*val ys))]:=by
 refine eo Tryz.func199 68 [.tmp 4] rfl<|ae<|ah<|ae<|ah ?_
 refine ar (bF ((xs.length:Int)+(ys.length:Int)) (aT (by(first|omega|(simp;omega))) (by(first|omega|(simp;omega)))) rfl) ?_
 refine DL.mk<|qa (lU (n:=xs.length+ys.length) yM rfl rfl (by(first|omega|(simp;omega))) (by(first|omega|(simp;omega))) rfl) rfl<|fa ?_
 refine ae<|ae<|ah<|aG<|bv (ι:={t:Nat×List Int // TInv xs ys t.1 0 0 t.2}) (fun i=>⟨68,[(0,.v (.c (cM xs))),(1,.v (.c (cM ys))),(5,.o 14 (xs.length+ys.length) (xs.length+ys.length)),(6,.v (.c (.i .i64 (i.1.1:Int))))],[(14,194,i.1.2.map (CellD.i .u32))]⟩) (fun i=>xs.length-i.1.1) ⟨(0,List.replicate (xs.length+ys.length) 0),TInv.start⟩ (ap (bo rfl) ⟨by rw[show(List.replicate (xs.length+ys.length) (CellD.i .u32 0))=(List.replicate (xs.length+ys.length) 0).map (CellD.i .u32) from by simp];rfl,trivial⟩ rfl) ?_
 rintro⟨⟨j,zs⟩,hI⟩
 replace hI:TInv xs ys j 0 0 zs:=hI
 have g5:=hI.ik
 have g6:=hI.len
 dsimp only
 refine ae<|ae<|ah ?_
 refine aP rfl (fun hc1=>?_) (fun hc1=>?_)
 ·have hj:j<xs.length:=by simp only[decide_eq_true_eq] at hc1;omega
  refine aA<|ae<|aG<|ae<|ah<|ae<|ae<|ah<|aG<|bv (ι:={t:Nat×Int×List Int // TInv xs ys j t.1 t.2.1 t.2.2}) (fun i=>⟨68,[(0,.v (.c (cM xs))),(1,.v (.c (cM ys))),(5,.o 14 (xs.length+ys.length) (xs.length+ys.length)),(6,.v (.c (.i .i64 (j:Int)))),(7,.v (.c (.i .u64 i.1.2.1))),(8,.v (.c (.i .i64 (i.1.1:Int))))],[(14,194,i.1.2.2.map (CellD.i .u32))]⟩) (fun i=>ys.length-i.1.1) ⟨(0,0,zs),hI⟩ (ap (bo rfl) ⟨rfl,trivial⟩ rfl) ?_
  clear hI g6
  rintro⟨⟨k,c,zs⟩,hI⟩
  replace hI:TInv xs ys j k c zs:=hI
  have g1:=du hLxs j
  have g2:=du hLys k
  have g8:=du hI.L (j+k)
  have g3:=hI.c0
  have g4:=hI.c1
  have g5:=hI.ik
  have g7:=hI.kk
  have g6:=hI.len
  dsimp only
  refine ae<|ae<|ah ?_
  refine aP rfl (fun hc2=>?_) (fun hc2=>?_)
  ·have hk:k<ys.length:=by simp only[decide_eq_true_eq] at hc2;omega
   have hm0:0≤xs.getD j 0*ys.getD k 0:=fU g1.1 g2.1
   have hm1:xs.getD j 0*ys.getD k 0≤999999999*999999999:=qS (by omega) (by omega) g2.1 (by omega)
   refine aA<|ae<|aG<|ae<|wq 22 rfl rfl<|ji 4<|cK (bF ((j:Int)+(k:Int)) (aT (by omega) (by omega)) rfl) ?_
   refine cK (bE jz rfl rfl (by(first|omega|(simp;omega))) rfl) ?_
   refine cK (pQ f5 rfl rfl (aa9 (i:=j+k) (by(first|omega|(simp;omega)))) rfl) ?_
   refine cK (b6 (r:=zs.getD (j+k) 0) jN fX rfl (iE (by(first|omega|(simp;omega))) (by(first|omega|(simp;omega)))) rfl) ?_
   refine cK (bF (c+(zs.getD (j+k) 0)) (gn (by(first|omega|(simp;omega))) (by(first|omega|(simp;omega)))) rfl) ?_
   refine ji 2 ?_
   refine cK (bc jz rfl rfl (by(first|omega|(simp;omega))) (jR _) rfl rfl) ?_
   refine cK (bn f5 rfl (lJ (i:=j) (by(first|omega|(simp;omega)))) rfl) ?_
   refine cK (b6 (r:=xs.getD j 0) jN fX rfl (iE (by(first|omega|(simp;omega))) (by(first|omega|(simp;omega)))) rfl) ?_
   refine ji 2 ?_
   refine cK (bc jz rfl rfl (by(first|omega|(simp;omega))) (jR _) rfl rfl) ?_
   refine cK (bn f5 rfl (lJ (i:=k) (by(first|omega|(simp;omega)))) rfl) ?_
   refine cK (b6 (r:=ys.getD k 0) jN fX rfl (iE (by(first|omega|(simp;omega))) (by(first|omega|(simp;omega)))) rfl) ?_
   refine cK (bF ((xs.getD j 0)*(ys.getD k 0)) (iK (by(first|omega|(simp;omega))) (by(first|omega|(simp;omega)))) rfl) ?_
   refine cK (bF ((c+(zs.getD (j+k) 0))+((xs.getD j 0)*(ys.getD k 0))) (gn (by(first|omega|(simp;omega))) (by(first|omega|(simp;omega)))) rfl) ?_
   refine Gm<|iC<|bt<|ae<|bq<|bH 3<|aO (bF ((j:Int)+(k:Int)) (aT (by omega) (by omega)) rfl)<|bH 1<|aO (mW (r:=(c+zs.getD (j+k) 0+xs.getD j 0*ys.getD k 0)%1000000000) rfl rfl (by omega) (rJ (by omega)) rfl) ?_
   refine aO (b6 (r:=(c+zs.getD (j+k) 0+xs.getD j 0*ys.getD k 0)%1000000000) fX jN rfl (sX (by omega) (by omega)) rfl) ?_
   refine aO (bE jz rfl rfl (by(first|omega|(simp;omega))) rfl) ?_
   refine jk (br (us:=(zs.set (j+k) ((c+zs.getD (j+k) 0+xs.getD j 0*ys.getD k 0)%1000000000)).map (CellD.i .u32)) f5 rfl rfl rfl rfl (by simp;omega) (rf (by(first|omega|(simp;omega)))) rfl) ?_
   refine bt<|ah<|ar (iJ (r:=(c+zs.getD (j+k) 0+xs.getD j 0*ys.getD k 0)/1000000000) rfl rfl (by omega) (by rw[qX (by omega)];exact iE (by omega) (by omega)) rfl) ?_
   refine ah ?_
   refine ar (bF ((k:Int)+1) (aT (by(first|omega|(simp;omega))) (by(first|omega|(simp;omega)))) rfl) ?_
   exact⟨⟨(k+1,(c+zs.getD (j+k) 0+xs.getD j 0*ys.getD k 0)/1000000000,zs.set (j+k) ((c+zs.getD (j+k) 0+xs.getD j 0*ys.getD k 0)%1000000000)),hI.step hLxs hLys hj hk rfl⟩,ap ⟨rfl,rfl,rfl,rfl,rfl,by rw[show((k+1:Nat):Int)=(k:Int)+1 from by omega];rfl,trivial⟩ ⟨rfl,trivial⟩ rfl,by show ys.length-(k+1)<ys.length-k;omega⟩
  ·have hk:k=ys.length:=by simp only[decide_eq_false_iff_not] at hc2;omega
   refine bV<|bq<|bH 4 ?_
   refine aO (bF ((j:Int)+(ys.length:Int)) (aT (by(first|omega|(simp;omega))) (by(first|omega|(simp;omega)))) rfl) ?_
   refine bH 1<|aO (b6 (r:=c) fX jN rfl (sX (by omega) (by omega)) rfl) ?_
   refine aO (bE jz rfl rfl (by(first|omega|(simp;omega))) rfl) ?_
   refine jk (br (us:=(zs.set (j+ys.length) c).map (CellD.i .u32)) f5 rfl rfl rfl rfl (by simp;omega) (rf (by(first|omega|(simp;omega)))) rfl) ?_
   refine bt<|ah ?_
   refine ar (bF ((j:Int)+1) (aT (by(first|omega|(simp;omega))) (by(first|omega|(simp;omega)))) rfl) ?_
   exact⟨⟨(j+1,zs.set (j+ys.length) c),hI.row hj hk⟩,ap ⟨rfl,rfl,rfl,by rw[show((j+1:Nat):Int)=(j:Int)+1 from by omega];rfl,trivial⟩ ⟨rfl,trivial⟩ rfl,by show xs.length-(j+1)<xs.length-j;omega⟩
 ·have hj:j=xs.length:=by simp only[decide_eq_false_iff_not] at hc1;omega
  have hfin:val xs*val ys=val zs:=(hI.done hj).symm
  have hLf:Lim zs:=hI.L
  refine bV<|ae ?_
  refine wY (t:=5) (zs:=zs) (ys:=zs) rfl rfl (by first|omega|(simp;omega)|simp) (by omega) (by omega) (kZ (by first|omega|(simp;omega)|simp)) ?_
  refine ah<|ac rfl (mT hLf (by omega))<|ba ?_
  rw[hfin]
  exact ai (ak ag)
theorem JF (hLxs:Lim xs) (hn:xs.length≤100000000) (h0:0≤m) (h1:m<1000000000):Ok Tryz.prog 282 [.c (cM xs),.c (.i .u32 m)] [.c (cL (val xs*m))]:=by
 have hv1:val [m]=m:=by simp[val]
 refine b9 Tryz.func282 rfl<|ar (yw yM rfl rfl) ?_
 refine ac rfl (mT (Lim.nil.cons h0 h1) (gj rfl))<|ac rfl (ET hLxs (b8 _) hn (iO (x:=val [m]) (k:=100000000) (by rw[hv1];exact dC (by omega) (by omega) (by omega))))<|ai ?_
 rw[show val xs*m=val xs*val (dJ (val [m]).natAbs) from by rw[co,show(((val [m]).natAbs:Nat):Int)=m from by simp[val];omega]]
 exact ak ag
theorem Ja (hLxs:Lim xs) (hLys:Lim ys) (nX:Nrm xs) (nY:Nrm ys) (hn:xs.length≤100000000) (_hm:ys.length≤100000000):Ok Tryz.prog 169 [.c (cM xs),.c (cM ys)] [.c (.i .i64 (fk (val xs) (val ys)))]:=by
 refine eo Tryz.func169 41 [.tmp 4] rfl<|ae<|ah<|ae<|ae<|ah ?_
 refine aP rfl (fun hc1=>?_) (fun hc1=>?_)
 ·have hne:xs.length≠ys.length:=by simp only[bne_iff_ne,ne_eq] at hc1;omega
  refine ae<|ae<|ah ?_
  refine aP rfl (fun hc2=>?_) (fun hc2=>?_)
  ·have hfin:fk (val xs) (val ys)= -1:=fK (BO nY hLxs hLys (by simp only[decide_eq_true_eq] at hc2;omega))
   refine ae<|ah<|ba ?_
   rw[hfin]
   exact ai (ak ag)
  ·have hfin:fk (val xs) (val ys)=1:=fQ (BO nX hLys hLxs (by simp only[decide_eq_false_iff_not] at hc2;omega))
   refine aA<|ae<|ah<|ba ?_
   rw[hfin]
   exact ai (ak ag)
 ·have heq:xs.length=ys.length:=by simp only[bne_eq_false_iff_eq] at hc1;omega
  refine aA<|ae<|ae<|ah ?_
  refine ar (bF ((xs.length:Int)-1) (aS (by(first|omega|(simp;omega))) (by(first|omega|(simp;omega)))) rfl) ?_
  refine aG<|bv (ι:={j:Nat // j≤xs.length∧xs.drop j=ys.drop j}) (fun i=>⟨41,[(0,.v (.c (cM xs))),(1,.v (.c (cM ys))),(5,.v (.c (.i .i64 ((i.1:Int)-1))))],[]⟩) (fun i=>i.1) ⟨xs.length,ck _,by rw[qI (ck _),qI (by omega)]⟩ (ap (bo rfl) trivial rfl) ?_
  rintro⟨j,hj,hD⟩
  dsimp only
  refine ae<|ae<|ah ?_
  refine aP rfl (fun hc3=>?_) (fun hc3=>?_)
  ·obtain⟨q,rfl⟩: ∃q,j=q+1:=⟨j-1,by simp only[decide_eq_true_eq] at hc3;omega⟩
   have e1:=getD_some (xs:=xs) (i:=q) (by omega)
   have e2:=getD_some (xs:=ys) (i:=q) (by omega)
   refine nH (σ':=⟨41,[(0,.v (.c (cM xs))),(1,.v (.c (cM ys))),(5,.v (.c (.i .i64 (q:Int))))],[]⟩) (ap ⟨rfl,rfl,by rw[show(q:Int)=((q+1:Nat):Int)-1 from by omega];rfl,trivial⟩ trivial rfl) ?_
   refine aA<|ae<|aG<|ae<|ae<|cX 9 [] ?_
   refine aq (bc jz rfl rfl (by(first|omega|(simp;omega))) (jR _) rfl rfl) ?_
   refine aq (bn f5 rfl (lJ (i:=q) (by(first|omega|(simp;omega)))) rfl) ?_
   refine aq (bc jz rfl rfl (by(first|omega|(simp;omega))) (jR _) rfl rfl) ?_
   refine aq (bn f5 rfl (lJ (i:=q) (by(first|omega|(simp;omega)))) rfl) ?_
   refine aP rfl (fun hc4=>?_) (fun hc4=>?_)
   ·have hfin:fk (val xs) (val ys)= -1:=fK (G5 hLxs hLys e1 e2 hD (by simpa using hc4))
    refine ae<|ah<|ba ?_
    rw[hfin]
    exact ai (ak ag)
   ·have hlt: ¬xs.getD q 0<ys.getD q 0:=by simpa using hc4
    refine aA<|ae<|cX 9 [] ?_
    refine aq (bc jz rfl rfl (by(first|omega|(simp;omega))) (jR _) rfl rfl) ?_
    refine aq (bn f5 rfl (lJ (i:=q) (by(first|omega|(simp;omega)))) rfl) ?_
    refine aq (bc jz rfl rfl (by(first|omega|(simp;omega))) (jR _) rfl rfl) ?_
    refine aq (bn f5 rfl (lJ (i:=q) (by(first|omega|(simp;omega)))) rfl) ?_
    refine aP rfl (fun hc5=>?_) (fun hc5=>?_)
    ·have hfin:fk (val xs) (val ys)=1:=fQ (G5 hLys hLxs e2 e1 hD.symm (by simpa using hc5))
     refine ae<|ah<|ba ?_
     rw[hfin]
     exact ai (ak ag)
    ·have hgt: ¬xs.getD q 0>ys.getD q 0:=by simpa using hc5
     refine aA<|ah ?_
     refine ar (bF ((q:Int)-1) (aS (by(first|omega|(simp;omega))) (by(first|omega|(simp;omega)))) rfl) ?_
     exact⟨⟨q,by omega,Om (by omega) (by omega) hD (by omega)⟩,ap (bo rfl) trivial rfl,by show q<q+1;omega⟩
  ·have hz:j=0:=by simp only[decide_eq_false_iff_not] at hc3;omega
   have hfin:fk (val xs) (val ys)=0:=by subst hz;simp only[wC] at hD;rw[hD];exact mm rfl
   refine bV<|ae<|ah<|ba ?_
   rw[hfin]
   exact ai (ak ag)
theorem Bf (hLxs:Lim xs) (hn:xs.length≤100000000) (hb:val xs≤18446744073709551615):Ok Tryz.prog 171 [.c (cM xs)] [.c (.i .u64 (val xs))]:=by
 refine eo Tryz.func171 21 [.tmp 2] rfl<|ae<|ah<|ae<|ah<|ae<|ae<|ah ?_
 refine ar (bF ((xs.length:Int)-1) (aS (by(first|omega|(simp;omega))) (by(first|omega|(simp;omega)))) rfl) ?_
 refine aG<|bv (ι:={t:Nat×Int // ShInv xs t.1 t.2}) (fun i=>⟨21,[(0,.v (.c (cM xs))),(3,.v (.c (.i .u64 i.1.2))),(4,.v (.c (.i .i64 ((i.1.1:Int)-1))))],[]⟩) (fun i=>i.1.1) ⟨(xs.length,0),⟨Nat.le_refl _,o9 0,by rw[qh];simp⟩⟩ (ap (bo rfl) trivial rfl) ?_
 rintro⟨⟨j,r⟩,hI⟩
 replace hI:ShInv xs j r:=hI
 have g5:=hI.le
 have g3:=hI.r0
 dsimp only
 refine ae<|ae<|ah ?_
 refine aP rfl (fun hc1=>?_) (fun hc1=>?_)
 ·obtain⟨q,rfl⟩: ∃q,j=q+1:=⟨j-1,by simp only[decide_eq_true_eq] at hc1;omega⟩
  have hS:=hI.step hLxs
  have hB:=hS.bound hLxs
  have g1:=du hLxs q
  refine nH (σ':=⟨21,[(0,.v (.c (cM xs))),(3,.v (.c (.i .u64 r))),(4,.v (.c (.i .i64 (q:Int))))],[]⟩) (ap ⟨rfl,rfl,by rw[show(q:Int)=((q+1:Nat):Int)-1 from by omega];rfl,trivial⟩ trivial rfl) ?_
  refine aA<|ae<|aG<|ah ?_
  refine ar (bF (r*1000000000) (iK (by(first|omega|(simp;omega))) (by(first|omega|(simp;omega)))) rfl) ?_
  refine ar (bc jz rfl rfl (by(first|omega|(simp;omega))) (jR _) rfl rfl) ?_
  refine ar (bn f5 rfl (lJ (i:=q) (by(first|omega|(simp;omega)))) rfl) ?_
  refine ar (b6 (r:=xs.getD q 0) jN fX rfl (iE (by(first|omega|(simp;omega))) (by(first|omega|(simp;omega)))) rfl) ?_
  refine ar (bF ((r*1000000000)+(xs.getD q 0)) (gn (by(first|omega|(simp;omega))) (by(first|omega|(simp;omega)))) rfl) ?_
  refine ah ?_
  refine ar (bF ((q:Int)-1) (aS (by(first|omega|(simp;omega))) (by(first|omega|(simp;omega)))) rfl) ?_
  exact⟨⟨(q,r*1000000000+xs.getD q 0),hS⟩,ap (bo rfl) trivial rfl,by show q<q+1;omega⟩
 ·have hz:j=0:=by simp only[decide_eq_false_iff_not] at hc1;omega
  have hfin:val xs=r:=by subst hz;have:=hI.v;simp[val,uJ] at this;omega
  refine bV<|ae<|ah<|ba ?_
  rw[hfin]
  exact ai (ak ag)
theorem KC {neg:Bool}(hL:Lim xs) (hn:xs.length≤1000000000):Ok Tryz.prog 159 [.c (.b neg),.c (cM xs)] [dI (sg neg (val xs))]:=by
 refine b9 Tryz.func159 rfl<|ac rfl (mT hL (by omega)) ?_
 refine lg (bJ rfl) (fun c1 hb1=>?_)
 cases c1
 ·have hfin:dI (sg neg (val xs))=.a ([.b false]++[cL (val xs)]):=by rw[hb1,cW];unfold dI cI;rw[show decide (val xs<0)=false from by have:=cS hL;simp;omega];rfl
  refine ar (aF (us:=([.b false]++[cL (val xs)])) J5 D9 rfl rfl rfl) ?_
  refine ai ?_
  rw[hfin]
  exact bj d5 rfl ag
 ·have hfin:dI (sg neg (val xs))=.a ([.b (decide (((dJ (val xs).natAbs).length:Int)>0))]++[cL (val xs)]):=by rw[hb1];exact Wc (cS hL)
  refine ar (aF (us:=([.b (decide ((((dJ (val xs).natAbs).length:Int))>0))]++[cL (val xs)])) J5 D9 rfl rfl rfl) ?_
  refine ai ?_
  rw[hfin]
  exact bj d5 rfl ag
theorem SC (h:0<r):dJ r.toNat=(r%1000000000)::dJ (r/1000000000).toNat:=by
 rw[BX (by omega)]
 congr 1
 ·omega
 ·congr 1;omega
set_option maxHeartbeats 1000000 in
set_option maxRecDepth 10000 in
theorem Ks (u:Int) (w:World) (h0:0≤u) (h1:u≤18446744073709551615):
 Calls Tryz.prog 160 #[.int .u64 u] w fun e w'=> ∃v,e=.returned v∧w'.ownsRow w.heap.size 194 1 v (dJ u.toNat).length ((dJ u.toNat).map (Value.int .u32))∧Below w.heap.size w w':=by
 obtain⟨i0,hi0,hz0,hz1,hz2⟩:=info_parts oH
 have hlen:(dJ u.toNat).length≤3:=by
  refine(jU _).len (b8 _) ?_
  rw[co]
  have h3:pw 3=1000000000000000000000000000:=by decide
  omega
 go_enter Tryz.func160,Tryz.ntmps160
 go_wp2_with fail
 go_loopw [0,3] (fun n v wr=> ∃(r:Int) (k:Nat) (zs:List Int),n=.int .u64 r∧0≤r∧r≤u∧wr.ownsRow w.heap.size 194 1 v k (zs.map (Value.int .u32))∧Below w.heap.size w wr∧Hid (zs.length=k∧dJ u.toNat=zs++dJ r.toNat))
  (fun n _ _=>(intOf n).toNat)
 case atStart=>exact⟨u,0,[],rfl,h0,o9 _,ra _ _ _ _,fJ _ _,rfl,rfl⟩
 case round=>
  obtain⟨r,k,zs,rfl,hr0,hru,hown,hbel,H⟩:=hrel
  have hz:=hbel.size
  by_cases hr:0<r
  ·have Hs:Hid ((zs++[r%1000000000]).length=k+1∧dJ u.toNat=(zs++[r%1000000000])++dJ (r/1000000000).toNat):=by
    obtain⟨l1,l2⟩:=H.out
    refine⟨by simp[l1],?_⟩
    rw[l2,SC hr];simp
   have hk:k≤3:=by
    obtain⟨l1,l2⟩:=H.out
    rw[l2] at hlen
    simp at hlen;omega
   clear H
   have e1:r.tmod 1000000000=r%1000000000:=rJ hr0
   have e2:IntKind.u32.wrap (r%1000000000)=r%1000000000:=sX (by omega) (by omega)
   have e3:r.tdiv 1000000000=r/1000000000:=qX hr0
   have e4:IntKind.u64.wrap (r/1000000000)=r/1000000000:=iE (by omega) (by omega)
   go_wp2_with (at_builtin;go_must (refine wpList_append_own _ rfl _ _ 34 rfl w.heap.size 194 i0 (.int .u32 0) 1 4 pi hi0 hz0 hz1 hz2 rfl (by decide) _ _ _ rfl (hown.alloc _) ⟨wr.heap.size,0,none⟩ 1 1 [.int .u32 _] rfl rfl (cell_one_new _ _ _) (by simp[Value.oneCell']) (by unfold maxLen;omega) (by omega) (by simp;omega) ?_);intro v' w1 hown' hgrow' _)
   go_roundw
   case rel=>exact⟨r/1000000000,k+1,_,by first|rfl|(simp[e3,e4]),by omega,by omega,by simpa using hown',jy hown hbel hz hgrow',Hs⟩
   case measure=>simp[intOf]<;>omega
  ·obtain rfl:r=0:=by omega
   have Hs:Hid (zs.length=k∧dJ u.toNat=zs):=by
    obtain⟨l1,l2⟩:=H.out
    refine⟨l1,?_⟩
    rw[l2];simp[lT]
   clear H
   go_wp2
   go_ret
   obtain⟨l1,l2⟩:=Hs.out
   exact⟨_,rfl,by rw[l2,l1];exact hown,hbel⟩
theorem sP (h0:0≤u) (h1:u≤18446744073709551615):Ok Tryz.prog 160 [.c (.i .u64 u)] [.c (cL u)]:=⟨by kernel_rfl,fun av vs w hav h=>by
 obtain⟨vs⟩:=vs
 match vs,h.1,h with
 |[v],_,h=>
  obtain rfl:=fO h.uncons.1
  refine(Ks u w h0 h1).mono ?_
  rintro e w' ⟨v,rfl,g1,g2⟩
  obtain⟨A,c,rfl⟩:=DX g1
  refine⟨_,rfl,?_,g2⟩
  have hn:u.natAbs=u.toNat:=by omega
  have hsl:=Ow.sl ⟨g1,b8 _⟩
  have:=yp (av:=av) hsl.1 hsl.2.1 hsl.2.2.1 (fun b off e hV=>by have:=Ow.fresh (k:=w.heap.size) (⟨g1,b8 _⟩:Ow w' w.heap.size _ _ _) (ck _) b off e;have:=hav b hV;omega)
  show RdC av w' _ (cL u)
  unfold cL
  rw[hn];exact this⟩
structure DInv (us:List Int) (V:Int) (N j:Nat) (R:Int) (zs:List Int):Prop where
 le:j≤us.length
 R0:0≤R
 RV:R<V
 L:Lim zs
 len:zs.length=N
 hN:us.length≤N
 v:val (us.drop j)=val ((zs.take us.length).drop j)*V+R
theorem Fk (h:i<xs.length):val (xs.drop i)=xs.getD i 0+1000000000*val (xs.drop (i+1)):=by
 rw[nI h,ed]
 grind
theorem DInv.start (hV:0<V) (hN:us.length≤N):DInv us V N us.length 0 (List.replicate N 0):=
 ⟨Nat.le_refl _,o9 _,hV,Lim.zeros _,by simp,hN,by rw[qI (ck _),qI (by simp;omega)];simp[val]⟩
theorem DInv.step {q R':Int}(h:DInv us V N (i+1) R zs) (_hL:Lim us) (hq0:0≤q) (hq1:q<1000000000) (hR0:0≤R') (hRV:R'<V) (he:us.getD i 0+1000000000*R=q*V+R'):DInv us V N i R' (zs.set i q):=by
 have hi:i<us.length:=h.le
 have hlen:=h.len
 have hN:=h.hN
 refine⟨by omega,hR0,hRV,h.L.set hq0 hq1,by simp[hlen],hN,?_⟩
 have e1:((zs.set i q).take us.length)=(zs.take us.length).set i q:=by rw[List.take_set]
 have hi2:i<((zs.take us.length).set i q).length:=by grind
 rw[Fk hi,h.v,e1,Fk hi2]
 have e3:((zs.take us.length).set i q).drop (i+1)=(zs.take us.length).drop (i+1):=by rw[Dv (by omega)]
 grind
theorem DInv.done (h:DInv us V N 0 R zs):val us/V=val (zs.take us.length)∧val us%V=R:=by
 have hv:=h.v
 simp only[wC] at hv
 have h0:=h.R0
 have h1:=h.RV
 exact(Int.ediv_emod_unique (show 0<V by omega)).2 ⟨by rw[hv,rA V];omega,h0,h1⟩
theorem EN (hR:0≤R) (hV:R<V) (hd:0≤d) (hd1:d<1000000000):0≤(d+1000000000*R)/V∧(d+1000000000*R)/V≤999999999:=by
 refine⟨Int.ediv_nonneg (by omega) (by omega),?_⟩
 have:(d+1000000000*R)/V<1000000000:=Int.ediv_lt_of_lt_mul (by omega) (by omega)
 omega
theorem Z8 {T hi top:Int}(hV:top*pw n≤V) (htop:0<top) (hT:T<(hi+1)*pw n) (hT0:0≤T) (hVp:0<V):T/V≤hi/top:=by
 have h1:T/V*V≤T:=Int.ediv_mul_le _ (by omega)
 have h0:0≤T/V:=uC hT0 (by omega)
 generalize T/V=q at*
 have h2:q*(top*pw n)≤q*V:=m8 hV h0
 have hp:=cU n
 have h3:q*top*pw n<(hi+1)*pw n:=by grind
 have h4:q*top<hi+1:=Int.lt_of_mul_lt_mul_right h3 (by omega)
 exact(Dn htop).2 (by omega)
structure HInv (rs:List Int) (n:Nat) (H:Int):Prop where
 h0:0≤H
 h1:H≤999999999999999999
 h:val rs<(H+1)*pw (n-1)
theorem Uq (hL:Lim rs) (hn:1≤n) (hl:rs.length=n+1):HInv rs n (rs.getD n 0*1000000000+rs.getD (n-1) 0):=by
 have g1:=du hL n
 have g2:=du hL (n-1)
 refine⟨by omega,by omega,?_⟩
 obtain⟨k,rfl⟩: ∃k,n=k+1:=⟨n-1,by omega⟩
 have e1:=nQ (xs:=rs) (k:=k+1) (by omega)
 have e2:=nQ (xs:=rs) (k:=k) (by omega)
 rw[de (by omega),e2] at e1
 have h1:=fR (hL.take k)
 rw[e1,dT]
 grind
theorem Wp (hL:Lim rs) (hn:1≤n) (hl:rs.length=n):HInv rs n (rs.getD (n-1) 0):=by
 have g2:=du hL (n-1)
 refine⟨by omega,by omega,?_⟩
 obtain⟨k,rfl⟩: ∃k,n=k+1:=⟨n-1,by omega⟩
 have e2:=nQ (xs:=rs) (k:=k) (by omega)
 have h1:=fR (hL.take k)
 grind
theorem RN (hL:Lim rs) (hl:rs.length<n):HInv rs n 0:=by
 refine⟨by omega,by omega,?_⟩
 have h1:=fR hL
 have:=mv (n:=rs.length) (m:=n-1) (by omega)
 omega
theorem H8 (hL:Lim vs) (hN:Nrm vs) (hne:vs≠ []):0<vs.getD (vs.length-1) 0∧vs.getD (vs.length-1) 0*pw (vs.length-1)≤val vs:=by
 obtain⟨ys,y,e,hy⟩:=hN.last hne
 have hl:vs.length=ys.length+1:=by grind
 have hk:vs.length-1<vs.length:=by omega
 have e1:=nQ hk
 have h1:=cS (hL.take (vs.length-1))
 have h2:=du hL (vs.length-1)
 grind
theorem w8 (h0:0≤r) (h:r<pw n):(dJ r.natAbs).length≤n:=by
 refine(jU _).len (b8 _) ?_
 rw[co];omega
theorem Yi {s:Int}(hs:0<s):(x*s)/(y*s)=x/y∧(x*s)%(y*s)=x%y*s:=by
 refine⟨Int.mul_ediv_mul_of_pos_left x y hs,?_⟩
 rw[rA x,rA y,Int.mul_emod_mul_of_pos _ _ hs,rA]
theorem Gu (h:Sz k a):Sz k (a.natAbs:Int):=h.of_le (by omega)
theorem p8 (ha:Sz 100000000 a) (hb:Sz 100000000 b):Ok Tryz.prog 169 [.c (cL a),.c (cL b)] [.c (.i .i64 (fk a.natAbs b.natAbs))]:=by
 have:=Ja (b8 a.natAbs) (b8 b.natAbs) (jU _) (jU _) (iO ha) (iO hb)
 rw[co,co] at this
 exact this
theorem Wi (ha:Sz 100000000 a) (hb:Sz 100000000 b):Ok Tryz.prog 289 [.c (cL a),.c (cL b)] [.c (cL ((a.natAbs:Int)+b.natAbs))]:=by
 have:=RW (b8 a.natAbs) (b8 b.natAbs) (iO ha) (iO hb)
 rw[co,co] at this
 exact this
theorem zi (ha:Sz 100000000 a) (h:b.natAbs≤a.natAbs):Ok Tryz.prog 283 [.c (cL a),.c (cL b)] [.c (cL ((a.natAbs:Int)-b.natAbs))]:=by
 have:=NE (b8 a.natAbs) (b8 b.natAbs) (iO ha) ((jU _).len (b8 _) (by have:=fR (b8 a.natAbs);rw[co] at this⊢;omega)) (by rw[co,co];omega)
 rw[co,co] at this
 exact this
theorem Rs (ha:Sz 100000000 a) (hb:Sz 100000000 b):Ok Tryz.prog 199 [.c (cL a),.c (cL b)] [.c (cL ((a.natAbs:Int)*b.natAbs))]:=by
 have:=ET (b8 a.natAbs) (b8 b.natAbs) (iO ha) (iO hb)
 rw[co,co] at this
 exact this
theorem ab2 (ha:Sz 100000000 a) (h0:0≤m) (h1:m<1000000000):Ok Tryz.prog 282 [.c (cL a),.c (.i .u32 m)] [.c (cL ((a.natAbs:Int)*m))]:=by
 have:=JF (b8 a.natAbs) (iO ha) h0 h1
 rw[co] at this
 exact this
theorem jb {neg:Bool}(ha:Sz 100000000 a):Ok Tryz.prog 159 [.c (.b neg),.c (cL a)] [dI (sg neg (a.natAbs:Int))]:=by
 have:=KC (neg:=neg) (b8 a.natAbs) (by have:=iO ha;omega)
 rw[co] at this
 exact this
theorem Sn (hr:0≤r) (h0:0≤d) (h1:d<1000000000) (hl:(dJ r.natAbs).length≤100000000):Ok Tryz.prog 168 [.c (cM (d::dJ r.natAbs))] [.c (cL (d+1000000000*r))]:=by
 have:=mT (Lim.cons h0 h1 (b8 r.natAbs)) (by simp;omega)
 rw[ed,co] at this
 rw[show((r.natAbs:Nat):Int)=r from by omega] at this
 exact this
theorem HI (ha:a.natAbs≤18446744073709551615):Ok Tryz.prog 171 [.c (cL a)] [.c (.i .u64 (a.natAbs:Int))]:=by
 have:=Bf (b8 a.natAbs) (by have h3:pw 3=1000000000000000000000000000:=by decide
                            have:=(jU a.natAbs).len (b8 _) (k:=3) (by rw[co];omega)
                            omega) (by rw[co];omega)
 rw[co] at this
 exact this
theorem ND (hLxs:Lim xs) (hLys:Lim ys) (_nX:Nrm xs) (nY:Nrm ys) (hn:xs.length≤20000000) (hm:ys.length≤20000000) (hy0:ys≠ []):Ok Tryz.prog 170 [.c (cM xs),.c (cM ys)] [.c (cL (val xs/val ys)),.c (cL (val xs%val ys))]:=by
 have hyl:1≤ys.length:=by have:=List.length_pos_iff.2 hy0;omega
 obtain⟨htop,htopv⟩:=H8 hLys nY hy0
 have hB1:=du hLys (ys.length-1)
 have hvy0:0<val ys:=by have h2:=m8 (cU (ys.length-1)) (show 0≤ys.getD (ys.length-1) 0 by omega);omega
 have hvx0:=cS hLxs
 obtain⟨B,hB⟩: ∃B,ys.getD (ys.length-1) 0=B:=⟨_,rfl⟩
 rw[hB] at htop hB1 htopv
 obtain⟨s,hs⟩: ∃s,1000000000/(B+1)=s:=⟨_,rfl⟩
 have hs1:1≤s:=by rw[←hs];exact(Dn (by omega)).2 (by omega)
 have hs2:s≤500000000:=by rw[←hs];exact Int.ediv_le_of_le_mul (by omega) (by omega)
 obtain⟨V,hV⟩: ∃V,val ys*s=V:=⟨_,rfl⟩
 obtain⟨W,hW⟩: ∃W,val xs*s=W:=⟨_,rfl⟩
 have hV0:0<V:=by rw[←hV];exact sZ hvy0 (by omega)
 have hW0:0≤W:=by rw[←hW];exact fU hvx0 (by omega)
 have eV:(V.natAbs:Int)=V:=by omega
 have eW:(W.natAbs:Int)=W:=by omega
 have hVb:V<pw (ys.length+1):=by
  have h1:=fR hLys
  have h2:val ys*s≤val ys*1000000000:=m8 (by omega) (by omega)
  rw[dT];omega
 have hWb:W<pw (xs.length+1):=by
  have h1:=fR hLxs
  have h2:val xs*s≤val xs*1000000000:=m8 (by omega) (by omega)
  rw[dT];omega
 have hVlen:(dJ V.natAbs).length≤ys.length+1:=w8 (by omega) hVb
 have hWlen:(dJ W.natAbs).length≤xs.length+1:=w8 hW0 hWb
 have hVne:dJ V.natAbs≠ []:=fun e=>by have:=eZ.1 e;omega
 have hVl1:1≤(dJ V.natAbs).length:=by have:=List.length_pos_iff.2 hVne;omega
 obtain⟨htop2,htopv2⟩:=H8 (b8 V.natAbs) (jU _) hVne
 have hB2:=du (b8 V.natAbs) ((dJ V.natAbs).length-1)
 rw[co,eV] at htopv2
 obtain⟨top,ht⟩: ∃top,(dJ V.natAbs).getD ((dJ V.natAbs).length-1) 0=top:=⟨_,rfl⟩
 rw[ht] at htop2 htopv2 hB2
 obtain⟨n,hnl⟩: ∃n,(dJ V.natAbs).length=n:=⟨_,rfl⟩
 rw[hnl] at hVlen hVl1 htopv2 ht
 have hVlt:V<pw n:=by have:=fR (b8 V.natAbs);rw[co,eV,hnl] at this;exact this
 obtain⟨hq1,hq2⟩:=Yi (x:=val xs) (y:=val ys) (s:=s) (by omega)
 rw[hV,hW] at hq1 hq2
 have szV:Sz 100000000 V:=⟨by have:=mv (n:=ys.length+1) (m:=100000000) (by omega);omega,by have:=cU 100000000;omega⟩
 have hby1:Ok Tryz.prog 282 [.c (cM ys),.c (.i .u32 s)] [.c (cL V)]:=by rw[←hV];exact JF hLys (by omega) (by omega) (by omega)
 have hby2:Ok Tryz.prog 282 [.c (cM xs),.c (.i .u32 s)] [.c (cL W)]:=by rw[←hW];exact JF hLxs (by omega) (by omega) (by omega)
 have hbyV: ∀g:Int,0≤g→g<1000000000→Ok Tryz.prog 282 [.c (cL V),.c (.i .u32 g)] [.c (cL (V*g))]:=fun g h0 h1=>by have:=ab2 szV h0 h1;rw[eV] at this;exact this
 refine eo Tryz.func170 173 [.tmp 4,.tmp 5] rfl<|ae<|ah ?_
 refine pr (ι:=Unit) (fun i=>⟨173,[(0,.v (.c (cM xs))),(1,.v (.c (cM ys)))],[]⟩) ?_ ?_
 ·refine ae<|ah ?_
  refine lg (bJ rfl) (fun c1 hb1=>?_)
  cases c1
  ·refine bh rfl<|aA ?_
   exact⟨(),ap (bo rfl) trivial rfl⟩
  ·have ha2:xs.length≤2:=by simp only[decide_eq_true_eq] at hb1;omega
   refine aP rfl (fun hc2=>?_) (fun hc2=>?_)
   ·have hb2:ys.length≤2:=by simp only[decide_eq_true_eq] at hc2;omega
    have hp2:pw 2=1000000000000000000:=by decide
    have hvx2:=fR hLxs
    have hvy2:=fR hLys
    have hp3:=mv (n:=xs.length) (m:=2) ha2
    have hp4:=mv (n:=ys.length) (m:=2) hb2
    have hd0:0≤val xs/val ys:=uC (by omega) (by omega)
    have hd1:val xs/val ys≤val xs:=AY _ (by omega)
    have hd2:val xs/val ys≤18446744073709551615:=by omega
    have hm0:0≤val xs%val ys:=po _ (by omega)
    have hm1:val xs%val ys<val ys:=oJ _ (by omega)
    have hm2:val xs%val ys≤18446744073709551615:=by omega
    refine ae<|ah<|ac rfl (Bf hLxs (by omega) (by omega))<|ac rfl (Bf hLys (by omega) (by omega))<|ae<|cX 10 []<|aq (iJ (r:=val xs/val ys) rfl rfl (by omega) (by rw[qX (by omega)];exact iE (by omega) (by omega)) rfl) ?_
    refine aI rfl (sP (by assumption) (by assumption))<|aq (mW (r:=val xs%val ys) rfl rfl (by omega) (rJ hvx0) rfl) ?_
    refine aI rfl (sP (by assumption) (by assumption))<|ba ?_
    exact ai (ak (ak ag))
   ·refine aA ?_
    exact⟨(),ap (bo rfl) trivial rfl⟩
 ·rintro⟨⟩
  try dsimp only
  refine ae<|ah ?_
  refine ar (bF (((ys.length-1:Nat):Int)) (by rw[show((ys.length-1:Nat):Int)=(ys.length:Int)-1 from by omega];exact aS (by omega) (by omega)) rfl) ?_
  refine ar (bc jz rfl rfl (by(first|omega|(simp;omega))) (jR _) rfl rfl) ?_
  refine ar (bn f5 rfl (lJ (i:=(ys.length-1)) (by(first|omega|(simp;omega)))) rfl) ?_
  refine ar (b6 (r:=B) jN fX rfl (by rw[hB];exact iE (by omega) (by omega)) rfl) ?_
  refine ar (bF (B+1) (gn (by(first|omega|(simp;omega))) (by(first|omega|(simp;omega)))) rfl) ?_
  refine ar (iJ (r:=s) rfl rfl (by omega) (by rw[qX (by omega),hs];exact iE (by omega) (by omega)) rfl) ?_
  refine ar (b6 (r:=s) fX jN rfl (sX (by omega) (by omega)) rfl) ?_
  refine ae<|ah<|ac rfl (hby1)<|ae<|ah ?_
  refine ar (bF (((n-1:Nat):Int)) (by rw[hnl,show((n-1:Nat):Int)=(n:Int)-1 from by omega];exact aS (by omega) (by omega)) rfl) ?_
  refine ar (bc jz rfl rfl (by(first|omega|(simp;omega))) (jR _) rfl rfl) ?_
  refine ar (bn f5 rfl (lJ (i:=(n-1)) (by(first|omega|(simp;omega)))) rfl) ?_
  refine ar (b6 (r:=top) jN fX rfl (by rw[ht];exact iE (by omega) (by omega)) rfl) ?_
  refine ae<|ah<|ae<|ah ?_
  refine ar (bF ((xs.length:Int)+1) (aT (by(first|omega|(simp;omega))) (by(first|omega|(simp;omega)))) rfl) ?_
  refine DL.mk<|qa (lU (n:=xs.length+1) yM rfl rfl (by omega) (by omega) rfl) rfl<|fa ?_
  refine ae<|ah<|ac rfl (hby2)<|ae<|ah ?_
  refine ar (we (q:=((dJ W.natAbs).length)) jz rfl rfl (by(first|omega|(simp;omega))) rfl) ?_
  refine ae<|ae<|ah ?_
  refine ar (bF ((((dJ W.natAbs).length:Int))-1) (aS (by(first|omega|(simp;omega))) (by(first|omega|(simp;omega)))) rfl) ?_
  refine aG<|bv (ι:={t:Nat×Int×List Int // DInv (dJ W.natAbs) V (xs.length+1) t.1 t.2.1 t.2.2}) (fun i=>⟨173,[(8,.v (.c (.i .u32 s))),(9,.v (.c (cL V))),(10,.v (.c (.i .u64 top))),(11,.v (.c (cL i.1.2.1))),(12,.o 64 ((dJ W.natAbs).length) (xs.length+1)),(13,.v (.c (cL W))),(14,.v (.c (.i .i64 ((i.1.1:Int)-1))))],[(64,194,i.1.2.2.map (CellD.i .u32))]⟩) (fun i=>i.1.1) ⟨((dJ W.natAbs).length,0,List.replicate (xs.length+1) 0),DInv.start hV0 hWlen⟩ (ap ⟨rfl,rfl,rfl,by rw[show cL 0=.s 0 [] from by unfold cL;rw[show(0:Int).natAbs=0 from rfl,lT];rfl];rfl,rfl,rfl,rfl,trivial⟩ ⟨by rw[show(List.replicate (xs.length+1) (CellD.i .u32 0))=(List.replicate (xs.length+1) 0).map (CellD.i .u32) from by simp];rfl,trivial⟩ rfl) ?_
  rintro⟨⟨j,R,zs⟩,hI⟩
  replace hI:DInv (dJ W.natAbs) V (xs.length+1) j R zs:=hI
  have g6:=hI.len
  have gR0:=hI.R0
  have gRV:=hI.RV
  have gle:=hI.le
  have eR:(R.natAbs:Int)=R:=by omega
  have hRlen:(dJ R.natAbs).length≤n:=w8 gR0 (by omega)
  dsimp only
  refine ae<|ae<|ah ?_
  refine aP rfl (fun hc3=>?_) (fun hc3=>?_)
  ·obtain⟨q,rfl⟩: ∃q,j=q+1:=⟨j-1,by simp only[decide_eq_true_eq] at hc3;omega⟩
   have gd:=du (b8 W.natAbs) q
   obtain⟨T,hT⟩: ∃T,(dJ W.natAbs).getD q 0+1000000000*R=T:=⟨_,rfl⟩
   have hT0:0≤T:=by omega
   have eT:(T.natAbs:Int)=T:=by omega
   have htrim:Ok Tryz.prog 168 [.c (cM ((dJ W.natAbs).getD q 0::dJ R.natAbs))] [.c (cL T)]:=by rw[←hT];exact Sn gR0 gd.1 gd.2 (by omega)
   have hTb:T<pw (n+1):=by rw[dT];omega
   have hTlen:(dJ T.natAbs).length≤n+1:=w8 hT0 hTb
   have szT:Sz 100000000 T:=⟨by have:=mv (n:=n+1) (m:=100000000) (by omega);omega,by have:=cU 100000000;omega⟩
   have hquo:=EN gR0 gRV gd.1 gd.2
   rw[hT] at hquo
   have gt1:=du (b8 T.natAbs) (dJ V.natAbs).length
   have gt2:=du (b8 T.natAbs) (n-1)
   refine nH (σ':=⟨173,[(8,.v (.c (.i .u32 s))),(9,.v (.c (cL V))),(10,.v (.c (.i .u64 top))),(11,.v (.c (cL R))),(12,.o 64 ((dJ W.natAbs).length) (xs.length+1)),(13,.v (.c (cL W))),(14,.v (.c (.i .i64 (q:Int))))],[(64,194,zs.map (CellD.i .u32))]⟩) (ap ⟨rfl,rfl,rfl,rfl,rfl,rfl,by rw[show(q:Int)=((q+1:Nat):Int)-1 from by omega];rfl,trivial⟩ ⟨rfl,trivial⟩ rfl) ?_
   refine aA<|ae<|aG<|ae<|bq<|bH 2 ?_
   refine aO (bc jz rfl rfl (by(first|omega|(simp;omega))) (jR _) rfl rfl) ?_
   refine aO (bn f5 rfl (lJ (i:=q) (by(first|omega|(simp;omega)))) rfl) ?_
   refine qa (qA (us:=[.i .u32 ((dJ W.natAbs).getD q 0)]) yM rfl rfl (by decide) (by decide) rfl) rfl ?_
   refine bH 1<|Y5 (Eg (rs:=dJ R.natAbs) yM rfl rfl rfl (by omega) rfl) ?_
   refine aO (dg rfl (htrim))<|gi<|ae<|ah ?_
   refine pr (ι:={H:Int // H=if n<(dJ T.natAbs).length then(dJ T.natAbs).getD n 0*1000000000 else 0}) (fun i=>⟨173,[(8,.v (.c (.i .u32 s))),(9,.v (.c (cL V))),(10,.v (.c (.i .u64 top))),(11,.v (.c (cL T))),(12,.o 64 ((dJ W.natAbs).length) (xs.length+1)),(13,.v (.c (cL W))),(14,.v (.c (.i .i64 (q:Int)))),(15,.v (.c (.i .u64 i.1)))],[(64,194,zs.map (CellD.i .u32))]⟩) ?_ ?_
   ·refine ae<|ah ?_
    refine aP rfl (fun hc4=>?_) (fun hc4=>?_)
    ·have hlt:(dJ V.natAbs).length<(dJ T.natAbs).length:=by simp only[decide_eq_true_eq] at hc4;omega
     refine ah ?_
     refine ar (bc jz rfl rfl (by(first|omega|(simp;omega))) (jR _) rfl rfl) ?_
     refine ar (bn f5 rfl (lJ (i:=((dJ V.natAbs).length)) (by(first|omega|(simp;omega)))) rfl) ?_
     refine ar (b6 (r:=(dJ T.natAbs).getD (((dJ V.natAbs).length)) 0) jN fX rfl (iE (by(first|omega|(simp;omega))) (by(first|omega|(simp;omega)))) rfl) ?_
     refine ar (bF (((dJ T.natAbs).getD (((dJ V.natAbs).length)) 0)*1000000000) (iK (by(first|omega|(simp;omega))) (by(first|omega|(simp;omega)))) rfl) ?_
     exact⟨⟨(dJ T.natAbs).getD (dJ V.natAbs).length 0*1000000000,by rw[hnl] at*;rw[if_pos (by have:=hc4;simp only[decide_eq_true_eq] at this;omega)]⟩,ap (bo rfl) ⟨rfl,trivial⟩ rfl⟩
    ·refine aA ?_
     exact⟨⟨0,by rw[if_neg (by have:=hc4;simp only[decide_eq_false_iff_not] at this;omega)]⟩,ap (bo rfl) ⟨rfl,trivial⟩ rfl⟩
   ·rintro⟨H1,hH1⟩
    replace hH1:H1=if n<(dJ T.natAbs).length then(dJ T.natAbs).getD n 0*1000000000 else 0:=hH1
    rw[hnl] at gt1
    have hHb:0≤H1∧H1≤999999999000000000:=by rw[hH1];split<;>omega
    dsimp only
    refine pr (ι:={H:Int // HInv (dJ T.natAbs) n H}) (fun i=>⟨173,[(8,.v (.c (.i .u32 s))),(9,.v (.c (cL V))),(10,.v (.c (.i .u64 top))),(11,.v (.c (cL T))),(12,.o 64 ((dJ W.natAbs).length) (xs.length+1)),(13,.v (.c (cL W))),(14,.v (.c (.i .i64 (q:Int)))),(15,.v (.c (.i .u64 i.1)))],[(64,194,zs.map (CellD.i .u32))]⟩) ?_ ?_
    ·refine ae<|ah ?_
     refine aP rfl (fun hc5=>?_) (fun hc5=>?_)
     ·have hlt:n≤(dJ T.natAbs).length:=by simp only[decide_eq_true_eq] at hc5;omega
      have hHT:HInv (dJ T.natAbs) n (H1+(dJ T.natAbs).getD (n-1) 0):=by
       rcases jY n (dJ T.natAbs).length with h1|h1
       ·rw[hH1,if_pos h1];exact Uq (b8 _) (by omega) (by omega)
       ·rw[hH1,if_neg (by omega),Int.zero_add];exact Wp (b8 _) (by omega) (by omega)
      refine ah ?_
      refine ar (bF (((n-1:Nat):Int)) (by rw[hnl,show((n-1:Nat):Int)=(n:Int)-1 from by omega];exact aS (by omega) (by omega)) rfl) ?_
      refine ar (bc jz rfl rfl (by(first|omega|(simp;omega))) (jR _) rfl rfl) ?_
      refine ar (bn f5 rfl (lJ (i:=(n-1)) (by(first|omega|(simp;omega)))) rfl) ?_
      refine ar (b6 (r:=(dJ T.natAbs).getD (n-1) 0) jN fX rfl (iE (by(first|omega|(simp;omega))) (by(first|omega|(simp;omega)))) rfl) ?_
      refine ar (bF (H1+((dJ T.natAbs).getD (n-1) 0)) (gn (by(first|omega|(simp;omega))) (by(first|omega|(simp;omega)))) rfl) ?_
      exact⟨⟨H1+(dJ T.natAbs).getD (n-1) 0,hHT⟩,ap (bo rfl) ⟨rfl,trivial⟩ rfl⟩
     ·have hHF:HInv (dJ T.natAbs) n H1:=by
       simp only[decide_eq_false_iff_not] at hc5
       rw[hH1,if_neg (by omega)];exact RN (b8 _) (by omega)
      refine aA ?_
      exact⟨⟨H1,hHF⟩,ap (bo rfl) ⟨rfl,trivial⟩ rfl⟩
    ·rintro⟨H,hH⟩
     replace hH:HInv (dJ T.natAbs) n H:=hH
     have hHa:=hH.h0
     have hHc:=hH.h1
     have hHh:=hH.h
     rw[co,eT] at hHh
     have hest:=Z8 htopv2 htop2 hHh hT0 hV0
     have hq0:0≤H/top:=uC (by omega) (by omega)
     have hq9:H/top≤H:=AY _ (by omega)
     dsimp only
     refine ae<|ah<|ar (iJ (r:=H/top) rfl rfl (by omega) (by rw[qX (by omega)];exact iE (by omega) (by omega)) rfl) ?_
     refine pr (ι:={g:Int // T/V≤g∧g≤999999999}) (fun i=>⟨173,[(8,.v (.c (.i .u32 s))),(9,.v (.c (cL V))),(10,.v (.c (.i .u64 top))),(11,.v (.c (cL T))),(12,.o 64 ((dJ W.natAbs).length) (xs.length+1)),(13,.v (.c (cL W))),(14,.v (.c (.i .i64 (q:Int)))),(16,.v (.c (.i .u64 i.1)))],[(64,194,zs.map (CellD.i .u32))]⟩) ?_ ?_
     ·refine ae<|ah ?_
      refine aP rfl (fun hc6=>?_) (fun hc6=>?_)
      ·refine ah ?_
       exact⟨⟨999999999,hquo.2,o9 _⟩,ap (bo rfl) ⟨rfl,trivial⟩ rfl⟩
      ·refine aA ?_
       exact⟨⟨H/top,hest,by have:=hc6;simp only[decide_eq_false_iff_not] at this;omega⟩,ap (bo rfl) ⟨rfl,trivial⟩ rfl⟩
     ·rintro⟨g,hg⟩
      replace hg:T/V≤g∧g≤999999999:=hg
      dsimp only
      refine ae<|ah<|ar (b6 (r:=g) fX jN rfl (sX (by omega) (by omega)) rfl) ?_
      refine ac rfl (hbyV g (by omega) (by omega))<|ae<|aG<|bv (ι:={g:Int // T/V≤g∧g≤999999999}) (fun i=>⟨173,[(8,.v (.c (.i .u32 s))),(9,.v (.c (cL V))),(10,.v (.c (.i .u64 top))),(11,.v (.c (cL T))),(12,.o 64 ((dJ W.natAbs).length) (xs.length+1)),(13,.v (.c (cL W))),(14,.v (.c (.i .i64 (q:Int)))),(16,.v (.c (.i .u64 i.1))),(17,.v (.c (cL (V*i.1))))],[(64,194,zs.map (CellD.i .u32))]⟩) (fun i=>i.1.toNat) ⟨g,hg⟩ (ap (bo rfl) ⟨rfl,trivial⟩ rfl) ?_
      rintro⟨g,hg⟩
      replace hg:T/V≤g∧g≤999999999:=hg
      have hVg0:0≤V*g:=fU (by omega) (by omega)
      have eVg:((V*g).natAbs:Int)=V*g:=by omega
      have hVgb:V*g≤V*1000000000:=m8 (by omega) (by omega)
      have szP:Sz 100000000 (V*g):=⟨by have:=mv (n:=n+1) (m:=100000000) (by omega);rw[dT] at this;omega,by have:=cU 100000000;omega⟩
      have hcmp:Ok Tryz.prog 169 [.c (cL (V*g)),.c (cL T)] [.c (.i .i64 (fk (V*g) T))]:=by have:=p8 szP szT;rw[eVg,eT] at this;exact this
      dsimp only
      refine ae<|ae<|ah<|ac rfl (hcmp) ?_
      refine aP rfl (fun hc7=>?_) (fun hc7=>?_)
      ·have hgt:T<V*g:=by simp only[decide_eq_true_eq] at hc7;rcases tc (V*g) T with h1|h1|h1<;>first|(rw[fK h1] at hc7;omega)|(rw[mm h1] at hc7;omega)|exact h1
       have hg2:T/V≤g-1:=by have:T/V<g:=(Int.ediv_lt_iff_lt_mul hV0).2 (by rw[rA];exact hgt);omega
       have hVm:V*(g-1)=V*g-V:=by rw[Int.mul_sub,sv]
       have hVm0:0≤V*(g-1):=fU (by omega) (by omega)
       have hmin:Ok Tryz.prog 283 [.c (cL (V*g)),.c (cL V)] [.c (cL (V*(g-1)))]:=by have:=zi (b:=V) szP (by omega);rw[eVg,eV,←hVm] at this;exact this
       refine aA<|aG<|ae<|ah ?_
       refine ar (bF (g-1) (I1 (by(first|omega|(simp;omega))) (by(first|omega|(simp;omega)))) rfl) ?_
       refine ah<|ac rfl (hmin) ?_
       exact⟨⟨g-1,hg2,by omega⟩,ap (bo rfl) ⟨rfl,trivial⟩ rfl,by show(g-1).toNat<g.toNat;omega⟩
      ·have hle:V*g≤T:=by simp only[decide_eq_false_iff_not] at hc7;rcases tc (V*g) T with h1|h1|h1<;>first|omega|(rw[fQ h1] at hc7;omega)
       have hgq:g=T/V:=by have:g≤T/V:=(Dn hV0).2 (by rw[rA];exact hle);omega
       have hr0:0≤T-V*g:=by omega
       have hr1:T-V*g<V:=by have:=oJ T hV0;have h2:=rS T V;rw[←hgq] at h2;omega
       have hmin:Ok Tryz.prog 283 [.c (cL T),.c (cL (V*g))] [.c (cL (T-V*g))]:=by have:=zi (b:=V*g) szT (by omega);rw[eVg,eT] at this;exact this
       refine bV<|ae<|ah<|ac rfl (hmin)<|bq<|bH 3<|aO (b6 (r:=g) fX jN rfl (sX (by omega) (by omega)) rfl) ?_
       refine aO (bE jz rfl rfl (by(first|omega|(simp;omega))) rfl) ?_
       refine jk (br (us:=(zs.set q g).map (CellD.i .u32)) f5 rfl rfl rfl rfl (by simp;omega) (rf (by(first|omega|(simp;omega)))) rfl) ?_
       refine bt<|ah ?_
       refine ar (bF ((q:Int)-1) (aS (by(first|omega|(simp;omega))) (by(first|omega|(simp;omega)))) rfl) ?_
       exact⟨⟨(q,T-V*g,zs.set q g),hI.step (b8 _) (by omega) (by omega) hr0 hr1 (by rw[hT];show T=g*V+(T-V*g);rw[rA g V];omega)⟩,ap (bo rfl) ⟨rfl,trivial⟩ rfl,by show q<q+1;omega⟩
  ·have hj0:j=0:=by simp only[decide_eq_false_iff_not] at hc3;omega
   subst hj0
   obtain⟨d1,d2⟩:=hI.done
   rw[co,eW] at d1 d2
   refine bV<|ae<|ah<|ae<|ah ?_
   refine DL.mk<|qa (lU (n:=((dJ R.natAbs).length)) yM rfl rfl (by omega) (by omega) rfl) rfl<|fa ?_
   refine ae<|ae<|ah ?_
   refine ar (bF ((((dJ R.natAbs).length:Int))-1) (aS (by(first|omega|(simp;omega))) (by(first|omega|(simp;omega)))) rfl) ?_
   refine aG<|bv (ι:={t:Nat×Int×List Int // DInv (dJ R.natAbs) s (dJ R.natAbs).length t.1 t.2.1 t.2.2}) (fun i=>⟨173,[(8,.v (.c (.i .u32 s))),(11,.v (.c (cL R))),(12,.o 64 ((dJ W.natAbs).length) (xs.length+1)),(18,.v (.c (.i .u64 i.1.2.1))),(19,.o 141 ((dJ R.natAbs).length) ((dJ R.natAbs).length)),(20,.v (.c (.i .i64 ((i.1.1:Int)-1))))],[(64,194,zs.map (CellD.i .u32)),(141,194,i.1.2.2.map (CellD.i .u32))]⟩) (fun i=>i.1.1) ⟨((dJ R.natAbs).length,0,List.replicate (dJ R.natAbs).length 0),DInv.start (by omega) (ck _)⟩ (ap (bo rfl) ⟨rfl,by rw[show(List.replicate (dJ R.natAbs).length (CellD.i .u32 0))=(List.replicate (dJ R.natAbs).length 0).map (CellD.i .u32) from by simp];rfl,trivial⟩ rfl) ?_
   rintro⟨⟨j2,c,ls⟩,hI2⟩
   replace hI2:DInv (dJ R.natAbs) s (dJ R.natAbs).length j2 c ls:=hI2
   have k6:=hI2.len
   have k0:=hI2.R0
   have k1:=hI2.RV
   have kle:=hI2.le
   dsimp only
   refine ae<|ae<|ah ?_
   refine aP rfl (fun hc8=>?_) (fun hc8=>?_)
   ·obtain⟨q2,rfl⟩: ∃q,j2=q+1:=⟨j2-1,by simp only[decide_eq_true_eq] at hc8;omega⟩
    have gd:=du (b8 R.natAbs) q2
    have hb0:=EN k0 k1 gd.1 gd.2
    rw[show(dJ R.natAbs).getD q2 0+1000000000*c=c*1000000000+(dJ R.natAbs).getD q2 0 from by omega] at hb0
    have hd20:0≤(c*1000000000+(dJ R.natAbs).getD q2 0)/s:=hb0.1
    have hd21:(c*1000000000+(dJ R.natAbs).getD q2 0)/s<1000000000:=by omega
    have hr20:0≤(c*1000000000+(dJ R.natAbs).getD q2 0)%s:=po _ (by omega)
    have hr21:(c*1000000000+(dJ R.natAbs).getD q2 0)%s<s:=oJ _ (by omega)
    refine nH (σ':=⟨173,[(8,.v (.c (.i .u32 s))),(11,.v (.c (cL R))),(12,.o 64 ((dJ W.natAbs).length) (xs.length+1)),(18,.v (.c (.i .u64 c))),(19,.o 141 ((dJ R.natAbs).length) ((dJ R.natAbs).length)),(20,.v (.c (.i .i64 (q2:Int))))],[(64,194,zs.map (CellD.i .u32)),(141,194,ls.map (CellD.i .u32))]⟩) (ap ⟨rfl,rfl,rfl,rfl,rfl,by rw[show(q2:Int)=((q2+1:Nat):Int)-1 from by omega];rfl,trivial⟩ (bo rfl) rfl) ?_
    refine aA<|ae<|aG<|ae<|ah ?_
    refine ar (bF (c*1000000000) (iK (by(first|omega|(simp;omega))) (by(first|omega|(simp;omega)))) rfl) ?_
    refine ar (bc jz rfl rfl (by(first|omega|(simp;omega))) (jR _) rfl rfl) ?_
    refine ar (bn f5 rfl (lJ (i:=q2) (by(first|omega|(simp;omega)))) rfl) ?_
    refine ar (b6 (r:=(dJ R.natAbs).getD q2 0) jN fX rfl (iE (by(first|omega|(simp;omega))) (by(first|omega|(simp;omega)))) rfl) ?_
    refine ar (bF ((c*1000000000)+((dJ R.natAbs).getD q2 0)) (gn (by(first|omega|(simp;omega))) (by(first|omega|(simp;omega)))) rfl) ?_
    refine ae<|bq<|bH 4 ?_
    refine aO (b6 (r:=s) jN fX rfl (iE (by(first|omega|(simp;omega))) (by(first|omega|(simp;omega)))) rfl) ?_
    refine aO (iJ (r:=(c*1000000000+(dJ R.natAbs).getD q2 0)/s) rfl rfl (by omega) (by rw[qX (by omega)];exact iE (by omega) (by omega)) rfl) ?_
    refine aO (b6 (r:=(c*1000000000+(dJ R.natAbs).getD q2 0)/s) fX jN rfl (sX (by omega) (by omega)) rfl) ?_
    refine aO (bE jz rfl rfl (by(first|omega|(simp;omega))) rfl) ?_
    refine jk (br (us:=(ls.set q2 ((c*1000000000+(dJ R.natAbs).getD q2 0)/s)).map (CellD.i .u32)) f5 rfl rfl rfl rfl (by simp;omega) (rf (by(first|omega|(simp;omega)))) rfl) ?_
    refine bt<|ah ?_
    refine ar (b6 (r:=s) jN fX rfl (iE (by(first|omega|(simp;omega))) (by(first|omega|(simp;omega)))) rfl) ?_
    refine ar (mW (r:=(c*1000000000+(dJ R.natAbs).getD q2 0)%s) rfl rfl (by omega) (rJ (by omega)) rfl) ?_
    refine ah ?_
    refine ar (bF ((q2:Int)-1) (aS (by(first|omega|(simp;omega))) (by(first|omega|(simp;omega)))) rfl) ?_
    exact⟨⟨(q2,(c*1000000000+(dJ R.natAbs).getD q2 0)%s,ls.set q2 ((c*1000000000+(dJ R.natAbs).getD q2 0)/s)),hI2.step (b8 _) hd20 hd21 hr20 hr21 (by rw[rA ((c*1000000000+(dJ R.natAbs).getD q2 0)/s) s,rS];omega)⟩,ap (bo rfl) (bo rfl) rfl,by show q2<q2+1;omega⟩
   ·have hj0:j2=0:=by simp only[decide_eq_false_iff_not] at hc8;omega
    subst hj0
    obtain⟨d3,d4⟩:=hI2.done
    rw[co,eR,kZ (by omega)] at d3
    have f1:val xs/val ys=val (zs.take (dJ W.natAbs).length):=by rw[←hq1,d1]
    have f2:val xs%val ys=val ls:=by rw[←d3,←d2,hq2,Int.mul_ediv_cancel _ (by omega)]
    have hLo:Lim (zs.take (dJ W.natAbs).length):=hI.L.take _
    have hLl:=hI2.L
    refine bV<|ae ?_
    refine wY (t:=12) (zs:=zs) (ys:=zs.take ((dJ W.natAbs).length)) rfl rfl (by first|omega|(simp;omega)|simp) (by omega) (by omega) (rfl) ?_
    refine wY (t:=19) (zs:=ls) (ys:=ls) rfl rfl (by first|omega|(simp;omega)|simp) (by omega) (by omega) (kZ (by first|omega|(simp;omega)|simp)) ?_
    refine ah<|ac rfl (mT hLo (by simp<;>omega))<|ac rfl (mT hLl (by omega))<|ba ?_
    rw[f1,f2]
    exact ai (ak (ak ag))
theorem Tg (x:Int):cL x=cL ((x.natAbs:Nat):Int):=rfl
theorem DM (ha:Sz 20000000 a) (hb:Sz 20000000 b) (h0:b≠0):Ok Tryz.prog 170 [.c (cL a),.c (cL b)] [.c (cL ((a.natAbs:Int)/b.natAbs)),.c (cL ((a.natAbs:Int)%b.natAbs))]:=by
 have:=ND (b8 a.natAbs) (b8 b.natAbs) (jU _) (jU _) (iO ha) (iO hb) (fun e=>by have:=eZ.1 e;omega)
 rw[co,co] at this
 exact this
theorem Uw (h:(decide (x<0)==decide (y<0))=true):sg (decide (x<0)) ((((x.natAbs:Int)+y.natAbs).natAbs:Nat):Int)=x+y:=by
 by_cases h1:x<0<;>by_cases h2:y<0<;>simp[h1,h2,sg] at h⊢ <;>omega
theorem acY (h:(decide (x<0)==decide (y<0))=false) (hg:y.natAbs≤x.natAbs):sg (decide (x<0)) ((((x.natAbs:Int)-y.natAbs).natAbs:Nat):Int)=x+y:=by
 by_cases h1:x<0<;>by_cases h2:y<0<;>simp[h1,h2,sg] at h⊢ <;>omega
theorem abp (h:(decide (x<0)==decide (y<0))=false) (hg:x.natAbs<y.natAbs):sg (decide (y<0)) ((((y.natAbs:Int)-x.natAbs).natAbs:Nat):Int)=x+y:=by
 by_cases h1:x<0<;>by_cases h2:y<0<;>simp[h1,h2,sg] at h⊢ <;>omega
theorem aar:sg (!(decide (x<0)==decide (y<0))) ((((x.natAbs:Int)*y.natAbs).natAbs:Nat):Int)=x*y:=by
 by_cases h1:x<0<;>by_cases h2:y<0<;>simp only[h1,h2,sg,decide_true,decide_false,Bool.not_true,uV,beq_self_eq_true,Bool.false_eq_true,if_true,if_false,show(true==false)=false from rfl,show(false==true)=false from rfl]
 ·grind
 ·grind
 ·grind
 grind
theorem ZF:sg (!decide (x<0)) ((x.natAbs:Nat):Int)= -x:=by
 by_cases h1:x<0<;>simp[h1,sg]<;>omega
theorem GR (h:decide (fk a b≥0)=true):b≤a:=by
 simp only[decide_eq_true_eq] at h
 rcases tc a b with h1|h1|h1
 ·rw[fK h1] at h;omega
 ·omega
 grind
theorem Fr (h:decide (fk a b≥0)=false):a<b:=by
 simp only[decide_eq_false_iff_not] at h
 rcases tc a b with h1|h1|h1
 ·omega
 ·rw[mm h1] at h;omega
 ·rw[fQ h1] at h;omega
theorem FD (hx:decide (x<0)=false) (hy: ¬(y<0)):fk x.natAbs y.natAbs=fk x y:=by grind
theorem GN (hx:decide (x<0)=true) (hy:y<0):fk y.natAbs x.natAbs=fk x y:=by
 simp only[decide_eq_true_eq] at hx
 rw[show(y.natAbs:Int)= -y from by omega,show(x.natAbs:Int)= -x from by omega,Iy]
theorem abc:sg (!(decide (x<0)==decide (y<0))) (((((x.natAbs:Int)/y.natAbs).natAbs:Nat)):Int)=q0 x y:=by
 unfold q0
 grind
theorem abD (_h0:y≠0):sg (decide (x<0)) (((((x.natAbs:Int)%y.natAbs).natAbs:Nat)):Int)=r0 x y:=by
 unfold r0
 grind
theorem K3:(x.natAbs:Int)%y.natAbs=0↔r0 x y=0:=by
 unfold r0
 generalize decide (x<0)=s
 cases s
 ·rw[cW]
 ·rw[gV];omega
theorem MS (_h0:y≠0) (h:(x.natAbs:Int)%y.natAbs≠0):(r0 x y<0↔x<0):=by
 unfold r0
 by_cases hx:x<0
 ·rw[show decide (x<0)=true from by simpa using hx,gV];omega
 ·rw[show decide (x<0)=false from by simpa using hx,cW];omega
structure RG (x y a c:Int):Prop where
 sa:Sz 20000000 a
 sc:Sz 20000000 c
 a0:0≤a
 c0:0≤c
 g:Int.gcd a c=Int.gcd x y
theorem RG.start (hx:Sz 20000000 x) (hy:Sz 20000000 y):RG x y (x.natAbs:Int) (y.natAbs:Int):=⟨hx.of_le (by omega),hy.of_le (by omega),by omega,by omega,rfl⟩
theorem RG.step (h:RG x y a c) (hc:c≠0):RG x y c ((a.natAbs:Int)%c.natAbs):=by
 have h1:=h.a0
 have h2:=h.c0
 have e1:(a.natAbs:Int)=a:=by omega
 have e2:(c.natAbs:Int)=c:=by omega
 rw[e1,e2]
 have h3:=po a hc
 have h4:=oJ a (show 0<c by omega)
 exact⟨h.sc,h.sc.of_le (by omega),h2,h3,by rw[←h.g,FG h1 h2]⟩
theorem RG.less (h:RG x y a c) (hc:c≠0):((a.natAbs:Int)%c.natAbs).toNat<c.toNat:=by
 have:=h.c0
 have:=Nd (x:=a) hc
 omega
theorem RG.done (h:RG x y a c) (hc:c=0):(Int.gcd x y:Int)=sg false ((a.natAbs:Nat):Int):=by
 rw[←h.g,hc,cW];simp
theorem Lo (h:decide (((dJ a.natAbs).length:Int)>2)=false):a.natAbs≤18446744073709551615:=by
 simp only[decide_eq_false_iff_not] at h
 have h1:=fR (b8 a.natAbs)
 rw[co] at h1
 have h2:=mv (n:=(dJ a.natAbs).length) (m:=2) (by omega)
 have h3:pw 2=1000000000000000000:=by decide
 omega
theorem RG.word (h:RG x y a c) (ha:a.natAbs≤18446744073709551615) (hc:c.natAbs≤18446744073709551615):GInv2 x y (a.natAbs:Int) (c.natAbs:Int):=
 ⟨by omega,by omega,by omega,by omega,by rw[←h.g];rfl⟩
theorem GInv2.fin (h:GInv2 x y u v) (hv:v≤0):(Int.gcd x y:Int)=sg false ((u.natAbs:Nat):Int):=by
 rw[h.done hv,cW,cW];have:=h.u0;omega
theorem Sz.small3 (h0:0≤x) (h1:x≤18446744073709551615):Sz 100000000 x:=by
 have h3:pw 3=1000000000000000000000000000:=by decide
 have:Sz 3 x:=⟨by omega,by omega⟩
 exact this.mono (by decide)
theorem abA (hx:Sz 20000000 x):Sz 100000000 ((x.natAbs:Int)/y.natAbs):=by
 have h1:(x.natAbs:Int)/(y.natAbs:Int)≤x.natAbs:=AY _ (by omega)
 have h2:0≤(x.natAbs:Int)/(y.natAbs:Int):=by grind
 exact(hx.mono (by decide)).of_le (by omega)
theorem abI (hy:Sz 20000000 y) (h0:y≠0):Sz 100000000 ((x.natAbs:Int)%y.natAbs):=by
 have:=Nd (x:=x) h0
 exact(hy.mono (by decide)).of_le (by omega)
theorem H0 (hn:x<0) (h0: -9223372036854775808≤x):IntKind.u64.wrap x=x+18446744073709551616:=by unfold IntKind.wrap;simp[IntKind.bits,IntKind.signed];omega
theorem EQ (hn:x<0) (h0: -9223372036854775808≤x):IntKind.u64.wrap (0-(x+18446744073709551616))= -x:=by unfold IntKind.wrap;simp[IntKind.bits,IntKind.signed];omega
theorem il {P:Program}{ops:Array Oper}{T:TF}{B:BF}{x:Operand}{k:IntKind}
 (hx:cO T x=some (.v (.c (.i k m)))) (hr:k.wrap (0-m)=r) (hg:gd ops ⟨dst,.unOp .neg xt x,ty,pos,af,g⟩ T=some true):
 Sem P ops ⟨dst,.unOp .neg xt x,ty,pos,af,g⟩ T B (.r (.v (.c (.i k r)))):=by subst hr;exact Ug hx hg
theorem Kz (h:Sz 100000000 ((x.natAbs:Int)/y.natAbs)):Ok Tryz.prog 159 [.c (.b (!(decide (x<0)==decide (y<0)))),.c (cL ((x.natAbs:Int)/y.natAbs))] [dI (q0 x y)]:=by
 rw[←abc];exact jb h
theorem Kv (h0:y≠0) (h:Sz 100000000 ((x.natAbs:Int)%y.natAbs)):Ok Tryz.prog 159 [.c (.b (decide (x<0))),.c (cL ((x.natAbs:Int)%y.natAbs))] [dI (r0 x y)]:=by
 rw[←abD h0];exact jb h
theorem Pl (h:(decide (x<0)==decide (y<0))=true):(fk x.natAbs y.natAbs==0)=(x==y):=by
 have hs:x<0↔y<0:=by grind
 rcases tc (x.natAbs:Int) y.natAbs with h1|h1|h1
 ·rw[fK h1,show(x==y)=false from by simp only[beq_eq_false_iff_ne];omega];rfl
 ·rw[mm h1,show(x==y)=true from by simp only[beq_iff_eq];omega];rfl
 ·rw[fQ h1,show(x==y)=false from by simp only[beq_eq_false_iff_ne];omega];rfl
def isq:Nat→Nat
 |0=>0
 |n+1=>if (isq n+1)*(isq n+1)≤n+1 then isq n+1 else isq n
theorem IT (n:Nat):isq n*isq n≤n∧n<(isq n+1)*(isq n+1):=by
 induction n with
 |zero=>exact⟨by decide,by decide⟩
 |succ n ih=>
  unfold isq
  split
  ·grind
  grind
theorem QZ (ha:0≤a) (h:a≤b):a*a≤b*b:=qS h h ha (by omega)
theorem Fg (hb:0≤b) (h:a*a<b*b):a<b:=by
 by_cases h1:a<b
 ·grind
 ·have:=QZ hb (show b≤a by omega);omega
def bZ (x:Int):Int:=if x<0 then 0 else(isq x.toNat:Nat)
theorem fg (x:Int):0≤bZ x:=by unfold bZ;split<;>omega
theorem ry (h:0≤x):bZ x*bZ x≤x:=by
 unfold bZ;rw[if_neg (by omega)]
 have:=(IT x.toNat).1
 grind
theorem xg (h:0≤x):x<(bZ x+1)*(bZ x+1):=by
 unfold bZ;rw[if_neg (by omega)]
 have:=(IT x.toNat).2
 grind
theorem Bt (h:0≤x) (hr:0≤r) (h1:r*r≤x) (h2:x<(r+1)*(r+1)):bZ x=r:=by
 have a1:=ry h
 have a2:=xg h
 have a0:=fg x
 have:=Fg (a:=r) (b:=bZ x+1) (by omega) (by omega)
 have:=Fg (a:=bZ x) (b:=r+1) (by omega) (by omega)
 omega
theorem EG:bZ 0=0:=by decide
theorem wi (h:x<0):bZ x=0:=by unfold bZ;rw[if_pos h]
theorem PT:(bZ x).natAbs≤x.natAbs:=by
 have h0:=fg x
 by_cases h:x<0
 ·rw[wi h];omega
 ·have h1:=ry (show 0≤x by omega)
  by_cases h2:bZ x<1
  ·omega
  ·have:=m8 (show 1≤bZ x by omega) h0
   omega
theorem H6 (a b:Int):4*(a*b)≤(a+b)*(a+b):=by
 have h:0≤(a-b)*(a-b):=by
  rcases Int.le_total 0 (a-b) with h|h
  ·exact fU h h
  ·exact Int.mul_nonneg_of_nonpos_of_nonpos h h
 grind
theorem Qn (hx:0<x) (hr:0<r) (_hup:x<(r+1)*(r+1)):
 0≤(r+x.fdiv r).fdiv 2∧x<((r+x.fdiv r).fdiv 2+1)*((r+x.fdiv r).fdiv 2+1)∧0<(r+x.fdiv r).fdiv 2∧0≤x.fdiv r∧x.fdiv r≤x:=by
 have hq0:0≤x/r:=uC (by omega) (by omega)
 have hq1:x/r≤x:=AY _ (by omega)
 have hq2:x<r*(x/r+1):=by have h1:=rS x r;have h2:=oJ x hr;rw[Int.mul_add];omega
 obtain⟨q,hq⟩: ∃q,x/r=q:=⟨_,rfl⟩
 obtain⟨n,hn⟩: ∃n,(r+q)/2=n:=⟨_,rfl⟩
 have h4:=H6 r (q+1)
 have h5:(r+(q+1))*(r+(q+1))≤(2*(n+1))*(2*(n+1)):=QZ (by omega) (by omega)
 grind
theorem Ir (_hx:0<x) (hr:0<r) (h:r≤(r+x.fdiv r).fdiv 2):r*r≤x:=by
 rw[pc _ (by omega:(0:Int)≤r),pc _ (by omega:(0:Int)≤2)] at h
 have h1:=rS x r
 have h2:=po x (show r≠0 by omega)
 have h3:r≤x/r:=by omega
 have:=m8 h3 (show 0≤r by omega)
 omega
structure NInv (K:Nat) (x r:Int):Prop where
 r0:0<r
 sz:Sz K r
 up:x<(r+1)*(r+1)
theorem NInv.sum (h:NInv K x r) (hs:Sz K x) (hx:0<x):Sz K (x.fdiv r)∧Sz (K+1) (r+x.fdiv r)∧Sz (K+1) ((r+x.fdiv r).fdiv 2):=by
 obtain⟨h1,h2,h3,h4,h5⟩:=Qn hx h.r0 h.up
 have h6:Sz K (x.fdiv r):=hs.of_le (by omega)
 have h7:=h.sz.add h6
 refine⟨h6,h7,h7.of_le ?_⟩
 grind
theorem NInv.next (h:NInv K x r) (hx:0<x) (hl:(r+x.fdiv r).fdiv 2<r):NInv K x ((r+x.fdiv r).fdiv 2):=by
 obtain⟨h1,h2,h3,h4,h5⟩:=Qn hx h.r0 h.up
 exact⟨h3,h.sz.of_le (by omega),h2⟩
theorem NInv.done (h:NInv K x r) (hx:0<x) (hl:r≤(r+x.fdiv r).fdiv 2):bZ x=r:=
 Bt (by omega) (by have:=h.r0;omega) (Ir hx h.r0 hl) h.up
theorem Ac:dI 0=.a ([.b false]++[.s 0 []]):=by unfold dI cI;rw[show cL 0=.s 0 [] from by unfold cL;rw[show(0:Int).natAbs=0 from rfl,lT];rfl];rfl
theorem aa1 (h:0≤v):([CellD.b false]++[cL v])=cI v:=by unfold cI;rw[show decide (v<0)=false from by simp;omega];rfl
theorem ab4 (_h0:0≤x) (h:x<pw n) (hk:n≤2*k):x<(pw k+1)*(pw k+1):=by
 have h1:=mv (n:=n) (m:=2*k) hk
 have h2:pw (2*k)=pw k*pw k:=by rw[show 2*k=k+k from by omega,qv]
 have h3:=cU k
 grind
theorem NInv.start (h0:0<x) (_hs:Sz K x) (hk:((dJ x.natAbs).length+1)/2=k) (hK:k<K):NInv K x (pw k):=by
 have hv:=fR (b8 x.natAbs)
 rw[co] at hv
 refine⟨cU k,?_,ab4 (n:=(dJ x.natAbs).length) (by omega) (by omega) (by omega)⟩
 have h1:Sz (k+1) (pw k):=⟨by have:=cU k;rw[dT];omega,by have:=cU k;have:=cU (k+1);omega⟩
 exact h1.mono (by omega)
theorem aag (n:Nat):val (List.replicate n 0++[1])=pw n:=by
 induction n with
 |zero=>decide
 |succ n ih=>rw[List.replicate_succ,List.cons_append,ed,ih,dT];omega
theorem acM (n:Nat):cL (pw n)=cM (List.replicate n 0++[1]):=by
 have hL:Lim (List.replicate n 0++[1]):=(Lim.zeros n).append (Lim.nil.cons (by omega) (by omega))
 have hN:Nrm (List.replicate n 0++[1]):=by
  induction n with
  |zero=>exact DB [] 1 (by decide)
  |succ n ih=>exact IP (ih ((Lim.zeros n).append (Lim.nil.cons (by omega) (by omega)))) (by simp)
 rw[WD,←aag]
 have:=JS hN hL
 rw[show(val (List.replicate n 0++[1])).natAbs=(val (List.replicate n 0++[1])).toNat from by have:=cS hL;omega,←this]
variable {P:Program}{ops:Array Oper}{T:TF}{B:BF}
theorem xT {x y:Operand}{z:CellD}
 (hU:xF P U=some (e,1,4,[z])) (hx:cO T x=some (.o k n n)) (hy:cO T y=some (.v (.c (cM [1])))) (hb:B k=some (e,List.replicate n (CellD.i .u32 0))) (hl:n≤1000000000)
 (hg:gd ops ⟨dst,.call ⟨.builtin .append,#[x,y],#[U,U]⟩,ty,pos,af,g⟩ T=some true):
 Sem P ops ⟨dst,.call ⟨.builtin .append,#[x,y],#[U,U]⟩,ty,pos,af,g⟩ T B (.c k (.v (.c (cL (pw n))))):=by
 rw[acM]
 have:=zC (us:=(List.replicate n (0:Int)++[1]).map (CellD.i .u32)) hU hx hy hb (by simp) (jR _) (by omega) (by simp) (by omega) (by simp;omega) (by simp;unfold maxLen;omega) (by simp) hg
 rw[show n+[(1:Int)].length=(List.replicate n (0:Int)++[1]).length from by simp] at this
 exact this
theorem Ai:fk a b=0↔a=b:=by
 rcases tc a b with h|h|h
 ·rw[fK h];constructor<;>intro h2<;>omega
 ·rw[mm h];constructor<;>intro h2<;>omega
 ·rw[fQ h];constructor<;>intro h2<;>omega
theorem CO:fk a b<0↔a<b:=by
 rcases tc a b with h|h|h
 ·rw[fK h];constructor<;>intro h2<;>omega
 ·rw[mm h];constructor<;>intro h2<;>omega
 ·rw[fQ h];constructor<;>intro h2<;>omega
theorem CR:0<fk a b↔b<a:=by
 rcases tc a b with h|h|h
 ·rw[fK h];constructor<;>intro h2<;>omega
 ·rw[mm h];constructor<;>intro h2<;>omega
 ·rw[fQ h];constructor<;>intro h2<;>omega
theorem X6 (h:decide (fk a b<0)=true):a<b:=CO.1 (by simpa using h)
theorem Zw (h:decide (fk a b<0)=false): ¬a<b:=fun e=>by have:=CO.2 e;simp at h;omega
theorem T4 (h:(fk a b==0)=true):a=b:=Ai.1 (by simpa using h)
theorem adp (h:(fk a b !=0)=true):a≠b:=fun e=>by have:=Ai.2 e;simp at h;omega
theorem abh (h:(fk a b !=0)=false):a=b:=Ai.1 (by simpa using h)
theorem adR (h:decide (fk a b>0)=true):b<a:=CR.1 (by simpa using h)
theorem adx (h:decide (fk a b>0)=false): ¬b<a:=fun e=>by have:=CR.2 e;simp at h;omega
structure Rz (k:Nat) (x:Rat):Prop where
 n:Sz k x.num
 d:Sz k (x.den:Int)
theorem Sz.addm (h:Sz k x) (h':Sz l y):Sz (max k l+1) (x+y):=(h.mono (Nat.le_max_left k l)).add (h'.mono (Nat.le_max_right k l))
theorem Sz.gcd (h':Sz l y) (h0:y≠0):Sz l ((Int.gcd x y:Nat):Int):=h'.of_le (by
 have:Int.gcd x y≤y.natAbs:=Nat.le_of_dvd (by omega) (Nat.gcd_dvd_right ..)
 rw[yO];exact this)
theorem Rz.mono {x:Rat}(h:Rz k x) (hl:k≤l):Rz l x:=⟨h.n.mono hl,h.d.mono hl⟩
theorem Rz.m_ {x:Rat}(h:Rz k x) (hl:k≤l:=by decide):Rz l x:=h.mono hl
theorem bk {x:Rat}(h:Rz k x) (hl:k≤l:=by decide):Rz l x:=h.mono hl
theorem OA {x:Rat}(h:Rz l x:=by first|assumption|exact Rz.mono (by assumption) (by decide)):Rz l x:=h
theorem den_pos (x:Rat):(0:Int)<(x.den:Int):=by have:=x.den_pos;omega
theorem jO (x:Rat):(x.den:Int)≠0:=by have:=den_pos x;omega
theorem qY (a b:Int):(a/b).natAbs≤a.natAbs:=Int.natAbs_ediv_le_natAbs a b
theorem Rz.of {n:Int}(hn:Sz k n) (hd:Sz k d) (h0:d≠0):Rz k (Rat.divInt n d):=by
 refine⟨hn.of_le ?_,hd.of_le ?_⟩
 ·rw[Rat.num_divInt]
  refine nF (qY _ _) ?_
  grind
 ·rw[Rat.den_divInt,if_neg h0]
  exact Nat.div_le_self d.natAbs (Int.gcd d n)
theorem O3 {x y:Rat}:Rat.divInt (x.num*(y.den:Int)+y.num*(x.den:Int)) ((x.den:Int)*(y.den:Int))=x+y:=by
 rw[Rat.add_def',←Int.natCast_mul,Rat.divInt_ofNat]
theorem abK {x y:Rat}(h:(x.den:Int)=(y.den:Int)):Rat.divInt (x.num+y.num) (x.den:Int)=x+y:=by
 rw[←O3,←h,←Int.add_mul,Rat.divInt_mul_right (jO x)]
theorem UE {x y:Rat}:Rat.divInt (x.num*y.num) ((x.den:Int)*(y.den:Int))=x*y:=by
 rw[Rat.mul_def',←Int.natCast_mul,Rat.divInt_ofNat]
theorem Uj {x y:Rat}:Rat.divInt (x.num*(y.den:Int)) ((x.den:Int)*y.num)=x/y:=by
 rw[Rat.div_def,Rat.inv_def,←Rat.divInt_mul_divInt,Rat.num_divInt_den]
theorem Rz.add {x y:Rat}(hx:Rz k x) (hy:Rz l y):Rz (k+l+1) (x+y):=by
 rw[←O3]
 exact Rz.of (((hx.n.mul hy.d).addm (hy.n.mul hx.d)).mono (by omega)) ((hx.d.mul hy.d).mono (by omega)) (by have:=sZ (den_pos x) (den_pos y);omega)
theorem Rz.mul {x y:Rat}(hx:Rz k x) (hy:Rz l y):Rz (k+l) (x*y):=by
 rw[←UE]
 exact Rz.of (hx.n.mul hy.n) (hx.d.mul hy.d) (by have:=sZ (den_pos x) (den_pos y);omega)
theorem Rz.neg {x:Rat}(hx:Rz k x):Rz k (-x):=⟨by rw[Rat.neg_num];exact hx.n.neg,by rw[Rat.neg_den];exact hx.d⟩
theorem Rz.sub {x y:Rat}(hx:Rz k x) (hy:Rz l y):Rz (k+l+1) (x-y):=by rw[Rat.sub_eq_add_neg];exact hx.add hy.neg
theorem Rz.div {x y:Rat}(hx:Rz k x) (hy:Rz l y) (h0:y≠0):Rz (k+l) (x/y):=by
 rw[←Uj]
 exact Rz.of (hx.n.mul hy.d) (hx.d.mul hy.n) (by
  have h1:y.num≠0:=fun e=>h0 (Rat.num_eq_zero.1 e)
  intro e
  rcases pV.1 e with h|h
  ·exact jO x h
  ·exact h1 h)
theorem Sz.one (hk:1≤k):Sz k 1:=by
 have:=mv (n:=1) (m:=k) hk
 have h1:pw 1=1000000000:=by decide
 exact⟨by omega,by omega⟩
theorem Rz.int {n:Int}(h:Sz k n) (hk:1≤k):Rz k (n:Rat):=⟨by rw[Rat.num_intCast];exact h,by rw[Rat.den_intCast];exact Sz.one hk⟩
theorem Dm {n:Int}(hd:0<d):dR (Rat.divInt n d)=dQ (n.fdiv ((Int.gcd n d:Nat):Int)) (d.fdiv ((Int.gcd n d:Nat):Int)):=by
 unfold dR cR
 rw[Rat.num_divInt,Rat.den_divInt,if_neg (by omega),Int.sign_eq_one_of_pos hd,js,Int.gcd_comm d n,pc _ (by omega),pc _ (by omega)]
 rw[show((d.natAbs/Int.gcd n d:Nat):Int)=d/((Int.gcd n d:Nat):Int) from by rw[Int.natCast_ediv];rw[show((d.natAbs:Nat):Int)=d from by omega]]
 rfl
theorem Cc {n:Int}(hd:0<d) (hg:((Int.gcd n d:Nat):Int)=1):dR (Rat.divInt n d)=dQ n d:=by
 rw[Dm hd,hg,Int.fdiv_one,Int.fdiv_one]
theorem JI {n:Int}:dR (Rat.divInt n d)=dR (Rat.divInt (-n) (-d)):=by rw[Rat.neg_divInt_neg]
theorem FL {n:Int}(h:d≠0):((Int.gcd n d:Nat):Int)≠0:=by simp_all
theorem wL {x y:Rat}:fk (x.num*(y.den:Int)) (y.num*(x.den:Int))=if x<y then-1 else if y<x then 1 else 0:=by
 unfold fk
 simp only[Rat.lt_iff]
def aX (x y:Rat):Int:=if x<y then-1 else if y<x then 1 else 0
theorem zM {x:Rat}:fk x.num 0=aX x 0:=by
 unfold aX
 rw[←wL]
 simp
theorem Qm {x:Rat}{n:Int}(h1:x.num=n) (h2:(x.den:Int)=d):dR x=dQ n d:=by unfold dR cR;rw[h1,h2];rfl
theorem JR {n:Int}:dR (n:Rat)=dQ n 1:=Qm (Rat.num_intCast n) (by rw[Rat.den_intCast];rfl)
def D6 (x:Int):Bool:=bZ x*bZ x==x
def kg (x:Rat):Bool:=D6 x.num&&D6 (x.den:Int)
theorem MZ (h:x<0):D6 x=false:=by unfold D6;rw[wi h];simp;omega
theorem iT (ha:a≠0) (hb:b≠0):a*b≠0:=fun e=>by rcases pV.1 e with h|h<;>contradiction
theorem QT {x:Rat}(h:x≠0):x.num≠0:=fun e=>h (Rat.num_eq_zero.1 e)
theorem Sz.isq (h:Sz k x):Sz k (bZ x):=h.of_le PT
theorem GE {x:Rat}(h:(aX x 0==0)=true):x=0:=by rw[←zM] at h;exact Rat.num_eq_zero.1 (T4 h)
theorem wm {x y:Rat}:aX x y=0↔x=y:=by
 unfold aX
 rw[←wL,Ai,Rat.eq_iff_mul_eq_mul]
theorem Jt {x y:Rat}:aX x y<0↔x<y:=by
 unfold aX
 rw[←wL,CO,Rat.lt_iff]
theorem OJ {x y:Rat}:0<aX x y↔y<x:=by
 unfold aX
 rw[←wL,CR,Rat.lt_iff]
theorem E6 {x:Rat}:aX x 0=fk x.num 0:=zM.symm
theorem KU {x y:Rat}(h:(fk (aX x 0) (aX y 0) !=0)=true):fk (aX x 0) (aX y 0)=aX x y:=by
 have h1:=adp h
 rw[E6,E6] at*
 have px:=den_pos x
 have py:=den_pos y
 have e1: ∀ {a b:Int},a<0→0<b→a*b<0:=fun ha hb=>Int.mul_neg_of_neg_of_pos ha hb
 have hr:aX x y=fk (x.num*(y.den:Int)) (y.num*(x.den:Int)):=by unfold aX;rw[←wL]
 rw[hr]
 rcases tc x.num 0 with hx|hx|hx<;>rcases tc y.num 0 with hy|hy|hy
 ·rw[fK hx,fK hy] at h1;exact absurd rfl h1
 ·rw[fK hx,mm hy,fK (a:= -1) (by decide),fK]
  rw[hy,oG];exact e1 hx py
 ·rw[fK hx,fQ hy,fK (a:= -1) (by decide),fK]
  grind
 ·rw[mm hx,fK hy,fQ (a:=0) (by decide),fQ]
  rw[hx,oG];exact e1 hy px
 ·grind
 ·rw[mm hx,fQ hy,fK (a:=0) (by decide),fK]
  rw[hx,oG];exact sZ hy px
 ·rw[fQ hx,fK hy,fQ (a:=1) (by decide),fQ]
  grind
 ·rw[fQ hx,mm hy,fQ (a:=1) (by decide),fQ]
  rw[hy,oG];exact sZ hx py
 ·rw[fQ hx,fQ hy] at h1;exact absurd rfl h1
theorem HU {x y:Rat}:aX x y=fk (x.num*(y.den:Int)) (y.num*(x.den:Int)):=by unfold aX;rw[←wL]
theorem e7 (h:((if x<0 then(7:Int) else 0)==0)=false):x<0:=by grind
theorem M1:D6 x=(fk (bZ x*bZ x) x==0):=by
 unfold D6
 rcases tc (bZ x*bZ x) x with h|h|h
 ·rw[fK h];simp;omega
 ·rw[mm h];simp;omega
 ·rw[fQ h];simp;omega
theorem Xa {x:Rat}(h:D6 x.num=true) (h2:D6 (x.den:Int)=true):kg x=true:=by unfold kg;rw[h,h2];rfl
theorem SQ {x:Rat}(h:D6 x.num=false):kg x=false:=by unfold kg;rw[h];rfl
theorem SU {x:Rat}(h:D6 (x.den:Int)=false):kg x=false:=by unfold kg;rw[h];cases D6 x.num<;>rfl
theorem Cf:dQ 0 0=.a (([.b false]++[.s 0 []])++([.b false]++[.s 0 []])):=by
 have h:cI 0=[.b false]++[.s 0 []]:=by
  have:=Ac
  unfold dI at this
  injection this
 unfold dQ cQ
 grind
theorem Sz.fdiv (h:Sz k x):Sz k (x.fdiv y):=h.of_le (by
 have h0: ∀a b:Nat,a/b≤a:=fun a b=>Nat.div_le_self a b
 rcases tc y 0 with hy|hy|hy
 ·rw[←Int.neg_fdiv_neg,pc _ (by omega)]
  have h2:(-x/ -y).natAbs≤(-x).natAbs:=qY _ _
  omega
 ·subst hy;simp
 ·rw[pc _ (by omega)]
  exact qY x y)
end Go.Proofs.YtegpmhlfjkhjmaaGreat
