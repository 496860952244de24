/-Package swarfref01:plus,minus. -/
import Derived.Test.YtkmdgigkbhmilaaGreatNbF
namespace Go.Proofs.YtkmdgigkbhmilaaGreat
open Go Go.RowKit
theorem J5 {xs ys:List Int}(hLxs:Lim xs) (hLys:Lim ys) (hn:xs.length≤1000000) (hm:ys.length≤1000000):Ok Tryz.prog 273 [.c (cM xs),.c (cM ys)] [.c (cL (val xs+val ys))]:=by
 refine Ok.fn Tryz.func273 55 [.tmp 4] rfl<|aa<|ab<|ag<|aa<|aa<|ab<|ag ?_
 refine aw rfl (fun hc1=>?_) (fun hc1=>?_)
 ·have hlt:xs.length<ys.length:=by simp only[decide_eq_true_eq] at hc1;omega
  refine ab<|ag<|aa<|ab<|al 2 ?_
  refine ah (aK (r:=(ys.length:Int)+1) rfl rfl (aQ (by(first|omega|(simp;omega))) (by(first|omega|(simp;omega)))) rfl) ?_
  refine jM (kO (n:=ys.length+1) qZ rfl rfl (by(first|omega|(simp;omega))) (by(first|omega|(simp;omega))) rfl) rfl ?_
  refine ag<|aa<|ab<|ag<|aa<|aa<|ab<|ag<|aJ<|bD (ι:={t:Nat×Int×List Int // PInv ys xs t.1 t.2.1 t.2.2}) (fun i=>⟨55,[(0,.v (.c (cM ys))),(1,.v (.c (cM xs))),(5,.o 18 (ys.length+1) (ys.length+1)),(6,.v (.c (.i .u32 i.1.2.1))),(7,.v (.c (.i .i64 (i.1.1:Int))))],[(18,192,(i.1.2.2++List.replicate (ys.length+1-i.1.1) 0).map (CellD.i .u32))]⟩) (fun i=>ys.length-i.1.1) ⟨(0,0,[]),⟨Nat.zero_le _,Int.le_refl 0,by decide,Lim.nil,rfl,by simp[val]⟩⟩ (aM ⟨rfl,rfl,rfl,rfl,rfl,trivial⟩ ⟨by rw[show(List.replicate (ys.length+1) (CellD.i .u32 0))=(([]:List Int)++List.replicate (ys.length+1-0) 0).map (CellD.i .u32) from by simp];rfl,trivial⟩ rfl) ?_
  rintro⟨⟨k,c,zs⟩,hI⟩
  replace hI:PInv ys xs k c zs:=hI
  have g1:=dw hLys k
  have g2:=dw hLxs k
  have g3:=hI.c0
  have g4:=hI.c1
  have g5:=hI.le
  have g6:=hI.len
  show Dw _ _ ⟨55,[(0,.v (.c (cM ys))),(1,.v (.c (cM xs))),(5,.o 18 (ys.length+1) (ys.length+1)),(6,.v (.c (.i .u32 c))),(7,.v (.c (.i .i64 (k:Int))))],[(18,192,(zs++List.replicate (ys.length+1-k) 0).map (CellD.i .u32))]⟩ _
  refine aa<|aa<|ab<|ag ?_
  refine aw rfl (fun hc2=>?_) (fun hc2=>?_)
  ·have hk:k<ys.length:=by simp only[decide_eq_true_eq] at hc2;omega
   refine ao<|aa<|aJ<|aa<|ab<|al 3 ?_
   refine ah (aW gX rfl rfl (by(first|omega|(simp;omega))) (ig _) rfl rfl) ?_
   refine ah (cU eQ rfl (iW (i:=k) (by(first|omega|(simp;omega)))) rfl) ?_
   refine ah (aK (r:=c+(ys.getD k 0)) rfl rfl (kT (by(first|omega|(simp;omega))) (by(first|omega|(simp;omega)))) rfl) ?_
   refine ag<|aa<|aa<|ab<|ag ?_
   refine aw rfl (fun hc3=>?_) (fun hc3=>?_)
   ·have hkq:k<xs.length:=by simp only[decide_eq_true_eq] at hc3;omega
    have hS:c+ys.getD k 0+xs.getD k 0=c+ys.getD k 0+xs.getD k 0:=rfl
    have hb:c+ys.getD k 0+xs.getD k 0≤4294967295:=by omega
    refine ab<|al 3 ?_
    refine ah (aW gX rfl rfl (by(first|omega|(simp;omega))) (ig _) rfl rfl) ?_
    refine ah (cU eQ rfl (iW (i:=k) (by(first|omega|(simp;omega)))) rfl) ?_
    refine ah (aK (r:=(c+(ys.getD k 0))+(xs.getD k 0)) rfl rfl (kT (by(first|omega|(simp;omega))) (by(first|omega|(simp;omega)))) rfl) ?_
    refine ag<|aa<|ab<|al 3<|ah (eF (r:=(c+ys.getD k 0+xs.getD k 0)%1000000000) rfl rfl (by omega) (Int.tmod_eq_emod_of_nonneg (by omega)) rfl) ?_
    refine ah (br gX rfl rfl (by(first|omega|(simp;omega))) rfl) ?_
    refine bL (bm (us:=((zs++List.replicate (ys.length+1-k) 0).set k ((c+ys.getD k 0+xs.getD k 0)%1000000000)).map (CellD.i .u32)) eQ rfl rfl rfl rfl (by simp;omega) (mW (by(first|omega|(simp;omega)))) rfl) ?_
    refine ar<|ab<|al 1<|ah (iD (r:=(c+ys.getD k 0+xs.getD k 0)/1000000000) rfl rfl (by omega) (by rw[Int.tdiv_eq_ediv_of_nonneg (by omega)];exact nP (by omega) (by omega)) rfl) ?_
    refine ag<|ab<|al 1 ?_
    refine ah (aK (r:=(k:Int)+1) rfl rfl (aQ (by(first|omega|(simp;omega))) (by(first|omega|(simp;omega)))) rfl) ?_
    refine ag ?_
    exact⟨⟨(k+1,(c+ys.getD k 0+xs.getD k 0)/1000000000,zs++[(c+ys.getD k 0+xs.getD k 0)%1000000000]),hI.step hLys hLxs hk hS⟩,aM ⟨rfl,rfl,rfl,rfl,by rw[show((k+1:Nat):Int)=(k:Int)+1 from by omega];rfl,trivial⟩ ⟨by rw[show ys.length+1-(k+1)=ys.length-k from by omega,←jO (m:=ys.length-k) (d:=(c+ys.getD k 0+xs.getD k 0)%1000000000) g6,show ys.length-k+1=ys.length+1-k from by omega];rfl,trivial⟩ rfl,by show ys.length-(k+1)<ys.length-k;omega⟩
   ·have hkq: ¬k<xs.length:=by simp only[decide_eq_false_iff_not] at hc3;omega
    have hq0:xs.getD k 0=0:=by rw[List.getD,List.getElem?_eq_none (by omega)];rfl
    have hS:c+ys.getD k 0=c+ys.getD k 0+xs.getD k 0:=by omega
    refine ao<|aa<|ab<|al 3<|ah (eF (r:=(c+ys.getD k 0)%1000000000) rfl rfl (by omega) (Int.tmod_eq_emod_of_nonneg (by omega)) rfl) ?_
    refine ah (br gX rfl rfl (by(first|omega|(simp;omega))) rfl) ?_
    refine bL (bm (us:=((zs++List.replicate (ys.length+1-k) 0).set k ((c+ys.getD k 0)%1000000000)).map (CellD.i .u32)) eQ rfl rfl rfl rfl (by simp;omega) (mW (by(first|omega|(simp;omega)))) rfl) ?_
    refine ar<|ab<|al 1<|ah (iD (r:=(c+ys.getD k 0)/1000000000) rfl rfl (by omega) (by rw[Int.tdiv_eq_ediv_of_nonneg (by omega)];exact nP (by omega) (by omega)) rfl) ?_
    refine ag<|ab<|al 1 ?_
    refine ah (aK (r:=(k:Int)+1) rfl rfl (aQ (by(first|omega|(simp;omega))) (by(first|omega|(simp;omega)))) rfl) ?_
    refine ag ?_
    exact⟨⟨(k+1,(c+ys.getD k 0)/1000000000,zs++[(c+ys.getD k 0)%1000000000]),hI.step hLys hLxs hk hS⟩,aM ⟨rfl,rfl,rfl,rfl,by rw[show((k+1:Nat):Int)=(k:Int)+1 from by omega];rfl,trivial⟩ ⟨by rw[show ys.length+1-(k+1)=ys.length-k from by omega,←jO (m:=ys.length-k) (d:=(c+ys.getD k 0)%1000000000) g6,show ys.length-k+1=ys.length+1-k from by omega];rfl,trivial⟩ rfl,by show ys.length-(k+1)<ys.length-k;omega⟩
  ·have hk:k=ys.length:=by simp only[decide_eq_false_iff_not] at hc2;omega
   have hfin:(val xs+val ys:Int)=val ((zs++List.replicate (ys.length+1-k) 0).set ys.length c):=by rw[show ys.length+1-k=0+1 from by omega,jO (by omega)];simp only[List.replicate_zero,List.append_nil];rw[hI.done hk (by omega)];omega
   have hLf:Lim ((zs++List.replicate (ys.length+1-k) 0).set ys.length c):=(hI.L.append (Lim.zeros _)).set g3 (by omega)
   refine bj<|aa<|ab<|al 4 ?_
   refine ah (br gX rfl rfl (by(first|omega|(simp;omega))) rfl) ?_
   refine bL (bm (us:=((zs++List.replicate (ys.length+1-k) 0).set ys.length c).map (CellD.i .u32)) eQ rfl rfl rfl rfl (by simp;omega) (mW (by(first|omega|(simp;omega)))) rfl) ?_
   refine ar<|aa ?_
   refine qg (t:=5) (zs:=(zs++List.replicate (ys.length+1-k) 0).set ys.length c) (ys:=(zs++List.replicate (ys.length+1-k) 0).set ys.length c) rfl rfl (by first|omega|(simp;omega)|simp) (by omega) (by omega) (List.take_of_length_le (by first|omega|(simp;omega)|simp)) ?_
   refine ab<|al 1<|ah (am rfl (jj hLf (by simp;omega)))<|ag<|an ?_
   rw[hfin]
   exact aq (aE ae)
 ·have hlt:ys.length≤xs.length:=by simp only[decide_eq_false_iff_not] at hc1;omega
  refine ao<|aa<|ab<|al 2 ?_
  refine ah (aK (r:=(xs.length:Int)+1) rfl rfl (aQ (by(first|omega|(simp;omega))) (by(first|omega|(simp;omega)))) rfl) ?_
  refine jM (kO (n:=xs.length+1) qZ rfl rfl (by(first|omega|(simp;omega))) (by(first|omega|(simp;omega))) rfl) rfl ?_
  refine ag<|aa<|ab<|ag<|aa<|aa<|ab<|ag<|aJ<|bD (ι:={t:Nat×Int×List Int // PInv xs ys t.1 t.2.1 t.2.2}) (fun i=>⟨55,[(0,.v (.c (cM xs))),(1,.v (.c (cM ys))),(5,.o 18 (xs.length+1) (xs.length+1)),(6,.v (.c (.i .u32 i.1.2.1))),(7,.v (.c (.i .i64 (i.1.1:Int))))],[(18,192,(i.1.2.2++List.replicate (xs.length+1-i.1.1) 0).map (CellD.i .u32))]⟩) (fun i=>xs.length-i.1.1) ⟨(0,0,[]),⟨Nat.zero_le _,Int.le_refl 0,by decide,Lim.nil,rfl,by simp[val]⟩⟩ (aM ⟨rfl,rfl,rfl,rfl,rfl,trivial⟩ ⟨by rw[show(List.replicate (xs.length+1) (CellD.i .u32 0))=(([]:List Int)++List.replicate (xs.length+1-0) 0).map (CellD.i .u32) from by simp];rfl,trivial⟩ rfl) ?_
  rintro⟨⟨k,c,zs⟩,hI⟩
  replace hI:PInv xs ys k c zs:=hI
  have g1:=dw hLxs k
  have g2:=dw hLys k
  have g3:=hI.c0
  have g4:=hI.c1
  have g5:=hI.le
  have g6:=hI.len
  show Dw _ _ ⟨55,[(0,.v (.c (cM xs))),(1,.v (.c (cM ys))),(5,.o 18 (xs.length+1) (xs.length+1)),(6,.v (.c (.i .u32 c))),(7,.v (.c (.i .i64 (k:Int))))],[(18,192,(zs++List.replicate (xs.length+1-k) 0).map (CellD.i .u32))]⟩ _
  refine aa<|aa<|ab<|ag ?_
  refine aw rfl (fun hc4=>?_) (fun hc4=>?_)
  ·have hk:k<xs.length:=by simp only[decide_eq_true_eq] at hc4;omega
   refine ao<|aa<|aJ<|aa<|ab<|al 3 ?_
   refine ah (aW gX rfl rfl (by(first|omega|(simp;omega))) (ig _) rfl rfl) ?_
   refine ah (cU eQ rfl (iW (i:=k) (by(first|omega|(simp;omega)))) rfl) ?_
   refine ah (aK (r:=c+(xs.getD k 0)) rfl rfl (kT (by(first|omega|(simp;omega))) (by(first|omega|(simp;omega)))) rfl) ?_
   refine ag<|aa<|aa<|ab<|ag ?_
   refine aw rfl (fun hc5=>?_) (fun hc5=>?_)
   ·have hkq:k<ys.length:=by simp only[decide_eq_true_eq] at hc5;omega
    have hS:c+xs.getD k 0+ys.getD k 0=c+xs.getD k 0+ys.getD k 0:=rfl
    have hb:c+xs.getD k 0+ys.getD k 0≤4294967295:=by omega
    refine ab<|al 3 ?_
    refine ah (aW gX rfl rfl (by(first|omega|(simp;omega))) (ig _) rfl rfl) ?_
    refine ah (cU eQ rfl (iW (i:=k) (by(first|omega|(simp;omega)))) rfl) ?_
    refine ah (aK (r:=(c+(xs.getD k 0))+(ys.getD k 0)) rfl rfl (kT (by(first|omega|(simp;omega))) (by(first|omega|(simp;omega)))) rfl) ?_
    refine ag<|aa<|ab<|al 3<|ah (eF (r:=(c+xs.getD k 0+ys.getD k 0)%1000000000) rfl rfl (by omega) (Int.tmod_eq_emod_of_nonneg (by omega)) rfl) ?_
    refine ah (br gX rfl rfl (by(first|omega|(simp;omega))) rfl) ?_
    refine bL (bm (us:=((zs++List.replicate (xs.length+1-k) 0).set k ((c+xs.getD k 0+ys.getD k 0)%1000000000)).map (CellD.i .u32)) eQ rfl rfl rfl rfl (by simp;omega) (mW (by(first|omega|(simp;omega)))) rfl) ?_
    refine ar<|ab<|al 1<|ah (iD (r:=(c+xs.getD k 0+ys.getD k 0)/1000000000) rfl rfl (by omega) (by rw[Int.tdiv_eq_ediv_of_nonneg (by omega)];exact nP (by omega) (by omega)) rfl) ?_
    refine ag<|ab<|al 1 ?_
    refine ah (aK (r:=(k:Int)+1) rfl rfl (aQ (by(first|omega|(simp;omega))) (by(first|omega|(simp;omega)))) rfl) ?_
    refine ag ?_
    exact⟨⟨(k+1,(c+xs.getD k 0+ys.getD k 0)/1000000000,zs++[(c+xs.getD k 0+ys.getD k 0)%1000000000]),hI.step hLxs hLys hk hS⟩,aM ⟨rfl,rfl,rfl,rfl,by rw[show((k+1:Nat):Int)=(k:Int)+1 from by omega];rfl,trivial⟩ ⟨by rw[show xs.length+1-(k+1)=xs.length-k from by omega,←jO (m:=xs.length-k) (d:=(c+xs.getD k 0+ys.getD k 0)%1000000000) g6,show xs.length-k+1=xs.length+1-k from by omega];rfl,trivial⟩ rfl,by show xs.length-(k+1)<xs.length-k;omega⟩
   ·have hkq: ¬k<ys.length:=by simp only[decide_eq_false_iff_not] at hc5;omega
    have hq0:ys.getD k 0=0:=by rw[List.getD,List.getElem?_eq_none (by omega)];rfl
    have hS:c+xs.getD k 0=c+xs.getD k 0+ys.getD k 0:=by omega
    refine ao<|aa<|ab<|al 3<|ah (eF (r:=(c+xs.getD k 0)%1000000000) rfl rfl (by omega) (Int.tmod_eq_emod_of_nonneg (by omega)) rfl) ?_
    refine ah (br gX rfl rfl (by(first|omega|(simp;omega))) rfl) ?_
    refine bL (bm (us:=((zs++List.replicate (xs.length+1-k) 0).set k ((c+xs.getD k 0)%1000000000)).map (CellD.i .u32)) eQ rfl rfl rfl rfl (by simp;omega) (mW (by(first|omega|(simp;omega)))) rfl) ?_
    refine ar<|ab<|al 1<|ah (iD (r:=(c+xs.getD k 0)/1000000000) rfl rfl (by omega) (by rw[Int.tdiv_eq_ediv_of_nonneg (by omega)];exact nP (by omega) (by omega)) rfl) ?_
    refine ag<|ab<|al 1 ?_
    refine ah (aK (r:=(k:Int)+1) rfl rfl (aQ (by(first|omega|(simp;omega))) (by(first|omega|(simp;omega)))) rfl) ?_
    refine ag ?_
    exact⟨⟨(k+1,(c+xs.getD k 0)/1000000000,zs++[(c+xs.getD k 0)%1000000000]),hI.step hLxs hLys hk hS⟩,aM ⟨rfl,rfl,rfl,rfl,by rw[show((k+1:Nat):Int)=(k:Int)+1 from by omega];rfl,trivial⟩ ⟨by rw[show xs.length+1-(k+1)=xs.length-k from by omega,←jO (m:=xs.length-k) (d:=(c+xs.getD k 0)%1000000000) g6,show xs.length-k+1=xs.length+1-k from by omega];rfl,trivial⟩ rfl,by show xs.length-(k+1)<xs.length-k;omega⟩
  ·have hk:k=xs.length:=by simp only[decide_eq_false_iff_not] at hc4;omega
   have hfin:(val xs+val ys:Int)=val ((zs++List.replicate (xs.length+1-k) 0).set xs.length c):=by rw[show xs.length+1-k=0+1 from by omega,jO (by omega)];simp only[List.replicate_zero,List.append_nil];rw[hI.done hk (by omega)]
   have hLf:Lim ((zs++List.replicate (xs.length+1-k) 0).set xs.length c):=(hI.L.append (Lim.zeros _)).set g3 (by omega)
   refine bj<|aa<|ab<|al 4 ?_
   refine ah (br gX rfl rfl (by(first|omega|(simp;omega))) rfl) ?_
   refine bL (bm (us:=((zs++List.replicate (xs.length+1-k) 0).set xs.length c).map (CellD.i .u32)) eQ rfl rfl rfl rfl (by simp;omega) (mW (by(first|omega|(simp;omega)))) rfl) ?_
   refine ar<|aa ?_
   refine qg (t:=5) (zs:=(zs++List.replicate (xs.length+1-k) 0).set xs.length c) (ys:=(zs++List.replicate (xs.length+1-k) 0).set xs.length c) rfl rfl (by first|omega|(simp;omega)|simp) (by omega) (by omega) (List.take_of_length_le (by first|omega|(simp;omega)|simp)) ?_
   refine ab<|al 1<|ah (am rfl (jj hLf (by simp;omega)))<|ag<|an ?_
   rw[hfin]
   exact aq (aE ae)
theorem Gx {xs ys:List Int}(hLxs:Lim xs) (hLys:Lim ys) (hn:xs.length≤1000000) (hlen:ys.length≤xs.length) (hle:val ys≤val xs):Ok Tryz.prog 274 [.c (cM xs),.c (cM ys)] [.c (cL (val xs-val ys))]:=by
 refine Ok.fn Tryz.func274 45 [.tmp 4] rfl<|aa<|ab<|ag<|aa<|ab<|al 2 ?_
 refine jM (kO (n:=xs.length) qZ rfl rfl (by(first|omega|(simp;omega))) (by(first|omega|(simp;omega))) rfl) rfl ?_
 refine ag<|aa<|ab<|ag<|aa<|aa<|ab<|ag<|aJ<|bD (ι:={t:Nat×Int×List Int // SInv xs ys t.1 t.2.1 t.2.2}) (fun i=>⟨45,[(0,.v (.c (cM xs))),(1,.v (.c (cM ys))),(5,.o 11 xs.length xs.length),(6,.v (.c (.i .u32 i.1.2.1))),(7,.v (.c (.i .i64 (i.1.1:Int))))],[(11,192,(i.1.2.2++List.replicate (xs.length-i.1.1) 0).map (CellD.i .u32))]⟩) (fun i=>xs.length-i.1.1) ⟨(0,0,[]),⟨Nat.zero_le _,Int.le_refl 0,by decide,Lim.nil,rfl,by simp[val]⟩⟩ (aM ⟨rfl,rfl,rfl,rfl,rfl,trivial⟩ ⟨by rw[show(List.replicate xs.length (CellD.i .u32 0))=(([]:List Int)++List.replicate (xs.length-0) 0).map (CellD.i .u32) from by simp];rfl,trivial⟩ rfl) ?_
 rintro⟨⟨k,c,zs⟩,hI⟩
 replace hI:SInv xs ys k c zs:=hI
 have g1:=dw hLxs k
 have g2:=dw hLys k
 have g3:=hI.c0
 have g4:=hI.c1
 have g5:=hI.le
 have g6:=hI.len
 show Dw _ _ ⟨45,[(0,.v (.c (cM xs))),(1,.v (.c (cM ys))),(5,.o 11 xs.length xs.length),(6,.v (.c (.i .u32 c))),(7,.v (.c (.i .i64 (k:Int))))],[(11,192,(zs++List.replicate (xs.length-k) 0).map (CellD.i .u32))]⟩ _
 refine aa<|aa<|ab<|ag ?_
 refine aw rfl (fun hc1=>?_) (fun hc1=>?_)
 ·have hk:k<xs.length:=by simp only[decide_eq_true_eq] at hc1;omega
  refine ao<|aa<|aJ<|aa<|ab<|al 2 ?_
  refine ah (aW gX rfl rfl (by(first|omega|(simp;omega))) (ig _) rfl rfl) ?_
  refine ah (cU eQ rfl (iW (i:=k) (by(first|omega|(simp;omega)))) rfl) ?_
  refine ah (aK (r:=(xs.getD k 0)+1000000000) rfl rfl (kT (by(first|omega|(simp;omega))) (by(first|omega|(simp;omega)))) rfl) ?_
  refine al 1 ?_
  refine ah (aK (r:=((xs.getD k 0)+1000000000)-c) rfl rfl (nj (by(first|omega|(simp;omega))) (by(first|omega|(simp;omega)))) rfl) ?_
  refine ag<|aa<|aa<|ab<|ag ?_
  refine aw rfl (fun hc2=>?_) (fun hc2=>?_)
  ·have hkq:k<ys.length:=by simp only[decide_eq_true_eq] at hc2;omega
   refine ab<|al 3 ?_
   refine ah (aW gX rfl rfl (by(first|omega|(simp;omega))) (ig _) rfl rfl) ?_
   refine ah (cU eQ rfl (iW (i:=k) (by(first|omega|(simp;omega)))) rfl) ?_
   refine ah (aK (r:=(((xs.getD k 0)+1000000000)-c)-(ys.getD k 0)) rfl rfl (nj (by(first|omega|(simp;omega))) (by(first|omega|(simp;omega)))) rfl) ?_
   refine ag<|aa<|ab<|ag<|aa<|aa<|ab<|ag ?_
   refine aw rfl (fun hc3=>?_) (fun hc3=>?_)
   ·simp only[decide_eq_true_eq] at hc3
    have hd1:0≤xs.getD k 0+1000000000-c-ys.getD k 0-1000000000:=by omega
    have hd2:xs.getD k 0+1000000000-c-ys.getD k 0-1000000000<1000000000:=by omega
    have hd3:(0:Int)≤0:=by omega
    have hd4:(0:Int)≤1:=by omega
    have hdS:xs.getD k 0+1000000000-c-ys.getD k 0-1000000000-1000000000*0=xs.getD k 0-c-ys.getD k 0:=by omega
    refine ab<|al 1 ?_
    refine ah (aK (r:=((((xs.getD k 0)+1000000000)-c)-(ys.getD k 0))-1000000000) rfl rfl (nj (by(first|omega|(simp;omega))) (by(first|omega|(simp;omega)))) rfl) ?_
    refine ag<|ab<|al 3 ?_
    refine ah (br gX rfl rfl (by(first|omega|(simp;omega))) rfl) ?_
    refine bL (bm (us:=((zs++List.replicate (xs.length-k) 0).set k (((((xs.getD k 0)+1000000000)-c)-(ys.getD k 0))-1000000000)).map (CellD.i .u32)) eQ rfl rfl rfl rfl (by simp;omega) (mW (by(first|omega|(simp;omega)))) rfl) ?_
    refine ar<|ab<|al 1 ?_
    refine ah (aK (r:=(k:Int)+1) rfl rfl (aQ (by(first|omega|(simp;omega))) (by(first|omega|(simp;omega)))) rfl) ?_
    refine ag ?_
    exact⟨⟨(k+1,0,zs++[xs.getD k 0+1000000000-c-ys.getD k 0-1000000000]),hI.step hk hd1 hd2 hd3 hd4 hdS⟩,aM ⟨rfl,rfl,rfl,rfl,by rw[show((k+1:Nat):Int)=(k:Int)+1 from by omega];rfl,trivial⟩ ⟨by rw[show xs.length-(k+1)=xs.length-k-1 from by omega,←jO (m:=xs.length-k-1) (d:=xs.getD k 0+1000000000-c-ys.getD k 0-1000000000) g6,show xs.length-k-1+1=xs.length-k from by omega];rfl,trivial⟩ rfl,by show xs.length-(k+1)<xs.length-k;omega⟩
   ·simp only[decide_eq_false_iff_not] at hc3
    have hd1:0≤xs.getD k 0+1000000000-c-ys.getD k 0:=by omega
    have hd2:xs.getD k 0+1000000000-c-ys.getD k 0<1000000000:=by omega
    have hd3:(0:Int)≤1:=by omega
    have hd4:(1:Int)≤1:=by omega
    have hdS:xs.getD k 0+1000000000-c-ys.getD k 0-1000000000*1=xs.getD k 0-c-ys.getD k 0:=by omega
    refine ao<|ab<|al 3 ?_
    refine ah (br gX rfl rfl (by(first|omega|(simp;omega))) rfl) ?_
    refine bL (bm (us:=((zs++List.replicate (xs.length-k) 0).set k ((((xs.getD k 0)+1000000000)-c)-(ys.getD k 0))).map (CellD.i .u32)) eQ rfl rfl rfl rfl (by simp;omega) (mW (by(first|omega|(simp;omega)))) rfl) ?_
    refine ar<|ab<|al 1 ?_
    refine ah (aK (r:=(k:Int)+1) rfl rfl (aQ (by(first|omega|(simp;omega))) (by(first|omega|(simp;omega)))) rfl) ?_
    refine ag ?_
    exact⟨⟨(k+1,1,zs++[xs.getD k 0+1000000000-c-ys.getD k 0]),hI.step hk hd1 hd2 hd3 hd4 hdS⟩,aM ⟨rfl,rfl,rfl,rfl,by rw[show((k+1:Nat):Int)=(k:Int)+1 from by omega];rfl,trivial⟩ ⟨by rw[show xs.length-(k+1)=xs.length-k-1 from by omega,←jO (m:=xs.length-k-1) (d:=xs.getD k 0+1000000000-c-ys.getD k 0) g6,show xs.length-k-1+1=xs.length-k from by omega];rfl,trivial⟩ rfl,by show xs.length-(k+1)<xs.length-k;omega⟩
  ·have hkq: ¬k<ys.length:=by simp only[decide_eq_false_iff_not] at hc2;omega
   have hq0:ys.getD k 0=0:=by rw[List.getD,List.getElem?_eq_none (by omega)];rfl
   refine ao<|aa<|ab<|ag<|aa<|aa<|ab<|ag ?_
   refine aw rfl (fun hc4=>?_) (fun hc4=>?_)
   ·simp only[decide_eq_true_eq] at hc4
    have hd1:0≤xs.getD k 0+1000000000-c-1000000000:=by omega
    have hd2:xs.getD k 0+1000000000-c-1000000000<1000000000:=by omega
    have hd3:(0:Int)≤0:=by omega
    have hd4:(0:Int)≤1:=by omega
    have hdS:xs.getD k 0+1000000000-c-1000000000-1000000000*0=xs.getD k 0-c-ys.getD k 0:=by omega
    refine ab<|al 1 ?_
    refine ah (aK (r:=(((xs.getD k 0)+1000000000)-c)-1000000000) rfl rfl (nj (by(first|omega|(simp;omega))) (by(first|omega|(simp;omega)))) rfl) ?_
    refine ag<|ab<|al 3 ?_
    refine ah (br gX rfl rfl (by(first|omega|(simp;omega))) rfl) ?_
    refine bL (bm (us:=((zs++List.replicate (xs.length-k) 0).set k ((((xs.getD k 0)+1000000000)-c)-1000000000)).map (CellD.i .u32)) eQ rfl rfl rfl rfl (by simp;omega) (mW (by(first|omega|(simp;omega)))) rfl) ?_
    refine ar<|ab<|al 1 ?_
    refine ah (aK (r:=(k:Int)+1) rfl rfl (aQ (by(first|omega|(simp;omega))) (by(first|omega|(simp;omega)))) rfl) ?_
    refine ag ?_
    exact⟨⟨(k+1,0,zs++[xs.getD k 0+1000000000-c-1000000000]),hI.step hk hd1 hd2 hd3 hd4 hdS⟩,aM ⟨rfl,rfl,rfl,rfl,by rw[show((k+1:Nat):Int)=(k:Int)+1 from by omega];rfl,trivial⟩ ⟨by rw[show xs.length-(k+1)=xs.length-k-1 from by omega,←jO (m:=xs.length-k-1) (d:=xs.getD k 0+1000000000-c-1000000000) g6,show xs.length-k-1+1=xs.length-k from by omega];rfl,trivial⟩ rfl,by show xs.length-(k+1)<xs.length-k;omega⟩
   ·simp only[decide_eq_false_iff_not] at hc4
    have hd1:0≤xs.getD k 0+1000000000-c:=by omega
    have hd2:xs.getD k 0+1000000000-c<1000000000:=by omega
    have hd3:(0:Int)≤1:=by omega
    have hd4:(1:Int)≤1:=by omega
    have hdS:xs.getD k 0+1000000000-c-1000000000*1=xs.getD k 0-c-ys.getD k 0:=by omega
    refine ao<|ab<|al 3 ?_
    refine ah (br gX rfl rfl (by(first|omega|(simp;omega))) rfl) ?_
    refine bL (bm (us:=((zs++List.replicate (xs.length-k) 0).set k (((xs.getD k 0)+1000000000)-c)).map (CellD.i .u32)) eQ rfl rfl rfl rfl (by simp;omega) (mW (by(first|omega|(simp;omega)))) rfl) ?_
    refine ar<|ab<|al 1 ?_
    refine ah (aK (r:=(k:Int)+1) rfl rfl (aQ (by(first|omega|(simp;omega))) (by(first|omega|(simp;omega)))) rfl) ?_
    refine ag ?_
    exact⟨⟨(k+1,1,zs++[xs.getD k 0+1000000000-c]),hI.step hk hd1 hd2 hd3 hd4 hdS⟩,aM ⟨rfl,rfl,rfl,rfl,by rw[show((k+1:Nat):Int)=(k:Int)+1 from by omega];rfl,trivial⟩ ⟨by rw[show xs.length-(k+1)=xs.length-k-1 from by omega,←jO (m:=xs.length-k-1) (d:=xs.getD k 0+1000000000-c) g6,show xs.length-k-1+1=xs.length-k from by omega];rfl,trivial⟩ rfl,by show xs.length-(k+1)<xs.length-k;omega⟩
 ·have hk:k=xs.length:=by simp only[decide_eq_false_iff_not] at hc1;omega
  have hfin:val xs-val ys=val (zs++List.replicate (xs.length-k) 0):=by rw[show xs.length-k=0 from by omega];simp only[List.replicate_zero,List.append_nil];rw[hI.done hk hlen hle]
  have hLf:Lim (zs++List.replicate (xs.length-k) 0):=hI.L.append (Lim.zeros _)
  refine bj<|aa ?_
  refine qg (t:=5) (zs:=zs++List.replicate (xs.length-k) 0) (ys:=zs++List.replicate (xs.length-k) 0) rfl rfl (by first|omega|(simp;omega)|simp) (by omega) (by omega) (List.take_of_length_le (by first|omega|(simp;omega)|simp)) ?_
  refine ab<|al 1<|ah (am rfl (jj hLf (by simp;omega)))<|ag<|an ?_
  rw[hfin]
  exact aq (aE ae)
theorem yF {xs ys:List Int}(hLxs:Lim xs) (hLys:Lim ys) (hn:xs.length≤1000000) (hm:ys.length≤1000000):Ok Tryz.prog 212 [.c (cM xs),.c (cM ys)] [.c (cL (val xs*val ys))]:=by
 refine Ok.fn Tryz.func212 68 [.tmp 4] rfl<|aa<|ab<|ag<|aa<|ab<|al 4 ?_
 refine ah (aK (r:=(xs.length:Int)+(ys.length:Int)) rfl rfl (aQ (by(first|omega|(simp;omega))) (by(first|omega|(simp;omega)))) rfl) ?_
 refine jM (kO (n:=xs.length+ys.length) qZ rfl rfl (by(first|omega|(simp;omega))) (by(first|omega|(simp;omega))) rfl) rfl ?_
 refine ag<|aa<|aa<|ab<|ag<|aJ<|bD (ι:={t:Nat×List Int // TInv xs ys t.1 0 0 t.2}) (fun i=>⟨68,[(0,.v (.c (cM xs))),(1,.v (.c (cM ys))),(5,.o 14 (xs.length+ys.length) (xs.length+ys.length)),(6,.v (.c (.i .i64 (i.1.1:Int))))],[(14,192,i.1.2.map (CellD.i .u32))]⟩) (fun i=>xs.length-i.1.1) ⟨(0,List.replicate (xs.length+ys.length) 0),TInv.start⟩ (aM ⟨rfl,rfl,rfl,rfl,trivial⟩ ⟨by rw[show(List.replicate (xs.length+ys.length) (CellD.i .u32 0))=(List.replicate (xs.length+ys.length) 0).map (CellD.i .u32) from by simp];rfl,trivial⟩ rfl) ?_
 rintro⟨⟨j,zs⟩,hI⟩
 replace hI:TInv xs ys j 0 0 zs:=hI
 have g5:=hI.ik
 have g6:=hI.len
 show Dw _ _ ⟨68,[(0,.v (.c (cM xs))),(1,.v (.c (cM ys))),(5,.o 14 (xs.length+ys.length) (xs.length+ys.length)),(6,.v (.c (.i .i64 (j:Int))))],[(14,192,zs.map (CellD.i .u32))]⟩ _
 refine aa<|aa<|ab<|ag ?_
 refine aw rfl (fun hc1=>?_) (fun hc1=>?_)
 ·have hj:j<xs.length:=by simp only[decide_eq_true_eq] at hc1;omega
  refine ao<|aa<|aJ<|aa<|ab<|ag<|aa<|aa<|ab<|ag<|aJ<|bD (ι:={t:Nat×Int×List Int // TInv xs ys j t.1 t.2.1 t.2.2}) (fun i=>⟨68,[(0,.v (.c (cM xs))),(1,.v (.c (cM ys))),(5,.o 14 (xs.length+ys.length) (xs.length+ys.length)),(6,.v (.c (.i .i64 (j:Int)))),(7,.v (.c (.i .u64 i.1.2.1))),(8,.v (.c (.i .i64 (i.1.1:Int))))],[(14,192,i.1.2.2.map (CellD.i .u32))]⟩) (fun i=>ys.length-i.1.1) ⟨(0,0,zs),hI⟩ (aM ⟨rfl,rfl,rfl,rfl,rfl,rfl,trivial⟩ ⟨rfl,trivial⟩ rfl) ?_
  clear hI g6
  rintro⟨⟨k,c,zs⟩,hI⟩
  replace hI:TInv xs ys j k c zs:=hI
  have g1:=dw hLxs j
  have g2:=dw hLys k
  have g8:=dw hI.L (j+k)
  have g3:=hI.c0
  have g4:=hI.c1
  have g5:=hI.ik
  have g7:=hI.kk
  have g6:=hI.len
  show Dw _ _ ⟨68,[(0,.v (.c (cM xs))),(1,.v (.c (cM ys))),(5,.o 14 (xs.length+ys.length) (xs.length+ys.length)),(6,.v (.c (.i .i64 (j:Int)))),(7,.v (.c (.i .u64 c))),(8,.v (.c (.i .i64 (k:Int))))],[(14,192,zs.map (CellD.i .u32))]⟩ _
  refine aa<|aa<|ab<|ag ?_
  refine aw rfl (fun hc2=>?_) (fun hc2=>?_)
  ·have hk:k<ys.length:=by simp only[decide_eq_true_eq] at hc2;omega
   have hm0:0≤xs.getD j 0*ys.getD k 0:=Int.mul_nonneg g1.1 g2.1
   have hm1:xs.getD j 0*ys.getD k 0≤999999999*999999999:=Int.mul_le_mul (by omega) (by omega) g2.1 (by omega)
   refine ao<|aa<|aJ<|aa<|aR 22 rfl rfl<|ap 4<|aj (aK (r:=(j:Int)+(k:Int)) rfl rfl (aQ (by omega) (by omega)) rfl) ?_
   refine aj (br gX rfl rfl (by(first|omega|(simp;omega))) rfl) ?_
   refine aj (bE eQ rfl rfl (SQ (i:=j+k) (by(first|omega|(simp;omega)))) rfl) ?_
   refine aj (bF (r:=zs.getD (j+k) 0) iv fk rfl (gG (by(first|omega|(simp;omega))) (by(first|omega|(simp;omega)))) rfl) ?_
   refine aj (aK (r:=c+(zs.getD (j+k) 0)) rfl rfl (fh (by(first|omega|(simp;omega))) (by(first|omega|(simp;omega)))) rfl) ?_
   refine ap 2 ?_
   refine aj (aW gX rfl rfl (by(first|omega|(simp;omega))) (ig _) rfl rfl) ?_
   refine aj (cU eQ rfl (iW (i:=j) (by(first|omega|(simp;omega)))) rfl) ?_
   refine aj (bF (r:=xs.getD j 0) iv fk rfl (gG (by(first|omega|(simp;omega))) (by(first|omega|(simp;omega)))) rfl) ?_
   refine ap 2 ?_
   refine aj (aW gX rfl rfl (by(first|omega|(simp;omega))) (ig _) rfl rfl) ?_
   refine aj (cU eQ rfl (iW (i:=k) (by(first|omega|(simp;omega)))) rfl) ?_
   refine aj (bF (r:=ys.getD k 0) iv fk rfl (gG (by(first|omega|(simp;omega))) (by(first|omega|(simp;omega)))) rfl) ?_
   refine aj (aK (r:=(xs.getD j 0)*(ys.getD k 0)) rfl rfl (gn (by(first|omega|(simp;omega))) (by(first|omega|(simp;omega)))) rfl) ?_
   refine aj (aK (r:=(c+(zs.getD (j+k) 0))+((xs.getD j 0)*(ys.getD k 0))) rfl rfl (fh (by(first|omega|(simp;omega))) (by(first|omega|(simp;omega)))) rfl) ?_
   refine bk<|az<|ar<|aa<|ab<|al 3<|ah (aK (r:=(j:Int)+(k:Int)) rfl rfl (aQ (by omega) (by omega)) rfl) ?_
   refine al 1<|ah (eF (r:=(c+zs.getD (j+k) 0+xs.getD j 0*ys.getD k 0)%1000000000) rfl rfl (by omega) (Int.tmod_eq_emod_of_nonneg (by omega)) rfl) ?_
   refine ah (bF (r:=(c+zs.getD (j+k) 0+xs.getD j 0*ys.getD k 0)%1000000000) fk iv rfl (nP (by omega) (by omega)) rfl) ?_
   refine ah (br gX rfl rfl (by(first|omega|(simp;omega))) rfl) ?_
   refine bL (bm (us:=(zs.set (j+k) ((c+zs.getD (j+k) 0+xs.getD j 0*ys.getD k 0)%1000000000)).map (CellD.i .u32)) eQ rfl rfl rfl rfl (by simp;omega) (mW (by(first|omega|(simp;omega)))) rfl) ?_
   refine ar<|ab<|al 1<|ah (iD (r:=(c+zs.getD (j+k) 0+xs.getD j 0*ys.getD k 0)/1000000000) rfl rfl (by omega) (by rw[Int.tdiv_eq_ediv_of_nonneg (by omega)];exact gG (by omega) (by omega)) rfl) ?_
   refine ag<|ab<|al 1 ?_
   refine ah (aK (r:=(k:Int)+1) rfl rfl (aQ (by(first|omega|(simp;omega))) (by(first|omega|(simp;omega)))) rfl) ?_
   refine ag ?_
   exact⟨⟨(k+1,(c+zs.getD (j+k) 0+xs.getD j 0*ys.getD k 0)/1000000000,zs.set (j+k) ((c+zs.getD (j+k) 0+xs.getD j 0*ys.getD k 0)%1000000000)),hI.step hLxs hLys hj hk rfl⟩,aM ⟨rfl,rfl,rfl,rfl,rfl,by rw[show((k+1:Nat):Int)=(k:Int)+1 from by omega];rfl,trivial⟩ ⟨rfl,trivial⟩ rfl,by show ys.length-(k+1)<ys.length-k;omega⟩
  ·have hk:k=ys.length:=by simp only[decide_eq_false_iff_not] at hc2;omega
   refine bj<|ab<|al 4 ?_
   refine ah (aK (r:=(j:Int)+(ys.length:Int)) rfl rfl (aQ (by(first|omega|(simp;omega))) (by(first|omega|(simp;omega)))) rfl) ?_
   refine al 1<|ah (bF (r:=c) fk iv rfl (nP (by omega) (by omega)) rfl) ?_
   refine ah (br gX rfl rfl (by(first|omega|(simp;omega))) rfl) ?_
   refine bL (bm (us:=(zs.set (j+ys.length) c).map (CellD.i .u32)) eQ rfl rfl rfl rfl (by simp;omega) (mW (by(first|omega|(simp;omega)))) rfl) ?_
   refine ar<|ab<|al 1 ?_
   refine ah (aK (r:=(j:Int)+1) rfl rfl (aQ (by(first|omega|(simp;omega))) (by(first|omega|(simp;omega)))) rfl) ?_
   refine ag ?_
   exact⟨⟨(j+1,zs.set (j+ys.length) c),hI.row hj hk⟩,aM ⟨rfl,rfl,rfl,by rw[show((j+1:Nat):Int)=(j:Int)+1 from by omega];rfl,trivial⟩ ⟨rfl,trivial⟩ rfl,by show xs.length-(j+1)<xs.length-j;omega⟩
 ·have hj:j=xs.length:=by simp only[decide_eq_false_iff_not] at hc1;omega
  have hfin:val xs*val ys=val zs:=(hI.done hj).symm
  have hLf:Lim zs:=hI.L
  refine bj<|aa ?_
  refine qg (t:=5) (zs:=zs) (ys:=zs) rfl rfl (by first|omega|(simp;omega)|simp) (by omega) (by omega) (List.take_of_length_le (by first|omega|(simp;omega)|simp)) ?_
  refine ab<|al 1<|ah (am rfl (jj hLf (by omega)))<|ag<|an ?_
  rw[hfin]
  exact aq (aE ae)
theorem Da {xs:List Int}{m:Int}(hLxs:Lim xs) (hn:xs.length≤1000000) (h0:0≤m) (h1:m<1000000000):Ok Tryz.prog 275 [.c (cM xs),.c (.i .u32 m)] [.c (cL (val xs*m))]:=by
 have hv1:val [m]=m:=by simp[val]
 refine Ok.fn Tryz.func275 10 [.tmp 4] rfl<|aa<|ab<|ag<|aa<|ab<|al 2<|ah (q8 qZ rfl rfl) ?_
 refine ah (am rfl (jj (Lim.nil.cons h0 h1) (Nat.le_of_ble_eq_true rfl)))<|ah (am rfl (yF hLxs (bW _) hn (fR (x:=val [m]) (k:=1000000) (by rw[hv1];exact Sz.small (by omega) (by omega) (by omega)))))<|ag<|an ?_
 rw[show val xs*m=val xs*val (du (val [m]).natAbs) from by rw[cz,show(((val [m]).natAbs:Nat):Int)=m from by simp[val];omega]]
 exact aq (aE ae)
theorem Bq {xs ys:List Int}(hLxs:Lim xs) (hLys:Lim ys) (nX:Nrm xs) (nY:Nrm ys) (hn:xs.length≤1000000) (_hm:ys.length≤1000000):Ok Tryz.prog 214 [.c (cM xs),.c (cM ys)] [.c (.i .i64 (dS (val xs) (val ys)))]:=by
 refine Ok.fn Tryz.func214 41 [.tmp 4] rfl<|aa<|ab<|ag<|aa<|aa<|ab<|ag ?_
 refine aw rfl (fun hc1=>?_) (fun hc1=>?_)
 ·have hne:xs.length≠ys.length:=by simp only[bne_iff_ne,ne_eq] at hc1;omega
  refine aa<|aa<|ab<|ag ?_
  refine aw rfl (fun hc2=>?_) (fun hc2=>?_)
  ·have hfin:dS (val xs) (val ys)= -1:=ew (t8 nY hLxs hLys (by simp only[decide_eq_true_eq] at hc2;omega))
   refine aa<|ab<|ag<|an ?_
   rw[hfin]
   exact aq (aE ae)
  ·have hfin:dS (val xs) (val ys)=1:=eA (t8 nX hLys hLxs (by simp only[decide_eq_false_iff_not] at hc2;omega))
   refine ao<|aa<|ab<|ag<|an ?_
   rw[hfin]
   exact aq (aE ae)
 ·have heq:xs.length=ys.length:=by simp only[bne_eq_false_iff_eq] at hc1;omega
  refine ao<|aa<|aa<|ab<|al 2 ?_
  refine ah (aK (r:=(xs.length:Int)-1) rfl rfl (bV (by(first|omega|(simp;omega))) (by(first|omega|(simp;omega)))) rfl) ?_
  refine ag<|aJ<|bD (ι:={j:Nat // j≤xs.length∧xs.drop j=ys.drop j}) (fun i=>⟨41,[(0,.v (.c (cM xs))),(1,.v (.c (cM ys))),(5,.v (.c (.i .i64 ((i.1:Int)-1))))],[]⟩) (fun i=>i.1) ⟨xs.length,Nat.le_refl _,by rw[List.drop_eq_nil_of_le (Nat.le_refl _),List.drop_eq_nil_of_le (by omega)]⟩ (aM ⟨rfl,rfl,rfl,trivial⟩ trivial rfl) ?_
  rintro⟨j,hj,hD⟩
  show Dw _ _ ⟨41,[(0,.v (.c (cM xs))),(1,.v (.c (cM ys))),(5,.v (.c (.i .i64 ((j:Int)-1))))],[]⟩ _
  refine aa<|aa<|ab<|ag ?_
  refine aw rfl (fun hc3=>?_) (fun hc3=>?_)
  ·obtain⟨q,rfl⟩: ∃q,j=q+1:=⟨j-1,by simp only[decide_eq_true_eq] at hc3;omega⟩
   have e1:=getD_some (xs:=xs) (i:=q) (by omega)
   have e2:=getD_some (xs:=ys) (i:=q) (by omega)
   refine Dw.weak (σ':=⟨41,[(0,.v (.c (cM xs))),(1,.v (.c (cM ys))),(5,.v (.c (.i .i64 (q:Int))))],[]⟩) (aM ⟨rfl,rfl,by rw[show(q:Int)=((q+1:Nat):Int)-1 from by omega];rfl,trivial⟩ trivial rfl) ?_
   refine ao<|aa<|aJ<|aa<|aa<|aR 9 rfl rfl<|ap 2 ?_
   refine aj (aW gX rfl rfl (by(first|omega|(simp;omega))) (ig _) rfl rfl) ?_
   refine aj (cU eQ rfl (iW (i:=q) (by(first|omega|(simp;omega)))) rfl) ?_
   refine ap 2 ?_
   refine aj (aW gX rfl rfl (by(first|omega|(simp;omega))) (ig _) rfl rfl) ?_
   refine aj (cU eQ rfl (iW (i:=q) (by(first|omega|(simp;omega)))) rfl) ?_
   refine bk<|az<|ar ?_
   refine aw rfl (fun hc4=>?_) (fun hc4=>?_)
   ·have hfin:dS (val xs) (val ys)= -1:=ew (AD hLxs hLys e1 e2 hD (by simpa using hc4))
    refine aa<|ab<|ag<|an ?_
    rw[hfin]
    exact aq (aE ae)
   ·have hlt: ¬xs.getD q 0<ys.getD q 0:=by simpa using hc4
    refine ao<|aa<|aR 9 rfl rfl<|ap 2 ?_
    refine aj (aW gX rfl rfl (by(first|omega|(simp;omega))) (ig _) rfl rfl) ?_
    refine aj (cU eQ rfl (iW (i:=q) (by(first|omega|(simp;omega)))) rfl) ?_
    refine ap 2 ?_
    refine aj (aW gX rfl rfl (by(first|omega|(simp;omega))) (ig _) rfl rfl) ?_
    refine aj (cU eQ rfl (iW (i:=q) (by(first|omega|(simp;omega)))) rfl) ?_
    refine bk<|az<|ar ?_
    refine aw rfl (fun hc5=>?_) (fun hc5=>?_)
    ·have hfin:dS (val xs) (val ys)=1:=eA (AD hLys hLxs e2 e1 hD.symm (by simpa using hc5))
     refine aa<|ab<|ag<|an ?_
     rw[hfin]
     exact aq (aE ae)
    ·have hgt: ¬xs.getD q 0>ys.getD q 0:=by simpa using hc5
     refine ao<|ab<|al 1 ?_
     refine ah (aK (r:=(q:Int)-1) rfl rfl (bV (by(first|omega|(simp;omega))) (by(first|omega|(simp;omega)))) rfl) ?_
     refine ag ?_
     exact⟨⟨q,by omega,Gn (by omega) (by omega) hD (by omega)⟩,aM ⟨rfl,rfl,rfl,trivial⟩ trivial rfl,by show q<q+1;omega⟩
  ·have hz:j=0:=by simp only[decide_eq_false_iff_not] at hc3;omega
   have hfin:dS (val xs) (val ys)=0:=by subst hz;simp only[List.drop_zero] at hD;rw[hD];exact hJ rfl
   refine bj<|aa<|ab<|ag<|an ?_
   rw[hfin]
   exact aq (aE ae)
theorem te {xs:List Int}(hLxs:Lim xs) (hn:xs.length≤1000000) (hb:val xs≤18446744073709551615):Ok Tryz.prog 217 [.c (cM xs)] [.c (.i .u64 (val xs))]:=by
 refine Ok.fn Tryz.func217 21 [.tmp 2] rfl<|aa<|ab<|ag<|aa<|ab<|ag<|aa<|aa<|ab<|al 2 ?_
 refine ah (aK (r:=(xs.length:Int)-1) rfl rfl (bV (by(first|omega|(simp;omega))) (by(first|omega|(simp;omega)))) rfl) ?_
 refine ag<|aJ<|bD (ι:={t:Nat×Int // ShInv xs t.1 t.2}) (fun i=>⟨21,[(0,.v (.c (cM xs))),(3,.v (.c (.i .u64 i.1.2))),(4,.v (.c (.i .i64 ((i.1.1:Int)-1))))],[]⟩) (fun i=>i.1.1) ⟨(xs.length,0),⟨Nat.le_refl _,Int.le_refl 0,by rw[List.take_length];simp⟩⟩ (aM ⟨rfl,rfl,rfl,trivial⟩ trivial rfl) ?_
 rintro⟨⟨j,r⟩,hI⟩
 replace hI:ShInv xs j r:=hI
 have g5:=hI.le
 have g3:=hI.r0
 show Dw _ _ ⟨21,[(0,.v (.c (cM xs))),(3,.v (.c (.i .u64 r))),(4,.v (.c (.i .i64 ((j:Int)-1))))],[]⟩ _
 refine aa<|aa<|ab<|ag ?_
 refine aw rfl (fun hc1=>?_) (fun hc1=>?_)
 ·obtain⟨q,rfl⟩: ∃q,j=q+1:=⟨j-1,by simp only[decide_eq_true_eq] at hc1;omega⟩
  have hS:=hI.step hLxs
  have hB:=hS.bound hLxs
  have g1:=dw hLxs q
  refine Dw.weak (σ':=⟨21,[(0,.v (.c (cM xs))),(3,.v (.c (.i .u64 r))),(4,.v (.c (.i .i64 (q:Int))))],[]⟩) (aM ⟨rfl,rfl,by rw[show(q:Int)=((q+1:Nat):Int)-1 from by omega];rfl,trivial⟩ trivial rfl) ?_
  refine ao<|aa<|aJ<|ab<|al 1 ?_
  refine ah (aK (r:=r*1000000000) rfl rfl (gn (by(first|omega|(simp;omega))) (by(first|omega|(simp;omega)))) rfl) ?_
  refine al 2 ?_
  refine ah (aW gX rfl rfl (by(first|omega|(simp;omega))) (ig _) rfl rfl) ?_
  refine ah (cU eQ rfl (iW (i:=q) (by(first|omega|(simp;omega)))) rfl) ?_
  refine ah (bF (r:=xs.getD q 0) iv fk rfl (gG (by(first|omega|(simp;omega))) (by(first|omega|(simp;omega)))) rfl) ?_
  refine ah (aK (r:=(r*1000000000)+(xs.getD q 0)) rfl rfl (fh (by(first|omega|(simp;omega))) (by(first|omega|(simp;omega)))) rfl) ?_
  refine ag<|ab<|al 1 ?_
  refine ah (aK (r:=(q:Int)-1) rfl rfl (bV (by(first|omega|(simp;omega))) (by(first|omega|(simp;omega)))) rfl) ?_
  refine ag ?_
  exact⟨⟨(q,r*1000000000+xs.getD q 0),hS⟩,aM ⟨rfl,rfl,rfl,trivial⟩ trivial rfl,by show q<q+1;omega⟩
 ·have hz:j=0:=by simp only[decide_eq_false_iff_not] at hc1;omega
  have hfin:val xs=r:=by subst hz;have:=hI.v;simp[val,oJ] at this;omega
  refine bj<|aa<|ab<|ag<|an ?_
  rw[hfin]
  exact aq (aE ae)
theorem De {neg:Bool}{xs:List Int}(hL:Lim xs) (hn:xs.length≤10000000):Ok Tryz.prog 195 [.c (.b neg),.c (cM xs)] [dI (sg neg (val xs))]:=by
 refine Ok.fn Tryz.func195 15 [.cell 4 33] rfl<|aa<|ab<|aC (ai dL rfl) rfl<|ar<|aa<|ab<|al 1<|ah (am rfl (jj hL (by omega)))<|ag<|aa<|ab<|al 1 ?_
 refine cg (bN rfl) (fun c1 hb1=>?_)
 cases c1
 ·have hfin:dI (sg neg (val xs))=.a ([.b false]++[cL (val xs)]):=by rw[hb1,dj];unfold dI cI;rw[show decide (val xs<0)=false from by have:=cK hL;simp;omega];rfl
  refine al 5<|ah (aN (us:=([.b false]++[cL (val xs)])) DR dL rfl rfl rfl) ?_
  refine ag<|an ?_
  rw[hfin]
  exact aq (a7 bU rfl ae)
 ·have hfin:dI (sg neg (val xs))=.a ([.b (decide (((du (val xs).natAbs).length:Int)>0))]++[cL (val xs)]):=by rw[hb1];exact MW (cK hL)
  refine al 5<|ah (aN (us:=([.b (decide ((((du (val xs).natAbs).length:Int))>0))]++[cL (val xs)])) DR dL rfl rfl rfl) ?_
  refine ag<|an ?_
  rw[hfin]
  exact aq (a7 bU rfl ae)
theorem LO {r:Int}(h:0<r):du r.toNat=(r%1000000000)::du (r/1000000000).toNat:=by
 rw[uw (by omega)]
 congr 1
 ·omega
 ·congr 1;omega
set_option maxHeartbeats 1000000 in
set_option maxRecDepth 10000 in
theorem Dq (u:Int) (w:World) (h0:0≤u) (h1:u≤18446744073709551615):
 Calls Tryz.prog 196 #[.int .u64 u] w fun e w'=> ∃v,e=.returned v∧w'.ownsRow w.heap.size 192 1 v (du u.toNat).length ((du u.toNat).map (Value.int .u32))∧Below w.heap.size w w':=by
 obtain⟨i0,hi0,hz0,hz1,hz2⟩:=info_parts kI
 have hlen:(du u.toNat).length≤3:=by
  refine(gY _).len (bW _) ?_
  rw[cz]
  have h3:pw 3=1000000000000000000000000000:=by decide
  omega
 go_enter Tryz.func196,Tryz.ntmps196
 go_wp2_with fail
 go_loopw [0,3] (fun n v wr=> ∃(r:Int) (k:Nat) (zs:List Int),n=.int .u64 r∧0≤r∧r≤u∧wr.ownsRow w.heap.size 192 1 v k (zs.map (Value.int .u32))∧Below w.heap.size w wr∧Hid (zs.length=k∧du u.toNat=zs++du r.toNat))
  (fun n _ _=>(intOf n).toNat)
 case atStart=>exact⟨u,0,[],rfl,h0,Int.le_refl _,mV _ _ _ _,Below.refl _ _,rfl,rfl⟩
 case round=>
  obtain⟨r,k,zs,rfl,hr0,hru,hown,hbel,H⟩:=hrel
  have hz:=hbel.size
  by_cases hr:0<r
  ·have Hs:Hid ((zs++[r%1000000000]).length=k+1∧du u.toNat=(zs++[r%1000000000])++du (r/1000000000).toNat):=by
    obtain⟨l1,l2⟩:=H.out
    refine⟨by simp[l1],?_⟩
    rw[l2,LO hr];simp
   have hk:k≤3:=by
    obtain⟨l1,l2⟩:=H.out
    rw[l2] at hlen
    simp at hlen;omega
   clear H
   have e1:r.tmod 1000000000=r%1000000000:=Int.tmod_eq_emod_of_nonneg hr0
   have e2:IntKind.u32.wrap (r%1000000000)=r%1000000000:=nP (by omega) (by omega)
   have e3:r.tdiv 1000000000=r/1000000000:=Int.tdiv_eq_ediv_of_nonneg hr0
   have e4:IntKind.u64.wrap (r/1000000000)=r/1000000000:=gG (by omega) (by omega)
   go_wp2_with (at_builtin;go_must (refine wpList_append_own _ rfl _ _ 31 rfl w.heap.size 192 i0 (.int .u32 0) 1 4 Tryz.underlying31 hi0 hz0 hz1 hz2 rfl (by decide) _ _ _ rfl (hown.alloc _) ⟨wr.heap.size,0,none⟩ 1 1 [.int .u32 _] rfl rfl (cell_one_new _ _ _) (by simp[Value.oneCell']) (by unfold maxLen;omega) (by omega) (by simp;omega) ?_);intro v' w1 hown' hgrow' _)
   go_roundw
   case rel=>exact⟨r/1000000000,k+1,_,by first|rfl|(simp[e3,e4]),by omega,by omega,by simpa using hown',g9 hown hbel hz hgrow',Hs⟩
   case measure=>simp[intOf]<;>omega
  ·obtain rfl:r=0:=by omega
   have Hs:Hid (zs.length=k∧du u.toNat=zs):=by
    obtain⟨l1,l2⟩:=H.out
    refine⟨l1,?_⟩
    rw[l2];simp[iG]
   clear H
   go_wp2
   go_ret
   obtain⟨l1,l2⟩:=Hs.out
   exact⟨_,rfl,by rw[l2,l1];exact hown,hbel⟩
theorem nE {u:Int}(h0:0≤u) (h1:u≤18446744073709551615):Ok Tryz.prog 196 [.c (.i .u64 u)] [.c (cL u)]:=⟨by kernel_rfl,fun av vs w hav h=>by
 obtain⟨vs⟩:=vs
 match vs,h.1,h with
 |[v],_,h=>
  obtain rfl:=RdC.int_eq h.uncons.1
  refine(Dq u w h0 h1).mono ?_
  rintro e w' ⟨v,rfl,g1,g2⟩
  obtain⟨A,c,rfl⟩:=xc g1
  refine⟨_,rfl,?_,g2⟩
  have hn:u.natAbs=u.toNat:=by omega
  have hsl:=Ow.sl ⟨g1,bW _⟩
  have:=qU (av:=av) hsl.1 hsl.2.1 hsl.2.2.1 (fun b off e hV=>by have:=Ow.fresh (k:=w.heap.size) (⟨g1,bW _⟩:Ow w' w.heap.size _ _ _) (Nat.le_refl _) b off e;have:=hav b hV;omega)
  show RdC av w' _ (cL u)
  unfold cL
  rw[hn];exact this⟩
structure DInv (us:List Int) (V:Int) (N j:Nat) (R:Int) (zs:List Int):Prop where
 le:j≤us.length
 R0:0≤R
 RV:R<V
 L:Lim zs
 len:zs.length=N
 hN:us.length≤N
 v:val (us.drop j)=val ((zs.take us.length).drop j)*V+R
theorem x7 {xs:List Int}{i:Nat}(h:i<xs.length):val (xs.drop i)=xs.getD i 0+1000000000*val (xs.drop (i+1)):=by
 rw[List.drop_eq_getElem_cons h,dU]
 simp[List.getD,h]
theorem DInv.start {us:List Int}{V:Int}{N:Nat}(hV:0<V) (hN:us.length≤N):DInv us V N us.length 0 (List.replicate N 0):=
 ⟨Nat.le_refl _,Int.le_refl _,hV,Lim.zeros _,by simp,hN,by rw[List.drop_eq_nil_of_le (Nat.le_refl _),List.drop_eq_nil_of_le (by simp;omega)];simp[val]⟩
theorem DInv.step {us zs:List Int}{V R q R':Int}{N i:Nat}(h:DInv us V N (i+1) R zs) (_hL:Lim us) (hq0:0≤q) (hq1:q<1000000000) (hR0:0≤R') (hRV:R'<V) (he:us.getD i 0+1000000000*R=q*V+R'):DInv us V N i R' (zs.set i q):=by
 have hi:i<us.length:=h.le
 have hlen:=h.len
 have hN:=h.hN
 refine⟨by omega,hR0,hRV,h.L.set hq0 hq1,by simp[hlen],hN,?_⟩
 have e1:((zs.set i q).take us.length)=(zs.take us.length).set i q:=by rw[List.take_set]
 have hi2:i<((zs.take us.length).set i q).length:=by simp;omega
 rw[x7 hi,h.v,e1,x7 hi2]
 have e2:((zs.take us.length).set i q).getD i 0=q:=by
  have:i<(zs.take us.length).length:=by rw[List.length_take];omega
  rw[List.getD,List.getElem?_set_self this];rfl
 have e3:((zs.take us.length).set i q).drop (i+1)=(zs.take us.length).drop (i+1):=by rw[List.drop_set_of_lt (by omega)]
 rw[e2,e3]
 generalize val ((zs.take us.length).drop (i+1))=Q at*
 have:(q+1000000000*Q)*V=q*V+1000000000*(Q*V):=by rw[Int.add_mul,Int.mul_assoc]
 rw[this]
 omega
theorem DInv.done {us zs:List Int}{V R:Int}{N:Nat}(h:DInv us V N 0 R zs):val us/V=val (zs.take us.length)∧val us%V=R:=by
 have hv:=h.v
 simp only[List.drop_zero] at hv
 have h0:=h.R0
 have h1:=h.RV
 exact(Int.ediv_emod_unique (show 0<V by omega)).2 ⟨by rw[hv,Int.mul_comm V];omega,h0,h1⟩
theorem yr {R V d:Int}(hR:0≤R) (hV:R<V) (hd:0≤d) (hd1:d<1000000000):0≤(d+1000000000*R)/V∧(d+1000000000*R)/V≤999999999:=by
 refine⟨Int.ediv_nonneg (by omega) (by omega),?_⟩
 have:(d+1000000000*R)/V<1000000000:=Int.ediv_lt_of_lt_mul (by omega) (by omega)
 omega
theorem Ra {T V hi top:Int}{n:Nat}(hV:top*pw n≤V) (htop:0<top) (hT:T<(hi+1)*pw n) (hT0:0≤T) (hVp:0<V):T/V≤hi/top:=by
 have h1:T/V*V≤T:=Int.ediv_mul_le _ (by omega)
 have h0:0≤T/V:=Int.ediv_nonneg hT0 (by omega)
 generalize T/V=q at*
 have h2:q*(top*pw n)≤q*V:=Int.mul_le_mul_of_nonneg_left hV h0
 have hp:=dJ n
 have h3:q*top*pw n<(hi+1)*pw n:=by rw[Int.mul_assoc];omega
 have h4:q*top<hi+1:=Int.lt_of_mul_lt_mul_right h3 (by omega)
 exact(Int.le_ediv_iff_mul_le htop).2 (by omega)
structure HInv (rs:List Int) (n:Nat) (H:Int):Prop where
 h0:0≤H
 h1:H≤999999999999999999
 h:val rs<(H+1)*pw (n-1)
theorem Oc {rs:List Int}{n:Nat}(hL:Lim rs) (hn:1≤n) (hl:rs.length=n+1):HInv rs n (rs.getD n 0*1000000000+rs.getD (n-1) 0):=by
 have g1:=dw hL n
 have g2:=dw hL (n-1)
 refine⟨by omega,by omega,?_⟩
 obtain⟨k,rfl⟩: ∃k,n=k+1:=⟨n-1,by omega⟩
 rw[Nat.add_sub_cancel] at*
 have e1:=kg (xs:=rs) (k:=k+1) (by omega)
 have e2:=kg (xs:=rs) (k:=k) (by omega)
 rw[co (by omega),e2] at e1
 have h1:=eI (hL.take k)
 rw[List.length_take,Nat.min_eq_left (by omega)] at h1
 rw[e1,eh]
 generalize pw k=b at*
 generalize rs.getD (k+1) 0=x at*
 generalize rs.getD k 0=y at*
 have:(x*1000000000+y+1)*b=1000000000*b*x+b*y+b:=by grind
 omega
theorem MS {rs:List Int}{n:Nat}(hL:Lim rs) (hn:1≤n) (hl:rs.length=n):HInv rs n (rs.getD (n-1) 0):=by
 have g2:=dw hL (n-1)
 refine⟨by omega,by omega,?_⟩
 obtain⟨k,rfl⟩: ∃k,n=k+1:=⟨n-1,by omega⟩
 rw[Nat.add_sub_cancel] at*
 have e2:=kg (xs:=rs) (k:=k) (by omega)
 rw[co (by omega)] at e2
 have h1:=eI (hL.take k)
 rw[List.length_take,Nat.min_eq_left (by omega)] at h1
 rw[e2]
 generalize pw k=b at*
 generalize rs.getD k 0=y at*
 have:(y+1)*b=b*y+b:=by grind
 omega
theorem Ko {rs:List Int}{n:Nat}(hL:Lim rs) (hl:rs.length<n):HInv rs n 0:=by
 refine⟨by omega,by omega,?_⟩
 have h1:=eI hL
 have:=lh (n:=rs.length) (m:=n-1) (by omega)
 omega
theorem CD {vs:List Int}(hL:Lim vs) (hN:Nrm vs) (hne:vs≠ []):0<vs.getD (vs.length-1) 0∧vs.getD (vs.length-1) 0*pw (vs.length-1)≤val vs:=by
 obtain⟨ys,y,e,hy⟩:=hN.last hne
 have hl:vs.length=ys.length+1:=by rw[e];simp
 have hk:vs.length-1<vs.length:=by omega
 have e1:=kg hk
 rw[show vs.length-1+1=vs.length from by omega,co (Nat.le_refl _)] at e1
 have h1:=cK (hL.take (vs.length-1))
 have h2:=dw hL (vs.length-1)
 have e3:vs.getD (vs.length-1) 0=y:=by rw[e];simp[List.getD]
 refine⟨by rw[e3] at h2⊢;omega,?_⟩
 rw[Int.mul_comm];omega
theorem p7 {n:Nat}{r:Int}(h0:0≤r) (h:r<pw n):(du r.natAbs).length≤n:=by
 refine(gY _).len (bW _) ?_
 rw[cz];omega
theorem Rc {x y s:Int}(hs:0<s):(x*s)/(y*s)=x/y∧(x*s)%(y*s)=x%y*s:=by
 refine⟨Int.mul_ediv_mul_of_pos_left x y hs,?_⟩
 rw[Int.mul_comm x,Int.mul_comm y,Int.mul_emod_mul_of_pos _ _ hs,Int.mul_comm]
theorem As {a:Int}{k:Nat}(h:Sz k a):Sz k (a.natAbs:Int):=h.of_le (by omega)
theorem mD {a b:Int}(ha:Sz 1000000 a) (hb:Sz 1000000 b):Ok Tryz.prog 214 [.c (cL a),.c (cL b)] [.c (.i .i64 (dS a.natAbs b.natAbs))]:=by
 have:=Bq (bW a.natAbs) (bW b.natAbs) (gY _) (gY _) (fR ha) (fR hb)
 rw[cz,cz] at this
 exact this
theorem MQ {a b:Int}(ha:Sz 1000000 a) (hb:Sz 1000000 b):Ok Tryz.prog 273 [.c (cL a),.c (cL b)] [.c (cL ((a.natAbs:Int)+b.natAbs))]:=by
 have:=J5 (bW a.natAbs) (bW b.natAbs) (fR ha) (fR hb)
 rw[cz,cz] at this
 exact this
theorem rI {a b:Int}(ha:Sz 1000000 a) (h:b.natAbs≤a.natAbs):Ok Tryz.prog 274 [.c (cL a),.c (cL b)] [.c (cL ((a.natAbs:Int)-b.natAbs))]:=by
 have:=Gx (bW a.natAbs) (bW b.natAbs) (fR ha) ((gY _).len (bW _) (by have:=eI (bW a.natAbs);rw[cz] at this⊢;omega)) (by rw[cz,cz];omega)
 rw[cz,cz] at this
 exact this
theorem H6 {a b:Int}(ha:Sz 1000000 a) (hb:Sz 1000000 b):Ok Tryz.prog 212 [.c (cL a),.c (cL b)] [.c (cL ((a.natAbs:Int)*b.natAbs))]:=by
 have:=yF (bW a.natAbs) (bW b.natAbs) (fR ha) (fR hb)
 rw[cz,cz] at this
 exact this
theorem T9 {a m:Int}(ha:Sz 1000000 a) (h0:0≤m) (h1:m<1000000000):Ok Tryz.prog 275 [.c (cL a),.c (.i .u32 m)] [.c (cL ((a.natAbs:Int)*m))]:=by
 have:=Da (bW a.natAbs) (fR ha) h0 h1
 rw[cz] at this
 exact this
theorem gO {neg:Bool}{a:Int}(ha:Sz 1000000 a):Ok Tryz.prog 195 [.c (.b neg),.c (cL a)] [dI (sg neg (a.natAbs:Int))]:=by
 have:=De (neg:=neg) (bW a.natAbs) (by have:=fR ha;omega)
 rw[cz] at this
 exact this
theorem JC {d:Int}{r:Int}(hr:0≤r) (h0:0≤d) (h1:d<1000000000) (hl:(du r.natAbs).length≤1000000):Ok Tryz.prog 215 [.c (cM (d::du r.natAbs))] [.c (cL (d+1000000000*r))]:=by
 have:=jj (Lim.cons h0 h1 (bW r.natAbs)) (by simp;omega)
 rw[dU,cz] at this
 rw[show((r.natAbs:Nat):Int)=r from by omega] at this
 exact this
theorem CA {a:Int}(ha:a.natAbs≤18446744073709551615):Ok Tryz.prog 217 [.c (cL a)] [.c (.i .u64 (a.natAbs:Int))]:=by
 have:=te (bW a.natAbs) (by have h3:pw 3=1000000000000000000000000000:=by decide
                            have:=(gY a.natAbs).len (bW _) (k:=3) (by rw[cz];omega)
                            omega) (by rw[cz];omega)
 rw[cz] at this
 exact this
theorem GN {xs ys:List Int}(hLxs:Lim xs) (hLys:Lim ys) (_nX:Nrm xs) (nY:Nrm ys) (hn:xs.length≤200000) (hm:ys.length≤200000) (hy0:ys≠ []):Ok Tryz.prog 216 [.c (cM xs),.c (cM ys)] [.c (cL (val xs/val ys)),.c (cL (val xs%val ys))]:=by
 have hyl:1≤ys.length:=by have:=List.length_pos_iff.2 hy0;omega
 obtain⟨htop,htopv⟩:=CD hLys nY hy0
 have hB1:=dw hLys (ys.length-1)
 have hvy0:0<val ys:=by have h2:=Int.mul_le_mul_of_nonneg_left (dJ (ys.length-1)) (show 0≤ys.getD (ys.length-1) 0 by omega);omega
 have hvx0:=cK hLxs
 obtain⟨B,hB⟩: ∃B,ys.getD (ys.length-1) 0=B:=⟨_,rfl⟩
 rw[hB] at htop hB1 htopv
 obtain⟨s,hs⟩: ∃s,1000000000/(B+1)=s:=⟨_,rfl⟩
 have hs1:1≤s:=by rw[←hs];exact(Int.le_ediv_iff_mul_le (by omega)).2 (by omega)
 have hs2:s≤500000000:=by rw[←hs];exact Int.ediv_le_of_le_mul (by omega) (by omega)
 obtain⟨V,hV⟩: ∃V,val ys*s=V:=⟨_,rfl⟩
 obtain⟨W,hW⟩: ∃W,val xs*s=W:=⟨_,rfl⟩
 have hV0:0<V:=by rw[←hV];exact Int.mul_pos hvy0 (by omega)
 have hW0:0≤W:=by rw[←hW];exact Int.mul_nonneg hvx0 (by omega)
 have eV:(V.natAbs:Int)=V:=by omega
 have eW:(W.natAbs:Int)=W:=by omega
 have hVb:V<pw (ys.length+1):=by
  have h1:=eI hLys
  have h2:val ys*s≤val ys*1000000000:=Int.mul_le_mul_of_nonneg_left (by omega) (by omega)
  rw[eh];omega
 have hWb:W<pw (xs.length+1):=by
  have h1:=eI hLxs
  have h2:val xs*s≤val xs*1000000000:=Int.mul_le_mul_of_nonneg_left (by omega) (by omega)
  rw[eh];omega
 have hVlen:(du V.natAbs).length≤ys.length+1:=p7 (by omega) hVb
 have hWlen:(du W.natAbs).length≤xs.length+1:=p7 hW0 hWb
 have hVne:du V.natAbs≠ []:=fun e=>by have:=dZ.1 e;omega
 have hVl1:1≤(du V.natAbs).length:=by have:=List.length_pos_iff.2 hVne;omega
 obtain⟨htop2,htopv2⟩:=CD (bW V.natAbs) (gY _) hVne
 have hB2:=dw (bW V.natAbs) ((du V.natAbs).length-1)
 rw[cz,eV] at htopv2
 obtain⟨top,ht⟩: ∃top,(du V.natAbs).getD ((du V.natAbs).length-1) 0=top:=⟨_,rfl⟩
 rw[ht] at htop2 htopv2 hB2
 obtain⟨n,hnl⟩: ∃n,(du V.natAbs).length=n:=⟨_,rfl⟩
 rw[hnl] at hVlen hVl1 htopv2 ht
 have hVlt:V<pw n:=by have:=eI (bW V.natAbs);rw[cz,eV,hnl] at this;exact this
 obtain⟨hq1,hq2⟩:=Rc (x:=val xs) (y:=val ys) (s:=s) (by omega)
 rw[hV,hW] at hq1 hq2
 have szV:Sz 1000000 V:=⟨by have:=lh (n:=ys.length+1) (m:=1000000) (by omega);omega,by have:=dJ 1000000;omega⟩
 have hby1:Ok Tryz.prog 275 [.c (cM ys),.c (.i .u32 s)] [.c (cL V)]:=by rw[←hV];exact Da hLys (by omega) (by omega) (by omega)
 have hby2:Ok Tryz.prog 275 [.c (cM xs),.c (.i .u32 s)] [.c (cL W)]:=by rw[←hW];exact Da hLxs (by omega) (by omega) (by omega)
 have hbyV: ∀g:Int,0≤g→g<1000000000→Ok Tryz.prog 275 [.c (cL V),.c (.i .u32 g)] [.c (cL (V*g))]:=fun g h0 h1=>by have:=T9 szV h0 h1;rw[eV] at this;exact this
 refine Ok.fn Tryz.func216 173 [.tmp 4,.tmp 5] rfl<|aa<|ab<|ag ?_
 refine gE (ι:=Unit) (fun i=>⟨173,[(0,.v (.c (cM xs))),(1,.v (.c (cM ys)))],[]⟩) ?_ ?_
 ·refine aa<|ab<|al 3 ?_
  refine cg (bN rfl) (fun c1 hb1=>?_)
  cases c1
  ·refine ag<|aP rfl<|ao ?_
   exact⟨(),aM ⟨rfl,rfl,trivial⟩ trivial rfl⟩
  ·have ha2:xs.length≤2:=by simp only[decide_eq_true_eq] at hb1;omega
   refine ag ?_
   refine aw rfl (fun hc2=>?_) (fun hc2=>?_)
   ·have hb2:ys.length≤2:=by simp only[decide_eq_true_eq] at hc2;omega
    have hp2:pw 2=1000000000000000000:=by decide
    have hvx2:=eI hLxs
    have hvy2:=eI hLys
    have hp3:=lh (n:=xs.length) (m:=2) ha2
    have hp4:=lh (n:=ys.length) (m:=2) hb2
    have hd0:0≤val xs/val ys:=Int.ediv_nonneg (by omega) (by omega)
    have hd1:val xs/val ys≤val xs:=Int.ediv_le_self _ (by omega)
    have hd2:val xs/val ys≤18446744073709551615:=by omega
    have hm0:0≤val xs%val ys:=Int.emod_nonneg _ (by omega)
    have hm1:val xs%val ys<val ys:=Int.emod_lt_of_pos _ (by omega)
    have hm2:val xs%val ys≤18446744073709551615:=by omega
    refine aa<|ab<|al 1<|ah (am rfl (te hLxs (by omega) (by omega)))<|al 1<|ah (am rfl (te hLys (by omega) (by omega)))<|ag<|aa<|aR 10 rfl rfl<|ap 2<|aj (iD (r:=val xs/val ys) rfl rfl (by omega) (by rw[Int.tdiv_eq_ediv_of_nonneg (by omega)];exact gG (by omega) (by omega)) rfl) ?_
    refine aj (am rfl (nE (by assumption) (by assumption)))<|ap 2<|aj (eF (r:=val xs%val ys) rfl rfl (by omega) (Int.tmod_eq_emod_of_nonneg hvx0) rfl) ?_
    refine aj (am rfl (nE (by assumption) (by assumption)))<|bk<|az<|ar<|an ?_
    exact aq (aE (aE ae))
   ·refine ao ?_
    exact⟨(),aM ⟨rfl,rfl,trivial⟩ trivial rfl⟩
 ·rintro⟨⟩
  show Dw _ _ ⟨173,[(0,.v (.c (cM xs))),(1,.v (.c (cM ys)))],[]⟩ _
  refine aa<|ab<|al 3<|ah (aK (r:=((ys.length-1:Nat):Int)) rfl rfl (by rw[show((ys.length-1:Nat):Int)=(ys.length:Int)-1 from by omega];exact bV (by omega) (by omega)) rfl) ?_
  refine ah (aW gX rfl rfl (by(first|omega|(simp;omega))) (ig _) rfl rfl) ?_
  refine ah (cU eQ rfl (iW (i:=(ys.length-1)) (by(first|omega|(simp;omega)))) rfl) ?_
  refine ah (bF (r:=B) iv fk rfl (by rw[hB];exact gG (by omega) (by omega)) rfl) ?_
  refine ah (aK (r:=B+1) rfl rfl (fh (by(first|omega|(simp;omega))) (by(first|omega|(simp;omega)))) rfl) ?_
  refine ah (iD (r:=s) rfl rfl (by omega) (by rw[Int.tdiv_eq_ediv_of_nonneg (by omega),hs];exact gG (by omega) (by omega)) rfl) ?_
  refine ah (bF (r:=s) fk iv rfl (nP (by omega) (by omega)) rfl) ?_
  refine ag<|aa<|ab<|al 2<|ah (am rfl (hby1))<|ag<|aa<|ab<|al 3<|ah (aK (r:=((n-1:Nat):Int)) rfl rfl (by rw[hnl,show((n-1:Nat):Int)=(n:Int)-1 from by omega];exact bV (by omega) (by omega)) rfl) ?_
  refine ah (aW gX rfl rfl (by(first|omega|(simp;omega))) (ig _) rfl rfl) ?_
  refine ah (cU eQ rfl (iW (i:=(n-1)) (by(first|omega|(simp;omega)))) rfl) ?_
  refine ah (bF (r:=top) iv fk rfl (by rw[ht];exact gG (by omega) (by omega)) rfl) ?_
  refine ag<|aa<|ab<|ag<|aa<|ab<|al 2 ?_
  refine ah (aK (r:=(xs.length:Int)+1) rfl rfl (aQ (by(first|omega|(simp;omega))) (by(first|omega|(simp;omega)))) rfl) ?_
  refine jM (kO (n:=xs.length+1) qZ rfl rfl (by omega) (by omega) rfl) rfl ?_
  refine ag<|aa<|ab<|al 2<|ah (am rfl (hby2))<|ag<|aa<|ab<|al 3 ?_
  refine ah (gV (q:=((du W.natAbs).length)) gX rfl rfl (by(first|omega|(simp;omega))) rfl) ?_
  refine ag<|aa<|aa<|ab<|al 2 ?_
  refine ah (aK (r:=(((du W.natAbs).length:Int))-1) rfl rfl (bV (by(first|omega|(simp;omega))) (by(first|omega|(simp;omega)))) rfl) ?_
  refine ag<|aJ<|bD (ι:={t:Nat×Int×List Int // DInv (du W.natAbs) V (xs.length+1) t.1 t.2.1 t.2.2}) (fun i=>⟨173,[(8,.v (.c (.i .u32 s))),(9,.v (.c (cL V))),(10,.v (.c (.i .u64 top))),(11,.v (.c (cL i.1.2.1))),(12,.o 64 ((du W.natAbs).length) (xs.length+1)),(13,.v (.c (cL W))),(14,.v (.c (.i .i64 ((i.1.1:Int)-1))))],[(64,192,i.1.2.2.map (CellD.i .u32))]⟩) (fun i=>i.1.1) ⟨((du W.natAbs).length,0,List.replicate (xs.length+1) 0),DInv.start hV0 hWlen⟩ (aM ⟨rfl,rfl,rfl,by rw[show cL 0=.s 0 [] from by unfold cL;rw[show(0:Int).natAbs=0 from rfl,iG];rfl];rfl,rfl,rfl,rfl,trivial⟩ ⟨by rw[show(List.replicate (xs.length+1) (CellD.i .u32 0))=(List.replicate (xs.length+1) 0).map (CellD.i .u32) from by simp];rfl,trivial⟩ rfl) ?_
  rintro⟨⟨j,R,zs⟩,hI⟩
  replace hI:DInv (du W.natAbs) V (xs.length+1) j R zs:=hI
  have g6:=hI.len
  have gR0:=hI.R0
  have gRV:=hI.RV
  have gle:=hI.le
  have eR:(R.natAbs:Int)=R:=by omega
  have hRlen:(du R.natAbs).length≤n:=p7 gR0 (by omega)
  show Dw _ _ ⟨173,[(8,.v (.c (.i .u32 s))),(9,.v (.c (cL V))),(10,.v (.c (.i .u64 top))),(11,.v (.c (cL R))),(12,.o 64 ((du W.natAbs).length) (xs.length+1)),(13,.v (.c (cL W))),(14,.v (.c (.i .i64 ((j:Int)-1))))],[(64,192,zs.map (CellD.i .u32))]⟩ _
  refine aa<|aa<|ab<|ag ?_
  refine aw rfl (fun hc3=>?_) (fun hc3=>?_)
  ·obtain⟨q,rfl⟩: ∃q,j=q+1:=⟨j-1,by simp only[decide_eq_true_eq] at hc3;omega⟩
   have gd:=dw (bW W.natAbs) q
   obtain⟨T,hT⟩: ∃T,(du W.natAbs).getD q 0+1000000000*R=T:=⟨_,rfl⟩
   have hT0:0≤T:=by omega
   have eT:(T.natAbs:Int)=T:=by omega
   have htrim:Ok Tryz.prog 215 [.c (cM ((du W.natAbs).getD q 0::du R.natAbs))] [.c (cL T)]:=by rw[←hT];exact JC gR0 gd.1 gd.2 (by omega)
   have hTb:T<pw (n+1):=by rw[eh];omega
   have hTlen:(du T.natAbs).length≤n+1:=p7 hT0 hTb
   have szT:Sz 1000000 T:=⟨by have:=lh (n:=n+1) (m:=1000000) (by omega);omega,by have:=dJ 1000000;omega⟩
   have hquo:=yr gR0 gRV gd.1 gd.2
   rw[hT] at hquo
   have gt1:=dw (bW T.natAbs) (du V.natAbs).length
   have gt2:=dw (bW T.natAbs) (n-1)
   refine Dw.weak (σ':=⟨173,[(8,.v (.c (.i .u32 s))),(9,.v (.c (cL V))),(10,.v (.c (.i .u64 top))),(11,.v (.c (cL R))),(12,.o 64 ((du W.natAbs).length) (xs.length+1)),(13,.v (.c (cL W))),(14,.v (.c (.i .i64 (q:Int))))],[(64,192,zs.map (CellD.i .u32))]⟩) (aM ⟨rfl,rfl,rfl,rfl,rfl,rfl,by rw[show(q:Int)=((q+1:Nat):Int)-1 from by omega];rfl,trivial⟩ ⟨rfl,trivial⟩ rfl) ?_
   refine ao<|aa<|aJ<|aa<|ab<|al 2 ?_
   refine ah (aW gX rfl rfl (by(first|omega|(simp;omega))) (ig _) rfl rfl) ?_
   refine ah (cU eQ rfl (iW (i:=q) (by(first|omega|(simp;omega)))) rfl) ?_
   refine jM (gg (us:=[.i .u32 ((du W.natAbs).getD q 0)]) qZ rfl rfl (by decide) (by decide) rfl) rfl ?_
   refine al 1<|Rv (xx (rs:=du R.natAbs) qZ rfl rfl rfl (by omega) rfl) ?_
   refine ah (am rfl (htrim))<|ag<|aa<|ab<|ag ?_
   refine gE (ι:={H:Int // H=if n<(du T.natAbs).length then(du T.natAbs).getD n 0*1000000000 else 0}) (fun i=>⟨173,[(8,.v (.c (.i .u32 s))),(9,.v (.c (cL V))),(10,.v (.c (.i .u64 top))),(11,.v (.c (cL T))),(12,.o 64 ((du W.natAbs).length) (xs.length+1)),(13,.v (.c (cL W))),(14,.v (.c (.i .i64 (q:Int)))),(15,.v (.c (.i .u64 i.1)))],[(64,192,zs.map (CellD.i .u32))]⟩) ?_ ?_
   ·refine aa<|ab<|ag ?_
    refine aw rfl (fun hc4=>?_) (fun hc4=>?_)
    ·have hlt:(du V.natAbs).length<(du T.natAbs).length:=by simp only[decide_eq_true_eq] at hc4;omega
     refine ab<|al 3 ?_
     refine ah (aW gX rfl rfl (by(first|omega|(simp;omega))) (ig _) rfl rfl) ?_
     refine ah (cU eQ rfl (iW (i:=((du V.natAbs).length)) (by(first|omega|(simp;omega)))) rfl) ?_
     refine ah (bF (r:=(du T.natAbs).getD (((du V.natAbs).length)) 0) iv fk rfl (gG (by(first|omega|(simp;omega))) (by(first|omega|(simp;omega)))) rfl) ?_
     refine ah (aK (r:=((du T.natAbs).getD (((du V.natAbs).length)) 0)*1000000000) rfl rfl (gn (by(first|omega|(simp;omega))) (by(first|omega|(simp;omega)))) rfl) ?_
     refine ag ?_
     exact⟨⟨(du T.natAbs).getD (du V.natAbs).length 0*1000000000,by rw[hnl] at*;rw[if_pos (by have:=hc4;simp only[decide_eq_true_eq] at this;omega)]⟩,aM ⟨rfl,rfl,rfl,rfl,rfl,rfl,rfl,rfl,trivial⟩ ⟨rfl,trivial⟩ rfl⟩
    ·refine ao ?_
     exact⟨⟨0,by rw[if_neg (by have:=hc4;simp only[decide_eq_false_iff_not] at this;omega)]⟩,aM ⟨rfl,rfl,rfl,rfl,rfl,rfl,rfl,rfl,trivial⟩ ⟨rfl,trivial⟩ rfl⟩
   ·rintro⟨H1,hH1⟩
    replace hH1:H1=if n<(du T.natAbs).length then(du T.natAbs).getD n 0*1000000000 else 0:=hH1
    rw[hnl] at gt1
    have hHb:0≤H1∧H1≤999999999000000000:=by rw[hH1];split<;>omega
    show Dw _ _ ⟨173,[(8,.v (.c (.i .u32 s))),(9,.v (.c (cL V))),(10,.v (.c (.i .u64 top))),(11,.v (.c (cL T))),(12,.o 64 ((du W.natAbs).length) (xs.length+1)),(13,.v (.c (cL W))),(14,.v (.c (.i .i64 (q:Int)))),(15,.v (.c (.i .u64 H1)))],[(64,192,zs.map (CellD.i .u32))]⟩ _
    refine gE (ι:={H:Int // HInv (du T.natAbs) n H}) (fun i=>⟨173,[(8,.v (.c (.i .u32 s))),(9,.v (.c (cL V))),(10,.v (.c (.i .u64 top))),(11,.v (.c (cL T))),(12,.o 64 ((du W.natAbs).length) (xs.length+1)),(13,.v (.c (cL W))),(14,.v (.c (.i .i64 (q:Int)))),(15,.v (.c (.i .u64 i.1)))],[(64,192,zs.map (CellD.i .u32))]⟩) ?_ ?_
    ·refine aa<|ab<|ag ?_
     refine aw rfl (fun hc5=>?_) (fun hc5=>?_)
     ·have hlt:n≤(du T.natAbs).length:=by simp only[decide_eq_true_eq] at hc5;omega
      have hHT:HInv (du T.natAbs) n (H1+(du T.natAbs).getD (n-1) 0):=by
       rcases Nat.lt_or_ge n (du T.natAbs).length with h1|h1
       ·rw[hH1,if_pos h1];exact Oc (bW _) (by omega) (by omega)
       ·rw[hH1,if_neg (by omega),Int.zero_add];exact MS (bW _) (by omega) (by omega)
      refine ab<|al 4<|ah (aK (r:=((n-1:Nat):Int)) rfl rfl (by rw[hnl,show((n-1:Nat):Int)=(n:Int)-1 from by omega];exact bV (by omega) (by omega)) rfl) ?_
      refine ah (aW gX rfl rfl (by(first|omega|(simp;omega))) (ig _) rfl rfl) ?_
      refine ah (cU eQ rfl (iW (i:=(n-1)) (by(first|omega|(simp;omega)))) rfl) ?_
      refine ah (bF (r:=(du T.natAbs).getD (n-1) 0) iv fk rfl (gG (by(first|omega|(simp;omega))) (by(first|omega|(simp;omega)))) rfl) ?_
      refine ah (aK (r:=H1+((du T.natAbs).getD (n-1) 0)) rfl rfl (fh (by(first|omega|(simp;omega))) (by(first|omega|(simp;omega)))) rfl) ?_
      refine ag ?_
      exact⟨⟨H1+(du T.natAbs).getD (n-1) 0,hHT⟩,aM ⟨rfl,rfl,rfl,rfl,rfl,rfl,rfl,rfl,trivial⟩ ⟨rfl,trivial⟩ rfl⟩
     ·have hHF:HInv (du T.natAbs) n H1:=by
       simp only[decide_eq_false_iff_not] at hc5
       rw[hH1,if_neg (by omega)];exact Ko (bW _) (by omega)
      refine ao ?_
      exact⟨⟨H1,hHF⟩,aM ⟨rfl,rfl,rfl,rfl,rfl,rfl,rfl,rfl,trivial⟩ ⟨rfl,trivial⟩ rfl⟩
    ·rintro⟨H,hH⟩
     replace hH:HInv (du T.natAbs) n H:=hH
     have hHa:=hH.h0
     have hHc:=hH.h1
     have hHh:=hH.h
     rw[cz,eT] at hHh
     have hest:=Ra htopv2 htop2 hHh hT0 hV0
     have hq0:0≤H/top:=Int.ediv_nonneg (by omega) (by omega)
     have hq9:H/top≤H:=Int.ediv_le_self _ (by omega)
     show Dw _ _ ⟨173,[(8,.v (.c (.i .u32 s))),(9,.v (.c (cL V))),(10,.v (.c (.i .u64 top))),(11,.v (.c (cL T))),(12,.o 64 ((du W.natAbs).length) (xs.length+1)),(13,.v (.c (cL W))),(14,.v (.c (.i .i64 (q:Int)))),(15,.v (.c (.i .u64 H)))],[(64,192,zs.map (CellD.i .u32))]⟩ _
     refine aa<|ab<|al 2<|ah (iD (r:=H/top) rfl rfl (by omega) (by rw[Int.tdiv_eq_ediv_of_nonneg (by omega)];exact gG (by omega) (by omega)) rfl) ?_
     refine ag ?_
     refine gE (ι:={g:Int // T/V≤g∧g≤999999999}) (fun i=>⟨173,[(8,.v (.c (.i .u32 s))),(9,.v (.c (cL V))),(10,.v (.c (.i .u64 top))),(11,.v (.c (cL T))),(12,.o 64 ((du W.natAbs).length) (xs.length+1)),(13,.v (.c (cL W))),(14,.v (.c (.i .i64 (q:Int)))),(16,.v (.c (.i .u64 i.1)))],[(64,192,zs.map (CellD.i .u32))]⟩) ?_ ?_
     ·refine aa<|ab<|ag ?_
      refine aw rfl (fun hc6=>?_) (fun hc6=>?_)
      ·--region 22
       refine ab<|ag ?_
       exact⟨⟨999999999,hquo.2,Int.le_refl _⟩,aM ⟨rfl,rfl,rfl,rfl,rfl,rfl,rfl,rfl,trivial⟩ ⟨rfl,trivial⟩ rfl⟩
      ·refine ao ?_
       exact⟨⟨H/top,hest,by have:=hc6;simp only[decide_eq_false_iff_not] at this;omega⟩,aM ⟨rfl,rfl,rfl,rfl,rfl,rfl,rfl,rfl,trivial⟩ ⟨rfl,trivial⟩ rfl⟩
     ·rintro⟨g,hg⟩
      replace hg:T/V≤g∧g≤999999999:=hg
      show Dw _ _ ⟨173,[(8,.v (.c (.i .u32 s))),(9,.v (.c (cL V))),(10,.v (.c (.i .u64 top))),(11,.v (.c (cL T))),(12,.o 64 ((du W.natAbs).length) (xs.length+1)),(13,.v (.c (cL W))),(14,.v (.c (.i .i64 (q:Int)))),(16,.v (.c (.i .u64 g)))],[(64,192,zs.map (CellD.i .u32))]⟩ _
      refine aa<|ab<|al 2<|ah (bF (r:=g) fk iv rfl (nP (by omega) (by omega)) rfl) ?_
      refine ah (am rfl (hbyV g (by omega) (by omega)))<|ag<|aa<|aJ<|bD (ι:={g:Int // T/V≤g∧g≤999999999}) (fun i=>⟨173,[(8,.v (.c (.i .u32 s))),(9,.v (.c (cL V))),(10,.v (.c (.i .u64 top))),(11,.v (.c (cL T))),(12,.o 64 ((du W.natAbs).length) (xs.length+1)),(13,.v (.c (cL W))),(14,.v (.c (.i .i64 (q:Int)))),(16,.v (.c (.i .u64 i.1))),(17,.v (.c (cL (V*i.1))))],[(64,192,zs.map (CellD.i .u32))]⟩) (fun i=>i.1.toNat) ⟨g,hg⟩ (aM ⟨rfl,rfl,rfl,rfl,rfl,rfl,rfl,rfl,rfl,trivial⟩ ⟨rfl,trivial⟩ rfl) ?_
      rintro⟨g,hg⟩
      replace hg:T/V≤g∧g≤999999999:=hg
      have hVg0:0≤V*g:=Int.mul_nonneg (by omega) (by omega)
      have eVg:((V*g).natAbs:Int)=V*g:=by omega
      have hVgb:V*g≤V*1000000000:=Int.mul_le_mul_of_nonneg_left (by omega) (by omega)
      have szP:Sz 1000000 (V*g):=⟨by have:=lh (n:=n+1) (m:=1000000) (by omega);rw[eh] at this;omega,by have:=dJ 1000000;omega⟩
      have hcmp:Ok Tryz.prog 214 [.c (cL (V*g)),.c (cL T)] [.c (.i .i64 (dS (V*g) T))]:=by have:=mD szP szT;rw[eVg,eT] at this;exact this
      show Dw _ _ ⟨173,[(8,.v (.c (.i .u32 s))),(9,.v (.c (cL V))),(10,.v (.c (.i .u64 top))),(11,.v (.c (cL T))),(12,.o 64 ((du W.natAbs).length) (xs.length+1)),(13,.v (.c (cL W))),(14,.v (.c (.i .i64 (q:Int)))),(16,.v (.c (.i .u64 g))),(17,.v (.c (cL (V*g))))],[(64,192,zs.map (CellD.i .u32))]⟩ _
      refine aa<|aa<|ab<|al 2<|ah (am rfl (hcmp))<|ag ?_
      refine aw rfl (fun hc7=>?_) (fun hc7=>?_)
      ·have hgt:T<V*g:=by simp only[decide_eq_true_eq] at hc7;rcases Int.lt_trichotomy (V*g) T with h1|h1|h1<;>first|(rw[ew h1] at hc7;omega)|(rw[hJ h1] at hc7;omega)|exact h1
       have hg2:T/V≤g-1:=by have:T/V<g:=(Int.ediv_lt_iff_lt_mul hV0).2 (by rw[Int.mul_comm];exact hgt);omega
       have hVm:V*(g-1)=V*g-V:=by rw[Int.mul_sub,Int.mul_one]
       have hVm0:0≤V*(g-1):=Int.mul_nonneg (by omega) (by omega)
       have hmin:Ok Tryz.prog 274 [.c (cL (V*g)),.c (cL V)] [.c (cL (V*(g-1)))]:=by have:=rI (b:=V) szP (by omega);rw[eVg,eV,←hVm] at this;exact this
       refine ao<|aJ<|aa<|ab<|al 1 ?_
       refine ah (aK (r:=g-1) rfl rfl (Bt (by(first|omega|(simp;omega))) (by(first|omega|(simp;omega)))) rfl) ?_
       refine ag<|ab<|al 2<|ah (am rfl (hmin))<|ag ?_
       exact⟨⟨g-1,hg2,by omega⟩,aM ⟨rfl,rfl,rfl,rfl,rfl,rfl,rfl,rfl,rfl,trivial⟩ ⟨rfl,trivial⟩ rfl,by show(g-1).toNat<g.toNat;omega⟩
      ·have hle:V*g≤T:=by simp only[decide_eq_false_iff_not] at hc7;rcases Int.lt_trichotomy (V*g) T with h1|h1|h1<;>first|omega|(rw[eA h1] at hc7;omega)
       have hgq:g=T/V:=by have:g≤T/V:=(Int.le_ediv_iff_mul_le hV0).2 (by rw[Int.mul_comm];exact hle);omega
       have hr0:0≤T-V*g:=by omega
       have hr1:T-V*g<V:=by have:=Int.emod_lt_of_pos T hV0;have h2:=Int.mul_ediv_add_emod T V;rw[←hgq] at h2;omega
       have hmin:Ok Tryz.prog 274 [.c (cL T),.c (cL (V*g))] [.c (cL (T-V*g))]:=by have:=rI (b:=V*g) szT (by omega);rw[eVg,eT] at this;exact this
       refine bj<|aa<|ab<|al 2<|ah (am rfl (hmin))<|ag<|ab<|al 3<|ah (bF (r:=g) fk iv rfl (nP (by omega) (by omega)) rfl) ?_
       refine ah (br gX rfl rfl (by(first|omega|(simp;omega))) rfl) ?_
       refine bL (bm (us:=(zs.set q g).map (CellD.i .u32)) eQ rfl rfl rfl rfl (by simp;omega) (mW (by(first|omega|(simp;omega)))) rfl) ?_
       refine ar<|ab<|al 1 ?_
       refine ah (aK (r:=(q:Int)-1) rfl rfl (bV (by(first|omega|(simp;omega))) (by(first|omega|(simp;omega)))) rfl) ?_
       refine ag ?_
       exact⟨⟨(q,T-V*g,zs.set q g),hI.step (bW _) (by omega) (by omega) hr0 hr1 (by rw[hT];show T=g*V+(T-V*g);rw[Int.mul_comm g V];omega)⟩,aM ⟨rfl,rfl,rfl,rfl,rfl,rfl,rfl,trivial⟩ ⟨rfl,trivial⟩ rfl,by show q<q+1;omega⟩
  ·have hj0:j=0:=by simp only[decide_eq_false_iff_not] at hc3;omega
   subst hj0
   obtain⟨d1,d2⟩:=hI.done
   rw[cz,eW] at d1 d2
   refine bj<|aa<|ab<|ag<|aa<|ab<|al 2<|jM (kO (n:=((du R.natAbs).length)) qZ rfl rfl (by omega) (by omega) rfl) rfl ?_
   refine ag<|aa<|aa<|ab<|al 2 ?_
   refine ah (aK (r:=(((du R.natAbs).length:Int))-1) rfl rfl (bV (by(first|omega|(simp;omega))) (by(first|omega|(simp;omega)))) rfl) ?_
   refine ag<|aJ<|bD (ι:={t:Nat×Int×List Int // DInv (du R.natAbs) s (du R.natAbs).length t.1 t.2.1 t.2.2}) (fun i=>⟨173,[(8,.v (.c (.i .u32 s))),(11,.v (.c (cL R))),(12,.o 64 ((du W.natAbs).length) (xs.length+1)),(18,.v (.c (.i .u64 i.1.2.1))),(19,.o 141 ((du R.natAbs).length) ((du R.natAbs).length)),(20,.v (.c (.i .i64 ((i.1.1:Int)-1))))],[(64,192,zs.map (CellD.i .u32)),(141,192,i.1.2.2.map (CellD.i .u32))]⟩) (fun i=>i.1.1) ⟨((du R.natAbs).length,0,List.replicate (du R.natAbs).length 0),DInv.start (by omega) (Nat.le_refl _)⟩ (aM ⟨rfl,rfl,rfl,rfl,rfl,rfl,trivial⟩ ⟨rfl,by rw[show(List.replicate (du R.natAbs).length (CellD.i .u32 0))=(List.replicate (du R.natAbs).length 0).map (CellD.i .u32) from by simp];rfl,trivial⟩ rfl) ?_
   rintro⟨⟨j2,c,ls⟩,hI2⟩
   replace hI2:DInv (du R.natAbs) s (du R.natAbs).length j2 c ls:=hI2
   have k6:=hI2.len
   have k0:=hI2.R0
   have k1:=hI2.RV
   have kle:=hI2.le
   show Dw _ _ ⟨173,[(8,.v (.c (.i .u32 s))),(11,.v (.c (cL R))),(12,.o 64 ((du W.natAbs).length) (xs.length+1)),(18,.v (.c (.i .u64 c))),(19,.o 141 ((du R.natAbs).length) ((du R.natAbs).length)),(20,.v (.c (.i .i64 ((j2:Int)-1))))],[(64,192,zs.map (CellD.i .u32)),(141,192,ls.map (CellD.i .u32))]⟩ _
   refine aa<|aa<|ab<|ag ?_
   refine aw rfl (fun hc8=>?_) (fun hc8=>?_)
   ·obtain⟨q2,rfl⟩: ∃q,j2=q+1:=⟨j2-1,by simp only[decide_eq_true_eq] at hc8;omega⟩
    have gd:=dw (bW R.natAbs) q2
    have hb0:=yr k0 k1 gd.1 gd.2
    rw[show(du R.natAbs).getD q2 0+1000000000*c=c*1000000000+(du R.natAbs).getD q2 0 from by omega] at hb0
    have hd20:0≤(c*1000000000+(du R.natAbs).getD q2 0)/s:=hb0.1
    have hd21:(c*1000000000+(du R.natAbs).getD q2 0)/s<1000000000:=by omega
    have hr20:0≤(c*1000000000+(du R.natAbs).getD q2 0)%s:=Int.emod_nonneg _ (by omega)
    have hr21:(c*1000000000+(du R.natAbs).getD q2 0)%s<s:=Int.emod_lt_of_pos _ (by omega)
    refine Dw.weak (σ':=⟨173,[(8,.v (.c (.i .u32 s))),(11,.v (.c (cL R))),(12,.o 64 ((du W.natAbs).length) (xs.length+1)),(18,.v (.c (.i .u64 c))),(19,.o 141 ((du R.natAbs).length) ((du R.natAbs).length)),(20,.v (.c (.i .i64 (q2:Int))))],[(64,192,zs.map (CellD.i .u32)),(141,192,ls.map (CellD.i .u32))]⟩) (aM ⟨rfl,rfl,rfl,rfl,rfl,by rw[show(q2:Int)=((q2+1:Nat):Int)-1 from by omega];rfl,trivial⟩ ⟨rfl,rfl,trivial⟩ rfl) ?_
    refine ao<|aa<|aJ<|aa<|ab<|al 1 ?_
    refine ah (aK (r:=c*1000000000) rfl rfl (gn (by(first|omega|(simp;omega))) (by(first|omega|(simp;omega)))) rfl) ?_
    refine al 2 ?_
    refine ah (aW gX rfl rfl (by(first|omega|(simp;omega))) (ig _) rfl rfl) ?_
    refine ah (cU eQ rfl (iW (i:=q2) (by(first|omega|(simp;omega)))) rfl) ?_
    refine ah (bF (r:=(du R.natAbs).getD q2 0) iv fk rfl (gG (by(first|omega|(simp;omega))) (by(first|omega|(simp;omega)))) rfl) ?_
    refine ah (aK (r:=(c*1000000000)+((du R.natAbs).getD q2 0)) rfl rfl (fh (by(first|omega|(simp;omega))) (by(first|omega|(simp;omega)))) rfl) ?_
    refine ag<|aa<|ab<|al 4 ?_
    refine ah (bF (r:=s) iv fk rfl (gG (by(first|omega|(simp;omega))) (by(first|omega|(simp;omega)))) rfl) ?_
    refine ah (iD (r:=(c*1000000000+(du R.natAbs).getD q2 0)/s) rfl rfl (by omega) (by rw[Int.tdiv_eq_ediv_of_nonneg (by omega)];exact gG (by omega) (by omega)) rfl) ?_
    refine ah (bF (r:=(c*1000000000+(du R.natAbs).getD q2 0)/s) fk iv rfl (nP (by omega) (by omega)) rfl) ?_
    refine ah (br gX rfl rfl (by(first|omega|(simp;omega))) rfl) ?_
    refine bL (bm (us:=(ls.set q2 ((c*1000000000+(du R.natAbs).getD q2 0)/s)).map (CellD.i .u32)) eQ rfl rfl rfl rfl (by simp;omega) (mW (by(first|omega|(simp;omega)))) rfl) ?_
    refine ar<|ab<|al 2 ?_
    refine ah (bF (r:=s) iv fk rfl (gG (by(first|omega|(simp;omega))) (by(first|omega|(simp;omega)))) rfl) ?_
    refine ah (eF (r:=(c*1000000000+(du R.natAbs).getD q2 0)%s) rfl rfl (by omega) (Int.tmod_eq_emod_of_nonneg (by omega)) rfl) ?_
    refine ag<|ab<|al 1 ?_
    refine ah (aK (r:=(q2:Int)-1) rfl rfl (bV (by(first|omega|(simp;omega))) (by(first|omega|(simp;omega)))) rfl) ?_
    refine ag ?_
    exact⟨⟨(q2,(c*1000000000+(du R.natAbs).getD q2 0)%s,ls.set q2 ((c*1000000000+(du R.natAbs).getD q2 0)/s)),hI2.step (bW _) hd20 hd21 hr20 hr21 (by rw[Int.mul_comm ((c*1000000000+(du R.natAbs).getD q2 0)/s) s,Int.mul_ediv_add_emod];omega)⟩,aM ⟨rfl,rfl,rfl,rfl,rfl,rfl,trivial⟩ ⟨rfl,rfl,trivial⟩ rfl,by show q2<q2+1;omega⟩
   ·have hj0:j2=0:=by simp only[decide_eq_false_iff_not] at hc8;omega
    subst hj0
    obtain⟨d3,d4⟩:=hI2.done
    rw[cz,eR,List.take_of_length_le (by omega)] at d3
    have f1:val xs/val ys=val (zs.take (du W.natAbs).length):=by rw[←hq1,d1]
    have f2:val xs%val ys=val ls:=by rw[←d3,←d2,hq2,Int.mul_ediv_cancel _ (by omega)]
    have hLo:Lim (zs.take (du W.natAbs).length):=hI.L.take _
    have hLl:=hI2.L
    refine bj<|aa ?_
    refine qg (t:=12) (zs:=zs) (ys:=zs.take ((du W.natAbs).length)) rfl rfl (by first|omega|(simp;omega)|simp) (by omega) (by omega) (rfl) ?_
    refine qg (t:=19) (zs:=ls) (ys:=ls) rfl rfl (by first|omega|(simp;omega)|simp) (by omega) (by omega) (List.take_of_length_le (by first|omega|(simp;omega)|simp)) ?_
    refine ab<|al 1<|ah (am rfl (jj hLo (by simp<;>omega)))<|al 1<|ah (am rfl (jj hLl (by omega)))<|ag<|an ?_
    rw[f1,f2]
    exact aq (aE (aE ae))
theorem Is (x:Int):cL x=cL ((x.natAbs:Nat):Int):=by unfold cL;rw[show((x.natAbs:Nat):Int).natAbs=x.natAbs from by omega]
theorem wK {a b:Int}(ha:Sz 200000 a) (hb:Sz 200000 b) (h0:b≠0):Ok Tryz.prog 216 [.c (cL a),.c (cL b)] [.c (cL ((a.natAbs:Int)/b.natAbs)),.c (cL ((a.natAbs:Int)%b.natAbs))]:=by
 have:=GN (bW a.natAbs) (bW b.natAbs) (gY _) (gY _) (fR ha) (fR hb) (fun e=>by have:=dZ.1 e;omega)
 rw[cz,cz] at this
 exact this
theorem OC {x y:Int}(h:(decide (x<0)==decide (y<0))=true):sg (decide (x<0)) ((((x.natAbs:Int)+y.natAbs).natAbs:Nat):Int)=x+y:=by
 by_cases h1:x<0<;>by_cases h2:y<0<;>simp[h1,h2,sg] at h⊢ <;>omega
theorem TR {x y:Int}(h:(decide (x<0)==decide (y<0))=false) (hg:y.natAbs≤x.natAbs):sg (decide (x<0)) ((((x.natAbs:Int)-y.natAbs).natAbs:Nat):Int)=x+y:=by
 by_cases h1:x<0<;>by_cases h2:y<0<;>simp[h1,h2,sg] at h⊢ <;>omega
theorem UE {x y:Int}(h:(decide (x<0)==decide (y<0))=false) (hg:x.natAbs<y.natAbs):sg (decide (y<0)) ((((y.natAbs:Int)-x.natAbs).natAbs:Nat):Int)=x+y:=by
 by_cases h1:x<0<;>by_cases h2:y<0<;>simp[h1,h2,sg] at h⊢ <;>omega
theorem PM {x y:Int}:sg (!(decide (x<0)==decide (y<0))) ((((x.natAbs:Int)*y.natAbs).natAbs:Nat):Int)=x*y:=by
 have h0:0≤(x.natAbs:Int)*y.natAbs:=Int.mul_nonneg (by omega) (by omega)
 rw[show((((x.natAbs:Int)*y.natAbs).natAbs:Nat):Int)=(x.natAbs:Int)*y.natAbs from by omega]
 by_cases h1:x<0<;>by_cases h2:y<0<;>simp only[h1,h2,sg,decide_true,decide_false,Bool.not_true,Bool.not_false,beq_self_eq_true,Bool.false_eq_true,if_true,if_false,show(true==false)=false from rfl,show(false==true)=false from rfl]
 ·rw[show(x.natAbs:Int)= -x from by omega,show(y.natAbs:Int)= -y from by omega,Int.neg_mul_neg]
 ·rw[show(x.natAbs:Int)= -x from by omega,show(y.natAbs:Int)=y from by omega,Int.neg_mul,Int.neg_neg]
 ·rw[show(x.natAbs:Int)=x from by omega,show(y.natAbs:Int)= -y from by omega,Int.mul_neg,Int.neg_neg]
 ·rw[show(x.natAbs:Int)=x from by omega,show(y.natAbs:Int)=y from by omega]
theorem Qp {x:Int}:sg (!decide (x<0)) ((x.natAbs:Nat):Int)= -x:=by
 by_cases h1:x<0<;>simp[h1,sg]<;>omega
theorem yP {a b:Int}(h:decide (dS a b≥0)=true):b≤a:=by
 simp only[decide_eq_true_eq] at h
 rcases Int.lt_trichotomy a b with h1|h1|h1
 ·rw[ew h1] at h;omega
 ·omega
 ·omega
theorem zW {a b:Int}(h:decide (dS a b≥0)=false):a<b:=by
 simp only[decide_eq_false_iff_not] at h
 rcases Int.lt_trichotomy a b with h1|h1|h1
 ·omega
 ·rw[hJ h1] at h;omega
 ·rw[eA h1] at h;omega
theorem yY {x y:Int}(hx:decide (x<0)=false) (hy: ¬(y<0)):dS x.natAbs y.natAbs=dS x y:=by
 simp only[decide_eq_false_iff_not] at hx
 rw[show(x.natAbs:Int)=x from by omega,show(y.natAbs:Int)=y from by omega]
theorem yJ {x y:Int}(hx:decide (x<0)=true) (hy:y<0):dS y.natAbs x.natAbs=dS x y:=by
 simp only[decide_eq_true_eq] at hx
 rw[show(y.natAbs:Int)= -y from by omega,show(x.natAbs:Int)= -x from by omega,CT]
theorem UD {x y:Int}:sg (!(decide (x<0)==decide (y<0))) (((((x.natAbs:Int)/y.natAbs).natAbs:Nat)):Int)=q0 x y:=by
 have:0≤(x.natAbs:Int)/y.natAbs:=Int.ediv_nonneg (by omega) (by omega)
 unfold q0
 rw[show((((x.natAbs:Int)/y.natAbs).natAbs:Nat):Int)=(x.natAbs:Int)/y.natAbs from by omega]
theorem TU {x y:Int}(h0:y≠0):sg (decide (x<0)) (((((x.natAbs:Int)%y.natAbs).natAbs:Nat)):Int)=r0 x y:=by
 have:=(B7 (x:=x) h0).1
 unfold r0
 rw[show((((x.natAbs:Int)%y.natAbs).natAbs:Nat):Int)=(x.natAbs:Int)%y.natAbs from by omega]
theorem FO {x y:Int}:(x.natAbs:Int)%y.natAbs=0↔r0 x y=0:=by
 unfold r0
 generalize decide (x<0)=s
 cases s
 ·rw[dj]
 ·rw[fH];omega
theorem Fn {x y:Int}(h0:y≠0) (h:(x.natAbs:Int)%y.natAbs≠0):(r0 x y<0↔x<0):=by
 have:=(B7 (x:=x) h0).1
 unfold r0
 by_cases hx:x<0
 ·rw[show decide (x<0)=true from by simpa using hx,fH];omega
 ·rw[show decide (x<0)=false from by simpa using hx,dj];omega
structure RG (x y a c:Int):Prop where
 sa:Sz 200000 a
 sc:Sz 200000 c
 a0:0≤a
 c0:0≤c
 g:Int.gcd a c=Int.gcd x y
theorem RG.start {x y:Int}(hx:Sz 200000 x) (hy:Sz 200000 y):RG x y (x.natAbs:Int) (y.natAbs:Int):=⟨hx.of_le (by omega),hy.of_le (by omega),by omega,by omega,rfl⟩
theorem RG.step {x y a c:Int}(h:RG x y a c) (hc:c≠0):RG x y c ((a.natAbs:Int)%c.natAbs):=by
 have h1:=h.a0
 have h2:=h.c0
 have e1:(a.natAbs:Int)=a:=by omega
 have e2:(c.natAbs:Int)=c:=by omega
 rw[e1,e2]
 have h3:=Int.emod_nonneg a hc
 have h4:=Int.emod_lt_of_pos a (show 0<c by omega)
 exact⟨h.sc,h.sc.of_le (by omega),h2,h3,by rw[←h.g,AH h1 h2]⟩
theorem RG.less {x y a c:Int}(h:RG x y a c) (hc:c≠0):((a.natAbs:Int)%c.natAbs).toNat<c.toNat:=by
 have:=h.c0
 have:=B7 (x:=a) hc
 omega
theorem RG.done {x y a c:Int}(h:RG x y a c) (hc:c=0):(Int.gcd x y:Int)=sg false ((a.natAbs:Nat):Int):=by
 rw[←h.g,hc,dj];simp
theorem FS {a:Int}(h:decide (((du a.natAbs).length:Int)>2)=false):a.natAbs≤18446744073709551615:=by
 simp only[decide_eq_false_iff_not] at h
 have h1:=eI (bW a.natAbs)
 rw[cz] at h1
 have h2:=lh (n:=(du a.natAbs).length) (m:=2) (by omega)
 have h3:pw 2=1000000000000000000:=by decide
 omega
theorem RG.word {x y a c:Int}(h:RG x y a c) (ha:a.natAbs≤18446744073709551615) (hc:c.natAbs≤18446744073709551615):GInv2 x y (a.natAbs:Int) (c.natAbs:Int):=
 ⟨by omega,by omega,by omega,by omega,by rw[←h.g];rfl⟩
theorem GInv2.fin {x y u v:Int}(h:GInv2 x y u v) (hv:v≤0):(Int.gcd x y:Int)=sg false ((u.natAbs:Nat):Int):=by
 rw[h.done hv,dj,dj];have:=h.u0;omega
theorem Sz.small3 {x:Int}(h0:0≤x) (h1:x≤18446744073709551615):Sz 1000000 x:=by
 have h3:pw 3=1000000000000000000000000000:=by decide
 have:Sz 3 x:=⟨by omega,by omega⟩
 exact this.mono (by decide)
theorem Sf {x y:Int}(hx:Sz 200000 x):Sz 1000000 ((x.natAbs:Int)/y.natAbs):=by
 have h1:(x.natAbs:Int)/(y.natAbs:Int)≤x.natAbs:=Int.ediv_le_self _ (by omega)
 have h2:0≤(x.natAbs:Int)/(y.natAbs:Int):=Int.ediv_nonneg (by omega) (by omega)
 exact(hx.mono (by decide)).of_le (by omega)
theorem T5 {x y:Int}(hy:Sz 200000 y) (h0:y≠0):Sz 1000000 ((x.natAbs:Int)%y.natAbs):=by
 have:=B7 (x:=x) h0
 exact(hy.mono (by decide)).of_le (by omega)
theorem BU {x:Int}(hn:x<0) (h0: -9223372036854775808≤x):IntKind.u64.wrap x=x+18446744073709551616:=by unfold IntKind.wrap;simp[IntKind.bits,IntKind.signed];omega
theorem xR {x:Int}(hn:x<0) (h0: -9223372036854775808≤x):IntKind.u64.wrap (0-(x+18446744073709551616))= -x:=by unfold IntKind.wrap;simp[IntKind.bits,IntKind.signed];omega
theorem dD {P:Program}{ops:Array Oper}{T:TF}{B:BF}{dst:Option Nat}{xt:TypeId}{x:Operand}{ty:TypeId}{pos:String}{af:Array Edge}{g:Option (Nat×Bool)}{k:IntKind}{m r:Int}
 (hx:di T x=some (.v (.c (.i k m)))) (hr:k.wrap (0-m)=r) (hg:gd ops ⟨dst,.unOp .neg xt x,ty,pos,af,g⟩ T=some true):
 Sem P ops ⟨dst,.unOp .neg xt x,ty,pos,af,g⟩ T B (.r (.v (.c (.i k r)))):=by subst hr;exact Oe hx hg
theorem Ec {x y:Int}(h:Sz 1000000 ((x.natAbs:Int)/y.natAbs)):Ok Tryz.prog 195 [.c (.b (!(decide (x<0)==decide (y<0)))),.c (cL ((x.natAbs:Int)/y.natAbs))] [dI (q0 x y)]:=by
 rw[←UD];exact gO h
theorem DZ {x y:Int}(h0:y≠0) (h:Sz 1000000 ((x.natAbs:Int)%y.natAbs)):Ok Tryz.prog 195 [.c (.b (decide (x<0))),.c (cL ((x.natAbs:Int)%y.natAbs))] [dI (r0 x y)]:=by
 rw[←TU h0];exact gO h
theorem J1 {x y:Int}(h:(decide (x<0)==decide (y<0))=true):(dS x.natAbs y.natAbs==0)=(x==y):=by
 have hs:x<0↔y<0:=by simpa using h
 rcases Int.lt_trichotomy (x.natAbs:Int) y.natAbs with h1|h1|h1
 ·rw[ew h1,show(x==y)=false from by simp only[beq_eq_false_iff_ne];omega];rfl
 ·rw[hJ h1,show(x==y)=true from by simp only[beq_iff_eq];omega];rfl
 ·rw[eA h1,show(x==y)=false from by simp only[beq_eq_false_iff_ne];omega];rfl
end Go.Proofs.YtkmdgigkbhmilaaGreat
