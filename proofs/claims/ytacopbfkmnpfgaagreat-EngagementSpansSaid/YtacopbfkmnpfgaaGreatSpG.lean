/-Package swarfref01:plus,minus. -/
import Derived.Test.YtacopbfkmnpfgaaGreatSpF
namespace Go.Proofs.YtacopbfkmnpfgaaGreat
open Go Go.RowKit
theorem DA {xs ys:List Int}(hLxs:Lim xs) (hLys:Lim ys) (hn:xs.length≤1000000) (hm:ys.length≤1000000):Ok Tryz.prog 304 [.c (cM xs),.c (cM ys)] [.c (cL (aE xs+aE ys))]:=by
 refine Ok.fn Tryz.func304 55 [.tmp 4] rfl<|aa<|ab<|ai<|aa<|aa<|ab<|ai ?_
 refine ay rfl (fun hc1=>?_) (fun hc1=>?_)
 ·have hlt:xs.length<ys.length:=by simp only[decide_eq_true_eq] at hc1;omega
  refine ab<|ai<|aa<|ab<|am 2 ?_
  refine ak (aJ (r:=(ys.length:Int)+1) rfl rfl (aT (by(first|omega|(simp;omega))) (by(first|omega|(simp;omega)))) rfl) ?_
  refine lH (iE (n:=ys.length+1) nn rfl rfl (by(first|omega|(simp;omega))) (by(first|omega|(simp;omega))) rfl) rfl ?_
  refine ai<|aa<|ab<|ai<|aa<|aa<|ab<|ai<|a8<|cz (ι:={t:Nat×Int×List Int // PInv ys xs t.1 t.2.1 t.2.2}) (fun i=>⟨55,[(0,.v (.c (cM ys))),(1,.v (.c (cM xs))),(5,.o 18 (ys.length+1) (ys.length+1)),(6,.v (.c (.i .u32 i.1.2.1))),(7,.v (.c (.i .i64 (i.1.1:Int))))],[(18,219,(i.1.2.2++List.replicate (ys.length+1-i.1.1) 0).map (CellD.i .u32))]⟩) (fun i=>ys.length-i.1.1) ⟨(0,0,[]),⟨Nat.zero_le _,Int.le_refl 0,by decide,Lim.nil,rfl,by simp[aE]⟩⟩ (aW ⟨rfl,rfl,rfl,rfl,rfl,trivial⟩ ⟨by rw[show(List.replicate (ys.length+1) (CellD.i .u32 0))=(([]:List Int)++List.replicate (ys.length+1-0) 0).map (CellD.i .u32) from by simp];rfl,trivial⟩ rfl) ?_
  rintro⟨⟨k,c,zs⟩,hI⟩
  replace hI:PInv ys xs k c zs:=hI
  have g1:=cg hLys k
  have g2:=cg hLxs k
  have g3:=hI.c0
  have g4:=hI.c1
  have g5:=hI.le
  have g6:=hI.len
  show Dw _ _ ⟨55,[(0,.v (.c (cM ys))),(1,.v (.c (cM xs))),(5,.o 18 (ys.length+1) (ys.length+1)),(6,.v (.c (.i .u32 c))),(7,.v (.c (.i .i64 (k:Int))))],[(18,219,(zs++List.replicate (ys.length+1-k) 0).map (CellD.i .u32))]⟩ _
  refine aa<|aa<|ab<|ai ?_
  refine ay rfl (fun hc2=>?_) (fun hc2=>?_)
  ·have hk:k<ys.length:=by simp only[decide_eq_true_eq] at hc2;omega
   refine aq<|aa<|a8<|aa<|ab<|am 3 ?_
   refine ak (bb fm rfl rfl (by(first|omega|(simp;omega))) (ft _) rfl rfl) ?_
   refine ak (b8 dB rfl (fW (i:=k) (by(first|omega|(simp;omega)))) rfl) ?_
   refine ak (aJ (r:=c+(ys.getD k 0)) rfl rfl (iv (by(first|omega|(simp;omega))) (by(first|omega|(simp;omega)))) rfl) ?_
   refine ai<|aa<|aa<|ab<|ai ?_
   refine ay rfl (fun hc3=>?_) (fun hc3=>?_)
   ·have hkq:k<xs.length:=by simp only[decide_eq_true_eq] at hc3;omega
    have hS:c+ys.getD k 0+xs.getD k 0=c+ys.getD k 0+xs.getD k 0:=rfl
    have hb:c+ys.getD k 0+xs.getD k 0≤4294967295:=by omega
    refine ab<|am 3 ?_
    refine ak (bb fm rfl rfl (by(first|omega|(simp;omega))) (ft _) rfl rfl) ?_
    refine ak (b8 dB rfl (fW (i:=k) (by(first|omega|(simp;omega)))) rfl) ?_
    refine ak (aJ (r:=(c+(ys.getD k 0))+(xs.getD k 0)) rfl rfl (iv (by(first|omega|(simp;omega))) (by(first|omega|(simp;omega)))) rfl) ?_
    refine ai<|aa<|ab<|am 3<|ak (dm (r:=(c+ys.getD k 0+xs.getD k 0)%1000000000) rfl rfl (by omega) (Int.tmod_eq_emod_of_nonneg (by omega)) rfl) ?_
    refine ak (ci fm rfl rfl (by(first|omega|(simp;omega))) rfl) ?_
    refine dd (bn (us:=((zs++List.replicate (ys.length+1-k) 0).set k ((c+ys.getD k 0+xs.getD k 0)%1000000000)).map (CellD.i .u32)) dB rfl rfl rfl rfl (by simp;omega) (jG (by(first|omega|(simp;omega)))) rfl) ?_
    refine ap<|ab<|am 1<|ak (fK (r:=(c+ys.getD k 0+xs.getD k 0)/1000000000) rfl rfl (by omega) (by rw[Int.tdiv_eq_ediv_of_nonneg (by omega)];exact ku (by omega) (by omega)) rfl) ?_
    refine ai<|ab<|am 1 ?_
    refine ak (aJ (r:=(k:Int)+1) rfl rfl (aT (by(first|omega|(simp;omega))) (by(first|omega|(simp;omega)))) rfl) ?_
    refine ai ?_
    exact⟨⟨(k+1,(c+ys.getD k 0+xs.getD k 0)/1000000000,zs++[(c+ys.getD k 0+xs.getD k 0)%1000000000]),hI.step hLys hLxs hk hS⟩,aW ⟨rfl,rfl,rfl,rfl,by rw[show((k+1:Nat):Int)=(k:Int)+1 from by omega];rfl,trivial⟩ ⟨by rw[show ys.length+1-(k+1)=ys.length-k from by omega,←gI (m:=ys.length-k) (d:=(c+ys.getD k 0+xs.getD k 0)%1000000000) g6,show ys.length-k+1=ys.length+1-k from by omega];rfl,trivial⟩ rfl,by show ys.length-(k+1)<ys.length-k;omega⟩
   ·have hkq: ¬k<xs.length:=by simp only[decide_eq_false_iff_not] at hc3;omega
    have hq0:xs.getD k 0=0:=by rw[List.getD,List.getElem?_eq_none (by omega)];rfl
    have hS:c+ys.getD k 0=c+ys.getD k 0+xs.getD k 0:=by omega
    refine aq<|aa<|ab<|am 3<|ak (dm (r:=(c+ys.getD k 0)%1000000000) rfl rfl (by omega) (Int.tmod_eq_emod_of_nonneg (by omega)) rfl) ?_
    refine ak (ci fm rfl rfl (by(first|omega|(simp;omega))) rfl) ?_
    refine dd (bn (us:=((zs++List.replicate (ys.length+1-k) 0).set k ((c+ys.getD k 0)%1000000000)).map (CellD.i .u32)) dB rfl rfl rfl rfl (by simp;omega) (jG (by(first|omega|(simp;omega)))) rfl) ?_
    refine ap<|ab<|am 1<|ak (fK (r:=(c+ys.getD k 0)/1000000000) rfl rfl (by omega) (by rw[Int.tdiv_eq_ediv_of_nonneg (by omega)];exact ku (by omega) (by omega)) rfl) ?_
    refine ai<|ab<|am 1 ?_
    refine ak (aJ (r:=(k:Int)+1) rfl rfl (aT (by(first|omega|(simp;omega))) (by(first|omega|(simp;omega)))) rfl) ?_
    refine ai ?_
    exact⟨⟨(k+1,(c+ys.getD k 0)/1000000000,zs++[(c+ys.getD k 0)%1000000000]),hI.step hLys hLxs hk hS⟩,aW ⟨rfl,rfl,rfl,rfl,by rw[show((k+1:Nat):Int)=(k:Int)+1 from by omega];rfl,trivial⟩ ⟨by rw[show ys.length+1-(k+1)=ys.length-k from by omega,←gI (m:=ys.length-k) (d:=(c+ys.getD k 0)%1000000000) g6,show ys.length-k+1=ys.length+1-k from by omega];rfl,trivial⟩ rfl,by show ys.length-(k+1)<ys.length-k;omega⟩
  ·have hk:k=ys.length:=by simp only[decide_eq_false_iff_not] at hc2;omega
   have hfin:(aE xs+aE ys:Int)=aE ((zs++List.replicate (ys.length+1-k) 0).set ys.length c):=by rw[show ys.length+1-k=0+1 from by omega,gI (by omega)];simp only[List.replicate_zero,List.append_nil];rw[hI.done hk (by omega)];omega
   have hLf:Lim ((zs++List.replicate (ys.length+1-k) 0).set ys.length c):=(hI.L.append (Lim.zeros _)).set g3 (by omega)
   refine cd<|aa<|ab<|am 4 ?_
   refine ak (ci fm rfl rfl (by(first|omega|(simp;omega))) rfl) ?_
   refine dd (bn (us:=((zs++List.replicate (ys.length+1-k) 0).set ys.length c).map (CellD.i .u32)) dB rfl rfl rfl rfl (by simp;omega) (jG (by(first|omega|(simp;omega)))) rfl) ?_
   refine ap<|aa ?_
   refine mF (t:=5) (zs:=(zs++List.replicate (ys.length+1-k) 0).set ys.length c) (ys:=(zs++List.replicate (ys.length+1-k) 0).set ys.length c) rfl rfl (by first|omega|(simp;omega)|simp) (by omega) (by omega) (List.take_of_length_le (by first|omega|(simp;omega)|simp)) ?_
   refine ab<|am 1<|ak (aj rfl (f8 hLf (by simp;omega)))<|ai<|al ?_
   rw[hfin]
   exact ao (aC ae)
 ·have hlt:ys.length≤xs.length:=by simp only[decide_eq_false_iff_not] at hc1;omega
  refine aq<|aa<|ab<|am 2 ?_
  refine ak (aJ (r:=(xs.length:Int)+1) rfl rfl (aT (by(first|omega|(simp;omega))) (by(first|omega|(simp;omega)))) rfl) ?_
  refine lH (iE (n:=xs.length+1) nn rfl rfl (by(first|omega|(simp;omega))) (by(first|omega|(simp;omega))) rfl) rfl ?_
  refine ai<|aa<|ab<|ai<|aa<|aa<|ab<|ai<|a8<|cz (ι:={t:Nat×Int×List Int // PInv xs ys t.1 t.2.1 t.2.2}) (fun i=>⟨55,[(0,.v (.c (cM xs))),(1,.v (.c (cM ys))),(5,.o 18 (xs.length+1) (xs.length+1)),(6,.v (.c (.i .u32 i.1.2.1))),(7,.v (.c (.i .i64 (i.1.1:Int))))],[(18,219,(i.1.2.2++List.replicate (xs.length+1-i.1.1) 0).map (CellD.i .u32))]⟩) (fun i=>xs.length-i.1.1) ⟨(0,0,[]),⟨Nat.zero_le _,Int.le_refl 0,by decide,Lim.nil,rfl,by simp[aE]⟩⟩ (aW ⟨rfl,rfl,rfl,rfl,rfl,trivial⟩ ⟨by rw[show(List.replicate (xs.length+1) (CellD.i .u32 0))=(([]:List Int)++List.replicate (xs.length+1-0) 0).map (CellD.i .u32) from by simp];rfl,trivial⟩ rfl) ?_
  rintro⟨⟨k,c,zs⟩,hI⟩
  replace hI:PInv xs ys k c zs:=hI
  have g1:=cg hLxs k
  have g2:=cg hLys k
  have g3:=hI.c0
  have g4:=hI.c1
  have g5:=hI.le
  have g6:=hI.len
  show Dw _ _ ⟨55,[(0,.v (.c (cM xs))),(1,.v (.c (cM ys))),(5,.o 18 (xs.length+1) (xs.length+1)),(6,.v (.c (.i .u32 c))),(7,.v (.c (.i .i64 (k:Int))))],[(18,219,(zs++List.replicate (xs.length+1-k) 0).map (CellD.i .u32))]⟩ _
  refine aa<|aa<|ab<|ai ?_
  refine ay rfl (fun hc4=>?_) (fun hc4=>?_)
  ·have hk:k<xs.length:=by simp only[decide_eq_true_eq] at hc4;omega
   refine aq<|aa<|a8<|aa<|ab<|am 3 ?_
   refine ak (bb fm rfl rfl (by(first|omega|(simp;omega))) (ft _) rfl rfl) ?_
   refine ak (b8 dB rfl (fW (i:=k) (by(first|omega|(simp;omega)))) rfl) ?_
   refine ak (aJ (r:=c+(xs.getD k 0)) rfl rfl (iv (by(first|omega|(simp;omega))) (by(first|omega|(simp;omega)))) rfl) ?_
   refine ai<|aa<|aa<|ab<|ai ?_
   refine ay rfl (fun hc5=>?_) (fun hc5=>?_)
   ·have hkq:k<ys.length:=by simp only[decide_eq_true_eq] at hc5;omega
    have hS:c+xs.getD k 0+ys.getD k 0=c+xs.getD k 0+ys.getD k 0:=rfl
    have hb:c+xs.getD k 0+ys.getD k 0≤4294967295:=by omega
    refine ab<|am 3 ?_
    refine ak (bb fm rfl rfl (by(first|omega|(simp;omega))) (ft _) rfl rfl) ?_
    refine ak (b8 dB rfl (fW (i:=k) (by(first|omega|(simp;omega)))) rfl) ?_
    refine ak (aJ (r:=(c+(xs.getD k 0))+(ys.getD k 0)) rfl rfl (iv (by(first|omega|(simp;omega))) (by(first|omega|(simp;omega)))) rfl) ?_
    refine ai<|aa<|ab<|am 3<|ak (dm (r:=(c+xs.getD k 0+ys.getD k 0)%1000000000) rfl rfl (by omega) (Int.tmod_eq_emod_of_nonneg (by omega)) rfl) ?_
    refine ak (ci fm rfl rfl (by(first|omega|(simp;omega))) rfl) ?_
    refine dd (bn (us:=((zs++List.replicate (xs.length+1-k) 0).set k ((c+xs.getD k 0+ys.getD k 0)%1000000000)).map (CellD.i .u32)) dB rfl rfl rfl rfl (by simp;omega) (jG (by(first|omega|(simp;omega)))) rfl) ?_
    refine ap<|ab<|am 1<|ak (fK (r:=(c+xs.getD k 0+ys.getD k 0)/1000000000) rfl rfl (by omega) (by rw[Int.tdiv_eq_ediv_of_nonneg (by omega)];exact ku (by omega) (by omega)) rfl) ?_
    refine ai<|ab<|am 1 ?_
    refine ak (aJ (r:=(k:Int)+1) rfl rfl (aT (by(first|omega|(simp;omega))) (by(first|omega|(simp;omega)))) rfl) ?_
    refine ai ?_
    exact⟨⟨(k+1,(c+xs.getD k 0+ys.getD k 0)/1000000000,zs++[(c+xs.getD k 0+ys.getD k 0)%1000000000]),hI.step hLxs hLys hk hS⟩,aW ⟨rfl,rfl,rfl,rfl,by rw[show((k+1:Nat):Int)=(k:Int)+1 from by omega];rfl,trivial⟩ ⟨by rw[show xs.length+1-(k+1)=xs.length-k from by omega,←gI (m:=xs.length-k) (d:=(c+xs.getD k 0+ys.getD k 0)%1000000000) g6,show xs.length-k+1=xs.length+1-k from by omega];rfl,trivial⟩ rfl,by show xs.length-(k+1)<xs.length-k;omega⟩
   ·have hkq: ¬k<ys.length:=by simp only[decide_eq_false_iff_not] at hc5;omega
    have hq0:ys.getD k 0=0:=by rw[List.getD,List.getElem?_eq_none (by omega)];rfl
    have hS:c+xs.getD k 0=c+xs.getD k 0+ys.getD k 0:=by omega
    refine aq<|aa<|ab<|am 3<|ak (dm (r:=(c+xs.getD k 0)%1000000000) rfl rfl (by omega) (Int.tmod_eq_emod_of_nonneg (by omega)) rfl) ?_
    refine ak (ci fm rfl rfl (by(first|omega|(simp;omega))) rfl) ?_
    refine dd (bn (us:=((zs++List.replicate (xs.length+1-k) 0).set k ((c+xs.getD k 0)%1000000000)).map (CellD.i .u32)) dB rfl rfl rfl rfl (by simp;omega) (jG (by(first|omega|(simp;omega)))) rfl) ?_
    refine ap<|ab<|am 1<|ak (fK (r:=(c+xs.getD k 0)/1000000000) rfl rfl (by omega) (by rw[Int.tdiv_eq_ediv_of_nonneg (by omega)];exact ku (by omega) (by omega)) rfl) ?_
    refine ai<|ab<|am 1 ?_
    refine ak (aJ (r:=(k:Int)+1) rfl rfl (aT (by(first|omega|(simp;omega))) (by(first|omega|(simp;omega)))) rfl) ?_
    refine ai ?_
    exact⟨⟨(k+1,(c+xs.getD k 0)/1000000000,zs++[(c+xs.getD k 0)%1000000000]),hI.step hLxs hLys hk hS⟩,aW ⟨rfl,rfl,rfl,rfl,by rw[show((k+1:Nat):Int)=(k:Int)+1 from by omega];rfl,trivial⟩ ⟨by rw[show xs.length+1-(k+1)=xs.length-k from by omega,←gI (m:=xs.length-k) (d:=(c+xs.getD k 0)%1000000000) g6,show xs.length-k+1=xs.length+1-k from by omega];rfl,trivial⟩ rfl,by show xs.length-(k+1)<xs.length-k;omega⟩
  ·have hk:k=xs.length:=by simp only[decide_eq_false_iff_not] at hc4;omega
   have hfin:(aE xs+aE ys:Int)=aE ((zs++List.replicate (xs.length+1-k) 0).set xs.length c):=by rw[show xs.length+1-k=0+1 from by omega,gI (by omega)];simp only[List.replicate_zero,List.append_nil];rw[hI.done hk (by omega)]
   have hLf:Lim ((zs++List.replicate (xs.length+1-k) 0).set xs.length c):=(hI.L.append (Lim.zeros _)).set g3 (by omega)
   refine cd<|aa<|ab<|am 4 ?_
   refine ak (ci fm rfl rfl (by(first|omega|(simp;omega))) rfl) ?_
   refine dd (bn (us:=((zs++List.replicate (xs.length+1-k) 0).set xs.length c).map (CellD.i .u32)) dB rfl rfl rfl rfl (by simp;omega) (jG (by(first|omega|(simp;omega)))) rfl) ?_
   refine ap<|aa ?_
   refine mF (t:=5) (zs:=(zs++List.replicate (xs.length+1-k) 0).set xs.length c) (ys:=(zs++List.replicate (xs.length+1-k) 0).set xs.length c) rfl rfl (by first|omega|(simp;omega)|simp) (by omega) (by omega) (List.take_of_length_le (by first|omega|(simp;omega)|simp)) ?_
   refine ab<|am 1<|ak (aj rfl (f8 hLf (by simp;omega)))<|ai<|al ?_
   rw[hfin]
   exact ao (aC ae)
theorem CZ {xs ys:List Int}(hLxs:Lim xs) (hLys:Lim ys) (hn:xs.length≤1000000) (hlen:ys.length≤xs.length) (hle:aE ys≤aE xs):Ok Tryz.prog 305 [.c (cM xs),.c (cM ys)] [.c (cL (aE xs-aE ys))]:=by
 refine Ok.fn Tryz.func305 45 [.tmp 4] rfl<|aa<|ab<|ai<|aa<|ab<|am 2 ?_
 refine lH (iE (n:=xs.length) nn rfl rfl (by(first|omega|(simp;omega))) (by(first|omega|(simp;omega))) rfl) rfl ?_
 refine ai<|aa<|ab<|ai<|aa<|aa<|ab<|ai<|a8<|cz (ι:={t:Nat×Int×List Int // SInv xs ys t.1 t.2.1 t.2.2}) (fun i=>⟨45,[(0,.v (.c (cM xs))),(1,.v (.c (cM ys))),(5,.o 11 xs.length xs.length),(6,.v (.c (.i .u32 i.1.2.1))),(7,.v (.c (.i .i64 (i.1.1:Int))))],[(11,219,(i.1.2.2++List.replicate (xs.length-i.1.1) 0).map (CellD.i .u32))]⟩) (fun i=>xs.length-i.1.1) ⟨(0,0,[]),⟨Nat.zero_le _,Int.le_refl 0,by decide,Lim.nil,rfl,by simp[aE]⟩⟩ (aW ⟨rfl,rfl,rfl,rfl,rfl,trivial⟩ ⟨by rw[show(List.replicate xs.length (CellD.i .u32 0))=(([]:List Int)++List.replicate (xs.length-0) 0).map (CellD.i .u32) from by simp];rfl,trivial⟩ rfl) ?_
 rintro⟨⟨k,c,zs⟩,hI⟩
 replace hI:SInv xs ys k c zs:=hI
 have g1:=cg hLxs k
 have g2:=cg hLys k
 have g3:=hI.c0
 have g4:=hI.c1
 have g5:=hI.le
 have g6:=hI.len
 show Dw _ _ ⟨45,[(0,.v (.c (cM xs))),(1,.v (.c (cM ys))),(5,.o 11 xs.length xs.length),(6,.v (.c (.i .u32 c))),(7,.v (.c (.i .i64 (k:Int))))],[(11,219,(zs++List.replicate (xs.length-k) 0).map (CellD.i .u32))]⟩ _
 refine aa<|aa<|ab<|ai ?_
 refine ay rfl (fun hc1=>?_) (fun hc1=>?_)
 ·have hk:k<xs.length:=by simp only[decide_eq_true_eq] at hc1;omega
  refine aq<|aa<|a8<|aa<|ab<|am 2 ?_
  refine ak (bb fm rfl rfl (by(first|omega|(simp;omega))) (ft _) rfl rfl) ?_
  refine ak (b8 dB rfl (fW (i:=k) (by(first|omega|(simp;omega)))) rfl) ?_
  refine ak (aJ (r:=(xs.getD k 0)+1000000000) rfl rfl (iv (by(first|omega|(simp;omega))) (by(first|omega|(simp;omega)))) rfl) ?_
  refine am 1 ?_
  refine ak (aJ (r:=((xs.getD k 0)+1000000000)-c) rfl rfl (jD (by(first|omega|(simp;omega))) (by(first|omega|(simp;omega)))) rfl) ?_
  refine ai<|aa<|aa<|ab<|ai ?_
  refine ay rfl (fun hc2=>?_) (fun hc2=>?_)
  ·have hkq:k<ys.length:=by simp only[decide_eq_true_eq] at hc2;omega
   refine ab<|am 3 ?_
   refine ak (bb fm rfl rfl (by(first|omega|(simp;omega))) (ft _) rfl rfl) ?_
   refine ak (b8 dB rfl (fW (i:=k) (by(first|omega|(simp;omega)))) rfl) ?_
   refine ak (aJ (r:=(((xs.getD k 0)+1000000000)-c)-(ys.getD k 0)) rfl rfl (jD (by(first|omega|(simp;omega))) (by(first|omega|(simp;omega)))) rfl) ?_
   refine ai<|aa<|ab<|ai<|aa<|aa<|ab<|ai ?_
   refine ay rfl (fun hc3=>?_) (fun hc3=>?_)
   ·simp only[decide_eq_true_eq] at hc3
    have hd1:0≤xs.getD k 0+1000000000-c-ys.getD k 0-1000000000:=by omega
    have hd2:xs.getD k 0+1000000000-c-ys.getD k 0-1000000000<1000000000:=by omega
    have hd3:(0:Int)≤0:=by omega
    have hd4:(0:Int)≤1:=by omega
    have hdS:xs.getD k 0+1000000000-c-ys.getD k 0-1000000000-1000000000*0=xs.getD k 0-c-ys.getD k 0:=by omega
    refine ab<|am 1 ?_
    refine ak (aJ (r:=((((xs.getD k 0)+1000000000)-c)-(ys.getD k 0))-1000000000) rfl rfl (jD (by(first|omega|(simp;omega))) (by(first|omega|(simp;omega)))) rfl) ?_
    refine ai<|ab<|am 3 ?_
    refine ak (ci fm rfl rfl (by(first|omega|(simp;omega))) rfl) ?_
    refine dd (bn (us:=((zs++List.replicate (xs.length-k) 0).set k (((((xs.getD k 0)+1000000000)-c)-(ys.getD k 0))-1000000000)).map (CellD.i .u32)) dB rfl rfl rfl rfl (by simp;omega) (jG (by(first|omega|(simp;omega)))) rfl) ?_
    refine ap<|ab<|am 1 ?_
    refine ak (aJ (r:=(k:Int)+1) rfl rfl (aT (by(first|omega|(simp;omega))) (by(first|omega|(simp;omega)))) rfl) ?_
    refine ai ?_
    exact⟨⟨(k+1,0,zs++[xs.getD k 0+1000000000-c-ys.getD k 0-1000000000]),hI.step hk hd1 hd2 hd3 hd4 hdS⟩,aW ⟨rfl,rfl,rfl,rfl,by rw[show((k+1:Nat):Int)=(k:Int)+1 from by omega];rfl,trivial⟩ ⟨by rw[show xs.length-(k+1)=xs.length-k-1 from by omega,←gI (m:=xs.length-k-1) (d:=xs.getD k 0+1000000000-c-ys.getD k 0-1000000000) g6,show xs.length-k-1+1=xs.length-k from by omega];rfl,trivial⟩ rfl,by show xs.length-(k+1)<xs.length-k;omega⟩
   ·simp only[decide_eq_false_iff_not] at hc3
    have hd1:0≤xs.getD k 0+1000000000-c-ys.getD k 0:=by omega
    have hd2:xs.getD k 0+1000000000-c-ys.getD k 0<1000000000:=by omega
    have hd3:(0:Int)≤1:=by omega
    have hd4:(1:Int)≤1:=by omega
    have hdS:xs.getD k 0+1000000000-c-ys.getD k 0-1000000000*1=xs.getD k 0-c-ys.getD k 0:=by omega
    refine aq<|ab<|am 3 ?_
    refine ak (ci fm rfl rfl (by(first|omega|(simp;omega))) rfl) ?_
    refine dd (bn (us:=((zs++List.replicate (xs.length-k) 0).set k ((((xs.getD k 0)+1000000000)-c)-(ys.getD k 0))).map (CellD.i .u32)) dB rfl rfl rfl rfl (by simp;omega) (jG (by(first|omega|(simp;omega)))) rfl) ?_
    refine ap<|ab<|am 1 ?_
    refine ak (aJ (r:=(k:Int)+1) rfl rfl (aT (by(first|omega|(simp;omega))) (by(first|omega|(simp;omega)))) rfl) ?_
    refine ai ?_
    exact⟨⟨(k+1,1,zs++[xs.getD k 0+1000000000-c-ys.getD k 0]),hI.step hk hd1 hd2 hd3 hd4 hdS⟩,aW ⟨rfl,rfl,rfl,rfl,by rw[show((k+1:Nat):Int)=(k:Int)+1 from by omega];rfl,trivial⟩ ⟨by rw[show xs.length-(k+1)=xs.length-k-1 from by omega,←gI (m:=xs.length-k-1) (d:=xs.getD k 0+1000000000-c-ys.getD k 0) g6,show xs.length-k-1+1=xs.length-k from by omega];rfl,trivial⟩ rfl,by show xs.length-(k+1)<xs.length-k;omega⟩
  ·have hkq: ¬k<ys.length:=by simp only[decide_eq_false_iff_not] at hc2;omega
   have hq0:ys.getD k 0=0:=by rw[List.getD,List.getElem?_eq_none (by omega)];rfl
   refine aq<|aa<|ab<|ai<|aa<|aa<|ab<|ai ?_
   refine ay rfl (fun hc4=>?_) (fun hc4=>?_)
   ·simp only[decide_eq_true_eq] at hc4
    have hd1:0≤xs.getD k 0+1000000000-c-1000000000:=by omega
    have hd2:xs.getD k 0+1000000000-c-1000000000<1000000000:=by omega
    have hd3:(0:Int)≤0:=by omega
    have hd4:(0:Int)≤1:=by omega
    have hdS:xs.getD k 0+1000000000-c-1000000000-1000000000*0=xs.getD k 0-c-ys.getD k 0:=by omega
    refine ab<|am 1 ?_
    refine ak (aJ (r:=(((xs.getD k 0)+1000000000)-c)-1000000000) rfl rfl (jD (by(first|omega|(simp;omega))) (by(first|omega|(simp;omega)))) rfl) ?_
    refine ai<|ab<|am 3 ?_
    refine ak (ci fm rfl rfl (by(first|omega|(simp;omega))) rfl) ?_
    refine dd (bn (us:=((zs++List.replicate (xs.length-k) 0).set k ((((xs.getD k 0)+1000000000)-c)-1000000000)).map (CellD.i .u32)) dB rfl rfl rfl rfl (by simp;omega) (jG (by(first|omega|(simp;omega)))) rfl) ?_
    refine ap<|ab<|am 1 ?_
    refine ak (aJ (r:=(k:Int)+1) rfl rfl (aT (by(first|omega|(simp;omega))) (by(first|omega|(simp;omega)))) rfl) ?_
    refine ai ?_
    exact⟨⟨(k+1,0,zs++[xs.getD k 0+1000000000-c-1000000000]),hI.step hk hd1 hd2 hd3 hd4 hdS⟩,aW ⟨rfl,rfl,rfl,rfl,by rw[show((k+1:Nat):Int)=(k:Int)+1 from by omega];rfl,trivial⟩ ⟨by rw[show xs.length-(k+1)=xs.length-k-1 from by omega,←gI (m:=xs.length-k-1) (d:=xs.getD k 0+1000000000-c-1000000000) g6,show xs.length-k-1+1=xs.length-k from by omega];rfl,trivial⟩ rfl,by show xs.length-(k+1)<xs.length-k;omega⟩
   ·simp only[decide_eq_false_iff_not] at hc4
    have hd1:0≤xs.getD k 0+1000000000-c:=by omega
    have hd2:xs.getD k 0+1000000000-c<1000000000:=by omega
    have hd3:(0:Int)≤1:=by omega
    have hd4:(1:Int)≤1:=by omega
    have hdS:xs.getD k 0+1000000000-c-1000000000*1=xs.getD k 0-c-ys.getD k 0:=by omega
    refine aq<|ab<|am 3 ?_
    refine ak (ci fm rfl rfl (by(first|omega|(simp;omega))) rfl) ?_
    refine dd (bn (us:=((zs++List.replicate (xs.length-k) 0).set k (((xs.getD k 0)+1000000000)-c)).map (CellD.i .u32)) dB rfl rfl rfl rfl (by simp;omega) (jG (by(first|omega|(simp;omega)))) rfl) ?_
    refine ap<|ab<|am 1 ?_
    refine ak (aJ (r:=(k:Int)+1) rfl rfl (aT (by(first|omega|(simp;omega))) (by(first|omega|(simp;omega)))) rfl) ?_
    refine ai ?_
    exact⟨⟨(k+1,1,zs++[xs.getD k 0+1000000000-c]),hI.step hk hd1 hd2 hd3 hd4 hdS⟩,aW ⟨rfl,rfl,rfl,rfl,by rw[show((k+1:Nat):Int)=(k:Int)+1 from by omega];rfl,trivial⟩ ⟨by rw[show xs.length-(k+1)=xs.length-k-1 from by omega,←gI (m:=xs.length-k-1) (d:=xs.getD k 0+1000000000-c) g6,show xs.length-k-1+1=xs.length-k from by omega];rfl,trivial⟩ rfl,by show xs.length-(k+1)<xs.length-k;omega⟩
 ·have hk:k=xs.length:=by simp only[decide_eq_false_iff_not] at hc1;omega
  have hfin:aE xs-aE ys=aE (zs++List.replicate (xs.length-k) 0):=by rw[show xs.length-k=0 from by omega];simp only[List.replicate_zero,List.append_nil];rw[hI.done hk hlen hle]
  have hLf:Lim (zs++List.replicate (xs.length-k) 0):=hI.L.append (Lim.zeros _)
  refine cd<|aa ?_
  refine mF (t:=5) (zs:=zs++List.replicate (xs.length-k) 0) (ys:=zs++List.replicate (xs.length-k) 0) rfl rfl (by first|omega|(simp;omega)|simp) (by omega) (by omega) (List.take_of_length_le (by first|omega|(simp;omega)|simp)) ?_
  refine ab<|am 1<|ak (aj rfl (f8 hLf (by simp;omega)))<|ai<|al ?_
  rw[hfin]
  exact ao (aC ae)
theorem tq {xs ys:List Int}(hLxs:Lim xs) (hLys:Lim ys) (hn:xs.length≤1000000) (hm:ys.length≤1000000):Ok Tryz.prog 230 [.c (cM xs),.c (cM ys)] [.c (cL (aE xs*aE ys))]:=by
 refine Ok.fn Tryz.func230 68 [.tmp 4] rfl<|aa<|ab<|ai<|aa<|ab<|am 4 ?_
 refine ak (aJ (r:=(xs.length:Int)+(ys.length:Int)) rfl rfl (aT (by(first|omega|(simp;omega))) (by(first|omega|(simp;omega)))) rfl) ?_
 refine lH (iE (n:=xs.length+ys.length) nn rfl rfl (by(first|omega|(simp;omega))) (by(first|omega|(simp;omega))) rfl) rfl ?_
 refine ai<|aa<|aa<|ab<|ai<|a8<|cz (ι:={t:Nat×List Int // TInv xs ys t.1 0 0 t.2}) (fun i=>⟨68,[(0,.v (.c (cM xs))),(1,.v (.c (cM ys))),(5,.o 14 (xs.length+ys.length) (xs.length+ys.length)),(6,.v (.c (.i .i64 (i.1.1:Int))))],[(14,219,i.1.2.map (CellD.i .u32))]⟩) (fun i=>xs.length-i.1.1) ⟨(0,List.replicate (xs.length+ys.length) 0),TInv.start⟩ (aW ⟨rfl,rfl,rfl,rfl,trivial⟩ ⟨by rw[show(List.replicate (xs.length+ys.length) (CellD.i .u32 0))=(List.replicate (xs.length+ys.length) 0).map (CellD.i .u32) from by simp];rfl,trivial⟩ rfl) ?_
 rintro⟨⟨j,zs⟩,hI⟩
 replace hI:TInv xs ys j 0 0 zs:=hI
 have g5:=hI.ik
 have g6:=hI.len
 show Dw _ _ ⟨68,[(0,.v (.c (cM xs))),(1,.v (.c (cM ys))),(5,.o 14 (xs.length+ys.length) (xs.length+ys.length)),(6,.v (.c (.i .i64 (j:Int))))],[(14,219,zs.map (CellD.i .u32))]⟩ _
 refine aa<|aa<|ab<|ai ?_
 refine ay rfl (fun hc1=>?_) (fun hc1=>?_)
 ·have hj:j<xs.length:=by simp only[decide_eq_true_eq] at hc1;omega
  refine aq<|aa<|a8<|aa<|ab<|ai<|aa<|aa<|ab<|ai<|a8<|cz (ι:={t:Nat×Int×List Int // TInv xs ys j t.1 t.2.1 t.2.2}) (fun i=>⟨68,[(0,.v (.c (cM xs))),(1,.v (.c (cM ys))),(5,.o 14 (xs.length+ys.length) (xs.length+ys.length)),(6,.v (.c (.i .i64 (j:Int)))),(7,.v (.c (.i .u64 i.1.2.1))),(8,.v (.c (.i .i64 (i.1.1:Int))))],[(14,219,i.1.2.2.map (CellD.i .u32))]⟩) (fun i=>ys.length-i.1.1) ⟨(0,0,zs),hI⟩ (aW ⟨rfl,rfl,rfl,rfl,rfl,rfl,trivial⟩ ⟨rfl,trivial⟩ rfl) ?_
  clear hI g6
  rintro⟨⟨k,c,zs⟩,hI⟩
  replace hI:TInv xs ys j k c zs:=hI
  have g1:=cg hLxs j
  have g2:=cg hLys k
  have g8:=cg hI.L (j+k)
  have g3:=hI.c0
  have g4:=hI.c1
  have g5:=hI.ik
  have g7:=hI.kk
  have g6:=hI.len
  show Dw _ _ ⟨68,[(0,.v (.c (cM xs))),(1,.v (.c (cM ys))),(5,.o 14 (xs.length+ys.length) (xs.length+ys.length)),(6,.v (.c (.i .i64 (j:Int)))),(7,.v (.c (.i .u64 c))),(8,.v (.c (.i .i64 (k:Int))))],[(14,219,zs.map (CellD.i .u32))]⟩ _
  refine aa<|aa<|ab<|ai ?_
  refine ay rfl (fun hc2=>?_) (fun hc2=>?_)
  ·have hk:k<ys.length:=by simp only[decide_eq_true_eq] at hc2;omega
   have hm0:0≤xs.getD j 0*ys.getD k 0:=Int.mul_nonneg g1.1 g2.1
   have hm1:xs.getD j 0*ys.getD k 0≤999999999*999999999:=Int.mul_le_mul (by omega) (by omega) g2.1 (by omega)
   refine aq<|aa<|a8<|aa<|aN 22 rfl rfl<|an 4<|ag (aJ (r:=(j:Int)+(k:Int)) rfl rfl (aT (by omega) (by omega)) rfl) ?_
   refine ag (ci fm rfl rfl (by(first|omega|(simp;omega))) rfl) ?_
   refine ag (ez dB rfl rfl (M4 (i:=j+k) (by(first|omega|(simp;omega)))) rfl) ?_
   refine ag (bF (r:=zs.getD (j+k) 0) fB dH rfl (fa (by(first|omega|(simp;omega))) (by(first|omega|(simp;omega)))) rfl) ?_
   refine ag (aJ (r:=c+(zs.getD (j+k) 0)) rfl rfl (dL (by(first|omega|(simp;omega))) (by(first|omega|(simp;omega)))) rfl) ?_
   refine an 2 ?_
   refine ag (bb fm rfl rfl (by(first|omega|(simp;omega))) (ft _) rfl rfl) ?_
   refine ag (b8 dB rfl (fW (i:=j) (by(first|omega|(simp;omega)))) rfl) ?_
   refine ag (bF (r:=xs.getD j 0) fB dH rfl (fa (by(first|omega|(simp;omega))) (by(first|omega|(simp;omega)))) rfl) ?_
   refine an 2 ?_
   refine ag (bb fm rfl rfl (by(first|omega|(simp;omega))) (ft _) rfl rfl) ?_
   refine ag (b8 dB rfl (fW (i:=k) (by(first|omega|(simp;omega)))) rfl) ?_
   refine ag (bF (r:=ys.getD k 0) fB dH rfl (fa (by(first|omega|(simp;omega))) (by(first|omega|(simp;omega)))) rfl) ?_
   refine ag (aJ (r:=(xs.getD j 0)*(ys.getD k 0)) rfl rfl (eA (by(first|omega|(simp;omega))) (by(first|omega|(simp;omega)))) rfl) ?_
   refine ag (aJ (r:=(c+(zs.getD (j+k) 0))+((xs.getD j 0)*(ys.getD k 0))) rfl rfl (dL (by(first|omega|(simp;omega))) (by(first|omega|(simp;omega)))) rfl) ?_
   refine bK<|ar<|ap<|aa<|ab<|am 3<|ak (aJ (r:=(j:Int)+(k:Int)) rfl rfl (aT (by omega) (by omega)) rfl) ?_
   refine am 1<|ak (dm (r:=(c+zs.getD (j+k) 0+xs.getD j 0*ys.getD k 0)%1000000000) rfl rfl (by omega) (Int.tmod_eq_emod_of_nonneg (by omega)) rfl) ?_
   refine ak (bF (r:=(c+zs.getD (j+k) 0+xs.getD j 0*ys.getD k 0)%1000000000) dH fB rfl (ku (by omega) (by omega)) rfl) ?_
   refine ak (ci fm rfl rfl (by(first|omega|(simp;omega))) rfl) ?_
   refine dd (bn (us:=(zs.set (j+k) ((c+zs.getD (j+k) 0+xs.getD j 0*ys.getD k 0)%1000000000)).map (CellD.i .u32)) dB rfl rfl rfl rfl (by simp;omega) (jG (by(first|omega|(simp;omega)))) rfl) ?_
   refine ap<|ab<|am 1<|ak (fK (r:=(c+zs.getD (j+k) 0+xs.getD j 0*ys.getD k 0)/1000000000) rfl rfl (by omega) (by rw[Int.tdiv_eq_ediv_of_nonneg (by omega)];exact fa (by omega) (by omega)) rfl) ?_
   refine ai<|ab<|am 1 ?_
   refine ak (aJ (r:=(k:Int)+1) rfl rfl (aT (by(first|omega|(simp;omega))) (by(first|omega|(simp;omega)))) rfl) ?_
   refine ai ?_
   exact⟨⟨(k+1,(c+zs.getD (j+k) 0+xs.getD j 0*ys.getD k 0)/1000000000,zs.set (j+k) ((c+zs.getD (j+k) 0+xs.getD j 0*ys.getD k 0)%1000000000)),hI.step hLxs hLys hj hk rfl⟩,aW ⟨rfl,rfl,rfl,rfl,rfl,by rw[show((k+1:Nat):Int)=(k:Int)+1 from by omega];rfl,trivial⟩ ⟨rfl,trivial⟩ rfl,by show ys.length-(k+1)<ys.length-k;omega⟩
  ·have hk:k=ys.length:=by simp only[decide_eq_false_iff_not] at hc2;omega
   refine cd<|ab<|am 4 ?_
   refine ak (aJ (r:=(j:Int)+(ys.length:Int)) rfl rfl (aT (by(first|omega|(simp;omega))) (by(first|omega|(simp;omega)))) rfl) ?_
   refine am 1<|ak (bF (r:=c) dH fB rfl (ku (by omega) (by omega)) rfl) ?_
   refine ak (ci fm rfl rfl (by(first|omega|(simp;omega))) rfl) ?_
   refine dd (bn (us:=(zs.set (j+ys.length) c).map (CellD.i .u32)) dB rfl rfl rfl rfl (by simp;omega) (jG (by(first|omega|(simp;omega)))) rfl) ?_
   refine ap<|ab<|am 1 ?_
   refine ak (aJ (r:=(j:Int)+1) rfl rfl (aT (by(first|omega|(simp;omega))) (by(first|omega|(simp;omega)))) rfl) ?_
   refine ai ?_
   exact⟨⟨(j+1,zs.set (j+ys.length) c),hI.row hj hk⟩,aW ⟨rfl,rfl,rfl,by rw[show((j+1:Nat):Int)=(j:Int)+1 from by omega];rfl,trivial⟩ ⟨rfl,trivial⟩ rfl,by show xs.length-(j+1)<xs.length-j;omega⟩
 ·have hj:j=xs.length:=by simp only[decide_eq_false_iff_not] at hc1;omega
  have hfin:aE xs*aE ys=aE zs:=(hI.done hj).symm
  have hLf:Lim zs:=hI.L
  refine cd<|aa ?_
  refine mF (t:=5) (zs:=zs) (ys:=zs) rfl rfl (by first|omega|(simp;omega)|simp) (by omega) (by omega) (List.take_of_length_le (by first|omega|(simp;omega)|simp)) ?_
  refine ab<|am 1<|ak (aj rfl (f8 hLf (by omega)))<|ai<|al ?_
  rw[hfin]
  exact ao (aC ae)
theorem zx {xs:List Int}{m:Int}(hLxs:Lim xs) (hn:xs.length≤1000000) (h0:0≤m) (h1:m<1000000000):Ok Tryz.prog 348 [.c (cM xs),.c (.i .u32 m)] [.c (cL (aE xs*m))]:=by
 have hv1:aE [m]=m:=by simp[aE]
 refine Ok.fn Tryz.func348 10 [.tmp 4] rfl<|aa<|ab<|ai<|aa<|ab<|am 2<|ak (nD nn rfl rfl) ?_
 refine ak (aj rfl (f8 (Lim.nil.cons h0 h1) (Nat.le_of_ble_eq_true rfl)))<|ak (aj rfl (tq hLxs (bp _) hn (ep (x:=aE [m]) (k:=1000000) (by rw[hv1];exact Sz.small (by omega) (by omega) (by omega)))))<|ai<|al ?_
 rw[show aE xs*m=aE xs*aE (cb (aE [m]).natAbs) from by rw[bD,show(((aE [m]).natAbs:Nat):Int)=m from by simp[aE];omega]]
 exact ao (aC ae)
theorem wF {xs ys:List Int}(hLxs:Lim xs) (hLys:Lim ys) (nX:Nrm xs) (nY:Nrm ys) (hn:xs.length≤1000000) (_hm:ys.length≤1000000):Ok Tryz.prog 218 [.c (cM xs),.c (cM ys)] [.c (.i .i64 (cK (aE xs) (aE ys)))]:=by
 refine Ok.fn Tryz.func218 41 [.tmp 4] rfl<|aa<|ab<|ai<|aa<|aa<|ab<|ai ?_
 refine ay rfl (fun hc1=>?_) (fun hc1=>?_)
 ·have hne:xs.length≠ys.length:=by simp only[bne_iff_ne,ne_eq] at hc1;omega
  refine aa<|aa<|ab<|ai ?_
  refine ay rfl (fun hc2=>?_) (fun hc2=>?_)
  ·have hfin:cK (aE xs) (aE ys)= -1:=dj (qL nY hLxs hLys (by simp only[decide_eq_true_eq] at hc2;omega))
   refine aa<|ab<|ai<|al ?_
   rw[hfin]
   exact ao (aC ae)
  ·have hfin:cK (aE xs) (aE ys)=1:=dt (qL nX hLys hLxs (by simp only[decide_eq_false_iff_not] at hc2;omega))
   refine aq<|aa<|ab<|ai<|al ?_
   rw[hfin]
   exact ao (aC ae)
 ·have heq:xs.length=ys.length:=by simp only[bne_eq_false_iff_eq] at hc1;omega
  refine aq<|aa<|aa<|ab<|am 2 ?_
  refine ak (aJ (r:=(xs.length:Int)-1) rfl rfl (cj (by(first|omega|(simp;omega))) (by(first|omega|(simp;omega)))) rfl) ?_
  refine ai<|a8<|cz (ι:={j:Nat // j≤xs.length∧xs.drop j=ys.drop j}) (fun i=>⟨41,[(0,.v (.c (cM xs))),(1,.v (.c (cM ys))),(5,.v (.c (.i .i64 ((i.1:Int)-1))))],[]⟩) (fun i=>i.1) ⟨xs.length,Nat.le_refl _,by rw[List.drop_eq_nil_of_le (Nat.le_refl _),List.drop_eq_nil_of_le (by omega)]⟩ (aW ⟨rfl,rfl,rfl,trivial⟩ trivial rfl) ?_
  rintro⟨j,hj,hD⟩
  show Dw _ _ ⟨41,[(0,.v (.c (cM xs))),(1,.v (.c (cM ys))),(5,.v (.c (.i .i64 ((j:Int)-1))))],[]⟩ _
  refine aa<|aa<|ab<|ai ?_
  refine ay rfl (fun hc3=>?_) (fun hc3=>?_)
  ·obtain⟨q,rfl⟩: ∃q,j=q+1:=⟨j-1,by simp only[decide_eq_true_eq] at hc3;omega⟩
   have e1:=getD_some (xs:=xs) (i:=q) (by omega)
   have e2:=getD_some (xs:=ys) (i:=q) (by omega)
   refine Dw.weak (σ':=⟨41,[(0,.v (.c (cM xs))),(1,.v (.c (cM ys))),(5,.v (.c (.i .i64 (q:Int))))],[]⟩) (aW ⟨rfl,rfl,by rw[show(q:Int)=((q+1:Nat):Int)-1 from by omega];rfl,trivial⟩ trivial rfl) ?_
   refine aq<|aa<|a8<|aa<|aa<|aN 9 rfl rfl<|an 2 ?_
   refine ag (bb fm rfl rfl (by(first|omega|(simp;omega))) (ft _) rfl rfl) ?_
   refine ag (b8 dB rfl (fW (i:=q) (by(first|omega|(simp;omega)))) rfl) ?_
   refine an 2 ?_
   refine ag (bb fm rfl rfl (by(first|omega|(simp;omega))) (ft _) rfl rfl) ?_
   refine ag (b8 dB rfl (fW (i:=q) (by(first|omega|(simp;omega)))) rfl) ?_
   refine bK<|ar<|ap ?_
   refine ay rfl (fun hc4=>?_) (fun hc4=>?_)
   ·have hfin:cK (aE xs) (aE ys)= -1:=dj (vG hLxs hLys e1 e2 hD (by simpa using hc4))
    refine aa<|ab<|ai<|al ?_
    rw[hfin]
    exact ao (aC ae)
   ·have hlt: ¬xs.getD q 0<ys.getD q 0:=by simpa using hc4
    refine aq<|aa<|aN 9 rfl rfl<|an 2 ?_
    refine ag (bb fm rfl rfl (by(first|omega|(simp;omega))) (ft _) rfl rfl) ?_
    refine ag (b8 dB rfl (fW (i:=q) (by(first|omega|(simp;omega)))) rfl) ?_
    refine an 2 ?_
    refine ag (bb fm rfl rfl (by(first|omega|(simp;omega))) (ft _) rfl rfl) ?_
    refine ag (b8 dB rfl (fW (i:=q) (by(first|omega|(simp;omega)))) rfl) ?_
    refine bK<|ar<|ap ?_
    refine ay rfl (fun hc5=>?_) (fun hc5=>?_)
    ·have hfin:cK (aE xs) (aE ys)=1:=dt (vG hLys hLxs e2 e1 hD.symm (by simpa using hc5))
     refine aa<|ab<|ai<|al ?_
     rw[hfin]
     exact ao (aC ae)
    ·have hgt: ¬xs.getD q 0>ys.getD q 0:=by simpa using hc5
     refine aq<|ab<|am 1 ?_
     refine ak (aJ (r:=(q:Int)-1) rfl rfl (cj (by(first|omega|(simp;omega))) (by(first|omega|(simp;omega)))) rfl) ?_
     refine ai ?_
     exact⟨⟨q,by omega,CP (by omega) (by omega) hD (by omega)⟩,aW ⟨rfl,rfl,rfl,trivial⟩ trivial rfl,by show q<q+1;omega⟩
  ·have hz:j=0:=by simp only[decide_eq_false_iff_not] at hc3;omega
   have hfin:cK (aE xs) (aE ys)=0:=by subst hz;simp only[List.drop_zero] at hD;rw[hD];exact fl rfl
   refine cd<|aa<|ab<|ai<|al ?_
   rw[hfin]
   exact ao (aC ae)
theorem pn {xs:List Int}(hLxs:Lim xs) (hn:xs.length≤1000000) (hb:aE xs≤18446744073709551615):Ok Tryz.prog 299 [.c (cM xs)] [.c (.i .u64 (aE xs))]:=by
 refine Ok.fn Tryz.func299 21 [.tmp 2] rfl<|aa<|ab<|ai<|aa<|ab<|ai<|aa<|aa<|ab<|am 2 ?_
 refine ak (aJ (r:=(xs.length:Int)-1) rfl rfl (cj (by(first|omega|(simp;omega))) (by(first|omega|(simp;omega)))) rfl) ?_
 refine ai<|a8<|cz (ι:={t:Nat×Int // ShInv xs t.1 t.2}) (fun i=>⟨21,[(0,.v (.c (cM xs))),(3,.v (.c (.i .u64 i.1.2))),(4,.v (.c (.i .i64 ((i.1.1:Int)-1))))],[]⟩) (fun i=>i.1.1) ⟨(xs.length,0),⟨Nat.le_refl _,Int.le_refl 0,by rw[List.take_length];simp⟩⟩ (aW ⟨rfl,rfl,rfl,trivial⟩ trivial rfl) ?_
 rintro⟨⟨j,r⟩,hI⟩
 replace hI:ShInv xs j r:=hI
 have g5:=hI.le
 have g3:=hI.r0
 show Dw _ _ ⟨21,[(0,.v (.c (cM xs))),(3,.v (.c (.i .u64 r))),(4,.v (.c (.i .i64 ((j:Int)-1))))],[]⟩ _
 refine aa<|aa<|ab<|ai ?_
 refine ay rfl (fun hc1=>?_) (fun hc1=>?_)
 ·obtain⟨q,rfl⟩: ∃q,j=q+1:=⟨j-1,by simp only[decide_eq_true_eq] at hc1;omega⟩
  have hS:=hI.step hLxs
  have hB:=hS.bound hLxs
  have g1:=cg hLxs q
  refine Dw.weak (σ':=⟨21,[(0,.v (.c (cM xs))),(3,.v (.c (.i .u64 r))),(4,.v (.c (.i .i64 (q:Int))))],[]⟩) (aW ⟨rfl,rfl,by rw[show(q:Int)=((q+1:Nat):Int)-1 from by omega];rfl,trivial⟩ trivial rfl) ?_
  refine aq<|aa<|a8<|ab<|am 1 ?_
  refine ak (aJ (r:=r*1000000000) rfl rfl (eA (by(first|omega|(simp;omega))) (by(first|omega|(simp;omega)))) rfl) ?_
  refine am 2 ?_
  refine ak (bb fm rfl rfl (by(first|omega|(simp;omega))) (ft _) rfl rfl) ?_
  refine ak (b8 dB rfl (fW (i:=q) (by(first|omega|(simp;omega)))) rfl) ?_
  refine ak (bF (r:=xs.getD q 0) fB dH rfl (fa (by(first|omega|(simp;omega))) (by(first|omega|(simp;omega)))) rfl) ?_
  refine ak (aJ (r:=(r*1000000000)+(xs.getD q 0)) rfl rfl (dL (by(first|omega|(simp;omega))) (by(first|omega|(simp;omega)))) rfl) ?_
  refine ai<|ab<|am 1 ?_
  refine ak (aJ (r:=(q:Int)-1) rfl rfl (cj (by(first|omega|(simp;omega))) (by(first|omega|(simp;omega)))) rfl) ?_
  refine ai ?_
  exact⟨⟨(q,r*1000000000+xs.getD q 0),hS⟩,aW ⟨rfl,rfl,rfl,trivial⟩ trivial rfl,by show q<q+1;omega⟩
 ·have hz:j=0:=by simp only[decide_eq_false_iff_not] at hc1;omega
  have hfin:aE xs=r:=by subst hz;have:=hI.v;simp[aE,kT] at this;omega
  refine cd<|aa<|ab<|ai<|al ?_
  rw[hfin]
  exact ao (aC ae)
theorem zN {neg:Bool}{xs:List Int}(hL:Lim xs) (hn:xs.length≤10000000):Ok Tryz.prog 169 [.c (.b neg),.c (cM xs)] [dI (sg neg (aE xs))]:=by
 refine Ok.fn Tryz.func169 15 [.cell 4 29] rfl<|aa<|ab<|az (ah cE rfl) rfl<|ap<|aa<|ab<|am 1<|ak (aj rfl (f8 hL (by omega)))<|ai<|aa<|ab<|am 1 ?_
 refine dh (ca rfl) (fun c1 hb1=>?_)
 cases c1
 ·have hfin:dI (sg neg (aE xs))=.a ([.b false]++[cL (aE xs)]):=by rw[hb1,bW];unfold dI cI;rw[show decide (aE xs<0)=false from by have:=bL hL;simp;omega];rfl
  refine am 5<|ak (aD (us:=([.b false]++[cL (aE xs)])) zJ cE rfl rfl rfl) ?_
  refine ai<|al ?_
  rw[hfin]
  exact ao (bh bt rfl ae)
 ·have hfin:dI (sg neg (aE xs))=.a ([.b (decide (((cb (aE xs).natAbs).length:Int)>0))]++[cL (aE xs)]):=by rw[hb1];exact ID (bL hL)
  refine am 5<|ak (aD (us:=([.b (decide ((((cb (aE xs).natAbs).length:Int))>0))]++[cL (aE xs)])) zJ cE rfl rfl rfl) ?_
  refine ai<|al ?_
  rw[hfin]
  exact ao (bh bt rfl ae)
theorem EU {r:Int}(h:0<r):cb r.toNat=(r%1000000000)::cb (r/1000000000).toNat:=by
 rw[qi (by omega)]
 congr 1
 ·omega
 ·congr 1;omega
set_option maxHeartbeats 1000000 in
set_option maxRecDepth 10000 in
theorem zn (u:Int) (w:World) (h0:0≤u) (h1:u≤18446744073709551615):
 Calls Tryz.prog 170 #[.int .u64 u] w fun e w'=> ∃v,e=.returned v∧w'.ownsRow w.heap.size 219 1 v (cb u.toNat).length ((cb u.toNat).map (Value.int .u32))∧Below w.heap.size w w':=by
 obtain⟨i0,hi0,hz0,hz1,hz2⟩:=info_parts iG
 have hlen:(cb u.toNat).length≤3:=by
  refine(fk _).len (bp _) ?_
  rw[bD]
  have h3:pw 3=1000000000000000000000000000:=by decide
  omega
 go_enter Tryz.func170,Tryz.ntmps170
 go_wp2_with fail
 go_loopw [0,3] (fun n v wr=> ∃(r:Int) (k:Nat) (zs:List Int),n=.int .u64 r∧0≤r∧r≤u∧wr.ownsRow w.heap.size 219 1 v k (zs.map (Value.int .u32))∧Below w.heap.size w wr∧Hid (zs.length=k∧cb u.toNat=zs++cb r.toNat))
  (fun n _ _=>(intOf n).toNat)
 case atStart=>exact⟨u,0,[],rfl,h0,Int.le_refl _,jJ _ _ _ _,Below.refl _ _,rfl,rfl⟩
 case round=>
  obtain⟨r,k,zs,rfl,hr0,hru,hown,hbel,H⟩:=hrel
  have hz:=hbel.size
  by_cases hr:0<r
  ·have Hs:Hid ((zs++[r%1000000000]).length=k+1∧cb u.toNat=(zs++[r%1000000000])++cb (r/1000000000).toNat):=by
    obtain⟨l1,l2⟩:=H.out
    refine⟨by simp[l1],?_⟩
    rw[l2,EU hr];simp
   have hk:k≤3:=by
    obtain⟨l1,l2⟩:=H.out
    rw[l2] at hlen
    simp at hlen;omega
   clear H
   have e1:r.tmod 1000000000=r%1000000000:=Int.tmod_eq_emod_of_nonneg hr0
   have e2:IntKind.u32.wrap (r%1000000000)=r%1000000000:=ku (by omega) (by omega)
   have e3:r.tdiv 1000000000=r/1000000000:=Int.tdiv_eq_ediv_of_nonneg hr0
   have e4:IntKind.u64.wrap (r/1000000000)=r/1000000000:=fa (by omega) (by omega)
   go_wp2_with (at_builtin;go_must (refine wpList_append_own _ rfl _ _ 27 rfl w.heap.size 219 i0 (.int .u32 0) 1 4 Tryz.underlying27 hi0 hz0 hz1 hz2 rfl (by decide) _ _ _ rfl (hown.alloc _) ⟨wr.heap.size,0,none⟩ 1 1 [.int .u32 _] rfl rfl (cell_one_new _ _ _) (by simp[Value.oneCell']) (by unfold maxLen;omega) (by omega) (by simp;omega) ?_);intro v' w1 hown' hgrow' _)
   go_roundw
   case rel=>exact⟨r/1000000000,k+1,_,by first|rfl|(simp[e3,e4]),by omega,by omega,by simpa using hown',fi hown hbel hz hgrow',Hs⟩
   case measure=>simp[intOf]<;>omega
  ·obtain rfl:r=0:=by omega
   have Hs:Hid (zs.length=k∧cb u.toNat=zs):=by
    obtain⟨l1,l2⟩:=H.out
    refine⟨l1,?_⟩
    rw[l2];simp[f7]
   clear H
   go_wp2
   go_ret
   obtain⟨l1,l2⟩:=Hs.out
   exact⟨_,rfl,by rw[l2,l1];exact hown,hbel⟩
theorem kg {u:Int}(h0:0≤u) (h1:u≤18446744073709551615):Ok Tryz.prog 170 [.c (.i .u64 u)] [.c (cL u)]:=⟨by kernel_rfl,fun av vs w hav h=>by
 obtain⟨vs⟩:=vs
 match vs,h.1,h with
 |[v],_,h=>
  obtain rfl:=RdC.int_eq h.uncons.1
  refine(zn u w h0 h1).mono ?_
  rintro e w' ⟨v,rfl,g1,g2⟩
  obtain⟨A,c,rfl⟩:=qS g1
  refine⟨_,rfl,?_,g2⟩
  have hn:u.natAbs=u.toNat:=by omega
  have hsl:=Ow.sl ⟨g1,bp _⟩
  have:=nH (av:=av) hsl.1 hsl.2.1 hsl.2.2.1 (fun b off e hV=>by have:=Ow.fresh (k:=w.heap.size) (⟨g1,bp _⟩:Ow w' w.heap.size _ _ _) (Nat.le_refl _) b off e;have:=hav b hV;omega)
  show RdC av w' _ (cL u)
  unfold cL
  rw[hn];exact this⟩
structure DInv (us:List Int) (V:Int) (N j:Nat) (R:Int) (zs:List Int):Prop where
 le:j≤us.length
 R0:0≤R
 RV:R<V
 L:Lim zs
 len:zs.length=N
 hN:us.length≤N
 v:aE (us.drop j)=aE ((zs.take us.length).drop j)*V+R
theorem s7 {xs:List Int}{i:Nat}(h:i<xs.length):aE (xs.drop i)=xs.getD i 0+1000000000*aE (xs.drop (i+1)):=by
 rw[List.drop_eq_getElem_cons h,cS]
 simp[List.getD,h]
theorem DInv.start {us:List Int}{V:Int}{N:Nat}(hV:0<V) (hN:us.length≤N):DInv us V N us.length 0 (List.replicate N 0):=
 ⟨Nat.le_refl _,Int.le_refl _,hV,Lim.zeros _,by simp,hN,by rw[List.drop_eq_nil_of_le (Nat.le_refl _),List.drop_eq_nil_of_le (by simp;omega)];simp[aE]⟩
theorem DInv.step {us zs:List Int}{V R q R':Int}{N i:Nat}(h:DInv us V N (i+1) R zs) (_hL:Lim us) (hq0:0≤q) (hq1:q<1000000000) (hR0:0≤R') (hRV:R'<V) (he:us.getD i 0+1000000000*R=q*V+R'):DInv us V N i R' (zs.set i q):=by
 have hi:i<us.length:=h.le
 have hlen:=h.len
 have hN:=h.hN
 refine⟨by omega,hR0,hRV,h.L.set hq0 hq1,by simp[hlen],hN,?_⟩
 have e1:((zs.set i q).take us.length)=(zs.take us.length).set i q:=by rw[List.take_set]
 have hi2:i<((zs.take us.length).set i q).length:=by simp;omega
 rw[s7 hi,h.v,e1,s7 hi2]
 have e2:((zs.take us.length).set i q).getD i 0=q:=by
  have:i<(zs.take us.length).length:=by rw[List.length_take];omega
  rw[List.getD,List.getElem?_set_self this];rfl
 have e3:((zs.take us.length).set i q).drop (i+1)=(zs.take us.length).drop (i+1):=by rw[List.drop_set_of_lt (by omega)]
 rw[e2,e3]
 generalize aE ((zs.take us.length).drop (i+1))=Q at*
 have:(q+1000000000*Q)*V=q*V+1000000000*(Q*V):=by rw[Int.add_mul,Int.mul_assoc]
 rw[this]
 omega
theorem DInv.done {us zs:List Int}{V R:Int}{N:Nat}(h:DInv us V N 0 R zs):aE us/V=aE (zs.take us.length)∧aE us%V=R:=by
 have hv:=h.v
 simp only[List.drop_zero] at hv
 have h0:=h.R0
 have h1:=h.RV
 exact(Int.ediv_emod_unique (show 0<V by omega)).2 ⟨by rw[hv,Int.mul_comm V];omega,h0,h1⟩
theorem tM {R V d:Int}(hR:0≤R) (hV:R<V) (hd:0≤d) (hd1:d<1000000000):0≤(d+1000000000*R)/V∧(d+1000000000*R)/V≤999999999:=by
 refine⟨Int.ediv_nonneg (by omega) (by omega),?_⟩
 have:(d+1000000000*R)/V<1000000000:=Int.ediv_lt_of_lt_mul (by omega) (by omega)
 omega
theorem Li {T V hi top:Int}{n:Nat}(hV:top*pw n≤V) (htop:0<top) (hT:T<(hi+1)*pw n) (hT0:0≤T) (hVp:0<V):T/V≤hi/top:=by
 have h1:T/V*V≤T:=Int.ediv_mul_le _ (by omega)
 have h0:0≤T/V:=Int.ediv_nonneg hT0 (by omega)
 generalize T/V=q at*
 have h2:q*(top*pw n)≤q*V:=Int.mul_le_mul_of_nonneg_left hV h0
 have hp:=cD n
 have h3:q*top*pw n<(hi+1)*pw n:=by rw[Int.mul_assoc];omega
 have h4:q*top<hi+1:=Int.lt_of_mul_lt_mul_right h3 (by omega)
 exact(Int.le_ediv_iff_mul_le htop).2 (by omega)
structure HInv (rs:List Int) (n:Nat) (H:Int):Prop where
 h0:0≤H
 h1:H≤999999999999999999
 h:aE rs<(H+1)*pw (n-1)
theorem IY {rs:List Int}{n:Nat}(hL:Lim rs) (hn:1≤n) (hl:rs.length=n+1):HInv rs n (rs.getD n 0*1000000000+rs.getD (n-1) 0):=by
 have g1:=cg hL n
 have g2:=cg hL (n-1)
 refine⟨by omega,by omega,?_⟩
 obtain⟨k,rfl⟩: ∃k,n=k+1:=⟨n-1,by omega⟩
 rw[Nat.add_sub_cancel] at*
 have e1:=ia (xs:=rs) (k:=k+1) (by omega)
 have e2:=ia (xs:=rs) (k:=k) (by omega)
 rw[bC (by omega),e2] at e1
 have h1:=dz (hL.take k)
 rw[List.length_take,Nat.min_eq_left (by omega)] at h1
 rw[e1,de]
 generalize pw k=b at*
 generalize rs.getD (k+1) 0=x at*
 generalize rs.getD k 0=y at*
 have:(x*1000000000+y+1)*b=1000000000*b*x+b*y+b:=by grind
 omega
theorem HE {rs:List Int}{n:Nat}(hL:Lim rs) (hn:1≤n) (hl:rs.length=n):HInv rs n (rs.getD (n-1) 0):=by
 have g2:=cg hL (n-1)
 refine⟨by omega,by omega,?_⟩
 obtain⟨k,rfl⟩: ∃k,n=k+1:=⟨n-1,by omega⟩
 rw[Nat.add_sub_cancel] at*
 have e2:=ia (xs:=rs) (k:=k) (by omega)
 rw[bC (by omega)] at e2
 have h1:=dz (hL.take k)
 rw[List.length_take,Nat.min_eq_left (by omega)] at h1
 rw[e2]
 generalize pw k=b at*
 generalize rs.getD k 0=y at*
 have:(y+1)*b=b*y+b:=by grind
 omega
theorem Dz {rs:List Int}{n:Nat}(hL:Lim rs) (hl:rs.length<n):HInv rs n 0:=by
 refine⟨by omega,by omega,?_⟩
 have h1:=dz hL
 have:=iO (n:=rs.length) (m:=n-1) (by omega)
 omega
theorem x4 {vs:List Int}(hL:Lim vs) (hN:Nrm vs) (hne:vs≠ []):0<vs.getD (vs.length-1) 0∧vs.getD (vs.length-1) 0*pw (vs.length-1)≤aE vs:=by
 obtain⟨ys,y,e,hy⟩:=hN.last hne
 have hl:vs.length=ys.length+1:=by rw[e];simp
 have hk:vs.length-1<vs.length:=by omega
 have e1:=ia hk
 rw[show vs.length-1+1=vs.length from by omega,bC (Nat.le_refl _)] at e1
 have h1:=bL (hL.take (vs.length-1))
 have h2:=cg hL (vs.length-1)
 have e3:vs.getD (vs.length-1) 0=y:=by rw[e];simp[List.getD]
 refine⟨by rw[e3] at h2⊢;omega,?_⟩
 rw[Int.mul_comm];omega
theorem mL {n:Nat}{r:Int}(h0:0≤r) (h:r<pw n):(cb r.natAbs).length≤n:=by
 refine(fk _).len (bp _) ?_
 rw[bD];omega
theorem K8 {x y s:Int}(hs:0<s):(x*s)/(y*s)=x/y∧(x*s)%(y*s)=x%y*s:=by
 refine⟨Int.mul_ediv_mul_of_pos_left x y hs,?_⟩
 rw[Int.mul_comm x,Int.mul_comm y,Int.mul_emod_mul_of_pos _ _ hs,Int.mul_comm]
theorem vd {a:Int}{k:Nat}(h:Sz k a):Sz k (a.natAbs:Int):=h.of_le (by omega)
theorem ji {a b:Int}(ha:Sz 1000000 a) (hb:Sz 1000000 b):Ok Tryz.prog 218 [.c (cL a),.c (cL b)] [.c (.i .i64 (cK a.natAbs b.natAbs))]:=by
 have:=wF (bp a.natAbs) (bp b.natAbs) (fk _) (fk _) (ep ha) (ep hb)
 rw[bD,bD] at this
 exact this
theorem Jp {a b:Int}(ha:Sz 1000000 a) (hb:Sz 1000000 b):Ok Tryz.prog 304 [.c (cL a),.c (cL b)] [.c (cL ((a.natAbs:Int)+b.natAbs))]:=by
 have:=DA (bp a.natAbs) (bp b.natAbs) (ep ha) (ep hb)
 rw[bD,bD] at this
 exact this
theorem oH {a b:Int}(ha:Sz 1000000 a) (h:b.natAbs≤a.natAbs):Ok Tryz.prog 305 [.c (cL a),.c (cL b)] [.c (cL ((a.natAbs:Int)-b.natAbs))]:=by
 have:=CZ (bp a.natAbs) (bp b.natAbs) (ep ha) ((fk _).len (bp _) (by have:=dz (bp a.natAbs);rw[bD] at this⊢;omega)) (by rw[bD,bD];omega)
 rw[bD,bD] at this
 exact this
theorem Eh {a b:Int}(ha:Sz 1000000 a) (hb:Sz 1000000 b):Ok Tryz.prog 230 [.c (cL a),.c (cL b)] [.c (cL ((a.natAbs:Int)*b.natAbs))]:=by
 have:=tq (bp a.natAbs) (bp b.natAbs) (ep ha) (ep hb)
 rw[bD,bD] at this
 exact this
theorem M3 {a m:Int}(ha:Sz 1000000 a) (h0:0≤m) (h1:m<1000000000):Ok Tryz.prog 348 [.c (cL a),.c (.i .u32 m)] [.c (cL ((a.natAbs:Int)*m))]:=by
 have:=zx (bp a.natAbs) (ep ha) h0 h1
 rw[bD] at this
 exact this
theorem fb {neg:Bool}{a:Int}(ha:Sz 1000000 a):Ok Tryz.prog 169 [.c (.b neg),.c (cL a)] [dI (sg neg (a.natAbs:Int))]:=by
 have:=zN (neg:=neg) (bp a.natAbs) (by have:=ep ha;omega)
 rw[bD] at this
 exact this
theorem F0 {d:Int}{r:Int}(hr:0≤r) (h0:0≤d) (h1:d<1000000000) (hl:(cb r.natAbs).length≤1000000):Ok Tryz.prog 249 [.c (cM (d::cb r.natAbs))] [.c (cL (d+1000000000*r))]:=by
 have:=f8 (Lim.cons h0 h1 (bp r.natAbs)) (by simp;omega)
 rw[cS,bD] at this
 rw[show((r.natAbs:Nat):Int)=r from by omega] at this
 exact this
theorem wH {a:Int}(ha:a.natAbs≤18446744073709551615):Ok Tryz.prog 299 [.c (cL a)] [.c (.i .u64 (a.natAbs:Int))]:=by
 have:=pn (bp a.natAbs) (by have h3:pw 3=1000000000000000000000000000:=by decide
                            have:=(fk a.natAbs).len (bp _) (k:=3) (by rw[bD];omega)
                            omega) (by rw[bD];omega)
 rw[bD] at this
 exact this
theorem Cm {xs ys:List Int}(hLxs:Lim xs) (hLys:Lim ys) (_nX:Nrm xs) (nY:Nrm ys) (hn:xs.length≤200000) (hm:ys.length≤200000) (hy0:ys≠ []):Ok Tryz.prog 298 [.c (cM xs),.c (cM ys)] [.c (cL (aE xs/aE ys)),.c (cL (aE xs%aE ys))]:=by
 have hyl:1≤ys.length:=by have:=List.length_pos_iff.2 hy0;omega
 obtain⟨htop,htopv⟩:=x4 hLys nY hy0
 have hB1:=cg hLys (ys.length-1)
 have hvy0:0<aE ys:=by have h2:=Int.mul_le_mul_of_nonneg_left (cD (ys.length-1)) (show 0≤ys.getD (ys.length-1) 0 by omega);omega
 have hvx0:=bL hLxs
 obtain⟨B,hB⟩: ∃B,ys.getD (ys.length-1) 0=B:=⟨_,rfl⟩
 rw[hB] at htop hB1 htopv
 obtain⟨s,hs⟩: ∃s,1000000000/(B+1)=s:=⟨_,rfl⟩
 have hs1:1≤s:=by rw[←hs];exact(Int.le_ediv_iff_mul_le (by omega)).2 (by omega)
 have hs2:s≤500000000:=by rw[←hs];exact Int.ediv_le_of_le_mul (by omega) (by omega)
 obtain⟨V,hV⟩: ∃V,aE ys*s=V:=⟨_,rfl⟩
 obtain⟨W,hW⟩: ∃W,aE xs*s=W:=⟨_,rfl⟩
 have hV0:0<V:=by rw[←hV];exact Int.mul_pos hvy0 (by omega)
 have hW0:0≤W:=by rw[←hW];exact Int.mul_nonneg hvx0 (by omega)
 have eV:(V.natAbs:Int)=V:=by omega
 have eW:(W.natAbs:Int)=W:=by omega
 have hVb:V<pw (ys.length+1):=by
  have h1:=dz hLys
  have h2:aE ys*s≤aE ys*1000000000:=Int.mul_le_mul_of_nonneg_left (by omega) (by omega)
  rw[de];omega
 have hWb:W<pw (xs.length+1):=by
  have h1:=dz hLxs
  have h2:aE xs*s≤aE xs*1000000000:=Int.mul_le_mul_of_nonneg_left (by omega) (by omega)
  rw[de];omega
 have hVlen:(cb V.natAbs).length≤ys.length+1:=mL (by omega) hVb
 have hWlen:(cb W.natAbs).length≤xs.length+1:=mL hW0 hWb
 have hVne:cb V.natAbs≠ []:=fun e=>by have:=cV.1 e;omega
 have hVl1:1≤(cb V.natAbs).length:=by have:=List.length_pos_iff.2 hVne;omega
 obtain⟨htop2,htopv2⟩:=x4 (bp V.natAbs) (fk _) hVne
 have hB2:=cg (bp V.natAbs) ((cb V.natAbs).length-1)
 rw[bD,eV] at htopv2
 obtain⟨top,ht⟩: ∃top,(cb V.natAbs).getD ((cb V.natAbs).length-1) 0=top:=⟨_,rfl⟩
 rw[ht] at htop2 htopv2 hB2
 obtain⟨n,hnl⟩: ∃n,(cb V.natAbs).length=n:=⟨_,rfl⟩
 rw[hnl] at hVlen hVl1 htopv2 ht
 have hVlt:V<pw n:=by have:=dz (bp V.natAbs);rw[bD,eV,hnl] at this;exact this
 obtain⟨hq1,hq2⟩:=K8 (x:=aE xs) (y:=aE ys) (s:=s) (by omega)
 rw[hV,hW] at hq1 hq2
 have szV:Sz 1000000 V:=⟨by have:=iO (n:=ys.length+1) (m:=1000000) (by omega);omega,by have:=cD 1000000;omega⟩
 have hby1:Ok Tryz.prog 348 [.c (cM ys),.c (.i .u32 s)] [.c (cL V)]:=by rw[←hV];exact zx hLys (by omega) (by omega) (by omega)
 have hby2:Ok Tryz.prog 348 [.c (cM xs),.c (.i .u32 s)] [.c (cL W)]:=by rw[←hW];exact zx hLxs (by omega) (by omega) (by omega)
 have hbyV: ∀g:Int,0≤g→g<1000000000→Ok Tryz.prog 348 [.c (cL V),.c (.i .u32 g)] [.c (cL (V*g))]:=fun g h0 h1=>by have:=M3 szV h0 h1;rw[eV] at this;exact this
 refine Ok.fn Tryz.func298 173 [.tmp 4,.tmp 5] rfl<|aa<|ab<|ai ?_
 refine jF (ι:=Unit) (fun i=>⟨173,[(0,.v (.c (cM xs))),(1,.v (.c (cM ys)))],[]⟩) ?_ ?_
 ·refine aa<|ab<|am 3 ?_
  refine dh (ca rfl) (fun c1 hb1=>?_)
  cases c1
  ·refine ai<|bj rfl<|aq ?_
   exact⟨(),aW ⟨rfl,rfl,trivial⟩ trivial rfl⟩
  ·have ha2:xs.length≤2:=by simp only[decide_eq_true_eq] at hb1;omega
   refine ai ?_
   refine ay rfl (fun hc2=>?_) (fun hc2=>?_)
   ·have hb2:ys.length≤2:=by simp only[decide_eq_true_eq] at hc2;omega
    have hp2:pw 2=1000000000000000000:=by decide
    have hvx2:=dz hLxs
    have hvy2:=dz hLys
    have hp3:=iO (n:=xs.length) (m:=2) ha2
    have hp4:=iO (n:=ys.length) (m:=2) hb2
    have hd0:0≤aE xs/aE ys:=Int.ediv_nonneg (by omega) (by omega)
    have hd1:aE xs/aE ys≤aE xs:=Int.ediv_le_self _ (by omega)
    have hd2:aE xs/aE ys≤18446744073709551615:=by omega
    have hm0:0≤aE xs%aE ys:=Int.emod_nonneg _ (by omega)
    have hm1:aE xs%aE ys<aE ys:=Int.emod_lt_of_pos _ (by omega)
    have hm2:aE xs%aE ys≤18446744073709551615:=by omega
    refine aa<|ab<|am 1<|ak (aj rfl (pn hLxs (by omega) (by omega)))<|am 1<|ak (aj rfl (pn hLys (by omega) (by omega)))<|ai<|aa<|aN 10 rfl rfl<|an 2<|ag (fK (r:=aE xs/aE ys) rfl rfl (by omega) (by rw[Int.tdiv_eq_ediv_of_nonneg (by omega)];exact fa (by omega) (by omega)) rfl) ?_
    refine ag (aj rfl (kg (by assumption) (by assumption)))<|an 2<|ag (dm (r:=aE xs%aE ys) rfl rfl (by omega) (Int.tmod_eq_emod_of_nonneg hvx0) rfl) ?_
    refine ag (aj rfl (kg (by assumption) (by assumption)))<|bK<|ar<|ap<|al ?_
    exact ao (aC (aC ae))
   ·refine aq ?_
    exact⟨(),aW ⟨rfl,rfl,trivial⟩ trivial rfl⟩
 ·rintro⟨⟩
  show Dw _ _ ⟨173,[(0,.v (.c (cM xs))),(1,.v (.c (cM ys)))],[]⟩ _
  refine aa<|ab<|am 3<|ak (aJ (r:=((ys.length-1:Nat):Int)) rfl rfl (by rw[show((ys.length-1:Nat):Int)=(ys.length:Int)-1 from by omega];exact cj (by omega) (by omega)) rfl) ?_
  refine ak (bb fm rfl rfl (by(first|omega|(simp;omega))) (ft _) rfl rfl) ?_
  refine ak (b8 dB rfl (fW (i:=(ys.length-1)) (by(first|omega|(simp;omega)))) rfl) ?_
  refine ak (bF (r:=B) fB dH rfl (by rw[hB];exact fa (by omega) (by omega)) rfl) ?_
  refine ak (aJ (r:=B+1) rfl rfl (dL (by(first|omega|(simp;omega))) (by(first|omega|(simp;omega)))) rfl) ?_
  refine ak (fK (r:=s) rfl rfl (by omega) (by rw[Int.tdiv_eq_ediv_of_nonneg (by omega),hs];exact fa (by omega) (by omega)) rfl) ?_
  refine ak (bF (r:=s) dH fB rfl (ku (by omega) (by omega)) rfl) ?_
  refine ai<|aa<|ab<|am 2<|ak (aj rfl (hby1))<|ai<|aa<|ab<|am 3<|ak (aJ (r:=((n-1:Nat):Int)) rfl rfl (by rw[hnl,show((n-1:Nat):Int)=(n:Int)-1 from by omega];exact cj (by omega) (by omega)) rfl) ?_
  refine ak (bb fm rfl rfl (by(first|omega|(simp;omega))) (ft _) rfl rfl) ?_
  refine ak (b8 dB rfl (fW (i:=(n-1)) (by(first|omega|(simp;omega)))) rfl) ?_
  refine ak (bF (r:=top) fB dH rfl (by rw[ht];exact fa (by omega) (by omega)) rfl) ?_
  refine ai<|aa<|ab<|ai<|aa<|ab<|am 2 ?_
  refine ak (aJ (r:=(xs.length:Int)+1) rfl rfl (aT (by(first|omega|(simp;omega))) (by(first|omega|(simp;omega)))) rfl) ?_
  refine lH (iE (n:=xs.length+1) nn rfl rfl (by omega) (by omega) rfl) rfl ?_
  refine ai<|aa<|ab<|am 2<|ak (aj rfl (hby2))<|ai<|aa<|ab<|am 3 ?_
  refine ak (wz (q:=((cb W.natAbs).length)) fm rfl rfl (by(first|omega|(simp;omega))) rfl) ?_
  refine ai<|aa<|aa<|ab<|am 2 ?_
  refine ak (aJ (r:=(((cb W.natAbs).length:Int))-1) rfl rfl (cj (by(first|omega|(simp;omega))) (by(first|omega|(simp;omega)))) rfl) ?_
  refine ai<|a8<|cz (ι:={t:Nat×Int×List Int // DInv (cb W.natAbs) V (xs.length+1) t.1 t.2.1 t.2.2}) (fun i=>⟨173,[(8,.v (.c (.i .u32 s))),(9,.v (.c (cL V))),(10,.v (.c (.i .u64 top))),(11,.v (.c (cL i.1.2.1))),(12,.o 64 ((cb W.natAbs).length) (xs.length+1)),(13,.v (.c (cL W))),(14,.v (.c (.i .i64 ((i.1.1:Int)-1))))],[(64,219,i.1.2.2.map (CellD.i .u32))]⟩) (fun i=>i.1.1) ⟨((cb W.natAbs).length,0,List.replicate (xs.length+1) 0),DInv.start hV0 hWlen⟩ (aW ⟨rfl,rfl,rfl,by rw[show cL 0=.s 0 [] from by unfold cL;rw[show(0:Int).natAbs=0 from rfl,f7];rfl];rfl,rfl,rfl,rfl,trivial⟩ ⟨by rw[show(List.replicate (xs.length+1) (CellD.i .u32 0))=(List.replicate (xs.length+1) 0).map (CellD.i .u32) from by simp];rfl,trivial⟩ rfl) ?_
  rintro⟨⟨j,R,zs⟩,hI⟩
  replace hI:DInv (cb W.natAbs) V (xs.length+1) j R zs:=hI
  have g6:=hI.len
  have gR0:=hI.R0
  have gRV:=hI.RV
  have gle:=hI.le
  have eR:(R.natAbs:Int)=R:=by omega
  have hRlen:(cb R.natAbs).length≤n:=mL gR0 (by omega)
  show Dw _ _ ⟨173,[(8,.v (.c (.i .u32 s))),(9,.v (.c (cL V))),(10,.v (.c (.i .u64 top))),(11,.v (.c (cL R))),(12,.o 64 ((cb W.natAbs).length) (xs.length+1)),(13,.v (.c (cL W))),(14,.v (.c (.i .i64 ((j:Int)-1))))],[(64,219,zs.map (CellD.i .u32))]⟩ _
  refine aa<|aa<|ab<|ai ?_
  refine ay rfl (fun hc3=>?_) (fun hc3=>?_)
  ·obtain⟨q,rfl⟩: ∃q,j=q+1:=⟨j-1,by simp only[decide_eq_true_eq] at hc3;omega⟩
   have gd:=cg (bp W.natAbs) q
   obtain⟨T,hT⟩: ∃T,(cb W.natAbs).getD q 0+1000000000*R=T:=⟨_,rfl⟩
   have hT0:0≤T:=by omega
   have eT:(T.natAbs:Int)=T:=by omega
   have htrim:Ok Tryz.prog 249 [.c (cM ((cb W.natAbs).getD q 0::cb R.natAbs))] [.c (cL T)]:=by rw[←hT];exact F0 gR0 gd.1 gd.2 (by omega)
   have hTb:T<pw (n+1):=by rw[de];omega
   have hTlen:(cb T.natAbs).length≤n+1:=mL hT0 hTb
   have szT:Sz 1000000 T:=⟨by have:=iO (n:=n+1) (m:=1000000) (by omega);omega,by have:=cD 1000000;omega⟩
   have hquo:=tM gR0 gRV gd.1 gd.2
   rw[hT] at hquo
   have gt1:=cg (bp T.natAbs) (cb V.natAbs).length
   have gt2:=cg (bp T.natAbs) (n-1)
   refine Dw.weak (σ':=⟨173,[(8,.v (.c (.i .u32 s))),(9,.v (.c (cL V))),(10,.v (.c (.i .u64 top))),(11,.v (.c (cL R))),(12,.o 64 ((cb W.natAbs).length) (xs.length+1)),(13,.v (.c (cL W))),(14,.v (.c (.i .i64 (q:Int))))],[(64,219,zs.map (CellD.i .u32))]⟩) (aW ⟨rfl,rfl,rfl,rfl,rfl,rfl,by rw[show(q:Int)=((q+1:Nat):Int)-1 from by omega];rfl,trivial⟩ ⟨rfl,trivial⟩ rfl) ?_
   refine aq<|aa<|a8<|aa<|ab<|am 2 ?_
   refine ak (bb fm rfl rfl (by(first|omega|(simp;omega))) (ft _) rfl rfl) ?_
   refine ak (b8 dB rfl (fW (i:=q) (by(first|omega|(simp;omega)))) rfl) ?_
   refine lH (kj (us:=[.i .u32 ((cb W.natAbs).getD q 0)]) nn rfl rfl (by decide) (by decide) rfl) rfl ?_
   refine am 1<|LH (sT (rs:=cb R.natAbs) nn rfl rfl rfl (by omega) rfl) ?_
   refine ak (aj rfl (htrim))<|ai<|aa<|ab<|ai ?_
   refine jF (ι:={H:Int // H=if n<(cb T.natAbs).length then(cb T.natAbs).getD n 0*1000000000 else 0}) (fun i=>⟨173,[(8,.v (.c (.i .u32 s))),(9,.v (.c (cL V))),(10,.v (.c (.i .u64 top))),(11,.v (.c (cL T))),(12,.o 64 ((cb W.natAbs).length) (xs.length+1)),(13,.v (.c (cL W))),(14,.v (.c (.i .i64 (q:Int)))),(15,.v (.c (.i .u64 i.1)))],[(64,219,zs.map (CellD.i .u32))]⟩) ?_ ?_
   ·refine aa<|ab<|ai ?_
    refine ay rfl (fun hc4=>?_) (fun hc4=>?_)
    ·have hlt:(cb V.natAbs).length<(cb T.natAbs).length:=by simp only[decide_eq_true_eq] at hc4;omega
     refine ab<|am 3 ?_
     refine ak (bb fm rfl rfl (by(first|omega|(simp;omega))) (ft _) rfl rfl) ?_
     refine ak (b8 dB rfl (fW (i:=((cb V.natAbs).length)) (by(first|omega|(simp;omega)))) rfl) ?_
     refine ak (bF (r:=(cb T.natAbs).getD (((cb V.natAbs).length)) 0) fB dH rfl (fa (by(first|omega|(simp;omega))) (by(first|omega|(simp;omega)))) rfl) ?_
     refine ak (aJ (r:=((cb T.natAbs).getD (((cb V.natAbs).length)) 0)*1000000000) rfl rfl (eA (by(first|omega|(simp;omega))) (by(first|omega|(simp;omega)))) rfl) ?_
     refine ai ?_
     exact⟨⟨(cb T.natAbs).getD (cb V.natAbs).length 0*1000000000,by rw[hnl] at*;rw[if_pos (by have:=hc4;simp only[decide_eq_true_eq] at this;omega)]⟩,aW ⟨rfl,rfl,rfl,rfl,rfl,rfl,rfl,rfl,trivial⟩ ⟨rfl,trivial⟩ rfl⟩
    ·refine aq ?_
     exact⟨⟨0,by rw[if_neg (by have:=hc4;simp only[decide_eq_false_iff_not] at this;omega)]⟩,aW ⟨rfl,rfl,rfl,rfl,rfl,rfl,rfl,rfl,trivial⟩ ⟨rfl,trivial⟩ rfl⟩
   ·rintro⟨H1,hH1⟩
    replace hH1:H1=if n<(cb T.natAbs).length then(cb T.natAbs).getD n 0*1000000000 else 0:=hH1
    rw[hnl] at gt1
    have hHb:0≤H1∧H1≤999999999000000000:=by rw[hH1];split<;>omega
    show Dw _ _ ⟨173,[(8,.v (.c (.i .u32 s))),(9,.v (.c (cL V))),(10,.v (.c (.i .u64 top))),(11,.v (.c (cL T))),(12,.o 64 ((cb W.natAbs).length) (xs.length+1)),(13,.v (.c (cL W))),(14,.v (.c (.i .i64 (q:Int)))),(15,.v (.c (.i .u64 H1)))],[(64,219,zs.map (CellD.i .u32))]⟩ _
    refine jF (ι:={H:Int // HInv (cb T.natAbs) n H}) (fun i=>⟨173,[(8,.v (.c (.i .u32 s))),(9,.v (.c (cL V))),(10,.v (.c (.i .u64 top))),(11,.v (.c (cL T))),(12,.o 64 ((cb W.natAbs).length) (xs.length+1)),(13,.v (.c (cL W))),(14,.v (.c (.i .i64 (q:Int)))),(15,.v (.c (.i .u64 i.1)))],[(64,219,zs.map (CellD.i .u32))]⟩) ?_ ?_
    ·refine aa<|ab<|ai ?_
     refine ay rfl (fun hc5=>?_) (fun hc5=>?_)
     ·have hlt:n≤(cb T.natAbs).length:=by simp only[decide_eq_true_eq] at hc5;omega
      have hHT:HInv (cb T.natAbs) n (H1+(cb T.natAbs).getD (n-1) 0):=by
       rcases Nat.lt_or_ge n (cb T.natAbs).length with h1|h1
       ·rw[hH1,if_pos h1];exact IY (bp _) (by omega) (by omega)
       ·rw[hH1,if_neg (by omega),Int.zero_add];exact HE (bp _) (by omega) (by omega)
      refine ab<|am 4<|ak (aJ (r:=((n-1:Nat):Int)) rfl rfl (by rw[hnl,show((n-1:Nat):Int)=(n:Int)-1 from by omega];exact cj (by omega) (by omega)) rfl) ?_
      refine ak (bb fm rfl rfl (by(first|omega|(simp;omega))) (ft _) rfl rfl) ?_
      refine ak (b8 dB rfl (fW (i:=(n-1)) (by(first|omega|(simp;omega)))) rfl) ?_
      refine ak (bF (r:=(cb T.natAbs).getD (n-1) 0) fB dH rfl (fa (by(first|omega|(simp;omega))) (by(first|omega|(simp;omega)))) rfl) ?_
      refine ak (aJ (r:=H1+((cb T.natAbs).getD (n-1) 0)) rfl rfl (dL (by(first|omega|(simp;omega))) (by(first|omega|(simp;omega)))) rfl) ?_
      refine ai ?_
      exact⟨⟨H1+(cb T.natAbs).getD (n-1) 0,hHT⟩,aW ⟨rfl,rfl,rfl,rfl,rfl,rfl,rfl,rfl,trivial⟩ ⟨rfl,trivial⟩ rfl⟩
     ·have hHF:HInv (cb T.natAbs) n H1:=by
       simp only[decide_eq_false_iff_not] at hc5
       rw[hH1,if_neg (by omega)];exact Dz (bp _) (by omega)
      refine aq ?_
      exact⟨⟨H1,hHF⟩,aW ⟨rfl,rfl,rfl,rfl,rfl,rfl,rfl,rfl,trivial⟩ ⟨rfl,trivial⟩ rfl⟩
    ·rintro⟨H,hH⟩
     replace hH:HInv (cb T.natAbs) n H:=hH
     have hHa:=hH.h0
     have hHc:=hH.h1
     have hHh:=hH.h
     rw[bD,eT] at hHh
     have hest:=Li htopv2 htop2 hHh hT0 hV0
     have hq0:0≤H/top:=Int.ediv_nonneg (by omega) (by omega)
     have hq9:H/top≤H:=Int.ediv_le_self _ (by omega)
     show Dw _ _ ⟨173,[(8,.v (.c (.i .u32 s))),(9,.v (.c (cL V))),(10,.v (.c (.i .u64 top))),(11,.v (.c (cL T))),(12,.o 64 ((cb W.natAbs).length) (xs.length+1)),(13,.v (.c (cL W))),(14,.v (.c (.i .i64 (q:Int)))),(15,.v (.c (.i .u64 H)))],[(64,219,zs.map (CellD.i .u32))]⟩ _
     refine aa<|ab<|am 2<|ak (fK (r:=H/top) rfl rfl (by omega) (by rw[Int.tdiv_eq_ediv_of_nonneg (by omega)];exact fa (by omega) (by omega)) rfl) ?_
     refine ai ?_
     refine jF (ι:={g:Int // T/V≤g∧g≤999999999}) (fun i=>⟨173,[(8,.v (.c (.i .u32 s))),(9,.v (.c (cL V))),(10,.v (.c (.i .u64 top))),(11,.v (.c (cL T))),(12,.o 64 ((cb W.natAbs).length) (xs.length+1)),(13,.v (.c (cL W))),(14,.v (.c (.i .i64 (q:Int)))),(16,.v (.c (.i .u64 i.1)))],[(64,219,zs.map (CellD.i .u32))]⟩) ?_ ?_
     ·refine aa<|ab<|ai ?_
      refine ay rfl (fun hc6=>?_) (fun hc6=>?_)
      ·--region 22
       refine ab<|ai ?_
       exact⟨⟨999999999,hquo.2,Int.le_refl _⟩,aW ⟨rfl,rfl,rfl,rfl,rfl,rfl,rfl,rfl,trivial⟩ ⟨rfl,trivial⟩ rfl⟩
      ·refine aq ?_
       exact⟨⟨H/top,hest,by have:=hc6;simp only[decide_eq_false_iff_not] at this;omega⟩,aW ⟨rfl,rfl,rfl,rfl,rfl,rfl,rfl,rfl,trivial⟩ ⟨rfl,trivial⟩ rfl⟩
     ·rintro⟨g,hg⟩
      replace hg:T/V≤g∧g≤999999999:=hg
      show Dw _ _ ⟨173,[(8,.v (.c (.i .u32 s))),(9,.v (.c (cL V))),(10,.v (.c (.i .u64 top))),(11,.v (.c (cL T))),(12,.o 64 ((cb W.natAbs).length) (xs.length+1)),(13,.v (.c (cL W))),(14,.v (.c (.i .i64 (q:Int)))),(16,.v (.c (.i .u64 g)))],[(64,219,zs.map (CellD.i .u32))]⟩ _
      refine aa<|ab<|am 2<|ak (bF (r:=g) dH fB rfl (ku (by omega) (by omega)) rfl) ?_
      refine ak (aj rfl (hbyV g (by omega) (by omega)))<|ai<|aa<|a8<|cz (ι:={g:Int // T/V≤g∧g≤999999999}) (fun i=>⟨173,[(8,.v (.c (.i .u32 s))),(9,.v (.c (cL V))),(10,.v (.c (.i .u64 top))),(11,.v (.c (cL T))),(12,.o 64 ((cb W.natAbs).length) (xs.length+1)),(13,.v (.c (cL W))),(14,.v (.c (.i .i64 (q:Int)))),(16,.v (.c (.i .u64 i.1))),(17,.v (.c (cL (V*i.1))))],[(64,219,zs.map (CellD.i .u32))]⟩) (fun i=>i.1.toNat) ⟨g,hg⟩ (aW ⟨rfl,rfl,rfl,rfl,rfl,rfl,rfl,rfl,rfl,trivial⟩ ⟨rfl,trivial⟩ rfl) ?_
      rintro⟨g,hg⟩
      replace hg:T/V≤g∧g≤999999999:=hg
      have hVg0:0≤V*g:=Int.mul_nonneg (by omega) (by omega)
      have eVg:((V*g).natAbs:Int)=V*g:=by omega
      have hVgb:V*g≤V*1000000000:=Int.mul_le_mul_of_nonneg_left (by omega) (by omega)
      have szP:Sz 1000000 (V*g):=⟨by have:=iO (n:=n+1) (m:=1000000) (by omega);rw[de] at this;omega,by have:=cD 1000000;omega⟩
      have hcmp:Ok Tryz.prog 218 [.c (cL (V*g)),.c (cL T)] [.c (.i .i64 (cK (V*g) T))]:=by have:=ji szP szT;rw[eVg,eT] at this;exact this
      show Dw _ _ ⟨173,[(8,.v (.c (.i .u32 s))),(9,.v (.c (cL V))),(10,.v (.c (.i .u64 top))),(11,.v (.c (cL T))),(12,.o 64 ((cb W.natAbs).length) (xs.length+1)),(13,.v (.c (cL W))),(14,.v (.c (.i .i64 (q:Int)))),(16,.v (.c (.i .u64 g))),(17,.v (.c (cL (V*g))))],[(64,219,zs.map (CellD.i .u32))]⟩ _
      refine aa<|aa<|ab<|am 2<|ak (aj rfl (hcmp))<|ai ?_
      refine ay rfl (fun hc7=>?_) (fun hc7=>?_)
      ·have hgt:T<V*g:=by simp only[decide_eq_true_eq] at hc7;rcases Int.lt_trichotomy (V*g) T with h1|h1|h1<;>first|(rw[dj h1] at hc7;omega)|(rw[fl h1] at hc7;omega)|exact h1
       have hg2:T/V≤g-1:=by have:T/V<g:=(Int.ediv_lt_iff_lt_mul hV0).2 (by rw[Int.mul_comm];exact hgt);omega
       have hVm:V*(g-1)=V*g-V:=by rw[Int.mul_sub,Int.mul_one]
       have hVm0:0≤V*(g-1):=Int.mul_nonneg (by omega) (by omega)
       have hmin:Ok Tryz.prog 305 [.c (cL (V*g)),.c (cL V)] [.c (cL (V*(g-1)))]:=by have:=oH (b:=V) szP (by omega);rw[eVg,eV,←hVm] at this;exact this
       refine aq<|a8<|aa<|ab<|am 1 ?_
       refine ak (aJ (r:=g-1) rfl rfl (xY (by(first|omega|(simp;omega))) (by(first|omega|(simp;omega)))) rfl) ?_
       refine ai<|ab<|am 2<|ak (aj rfl (hmin))<|ai ?_
       exact⟨⟨g-1,hg2,by omega⟩,aW ⟨rfl,rfl,rfl,rfl,rfl,rfl,rfl,rfl,rfl,trivial⟩ ⟨rfl,trivial⟩ rfl,by show(g-1).toNat<g.toNat;omega⟩
      ·have hle:V*g≤T:=by simp only[decide_eq_false_iff_not] at hc7;rcases Int.lt_trichotomy (V*g) T with h1|h1|h1<;>first|omega|(rw[dt h1] at hc7;omega)
       have hgq:g=T/V:=by have:g≤T/V:=(Int.le_ediv_iff_mul_le hV0).2 (by rw[Int.mul_comm];exact hle);omega
       have hr0:0≤T-V*g:=by omega
       have hr1:T-V*g<V:=by have:=Int.emod_lt_of_pos T hV0;have h2:=Int.mul_ediv_add_emod T V;rw[←hgq] at h2;omega
       have hmin:Ok Tryz.prog 305 [.c (cL T),.c (cL (V*g))] [.c (cL (T-V*g))]:=by have:=oH (b:=V*g) szT (by omega);rw[eVg,eT] at this;exact this
       refine cd<|aa<|ab<|am 2<|ak (aj rfl (hmin))<|ai<|ab<|am 3<|ak (bF (r:=g) dH fB rfl (ku (by omega) (by omega)) rfl) ?_
       refine ak (ci fm rfl rfl (by(first|omega|(simp;omega))) rfl) ?_
       refine dd (bn (us:=(zs.set q g).map (CellD.i .u32)) dB rfl rfl rfl rfl (by simp;omega) (jG (by(first|omega|(simp;omega)))) rfl) ?_
       refine ap<|ab<|am 1 ?_
       refine ak (aJ (r:=(q:Int)-1) rfl rfl (cj (by(first|omega|(simp;omega))) (by(first|omega|(simp;omega)))) rfl) ?_
       refine ai ?_
       exact⟨⟨(q,T-V*g,zs.set q g),hI.step (bp _) (by omega) (by omega) hr0 hr1 (by rw[hT];show T=g*V+(T-V*g);rw[Int.mul_comm g V];omega)⟩,aW ⟨rfl,rfl,rfl,rfl,rfl,rfl,rfl,trivial⟩ ⟨rfl,trivial⟩ rfl,by show q<q+1;omega⟩
  ·have hj0:j=0:=by simp only[decide_eq_false_iff_not] at hc3;omega
   subst hj0
   obtain⟨d1,d2⟩:=hI.done
   rw[bD,eW] at d1 d2
   refine cd<|aa<|ab<|ai<|aa<|ab<|am 2<|lH (iE (n:=((cb R.natAbs).length)) nn rfl rfl (by omega) (by omega) rfl) rfl ?_
   refine ai<|aa<|aa<|ab<|am 2 ?_
   refine ak (aJ (r:=(((cb R.natAbs).length:Int))-1) rfl rfl (cj (by(first|omega|(simp;omega))) (by(first|omega|(simp;omega)))) rfl) ?_
   refine ai<|a8<|cz (ι:={t:Nat×Int×List Int // DInv (cb R.natAbs) s (cb R.natAbs).length t.1 t.2.1 t.2.2}) (fun i=>⟨173,[(8,.v (.c (.i .u32 s))),(11,.v (.c (cL R))),(12,.o 64 ((cb W.natAbs).length) (xs.length+1)),(18,.v (.c (.i .u64 i.1.2.1))),(19,.o 141 ((cb R.natAbs).length) ((cb R.natAbs).length)),(20,.v (.c (.i .i64 ((i.1.1:Int)-1))))],[(64,219,zs.map (CellD.i .u32)),(141,219,i.1.2.2.map (CellD.i .u32))]⟩) (fun i=>i.1.1) ⟨((cb R.natAbs).length,0,List.replicate (cb R.natAbs).length 0),DInv.start (by omega) (Nat.le_refl _)⟩ (aW ⟨rfl,rfl,rfl,rfl,rfl,rfl,trivial⟩ ⟨rfl,by rw[show(List.replicate (cb R.natAbs).length (CellD.i .u32 0))=(List.replicate (cb R.natAbs).length 0).map (CellD.i .u32) from by simp];rfl,trivial⟩ rfl) ?_
   rintro⟨⟨j2,c,ls⟩,hI2⟩
   replace hI2:DInv (cb R.natAbs) s (cb R.natAbs).length j2 c ls:=hI2
   have k6:=hI2.len
   have k0:=hI2.R0
   have k1:=hI2.RV
   have kle:=hI2.le
   show Dw _ _ ⟨173,[(8,.v (.c (.i .u32 s))),(11,.v (.c (cL R))),(12,.o 64 ((cb W.natAbs).length) (xs.length+1)),(18,.v (.c (.i .u64 c))),(19,.o 141 ((cb R.natAbs).length) ((cb R.natAbs).length)),(20,.v (.c (.i .i64 ((j2:Int)-1))))],[(64,219,zs.map (CellD.i .u32)),(141,219,ls.map (CellD.i .u32))]⟩ _
   refine aa<|aa<|ab<|ai ?_
   refine ay rfl (fun hc8=>?_) (fun hc8=>?_)
   ·obtain⟨q2,rfl⟩: ∃q,j2=q+1:=⟨j2-1,by simp only[decide_eq_true_eq] at hc8;omega⟩
    have gd:=cg (bp R.natAbs) q2
    have hb0:=tM k0 k1 gd.1 gd.2
    rw[show(cb R.natAbs).getD q2 0+1000000000*c=c*1000000000+(cb R.natAbs).getD q2 0 from by omega] at hb0
    have hd20:0≤(c*1000000000+(cb R.natAbs).getD q2 0)/s:=hb0.1
    have hd21:(c*1000000000+(cb R.natAbs).getD q2 0)/s<1000000000:=by omega
    have hr20:0≤(c*1000000000+(cb R.natAbs).getD q2 0)%s:=Int.emod_nonneg _ (by omega)
    have hr21:(c*1000000000+(cb R.natAbs).getD q2 0)%s<s:=Int.emod_lt_of_pos _ (by omega)
    refine Dw.weak (σ':=⟨173,[(8,.v (.c (.i .u32 s))),(11,.v (.c (cL R))),(12,.o 64 ((cb W.natAbs).length) (xs.length+1)),(18,.v (.c (.i .u64 c))),(19,.o 141 ((cb R.natAbs).length) ((cb R.natAbs).length)),(20,.v (.c (.i .i64 (q2:Int))))],[(64,219,zs.map (CellD.i .u32)),(141,219,ls.map (CellD.i .u32))]⟩) (aW ⟨rfl,rfl,rfl,rfl,rfl,by rw[show(q2:Int)=((q2+1:Nat):Int)-1 from by omega];rfl,trivial⟩ ⟨rfl,rfl,trivial⟩ rfl) ?_
    refine aq<|aa<|a8<|aa<|ab<|am 1 ?_
    refine ak (aJ (r:=c*1000000000) rfl rfl (eA (by(first|omega|(simp;omega))) (by(first|omega|(simp;omega)))) rfl) ?_
    refine am 2 ?_
    refine ak (bb fm rfl rfl (by(first|omega|(simp;omega))) (ft _) rfl rfl) ?_
    refine ak (b8 dB rfl (fW (i:=q2) (by(first|omega|(simp;omega)))) rfl) ?_
    refine ak (bF (r:=(cb R.natAbs).getD q2 0) fB dH rfl (fa (by(first|omega|(simp;omega))) (by(first|omega|(simp;omega)))) rfl) ?_
    refine ak (aJ (r:=(c*1000000000)+((cb R.natAbs).getD q2 0)) rfl rfl (dL (by(first|omega|(simp;omega))) (by(first|omega|(simp;omega)))) rfl) ?_
    refine ai<|aa<|ab<|am 4 ?_
    refine ak (bF (r:=s) fB dH rfl (fa (by(first|omega|(simp;omega))) (by(first|omega|(simp;omega)))) rfl) ?_
    refine ak (fK (r:=(c*1000000000+(cb R.natAbs).getD q2 0)/s) rfl rfl (by omega) (by rw[Int.tdiv_eq_ediv_of_nonneg (by omega)];exact fa (by omega) (by omega)) rfl) ?_
    refine ak (bF (r:=(c*1000000000+(cb R.natAbs).getD q2 0)/s) dH fB rfl (ku (by omega) (by omega)) rfl) ?_
    refine ak (ci fm rfl rfl (by(first|omega|(simp;omega))) rfl) ?_
    refine dd (bn (us:=(ls.set q2 ((c*1000000000+(cb R.natAbs).getD q2 0)/s)).map (CellD.i .u32)) dB rfl rfl rfl rfl (by simp;omega) (jG (by(first|omega|(simp;omega)))) rfl) ?_
    refine ap<|ab<|am 2 ?_
    refine ak (bF (r:=s) fB dH rfl (fa (by(first|omega|(simp;omega))) (by(first|omega|(simp;omega)))) rfl) ?_
    refine ak (dm (r:=(c*1000000000+(cb R.natAbs).getD q2 0)%s) rfl rfl (by omega) (Int.tmod_eq_emod_of_nonneg (by omega)) rfl) ?_
    refine ai<|ab<|am 1 ?_
    refine ak (aJ (r:=(q2:Int)-1) rfl rfl (cj (by(first|omega|(simp;omega))) (by(first|omega|(simp;omega)))) rfl) ?_
    refine ai ?_
    exact⟨⟨(q2,(c*1000000000+(cb R.natAbs).getD q2 0)%s,ls.set q2 ((c*1000000000+(cb R.natAbs).getD q2 0)/s)),hI2.step (bp _) hd20 hd21 hr20 hr21 (by rw[Int.mul_comm ((c*1000000000+(cb R.natAbs).getD q2 0)/s) s,Int.mul_ediv_add_emod];omega)⟩,aW ⟨rfl,rfl,rfl,rfl,rfl,rfl,trivial⟩ ⟨rfl,rfl,trivial⟩ rfl,by show q2<q2+1;omega⟩
   ·have hj0:j2=0:=by simp only[decide_eq_false_iff_not] at hc8;omega
    subst hj0
    obtain⟨d3,d4⟩:=hI2.done
    rw[bD,eR,List.take_of_length_le (by omega)] at d3
    have f1:aE xs/aE ys=aE (zs.take (cb W.natAbs).length):=by rw[←hq1,d1]
    have f2:aE xs%aE ys=aE ls:=by rw[←d3,←d2,hq2,Int.mul_ediv_cancel _ (by omega)]
    have hLo:Lim (zs.take (cb W.natAbs).length):=hI.L.take _
    have hLl:=hI2.L
    refine cd<|aa ?_
    refine mF (t:=12) (zs:=zs) (ys:=zs.take ((cb W.natAbs).length)) rfl rfl (by first|omega|(simp;omega)|simp) (by omega) (by omega) (rfl) ?_
    refine mF (t:=19) (zs:=ls) (ys:=ls) rfl rfl (by first|omega|(simp;omega)|simp) (by omega) (by omega) (List.take_of_length_le (by first|omega|(simp;omega)|simp)) ?_
    refine ab<|am 1<|ak (aj rfl (f8 hLo (by simp<;>omega)))<|am 1<|ak (aj rfl (f8 hLl (by omega)))<|ai<|al ?_
    rw[f1,f2]
    exact ao (aC (aC ae))
theorem Gj (x:Int):cL x=cL ((x.natAbs:Nat):Int):=by unfold cL;rw[show((x.natAbs:Nat):Int).natAbs=x.natAbs from by omega]
theorem rI {a b:Int}(ha:Sz 200000 a) (hb:Sz 200000 b) (h0:b≠0):Ok Tryz.prog 298 [.c (cL a),.c (cL b)] [.c (cL ((a.natAbs:Int)/b.natAbs)),.c (cL ((a.natAbs:Int)%b.natAbs))]:=by
 have:=Cm (bp a.natAbs) (bp b.natAbs) (fk _) (fk _) (ep ha) (ep hb) (fun e=>by have:=cV.1 e;omega)
 rw[bD,bD] at this
 exact this
theorem IB {x y:Int}(h:(decide (x<0)==decide (y<0))=true):sg (decide (x<0)) ((((x.natAbs:Int)+y.natAbs).natAbs:Nat):Int)=x+y:=by
 by_cases h1:x<0<;>by_cases h2:y<0<;>simp[h1,h2,sg] at h⊢ <;>omega
theorem OJ {x y:Int}(h:(decide (x<0)==decide (y<0))=false) (hg:y.natAbs≤x.natAbs):sg (decide (x<0)) ((((x.natAbs:Int)-y.natAbs).natAbs:Nat):Int)=x+y:=by
 by_cases h1:x<0<;>by_cases h2:y<0<;>simp[h1,h2,sg] at h⊢ <;>omega
theorem O3 {x y:Int}(h:(decide (x<0)==decide (y<0))=false) (hg:x.natAbs<y.natAbs):sg (decide (y<0)) ((((y.natAbs:Int)-x.natAbs).natAbs:Nat):Int)=x+y:=by
 by_cases h1:x<0<;>by_cases h2:y<0<;>simp[h1,h2,sg] at h⊢ <;>omega
theorem MG {x y:Int}:sg (!(decide (x<0)==decide (y<0))) ((((x.natAbs:Int)*y.natAbs).natAbs:Nat):Int)=x*y:=by
 have h0:0≤(x.natAbs:Int)*y.natAbs:=Int.mul_nonneg (by omega) (by omega)
 rw[show((((x.natAbs:Int)*y.natAbs).natAbs:Nat):Int)=(x.natAbs:Int)*y.natAbs from by omega]
 by_cases h1:x<0<;>by_cases h2:y<0<;>simp only[h1,h2,sg,decide_true,decide_false,Bool.not_true,Bool.not_false,beq_self_eq_true,Bool.false_eq_true,if_true,if_false,show(true==false)=false from rfl,show(false==true)=false from rfl]
 ·rw[show(x.natAbs:Int)= -x from by omega,show(y.natAbs:Int)= -y from by omega,Int.neg_mul_neg]
 ·rw[show(x.natAbs:Int)= -x from by omega,show(y.natAbs:Int)=y from by omega,Int.neg_mul,Int.neg_neg]
 ·rw[show(x.natAbs:Int)=x from by omega,show(y.natAbs:Int)= -y from by omega,Int.mul_neg,Int.neg_neg]
 ·rw[show(x.natAbs:Int)=x from by omega,show(y.natAbs:Int)=y from by omega]
theorem LI {x:Int}:sg (!decide (x<0)) ((x.natAbs:Nat):Int)= -x:=by
 by_cases h1:x<0<;>simp[h1,sg]<;>omega
theorem uu {a b:Int}(h:decide (cK a b≥0)=true):b≤a:=by
 simp only[decide_eq_true_eq] at h
 rcases Int.lt_trichotomy a b with h1|h1|h1
 ·rw[dj h1] at h;omega
 ·omega
 ·omega
theorem uC {a b:Int}(h:decide (cK a b≥0)=false):a<b:=by
 simp only[decide_eq_false_iff_not] at h
 rcases Int.lt_trichotomy a b with h1|h1|h1
 ·omega
 ·rw[fl h1] at h;omega
 ·rw[dt h1] at h;omega
theorem vq {x y:Int}(hx:decide (x<0)=false) (hy: ¬(y<0)):cK x.natAbs y.natAbs=cK x y:=by
 simp only[decide_eq_false_iff_not] at hx
 rw[show(x.natAbs:Int)=x from by omega,show(y.natAbs:Int)=y from by omega]
theorem vN {x y:Int}(hx:decide (x<0)=true) (hy:y<0):cK y.natAbs x.natAbs=cK x y:=by
 simp only[decide_eq_true_eq] at hx
 rw[show(y.natAbs:Int)= -y from by omega,show(x.natAbs:Int)= -x from by omega,wX]
theorem Oe {x y:Int}:sg (!(decide (x<0)==decide (y<0))) (((((x.natAbs:Int)/y.natAbs).natAbs:Nat)):Int)=q0 x y:=by
 have:0≤(x.natAbs:Int)/y.natAbs:=Int.ediv_nonneg (by omega) (by omega)
 unfold q0
 rw[show((((x.natAbs:Int)/y.natAbs).natAbs:Nat):Int)=(x.natAbs:Int)/y.natAbs from by omega]
theorem OB {x y:Int}(h0:y≠0):sg (decide (x<0)) (((((x.natAbs:Int)%y.natAbs).natAbs:Nat)):Int)=r0 x y:=by
 have:=(we (x:=x) h0).1
 unfold r0
 rw[show((((x.natAbs:Int)%y.natAbs).natAbs:Nat):Int)=(x.natAbs:Int)%y.natAbs from by omega]
theorem BI {x y:Int}:(x.natAbs:Int)%y.natAbs=0↔r0 x y=0:=by
 unfold r0
 generalize decide (x<0)=s
 cases s
 ·rw[bW]
 ·rw[dU];omega
theorem AY {x y:Int}(h0:y≠0) (h:(x.natAbs:Int)%y.natAbs≠0):(r0 x y<0↔x<0):=by
 have:=(we (x:=x) h0).1
 unfold r0
 by_cases hx:x<0
 ·rw[show decide (x<0)=true from by simpa using hx,dU];omega
 ·rw[show decide (x<0)=false from by simpa using hx,bW];omega
structure RG (x y a c:Int):Prop where
 sa:Sz 200000 a
 sc:Sz 200000 c
 a0:0≤a
 c0:0≤c
 g:Int.gcd a c=Int.gcd x y
theorem RG.start {x y:Int}(hx:Sz 200000 x) (hy:Sz 200000 y):RG x y (x.natAbs:Int) (y.natAbs:Int):=⟨hx.of_le (by omega),hy.of_le (by omega),by omega,by omega,rfl⟩
theorem RG.step {x y a c:Int}(h:RG x y a c) (hc:c≠0):RG x y c ((a.natAbs:Int)%c.natAbs):=by
 have h1:=h.a0
 have h2:=h.c0
 have e1:(a.natAbs:Int)=a:=by omega
 have e2:(c.natAbs:Int)=c:=by omega
 rw[e1,e2]
 have h3:=Int.emod_nonneg a hc
 have h4:=Int.emod_lt_of_pos a (show 0<c by omega)
 exact⟨h.sc,h.sc.of_le (by omega),h2,h3,by rw[←h.g,uy h1 h2]⟩
theorem RG.less {x y a c:Int}(h:RG x y a c) (hc:c≠0):((a.natAbs:Int)%c.natAbs).toNat<c.toNat:=by
 have:=h.c0
 have:=we (x:=a) hc
 omega
theorem RG.done {x y a c:Int}(h:RG x y a c) (hc:c=0):(Int.gcd x y:Int)=sg false ((a.natAbs:Nat):Int):=by
 rw[←h.g,hc,bW];simp
theorem A6 {a:Int}(h:decide (((cb a.natAbs).length:Int)>2)=false):a.natAbs≤18446744073709551615:=by
 simp only[decide_eq_false_iff_not] at h
 have h1:=dz (bp a.natAbs)
 rw[bD] at h1
 have h2:=iO (n:=(cb a.natAbs).length) (m:=2) (by omega)
 have h3:pw 2=1000000000000000000:=by decide
 omega
theorem RG.word {x y a c:Int}(h:RG x y a c) (ha:a.natAbs≤18446744073709551615) (hc:c.natAbs≤18446744073709551615):GInv2 x y (a.natAbs:Int) (c.natAbs:Int):=
 ⟨by omega,by omega,by omega,by omega,by rw[←h.g];rfl⟩
theorem GInv2.fin {x y u v:Int}(h:GInv2 x y u v) (hv:v≤0):(Int.gcd x y:Int)=sg false ((u.natAbs:Nat):Int):=by
 rw[h.done hv,bW,bW];have:=h.u0;omega
theorem Sz.small3 {x:Int}(h0:0≤x) (h1:x≤18446744073709551615):Sz 1000000 x:=by
 have h3:pw 3=1000000000000000000000000000:=by decide
 have:Sz 3 x:=⟨by omega,by omega⟩
 exact this.mono (by decide)
theorem N6 {x y:Int}(hx:Sz 200000 x):Sz 1000000 ((x.natAbs:Int)/y.natAbs):=by
 have h1:(x.natAbs:Int)/(y.natAbs:Int)≤x.natAbs:=Int.ediv_le_self _ (by omega)
 have h2:0≤(x.natAbs:Int)/(y.natAbs:Int):=Int.ediv_nonneg (by omega) (by omega)
 exact(hx.mono (by decide)).of_le (by omega)
theorem O8 {x y:Int}(hy:Sz 200000 y) (h0:y≠0):Sz 1000000 ((x.natAbs:Int)%y.natAbs):=by
 have:=we (x:=x) h0
 exact(hy.mono (by decide)).of_le (by omega)
theorem wv {x:Int}(hn:x<0) (h0: -9223372036854775808≤x):IntKind.u64.wrap x=x+18446744073709551616:=by unfold IntKind.wrap;simp[IntKind.bits,IntKind.signed];omega
theorem tA {x:Int}(hn:x<0) (h0: -9223372036854775808≤x):IntKind.u64.wrap (0-(x+18446744073709551616))= -x:=by unfold IntKind.wrap;simp[IntKind.bits,IntKind.signed];omega
theorem eE {P:Program}{ops:Array Oper}{T:TF}{B:BF}{dst:Option Nat}{xt:TypeId}{x:Operand}{ty:TypeId}{pos:String}{af:Array Edge}{g:Option (Nat×Bool)}{k:IntKind}{m r:Int}
 (hx:cq T x=some (.v (.c (.i k m)))) (hr:k.wrap (0-m)=r) (hg:gd ops ⟨dst,.unOp .neg xt x,ty,pos,af,g⟩ T=some true):
 Sem P ops ⟨dst,.unOp .neg xt x,ty,pos,af,g⟩ T B (.r (.v (.c (.i k r)))):=by subst hr;exact Ig hx hg
theorem zr {x y:Int}(h:Sz 1000000 ((x.natAbs:Int)/y.natAbs)):Ok Tryz.prog 169 [.c (.b (!(decide (x<0)==decide (y<0)))),.c (cL ((x.natAbs:Int)/y.natAbs))] [dI (q0 x y)]:=by
 rw[←Oe];exact fb h
theorem zI {x y:Int}(h0:y≠0) (h:Sz 1000000 ((x.natAbs:Int)%y.natAbs)):Ok Tryz.prog 169 [.c (.b (decide (x<0))),.c (cL ((x.natAbs:Int)%y.natAbs))] [dI (r0 x y)]:=by
 rw[←OB h0];exact fb h
theorem Fa {x y:Int}(h:(decide (x<0)==decide (y<0))=true):(cK x.natAbs y.natAbs==0)=(x==y):=by
 have hs:x<0↔y<0:=by simpa using h
 rcases Int.lt_trichotomy (x.natAbs:Int) y.natAbs with h1|h1|h1
 ·rw[dj h1,show(x==y)=false from by simp only[beq_eq_false_iff_ne];omega];rfl
 ·rw[fl h1,show(x==y)=true from by simp only[beq_iff_eq];omega];rfl
 ·rw[dt h1,show(x==y)=false from by simp only[beq_eq_false_iff_ne];omega];rfl
end Go.Proofs.YtacopbfkmnpfgaaGreat
