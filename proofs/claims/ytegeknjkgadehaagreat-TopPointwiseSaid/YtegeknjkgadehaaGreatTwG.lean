/-Package swarfref01:times,by,compare,short,signed. -/
import Derived.Test.YtegeknjkgadehaaGreatTwF
namespace Go.Proofs.YtegeknjkgadehaaGreat
open Go Go.RowKit
variable {R V a b c d m r u v x y:Int}{rs us vs xs ys zs:List Int}{K N i k l n:Nat}{pos:String}{U e ty xt:TypeId}
variable {af:Array Edge}{g:Option (Nat×Bool)}{dst:Option Nat}
theorem eE:type_of% @Sz.small:=@Sz.small
theorem pp:type_of% @Dw.weak:=@Dw.weak
theorem oL:type_of% @Int.zero_mul:=@Int.zero_mul
theorem ra:type_of% @Int.lt_trichotomy:=@Int.lt_trichotomy
theorem sb:type_of% @Bool.not_false:=@Bool.not_false
theorem zl:type_of% @Int.mul_eq_zero:=@Int.mul_eq_zero
theorem DK (w:Lim xs) (D:Lim ys) (hn:xs.length<=100000000) (hm:ys.length<=100000000):Ok Tryz.prog 254 [.c (cM xs),.c (cM ys)] [.c (cL (val xs*val ys))]:=by
 refine fg Tryz.func254 68 [.tmp 4] rfl<|ab<|ag<|ab<|ag ?_;refine ar (b9 ((xs.length:Int)+(ys.length:Int)) (aT (by(first|omega|(simp;omega))) (by(first|omega|(simp;omega)))) rfl) ?_;refine DL.mk<|tA (m9 (n:=xs.length+ys.length) wy rfl rfl (by(first|omega|(simp;omega))) (by(first|omega|(simp;omega))) rfl) rfl<|fa ?_;refine ab<|ab<|ag<|aw<|bF (ι:={t:Nat×List Int // TInv xs ys t.1 0 0 t.2}) (fun i=>⟨68,[(0,.v (.c (cM xs))),(1,.v (.c (cM ys))),(5,.o 14 (xs.length+ys.length) (xs.length+ys.length)),(6,.v (.c (.i .i64 (i.1.1:Int))))],[(14,255,i.1.2.map (CellD.i .u32))]⟩) (fun i=>xs.length-i.1.1) ⟨(0,List.replicate (xs.length+ys.length) 0),TInv.start⟩ (al ⟨rfl,rfl,rfl,rfl,trivial⟩ ⟨by rw[show(List.replicate (xs.length+ys.length) (CellD.i .u32 0))=(List.replicate (xs.length+ys.length) 0).map (CellD.i .u32) from by simp];rfl,trivial⟩ rfl) ?_;rintro⟨⟨j,zs⟩,h⟩;replace h:TInv xs ys j 0 0 zs:=h;have g5:=h.ik;have g6:=h.len;dsimp only;refine ab<|ab<|ag ?_;refine aA rfl (fun E=>?_) (fun E=>?_)
 ·have J:j<xs.length:=by simp only[decide_eq_true_eq] at E;omega
  refine au<|ab<|aw<|ab<|ag<|ab<|ab<|ag<|aw<|bF (ι:={t:Nat×Int×List Int // TInv xs ys j t.1 t.2.1 t.2.2}) (fun i=>⟨68,[(0,.v (.c (cM xs))),(1,.v (.c (cM ys))),(5,.o 14 (xs.length+ys.length) (xs.length+ys.length)),(6,.v (.c (.i .i64 (j:Int)))),(7,.v (.c (.i .u64 i.1.2.1))),(8,.v (.c (.i .i64 (i.1.1:Int))))],[(14,255,i.1.2.2.map (CellD.i .u32))]⟩) (fun i=>ys.length-i.1.1) ⟨(0,0,zs),h⟩ (al ⟨rfl,rfl,rfl,rfl,rfl,rfl,trivial⟩ ⟨rfl,trivial⟩ rfl) ?_;clear h g6;rintro⟨⟨k,c,zs⟩,h⟩;replace h:TInv xs ys j k c zs:=h;have g1:=cW w j;have g2:=cW D k;have g8:=cW h.L (j+k);have g3:=h.c0;have g4:=h.c1;have g5:=h.ik;have g7:=h.kk;have g6:=h.len;dsimp only;refine ab<|ab<|ag ?_;refine aA rfl (fun H=>?_) (fun H=>?_)
  ·have W:k<ys.length:=by simp only[decide_eq_true_eq] at H;omega
   have a1:0<=xs.getD j 0*ys.getD k 0:=mh g1.1 g2.1;have a2:xs.getD j 0*ys.getD k 0<=999999999*999999999:=qR (by omega) (by omega) g2.1 (by omega);refine au<|ab<|aw<|ab<|nP 22 rfl rfl<|dU 4<|bG (b9 ((j:Int)+(k:Int)) (aT (by omega) (by omega)) rfl) ?_;refine bG (bO jb rfl rfl (by(first|omega|(simp;omega))) rfl) ?_;refine bG (cK eZ rfl rfl (adP (i:=j+k) (by(first|omega|(simp;omega)))) rfl) ?_;refine bG (bj (r:=zs.getD (j+k) 0) jr fB rfl (iF (by(first|omega|(simp;omega))) (by(first|omega|(simp;omega)))) rfl) ?_;refine bG (b9 (c+(zs.getD (j+k) 0)) (fD (by(first|omega|(simp;omega))) (by(first|omega|(simp;omega)))) rfl) ?_;refine dU 2 ?_;refine bG (ba jb rfl rfl (by(first|omega|(simp;omega))) (jf _) rfl rfl) ?_;refine bG (bH eZ rfl (j5 (i:=j) (by(first|omega|(simp;omega)))) rfl) ?_;refine bG (bj (r:=xs.getD j 0) jr fB rfl (iF (by(first|omega|(simp;omega))) (by(first|omega|(simp;omega)))) rfl) ?_;refine dU 2 ?_;refine bG (ba jb rfl rfl (by(first|omega|(simp;omega))) (jf _) rfl rfl) ?_;refine bG (bH eZ rfl (j5 (i:=k) (by(first|omega|(simp;omega)))) rfl) ?_;refine bG (bj (r:=ys.getD k 0) jr fB rfl (iF (by(first|omega|(simp;omega))) (by(first|omega|(simp;omega)))) rfl) ?_;refine bG (b9 ((xs.getD j 0)*(ys.getD k 0)) (gP (by(first|omega|(simp;omega))) (by(first|omega|(simp;omega)))) rfl) ?_;refine bG (b9 ((c+(zs.getD (j+k) 0))+((xs.getD j 0)*(ys.getD k 0))) (fD (by(first|omega|(simp;omega))) (by(first|omega|(simp;omega)))) rfl) ?_;refine Cl<|dE<|ce<|ab<|cB<|i9 3<|cV (b9 ((j:Int)+(k:Int)) (aT (by omega) (by omega)) rfl)<|i9 1<|cV (fR (r:=(c+zs.getD (j+k) 0+xs.getD j 0*ys.getD k 0)%1000000000) rfl rfl (by omega) (lI (by omega)) rfl) ?_;refine cV (bj (r:=(c+zs.getD (j+k) 0+xs.getD j 0*ys.getD k 0)%1000000000) fB jr rfl (re (by omega) (by omega)) rfl) ?_;refine cV (bO jb rfl rfl (by(first|omega|(simp;omega))) rfl) ?_;refine iQ (bh (us:=(zs.set (j+k) ((c+zs.getD (j+k) 0+xs.getD j 0*ys.getD k 0)%1000000000)).map (CellD.i .u32)) eZ rfl rfl rfl rfl (by simp;omega) (pW (by(first|omega|(simp;omega)))) rfl) ?_;refine ce<|ag<|ar (jJ (r:=(c+zs.getD (j+k) 0+xs.getD j 0*ys.getD k 0)/1000000000) rfl rfl (by omega) (by rw[sT (by omega)];exact iF (by omega) (by omega)) rfl) ?_;refine ag ?_;refine ar (b9 ((k:Int)+1) (aT (by(first|omega|(simp;omega))) (by(first|omega|(simp;omega)))) rfl) ?_;exact⟨⟨(k+1,(c+zs.getD (j+k) 0+xs.getD j 0*ys.getD k 0)/1000000000,zs.set (j+k) ((c+zs.getD (j+k) 0+xs.getD j 0*ys.getD k 0)%1000000000)),h.step w D J W rfl⟩,al ⟨rfl,rfl,rfl,rfl,rfl,by rw[show((k+1:Nat):Int)=(k:Int)+1 from by omega];rfl,trivial⟩ ⟨rfl,trivial⟩ rfl,by show ys.length-(k+1)<ys.length-k;omega⟩
  ·have W:k=ys.length:=by simp only[decide_eq_false_iff_not] at H;omega
   refine bn<|cB<|i9 4 ?_;refine cV (b9 ((j:Int)+(ys.length:Int)) (aT (by(first|omega|(simp;omega))) (by(first|omega|(simp;omega)))) rfl) ?_;refine i9 1<|cV (bj (r:=c) fB jr rfl (re (by omega) (by omega)) rfl) ?_;refine cV (bO jb rfl rfl (by(first|omega|(simp;omega))) rfl) ?_;refine iQ (bh (us:=(zs.set (j+ys.length) c).map (CellD.i .u32)) eZ rfl rfl rfl rfl (by simp;omega) (pW (by(first|omega|(simp;omega)))) rfl) ?_;refine ce<|ag ?_;refine ar (b9 ((j:Int)+1) (aT (by(first|omega|(simp;omega))) (by(first|omega|(simp;omega)))) rfl) ?_;exact⟨⟨(j+1,zs.set (j+ys.length) c),h.row J W⟩,al ⟨rfl,rfl,rfl,by rw[show((j+1:Nat):Int)=(j:Int)+1 from by omega];rfl,trivial⟩ ⟨rfl,trivial⟩ rfl,by show xs.length-(j+1)<xs.length-j;omega⟩
 ·have J:j=xs.length:=by simp only[decide_eq_false_iff_not] at E;omega
  have I:val xs*val ys=val zs:=(h.done J).symm;have a0:Lim zs:=h.L;refine bn<|ab ?_;refine u4 (t:=5) (zs:=zs) (ys:=zs) rfl rfl (by first|omega|(simp;omega)|simp) (by omega) (by omega) (f9 (by first|omega|(simp;omega)|simp)) ?_;refine ag<|ac rfl (kv a0 (by omega))<|bc ?_;rw[I];exact ah (aj aa)
theorem Ki (h:Lim xs) (D:xs.length<=100000000) (E:0<=m) (w:m<1000000000):Ok Tryz.prog 318 [.c (cM xs),.c (.i .u32 m)] [.c (cL (val xs*m))]:=by
 have j:val [m]=m:=by simp[val]
 refine cj Tryz.func318 rfl<|ar (vW wy rfl rfl) ?_;refine ac rfl (kv (Lim.nil.cons E w) (eQ rfl))<|ac rfl (DK h (bD _) D (gD (x:=val [m]) (k:=100000000) (by rw[j];exact eE (by omega) (by omega) (by omega))))<|ah ?_;rw[show val xs*m=val xs*val (cX (val [m]).natAbs) from by rw[bR,show(((val [m]).natAbs:Nat):Int)=m from by simp[val];omega]];exact aj aa
theorem IY (w:Lim xs) (D:Lim ys) (nX:Nrm xs) (nY:Nrm ys) (hn:xs.length<=100000000) (_hm:ys.length<=100000000):Ok Tryz.prog 256 [.c (cM xs),.c (cM ys)] [.c (.i .i64 (dC (val xs) (val ys)))]:=by
 refine fg Tryz.func256 41 [.tmp 4] rfl<|ab<|ag<|ab<|ab<|ag ?_;refine aA rfl (fun J=>?_) (fun J=>?_)
 ·have a1:xs.length≠ys.length:=by simp only[bne_iff_ne,ne_eq] at J;omega
  refine ab<|ab<|ag ?_;refine aA rfl (fun W=>?_) (fun W=>?_)
  ·have h:dC (val xs) (val ys)= -1:=eg (AK nY w D (by simp only[decide_eq_true_eq] at W;omega));refine ab<|ag<|bc ?_;rw[h];exact ah (aj aa)
  ·have h:dC (val xs) (val ys)=1:=eA (AK nX D w (by simp only[decide_eq_false_iff_not] at W;omega));refine au<|ab<|ag<|bc ?_;rw[h];exact ah (aj aa)
 ·have a0:xs.length=ys.length:=by simp only[bne_eq_false_iff_eq] at J;omega
  refine au<|ab<|ab<|ag ?_;refine ar (b9 ((xs.length:Int)-1) (ci (by(first|omega|(simp;omega))) (by(first|omega|(simp;omega)))) rfl) ?_;refine aw<|bF (ι:={j:Nat // j<=xs.length/\xs.drop j=ys.drop j}) (fun i=>⟨41,[(0,.v (.c (cM xs))),(1,.v (.c (cM ys))),(5,.v (.c (.i .i64 ((i.1:Int)-1))))],[]⟩) (fun i=>i.1) ⟨xs.length,bd _,by rw[pG (bd _),pG (by omega)]⟩ (al ⟨rfl,rfl,rfl,trivial⟩ trivial rfl) ?_;rintro⟨j,hj,hD⟩;dsimp only;refine ab<|ab<|ag ?_;refine aA rfl (fun I=>?_) (fun I=>?_)
  ·obtain⟨q,rfl⟩: ∃q,j=q+1:=⟨j-1,by simp only[decide_eq_true_eq] at I;omega⟩;have e1:=getD_some (xs:=xs) (i:=q) (by omega);have e2:=getD_some (xs:=ys) (i:=q) (by omega);refine pp (σ':=⟨41,[(0,.v (.c (cM xs))),(1,.v (.c (cM ys))),(5,.v (.c (.i .i64 (q:Int))))],[]⟩) (al ⟨rfl,rfl,by rw[show(q:Int)=((q+1:Nat):Int)-1 from by omega];rfl,trivial⟩ trivial rfl) ?_;refine au<|ab<|aw<|ab<|ab<|fk 9 [] ?_;refine aq (ba jb rfl rfl (by(first|omega|(simp;omega))) (jf _) rfl rfl) ?_;refine aq (bH eZ rfl (j5 (i:=q) (by(first|omega|(simp;omega)))) rfl) ?_;refine aq (ba jb rfl rfl (by(first|omega|(simp;omega))) (jf _) rfl rfl) ?_;refine aq (bH eZ rfl (j5 (i:=q) (by(first|omega|(simp;omega)))) rfl) ?_;refine aA rfl (fun E=>?_) (fun E=>?_)
   ·have h:dC (val xs) (val ys)= -1:=eg (Fg w D e1 e2 hD (by simpa using E));refine ab<|ag<|bc ?_;rw[h];exact ah (aj aa)
   ·have a2: ¬xs.getD q 0<ys.getD q 0:=by simpa using E
    refine au<|ab<|fk 9 [] ?_;refine aq (ba jb rfl rfl (by(first|omega|(simp;omega))) (jf _) rfl rfl) ?_;refine aq (bH eZ rfl (j5 (i:=q) (by(first|omega|(simp;omega)))) rfl) ?_;refine aq (ba jb rfl rfl (by(first|omega|(simp;omega))) (jf _) rfl rfl) ?_;refine aq (bH eZ rfl (j5 (i:=q) (by(first|omega|(simp;omega)))) rfl) ?_;refine aA rfl (fun H=>?_) (fun H=>?_)
    ·have h:dC (val xs) (val ys)=1:=eA (Fg D w e2 e1 hD.symm (by simpa using H));refine ab<|ag<|bc ?_;rw[h];exact ah (aj aa)
    ·have a3: ¬xs.getD q 0>ys.getD q 0:=by simpa using H
     refine au<|ag ?_;refine ar (b9 ((q:Int)-1) (ci (by(first|omega|(simp;omega))) (by(first|omega|(simp;omega)))) rfl) ?_;exact⟨⟨q,by omega,OU (by omega) (by omega) hD (by omega)⟩,al ⟨rfl,rfl,rfl,trivial⟩ trivial rfl,by show q<q+1;omega⟩
  ·have hz:j=0:=by simp only[decide_eq_false_iff_not] at I;omega
   have h:dC (val xs) (val ys)=0:=by subst hz;simp only[lE] at hD;rw[hD];exact jN rfl
   refine bn<|ab<|ag<|bc ?_;rw[h];exact ah (aj aa)
theorem yZ (h:Lim xs) (hn:xs.length<=100000000) (J:val xs<=18446744073709551615):Ok Tryz.prog 259 [.c (cM xs)] [.c (.i .u64 (val xs))]:=by
 refine fg Tryz.func259 21 [.tmp 2] rfl<|ab<|ag<|ab<|ag<|ab<|ab<|ag ?_;refine ar (b9 ((xs.length:Int)-1) (ci (by(first|omega|(simp;omega))) (by(first|omega|(simp;omega)))) rfl) ?_;refine aw<|bF (ι:={t:Nat×Int // ShInv xs t.1 t.2}) (fun i=>⟨21,[(0,.v (.c (cM xs))),(3,.v (.c (.i .u64 i.1.2))),(4,.v (.c (.i .i64 ((i.1.1:Int)-1))))],[]⟩) (fun i=>i.1.1) ⟨(xs.length,0),⟨Nat.le_refl _,p7 0,by rw[ud];simp⟩⟩ (al ⟨rfl,rfl,rfl,trivial⟩ trivial rfl) ?_;rintro⟨⟨j,r⟩,D⟩;replace D:ShInv xs j r:=D;have g5:=D.le;have W:=D.r0;dsimp only;refine ab<|ab<|ag ?_;refine aA rfl (fun w=>?_) (fun w=>?_)
 ·obtain⟨q,rfl⟩: ∃q,j=q+1:=⟨j-1,by simp only[decide_eq_true_eq] at w;omega⟩;have H:=D.step h;have hB:=H.bound h;have g1:=cW h q;refine pp (σ':=⟨21,[(0,.v (.c (cM xs))),(3,.v (.c (.i .u64 r))),(4,.v (.c (.i .i64 (q:Int))))],[]⟩) (al ⟨rfl,rfl,by rw[show(q:Int)=((q+1:Nat):Int)-1 from by omega];rfl,trivial⟩ trivial rfl) ?_;refine au<|ab<|aw<|ag ?_;refine ar (b9 (r*1000000000) (gP (by(first|omega|(simp;omega))) (by(first|omega|(simp;omega)))) rfl) ?_;refine ar (ba jb rfl rfl (by(first|omega|(simp;omega))) (jf _) rfl rfl) ?_;refine ar (bH eZ rfl (j5 (i:=q) (by(first|omega|(simp;omega)))) rfl) ?_;refine ar (bj (r:=xs.getD q 0) jr fB rfl (iF (by(first|omega|(simp;omega))) (by(first|omega|(simp;omega)))) rfl) ?_;refine ar (b9 ((r*1000000000)+(xs.getD q 0)) (fD (by(first|omega|(simp;omega))) (by(first|omega|(simp;omega)))) rfl) ?_;refine ag ?_;refine ar (b9 ((q:Int)-1) (ci (by(first|omega|(simp;omega))) (by(first|omega|(simp;omega)))) rfl) ?_;exact⟨⟨(q,r*1000000000+xs.getD q 0),H⟩,al ⟨rfl,rfl,rfl,trivial⟩ trivial rfl,by show q<q+1;omega⟩
 ·have I:j=0:=by simp only[decide_eq_false_iff_not] at w;omega
  have E:val xs=r:=by subst I;have:=D.v;simp[val,su] at this;omega
  refine bn<|ab<|ag<|bc ?_;rw[E];exact ah (aj aa)
theorem KD {neg:Bool}(w:Lim xs) (E:xs.length<=1000000000):Ok Tryz.prog 171 [.c (.b neg),.c (cM xs)] [dI (sg neg (val xs))]:=by
 refine cj Tryz.func171 rfl<|ac rfl (kv w (by omega)) ?_;refine jC (aQ rfl) (fun D j=>?_);cases D
 ·have h:dI (sg neg (val xs))=.a ([.b false]++[cL (val xs)]):=by rw[j,cr];unfold dI cI;rw[show decide (val xs<0)=false from by have:=cm w;simp;omega];rfl
  refine ar (az (us:=([.b false]++[cL (val xs)])) KS Dk rfl rfl rfl) ?_;refine ah ?_;rw[h];exact a7 ep rfl aa
 ·have h:dI (sg neg (val xs))=.a ([.b (decide (((cX (val xs).natAbs).length:Int)>0))]++[cL (val xs)]):=by rw[j];exact Xw (cm w)
  refine ar (az (us:=([.b (decide ((((cX (val xs).natAbs).length:Int))>0))]++[cL (val xs)])) KS Dk rfl rfl rfl) ?_;refine ah ?_;rw[h];exact a7 ep rfl aa
theorem RX (h:0<r):cX r.toNat=(r%1000000000)::cX (r/1000000000).toNat:=by
 rw[AF (by omega)];congr 1;·omega
 ·congr 1;omega
set_option maxHeartbeats 1000000 in
set_option maxRecDepth 10000 in
theorem Kl (u:Int) (w:World) (h0:0<=u) (h1:u<=18446744073709551615):
 Calls Tryz.prog 172 #[.int .u64 u] w fun e w'=> ∃v,e=.returned v/\w'.ownsRow w.heap.size 255 1 v (cX u.toNat).length ((cX u.toNat).map (Value.int .u32))/\Below w.heap.size w w':=by
 obtain⟨i0,W,a2,a1,a0⟩:=info_parts nj
 have E:(cX u.toNat).length<=3:=by
  refine(jc _).len (bD _) ?_;rw[bR];have h3:pw 3=1000000000000000000000000000:=by decide
  omega
 go_enter Tryz.func172,Tryz.ntmps172
 go_wp2_with fail
 go_loopw [0,3] (fun n v wr=> ∃(r:Int) (k:Nat) (zs:List Int),n=.int .u64 r/\0<=r/\r<=u/\wr.ownsRow w.heap.size 255 1 v k (zs.map (Value.int .u32))/\Below w.heap.size w wr/\Hid (zs.length=k/\cX u.toNat=zs++cX r.toNat))
  (fun n _ _=>(intOf n).toNat)
 case atStart=>exact⟨u,0,[],rfl,h0,p7 _,pB _ _ _ _,ef _ _,rfl,rfl⟩
 case round=>
  obtain⟨r,k,zs,rfl,J,a3,h,j,H⟩:=hrel
  have hz:=j.size
  by_cases hr:0<r
  ·have Hs:Hid ((zs++[r%1000000000]).length=k+1/\cX u.toNat=(zs++[r%1000000000])++cX (r/1000000000).toNat):=by obtain⟨l1,l2⟩:=H.out;refine⟨by simp[l1],?_⟩;rw[l2,RX hr];simp
   have hk:k<=3:=by obtain⟨l1,l2⟩:=H.out;rw[l2] at E;simp at E;omega
   clear H
   have e1:r.tmod 1000000000=r%1000000000:=lI J
   have e2:IntKind.u32.wrap (r%1000000000)=r%1000000000:=re (by omega) (by omega)
   have e3:r.tdiv 1000000000=r/1000000000:=sT J
   have e4:IntKind.u64.wrap (r/1000000000)=r/1000000000:=iF (by omega) (by omega)
   go_wp2_with (at_builtin;go_must (refine wpList_append_own _ rfl _ _ 36 rfl w.heap.size 255 i0 (.int .u32 0) 1 4 nL W a2 a1 a0 rfl (by decide) _ _ _ rfl (h.alloc _) ⟨wr.heap.size,0,none⟩ 1 1 [.int .u32 _] rfl rfl (cell_one_new _ _ _) (by simp[Value.oneCell']) (by unfold maxLen;omega) (by omega) (by simp;omega) ?_);intro v' w1 I D _)
   go_roundw
   case rel=>exact⟨r/1000000000,k+1,_,by first|rfl|(simp[e3,e4]),by omega,by omega,by simpa using I,iY h j hz D,Hs⟩
   case measure=>simp[intOf]<;>omega
  ·obtain rfl:r=0:=by omega
   have Hs:Hid (zs.length=k/\cX u.toNat=zs):=by obtain⟨l1,l2⟩:=H.out;refine⟨l1,?_⟩;rw[l2];simp[ku]
   clear H
   go_wp2
   go_ret
   obtain⟨l1,l2⟩:=Hs.out
   exact⟨_,rfl,by rw[l2,l1];exact h,j⟩
theorem qL (W:0<=u) (h1:u<=18446744073709551615):Ok Tryz.prog 172 [.c (.i .u64 u)] [.c (cL u)]:=⟨by kernel_rfl,fun av vs w D h=>by
 obtain⟨vs⟩:=vs;match vs,h.1,h with
 |[v],_,h=>
  obtain rfl:=fN h.uncons.1;refine(Kl u w W h1).mono ?_;rintro e w' ⟨v,rfl,E,I⟩;obtain⟨A,c,rfl⟩:=BU E;refine⟨_,rfl,?_,I⟩;have H:u.natAbs=u.toNat:=by omega
  have j:=Ow.sl ⟨E,bD _⟩;have:=wC (av:=av) j.1 j.2.1 j.2.2.1 (fun b off e J=>by have:=Ow.fresh (k:=w.heap.size) (⟨E,bD _⟩:Ow w' w.heap.size _ _ _) (bd _) b off e;have:=D b J;omega);show RdC av w' _ (cL u);unfold cL;rw[H];exact this⟩
structure DInv (us:List Int) (V:Int) (N j:Nat) (R:Int) (zs:List Int):Prop where
 le:j<=us.length
 R0:0<=R
 RV:R<V
 L:Lim zs
 len:zs.length=N
 hN:us.length<=N
 v:val (us.drop j)=val ((zs.take us.length).drop j)*V+R
theorem EN (h:i<xs.length):val (xs.drop i)=xs.getD i 0+1000000000*val (xs.drop (i+1)):=by rw[oG h,dG];grind
theorem DInv.start (j:0<V) (h:us.length<=N):DInv us V N us.length 0 (List.replicate N 0):=
 ⟨Nat.le_refl _,p7 _,j,Lim.zeros _,by simp,h,by rw[pG (bd _),pG (by simp;omega)];simp[val]⟩
theorem DInv.step {q w:Int}(h:DInv us V N (i+1) R zs) (_W:Lim us) (H:0<=q) (J:q<1000000000) (D:0<=w) (E:w<V) (he:us.getD i 0+1000000000*R=q*V+w):DInv us V N i w (zs.set i q):=by
 have hi:i<us.length:=h.le;have j:=h.len;have hN:=h.hN;refine⟨by omega,D,E,h.L.set H J,by simp[j],hN,?_⟩;have e1:((zs.set i q).take us.length)=(zs.take us.length).set i q:=by rw[List.take_set]
 have I:i<((zs.take us.length).set i q).length:=by grind
 rw[EN hi,h.v,e1,EN I];have e3:((zs.take us.length).set i q).drop (i+1)=(zs.take us.length).drop (i+1):=by rw[List.drop_set_of_lt (by omega)]
 grind
theorem DInv.done (h:DInv us V N 0 R zs):val us/V=val (zs.take us.length)/\val us%V=R:=by have j:=h.v;simp only[lE] at j;have w:=h.R0;have D:=h.RV;exact(Int.ediv_emod_unique (show 0<V by omega)).2 ⟨by rw[j,sU V];omega,w,D⟩
theorem Ej (w:0<=R) (D:R<V) (j:0<=d) (h:d<1000000000):0<=(d+1000000000*R)/V/\(d+1000000000*R)/V<=999999999:=by refine⟨Int.ediv_nonneg (by omega) (by omega),?_⟩;have:(d+1000000000*R)/V<1000000000:=Int.ediv_lt_of_lt_mul (by omega) (by omega);omega
theorem ZK {T hi top:Int}(H:top*pw n<=V) (h:0<top) (J:T<(hi+1)*pw n) (j:0<=T) (E:0<V):T/V<=hi/top:=by
 have W:T/V*V<=T:=Int.ediv_mul_le _ (by omega);have D:0<=T/V:=rH j (by omega);generalize T/V=q at*;have h2:q*(top*pw n)<=q*V:=pv H D;have I:=dP n;have w:q*top*pw n<(hi+1)*pw n:=by grind
 have h4:q*top<hi+1:=Int.lt_of_mul_lt_mul_right w (by omega);exact(Int.le_ediv_iff_mul_le h).2 (by omega)
structure HInv (rs:List Int) (n:Nat) (H:Int):Prop where
 h0:0<=H
 h1:H<=999999999999999999
 h:val rs<(H+1)*pw (n-1)
theorem Ve (h:Lim rs) (D:1<=n) (hl:rs.length=n+1):HInv rs n (rs.getD n 0*1000000000+rs.getD (n-1) 0):=by have E:=cW h n;have I:=cW h (n-1);refine⟨by omega,by omega,?_⟩;obtain⟨k,rfl⟩: ∃k,n=k+1:=⟨n-1,by omega⟩;have j:=mN (xs:=rs) (k:=k+1) (by omega);have w:=mN (xs:=rs) (k:=k) (by omega);rw[cz (by omega),w] at j;have H:=eK (h.take k);rw[j,d5];grind
theorem VE (h:Lim rs) (E:1<=n) (hl:rs.length=n):HInv rs n (rs.getD (n-1) 0):=by have w:=cW h (n-1);refine⟨by omega,by omega,?_⟩;obtain⟨k,rfl⟩: ∃k,n=k+1:=⟨n-1,by omega⟩;have D:=mN (xs:=rs) (k:=k) (by omega);have j:=eK (h.take k);grind
theorem R7 (h:Lim rs) (hl:rs.length<n):HInv rs n 0:=by refine⟨by omega,by omega,?_⟩;have j:=eK h;have:=nN (n:=rs.length) (m:=n-1) (by omega);omega
theorem IK (j:Lim vs) (w:Nrm vs) (h:vs≠ []):0<vs.getD (vs.length-1) 0/\vs.getD (vs.length-1) 0*pw (vs.length-1)<=val vs:=by
 obtain⟨ys,y,e,E⟩:=w.last h;have hl:vs.length=ys.length+1:=by grind
 have D:vs.length-1<vs.length:=by omega
 have I:=mN D;have H:=cm (j.take (vs.length-1));have J:=cW j (vs.length-1);grind
theorem uN (j:0<=r) (h:r<pw n):(cX r.natAbs).length<=n:=by refine(jc _).len (bD _) ?_;rw[bR];omega
theorem abp {s:Int}(hs:0<s):(x*s)/(y*s)=x/y/\(x*s)%(y*s)=x%y*s:=by refine⟨Int.mul_ediv_mul_of_pos_left x y hs,?_⟩;rw[sU x,sU y,Int.mul_emod_mul_of_pos _ _ hs,sU]
theorem Fp (h:Sz k a):Sz k (a.natAbs:Int):=h.of_le (by omega)
theorem oR (j:Sz 100000000 a) (h:Sz 100000000 b):Ok Tryz.prog 256 [.c (cL a),.c (cL b)] [.c (.i .i64 (dC a.natAbs b.natAbs))]:=by have:=IY (bD a.natAbs) (bD b.natAbs) (jc _) (jc _) (gD j) (gD h);rw[bR,bR] at this;exact this
theorem Vg (j:Sz 100000000 a) (h:Sz 100000000 b):Ok Tryz.prog 255 [.c (cL a),.c (cL b)] [.c (cL ((a.natAbs:Int)+b.natAbs))]:=by have:=S3 (bD a.natAbs) (bD b.natAbs) (gD j) (gD h);rw[bR,bR] at this;exact this
theorem xY (j:Sz 100000000 a) (h:b.natAbs<=a.natAbs):Ok Tryz.prog 257 [.c (cL a),.c (cL b)] [.c (cL ((a.natAbs:Int)-b.natAbs))]:=by have:=Nu (bD a.natAbs) (bD b.natAbs) (gD j) ((jc _).len (bD _) (by have:=eK (bD a.natAbs);rw[bR] at this⊢;omega)) (by rw[bR,bR];omega);rw[bR,bR] at this;exact this
theorem PZ (j:Sz 100000000 a) (h:Sz 100000000 b):Ok Tryz.prog 254 [.c (cL a),.c (cL b)] [.c (cL ((a.natAbs:Int)*b.natAbs))]:=by have:=DK (bD a.natAbs) (bD b.natAbs) (gD j) (gD h);rw[bR,bR] at this;exact this
theorem acC (w:Sz 100000000 a) (h:0<=m) (j:m<1000000000):Ok Tryz.prog 318 [.c (cL a),.c (.i .u32 m)] [.c (cL ((a.natAbs:Int)*m))]:=by have:=Ki (bD a.natAbs) (gD w) h j;rw[bR] at this;exact this
theorem iw {neg:Bool}(h:Sz 100000000 a):Ok Tryz.prog 171 [.c (.b neg),.c (cL a)] [dI (sg neg (a.natAbs:Int))]:=by have:=KD (neg:=neg) (bD a.natAbs) (by have:=gD h;omega);rw[bR] at this;exact this
theorem T8 (w:0<=r) (j:0<=d) (h:d<1000000000) (hl:(cX r.natAbs).length<=100000000):Ok Tryz.prog 251 [.c (cM (d::cX r.natAbs))] [.c (cL (d+1000000000*r))]:=by have:=kv (Lim.cons j h (bD r.natAbs)) (by simp;omega);rw[dG,bR] at this;rw[show((r.natAbs:Nat):Int)=r from by omega] at this;exact this
theorem Jp (j:a.natAbs<=18446744073709551615):Ok Tryz.prog 259 [.c (cL a)] [.c (.i .u64 (a.natAbs:Int))]:=by
 have:=yZ (bD a.natAbs) (by have h:pw 3=1000000000000000000000000000:=by decide
                            have:=(jc a.natAbs).len (bD _) (k:=3) (by rw[bR];omega)
                            omega) (by rw[bR];omega)
 rw[bR] at this;exact this
theorem NO (I:Lim xs) (D:Lim ys) (_nX:Nrm xs) (nY:Nrm ys) (hn:xs.length<=20000000) (hm:ys.length<=20000000) (c9:ys≠ []):Ok Tryz.prog 258 [.c (cM xs),.c (cM ys)] [.c (cL (val xs/val ys)),.c (cL (val xs%val ys))]:=by
 have n0:1<=ys.length:=by have:=List.length_pos_iff.2 c9;omega
 obtain⟨f3,b6⟩:=IK D nY c9;have i5:=cW D (ys.length-1);have g4:0<val ys:=by have h2:=pv (dP (ys.length-1)) (show 0<=ys.getD (ys.length-1) 0 by omega);omega
 have b1:=cm I;obtain⟨B,hB⟩: ∃B,ys.getD (ys.length-1) 0=B:=⟨_,rfl⟩;rw[hB] at f3 i5 b6;obtain⟨s,hs⟩: ∃s,1000000000/(B+1)=s:=⟨_,rfl⟩;have p3:1<=s:=by rw[<-hs];exact(Int.le_ediv_iff_mul_le (by omega)).2 (by omega)
 have m3:s<=500000000:=by rw[<-hs];exact Int.ediv_le_of_le_mul (by omega) (by omega)
 obtain⟨V,hV⟩: ∃V,val ys*s=V:=⟨_,rfl⟩;obtain⟨W,hW⟩: ∃W,val xs*s=W:=⟨_,rfl⟩;have a5:0<V:=by rw[<-hV];exact Int.mul_pos g4 (by omega)
 have k7:0<=W:=by rw[<-hW];exact mh b1 (by omega)
 have eV:(V.natAbs:Int)=V:=by omega
 have eW:(W.natAbs:Int)=W:=by omega
 have i6:V<pw (ys.length+1):=by have J:=eK D;have h2:val ys*s<=val ys*1000000000:=pv (by omega) (by omega);rw[d5];omega
 have h8:W<pw (xs.length+1):=by have J:=eK I;have h2:val xs*s<=val xs*1000000000:=pv (by omega) (by omega);rw[d5];omega
 have b8:(cX V.natAbs).length<=ys.length+1:=uN (by omega) i6;have b4:(cX W.natAbs).length<=xs.length+1:=uN k7 h8;have b0:cX V.natAbs≠ []:=fun e=>by have:=dM.1 e;omega
 have g1:1<=(cX V.natAbs).length:=by have:=List.length_pos_iff.2 b0;omega
 obtain⟨a4,w⟩:=IK (bD V.natAbs) (jc _) b0;have k2:=cW (bD V.natAbs) ((cX V.natAbs).length-1);rw[bR,eV] at w;obtain⟨top,ht⟩: ∃top,(cX V.natAbs).getD ((cX V.natAbs).length-1) 0=top:=⟨_,rfl⟩;rw[ht] at a4 w k2;obtain⟨n,a0⟩: ∃n,(cX V.natAbs).length=n:=⟨_,rfl⟩;rw[a0] at b8 g1 w ht;have l7:V<pw n:=by have:=eK (bD V.natAbs);rw[bR,eV,a0] at this;exact this
 obtain⟨f4,e5⟩:=abp (x:=val xs) (y:=val ys) (s:=s) (by omega);rw[hV,hW] at f4 e5;have h6:Sz 100000000 V:=⟨by have:=nN (n:=ys.length+1) (m:=100000000) (by omega);omega,by have:=dP 100000000;omega⟩;have g5:Ok Tryz.prog 318 [.c (cM ys),.c (.i .u32 s)] [.c (cL V)]:=by rw[<-hV];exact Ki D (by omega) (by omega) (by omega)
 have e2:Ok Tryz.prog 318 [.c (cM xs),.c (.i .u32 s)] [.c (cL W)]:=by rw[<-hW];exact Ki I (by omega) (by omega) (by omega)
 have e3: ∀g:Int,0<=g->g<1000000000->Ok Tryz.prog 318 [.c (cL V),.c (.i .u32 g)] [.c (cL (V*g))]:=fun g h0 J=>by have:=acC h6 h0 J;rw[eV] at this;exact this
 refine fg Tryz.func258 173 [.tmp 4,.tmp 5] rfl<|ab<|ag ?_;refine iq (ι:=Unit) (fun i=>⟨173,[(0,.v (.c (cM xs))),(1,.v (.c (cM ys)))],[]⟩) ?_ ?_
 ·refine ab<|ag ?_;refine jC (aQ rfl) (fun c1 h3=>?_);cases c1
  ·refine cT rfl<|au ?_;exact⟨(),al ⟨rfl,rfl,trivial⟩ trivial rfl⟩
  ·have h7:xs.length<=2:=by simp only[decide_eq_true_eq] at h3;omega
   refine aA rfl (fun e6=>?_) (fun e6=>?_)
   ·have j4:ys.length<=2:=by simp only[decide_eq_true_eq] at e6;omega
    have o0:pw 2=1000000000000000000:=by decide
    have l3:=eK I;have l4:=eK D;have p2:=nN (n:=xs.length) (m:=2) h7;have o8:=nN (n:=ys.length) (m:=2) j4;have n3:0<=val xs/val ys:=rH (by omega) (by omega);have p0:val xs/val ys<=val xs:=Int.ediv_le_self _ (by omega);have n4:val xs/val ys<=18446744073709551615:=by omega
    have p1:0<=val xs%val ys:=p5 _ (by omega);have p4:val xs%val ys<val ys:=pg _ (by omega);have m1:val xs%val ys<=18446744073709551615:=by omega
    refine ab<|ag<|ac rfl (yZ I (by omega) (by omega))<|ac rfl (yZ D (by omega) (by omega))<|ab<|fk 10 []<|aq (jJ (r:=val xs/val ys) rfl rfl (by omega) (by rw[sT (by omega)];exact iF (by omega) (by omega)) rfl) ?_;refine aG rfl (qL (by assumption) (by assumption))<|aq (fR (r:=val xs%val ys) rfl rfl (by omega) (lI b1) rfl) ?_;refine aG rfl (qL (by assumption) (by assumption))<|bc ?_;exact ah (aj (aj aa))
   ·refine au ?_;exact⟨(),al ⟨rfl,rfl,trivial⟩ trivial rfl⟩
 ·rintro⟨⟩;try dsimp only
  refine ab<|ag ?_;refine ar (b9 (((ys.length-1:Nat):Int)) (by rw[show((ys.length-1:Nat):Int)=(ys.length:Int)-1 from by omega];exact ci (by omega) (by omega)) rfl) ?_;refine ar (ba jb rfl rfl (by(first|omega|(simp;omega))) (jf _) rfl rfl) ?_;refine ar (bH eZ rfl (j5 (i:=(ys.length-1)) (by(first|omega|(simp;omega)))) rfl) ?_;refine ar (bj (r:=B) jr fB rfl (by rw[hB];exact iF (by omega) (by omega)) rfl) ?_;refine ar (b9 (B+1) (fD (by(first|omega|(simp;omega))) (by(first|omega|(simp;omega)))) rfl) ?_;refine ar (jJ (r:=s) rfl rfl (by omega) (by rw[sT (by omega),hs];exact iF (by omega) (by omega)) rfl) ?_;refine ar (bj (r:=s) fB jr rfl (re (by omega) (by omega)) rfl) ?_;refine ab<|ag<|ac rfl (g5)<|ab<|ag ?_;refine ar (b9 (((n-1:Nat):Int)) (by rw[a0,show((n-1:Nat):Int)=(n:Int)-1 from by omega];exact ci (by omega) (by omega)) rfl) ?_;refine ar (ba jb rfl rfl (by(first|omega|(simp;omega))) (jf _) rfl rfl) ?_;refine ar (bH eZ rfl (j5 (i:=(n-1)) (by(first|omega|(simp;omega)))) rfl) ?_;refine ar (bj (r:=top) jr fB rfl (by rw[ht];exact iF (by omega) (by omega)) rfl) ?_;refine ab<|ag<|ab<|ag ?_;refine ar (b9 ((xs.length:Int)+1) (aT (by(first|omega|(simp;omega))) (by(first|omega|(simp;omega)))) rfl) ?_;refine DL.mk<|tA (m9 (n:=xs.length+1) wy rfl rfl (by omega) (by omega) rfl) rfl<|fa ?_;refine ab<|ag<|ac rfl (e2)<|ab<|ag ?_;refine ar (kZ (q:=((cX W.natAbs).length)) jb rfl rfl (by(first|omega|(simp;omega))) rfl) ?_;refine ab<|ab<|ag ?_;refine ar (b9 ((((cX W.natAbs).length:Int))-1) (ci (by(first|omega|(simp;omega))) (by(first|omega|(simp;omega)))) rfl) ?_;refine aw<|bF (ι:={t:Nat×Int×List Int // DInv (cX W.natAbs) V (xs.length+1) t.1 t.2.1 t.2.2}) (fun i=>⟨173,[(8,.v (.c (.i .u32 s))),(9,.v (.c (cL V))),(10,.v (.c (.i .u64 top))),(11,.v (.c (cL i.1.2.1))),(12,.o 64 ((cX W.natAbs).length) (xs.length+1)),(13,.v (.c (cL W))),(14,.v (.c (.i .i64 ((i.1.1:Int)-1))))],[(64,255,i.1.2.2.map (CellD.i .u32))]⟩) (fun i=>i.1.1) ⟨((cX W.natAbs).length,0,List.replicate (xs.length+1) 0),DInv.start a5 b4⟩ (al ⟨rfl,rfl,rfl,by rw[show cL 0=.s 0 [] from by unfold cL;rw[show(0:Int).natAbs=0 from rfl,ku];rfl];rfl,rfl,rfl,rfl,trivial⟩ ⟨by rw[show(List.replicate (xs.length+1) (CellD.i .u32 0))=(List.replicate (xs.length+1) 0).map (CellD.i .u32) from by simp];rfl,trivial⟩ rfl) ?_;rintro⟨⟨j,R,zs⟩,hI⟩;replace hI:DInv (cX W.natAbs) V (xs.length+1) j R zs:=hI;have g6:=hI.len;have c5:=hI.R0;have i0:=hI.RV;have m2:=hI.le;have eR:(R.natAbs:Int)=R:=by omega
  have k5:(cX R.natAbs).length<=n:=uN c5 (by omega);dsimp only;refine ab<|ab<|ag ?_;refine aA rfl (fun b3=>?_) (fun b3=>?_)
  ·obtain⟨q,rfl⟩: ∃q,j=q+1:=⟨j-1,by simp only[decide_eq_true_eq] at b3;omega⟩;have gd:=cW (bD W.natAbs) q;obtain⟨T,hT⟩: ∃T,(cX W.natAbs).getD q 0+1000000000*R=T:=⟨_,rfl⟩;have e4:0<=T:=by omega
   have eT:(T.natAbs:Int)=T:=by omega
   have b5:Ok Tryz.prog 251 [.c (cM ((cX W.natAbs).getD q 0::cX R.natAbs))] [.c (cL T)]:=by rw[<-hT];exact T8 c5 gd.1 gd.2 (by omega)
   have k3:T<pw (n+1):=by rw[d5];omega
   have j3:(cX T.natAbs).length<=n+1:=uN e4 k3;have c8:Sz 100000000 T:=⟨by have:=nN (n:=n+1) (m:=100000000) (by omega);omega,by have:=dP 100000000;omega⟩;have a9:=Ej c5 i0 gd.1 gd.2;rw[hT] at a9;have h4:=cW (bD T.natAbs) (cX V.natAbs).length;have o3:=cW (bD T.natAbs) (n-1);refine pp (σ':=⟨173,[(8,.v (.c (.i .u32 s))),(9,.v (.c (cL V))),(10,.v (.c (.i .u64 top))),(11,.v (.c (cL R))),(12,.o 64 ((cX W.natAbs).length) (xs.length+1)),(13,.v (.c (cL W))),(14,.v (.c (.i .i64 (q:Int))))],[(64,255,zs.map (CellD.i .u32))]⟩) (al ⟨rfl,rfl,rfl,rfl,rfl,rfl,by rw[show(q:Int)=((q+1:Nat):Int)-1 from by omega];rfl,trivial⟩ ⟨rfl,trivial⟩ rfl) ?_;refine au<|ab<|aw<|ab<|cB<|i9 2 ?_;refine cV (ba jb rfl rfl (by(first|omega|(simp;omega))) (jf _) rfl rfl) ?_;refine cV (bH eZ rfl (j5 (i:=q) (by(first|omega|(simp;omega)))) rfl) ?_;refine tA (rb (us:=[.i .u32 ((cX W.natAbs).getD q 0)]) wy rfl rfl (by decide) (by decide) rfl) rfl ?_;refine i9 1<|SE (Dg (rs:=cX R.natAbs) wy rfl rfl rfl (by omega) rfl) ?_;refine cV (j9 rfl (b5))<|jA<|ab<|ag ?_;refine iq (ι:={H:Int // H=if n<(cX T.natAbs).length then(cX T.natAbs).getD n 0*1000000000 else 0}) (fun i=>⟨173,[(8,.v (.c (.i .u32 s))),(9,.v (.c (cL V))),(10,.v (.c (.i .u64 top))),(11,.v (.c (cL T))),(12,.o 64 ((cX W.natAbs).length) (xs.length+1)),(13,.v (.c (cL W))),(14,.v (.c (.i .i64 (q:Int)))),(15,.v (.c (.i .u64 i.1)))],[(64,255,zs.map (CellD.i .u32))]⟩) ?_ ?_
   ·refine ab<|ag ?_;refine aA rfl (fun a6=>?_) (fun a6=>?_)
    ·have h9:(cX V.natAbs).length<(cX T.natAbs).length:=by simp only[decide_eq_true_eq] at a6;omega
     refine ag ?_;refine ar (ba jb rfl rfl (by(first|omega|(simp;omega))) (jf _) rfl rfl) ?_;refine ar (bH eZ rfl (j5 (i:=((cX V.natAbs).length)) (by(first|omega|(simp;omega)))) rfl) ?_;refine ar (bj (r:=(cX T.natAbs).getD (((cX V.natAbs).length)) 0) jr fB rfl (iF (by(first|omega|(simp;omega))) (by(first|omega|(simp;omega)))) rfl) ?_;refine ar (b9 (((cX T.natAbs).getD (((cX V.natAbs).length)) 0)*1000000000) (gP (by(first|omega|(simp;omega))) (by(first|omega|(simp;omega)))) rfl) ?_;exact⟨⟨(cX T.natAbs).getD (cX V.natAbs).length 0*1000000000,by rw[a0] at*;rw[if_pos (by have:=a6;simp only[decide_eq_true_eq] at this;omega)]⟩,al ⟨rfl,rfl,rfl,rfl,rfl,rfl,rfl,rfl,trivial⟩ ⟨rfl,trivial⟩ rfl⟩
    ·refine au ?_;exact⟨⟨0,by rw[if_neg (by have:=a6;simp only[decide_eq_false_iff_not] at this;omega)]⟩,al ⟨rfl,rfl,rfl,rfl,rfl,rfl,rfl,rfl,trivial⟩ ⟨rfl,trivial⟩ rfl⟩
   ·rintro⟨H1,a1⟩;replace a1:H1=if n<(cX T.natAbs).length then(cX T.natAbs).getD n 0*1000000000 else 0:=a1;rw[a0] at h4;have n1:0<=H1/\H1<=999999999000000000:=by rw[a1];split<;>omega
    dsimp only;refine iq (ι:={H:Int // HInv (cX T.natAbs) n H}) (fun i=>⟨173,[(8,.v (.c (.i .u32 s))),(9,.v (.c (cL V))),(10,.v (.c (.i .u64 top))),(11,.v (.c (cL T))),(12,.o 64 ((cX W.natAbs).length) (xs.length+1)),(13,.v (.c (cL W))),(14,.v (.c (.i .i64 (q:Int)))),(15,.v (.c (.i .u64 i.1)))],[(64,255,zs.map (CellD.i .u32))]⟩) ?_ ?_
    ·refine ab<|ag ?_;refine aA rfl (fun c0=>?_) (fun c0=>?_)
     ·have h9:n<=(cX T.natAbs).length:=by simp only[decide_eq_true_eq] at c0;omega
      have j0:HInv (cX T.natAbs) n (H1+(cX T.natAbs).getD (n-1) 0):=by
       rcases nR n (cX T.natAbs).length with J|J;·rw[a1,if_pos J];exact Ve (bD _) (by omega) (by omega)
       ·rw[a1,if_neg (by omega),Int.zero_add];exact VE (bD _) (by omega) (by omega)
      refine ag ?_;refine ar (b9 (((n-1:Nat):Int)) (by rw[a0,show((n-1:Nat):Int)=(n:Int)-1 from by omega];exact ci (by omega) (by omega)) rfl) ?_;refine ar (ba jb rfl rfl (by(first|omega|(simp;omega))) (jf _) rfl rfl) ?_;refine ar (bH eZ rfl (j5 (i:=(n-1)) (by(first|omega|(simp;omega)))) rfl) ?_;refine ar (bj (r:=(cX T.natAbs).getD (n-1) 0) jr fB rfl (iF (by(first|omega|(simp;omega))) (by(first|omega|(simp;omega)))) rfl) ?_;refine ar (b9 (H1+((cX T.natAbs).getD (n-1) 0)) (fD (by(first|omega|(simp;omega))) (by(first|omega|(simp;omega)))) rfl) ?_;exact⟨⟨H1+(cX T.natAbs).getD (n-1) 0,j0⟩,al ⟨rfl,rfl,rfl,rfl,rfl,rfl,rfl,rfl,trivial⟩ ⟨rfl,trivial⟩ rfl⟩
     ·have k4:HInv (cX T.natAbs) n H1:=by simp only[decide_eq_false_iff_not] at c0;rw[a1,if_neg (by omega)];exact R7 (bD _) (by omega)
      refine au ?_
      exact⟨⟨H1,k4⟩,al ⟨rfl,rfl,rfl,rfl,rfl,rfl,rfl,rfl,trivial⟩ ⟨rfl,trivial⟩ rfl⟩
    ·rintro⟨H,hH⟩;replace hH:HInv (cX T.natAbs) n H:=hH;have l8:=hH.h0;have n2:=hH.h1;have e9:=hH.h;rw[bR,eT] at e9;have c7:=ZK w a4 e9 e4 a5;have m0:0<=H/top:=rH (by omega) (by omega);have l9:H/top<=H:=Int.ediv_le_self _ (by omega);dsimp only;refine ab<|ag<|ar (jJ (r:=H/top) rfl rfl (by omega) (by rw[sT (by omega)];exact iF (by omega) (by omega)) rfl) ?_;refine iq (ι:={g:Int // T/V<=g/\g<=999999999}) (fun i=>⟨173,[(8,.v (.c (.i .u32 s))),(9,.v (.c (cL V))),(10,.v (.c (.i .u64 top))),(11,.v (.c (cL T))),(12,.o 64 ((cX W.natAbs).length) (xs.length+1)),(13,.v (.c (cL W))),(14,.v (.c (.i .i64 (q:Int)))),(16,.v (.c (.i .u64 i.1)))],[(64,255,zs.map (CellD.i .u32))]⟩) ?_ ?_
     ·refine ab<|ag ?_;refine aA rfl (fun g2=>?_) (fun g2=>?_)
      ·refine ag ?_;exact⟨⟨999999999,a9.2,p7 _⟩,al ⟨rfl,rfl,rfl,rfl,rfl,rfl,rfl,rfl,trivial⟩ ⟨rfl,trivial⟩ rfl⟩
      ·refine au ?_;exact⟨⟨H/top,c7,by have:=g2;simp only[decide_eq_false_iff_not] at this;omega⟩,al ⟨rfl,rfl,rfl,rfl,rfl,rfl,rfl,rfl,trivial⟩ ⟨rfl,trivial⟩ rfl⟩
     ·rintro⟨g,hg⟩;replace hg:T/V<=g/\g<=999999999:=hg;dsimp only;refine ab<|ag<|ar (bj (r:=g) fB jr rfl (re (by omega) (by omega)) rfl) ?_;refine ac rfl (e3 g (by omega) (by omega))<|ab<|aw<|bF (ι:={g:Int // T/V<=g/\g<=999999999}) (fun i=>⟨173,[(8,.v (.c (.i .u32 s))),(9,.v (.c (cL V))),(10,.v (.c (.i .u64 top))),(11,.v (.c (cL T))),(12,.o 64 ((cX W.natAbs).length) (xs.length+1)),(13,.v (.c (cL W))),(14,.v (.c (.i .i64 (q:Int)))),(16,.v (.c (.i .u64 i.1))),(17,.v (.c (cL (V*i.1))))],[(64,255,zs.map (CellD.i .u32))]⟩) (fun i=>i.1.toNat) ⟨g,hg⟩ (al ⟨rfl,rfl,rfl,rfl,rfl,rfl,rfl,rfl,rfl,trivial⟩ ⟨rfl,trivial⟩ rfl) ?_;rintro⟨g,hg⟩;replace hg:T/V<=g/\g<=999999999:=hg;have l6:0<=V*g:=mh (by omega) (by omega);have c6:((V*g).natAbs:Int)=V*g:=by omega
      have l5:V*g<=V*1000000000:=pv (by omega) (by omega);have f0:Sz 100000000 (V*g):=⟨by have:=nN (n:=n+1) (m:=100000000) (by omega);rw[d5] at this;omega,by have:=dP 100000000;omega⟩;have e8:Ok Tryz.prog 256 [.c (cL (V*g)),.c (cL T)] [.c (.i .i64 (dC (V*g) T))]:=by have:=oR f0 c8;rw[c6,eT] at this;exact this
      dsimp only;refine ab<|ab<|ag<|ac rfl (e8) ?_;refine aA rfl (fun a2=>?_) (fun a2=>?_)
      ·have k8:T<V*g:=by simp only[decide_eq_true_eq] at a2;rcases ra (V*g) T with J|J|J<;>first|(rw[eg J] at a2;omega)|(rw[jN J] at a2;omega)|exact J
       have h5:T/V<=g-1:=by have:T/V<g:=(Int.ediv_lt_iff_lt_mul a5).2 (by rw[sU];exact k8);omega
       have i4:V*(g-1)=V*g-V:=by rw[Int.mul_sub,Int.mul_one]
       have l0:0<=V*(g-1):=mh (by omega) (by omega);have a3:Ok Tryz.prog 257 [.c (cL (V*g)),.c (cL V)] [.c (cL (V*(g-1)))]:=by have:=xY (b:=V) f0 (by omega);rw[c6,eV,<-i4] at this;exact this
       refine au<|aw<|ab<|ag ?_;refine ar (b9 (g-1) (IP (by(first|omega|(simp;omega))) (by(first|omega|(simp;omega)))) rfl) ?_;refine ag<|ac rfl (a3) ?_;exact⟨⟨g-1,h5,by omega⟩,al ⟨rfl,rfl,rfl,rfl,rfl,rfl,rfl,rfl,rfl,trivial⟩ ⟨rfl,trivial⟩ rfl,by show(g-1).toNat<g.toNat;omega⟩
      ·have g8:V*g<=T:=by simp only[decide_eq_false_iff_not] at a2;rcases ra (V*g) T with J|J|J<;>first|omega|(rw[eA J] at a2;omega)
       have k9:g=T/V:=by have:g<=T/V:=(Int.le_ediv_iff_mul_le a5).2 (by rw[sU];exact g8);omega
       have j1:0<=T-V*g:=by omega
       have i1:T-V*g<V:=by have:=pg T a5;have h2:=uL T V;rw[<-k9] at h2;omega
       have a3:Ok Tryz.prog 257 [.c (cL T),.c (cL (V*g))] [.c (cL (T-V*g))]:=by have:=xY (b:=V*g) c8 (by omega);rw[c6,eT] at this;exact this
       refine bn<|ab<|ag<|ac rfl (a3)<|cB<|i9 3<|cV (bj (r:=g) fB jr rfl (re (by omega) (by omega)) rfl) ?_;refine cV (bO jb rfl rfl (by(first|omega|(simp;omega))) rfl) ?_;refine iQ (bh (us:=(zs.set q g).map (CellD.i .u32)) eZ rfl rfl rfl rfl (by simp;omega) (pW (by(first|omega|(simp;omega)))) rfl) ?_;refine ce<|ag ?_;refine ar (b9 ((q:Int)-1) (ci (by(first|omega|(simp;omega))) (by(first|omega|(simp;omega)))) rfl) ?_;exact⟨⟨(q,T-V*g,zs.set q g),hI.step (bD _) (by omega) (by omega) j1 i1 (by rw[hT];show T=g*V+(T-V*g);rw[sU g V];omega)⟩,al ⟨rfl,rfl,rfl,rfl,rfl,rfl,rfl,trivial⟩ ⟨rfl,trivial⟩ rfl,by show q<q+1;omega⟩
  ·have c3:j=0:=by simp only[decide_eq_false_iff_not] at b3;omega
   subst c3;obtain⟨d1,d2⟩:=hI.done;rw[bR,eW] at d1 d2;refine bn<|ab<|ag<|ab<|ag ?_;refine DL.mk<|tA (m9 (n:=((cX R.natAbs).length)) wy rfl rfl (by omega) (by omega) rfl) rfl<|fa ?_;refine ab<|ab<|ag ?_;refine ar (b9 ((((cX R.natAbs).length:Int))-1) (ci (by(first|omega|(simp;omega))) (by(first|omega|(simp;omega)))) rfl) ?_;refine aw<|bF (ι:={t:Nat×Int×List Int // DInv (cX R.natAbs) s (cX R.natAbs).length t.1 t.2.1 t.2.2}) (fun i=>⟨173,[(8,.v (.c (.i .u32 s))),(11,.v (.c (cL R))),(12,.o 64 ((cX W.natAbs).length) (xs.length+1)),(18,.v (.c (.i .u64 i.1.2.1))),(19,.o 141 ((cX R.natAbs).length) ((cX R.natAbs).length)),(20,.v (.c (.i .i64 ((i.1.1:Int)-1))))],[(64,255,zs.map (CellD.i .u32)),(141,255,i.1.2.2.map (CellD.i .u32))]⟩) (fun i=>i.1.1) ⟨((cX R.natAbs).length,0,List.replicate (cX R.natAbs).length 0),DInv.start (by omega) (bd _)⟩ (al ⟨rfl,rfl,rfl,rfl,rfl,rfl,trivial⟩ ⟨rfl,by rw[show(List.replicate (cX R.natAbs).length (CellD.i .u32 0))=(List.replicate (cX R.natAbs).length 0).map (CellD.i .u32) from by simp];rfl,trivial⟩ rfl) ?_;rintro⟨⟨j2,c,ls⟩,E⟩;replace E:DInv (cX R.natAbs) s (cX R.natAbs).length j2 c ls:=E;have k6:=E.len;have k0:=E.R0;have k1:=E.RV;have m4:=E.le;dsimp only;refine ab<|ab<|ag ?_;refine aA rfl (fun b2=>?_) (fun b2=>?_)
   ·obtain⟨q2,rfl⟩: ∃q,j2=q+1:=⟨j2-1,by simp only[decide_eq_true_eq] at b2;omega⟩;have gd:=cW (bD R.natAbs) q2;have d0:=Ej k0 k1 gd.1 gd.2;rw[show(cX R.natAbs).getD q2 0+1000000000*c=c*1000000000+(cX R.natAbs).getD q2 0 from by omega] at d0;have g0:0<=(c*1000000000+(cX R.natAbs).getD q2 0)/s:=d0.1;have g7:(c*1000000000+(cX R.natAbs).getD q2 0)/s<1000000000:=by omega
    have e1:0<=(c*1000000000+(cX R.natAbs).getD q2 0)%s:=p5 _ (by omega);have g3:(c*1000000000+(cX R.natAbs).getD q2 0)%s<s:=pg _ (by omega);refine pp (σ':=⟨173,[(8,.v (.c (.i .u32 s))),(11,.v (.c (cL R))),(12,.o 64 ((cX W.natAbs).length) (xs.length+1)),(18,.v (.c (.i .u64 c))),(19,.o 141 ((cX R.natAbs).length) ((cX R.natAbs).length)),(20,.v (.c (.i .i64 (q2:Int))))],[(64,255,zs.map (CellD.i .u32)),(141,255,ls.map (CellD.i .u32))]⟩) (al ⟨rfl,rfl,rfl,rfl,rfl,by rw[show(q2:Int)=((q2+1:Nat):Int)-1 from by omega];rfl,trivial⟩ ⟨rfl,rfl,trivial⟩ rfl) ?_;refine au<|ab<|aw<|ab<|ag ?_;refine ar (b9 (c*1000000000) (gP (by(first|omega|(simp;omega))) (by(first|omega|(simp;omega)))) rfl) ?_;refine ar (ba jb rfl rfl (by(first|omega|(simp;omega))) (jf _) rfl rfl) ?_;refine ar (bH eZ rfl (j5 (i:=q2) (by(first|omega|(simp;omega)))) rfl) ?_;refine ar (bj (r:=(cX R.natAbs).getD q2 0) jr fB rfl (iF (by(first|omega|(simp;omega))) (by(first|omega|(simp;omega)))) rfl) ?_;refine ar (b9 ((c*1000000000)+((cX R.natAbs).getD q2 0)) (fD (by(first|omega|(simp;omega))) (by(first|omega|(simp;omega)))) rfl) ?_;refine ab<|cB<|i9 4 ?_;refine cV (bj (r:=s) jr fB rfl (iF (by(first|omega|(simp;omega))) (by(first|omega|(simp;omega)))) rfl) ?_;refine cV (jJ (r:=(c*1000000000+(cX R.natAbs).getD q2 0)/s) rfl rfl (by omega) (by rw[sT (by omega)];exact iF (by omega) (by omega)) rfl) ?_;refine cV (bj (r:=(c*1000000000+(cX R.natAbs).getD q2 0)/s) fB jr rfl (re (by omega) (by omega)) rfl) ?_;refine cV (bO jb rfl rfl (by(first|omega|(simp;omega))) rfl) ?_;refine iQ (bh (us:=(ls.set q2 ((c*1000000000+(cX R.natAbs).getD q2 0)/s)).map (CellD.i .u32)) eZ rfl rfl rfl rfl (by simp;omega) (pW (by(first|omega|(simp;omega)))) rfl) ?_;refine ce<|ag ?_;refine ar (bj (r:=s) jr fB rfl (iF (by(first|omega|(simp;omega))) (by(first|omega|(simp;omega)))) rfl) ?_;refine ar (fR (r:=(c*1000000000+(cX R.natAbs).getD q2 0)%s) rfl rfl (by omega) (lI (by omega)) rfl) ?_;refine ag ?_;refine ar (b9 ((q2:Int)-1) (ci (by(first|omega|(simp;omega))) (by(first|omega|(simp;omega)))) rfl) ?_;exact⟨⟨(q2,(c*1000000000+(cX R.natAbs).getD q2 0)%s,ls.set q2 ((c*1000000000+(cX R.natAbs).getD q2 0)/s)),E.step (bD _) g0 g7 e1 g3 (by rw[sU ((c*1000000000+(cX R.natAbs).getD q2 0)/s) s,uL];omega)⟩,al ⟨rfl,rfl,rfl,rfl,rfl,rfl,trivial⟩ ⟨rfl,rfl,trivial⟩ rfl,by show q2<q2+1;omega⟩
   ·have c3:j2=0:=by simp only[decide_eq_false_iff_not] at b2;omega
    subst c3;obtain⟨d3,d4⟩:=E.done;rw[bR,eR,f9 (by omega)] at d3;have f1:val xs/val ys=val (zs.take (cX W.natAbs).length):=by rw[<-f4,d1]
    have f2:val xs%val ys=val ls:=by rw[<-d3,<-d2,e5,Int.mul_ediv_cancel _ (by omega)]
    have i2:Lim (zs.take (cX W.natAbs).length):=hI.L.take _;have i8:=E.L;refine bn<|ab ?_;refine u4 (t:=12) (zs:=zs) (ys:=zs.take ((cX W.natAbs).length)) rfl rfl (by first|omega|(simp;omega)|simp) (by omega) (by omega) (rfl) ?_;refine u4 (t:=19) (zs:=ls) (ys:=ls) rfl rfl (by first|omega|(simp;omega)|simp) (by omega) (by omega) (f9 (by first|omega|(simp;omega)|simp)) ?_;refine ag<|ac rfl (kv i2 (by simp<;>omega))<|ac rfl (kv i8 (by omega))<|bc ?_;rw[f1,f2];exact ah (aj (aj aa))
theorem Pq (x:Int):cL x=cL ((x.natAbs:Nat):Int):=rfl
theorem CB (j:Sz 20000000 a) (h:Sz 20000000 b) (w:b≠0):Ok Tryz.prog 258 [.c (cL a),.c (cL b)] [.c (cL ((a.natAbs:Int)/b.natAbs)),.c (cL ((a.natAbs:Int)%b.natAbs))]:=by have:=NO (bD a.natAbs) (bD b.natAbs) (jc _) (jc _) (gD j) (gD h) (fun e=>by have:=dM.1 e;omega);rw[bR,bR] at this;exact this
theorem WB (h:(decide (x<0)==decide (y<0))=true):sg (decide (x<0)) ((((x.natAbs:Int)+y.natAbs).natAbs:Nat):Int)=x+y:=by by_cases w:x<0<;>by_cases j:y<0<;>simp[w,j,sg] at h⊢ <;>omega
theorem aew (h:(decide (x<0)==decide (y<0))=false) (D:y.natAbs<=x.natAbs):sg (decide (x<0)) ((((x.natAbs:Int)-y.natAbs).natAbs:Nat):Int)=x+y:=by by_cases w:x<0<;>by_cases j:y<0<;>simp[w,j,sg] at h⊢ <;>omega
theorem adh (h:(decide (x<0)==decide (y<0))=false) (D:x.natAbs<y.natAbs):sg (decide (y<0)) ((((y.natAbs:Int)-x.natAbs).natAbs:Nat):Int)=x+y:=by by_cases w:x<0<;>by_cases j:y<0<;>simp[w,j,sg] at h⊢ <;>omega
theorem abF:sg (!(decide (x<0)==decide (y<0))) ((((x.natAbs:Int)*y.natAbs).natAbs:Nat):Int)=x*y:=by
 by_cases j:x<0<;>by_cases h:y<0<;>simp only[j,h,sg,decide_true,decide_false,Bool.not_true,sb,beq_self_eq_true,Bool.false_eq_true,if_true,if_false,show(true==false)=false from rfl,show(false==true)=false from rfl];·grind
 ·grind
 ·grind
 grind
theorem aax:sg (!decide (x<0)) ((x.natAbs:Nat):Int)= -x:=by by_cases h:x<0<;>simp[h,sg]<;>omega
theorem FP (h:decide (dC a b>=0)=true):b<=a:=by
 simp only[decide_eq_true_eq] at h;rcases ra a b with j|j|j;·rw[eg j] at h;omega
 ·omega
 grind
theorem Ft (h:decide (dC a b>=0)=false):a<b:=by
 simp only[decide_eq_false_iff_not] at h;rcases ra a b with j|j|j;·omega
 ·rw[jN j] at h;omega
 ·rw[eA j] at h;omega
theorem Fd (h:decide (x<0)=false) (j: ¬(y<0)):dC x.natAbs y.natAbs=dC x y:=by grind
theorem FS (h:decide (x<0)=true) (j:y<0):dC y.natAbs x.natAbs=dC x y:=by simp only[decide_eq_true_eq] at h;rw[show(y.natAbs:Int)= -y from by omega,show(x.natAbs:Int)= -x from by omega,Ih]
theorem afr:sg (!(decide (x<0)==decide (y<0))) (((((x.natAbs:Int)/y.natAbs).natAbs:Nat)):Int)=q0 x y:=by unfold q0;grind
theorem adI (_h:y≠0):sg (decide (x<0)) (((((x.natAbs:Int)%y.natAbs).natAbs:Nat)):Int)=r0 x y:=by unfold r0;grind
theorem Mh:(x.natAbs:Int)%y.natAbs=0↔r0 x y=0:=by
 unfold r0;generalize decide (x<0)=s;cases s;·rw[cr]
 ·rw[fW];omega
theorem Mc (_w:y≠0) (h:(x.natAbs:Int)%y.natAbs≠0):(r0 x y<0↔x<0):=by
 unfold r0;by_cases j:x<0;·rw[show decide (x<0)=true from by simpa using j,fW];omega
 ·rw[show decide (x<0)=false from by simpa using j,cr];omega
structure RG (x y a c:Int):Prop where
 sa:Sz 20000000 a
 sc:Sz 20000000 c
 a0:0<=a
 c0:0<=c
 g:Int.gcd a c=Int.gcd x y
theorem RG.start (h:Sz 20000000 x) (j:Sz 20000000 y):RG x y (x.natAbs:Int) (y.natAbs:Int):=⟨h.of_le (by omega),j.of_le (by omega),by omega,by omega,rfl⟩
theorem RG.step (h:RG x y a c) (H:c≠0):RG x y c ((a.natAbs:Int)%c.natAbs):=by
 have w:=h.a0;have j:=h.c0;have I:(a.natAbs:Int)=a:=by omega
 have E:(c.natAbs:Int)=c:=by omega
 rw[I,E];have D:=p5 a H;have J:=pg a (show 0<c by omega);exact⟨h.sc,h.sc.of_le (by omega),j,D,by rw[<-h.g,E4 w j]⟩
theorem RG.less (h:RG x y a c) (j:c≠0):((a.natAbs:Int)%c.natAbs).toNat<c.toNat:=by have:=h.c0;have:=Oo (x:=a) j;omega
theorem RG.done (h:RG x y a c) (j:c=0):(Int.gcd x y:Int)=sg false ((a.natAbs:Nat):Int):=by rw[<-h.g,j,cr];simp
theorem Md (h:decide (((cX a.natAbs).length:Int)>2)=false):a.natAbs<=18446744073709551615:=by
 simp only[decide_eq_false_iff_not] at h;have j:=eK (bD a.natAbs);rw[bR] at j;have w:=nN (n:=(cX a.natAbs).length) (m:=2) (by omega);have D:pw 2=1000000000000000000:=by decide
 omega
theorem RG.word (h:RG x y a c) (j:a.natAbs<=18446744073709551615) (w:c.natAbs<=18446744073709551615):GInv2 x y (a.natAbs:Int) (c.natAbs:Int):=
 ⟨by omega,by omega,by omega,by omega,by rw[<-h.g];rfl⟩
theorem GInv2.fin (h:GInv2 x y u v) (j:v<=0):(Int.gcd x y:Int)=sg false ((u.natAbs:Nat):Int):=by rw[h.done j,cr,cr];have:=h.u0;omega
theorem Sz.small3 (h:0<=x) (j:x<=18446744073709551615):Sz 100000000 x:=by
 have w:pw 3=1000000000000000000000000000:=by decide
 have:Sz 3 x:=⟨by omega,by omega⟩;exact this.mono (by decide)
theorem acw (h:Sz 20000000 x):Sz 100000000 ((x.natAbs:Int)/y.natAbs):=by
 have w:(x.natAbs:Int)/(y.natAbs:Int)<=x.natAbs:=Int.ediv_le_self _ (by omega);have j:0<=(x.natAbs:Int)/(y.natAbs:Int):=by grind
 exact(h.mono (by decide)).of_le (by omega)
theorem adm (j:Sz 20000000 y) (h:y≠0):Sz 100000000 ((x.natAbs:Int)%y.natAbs):=by have:=Oo (x:=x) h;exact(j.mono (by decide)).of_le (by omega)
theorem H8 (j:x<0) (h: -9223372036854775808<=x):IntKind.u64.wrap x=x+18446744073709551616:=by unfold IntKind.wrap;simp[IntKind.bits,IntKind.signed];omega
theorem DO (j:x<0) (h: -9223372036854775808<=x):IntKind.u64.wrap (0-(x+18446744073709551616))= -x:=by unfold IntKind.wrap;simp[IntKind.bits,IntKind.signed];omega
theorem fQ {P:Program}{ops:Array Oper}{T:TF}{B:BF}{x:Operand}{k:IntKind}
 (j:ck T x=some (.v (.c (.i k m)))) (w:k.wrap (0-m)=r) (h:gd ops ⟨dst,.unOp .neg xt x,ty,pos,af,g⟩ T=some true):
 Sem P ops ⟨dst,.unOp .neg xt x,ty,pos,af,g⟩ T B (.r (.v (.c (.i k r)))):=by subst w;exact Xe j h
theorem KI (h:Sz 100000000 ((x.natAbs:Int)/y.natAbs)):Ok Tryz.prog 171 [.c (.b (!(decide (x<0)==decide (y<0)))),.c (cL ((x.natAbs:Int)/y.natAbs))] [dI (q0 x y)]:=by rw[<-afr];exact iw h
theorem KE (j:y≠0) (h:Sz 100000000 ((x.natAbs:Int)%y.natAbs)):Ok Tryz.prog 171 [.c (.b (decide (x<0))),.c (cL ((x.natAbs:Int)%y.natAbs))] [dI (r0 x y)]:=by rw[<-adI j];exact iw h
theorem Qe (h:(decide (x<0)==decide (y<0))=true):(dC x.natAbs y.natAbs==0)=(x==y):=by
 have hs:x<0↔y<0:=by grind
 rcases ra (x.natAbs:Int) y.natAbs with j|j|j;·rw[eg j,show(x==y)=false from by simp only[beq_eq_false_iff_ne];omega];rfl
 ·rw[jN j,show(x==y)=true from by simp only[beq_iff_eq];omega];rfl
 ·rw[eA j,show(x==y)=false from by simp only[beq_eq_false_iff_ne];omega];rfl
def isq:Nat->Nat
 |0=>0
 |n+1=>if (isq n+1)*(isq n+1)<=n+1 then isq n+1 else isq n
theorem Jr (n:Nat):isq n*isq n<=n/\n<(isq n+1)*(isq n+1):=by
 induction n with
 |zero=>exact⟨by decide,by decide⟩
 |succ n h=>
  unfold isq;split;·grind
  grind
theorem TC (j:0<=a) (h:a<=b):a*a<=b*b:=qR h h j (by omega)
theorem DP (j:0<=b) (h:a*a<b*b):a<b:=by
 by_cases w:a<b;·grind
 ·have:=TC j (show b<=a by omega);omega
def bp (x:Int):Int:=if x<0 then 0 else(isq x.toNat:Nat)
theorem eD (x:Int):0<=bp x:=by unfold bp;split<;>omega
theorem r8 (h:0<=x):bp x*bp x<=x:=by unfold bp;rw[if_neg (by omega)];have:=(Jr x.toNat).1;grind
theorem AU (h:0<=x):x<(bp x+1)*(bp x+1):=by unfold bp;rw[if_neg (by omega)];have:=(Jr x.toNat).2;grind
theorem pC (h:0<=x) (H:0<=r) (D:r*r<=x) (E:x<(r+1)*(r+1)):bp x=r:=by have w:=r8 h;have j:=AU h;have I:=eD x;have:=DP (a:=r) (b:=bp x+1) (by omega) (by omega);have:=DP (a:=bp x) (b:=r+1) (by omega) (by omega);omega
theorem Eg:bp 0=0:=by decide
theorem uo (h:x<0):bp x=0:=by unfold bp;rw[if_pos h]
theorem PO:(bp x).natAbs<=x.natAbs:=by
 have j:=eD x;by_cases h:x<0;·rw[uo h];omega
 ·have w:=r8 (show 0<=x by omega);by_cases D:bp x<1;·omega
  ·have:=pv (show 1<=bp x by omega) j;omega
theorem GJ (a b:Int):4*(a*b)<=(a+b)*(a+b):=by
 have h:0<=(a-b)*(a-b):=by
  rcases Int.le_total 0 (a-b) with h|h;·exact mh h h
  ·exact Int.mul_nonneg_of_nonpos_of_nonpos h h
 grind
theorem Si (I:0<x) (w:0<r) (_h:x<(r+1)*(r+1)):
 0<=(r+x.fdiv r).fdiv 2/\x<((r+x.fdiv r).fdiv 2+1)*((r+x.fdiv r).fdiv 2+1)/\0<(r+x.fdiv r).fdiv 2/\0<=x.fdiv r/\x.fdiv r<=x:=by
 have j:0<=x/r:=rH (by omega) (by omega)
 have E:x/r<=x:=Int.ediv_le_self _ (by omega)
 have D:x<r*(x/r+1):=by have h1:=uL x r;have h2:=pg x w;rw[Int.mul_add];omega
 obtain⟨q,H⟩: ∃q,x/r=q:=⟨_,rfl⟩
 obtain⟨n,J⟩: ∃n,(r+q)/2=n:=⟨_,rfl⟩
 have h4:=GJ r (q+1)
 have W:(r+(q+1))*(r+(q+1))<=(2*(n+1))*(2*(n+1)):=TC (by omega) (by omega)
 grind
theorem G1 (_j:0<x) (H:0<r) (h:r<=(r+x.fdiv r).fdiv 2):r*r<=x:=by
 rw[pM _ (by omega:(0:Int)<=r),pM _ (by omega:(0:Int)<=2)] at h;have D:=uL x r;have E:=p5 x (show r≠0 by omega);have w:r<=x/r:=by omega
 have:=pv w (show 0<=r by omega);omega
structure NInv (K:Nat) (x r:Int):Prop where
 r0:0<r
 sz:Sz K r
 up:x<(r+1)*(r+1)
theorem NInv.sum (h:NInv K x r) (hs:Sz K x) (D:0<x):Sz K (x.fdiv r)/\Sz (K+1) (r+x.fdiv r)/\Sz (K+1) ((r+x.fdiv r).fdiv 2):=by obtain⟨I,J,E,W,H⟩:=Si D h.r0 h.up;have j:Sz K (x.fdiv r):=hs.of_le (by omega);have w:=h.sz.add j;refine⟨j,w,w.of_le ?_⟩;grind
theorem NInv.next (h:NInv K x r) (w:0<x) (hl:(r+x.fdiv r).fdiv 2<r):NInv K x ((r+x.fdiv r).fdiv 2):=by obtain⟨H,D,j,E,I⟩:=Si w h.r0 h.up;exact⟨j,h.sz.of_le (by omega),D⟩
theorem NInv.done (h:NInv K x r) (j:0<x) (hl:r<=(r+x.fdiv r).fdiv 2):bp x=r:=
 pC (by omega) (by have:=h.r0;omega) (G1 j h.r0 hl) h.up
theorem yd:dI 0=.a ([.b false]++[.s 0 []]):=by unfold dI cI;rw[show cL 0=.s 0 [] from by unfold cL;rw[show(0:Int).natAbs=0 from rfl,ku];rfl];rfl
theorem afo (h:0<=v):([CellD.b false]++[cL v])=cI v:=by unfold cI;rw[show decide (v<0)=false from by simp;omega];rfl
theorem afv (_j:0<=x) (h:x<pw n) (w:n<=2*k):x<(pw k+1)*(pw k+1):=by
 have D:=nN (n:=n) (m:=2*k) w;have H:pw (2*k)=pw k*pw k:=by rw[show 2*k=k+k from by omega,wq]
 have E:=dP k;grind
theorem NInv.start (E:0<x) (_w:Sz K x) (H:((cX x.natAbs).length+1)/2=k) (D:k<K):NInv K x (pw k):=by have h:=eK (bD x.natAbs);rw[bR] at h;refine⟨dP k,?_,afv (n:=(cX x.natAbs).length) (by omega) (by omega) (by omega)⟩;have j:Sz (k+1) (pw k):=⟨by have:=dP k;rw[d5];omega,by have:=dP k;have:=dP (k+1);omega⟩;exact j.mono (by omega)
theorem abc (n:Nat):val (List.replicate n 0++[1])=pw n:=by
 induction n with
 |zero=>decide
 |succ n h=>rw[List.replicate_succ,List.cons_append,dG,h,d5];omega
theorem aeY (n:Nat):cL (pw n)=cM (List.replicate n 0++[1]):=by
 have h:Lim (List.replicate n 0++[1]):=(Lim.zeros n).append (Lim.nil.cons (by omega) (by omega));have w:Nrm (List.replicate n 0++[1]):=by
  induction n with
  |zero=>exact Cw [] 1 (by decide)
  |succ n j=>exact ID (j ((Lim.zeros n).append (Lim.nil.cons (by omega) (by omega)))) (by simp)
 rw[Y4,<-abc];have:=J6 w h;rw[show(val (List.replicate n 0++[1])).natAbs=(val (List.replicate n 0++[1])).toNat from by have:=cm h;omega,<-this]
variable {P:Program}{ops:Array Oper}{T:TF}{B:BF}
theorem vP {x y:Operand}{z:CellD}
 (D:rl P U=some (e,1,4,[z])) (w:ck T x=some (.o k n n)) (E:ck T y=some (.v (.c (cM [1])))) (j:B k=some (e,List.replicate n (CellD.i .u32 0))) (hl:n<=1000000000)
 (h:gd ops ⟨dst,.call ⟨.builtin .append,#[x,y],#[U,U]⟩,ty,pos,af,g⟩ T=some true):
 Sem P ops ⟨dst,.call ⟨.builtin .append,#[x,y],#[U,U]⟩,ty,pos,af,g⟩ T B (.c k (.v (.c (cL (pw n))))):=by
 rw[aeY]
 have:=wI (us:=(List.replicate n (0:Int)++[1]).map (CellD.i .u32)) D w E j (by simp) (jf _) (by omega) (by simp) (by omega) (by simp;omega) (by simp;unfold maxLen;omega) (by simp) h
 rw[show n+[(1:Int)].length=(List.replicate n (0:Int)++[1]).length from by simp] at this
 exact this
theorem ye:dC a b=0↔a=b:=by
 rcases ra a b with h|h|h;·rw[eg h];constructor<;>intro j<;>omega
 ·rw[jN h];constructor<;>intro j<;>omega
 ·rw[eA h];constructor<;>intro j<;>omega
theorem B6:dC a b<0↔a<b:=by
 rcases ra a b with h|h|h;·rw[eg h];constructor<;>intro j<;>omega
 ·rw[jN h];constructor<;>intro j<;>omega
 ·rw[eA h];constructor<;>intro j<;>omega
theorem BX:0<dC a b↔b<a:=by
 rcases ra a b with h|h|h;·rw[eg h];constructor<;>intro j<;>omega
 ·rw[jN h];constructor<;>intro j<;>omega
 ·rw[eA h];constructor<;>intro j<;>omega
theorem ab6 (h:decide (dC a b<0)=true):a<b:=B6.1 (by simpa using h)
theorem ab0 (h:decide (dC a b<0)=false): ¬a<b:=fun e=>by have:=B6.2 e;simp at h;omega
theorem U3 (h:(dC a b==0)=true):a=b:=ye.1 (by simpa using h)
theorem agj (h:(dC a b !=0)=true):a≠b:=fun e=>by have:=ye.2 e;simp at h;omega
theorem aeu (h:(dC a b !=0)=false):a=b:=ye.1 (by simpa using h)
theorem agW (h:decide (dC a b>0)=true):b<a:=BX.1 (by simpa using h)
theorem af6 (h:decide (dC a b>0)=false): ¬b<a:=fun e=>by have:=BX.2 e;simp at h;omega
structure Rz (k:Nat) (x:Rat):Prop where
 n:Sz k x.num
 d:Sz k (x.den:Int)
theorem Sz.addm (h:Sz k x) (j:Sz l y):Sz (max k l+1) (x+y):=(h.mono (Nat.le_max_left k l)).add (j.mono (Nat.le_max_right k l))
theorem Sz.gcd (h:Sz l y) (j:y≠0):Sz l ((Int.gcd x y:Nat):Int):=h.of_le (by have:Int.gcd x y<=y.natAbs:=Nat.le_of_dvd (by omega) (Nat.gcd_dvd_right ..);rw[Int.natAbs_natCast];exact this)
theorem Rz.mono {x:Rat}(h:Rz k x) (hl:k<=l):Rz l x:=⟨h.n.mono hl,h.d.mono hl⟩
theorem Rz.m_ {x:Rat}(h:Rz k x) (hl:k<=l:=by decide):Rz l x:=h.mono hl
theorem aU {x:Rat}(h:Rz k x) (hl:k<=l:=by decide):Rz l x:=h.mono hl
theorem zaR {x:Rat}(h:Rz l x:=by first|assumption|exact Rz.mono (by assumption) (by decide)):Rz l x:=h
theorem den_pos (x:Rat):(0:Int)<(x.den:Int):=by have:=x.den_pos;omega
theorem lK (x:Rat):(x.den:Int)≠0:=by have:=den_pos x;omega
theorem ti (a b:Int):(a/b).natAbs<=a.natAbs:=Int.natAbs_ediv_le_natAbs a b
theorem Rz.of {n:Int}(w:Sz k n) (j:Sz k d) (h:d≠0):Rz k (Rat.divInt n d):=by
 refine⟨w.of_le ?_,j.of_le ?_⟩
 ·rw[Rat.num_divInt];refine fw (ti _ _) ?_;grind
 ·rw[Rat.den_divInt,if_neg h];exact Nat.div_le_self d.natAbs (Int.gcd d n)
theorem U8 {x y:Rat}:Rat.divInt (x.num*(y.den:Int)+y.num*(x.den:Int)) ((x.den:Int)*(y.den:Int))=x+y:=by rw[Rat.add_def',<-wd,Rat.divInt_ofNat]
theorem aer {x y:Rat}(h:(x.den:Int)=(y.den:Int)):Rat.divInt (x.num+y.num) (x.den:Int)=x+y:=by rw[<-U8,<-h,<-Int.add_mul,Rat.divInt_mul_right (lK x)]
theorem ZO {x y:Rat}:Rat.divInt (x.num*y.num) ((x.den:Int)*(y.den:Int))=x*y:=by rw[Rat.mul_def',<-wd,Rat.divInt_ofNat]
theorem abE {x y:Rat}:Rat.divInt (x.num*(y.den:Int)) ((x.den:Int)*y.num)=x/y:=by rw[Rat.div_def,Rat.inv_def,<-Rat.divInt_mul_divInt,Rat.num_divInt_den]
theorem Rz.add {x y:Rat}(h:Rz k x) (j:Rz l y):Rz (k+l+1) (x+y):=by rw[<-U8];exact Rz.of (((h.n.mul j.d).addm (j.n.mul h.d)).mono (by omega)) ((h.d.mul j.d).mono (by omega)) (by have:=Int.mul_pos (den_pos x) (den_pos y);omega)
theorem Rz.mul {x y:Rat}(h:Rz k x) (j:Rz l y):Rz (k+l) (x*y):=by rw[<-ZO];exact Rz.of (h.n.mul j.n) (h.d.mul j.d) (by have:=Int.mul_pos (den_pos x) (den_pos y);omega)
theorem Rz.neg {x:Rat}(h:Rz k x):Rz k (-x):=⟨by rw[Rat.neg_num];exact h.n.neg,by rw[Rat.neg_den];exact h.d⟩
theorem Rz.sub {x y:Rat}(h:Rz k x) (j:Rz l y):Rz (k+l+1) (x-y):=by rw[Rat.sub_eq_add_neg];exact h.add j.neg
theorem Rz.div {x y:Rat}(j:Rz k x) (w:Rz l y) (D:y≠0):Rz (k+l) (x/y):=by
 rw[<-abE];exact Rz.of (j.n.mul w.d) (j.d.mul w.n) (by
  have E:y.num≠0:=fun e=>D (Rat.num_eq_zero.1 e);intro e;rcases zl.1 e with h|h;·exact lK x h
  ·exact E h)
theorem Sz.one (h:1<=k):Sz k 1:=by
 have:=nN (n:=1) (m:=k) h;have j:pw 1=1000000000:=by decide
 exact⟨by omega,by omega⟩
theorem Rz.int {n:Int}(h:Sz k n) (j:1<=k):Rz k (n:Rat):=⟨by rw[Rat.num_intCast];exact h,by rw[Rat.den_intCast];exact Sz.one j⟩
theorem CY {n:Int}(h:0<d):dR (Rat.divInt n d)=dQ (n.fdiv ((Int.gcd n d:Nat):Int)) (d.fdiv ((Int.gcd n d:Nat):Int)):=by unfold dR cR;rw[Rat.num_divInt,Rat.den_divInt,if_neg (by omega),Int.sign_eq_one_of_pos h,Int.one_mul,Int.gcd_comm d n,pM _ (by omega),pM _ (by omega)];rw[show((d.natAbs/Int.gcd n d:Nat):Int)=d/((Int.gcd n d:Nat):Int) from by rw[Int.natCast_ediv];rw[show((d.natAbs:Nat):Int)=d from by omega]];rfl
theorem AA {n:Int}(j:0<d) (h:((Int.gcd n d:Nat):Int)=1):dR (Rat.divInt n d)=dQ n d:=by rw[CY j,h,Int.fdiv_one,Int.fdiv_one]
theorem J2 {n:Int}:dR (Rat.divInt n d)=dR (Rat.divInt (-n) (-d)):=by rw[Rat.neg_divInt_neg]
theorem EZ {n:Int}(h:d≠0):((Int.gcd n d:Nat):Int)≠0:=by simp_all
theorem sB {x y:Rat}:dC (x.num*(y.den:Int)) (y.num*(x.den:Int))=if x<y then-1 else if y<x then 1 else 0:=by unfold dC;simp only[Rat.lt_iff]
def aJ (x y:Rat):Int:=if x<y then-1 else if y<x then 1 else 0
theorem uz {x:Rat}:dC x.num 0=aJ x 0:=by unfold aJ;rw[<-sB];simp
theorem Sh {x:Rat}{n:Int}(j:x.num=n) (h:(x.den:Int)=d):dR x=dQ n d:=by unfold dR cR;rw[j,h];rfl
theorem Sa {n:Int}:dR (n:Rat)=dQ n 1:=Sh (Rat.num_intCast n) (by rw[Rat.den_intCast];rfl)
def At (x:Int):Bool:=bp x*bp x==x
def jB (x:Rat):Bool:=At x.num&&At (x.den:Int)
theorem GA (h:x<0):At x=false:=by unfold At;rw[uo h];simp;omega
theorem iD (w:a≠0) (j:b≠0):a*b≠0:=fun e=>by rcases zl.1 e with h|h<;>contradiction
theorem PC {x:Rat}(h:x≠0):x.num≠0:=fun e=>h (Rat.num_eq_zero.1 e)
theorem Sz.isq (h:Sz k x):Sz k (bp x):=h.of_le PO
theorem Lm {x:Rat}(h:(aJ x 0==0)=true):x=0:=by rw[<-uz] at h;exact Rat.num_eq_zero.1 (U3 h)
theorem lQ {x y:Rat}:aJ x y=0↔x=y:=by unfold aJ;rw[<-sB,ye,Rat.eq_iff_mul_eq_mul]
theorem Io {x y:Rat}:aJ x y<0↔x<y:=by unfold aJ;rw[<-sB,B6,Rat.lt_iff]
theorem q9 {x y:Rat}:0<aJ x y↔y<x:=by unfold aJ;rw[<-sB,BX,Rat.lt_iff]
theorem Ea {x:Rat}:aJ x 0=dC x.num 0:=uz.symm
theorem Ky {x y:Rat}(h:(dC (aJ x 0) (aJ y 0) !=0)=true):dC (aJ x 0) (aJ y 0)=aJ x y:=by
 have D:=agj h;rw[Ea,Ea] at*;have H:=den_pos x;have E:=den_pos y;have I: ∀ {a b:Int},a<0->0<b->a*b<0:=fun ha J=>Int.mul_neg_of_neg_of_pos ha J;have W:aJ x y=dC (x.num*(y.den:Int)) (y.num*(x.den:Int)):=by unfold aJ;rw[<-sB]
 rw[W];rcases ra x.num 0 with j|j|j<;>rcases ra y.num 0 with w|w|w;·rw[eg j,eg w] at D;exact absurd rfl D
 ·rw[eg j,jN w,eg (a:= -1) (by decide),eg];rw[w,oL];exact I j E
 ·rw[eg j,eA w,eg (a:= -1) (by decide),eg];grind
 ·rw[jN j,eg w,eA (a:=0) (by decide),eA];rw[j,oL];exact I w H
 ·grind
 ·rw[jN j,eA w,eg (a:=0) (by decide),eg];rw[j,oL];exact Int.mul_pos w H
 ·rw[eA j,eg w,eA (a:=1) (by decide),eA];grind
 ·rw[eA j,jN w,eA (a:=1) (by decide),eA];rw[w,oL];exact Int.mul_pos j E
 ·rw[eA j,eA w] at D;exact absurd rfl D
theorem Jn {x y:Rat}:aJ x y=dC (x.num*(y.den:Int)) (y.num*(x.den:Int)):=by unfold aJ;rw[<-sB]
theorem e7 (h:((if x<0 then(7:Int) else 0)==0)=false):x<0:=by grind
theorem MJ:At x=(dC (bp x*bp x) x==0):=by
 unfold At;rcases ra (bp x*bp x) x with h|h|h;·rw[eg h];simp;omega
 ·rw[jN h];simp;omega
 ·rw[eA h];simp;omega
theorem Zu {x:Rat}(h:At x.num=true) (j:At (x.den:Int)=true):jB x=true:=by unfold jB;rw[h,j];rfl
theorem QI {x:Rat}(h:At x.num=false):jB x=false:=by unfold jB;rw[h];rfl
theorem Q3 {x:Rat}(h:At (x.den:Int)=false):jB x=false:=by unfold jB;rw[h];cases At x.num<;>rfl
theorem AT:dQ 0 0=.a (([.b false]++[.s 0 []])++([.b false]++[.s 0 []])):=by
 have h:cI 0=[.b false]++[.s 0 []]:=by have:=yd;unfold dI at this;injection this
 unfold dQ cQ;grind
theorem Sz.fdiv (h:Sz k x):Sz k (x.fdiv y):=h.of_le (by
 have D: ∀a b:Nat,a/b<=a:=fun a b=>Nat.div_le_self a b;rcases ra y 0 with j|j|j
 ·rw[<-Int.neg_fdiv_neg,pM _ (by omega)];have w:(-x/ -y).natAbs<=(-x).natAbs:=ti _ _;omega
 ·subst j;simp
 ·rw[pM _ (by omega)];exact ti x y)
def Vk (xs:List Int):Prop:= ∀x∈xs,0<=x/\x<=4294967295
theorem Td (h:Vk xs) (i:Nat):0<=xs.getD i 0/\xs.getD i 0<=4294967295:=by
 by_cases hi:i<xs.length
 ·have:xs.getD i 0=xs[i]:=by simp[List.getD,hi]
  rw[this];exact h _ (y8 hi)
 grind
def vI (neg:Bool) (xs:List Int):Bool:=xs.all (fun x=>decide (x<1000000000))&&((trm xs).length==xs.length)&&(!neg||decide (0<xs.length))
theorem abW {neg:Bool}(w:k<xs.length) (h:xs.getD k 0>=1000000000):vI neg xs=false:=by
 have D:xs.all (fun x=>decide (x<1000000000))=false:=by rw[Bool.eq_false_iff];intro j;have E:=lj.1 j xs[k] (y8 w);grind
 unfold vI;grind
theorem KH (j:Vk xs) (h: ∀k,k<xs.length->xs.getD k 0<1000000000):Lim xs:=by
 intro x w;obtain⟨i,hi,rfl⟩:=List.getElem_of_mem w;have E:=h i hi;have D:xs.getD i 0=xs[i]:=by grind
 have:=j xs[i] (y8 hi);omega
theorem Bj (h:Lim xs):xs.all (fun x=>decide (x<1000000000))=true:=lj.2 fun x j=>by have:=h x j;simp;omega
theorem abl {neg:Bool}(h:Lim xs):vI neg xs=(((trm xs).length==xs.length)&&(!neg||decide (0<xs.length))):=by unfold vI;rw[Bj h];rfl
theorem Kh {neg:Bool}(h:Lim xs):vI neg xs=((((cX (val xs).natAbs).length:Int)==(xs.length:Int))&&(!neg||decide ((xs.length:Int)>0))):=by
 rw[abl h,M1 h];congr 1;·grind
 grind
theorem FZ (W:Sz 100000000 x) (hy:Sz 100000000 y):Ok Tryz.prog 193 [dI x,dI y] [dI (Int.gcd x y:Int)]:=by
 refine cj Tryz.func193 rfl<|cE 8 [] ?_;refine aG rfl (rM) ?_;refine aG rfl (rM) ?_;refine DW.mk<|bF (ι:={p:Int×Int // GInv x y p.1 p.2}) (fun i=>⟨61,[(4,.p 4 0),(5,.p 5 0),(6,.p 6 0)],[(4,38,([.b false]++[.s 0 []])),(5,38,cI i.1.1),(6,38,cI i.1.2)]⟩) (fun i=>i.1.2.toNat) ⟨(sg false (x.natAbs:Int),sg false (y.natAbs:Int)),GInv.start W hy⟩ (al ⟨rfl,rfl,rfl,trivial⟩ ⟨rfl,rfl,rfl,trivial⟩ rfl) ?_;rintro⟨⟨a,c⟩,h⟩;replace h:GInv x y a c:=h;have ha:=h.sa;have a0:=h.sc;dsimp only;refine sh ?_;refine cU rfl (fun E=>?_) (fun E=>?_)
 ·have j:=qK E;refine ac rfl (Jl)<|ac rfl (Jl) ?_;refine jC (aQ rfl) (fun c2 I=>?_);cases c2
  ·refine nM rfl<|ac rfl (vZ (by assumption) (by assumption) (by assumption))<|cE 3 [] ?_;refine aG rfl (kW) ?_;exact⟨⟨(c,sg false ((a.natAbs:Int)%c.natAbs)),h.step j⟩,al ⟨rfl,rfl,rfl,trivial⟩ ⟨rfl,rfl,rfl,trivial⟩ rfl,h.less j⟩
  ·refine cU rfl (fun H=>?_) (fun H=>?_)
   ·refine DW.mk<|bF (ι:={p:Int×Int // GInv2 x y p.1 p.2}) (fun i=>⟨61,[(4,.p 4 0),(7,.v (.c (.i .u64 i.1.1))),(9,.v (.c (.i .u64 i.1.2)))],[(4,38,([.b false]++[.s 0 []]))]⟩) (fun i=>i.1.2.toNat) ⟨(if a.natAbs<1000000000000000000 then(a.natAbs:Int) else 0,if c.natAbs<1000000000000000000 then(c.natAbs:Int) else 0),h.word I H⟩ (al ⟨rfl,rfl,rfl,trivial⟩ ⟨rfl,trivial⟩ rfl) ?_;rintro⟨⟨u,v⟩,D⟩;replace D:GInv2 x y u v:=D;dsimp only;refine sh ?_;refine cU rfl (fun w=>?_) (fun w=>?_)
    ·have J:v>0:=by simpa using w
     refine cE 6 []<|aq (FR rfl rfl (by omega) rfl) ?_;exact⟨⟨(v,u.tmod v),D.step J⟩,al ⟨rfl,rfl,rfl,trivial⟩ ⟨rfl,trivial⟩ rfl,D.less J⟩
    ·refine ac rfl (NP D.u0 D.u1)<|ac rfl (kW) ?_;refine ah ?_;rw[D.done (by simpa using w)];exact a7 ep rfl aa
   ·refine ac rfl (vZ (by assumption) (by assumption) (by assumption))<|cE 3 [] ?_;refine aG rfl (kW) ?_;exact⟨⟨(c,sg false ((a.natAbs:Int)%c.natAbs)),h.step j⟩,al ⟨rfl,rfl,rfl,trivial⟩ ⟨rfl,rfl,rfl,trivial⟩ rfl,h.less j⟩
 ·refine ar (O5 rfl (by assumption) rfl) ?_;refine ac rfl (rM) ?_;refine ah ?_;rw[h.done (qO E)];exact a7 ep rfl aa
theorem pf (I:Sz 100000000 x) (J:Sz 100000000 y) (D:y≠0):Ok Tryz.prog 246 [dI x,dI y] [dI (x.fdiv y),dI (x.fmod y),.c (.i .i64 0)]:=by
 have W:Sz 100000000 (q0 x y):=I.q0;have hr:Sz 100000000 (r0 x y):=J.r0 D;have h1:Sz 100000000 (1:Int):=eE (by omega) (by omega) (by omega);refine cj Tryz.func246 rfl ?_;refine cU rfl (fun j=>?_) (fun j=>?_);·exact absurd j (by simp[dM,D])
 ·refine ac rfl (vZ (by assumption) (by assumption) (by assumption))<|cE 13 [] ?_;refine aq (go rfl rfl f5 rfl) ?_;refine aG rfl (kW) ?_;refine aG rfl (kW) ?_;refine jC (aQ rfl) (fun c2 w=>?_);cases c2
  ·refine nM rfl<|cE 5 [4,5,999999] ?_;refine DQ.mk<|kJ (fJ ep rfl) rfl rfl rfl rfl<|ek ?_;refine DQ.mk<|kJ (fJ ep rfl) rfl rfl rfl rfl<|ek ?_;obtain⟨H,E⟩:=xe (x:=x) D (.inl (qO w));refine ah ?_;rw[H,E];exact a7 ep rfl (a7 ep rfl (aj aa))
  ·refine ar (go rfl rfl f5 rfl) ?_;refine cU rfl (fun h=>?_) (fun h=>?_)
   ·refine cE 6 [] ?_;refine aG rfl (lW (by omega) (by omega))<|aG rfl (W9 (by assumption) (by assumption)) ?_;refine aG rfl (wS (by assumption) (by assumption))<|cE 5 [4,5,999999] ?_;refine DQ.mk<|kJ (fJ ep rfl) rfl rfl rfl rfl<|ek ?_;refine DQ.mk<|kJ (fJ ep rfl) rfl rfl rfl rfl<|ek ?_;obtain⟨H,E⟩:=Jm (x:=x) D (qK w) (Fl h);refine ah ?_;rw[H,E];exact a7 ep rfl (a7 ep rfl (aj aa))
   ·refine cE 5 [4,5,999999] ?_;refine DQ.mk<|kJ (fJ ep rfl) rfl rfl rfl rfl<|ek ?_;refine DQ.mk<|kJ (fJ ep rfl) rfl rfl rfl rfl<|ek ?_;obtain⟨H,E⟩:=xe (x:=x) D (.inr (Gf h));refine ah ?_;rw[H,E];exact a7 ep rfl (a7 ep rfl (aj aa))
theorem wO:Ok Tryz.prog 173 [dI x] [.c (.i .i64 (dC x 0))]:=by
 refine cj Tryz.func173 rfl ?_;refine cU rfl (fun j=>?_) (fun j=>?_)
 ·refine ah ?_;rw[jN (by have:=j;simp[dM] at this;omega)];exact aj aa
 ·refine cU rfl (fun h=>?_) (fun h=>?_)
  ·refine ah ?_;rw[eg (by simpa using h)];exact aj aa
  ·refine ah ?_;rw[eA (by have:=j;have w:=h;simp[dM] at this w;omega)];exact aj aa
theorem K7 (E:Sz 100000000 x) (H:Sz 100000000 y):Ok Tryz.prog 181 [dI x,dI y] [.c (.i .i64 (dC x y))]:=by
 refine cj Tryz.func181 rfl ?_;refine ar (go rfl rfl f5 rfl) ?_;refine cU rfl (fun j=>?_) (fun j=>?_)
 ·refine cU rfl (fun w=>?_) (fun w=>?_)
  ·refine ah ?_;rw[eg (by have:=Fl j;have D:=w;simp only[decide_eq_true_eq] at D;omega)];exact aj aa
  ·refine ah ?_;rw[eA (by have:=Fl j;have D:=w;simp only[decide_eq_false_iff_not] at D;omega)];exact aj aa
 ·refine cU rfl (fun h=>?_) (fun h=>?_)
  ·refine ac rfl (oR (by assumption) (by assumption))<|ah ?_;rw[<-FS h (by have:=Gf j;have D:=h;simp only[decide_eq_true_eq] at D;omega)];exact aj aa
  ·refine ac rfl (oR (by assumption) (by assumption))<|ah ?_;rw[<-Fd h (by have:=Gf j;have D:=h;simp only[decide_eq_false_iff_not] at D;omega)];exact aj aa
theorem qz (D: -9223372036854775808<=x) (E:x<=9223372036854775807):Ok Tryz.prog 89 [.c (.i .i64 x)] [dI x]:=by
 refine cj Tryz.func89 rfl ?_;refine cU rfl (fun j=>?_) (fun j=>?_)
 ·have w:x<0:=by simpa using j
  refine ar (bj (r:=x+18446744073709551616) nu fB rfl (H8 w D) rfl) ?_;refine ar (fQ (r:= -x) rfl (DO w D) rfl) ?_;refine ac rfl (qL (by omega) (by omega))<|ac rfl (iw (Sz.small3 (by omega) (by omega))) ?_;have h:dI x=dI (sg true (((-x).natAbs:Nat):Int)):=congrArg dI (by rw[fW];omega);refine ah ?_;rw[h];exact a7 ep rfl aa
 ·have w:0<=x:=by have:=j;simp at this;omega
  refine ar (bj (r:=x) nu fB rfl (iF (by omega) (by omega)) rfl) ?_;refine ac rfl (qL (by omega) (by omega))<|ac rfl (iw (Sz.small3 (by omega) (by omega))) ?_;have h:dI x=dI (sg false ((x.natAbs:Nat):Int)):=congrArg dI (by rw[cr];omega);refine ah ?_;rw[h];exact a7 ep rfl aa
theorem AM (h:Sz 100000000 x):Ok Tryz.prog 178 [dI x] [dI (-x)]:=by refine cj Tryz.func178 rfl<|ac rfl (iw (by assumption)) ?_;refine ah ?_;rw[<-aax (x:=x)];exact a7 ep rfl aa
theorem m6 (h:Sz 40000000 x) (j:Sz 40000000 y):Ok Tryz.prog 176 [dI x,dI y] [dI (x*y)]:=by have w:Sz 100000000 x:=h.m_;have D:Sz 100000000 y:=j.m_;have E:Sz 100000000 ((x.natAbs:Int)*(y.natAbs:Int)):=((Fp h).mul (Fp j)).m_;refine cj Tryz.func176 rfl<|cE 11 [] ?_;refine aq (go rfl rfl f5 rfl) ?_;refine aG rfl (PZ (by assumption) (by assumption))<|aG rfl (iw (by assumption))<|ah ?_;rw[<-abF (x:=x) (y:=y)];exact a7 ep rfl aa
theorem Ay (H:Sz 90000000 x) (I:Sz 90000000 y):Ok Tryz.prog 177 [dI x,dI y] [dI (x+y)]:=by
 have w:Sz 100000000 x:=H.m_;have D:Sz 100000000 y:=I.m_;have W:Sz 100000000 ((x.natAbs:Int)+(y.natAbs:Int)):=((Fp (H.mono (l:=99999999) (by decide))).add (Fp (I.m_))).m_;refine cj Tryz.func177 rfl<|ar (xy rfl rfl f5 rfl) ?_;refine cU rfl (fun h=>?_) (fun h=>?_)
 ·refine cE 8 [] ?_;refine aG rfl (Vg (by assumption) (by assumption)) ?_;refine aG rfl (iw (by assumption))<|ah ?_;rw[<-WB h];exact a7 ep rfl aa
 ·refine ac rfl (oR (by assumption) (by assumption)) ?_;refine cU rfl (fun j=>?_) (fun j=>?_)
  ·have E:=FP j;have J:Sz 100000000 ((x.natAbs:Int)-(y.natAbs:Int)):=w.of_le (by omega);refine cE 8 [] ?_;refine aG rfl (xY (by assumption) (by omega))<|aG rfl (iw (by assumption))<|ah ?_;rw[<-aew h (by omega)];exact a7 ep rfl aa
  ·have E:=Ft j;have J:Sz 100000000 ((y.natAbs:Int)-(x.natAbs:Int)):=D.of_le (by omega);refine cE 8 [] ?_;refine aG rfl (xY (by assumption) (by omega))<|aG rfl (iw (by assumption))<|ah ?_;rw[<-adh h (by omega)];exact a7 ep rfl aa
theorem Xn (D:Sz 90000000 x) (h:Sz 90000000 y):Ok Tryz.prog 260 [dI x,dI y] [dI (x-y)]:=by have j:Sz 100000000 x:=D.m_;have w:Sz 100000000 y:=h.m_;have E:Sz 90000000 (-y):=h.neg;refine cj Tryz.func260 rfl<|cE 4 [] ?_;refine aG rfl (AM (by assumption)) ?_;refine aG rfl (Ay (by assumption) (by assumption))<|ah ?_;rw[Int.sub_eq_add_neg];exact a7 ep rfl aa
theorem Iq (w:Sz 100000000 x) (D:Sz 100000000 y):Ok Tryz.prog 253 [dI x,dI y] [.c (.b (x==y))]:=by
 refine cj Tryz.func253 rfl ?_;refine ar (xy rfl rfl f5 rfl) ?_;refine jC (aQ rfl) (fun j h=>?_);cases j
 ·refine ah ?_;rw[show(x==y)=false from by have:=h;simp only[beq_eq_false_iff_ne,ne_eq] at this⊢;intro e;subst e;exact this rfl];exact aj aa
 ·refine ac rfl (oR (by assumption) (by assumption))<|ah ?_;rw[<-Qe h];exact aj aa
theorem mI (hx:Sz 20000000 x) (J:Sz 20000000 y) (j:y≠0):Ok Tryz.prog 180 [dI x,dI y] [dI (x.fdiv y),dI (x.fmod y),.c (.i .i64 0)]:=by
 have hq:Sz 90000000 (q0 x y):=hx.q0.m_;have hr:Sz 90000000 (r0 x y):=(J.r0 j).m_;have h1:Sz 90000000 (1:Int):=eE (by omega) (by omega) (by omega);have a0:Sz 90000000 y:=J.m_;have I:Sz 100000000 ((x.natAbs:Int)/y.natAbs):=acw hx;have W:Sz 100000000 ((x.natAbs:Int)%y.natAbs):=adm J j;refine cj Tryz.func180 rfl ?_;refine cU rfl (fun D=>?_) (fun D=>?_);·exact absurd D (by simp[dM,j])
 ·refine ac rfl (CB (by assumption) (by assumption) (by assumption))<|cE 13 [] ?_;refine aq (go rfl rfl f5 rfl) ?_;refine aG rfl (KI I) ?_;refine aG rfl (KE j W) ?_;refine jC (aQ rfl) (fun c2 h=>?_);cases c2
  ·refine nM rfl<|cE 5 [4,5,999999] ?_;refine DQ.mk<|kJ (fJ ep rfl) rfl rfl rfl rfl<|ek ?_;refine DQ.mk<|kJ (fJ ep rfl) rfl rfl rfl rfl<|ek ?_;obtain⟨H,E⟩:=xe (x:=x) j (.inl (Mh.1 (qO h)));refine ah ?_;rw[H,E];exact a7 ep rfl (a7 ep rfl (aj aa))
  ·refine ar (go rfl rfl f5 rfl) ?_;refine cU rfl (fun w=>?_) (fun w=>?_)
   ·refine cE 6 [] ?_;refine aG rfl (qz (by omega) (by omega))<|aG rfl (Xn (by assumption) (by assumption)) ?_;refine aG rfl (Ay (by assumption) (by assumption))<|cE 5 [4,5,999999] ?_;refine DQ.mk<|kJ (fJ ep rfl) rfl rfl rfl rfl<|ek ?_;refine DQ.mk<|kJ (fJ ep rfl) rfl rfl rfl rfl<|ek ?_;obtain⟨H,E⟩:=Jm (x:=x) j (fun e=>qK h (Mh.2 e)) (by rw[Mc j (qK h)];exact Fl w);refine ah ?_;rw[H,E];exact a7 ep rfl (a7 ep rfl (aj aa))
   ·refine cE 5 [4,5,999999] ?_;refine DQ.mk<|kJ (fJ ep rfl) rfl rfl rfl rfl<|ek ?_;refine DQ.mk<|kJ (fJ ep rfl) rfl rfl rfl rfl<|ek ?_;obtain⟨H,E⟩:=xe (x:=x) j (.inr (by rw[Mc j (qK h)];exact Gf w));refine ah ?_;rw[H,E];exact a7 ep rfl (a7 ep rfl (aj aa))
theorem FW (hx:Sz 20000000 x) (hy:Sz 20000000 y):Ok Tryz.prog 179 [dI x,dI y] [dI (Int.gcd x y:Int)]:=by
 refine cj Tryz.func179 rfl<|cE 6 [] ?_;refine DW.mk<|bF (ι:={p:Int×Int // RG x y p.1 p.2}) (fun i=>⟨54,[(4,.p 4 0),(5,.v (.c (cL i.1.1))),(6,.v (.c (cL i.1.2)))],[(4,38,([.b false]++[.s 0 []]))]⟩) (fun i=>i.1.2.toNat) ⟨((x.natAbs:Int),(y.natAbs:Int)),RG.start hx hy⟩ (al ⟨rfl,by rw[Pq x];rfl,by rw[Pq y];rfl,trivial⟩ ⟨rfl,trivial⟩ rfl) ?_;rintro⟨⟨a,c⟩,h⟩;replace h:RG x y a c:=h;have ha:=h.sa;have b0:=h.sc;have a6:=h.a0;have a5:=h.c0;have b1:Sz 100000000 a:=ha.m_;dsimp only;refine sh ?_;refine jC (aQ rfl) (fun c1 D=>?_);cases c1
 ·refine DL.mk<|vm (ng rfl)<|fa ?_;refine nM rfl ?_;refine cU rfl (fun J=>?_) (fun J=>?_)
  ·refine ac rfl (iw (by assumption)) ?_;refine ah ?_;rw[h.done (qO D)];exact a7 ep rfl aa
  ·exact absurd J (by simp[dM,qO D])
 ·have j:=qK D;refine jC (aQ rfl) (fun c3 W=>?_);cases c3
  ·have a3:=Md W;refine cU rfl (fun H=>?_) (fun H=>?_)
   ·refine ac rfl (CB (by assumption) (by assumption) (by assumption)) ?_;exact⟨⟨(c,(a.natAbs:Int)%c.natAbs),h.step j⟩,al ⟨rfl,rfl,rfl,trivial⟩ ⟨rfl,trivial⟩ rfl,h.less j⟩
   ·have a2:=Md H;refine cU rfl (fun I=>?_) (fun I=>?_);·exact absurd I (by simp[dM,j])
    ·refine ac rfl (Jp (by assumption))<|ac rfl (Jp (by assumption)) ?_;refine DW.mk<|bF (ι:={p:Int×Int // GInv2 x y p.1 p.2}) (fun i=>⟨54,[(4,.p 4 0),(9,.v (.c (.i .u64 i.1.1))),(10,.v (.c (.i .u64 i.1.2)))],[(4,38,([.b false]++[.s 0 []]))]⟩) (fun i=>i.1.2.toNat) ⟨((a.natAbs:Int),(c.natAbs:Int)),h.word a3 a2⟩ (al ⟨rfl,rfl,rfl,trivial⟩ ⟨rfl,trivial⟩ rfl) ?_;rintro⟨⟨u,v⟩,w⟩;replace w:GInv2 x y u v:=w;have a4:=w.u0;have a1:=w.u1;have b2:Sz 100000000 u:=Sz.small3 a4 a1;dsimp only;refine sh ?_;refine cU rfl (fun E=>?_) (fun E=>?_)
     ·have hv:v>0:=by simpa using E
      have a9:v≠0:=by omega
      refine cE 6 []<|aq (FR rfl rfl (by omega) rfl) ?_;exact⟨⟨(v,u.tmod v),w.step hv⟩,al ⟨rfl,rfl,rfl,trivial⟩ ⟨rfl,trivial⟩ rfl,w.less hv⟩
     ·refine ac rfl (qL (by omega) (by omega))<|ac rfl (iw (by assumption)) ?_;refine ah ?_;rw[w.fin (by simpa using E)];exact a7 ep rfl aa
  ·refine vr rfl<|ac rfl (CB (by assumption) (by assumption) (by assumption)) ?_;exact⟨⟨(c,(a.natAbs:Int)%c.natAbs),h.step j⟩,al ⟨rfl,rfl,rfl,trivial⟩ ⟨rfl,trivial⟩ rfl,h.less j⟩
end Go.Proofs.YtegeknjkgadehaaGreat
