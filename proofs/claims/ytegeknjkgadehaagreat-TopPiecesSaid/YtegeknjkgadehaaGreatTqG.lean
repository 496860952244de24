/-Package swarfref01:times,by,compare,short,signed. -/
import Derived.Test.YtegeknjkgadehaaGreatTqF
namespace Go.Proofs.YtegeknjkgadehaaGreat
open Go Go.RowKit
variable {R V a b c d m r u v x y:Int}{rs us vs xs ys zs:List Int}{K N i k l n:Nat}{pos:String}{U e ty xt:TypeId}
variable {af:Array Edge}{g:Option (Nat×Bool)}{dst:Option Nat}
theorem e8:type_of% @Sz.small:=@Sz.small
theorem nQ:type_of% @Int.zero_mul:=@Int.zero_mul
theorem pG:type_of% @Dw.weak:=@Dw.weak
theorem rI:type_of% @Int.lt_trichotomy:=@Int.lt_trichotomy
theorem sD:type_of% @Int.mul_eq_zero:=@Int.mul_eq_zero
theorem tM:type_of% @Bool.not_false:=@Bool.not_false
theorem E0 (I:Lim xs) (D:Lim ys) (hn:xs.length<=100000000) (hm:ys.length<=100000000):cq 254 [.c (cM xs),.c (cM ys)] [.c (cL (val xs*val ys))]:=by
 refine dP Tryz.func254 68 [.tmp 4] rfl<|ab<|ag<|ab<|ag ?_;refine ar (ca ((xs.length:Int)+(ys.length:Int)) (bc (by omega) (by omega)) rfl) ?_;refine DL.mk<|qL (nB wZ rfl rfl (by omega) (by omega) rfl) rfl<|iJ ?_;refine ab<|ab<|ag<|aM<|bK (ι:={t:Nat×List Int // TInv xs ys t.1 0 0 t.2}) (fun i=>⟨68,[(0,.v (.c (cM xs))),(1,.v (.c (cM ys))),(5,.o 14 (xs.length+ys.length) (xs.length+ys.length)),(6,.v (.c (.i .i64 (i.1.1:Int))))],[(14,255,i.1.2.map (CellD.i .u32))]⟩) (fun i=>xs.length-i.1.1) ⟨(0,List.replicate (xs.length+ys.length) 0),TInv.start⟩ (au (bt rfl) ⟨by rw[show(List.replicate (xs.length+ys.length) (CellD.i .u32 0))=(List.replicate (xs.length+ys.length) 0).map (CellD.i .u32) from by simp];rfl,trivial⟩ rfl) ?_;rintro⟨⟨j,zs⟩,A⟩;replace A:TInv xs ys j 0 0 zs:=A;have g5:=A.ik;have g6:=A.len;dsimp only;refine ab<|ab<|ag ?_;refine aJ rfl (fun J=>?_) (fun J=>?_)
 .have hj:j<xs.length:=by simp only[decide_eq_true_eq] at J;omega
  refine aA<|ab<|aM<|ab<|ag<|ab<|ab<|ag<|aM<|bK (ι:={t:Nat×Int×List Int // TInv xs ys j t.1 t.2.1 t.2.2}) (fun i=>⟨68,[(0,.v (.c (cM xs))),(1,.v (.c (cM ys))),(5,.o 14 (xs.length+ys.length) (xs.length+ys.length)),(6,.v (.c (.i .i64 (j:Int)))),(7,.v (.c (.i .u64 i.1.2.1))),(8,.v (.c (.i .i64 (i.1.1:Int))))],[(14,255,i.1.2.2.map (CellD.i .u32))]⟩) (fun i=>ys.length-i.1.1) ⟨(0,0,zs),A⟩ (au (bt rfl) ⟨rfl,trivial⟩ rfl) ?_;rintro⟨⟨k,c,zs⟩,A⟩;replace A:TInv xs ys j k c zs:=A;have g1:=dm I j;have g2:=dm D k;have g8:=dm A.L (j+k);have g3:=A.c0;have g4:=A.c1;have g5:=A.ik;have g7:=A.kk;have g6:=A.len;dsimp only;refine ab<|ab<|ag ?_;refine aJ rfl (fun W=>?_) (fun W=>?_)
  .have hk:k<ys.length:=by simp only[decide_eq_true_eq] at W;omega
   have a6:=mp g1.1 g2.1;have a5:xs.getD j 0*ys.getD k 0<=999999999*999999999:=qJ (by omega) (by omega) g2.1 (by omega);refine aA<|ab<|aM<|ab<|ou 22 rfl rfl<|eJ 4<|bp (ca ((j:Int)+(k:Int)) (bc (by omega) (by omega)) rfl) ?_;refine bp (a8 jq rfl rfl (by omega) rfl) ?_;refine bp (cT fK rfl rfl (aeI (i:=j+k) (by omega)) rfl) ?_;refine bp (bi jK fQ rfl (i9 (by omega) (by omega)) rfl) ?_;refine bp (ca (c+(zs.getD (j+k) 0)) (fR (by omega) (by omega)) rfl) ?_;apply eJ 2;refine bp (cg jq rfl rfl (by omega) (jE _) rfl rfl) ?_;refine bp (cS fK rfl (kw (i:=j) (by omega)) rfl) ?_;refine bp (bi jK fQ rfl (i9 (by omega) (by omega)) rfl) ?_;apply eJ 2;refine bp (cg jq rfl rfl (by omega) (jE _) rfl rfl) ?_;refine bp (cS fK rfl (kw (i:=k) (by omega)) rfl) ?_;refine bp (bi jK fQ rfl (i9 (by omega) (by omega)) rfl) ?_;refine bp (ca ((xs.getD j 0)*(ys.getD k 0)) (iC (by omega) (by omega)) rfl) ?_;refine bp (ca ((c+(zs.getD (j+k) 0))+((xs.getD j 0)*(ys.getD k 0))) (fR (by omega) (by omega)) rfl) ?_;refine Eb<|eP<|bO<|ab<|bN<|cZ 3<|bj (ca ((j:Int)+(k:Int)) (bc (by omega) (by omega)) rfl)<|cZ 1<|bj (fz rfl rfl (by omega) (ku (by omega)) rfl) ?_;refine bj (bi fQ jK rfl (sw (by omega) (by omega)) rfl) ?_;refine bj (a8 jq rfl rfl (by omega) rfl) ?_;refine gS (aV fK rfl rfl rfl rfl (by simp;omega) (qj (by omega)) rfl) ?_;refine bO<|ag<|ar (jX (r:=(c+zs.getD (j+k) 0+xs.getD j 0*ys.getD k 0)/1000000000) rfl rfl (by omega) (by rw[t6 (by omega)];exact i9 (by omega) (by omega)) rfl) ?_;refine ag ?_;refine ar (ca ((k:Int)+1) (bc (by omega) (by omega)) rfl) ?_;exact⟨⟨(k+1,(c+zs.getD (j+k) 0+xs.getD j 0*ys.getD k 0)/1000000000,zs.set (j+k) ((c+zs.getD (j+k) 0+xs.getD j 0*ys.getD k 0)%1000000000)),A.step I D hj hk rfl⟩,au ⟨rfl,rfl,rfl,rfl,rfl,by rw[show((k+1:Nat):Int)=(k:Int)+1 from by omega];rfl,trivial⟩ ⟨rfl,trivial⟩ rfl,by show ys.length-(k+1)<ys.length-k;omega⟩
  .have hk:k=ys.length:=by simp only[decide_eq_false_iff_not] at W;omega
   refine bH<|bN<|cZ 4 ?_;refine bj (ca ((j:Int)+(ys.length:Int)) (bc (by omega) (by omega)) rfl) ?_;refine cZ 1<|bj (bi fQ jK rfl (sw (by omega) (by omega)) rfl) ?_;refine bj (a8 jq rfl rfl (by omega) rfl) ?_;refine gS (aV fK rfl rfl rfl rfl (by simp;omega) (qj (by omega)) rfl) ?_;refine bO<|ag ?_;refine ar (ca ((j:Int)+1) (bc (by omega) (by omega)) rfl) ?_;exact⟨⟨(j+1,zs.set (j+ys.length) c),A.row hj hk⟩,au ⟨rfl,rfl,rfl,by rw[show((j+1:Nat):Int)=(j:Int)+1 from by omega];rfl,trivial⟩ ⟨rfl,trivial⟩ rfl,by show xs.length-(j+1)<xs.length-j;omega⟩
 .have hj:j=xs.length:=by simp only[decide_eq_false_iff_not] at J;omega
  have a3:=(A.done hj).symm;have a4:=A.L;refine bH<|ab ?_;refine vL (t:=5) rfl rfl (by first|omega|(simp;omega)|simp) (by omega) (by omega) (dS (by first|omega|(simp;omega)|simp)) ?_;refine ag<|ac rfl (kY a4 (by omega))<|aU ?_;rw[a3];exact ae (aj aa)
theorem KL (j:Lim xs) (D:xs.length<=100000000) (h0:0<=m) (h1:m<1000000000):cq 318 [.c (cM xs),.c (.i .u32 m)] [.c (cL (val xs*m))]:=by
 have A:val [m]=m:=by simp[val]
 refine bE Tryz.func318 rfl<|ar (xd wZ rfl rfl) ?_;refine ac rfl (kY (Lim.nil.cons h0 h1) (fU rfl))<|ac rfl (E0 j (bL _) D (hJ (by rw[A];exact e8 (by omega) (by omega) (by omega))))<|ae ?_;rw[show val xs*m=val xs*val (dr (val [m]).natAbs) from by rw[bZ,show(((val [m]).natAbs:Nat):Int)=m from by simp[val];omega]];exact aj aa
theorem I6 (I:Lim xs) (D:Lim ys) (nX:Nrm xs) (nY:Nrm ys) (hn:xs.length<=100000000) (_hm:ys.length<=100000000):cq 256 [.c (cM xs),.c (cM ys)] [.c (.i .i64 (dT (val xs) (val ys)))]:=by
 refine dP Tryz.func256 41 [.tmp 4] rfl<|ab<|ag<|ab<|ab<|ag ?_;refine aJ rfl (fun a4=>?_) (fun a4=>?_)
 .have a6:xs.length≠ys.length:=by simp only[bne_iff_ne,ne_eq] at a4;omega
  refine ab<|ab<|ag ?_;refine aJ rfl (fun a5=>?_) (fun a5=>?_)
  .have A:=fk (BG nY I D (by simp only[decide_eq_true_eq] at a5;omega));refine ab<|ag<|aU ?_;rw[A];exact ae (aj aa)
  .have A:=fu (BG nX D I (by simp only[decide_eq_false_iff_not] at a5;omega));refine aA<|ab<|ag<|aU ?_;rw[A];exact ae (aj aa)
 .have b3:xs.length=ys.length:=by simp only[bne_eq_false_iff_eq] at a4;omega
  refine aA<|ab<|ab<|ag ?_;refine ar (ca ((xs.length:Int)-1) (bq (by omega) (by omega)) rfl) ?_;refine aM<|bK (ι:={j:Nat // j<=xs.length/\xs.drop j=ys.drop j}) (fun i=>⟨41,[(0,.v (.c (cM xs))),(1,.v (.c (cM ys))),(5,.v (.c (.i .i64 ((i.1:Int)-1))))],[]⟩) (fun i=>i.1) ⟨xs.length,bk _,by rw[qM (bk _),qM (by omega)]⟩ (au (bt rfl) trivial rfl) ?_;rintro⟨j,hj,hD⟩;refine ab<|ab<|ag ?_;refine aJ rfl (fun a3=>?_) (fun a3=>?_)
  .obtain⟨q,rfl⟩: ∃q,j=q+1:=⟨j-1,by simp only[decide_eq_true_eq] at a3;omega⟩;have e1:=getD_some (xs:=xs) (i:=q) (by omega);have e2:=getD_some (xs:=ys) (i:=q) (by omega);refine pG (σ':=⟨41,[(0,.v (.c (cM xs))),(1,.v (.c (cM ys))),(5,.v (.c (.i .i64 (q:Int))))],[]⟩) (au ⟨rfl,rfl,by rw[show(q:Int)=((q+1:Nat):Int)-1 from by omega];rfl,trivial⟩ trivial rfl) ?_;refine aA<|ab<|aM<|ab<|ab<|fS 9 [] ?_;refine aq (cg jq rfl rfl (by omega) (jE _) rfl rfl) ?_;refine aq (cS fK rfl (kw (by omega)) rfl) ?_;refine aq (cg jq rfl rfl (by omega) (jE _) rfl rfl) ?_;refine aq (cS fK rfl (kw (by omega)) rfl) ?_;refine aJ rfl (fun J=>?_) (fun J=>?_)
   .have A:=fk (Hq I D e1 e2 hD (by simpa using J));refine ab<|ag<|aU ?_;rw[A];exact ae (aj aa)
   .have hlt: ¬xs.getD q 0<ys.getD q 0:=by simpa using J
    refine aA<|ab<|fS 9 [] ?_;refine aq (cg jq rfl rfl (by omega) (jE _) rfl rfl) ?_;refine aq (cS fK rfl (kw (by omega)) rfl) ?_;refine aq (cg jq rfl rfl (by omega) (jE _) rfl rfl) ?_;refine aq (cS fK rfl (kw (by omega)) rfl) ?_;refine aJ rfl (fun W=>?_) (fun W=>?_)
    .have A:=fu (Hq D I e2 e1 hD.symm (by simpa using W));refine ab<|ag<|aU ?_;rw[A];exact ae (aj aa)
    .have a9: ¬xs.getD q 0>ys.getD q 0:=by simpa using W
     refine aA<|ag ?_;refine ar (ca ((q:Int)-1) (bq (by omega) (by omega)) rfl) ?_;exact⟨⟨q,by omega,PQ (by omega) (by omega) hD (by omega)⟩,au (bt rfl) trivial rfl,by show q<q+1;omega⟩
  .have hz:j=0:=by simp only[decide_eq_false_iff_not] at a3;omega
   have A:dT (val xs) (val ys)=0:=by subst hz;simp only[mU] at hD;rw[hD];exact jV rfl
   refine bH<|ab<|ag<|aU ?_;rw[A];exact ae (aj aa)
theorem zH (A:Lim xs) (hn:xs.length<=100000000) (hb:val xs<=18446744073709551615):cq 259 [.c (cM xs)] [.c (.i .u64 (val xs))]:=by
 refine dP Tryz.func259 21 [.tmp 2] rfl<|ab<|ag<|ab<|ag<|ab<|ab<|ag ?_;refine ar (ca ((xs.length:Int)-1) (bq (by omega) (by omega)) rfl) ?_;refine aM<|bK (ι:={t:Nat×Int // ShInv xs t.1 t.2}) (fun i=>⟨21,[(0,.v (.c (cM xs))),(3,.v (.c (.i .u64 i.1.2))),(4,.v (.c (.i .i64 ((i.1.1:Int)-1))))],[]⟩) (fun i=>i.1.1) ⟨(xs.length,0),⟨Nat.le_refl _,qG 0,by rw[pP];simp⟩⟩ (au (bt rfl) trivial rfl) ?_;rintro⟨⟨j,r⟩,I⟩;have g5:=I.le;have g3:=I.r0;refine ab<|ab<|ag ?_;refine aJ rfl (fun D=>?_) (fun D=>?_)
 .obtain⟨q,rfl⟩: ∃q,j=q+1:=⟨j-1,by simp only[decide_eq_true_eq] at D;omega⟩;have W:=I.step A;have hB:=W.bound A;have g1:=dm A q;refine pG (σ':=⟨21,[(0,.v (.c (cM xs))),(3,.v (.c (.i .u64 r))),(4,.v (.c (.i .i64 (q:Int))))],[]⟩) (au ⟨rfl,rfl,by rw[show(q:Int)=((q+1:Nat):Int)-1 from by omega];rfl,trivial⟩ trivial rfl) ?_;refine aA<|ab<|aM<|ag ?_;refine ar (ca (r*1000000000) (iC (by omega) (by omega)) rfl) ?_;refine ar (cg jq rfl rfl (by omega) (jE _) rfl rfl) ?_;refine ar (cS fK rfl (kw (i:=q) (by omega)) rfl) ?_;refine ar (bi jK fQ rfl (i9 (by omega) (by omega)) rfl) ?_;refine ar (ca ((r*1000000000)+(xs.getD q 0)) (fR (by omega) (by omega)) rfl) ?_;refine ag ?_;refine ar (ca ((q:Int)-1) (bq (by omega) (by omega)) rfl) ?_;exact⟨⟨(q,r*1000000000+xs.getD q 0),W⟩,au (bt rfl) trivial rfl,by show q<q+1;omega⟩
 .have hz:j=0:=by simp only[decide_eq_false_iff_not] at D;omega
  have J:val xs=r:=by subst hz;have:=I.v;simp[val,tL] at this;omega
  refine bH<|ab<|ag<|aU ?_;rw[J];exact ae (aj aa)
theorem Ld {neg:Bool}(D:Lim xs) (I:xs.length<=1000000000):cq 171 [.c (.b neg),.c (cM xs)] [dI (sg neg (val xs))]:=by
 refine bE Tryz.func171 rfl<|ac rfl (kY D (by omega)) ?_;refine iN (aY rfl) (fun c1 A=>?_);cases c1
 .have j:dI (sg neg (val xs))=.a ([.b false]++[cL (val xs)]):=by rw[A,cK];unfold dI cI;rw[show decide (val xs<0)=false from by have:=cH D;simp;omega];rfl
  refine ar (am KY DY rfl rfl rfl) ?_;apply ae;rw[j];exact aN fl rfl aa
 .have j:dI (sg neg (val xs))=.a ([.b (decide (((dr (val xs).natAbs).length:Int)>0))]++[cL (val xs)]):=by rw[A];exact W7 (cH D)
  refine ar (am KY DY rfl rfl rfl) ?_;apply ae;rw[j];exact aN fl rfl aa
theorem SH (h:0<r):dr r.toNat=(r%1000000000)::dr (r/1000000000).toNat:=by
 rw[BM (by omega)];congr 1;·omega
 .congr 1;omega
theorem L4 (u:Int) (w:World) (h0:0<=u) (h1:u<=18446744073709551615):Calls Tryz.prog 172 #[.int .u64 u] w fun e w'=> ∃v,e=.returned v/\w'.ownsRow w.heap.size 255 1 v (dr u.toNat).length ((dr u.toNat).map (Value.int .u32))/\Below w.heap.size w w':=by
 obtain⟨i0,a4,a6,a5,a3⟩:=info_parts nP
 have I:(dr u.toNat).length<=3:=by
  refine(jr _).len (bL _) ?_;rw[bZ];have h3:pw 3=1000000000000000000000000000:=by decide
  omega
 go_enter Tryz.func172,Tryz.ntmps172
 go_wp2_with fail
 go_loopw [0,3] (fun n v wr=> ∃(r:Int) (k:Nat) (zs:List Int),n=.int .u64 r/\0<=r/\r<=u/\wr.ownsRow w.heap.size 255 1 v k (zs.map (Value.int .u32))/\Below w.heap.size w wr/\Hid (zs.length=k/\dr u.toNat=zs++dr r.toNat))
  (fun n _ _=>(intOf n).toNat)
 case atStart=>exact⟨u,0,[],rfl,h0,qG _,qQ _ _ _ _,fe _ _,rfl,rfl⟩
 case round=>
  obtain⟨r,k,zs,rfl,W,a9,A,j,H⟩:=hrel
  have hz:=j.size
  by_cases hr:0<r
  .have Hs:Hid ((zs++[r%1000000000]).length=k+1/\dr u.toNat=(zs++[r%1000000000])++dr (r/1000000000).toNat):=by obtain⟨l1,l2⟩:=H.out;refine⟨by simp[l1],?_⟩;rw[l2,SH hr];simp
   have hk:k<=3:=by obtain⟨l1,l2⟩:=H.out;rw[l2] at I;simp at I;omega
   have e1:r.tmod 1000000000=r%1000000000:=ku W
   have e2:IntKind.u32.wrap (r%1000000000)=r%1000000000:=sw (by omega) (by omega)
   have e3:r.tdiv 1000000000=r/1000000000:=t6 W
   have e4:=i9 (by omega) (by omega)
   go_wp2_with (at_builtin;go_must (refine wpList_append_own _ rfl _ _ 36 rfl w.heap.size 255 i0 (.int .u32 0) 1 4 oA a4 a6 a5 a3 rfl (by decide) _ _ _ rfl (A.alloc _) ⟨wr.heap.size,0,none⟩ 1 1 [.int .u32 _] rfl rfl (cell_one_new _ _ _) (by simp[Value.oneCell']) (by unfold maxLen;omega) (by omega) (by simp;omega) ?_);intro v' w1 J D _)
   go_roundw
   case rel=>exact⟨r/1000000000,k+1,_,by first|rfl|(simp[e3,e4]),by omega,by omega,by simpa using J,jv A j hz D,Hs⟩
   case measure=>simp[intOf]<;>omega
  .obtain rfl:r=0:=by omega
   have Hs:Hid (zs.length=k/\dr u.toNat=zs):=by obtain⟨l1,l2⟩:=H.out;refine⟨l1,?_⟩;rw[l2];simp[li]
   go_wp2
   go_ret
   obtain⟨l1,l2⟩:=Hs.out
   exact⟨_,rfl,by rw[l2,l1];exact A,j⟩
theorem rW (h0:0<=u) (h1:u<=18446744073709551615):cq 172 [.c (.i .u64 u)] [.c (cL u)]:=⟨by kernel_rfl,fun av vs w D h=>by
 obtain⟨vs⟩:=vs;match vs,h.1,h with
 |[v],_,h=>
  obtain rfl:=gY h.uncons.1;refine(L4 u w h0 h1).mono ?_;rintro e w' ⟨v,rfl,I,W⟩;obtain⟨A,c,rfl⟩:=DF I;refine⟨_,rfl,?_,W⟩;have hn:u.natAbs=u.toNat:=by omega
  have j:=Ow.sl ⟨I,bL _⟩;have:=xj j.1 j.2.1 j.2.2.1 (fun b off e J=>by have:=Ow.fresh (⟨I,bL _⟩:Ow w' w.heap.size _ _ _) (bk _) b off e;have:=D b J;omega);unfold cL;rw[hn];exact this⟩
structure DInv (us:List Int) (V:Int) (N j:Nat) (R:Int) (zs:List Int):Prop where
 le:j<=us.length
 R0:0<=R
 RV:R<V
 L:Lim zs
 len:zs.length=N
 hN:us.length<=N
 v:val (us.drop j)=val ((zs.take us.length).drop j)*V+R
theorem ES (h:i<xs.length):val (xs.drop i)=xs.getD i 0+1000000000*val (xs.drop (i+1)):=by rw[ov h,eB];grind
theorem DInv.start (j:0<V) (hN:us.length<=N):DInv us V N us.length 0 (List.replicate N 0):=
 ⟨Nat.le_refl _,qG _,j,Lim.zeros _,by simp,hN,by rw[qM (bk _),qM (by simp;omega)];simp[val]⟩
theorem DInv.step {q A:Int}(h:DInv us V N (i+1) R zs) (_hL:Lim us) (I:0<=q) (W:q<1000000000) (D:0<=A) (a3:A<V) (he:us.getD i 0+1000000000*R=q*V+A):DInv us V N i A (zs.set i q):=by
 have hi:=h.le;have j:=h.len;have hN:=h.hN;refine⟨by omega,D,a3,h.L.set I W,by simp[j],hN,?_⟩;have e1:((zs.set i q).take us.length)=(zs.take us.length).set i q:=by rw[List.take_set]
 have J:i<((zs.take us.length).set i q).length:=by grind
 rw[ES hi,h.v,e1,ES J];have e3:((zs.take us.length).set i q).drop (i+1)=(zs.take us.length).drop (i+1):=by rw[CX (by omega)]
 grind
theorem DInv.done (h:DInv us V N 0 R zs):val us/V=val (zs.take us.length)/\val us%V=R:=by have j:=h.v;simp only[mU] at j;have h0:=h.R0;have h1:=h.RV;exact(Int.ediv_emod_unique (show 0<V by omega)).2 ⟨by rw[j,t5 V];omega,h0,h1⟩
theorem Fo (I:0<=R) (A:R<V) (D:0<=d) (j:d<1000000000):0<=(d+1000000000*R)/V/\(d+1000000000*R)/V<=999999999:=by refine⟨Int.ediv_nonneg (by omega) (by omega),?_⟩;have:(d+1000000000*R)/V<1000000000:=Int.ediv_lt_of_lt_mul (by omega) (by omega);omega
theorem adp {T hi top:Int}(J:top*pw n<=V) (j:0<top) (hT:T<(hi+1)*pw n) (A:0<=T) (D:0<V):T/V<=hi/top:=by
 have h1:T/V*V<=T:=Int.ediv_mul_le _ (by omega);have h0:0<=T/V:=ti A (by omega);generalize T/V=q at*;have W:=qg J h0;have hp:=eX n;have I:q*top*pw n<(hi+1)*pw n:=by grind
 have h4:=Int.lt_of_mul_lt_mul_right I (by omega);exact(Int.le_ediv_iff_mul_le j).2 (by omega)
structure HInv (rs:List Int) (n:Nat) (H:Int):Prop where
 h0:0<=H
 h1:H<=999999999999999999
 h:val rs<(H+1)*pw (n-1)
theorem Ys (j:Lim rs) (J:1<=n) (hl:rs.length=n+1):HInv rs n (rs.getD n 0*1000000000+rs.getD (n-1) 0):=by have I:=dm j n;have D:=dm j (n-1);refine⟨by omega,by omega,?_⟩;obtain⟨k,rfl⟩: ∃k,n=k+1:=⟨n-1,by omega⟩;have e1:=m7 (xs:=rs) (k:=k+1) (by omega);rw[cV (by omega),m7 (xs:=rs) (k:=k) (by omega)] at e1;have h1:=fD (j.take k);rw[e1,eZ];grind
theorem Wb (j:Lim rs) (A:1<=n) (hl:rs.length=n):HInv rs n (rs.getD (n-1) 0):=by have D:=dm j (n-1);refine⟨by omega,by omega,?_⟩;obtain⟨k,rfl⟩: ∃k,n=k+1:=⟨n-1,by omega⟩;have I:=m7 (xs:=rs) (k:=k) (by omega);have h1:=fD (j.take k);grind
theorem Sg (j:Lim rs) (hl:rs.length<n):HInv rs n 0:=by refine⟨by omega,by omega,?_⟩;have h1:=fD j;have:=nC (n:=rs.length) (m:=n-1) (by omega);omega
theorem H7 (A:Lim vs) (hN:Nrm vs) (j:vs≠ []):0<vs.getD (vs.length-1) 0/\vs.getD (vs.length-1) 0*pw (vs.length-1)<=val vs:=by
 obtain⟨ys,y,e,J⟩:=hN.last j;have hl:vs.length=ys.length+1:=by grind
 have D:vs.length-1<vs.length:=by omega
 have e1:=m7 D;have h1:=cH (A.take (vs.length-1));have I:=dm A (vs.length-1);grind
theorem we (h0:0<=r) (h:r<pw n):(dr r.natAbs).length<=n:=by refine(jr _).len (bL _) ?_;rw[bZ];omega
theorem aaV {s:Int}(hs:0<s):(x*s)/(y*s)=x/y/\(x*s)%(y*s)=x%y*s:=by refine⟨Int.mul_ediv_mul_of_pos_left x y hs,?_⟩;rw[t5 x,t5 y,Int.mul_emod_mul_of_pos _ _ hs,t5]
theorem GN (h:Sz k a):Sz k (a.natAbs:Int):=h.of_le (by omega)
theorem pM (j:Sz 100000000 a) (A:Sz 100000000 b):cq 256 [.c (cL a),.c (cL b)] [.c (.i .i64 (dT a.natAbs b.natAbs))]:=by have:=I6 (bL a.natAbs) (bL b.natAbs) (jr _) (jr _) (hJ j) (hJ A);rw[bZ,bZ] at this;exact this
theorem Xr (j:Sz 100000000 a) (A:Sz 100000000 b):cq 255 [.c (cL a),.c (cL b)] [.c (cL ((a.natAbs:Int)+b.natAbs))]:=by have:=UJ (bL a.natAbs) (bL b.natAbs) (hJ j) (hJ A);rw[bZ,bZ] at this;exact this
theorem xL (j:Sz 100000000 a) (h:b.natAbs<=a.natAbs):cq 257 [.c (cL a),.c (cL b)] [.c (cL ((a.natAbs:Int)-b.natAbs))]:=by have:=OW (bL a.natAbs) (bL b.natAbs) (hJ j) ((jr _).len (bL _) (by have:=fD (bL a.natAbs);rw[bZ] at this⊢;omega)) (by rw[bZ,bZ];omega);rw[bZ,bZ] at this;exact this
theorem Sj (j:Sz 100000000 a) (A:Sz 100000000 b):cq 254 [.c (cL a),.c (cL b)] [.c (cL ((a.natAbs:Int)*b.natAbs))]:=by have:=E0 (bL a.natAbs) (bL b.natAbs) (hJ j) (hJ A);rw[bZ,bZ] at this;exact this
theorem afr (j:Sz 100000000 a) (h0:0<=m) (h1:m<1000000000):cq 318 [.c (cL a),.c (.i .u32 m)] [.c (cL ((a.natAbs:Int)*m))]:=by have:=KL (bL a.natAbs) (hJ j) h0 h1;rw[bZ] at this;exact this
theorem jb {neg:Bool}(j:Sz 100000000 a):cq 171 [.c (.b neg),.c (cL a)] [dI (sg neg (a.natAbs:Int))]:=by have:=Ld (neg:=neg) (bL a.natAbs) (by have:=hJ j;omega);rw[bZ] at this;exact this
theorem Vh (j:0<=r) (h0:0<=d) (h1:d<1000000000) (hl:(dr r.natAbs).length<=100000000):cq 251 [.c (cM (d::dr r.natAbs))] [.c (cL (d+1000000000*r))]:=by have:=kY (Lim.cons h0 h1 (bL r.natAbs)) (by simp;omega);rw[eB,bZ,show((r.natAbs:Nat):Int)=r from by omega] at this;exact this
theorem IF (A:a.natAbs<=18446744073709551615):cq 259 [.c (cL a)] [.c (.i .u64 (a.natAbs:Int))]:=by
 have:=zH (bL a.natAbs) (by have j:pw 3=1000000000000000000000000000:=by decide
                            have:=(jr a.natAbs).len (bL _) (k:=3) (by rw[bZ];omega)
                            omega) (by rw[bZ];omega)
 rw[bZ] at this;exact this
theorem ON (J:Lim xs) (D:Lim ys) (_nX:Nrm xs) (nY:Nrm ys) (hn:xs.length<=20000000) (hm:ys.length<=20000000) (h6:ys≠ []):cq 258 [.c (cM xs),.c (cM ys)] [.c (cL (val xs/val ys)),.c (cL (val xs%val ys))]:=by
 have n4:1<=ys.length:=by have:=List.length_pos_iff.2 h6;omega
 obtain⟨h5,d5⟩:=H7 D nY h6;have l5:=dm D (ys.length-1);have g8:0<val ys:=by have h2:=qg (eX (ys.length-1)) (show 0<=ys.getD (ys.length-1) 0 by omega);omega
 have b5:=cH J;obtain⟨B,hB⟩: ∃B,ys.getD (ys.length-1) 0=B:=⟨_,rfl⟩;rw[hB] at h5 l5 d5;obtain⟨s,hs⟩: ∃s,1000000000/(B+1)=s:=⟨_,rfl⟩;have s4:1<=s:=by rw[<-hs];exact(Int.le_ediv_iff_mul_le (by omega)).2 (by omega)
 have q4:s<=500000000:=by rw[<-hs];exact Int.ediv_le_of_le_mul (by omega) (by omega)
 obtain⟨V,hV⟩: ∃V,val ys*s=V:=⟨_,rfl⟩;obtain⟨W,hW⟩: ∃W,val xs*s=W:=⟨_,rfl⟩;have a6:0<V:=by rw[<-hV];exact Int.mul_pos g8 (by omega)
 have m4:0<=W:=by rw[<-hW];exact mp b5 (by omega)
 have eV:(V.natAbs:Int)=V:=by omega
 have eW:(W.natAbs:Int)=W:=by omega
 have k7:V<pw (ys.length+1):=by have h1:=fD D;have h2:val ys*s<=val ys*1000000000:=qg (by omega) (by omega);rw[eZ];omega
 have j4:W<pw (xs.length+1):=by have h1:=fD J;have h2:val xs*s<=val xs*1000000000:=qg (by omega) (by omega);rw[eZ];omega
 have e2:(dr V.natAbs).length<=ys.length+1:=we (by omega) k7;have d6:(dr W.natAbs).length<=xs.length+1:=we m4 j4;have b6:dr V.natAbs≠ []:=fun e=>by have:=eI.1 e;omega
 have g4:1<=(dr V.natAbs).length:=by have:=List.length_pos_iff.2 b6;omega
 obtain⟨b3,A⟩:=H7 (bL V.natAbs) (jr _) b6;have j1:=dm (bL V.natAbs) ((dr V.natAbs).length-1);rw[bZ,eV] at A;obtain⟨top,ht⟩: ∃top,(dr V.natAbs).getD ((dr V.natAbs).length-1) 0=top:=⟨_,rfl⟩;rw[ht] at b3 A j1;obtain⟨n,a4⟩: ∃n,(dr V.natAbs).length=n:=⟨_,rfl⟩;rw[a4] at e2 g4 A ht;have n0:V<pw n:=by have:=fD (bL V.natAbs);rw[bZ,eV,a4] at this;exact this
 obtain⟨e4,i0⟩:=aaV (x:=val xs) (y:=val ys) (s:=s) (by omega);rw[hV,hW] at e4 i0;have i6:Sz 100000000 V:=⟨by have:=nC (n:=ys.length+1) (m:=100000000) (by omega);omega,by have:=eX 100000000;omega⟩;have g7:cq 318 [.c (cM ys),.c (.i .u32 s)] [.c (cL V)]:=by rw[<-hV];exact KL D (by omega) (by omega) (by omega)
 have e9:cq 318 [.c (cM xs),.c (.i .u32 s)] [.c (cL W)]:=by rw[<-hW];exact KL J (by omega) (by omega) (by omega)
 have g2: ∀g:Int,0<=g->g<1000000000->cq 318 [.c (cL V),.c (.i .u32 g)] [.c (cL (V*g))]:=fun g h0 h1=>by have:=afr i6 h0 h1;rw[eV] at this;exact this
 refine dP Tryz.func258 173 [.tmp 4,.tmp 5] rfl<|ab<|ag ?_;refine mB (ι:=Unit) (fun i=>⟨173,[(0,.v (.c (cM xs))),(1,.v (.c (cM ys)))],[]⟩) ?_ ?_
 .refine ab<|ag ?_;refine iN (aY rfl) (fun c1 k2=>?_);cases c1
  .refine ck rfl<|aA ?_;exact⟨(),au (bt rfl) trivial rfl⟩
  .have l8:xs.length<=2:=by simp only[decide_eq_true_eq] at k2;omega
   refine aJ rfl (fun h9=>?_) (fun h9=>?_)
   .have i1:ys.length<=2:=by simp only[decide_eq_true_eq] at h9;omega
    have o3:pw 2=1000000000000000000:=by decide
    have m5:=fD J;have n2:=fD D;have p3:=nC (n:=xs.length) (m:=2) l8;have s2:=nC (n:=ys.length) (m:=2) i1;have p1:0<=val xs/val ys:=ti (by omega) (by omega);have r5:val xs/val ys<=val xs:=Int.ediv_le_self _ (by omega);have p4:val xs/val ys<=18446744073709551615:=by omega
    have r4:0<=val xs%val ys:=qY _ (by omega);have r6:val xs%val ys<val ys:=pz _ (by omega);have q3:val xs%val ys<=18446744073709551615:=by omega
    refine ab<|ag<|ac rfl (zH J (by omega) (by omega))<|ac rfl (zH D (by omega) (by omega))<|ab<|fS 10 []<|aq (jX (r:=val xs/val ys) rfl rfl (by omega) (by rw[t6 (by omega)];exact i9 (by omega) (by omega)) rfl) ?_;refine aw rfl (rW ‹_› ‹_›)<|aq (fz (r:=val xs%val ys) rfl rfl (by omega) (ku b5) rfl) ?_;refine aw rfl (rW ‹_› ‹_›)<|aU ?_;exact ae (aj (aj aa))
   .refine aA ?_;exact⟨(),au (bt rfl) trivial rfl⟩
 .rintro⟨⟩;try dsimp only
  refine ab<|ag ?_;refine ar (ca (((ys.length-1:Nat):Int)) (by rw[show((ys.length-1:Nat):Int)=(ys.length:Int)-1 from by omega];exact bq (by omega) (by omega)) rfl) ?_;refine ar (cg jq rfl rfl (by omega) (jE _) rfl rfl) ?_;refine ar (cS fK rfl (kw (i:=(ys.length-1)) (by omega)) rfl) ?_;refine ar (bi (r:=B) jK fQ rfl (by rw[hB];exact i9 (by omega) (by omega)) rfl) ?_;refine ar (ca (B+1) (fR (by omega) (by omega)) rfl) ?_;refine ar (jX (r:=s) rfl rfl (by omega) (by rw[t6 (by omega),hs];exact i9 (by omega) (by omega)) rfl) ?_;refine ar (bi (r:=s) fQ jK rfl (sw (by omega) (by omega)) rfl) ?_;refine ab<|ag<|ac rfl (g7)<|ab<|ag ?_;refine ar (ca (((n-1:Nat):Int)) (by rw[a4,show((n-1:Nat):Int)=(n:Int)-1 from by omega];exact bq (by omega) (by omega)) rfl) ?_;refine ar (cg jq rfl rfl (by omega) (jE _) rfl rfl) ?_;refine ar (cS fK rfl (kw (i:=(n-1)) (by omega)) rfl) ?_;refine ar (bi (r:=top) jK fQ rfl (by rw[ht];exact i9 (by omega) (by omega)) rfl) ?_;refine ab<|ag<|ab<|ag ?_;refine ar (ca ((xs.length:Int)+1) (bc (by omega) (by omega)) rfl) ?_;refine DL.mk<|qL (nB (n:=xs.length+1) wZ rfl rfl (by omega) (by omega) rfl) rfl<|iJ ?_;refine ab<|ag<|ac rfl (e9)<|ab<|ag ?_;refine ar (ve (q:=((dr W.natAbs).length)) jq rfl rfl (by omega) rfl) ?_;refine ab<|ab<|ag ?_;refine ar (ca ((((dr W.natAbs).length:Int))-1) (bq (by omega) (by omega)) rfl) ?_;refine aM<|bK (ι:={t:Nat×Int×List Int // DInv (dr W.natAbs) V (xs.length+1) t.1 t.2.1 t.2.2}) (fun i=>⟨173,[(8,.v (.c (.i .u32 s))),(9,.v (.c (cL V))),(10,.v (.c (.i .u64 top))),(11,.v (.c (cL i.1.2.1))),(12,.o 64 ((dr W.natAbs).length) (xs.length+1)),(13,.v (.c (cL W))),(14,.v (.c (.i .i64 ((i.1.1:Int)-1))))],[(64,255,i.1.2.2.map (CellD.i .u32))]⟩) (fun i=>i.1.1) ⟨((dr W.natAbs).length,0,List.replicate (xs.length+1) 0),DInv.start a6 d6⟩ (au ⟨rfl,rfl,rfl,by rw[show cL 0=.s 0 [] from by unfold cL;rw[show(0:Int).natAbs=0 from rfl,li];rfl];rfl,rfl,rfl,rfl,trivial⟩ ⟨by rw[show(List.replicate (xs.length+1) (CellD.i .u32 0))=(List.replicate (xs.length+1) 0).map (CellD.i .u32) from by simp];rfl,trivial⟩ rfl) ?_;rintro⟨⟨j,R,zs⟩,hI⟩;replace hI:DInv (dr W.natAbs) V (xs.length+1) j R zs:=hI;have g6:=hI.len;have c7:=hI.R0;have i4:=hI.RV;have q5:=hI.le;have eR:(R.natAbs:Int)=R:=by omega
  have l4:(dr R.natAbs).length<=n:=we c7 (by omega);dsimp only;refine ab<|ab<|ag ?_;refine aJ rfl (fun c8=>?_) (fun c8=>?_)
  .obtain⟨q,rfl⟩: ∃q,j=q+1:=⟨j-1,by simp only[decide_eq_true_eq] at c8;omega⟩;have gd:=dm (bL W.natAbs) q;obtain⟨T,hT⟩: ∃T,(dr W.natAbs).getD q 0+1000000000*R=T:=⟨_,rfl⟩;have g3:0<=T:=by omega
   have eT:(T.natAbs:Int)=T:=by omega
   have c5:cq 251 [.c (cM ((dr W.natAbs).getD q 0::dr R.natAbs))] [.c (cL T)]:=by rw[<-hT];exact Vh c7 gd.1 gd.2 (by omega)
   have m0:T<pw (n+1):=by rw[eZ];omega
   have j3:(dr T.natAbs).length<=n+1:=we g3 m0;have g5:Sz 100000000 T:=⟨by have:=nC (n:=n+1) (m:=100000000) (by omega);omega,by have:=eX 100000000;omega⟩;have b7:=Fo c7 i4 gd.1 gd.2;rw[hT] at b7;have k4:=dm (bL T.natAbs) (dr V.natAbs).length;have p2:=dm (bL T.natAbs) (n-1);refine pG (σ':=⟨173,[(8,.v (.c (.i .u32 s))),(9,.v (.c (cL V))),(10,.v (.c (.i .u64 top))),(11,.v (.c (cL R))),(12,.o 64 ((dr W.natAbs).length) (xs.length+1)),(13,.v (.c (cL W))),(14,.v (.c (.i .i64 (q:Int))))],[(64,255,zs.map (CellD.i .u32))]⟩) (au ⟨rfl,rfl,rfl,rfl,rfl,rfl,by rw[show(q:Int)=((q+1:Nat):Int)-1 from by omega];rfl,trivial⟩ ⟨rfl,trivial⟩ rfl) ?_;refine aA<|ab<|aM<|ab<|bN<|cZ 2 ?_;refine bj (cg jq rfl rfl (by omega) (jE _) rfl rfl) ?_;refine bj (cS fK rfl (kw (i:=q) (by omega)) rfl) ?_;refine qL (kO (us:=[.i .u32 ((dr W.natAbs).getD q 0)]) wZ rfl rfl (by decide) (by decide) rfl) rfl ?_;refine cZ 1<|ab5 (Ee (rs:=dr R.natAbs) wZ rfl rfl rfl (by omega) rfl) ?_;refine bj (iW rfl (c5))<|gm<|ab<|ag ?_;refine mB (ι:={H:Int // H=if n<(dr T.natAbs).length then(dr T.natAbs).getD n 0*1000000000 else 0}) (fun i=>⟨173,[(8,.v (.c (.i .u32 s))),(9,.v (.c (cL V))),(10,.v (.c (.i .u64 top))),(11,.v (.c (cL T))),(12,.o 64 ((dr W.natAbs).length) (xs.length+1)),(13,.v (.c (cL W))),(14,.v (.c (.i .i64 (q:Int)))),(15,.v (.c (.i .u64 i.1)))],[(64,255,zs.map (CellD.i .u32))]⟩) ?_ ?_
   .refine ab<|ag ?_;refine aJ rfl (fun b4=>?_) (fun b4=>?_)
    .have hlt:(dr V.natAbs).length<(dr T.natAbs).length:=by simp only[decide_eq_true_eq] at b4;omega
     refine ag ?_;refine ar (cg jq rfl rfl (by omega) (jE _) rfl rfl) ?_;refine ar (cS fK rfl (kw (i:=((dr V.natAbs).length)) (by omega)) rfl) ?_;refine ar (bi (r:=(dr T.natAbs).getD (((dr V.natAbs).length)) 0) jK fQ rfl (i9 (by omega) (by omega)) rfl) ?_;refine ar (ca (((dr T.natAbs).getD (((dr V.natAbs).length)) 0)*1000000000) (iC (by omega) (by omega)) rfl) ?_;exact⟨⟨(dr T.natAbs).getD (dr V.natAbs).length 0*1000000000,by rw[a4] at*;rw[if_pos (by have:=b4;simp only[decide_eq_true_eq] at this;omega)]⟩,au (bt rfl) ⟨rfl,trivial⟩ rfl⟩
    .refine aA ?_;exact⟨⟨0,by rw[if_neg (by have:=b4;simp only[decide_eq_false_iff_not] at this;omega)]⟩,au (bt rfl) ⟨rfl,trivial⟩ rfl⟩
   .rintro⟨H1,a3⟩;replace a3:H1=if n<(dr T.natAbs).length then(dr T.natAbs).getD n 0*1000000000 else 0:=a3;rw[a4] at k4;have q6:0<=H1/\H1<=999999999000000000:=by rw[a3];split<;>omega
    dsimp only;refine mB (ι:={H:Int // HInv (dr T.natAbs) n H}) (fun i=>⟨173,[(8,.v (.c (.i .u32 s))),(9,.v (.c (cL V))),(10,.v (.c (.i .u64 top))),(11,.v (.c (cL T))),(12,.o 64 ((dr W.natAbs).length) (xs.length+1)),(13,.v (.c (cL W))),(14,.v (.c (.i .i64 (q:Int)))),(15,.v (.c (.i .u64 i.1)))],[(64,255,zs.map (CellD.i .u32))]⟩) ?_ ?_
    .refine ab<|ag ?_;refine aJ rfl (fun c6=>?_) (fun c6=>?_)
     .have hlt:n<=(dr T.natAbs).length:=by simp only[decide_eq_true_eq] at c6;omega
      have m2:HInv (dr T.natAbs) n (H1+(dr T.natAbs).getD (n-1) 0):=by
       rcases nT n (dr T.natAbs).length with h1|h1;·rw[a3,if_pos h1];exact Ys (bL _) (by omega) (by omega)
       .rw[a3,if_neg (by omega),Int.zero_add];exact Wb (bL _) (by omega) (by omega)
      refine ag ?_;refine ar (ca (((n-1:Nat):Int)) (by rw[a4,show((n-1:Nat):Int)=(n:Int)-1 from by omega];exact bq (by omega) (by omega)) rfl) ?_;refine ar (cg jq rfl rfl (by omega) (jE _) rfl rfl) ?_;refine ar (cS fK rfl (kw (i:=(n-1)) (by omega)) rfl) ?_;refine ar (bi (r:=(dr T.natAbs).getD (n-1) 0) jK fQ rfl (i9 (by omega) (by omega)) rfl) ?_;refine ar (ca (H1+((dr T.natAbs).getD (n-1) 0)) (fR (by omega) (by omega)) rfl) ?_;exact⟨⟨H1+(dr T.natAbs).getD (n-1) 0,m2⟩,au (bt rfl) ⟨rfl,trivial⟩ rfl⟩
     .have k5:HInv (dr T.natAbs) n H1:=by simp only[decide_eq_false_iff_not] at c6;rw[a3,if_neg (by omega)];exact Sg (bL _) (by omega)
      refine aA ?_
      exact⟨⟨H1,k5⟩,au (bt rfl) ⟨rfl,trivial⟩ rfl⟩
    .rintro⟨H,hH⟩;replace hH:HInv (dr T.natAbs) n H:=hH;have p0:=hH.h0;have s1:=hH.h1;have h8:=hH.h;rw[bZ,eT] at h8;have e6:=adp A b3 h8 g3 a6;have r1:0<=H/top:=ti (by omega) (by omega);have t4:H/top<=H:=Int.ediv_le_self _ (by omega);dsimp only;refine ab<|ag<|ar (jX (r:=H/top) rfl rfl (by omega) (by rw[t6 (by omega)];exact i9 (by omega) (by omega)) rfl) ?_;refine mB (ι:={g:Int // T/V<=g/\g<=999999999}) (fun i=>⟨173,[(8,.v (.c (.i .u32 s))),(9,.v (.c (cL V))),(10,.v (.c (.i .u64 top))),(11,.v (.c (cL T))),(12,.o 64 ((dr W.natAbs).length) (xs.length+1)),(13,.v (.c (cL W))),(14,.v (.c (.i .i64 (q:Int)))),(16,.v (.c (.i .u64 i.1)))],[(64,255,zs.map (CellD.i .u32))]⟩) ?_ ?_
     .refine ab<|ag ?_;refine aJ rfl (fun h3=>?_) (fun h3=>?_)
      .refine ag ?_;exact⟨⟨999999999,b7.2,qG _⟩,au (bt rfl) ⟨rfl,trivial⟩ rfl⟩
      .refine aA ?_;exact⟨⟨H/top,e6,by have:=h3;simp only[decide_eq_false_iff_not] at this;omega⟩,au (bt rfl) ⟨rfl,trivial⟩ rfl⟩
     .rintro⟨g,hg⟩;replace hg:T/V<=g/\g<=999999999:=hg;dsimp only;refine ab<|ag<|ar (bi (r:=g) fQ jK rfl (sw (by omega) (by omega)) rfl) ?_;refine ac rfl (g2 g (by omega) (by omega))<|ab<|aM<|bK (ι:={g:Int // T/V<=g/\g<=999999999}) (fun i=>⟨173,[(8,.v (.c (.i .u32 s))),(9,.v (.c (cL V))),(10,.v (.c (.i .u64 top))),(11,.v (.c (cL T))),(12,.o 64 ((dr W.natAbs).length) (xs.length+1)),(13,.v (.c (cL W))),(14,.v (.c (.i .i64 (q:Int)))),(16,.v (.c (.i .u64 i.1))),(17,.v (.c (cL (V*i.1))))],[(64,255,zs.map (CellD.i .u32))]⟩) (fun i=>i.1.toNat) ⟨g,hg⟩ (au (bt rfl) ⟨rfl,trivial⟩ rfl) ?_;rintro⟨g,hg⟩;replace hg:T/V<=g/\g<=999999999:=hg;have n1:0<=V*g:=mp (by omega) (by omega);have e3:((V*g).natAbs:Int)=V*g:=by omega
      have n3:V*g<=V*1000000000:=qg (by omega) (by omega);have e5:Sz 100000000 (V*g):=⟨by have:=nC (n:=n+1) (m:=100000000) (by omega);rw[eZ] at this;omega,by have:=eX 100000000;omega⟩;have f3:cq 256 [.c (cL (V*g)),.c (cL T)] [.c (.i .i64 (dT (V*g) T))]:=by have:=pM e5 g5;rw[e3,eT] at this;exact this
      dsimp only;refine ab<|ab<|ag<|ac rfl (f3) ?_;refine aJ rfl (fun a5=>?_) (fun a5=>?_)
      .have i8:T<V*g:=by simp only[decide_eq_true_eq] at a5;rcases rI (V*g) T with h1|h1|h1<;>first|(rw[fk h1] at a5;omega)|(rw[jV h1] at a5;omega)|exact h1
       have k8:T/V<=g-1:=by have:T/V<g:=(Int.ediv_lt_iff_lt_mul a6).2 (by rw[t5];exact i8);omega
       have l0:V*(g-1)=V*g-V:=by rw[Int.mul_sub,Int.mul_one]
       have m6:0<=V*(g-1):=mp (by omega) (by omega);have a9:cq 257 [.c (cL (V*g)),.c (cL V)] [.c (cL (V*(g-1)))]:=by have:=xL (b:=V) e5 (by omega);rw[e3,eV,<-l0] at this;exact this
       refine aA<|aM<|ab<|ag ?_;refine ar (ca (g-1) (Iv (by omega) (by omega)) rfl) ?_;refine ag<|ac rfl (a9) ?_;exact⟨⟨g-1,k8,by omega⟩,au (bt rfl) ⟨rfl,trivial⟩ rfl,by show(g-1).toNat<g.toNat;omega⟩
      .have i2:V*g<=T:=by simp only[decide_eq_false_iff_not] at a5;rcases rI (V*g) T with h1|h1|h1<;>first|omega|(rw[fu h1] at a5;omega)
       have l3:g=T/V:=by have:g<=T/V:=(Int.le_ediv_iff_mul_le a6).2 (by rw[t5];exact i2);omega
       have j0:0<=T-V*g:=by omega
       have k9:T-V*g<V:=by have:=pz T a6;have h2:=uM T V;rw[<-l3] at h2;omega
       have a9:cq 257 [.c (cL T),.c (cL (V*g))] [.c (cL (T-V*g))]:=by have:=xL (b:=V*g) g5 (by omega);rw[e3,eT] at this;exact this
       refine bH<|ab<|ag<|ac rfl (a9)<|bN<|cZ 3<|bj (bi (r:=g) fQ jK rfl (sw (by omega) (by omega)) rfl) ?_;refine bj (a8 jq rfl rfl (by omega) rfl) ?_;refine gS (aV (us:=(zs.set q g).map (CellD.i .u32)) fK rfl rfl rfl rfl (by simp;omega) (qj (by omega)) rfl) ?_;refine bO<|ag ?_;refine ar (ca ((q:Int)-1) (bq (by omega) (by omega)) rfl) ?_;exact⟨⟨(q,T-V*g,zs.set q g),hI.step (bL _) (by omega) (by omega) j0 k9 (by rw[hT];show T=g*V+(T-V*g);rw[t5 g V];omega)⟩,au (bt rfl) ⟨rfl,trivial⟩ rfl,by show q<q+1;omega⟩
  .have d7:j=0:=by simp only[decide_eq_false_iff_not] at c8;omega
   subst d7;obtain⟨d1,d2⟩:=hI.done;rw[bZ,eW] at d1 d2;refine bH<|ab<|ag<|ab<|ag ?_;refine DL.mk<|qL (nB (n:=((dr R.natAbs).length)) wZ rfl rfl (by omega) (by omega) rfl) rfl<|iJ ?_;refine ab<|ab<|ag ?_;refine ar (ca ((((dr R.natAbs).length:Int))-1) (bq (by omega) (by omega)) rfl) ?_;refine aM<|bK (ι:={t:Nat×Int×List Int // DInv (dr R.natAbs) s (dr R.natAbs).length t.1 t.2.1 t.2.2}) (fun i=>⟨173,[(8,.v (.c (.i .u32 s))),(11,.v (.c (cL R))),(12,.o 64 ((dr W.natAbs).length) (xs.length+1)),(18,.v (.c (.i .u64 i.1.2.1))),(19,.o 141 ((dr R.natAbs).length) ((dr R.natAbs).length)),(20,.v (.c (.i .i64 ((i.1.1:Int)-1))))],[(64,255,zs.map (CellD.i .u32)),(141,255,i.1.2.2.map (CellD.i .u32))]⟩) (fun i=>i.1.1) ⟨((dr R.natAbs).length,0,List.replicate (dr R.natAbs).length 0),DInv.start (by omega) (bk _)⟩ (au (bt rfl) ⟨rfl,by rw[show(List.replicate (dr R.natAbs).length (CellD.i .u32 0))=(List.replicate (dr R.natAbs).length 0).map (CellD.i .u32) from by simp];rfl,trivial⟩ rfl) ?_;rintro⟨⟨j2,c,ls⟩,I⟩;replace I:DInv (dr R.natAbs) s (dr R.natAbs).length j2 c ls:=I;have k6:=I.len;have k0:=I.R0;have k1:=I.RV;have r3:=I.le;dsimp only;refine ab<|ab<|ag ?_;refine aJ rfl (fun c3=>?_) (fun c3=>?_)
   .obtain⟨q2,rfl⟩: ∃q,j2=q+1:=⟨j2-1,by simp only[decide_eq_true_eq] at c3;omega⟩;have gd:=dm (bL R.natAbs) q2;have h7:=Fo k0 k1 gd.1 gd.2;rw[show(dr R.natAbs).getD q2 0+1000000000*c=c*1000000000+(dr R.natAbs).getD q2 0 from by omega] at h7;have f4:=h7.1;have g1:(c*1000000000+(dr R.natAbs).getD q2 0)/s<1000000000:=by omega
    have g0:0<=(c*1000000000+(dr R.natAbs).getD q2 0)%s:=qY _ (by omega);have h4:(c*1000000000+(dr R.natAbs).getD q2 0)%s<s:=pz _ (by omega);refine pG (σ':=⟨173,[(8,.v (.c (.i .u32 s))),(11,.v (.c (cL R))),(12,.o 64 ((dr W.natAbs).length) (xs.length+1)),(18,.v (.c (.i .u64 c))),(19,.o 141 ((dr R.natAbs).length) ((dr R.natAbs).length)),(20,.v (.c (.i .i64 (q2:Int))))],[(64,255,zs.map (CellD.i .u32)),(141,255,ls.map (CellD.i .u32))]⟩) (au ⟨rfl,rfl,rfl,rfl,rfl,by rw[show(q2:Int)=((q2+1:Nat):Int)-1 from by omega];rfl,trivial⟩ (bt rfl) rfl) ?_;refine aA<|ab<|aM<|ab<|ag ?_;refine ar (ca (c*1000000000) (iC (by omega) (by omega)) rfl) ?_;refine ar (cg jq rfl rfl (by omega) (jE _) rfl rfl) ?_;refine ar (cS fK rfl (kw (i:=q2) (by omega)) rfl) ?_;refine ar (bi (r:=(dr R.natAbs).getD q2 0) jK fQ rfl (i9 (by omega) (by omega)) rfl) ?_;refine ar (ca ((c*1000000000)+((dr R.natAbs).getD q2 0)) (fR (by omega) (by omega)) rfl) ?_;refine ab<|bN<|cZ 4 ?_;refine bj (bi (r:=s) jK fQ rfl (i9 (by omega) (by omega)) rfl) ?_;refine bj (jX (r:=(c*1000000000+(dr R.natAbs).getD q2 0)/s) rfl rfl (by omega) (by rw[t6 (by omega)];exact i9 (by omega) (by omega)) rfl) ?_;refine bj (bi (r:=(c*1000000000+(dr R.natAbs).getD q2 0)/s) fQ jK rfl (sw (by omega) (by omega)) rfl) ?_;refine bj (a8 jq rfl rfl (by omega) rfl) ?_;refine gS (aV (us:=(ls.set q2 ((c*1000000000+(dr R.natAbs).getD q2 0)/s)).map (CellD.i .u32)) fK rfl rfl rfl rfl (by simp;omega) (qj (by omega)) rfl) ?_;refine bO<|ag ?_;refine ar (bi (r:=s) jK fQ rfl (i9 (by omega) (by omega)) rfl) ?_;refine ar (fz (r:=(c*1000000000+(dr R.natAbs).getD q2 0)%s) rfl rfl (by omega) (ku (by omega)) rfl) ?_;refine ag ?_;refine ar (ca ((q2:Int)-1) (bq (by omega) (by omega)) rfl) ?_;exact⟨⟨(q2,(c*1000000000+(dr R.natAbs).getD q2 0)%s,ls.set q2 ((c*1000000000+(dr R.natAbs).getD q2 0)/s)),I.step (bL _) f4 g1 g0 h4 (by rw[t5 ((c*1000000000+(dr R.natAbs).getD q2 0)/s) s,uM];omega)⟩,au (bt rfl) (bt rfl) rfl,by show q2<q2+1;omega⟩
   .have d7:j2=0:=by simp only[decide_eq_false_iff_not] at c3;omega
    subst d7;obtain⟨d3,d4⟩:=I.done;rw[bZ,eR,dS (by omega)] at d3;have f1:val xs/val ys=val (zs.take (dr W.natAbs).length):=by rw[<-e4,d1]
    have f2:val xs%val ys=val ls:=by rw[<-d3,<-d2,i0,Int.mul_ediv_cancel _ (by omega)]
    have k3:Lim (zs.take (dr W.natAbs).length):=hI.L.take _;have m3:=I.L;refine bH<|ab ?_;refine vL (t:=12) rfl rfl (by first|omega|(simp;omega)|simp) (by omega) (by omega) (rfl) ?_;refine vL (t:=19) rfl rfl (by first|omega|(simp;omega)|simp) (by omega) (by omega) (dS (by first|omega|(simp;omega)|simp)) ?_;refine ag<|ac rfl (kY k3 (by simp<;>omega))<|ac rfl (kY m3 (by omega))<|aU ?_;rw[f1,f2];exact ae (aj (aj aa))
theorem Uk (x:Int):cL x=cL ((x.natAbs:Nat):Int):=rfl
theorem Cp (A:Sz 20000000 a) (j:Sz 20000000 b) (h0:b≠0):cq 258 [.c (cL a),.c (cL b)] [.c (cL ((a.natAbs:Int)/b.natAbs)),.c (cL ((a.natAbs:Int)%b.natAbs))]:=by have:=ON (bL a.natAbs) (bL b.natAbs) (jr _) (jr _) (hJ A) (hJ j) (fun e=>by have:=eI.1 e;omega);rw[bZ,bZ] at this;exact this
theorem YZ (h:(decide (x<0)==decide (y<0))=true):sg (decide (x<0)) ((((x.natAbs:Int)+y.natAbs).natAbs:Nat):Int)=x+y:=by by_cases h1:x<0<;>by_cases j:y<0<;>simp[h1,j,sg] at h⊢ <;>omega
theorem afd (h:(decide (x<0)==decide (y<0))=false) (A:y.natAbs<=x.natAbs):sg (decide (x<0)) ((((x.natAbs:Int)-y.natAbs).natAbs:Nat):Int)=x+y:=by by_cases h1:x<0<;>by_cases j:y<0<;>simp[h1,j,sg] at h⊢ <;>omega
theorem agA (h:(decide (x<0)==decide (y<0))=false) (A:x.natAbs<y.natAbs):sg (decide (y<0)) ((((y.natAbs:Int)-x.natAbs).natAbs:Nat):Int)=x+y:=by by_cases h1:x<0<;>by_cases j:y<0<;>simp[h1,j,sg] at h⊢ <;>omega
theorem acH:sg (!(decide (x<0)==decide (y<0))) ((((x.natAbs:Int)*y.natAbs).natAbs:Nat):Int)=x*y:=by
 by_cases h1:x<0<;>by_cases j:y<0<;>simp only[h1,j,sg,decide_true,decide_false,Bool.not_true,tM,beq_self_eq_true,Bool.false_eq_true,if_true,if_false,show(true==false)=false from rfl,show(false==true)=false from rfl];·grind
 .grind
 .grind
 grind
theorem acl:sg (!decide (x<0)) ((x.natAbs:Nat):Int)= -x:=by by_cases h1:x<0<;>simp[h1,sg]<;>omega
theorem FC (h:decide (dT a b>=0)=true):b<=a:=by
 simp only[decide_eq_true_eq] at h;rcases rI a b with h1|h1|h1;·rw[fk h1] at h;omega
 .omega
 grind
theorem Gy (h:decide (dT a b>=0)=false):a<b:=by
 simp only[decide_eq_false_iff_not] at h;rcases rI a b with h1|h1|h1;·omega
 .rw[jV h1] at h;omega
 .rw[fu h1] at h;omega
theorem GA (j:decide (x<0)=false) (A: ¬(y<0)):dT x.natAbs y.natAbs=dT x y:=by grind
theorem FB (j:decide (x<0)=true) (A:y<0):dT y.natAbs x.natAbs=dT x y:=by simp only[decide_eq_true_eq] at j;rw[show(y.natAbs:Int)= -y from by omega,show(x.natAbs:Int)= -x from by omega,Jz]
theorem afb:sg (!(decide (x<0)==decide (y<0))) (((((x.natAbs:Int)/y.natAbs).natAbs:Nat)):Int)=q0 x y:=by unfold q0;grind
theorem afm (_h0:y≠0):sg (decide (x<0)) (((((x.natAbs:Int)%y.natAbs).natAbs:Nat)):Int)=r0 x y:=by unfold r0;grind
theorem Ns:(x.natAbs:Int)%y.natAbs=0↔r0 x y=0:=by
 unfold r0;generalize decide (x<0)=s;cases s;·rw[cK]
 .rw[gA];omega
theorem MI (_h0:y≠0) (h:(x.natAbs:Int)%y.natAbs≠0):(r0 x y<0↔x<0):=by
 unfold r0;by_cases j:x<0;·rw[show decide (x<0)=true from by simpa using j,gA];omega
 .rw[show decide (x<0)=false from by simpa using j,cK];omega
structure RG (x y a c:Int):Prop where
 sa:Sz 20000000 a
 sc:Sz 20000000 c
 a0:0<=a
 c0:0<=c
 g:Int.gcd a c=Int.gcd x y
theorem RG.start (j:Sz 20000000 x) (A:Sz 20000000 y):RG x y (x.natAbs:Int) (y.natAbs:Int):=⟨j.of_le (by omega),A.of_le (by omega),by omega,by omega,rfl⟩
theorem RG.step (h:RG x y a c) (D:c≠0):RG x y c ((a.natAbs:Int)%c.natAbs):=by
 have h1:=h.a0;have j:=h.c0;have e1:(a.natAbs:Int)=a:=by omega
 have I:(c.natAbs:Int)=c:=by omega
 rw[e1,I];have A:=qY a D;have J:=pz a (show 0<c by omega);exact⟨h.sc,h.sc.of_le (by omega),j,A,by rw[<-h.g,Gz h1 j]⟩
theorem RG.less (h:RG x y a c) (j:c≠0):((a.natAbs:Int)%c.natAbs).toNat<c.toNat:=by have:=h.c0;have:=OH (x:=a) j;omega
theorem RG.done (h:RG x y a c) (j:c=0):(Int.gcd x y:Int)=sg false ((a.natAbs:Nat):Int):=by rw[<-h.g,j,cK];simp
theorem NV (h:decide (((dr a.natAbs).length:Int)>2)=false):a.natAbs<=18446744073709551615:=by
 simp only[decide_eq_false_iff_not] at h;have h1:=fD (bL a.natAbs);rw[bZ] at h1;have j:=nC (n:=(dr a.natAbs).length) (m:=2) (by omega);have A:pw 2=1000000000000000000:=by decide
 omega
theorem RG.word (h:RG x y a c) (A:a.natAbs<=18446744073709551615) (j:c.natAbs<=18446744073709551615):GInv2 x y (a.natAbs:Int) (c.natAbs:Int):=
 ⟨by omega,by omega,by omega,by omega,by rw[<-h.g];rfl⟩
theorem GInv2.fin (h:GInv2 x y u v) (j:v<=0):(Int.gcd x y:Int)=sg false ((u.natAbs:Nat):Int):=by rw[h.done j,cK,cK];have:=h.u0;omega
theorem Sz.small3 (h0:0<=x) (h1:x<=18446744073709551615):Sz 100000000 x:=by
 have j:pw 3=1000000000000000000000000000:=by decide
 have:Sz 3 x:=⟨by omega,by omega⟩;exact this.mono (by decide)
theorem aff (j:Sz 20000000 x):Sz 100000000 ((x.natAbs:Int)/y.natAbs):=by
 have h1:(x.natAbs:Int)/(y.natAbs:Int)<=x.natAbs:=Int.ediv_le_self _ (by omega);have A:0<=(x.natAbs:Int)/(y.natAbs:Int):=by grind
 exact(j.mono (by decide)).of_le (by omega)
theorem agB (j:Sz 20000000 y) (h0:y≠0):Sz 100000000 ((x.natAbs:Int)%y.natAbs):=by have:=OH (x:=x) h0;exact(j.mono (by decide)).of_le (by omega)
theorem Ip (j:x<0) (h0: -9223372036854775808<=x):IntKind.u64.wrap x=x+18446744073709551616:=by unfold IntKind.wrap;simp[IntKind.bits,IntKind.signed];omega
theorem Fi (j:x<0) (h0: -9223372036854775808<=x):IntKind.u64.wrap (0-(x+18446744073709551616))= -x:=by unfold IntKind.wrap;simp[IntKind.bits,IntKind.signed];omega
theorem fG {P:Program}{eO:Array Oper}{T:TF}{B:BF}{x:Operand}{k:IntKind} (j:cE T x=some (.v (.c (.i k m)))) (A:k.wrap (0-m)=r) (D:gd eO ⟨dst,.unOp .neg xt x,ty,pos,af,g⟩ T=some true):Sem P eO ⟨dst,.unOp .neg xt x,ty,pos,af,g⟩ T B (.r (.v (.c (.i k r)))):=by subst A;exact Yv j D
theorem L8 (h:Sz 100000000 ((x.natAbs:Int)/y.natAbs)):cq 171 [.c (.b (!(decide (x<0)==decide (y<0)))),.c (cL ((x.natAbs:Int)/y.natAbs))] [dI (q0 x y)]:=by rw[<-afb];exact jb h
theorem K5 (h0:y≠0) (h:Sz 100000000 ((x.natAbs:Int)%y.natAbs)):cq 171 [.c (.b (decide (x<0))),.c (cL ((x.natAbs:Int)%y.natAbs))] [dI (r0 x y)]:=by rw[<-afm h0];exact jb h
theorem RN (h:(decide (x<0)==decide (y<0))=true):(dT x.natAbs y.natAbs==0)=(x==y):=by
 have hs:x<0↔y<0:=by grind
 rcases rI (x.natAbs:Int) y.natAbs with h1|h1|h1;·rw[fk h1,show(x==y)=false from by simp only[beq_eq_false_iff_ne];omega];rfl
 .rw[jV h1,show(x==y)=true from by simp only[beq_iff_eq];omega];rfl
 .rw[fu h1,show(x==y)=false from by simp only[beq_eq_false_iff_ne];omega];rfl
def isq:Nat->Nat
 |0=>0
 |n+1=>if (isq n+1)*(isq n+1)<=n+1 then isq n+1 else isq n
theorem I2 (n:Nat):isq n*isq n<=n/\n<(isq n+1)*(isq n+1):=by
 induction n with
 |zero=>exact⟨by decide,by decide⟩
 |succ n j=>
  unfold isq;split;·grind
  grind
theorem SF (j:0<=a) (h:a<=b):a*a<=b*b:=qJ h h j (by omega)
theorem Fk (j:0<=b) (h:a*a<b*b):a<b:=by
 by_cases h1:a<b;·grind
 .have:=SF j (show b<=a by omega);omega
def bm (x:Int):Int:=if x<0 then 0 else(isq x.toNat:Nat)
theorem fB (x:Int):0<=bm x:=by unfold bm;split<;>omega
theorem tI (h:0<=x):bm x*bm x<=x:=by unfold bm;rw[if_neg (by omega)];have:=(I2 x.toNat).1;grind
theorem BL (h:0<=x):x<(bm x+1)*(bm x+1):=by unfold bm;rw[if_neg (by omega)];have:=(I2 x.toNat).2;grind
theorem qk (h:0<=x) (A:0<=r) (h1:r*r<=x) (j:x<(r+1)*(r+1)):bm x=r:=by have a1:=tI h;have a2:=BL h;have a0:=fB x;have:=Fk (a:=r) (b:=bm x+1) (by omega) (by omega);have:=Fk (a:=bm x) (b:=r+1) (by omega) (by omega);omega
theorem E2:bm 0=0:=by decide
theorem u5 (h:x<0):bm x=0:=by unfold bm;rw[if_pos h]
theorem Sb:(bm x).natAbs<=x.natAbs:=by
 have h0:=fB x;by_cases h:x<0;·rw[u5 h];omega
 .have h1:=tI (show 0<=x by omega);by_cases j:bm x<1;·omega
  .have:=qg (show 1<=bm x by omega) h0;omega
theorem Kc (a b:Int):4*(a*b)<=(a+b)*(a+b):=by
 have h:0<=(a-b)*(a-b):=by
  rcases Int.le_total 0 (a-b) with h|h;·exact mp h h
  .exact Int.mul_nonneg_of_nonpos_of_nonpos h h
 grind
theorem RJ (W:0<x) (A:0<r) (_hup:x<(r+1)*(r+1)):0<=(r+x.fdiv r).fdiv 2/\x<((r+x.fdiv r).fdiv 2+1)*((r+x.fdiv r).fdiv 2+1)/\0<(r+x.fdiv r).fdiv 2/\0<=x.fdiv r/\x.fdiv r<=x:=by
 have j:0<=x/r:=ti (by omega) (by omega)
 have D:x/r<=x:=Int.ediv_le_self _ (by omega)
 have I:x<r*(x/r+1):=by have h1:=uM x r;have J:=pz x A;rw[Int.mul_add];omega
 obtain⟨q,hq⟩: ∃q,x/r=q:=⟨_,rfl⟩
 obtain⟨n,hn⟩: ∃n,(r+q)/2=n:=⟨_,rfl⟩
 have h4:=Kc r (q+1)
 have h5:(r+(q+1))*(r+(q+1))<=(2*(n+1))*(2*(n+1)):=SF (by omega) (by omega)
 grind
theorem I8 (_hx:0<x) (D:0<r) (h:r<=(r+x.fdiv r).fdiv 2):r*r<=x:=by
 rw[qS _ (by omega:(0:Int)<=r),qS _ (by omega:(0:Int)<=2)] at h;have h1:=uM x r;have A:=qY x (show r≠0 by omega);have j:r<=x/r:=by omega
 have:=qg j (show 0<=r by omega);omega
structure NInv (K:Nat) (x r:Int):Prop where
 r0:0<r
 sz:Sz K r
 up:x<(r+1)*(r+1)
theorem NInv.sum (h:NInv K x r) (hs:Sz K x) (D:0<x):Sz K (x.fdiv r)/\Sz (K+1) (r+x.fdiv r)/\Sz (K+1) ((r+x.fdiv r).fdiv 2):=by obtain⟨h1,I,h3,W,J⟩:=RJ D h.r0 h.up;have A:Sz K (x.fdiv r):=hs.of_le (by omega);have j:=h.sz.add A;refine⟨A,j,j.of_le ?_⟩;grind
theorem NInv.next (h:NInv K x r) (A:0<x) (hl:(r+x.fdiv r).fdiv 2<r):NInv K x ((r+x.fdiv r).fdiv 2):=by obtain⟨h1,j,D,J,I⟩:=RJ A h.r0 h.up;exact⟨D,h.sz.of_le (by omega),j⟩
theorem NInv.done (h:NInv K x r) (j:0<x) (hl:r<=(r+x.fdiv r).fdiv 2):bm x=r:=
 qk (by omega) (by have:=h.r0;omega) (I8 j h.r0 hl) h.up
theorem xy:dI 0=.a ([.b false]++[.s 0 []]):=by unfold dI cI;rw[show cL 0=.s 0 [] from by unfold cL;rw[show(0:Int).natAbs=0 from rfl,li];rfl];rfl
theorem ae3 (h:0<=v):([CellD.b false]++[cL v])=cI v:=by unfold cI;rw[show decide (v<0)=false from by simp;omega];rfl
theorem aem (_h0:0<=x) (h:x<pw n) (j:n<=2*k):x<(pw k+1)*(pw k+1):=by
 have h1:=nC j;have A:pw (2*k)=pw k*pw k:=by rw[show 2*k=k+k from by omega,wJ]
 have D:=eX k;grind
theorem NInv.start (h0:0<x) (_hs:Sz K x) (A:((dr x.natAbs).length+1)/2=k) (D:k<K):NInv K x (pw k):=by have j:=fD (bL x.natAbs);rw[bZ] at j;refine⟨eX k,?_,aem (n:=(dr x.natAbs).length) (by omega) (by omega) (by omega)⟩;have h1:Sz (k+1) (pw k):=⟨by have:=eX k;rw[eZ];omega,by have:=eX k;have:=eX (k+1);omega⟩;exact h1.mono (by omega)
theorem adr (n:Nat):val (List.replicate n 0++[1])=pw n:=by
 induction n with
 |zero=>decide
 |succ n j=>rw[List.replicate_succ,wY,eB,j,eZ];omega
theorem afQ (n:Nat):cL (pw n)=cM (List.replicate n 0++[1]):=by
 have j:Lim (List.replicate n 0++[1]):=(Lim.zeros n).append (Lim.nil.cons (by omega) (by omega));have hN:Nrm (List.replicate n 0++[1]):=by
  induction n with
  |zero=>exact DH [] 1 (by decide)
  |succ n A=>exact IC (A ((Lim.zeros n).append (Lim.nil.cons (by omega) (by omega)))) (by simp)
 rw[Zm,<-adr];have:=LF hN j;rw[show(val (List.replicate n 0++[1])).natAbs=(val (List.replicate n 0++[1])).toNat from by have:=cH j;omega,<-this]
variable {P:Program}{eO:Array Oper}{T:TF}{B:BF}
theorem wE {x y:Operand}{z:CellD} (hU:uV P U=some (e,1,4,[z])) (j:cE T x=some (.o k n n)) (A:cE T y=some (.v (.c (cM [1])))) (I:B k=some (e,List.replicate n (CellD.i .u32 0))) (hl:n<=1000000000) (D:gd eO ⟨dst,.call ⟨.builtin .append,#[x,y],#[U,U]⟩,ty,pos,af,g⟩ T=some true):Sem P eO ⟨dst,.call ⟨.builtin .append,#[x,y],#[U,U]⟩,ty,pos,af,g⟩ T B (.c k (.v (.c (cL (pw n))))):=by
 rw[afQ]
 have:=yL (us:=(List.replicate n (0:Int)++[1]).map (CellD.i .u32)) hU j A I (by simp) (jE _) (by omega) (by simp) (by omega) (by simp;omega) (by simp;unfold maxLen;omega) (by simp) D
 rw[show n+[(1:Int)].length=(List.replicate n (0:Int)++[1]).length from by simp] at this
 exact this
theorem yr:dT a b=0↔a=b:=by
 rcases rI a b with h|h|h;·rw[fk h];constructor<;>intro j<;>omega
 .rw[jV h];constructor<;>intro j<;>omega
 .rw[fu h];constructor<;>intro j<;>omega
theorem Dp:dT a b<0↔a<b:=by
 rcases rI a b with h|h|h;·rw[fk h];constructor<;>intro j<;>omega
 .rw[jV h];constructor<;>intro j<;>omega
 .rw[fu h];constructor<;>intro j<;>omega
theorem De:0<dT a b↔b<a:=by
 rcases rI a b with h|h|h;·rw[fk h];constructor<;>intro j<;>omega
 .rw[jV h];constructor<;>intro j<;>omega
 .rw[fu h];constructor<;>intro j<;>omega
theorem abN (h:decide (dT a b<0)=true):a<b:=Dp.1 (by simpa using h)
theorem acy (h:decide (dT a b<0)=false): ¬a<b:=fun e=>by have:=Dp.2 e;simp at h;omega
theorem Yq (h:(dT a b==0)=true):a=b:=yr.1 (by simpa using h)
theorem aiy (h:(dT a b !=0)=true):a≠b:=fun e=>by have:=yr.2 e;simp at h;omega
theorem aeo (h:(dT a b !=0)=false):a=b:=yr.1 (by simpa using h)
theorem ah2 (h:decide (dT a b>0)=true):b<a:=De.1 (by simpa using h)
theorem aiu (h:decide (dT a b>0)=false): ¬b<a:=fun e=>by have:=De.2 e;simp at h;omega
structure Rz (k:Nat) (x:Rat):Prop where
 n:Sz k x.num
 d:Sz k (x.den:Int)
theorem Sz.addm (h:Sz k x) (j:Sz l y):Sz (max k l+1) (x+y):=(h.mono (Nat.le_max_left k l)).add (j.mono (Nat.le_max_right k l))
theorem Sz.gcd (j:Sz l y) (h0:y≠0):Sz l ((Int.gcd x y:Nat):Int):=j.of_le (by have:Int.gcd x y<=y.natAbs:=Nat.le_of_dvd (by omega) (Nat.gcd_dvd_right ..);rw[Int.natAbs_natCast];exact this)
theorem Rz.mono {x:Rat}(h:Rz k x) (hl:k<=l):Rz l x:=⟨h.n.mono hl,h.d.mono hl⟩
theorem Rz.m_ {x:Rat}(h:Rz k x) (hl:k<=l:=by decide):Rz l x:=h.mono hl
theorem az {x:Rat}(h:Rz k x) (hl:k<=l:=by decide):Rz l x:=h.mono hl
theorem Qg {x:Rat}(h:Rz l x:=by first|assumption|exact Rz.mono ‹_› (by decide)):Rz l x:=h
theorem den_pos (x:Rat):(0:Int)<(x.den:Int):=by have:=x.den_pos;omega
theorem mM (x:Rat):(x.den:Int)≠0:=by have:=den_pos x;omega
theorem vp (a b:Int):(a/b).natAbs<=a.natAbs:=Int.natAbs_ediv_le_natAbs a b
theorem Rz.of {n:Int}(j:Sz k n) (A:Sz k d) (h0:d≠0):Rz k (Rat.divInt n d):=by
 refine⟨j.of_le ?_,A.of_le ?_⟩
 .rw[Rat.num_divInt];refine gG (vp _ _) ?_;grind
 .rw[Rat.den_divInt,if_neg h0];exact Nat.div_le_self d.natAbs (Int.gcd d n)
theorem Wl {x y:Rat}:Rat.divInt (x.num*(y.den:Int)+y.num*(x.den:Int)) ((x.den:Int)*(y.den:Int))=x+y:=by rw[Rat.add_def',<-y8,Rat.divInt_ofNat]
theorem agV {x y:Rat}(h:(x.den:Int)=(y.den:Int)):Rat.divInt (x.num+y.num) (x.den:Int)=x+y:=by rw[<-Wl,<-h,<-Int.add_mul,Rat.divInt_mul_right (mM x)]
theorem adV {x y:Rat}:Rat.divInt (x.num*y.num) ((x.den:Int)*(y.den:Int))=x*y:=by rw[Rat.mul_def',<-y8,Rat.divInt_ofNat]
theorem abv {x y:Rat}:Rat.divInt (x.num*(y.den:Int)) ((x.den:Int)*y.num)=x/y:=by rw[Rat.div_def,Rat.inv_def,<-Rat.divInt_mul_divInt,Rat.num_divInt_den]
theorem Rz.add {x y:Rat}(A:Rz k x) (j:Rz l y):Rz (k+l+1) (x+y):=by rw[<-Wl];exact Rz.of (((A.n.mul j.d).addm (j.n.mul A.d)).mono (by omega)) ((A.d.mul j.d).mono (by omega)) (by have:=Int.mul_pos (den_pos x) (den_pos y);omega)
theorem Rz.mul {x y:Rat}(A:Rz k x) (j:Rz l y):Rz (k+l) (x*y):=by rw[<-adV];exact Rz.of (A.n.mul j.n) (A.d.mul j.d) (by have:=Int.mul_pos (den_pos x) (den_pos y);omega)
theorem Rz.neg {x:Rat}(j:Rz k x):Rz k (-x):=⟨by rw[Rat.neg_num];exact j.n.neg,by rw[Rat.neg_den];exact j.d⟩
theorem Rz.sub {x y:Rat}(A:Rz k x) (j:Rz l y):Rz (k+l+1) (x-y):=by rw[Rat.sub_eq_add_neg];exact A.add j.neg
theorem Rz.div {x y:Rat}(j:Rz k x) (A:Rz l y) (h0:y≠0):Rz (k+l) (x/y):=by
 rw[<-abv];exact Rz.of (j.n.mul A.d) (j.d.mul A.n) (by
  have h1:y.num≠0:=fun e=>h0 (Rat.num_eq_zero.1 e);intro e;rcases sD.1 e with h|h;·exact mM x h
  .exact h1 h)
theorem Sz.one (j:1<=k):Sz k 1:=by
 have:=nC j;have h1:pw 1=1000000000:=by decide
 exact⟨by omega,by omega⟩
theorem Rz.int {n:Int}(h:Sz k n) (j:1<=k):Rz k (n:Rat):=⟨by rw[Rat.num_intCast];exact h,by rw[Rat.den_intCast];exact Sz.one j⟩
theorem Cy {n:Int}(j:0<d):dR (Rat.divInt n d)=dQ (n.fdiv ((Int.gcd n d:Nat):Int)) (d.fdiv ((Int.gcd n d:Nat):Int)):=by unfold dR cR;rw[Rat.num_divInt,Rat.den_divInt,if_neg (by omega),Int.sign_eq_one_of_pos j,Int.one_mul,Int.gcd_comm d n,qS _ (by omega),qS _ (by omega),show((d.natAbs/Int.gcd n d:Nat):Int)=d/((Int.gcd n d:Nat):Int) from by rw[Int.natCast_ediv];rw[show((d.natAbs:Nat):Int)=d from by omega]];rfl
theorem BS {n:Int}(j:0<d) (A:((Int.gcd n d:Nat):Int)=1):dR (Rat.divInt n d)=dQ n d:=by rw[Cy j,A,Int.fdiv_one,Int.fdiv_one]
theorem La {n:Int}:dR (Rat.divInt n d)=dR (Rat.divInt (-n) (-d)):=by rw[Rat.neg_divInt_neg]
theorem Gv {n:Int}(h:d≠0):((Int.gcd n d:Nat):Int)≠0:=by simp_all
theorem tp {x y:Rat}:dT (x.num*(y.den:Int)) (y.num*(x.den:Int))=if x<y then-1 else if y<x then 1 else 0:=by unfold dT;simp only[Rat.lt_iff]
def aG (x y:Rat):Int:=if x<y then-1 else if y<x then 1 else 0
theorem uU {x:Rat}:dT x.num 0=aG x 0:=by unfold aG;rw[<-tp];simp
theorem Ui {x:Rat}{n:Int}(h1:x.num=n) (j:(x.den:Int)=d):dR x=dQ n d:=by unfold dR cR;rw[h1,j];rfl
theorem UA {n:Int}:dR (n:Rat)=dQ n 1:=Ui (Rat.num_intCast n) (by rw[Rat.den_intCast];rfl)
def Bw (x:Int):Bool:=bm x*bm x==x
def jy (x:Rat):Bool:=Bw x.num&&Bw (x.den:Int)
theorem HP (h:x<0):Bw x=false:=by unfold Bw;rw[u5 h];simp;omega
theorem iU (A:a≠0) (j:b≠0):a*b≠0:=fun e=>by rcases sD.1 e with h|h<;>contradiction
theorem Ti {x:Rat}(h:x≠0):x.num≠0:=fun e=>h (Rat.num_eq_zero.1 e)
theorem Sz.isq (h:Sz k x):Sz k (bm x):=h.of_le Sb
theorem Ma {x:Rat}(h:(aG x 0==0)=true):x=0:=by rw[<-uU] at h;exact Rat.num_eq_zero.1 (Yq h)
theorem r7 {x y:Rat}:aG x y=0↔x=y:=by unfold aG;rw[<-tp,yr,Rat.eq_iff_mul_eq_mul]
theorem Km {x y:Rat}:aG x y<0↔x<y:=by unfold aG;rw[<-tp,Dp,Rat.lt_iff]
theorem Ko {x y:Rat}:0<aG x y↔y<x:=by unfold aG;rw[<-tp,De,Rat.lt_iff]
theorem Fw {x:Rat}:aG x 0=dT x.num 0:=uU.symm
theorem KX {x y:Rat}(h:(dT (aG x 0) (aG y 0) !=0)=true):dT (aG x 0) (aG y 0)=aG x y:=by
 have h1:=aiy h;rw[Fw,Fw] at*;have I:=den_pos x;have D:=den_pos y;have e1: ∀ {a b:Int},a<0->0<b->a*b<0:=fun ha W=>Int.mul_neg_of_neg_of_pos ha W;have J:aG x y=dT (x.num*(y.den:Int)) (y.num*(x.den:Int)):=by unfold aG;rw[<-tp]
 rw[J];rcases rI x.num 0 with j|j|j<;>rcases rI y.num 0 with A|A|A;·rw[fk j,fk A] at h1;exact absurd rfl h1
 .rw[fk j,jV A,fk (by decide),fk];rw[A,nQ];exact e1 j D
 .rw[fk j,fu A,fk (by decide),fk];grind
 .rw[jV j,fk A,fu (by decide),fu];rw[j,nQ];exact e1 A I
 .grind
 .rw[jV j,fu A,fk (by decide),fk];rw[j,nQ];exact Int.mul_pos A I
 .rw[fu j,fk A,fu (by decide),fu];grind
 .rw[fu j,jV A,fu (by decide),fu];rw[A,nQ];exact Int.mul_pos j D
 .rw[fu j,fu A] at h1;exact absurd rfl h1
theorem IK {x y:Rat}:aG x y=dT (x.num*(y.den:Int)) (y.num*(x.den:Int)):=by unfold aG;rw[<-tp]
theorem e7 (h:((if x<0 then(7:Int) else 0)==0)=false):x<0:=by grind
theorem N5:Bw x=(dT (bm x*bm x) x==0):=by
 unfold Bw;rcases rI (bm x*bm x) x with h|h|h;·rw[fk h];simp;omega
 .rw[jV h];simp;omega
 .rw[fu h];simp;omega
theorem Zb {x:Rat}(h:Bw x.num=true) (j:Bw (x.den:Int)=true):jy x=true:=by unfold jy;rw[h,j];rfl
theorem Tx {x:Rat}(h:Bw x.num=false):jy x=false:=by unfold jy;rw[h];rfl
theorem Qt {x:Rat}(h:Bw (x.den:Int)=false):jy x=false:=by unfold jy;rw[h];cases Bw x.num<;>rfl
theorem yi:dQ 0 0=.a (([.b false]++[.s 0 []])++([.b false]++[.s 0 []])):=by
 have h:cI 0=[.b false]++[.s 0 []]:=by have:=xy;unfold dI at this;injection this
 unfold dQ cQ;grind
theorem Sz.fdiv (h:Sz k x):Sz k (x.fdiv y):=h.of_le (by
 have h0: ∀a b:Nat,a/b<=a:=fun a b=>Nat.div_le_self a b;rcases rI y 0 with j|j|j
 .rw[<-Int.neg_fdiv_neg,qS _ (by omega)];have A:(-x/ -y).natAbs<=(-x).natAbs:=vp _ _;omega
 .subst j;simp
 .rw[qS _ (by omega)];exact vp x y)
def WR (xs:List Int):Prop:= ∀x∈xs,0<=x/\x<=4294967295
theorem TO (h:WR xs) (i:Nat):0<=xs.getD i 0/\xs.getD i 0<=4294967295:=by
 by_cases hi:i<xs.length
 .have:xs.getD i 0=xs[i]:=by simp[List.getD,hi]
  rw[this];exact h _ (uW hi)
 grind
def vI (neg:Bool) (xs:List Int):Bool:=xs.all (fun x=>decide (x<1000000000))&&((trm xs).length==xs.length)&&(!neg||decide (0<xs.length))
theorem ads {neg:Bool}(A:k<xs.length) (h:xs.getD k 0>=1000000000):vI neg xs=false:=by
 have h1:xs.all (fun x=>decide (x<1000000000))=false:=by rw[Bool.eq_false_iff];intro j;have D:=mJ.1 j xs[k] (uW A);grind
 unfold vI;grind
theorem KM (A:WR xs) (h: ∀k,k<xs.length->xs.getD k 0<1000000000):Lim xs:=by
 intro x j;obtain⟨i,hi,rfl⟩:=List.getElem_of_mem j;have h1:=h i hi;have D:xs.getD i 0=xs[i]:=by grind
 have:=A xs[i] (uW hi);omega
theorem DA (h:Lim xs):xs.all (fun x=>decide (x<1000000000))=true:=mJ.2 fun x j=>by have:=h x j;simp;omega
theorem adW {neg:Bool}(h:Lim xs):vI neg xs=(((trm xs).length==xs.length)&&(!neg||decide (0<xs.length))):=by unfold vI;rw[DA h];rfl
theorem Li {neg:Bool}(h:Lim xs):vI neg xs=((((dr (val xs).natAbs).length:Int)==(xs.length:Int))&&(!neg||decide ((xs.length:Int)>0))):=by
 rw[adW h,Nz h];congr 1;·grind
 grind
theorem FU (hx:Sz 100000000 x) (hy:Sz 100000000 y):cq 193 [dI x,dI y] [dI (Int.gcd x y:Int)]:=by
 refine bE Tryz.func193 rfl<|cm 8 [] ?_;refine aw rfl tD ?_;refine aw rfl tD ?_;refine DW.mk<|bK (ι:={p:Int×Int // GInv x y p.1 p.2}) (fun i=>⟨61,[(4,.p 4 0),(5,.p 5 0),(6,.p 6 0)],[(4,38,([.b false]++[.s 0 []])),(5,38,cI i.1.1),(6,38,cI i.1.2)]⟩) (fun i=>i.1.2.toNat) ⟨(sg false (x.natAbs:Int),sg false (y.natAbs:Int)),GInv.start hx hy⟩ (au (bt rfl) (bt rfl) rfl) ?_;rintro⟨⟨a,c⟩,j⟩;have ha:=j.sa;have a4:=j.sc;apply th;refine dg rfl (fun J=>?_) (fun J=>?_)
 .have A:=su J;refine ac rfl (Ig)<|ac rfl Ig ?_;refine iN (aY rfl) (fun c2 a3=>?_);cases c2
  .refine mL rfl<|ac rfl (wV ‹_› ‹_› ‹_›)<|cm 3 [] ?_;refine aw rfl lu ?_;exact⟨⟨(c,sg false ((a.natAbs:Int)%c.natAbs)),j.step A⟩,au (bt rfl) (bt rfl) rfl,j.less A⟩
  .refine dg rfl (fun W=>?_) (fun W=>?_)
   .refine DW.mk<|bK (ι:={p:Int×Int // GInv2 x y p.1 p.2}) (fun i=>⟨61,[(4,.p 4 0),(7,.v (.c (.i .u64 i.1.1))),(9,.v (.c (.i .u64 i.1.2)))],[(4,38,([.b false]++[.s 0 []]))]⟩) (fun i=>i.1.2.toNat) ⟨(if a.natAbs<1000000000000000000 then(a.natAbs:Int) else 0,if c.natAbs<1000000000000000000 then(c.natAbs:Int) else 0),j.word a3 W⟩ (au (bt rfl) ⟨rfl,trivial⟩ rfl) ?_;rintro⟨⟨u,v⟩,D⟩;dsimp only;apply th;refine dg rfl (fun I=>?_) (fun I=>?_)
    .have hv:v>0:=by simpa using I
     refine cm 6 []<|aq (Gp rfl rfl (by omega) rfl) ?_;exact⟨⟨(v,u.tmod v),D.step hv⟩,au (bt rfl) ⟨rfl,trivial⟩ rfl,D.less hv⟩
    .refine ac rfl (Po D.u0 D.u1)<|ac rfl lu ?_;apply ae;rw[D.done (by simpa using I)];exact aN fl rfl aa
   .refine ac rfl (wV ‹_› ‹_› ‹_›)<|cm 3 [] ?_;refine aw rfl lu ?_;exact⟨⟨(c,sg false ((a.natAbs:Int)%c.natAbs)),j.step A⟩,au (bt rfl) (bt rfl) rfl,j.less A⟩
 .refine ar (RL rfl ‹_› rfl) ?_;refine ac rfl tD ?_;apply ae;rw[j.done (r8 J)];exact aN fl rfl aa
theorem pg (J:Sz 100000000 x) (W:Sz 100000000 y) (h0:y≠0):cq 246 [dI x,dI y] [dI (x.fdiv y),dI (x.fmod y),.c (.i .i64 0)]:=by
 have hq:Sz 100000000 (q0 x y):=J.q0;have hr:Sz 100000000 (r0 x y):=W.r0 h0;have h1:Sz 100000000 (1:Int):=e8 (by omega) (by omega) (by omega);apply bE Tryz.func246 rfl;refine dg rfl (fun D=>?_) (fun D=>?_);·exact absurd D (by simp[eI,h0])
 .refine ac rfl (wV ‹_› ‹_› ‹_›)<|cm 13 [] ?_;refine aq (eA rfl rfl dX rfl) ?_;refine aw rfl lu ?_;refine aw rfl lu ?_;refine iN (aY rfl) (fun c2 A=>?_);cases c2
  .refine mL rfl<|cm 5 [4,5,999999] ?_;refine DQ.mk<|ig (ff fl rfl) rfl rfl rfl rfl<|dY ?_;refine DQ.mk<|ig (ff fl rfl) rfl rfl rfl rfl<|dY ?_;obtain⟨e1,I⟩:=yC h0 (.inl (r8 A));apply ae;rw[e1,I];exact aN fl rfl (aN fl rfl (aj aa))
  .refine ar (eA rfl rfl dX rfl) ?_;refine dg rfl (fun j=>?_) (fun j=>?_)
   .apply cm 6 [];refine aw rfl (mz (by omega) (by omega))<|aw rfl (WP ‹_› ‹_›) ?_;refine aw rfl (yg ‹_› ‹_›)<|cm 5 [4,5,999999] ?_;refine DQ.mk<|ig (ff fl rfl) rfl rfl rfl rfl<|dY ?_;refine DQ.mk<|ig (ff fl rfl) rfl rfl rfl rfl<|dY ?_;obtain⟨e1,I⟩:=JX h0 (su A) (GW j);apply ae;rw[e1,I];exact aN fl rfl (aN fl rfl (aj aa))
   .refine cm 5 [4,5,999999] ?_;refine DQ.mk<|ig (ff fl rfl) rfl rfl rfl rfl<|dY ?_;refine DQ.mk<|ig (ff fl rfl) rfl rfl rfl rfl<|dY ?_;obtain⟨e1,I⟩:=yC h0 (.inr (Gm j));apply ae;rw[e1,I];exact aN fl rfl (aN fl rfl (aj aa))
theorem yN:cq 173 [dI x] [.c (.i .i64 (dT x 0))]:=by
 apply bE Tryz.func173 rfl;refine dg rfl (fun j=>?_) (fun j=>?_)
 .apply ae;rw[jV (by have:=j;simp[eI] at this;omega)];exact aj aa
 .refine dg rfl (fun A=>?_) (fun A=>?_)
  .apply ae;rw[fk (by simpa using A)];exact aj aa
  .apply ae;rw[fu (by have:=j;have D:=A;simp[eI] at this D;omega)];exact aj aa
theorem Mn (J:Sz 100000000 x) (W:Sz 100000000 y):cq 181 [dI x,dI y] [.c (.i .i64 (dT x y))]:=by
 apply bE Tryz.func181 rfl;refine ar (eA rfl rfl dX rfl) ?_;refine dg rfl (fun A=>?_) (fun A=>?_)
 .refine dg rfl (fun I=>?_) (fun I=>?_)
  .apply ae;rw[fk (by have:=GW A;have D:=I;simp only[decide_eq_true_eq] at D;omega)];exact aj aa
  .apply ae;rw[fu (by have:=GW A;have D:=I;simp only[decide_eq_false_iff_not] at D;omega)];exact aj aa
 .refine dg rfl (fun j=>?_) (fun j=>?_)
  .refine ac rfl (pM ‹_› ‹_›)<|ae ?_;rw[<-FB j (by have:=Gm A;have D:=j;simp only[decide_eq_true_eq] at D;omega)];exact aj aa
  .refine ac rfl (pM ‹_› ‹_›)<|ae ?_;rw[<-GA j (by have:=Gm A;have D:=j;simp only[decide_eq_false_iff_not] at D;omega)];exact aj aa
theorem rU (h0: -9223372036854775808<=x) (h1:x<=9223372036854775807):cq 89 [.c (.i .i64 x)] [dI x]:=by
 apply bE Tryz.func89 rfl;refine dg rfl (fun A=>?_) (fun A=>?_)
 .have D:x<0:=by simpa using A
  refine ar (bi p9 fQ rfl (Ip D h0) rfl) ?_;refine ar (fG rfl (Fi D h0) rfl) ?_;refine ac rfl (rW (by omega) (by omega))<|ac rfl (jb (Sz.small3 (by omega) (by omega))) ?_;have j:dI x=dI (sg true (((-x).natAbs:Nat):Int)):=congrArg dI (by rw[gA];omega);apply ae;rw[j];exact aN fl rfl aa
 .have D:0<=x:=by have:=A;simp at this;omega
  refine ar (bi p9 fQ rfl (i9 (by omega) (by omega)) rfl) ?_;refine ac rfl (rW (by omega) (by omega))<|ac rfl (jb (Sz.small3 (by omega) (by omega))) ?_;have j:dI x=dI (sg false ((x.natAbs:Nat):Int)):=congrArg dI (by rw[cK];omega);apply ae;rw[j];exact aN fl rfl aa
theorem BN (j:Sz 100000000 x):cq 178 [dI x] [dI (-x)]:=by refine bE Tryz.func178 rfl<|ac rfl (jb ‹_›) ?_;apply ae;rw[<-acl];exact aN fl rfl aa
theorem nu (j:Sz 40000000 x) (A:Sz 40000000 y):cq 176 [dI x,dI y] [dI (x*y)]:=by have I:Sz 100000000 x:=j.m_;have D:Sz 100000000 y:=A.m_;have J:Sz 100000000 ((x.natAbs:Int)*(y.natAbs:Int)):=((GN j).mul (GN A)).m_;refine bE Tryz.func176 rfl<|cm 11 [] ?_;refine aq (eA rfl rfl dX rfl) ?_;refine aw rfl (Sj ‹_› ‹_›)<|aw rfl (jb ‹_›)<|ae ?_;rw[<-acH (x:=x)];exact aN fl rfl aa
theorem BU (W:Sz 90000000 x) (hy:Sz 90000000 y):cq 177 [dI x,dI y] [dI (x+y)]:=by
 have I:Sz 100000000 x:=W.m_;have J:Sz 100000000 y:=hy.m_;have hp:Sz 100000000 ((x.natAbs:Int)+(y.natAbs:Int)):=((GN (W.mono (l:=99999999) (by decide))).add (GN hy.m_)).m_;refine bE Tryz.func177 rfl<|ar (r9 rfl rfl dX rfl) ?_;refine dg rfl (fun j=>?_) (fun j=>?_)
 .apply cm 8 [];refine aw rfl (Xr ‹_› ‹_›) ?_;refine aw rfl (jb ‹_›)<|ae ?_;rw[<-YZ j];exact aN fl rfl aa
 .refine ac rfl (pM ‹_› ‹_›) ?_;refine dg rfl (fun A=>?_) (fun A=>?_)
  .have D:=FC A;have hq:Sz 100000000 ((x.natAbs:Int)-(y.natAbs:Int)):=I.of_le (by omega);apply cm 8 [];refine aw rfl (xL ‹_› (by omega))<|aw rfl (jb ‹_›)<|ae ?_;rw[<-afd j (by omega)];exact aN fl rfl aa
  .have D:=Gy A;have hq:Sz 100000000 ((y.natAbs:Int)-(x.natAbs:Int)):=J.of_le (by omega);apply cm 8 [];refine aw rfl (xL ‹_› (by omega))<|aw rfl (jb ‹_›)<|ae ?_;rw[<-agA j (by omega)];exact aN fl rfl aa
theorem V7 (A:Sz 90000000 x) (j:Sz 90000000 y):cq 260 [dI x,dI y] [dI (x-y)]:=by have J:Sz 100000000 x:=A.m_;have D:Sz 100000000 y:=j.m_;have I:=j.neg;refine bE Tryz.func260 rfl<|cm 4 [] ?_;refine aw rfl (BN ‹_›) ?_;refine aw rfl (BU ‹_› ‹_›)<|ae ?_;rw[Int.sub_eq_add_neg];exact aN fl rfl aa
theorem JD (A:Sz 100000000 x) (D:Sz 100000000 y):cq 253 [dI x,dI y] [.c (.b (x==y))]:=by
 apply bE Tryz.func253 rfl;refine ar (r9 rfl rfl dX rfl) ?_;refine iN (aY rfl) (fun c1 j=>?_);cases c1
 .apply ae;rw[show(x==y)=false from by have:=j;simp only[beq_eq_false_iff_ne,ne_eq] at this⊢;intro e;subst e;exact this rfl];exact aj aa
 .refine ac rfl (pM ‹_› ‹_›)<|ae ?_;rw[<-RN j];exact aj aa
theorem m9 (hx:Sz 20000000 x) (W:Sz 20000000 y) (h0:y≠0):cq 180 [dI x,dI y] [dI (x.fdiv y),dI (x.fmod y),.c (.i .i64 0)]:=by
 have hq:Sz 90000000 (q0 x y):=hx.q0.m_;have hr:Sz 90000000 (r0 x y):=(W.r0 h0).m_;have h1:Sz 90000000 (1:Int):=e8 (by omega) (by omega) (by omega);have a4:Sz 90000000 y:=W.m_;have a3:Sz 100000000 ((x.natAbs:Int)/y.natAbs):=aff hx;have J:Sz 100000000 ((x.natAbs:Int)%y.natAbs):=agB W h0;apply bE Tryz.func180 rfl;refine dg rfl (fun D=>?_) (fun D=>?_);·exact absurd D (by simp[eI,h0])
 .refine ac rfl (Cp ‹_› ‹_› ‹_›)<|cm 13 [] ?_;refine aq (eA rfl rfl dX rfl) ?_;refine aw rfl (L8 a3) ?_;refine aw rfl (K5 h0 J) ?_;refine iN (aY rfl) (fun c2 j=>?_);cases c2
  .refine mL rfl<|cm 5 [4,5,999999] ?_;refine DQ.mk<|ig (ff fl rfl) rfl rfl rfl rfl<|dY ?_;refine DQ.mk<|ig (ff fl rfl) rfl rfl rfl rfl<|dY ?_;obtain⟨e1,I⟩:=yC h0 (.inl (Ns.1 (r8 j)));apply ae;rw[e1,I];exact aN fl rfl (aN fl rfl (aj aa))
  .refine ar (eA rfl rfl dX rfl) ?_;refine dg rfl (fun A=>?_) (fun A=>?_)
   .apply cm 6 [];refine aw rfl (rU (by omega) (by omega))<|aw rfl (V7 ‹_› ‹_›) ?_;refine aw rfl (BU ‹_› ‹_›)<|cm 5 [4,5,999999] ?_;refine DQ.mk<|ig (ff fl rfl) rfl rfl rfl rfl<|dY ?_;refine DQ.mk<|ig (ff fl rfl) rfl rfl rfl rfl<|dY ?_;obtain⟨e1,I⟩:=JX h0 (fun e=>su j (Ns.2 e)) (by rw[MI h0 (su j)];exact GW A);apply ae;rw[e1,I];exact aN fl rfl (aN fl rfl (aj aa))
   .refine cm 5 [4,5,999999] ?_;refine DQ.mk<|ig (ff fl rfl) rfl rfl rfl rfl<|dY ?_;refine DQ.mk<|ig (ff fl rfl) rfl rfl rfl rfl<|dY ?_;obtain⟨e1,I⟩:=yC h0 (.inr (by rw[MI h0 (su j)];exact Gm A));apply ae;rw[e1,I];exact aN fl rfl (aN fl rfl (aj aa))
theorem G2 (hx:Sz 20000000 x) (hy:Sz 20000000 y):cq 179 [dI x,dI y] [dI (Int.gcd x y:Int)]:=by
 refine bE Tryz.func179 rfl<|cm 6 [] ?_;refine DW.mk<|bK (ι:={p:Int×Int // RG x y p.1 p.2}) (fun i=>⟨54,[(4,.p 4 0),(5,.v (.c (cL i.1.1))),(6,.v (.c (cL i.1.2)))],[(4,38,([.b false]++[.s 0 []]))]⟩) (fun i=>i.1.2.toNat) ⟨((x.natAbs:Int),(y.natAbs:Int)),RG.start hx hy⟩ (au ⟨rfl,by rw[Uk x];rfl,by rw[Uk y];rfl,trivial⟩ ⟨rfl,trivial⟩ rfl) ?_;rintro⟨⟨a,c⟩,j⟩;have ha:=j.sa;have c5:=j.sc;have b6:=j.a0;have b5:=j.c0;have b7:Sz 100000000 a:=ha.m_;dsimp only;apply th;refine iN (aY rfl) (fun c1 I=>?_);cases c1
 .refine DL.mk<|vX (mu rfl)<|iJ ?_;apply mL rfl;refine dg rfl (fun a4=>?_) (fun a4=>?_)
  .refine ac rfl (jb ‹_›) ?_;apply ae;rw[j.done (r8 I)];exact aN fl rfl aa
  .exact absurd a4 (by simp[eI,r8 I])
 .have A:=su I;refine iN (aY rfl) (fun c3 b4=>?_);cases c3
  .have a5:=NV b4;refine dg rfl (fun W=>?_) (fun W=>?_)
   .refine ac rfl (Cp ‹_› ‹_› ‹_›) ?_;exact⟨⟨(c,(a.natAbs:Int)%c.natAbs),j.step A⟩,au (bt rfl) ⟨rfl,trivial⟩ rfl,j.less A⟩
   .have a9:=NV W;refine dg rfl (fun a3=>?_) (fun a3=>?_);·exact absurd a3 (by simp[eI,A])
    .refine ac rfl (IF ‹_›)<|ac rfl (IF ‹_›) ?_;refine DW.mk<|bK (ι:={p:Int×Int // GInv2 x y p.1 p.2}) (fun i=>⟨54,[(4,.p 4 0),(9,.v (.c (.i .u64 i.1.1))),(10,.v (.c (.i .u64 i.1.2)))],[(4,38,([.b false]++[.s 0 []]))]⟩) (fun i=>i.1.2.toNat) ⟨((a.natAbs:Int),(c.natAbs:Int)),j.word a5 a9⟩ (au (bt rfl) ⟨rfl,trivial⟩ rfl) ?_;rintro⟨⟨u,v⟩,D⟩;have a6:=D.u0;have b3:=D.u1;have c6:=Sz.small3 a6 b3;apply th;refine dg rfl (fun J=>?_) (fun J=>?_)
     .have hv:v>0:=by simpa using J
      have c7:v≠0:=by omega
      refine cm 6 []<|aq (Gp rfl rfl (by omega) rfl) ?_;exact⟨⟨(v,u.tmod v),D.step hv⟩,au (bt rfl) ⟨rfl,trivial⟩ rfl,D.less hv⟩
     .refine ac rfl (rW (by omega) (by omega))<|ac rfl (jb ‹_›) ?_;apply ae;rw[D.fin (by simpa using J)];exact aN fl rfl aa
  .refine n7 rfl<|ac rfl (Cp ‹_› ‹_› ‹_›) ?_;exact⟨⟨(c,(a.natAbs:Int)%c.natAbs),j.step A⟩,au (bt rfl) ⟨rfl,trivial⟩ rfl,j.less A⟩
end Go.Proofs.YtegeknjkgadehaaGreat
