/-Square roots of integers,program and reference. -/
import Derived.Test.YtegeknjkgadehaaGreatTqG
import Derived.Test.YtegeknjkgadehaaGreatRows
import Derived.Deep.Slices
import Derived.ProofKit
import Derived.OpenShut
import Derived.Carry
namespace Go.Proofs.YtegeknjkgadehaaGreat
open Go Go.RowKit
section
variable {d m n:Int}{x y:Rat}
theorem ak:type_of% @Rz.sub:=@Rz.sub
theorem al:type_of% @Rz.mul:=@Rz.mul
theorem dJ:type_of% @Rz.add:=@Rz.add
theorem ep:type_of% @Rz.d:=@Rz.d
theorem jL:type_of% @Sz.mul:=@Sz.mul
theorem pk:type_of% @DataW.trod_int:=@DataW.trod_int
theorem sE:type_of% @Bool.and_false:=@Bool.and_false
theorem As:type_of% @Tryz.underlying64:=@Tryz.underlying64
theorem Dr {x:Int}(W:Sz 99999999 x):cq 247 [dI x] [dI (bm x),.c (.i .i64 (if x<0 then 7 else 0))]:=by
 have c3:(2:Int)≠0:=by decide
 have hl:=hJ W;have c5:Sz 100000000 (2:Int):=e8 (by omega) (by omega) (by omega);refine dP Tryz.func247 54 [.cell 2 38,.tmp 3] rfl<|ab<|ag<|ab<|ab<|ag ?_;refine aJ rfl (fun J=>?_) (fun J=>?_)
 .have hn:x<0:=by simpa using J
  refine ab<|ag<|ar (am KY DY rfl rfl rfl) ?_;apply aU;rw[u5 hn,if_pos hn,xy];exact ae (aN fl rfl (aj aa))
 .have hn:0<=x:=by have:=J;simp at this;omega
  refine aA<|ab<|ab<|ag ?_;refine aJ rfl (fun V=>?_) (fun V=>?_)
  .have hz:x=0:=by have:=V;simp[eI] at this;omega
   refine ab<|ag<|ar (am KY DY rfl rfl rfl) ?_;apply aU;rw[hz,E2,xy,if_neg (by omega)];exact ae (aN fl rfl (aj aa))
  .have j:0<x:=by have:=V;simp[eI] at this;omega
   obtain⟨k,hk⟩: ∃k:Nat,((dr x.natAbs).length+1)/2=k:=⟨_,rfl⟩;have b6:=eX k;have b7:cL (pw k)=cL (pw k):=rfl;refine aA<|ab<|ag ?_;refine ar (ca ((((dr x.natAbs).length:Int))+1) (bc (by omega) (by omega)) rfl) ?_;refine ar (jX (r:=(k:Int)) rfl rfl (by omega) (by rw[t6 (by omega),show(((dr x.natAbs).length:Int)+1)/2=(k:Int) from by omega];exact lq (by omega) (by omega)) rfl) ?_;refine ab<|bN<|cZ 1<|qL (nB wZ rfl rfl (by omega) (by omega) rfl) rfl ?_;refine bj (xd wZ rfl rfl) ?_;refine ab5 (wE wZ rfl rfl rfl (by omega) rfl) ?_;refine bj (iW rfl tD)<|ro (lI DY rfl) rfl<|gm<|ab<|ag<|ac rfl (mz (by omega) (by omega))<|aM<|bK (ι:={r:Int // NInv 99999999 x r}) (fun i=>⟨54,[(1,.p 1 0),(2,.p 2 0),(3,.v (.c (.i .i64 0))),(5,.p 5 0),(6,.p 6 0)],[(1,38,cI x),(2,38,([.b false]++[.s 0 []])),(5,38,cI i.1),(6,38,cI 2)]⟩) (fun i=>i.1.toNat) ⟨pw k,NInv.start j W hk (by omega)⟩ (au (bt rfl) ⟨rfl,rfl,by rw[show sg false (((pw k).natAbs:Nat):Int)=pw k from by rw[cK];have:=eX k;omega];rfl,rfl,trivial⟩ rfl) ?_;rintro⟨r,R⟩;have b5:=R.r0;have b4:r≠0:=by omega
   obtain⟨a5,a9,b3⟩:=R.sum W j;have a1:Sz 100000000 r:=R.sz.m_;have a2:Sz 100000000 (x.fdiv r):=a5.m_;have a3:Sz 100000000 x:=W.m_;dsimp only;refine aM<|ab<|ag ?_;refine ac rfl (pg ‹_› ‹_› ‹_›)<|ab<|fS 14 [10,11,999999] ?_;refine aw rfl (yg ‹_› ‹_›) ?_;refine aw rfl (pg ‹_› ‹_› ‹_›) ?_;refine DQ.mk<|kZ (ff fl rfl) rfl rfl rfl rfl<|dY ?_;refine DQ.mk<|kZ (ff fl rfl) rfl rfl rfl rfl<|dY ?_;refine ab<|ab<|ag ?_;refine ac rfl mH ?_;refine aJ rfl (fun I=>?_) (fun I=>?_)
   .have a6:=FC I;refine ab<|ag ?_;apply aU;rw[R.done j a6,if_neg (by omega)];exact ae (aN fl rfl (aj aa))
   .have hlt:=Gy I;refine aA<|ag ?_;exact⟨⟨(r+x.fdiv r).fdiv 2,R.next j hlt⟩,au (bt rfl) (bt rfl) rfl,by show((r+x.fdiv r).fdiv 2).toNat<r.toNat;omega⟩
theorem RC {x:Int}(hx:Sz 19999999 x):cq 252 [dI x] [dI (bm x),.c (.i .i64 (if x<0 then 7 else 0))]:=by
 have c6:(2:Int)≠0:=by decide
 have hl:=hJ hx;have c7:Sz 20000000 (2:Int):=e8 (by omega) (by omega) (by omega);refine dP Tryz.func252 52 [.cell 2 38,.tmp 3] rfl<|ab<|ag<|ab<|ab<|ag ?_;refine aJ rfl (fun R=>?_) (fun R=>?_)
 .have hn:x<0:=by simpa using R
  refine ab<|ag<|ar (am KY DY rfl rfl rfl) ?_;apply aU;rw[u5 hn,if_pos hn,xy];exact ae (aN fl rfl (aj aa))
 .have hn:0<=x:=by have:=R;simp at this;omega
  refine aA<|ab<|ab<|ag ?_;refine aJ rfl (fun W=>?_) (fun W=>?_)
  .have hz:x=0:=by have:=W;simp[eI] at this;omega
   refine ab<|ag<|ar (am KY DY rfl rfl rfl) ?_;apply aU;rw[hz,E2,xy,if_neg (by omega)];exact ae (aN fl rfl (aj aa))
  .have j:0<x:=by have:=W;simp[eI] at this;omega
   obtain⟨k,hk⟩: ∃k:Nat,((dr x.natAbs).length+1)/2=k:=⟨_,rfl⟩;have c3:=eX k;have c5:cL (pw k)=cL (pw k):=rfl;refine aA<|ab<|bN<|cZ 3<|bj (ca ((((dr x.natAbs).length:Int))+1) (bc (by omega) (by omega)) rfl)<|bj (jX (r:=(k:Int)) rfl rfl (by omega) (by rw[t6 (by omega),show(((dr x.natAbs).length:Int)+1)/2=(k:Int) from by omega];exact lq (by omega) (by omega)) rfl) ?_;refine qL (nB wZ rfl rfl (by omega) (by omega) rfl) rfl ?_;refine bj (xd wZ rfl rfl) ?_;refine ab5 (wE wZ rfl rfl rfl (by omega) rfl) ?_;refine bj (am (us:=([.b false]++[cL (pw k)])) KY DY rfl rfl rfl) ?_;refine ro (lI DY rfl) rfl<|gm<|ab<|ag<|ac rfl (rU (by omega) (by omega))<|aM<|bK (ι:={r:Int // NInv 19999999 x r}) (fun i=>⟨52,[(1,.p 1 0),(2,.p 2 0),(3,.v (.c (.i .i64 0))),(4,.p 4 0),(5,.p 5 0)],[(1,38,cI x),(2,38,([.b false]++[.s 0 []])),(4,38,cI i.1),(5,38,cI 2)]⟩) (fun i=>i.1.toNat) ⟨pw k,NInv.start j hx hk (by omega)⟩ (au (bt rfl) ⟨rfl,rfl,by rw[ae3 (by have:=eX k;omega)];rfl,rfl,trivial⟩ rfl) ?_;rintro⟨r,V⟩;have I:=V.sz;have b7:=V.r0;have b6:r≠0:=by omega
   obtain⟨b3,b5,a9⟩:=V.sum hx j;have a1:Sz 20000000 r:=I.m_;have a2:Sz 90000000 (x.fdiv r):=b3.m_;have a3:Sz 20000000 x:=hx.m_;have a4:Sz 90000000 r:=I.m_;have a5:Sz 100000000 r:=I.m_;have a6:Sz 100000000 ((r+x.fdiv r).fdiv 2):=a9.m_;dsimp only;refine aM<|ab<|ag ?_;refine ac rfl (m9 ‹_› ‹_› ‹_›)<|ab<|fS 14 [9,10,999999] ?_;refine aw rfl (BU ‹_› ‹_›) ?_;refine aw rfl (m9 ‹_› ‹_› ‹_›) ?_;refine DQ.mk<|kZ (ff fl rfl) rfl rfl rfl rfl<|dY ?_;refine DQ.mk<|kZ (ff fl rfl) rfl rfl rfl rfl<|dY ?_;refine ab<|ab<|ag ?_;refine ac rfl (Mn ‹_› ‹_›) ?_;refine aJ rfl (fun J=>?_) (fun J=>?_)
   .have b4:=FC J;refine ab<|ag ?_;apply aU;rw[V.done j b4,if_neg (by omega)];exact ae (aN fl rfl (aj aa))
   .have hlt:=Gy J;refine aA<|ag ?_;exact⟨⟨(r+x.fdiv r).fdiv 2,V.next j hlt⟩,au (bt rfl) (bt rfl) rfl,by show((r+x.fdiv r).fdiv 2).toNat<r.toNat;omega⟩
theorem Gt:cq 194 [] [dI 1]:=by refine bE Tryz.func194 rfl<|ac rfl (mz (by omega) (by omega)) ?_;exact ae (aN fl rfl aa)
theorem J3:cq 188 [.c (.i .i64 m)] [.c (.b false)]:=by apply bE Tryz.func188 rfl;exact⟨.inr rfl,by simpa using(aj aa)⟩
theorem Ek:cq 108 [.c (.i .i64 m),.c (.i .i64 n)] [.c (.i .i64 (dT m n))]:=by
 refine bE Tryz.func108 rfl<|ac rfl (J3)<|ac rfl (J3)<|mL rfl<|mL rfl ?_;refine dg rfl (fun j=>?_) (fun j=>?_)
 .apply ae;rw[fk (by simpa using j)];exact aj aa
 .refine dg rfl (fun I=>?_) (fun I=>?_)
  .apply ae;rw[fu (by simpa using I)];exact aj aa
  .apply ae;rw[jV (by have:=j;have J:=I;simp at this J;omega)];exact aj aa
theorem rK:cq 38 [dR x] [.c (.i .i64 (aG x 0))]:=by apply bE Tryz.func38 rfl;refine ac rfl (uj)<|ae ?_;rw[<-uU];exact aj aa
theorem bU:cq 38 [dR x] [.c (.i .i64 (aG x 0))]:=rK
theorem OM:cq 169 [dI n] [dR (n:Rat)]:=by refine bE Tryz.func169 rfl<|cm 3 [] ?_;refine aw rfl Gt ?_;refine aq (am wh uL rfl rfl rfl) ?_;apply ae;rw[UA];exact aN br rfl aa
theorem yS (h0: -9223372036854775808<=n) (h1:n<=9223372036854775807):cq 87 [.c (.i .i64 n)] [dR (n:Rat)]:=by refine bE Tryz.func87 rfl<|ac rfl (mz (by omega) (by omega))<|ac rfl OM ?_;exact ae (aN br rfl aa)
theorem oY (h0: -9223372036854775808<=n) (h1:n<=9223372036854775807):cq 87 [.c (.i .i64 n)] [dR (n:Rat)]:=yS h0 h1
theorem sI {x y:Int}(j:Sz 100000000 x) (I:Sz 100000000 y) (h0:y≠0):cq 195 [dI x,dI y] [dI (x.fdiv y)]:=by refine bE Tryz.func195 rfl<|ac rfl (pg (f6 j) (f6 I) ‹_›) ?_;exact ae (aN fl rfl aa)
theorem n5 {x y:Int}(R:Sz 19980000 x) (I:Sz 19980000 y) (h0:y≠0):cq 117 [dI x,dI y] [dR (Rat.divInt x y)]:=by
 have hg:=Gv (n:=x) h0;have a4:=Gv (n:= -x) (d:= -y) (by omega);have a3:=Sz.gcd (x:=x) I h0;have W:=Sz.gcd (x:= -x) I.neg (by omega);refine bE Tryz.func117 rfl<|ac rfl uj ?_;refine dg rfl (fun j=>?_) (fun j=>?_)
 .have hn:=abN j;apply cm 4 [];refine aw rfl (xx (f6 R)) ?_;refine aw rfl (xx (f6 I)) ?_;refine ac rfl (FU (f6 (Sz.neg R)) (f6 (Sz.neg I)))<|cm 4 [] ?_;refine aw rfl Gt ?_;refine aw rfl mH ?_;refine dg rfl (fun V=>?_) (fun V=>?_)
  .apply cm 6 [];refine aw rfl (sI (f6 (Sz.neg R)) UG (by first|assumption|exact neg_ne ‹_›|exact iU ‹_› ‹_›)) ?_;refine aw rfl (sI (f6 (Sz.neg I)) UG (by first|assumption|exact neg_ne ‹_›|exact iU ‹_› ‹_›)) ?_;refine ar (am wh uL rfl rfl rfl) ?_;apply ae;rw[La,Cy (by omega)];exact aN br rfl aa
  .refine ar (am wh uL rfl rfl rfl) ?_;apply ae;rw[La,BS (by omega) (aeo V)];exact aN br rfl aa
 .have hn:=acy j;refine ac rfl (FU (f6 R) (f6 I))<|cm 4 [] ?_;refine aw rfl Gt ?_;refine aw rfl mH ?_;refine dg rfl (fun J=>?_) (fun J=>?_)
  .apply cm 6 [];refine aw rfl (sI (f6 R) UG (by first|assumption|exact neg_ne ‹_›|exact iU ‹_› ‹_›)) ?_;refine aw rfl (sI (f6 I) UG (by first|assumption|exact neg_ne ‹_›|exact iU ‹_› ‹_›)) ?_;refine ar (am wh uL rfl rfl rfl) ?_;apply ae;rw[Cy (by omega)];exact aN br rfl aa
  .refine ar (am wh uL rfl rfl rfl) ?_;apply ae;rw[BS (by omega) (aeo J)];exact aN br rfl aa
theorem Pg {x y:Int}(I:Sz 19980000 x) (J:Sz 19980000 y) (h0:y≠0):cq 353 [dI x,dI y] [dR (Rat.divInt x y),.c (.i .i64 0)]:=by
 refine bE Tryz.func353 rfl<|ac rfl uj ?_;refine dg rfl (fun j=>?_) (fun j=>?_);·exact absurd (Yq j) h0
 .refine ac rfl (n5 (f6 I) (f6 J) (by first|assumption|exact neg_ne ‹_›|exact iU ‹_› ‹_›)) ?_;exact ae (aN br rfl (aj aa))
theorem U7 {x y:Int}(j:Sz 999 x) (I:Sz 999 y) (h0:y≠0):cq 353 [dI x,dI y] [dR (Rat.divInt x y),.c (.i .i64 0)]:=Pg (j.mono (by decide)) (I.mono (by decide)) h0
theorem de (j:Rz 6000000 x):cq 112 [dR x] [dR (-x)]:=by refine bE Tryz.func112 rfl<|cm 6 [] ?_;refine aw rfl (xx (f6 (Rz.n j))) ?_;refine aq (am wh uL rfl rfl rfl) ?_;apply ae;rw[Ui (Rat.neg_num x) (congrArg Int.ofNat (Rat.neg_den x))];exact aN br rfl aa
theorem WH (j:Rz 300 x):cq 112 [dR x] [dR (-x)]:=de (j.mono (by decide))
theorem kQ (j:Rz 6000000 x) (I:Rz 6000000 y):cq 50 [dR x,dR y] [dR (x+y)]:=by
 have V:=iU (mM x) (mM y);have R:=mM x;refine bE Tryz.func50 rfl<|ac rfl mH ?_;refine dg rfl (fun J=>?_) (fun J=>?_)
 .apply cm 8 [];refine aw rfl (yg (f6 (Rz.n j)) (f6 (Rz.n I))) ?_;refine aw rfl (n5 (f6 (Sz.addm (Rz.n j) (Rz.n I))) (f6 (ep j)) (by first|assumption|exact neg_ne ‹_›|exact iU ‹_› ‹_›)) ?_;apply ae;rw[<-agV (Yq J)];exact aN br rfl aa
 .apply cm 17 [];refine aw rfl (jo (f6 (Rz.n j)) (f6 (ep I))) ?_;refine aw rfl (jo (f6 (Rz.n I)) (f6 (ep j))) ?_;refine aw rfl (yg (f6 (jL (Rz.n j) (ep I))) (f6 (jL (Rz.n I) (ep j)))) ?_;refine aw rfl (jo (f6 (ep j)) (f6 (ep I))) ?_;refine aw rfl (n5 (f6 (Sz.addm (jL (Rz.n j) (ep I)) (jL (Rz.n I) (ep j)))) (f6 (jL (ep j) (ep I))) (by first|assumption|exact neg_ne ‹_›|exact iU ‹_› ‹_›)) ?_;apply ae;rw[<-Wl];exact aN br rfl aa
theorem Xm (j:Rz 300 x) (I:Rz 300 y):cq 50 [dR x,dR y] [dR (x+y)]:=kQ (j.mono (by decide)) (I.mono (by decide))
theorem jS (I:Rz 6000000 x) (j:Rz 6000000 y):cq 45 [dR x,dR y] [dR (x-y)]:=by refine bE Tryz.func45 rfl<|cm 4 [] ?_;refine aw rfl (de (az j)) ?_;refine aw rfl (kQ (az I) (az (Rz.neg j)))<|ae ?_;rw[Rat.sub_eq_add_neg];exact aN br rfl aa
theorem WG (j:Rz 300 x) (I:Rz 300 y):cq 45 [dR x,dR y] [dR (x-y)]:=jS (j.mono (by decide)) (I.mono (by decide))
theorem dd (j:Rz 6000000 x) (I:Rz 6000000 y):cq 111 [dR x,dR y] [dR (x*y)]:=by have J:=iU (mM x) (mM y);refine bE Tryz.func111 rfl<|cm 11 [] ?_;refine aw rfl (jo (f6 (Rz.n j)) (f6 (Rz.n I))) ?_;refine aw rfl (jo (f6 (ep j)) (f6 (ep I))) ?_;refine aw rfl (n5 (f6 (jL (Rz.n j) (Rz.n I))) (f6 (jL (ep j) (ep I))) (by first|assumption|exact neg_ne ‹_›|exact iU ‹_› ‹_›)) ?_;apply ae;rw[<-adV];exact aN br rfl aa
theorem Xj (j:Rz 300 x) (I:Rz 300 y):cq 111 [dR x,dR y] [dR (x*y)]:=dd (j.mono (by decide)) (I.mono (by decide))
theorem vv (I:Rz 6000000 x) (J:Rz 6000000 y) (h0:y≠0):cq 288 [dR x,dR y] [dR (x/y),.c (.i .i64 0)]:=by
 have R:=iU (mM x) (Ti h0);refine bE Tryz.func288 rfl<|ac rfl bU ?_;refine dg rfl (fun j=>?_) (fun j=>?_);·exact absurd (Ma j) h0
 .apply cm 11 [];refine aw rfl (jo (f6 (Rz.n I)) (f6 (ep J))) ?_;refine aw rfl (jo (f6 (ep I)) (f6 (Rz.n J))) ?_;refine aw rfl (n5 (f6 (jL (Rz.n I) (ep J))) (f6 (jL (ep I) (Rz.n J))) (by first|assumption|exact neg_ne ‹_›|exact iU ‹_› ‹_›)) ?_;apply ae;rw[<-abv];exact aN br rfl (aj aa)
theorem WN (j:Rz 300 x) (I:Rz 300 y) (h0:y≠0):cq 288 [dR x,dR y] [dR (x/y),.c (.i .i64 0)]:=vv (j.mono (by decide)) (I.mono (by decide)) h0
theorem jG (I:Rz 6000000 x) (J:Rz 6000000 y):cq 42 [dR x,dR y] [.c (.i .i64 (aG x y))]:=by
 refine bE Tryz.func42 rfl<|cm 6 [] ?_;refine aw rfl bU ?_;refine aw rfl bU ?_;refine aw rfl Ek ?_;refine dg rfl (fun j=>?_) (fun j=>?_)
 .apply ae;rw[<-KX j];exact aj aa
 .apply cm 12 [];refine aw rfl (jo (f6 (Rz.n I)) (f6 (ep J))) ?_;refine aw rfl (jo (f6 (Rz.n J)) (f6 (ep I))) ?_;refine aw rfl (mH)<|ae ?_;rw[IK (y:=y)];exact aj aa
theorem XL (j:Rz 300 x) (I:Rz 300 y):cq 42 [dR x,dR y] [.c (.i .i64 (aG x y))]:=jG (j.mono (by decide)) (I.mono (by decide))
theorem xr (j:Rz 6000000 x):cq 164 [dR x] [dI (x.num.fdiv (x.den:Int))]:=by have I:=mM x;refine bE Tryz.func164 rfl<|ac rfl (pg (f6 (Rz.n j)) (f6 (ep j)) ‹_›) ?_;exact ae (aN fl rfl aa)
theorem OQ (j:Rz 300 x):cq 164 [dR x] [dI (x.num.fdiv (x.den:Int))]:=xr (j.mono (by decide))
theorem Fh {x:Int}(j:Sz 6000000 x):cq 328 [dI x] [dI (bm x),.c (.b (Bw x))]:=by
 have hs:=Sz.isq j;refine bE Tryz.func328 rfl<|ac rfl (Dr (f6 j))<|cm 13 [2,999999] ?_;refine zQ (aY rfl) (fun c1 I=>?_);cases c1
 .refine DQ.mk<|ig (ff fl rfl) rfl rfl rfl rfl<|dY ?_;apply ae;rw[HP (e7 I)];exact aN fl rfl (aj aa)
 .refine aw rfl (jo (f6 (Sz.isq j)) (f6 (Sz.isq j))) ?_;refine aw rfl mH ?_;refine DQ.mk<|Ka (ff fl rfl) rfl rfl (by kernel_rfl) rfl<|dY ?_;apply ae;rw[N5];exact aN fl rfl (aj aa)
theorem Ar (J:Rz 6000000 x):cq 292 [dR x] [dQ (if jy x then bm x.num else 0) (if jy x then bm (x.den:Int) else 0),.c (.b (jy x))]:=by
 refine bE Tryz.func292 rfl<|ac rfl (Fh (f6 (Rz.n J))) ?_;refine dg rfl (fun j=>?_) (fun j=>?_)
 .refine ac rfl (Fh (f6 (ep J))) ?_;refine dg rfl (fun I=>?_) (fun I=>?_)
  .refine ar (am wh uL rfl rfl rfl) ?_;apply ae;rw[Zb j I,if_pos rfl,if_pos rfl];exact aN br rfl (aj aa)
  .refine ar (am wh uL rfl rfl rfl) ?_;apply ae;rw[Qt I,if_neg (by decide),if_neg (by decide),yi];exact aN br rfl (aj aa)
 .refine ar (am wh uL rfl rfl rfl) ?_;apply ae;rw[Tx j,if_neg (by decide),if_neg (by decide),yi];exact aN br rfl (aj aa)
theorem R3 (j:Rz 300 x):cq 292 [dR x] [dQ (if jy x then bm x.num else 0) (if jy x then bm (x.den:Int) else 0),.c (.b (jy x))]:=Ar (j.mono (by decide))
theorem H8:cq 90 [] [dI 1]:=by refine bE Tryz.func90 rfl<|ac rfl (rU (by omega) (by omega)) ?_;exact ae (aN fl rfl aa)
theorem pf:cq 91 [dR x] [.c (.i .i64 (aG x 0))]:=by apply bE Tryz.func91 rfl;refine ac rfl (yN)<|ae ?_;rw[<-uU];exact aj aa
theorem b9:cq 91 [dR x] [.c (.i .i64 (aG x 0))]:=pf
theorem rL (h0: -9223372036854775808<=n) (h1:n<=9223372036854775807):cq 30 [.c (.i .i64 n)] [dR (n:Rat)]:=by refine bE Tryz.func30 rfl<|ac rfl (rU (by omega) (by omega))<|ac rfl (H8)<|ar (am wh uL rfl rfl rfl) ?_;apply ae;rw[UA];exact aN br rfl aa
theorem wg (h0: -9223372036854775808<=n) (h1:n<=9223372036854775807):cq 30 [.c (.i .i64 n)] [dR (n:Rat)]:=rL h0 h1
theorem qh {x y:Int}(J:Sz 19980000 x) (I:Sz 19980000 y) (h0:y≠0):cq 97 [dI x,dI y] [dR (Rat.divInt x y)]:=by
 have hg:=Gv (n:=x) h0;have a3:=Gv (n:= -x) (d:= -y) (by omega);have W:=(Sz.gcd (x:=x) I h0).mono (l:=20000000) (by decide);have R:=(Sz.gcd (x:= -x) I.neg (by omega)).mono (l:=20000000) (by decide);refine bE Tryz.func97 rfl<|ac rfl yN ?_;refine dg rfl (fun j=>?_) (fun j=>?_)
 .have V:=abN j;apply cm 4 [];refine aw rfl (BN (f6 J)) ?_;refine aw rfl (BN (f6 I)) ?_;refine ac rfl (G2 (f6 (Sz.neg J)) (f6 (Sz.neg I))) ?_;refine ac rfl (m9 (f6 (Sz.neg J)) UG ‹_›) ?_;refine ac rfl (m9 (f6 (Sz.neg I)) UG ‹_›) ?_;refine ar (am wh uL rfl rfl rfl) ?_;apply ae;rw[La,Cy (by omega)];exact aN br rfl aa
 .have V:=acy j;refine ac rfl (G2 (f6 J) (f6 I))<|ac rfl (m9 (f6 J) UG ‹_›)<|ac rfl (m9 (f6 I) UG ‹_›)<|ar (am wh uL rfl rfl rfl) ?_;apply ae;rw[Cy (by omega)];exact aN br rfl aa
theorem OO {x y:Int}(I:Sz 19980000 x) (J:Sz 19980000 y) (h0:y≠0):cq 355 [dI x,dI y] [dR (Rat.divInt x y),.c (.i .i64 0)]:=by
 refine bE Tryz.func355 rfl<|ac rfl yN ?_;refine dg rfl (fun j=>?_) (fun j=>?_);·exact absurd (Yq j) h0
 .refine ac rfl (qh (f6 I) (f6 J) (by first|assumption|exact neg_ne ‹_›|exact iU ‹_› ‹_›)) ?_;exact ae (aN br rfl (aj aa))
theorem Fa (h0: -9223372036854775808<=n) (h1:n<=9223372036854775807) (I: -9223372036854775808<=d) (R:d<=9223372036854775807) (J:d≠0):cq 32 [.c (.i .i64 n),.c (.i .i64 d)] [dR (Rat.divInt n d)]:=by
 have z1:Sz 19980000 n:=e8 (by decide) h0 h1;have z2:Sz 19980000 d:=e8 (by decide) I R;apply bE Tryz.func32 rfl;refine dg rfl (fun j=>?_) (fun j=>?_);·exact absurd (by simpa using j) J
 .refine ac rfl (rU (by omega) (by omega))<|ac rfl (rU (by omega) (by omega)) ?_;refine ac rfl (qh UG UG (by first|assumption|exact neg_ne ‹_›|exact iU ‹_› ‹_›)) ?_;exact ae (aN br rfl aa)
theorem mF (h0: -9223372036854775808<=n) (h1:n<=9223372036854775807) (j: -9223372036854775808<=d) (I:d<=9223372036854775807) (J:d≠0):cq 32 [.c (.i .i64 n),.c (.i .i64 d)] [dR (Rat.divInt n d)]:=Fa h0 h1 j I J
theorem lg (j:Rz 6000000 x):cq 284 [dR x] [dR (-x)]:=by refine bE Tryz.func284 rfl<|cm 6 [] ?_;refine aw rfl (BN (f6 (Rz.n j))) ?_;refine aq (am wh uL rfl rfl rfl) ?_;apply ae;rw[Ui (Rat.neg_num x) (congrArg Int.ofNat (Rat.neg_den x))];exact aN br rfl aa
theorem VZ (j:Rz 300 x):cq 284 [dR x] [dR (-x)]:=lg (j.mono (by decide))
theorem gW (j:Rz 6000000 x) (I:Rz 6000000 y):cq 94 [dR x,dR y] [dR (x+y)]:=by have J:=iU (mM x) (mM y);refine bE Tryz.func94 rfl<|ac rfl (nu (f6 (Rz.n j)) (f6 (ep I)))<|ac rfl (nu (f6 (Rz.n I)) (f6 (ep j)))<|cm 9 [] ?_;refine aw rfl (BU (f6 (jL (Rz.n j) (ep I))) (f6 (jL (Rz.n I) (ep j)))) ?_;refine aw rfl (nu (f6 (ep j)) (f6 (ep I))) ?_;refine aw rfl (qh (f6 (Sz.addm (jL (Rz.n j) (ep I)) (jL (Rz.n I) (ep j)))) (f6 (jL (ep j) (ep I))) (by first|assumption|exact neg_ne ‹_›|exact iU ‹_› ‹_›)) ?_;apply ae;rw[<-Wl];exact aN br rfl aa
theorem Yk (j:Rz 300 x) (I:Rz 300 y):cq 94 [dR x,dR y] [dR (x+y)]:=gW (j.mono (by decide)) (I.mono (by decide))
theorem jC (I:Rz 6000000 x) (j:Rz 6000000 y):cq 269 [dR x,dR y] [dR (x-y)]:=by refine bE Tryz.func269 rfl<|cm 4 [] ?_;refine aw rfl (lg (az j)) ?_;refine aw rfl (gW (az I) (az (Rz.neg j)))<|ae ?_;rw[Rat.sub_eq_add_neg];exact aN br rfl aa
theorem Wh (j:Rz 300 x) (I:Rz 300 y):cq 269 [dR x,dR y] [dR (x-y)]:=jC (j.mono (by decide)) (I.mono (by decide))
theorem dw (j:Rz 6000000 x) (I:Rz 6000000 y):cq 95 [dR x,dR y] [dR (x*y)]:=by have J:=iU (mM x) (mM y);refine bE Tryz.func95 rfl<|cm 11 [] ?_;refine aw rfl (nu (f6 (Rz.n j)) (f6 (Rz.n I))) ?_;refine aw rfl (nu (f6 (ep j)) (f6 (ep I))) ?_;refine aw rfl (qh (f6 (jL (Rz.n j) (Rz.n I))) (f6 (jL (ep j) (ep I))) (by first|assumption|exact neg_ne ‹_›|exact iU ‹_› ‹_›)) ?_;apply ae;rw[<-adV];exact aN br rfl aa
theorem YQ (j:Rz 300 x) (I:Rz 300 y):cq 95 [dR x,dR y] [dR (x*y)]:=dw (j.mono (by decide)) (I.mono (by decide))
theorem DM (j:Rz 6000000 x) (I:Rz 6000000 y) (h0:y≠0):cq 323 [dR x,dR y] [dR (x/y),.c (.i .i64 0)]:=by have J:=iU (mM x) (Ti h0);refine bE Tryz.func323 rfl<|cm 13 [] ?_;refine aw rfl (nu (f6 (Rz.n j)) (f6 (ep I))) ?_;refine aw rfl (nu (f6 (ep j)) (f6 (Rz.n I))) ?_;refine aw rfl (OO (f6 (jL (Rz.n j) (ep I))) (f6 (jL (ep j) (Rz.n I))) (by first|assumption|exact neg_ne ‹_›|exact iU ‹_› ‹_›)) ?_;apply ae;rw[<-abv];exact aN br rfl (aj aa)
theorem XT (j:Rz 300 x) (I:Rz 300 y) (h0:y≠0):cq 323 [dR x,dR y] [dR (x/y),.c (.i .i64 0)]:=DM (j.mono (by decide)) (I.mono (by decide)) h0
theorem iG (j:Rz 6000000 x) (I:Rz 6000000 y):cq 98 [dR x,dR y] [.c (.i .i64 (aG x y))]:=by refine bE Tryz.func98 rfl<|cm 12 [] ?_;refine aw rfl (nu (f6 (Rz.n j)) (f6 (ep I))) ?_;refine aw rfl (nu (f6 (Rz.n I)) (f6 (ep j))) ?_;refine aw rfl (Mn (f6 (jL (Rz.n j) (ep I))) (f6 (jL (Rz.n I) (ep j))))<|ae ?_;rw[IK];exact aj aa
theorem XQ (j:Rz 300 x) (I:Rz 300 y):cq 98 [dR x,dR y] [.c (.i .i64 (aG x y))]:=iG (j.mono (by decide)) (I.mono (by decide))
theorem Fe {x:Int}(j:Sz 6000000 x):cq 174 [dI x] [dI (bm x),.c (.b (Bw x))]:=by
 have hs:=Sz.isq j;refine bE Tryz.func174 rfl<|ac rfl (RC (f6 j))<|cm 12 [2,999999] ?_;refine zQ (aY rfl) (fun c1 I=>?_);cases c1
 .refine DQ.mk<|ig (ff fl rfl) rfl rfl rfl rfl<|dY ?_;apply ae;rw[HP (e7 I)];exact aN fl rfl (aj aa)
 .refine aw rfl (nu (f6 (Sz.isq j)) (f6 (Sz.isq j))) ?_;refine aw rfl (JD (f6 (jL (Sz.isq j) (Sz.isq j))) (f6 j)) ?_;refine DQ.mk<|Ka (ff fl rfl) rfl rfl (by kernel_rfl) rfl<|dY ?_;apply ae;rw[show Bw x=(bm x*bm x==x) from rfl];exact aN fl rfl (aj aa)
theorem sB (J:Rz 6000000 x):cq 92 [dR x] [dQ (if jy x then bm x.num else 0) (if jy x then bm (x.den:Int) else 0),.c (.b (jy x))]:=by
 refine bE Tryz.func92 rfl<|ac rfl (Fe (f6 (Rz.n J)))<|ac rfl (Fe (f6 (ep J))) ?_;refine iN (aY rfl) (fun c1 I=>?_);cases c1
 .refine dg rfl (fun j=>?_) (fun j=>?_)
  .refine ar (am wh uL rfl rfl rfl) ?_;apply ae;rw[Qt (by simpa using j),if_neg (by decide),if_neg (by decide),yi];exact aN br rfl (aj aa)
  .refine ar (am wh uL rfl rfl rfl) ?_;apply ae;rw[Zb (by simpa using I) (by simpa using j),if_pos rfl,if_pos rfl];exact aN br rfl (aj aa)
 .refine n7 rfl<|ar (am wh uL rfl rfl rfl) ?_;apply ae;rw[Tx (by simpa using I),if_neg (by decide),if_neg (by decide),yi];exact aN br rfl (aj aa)
theorem QT (j:Rz 300 x):cq 92 [dR x] [dQ (if jy x then bm x.num else 0) (if jy x then bm (x.den:Int) else 0),.c (.b (jy x))]:=sB (j.mono (by decide))
theorem PO {neg:Bool}{xs:List Int}(hb:WR xs) (hn:xs.length<=10000000):cq 302 [.a (([.b neg]++[cM xs]))] [.c (.b (vI neg xs))]:=by
 apply bE Tryz.func302 rfl;refine DW.mk<|bK (ι:={k:Nat // k<=xs.length/\ ∀j,j<k->xs.getD j 0<1000000000}) (fun i=>⟨36,[(1,.p 1 0),(3,.v (.c (.i .i64 (i.1:Int))))],[(1,38,([.b neg]++[cM xs]))]⟩) (fun i=>xs.length-i.1) ⟨0,iB _,fun j hj=>by omega⟩ (au (bt rfl) ⟨rfl,trivial⟩ rfl) ?_;rintro⟨k,a4,I⟩;have hg:=TO hb k;dsimp only;apply th;refine dg rfl (fun R=>?_) (fun R=>?_)
 .have hk:k<xs.length:=by simp only[decide_eq_true_eq] at R;omega
  refine ar (cg jq rfl rfl (by omega) (jE _) rfl rfl) ?_;refine ar (cS fK rfl (kw (by omega)) rfl) ?_;refine dg rfl (fun W=>?_) (fun W=>?_)
  .have a5:xs.getD k 0>=1000000000:=by simpa using W
   apply ae;rw[ads hk a5];exact aj aa
  .have hok: ¬xs.getD k 0>=1000000000:=by simpa using W
   have V: ∀j,j<k+1->xs.getD j 0<1000000000:=fun j hj=>by
    rcases nT j k with h1|h1;·exact I j h1
    .rw[show j=k from by omega];omega
   refine ar (ca ((k:Int)+1) (bc (by omega) (by omega)) rfl) ?_;exact⟨⟨k+1,hk,V⟩,au ⟨rfl,by rw[show((k+1:Nat):Int)=(k:Int)+1 from by omega];rfl,trivial⟩ ⟨rfl,trivial⟩ rfl,by show xs.length-(k+1)<xs.length-k;omega⟩
 .have hk:k=xs.length:=by simp only[decide_eq_false_iff_not] at R;omega
  have hL:Lim xs:=KM hb (by rw[<-hk];exact I);apply cm 20 [];refine aw rfl (kY hL (by omega)) ?_;refine zQ (aY rfl) (fun c3 J=>?_);cases c3
  .refine DQ.mk<|sM (mu rfl)<|dY ?_;apply ae;rw[Li hL,J,oG];exact aj aa
  .refine zQ (aY rfl) (fun c4 a3=>?_);cases c4
   .apply ae;rw[Li hL,J,a3,u9,ii];exact aj aa
   .apply ae;rw[Li hL,J,a3,Bool.true_or,ii];exact aj aa
def vQ (x y:Int):Bool:=decide (0<y)&&(((Int.gcd x y:Nat):Int)==1)
theorem ahA {x:Int}:vI (decide (x<0)) (dr x.natAbs)=true:=by
 unfold vI;rw[DA (bL _),show trm (dr x.natAbs)=dr x.natAbs from jr _];by_cases h:x<0
 .have:dr x.natAbs≠ []:=fun e=>by have:=eI.1 e;omega
  have:=List.length_pos_iff.2 this;grind
 grind
theorem YL (v:Nat):WR (dr v):=fun x j=>by have:=bL v x j;omega
theorem JM {x:Int}(j:Sz 10000000 x):cq 302 [dI x] [.c (.b true)]:=by have:=PO (neg:=decide (x<0)) (YL _) (hJ j);rw[ahA] at this;exact this
theorem ajt {x y:Int}(h:vQ x y=true):cQ x y=cR (Rat.divInt x y):=by unfold vQ at h;simp only[di,decide_eq_true_eq,beq_iff_eq] at h;have:=BS h.1 h.2;unfold dR dQ at this;injection this with this;exact this.symm
theorem agL (x:Rat):vQ x.num (x.den:Int)=true:=by unfold vQ;simp only[di,decide_eq_true_eq,beq_iff_eq];refine⟨den_pos x,?_⟩;have:Int.gcd x.num (x.den:Int)=1:=x.reduced;grind
theorem TL {x y:Int}(h:vQ x y=true):(Rat.divInt x y).num=x/\((Rat.divInt x y).den:Int)=y:=by
 unfold vQ at h;simp only[di,decide_eq_true_eq,beq_iff_eq] at h;obtain⟨h1,I⟩:=h;have j:Int.gcd x y=1:=by omega
 rw[Rat.num_divInt,Rat.den_divInt,if_neg (by omega),Int.sign_eq_one_of_pos h1,Int.one_mul,Int.gcd_comm y x,j];grind
theorem afg {x y:Int}(h:(dT y 0 !=1)=true):vQ x y=false:=by
 unfold vQ;have h1: ¬0<y:=fun e=>by rw[fu e] at h;cases h
 grind
theorem afe {y:Int}(h:(dT y 0 !=1)=false):y≠0:=fun e=>by rw[jV e] at h;cases h
theorem afI {x y:Int}(h:(dT y 0 !=1)=false):vQ x y=(((Int.gcd x y:Nat):Int)==1):=by
 unfold vQ;have h1:0<y:=by
  rcases rI y 0 with e|e|e;·rw[fk e] at h;cases h
  .rw[jV e] at h;cases h
  grind
 grind
end
section
open Go.ChangeShapes Go.WideShapes Go.ChangeAt Go.RowKit Go.Deep
variable {cs:List Value}{et:Nat}
theorem own:ownKnob Tryz.prog.godebug=none:=by kernel_rfl
theorem HK:laidOutB Tryz.prog=true:=by kernel_rfl
def NoB:Nat->Prop:=fun _=>False
section
variable {H:Type}{enc:TypeId×Value->H}{w:World}{base:Nat}{spare:Nat->Bool}{held:Bool}
theorem abK {f:FuncId}{ds:List D0}{vs:Array Value}{W:World}(h:cq f ds [.c (.b true)]) (I:RdL NoB W vs.toList ds):Calls Tryz.prog f vs W fun e J=>e=.returned (.bool true)/\Below W.heap.size W J:=
 (h.run NoB vs W (fun _ h=>h.elim) I).mono fun e w' ⟨v,e1,h1,j⟩=>by have:=ua h1;subst this;exact⟨e1,j⟩
end
section
variable {H:Type}{enc:TypeId×Value->H}{w:World}{base:Nat}{spare:Nat->Bool}{held:Bool}
set_option maxRecDepth 100000 in
theorem Ke {x:DataW H×List MemPlace}(h:DataW.trod enc Tryz.prog w base spare held et 66 cs=some x):∃K U A B C D E F:Int,(0<=K/\K<=255)/\(0<=U/\U<=255)/\(-128<=A/\A<=127)/\(-128<=B/\B<=127)/\(-128<=C/\C<=127)/\(-128<=D/\D<=127)/\(-128<=E/\E<=127)/\(-128<=F/\F<=127)/\RdCs NoB w cs ([.i .u8 K]++[.i .u8 U]++[.i .i8 A]++[.i .i8 B]++[.i .i8 C]++[.i .i8 D]++[.i .i8 E]++[.i .i8 F]):=by
 obtain⟨xs,n,_,_,I,J,j⟩:=DataW.trod_struct Tryz.underlying66 h
 have I:cs.length=8:=I.trans (by kernel_rfl)
 have J:xs.length=8:=J.trans (by kernel_rfl)
 match cs,I with
 |[c0,c1,c2,c3,c4,c5,c6,c7],_=>
  have h0:DataW.trod enc Tryz.prog w base spare held n 5 [c0]=xs[0]? :=j 0 _ rfl
  have h1:DataW.trod enc Tryz.prog w base spare held n 5 [c1]=xs[1]? :=j 1 _ rfl
  have R:DataW.trod enc Tryz.prog w base spare held n 64 [c2]=xs[2]? :=j 2 _ rfl
  have h3:DataW.trod enc Tryz.prog w base spare held n 64 [c3]=xs[3]? :=j 3 _ rfl
  have h4:DataW.trod enc Tryz.prog w base spare held n 64 [c4]=xs[4]? :=j 4 _ rfl
  have h5:DataW.trod enc Tryz.prog w base spare held n 64 [c5]=xs[5]? :=j 5 _ rfl
  have W:DataW.trod enc Tryz.prog w base spare held n 64 [c6]=xs[6]? :=j 6 _ rfl
  have V:DataW.trod enc Tryz.prog w base spare held n 64 [c7]=xs[7]? :=j 7 _ rfl
  rw[gI (by omega)] at h0 h1 R h3 h4 h5 W V
  obtain⟨K,e0,_,g0⟩:=pk Tryz.underlying5 h0
  obtain⟨U,e1,_,g1⟩:=pk Tryz.underlying5 h1
  obtain⟨A,e2,_,g2⟩:=pk As R
  obtain⟨B,e3,_,g3⟩:=pk As h3
  obtain⟨C,e4,_,g4⟩:=pk As h4
  obtain⟨D,e5,_,g5⟩:=pk As h5
  obtain⟨E,e6,_,g6⟩:=pk As W
  obtain⟨F,e7,_,g7⟩:=pk As V
  simp at e0 e1 e2 e3 e4 e5 e6 e7
  subst e0 e1 e2 e3 e4 e5 e6 e7
  simp[Lit.wf,IntKind.min,IntKind.max,IntKind.signed,IntKind.bits] at g0 g1 g2 g3 g4 g5 g6 g7
  have k: ∀(t:IntKind) (q:Int),RdCs NoB w [Value.int t q] [.i t q]:=fun t q=>lG (.i _ _) qB
  exact⟨K,U,A,B,C,D,E,F,by omega,by omega,by omega,by omega,by omega,by omega,by omega,by omega,kP (kP (kP (kP (kP (kP (kP (k .u8 K) (k .u8 U)) (k .i8 A)) (k .i8 B)) (k .i8 C)) (k .i8 D)) (k .i8 E)) (k .i8 F)⟩
set_option maxRecDepth 100000 in
theorem Je {x:DataW H×List MemPlace}(h:DataW.trod enc Tryz.prog w base spare held et 68 cs=some x):∃K U A B C D E F R I W B' V J E' F' N:Int,(0<=K/\K<=255)/\(0<=U/\U<=255)/\(-128<=A/\A<=127)/\(-128<=B/\B<=127)/\(-128<=C/\C<=127)/\(-128<=D/\D<=127)/\(-128<=E/\E<=127)/\(-128<=F/\F<=127)/\(0<=R/\R<=255)/\(0<=I/\I<=255)/\(-128<=W/\W<=127)/\(-128<=B'/\B'<=127)/\(-128<=V/\V<=127)/\(-128<=J/\J<=127)/\(-128<=E'/\E'<=127)/\(-128<=F'/\F'<=127)/\(0<=N/\N<=255)/\RdCs NoB w cs (([.i .u8 K]++[.i .u8 U]++[.i .i8 A]++[.i .i8 B]++[.i .i8 C]++[.i .i8 D]++[.i .i8 E]++[.i .i8 F])++([.i .u8 R]++[.i .u8 I]++[.i .i8 W]++[.i .i8 B']++[.i .i8 V]++[.i .i8 J]++[.i .i8 E']++[.i .i8 F'])++[.i .u8 N]):=by
 obtain⟨xs,n,_,_,j,a3,hf⟩:=DataW.trod_struct (P:=Tryz.prog) Tryz.underlying68 h
 have j:cs.length=17:=j.trans (by kernel_rfl)
 have a3:xs.length=3:=a3.trans (by kernel_rfl)
 match cs,j with
 |[c0,c1,c2,c3,c4,c5,c6,c7,c8,c9,c10,c11,c12,c13,c14,c15,c16],_=>
  have h0:DataW.trod enc Tryz.prog w base spare held n 66 [c0,c1,c2,c3,c4,c5,c6,c7]=xs[0]? :=hf 0 _ rfl
  have h1:DataW.trod enc Tryz.prog w base spare held n 66 [c8,c9,c10,c11,c12,c13,c14,c15]=xs[1]? :=hf 1 _ rfl
  have h2:DataW.trod enc Tryz.prog w base spare held n 5 [c16]=xs[2]? :=hf 2 _ rfl
  rw[gI (by omega)] at h0 h1 h2
  obtain⟨K,U,A,B,C,D,E,F,b0,b1,b2,b3,b4,b5,b6,b7,r0⟩:=Ke h0
  obtain⟨R,I,W,B',V,J,E',F',d0,d1,d2,d3,d4,d5,d6,d7,r1⟩:=Ke h1
  obtain⟨N,e2,_,g2⟩:=pk (P:=Tryz.prog) Tryz.underlying5 h2
  simp at e2
  subst e2
  simp[Lit.wf,IntKind.min,IntKind.max,IntKind.signed,IntKind.bits] at g2
  exact⟨K,U,A,B,C,D,E,F,R,I,W,B',V,J,E',F',N,b0,b1,b2,b3,b4,b5,b6,b7,d0,d1,d2,d3,d4,d5,d6,d7,by omega,kP (kP r0 r1) (lG (.i _ _) qB)⟩
end
end
section
open Go.ChangeShapes Go.WideShapes Go.ChangeAt Go.RowKit
theorem G9:Tryz.pinned.checked.prog.funcNamed Rows.topPiecesRow.func=some 4:=by kernel_rfl
theorem FX:joinedFacts Tryz.pinned.checked.prog 4 Tryz.f4 Rows.topPiecesSpec Rows.topPiecesRow=true:=by kernel_rfl
end
section
variable {eO:Array Oper}{B:BF}{hi lo m n r s t:Int}{k:IntKind}{P:Program}{p:Prop}{A C D M N a a1 a2 b b1 b2 c c1 c2 d e f v w x:Rat}{T:TF}{U t1 t2:TypeId}
variable {ty:TypeId}{pos:String}{af:Array Edge}{g:Option (Nat×Bool)}{dst:Option Nat}
section
variable {P:Program}{eO:Array Oper}{T:TF}{B:BF}
theorem Gk {x y:Operand} (j:cE T x=some (.v (.c (.i k m)))) (I:cE T y=some (.v (.c (.i k n)))) (J:gd eO ⟨dst,.call ⟨.builtin .max,#[x,y],#[t1,t2]⟩,ty,pos,af,g⟩ T=some true):Sem P eO ⟨dst,.call ⟨.builtin .max,#[x,y],#[t1,t2]⟩,ty,pos,af,g⟩ T B (.r (.v (.c (.i k (max m n))))):=
 bv J (qV rfl) (fun V β a w hs=>by have e1:a.eval x=.int k m:=gY (ap hs (by simp[Op.operands,Call.operands]) j);have R:a.eval y=.int k n:=gY (ap hs (by simp[Op.operands,Call.operands]) I);refine⟨.int k (max m n),?_,.i _ _⟩;simp[execOp,resolve,invoke,builtin,Builtin.max_,Builtin.max2,e1,R];split<;>omega)
theorem N3 {x y:Operand} (j:cE T x=some (.v (.c (.i k m)))) (I:cE T y=some (.v (.c (.i k n)))) (J:gd eO ⟨dst,.call ⟨.builtin .min,#[x,y],#[t1,t2]⟩,ty,pos,af,g⟩ T=some true):Sem P eO ⟨dst,.call ⟨.builtin .min,#[x,y],#[t1,t2]⟩,ty,pos,af,g⟩ T B (.r (.v (.c (.i k (min m n))))):=
 bv J (qV rfl) (fun V β a w hs=>by have e1:a.eval x=.int k m:=gY (ap hs (by simp[Op.operands,Call.operands]) j);have R:a.eval y=.int k n:=gY (ap hs (by simp[Op.operands,Call.operands]) I);refine⟨.int k (min m n),?_,.i _ _⟩;simp[execOp,resolve,invoke,builtin,Builtin.min_,Builtin.min2,e1,R];split<;>omega)
end
theorem cb {e:TypeId}{ps:Array (Nat×Operand)}{n m a3:Nat}{zs us:List CellD}{dps:List (Nat×D0)} (hU:uV P U=some (e,m,a3,zs)) (hp:tc T ps.toList=some dps) (hf:vu (fun i=>some (i*m,m)) (List.replicate n zs).flatten dps=some us) (hl:us.length=n*m) (hn:n*m<=16777216) (hm:0<n*m) (hg:gd eO ⟨dst,.buildSlice U n ps,ty,pos,af,g⟩ T=some true):Sem P eO ⟨dst,.buildSlice U n ps,ty,pos,af,g⟩ T B (.r (.v (.c (.s n us)))):=by
 have h:=kO (B:=B) hU hp hf hn hm hg
 refine⟨qV rfl,fun V β a w hs=>?_⟩
 obtain⟨hw,hg⟩:=h V β a w hs
 refine⟨hw,hg.mono ?_⟩
 rintro v w' ⟨vs,rfl,rfl,hr⟩
 refine⟨?_,(fe _ w).alloc (bk _) _⟩
 have a5:vs.size=n*m:=by have:=hr.1;rw[hl] at this;simpa using this
 have J:0<n:=by grind
 have a4:0<m:=by grind
 have a6:n<=n*m:=Nat.le_mul_of_pos_right n a4
 refine .s w.heap.size 0 n m n _ (fun j=>vs.getD j undef) J (bk _) (by omega) hl (by simp) (fun h=>by have:=hs.av _ h;omega) (fun j W=>?_) (fun j u W=>?_)
 .simp_all
 .have hlt:j<n*m:=by have:=(fM.1 W).1;omega
  refine (hr.keep (Keep.below (av:=V) ((fe w.heap.size w).alloc (bk _) (.cells vs e)))).2 j _ u ?_ W
  have:j<vs.size:=by omega
  simp[Array.getD,this]
theorem dM {o:Oper}{b c:Bool}(h:Sem P eO o T B (.r (.v (.c (.b b))))) (e:b=c):Sem P eO o T B (.r (.v (.c (.b c)))):=by subst e;exact h
theorem dz {a b:Int}(h0: -9223372036854775808<=a*b) (h1:a*b<=9223372036854775807):Ct .mul .i64 a b=some (a*b):=congrArg some (lq h0 h1)
section
variable {P:Program}{f:FuncId}{ds rs:List D0}{x y z u v x' y' z' u' v':Rat}
theorem dL (h:Ok P f ds [dR x]) (e:x=x'):Ok P f ds [dR x']:=by subst e;exact h
theorem Cc (h:Ok P f ds [.a (cR x++cR y++cR z)]) (e1:x=x') (j:y=y') (I:z=z'):Ok P f ds [.a (cR x'++cR y'++cR z')]:=by subst e1 j I;exact h
theorem L1 {rs:List D0}(h:Ok P f ds (.a (cR x++cR y++cR z++cR u++cR v)::rs)) (e1:x=x') (I:y=y') (R:z=z') (j:u=u') (J:v=v'):Ok P f ds (.a (cR x'++cR y'++cR z'++cR u'++cR v')::rs):=by grind
theorem zn {b c:Bool}(h:Ok P f ds [.c (.b b)]) (e:b=c):Ok P f ds [.c (.b c)]:=by subst e;exact h
theorem rq {b c:Int}(h:Ok P f ds [.c (.i .i64 b)]) (e:b=c):Ok P f ds [.c (.i .i64 c)]:=by subst e;exact h
end
def zc (b c:Rat):Rat:=if b=0 then 0 else c
def zcp (b1 b2 c:Rat):Rat:=if b1=0/\b2=0 then 0 else c
theorem D6 (h:b=0):zc b c=0:=by unfold zc;rw[if_pos h]
theorem j6 (h:b≠0):zc b c=c:=by unfold zc;rw[if_neg h]
theorem Jk (h:b1=0) (j:b2=0):zcp b1 b2 c=0:=by unfold zcp;rw[if_pos ⟨h,j⟩]
theorem Lo (h:b1≠0):zcp b1 b2 c=c:=by unfold zcp;rw[if_neg (fun e=>h e.1)]
theorem LW (h:b2≠0):zcp b1 b2 c=c:=by unfold zcp;rw[if_neg (fun e=>h e.2)]
theorem rb (h:(aG x 0==0)=true):x=0:=Ma h
theorem n8 (h:(aG x 0==0)=false):x≠0:=fun e=>by rw[r7.2 e] at h;cases h
theorem JY {y:Rat}(h:(aG x y !=0)=true):x≠y:=fun e=>by rw[r7.2 e] at h;cases h
theorem Od:(0:Rat)=((0:Int):Rat):=rfl
def MT (b1 c1 b2 c2:Rat):Prop:=b1≠0/\b2≠0/\c1≠c2
def cc (b1 c1 c2:Rat):Rat:=if b1=0 then c2 else c1
theorem Bj (h:b1=0):cc b1 c1 c2=c2:=by unfold cc;rw[if_pos h]
theorem sS (h:b1≠0):cc b1 c1 c2=c1:=by unfold cc;rw[if_neg h]
def xm (b1 b2 c:Rat):Bool:=if b1=0/\b2=0 then decide (c=0) else decide (0<c)&& !jy c
def zP:List CellD:=[.b false,.s 0 [],.b false,.s 0 [],.b false,.s 0 [],.b false,.s 0 [],.b false,.s 0 [],.b false,.s 0 [],.b false,.s 0 [],.b false,.s 0 [],.b false,.s 0 [],.b false,.s 0 []]
theorem WD {x y:Int}(J:Sz 5000000 x) (I:Sz 5000000 y):cq 232 [dQ x y] [.c (.b (vQ x y))]:=by
 have V:Sz 10000000 x:=J.m_;have R:Sz 10000000 y:=I.m_;apply bE Tryz.func232 rfl;refine ac rfl (JM ‹_›) ?_;refine ar (aY rfl) ?_;refine ac rfl (JM ‹_›) ?_;refine ar (aY rfl) ?_;refine ac rfl yN ?_;refine dg rfl (fun j=>?_) (fun j=>?_)
 .apply ae;rw[afg j];exact aj aa
 .have W:Sz 100000000 ((Int.gcd x y:Nat):Int):=(Sz.gcd I (afe j)).m_;refine ac rfl (G2 (f6 J) (f6 I))<|ac rfl (H8)<|ac rfl (JD UG (f6 (e8 (k:=3) (by decide) (by decide) (by decide))))<|ae ?_;rw[afI j];exact aj aa
theorem UM (j:Rz 5000000 x):cq 232 [dR x] [.c (.b true)]:=by have:=WD j.n j.d;rw[agL] at this;exact this
theorem sC:cq 116 [] [dR 0]:=by refine bE Tryz.func116 rfl<|ac rfl (yS (by omega) (by omega)) ?_;apply ae;rw[Od];exact aN br rfl aa
theorem Df:cq 48 [dR a,dR b,dR c] [.a ((cR a++cR b++cR (zc b c)))]:=by
 refine bE Tryz.func48 rfl<|ac rfl rK ?_;refine dg rfl (fun j=>?_) (fun j=>?_)
 .refine ac rfl sC ?_;refine ar (am wO wm rfl rfl rfl) ?_;apply ae;rw[D6 (rb j)];exact aN gT rfl aa
 .refine ar (am wO wm rfl rfl rfl) ?_;apply ae;rw[j6 (n8 j)];exact aN gT rfl aa
theorem nn:cq 13 [.a ((cR a1++cR b1++cR a2++cR b2++cR c))] [.a ((cR a1++cR b1++cR (zc b1 c)))]:=by refine bE Tryz.func13 rfl<|ac rfl Df ?_;exact ae (aN gT rfl aa)
theorem rf:cq 36 [.a ((cR a1++cR b1++cR a2++cR b2++cR c))] [.a ((cR a2++cR b2++cR (zc b2 c)))]:=by refine bE Tryz.func36 rfl<|ac rfl Df ?_;exact ae (aN gT rfl aa)
theorem tJ:cq 294 [.a ((cR a1++cR b1++cR a2++cR b2++cR c))] [.a ((cR a1++cR b1++cR a2++cR b2++cR (zcp b1 b2 c)))]:=by
 refine bE Tryz.func294 rfl<|ac rfl rK ?_;refine iN (aY rfl) (fun c1 I=>?_);cases c1
 .refine mL rfl<|ae ?_;rw[Lo (n8 I)];exact aN bb rfl aa
 .refine ac rfl rK ?_;refine dg rfl (fun j=>?_) (fun j=>?_)
  .refine ac rfl sC ?_;refine n6 (aV br rfl rfl rfl rfl (fU rfl) rfl rfl) ?_;apply ae;rw[Jk (rb I) (rb j)];exact aN bb rfl aa
  .apply ae;rw[LW (n8 j)];exact aN bb rfl aa
theorem Mf:cq 86 [.a ((cR v++cR w))] [.a ((cR v++cR 0++cR w++cR 0++cR 0))]:=by refine dP Tryz.func86 11 [.cell 2 42] rfl<|ab<|ag<|ab<|ou 8 rfl rfl<|eJ 1<|bp (jj (cR v) br rfl)<|bp (iW rfl sC)<|eJ 1<|bp (jj (cR w) br rfl)<|bp (iW rfl sC)<|bp (iW rfl sC)<|bp (am D7 Bb rfl rfl rfl) ?_;refine mD<|eP<|gm<|aU ?_;exact ae (aN bb rfl aa)
theorem wd:cq 182 [] [dR 0]:=by refine bE Tryz.func182 rfl<|ac rfl (rL (by omega) (by omega)) ?_;apply ae;rw[Od];exact aN br rfl aa
theorem Ev:cq 175 [] [dR 0]:=by refine bE Tryz.func175 rfl<|ac rfl (rL (by omega) (by omega)) ?_;apply ae;rw[Od];exact aN br rfl aa
theorem oJ:cq 93 [dR a] [.a ((cR a++cR 0++cR 0))]:=by refine bE Tryz.func93 rfl<|cm 4 [] ?_;refine aw rfl Ev ?_;refine aw rfl Ev ?_;refine aq (am wO wm rfl rfl rfl) ?_;exact ae (aN gT rfl aa)
theorem C3:cq 282 [dR a,dR b,dR c] [.a ((cR a++cR b++cR (zc b c)))]:=by
 refine bE Tryz.func282 rfl<|ac rfl pf ?_;refine dg rfl (fun j=>?_) (fun j=>?_)
 .refine ac rfl oJ ?_;have e:=rb j;subst e;apply ae;rw[D6 rfl];exact aN gT rfl aa
 .refine ar (am wO wm rfl rfl rfl) ?_;apply ae;rw[j6 (n8 j)];exact aN gT rfl aa
theorem AE:cq 209 [.a ((cR a1++cR b1++cR a2++cR b2++cR c))] [.a ((cR a1++cR b1++cR (zc b1 c)))]:=by refine bE Tryz.func209 rfl<|ac rfl C3 ?_;exact ae (aN gT rfl aa)
theorem G0:cq 210 [.a ((cR a1++cR b1++cR a2++cR b2++cR c))] [.a ((cR a2++cR b2++cR (zc b2 c)))]:=by refine bE Tryz.func210 rfl<|ac rfl C3 ?_;exact ae (aN gT rfl aa)
theorem km:cq 99 [dR a1,dR b1,dR a2,dR b2,dR c] [.a ((cR a1++cR b1++cR a2++cR b2++cR (zcp b1 b2 c)))]:=by
 refine dP Tryz.func99 26 [.cell 10 42] rfl<|ab<|ag<|ab<|ab<|ag ?_;refine ac rfl pf ?_;refine iN (aY rfl) (fun c1 I=>?_);cases c1
 .refine ck rfl<|aA<|ab<|bN<|cZ 5<|bj (am (us:=(cR a1++cR b1++cR a2++cR b2++cR c)) D7 Bb rfl rfl rfl) ?_;refine gm<|aU ?_;rw[Lo (n8 I)];exact ae (aN bb rfl aa)
 .refine ac rfl pf ?_;refine aJ rfl (fun j=>?_) (fun j=>?_)
  .refine ag<|ac rfl wd ?_;refine ab<|bN<|cZ 5 ?_;refine bj (am D7 Bb rfl rfl rfl) ?_;refine gm<|aU ?_;rw[Jk (rb I) (rb j)];exact ae (aN bb rfl aa)
  .refine aA<|ab<|bN<|cZ 5<|bj (am (us:=(cR a1++cR b1++cR a2++cR b2++cR c)) D7 Bb rfl rfl rfl) ?_;refine gm<|aU ?_;rw[LW (n8 j)];exact ae (aN bb rfl aa)
theorem tj:cq 200 [.a ((cR v++cR w))] [.a ((cR v++cR 0++cR w++cR 0++cR 0))]:=by refine dP Tryz.func200 11 [.cell 2 42] rfl<|ab<|ag<|ab<|ou 8 rfl rfl<|eJ 1<|bp (jj (cR v) br rfl)<|bp (iW rfl wd)<|eJ 1<|bp (jj (cR w) br rfl)<|bp (iW rfl wd)<|bp (iW rfl wd)<|bp (am D7 Bb rfl rfl rfl) ?_;refine mD<|eP<|gm<|aU ?_;exact ae (aN bb rfl aa)
def ud (x:Int):Bool:=decide (-9223372036854775808<=x)&&decide (x<=9223372036854775807)
theorem ab7 {x:Int}(h:x< -9223372036854775808):ud x=false:=by unfold ud;rw[decide_eq_false (by omega)];rfl
theorem abQ {x:Int}(h:9223372036854775807<x):ud x=false:=by unfold ud;rw[decide_eq_false (p:=x<=9223372036854775807) (by omega),sE]
theorem LA {x:Int}(h: ¬x< -9223372036854775808) (j: ¬9223372036854775807<x):ud x=true:=by unfold ud;rw[decide_eq_true (by omega),decide_eq_true (by omega)];rfl
theorem Xv {x:Int}:ud x=true↔ -9223372036854775808<=x/\x<=9223372036854775807:=by unfold ud;simp
theorem aa8 (h0:1<=r) (h1:r<=9223372036854775808):IntKind.u64.wrap (0-r)=18446744073709551616-r:=by unfold IntKind.wrap;simp[IntKind.bits,IntKind.signed];omega
theorem ac8 (h0:1<=r) (h1:r<=9223372036854775808):IntKind.i64.wrap (18446744073709551616-r)= -r:=by unfold IntKind.wrap;simp[IntKind.bits,IntKind.signed];omega
theorem ww [Decidable p] (h:decide p=true):p:=by simpa using h
theorem om [Decidable p] (h:decide p=false): ¬p:=by simpa using h
theorem dK {b:Bool}(h:(!b)=false):b=true:=by simpa using h
theorem gK {b:Bool}(h:(!b)=true):b=false:=by simpa using h
def vn (lo hi:Int):Bool:=decide (-2305843009213693952<=lo)&&decide (hi<=2305843009213693952)
theorem agS (h:lo< -2305843009213693952):vn lo hi=false:=by unfold vn;rw[decide_eq_false (by omega)];rfl
theorem afs (h:hi>2305843009213693952):vn lo hi=false:=by unfold vn;rw[decide_eq_false (p:=hi<=2305843009213693952) (by omega),sE]
theorem Zn (h: ¬lo< -2305843009213693952) (j: ¬hi>2305843009213693952):vn lo hi=true:=by unfold vn;rw[decide_eq_true (by omega),decide_eq_true (by omega)];rfl
def jF (a:Rat):Int:=(a*((65536:Int):Rat)).num.fdiv ((a*((65536:Int):Rat)).den:Int)
def jd (a:Rat):Int:= -((-(a*((65536:Int):Rat))).num.fdiv ((-(a*((65536:Int):Rat))).den:Int))
def iE (a:Rat):Bool:=ud (jF a)&&(ud (jd a)&&vn (jF a) (jd a))
theorem vD {x:Int}(hx:Sz 100000000 x):cq 163 [dI x] [.c (.i .i64 (if ud x then x else 0)),.c (.b (ud x))]:=by
 refine dP Tryz.func163 39 [.tmp 2,.tmp 3] rfl<|ab<|ag<|ab<|ab<|fS 10 [] ?_;refine aw rfl (mz (by omega) (by omega))<|aw rfl mH ?_;refine zQ (aY rfl) (fun c1 a3=>?_);cases c1
 .refine aw rfl (mz (by omega) (by omega))<|aw rfl mH ?_;refine aJ rfl (fun V=>?_) (fun V=>?_)
  .refine ab<|ag<|aU ?_;rw[abQ (ah2 V),if_neg (by decide)];exact ae (aj (aj aa))
  .have a4:=acy a3;have W:=aiu V;have a6:=hJ hx;refine aA<|ab<|ag<|ab<|ab<|ag ?_;refine ar (ca ((((dr x.natAbs).length:Int))-1) (bq (by omega) (by omega)) rfl) ?_;refine aM<|bK (ι:={t:Nat×Int // ShInv (dr x.natAbs) t.1 t.2}) (fun i=>⟨39,[(1,.p 1 0),(4,.v (.c (.i .u64 i.1.2))),(5,.v (.c (.i .i64 ((i.1.1:Int)-1))))],[(1,38,cI x)]⟩) (fun i=>i.1.1) ⟨((dr x.natAbs).length,0),⟨Nat.le_refl _,qG 0,by rw[pP];simp⟩⟩ (au (bt rfl) ⟨rfl,trivial⟩ rfl) ?_;rintro⟨⟨j,r⟩,R⟩;have g5:=R.le;have g3:=R.r0;have g4:=R.bound (bL _);rw[bZ] at g4;dsimp only;refine ab<|ab<|ag ?_;refine aJ rfl (fun J=>?_) (fun J=>?_)
   .obtain⟨q,rfl⟩: ∃q,j=q+1:=⟨j-1,by have:=ww J;omega⟩;have hS:=R.step (bL _);have hB:=hS.bound (bL _);have g1:=dm (bL x.natAbs) q;rw[bZ] at hB;refine pG (σ':=⟨39,[(1,.p 1 0),(4,.v (.c (.i .u64 r))),(5,.v (.c (.i .i64 (q:Int))))],[(1,38,cI x)]⟩) (au ⟨rfl,rfl,by rw[show(q:Int)=((q+1:Nat):Int)-1 from by omega];rfl,trivial⟩ ⟨rfl,trivial⟩ rfl) ?_;refine aA<|ab<|aM<|ag ?_;refine ar (ca (r*1000000000) (iC (by omega) (by omega)) rfl) ?_;refine ar (cg jq rfl rfl (by omega) (jE _) rfl rfl) ?_;refine ar (cS fK rfl (kw (i:=q) (by omega)) rfl) ?_;refine ar (bi jK fQ rfl (i9 (by omega) (by omega)) rfl) ?_;refine ar (ca ((r*1000000000)+((dr x.natAbs).getD q 0)) (fR (by omega) (by omega)) rfl) ?_;refine ag ?_;refine ar (ca ((q:Int)-1) (bq (by omega) (by omega)) rfl) ?_;exact⟨⟨(q,r*1000000000+(dr x.natAbs).getD q 0),hS⟩,au (bt rfl) ⟨rfl,trivial⟩ rfl,by show q<q+1;omega⟩
   .have hz:j=0:=by have:=om J;omega
    have a5:(x.natAbs:Int)=r:=by subst hz;have:=R.v;rw[bZ] at this;simp[val,tL] at this;omega
    refine bH<|ab<|ab<|ag ?_;refine aJ rfl (fun I=>?_) (fun I=>?_)
    .have hn:=ww I;refine ag<|ar (fG rfl (aa8 (by omega) (by omega)) rfl) ?_;refine ab<|ag<|ar (bi (r:=x) fQ p9 rfl (by rw[ac8 (by omega) (by omega)];omega) rfl) ?_;apply aU;rw[LA a4 W,if_pos rfl];exact ae (aj (aj aa))
    .have hn:=om I;refine aA<|ab<|ag<|ar (bi (r:=x) fQ p9 rfl (by rw[<-a5];rw[lq (by omega) (by omega)];omega) rfl) ?_;apply aU;rw[LA a4 W,if_pos rfl];exact ae (aj (aj aa))
 .refine fp rfl<|ab<|ag<|aU ?_;rw[ab7 (abN a3),if_neg (by decide)];exact ae (aj (aj aa))
theorem tg {x y:Int}:cq 166 [.c (.i .i64 x),.c (.i .i64 y)] [.a (([.i .i64 (if vn x y then x else 0)]++[.i .i64 (if vn x y then y else 0)])),.c (.b (vn x y))]:=by
 apply bE Tryz.func166 rfl;refine iN (aY rfl) (fun c1 I=>?_);cases c1
 .refine dg rfl (fun j=>?_) (fun j=>?_)
  .refine ar (am wi vh rfl rfl rfl) ?_;apply ae;rw[afs (ww j),if_neg (by decide),if_neg (by decide)];exact aN mO rfl (aj aa)
  .refine ar (am wi vh rfl rfl rfl) ?_;apply ae;rw[Zn (om I) (om j),if_pos rfl,if_pos rfl];exact aN mO rfl (aj aa)
 .refine n7 rfl<|ar (am wi vh rfl rfl rfl) ?_;apply ae;rw[agS (ww I),if_neg (by decide),if_neg (by decide)];exact aN mO rfl (aj aa)
def p7 (s t c:Int):Int:=if t=0\/s=t then s else if s=0 then t else s*c
def b8 (a b m:Rat):Int:=p7 (aG a 0) (aG b 0*aG m 0) (aG (a*a) (b*b*m))
def EC (A B C D M N:Rat):Rat:=A*A+B*B*M-N*(C*C+D*D*M)
def wy (A B C D N:Rat):Rat:=A*B-N*(C*D)
def mY (A B C D M N:Rat):Int:=if M<0\/N<0 then 0 else p7 (b8 A B M) (b8 C D M*aG N 0) (b8 (EC A B C D M N) (wy A B C D N+wy A B C D N) M)
theorem yJ {c:Int}(h:(s==0)=true):p7 s t c=t:=by unfold p7;grind
theorem yb {c:Int}(h:(t==0)=true):p7 s t c=s:=by
 have h:t=0:=by grind
 unfold p7;rw[if_pos (.inl h)]
theorem ym {c:Int}(h:(s==t)=true):p7 s t c=s:=by
 have h:s=t:=by grind
 unfold p7;rw[if_pos (.inr h)]
theorem xU {c:Int}(h1:(s==0)=false) (j:(t==0)=false) (I:(s==t)=false):p7 s t c=s*c:=by
 have h1:s≠0:=by grind
 have j:t≠0:=by grind
 have I:s≠t:=by grind
 unfold p7;rw[if_neg (by omega),if_neg h1]
theorem dH (x y:Rat): -1<=aG x y/\aG x y<=1:=by
 unfold aG;split;·omega
 .split<;>omega
theorem go (h: -1<=s/\s<=1) (j: -1<=t/\t<=1): -1<=s*t/\s*t<=1:=by
 have hs:s= -1\/s=0\/s=1:=by omega
 grind
theorem Oi {c:Int}(h: -1<=s/\s<=1) (I: -1<=t/\t<=1) (j: -1<=c/\c<=1): -1<=p7 s t c/\p7 s t c<=1:=by
 unfold p7;split;·exact h
 .split;·grind
  .exact go h j
theorem il (a b m:Rat): -1<=b8 a b m/\b8 a b m<=1:=Oi (dH _ _) (go (dH _ _) (dH _ _)) (dH _ _)
theorem Il (h:decide (aG x 0<0)=true):x<0:=Km.1 (by simpa using h)
theorem EP (h:decide (aG x 0<0)=false): ¬x<0:=fun e=>by have:=Km.2 e;simp at h;omega
theorem Np {B:Rat}(h:M<0\/N<0):mY A B C D M N=0:=by unfold mY;rw[if_pos h]
theorem vZ {B:Rat}(h: ¬M<0) (j: ¬N<0):mY A B C D M N=p7 (b8 A B M) (b8 C D M*aG N 0) (b8 (EC A B C D M N) (wy A B C D N+wy A B C D N) M):=by unfold mY;rw[if_neg (fun e=>e.elim h j)]
theorem pv {m:Rat}(V:Rz 2000000 a) (I:Rz 2000000 b) (hm:Rz 2000000 m):cq 44 [dR a,dR b,dR m] [.c (.i .i64 (b8 a b m))]:=by
 have ka:Rz 6000000 a:=V.m_;have kb:Rz 6000000 b:=I.m_;have hp:=go (dH b 0) (dH m 0);have W:=go (dH a 0) (dH (a*a) (b*b*m));refine bE Tryz.func44 rfl<|cm 9 [] ?_;refine aw rfl bU ?_;refine aw rfl bU ?_;refine aw rfl bU ?_;refine aq (ca ((aG b 0)*(aG m 0)) (dz (by omega) (by omega)) rfl) ?_;refine iN (aY rfl) (fun c1 R=>?_);cases c1
 .refine dg rfl (fun J=>?_) (fun J=>?_)
  .apply ae;unfold b8;rw[ym J];exact aj aa
  .refine dg rfl (fun j=>?_) (fun j=>?_)
   .apply ae;unfold b8;rw[yJ j];exact aj aa
   .apply cm 12 [];refine aw rfl (dd (az V) (az V)) ?_;refine aw rfl (dd (az I) (az I)) ?_;refine aw rfl (dd (az (al I I)) (az hm)) ?_;refine aw rfl (jG (az (al V V)) (az (al (al I I) hm))) ?_;refine aq (ca ((aG a 0)*(aG (a*a) ((b*b)*m))) (dz (by omega) (by omega)) rfl)<|ae ?_;unfold b8;rw[xU j R J];exact aj aa
 .refine n7 rfl<|ae ?_;unfold b8;rw[yb R];exact aj aa
theorem xY {m:Rat}(ha:Rz 2000000 a) (J:Rz 2000000 b) (hm:Rz 2000000 m):cq 324 [dR a,dR b,dR m] [.c (.i .i64 (b8 a b m))]:=by
 have ka:Rz 6000000 a:=ha.m_;have kb:Rz 6000000 b:=J.m_;have hp:=go (dH b 0) (dH m 0);have a4:=go (dH a 0) (dH (a*a) (b*b*m));refine bE Tryz.func324 rfl<|cm 9 [] ?_;refine aw rfl b9 ?_;refine aw rfl b9 ?_;refine aw rfl b9 ?_;refine aq (ca ((aG b 0)*(aG m 0)) (dz (by omega) (by omega)) rfl) ?_;refine iN (aY rfl) (fun c1 j=>?_);cases c1
 .refine iN (aY rfl) (fun c2 R=>?_);cases c2
  .refine dg rfl (fun I=>?_) (fun I=>?_)
   .refine dg rfl (fun W=>?_) (fun W=>?_);·exact absurd W (by rw[j];decide)
    .apply ae;unfold b8;rw[ym I];exact aj aa
   .apply cm 12 [];refine aw rfl (dw (az ha) (az ha)) ?_;refine aw rfl (dw (az J) (az J)) ?_;refine aw rfl (dw (az (al J J)) (az hm)) ?_;refine aw rfl (iG (az (al ha ha)) (az (al (al J J) hm))) ?_;refine aq (ca ((aG a 0)*(aG (a*a) ((b*b)*m))) (dz (by omega) (by omega)) rfl)<|ae ?_;unfold b8;rw[xU j R I];exact aj aa
  .apply n7 rfl;refine dg rfl (fun a3=>?_) (fun a3=>?_);·exact absurd a3 (by rw[j];decide)
   .apply ae;unfold b8;rw[yb R];exact aj aa
 .refine ar (aY rfl)<|n7 rfl ?_;refine dg rfl (fun V=>?_) (fun V=>?_)
  .apply ae;unfold b8;rw[yJ j];exact aj aa
  .exact absurd j (by rw[V];decide)
theorem PK {B:Rat}(J:Rz 160000 A) (I:Rz 160000 B) (hC:Rz 160000 C) (j:Rz 160000 D) (R:Rz 160000 M) (hN:Rz 160000 N):cq 280 [.a ((cR A++cR B++cR C++cR D++cR M++cR N))] [.c (.i .i64 (mY A B C D M N))]:=by
 have z1:=go (il C D M) (dH N 0);have z2:=go (il A B M) (il (A*A+B*B*M-N*(C*C+D*D*M)) ((A*B-N*(C*D))+(A*B-N*(C*D))) M);apply bE Tryz.func280 rfl;refine ac rfl b9 ?_;refine iN (aY rfl) (fun c1 a4=>?_);cases c1
 .have n1:=EP a4;refine ac rfl b9 ?_;refine dg rfl (fun a3=>?_) (fun a3=>?_)
  .apply ae;rw[Np (.inr (Il a3))];exact aj aa
  .have n2:=EP a3;apply cm 20 [];refine aw rfl (xY (az J) (az I) (az R)) ?_;refine aw rfl (xY (az hC) (az j) (az R)) ?_;refine aw rfl b9 ?_;refine aq (ca ((b8 C D M)*(aG N 0)) (dz (by omega) (by omega)) rfl) ?_;refine iN (aY rfl) (fun c3 V=>?_);cases c3
   .refine iN (aY rfl) (fun c4 a9=>?_);cases c4
    .refine dg rfl (fun W=>?_) (fun W=>?_)
     .refine dg rfl (fun a5=>?_) (fun a5=>?_);·exact absurd a5 (by rw[V];decide)
      .apply ae;rw[vZ n1 n2,ym W];exact aj aa
     .apply cm 18 [];refine aw rfl (dw (az hC) (az hC)) ?_;refine aw rfl (dw (az j) (az j)) ?_;refine aw rfl (dw (az (al j j)) (az R)) ?_;refine aw rfl (gW (az (al hC hC)) (az (al (al j j) R))) ?_;refine aw rfl (dw (az hN) (az (dJ (al hC hC) (al (al j j) R))))<|cm 17 [] ?_;refine aw rfl (dw (az J) (az J)) ?_;refine aw rfl (dw (az I) (az I)) ?_;refine aw rfl (dw (az (al I I)) (az R)) ?_;refine aw rfl (gW (az (al J J)) (az (al (al I I) R))) ?_;refine aw rfl (jC (az (dJ (al J J) (al (al I I) R))) (az (al hN (dJ (al hC hC) (al (al j j) R)))))<|cm 15 [] ?_;refine aw rfl (dw (az J) (az I)) ?_;refine aw rfl (dw (az hC) (az j))<|aw rfl (dw (az hN) (az (al hC j)))<|aw rfl (jC (az (al J I)) (az (al hN (al hC j))))<|cm 10 [] ?_;refine aw rfl (gW (az (ak (al J I) (al hN (al hC j)))) (az (ak (al J I) (al hN (al hC j))))) ?_;refine aw rfl (xY (az (ak (dJ (al J J) (al (al I I) R)) (al hN (dJ (al hC hC) (al (al j j) R))))) (az (dJ (ak (al J I) (al hN (al hC j))) (ak (al J I) (al hN (al hC j))))) (az R)) ?_;refine aq (ca ((b8 A B M)*(b8 (((A*A)+((B*B)*M))-(N*((C*C)+((D*D)*M)))) (((A*B)-(N*(C*D)))+((A*B)-(N*(C*D)))) M)) (dz (by omega) (by omega)) rfl)<|ae ?_;rw[vZ n1 n2,xU V a9 W];exact aj aa
    .apply n7 rfl;refine dg rfl (fun b3=>?_) (fun b3=>?_);·exact absurd b3 (by rw[V];decide)
     .apply ae;rw[vZ n1 n2,yb a9];exact aj aa
   .refine ar (aY rfl)<|n7 rfl ?_;refine dg rfl (fun a6=>?_) (fun a6=>?_)
    .apply ae;rw[vZ n1 n2,yJ V];exact aj aa
    .exact absurd V (by rw[a6];decide)
 .refine n7 rfl<|ae ?_;rw[Np (.inl (Il a4))];exact aj aa
theorem Rh (j:Rz 6000000 a) (_R:Rz 6000000 b) (I:Rz 6000000 d) (J:Rz 6000000 e):cq 281 [.a ((cR a++cR b++cR c)),.a ((cR d++cR e++cR f))] [.a ((cR (a-d)++cR b++cR (-e)++cR 0++cR c++cR f))]:=by refine dP Tryz.func281 21 [.cell 4 116] rfl<|ab<|ag<|ab<|ou 16 rfl rfl<|eJ 1<|bp (jj (cR a) br rfl)<|eJ 1<|bp (jj (cR d) br rfl)<|bp (iW rfl (jC (az j) (az I)))<|eJ 1<|bp (jj (cR b) br rfl)<|eJ 1<|bp (jj (cR e) br rfl) ?_;refine bp (iW rfl (lg (az J)))<|bp (iW rfl ((show cq 30 [.c (.i .i64 0)] [dR 0] from wg (by omega) (by omega))))<|eJ 1<|bp (jj (cR c) br rfl)<|eJ 1<|bp (jj (cR f) br rfl)<|bp (am (us:=(cR (a-d)++cR b++cR (-e)++cR 0++cR c++cR f)) ZS R4 rfl rfl rfl) ?_;refine mD<|eP<|gm<|aU ?_;exact ae (aN aaq rfl aa)
theorem Jp (I:Rz 60000 a) (R:Rz 60000 b) (W:Rz 60000 c) (j:Rz 60000 d) (V:Rz 60000 e) (J:Rz 60000 f):cq 208 [.a ((cR a++cR b++cR c)),.a ((cR d++cR e++cR f))] [.c (.i .i64 (mY (a-d) b (-e) 0 c f))]:=by have ka:Rz 6000000 a:=I.m_;have ma:Rz 160000 a:=I.m_;have kb:Rz 6000000 b:=R.m_;have mb:Rz 160000 b:=R.m_;have kc:Rz 6000000 c:=W.m_;have mc:Rz 160000 c:=W.m_;have kd:Rz 6000000 d:=j.m_;have md:Rz 160000 d:=j.m_;have ke:Rz 6000000 e:=V.m_;have me:Rz 160000 e:=V.m_;have kf:Rz 6000000 f:=J.m_;have mf:Rz 160000 f:=J.m_;have m1:Rz 160000 (a-d):=(I.sub j).m_;have m2:Rz 160000 (-e):=me.neg;have m0:Rz 160000 (0:Rat):=Rz.int (e8 (by decide) (by decide) (by decide)) (by decide);apply bE Tryz.func208 rfl;refine ac rfl (Rh ‹_› ‹_› ‹_› ‹_›) ?_;refine ac rfl (PK ‹_› ‹_› ‹_› ‹_› ‹_› ‹_›) ?_;exact ae (aj aa)
theorem t9 (I:Rz 6000000 a):cq 115 [dR a] [dR a]:=by
 refine bE Tryz.func115 rfl<|ac rfl (de (az I))<|ac rfl (de (az (Rz.neg I))) ?_;have j:dR a=dR (-(-a)):=by rw[Rat.neg_neg]
 apply ae;rw[j];exact aN br rfl aa
theorem IE (J:Rz 6000000 a) (I:Rz 6000000 b) (R:Rz 6000000 c) (j:Rz 6000000 d) (V:Rz 6000000 e) (W:Rz 6000000 f):cq 47 [.a ((cR a++cR b++cR c)),.a ((cR d++cR e++cR f))] [.a ((cR (a-d)++cR b++cR (-e)++cR 0++cR c++cR f))]:=by refine dP Tryz.func47 24 [.cell 4 116] rfl<|ab<|ag<|ab<|ou 19 rfl rfl<|eJ 1<|bp (jj (cR a) br rfl)<|eJ 1<|bp (jj (cR d) br rfl)<|bp (iW rfl (jS (az J) (az j)))<|eJ 1<|bp (jj (cR b) br rfl)<|bp (iW rfl (t9 (az I)))<|eJ 1 ?_;refine bp (jj (cR e) br rfl)<|bp (iW rfl (de (az V)))<|bp (iW rfl ((show cq 87 [.c (.i .i64 0)] [dR 0] from oY (by omega) (by omega))))<|eJ 1<|bp (jj (cR c) br rfl)<|bp (iW rfl (t9 (az R)))<|eJ 1<|bp (jj (cR f) br rfl)<|bp (iW rfl (t9 (az W)))<|bp (am (us:=(cR (a-d)++cR b++cR (-e)++cR 0++cR c++cR f)) ZS R4 rfl rfl rfl) ?_;refine mD<|eP<|gm<|aU ?_;exact ae (aN aaq rfl aa)
def rB (b c:Rat):Rat:=if b=0\/c=0 then 0 else b
def rC (b c:Rat):Rat:=if b=0\/c=0 then 0 else c
theorem XU (h:b=0\/c=0):rB b c=0:=by unfold rB;rw[if_pos h]
theorem V1 (h:b=0\/c=0):rC b c=0:=by unfold rC;rw[if_pos h]
theorem ahW (h:b≠0) (j:c≠0):rB b c=b:=by unfold rB;rw[if_neg (fun e=>e.elim h j)]
theorem ahY (h:b≠0) (j:c≠0):rC b c=c:=by unfold rC;rw[if_neg (fun e=>e.elim h j)]
def s3 (a b c:Rat):Int:=if aG a 0=aG b 0\/aG b 0=0 then aG a 0 else if aG a 0=0 then aG b 0 else if 0<a*a-b*b*c then aG a 0 else aG b 0
theorem ahp (h:(aG a 0==aG b 0)=true):s3 a b c=aG a 0:=by unfold s3;rw[if_pos (.inl (by simpa using h))]
theorem ahJ (h:(aG b 0==0)=true):s3 a b c=aG a 0:=by unfold s3;rw[if_pos (.inr (by simpa using h))]
theorem ac0 (h:(aG a 0==aG b 0)=false) (j:(aG b 0==0)=false):s3 a b c=if aG a 0=0 then aG b 0 else if 0<a*a-b*b*c then aG a 0 else aG b 0:=by unfold s3;rw[if_neg (fun e=>e.elim (by simpa using h) (by simpa using j))]
theorem aho (h:decide (aG x 0>0)=true):0<x:=Ko.1 (by simpa using h)
theorem aek (h:decide (aG x 0>0)=false): ¬0<x:=fun e=>by have:=Ko.2 e;simp at h;omega
theorem i_eq (h:(s==t)=true):s=t:=by simpa using h
theorem afO (h:(s==t)=false):s≠t:=by simpa using h
theorem QJ (I: ¬MT b c e f) (h1:b≠0) (j:e≠0):(aG c f==0)=true:=by rw[r_eqb'];exact kU fun h=>I ⟨h1,j,h⟩
where
 r_eqb' {x y:Rat}:((aG x y==0)=true)=(x=y):=by rw[beq_iff_eq];exact propext r7
end
end Go.Proofs.YtegeknjkgadehaaGreat
