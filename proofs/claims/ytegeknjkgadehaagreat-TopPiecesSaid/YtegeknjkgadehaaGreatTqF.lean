/-The types of this program,as the walks ask of them. -/
import Derived.Test.YtegeknjkgadehaaGreatTqE
import Derived.Test.YtegeknjkgadehaaGreatProg
namespace Go.Proofs.YtegeknjkgadehaaGreat
open Go Go.RowKit
variable {eO:Array Oper}{B:BF}{z:CellD}{Q:Exit->St->Prop}{S a b c d m r u v x y:Int}{ki:IntKind}{tm:List (Nat×DV)}{bx nb:List (Nat×TypeId×List CellD)}{cs:List CellD}{p q rs xs ys zs:List Int}{hs sd:List Nat}{l os pre tail:List Oper}{by_ i id j k n:Nat}{op:Op}{P:Program}{s:SA}{σ:St}{K:St->Prop}{T:TF}{U e t1 t2 xt yt:TypeId}
variable {ty:TypeId}{pos:String}{af:Array Edge}{g:Option (Nat×Bool)}{dst:Option Nat}
theorem dP:type_of% @Ok.fn:=@Ok.fn
theorem ku:type_of% @Int.tmod_eq_emod_of_nonneg:=@Int.tmod_eq_emod_of_nonneg
theorem qS:type_of% @Int.fdiv_eq_ediv_of_nonneg:=@Int.fdiv_eq_ediv_of_nonneg
theorem rH:type_of% @List.forall_mem_cons:=@List.forall_mem_cons
theorem t6:type_of% @Int.tdiv_eq_ediv_of_nonneg:=@Int.tdiv_eq_ediv_of_nonneg
theorem uR:type_of% @Int.mul_zero:=@Int.mul_zero
theorem uM:type_of% @Int.mul_ediv_add_emod:=@Int.mul_ediv_add_emod
theorem xk:type_of% @List.take_take:=@List.take_take
theorem zp:type_of% @Int.eq_ofNat_of_zero_le:=@Int.eq_ofNat_of_zero_le
theorem d9:Tryz.prog.follows .mixedOrders=true:=by kernel_rfl
theorem dX:Tryz.prog.underlying 4=some .bool:=by kernel_rfl
theorem ou (m:Nat) (D:l.take m=pre) (A:l.drop m=tail) (h:dq Tryz.prog l.toArray [] pre ⟨σ,[],[]⟩ fun s=>dl Tryz.prog l.toArray tail s.merge (Q .normal)) (I:KI l.toArray m σ.n=true:=by kernel_rfl):Dw Tryz.prog (.region id l.toArray true) σ Q:=qo m [] d9 I D A h
theorem Ze:uV Tryz.prog 204=some (2,1,8,[.i .i64 0]):=by kernel_rfl
theorem vx:uV Tryz.prog 30=some (53,66,1040,[.b false,.b false,.s 0 [],.b false,.s 0 [],.b false,.s 0 [],.b false,.s 0 [],.b false,.s 0 [],.b false,.s 0 [],.b false,.s 0 [],.b false,.s 0 [],.b false,.s 0 [],.b false,.s 0 [],.b false,.s 0 [],.b false,.s 0 [],.b false,.b false,.s 0 [],.b false,.s 0 [],.b false,.s 0 [],.b false,.s 0 [],.b false,.s 0 [],.b false,.s 0 [],.b false,.s 0 [],.b false,.s 0 [],.b false,.s 0 [],.b false,.s 0 [],.b false,.s 0 [],.b false,.s 0 [],.b false,.s 0 [],.b false,.s 0 [],.b false,.s 0 [],.b false,.s 0 [],.b false,.s 0 [],.b false,.s 0 [],.b false,.s 0 [],.b false,.s 0 []]):=by kernel_rfl
theorem wZ:uV Tryz.prog 36=some (255,1,4,[.i .u32 0]):=by kernel_rfl
theorem iw:uV Tryz.prog 71=some (42,20,320,[.b false,.s 0 [],.b false,.s 0 [],.b false,.s 0 [],.b false,.s 0 [],.b false,.s 0 [],.b false,.s 0 [],.b false,.s 0 [],.b false,.s 0 [],.b false,.s 0 [],.b false,.s 0 []]):=by kernel_rfl
theorem UY:VA Tryz.prog 53 4=some 26:=by kernel_rfl
theorem TK:VA Tryz.prog 53 5=some 46:=by kernel_rfl
theorem ZS:H4 Tryz.prog 116=some [(0,4),(4,4),(8,4),(12,4),(16,4),(20,4)]:=by kernel_rfl
theorem af6:H4 Tryz.prog 224=some [(0,1)]:=by kernel_rfl
theorem J0:H4 Tryz.prog 244=some [(0,1),(1,12)]:=by kernel_rfl
theorem KY:H4 Tryz.prog 38=some [(0,1),(1,1)]:=by kernel_rfl
theorem wh:H4 Tryz.prog 40=some [(0,2),(2,2)]:=by kernel_rfl
theorem D7:H4 Tryz.prog 42=some [(0,4),(4,4),(8,4),(12,4),(16,4)]:=by kernel_rfl
theorem qa:H4 Tryz.prog 45=some [(0,4),(4,4)]:=by kernel_rfl
theorem P6:H4 Tryz.prog 49=some [(0,4),(4,4),(8,4)]:=by kernel_rfl
theorem adH:H4 Tryz.prog 51=some [(0,4),(4,4),(8,4)]:=by kernel_rfl
theorem Lw:H4 Tryz.prog 53=some [(0,1),(1,12),(13,12),(25,1),(26,20),(46,20)]:=by kernel_rfl
theorem wO:H4 Tryz.prog 59=some [(0,4),(4,4),(8,4)]:=by kernel_rfl
theorem wi:H4 Tryz.prog 89=some [(0,1),(1,1)]:=by kernel_rfl
theorem Oy:pT Tryz.prog 204=some 1:=by kernel_rfl
theorem pW:pT Tryz.prog 30=some 66:=by kernel_rfl
theorem jq:pT Tryz.prog 36=some 1:=by kernel_rfl
theorem fr:pT Tryz.prog 71=some 20:=by kernel_rfl
theorem aaq:mT Tryz.prog 116=some (true,24):=by kernel_rfl
theorem ty2:mT Tryz.prog 2=some (false,1):=by kernel_rfl
theorem JR:mT Tryz.prog 24=some (false,1):=by kernel_rfl
theorem tV:mT Tryz.prog 244=some (true,13):=by kernel_rfl
theorem agb:mT Tryz.prog 25=some (false,1):=by kernel_rfl
theorem fK:mT Tryz.prog 255=some (false,1):=by kernel_rfl
theorem aid:mT Tryz.prog 27=some (true,6):=by kernel_rfl
theorem Yd:mT Tryz.prog 3=some (false,1):=by kernel_rfl
theorem fl:mT Tryz.prog 38=some (true,2):=by kernel_rfl
theorem gC:mT Tryz.prog 4=some (false,1):=by kernel_rfl
theorem br:mT Tryz.prog 40=some (true,4):=by kernel_rfl
theorem bb:mT Tryz.prog 42=some (true,20):=by kernel_rfl
theorem YJ:mT Tryz.prog 45=some (true,8):=by kernel_rfl
theorem rG:mT Tryz.prog 49=some (true,12):=by kernel_rfl
theorem wl:mT Tryz.prog 5=some (false,1):=by kernel_rfl
theorem n9:mT Tryz.prog 51=some (true,12):=by kernel_rfl
theorem ba:mT Tryz.prog 53=some (true,66):=by kernel_rfl
theorem gT:mT Tryz.prog 59=some (true,12):=by kernel_rfl
theorem l9:mT Tryz.prog 64=some (false,1):=by kernel_rfl
theorem WI:mT Tryz.prog 66=some (true,8):=by kernel_rfl
theorem XA:mT Tryz.prog 68=some (true,17):=by kernel_rfl
theorem mO:mT Tryz.prog 89=some (true,2):=by kernel_rfl
theorem p9:Tryz.prog.underlying 2=some (.int .i64):=by kernel_rfl
theorem fQ:Tryz.prog.underlying 210=some (.int .u64):=by kernel_rfl
theorem A8:Tryz.prog.underlying 24=some (.int .i16):=by kernel_rfl
theorem ZP:Tryz.prog.underlying 25=some (.int .u16):=by kernel_rfl
theorem jK:Tryz.prog.underlying 255=some (.int .u32):=by kernel_rfl
theorem aiN:Tryz.prog.underlying 3=some (.int .i64):=by kernel_rfl
theorem Wy:Tryz.prog.underlying 5=some (.int .u8):=by kernel_rfl
theorem agk:Tryz.prog.underlying 64=some (.int .i8):=by kernel_rfl
theorem R4:Cq Tryz.prog 116=some [.b false,.s 0 [],.b false,.s 0 [],.b false,.s 0 [],.b false,.s 0 [],.b false,.s 0 [],.b false,.s 0 [],.b false,.s 0 [],.b false,.s 0 [],.b false,.s 0 [],.b false,.s 0 [],.b false,.s 0 [],.b false,.s 0 []]:=by kernel_rfl
theorem afP:Cq Tryz.prog 224=some [.b false]:=by kernel_rfl
theorem Fp:Cq Tryz.prog 244=some [.i .i64 0,.b false,.s 0 [],.b false,.s 0 [],.b false,.s 0 [],.b false,.s 0 [],.b false,.s 0 [],.b false,.s 0 []]:=by kernel_rfl
theorem ae6:Cq Tryz.prog 287=some [.i .i64 0,.b false,.s 0 [],.b false,.s 0 [],.b false,.s 0 [],.b false,.s 0 [],.b false,.s 0 [],.b false,.s 0 []]:=by kernel_rfl
theorem aiM:Cq Tryz.prog 32=some [.s 0 []]:=by kernel_rfl
theorem DY:Cq Tryz.prog 38=some [.b false,.s 0 []]:=by kernel_rfl
theorem uL:Cq Tryz.prog 40=some [.b false,.s 0 [],.b false,.s 0 []]:=by kernel_rfl
theorem Bb:Cq Tryz.prog 42=some [.b false,.s 0 [],.b false,.s 0 [],.b false,.s 0 [],.b false,.s 0 [],.b false,.s 0 [],.b false,.s 0 [],.b false,.s 0 [],.b false,.s 0 [],.b false,.s 0 [],.b false,.s 0 []]:=by kernel_rfl
theorem pm:Cq Tryz.prog 45=some [.b false,.s 0 [],.b false,.s 0 [],.b false,.s 0 [],.b false,.s 0 []]:=by kernel_rfl
theorem OL:Cq Tryz.prog 49=some [.b false,.s 0 [],.b false,.s 0 [],.b false,.s 0 [],.b false,.s 0 [],.b false,.s 0 [],.b false,.s 0 []]:=by kernel_rfl
theorem Yb:Cq Tryz.prog 51=some [.b false,.s 0 [],.b false,.s 0 [],.b false,.s 0 [],.b false,.s 0 [],.b false,.s 0 [],.b false,.s 0 []]:=by kernel_rfl
theorem Ba:Cq Tryz.prog 53=some [.b false,.b false,.s 0 [],.b false,.s 0 [],.b false,.s 0 [],.b false,.s 0 [],.b false,.s 0 [],.b false,.s 0 [],.b false,.s 0 [],.b false,.s 0 [],.b false,.s 0 [],.b false,.s 0 [],.b false,.s 0 [],.b false,.s 0 [],.b false,.b false,.s 0 [],.b false,.s 0 [],.b false,.s 0 [],.b false,.s 0 [],.b false,.s 0 [],.b false,.s 0 [],.b false,.s 0 [],.b false,.s 0 [],.b false,.s 0 [],.b false,.s 0 [],.b false,.s 0 [],.b false,.s 0 [],.b false,.s 0 [],.b false,.s 0 [],.b false,.s 0 [],.b false,.s 0 [],.b false,.s 0 [],.b false,.s 0 [],.b false,.s 0 [],.b false,.s 0 []]:=by kernel_rfl
theorem wm:Cq Tryz.prog 59=some [.b false,.s 0 [],.b false,.s 0 [],.b false,.s 0 [],.b false,.s 0 [],.b false,.s 0 [],.b false,.s 0 []]:=by kernel_rfl
theorem vh:Cq Tryz.prog 89=some [.i .i64 0,.i .i64 0]:=by kernel_rfl
def fO {A:Type}(U n:Nat) (x y:Option A):Option A:=bif Nat.blt U n then x else y
def jx {A:Type}(U n:Nat) (x:A):Option A:=bif Nat.beq U n then some x else none
def vC (U n:Nat) (x:Option Nat):Option Nat:=bif Nat.beq U n then x else none
def jY:List Nat->Nat->Option Nat
 |[],_=>none
 |x::_,0=>some x
 |_::l,i+1=>jY l i
def tyF (U:Nat):Option (Bool×Nat):=fO U 59 (fO U 31 (fO U 12 (fO U 6 (fO U 4 (fO U 3 (jx U 2 (false,1)) (jx U 3 (false,1))) (fO U 5 (jx U 4 (false,1)) (jx U 5 (false,1)))) (fO U 10 (fO U 9 (jx U 6 (false,1)) (jx U 9 (false,1))) (fO U 11 (jx U 10 (false,1)) (jx U 11 (false,1))))) (fO U 24 (fO U 22 (fO U 21 (jx U 12 (false,1)) (jx U 21 (false,1))) (fO U 23 (jx U 22 (false,1)) (jx U 23 (false,1)))) (fO U 27 (fO U 25 (jx U 24 (false,1)) (jx U 25 (false,1))) (fO U 29 (jx U 27 (true,6)) (fO U 30 (jx U 29 (true,3)) (jx U 30 (false,1))))))) (fO U 44 (fO U 39 (fO U 36 (fO U 32 (jx U 31 (true,1)) (jx U 32 (true,1))) (fO U 38 (jx U 36 (false,1)) (jx U 38 (true,2)))) (fO U 41 (fO U 40 (jx U 39 (true,4)) (jx U 40 (true,4))) (fO U 42 (jx U 41 (true,20)) (jx U 42 (true,20))))) (fO U 50 (fO U 48 (fO U 45 (jx U 44 (true,8)) (jx U 45 (true,8))) (fO U 49 (jx U 48 (true,12)) (jx U 49 (true,12)))) (fO U 52 (fO U 51 (jx U 50 (true,12)) (jx U 51 (true,12))) (fO U 53 (jx U 52 (true,66)) (fO U 54 (jx U 53 (true,66)) (jx U 54 (false,1)))))))) (fO U 204 (fO U 94 (fO U 68 (fO U 66 (fO U 64 (jx U 59 (true,12)) (jx U 64 (false,1))) (fO U 67 (jx U 66 (true,8)) (jx U 67 (true,17)))) (fO U 87 (fO U 71 (jx U 68 (true,17)) (jx U 71 (false,1))) (fO U 89 (jx U 87 (true,6)) (jx U 89 (true,2))))) (fO U 139 (fO U 116 (fO U 115 (jx U 94 (true,2)) (jx U 115 (true,24))) (fO U 137 (jx U 116 (true,24)) (jx U 137 (false,1)))) (fO U 145 (fO U 144 (jx U 139 (true,7)) (jx U 144 (true,16))) (fO U 192 (jx U 145 (true,16)) (fO U 193 (jx U 192 (false,1)) (jx U 193 (true,2))))))) (fO U 287 (fO U 244 (fO U 224 (fO U 210 (jx U 204 (false,1)) (jx U 210 (false,1))) (fO U 243 (jx U 224 (true,1)) (jx U 243 (true,13)))) (fO U 261 (fO U 255 (jx U 244 (true,13)) (jx U 255 (false,1))) (fO U 286 (jx U 261 (false,1)) (jx U 286 (true,13))))) (fO U 319 (fO U 294 (fO U 290 (jx U 287 (true,13)) (jx U 290 (false,1))) (fO U 306 (jx U 294 (false,1)) (jx U 306 (false,1)))) (fO U 336 (fO U 335 (jx U 319 (false,1)) (jx U 335 (false,1))) (fO U 339 (jx U 336 (false,1)) (fO U 340 (jx U 339 (false,1)) (jx U 340 (false,1))))))))
def slF (U:Nat):Option Nat:=fO U 137 (fO U 30 (fO U 23 (jx U 22 7) (jx U 23 7)) (fO U 36 (jx U 30 66) (fO U 71 (jx U 36 1) (jx U 71 20)))) (fO U 204 (fO U 192 (jx U 137 2) (jx U 192 8)) (fO U 290 (jx U 204 1) (fO U 294 (jx U 290 1) (jx U 294 12))))
def fdF (U i:Nat):Option Nat:=fO U 59 (fO U 42 (fO U 38 (fO U 31 (fO U 29 (vC U 27 (jY [0,1,2,3,4,5] i)) (vC U 29 (jY [0,1,2] i))) (fO U 32 (vC U 31 (jY [0] i)) (vC U 32 (jY [0] i)))) (fO U 40 (fO U 39 (vC U 38 (jY [0,1] i)) (vC U 39 (jY [0,2] i))) (fO U 41 (vC U 40 (jY [0,2] i)) (vC U 41 (jY [0,4,8,12,16] i))))) (fO U 49 (fO U 45 (fO U 44 (vC U 42 (jY [0,4,8,12,16] i)) (vC U 44 (jY [0,4] i))) (fO U 48 (vC U 45 (jY [0,4] i)) (vC U 48 (jY [0,4,8] i)))) (fO U 51 (fO U 50 (vC U 49 (jY [0,4,8] i)) (vC U 50 (jY [0,4,8] i))) (fO U 52 (vC U 51 (jY [0,4,8] i)) (fO U 53 (vC U 52 (jY [0,1,13,25,26,46] i)) (vC U 53 (jY [0,1,13,25,26,46] i))))))) (fO U 116 (fO U 87 (fO U 67 (fO U 66 (vC U 59 (jY [0,4,8] i)) (vC U 66 (jY [0,1,2,3,4,5,6,7] i))) (fO U 68 (vC U 67 (jY [0,8,16] i)) (vC U 68 (jY [0,8,16] i)))) (fO U 94 (fO U 89 (vC U 87 (jY [0,1,2,3,4,5] i)) (vC U 89 (jY [0,1] i))) (fO U 115 (vC U 94 (jY [0,1] i)) (vC U 115 (jY [0,4,8,12,16,20] i))))) (fO U 224 (fO U 144 (fO U 139 (vC U 116 (jY [0,4,8,12,16,20] i)) (vC U 139 (jY [0,1,2,3,4,5,6] i))) (fO U 145 (vC U 144 (jY [0,4,8,12] i)) (vC U 145 (jY [0,4,8,12] i)))) (fO U 244 (fO U 243 (vC U 224 (jY [0] i)) (vC U 243 (jY [0,1] i))) (fO U 286 (vC U 244 (jY [0,1] i)) (fO U 287 (vC U 286 (jY [0,1] i)) (vC U 287 (jY [0,1] i)))))))
def tb:Tb:=⟨fun U=>bif Nat.blt U 341 then tyF U else none,fun U i=>bif Nat.blt U 341&&Nat.blt i 16 then fdF U i else none,fun U=>bif Nat.blt U 341 then slF U else none⟩
theorem RD:TbOk Tryz.prog tb:=TbOk.of (by kernel_rfl) (by kernel_rfl) (by kernel_rfl)
theorem cZ (k:Nat) (h:stp Tryz.prog tb eO K n k os tm bx):dl Tryz.prog eO os ⟨n,tm,bx⟩ K:=U3 RD h
theorem eJ {K:Sq->Prop}(k:Nat) (h:stq Tryz.prog tb eO hs K n k os tm bx nb sd):dq Tryz.prog eO hs os ⟨⟨n,tm,bx⟩,nb,sd⟩ K:=W6 RD h
theorem gm (h:ste tb eO K n os tm bx):dl Tryz.prog eO os ⟨n,tm,bx⟩ K:=IJ RD h
theorem Eb {K:Sq->Prop}(h:sqe tb eO hs K n os tm bx nb sd):dq Tryz.prog eO hs os ⟨⟨n,tm,bx⟩,nb,sd⟩ K:=M1 RD h
def cQ (n d:Int):List CellD:=cI n++cI d
def dQ (n d:Int):D0:=.a (cQ n d)
def cR (x:Rat):List CellD:=cQ x.num (x.den:Int)
def dR (x:Rat):D0:=.a (cR x)
theorem AI {q:Int}(J:y≠0) (h:x=y*q+r) (D:0<y->0<=r/\r<y) (R:y<0->y<r/\r<=0):x.fdiv y=q/\x.fmod y=r:=by
 have I:x.fdiv y=q:=by
  rcases Int.lt_or_gt_of_ne J with h0|h0
  .obtain⟨h1,A⟩:=R h0;rw[<-Int.neg_fdiv_neg,qS _ (by omega)];have:=(Int.ediv_emod_unique (a:= -x) (b:= -y) (r:= -r) (q:=q) (by omega)).2 ⟨by rw[h];simp only[Int.neg_mul];omega,by omega,by omega⟩;grind
  .obtain⟨h1,A⟩:=D h0;rw[qS _ (by omega)];exact((Int.ediv_emod_unique h0).2 ⟨by rw[h];omega,h1,A⟩).1
 have:=Int.mul_fdiv_add_fmod x y;grind
def q0 (x y:Int):Int:=sg (!(decide (x<0)==decide (y<0))) ((x.natAbs:Int)/y.natAbs)
def r0 (x y:Int):Int:=sg (decide (x<0)) ((x.natAbs:Int)%y.natAbs)
theorem Zk:x=y*q0 x y+r0 x y:=by
 have h:=uM (x.natAbs:Int) y.natAbs;unfold q0 r0;obtain⟨q,I⟩: ∃q,(x.natAbs:Int)/y.natAbs=q:=⟨_,rfl⟩;obtain⟨r,J⟩: ∃r,(x.natAbs:Int)%y.natAbs=r:=⟨_,rfl⟩;rw[I,J];rw[I,J] at h;by_cases A:x<0<;>by_cases D:y<0
 .rw[show(x.natAbs:Int)= -x from by omega,show(y.natAbs:Int)= -y from by omega,Int.neg_mul] at h;rw[show(!(decide (x<0)==decide (y<0)))=false from by simp[A,D],show decide (x<0)=true from by simp[A],gA,cK];omega
 .rw[show(x.natAbs:Int)= -x from by omega,show(y.natAbs:Int)=y from by omega] at h;rw[show(!(decide (x<0)==decide (y<0)))=true from by simp[A,D],show decide (x<0)=true from by simp[A],gA,gA,Int.mul_neg];omega
 .rw[show(x.natAbs:Int)=x from by omega,show(y.natAbs:Int)= -y from by omega,Int.neg_mul] at h;rw[show(!(decide (x<0)==decide (y<0)))=true from by simp[A,D],show decide (x<0)=false from by simp[A],gA,cK,Int.mul_neg];omega
 .rw[show(x.natAbs:Int)=x from by omega,show(y.natAbs:Int)=y from by omega] at h;rw[show(!(decide (x<0)==decide (y<0)))=false from by simp[A,D],show decide (x<0)=false from by simp[A],cK,cK];omega
theorem OH (A:y≠0):0<=(x.natAbs:Int)%y.natAbs/\(x.natAbs:Int)%y.natAbs<y.natAbs:=⟨Int.emod_nonneg _ (by omega),pz _ (by omega)⟩
theorem yC (D:y≠0) (h:r0 x y=0\/(r0 x y<0↔y<0)):x.fdiv y=q0 x y/\x.fmod y=r0 x y:=by
 refine AI D Zk ?_ ?_
 all_goals
  have:=OH (x:=x) D
  unfold r0 at*
  by_cases A:x<0
  .simp only[A,decide_true,gA] at*;omega
  .simp only[A,decide_false,cK] at*;omega
theorem JX (D:y≠0) (h0:r0 x y≠0) (h: ¬(r0 x y<0↔y<0)):x.fdiv y=q0 x y-1/\x.fmod y=r0 x y+y:=by
 refine AI D ?_ ?_ ?_
 .have:=Zk (x:=x) (y:=y);rw[Int.mul_sub];omega
 all_goals
  have:=OH (x:=x) D
  unfold r0 at*
  by_cases A:x<0
  .simp only[A,decide_true,gA] at*;omega
  .simp only[A,decide_false,cK] at*;omega
theorem HE:(dr y.natAbs).length=0↔y=0:=by rw[jM,eI];omega
theorem su (h:decide (((dr r.natAbs).length:Int)>0)=true):r≠0:=by intro e;have:=HE.2 e;grind
theorem r8 (h:decide (((dr r.natAbs).length:Int)>0)=false):r=0:=by simp only[decide_eq_false_iff_not] at h;exact HE.1 (by omega)
theorem GW (h:(!(decide (a<0)==decide (b<0)))=true): ¬(a<0↔b<0):=by simpa using h
theorem Gm (h:(!(decide (a<0)==decide (b<0)))=false):(a<0↔b<0):=by simpa using h
theorem Sz.q0 (A:Sz k x):Sz k (q0 x y):=by
 apply A.of_le;have h1:(x.natAbs:Int)/(y.natAbs:Int)<=x.natAbs:=Int.ediv_le_self _ (by omega);have D:0<=(x.natAbs:Int)/(y.natAbs:Int):=ti (by omega) (by omega);unfold Go.Proofs.YtegeknjkgadehaaGreat.q0;generalize (!(decide (x<0)==decide (y<0)))=s;cases s;·rw[cK];omega
 .rw[gA];omega
theorem Sz.r0 (A:y≠0) (h:Sz k y):Sz k (r0 x y):=by
 apply h.of_le;have:=OH (x:=x) A;unfold Go.Proofs.YtegeknjkgadehaaGreat.r0;generalize decide (x<0)=s;cases s;·rw[cK];omega
 .rw[gA];omega
theorem Gz (h1:0<=a) (A:0<=c):Int.gcd c (a%c)=Int.gcd a c:=by obtain⟨m,rfl⟩:=zp h1;obtain⟨n,rfl⟩:=zp A;show Nat.gcd n (m%n)=Nat.gcd m n;rw[Nat.gcd_comm m n,Nat.gcd_rec n m,Nat.gcd_comm]
structure GInv (x y a c:Int):Prop where
 sa:Sz 100000000 a
 sc:Sz 100000000 c
 a0:0<=a
 c0:0<=c
 g:Int.gcd a c=Int.gcd x y
theorem GInv.start (A:Sz 100000000 x) (D:Sz 100000000 y):GInv x y (sg false (x.natAbs:Int)) (sg false (y.natAbs:Int)):=by rw[cK,cK];exact⟨A.of_le (by omega),D.of_le (by omega),by omega,by omega,rfl⟩
theorem GInv.step (h:GInv x y a c) (I:c≠0):GInv x y c (sg false ((a.natAbs:Int)%c.natAbs)):=by
 rw[cK];have h1:=h.a0;have A:=h.c0;have e1:(a.natAbs:Int)=a:=by omega
 have J:(c.natAbs:Int)=c:=by omega
 rw[e1,J];have D:=qY a I;have R:=pz a (show 0<c by omega);exact⟨h.sc,h.sc.of_le (by omega),A,D,by rw[<-h.g,Gz h1 A]⟩
theorem GInv.less (h:GInv x y a c) (A:c≠0):(sg false ((a.natAbs:Int)%c.natAbs)).toNat<c.toNat:=by rw[cK];have:=h.c0;have:=OH (x:=a) A;omega
theorem GInv.done (h:GInv x y a c) (A:c=0):(Int.gcd x y:Int)=sg false (a.natAbs:Int):=by rw[<-h.g,A,cK];simp
structure GInv2 (x y u v:Int):Prop where
 u0:0<=u
 u1:u<=18446744073709551615
 v0:0<=v
 v1:v<=18446744073709551615
 g:Int.gcd u v=Int.gcd x y
theorem GInv.word (h:GInv x y a c) (D:decide (a.natAbs<1000000000000000000)=true) (A:decide (c.natAbs<1000000000000000000)=true):GInv2 x y (if a.natAbs<1000000000000000000 then(a.natAbs:Int) else 0) (if c.natAbs<1000000000000000000 then(c.natAbs:Int) else 0):=by
 rw[decide_eq_true_eq] at D A
 rw[if_pos D,if_pos A]
 exact⟨by omega,by omega,by omega,by omega,by rw[<-h.g];rfl⟩
theorem GInv2.step (h:GInv2 x y u v) (A:v>0):GInv2 x y v (u.tmod v):=by have h1:=h.u0;rw[ku h1];have I:=pz u A;exact⟨h.v0,h.v1,qY u (show v≠0 by omega),by have:=h.v1;omega,by rw[<-h.g,Gz h1 h.v0]⟩
theorem GInv2.less (h:GInv2 x y u v) (A:v>0):(u.tmod v).toNat<v.toNat:=by rw[ku h.u0];have D:=pz u A;omega
theorem GInv2.done (h:GInv2 x y u v) (A:v<=0):(Int.gcd x y:Int)=sg false u:=by have h0:=h.v0;have h1:=h.u0;rw[<-h.g,show v=0 from by omega,cK];simp;omega
theorem Nz (h:Lim xs):trm xs=dr (val xs).natAbs:=by have h0:=cH h;rw[LF (tk xs) h.trm,iT];grind
def cM (xs:List Int):CellD:=.s xs.length (xs.map (CellD.i .u32))
theorem Zm (e:Int):cL e=cM (dr e.natAbs):=rfl
theorem P8 (h:Lim xs):cL (val xs)=cM (trm xs):=by rw[Zm,Nz h]
theorem jE (xs:List Int):(xs.map (CellD.i .u32)).length=xs.length*1:=by simp
theorem kw (h:i<xs.length):((xs.map (CellD.i .u32)).drop (i*1))[0]? =some (.i .u32 (xs.getD i 0)):=by grind
theorem aeI (h:i<xs.length):(xs.map (CellD.i .u32))[i*1]? =some (.i .u32 (xs.getD i 0)):=by grind
theorem qj (h:i<xs.length):(xs.map (CellD.i .u32)).take (i*1)++[CellD.i .u32 x]++(xs.map (CellD.i .u32)).drop (i*1+1)=(xs.set i x).map (CellD.i .u32):=by rw[List.set_eq_take_append_cons_drop,if_pos h];simp
theorem dm (h:Lim xs) (i:Nat):0<=xs.getD i 0/\xs.getD i 0<1000000000:=by
 rw[List.getD];cases A:xs[i]? with
 |none=>simp
 |some x=>exact h.at_ A
theorem getD_some (h:i<xs.length):xs[i]? =some (xs.getD i 0):=by grind
theorem lq (h0: -9223372036854775808<=x) (h1:x<=9223372036854775807):IntKind.i64.wrap x=x:=by unfold IntKind.wrap;simp[IntKind.bits,IntKind.signed];omega
theorem i9 (h0:0<=x) (h1:x<=18446744073709551615):IntKind.u64.wrap x=x:=by unfold IntKind.wrap;simp[IntKind.bits,IntKind.signed];omega
theorem sw (h0:0<=x) (h1:x<=4294967295):IntKind.u32.wrap x=x:=by unfold IntKind.wrap;simp[IntKind.bits,IntKind.signed];omega
theorem bc (h0: -9223372036854775808<=a+b) (h1:a+b<=9223372036854775807):Ct .add .i64 a b=some (a+b):=congrArg some (lq h0 h1)
theorem eg {x y:Operand}{ty:TypeId}(A:j<9223372036854775807) (h:(cE T x,cE T y,gd eO ⟨dst,.binOp .add xt x y yt,ty,pos,af,g⟩ T)=(some (.v (.c (.i .i64 j))),some (.v (.c (.i .i64 1))),some true)):Sem P eO ⟨dst,.binOp .add xt x y yt,ty,pos,af,g⟩ T B (.r (.v (.c (.i .i64 ((j+1:Nat):Int))))):=
 tO (congrArg Prod.fst h) (congrArg (fun q=>q.2.1) h) ((bc (by omega) (by omega)).trans (congrArg some (by omega))) (congrArg (fun q=>q.2.2) h)
theorem bq (h0: -9223372036854775808<=a-b) (h1:a-b<=9223372036854775807):Ct .sub .i64 a b=some (a-b):=congrArg some (lq h0 h1)
theorem fR (h0:0<=a+b) (h1:a+b<=18446744073709551615):Ct .add .u64 a b=some (a+b):=congrArg some (i9 h0 h1)
theorem Iv (h0:0<=a-b) (h1:a-b<=18446744073709551615):Ct .sub .u64 a b=some (a-b):=congrArg some (i9 h0 h1)
theorem iC (h0:0<=a*b) (h1:a*b<=18446744073709551615):Ct .mul .u64 a b=some (a*b):=congrArg some (i9 h0 h1)
theorem nM (h0:0<=a+b) (h1:a+b<=4294967295):Ct .add .u32 a b=some (a+b):=congrArg some (sw h0 h1)
theorem qC (h0:0<=a-b) (h1:a-b<=4294967295):Ct .sub .u32 a b=some (a-b):=congrArg some (sw h0 h1)
theorem OZ (h1:0<k) (I:k<=xs.length) (D:trm (xs.take k)=trm xs) (h:((xs.take k).getD (k-1) 0==0)=true):trm (xs.take (k-1))=trm xs:=by obtain⟨j,rfl⟩: ∃j,k=j+1:=⟨k-1,by omega⟩;rw[Nat.add_sub_cancel] at*;rw[<-D,rl (getD_some (xs:=xs) (i:=j) (by omega)) (by simpa using h)]
theorem OI (h1:0<k) (I:k<=xs.length) (D:trm (xs.take k)=trm xs) (h:((xs.take k).getD (k-1) 0==0)=false):trm xs=xs.take k:=by obtain⟨j,rfl⟩: ∃j,k=j+1:=⟨k-1,by omega⟩;rw[<-D,ri (getD_some (xs:=xs) (i:=j) (by omega)) (by simpa using h)]
section
variable {P:Program}{eO:Array Oper}{T:TF}{B:BF}
theorem jX {x y:Operand}{k:IntKind}{n:Int} (A:cE T x=some (.v (.c (.i k m)))) (D:cE T y=some (.v (.c (.i k n)))) (h0:n≠0) (I:k.wrap (m.tdiv n)=r) (J:gd eO ⟨dst,.binOp .quo xt x y yt,ty,pos,af,g⟩ T=some true):Sem P eO ⟨dst,.binOp .quo xt x y yt,ty,pos,af,g⟩ T B (.r (.v (.c (.i k r)))):=by subst I;exact W9 A D h0 J
theorem fz {x y:Operand}{k:IntKind}{n:Int} (A:cE T x=some (.v (.c (.i k m)))) (D:cE T y=some (.v (.c (.i k n)))) (h0:n≠0) (I:m.tmod n=r) (J:gd eO ⟨dst,.binOp .rem xt x y yt,ty,pos,af,g⟩ T=some true):Sem P eO ⟨dst,.binOp .rem xt x y yt,ty,pos,af,g⟩ T B (.r (.v (.c (.i k r)))):=by subst I;exact Gp A D h0 J
theorem bi {x:Operand}{J A k:IntKind} (h1:P.underlying t1=some (.int J)) (D:P.underlying t2=some (.int A)) (I:cE T x=some (.v (.c (.i k m)))) (R:A.wrap m=r) (V:gd eO ⟨dst,.convert t1 t2 x,ty,pos,af,g⟩ T=some true):Sem P eO ⟨dst,.convert t1 t2 x,ty,pos,af,g⟩ T B (.r (.v (.c (.i A r)))):=by subst R;exact RI h1 D I V
theorem xd {x:Operand} (hU:uV P U=some (e,1,by_,[z])) (W:cE T x=some (.v (.c (.i .u32 m)))) (J:gd eO ⟨dst,.buildSlice U 1 #[(0,x)],ty,pos,af,g⟩ T=some true):Sem P eO ⟨dst,.buildSlice U 1 #[(0,x)],ty,pos,af,g⟩ T B (.r (.v (.c (cM [m])))):=by
 have h:=kO (B:=B) (us:=[.i .u32 m]) hU (by unfold tc;rw[W];rfl) rfl (by omega) (by omega) J
 refine⟨qV rfl,fun V β a w hs=>?_⟩
 obtain⟨hw,J⟩:=h V β a w hs
 refine⟨hw,J.mono ?_⟩
 rintro v w' ⟨vs,rfl,rfl,R⟩
 refine⟨?_,(fe _ w).alloc (bk _) _⟩
 have a3:vs.size=1:=by have:=R.1;simpa using this
 refine .s w.heap.size 0 1 1 1 _ (fun j=>vs.getD j undef) (by omega) (by omega) (by omega) rfl (by simp) (fun h=>by have:=hs.av _ h;omega) (fun j I=>?_) (fun j u I=>?_)
 .simp_all
 .have hlt:j<1:=by have:=(fM.1 I).1;simpa using this
  refine (R.keep (Keep.below (av:=V) ((fe w.heap.size w).alloc (bk _) (.cells vs e)))).2 j _ u ?_ I
  have:j<vs.size:=by omega
  simp[Array.getD,this]
theorem HR {x y:Operand}{m:Nat}{zs:List CellD} (hU:uV P U=some (e,m,by_,zs)) (hx:cE T x=some (.o k n n)) (hy:cE T y=some (.v (.c (.s 0 [])))) (hb:B k=some (e,cs)) (a3:cs.length=n*m) (hn:0<n) (a4:n<=9223372036854775807) (hg:gd eO ⟨dst,.call ⟨.builtin .append,#[x,y],#[U,U]⟩,ty,pos,af,g⟩ T=some true):Sem P eO ⟨dst,.call ⟨.builtin .append,#[x,y],#[U,U]⟩,ty,pos,af,g⟩ T B (.c k (.v (.c (.s n cs)))):=by
 refine⟨rfl,by rw[hb];simp,fun V β a w hs=>⟨eK hs hg,?_⟩⟩
 have e1:a.eval x=.slice (some ⟨β k,0,none⟩) n n:=ap hs (by simp[Op.operands,Call.operands]) hx
 have h2:RdC V w (a.eval y) (.s 0 []):=ap hs (by simp[Op.operands,Call.operands]) hy
 have h3: ∃A c,a.eval y=.slice A 0 c:=by
  generalize a.eval y=v at h2;cases h2 with
  |s0 A c _=>exact⟨A,c,rfl⟩
  |s b off c sz _ _ cv h0=>omega
 obtain⟨A,c,e2⟩:=h3
 obtain⟨hu,i,z,hi,hz,a5,a6,_,a9⟩:=i5 hU
 obtain⟨R,vs,ev,hr⟩:=hs.box k e cs hb
 have D: ∀w,(Builtin.firstCells m 0 (.slice A 0 c)).run P w=.ok #[] w:=by
  intro w;cases A with
  |none=>rfl
  |some A=>simp[Builtin.firstCells,loadCells,loadCellsFrom]
 have J:(execOp a.eval ⟨dst,.call ⟨.builtin .append,#[x,y],#[U,U]⟩,ty,pos,af,g⟩).run P w=.ok (.value (.slice (some ⟨β k,0,none⟩) n n)) w:=by simp only[execOp,resolve,invoke,builtin,fh,dA,ft,qe,lQ,qv,e1,e2];simp[Builtin.append_,run_underlying hu,sizeOf,typeInfo,program,Sem.run,hi,a5,Builtin.lenOf,D,storeCells]
 unfold Gives
 rw[J]
 refine⟨?_,fe _ _⟩
 have I:Keep V (fun b=>V b/\b≠β k) w w:=⟨Nat.le_refl _,fun _ _ _=>rfl,fun _ _ h=>h.1⟩
 have b3:vs.size=n*m:=by have:=hr.1;simp at this;omega
 refine .s (β k) 0 n m n cs (fun j=>vs.getD j undef) hn (bk _) a4 a3 (hs.av _ R) (fun h=>h.2 rfl) (fun j hj=>?_) (fun j u hj=>?_)
 .rw[dN,bR ev]
  have:j<vs.size:=by omega
  simp[Array.getD,this]
 .have hlt:j<cs.length:=(fM.1 hj).1
  refine (hr.keep I).2 j _ u ?_ hj
  have:j<vs.size:=by omega
  simp[Array.getD,this]
theorem Ee {x y:Operand} (hU:uV P U=some (e,1,4,[z])) (A:cE T x=some (.o k 1 1)) (D:cE T y=some (.v (.c (cM rs)))) (J:B k=some (e,[.i .u32 d])) (hl:rs.length<=1000000000) (I:gd eO ⟨dst,.call ⟨.builtin .append,#[x,y],#[U,U]⟩,ty,pos,af,g⟩ T=some true):Sem P eO ⟨dst,.call ⟨.builtin .append,#[x,y],#[U,U]⟩,ty,pos,af,g⟩ T B (.c k (.v (.c (cM (d::rs))))):=by
 cases rs with
 |nil=>exact HR (n:=1) hU A D J rfl (by omega) (by omega) I
 |cons r rs=>
  have:=yL hU A D J rfl (jE _) (by omega) (by simp) (by omega) (by simp at hl⊢;omega) (by simp at hl⊢;unfold maxLen;omega) rfl I
  unfold cM
  grind
theorem vL {c:Code}{N t n' c':Nat} (D:look t tm=some (.o k n' c')) (J:look k bx=some (U,zs.map (CellD.i .u32))) (hm:zs.length=c') (I:n'<=c') (R:c'<=9223372036854775807) (A:zs.take n'=ys) (h:Dw P c ⟨N,(t,.v (.c (cM ys)))::jQ k tm,jf k bx⟩ Q):Dw P c ⟨N,tm,bx⟩ Q:=by
 refine fa D J (m:=1) (by simp[hm]) I R (by rw[Nat.mul_one,<-List.map_take,A]) ?_
 unfold cM at h
 grind
theorem Jb {x h:Operand} (hU:pT P U=some 1) (A:cE T x=some (.v (.c (cM xs)))) (J:cE T h=some (.v (.c (.i ki j)))) (D:j<=xs.length) (I:gd eO ⟨dst,.slice U x none (some h) none,ty,pos,af,g⟩ T=some true):Sem P eO ⟨dst,.slice U x none (some h) none,ty,pos,af,g⟩ T B (.r (.v (.c (cM (xs.take j))))):=by
 have:=nW (B:=B) hU A J (by omega) (jE xs) rfl I
 have e:CellD.s ((j:Int).toNat) ((xs.map (CellD.i .u32)).take ((j:Int).toNat*1))=cM (xs.take j):=by unfold cM;rw[Int.toNat_natCast,Nat.mul_one,fF,jh D,List.map_take]
 grind
theorem ve {x h:Operand}{c q m:Nat} (hU:pT P U=some m) (J:cE T x=some (.o k n c)) (hh:cE T h=some (.v (.c (.i ki q)))) (hq:q<=c) (hg:gd eO ⟨dst,.slice U x none (some h) none,ty,pos,af,g⟩ T=some true):Sem P eO ⟨dst,.slice U x none (some h) none,ty,pos,af,g⟩ T B (.r (.o k q c)):=
 bv hg (fun k' e=>by
  obtain rfl:k=k':=by injection e
  exact oT (by simp[Op.operands]) J rfl) (fun V β a w hs=>by
  have e:a.eval x=.slice (some ⟨β k,0,none⟩) n c:=ap hs (by simp[Op.operands]) J;unfold pT at hU;split at hU;case h_2=>cases hU
  rename_i R D;cases A:P.info? R with
  |none=>rw[A] at hU;cases hU
  |some a3=>
   rw[A] at hU;simp at hU;have I: ∀w,(sizeOf R).run P w=.ok m w:=fun w=>by unfold sizeOf typeInfo;simp[program,Sem.run,A,hU]
   refine⟨.slice (some ⟨β k,0,none⟩) q c,?_,rfl⟩;simp[execOp,Instr.sliceAt,Instr.slice,run_underlying D,e,gY (ap hs (by simp[Op.operands]) hh),Instr.sliceBounds,Instr.sliceBound,asIntOf,hq,I,Addr.add])
end
class TaC (P:Program) where
 b:Tb
 zc:List (Nat×List CellD)
 op:Nat->Bool
 ok:TbOk P b
 zk: ∀U zs,look U zc=some zs->Cq P U=some zs
 mo:P.follows .mixedOrders=true
theorem ID {A:Type}{t:Nat}{x:A}: ∀ {l:List (Nat×A)},look t l=some x->(t,x)∈l
 |[],h=>by cases h
 |(k,y)::r,h=>by
  unfold look at h;cases e:Nat.beq k t with
  |true=>rw[e] at h;cases h;rw[dF e];exact fC
  |false=>rw[e] at h;exact fv _ (ID h)
theorem abF {l:List (Nat×List CellD)}(h: ∀p∈l,Cq P p.1=some p.2): ∀U zs,look U l=some zs->Cq P U=some zs:=fun _U _zs e=>h _ (ID e)
section
variable (P:Program) [C:TaC P]
def RX (T:TF) (B:BF):Op->Option SA
 | .load U x=>match cE T x with
   |some (.p k off)=>match B k,C.b.ty U with
    |some (W,cs),some (true,n)=>bif C.op W then none else bif Nat.beq off 0&&Nat.beq cs.length n then some (.v (.v (.a cs))) else
     bif Nat.ble (off+n) cs.length&&Nat.ble cs.length 24 then some (.v (.v (.a ((cs.drop off).take n)))) else none
    |some (W,cs),some (false,_)=>bif C.op W then none else match cs[off]? with
     |some u=>some (.v (.v (.c u)))
     |none=>none
    |_,_=>none
   |_=>none
 | .store U ax x=>match cE T ax,cE T x,C.b.ty U with
   |some (.p k off),some (.v (.a us)),some (true,m)=>match B k with
    |some (W,cs)=>bif C.op W then none else bif Nat.beq off 0&&Nat.beq us.length m&&Nat.beq cs.length m then some (.st k W us) else none
    |none=>none
   |_,_,_=>none
 | .alloc U=>match look U C.zc with
   |some zs=>some (.bx U zs)
   |none=>none
 |op=>NB C.b T B op
def ME (eO:Array Oper) (T:TF) (B:BF) (o:Oper):Option SA:=
 match gd eO o T with
 |some true=>RX P T B o.op
 |some false=>some .sk
 |none=>none
def gst (eO:Array Oper) (d:Option Nat):List Oper->Bool
 |⟨_,_,_,_,_,some (j,_)⟩::_=>match eO[j]?,d with
  |some ⟨some t,_,_,_,_,_⟩,some u=>Nat.beq t u
  |_,_=>false
 |_=>false
variable {P}
theorem QD (D:gd eO ⟨dst,op,ty,pos,af,g⟩ T=some true) (h:RX P T B op=some s) (R: ∀k U cs,s=.st k U cs->dst=none):Sem P eO ⟨dst,op,ty,pos,af,g⟩ T B s.eff:=by
 unfold RX at h
 split at h
 .split at h
  .rename_i e
   split at h
   .rename_i e1 I
    rw[tZ,tZ,tZ] at h
    split at h
    .cases h
    .split at h
     .rename_i A
      cases h
      rw[di] at A
      have h0:=dF A.1
      have hl:=dF A.2
      subst h0
      exact aR (C.ok.ty _ _ I) e e1 (by rw[mU];exact dS (kE hl)) hl D
     .split at h
      .rename_i A
       cases h
       rw[di] at A
       have h0:=fU A.1
       exact aR (C.ok.ty _ _ I) e e1 rfl (by rw[fF,jD];omega) D
      .cases h
   .rename_i e1 I
    rw[tZ] at h
    split at h
    .cases h
    .split at h
     .rename_i J;cases h;exact cT (C.ok.ty _ _ I) e e1 J D
     .cases h
   .cases h
  .cases h
 .split at h
  .rename_i e1 I J
   split at h
   .rename_i V
    rw[tZ,tZ] at h
    split at h
    .cases h
    .split at h
     .rename_i A
      cases h
      rw[di,di] at A
      have h0:=dF A.1.1
      subst h0
      have:=R _ _ _ rfl
      subst this
      exact ce (C.ok.ty _ _ J) e1 I V (dF A.1.2) (dF A.2) D
     .cases h
   .cases h
  .cases h
 .split at h
  .rename_i e;cases h;exact lI (C.zk _ _ e) D
  .cases h
 .exact JQ C.ok D h R
theorem pq (h:ME P eO T B ⟨dst,op,ty,pos,af,g⟩=some s) (A: ∀k U cs,s=.st k U cs->dst=none):Sem P eO ⟨dst,op,ty,pos,af,g⟩ T B s.eff:=by
 unfold ME at h
 split at h
 .rename_i e;exact QD e h A
 .rename_i e;cases h;exact mu e
 .cases h
end
structure DL (P:Program) (eO:Array Oper) (os:List Oper) (σ:St) (K:St->Prop):Prop where
 h:dl P eO os σ K
structure DQ (P:Program) (eO:Array Oper) (hs:List Nat) (os:List Oper) (s:Sq) (K:Sq->Prop):Prop where
 h:dq P eO hs os s K
structure DW (P:Program) (c:Code) (σ:St) (Q:Exit->St->Prop):Prop where
 h:Dw P c σ Q
section
variable (P:Program) [C:TaC P] (eO:Array Oper) (K:St->Prop) (n:Nat)
def Lp:List Oper->List (Nat×DV)->List (Nat×TypeId×List CellD)->Prop
 |[],tm,bx=>K ⟨n,tm,bx⟩
 |o::os,tm,bx=>bif gst eO o.dst os then DL P eO (o::os) ⟨n,tm,bx⟩ K else match o.dst,ME P eO (fun s=>look s tm) (fun l=>look l bx) o with
  |some t,some .sk=>Lp os ((t,.u)::tm) bx
  |some t,some (.v x)=>Lp os ((t,x)::tm) bx
  |some t,some (.bx U cs)=>match look t bx with
   |none=>Lp os ((t,.p t 0)::tm) ((t,U,cs)::bx)
   |some _=>DL P eO (o::os) ⟨n,tm,bx⟩ K
  |none,some (.st j U cs)=>Lp os tm ((j,U,cs)::bx)
  |_,_=>DL P eO (o::os) ⟨n,tm,bx⟩ K
variable {P eO K n}
theorem iJ: ∀ {os:List Oper}{tm:List (Nat×DV)}{bx:List (Nat×TypeId×List CellD)},Lp P eO K n os tm bx->dl P eO os ⟨n,tm,bx⟩ K
 |[],tm,bx,h=>h
 |⟨dst,op,ty,pos,af,g⟩::os,tm,bx,h=>by
  unfold Lp at h;rw[tZ] at h;split at h;·exact h.h
  .split at h
   .rename_i t e1 A;cases e1;exact vX (pq A (fun _ _ _ e=>by cases e)) (iJ h)
   .rename_i t x e1 A;cases e1;exact bj (pq A (fun _ _ _ e=>by cases e)) (iJ h)
   .rename_i t U cs e1 A;cases e1;split at h;·rename_i D;exact ro (pq A (fun _ _ _ e=>by cases e)) D (iJ h)
    .exact h.h
   .rename_i j U cs e1 A;cases e1;exact gS (pq A (fun _ _ _ _=>rfl)) (iJ h)
   .exact h.h
end
section
variable (P:Program) [C:TaC P] (eO:Array Oper) (hs:List Nat) (K:Sq->Prop) (n:Nat)
def Vr:List Oper->List (Nat×DV)->List (Nat×TypeId×List CellD)->List (Nat×TypeId×List CellD)->List Nat->Prop
 |[],tm,bx,nb,sd=>K ⟨⟨n,tm,bx⟩,nb,sd⟩
 |o::os,tm,bx,nb,sd=>bif gst eO o.dst os then DQ P eO hs (o::os) ⟨⟨n,tm,bx⟩,nb,sd⟩ K else match o.dst,ME P eO (fun s=>look s tm) (hid hs (fun l=>look l bx)) o with
  |some t,some .sk=>Vr os ((t,.u)::tm) bx nb sd
  |some t,some (.v x)=>Vr os ((t,x)::tm) bx nb sd
  |some t,some (.bx U cs)=>match look t (nb++bx) with
   |none=>Vr os ((t,.p t 0)::tm) bx ((t,U,cs)::nb) sd
   |some _=>DQ P eO hs (o::os) ⟨⟨n,tm,bx⟩,nb,sd⟩ K
  |_,_=>DQ P eO hs (o::os) ⟨⟨n,tm,bx⟩,nb,sd⟩ K
variable {P eO hs K n}
theorem dY: ∀ {os:List Oper}{tm:List (Nat×DV)}{bx nb:List (Nat×TypeId×List CellD)}{sd:List Nat},Vr P eO hs K n os tm bx nb sd->dq P eO hs os ⟨⟨n,tm,bx⟩,nb,sd⟩ K
 |[],tm,bx,nb,sd,h=>h
 |⟨dst,op,ty,pos,af,g⟩::os,tm,bx,nb,sd,h=>by
  unfold Vr at h;rw[tZ] at h;split at h;·exact h.h
  .split at h
   .rename_i t e1 A;cases e1;exact sM (pq A (fun _ _ _ e=>by cases e)) (dY h)
   .rename_i t x e1 A;cases e1;exact bp (pq A (fun _ _ _ e=>by cases e)) (dY h)
   .rename_i t U cs e1 A;cases e1;split at h;·rename_i D;exact K3 (pq A (fun _ _ _ e=>by cases e)) D (dY h)
    .exact h.h
   .exact h.h
end
section
variable (P:Program) [C:TaC P]
def Vy:Code->St->(Exit->St->Prop)->Prop
 | .seq x y,σ,Q=>Vy x σ (Fl (fun σ'=>Vy y σ' Q) Q)
 | .skip,σ,Q=>Q .normal σ
 | .ret,σ,Q=>Q .ret σ
 | .exit id,σ,Q=>Q (.exit id) σ
 | .block id c,σ,Q=>Vy c σ (Tf id Q)
 | .region id ⟨l⟩ false,⟨n,tm,bx⟩,Q=>bif PN ⟨l⟩ n then Lp P ⟨l⟩ (Q .normal) n l tm bx else DW P (.region id ⟨l⟩ false) ⟨n,tm,bx⟩ Q
 |c,σ,Q=>DW P c σ Q
variable {P}
theorem aiL {c:Code}: ∀ {σ:St}{Q D:Exit->St->Prop},(∀e σ',Q e σ'->D e σ')->Vy P c σ Q->Dw P c σ D:=by
 induction c with
 |seq x y R V=>
  intro σ Q D A h;refine ab (R (fun e σ' J=>?_) h);cases e with
  |normal=>exact V A J
  |_=>exact A _ _ J
 |skip=>intro σ Q D A h;exact aA (A _ _ h)
 |ret=>intro σ Q D A h;exact aU (A _ _ h)
 |exit id=>intro σ Q D A h;exact bH (A _ _ h)
 |block id c W=>intro σ Q D A h;refine Dw.mono (aM (W (fun e σ' J=>J) h)) A
 |region id eO I=>
  intro σ Q D A h;obtain⟨l⟩:=eO;obtain⟨n,tm,bx⟩:=σ;cases I with
  |true=>exact Dw.mono h.h A
  |false=>
   have h:bif PN ⟨l⟩ n then Lp P ⟨l⟩ (Q .normal) n l tm bx else DW P (.region id ⟨l⟩ false) ⟨n,tm,bx⟩ Q:=h;rw[tZ] at h;split at h;·rename_i hc;exact Dw.mono (An hc (iJ h)) A
   .exact Dw.mono h.h A
 |_=>intro σ Q D A h;exact Dw.mono h.h A
theorem th {c:Code}(h:Vy P c σ Q):Dw P c σ Q:=aiL (fun _ _ h=>h) h
end
section
variable {P:Program}[C:TaC P] {eO:Array Oper}{os:List Oper}{n t:Nat}{tm:List (Nat×DV)}{bx nb:List (Nat×TypeId×List CellD)}{K:St->Prop}{K':Sq->Prop}{hs sd:List Nat}{ty:TypeId}{pos:String}{af:Array Edge}{g:Option (Nat×Bool)}{op:Op}
omit C in
theorem MY {D:Sq->Prop}(A: ∀s,K' s->D s): ∀ {os:List Oper}{s:Sq},dq P eO hs os s K'->dq P eO hs os s D
 |[],s,h=>A s h
 |_::_,_,⟨e,a,b,c,d,f,h⟩=>⟨e,a,b,c,d,f,MY A h⟩
theorem ar {x:DV}(h:Sem P eO ⟨some t,op,ty,pos,af,g⟩ (fun s=>look s tm) (fun k=>look k bx) (.r x)) (A:Lp P eO K n os ((t,x)::tm) bx):DL P eO (⟨some t,op,ty,pos,af,g⟩::os) ⟨n,tm,bx⟩ K:=⟨bj h (iJ A)⟩
theorem aq {x:DV}(h:Sem P eO ⟨some t,op,ty,pos,af,g⟩ (fun s=>look s tm) (hid hs (fun k=>look k bx)) (.r x)) (A:Vr P eO hs K' n os ((t,x)::tm) bx nb sd):DQ P eO hs (⟨some t,op,ty,pos,af,g⟩::os) ⟨⟨n,tm,bx⟩,nb,sd⟩ K':=⟨bp h (dY A)⟩
theorem n6 (h:Sem P eO ⟨none,op,ty,pos,af,g⟩ (fun s=>look s tm) (fun k=>look k bx) (.s k U cs)) (A:Lp P eO K n os tm ((k,U,cs)::bx)):DL P eO (⟨none,op,ty,pos,af,g⟩::os) ⟨n,tm,bx⟩ K:=⟨gS h (iJ A)⟩
theorem iN {b:Bool}(h:Sem P eO ⟨some t,op,ty,pos,af,g⟩ (fun s=>look s tm) (fun k=>look k bx) (.r (.v (.c (.b b))))) (A: ∀c,b=c->Lp P eO K n os ((t,.v (.c (.b c)))::tm) bx):DL P eO (⟨some t,op,ty,pos,af,g⟩::os) ⟨n,tm,bx⟩ K:=⟨agl h fun c e=>iJ (A c e)⟩
theorem zQ {b:Bool}(h:Sem P eO ⟨some t,op,ty,pos,af,g⟩ (fun s=>look s tm) (hid hs (fun k=>look k bx)) (.r (.v (.c (.b b))))) (A: ∀c,b=c->Vr P eO hs K' n os ((t,.v (.c (.b c)))::tm) bx nb sd):DQ P eO hs (⟨some t,op,ty,pos,af,g⟩::os) ⟨⟨n,tm,bx⟩,nb,sd⟩ K':=⟨Ud h fun c e=>dY (A c e)⟩
section
variable {fo:Operand}{args:Array Operand}{at_:Array TypeId}{f:FuncId}{ds rs:List D0}
theorem ac (h:(cE (fun s=>look s tm) fo,pE (fun s=>look s tm) args.toList,gd eO ⟨some t,.call ⟨.value fo,args,at_⟩,ty,pos,af,g⟩ fun s=>look s tm)=(some (.v (.c (.f f))),some ds,some true)) (hok:Ok P f ds rs) (A:Lp P eO K n os ((t,wL rs)::tm) bx):DL P eO (⟨some t,.call ⟨.value fo,args,at_⟩,ty,pos,af,g⟩::os) ⟨n,tm,bx⟩ K:=ar (iW h hok) A
theorem aw (h:(cE (fun s=>look s tm) fo,pE (fun s=>look s tm) args.toList,gd eO ⟨some t,.call ⟨.value fo,args,at_⟩,ty,pos,af,g⟩ fun s=>look s tm)=(some (.v (.c (.f f))),some ds,some true)) (hok:Ok P f ds rs) (A:Vr P eO hs K' n os ((t,wL rs)::tm) bx nb sd):DQ P eO hs (⟨some t,.call ⟨.value fo,args,at_⟩,ty,pos,af,g⟩::os) ⟨⟨n,tm,bx⟩,nb,sd⟩ K':=aq (iW h hok) A
end
variable {Q:Exit->St->Prop}{x y:Code}{σ:St}
theorem dg {b:Bool}(D:look t σ.tm=some (.v (.c (.b b)))) (A:b=true->Vy P x σ Q) (I:b=false->Vy P y σ Q):DW P (.cond (.tmp t) x y) σ Q:=⟨aJ D (fun e=>th (A e)) fun e=>th (I e)⟩
theorem n7 (A:look t tm=some (.v (.c (.b true)))) (h:Vy P x ⟨n,tm,bx⟩ Q):DW P (.cond (.tmp t) x y) ⟨n,tm,bx⟩ Q:=⟨fp A (th h)⟩
theorem mL (A:look t tm=some (.v (.c (.b false)))) (h:Vy P y ⟨n,tm,bx⟩ Q):DW P (.cond (.tmp t) x y) ⟨n,tm,bx⟩ Q:=⟨ck A (th h)⟩
theorem cm (m:Nat) (hs:List Nat) (h:Vr P l.toArray hs (fun s=>Lp P l.toArray (Q .normal) s.st.n (l.drop m) s.st.tm (s.nb++s.st.bx)) n (l.take m) tm bx [] []) (D:KI l.toArray m n=true:=by kernel_rfl):
 DW P (.region id l.toArray true) ⟨n,tm,bx⟩ Q:=⟨qo m hs C.mo D rfl rfl (MY (fun _ A=>iJ A) (dY h))⟩
theorem ag (h:Lp P l.toArray (Q .normal) n l tm bx) (A:PN l.toArray n=true:=by kernel_rfl):Dw P (.region id l.toArray false) ⟨n,tm,bx⟩ Q:=An A (iJ h)
theorem fS (m:Nat) (hs:List Nat) (h:Vr P l.toArray hs (fun s=>Lp P l.toArray (Q .normal) s.st.n (l.drop m) s.st.tm (s.nb++s.st.bx)) n (l.take m) tm bx [] []) (A:KI l.toArray m n=true:=by kernel_rfl):
 Dw P (.region id l.toArray true) ⟨n,tm,bx⟩ Q:=(cm m hs h A).h
theorem bE {f:FuncId}{fn:Func}{c:Code}{ds rs:List D0}(I:P.funcs[f]? =some fn) (J:fn.body=some c) (h:Vy P c ⟨fn.ntmps,mG 0 ds,[]⟩ fun e σ=>(e=.normal\/e=.ret)/\p6 P σ fn.results.toList=some rs) (D:dk P f=true:=by kernel_rfl) (A:Nat.ble ds.length fn.ntmps=true:=by rfl):Ok P f ds rs:=Ok.of D I J A (th h)
end
def zcT:List (Nat×List CellD):=[(32,[.s 0 []]),(38,[.b false,.s 0 []]),(40,[.b false,.s 0 [],.b false,.s 0 []]),(42,[.b false,.s 0 [],.b false,.s 0 [],.b false,.s 0 [],.b false,.s 0 [],.b false,.s 0 [],.b false,.s 0 [],.b false,.s 0 [],.b false,.s 0 [],.b false,.s 0 [],.b false,.s 0 []]),(45,[.b false,.s 0 [],.b false,.s 0 [],.b false,.s 0 [],.b false,.s 0 []]),(49,[.b false,.s 0 [],.b false,.s 0 [],.b false,.s 0 [],.b false,.s 0 [],.b false,.s 0 [],.b false,.s 0 []]),(51,[.b false,.s 0 [],.b false,.s 0 [],.b false,.s 0 [],.b false,.s 0 [],.b false,.s 0 [],.b false,.s 0 []]),(53,[.b false,.b false,.s 0 [],.b false,.s 0 [],.b false,.s 0 [],.b false,.s 0 [],.b false,.s 0 [],.b false,.s 0 [],.b false,.s 0 [],.b false,.s 0 [],.b false,.s 0 [],.b false,.s 0 [],.b false,.s 0 [],.b false,.s 0 [],.b false,.b false,.s 0 [],.b false,.s 0 [],.b false,.s 0 [],.b false,.s 0 [],.b false,.s 0 [],.b false,.s 0 [],.b false,.s 0 [],.b false,.s 0 [],.b false,.s 0 [],.b false,.s 0 [],.b false,.s 0 [],.b false,.s 0 [],.b false,.s 0 [],.b false,.s 0 [],.b false,.s 0 [],.b false,.s 0 [],.b false,.s 0 [],.b false,.s 0 [],.b false,.s 0 [],.b false,.s 0 []]),(59,[.b false,.s 0 [],.b false,.s 0 [],.b false,.s 0 [],.b false,.s 0 [],.b false,.s 0 [],.b false,.s 0 []]),(89,[.i .i64 0,.i .i64 0]),(116,[.b false,.s 0 [],.b false,.s 0 [],.b false,.s 0 [],.b false,.s 0 [],.b false,.s 0 [],.b false,.s 0 [],.b false,.s 0 [],.b false,.s 0 [],.b false,.s 0 [],.b false,.s 0 [],.b false,.s 0 [],.b false,.s 0 []]),(244,[.i .i64 0,.b false,.s 0 [],.b false,.s 0 [],.b false,.s 0 [],.b false,.s 0 [],.b false,.s 0 [],.b false,.s 0 []]),(287,[.i .i64 0,.b false,.s 0 [],.b false,.s 0 [],.b false,.s 0 [],.b false,.s 0 [],.b false,.s 0 [],.b false,.s 0 []])]
def opF (U:Nat):Bool:=bif Nat.beq U 287 then true else bif Nat.beq U 244 then true else bif Nat.beq U 68 then true else bif Nat.beq U 66 then true else bif Nat.beq U 53 then true else bif Nat.beq U 29 then true else bif Nat.beq U 27 then true else false
instance:TaC Tryz.prog:=⟨tb,zcT,opF,RD,abF (rH.2 ⟨aiM,rH.2 ⟨DY,rH.2 ⟨uL,rH.2 ⟨Bb,rH.2 ⟨pm,rH.2 ⟨OL,rH.2 ⟨Yb,rH.2 ⟨Ba,rH.2 ⟨wm,rH.2 ⟨vh,rH.2 ⟨R4,rH.2 ⟨Fp,rH.2 ⟨ae6,fun _ h=>nomatch h⟩⟩⟩⟩⟩⟩⟩⟩⟩⟩⟩⟩⟩),d9⟩
theorem kY (hL:Lim xs) (hn:xs.length<=1000000000):cq 251 [.c (cM xs)] [.c (cL (val xs))]:=by
 apply bE Tryz.func251 rfl;refine DW.mk<|bK (ι:={k:Nat // k<=xs.length/\trm (xs.take k)=trm xs}) (fun i=>⟨21,[(0,.v (.c (cM (xs.take i.1))))],[]⟩) (fun i=>i.1) ⟨xs.length,bk _,by rw[pP]⟩ (au ⟨by rw[pP];rfl,trivial⟩ trivial rfl) ?_;rintro⟨k,R,V⟩;have W:(xs.take k).length=k:=by rw[fF];omega
 dsimp only;apply th;refine iN (aY rfl) (fun c1 J=>?_);cases c1
 .have hz:k=0:=by simp only[decide_eq_false_iff_not] at J;omega
  have A:cL (val xs)=cM (xs.take k):=by rw[P8 hL,<-V,hz];rfl
  refine mL rfl<|ae ?_;rw[A];exact aj aa
 .have h1:0<k:=by simp only[decide_eq_true_eq] at J;omega
  refine ar (ca (((k-1:Nat):Int)) (by rw[W,show((k-1:Nat):Int)=(k:Int)-1 from by omega];exact bq (by omega) (by omega)) rfl)<|ar (cg jq rfl rfl (by omega) (jE _) rfl rfl) ?_;refine ar (cS fK rfl (kw (by omega)) rfl) ?_;refine dg rfl (fun I=>?_) (fun I=>?_)
  .have D:=OZ h1 R V I;refine ar (ca (((k-1:Nat):Int)) (by rw[W,show((k-1:Nat):Int)=(k:Int)-1 from by omega];exact bq (by omega) (by omega)) rfl)<|ar (Jb jq rfl rfl (by omega) rfl) ?_;exact⟨⟨k-1,by omega,D⟩,au ⟨by rw[show xs.take (k-1)=(xs.take k).take (k-1) from by rw[xk,jh (by omega)]];rfl,trivial⟩ trivial rfl,by show k-1<k;omega⟩
  .have A:cL (val xs)=cM (xs.take k):=by rw[P8 hL];exact congrArg cM (OI h1 R V I)
   apply ae;rw[A];exact aj aa
theorem m7 (h:k<xs.length):val (xs.take (k+1))=val (xs.take k)+pw k*xs.getD k 0:=aQ (getD_some h)
theorem pK (k:Nat):val (xs.take (k+1))=val (xs.take k)+pw k*xs.getD k 0:=by
 by_cases h:k<xs.length;·exact m7 h
 .rw[fN (by omega),List.getD,uS (by omega)];simp
structure PInv (p q:List Int) (k:Nat) (c:Int) (zs:List Int):Prop where
 le:k<=p.length
 c0:0<=c
 c1:c<=1
 L:Lim zs
 len:zs.length=k
 v:val zs+pw k*c=val (p.take k)+val (q.take k)
theorem PInv.step (h:PInv p q k c zs) (A:Lim p) (I:Lim q) (D:k<p.length) (R:S=c+p.getD k 0+q.getD k 0):PInv p q (k+1) (S/1000000000) (zs++[S%1000000000]):=by have h1:=dm A k;have J:=dm I k;have:=h.c0;have:=h.c1;refine⟨D,by omega,by omega,h.L.snoc (by omega) (by omega),by simp[h.len],?_⟩;rw[pK k,pK k,mX h.len h.v (t:=p.getD k 0+q.getD k 0) (by omega)];grind
theorem PInv.done (h:PInv p q k c zs) (A:k=p.length) (D:q.length<=p.length):val (zs++[c])=val p+val q:=by have:=h.v;rw[o5,h.len,this,A,cV (bk _),cV D]
structure SInv (p q:List Int) (k:Nat) (c:Int) (zs:List Int):Prop where
 le:k<=p.length
 c0:0<=c
 c1:c<=1
 L:Lim zs
 len:zs.length=k
 v:val zs-pw k*c=val (p.take k)-val (q.take k)
theorem SInv.step {c':Int}(h:SInv p q k c zs) (R:k<p.length) (J:0<=d) (I:d<1000000000) (A:0<=c') (D:c'<=1) (V:d-1000000000*c'=p.getD k 0-c-q.getD k 0):SInv p q (k+1) c' (zs++[d]):=by refine⟨R,A,D,h.L.snoc J I,by simp[h.len],?_⟩;have h1:=mX (c:= -c) (S:=val (p.take k)-val (q.take k)) (t:=p.getD k 0-q.getD k 0) (d:=d) (c':= -c') h.len (by rw[Int.mul_neg];have:=h.v;omega) (by omega);rw[pK k,pK k];grind
theorem SInv.done (h:SInv p q k c zs) (A:k=p.length) (I:q.length<=p.length) (V:val q<=val p):val zs=val p-val q:=by
 have h1:=h.v;rw[A,cV (bk _),cV I] at h1;have D:=fD h.L;rw[h.len,A] at D;have R:=h.c0;have J:=h.c1;have:c=0\/c=1:=by omega
 grind
structure TInv (p q:List Int) (i k:Nat) (c:Int) (zs:List Int):Prop where
 ik:i<=p.length
 kk:k<=q.length
 c0:0<=c
 c1:c<1000000000
 L:Lim zs
 len:zs.length=p.length+q.length
 z:Zr zs (i+q.length)
 v:val zs+pw (i+k)*c=val (p.take i)*val q+pw i*(p.getD i 0*val (q.take k))
theorem TInv.start:TInv p q 0 0 0 (List.replicate (p.length+q.length) 0):=
 ⟨Nat.zero_le _,iB _,by omega,by omega,Lim.zeros _,by simp,Zr.zeros _ _,by rw[zx];simp[val]⟩
theorem TInv.step (h:TInv p q i k c zs) (J:Lim p) (W:Lim q) (hi:i<p.length) (D:k<q.length) (hS:S=c+zs.getD (i+k) 0+p.getD i 0*q.getD k 0):TInv p q i (k+1) (S/1000000000) (zs.set (i+k) (S%1000000000)):=by
 have h1:=dm J i
 have A:=dm W k
 have h3:=dm h.L (i+k)
 have I:=h.c0
 have V:=h.c1
 have a3:0<=p.getD i 0*q.getD k 0:=mp h1.1 A.1
 have R:p.getD i 0*q.getD k 0<=999999999*999999999:=qJ (by omega) (by omega) A.1 (by omega)
 have hlt:i+k<zs.length:=by rw[h.len];omega
 refine⟨h.ik,D,by omega,by omega,h.L.set (by omega) (by omega),by simp[h.len],h.z.set (by omega),?_⟩
 rw[BJ (getD_some hlt),m7 D,show i+(k+1)=i+k+1 from by omega,eZ]
 have hv:=h.v
 rw[wJ i k] at*
 grind
theorem TInv.row (h:TInv p q i k c zs) (hi:i<p.length) (I:k=q.length):TInv p q (i+1) 0 0 (zs.set (i+q.length) c):=by
 have hlt:i+q.length<zs.length:=by rw[h.len];omega
 have A:zs.getD (i+q.length) 0=0:=h.z (i+q.length) _ (bk _) (getD_some hlt);refine⟨hi,iB _,by omega,by omega,h.L.set h.c0 h.c1,by simp[h.len],?_,?_⟩;·rw[show i+1+q.length=i+q.length+1 from by omega];exact h.z.set_at
 .rw[BJ (getD_some hlt),A,m7 hi];have D:=h.v;simp only[List.take_zero,val,uR,Int.add_zero,Int.sub_zero];grind
theorem TInv.done (h:TInv p q i 0 0 zs) (hi:i=p.length):val zs=val p*val q:=by have A:=h.v;grind
theorem PQ (A:i<xs.length) (D:i<ys.length) (h:xs.drop (i+1)=ys.drop (i+1)) (I:xs.getD i 0=ys.getD i 0):xs.drop i=ys.drop i:=by rw[ov A,ov D,h];grind
theorem W7 (h:0<=v):dI (sg true v)=.a ([.b (decide (((dr v.natAbs).length:Int)>0))]++[cL v]):=by
 rw[gA];unfold dI cI;have e1:cL (-v)=cL v:=by unfold cL;rw[Int.natAbs_neg]
 have A:decide (-v<0)=decide (((dr v.natAbs).length:Int)>0):=by
  by_cases h0:v=0;·subst h0;simp[li]
  .have:(dr v.natAbs).length≠0:=fun e=>h0 (HE.1 e);rw[show decide (-v<0)=true from by simp;omega,show decide (((dr v.natAbs).length:Int)>0)=true from by simp only[decide_eq_true_eq];omega]
 grind
structure ShInv (xs:List Int) (j:Nat) (r:Int):Prop where
 le:j<=xs.length
 r0:0<=r
 v:r*pw j+val (xs.take j)=val xs
theorem ShInv.step (h:ShInv xs (i+1) r) (D:Lim xs):ShInv xs i (r*1000000000+xs.getD i 0):=by have h1:=dm D i;refine⟨by have:=h.le;omega,by have:=h.r0;omega,?_⟩;have A:=h.v;rw[pK i,eZ] at A;grind
theorem ShInv.bound (h:ShInv xs j r) (A:Lim xs):r<=val xs:=by have:=h.v;have D:=cH (A.take j);have I:=qg (eX j) h.r0;grind
theorem UJ (I:Lim xs) (D:Lim ys) (hn:xs.length<=100000000) (hm:ys.length<=100000000):cq 255 [.c (cM xs),.c (cM ys)] [.c (cL (val xs+val ys))]:=by
 refine dP Tryz.func255 55 [.tmp 4] rfl<|ab<|ag<|ab<|ab<|ag ?_;refine aJ rfl (fun a9=>?_) (fun a9=>?_)
 .have hlt:xs.length<ys.length:=by simp only[decide_eq_true_eq] at a9;omega
  refine ag<|ab<|ag ?_;refine ar (ca ((ys.length:Int)+1) (bc (by(first|omega|(simp;omega))) (by(first|omega|(simp;omega)))) rfl) ?_;refine DL.mk<|qL (nB (n:=ys.length+1) wZ rfl rfl (by(first|omega|(simp;omega))) (by(first|omega|(simp;omega))) rfl) rfl<|iJ ?_;refine ab<|ag<|ab<|ab<|ag<|aM<|bK (ι:={t:Nat×Int×List Int // PInv ys xs t.1 t.2.1 t.2.2}) (fun i=>⟨55,[(0,.v (.c (cM ys))),(1,.v (.c (cM xs))),(5,.o 18 (ys.length+1) (ys.length+1)),(6,.v (.c (.i .u32 i.1.2.1))),(7,.v (.c (.i .i64 (i.1.1:Int))))],[(18,255,(i.1.2.2++List.replicate (ys.length+1-i.1.1) 0).map (CellD.i .u32))]⟩) (fun i=>ys.length-i.1.1) ⟨(0,0,[]),⟨Nat.zero_le _,qG 0,by decide,Lim.nil,rfl,by simp[val]⟩⟩ (au (bt rfl) ⟨by rw[show(List.replicate (ys.length+1) (CellD.i .u32 0))=(([]:List Int)++List.replicate (ys.length+1-0) 0).map (CellD.i .u32) from by simp];rfl,trivial⟩ rfl) ?_;rintro⟨⟨k,c,zs⟩,A⟩;replace A:PInv ys xs k c zs:=A;have g1:=dm D k;have g2:=dm I k;have g3:=A.c0;have g4:=A.c1;have g5:=A.le;have g6:=A.len;dsimp only;refine ab<|ab<|ag ?_;refine aJ rfl (fun b3=>?_) (fun b3=>?_)
  .have R:k<ys.length:=by simp only[decide_eq_true_eq] at b3;omega
   refine aA<|ab<|aM<|ab<|ag ?_;refine ar (cg jq rfl rfl (by(first|omega|(simp;omega))) (jE _) rfl rfl) ?_;refine ar (cS fK rfl (kw (i:=k) (by(first|omega|(simp;omega)))) rfl) ?_;refine ar (ca (c+(ys.getD k 0)) (nM (by(first|omega|(simp;omega))) (by(first|omega|(simp;omega)))) rfl) ?_;refine ab<|ab<|ag ?_;refine aJ rfl (fun a5=>?_) (fun a5=>?_)
   .have W:k<xs.length:=by simp only[decide_eq_true_eq] at a5;omega
    have V:c+ys.getD k 0+xs.getD k 0=c+ys.getD k 0+xs.getD k 0:=rfl;have hb:c+ys.getD k 0+xs.getD k 0<=4294967295:=by omega
    refine ag ?_;refine ar (cg jq rfl rfl (by(first|omega|(simp;omega))) (jE _) rfl rfl) ?_;refine ar (cS fK rfl (kw (i:=k) (by(first|omega|(simp;omega)))) rfl) ?_;refine ar (ca ((c+(ys.getD k 0))+(xs.getD k 0)) (nM (by(first|omega|(simp;omega))) (by(first|omega|(simp;omega)))) rfl) ?_;refine ab<|bN<|cZ 3<|bj (fz (r:=(c+ys.getD k 0+xs.getD k 0)%1000000000) rfl rfl (by omega) (ku (by omega)) rfl) ?_;refine bj (a8 jq rfl rfl (by(first|omega|(simp;omega))) rfl) ?_;refine gS (aV (us:=((zs++List.replicate (ys.length+1-k) 0).set k ((c+ys.getD k 0+xs.getD k 0)%1000000000)).map (CellD.i .u32)) fK rfl rfl rfl rfl (by simp;omega) (qj (by(first|omega|(simp;omega)))) rfl) ?_;refine bO<|ag<|ar (jX (r:=(c+ys.getD k 0+xs.getD k 0)/1000000000) rfl rfl (by omega) (by rw[t6 (by omega)];exact sw (by omega) (by omega)) rfl) ?_;refine ag ?_;refine ar (ca ((k:Int)+1) (bc (by(first|omega|(simp;omega))) (by(first|omega|(simp;omega)))) rfl) ?_;exact⟨⟨(k+1,(c+ys.getD k 0+xs.getD k 0)/1000000000,zs++[(c+ys.getD k 0+xs.getD k 0)%1000000000]),A.step D I R V⟩,au ⟨rfl,rfl,rfl,rfl,by rw[show((k+1:Nat):Int)=(k:Int)+1 from by omega];rfl,trivial⟩ ⟨by rw[show ys.length+1-(k+1)=ys.length-k from by omega,<-mE (m:=ys.length-k) (d:=(c+ys.getD k 0+xs.getD k 0)%1000000000) g6,show ys.length-k+1=ys.length+1-k from by omega];rfl,trivial⟩ rfl,by show ys.length-(k+1)<ys.length-k;omega⟩
   .have W: ¬k<xs.length:=by simp only[decide_eq_false_iff_not] at a5;omega
    have b4:xs.getD k 0=0:=by rw[List.getD,uS (by omega)];rfl
    have V:c+ys.getD k 0=c+ys.getD k 0+xs.getD k 0:=by omega
    refine aA<|ab<|bN<|cZ 3<|bj (fz (r:=(c+ys.getD k 0)%1000000000) rfl rfl (by omega) (ku (by omega)) rfl) ?_;refine bj (a8 jq rfl rfl (by(first|omega|(simp;omega))) rfl) ?_;refine gS (aV (us:=((zs++List.replicate (ys.length+1-k) 0).set k ((c+ys.getD k 0)%1000000000)).map (CellD.i .u32)) fK rfl rfl rfl rfl (by simp;omega) (qj (by(first|omega|(simp;omega)))) rfl) ?_;refine bO<|ag<|ar (jX (r:=(c+ys.getD k 0)/1000000000) rfl rfl (by omega) (by rw[t6 (by omega)];exact sw (by omega) (by omega)) rfl) ?_;refine ag ?_;refine ar (ca ((k:Int)+1) (bc (by(first|omega|(simp;omega))) (by omega)) rfl) ?_;exact⟨⟨(k+1,(c+ys.getD k 0)/1000000000,zs++[(c+ys.getD k 0)%1000000000]),A.step D I R V⟩,au ⟨rfl,rfl,rfl,rfl,by rw[show((k+1:Nat):Int)=(k:Int)+1 from by omega];rfl,trivial⟩ ⟨by rw[show ys.length+1-(k+1)=ys.length-k from by omega,<-mE (m:=ys.length-k) (d:=(c+ys.getD k 0)%1000000000) g6,show ys.length-k+1=ys.length+1-k from by omega];rfl,trivial⟩ rfl,by show ys.length-(k+1)<ys.length-k;omega⟩
  .have R:k=ys.length:=by simp only[decide_eq_false_iff_not] at b3;omega
   have J:(val xs+val ys:Int)=val ((zs++List.replicate (ys.length+1-k) 0).set ys.length c):=by rw[show ys.length+1-k=0+1 from by omega,mE (by omega)];simp only[List.replicate_zero,ws];rw[A.done R (by omega)];omega
   have a6:Lim ((zs++List.replicate (ys.length+1-k) 0).set ys.length c):=(A.L.append (Lim.zeros _)).set g3 (by omega);refine bH<|ab<|bN<|cZ 4 ?_;refine bj (a8 jq rfl rfl (by omega) rfl) ?_;refine gS (aV (us:=((zs++List.replicate (ys.length+1-k) 0).set ys.length c).map (CellD.i .u32)) fK rfl rfl rfl rfl (by simp;omega) (qj (by(first|omega|(simp;omega)))) rfl) ?_;refine bO<|ab ?_;refine vL (t:=5) (zs:=(zs++List.replicate (ys.length+1-k) 0).set ys.length c) (ys:=(zs++List.replicate (ys.length+1-k) 0).set ys.length c) rfl rfl (by first|omega|(simp;omega)|simp) (by omega) (by omega) (dS (by first|omega|(simp;omega)|simp)) ?_;refine ag<|ac rfl (kY a6 (by simp;omega))<|aU ?_;rw[J];exact ae (aj aa)
 .have hlt:ys.length<=xs.length:=by simp only[decide_eq_false_iff_not] at a9;omega
  refine aA<|ab<|ag ?_;refine ar (ca ((xs.length:Int)+1) (bc (by omega) (by omega)) rfl) ?_;refine DL.mk<|qL (nB (n:=xs.length+1) wZ rfl rfl (by omega) (by omega) rfl) rfl<|iJ ?_;refine ab<|ag<|ab<|ab<|ag<|aM<|bK (ι:={t:Nat×Int×List Int // PInv xs ys t.1 t.2.1 t.2.2}) (fun i=>⟨55,[(0,.v (.c (cM xs))),(1,.v (.c (cM ys))),(5,.o 18 (xs.length+1) (xs.length+1)),(6,.v (.c (.i .u32 i.1.2.1))),(7,.v (.c (.i .i64 (i.1.1:Int))))],[(18,255,(i.1.2.2++List.replicate (xs.length+1-i.1.1) 0).map (CellD.i .u32))]⟩) (fun i=>xs.length-i.1.1) ⟨(0,0,[]),⟨Nat.zero_le _,qG 0,by decide,Lim.nil,rfl,by simp[val]⟩⟩ (au (bt rfl) ⟨by rw[show(List.replicate (xs.length+1) (CellD.i .u32 0))=(([]:List Int)++List.replicate (xs.length+1-0) 0).map (CellD.i .u32) from by simp];rfl,trivial⟩ rfl) ?_;rintro⟨⟨k,c,zs⟩,A⟩;replace A:PInv xs ys k c zs:=A;have g1:=dm I k;have g2:=dm D k;have g3:=A.c0;have g4:=A.c1;have g5:=A.le;have g6:=A.len;dsimp only;refine ab<|ab<|ag ?_;refine aJ rfl (fun a3=>?_) (fun a3=>?_)
  .have R:k<xs.length:=by simp only[decide_eq_true_eq] at a3;omega
   refine aA<|ab<|aM<|ab<|ag ?_;refine ar (cg jq rfl rfl (by omega) (jE _) rfl rfl) ?_;refine ar (cS fK rfl (kw (i:=k) (by omega)) rfl) ?_;refine ar (ca (c+(xs.getD k 0)) (nM (by omega) (by omega)) rfl) ?_;refine ab<|ab<|ag ?_;refine aJ rfl (fun a4=>?_) (fun a4=>?_)
   .have W:k<ys.length:=by simp only[decide_eq_true_eq] at a4;omega
    have V:c+xs.getD k 0+ys.getD k 0=c+xs.getD k 0+ys.getD k 0:=rfl;have hb:c+xs.getD k 0+ys.getD k 0<=4294967295:=by omega
    refine ag ?_;refine ar (cg jq rfl rfl (by omega) (jE _) rfl rfl) ?_;refine ar (cS fK rfl (kw (i:=k) (by omega)) rfl) ?_;refine ar (ca ((c+(xs.getD k 0))+(ys.getD k 0)) (nM (by omega) (by omega)) rfl) ?_;refine ab<|bN<|cZ 3<|bj (fz (r:=(c+xs.getD k 0+ys.getD k 0)%1000000000) rfl rfl (by omega) (ku (by omega)) rfl) ?_;refine bj (a8 jq rfl rfl (by omega) rfl) ?_;refine gS (aV (us:=((zs++List.replicate (xs.length+1-k) 0).set k ((c+xs.getD k 0+ys.getD k 0)%1000000000)).map (CellD.i .u32)) fK rfl rfl rfl rfl (by simp;omega) (qj (by(first|omega|(simp;omega)))) rfl) ?_;refine bO<|ag<|ar (jX (r:=(c+xs.getD k 0+ys.getD k 0)/1000000000) rfl rfl (by omega) (by rw[t6 (by omega)];exact sw (by omega) (by omega)) rfl) ?_;refine ag ?_;refine ar (ca ((k:Int)+1) (bc (by omega) (by omega)) rfl) ?_;exact⟨⟨(k+1,(c+xs.getD k 0+ys.getD k 0)/1000000000,zs++[(c+xs.getD k 0+ys.getD k 0)%1000000000]),A.step I D R V⟩,au ⟨rfl,rfl,rfl,rfl,by rw[show((k+1:Nat):Int)=(k:Int)+1 from by omega];rfl,trivial⟩ ⟨by rw[show xs.length+1-(k+1)=xs.length-k from by omega,<-mE (m:=xs.length-k) (d:=(c+xs.getD k 0+ys.getD k 0)%1000000000) g6,show xs.length-k+1=xs.length+1-k from by omega];rfl,trivial⟩ rfl,by show xs.length-(k+1)<xs.length-k;omega⟩
   .have W: ¬k<ys.length:=by simp only[decide_eq_false_iff_not] at a4;omega
    have b4:ys.getD k 0=0:=by rw[List.getD,uS (by omega)];rfl
    have V:c+xs.getD k 0=c+xs.getD k 0+ys.getD k 0:=by omega
    refine aA<|ab<|bN<|cZ 3<|bj (fz (r:=(c+xs.getD k 0)%1000000000) rfl rfl (by omega) (ku (by omega)) rfl) ?_;refine bj (a8 jq rfl rfl (by omega) rfl) ?_;refine gS (aV (us:=((zs++List.replicate (xs.length+1-k) 0).set k ((c+xs.getD k 0)%1000000000)).map (CellD.i .u32)) fK rfl rfl rfl rfl (by simp;omega) (qj (by(first|omega|(simp;omega)))) rfl) ?_;refine bO<|ag<|ar (jX (r:=(c+xs.getD k 0)/1000000000) rfl rfl (by omega) (by rw[t6 (by omega)];exact sw (by omega) (by omega)) rfl) ?_;refine ag ?_;refine ar (ca ((k:Int)+1) (bc (by omega) (by omega)) rfl) ?_;exact⟨⟨(k+1,(c+xs.getD k 0)/1000000000,zs++[(c+xs.getD k 0)%1000000000]),A.step I D R V⟩,au ⟨rfl,rfl,rfl,rfl,by rw[show((k+1:Nat):Int)=(k:Int)+1 from by omega];rfl,trivial⟩ ⟨by rw[show xs.length+1-(k+1)=xs.length-k from by omega,<-mE (m:=xs.length-k) (d:=(c+xs.getD k 0)%1000000000) g6,show xs.length-k+1=xs.length+1-k from by omega];rfl,trivial⟩ rfl,by show xs.length-(k+1)<xs.length-k;omega⟩
  .have R:k=xs.length:=by simp only[decide_eq_false_iff_not] at a3;omega
   have J:(val xs+val ys:Int)=val ((zs++List.replicate (xs.length+1-k) 0).set xs.length c):=by rw[show xs.length+1-k=0+1 from by omega,mE (by omega)];simp only[List.replicate_zero,ws];rw[A.done R (by omega)]
   have a6:Lim ((zs++List.replicate (xs.length+1-k) 0).set xs.length c):=(A.L.append (Lim.zeros _)).set g3 (by omega);refine bH<|ab<|bN<|cZ 4 ?_;refine bj (a8 jq rfl rfl (by omega) rfl) ?_;refine gS (aV (us:=((zs++List.replicate (xs.length+1-k) 0).set xs.length c).map (CellD.i .u32)) fK rfl rfl rfl rfl (by simp;omega) (qj (by(first|omega|(simp;omega)))) rfl) ?_;refine bO<|ab ?_;refine vL (t:=5) (zs:=(zs++List.replicate (xs.length+1-k) 0).set xs.length c) (ys:=(zs++List.replicate (xs.length+1-k) 0).set xs.length c) rfl rfl (by first|omega|(simp;omega)|simp) (by omega) (by omega) (dS (by first|omega|(simp;omega)|simp)) ?_;refine ag<|ac rfl (kY a6 (by simp;omega))<|aU ?_;rw[J];exact ae (aj aa)
theorem OW (b4:Lim xs) (a9:Lim ys) (hn:xs.length<=100000000) (a6:ys.length<=xs.length) (b7:val ys<=val xs):cq 257 [.c (cM xs),.c (cM ys)] [.c (cL (val xs-val ys))]:=by
 refine dP Tryz.func257 45 [.tmp 4] rfl<|ab<|ag<|ab<|ag ?_;refine DL.mk<|qL (nB wZ rfl rfl (by omega) (by omega) rfl) rfl<|iJ ?_;refine ab<|ag<|ab<|ab<|ag<|aM<|bK (ι:={t:Nat×Int×List Int // SInv xs ys t.1 t.2.1 t.2.2}) (fun i=>⟨45,[(0,.v (.c (cM xs))),(1,.v (.c (cM ys))),(5,.o 11 xs.length xs.length),(6,.v (.c (.i .u32 i.1.2.1))),(7,.v (.c (.i .i64 (i.1.1:Int))))],[(11,255,(i.1.2.2++List.replicate (xs.length-i.1.1) 0).map (CellD.i .u32))]⟩) (fun i=>xs.length-i.1.1) ⟨(0,0,[]),⟨Nat.zero_le _,qG 0,by decide,Lim.nil,rfl,by simp[val]⟩⟩ (au (bt rfl) ⟨by rw[show(List.replicate xs.length (CellD.i .u32 0))=(([]:List Int)++List.replicate (xs.length-0) 0).map (CellD.i .u32) from by simp];rfl,trivial⟩ rfl) ?_;rintro⟨⟨k,c,zs⟩,V⟩;replace V:SInv xs ys k c zs:=V;have g1:=dm b4 k;have g2:=dm a9 k;have g3:=V.c0;have g4:=V.c1;have g5:=V.le;have g6:=V.len;dsimp only;refine ab<|ab<|ag ?_;refine aJ rfl (fun a5=>?_) (fun a5=>?_)
 .have hk:k<xs.length:=by simp only[decide_eq_true_eq] at a5;omega
  refine aA<|ab<|aM<|ab<|ag ?_;refine ar (cg jq rfl rfl (by omega) (jE _) rfl rfl) ?_;refine ar (cS fK rfl (kw (by omega)) rfl) ?_;refine ar (ca ((xs.getD k 0)+1000000000) (nM (by omega) (by omega)) rfl) ?_;refine ar (ca (((xs.getD k 0)+1000000000)-c) (qC (by omega) (by omega)) rfl) ?_;refine ab<|ab<|ag ?_;refine aJ rfl (fun a3=>?_) (fun a3=>?_)
  .have b5:k<ys.length:=by simp only[decide_eq_true_eq] at a3;omega
   refine ag ?_;refine ar (cg jq rfl rfl (by omega) (jE _) rfl rfl) ?_;refine ar (cS fK rfl (kw (by omega)) rfl) ?_;refine ar (ca ((((xs.getD k 0)+1000000000)-c)-(ys.getD k 0)) (qC (by omega) (by omega)) rfl) ?_;refine ab<|ag<|ab<|ab<|ag ?_;refine aJ rfl (fun a4=>?_) (fun a4=>?_)
   .simp only[decide_eq_true_eq] at a4;have I:0<=xs.getD k 0+1000000000-c-ys.getD k 0-1000000000:=by omega
    have D:xs.getD k 0+1000000000-c-ys.getD k 0-1000000000<1000000000:=by omega
    have R:(0:Int)<=0:=by omega
    have J:(0:Int)<=1:=by omega
    have A:xs.getD k 0+1000000000-c-ys.getD k 0-1000000000-1000000000*0=xs.getD k 0-c-ys.getD k 0:=by omega
    refine ag ?_;refine ar (ca (((((xs.getD k 0)+1000000000)-c)-(ys.getD k 0))-1000000000) (qC (by omega) (by omega)) rfl) ?_;refine bN<|cZ 3 ?_;refine bj (a8 jq rfl rfl (by omega) rfl) ?_;refine gS (aV fK rfl rfl rfl rfl (by simp;omega) (qj (by(first|omega|(simp;omega)))) rfl) ?_;refine bO<|ag ?_;refine ar (ca ((k:Int)+1) (bc (by omega) (by omega)) rfl) ?_;exact⟨⟨(k+1,0,zs++[xs.getD k 0+1000000000-c-ys.getD k 0-1000000000]),V.step hk I D R J A⟩,au ⟨rfl,rfl,rfl,rfl,by rw[show((k+1:Nat):Int)=(k:Int)+1 from by omega];rfl,trivial⟩ ⟨by rw[show xs.length-(k+1)=xs.length-k-1 from by omega,<-mE g6,show xs.length-k-1+1=xs.length-k from by omega];rfl,trivial⟩ rfl,by show xs.length-(k+1)<xs.length-k;omega⟩
   .simp only[decide_eq_false_iff_not] at a4;have I:0<=xs.getD k 0+1000000000-c-ys.getD k 0:=by omega
    have D:xs.getD k 0+1000000000-c-ys.getD k 0<1000000000:=by omega
    have R:(0:Int)<=1:=by omega
    have J:(1:Int)<=1:=by omega
    have A:xs.getD k 0+1000000000-c-ys.getD k 0-1000000000*1=xs.getD k 0-c-ys.getD k 0:=by omega
    refine aA<|bN<|cZ 3 ?_;refine bj (a8 jq rfl rfl (by omega) rfl) ?_;refine gS (aV fK rfl rfl rfl rfl (by simp;omega) (qj (by(first|omega|(simp;omega)))) rfl) ?_;refine bO<|ag ?_;refine ar (ca ((k:Int)+1) (bc (by omega) (by omega)) rfl) ?_;exact⟨⟨(k+1,1,zs++[xs.getD k 0+1000000000-c-ys.getD k 0]),V.step hk I D R J A⟩,au ⟨rfl,rfl,rfl,rfl,by rw[show((k+1:Nat):Int)=(k:Int)+1 from by omega];rfl,trivial⟩ ⟨by rw[show xs.length-(k+1)=xs.length-k-1 from by omega,<-mE g6,show xs.length-k-1+1=xs.length-k from by omega];rfl,trivial⟩ rfl,by show xs.length-(k+1)<xs.length-k;omega⟩
  .have b5: ¬k<ys.length:=by simp only[decide_eq_false_iff_not] at a3;omega
   have c3:ys.getD k 0=0:=by rw[List.getD,uS (by omega)];rfl
   refine aA<|ab<|ag<|ab<|ab<|ag ?_;refine aJ rfl (fun W=>?_) (fun W=>?_)
   .simp only[decide_eq_true_eq] at W;have I:0<=xs.getD k 0+1000000000-c-1000000000:=by omega
    have D:xs.getD k 0+1000000000-c-1000000000<1000000000:=by omega
    have R:(0:Int)<=0:=by omega
    have J:(0:Int)<=1:=by omega
    have A:xs.getD k 0+1000000000-c-1000000000-1000000000*0=xs.getD k 0-c-ys.getD k 0:=by omega
    refine ag ?_;refine ar (ca ((((xs.getD k 0)+1000000000)-c)-1000000000) (qC (by omega) (by omega)) rfl) ?_;refine bN<|cZ 3 ?_;refine bj (a8 jq rfl rfl (by omega) rfl) ?_;refine gS (aV fK rfl rfl rfl rfl (by simp;omega) (qj (by(first|omega|(simp;omega)))) rfl) ?_;refine bO<|ag ?_;refine ar (ca ((k:Int)+1) (bc (by omega) (by omega)) rfl) ?_;exact⟨⟨(k+1,0,zs++[xs.getD k 0+1000000000-c-1000000000]),V.step hk I D R J A⟩,au ⟨rfl,rfl,rfl,rfl,by rw[show((k+1:Nat):Int)=(k:Int)+1 from by omega];rfl,trivial⟩ ⟨by rw[show xs.length-(k+1)=xs.length-k-1 from by omega,<-mE g6,show xs.length-k-1+1=xs.length-k from by omega];rfl,trivial⟩ rfl,by show xs.length-(k+1)<xs.length-k;omega⟩
   .simp only[decide_eq_false_iff_not] at W;have I:0<=xs.getD k 0+1000000000-c:=by omega
    have D:xs.getD k 0+1000000000-c<1000000000:=by omega
    have R:(0:Int)<=1:=by omega
    have J:(1:Int)<=1:=by omega
    have A:xs.getD k 0+1000000000-c-1000000000*1=xs.getD k 0-c-ys.getD k 0:=by omega
    refine aA<|bN<|cZ 3 ?_;refine bj (a8 jq rfl rfl (by omega) rfl) ?_;refine gS (aV fK rfl rfl rfl rfl (by simp;omega) (qj (by(first|omega|(simp;omega)))) rfl) ?_;refine bO<|ag ?_;refine ar (ca ((k:Int)+1) (bc (by omega) (by omega)) rfl) ?_;exact⟨⟨(k+1,1,zs++[xs.getD k 0+1000000000-c]),V.step hk I D R J A⟩,au ⟨rfl,rfl,rfl,rfl,by rw[show((k+1:Nat):Int)=(k:Int)+1 from by omega];rfl,trivial⟩ ⟨by rw[show xs.length-(k+1)=xs.length-k-1 from by omega,<-mE g6,show xs.length-k-1+1=xs.length-k from by omega];rfl,trivial⟩ rfl,by show xs.length-(k+1)<xs.length-k;omega⟩
 .have hk:k=xs.length:=by simp only[decide_eq_false_iff_not] at a5;omega
  have b3:val xs-val ys=val (zs++List.replicate (xs.length-k) 0):=by rw[show xs.length-k=0 from by omega];simp only[List.replicate_zero,ws];rw[V.done hk a6 b7]
  have b6:Lim (zs++List.replicate (xs.length-k) 0):=V.L.append (Lim.zeros _);refine bH<|ab ?_;refine vL (t:=5) rfl rfl (by first|omega|(simp;omega)|simp) (by omega) (by omega) (dS (by first|omega|(simp;omega)|simp)) ?_;refine ag<|ac rfl (kY b6 (by simp;omega))<|aU ?_;rw[b3];exact ae (aj aa)
end Go.Proofs.YtegeknjkgadehaaGreat
