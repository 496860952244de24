/-The types of this program,as the walks ask of them. -/
import Derived.Test.YtegeknjkgadehaaGreatTwE
import Derived.Test.YtegeknjkgadehaaGreatProg
namespace Go.Proofs.YtegeknjkgadehaaGreat
open Go Go.RowKit
variable {ops:Array Oper}{B:BF}{z:CellD}{Q:Exit->St->Prop}{S a b c d m r u v x y:Int}{ki:IntKind}{tm:List (Nat×DV)}{bx nb:List (Nat×TypeId×List CellD)}{cs:List CellD}{p q rs xs ys zs:List Int}{hs sd:List Nat}{l os pre tail:List Oper}{by_ i id j k n:Nat}{op:Op}{P:Program}{s:SA}{σ:St}{K:St->Prop}{T:TF}{U e t1 t2 xt yt:TypeId}
variable {ty:TypeId}{pos:String}{af:Array Edge}{g:Option (Nat×Bool)}{dst:Option Nat}
theorem fg:type_of% @Ok.fn:=@Ok.fn
theorem lI:type_of% @Int.tmod_eq_emod_of_nonneg:=@Int.tmod_eq_emod_of_nonneg
theorem pM:type_of% @Int.fdiv_eq_ediv_of_nonneg:=@Int.fdiv_eq_ediv_of_nonneg
theorem qA:type_of% @List.forall_mem_cons:=@List.forall_mem_cons
theorem sT:type_of% @Int.tdiv_eq_ediv_of_nonneg:=@Int.tdiv_eq_ediv_of_nonneg
theorem si:type_of% @Int.mul_zero:=@Int.mul_zero
theorem uL:type_of% @Int.mul_ediv_add_emod:=@Int.mul_ediv_add_emod
theorem uj:type_of% @List.take_take:=@List.take_take
theorem zi:type_of% @Int.eq_ofNat_of_zero_le:=@Int.eq_ofNat_of_zero_le
theorem dV:Tryz.prog.follows .mixedOrders=true:=by kernel_rfl
theorem f5:Tryz.prog.underlying 4=some .bool:=by kernel_rfl
theorem nP (m:Nat) (D:l.take m=pre) (w:l.drop m=tail)
 (h:dq Tryz.prog l.toArray [] pre ⟨σ,[],[]⟩ fun s=>dl Tryz.prog l.toArray tail s.merge (Q .normal)) (E:Kr l.toArray m σ.n=true:=by kernel_rfl):Dw Tryz.prog (.region id l.toArray true) σ Q:=rW m [] dV E D w h
theorem IN:rl Tryz.prog 192=some (45,8,128,[.b false,.s 0 [],.b false,.s 0 [],.b false,.s 0 [],.b false,.s 0 []]):=by kernel_rfl
theorem Zl:rl Tryz.prog 204=some (2,1,8,[.i .i64 0]):=by kernel_rfl
theorem eF:rl Tryz.prog 30=some (53,66,1040,[.b false,.b false,.s 0 [],.b false,.s 0 [],.b false,.s 0 [],.b false,.s 0 [],.b false,.s 0 [],.b false,.s 0 [],.b false,.s 0 [],.b false,.s 0 [],.b false,.s 0 [],.b false,.s 0 [],.b false,.s 0 [],.b false,.s 0 [],.b false,.b false,.s 0 [],.b false,.s 0 [],.b false,.s 0 [],.b false,.s 0 [],.b false,.s 0 [],.b false,.s 0 [],.b false,.s 0 [],.b false,.s 0 [],.b false,.s 0 [],.b false,.s 0 [],.b false,.s 0 [],.b false,.s 0 [],.b false,.s 0 [],.b false,.s 0 [],.b false,.s 0 [],.b false,.s 0 [],.b false,.s 0 [],.b false,.s 0 [],.b false,.s 0 [],.b false,.s 0 []]):=by kernel_rfl
theorem wy:rl Tryz.prog 36=some (255,1,4,[.i .u32 0]):=by kernel_rfl
theorem jg:rl Tryz.prog 71=some (42,20,320,[.b false,.s 0 [],.b false,.s 0 [],.b false,.s 0 [],.b false,.s 0 [],.b false,.s 0 [],.b false,.s 0 [],.b false,.s 0 [],.b false,.s 0 [],.b false,.s 0 [],.b false,.s 0 []]):=by kernel_rfl
theorem Na:Nk Tryz.prog 139 6=some 6:=by kernel_rfl
theorem Rb:Nk Tryz.prog 32 0=some 0:=by kernel_rfl
theorem TZ:Nk Tryz.prog 53 3=some 25:=by kernel_rfl
theorem K1:Nk Tryz.prog 53 4=some 26:=by kernel_rfl
theorem vU:Nk Tryz.prog 53 5=some 46:=by kernel_rfl
theorem Zw:FJ Tryz.prog 116=some [(0,4),(4,4),(8,4),(12,4),(16,4),(20,4)]:=by kernel_rfl
theorem afw:FJ Tryz.prog 224=some [(0,1)]:=by kernel_rfl
theorem GQ:FJ Tryz.prog 287=some [(0,1),(1,12)]:=by kernel_rfl
theorem Tf:FJ Tryz.prog 32=some [(0,1)]:=by kernel_rfl
theorem KS:FJ Tryz.prog 38=some [(0,1),(1,1)]:=by kernel_rfl
theorem vx:FJ Tryz.prog 40=some [(0,2),(2,2)]:=by kernel_rfl
theorem NX:FJ Tryz.prog 42=some [(0,4),(4,4),(8,4),(12,4),(16,4)]:=by kernel_rfl
theorem Ku:FJ Tryz.prog 45=some [(0,4),(4,4)]:=by kernel_rfl
theorem U2:FJ Tryz.prog 49=some [(0,4),(4,4),(8,4)]:=by kernel_rfl
theorem afZ:FJ Tryz.prog 51=some [(0,4),(4,4),(8,4)]:=by kernel_rfl
theorem Uu:FJ Tryz.prog 53=some [(0,1),(1,12),(13,12),(25,1),(26,20),(46,20)]:=by kernel_rfl
theorem Cu:FJ Tryz.prog 59=some [(0,4),(4,4),(8,4)]:=by kernel_rfl
theorem vq:FJ Tryz.prog 89=some [(0,1),(1,1)]:=by kernel_rfl
theorem Mn:om Tryz.prog 137=some 2:=by kernel_rfl
theorem zX:om Tryz.prog 192=some 8:=by kernel_rfl
theorem LY:om Tryz.prog 204=some 1:=by kernel_rfl
theorem PF:om Tryz.prog 23=some 7:=by kernel_rfl
theorem dr:om Tryz.prog 30=some 66:=by kernel_rfl
theorem jb:om Tryz.prog 36=some 1:=by kernel_rfl
theorem ko:om Tryz.prog 71=some 20:=by kernel_rfl
theorem YB:mv Tryz.prog 116=some (true,24):=by kernel_rfl
theorem Yh:mv Tryz.prog 137=some (false,1):=by kernel_rfl
theorem Rc:mv Tryz.prog 139=some (true,7):=by kernel_rfl
theorem ty2:mv Tryz.prog 2=some (false,1):=by kernel_rfl
theorem Du:mv Tryz.prog 24=some (false,1):=by kernel_rfl
theorem adQ:mv Tryz.prog 25=some (false,1):=by kernel_rfl
theorem eZ:mv Tryz.prog 255=some (false,1):=by kernel_rfl
theorem af5:mv Tryz.prog 27=some (true,6):=by kernel_rfl
theorem sZ:mv Tryz.prog 287=some (true,13):=by kernel_rfl
theorem afT:mv Tryz.prog 29=some (true,3):=by kernel_rfl
theorem WJ:mv Tryz.prog 3=some (false,1):=by kernel_rfl
theorem afg:mv Tryz.prog 30=some (false,1):=by kernel_rfl
theorem CQ:mv Tryz.prog 32=some (true,1):=by kernel_rfl
theorem ep:mv Tryz.prog 38=some (true,2):=by kernel_rfl
theorem jY:mv Tryz.prog 4=some (false,1):=by kernel_rfl
theorem bV:mv Tryz.prog 40=some (true,4):=by kernel_rfl
theorem bo:mv Tryz.prog 42=some (true,20):=by kernel_rfl
theorem Af:mv Tryz.prog 45=some (true,8):=by kernel_rfl
theorem zq:mv Tryz.prog 49=some (true,12):=by kernel_rfl
theorem ty5:mv Tryz.prog 5=some (false,1):=by kernel_rfl
theorem zg:mv Tryz.prog 51=some (true,12):=by kernel_rfl
theorem bg:mv Tryz.prog 53=some (true,66):=by kernel_rfl
theorem jG:mv Tryz.prog 59=some (true,12):=by kernel_rfl
theorem Uw:mv Tryz.prog 64=some (false,1):=by kernel_rfl
theorem mz:mv Tryz.prog 89=some (true,2):=by kernel_rfl
theorem nu:Tryz.prog.underlying 2=some (.int .i64):=by kernel_rfl
theorem fB:Tryz.prog.underlying 210=some (.int .u64):=by kernel_rfl
theorem vE:Tryz.prog.underlying 24=some (.int .i16):=by kernel_rfl
theorem Zi:Tryz.prog.underlying 25=some (.int .u16):=by kernel_rfl
theorem jr:Tryz.prog.underlying 255=some (.int .u32):=by kernel_rfl
theorem WK:Tryz.prog.underlying 5=some (.int .u8):=by kernel_rfl
theorem Ye:Tryz.prog.underlying 64=some (.int .i8):=by kernel_rfl
theorem SG:BW Tryz.prog 116=some [.b false,.s 0 [],.b false,.s 0 [],.b false,.s 0 [],.b false,.s 0 [],.b false,.s 0 [],.b false,.s 0 [],.b false,.s 0 [],.b false,.s 0 [],.b false,.s 0 [],.b false,.s 0 [],.b false,.s 0 [],.b false,.s 0 []]:=by kernel_rfl
theorem aec:BW Tryz.prog 224=some [.b false]:=by kernel_rfl
theorem ad0:BW Tryz.prog 244=some [.i .i64 0,.b false,.s 0 [],.b false,.s 0 [],.b false,.s 0 [],.b false,.s 0 [],.b false,.s 0 [],.b false,.s 0 []]:=by kernel_rfl
theorem D8:BW Tryz.prog 287=some [.i .i64 0,.b false,.s 0 [],.b false,.s 0 [],.b false,.s 0 [],.b false,.s 0 [],.b false,.s 0 [],.b false,.s 0 []]:=by kernel_rfl
theorem Ny:BW Tryz.prog 32=some [.s 0 []]:=by kernel_rfl
theorem Dk:BW Tryz.prog 38=some [.b false,.s 0 []]:=by kernel_rfl
theorem uu:BW Tryz.prog 40=some [.b false,.s 0 [],.b false,.s 0 []]:=by kernel_rfl
theorem JK:BW Tryz.prog 42=some [.b false,.s 0 [],.b false,.s 0 [],.b false,.s 0 [],.b false,.s 0 [],.b false,.s 0 [],.b false,.s 0 [],.b false,.s 0 [],.b false,.s 0 [],.b false,.s 0 [],.b false,.s 0 []]:=by kernel_rfl
theorem IQ:BW Tryz.prog 45=some [.b false,.s 0 [],.b false,.s 0 [],.b false,.s 0 [],.b false,.s 0 []]:=by kernel_rfl
theorem RR:BW Tryz.prog 49=some [.b false,.s 0 [],.b false,.s 0 [],.b false,.s 0 [],.b false,.s 0 [],.b false,.s 0 [],.b false,.s 0 []]:=by kernel_rfl
theorem afk:BW Tryz.prog 51=some [.b false,.s 0 [],.b false,.s 0 [],.b false,.s 0 [],.b false,.s 0 [],.b false,.s 0 [],.b false,.s 0 []]:=by kernel_rfl
theorem Kv:BW Tryz.prog 53=some [.b false,.b false,.s 0 [],.b false,.s 0 [],.b false,.s 0 [],.b false,.s 0 [],.b false,.s 0 [],.b false,.s 0 [],.b false,.s 0 [],.b false,.s 0 [],.b false,.s 0 [],.b false,.s 0 [],.b false,.s 0 [],.b false,.s 0 [],.b false,.b false,.s 0 [],.b false,.s 0 [],.b false,.s 0 [],.b false,.s 0 [],.b false,.s 0 [],.b false,.s 0 [],.b false,.s 0 [],.b false,.s 0 [],.b false,.s 0 [],.b false,.s 0 [],.b false,.s 0 [],.b false,.s 0 [],.b false,.s 0 [],.b false,.s 0 [],.b false,.s 0 [],.b false,.s 0 [],.b false,.s 0 [],.b false,.s 0 [],.b false,.s 0 [],.b false,.s 0 []]:=by kernel_rfl
theorem Aj:BW Tryz.prog 59=some [.b false,.s 0 [],.b false,.s 0 [],.b false,.s 0 [],.b false,.s 0 [],.b false,.s 0 [],.b false,.s 0 []]:=by kernel_rfl
theorem tP:BW Tryz.prog 89=some [.i .i64 0,.i .i64 0]:=by kernel_rfl
def fl {h:Type}(U n:Nat) (x y:Option h):Option h:=bif Nat.blt U n then x else y
def jd {h:Type}(U n:Nat) (x:h):Option h:=bif Nat.beq U n then some x else none
def uM (U n:Nat) (x:Option Nat):Option Nat:=bif Nat.beq U n then x else none
def jH:List Nat->Nat->Option Nat
 |[],_=>none
 |x::_,0=>some x
 |_::l,i+1=>jH l i
def tyF (U:Nat):Option (Bool×Nat):=fl U 59 (fl U 31 (fl U 12 (fl U 6 (fl U 4 (fl U 3 (jd U 2 (false,1)) (jd U 3 (false,1))) (fl U 5 (jd U 4 (false,1)) (jd U 5 (false,1)))) (fl U 10 (fl U 9 (jd U 6 (false,1)) (jd U 9 (false,1))) (fl U 11 (jd U 10 (false,1)) (jd U 11 (false,1))))) (fl U 24 (fl U 22 (fl U 21 (jd U 12 (false,1)) (jd U 21 (false,1))) (fl U 23 (jd U 22 (false,1)) (jd U 23 (false,1)))) (fl U 27 (fl U 25 (jd U 24 (false,1)) (jd U 25 (false,1))) (fl U 29 (jd U 27 (true,6)) (fl U 30 (jd U 29 (true,3)) (jd U 30 (false,1))))))) (fl U 44 (fl U 39 (fl U 36 (fl U 32 (jd U 31 (true,1)) (jd U 32 (true,1))) (fl U 38 (jd U 36 (false,1)) (jd U 38 (true,2)))) (fl U 41 (fl U 40 (jd U 39 (true,4)) (jd U 40 (true,4))) (fl U 42 (jd U 41 (true,20)) (jd U 42 (true,20))))) (fl U 50 (fl U 48 (fl U 45 (jd U 44 (true,8)) (jd U 45 (true,8))) (fl U 49 (jd U 48 (true,12)) (jd U 49 (true,12)))) (fl U 52 (fl U 51 (jd U 50 (true,12)) (jd U 51 (true,12))) (fl U 53 (jd U 52 (true,66)) (fl U 54 (jd U 53 (true,66)) (jd U 54 (false,1)))))))) (fl U 204 (fl U 94 (fl U 68 (fl U 66 (fl U 64 (jd U 59 (true,12)) (jd U 64 (false,1))) (fl U 67 (jd U 66 (true,8)) (jd U 67 (true,17)))) (fl U 87 (fl U 71 (jd U 68 (true,17)) (jd U 71 (false,1))) (fl U 89 (jd U 87 (true,6)) (jd U 89 (true,2))))) (fl U 139 (fl U 116 (fl U 115 (jd U 94 (true,2)) (jd U 115 (true,24))) (fl U 137 (jd U 116 (true,24)) (jd U 137 (false,1)))) (fl U 145 (fl U 144 (jd U 139 (true,7)) (jd U 144 (true,16))) (fl U 192 (jd U 145 (true,16)) (fl U 193 (jd U 192 (false,1)) (jd U 193 (true,2))))))) (fl U 287 (fl U 244 (fl U 224 (fl U 210 (jd U 204 (false,1)) (jd U 210 (false,1))) (fl U 243 (jd U 224 (true,1)) (jd U 243 (true,13)))) (fl U 261 (fl U 255 (jd U 244 (true,13)) (jd U 255 (false,1))) (fl U 286 (jd U 261 (false,1)) (jd U 286 (true,13))))) (fl U 319 (fl U 294 (fl U 290 (jd U 287 (true,13)) (jd U 290 (false,1))) (fl U 306 (jd U 294 (false,1)) (jd U 306 (false,1)))) (fl U 336 (fl U 335 (jd U 319 (false,1)) (jd U 335 (false,1))) (fl U 339 (jd U 336 (false,1)) (fl U 340 (jd U 339 (false,1)) (jd U 340 (false,1))))))))
def slF (U:Nat):Option Nat:=fl U 137 (fl U 30 (fl U 23 (jd U 22 7) (jd U 23 7)) (fl U 36 (jd U 30 66) (fl U 71 (jd U 36 1) (jd U 71 20)))) (fl U 204 (fl U 192 (jd U 137 2) (jd U 192 8)) (fl U 290 (jd U 204 1) (fl U 294 (jd U 290 1) (jd U 294 12))))
def fdF (U i:Nat):Option Nat:=fl U 59 (fl U 42 (fl U 38 (fl U 31 (fl U 29 (uM U 27 (jH [0,1,2,3,4,5] i)) (uM U 29 (jH [0,1,2] i))) (fl U 32 (uM U 31 (jH [0] i)) (uM U 32 (jH [0] i)))) (fl U 40 (fl U 39 (uM U 38 (jH [0,1] i)) (uM U 39 (jH [0,2] i))) (fl U 41 (uM U 40 (jH [0,2] i)) (uM U 41 (jH [0,4,8,12,16] i))))) (fl U 49 (fl U 45 (fl U 44 (uM U 42 (jH [0,4,8,12,16] i)) (uM U 44 (jH [0,4] i))) (fl U 48 (uM U 45 (jH [0,4] i)) (uM U 48 (jH [0,4,8] i)))) (fl U 51 (fl U 50 (uM U 49 (jH [0,4,8] i)) (uM U 50 (jH [0,4,8] i))) (fl U 52 (uM U 51 (jH [0,4,8] i)) (fl U 53 (uM U 52 (jH [0,1,13,25,26,46] i)) (uM U 53 (jH [0,1,13,25,26,46] i))))))) (fl U 116 (fl U 87 (fl U 67 (fl U 66 (uM U 59 (jH [0,4,8] i)) (uM U 66 (jH [0,1,2,3,4,5,6,7] i))) (fl U 68 (uM U 67 (jH [0,8,16] i)) (uM U 68 (jH [0,8,16] i)))) (fl U 94 (fl U 89 (uM U 87 (jH [0,1,2,3,4,5] i)) (uM U 89 (jH [0,1] i))) (fl U 115 (uM U 94 (jH [0,1] i)) (uM U 115 (jH [0,4,8,12,16,20] i))))) (fl U 224 (fl U 144 (fl U 139 (uM U 116 (jH [0,4,8,12,16,20] i)) (uM U 139 (jH [0,1,2,3,4,5,6] i))) (fl U 145 (uM U 144 (jH [0,4,8,12] i)) (uM U 145 (jH [0,4,8,12] i)))) (fl U 244 (fl U 243 (uM U 224 (jH [0] i)) (uM U 243 (jH [0,1] i))) (fl U 286 (uM U 244 (jH [0,1] i)) (fl U 287 (uM U 286 (jH [0,1] i)) (uM U 287 (jH [0,1] i)))))))
def tb:Tb:=⟨fun U=>bif Nat.blt U 341 then tyF U else none,fun U i=>bif Nat.blt U 341&&Nat.blt i 16 then fdF U i else none,fun U=>bif Nat.blt U 341 then slF U else none⟩
theorem Ub:TbOk Tryz.prog tb:=TbOk.of (by kernel_rfl) (by kernel_rfl) (by kernel_rfl)
theorem i9 (k:Nat) (h:Z2 Tryz.prog tb ops K n k os tm bx):dl Tryz.prog ops os ⟨n,tm,bx⟩ K:=Ua Ub h
theorem dU {K:Sq->Prop}(k:Nat) (h:stq Tryz.prog tb ops hs K n k os tm bx nb sd):dq Tryz.prog ops hs os ⟨⟨n,tm,bx⟩,nb,sd⟩ K:=WF Ub h
theorem jA (h:ste tb ops K n os tm bx):dl Tryz.prog ops os ⟨n,tm,bx⟩ K:=Jb Ub h
theorem Cl {K:Sq->Prop}(h:sqe tb ops hs K n os tm bx nb sd):dq Tryz.prog ops hs os ⟨⟨n,tm,bx⟩,nb,sd⟩ K:=LL Ub h
def cQ (n d:Int):List CellD:=cI n++cI d
def dQ (n d:Int):D0:=.a (cQ n d)
def cR (x:Rat):List CellD:=cQ x.num (x.den:Int)
def dR (x:Rat):D0:=.a (cR x)
theorem zN {q:Int}(N:y≠0) (h:x=y*q+r) (H:0<y->0<=r/\r<y) (I:y<0->y<r/\r<=0):x.fdiv y=q/\x.fmod y=r:=by
 have J:x.fdiv y=q:=by
  rcases Int.lt_or_gt_of_ne N with w|w
  ·obtain⟨D,E⟩:=I w;rw[<-Int.neg_fdiv_neg,pM _ (by omega)];have:=(Int.ediv_emod_unique (a:= -x) (b:= -y) (r:= -r) (q:=q) (by omega)).2 ⟨by rw[h];simp only[Int.neg_mul];omega,by omega,by omega⟩;grind
  ·obtain⟨D,E⟩:=H w;rw[pM _ (by omega)];exact((Int.ediv_emod_unique (a:=x) (b:=y) (r:=r) (q:=q) w).2 ⟨by rw[h];omega,D,E⟩).1
 have:=Int.mul_fdiv_add_fmod x y;grind
def q0 (x y:Int):Int:=sg (!(decide (x<0)==decide (y<0))) ((x.natAbs:Int)/y.natAbs)
def r0 (x y:Int):Int:=sg (decide (x<0)) ((x.natAbs:Int)%y.natAbs)
theorem Ys:x=y*q0 x y+r0 x y:=by
 have h:=uL (x.natAbs:Int) y.natAbs;unfold q0 r0;obtain⟨q,E⟩: ∃q,(x.natAbs:Int)/y.natAbs=q:=⟨_,rfl⟩;obtain⟨r,H⟩: ∃r,(x.natAbs:Int)%y.natAbs=r:=⟨_,rfl⟩;rw[E,H];rw[E,H] at h;by_cases w:x<0<;>by_cases D:y<0
 ·rw[show(x.natAbs:Int)= -x from by omega,show(y.natAbs:Int)= -y from by omega,Int.neg_mul] at h;rw[show(!(decide (x<0)==decide (y<0)))=false from by simp[w,D],show decide (x<0)=true from by simp[w],fW,cr];omega
 ·rw[show(x.natAbs:Int)= -x from by omega,show(y.natAbs:Int)=y from by omega] at h;rw[show(!(decide (x<0)==decide (y<0)))=true from by simp[w,D],show decide (x<0)=true from by simp[w],fW,fW,Int.mul_neg];omega
 ·rw[show(x.natAbs:Int)=x from by omega,show(y.natAbs:Int)= -y from by omega,Int.neg_mul] at h;rw[show(!(decide (x<0)==decide (y<0)))=true from by simp[w,D],show decide (x<0)=false from by simp[w],fW,cr,Int.mul_neg];omega
 ·rw[show(x.natAbs:Int)=x from by omega,show(y.natAbs:Int)=y from by omega] at h;rw[show(!(decide (x<0)==decide (y<0)))=false from by simp[w,D],show decide (x<0)=false from by simp[w],cr,cr];omega
theorem Oo (h:y≠0):0<=(x.natAbs:Int)%y.natAbs/\(x.natAbs:Int)%y.natAbs<y.natAbs:=⟨Int.emod_nonneg _ (by omega),pg _ (by omega)⟩
theorem xe (D:y≠0) (h:r0 x y=0\/(r0 x y<0↔y<0)):x.fdiv y=q0 x y/\x.fmod y=r0 x y:=by
 refine zN D Ys ?_ ?_
 all_goals
  have:=Oo (x:=x) D
  unfold r0 at*
  by_cases w:x<0
  ·simp only[w,decide_true,fW] at*;omega
  ·simp only[w,decide_false,cr] at*;omega
theorem Jm (D:y≠0) (E:r0 x y≠0) (h: ¬(r0 x y<0↔y<0)):x.fdiv y=q0 x y-1/\x.fmod y=r0 x y+y:=by
 refine zN D ?_ ?_ ?_
 ·have:=Ys (x:=x) (y:=y);rw[Int.mul_sub];omega
 all_goals
  have:=Oo (x:=x) D
  unfold r0 at*
  by_cases w:x<0
  ·simp only[w,decide_true,fW] at*;omega
  ·simp only[w,decide_false,cr] at*;omega
theorem E7:(cX y.natAbs).length=0↔y=0:=by rw[iv,dM];omega
theorem qK (h:decide (((cX r.natAbs).length:Int)>0)=true):r≠0:=by intro e;have:=E7.2 e;grind
theorem qO (h:decide (((cX r.natAbs).length:Int)>0)=false):r=0:=by simp only[decide_eq_false_iff_not] at h;exact E7.1 (by omega)
theorem Fl (h:(!(decide (a<0)==decide (b<0)))=true): ¬(a<0↔b<0):=by simpa using h
theorem Gf (h:(!(decide (a<0)==decide (b<0)))=false):(a<0↔b<0):=by simpa using h
theorem Sz.q0 (h:Sz k x):Sz k (q0 x y):=by
 refine h.of_le ?_;have D:(x.natAbs:Int)/(y.natAbs:Int)<=x.natAbs:=Int.ediv_le_self _ (by omega);have w:0<=(x.natAbs:Int)/(y.natAbs:Int):=rH (by omega) (by omega);unfold Go.Proofs.YtegeknjkgadehaaGreat.q0;generalize (!(decide (x<0)==decide (y<0)))=s;cases s;·rw[cr];omega
 ·rw[fW];omega
theorem Sz.r0 (w:y≠0) (h:Sz k y):Sz k (r0 x y):=by
 refine h.of_le ?_;have:=Oo (x:=x) w;unfold Go.Proofs.YtegeknjkgadehaaGreat.r0;generalize decide (x<0)=s;cases s;·rw[cr];omega
 ·rw[fW];omega
theorem E4 (w:0<=a) (h:0<=c):Int.gcd c (a%c)=Int.gcd a c:=by obtain⟨m,rfl⟩:=zi w;obtain⟨n,rfl⟩:=zi h;show Nat.gcd n (m%n)=Nat.gcd m n;rw[Nat.gcd_comm m n,Nat.gcd_rec n m,Nat.gcd_comm]
structure GInv (x y a c:Int):Prop where
 sa:Sz 100000000 a
 sc:Sz 100000000 c
 a0:0<=a
 c0:0<=c
 g:Int.gcd a c=Int.gcd x y
theorem GInv.start (h:Sz 100000000 x) (w:Sz 100000000 y):GInv x y (sg false (x.natAbs:Int)) (sg false (y.natAbs:Int)):=by rw[cr,cr];exact⟨h.of_le (by omega),w.of_le (by omega),by omega,by omega,rfl⟩
theorem GInv.step (h:GInv x y a c) (I:c≠0):GInv x y c (sg false ((a.natAbs:Int)%c.natAbs)):=by
 rw[cr];have D:=h.a0;have w:=h.c0;have J:(a.natAbs:Int)=a:=by omega
 have H:(c.natAbs:Int)=c:=by omega
 rw[J,H];have E:=p5 a I;have N:=pg a (show 0<c by omega);exact⟨h.sc,h.sc.of_le (by omega),w,E,by rw[<-h.g,E4 D w]⟩
theorem GInv.less (h:GInv x y a c) (w:c≠0):(sg false ((a.natAbs:Int)%c.natAbs)).toNat<c.toNat:=by rw[cr];have:=h.c0;have:=Oo (x:=a) w;omega
theorem GInv.done (h:GInv x y a c) (w:c=0):(Int.gcd x y:Int)=sg false (a.natAbs:Int):=by rw[<-h.g,w,cr];simp
structure GInv2 (x y u v:Int):Prop where
 u0:0<=u
 u1:u<=18446744073709551615
 v0:0<=v
 v1:v<=18446744073709551615
 g:Int.gcd u v=Int.gcd x y
theorem GInv.word (h:GInv x y a c) (w:decide (a.natAbs<1000000000000000000)=true) (D:decide (c.natAbs<1000000000000000000)=true):
 GInv2 x y (if a.natAbs<1000000000000000000 then(a.natAbs:Int) else 0) (if c.natAbs<1000000000000000000 then(c.natAbs:Int) else 0):=by
 rw[decide_eq_true_eq] at w D
 rw[if_pos w,if_pos D]
 exact⟨by omega,by omega,by omega,by omega,by rw[<-h.g];rfl⟩
theorem GInv2.step (h:GInv2 x y u v) (D:v>0):GInv2 x y v (u.tmod v):=by have w:=h.u0;rw[lI w];have E:=p5 u (show v≠0 by omega);have H:=pg u D;exact⟨h.v0,h.v1,E,by have:=h.v1;omega,by rw[<-h.g,E4 w h.v0]⟩
theorem GInv2.less (h:GInv2 x y u v) (w:v>0):(u.tmod v).toNat<v.toNat:=by rw[lI h.u0];have D:=pg u w;omega
theorem GInv2.done (h:GInv2 x y u v) (w:v<=0):(Int.gcd x y:Int)=sg false u:=by have D:=h.v0;have E:=h.u0;rw[<-h.g,show v=0 from by omega,cr];simp;omega
theorem M1 (h:Lim xs):trm xs=cX (val xs).natAbs:=by have w:=cm h;rw[J6 (sf xs) h.trm,ip];grind
def cM (xs:List Int):CellD:=.s xs.length (xs.map (CellD.i .u32))
theorem Y4 (e:Int):cL e=cM (cX e.natAbs):=rfl
theorem Q7 (h:Lim xs):cL (val xs)=cM (trm xs):=by rw[Y4,M1 h]
theorem jf (xs:List Int):(xs.map (CellD.i .u32)).length=xs.length*1:=by simp
theorem j5 (h:i<xs.length):((xs.map (CellD.i .u32)).drop (i*1))[0]? =some (.i .u32 (xs.getD i 0)):=by grind
theorem adP (h:i<xs.length):(xs.map (CellD.i .u32))[i*1]? =some (.i .u32 (xs.getD i 0)):=by grind
theorem pW (h:i<xs.length):(xs.map (CellD.i .u32)).take (i*1)++[CellD.i .u32 x]++(xs.map (CellD.i .u32)).drop (i*1+1)=(xs.set i x).map (CellD.i .u32):=by rw[List.set_eq_take_append_cons_drop,if_pos h];simp
theorem cW (h:Lim xs) (i:Nat):0<=xs.getD i 0/\xs.getD i 0<1000000000:=by
 rw[List.getD];cases w:xs[i]? with
 |none=>simp
 |some x=>exact h.at_ w
theorem getD_some (h:i<xs.length):xs[i]? =some (xs.getD i 0):=by grind
theorem jQ (h: -9223372036854775808<=x) (w:x<=9223372036854775807):IntKind.i64.wrap x=x:=by unfold IntKind.wrap;simp[IntKind.bits,IntKind.signed];omega
theorem iF (h:0<=x) (w:x<=18446744073709551615):IntKind.u64.wrap x=x:=by unfold IntKind.wrap;simp[IntKind.bits,IntKind.signed];omega
theorem re (h:0<=x) (w:x<=4294967295):IntKind.u32.wrap x=x:=by unfold IntKind.wrap;simp[IntKind.bits,IntKind.signed];omega
theorem aT (h: -9223372036854775808<=a+b) (w:a+b<=9223372036854775807):Bq .add .i64 a b=some (a+b):=congrArg some (jQ h w)
theorem bu {x y:Operand}{ty:TypeId}(w:j<9223372036854775807) (h:(ck T x,ck T y,gd ops ⟨dst,.binOp .add xt x y yt,ty,pos,af,g⟩ T)=(some (.v (.c (.i .i64 j))),some (.v (.c (.i .i64 1))),some true)):Sem P ops ⟨dst,.binOp .add xt x y yt,ty,pos,af,g⟩ T B (.r (.v (.c (.i .i64 ((j+1:Nat):Int))))):=
 mg (congrArg Prod.fst h) (congrArg (fun q=>q.2.1) h) ((aT (by omega) (by omega)).trans (congrArg some (by omega))) (congrArg (fun q=>q.2.2) h)
theorem ci (h: -9223372036854775808<=a-b) (w:a-b<=9223372036854775807):Bq .sub .i64 a b=some (a-b):=congrArg some (jQ h w)
theorem fD (h:0<=a+b) (w:a+b<=18446744073709551615):Bq .add .u64 a b=some (a+b):=congrArg some (iF h w)
theorem IP (h:0<=a-b) (w:a-b<=18446744073709551615):Bq .sub .u64 a b=some (a-b):=congrArg some (iF h w)
theorem gP (h:0<=a*b) (w:a*b<=18446744073709551615):Bq .mul .u64 a b=some (a*b):=congrArg some (iF h w)
theorem nD (h:0<=a+b) (w:a+b<=4294967295):Bq .add .u32 a b=some (a+b):=congrArg some (re h w)
theorem pz (h:0<=a-b) (w:a-b<=4294967295):Bq .sub .u32 a b=some (a-b):=congrArg some (re h w)
theorem N4 (E:0<k) (H:k<=xs.length) (D:trm (xs.take k)=trm xs) (h:((xs.take k).getD (k-1) 0==0)=true):trm (xs.take (k-1))=trm xs:=by obtain⟨j,rfl⟩: ∃j,k=j+1:=⟨k-1,by omega⟩;rw[Nat.add_sub_cancel] at*;have w:=getD_some (xs:=xs) (i:=j) (by omega);rw[<-D,qv w (by simpa using h)]
theorem N5 (E:0<k) (H:k<=xs.length) (D:trm (xs.take k)=trm xs) (h:((xs.take k).getD (k-1) 0==0)=false):trm xs=xs.take k:=by obtain⟨j,rfl⟩: ∃j,k=j+1:=⟨k-1,by omega⟩;have w:=getD_some (xs:=xs) (i:=j) (by omega);rw[<-D,qg w (by simpa using h)]
section
variable {P:Program}{ops:Array Oper}{T:TF}{B:BF}
theorem jJ {x y:Operand}{k:IntKind}{n:Int}
 (w:ck T x=some (.v (.c (.i k m)))) (H:ck T y=some (.v (.c (.i k n)))) (D:n≠0) (E:k.wrap (m.tdiv n)=r) (h:gd ops ⟨dst,.binOp .quo xt x y yt,ty,pos,af,g⟩ T=some true):
 Sem P ops ⟨dst,.binOp .quo xt x y yt,ty,pos,af,g⟩ T B (.r (.v (.c (.i k r)))):=by subst E;exact UW w H D h
theorem fR {x y:Operand}{k:IntKind}{n:Int}
 (w:ck T x=some (.v (.c (.i k m)))) (H:ck T y=some (.v (.c (.i k n)))) (D:n≠0) (E:m.tmod n=r) (h:gd ops ⟨dst,.binOp .rem xt x y yt,ty,pos,af,g⟩ T=some true):
 Sem P ops ⟨dst,.binOp .rem xt x y yt,ty,pos,af,g⟩ T B (.r (.v (.c (.i k r)))):=by subst E;exact FR w H D h
theorem bj {x:Operand}{E h k:IntKind}
 (J:P.underlying t1=some (.int E)) (H:P.underlying t2=some (.int h)) (D:ck T x=some (.v (.c (.i k m)))) (I:h.wrap m=r) (w:gd ops ⟨dst,.convert t1 t2 x,ty,pos,af,g⟩ T=some true):
 Sem P ops ⟨dst,.convert t1 t2 x,ty,pos,af,g⟩ T B (.r (.v (.c (.i h r)))):=by subst I;exact QZ J H D w
theorem vW {x:Operand}
 (hU:rl P U=some (e,1,by_,[z])) (N:ck T x=some (.v (.c (.i .u32 m)))) (H:gd ops ⟨dst,.buildSlice U 1 #[(0,x)],ty,pos,af,g⟩ T=some true):
 Sem P ops ⟨dst,.buildSlice U 1 #[(0,x)],ty,pos,af,g⟩ T B (.r (.v (.c (cM [m])))):=by
 have h:=rb (B:=B) (n:=1) (us:=[.i .u32 m]) (dps:=[(0,.c (.i .u32 m))]) hU (by unfold rD;rw[N];rfl) rfl (by omega) (by omega) H
 refine⟨rG rfl,fun V β a w hs=>?_⟩
 obtain⟨R,H⟩:=h V β a w hs
 refine⟨R,H.mono ?_⟩
 rintro v w' ⟨vs,rfl,rfl,J⟩
 refine⟨?_,(ef _ w).alloc (bd _) _⟩
 have D:=Keep.below (av:=V) ((ef w.heap.size w).alloc (bd _) (.cells vs e))
 have I:=J.keep D
 have W:vs.size=1:=by have:=J.1;simpa using this
 refine .s w.heap.size 0 1 1 1 _ (fun j=>vs.getD j undef) (by omega) (by omega) (by omega) rfl (by simp) (fun h=>by have:=hs.av _ h;omega) (fun j E=>?_) (fun j u E=>?_)
 ·simp_all
 ·have a0:j<1:=by have:=(fb.1 E).1;simpa using this
  refine I.2 j _ u ?_ E
  have:j<vs.size:=by omega
  simp[Array.getD,this]
theorem Gy {x y:Operand}{m:Nat}{zs:List CellD}
 (hU:rl P U=some (e,m,by_,zs)) (hx:ck T x=some (.o k n n)) (hy:ck T y=some (.v (.c (.s 0 [])))) (hb:B k=some (e,cs)) (I:cs.length=n*m) (hn:0<n) (W:n<=9223372036854775807)
 (hg:gd ops ⟨dst,.call ⟨.builtin .append,#[x,y],#[U,U]⟩,ty,pos,af,g⟩ T=some true):
 Sem P ops ⟨dst,.call ⟨.builtin .append,#[x,y],#[U,U]⟩,ty,pos,af,g⟩ T B (.c k (.v (.c (.s n cs)))):=by
 refine⟨rfl,by rw[hb];simp,fun V β a w hs=>⟨eL hs hg,?_⟩⟩
 have e1:a.eval x=.slice (some ⟨β k,0,none⟩) n n:=ao hs (x:=x) (by simp[Op.operands,Call.operands]) hx
 have h2:RdC V w (a.eval y) (.s 0 []):=ao hs (x:=y) (by simp[Op.operands,Call.operands]) hy
 have h3: ∃A c,a.eval y=.slice A 0 c:=by
  generalize a.eval y=v at h2;cases h2 with
  |s0 A c _=>exact⟨A,c,rfl⟩
  |s b off c sz _ _ cv h0=>omega
 obtain⟨A,c,e2⟩:=h3
 obtain⟨hu,i,z,hi,hz,a0,a1,_,a3⟩:=iz hU
 obtain⟨J,vs,ev,hr⟩:=hs.box k e cs hb
 have D: ∀w,(Builtin.firstCells m 0 (.slice A 0 c)).run P w=.ok #[] w:=by
  intro w;cases A with
  |none=>rfl
  |some A=>simp[Builtin.firstCells,loadCells,loadCellsFrom]
 have H:(execOp a.eval ⟨dst,.call ⟨.builtin .append,#[x,y],#[U,U]⟩,ty,pos,af,g⟩).run P w=.ok (.value (.slice (some ⟨β k,0,none⟩) n n)) w:=by simp only[execOp,resolve,invoke,builtin,fq,dx,dd,qT,mm,qy,e1,e2];simp[Builtin.append_,run_underlying hu,sizeOf,typeInfo,program,Sem.run,hi,a0,Builtin.lenOf,D,storeCells]
 unfold Gives
 rw[H]
 refine⟨?_,ef _ _⟩
 have E:Keep V (fun b=>V b/\b≠β k) w w:=⟨Nat.le_refl _,fun _ _ _=>rfl,fun _ _ h=>h.1⟩
 have R:=hr.keep E
 have a4:vs.size=n*m:=by have:=hr.1;simp at this;omega
 refine .s (β k) 0 n m n cs (fun j=>vs.getD j undef) hn (bd _) W I (hs.av _ J) (fun h=>h.2 rfl) (fun j N=>?_) (fun j u N=>?_)
 ·rw[dt,bE ev]
  have:j<vs.size:=by omega
  simp[Array.getD,this]
 ·have a2:j<cs.length:=(fb.1 N).1
  refine R.2 j _ u ?_ N
  have:j<vs.size:=by omega
  simp[Array.getD,this]
theorem Dg {x y:Operand}
 (E:rl P U=some (e,1,4,[z])) (D:ck T x=some (.o k 1 1)) (H:ck T y=some (.v (.c (cM rs)))) (w:B k=some (e,[.i .u32 d])) (hl:rs.length<=1000000000)
 (h:gd ops ⟨dst,.call ⟨.builtin .append,#[x,y],#[U,U]⟩,ty,pos,af,g⟩ T=some true):
 Sem P ops ⟨dst,.call ⟨.builtin .append,#[x,y],#[U,U]⟩,ty,pos,af,g⟩ T B (.c k (.v (.c (cM (d::rs))))):=by
 cases rs with
 |nil=>exact Gy (n:=1) E D H w rfl (by omega) (by omega) h
 |cons r rs=>
  have:=wI (us:=(d::r::rs).map (CellD.i .u32)) E D H w rfl (jf _) (by omega) (by simp) (by omega) (by simp at hl⊢;omega) (by simp at hl⊢;unfold maxLen;omega) rfl h
  unfold cM
  grind
theorem u4 {c:Code}{N t n' c':Nat}
 (H:look t tm=some (.o k n' c')) (w:look k bx=some (U,zs.map (CellD.i .u32))) (D:zs.length=c') (E:n'<=c') (I:c'<=9223372036854775807) (J:zs.take n'=ys)
 (h:Dw P c ⟨N,(t,.v (.c (cM ys)))::hJ k tm,f6 k bx⟩ Q):Dw P c ⟨N,tm,bx⟩ Q:=by
 refine cD H w (m:=1) (us:=ys.map (CellD.i .u32)) (by simp[D]) E I (by rw[Nat.mul_one,<-List.map_take,J]) ?_
 unfold cM at h
 grind
theorem Iz {x h:Operand}
 (H:om P U=some 1) (D:ck T x=some (.v (.c (cM xs)))) (E:ck T h=some (.v (.c (.i ki j)))) (I:j<=xs.length) (w:gd ops ⟨dst,.slice U x none (some h) none,ty,pos,af,g⟩ T=some true):
 Sem P ops ⟨dst,.slice U x none (some h) none,ty,pos,af,g⟩ T B (.r (.v (.c (cM (xs.take j))))):=by
 have:=ni (B:=B) H D E (by omega) (jf xs) rfl w
 have e:CellD.s ((j:Int).toNat) ((xs.map (CellD.i .u32)).take ((j:Int).toNat*1))=cM (xs.take j):=by unfold cM;rw[Int.toNat_natCast,Nat.mul_one,eu,dK I,List.map_take]
 grind
theorem kZ {x h:Operand}{c q m:Nat}
 (E:om P U=some m) (J:ck T x=some (.o k n c)) (W:ck T h=some (.v (.c (.i ki q)))) (R:q<=c) (hg:gd ops ⟨dst,.slice U x none (some h) none,ty,pos,af,g⟩ T=some true):
 Sem P ops ⟨dst,.slice U x none (some h) none,ty,pos,af,g⟩ T B (.r (.o k q c)):=
 bK hg (fun k' e=>by
  obtain rfl:k=k':=by injection e
  exact sG (ops:=ops) (o:=⟨dst,.slice U x none (some h) none,ty,pos,af,g⟩) (by simp[Op.operands]) J rfl) (fun V β a w hs=>by
  have e:a.eval x=.slice (some ⟨β k,0,none⟩) n c:=ao hs (x:=x) (by simp[Op.operands]) J;have h2:=fN (ao hs (x:=h) (by simp[Op.operands]) W);unfold om at E;split at E;case h_2=>cases E
  rename_i N I;cases D:P.info? N with
  |none=>rw[D] at E;cases E
  |some a0=>
   rw[D] at E;simp at E;have H: ∀w,(sizeOf N).run P w=.ok m w:=fun w=>by unfold sizeOf typeInfo;simp[program,Sem.run,D,E]
   refine⟨.slice (some ⟨β k,0,none⟩) q c,?_,rfl⟩;simp[execOp,Instr.sliceAt,Instr.slice,run_underlying I,e,h2,Instr.sliceBounds,Instr.sliceBound,asIntOf,R,H,Addr.add])
end
class TaC (P:Program) where
 b:Tb
 zc:List (Nat×List CellD)
 op:Nat->Bool
 ok:TbOk P b
 zk: ∀U zs,look U zc=some zs->BW P U=some zs
 mo:P.follows .mixedOrders=true
theorem Im {w:Type}{t:Nat}{x:w}: ∀ {l:List (Nat×w)},look t l=some x->(t,x)∈l
 |[],h=>by cases h
 |(k,y)::r,h=>by
  unfold look at h;cases e:Nat.beq k t with
  |true=>rw[e] at h;cases h;rw[fe e];exact f7
  |false=>rw[e] at h;exact gF _ (Im h)
theorem aaL {l:List (Nat×List CellD)}(h: ∀p∈l,BW P p.1=some p.2): ∀U zs,look U l=some zs->BW P U=some zs:=fun _U _zs e=>h _ (Im e)
section
variable (P:Program) [C:TaC P]
def Po (T:TF) (B:BF):Op->Option SA
 | .load U x=>match ck T x with
   |some (.p k off)=>match B k,C.b.ty U with
    |some (W,cs),some (true,n)=>bif C.op W then none else bif Nat.beq off 0&&Nat.beq cs.length n then some (.v (.v (.a cs))) else
     bif Nat.ble (off+n) cs.length&&Nat.ble cs.length 24 then some (.v (.v (.a ((cs.drop off).take n)))) else none
    |some (W,cs),some (false,_)=>bif C.op W then none else match cs[off]? with
     |some u=>some (.v (.v (.c u)))
     |none=>none
    |_,_=>none
   |_=>none
 | .store U ax x=>match ck T ax,ck T x,C.b.ty U with
   |some (.p k off),some (.v (.a us)),some (true,m)=>match B k with
    |some (W,cs)=>bif C.op W then none else bif Nat.beq off 0&&Nat.beq us.length m&&Nat.beq cs.length m then some (.st k W us) else none
    |none=>none
   |_,_,_=>none
 | .alloc U=>match look U C.zc with
   |some zs=>some (.bx U zs)
   |none=>none
 |op=>Mb C.b T B op
def Ls (ops:Array Oper) (T:TF) (B:BF) (o:Oper):Option SA:=
 match gd ops o T with
 |some true=>Po P T B o.op
 |some false=>some .sk
 |none=>none
def gst (ops:Array Oper) (d:Option Nat):List Oper->Bool
 |⟨_,_,_,_,_,some (j,_)⟩::_=>match ops[j]?,d with
  |some ⟨some t,_,_,_,_,_⟩,some u=>Nat.beq t u
  |_,_=>false
 |_=>false
variable {P}
theorem O4 (D:gd ops ⟨dst,op,ty,pos,af,g⟩ T=some true) (h:Po P T B op=some s)
 (N: ∀k U cs,s=.st k U cs->dst=none):Sem P ops ⟨dst,op,ty,pos,af,g⟩ T B s.eff:=by
 unfold Po at h
 split at h
 ·split at h
  ·rename_i e
   split at h
   ·rename_i H E
    rw[sO,sO,sO] at h
    split at h
    ·cases h
    ·split at h
     ·rename_i w
      cases h
      rw[de] at w
      have I:=fe w.1
      have hl:=fe w.2
      subst I
      exact bb (C.ok.ty _ _ E) e H (by rw[lE];exact f9 (Nat.le_of_eq hl)) hl D
     ·split at h
      ·rename_i w
       cases h
       rw[de] at w
       have I:=eQ w.1
       exact bb (C.ok.ty _ _ E) e H rfl (by rw[eu,eP];omega) D
      ·cases h
   ·rename_i H E
    rw[sO] at h
    split at h
    ·cases h
    ·split at h
     ·rename_i J;cases h;exact cK (C.ok.ty _ _ E) e H J D
     ·cases h
   ·cases h
  ·cases h
 ·split at h
  ·rename_i H E J
   split at h
   ·rename_i R
    rw[sO,sO] at h
    split at h
    ·cases h
    ·split at h
     ·rename_i w
      cases h
      rw[de,de] at w
      have I:=fe w.1.1
      subst I
      have:=N _ _ _ rfl
      subst this
      exact bQ (C.ok.ty _ _ J) H E R (fe w.1.2) (fe w.2) D
     ·cases h
   ·cases h
  ·cases h
 ·split at h
  ·rename_i e;cases h;exact qM (C.zk _ _ e) D
  ·cases h
 ·exact GH C.ok D h N
theorem oH (h:Ls P ops T B ⟨dst,op,ty,pos,af,g⟩=some s)
 (w: ∀k U cs,s=.st k U cs->dst=none):Sem P ops ⟨dst,op,ty,pos,af,g⟩ T B s.eff:=by
 unfold Ls at h
 split at h
 ·rename_i e;exact O4 e h w
 ·rename_i e;cases h;exact ng e
 ·cases h
end
structure DL (P:Program) (ops:Array Oper) (os:List Oper) (σ:St) (K:St->Prop):Prop where
 h:dl P ops os σ K
structure DQ (P:Program) (ops:Array Oper) (hs:List Nat) (os:List Oper) (s:Sq) (K:Sq->Prop):Prop where
 h:dq P ops hs os s K
structure DW (P:Program) (c:Code) (σ:St) (Q:Exit->St->Prop):Prop where
 h:Dw P c σ Q
section
variable (P:Program) [C:TaC P] (ops:Array Oper) (K:St->Prop) (n:Nat)
def Ka:List Oper->List (Nat×DV)->List (Nat×TypeId×List CellD)->Prop
 |[],tm,bx=>K ⟨n,tm,bx⟩
 |o::os,tm,bx=>bif gst ops o.dst os then DL P ops (o::os) ⟨n,tm,bx⟩ K else match o.dst,Ls P ops (fun s=>look s tm) (fun l=>look l bx) o with
  |some t,some .sk=>Ka os ((t,.u)::tm) bx
  |some t,some (.v x)=>Ka os ((t,x)::tm) bx
  |some t,some (.bx U cs)=>match look t bx with
   |none=>Ka os ((t,.p t 0)::tm) ((t,U,cs)::bx)
   |some _=>DL P ops (o::os) ⟨n,tm,bx⟩ K
  |none,some (.st j U cs)=>Ka os tm ((j,U,cs)::bx)
  |_,_=>DL P ops (o::os) ⟨n,tm,bx⟩ K
variable {P ops K n}
theorem fa: ∀ {os:List Oper}{tm:List (Nat×DV)}{bx:List (Nat×TypeId×List CellD)},Ka P ops K n os tm bx->dl P ops os ⟨n,tm,bx⟩ K
 |[],tm,bx,h=>h
 |⟨dst,op,ty,pos,af,g⟩::os,tm,bx,h=>by
  unfold Ka at h;rw[sO] at h;split at h;·exact h.h
  ·split at h
   ·rename_i t D w;cases D;exact vm (oH w (fun _ _ _ e=>by cases e)) (fa h)
   ·rename_i t x D w;cases D;exact cV (oH w (fun _ _ _ e=>by cases e)) (fa h)
   ·rename_i t U cs D w;cases D;split at h;·rename_i E;exact tx (oH w (fun _ _ _ e=>by cases e)) E (fa h)
    ·exact h.h
   ·rename_i j U cs D w;cases D;exact iQ (oH w (fun _ _ _ _=>rfl)) (fa h)
   ·exact h.h
end
section
variable (P:Program) [C:TaC P] (ops:Array Oper) (hs:List Nat) (K:Sq->Prop) (n:Nat)
def Up:List Oper->List (Nat×DV)->List (Nat×TypeId×List CellD)->List (Nat×TypeId×List CellD)->List Nat->Prop
 |[],tm,bx,nb,sd=>K ⟨⟨n,tm,bx⟩,nb,sd⟩
 |o::os,tm,bx,nb,sd=>bif gst ops o.dst os then DQ P ops hs (o::os) ⟨⟨n,tm,bx⟩,nb,sd⟩ K else match o.dst,Ls P ops (fun s=>look s tm) (hid hs (fun l=>look l bx)) o with
  |some t,some .sk=>Up os ((t,.u)::tm) bx nb sd
  |some t,some (.v x)=>Up os ((t,x)::tm) bx nb sd
  |some t,some (.bx U cs)=>match look t (nb++bx) with
   |none=>Up os ((t,.p t 0)::tm) bx ((t,U,cs)::nb) sd
   |some _=>DQ P ops hs (o::os) ⟨⟨n,tm,bx⟩,nb,sd⟩ K
  |_,_=>DQ P ops hs (o::os) ⟨⟨n,tm,bx⟩,nb,sd⟩ K
variable {P ops hs K n}
theorem ek: ∀ {os:List Oper}{tm:List (Nat×DV)}{bx nb:List (Nat×TypeId×List CellD)}{sd:List Nat},Up P ops hs K n os tm bx nb sd->dq P ops hs os ⟨⟨n,tm,bx⟩,nb,sd⟩ K
 |[],tm,bx,nb,sd,h=>h
 |⟨dst,op,ty,pos,af,g⟩::os,tm,bx,nb,sd,h=>by
  unfold Up at h;rw[sO] at h;split at h;·exact h.h
  ·split at h
   ·rename_i t D w;cases D;exact vi (oH w (fun _ _ _ e=>by cases e)) (ek h)
   ·rename_i t x D w;cases D;exact bG (oH w (fun _ _ _ e=>by cases e)) (ek h)
   ·rename_i t U cs D w;cases D;split at h;·rename_i E;exact JU (oH w (fun _ _ _ e=>by cases e)) E (ek h)
    ·exact h.h
   ·exact h.h
end
section
variable (P:Program) [C:TaC P]
def Uo:Code->St->(Exit->St->Prop)->Prop
 | .seq x y,σ,Q=>Uo x σ (Eb (fun σ'=>Uo y σ' Q) Q)
 | .skip,σ,Q=>Q .normal σ
 | .ret,σ,Q=>Q .ret σ
 | .exit id,σ,Q=>Q (.exit id) σ
 | .block id c,σ,Q=>Uo c σ (Pn id Q)
 | .region id ⟨l⟩ false,⟨n,tm,bx⟩,Q=>bif OB ⟨l⟩ n then Ka P ⟨l⟩ (Q .normal) n l tm bx else DW P (.region id ⟨l⟩ false) ⟨n,tm,bx⟩ Q
 |c,σ,Q=>DW P c σ Q
variable {P}
theorem agc {c:Code}: ∀ {σ:St}{Q D:Exit->St->Prop},(∀e σ',Q e σ'->D e σ')->Uo P c σ Q->Dw P c σ D:=by
 induction c with
 |seq x y I J=>
  intro σ Q D w h;refine ab (I (fun e σ' H=>?_) h);cases e with
  |normal=>exact J w H
  |_=>exact w _ _ H
 |skip=>intro σ Q D w h;exact au (w _ _ h)
 |ret=>intro σ Q D w h;exact bc (w _ _ h)
 |exit id=>intro σ Q D w h;exact bn (w _ _ h)
 |block id c R=>
  intro σ Q D w h;refine Dw.mono (aw (R (fun e σ' H=>H) h)) w
 |region id ops E=>
  intro σ Q D w h;obtain⟨l⟩:=ops;obtain⟨n,tm,bx⟩:=σ;cases E with
  |true=>exact Dw.mono h.h w
  |false=>
   have h:bif OB ⟨l⟩ n then Ka P ⟨l⟩ (Q .normal) n l tm bx else DW P (.region id ⟨l⟩ false) ⟨n,tm,bx⟩ Q:=h;rw[sO] at h;split at h;·rename_i N;exact Dw.mono (yr N (fa h)) w
   ·exact Dw.mono h.h w
 |_=>intro σ Q D w h;exact Dw.mono h.h w
theorem sh {c:Code}(h:Uo P c σ Q):Dw P c σ Q:=agc (fun _ _ h=>h) h
end
section
variable {P:Program}[C:TaC P] {ops:Array Oper}{os:List Oper}{n t:Nat}{tm:List (Nat×DV)}{bx nb:List (Nat×TypeId×List CellD)}{K:St->Prop}{K':Sq->Prop}{hs sd:List Nat}{ty:TypeId}{pos:String}{af:Array Edge}{g:Option (Nat×Bool)}{op:Op}
omit C in
theorem MY {w:Sq->Prop}(D: ∀s,K' s->w s): ∀ {os:List Oper}{s:Sq},dq P ops hs os s K'->dq P ops hs os s w
 |[],s,h=>D s h
 |_::_,_,⟨e,a,b,c,d,f,h⟩=>⟨e,a,b,c,d,f,MY D h⟩
theorem ar {x:DV}(h:Sem P ops ⟨some t,op,ty,pos,af,g⟩ (fun s=>look s tm) (fun k=>look k bx) (.r x)) (w:Ka P ops K n os ((t,x)::tm) bx):DL P ops (⟨some t,op,ty,pos,af,g⟩::os) ⟨n,tm,bx⟩ K:=⟨cV h (fa w)⟩
theorem aq {x:DV}(h:Sem P ops ⟨some t,op,ty,pos,af,g⟩ (fun s=>look s tm) (hid hs (fun k=>look k bx)) (.r x)) (w:Up P ops hs K' n os ((t,x)::tm) bx nb sd):DQ P ops hs (⟨some t,op,ty,pos,af,g⟩::os) ⟨⟨n,tm,bx⟩,nb,sd⟩ K':=⟨bG h (ek w)⟩
theorem n8 (h:Sem P ops ⟨none,op,ty,pos,af,g⟩ (fun s=>look s tm) (fun k=>look k bx) (.s k U cs)) (w:Ka P ops K n os tm ((k,U,cs)::bx)):DL P ops (⟨none,op,ty,pos,af,g⟩::os) ⟨n,tm,bx⟩ K:=⟨iQ h (fa w)⟩
theorem jC {b:Bool}(h:Sem P ops ⟨some t,op,ty,pos,af,g⟩ (fun s=>look s tm) (fun k=>look k bx) (.r (.v (.c (.b b))))) (w: ∀c,b=c->Ka P ops K n os ((t,.v (.c (.b c)))::tm) bx):DL P ops (⟨some t,op,ty,pos,af,g⟩::os) ⟨n,tm,bx⟩ K:=⟨ae3 h fun c e=>fa (w c e)⟩
theorem sL {b:Bool}(h:Sem P ops ⟨some t,op,ty,pos,af,g⟩ (fun s=>look s tm) (hid hs (fun k=>look k bx)) (.r (.v (.c (.b b))))) (w: ∀c,b=c->Up P ops hs K' n os ((t,.v (.c (.b c)))::tm) bx nb sd):DQ P ops hs (⟨some t,op,ty,pos,af,g⟩::os) ⟨⟨n,tm,bx⟩,nb,sd⟩ K':=⟨Ma h fun c e=>ek (w c e)⟩
section
variable {fo:Operand}{args:Array Operand}{at_:Array TypeId}{f:FuncId}{ds rs:List D0}
theorem ac (h:(ck (fun s=>look s tm) fo,wL (fun s=>look s tm) args.toList,gd ops ⟨some t,.call ⟨.value fo,args,at_⟩,ty,pos,af,g⟩ fun s=>look s tm)=(some (.v (.c (.f f))),some ds,some true)) (w:Ok P f ds rs) (D:Ka P ops K n os ((t,CF rs)::tm) bx):
 DL P ops (⟨some t,.call ⟨.value fo,args,at_⟩,ty,pos,af,g⟩::os) ⟨n,tm,bx⟩ K:=ar (j9 h w) D
theorem aG (h:(ck (fun s=>look s tm) fo,wL (fun s=>look s tm) args.toList,gd ops ⟨some t,.call ⟨.value fo,args,at_⟩,ty,pos,af,g⟩ fun s=>look s tm)=(some (.v (.c (.f f))),some ds,some true)) (w:Ok P f ds rs) (D:Up P ops hs K' n os ((t,CF rs)::tm) bx nb sd):
 DQ P ops hs (⟨some t,.call ⟨.value fo,args,at_⟩,ty,pos,af,g⟩::os) ⟨⟨n,tm,bx⟩,nb,sd⟩ K':=aq (j9 h w) D
end
variable {Q:Exit->St->Prop}{x y:Code}{σ:St}
theorem cU {b:Bool}(h:look t σ.tm=some (.v (.c (.b b)))) (D:b=true->Uo P x σ Q) (w:b=false->Uo P y σ Q):DW P (.cond (.tmp t) x y) σ Q:=⟨aA h (fun e=>sh (D e)) fun e=>sh (w e)⟩
theorem vr (w:look t tm=some (.v (.c (.b true)))) (h:Uo P x ⟨n,tm,bx⟩ Q):DW P (.cond (.tmp t) x y) ⟨n,tm,bx⟩ Q:=⟨gO w (sh h)⟩
theorem nM (w:look t tm=some (.v (.c (.b false)))) (h:Uo P y ⟨n,tm,bx⟩ Q):DW P (.cond (.tmp t) x y) ⟨n,tm,bx⟩ Q:=⟨cT w (sh h)⟩
theorem cE (m:Nat) (hs:List Nat) (h:Up P l.toArray hs (fun s=>Ka P l.toArray (Q .normal) s.st.n (l.drop m) s.st.tm (s.nb++s.st.bx)) n (l.take m) tm bx [] []) (w:Kr l.toArray m n=true:=by kernel_rfl):
 DW P (.region id l.toArray true) ⟨n,tm,bx⟩ Q:=⟨rW m hs C.mo w rfl rfl (MY (fun _ D=>fa D) (ek h))⟩
theorem ag (h:Ka P l.toArray (Q .normal) n l tm bx) (w:OB l.toArray n=true:=by kernel_rfl):Dw P (.region id l.toArray false) ⟨n,tm,bx⟩ Q:=yr w (fa h)
theorem fk (m:Nat) (hs:List Nat) (h:Up P l.toArray hs (fun s=>Ka P l.toArray (Q .normal) s.st.n (l.drop m) s.st.tm (s.nb++s.st.bx)) n (l.take m) tm bx [] []) (w:Kr l.toArray m n=true:=by kernel_rfl):
 Dw P (.region id l.toArray true) ⟨n,tm,bx⟩ Q:=(cE m hs h w).h
theorem cj {f:FuncId}{fn:Func}{c:Code}{ds rs:List D0}(H:P.funcs[f]? =some fn) (E:fn.body=some c) (h:Uo P c ⟨fn.ntmps,xS 0 ds,[]⟩ fun e σ=>(e=.normal\/e=.ret)/\rR P σ fn.results.toList=some rs)
 (D:fv P f=true:=by kernel_rfl) (w:Nat.ble ds.length fn.ntmps=true:=by rfl):Ok P f ds rs:=Ok.of D H E w (sh h)
end
def zcT:List (Nat×List CellD):=[(32,[.s 0 []]),(38,[.b false,.s 0 []]),(40,[.b false,.s 0 [],.b false,.s 0 []]),(42,[.b false,.s 0 [],.b false,.s 0 [],.b false,.s 0 [],.b false,.s 0 [],.b false,.s 0 [],.b false,.s 0 [],.b false,.s 0 [],.b false,.s 0 [],.b false,.s 0 [],.b false,.s 0 []]),(45,[.b false,.s 0 [],.b false,.s 0 [],.b false,.s 0 [],.b false,.s 0 []]),(49,[.b false,.s 0 [],.b false,.s 0 [],.b false,.s 0 [],.b false,.s 0 [],.b false,.s 0 [],.b false,.s 0 []]),(51,[.b false,.s 0 [],.b false,.s 0 [],.b false,.s 0 [],.b false,.s 0 [],.b false,.s 0 [],.b false,.s 0 []]),(53,[.b false,.b false,.s 0 [],.b false,.s 0 [],.b false,.s 0 [],.b false,.s 0 [],.b false,.s 0 [],.b false,.s 0 [],.b false,.s 0 [],.b false,.s 0 [],.b false,.s 0 [],.b false,.s 0 [],.b false,.s 0 [],.b false,.s 0 [],.b false,.b false,.s 0 [],.b false,.s 0 [],.b false,.s 0 [],.b false,.s 0 [],.b false,.s 0 [],.b false,.s 0 [],.b false,.s 0 [],.b false,.s 0 [],.b false,.s 0 [],.b false,.s 0 [],.b false,.s 0 [],.b false,.s 0 [],.b false,.s 0 [],.b false,.s 0 [],.b false,.s 0 [],.b false,.s 0 [],.b false,.s 0 [],.b false,.s 0 [],.b false,.s 0 [],.b false,.s 0 []]),(59,[.b false,.s 0 [],.b false,.s 0 [],.b false,.s 0 [],.b false,.s 0 [],.b false,.s 0 [],.b false,.s 0 []]),(89,[.i .i64 0,.i .i64 0]),(116,[.b false,.s 0 [],.b false,.s 0 [],.b false,.s 0 [],.b false,.s 0 [],.b false,.s 0 [],.b false,.s 0 [],.b false,.s 0 [],.b false,.s 0 [],.b false,.s 0 [],.b false,.s 0 [],.b false,.s 0 [],.b false,.s 0 []]),(244,[.i .i64 0,.b false,.s 0 [],.b false,.s 0 [],.b false,.s 0 [],.b false,.s 0 [],.b false,.s 0 [],.b false,.s 0 []]),(287,[.i .i64 0,.b false,.s 0 [],.b false,.s 0 [],.b false,.s 0 [],.b false,.s 0 [],.b false,.s 0 [],.b false,.s 0 []])]
def opF (U:Nat):Bool:=bif Nat.beq U 287 then true else bif Nat.beq U 244 then true else bif Nat.beq U 68 then true else bif Nat.beq U 66 then true else bif Nat.beq U 53 then true else bif Nat.beq U 29 then true else bif Nat.beq U 27 then true else false
instance:TaC Tryz.prog:=⟨tb,zcT,opF,Ub,aaL (qA.2 ⟨Ny,qA.2 ⟨Dk,qA.2 ⟨uu,qA.2 ⟨JK,qA.2 ⟨IQ,qA.2 ⟨RR,qA.2 ⟨afk,qA.2 ⟨Kv,qA.2 ⟨Aj,qA.2 ⟨tP,qA.2 ⟨SG,qA.2 ⟨ad0,qA.2 ⟨D8,fun _ h=>nomatch h⟩⟩⟩⟩⟩⟩⟩⟩⟩⟩⟩⟩⟩),dV⟩
theorem kv (J:Lim xs) (hn:xs.length<=1000000000):Ok Tryz.prog 251 [.c (cM xs)] [.c (cL (val xs))]:=by
 refine cj Tryz.func251 rfl ?_;refine DW.mk<|bF (ι:={k:Nat // k<=xs.length/\trm (xs.take k)=trm xs}) (fun i=>⟨21,[(0,.v (.c (cM (xs.take i.1))))],[]⟩) (fun i=>i.1) ⟨xs.length,bd _,by rw[ud]⟩ (al ⟨by rw[ud];rfl,trivial⟩ trivial rfl) ?_;rintro⟨k,H,I⟩;have R:(xs.take k).length=k:=by rw[eu];omega
 dsimp only;refine sh ?_;refine jC (aQ rfl) (fun c1 E=>?_);cases c1
 ·have W:k=0:=by simp only[decide_eq_false_iff_not] at E;omega
  have h:cL (val xs)=cM (xs.take k):=by rw[Q7 J,<-I,W];rfl
  refine nM rfl<|ah ?_;rw[h];exact aj aa
 ·have N:0<k:=by simp only[decide_eq_true_eq] at E;omega
  refine ar (b9 (((k-1:Nat):Int)) (by rw[R,show((k-1:Nat):Int)=(k:Int)-1 from by omega];exact ci (by omega) (by omega)) rfl)<|ar (ba jb rfl rfl (by omega) (jf _) rfl rfl) ?_;refine ar (bH eZ rfl (j5 (i:=(k-1)) (by omega)) rfl) ?_;refine cU rfl (fun D=>?_) (fun D=>?_)
  ·have w:=N4 N H I D;refine ar (b9 (((k-1:Nat):Int)) (by rw[R,show((k-1:Nat):Int)=(k:Int)-1 from by omega];exact ci (by omega) (by omega)) rfl)<|ar (Iz (xs:=xs.take k) (j:=(k-1)) jb rfl rfl (by omega) rfl) ?_;exact⟨⟨k-1,by omega,w⟩,al ⟨by rw[show xs.take (k-1)=(xs.take k).take (k-1) from by rw[uj,dK (by omega)]];rfl,trivial⟩ trivial rfl,by show k-1<k;omega⟩
  ·have h:cL (val xs)=cM (xs.take k):=by rw[Q7 J];exact congrArg cM (N5 N H I D)
   refine ah ?_;rw[h];exact aj aa
theorem mN (h:k<xs.length):val (xs.take (k+1))=val (xs.take k)+pw k*xs.getD k 0:=aN (getD_some h)
theorem oY (k:Nat):val (xs.take (k+1))=val (xs.take k)+pw k*xs.getD k 0:=by
 by_cases h:k<xs.length;·exact mN h
 ·rw[fr (by omega),List.getD,sK (by omega)];simp
structure PInv (p q:List Int) (k:Nat) (c:Int) (zs:List Int):Prop where
 le:k<=p.length
 c0:0<=c
 c1:c<=1
 L:Lim zs
 len:zs.length=k
 v:val zs+pw k*c=val (p.take k)+val (q.take k)
theorem PInv.step (h:PInv p q k c zs) (D:Lim p) (w:Lim q) (E:k<p.length) (I:S=c+p.getD k 0+q.getD k 0):PInv p q (k+1) (S/1000000000) (zs++[S%1000000000]):=by have H:=cW D k;have J:=cW w k;have:=h.c0;have:=h.c1;refine⟨E,by omega,by omega,h.L.snoc (by omega) (by omega),by simp[h.len],?_⟩;rw[oY k,oY k,mH h.len h.v (d:=S%1000000000) (c':=S/1000000000) (t:=p.getD k 0+q.getD k 0) (by omega)];grind
theorem PInv.done (h:PInv p q k c zs) (D:k=p.length) (w:q.length<=p.length):val (zs++[c])=val p+val q:=by have:=h.v;rw[pi,h.len,this,D,cz (bd _),cz w]
structure SInv (p q:List Int) (k:Nat) (c:Int) (zs:List Int):Prop where
 le:k<=p.length
 c0:0<=c
 c1:c<=1
 L:Lim zs
 len:zs.length=k
 v:val zs-pw k*c=val (p.take k)-val (q.take k)
theorem SInv.step {c':Int}(h:SInv p q k c zs) (I:k<p.length) (H:0<=d) (D:d<1000000000) (E:0<=c') (w:c'<=1) (N:d-1000000000*c'=p.getD k 0-c-q.getD k 0):SInv p q (k+1) c' (zs++[d]):=by refine⟨I,E,w,h.L.snoc H D,by simp[h.len],?_⟩;have J:=mH (zs:=zs) (k:=k) (c:= -c) (S:=val (p.take k)-val (q.take k)) (t:=p.getD k 0-q.getD k 0) (d:=d) (c':= -c') h.len (by rw[Int.mul_neg];have:=h.v;omega) (by omega);rw[oY k,oY k];grind
theorem SInv.done (h:SInv p q k c zs) (w:k=p.length) (D:q.length<=p.length) (I:val q<=val p):val zs=val p-val q:=by
 have E:=h.v;rw[w,cz (bd _),cz D] at E;have H:=eK h.L;rw[h.len,w] at H;have N:=h.c0;have J:=h.c1;have:c=0\/c=1:=by omega
 grind
structure TInv (p q:List Int) (i k:Nat) (c:Int) (zs:List Int):Prop where
 ik:i<=p.length
 kk:k<=q.length
 c0:0<=c
 c1:c<1000000000
 L:Lim zs
 len:zs.length=p.length+q.length
 z:Zr zs (i+q.length)
 v:val zs+pw (i+k)*c=val (p.take i)*val q+pw i*(p.getD i 0*val (q.take k))
theorem TInv.start:TInv p q 0 0 0 (List.replicate (p.length+q.length) 0):=
 ⟨Nat.zero_le _,eo _,by omega,by omega,Lim.zeros _,by simp,Zr.zeros _ _,by rw[yu];simp[val]⟩
theorem TInv.step (h:TInv p q i k c zs) (J:Lim p) (I:Lim q) (hi:i<p.length) (E:k<q.length) (hS:S=c+zs.getD (i+k) 0+p.getD i 0*q.getD k 0):
 TInv p q i (k+1) (S/1000000000) (zs.set (i+k) (S%1000000000)):=by
 have N:=cW J i
 have D:=cW I k
 have h3:=cW h.L (i+k)
 have a0:=h.c0
 have H:=h.c1
 have W:0<=p.getD i 0*q.getD k 0:=mh N.1 D.1
 have R:p.getD i 0*q.getD k 0<=999999999*999999999:=qR (by omega) (by omega) D.1 (by omega)
 have w:i+k<zs.length:=by rw[h.len];omega
 refine⟨h.ik,E,by omega,by omega,h.L.set (by omega) (by omega),by simp[h.len],h.z.set (by omega),?_⟩
 rw[AN (getD_some w),mN E,show i+(k+1)=i+k+1 from by omega,d5]
 have hv:=h.v
 rw[wq i k] at*
 grind
theorem TInv.row (h:TInv p q i k c zs) (hi:i<p.length) (H:k=q.length):TInv p q (i+1) 0 0 (zs.set (i+q.length) c):=by
 have w:i+q.length<zs.length:=by rw[h.len];omega
 have D:zs.getD (i+q.length) 0=0:=h.z (i+q.length) _ (bd _) (getD_some w);refine⟨hi,eo _,by omega,by omega,h.L.set h.c0 h.c1,by simp[h.len],?_,?_⟩;·rw[show i+1+q.length=i+q.length+1 from by omega];exact h.z.set_at
 ·rw[AN (getD_some w),D,mN hi];have E:=h.v;simp only[List.take_zero,val,si,Int.add_zero,Int.sub_zero];grind
theorem TInv.done (h:TInv p q i 0 0 zs) (hi:i=p.length):val zs=val p*val q:=by have w:=h.v;grind
theorem OU (w:i<xs.length) (D:i<ys.length) (h:xs.drop (i+1)=ys.drop (i+1)) (E:xs.getD i 0=ys.getD i 0):xs.drop i=ys.drop i:=by rw[oG w,oG D,h];grind
theorem Xw (h:0<=v):dI (sg true v)=.a ([.b (decide (((cX v.natAbs).length:Int)>0))]++[cL v]):=by
 rw[fW];unfold dI cI;have E:cL (-v)=cL v:=by unfold cL;rw[Int.natAbs_neg]
 have D:decide (-v<0)=decide (((cX v.natAbs).length:Int)>0):=by
  by_cases w:v=0;·subst w;simp[ku]
  ·have:(cX v.natAbs).length≠0:=fun e=>w (E7.1 e);rw[show decide (-v<0)=true from by simp;omega,show decide (((cX v.natAbs).length:Int)>0)=true from by simp only[decide_eq_true_eq];omega]
 grind
structure ShInv (xs:List Int) (j:Nat) (r:Int):Prop where
 le:j<=xs.length
 r0:0<=r
 v:r*pw j+val (xs.take j)=val xs
theorem ShInv.step (h:ShInv xs (i+1) r) (D:Lim xs):ShInv xs i (r*1000000000+xs.getD i 0):=by have E:=cW D i;refine⟨by have:=h.le;omega,by have:=h.r0;omega,?_⟩;have w:=h.v;rw[oY i,d5] at w;grind
theorem ShInv.bound (h:ShInv xs j r) (w:Lim xs):r<=val xs:=by have:=h.v;have D:=dP j;have H:=cm (w.take j);have E:=pv D h.r0;grind
theorem S3 (w:Lim xs) (D:Lim ys) (hn:xs.length<=100000000) (hm:ys.length<=100000000):Ok Tryz.prog 255 [.c (cM xs),.c (cM ys)] [.c (cL (val xs+val ys))]:=by
 refine fg Tryz.func255 55 [.tmp 4] rfl<|ab<|ag<|ab<|ab<|ag ?_;refine aA rfl (fun R=>?_) (fun R=>?_)
 ·have a2:xs.length<ys.length:=by simp only[decide_eq_true_eq] at R;omega
  refine ag<|ab<|ag ?_;refine ar (b9 ((ys.length:Int)+1) (aT (by(first|omega|(simp;omega))) (by(first|omega|(simp;omega)))) rfl) ?_;refine DL.mk<|tA (m9 (n:=ys.length+1) wy rfl rfl (by(first|omega|(simp;omega))) (by(first|omega|(simp;omega))) rfl) rfl<|fa ?_;refine ab<|ag<|ab<|ab<|ag<|aw<|bF (ι:={t:Nat×Int×List Int // PInv ys xs t.1 t.2.1 t.2.2}) (fun i=>⟨55,[(0,.v (.c (cM ys))),(1,.v (.c (cM xs))),(5,.o 18 (ys.length+1) (ys.length+1)),(6,.v (.c (.i .u32 i.1.2.1))),(7,.v (.c (.i .i64 (i.1.1:Int))))],[(18,255,(i.1.2.2++List.replicate (ys.length+1-i.1.1) 0).map (CellD.i .u32))]⟩) (fun i=>ys.length-i.1.1) ⟨(0,0,[]),⟨Nat.zero_le _,p7 0,by decide,Lim.nil,rfl,by simp[val]⟩⟩ (al ⟨rfl,rfl,rfl,rfl,rfl,trivial⟩ ⟨by rw[show(List.replicate (ys.length+1) (CellD.i .u32 0))=(([]:List Int)++List.replicate (ys.length+1-0) 0).map (CellD.i .u32) from by simp];rfl,trivial⟩ rfl) ?_;rintro⟨⟨k,c,zs⟩,h⟩;replace h:PInv ys xs k c zs:=h;have g1:=cW D k;have g2:=cW w k;have g3:=h.c0;have g4:=h.c1;have g5:=h.le;have g6:=h.len;dsimp only;refine ab<|ab<|ag ?_;refine aA rfl (fun a1=>?_) (fun a1=>?_)
  ·have H:k<ys.length:=by simp only[decide_eq_true_eq] at a1;omega
   refine au<|ab<|aw<|ab<|ag ?_;refine ar (ba jb rfl rfl (by(first|omega|(simp;omega))) (jf _) rfl rfl) ?_;refine ar (bH eZ rfl (j5 (i:=k) (by(first|omega|(simp;omega)))) rfl) ?_;refine ar (b9 (c+(ys.getD k 0)) (nD (by(first|omega|(simp;omega))) (by(first|omega|(simp;omega)))) rfl) ?_;refine ab<|ab<|ag ?_;refine aA rfl (fun N=>?_) (fun N=>?_)
   ·have W:k<xs.length:=by simp only[decide_eq_true_eq] at N;omega
    have hS:c+ys.getD k 0+xs.getD k 0=c+ys.getD k 0+xs.getD k 0:=rfl;have hb:c+ys.getD k 0+xs.getD k 0<=4294967295:=by omega
    refine ag ?_;refine ar (ba jb rfl rfl (by(first|omega|(simp;omega))) (jf _) rfl rfl) ?_;refine ar (bH eZ rfl (j5 (i:=k) (by(first|omega|(simp;omega)))) rfl) ?_;refine ar (b9 ((c+(ys.getD k 0))+(xs.getD k 0)) (nD (by(first|omega|(simp;omega))) (by(first|omega|(simp;omega)))) rfl) ?_;refine ab<|cB<|i9 3<|cV (fR (r:=(c+ys.getD k 0+xs.getD k 0)%1000000000) rfl rfl (by omega) (lI (by omega)) rfl) ?_;refine cV (bO jb rfl rfl (by(first|omega|(simp;omega))) rfl) ?_;refine iQ (bh (us:=((zs++List.replicate (ys.length+1-k) 0).set k ((c+ys.getD k 0+xs.getD k 0)%1000000000)).map (CellD.i .u32)) eZ rfl rfl rfl rfl (by simp;omega) (pW (by(first|omega|(simp;omega)))) rfl) ?_;refine ce<|ag<|ar (jJ (r:=(c+ys.getD k 0+xs.getD k 0)/1000000000) rfl rfl (by omega) (by rw[sT (by omega)];exact re (by omega) (by omega)) rfl) ?_;refine ag ?_;refine ar (b9 ((k:Int)+1) (aT (by(first|omega|(simp;omega))) (by(first|omega|(simp;omega)))) rfl) ?_;exact⟨⟨(k+1,(c+ys.getD k 0+xs.getD k 0)/1000000000,zs++[(c+ys.getD k 0+xs.getD k 0)%1000000000]),h.step D w H hS⟩,al ⟨rfl,rfl,rfl,rfl,by rw[show((k+1:Nat):Int)=(k:Int)+1 from by omega];rfl,trivial⟩ ⟨by rw[show ys.length+1-(k+1)=ys.length-k from by omega,<-lF (m:=ys.length-k) (d:=(c+ys.getD k 0+xs.getD k 0)%1000000000) g6,show ys.length-k+1=ys.length+1-k from by omega];rfl,trivial⟩ rfl,by show ys.length-(k+1)<ys.length-k;omega⟩
   ·have W: ¬k<xs.length:=by simp only[decide_eq_false_iff_not] at N;omega
    have a3:xs.getD k 0=0:=by rw[List.getD,sK (by omega)];rfl
    have hS:c+ys.getD k 0=c+ys.getD k 0+xs.getD k 0:=by omega
    refine au<|ab<|cB<|i9 3<|cV (fR (r:=(c+ys.getD k 0)%1000000000) rfl rfl (by omega) (lI (by omega)) rfl) ?_;refine cV (bO jb rfl rfl (by(first|omega|(simp;omega))) rfl) ?_;refine iQ (bh (us:=((zs++List.replicate (ys.length+1-k) 0).set k ((c+ys.getD k 0)%1000000000)).map (CellD.i .u32)) eZ rfl rfl rfl rfl (by simp;omega) (pW (by(first|omega|(simp;omega)))) rfl) ?_;refine ce<|ag<|ar (jJ (r:=(c+ys.getD k 0)/1000000000) rfl rfl (by omega) (by rw[sT (by omega)];exact re (by omega) (by omega)) rfl) ?_;refine ag ?_;refine ar (b9 ((k:Int)+1) (aT (by(first|omega|(simp;omega))) (by(first|omega|(simp;omega)))) rfl) ?_;exact⟨⟨(k+1,(c+ys.getD k 0)/1000000000,zs++[(c+ys.getD k 0)%1000000000]),h.step D w H hS⟩,al ⟨rfl,rfl,rfl,rfl,by rw[show((k+1:Nat):Int)=(k:Int)+1 from by omega];rfl,trivial⟩ ⟨by rw[show ys.length+1-(k+1)=ys.length-k from by omega,<-lF (m:=ys.length-k) (d:=(c+ys.getD k 0)%1000000000) g6,show ys.length-k+1=ys.length+1-k from by omega];rfl,trivial⟩ rfl,by show ys.length-(k+1)<ys.length-k;omega⟩
  ·have H:k=ys.length:=by simp only[decide_eq_false_iff_not] at a1;omega
   have E:(val xs+val ys:Int)=val ((zs++List.replicate (ys.length+1-k) 0).set ys.length c):=by rw[show ys.length+1-k=0+1 from by omega,lF (by omega)];simp only[List.replicate_zero,pI];rw[h.done H (by omega)];omega
   have a0:Lim ((zs++List.replicate (ys.length+1-k) 0).set ys.length c):=(h.L.append (Lim.zeros _)).set g3 (by omega);refine bn<|ab<|cB<|i9 4 ?_;refine cV (bO jb rfl rfl (by(first|omega|(simp;omega))) rfl) ?_;refine iQ (bh (us:=((zs++List.replicate (ys.length+1-k) 0).set ys.length c).map (CellD.i .u32)) eZ rfl rfl rfl rfl (by simp;omega) (pW (by(first|omega|(simp;omega)))) rfl) ?_;refine ce<|ab ?_;refine u4 (t:=5) (zs:=(zs++List.replicate (ys.length+1-k) 0).set ys.length c) (ys:=(zs++List.replicate (ys.length+1-k) 0).set ys.length c) rfl rfl (by first|omega|(simp;omega)|simp) (by omega) (by omega) (f9 (by first|omega|(simp;omega)|simp)) ?_;refine ag<|ac rfl (kv a0 (by simp;omega))<|bc ?_;rw[E];exact ah (aj aa)
 ·have a2:ys.length<=xs.length:=by simp only[decide_eq_false_iff_not] at R;omega
  refine au<|ab<|ag ?_;refine ar (b9 ((xs.length:Int)+1) (aT (by(first|omega|(simp;omega))) (by(first|omega|(simp;omega)))) rfl) ?_;refine DL.mk<|tA (m9 (n:=xs.length+1) wy rfl rfl (by(first|omega|(simp;omega))) (by(first|omega|(simp;omega))) rfl) rfl<|fa ?_;refine ab<|ag<|ab<|ab<|ag<|aw<|bF (ι:={t:Nat×Int×List Int // PInv xs ys t.1 t.2.1 t.2.2}) (fun i=>⟨55,[(0,.v (.c (cM xs))),(1,.v (.c (cM ys))),(5,.o 18 (xs.length+1) (xs.length+1)),(6,.v (.c (.i .u32 i.1.2.1))),(7,.v (.c (.i .i64 (i.1.1:Int))))],[(18,255,(i.1.2.2++List.replicate (xs.length+1-i.1.1) 0).map (CellD.i .u32))]⟩) (fun i=>xs.length-i.1.1) ⟨(0,0,[]),⟨Nat.zero_le _,p7 0,by decide,Lim.nil,rfl,by simp[val]⟩⟩ (al ⟨rfl,rfl,rfl,rfl,rfl,trivial⟩ ⟨by rw[show(List.replicate (xs.length+1) (CellD.i .u32 0))=(([]:List Int)++List.replicate (xs.length+1-0) 0).map (CellD.i .u32) from by simp];rfl,trivial⟩ rfl) ?_;rintro⟨⟨k,c,zs⟩,h⟩;replace h:PInv xs ys k c zs:=h;have g1:=cW w k;have g2:=cW D k;have g3:=h.c0;have g4:=h.c1;have g5:=h.le;have g6:=h.len;dsimp only;refine ab<|ab<|ag ?_;refine aA rfl (fun I=>?_) (fun I=>?_)
  ·have H:k<xs.length:=by simp only[decide_eq_true_eq] at I;omega
   refine au<|ab<|aw<|ab<|ag ?_;refine ar (ba jb rfl rfl (by(first|omega|(simp;omega))) (jf _) rfl rfl) ?_;refine ar (bH eZ rfl (j5 (i:=k) (by(first|omega|(simp;omega)))) rfl) ?_;refine ar (b9 (c+(xs.getD k 0)) (nD (by(first|omega|(simp;omega))) (by(first|omega|(simp;omega)))) rfl) ?_;refine ab<|ab<|ag ?_;refine aA rfl (fun J=>?_) (fun J=>?_)
   ·have W:k<ys.length:=by simp only[decide_eq_true_eq] at J;omega
    have hS:c+xs.getD k 0+ys.getD k 0=c+xs.getD k 0+ys.getD k 0:=rfl;have hb:c+xs.getD k 0+ys.getD k 0<=4294967295:=by omega
    refine ag ?_;refine ar (ba jb rfl rfl (by(first|omega|(simp;omega))) (jf _) rfl rfl) ?_;refine ar (bH eZ rfl (j5 (i:=k) (by(first|omega|(simp;omega)))) rfl) ?_;refine ar (b9 ((c+(xs.getD k 0))+(ys.getD k 0)) (nD (by(first|omega|(simp;omega))) (by(first|omega|(simp;omega)))) rfl) ?_;refine ab<|cB<|i9 3<|cV (fR (r:=(c+xs.getD k 0+ys.getD k 0)%1000000000) rfl rfl (by omega) (lI (by omega)) rfl) ?_;refine cV (bO jb rfl rfl (by(first|omega|(simp;omega))) rfl) ?_;refine iQ (bh (us:=((zs++List.replicate (xs.length+1-k) 0).set k ((c+xs.getD k 0+ys.getD k 0)%1000000000)).map (CellD.i .u32)) eZ rfl rfl rfl rfl (by simp;omega) (pW (by(first|omega|(simp;omega)))) rfl) ?_;refine ce<|ag<|ar (jJ (r:=(c+xs.getD k 0+ys.getD k 0)/1000000000) rfl rfl (by omega) (by rw[sT (by omega)];exact re (by omega) (by omega)) rfl) ?_;refine ag ?_;refine ar (b9 ((k:Int)+1) (aT (by(first|omega|(simp;omega))) (by(first|omega|(simp;omega)))) rfl) ?_;exact⟨⟨(k+1,(c+xs.getD k 0+ys.getD k 0)/1000000000,zs++[(c+xs.getD k 0+ys.getD k 0)%1000000000]),h.step w D H hS⟩,al ⟨rfl,rfl,rfl,rfl,by rw[show((k+1:Nat):Int)=(k:Int)+1 from by omega];rfl,trivial⟩ ⟨by rw[show xs.length+1-(k+1)=xs.length-k from by omega,<-lF (m:=xs.length-k) (d:=(c+xs.getD k 0+ys.getD k 0)%1000000000) g6,show xs.length-k+1=xs.length+1-k from by omega];rfl,trivial⟩ rfl,by show xs.length-(k+1)<xs.length-k;omega⟩
   ·have W: ¬k<ys.length:=by simp only[decide_eq_false_iff_not] at J;omega
    have a3:ys.getD k 0=0:=by rw[List.getD,sK (by omega)];rfl
    have hS:c+xs.getD k 0=c+xs.getD k 0+ys.getD k 0:=by omega
    refine au<|ab<|cB<|i9 3<|cV (fR (r:=(c+xs.getD k 0)%1000000000) rfl rfl (by omega) (lI (by omega)) rfl) ?_;refine cV (bO jb rfl rfl (by(first|omega|(simp;omega))) rfl) ?_;refine iQ (bh (us:=((zs++List.replicate (xs.length+1-k) 0).set k ((c+xs.getD k 0)%1000000000)).map (CellD.i .u32)) eZ rfl rfl rfl rfl (by simp;omega) (pW (by(first|omega|(simp;omega)))) rfl) ?_;refine ce<|ag<|ar (jJ (r:=(c+xs.getD k 0)/1000000000) rfl rfl (by omega) (by rw[sT (by omega)];exact re (by omega) (by omega)) rfl) ?_;refine ag ?_;refine ar (b9 ((k:Int)+1) (aT (by(first|omega|(simp;omega))) (by(first|omega|(simp;omega)))) rfl) ?_;exact⟨⟨(k+1,(c+xs.getD k 0)/1000000000,zs++[(c+xs.getD k 0)%1000000000]),h.step w D H hS⟩,al ⟨rfl,rfl,rfl,rfl,by rw[show((k+1:Nat):Int)=(k:Int)+1 from by omega];rfl,trivial⟩ ⟨by rw[show xs.length+1-(k+1)=xs.length-k from by omega,<-lF (m:=xs.length-k) (d:=(c+xs.getD k 0)%1000000000) g6,show xs.length-k+1=xs.length+1-k from by omega];rfl,trivial⟩ rfl,by show xs.length-(k+1)<xs.length-k;omega⟩
  ·have H:k=xs.length:=by simp only[decide_eq_false_iff_not] at I;omega
   have E:(val xs+val ys:Int)=val ((zs++List.replicate (xs.length+1-k) 0).set xs.length c):=by rw[show xs.length+1-k=0+1 from by omega,lF (by omega)];simp only[List.replicate_zero,pI];rw[h.done H (by omega)]
   have a0:Lim ((zs++List.replicate (xs.length+1-k) 0).set xs.length c):=(h.L.append (Lim.zeros _)).set g3 (by omega);refine bn<|ab<|cB<|i9 4 ?_;refine cV (bO jb rfl rfl (by(first|omega|(simp;omega))) rfl) ?_;refine iQ (bh (us:=((zs++List.replicate (xs.length+1-k) 0).set xs.length c).map (CellD.i .u32)) eZ rfl rfl rfl rfl (by simp;omega) (pW (by(first|omega|(simp;omega)))) rfl) ?_;refine ce<|ab ?_;refine u4 (t:=5) (zs:=(zs++List.replicate (xs.length+1-k) 0).set xs.length c) (ys:=(zs++List.replicate (xs.length+1-k) 0).set xs.length c) rfl rfl (by first|omega|(simp;omega)|simp) (by omega) (by omega) (f9 (by first|omega|(simp;omega)|simp)) ?_;refine ag<|ac rfl (kv a0 (by simp;omega))<|bc ?_;rw[E];exact ah (aj aa)
theorem Nu (a2:Lim xs) (a3:Lim ys) (hn:xs.length<=100000000) (a1:ys.length<=xs.length) (a4:val ys<=val xs):Ok Tryz.prog 257 [.c (cM xs),.c (cM ys)] [.c (cL (val xs-val ys))]:=by
 refine fg Tryz.func257 45 [.tmp 4] rfl<|ab<|ag<|ab<|ag ?_;refine DL.mk<|tA (m9 (n:=xs.length) wy rfl rfl (by(first|omega|(simp;omega))) (by(first|omega|(simp;omega))) rfl) rfl<|fa ?_;refine ab<|ag<|ab<|ab<|ag<|aw<|bF (ι:={t:Nat×Int×List Int // SInv xs ys t.1 t.2.1 t.2.2}) (fun i=>⟨45,[(0,.v (.c (cM xs))),(1,.v (.c (cM ys))),(5,.o 11 xs.length xs.length),(6,.v (.c (.i .u32 i.1.2.1))),(7,.v (.c (.i .i64 (i.1.1:Int))))],[(11,255,(i.1.2.2++List.replicate (xs.length-i.1.1) 0).map (CellD.i .u32))]⟩) (fun i=>xs.length-i.1.1) ⟨(0,0,[]),⟨Nat.zero_le _,p7 0,by decide,Lim.nil,rfl,by simp[val]⟩⟩ (al ⟨rfl,rfl,rfl,rfl,rfl,trivial⟩ ⟨by rw[show(List.replicate xs.length (CellD.i .u32 0))=(([]:List Int)++List.replicate (xs.length-0) 0).map (CellD.i .u32) from by simp];rfl,trivial⟩ rfl) ?_;rintro⟨⟨k,c,zs⟩,I⟩;replace I:SInv xs ys k c zs:=I;have g1:=cW a2 k;have g2:=cW a3 k;have g3:=I.c0;have g4:=I.c1;have g5:=I.le;have g6:=I.len;dsimp only;refine ab<|ab<|ag ?_;refine aA rfl (fun R=>?_) (fun R=>?_)
 ·have hk:k<xs.length:=by simp only[decide_eq_true_eq] at R;omega
  refine au<|ab<|aw<|ab<|ag ?_;refine ar (ba jb rfl rfl (by(first|omega|(simp;omega))) (jf _) rfl rfl) ?_;refine ar (bH eZ rfl (j5 (i:=k) (by(first|omega|(simp;omega)))) rfl) ?_;refine ar (b9 ((xs.getD k 0)+1000000000) (nD (by(first|omega|(simp;omega))) (by(first|omega|(simp;omega)))) rfl) ?_;refine ar (b9 (((xs.getD k 0)+1000000000)-c) (pz (by(first|omega|(simp;omega))) (by(first|omega|(simp;omega)))) rfl) ?_;refine ab<|ab<|ag ?_;refine aA rfl (fun W=>?_) (fun W=>?_)
  ·have a5:k<ys.length:=by simp only[decide_eq_true_eq] at W;omega
   refine ag ?_;refine ar (ba jb rfl rfl (by(first|omega|(simp;omega))) (jf _) rfl rfl) ?_;refine ar (bH eZ rfl (j5 (i:=k) (by(first|omega|(simp;omega)))) rfl) ?_;refine ar (b9 ((((xs.getD k 0)+1000000000)-c)-(ys.getD k 0)) (pz (by(first|omega|(simp;omega))) (by(first|omega|(simp;omega)))) rfl) ?_;refine ab<|ag<|ab<|ab<|ag ?_;refine aA rfl (fun N=>?_) (fun N=>?_)
   ·simp only[decide_eq_true_eq] at N;have D:0<=xs.getD k 0+1000000000-c-ys.getD k 0-1000000000:=by omega
    have E:xs.getD k 0+1000000000-c-ys.getD k 0-1000000000<1000000000:=by omega
    have w:(0:Int)<=0:=by omega
    have H:(0:Int)<=1:=by omega
    have h:xs.getD k 0+1000000000-c-ys.getD k 0-1000000000-1000000000*0=xs.getD k 0-c-ys.getD k 0:=by omega
    refine ag ?_;refine ar (b9 (((((xs.getD k 0)+1000000000)-c)-(ys.getD k 0))-1000000000) (pz (by(first|omega|(simp;omega))) (by(first|omega|(simp;omega)))) rfl) ?_;refine cB<|i9 3 ?_;refine cV (bO jb rfl rfl (by(first|omega|(simp;omega))) rfl) ?_;refine iQ (bh (us:=((zs++List.replicate (xs.length-k) 0).set k (((((xs.getD k 0)+1000000000)-c)-(ys.getD k 0))-1000000000)).map (CellD.i .u32)) eZ rfl rfl rfl rfl (by simp;omega) (pW (by(first|omega|(simp;omega)))) rfl) ?_;refine ce<|ag ?_;refine ar (b9 ((k:Int)+1) (aT (by(first|omega|(simp;omega))) (by(first|omega|(simp;omega)))) rfl) ?_;exact⟨⟨(k+1,0,zs++[xs.getD k 0+1000000000-c-ys.getD k 0-1000000000]),I.step hk D E w H h⟩,al ⟨rfl,rfl,rfl,rfl,by rw[show((k+1:Nat):Int)=(k:Int)+1 from by omega];rfl,trivial⟩ ⟨by rw[show xs.length-(k+1)=xs.length-k-1 from by omega,<-lF (m:=xs.length-k-1) (d:=xs.getD k 0+1000000000-c-ys.getD k 0-1000000000) g6,show xs.length-k-1+1=xs.length-k from by omega];rfl,trivial⟩ rfl,by show xs.length-(k+1)<xs.length-k;omega⟩
   ·simp only[decide_eq_false_iff_not] at N;have D:0<=xs.getD k 0+1000000000-c-ys.getD k 0:=by omega
    have E:xs.getD k 0+1000000000-c-ys.getD k 0<1000000000:=by omega
    have w:(0:Int)<=1:=by omega
    have H:(1:Int)<=1:=by omega
    have h:xs.getD k 0+1000000000-c-ys.getD k 0-1000000000*1=xs.getD k 0-c-ys.getD k 0:=by omega
    refine au<|cB<|i9 3 ?_;refine cV (bO jb rfl rfl (by(first|omega|(simp;omega))) rfl) ?_;refine iQ (bh (us:=((zs++List.replicate (xs.length-k) 0).set k ((((xs.getD k 0)+1000000000)-c)-(ys.getD k 0))).map (CellD.i .u32)) eZ rfl rfl rfl rfl (by simp;omega) (pW (by(first|omega|(simp;omega)))) rfl) ?_;refine ce<|ag ?_;refine ar (b9 ((k:Int)+1) (aT (by(first|omega|(simp;omega))) (by(first|omega|(simp;omega)))) rfl) ?_;exact⟨⟨(k+1,1,zs++[xs.getD k 0+1000000000-c-ys.getD k 0]),I.step hk D E w H h⟩,al ⟨rfl,rfl,rfl,rfl,by rw[show((k+1:Nat):Int)=(k:Int)+1 from by omega];rfl,trivial⟩ ⟨by rw[show xs.length-(k+1)=xs.length-k-1 from by omega,<-lF (m:=xs.length-k-1) (d:=xs.getD k 0+1000000000-c-ys.getD k 0) g6,show xs.length-k-1+1=xs.length-k from by omega];rfl,trivial⟩ rfl,by show xs.length-(k+1)<xs.length-k;omega⟩
  ·have a5: ¬k<ys.length:=by simp only[decide_eq_false_iff_not] at W;omega
   have a9:ys.getD k 0=0:=by rw[List.getD,sK (by omega)];rfl
   refine au<|ab<|ag<|ab<|ab<|ag ?_;refine aA rfl (fun J=>?_) (fun J=>?_)
   ·simp only[decide_eq_true_eq] at J;have D:0<=xs.getD k 0+1000000000-c-1000000000:=by omega
    have E:xs.getD k 0+1000000000-c-1000000000<1000000000:=by omega
    have w:(0:Int)<=0:=by omega
    have H:(0:Int)<=1:=by omega
    have h:xs.getD k 0+1000000000-c-1000000000-1000000000*0=xs.getD k 0-c-ys.getD k 0:=by omega
    refine ag ?_;refine ar (b9 ((((xs.getD k 0)+1000000000)-c)-1000000000) (pz (by(first|omega|(simp;omega))) (by(first|omega|(simp;omega)))) rfl) ?_;refine cB<|i9 3 ?_;refine cV (bO jb rfl rfl (by(first|omega|(simp;omega))) rfl) ?_;refine iQ (bh (us:=((zs++List.replicate (xs.length-k) 0).set k ((((xs.getD k 0)+1000000000)-c)-1000000000)).map (CellD.i .u32)) eZ rfl rfl rfl rfl (by simp;omega) (pW (by(first|omega|(simp;omega)))) rfl) ?_;refine ce<|ag ?_;refine ar (b9 ((k:Int)+1) (aT (by(first|omega|(simp;omega))) (by(first|omega|(simp;omega)))) rfl) ?_;exact⟨⟨(k+1,0,zs++[xs.getD k 0+1000000000-c-1000000000]),I.step hk D E w H h⟩,al ⟨rfl,rfl,rfl,rfl,by rw[show((k+1:Nat):Int)=(k:Int)+1 from by omega];rfl,trivial⟩ ⟨by rw[show xs.length-(k+1)=xs.length-k-1 from by omega,<-lF (m:=xs.length-k-1) (d:=xs.getD k 0+1000000000-c-1000000000) g6,show xs.length-k-1+1=xs.length-k from by omega];rfl,trivial⟩ rfl,by show xs.length-(k+1)<xs.length-k;omega⟩
   ·simp only[decide_eq_false_iff_not] at J;have D:0<=xs.getD k 0+1000000000-c:=by omega
    have E:xs.getD k 0+1000000000-c<1000000000:=by omega
    have w:(0:Int)<=1:=by omega
    have H:(1:Int)<=1:=by omega
    have h:xs.getD k 0+1000000000-c-1000000000*1=xs.getD k 0-c-ys.getD k 0:=by omega
    refine au<|cB<|i9 3 ?_;refine cV (bO jb rfl rfl (by(first|omega|(simp;omega))) rfl) ?_;refine iQ (bh (us:=((zs++List.replicate (xs.length-k) 0).set k (((xs.getD k 0)+1000000000)-c)).map (CellD.i .u32)) eZ rfl rfl rfl rfl (by simp;omega) (pW (by(first|omega|(simp;omega)))) rfl) ?_;refine ce<|ag ?_;refine ar (b9 ((k:Int)+1) (aT (by(first|omega|(simp;omega))) (by(first|omega|(simp;omega)))) rfl) ?_;exact⟨⟨(k+1,1,zs++[xs.getD k 0+1000000000-c]),I.step hk D E w H h⟩,al ⟨rfl,rfl,rfl,rfl,by rw[show((k+1:Nat):Int)=(k:Int)+1 from by omega];rfl,trivial⟩ ⟨by rw[show xs.length-(k+1)=xs.length-k-1 from by omega,<-lF (m:=xs.length-k-1) (d:=xs.getD k 0+1000000000-c) g6,show xs.length-k-1+1=xs.length-k from by omega];rfl,trivial⟩ rfl,by show xs.length-(k+1)<xs.length-k;omega⟩
 ·have hk:k=xs.length:=by simp only[decide_eq_false_iff_not] at R;omega
  have a0:val xs-val ys=val (zs++List.replicate (xs.length-k) 0):=by rw[show xs.length-k=0 from by omega];simp only[List.replicate_zero,pI];rw[I.done hk a1 a4]
  have a6:Lim (zs++List.replicate (xs.length-k) 0):=I.L.append (Lim.zeros _);refine bn<|ab ?_;refine u4 (t:=5) (zs:=zs++List.replicate (xs.length-k) 0) (ys:=zs++List.replicate (xs.length-k) 0) rfl rfl (by first|omega|(simp;omega)|simp) (by omega) (by omega) (f9 (by first|omega|(simp;omega)|simp)) ?_;refine ag<|ac rfl (kv a6 (by simp;omega))<|bc ?_;rw[a0];exact ah (aj aa)
end Go.Proofs.YtegeknjkgadehaaGreat
