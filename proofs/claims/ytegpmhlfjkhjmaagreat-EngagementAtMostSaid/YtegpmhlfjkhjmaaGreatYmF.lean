/-The types of this program,as the walks ask of them. -/
import Derived.Test.YtegpmhlfjkhjmaaGreatYmE
import Derived.Test.YtegpmhlfjkhjmaaGreatProg
namespace Go.Proofs.YtegpmhlfjkhjmaaGreat
open Go Go.RowKit
variable {ops:Array Oper}{B:BF}{z:CellD}{Q:Exit→St→Prop}{S a b c d m r u v x y:Int}{ki:IntKind}{tm:List (Nat×DV)}{bx nb:List (Nat×TypeId×List CellD)}{cs:List CellD}{p q rs xs ys zs:List Int}{hs sd:List Nat}{l os pre tail:List Oper}{by_ i id j k n:Nat}{op:Op}{P:Program}{s:SA}{σ:St}{K:St→Prop}{T:TF}{U e t1 t2 xt yt:TypeId}
variable {ty:TypeId}{pos:String}{af:Array Edge}{g:Option (Nat×Bool)}{dst:Option Nat}
theorem eo:type_of% @Ok.fn:=@Ok.fn
theorem pv:type_of% @Int.fdiv_eq_ediv_of_nonneg:=@Int.fdiv_eq_ediv_of_nonneg
theorem pF:type_of% @Int.mul_zero:=@Int.mul_zero
theorem rg:type_of% @List.forall_mem_cons:=@List.forall_mem_cons
theorem ph:type_of% @Int.tdiv_eq_ediv_of_nonneg:=@Int.tdiv_eq_ediv_of_nonneg
theorem qz:type_of% @Int.tmod_eq_emod_of_nonneg:=@Int.tmod_eq_emod_of_nonneg
theorem sr:type_of% @Int.mul_ediv_add_emod:=@Int.mul_ediv_add_emod
theorem As:type_of% @Int.eq_ofNat_of_zero_le:=@Int.eq_ofNat_of_zero_le
theorem dP:Tryz.prog.follows .mixedOrders=true:=by kernel_rfl
theorem jM:Tryz.prog.underlying 4=some .bool:=by kernel_rfl
theorem lX (m:Nat) (hpre:l.take m=pre) (htail:l.drop m=tail)
 (h:dq Tryz.prog l.toArray [] pre ⟨σ,[],[]⟩ fun s=>dl Tryz.prog l.toArray tail s.merge (Q .normal)) (hc:Kv l.toArray m σ.n=true:=by kernel_rfl):Dw Tryz.prog (.region id l.toArray true) σ Q:=pQ m [] dP hc hpre htail h
theorem du:tG Tryz.prog 106=some (47,20,320,[.b false,.s 0 [],.b false,.s 0 [],.b false,.s 0 [],.b false,.s 0 [],.b false,.s 0 [],.b false,.s 0 [],.b false,.s 0 [],.b false,.s 0 [],.b false,.s 0 [],.b false,.s 0 []]):=by kernel_rfl
theorem WW:tG Tryz.prog 222=some (2,1,8,[.i .i64 0]):=by kernel_rfl
theorem Fr:tG Tryz.prog 28=some (40,12,192,[.b false,.s 0 [],.b false,.s 0 [],.b false,.s 0 [],.b false,.s 0 [],.b false,.s 0 [],.b false,.s 0 []]):=by kernel_rfl
theorem lp:tG Tryz.prog 31=some (49,66,1040,[.b false,.b false,.s 0 [],.b false,.s 0 [],.b false,.s 0 [],.b false,.s 0 [],.b false,.s 0 [],.b false,.s 0 [],.b false,.s 0 [],.b false,.s 0 [],.b false,.s 0 [],.b false,.s 0 [],.b false,.s 0 [],.b false,.s 0 [],.b false,.b false,.s 0 [],.b false,.s 0 [],.b false,.s 0 [],.b false,.s 0 [],.b false,.s 0 [],.b false,.s 0 [],.b false,.s 0 [],.b false,.s 0 [],.b false,.s 0 [],.b false,.s 0 [],.b false,.s 0 [],.b false,.s 0 [],.b false,.s 0 [],.b false,.s 0 [],.b false,.s 0 [],.b false,.s 0 [],.b false,.s 0 [],.b false,.s 0 [],.b false,.s 0 [],.b false,.s 0 []]):=by kernel_rfl
theorem xZ:tG Tryz.prog 34=some (194,1,4,[.i .u32 0]):=by kernel_rfl
theorem Zs:tG Tryz.prog 95=some (4,1,1,[.b false]):=by kernel_rfl
theorem J8:T8 Tryz.prog 49 4=some 26:=by kernel_rfl
theorem AD:T8 Tryz.prog 49 5=some 46:=by kernel_rfl
theorem lU:ML Tryz.prog 129=some [(0,4),(4,4),(8,4)]:=by kernel_rfl
theorem DA:ML Tryz.prog 186=some [(0,4),(4,4),(8,4),(12,4),(16,4),(20,4)]:=by kernel_rfl
theorem ry:ML Tryz.prog 230=some [(0,1),(1,1)]:=by kernel_rfl
theorem LW:ML Tryz.prog 256=some [(0,4),(4,4)]:=by kernel_rfl
theorem acc:ML Tryz.prog 313=some [(0,1)]:=by kernel_rfl
theorem KD:ML Tryz.prog 36=some [(0,1),(1,1)]:=by kernel_rfl
theorem vk:ML Tryz.prog 38=some [(0,2),(2,2)]:=by kernel_rfl
theorem Y3:ML Tryz.prog 40=some [(0,4),(4,4),(8,4)]:=by kernel_rfl
theorem XJ:ML Tryz.prog 45=some [(0,4),(4,4),(8,4)]:=by kernel_rfl
theorem Ef:ML Tryz.prog 47=some [(0,4),(4,4),(8,4),(12,4),(16,4)]:=by kernel_rfl
theorem Tk:ML Tryz.prog 49=some [(0,1),(1,12),(13,12),(25,1),(26,20),(46,20)]:=by kernel_rfl
theorem HR:ML Tryz.prog 65=some [(0,4),(4,4)]:=by kernel_rfl
theorem cE:tF Tryz.prog 106=some 20:=by kernel_rfl
theorem Mn:tF Tryz.prog 222=some 1:=by kernel_rfl
theorem aav:tF Tryz.prog 26=some 4:=by kernel_rfl
theorem D3:tF Tryz.prog 28=some 12:=by kernel_rfl
theorem gP:tF Tryz.prog 31=some 66:=by kernel_rfl
theorem jv:tF Tryz.prog 34=some 1:=by kernel_rfl
theorem A6:tF Tryz.prog 95=some 1:=by kernel_rfl
theorem df:s5 Tryz.prog 129=some (true,12):=by kernel_rfl
theorem DJ:s5 Tryz.prog 186=some (true,24):=by kernel_rfl
theorem fN:s5 Tryz.prog 194=some (false,1):=by kernel_rfl
theorem Ue:s5 Tryz.prog 2=some (false,1):=by kernel_rfl
theorem jW:s5 Tryz.prog 230=some (true,2):=by kernel_rfl
theorem aaF:s5 Tryz.prog 25=some (true,4):=by kernel_rfl
theorem Mp:s5 Tryz.prog 256=some (true,8):=by kernel_rfl
theorem d9:s5 Tryz.prog 36=some (true,2):=by kernel_rfl
theorem aZ:s5 Tryz.prog 38=some (true,4):=by kernel_rfl
theorem lW:s5 Tryz.prog 4=some (false,1):=by kernel_rfl
theorem qK:s5 Tryz.prog 40=some (true,12):=by kernel_rfl
theorem TX:s5 Tryz.prog 45=some (true,12):=by kernel_rfl
theorem bq:s5 Tryz.prog 47=some (true,20):=by kernel_rfl
theorem bO:s5 Tryz.prog 49=some (true,66):=by kernel_rfl
theorem NF:s5 Tryz.prog 65=some (true,8):=by kernel_rfl
theorem FV:Tryz.prog.underlying 171=some (.int .u64):=by kernel_rfl
theorem fQ:Tryz.prog.underlying 190=some (.int .u64):=by kernel_rfl
theorem jF:Tryz.prog.underlying 194=some (.int .u32):=by kernel_rfl
theorem Ag:Tryz.prog.underlying 2=some (.int .i64):=by kernel_rfl
theorem Wr:Tryz.prog.underlying 22=some (.int .i16):=by kernel_rfl
theorem aay:Tryz.prog.underlying 23=some (.int .u16):=by kernel_rfl
theorem Rh:Tryz.prog.underlying 3=some (.int .i64):=by kernel_rfl
theorem Yy:Tryz.prog.underlying 5=some (.int .u8):=by kernel_rfl
theorem abP:Tryz.prog.underlying 52=some (.int .i8):=by kernel_rfl
theorem jL:B3 Tryz.prog 129=some [.b false,.s 0 [],.b false,.s 0 [],.b false,.s 0 [],.b false,.s 0 [],.b false,.s 0 [],.b false,.s 0 []]:=by kernel_rfl
theorem aaM:B3 Tryz.prog 148=some [.i .i64 0,.i .i64 0,.i .i64 0]:=by kernel_rfl
theorem yR:B3 Tryz.prog 186=some [.b false,.s 0 [],.b false,.s 0 [],.b false,.s 0 [],.b false,.s 0 [],.b false,.s 0 [],.b false,.s 0 [],.b false,.s 0 [],.b false,.s 0 [],.b false,.s 0 [],.b false,.s 0 [],.b false,.s 0 [],.b false,.s 0 []]:=by kernel_rfl
theorem qk:B3 Tryz.prog 230=some [.i .i64 0,.i .i64 0]:=by kernel_rfl
theorem I9:B3 Tryz.prog 256=some [.b false,.s 0 [],.b false,.s 0 [],.b false,.s 0 [],.b false,.s 0 []]:=by kernel_rfl
theorem abG:B3 Tryz.prog 303=some [.i .i64 0,.b false,.s 0 [],.b false,.s 0 [],.b false,.s 0 [],.b false,.s 0 [],.b false,.s 0 [],.b false,.s 0 []]:=by kernel_rfl
theorem abo:B3 Tryz.prog 313=some [.b false]:=by kernel_rfl
theorem Ij:B3 Tryz.prog 36=some [.b false,.s 0 []]:=by kernel_rfl
theorem uP:B3 Tryz.prog 38=some [.b false,.s 0 [],.b false,.s 0 []]:=by kernel_rfl
theorem VE:B3 Tryz.prog 40=some [.b false,.s 0 [],.b false,.s 0 [],.b false,.s 0 [],.b false,.s 0 [],.b false,.s 0 [],.b false,.s 0 []]:=by kernel_rfl
theorem U4:B3 Tryz.prog 45=some [.b false,.s 0 [],.b false,.s 0 [],.b false,.s 0 [],.b false,.s 0 [],.b false,.s 0 [],.b false,.s 0 []]:=by kernel_rfl
theorem Ac:B3 Tryz.prog 47=some [.b false,.s 0 [],.b false,.s 0 [],.b false,.s 0 [],.b false,.s 0 [],.b false,.s 0 [],.b false,.s 0 [],.b false,.s 0 [],.b false,.s 0 [],.b false,.s 0 [],.b false,.s 0 []]:=by kernel_rfl
theorem F9:B3 Tryz.prog 49=some [.b false,.b false,.s 0 [],.b false,.s 0 [],.b false,.s 0 [],.b false,.s 0 [],.b false,.s 0 [],.b false,.s 0 [],.b false,.s 0 [],.b false,.s 0 [],.b false,.s 0 [],.b false,.s 0 [],.b false,.s 0 [],.b false,.s 0 [],.b false,.b false,.s 0 [],.b false,.s 0 [],.b false,.s 0 [],.b false,.s 0 [],.b false,.s 0 [],.b false,.s 0 [],.b false,.s 0 [],.b false,.s 0 [],.b false,.s 0 [],.b false,.s 0 [],.b false,.s 0 [],.b false,.s 0 [],.b false,.s 0 [],.b false,.s 0 [],.b false,.s 0 [],.b false,.s 0 [],.b false,.s 0 [],.b false,.s 0 [],.b false,.s 0 [],.b false,.s 0 []]:=by kernel_rfl
theorem Fu:B3 Tryz.prog 65=some [.b false,.s 0 [],.b false,.s 0 [],.b false,.s 0 [],.b false,.s 0 []]:=by kernel_rfl
theorem ad7:B3 Tryz.prog 72=some [.i .i64 0,.i .i64 0]:=by kernel_rfl
def ii {α:Type}(U n:Nat) (x y:Option α):Option α:=bif Nat.blt U n then x else y
def ll {α:Type}(U n:Nat) (x:α):Option α:=bif Nat.beq U n then some x else none
def zK (U n:Nat) (x:Option Nat):Option Nat:=bif Nat.beq U n then x else none
def mN:List Nat→Nat→Option Nat
 |[],_=>none
 |x::_,0=>some x
 |_::l,i+1=>mN l i
def tyF (U:Nat):Option (Bool×Nat):=ii U 73 (ii U 36 (ii U 22 (ii U 5 (ii U 3 (ll U 2 (false,1)) (ii U 4 (ll U 3 (false,1)) (ll U 4 (false,1)))) (ii U 12 (ii U 6 (ll U 5 (false,1)) (ll U 6 (false,1))) (ii U 21 (ll U 12 (false,1)) (ll U 21 (false,1))))) (ii U 26 (ii U 23 (ll U 22 (false,1)) (ii U 25 (ll U 23 (false,1)) (ll U 25 (true,4)))) (ii U 31 (ii U 28 (ll U 26 (false,1)) (ll U 28 (false,1))) (ii U 34 (ll U 31 (false,1)) (ll U 34 (false,1)))))) (ii U 46 (ii U 39 (ii U 37 (ll U 36 (true,2)) (ii U 38 (ll U 37 (true,4)) (ll U 38 (true,4)))) (ii U 44 (ii U 40 (ll U 39 (true,12)) (ll U 40 (true,12))) (ii U 45 (ll U 44 (true,12)) (ll U 45 (true,12))))) (ii U 52 (ii U 48 (ii U 47 (ll U 46 (true,20)) (ll U 47 (true,20))) (ii U 49 (ll U 48 (true,66)) (ll U 49 (true,66)))) (ii U 65 (ii U 64 (ll U 52 (false,1)) (ll U 64 (true,8))) (ii U 72 (ll U 65 (true,8)) (ll U 72 (true,2))))))) (ii U 218 (ii U 144 (ii U 78 (ii U 74 (ll U 73 (true,8)) (ii U 77 (ll U 74 (true,8)) (ll U 77 (false,1)))) (ii U 106 (ii U 95 (ll U 78 (false,1)) (ll U 95 (false,1))) (ii U 129 (ll U 106 (false,1)) (ll U 129 (true,12))))) (ii U 185 (ii U 148 (ll U 144 (false,1)) (ii U 171 (ll U 148 (true,3)) (ll U 171 (false,1)))) (ii U 190 (ii U 186 (ll U 185 (true,24)) (ll U 186 (true,24))) (ii U 194 (ll U 190 (false,1)) (ll U 194 (false,1)))))) (ii U 284 (ii U 230 (ii U 219 (ll U 218 (true,7)) (ii U 222 (ll U 219 (true,7)) (ll U 222 (false,1)))) (ii U 255 (ii U 238 (ll U 230 (true,2)) (ll U 238 (false,1))) (ii U 256 (ll U 255 (true,8)) (ll U 256 (true,8))))) (ii U 331 (ii U 303 (ii U 302 (ll U 284 (false,1)) (ll U 302 (true,13))) (ii U 313 (ll U 303 (true,13)) (ll U 313 (true,1)))) (ii U 335 (ii U 332 (ll U 331 (false,1)) (ll U 332 (false,1))) (ii U 336 (ll U 335 (false,1)) (ll U 336 (false,1)))))))
def slF (U:Nat):Option Nat:=ii U 77 (ii U 31 (ii U 28 (ll U 26 4) (ll U 28 12)) (ii U 34 (ll U 31 66) (ll U 34 1))) (ii U 106 (ii U 95 (ll U 77 2) (ll U 95 1)) (ii U 144 (ll U 106 20) (ii U 222 (ll U 144 7) (ll U 222 1))))
def fdF (U i:Nat):Option Nat:=ii U 72 (ii U 45 (ii U 38 (ii U 36 (zK U 25 (mN [0,1,2,3] i)) (ii U 37 (zK U 36 (mN [0,1] i)) (zK U 37 (mN [0,2] i)))) (ii U 40 (ii U 39 (zK U 38 (mN [0,2] i)) (zK U 39 (mN [0,4,8] i))) (ii U 44 (zK U 40 (mN [0,4,8] i)) (zK U 44 (mN [0,4,8] i))))) (ii U 48 (ii U 46 (zK U 45 (mN [0,4,8] i)) (ii U 47 (zK U 46 (mN [0,4,8,12,16] i)) (zK U 47 (mN [0,4,8,12,16] i)))) (ii U 64 (ii U 49 (zK U 48 (mN [0,1,13,25,26,46] i)) (zK U 49 (mN [0,1,13,25,26,46] i))) (ii U 65 (zK U 64 (mN [0,4] i)) (zK U 65 (mN [0,4] i)))))) (ii U 218 (ii U 129 (ii U 73 (zK U 72 (mN [0,1] i)) (ii U 74 (zK U 73 (mN [0,2,4,5,6,7] i)) (zK U 74 (mN [0,2,4,5,6,7] i)))) (ii U 185 (ii U 148 (zK U 129 (mN [0,4,8] i)) (zK U 148 (mN [0,1,2] i))) (ii U 186 (zK U 185 (mN [0,4,8,12,16,20] i)) (zK U 186 (mN [0,4,8,12,16,20] i))))) (ii U 256 (ii U 230 (ii U 219 (zK U 218 (mN [0,1,4,6] i)) (zK U 219 (mN [0,1,4,6] i))) (ii U 255 (zK U 230 (mN [0,1] i)) (zK U 255 (mN [0,4] i)))) (ii U 303 (ii U 302 (zK U 256 (mN [0,4] i)) (zK U 302 (mN [0,1] i))) (ii U 313 (zK U 303 (mN [0,1] i)) (zK U 313 (mN [0] i))))))
def tb:Tb:=⟨fun U=>bif Nat.blt U 337 then tyF U else none,fun U i=>bif Nat.blt U 337&&Nat.blt i 16 then fdF U i else none,fun U=>bif Nat.blt U 337 then slF U else none⟩
theorem Sg:TbOk Tryz.prog tb:=TbOk.of (by kernel_rfl) (by kernel_rfl) (by kernel_rfl)
theorem bU (k:Nat) (h:Xq Tryz.prog tb ops K n k os tm bx):dl Tryz.prog ops os ⟨n,tm,bx⟩ K:=OQ Sg h
theorem cn {K:Sq→Prop}(k:Nat) (h:stq Tryz.prog tb ops hs K n k os tm bx nb sd):dq Tryz.prog ops hs os ⟨⟨n,tm,bx⟩,nb,sd⟩ K:=Vr Sg h
theorem ed (h:XX tb ops K n os tm bx):dl Tryz.prog ops os ⟨n,tm,bx⟩ K:=G8 Sg h
theorem yW {K:Sq→Prop}(h:sqe tb ops hs K n os tm bx nb sd):dq Tryz.prog ops hs os ⟨⟨n,tm,bx⟩,nb,sd⟩ K:=MH Sg h
def cQ (n d:Int):List CellD:=cI n++cI d
def dQ (n d:Int):D0:=.a (cQ n d)
def cR (x:Rat):List CellD:=cQ x.num (x.den:Int)
def dR (x:Rat):D0:=.a (cR x)
theorem Bn {q:Int}(hy:y≠0) (h:x=y*q+r) (hp:0<y→0≤r∧r<y) (hn:y<0→y<r∧r≤0):x.fdiv y=q∧x.fmod y=r:=by
 have hfd:x.fdiv y=q:=by
  rcases Int.lt_or_gt_of_ne hy with h0|h0
  ·obtain⟨h1,h2⟩:=hn h0
   rw[←Int.neg_fdiv_neg,pv _ (by omega)]
   have:=(Int.ediv_emod_unique (a:= -x) (b:= -y) (r:= -r) (q:=q) (by omega)).2 ⟨by rw[h];simp only[Int.neg_mul];omega,by omega,by omega⟩
   grind
  ·obtain⟨h1,h2⟩:=hp h0
   rw[pv _ (by omega)]
   exact((Int.ediv_emod_unique (a:=x) (b:=y) (r:=r) (q:=q) h0).2 ⟨by rw[h];omega,h1,h2⟩).1
 have:=Int.mul_fdiv_add_fmod x y
 grind
def q0 (x y:Int):Int:=sg (!(decide (x<0)==decide (y<0))) ((x.natAbs:Int)/y.natAbs)
def r0 (x y:Int):Int:=sg (decide (x<0)) ((x.natAbs:Int)%y.natAbs)
theorem Wz:x=y*q0 x y+r0 x y:=by
 have h:=sr (x.natAbs:Int) y.natAbs
 unfold q0 r0
 obtain⟨q,hq⟩: ∃q,(x.natAbs:Int)/y.natAbs=q:=⟨_,rfl⟩
 obtain⟨r,hr⟩: ∃r,(x.natAbs:Int)%y.natAbs=r:=⟨_,rfl⟩
 rw[hq,hr]
 rw[hq,hr] at h
 by_cases hx:x<0<;>by_cases hy:y<0
 ·rw[show(x.natAbs:Int)= -x from by omega,show(y.natAbs:Int)= -y from by omega,Int.neg_mul] at h
  rw[show(!(decide (x<0)==decide (y<0)))=false from by simp[hx,hy],show decide (x<0)=true from by simp[hx],gJ,dd]
  omega
 ·rw[show(x.natAbs:Int)= -x from by omega,show(y.natAbs:Int)=y from by omega] at h
  rw[show(!(decide (x<0)==decide (y<0)))=true from by simp[hx,hy],show decide (x<0)=true from by simp[hx],gJ,gJ,Int.mul_neg]
  omega
 ·rw[show(x.natAbs:Int)=x from by omega,show(y.natAbs:Int)= -y from by omega,Int.neg_mul] at h
  rw[show(!(decide (x<0)==decide (y<0)))=true from by simp[hx,hy],show decide (x<0)=false from by simp[hx],gJ,dd,Int.mul_neg]
  omega
 ·rw[show(x.natAbs:Int)=x from by omega,show(y.natAbs:Int)=y from by omega] at h
  rw[show(!(decide (x<0)==decide (y<0)))=false from by simp[hx,hy],show decide (x<0)=false from by simp[hx],dd,dd]
  omega
theorem Oe (hy:y≠0):0≤(x.natAbs:Int)%y.natAbs∧(x.natAbs:Int)%y.natAbs<y.natAbs:=⟨Int.emod_nonneg _ (by omega),oR _ (by omega)⟩
theorem yX (hy:y≠0) (h:r0 x y=0∨(r0 x y<0↔y<0)):x.fdiv y=q0 x y∧x.fmod y=r0 x y:=by
 refine Bn hy Wz ?_ ?_
 all_goals
  have:=Oe (x:=x) hy
  unfold r0 at*
  by_cases hx:x<0
  ·simp only[hx,decide_true,gJ] at*;omega
  ·simp only[hx,decide_false,dd] at*;omega
theorem HP (hy:y≠0) (h0:r0 x y≠0) (h: ¬(r0 x y<0↔y<0)):x.fdiv y=q0 x y-1∧x.fmod y=r0 x y+y:=by
 refine Bn hy ?_ ?_ ?_
 ·have:=Wz (x:=x) (y:=y)
  rw[Int.mul_sub];omega
 all_goals
  have:=Oe (x:=x) hy
  unfold r0 at*
  by_cases hx:x<0
  ·simp only[hx,decide_true,gJ] at*;omega
  ·simp only[hx,decide_false,dd] at*;omega
theorem GT:(dA y.natAbs).length=0↔y=0:=by
 rw[jQ,et];omega
theorem sX (h:decide (((dA r.natAbs).length:Int)>0)=true):r≠0:=by
 intro e
 have:=GT.2 e
 grind
theorem tg (h:decide (((dA r.natAbs).length:Int)>0)=false):r=0:=by
 simp only[decide_eq_false_iff_not] at h
 exact GT.1 (by omega)
theorem Gn (h:(!(decide (a<0)==decide (b<0)))=true): ¬(a<0↔b<0):=by simpa using h
theorem Fj (h:(!(decide (a<0)==decide (b<0)))=false):(a<0↔b<0):=by simpa using h
theorem Sz.q0 (hx:Sz k x):Sz k (q0 x y):=by
 refine hx.of_le ?_
 have h1:(x.natAbs:Int)/(y.natAbs:Int)≤x.natAbs:=Int.ediv_le_self _ (by omega)
 have h2:0≤(x.natAbs:Int)/(y.natAbs:Int):=uh (by omega) (by omega)
 unfold Go.Proofs.YtegpmhlfjkhjmaaGreat.q0
 generalize (!(decide (x<0)==decide (y<0)))=s
 cases s
 ·rw[dd];omega
 ·rw[gJ];omega
theorem Sz.r0 (hy:y≠0) (h:Sz k y):Sz k (r0 x y):=by
 refine h.of_le ?_
 have:=Oe (x:=x) hy
 unfold Go.Proofs.YtegpmhlfjkhjmaaGreat.r0
 generalize decide (x<0)=s
 cases s
 ·rw[dd];omega
 ·rw[gJ];omega
theorem F8 (h1:0≤a) (h2:0≤c):Int.gcd c (a%c)=Int.gcd a c:=by
 obtain⟨m,rfl⟩:=As h1
 obtain⟨n,rfl⟩:=As h2
 show Nat.gcd n (m%n)=Nat.gcd m n
 rw[Nat.gcd_comm m n,Nat.gcd_rec n m,Nat.gcd_comm]
structure GInv (x y a c:Int):Prop where
 sa:Sz 100000000 a
 sc:Sz 100000000 c
 a0:0≤a
 c0:0≤c
 g:Int.gcd a c=Int.gcd x y
theorem GInv.start (hx:Sz 100000000 x) (hy:Sz 100000000 y):GInv x y (sg false (x.natAbs:Int)) (sg false (y.natAbs:Int)):=by
 rw[dd,dd]
 exact⟨hx.of_le (by omega),hy.of_le (by omega),by omega,by omega,rfl⟩
theorem GInv.step (h:GInv x y a c) (hc:c≠0):GInv x y c (sg false ((a.natAbs:Int)%c.natAbs)):=by
 rw[dd]
 have h1:=h.a0
 have h2:=h.c0
 have e1:(a.natAbs:Int)=a:=by omega
 have e2:(c.natAbs:Int)=c:=by omega
 rw[e1,e2]
 have h3:=pG a hc
 have h4:=oR a (show 0<c by omega)
 exact⟨h.sc,h.sc.of_le (by omega),h2,h3,by rw[←h.g,F8 h1 h2]⟩
theorem GInv.less (h:GInv x y a c) (hc:c≠0):(sg false ((a.natAbs:Int)%c.natAbs)).toNat<c.toNat:=by
 rw[dd]
 have:=h.c0
 have:=Oe (x:=a) hc
 omega
theorem GInv.done (h:GInv x y a c) (hc:c=0):(Int.gcd x y:Int)=sg false (a.natAbs:Int):=by
 rw[←h.g,hc,dd];simp
structure GInv2 (x y u v:Int):Prop where
 u0:0≤u
 u1:u≤18446744073709551615
 v0:0≤v
 v1:v≤18446744073709551615
 g:Int.gcd u v=Int.gcd x y
theorem GInv.word (h:GInv x y a c) (ha:decide (a.natAbs<1000000000000000000)=true) (hc:decide (c.natAbs<1000000000000000000)=true):
 GInv2 x y (if a.natAbs<1000000000000000000 then(a.natAbs:Int) else 0) (if c.natAbs<1000000000000000000 then(c.natAbs:Int) else 0):=by
 rw[decide_eq_true_eq] at ha hc
 rw[if_pos ha,if_pos hc]
 exact⟨by omega,by omega,by omega,by omega,by rw[←h.g];rfl⟩
theorem GInv2.step (h:GInv2 x y u v) (hv:v>0):GInv2 x y v (u.tmod v):=by
 have h1:=h.u0
 rw[qz h1]
 have h3:=pG u (show v≠0 by omega)
 have h4:=oR u hv
 exact⟨h.v0,h.v1,h3,by have:=h.v1;omega,by rw[←h.g,F8 h1 h.v0]⟩
theorem GInv2.less (h:GInv2 x y u v) (hv:v>0):(u.tmod v).toNat<v.toNat:=by
 rw[qz h.u0]
 have h4:=oR u hv
 omega
theorem GInv2.done (h:GInv2 x y u v) (hv:v≤0):(Int.gcd x y:Int)=sg false u:=by
 have h0:=h.v0
 have h1:=h.u0
 rw[←h.g,show v=0 from by omega,dd];simp;omega
theorem M4 (h:Lim xs):trm xs=dA (val xs).natAbs:=by
 have h0:=cW h
 rw[KK (tM xs) h.trm,iS]
 grind
def cM (xs:List Int):CellD:=.s xs.length (xs.map (CellD.i .u32))
theorem W7 (e:Int):cL e=cM (dA e.natAbs):=rfl
theorem Qr (h:Lim xs):cL (val xs)=cM (trm xs):=by rw[W7,M4 h]
theorem jx (xs:List Int):(xs.map (CellD.i .u32)).length=xs.length*1:=by simp
theorem kX (h:i<xs.length):((xs.map (CellD.i .u32)).drop (i*1))[0]? =some (.i .u32 (xs.getD i 0)):=by grind
theorem acE (h:i<xs.length):(xs.map (CellD.i .u32))[i*1]? =some (.i .u32 (xs.getD i 0)):=by grind
theorem rM (h:i<xs.length):(xs.map (CellD.i .u32)).take (i*1)++[CellD.i .u32 x]++(xs.map (CellD.i .u32)).drop (i*1+1)=(xs.set i x).map (CellD.i .u32):=by
 rw[List.set_eq_take_append_cons_drop,if_pos h]
 simp
theorem dr (h:Lim xs) (i:Nat):0≤xs.getD i 0∧xs.getD i 0<1000000000:=by
 rw[List.getD]
 cases hx:xs[i]? with
 |none=>simp
 |some x=>exact h.at_ hx
theorem getD_some (h:i<xs.length):xs[i]? =some (xs.getD i 0):=by grind
theorem pK (h0: -9223372036854775808≤x) (h1:x≤9223372036854775807):IntKind.i64.wrap x=x:=by unfold IntKind.wrap;simp[IntKind.bits,IntKind.signed];omega
theorem iC (h0:0≤x) (h1:x≤18446744073709551615):IntKind.u64.wrap x=x:=by unfold IntKind.wrap;simp[IntKind.bits,IntKind.signed];omega
theorem sV (h0:0≤x) (h1:x≤4294967295):IntKind.u32.wrap x=x:=by unfold IntKind.wrap;simp[IntKind.bits,IntKind.signed];omega
theorem bh (h0: -9223372036854775808≤a+b) (h1:a+b≤9223372036854775807):Do .add .i64 a b=some (a+b):=congrArg some (pK h0 h1)
theorem ca {x y:Operand}{ty:TypeId}(hj:j<9223372036854775807) (h:(cG T x,cG T y,gd ops ⟨dst,.binOp .add xt x y yt,ty,pos,af,g⟩ T)=(some (.v (.c (.i .i64 j))),some (.v (.c (.i .i64 1))),some true)):Sem P ops ⟨dst,.binOp .add xt x y yt,ty,pos,af,g⟩ T B (.r (.v (.c (.i .i64 ((j+1:Nat):Int))))):=
 ju (congrArg Prod.fst h) (congrArg (fun q=>q.2.1) h) ((bh (by omega) (by omega)).trans (congrArg some (by omega))) (congrArg (fun q=>q.2.2) h)
theorem bK (h0: -9223372036854775808≤a-b) (h1:a-b≤9223372036854775807):Do .sub .i64 a b=some (a-b):=congrArg some (pK h0 h1)
theorem gh (h0:0≤a+b) (h1:a+b≤18446744073709551615):Do .add .u64 a b=some (a+b):=congrArg some (iC h0 h1)
theorem Jm (h0:0≤a-b) (h1:a-b≤18446744073709551615):Do .sub .u64 a b=some (a-b):=congrArg some (iC h0 h1)
theorem iu (h0:0≤a*b) (h1:a*b≤18446744073709551615):Do .mul .u64 a b=some (a*b):=congrArg some (iC h0 h1)
theorem ow (h0:0≤a+b) (h1:a+b≤4294967295):Do .add .u32 a b=some (a+b):=congrArg some (sV h0 h1)
theorem rH (h0:0≤a-b) (h1:a-b≤4294967295):Do .sub .u32 a b=some (a-b):=congrArg some (sV h0 h1)
theorem Oc (h1:0<k) (hk:k≤xs.length) (hT:trm (xs.take k)=trm xs) (h:((xs.take k).getD (k-1) 0==0)=true):trm (xs.take (k-1))=trm xs:=by
 obtain⟨j,rfl⟩: ∃j,k=j+1:=⟨k-1,by omega⟩
 rw[Nat.add_sub_cancel] at*
 have hx:=getD_some (xs:=xs) (i:=j) (by omega)
 rw[←hT,rV hx (by simpa using h)]
theorem NY (h1:0<k) (hk:k≤xs.length) (hT:trm (xs.take k)=trm xs) (h:((xs.take k).getD (k-1) 0==0)=false):trm xs=xs.take k:=by
 obtain⟨j,rfl⟩: ∃j,k=j+1:=⟨k-1,by omega⟩
 have hx:=getD_some (xs:=xs) (i:=j) (by omega)
 rw[←hT,rW hx (by simpa using h)]
section
variable {P:Program}{ops:Array Oper}{T:TF}{B:BF}
theorem kG {x y:Operand}{k:IntKind}{n:Int}
 (hx:cG T x=some (.v (.c (.i k m)))) (hy:cG T y=some (.v (.c (.i k n)))) (h0:n≠0) (hr:k.wrap (m.tdiv n)=r) (hg:gd ops ⟨dst,.binOp .quo xt x y yt,ty,pos,af,g⟩ T=some true):
 Sem P ops ⟨dst,.binOp .quo xt x y yt,ty,pos,af,g⟩ T B (.r (.v (.c (.i k r)))):=by subst hr;exact UZ hx hy h0 hg
theorem gD {x y:Operand}{k:IntKind}{n:Int}
 (hx:cG T x=some (.v (.c (.i k m)))) (hy:cG T y=some (.v (.c (.i k n)))) (h0:n≠0) (hr:m.tmod n=r) (hg:gd ops ⟨dst,.binOp .rem xt x y yt,ty,pos,af,g⟩ T=some true):
 Sem P ops ⟨dst,.binOp .rem xt x y yt,ty,pos,af,g⟩ T B (.r (.v (.c (.i k r)))):=by subst hr;exact G0 hx hy h0 hg
theorem bZ {x:Operand}{k1 k2 k:IntKind}
 (h1:P.underlying t1=some (.int k1)) (h2:P.underlying t2=some (.int k2)) (hx:cG T x=some (.v (.c (.i k m)))) (hr:k2.wrap m=r) (hg:gd ops ⟨dst,.convert t1 t2 x,ty,pos,af,g⟩ T=some true):
 Sem P ops ⟨dst,.convert t1 t2 x,ty,pos,af,g⟩ T B (.r (.v (.c (.i k2 r)))):=by subst hr;exact QE h1 h2 hx hg
theorem yo {x:Operand}
 (hU:tG P U=some (e,1,by_,[z])) (hx:cG T x=some (.v (.c (.i .u32 m)))) (hg:gd ops ⟨dst,.buildSlice U 1 #[(0,x)],ty,pos,af,g⟩ T=some true):
 Sem P ops ⟨dst,.buildSlice U 1 #[(0,x)],ty,pos,af,g⟩ T B (.r (.v (.c (cM [m])))):=by
 have h:=oM (B:=B) (n:=1) (us:=[.i .u32 m]) (dps:=[(0,.c (.i .u32 m))]) hU (by unfold ve;rw[hx];rfl) rfl (by omega) (by omega) hg
 refine⟨pS rfl,fun V β a w hs=>?_⟩
 obtain⟨hw,hg⟩:=h V β a w hs
 refine⟨hw,hg.mono ?_⟩
 rintro v w' ⟨vs,rfl,rfl,hr⟩
 refine⟨?_,(eQ _ w).alloc (cg _) _⟩
 have hkeep:=Keep.below (av:=V) ((eQ w.heap.size w).alloc (cg _) (.cells vs e))
 have hr2:=hr.keep hkeep
 have hvl:vs.size=1:=by have:=hr.1;simpa using this
 refine .s w.heap.size 0 1 1 1 _ (fun j=>vs.getD j undef) (by omega) (by omega) (by omega) rfl (by simp) (fun h=>by have:=hs.av _ h;omega) (fun j hj=>?_) (fun j u hj=>?_)
 ·simp_all
 ·have hlt:j<1:=by have:=(jf.1 hj).1;simpa using this
  refine hr2.2 j _ u ?_ hj
  have:j<vs.size:=by omega
  simp[Array.getD,this]
theorem FR {x y:Operand}{m:Nat}{zs:List CellD}
 (hU:tG P U=some (e,m,by_,zs)) (hx:cG T x=some (.o k n n)) (hy:cG T y=some (.v (.c (.s 0 [])))) (hb:B k=some (e,cs)) (hcs:cs.length=n*m) (hn:0<n) (hn2:n≤9223372036854775807)
 (hg:gd ops ⟨dst,.call ⟨.builtin .append,#[x,y],#[U,U]⟩,ty,pos,af,g⟩ T=some true):
 Sem P ops ⟨dst,.call ⟨.builtin .append,#[x,y],#[U,U]⟩,ty,pos,af,g⟩ T B (.c k (.v (.c (.s n cs)))):=by
 refine⟨rfl,by rw[hb];simp,fun V β a w hs=>⟨ez hs hg,?_⟩⟩
 have e1:a.eval x=.slice (some ⟨β k,0,none⟩) n n:=aD hs (x:=x) (by simp[Op.operands,Call.operands]) hx
 have h2:RdC V w (a.eval y) (.s 0 []):=aD hs (x:=y) (by simp[Op.operands,Call.operands]) hy
 have h3: ∃A c,a.eval y=.slice A 0 c:=by
  generalize a.eval y=v at h2
  cases h2 with
  |s0 A c _=>exact⟨A,c,rfl⟩
  |s b off c sz _ _ cv h0=>omega
 obtain⟨A,c,e2⟩:=h3
 obtain⟨hu,i,z,hi,hz,hsz,hby,_,hzr⟩:=iW hU
 obtain⟨hvk,vs,ev,hr⟩:=hs.box k e cs hb
 have hfirst: ∀w,(Builtin.firstCells m 0 (.slice A 0 c)).run P w=.ok #[] w:=by
  intro w
  cases A with
  |none=>rfl
  |some A=>simp[Builtin.firstCells,loadCells,loadCellsFrom]
 have hexec:(execOp a.eval ⟨dst,.call ⟨.builtin .append,#[x,y],#[U,U]⟩,ty,pos,af,g⟩).run P w=.ok (.value (.slice (some ⟨β k,0,none⟩) n n)) w:=by
  simp only[execOp,resolve,invoke,builtin,fb,f6,fk,qV,oJ,qe,e1,e2]
  simp[Builtin.append_,run_underlying hu,sizeOf,typeInfo,program,Sem.run,hi,hsz,Builtin.lenOf,hfirst,storeCells]
 unfold Gives
 rw[hexec]
 refine⟨?_,eQ _ _⟩
 have hkeep:Keep V (fun b=>V b∧b≠β k) w w:=⟨Nat.le_refl _,fun _ _ _=>rfl,fun _ _ h=>h.1⟩
 have hr2:=hr.keep hkeep
 have hvl:vs.size=n*m:=by have:=hr.1;simp at this;omega
 refine .s (β k) 0 n m n cs (fun j=>vs.getD j undef) hn (cg _) hn2 hcs (hs.av _ hvk) (fun h=>h.2 rfl) (fun j hj=>?_) (fun j u hj=>?_)
 ·rw[gV,cY ev]
  have:j<vs.size:=by omega
  simp[Array.getD,this]
 ·have hlt:j<cs.length:=(jf.1 hj).1
  refine hr2.2 j _ u ?_ hj
  have:j<vs.size:=by omega
  simp[Array.getD,this]
theorem Ea {x y:Operand}
 (hU:tG P U=some (e,1,4,[z])) (hx:cG T x=some (.o k 1 1)) (hy:cG T y=some (.v (.c (cM rs)))) (hb:B k=some (e,[.i .u32 d])) (hl:rs.length≤1000000000)
 (hg:gd ops ⟨dst,.call ⟨.builtin .append,#[x,y],#[U,U]⟩,ty,pos,af,g⟩ T=some true):
 Sem P ops ⟨dst,.call ⟨.builtin .append,#[x,y],#[U,U]⟩,ty,pos,af,g⟩ T B (.c k (.v (.c (cM (d::rs))))):=by
 cases rs with
 |nil=>exact FR (n:=1) hU hx hy hb rfl (by omega) (by omega) hg
 |cons r rs=>
  have:=Ab (us:=(d::r::rs).map (CellD.i .u32)) hU hx hy hb rfl (jx _) (by omega) (by simp) (by omega) (by simp at hl⊢;omega) (by simp at hl⊢;unfold maxLen;omega) rfl hg
  unfold cM
  grind
theorem ww {c:Code}{N t n' c':Nat}
 (ht:aF t tm=some (.o k n' c')) (hb:aF k bx=some (U,zs.map (CellD.i .u32))) (hm:zs.length=c') (hn:n'≤c') (hc:c'≤9223372036854775807) (hu:zs.take n'=ys)
 (h:Dw P c ⟨N,(t,.v (.c (cM ys)))::lF k tm,jY k bx⟩ Q):Dw P c ⟨N,tm,bx⟩ Q:=by
 refine cB ht hb (m:=1) (us:=ys.map (CellD.i .u32)) (by simp[hm]) hn hc (by rw[vM,←List.map_take,hu]) ?_
 unfold cM at h
 grind
theorem HA {x h:Operand}
 (hU:tF P U=some 1) (hx:cG T x=some (.v (.c (cM xs)))) (hh:cG T h=some (.v (.c (.i ki j)))) (hj:j≤xs.length) (hg:gd ops ⟨dst,.slice U x none (some h) none,ty,pos,af,g⟩ T=some true):
 Sem P ops ⟨dst,.slice U x none (some h) none,ty,pos,af,g⟩ T B (.r (.v (.c (cM (xs.take j))))):=by
 have:=oC (B:=B) hU hx hh (by omega) (jx xs) rfl hg
 have e:CellD.s ((j:Int).toNat) ((xs.map (CellD.i .u32)).take ((j:Int).toNat*1))=cM (xs.take j):=by
  unfold cM
  rw[Int.toNat_natCast,vM,dH,il hj,List.map_take]
 grind
theorem ou {x h:Operand}{c q m:Nat}
 (hU:tF P U=some m) (hx:cG T x=some (.o k n c)) (hh:cG T h=some (.v (.c (.i ki q)))) (hq:q≤c) (hg:gd ops ⟨dst,.slice U x none (some h) none,ty,pos,af,g⟩ T=some true):
 Sem P ops ⟨dst,.slice U x none (some h) none,ty,pos,af,g⟩ T B (.r (.o k q c)):=
 bL hg (fun k' e=>by
  obtain rfl:k=k':=by injection e
  exact pJ (ops:=ops) (o:=⟨dst,.slice U x none (some h) none,ty,pos,af,g⟩) (by simp[Op.operands]) hx rfl) (fun V β a w hs=>by
  have e:a.eval x=.slice (some ⟨β k,0,none⟩) n c:=aD hs (x:=x) (by simp[Op.operands]) hx
  have h2:=fT (aD hs (x:=h) (by simp[Op.operands]) hh)
  unfold tF at hU
  split at hU
  case h_2=>cases hU
  rename_i el hul
  cases hinf:P.info? el with
  |none=>rw[hinf] at hU;cases hU
  |some inf=>
   rw[hinf] at hU
   simp at hU
   have hso: ∀w,(sizeOf el).run P w=.ok m w:=fun w=>by unfold sizeOf typeInfo;simp[program,Sem.run,hinf,hU]
   refine⟨.slice (some ⟨β k,0,none⟩) q c,?_,rfl⟩
   simp[execOp,Instr.sliceAt,Instr.slice,run_underlying hul,e,h2,Instr.sliceBounds,Instr.sliceBound,asIntOf,hq,hso,Addr.add])
end
class TaC (P:Program) where
 b:Tb
 zc:List (Nat×List CellD)
 op:Nat→Bool
 ok:TbOk P b
 zk: ∀U zs,aF U zc=some zs→B3 P U=some zs
 mo:P.follows .mixedOrders=true
theorem Jh {α:Type}{t:Nat}{x:α}: ∀ {l:List (Nat×α)},aF t l=some x→(t,x)∈l
 |[],h=>by cases h
 |(k,y)::r,h=>by
  unfold aF at h
  cases e:Nat.beq k t with
  |true=>rw[e] at h;cases h;rw[jl e];exact fO
  |false=>rw[e] at h;exact fC _ (Jh h)
theorem Xs {l:List (Nat×List CellD)}(h: ∀p∈l,B3 P p.1=some p.2): ∀U zs,aF U l=some zs→B3 P U=some zs:=fun _U _zs e=>h _ (Jh e)
section
variable (P:Program) [C:TaC P]
def PN (T:TF) (B:BF):Op→Option SA
 | .load U x=>match cG T x with
   |some (.p k off)=>match B k,C.b.ty U with
    |some (W,cs),some (true,n)=>bif C.op W then none else bif Nat.beq off 0&&Nat.beq cs.length n then some (.v (.v (.a cs))) else
     bif Nat.ble (off+n) cs.length&&Nat.ble cs.length 24 then some (.v (.v (.a ((cs.drop off).take n)))) else none
    |some (W,cs),some (false,_)=>bif C.op W then none else match cs[off]? with
     |some u=>some (.v (.v (.c u)))
     |none=>none
    |_,_=>none
   |_=>none
 | .store U ax x=>match cG T ax,cG T x,C.b.ty U with
   |some (.p k off),some (.v (.a us)),some (true,m)=>match B k with
    |some (W,cs)=>bif C.op W then none else bif Nat.beq off 0&&Nat.beq us.length m&&Nat.beq cs.length m then some (.st k W us) else none
    |none=>none
   |_,_,_=>none
 | .alloc U=>match aF U C.zc with
   |some zs=>some (.bx U zs)
   |none=>none
 |op=>Mi C.b T B op
def Mm (ops:Array Oper) (T:TF) (B:BF) (o:Oper):Option SA:=
 match gd ops o T with
 |some true=>PN P T B o.op
 |some false=>some .sk
 |none=>none
def gst (ops:Array Oper) (d:Option Nat):List Oper→Bool
 |⟨_,_,_,_,_,some (j,_)⟩::_=>match ops[j]?,d with
  |some ⟨some t,_,_,_,_,_⟩,some u=>Nat.beq t u
  |_,_=>false
 |_=>false
variable {P}
theorem PY (hg:gd ops ⟨dst,op,ty,pos,af,g⟩ T=some true) (h:PN P T B op=some s)
 (hd: ∀k U cs,s=.st k U cs→dst=none):Sem P ops ⟨dst,op,ty,pos,af,g⟩ T B s.eff:=by
 unfold PN at h
 split at h
 ·split at h
  ·rename_i e
   split at h
   ·rename_i e1 e2
    rw[o8,o8,o8] at h
    split at h
    ·cases h
    ·split at h
     ·rename_i hc
      cases h
      rw[dL] at hc
      have h0:=jl hc.1
      have hl:=jl hc.2
      subst h0
      exact ce (C.ok.ty _ _ e2) e e1 (by rw[o7];exact jm (qx hl)) hl hg
     ·split at h
      ·rename_i hc
       cases h
       rw[dL] at hc
       have h0:=fe hc.1
       exact ce (C.ok.ty _ _ e2) e e1 rfl (by rw[dH,fS];omega) hg
      ·cases h
   ·rename_i e1 e2
    rw[o8] at h
    split at h
    ·cases h
    ·split at h
     ·rename_i e3;cases h;exact nT (C.ok.ty _ _ e2) e e1 e3 hg
     ·cases h
   ·cases h
  ·cases h
 ·split at h
  ·rename_i e1 e2 e3
   split at h
   ·rename_i e4
    rw[o8,o8] at h
    split at h
    ·cases h
    ·split at h
     ·rename_i hc
      cases h
      rw[dL,dL] at hc
      have h0:=jl hc.1.1
      subst h0
      have:=hd _ _ _ rfl
      subst this
      exact cZ (C.ok.ty _ _ e3) e1 e2 e4 (jl hc.1.2) (jl hc.2) hg
     ·cases h
   ·cases h
  ·cases h
 ·split at h
  ·rename_i e;cases h;exact jh (C.zk _ _ e) hg
  ·cases h
 ·exact HZ C.ok hg h hd
theorem qb (h:Mm P ops T B ⟨dst,op,ty,pos,af,g⟩=some s)
 (hd: ∀k U cs,s=.st k U cs→dst=none):Sem P ops ⟨dst,op,ty,pos,af,g⟩ T B s.eff:=by
 unfold Mm at h
 split at h
 ·rename_i e;exact PY e h hd
 ·rename_i e;cases h;exact oI e
 ·cases h
end
structure DL (P:Program) (ops:Array Oper) (os:List Oper) (σ:St) (K:St→Prop):Prop where
 h:dl P ops os σ K
structure DQ (P:Program) (ops:Array Oper) (hs:List Nat) (os:List Oper) (s:Sq) (K:Sq→Prop):Prop where
 h:dq P ops hs os s K
structure DW (P:Program) (c:Code) (σ:St) (Q:Exit→St→Prop):Prop where
 h:Dw P c σ Q
section
variable (P:Program) [C:TaC P] (ops:Array Oper) (K:St→Prop) (n:Nat)
def J3:List Oper→List (Nat×DV)→List (Nat×TypeId×List CellD)→Prop
 |[],tm,bx=>K ⟨n,tm,bx⟩
 |o::os,tm,bx=>bif gst ops o.dst os then DL P ops (o::os) ⟨n,tm,bx⟩ K else match o.dst,Mm P ops (fun s=>aF s tm) (fun l=>aF l bx) o with
  |some t,some .sk=>J3 os ((t,.u)::tm) bx
  |some t,some (.v x)=>J3 os ((t,x)::tm) bx
  |some t,some (.bx U cs)=>match aF t bx with
   |none=>J3 os ((t,.p t 0)::tm) ((t,U,cs)::bx)
   |some _=>DL P ops (o::os) ⟨n,tm,bx⟩ K
  |none,some (.st j U cs)=>J3 os tm ((j,U,cs)::bx)
  |_,_=>DL P ops (o::os) ⟨n,tm,bx⟩ K
variable {P ops K n}
theorem dZ: ∀ {os:List Oper}{tm:List (Nat×DV)}{bx:List (Nat×TypeId×List CellD)},J3 P ops K n os tm bx→dl P ops os ⟨n,tm,bx⟩ K
 |[],tm,bx,h=>h
 |⟨dst,op,ty,pos,af,g⟩::os,tm,bx,h=>by
  unfold J3 at h
  rw[o8] at h
  split at h
  ·exact h.h
  ·split at h
   ·rename_i t e1 e2
    cases e1
    exact wO (qb e2 (fun _ _ _ e=>by cases e)) (dZ h)
   ·rename_i t x e1 e2
    cases e1
    exact aU (qb e2 (fun _ _ _ e=>by cases e)) (dZ h)
   ·rename_i t U cs e1 e2
    cases e1
    split at h
    ·rename_i e3;exact rZ (qb e2 (fun _ _ _ e=>by cases e)) e3 (dZ h)
    ·exact h.h
   ·rename_i j U cs e1 e2
    cases e1
    exact gi (qb e2 (fun _ _ _ _=>rfl)) (dZ h)
   ·exact h.h
end
section
variable (P:Program) [C:TaC P] (ops:Array Oper) (hs:List Nat) (K:Sq→Prop) (n:Nat)
def SY:List Oper→List (Nat×DV)→List (Nat×TypeId×List CellD)→List (Nat×TypeId×List CellD)→List Nat→Prop
 |[],tm,bx,nb,sd=>K ⟨⟨n,tm,bx⟩,nb,sd⟩
 |o::os,tm,bx,nb,sd=>bif gst ops o.dst os then DQ P ops hs (o::os) ⟨⟨n,tm,bx⟩,nb,sd⟩ K else match o.dst,Mm P ops (fun s=>aF s tm) (hid hs (fun l=>aF l bx)) o with
  |some t,some .sk=>SY os ((t,.u)::tm) bx nb sd
  |some t,some (.v x)=>SY os ((t,x)::tm) bx nb sd
  |some t,some (.bx U cs)=>match aF t (nb++bx) with
   |none=>SY os ((t,.p t 0)::tm) bx ((t,U,cs)::nb) sd
   |some _=>DQ P ops hs (o::os) ⟨⟨n,tm,bx⟩,nb,sd⟩ K
  |_,_=>DQ P ops hs (o::os) ⟨⟨n,tm,bx⟩,nb,sd⟩ K
variable {P ops hs K n}
theorem dF: ∀ {os:List Oper}{tm:List (Nat×DV)}{bx nb:List (Nat×TypeId×List CellD)}{sd:List Nat},SY P ops hs K n os tm bx nb sd→dq P ops hs os ⟨⟨n,tm,bx⟩,nb,sd⟩ K
 |[],tm,bx,nb,sd,h=>h
 |⟨dst,op,ty,pos,af,g⟩::os,tm,bx,nb,sd,h=>by
  unfold SY at h
  rw[o8] at h
  split at h
  ·exact h.h
  ·split at h
   ·rename_i t e1 e2
    cases e1
    exact wt (qb e2 (fun _ _ _ e=>by cases e)) (dF h)
   ·rename_i t x e1 e2
    cases e1
    exact ba (qb e2 (fun _ _ _ e=>by cases e)) (dF h)
   ·rename_i t U cs e1 e2
    cases e1
    split at h
    ·rename_i e3;exact AS (qb e2 (fun _ _ _ e=>by cases e)) e3 (dF h)
    ·exact h.h
   ·exact h.h
end
section
variable (P:Program) [C:TaC P]
def SZ:Code→St→(Exit→St→Prop)→Prop
 | .seq x y,σ,Q=>SZ x σ (Ey (fun σ'=>SZ y σ' Q) Q)
 | .skip,σ,Q=>Q .normal σ
 | .ret,σ,Q=>Q .ret σ
 | .exit id,σ,Q=>Q (.exit id) σ
 | .block id c,σ,Q=>SZ c σ (O7 id Q)
 | .region id ⟨l⟩ false,⟨n,tm,bx⟩,Q=>bif NQ ⟨l⟩ n then J3 P ⟨l⟩ (Q .normal) n l tm bx else DW P (.region id ⟨l⟩ false) ⟨n,tm,bx⟩ Q
 |c,σ,Q=>DW P c σ Q
variable {P}
theorem ady {c:Code}: ∀ {σ:St}{Q Q':Exit→St→Prop},(∀e σ',Q e σ'→Q' e σ')→SZ P c σ Q→Dw P c σ Q':=by
 induction c with
 |seq x y ihx ihy=>
  intro σ Q Q' hq h
  refine aa (ihx (fun e σ' he=>?_) h)
  cases e with
  |normal=>exact ihy hq he
  |_=>exact hq _ _ he
 |skip=>intro σ Q Q' hq h;exact aA (hq _ _ h)
 |ret=>intro σ Q Q' hq h;exact a7 (hq _ _ h)
 |exit id=>intro σ Q Q' hq h;exact bi (hq _ _ h)
 |block id c ih=>
  intro σ Q Q' hq h
  refine Dw.mono (aE (ih (fun e σ' he=>he) h)) hq
 |region id ops draw=>
  intro σ Q Q' hq h
  obtain⟨l⟩:=ops
  obtain⟨n,tm,bx⟩:=σ
  cases draw with
  |true=>exact Dw.mono h.h hq
  |false=>
   have h:bif NQ ⟨l⟩ n then J3 P ⟨l⟩ (Q .normal) n l tm bx else DW P (.region id ⟨l⟩ false) ⟨n,tm,bx⟩ Q:=h
   rw[o8] at h
   split at h
   ·rename_i hc;exact Dw.mono (Am hc (dZ h)) hq
   ·exact Dw.mono h.h hq
 |_=>intro σ Q Q' hq h;exact Dw.mono h.h hq
theorem nu {c:Code}(h:SZ P c σ Q):Dw P c σ Q:=ady (fun _ _ h=>h) h
end
section
variable {P:Program}[C:TaC P] {ops:Array Oper}{os:List Oper}{n t:Nat}{tm:List (Nat×DV)}{bx nb:List (Nat×TypeId×List CellD)}{K:St→Prop}{K':Sq→Prop}{hs sd:List Nat}{ty:TypeId}{pos:String}{af:Array Edge}{g:Option (Nat×Bool)}{op:Op}
omit C in
theorem Mc {K2:Sq→Prop}(hk: ∀s,K' s→K2 s): ∀ {os:List Oper}{s:Sq},dq P ops hs os s K'→dq P ops hs os s K2
 |[],s,h=>hk s h
 |_::_,_,⟨e,a,b,c,d,f,h⟩=>⟨e,a,b,c,d,f,Mc hk h⟩
theorem ar {x:DV}(h:Sem P ops ⟨some t,op,ty,pos,af,g⟩ (fun s=>aF s tm) (fun k=>aF k bx) (.r x)) (hk:J3 P ops K n os ((t,x)::tm) bx):DL P ops (⟨some t,op,ty,pos,af,g⟩::os) ⟨n,tm,bx⟩ K:=⟨aU h (dZ hk)⟩
theorem aq {x:DV}(h:Sem P ops ⟨some t,op,ty,pos,af,g⟩ (fun s=>aF s tm) (hid hs (fun k=>aF k bx)) (.r x)) (hk:SY P ops hs K' n os ((t,x)::tm) bx nb sd):DQ P ops hs (⟨some t,op,ty,pos,af,g⟩::os) ⟨⟨n,tm,bx⟩,nb,sd⟩ K':=⟨ba h (dF hk)⟩
theorem pu (h:Sem P ops ⟨none,op,ty,pos,af,g⟩ (fun s=>aF s tm) (fun k=>aF k bx) (.s k U cs)) (hk:J3 P ops K n os tm ((k,U,cs)::bx)):DL P ops (⟨none,op,ty,pos,af,g⟩::os) ⟨n,tm,bx⟩ K:=⟨gi h (dZ hk)⟩
theorem jU {b:Bool}(h:Sem P ops ⟨some t,op,ty,pos,af,g⟩ (fun s=>aF s tm) (fun k=>aF k bx) (.r (.v (.c (.b b))))) (hk: ∀c,b=c→J3 P ops K n os ((t,.v (.c (.b c)))::tm) bx):DL P ops (⟨some t,op,ty,pos,af,g⟩::os) ⟨n,tm,bx⟩ K:=⟨aaW h fun c e=>dZ (hk c e)⟩
theorem BD {b:Bool}(h:Sem P ops ⟨some t,op,ty,pos,af,g⟩ (fun s=>aF s tm) (hid hs (fun k=>aF k bx)) (.r (.v (.c (.b b))))) (hk: ∀c,b=c→SY P ops hs K' n os ((t,.v (.c (.b c)))::tm) bx nb sd):DQ P ops hs (⟨some t,op,ty,pos,af,g⟩::os) ⟨⟨n,tm,bx⟩,nb,sd⟩ K':=⟨ST h fun c e=>dF (hk c e)⟩
section
variable {fo:Operand}{args:Array Operand}{at_:Array TypeId}{f:FuncId}{ds rs:List D0}
theorem ac (h:(cG (fun s=>aF s tm) fo,qi (fun s=>aF s tm) args.toList,gd ops ⟨some t,.call ⟨.value fo,args,at_⟩,ty,pos,af,g⟩ fun s=>aF s tm)=(some (.v (.c (.f f))),some ds,some true)) (hok:Ok P f ds rs) (hk:J3 P ops K n os ((t,xF rs)::tm) bx):
 DL P ops (⟨some t,.call ⟨.value fo,args,at_⟩,ty,pos,af,g⟩::os) ⟨n,tm,bx⟩ K:=ar (cb h hok) hk
theorem aK (h:(cG (fun s=>aF s tm) fo,qi (fun s=>aF s tm) args.toList,gd ops ⟨some t,.call ⟨.value fo,args,at_⟩,ty,pos,af,g⟩ fun s=>aF s tm)=(some (.v (.c (.f f))),some ds,some true)) (hok:Ok P f ds rs) (hk:SY P ops hs K' n os ((t,xF rs)::tm) bx nb sd):
 DQ P ops hs (⟨some t,.call ⟨.value fo,args,at_⟩,ty,pos,af,g⟩::os) ⟨⟨n,tm,bx⟩,nb,sd⟩ K':=aq (cb h hok) hk
end
variable {Q:Exit→St→Prop}{x y:Code}{σ:St}
theorem dk {b:Bool}(hb:aF t σ.tm=some (.v (.c (.b b)))) (ht:b=true→SZ P x σ Q) (hf:b=false→SZ P y σ Q):DW P (.cond (.tmp t) x y) σ Q:=⟨aJ hb (fun e=>nu (ht e)) fun e=>nu (hf e)⟩
theorem sy (hb:aF t tm=some (.v (.c (.b true)))) (h:SZ P x ⟨n,tm,bx⟩ Q):DW P (.cond (.tmp t) x y) ⟨n,tm,bx⟩ Q:=⟨dO hb (nu h)⟩
theorem sb (hb:aF t tm=some (.v (.c (.b false)))) (h:SZ P y ⟨n,tm,bx⟩ Q):DW P (.cond (.tmp t) x y) ⟨n,tm,bx⟩ Q:=⟨bz hb (nu h)⟩
theorem cJ (m:Nat) (hs:List Nat) (h:SY P l.toArray hs (fun s=>J3 P l.toArray (Q .normal) s.st.n (l.drop m) s.st.tm (s.nb++s.st.bx)) n (l.take m) tm bx [] []) (hc:Kv l.toArray m n=true:=by kernel_rfl):
 DW P (.region id l.toArray true) ⟨n,tm,bx⟩ Q:=⟨pQ m hs C.mo hc rfl rfl (Mc (fun _ hk=>dZ hk) (dF h))⟩
theorem ag (h:J3 P l.toArray (Q .normal) n l tm bx) (hn:NQ l.toArray n=true:=by kernel_rfl):Dw P (.region id l.toArray false) ⟨n,tm,bx⟩ Q:=Am hn (dZ h)
theorem dC (m:Nat) (hs:List Nat) (h:SY P l.toArray hs (fun s=>J3 P l.toArray (Q .normal) s.st.n (l.drop m) s.st.tm (s.nb++s.st.bx)) n (l.take m) tm bx [] []) (hc:Kv l.toArray m n=true:=by kernel_rfl):
 Dw P (.region id l.toArray true) ⟨n,tm,bx⟩ Q:=(cJ m hs h hc).h
theorem bX {f:FuncId}{fn:Func}{c:Code}{ds rs:List D0}(hf:P.funcs[f]? =some fn) (hb:fn.body=some c) (h:SZ P c ⟨fn.ntmps,mZ 0 ds,[]⟩ fun e σ=>(e=.normal∨e=.ret)∧ra P σ fn.results.toList=some rs)
 (hcal:fK P f=true:=by kernel_rfl) (hlen:Nat.ble ds.length fn.ntmps=true:=by rfl):Ok P f ds rs:=Ok.of hcal hf hb hlen (nu h)
end
def zcT:List (Nat×List CellD):=[(36,[.b false,.s 0 []]),(38,[.b false,.s 0 [],.b false,.s 0 []]),(40,[.b false,.s 0 [],.b false,.s 0 [],.b false,.s 0 [],.b false,.s 0 [],.b false,.s 0 [],.b false,.s 0 []]),(45,[.b false,.s 0 [],.b false,.s 0 [],.b false,.s 0 [],.b false,.s 0 [],.b false,.s 0 [],.b false,.s 0 []]),(47,[.b false,.s 0 [],.b false,.s 0 [],.b false,.s 0 [],.b false,.s 0 [],.b false,.s 0 [],.b false,.s 0 [],.b false,.s 0 [],.b false,.s 0 [],.b false,.s 0 [],.b false,.s 0 []]),(49,[.b false,.b false,.s 0 [],.b false,.s 0 [],.b false,.s 0 [],.b false,.s 0 [],.b false,.s 0 [],.b false,.s 0 [],.b false,.s 0 [],.b false,.s 0 [],.b false,.s 0 [],.b false,.s 0 [],.b false,.s 0 [],.b false,.s 0 [],.b false,.b false,.s 0 [],.b false,.s 0 [],.b false,.s 0 [],.b false,.s 0 [],.b false,.s 0 [],.b false,.s 0 [],.b false,.s 0 [],.b false,.s 0 [],.b false,.s 0 [],.b false,.s 0 [],.b false,.s 0 [],.b false,.s 0 [],.b false,.s 0 [],.b false,.s 0 [],.b false,.s 0 [],.b false,.s 0 [],.b false,.s 0 [],.b false,.s 0 [],.b false,.s 0 [],.b false,.s 0 []]),(65,[.b false,.s 0 [],.b false,.s 0 [],.b false,.s 0 [],.b false,.s 0 []]),(72,[.i .i64 0,.i .i64 0]),(129,[.b false,.s 0 [],.b false,.s 0 [],.b false,.s 0 [],.b false,.s 0 [],.b false,.s 0 [],.b false,.s 0 []]),(148,[.i .i64 0,.i .i64 0,.i .i64 0]),(186,[.b false,.s 0 [],.b false,.s 0 [],.b false,.s 0 [],.b false,.s 0 [],.b false,.s 0 [],.b false,.s 0 [],.b false,.s 0 [],.b false,.s 0 [],.b false,.s 0 [],.b false,.s 0 [],.b false,.s 0 [],.b false,.s 0 []]),(230,[.i .i64 0,.i .i64 0]),(256,[.b false,.s 0 [],.b false,.s 0 [],.b false,.s 0 [],.b false,.s 0 []]),(303,[.i .i64 0,.b false,.s 0 [],.b false,.s 0 [],.b false,.s 0 [],.b false,.s 0 [],.b false,.s 0 [],.b false,.s 0 []])]
def opF (U:Nat):Bool:=bif Nat.beq U 303 then true else bif Nat.beq U 49 then true else false
instance:TaC Tryz.prog:=⟨tb,zcT,opF,Sg,Xs (rg.2 ⟨Ij,rg.2 ⟨uP,rg.2 ⟨VE,rg.2 ⟨U4,rg.2 ⟨Ac,rg.2 ⟨F9,rg.2 ⟨Fu,rg.2 ⟨ad7,rg.2 ⟨jL,rg.2 ⟨aaM,rg.2 ⟨yR,rg.2 ⟨qk,rg.2 ⟨I9,rg.2 ⟨abG,fun _ h=>nomatch h⟩⟩⟩⟩⟩⟩⟩⟩⟩⟩⟩⟩⟩⟩),dP⟩
theorem lT (hL:Lim xs) (hn:xs.length≤1000000000):Ok Tryz.prog 168 [.c (cM xs)] [.c (cL (val xs))]:=by
 refine bX Tryz.func168 rfl ?_
 refine DW.mk<|bn (ι:={k:Nat // k≤xs.length∧trm (xs.take k)=trm xs}) (fun i=>⟨21,[(0,.v (.c (cM (xs.take i.1))))],[]⟩) (fun i=>i.1) ⟨xs.length,cg _,by rw[lI]⟩ (ap ⟨by rw[lI];rfl,trivial⟩ trivial rfl) ?_
 rintro⟨k,hk0,hT⟩
 have hk:(xs.take k).length=k:=by rw[dH];omega
 dsimp only
 refine nu ?_
 refine jU (bE rfl) (fun c1 hb1=>?_)
 cases c1
 ·have hz:k=0:=by simp only[decide_eq_false_iff_not] at hb1;omega
  have hfin:cL (val xs)=cM (xs.take k):=by rw[Qr hL,←hT,hz];rfl
  refine sb rfl<|ah ?_
  rw[hfin]
  exact az ae
 ·have h1:0<k:=by simp only[decide_eq_true_eq] at hb1;omega
  refine ar (ci (((k-1:Nat):Int)) (by rw[hk,show((k-1:Nat):Int)=(k:Int)-1 from by omega];exact bK (by omega) (by omega)) rfl)<|ar (bI jv rfl rfl (by omega) (jx _) rfl rfl) ?_
  refine ar (b7 fN rfl (kX (i:=(k-1)) (by omega)) rfl) ?_
  refine dk rfl (fun hc2=>?_) (fun hc2=>?_)
  ·have hstep:=Oc h1 hk0 hT hc2
   refine ar (ci (((k-1:Nat):Int)) (by rw[hk,show((k-1:Nat):Int)=(k:Int)-1 from by omega];exact bK (by omega) (by omega)) rfl)<|ar (HA (xs:=xs.take k) (j:=(k-1)) jv rfl rfl (by omega) rfl) ?_
   exact⟨⟨k-1,by omega,hstep⟩,ap ⟨by rw[show xs.take (k-1)=(xs.take k).take (k-1) from by rw[List.take_take,il (by omega)]];rfl,trivial⟩ trivial rfl,by show k-1<k;omega⟩
  ·have hfin:cL (val xs)=cM (xs.take k):=by rw[Qr hL];exact congrArg cM (NY h1 hk0 hT hc2)
   refine ah ?_
   rw[hfin]
   exact az ae
theorem nN (h:k<xs.length):val (xs.take (k+1))=val (xs.take k)+pw k*xs.getD k 0:=bg (getD_some h)
theorem qG (k:Nat):val (xs.take (k+1))=val (xs.take k)+pw k*xs.getD k 0:=by
 by_cases h:k<xs.length
 ·exact nN h
 ·rw[fW (by omega),List.getD,tP (by omega)];simp
structure PInv (p q:List Int) (k:Nat) (c:Int) (zs:List Int):Prop where
 le:k≤p.length
 c0:0≤c
 c1:c≤1
 L:Lim zs
 len:zs.length=k
 v:val zs+pw k*c=val (p.take k)+val (q.take k)
theorem PInv.step (h:PInv p q k c zs) (hp:Lim p) (hq:Lim q) (hk:k<p.length) (hS:S=c+p.getD k 0+q.getD k 0):PInv p q (k+1) (S/1000000000) (zs++[S%1000000000]):=by
 have h1:=dr hp k
 have h2:=dr hq k
 have:=h.c0
 have:=h.c1
 refine⟨hk,by omega,by omega,h.L.snoc (by omega) (by omega),by simp[h.len],?_⟩
 rw[qG k,qG k,nI h.len h.v (d:=S%1000000000) (c':=S/1000000000) (t:=p.getD k 0+q.getD k 0) (by omega)]
 grind
theorem PInv.done (h:PInv p q k c zs) (hk:k=p.length) (hq:q.length≤p.length):val (zs++[c])=val p+val q:=by
 have:=h.v
 rw[qd,h.len,this,hk,di (cg _),di hq]
structure SInv (p q:List Int) (k:Nat) (c:Int) (zs:List Int):Prop where
 le:k≤p.length
 c0:0≤c
 c1:c≤1
 L:Lim zs
 len:zs.length=k
 v:val zs-pw k*c=val (p.take k)-val (q.take k)
theorem SInv.step {c':Int}(h:SInv p q k c zs) (hk:k<p.length) (hd:0≤d) (hd2:d<1000000000) (hc0:0≤c') (hc1:c'≤1) (hS:d-1000000000*c'=p.getD k 0-c-q.getD k 0):SInv p q (k+1) c' (zs++[d]):=by
 refine⟨hk,hc0,hc1,h.L.snoc hd hd2,by simp[h.len],?_⟩
 have h1:=nI (zs:=zs) (k:=k) (c:= -c) (S:=val (p.take k)-val (q.take k)) (t:=p.getD k 0-q.getD k 0) (d:=d) (c':= -c') h.len (by rw[Int.mul_neg];have:=h.v;omega) (by omega)
 rw[qG k,qG k]
 grind
theorem SInv.done (h:SInv p q k c zs) (hk:k=p.length) (hq:q.length≤p.length) (hv:val q≤val p):val zs=val p-val q:=by
 have h1:=h.v
 rw[hk,di (cg _),di hq] at h1
 have h2:=fG h.L
 rw[h.len,hk] at h2
 have h4:=h.c0
 have h5:=h.c1
 have:c=0∨c=1:=by omega
 grind
structure TInv (p q:List Int) (i k:Nat) (c:Int) (zs:List Int):Prop where
 ik:i≤p.length
 kk:k≤q.length
 c0:0≤c
 c1:c<1000000000
 L:Lim zs
 len:zs.length=p.length+q.length
 z:Zr zs (i+q.length)
 v:val zs+pw (i+k)*c=val (p.take i)*val q+pw i*(p.getD i 0*val (q.take k))
theorem TInv.start:TInv p q 0 0 0 (List.replicate (p.length+q.length) 0):=
 ⟨Nat.zero_le _,eF _,by omega,by omega,Lim.zeros _,by simp,Zr.zeros _ _,by rw[AA];simp[val]⟩
theorem TInv.step (h:TInv p q i k c zs) (hp:Lim p) (hq:Lim q) (hi:i<p.length) (hk:k<q.length) (hS:S=c+zs.getD (i+k) 0+p.getD i 0*q.getD k 0):
 TInv p q i (k+1) (S/1000000000) (zs.set (i+k) (S%1000000000)):=by
 have h1:=dr hp i
 have h2:=dr hq k
 have h3:=dr h.L (i+k)
 have hc0:=h.c0
 have hc1:=h.c1
 have hm0:0≤p.getD i 0*q.getD k 0:=fZ h1.1 h2.1
 have hm1:p.getD i 0*q.getD k 0≤999999999*999999999:=rm (by omega) (by omega) h2.1 (by omega)
 have hlt:i+k<zs.length:=by rw[h.len];omega
 refine⟨h.ik,hk,by omega,by omega,h.L.set (by omega) (by omega),by simp[h.len],h.z.set (by omega),?_⟩
 rw[BZ (getD_some hlt),nN hk,show i+(k+1)=i+k+1 from by omega,dY]
 have hv:=h.v
 rw[qY i k] at*
 grind
theorem TInv.row (h:TInv p q i k c zs) (hi:i<p.length) (hk:k=q.length):TInv p q (i+1) 0 0 (zs.set (i+q.length) c):=by
 have hlt:i+q.length<zs.length:=by rw[h.len];omega
 have hz:zs.getD (i+q.length) 0=0:=h.z (i+q.length) _ (cg _) (getD_some hlt)
 refine⟨hi,eF _,by omega,by omega,h.L.set h.c0 h.c1,by simp[h.len],?_,?_⟩
 ·rw[show i+1+q.length=i+q.length+1 from by omega];exact h.z.set_at
 ·rw[BZ (getD_some hlt),hz,nN hi]
  have hv:=h.v
  simp only[List.take_zero,val,pF,Int.add_zero,Int.sub_zero]
  grind
theorem TInv.done (h:TInv p q i 0 0 zs) (hi:i=p.length):val zs=val p*val q:=by
 have hv:=h.v
 grind
theorem Nl (hx:i<xs.length) (hy:i<ys.length) (h:xs.drop (i+1)=ys.drop (i+1)) (he:xs.getD i 0=ys.getD i 0):xs.drop i=ys.drop i:=by
 rw[pq hx,pq hy,h]
 grind
theorem UG (h:0≤v):dI (sg true v)=.a ([.b (decide (((dA v.natAbs).length:Int)>0))]++[cL v]):=by
 rw[gJ]
 unfold dI cI
 have e1:cL (-v)=cL v:=by unfold cL;rw[Int.natAbs_neg]
 have e2:decide (-v<0)=decide (((dA v.natAbs).length:Int)>0):=by
  by_cases h0:v=0
  ·subst h0;simp[lH]
  ·have:(dA v.natAbs).length≠0:=fun e=>h0 (GT.1 e)
   rw[show decide (-v<0)=true from by simp;omega,show decide (((dA v.natAbs).length:Int)>0)=true from by simp only[decide_eq_true_eq];omega]
 grind
structure ShInv (xs:List Int) (j:Nat) (r:Int):Prop where
 le:j≤xs.length
 r0:0≤r
 v:r*pw j+val (xs.take j)=val xs
theorem ShInv.step (h:ShInv xs (i+1) r) (hL:Lim xs):ShInv xs i (r*1000000000+xs.getD i 0):=by
 have h1:=dr hL i
 refine⟨by have:=h.le;omega,by have:=h.r0;omega,?_⟩
 have hv:=h.v
 rw[qG i,dY] at hv
 grind
theorem ShInv.bound (h:ShInv xs j r) (hL:Lim xs):r≤val xs:=by
 have:=h.v
 have h1:=db j
 have h2:=cW (hL.take j)
 have h3:=no h1 h.r0
 grind
theorem SS (hLxs:Lim xs) (hLys:Lim ys) (hn:xs.length≤100000000) (hm:ys.length≤100000000):Ok Tryz.prog 289 [.c (cM xs),.c (cM ys)] [.c (cL (val xs+val ys))]:=by
 refine eo Tryz.func289 55 [.tmp 4] rfl<|aa<|ag<|aa<|aa<|ag ?_
 refine aJ rfl (fun hc1=>?_) (fun hc1=>?_)
 ·have hlt:xs.length<ys.length:=by simp only[decide_eq_true_eq] at hc1;omega
  refine ag<|aa<|ag ?_
  refine ar (ci ((ys.length:Int)+1) (bh (by(first|omega|(simp;omega))) (by(first|omega|(simp;omega)))) rfl) ?_
  refine DL.mk<|pE (j9 (n:=ys.length+1) xZ rfl rfl (by(first|omega|(simp;omega))) (by(first|omega|(simp;omega))) rfl) rfl<|dZ ?_
  refine aa<|ag<|aa<|aa<|ag<|aE<|bn (ι:={t:Nat×Int×List Int // PInv ys xs t.1 t.2.1 t.2.2}) (fun i=>⟨55,[(0,.v (.c (cM ys))),(1,.v (.c (cM xs))),(5,.o 18 (ys.length+1) (ys.length+1)),(6,.v (.c (.i .u32 i.1.2.1))),(7,.v (.c (.i .i64 (i.1.1:Int))))],[(18,194,(i.1.2.2++List.replicate (ys.length+1-i.1.1) 0).map (CellD.i .u32))]⟩) (fun i=>ys.length-i.1.1) ⟨(0,0,[]),⟨Nat.zero_le _,qw 0,by decide,Lim.nil,rfl,by simp[val]⟩⟩ (ap ⟨rfl,rfl,rfl,rfl,rfl,trivial⟩ ⟨by rw[show(List.replicate (ys.length+1) (CellD.i .u32 0))=(([]:List Int)++List.replicate (ys.length+1-0) 0).map (CellD.i .u32) from by simp];rfl,trivial⟩ rfl) ?_
  rintro⟨⟨k,c,zs⟩,hI⟩
  replace hI:PInv ys xs k c zs:=hI
  have g1:=dr hLys k
  have g2:=dr hLxs k
  have g3:=hI.c0
  have g4:=hI.c1
  have g5:=hI.le
  have g6:=hI.len
  dsimp only
  refine aa<|aa<|ag ?_
  refine aJ rfl (fun hc2=>?_) (fun hc2=>?_)
  ·have hk:k<ys.length:=by simp only[decide_eq_true_eq] at hc2;omega
   refine aA<|aa<|aE<|aa<|ag ?_
   refine ar (bI jv rfl rfl (by(first|omega|(simp;omega))) (jx _) rfl rfl) ?_
   refine ar (b7 fN rfl (kX (i:=k) (by(first|omega|(simp;omega)))) rfl) ?_
   refine ar (ci (c+(ys.getD k 0)) (ow (by(first|omega|(simp;omega))) (by(first|omega|(simp;omega)))) rfl) ?_
   refine aa<|aa<|ag ?_
   refine aJ rfl (fun hc3=>?_) (fun hc3=>?_)
   ·have hkq:k<xs.length:=by simp only[decide_eq_true_eq] at hc3;omega
    have hS:c+ys.getD k 0+xs.getD k 0=c+ys.getD k 0+xs.getD k 0:=rfl
    have hb:c+ys.getD k 0+xs.getD k 0≤4294967295:=by omega
    refine ag ?_
    refine ar (bI jv rfl rfl (by(first|omega|(simp;omega))) (jx _) rfl rfl) ?_
    refine ar (b7 fN rfl (kX (i:=k) (by(first|omega|(simp;omega)))) rfl) ?_
    refine ar (ci ((c+(ys.getD k 0))+(xs.getD k 0)) (ow (by(first|omega|(simp;omega))) (by(first|omega|(simp;omega)))) rfl) ?_
    refine aa<|bm<|bU 3<|aU (gD (r:=(c+ys.getD k 0+xs.getD k 0)%1000000000) rfl rfl (by omega) (qz (by omega)) rfl) ?_
    refine aU (bo jv rfl rfl (by(first|omega|(simp;omega))) rfl) ?_
    refine gi (aY (us:=((zs++List.replicate (ys.length+1-k) 0).set k ((c+ys.getD k 0+xs.getD k 0)%1000000000)).map (CellD.i .u32)) fN rfl rfl rfl rfl (by simp;omega) (rM (by(first|omega|(simp;omega)))) rfl) ?_
    refine bt<|ag<|ar (kG (r:=(c+ys.getD k 0+xs.getD k 0)/1000000000) rfl rfl (by omega) (by rw[ph (by omega)];exact sV (by omega) (by omega)) rfl) ?_
    refine ag ?_
    refine ar (ci ((k:Int)+1) (bh (by(first|omega|(simp;omega))) (by(first|omega|(simp;omega)))) rfl) ?_
    exact⟨⟨(k+1,(c+ys.getD k 0+xs.getD k 0)/1000000000,zs++[(c+ys.getD k 0+xs.getD k 0)%1000000000]),hI.step hLys hLxs hk hS⟩,ap ⟨rfl,rfl,rfl,rfl,by rw[show((k+1:Nat):Int)=(k:Int)+1 from by omega];rfl,trivial⟩ ⟨by rw[show ys.length+1-(k+1)=ys.length-k from by omega,←mV (m:=ys.length-k) (d:=(c+ys.getD k 0+xs.getD k 0)%1000000000) g6,show ys.length-k+1=ys.length+1-k from by omega];rfl,trivial⟩ rfl,by show ys.length-(k+1)<ys.length-k;omega⟩
   ·have hkq: ¬k<xs.length:=by simp only[decide_eq_false_iff_not] at hc3;omega
    have hq0:xs.getD k 0=0:=by rw[List.getD,tP (by omega)];rfl
    have hS:c+ys.getD k 0=c+ys.getD k 0+xs.getD k 0:=by omega
    refine aA<|aa<|bm<|bU 3<|aU (gD (r:=(c+ys.getD k 0)%1000000000) rfl rfl (by omega) (qz (by omega)) rfl) ?_
    refine aU (bo jv rfl rfl (by(first|omega|(simp;omega))) rfl) ?_
    refine gi (aY (us:=((zs++List.replicate (ys.length+1-k) 0).set k ((c+ys.getD k 0)%1000000000)).map (CellD.i .u32)) fN rfl rfl rfl rfl (by simp;omega) (rM (by(first|omega|(simp;omega)))) rfl) ?_
    refine bt<|ag<|ar (kG (r:=(c+ys.getD k 0)/1000000000) rfl rfl (by omega) (by rw[ph (by omega)];exact sV (by omega) (by omega)) rfl) ?_
    refine ag ?_
    refine ar (ci ((k:Int)+1) (bh (by(first|omega|(simp;omega))) (by(first|omega|(simp;omega)))) rfl) ?_
    exact⟨⟨(k+1,(c+ys.getD k 0)/1000000000,zs++[(c+ys.getD k 0)%1000000000]),hI.step hLys hLxs hk hS⟩,ap ⟨rfl,rfl,rfl,rfl,by rw[show((k+1:Nat):Int)=(k:Int)+1 from by omega];rfl,trivial⟩ ⟨by rw[show ys.length+1-(k+1)=ys.length-k from by omega,←mV (m:=ys.length-k) (d:=(c+ys.getD k 0)%1000000000) g6,show ys.length-k+1=ys.length+1-k from by omega];rfl,trivial⟩ rfl,by show ys.length-(k+1)<ys.length-k;omega⟩
  ·have hk:k=ys.length:=by simp only[decide_eq_false_iff_not] at hc2;omega
   have hfin:(val xs+val ys:Int)=val ((zs++List.replicate (ys.length+1-k) 0).set ys.length c):=by rw[show ys.length+1-k=0+1 from by omega,mV (by omega)];simp only[List.replicate_zero,iZ];rw[hI.done hk (by omega)];omega
   have hLf:Lim ((zs++List.replicate (ys.length+1-k) 0).set ys.length c):=(hI.L.append (Lim.zeros _)).set g3 (by omega)
   refine bi<|aa<|bm<|bU 4 ?_
   refine aU (bo jv rfl rfl (by(first|omega|(simp;omega))) rfl) ?_
   refine gi (aY (us:=((zs++List.replicate (ys.length+1-k) 0).set ys.length c).map (CellD.i .u32)) fN rfl rfl rfl rfl (by simp;omega) (rM (by(first|omega|(simp;omega)))) rfl) ?_
   refine bt<|aa ?_
   refine ww (t:=5) (zs:=(zs++List.replicate (ys.length+1-k) 0).set ys.length c) (ys:=(zs++List.replicate (ys.length+1-k) 0).set ys.length c) rfl rfl (by first|omega|(simp;omega)|simp) (by omega) (by omega) (jm (by first|omega|(simp;omega)|simp)) ?_
   refine ag<|ac rfl (lT hLf (by simp;omega))<|a7 ?_
   rw[hfin]
   exact ah (az ae)
 ·have hlt:ys.length≤xs.length:=by simp only[decide_eq_false_iff_not] at hc1;omega
  refine aA<|aa<|ag ?_
  refine ar (ci ((xs.length:Int)+1) (bh (by(first|omega|(simp;omega))) (by(first|omega|(simp;omega)))) rfl) ?_
  refine DL.mk<|pE (j9 (n:=xs.length+1) xZ rfl rfl (by(first|omega|(simp;omega))) (by(first|omega|(simp;omega))) rfl) rfl<|dZ ?_
  refine aa<|ag<|aa<|aa<|ag<|aE<|bn (ι:={t:Nat×Int×List Int // PInv xs ys t.1 t.2.1 t.2.2}) (fun i=>⟨55,[(0,.v (.c (cM xs))),(1,.v (.c (cM ys))),(5,.o 18 (xs.length+1) (xs.length+1)),(6,.v (.c (.i .u32 i.1.2.1))),(7,.v (.c (.i .i64 (i.1.1:Int))))],[(18,194,(i.1.2.2++List.replicate (xs.length+1-i.1.1) 0).map (CellD.i .u32))]⟩) (fun i=>xs.length-i.1.1) ⟨(0,0,[]),⟨Nat.zero_le _,qw 0,by decide,Lim.nil,rfl,by simp[val]⟩⟩ (ap ⟨rfl,rfl,rfl,rfl,rfl,trivial⟩ ⟨by rw[show(List.replicate (xs.length+1) (CellD.i .u32 0))=(([]:List Int)++List.replicate (xs.length+1-0) 0).map (CellD.i .u32) from by simp];rfl,trivial⟩ rfl) ?_
  rintro⟨⟨k,c,zs⟩,hI⟩
  replace hI:PInv xs ys k c zs:=hI
  have g1:=dr hLxs k
  have g2:=dr hLys k
  have g3:=hI.c0
  have g4:=hI.c1
  have g5:=hI.le
  have g6:=hI.len
  dsimp only
  refine aa<|aa<|ag ?_
  refine aJ rfl (fun hc4=>?_) (fun hc4=>?_)
  ·have hk:k<xs.length:=by simp only[decide_eq_true_eq] at hc4;omega
   refine aA<|aa<|aE<|aa<|ag ?_
   refine ar (bI jv rfl rfl (by(first|omega|(simp;omega))) (jx _) rfl rfl) ?_
   refine ar (b7 fN rfl (kX (i:=k) (by(first|omega|(simp;omega)))) rfl) ?_
   refine ar (ci (c+(xs.getD k 0)) (ow (by(first|omega|(simp;omega))) (by(first|omega|(simp;omega)))) rfl) ?_
   refine aa<|aa<|ag ?_
   refine aJ rfl (fun hc5=>?_) (fun hc5=>?_)
   ·have hkq:k<ys.length:=by simp only[decide_eq_true_eq] at hc5;omega
    have hS:c+xs.getD k 0+ys.getD k 0=c+xs.getD k 0+ys.getD k 0:=rfl
    have hb:c+xs.getD k 0+ys.getD k 0≤4294967295:=by omega
    refine ag ?_
    refine ar (bI jv rfl rfl (by(first|omega|(simp;omega))) (jx _) rfl rfl) ?_
    refine ar (b7 fN rfl (kX (i:=k) (by(first|omega|(simp;omega)))) rfl) ?_
    refine ar (ci ((c+(xs.getD k 0))+(ys.getD k 0)) (ow (by(first|omega|(simp;omega))) (by(first|omega|(simp;omega)))) rfl) ?_
    refine aa<|bm<|bU 3<|aU (gD (r:=(c+xs.getD k 0+ys.getD k 0)%1000000000) rfl rfl (by omega) (qz (by omega)) rfl) ?_
    refine aU (bo jv rfl rfl (by(first|omega|(simp;omega))) rfl) ?_
    refine gi (aY (us:=((zs++List.replicate (xs.length+1-k) 0).set k ((c+xs.getD k 0+ys.getD k 0)%1000000000)).map (CellD.i .u32)) fN rfl rfl rfl rfl (by simp;omega) (rM (by(first|omega|(simp;omega)))) rfl) ?_
    refine bt<|ag<|ar (kG (r:=(c+xs.getD k 0+ys.getD k 0)/1000000000) rfl rfl (by omega) (by rw[ph (by omega)];exact sV (by omega) (by omega)) rfl) ?_
    refine ag ?_
    refine ar (ci ((k:Int)+1) (bh (by(first|omega|(simp;omega))) (by(first|omega|(simp;omega)))) rfl) ?_
    exact⟨⟨(k+1,(c+xs.getD k 0+ys.getD k 0)/1000000000,zs++[(c+xs.getD k 0+ys.getD k 0)%1000000000]),hI.step hLxs hLys hk hS⟩,ap ⟨rfl,rfl,rfl,rfl,by rw[show((k+1:Nat):Int)=(k:Int)+1 from by omega];rfl,trivial⟩ ⟨by rw[show xs.length+1-(k+1)=xs.length-k from by omega,←mV (m:=xs.length-k) (d:=(c+xs.getD k 0+ys.getD k 0)%1000000000) g6,show xs.length-k+1=xs.length+1-k from by omega];rfl,trivial⟩ rfl,by show xs.length-(k+1)<xs.length-k;omega⟩
   ·have hkq: ¬k<ys.length:=by simp only[decide_eq_false_iff_not] at hc5;omega
    have hq0:ys.getD k 0=0:=by rw[List.getD,tP (by omega)];rfl
    have hS:c+xs.getD k 0=c+xs.getD k 0+ys.getD k 0:=by omega
    refine aA<|aa<|bm<|bU 3<|aU (gD (r:=(c+xs.getD k 0)%1000000000) rfl rfl (by omega) (qz (by omega)) rfl) ?_
    refine aU (bo jv rfl rfl (by(first|omega|(simp;omega))) rfl) ?_
    refine gi (aY (us:=((zs++List.replicate (xs.length+1-k) 0).set k ((c+xs.getD k 0)%1000000000)).map (CellD.i .u32)) fN rfl rfl rfl rfl (by simp;omega) (rM (by(first|omega|(simp;omega)))) rfl) ?_
    refine bt<|ag<|ar (kG (r:=(c+xs.getD k 0)/1000000000) rfl rfl (by omega) (by rw[ph (by omega)];exact sV (by omega) (by omega)) rfl) ?_
    refine ag ?_
    refine ar (ci ((k:Int)+1) (bh (by(first|omega|(simp;omega))) (by(first|omega|(simp;omega)))) rfl) ?_
    exact⟨⟨(k+1,(c+xs.getD k 0)/1000000000,zs++[(c+xs.getD k 0)%1000000000]),hI.step hLxs hLys hk hS⟩,ap ⟨rfl,rfl,rfl,rfl,by rw[show((k+1:Nat):Int)=(k:Int)+1 from by omega];rfl,trivial⟩ ⟨by rw[show xs.length+1-(k+1)=xs.length-k from by omega,←mV (m:=xs.length-k) (d:=(c+xs.getD k 0)%1000000000) g6,show xs.length-k+1=xs.length+1-k from by omega];rfl,trivial⟩ rfl,by show xs.length-(k+1)<xs.length-k;omega⟩
  ·have hk:k=xs.length:=by simp only[decide_eq_false_iff_not] at hc4;omega
   have hfin:(val xs+val ys:Int)=val ((zs++List.replicate (xs.length+1-k) 0).set xs.length c):=by rw[show xs.length+1-k=0+1 from by omega,mV (by omega)];simp only[List.replicate_zero,iZ];rw[hI.done hk (by omega)]
   have hLf:Lim ((zs++List.replicate (xs.length+1-k) 0).set xs.length c):=(hI.L.append (Lim.zeros _)).set g3 (by omega)
   refine bi<|aa<|bm<|bU 4 ?_
   refine aU (bo jv rfl rfl (by(first|omega|(simp;omega))) rfl) ?_
   refine gi (aY (us:=((zs++List.replicate (xs.length+1-k) 0).set xs.length c).map (CellD.i .u32)) fN rfl rfl rfl rfl (by simp;omega) (rM (by(first|omega|(simp;omega)))) rfl) ?_
   refine bt<|aa ?_
   refine ww (t:=5) (zs:=(zs++List.replicate (xs.length+1-k) 0).set xs.length c) (ys:=(zs++List.replicate (xs.length+1-k) 0).set xs.length c) rfl rfl (by first|omega|(simp;omega)|simp) (by omega) (by omega) (jm (by first|omega|(simp;omega)|simp)) ?_
   refine ag<|ac rfl (lT hLf (by simp;omega))<|a7 ?_
   rw[hfin]
   exact ah (az ae)
theorem NS (hLxs:Lim xs) (hLys:Lim ys) (hn:xs.length≤100000000) (hlen:ys.length≤xs.length) (hle:val ys≤val xs):Ok Tryz.prog 283 [.c (cM xs),.c (cM ys)] [.c (cL (val xs-val ys))]:=by
 refine eo Tryz.func283 45 [.tmp 4] rfl<|aa<|ag<|aa<|ag ?_
 refine DL.mk<|pE (j9 (n:=xs.length) xZ rfl rfl (by(first|omega|(simp;omega))) (by(first|omega|(simp;omega))) rfl) rfl<|dZ ?_
 refine aa<|ag<|aa<|aa<|ag<|aE<|bn (ι:={t:Nat×Int×List Int // SInv xs ys t.1 t.2.1 t.2.2}) (fun i=>⟨45,[(0,.v (.c (cM xs))),(1,.v (.c (cM ys))),(5,.o 11 xs.length xs.length),(6,.v (.c (.i .u32 i.1.2.1))),(7,.v (.c (.i .i64 (i.1.1:Int))))],[(11,194,(i.1.2.2++List.replicate (xs.length-i.1.1) 0).map (CellD.i .u32))]⟩) (fun i=>xs.length-i.1.1) ⟨(0,0,[]),⟨Nat.zero_le _,qw 0,by decide,Lim.nil,rfl,by simp[val]⟩⟩ (ap ⟨rfl,rfl,rfl,rfl,rfl,trivial⟩ ⟨by rw[show(List.replicate xs.length (CellD.i .u32 0))=(([]:List Int)++List.replicate (xs.length-0) 0).map (CellD.i .u32) from by simp];rfl,trivial⟩ rfl) ?_
 rintro⟨⟨k,c,zs⟩,hI⟩
 replace hI:SInv xs ys k c zs:=hI
 have g1:=dr hLxs k
 have g2:=dr hLys k
 have g3:=hI.c0
 have g4:=hI.c1
 have g5:=hI.le
 have g6:=hI.len
 dsimp only
 refine aa<|aa<|ag ?_
 refine aJ rfl (fun hc1=>?_) (fun hc1=>?_)
 ·have hk:k<xs.length:=by simp only[decide_eq_true_eq] at hc1;omega
  refine aA<|aa<|aE<|aa<|ag ?_
  refine ar (bI jv rfl rfl (by(first|omega|(simp;omega))) (jx _) rfl rfl) ?_
  refine ar (b7 fN rfl (kX (i:=k) (by(first|omega|(simp;omega)))) rfl) ?_
  refine ar (ci ((xs.getD k 0)+1000000000) (ow (by(first|omega|(simp;omega))) (by(first|omega|(simp;omega)))) rfl) ?_
  refine ar (ci (((xs.getD k 0)+1000000000)-c) (rH (by(first|omega|(simp;omega))) (by(first|omega|(simp;omega)))) rfl) ?_
  refine aa<|aa<|ag ?_
  refine aJ rfl (fun hc2=>?_) (fun hc2=>?_)
  ·have hkq:k<ys.length:=by simp only[decide_eq_true_eq] at hc2;omega
   refine ag ?_
   refine ar (bI jv rfl rfl (by(first|omega|(simp;omega))) (jx _) rfl rfl) ?_
   refine ar (b7 fN rfl (kX (i:=k) (by(first|omega|(simp;omega)))) rfl) ?_
   refine ar (ci ((((xs.getD k 0)+1000000000)-c)-(ys.getD k 0)) (rH (by(first|omega|(simp;omega))) (by(first|omega|(simp;omega)))) rfl) ?_
   refine aa<|ag<|aa<|aa<|ag ?_
   refine aJ rfl (fun hc3=>?_) (fun hc3=>?_)
   ·simp only[decide_eq_true_eq] at hc3
    have hd1:0≤xs.getD k 0+1000000000-c-ys.getD k 0-1000000000:=by omega
    have hd2:xs.getD k 0+1000000000-c-ys.getD k 0-1000000000<1000000000:=by omega
    have hd3:(0:Int)≤0:=by omega
    have hd4:(0:Int)≤1:=by omega
    have hdS:xs.getD k 0+1000000000-c-ys.getD k 0-1000000000-1000000000*0=xs.getD k 0-c-ys.getD k 0:=by omega
    refine ag ?_
    refine ar (ci (((((xs.getD k 0)+1000000000)-c)-(ys.getD k 0))-1000000000) (rH (by(first|omega|(simp;omega))) (by(first|omega|(simp;omega)))) rfl) ?_
    refine bm<|bU 3 ?_
    refine aU (bo jv rfl rfl (by(first|omega|(simp;omega))) rfl) ?_
    refine gi (aY (us:=((zs++List.replicate (xs.length-k) 0).set k (((((xs.getD k 0)+1000000000)-c)-(ys.getD k 0))-1000000000)).map (CellD.i .u32)) fN rfl rfl rfl rfl (by simp;omega) (rM (by(first|omega|(simp;omega)))) rfl) ?_
    refine bt<|ag ?_
    refine ar (ci ((k:Int)+1) (bh (by(first|omega|(simp;omega))) (by(first|omega|(simp;omega)))) rfl) ?_
    exact⟨⟨(k+1,0,zs++[xs.getD k 0+1000000000-c-ys.getD k 0-1000000000]),hI.step hk hd1 hd2 hd3 hd4 hdS⟩,ap ⟨rfl,rfl,rfl,rfl,by rw[show((k+1:Nat):Int)=(k:Int)+1 from by omega];rfl,trivial⟩ ⟨by rw[show xs.length-(k+1)=xs.length-k-1 from by omega,←mV (m:=xs.length-k-1) (d:=xs.getD k 0+1000000000-c-ys.getD k 0-1000000000) g6,show xs.length-k-1+1=xs.length-k from by omega];rfl,trivial⟩ rfl,by show xs.length-(k+1)<xs.length-k;omega⟩
   ·simp only[decide_eq_false_iff_not] at hc3
    have hd1:0≤xs.getD k 0+1000000000-c-ys.getD k 0:=by omega
    have hd2:xs.getD k 0+1000000000-c-ys.getD k 0<1000000000:=by omega
    have hd3:(0:Int)≤1:=by omega
    have hd4:(1:Int)≤1:=by omega
    have hdS:xs.getD k 0+1000000000-c-ys.getD k 0-1000000000*1=xs.getD k 0-c-ys.getD k 0:=by omega
    refine aA<|bm<|bU 3 ?_
    refine aU (bo jv rfl rfl (by(first|omega|(simp;omega))) rfl) ?_
    refine gi (aY (us:=((zs++List.replicate (xs.length-k) 0).set k ((((xs.getD k 0)+1000000000)-c)-(ys.getD k 0))).map (CellD.i .u32)) fN rfl rfl rfl rfl (by simp;omega) (rM (by(first|omega|(simp;omega)))) rfl) ?_
    refine bt<|ag ?_
    refine ar (ci ((k:Int)+1) (bh (by(first|omega|(simp;omega))) (by(first|omega|(simp;omega)))) rfl) ?_
    exact⟨⟨(k+1,1,zs++[xs.getD k 0+1000000000-c-ys.getD k 0]),hI.step hk hd1 hd2 hd3 hd4 hdS⟩,ap ⟨rfl,rfl,rfl,rfl,by rw[show((k+1:Nat):Int)=(k:Int)+1 from by omega];rfl,trivial⟩ ⟨by rw[show xs.length-(k+1)=xs.length-k-1 from by omega,←mV (m:=xs.length-k-1) (d:=xs.getD k 0+1000000000-c-ys.getD k 0) g6,show xs.length-k-1+1=xs.length-k from by omega];rfl,trivial⟩ rfl,by show xs.length-(k+1)<xs.length-k;omega⟩
  ·have hkq: ¬k<ys.length:=by simp only[decide_eq_false_iff_not] at hc2;omega
   have hq0:ys.getD k 0=0:=by rw[List.getD,tP (by omega)];rfl
   refine aA<|aa<|ag<|aa<|aa<|ag ?_
   refine aJ rfl (fun hc4=>?_) (fun hc4=>?_)
   ·simp only[decide_eq_true_eq] at hc4
    have hd1:0≤xs.getD k 0+1000000000-c-1000000000:=by omega
    have hd2:xs.getD k 0+1000000000-c-1000000000<1000000000:=by omega
    have hd3:(0:Int)≤0:=by omega
    have hd4:(0:Int)≤1:=by omega
    have hdS:xs.getD k 0+1000000000-c-1000000000-1000000000*0=xs.getD k 0-c-ys.getD k 0:=by omega
    refine ag ?_
    refine ar (ci ((((xs.getD k 0)+1000000000)-c)-1000000000) (rH (by(first|omega|(simp;omega))) (by(first|omega|(simp;omega)))) rfl) ?_
    refine bm<|bU 3 ?_
    refine aU (bo jv rfl rfl (by(first|omega|(simp;omega))) rfl) ?_
    refine gi (aY (us:=((zs++List.replicate (xs.length-k) 0).set k ((((xs.getD k 0)+1000000000)-c)-1000000000)).map (CellD.i .u32)) fN rfl rfl rfl rfl (by simp;omega) (rM (by(first|omega|(simp;omega)))) rfl) ?_
    refine bt<|ag ?_
    refine ar (ci ((k:Int)+1) (bh (by(first|omega|(simp;omega))) (by(first|omega|(simp;omega)))) rfl) ?_
    exact⟨⟨(k+1,0,zs++[xs.getD k 0+1000000000-c-1000000000]),hI.step hk hd1 hd2 hd3 hd4 hdS⟩,ap ⟨rfl,rfl,rfl,rfl,by rw[show((k+1:Nat):Int)=(k:Int)+1 from by omega];rfl,trivial⟩ ⟨by rw[show xs.length-(k+1)=xs.length-k-1 from by omega,←mV (m:=xs.length-k-1) (d:=xs.getD k 0+1000000000-c-1000000000) g6,show xs.length-k-1+1=xs.length-k from by omega];rfl,trivial⟩ rfl,by show xs.length-(k+1)<xs.length-k;omega⟩
   ·simp only[decide_eq_false_iff_not] at hc4
    have hd1:0≤xs.getD k 0+1000000000-c:=by omega
    have hd2:xs.getD k 0+1000000000-c<1000000000:=by omega
    have hd3:(0:Int)≤1:=by omega
    have hd4:(1:Int)≤1:=by omega
    have hdS:xs.getD k 0+1000000000-c-1000000000*1=xs.getD k 0-c-ys.getD k 0:=by omega
    refine aA<|bm<|bU 3 ?_
    refine aU (bo jv rfl rfl (by(first|omega|(simp;omega))) rfl) ?_
    refine gi (aY (us:=((zs++List.replicate (xs.length-k) 0).set k (((xs.getD k 0)+1000000000)-c)).map (CellD.i .u32)) fN rfl rfl rfl rfl (by simp;omega) (rM (by(first|omega|(simp;omega)))) rfl) ?_
    refine bt<|ag ?_
    refine ar (ci ((k:Int)+1) (bh (by(first|omega|(simp;omega))) (by(first|omega|(simp;omega)))) rfl) ?_
    exact⟨⟨(k+1,1,zs++[xs.getD k 0+1000000000-c]),hI.step hk hd1 hd2 hd3 hd4 hdS⟩,ap ⟨rfl,rfl,rfl,rfl,by rw[show((k+1:Nat):Int)=(k:Int)+1 from by omega];rfl,trivial⟩ ⟨by rw[show xs.length-(k+1)=xs.length-k-1 from by omega,←mV (m:=xs.length-k-1) (d:=xs.getD k 0+1000000000-c) g6,show xs.length-k-1+1=xs.length-k from by omega];rfl,trivial⟩ rfl,by show xs.length-(k+1)<xs.length-k;omega⟩
 ·have hk:k=xs.length:=by simp only[decide_eq_false_iff_not] at hc1;omega
  have hfin:val xs-val ys=val (zs++List.replicate (xs.length-k) 0):=by rw[show xs.length-k=0 from by omega];simp only[List.replicate_zero,iZ];rw[hI.done hk hlen hle]
  have hLf:Lim (zs++List.replicate (xs.length-k) 0):=hI.L.append (Lim.zeros _)
  refine bi<|aa ?_
  refine ww (t:=5) (zs:=zs++List.replicate (xs.length-k) 0) (ys:=zs++List.replicate (xs.length-k) 0) rfl rfl (by first|omega|(simp;omega)|simp) (by omega) (by omega) (jm (by first|omega|(simp;omega)|simp)) ?_
  refine ag<|ac rfl (lT hLf (by simp;omega))<|a7 ?_
  rw[hfin]
  exact ah (az ae)
end Go.Proofs.YtegpmhlfjkhjmaaGreat
