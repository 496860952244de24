/-The types of this program,as the walks ask of them. -/
import Derived.Test.YtegpmhlfjkhjmaaGreatYgE
import Derived.Test.YtegpmhlfjkhjmaaGreatProg
namespace Go.Proofs.YtegpmhlfjkhjmaaGreat
open Go Go.RowKit
variable {ops:Array Oper}{B:BF}{z:CellD}{Q:Exit→St→Prop}{S a b c d m r u v x y:Int}{ki:IntKind}{tm:List (Nat×DV)}{bx nb:List (Nat×TypeId×List CellD)}{cs:List CellD}{p q rs xs ys zs:List Int}{hs sd:List Nat}{l os pre tail:List Oper}{by_ i id j k n:Nat}{op:Op}{P:Program}{s:SA}{σ:St}{K:St→Prop}{T:TF}{U e t1 t2 xt yt:TypeId}
variable {ty:TypeId}{pos:String}{af:Array Edge}{g:Option (Nat×Bool)}{dst:Option Nat}
theorem ex:type_of% @Ok.fn:=@Ok.fn
theorem ow:type_of% @Int.fdiv_eq_ediv_of_nonneg:=@Int.fdiv_eq_ediv_of_nonneg
theorem og:type_of% @Int.mul_zero:=@Int.mul_zero
theorem qG:type_of% @List.forall_mem_cons:=@List.forall_mem_cons
theorem tJ:type_of% @Int.tdiv_eq_ediv_of_nonneg:=@Int.tdiv_eq_ediv_of_nonneg
theorem qV:type_of% @Int.mul_ediv_add_emod:=@Int.mul_ediv_add_emod
theorem qX:type_of% @Int.tmod_eq_emod_of_nonneg:=@Int.tmod_eq_emod_of_nonneg
theorem yX:type_of% @Int.eq_ofNat_of_zero_le:=@Int.eq_ofNat_of_zero_le
theorem il:Tryz.prog.follows .mixedOrders=true:=by kernel_rfl
theorem gY:Tryz.prog.underlying 4=some .bool:=by kernel_rfl
theorem nu (m:Nat) (hpre:l.take m=pre) (htail:l.drop m=tail)
 (h:dq Tryz.prog l.toArray [] pre ⟨σ,[],[]⟩ fun s=>dl Tryz.prog l.toArray tail s.merge (Q .normal)) (hc:L8 l.toArray m σ.n=true:=by kernel_rfl):Dw Tryz.prog (.region id l.toArray true) σ Q:=sU m [] il hc hpre htail h
theorem jD:xG Tryz.prog 106=some (47,20,320,[.b false,.s 0 [],.b false,.s 0 [],.b false,.s 0 [],.b false,.s 0 [],.b false,.s 0 [],.b false,.s 0 [],.b false,.s 0 [],.b false,.s 0 [],.b false,.s 0 [],.b false,.s 0 []]):=by kernel_rfl
theorem Ty:xG Tryz.prog 222=some (2,1,8,[.i .i64 0]):=by kernel_rfl
theorem Su:xG Tryz.prog 28=some (40,12,192,[.b false,.s 0 [],.b false,.s 0 [],.b false,.s 0 [],.b false,.s 0 [],.b false,.s 0 [],.b false,.s 0 []]):=by kernel_rfl
theorem wh:xG Tryz.prog 31=some (49,66,1040,[.b false,.b false,.s 0 [],.b false,.s 0 [],.b false,.s 0 [],.b false,.s 0 [],.b false,.s 0 [],.b false,.s 0 [],.b false,.s 0 [],.b false,.s 0 [],.b false,.s 0 [],.b false,.s 0 [],.b false,.s 0 [],.b false,.s 0 [],.b false,.b false,.s 0 [],.b false,.s 0 [],.b false,.s 0 [],.b false,.s 0 [],.b false,.s 0 [],.b false,.s 0 [],.b false,.s 0 [],.b false,.s 0 [],.b false,.s 0 [],.b false,.s 0 [],.b false,.s 0 [],.b false,.s 0 [],.b false,.s 0 [],.b false,.s 0 [],.b false,.s 0 [],.b false,.s 0 [],.b false,.s 0 [],.b false,.s 0 [],.b false,.s 0 [],.b false,.s 0 []]):=by kernel_rfl
theorem xm:xG Tryz.prog 34=some (194,1,4,[.i .u32 0]):=by kernel_rfl
theorem aak:xG Tryz.prog 95=some (4,1,1,[.b false]):=by kernel_rfl
theorem XR:NL Tryz.prog 49 0=some 0:=by kernel_rfl
theorem WN:NL Tryz.prog 49 2=some 13:=by kernel_rfl
theorem I0:NL Tryz.prog 49 4=some 26:=by kernel_rfl
theorem Ef:NL Tryz.prog 49 5=some 46:=by kernel_rfl
theorem kT:Kc Tryz.prog 129=some [(0,4),(4,4),(8,4)]:=by kernel_rfl
theorem Df:Kc Tryz.prog 186=some [(0,4),(4,4),(8,4),(12,4),(16,4),(20,4)]:=by kernel_rfl
theorem qx:Kc Tryz.prog 230=some [(0,1),(1,1)]:=by kernel_rfl
theorem Kq:Kc Tryz.prog 256=some [(0,4),(4,4)]:=by kernel_rfl
theorem Z5:Kc Tryz.prog 313=some [(0,1)]:=by kernel_rfl
theorem I5:Kc Tryz.prog 36=some [(0,1),(1,1)]:=by kernel_rfl
theorem qj:Kc Tryz.prog 38=some [(0,2),(2,2)]:=by kernel_rfl
theorem Z9:Kc Tryz.prog 40=some [(0,4),(4,4),(8,4)]:=by kernel_rfl
theorem YM:Kc Tryz.prog 45=some [(0,4),(4,4),(8,4)]:=by kernel_rfl
theorem EY:Kc Tryz.prog 47=some [(0,4),(4,4),(8,4),(12,4),(16,4)]:=by kernel_rfl
theorem aaB:Kc Tryz.prog 49=some [(0,1),(1,12),(13,12),(25,1),(26,20),(46,20)]:=by kernel_rfl
theorem IW:Kc Tryz.prog 65=some [(0,4),(4,4)]:=by kernel_rfl
theorem fD:wW Tryz.prog 106=some 20:=by kernel_rfl
theorem JZ:wW Tryz.prog 222=some 1:=by kernel_rfl
theorem Wf:wW Tryz.prog 28=some 12:=by kernel_rfl
theorem lB:wW Tryz.prog 31=some 66:=by kernel_rfl
theorem iV:wW Tryz.prog 34=some 1:=by kernel_rfl
theorem NE:wW Tryz.prog 95=some 1:=by kernel_rfl
theorem cG:sw Tryz.prog 129=some (true,12):=by kernel_rfl
theorem Dt:sw Tryz.prog 186=some (true,24):=by kernel_rfl
theorem fl:sw Tryz.prog 194=some (false,1):=by kernel_rfl
theorem YH:sw Tryz.prog 2=some (false,1):=by kernel_rfl
theorem jz:sw Tryz.prog 230=some (true,2):=by kernel_rfl
theorem Ke:sw Tryz.prog 256=some (true,8):=by kernel_rfl
theorem dJ:sw Tryz.prog 36=some (true,2):=by kernel_rfl
theorem aX:sw Tryz.prog 38=some (true,4):=by kernel_rfl
theorem mv:sw Tryz.prog 4=some (false,1):=by kernel_rfl
theorem sI:sw Tryz.prog 40=some (true,12):=by kernel_rfl
theorem V3:sw Tryz.prog 45=some (true,12):=by kernel_rfl
theorem bE:sw Tryz.prog 47=some (true,20):=by kernel_rfl
theorem bT:sw Tryz.prog 49=some (true,66):=by kernel_rfl
theorem LI:sw Tryz.prog 65=some (true,8):=by kernel_rfl
theorem FI:Tryz.prog.underlying 171=some (.int .u64):=by kernel_rfl
theorem fA:Tryz.prog.underlying 190=some (.int .u64):=by kernel_rfl
theorem jn:Tryz.prog.underlying 194=some (.int .u32):=by kernel_rfl
theorem tW:Tryz.prog.underlying 2=some (.int .i64):=by kernel_rfl
theorem Om:Tryz.prog.underlying 3=some (.int .i64):=by kernel_rfl
theorem BD:Tryz.prog.underlying 5=some (.int .u8):=by kernel_rfl
theorem Ye:Tryz.prog.underlying 52=some (.int .i8):=by kernel_rfl
theorem js:AD Tryz.prog 129=some [.b false,.s 0 [],.b false,.s 0 [],.b false,.s 0 [],.b false,.s 0 [],.b false,.s 0 [],.b false,.s 0 []]:=by kernel_rfl
theorem aaI:AD Tryz.prog 148=some [.i .i64 0,.i .i64 0,.i .i64 0]:=by kernel_rfl
theorem Ao:AD Tryz.prog 186=some [.b false,.s 0 [],.b false,.s 0 [],.b false,.s 0 [],.b false,.s 0 [],.b false,.s 0 [],.b false,.s 0 [],.b false,.s 0 [],.b false,.s 0 [],.b false,.s 0 [],.b false,.s 0 [],.b false,.s 0 [],.b false,.s 0 []]:=by kernel_rfl
theorem pt:AD Tryz.prog 230=some [.i .i64 0,.i .i64 0]:=by kernel_rfl
theorem F8:AD Tryz.prog 256=some [.b false,.s 0 [],.b false,.s 0 [],.b false,.s 0 [],.b false,.s 0 []]:=by kernel_rfl
theorem YQ:AD Tryz.prog 303=some [.i .i64 0,.b false,.s 0 [],.b false,.s 0 [],.b false,.s 0 [],.b false,.s 0 [],.b false,.s 0 [],.b false,.s 0 []]:=by kernel_rfl
theorem Z1:AD Tryz.prog 313=some [.b false]:=by kernel_rfl
theorem H3:AD Tryz.prog 36=some [.b false,.s 0 []]:=by kernel_rfl
theorem qe:AD Tryz.prog 38=some [.b false,.s 0 [],.b false,.s 0 []]:=by kernel_rfl
theorem Wr:AD Tryz.prog 40=some [.b false,.s 0 [],.b false,.s 0 [],.b false,.s 0 [],.b false,.s 0 [],.b false,.s 0 [],.b false,.s 0 []]:=by kernel_rfl
theorem W7:AD Tryz.prog 45=some [.b false,.s 0 [],.b false,.s 0 [],.b false,.s 0 [],.b false,.s 0 [],.b false,.s 0 [],.b false,.s 0 []]:=by kernel_rfl
theorem z8:AD Tryz.prog 47=some [.b false,.s 0 [],.b false,.s 0 [],.b false,.s 0 [],.b false,.s 0 [],.b false,.s 0 [],.b false,.s 0 [],.b false,.s 0 [],.b false,.s 0 [],.b false,.s 0 [],.b false,.s 0 []]:=by kernel_rfl
theorem PF:AD Tryz.prog 49=some [.b false,.b false,.s 0 [],.b false,.s 0 [],.b false,.s 0 [],.b false,.s 0 [],.b false,.s 0 [],.b false,.s 0 [],.b false,.s 0 [],.b false,.s 0 [],.b false,.s 0 [],.b false,.s 0 [],.b false,.s 0 [],.b false,.s 0 [],.b false,.b false,.s 0 [],.b false,.s 0 [],.b false,.s 0 [],.b false,.s 0 [],.b false,.s 0 [],.b false,.s 0 [],.b false,.s 0 [],.b false,.s 0 [],.b false,.s 0 [],.b false,.s 0 [],.b false,.s 0 [],.b false,.s 0 [],.b false,.s 0 [],.b false,.s 0 [],.b false,.s 0 [],.b false,.s 0 [],.b false,.s 0 [],.b false,.s 0 [],.b false,.s 0 [],.b false,.s 0 []]:=by kernel_rfl
theorem G1:AD Tryz.prog 65=some [.b false,.s 0 [],.b false,.s 0 [],.b false,.s 0 [],.b false,.s 0 []]:=by kernel_rfl
theorem aa5:AD Tryz.prog 72=some [.i .i64 0,.i .i64 0]:=by kernel_rfl
def gj {α:Type}(U n:Nat) (x y:Option α):Option α:=bif Nat.blt U n then x else y
def j8 {α:Type}(U n:Nat) (x:α):Option α:=bif Nat.beq U n then some x else none
def xK (U n:Nat) (x:Option Nat):Option Nat:=bif Nat.beq U n then x else none
def lF:List Nat→Nat→Option Nat
 |[],_=>none
 |x::_,0=>some x
 |_::l,i+1=>lF l i
def tyF (U:Nat):Option (Bool×Nat):=gj U 73 (gj U 36 (gj U 22 (gj U 5 (gj U 3 (j8 U 2 (false,1)) (gj U 4 (j8 U 3 (false,1)) (j8 U 4 (false,1)))) (gj U 12 (gj U 6 (j8 U 5 (false,1)) (j8 U 6 (false,1))) (gj U 21 (j8 U 12 (false,1)) (j8 U 21 (false,1))))) (gj U 26 (gj U 23 (j8 U 22 (false,1)) (gj U 25 (j8 U 23 (false,1)) (j8 U 25 (true,4)))) (gj U 31 (gj U 28 (j8 U 26 (false,1)) (j8 U 28 (false,1))) (gj U 34 (j8 U 31 (false,1)) (j8 U 34 (false,1)))))) (gj U 46 (gj U 39 (gj U 37 (j8 U 36 (true,2)) (gj U 38 (j8 U 37 (true,4)) (j8 U 38 (true,4)))) (gj U 44 (gj U 40 (j8 U 39 (true,12)) (j8 U 40 (true,12))) (gj U 45 (j8 U 44 (true,12)) (j8 U 45 (true,12))))) (gj U 52 (gj U 48 (gj U 47 (j8 U 46 (true,20)) (j8 U 47 (true,20))) (gj U 49 (j8 U 48 (true,66)) (j8 U 49 (true,66)))) (gj U 65 (gj U 64 (j8 U 52 (false,1)) (j8 U 64 (true,8))) (gj U 72 (j8 U 65 (true,8)) (j8 U 72 (true,2))))))) (gj U 218 (gj U 144 (gj U 78 (gj U 74 (j8 U 73 (true,8)) (gj U 77 (j8 U 74 (true,8)) (j8 U 77 (false,1)))) (gj U 106 (gj U 95 (j8 U 78 (false,1)) (j8 U 95 (false,1))) (gj U 129 (j8 U 106 (false,1)) (j8 U 129 (true,12))))) (gj U 185 (gj U 148 (j8 U 144 (false,1)) (gj U 171 (j8 U 148 (true,3)) (j8 U 171 (false,1)))) (gj U 190 (gj U 186 (j8 U 185 (true,24)) (j8 U 186 (true,24))) (gj U 194 (j8 U 190 (false,1)) (j8 U 194 (false,1)))))) (gj U 284 (gj U 230 (gj U 219 (j8 U 218 (true,7)) (gj U 222 (j8 U 219 (true,7)) (j8 U 222 (false,1)))) (gj U 255 (gj U 238 (j8 U 230 (true,2)) (j8 U 238 (false,1))) (gj U 256 (j8 U 255 (true,8)) (j8 U 256 (true,8))))) (gj U 331 (gj U 303 (gj U 302 (j8 U 284 (false,1)) (j8 U 302 (true,13))) (gj U 313 (j8 U 303 (true,13)) (j8 U 313 (true,1)))) (gj U 335 (gj U 332 (j8 U 331 (false,1)) (j8 U 332 (false,1))) (gj U 336 (j8 U 335 (false,1)) (j8 U 336 (false,1)))))))
def slF (U:Nat):Option Nat:=gj U 77 (gj U 31 (gj U 28 (j8 U 26 4) (j8 U 28 12)) (gj U 34 (j8 U 31 66) (j8 U 34 1))) (gj U 106 (gj U 95 (j8 U 77 2) (j8 U 95 1)) (gj U 144 (j8 U 106 20) (gj U 222 (j8 U 144 7) (j8 U 222 1))))
def fdF (U i:Nat):Option Nat:=gj U 72 (gj U 45 (gj U 38 (gj U 36 (xK U 25 (lF [0,1,2,3] i)) (gj U 37 (xK U 36 (lF [0,1] i)) (xK U 37 (lF [0,2] i)))) (gj U 40 (gj U 39 (xK U 38 (lF [0,2] i)) (xK U 39 (lF [0,4,8] i))) (gj U 44 (xK U 40 (lF [0,4,8] i)) (xK U 44 (lF [0,4,8] i))))) (gj U 48 (gj U 46 (xK U 45 (lF [0,4,8] i)) (gj U 47 (xK U 46 (lF [0,4,8,12,16] i)) (xK U 47 (lF [0,4,8,12,16] i)))) (gj U 64 (gj U 49 (xK U 48 (lF [0,1,13,25,26,46] i)) (xK U 49 (lF [0,1,13,25,26,46] i))) (gj U 65 (xK U 64 (lF [0,4] i)) (xK U 65 (lF [0,4] i)))))) (gj U 218 (gj U 129 (gj U 73 (xK U 72 (lF [0,1] i)) (gj U 74 (xK U 73 (lF [0,2,4,5,6,7] i)) (xK U 74 (lF [0,2,4,5,6,7] i)))) (gj U 185 (gj U 148 (xK U 129 (lF [0,4,8] i)) (xK U 148 (lF [0,1,2] i))) (gj U 186 (xK U 185 (lF [0,4,8,12,16,20] i)) (xK U 186 (lF [0,4,8,12,16,20] i))))) (gj U 256 (gj U 230 (gj U 219 (xK U 218 (lF [0,1,4,6] i)) (xK U 219 (lF [0,1,4,6] i))) (gj U 255 (xK U 230 (lF [0,1] i)) (xK U 255 (lF [0,4] i)))) (gj U 303 (gj U 302 (xK U 256 (lF [0,4] i)) (xK U 302 (lF [0,1] i))) (gj U 313 (xK U 303 (lF [0,1] i)) (xK U 313 (lF [0] i))))))
def tb:Tb:=⟨fun U=>bif Nat.blt U 337 then tyF U else none,fun U i=>bif Nat.blt U 337&&Nat.blt i 16 then fdF U i else none,fun U=>bif Nat.blt U 337 then slF U else none⟩
theorem Pa:TbOk Tryz.prog tb:=TbOk.of (by kernel_rfl) (by kernel_rfl) (by kernel_rfl)
theorem bQ (k:Nat) (h:WZ Tryz.prog tb ops K n k os tm bx):dl Tryz.prog ops os ⟨n,tm,bx⟩ K:=Qk Pa h
theorem cE {K:Sq→Prop}(k:Nat) (h:X8 Tryz.prog tb ops hs K n k os tm bx nb sd):dq Tryz.prog ops hs os ⟨⟨n,tm,bx⟩,nb,sd⟩ K:=Sd Pa h
theorem fL (h:VF tb ops K n os tm bx):dl Tryz.prog ops os ⟨n,tm,bx⟩ K:=G9 Pa h
theorem Aq {K:Sq→Prop}(h:X7 tb ops hs K n os tm bx nb sd):dq Tryz.prog ops hs os ⟨⟨n,tm,bx⟩,nb,sd⟩ K:=JJ Pa h
def cQ (n d:Int):List CellD:=cI n++cI d
def dQ (n d:Int):D0:=.a (cQ n d)
def cR (x:Rat):List CellD:=cQ x.num (x.den:Int)
def dR (x:Rat):D0:=.a (cR x)
theorem Aj {q:Int}(hy:y≠0) (h:x=y*q+r) (hp:0<y→0≤r∧r<y) (hn:y<0→y<r∧r≤0):x.fdiv y=q∧x.fmod y=r:=by
 have hfd:x.fdiv y=q:=by
  rcases Int.lt_or_gt_of_ne hy with h0|h0
  ·obtain⟨h1,h2⟩:=hn h0
   rw[←Int.neg_fdiv_neg,ow _ (by omega)]
   have:=(Int.ediv_emod_unique (a:= -x) (b:= -y) (r:= -r) (q:=q) (by omega)).2 ⟨by rw[h];simp only[Int.neg_mul];omega,by omega,by omega⟩
   grind
  ·obtain⟨h1,h2⟩:=hp h0
   rw[ow _ (by omega)]
   exact((Int.ediv_emod_unique (a:=x) (b:=y) (r:=r) (q:=q) h0).2 ⟨by rw[h];omega,h1,h2⟩).1
 have:=Int.mul_fdiv_add_fmod x y
 grind
def q0 (x y:Int):Int:=sg (!(decide (x<0)==decide (y<0))) ((x.natAbs:Int)/y.natAbs)
def r0 (x y:Int):Int:=sg (decide (x<0)) ((x.natAbs:Int)%y.natAbs)
theorem TS:x=y*q0 x y+r0 x y:=by
 have h:=qV (x.natAbs:Int) y.natAbs
 unfold q0 r0
 obtain⟨q,hq⟩: ∃q,(x.natAbs:Int)/y.natAbs=q:=⟨_,rfl⟩
 obtain⟨r,hr⟩: ∃r,(x.natAbs:Int)%y.natAbs=r:=⟨_,rfl⟩
 rw[hq,hr]
 rw[hq,hr] at h
 by_cases hx:x<0<;>by_cases hy:y<0
 ·rw[show(x.natAbs:Int)= -x from by omega,show(y.natAbs:Int)= -y from by omega,Int.neg_mul] at h
  rw[show(!(decide (x<0)==decide (y<0)))=false from by simp[hx,hy],show decide (x<0)=true from by simp[hx],fV,cJ]
  omega
 ·rw[show(x.natAbs:Int)= -x from by omega,show(y.natAbs:Int)=y from by omega] at h
  rw[show(!(decide (x<0)==decide (y<0)))=true from by simp[hx,hy],show decide (x<0)=true from by simp[hx],fV,fV,Int.mul_neg]
  omega
 ·rw[show(x.natAbs:Int)=x from by omega,show(y.natAbs:Int)= -y from by omega,Int.neg_mul] at h
  rw[show(!(decide (x<0)==decide (y<0)))=true from by simp[hx,hy],show decide (x<0)=false from by simp[hx],fV,cJ,Int.mul_neg]
  omega
 ·rw[show(x.natAbs:Int)=x from by omega,show(y.natAbs:Int)=y from by omega] at h
  rw[show(!(decide (x<0)==decide (y<0)))=false from by simp[hx,hy],show decide (x<0)=false from by simp[hx],cJ,cJ]
  omega
theorem Ly (hy:y≠0):0≤(x.natAbs:Int)%y.natAbs∧(x.natAbs:Int)%y.natAbs<y.natAbs:=⟨Int.emod_nonneg _ (by omega),nB _ (by omega)⟩
theorem xI (hy:y≠0) (h:r0 x y=0∨(r0 x y<0↔y<0)):x.fdiv y=q0 x y∧x.fmod y=r0 x y:=by
 refine Aj hy TS ?_ ?_
 all_goals
  have:=Ly (x:=x) hy
  unfold r0 at*
  by_cases hx:x<0
  ·simp only[hx,decide_true,fV] at*;omega
  ·simp only[hx,decide_false,cJ] at*;omega
theorem GS (hy:y≠0) (h0:r0 x y≠0) (h: ¬(r0 x y<0↔y<0)):x.fdiv y=q0 x y-1∧x.fmod y=r0 x y+y:=by
 refine Aj hy ?_ ?_ ?_
 ·have:=TS (x:=x) (y:=y)
  rw[Int.mul_sub];omega
 all_goals
  have:=Ly (x:=x) hy
  unfold r0 at*
  by_cases hx:x<0
  ·simp only[hx,decide_true,fV] at*;omega
  ·simp only[hx,decide_false,cJ] at*;omega
theorem Ee:(dg y.natAbs).length=0↔y=0:=by
 rw[mI,dV];omega
theorem sr (h:decide (((dg r.natAbs).length:Int)>0)=true):r≠0:=by
 intro e
 have:=Ee.2 e
 grind
theorem rH (h:decide (((dg r.natAbs).length:Int)>0)=false):r=0:=by
 simp only[decide_eq_false_iff_not] at h
 exact Ee.1 (by omega)
theorem EZ (h:(!(decide (a<0)==decide (b<0)))=true): ¬(a<0↔b<0):=by simpa using h
theorem E9 (h:(!(decide (a<0)==decide (b<0)))=false):(a<0↔b<0):=by simpa using h
theorem Sz.q0 (hx:Sz k x):Sz k (q0 x y):=by
 refine hx.of_le ?_
 have h1:(x.natAbs:Int)/(y.natAbs:Int)≤x.natAbs:=Int.ediv_le_self _ (by omega)
 have h2:0≤(x.natAbs:Int)/(y.natAbs:Int):=te (by omega) (by omega)
 unfold Go.Proofs.YtegpmhlfjkhjmaaGreat.q0
 generalize (!(decide (x<0)==decide (y<0)))=s
 cases s
 ·rw[cJ];omega
 ·rw[fV];omega
theorem Sz.r0 (hy:y≠0) (h:Sz k y):Sz k (r0 x y):=by
 refine h.of_le ?_
 have:=Ly (x:=x) hy
 unfold Go.Proofs.YtegpmhlfjkhjmaaGreat.r0
 generalize decide (x<0)=s
 cases s
 ·rw[cJ];omega
 ·rw[fV];omega
theorem EN (h1:0≤a) (h2:0≤c):Int.gcd c (a%c)=Int.gcd a c:=by
 obtain⟨m,rfl⟩:=yX h1
 obtain⟨n,rfl⟩:=yX h2
 show Nat.gcd n (m%n)=Nat.gcd m n
 rw[Nat.gcd_comm m n,Nat.gcd_rec n m,Nat.gcd_comm]
structure GInv (x y a c:Int):Prop where
 sa:Sz 100000000 a
 sc:Sz 100000000 c
 a0:0≤a
 c0:0≤c
 g:Int.gcd a c=Int.gcd x y
theorem GInv.start (hx:Sz 100000000 x) (hy:Sz 100000000 y):GInv x y (sg false (x.natAbs:Int)) (sg false (y.natAbs:Int)):=by
 rw[cJ,cJ]
 exact⟨hx.of_le (by omega),hy.of_le (by omega),by omega,by omega,rfl⟩
theorem GInv.step (h:GInv x y a c) (hc:c≠0):GInv x y c (sg false ((a.natAbs:Int)%c.natAbs)):=by
 rw[cJ]
 have h1:=h.a0
 have h2:=h.c0
 have e1:(a.natAbs:Int)=a:=by omega
 have e2:(c.natAbs:Int)=c:=by omega
 rw[e1,e2]
 have h3:=n9 a hc
 have h4:=nB a (show 0<c by omega)
 exact⟨h.sc,h.sc.of_le (by omega),h2,h3,by rw[←h.g,EN h1 h2]⟩
theorem GInv.less (h:GInv x y a c) (hc:c≠0):(sg false ((a.natAbs:Int)%c.natAbs)).toNat<c.toNat:=by
 rw[cJ]
 have:=h.c0
 have:=Ly (x:=a) hc
 omega
theorem GInv.done (h:GInv x y a c) (hc:c=0):(Int.gcd x y:Int)=sg false (a.natAbs:Int):=by
 rw[←h.g,hc,cJ];simp
structure GInv2 (x y u v:Int):Prop where
 u0:0≤u
 u1:u≤18446744073709551615
 v0:0≤v
 v1:v≤18446744073709551615
 g:Int.gcd u v=Int.gcd x y
theorem GInv.word (h:GInv x y a c) (ha:decide (a.natAbs<1000000000000000000)=true) (hc:decide (c.natAbs<1000000000000000000)=true):
 GInv2 x y (if a.natAbs<1000000000000000000 then(a.natAbs:Int) else 0) (if c.natAbs<1000000000000000000 then(c.natAbs:Int) else 0):=by
 rw[decide_eq_true_eq] at ha hc
 rw[if_pos ha,if_pos hc]
 exact⟨by omega,by omega,by omega,by omega,by rw[←h.g];rfl⟩
theorem GInv2.step (h:GInv2 x y u v) (hv:v>0):GInv2 x y v (u.tmod v):=by
 have h1:=h.u0
 rw[qX h1]
 have h3:=n9 u (show v≠0 by omega)
 have h4:=nB u hv
 exact⟨h.v0,h.v1,h3,by have:=h.v1;omega,by rw[←h.g,EN h1 h.v0]⟩
theorem GInv2.less (h:GInv2 x y u v) (hv:v>0):(u.tmod v).toNat<v.toNat:=by
 rw[qX h.u0]
 have h4:=nB u hv
 omega
theorem GInv2.done (h:GInv2 x y u v) (hv:v≤0):(Int.gcd x y:Int)=sg false u:=by
 have h0:=h.v0
 have h1:=h.u0
 rw[←h.g,show v=0 from by omega,cJ];simp;omega
theorem Ku (h:Lim xs):trm xs=dg (val xs).natAbs:=by
 have h0:=cD h
 rw[Jp (sZ xs) h.trm,ix]
 grind
def cM (xs:List Int):CellD:=.s xs.length (xs.map (CellD.i .u32))
theorem TB (e:Int):cL e=cM (dg e.natAbs):=rfl
theorem Nl (h:Lim xs):cL (val xs)=cM (trm xs):=by rw[TB,Ku h]
theorem jh (xs:List Int):(xs.map (CellD.i .u32)).length=xs.length*1:=by simp
theorem jV (h:i<xs.length):((xs.map (CellD.i .u32)).drop (i*1))[0]? =some (.i .u32 (xs.getD i 0)):=by grind
theorem aas (h:i<xs.length):(xs.map (CellD.i .u32))[i*1]? =some (.i .u32 (xs.getD i 0)):=by grind
theorem qN (h:i<xs.length):(xs.map (CellD.i .u32)).take (i*1)++[CellD.i .u32 x]++(xs.map (CellD.i .u32)).drop (i*1+1)=(xs.set i x).map (CellD.i .u32):=by
 rw[List.set_eq_take_append_cons_drop,if_pos h]
 simp
theorem db (h:Lim xs) (i:Nat):0≤xs.getD i 0∧xs.getD i 0<1000000000:=by
 rw[List.getD]
 cases hx:xs[i]? with
 |none=>simp
 |some x=>exact h.at_ hx
theorem getD_some (h:i<xs.length):xs[i]? =some (xs.getD i 0):=by grind
theorem ii (h0: -9223372036854775808≤x) (h1:x≤9223372036854775807):IntKind.i64.wrap x=x:=by unfold IntKind.wrap;simp[IntKind.bits,IntKind.signed];omega
theorem gZ (h0:0≤x) (h1:x≤18446744073709551615):IntKind.u64.wrap x=x:=by unfold IntKind.wrap;simp[IntKind.bits,IntKind.signed];omega
theorem r9 (h0:0≤x) (h1:x≤4294967295):IntKind.u32.wrap x=x:=by unfold IntKind.wrap;simp[IntKind.bits,IntKind.signed];omega
theorem bm (h0: -9223372036854775808≤a+b) (h1:a+b≤9223372036854775807):Cl .add .i64 a b=some (a+b):=congrArg some (ii h0 h1)
theorem eu {x y:Operand}{ty:TypeId}(hj:j<9223372036854775807) (h:(cO T x,cO T y,gd ops ⟨dst,.binOp .add xt x y yt,ty,pos,af,g⟩ T)=(some (.v (.c (.i .i64 j))),some (.v (.c (.i .i64 1))),some true)):Sem P ops ⟨dst,.binOp .add xt x y yt,ty,pos,af,g⟩ T B (.r (.v (.c (.i .i64 ((j+1:Nat):Int))))):=
 mj (congrArg Prod.fst h) (congrArg (fun q=>q.2.1) h) ((bm (by omega) (by omega)).trans (congrArg some (by omega))) (congrArg (fun q=>q.2.2) h)
theorem bI (h0: -9223372036854775808≤a-b) (h1:a-b≤9223372036854775807):Cl .sub .i64 a b=some (a-b):=congrArg some (ii h0 h1)
theorem fG (h0:0≤a+b) (h1:a+b≤18446744073709551615):Cl .add .u64 a b=some (a+b):=congrArg some (gZ h0 h1)
theorem Gb (h0:0≤a-b) (h1:a-b≤18446744073709551615):Cl .sub .u64 a b=some (a-b):=congrArg some (gZ h0 h1)
theorem gO (h0:0≤a*b) (h1:a*b≤18446744073709551615):Cl .mul .u64 a b=some (a*b):=congrArg some (gZ h0 h1)
theorem nr (h0:0≤a+b) (h1:a+b≤4294967295):Cl .add .u32 a b=some (a+b):=congrArg some (r9 h0 h1)
theorem qv (h0:0≤a-b) (h1:a-b≤4294967295):Cl .sub .u32 a b=some (a-b):=congrArg some (r9 h0 h1)
theorem LE (h1:0<k) (hk:k≤xs.length) (hT:trm (xs.take k)=trm xs) (h:((xs.take k).getD (k-1) 0==0)=true):trm (xs.take (k-1))=trm xs:=by
 obtain⟨j,rfl⟩: ∃j,k=j+1:=⟨k-1,by omega⟩
 rw[Nat.add_sub_cancel] at*
 have hx:=getD_some (xs:=xs) (i:=j) (by omega)
 rw[←hT,ro hx (by simpa using h)]
theorem LF (h1:0<k) (hk:k≤xs.length) (hT:trm (xs.take k)=trm xs) (h:((xs.take k).getD (k-1) 0==0)=false):trm xs=xs.take k:=by
 obtain⟨j,rfl⟩: ∃j,k=j+1:=⟨k-1,by omega⟩
 have hx:=getD_some (xs:=xs) (i:=j) (by omega)
 rw[←hT,rn hx (by simpa using h)]
section
variable {P:Program}{ops:Array Oper}{T:TF}{B:BF}
theorem jI {x y:Operand}{k:IntKind}{n:Int}
 (hx:cO T x=some (.v (.c (.i k m)))) (hy:cO T y=some (.v (.c (.i k n)))) (h0:n≠0) (hr:k.wrap (m.tdiv n)=r) (hg:gd ops ⟨dst,.binOp .quo xt x y yt,ty,pos,af,g⟩ T=some true):
 Sem P ops ⟨dst,.binOp .quo xt x y yt,ty,pos,af,g⟩ T B (.r (.v (.c (.i k r)))):=by subst hr;exact Sv hx hy h0 hg
theorem l8 {x y:Operand}{k:IntKind}{n:Int}
 (hx:cO T x=some (.v (.c (.i k m)))) (hy:cO T y=some (.v (.c (.i k n)))) (h0:n≠0) (hr:m.tmod n=r) (hg:gd ops ⟨dst,.binOp .rem xt x y yt,ty,pos,af,g⟩ T=some true):
 Sem P ops ⟨dst,.binOp .rem xt x y yt,ty,pos,af,g⟩ T B (.r (.v (.c (.i k r)))):=by subst hr;exact Fq hx hy h0 hg
theorem bv {x:Operand}{k1 k2 k:IntKind}
 (h1:P.underlying t1=some (.int k1)) (h2:P.underlying t2=some (.int k2)) (hx:cO T x=some (.v (.c (.i k m)))) (hr:k2.wrap m=r) (hg:gd ops ⟨dst,.convert t1 t2 x,ty,pos,af,g⟩ T=some true):
 Sem P ops ⟨dst,.convert t1 t2 x,ty,pos,af,g⟩ T B (.r (.v (.c (.i k2 r)))):=by subst hr;exact NR h1 h2 hx hg
theorem wS {x:Operand}
 (hU:xG P U=some (e,1,by_,[z])) (hx:cO T x=some (.v (.c (.i .u32 m)))) (hg:gd ops ⟨dst,.buildSlice U 1 #[(0,x)],ty,pos,af,g⟩ T=some true):
 Sem P ops ⟨dst,.buildSlice U 1 #[(0,x)],ty,pos,af,g⟩ T B (.r (.v (.c (cM [m])))):=by
 have h:=qd (B:=B) (n:=1) (us:=[.i .u32 m]) (dps:=[(0,.c (.i .u32 m))]) hU (by unfold xf;rw[hx];rfl) rfl (by omega) (by omega) hg
 refine⟨qo rfl,fun V β a w hs=>?_⟩
 obtain⟨hw,hg⟩:=h V β a w hs
 refine⟨hw,hg.mono ?_⟩
 rintro v w' ⟨vs,rfl,rfl,hr⟩
 refine⟨?_,(cU _ w).alloc (cj _) _⟩
 have hkeep:=Keep.below (av:=V) ((cU w.heap.size w).alloc (cj _) (.cells vs e))
 have hr2:=hr.keep hkeep
 have hvl:vs.size=1:=by have:=hr.1;simpa using this
 refine .s w.heap.size 0 1 1 1 _ (fun j=>vs.getD j undef) (by omega) (by omega) (by omega) rfl (by simp) (fun h=>by have:=hs.av _ h;omega) (fun j hj=>?_) (fun j u hj=>?_)
 ·simp_all
 ·have hlt:j<1:=by have:=(jH.1 hj).1;simpa using this
  refine hr2.2 j _ u ?_ hj
  have:j<vs.size:=by omega
  simp[Array.getD,this]
theorem Fz {x y:Operand}{m:Nat}{zs:List CellD}
 (hU:xG P U=some (e,m,by_,zs)) (hx:cO T x=some (.o k n n)) (hy:cO T y=some (.v (.c (.s 0 [])))) (hb:B k=some (e,cs)) (hcs:cs.length=n*m) (hn:0<n) (hn2:n≤9223372036854775807)
 (hg:gd ops ⟨dst,.call ⟨.builtin .append,#[x,y],#[U,U]⟩,ty,pos,af,g⟩ T=some true):
 Sem P ops ⟨dst,.call ⟨.builtin .append,#[x,y],#[U,U]⟩,ty,pos,af,g⟩ T B (.c k (.v (.c (.s n cs)))):=by
 refine⟨rfl,by rw[hb];simp,fun V β a w hs=>⟨d9 hs hg,?_⟩⟩
 have e1:a.eval x=.slice (some ⟨β k,0,none⟩) n n:=ap hs (x:=x) (by simp[Op.operands,Call.operands]) hx
 have h2:RdC V w (a.eval y) (.s 0 []):=ap hs (x:=y) (by simp[Op.operands,Call.operands]) hy
 have h3: ∃A c,a.eval y=.slice A 0 c:=by
  generalize a.eval y=v at h2
  cases h2 with
  |s0 A c _=>exact⟨A,c,rfl⟩
  |s b off c sz _ _ cv h0=>omega
 obtain⟨A,c,e2⟩:=h3
 obtain⟨hu,i,z,hi,hz,hsz,hby,_,hzr⟩:=jj hU
 obtain⟨hvk,vs,ev,hr⟩:=hs.box k e cs hb
 have hfirst: ∀w,(Builtin.firstCells m 0 (.slice A 0 c)).run P w=.ok #[] w:=by
  intro w
  cases A with
  |none=>rfl
  |some A=>simp[Builtin.firstCells,loadCells,loadCellsFrom]
 have hexec:(execOp a.eval ⟨dst,.call ⟨.builtin .append,#[x,y],#[U,U]⟩,ty,pos,af,g⟩).run P w=.ok (.value (.slice (some ⟨β k,0,none⟩) n n)) w:=by
  simp only[execOp,resolve,invoke,builtin,eH,fQ,fa,tk,si,sV,e1,e2]
  simp[Builtin.append_,run_underlying hu,sizeOf,typeInfo,program,Sem.run,hi,hsz,Builtin.lenOf,hfirst,storeCells]
 unfold Gives
 rw[hexec]
 refine⟨?_,cU _ _⟩
 have hkeep:Keep V (fun b=>V b∧b≠β k) w w:=⟨Nat.le_refl _,fun _ _ _=>rfl,fun _ _ h=>h.1⟩
 have hr2:=hr.keep hkeep
 have hvl:vs.size=n*m:=by have:=hr.1;simp at this;omega
 refine .s (β k) 0 n m n cs (fun j=>vs.getD j undef) hn (cj _) hn2 hcs (hs.av _ hvk) (fun h=>h.2 rfl) (fun j hj=>?_) (fun j u hj=>?_)
 ·rw[iq,cZ ev]
  have:j<vs.size:=by omega
  simp[Array.getD,this]
 ·have hlt:j<cs.length:=(jH.1 hj).1
  refine hr2.2 j _ u ?_ hj
  have:j<vs.size:=by omega
  simp[Array.getD,this]
theorem CP {x y:Operand}
 (hU:xG P U=some (e,1,4,[z])) (hx:cO T x=some (.o k 1 1)) (hy:cO T y=some (.v (.c (cM rs)))) (hb:B k=some (e,[.i .u32 d])) (hl:rs.length≤1000000000)
 (hg:gd ops ⟨dst,.call ⟨.builtin .append,#[x,y],#[U,U]⟩,ty,pos,af,g⟩ T=some true):
 Sem P ops ⟨dst,.call ⟨.builtin .append,#[x,y],#[U,U]⟩,ty,pos,af,g⟩ T B (.c k (.v (.c (cM (d::rs))))):=by
 cases rs with
 |nil=>exact Fz (n:=1) hU hx hy hb rfl (by omega) (by omega) hg
 |cons r rs=>
  have:=yD (us:=(d::r::rs).map (CellD.i .u32)) hU hx hy hb rfl (jh _) (by omega) (by simp) (by omega) (by simp at hl⊢;omega) (by simp at hl⊢;unfold maxLen;omega) rfl hg
  unfold cM
  grind
theorem vT {c:Code}{N t n' c':Nat}
 (ht:aK t tm=some (.o k n' c')) (hb:aK k bx=some (U,zs.map (CellD.i .u32))) (hm:zs.length=c') (hn:n'≤c') (hc:c'≤9223372036854775807) (hu:zs.take n'=ys)
 (h:Dw P c ⟨N,(t,.v (.c (cM ys)))::mr k tm,kI k bx⟩ Q):Dw P c ⟨N,tm,bx⟩ Q:=by
 refine fu ht hb (m:=1) (us:=ys.map (CellD.i .u32)) (by simp[hm]) hn hc (by rw[Nat.mul_one,←List.map_take,hu]) ?_
 unfold cM at h
 grind
theorem GI {x h:Operand}
 (hU:wW P U=some 1) (hx:cO T x=some (.v (.c (cM xs)))) (hh:cO T h=some (.v (.c (.i ki j)))) (hj:j≤xs.length) (hg:gd ops ⟨dst,.slice U x none (some h) none,ty,pos,af,g⟩ T=some true):
 Sem P ops ⟨dst,.slice U x none (some h) none,ty,pos,af,g⟩ T B (.r (.v (.c (cM (xs.take j))))):=by
 have:=F4 (B:=B) hU hx hh (by omega) (jh xs) rfl hg
 have e:CellD.s ((j:Int).toNat) ((xs.map (CellD.i .u32)).take ((j:Int).toNat*1))=cM (xs.take j):=by
  unfold cM
  rw[Int.toNat_natCast,Nat.mul_one,gz,qO hj,List.map_take]
 grind
theorem u9 {x h:Operand}{c q m:Nat}
 (hU:wW P U=some m) (hx:cO T x=some (.o k n c)) (hh:cO T h=some (.v (.c (.i ki q)))) (hq:q≤c) (hg:gd ops ⟨dst,.slice U x none (some h) none,ty,pos,af,g⟩ T=some true):
 Sem P ops ⟨dst,.slice U x none (some h) none,ty,pos,af,g⟩ T B (.r (.o k q c)):=
 bG hg (fun k' e=>by
  obtain rfl:k=k':=by injection e
  exact m9 (ops:=ops) (o:=⟨dst,.slice U x none (some h) none,ty,pos,af,g⟩) (by simp[Op.operands]) hx rfl) (fun V β a w hs=>by
  have e:a.eval x=.slice (some ⟨β k,0,none⟩) n c:=ap hs (x:=x) (by simp[Op.operands]) hx
  have h2:=fO (ap hs (x:=h) (by simp[Op.operands]) hh)
  unfold wW at hU
  split at hU
  case h_2=>cases hU
  rename_i el hul
  cases hinf:P.info? el with
  |none=>rw[hinf] at hU;cases hU
  |some inf=>
   rw[hinf] at hU
   simp at hU
   have hso: ∀w,(sizeOf el).run P w=.ok m w:=fun w=>by unfold sizeOf typeInfo;simp[program,Sem.run,hinf,hU]
   refine⟨.slice (some ⟨β k,0,none⟩) q c,?_,rfl⟩
   simp[execOp,Instr.sliceAt,Instr.slice,run_underlying hul,e,h2,Instr.sliceBounds,Instr.sliceBound,asIntOf,hq,hso,Addr.add])
end
class TaC (P:Program) where
 b:Tb
 zc:List (Nat×List CellD)
 op:Nat→Bool
 ok:TbOk P b
 zk: ∀U zs,aK U zc=some zs→AD P U=some zs
 mo:P.follows .mixedOrders=true
theorem FU {α:Type}{t:Nat}{x:α}: ∀ {l:List (Nat×α)},aK t l=some x→(t,x)∈l
 |[],h=>by cases h
 |(k,y)::r,h=>by
  unfold aK at h
  cases e:Nat.beq k t with
  |true=>rw[e] at h;cases h;rw[iU e];exact gT
  |false=>rw[e] at h;exact gN _ (FU h)
theorem Xh {l:List (Nat×List CellD)}(h: ∀p∈l,AD P p.1=some p.2): ∀U zs,aK U l=some zs→AD P U=some zs:=fun _U _zs e=>h _ (FU e)
section
variable (P:Program) [C:TaC P]
def N6 (T:TF) (B:BF):Op→Option SA
 | .load U x=>match cO T x with
   |some (.p k off)=>match B k,C.b.ty U with
    |some (W,cs),some (true,n)=>bif C.op W then none else bif Nat.beq off 0&&Nat.beq cs.length n then some (.v (.v (.a cs))) else
     bif Nat.ble (off+n) cs.length&&Nat.ble cs.length 24 then some (.v (.v (.a ((cs.drop off).take n)))) else none
    |some (W,cs),some (false,_)=>bif C.op W then none else match cs[off]? with
     |some u=>some (.v (.v (.c u)))
     |none=>none
    |_,_=>none
   |_=>none
 | .store U ax x=>match cO T ax,cO T x,C.b.ty U with
   |some (.p k off),some (.v (.a us)),some (true,m)=>match B k with
    |some (W,cs)=>bif C.op W then none else bif Nat.beq off 0&&Nat.beq us.length m&&Nat.beq cs.length m then some (.st k W us) else none
    |none=>none
   |_,_,_=>none
 | .alloc U=>match aK U C.zc with
   |some zs=>some (.bx U zs)
   |none=>none
 |op=>K3 C.b T B op
def Le (ops:Array Oper) (T:TF) (B:BF) (o:Oper):Option SA:=
 match gd ops o T with
 |some true=>N6 P T B o.op
 |some false=>some .sk
 |none=>none
def gst (ops:Array Oper) (d:Option Nat):List Oper→Bool
 |⟨_,_,_,_,_,some (j,_)⟩::_=>match ops[j]?,d with
  |some ⟨some t,_,_,_,_,_⟩,some u=>Nat.beq t u
  |_,_=>false
 |_=>false
variable {P}
theorem Qy (hg:gd ops ⟨dst,op,ty,pos,af,g⟩ T=some true) (h:N6 P T B op=some s)
 (hd: ∀k U cs,s=.st k U cs→dst=none):Sem P ops ⟨dst,op,ty,pos,af,g⟩ T B s.eff:=by
 unfold N6 at h
 split at h
 ·split at h
  ·rename_i e
   split at h
   ·rename_i e1 e2
    rw[tM,tM,tM] at h
    split at h
    ·cases h
    ·split at h
     ·rename_i hc
      cases h
      rw[dF] at hc
      have h0:=iU hc.1
      have hl:=iU hc.2
      subst h0
      exact cg (C.ok.ty _ _ e2) e e1 (by rw[p9];exact jY (tS hl)) hl hg
     ·split at h
      ·rename_i hc
       cases h
       rw[dF] at hc
       have h0:=dO hc.1
       exact cg (C.ok.ty _ _ e2) e e1 rfl (by rw[gz,jF];omega) hg
      ·cases h
   ·rename_i e1 e2
    rw[tM] at h
    split at h
    ·cases h
    ·split at h
     ·rename_i e3;cases h;exact oX (C.ok.ty _ _ e2) e e1 e3 hg
     ·cases h
   ·cases h
  ·cases h
 ·split at h
  ·rename_i e1 e2 e3
   split at h
   ·rename_i e4
    rw[tM,tM] at h
    split at h
    ·cases h
    ·split at h
     ·rename_i hc
      cases h
      rw[dF,dF] at hc
      have h0:=iU hc.1.1
      subst h0
      have:=hd _ _ _ rfl
      subst this
      exact du (C.ok.ty _ _ e3) e1 e2 e4 (iU hc.1.2) (iU hc.2) hg
     ·cases h
   ·cases h
  ·cases h
 ·split at h
  ·rename_i e;cases h;exact jR (C.zk _ _ e) hg
  ·cases h
 ·exact Hn C.ok hg h hd
theorem pN (h:Le P ops T B ⟨dst,op,ty,pos,af,g⟩=some s)
 (hd: ∀k U cs,s=.st k U cs→dst=none):Sem P ops ⟨dst,op,ty,pos,af,g⟩ T B s.eff:=by
 unfold Le at h
 split at h
 ·rename_i e;exact Qy e h hd
 ·rename_i e;cases h;exact nI e
 ·cases h
end
structure DL (P:Program) (ops:Array Oper) (os:List Oper) (σ:St) (K:St→Prop):Prop where
 h:dl P ops os σ K
structure DQ (P:Program) (ops:Array Oper) (hs:List Nat) (os:List Oper) (s:Sq) (K:Sq→Prop):Prop where
 h:dq P ops hs os s K
structure DW (P:Program) (c:Code) (σ:St) (Q:Exit→St→Prop):Prop where
 h:Dw P c σ Q
section
variable (P:Program) [C:TaC P] (ops:Array Oper) (K:St→Prop) (n:Nat)
def I1:List Oper→List (Nat×DV)→List (Nat×TypeId×List CellD)→Prop
 |[],tm,bx=>K ⟨n,tm,bx⟩
 |o::os,tm,bx=>bif gst ops o.dst os then DL P ops (o::os) ⟨n,tm,bx⟩ K else match o.dst,Le P ops (fun s=>aK s tm) (fun l=>aK l bx) o with
  |some t,some .sk=>I1 os ((t,.u)::tm) bx
  |some t,some (.v x)=>I1 os ((t,x)::tm) bx
  |some t,some (.bx U cs)=>match aK t bx with
   |none=>I1 os ((t,.p t 0)::tm) ((t,U,cs)::bx)
   |some _=>DL P ops (o::os) ⟨n,tm,bx⟩ K
  |none,some (.st j U cs)=>I1 os tm ((j,U,cs)::bx)
  |_,_=>DL P ops (o::os) ⟨n,tm,bx⟩ K
variable {P ops K n}
theorem eQ: ∀ {os:List Oper}{tm:List (Nat×DV)}{bx:List (Nat×TypeId×List CellD)},I1 P ops K n os tm bx→dl P ops os ⟨n,tm,bx⟩ K
 |[],tm,bx,h=>h
 |⟨dst,op,ty,pos,af,g⟩::os,tm,bx,h=>by
  unfold I1 at h
  rw[tM] at h
  split at h
  ·exact h.h
  ·split at h
   ·rename_i t e1 e2
    cases e1
    exact vu (pN e2 (fun _ _ _ e=>by cases e)) (eQ h)
   ·rename_i t x e1 e2
    cases e1
    exact aW (pN e2 (fun _ _ _ e=>by cases e)) (eQ h)
   ·rename_i t U cs e1 e2
    cases e1
    split at h
    ·rename_i e3;exact uX (pN e2 (fun _ _ _ e=>by cases e)) e3 (eQ h)
    ·exact h.h
   ·rename_i j U cs e1 e2
    cases e1
    exact iu (pN e2 (fun _ _ _ _=>rfl)) (eQ h)
   ·exact h.h
end
section
variable (P:Program) [C:TaC P] (ops:Array Oper) (hs:List Nat) (K:Sq→Prop) (n:Nat)
def QP:List Oper→List (Nat×DV)→List (Nat×TypeId×List CellD)→List (Nat×TypeId×List CellD)→List Nat→Prop
 |[],tm,bx,nb,sd=>K ⟨⟨n,tm,bx⟩,nb,sd⟩
 |o::os,tm,bx,nb,sd=>bif gst ops o.dst os then DQ P ops hs (o::os) ⟨⟨n,tm,bx⟩,nb,sd⟩ K else match o.dst,Le P ops (fun s=>aK s tm) (hid hs (fun l=>aK l bx)) o with
  |some t,some .sk=>QP os ((t,.u)::tm) bx nb sd
  |some t,some (.v x)=>QP os ((t,x)::tm) bx nb sd
  |some t,some (.bx U cs)=>match aK t (nb++bx) with
   |none=>QP os ((t,.p t 0)::tm) bx ((t,U,cs)::nb) sd
   |some _=>DQ P ops hs (o::os) ⟨⟨n,tm,bx⟩,nb,sd⟩ K
  |_,_=>DQ P ops hs (o::os) ⟨⟨n,tm,bx⟩,nb,sd⟩ K
variable {P ops hs K n}
theorem dc: ∀ {os:List Oper}{tm:List (Nat×DV)}{bx nb:List (Nat×TypeId×List CellD)}{sd:List Nat},QP P ops hs K n os tm bx nb sd→dq P ops hs os ⟨⟨n,tm,bx⟩,nb,sd⟩ K
 |[],tm,bx,nb,sd,h=>h
 |⟨dst,op,ty,pos,af,g⟩::os,tm,bx,nb,sd,h=>by
  unfold QP at h
  rw[tM] at h
  split at h
  ·exact h.h
  ·split at h
   ·rename_i t e1 e2
    cases e1
    exact vE (pN e2 (fun _ _ _ e=>by cases e)) (dc h)
   ·rename_i t x e1 e2
    cases e1
    exact bh (pN e2 (fun _ _ _ e=>by cases e)) (dc h)
   ·rename_i t U cs e1 e2
    cases e1
    split at h
    ·rename_i e3;exact zr (pN e2 (fun _ _ _ e=>by cases e)) e3 (dc h)
    ·exact h.h
   ·exact h.h
end
section
variable (P:Program) [C:TaC P]
def QO:Code→St→(Exit→St→Prop)→Prop
 | .seq x y,σ,Q=>QO x σ (DH (fun σ'=>QO y σ' Q) Q)
 | .skip,σ,Q=>Q .normal σ
 | .ret,σ,Q=>Q .ret σ
 | .exit id,σ,Q=>Q (.exit id) σ
 | .block id c,σ,Q=>QO c σ (Qg id Q)
 | .region id ⟨l⟩ false,⟨n,tm,bx⟩,Q=>bif L0 ⟨l⟩ n then I1 P ⟨l⟩ (Q .normal) n l tm bx else DW P (.region id ⟨l⟩ false) ⟨n,tm,bx⟩ Q
 |c,σ,Q=>DW P c σ Q
variable {P}
theorem aaX {c:Code}: ∀ {σ:St}{Q Q':Exit→St→Prop},(∀e σ',Q e σ'→Q' e σ')→QO P c σ Q→Dw P c σ Q':=by
 induction c with
 |seq x y ihx ihy=>
  intro σ Q Q' hq h
  refine ae (ihx (fun e σ' he=>?_) h)
  cases e with
  |normal=>exact ihy hq he
  |_=>exact hq _ _ he
 |skip=>intro σ Q Q' hq h;exact aB (hq _ _ h)
 |ret=>intro σ Q Q' hq h;exact a9 (hq _ _ h)
 |exit id=>intro σ Q Q' hq h;exact b7 (hq _ _ h)
 |block id c ih=>
  intro σ Q Q' hq h
  refine Dw.mono (aP (ih (fun e σ' he=>he) h)) hq
 |region id ops draw=>
  intro σ Q Q' hq h
  obtain⟨l⟩:=ops
  obtain⟨n,tm,bx⟩:=σ
  cases draw with
  |true=>exact Dw.mono h.h hq
  |false=>
   have h:bif L0 ⟨l⟩ n then I1 P ⟨l⟩ (Q .normal) n l tm bx else DW P (.region id ⟨l⟩ false) ⟨n,tm,bx⟩ Q:=h
   rw[tM] at h
   split at h
   ·rename_i hc;exact Dw.mono (zb hc (eQ h)) hq
   ·exact Dw.mono h.h hq
 |_=>intro σ Q Q' hq h;exact Dw.mono h.h hq
theorem nZ {c:Code}(h:QO P c σ Q):Dw P c σ Q:=aaX (fun _ _ h=>h) h
end
section
variable {P:Program}[C:TaC P] {ops:Array Oper}{os:List Oper}{n t:Nat}{tm:List (Nat×DV)}{bx nb:List (Nat×TypeId×List CellD)}{K:St→Prop}{K':Sq→Prop}{hs sd:List Nat}{ty:TypeId}{pos:String}{af:Array Edge}{g:Option (Nat×Bool)}{op:Op}
omit C in
theorem K6 {K2:Sq→Prop}(hk: ∀s,K' s→K2 s): ∀ {os:List Oper}{s:Sq},dq P ops hs os s K'→dq P ops hs os s K2
 |[],s,h=>hk s h
 |_::_,_,⟨e,a,b,c,d,f,h⟩=>⟨e,a,b,c,d,f,K6 hk h⟩
theorem ar {x:DV}(h:Sem P ops ⟨some t,op,ty,pos,af,g⟩ (fun s=>aK s tm) (fun k=>aK k bx) (.r x)) (hk:I1 P ops K n os ((t,x)::tm) bx):DL P ops (⟨some t,op,ty,pos,af,g⟩::os) ⟨n,tm,bx⟩ K:=⟨aW h (eQ hk)⟩
theorem aq {x:DV}(h:Sem P ops ⟨some t,op,ty,pos,af,g⟩ (fun s=>aK s tm) (hid hs (fun k=>aK k bx)) (.r x)) (hk:QP P ops hs K' n os ((t,x)::tm) bx nb sd):DQ P ops hs (⟨some t,op,ty,pos,af,g⟩::os) ⟨⟨n,tm,bx⟩,nb,sd⟩ K':=⟨bh h (dc hk)⟩
theorem nM (h:Sem P ops ⟨none,op,ty,pos,af,g⟩ (fun s=>aK s tm) (fun k=>aK k bx) (.s k U cs)) (hk:I1 P ops K n os tm ((k,U,cs)::bx)):DL P ops (⟨none,op,ty,pos,af,g⟩::os) ⟨n,tm,bx⟩ K:=⟨iu h (eQ hk)⟩
theorem jC {b:Bool}(h:Sem P ops ⟨some t,op,ty,pos,af,g⟩ (fun s=>aK s tm) (fun k=>aK k bx) (.r (.v (.c (.b b))))) (hk: ∀c,b=c→I1 P ops K n os ((t,.v (.c (.b c)))::tm) bx):DL P ops (⟨some t,op,ty,pos,af,g⟩::os) ⟨n,tm,bx⟩ K:=⟨UR h fun c e=>eQ (hk c e)⟩
theorem AG {b:Bool}(h:Sem P ops ⟨some t,op,ty,pos,af,g⟩ (fun s=>aK s tm) (hid hs (fun k=>aK k bx)) (.r (.v (.c (.b b))))) (hk: ∀c,b=c→QP P ops hs K' n os ((t,.v (.c (.b c)))::tm) bx nb sd):DQ P ops hs (⟨some t,op,ty,pos,af,g⟩::os) ⟨⟨n,tm,bx⟩,nb,sd⟩ K':=⟨JB h fun c e=>dc (hk c e)⟩
section
variable {fo:Operand}{args:Array Operand}{at_:Array TypeId}{f:FuncId}{ds rs:List D0}
theorem ac (h:(cO (fun s=>aK s tm) fo,oY (fun s=>aK s tm) args.toList,gd ops ⟨some t,.call ⟨.value fo,args,at_⟩,ty,pos,af,g⟩ fun s=>aK s tm)=(some (.v (.c (.f f))),some ds,some true)) (hok:Ok P f ds rs) (hk:I1 P ops K n os ((t,xd rs)::tm) bx):
 DL P ops (⟨some t,.call ⟨.value fo,args,at_⟩,ty,pos,af,g⟩::os) ⟨n,tm,bx⟩ K:=ar (cb h hok) hk
theorem aC (h:(cO (fun s=>aK s tm) fo,oY (fun s=>aK s tm) args.toList,gd ops ⟨some t,.call ⟨.value fo,args,at_⟩,ty,pos,af,g⟩ fun s=>aK s tm)=(some (.v (.c (.f f))),some ds,some true)) (hok:Ok P f ds rs) (hk:QP P ops hs K' n os ((t,xd rs)::tm) bx nb sd):
 DQ P ops hs (⟨some t,.call ⟨.value fo,args,at_⟩,ty,pos,af,g⟩::os) ⟨⟨n,tm,bx⟩,nb,sd⟩ K':=aq (cb h hok) hk
end
variable {Q:Exit→St→Prop}{x y:Code}{σ:St}
theorem df {b:Bool}(hb:aK t σ.tm=some (.v (.c (.b b)))) (ht:b=true→QO P x σ Q) (hf:b=false→QO P y σ Q):DW P (.cond (.tmp t) x y) σ Q:=⟨aS hb (fun e=>nZ (ht e)) fun e=>nZ (hf e)⟩
theorem rx (hb:aK t tm=some (.v (.c (.b true)))) (h:QO P x ⟨n,tm,bx⟩ Q):DW P (.cond (.tmp t) x y) ⟨n,tm,bx⟩ Q:=⟨dG hb (nZ h)⟩
theorem qg (hb:aK t tm=some (.v (.c (.b false)))) (h:QO P y ⟨n,tm,bx⟩ Q):DW P (.cond (.tmp t) x y) ⟨n,tm,bx⟩ Q:=⟨bn hb (nZ h)⟩
theorem cz (m:Nat) (hs:List Nat) (h:QP P l.toArray hs (fun s=>I1 P l.toArray (Q .normal) s.st.n (l.drop m) s.st.tm (s.nb++s.st.bx)) n (l.take m) tm bx [] []) (hc:L8 l.toArray m n=true:=by kernel_rfl):
 DW P (.region id l.toArray true) ⟨n,tm,bx⟩ Q:=⟨sU m hs C.mo hc rfl rfl (K6 (fun _ hk=>eQ hk) (dc h))⟩
theorem ag (h:I1 P l.toArray (Q .normal) n l tm bx) (hn:L0 l.toArray n=true:=by kernel_rfl):Dw P (.region id l.toArray false) ⟨n,tm,bx⟩ Q:=zb hn (eQ h)
theorem fb (m:Nat) (hs:List Nat) (h:QP P l.toArray hs (fun s=>I1 P l.toArray (Q .normal) s.st.n (l.drop m) s.st.tm (s.nb++s.st.bx)) n (l.take m) tm bx [] []) (hc:L8 l.toArray m n=true:=by kernel_rfl):
 Dw P (.region id l.toArray true) ⟨n,tm,bx⟩ Q:=(cz m hs h hc).h
theorem bW {f:FuncId}{fn:Func}{c:Code}{ds rs:List D0}(hf:P.funcs[f]? =some fn) (hb:fn.body=some c) (h:QO P c ⟨fn.ntmps,mp 0 ds,[]⟩ fun e σ=>(e=.normal∨e=.ret)∧qm P σ fn.results.toList=some rs)
 (hcal:fj P f=true:=by kernel_rfl) (hlen:Nat.ble ds.length fn.ntmps=true:=by rfl):Ok P f ds rs:=Ok.of hcal hf hb hlen (nZ h)
end
def zcT:List (Nat×List CellD):=[(36,[.b false,.s 0 []]),(38,[.b false,.s 0 [],.b false,.s 0 []]),(40,[.b false,.s 0 [],.b false,.s 0 [],.b false,.s 0 [],.b false,.s 0 [],.b false,.s 0 [],.b false,.s 0 []]),(45,[.b false,.s 0 [],.b false,.s 0 [],.b false,.s 0 [],.b false,.s 0 [],.b false,.s 0 [],.b false,.s 0 []]),(47,[.b false,.s 0 [],.b false,.s 0 [],.b false,.s 0 [],.b false,.s 0 [],.b false,.s 0 [],.b false,.s 0 [],.b false,.s 0 [],.b false,.s 0 [],.b false,.s 0 [],.b false,.s 0 []]),(49,[.b false,.b false,.s 0 [],.b false,.s 0 [],.b false,.s 0 [],.b false,.s 0 [],.b false,.s 0 [],.b false,.s 0 [],.b false,.s 0 [],.b false,.s 0 [],.b false,.s 0 [],.b false,.s 0 [],.b false,.s 0 [],.b false,.s 0 [],.b false,.b false,.s 0 [],.b false,.s 0 [],.b false,.s 0 [],.b false,.s 0 [],.b false,.s 0 [],.b false,.s 0 [],.b false,.s 0 [],.b false,.s 0 [],.b false,.s 0 [],.b false,.s 0 [],.b false,.s 0 [],.b false,.s 0 [],.b false,.s 0 [],.b false,.s 0 [],.b false,.s 0 [],.b false,.s 0 [],.b false,.s 0 [],.b false,.s 0 [],.b false,.s 0 [],.b false,.s 0 []]),(65,[.b false,.s 0 [],.b false,.s 0 [],.b false,.s 0 [],.b false,.s 0 []]),(72,[.i .i64 0,.i .i64 0]),(129,[.b false,.s 0 [],.b false,.s 0 [],.b false,.s 0 [],.b false,.s 0 [],.b false,.s 0 [],.b false,.s 0 []]),(148,[.i .i64 0,.i .i64 0,.i .i64 0]),(186,[.b false,.s 0 [],.b false,.s 0 [],.b false,.s 0 [],.b false,.s 0 [],.b false,.s 0 [],.b false,.s 0 [],.b false,.s 0 [],.b false,.s 0 [],.b false,.s 0 [],.b false,.s 0 [],.b false,.s 0 [],.b false,.s 0 []]),(230,[.i .i64 0,.i .i64 0]),(256,[.b false,.s 0 [],.b false,.s 0 [],.b false,.s 0 [],.b false,.s 0 []]),(303,[.i .i64 0,.b false,.s 0 [],.b false,.s 0 [],.b false,.s 0 [],.b false,.s 0 [],.b false,.s 0 [],.b false,.s 0 []])]
def opF (U:Nat):Bool:=bif Nat.beq U 303 then true else bif Nat.beq U 49 then true else false
instance:TaC Tryz.prog:=⟨tb,zcT,opF,Pa,Xh (qG.2 ⟨H3,qG.2 ⟨qe,qG.2 ⟨Wr,qG.2 ⟨W7,qG.2 ⟨z8,qG.2 ⟨PF,qG.2 ⟨G1,qG.2 ⟨aa5,qG.2 ⟨js,qG.2 ⟨aaI,qG.2 ⟨Ao,qG.2 ⟨pt,qG.2 ⟨F8,qG.2 ⟨YQ,fun _ h=>nomatch h⟩⟩⟩⟩⟩⟩⟩⟩⟩⟩⟩⟩⟩⟩),il⟩
theorem kK (hL:Lim xs) (hn:xs.length≤1000000000):Ok Tryz.prog 168 [.c (cM xs)] [.c (cL (val xs))]:=by
 refine bW Tryz.func168 rfl ?_
 refine DW.mk<|bF (ι:={k:Nat // k≤xs.length∧trm (xs.take k)=trm xs}) (fun i=>⟨21,[(0,.v (.c (cM (xs.take i.1))))],[]⟩) (fun i=>i.1) ⟨xs.length,cj _,by rw[pS]⟩ (aA ⟨by rw[pS];rfl,trivial⟩ trivial rfl) ?_
 rintro⟨k,hk0,hT⟩
 have hk:(xs.take k).length=k:=by rw[gz];omega
 dsimp only
 refine nZ ?_
 refine jC (bq rfl) (fun c1 hb1=>?_)
 cases c1
 ·have hz:k=0:=by simp only[decide_eq_false_iff_not] at hb1;omega
  have hfin:cL (val xs)=cM (xs.take k):=by rw[Nl hL,←hT,hz];rfl
  refine qg rfl<|ah ?_
  rw[hfin]
  exact ak aa
 ·have h1:0<k:=by simp only[decide_eq_true_eq] at hb1;omega
  refine ar (bZ (((k-1:Nat):Int)) (by rw[hk,show((k-1:Nat):Int)=(k:Int)-1 from by omega];exact bI (by omega) (by omega)) rfl)<|ar (bK iV rfl rfl (by omega) (jh _) rfl rfl) ?_
  refine ar (ci fl rfl (jV (i:=(k-1)) (by omega)) rfl) ?_
  refine df rfl (fun hc2=>?_) (fun hc2=>?_)
  ·have hstep:=LE h1 hk0 hT hc2
   refine ar (bZ (((k-1:Nat):Int)) (by rw[hk,show((k-1:Nat):Int)=(k:Int)-1 from by omega];exact bI (by omega) (by omega)) rfl)<|ar (GI (xs:=xs.take k) (j:=(k-1)) iV rfl rfl (by omega) rfl) ?_
   exact⟨⟨k-1,by omega,hstep⟩,aA ⟨by rw[show xs.take (k-1)=(xs.take k).take (k-1) from by rw[List.take_take,qO (by omega)]];rfl,trivial⟩ trivial rfl,by show k-1<k;omega⟩
  ·have hfin:cL (val xs)=cM (xs.take k):=by rw[Nl hL];exact congrArg cM (LF h1 hk0 hT hc2)
   refine ah ?_
   rw[hfin]
   exact ak aa
theorem mU (h:k<xs.length):val (xs.take (k+1))=val (xs.take k)+pw k*xs.getD k 0:=aZ (getD_some h)
theorem pO (k:Nat):val (xs.take (k+1))=val (xs.take k)+pw k*xs.getD k 0:=by
 by_cases h:k<xs.length
 ·exact mU h
 ·rw[fF (by omega),List.getD,uU (by omega)];simp
structure PInv (p q:List Int) (k:Nat) (c:Int) (zs:List Int):Prop where
 le:k≤p.length
 c0:0≤c
 c1:c≤1
 L:Lim zs
 len:zs.length=k
 v:val zs+pw k*c=val (p.take k)+val (q.take k)
theorem PInv.step (h:PInv p q k c zs) (hp:Lim p) (hq:Lim q) (hk:k<p.length) (hS:S=c+p.getD k 0+q.getD k 0):PInv p q (k+1) (S/1000000000) (zs++[S%1000000000]):=by
 have h1:=db hp k
 have h2:=db hq k
 have:=h.c0
 have:=h.c1
 refine⟨hk,by omega,by omega,h.L.snoc (by omega) (by omega),by simp[h.len],?_⟩
 rw[pO k,pO k,mK h.len h.v (d:=S%1000000000) (c':=S/1000000000) (t:=p.getD k 0+q.getD k 0) (by omega)]
 grind
theorem PInv.done (h:PInv p q k c zs) (hk:k=p.length) (hq:q.length≤p.length):val (zs++[c])=val p+val q:=by
 have:=h.v
 rw[pW,h.len,this,hk,cV (cj _),cV hq]
structure SInv (p q:List Int) (k:Nat) (c:Int) (zs:List Int):Prop where
 le:k≤p.length
 c0:0≤c
 c1:c≤1
 L:Lim zs
 len:zs.length=k
 v:val zs-pw k*c=val (p.take k)-val (q.take k)
theorem SInv.step {c':Int}(h:SInv p q k c zs) (hk:k<p.length) (hd:0≤d) (hd2:d<1000000000) (hc0:0≤c') (hc1:c'≤1) (hS:d-1000000000*c'=p.getD k 0-c-q.getD k 0):SInv p q (k+1) c' (zs++[d]):=by
 refine⟨hk,hc0,hc1,h.L.snoc hd hd2,by simp[h.len],?_⟩
 have h1:=mK (zs:=zs) (k:=k) (c:= -c) (S:=val (p.take k)-val (q.take k)) (t:=p.getD k 0-q.getD k 0) (d:=d) (c':= -c') h.len (by rw[Int.mul_neg];have:=h.v;omega) (by omega)
 rw[pO k,pO k]
 grind
theorem SInv.done (h:SInv p q k c zs) (hk:k=p.length) (hq:q.length≤p.length) (hv:val q≤val p):val zs=val p-val q:=by
 have h1:=h.v
 rw[hk,cV (cj _),cV hq] at h1
 have h2:=fe h.L
 rw[h.len,hk] at h2
 have h4:=h.c0
 have h5:=h.c1
 have:c=0∨c=1:=by omega
 grind
structure TInv (p q:List Int) (i k:Nat) (c:Int) (zs:List Int):Prop where
 ik:i≤p.length
 kk:k≤q.length
 c0:0≤c
 c1:c<1000000000
 L:Lim zs
 len:zs.length=p.length+q.length
 z:Zr zs (i+q.length)
 v:val zs+pw (i+k)*c=val (p.take i)*val q+pw i*(p.getD i 0*val (q.take k))
theorem TInv.start:TInv p q 0 0 0 (List.replicate (p.length+q.length) 0):=
 ⟨Nat.zero_le _,ju _,by omega,by omega,Lim.zeros _,by simp,Zr.zeros _ _,by rw[y6];simp[val]⟩
theorem TInv.step (h:TInv p q i k c zs) (hp:Lim p) (hq:Lim q) (hi:i<p.length) (hk:k<q.length) (hS:S=c+zs.getD (i+k) 0+p.getD i 0*q.getD k 0):
 TInv p q i (k+1) (S/1000000000) (zs.set (i+k) (S%1000000000)):=by
 have h1:=db hp i
 have h2:=db hq k
 have h3:=db h.L (i+k)
 have hc0:=h.c0
 have hc1:=h.c1
 have hm0:0≤p.getD i 0*q.getD k 0:=fK h1.1 h2.1
 have hm1:p.getD i 0*q.getD k 0≤999999999*999999999:=pu (by omega) (by omega) h2.1 (by omega)
 have hlt:i+k<zs.length:=by rw[h.len];omega
 refine⟨h.ik,hk,by omega,by omega,h.L.set (by omega) (by omega),by simp[h.len],h.z.set (by omega),?_⟩
 rw[A3 (getD_some hlt),mU hk,show i+(k+1)=i+k+1 from by omega,dB]
 have hv:=h.v
 rw[pf i k] at*
 grind
theorem TInv.row (h:TInv p q i k c zs) (hi:i<p.length) (hk:k=q.length):TInv p q (i+1) 0 0 (zs.set (i+q.length) c):=by
 have hlt:i+q.length<zs.length:=by rw[h.len];omega
 have hz:zs.getD (i+q.length) 0=0:=h.z (i+q.length) _ (cj _) (getD_some hlt)
 refine⟨hi,ju _,by omega,by omega,h.L.set h.c0 h.c1,by simp[h.len],?_,?_⟩
 ·rw[show i+1+q.length=i+q.length+1 from by omega];exact h.z.set_at
 ·rw[A3 (getD_some hlt),hz,mU hi]
  have hv:=h.v
  simp only[List.take_zero,val,og,Int.add_zero,Int.sub_zero]
  grind
theorem TInv.done (h:TInv p q i 0 0 zs) (hi:i=p.length):val zs=val p*val q:=by
 have hv:=h.v
 grind
theorem Lt (hx:i<xs.length) (hy:i<ys.length) (h:xs.drop (i+1)=ys.drop (i+1)) (he:xs.getD i 0=ys.getD i 0):xs.drop i=ys.drop i:=by
 rw[oD hx,oD hy,h]
 grind
theorem Tt (h:0≤v):dI (sg true v)=.a ([.b (decide (((dg v.natAbs).length:Int)>0))]++[cL v]):=by
 rw[fV]
 unfold dI cI
 have e1:cL (-v)=cL v:=by unfold cL;rw[Int.natAbs_neg]
 have e2:decide (-v<0)=decide (((dg v.natAbs).length:Int)>0):=by
  by_cases h0:v=0
  ·subst h0;simp[kS]
  ·have:(dg v.natAbs).length≠0:=fun e=>h0 (Ee.1 e)
   rw[show decide (-v<0)=true from by simp;omega,show decide (((dg v.natAbs).length:Int)>0)=true from by simp only[decide_eq_true_eq];omega]
 grind
structure ShInv (xs:List Int) (j:Nat) (r:Int):Prop where
 le:j≤xs.length
 r0:0≤r
 v:r*pw j+val (xs.take j)=val xs
theorem ShInv.step (h:ShInv xs (i+1) r) (hL:Lim xs):ShInv xs i (r*1000000000+xs.getD i 0):=by
 have h1:=db hL i
 refine⟨by have:=h.le;omega,by have:=h.r0;omega,?_⟩
 have hv:=h.v
 rw[pO i,dB] at hv
 grind
theorem ShInv.bound (h:ShInv xs j r) (hL:Lim xs):r≤val xs:=by
 have:=h.v
 have h1:=cH j
 have h2:=cD (hL.take j)
 have h3:=lZ h1 h.r0
 grind
theorem O1 (hLxs:Lim xs) (hLys:Lim ys) (hn:xs.length≤100000000) (hm:ys.length≤100000000):Ok Tryz.prog 289 [.c (cM xs),.c (cM ys)] [.c (cL (val xs+val ys))]:=by
 refine ex Tryz.func289 55 [.tmp 4] rfl<|ae<|ag<|ae<|ae<|ag ?_
 refine aS rfl (fun hc1=>?_) (fun hc1=>?_)
 ·have hlt:xs.length<ys.length:=by simp only[decide_eq_true_eq] at hc1;omega
  refine ag<|ae<|ag ?_
  refine ar (bZ ((ys.length:Int)+1) (bm (by(first|omega|(simp;omega))) (by(first|omega|(simp;omega)))) rfl) ?_
  refine DL.mk<|pD (kg (n:=ys.length+1) xm rfl rfl (by(first|omega|(simp;omega))) (by(first|omega|(simp;omega))) rfl) rfl<|eQ ?_
  refine ae<|ag<|ae<|ae<|ag<|aP<|bF (ι:={t:Nat×Int×List Int // PInv ys xs t.1 t.2.1 t.2.2}) (fun i=>⟨55,[(0,.v (.c (cM ys))),(1,.v (.c (cM xs))),(5,.o 18 (ys.length+1) (ys.length+1)),(6,.v (.c (.i .u32 i.1.2.1))),(7,.v (.c (.i .i64 (i.1.1:Int))))],[(18,194,(i.1.2.2++List.replicate (ys.length+1-i.1.1) 0).map (CellD.i .u32))]⟩) (fun i=>ys.length-i.1.1) ⟨(0,0,[]),⟨Nat.zero_le _,pP 0,by decide,Lim.nil,rfl,by simp[val]⟩⟩ (aA ⟨rfl,rfl,rfl,rfl,rfl,trivial⟩ ⟨by rw[show(List.replicate (ys.length+1) (CellD.i .u32 0))=(([]:List Int)++List.replicate (ys.length+1-0) 0).map (CellD.i .u32) from by simp];rfl,trivial⟩ rfl) ?_
  rintro⟨⟨k,c,zs⟩,hI⟩
  replace hI:PInv ys xs k c zs:=hI
  have g1:=db hLys k
  have g2:=db hLxs k
  have g3:=hI.c0
  have g4:=hI.c1
  have g5:=hI.le
  have g6:=hI.len
  dsimp only
  refine ae<|ae<|ag ?_
  refine aS rfl (fun hc2=>?_) (fun hc2=>?_)
  ·have hk:k<ys.length:=by simp only[decide_eq_true_eq] at hc2;omega
   refine aB<|ae<|aP<|ae<|ag ?_
   refine ar (bK iV rfl rfl (by(first|omega|(simp;omega))) (jh _) rfl rfl) ?_
   refine ar (ci fl rfl (jV (i:=k) (by(first|omega|(simp;omega)))) rfl) ?_
   refine ar (bZ (c+(ys.getD k 0)) (nr (by(first|omega|(simp;omega))) (by(first|omega|(simp;omega)))) rfl) ?_
   refine ae<|ae<|ag ?_
   refine aS rfl (fun hc3=>?_) (fun hc3=>?_)
   ·have hkq:k<xs.length:=by simp only[decide_eq_true_eq] at hc3;omega
    have hS:c+ys.getD k 0+xs.getD k 0=c+ys.getD k 0+xs.getD k 0:=rfl
    have hb:c+ys.getD k 0+xs.getD k 0≤4294967295:=by omega
    refine ag ?_
    refine ar (bK iV rfl rfl (by(first|omega|(simp;omega))) (jh _) rfl rfl) ?_
    refine ar (ci fl rfl (jV (i:=k) (by(first|omega|(simp;omega)))) rfl) ?_
    refine ar (bZ ((c+(ys.getD k 0))+(xs.getD k 0)) (nr (by(first|omega|(simp;omega))) (by(first|omega|(simp;omega)))) rfl) ?_
    refine ae<|bz<|bQ 3<|aW (l8 (r:=(c+ys.getD k 0+xs.getD k 0)%1000000000) rfl rfl (by omega) (qX (by omega)) rfl) ?_
    refine aW (bk iV rfl rfl (by(first|omega|(simp;omega))) rfl) ?_
    refine iu (aY (us:=((zs++List.replicate (ys.length+1-k) 0).set k ((c+ys.getD k 0+xs.getD k 0)%1000000000)).map (CellD.i .u32)) fl rfl rfl rfl rfl (by simp;omega) (qN (by(first|omega|(simp;omega)))) rfl) ?_
    refine bD<|ag<|ar (jI (r:=(c+ys.getD k 0+xs.getD k 0)/1000000000) rfl rfl (by omega) (by rw[tJ (by omega)];exact r9 (by omega) (by omega)) rfl) ?_
    refine ag ?_
    refine ar (bZ ((k:Int)+1) (bm (by(first|omega|(simp;omega))) (by(first|omega|(simp;omega)))) rfl) ?_
    exact⟨⟨(k+1,(c+ys.getD k 0+xs.getD k 0)/1000000000,zs++[(c+ys.getD k 0+xs.getD k 0)%1000000000]),hI.step hLys hLxs hk hS⟩,aA ⟨rfl,rfl,rfl,rfl,by rw[show((k+1:Nat):Int)=(k:Int)+1 from by omega];rfl,trivial⟩ ⟨by rw[show ys.length+1-(k+1)=ys.length-k from by omega,←mq (m:=ys.length-k) (d:=(c+ys.getD k 0+xs.getD k 0)%1000000000) g6,show ys.length-k+1=ys.length+1-k from by omega];rfl,trivial⟩ rfl,by show ys.length-(k+1)<ys.length-k;omega⟩
   ·have hkq: ¬k<xs.length:=by simp only[decide_eq_false_iff_not] at hc3;omega
    have hq0:xs.getD k 0=0:=by rw[List.getD,uU (by omega)];rfl
    have hS:c+ys.getD k 0=c+ys.getD k 0+xs.getD k 0:=by omega
    refine aB<|ae<|bz<|bQ 3<|aW (l8 (r:=(c+ys.getD k 0)%1000000000) rfl rfl (by omega) (qX (by omega)) rfl) ?_
    refine aW (bk iV rfl rfl (by(first|omega|(simp;omega))) rfl) ?_
    refine iu (aY (us:=((zs++List.replicate (ys.length+1-k) 0).set k ((c+ys.getD k 0)%1000000000)).map (CellD.i .u32)) fl rfl rfl rfl rfl (by simp;omega) (qN (by(first|omega|(simp;omega)))) rfl) ?_
    refine bD<|ag<|ar (jI (r:=(c+ys.getD k 0)/1000000000) rfl rfl (by omega) (by rw[tJ (by omega)];exact r9 (by omega) (by omega)) rfl) ?_
    refine ag ?_
    refine ar (bZ ((k:Int)+1) (bm (by(first|omega|(simp;omega))) (by(first|omega|(simp;omega)))) rfl) ?_
    exact⟨⟨(k+1,(c+ys.getD k 0)/1000000000,zs++[(c+ys.getD k 0)%1000000000]),hI.step hLys hLxs hk hS⟩,aA ⟨rfl,rfl,rfl,rfl,by rw[show((k+1:Nat):Int)=(k:Int)+1 from by omega];rfl,trivial⟩ ⟨by rw[show ys.length+1-(k+1)=ys.length-k from by omega,←mq (m:=ys.length-k) (d:=(c+ys.getD k 0)%1000000000) g6,show ys.length-k+1=ys.length+1-k from by omega];rfl,trivial⟩ rfl,by show ys.length-(k+1)<ys.length-k;omega⟩
  ·have hk:k=ys.length:=by simp only[decide_eq_false_iff_not] at hc2;omega
   have hfin:(val xs+val ys:Int)=val ((zs++List.replicate (ys.length+1-k) 0).set ys.length c):=by rw[show ys.length+1-k=0+1 from by omega,mq (by omega)];simp only[List.replicate_zero,l9];rw[hI.done hk (by omega)];omega
   have hLf:Lim ((zs++List.replicate (ys.length+1-k) 0).set ys.length c):=(hI.L.append (Lim.zeros _)).set g3 (by omega)
   refine b7<|ae<|bz<|bQ 4 ?_
   refine aW (bk iV rfl rfl (by(first|omega|(simp;omega))) rfl) ?_
   refine iu (aY (us:=((zs++List.replicate (ys.length+1-k) 0).set ys.length c).map (CellD.i .u32)) fl rfl rfl rfl rfl (by simp;omega) (qN (by(first|omega|(simp;omega)))) rfl) ?_
   refine bD<|ae ?_
   refine vT (t:=5) (zs:=(zs++List.replicate (ys.length+1-k) 0).set ys.length c) (ys:=(zs++List.replicate (ys.length+1-k) 0).set ys.length c) rfl rfl (by first|omega|(simp;omega)|simp) (by omega) (by omega) (jY (by first|omega|(simp;omega)|simp)) ?_
   refine ag<|ac rfl (kK hLf (by simp;omega))<|a9 ?_
   rw[hfin]
   exact ah (ak aa)
 ·have hlt:ys.length≤xs.length:=by simp only[decide_eq_false_iff_not] at hc1;omega
  refine aB<|ae<|ag ?_
  refine ar (bZ ((xs.length:Int)+1) (bm (by(first|omega|(simp;omega))) (by(first|omega|(simp;omega)))) rfl) ?_
  refine DL.mk<|pD (kg (n:=xs.length+1) xm rfl rfl (by(first|omega|(simp;omega))) (by(first|omega|(simp;omega))) rfl) rfl<|eQ ?_
  refine ae<|ag<|ae<|ae<|ag<|aP<|bF (ι:={t:Nat×Int×List Int // PInv xs ys t.1 t.2.1 t.2.2}) (fun i=>⟨55,[(0,.v (.c (cM xs))),(1,.v (.c (cM ys))),(5,.o 18 (xs.length+1) (xs.length+1)),(6,.v (.c (.i .u32 i.1.2.1))),(7,.v (.c (.i .i64 (i.1.1:Int))))],[(18,194,(i.1.2.2++List.replicate (xs.length+1-i.1.1) 0).map (CellD.i .u32))]⟩) (fun i=>xs.length-i.1.1) ⟨(0,0,[]),⟨Nat.zero_le _,pP 0,by decide,Lim.nil,rfl,by simp[val]⟩⟩ (aA ⟨rfl,rfl,rfl,rfl,rfl,trivial⟩ ⟨by rw[show(List.replicate (xs.length+1) (CellD.i .u32 0))=(([]:List Int)++List.replicate (xs.length+1-0) 0).map (CellD.i .u32) from by simp];rfl,trivial⟩ rfl) ?_
  rintro⟨⟨k,c,zs⟩,hI⟩
  replace hI:PInv xs ys k c zs:=hI
  have g1:=db hLxs k
  have g2:=db hLys k
  have g3:=hI.c0
  have g4:=hI.c1
  have g5:=hI.le
  have g6:=hI.len
  dsimp only
  refine ae<|ae<|ag ?_
  refine aS rfl (fun hc4=>?_) (fun hc4=>?_)
  ·have hk:k<xs.length:=by simp only[decide_eq_true_eq] at hc4;omega
   refine aB<|ae<|aP<|ae<|ag ?_
   refine ar (bK iV rfl rfl (by(first|omega|(simp;omega))) (jh _) rfl rfl) ?_
   refine ar (ci fl rfl (jV (i:=k) (by(first|omega|(simp;omega)))) rfl) ?_
   refine ar (bZ (c+(xs.getD k 0)) (nr (by(first|omega|(simp;omega))) (by(first|omega|(simp;omega)))) rfl) ?_
   refine ae<|ae<|ag ?_
   refine aS rfl (fun hc5=>?_) (fun hc5=>?_)
   ·have hkq:k<ys.length:=by simp only[decide_eq_true_eq] at hc5;omega
    have hS:c+xs.getD k 0+ys.getD k 0=c+xs.getD k 0+ys.getD k 0:=rfl
    have hb:c+xs.getD k 0+ys.getD k 0≤4294967295:=by omega
    refine ag ?_
    refine ar (bK iV rfl rfl (by(first|omega|(simp;omega))) (jh _) rfl rfl) ?_
    refine ar (ci fl rfl (jV (i:=k) (by(first|omega|(simp;omega)))) rfl) ?_
    refine ar (bZ ((c+(xs.getD k 0))+(ys.getD k 0)) (nr (by(first|omega|(simp;omega))) (by(first|omega|(simp;omega)))) rfl) ?_
    refine ae<|bz<|bQ 3<|aW (l8 (r:=(c+xs.getD k 0+ys.getD k 0)%1000000000) rfl rfl (by omega) (qX (by omega)) rfl) ?_
    refine aW (bk iV rfl rfl (by(first|omega|(simp;omega))) rfl) ?_
    refine iu (aY (us:=((zs++List.replicate (xs.length+1-k) 0).set k ((c+xs.getD k 0+ys.getD k 0)%1000000000)).map (CellD.i .u32)) fl rfl rfl rfl rfl (by simp;omega) (qN (by(first|omega|(simp;omega)))) rfl) ?_
    refine bD<|ag<|ar (jI (r:=(c+xs.getD k 0+ys.getD k 0)/1000000000) rfl rfl (by omega) (by rw[tJ (by omega)];exact r9 (by omega) (by omega)) rfl) ?_
    refine ag ?_
    refine ar (bZ ((k:Int)+1) (bm (by(first|omega|(simp;omega))) (by(first|omega|(simp;omega)))) rfl) ?_
    exact⟨⟨(k+1,(c+xs.getD k 0+ys.getD k 0)/1000000000,zs++[(c+xs.getD k 0+ys.getD k 0)%1000000000]),hI.step hLxs hLys hk hS⟩,aA ⟨rfl,rfl,rfl,rfl,by rw[show((k+1:Nat):Int)=(k:Int)+1 from by omega];rfl,trivial⟩ ⟨by rw[show xs.length+1-(k+1)=xs.length-k from by omega,←mq (m:=xs.length-k) (d:=(c+xs.getD k 0+ys.getD k 0)%1000000000) g6,show xs.length-k+1=xs.length+1-k from by omega];rfl,trivial⟩ rfl,by show xs.length-(k+1)<xs.length-k;omega⟩
   ·have hkq: ¬k<ys.length:=by simp only[decide_eq_false_iff_not] at hc5;omega
    have hq0:ys.getD k 0=0:=by rw[List.getD,uU (by omega)];rfl
    have hS:c+xs.getD k 0=c+xs.getD k 0+ys.getD k 0:=by omega
    refine aB<|ae<|bz<|bQ 3<|aW (l8 (r:=(c+xs.getD k 0)%1000000000) rfl rfl (by omega) (qX (by omega)) rfl) ?_
    refine aW (bk iV rfl rfl (by(first|omega|(simp;omega))) rfl) ?_
    refine iu (aY (us:=((zs++List.replicate (xs.length+1-k) 0).set k ((c+xs.getD k 0)%1000000000)).map (CellD.i .u32)) fl rfl rfl rfl rfl (by simp;omega) (qN (by(first|omega|(simp;omega)))) rfl) ?_
    refine bD<|ag<|ar (jI (r:=(c+xs.getD k 0)/1000000000) rfl rfl (by omega) (by rw[tJ (by omega)];exact r9 (by omega) (by omega)) rfl) ?_
    refine ag ?_
    refine ar (bZ ((k:Int)+1) (bm (by(first|omega|(simp;omega))) (by(first|omega|(simp;omega)))) rfl) ?_
    exact⟨⟨(k+1,(c+xs.getD k 0)/1000000000,zs++[(c+xs.getD k 0)%1000000000]),hI.step hLxs hLys hk hS⟩,aA ⟨rfl,rfl,rfl,rfl,by rw[show((k+1:Nat):Int)=(k:Int)+1 from by omega];rfl,trivial⟩ ⟨by rw[show xs.length+1-(k+1)=xs.length-k from by omega,←mq (m:=xs.length-k) (d:=(c+xs.getD k 0)%1000000000) g6,show xs.length-k+1=xs.length+1-k from by omega];rfl,trivial⟩ rfl,by show xs.length-(k+1)<xs.length-k;omega⟩
  ·have hk:k=xs.length:=by simp only[decide_eq_false_iff_not] at hc4;omega
   have hfin:(val xs+val ys:Int)=val ((zs++List.replicate (xs.length+1-k) 0).set xs.length c):=by rw[show xs.length+1-k=0+1 from by omega,mq (by omega)];simp only[List.replicate_zero,l9];rw[hI.done hk (by omega)]
   have hLf:Lim ((zs++List.replicate (xs.length+1-k) 0).set xs.length c):=(hI.L.append (Lim.zeros _)).set g3 (by omega)
   refine b7<|ae<|bz<|bQ 4 ?_
   refine aW (bk iV rfl rfl (by(first|omega|(simp;omega))) rfl) ?_
   refine iu (aY (us:=((zs++List.replicate (xs.length+1-k) 0).set xs.length c).map (CellD.i .u32)) fl rfl rfl rfl rfl (by simp;omega) (qN (by(first|omega|(simp;omega)))) rfl) ?_
   refine bD<|ae ?_
   refine vT (t:=5) (zs:=(zs++List.replicate (xs.length+1-k) 0).set xs.length c) (ys:=(zs++List.replicate (xs.length+1-k) 0).set xs.length c) rfl rfl (by first|omega|(simp;omega)|simp) (by omega) (by omega) (jY (by first|omega|(simp;omega)|simp)) ?_
   refine ag<|ac rfl (kK hLf (by simp;omega))<|a9 ?_
   rw[hfin]
   exact ah (ak aa)
theorem Lx (hLxs:Lim xs) (hLys:Lim ys) (hn:xs.length≤100000000) (hlen:ys.length≤xs.length) (hle:val ys≤val xs):Ok Tryz.prog 283 [.c (cM xs),.c (cM ys)] [.c (cL (val xs-val ys))]:=by
 refine ex Tryz.func283 45 [.tmp 4] rfl<|ae<|ag<|ae<|ag ?_
 refine DL.mk<|pD (kg (n:=xs.length) xm rfl rfl (by(first|omega|(simp;omega))) (by(first|omega|(simp;omega))) rfl) rfl<|eQ ?_
 refine ae<|ag<|ae<|ae<|ag<|aP<|bF (ι:={t:Nat×Int×List Int // SInv xs ys t.1 t.2.1 t.2.2}) (fun i=>⟨45,[(0,.v (.c (cM xs))),(1,.v (.c (cM ys))),(5,.o 11 xs.length xs.length),(6,.v (.c (.i .u32 i.1.2.1))),(7,.v (.c (.i .i64 (i.1.1:Int))))],[(11,194,(i.1.2.2++List.replicate (xs.length-i.1.1) 0).map (CellD.i .u32))]⟩) (fun i=>xs.length-i.1.1) ⟨(0,0,[]),⟨Nat.zero_le _,pP 0,by decide,Lim.nil,rfl,by simp[val]⟩⟩ (aA ⟨rfl,rfl,rfl,rfl,rfl,trivial⟩ ⟨by rw[show(List.replicate xs.length (CellD.i .u32 0))=(([]:List Int)++List.replicate (xs.length-0) 0).map (CellD.i .u32) from by simp];rfl,trivial⟩ rfl) ?_
 rintro⟨⟨k,c,zs⟩,hI⟩
 replace hI:SInv xs ys k c zs:=hI
 have g1:=db hLxs k
 have g2:=db hLys k
 have g3:=hI.c0
 have g4:=hI.c1
 have g5:=hI.le
 have g6:=hI.len
 dsimp only
 refine ae<|ae<|ag ?_
 refine aS rfl (fun hc1=>?_) (fun hc1=>?_)
 ·have hk:k<xs.length:=by simp only[decide_eq_true_eq] at hc1;omega
  refine aB<|ae<|aP<|ae<|ag ?_
  refine ar (bK iV rfl rfl (by(first|omega|(simp;omega))) (jh _) rfl rfl) ?_
  refine ar (ci fl rfl (jV (i:=k) (by(first|omega|(simp;omega)))) rfl) ?_
  refine ar (bZ ((xs.getD k 0)+1000000000) (nr (by(first|omega|(simp;omega))) (by(first|omega|(simp;omega)))) rfl) ?_
  refine ar (bZ (((xs.getD k 0)+1000000000)-c) (qv (by(first|omega|(simp;omega))) (by(first|omega|(simp;omega)))) rfl) ?_
  refine ae<|ae<|ag ?_
  refine aS rfl (fun hc2=>?_) (fun hc2=>?_)
  ·have hkq:k<ys.length:=by simp only[decide_eq_true_eq] at hc2;omega
   refine ag ?_
   refine ar (bK iV rfl rfl (by(first|omega|(simp;omega))) (jh _) rfl rfl) ?_
   refine ar (ci fl rfl (jV (i:=k) (by(first|omega|(simp;omega)))) rfl) ?_
   refine ar (bZ ((((xs.getD k 0)+1000000000)-c)-(ys.getD k 0)) (qv (by(first|omega|(simp;omega))) (by(first|omega|(simp;omega)))) rfl) ?_
   refine ae<|ag<|ae<|ae<|ag ?_
   refine aS rfl (fun hc3=>?_) (fun hc3=>?_)
   ·simp only[decide_eq_true_eq] at hc3
    have hd1:0≤xs.getD k 0+1000000000-c-ys.getD k 0-1000000000:=by omega
    have hd2:xs.getD k 0+1000000000-c-ys.getD k 0-1000000000<1000000000:=by omega
    have hd3:(0:Int)≤0:=by omega
    have hd4:(0:Int)≤1:=by omega
    have hdS:xs.getD k 0+1000000000-c-ys.getD k 0-1000000000-1000000000*0=xs.getD k 0-c-ys.getD k 0:=by omega
    refine ag ?_
    refine ar (bZ (((((xs.getD k 0)+1000000000)-c)-(ys.getD k 0))-1000000000) (qv (by(first|omega|(simp;omega))) (by(first|omega|(simp;omega)))) rfl) ?_
    refine bz<|bQ 3 ?_
    refine aW (bk iV rfl rfl (by(first|omega|(simp;omega))) rfl) ?_
    refine iu (aY (us:=((zs++List.replicate (xs.length-k) 0).set k (((((xs.getD k 0)+1000000000)-c)-(ys.getD k 0))-1000000000)).map (CellD.i .u32)) fl rfl rfl rfl rfl (by simp;omega) (qN (by(first|omega|(simp;omega)))) rfl) ?_
    refine bD<|ag ?_
    refine ar (bZ ((k:Int)+1) (bm (by(first|omega|(simp;omega))) (by(first|omega|(simp;omega)))) rfl) ?_
    exact⟨⟨(k+1,0,zs++[xs.getD k 0+1000000000-c-ys.getD k 0-1000000000]),hI.step hk hd1 hd2 hd3 hd4 hdS⟩,aA ⟨rfl,rfl,rfl,rfl,by rw[show((k+1:Nat):Int)=(k:Int)+1 from by omega];rfl,trivial⟩ ⟨by rw[show xs.length-(k+1)=xs.length-k-1 from by omega,←mq (m:=xs.length-k-1) (d:=xs.getD k 0+1000000000-c-ys.getD k 0-1000000000) g6,show xs.length-k-1+1=xs.length-k from by omega];rfl,trivial⟩ rfl,by show xs.length-(k+1)<xs.length-k;omega⟩
   ·simp only[decide_eq_false_iff_not] at hc3
    have hd1:0≤xs.getD k 0+1000000000-c-ys.getD k 0:=by omega
    have hd2:xs.getD k 0+1000000000-c-ys.getD k 0<1000000000:=by omega
    have hd3:(0:Int)≤1:=by omega
    have hd4:(1:Int)≤1:=by omega
    have hdS:xs.getD k 0+1000000000-c-ys.getD k 0-1000000000*1=xs.getD k 0-c-ys.getD k 0:=by omega
    refine aB<|bz<|bQ 3 ?_
    refine aW (bk iV rfl rfl (by(first|omega|(simp;omega))) rfl) ?_
    refine iu (aY (us:=((zs++List.replicate (xs.length-k) 0).set k ((((xs.getD k 0)+1000000000)-c)-(ys.getD k 0))).map (CellD.i .u32)) fl rfl rfl rfl rfl (by simp;omega) (qN (by(first|omega|(simp;omega)))) rfl) ?_
    refine bD<|ag ?_
    refine ar (bZ ((k:Int)+1) (bm (by(first|omega|(simp;omega))) (by(first|omega|(simp;omega)))) rfl) ?_
    exact⟨⟨(k+1,1,zs++[xs.getD k 0+1000000000-c-ys.getD k 0]),hI.step hk hd1 hd2 hd3 hd4 hdS⟩,aA ⟨rfl,rfl,rfl,rfl,by rw[show((k+1:Nat):Int)=(k:Int)+1 from by omega];rfl,trivial⟩ ⟨by rw[show xs.length-(k+1)=xs.length-k-1 from by omega,←mq (m:=xs.length-k-1) (d:=xs.getD k 0+1000000000-c-ys.getD k 0) g6,show xs.length-k-1+1=xs.length-k from by omega];rfl,trivial⟩ rfl,by show xs.length-(k+1)<xs.length-k;omega⟩
  ·have hkq: ¬k<ys.length:=by simp only[decide_eq_false_iff_not] at hc2;omega
   have hq0:ys.getD k 0=0:=by rw[List.getD,uU (by omega)];rfl
   refine aB<|ae<|ag<|ae<|ae<|ag ?_
   refine aS rfl (fun hc4=>?_) (fun hc4=>?_)
   ·simp only[decide_eq_true_eq] at hc4
    have hd1:0≤xs.getD k 0+1000000000-c-1000000000:=by omega
    have hd2:xs.getD k 0+1000000000-c-1000000000<1000000000:=by omega
    have hd3:(0:Int)≤0:=by omega
    have hd4:(0:Int)≤1:=by omega
    have hdS:xs.getD k 0+1000000000-c-1000000000-1000000000*0=xs.getD k 0-c-ys.getD k 0:=by omega
    refine ag ?_
    refine ar (bZ ((((xs.getD k 0)+1000000000)-c)-1000000000) (qv (by(first|omega|(simp;omega))) (by(first|omega|(simp;omega)))) rfl) ?_
    refine bz<|bQ 3 ?_
    refine aW (bk iV rfl rfl (by(first|omega|(simp;omega))) rfl) ?_
    refine iu (aY (us:=((zs++List.replicate (xs.length-k) 0).set k ((((xs.getD k 0)+1000000000)-c)-1000000000)).map (CellD.i .u32)) fl rfl rfl rfl rfl (by simp;omega) (qN (by(first|omega|(simp;omega)))) rfl) ?_
    refine bD<|ag ?_
    refine ar (bZ ((k:Int)+1) (bm (by(first|omega|(simp;omega))) (by(first|omega|(simp;omega)))) rfl) ?_
    exact⟨⟨(k+1,0,zs++[xs.getD k 0+1000000000-c-1000000000]),hI.step hk hd1 hd2 hd3 hd4 hdS⟩,aA ⟨rfl,rfl,rfl,rfl,by rw[show((k+1:Nat):Int)=(k:Int)+1 from by omega];rfl,trivial⟩ ⟨by rw[show xs.length-(k+1)=xs.length-k-1 from by omega,←mq (m:=xs.length-k-1) (d:=xs.getD k 0+1000000000-c-1000000000) g6,show xs.length-k-1+1=xs.length-k from by omega];rfl,trivial⟩ rfl,by show xs.length-(k+1)<xs.length-k;omega⟩
   ·simp only[decide_eq_false_iff_not] at hc4
    have hd1:0≤xs.getD k 0+1000000000-c:=by omega
    have hd2:xs.getD k 0+1000000000-c<1000000000:=by omega
    have hd3:(0:Int)≤1:=by omega
    have hd4:(1:Int)≤1:=by omega
    have hdS:xs.getD k 0+1000000000-c-1000000000*1=xs.getD k 0-c-ys.getD k 0:=by omega
    refine aB<|bz<|bQ 3 ?_
    refine aW (bk iV rfl rfl (by(first|omega|(simp;omega))) rfl) ?_
    refine iu (aY (us:=((zs++List.replicate (xs.length-k) 0).set k (((xs.getD k 0)+1000000000)-c)).map (CellD.i .u32)) fl rfl rfl rfl rfl (by simp;omega) (qN (by(first|omega|(simp;omega)))) rfl) ?_
    refine bD<|ag ?_
    refine ar (bZ ((k:Int)+1) (bm (by(first|omega|(simp;omega))) (by(first|omega|(simp;omega)))) rfl) ?_
    exact⟨⟨(k+1,1,zs++[xs.getD k 0+1000000000-c]),hI.step hk hd1 hd2 hd3 hd4 hdS⟩,aA ⟨rfl,rfl,rfl,rfl,by rw[show((k+1:Nat):Int)=(k:Int)+1 from by omega];rfl,trivial⟩ ⟨by rw[show xs.length-(k+1)=xs.length-k-1 from by omega,←mq (m:=xs.length-k-1) (d:=xs.getD k 0+1000000000-c) g6,show xs.length-k-1+1=xs.length-k from by omega];rfl,trivial⟩ rfl,by show xs.length-(k+1)<xs.length-k;omega⟩
 ·have hk:k=xs.length:=by simp only[decide_eq_false_iff_not] at hc1;omega
  have hfin:val xs-val ys=val (zs++List.replicate (xs.length-k) 0):=by rw[show xs.length-k=0 from by omega];simp only[List.replicate_zero,l9];rw[hI.done hk hlen hle]
  have hLf:Lim (zs++List.replicate (xs.length-k) 0):=hI.L.append (Lim.zeros _)
  refine b7<|ae ?_
  refine vT (t:=5) (zs:=zs++List.replicate (xs.length-k) 0) (ys:=zs++List.replicate (xs.length-k) 0) rfl rfl (by first|omega|(simp;omega)|simp) (by omega) (by omega) (jY (by first|omega|(simp;omega)|simp)) ?_
  refine ag<|ac rfl (kK hLf (by simp;omega))<|a9 ?_
  rw[hfin]
  exact ah (ak aa)
end Go.Proofs.YtegpmhlfjkhjmaaGreat
