/-The types of this program,as the walks ask of them. -/
import Derived.Test.YtkfgimjmgfoneaaGreatDoorVfE
import Derived.Test.YtkfgimjmgfoneaaGreatDoorProg
namespace Go.Proofs.YtkfgimjmgfoneaaGreatDoor
open Go Go.RowKit
variable {ops:Array Oper}{B:BF}{z:CellD}{Q:Exit→St→Prop}{S a b c d m r u v x y:Int}{ki:IntKind}{tm:List (Nat×DV)}{bx nb:List (Nat×TypeId×List CellD)}{cs:List CellD}{p q rs xs ys zs:List Int}{hs sd:List Nat}{l os pre tail:List Oper}{by_ i id j k n:Nat}{op:Op}{P:Program}{s:SA}{σ:St}{K:St→Prop}{T:TF}{U e t1 t2 xt yt:TypeId}
variable {ty:TypeId}{pos:String}{af:Array Edge}{g:Option (Nat×Bool)}{dst:Option Nat}
theorem eG:type_of% @Ok.fn:=@Ok.fn
theorem gA:type_of% @Int.tmod_eq_emod_of_nonneg:=@Int.tmod_eq_emod_of_nonneg
theorem lb:type_of% @List.forall_mem_cons:=@List.forall_mem_cons
theorem nv:type_of% @Int.tdiv_eq_ediv_of_nonneg:=@Int.tdiv_eq_ediv_of_nonneg
theorem qF:type_of% @Int.mul_zero:=@Int.mul_zero
theorem sy:type_of% @Int.fdiv_eq_ediv_of_nonneg:=@Int.fdiv_eq_ediv_of_nonneg
theorem wy:type_of% @Int.mul_ediv_add_emod:=@Int.mul_ediv_add_emod
theorem cZ:Tryz.prog.follows .mixedOrders=true:=by kernel_rfl
theorem fi:Tryz.prog.underlying 4=some .bool:=by kernel_rfl
theorem nj (m:Nat) (hpre:l.take m=pre) (htail:l.drop m=tail)
 (h:dq Tryz.prog l.toArray [] pre ⟨σ,[],[]⟩ fun s=>dl Tryz.prog l.toArray tail s.merge (Q .normal)) (hc:Cu l.toArray m σ.n=true:=by kernel_rfl):Dw Tryz.prog (.region id l.toArray true) σ Q:=pC m [] cZ hc hpre htail h
theorem di:mx Tryz.prog 154=some (84,20,320,[.b false,.s 0 [],.b false,.s 0 [],.b false,.s 0 [],.b false,.s 0 [],.b false,.s 0 [],.b false,.s 0 [],.b false,.s 0 [],.b false,.s 0 [],.b false,.s 0 [],.b false,.s 0 []]):=by kernel_rfl
theorem B4:mx Tryz.prog 171=some (167,8,128,[.b false,.s 0 [],.b false,.s 0 [],.b false,.s 0 [],.b false,.s 0 []]):=by kernel_rfl
theorem KL:mx Tryz.prog 27=some (42,8,64,[.i .i64 0,.i .i64 0,.i .i64 0,.i .i64 0,.i .i64 0,.i .i64 0,.i .i64 0,.i .i64 0]):=by kernel_rfl
theorem LM:mx Tryz.prog 29=some (63,4,56,[.e (.string ⟨#[]⟩),.i .i64 0,.i .i64 0,.s 0 []]):=by kernel_rfl
theorem SK:mx Tryz.prog 38=some (24,5,56,[.i .i64 0,.i .i64 0,.i .i64 0,.s 0 [],.i .i64 0]):=by kernel_rfl
theorem Rt:mx Tryz.prog 57=some (9,1,16,[.e (.string ⟨#[]⟩)]):=by kernel_rfl
theorem RJ:mx Tryz.prog 58=some (3,1,8,[.i .i64 0]):=by kernel_rfl
theorem dS:mx Tryz.prog 59=some (86,66,1040,[.b false,.b false,.s 0 [],.b false,.s 0 [],.b false,.s 0 [],.b false,.s 0 [],.b false,.s 0 [],.b false,.s 0 [],.b false,.s 0 [],.b false,.s 0 [],.b false,.s 0 [],.b false,.s 0 [],.b false,.s 0 [],.b false,.s 0 [],.b false,.b false,.s 0 [],.b false,.s 0 [],.b false,.s 0 [],.b false,.s 0 [],.b false,.s 0 [],.b false,.s 0 [],.b false,.s 0 [],.b false,.s 0 [],.b false,.s 0 [],.b false,.s 0 [],.b false,.s 0 [],.b false,.s 0 [],.b false,.s 0 [],.b false,.s 0 [],.b false,.s 0 [],.b false,.s 0 [],.b false,.s 0 [],.b false,.s 0 [],.b false,.s 0 [],.b false,.s 0 []]):=by kernel_rfl
theorem ua:mx Tryz.prog 66=some (165,1,4,[.i .u32 0]):=by kernel_rfl
theorem DY:yR Tryz.prog 128 6=some 6:=by kernel_rfl
theorem NO:yR Tryz.prog 24 3=some 3:=by kernel_rfl
theorem GF:yR Tryz.prog 31 1=some 1:=by kernel_rfl
theorem Gt:yR Tryz.prog 42 0=some 0:=by kernel_rfl
theorem IZ:yR Tryz.prog 63 0=some 0:=by kernel_rfl
theorem NH:yR Tryz.prog 63 1=some 1:=by kernel_rfl
theorem Ce:yR Tryz.prog 73 2=some 8:=by kernel_rfl
theorem Ih:yR Tryz.prog 86 0=some 0:=by kernel_rfl
theorem tz:yR Tryz.prog 86 2=some 13:=by kernel_rfl
theorem Ja:yR Tryz.prog 86 3=some 25:=by kernel_rfl
theorem Dl:yR Tryz.prog 86 4=some 26:=by kernel_rfl
theorem qt:yR Tryz.prog 86 5=some 46:=by kernel_rfl
theorem xP:B9 Tryz.prog 167=some [(0,4),(4,4)]:=by kernel_rfl
theorem BO:B9 Tryz.prog 211=some [(0,4),(4,4),(8,4)]:=by kernel_rfl
theorem Ac:B9 Tryz.prog 217=some [(0,1),(1,12)]:=by kernel_rfl
theorem QX:B9 Tryz.prog 241=some [(0,4),(4,4),(8,4),(12,4),(16,4),(20,4)]:=by kernel_rfl
theorem GU:B9 Tryz.prog 31=some [(0,1),(1,1)]:=by kernel_rfl
theorem Ke:B9 Tryz.prog 61=some [(0,1)]:=by kernel_rfl
theorem RQ:B9 Tryz.prog 63=some [(0,1),(1,1),(2,1),(3,1)]:=by kernel_rfl
theorem Ig:B9 Tryz.prog 68=some [(0,1),(1,1)]:=by kernel_rfl
theorem t7:B9 Tryz.prog 70=some [(0,2),(2,2)]:=by kernel_rfl
theorem NQ:B9 Tryz.prog 73=some [(0,4),(4,4),(8,4)]:=by kernel_rfl
theorem LA:B9 Tryz.prog 82=some [(0,4),(4,4),(8,4)]:=by kernel_rfl
theorem OD:B9 Tryz.prog 84=some [(0,4),(4,4),(8,4),(12,4),(16,4)]:=by kernel_rfl
theorem Ms:B9 Tryz.prog 86=some [(0,1),(1,12),(13,12),(25,1),(26,20),(46,20)]:=by kernel_rfl
theorem Ej:nu Tryz.prog 126=some 2:=by kernel_rfl
theorem ei:nu Tryz.prog 154=some 20:=by kernel_rfl
theorem tX:nu Tryz.prog 171=some 8:=by kernel_rfl
theorem Ix:nu Tryz.prog 22=some 1:=by kernel_rfl
theorem Qm:nu Tryz.prog 26=some 6:=by kernel_rfl
theorem CF:nu Tryz.prog 27=some 8:=by kernel_rfl
theorem Fd:nu Tryz.prog 29=some 4:=by kernel_rfl
theorem Sx:nu Tryz.prog 38=some 5:=by kernel_rfl
theorem Hw:nu Tryz.prog 53=some 7:=by kernel_rfl
theorem Sf:nu Tryz.prog 57=some 1:=by kernel_rfl
theorem Rc:nu Tryz.prog 58=some 1:=by kernel_rfl
theorem bY:nu Tryz.prog 59=some 66:=by kernel_rfl
theorem gw:nu Tryz.prog 66=some 1:=by kernel_rfl
theorem Ks:Tryz.prog.underlying 9=some .string:=by kernel_rfl
theorem M5:kM Tryz.prog 126=some (false,1):=by kernel_rfl
theorem IS:kM Tryz.prog 128=some (true,7):=by kernel_rfl
theorem dH:kM Tryz.prog 165=some (false,1):=by kernel_rfl
theorem oW:kM Tryz.prog 167=some (true,8):=by kernel_rfl
theorem Ik:kM Tryz.prog 2=some (false,1):=by kernel_rfl
theorem fR:kM Tryz.prog 211=some (true,12):=by kernel_rfl
theorem oh:kM Tryz.prog 217=some (true,13):=by kernel_rfl
theorem SH:kM Tryz.prog 22=some (false,1):=by kernel_rfl
theorem QB:kM Tryz.prog 241=some (true,24):=by kernel_rfl
theorem K6:kM Tryz.prog 29=some (false,1):=by kernel_rfl
theorem EI:kM Tryz.prog 3=some (false,1):=by kernel_rfl
theorem Gb:kM Tryz.prog 31=some (true,2):=by kernel_rfl
theorem iX:kM Tryz.prog 4=some (false,1):=by kernel_rfl
theorem Io:kM Tryz.prog 42=some (true,8):=by kernel_rfl
theorem LK:kM Tryz.prog 54=some (false,1):=by kernel_rfl
theorem RA:kM Tryz.prog 56=some (true,6):=by kernel_rfl
theorem rA:kM Tryz.prog 61=some (true,1):=by kernel_rfl
theorem J0:kM Tryz.prog 63=some (true,4):=by kernel_rfl
theorem d6:kM Tryz.prog 68=some (true,2):=by kernel_rfl
theorem bZ:kM Tryz.prog 70=some (true,4):=by kernel_rfl
theorem sf:kM Tryz.prog 73=some (true,12):=by kernel_rfl
theorem ud:kM Tryz.prog 82=some (true,12):=by kernel_rfl
theorem bm:kM Tryz.prog 84=some (true,20):=by kernel_rfl
theorem aZ:kM Tryz.prog 86=some (true,66):=by kernel_rfl
theorem Sh:kM Tryz.prog 9=some (false,1):=by kernel_rfl
theorem f7:Tryz.prog.underlying 125=some (.int .u64):=by kernel_rfl
theorem gO:Tryz.prog.underlying 165=some (.int .u32):=by kernel_rfl
theorem qB:Tryz.prog.underlying 2=some (.int .i64):=by kernel_rfl
theorem Cm:Tryz.prog.underlying 5=some (.int .u8):=by kernel_rfl
theorem x7:Tryz.prog.underlying 54=some (.int .i8):=by kernel_rfl
theorem vi:t6 Tryz.prog 167=some [.b false,.s 0 [],.b false,.s 0 [],.b false,.s 0 [],.b false,.s 0 []]:=by kernel_rfl
theorem xr:t6 Tryz.prog 211=some [.b false,.s 0 [],.b false,.s 0 [],.b false,.s 0 [],.b false,.s 0 [],.b false,.s 0 [],.b false,.s 0 []]:=by kernel_rfl
theorem xF:t6 Tryz.prog 217=some [.i .i64 0,.b false,.s 0 [],.b false,.s 0 [],.b false,.s 0 [],.b false,.s 0 [],.b false,.s 0 [],.b false,.s 0 []]:=by kernel_rfl
theorem SB:t6 Tryz.prog 24=some [.i .i64 0,.i .i64 0,.i .i64 0,.s 0 [],.i .i64 0]:=by kernel_rfl
theorem MV:t6 Tryz.prog 241=some [.b false,.s 0 [],.b false,.s 0 [],.b false,.s 0 [],.b false,.s 0 [],.b false,.s 0 [],.b false,.s 0 [],.b false,.s 0 [],.b false,.s 0 [],.b false,.s 0 [],.b false,.s 0 [],.b false,.s 0 [],.b false,.s 0 []]:=by kernel_rfl
theorem G9:t6 Tryz.prog 31=some [.i .i64 0,.s 0 []]:=by kernel_rfl
theorem SU:t6 Tryz.prog 42=some [.i .i64 0,.i .i64 0,.i .i64 0,.i .i64 0,.i .i64 0,.i .i64 0,.i .i64 0,.i .i64 0]:=by kernel_rfl
theorem Su:t6 Tryz.prog 56=some [.i .u8 0,.i .u8 0,.i .u8 0,.s 0 [],.i .i8 0,.i .i8 0]:=by kernel_rfl
theorem FT:t6 Tryz.prog 61=some [.s 0 []]:=by kernel_rfl
theorem NU:t6 Tryz.prog 63=some [.e (.string ⟨#[]⟩),.i .i64 0,.i .i64 0,.s 0 []]:=by kernel_rfl
theorem CK:t6 Tryz.prog 68=some [.b false,.s 0 []]:=by kernel_rfl
theorem sD:t6 Tryz.prog 70=some [.b false,.s 0 [],.b false,.s 0 []]:=by kernel_rfl
theorem Ou:t6 Tryz.prog 73=some [.b false,.s 0 [],.b false,.s 0 [],.b false,.s 0 [],.b false,.s 0 [],.b false,.s 0 [],.b false,.s 0 []]:=by kernel_rfl
theorem G3:t6 Tryz.prog 82=some [.b false,.s 0 [],.b false,.s 0 [],.b false,.s 0 [],.b false,.s 0 [],.b false,.s 0 [],.b false,.s 0 []]:=by kernel_rfl
theorem MA:t6 Tryz.prog 84=some [.b false,.s 0 [],.b false,.s 0 [],.b false,.s 0 [],.b false,.s 0 [],.b false,.s 0 [],.b false,.s 0 [],.b false,.s 0 [],.b false,.s 0 [],.b false,.s 0 [],.b false,.s 0 []]:=by kernel_rfl
theorem CA:t6 Tryz.prog 86=some [.b false,.b false,.s 0 [],.b false,.s 0 [],.b false,.s 0 [],.b false,.s 0 [],.b false,.s 0 [],.b false,.s 0 [],.b false,.s 0 [],.b false,.s 0 [],.b false,.s 0 [],.b false,.s 0 [],.b false,.s 0 [],.b false,.s 0 [],.b false,.b false,.s 0 [],.b false,.s 0 [],.b false,.s 0 [],.b false,.s 0 [],.b false,.s 0 [],.b false,.s 0 [],.b false,.s 0 [],.b false,.s 0 [],.b false,.s 0 [],.b false,.s 0 [],.b false,.s 0 [],.b false,.s 0 [],.b false,.s 0 [],.b false,.s 0 [],.b false,.s 0 [],.b false,.s 0 [],.b false,.s 0 [],.b false,.s 0 [],.b false,.s 0 [],.b false,.s 0 []]:=by kernel_rfl
def dE {α:Type}(U n:Nat) (x y:Option α):Option α:=bif Nat.blt U n then x else y
def fC {α:Type}(U n:Nat) (x:α):Option α:=bif Nat.beq U n then some x else none
def rI (U n:Nat) (x:Option Nat):Option Nat:=bif Nat.beq U n then x else none
def iZ:List Nat→Nat→Option Nat
 |[],_=>none
 |x::_,0=>some x
 |_::l,i+1=>iZ l i
def Te (U:Nat):Option (Bool×Nat):=dE U 62 (dE U 30 (dE U 12 (dE U 6 (dE U 4 (dE U 3 (fC U 2 (false,1)) (fC U 3 (false,1))) (dE U 5 (fC U 4 (false,1)) (fC U 5 (false,1)))) (dE U 10 (dE U 9 (fC U 6 (false,1)) (fC U 9 (false,1))) (dE U 11 (fC U 10 (false,1)) (fC U 11 (false,1))))) (dE U 25 (dE U 22 (dE U 21 (fC U 12 (false,1)) (fC U 21 (false,1))) (dE U 24 (fC U 22 (false,1)) (fC U 24 (true,5)))) (dE U 27 (dE U 26 (fC U 25 (false,1)) (fC U 26 (false,1))) (dE U 29 (fC U 27 (false,1)) (fC U 29 (false,1)))))) (dE U 53 (dE U 42 (dE U 34 (dE U 31 (fC U 30 (true,2)) (fC U 31 (true,2))) (dE U 38 (fC U 34 (false,1)) (fC U 38 (false,1)))) (dE U 49 (dE U 48 (fC U 42 (true,8)) (fC U 48 (false,1))) (dE U 52 (fC U 49 (true,2)) (fC U 52 (false,1))))) (dE U 57 (dE U 55 (dE U 54 (fC U 53 (false,1)) (fC U 54 (false,1))) (dE U 56 (fC U 55 (true,6)) (fC U 56 (true,6)))) (dE U 59 (dE U 58 (fC U 57 (false,1)) (fC U 58 (false,1))) (dE U 60 (fC U 59 (false,1)) (dE U 61 (fC U 60 (true,1)) (fC U 61 (true,1)))))))) (dE U 128 (dE U 81 (dE U 69 (dE U 66 (dE U 63 (fC U 62 (true,4)) (fC U 63 (true,4))) (dE U 68 (fC U 66 (false,1)) (fC U 68 (true,2)))) (dE U 72 (dE U 70 (fC U 69 (true,4)) (fC U 70 (true,4))) (dE U 73 (fC U 72 (true,12)) (fC U 73 (true,12))))) (dE U 85 (dE U 83 (dE U 82 (fC U 81 (true,12)) (fC U 82 (true,12))) (dE U 84 (fC U 83 (true,20)) (fC U 84 (true,20)))) (dE U 90 (dE U 86 (fC U 85 (true,66)) (fC U 86 (true,66))) (dE U 125 (fC U 90 (false,1)) (dE U 126 (fC U 125 (false,1)) (fC U 126 (false,1))))))) (dE U 211 (dE U 167 (dE U 165 (dE U 154 (fC U 128 (true,7)) (fC U 154 (false,1))) (dE U 166 (fC U 165 (false,1)) (fC U 166 (true,8)))) (dE U 172 (dE U 171 (fC U 167 (true,8)) (fC U 171 (false,1))) (dE U 183 (fC U 172 (true,2)) (fC U 183 (false,1))))) (dE U 241 (dE U 217 (dE U 216 (fC U 211 (true,12)) (fC U 216 (true,13))) (dE U 240 (fC U 217 (true,13)) (fC U 240 (true,24)))) (dE U 272 (dE U 271 (fC U 241 (true,24)) (fC U 271 (false,1))) (dE U 274 (fC U 272 (false,1)) (dE U 275 (fC U 274 (false,1)) (fC U 275 (false,1))))))))
def Tj (U:Nat):Option Nat:=dE U 53 (dE U 29 (dE U 26 (dE U 25 (fC U 22 1) (fC U 25 6)) (dE U 27 (fC U 26 6) (fC U 27 8))) (dE U 48 (dE U 38 (fC U 29 4) (fC U 38 5)) (dE U 52 (fC U 48 2) (fC U 52 7)))) (dE U 66 (dE U 58 (dE U 57 (fC U 53 7) (fC U 57 1)) (dE U 59 (fC U 58 1) (fC U 59 66))) (dE U 126 (dE U 90 (fC U 66 1) (fC U 90 1)) (dE U 154 (fC U 126 2) (dE U 171 (fC U 154 20) (fC U 171 8)))))
def To (U i:Nat):Option Nat:=dE U 73 (dE U 61 (dE U 42 (dE U 30 (rI U 24 (iZ [0,1,2,3,4] i)) (dE U 31 (rI U 30 (iZ [0,1] i)) (rI U 31 (iZ [0,1] i)))) (dE U 56 (dE U 55 (rI U 42 (iZ [0,1,2,3,4,5,6,7] i)) (rI U 55 (iZ [0,1,2,3,4,5] i))) (dE U 60 (rI U 56 (iZ [0,1,2,3,4,5] i)) (rI U 60 (iZ [0] i))))) (dE U 68 (dE U 62 (rI U 61 (iZ [0] i)) (dE U 63 (rI U 62 (iZ [0,1,2,3] i)) (rI U 63 (iZ [0,1,2,3] i)))) (dE U 70 (dE U 69 (rI U 68 (iZ [0,1] i)) (rI U 69 (iZ [0,2] i))) (dE U 72 (rI U 70 (iZ [0,2] i)) (rI U 72 (iZ [0,4,8] i)))))) (dE U 128 (dE U 83 (dE U 81 (rI U 73 (iZ [0,4,8] i)) (dE U 82 (rI U 81 (iZ [0,4,8] i)) (rI U 82 (iZ [0,4,8] i)))) (dE U 85 (dE U 84 (rI U 83 (iZ [0,4,8,12,16] i)) (rI U 84 (iZ [0,4,8,12,16] i))) (dE U 86 (rI U 85 (iZ [0,1,13,25,26,46] i)) (rI U 86 (iZ [0,1,13,25,26,46] i))))) (dE U 216 (dE U 167 (dE U 166 (rI U 128 (iZ [0,1,2,3,4,5,6] i)) (rI U 166 (iZ [0,4] i))) (dE U 211 (rI U 167 (iZ [0,4] i)) (rI U 211 (iZ [0,4,8] i)))) (dE U 240 (dE U 217 (rI U 216 (iZ [0,1] i)) (rI U 217 (iZ [0,1] i))) (dE U 241 (rI U 240 (iZ [0,4,8,12,16,20] i)) (rI U 241 (iZ [0,4,8,12,16,20] i))))))
def tb:Tb:=⟨fun U=>bif Nat.blt U 276 then Te U else none,fun U i=>bif Nat.blt U 276&&Nat.blt i 16 then To U i else none,fun U=>bif Nat.blt U 276 then Tj U else none⟩
theorem Iy:TbOk Tryz.prog tb:=TbOk.of (by kernel_rfl) (by kernel_rfl) (by kernel_rfl)
theorem fK (k:Nat) (h:N3 Tryz.prog tb ops K n k os tm bx):dl Tryz.prog ops os ⟨n,tm,bx⟩ K:=Kb Iy h
theorem dO {K:Sq→Prop}(k:Nat) (h:PY Tryz.prog tb ops hs K n k os tm bx nb sd):dq Tryz.prog ops hs os ⟨⟨n,tm,bx⟩,nb,sd⟩ K:=Lm Iy h
theorem jq (h:NS tb ops K n os tm bx):dl Tryz.prog ops os ⟨n,tm,bx⟩ K:=AZ Iy h
theorem wd {K:Sq→Prop}(h:PZ tb ops hs K n os tm bx nb sd):dq Tryz.prog ops hs os ⟨⟨n,tm,bx⟩,nb,sd⟩ K:=ED Iy h
def cQ (n d:Int):List CellD:=cI n++cI d
def dQ (n d:Int):D0:=.a (cQ n d)
def cR (x:Rat):List CellD:=cQ x.num (x.den:Int)
def dR (x:Rat):D0:=.a (cR x)
theorem tD {q:Int}(hy:y≠0) (h:x=y*q+r) (hp:0<y→0≤r∧r<y) (hn:y<0→y<r∧r≤0):x.fdiv y=q∧x.fmod y=r:=by
 have hfd:x.fdiv y=q:=by
  rcases Int.lt_or_gt_of_ne hy with h0|h0
  ·obtain⟨h1,h2⟩:=hn h0
   rw[←Int.neg_fdiv_neg,sy _ (by omega)]
   have:=(Int.ediv_emod_unique (a:= -x) (b:= -y) (r:= -r) (q:=q) (by omega)).2 ⟨by rw[h];simp only[Int.neg_mul];omega,by omega,by omega⟩
   grind
  ·obtain⟨h1,h2⟩:=hp h0
   rw[sy _ (by omega)]
   exact((Int.ediv_emod_unique (a:=x) (b:=y) (r:=r) (q:=q) h0).2 ⟨by rw[h];omega,h1,h2⟩).1
 have:=Int.mul_fdiv_add_fmod x y
 grind
def q0 (x y:Int):Int:=sg (!(decide (x<0)==decide (y<0))) ((x.natAbs:Int)/y.natAbs)
def r0 (x y:Int):Int:=sg (decide (x<0)) ((x.natAbs:Int)%y.natAbs)
theorem MS:x=y*q0 x y+r0 x y:=by
 have h:=wy (x.natAbs:Int) y.natAbs
 unfold q0 r0
 obtain⟨q,hq⟩: ∃q,(x.natAbs:Int)/y.natAbs=q:=⟨_,rfl⟩
 obtain⟨r,hr⟩: ∃r,(x.natAbs:Int)%y.natAbs=r:=⟨_,rfl⟩
 rw[hq,hr]
 rw[hq,hr] at h
 by_cases hx:x<0<;>by_cases hy:y<0
 ·rw[show(x.natAbs:Int)= -x from by omega,show(y.natAbs:Int)= -y from by omega,Int.neg_mul] at h
  rw[show(!(decide (x<0)==decide (y<0)))=false from by simp[hx,hy],show decide (x<0)=true from by simp[hx],ef,bL]
  omega
 ·rw[show(x.natAbs:Int)= -x from by omega,show(y.natAbs:Int)=y from by omega] at h
  rw[show(!(decide (x<0)==decide (y<0)))=true from by simp[hx,hy],show decide (x<0)=true from by simp[hx],ef,ef,Int.mul_neg]
  omega
 ·rw[show(x.natAbs:Int)=x from by omega,show(y.natAbs:Int)= -y from by omega,Int.neg_mul] at h
  rw[show(!(decide (x<0)==decide (y<0)))=true from by simp[hx,hy],show decide (x<0)=false from by simp[hx],ef,bL,Int.mul_neg]
  omega
 ·rw[show(x.natAbs:Int)=x from by omega,show(y.natAbs:Int)=y from by omega] at h
  rw[show(!(decide (x<0)==decide (y<0)))=false from by simp[hx,hy],show decide (x<0)=false from by simp[hx],bL,bL]
  omega
theorem Fe (hy:y≠0):0≤(x.natAbs:Int)%y.natAbs∧(x.natAbs:Int)%y.natAbs<y.natAbs:=⟨Int.emod_nonneg _ (by omega),la _ (by omega)⟩
theorem rO (hy:y≠0) (h:r0 x y=0∨(r0 x y<0↔y<0)):x.fdiv y=q0 x y∧x.fmod y=r0 x y:=by
 refine tD hy MS ?_ ?_
 all_goals
  have:=Fe (x:=x) hy
  unfold r0 at*
  by_cases hx:x<0
  ·simp only[hx,decide_true,ef] at*;omega
  ·simp only[hx,decide_false,bL] at*;omega
theorem Aw (hy:y≠0) (h0:r0 x y≠0) (h: ¬(r0 x y<0↔y<0)):x.fdiv y=q0 x y-1∧x.fmod y=r0 x y+y:=by
 refine tD hy ?_ ?_ ?_
 ·have:=MS (x:=x) (y:=y)
  rw[Int.mul_sub];omega
 all_goals
  have:=Fe (x:=x) hy
  unfold r0 at*
  by_cases hx:x<0
  ·simp only[hx,decide_true,ef] at*;omega
  ·simp only[hx,decide_false,bL] at*;omega
theorem yS:(ce y.natAbs).length=0↔y=0:=by
 rw[ic,df];omega
theorem nh (h:decide (((ce r.natAbs).length:Int)>0)=true):r≠0:=by
 intro e
 have:=yS.2 e
 grind
theorem m6 (h:decide (((ce r.natAbs).length:Int)>0)=false):r=0:=by
 simp only[decide_eq_false_iff_not] at h
 exact yS.1 (by omega)
theorem yf (h:(!(decide (a<0)==decide (b<0)))=true): ¬(a<0↔b<0):=by simpa using h
theorem zd (h:(!(decide (a<0)==decide (b<0)))=false):(a<0↔b<0):=by simpa using h
theorem Sz.q0 (hx:Sz k x):Sz k (q0 x y):=by
 refine hx.of_le ?_
 have h1:(x.natAbs:Int)/(y.natAbs:Int)≤x.natAbs:=Int.ediv_le_self _ (by omega)
 have h2:0≤(x.natAbs:Int)/(y.natAbs:Int):=rK (by omega) (by omega)
 unfold Go.Proofs.YtkfgimjmgfoneaaGreatDoor.q0
 generalize (!(decide (x<0)==decide (y<0)))=s
 cases s
 ·rw[bL];omega
 ·rw[ef];omega
theorem Sz.r0 (hy:y≠0) (h:Sz k y):Sz k (r0 x y):=by
 refine h.of_le ?_
 have:=Fe (x:=x) hy
 unfold Go.Proofs.YtkfgimjmgfoneaaGreatDoor.r0
 generalize decide (x<0)=s
 cases s
 ·rw[bL];omega
 ·rw[ef];omega
theorem zw (h1:0≤a) (h2:0≤c):Int.gcd c (a%c)=Int.gcd a c:=by
 obtain⟨m,rfl⟩:=Int.eq_ofNat_of_zero_le h1
 obtain⟨n,rfl⟩:=Int.eq_ofNat_of_zero_le h2
 show Nat.gcd n (m%n)=Nat.gcd m n
 rw[Nat.gcd_comm m n,Nat.gcd_rec n m,Nat.gcd_comm]
structure GInv (x y a c:Int):Prop where
 sa:Sz 100000000 a
 sc:Sz 100000000 c
 a0:0≤a
 c0:0≤c
 g:Int.gcd a c=Int.gcd x y
theorem GInv.start (hx:Sz 100000000 x) (hy:Sz 100000000 y):GInv x y (sg false (x.natAbs:Int)) (sg false (y.natAbs:Int)):=by
 rw[bL,bL]
 exact⟨hx.of_le (by omega),hy.of_le (by omega),by omega,by omega,rfl⟩
theorem GInv.step (h:GInv x y a c) (hc:c≠0):GInv x y c (sg false ((a.natAbs:Int)%c.natAbs)):=by
 rw[bL]
 have h1:=h.a0
 have h2:=h.c0
 have e1:(a.natAbs:Int)=a:=by omega
 have e2:(c.natAbs:Int)=c:=by omega
 rw[e1,e2]
 have h3:=o7 a hc
 have h4:=la a (show 0<c by omega)
 exact⟨h.sc,h.sc.of_le (by omega),h2,h3,by rw[←h.g,zw h1 h2]⟩
theorem GInv.less (h:GInv x y a c) (hc:c≠0):(sg false ((a.natAbs:Int)%c.natAbs)).toNat<c.toNat:=by
 rw[bL]
 have:=h.c0
 have:=Fe (x:=a) hc
 omega
theorem GInv.done (h:GInv x y a c) (hc:c=0):(Int.gcd x y:Int)=sg false (a.natAbs:Int):=by
 rw[←h.g,hc,bL];simp
structure GInv2 (x y u v:Int):Prop where
 u0:0≤u
 u1:u≤18446744073709551615
 v0:0≤v
 v1:v≤18446744073709551615
 g:Int.gcd u v=Int.gcd x y
theorem GInv.word (h:GInv x y a c) (ha:decide (a.natAbs<1000000000000000000)=true) (hc:decide (c.natAbs<1000000000000000000)=true):
 GInv2 x y (if a.natAbs<1000000000000000000 then(a.natAbs:Int) else 0) (if c.natAbs<1000000000000000000 then(c.natAbs:Int) else 0):=by
 rw[decide_eq_true_eq] at ha hc
 rw[if_pos ha,if_pos hc]
 exact⟨by omega,by omega,by omega,by omega,by rw[←h.g];rfl⟩
theorem GInv2.step (h:GInv2 x y u v) (hv:v>0):GInv2 x y v (u.tmod v):=by
 have h1:=h.u0
 rw[gA h1]
 have h3:=o7 u (show v≠0 by omega)
 have h4:=la u hv
 exact⟨h.v0,h.v1,h3,by have:=h.v1;omega,by rw[←h.g,zw h1 h.v0]⟩
theorem GInv2.less (h:GInv2 x y u v) (hv:v>0):(u.tmod v).toNat<v.toNat:=by
 rw[gA h.u0]
 have h4:=la u hv
 omega
theorem GInv2.done (h:GInv2 x y u v) (hv:v≤0):(Int.gcd x y:Int)=sg false u:=by
 have h0:=h.v0
 have h1:=h.u0
 rw[←h.g,show v=0 from by omega,bL];simp;omega
theorem Eu (h:Lim xs):trm xs=ce (val xs).natAbs:=by
 have h0:=bE h
 rw[Ct (nM xs) h.trm,fy]
 grind
def cM (xs:List Int):CellD:=.s xs.length (xs.map (CellD.i .u32))
theorem MX (e:Int):cL e=cM (ce e.natAbs):=rfl
theorem GD (h:Lim xs):cL (val xs)=cM (trm xs):=by rw[MX,Eu h]
theorem gG (xs:List Int):(xs.map (CellD.i .u32)).length=xs.length*1:=by simp
theorem im (h:i<xs.length):((xs.map (CellD.i .u32)).drop (i*1))[0]? =some (.i .u32 (xs.getD i 0)):=by grind
theorem RD (h:i<xs.length):(xs.map (CellD.i .u32))[i*1]? =some (.i .u32 (xs.getD i 0)):=by grind
theorem mt (h:i<xs.length):(xs.map (CellD.i .u32)).take (i*1)++[CellD.i .u32 x]++(xs.map (CellD.i .u32)).drop (i*1+1)=(xs.set i x).map (CellD.i .u32):=by
 rw[List.set_eq_take_append_cons_drop,if_pos h]
 simp
theorem bU (h:Lim xs) (i:Nat):0≤xs.getD i 0∧xs.getD i 0<1000000000:=by
 rw[List.getD]
 cases hx:xs[i]? with
 |none=>simp
 |some x=>exact h.at_ hx
theorem getD_some (h:i<xs.length):xs[i]? =some (xs.getD i 0):=by grind
theorem oC (h0: -9223372036854775808≤x) (h1:x≤9223372036854775807):IntKind.i64.wrap x=x:=by unfold IntKind.wrap;simp[IntKind.bits,IntKind.signed];omega
theorem iu (h0:0≤x) (h1:x≤18446744073709551615):IntKind.u64.wrap x=x:=by unfold IntKind.wrap;simp[IntKind.bits,IntKind.signed];omega
theorem mQ (h0:0≤x) (h1:x≤4294967295):IntKind.u32.wrap x=x:=by unfold IntKind.wrap;simp[IntKind.bits,IntKind.signed];omega
theorem aP (h0: -9223372036854775808≤a+b) (h1:a+b≤9223372036854775807):wB .add .i64 a b=some (a+b):=congrArg some (oC h0 h1)
theorem ba {x y:Operand}{ty:TypeId}(hj:j<9223372036854775807) (h:(bH T x,bH T y,gd ops ⟨dst,.binOp .add xt x y yt,ty,pos,af,g⟩ T)=(some (.v (.c (.i .i64 j))),some (.v (.c (.i .i64 1))),some true)):Sem P ops ⟨dst,.binOp .add xt x y yt,ty,pos,af,g⟩ T B (.r (.v (.c (.i .i64 ((j+1:Nat):Int))))):=
 i6 (congrArg Prod.fst h) (congrArg (fun q=>q.2.1) h) ((aP (by omega) (by omega)).trans (congrArg some (by omega))) (congrArg (fun q=>q.2.2) h)
theorem bC (h0: -9223372036854775808≤a-b) (h1:a-b≤9223372036854775807):wB .sub .i64 a b=some (a-b):=congrArg some (oC h0 h1)
theorem iW (h0:0≤a+b) (h1:a+b≤18446744073709551615):wB .add .u64 a b=some (a+b):=congrArg some (iu h0 h1)
theorem AS (h0:0≤a-b) (h1:a-b≤18446744073709551615):wB .sub .u64 a b=some (a-b):=congrArg some (iu h0 h1)
theorem mz (h0:0≤a*b) (h1:a*b≤18446744073709551615):wB .mul .u64 a b=some (a*b):=congrArg some (iu h0 h1)
theorem jR (h0:0≤a+b) (h1:a+b≤4294967295):wB .add .u32 a b=some (a+b):=congrArg some (mQ h0 h1)
theorem mu (h0:0≤a-b) (h1:a-b≤4294967295):wB .sub .u32 a b=some (a-b):=congrArg some (mQ h0 h1)
theorem FV (h1:0<k) (hk:k≤xs.length) (hT:trm (xs.take k)=trm xs) (h:((xs.take k).getD (k-1) 0==0)=true):trm (xs.take (k-1))=trm xs:=by
 obtain⟨j,rfl⟩: ∃j,k=j+1:=⟨k-1,by omega⟩
 rw[Nat.add_sub_cancel] at*
 have hx:=getD_some (xs:=xs) (i:=j) (by omega)
 rw[←hT,mM hx (by simpa using h)]
theorem F2 (h1:0<k) (hk:k≤xs.length) (hT:trm (xs.take k)=trm xs) (h:((xs.take k).getD (k-1) 0==0)=false):trm xs=xs.take k:=by
 obtain⟨j,rfl⟩: ∃j,k=j+1:=⟨k-1,by omega⟩
 have hx:=getD_some (xs:=xs) (i:=j) (by omega)
 rw[←hT,mG hx (by simpa using h)]
section
variable {P:Program}{ops:Array Oper}{T:TF}{B:BF}
theorem gz {x y:Operand}{k:IntKind}{n:Int}
 (hx:bH T x=some (.v (.c (.i k m)))) (hy:bH T y=some (.v (.c (.i k n)))) (h0:n≠0) (hr:k.wrap (m.tdiv n)=r) (hg:gd ops ⟨dst,.binOp .quo xt x y yt,ty,pos,af,g⟩ T=some true):
 Sem P ops ⟨dst,.binOp .quo xt x y yt,ty,pos,af,g⟩ T B (.r (.v (.c (.i k r)))):=by subst hr;exact Mz hx hy h0 hg
theorem cC {x y:Operand}{k:IntKind}{n:Int}
 (hx:bH T x=some (.v (.c (.i k m)))) (hy:bH T y=some (.v (.c (.i k n)))) (h0:n≠0) (hr:m.tmod n=r) (hg:gd ops ⟨dst,.binOp .rem xt x y yt,ty,pos,af,g⟩ T=some true):
 Sem P ops ⟨dst,.binOp .rem xt x y yt,ty,pos,af,g⟩ T B (.r (.v (.c (.i k r)))):=by subst hr;exact yc hx hy h0 hg
theorem bl {x:Operand}{k1 k2 k:IntKind}
 (h1:P.underlying t1=some (.int k1)) (h2:P.underlying t2=some (.int k2)) (hx:bH T x=some (.v (.c (.i k m)))) (hr:k2.wrap m=r) (hg:gd ops ⟨dst,.convert t1 t2 x,ty,pos,af,g⟩ T=some true):
 Sem P ops ⟨dst,.convert t1 t2 x,ty,pos,af,g⟩ T B (.r (.v (.c (.i k2 r)))):=by subst hr;exact HR h1 h2 hx hg
theorem ws {x:Operand}
 (hU:mx P U=some (e,1,by_,[z])) (hx:bH T x=some (.v (.c (.i .u32 m)))) (hg:gd ops ⟨dst,.buildSlice U 1 #[(0,x)],ty,pos,af,g⟩ T=some true):
 Sem P ops ⟨dst,.buildSlice U 1 #[(0,x)],ty,pos,af,g⟩ T B (.r (.v (.c (cM [m])))):=by
 have h:=rn (B:=B) (n:=1) (us:=[.i .u32 m]) (dps:=[(0,.c (.i .u32 m))]) hU (by unfold n6;rw[hx];rfl) rfl (by omega) (by omega) hg
 refine⟨oD rfl,fun V β a w hs=>?_⟩
 obtain⟨hw,hg⟩:=h V β a w hs
 refine⟨hw,hg.mono ?_⟩
 rintro v w' ⟨vs,rfl,rfl,hr⟩
 refine⟨?_,(bP _ w).alloc (aX _) _⟩
 have hkeep:=Keep.below (av:=V) ((bP w.heap.size w).alloc (aX _) (.cells vs e))
 have hr2:=hr.keep hkeep
 have hvl:vs.size=1:=by have:=hr.1;simpa using this
 refine .s w.heap.size 0 1 1 1 _ (fun j=>vs.getD j undef) (by omega) (by omega) (by omega) rfl (by simp) (fun h=>by have:=hs.av _ h;omega) (fun j hj=>?_) (fun j u hj=>?_)
 ·simp_all
 ·have hlt:j<1:=by have:=(gF.1 hj).1;simpa using this
  refine hr2.2 j _ u ?_ hj
  have:j<vs.size:=by omega
  simp[Array.getD,this]
theorem zr {x y:Operand}{m:Nat}{zs:List CellD}
 (hU:mx P U=some (e,m,by_,zs)) (hx:bH T x=some (.o k n n)) (hy:bH T y=some (.v (.c (.s 0 [])))) (hb:B k=some (e,cs)) (hcs:cs.length=n*m) (hn:0<n) (hn2:n≤9223372036854775807)
 (hg:gd ops ⟨dst,.call ⟨.builtin .append,#[x,y],#[U,U]⟩,ty,pos,af,g⟩ T=some true):
 Sem P ops ⟨dst,.call ⟨.builtin .append,#[x,y],#[U,U]⟩,ty,pos,af,g⟩ T B (.c k (.v (.c (.s n cs)))):=by
 refine⟨rfl,by rw[hb];simp,fun V β a w hs=>⟨dK hs hg,?_⟩⟩
 have e1:a.eval x=.slice (some ⟨β k,0,none⟩) n n:=aw hs (x:=x) (by simp[Op.operands,Call.operands]) hx
 have h2:RdC V w (a.eval y) (.s 0 []):=aw hs (x:=y) (by simp[Op.operands,Call.operands]) hy
 have h3: ∃A c,a.eval y=.slice A 0 c:=by
  generalize a.eval y=v at h2
  cases h2 with
  |s0 A c _=>exact⟨A,c,rfl⟩
  |s b off c sz _ _ cv h0=>omega
 obtain⟨A,c,e2⟩:=h3
 obtain⟨hu,i,z,hi,hz,hsz,hby,_,hzr⟩:=fD hU
 obtain⟨hvk,vs,ev,hr⟩:=hs.box k e cs hb
 have hfirst: ∀w,(Builtin.firstCells m 0 (.slice A 0 c)).run P w=.ok #[] w:=by
  intro w
  cases A with
  |none=>rfl
  |some A=>simp[Builtin.firstCells,loadCells,loadCellsFrom]
 have hexec:(execOp a.eval ⟨dst,.call ⟨.builtin .append,#[x,y],#[U,U]⟩,ty,pos,af,g⟩).run P w=.ok (.value (.slice (some ⟨β k,0,none⟩) n n)) w:=by
  simp only[execOp,resolve,invoke,builtin,ed,fq,eb,p9,mR,p8,e1,e2]
  simp[Builtin.append_,run_underlying hu,sizeOf,typeInfo,program,Sem.run,hi,hsz,Builtin.lenOf,hfirst,storeCells]
 unfold Gives
 rw[hexec]
 refine⟨?_,bP _ _⟩
 have hkeep:Keep V (fun b=>V b∧b≠β k) w w:=⟨Nat.le_refl _,fun _ _ _=>rfl,fun _ _ h=>h.1⟩
 have hr2:=hr.keep hkeep
 have hvl:vs.size=n*m:=by have:=hr.1;simp at this;omega
 refine .s (β k) 0 n m n cs (fun j=>vs.getD j undef) hn (aX _) hn2 hcs (hs.av _ hvk) (fun h=>h.2 rfl) (fun j hj=>?_) (fun j u hj=>?_)
 ·rw[eC,co ev]
  have:j<vs.size:=by omega
  simp[Array.getD,this]
 ·have hlt:j<cs.length:=(gF.1 hj).1
  refine hr2.2 j _ u ?_ hj
  have:j<vs.size:=by omega
  simp[Array.getD,this]
theorem wR {x y:Operand}
 (hU:mx P U=some (e,1,4,[z])) (hx:bH T x=some (.o k 1 1)) (hy:bH T y=some (.v (.c (cM rs)))) (hb:B k=some (e,[.i .u32 d])) (hl:rs.length≤1000000000)
 (hg:gd ops ⟨dst,.call ⟨.builtin .append,#[x,y],#[U,U]⟩,ty,pos,af,g⟩ T=some true):
 Sem P ops ⟨dst,.call ⟨.builtin .append,#[x,y],#[U,U]⟩,ty,pos,af,g⟩ T B (.c k (.v (.c (cM (d::rs))))):=by
 cases rs with
 |nil=>exact zr (n:=1) hU hx hy hb rfl (by omega) (by omega) hg
 |cons r rs=>
  have:=rl (us:=(d::r::rs).map (CellD.i .u32)) hU hx hy hb rfl (gG _) (by omega) (by simp) (by omega) (by simp at hl⊢;omega) (by simp at hl⊢;unfold maxLen;omega) rfl hg
  unfold cM
  grind
theorem pF {c:Code}{N t n' c':Nat}
 (ht:an t tm=some (.o k n' c')) (hb:an k bx=some (U,zs.map (CellD.i .u32))) (hm:zs.length=c') (hn:n'≤c') (hc:c'≤9223372036854775807) (hu:zs.take n'=ys)
 (h:Dw P c ⟨N,(t,.v (.c (cM ys)))::eY k tm,eo k bx⟩ Q):Dw P c ⟨N,tm,bx⟩ Q:=by
 refine bI ht hb (m:=1) (us:=ys.map (CellD.i .u32)) (by simp[hm]) hn hc (by rw[Nat.mul_one,←List.map_take,hu]) ?_
 unfold cM at h
 grind
theorem B7 {x h:Operand}
 (hU:nu P U=some 1) (hx:bH T x=some (.v (.c (cM xs)))) (hh:bH T h=some (.v (.c (.i ki j)))) (hj:j≤xs.length) (hg:gd ops ⟨dst,.slice U x none (some h) none,ty,pos,af,g⟩ T=some true):
 Sem P ops ⟨dst,.slice U x none (some h) none,ty,pos,af,g⟩ T B (.r (.v (.c (cM (xs.take j))))):=by
 have:=j8 (B:=B) hU hx hh (by omega) (gG xs) rfl hg
 have e:CellD.s ((j:Int).toNat) ((xs.map (CellD.i .u32)).take ((j:Int).toNat*1))=cM (xs.take j):=by
  unfold cM
  rw[Int.toNat_natCast,Nat.mul_one,cX,de hj,List.map_take]
 grind
theorem iU {x h:Operand}{c q m:Nat}
 (hU:nu P U=some m) (hx:bH T x=some (.o k n c)) (hh:bH T h=some (.v (.c (.i ki q)))) (hq:q≤c) (hg:gd ops ⟨dst,.slice U x none (some h) none,ty,pos,af,g⟩ T=some true):
 Sem P ops ⟨dst,.slice U x none (some h) none,ty,pos,af,g⟩ T B (.r (.o k q c)):=
 bp hg (fun k' e=>by
  obtain rfl:k=k':=by injection e
  exact pV (ops:=ops) (o:=⟨dst,.slice U x none (some h) none,ty,pos,af,g⟩) (by simp[Op.operands]) hx rfl) (fun V β a w hs=>by
  have e:a.eval x=.slice (some ⟨β k,0,none⟩) n c:=aw hs (x:=x) (by simp[Op.operands]) hx
  have h2:=iM (aw hs (x:=h) (by simp[Op.operands]) hh)
  unfold nu at hU
  split at hU
  case h_2=>cases hU
  rename_i el hul
  cases hinf:P.info? el with
  |none=>rw[hinf] at hU;cases hU
  |some inf=>
   rw[hinf] at hU
   simp at hU
   have hso: ∀w,(sizeOf el).run P w=.ok m w:=fun w=>by unfold sizeOf typeInfo;simp[program,Sem.run,hinf,hU]
   refine⟨.slice (some ⟨β k,0,none⟩) q c,?_,rfl⟩
   simp[execOp,Instr.sliceAt,Instr.slice,run_underlying hul,e,h2,Instr.sliceBounds,Instr.sliceBound,asIntOf,hq,hso,Addr.add])
end
class TaC (P:Program) where
 b:Tb
 zc:List (Nat×List CellD)
 op:Nat→Bool
 ok:TbOk P b
 zk: ∀U zs,an U zc=some zs→t6 P U=some zs
 mo:P.follows .mixedOrders=true
theorem BJ {α:Type}{t:Nat}{x:α}: ∀ {l:List (Nat×α)},an t l=some x→(t,x)∈l
 |[],h=>by cases h
 |(k,y)::r,h=>by
  unfold an at h
  cases e:Nat.beq k t with
  |true=>rw[e] at h;cases h;rw[fN e];exact fW
  |false=>rw[e] at h;exact gi _ (BJ h)
theorem Or {l:List (Nat×List CellD)}(h: ∀p∈l,t6 P p.1=some p.2): ∀U zs,an U l=some zs→t6 P U=some zs:=fun _U _zs e=>h _ (BJ e)
section
variable (P:Program) [C:TaC P]
def Ki (T:TF) (B:BF):Op→Option SA
 | .load U x=>match bH T x with
   |some (.p k off)=>match B k,C.b.ty U with
    |some (W,cs),some (true,n)=>bif C.op W then none else bif Nat.beq off 0&&Nat.beq cs.length n then some (.v (.v (.a cs))) else
     bif Nat.ble (off+n) cs.length&&Nat.ble cs.length 24 then some (.v (.v (.a ((cs.drop off).take n)))) else none
    |some (W,cs),some (false,_)=>bif C.op W then none else match cs[off]? with
     |some u=>some (.v (.v (.c u)))
     |none=>none
    |_,_=>none
   |_=>none
 | .store U ax x=>match bH T ax,bH T x,C.b.ty U with
   |some (.p k off),some (.v (.a us)),some (true,m)=>match B k with
    |some (W,cs)=>bif C.op W then none else bif Nat.beq off 0&&Nat.beq us.length m&&Nat.beq cs.length m then some (.st k W us) else none
    |none=>none
   |_,_,_=>none
 | .alloc U=>match an U C.zc with
   |some zs=>some (.bx U zs)
   |none=>none
 |op=>D7 C.b T B op
def Ei (ops:Array Oper) (T:TF) (B:BF) (o:Oper):Option SA:=
 match gd ops o T with
 |some true=>Ki P T B o.op
 |some false=>some .sk
 |none=>none
def S5 (ops:Array Oper) (d:Option Nat):List Oper→Bool
 |⟨_,_,_,_,_,some (j,_)⟩::_=>match ops[j]?,d with
  |some ⟨some t,_,_,_,_,_⟩,some u=>Nat.beq t u
  |_,_=>false
 |_=>false
variable {P}
theorem GY (hg:gd ops ⟨dst,op,ty,pos,af,g⟩ T=some true) (h:Ki P T B op=some s)
 (hd: ∀k U cs,s=.st k U cs→dst=none):Sem P ops ⟨dst,op,ty,pos,af,g⟩ T B s.eff:=by
 unfold Ki at h
 split at h
 ·split at h
  ·rename_i e
   split at h
   ·rename_i e1 e2
    rw[ol,ol,ol] at h
    split at h
    ·cases h
    ·split at h
     ·rename_i hc
      cases h
      rw[dU] at hc
      have h0:=fN hc.1
      have hl:=fN hc.2
      subst h0
      exact aU (C.ok.ty _ _ e2) e e1 (by rw[od];exact fp (Nat.le_of_eq hl)) hl hg
     ·split at h
      ·rename_i hc
       cases h
       rw[dU] at hc
       have h0:=dG hc.1
       exact aU (C.ok.ty _ _ e2) e e1 rfl (by rw[cX,dz];omega) hg
      ·cases h
   ·rename_i e1 e2
    rw[ol] at h
    split at h
    ·cases h
    ·split at h
     ·rename_i e3;cases h;exact bW (C.ok.ty _ _ e2) e e1 e3 hg
     ·cases h
   ·cases h
  ·cases h
 ·split at h
  ·rename_i e1 e2 e3
   split at h
   ·rename_i e4
    rw[ol,ol] at h
    split at h
    ·cases h
    ·split at h
     ·rename_i hc
      cases h
      rw[dU,dU] at hc
      have h0:=fN hc.1.1
      subst h0
      have:=hd _ _ _ rfl
      subst this
      exact bG (C.ok.ty _ _ e3) e1 e2 e4 (fN hc.1.2) (fN hc.2) hg
     ·cases h
   ·cases h
  ·cases h
 ·split at h
  ·rename_i e;cases h;exact pP (C.zk _ _ e) hg
  ·cases h
 ·exact BC C.ok hg h hd
theorem lU (h:Ei P ops T B ⟨dst,op,ty,pos,af,g⟩=some s)
 (hd: ∀k U cs,s=.st k U cs→dst=none):Sem P ops ⟨dst,op,ty,pos,af,g⟩ T B s.eff:=by
 unfold Ei at h
 split at h
 ·rename_i e;exact GY e h hd
 ·rename_i e;cases h;exact eB e
 ·cases h
end
structure DL (P:Program) (ops:Array Oper) (os:List Oper) (σ:St) (K:St→Prop):Prop where
 h:dl P ops os σ K
structure DQ (P:Program) (ops:Array Oper) (hs:List Nat) (os:List Oper) (s:Sq) (K:Sq→Prop):Prop where
 h:dq P ops hs os s K
structure DW (P:Program) (c:Code) (σ:St) (Q:Exit→St→Prop):Prop where
 h:Dw P c σ Q
section
variable (P:Program) [C:TaC P] (ops:Array Oper) (K:St→Prop) (n:Nat)
def De:List Oper→List (Nat×DV)→List (Nat×TypeId×List CellD)→Prop
 |[],tm,bx=>K ⟨n,tm,bx⟩
 |o::os,tm,bx=>bif S5 ops o.dst os then DL P ops (o::os) ⟨n,tm,bx⟩ K else match o.dst,Ei P ops (fun s=>an s tm) (fun l=>an l bx) o with
  |some t,some .sk=>De os ((t,.u)::tm) bx
  |some t,some (.v x)=>De os ((t,x)::tm) bx
  |some t,some (.bx U cs)=>match an t bx with
   |none=>De os ((t,.p t 0)::tm) ((t,U,cs)::bx)
   |some _=>DL P ops (o::os) ⟨n,tm,bx⟩ K
  |none,some (.st j U cs)=>De os tm ((j,U,cs)::bx)
  |_,_=>DL P ops (o::os) ⟨n,tm,bx⟩ K
variable {P ops K n}
theorem dC: ∀ {os:List Oper}{tm:List (Nat×DV)}{bx:List (Nat×TypeId×List CellD)},De P ops K n os tm bx→dl P ops os ⟨n,tm,bx⟩ K
 |[],tm,bx,h=>h
 |⟨dst,op,ty,pos,af,g⟩::os,tm,bx,h=>by
  unfold De at h
  rw[ol] at h
  split at h
  ·exact h.h
  ·split at h
   ·rename_i t e1 e2
    cases e1
    exact jN (lU e2 (fun _ _ _ e=>by cases e)) (dC h)
   ·rename_i t x e1 e2
    cases e1
    exact b9 (lU e2 (fun _ _ _ e=>by cases e)) (dC h)
   ·rename_i t U cs e1 e2
    cases e1
    split at h
    ·rename_i e3;exact sX (lU e2 (fun _ _ _ e=>by cases e)) e3 (dC h)
    ·exact h.h
   ·rename_i j U cs e1 e2
    cases e1
    exact fV (lU e2 (fun _ _ _ _=>rfl)) (dC h)
   ·exact h.h
end
section
variable (P:Program) [C:TaC P] (ops:Array Oper) (hs:List Nat) (K:Sq→Prop) (n:Nat)
def Ku:List Oper→List (Nat×DV)→List (Nat×TypeId×List CellD)→List (Nat×TypeId×List CellD)→List Nat→Prop
 |[],tm,bx,nb,sd=>K ⟨⟨n,tm,bx⟩,nb,sd⟩
 |o::os,tm,bx,nb,sd=>bif S5 ops o.dst os then DQ P ops hs (o::os) ⟨⟨n,tm,bx⟩,nb,sd⟩ K else match o.dst,Ei P ops (fun s=>an s tm) (hid hs (fun l=>an l bx)) o with
  |some t,some .sk=>Ku os ((t,.u)::tm) bx nb sd
  |some t,some (.v x)=>Ku os ((t,x)::tm) bx nb sd
  |some t,some (.bx U cs)=>match an t (nb++bx) with
   |none=>Ku os ((t,.p t 0)::tm) bx ((t,U,cs)::nb) sd
   |some _=>DQ P ops hs (o::os) ⟨⟨n,tm,bx⟩,nb,sd⟩ K
  |_,_=>DQ P ops hs (o::os) ⟨⟨n,tm,bx⟩,nb,sd⟩ K
variable {P ops hs K n}
theorem ez: ∀ {os:List Oper}{tm:List (Nat×DV)}{bx nb:List (Nat×TypeId×List CellD)}{sd:List Nat},Ku P ops hs K n os tm bx nb sd→dq P ops hs os ⟨⟨n,tm,bx⟩,nb,sd⟩ K
 |[],tm,bx,nb,sd,h=>h
 |⟨dst,op,ty,pos,af,g⟩::os,tm,bx,nb,sd,h=>by
  unfold Ku at h
  rw[ol] at h
  split at h
  ·exact h.h
  ·split at h
   ·rename_i t e1 e2
    cases e1
    exact kN (lU e2 (fun _ _ _ e=>by cases e)) (ez h)
   ·rename_i t x e1 e2
    cases e1
    exact bA (lU e2 (fun _ _ _ e=>by cases e)) (ez h)
   ·rename_i t U cs e1 e2
    cases e1
    split at h
    ·rename_i e3;exact Ck (lU e2 (fun _ _ _ e=>by cases e)) e3 (ez h)
    ·exact h.h
   ·exact h.h
end
section
variable (P:Program) [C:TaC P]
def Kr:Code→St→(Exit→St→Prop)→Prop
 | .seq x y,σ,Q=>Kr x σ (xK (fun σ'=>Kr y σ' Q) Q)
 | .skip,σ,Q=>Q .normal σ
 | .ret,σ,Q=>Q .ret σ
 | .exit id,σ,Q=>Q (.exit id) σ
 | .block id c,σ,Q=>Kr c σ (Kp id Q)
 | .region id ⟨l⟩ false,⟨n,tm,bx⟩,Q=>bif FI ⟨l⟩ n then De P ⟨l⟩ (Q .normal) n l tm bx else DW P (.region id ⟨l⟩ false) ⟨n,tm,bx⟩ Q
 |c,σ,Q=>DW P c σ Q
variable {P}
theorem SW {c:Code}: ∀ {σ:St}{Q Q':Exit→St→Prop},(∀e σ',Q e σ'→Q' e σ')→Kr P c σ Q→Dw P c σ Q':=by
 induction c with
 |seq x y ihx ihy=>
  intro σ Q Q' hq h
  refine ab (ihx (fun e σ' he=>?_) h)
  cases e with
  |normal=>exact ihy hq he
  |_=>exact hq _ _ he
 |skip=>intro σ Q Q' hq h;exact az (hq _ _ h)
 |ret=>intro σ Q Q' hq h;exact bh (hq _ _ h)
 |exit id=>intro σ Q Q' hq h;exact aW (hq _ _ h)
 |block id c ih=>
  intro σ Q Q' hq h
  refine Dw.mono (aA (ih (fun e σ' he=>he) h)) hq
 |region id ops draw=>
  intro σ Q Q' hq h
  obtain⟨l⟩:=ops
  obtain⟨n,tm,bx⟩:=σ
  cases draw with
  |true=>exact Dw.mono h.h hq
  |false=>
   have h:bif FI ⟨l⟩ n then De P ⟨l⟩ (Q .normal) n l tm bx else DW P (.region id ⟨l⟩ false) ⟨n,tm,bx⟩ Q:=h
   rw[ol] at h
   split at h
   ·rename_i hc;exact Dw.mono (ss hc (dC h)) hq
   ·exact Dw.mono h.h hq
 |_=>intro σ Q Q' hq h;exact Dw.mono h.h hq
theorem jt {c:Code}(h:Kr P c σ Q):Dw P c σ Q:=SW (fun _ _ h=>h) h
end
section
variable {P:Program}[C:TaC P] {ops:Array Oper}{os:List Oper}{n t:Nat}{tm:List (Nat×DV)}{bx nb:List (Nat×TypeId×List CellD)}{K:St→Prop}{K':Sq→Prop}{hs sd:List Nat}{ty:TypeId}{pos:String}{af:Array Edge}{g:Option (Nat×Bool)}{op:Op}
omit C in
theorem EB {K2:Sq→Prop}(hk: ∀s,K' s→K2 s): ∀ {os:List Oper}{s:Sq},dq P ops hs os s K'→dq P ops hs os s K2
 |[],s,h=>hk s h
 |_::_,_,⟨e,a,b,c,d,f,h⟩=>⟨e,a,b,c,d,f,EB hk h⟩
theorem ar {x:DV}(h:Sem P ops ⟨some t,op,ty,pos,af,g⟩ (fun s=>an s tm) (fun k=>an k bx) (.r x)) (hk:De P ops K n os ((t,x)::tm) bx):DL P ops (⟨some t,op,ty,pos,af,g⟩::os) ⟨n,tm,bx⟩ K:=⟨b9 h (dC hk)⟩
theorem aq {x:DV}(h:Sem P ops ⟨some t,op,ty,pos,af,g⟩ (fun s=>an s tm) (hid hs (fun k=>an k bx)) (.r x)) (hk:Ku P ops hs K' n os ((t,x)::tm) bx nb sd):DQ P ops hs (⟨some t,op,ty,pos,af,g⟩::os) ⟨⟨n,tm,bx⟩,nb,sd⟩ K':=⟨bA h (ez hk)⟩
theorem om (h:Sem P ops ⟨none,op,ty,pos,af,g⟩ (fun s=>an s tm) (fun k=>an k bx) (.s k U cs)) (hk:De P ops K n os tm ((k,U,cs)::bx)):DL P ops (⟨none,op,ty,pos,af,g⟩::os) ⟨n,tm,bx⟩ K:=⟨fV h (dC hk)⟩
theorem dF {b:Bool}(h:Sem P ops ⟨some t,op,ty,pos,af,g⟩ (fun s=>an s tm) (fun k=>an k bx) (.r (.v (.c (.b b))))) (hk: ∀c,b=c→De P ops K n os ((t,.v (.c (.b c)))::tm) bx):DL P ops (⟨some t,op,ty,pos,af,g⟩::os) ⟨n,tm,bx⟩ K:=⟨P6 h fun c e=>dC (hk c e)⟩
theorem pr {b:Bool}(h:Sem P ops ⟨some t,op,ty,pos,af,g⟩ (fun s=>an s tm) (hid hs (fun k=>an k bx)) (.r (.v (.c (.b b))))) (hk: ∀c,b=c→Ku P ops hs K' n os ((t,.v (.c (.b c)))::tm) bx nb sd):DQ P ops hs (⟨some t,op,ty,pos,af,g⟩::os) ⟨⟨n,tm,bx⟩,nb,sd⟩ K':=⟨EF h fun c e=>ez (hk c e)⟩
section
variable {fo:Operand}{args:Array Operand}{at_:Array TypeId}{f:FuncId}{ds rs:List D0}
theorem ac (h:(bH (fun s=>an s tm) fo,tA (fun s=>an s tm) args.toList,gd ops ⟨some t,.call ⟨.value fo,args,at_⟩,ty,pos,af,g⟩ fun s=>an s tm)=(some (.v (.c (.f f))),some ds,some true)) (hok:Ok P f ds rs) (hk:De P ops K n os ((t,C5 rs)::tm) bx):
 DL P ops (⟨some t,.call ⟨.value fo,args,at_⟩,ty,pos,af,g⟩::os) ⟨n,tm,bx⟩ K:=ar (mg h hok) hk
theorem aO (h:(bH (fun s=>an s tm) fo,tA (fun s=>an s tm) args.toList,gd ops ⟨some t,.call ⟨.value fo,args,at_⟩,ty,pos,af,g⟩ fun s=>an s tm)=(some (.v (.c (.f f))),some ds,some true)) (hok:Ok P f ds rs) (hk:Ku P ops hs K' n os ((t,C5 rs)::tm) bx nb sd):
 DQ P ops hs (⟨some t,.call ⟨.value fo,args,at_⟩,ty,pos,af,g⟩::os) ⟨⟨n,tm,bx⟩,nb,sd⟩ K':=aq (mg h hok) hk
end
variable {Q:Exit→St→Prop}{x y:Code}{σ:St}
theorem cd {b:Bool}(hb:an t σ.tm=some (.v (.c (.b b)))) (ht:b=true→Kr P x σ Q) (hf:b=false→Kr P y σ Q):DW P (.cond (.tmp t) x y) σ Q:=⟨aB hb (fun e=>jt (ht e)) fun e=>jt (hf e)⟩
theorem kG (hb:an t tm=some (.v (.c (.b true)))) (h:Kr P x ⟨n,tm,bx⟩ Q):DW P (.cond (.tmp t) x y) ⟨n,tm,bx⟩ Q:=⟨iB hb (jt h)⟩
theorem nE (hb:an t tm=some (.v (.c (.b false)))) (h:Kr P y ⟨n,tm,bx⟩ Q):DW P (.cond (.tmp t) x y) ⟨n,tm,bx⟩ Q:=⟨bT hb (jt h)⟩
theorem cS (m:Nat) (hs:List Nat) (h:Ku P l.toArray hs (fun s=>De P l.toArray (Q .normal) s.st.n (l.drop m) s.st.tm (s.nb++s.st.bx)) n (l.take m) tm bx [] []) (hc:Cu l.toArray m n=true:=by kernel_rfl):
 DW P (.region id l.toArray true) ⟨n,tm,bx⟩ Q:=⟨pC m hs C.mo hc rfl rfl (EB (fun _ hk=>dC hk) (ez h))⟩
theorem ah (h:De P l.toArray (Q .normal) n l tm bx) (hn:FI l.toArray n=true:=by kernel_rfl):Dw P (.region id l.toArray false) ⟨n,tm,bx⟩ Q:=ss hn (dC h)
theorem dx (m:Nat) (hs:List Nat) (h:Ku P l.toArray hs (fun s=>De P l.toArray (Q .normal) s.st.n (l.drop m) s.st.tm (s.nb++s.st.bx)) n (l.take m) tm bx [] []) (hc:Cu l.toArray m n=true:=by kernel_rfl):
 Dw P (.region id l.toArray true) ⟨n,tm,bx⟩ Q:=(cS m hs h hc).h
theorem bS {f:FuncId}{fn:Func}{c:Code}{ds rs:List D0}(hf:P.funcs[f]? =some fn) (hb:fn.body=some c) (h:Kr P c ⟨fn.ntmps,rQ 0 ds,[]⟩ fun e σ=>(e=.normal∨e=.ret)∧n9 P σ fn.results.toList=some rs)
 (hcal:m5 P f=true:=by kernel_rfl) (hlen:Nat.ble ds.length fn.ntmps=true:=by rfl):Ok P f ds rs:=Ok.of hcal hf hb hlen (jt h)
end
def Tk:List (Nat×List CellD):=[(24,[.i .i64 0,.i .i64 0,.i .i64 0,.s 0 [],.i .i64 0]),(31,[.i .i64 0,.s 0 []]),(42,[.i .i64 0,.i .i64 0,.i .i64 0,.i .i64 0,.i .i64 0,.i .i64 0,.i .i64 0,.i .i64 0]),(56,[.i .u8 0,.i .u8 0,.i .u8 0,.s 0 [],.i .i8 0,.i .i8 0]),(61,[.s 0 []]),(63,[.e (.string ⟨#[]⟩),.i .i64 0,.i .i64 0,.s 0 []]),(68,[.b false,.s 0 []]),(70,[.b false,.s 0 [],.b false,.s 0 []]),(82,[.b false,.s 0 [],.b false,.s 0 [],.b false,.s 0 [],.b false,.s 0 [],.b false,.s 0 [],.b false,.s 0 []]),(84,[.b false,.s 0 [],.b false,.s 0 [],.b false,.s 0 [],.b false,.s 0 [],.b false,.s 0 [],.b false,.s 0 [],.b false,.s 0 [],.b false,.s 0 [],.b false,.s 0 [],.b false,.s 0 []]),(86,[.b false,.b false,.s 0 [],.b false,.s 0 [],.b false,.s 0 [],.b false,.s 0 [],.b false,.s 0 [],.b false,.s 0 [],.b false,.s 0 [],.b false,.s 0 [],.b false,.s 0 [],.b false,.s 0 [],.b false,.s 0 [],.b false,.s 0 [],.b false,.b false,.s 0 [],.b false,.s 0 [],.b false,.s 0 [],.b false,.s 0 [],.b false,.s 0 [],.b false,.s 0 [],.b false,.s 0 [],.b false,.s 0 [],.b false,.s 0 [],.b false,.s 0 [],.b false,.s 0 [],.b false,.s 0 [],.b false,.s 0 [],.b false,.s 0 [],.b false,.s 0 [],.b false,.s 0 [],.b false,.s 0 [],.b false,.s 0 [],.b false,.s 0 [],.b false,.s 0 []]),(167,[.b false,.s 0 [],.b false,.s 0 [],.b false,.s 0 [],.b false,.s 0 []]),(211,[.b false,.s 0 [],.b false,.s 0 [],.b false,.s 0 [],.b false,.s 0 [],.b false,.s 0 [],.b false,.s 0 []]),(217,[.i .i64 0,.b false,.s 0 [],.b false,.s 0 [],.b false,.s 0 [],.b false,.s 0 [],.b false,.s 0 [],.b false,.s 0 []]),(241,[.b false,.s 0 [],.b false,.s 0 [],.b false,.s 0 [],.b false,.s 0 [],.b false,.s 0 [],.b false,.s 0 [],.b false,.s 0 [],.b false,.s 0 [],.b false,.s 0 [],.b false,.s 0 [],.b false,.s 0 [],.b false,.s 0 []])]
def Th (U:Nat):Bool:=bif Nat.beq U 217 then true else bif Nat.beq U 86 then true else bif Nat.beq U 26 then true else false
instance:TaC Tryz.prog:=⟨tb,Tk,Th,Iy,Or (lb.2 ⟨SB,lb.2 ⟨G9,lb.2 ⟨SU,lb.2 ⟨Su,lb.2 ⟨FT,lb.2 ⟨NU,lb.2 ⟨CK,lb.2 ⟨sD,lb.2 ⟨G3,lb.2 ⟨MA,lb.2 ⟨CA,lb.2 ⟨vi,lb.2 ⟨xr,lb.2 ⟨xF,lb.2 ⟨MV,fun _ h=>nomatch h⟩⟩⟩⟩⟩⟩⟩⟩⟩⟩⟩⟩⟩⟩⟩),cZ⟩
theorem io (hL:Lim xs) (hn:xs.length≤1000000000):Ok Tryz.prog 102 [.c (cM xs)] [.c (cL (val xs))]:=by
 refine bS Tryz.func102 rfl ?_
 refine DW.mk<|aY (ι:={k:Nat // k≤xs.length∧trm (xs.take k)=trm xs}) (fun i=>⟨21,[(0,.v (.c (cM (xs.take i.1))))],[]⟩) (fun i=>i.1) ⟨xs.length,aX _,by rw[tO]⟩ (ak ⟨by rw[tO];rfl,trivial⟩ trivial rfl) ?_
 rintro⟨k,hk0,hT⟩
 have hk:(xs.take k).length=k:=by rw[cX];omega
 dsimp only
 refine jt ?_
 refine dF (au rfl) (fun c1 hb1=>?_)
 cases c1
 ·have hz:k=0:=by simp only[decide_eq_false_iff_not] at hb1;omega
  have hfin:cL (val xs)=cM (xs.take k):=by rw[GD hL,←hT,hz];rfl
  refine nE rfl<|ag ?_
  rw[hfin]
  exact am aa
 ·have h1:0<k:=by simp only[decide_eq_true_eq] at hb1;omega
  refine ar (bQ (((k-1:Nat):Int)) (by rw[hk,show((k-1:Nat):Int)=(k:Int)-1 from by omega];exact bC (by omega) (by omega)) rfl)<|ar (aC gw rfl rfl (by omega) (gG _) rfl rfl) ?_
  refine ar (aL dH rfl (im (i:=(k-1)) (by omega)) rfl) ?_
  refine cd rfl (fun hc2=>?_) (fun hc2=>?_)
  ·have hstep:=FV h1 hk0 hT hc2
   refine ar (bQ (((k-1:Nat):Int)) (by rw[hk,show((k-1:Nat):Int)=(k:Int)-1 from by omega];exact bC (by omega) (by omega)) rfl)<|ar (B7 (xs:=xs.take k) (j:=(k-1)) gw rfl rfl (by omega) rfl) ?_
   exact⟨⟨k-1,by omega,hstep⟩,ak ⟨by rw[show xs.take (k-1)=(xs.take k).take (k-1) from by rw[List.take_take,de (by omega)]];rfl,trivial⟩ trivial rfl,by show k-1<k;omega⟩
  ·have hfin:cL (val xs)=cM (xs.take k):=by rw[GD hL];exact congrArg cM (F2 h1 hk0 hT hc2)
   refine ag ?_
   rw[hfin]
   exact am aa
theorem jL (h:k<xs.length):val (xs.take (k+1))=val (xs.take k)+pw k*xs.getD k 0:=aI (getD_some h)
theorem ld (k:Nat):val (xs.take (k+1))=val (xs.take k)+pw k*xs.getD k 0:=by
 by_cases h:k<xs.length
 ·exact jL h
 ·rw[dL (by omega),List.getD,oM (by omega)];simp
structure PInv (p q:List Int) (k:Nat) (c:Int) (zs:List Int):Prop where
 le:k≤p.length
 c0:0≤c
 c1:c≤1
 L:Lim zs
 len:zs.length=k
 v:val zs+pw k*c=val (p.take k)+val (q.take k)
theorem PInv.step (h:PInv p q k c zs) (hp:Lim p) (hq:Lim q) (hk:k<p.length) (hS:S=c+p.getD k 0+q.getD k 0):PInv p q (k+1) (S/1000000000) (zs++[S%1000000000]):=by
 have h1:=bU hp k
 have h2:=bU hq k
 have:=h.c0
 have:=h.c1
 refine⟨hk,by omega,by omega,h.L.snoc (by omega) (by omega),by simp[h.len],?_⟩
 rw[ld k,ld k,jy h.len h.v (d:=S%1000000000) (c':=S/1000000000) (t:=p.getD k 0+q.getD k 0) (by omega)]
 grind
theorem PInv.done (h:PInv p q k c zs) (hk:k=p.length) (hq:q.length≤p.length):val (zs++[c])=val p+val q:=by
 have:=h.v
 rw[lH,h.len,this,hk,bM (aX _),bM hq]
structure SInv (p q:List Int) (k:Nat) (c:Int) (zs:List Int):Prop where
 le:k≤p.length
 c0:0≤c
 c1:c≤1
 L:Lim zs
 len:zs.length=k
 v:val zs-pw k*c=val (p.take k)-val (q.take k)
theorem SInv.step {c':Int}(h:SInv p q k c zs) (hk:k<p.length) (hd:0≤d) (hd2:d<1000000000) (hc0:0≤c') (hc1:c'≤1) (hS:d-1000000000*c'=p.getD k 0-c-q.getD k 0):SInv p q (k+1) c' (zs++[d]):=by
 refine⟨hk,hc0,hc1,h.L.snoc hd hd2,by simp[h.len],?_⟩
 have h1:=jy (zs:=zs) (k:=k) (c:= -c) (S:=val (p.take k)-val (q.take k)) (t:=p.getD k 0-q.getD k 0) (d:=d) (c':= -c') h.len (by rw[Int.mul_neg];have:=h.v;omega) (by omega)
 rw[ld k,ld k]
 grind
theorem SInv.done (h:SInv p q k c zs) (hk:k=p.length) (hq:q.length≤p.length) (hv:val q≤val p):val zs=val p-val q:=by
 have h1:=h.v
 rw[hk,bM (aX _),bM hq] at h1
 have h2:=dj h.L
 rw[h.len,hk] at h2
 have h4:=h.c0
 have h5:=h.c1
 have:c=0∨c=1:=by omega
 grind
structure TInv (p q:List Int) (i k:Nat) (c:Int) (zs:List Int):Prop where
 ik:i≤p.length
 kk:k≤q.length
 c0:0≤c
 c1:c<1000000000
 L:Lim zs
 len:zs.length=p.length+q.length
 z:Zr zs (i+q.length)
 v:val zs+pw (i+k)*c=val (p.take i)*val q+pw i*(p.getD i 0*val (q.take k))
theorem TInv.start:TInv p q 0 0 0 (List.replicate (p.length+q.length) 0):=
 ⟨Nat.zero_le _,cY _,by omega,by omega,Lim.zeros _,by simp,Zr.zeros _ _,by rw[su];simp[val]⟩
theorem TInv.step (h:TInv p q i k c zs) (hp:Lim p) (hq:Lim q) (hi:i<p.length) (hk:k<q.length) (hS:S=c+zs.getD (i+k) 0+p.getD i 0*q.getD k 0):
 TInv p q i (k+1) (S/1000000000) (zs.set (i+k) (S%1000000000)):=by
 have h1:=bU hp i
 have h2:=bU hq k
 have h3:=bU h.L (i+k)
 have hc0:=h.c0
 have hc1:=h.c1
 have hm0:0≤p.getD i 0*q.getD k 0:=lC h1.1 h2.1
 have hm1:p.getD i 0*q.getD k 0≤999999999*999999999:=pj (by omega) (by omega) h2.1 (by omega)
 have hlt:i+k<zs.length:=by rw[h.len];omega
 refine⟨h.ik,hk,by omega,by omega,h.L.set (by omega) (by omega),by simp[h.len],h.z.set (by omega),?_⟩
 rw[um (getD_some hlt),jL hk,show i+(k+1)=i+k+1 from by omega,cK]
 have hv:=h.v
 rw[qo i k] at*
 grind
theorem TInv.row (h:TInv p q i k c zs) (hi:i<p.length) (hk:k=q.length):TInv p q (i+1) 0 0 (zs.set (i+q.length) c):=by
 have hlt:i+q.length<zs.length:=by rw[h.len];omega
 have hz:zs.getD (i+q.length) 0=0:=h.z (i+q.length) _ (aX _) (getD_some hlt)
 refine⟨hi,cY _,by omega,by omega,h.L.set h.c0 h.c1,by simp[h.len],?_,?_⟩
 ·rw[show i+1+q.length=i+q.length+1 from by omega];exact h.z.set_at
 ·rw[um (getD_some hlt),hz,jL hi]
  have hv:=h.v
  simp only[List.take_zero,val,qF,Int.add_zero,Int.sub_zero]
  grind
theorem TInv.done (h:TInv p q i 0 0 zs) (hi:i=p.length):val zs=val p*val q:=by
 have hv:=h.v
 grind
theorem Fu (hx:i<xs.length) (hy:i<ys.length) (h:xs.drop (i+1)=ys.drop (i+1)) (he:xs.getD i 0=ys.getD i 0):xs.drop i=ys.drop i:=by
 rw[kY hx,kY hy,h]
 grind
theorem LZ (h:0≤v):dI (sg true v)=.a ([.b (decide (((ce v.natAbs).length:Int)>0))]++[cL v]):=by
 rw[ef]
 unfold dI cI
 have e1:cL (-v)=cL v:=by unfold cL;rw[Int.natAbs_neg]
 have e2:decide (-v<0)=decide (((ce v.natAbs).length:Int)>0):=by
  by_cases h0:v=0
  ·subst h0;simp[iy]
  ·have:(ce v.natAbs).length≠0:=fun e=>h0 (yS.1 e)
   rw[show decide (-v<0)=true from by simp;omega,show decide (((ce v.natAbs).length:Int)>0)=true from by simp only[decide_eq_true_eq];omega]
 grind
structure ShInv (xs:List Int) (j:Nat) (r:Int):Prop where
 le:j≤xs.length
 r0:0≤r
 v:r*pw j+val (xs.take j)=val xs
theorem ShInv.step (h:ShInv xs (i+1) r) (hL:Lim xs):ShInv xs i (r*1000000000+xs.getD i 0):=by
 have h1:=bU hL i
 refine⟨by have:=h.le;omega,by have:=h.r0;omega,?_⟩
 have hv:=h.v
 rw[ld i,cK] at hv
 grind
theorem ShInv.bound (h:ShInv xs j r) (hL:Lim xs):r≤val xs:=by
 have:=h.v
 have h1:=cW j
 have h2:=bE (hL.take j)
 have h3:=mj h1 h.r0
 grind
theorem JZ (hLxs:Lim xs) (hLys:Lim ys) (hn:xs.length≤100000000) (hm:ys.length≤100000000):Ok Tryz.prog 180 [.c (cM xs),.c (cM ys)] [.c (cL (val xs+val ys))]:=by
 refine eG Tryz.func180 55 [.tmp 4] rfl<|ab<|ah<|ab<|ab<|ah ?_
 refine aB rfl (fun hc1=>?_) (fun hc1=>?_)
 ·have hlt:xs.length<ys.length:=by simp only[decide_eq_true_eq] at hc1;omega
  refine ah<|ab<|ah ?_
  refine ar (bQ ((ys.length:Int)+1) (aP (by(first|omega|(simp;omega))) (by(first|omega|(simp;omega)))) rfl) ?_
  refine DL.mk<|tJ (lB (n:=ys.length+1) ua rfl rfl (by(first|omega|(simp;omega))) (by(first|omega|(simp;omega))) rfl) rfl<|dC ?_
  refine ab<|ah<|ab<|ab<|ah<|aA<|aY (ι:={t:Nat×Int×List Int // PInv ys xs t.1 t.2.1 t.2.2}) (fun i=>⟨55,[(0,.v (.c (cM ys))),(1,.v (.c (cM xs))),(5,.o 18 (ys.length+1) (ys.length+1)),(6,.v (.c (.i .u32 i.1.2.1))),(7,.v (.c (.i .i64 (i.1.1:Int))))],[(18,165,(i.1.2.2++List.replicate (ys.length+1-i.1.1) 0).map (CellD.i .u32))]⟩) (fun i=>ys.length-i.1.1) ⟨(0,0,[]),⟨Nat.zero_le _,pq 0,by decide,Lim.nil,rfl,by simp[val]⟩⟩ (ak ⟨rfl,rfl,rfl,rfl,rfl,trivial⟩ ⟨by rw[show(List.replicate (ys.length+1) (CellD.i .u32 0))=(([]:List Int)++List.replicate (ys.length+1-0) 0).map (CellD.i .u32) from by simp];rfl,trivial⟩ rfl) ?_
  rintro⟨⟨k,c,zs⟩,hI⟩
  replace hI:PInv ys xs k c zs:=hI
  have g1:=bU hLys k
  have g2:=bU hLxs k
  have g3:=hI.c0
  have g4:=hI.c1
  have g5:=hI.le
  have g6:=hI.len
  dsimp only
  refine ab<|ab<|ah ?_
  refine aB rfl (fun hc2=>?_) (fun hc2=>?_)
  ·have hk:k<ys.length:=by simp only[decide_eq_true_eq] at hc2;omega
   refine az<|ab<|aA<|ab<|ah ?_
   refine ar (aC gw rfl rfl (by(first|omega|(simp;omega))) (gG _) rfl rfl) ?_
   refine ar (aL dH rfl (im (i:=k) (by(first|omega|(simp;omega)))) rfl) ?_
   refine ar (bQ (c+(ys.getD k 0)) (jR (by(first|omega|(simp;omega))) (by(first|omega|(simp;omega)))) rfl) ?_
   refine ab<|ab<|ah ?_
   refine aB rfl (fun hc3=>?_) (fun hc3=>?_)
   ·have hkq:k<xs.length:=by simp only[decide_eq_true_eq] at hc3;omega
    have hS:c+ys.getD k 0+xs.getD k 0=c+ys.getD k 0+xs.getD k 0:=rfl
    have hb:c+ys.getD k 0+xs.getD k 0≤4294967295:=by omega
    refine ah ?_
    refine ar (aC gw rfl rfl (by(first|omega|(simp;omega))) (gG _) rfl rfl) ?_
    refine ar (aL dH rfl (im (i:=k) (by(first|omega|(simp;omega)))) rfl) ?_
    refine ar (bQ ((c+(ys.getD k 0))+(xs.getD k 0)) (jR (by(first|omega|(simp;omega))) (by(first|omega|(simp;omega)))) rfl) ?_
    refine ab<|bR<|fK 3<|b9 (cC (r:=(c+ys.getD k 0+xs.getD k 0)%1000000000) rfl rfl (by omega) (gA (by omega)) rfl) ?_
    refine b9 (bn gw rfl rfl (by(first|omega|(simp;omega))) rfl) ?_
    refine fV (aV (us:=((zs++List.replicate (ys.length+1-k) 0).set k ((c+ys.getD k 0+xs.getD k 0)%1000000000)).map (CellD.i .u32)) dH rfl rfl rfl rfl (by simp;omega) (mt (by(first|omega|(simp;omega)))) rfl) ?_
    refine bv<|ah<|ar (gz (r:=(c+ys.getD k 0+xs.getD k 0)/1000000000) rfl rfl (by omega) (by rw[nv (by omega)];exact mQ (by omega) (by omega)) rfl) ?_
    refine ah ?_
    refine ar (bQ ((k:Int)+1) (aP (by(first|omega|(simp;omega))) (by(first|omega|(simp;omega)))) rfl) ?_
    exact⟨⟨(k+1,(c+ys.getD k 0+xs.getD k 0)/1000000000,zs++[(c+ys.getD k 0+xs.getD k 0)%1000000000]),hI.step hLys hLxs hk hS⟩,ak ⟨rfl,rfl,rfl,rfl,by rw[show((k+1:Nat):Int)=(k:Int)+1 from by omega];rfl,trivial⟩ ⟨by rw[show ys.length+1-(k+1)=ys.length-k from by omega,←jg (m:=ys.length-k) (d:=(c+ys.getD k 0+xs.getD k 0)%1000000000) g6,show ys.length-k+1=ys.length+1-k from by omega];rfl,trivial⟩ rfl,by show ys.length-(k+1)<ys.length-k;omega⟩
   ·have hkq: ¬k<xs.length:=by simp only[decide_eq_false_iff_not] at hc3;omega
    have hq0:xs.getD k 0=0:=by rw[List.getD,oM (by omega)];rfl
    have hS:c+ys.getD k 0=c+ys.getD k 0+xs.getD k 0:=by omega
    refine az<|ab<|bR<|fK 3<|b9 (cC (r:=(c+ys.getD k 0)%1000000000) rfl rfl (by omega) (gA (by omega)) rfl) ?_
    refine b9 (bn gw rfl rfl (by(first|omega|(simp;omega))) rfl) ?_
    refine fV (aV (us:=((zs++List.replicate (ys.length+1-k) 0).set k ((c+ys.getD k 0)%1000000000)).map (CellD.i .u32)) dH rfl rfl rfl rfl (by simp;omega) (mt (by(first|omega|(simp;omega)))) rfl) ?_
    refine bv<|ah<|ar (gz (r:=(c+ys.getD k 0)/1000000000) rfl rfl (by omega) (by rw[nv (by omega)];exact mQ (by omega) (by omega)) rfl) ?_
    refine ah ?_
    refine ar (bQ ((k:Int)+1) (aP (by(first|omega|(simp;omega))) (by(first|omega|(simp;omega)))) rfl) ?_
    exact⟨⟨(k+1,(c+ys.getD k 0)/1000000000,zs++[(c+ys.getD k 0)%1000000000]),hI.step hLys hLxs hk hS⟩,ak ⟨rfl,rfl,rfl,rfl,by rw[show((k+1:Nat):Int)=(k:Int)+1 from by omega];rfl,trivial⟩ ⟨by rw[show ys.length+1-(k+1)=ys.length-k from by omega,←jg (m:=ys.length-k) (d:=(c+ys.getD k 0)%1000000000) g6,show ys.length-k+1=ys.length+1-k from by omega];rfl,trivial⟩ rfl,by show ys.length-(k+1)<ys.length-k;omega⟩
  ·have hk:k=ys.length:=by simp only[decide_eq_false_iff_not] at hc2;omega
   have hfin:(val xs+val ys:Int)=val ((zs++List.replicate (ys.length+1-k) 0).set ys.length c):=by rw[show ys.length+1-k=0+1 from by omega,jg (by omega)];simp only[List.replicate_zero,lN];rw[hI.done hk (by omega)];omega
   have hLf:Lim ((zs++List.replicate (ys.length+1-k) 0).set ys.length c):=(hI.L.append (Lim.zeros _)).set g3 (by omega)
   refine aW<|ab<|bR<|fK 4 ?_
   refine b9 (bn gw rfl rfl (by(first|omega|(simp;omega))) rfl) ?_
   refine fV (aV (us:=((zs++List.replicate (ys.length+1-k) 0).set ys.length c).map (CellD.i .u32)) dH rfl rfl rfl rfl (by simp;omega) (mt (by(first|omega|(simp;omega)))) rfl) ?_
   refine bv<|ab ?_
   refine pF (t:=5) (zs:=(zs++List.replicate (ys.length+1-k) 0).set ys.length c) (ys:=(zs++List.replicate (ys.length+1-k) 0).set ys.length c) rfl rfl (by first|omega|(simp;omega)|simp) (by omega) (by omega) (fp (by first|omega|(simp;omega)|simp)) ?_
   refine ah<|ac rfl (io hLf (by simp;omega))<|bh ?_
   rw[hfin]
   exact ag (am aa)
 ·have hlt:ys.length≤xs.length:=by simp only[decide_eq_false_iff_not] at hc1;omega
  refine az<|ab<|ah ?_
  refine ar (bQ ((xs.length:Int)+1) (aP (by(first|omega|(simp;omega))) (by(first|omega|(simp;omega)))) rfl) ?_
  refine DL.mk<|tJ (lB (n:=xs.length+1) ua rfl rfl (by(first|omega|(simp;omega))) (by(first|omega|(simp;omega))) rfl) rfl<|dC ?_
  refine ab<|ah<|ab<|ab<|ah<|aA<|aY (ι:={t:Nat×Int×List Int // PInv xs ys t.1 t.2.1 t.2.2}) (fun i=>⟨55,[(0,.v (.c (cM xs))),(1,.v (.c (cM ys))),(5,.o 18 (xs.length+1) (xs.length+1)),(6,.v (.c (.i .u32 i.1.2.1))),(7,.v (.c (.i .i64 (i.1.1:Int))))],[(18,165,(i.1.2.2++List.replicate (xs.length+1-i.1.1) 0).map (CellD.i .u32))]⟩) (fun i=>xs.length-i.1.1) ⟨(0,0,[]),⟨Nat.zero_le _,pq 0,by decide,Lim.nil,rfl,by simp[val]⟩⟩ (ak ⟨rfl,rfl,rfl,rfl,rfl,trivial⟩ ⟨by rw[show(List.replicate (xs.length+1) (CellD.i .u32 0))=(([]:List Int)++List.replicate (xs.length+1-0) 0).map (CellD.i .u32) from by simp];rfl,trivial⟩ rfl) ?_
  rintro⟨⟨k,c,zs⟩,hI⟩
  replace hI:PInv xs ys k c zs:=hI
  have g1:=bU hLxs k
  have g2:=bU hLys k
  have g3:=hI.c0
  have g4:=hI.c1
  have g5:=hI.le
  have g6:=hI.len
  dsimp only
  refine ab<|ab<|ah ?_
  refine aB rfl (fun hc4=>?_) (fun hc4=>?_)
  ·have hk:k<xs.length:=by simp only[decide_eq_true_eq] at hc4;omega
   refine az<|ab<|aA<|ab<|ah ?_
   refine ar (aC gw rfl rfl (by(first|omega|(simp;omega))) (gG _) rfl rfl) ?_
   refine ar (aL dH rfl (im (i:=k) (by(first|omega|(simp;omega)))) rfl) ?_
   refine ar (bQ (c+(xs.getD k 0)) (jR (by(first|omega|(simp;omega))) (by(first|omega|(simp;omega)))) rfl) ?_
   refine ab<|ab<|ah ?_
   refine aB rfl (fun hc5=>?_) (fun hc5=>?_)
   ·have hkq:k<ys.length:=by simp only[decide_eq_true_eq] at hc5;omega
    have hS:c+xs.getD k 0+ys.getD k 0=c+xs.getD k 0+ys.getD k 0:=rfl
    have hb:c+xs.getD k 0+ys.getD k 0≤4294967295:=by omega
    refine ah ?_
    refine ar (aC gw rfl rfl (by(first|omega|(simp;omega))) (gG _) rfl rfl) ?_
    refine ar (aL dH rfl (im (i:=k) (by(first|omega|(simp;omega)))) rfl) ?_
    refine ar (bQ ((c+(xs.getD k 0))+(ys.getD k 0)) (jR (by(first|omega|(simp;omega))) (by(first|omega|(simp;omega)))) rfl) ?_
    refine ab<|bR<|fK 3<|b9 (cC (r:=(c+xs.getD k 0+ys.getD k 0)%1000000000) rfl rfl (by omega) (gA (by omega)) rfl) ?_
    refine b9 (bn gw rfl rfl (by(first|omega|(simp;omega))) rfl) ?_
    refine fV (aV (us:=((zs++List.replicate (xs.length+1-k) 0).set k ((c+xs.getD k 0+ys.getD k 0)%1000000000)).map (CellD.i .u32)) dH rfl rfl rfl rfl (by simp;omega) (mt (by(first|omega|(simp;omega)))) rfl) ?_
    refine bv<|ah<|ar (gz (r:=(c+xs.getD k 0+ys.getD k 0)/1000000000) rfl rfl (by omega) (by rw[nv (by omega)];exact mQ (by omega) (by omega)) rfl) ?_
    refine ah ?_
    refine ar (bQ ((k:Int)+1) (aP (by(first|omega|(simp;omega))) (by(first|omega|(simp;omega)))) rfl) ?_
    exact⟨⟨(k+1,(c+xs.getD k 0+ys.getD k 0)/1000000000,zs++[(c+xs.getD k 0+ys.getD k 0)%1000000000]),hI.step hLxs hLys hk hS⟩,ak ⟨rfl,rfl,rfl,rfl,by rw[show((k+1:Nat):Int)=(k:Int)+1 from by omega];rfl,trivial⟩ ⟨by rw[show xs.length+1-(k+1)=xs.length-k from by omega,←jg (m:=xs.length-k) (d:=(c+xs.getD k 0+ys.getD k 0)%1000000000) g6,show xs.length-k+1=xs.length+1-k from by omega];rfl,trivial⟩ rfl,by show xs.length-(k+1)<xs.length-k;omega⟩
   ·have hkq: ¬k<ys.length:=by simp only[decide_eq_false_iff_not] at hc5;omega
    have hq0:ys.getD k 0=0:=by rw[List.getD,oM (by omega)];rfl
    have hS:c+xs.getD k 0=c+xs.getD k 0+ys.getD k 0:=by omega
    refine az<|ab<|bR<|fK 3<|b9 (cC (r:=(c+xs.getD k 0)%1000000000) rfl rfl (by omega) (gA (by omega)) rfl) ?_
    refine b9 (bn gw rfl rfl (by(first|omega|(simp;omega))) rfl) ?_
    refine fV (aV (us:=((zs++List.replicate (xs.length+1-k) 0).set k ((c+xs.getD k 0)%1000000000)).map (CellD.i .u32)) dH rfl rfl rfl rfl (by simp;omega) (mt (by(first|omega|(simp;omega)))) rfl) ?_
    refine bv<|ah<|ar (gz (r:=(c+xs.getD k 0)/1000000000) rfl rfl (by omega) (by rw[nv (by omega)];exact mQ (by omega) (by omega)) rfl) ?_
    refine ah ?_
    refine ar (bQ ((k:Int)+1) (aP (by(first|omega|(simp;omega))) (by(first|omega|(simp;omega)))) rfl) ?_
    exact⟨⟨(k+1,(c+xs.getD k 0)/1000000000,zs++[(c+xs.getD k 0)%1000000000]),hI.step hLxs hLys hk hS⟩,ak ⟨rfl,rfl,rfl,rfl,by rw[show((k+1:Nat):Int)=(k:Int)+1 from by omega];rfl,trivial⟩ ⟨by rw[show xs.length+1-(k+1)=xs.length-k from by omega,←jg (m:=xs.length-k) (d:=(c+xs.getD k 0)%1000000000) g6,show xs.length-k+1=xs.length+1-k from by omega];rfl,trivial⟩ rfl,by show xs.length-(k+1)<xs.length-k;omega⟩
  ·have hk:k=xs.length:=by simp only[decide_eq_false_iff_not] at hc4;omega
   have hfin:(val xs+val ys:Int)=val ((zs++List.replicate (xs.length+1-k) 0).set xs.length c):=by rw[show xs.length+1-k=0+1 from by omega,jg (by omega)];simp only[List.replicate_zero,lN];rw[hI.done hk (by omega)]
   have hLf:Lim ((zs++List.replicate (xs.length+1-k) 0).set xs.length c):=(hI.L.append (Lim.zeros _)).set g3 (by omega)
   refine aW<|ab<|bR<|fK 4 ?_
   refine b9 (bn gw rfl rfl (by(first|omega|(simp;omega))) rfl) ?_
   refine fV (aV (us:=((zs++List.replicate (xs.length+1-k) 0).set xs.length c).map (CellD.i .u32)) dH rfl rfl rfl rfl (by simp;omega) (mt (by(first|omega|(simp;omega)))) rfl) ?_
   refine bv<|ab ?_
   refine pF (t:=5) (zs:=(zs++List.replicate (xs.length+1-k) 0).set xs.length c) (ys:=(zs++List.replicate (xs.length+1-k) 0).set xs.length c) rfl rfl (by first|omega|(simp;omega)|simp) (by omega) (by omega) (fp (by first|omega|(simp;omega)|simp)) ?_
   refine ah<|ac rfl (io hLf (by simp;omega))<|bh ?_
   rw[hfin]
   exact ag (am aa)
theorem FW (hLxs:Lim xs) (hLys:Lim ys) (hn:xs.length≤100000000) (hlen:ys.length≤xs.length) (hle:val ys≤val xs):Ok Tryz.prog 155 [.c (cM xs),.c (cM ys)] [.c (cL (val xs-val ys))]:=by
 refine eG Tryz.func155 45 [.tmp 4] rfl<|ab<|ah<|ab<|ah ?_
 refine DL.mk<|tJ (lB (n:=xs.length) ua rfl rfl (by(first|omega|(simp;omega))) (by(first|omega|(simp;omega))) rfl) rfl<|dC ?_
 refine ab<|ah<|ab<|ab<|ah<|aA<|aY (ι:={t:Nat×Int×List Int // SInv xs ys t.1 t.2.1 t.2.2}) (fun i=>⟨45,[(0,.v (.c (cM xs))),(1,.v (.c (cM ys))),(5,.o 11 xs.length xs.length),(6,.v (.c (.i .u32 i.1.2.1))),(7,.v (.c (.i .i64 (i.1.1:Int))))],[(11,165,(i.1.2.2++List.replicate (xs.length-i.1.1) 0).map (CellD.i .u32))]⟩) (fun i=>xs.length-i.1.1) ⟨(0,0,[]),⟨Nat.zero_le _,pq 0,by decide,Lim.nil,rfl,by simp[val]⟩⟩ (ak ⟨rfl,rfl,rfl,rfl,rfl,trivial⟩ ⟨by rw[show(List.replicate xs.length (CellD.i .u32 0))=(([]:List Int)++List.replicate (xs.length-0) 0).map (CellD.i .u32) from by simp];rfl,trivial⟩ rfl) ?_
 rintro⟨⟨k,c,zs⟩,hI⟩
 replace hI:SInv xs ys k c zs:=hI
 have g1:=bU hLxs k
 have g2:=bU hLys k
 have g3:=hI.c0
 have g4:=hI.c1
 have g5:=hI.le
 have g6:=hI.len
 dsimp only
 refine ab<|ab<|ah ?_
 refine aB rfl (fun hc1=>?_) (fun hc1=>?_)
 ·have hk:k<xs.length:=by simp only[decide_eq_true_eq] at hc1;omega
  refine az<|ab<|aA<|ab<|ah ?_
  refine ar (aC gw rfl rfl (by(first|omega|(simp;omega))) (gG _) rfl rfl) ?_
  refine ar (aL dH rfl (im (i:=k) (by(first|omega|(simp;omega)))) rfl) ?_
  refine ar (bQ ((xs.getD k 0)+1000000000) (jR (by(first|omega|(simp;omega))) (by(first|omega|(simp;omega)))) rfl) ?_
  refine ar (bQ (((xs.getD k 0)+1000000000)-c) (mu (by(first|omega|(simp;omega))) (by(first|omega|(simp;omega)))) rfl) ?_
  refine ab<|ab<|ah ?_
  refine aB rfl (fun hc2=>?_) (fun hc2=>?_)
  ·have hkq:k<ys.length:=by simp only[decide_eq_true_eq] at hc2;omega
   refine ah ?_
   refine ar (aC gw rfl rfl (by(first|omega|(simp;omega))) (gG _) rfl rfl) ?_
   refine ar (aL dH rfl (im (i:=k) (by(first|omega|(simp;omega)))) rfl) ?_
   refine ar (bQ ((((xs.getD k 0)+1000000000)-c)-(ys.getD k 0)) (mu (by(first|omega|(simp;omega))) (by(first|omega|(simp;omega)))) rfl) ?_
   refine ab<|ah<|ab<|ab<|ah ?_
   refine aB rfl (fun hc3=>?_) (fun hc3=>?_)
   ·simp only[decide_eq_true_eq] at hc3
    have hd1:0≤xs.getD k 0+1000000000-c-ys.getD k 0-1000000000:=by omega
    have hd2:xs.getD k 0+1000000000-c-ys.getD k 0-1000000000<1000000000:=by omega
    have hd3:(0:Int)≤0:=by omega
    have hd4:(0:Int)≤1:=by omega
    have hdS:xs.getD k 0+1000000000-c-ys.getD k 0-1000000000-1000000000*0=xs.getD k 0-c-ys.getD k 0:=by omega
    refine ah ?_
    refine ar (bQ (((((xs.getD k 0)+1000000000)-c)-(ys.getD k 0))-1000000000) (mu (by(first|omega|(simp;omega))) (by(first|omega|(simp;omega)))) rfl) ?_
    refine bR<|fK 3 ?_
    refine b9 (bn gw rfl rfl (by(first|omega|(simp;omega))) rfl) ?_
    refine fV (aV (us:=((zs++List.replicate (xs.length-k) 0).set k (((((xs.getD k 0)+1000000000)-c)-(ys.getD k 0))-1000000000)).map (CellD.i .u32)) dH rfl rfl rfl rfl (by simp;omega) (mt (by(first|omega|(simp;omega)))) rfl) ?_
    refine bv<|ah ?_
    refine ar (bQ ((k:Int)+1) (aP (by(first|omega|(simp;omega))) (by(first|omega|(simp;omega)))) rfl) ?_
    exact⟨⟨(k+1,0,zs++[xs.getD k 0+1000000000-c-ys.getD k 0-1000000000]),hI.step hk hd1 hd2 hd3 hd4 hdS⟩,ak ⟨rfl,rfl,rfl,rfl,by rw[show((k+1:Nat):Int)=(k:Int)+1 from by omega];rfl,trivial⟩ ⟨by rw[show xs.length-(k+1)=xs.length-k-1 from by omega,←jg (m:=xs.length-k-1) (d:=xs.getD k 0+1000000000-c-ys.getD k 0-1000000000) g6,show xs.length-k-1+1=xs.length-k from by omega];rfl,trivial⟩ rfl,by show xs.length-(k+1)<xs.length-k;omega⟩
   ·simp only[decide_eq_false_iff_not] at hc3
    have hd1:0≤xs.getD k 0+1000000000-c-ys.getD k 0:=by omega
    have hd2:xs.getD k 0+1000000000-c-ys.getD k 0<1000000000:=by omega
    have hd3:(0:Int)≤1:=by omega
    have hd4:(1:Int)≤1:=by omega
    have hdS:xs.getD k 0+1000000000-c-ys.getD k 0-1000000000*1=xs.getD k 0-c-ys.getD k 0:=by omega
    refine az<|bR<|fK 3 ?_
    refine b9 (bn gw rfl rfl (by(first|omega|(simp;omega))) rfl) ?_
    refine fV (aV (us:=((zs++List.replicate (xs.length-k) 0).set k ((((xs.getD k 0)+1000000000)-c)-(ys.getD k 0))).map (CellD.i .u32)) dH rfl rfl rfl rfl (by simp;omega) (mt (by(first|omega|(simp;omega)))) rfl) ?_
    refine bv<|ah ?_
    refine ar (bQ ((k:Int)+1) (aP (by(first|omega|(simp;omega))) (by(first|omega|(simp;omega)))) rfl) ?_
    exact⟨⟨(k+1,1,zs++[xs.getD k 0+1000000000-c-ys.getD k 0]),hI.step hk hd1 hd2 hd3 hd4 hdS⟩,ak ⟨rfl,rfl,rfl,rfl,by rw[show((k+1:Nat):Int)=(k:Int)+1 from by omega];rfl,trivial⟩ ⟨by rw[show xs.length-(k+1)=xs.length-k-1 from by omega,←jg (m:=xs.length-k-1) (d:=xs.getD k 0+1000000000-c-ys.getD k 0) g6,show xs.length-k-1+1=xs.length-k from by omega];rfl,trivial⟩ rfl,by show xs.length-(k+1)<xs.length-k;omega⟩
  ·have hkq: ¬k<ys.length:=by simp only[decide_eq_false_iff_not] at hc2;omega
   have hq0:ys.getD k 0=0:=by rw[List.getD,oM (by omega)];rfl
   refine az<|ab<|ah<|ab<|ab<|ah ?_
   refine aB rfl (fun hc4=>?_) (fun hc4=>?_)
   ·simp only[decide_eq_true_eq] at hc4
    have hd1:0≤xs.getD k 0+1000000000-c-1000000000:=by omega
    have hd2:xs.getD k 0+1000000000-c-1000000000<1000000000:=by omega
    have hd3:(0:Int)≤0:=by omega
    have hd4:(0:Int)≤1:=by omega
    have hdS:xs.getD k 0+1000000000-c-1000000000-1000000000*0=xs.getD k 0-c-ys.getD k 0:=by omega
    refine ah ?_
    refine ar (bQ ((((xs.getD k 0)+1000000000)-c)-1000000000) (mu (by(first|omega|(simp;omega))) (by(first|omega|(simp;omega)))) rfl) ?_
    refine bR<|fK 3 ?_
    refine b9 (bn gw rfl rfl (by(first|omega|(simp;omega))) rfl) ?_
    refine fV (aV (us:=((zs++List.replicate (xs.length-k) 0).set k ((((xs.getD k 0)+1000000000)-c)-1000000000)).map (CellD.i .u32)) dH rfl rfl rfl rfl (by simp;omega) (mt (by(first|omega|(simp;omega)))) rfl) ?_
    refine bv<|ah ?_
    refine ar (bQ ((k:Int)+1) (aP (by(first|omega|(simp;omega))) (by(first|omega|(simp;omega)))) rfl) ?_
    exact⟨⟨(k+1,0,zs++[xs.getD k 0+1000000000-c-1000000000]),hI.step hk hd1 hd2 hd3 hd4 hdS⟩,ak ⟨rfl,rfl,rfl,rfl,by rw[show((k+1:Nat):Int)=(k:Int)+1 from by omega];rfl,trivial⟩ ⟨by rw[show xs.length-(k+1)=xs.length-k-1 from by omega,←jg (m:=xs.length-k-1) (d:=xs.getD k 0+1000000000-c-1000000000) g6,show xs.length-k-1+1=xs.length-k from by omega];rfl,trivial⟩ rfl,by show xs.length-(k+1)<xs.length-k;omega⟩
   ·simp only[decide_eq_false_iff_not] at hc4
    have hd1:0≤xs.getD k 0+1000000000-c:=by omega
    have hd2:xs.getD k 0+1000000000-c<1000000000:=by omega
    have hd3:(0:Int)≤1:=by omega
    have hd4:(1:Int)≤1:=by omega
    have hdS:xs.getD k 0+1000000000-c-1000000000*1=xs.getD k 0-c-ys.getD k 0:=by omega
    refine az<|bR<|fK 3 ?_
    refine b9 (bn gw rfl rfl (by(first|omega|(simp;omega))) rfl) ?_
    refine fV (aV (us:=((zs++List.replicate (xs.length-k) 0).set k (((xs.getD k 0)+1000000000)-c)).map (CellD.i .u32)) dH rfl rfl rfl rfl (by simp;omega) (mt (by(first|omega|(simp;omega)))) rfl) ?_
    refine bv<|ah ?_
    refine ar (bQ ((k:Int)+1) (aP (by(first|omega|(simp;omega))) (by(first|omega|(simp;omega)))) rfl) ?_
    exact⟨⟨(k+1,1,zs++[xs.getD k 0+1000000000-c]),hI.step hk hd1 hd2 hd3 hd4 hdS⟩,ak ⟨rfl,rfl,rfl,rfl,by rw[show((k+1:Nat):Int)=(k:Int)+1 from by omega];rfl,trivial⟩ ⟨by rw[show xs.length-(k+1)=xs.length-k-1 from by omega,←jg (m:=xs.length-k-1) (d:=xs.getD k 0+1000000000-c) g6,show xs.length-k-1+1=xs.length-k from by omega];rfl,trivial⟩ rfl,by show xs.length-(k+1)<xs.length-k;omega⟩
 ·have hk:k=xs.length:=by simp only[decide_eq_false_iff_not] at hc1;omega
  have hfin:val xs-val ys=val (zs++List.replicate (xs.length-k) 0):=by rw[show xs.length-k=0 from by omega];simp only[List.replicate_zero,lN];rw[hI.done hk hlen hle]
  have hLf:Lim (zs++List.replicate (xs.length-k) 0):=hI.L.append (Lim.zeros _)
  refine aW<|ab ?_
  refine pF (t:=5) (zs:=zs++List.replicate (xs.length-k) 0) (ys:=zs++List.replicate (xs.length-k) 0) rfl rfl (by first|omega|(simp;omega)|simp) (by omega) (by omega) (fp (by first|omega|(simp;omega)|simp)) ?_
  refine ah<|ac rfl (io hLf (by simp;omega))<|bh ?_
  rw[hfin]
  exact ag (am aa)
end Go.Proofs.YtkfgimjmgfoneaaGreatDoor
