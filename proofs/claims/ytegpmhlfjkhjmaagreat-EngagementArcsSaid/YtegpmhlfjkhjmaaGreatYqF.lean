/-The types of this program,as the walks ask of them. -/
import Derived.Test.YtegpmhlfjkhjmaaGreatYqE
import Derived.Test.YtegpmhlfjkhjmaaGreatProg
namespace Go.Proofs.YtegpmhlfjkhjmaaGreat
open Go Go.RowKit
variable {ops:Array Oper}{B:BF}{z:CellD}{Q:Exit→St→Prop}{S a b c d m r u v x y:Int}{ki:IntKind}{tm:List (Nat×DV)}{bx nb:List (Nat×TypeId×List CellD)}{cs:List CellD}{p q rs xs ys zs:List Int}{hs sd:List Nat}{l os pre tail:List Oper}{by_ i id j k n:Nat}{op:Op}{P:Program}{s:SA}{σ:St}{K:St→Prop}{T:TF}{U e t1 t2 xt yt:TypeId}
variable {ty:TypeId}{pos:String}{af:Array Edge}{g:Option (Nat×Bool)}{dst:Option Nat}
theorem eH:type_of% @Ok.fn:=@Ok.fn
theorem pv:type_of% @Int.fdiv_eq_ediv_of_nonneg:=@Int.fdiv_eq_ediv_of_nonneg
theorem pD:type_of% @Int.mul_zero:=@Int.mul_zero
theorem rD:type_of% @List.forall_mem_cons:=@List.forall_mem_cons
theorem pd:type_of% @Int.tdiv_eq_ediv_of_nonneg:=@Int.tdiv_eq_ediv_of_nonneg
theorem qv:type_of% @Int.tmod_eq_emod_of_nonneg:=@Int.tmod_eq_emod_of_nonneg
theorem rL:type_of% @Int.mul_ediv_add_emod:=@Int.mul_ediv_add_emod
theorem Az:type_of% @Int.eq_ofNat_of_zero_le:=@Int.eq_ofNat_of_zero_le
theorem dM:Tryz.prog.follows .mixedOrders=true:=by kernel_rfl
theorem gO:Tryz.prog.underlying 4=some .bool:=by kernel_rfl
theorem ln (m:Nat) (hpre:l.take m=pre) (htail:l.drop m=tail)
 (h:dq Tryz.prog l.toArray [] pre ⟨σ,[],[]⟩ fun s=>dl Tryz.prog l.toArray tail s.merge (Q .normal)) (hc:Iz l.toArray m σ.n=true:=by kernel_rfl):Dw Tryz.prog (.region id l.toArray true) σ Q:=pJ m [] dM hc hpre htail h
theorem dr:tR Tryz.prog 106=some (47,20,320,[.b false,.s 0 [],.b false,.s 0 [],.b false,.s 0 [],.b false,.s 0 [],.b false,.s 0 [],.b false,.s 0 [],.b false,.s 0 [],.b false,.s 0 [],.b false,.s 0 [],.b false,.s 0 []]):=by kernel_rfl
theorem VT:tR Tryz.prog 222=some (2,1,8,[.i .i64 0]):=by kernel_rfl
theorem F2:tR Tryz.prog 28=some (40,12,192,[.b false,.s 0 [],.b false,.s 0 [],.b false,.s 0 [],.b false,.s 0 [],.b false,.s 0 [],.b false,.s 0 []]):=by kernel_rfl
theorem lT:tR Tryz.prog 31=some (49,66,1040,[.b false,.b false,.s 0 [],.b false,.s 0 [],.b false,.s 0 [],.b false,.s 0 [],.b false,.s 0 [],.b false,.s 0 [],.b false,.s 0 [],.b false,.s 0 [],.b false,.s 0 [],.b false,.s 0 [],.b false,.s 0 [],.b false,.s 0 [],.b false,.b false,.s 0 [],.b false,.s 0 [],.b false,.s 0 [],.b false,.s 0 [],.b false,.s 0 [],.b false,.s 0 [],.b false,.s 0 [],.b false,.s 0 [],.b false,.s 0 [],.b false,.s 0 [],.b false,.s 0 [],.b false,.s 0 [],.b false,.s 0 [],.b false,.s 0 [],.b false,.s 0 [],.b false,.s 0 [],.b false,.s 0 [],.b false,.s 0 [],.b false,.s 0 [],.b false,.s 0 []]):=by kernel_rfl
theorem xR:tR Tryz.prog 34=some (194,1,4,[.i .u32 0]):=by kernel_rfl
theorem WD:tR Tryz.prog 95=some (4,1,1,[.b false]):=by kernel_rfl
theorem Xq:RR Tryz.prog 49 3=some 25:=by kernel_rfl
theorem I5:RR Tryz.prog 49 4=some 26:=by kernel_rfl
theorem Al:RR Tryz.prog 49 5=some 46:=by kernel_rfl
theorem m9:Mb Tryz.prog 129=some [(0,4),(4,4),(8,4)]:=by kernel_rfl
theorem U5:Mb Tryz.prog 186=some [(0,4),(4,4),(8,4),(12,4),(16,4),(20,4)]:=by kernel_rfl
theorem qZ:Mb Tryz.prog 230=some [(0,1),(1,1)]:=by kernel_rfl
theorem Zn:Mb Tryz.prog 313=some [(0,1)]:=by kernel_rfl
theorem JH:Mb Tryz.prog 36=some [(0,1),(1,1)]:=by kernel_rfl
theorem vu:Mb Tryz.prog 38=some [(0,2),(2,2)]:=by kernel_rfl
theorem XP:Mb Tryz.prog 40=some [(0,4),(4,4),(8,4)]:=by kernel_rfl
theorem WF:Mb Tryz.prog 45=some [(0,4),(4,4),(8,4)]:=by kernel_rfl
theorem Dn:Mb Tryz.prog 47=some [(0,4),(4,4),(8,4),(12,4),(16,4)]:=by kernel_rfl
theorem Un:Mb Tryz.prog 49=some [(0,1),(1,12),(13,12),(25,1),(26,20),(46,20)]:=by kernel_rfl
theorem IL:Mb Tryz.prog 65=some [(0,4),(4,4)]:=by kernel_rfl
theorem cA:th Tryz.prog 106=some 20:=by kernel_rfl
theorem KH:th Tryz.prog 222=some 1:=by kernel_rfl
theorem ZM:th Tryz.prog 26=some 4:=by kernel_rfl
theorem Dv:th Tryz.prog 28=some 12:=by kernel_rfl
theorem gF:th Tryz.prog 31=some 66:=by kernel_rfl
theorem ju:th Tryz.prog 34=some 1:=by kernel_rfl
theorem zG:th Tryz.prog 95=some 1:=by kernel_rfl
theorem dh:ti Tryz.prog 129=some (true,12):=by kernel_rfl
theorem V4:ti Tryz.prog 186=some (true,24):=by kernel_rfl
theorem fF:ti Tryz.prog 194=some (false,1):=by kernel_rfl
theorem Tk:ti Tryz.prog 2=some (false,1):=by kernel_rfl
theorem jV:ti Tryz.prog 230=some (true,2):=by kernel_rfl
theorem aaO:ti Tryz.prog 25=some (true,4):=by kernel_rfl
theorem dT:ti Tryz.prog 36=some (true,2):=by kernel_rfl
theorem bF:ti Tryz.prog 38=some (true,4):=by kernel_rfl
theorem kP:ti Tryz.prog 4=some (false,1):=by kernel_rfl
theorem qV:ti Tryz.prog 40=some (true,12):=by kernel_rfl
theorem Nd:ti Tryz.prog 45=some (true,12):=by kernel_rfl
theorem bv:ti Tryz.prog 47=some (true,20):=by kernel_rfl
theorem bW:ti Tryz.prog 49=some (true,66):=by kernel_rfl
theorem P5:ti Tryz.prog 65=some (true,8):=by kernel_rfl
theorem EQ:Tryz.prog.underlying 171=some (.int .u64):=by kernel_rfl
theorem fM:Tryz.prog.underlying 190=some (.int .u64):=by kernel_rfl
theorem jH:Tryz.prog.underlying 194=some (.int .u32):=by kernel_rfl
theorem AT:Tryz.prog.underlying 2=some (.int .i64):=by kernel_rfl
theorem VB:Tryz.prog.underlying 22=some (.int .i16):=by kernel_rfl
theorem ZI:Tryz.prog.underlying 23=some (.int .u16):=by kernel_rfl
theorem Ps:Tryz.prog.underlying 3=some (.int .i64):=by kernel_rfl
theorem Ym:Tryz.prog.underlying 5=some (.int .u8):=by kernel_rfl
theorem lh:Be Tryz.prog 129=some [.b false,.s 0 [],.b false,.s 0 [],.b false,.s 0 [],.b false,.s 0 [],.b false,.s 0 [],.b false,.s 0 []]:=by kernel_rfl
theorem Zd:Be Tryz.prog 148=some [.i .i64 0,.i .i64 0,.i .i64 0]:=by kernel_rfl
theorem Q6:Be Tryz.prog 186=some [.b false,.s 0 [],.b false,.s 0 [],.b false,.s 0 [],.b false,.s 0 [],.b false,.s 0 [],.b false,.s 0 [],.b false,.s 0 [],.b false,.s 0 [],.b false,.s 0 [],.b false,.s 0 [],.b false,.s 0 [],.b false,.s 0 []]:=by kernel_rfl
theorem qr:Be Tryz.prog 230=some [.i .i64 0,.i .i64 0]:=by kernel_rfl
theorem aa9:Be Tryz.prog 256=some [.b false,.s 0 [],.b false,.s 0 [],.b false,.s 0 [],.b false,.s 0 []]:=by kernel_rfl
theorem Zx:Be Tryz.prog 303=some [.i .i64 0,.b false,.s 0 [],.b false,.s 0 [],.b false,.s 0 [],.b false,.s 0 [],.b false,.s 0 [],.b false,.s 0 []]:=by kernel_rfl
theorem abE:Be Tryz.prog 313=some [.b false]:=by kernel_rfl
theorem GE:Be Tryz.prog 36=some [.b false,.s 0 []]:=by kernel_rfl
theorem uC:Be Tryz.prog 38=some [.b false,.s 0 [],.b false,.s 0 []]:=by kernel_rfl
theorem Ud:Be Tryz.prog 40=some [.b false,.s 0 [],.b false,.s 0 [],.b false,.s 0 [],.b false,.s 0 [],.b false,.s 0 [],.b false,.s 0 []]:=by kernel_rfl
theorem R5:Be Tryz.prog 45=some [.b false,.s 0 [],.b false,.s 0 [],.b false,.s 0 [],.b false,.s 0 [],.b false,.s 0 [],.b false,.s 0 []]:=by kernel_rfl
theorem yY:Be Tryz.prog 47=some [.b false,.s 0 [],.b false,.s 0 [],.b false,.s 0 [],.b false,.s 0 [],.b false,.s 0 [],.b false,.s 0 [],.b false,.s 0 [],.b false,.s 0 [],.b false,.s 0 [],.b false,.s 0 []]:=by kernel_rfl
theorem EV:Be Tryz.prog 49=some [.b false,.b false,.s 0 [],.b false,.s 0 [],.b false,.s 0 [],.b false,.s 0 [],.b false,.s 0 [],.b false,.s 0 [],.b false,.s 0 [],.b false,.s 0 [],.b false,.s 0 [],.b false,.s 0 [],.b false,.s 0 [],.b false,.s 0 [],.b false,.b false,.s 0 [],.b false,.s 0 [],.b false,.s 0 [],.b false,.s 0 [],.b false,.s 0 [],.b false,.s 0 [],.b false,.s 0 [],.b false,.s 0 [],.b false,.s 0 [],.b false,.s 0 [],.b false,.s 0 [],.b false,.s 0 [],.b false,.s 0 [],.b false,.s 0 [],.b false,.s 0 [],.b false,.s 0 [],.b false,.s 0 [],.b false,.s 0 [],.b false,.s 0 [],.b false,.s 0 []]:=by kernel_rfl
theorem G8:Be Tryz.prog 65=some [.b false,.s 0 [],.b false,.s 0 [],.b false,.s 0 [],.b false,.s 0 []]:=by kernel_rfl
theorem acA:Be Tryz.prog 72=some [.i .i64 0,.i .i64 0]:=by kernel_rfl
def tyF (U:Nat):Option (Bool×Nat):=bif Nat.blt U 73 then(bif Nat.blt U 36 then(bif Nat.blt U 22 then(bif Nat.blt U 5 then(bif Nat.blt U 3 then(bif Nat.beq U 2 then some (false,1) else none) else(bif Nat.blt U 4 then(bif Nat.beq U 3 then some (false,1) else none) else(bif Nat.beq U 4 then some (false,1) else none))) else(bif Nat.blt U 12 then(bif Nat.blt U 6 then(bif Nat.beq U 5 then some (false,1) else none) else(bif Nat.beq U 6 then some (false,1) else none)) else(bif Nat.blt U 21 then(bif Nat.beq U 12 then some (false,1) else none) else(bif Nat.beq U 21 then some (false,1) else none)))) else(bif Nat.blt U 26 then(bif Nat.blt U 23 then(bif Nat.beq U 22 then some (false,1) else none) else(bif Nat.blt U 25 then(bif Nat.beq U 23 then some (false,1) else none) else(bif Nat.beq U 25 then some (true,4) else none))) else(bif Nat.blt U 31 then(bif Nat.blt U 28 then(bif Nat.beq U 26 then some (false,1) else none) else(bif Nat.beq U 28 then some (false,1) else none)) else(bif Nat.blt U 34 then(bif Nat.beq U 31 then some (false,1) else none) else(bif Nat.beq U 34 then some (false,1) else none))))) else(bif Nat.blt U 46 then(bif Nat.blt U 39 then(bif Nat.blt U 37 then(bif Nat.beq U 36 then some (true,2) else none) else(bif Nat.blt U 38 then(bif Nat.beq U 37 then some (true,4) else none) else(bif Nat.beq U 38 then some (true,4) else none))) else(bif Nat.blt U 44 then(bif Nat.blt U 40 then(bif Nat.beq U 39 then some (true,12) else none) else(bif Nat.beq U 40 then some (true,12) else none)) else(bif Nat.blt U 45 then(bif Nat.beq U 44 then some (true,12) else none) else(bif Nat.beq U 45 then some (true,12) else none)))) else(bif Nat.blt U 52 then(bif Nat.blt U 48 then(bif Nat.blt U 47 then(bif Nat.beq U 46 then some (true,20) else none) else(bif Nat.beq U 47 then some (true,20) else none)) else(bif Nat.blt U 49 then(bif Nat.beq U 48 then some (true,66) else none) else(bif Nat.beq U 49 then some (true,66) else none))) else(bif Nat.blt U 65 then(bif Nat.blt U 64 then(bif Nat.beq U 52 then some (false,1) else none) else(bif Nat.beq U 64 then some (true,8) else none)) else(bif Nat.blt U 72 then(bif Nat.beq U 65 then some (true,8) else none) else(bif Nat.beq U 72 then some (true,2) else none)))))) else(bif Nat.blt U 218 then(bif Nat.blt U 144 then(bif Nat.blt U 78 then(bif Nat.blt U 74 then(bif Nat.beq U 73 then some (true,8) else none) else(bif Nat.blt U 77 then(bif Nat.beq U 74 then some (true,8) else none) else(bif Nat.beq U 77 then some (false,1) else none))) else(bif Nat.blt U 106 then(bif Nat.blt U 95 then(bif Nat.beq U 78 then some (false,1) else none) else(bif Nat.beq U 95 then some (false,1) else none)) else(bif Nat.blt U 129 then(bif Nat.beq U 106 then some (false,1) else none) else(bif Nat.beq U 129 then some (true,12) else none)))) else(bif Nat.blt U 185 then(bif Nat.blt U 148 then(bif Nat.beq U 144 then some (false,1) else none) else(bif Nat.blt U 171 then(bif Nat.beq U 148 then some (true,3) else none) else(bif Nat.beq U 171 then some (false,1) else none))) else(bif Nat.blt U 190 then(bif Nat.blt U 186 then(bif Nat.beq U 185 then some (true,24) else none) else(bif Nat.beq U 186 then some (true,24) else none)) else(bif Nat.blt U 194 then(bif Nat.beq U 190 then some (false,1) else none) else(bif Nat.beq U 194 then some (false,1) else none))))) else(bif Nat.blt U 284 then(bif Nat.blt U 230 then(bif Nat.blt U 219 then(bif Nat.beq U 218 then some (true,7) else none) else(bif Nat.blt U 222 then(bif Nat.beq U 219 then some (true,7) else none) else(bif Nat.beq U 222 then some (false,1) else none))) else(bif Nat.blt U 255 then(bif Nat.blt U 238 then(bif Nat.beq U 230 then some (true,2) else none) else(bif Nat.beq U 238 then some (false,1) else none)) else(bif Nat.blt U 256 then(bif Nat.beq U 255 then some (true,8) else none) else(bif Nat.beq U 256 then some (true,8) else none)))) else(bif Nat.blt U 331 then(bif Nat.blt U 303 then(bif Nat.blt U 302 then(bif Nat.beq U 284 then some (false,1) else none) else(bif Nat.beq U 302 then some (true,13) else none)) else(bif Nat.blt U 313 then(bif Nat.beq U 303 then some (true,13) else none) else(bif Nat.beq U 313 then some (true,1) else none))) else(bif Nat.blt U 335 then(bif Nat.blt U 332 then(bif Nat.beq U 331 then some (false,1) else none) else(bif Nat.beq U 332 then some (false,1) else none)) else(bif Nat.blt U 336 then(bif Nat.beq U 335 then some (false,1) else none) else(bif Nat.beq U 336 then some (false,1) else none))))))
def slF (U:Nat):Option Nat:=bif Nat.blt U 77 then(bif Nat.blt U 31 then(bif Nat.blt U 28 then(bif Nat.beq U 26 then some 4 else none) else(bif Nat.beq U 28 then some 12 else none)) else(bif Nat.blt U 34 then(bif Nat.beq U 31 then some 66 else none) else(bif Nat.beq U 34 then some 1 else none))) else(bif Nat.blt U 106 then(bif Nat.blt U 95 then(bif Nat.beq U 77 then some 2 else none) else(bif Nat.beq U 95 then some 1 else none)) else(bif Nat.blt U 144 then(bif Nat.beq U 106 then some 20 else none) else(bif Nat.blt U 222 then(bif Nat.beq U 144 then some 7 else none) else(bif Nat.beq U 222 then some 1 else none))))
def fdF (U i:Nat):Option Nat:=bif Nat.blt U 72 then(bif Nat.blt U 45 then(bif Nat.blt U 38 then(bif Nat.blt U 36 then(bif Nat.beq U 25 then(bif Nat.blt i 2 then(bif Nat.blt i 1 then(bif Nat.beq i 0 then some 0 else none) else(bif Nat.beq i 1 then some 1 else none)) else(bif Nat.blt i 3 then(bif Nat.beq i 2 then some 2 else none) else(bif Nat.beq i 3 then some 3 else none))) else none) else(bif Nat.blt U 37 then(bif Nat.beq U 36 then(bif Nat.blt i 1 then(bif Nat.beq i 0 then some 0 else none) else(bif Nat.beq i 1 then some 1 else none)) else none) else(bif Nat.beq U 37 then(bif Nat.blt i 1 then(bif Nat.beq i 0 then some 0 else none) else(bif Nat.beq i 1 then some 2 else none)) else none))) else(bif Nat.blt U 40 then(bif Nat.blt U 39 then(bif Nat.beq U 38 then(bif Nat.blt i 1 then(bif Nat.beq i 0 then some 0 else none) else(bif Nat.beq i 1 then some 2 else none)) else none) else(bif Nat.beq U 39 then(bif Nat.blt i 1 then(bif Nat.beq i 0 then some 0 else none) else(bif Nat.blt i 2 then(bif Nat.beq i 1 then some 4 else none) else(bif Nat.beq i 2 then some 8 else none))) else none)) else(bif Nat.blt U 44 then(bif Nat.beq U 40 then(bif Nat.blt i 1 then(bif Nat.beq i 0 then some 0 else none) else(bif Nat.blt i 2 then(bif Nat.beq i 1 then some 4 else none) else(bif Nat.beq i 2 then some 8 else none))) else none) else(bif Nat.beq U 44 then(bif Nat.blt i 1 then(bif Nat.beq i 0 then some 0 else none) else(bif Nat.blt i 2 then(bif Nat.beq i 1 then some 4 else none) else(bif Nat.beq i 2 then some 8 else none))) else none)))) else(bif Nat.blt U 48 then(bif Nat.blt U 46 then(bif Nat.beq U 45 then(bif Nat.blt i 1 then(bif Nat.beq i 0 then some 0 else none) else(bif Nat.blt i 2 then(bif Nat.beq i 1 then some 4 else none) else(bif Nat.beq i 2 then some 8 else none))) else none) else(bif Nat.blt U 47 then(bif Nat.beq U 46 then(bif Nat.blt i 2 then(bif Nat.blt i 1 then(bif Nat.beq i 0 then some 0 else none) else(bif Nat.beq i 1 then some 4 else none)) else(bif Nat.blt i 3 then(bif Nat.beq i 2 then some 8 else none) else(bif Nat.blt i 4 then(bif Nat.beq i 3 then some 12 else none) else(bif Nat.beq i 4 then some 16 else none)))) else none) else(bif Nat.beq U 47 then(bif Nat.blt i 2 then(bif Nat.blt i 1 then(bif Nat.beq i 0 then some 0 else none) else(bif Nat.beq i 1 then some 4 else none)) else(bif Nat.blt i 3 then(bif Nat.beq i 2 then some 8 else none) else(bif Nat.blt i 4 then(bif Nat.beq i 3 then some 12 else none) else(bif Nat.beq i 4 then some 16 else none)))) else none))) else(bif Nat.blt U 64 then(bif Nat.blt U 49 then(bif Nat.beq U 48 then(bif Nat.blt i 3 then(bif Nat.blt i 1 then(bif Nat.beq i 0 then some 0 else none) else(bif Nat.blt i 2 then(bif Nat.beq i 1 then some 1 else none) else(bif Nat.beq i 2 then some 13 else none))) else(bif Nat.blt i 4 then(bif Nat.beq i 3 then some 25 else none) else(bif Nat.blt i 5 then(bif Nat.beq i 4 then some 26 else none) else(bif Nat.beq i 5 then some 46 else none)))) else none) else(bif Nat.beq U 49 then(bif Nat.blt i 3 then(bif Nat.blt i 1 then(bif Nat.beq i 0 then some 0 else none) else(bif Nat.blt i 2 then(bif Nat.beq i 1 then some 1 else none) else(bif Nat.beq i 2 then some 13 else none))) else(bif Nat.blt i 4 then(bif Nat.beq i 3 then some 25 else none) else(bif Nat.blt i 5 then(bif Nat.beq i 4 then some 26 else none) else(bif Nat.beq i 5 then some 46 else none)))) else none)) else(bif Nat.blt U 65 then(bif Nat.beq U 64 then(bif Nat.blt i 1 then(bif Nat.beq i 0 then some 0 else none) else(bif Nat.beq i 1 then some 4 else none)) else none) else(bif Nat.beq U 65 then(bif Nat.blt i 1 then(bif Nat.beq i 0 then some 0 else none) else(bif Nat.beq i 1 then some 4 else none)) else none))))) else(bif Nat.blt U 218 then(bif Nat.blt U 129 then(bif Nat.blt U 73 then(bif Nat.beq U 72 then(bif Nat.blt i 1 then(bif Nat.beq i 0 then some 0 else none) else(bif Nat.beq i 1 then some 1 else none)) else none) else(bif Nat.blt U 74 then(bif Nat.beq U 73 then(bif Nat.blt i 3 then(bif Nat.blt i 1 then(bif Nat.beq i 0 then some 0 else none) else(bif Nat.blt i 2 then(bif Nat.beq i 1 then some 2 else none) else(bif Nat.beq i 2 then some 4 else none))) else(bif Nat.blt i 4 then(bif Nat.beq i 3 then some 5 else none) else(bif Nat.blt i 5 then(bif Nat.beq i 4 then some 6 else none) else(bif Nat.beq i 5 then some 7 else none)))) else none) else(bif Nat.beq U 74 then(bif Nat.blt i 3 then(bif Nat.blt i 1 then(bif Nat.beq i 0 then some 0 else none) else(bif Nat.blt i 2 then(bif Nat.beq i 1 then some 2 else none) else(bif Nat.beq i 2 then some 4 else none))) else(bif Nat.blt i 4 then(bif Nat.beq i 3 then some 5 else none) else(bif Nat.blt i 5 then(bif Nat.beq i 4 then some 6 else none) else(bif Nat.beq i 5 then some 7 else none)))) else none))) else(bif Nat.blt U 185 then(bif Nat.blt U 148 then(bif Nat.beq U 129 then(bif Nat.blt i 1 then(bif Nat.beq i 0 then some 0 else none) else(bif Nat.blt i 2 then(bif Nat.beq i 1 then some 4 else none) else(bif Nat.beq i 2 then some 8 else none))) else none) else(bif Nat.beq U 148 then(bif Nat.blt i 1 then(bif Nat.beq i 0 then some 0 else none) else(bif Nat.blt i 2 then(bif Nat.beq i 1 then some 1 else none) else(bif Nat.beq i 2 then some 2 else none))) else none)) else(bif Nat.blt U 186 then(bif Nat.beq U 185 then(bif Nat.blt i 3 then(bif Nat.blt i 1 then(bif Nat.beq i 0 then some 0 else none) else(bif Nat.blt i 2 then(bif Nat.beq i 1 then some 4 else none) else(bif Nat.beq i 2 then some 8 else none))) else(bif Nat.blt i 4 then(bif Nat.beq i 3 then some 12 else none) else(bif Nat.blt i 5 then(bif Nat.beq i 4 then some 16 else none) else(bif Nat.beq i 5 then some 20 else none)))) else none) else(bif Nat.beq U 186 then(bif Nat.blt i 3 then(bif Nat.blt i 1 then(bif Nat.beq i 0 then some 0 else none) else(bif Nat.blt i 2 then(bif Nat.beq i 1 then some 4 else none) else(bif Nat.beq i 2 then some 8 else none))) else(bif Nat.blt i 4 then(bif Nat.beq i 3 then some 12 else none) else(bif Nat.blt i 5 then(bif Nat.beq i 4 then some 16 else none) else(bif Nat.beq i 5 then some 20 else none)))) else none)))) else(bif Nat.blt U 256 then(bif Nat.blt U 230 then(bif Nat.blt U 219 then(bif Nat.beq U 218 then(bif Nat.blt i 2 then(bif Nat.blt i 1 then(bif Nat.beq i 0 then some 0 else none) else(bif Nat.beq i 1 then some 1 else none)) else(bif Nat.blt i 3 then(bif Nat.beq i 2 then some 4 else none) else(bif Nat.beq i 3 then some 6 else none))) else none) else(bif Nat.beq U 219 then(bif Nat.blt i 2 then(bif Nat.blt i 1 then(bif Nat.beq i 0 then some 0 else none) else(bif Nat.beq i 1 then some 1 else none)) else(bif Nat.blt i 3 then(bif Nat.beq i 2 then some 4 else none) else(bif Nat.beq i 3 then some 6 else none))) else none)) else(bif Nat.blt U 255 then(bif Nat.beq U 230 then(bif Nat.blt i 1 then(bif Nat.beq i 0 then some 0 else none) else(bif Nat.beq i 1 then some 1 else none)) else none) else(bif Nat.beq U 255 then(bif Nat.blt i 1 then(bif Nat.beq i 0 then some 0 else none) else(bif Nat.beq i 1 then some 4 else none)) else none))) else(bif Nat.blt U 303 then(bif Nat.blt U 302 then(bif Nat.beq U 256 then(bif Nat.blt i 1 then(bif Nat.beq i 0 then some 0 else none) else(bif Nat.beq i 1 then some 4 else none)) else none) else(bif Nat.beq U 302 then(bif Nat.blt i 1 then(bif Nat.beq i 0 then some 0 else none) else(bif Nat.beq i 1 then some 1 else none)) else none)) else(bif Nat.blt U 313 then(bif Nat.beq U 303 then(bif Nat.blt i 1 then(bif Nat.beq i 0 then some 0 else none) else(bif Nat.beq i 1 then some 1 else none)) else none) else(bif Nat.beq U 313 then(bif Nat.beq i 0 then some 0 else none) else none)))))
def tb:Tb:=⟨fun U=>bif Nat.blt U 337 then tyF U else none,fun U i=>bif Nat.blt U 337&&Nat.blt i 16 then fdF U i else none,fun U=>bif Nat.blt U 337 then slF U else none⟩
theorem Qw:TbOk Tryz.prog tb:=TbOk.of (by kernel_rfl) (by kernel_rfl) (by kernel_rfl)
theorem bK (k:Nat) (h:X9 Tryz.prog tb ops K n k os tm bx):dl Tryz.prog ops os ⟨n,tm,bx⟩ K:=PI Qw h
theorem dt {K:Sq→Prop}(k:Nat) (h:Y3 Tryz.prog tb ops hs K n k os tm bx nb sd):dq Tryz.prog ops hs os ⟨⟨n,tm,bx⟩,nb,sd⟩ K:=T6 Qw h
theorem ex (h:Wd tb ops K n os tm bx):dl Tryz.prog ops os ⟨n,tm,bx⟩ K:=Gr Qw h
theorem yo {K:Sq→Prop}(h:Y4 tb ops hs K n os tm bx nb sd):dq Tryz.prog ops hs os ⟨⟨n,tm,bx⟩,nb,sd⟩ K:=KK Qw h
def cQ (n d:Int):List CellD:=cI n++cI d
def dQ (n d:Int):D0:=.a (cQ n d)
def cR (x:Rat):List CellD:=cQ x.num (x.den:Int)
def dR (x:Rat):D0:=.a (cR x)
theorem AB {q:Int}(hy:y≠0) (h:x=y*q+r) (hp:0<y→0≤r∧r<y) (hn:y<0→y<r∧r≤0):x.fdiv y=q∧x.fmod y=r:=by
 have hfd:x.fdiv y=q:=by
  rcases Int.lt_or_gt_of_ne hy with h0|h0
  ·obtain⟨h1,h2⟩:=hn h0
   rw[←Int.neg_fdiv_neg,pv _ (by omega)]
   have:=(Int.ediv_emod_unique (a:= -x) (b:= -y) (r:= -r) (q:=q) (by omega)).2 ⟨by rw[h];simp only[Int.neg_mul];omega,by omega,by omega⟩
   grind
  ·obtain⟨h1,h2⟩:=hp h0
   rw[pv _ (by omega)]
   exact((Int.ediv_emod_unique (a:=x) (b:=y) (r:=r) (q:=q) h0).2 ⟨by rw[h];omega,h1,h2⟩).1
 have:=Int.mul_fdiv_add_fmod x y
 grind
def q0 (x y:Int):Int:=sg (!(decide (x<0)==decide (y<0))) ((x.natAbs:Int)/y.natAbs)
def r0 (x y:Int):Int:=sg (decide (x<0)) ((x.natAbs:Int)%y.natAbs)
theorem UH:x=y*q0 x y+r0 x y:=by
 have h:=rL (x.natAbs:Int) y.natAbs
 unfold q0 r0
 obtain⟨q,hq⟩: ∃q,(x.natAbs:Int)/y.natAbs=q:=⟨_,rfl⟩
 obtain⟨r,hr⟩: ∃r,(x.natAbs:Int)%y.natAbs=r:=⟨_,rfl⟩
 rw[hq,hr]
 rw[hq,hr] at h
 by_cases hx:x<0<;>by_cases hy:y<0
 ·rw[show(x.natAbs:Int)= -x from by omega,show(y.natAbs:Int)= -y from by omega,Int.neg_mul] at h
  rw[show(!(decide (x<0)==decide (y<0)))=false from by simp[hx,hy],show decide (x<0)=true from by simp[hx],gN,cV]
  omega
 ·rw[show(x.natAbs:Int)= -x from by omega,show(y.natAbs:Int)=y from by omega] at h
  rw[show(!(decide (x<0)==decide (y<0)))=true from by simp[hx,hy],show decide (x<0)=true from by simp[hx],gN,gN,Int.mul_neg]
  omega
 ·rw[show(x.natAbs:Int)=x from by omega,show(y.natAbs:Int)= -y from by omega,Int.neg_mul] at h
  rw[show(!(decide (x<0)==decide (y<0)))=true from by simp[hx,hy],show decide (x<0)=false from by simp[hx],gN,cV,Int.mul_neg]
  omega
 ·rw[show(x.natAbs:Int)=x from by omega,show(y.natAbs:Int)=y from by omega] at h
  rw[show(!(decide (x<0)==decide (y<0)))=false from by simp[hx,hy],show decide (x<0)=false from by simp[hx],cV,cV]
  omega
theorem MF (hy:y≠0):0≤(x.natAbs:Int)%y.natAbs∧(x.natAbs:Int)%y.natAbs<y.natAbs:=⟨Int.emod_nonneg _ (by omega),og _ (by omega)⟩
theorem yx (hy:y≠0) (h:r0 x y=0∨(r0 x y<0↔y<0)):x.fdiv y=q0 x y∧x.fmod y=r0 x y:=by
 refine AB hy UH ?_ ?_
 all_goals
  have:=MF (x:=x) hy
  unfold r0 at*
  by_cases hx:x<0
  ·simp only[hx,decide_true,gN] at*;omega
  ·simp only[hx,decide_false,cV] at*;omega
theorem GA (hy:y≠0) (h0:r0 x y≠0) (h: ¬(r0 x y<0↔y<0)):x.fdiv y=q0 x y-1∧x.fmod y=r0 x y+y:=by
 refine AB hy ?_ ?_ ?_
 ·have:=UH (x:=x) (y:=y)
  rw[Int.mul_sub];omega
 all_goals
  have:=MF (x:=x) hy
  unfold r0 at*
  by_cases hx:x<0
  ·simp only[hx,decide_true,gN] at*;omega
  ·simp only[hx,decide_false,cV] at*;omega
theorem Ez:(du y.natAbs).length=0↔y=0:=by
 rw[jP,eg];omega
theorem si (h:decide (((du r.natAbs).length:Int)>0)=true):r≠0:=by
 intro e
 have:=Ez.2 e
 grind
theorem sF (h:decide (((du r.natAbs).length:Int)>0)=false):r=0:=by
 simp only[decide_eq_false_iff_not] at h
 exact Ez.1 (by omega)
theorem EN (h:(!(decide (a<0)==decide (b<0)))=true): ¬(a<0↔b<0):=by simpa using h
theorem FW (h:(!(decide (a<0)==decide (b<0)))=false):(a<0↔b<0):=by simpa using h
theorem Sz.q0 (hx:Sz k x):Sz k (q0 x y):=by
 refine hx.of_le ?_
 have h1:(x.natAbs:Int)/(y.natAbs:Int)≤x.natAbs:=Int.ediv_le_self _ (by omega)
 have h2:0≤(x.natAbs:Int)/(y.natAbs:Int):=uh (by omega) (by omega)
 unfold Go.Proofs.YtegpmhlfjkhjmaaGreat.q0
 generalize (!(decide (x<0)==decide (y<0)))=s
 cases s
 ·rw[cV];omega
 ·rw[gN];omega
theorem Sz.r0 (hy:y≠0) (h:Sz k y):Sz k (r0 x y):=by
 refine h.of_le ?_
 have:=MF (x:=x) hy
 unfold Go.Proofs.YtegpmhlfjkhjmaaGreat.r0
 generalize decide (x<0)=s
 cases s
 ·rw[cV];omega
 ·rw[gN];omega
theorem Fm (h1:0≤a) (h2:0≤c):Int.gcd c (a%c)=Int.gcd a c:=by
 obtain⟨m,rfl⟩:=Az h1
 obtain⟨n,rfl⟩:=Az h2
 show Nat.gcd n (m%n)=Nat.gcd m n
 rw[Nat.gcd_comm m n,Nat.gcd_rec n m,Nat.gcd_comm]
structure GInv (x y a c:Int):Prop where
 sa:Sz 100000000 a
 sc:Sz 100000000 c
 a0:0≤a
 c0:0≤c
 g:Int.gcd a c=Int.gcd x y
theorem GInv.start (hx:Sz 100000000 x) (hy:Sz 100000000 y):GInv x y (sg false (x.natAbs:Int)) (sg false (y.natAbs:Int)):=by
 rw[cV,cV]
 exact⟨hx.of_le (by omega),hy.of_le (by omega),by omega,by omega,rfl⟩
theorem GInv.step (h:GInv x y a c) (hc:c≠0):GInv x y c (sg false ((a.natAbs:Int)%c.natAbs)):=by
 rw[cV]
 have h1:=h.a0
 have h2:=h.c0
 have e1:(a.natAbs:Int)=a:=by omega
 have e2:(c.natAbs:Int)=c:=by omega
 rw[e1,e2]
 have h3:=pu a hc
 have h4:=og a (show 0<c by omega)
 exact⟨h.sc,h.sc.of_le (by omega),h2,h3,by rw[←h.g,Fm h1 h2]⟩
theorem GInv.less (h:GInv x y a c) (hc:c≠0):(sg false ((a.natAbs:Int)%c.natAbs)).toNat<c.toNat:=by
 rw[cV]
 have:=h.c0
 have:=MF (x:=a) hc
 omega
theorem GInv.done (h:GInv x y a c) (hc:c=0):(Int.gcd x y:Int)=sg false (a.natAbs:Int):=by
 rw[←h.g,hc,cV];simp
structure GInv2 (x y u v:Int):Prop where
 u0:0≤u
 u1:u≤18446744073709551615
 v0:0≤v
 v1:v≤18446744073709551615
 g:Int.gcd u v=Int.gcd x y
theorem GInv.word (h:GInv x y a c) (ha:decide (a.natAbs<1000000000000000000)=true) (hc:decide (c.natAbs<1000000000000000000)=true):
 GInv2 x y (if a.natAbs<1000000000000000000 then(a.natAbs:Int) else 0) (if c.natAbs<1000000000000000000 then(c.natAbs:Int) else 0):=by
 rw[decide_eq_true_eq] at ha hc
 rw[if_pos ha,if_pos hc]
 exact⟨by omega,by omega,by omega,by omega,by rw[←h.g];rfl⟩
theorem GInv2.step (h:GInv2 x y u v) (hv:v>0):GInv2 x y v (u.tmod v):=by
 have h1:=h.u0
 rw[qv h1]
 have h3:=pu u (show v≠0 by omega)
 have h4:=og u hv
 exact⟨h.v0,h.v1,h3,by have:=h.v1;omega,by rw[←h.g,Fm h1 h.v0]⟩
theorem GInv2.less (h:GInv2 x y u v) (hv:v>0):(u.tmod v).toNat<v.toNat:=by
 rw[qv h.u0]
 have h4:=og u hv
 omega
theorem GInv2.done (h:GInv2 x y u v) (hv:v≤0):(Int.gcd x y:Int)=sg false u:=by
 have h0:=h.v0
 have h1:=h.u0
 rw[←h.g,show v=0 from by omega,cV];simp;omega
theorem Kf (h:Lim xs):trm xs=du (val xs).natAbs:=by
 have h0:=cK h
 rw[I6 (ue xs) h.trm,iT]
 grind
def cM (xs:List Int):CellD:=.s xs.length (xs.map (CellD.i .u32))
theorem VF (e:Int):cL e=cM (du e.natAbs):=rfl
theorem Pn (h:Lim xs):cL (val xs)=cM (trm xs):=by rw[VF,Kf h]
theorem jx (xs:List Int):(xs.map (CellD.i .u32)).length=xs.length*1:=by simp
theorem lk (h:i<xs.length):((xs.map (CellD.i .u32)).drop (i*1))[0]? =some (.i .u32 (xs.getD i 0)):=by grind
theorem aad (h:i<xs.length):(xs.map (CellD.i .u32))[i*1]? =some (.i .u32 (xs.getD i 0)):=by grind
theorem ri (h:i<xs.length):(xs.map (CellD.i .u32)).take (i*1)++[CellD.i .u32 x]++(xs.map (CellD.i .u32)).drop (i*1+1)=(xs.set i x).map (CellD.i .u32):=by
 rw[List.set_eq_take_append_cons_drop,if_pos h]
 simp
theorem di (h:Lim xs) (i:Nat):0≤xs.getD i 0∧xs.getD i 0<1000000000:=by
 rw[List.getD]
 cases hx:xs[i]? with
 |none=>simp
 |some x=>exact h.at_ hx
theorem getD_some (h:i<xs.length):xs[i]? =some (xs.getD i 0):=by grind
theorem qN (h0: -9223372036854775808≤x) (h1:x≤9223372036854775807):IntKind.i64.wrap x=x:=by unfold IntKind.wrap;simp[IntKind.bits,IntKind.signed];omega
theorem iB (h0:0≤x) (h1:x≤18446744073709551615):IntKind.u64.wrap x=x:=by unfold IntKind.wrap;simp[IntKind.bits,IntKind.signed];omega
theorem se (h0:0≤x) (h1:x≤4294967295):IntKind.u32.wrap x=x:=by unfold IntKind.wrap;simp[IntKind.bits,IntKind.signed];omega
theorem bk (h0: -9223372036854775808≤a+b) (h1:a+b≤9223372036854775807):CO .add .i64 a b=some (a+b):=congrArg some (qN h0 h1)
theorem cb {x y:Operand}{ty:TypeId}(hj:j<9223372036854775807) (h:(cE T x,cE T y,gd ops ⟨dst,.binOp .add xt x y yt,ty,pos,af,g⟩ T)=(some (.v (.c (.i .i64 j))),some (.v (.c (.i .i64 1))),some true)):Sem P ops ⟨dst,.binOp .add xt x y yt,ty,pos,af,g⟩ T B (.r (.v (.c (.i .i64 ((j+1:Nat):Int))))):=
 iU (congrArg Prod.fst h) (congrArg (fun q=>q.2.1) h) ((bk (by omega) (by omega)).trans (congrArg some (by omega))) (congrArg (fun q=>q.2.2) h)
theorem bO (h0: -9223372036854775808≤a-b) (h1:a-b≤9223372036854775807):CO .sub .i64 a b=some (a-b):=congrArg some (qN h0 h1)
theorem fW (h0:0≤a+b) (h1:a+b≤18446744073709551615):CO .add .u64 a b=some (a+b):=congrArg some (iB h0 h1)
theorem HT (h0:0≤a-b) (h1:a-b≤18446744073709551615):CO .sub .u64 a b=some (a-b):=congrArg some (iB h0 h1)
theorem iA (h0:0≤a*b) (h1:a*b≤18446744073709551615):CO .mul .u64 a b=some (a*b):=congrArg some (iB h0 h1)
theorem ol (h0:0≤a+b) (h1:a+b≤4294967295):CO .add .u32 a b=some (a+b):=congrArg some (se h0 h1)
theorem rH (h0:0≤a-b) (h1:a-b≤4294967295):CO .sub .u32 a b=some (a-b):=congrArg some (se h0 h1)
theorem MA (h1:0<k) (hk:k≤xs.length) (hT:trm (xs.take k)=trm xs) (h:((xs.take k).getD (k-1) 0==0)=true):trm (xs.take (k-1))=trm xs:=by
 obtain⟨j,rfl⟩: ∃j,k=j+1:=⟨k-1,by omega⟩
 rw[Nat.add_sub_cancel] at*
 have hx:=getD_some (xs:=xs) (i:=j) (by omega)
 rw[←hT,rU hx (by simpa using h)]
theorem Ms (h1:0<k) (hk:k≤xs.length) (hT:trm (xs.take k)=trm xs) (h:((xs.take k).getD (k-1) 0==0)=false):trm xs=xs.take k:=by
 obtain⟨j,rfl⟩: ∃j,k=j+1:=⟨k-1,by omega⟩
 have hx:=getD_some (xs:=xs) (i:=j) (by omega)
 rw[←hT,rQ hx (by simpa using h)]
section
variable {P:Program}{ops:Array Oper}{T:TF}{B:BF}
theorem kJ {x y:Operand}{k:IntKind}{n:Int}
 (hx:cE T x=some (.v (.c (.i k m)))) (hy:cE T y=some (.v (.c (.i k n)))) (h0:n≠0) (hr:k.wrap (m.tdiv n)=r) (hg:gd ops ⟨dst,.binOp .quo xt x y yt,ty,pos,af,g⟩ T=some true):
 Sem P ops ⟨dst,.binOp .quo xt x y yt,ty,pos,af,g⟩ T B (.r (.v (.c (.i k r)))):=by subst hr;exact ST hx hy h0 hg
theorem gn {x y:Operand}{k:IntKind}{n:Int}
 (hx:cE T x=some (.v (.c (.i k m)))) (hy:cE T y=some (.v (.c (.i k n)))) (h0:n≠0) (hr:m.tmod n=r) (hg:gd ops ⟨dst,.binOp .rem xt x y yt,ty,pos,af,g⟩ T=some true):
 Sem P ops ⟨dst,.binOp .rem xt x y yt,ty,pos,af,g⟩ T B (.r (.v (.c (.i k r)))):=by subst hr;exact ES hx hy h0 hg
theorem b6 {x:Operand}{k1 k2 k:IntKind}
 (h1:P.underlying t1=some (.int k1)) (h2:P.underlying t2=some (.int k2)) (hx:cE T x=some (.v (.c (.i k m)))) (hr:k2.wrap m=r) (hg:gd ops ⟨dst,.convert t1 t2 x,ty,pos,af,g⟩ T=some true):
 Sem P ops ⟨dst,.convert t1 t2 x,ty,pos,af,g⟩ T B (.r (.v (.c (.i k2 r)))):=by subst hr;exact RJ h1 h2 hx hg
theorem xj {x:Operand}
 (hU:tR P U=some (e,1,by_,[z])) (hx:cE T x=some (.v (.c (.i .u32 m)))) (hg:gd ops ⟨dst,.buildSlice U 1 #[(0,x)],ty,pos,af,g⟩ T=some true):
 Sem P ops ⟨dst,.buildSlice U 1 #[(0,x)],ty,pos,af,g⟩ T B (.r (.v (.c (cM [m])))):=by
 have h:=oD (B:=B) (n:=1) (us:=[.i .u32 m]) (dps:=[(0,.c (.i .u32 m))]) hU (by unfold u7;rw[hx];rfl) rfl (by omega) (by omega) hg
 refine⟨pP rfl,fun V β a w hs=>?_⟩
 obtain⟨hw,hg⟩:=h V β a w hs
 refine⟨hw,hg.mono ?_⟩
 rintro v w' ⟨vs,rfl,rfl,hr⟩
 refine⟨?_,(eL _ w).alloc (ce _) _⟩
 have hkeep:=Keep.below (av:=V) ((eL w.heap.size w).alloc (ce _) (.cells vs e))
 have hr2:=hr.keep hkeep
 have hvl:vs.size=1:=by have:=hr.1;simpa using this
 refine .s w.heap.size 0 1 1 1 _ (fun j=>vs.getD j undef) (by omega) (by omega) (by omega) rfl (by simp) (fun h=>by have:=hs.av _ h;omega) (fun j hj=>?_) (fun j u hj=>?_)
 ·simp_all
 ·have hlt:j<1:=by have:=(ji.1 hj).1;simpa using this
  refine hr2.2 j _ u ?_ hj
  have:j<vs.size:=by omega
  simp[Array.getD,this]
theorem Fo {x y:Operand}{m:Nat}{zs:List CellD}
 (hU:tR P U=some (e,m,by_,zs)) (hx:cE T x=some (.o k n n)) (hy:cE T y=some (.v (.c (.s 0 [])))) (hb:B k=some (e,cs)) (hcs:cs.length=n*m) (hn:0<n) (hn2:n≤9223372036854775807)
 (hg:gd ops ⟨dst,.call ⟨.builtin .append,#[x,y],#[U,U]⟩,ty,pos,af,g⟩ T=some true):
 Sem P ops ⟨dst,.call ⟨.builtin .append,#[x,y],#[U,U]⟩,ty,pos,af,g⟩ T B (.c k (.v (.c (.s n cs)))):=by
 refine⟨rfl,by rw[hb];simp,fun V β a w hs=>⟨et hs hg,?_⟩⟩
 have e1:a.eval x=.slice (some ⟨β k,0,none⟩) n n:=aE hs (x:=x) (by simp[Op.operands,Call.operands]) hx
 have h2:RdC V w (a.eval y) (.s 0 []):=aE hs (x:=y) (by simp[Op.operands,Call.operands]) hy
 have h3: ∃A c,a.eval y=.slice A 0 c:=by
  generalize a.eval y=v at h2
  cases h2 with
  |s0 A c _=>exact⟨A,c,rfl⟩
  |s b off c sz _ _ cv h0=>omega
 obtain⟨A,c,e2⟩:=h3
 obtain⟨hu,i,z,hi,hz,hsz,hby,_,hzr⟩:=iZ hU
 obtain⟨hvk,vs,ev,hr⟩:=hs.box k e cs hb
 have hfirst: ∀w,(Builtin.firstCells m 0 (.slice A 0 c)).run P w=.ok #[] w:=by
  intro w
  cases A with
  |none=>rfl
  |some A=>simp[Builtin.firstCells,loadCells,loadCellsFrom]
 have hexec:(execOp a.eval ⟨dst,.call ⟨.builtin .append,#[x,y],#[U,U]⟩,ty,pos,af,g⟩).run P w=.ok (.value (.slice (some ⟨β k,0,none⟩) n n)) w:=by
  simp only[execOp,resolve,invoke,builtin,eQ,fX,fe,qC,oU,qM,e1,e2]
  simp[Builtin.append_,run_underlying hu,sizeOf,typeInfo,program,Sem.run,hi,hsz,Builtin.lenOf,hfirst,storeCells]
 unfold Gives
 rw[hexec]
 refine⟨?_,eL _ _⟩
 have hkeep:Keep V (fun b=>V b∧b≠β k) w w:=⟨Nat.le_refl _,fun _ _ _=>rfl,fun _ _ h=>h.1⟩
 have hr2:=hr.keep hkeep
 have hvl:vs.size=n*m:=by have:=hr.1;simp at this;omega
 refine .s (β k) 0 n m n cs (fun j=>vs.getD j undef) hn (ce _) hn2 hcs (hs.av _ hvk) (fun h=>h.2 rfl) (fun j hj=>?_) (fun j u hj=>?_)
 ·rw[gY,cS ev]
  have:j<vs.size:=by omega
  simp[Array.getD,this]
 ·have hlt:j<cs.length:=(ji.1 hj).1
  refine hr2.2 j _ u ?_ hj
  have:j<vs.size:=by omega
  simp[Array.getD,this]
theorem Dx {x y:Operand}
 (hU:tR P U=some (e,1,4,[z])) (hx:cE T x=some (.o k 1 1)) (hy:cE T y=some (.v (.c (cM rs)))) (hb:B k=some (e,[.i .u32 d])) (hl:rs.length≤1000000000)
 (hg:gd ops ⟨dst,.call ⟨.builtin .append,#[x,y],#[U,U]⟩,ty,pos,af,g⟩ T=some true):
 Sem P ops ⟨dst,.call ⟨.builtin .append,#[x,y],#[U,U]⟩,ty,pos,af,g⟩ T B (.c k (.v (.c (cM (d::rs))))):=by
 cases rs with
 |nil=>exact Fo (n:=1) hU hx hy hb rfl (by omega) (by omega) hg
 |cons r rs=>
  have:=yH (us:=(d::r::rs).map (CellD.i .u32)) hU hx hy hb rfl (jx _) (by omega) (by simp) (by omega) (by simp at hl⊢;omega) (by simp at hl⊢;unfold maxLen;omega) rfl hg
  unfold cM
  grind
theorem we {c:Code}{N t n' c':Nat}
 (ht:aF t tm=some (.o k n' c')) (hb:aF k bx=some (U,zs.map (CellD.i .u32))) (hm:zs.length=c') (hn:n'≤c') (hc:c'≤9223372036854775807) (hu:zs.take n'=ys)
 (h:Dw P c ⟨N,(t,.v (.c (cM ys)))::lK k tm,kj k bx⟩ Q):Dw P c ⟨N,tm,bx⟩ Q:=by
 refine cB ht hb (m:=1) (us:=ys.map (CellD.i .u32)) (by simp[hm]) hn hc (by rw[vH,←List.map_take,hu]) ?_
 unfold cM at h
 grind
theorem Hp {x h:Operand}
 (hU:th P U=some 1) (hx:cE T x=some (.v (.c (cM xs)))) (hh:cE T h=some (.v (.c (.i ki j)))) (hj:j≤xs.length) (hg:gd ops ⟨dst,.slice U x none (some h) none,ty,pos,af,g⟩ T=some true):
 Sem P ops ⟨dst,.slice U x none (some h) none,ty,pos,af,g⟩ T B (.r (.v (.c (cM (xs.take j))))):=by
 have:=oI (B:=B) hU hx hh (by omega) (jx xs) rfl hg
 have e:CellD.s ((j:Int).toNat) ((xs.map (CellD.i .u32)).take ((j:Int).toNat*1))=cM (xs.take j):=by
  unfold cM
  rw[Int.toNat_natCast,vH,dE,ij hj,List.map_take]
 grind
theorem oc {x h:Operand}{c q m:Nat}
 (hU:th P U=some m) (hx:cE T x=some (.o k n c)) (hh:cE T h=some (.v (.c (.i ki q)))) (hq:q≤c) (hg:gd ops ⟨dst,.slice U x none (some h) none,ty,pos,af,g⟩ T=some true):
 Sem P ops ⟨dst,.slice U x none (some h) none,ty,pos,af,g⟩ T B (.r (.o k q c)):=
 bQ hg (fun k' e=>by
  obtain rfl:k=k':=by injection e
  exact pQ (ops:=ops) (o:=⟨dst,.slice U x none (some h) none,ty,pos,af,g⟩) (by simp[Op.operands]) hx rfl) (fun V β a w hs=>by
  have e:a.eval x=.slice (some ⟨β k,0,none⟩) n c:=aE hs (x:=x) (by simp[Op.operands]) hx
  have h2:=fQ (aE hs (x:=h) (by simp[Op.operands]) hh)
  unfold th at hU
  split at hU
  case h_2=>cases hU
  rename_i el hul
  cases hinf:P.info? el with
  |none=>rw[hinf] at hU;cases hU
  |some inf=>
   rw[hinf] at hU
   simp at hU
   have hso: ∀w,(sizeOf el).run P w=.ok m w:=fun w=>by unfold sizeOf typeInfo;simp[program,Sem.run,hinf,hU]
   refine⟨.slice (some ⟨β k,0,none⟩) q c,?_,rfl⟩
   simp[execOp,Instr.sliceAt,Instr.slice,run_underlying hul,e,h2,Instr.sliceBounds,Instr.sliceBound,asIntOf,hq,hso,Addr.add])
end
class TaC (P:Program) where
 b:Tb
 zc:List (Nat×List CellD)
 op:Nat→Bool
 ok:TbOk P b
 zk: ∀U zs,aF U zc=some zs→Be P U=some zs
 mo:P.follows .mixedOrders=true
theorem G2 {α:Type}{t:Nat}{x:α}: ∀ {l:List (Nat×α)},aF t l=some x→(t,x)∈l
 |[],h=>by cases h
 |(k,y)::r,h=>by
  unfold aF at h
  cases e:Nat.beq k t with
  |true=>rw[e] at h;cases h;rw[jm e];exact fJ
  |false=>rw[e] at h;exact fB _ (G2 h)
theorem Yi {l:List (Nat×List CellD)}(h: ∀p∈l,Be P p.1=some p.2): ∀U zs,aF U l=some zs→Be P U=some zs:=fun _U _zs e=>h _ (G2 e)
section
variable (P:Program) [C:TaC P]
def Oo (T:TF) (B:BF):Op→Option SA
 | .load U x=>match cE T x with
   |some (.p k off)=>match B k,C.b.ty U with
    |some (W,cs),some (true,n)=>bif C.op W then none else bif Nat.beq off 0&&Nat.beq cs.length n then some (.v (.v (.a cs))) else
     bif Nat.ble (off+n) cs.length&&Nat.ble cs.length 24 then some (.v (.v (.a ((cs.drop off).take n)))) else none
    |some (W,cs),some (false,_)=>bif C.op W then none else match cs[off]? with
     |some u=>some (.v (.v (.c u)))
     |none=>none
    |_,_=>none
   |_=>none
 | .store U ax x=>match cE T ax,cE T x,C.b.ty U with
   |some (.p k off),some (.v (.a us)),some (true,m)=>match B k with
    |some (W,cs)=>bif C.op W then none else bif Nat.beq off 0&&Nat.beq us.length m&&Nat.beq cs.length m then some (.st k W us) else none
    |none=>none
   |_,_,_=>none
 | .alloc U=>match aF U C.zc with
   |some zs=>some (.bx U zs)
   |none=>none
 |op=>La C.b T B op
def Ko (ops:Array Oper) (T:TF) (B:BF) (o:Oper):Option SA:=
 match gd ops o T with
 |some true=>Oo P T B o.op
 |some false=>some .sk
 |none=>none
def gst (ops:Array Oper) (d:Option Nat):List Oper→Bool
 |⟨_,_,_,_,_,some (j,_)⟩::_=>match ops[j]?,d with
  |some ⟨some t,_,_,_,_,_⟩,some u=>Nat.beq t u
  |_,_=>false
 |_=>false
variable {P}
theorem OH (hg:gd ops ⟨dst,op,ty,pos,af,g⟩ T=some true) (h:Oo P T B op=some s)
 (hd: ∀k U cs,s=.st k U cs→dst=none):Sem P ops ⟨dst,op,ty,pos,af,g⟩ T B s.eff:=by
 unfold Oo at h
 split at h
 ·split at h
  ·rename_i e
   split at h
   ·rename_i e1 e2
    rw[o6,o6,o6] at h
    split at h
    ·cases h
    ·split at h
     ·rename_i hc
      cases h
      rw[dN] at hc
      have h0:=jm hc.1
      have hl:=jm hc.2
      subst h0
      exact bZ (C.ok.ty _ _ e2) e e1 (by rw[oW];exact ja (ph hl)) hl hg
     ·split at h
      ·rename_i hc
       cases h
       rw[dN] at hc
       have h0:=fP hc.1
       exact bZ (C.ok.ty _ _ e2) e e1 rfl (by rw[dE,fO];omega) hg
      ·cases h
   ·rename_i e1 e2
    rw[o6] at h
    split at h
    ·cases h
    ·split at h
     ·rename_i e3;cases h;exact kW (C.ok.ty _ _ e2) e e1 e3 hg
     ·cases h
   ·cases h
  ·cases h
 ·split at h
  ·rename_i e1 e2 e3
   split at h
   ·rename_i e4
    rw[o6,o6] at h
    split at h
    ·cases h
    ·split at h
     ·rename_i hc
      cases h
      rw[dN,dN] at hc
      have h0:=jm hc.1.1
      subst h0
      have:=hd _ _ _ rfl
      subst this
      exact de (C.ok.ty _ _ e3) e1 e2 e4 (jm hc.1.2) (jm hc.2) hg
     ·cases h
   ·cases h
  ·cases h
 ·split at h
  ·rename_i e;cases h;exact jG (C.zk _ _ e) hg
  ·cases h
 ·exact Ip C.ok hg h hd
theorem qw (h:Ko P ops T B ⟨dst,op,ty,pos,af,g⟩=some s)
 (hd: ∀k U cs,s=.st k U cs→dst=none):Sem P ops ⟨dst,op,ty,pos,af,g⟩ T B s.eff:=by
 unfold Ko at h
 split at h
 ·rename_i e;exact OH e h hd
 ·rename_i e;cases h;exact oE e
 ·cases h
end
structure DL (P:Program) (ops:Array Oper) (os:List Oper) (σ:St) (K:St→Prop):Prop where
 h:dl P ops os σ K
structure DQ (P:Program) (ops:Array Oper) (hs:List Nat) (os:List Oper) (s:Sq) (K:Sq→Prop):Prop where
 h:dq P ops hs os s K
structure DW (P:Program) (c:Code) (σ:St) (Q:Exit→St→Prop):Prop where
 h:Dw P c σ Q
section
variable (P:Program) [C:TaC P] (ops:Array Oper) (K:St→Prop) (n:Nat)
def Jf:List Oper→List (Nat×DV)→List (Nat×TypeId×List CellD)→Prop
 |[],tm,bx=>K ⟨n,tm,bx⟩
 |o::os,tm,bx=>bif gst ops o.dst os then DL P ops (o::os) ⟨n,tm,bx⟩ K else match o.dst,Ko P ops (fun s=>aF s tm) (fun l=>aF l bx) o with
  |some t,some .sk=>Jf os ((t,.u)::tm) bx
  |some t,some (.v x)=>Jf os ((t,x)::tm) bx
  |some t,some (.bx U cs)=>match aF t bx with
   |none=>Jf os ((t,.p t 0)::tm) ((t,U,cs)::bx)
   |some _=>DL P ops (o::os) ⟨n,tm,bx⟩ K
  |none,some (.st j U cs)=>Jf os tm ((j,U,cs)::bx)
  |_,_=>DL P ops (o::os) ⟨n,tm,bx⟩ K
variable {P ops K n}
theorem dX: ∀ {os:List Oper}{tm:List (Nat×DV)}{bx:List (Nat×TypeId×List CellD)},Jf P ops K n os tm bx→dl P ops os ⟨n,tm,bx⟩ K
 |[],tm,bx,h=>h
 |⟨dst,op,ty,pos,af,g⟩::os,tm,bx,h=>by
  unfold Jf at h
  rw[o6] at h
  split at h
  ·exact h.h
  ·split at h
   ·rename_i t e1 e2
    cases e1
    exact wF (qw e2 (fun _ _ _ e=>by cases e)) (dX h)
   ·rename_i t x e1 e2
    cases e1
    exact aR (qw e2 (fun _ _ _ e=>by cases e)) (dX h)
   ·rename_i t U cs e1 e2
    cases e1
    split at h
    ·rename_i e3;exact tO (qw e2 (fun _ _ _ e=>by cases e)) e3 (dX h)
    ·exact h.h
   ·rename_i j U cs e1 e2
    cases e1
    exact f8 (qw e2 (fun _ _ _ _=>rfl)) (dX h)
   ·exact h.h
end
section
variable (P:Program) [C:TaC P] (ops:Array Oper) (hs:List Nat) (K:Sq→Prop) (n:Nat)
def RQ:List Oper→List (Nat×DV)→List (Nat×TypeId×List CellD)→List (Nat×TypeId×List CellD)→List Nat→Prop
 |[],tm,bx,nb,sd=>K ⟨⟨n,tm,bx⟩,nb,sd⟩
 |o::os,tm,bx,nb,sd=>bif gst ops o.dst os then DQ P ops hs (o::os) ⟨⟨n,tm,bx⟩,nb,sd⟩ K else match o.dst,Ko P ops (fun s=>aF s tm) (hid hs (fun l=>aF l bx)) o with
  |some t,some .sk=>RQ os ((t,.u)::tm) bx nb sd
  |some t,some (.v x)=>RQ os ((t,x)::tm) bx nb sd
  |some t,some (.bx U cs)=>match aF t (nb++bx) with
   |none=>RQ os ((t,.p t 0)::tm) bx ((t,U,cs)::nb) sd
   |some _=>DQ P ops hs (o::os) ⟨⟨n,tm,bx⟩,nb,sd⟩ K
  |_,_=>DQ P ops hs (o::os) ⟨⟨n,tm,bx⟩,nb,sd⟩ K
variable {P ops hs K n}
theorem d7: ∀ {os:List Oper}{tm:List (Nat×DV)}{bx nb:List (Nat×TypeId×List CellD)}{sd:List Nat},RQ P ops hs K n os tm bx nb sd→dq P ops hs os ⟨⟨n,tm,bx⟩,nb,sd⟩ K
 |[],tm,bx,nb,sd,h=>h
 |⟨dst,op,ty,pos,af,g⟩::os,tm,bx,nb,sd,h=>by
  unfold RQ at h
  rw[o6] at h
  split at h
  ·exact h.h
  ·split at h
   ·rename_i t e1 e2
    cases e1
    exact wJ (qw e2 (fun _ _ _ e=>by cases e)) (d7 h)
   ·rename_i t x e1 e2
    cases e1
    exact bD (qw e2 (fun _ _ _ e=>by cases e)) (d7 h)
   ·rename_i t U cs e1 e2
    cases e1
    split at h
    ·rename_i e3;exact zX (qw e2 (fun _ _ _ e=>by cases e)) e3 (d7 h)
    ·exact h.h
   ·exact h.h
end
section
variable (P:Program) [C:TaC P]
def RN:Code→St→(Exit→St→Prop)→Prop
 | .seq x y,σ,Q=>RN x σ (DT (fun σ'=>RN y σ' Q) Q)
 | .skip,σ,Q=>Q .normal σ
 | .ret,σ,Q=>Q .ret σ
 | .exit id,σ,Q=>Q (.exit id) σ
 | .block id c,σ,Q=>RN c σ (NV id Q)
 | .region id ⟨l⟩ false,⟨n,tm,bx⟩,Q=>bif MR ⟨l⟩ n then Jf P ⟨l⟩ (Q .normal) n l tm bx else DW P (.region id ⟨l⟩ false) ⟨n,tm,bx⟩ Q
 |c,σ,Q=>DW P c σ Q
variable {P}
theorem acm {c:Code}: ∀ {σ:St}{Q Q':Exit→St→Prop},(∀e σ',Q e σ'→Q' e σ')→RN P c σ Q→Dw P c σ Q':=by
 induction c with
 |seq x y ihx ihy=>
  intro σ Q Q' hq h
  refine aa (ihx (fun e σ' he=>?_) h)
  cases e with
  |normal=>exact ihy hq he
  |_=>exact hq _ _ he
 |skip=>intro σ Q Q' hq h;exact aA (hq _ _ h)
 |ret=>intro σ Q Q' hq h;exact aZ (hq _ _ h)
 |exit id=>intro σ Q Q' hq h;exact a7 (hq _ _ h)
 |block id c ih=>
  intro σ Q Q' hq h
  refine Dw.mono (aB (ih (fun e σ' he=>he) h)) hq
 |region id ops draw=>
  intro σ Q Q' hq h
  obtain⟨l⟩:=ops
  obtain⟨n,tm,bx⟩:=σ
  cases draw with
  |true=>exact Dw.mono h.h hq
  |false=>
   have h:bif MR ⟨l⟩ n then Jf P ⟨l⟩ (Q .normal) n l tm bx else DW P (.region id ⟨l⟩ false) ⟨n,tm,bx⟩ Q:=h
   rw[o6] at h
   split at h
   ·rename_i hc;exact Dw.mono (Aw hc (dX h)) hq
   ·exact Dw.mono h.h hq
 |_=>intro σ Q Q' hq h;exact Dw.mono h.h hq
theorem no {c:Code}(h:RN P c σ Q):Dw P c σ Q:=acm (fun _ _ h=>h) h
end
section
variable {P:Program}[C:TaC P] {ops:Array Oper}{os:List Oper}{n t:Nat}{tm:List (Nat×DV)}{bx nb:List (Nat×TypeId×List CellD)}{K:St→Prop}{K':Sq→Prop}{hs sd:List Nat}{ty:TypeId}{pos:String}{af:Array Edge}{g:Option (Nat×Bool)}{op:Op}
omit C in
theorem LE {K2:Sq→Prop}(hk: ∀s,K' s→K2 s): ∀ {os:List Oper}{s:Sq},dq P ops hs os s K'→dq P ops hs os s K2
 |[],s,h=>hk s h
 |_::_,_,⟨e,a,b,c,d,f,h⟩=>⟨e,a,b,c,d,f,LE hk h⟩
theorem ar {x:DV}(h:Sem P ops ⟨some t,op,ty,pos,af,g⟩ (fun s=>aF s tm) (fun k=>aF k bx) (.r x)) (hk:Jf P ops K n os ((t,x)::tm) bx):DL P ops (⟨some t,op,ty,pos,af,g⟩::os) ⟨n,tm,bx⟩ K:=⟨aR h (dX hk)⟩
theorem aq {x:DV}(h:Sem P ops ⟨some t,op,ty,pos,af,g⟩ (fun s=>aF s tm) (hid hs (fun k=>aF k bx)) (.r x)) (hk:RQ P ops hs K' n os ((t,x)::tm) bx nb sd):DQ P ops hs (⟨some t,op,ty,pos,af,g⟩::os) ⟨⟨n,tm,bx⟩,nb,sd⟩ K':=⟨bD h (d7 hk)⟩
theorem re (h:Sem P ops ⟨none,op,ty,pos,af,g⟩ (fun s=>aF s tm) (fun k=>aF k bx) (.s k U cs)) (hk:Jf P ops K n os tm ((k,U,cs)::bx)):DL P ops (⟨none,op,ty,pos,af,g⟩::os) ⟨n,tm,bx⟩ K:=⟨f8 h (dX hk)⟩
theorem jT {b:Bool}(h:Sem P ops ⟨some t,op,ty,pos,af,g⟩ (fun s=>aF s tm) (fun k=>aF k bx) (.r (.v (.c (.b b))))) (hk: ∀c,b=c→Jf P ops K n os ((t,.v (.c (.b c)))::tm) bx):DL P ops (⟨some t,op,ty,pos,af,g⟩::os) ⟨n,tm,bx⟩ K:=⟨Z7 h fun c e=>dX (hk c e)⟩
theorem AF {b:Bool}(h:Sem P ops ⟨some t,op,ty,pos,af,g⟩ (fun s=>aF s tm) (hid hs (fun k=>aF k bx)) (.r (.v (.c (.b b))))) (hk: ∀c,b=c→RQ P ops hs K' n os ((t,.v (.c (.b c)))::tm) bx nb sd):DQ P ops hs (⟨some t,op,ty,pos,af,g⟩::os) ⟨⟨n,tm,bx⟩,nb,sd⟩ K':=⟨PM h fun c e=>d7 (hk c e)⟩
section
variable {fo:Operand}{args:Array Operand}{at_:Array TypeId}{f:FuncId}{ds rs:List D0}
theorem ac (h:(cE (fun s=>aF s tm) fo,qo (fun s=>aF s tm) args.toList,gd ops ⟨some t,.call ⟨.value fo,args,at_⟩,ty,pos,af,g⟩ fun s=>aF s tm)=(some (.v (.c (.f f))),some ds,some true)) (hok:Ok P f ds rs) (hk:Jf P ops K n os ((t,xx rs)::tm) bx):
 DL P ops (⟨some t,.call ⟨.value fo,args,at_⟩,ty,pos,af,g⟩::os) ⟨n,tm,bx⟩ K:=ar (cj h hok) hk
theorem aK (h:(cE (fun s=>aF s tm) fo,qo (fun s=>aF s tm) args.toList,gd ops ⟨some t,.call ⟨.value fo,args,at_⟩,ty,pos,af,g⟩ fun s=>aF s tm)=(some (.v (.c (.f f))),some ds,some true)) (hok:Ok P f ds rs) (hk:RQ P ops hs K' n os ((t,xx rs)::tm) bx nb sd):
 DQ P ops hs (⟨some t,.call ⟨.value fo,args,at_⟩,ty,pos,af,g⟩::os) ⟨⟨n,tm,bx⟩,nb,sd⟩ K':=aq (cj h hok) hk
end
variable {Q:Exit→St→Prop}{x y:Code}{σ:St}
theorem dD {b:Bool}(hb:aF t σ.tm=some (.v (.c (.b b)))) (ht:b=true→RN P x σ Q) (hf:b=false→RN P y σ Q):DW P (.cond (.tmp t) x y) σ Q:=⟨aI hb (fun e=>no (ht e)) fun e=>no (hf e)⟩
theorem tg (hb:aF t tm=some (.v (.c (.b true)))) (h:RN P x ⟨n,tm,bx⟩ Q):DW P (.cond (.tmp t) x y) ⟨n,tm,bx⟩ Q:=⟨df hb (no h)⟩
theorem qQ (hb:aF t tm=some (.v (.c (.b false)))) (h:RN P y ⟨n,tm,bx⟩ Q):DW P (.cond (.tmp t) x y) ⟨n,tm,bx⟩ Q:=⟨a8 hb (no h)⟩
theorem cT (m:Nat) (hs:List Nat) (h:RQ P l.toArray hs (fun s=>Jf P l.toArray (Q .normal) s.st.n (l.drop m) s.st.tm (s.nb++s.st.bx)) n (l.take m) tm bx [] []) (hc:Iz l.toArray m n=true:=by kernel_rfl):
 DW P (.region id l.toArray true) ⟨n,tm,bx⟩ Q:=⟨pJ m hs C.mo hc rfl rfl (LE (fun _ hk=>dX hk) (d7 h))⟩
theorem ag (h:Jf P l.toArray (Q .normal) n l tm bx) (hn:MR l.toArray n=true:=by kernel_rfl):Dw P (.region id l.toArray false) ⟨n,tm,bx⟩ Q:=Aw hn (dX h)
theorem dJ (m:Nat) (hs:List Nat) (h:RQ P l.toArray hs (fun s=>Jf P l.toArray (Q .normal) s.st.n (l.drop m) s.st.tm (s.nb++s.st.bx)) n (l.take m) tm bx [] []) (hc:Iz l.toArray m n=true:=by kernel_rfl):
 Dw P (.region id l.toArray true) ⟨n,tm,bx⟩ Q:=(cT m hs h hc).h
theorem ca {f:FuncId}{fn:Func}{c:Code}{ds rs:List D0}(hf:P.funcs[f]? =some fn) (hb:fn.body=some c) (h:RN P c ⟨fn.ntmps,mU 0 ds,[]⟩ fun e σ=>(e=.normal∨e=.ret)∧qW P σ fn.results.toList=some rs)
 (hcal:fI P f=true:=by kernel_rfl) (hlen:Nat.ble ds.length fn.ntmps=true:=by rfl):Ok P f ds rs:=Ok.of hcal hf hb hlen (no h)
end
def zcT:List (Nat×List CellD):=[(36,[.b false,.s 0 []]),(38,[.b false,.s 0 [],.b false,.s 0 []]),(40,[.b false,.s 0 [],.b false,.s 0 [],.b false,.s 0 [],.b false,.s 0 [],.b false,.s 0 [],.b false,.s 0 []]),(45,[.b false,.s 0 [],.b false,.s 0 [],.b false,.s 0 [],.b false,.s 0 [],.b false,.s 0 [],.b false,.s 0 []]),(47,[.b false,.s 0 [],.b false,.s 0 [],.b false,.s 0 [],.b false,.s 0 [],.b false,.s 0 [],.b false,.s 0 [],.b false,.s 0 [],.b false,.s 0 [],.b false,.s 0 [],.b false,.s 0 []]),(49,[.b false,.b false,.s 0 [],.b false,.s 0 [],.b false,.s 0 [],.b false,.s 0 [],.b false,.s 0 [],.b false,.s 0 [],.b false,.s 0 [],.b false,.s 0 [],.b false,.s 0 [],.b false,.s 0 [],.b false,.s 0 [],.b false,.s 0 [],.b false,.b false,.s 0 [],.b false,.s 0 [],.b false,.s 0 [],.b false,.s 0 [],.b false,.s 0 [],.b false,.s 0 [],.b false,.s 0 [],.b false,.s 0 [],.b false,.s 0 [],.b false,.s 0 [],.b false,.s 0 [],.b false,.s 0 [],.b false,.s 0 [],.b false,.s 0 [],.b false,.s 0 [],.b false,.s 0 [],.b false,.s 0 [],.b false,.s 0 [],.b false,.s 0 [],.b false,.s 0 []]),(65,[.b false,.s 0 [],.b false,.s 0 [],.b false,.s 0 [],.b false,.s 0 []]),(72,[.i .i64 0,.i .i64 0]),(129,[.b false,.s 0 [],.b false,.s 0 [],.b false,.s 0 [],.b false,.s 0 [],.b false,.s 0 [],.b false,.s 0 []]),(148,[.i .i64 0,.i .i64 0,.i .i64 0]),(186,[.b false,.s 0 [],.b false,.s 0 [],.b false,.s 0 [],.b false,.s 0 [],.b false,.s 0 [],.b false,.s 0 [],.b false,.s 0 [],.b false,.s 0 [],.b false,.s 0 [],.b false,.s 0 [],.b false,.s 0 [],.b false,.s 0 []]),(230,[.i .i64 0,.i .i64 0]),(256,[.b false,.s 0 [],.b false,.s 0 [],.b false,.s 0 [],.b false,.s 0 []]),(303,[.i .i64 0,.b false,.s 0 [],.b false,.s 0 [],.b false,.s 0 [],.b false,.s 0 [],.b false,.s 0 [],.b false,.s 0 []])]
def opF (U:Nat):Bool:=bif Nat.beq U 303 then true else bif Nat.beq U 49 then true else false
instance:TaC Tryz.prog:=⟨tb,zcT,opF,Qw,Yi (rD.2 ⟨GE,rD.2 ⟨uC,rD.2 ⟨Ud,rD.2 ⟨R5,rD.2 ⟨yY,rD.2 ⟨EV,rD.2 ⟨G8,rD.2 ⟨acA,rD.2 ⟨lh,rD.2 ⟨Zd,rD.2 ⟨Q6,rD.2 ⟨qr,rD.2 ⟨aa9,rD.2 ⟨Zx,fun _ h=>nomatch h⟩⟩⟩⟩⟩⟩⟩⟩⟩⟩⟩⟩⟩⟩),dM⟩
theorem lu (hL:Lim xs) (hn:xs.length≤1000000000):Ok Tryz.prog 168 [.c (cM xs)] [.c (cL (val xs))]:=by
 refine ca Tryz.func168 rfl ?_
 refine DW.mk<|bh (ι:={k:Nat // k≤xs.length∧trm (xs.take k)=trm xs}) (fun i=>⟨21,[(0,.v (.c (cM (xs.take i.1))))],[]⟩) (fun i=>i.1) ⟨xs.length,ce _,by rw[lJ]⟩ (ao ⟨by rw[lJ];rfl,trivial⟩ trivial rfl) ?_
 rintro⟨k,hk0,hT⟩
 have hk:(xs.take k).length=k:=by rw[dE];omega
 dsimp only
 refine no ?_
 refine jT (bz rfl) (fun c1 hb1=>?_)
 cases c1
 ·have hz:k=0:=by simp only[decide_eq_false_iff_not] at hb1;omega
  have hfin:cL (val xs)=cM (xs.take k):=by rw[Pn hL,←hT,hz];rfl
  refine qQ rfl<|ah ?_
  rw[hfin]
  exact az ae
 ·have h1:0<k:=by simp only[decide_eq_true_eq] at hb1;omega
  refine ar (ci (((k-1:Nat):Int)) (by rw[hk,show((k-1:Nat):Int)=(k:Int)-1 from by omega];exact bO (by omega) (by omega)) rfl)<|ar (bH ju rfl rfl (by omega) (jx _) rfl rfl) ?_
  refine ar (b5 fF rfl (lk (i:=(k-1)) (by omega)) rfl) ?_
  refine dD rfl (fun hc2=>?_) (fun hc2=>?_)
  ·have hstep:=MA h1 hk0 hT hc2
   refine ar (ci (((k-1:Nat):Int)) (by rw[hk,show((k-1:Nat):Int)=(k:Int)-1 from by omega];exact bO (by omega) (by omega)) rfl)<|ar (Hp (xs:=xs.take k) (j:=(k-1)) ju rfl rfl (by omega) rfl) ?_
   exact⟨⟨k-1,by omega,hstep⟩,ao ⟨by rw[show xs.take (k-1)=(xs.take k).take (k-1) from by rw[List.take_take,ij (by omega)]];rfl,trivial⟩ trivial rfl,by show k-1<k;omega⟩
  ·have hfin:cL (val xs)=cM (xs.take k):=by rw[Pn hL];exact congrArg cM (Ms h1 hk0 hT hc2)
   refine ah ?_
   rw[hfin]
   exact az ae
theorem nK (h:k<xs.length):val (xs.take (k+1))=val (xs.take k)+pw k*xs.getD k 0:=bc (getD_some h)
theorem qa (k:Nat):val (xs.take (k+1))=val (xs.take k)+pw k*xs.getD k 0:=by
 by_cases h:k<xs.length
 ·exact nK h
 ·rw[fT (by omega),List.getD,tL (by omega)];simp
structure PInv (p q:List Int) (k:Nat) (c:Int) (zs:List Int):Prop where
 le:k≤p.length
 c0:0≤c
 c1:c≤1
 L:Lim zs
 len:zs.length=k
 v:val zs+pw k*c=val (p.take k)+val (q.take k)
theorem PInv.step (h:PInv p q k c zs) (hp:Lim p) (hq:Lim q) (hk:k<p.length) (hS:S=c+p.getD k 0+q.getD k 0):PInv p q (k+1) (S/1000000000) (zs++[S%1000000000]):=by
 have h1:=di hp k
 have h2:=di hq k
 have:=h.c0
 have:=h.c1
 refine⟨hk,by omega,by omega,h.L.snoc (by omega) (by omega),by simp[h.len],?_⟩
 rw[qa k,qa k,nB h.len h.v (d:=S%1000000000) (c':=S/1000000000) (t:=p.getD k 0+q.getD k 0) (by omega)]
 grind
theorem PInv.done (h:PInv p q k c zs) (hk:k=p.length) (hq:q.length≤p.length):val (zs++[c])=val p+val q:=by
 have:=h.v
 rw[qD,h.len,this,hk,db (ce _),db hq]
structure SInv (p q:List Int) (k:Nat) (c:Int) (zs:List Int):Prop where
 le:k≤p.length
 c0:0≤c
 c1:c≤1
 L:Lim zs
 len:zs.length=k
 v:val zs-pw k*c=val (p.take k)-val (q.take k)
theorem SInv.step {c':Int}(h:SInv p q k c zs) (hk:k<p.length) (hd:0≤d) (hd2:d<1000000000) (hc0:0≤c') (hc1:c'≤1) (hS:d-1000000000*c'=p.getD k 0-c-q.getD k 0):SInv p q (k+1) c' (zs++[d]):=by
 refine⟨hk,hc0,hc1,h.L.snoc hd hd2,by simp[h.len],?_⟩
 have h1:=nB (zs:=zs) (k:=k) (c:= -c) (S:=val (p.take k)-val (q.take k)) (t:=p.getD k 0-q.getD k 0) (d:=d) (c':= -c') h.len (by rw[Int.mul_neg];have:=h.v;omega) (by omega)
 rw[qa k,qa k]
 grind
theorem SInv.done (h:SInv p q k c zs) (hk:k=p.length) (hq:q.length≤p.length) (hv:val q≤val p):val zs=val p-val q:=by
 have h1:=h.v
 rw[hk,db (ce _),db hq] at h1
 have h2:=fC h.L
 rw[h.len,hk] at h2
 have h4:=h.c0
 have h5:=h.c1
 have:c=0∨c=1:=by omega
 grind
structure TInv (p q:List Int) (i k:Nat) (c:Int) (zs:List Int):Prop where
 ik:i≤p.length
 kk:k≤q.length
 c0:0≤c
 c1:c<1000000000
 L:Lim zs
 len:zs.length=p.length+q.length
 z:Zr zs (i+q.length)
 v:val zs+pw (i+k)*c=val (p.take i)*val q+pw i*(p.getD i 0*val (q.take k))
theorem TInv.start:TInv p q 0 0 0 (List.replicate (p.length+q.length) 0):=
 ⟨Nat.zero_le _,eK _,by omega,by omega,Lim.zeros _,by simp,Zr.zeros _ _,by rw[Ab];simp[val]⟩
theorem TInv.step (h:TInv p q i k c zs) (hp:Lim p) (hq:Lim q) (hi:i<p.length) (hk:k<q.length) (hS:S=c+zs.getD (i+k) 0+p.getD i 0*q.getD k 0):
 TInv p q i (k+1) (S/1000000000) (zs.set (i+k) (S%1000000000)):=by
 have h1:=di hp i
 have h2:=di hq k
 have h3:=di h.L (i+k)
 have hc0:=h.c0
 have hc1:=h.c1
 have hm0:0≤p.getD i 0*q.getD k 0:=f5 h1.1 h2.1
 have hm1:p.getD i 0*q.getD k 0≤999999999*999999999:=rG (by omega) (by omega) h2.1 (by omega)
 have hlt:i+k<zs.length:=by rw[h.len];omega
 refine⟨h.ik,hk,by omega,by omega,h.L.set (by omega) (by omega),by simp[h.len],h.z.set (by omega),?_⟩
 rw[AW (getD_some hlt),nK hk,show i+(k+1)=i+k+1 from by omega,d5]
 have hv:=h.v
 rw[qi i k] at*
 grind
theorem TInv.row (h:TInv p q i k c zs) (hi:i<p.length) (hk:k=q.length):TInv p q (i+1) 0 0 (zs.set (i+q.length) c):=by
 have hlt:i+q.length<zs.length:=by rw[h.len];omega
 have hz:zs.getD (i+q.length) 0=0:=h.z (i+q.length) _ (ce _) (getD_some hlt)
 refine⟨hi,eK _,by omega,by omega,h.L.set h.c0 h.c1,by simp[h.len],?_,?_⟩
 ·rw[show i+1+q.length=i+q.length+1 from by omega];exact h.z.set_at
 ·rw[AW (getD_some hlt),hz,nK hi]
  have hv:=h.v
  simp only[List.take_zero,val,pD,Int.add_zero,Int.sub_zero]
  grind
theorem TInv.done (h:TInv p q i 0 0 zs) (hi:i=p.length):val zs=val p*val q:=by
 have hv:=h.v
 grind
theorem Mw (hx:i<xs.length) (hy:i<ys.length) (h:xs.drop (i+1)=ys.drop (i+1)) (he:xs.getD i 0=ys.getD i 0):xs.drop i=ys.drop i:=by
 rw[pj hx,pj hy,h]
 grind
theorem SQ (h:0≤v):dI (sg true v)=.a ([.b (decide (((du v.natAbs).length:Int)>0))]++[cL v]):=by
 rw[gN]
 unfold dI cI
 have e1:cL (-v)=cL v:=by unfold cL;rw[Int.natAbs_neg]
 have e2:decide (-v<0)=decide (((du v.natAbs).length:Int)>0):=by
  by_cases h0:v=0
  ·subst h0;simp[lU]
  ·have:(du v.natAbs).length≠0:=fun e=>h0 (Ez.1 e)
   rw[show decide (-v<0)=true from by simp;omega,show decide (((du v.natAbs).length:Int)>0)=true from by simp only[decide_eq_true_eq];omega]
 grind
structure ShInv (xs:List Int) (j:Nat) (r:Int):Prop where
 le:j≤xs.length
 r0:0≤r
 v:r*pw j+val (xs.take j)=val xs
theorem ShInv.step (h:ShInv xs (i+1) r) (hL:Lim xs):ShInv xs i (r*1000000000+xs.getD i 0):=by
 have h1:=di hL i
 refine⟨by have:=h.le;omega,by have:=h.r0;omega,?_⟩
 have hv:=h.v
 rw[qa i,d5] at hv
 grind
theorem ShInv.bound (h:ShInv xs j r) (hL:Lim xs):r≤val xs:=by
 have:=h.v
 have h1:=cX j
 have h2:=cK (hL.take j)
 have h3:=mY h1 h.r0
 grind
theorem Ql (hLxs:Lim xs) (hLys:Lim ys) (hn:xs.length≤100000000) (hm:ys.length≤100000000):Ok Tryz.prog 289 [.c (cM xs),.c (cM ys)] [.c (cL (val xs+val ys))]:=by
 refine eH Tryz.func289 55 [.tmp 4] rfl<|aa<|ag<|aa<|aa<|ag ?_
 refine aI rfl (fun hc1=>?_) (fun hc1=>?_)
 ·have hlt:xs.length<ys.length:=by simp only[decide_eq_true_eq] at hc1;omega
  refine ag<|aa<|ag ?_
  refine ar (ci ((ys.length:Int)+1) (bk (by(first|omega|(simp;omega))) (by(first|omega|(simp;omega)))) rfl) ?_
  refine DL.mk<|pi (ko (n:=ys.length+1) xR rfl rfl (by(first|omega|(simp;omega))) (by(first|omega|(simp;omega))) rfl) rfl<|dX ?_
  refine aa<|ag<|aa<|aa<|ag<|aB<|bh (ι:={t:Nat×Int×List Int // PInv ys xs t.1 t.2.1 t.2.2}) (fun i=>⟨55,[(0,.v (.c (cM ys))),(1,.v (.c (cM xs))),(5,.o 18 (ys.length+1) (ys.length+1)),(6,.v (.c (.i .u32 i.1.2.1))),(7,.v (.c (.i .i64 (i.1.1:Int))))],[(18,194,(i.1.2.2++List.replicate (ys.length+1-i.1.1) 0).map (CellD.i .u32))]⟩) (fun i=>ys.length-i.1.1) ⟨(0,0,[]),⟨Nat.zero_le _,nH 0,by decide,Lim.nil,rfl,by simp[val]⟩⟩ (ao ⟨rfl,rfl,rfl,rfl,rfl,trivial⟩ ⟨by rw[show(List.replicate (ys.length+1) (CellD.i .u32 0))=(([]:List Int)++List.replicate (ys.length+1-0) 0).map (CellD.i .u32) from by simp];rfl,trivial⟩ rfl) ?_
  rintro⟨⟨k,c,zs⟩,hI⟩
  replace hI:PInv ys xs k c zs:=hI
  have g1:=di hLys k
  have g2:=di hLxs k
  have g3:=hI.c0
  have g4:=hI.c1
  have g5:=hI.le
  have g6:=hI.len
  dsimp only
  refine aa<|aa<|ag ?_
  refine aI rfl (fun hc2=>?_) (fun hc2=>?_)
  ·have hk:k<ys.length:=by simp only[decide_eq_true_eq] at hc2;omega
   refine aA<|aa<|aB<|aa<|ag ?_
   refine ar (bH ju rfl rfl (by(first|omega|(simp;omega))) (jx _) rfl rfl) ?_
   refine ar (b5 fF rfl (lk (i:=k) (by(first|omega|(simp;omega)))) rfl) ?_
   refine ar (ci (c+(ys.getD k 0)) (ol (by(first|omega|(simp;omega))) (by(first|omega|(simp;omega)))) rfl) ?_
   refine aa<|aa<|ag ?_
   refine aI rfl (fun hc3=>?_) (fun hc3=>?_)
   ·have hkq:k<xs.length:=by simp only[decide_eq_true_eq] at hc3;omega
    have hS:c+ys.getD k 0+xs.getD k 0=c+ys.getD k 0+xs.getD k 0:=rfl
    have hb:c+ys.getD k 0+xs.getD k 0≤4294967295:=by omega
    refine ag ?_
    refine ar (bH ju rfl rfl (by(first|omega|(simp;omega))) (jx _) rfl rfl) ?_
    refine ar (b5 fF rfl (lk (i:=k) (by(first|omega|(simp;omega)))) rfl) ?_
    refine ar (ci ((c+(ys.getD k 0))+(xs.getD k 0)) (ol (by(first|omega|(simp;omega))) (by(first|omega|(simp;omega)))) rfl) ?_
    refine aa<|bg<|bK 3<|aR (gn (r:=(c+ys.getD k 0+xs.getD k 0)%1000000000) rfl rfl (by omega) (qv (by omega)) rfl) ?_
    refine aR (bq ju rfl rfl (by(first|omega|(simp;omega))) rfl) ?_
    refine f8 (bd (us:=((zs++List.replicate (ys.length+1-k) 0).set k ((c+ys.getD k 0+xs.getD k 0)%1000000000)).map (CellD.i .u32)) fF rfl rfl rfl rfl (by simp;omega) (ri (by(first|omega|(simp;omega)))) rfl) ?_
    refine ba<|ag<|ar (kJ (r:=(c+ys.getD k 0+xs.getD k 0)/1000000000) rfl rfl (by omega) (by rw[pd (by omega)];exact se (by omega) (by omega)) rfl) ?_
    refine ag ?_
    refine ar (ci ((k:Int)+1) (bk (by(first|omega|(simp;omega))) (by(first|omega|(simp;omega)))) rfl) ?_
    exact⟨⟨(k+1,(c+ys.getD k 0+xs.getD k 0)/1000000000,zs++[(c+ys.getD k 0+xs.getD k 0)%1000000000]),hI.step hLys hLxs hk hS⟩,ao ⟨rfl,rfl,rfl,rfl,by rw[show((k+1:Nat):Int)=(k:Int)+1 from by omega];rfl,trivial⟩ ⟨by rw[show ys.length+1-(k+1)=ys.length-k from by omega,←mX (m:=ys.length-k) (d:=(c+ys.getD k 0+xs.getD k 0)%1000000000) g6,show ys.length-k+1=ys.length+1-k from by omega];rfl,trivial⟩ rfl,by show ys.length-(k+1)<ys.length-k;omega⟩
   ·have hkq: ¬k<xs.length:=by simp only[decide_eq_false_iff_not] at hc3;omega
    have hq0:xs.getD k 0=0:=by rw[List.getD,tL (by omega)];rfl
    have hS:c+ys.getD k 0=c+ys.getD k 0+xs.getD k 0:=by omega
    refine aA<|aa<|bg<|bK 3<|aR (gn (r:=(c+ys.getD k 0)%1000000000) rfl rfl (by omega) (qv (by omega)) rfl) ?_
    refine aR (bq ju rfl rfl (by(first|omega|(simp;omega))) rfl) ?_
    refine f8 (bd (us:=((zs++List.replicate (ys.length+1-k) 0).set k ((c+ys.getD k 0)%1000000000)).map (CellD.i .u32)) fF rfl rfl rfl rfl (by simp;omega) (ri (by(first|omega|(simp;omega)))) rfl) ?_
    refine ba<|ag<|ar (kJ (r:=(c+ys.getD k 0)/1000000000) rfl rfl (by omega) (by rw[pd (by omega)];exact se (by omega) (by omega)) rfl) ?_
    refine ag ?_
    refine ar (ci ((k:Int)+1) (bk (by(first|omega|(simp;omega))) (by(first|omega|(simp;omega)))) rfl) ?_
    exact⟨⟨(k+1,(c+ys.getD k 0)/1000000000,zs++[(c+ys.getD k 0)%1000000000]),hI.step hLys hLxs hk hS⟩,ao ⟨rfl,rfl,rfl,rfl,by rw[show((k+1:Nat):Int)=(k:Int)+1 from by omega];rfl,trivial⟩ ⟨by rw[show ys.length+1-(k+1)=ys.length-k from by omega,←mX (m:=ys.length-k) (d:=(c+ys.getD k 0)%1000000000) g6,show ys.length-k+1=ys.length+1-k from by omega];rfl,trivial⟩ rfl,by show ys.length-(k+1)<ys.length-k;omega⟩
  ·have hk:k=ys.length:=by simp only[decide_eq_false_iff_not] at hc2;omega
   have hfin:(val xs+val ys:Int)=val ((zs++List.replicate (ys.length+1-k) 0).set ys.length c):=by rw[show ys.length+1-k=0+1 from by omega,mX (by omega)];simp only[List.replicate_zero,jc];rw[hI.done hk (by omega)];omega
   have hLf:Lim ((zs++List.replicate (ys.length+1-k) 0).set ys.length c):=(hI.L.append (Lim.zeros _)).set g3 (by omega)
   refine a7<|aa<|bg<|bK 4 ?_
   refine aR (bq ju rfl rfl (by(first|omega|(simp;omega))) rfl) ?_
   refine f8 (bd (us:=((zs++List.replicate (ys.length+1-k) 0).set ys.length c).map (CellD.i .u32)) fF rfl rfl rfl rfl (by simp;omega) (ri (by(first|omega|(simp;omega)))) rfl) ?_
   refine ba<|aa ?_
   refine we (t:=5) (zs:=(zs++List.replicate (ys.length+1-k) 0).set ys.length c) (ys:=(zs++List.replicate (ys.length+1-k) 0).set ys.length c) rfl rfl (by first|omega|(simp;omega)|simp) (by omega) (by omega) (ja (by first|omega|(simp;omega)|simp)) ?_
   refine ag<|ac rfl (lu hLf (by simp;omega))<|aZ ?_
   rw[hfin]
   exact ah (az ae)
 ·have hlt:ys.length≤xs.length:=by simp only[decide_eq_false_iff_not] at hc1;omega
  refine aA<|aa<|ag ?_
  refine ar (ci ((xs.length:Int)+1) (bk (by(first|omega|(simp;omega))) (by(first|omega|(simp;omega)))) rfl) ?_
  refine DL.mk<|pi (ko (n:=xs.length+1) xR rfl rfl (by(first|omega|(simp;omega))) (by(first|omega|(simp;omega))) rfl) rfl<|dX ?_
  refine aa<|ag<|aa<|aa<|ag<|aB<|bh (ι:={t:Nat×Int×List Int // PInv xs ys t.1 t.2.1 t.2.2}) (fun i=>⟨55,[(0,.v (.c (cM xs))),(1,.v (.c (cM ys))),(5,.o 18 (xs.length+1) (xs.length+1)),(6,.v (.c (.i .u32 i.1.2.1))),(7,.v (.c (.i .i64 (i.1.1:Int))))],[(18,194,(i.1.2.2++List.replicate (xs.length+1-i.1.1) 0).map (CellD.i .u32))]⟩) (fun i=>xs.length-i.1.1) ⟨(0,0,[]),⟨Nat.zero_le _,nH 0,by decide,Lim.nil,rfl,by simp[val]⟩⟩ (ao ⟨rfl,rfl,rfl,rfl,rfl,trivial⟩ ⟨by rw[show(List.replicate (xs.length+1) (CellD.i .u32 0))=(([]:List Int)++List.replicate (xs.length+1-0) 0).map (CellD.i .u32) from by simp];rfl,trivial⟩ rfl) ?_
  rintro⟨⟨k,c,zs⟩,hI⟩
  replace hI:PInv xs ys k c zs:=hI
  have g1:=di hLxs k
  have g2:=di hLys k
  have g3:=hI.c0
  have g4:=hI.c1
  have g5:=hI.le
  have g6:=hI.len
  dsimp only
  refine aa<|aa<|ag ?_
  refine aI rfl (fun hc4=>?_) (fun hc4=>?_)
  ·have hk:k<xs.length:=by simp only[decide_eq_true_eq] at hc4;omega
   refine aA<|aa<|aB<|aa<|ag ?_
   refine ar (bH ju rfl rfl (by(first|omega|(simp;omega))) (jx _) rfl rfl) ?_
   refine ar (b5 fF rfl (lk (i:=k) (by(first|omega|(simp;omega)))) rfl) ?_
   refine ar (ci (c+(xs.getD k 0)) (ol (by(first|omega|(simp;omega))) (by(first|omega|(simp;omega)))) rfl) ?_
   refine aa<|aa<|ag ?_
   refine aI rfl (fun hc5=>?_) (fun hc5=>?_)
   ·have hkq:k<ys.length:=by simp only[decide_eq_true_eq] at hc5;omega
    have hS:c+xs.getD k 0+ys.getD k 0=c+xs.getD k 0+ys.getD k 0:=rfl
    have hb:c+xs.getD k 0+ys.getD k 0≤4294967295:=by omega
    refine ag ?_
    refine ar (bH ju rfl rfl (by(first|omega|(simp;omega))) (jx _) rfl rfl) ?_
    refine ar (b5 fF rfl (lk (i:=k) (by(first|omega|(simp;omega)))) rfl) ?_
    refine ar (ci ((c+(xs.getD k 0))+(ys.getD k 0)) (ol (by(first|omega|(simp;omega))) (by(first|omega|(simp;omega)))) rfl) ?_
    refine aa<|bg<|bK 3<|aR (gn (r:=(c+xs.getD k 0+ys.getD k 0)%1000000000) rfl rfl (by omega) (qv (by omega)) rfl) ?_
    refine aR (bq ju rfl rfl (by(first|omega|(simp;omega))) rfl) ?_
    refine f8 (bd (us:=((zs++List.replicate (xs.length+1-k) 0).set k ((c+xs.getD k 0+ys.getD k 0)%1000000000)).map (CellD.i .u32)) fF rfl rfl rfl rfl (by simp;omega) (ri (by(first|omega|(simp;omega)))) rfl) ?_
    refine ba<|ag<|ar (kJ (r:=(c+xs.getD k 0+ys.getD k 0)/1000000000) rfl rfl (by omega) (by rw[pd (by omega)];exact se (by omega) (by omega)) rfl) ?_
    refine ag ?_
    refine ar (ci ((k:Int)+1) (bk (by(first|omega|(simp;omega))) (by(first|omega|(simp;omega)))) rfl) ?_
    exact⟨⟨(k+1,(c+xs.getD k 0+ys.getD k 0)/1000000000,zs++[(c+xs.getD k 0+ys.getD k 0)%1000000000]),hI.step hLxs hLys hk hS⟩,ao ⟨rfl,rfl,rfl,rfl,by rw[show((k+1:Nat):Int)=(k:Int)+1 from by omega];rfl,trivial⟩ ⟨by rw[show xs.length+1-(k+1)=xs.length-k from by omega,←mX (m:=xs.length-k) (d:=(c+xs.getD k 0+ys.getD k 0)%1000000000) g6,show xs.length-k+1=xs.length+1-k from by omega];rfl,trivial⟩ rfl,by show xs.length-(k+1)<xs.length-k;omega⟩
   ·have hkq: ¬k<ys.length:=by simp only[decide_eq_false_iff_not] at hc5;omega
    have hq0:ys.getD k 0=0:=by rw[List.getD,tL (by omega)];rfl
    have hS:c+xs.getD k 0=c+xs.getD k 0+ys.getD k 0:=by omega
    refine aA<|aa<|bg<|bK 3<|aR (gn (r:=(c+xs.getD k 0)%1000000000) rfl rfl (by omega) (qv (by omega)) rfl) ?_
    refine aR (bq ju rfl rfl (by(first|omega|(simp;omega))) rfl) ?_
    refine f8 (bd (us:=((zs++List.replicate (xs.length+1-k) 0).set k ((c+xs.getD k 0)%1000000000)).map (CellD.i .u32)) fF rfl rfl rfl rfl (by simp;omega) (ri (by(first|omega|(simp;omega)))) rfl) ?_
    refine ba<|ag<|ar (kJ (r:=(c+xs.getD k 0)/1000000000) rfl rfl (by omega) (by rw[pd (by omega)];exact se (by omega) (by omega)) rfl) ?_
    refine ag ?_
    refine ar (ci ((k:Int)+1) (bk (by(first|omega|(simp;omega))) (by(first|omega|(simp;omega)))) rfl) ?_
    exact⟨⟨(k+1,(c+xs.getD k 0)/1000000000,zs++[(c+xs.getD k 0)%1000000000]),hI.step hLxs hLys hk hS⟩,ao ⟨rfl,rfl,rfl,rfl,by rw[show((k+1:Nat):Int)=(k:Int)+1 from by omega];rfl,trivial⟩ ⟨by rw[show xs.length+1-(k+1)=xs.length-k from by omega,←mX (m:=xs.length-k) (d:=(c+xs.getD k 0)%1000000000) g6,show xs.length-k+1=xs.length+1-k from by omega];rfl,trivial⟩ rfl,by show xs.length-(k+1)<xs.length-k;omega⟩
  ·have hk:k=xs.length:=by simp only[decide_eq_false_iff_not] at hc4;omega
   have hfin:(val xs+val ys:Int)=val ((zs++List.replicate (xs.length+1-k) 0).set xs.length c):=by rw[show xs.length+1-k=0+1 from by omega,mX (by omega)];simp only[List.replicate_zero,jc];rw[hI.done hk (by omega)]
   have hLf:Lim ((zs++List.replicate (xs.length+1-k) 0).set xs.length c):=(hI.L.append (Lim.zeros _)).set g3 (by omega)
   refine a7<|aa<|bg<|bK 4 ?_
   refine aR (bq ju rfl rfl (by(first|omega|(simp;omega))) rfl) ?_
   refine f8 (bd (us:=((zs++List.replicate (xs.length+1-k) 0).set xs.length c).map (CellD.i .u32)) fF rfl rfl rfl rfl (by simp;omega) (ri (by(first|omega|(simp;omega)))) rfl) ?_
   refine ba<|aa ?_
   refine we (t:=5) (zs:=(zs++List.replicate (xs.length+1-k) 0).set xs.length c) (ys:=(zs++List.replicate (xs.length+1-k) 0).set xs.length c) rfl rfl (by first|omega|(simp;omega)|simp) (by omega) (by omega) (ja (by first|omega|(simp;omega)|simp)) ?_
   refine ag<|ac rfl (lu hLf (by simp;omega))<|aZ ?_
   rw[hfin]
   exact ah (az ae)
theorem Mf (hLxs:Lim xs) (hLys:Lim ys) (hn:xs.length≤100000000) (hlen:ys.length≤xs.length) (hle:val ys≤val xs):Ok Tryz.prog 283 [.c (cM xs),.c (cM ys)] [.c (cL (val xs-val ys))]:=by
 refine eH Tryz.func283 45 [.tmp 4] rfl<|aa<|ag<|aa<|ag ?_
 refine DL.mk<|pi (ko (n:=xs.length) xR rfl rfl (by(first|omega|(simp;omega))) (by(first|omega|(simp;omega))) rfl) rfl<|dX ?_
 refine aa<|ag<|aa<|aa<|ag<|aB<|bh (ι:={t:Nat×Int×List Int // SInv xs ys t.1 t.2.1 t.2.2}) (fun i=>⟨45,[(0,.v (.c (cM xs))),(1,.v (.c (cM ys))),(5,.o 11 xs.length xs.length),(6,.v (.c (.i .u32 i.1.2.1))),(7,.v (.c (.i .i64 (i.1.1:Int))))],[(11,194,(i.1.2.2++List.replicate (xs.length-i.1.1) 0).map (CellD.i .u32))]⟩) (fun i=>xs.length-i.1.1) ⟨(0,0,[]),⟨Nat.zero_le _,nH 0,by decide,Lim.nil,rfl,by simp[val]⟩⟩ (ao ⟨rfl,rfl,rfl,rfl,rfl,trivial⟩ ⟨by rw[show(List.replicate xs.length (CellD.i .u32 0))=(([]:List Int)++List.replicate (xs.length-0) 0).map (CellD.i .u32) from by simp];rfl,trivial⟩ rfl) ?_
 rintro⟨⟨k,c,zs⟩,hI⟩
 replace hI:SInv xs ys k c zs:=hI
 have g1:=di hLxs k
 have g2:=di hLys k
 have g3:=hI.c0
 have g4:=hI.c1
 have g5:=hI.le
 have g6:=hI.len
 dsimp only
 refine aa<|aa<|ag ?_
 refine aI rfl (fun hc1=>?_) (fun hc1=>?_)
 ·have hk:k<xs.length:=by simp only[decide_eq_true_eq] at hc1;omega
  refine aA<|aa<|aB<|aa<|ag ?_
  refine ar (bH ju rfl rfl (by(first|omega|(simp;omega))) (jx _) rfl rfl) ?_
  refine ar (b5 fF rfl (lk (i:=k) (by(first|omega|(simp;omega)))) rfl) ?_
  refine ar (ci ((xs.getD k 0)+1000000000) (ol (by(first|omega|(simp;omega))) (by(first|omega|(simp;omega)))) rfl) ?_
  refine ar (ci (((xs.getD k 0)+1000000000)-c) (rH (by(first|omega|(simp;omega))) (by(first|omega|(simp;omega)))) rfl) ?_
  refine aa<|aa<|ag ?_
  refine aI rfl (fun hc2=>?_) (fun hc2=>?_)
  ·have hkq:k<ys.length:=by simp only[decide_eq_true_eq] at hc2;omega
   refine ag ?_
   refine ar (bH ju rfl rfl (by(first|omega|(simp;omega))) (jx _) rfl rfl) ?_
   refine ar (b5 fF rfl (lk (i:=k) (by(first|omega|(simp;omega)))) rfl) ?_
   refine ar (ci ((((xs.getD k 0)+1000000000)-c)-(ys.getD k 0)) (rH (by(first|omega|(simp;omega))) (by(first|omega|(simp;omega)))) rfl) ?_
   refine aa<|ag<|aa<|aa<|ag ?_
   refine aI rfl (fun hc3=>?_) (fun hc3=>?_)
   ·simp only[decide_eq_true_eq] at hc3
    have hd1:0≤xs.getD k 0+1000000000-c-ys.getD k 0-1000000000:=by omega
    have hd2:xs.getD k 0+1000000000-c-ys.getD k 0-1000000000<1000000000:=by omega
    have hd3:(0:Int)≤0:=by omega
    have hd4:(0:Int)≤1:=by omega
    have hdS:xs.getD k 0+1000000000-c-ys.getD k 0-1000000000-1000000000*0=xs.getD k 0-c-ys.getD k 0:=by omega
    refine ag ?_
    refine ar (ci (((((xs.getD k 0)+1000000000)-c)-(ys.getD k 0))-1000000000) (rH (by(first|omega|(simp;omega))) (by(first|omega|(simp;omega)))) rfl) ?_
    refine bg<|bK 3 ?_
    refine aR (bq ju rfl rfl (by(first|omega|(simp;omega))) rfl) ?_
    refine f8 (bd (us:=((zs++List.replicate (xs.length-k) 0).set k (((((xs.getD k 0)+1000000000)-c)-(ys.getD k 0))-1000000000)).map (CellD.i .u32)) fF rfl rfl rfl rfl (by simp;omega) (ri (by(first|omega|(simp;omega)))) rfl) ?_
    refine ba<|ag ?_
    refine ar (ci ((k:Int)+1) (bk (by(first|omega|(simp;omega))) (by(first|omega|(simp;omega)))) rfl) ?_
    exact⟨⟨(k+1,0,zs++[xs.getD k 0+1000000000-c-ys.getD k 0-1000000000]),hI.step hk hd1 hd2 hd3 hd4 hdS⟩,ao ⟨rfl,rfl,rfl,rfl,by rw[show((k+1:Nat):Int)=(k:Int)+1 from by omega];rfl,trivial⟩ ⟨by rw[show xs.length-(k+1)=xs.length-k-1 from by omega,←mX (m:=xs.length-k-1) (d:=xs.getD k 0+1000000000-c-ys.getD k 0-1000000000) g6,show xs.length-k-1+1=xs.length-k from by omega];rfl,trivial⟩ rfl,by show xs.length-(k+1)<xs.length-k;omega⟩
   ·simp only[decide_eq_false_iff_not] at hc3
    have hd1:0≤xs.getD k 0+1000000000-c-ys.getD k 0:=by omega
    have hd2:xs.getD k 0+1000000000-c-ys.getD k 0<1000000000:=by omega
    have hd3:(0:Int)≤1:=by omega
    have hd4:(1:Int)≤1:=by omega
    have hdS:xs.getD k 0+1000000000-c-ys.getD k 0-1000000000*1=xs.getD k 0-c-ys.getD k 0:=by omega
    refine aA<|bg<|bK 3 ?_
    refine aR (bq ju rfl rfl (by(first|omega|(simp;omega))) rfl) ?_
    refine f8 (bd (us:=((zs++List.replicate (xs.length-k) 0).set k ((((xs.getD k 0)+1000000000)-c)-(ys.getD k 0))).map (CellD.i .u32)) fF rfl rfl rfl rfl (by simp;omega) (ri (by(first|omega|(simp;omega)))) rfl) ?_
    refine ba<|ag ?_
    refine ar (ci ((k:Int)+1) (bk (by(first|omega|(simp;omega))) (by(first|omega|(simp;omega)))) rfl) ?_
    exact⟨⟨(k+1,1,zs++[xs.getD k 0+1000000000-c-ys.getD k 0]),hI.step hk hd1 hd2 hd3 hd4 hdS⟩,ao ⟨rfl,rfl,rfl,rfl,by rw[show((k+1:Nat):Int)=(k:Int)+1 from by omega];rfl,trivial⟩ ⟨by rw[show xs.length-(k+1)=xs.length-k-1 from by omega,←mX (m:=xs.length-k-1) (d:=xs.getD k 0+1000000000-c-ys.getD k 0) g6,show xs.length-k-1+1=xs.length-k from by omega];rfl,trivial⟩ rfl,by show xs.length-(k+1)<xs.length-k;omega⟩
  ·have hkq: ¬k<ys.length:=by simp only[decide_eq_false_iff_not] at hc2;omega
   have hq0:ys.getD k 0=0:=by rw[List.getD,tL (by omega)];rfl
   refine aA<|aa<|ag<|aa<|aa<|ag ?_
   refine aI rfl (fun hc4=>?_) (fun hc4=>?_)
   ·simp only[decide_eq_true_eq] at hc4
    have hd1:0≤xs.getD k 0+1000000000-c-1000000000:=by omega
    have hd2:xs.getD k 0+1000000000-c-1000000000<1000000000:=by omega
    have hd3:(0:Int)≤0:=by omega
    have hd4:(0:Int)≤1:=by omega
    have hdS:xs.getD k 0+1000000000-c-1000000000-1000000000*0=xs.getD k 0-c-ys.getD k 0:=by omega
    refine ag ?_
    refine ar (ci ((((xs.getD k 0)+1000000000)-c)-1000000000) (rH (by(first|omega|(simp;omega))) (by(first|omega|(simp;omega)))) rfl) ?_
    refine bg<|bK 3 ?_
    refine aR (bq ju rfl rfl (by(first|omega|(simp;omega))) rfl) ?_
    refine f8 (bd (us:=((zs++List.replicate (xs.length-k) 0).set k ((((xs.getD k 0)+1000000000)-c)-1000000000)).map (CellD.i .u32)) fF rfl rfl rfl rfl (by simp;omega) (ri (by(first|omega|(simp;omega)))) rfl) ?_
    refine ba<|ag ?_
    refine ar (ci ((k:Int)+1) (bk (by(first|omega|(simp;omega))) (by(first|omega|(simp;omega)))) rfl) ?_
    exact⟨⟨(k+1,0,zs++[xs.getD k 0+1000000000-c-1000000000]),hI.step hk hd1 hd2 hd3 hd4 hdS⟩,ao ⟨rfl,rfl,rfl,rfl,by rw[show((k+1:Nat):Int)=(k:Int)+1 from by omega];rfl,trivial⟩ ⟨by rw[show xs.length-(k+1)=xs.length-k-1 from by omega,←mX (m:=xs.length-k-1) (d:=xs.getD k 0+1000000000-c-1000000000) g6,show xs.length-k-1+1=xs.length-k from by omega];rfl,trivial⟩ rfl,by show xs.length-(k+1)<xs.length-k;omega⟩
   ·simp only[decide_eq_false_iff_not] at hc4
    have hd1:0≤xs.getD k 0+1000000000-c:=by omega
    have hd2:xs.getD k 0+1000000000-c<1000000000:=by omega
    have hd3:(0:Int)≤1:=by omega
    have hd4:(1:Int)≤1:=by omega
    have hdS:xs.getD k 0+1000000000-c-1000000000*1=xs.getD k 0-c-ys.getD k 0:=by omega
    refine aA<|bg<|bK 3 ?_
    refine aR (bq ju rfl rfl (by(first|omega|(simp;omega))) rfl) ?_
    refine f8 (bd (us:=((zs++List.replicate (xs.length-k) 0).set k (((xs.getD k 0)+1000000000)-c)).map (CellD.i .u32)) fF rfl rfl rfl rfl (by simp;omega) (ri (by(first|omega|(simp;omega)))) rfl) ?_
    refine ba<|ag ?_
    refine ar (ci ((k:Int)+1) (bk (by(first|omega|(simp;omega))) (by(first|omega|(simp;omega)))) rfl) ?_
    exact⟨⟨(k+1,1,zs++[xs.getD k 0+1000000000-c]),hI.step hk hd1 hd2 hd3 hd4 hdS⟩,ao ⟨rfl,rfl,rfl,rfl,by rw[show((k+1:Nat):Int)=(k:Int)+1 from by omega];rfl,trivial⟩ ⟨by rw[show xs.length-(k+1)=xs.length-k-1 from by omega,←mX (m:=xs.length-k-1) (d:=xs.getD k 0+1000000000-c) g6,show xs.length-k-1+1=xs.length-k from by omega];rfl,trivial⟩ rfl,by show xs.length-(k+1)<xs.length-k;omega⟩
 ·have hk:k=xs.length:=by simp only[decide_eq_false_iff_not] at hc1;omega
  have hfin:val xs-val ys=val (zs++List.replicate (xs.length-k) 0):=by rw[show xs.length-k=0 from by omega];simp only[List.replicate_zero,jc];rw[hI.done hk hlen hle]
  have hLf:Lim (zs++List.replicate (xs.length-k) 0):=hI.L.append (Lim.zeros _)
  refine a7<|aa ?_
  refine we (t:=5) (zs:=zs++List.replicate (xs.length-k) 0) (ys:=zs++List.replicate (xs.length-k) 0) rfl rfl (by first|omega|(simp;omega)|simp) (by omega) (by omega) (ja (by first|omega|(simp;omega)|simp)) ?_
  refine ag<|ac rfl (lu hLf (by simp;omega))<|aZ ?_
  rw[hfin]
  exact ah (az ae)
end Go.Proofs.YtegpmhlfjkhjmaaGreat
