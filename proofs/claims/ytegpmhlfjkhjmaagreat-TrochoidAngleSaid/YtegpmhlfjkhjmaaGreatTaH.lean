/-Data:casts of contracts,the greater and the lesser of two numbers,literals of structs. -/
import Derived.Test.YtegpmhlfjkhjmaaGreatTaG
namespace Go.Proofs.YtegpmhlfjkhjmaaGreat
open Go Go.RowKit
variable {ops:Array Oper}{B:BF}{d hi lo m n r s t:Int}{k:IntKind}{P:Program}{p:Prop}{A C D M N a a1 a2 b b1 b2 c c1 c2 e f x y:Rat}{T:TF}{U t1 t2:TypeId}
variable {ty:TypeId}{pos:String}{af:Array Edge}{g:Option (Nat×Bool)}{dst:Option Nat}
theorem a8:type_of% @Rz.mul:=@Rz.mul
theorem df:type_of% @Rz.sub:=@Rz.sub
theorem dh:type_of% @Rz.d:=@Rz.d
theorem db:type_of% @Rz.n:=@Rz.n
theorem dB:type_of% @Sz.mul:=@Sz.mul
theorem fu:type_of% @Rz.int:=@Rz.int
theorem ju:type_of% @Rz.add:=@Rz.add
theorem mX:type_of% @Bool.and_false:=@Bool.and_false
section
variable {P:Program}{ops:Array Oper}{T:TF}{B:BF}
theorem zU {x y:Operand}
 (hx:cO T x=some (.v (.c (.i k m)))) (hy:cO T y=some (.v (.c (.i k n)))) (hg:gd ops ⟨dst,.call ⟨.builtin .max,#[x,y],#[t1,t2]⟩,ty,pos,af,g⟩ T=some true):
 Sem P ops ⟨dst,.call ⟨.builtin .max,#[x,y],#[t1,t2]⟩,ty,pos,af,g⟩ T B (.r (.v (.c (.i k (max m n))))):=
 bI hg (pF rfl) (fun V β a w hs=>by
  have e1:a.eval x=.int k m:=fO (aC hs (x:=x) (by simp[Op.operands,Call.operands]) hx)
  have e2:a.eval y=.int k n:=fO (aC hs (x:=y) (by simp[Op.operands,Call.operands]) hy)
  refine⟨.int k (max m n),?_,.i _ _⟩
  simp[execOp,resolve,invoke,builtin,Builtin.max_,Builtin.max2,e1,e2]
  split<;>omega)
theorem zN {x y:Operand}
 (hx:cO T x=some (.v (.c (.i k m)))) (hy:cO T y=some (.v (.c (.i k n)))) (hg:gd ops ⟨dst,.call ⟨.builtin .min,#[x,y],#[t1,t2]⟩,ty,pos,af,g⟩ T=some true):
 Sem P ops ⟨dst,.call ⟨.builtin .min,#[x,y],#[t1,t2]⟩,ty,pos,af,g⟩ T B (.r (.v (.c (.i k (min m n))))):=
 bI hg (pF rfl) (fun V β a w hs=>by
  have e1:a.eval x=.int k m:=fO (aC hs (x:=x) (by simp[Op.operands,Call.operands]) hx)
  have e2:a.eval y=.int k n:=fO (aC hs (x:=y) (by simp[Op.operands,Call.operands]) hy)
  refine⟨.int k (min m n),?_,.i _ _⟩
  simp[execOp,resolve,invoke,builtin,Builtin.min_,Builtin.min2,e1,e2]
  split<;>omega)
end
theorem bW {e:TypeId}{ps:Array (Nat×Operand)}{n m by_:Nat}{zs us:List CellD}{dps:List (Nat×D0)}
 (hU:xF P U=some (e,m,by_,zs)) (hp:uM T ps.toList=some dps) (hf:vm (fun i=>some (i*m,m)) (List.replicate n zs).flatten dps=some us) (hl:us.length=n*m) (hn:n*m≤16777216) (hm:0<n*m)
 (hg:gd ops ⟨dst,.buildSlice U n ps,ty,pos,af,g⟩ T=some true):Sem P ops ⟨dst,.buildSlice U n ps,ty,pos,af,g⟩ T B (.r (.v (.c (.s n us)))):=by
 have h:=qA (B:=B) hU hp hf hn hm hg
 refine⟨pF rfl,fun V β a w hs=>?_⟩
 obtain⟨hw,hg⟩:=h V β a w hs
 refine⟨hw,hg.mono ?_⟩
 rintro v w' ⟨vs,rfl,rfl,hr⟩
 refine⟨?_,(fJ _ w).alloc (ck _) _⟩
 have hkeep:=Keep.below (av:=V) ((fJ w.heap.size w).alloc (ck _) (.cells vs e))
 have hr2:=hr.keep hkeep
 have hvl:vs.size=n*m:=by have:=hr.1;rw[hl] at this;simpa using this
 have hn0:0<n:=by grind
 have hm0:0<m:=by grind
 have hnm:n≤n*m:=Nat.le_mul_of_pos_right n hm0
 refine .s w.heap.size 0 n m n _ (fun j=>vs.getD j undef) hn0 (ck _) (by omega) hl (by simp) (fun h=>by have:=hs.av _ h;omega) (fun j hj=>?_) (fun j u hj=>?_)
 ·simp_all
 ·have hlt:j<n*m:=by have:=(j9.1 hj).1;omega
  refine hr2.2 j _ u ?_ hj
  have:j<vs.size:=by omega
  simp[Array.getD,this]
theorem aJ {o:Oper}{b c:Bool}(h:Sem P ops o T B (.r (.v (.c (.b b))))) (e:b=c):Sem P ops o T B (.r (.v (.c (.b c)))):=by subst e;exact h
theorem b5 {a b:Int}(h0: -9223372036854775808≤a*b) (h1:a*b≤9223372036854775807):Dj .mul .i64 a b=some (a*b):=congrArg some (qO h0 h1)
section
variable {P:Program}{f:FuncId}{ds rs:List D0}{x y z u v x' y' z' u' v':Rat}
theorem kJ (h:Ok P f ds [dR x]) (e:x=x'):Ok P f ds [dR x']:=by subst e;exact h
theorem GM {rs:List D0}(h:Ok P f ds (.a (cR x++cR y++cR z++cR u++cR v)::rs)) (e1:x=x') (e2:y=y') (e3:z=z') (e4:u=u') (e5:v=v'):Ok P f ds (.a (cR x'++cR y'++cR z'++cR u'++cR v')::rs):=by grind
theorem cE {b c:Bool}(h:Ok P f ds [.c (.b b)]) (e:b=c):Ok P f ds [.c (.b c)]:=by subst e;exact h
theorem cb {b c:Int}(h:Ok P f ds [.c (.i .i64 b)]) (e:b=c):Ok P f ds [.c (.i .i64 c)]:=by subst e;exact h
end
theorem wX:aX x y≤0↔x≤y:=by
 unfold aX
 split
 ·rename_i h;exact⟨fun _=>by grind,fun _=>by omega⟩
 ·split
  ·rename_i h;exact⟨fun h2=>by omega,fun h2=>by grind⟩
  ·rename_i h1 h2;exact⟨fun _=>by grind,fun _=>by omega⟩
theorem wQ:aX x y≥0↔y≤x:=by
 unfold aX
 split
 ·rename_i h;exact⟨fun _=>by omega,fun _=>by grind⟩
 ·split
  ·rename_i h;exact⟨fun h2=>by grind,fun h2=>by omega⟩
  ·rename_i h1 h2;exact⟨fun _=>by grind,fun _=>by omega⟩
theorem Rz.num (h0: -9223372036854775808≤n) (h1:n≤9223372036854775807):Rz 3 (n:Rat):=fu (dC (by decide) h0 h1) (by decide)
theorem Mm {x y:Int}(hx:Sz 100000000 x) (hy:Sz 100000000 y):Ok Tryz.prog 292 [dI x,dI y] [dI (Int.gcd x y:Int)]:=by
 refine b9 Tryz.func292 rfl<|dF 8 [] ?_
 refine aI rfl (uv) ?_
 refine aI rfl (uv) ?_
 refine DW.mk<|bv (ι:={p:Int×Int // GInv x y p.1 p.2}) (fun i=>⟨61,[(4,.p 4 0),(5,.p 5 0),(6,.p 6 0)],[(4,36,([.b false]++[.s 0 []])),(5,36,cI i.1.1),(6,36,cI i.1.2)]⟩) (fun i=>i.1.2.toNat) ⟨(sg false (x.natAbs:Int),sg false (y.natAbs:Int)),GInv.start hx hy⟩ (ap (bo rfl) (bo rfl) rfl) ?_
 rintro⟨⟨a,c⟩,hg⟩
 replace hg:GInv x y a c:=hg
 have ha:=hg.sa
 have hcc:=hg.sc
 dsimp only
 refine gZ ?_
 refine dS rfl (fun hc1=>?_) (fun hc1=>?_)
 ·have hne:=tG hc1
  refine ac rfl (HA)<|ac rfl (HA) ?_
  refine lg (bJ rfl) (fun c2 hb2=>?_)
  cases c2
  ·refine qq rfl<|ac rfl (yg (by assumption) (by assumption) (by assumption))<|dF 3 [] ?_
   refine aI rfl (mq) ?_
   exact⟨⟨(c,sg false ((a.natAbs:Int)%c.natAbs)),hg.step hne⟩,ap (bo rfl) (bo rfl) rfl,hg.less hne⟩
  ·refine dS rfl (fun hc3=>?_) (fun hc3=>?_)
   ·refine DW.mk<|bv (ι:={p:Int×Int // GInv2 x y p.1 p.2}) (fun i=>⟨61,[(4,.p 4 0),(7,.v (.c (.i .u64 i.1.1))),(9,.v (.c (.i .u64 i.1.2)))],[(4,36,([.b false]++[.s 0 []]))]⟩) (fun i=>i.1.2.toNat) ⟨(if a.natAbs<1000000000000000000 then(a.natAbs:Int) else 0,if c.natAbs<1000000000000000000 then(c.natAbs:Int) else 0),hg.word hb2 hc3⟩ (ap (bo rfl) ⟨rfl,trivial⟩ rfl) ?_
    rintro⟨⟨u,v⟩,hw⟩
    replace hw:GInv2 x y u v:=hw
    dsimp only
    refine gZ ?_
    refine dS rfl (fun hc4=>?_) (fun hc4=>?_)
    ·have hv:v>0:=by simpa using hc4
     refine dF 6 []<|aq (FA rfl rfl (by omega) rfl) ?_
     exact⟨⟨(v,u.tmod v),hw.step hv⟩,ap (bo rfl) ⟨rfl,trivial⟩ rfl,hw.less hv⟩
    ·refine ac rfl (NR hw.u0 hw.u1)<|ac rfl (mq) ?_
     refine ai ?_
     rw[hw.done (by simpa using hc4)]
     exact bj d5 rfl ag
   ·refine ac rfl (yg (by assumption) (by assumption) (by assumption))<|dF 3 [] ?_
    refine aI rfl (mq) ?_
    exact⟨⟨(c,sg false ((a.natAbs:Int)%c.natAbs)),hg.step hne⟩,ap (bo rfl) (bo rfl) rfl,hg.less hne⟩
 ·refine ar (RC rfl (by assumption) rfl) ?_
  refine ac rfl (uv) ?_
  refine ai ?_
  rw[hg.done (td hc1)]
  exact bj d5 rfl ag
theorem nM {x y:Int}(hx:Sz 100000000 x) (hy:Sz 100000000 y) (h0:y≠0):Ok Tryz.prog 349 [dI x,dI y] [dI (x.fdiv y),dI (x.fmod y),.c (.i .i64 0)]:=by
 have hq:Sz 100000000 (q0 x y):=hx.q0
 have hr:Sz 100000000 (r0 x y):=hy.r0 h0
 have h1:Sz 100000000 (1:Int):=dC (by omega) (by omega) (by omega)
 refine b9 Tryz.func349 rfl ?_
 refine dS rfl (fun hc1=>?_) (fun hc1=>?_)
 ·exact absurd hc1 (by simp[eZ,h0])
 ·refine ac rfl (yg (by assumption) (by assumption) (by assumption))<|dF 13 [] ?_
  refine aq (kG rfl rfl jQ rfl) ?_
  refine aI rfl (mq) ?_
  refine aI rfl (mq) ?_
  refine lg (bJ rfl) (fun c2 hb2=>?_)
  cases c2
  ·refine qq rfl<|dF 5 [4,5,999999] ?_
   refine DQ.mk<|jE (eQ d5 rfl) rfl rfl rfl rfl<|dP ?_
   refine DQ.mk<|jE (eQ d5 rfl) rfl rfl rfl rfl<|dP ?_
   obtain⟨e1,e2⟩:=yS (x:=x) h0 (.inl (td hb2))
   refine ai ?_
   rw[e1,e2]
   exact bj d5 rfl (bj d5 rfl (ak ag))
  ·refine ar (kG rfl rfl jQ rfl) ?_
   refine dS rfl (fun hc3=>?_) (fun hc3=>?_)
   ·refine dF 6 [] ?_
    refine aI rfl (jj (by omega) (by omega))<|aI rfl (UP (by assumption) (by assumption)) ?_
    refine aI rfl (uL (by assumption) (by assumption))<|dF 5 [4,5,999999] ?_
    refine DQ.mk<|jE (eQ d5 rfl) rfl rfl rfl rfl<|dP ?_
    refine DQ.mk<|jE (eQ d5 rfl) rfl rfl rfl rfl<|dP ?_
    obtain⟨e1,e2⟩:=Js (x:=x) h0 (tG hb2) (GZ hc3)
    refine ai ?_
    rw[e1,e2]
    exact bj d5 rfl (bj d5 rfl (ak ag))
   ·refine dF 5 [4,5,999999] ?_
    refine DQ.mk<|jE (eQ d5 rfl) rfl rfl rfl rfl<|dP ?_
    refine DQ.mk<|jE (eQ d5 rfl) rfl rfl rfl rfl<|dP ?_
    obtain⟨e1,e2⟩:=yS (x:=x) h0 (.inr (FX hc3))
    refine ai ?_
    rw[e1,e2]
    exact bj d5 rfl (bj d5 rfl (ak ag))
theorem Ds {x:Int}:Ok Tryz.prog 74 [dI x] [.c (.i .i64 (fk x 0))]:=by
 refine b9 Tryz.func74 rfl ?_
 refine dS rfl (fun hc1=>?_) (fun hc1=>?_)
 ·refine ai ?_
  rw[mm (by have:=hc1;simp[eZ] at this;omega)]
  exact ak ag
 ·refine dS rfl (fun hc2=>?_) (fun hc2=>?_)
  ·refine ai ?_
   rw[fK (by simpa using hc2)]
   exact ak ag
  ·refine ai ?_
   rw[fQ (by have:=hc1;have h2:=hc2;simp[eZ] at this h2;omega)]
   exact ak ag
theorem L6 {x y:Int}(hx:Sz 100000000 x) (hy:Sz 100000000 y):Ok Tryz.prog 106 [dI x,dI y] [.c (.i .i64 (fk x y))]:=by
 refine b9 Tryz.func106 rfl ?_
 refine ar (kG rfl rfl jQ rfl) ?_
 refine dS rfl (fun hc1=>?_) (fun hc1=>?_)
 ·refine dS rfl (fun hc2=>?_) (fun hc2=>?_)
  ·refine ai ?_
   rw[fK (by have:=GZ hc1;have h2:=hc2;simp only[decide_eq_true_eq] at h2;omega)]
   exact ak ag
  ·refine ai ?_
   rw[fQ (by have:=GZ hc1;have h2:=hc2;simp only[decide_eq_false_iff_not] at h2;omega)]
   exact ak ag
 ·refine dS rfl (fun hc3=>?_) (fun hc3=>?_)
  ·refine ac rfl (p8 (by assumption) (by assumption))<|ai ?_
   rw[←GN hc3 (by have:=FX hc1;have h2:=hc3;simp only[decide_eq_true_eq] at h2;omega)]
   exact ak ag
  ·refine ac rfl (p8 (by assumption) (by assumption))<|ai ?_
   rw[←FD hc3 (by have:=FX hc1;have h2:=hc3;simp only[decide_eq_false_iff_not] at h2;omega)]
   exact ak ag
theorem ni {x:Int}(h0: -9223372036854775808≤x) (h1:x≤9223372036854775807):Ok Tryz.prog 66 [.c (.i .i64 x)] [dI x]:=by
 refine b9 Tryz.func66 rfl ?_
 refine dS rfl (fun hc1=>?_) (fun hc1=>?_)
 ·have hn:x<0:=by simpa using hc1
  refine ar (b6 (r:=x+18446744073709551616) Ec fX rfl (H0 hn h0) rfl) ?_
  refine ar (il (r:= -x) rfl (EQ hn h0) rfl) ?_
  refine ac rfl (sP (by omega) (by omega))<|ac rfl (jb (Sz.small3 (by omega) (by omega))) ?_
  have hfin:dI x=dI (sg true (((-x).natAbs:Nat):Int)):=congrArg dI (by rw[gV];omega)
  refine ai ?_
  rw[hfin]
  exact bj d5 rfl ag
 ·have hn:0≤x:=by have:=hc1;simp at this;omega
  refine ar (b6 (r:=x) Ec fX rfl (iE (by omega) (by omega)) rfl) ?_
  refine ac rfl (sP (by omega) (by omega))<|ac rfl (jb (Sz.small3 (by omega) (by omega))) ?_
  have hfin:dI x=dI (sg false ((x.natAbs:Nat):Int)):=congrArg dI (by rw[cW];omega)
  refine ai ?_
  rw[hfin]
  exact bj d5 rfl ag
theorem An {x:Int}(hx:Sz 100000000 x):Ok Tryz.prog 192 [dI x] [dI (-x)]:=by
 refine b9 Tryz.func192 rfl<|ac rfl (jb (by assumption)) ?_
 refine ai ?_
 rw[←ZF (x:=x)]
 exact bj d5 rfl ag
theorem od {x y:Int}(hx:Sz 40000000 x) (hy:Sz 40000000 y):Ok Tryz.prog 107 [dI x,dI y] [dI (x*y)]:=by
 have hx6:Sz 100000000 x:=hx.m_
 have hy6:Sz 100000000 y:=hy.m_
 have hp:Sz 100000000 ((x.natAbs:Int)*(y.natAbs:Int)):=((Gu hx).mul (Gu hy)).m_
 refine b9 Tryz.func107 rfl<|dF 11 [] ?_
 refine aq (kG rfl rfl jQ rfl) ?_
 refine aI rfl (Rs (by assumption) (by assumption))<|aI rfl (jb (by assumption))<|ai ?_
 rw[←aar (x:=x) (y:=y)]
 exact bj d5 rfl ag
theorem B5 {x y:Int}(hx:Sz 90000000 x) (hy:Sz 90000000 y):Ok Tryz.prog 204 [dI x,dI y] [dI (x+y)]:=by
 have hx6:Sz 100000000 x:=hx.m_
 have hy6:Sz 100000000 y:=hy.m_
 have hp:Sz 100000000 ((x.natAbs:Int)+(y.natAbs:Int)):=((Gu (hx.mono (l:=99999999) (by decide))).add (Gu (hy.m_))).m_
 refine b9 Tryz.func204 rfl<|ar (Di rfl rfl jQ rfl) ?_
 refine dS rfl (fun hc1=>?_) (fun hc1=>?_)
 ·refine dF 8 [] ?_
  refine aI rfl (Wi (by assumption) (by assumption)) ?_
  refine aI rfl (jb (by assumption))<|ai ?_
  rw[←Uw hc1]
  exact bj d5 rfl ag
 ·refine ac rfl (p8 (by assumption) (by assumption)) ?_
  refine dS rfl (fun hc2=>?_) (fun hc2=>?_)
  ·have hge:=GR hc2
   have hq:Sz 100000000 ((x.natAbs:Int)-(y.natAbs:Int)):=hx6.of_le (by omega)
   refine dF 8 [] ?_
   refine aI rfl (zi (by assumption) (by omega))<|aI rfl (jb (by assumption))<|ai ?_
   rw[←acY hc1 (by omega)]
   exact bj d5 rfl ag
  ·have hge:=Fr hc2
   have hq:Sz 100000000 ((y.natAbs:Int)-(x.natAbs:Int)):=hy6.of_le (by omega)
   refine dF 8 [] ?_
   refine aI rfl (zi (by assumption) (by omega))<|aI rfl (jb (by assumption))<|ai ?_
   rw[←abp hc1 (by omega)]
   exact bj d5 rfl ag
theorem TP {x y:Int}(hx:Sz 90000000 x) (hy:Sz 90000000 y):Ok Tryz.prog 287 [dI x,dI y] [dI (x-y)]:=by
 have hx6:Sz 100000000 x:=hx.m_
 have hy6:Sz 100000000 y:=hy.m_
 have hyn:Sz 90000000 (-y):=hy.neg
 refine b9 Tryz.func287 rfl<|dF 4 [] ?_
 refine aI rfl (An (by assumption)) ?_
 refine aI rfl (B5 (by assumption) (by assumption))<|ai ?_
 rw[Int.sub_eq_add_neg]
 exact bj d5 rfl ag
theorem Ra {x y:Int}(hx:Sz 100000000 x) (hy:Sz 100000000 y):Ok Tryz.prog 75 [dI x,dI y] [.c (.b (x==y))]:=by
 refine b9 Tryz.func75 rfl ?_
 refine ar (Di rfl rfl jQ rfl) ?_
 refine lg (bJ rfl) (fun c1 hb1=>?_)
 cases c1
 ·refine ai ?_
  rw[show(x==y)=false from by have:=hb1;simp only[beq_eq_false_iff_ne,ne_eq] at this⊢;intro e;subst e;exact this rfl]
  exact ak ag
 ·refine ac rfl (p8 (by assumption) (by assumption))<|ai ?_
  rw[←Pl hb1]
  exact ak ag
theorem mj {x y:Int}(hx:Sz 20000000 x) (hy:Sz 20000000 y) (h0:y≠0):Ok Tryz.prog 195 [dI x,dI y] [dI (x.fdiv y),dI (x.fmod y),.c (.i .i64 0)]:=by
 have hq:Sz 90000000 (q0 x y):=hx.q0.m_
 have hr:Sz 90000000 (r0 x y):=(hy.r0 h0).m_
 have h1:Sz 90000000 (1:Int):=dC (by omega) (by omega) (by omega)
 have hy9:Sz 90000000 y:=hy.m_
 have hqq:Sz 100000000 ((x.natAbs:Int)/y.natAbs):=abA hx
 have hrr:Sz 100000000 ((x.natAbs:Int)%y.natAbs):=abI hy h0
 refine b9 Tryz.func195 rfl ?_
 refine dS rfl (fun hc1=>?_) (fun hc1=>?_)
 ·exact absurd hc1 (by simp[eZ,h0])
 ·refine ac rfl (DM (by assumption) (by assumption) (by assumption))<|dF 13 [] ?_
  refine aq (kG rfl rfl jQ rfl) ?_
  refine aI rfl (Kz hqq) ?_
  refine aI rfl (Kv h0 hrr) ?_
  refine lg (bJ rfl) (fun c2 hb2=>?_)
  cases c2
  ·refine qq rfl<|dF 5 [4,5,999999] ?_
   refine DQ.mk<|jE (eQ d5 rfl) rfl rfl rfl rfl<|dP ?_
   refine DQ.mk<|jE (eQ d5 rfl) rfl rfl rfl rfl<|dP ?_
   obtain⟨e1,e2⟩:=yS (x:=x) h0 (.inl (K3.1 (td hb2)))
   refine ai ?_
   rw[e1,e2]
   exact bj d5 rfl (bj d5 rfl (ak ag))
  ·refine ar (kG rfl rfl jQ rfl) ?_
   refine dS rfl (fun hc3=>?_) (fun hc3=>?_)
   ·refine dF 6 [] ?_
    refine aI rfl (ni (by omega) (by omega))<|aI rfl (TP (by assumption) (by assumption)) ?_
    refine aI rfl (B5 (by assumption) (by assumption))<|dF 5 [4,5,999999] ?_
    refine DQ.mk<|jE (eQ d5 rfl) rfl rfl rfl rfl<|dP ?_
    refine DQ.mk<|jE (eQ d5 rfl) rfl rfl rfl rfl<|dP ?_
    obtain⟨e1,e2⟩:=Js (x:=x) h0 (fun e=>tG hb2 (K3.2 e)) (by rw[MS h0 (tG hb2)];exact GZ hc3)
    refine ai ?_
    rw[e1,e2]
    exact bj d5 rfl (bj d5 rfl (ak ag))
   ·refine dF 5 [4,5,999999] ?_
    refine DQ.mk<|jE (eQ d5 rfl) rfl rfl rfl rfl<|dP ?_
    refine DQ.mk<|jE (eQ d5 rfl) rfl rfl rfl rfl<|dP ?_
    obtain⟨e1,e2⟩:=yS (x:=x) h0 (.inr (by rw[MS h0 (tG hb2)];exact FX hc3))
    refine ai ?_
    rw[e1,e2]
    exact bj d5 rfl (bj d5 rfl (ak ag))
theorem Mc {x y:Int}(hx:Sz 20000000 x) (hy:Sz 20000000 y):Ok Tryz.prog 76 [dI x,dI y] [dI (Int.gcd x y:Int)]:=by
 refine b9 Tryz.func76 rfl<|dF 6 [] ?_
 refine DW.mk<|bv (ι:={p:Int×Int // RG x y p.1 p.2}) (fun i=>⟨54,[(4,.p 4 0),(5,.v (.c (cL i.1.1))),(6,.v (.c (cL i.1.2)))],[(4,36,([.b false]++[.s 0 []]))]⟩) (fun i=>i.1.2.toNat) ⟨((x.natAbs:Int),(y.natAbs:Int)),RG.start hx hy⟩ (ap ⟨rfl,by rw[Tg x];rfl,by rw[Tg y];rfl,trivial⟩ ⟨rfl,trivial⟩ rfl) ?_
 rintro⟨⟨a,c⟩,hg⟩
 replace hg:RG x y a c:=hg
 have ha:=hg.sa
 have hcc:=hg.sc
 have ha0:=hg.a0
 have hcc0:=hg.c0
 have ha6:Sz 100000000 a:=ha.m_
 dsimp only
 refine gZ ?_
 refine lg (bJ rfl) (fun c1 hb1=>?_)
 cases c1
 ·refine DL.mk<|xq (tg rfl)<|fa ?_
  refine qq rfl ?_
  refine dS rfl (fun hc2=>?_) (fun hc2=>?_)
  ·refine ac rfl (jb (by assumption)) ?_
   refine ai ?_
   rw[hg.done (td hb1)]
   exact bj d5 rfl ag
  ·exact absurd hc2 (by simp[eZ,td hb1])
 ·have hne:=tG hb1
  refine lg (bJ rfl) (fun c3 hb3=>?_)
  cases c3
  ·have hwa:=Lo hb3
   refine dS rfl (fun hc4=>?_) (fun hc4=>?_)
   ·refine ac rfl (DM (by assumption) (by assumption) (by assumption)) ?_
    exact⟨⟨(c,(a.natAbs:Int)%c.natAbs),hg.step hne⟩,ap (bo rfl) ⟨rfl,trivial⟩ rfl,hg.less hne⟩
   ·have hwc:=Lo hc4
    refine dS rfl (fun hc5=>?_) (fun hc5=>?_)
    ·exact absurd hc5 (by simp[eZ,hne])
    ·refine ac rfl (HI (by assumption))<|ac rfl (HI (by assumption)) ?_
     refine DW.mk<|bv (ι:={p:Int×Int // GInv2 x y p.1 p.2}) (fun i=>⟨54,[(4,.p 4 0),(9,.v (.c (.i .u64 i.1.1))),(10,.v (.c (.i .u64 i.1.2)))],[(4,36,([.b false]++[.s 0 []]))]⟩) (fun i=>i.1.2.toNat) ⟨((a.natAbs:Int),(c.natAbs:Int)),hg.word hwa hwc⟩ (ap (bo rfl) ⟨rfl,trivial⟩ rfl) ?_
     rintro⟨⟨u,v⟩,hw⟩
     replace hw:GInv2 x y u v:=hw
     have hu0:=hw.u0
     have hu1:=hw.u1
     have hsu:Sz 100000000 u:=Sz.small3 hu0 hu1
     dsimp only
     refine gZ ?_
     refine dS rfl (fun hc6=>?_) (fun hc6=>?_)
     ·have hv:v>0:=by simpa using hc6
      have hvn:v≠0:=by omega
      refine dF 6 []<|aq (FA rfl rfl (by omega) rfl) ?_
      exact⟨⟨(v,u.tmod v),hw.step hv⟩,ap (bo rfl) ⟨rfl,trivial⟩ rfl,hw.less hv⟩
     ·refine ac rfl (sP (by omega) (by omega))<|ac rfl (jb (by assumption)) ?_
      refine ai ?_
      rw[hw.fin (by simpa using hc6)]
      exact bj d5 rfl ag
  ·refine lr rfl<|ac rfl (DM (by assumption) (by assumption) (by assumption)) ?_
   exact⟨⟨(c,(a.natAbs:Int)%c.natAbs),hg.step hne⟩,ap (bo rfl) ⟨rfl,trivial⟩ rfl,hg.less hne⟩
theorem DD {x:Int}(hx:Sz 99999999 x):Ok Tryz.prog 360 [dI x] [dI (bZ x),.c (.i .i64 (if x<0 then 7 else 0))]:=by
 have h20:(2:Int)≠0:=by decide
 have hl:=iO hx
 have hs2:Sz 100000000 (2:Int):=dC (by omega) (by omega) (by omega)
 refine eo Tryz.func360 54 [.cell 2 36,.tmp 3] rfl<|ae<|ah<|ae<|ae<|ah ?_
 refine aP rfl (fun hc1=>?_) (fun hc1=>?_)
 ·have hn:x<0:=by simpa using hc1
  refine ae<|ah<|ar (aF (us:=([.b false]++[.s 0 []])) J5 D9 rfl rfl rfl) ?_
  refine ba ?_
  rw[wi hn,if_pos hn,Ac]
  exact ai (bj d5 rfl (ak ag))
 ·have hn:0≤x:=by have:=hc1;simp at this;omega
  refine aA<|ae<|ae<|ah ?_
  refine aP rfl (fun hc2=>?_) (fun hc2=>?_)
  ·have hz:x=0:=by have:=hc2;simp[eZ] at this;omega
   refine ae<|ah<|ar (aF (us:=([.b false]++[.s 0 []])) J5 D9 rfl rfl rfl) ?_
   refine ba ?_
   rw[hz,EG,Ac,if_neg (by omega)]
   exact ai (bj d5 rfl (ak ag))
  ·have hx0:0<x:=by have:=hc2;simp[eZ] at this;omega
   obtain⟨k,hk⟩: ∃k:Nat,((dJ x.natAbs).length+1)/2=k:=⟨_,rfl⟩
   have hpk:=cU k
   have hpc:cL (pw k)=cL (pw k):=rfl
   refine aA<|ae<|ah ?_
   refine ar (bF ((((dJ x.natAbs).length:Int))+1) (aT (by omega) (by omega)) rfl) ?_
   refine ar (iJ (r:=(k:Int)) rfl rfl (by omega) (by rw[qX (by omega),show(((dJ x.natAbs).length:Int)+1)/2=(k:Int) from by omega];exact qO (by omega) (by omega)) rfl) ?_
   refine ae<|bq<|bH 1<|qa (lU (n:=k) yM rfl rfl (by omega) (by omega) rfl) rfl ?_
   refine aO (yw yM rfl rfl) ?_
   refine Y5 (xT yM rfl rfl rfl (by omega) rfl) ?_
   refine aO (dg rfl (uv))<|rQ (jc D9 rfl) rfl<|gi<|ae<|ah<|ac rfl (jj (by omega) (by omega))<|aG<|bv (ι:={r:Int // NInv 99999999 x r}) (fun i=>⟨54,[(1,.p 1 0),(2,.p 2 0),(3,.v (.c (.i .i64 0))),(5,.p 5 0),(6,.p 6 0)],[(1,36,cI x),(2,36,([.b false]++[.s 0 []])),(5,36,cI i.1),(6,36,cI 2)]⟩) (fun i=>i.1.toNat) ⟨pw k,NInv.start hx0 hx hk (by omega)⟩ (ap (bo rfl) ⟨rfl,rfl,by rw[show sg false (((pw k).natAbs:Nat):Int)=pw k from by rw[cW];have:=cU k;omega];rfl,rfl,trivial⟩ rfl) ?_
   rintro⟨r,hg⟩
   replace hg:NInv 99999999 x r:=hg
   have hsr:=hg.sz
   have hr0:=hg.r0
   have hrn:r≠0:=by omega
   obtain⟨hsq,hsum,hsn⟩:=hg.sum hx hx0
   have a1:Sz 100000000 r:=hsr.m_
   have a2:Sz 100000000 (x.fdiv r):=hsq.m_
   have a3:Sz 100000000 x:=hx.m_
   dsimp only
   refine aG<|ae<|ah ?_
   refine ac rfl (nM (by assumption) (by assumption) (by assumption))<|ae<|cX 14 [10,11,999999] ?_
   refine aI rfl (uL (by assumption) (by assumption)) ?_
   refine aI rfl (nM (by assumption) (by assumption) (by assumption)) ?_
   refine DQ.mk<|gD (eQ d5 rfl) rfl rfl rfl rfl<|dP ?_
   refine DQ.mk<|gD (eQ d5 rfl) rfl rfl rfl rfl<|dP ?_
   refine ae<|ae<|ah ?_
   refine ac rfl (pq) ?_
   refine aP rfl (fun hc3=>?_) (fun hc3=>?_)
   ·have hst:=GR hc3
    refine ae<|ah ?_
    refine ba ?_
    rw[hg.done hx0 hst,if_neg (by omega)]
    exact ai (bj d5 rfl (ak ag))
   ·have hlt:=Fr hc3
    refine aA<|ah ?_
    exact⟨⟨(r+x.fdiv r).fdiv 2,hg.next hx0 hlt⟩,ap (bo rfl) (bo rfl) rfl,by show((r+x.fdiv r).fdiv 2).toNat<r.toNat;omega⟩
theorem I8 {x:Int}(hx:Sz 19999999 x):Ok Tryz.prog 342 [dI x] [dI (bZ x),.c (.i .i64 (if x<0 then 7 else 0))]:=by
 have h20:(2:Int)≠0:=by decide
 have hl:=iO hx
 have hs2:Sz 20000000 (2:Int):=dC (by omega) (by omega) (by omega)
 refine eo Tryz.func342 52 [.cell 2 36,.tmp 3] rfl<|ae<|ah<|ae<|ae<|ah ?_
 refine aP rfl (fun hc1=>?_) (fun hc1=>?_)
 ·have hn:x<0:=by simpa using hc1
  refine ae<|ah<|ar (aF (us:=([.b false]++[.s 0 []])) J5 D9 rfl rfl rfl) ?_
  refine ba ?_
  rw[wi hn,if_pos hn,Ac]
  exact ai (bj d5 rfl (ak ag))
 ·have hn:0≤x:=by have:=hc1;simp at this;omega
  refine aA<|ae<|ae<|ah ?_
  refine aP rfl (fun hc2=>?_) (fun hc2=>?_)
  ·have hz:x=0:=by have:=hc2;simp[eZ] at this;omega
   refine ae<|ah<|ar (aF (us:=([.b false]++[.s 0 []])) J5 D9 rfl rfl rfl) ?_
   refine ba ?_
   rw[hz,EG,Ac,if_neg (by omega)]
   exact ai (bj d5 rfl (ak ag))
  ·have hx0:0<x:=by have:=hc2;simp[eZ] at this;omega
   obtain⟨k,hk⟩: ∃k:Nat,((dJ x.natAbs).length+1)/2=k:=⟨_,rfl⟩
   have hpk:=cU k
   have hpc:cL (pw k)=cL (pw k):=rfl
   refine aA<|ae<|bq<|bH 3<|aO (bF ((((dJ x.natAbs).length:Int))+1) (aT (by omega) (by omega)) rfl)<|aO (iJ (r:=(k:Int)) rfl rfl (by omega) (by rw[qX (by omega),show(((dJ x.natAbs).length:Int)+1)/2=(k:Int) from by omega];exact qO (by omega) (by omega)) rfl) ?_
   refine qa (lU (n:=k) yM rfl rfl (by omega) (by omega) rfl) rfl ?_
   refine aO (yw yM rfl rfl) ?_
   refine Y5 (xT yM rfl rfl rfl (by omega) rfl) ?_
   refine aO (aF (us:=([.b false]++[cL (pw k)])) J5 D9 rfl rfl rfl) ?_
   refine rQ (jc D9 rfl) rfl<|gi<|ae<|ah<|ac rfl (ni (by omega) (by omega))<|aG<|bv (ι:={r:Int // NInv 19999999 x r}) (fun i=>⟨52,[(1,.p 1 0),(2,.p 2 0),(3,.v (.c (.i .i64 0))),(4,.p 4 0),(5,.p 5 0)],[(1,36,cI x),(2,36,([.b false]++[.s 0 []])),(4,36,cI i.1),(5,36,cI 2)]⟩) (fun i=>i.1.toNat) ⟨pw k,NInv.start hx0 hx hk (by omega)⟩ (ap (bo rfl) ⟨rfl,rfl,by rw[aa1 (by have:=cU k;omega)];rfl,rfl,trivial⟩ rfl) ?_
   rintro⟨r,hg⟩
   replace hg:NInv 19999999 x r:=hg
   have hsr:=hg.sz
   have hr0:=hg.r0
   have hrn:r≠0:=by omega
   obtain⟨hsq,hsum,hsn⟩:=hg.sum hx hx0
   have a1:Sz 20000000 r:=hsr.m_
   have a2:Sz 90000000 (x.fdiv r):=hsq.m_
   have a3:Sz 20000000 x:=hx.m_
   have a4:Sz 90000000 r:=hsr.m_
   have a5:Sz 100000000 r:=hsr.m_
   have a6:Sz 100000000 ((r+x.fdiv r).fdiv 2):=hsn.m_
   dsimp only
   refine aG<|ae<|ah ?_
   refine ac rfl (mj (by assumption) (by assumption) (by assumption))<|ae<|cX 14 [9,10,999999] ?_
   refine aI rfl (B5 (by assumption) (by assumption)) ?_
   refine aI rfl (mj (by assumption) (by assumption) (by assumption)) ?_
   refine DQ.mk<|gD (eQ d5 rfl) rfl rfl rfl rfl<|dP ?_
   refine DQ.mk<|gD (eQ d5 rfl) rfl rfl rfl rfl<|dP ?_
   refine ae<|ae<|ah ?_
   refine ac rfl (L6 (by assumption) (by assumption)) ?_
   refine aP rfl (fun hc3=>?_) (fun hc3=>?_)
   ·have hst:=GR hc3
    refine ae<|ah ?_
    refine ba ?_
    rw[hg.done hx0 hst,if_neg (by omega)]
    exact ai (bj d5 rfl (ak ag))
   ·have hlt:=Fr hc3
    refine aA<|ah ?_
    exact⟨⟨(r+x.fdiv r).fdiv 2,hg.next hx0 hlt⟩,ap (bo rfl) (bo rfl) rfl,by show((r+x.fdiv r).fdiv 2).toNat<r.toNat;omega⟩
theorem Gx:Ok Tryz.prog 276 [] [dI 1]:=by
 refine b9 Tryz.func276 rfl<|ac rfl (jj (by omega) (by omega)) ?_
 exact ai (bj d5 rfl ag)
theorem HO:Ok Tryz.prog 279 [.c (.i .i64 m)] [.c (.b false)]:=by
 refine b9 Tryz.func279 rfl ?_
 exact⟨.inr rfl,by simpa using(ak ag)⟩
theorem NO:Ok Tryz.prog 164 [.c (.i .i64 m),.c (.i .i64 n)] [.c (.i .i64 (fk m n))]:=by
 refine b9 Tryz.func164 rfl<|ac rfl (HO)<|ac rfl (HO)<|qq rfl<|qq rfl ?_
 refine dS rfl (fun hc1=>?_) (fun hc1=>?_)
 ·refine ai ?_
  rw[fK (by simpa using hc1)]
  exact ak ag
 ·refine dS rfl (fun hc2=>?_) (fun hc2=>?_)
  ·refine ai ?_
   rw[fQ (by simpa using hc2)]
   exact ak ag
  ·refine ai ?_
   rw[mm (by have:=hc1;have h2:=hc2;simp at this h2;omega)]
   exact ak ag
theorem ts:Ok Tryz.prog 68 [dR x] [.c (.i .i64 (aX x 0))]:=by
 refine b9 Tryz.func68 rfl ?_
 refine ac rfl (Co)<|ai ?_
 rw[←zM]
 exact ak ag
theorem cJ:Ok Tryz.prog 68 [dR x] [.c (.i .i64 (aX x 0))]:=ts
theorem Oz:Ok Tryz.prog 162 [dI n] [dR (n:Rat)]:=by
 refine b9 Tryz.func162 rfl<|dF 3 [] ?_
 refine aI rfl (Gx) ?_
 refine aq (aF (us:=cQ n 1) v5 vg rfl rfl rfl) ?_
 refine ai ?_
 rw[JR]
 exact bj bU rfl ag
theorem gN (h0: -9223372036854775808≤n) (h1:n≤9223372036854775807):Ok Tryz.prog 70 [.c (.i .i64 n)] [dR (n:Rat)]:=by
 refine b9 Tryz.func70 rfl<|ac rfl (jj (by omega) (by omega))<|ac rfl (Oz) ?_
 exact ai (bj bU rfl ag)
theorem ig (h0: -9223372036854775808≤n) (h1:n≤9223372036854775807):Ok Tryz.prog 70 [.c (.i .i64 n)] [dR (n:Rat)]:=gN h0 h1
theorem um {x y:Int}(hx:Sz 100000000 x) (hy:Sz 100000000 y) (h0:y≠0):Ok Tryz.prog 293 [dI x,dI y] [dI (x.fdiv y)]:=by
 refine b9 Tryz.func293 rfl<|ac rfl (nM (eP hx) (eP hy) (by assumption)) ?_
 exact ai (bj d5 rfl ag)
theorem oB {x y:Int}(hx:Sz 19980000 x) (hy:Sz 19980000 y) (h0:y≠0):Ok Tryz.prog 207 [dI x,dI y] [dR (Rat.divInt x y)]:=by
 have hg:=FL (n:=x) h0
 have hg2:=FL (n:= -x) (d:= -y) (by omega)
 have hgs:=Sz.gcd (x:=x) hy h0
 have hgs2:=Sz.gcd (x:= -x) hy.neg (by omega)
 refine b9 Tryz.func207 rfl<|ac rfl (Co) ?_
 refine dS rfl (fun hc1=>?_) (fun hc1=>?_)
 ·have hn:=X6 hc1
  refine dF 4 [] ?_
  refine aI rfl (Aa (eP hx)) ?_
  refine aI rfl (Aa (eP hy)) ?_
  refine ac rfl (Mm (eP (Sz.neg hx)) (eP (Sz.neg hy)))<|dF 4 [] ?_
  refine aI rfl (Gx) ?_
  refine aI rfl (pq) ?_
  refine dS rfl (fun hc2=>?_) (fun hc2=>?_)
  ·refine dF 6 [] ?_
   refine aI rfl (um (eP (Sz.neg hx)) (Tm) (by first|assumption|exact neg_ne (by assumption)|exact iT (by assumption) (by assumption))) ?_
   refine aI rfl (um (eP (Sz.neg hy)) (Tm) (by first|assumption|exact neg_ne (by assumption)|exact iT (by assumption) (by assumption))) ?_
   refine ar (aF (us:=cQ ((-x).fdiv ((Int.gcd (-x) (-y):Int))) ((-y).fdiv ((Int.gcd (-x) (-y):Int)))) v5 vg rfl rfl rfl) ?_
   refine ai ?_
   rw[JI,Dm (by omega)]
   exact bj bU rfl ag
  ·refine ar (aF (us:=cQ (-x) (-y)) v5 vg rfl rfl rfl) ?_
   refine ai ?_
   rw[JI,Cc (by omega) (abh hc2)]
   exact bj bU rfl ag
 ·have hn:=Zw hc1
  refine ac rfl (Mm (eP hx) (eP hy))<|dF 4 [] ?_
  refine aI rfl (Gx) ?_
  refine aI rfl (pq) ?_
  refine dS rfl (fun hc3=>?_) (fun hc3=>?_)
  ·refine dF 6 [] ?_
   refine aI rfl (um (eP hx) (Tm) (by first|assumption|exact neg_ne (by assumption)|exact iT (by assumption) (by assumption))) ?_
   refine aI rfl (um (eP hy) (Tm) (by first|assumption|exact neg_ne (by assumption)|exact iT (by assumption) (by assumption))) ?_
   refine ar (aF (us:=cQ (x.fdiv (Int.gcd x y:Int)) (y.fdiv (Int.gcd x y:Int))) v5 vg rfl rfl rfl) ?_
   refine ai ?_
   rw[Dm (by omega)]
   exact bj bU rfl ag
  ·refine ar (aF (us:=cQ x y) v5 vg rfl rfl rfl) ?_
   refine ai ?_
   rw[Cc (by omega) (abh hc3)]
   exact bj bU rfl ag
theorem xi {x y:Int}(hx:Sz 19980000 x) (hy:Sz 19980000 y) (h0:y≠0):Ok Tryz.prog 313 [dI x,dI y] [dR (Rat.divInt x y),.c (.i .i64 0)]:=by
 refine b9 Tryz.func313 rfl<|ac rfl (Co) ?_
 refine dS rfl (fun hc1=>?_) (fun hc1=>?_)
 ·exact absurd (T4 hc1) h0
 ·refine ac rfl (oB (eP hx) (eP hy) (by first|assumption|exact neg_ne (by assumption)|exact iT (by assumption) (by assumption))) ?_
  exact ai (bj bU rfl (ak ag))
theorem dV (hx:Rz 6000000 x):Ok Tryz.prog 72 [dR x] [dR (-x)]:=by
 refine b9 Tryz.func72 rfl<|dF 6 [] ?_
 refine aI rfl (Aa (eP (db hx))) ?_
 refine aq (aF (us:=cQ (-x.num) (x.den:Int)) v5 vg rfl rfl rfl) ?_
 refine ai ?_
 rw[Qm (Rat.neg_num x) (congrArg Int.ofNat (Rat.neg_den x))]
 exact bj bU rfl ag
theorem LF (hx:Rz 300 x):Ok Tryz.prog 72 [dR x] [dR (-x)]:=dV (hx.mono (by decide))
theorem jg (hx:Rz 6000000 x) (hy:Rz 6000000 y):Ok Tryz.prog 206 [dR x,dR y] [dR (x+y)]:=by
 have hn:=iT (jO x) (jO y)
 have hn1:=jO x
 refine b9 Tryz.func206 rfl<|ac rfl (pq) ?_
 refine dS rfl (fun hc1=>?_) (fun hc1=>?_)
 ·refine dF 8 [] ?_
  refine aI rfl (uL (eP (db hx)) (eP (db hy))) ?_
  refine aI rfl (oB (eP (Sz.addm (db hx) (db hy))) (eP (dh hx)) (by first|assumption|exact neg_ne (by assumption)|exact iT (by assumption) (by assumption))) ?_
  refine ai ?_
  rw[←abK (T4 hc1)]
  exact bj bU rfl ag
 ·refine dF 17 [] ?_
  refine aI rfl (gU (eP (db hx)) (eP (dh hy))) ?_
  refine aI rfl (gU (eP (db hy)) (eP (dh hx))) ?_
  refine aI rfl (uL (eP (dB (db hx) (dh hy))) (eP (dB (db hy) (dh hx)))) ?_
  refine aI rfl (gU (eP (dh hx)) (eP (dh hy))) ?_
  refine aI rfl (oB (eP (Sz.addm (dB (db hx) (dh hy)) (dB (db hy) (dh hx)))) (eP (dB (dh hx) (dh hy))) (by first|assumption|exact neg_ne (by assumption)|exact iT (by assumption) (by assumption))) ?_
  refine ai ?_
  rw[←O3]
  exact bj bU rfl ag
theorem TN (hx:Rz 300 x) (hy:Rz 300 y):Ok Tryz.prog 206 [dR x,dR y] [dR (x+y)]:=jg (hx.mono (by decide)) (hy.mono (by decide))
theorem fj (hx:Rz 6000000 x) (hy:Rz 6000000 y):Ok Tryz.prog 208 [dR x,dR y] [dR (x-y)]:=by
 refine b9 Tryz.func208 rfl<|dF 4 [] ?_
 refine aI rfl (dV (bk hy)) ?_
 refine aI rfl (jg (bk hx) (bk (Rz.neg hy)))<|ai ?_
 rw[Rat.sub_eq_add_neg]
 exact bj bU rfl ag
theorem Wh (hx:Rz 300 x) (hy:Rz 300 y):Ok Tryz.prog 208 [dR x,dR y] [dR (x-y)]:=fj (hx.mono (by decide)) (hy.mono (by decide))
theorem cT (hx:Rz 6000000 x) (hy:Rz 6000000 y):Ok Tryz.prog 233 [dR x,dR y] [dR (x*y)]:=by
 have hn:=iT (jO x) (jO y)
 refine b9 Tryz.func233 rfl<|dF 11 [] ?_
 refine aI rfl (gU (eP (db hx)) (eP (db hy))) ?_
 refine aI rfl (gU (eP (dh hx)) (eP (dh hy))) ?_
 refine aI rfl (oB (eP (dB (db hx) (db hy))) (eP (dB (dh hx) (dh hy))) (by first|assumption|exact neg_ne (by assumption)|exact iT (by assumption) (by assumption))) ?_
 refine ai ?_
 rw[←UE]
 exact bj bU rfl ag
theorem Vo (hx:Rz 300 x) (hy:Rz 300 y):Ok Tryz.prog 233 [dR x,dR y] [dR (x*y)]:=cT (hx.mono (by decide)) (hy.mono (by decide))
theorem qB (hx:Rz 6000000 x) (hy:Rz 6000000 y) (h0:y≠0):Ok Tryz.prog 116 [dR x,dR y] [dR (x/y),.c (.i .i64 0)]:=by
 have hn:=iT (jO x) (QT h0)
 refine b9 Tryz.func116 rfl<|ac rfl (cJ) ?_
 refine dS rfl (fun hc1=>?_) (fun hc1=>?_)
 ·exact absurd (GE hc1) h0
 ·refine dF 11 [] ?_
  refine aI rfl (gU (eP (db hx)) (eP (dh hy))) ?_
  refine aI rfl (gU (eP (dh hx)) (eP (db hy))) ?_
  refine aI rfl (oB (eP (dB (db hx) (dh hy))) (eP (dB (dh hx) (db hy))) (by first|assumption|exact neg_ne (by assumption)|exact iT (by assumption) (by assumption))) ?_
  refine ai ?_
  rw[←Uj]
  exact bj bU rfl (ak ag)
theorem VT (hx:Rz 300 x) (hy:Rz 300 y) (h0:y≠0):Ok Tryz.prog 116 [dR x,dR y] [dR (x/y),.c (.i .i64 0)]:=qB (hx.mono (by decide)) (hy.mono (by decide)) h0
theorem lK (hx:Rz 6000000 x) (hy:Rz 6000000 y):Ok Tryz.prog 71 [dR x,dR y] [.c (.i .i64 (aX x y))]:=by
 refine b9 Tryz.func71 rfl<|dF 6 [] ?_
 refine aI rfl (cJ) ?_
 refine aI rfl (cJ) ?_
 refine aI rfl (NO) ?_
 refine dS rfl (fun hc1=>?_) (fun hc1=>?_)
 ·refine ai ?_
  rw[←KU hc1]
  exact ak ag
 ·refine dF 12 [] ?_
  refine aI rfl (gU (eP (db hx)) (eP (dh hy))) ?_
  refine aI rfl (gU (eP (db hy)) (eP (dh hx))) ?_
  refine aI rfl (pq)<|ai ?_
  rw[HU (x:=x) (y:=y)]
  exact ak ag
theorem xx (hx:Rz 300 x) (hy:Rz 300 y):Ok Tryz.prog 71 [dR x,dR y] [.c (.i .i64 (aX x y))]:=lK (hx.mono (by decide)) (hy.mono (by decide))
theorem xY (hx:Rz 6000000 x):Ok Tryz.prog 323 [dR x] [dI (x.num.fdiv (x.den:Int))]:=by
 have hn1:=jO x
 refine b9 Tryz.func323 rfl<|ac rfl (nM (eP (db hx)) (eP (dh hx)) (by assumption)) ?_
 exact ai (bj d5 rfl ag)
theorem E4 {x:Int}(hx:Sz 6000000 x):Ok Tryz.prog 364 [dI x] [dI (bZ x),.c (.b (D6 x))]:=by
 have hs:=Sz.isq hx
 refine b9 Tryz.func364 rfl<|ac rfl (DD (eP hx))<|dF 13 [2,999999] ?_
 refine D5 (bJ rfl) (fun c1 hb1=>?_)
 cases c1
 ·refine DQ.mk<|jE (eQ d5 rfl) rfl rfl rfl rfl<|dP ?_
  refine ai ?_
  rw[MZ (e7 hb1)]
  exact bj d5 rfl (ak ag)
 ·refine aI rfl (gU (eP (Sz.isq hx)) (eP (Sz.isq hx))) ?_
  refine aI rfl (pq) ?_
  refine DQ.mk<|WI (eQ d5 rfl) rfl rfl (by kernel_rfl) rfl<|dP ?_
  refine ai ?_
  rw[M1]
  exact bj d5 rfl (ak ag)
theorem EH (hx:Rz 6000000 x):Ok Tryz.prog 319 [dR x] [dQ (if kg x then bZ x.num else 0) (if kg x then bZ (x.den:Int) else 0),.c (.b (kg x))]:=by
 refine b9 Tryz.func319 rfl<|ac rfl (E4 (eP (db hx))) ?_
 refine dS rfl (fun hc1=>?_) (fun hc1=>?_)
 ·refine ac rfl (E4 (eP (dh hx))) ?_
  refine dS rfl (fun hc2=>?_) (fun hc2=>?_)
  ·refine ar (aF (us:=cQ (bZ x.num) (bZ (x.den:Int))) v5 vg rfl rfl rfl) ?_
   refine ai ?_
   rw[Xa hc1 hc2,if_pos rfl,if_pos rfl]
   exact bj bU rfl (ak ag)
  ·refine ar (aF (us:=(([.b false]++[.s 0 []])++([.b false]++[.s 0 []]))) v5 vg rfl rfl rfl) ?_
   refine ai ?_
   rw[SU hc2,if_neg (by decide),if_neg (by decide),Cf]
   exact bj bU rfl (ak ag)
 ·refine ar (aF (us:=(([.b false]++[.s 0 []])++([.b false]++[.s 0 []]))) v5 vg rfl rfl rfl) ?_
  refine ai ?_
  rw[SQ hc1,if_neg (by decide),if_neg (by decide),Cf]
  exact bj bU rfl (ak ag)
theorem O9:Ok Tryz.prog 67 [] [dI 1]:=by
 refine b9 Tryz.func67 rfl<|ac rfl (ni (by omega) (by omega)) ?_
 exact ai (bj d5 rfl ag)
theorem qf:Ok Tryz.prog 79 [dR x] [.c (.i .i64 (aX x 0))]:=by
 refine b9 Tryz.func79 rfl ?_
 refine ac rfl (Ds)<|ai ?_
 rw[←zM]
 exact ak ag
theorem fY:Ok Tryz.prog 79 [dR x] [.c (.i .i64 (aX x 0))]:=qf
theorem eG (h0: -9223372036854775808≤n) (h1:n≤9223372036854775807):Ok Tryz.prog 18 [.c (.i .i64 n)] [dR (n:Rat)]:=by
 refine b9 Tryz.func18 rfl<|ac rfl (ni (by omega) (by omega))<|ac rfl (O9)<|ar (aF (us:=cQ n 1) v5 vg rfl rfl rfl) ?_
 refine ai ?_
 rw[JR]
 exact bj bU rfl ag
theorem tj (h0: -9223372036854775808≤n) (h1:n≤9223372036854775807):Ok Tryz.prog 18 [.c (.i .i64 n)] [dR (n:Rat)]:=eG h0 h1
theorem oU {x y:Int}(hx:Sz 19980000 x) (hy:Sz 19980000 y) (h0:y≠0):Ok Tryz.prog 101 [dI x,dI y] [dR (Rat.divInt x y)]:=by
 have hg:=FL (n:=x) h0
 have hg2:=FL (n:= -x) (d:= -y) (by omega)
 have hgs:=(Sz.gcd (x:=x) hy h0).mono (l:=20000000) (by decide)
 have hgs2:=(Sz.gcd (x:= -x) hy.neg (by omega)).mono (l:=20000000) (by decide)
 refine b9 Tryz.func101 rfl<|ac rfl (Ds) ?_
 refine dS rfl (fun hc1=>?_) (fun hc1=>?_)
 ·have hn:=X6 hc1
  refine dF 4 [] ?_
  refine aI rfl (An (eP hx)) ?_
  refine aI rfl (An (eP hy)) ?_
  refine ac rfl (Mc (eP (Sz.neg hx)) (eP (Sz.neg hy))) ?_
  refine ac rfl (mj (eP (Sz.neg hx)) (Tm) (by assumption)) ?_
  refine ac rfl (mj (eP (Sz.neg hy)) (Tm) (by assumption)) ?_
  refine ar (aF (us:=cQ ((-x).fdiv ((Int.gcd (-x) (-y):Int))) ((-y).fdiv ((Int.gcd (-x) (-y):Int)))) v5 vg rfl rfl rfl) ?_
  refine ai ?_
  rw[JI,Dm (by omega)]
  exact bj bU rfl ag
 ·have hn:=Zw hc1
  refine ac rfl (Mc (eP hx) (eP hy))<|ac rfl (mj (eP hx) (Tm) (by assumption))<|ac rfl (mj (eP hy) (Tm) (by assumption))<|ar (aF (us:=cQ (x.fdiv (Int.gcd x y:Int)) (y.fdiv (Int.gcd x y:Int))) v5 vg rfl rfl rfl) ?_
  refine ai ?_
  rw[Dm (by omega)]
  exact bj bU rfl ag
theorem KP {x y:Int}(hx:Sz 999 x) (hy:Sz 999 y) (h0:y≠0):Ok Tryz.prog 101 [dI x,dI y] [dR (Rat.divInt x y)]:=oU (hx.mono (by decide)) (hy.mono (by decide)) h0
theorem Oh {x y:Int}(hx:Sz 19980000 x) (hy:Sz 19980000 y) (h0:y≠0):Ok Tryz.prog 290 [dI x,dI y] [dR (Rat.divInt x y),.c (.i .i64 0)]:=by
 refine b9 Tryz.func290 rfl<|ac rfl (Ds) ?_
 refine dS rfl (fun hc1=>?_) (fun hc1=>?_)
 ·exact absurd (T4 hc1) h0
 ·refine ac rfl (oU (eP hx) (eP hy) (by first|assumption|exact neg_ne (by assumption)|exact iT (by assumption) (by assumption))) ?_
  exact ai (bj bU rfl (ak ag))
theorem N7 (h0: -9223372036854775808≤n) (h1:n≤9223372036854775807) (h2: -9223372036854775808≤d) (h3:d≤9223372036854775807) (hd:d≠0):Ok Tryz.prog 30 [.c (.i .i64 n),.c (.i .i64 d)] [dR (Rat.divInt n d)]:=by
 have z1:Sz 19980000 n:=dC (by decide) h0 h1
 have z2:Sz 19980000 d:=dC (by decide) h2 h3
 refine b9 Tryz.func30 rfl ?_
 refine dS rfl (fun hc1=>?_) (fun hc1=>?_)
 ·exact absurd (by simpa using hc1) hd
 ·refine ac rfl (ni (by omega) (by omega))<|ac rfl (ni (by omega) (by omega)) ?_
  refine ac rfl (oU (Tm) (Tm) (by first|assumption|exact neg_ne (by assumption)|exact iT (by assumption) (by assumption))) ?_
  exact ai (bj bU rfl ag)
theorem OP (h0: -9223372036854775808≤n) (h1:n≤9223372036854775807) (h2: -9223372036854775808≤d) (h3:d≤9223372036854775807) (hd:d≠0):Ok Tryz.prog 30 [.c (.i .i64 n),.c (.i .i64 d)] [dR (Rat.divInt n d)]:=N7 h0 h1 h2 h3 hd
theorem Dz (hx:Rz 6000000 x):Ok Tryz.prog 93 [dR x] [dR (-x)]:=by
 refine b9 Tryz.func93 rfl<|dF 6 [] ?_
 refine aI rfl (An (eP (db hx))) ?_
 refine aq (aF (us:=cQ (-x.num) (x.den:Int)) v5 vg rfl rfl rfl) ?_
 refine ai ?_
 rw[Qm (Rat.neg_num x) (congrArg Int.ofNat (Rat.neg_den x))]
 exact bj bU rfl ag
theorem da (hx:Rz 6000000 x) (hy:Rz 6000000 y):Ok Tryz.prog 113 [dR x,dR y] [dR (x+y)]:=by
 have hn:=iT (jO x) (jO y)
 refine b9 Tryz.func113 rfl<|ac rfl (od (eP (db hx)) (eP (dh hy)))<|ac rfl (od (eP (db hy)) (eP (dh hx)))<|dF 9 [] ?_
 refine aI rfl (B5 (eP (dB (db hx) (dh hy))) (eP (dB (db hy) (dh hx)))) ?_
 refine aI rfl (od (eP (dh hx)) (eP (dh hy))) ?_
 refine aI rfl (oU (eP (Sz.addm (dB (db hx) (dh hy)) (dB (db hy) (dh hx)))) (eP (dB (dh hx) (dh hy))) (by first|assumption|exact neg_ne (by assumption)|exact iT (by assumption) (by assumption))) ?_
 refine ai ?_
 rw[←O3]
 exact bj bU rfl ag
theorem fG (hx:Rz 6000000 x) (hy:Rz 6000000 y):Ok Tryz.prog 95 [dR x,dR y] [dR (x-y)]:=by
 refine b9 Tryz.func95 rfl<|dF 4 [] ?_
 refine aI rfl (Dz (bk hy)) ?_
 refine aI rfl (da (bk hx) (bk (Rz.neg hy)))<|ai ?_
 rw[Rat.sub_eq_add_neg]
 exact bj bU rfl ag
theorem ce (hx:Rz 6000000 x) (hy:Rz 6000000 y):Ok Tryz.prog 96 [dR x,dR y] [dR (x*y)]:=by
 have hn:=iT (jO x) (jO y)
 refine b9 Tryz.func96 rfl<|dF 11 [] ?_
 refine aI rfl (od (eP (db hx)) (eP (db hy))) ?_
 refine aI rfl (od (eP (dh hx)) (eP (dh hy))) ?_
 refine aI rfl (oU (eP (dB (db hx) (db hy))) (eP (dB (dh hx) (dh hy))) (by first|assumption|exact neg_ne (by assumption)|exact iT (by assumption) (by assumption))) ?_
 refine ai ?_
 rw[←UE]
 exact bj bU rfl ag
theorem UY (hx:Rz 300 x) (hy:Rz 300 y):Ok Tryz.prog 96 [dR x,dR y] [dR (x*y)]:=ce (hx.mono (by decide)) (hy.mono (by decide))
theorem oM (hx:Rz 6000000 x) (hy:Rz 6000000 y) (h0:y≠0):Ok Tryz.prog 205 [dR x,dR y] [dR (x/y),.c (.i .i64 0)]:=by
 have hn:=iT (jO x) (QT h0)
 refine b9 Tryz.func205 rfl<|dF 13 [] ?_
 refine aI rfl (od (eP (db hx)) (eP (dh hy))) ?_
 refine aI rfl (od (eP (dh hx)) (eP (db hy))) ?_
 refine aI rfl (Oh (eP (dB (db hx) (dh hy))) (eP (dB (dh hx) (db hy))) (by first|assumption|exact neg_ne (by assumption)|exact iT (by assumption) (by assumption))) ?_
 refine ai ?_
 rw[←Uj]
 exact bj bU rfl (ak ag)
theorem Vd (hx:Rz 300 x) (hy:Rz 300 y) (h0:y≠0):Ok Tryz.prog 205 [dR x,dR y] [dR (x/y),.c (.i .i64 0)]:=oM (hx.mono (by decide)) (hy.mono (by decide)) h0
theorem zF (hx:Rz 6000000 x) (hy:Rz 6000000 y):Ok Tryz.prog 32 [dR x,dR y] [.c (.i .i64 (aX x y))]:=by
 refine b9 Tryz.func32 rfl<|dF 12 [] ?_
 refine aI rfl (od (eP (db hx)) (eP (dh hy))) ?_
 refine aI rfl (od (eP (db hy)) (eP (dh hx))) ?_
 refine aI rfl (L6 (eP (dB (db hx) (dh hy))) (eP (dB (db hy) (dh hx))))<|ai ?_
 rw[HU (x:=x) (y:=y)]
 exact ak ag
theorem DO (hx:Rz 6000000 x):Ok Tryz.prog 371 [dR x] [dI (x.num.fdiv (x.den:Int))]:=by
 have hn1:=jO x
 refine b9 Tryz.func371 rfl<|ac rfl (mj (eP (db hx)) (eP (dh hx)) (by assumption)) ?_
 exact ai (bj d5 rfl ag)
theorem ES {x:Int}(hx:Sz 6000000 x):Ok Tryz.prog 273 [dI x] [dI (bZ x),.c (.b (D6 x))]:=by
 have hs:=Sz.isq hx
 refine b9 Tryz.func273 rfl<|ac rfl (I8 (eP hx))<|dF 12 [2,999999] ?_
 refine D5 (bJ rfl) (fun c1 hb1=>?_)
 cases c1
 ·refine DQ.mk<|jE (eQ d5 rfl) rfl rfl rfl rfl<|dP ?_
  refine ai ?_
  rw[MZ (e7 hb1)]
  exact bj d5 rfl (ak ag)
 ·refine aI rfl (od (eP (Sz.isq hx)) (eP (Sz.isq hx))) ?_
  refine aI rfl (Ra (eP (dB (Sz.isq hx) (Sz.isq hx))) (eP hx)) ?_
  refine DQ.mk<|WI (eQ d5 rfl) rfl rfl (by kernel_rfl) rfl<|dP ?_
  refine ai ?_
  rw[show D6 x=(bZ x*bZ x==x) from rfl]
  exact bj d5 rfl (ak ag)
theorem Fl (hx:Rz 6000000 x):Ok Tryz.prog 151 [dR x] [dQ (if kg x then bZ x.num else 0) (if kg x then bZ (x.den:Int) else 0),.c (.b (kg x))]:=by
 refine b9 Tryz.func151 rfl<|ac rfl (ES (eP (db hx)))<|ac rfl (ES (eP (dh hx))) ?_
 refine lg (bJ rfl) (fun c1 hb1=>?_)
 cases c1
 ·refine dS rfl (fun hc2=>?_) (fun hc2=>?_)
  ·refine ar (aF (us:=(([.b false]++[.s 0 []])++([.b false]++[.s 0 []]))) v5 vg rfl rfl rfl) ?_
   refine ai ?_
   rw[SU (by simpa using hc2),if_neg (by decide),if_neg (by decide),Cf]
   exact bj bU rfl (ak ag)
  ·refine ar (aF (us:=cQ (bZ x.num) (bZ (x.den:Int))) v5 vg rfl rfl rfl) ?_
   refine ai ?_
   rw[Xa (by simpa using hb1) (by simpa using hc2),if_pos rfl,if_pos rfl]
   exact bj bU rfl (ak ag)
 ·refine lr rfl<|ar (aF (us:=(([.b false]++[.s 0 []])++([.b false]++[.s 0 []]))) v5 vg rfl rfl rfl) ?_
  refine ai ?_
  rw[SQ (by simpa using hb1),if_neg (by decide),if_neg (by decide),Cf]
  exact bj bU rfl (ak ag)
def vQ (x y:Int):Bool:=decide (0<y)&&(((Int.gcd x y:Nat):Int)==1)
theorem aep {x y:Int}(h:vQ x y=true):cQ x y=cR (Rat.divInt x y):=by
 unfold vQ at h
 simp only[di,decide_eq_true_eq,beq_iff_eq] at h
 have:=Cc (n:=x) h.1 h.2
 unfold dR dQ at this
 injection this with this
 exact this.symm
theorem Rh {x y:Int}(h:vQ x y=true):(Rat.divInt x y).num=x∧((Rat.divInt x y).den:Int)=y:=by
 unfold vQ at h
 simp only[di,decide_eq_true_eq,beq_iff_eq] at h
 obtain⟨h1,h2⟩:=h
 have h3:Int.gcd x y=1:=by omega
 rw[Rat.num_divInt,Rat.den_divInt,if_neg (by omega),Int.sign_eq_one_of_pos h1,js,Int.gcd_comm y x,h3]
 grind
def zc (b c:Rat):Rat:=if b=0 then 0 else c
def Oa (b1 b2 c:Rat):Rat:=if b1=0∧b2=0 then 0 else c
theorem Ns (h:b=0):zc b c=0:=by unfold zc;rw[if_pos h]
theorem yU (h:b≠0):zc b c=c:=by unfold zc;rw[if_neg h]
theorem LU (h:b1=0) (h2:b2=0):Oa b1 b2 c=0:=by unfold Oa;rw[if_pos ⟨h,h2⟩]
theorem Th (h:b1≠0):Oa b1 b2 c=c:=by unfold Oa;rw[if_neg (fun e=>h e.1)]
theorem JM (h:b2≠0):Oa b1 b2 c=c:=by unfold Oa;rw[if_neg (fun e=>h e.2)]
theorem tM (h:(aX x 0==0)=true):x=0:=GE h
theorem tP (h:(aX x 0==0)=false):x≠0:=fun e=>by rw[wm.2 e] at h;cases h
theorem HQ (h:(aX x y !=0)=true):x≠y:=fun e=>by rw[wm.2 e] at h;cases h
theorem LI:(0:Rat)=((0:Int):Rat):=rfl
def bad (b1 c1 b2 c2:Rat):Prop:=b1≠0∧b2≠0∧c1≠c2
def cc (b1 c1 c2:Rat):Rat:=if b1=0 then c2 else c1
theorem NQ (h:b1=0):cc b1 c1 c2=c2:=by unfold cc;rw[if_pos h]
theorem Nf (h:b1≠0):cc b1 c1 c2=c1:=by unfold cc;rw[if_neg h]
def BE (b1 b2 c:Rat):Bool:=if b1=0∧b2=0 then decide (c=0) else decide (0<c)&& !kg c
theorem s6:Ok Tryz.prog 317 [] [dR 0]:=by
 refine b9 Tryz.func317 rfl<|ac rfl (gN (by omega) (by omega)) ?_
 refine ai ?_
 rw[LI]
 exact bj bU rfl ag
theorem DN:Ok Tryz.prog 230 [dR a,dR b,dR c] [.a ((cR a++cR b++cR (zc b c)))]:=by
 refine b9 Tryz.func230 rfl<|ac rfl (ts) ?_
 refine dS rfl (fun hc1=>?_) (fun hc1=>?_)
 ·refine ac rfl (s6) ?_
  refine ar (aF (us:=(cR a++cR b++cR 0)) nA lW rfl rfl rfl) ?_
  refine ai ?_
  rw[Ns (tM hc1)]
  exact bj d9 rfl ag
 ·refine ar (aF (us:=(cR a++cR b++cR c)) nA lW rfl rfl rfl) ?_
  refine ai ?_
  rw[yU (tP hc1)]
  exact bj d9 rfl ag
theorem qz:Ok Tryz.prog 127 [.a ((cR a1++cR b1++cR a2++cR b2++cR c))] [.a ((cR a1++cR b1++cR (zc b1 c)))]:=by
 refine b9 Tryz.func127 rfl<|ac rfl (DN) ?_
 exact ai (bj d9 rfl ag)
theorem Kc:Ok Tryz.prog 140 [.a ((cR a1++cR b1++cR a2++cR b2++cR c))] [.a ((cR a2++cR b2++cR (zc b2 c)))]:=by
 refine b9 Tryz.func140 rfl<|ac rfl (DN) ?_
 exact ai (bj d9 rfl ag)
theorem uc:Ok Tryz.prog 235 [.a ((cR a1++cR b1++cR a2++cR b2++cR c))] [.a ((cR a1++cR b1++cR a2++cR b2++cR (Oa b1 b2 c)))]:=by
 refine b9 Tryz.func235 rfl<|ac rfl (ts) ?_
 refine lg (bJ rfl) (fun c1 hb1=>?_)
 cases c1
 ·refine qq rfl<|ai ?_
  rw[Th (tP hb1)]
  exact bj cn rfl ag
 ·refine ac rfl (ts) ?_
  refine dS rfl (fun hc2=>?_) (fun hc2=>?_)
  ·refine ac rfl (s6) ?_
   refine r9 (br (us:=(cR a1++cR b1++cR a2++cR b2++cR 0)) bU rfl rfl rfl rfl (gj rfl) rfl rfl) ?_
   refine ai ?_
   rw[LU (tM hb1) (tM hc2)]
   exact bj cn rfl ag
  ·refine ai ?_
   rw[JM (tP hc2)]
   exact bj cn rfl ag
theorem VQ {v w:Rat}:Ok Tryz.prog 300 [.a ((cR v++cR w))] [.a ((cR v++cR 0++cR w++cR 0++cR 0))]:=by
 refine eo Tryz.func300 11 [.cell 2 47] rfl<|ae<|ah<|ae<|wq 8 rfl rfl<|ji 1<|cK (nt (cR v) bU rfl)<|cK (dg rfl (s6))<|ji 1<|cK (nt (cR w) bU rfl)<|cK (dg rfl (s6))<|cK (dg rfl (s6))<|cK (aF (us:=(cR v++cR 0++cR w++cR 0++cR 0)) Kw De rfl rfl rfl) ?_
 refine wd<|iC<|gi<|ba ?_
 exact ai (bj cn rfl ag)
theorem Nt:Ok Tryz.prog 77 [] [dR 0]:=by
 refine b9 Tryz.func77 rfl<|ac rfl (eG (by omega) (by omega)) ?_
 refine ai ?_
 rw[LI]
 exact bj bU rfl ag
theorem ER:Ok Tryz.prog 286 [] [dR 0]:=by
 refine b9 Tryz.func286 rfl<|ac rfl (eG (by omega) (by omega)) ?_
 refine ai ?_
 rw[LI]
 exact bj bU rfl ag
theorem fF:Ok Tryz.prog 190 [dR a] [.a ((cR a++cR 0++cR 0))]:=by
 refine b9 Tryz.func190 rfl<|dF 4 [] ?_
 refine aI rfl (ER) ?_
 refine aI rfl (ER) ?_
 refine aq (aF (us:=(cR a++cR 0++cR 0)) nA lW rfl rfl rfl) ?_
 exact ai (bj d9 rfl ag)
theorem DY:Ok Tryz.prog 272 [dR a,dR b,dR c] [.a ((cR a++cR b++cR (zc b c)))]:=by
 refine b9 Tryz.func272 rfl<|ac rfl (qf) ?_
 refine dS rfl (fun hc1=>?_) (fun hc1=>?_)
 ·refine ac rfl (fF) ?_
  have e:=tM hc1
  subst e
  refine ai ?_
  rw[Ns rfl]
  exact bj d9 rfl ag
 ·refine ar (aF (us:=(cR a++cR b++cR c)) nA lW rfl rfl rfl) ?_
  refine ai ?_
  rw[yU (tP hc1)]
  exact bj d9 rfl ag
theorem vt:Ok Tryz.prog 149 [.a ((cR a1++cR b1++cR a2++cR b2++cR c))] [.a ((cR a1++cR b1++cR (zc b1 c)))]:=by
 refine b9 Tryz.func149 rfl<|ac rfl (DY) ?_
 exact ai (bj d9 rfl ag)
theorem OK:Ok Tryz.prog 150 [.a ((cR a1++cR b1++cR a2++cR b2++cR c))] [.a ((cR a2++cR b2++cR (zc b2 c)))]:=by
 refine b9 Tryz.func150 rfl<|ac rfl (DY) ?_
 exact ai (bj d9 rfl ag)
theorem kP:Ok Tryz.prog 340 [dR a1,dR b1,dR a2,dR b2,dR c] [.a ((cR a1++cR b1++cR a2++cR b2++cR (Oa b1 b2 c)))]:=by
 refine eo Tryz.func340 26 [.cell 10 47] rfl<|ae<|ah<|ae<|ae<|ah ?_
 refine ac rfl (qf) ?_
 refine lg (bJ rfl) (fun c1 hb1=>?_)
 cases c1
 ·refine bh rfl<|aA<|ae<|bq<|bH 5<|aO (aF (us:=(cR a1++cR b1++cR a2++cR b2++cR c)) Kw De rfl rfl rfl) ?_
  refine gi<|ba ?_
  rw[Th (tP hb1)]
  exact ai (bj cn rfl ag)
 ·refine ac rfl (qf) ?_
  refine aP rfl (fun hc2=>?_) (fun hc2=>?_)
  ·refine ah<|ac rfl (Nt) ?_
   refine ae<|bq<|bH 5 ?_
   refine aO (aF (us:=(cR a1++cR b1++cR a2++cR b2++cR 0)) Kw De rfl rfl rfl) ?_
   refine gi<|ba ?_
   rw[LU (tM hb1) (tM hc2)]
   exact ai (bj cn rfl ag)
  ·refine aA<|ae<|bq<|bH 5<|aO (aF (us:=(cR a1++cR b1++cR a2++cR b2++cR c)) Kw De rfl rfl rfl) ?_
   refine gi<|ba ?_
   rw[JM (tP hc2)]
   exact ai (bj cn rfl ag)
def yz (x:Int):Bool:=decide (-9223372036854775808≤x)&&decide (x≤9223372036854775807)
theorem aad {x:Int}(h:x< -9223372036854775808):yz x=false:=by unfold yz;rw[decide_eq_false (by omega)];rfl
theorem ZL {x:Int}(h:9223372036854775807<x):yz x=false:=by unfold yz;rw[decide_eq_false (p:=x≤9223372036854775807) (by omega),mX]
theorem Ro {x:Int}(h: ¬x< -9223372036854775808) (h2: ¬9223372036854775807<x):yz x=true:=by unfold yz;rw[decide_eq_true (by omega),decide_eq_true (by omega)];rfl
theorem Vy {x:Int}:yz x=true↔ -9223372036854775808≤x∧x≤9223372036854775807:=by unfold yz;simp
theorem Zc (h0:1≤r) (h1:r≤9223372036854775808):IntKind.u64.wrap (0-r)=18446744073709551616-r:=by unfold IntKind.wrap;simp[IntKind.bits,IntKind.signed];omega
theorem X0 (h0:1≤r) (h1:r≤9223372036854775808):IntKind.i64.wrap (18446744073709551616-r)= -r:=by unfold IntKind.wrap;simp[IntKind.bits,IntKind.signed];omega
theorem xM [Decidable p] (h:decide p=true):p:=by simpa using h
theorem ph [Decidable p] (h:decide p=false): ¬p:=by simpa using h
theorem fM {b:Bool}(h:(!b)=false):b=true:=by simpa using h
theorem jS {b:Bool}(h:(!b)=true):b=false:=by simpa using h
def xD (lo hi:Int):Bool:=decide (-2305843009213693952≤lo)&&decide (hi≤2305843009213693952)
theorem abj (h:lo< -2305843009213693952):xD lo hi=false:=by unfold xD;rw[decide_eq_false (by omega)];rfl
theorem aaQ (h:hi>2305843009213693952):xD lo hi=false:=by unfold xD;rw[decide_eq_false (p:=hi≤2305843009213693952) (by omega),mX]
theorem Wz (h: ¬lo< -2305843009213693952) (h2: ¬hi>2305843009213693952):xD lo hi=true:=by unfold xD;rw[decide_eq_true (by omega),decide_eq_true (by omega)];rfl
def jD (a:Rat):Int:=(a*((65536:Int):Rat)).num.fdiv ((a*((65536:Int):Rat)).den:Int)
def jq (a:Rat):Int:= -((-(a*((65536:Int):Rat))).num.fdiv ((-(a*((65536:Int):Rat))).den:Int))
def jo (a:Rat):Bool:=yz (jD a)&&(yz (jq a)&&xD (jD a) (jq a))
theorem AF {x:Int}(hx:Sz 100000000 x):Ok Tryz.prog 322 [dI x] [.c (.i .i64 (if yz x then x else 0)),.c (.b (yz x))]:=by
 refine eo Tryz.func322 39 [.tmp 2,.tmp 3] rfl<|ae<|ah<|ae<|ae<|cX 10 [] ?_
 refine aI rfl (jj (by omega) (by omega))<|aI rfl (pq) ?_
 refine D5 (bJ rfl) (fun c1 hb1=>?_)
 cases c1
 ·refine aI rfl (jj (by omega) (by omega))<|aI rfl (pq) ?_
  refine aP rfl (fun hc2=>?_) (fun hc2=>?_)
  ·refine ae<|ah<|ba ?_
   rw[ZL (adR hc2),if_neg (by decide)]
   exact ai (ak (ak ag))
  ·have hlo:=Zw hb1
   have hhi:=adx hc2
   have hln:=iO hx
   refine aA<|ae<|ah<|ae<|ae<|ah ?_
   refine ar (bF ((((dJ x.natAbs).length:Int))-1) (aS (by(first|omega|(simp;omega))) (by(first|omega|(simp;omega)))) rfl) ?_
   refine aG<|bv (ι:={t:Nat×Int // ShInv (dJ x.natAbs) t.1 t.2}) (fun i=>⟨39,[(1,.p 1 0),(4,.v (.c (.i .u64 i.1.2))),(5,.v (.c (.i .i64 ((i.1.1:Int)-1))))],[(1,36,cI x)]⟩) (fun i=>i.1.1) ⟨((dJ x.natAbs).length,0),⟨Nat.le_refl _,o9 0,by rw[qh];simp⟩⟩ (ap (bo rfl) ⟨rfl,trivial⟩ rfl) ?_
   rintro⟨⟨j,r⟩,hI⟩
   replace hI:ShInv (dJ x.natAbs) j r:=hI
   have g5:=hI.le
   have g3:=hI.r0
   have g4:=hI.bound (b8 _)
   rw[co] at g4
   dsimp only
   refine ae<|ae<|ah ?_
   refine aP rfl (fun hc3=>?_) (fun hc3=>?_)
   ·obtain⟨q,rfl⟩: ∃q,j=q+1:=⟨j-1,by have:=xM hc3;omega⟩
    have hS:=hI.step (b8 _)
    have hB:=hS.bound (b8 _)
    have g1:=du (b8 x.natAbs) q
    rw[co] at hB
    refine nH (σ':=⟨39,[(1,.p 1 0),(4,.v (.c (.i .u64 r))),(5,.v (.c (.i .i64 (q:Int))))],[(1,36,cI x)]⟩) (ap ⟨rfl,rfl,by rw[show(q:Int)=((q+1:Nat):Int)-1 from by omega];rfl,trivial⟩ ⟨rfl,trivial⟩ rfl) ?_
    refine aA<|ae<|aG<|ah ?_
    refine ar (bF (r*1000000000) (iK (by(first|omega|(simp;omega))) (by(first|omega|(simp;omega)))) rfl) ?_
    refine ar (bc jz rfl rfl (by(first|omega|(simp;omega))) (jR _) rfl rfl) ?_
    refine ar (bn f5 rfl (lJ (i:=q) (by(first|omega|(simp;omega)))) rfl) ?_
    refine ar (b6 (r:=(dJ x.natAbs).getD q 0) jN fX rfl (iE (by(first|omega|(simp;omega))) (by(first|omega|(simp;omega)))) rfl) ?_
    refine ar (bF ((r*1000000000)+((dJ x.natAbs).getD q 0)) (gn (by(first|omega|(simp;omega))) (by(first|omega|(simp;omega)))) rfl) ?_
    refine ah ?_
    refine ar (bF ((q:Int)-1) (aS (by(first|omega|(simp;omega))) (by(first|omega|(simp;omega)))) rfl) ?_
    exact⟨⟨(q,r*1000000000+(dJ x.natAbs).getD q 0),hS⟩,ap (bo rfl) ⟨rfl,trivial⟩ rfl,by show q<q+1;omega⟩
   ·have hz:j=0:=by have:=ph hc3;omega
    have hfin:(x.natAbs:Int)=r:=by subst hz;have:=hI.v;rw[co] at this;simp[val,uJ] at this;omega
    refine bV<|ae<|ae<|ah ?_
    refine aP rfl (fun hc4=>?_) (fun hc4=>?_)
    ·have hn:=xM hc4
     refine ah<|ar (il (r:=18446744073709551616-r) rfl (Zc (by omega) (by omega)) rfl) ?_
     refine ae<|ah<|ar (b6 (r:=x) fX Ec rfl (by rw[X0 (by omega) (by omega)];omega) rfl) ?_
     refine ba ?_
     rw[Ro hlo hhi,if_pos rfl]
     exact ai (ak (ak ag))
    ·have hn:=ph hc4
     refine aA<|ae<|ah<|ar (b6 (r:=x) fX Ec rfl (by rw[←hfin];rw[qO (by omega) (by omega)];omega) rfl) ?_
     refine ba ?_
     rw[Ro hlo hhi,if_pos rfl]
     exact ai (ak (ak ag))
 ·refine cz rfl<|ae<|ah<|ba ?_
  rw[aad (X6 hb1),if_neg (by decide)]
  exact ai (ak (ak ag))
theorem tX {x y:Int}:Ok Tryz.prog 324 [.c (.i .i64 x),.c (.i .i64 y)] [.a (([.i .i64 (if xD x y then x else 0)]++[.i .i64 (if xD x y then y else 0)])),.c (.b (xD x y))]:=by
 refine b9 Tryz.func324 rfl ?_
 refine lg (bJ rfl) (fun c1 hb1=>?_)
 cases c1
 ·refine dS rfl (fun hc2=>?_) (fun hc2=>?_)
  ·refine ar (aF (us:=([.i .i64 0]++[.i .i64 0])) qZ p9 rfl rfl rfl) ?_
   refine ai ?_
   rw[aaQ (xM hc2),if_neg (by decide),if_neg (by decide)]
   exact bj kv rfl (ak ag)
  ·refine ar (aF (us:=([.i .i64 x]++[.i .i64 y])) qZ p9 rfl rfl rfl) ?_
   refine ai ?_
   rw[Wz (ph hb1) (ph hc2),if_pos rfl,if_pos rfl]
   exact bj kv rfl (ak ag)
 ·refine lr rfl<|ar (aF (us:=([.i .i64 0]++[.i .i64 0])) qZ p9 rfl rfl rfl) ?_
  refine ai ?_
  rw[abj (xM hb1),if_neg (by decide),if_neg (by decide)]
  exact bj kv rfl (ak ag)
def sB (s t c:Int):Int:=if t=0∨s=t then s else if s=0 then t else s*c
def bD (a b m:Rat):Int:=sB (aX a 0) (aX b 0*aX m 0) (aX (a*a) (b*b*m))
def Ep (A B C D M N:Rat):Rat:=A*A+B*B*M-N*(C*C+D*D*M)
def xS (A B C D N:Rat):Rat:=A*B-N*(C*D)
def fN (A B C D M N:Rat):Int:=if M<0∨N<0 then 0 else sB (bD A B M) (bD C D M*aX N 0) (bD (Ep A B C D M N) (xS A B C D N+xS A B C D N) M)
theorem Ae {c:Int}(h:(s==0)=true):sB s t c=t:=by
 unfold sB
 grind
theorem zK {c:Int}(h:(t==0)=true):sB s t c=s:=by
 have h:t=0:=by grind
 unfold sB;rw[if_pos (.inl h)]
theorem zf {c:Int}(h:(s==t)=true):sB s t c=s:=by
 have h:s=t:=by grind
 unfold sB;rw[if_pos (.inr h)]
theorem y7 {c:Int}(h1:(s==0)=false) (h2:(t==0)=false) (h3:(s==t)=false):sB s t c=s*c:=by
 have h1:s≠0:=by grind
 have h2:t≠0:=by grind
 have h3:s≠t:=by grind
 unfold sB;rw[if_neg (by omega),if_neg h1]
theorem dU (x y:Rat): -1≤aX x y∧aX x y≤1:=by
 unfold aX
 split
 ·omega
 ·split<;>omega
theorem jP (h: -1≤s∧s≤1) (h': -1≤t∧t≤1): -1≤s*t∧s*t≤1:=by
 have hs:s= -1∨s=0∨s=1:=by omega
 grind
theorem K5 {c:Int}(h: -1≤s∧s≤1) (h': -1≤t∧t≤1) (h2: -1≤c∧c≤1): -1≤sB s t c∧sB s t c≤1:=by
 unfold sB
 split
 ·exact h
 ·split
  ·grind
  ·exact jP h h2
theorem gY (a b m:Rat): -1≤bD a b m∧bD a b m≤1:=K5 (dU _ _) (jP (dU _ _) (dU _ _)) (dU _ _)
theorem F1 (h:decide (aX x 0<0)=true):x<0:=Jt.1 (by simpa using h)
theorem Dc (h:decide (aX x 0<0)=false): ¬x<0:=fun e=>by have:=Jt.2 e;simp at h;omega
theorem Gg {B:Rat}(h:M<0∨N<0):fN A B C D M N=0:=by unfold fN;rw[if_pos h]
theorem xo {B:Rat}(h: ¬M<0) (h': ¬N<0):fN A B C D M N=sB (bD A B M) (bD C D M*aX N 0) (bD (Ep A B C D M N) (xS A B C D N+xS A B C D N) M):=by
 unfold fN;rw[if_neg (fun e=>e.elim h h')]
theorem qd {m:Rat}(ha:Rz 2000000 a) (hb:Rz 2000000 b) (hm:Rz 2000000 m):Ok Tryz.prog 254 [dR a,dR b,dR m] [.c (.i .i64 (bD a b m))]:=by
 have ka:Rz 6000000 a:=ha.m_
 have kb:Rz 6000000 b:=hb.m_
 have hp:=jP (dU b 0) (dU m 0)
 have hp2:=jP (dU a 0) (dU (a*a) (b*b*m))
 refine b9 Tryz.func254 rfl<|dF 9 [] ?_
 refine aI rfl (cJ) ?_
 refine aI rfl (cJ) ?_
 refine aI rfl (cJ) ?_
 refine aq (bF ((aX b 0)*(aX m 0)) (b5 (by omega) (by omega)) rfl) ?_
 refine lg (bJ rfl) (fun c1 hb1=>?_)
 cases c1
 ·refine dS rfl (fun hc2=>?_) (fun hc2=>?_)
  ·refine ai ?_
   unfold bD
   rw[zf hc2]
   exact ak ag
  ·refine dS rfl (fun hc3=>?_) (fun hc3=>?_)
   ·refine ai ?_
    unfold bD
    rw[Ae hc3]
    exact ak ag
   ·refine dF 12 [] ?_
    refine aI rfl (cT (bk ha) (bk ha)) ?_
    refine aI rfl (cT (bk hb) (bk hb)) ?_
    refine aI rfl (cT (bk (a8 hb hb)) (bk hm)) ?_
    refine aI rfl (lK (bk (a8 ha ha)) (bk (a8 (a8 hb hb) hm))) ?_
    refine aq (bF ((aX a 0)*(aX (a*a) ((b*b)*m))) (b5 (by omega) (by omega)) rfl)<|ai ?_
    unfold bD
    rw[y7 hc3 hb1 hc2]
    exact ak ag
 ·refine lr rfl<|ai ?_
  unfold bD
  rw[zK hb1]
  exact ak ag
theorem Ah {m:Rat}(ha:Rz 2000000 a) (hb:Rz 2000000 b) (hm:Rz 2000000 m):Ok Tryz.prog 182 [dR a,dR b,dR m] [.c (.i .i64 (bD a b m))]:=by
 have ka:Rz 6000000 a:=ha.m_
 have kb:Rz 6000000 b:=hb.m_
 have hp:=jP (dU b 0) (dU m 0)
 have hp2:=jP (dU a 0) (dU (a*a) (b*b*m))
 refine b9 Tryz.func182 rfl<|dF 9 [] ?_
 refine aI rfl (fY) ?_
 refine aI rfl (fY) ?_
 refine aI rfl (fY) ?_
 refine aq (bF ((aX b 0)*(aX m 0)) (b5 (by omega) (by omega)) rfl) ?_
 refine lg (bJ rfl) (fun c1 hb1=>?_)
 cases c1
 ·refine lg (bJ rfl) (fun c2 hb2=>?_)
  cases c2
  ·refine dS rfl (fun hc3=>?_) (fun hc3=>?_)
   ·refine dS rfl (fun hc4=>?_) (fun hc4=>?_)
    ·exact absurd hc4 (by rw[hb1];decide)
    ·refine ai ?_
     unfold bD
     rw[zf hc3]
     exact ak ag
   ·refine dF 12 [] ?_
    refine aI rfl (ce (bk ha) (bk ha)) ?_
    refine aI rfl (ce (bk hb) (bk hb)) ?_
    refine aI rfl (ce (bk (a8 hb hb)) (bk hm)) ?_
    refine aI rfl (zF (bk (a8 ha ha)) (bk (a8 (a8 hb hb) hm))) ?_
    refine aq (bF ((aX a 0)*(aX (a*a) ((b*b)*m))) (b5 (by omega) (by omega)) rfl)<|ai ?_
    unfold bD
    rw[y7 hb1 hb2 hc3]
    exact ak ag
  ·refine lr rfl ?_
   refine dS rfl (fun hc5=>?_) (fun hc5=>?_)
   ·exact absurd hc5 (by rw[hb1];decide)
   ·refine ai ?_
    unfold bD
    rw[zK hb2]
    exact ak ag
 ·refine ar (bJ rfl)<|lr rfl ?_
  refine dS rfl (fun hc6=>?_) (fun hc6=>?_)
  ·refine ai ?_
   unfold bD
   rw[Ae hb1]
   exact ak ag
  ·exact absurd hb1 (by rw[hc6];decide)
theorem M7 {B:Rat}(hA:Rz 160000 A) (hB:Rz 160000 B) (hC:Rz 160000 C) (hD:Rz 160000 D) (hM:Rz 160000 M) (hN:Rz 160000 N):Ok Tryz.prog 157 [.a ((cR A++cR B++cR C++cR D++cR M++cR N))] [.c (.i .i64 (fN A B C D M N))]:=by
 have z1:=jP (gY C D M) (dU N 0)
 have z2:=jP (gY A B M) (gY (A*A+B*B*M-N*(C*C+D*D*M)) ((A*B-N*(C*D))+(A*B-N*(C*D))) M)
 refine b9 Tryz.func157 rfl ?_
 refine ac rfl (fY) ?_
 refine lg (bJ rfl) (fun c1 hb1=>?_)
 cases c1
 ·have n1:=Dc hb1
  refine ac rfl (fY) ?_
  refine dS rfl (fun hc2=>?_) (fun hc2=>?_)
  ·refine ai ?_
   rw[Gg (.inr (F1 hc2))]
   exact ak ag
  ·have n2:=Dc hc2
   refine dF 20 [] ?_
   refine aI rfl (Ah (bk hA) (bk hB) (bk hM)) ?_
   refine aI rfl (Ah (bk hC) (bk hD) (bk hM)) ?_
   refine aI rfl (fY) ?_
   refine aq (bF ((bD C D M)*(aX N 0)) (b5 (by omega) (by omega)) rfl) ?_
   refine lg (bJ rfl) (fun c3 hb3=>?_)
   cases c3
   ·refine lg (bJ rfl) (fun c4 hb4=>?_)
    cases c4
    ·refine dS rfl (fun hc5=>?_) (fun hc5=>?_)
     ·refine dS rfl (fun hc6=>?_) (fun hc6=>?_)
      ·exact absurd hc6 (by rw[hb3];decide)
      ·refine ai ?_
       rw[xo n1 n2,zf hc5]
       exact ak ag
     ·refine dF 18 [] ?_
      refine aI rfl (ce (bk hC) (bk hC)) ?_
      refine aI rfl (ce (bk hD) (bk hD)) ?_
      refine aI rfl (ce (bk (a8 hD hD)) (bk hM)) ?_
      refine aI rfl (da (bk (a8 hC hC)) (bk (a8 (a8 hD hD) hM))) ?_
      refine aI rfl (ce (bk hN) (bk (ju (a8 hC hC) (a8 (a8 hD hD) hM))))<|dF 17 [] ?_
      refine aI rfl (ce (bk hA) (bk hA)) ?_
      refine aI rfl (ce (bk hB) (bk hB)) ?_
      refine aI rfl (ce (bk (a8 hB hB)) (bk hM)) ?_
      refine aI rfl (da (bk (a8 hA hA)) (bk (a8 (a8 hB hB) hM))) ?_
      refine aI rfl (fG (bk (ju (a8 hA hA) (a8 (a8 hB hB) hM))) (bk (a8 hN (ju (a8 hC hC) (a8 (a8 hD hD) hM)))))<|dF 15 [] ?_
      refine aI rfl (ce (bk hA) (bk hB)) ?_
      refine aI rfl (ce (bk hC) (bk hD))<|aI rfl (ce (bk hN) (bk (a8 hC hD)))<|aI rfl (fG (bk (a8 hA hB)) (bk (a8 hN (a8 hC hD))))<|dF 10 [] ?_
      refine aI rfl (da (bk (df (a8 hA hB) (a8 hN (a8 hC hD)))) (bk (df (a8 hA hB) (a8 hN (a8 hC hD))))) ?_
      refine aI rfl (Ah (bk (df (ju (a8 hA hA) (a8 (a8 hB hB) hM)) (a8 hN (ju (a8 hC hC) (a8 (a8 hD hD) hM))))) (bk (ju (df (a8 hA hB) (a8 hN (a8 hC hD))) (df (a8 hA hB) (a8 hN (a8 hC hD))))) (bk hM)) ?_
      refine aq (bF ((bD A B M)*(bD (((A*A)+((B*B)*M))-(N*((C*C)+((D*D)*M)))) (((A*B)-(N*(C*D)))+((A*B)-(N*(C*D)))) M)) (b5 (by omega) (by omega)) rfl)<|ai ?_
      rw[xo n1 n2,y7 hb3 hb4 hc5]
      exact ak ag
    ·refine lr rfl ?_
     refine dS rfl (fun hc7=>?_) (fun hc7=>?_)
     ·exact absurd hc7 (by rw[hb3];decide)
     ·refine ai ?_
      rw[xo n1 n2,zK hb4]
      exact ak ag
   ·refine ar (bJ rfl)<|lr rfl ?_
    refine dS rfl (fun hc8=>?_) (fun hc8=>?_)
    ·refine ai ?_
     rw[xo n1 n2,Ae hb3]
     exact ak ag
    ·exact absurd hb3 (by rw[hc8];decide)
 ·refine lr rfl<|ai ?_
  rw[Gg (.inl (F1 hb1))]
  exact ak ag
theorem SK {d:Rat}(ha:Rz 6000000 a) (_hb:Rz 6000000 b) (hd:Rz 6000000 d) (he:Rz 6000000 e):Ok Tryz.prog 181 [.a ((cR a++cR b++cR c)),.a ((cR d++cR e++cR f))] [.a ((cR (a-d)++cR b++cR (-e)++cR 0++cR c++cR f))]:=by
 refine eo Tryz.func181 21 [.cell 4 186] rfl<|ae<|ah<|ae<|wq 16 rfl rfl<|ji 1<|cK (nt (cR a) bU rfl)<|ji 1<|cK (nt (cR d) bU rfl)<|cK (dg rfl (fG (bk ha) (bk hd)))<|ji 1<|cK (nt (cR b) bU rfl)<|ji 1<|cK (nt (cR e) bU rfl) ?_
 refine cK (dg rfl (Dz (bk he)))<|cK (dg rfl ((show Ok Tryz.prog 18 [.c (.i .i64 0)] [dR 0] from tj (by omega) (by omega))))<|ji 1<|cK (nt (cR c) bU rfl)<|ji 1<|cK (nt (cR f) bU rfl)<|cK (aF (us:=(cR (a-d)++cR b++cR (-e)++cR 0++cR c++cR f)) Po I3 rfl rfl rfl) ?_
 refine wd<|iC<|gi<|ba ?_
 exact ai (bj QP rfl ag)
theorem Ak {d:Rat}(ha:Rz 60000 a) (hb:Rz 60000 b) (hc:Rz 60000 c) (hd:Rz 60000 d) (he:Rz 60000 e) (hf:Rz 60000 f):Ok Tryz.prog 83 [.a ((cR a++cR b++cR c)),.a ((cR d++cR e++cR f))] [.c (.i .i64 (fN (a-d) b (-e) 0 c f))]:=by
 have ka:Rz 6000000 a:=ha.m_
 have ma:Rz 160000 a:=ha.m_
 have kb:Rz 6000000 b:=hb.m_
 have mb:Rz 160000 b:=hb.m_
 have kc:Rz 6000000 c:=hc.m_
 have mc:Rz 160000 c:=hc.m_
 have kd:Rz 6000000 d:=hd.m_
 have md:Rz 160000 d:=hd.m_
 have ke:Rz 6000000 e:=he.m_
 have me:Rz 160000 e:=he.m_
 have kf:Rz 6000000 f:=hf.m_
 have mf:Rz 160000 f:=hf.m_
 have m1:Rz 160000 (a-d):=(ha.sub hd).m_
 have m2:Rz 160000 (-e):=me.neg
 have m0:Rz 160000 (0:Rat):=fu (n:=0) (dC (by decide) (by decide) (by decide)) (by decide)
 refine b9 Tryz.func83 rfl ?_
 refine ac rfl (SK (by assumption) (by assumption) (by assumption) (by assumption)) ?_
 refine ac rfl (M7 (by assumption) (by assumption) (by assumption) (by assumption) (by assumption) (by assumption)) ?_
 exact ai (ak ag)
theorem wJ (ha:Rz 6000000 a):Ok Tryz.prog 333 [dR a] [dR a]:=by
 refine b9 Tryz.func333 rfl<|ac rfl (dV (bk ha))<|ac rfl (dV (bk (Rz.neg ha))) ?_
 have hfin:dR a=dR (-(-a)):=by rw[Rat.neg_neg]
 refine ai ?_
 rw[hfin]
 exact bj bU rfl ag
theorem Jd {d:Rat}(ha:Rz 6000000 a) (hb:Rz 6000000 b) (hc:Rz 6000000 c) (hd:Rz 6000000 d) (he:Rz 6000000 e) (hf:Rz 6000000 f):Ok Tryz.prog 256 [.a ((cR a++cR b++cR c)),.a ((cR d++cR e++cR f))] [.a ((cR (a-d)++cR b++cR (-e)++cR 0++cR c++cR f))]:=by
 refine eo Tryz.func256 24 [.cell 4 186] rfl<|ae<|ah<|ae<|wq 19 rfl rfl<|ji 1<|cK (nt (cR a) bU rfl)<|ji 1<|cK (nt (cR d) bU rfl)<|cK (dg rfl (fj (bk ha) (bk hd)))<|ji 1<|cK (nt (cR b) bU rfl)<|cK (dg rfl (wJ (bk hb)))<|ji 1 ?_
 refine cK (nt (cR e) bU rfl)<|cK (dg rfl (dV (bk he)))<|cK (dg rfl ((show Ok Tryz.prog 70 [.c (.i .i64 0)] [dR 0] from ig (by omega) (by omega))))<|ji 1<|cK (nt (cR c) bU rfl)<|cK (dg rfl (wJ (bk hc)))<|ji 1<|cK (nt (cR f) bU rfl)<|cK (dg rfl (wJ (bk hf)))<|cK (aF (us:=(cR (a-d)++cR b++cR (-e)++cR 0++cR c++cR f)) Po I3 rfl rfl rfl) ?_
 refine wd<|iC<|gi<|ba ?_
 exact ai (bj QP rfl ag)
def rB (b c:Rat):Rat:=if b=0∨c=0 then 0 else b
def rC (b c:Rat):Rat:=if b=0∨c=0 then 0 else c
theorem Zs (h:b=0∨c=0):rB b c=0:=by unfold rB;rw[if_pos h]
theorem YJ (h:b=0∨c=0):rC b c=0:=by unfold rC;rw[if_pos h]
theorem abM (h:b≠0) (h':c≠0):rB b c=b:=by unfold rB;rw[if_neg (fun e=>e.elim h h')]
theorem adj (h:b≠0) (h':c≠0):rC b c=c:=by unfold rC;rw[if_neg (fun e=>e.elim h h')]
def s3 (a b c:Rat):Int:=if aX a 0=aX b 0∨aX b 0=0 then aX a 0 else if aX a 0=0 then aX b 0 else if 0<a*a-b*b*c then aX a 0 else aX b 0
end Go.Proofs.YtegpmhlfjkhjmaaGreat
