/-Plain:the interval of a root. -/
import Derived.Test.YtkfgimjmgfoneaaGreatDoorVfH
import Derived.Test.YtkfgimjmgfoneaaGreatDoorProg
namespace Go.Proofs.YtkfgimjmgfoneaaGreatDoor
open Go Go.RowKit
variable {Q:Exit→St→Prop}{tm:List (Nat×DV)}{bx:List (Nat×TypeId×List CellD)}{a' cs pre r rest us us' xs ys z zs:List CellD}{by_ j k m n t:Nat}{x y:Operand}{B1 B2 a b b1 b2 c:Rat}{U e:TypeId}
variable {ty:TypeId}{pos:String}{af:Array Edge}{g:Option (Nat×Bool)}
theorem gY:type_of% @Re.ext:=@Re.ext
theorem tL:type_of% @List.take_left:=@List.take_left
theorem Bi (ha:Rz 1000000 a) (hb:Rz 1000000 b) (hc:Rz 1000000 c):Ok Tryz.prog 214 [.a ((cR a++cR b++cR c))] [.a ((cR (a*a+b*b*cc b c c)++cR (rB (a*b+b*a) (cc b c c))++cR (rC (a*b+b*a) (cc b c c))))]:=by
 have hbad: ¬OH b c b c:=fun h=>h.2.2 rfl
 refine bS Tryz.func214 rfl<|ac rfl (xM ha hb hc ha hb hc hbad) ?_
 exact ag (bb fR rfl aa)
theorem sb {x:Int}(h:0<x):0<cn x:=by
 have h1:=y5 (x:=x) (by omega)
 have h2:=fT x
 by_cases e:cn x=0
 ·rw[e] at h1;omega
 ·omega
theorem Rz.rt (h:Rz k c):Rz k (rt c):=Rz.of h.n.isq h.d.isq (by have:=sb (den_pos c);omega)
theorem Bv (h:j9 c=true):cQ (if j9 c then cn c.num else 0) (if j9 c then cn (c.den:Int) else 0)=cR (rt c):=by
 have:=K5 h
 unfold dQ dR at this
 injection this
def zR:List CellD:=[.b false,.s 0 [],.b false,.s 0 [],.b false,.s 0 [],.b false,.s 0 [],.b false,.s 0 [],.b false,.s 0 []]
theorem Cg (ha:Rz 1000000 a) (hb:Rz 1000000 b) (hc:Rz 1000000 c) (h0: ¬c<0) (hs:j9 c=true):Ok Tryz.prog 187 [dR a,dR b,dR c] [.a ((cR (a+b*rt c)++cR 0++cR 0)),.c (.i .i64 0)]:=by
 have ka:Rz 6000000 a:=ha.m_
 have kb:Rz 6000000 b:=hb.m_
 have kc:Rz 6000000 c:=hc.m_
 have kt:Rz 1000000 (rt c):=hc.rt
 refine bS Tryz.func187 rfl<|ac rfl (bF) ?_
 refine cd rfl (fun hc1=>?_) (fun hc1=>?_)
 ·exact absurd (K8 hc1) h0
 ·refine ac rfl (ny (bd hc)) ?_
  refine DW.mk<|aB rfl (fun hc2=>?_) (fun hc2=>?_)
  ·refine Dw.weak (σ':=⟨30,[(3,.p 3 0),(4,.p 4 0),(6,.p 6 0),(8,.p 8 0)],[(3,70,cR a),(4,70,cR b),(6,211,zR),(8,70,cR (rt c))]⟩) (ak ⟨rfl,rfl,rfl,rfl,trivial⟩ ⟨rfl,rfl,rfl,by rw[←Bv hs];rfl,trivial⟩ rfl)<|jt ?_
   refine cS 6 [] ?_
   refine aO rfl (bV (bd hb) (MC)) ?_
   refine aO rfl (fa (bd ha) (bd (bj hb (by assumption)))) ?_
   refine aO rfl (je) ?_
   exact ag (bb fR rfl (am aa))
  ·exact absurd hs (by rw[hc2];decide)
theorem Cn (ha:Rz 1000000 a) (hb:Rz 1000000 b) (hc:Rz 1000000 c) (h0: ¬c<0) (hs:j9 c=false):Ok Tryz.prog 187 [dR a,dR b,dR c] [.a ((cR a++cR (rB b c)++cR (rC b c))),.c (.i .i64 0)]:=by
 have ka:Rz 6000000 a:=ha.m_
 have kb:Rz 6000000 b:=hb.m_
 have kc:Rz 6000000 c:=hc.m_
 have kt:Rz 1000000 (rt c):=hc.rt
 refine bS Tryz.func187 rfl<|ac rfl (bF) ?_
 refine cd rfl (fun hc1=>?_) (fun hc1=>?_)
 ·exact absurd (K8 hc1) h0
 ·refine ac rfl (ny (bd hc)) ?_
  refine cd rfl (fun hc2=>?_) (fun hc2=>?_)
  ·exact absurd hc2 (by rw[hs];decide)
  ·refine ac rfl (kF) ?_
   exact ag (bb fR rfl (am aa))
theorem Aj (h:tq b1 b2 c=true):0≤c:=by
 unfold tq at h
 split at h
 ·grind
 grind
theorem tW (h:0≤c):0≤zc b c:=by unfold zc;split<;>grind
def u9 (a b c:Rat):Re:=gC a b (zc b c)
theorem o6 {p q r:Rat}(hc:0≤c) (hr:0≤r):w8 a b c p q r=bJ (u9 a b c-u9 p q r):=Gl (tW hc) (tW hr)
section
variable {a1 b1 a2 b2 c p1 q1 p2 q2 r:Rat}
theorem ze (x y:Re):bJ (y-x)= -bJ (x-y):=by
 rw[←fh]
 exact congrArg bJ (gY fun k=>by simp only[cE,cJ];grind)
theorem vj (x:Re):bJ (x-x)=0:=by
 have h:=ze x x
 omega
theorem Cf (hc:0≤c) (hr:0≤r):ns p1 q1 p2 q2 r a1 b1 a2 b2 c= -ns a1 b1 a2 b2 c p1 q1 p2 q2 r:=by
 unfold ns
 rw[o6 hc hr,o6 hc hr,o6 hr hc,o6 hr hc,ze (u9 a1 b1 c),ze (u9 a2 b2 c)]
 grind
theorem CU (hc:0≤c):ns a1 b1 a2 b2 c a1 b1 a2 b2 c=0:=by
 unfold ns
 rw[o6 hc hc,o6 hc hc,vj,vj];simp
end
theorem GG (n:Int):Ca (n*n)=true:=by
 have h:cn (n*n)=(n.natAbs:Int):=by
  have e:(n.natAbs:Int)*(n.natAbs:Int)=n*n:=by grind
  refine tV ?_ (by omega) (by omega) ?_
  ·grind
  grind
 unfold Ca
 grind
theorem HN (x:Rat):j9 (x*x)=true:=by
 have e:x*x=Rat.divInt (x.num*x.num) ((x.den:Int)*(x.den:Int)):=by
  conv=>lhs;rw[←Rat.num_divInt_den x]
  exact Rat.divInt_mul_divInt _ _
 have hd:=den_pos x
 have hg:Int.gcd (x.num*x.num) ((x.den:Int)*(x.den:Int))=1:=by
  have hr:Nat.Coprime x.num.natAbs x.den:=x.reduced
  show Nat.gcd (x.num*x.num).natAbs ((x.den:Int)*(x.den:Int)).natAbs=1
  rw[Int.natAbs_mul,Int.natAbs_mul,Int.natAbs_natCast]
  exact(hr.mul_left hr).mul_right (hr.mul_left hr)
 have hv:vQ (x.num*x.num) ((x.den:Int)*(x.den:Int))=true:=by
  unfold vQ
  rw[hg,decide_eq_true (Int.mul_pos hd hd)];rfl
 obtain⟨h1,h2⟩:=J3 hv
 rw[←e] at h1 h2
 unfold j9
 rw[h1,h2,GG,GG];rfl
theorem DH (hc:0≤c) (hv:b≠0→0<c∧j9 c=false):s3 a b c=bJ (gC a b c):=by
 rw[←jC hc]
 unfold s3 cT nw
 by_cases hb:b=0
 ·have h0:aM b 0=0:=lf.2 hb
  rw[if_pos (.inr h0),h0,k9,if_pos (.inl rfl)]
 ·obtain⟨hp,hs⟩:=hv hb
  have h1:aM c 0=1:=by unfold aM;rw[if_neg (by grind),if_pos hp]
  have h2:aM b 0≠0:=fun e=>hb (lf.1 e)
  rw[h1,Int.mul_one]
  by_cases h3:aM a 0=aM b 0
  ·grind
  ·have n1: ¬(aM a 0=aM b 0∨aM b 0=0):=by omega
   have n2: ¬(aM b 0=0∨aM a 0=aM b 0):=by omega
   rw[if_neg n1,if_neg n2]
   by_cases h4:aM a 0=0
   ·grind
   ·rw[if_neg h4,if_neg h4]
    have hn:a*a≠b*b*c:=by
     intro e
     have e2:c=(a/b)*(a/b):=by grind
     rw[e2,HN] at hs
     grind
    have a1:=fB a 0
    have b1:=fB b 0
    by_cases h5:0<a*a-b*b*c
    ·have:aM (a*a) (b*b*c)=1:=by unfold aM;rw[if_neg (by grind),if_pos (by grind)]
     rw[if_pos h5,this,Int.mul_one]
    ·have:aM (a*a) (b*b*c)= -1:=by unfold aM;rw[if_pos (by grind)]
     rw[if_neg h5,this];omega
theorem wc (a b c:Rat):u9 a b c=Re.of a+Re.of b*Re.rt c:=by
 unfold u9 gC
 by_cases h:b=0
 ·subst h
  exact gY fun k=>by simp only[bX,cz,eE];grind
 ·rw[ij h]
def Ge (x y b1 b2 c:Rat):Rat:=x*x+y*y+(b1*b1+b2*b2)*c
def FO (x y b1 b2:Rat):Rat:=(x*b1+y*b2)+(x*b1+y*b2)
theorem JO {x y:Rat}(hv:tq b1 b2 c=true) (h:FO x y b1 b2≠0):0<c∧j9 c=false:=by
 have hb: ¬(b1=0∧b2=0):=by
  rintro⟨rfl,rfl⟩
  apply h;unfold FO;grind
 unfold tq at hv
 grind
theorem RC:a*a+b*b*cc b (zc b c) (zc b c)=a*a+b*b*c:=by
 by_cases h:b=0
 ·grind
 ·rw[yA h,ij h]
theorem QN (hc:b≠0→c≠0):rB (a*b+b*a) (cc b (zc b c) (zc b c))=a*b+a*b:=by
 unfold rB
 split
 ·rename_i h
  by_cases hb:b=0
  ·grind
  ·rw[yA hb,ij hb] at h
   rcases h with h|h
   ·grind
   grind
 grind
theorem QH (hc:b≠0→c≠0):rC (a*b+b*a) (cc b (zc b c) (zc b c))=zc (a*b+a*b) c:=by
 have e:a*b+b*a=a*b+a*b:=by grind
 rw[e]
 unfold rC
 by_cases hb:b=0
 ·subst hb
  rw[if_pos (.inl (by grind)),zo (by grind)]
 ·rw[yA hb,ij hb]
  by_cases h:a*b+a*b=0
  ·rw[if_pos (.inl h),zo h]
  ·rw[if_neg (fun e=>e.elim h (hc hb)),ij h]
theorem PB: ¬OH B1 (zc B1 c) B2 (zc B2 c):=by
 rintro⟨h1,h2,h3⟩
 rw[ij h1,ij h2] at h3
 exact h3 rfl
theorem SS (hc:B1+B2≠0→c≠0):rB (B1+B2) (cc B1 (zc B1 c) (zc B2 c))=B1+B2:=by
 unfold rB
 split
 ·rename_i h
  by_cases hs:B1+B2=0
  ·grind
  ·exfalso
   rcases h with h|h
   ·grind
   ·by_cases h1:B1=0
    ·rw[KG h1] at h
     have h2:B2≠0:=by grind
     rw[ij h2] at h
     grind
    ·rw[yA h1,ij h1] at h
     exact hc hs h
 ·rfl
theorem Ss (hc:B1+B2≠0→c≠0):rC (B1+B2) (cc B1 (zc B1 c) (zc B2 c))=zc (B1+B2) c:=by
 unfold rC
 by_cases hs:B1+B2=0
 ·rw[if_pos (.inl hs),zo hs]
 ·have e:cc B1 (zc B1 c) (zc B2 c)=c:=by
   by_cases h1:B1=0
   ·rw[KG h1,ij (fun e=>hs (by grind))]
   ·rw[yA h1,ij h1]
  rw[e,if_neg (fun e=>e.elim hs (hc hs)),ij hs]
theorem xb (a v:Rat):a+ -v=a-v:=by grind
section
variable {P:Program}{f:FuncId}{ds rs:List D0}{x y z x' y' z':Rat}
theorem yq (h:Ok P f ds (.a (cR x++cR y++cR z)::rs)) (e1:x=x') (e2:y=y') (e3:z=z'):Ok P f ds (.a (cR x'++cR y'++cR z')::rs):=by subst e1 e2 e3;exact h
end
theorem Rp (x y b1 b2 c:Rat):(x*x+b1*b1*c)+(y*y+b2*b2*c)=Ge x y b1 b2 c:=by unfold Ge;grind
theorem Jm (x y b1 b2:Rat):(x*b1+x*b1)+(y*b2+y*b2)=FO x y b1 b2:=by unfold FO;grind
theorem QT (h:tq b1 b2 c=true):(b1≠0→c≠0)∧(b2≠0→c≠0):=by
 have key: ¬(b1=0∧b2=0)→c≠0:=by
  unfold tq at h
  grind
 grind
section
variable {P:Program}{ops:Array Oper}{T:TF}{B:BF}{av:Nat→Prop}{w0:Ent}{w:World}{N:Nat}{β:Nat→Nat}{a:Act}
theorem Rel.ren (h:Rel av w0 N T B β a w) {d:Nat}(hdN:d<N) (hk:B k≠none) (hd:d=k∨B d=none):
 Rel av w0 N (lm k T) (fun l=>if l=d then B k else if l=k then none else B l) (fun l=>if l=d then β k else β l) a w:=by
 have hB: ∀l,(if l=d then B k else if l=k then none else B l)≠none→(l=d∨(l≠d∧l≠k∧B l≠none)):=by grind
 have hne: ∀l,B l≠none→l≠k→l≠d:=by grind
 have hV:(fun b=>av b∨ ∃l,(if l=d then B k else if l=k then none else B l)≠none∧(if l=d then β k else β l)=b)=(fun b=>av b∨ ∃l,B l≠none∧β l=b):=by grind
 have hT: ∀t x,lm k T t=some x→x=.n∨(T t=some x∧gB x≠some k):=by
  intro t x ht
  unfold lm at ht
  grind
 refine⟨h.dfr,h.siz,h.bel,h.avl,h.avE,h.big,fun b hb hK=>?_,?_,?_,?_,?_⟩
 ·have hKd:w0.K≠d:=by have:=h.big;omega
  rcases hB _ hK with e|⟨_,_,e⟩
  ·grind
  ·rw[if_neg hKd];exact h.fix b hb e
 ·intro l m hl hm e
  rcases hB l hl with e1|⟨e1,e2,e3⟩<;>rcases hB m hm with f1|⟨f1,f2,f3⟩
  ·grind
  ·rw[if_pos e1,if_neg f1] at e
   exact absurd (h.inj k m hk f3 e).symm f2
  ·rw[if_neg e1,if_pos f1] at e
   exact absurd (h.inj l k e3 hk e) e2
  ·rw[if_neg e1,if_neg f1] at e
   exact h.inj l m e3 f3 e
 ·intro l hl
  rcases hB l hl with e1|⟨e1,e2,e3⟩
  ·rw[if_pos e1];exact h.own k hk
  ·rw[if_neg e1];exact h.own l e3
 ·intro t x l ht hx
  rcases hT t x ht with rfl|⟨h1,h2⟩
  ·cases hx
  ·have h3:=h.wf t x l h1 hx
   grind
 ·rw[hV]
  refine⟨h.sees.av,?_,?_⟩
  ·intro l U cs hl
   have hl0:(if l=d then B k else if l=k then none else B l)=some (U,cs):=hl
   by_cases e:l=d
   ·rw[if_pos e] at hl0
    rw[if_pos e];exact h.sees.box k U cs hl0
   ·rw[if_neg e] at hl0
    rw[if_neg e]
    by_cases e2:l=k
    ·grind
    ·rw[if_neg e2] at hl0;exact h.sees.box l U cs hl0
  ·intro t x hL ht
   rcases hT t x ht with rfl|⟨h1,h2⟩
   ·unfold lm at ht
    split at ht
    ·rename_i y hy
     obtain⟨v,e,_⟩:=h.sees.tmp t y hL hy
     exact⟨v,e,trivial⟩
    grind
   ·obtain⟨v,e,hr⟩:=h.sees.tmp t x hL h1
    refine⟨v,e,?_⟩
    cases x with
    |p l off=>
     have h3:=h.wf t _ l h1 rfl
     have h4:l≠k:=fun e=>h2 (by rw[e];rfl)
     show v=.pointer (some ⟨if l=d then β k else β l,off,none⟩)
     rw[if_neg (hne l h3 h4)];exact hr
    |o l n c=>
     have h3:=h.wf t _ l h1 rfl
     have h4:l≠k:=fun e=>h2 (by rw[e];rfl)
     show v=.slice (some ⟨if l=d then β k else β l,0,none⟩) n c
     rw[if_neg (hne l h3 h4)];exact hr
    |w l off n c=>
     have h3:=h.wf t _ l h1 rfl
     have h4:l≠k:=fun e=>h2 (by rw[e];rfl)
     show v=.slice (some ⟨if l=d then β k else β l,off,none⟩) n c
     rw[if_neg (hne l h3 h4)];exact hr
    |v d=>exact hr
    |t ds=>exact hr
    |q us=>exact hr
    |u=>exact hr
    |n=>trivial
    |z=>exact hr
    |f n us=>exact hr
    |tn l n c ds=>
     have h3:=h.wf t _ l h1 rfl
     have h4:l≠k:=fun e=>h2 (by rw[e];rfl)
     obtain⟨xs,e,h⟩:=hr
     exact⟨xs,by show v=Value.tuple (Value.slice (some ⟨if l=d then β k else β l,0,none⟩) n c::xs).toArray;rw[if_neg (hne l h3 h4)];exact e,h⟩
    |oe l n c u=>
     have h3:=h.wf t _ l h1 rfl
     have h4:l≠k:=fun e=>h2 (by rw[e];rfl)
     exact⟨by show v=.slice (some ⟨if l=d then β k else β l,0,none⟩) n c;rw[if_neg (hne l h3 h4)];exact hr.1,hr.2⟩
theorem yh (a:Act) (d:Nat) (v v':Value):(a.put (some d) v).put (some d) v'=a.put (some d) v':=by simp[Act.put]
theorem IK {x:DV}:(⟨N,(t,x)::eY k tm,bx⟩:St).T=fun s=>if some t=some s then some x else lm k (fun s=>an s tm) s:=by
 funext s
 show an s ((t,x)::eY k tm)=_
 rw[aF,ga]
 by_cases e:t=s
 ·grind
 ·rw[if_neg e,if_neg (by simpa using e)];rfl
theorem Ie {x:TypeId×List CellD}:(⟨N,tm,(t,x)::eo k bx⟩:St).B=fun l=>if some t=some l then some x else if l=k then none else an l bx:=by
 funext s
 show an s ((t,x)::eo k bx)=(if some t=some s then some x else if s=k then none else an s bx)
 rw[aF,f9]
 grind
theorem JA {z:Value}(hzl:zs.length=m) (hzr: ∀(V:Nat→Prop) (w:World),RdCs V w z.cells.toList zs) (r:Nat):
 ∃rest:List CellD,rest.length=r*m∧ ∀(V:Nat→Prop) (w:World),RdCs V w (Builtin.zeroCells z.cells r).toList rest:=by
 have hzs:z.cells.size=m:=by have:=(hzr (fun _=>False) default).1;rw[hzl] at this;simpa using this
 have key: ∀(r:Nat) (V:Nat→Prop) (w:World),RdCs V w ((List.range (r*m)).map (fun j=>z.cells[j%z.cells.size]!)) (List.replicate r zs).flatten:=by
  intro r V w
  induction r with
  |zero=>simp;exact lu
  |succ r ih=>
   rw[Nat.succ_mul,List.range_add,qO,List.replicate_succ',List.flatten_append]
   refine dm ih ?_
   have e2:(List.map (fun x=>r*m+x) (List.range m)).map (fun j=>z.cells[j%z.cells.size]!)=z.cells.toList:=by
    apply List.ext_getElem (by simp[hzs])
    intro j h1 h2
    simp at h1
    simp only[List.getElem_map,List.getElem_range,hzs]
    rw[Nat.mul_comm r,Nat.mul_add_mod,Nat.mod_eq_of_lt (by omega),getElem!_pos z.cells j (by omega)]
    simp
   grind
 refine⟨(List.replicate r zs).flatten,?_,fun V w=>?_⟩
 ·simp_all
 ·have:=key r V w
  unfold Builtin.zeroCells
  simpa [hzs] using this
variable {tm:List (Nat×DV)}{bx:List (Nat×TypeId×List CellD)}
theorem nL {c q:Nat}
 (hU:mx P U=some (e,m,by_,zs)) (hx:bH (fun s=>an s tm) x=some (.o k n c)) (hsc: ∀V β a w,Sees V (fU ops ⟨some t,.call ⟨.builtin .append,#[x,y],#[U,U]⟩,ty,pos,af,g⟩) (fun s=>an s tm) (fun l=>an l bx) β a w→ ∃news,Src P m U (a.eval y) q news w∧RdCs V w news ys) (hb:an k bx=some (e,cs)) (hcs:cs.length=c*m) (hys:ys.length=q*m) (hm:0<m)
 (hnc:n≤c) (hcm:c≤maxLen) (hgf:c<n+q→Builtin.nextslicecap (n+q) c*by_≤281474976710656) (h63:n+q≤maxLen) (hpre:cs.take (n*m)=pre) (hd:t=k∨an t bx=none)
 (hg:gd ops ⟨some t,.call ⟨.builtin .append,#[x,y],#[U,U]⟩,ty,pos,af,g⟩ (fun s=>an s tm)=some true):
 Fb P ops ⟨some t,.call ⟨.builtin .append,#[x,y],#[U,U]⟩,ty,pos,af,g⟩ ⟨N,tm,bx⟩ (fun σ'=> ∃c' rest,n+q≤c'∧c'≤maxLen∧rest.length=(c'-(n+q))*m∧σ'=⟨N,(t,.o t (n+q) c')::eY k tm,(t,e,pre++ys++rest)::eo k bx⟩):=by
 intro av w0 β a w hrel htn
 have hs:=Sees.of hrel.sees (L:=fU ops ⟨some t,.call ⟨.builtin .append,#[x,y],#[U,U]⟩,ty,pos,af,g⟩) (fun _ _=>trivial) (fun _ _ _ h=>h) (fun _ _ h=>h)
 refine⟨dK hs hg,?_⟩
 have e1:a.eval x=.slice (some ⟨β k,0,none⟩) n c:=aw hs (x:=x) (by simp[Op.operands,Call.operands]) hx
 obtain⟨news,hsrc,hrn⟩:=hsc _ _ _ _ hs
 obtain⟨hu,i,z,hi,hz,hsz,hby,hzl,hzr⟩:=fD hU
 obtain⟨hvk,vs,ev,hr⟩:=hs.box k e cs hb
 subst hsz
 have hkn:(an k bx)≠none:=by rw[hb];simp
 have hle:n*i.size≤cs.length:=by rw[hcs];exact nf _ hnc
 have hvl:vs.size=c*i.size:=by have:=hr.1;rw[hcs] at this;simpa using this
 have hr2:=hr.take (n*i.size)
 rw[hpre] at hr2
 have hlen:(vs.toList.take (n*i.size)).length=n*i.size:=by
  rw[cX,Array.length_toList,hvl]
  exact de (nf _ hnc)
 have ht:t<N:=htn t rfl
 have hnl:news.length=q*i.size:=hsrc.newsLen
 unfold Gives
 by_cases hroom:n+q≤c
 ·--in place
  have hfit:0+n*i.size+0+news.length≤vs.size:=by
   rw[hvl,hnl]
   have:=nf i.size hroom
   rw[gP] at this;omega
  have hst:=run_storeCells_at P (β k) (0+n*i.size) e news 0 vs w ev hfit hsrc.one
  simp only[eC,tZ] at hst
  have hrun:(Builtin.append_ #[U,U] ty #[.slice (some ⟨β k,0,none⟩) n c,a.eval y]).run P w=.ok (.slice (some ⟨β k,0,none⟩) (n+q) c) (w.setRow (β k) (vs.toList.take (n*i.size)++news++vs.toList.drop (n*i.size+news.length)).toArray):=by
   rcases hsrc.kind with⟨e',hk⟩|hk<;>simp[Builtin.append_,run_underlying hu,sizeOf,typeInfo,hi,hsrc.len,hroom,hsrc.cells,Addr.add_lit,hst]
  have hexec:(execOp a.eval ⟨some t,.call ⟨.builtin .append,#[x,y],#[U,U]⟩,ty,pos,af,g⟩).run P w=.ok (.value (.slice (some ⟨β k,0,none⟩) (n+q) c)) (w.setRow (β k) (vs.toList.take (n*i.size)++news++vs.toList.drop (n*i.size+news.length)).toArray):=by
   simp only[execOp,resolve,invoke,builtin,ed,fq,eb,p9,mR,p8,e1]
   rw[hrun]
   rfl
  rw[hexec]
  have hrest:((cs.drop (n*i.size+news.length))).length=(c-(n+q))*i.size:=by
   rw[dz,hcs,hnl,←gP,←Nat.sub_mul]
  refine⟨⟨N,(t,.o t (n+q) c)::eY k tm,(t,e,pre++ys++cs.drop (n*i.size+news.length))::eo k bx⟩,fun l=>if l=t then β k else β l,⟨c,_,hroom,hcm,hrest,rfl⟩,rfl,?_⟩
  have hren:=hrel.ren (k:=k) (d:=t) (htn t rfl) hkn hd
  have hstore:=hren.store (k:=t) (U:=e) (cs0:=cs) (cs:=pre++ys++cs.drop (n*i.size+news.length)) (vs:=(vs.toList.take (n*i.size)++news++vs.toList.drop (n*i.size+news.length)).toArray)
   (w':=w.setRow (β k) (vs.toList.take (n*i.size)++news++vs.toList.drop (n*i.size+news.length)).toArray) (by rw[if_pos rfl];exact hb) (by rw[if_pos rfl];exact km ev) rfl rfl rfl ?_
  ·have hval:=hstore.value (d:=some t) (x:=.o t (n+q) c) (v:=.slice (some ⟨β k,0,none⟩) (n+q) c) (by intro s hs;injection hs with hs;subst hs;exact ht) (bP _ _) (by show _=Value.slice (some ⟨if t=t then β k else β t,0,none⟩) _ _;rw[if_pos rfl]) (by intro l hl;injection hl with hl;subst hl;rw[if_pos rfl];simp)
   refine hval.congr (fun s=>?_) (fun l=>?_)
   ·rw[IK];rfl
   ·rw[Ie]
    show(if some t=some l then _ else _)=(if t=l then _ else if l=t then _ else _)
    by_cases e:t=l
    ·rw[if_pos (by rw[e]),if_pos e]
    ·rw[if_neg (show ¬some t=some l by simpa using e),if_neg e,if_neg (Ne.symm e)];rfl
  ·have hrd:RdCs (fun b=>av b∨ ∃k,an k bx≠none∧β k=b) w (vs.toList.take (n*i.size)++news++vs.toList.drop (n*i.size+news.length)) (pre++ys++cs.drop (n*i.size+news.length)):=(hr2.append hrn).append (hr.drop _)
   refine RdCs.keep (av:=fun b=>av b∨ ∃k,an k bx≠none∧β k=b) ⟨Nat.le_refl _,fun _ _ _=>rfl,?_⟩ hrd
   rintro b _ (hb'|⟨l,hl,hb'⟩)
   ·exact .inl hb'
   ·try dsimp only at hl hb'
    by_cases e:l=t
    ·rw[if_pos e] at hb';exact .inr ⟨k,hkn,hb'⟩
    ·rw[if_neg e] at hl hb'
     by_cases e2:l=k
     ·rw[if_pos e2] at hl;exact absurd rfl hl
     ·rw[if_neg e2] at hl;exact .inr ⟨l,hl,hb'⟩
 ·--new memory
  have hgrow:c<n+q:=by omega
  have hold:(Builtin.firstCells i.size n (.slice (some ⟨β k,0,none⟩) n c)).run P w.drew=.ok (vs.toList.take (n*i.size)).toArray w.drew:=by
   have:=run_loadCells_list (P:=P) w.drew ⟨β k,0,none⟩ (vs.toList.take (n*i.size)) (fun j u hj=>by
    rw[gT,eC]
    show w.cell? _=_
    rw[lg] at hj
    split at hj
    ·rw[co ev,←hj];simp
    ·cases hj)
   rw[hlen] at this
   exact this
  have hrun:=run_append_grow_src (P:=P) (w:=w) U U ty e i z hu hi hz (some ⟨β k,0,none⟩) n c _ hold (a.eval y) q news hsrc hgrow (by have:maxLen=9223372036854775807:=rfl;omega) (by rw[hby];exact hgf hgrow)
  generalize hcap:grownCap w (n+q) c e=c' at hrun
  have hc1:n+q≤c':=by rw[←hcap];exact grownCap_ge _ _ _ _
  have hc2:c'≤maxLen:=by rw[←hcap];exact grownCap_le_maxLen _ _ _ _ h63
  have hexec:(execOp a.eval ⟨some t,.call ⟨.builtin .append,#[x,y],#[U,U]⟩,ty,pos,af,g⟩).run P w=.ok (.value (.slice (some ⟨w.heap.size,0,none⟩) (n+q) c'))
   (w.drew.alloc (.cells ((vs.toList.take (n*i.size)++news).toArray++Builtin.zeroCells z.cells (c'-(n+q))) e)):=by
   simp only[execOp,resolve,invoke,builtin,ed,fq,eb,p9,mR,p8,e1]
   rw[hrun]
   rfl
  rw[hexec]
  have hdr:=(hrel.drop k).drew
  obtain⟨rest,hrl,hrz⟩:=JA hzl hzr (c'-(n+q))
  have hrd:RdCs (fun b=>av b∨ ∃l,(if l=k then none else an l bx)≠none∧β l=b) w.drew ((vs.toList.take (n*i.size)++news).toArray++Builtin.zeroCells z.cells (c'-(n+q))).toList (pre++ys++rest):=by
   have h0:RdCs (fun b=>av b∨ ∃k,an k bx≠none∧β k=b) w (vs.toList.take (n*i.size)++news) (pre++ys):=hr2.append hrn
   have h1:=dm (RdCs.keep (av:=fun b=>av b∨ ∃k,an k bx≠none∧β k=b) (w:=w) (av':=fun b=>av b∨ ∃l,(if l=k then none else an l bx)≠none∧β l=b) (w':=w.drew) ⟨Nat.le_refl _,fun _ _ _=>rfl,fun b _ hb'=>hb'.imp id fun⟨l,hl,e⟩=>⟨l,fun h0=>by rw[h0] at hl;exact hl (by split<;>rfl),e⟩⟩ h0) (hrz (fun b=>av b∨ ∃l,(if l=k then none else an l bx)≠none∧β l=b) w.drew)
   simpa using h1
  have hbox:=hdr.box (d:=t) ht (by
   show(if t=k then none else an t bx)=none
   rcases hd with hd|hd
   ·rw[if_pos hd]
   ·rw[hd];split<;>rfl) (U:=e) (sl:=some c') hrd
  refine⟨⟨N,(t,.o t (n+q) c')::eY k tm,(t,e,pre++ys++rest)::eo k bx⟩,fun l=>if l=t then w.drew.heap.size else β l,⟨c',_,hc1,hc2,hrl,rfl⟩,rfl,?_⟩
  have hval:=hbox.value (d:=some t) (x:=.o t (n+q) c') (v:=.slice (some ⟨w.heap.size,0,none⟩) (n+q) c') (by intro s hs;injection hs with hs;subst hs;exact ht) (bP _ _) (by show _=Value.slice (some ⟨if t=t then w.drew.heap.size else β t,0,none⟩) _ _;rw[if_pos rfl];rfl) (by intro l hl;injection hl with hl;subst hl;rw[if_pos rfl];simp)
  rw[yh] at hval
  refine hval.congr (fun s=>?_) (fun l=>?_)
  ·rw[IK]
   show(if some t=some s then _ else _)=(if some t=some s then _ else if some t=some s then _ else lm k _ s)
   by_cases e:some t=some s
   ·rw[if_pos e,if_pos e]
   ·rw[if_neg e,if_neg e,if_neg e];rfl
  ·rw[Ie];rfl
theorem y6 {c q:Nat}
 (hU:mx P U=some (e,m,by_,zs)) (hx:bH (fun s=>an s tm) x=some (.o k n c)) (hsc: ∀V β a w,Sees V (fU ops ⟨some t,.call ⟨.builtin .append,#[x,y],#[U,U]⟩,ty,pos,af,g⟩) (fun s=>an s tm) (fun l=>an l bx) β a w→ ∃V',RdC V' w (a.eval y) (.s q ys)∧ ∀news,RdCs V' w news ys→RdCs V w news ys) (hb:an k bx=some (e,cs)) (hcs:cs.length=c*m) (hys:ys.length=q*m) (hm:0<m)
 (hnc:n≤c) (hcm:c≤maxLen) (hbytes:(n+q)*by_≤140737488355328) (h63:n+q≤maxLen) (hpre:cs.take (n*m)=pre) (hd:t=k∨an t bx=none)
 (hg:gd ops ⟨some t,.call ⟨.builtin .append,#[x,y],#[U,U]⟩,ty,pos,af,g⟩ (fun s=>an s tm)=some true):
 Fb P ops ⟨some t,.call ⟨.builtin .append,#[x,y],#[U,U]⟩,ty,pos,af,g⟩ ⟨N,tm,bx⟩ (fun σ'=> ∃c' rest,n+q≤c'∧c'≤maxLen∧rest.length=(c'-(n+q))*m∧σ'=⟨N,(t,.o t (n+q) c')::eY k tm,(t,e,pre++ys++rest)::eo k bx⟩):=
 nL hU hx (fun V β a w hs=>by
  obtain⟨V',h2,hconv⟩:=hsc _ _ _ _ hs
  obtain⟨news,hsrc,hrn'⟩:=lW hU h2 hys
  exact⟨news,hsrc,hconv _ hrn'⟩) hb hcs hys hm hnc hcm (fun h=>growslice_fits h hbytes) h63 hpre hd hg
theorem tY {c q:Nat}
 (hU:mx P U=some (e,m,by_,zs)) (hx:bH (fun s=>an s tm) x=some (.o k n c)) (hy:bH (fun s=>an s tm) y=some (.v (.c (.s q ys)))) (hb:an k bx=some (e,cs)) (hcs:cs.length=c*m) (hys:ys.length=q*m) (hm:0<m)
 (hnc:n≤c) (hcm:c≤maxLen) (hbytes:(n+q)*by_≤140737488355328) (h63:n+q≤maxLen) (hpre:cs.take (n*m)=pre) (hd:t=k∨an t bx=none)
 (hg:gd ops ⟨some t,.call ⟨.builtin .append,#[x,y],#[U,U]⟩,ty,pos,af,g⟩ (fun s=>an s tm)=some true):
 Fb P ops ⟨some t,.call ⟨.builtin .append,#[x,y],#[U,U]⟩,ty,pos,af,g⟩ ⟨N,tm,bx⟩ (fun σ'=> ∃c' rest,n+q≤c'∧c'≤maxLen∧rest.length=(c'-(n+q))*m∧σ'=⟨N,(t,.o t (n+q) c')::eY k tm,(t,e,pre++ys++rest)::eo k bx⟩):=by
 exact y6 hU hx (fun V β a w hs=>⟨V,aw hs (x:=y) (by simp[Op.operands,Call.operands]) hy,fun _ h=>h⟩) hb hcs hys hm hnc hcm hbytes h63 hpre hd hg
theorem yZ {q:Nat}
 (hU:mx P U=some (e,m,by_,zs)) (hx:bH (fun s=>an s tm) x=some .z) (hy:bH (fun s=>an s tm) y=some (.v (.c (.s q ys)))) (hys:ys.length=q*m) (hq:0<q)
 (hbytes:q*by_≤140737488355328) (h63:q≤maxLen) (hd:an t bx=none)
 (hg:gd ops ⟨some t,.call ⟨.builtin .append,#[x,y],#[U,U]⟩,ty,pos,af,g⟩ (fun s=>an s tm)=some true):
 Fb P ops ⟨some t,.call ⟨.builtin .append,#[x,y],#[U,U]⟩,ty,pos,af,g⟩ ⟨N,tm,bx⟩ (fun σ'=> ∃c' rest,q≤c'∧c'≤maxLen∧rest.length=(c'-q)*m∧σ'=⟨N,(t,.o t q c')::tm,(t,e,ys++rest)::bx⟩):=by
 intro av w0 β a w hrel htn
 have hs:=Sees.of hrel.sees (L:=fU ops ⟨some t,.call ⟨.builtin .append,#[x,y],#[U,U]⟩,ty,pos,af,g⟩) (fun _ _=>trivial) (fun _ _ _ h=>h) (fun _ _ h=>h)
 refine⟨dK hs hg,?_⟩
 have e1:a.eval x=.slice none 0 0:=aw hs (x:=x) (by simp[Op.operands,Call.operands]) hx
 have h2:=aw hs (x:=y) (by simp[Op.operands,Call.operands]) hy
 obtain⟨news,hsrc,hrn⟩:=lW hU h2 hys
 obtain⟨hu,i,z,hi,hz,hsz,hby,hzl,hzr⟩:=fD hU
 subst hsz
 have ht:t<N:=htn t rfl
 unfold Gives
 have hold:(Builtin.firstCells i.size 0 (.slice none 0 0)).run P w.drew=.ok ([]:List Value).toArray w.drew:=rfl
 have hgrow:0<0+q:=by omega
 have hrun:=run_append_grow_src (P:=P) (w:=w) U U ty e i z hu hi hz none 0 0 _ hold (a.eval y) q news hsrc hgrow (by have:maxLen=9223372036854775807:=rfl;omega) (growslice_fits hgrow (by rw[hby,eC];exact hbytes))
 rw[eC] at hrun
 generalize hcap:grownCap w q 0 e=c' at hrun
 have hc1:q≤c':=by rw[←hcap];exact grownCap_ge _ _ _ _
 have hc2:c'≤maxLen:=by rw[←hcap];exact grownCap_le_maxLen _ _ _ _ h63
 have hexec:(execOp a.eval ⟨some t,.call ⟨.builtin .append,#[x,y],#[U,U]⟩,ty,pos,af,g⟩).run P w=.ok (.value (.slice (some ⟨w.heap.size,0,none⟩) q c'))
  (w.drew.alloc (.cells (([]++news).toArray++Builtin.zeroCells z.cells (c'-q)) e)):=by
  simp only[execOp,resolve,invoke,builtin,ed,fq,eb,p9,mR,p8,e1]
  rw[hrun]
  rfl
 rw[hexec]
 obtain⟨rest,hrl,hrz⟩:=JA hzl hzr (c'-q)
 have hrd:RdCs (fun b=>av b∨ ∃k,an k bx≠none∧β k=b) w.drew (([]++news).toArray++Builtin.zeroCells z.cells (c'-q)).toList (ys++rest):=by
  have h1:RdCs (fun b=>av b∨ ∃k,an k bx≠none∧β k=b) w.drew (news++(Builtin.zeroCells z.cells (c'-q)).toList) (ys++rest):=dm (RdCs.keep (Keep.below (bP _ w).drew) hrn) (hrz (fun b=>av b∨ ∃k,an k bx≠none∧β k=b) w.drew)
  grind
 have hbox:=hrel.drew.box (d:=t) ht hd (U:=e) (sl:=some c') hrd
 refine⟨⟨N,(t,.o t q c')::tm,(t,e,ys++rest)::bx⟩,fun l=>if l=t then w.drew.heap.size else β l,⟨c',_,hc1,hc2,hrl,rfl⟩,rfl,?_⟩
 have hval:=hbox.value (d:=some t) (x:=.o t q c') (v:=.slice (some ⟨w.heap.size,0,none⟩) q c') (by intro s hs;injection hs with hs;subst hs;exact ht) (bP _ _) (by show _=Value.slice (some ⟨if t=t then w.drew.heap.size else β t,0,none⟩) _ _;rw[if_pos rfl];rfl) (by intro l hl;injection hl with hl;subst hl;rw[if_pos rfl];simp)
 rw[yh] at hval
 refine hval.congr (fun s=>?_) (fun l=>?_)
 ·show an s ((t,DV.o t q c')::tm)=(if some t=some s then _ else if some t=some s then _ else an s tm)
  rw[aF]
  grind
 ·show an l ((t,e,ys++rest)::bx)=(if some t=some l then _ else an l bx)
  rw[aF]
  grind
variable {os:List Oper}{K:St→Prop}
theorem kD {c q:Nat}
 (hU:mx P U=some (e,m,by_,zs)) (hx:bH (fun s=>an s tm) x=some (.o k n c)) (hy:bH (fun s=>an s tm) y=some (.v (.c (.s q ys)))) (hb:an k bx=some (e,us++rest)) (hus:us.length=n*m) (hr:rest.length=(c-n)*m)
 (hys:ys.length=q*m) (hm:0<m) (hnc:n≤c) (hcm:c≤maxLen) (hbytes:(n+q)*by_≤140737488355328) (h63:n+q≤maxLen) (hd:t=k∨an t bx=none)
 (hg:gd ops ⟨some t,.call ⟨.builtin .append,#[x,y],#[U,U]⟩,ty,pos,af,g⟩ (fun s=>an s tm)=some true)
 (hk: ∀c' rest',n+q≤c'→c'≤maxLen→rest'.length=(c'-(n+q))*m→dl P ops os ⟨N,(t,.o t (n+q) c')::eY k tm,(t,e,us++ys++rest')::eo k bx⟩ K):
 dl P ops (⟨some t,.call ⟨.builtin .append,#[x,y],#[U,U]⟩,ty,pos,af,g⟩::os) ⟨N,tm,bx⟩ K:=
 .inr ⟨_,tY (pre:=us) hU hx hy hb (by rw[bN,hus,hr,←gP];congr 1;omega) hys hm hnc hcm hbytes h63 (by rw[←hus];simp) hd hg,fun σ' ⟨c',rest',h1,h2,h3,e⟩=>by subst e;exact hk c' rest' h1 h2 h3⟩
theorem gN {q:Nat}
 (hU:mx P U=some (e,m,by_,zs)) (hx:bH (fun s=>an s tm) x=some .z) (hy:bH (fun s=>an s tm) y=some (.v (.c (.s q ys)))) (hys:ys.length=q*m) (hq:0<q)
 (hbytes:q*by_≤140737488355328) (h63:q≤maxLen) (hd:an t bx=none)
 (hg:gd ops ⟨some t,.call ⟨.builtin .append,#[x,y],#[U,U]⟩,ty,pos,af,g⟩ (fun s=>an s tm)=some true)
 (hk: ∀c' rest',q≤c'→c'≤maxLen→rest'.length=(c'-q)*m→dl P ops os ⟨N,(t,.o t q c')::tm,(t,e,ys++rest')::bx⟩ K):
 dl P ops (⟨some t,.call ⟨.builtin .append,#[x,y],#[U,U]⟩,ty,pos,af,g⟩::os) ⟨N,tm,bx⟩ K:=
 .inr ⟨_,yZ hU hx hy hys hq hbytes h63 hd hg,fun σ' ⟨c',rest',h1,h2,h3,e⟩=>by subst e;exact hk c' rest' h1 h2 h3⟩
theorem cg {T:TF}{B:BF}{dst:Option Nat}
 (hg:gd ops ⟨dst,.assign (.const (.slice none 0 0)),ty,pos,af,g⟩ T=some true):Sem P ops ⟨dst,.assign (.const (.slice none 0 0)),ty,pos,af,g⟩ T B (.r .z):=
 bp hg (fun k e=>by cases e) (fun V β a w hs=>⟨.slice none 0 0,rfl,rfl⟩)
theorem mH {c:Code}(ht:an t tm=some .z) (h:Dw P c ⟨N,(t,.v (.c (.s 0 [])))::tm,bx⟩ Q):Dw P c ⟨N,tm,bx⟩ Q:=fun av w0 β a w hr=>by
 obtain⟨v,hv,hx⟩:=hr.sees.tmp t _ trivial ht
 have hx:v=.slice none 0 0:=hx
 subst hx
 have h2:=hr.upd (t:=t) (x:=.v (.c (.s 0 []))) hv (.s0 _ _ (by decide)) rfl
 refine h av w0 β a w (h2.congr (fun s=>?_) (fun _=>rfl))
 show an s ((t,.v (.c (.s 0 [])))::tm)=_
 rw[aF];rfl
theorem j7 {ι:Type}{c:Code}{σ:St}(I:ι→St) (μ:ι→Nat) (M:Nat)
 (first:Dw P c σ (xK (fun σ'=> ∃j,Sub σ' (I j)∧μ j<M) Q)) (round: ∀i,Dw P c (I i) (xK (fun σ'=> ∃j,Sub σ' (I j)∧μ j<μ i) Q)):Dw P (.loop c) σ Q:=fun av w0 β a w hr=>by
 refine aY (ι:=Option ι) (fun i=>match i with|none=>σ|some i=>I i) (fun i=>match i with|none=>M|some i=>μ i) none ⟨rfl,fun _ _ h=>h,fun _ _ h=>h,hr.wf⟩ (fun i=>?_) av w0 β a w hr
 cases i with
 |none=>
  refine first.mono fun e σ' h=>?_
  cases e with
  |normal=>obtain⟨j,h1,h2⟩:=h;exact⟨some j,h1,h2⟩
  |_=>exact h
 |some i=>
  refine(round i).mono fun e σ' h=>?_
  cases e with
  |normal=>obtain⟨j,h1,h2⟩:=h;exact⟨some j,h1,h2⟩
  |_=>exact h
theorem ia {c:Nat}(h:us.length=n*m) (hr:rest.length=(c-n)*m) (hn:n≤c):(us++rest).length=c*m:=by
 rw[bN,h,hr,←gP];congr 1;omega
theorem eg (h:us.length=n*m):(us++rest).take (n*m)=us:=by rw[←h];simp
theorem go (h:n≤1000000):n≤maxLen:=iz h (by decide)
end
inductive Wk:List CellD→List CellD→Prop
 |nil:Wk [] []
 |same {us us':List CellD}(u:CellD):Wk us us'→Wk (u::us) (u::us')
 |any {us us':List CellD}(u:CellD):Wk us us'→Wk (u::us) (.x::us')
theorem Wk.refl: ∀us:List CellD,Wk us us
 |[]=>.nil
 |u::us=>.same u (Wk.refl us)
theorem Wk.app {a b b':List CellD}(h:Wk a a') (g:Wk b b'):Wk (a++b) (a'++b'):=by
 induction h with
 |nil=>exact g
 |same u _ ih=>exact .same u ih
 |any u _ ih=>exact .any u ih
theorem Wk.len {a:List CellD}(h:Wk a a'):a.length=a'.length:=by
 induction h with
 |nil=>rfl
 |same u _ ih=>simp[ih]
 |any u _ ih=>simp[ih]
section
variable {av:Nat→Prop}{w:World}
theorem RdCs.wk (hw:Wk us us'): ∀ {vs:List Value},RdCs av w vs us→RdCs av w vs us':=by
 induction hw with
 |nil=>exact fun h=>h
 |same u _ ih=>
  intro vs h
  cases vs with
  |nil=>exact absurd h.1 (by simp)
  |cons v vs=>exact j5 h.uncons.1 (ih h.uncons.2)
 |any u _ ih=>
  intro vs h
  cases vs with
  |nil=>exact absurd h.1 (by simp)
  |cons v vs=>exact j5 (.x v h.uncons.1.one.1 h.uncons.1.one.2) (ih h.uncons.2)
theorem RdC.wks {v:Value}(hw:Wk us us') (h:RdC av w v (.s n us)):RdC av w v (.s n us'):=by
 cases h with
 |s0 A c hc=>cases hw;exact .s0 A c hc
 |s b off c sz n xs cv h0 h1 h2 h3 h4 h5 h6 h7=>
  refine .s b off c sz n us' cv h0 h1 h2 (hw.len▸h3) h4 h5 h6 fun j u hu=>?_
  have hj:j<us.length:=by rw[hw.len];exact(gF.1 hu).1
  have key:RdCs av w ((List.range us.length).map cv) us':=RdCs.wk hw ⟨by simp,fun i v u hv hu=>by
   simp only[oG] at hv
   have hi:i<us.length:=(gF.1 hu).1
   rw[List.getElem?_range hi] at hv
   cases hv
   exact h7 i u hu⟩
  exact key.2 j (cv j) u (by simp only[oG];rw[List.getElem?_range hj];rfl) hu
end
section
variable {P:Program}{f:FuncId}{ds:List D0}{us us':List CellD}
theorem Ok.wks (h:Ok P f ds [.c (.s n us)]) (hw:Wk us us'):Ok P f ds [.c (.s n us')]:=⟨h.cal,fun av vs w hav hr=>(h.run av vs w hav hr).mono fun _e _w' ⟨v,he,hv,hb⟩=>⟨v,he,RdC.wks hw hv,hb⟩⟩
end
structure Pt where
 a1:Rat
 b1:Rat
 a2:Rat
 b2:Rat
 c:Rat
structure Ln where
 a:Rat
 b:Rat
 c:Rat
structure Ci where
 x:Rat
 y:Rat
 q:Rat
inductive Cv where
 |seg (l:Ln) (p q:Pt)
 |arc (k:Ci) (w:Bool) (p q:Pt)
def Ho:List CellD:=[.b false,.s 0 [],.b false,.s 0 []]
def kW:List CellD:=Ho++Ho++Ho
def SG:List CellD:=[.x,.x,.x,.x]
def pZ:List CellD:=SG++SG++SG
def al (p:Pt):List CellD:=cR p.a1++cR p.b1++cR p.a2++cR p.b2++cR p.c
def dZ (l:Ln):List CellD:=cR l.a++cR l.b++cR l.c
def cr (k:Ci):List CellD:=cR k.x++cR k.y++cR k.q
def ao:Cv→List CellD
 | .seg l p q=>[.b false]++dZ l++kW++[.b false]++al p++al q
 | .arc k w p q=>[.b true]++pZ++cr k++[.b w]++al p++al q
def Nj (z:List CellD):Cv→List CellD
 | .seg l p q=>[.b false]++dZ l++z++[.b false]++al p++al q
 | .arc k w p q=>[.b true]++z++cr k++[.b w]++al p++al q
theorem Sb (h:z.length=12):Wk z pZ:=by
 match z,h with
 |[a,b,c,d,e,f,g,h,i,j,k,l],_=>exact .any _ (.any _ (.any _ (.any _ (.any _ (.any _ (.any _ (.any _ (.any _ (.any _ (.any _ (.any _ .nil)))))))))))
theorem Ta (h:z.length=12) (k:Ci) (w:Bool) (p q:Pt):Wk (Nj z (.arc k w p q)) (ao (.arc k w p q)):=(((((Wk.refl _).app (Sb h)).app (Wk.refl _)).app (Wk.refl _)).app (Wk.refl _)).app (Wk.refl _)
theorem aD (p:Pt):(al p).length=20:=rfl
theorem ae (c:Cv):(ao c).length=66:=by cases c<;>rfl
section
variable {α:Type}
def aj (enc:α→List CellD):List α→List CellD
 |[]=>[]
 |x::l=>enc x++aj enc l
variable {enc:α→List CellD}{m:Nat}
theorem ai (h: ∀x,(enc x).length=m): ∀l:List α,(aj enc l).length=l.length*m
 |[]=>by simp[aj]
 |x::l=>by
  show(enc x++aj enc l).length=(l.length+1)*m
  rw[bN,h,ai h l,gP];omega
theorem ck: ∀l r:List α,aj enc (l++r)=aj enc l++aj enc r
 |[],r=>rfl
 |x::l,r=>by
  show enc x++aj enc (l++r)=enc x++aj enc l++aj enc r
  rw[ck l r,iP]
theorem dt (x:α):aj enc [x]=enc x:=lN _
theorem kV (h: ∀x,(enc x).length=m) (l:List α) (j:Nat):(aj enc l).drop (j*m)=aj enc (l.drop j):=by
 by_cases hj:j≤l.length
 ·have e:aj enc l=aj enc (l.take j)++aj enc (l.drop j):=by rw[←ck,vF]
  have hl:(aj enc (l.take j)).length=j*m:=by rw[ai h,cX,de hj]
  grind
 ·rw[mE (by rw[ai h];exact nf _ (by omega)),mE (by omega)];rfl
theorem nl (h: ∀x,(enc x).length=m) (l:List α) (j:Nat):(aj enc l).take (j*m)=aj enc (l.take j):=by
 by_cases hj:j≤l.length
 ·have e:aj enc l=aj enc (l.take j)++aj enc (l.drop j):=by rw[←ck,vF]
  have hl:(aj enc (l.take j)).length=j*m:=by rw[ai h,cX,de hj]
  grind
 ·rw[fp (by rw[ai h];exact nf _ (by omega)),fp (by omega)]
theorem aQ (h: ∀x,(enc x).length=m) {l:List α}{x:α}(hj:l[j]? =some x):(aj enc l).drop (j*m)=enc x++aj enc (l.drop (j+1)):=by
 obtain⟨h1,h2⟩:=gF.1 hj
 rw[kV h,kY h1,h2];rfl
theorem aK {l:List α}{d:α}(h:j<l.length):l[j]? =some (l.getD j d):=by grind
section
variable {P:Program}{ops:Array Oper}{T:TF}{B:BF}{dst:Option Nat}{x y:Operand}{ty U:TypeId}{pos:String}{af:Array Edge}{g:Option (Nat×Bool)}
theorem cU {kk:IntKind}{l:List α}(d:α) (h: ∀x,(enc x).length=m) (hj:j<l.length) (hU:nu P U=some m) (e:(bH T x,bH T y,gd ops ⟨dst,.indexAddr U x y,ty,pos,af,g⟩ T)=(some (.v (.c (.s l.length (aj enc l)))),some (.v (.c (.i kk (j:Int)))),some true)):
 Sem P ops ⟨dst,.indexAddr U x y,ty,pos,af,g⟩ T B (.r (.q (enc (l.getD j d)++aj enc (l.drop (j+1))))):=
 aC (j:=(j:Int)) hU (congrArg Prod.fst e) (congrArg (fun q=>q.2.1) e) (by omega) (ai h _) (aQ h (aK hj)) (congrArg (fun q=>q.2.2) e)
theorem i4 {a:α}(h: ∀x,(enc x).length=m) (hU:kM P U=some (true,m)) (e:(bH T x,gd ops ⟨dst,.load U x,ty,pos,af,g⟩ T)=(some (.q (enc a++r)),some true)):Sem P ops ⟨dst,.load U x,ty,pos,af,g⟩ T B (.r (.v (.a (enc a)))):=
 aJ hU (congrArg Prod.fst e) (by rw[←h a];exact tL) (h a) (congrArg Prod.snd e)
end
theorem oR {l:List α}{d:α}(h:j<l.length):l.take (j+1)=l.take j++[l.getD j d]:=by simp_all
theorem aE {l:List α}{d:α}(h:j<l.length):l.getD j d∈l:=by grind
end
def dPt:Pt:=⟨0,0,0,0,0⟩
def aH:Cv:=.seg ⟨0,0,0⟩ dPt dPt
def Cv.p:Cv→Pt
 | .seg _ p _=>p
 | .arc _ _ p _=>p
def Cv.q:Cv→Pt
 | .seg _ _ q=>q
 | .arc _ _ _ q=>q
def Cv.isArc:Cv→Bool
 | .seg ..=>false
 | .arc ..=>true
def Cv.cw:Cv→Bool
 | .seg ..=>false
 | .arc _ w _ _=>w
def Cv.ends:Cv→Pt→Pt→Cv
 | .seg l _ _,p,q=>.seg l p q
 | .arc k w _ _,p,q=>.arc k w p q
def Cv.rev:Cv→Cv
 | .seg l p q=>.seg l q p
 | .arc k w p q=>.arc k (!w) q p
def vA (l:Ln) (p:Pt):Rat:=l.a*p.a1+l.b*p.a2-l.c
def vB (l:Ln) (p:Pt):Rat:=l.a*p.b1+l.b*p.b2
def ph (l:Ln) (p:Pt):Int:=s3 (vA l p) (rB (vB l p) p.c) (rC (vB l p) p.c)
def PX (k:Ci) (p:Pt):Rat:=Ge (p.a1-k.x) (p.a2-k.y) p.b1 p.b2 p.c+ -k.q
def F6 (k:Ci) (p:Pt):Rat:=FO (p.a1-k.x) (p.a2-k.y) p.b1 p.b2
def sP (k:Ci) (p:Pt):Int:= -s3 (PX k p) (F6 k p) (zc (F6 k p) p.c)
def Cv.supp:Cv→Pt→Bool
 | .seg l _ _,p=>ph l p==0
 | .arc k _ _ _,p=>sP k p==0
def uJ (p:Pt) (v:Rat):Int:=cT (p.a1-v) p.b1 (zc p.b1 p.c)
def lZ (p:Pt) (v:Rat):Int:=cT (p.a2-v) p.b2 (zc p.b2 p.c)
def jn (k:Ci) (p:Pt):Bool:=decide (lZ p k.y>0)||(lZ p k.y==0&&decide (uJ p k.x>0))
def cx (p q:Pt):Int:=w8 p.a1 p.b1 p.c q.a1 q.b1 q.c
def cy (p q:Pt):Int:=w8 p.a2 p.b2 p.c q.a2 q.b2 q.c
def cP (p q:Pt):Int:=ns p.a1 p.b1 p.a2 p.b2 p.c q.a1 q.b1 q.a2 q.b2 q.c
def eh (k:Ci) (p q:Pt):Int:=if jn k p !=jn k q then(if jn k q then-1 else 1) else if jn k p then-cx p q else cx p q
def oO (k:Ci) (f p q:Pt):Int:=if decide (eh k p f<0) !=decide (eh k q f<0) then(if decide (eh k q f<0) then-1 else 1) else eh k p q
def Pt.flip (p:Pt):Pt:=⟨-p.a1,-p.b1,p.a2,p.b2,p.c⟩
def Ci.mir (k:Ci):Ci:=⟨-k.x,k.y,k.q⟩
def Cv.ord:Cv→Pt→Pt→Int
 | .seg _ f t,p,q=>if decide (cP f t>0) then-cP p q else cP p q
 | .arc k w f _,p,q=>if !w then oO k f p q else oO k.mir f.flip p.flip q.flip
def Cv.on (c:Cv) (p:Pt):Bool:=c.supp p&&decide (c.ord c.p p≤0)&&decide (c.ord p c.q≤0)
def kr (c:Cv) (x:Pt):List Pt→Nat
 |[]=>0
 |o::l=>if c.ord o x<0 then kr c x l+1 else 0
def d8 (c:Cv) (out:List Pt) (x:Pt):List Pt:=
 if kr c x out<out.length∧cP (out.getD (kr c x out) dPt) x=0 then out else out.take (kr c x out)++x::out.drop (kr c x out)
def bt (c:Cv) (l:List Pt):List Pt:=l.foldl (d8 c) []
def iQ (c:Cv):List Pt→List Cv
 |p::q::l=>c.ends p q::iQ c (q::l)
 |_=>[]
def dM (c:Cv) (l:List Pt):List Cv:=iQ c (bt c ([c.p,c.q]++l))
def qR (x y:Rat):Bool:=aM x y==0
def gJ:Cv→Cv→Bool
 | .seg l _ _,.seg m _ _=>qR (l.a*m.b) (l.b*m.a)&&qR (l.a*m.c) (l.c*m.a)&&qR (l.b*m.c) (l.c*m.b)
 | .arc k _ _ _,.arc d _ _ _=>qR k.x d.x&&qR k.y d.y&&qR k.q d.q
 |_,_=>false
def jI (a1 b1 a2 b2 c:Rat):Pt:=if j9 c then⟨a1+b1*rt c,0,a2+b2*rt c,0,0⟩ else⟨a1,b1,a2,b2,c⟩
def nH (l m:Ln):Rat:=l.a*m.b-m.a*l.b
def LT (l m:Ln):Rat:=l.c*m.b-m.c*l.b
def My (l m:Ln):Rat:=l.a*m.c-m.a*l.c
def iE (l m:Ln):List Pt:=if aM (nH l m) 0≠0 then[⟨LT l m/nH l m,0,My l m/nH l m,0,0⟩] else[]
def mL (l m:Ln):Int:=if aM (nH l m) 0≠0 then 0 else if aM (LT l m) 0=0∧aM (My l m) 0=0 then 10 else 0
def ig (l:Ln):Rat:=l.a*l.a+l.b*l.b
def oz (l:Ln) (x y:Rat):Rat:=l.a*x+l.b*y-l.c
def nC (l:Ln) (k:Ci):Rat:=ig l*k.q-oz l k.x k.y*oz l k.x k.y
def zS (l:Ln) (k:Ci):Rat:=k.x-oz l k.x k.y/ig l*l.a
def zO (l:Ln) (k:Ci):Rat:=k.y-oz l k.x k.y/ig l*l.b
def Kt (l:Ln) (k:Ci):Pt:=jI (zS l k) (-(l.b/ig l)) (zO l k) (-(-l.a/ig l)) (nC l k)
def Kv (l:Ln) (k:Ci):Pt:=jI (zS l k) (l.b/ig l) (zO l k) (-l.a/ig l) (nC l k)
def f8 (l:Ln) (k:Ci):List Pt:=
 if aM (nC l k) 0<0 then[] else if aM (nC l k) 0=0 then[⟨zS l k,0,zO l k,0,0⟩]
 else if cP (Kt l k) (Kv l k)>0 then[Kv l k,Kt l k] else[Kt l k,Kv l k]
def sO (k d:Ci):Bool:=qR k.x d.x&&qR k.y d.y
def J4 (k:Ci):Rat:=k.x*k.x+k.y*k.y-k.q
def KW (k d:Ci):Ln:=⟨2*(d.x-k.x),2*(d.y-k.y),J4 d-J4 k⟩
def mv (k d:Ci):List Pt:=if sO k d then[] else f8 (KW k d) k
def tC (k d:Ci):Int:=if sO k d then(if aM k.q d.q=0 then 10 else 0) else 0
def kv:Cv→Cv→List Pt
 | .arc k _ _ _,.arc d _ _ _=>mv k d
 | .arc k _ _ _,.seg l _ _=>f8 l k
 | .seg l _ _,.arc k _ _ _=>f8 l k
 | .seg l _ _,.seg m _ _=>iE l m
def Ae:Cv→Cv→Int
 | .arc k _ _ _,.arc d _ _ _=>tC k d
 | .seg l _ _,.seg m _ _=>mL l m
 |_,_=>0
theorem mS (c:Cv):(ao c)[0]? =some (.b c.isArc):=by cases c<;>rfl
theorem rW (c:Cv):(ao c)[25]? =some (.b c.cw):=by cases c<;>rfl
theorem gS (c:Cv):((ao c).drop 26).take 20=al c.p:=by cases c<;>rfl
theorem jD (c:Cv):((ao c).drop 46).take 20=al c.q:=by cases c<;>rfl
def Cv.qc:Cv→List CellD
 | .seg _ _ _=>Ho
 | .arc k _ _ _=>cR k.q
theorem yC (c:Cv):c.qc.length=4:=by cases c<;>rfl
theorem uI (c:Cv):((ao c).drop 21).take 4=c.qc:=by cases c<;>rfl
theorem kz (hz:zs.length=m) (hx:xs.length=m):oV (fun i=>some (i*m,m)) (List.replicate 1 zs).flatten [(0,.a xs)]=some xs:=by
 subst hz
 simp[oV,D0.cells,hx]
theorem bB (hx:xs.length=m):xs.length=1*m:=by omega
def Cv.setp:Cv→Pt→Cv
 | .seg l _ q,p=>.seg l p q
 | .arc k w _ q,p=>.arc k w p q
theorem xS (c:Cv) (p:Pt):(ao c).take 26++al p++(ao c).drop 46=ao (c.setp p):=by cases c<;>rfl
theorem xD (c:Cv) (p q:Pt):(ao (c.setp p)).take 46++al q++(ao (c.setp p)).drop 66=ao (c.ends p q):=by cases c<;>rfl
def cB (c d:Cv) (p:Pt):Bool:=c.on p&&d.on p
def aN (c d:Cv):List Pt:=if gJ c d then[c.p,c.q,d.p,d.q] else kv c d
def br (c d:Cv):List Pt:=bt c ((aN c d).filter (cB c d))
def fS (c d:Cv):Cv:=if (c.isArc&&d.isArc&&(c.cw !=d.cw))||(!c.isArc&&(cP c.p c.q !=cP d.p d.q)) then d.rev else d
def FE (d:Cv) (l:List Pt):Nat→Bool
 |0=>false
 |i+1=>FE d l i||decide (d.ord (l.getD i dPt) (l.getD (i+1) dPt)<0)
def vU (c d:Cv):Bool:=if gJ c d then FE (fS c d) (br c d) ((br c d).length-1) else false
section
variable {c d:Cv}
theorem Sp (h:c.isArc=false) (g:(cP c.p c.q !=cP d.p d.q)=true):fS c d=d.rev:=by unfold fS;rw[h,g];rfl
theorem SZ (h:c.isArc=false) (g:(cP c.p c.q !=cP d.p d.q)=false):fS c d=d:=by unfold fS;rw[h,g];rfl
theorem Sy (h:c.isArc=true) (g:d.isArc=false):fS c d=d:=by unfold fS;rw[h,g];rfl
theorem SI (h:c.isArc=true) (g:d.isArc=true) (e:(!(c.cw==d.cw))=true):fS c d=d.rev:=by unfold fS;rw[h,g,show(c.cw !=d.cw)=true from e];rfl
theorem SM (h:c.isArc=true) (g:d.isArc=true) (e:(!(c.cw==d.cw))=false):fS c d=d:=by unfold fS;rw[h,g,show(c.cw !=d.cw)=false from e];rfl
end
structure GP (p:Pt):Prop where
 a1:Rz 113 p.a1
 b1:Rz 21 p.b1
 a2:Rz 113 p.a2
 b2:Rz 21 p.b2
 c:Rz 78 p.c
 ir:p.c≠0→Rz 52 p.a1∧Rz 52 p.a2
 v:tq p.b1 p.b2 p.c=true
structure GB (p:Pt):Prop where
 a1:Rz 40000 p.a1
 b1:Rz 40000 p.b1
 a2:Rz 40000 p.a2
 b2:Rz 40000 p.b2
 c:Rz 40000 p.c
 v:tq p.b1 p.b2 p.c=true
theorem GP.gb {p:Pt}(h:GP p):GB p:=⟨h.a1.mono (by decide),h.b1.mono (by decide),h.a2.mono (by decide),h.b2.mono (by decide),h.c.mono (by decide),h.v⟩
structure GL (l:Ln):Prop where
 a:Rz 4 l.a
 b:Rz 4 l.b
 c:Rz 17 l.c
 n:ig l≠0
structure GK (k:Ci):Prop where
 x:Rz 1 k.x
 y:Rz 1 k.y
 q:Rz 2 k.q
def Cv.good:Cv→Prop
 | .seg l p q=>GL l∧GP p∧GP q
 | .arc k _ p q=>GK k∧GP p∧GP q
end Go.Proofs.YtkfgimjmgfoneaaGreatDoor
