/-The open parts:the reference. -/
import Derived.Test.YtegpmhlfjkhjmaaGreatYgX
namespace Go.Proofs.YtegpmhlfjkhjmaaGreat
open Go Go.RowKit
variable {j n:Int}{b k:Nat}{U ty:TypeId}
theorem Qf (n0: -128≤n) (n1:n≤127):Ok Tryz.prog 16 [.c (.i .i8 n)] [dR (Rat.divInt n 16)]:=by
 refine bW Tryz.func16 rfl<|ar (bv (r:=n) Ye tW rfl (ii (by omega) (by omega)) rfl) ?_
 refine ac rfl (Pv (by omega) (by omega) (by omega) (by omega) (by omega)) ?_
 exact ah (aQ aX rfl aa)
theorem abb {k:Ci}{L:List Ci}{G:List Cv}{al:Bool}{x:Rat}(hx:Rz 3 x) (vG: ∀c∈G,CvV c) (lG:G.length≤100) (hP:Ok Tryz.prog 9 [.a (bo k),.c (.s L.length (aJ bo L))] [.c (.s ((G).length) (aJ aG (G))),.c (.b al)]):Ok Tryz.prog 15 [.a (bo k),.c (.s L.length (aJ bo L)),dR x] [.c (.b (CG al x G))]:=by
 refine bW Tryz.func15 rfl ?_
 refine ac rfl (hP) ?_
 refine jC (bq rfl) (fun c1 hb1=>?_)
 cases c1
 ·have n0:al=false:=hb1
  refine ac rfl (AX (hx.m_)) ?_
  refine df rfl (fun hc2=>?_) (fun hc2=>?_)
  ·have n1:mQ x=false:=by simpa using hc2
   refine ah ?_
   rw[PZ (show(al|| !mQ x)=true from by rw[n1];simp)]
   exact ak aa
  ·have n1:mQ x=true:=by simpa using hc2
   refine DW.mk<|bF (ι:={n:Nat // n≤G.length∧ ∀i,i<n→wg x (G.getD i bL)=false}) (fun i=>⟨44,[(5,.p 5 0),(25,.v (.c (.s ((G).length) (aJ aG (G))))),(26,.v (.c (.i .i64 (G.length:Int)))),(27,.v (.c (.i .i64 (i.1:Int))))],[(5,38,cR x)]⟩) (fun i=>G.length-i.1) ⟨0,ju _,fun i hi=>absurd hi (Nat.not_lt_zero i)⟩ (aA ⟨rfl,rfl,rfl,rfl,trivial⟩ ⟨rfl,trivial⟩ rfl) ?_
   rintro⟨n,h2,h3⟩
   replace h2:n≤G.length:=h2
   replace h3: ∀i,i<n→wg x (G.getD i bL)=false:=h3
   dsimp only
   refine nZ ?_
   refine df rfl (fun hc3=>?_) (fun hc3=>?_)
   ·have g1:n<G.length:=by have:=of_decide_eq_true hc3;omega
    have vc:=vG _ (bJ (d:=bL) g1)
    refine ar (tX bL aj g1 lB rfl)<|ar (qh aj bT rfl)<|nM (du bT rfl rfl rfl (aj _) rfl rfl) ?_
    refine ar (oG (aj _) bT rfl) ?_
    refine ac rfl (Zj vc.g hx) ?_
    refine jC (bq rfl) (fun c4 hb4=>?_)
    cases c4
    ·have n2:(RE (G.getD n bL) x !=0)=false:=hb4
     refine df rfl (fun hc5=>?_) (fun hc5=>?_)
     ·have n3:decide (SQ (G.getD n bL) x>0)=true:=hc5
      refine ah ?_
      rw[Ui g1 (show wg x (G.getD n bL)=true from by unfold wg;rw[n3];simp)]
      exact ak aa
     ·have n3:decide (SQ (G.getD n bL) x>0)=false:=hc5
      have n4:wg x (G.getD n bL)=false:=by unfold wg;rw[n2,n3];rfl
      refine ar (eu (by omega) rfl) ?_
      exact⟨⟨n+1,g1,fun i hi=>(kH i n).elim (h3 i) fun q=>(show i=n by omega)▸n4⟩,aA ⟨rfl,rfl,rfl,rfl,trivial⟩ ⟨rfl,trivial⟩ rfl,by show G.length-(n+1)<G.length-n;omega⟩
    ·have n2:(RE (G.getD n bL) x !=0)=true:=hb4
     refine rx rfl<|ah ?_
     rw[Ui g1 (show wg x (G.getD n bL)=true from by unfold wg;rw[n2];rfl)]
     exact ak aa
   ·have hp:n=G.length:=by have:=of_decide_eq_false hc3;omega
    refine ah ?_
    rw[n0,YC n1 fun i hi=>h3 i (hp▸hi)]
    exact ak aa
 ·refine rx rfl<|ah ?_
  rw[PZ (show(al|| !mQ x)=true from by rw[hb1];rfl)]
  exact ak aa
def po (d r:Int):Ci:=⟨((d:Int):Rat),((0:Int):Rat),((r*r:Int):Rat)⟩
section
variable {d r R:Int}(d0:1≤d) (d1:d≤256) (r0:1≤r) (r1:r≤256) (R0:1≤R) (R1:R≤256)
theorem agS (h0:0≤n) (h1:n≤65536) (hb:17≤b):Bz b ((n:Int):Rat):=by
 have e:(2:Nat)^17≤2^b:=Cm (by decide) hb
 exact⟨by show n.natAbs<2^b;omega,by show 1<2^b;omega⟩
theorem MF (h0:0≤n) (h1:n≤100000) (hk:1≤k):Rz k ((n:Int):Rat):=(dm (qP (by omega) (by omega)) (by decide)).mono hk
theorem agH {a b e:Int}(a0:1≤a) (a1:a≤256) (b0:1≤b) (b1:b≤256) (e0:1≤e) (e1:e≤256):Rz 60 (CA ((a:Int):Rat) ((b:Int):Rat) ((e:Int):Rat)):=by
 have n: ∀n:Int,1≤n→n≤256→Rz 1 ((n:Int):Rat):=fun n h h'=>MF (by omega) (by omega) (by decide)
 have p: ∀n:Int,1≤n→0<(n:Rat):=fun n hn=>iv.2 (show(0:Int)<n by omega)
 have A:=n a a0 a1
 have B:=n b b0 b1
 have E:=n e e0 e1
 have T:Rz 1 ((2:Int):Rat):=n 2 (by decide) (by decide)
 unfold CA
 exact(Rz.div (((A.mul A).sub (E.mul E)).sub (B.mul B)) (T.mul (E.mul B)) (by have:=cY (p e e0) (p b b0);rw[show((2:Int):Rat)=2 from rfl];grind)).mono (by decide)
include d0 d1 r0 r1 R0 R1
theorem TO:One (po d r) (po 0 R) (d:Rat) (r:Rat) (R:Rat):=by
 have p: ∀n:Int,1≤n→0<(n:Rat):=fun n hn=>by
  have:=iv.2 (show(0:Int)<n by omega)
  exact this
 have sq: ∀n:Int,1≤n→n≤256→0≤n*n∧n*n≤65536:=fun n h h'=>⟨Int.mul_nonneg (by omega) (by omega),xD (pu h' h' (by omega) (by decide)) (by decide)⟩
 have b16: ∀ {n:Int},0≤n→n≤256→Bz 16 ((n:Int):Rat):=fun{n} h h'=>⟨by show n.natAbs<2^16;omega,by show 1<2^16;decide⟩
 have m: ∀n:Int,((n*n:Int):Rat)=(n:Rat)*(n:Rat):=fun n=>fE n n
 refine⟨rfl,rfl,m r,rfl,rfl,m R,p d d0,p r r0,p R R0,⟨b16 (by omega) d1,b16 (by decide) (by decide),agS (sq r r0 r1).1 (sq r r0 r1).2 (by decide),?_⟩,⟨b16 (by decide) (by decide),b16 (by decide) (by decide),agS (sq R R0 R1).1 (sq R R0 R1).2 (by decide),?_⟩⟩
 ·show 0<((r*r:Int):Rat)
  rw[m];exact cY (p r r0) (p r r0)
 ·show 0<((R*R:Int):Rat)
  rw[m];exact cY (p R R0) (p R R0)
omit d0 d1 r0 r1 R0 R1 in
theorem Vp (h:(d:Rat)*d-r*r+R*R≤((d:Rat)-r)*(2*d)):d≥R+r∨r≥R+d:=by
 rcases Si h with g|g
 ·rw[←iE] at g;exact .inl (ef.1 g)
 ·rw[←iE] at g;exact .inr (ef.1 g)
theorem ZC (h:((d:Rat)+r)*(2*d)≤(d:Rat)*d-r*r+R*R): ¬d≥R+r∧ ¬r≥R+d:=by
 have g:=(TO d0 d1 r0 r1 R0 R1).inn h
 rw[←iE,←iE] at g
 exact⟨fun q=>g.1 (ef.2 q),fun q=>g.2 (ef.2 q)⟩
omit d0 d1 r0 r1 R0 R1 in
theorem Yj:rP (((d+r:Int)):Rat) ((0:Int):Rat)=rP ((d:Rat)+r) 0:=by rw[iE];rfl
end
theorem One.ptf {k D:Ci}{d r R:Rat}(o:One k D d r R):zf ((rP (d+r) 0).a1-k.x) ((rP (d+r) 0).a2-k.y) (rP (d+r) 0).b1 (rP (d+r) 0).b2 (rP (d+r) 0).c=k.q∧qC k (rP (d+r) 0)=0∧cP (rP (d+r) 0) (rP k.x k.y)≠0∧iC k.q=true:=by
 refine⟨?_,?_,?_,o.kq▸xE r⟩
 ·show zf (d+r-k.x) (0-k.y) 0 0 0=k.q
  unfold zf
  rw[o.kx,o.ky,o.kq];grind
 ·show Cc (d+r-k.x) (0-k.y) 0 0=0
  unfold Cc
  grind
 ·have h:cx (rP (d+r) 0) (rP k.x k.y)=1:=by
   rw[n8 kO kO,K8,K8,o.kx,←E5]
   have:=nH.2 (show d<d+r by have:=o.r0;grind)
   have:=dA (d+r) d
   omega
  rw[L3 (by omega),h];decide
def arB (P:Program) (U:TypeId):Option (Nat×Nat):=
 match P.underlying U with
 |some (.array n e)=>(P.info? e).map fun i=>(n,i.size)
 |_=>none
theorem gG {P:Program}{ops:Array Oper}{T:TF}{B:BF}{dst:Option Nat}{x i:Operand}{pos:String}{af:Array Edge}{g:Option (Nat×Bool)}{n m off:Nat}{kd:IntKind}
 (hU:arB P U=some (n,m)) (hx:cO T x=some (.p k off)) (hi:cO T i=some (.v (.c (.i kd j)))) (hj:0≤j∧j<n) (hg:gd ops ⟨dst,.indexAddr U x i,ty,pos,af,g⟩ T=some true):
 Sem P ops ⟨dst,.indexAddr U x i,ty,pos,af,g⟩ T B (.r (.p k (off+j.toNat*m))):=
 bG hg (fun l e=>m9 (ops:=ops) (o:=⟨dst,.indexAddr U x i,ty,pos,af,g⟩) (by simp[Op.operands]) hx e) (fun V β a w hs=>by
  have h1:a.eval x=.pointer (some ⟨β k,off,none⟩):=ap hs (x:=x) (by simp[Op.operands]) hx
  have h2:=fO (ap hs (x:=i) (by simp[Op.operands]) hi)
  unfold arB at hU
  split at hU
  case h_2=>cases hU
  rename_i n' el hul
  cases hinf:P.info? el with
  |none=>rw[hinf] at hU;cases hU
  |some inf=>
   rw[hinf] at hU
   simp at hU
   obtain⟨rfl,rfl⟩:=hU
   have hso: ∀w,(sizeOf el).run P w=.ok inf.size w:=fun w=>by unfold sizeOf typeInfo;simp[program,Sem.run,hinf]
   refine⟨.pointer (some ⟨β k,off+j.toNat*inf.size,none⟩),?_,rfl⟩
   simp[execOp,Instr.indexAt,h1,h2,asIntOf,run_underlying hul,Instr.sureAddr,hj.1,hj.2,hso,jB])
end Go.Proofs.YtegpmhlfjkhjmaaGreat
