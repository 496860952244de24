/-The types of this program,as the walks ask of them. -/
import Derived.Test.YtkmdgigkbhmilaaGreatNbV
import Derived.Test.YtkmdgigkbhmilaaGreatProg
namespace Go.Proofs.YtkmdgigkbhmilaaGreat
open Go Go.RowKit
theorem Sk:nv Tryz.prog 62=some (true,6):=by kernel_rfl
theorem OR:Tryz.prog.underlying 60=some (.int .u16):=by kernel_rfl
theorem xW {a b c:Rat}(ha:Rz 50 a) (hb:Rz 50 b) (hc:Rz 50 c) (h0: ¬c<0) (hs:go c=true):Ok Tryz.prog 64 [dR a,dR b,dR c] [.a ((cR (a+b*rt c)++cR 0++cR 0)),.c (.i .i64 0)]:=ol (ha.mono (by decide)) (hb.mono (by decide)) (hc.mono (by decide)) h0 hs
theorem yx {a b c:Rat}(ha:Rz 50 a) (hb:Rz 50 b) (hc:Rz 50 c) (h0: ¬c<0) (hs:go c=false):Ok Tryz.prog 64 [dR a,dR b,dR c] [.a ((cR a++cR (rB b c)++cR (rC b c))),.c (.i .i64 0)]:=oN (ha.mono (by decide)) (hb.mono (by decide)) (hc.mono (by decide)) h0 hs
theorem zV {a b c d:Rat}(ha:Rz 4000 a) (hb:Rz 4000 b) (hc:Rz 4000 c) (hd:Rz 4000 d):Ok Tryz.prog 84 [.a ((cR a++cR b++cR c)),dR d] [.c (.i .i64 (s3 (a+ -d) b c))]:=by
 have ka:Rz 60000 a:=ha.m_
 have kd:Rz 60000 (-d):=hd.neg.m_
 have m1:Rz 10000 (a+ -d):=(ha.add hd.neg).m_
 have m2:Rz 10000 b:=hb.m_
 have m3:Rz 10000 c:=hc.m_
 refine Ok.fn Tryz.func84 10 [.tmp 4] rfl<|aa<|ab<|ag<|aa<|aR 6 rfl rfl<|ap 2<|aj (am rfl (eK (aX hd)))<|aj (am rfl (iT (by assumption) (by assumption)))<|aj (am rfl (kj (by assumption) (by assumption) (by assumption)))<|bk<|az<|ar<|an ?_
 exact aq (aE ae)
theorem Rz.zcp {k:Nat}{b1 b2 c:Rat}(h:Rz k c) (hk:1≤k):Rz k (zcp b1 b2 c):=by
 unfold Go.Proofs.YtkmdgigkbhmilaaGreat.zcp
 split
 ·exact Rz.zero hk
 ·exact h
theorem Rz.cc {k:Nat}{b1 c1 c2:Rat}(h:Rz k c1) (h2:Rz k c2):Rz k (cc b1 c1 c2):=by
 unfold Go.Proofs.YtkmdgigkbhmilaaGreat.cc
 split
 ·exact h2
 ·exact h
theorem Lj {C:Int}(_h0:0≤C) (_hs:go (C:Rat)=true):rt (C:Rat)=Rat.divInt (bP C) 1:=by
 unfold rt
 rw[Rat.num_intCast,Rat.den_intCast]
 rw[show bP ((1:Nat):Int)=1 from pv (by decide) (by decide) (by decide) (by decide)]
theorem Hr {C:Int}(h0:0≤C) (h1:C≤65535):0≤bP C∧bP C≤255:=by
 have a:=ep C
 have b:=oe h0
 refine⟨a,?_⟩
 apply Classical.byContradiction
 intro hn
 have:256*256≤bP C*bP C:=Int.mul_le_mul (by omega) (by omega) (by decide) a
 omega
theorem EJ {A B n r:Int}(_hn:0<n):Rat.divInt A n+Rat.divInt B n*Rat.divInt r 1=Rat.divInt (A+B*r) n:=by
 rw[Rat.divInt_mul_divInt,Int.mul_one,Rat.divInt_eq_div,Rat.divInt_eq_div,Rat.divInt_eq_div,Rat.intCast_add]
 grind
theorem Rz.rC {k:Nat}{b c:Rat}(h:Rz k c) (hk:1≤k):Rz k (rC b c):=by
 unfold Go.Proofs.YtkmdgigkbhmilaaGreat.rC
 split
 ·exact Rz.zero hk
 ·exact h
theorem Vk {b c b2:Rat}: ¬G3 (rB b c) (rC b c) (rB b2 c) (rC b2 c):=by
 rintro⟨h1,h2,h3⟩
 unfold rB at h1 h2
 unfold rC at h3
 split at h1
 ·exact h1 rfl
 ·split at h2
  ·exact h2 rfl
  ·rename_i g1 g2;rw[if_neg g1,if_neg g2] at h3;exact h3 rfl
theorem Ov {A B A2 B2 C D:Int}(lA: -32768≤A) (uA:A≤32767) (lB: -32768≤B) (uB:B≤32767) (lA2: -32768≤A2) (uA2:A2≤32767) (lB2: -32768≤B2) (uB2:B2≤32767) (lC:0≤C) (uC:C≤65535) (lD:0≤D) (uD:D≤255) (hs:go ((C:Int):Rat)=true):Ok Tryz.prog 21 [.a (([.i .i16 A]++[.i .i16 B]++[.i .i16 A2]++[.i .i16 B2]++[.i .u16 C]++[.i .u8 D]))] [.a ((cR (Rat.divInt (A+B*bP C) (D+1))++cR 0++cR (Rat.divInt (A2+B2*bP C) (D+1))++cR 0++cR 0))]:=by
 have kA:Rz 50 (Rat.divInt A (D+1)):=Rz.of (Sz.small (by decide) (by omega) (by omega)) (Sz.small (by decide) (by omega) (by omega)) (by omega)
 have kB:Rz 50 (Rat.divInt B (D+1)):=Rz.of (Sz.small (by decide) (by omega) (by omega)) (Sz.small (by decide) (by omega) (by omega)) (by omega)
 have kA2:Rz 50 (Rat.divInt A2 (D+1)):=Rz.of (Sz.small (by decide) (by omega) (by omega)) (Sz.small (by decide) (by omega) (by omega)) (by omega)
 have kB2:Rz 50 (Rat.divInt B2 (D+1)):=Rz.of (Sz.small (by decide) (by omega) (by omega)) (Sz.small (by decide) (by omega) (by omega)) (by omega)
 have kC:Rz 50 ((C:Int):Rat):=Rz.int (Sz.small (by decide) (by omega) (by omega)) (by decide)
 have hnn: ¬((C:Int):Rat)<0:=Rat.not_lt.2 (Rat.intCast_nonneg.2 lC)
 have kC3:Rz 300 ((C:Int):Rat):=kC.m_
 have k0:Rz 300 (0:Rat):=Rz.zero (by decide)
 refine Ok.fn Tryz.func21 56 [.cell 2 46] rfl<|aa<|ab<|al 1<|aC (ai fO rfl) rfl<|ar<|aa<|ab<|al 2<|ah (bF (r:=D) Kg kZ rfl (iU (by omega) (by omega)) rfl) ?_
 refine ah (aK (r:=D+1) rfl rfl (aQ (by omega) (by omega)) rfl) ?_
 refine ag<|aa<|ab<|al 2<|ah (bF (r:=C) OR kZ rfl (iU (by omega) (by omega)) rfl) ?_
 refine ah (am rfl ((show Ok Tryz.prog 46 [.c (.i .i64 C)] [dR ((C:Int):Rat)] from mv (by omega) (by omega))))<|aC (ai bJ rfl) rfl<|ag<|aa<|bZ 18 [5,999999] aU (by kernel_rfl) rfl rfl<|ap 2<|aj (bF (r:=A) qK kZ rfl (iU (by omega) (by omega)) rfl) ?_
 refine ap 1<|aj (am rfl (jk (by omega) (by omega) (by omega) (by omega) (by omega)))<|ap 2<|aj (bF (r:=B) qK kZ rfl (iU (by omega) (by omega)) rfl) ?_
 refine ap 1<|aj (am rfl (jk (by omega) (by omega) (by omega) (by omega) (by omega)))<|ap 1<|aj (am rfl (jr (xW kA kB kC hnn hs) ((congrArg (fun q=>Rat.divInt A (D+1)+Rat.divInt B (D+1)*q) (Lj lC hs)).trans (EJ (by omega))) rfl rfl))<|ap 3<|ba (ai de rfl) rfl<|gz (fG dx rfl) rfl rfl rfl rfl<|bk<|bG<|ar<|aa<|bZ 18 [7,999999] aU (by kernel_rfl) rfl rfl<|ap 2<|aj (bF (r:=A2) qK kZ rfl (iU (by omega) (by omega)) rfl) ?_
 refine ap 1<|aj (am rfl (jk (by omega) (by omega) (by omega) (by omega) (by omega)))<|ap 2<|aj (bF (r:=B2) qK kZ rfl (iU (by omega) (by omega)) rfl) ?_
 refine ap 1<|aj (am rfl (jk (by omega) (by omega) (by omega) (by omega) (by omega)))<|ap 1<|aj (am rfl (jr (xW kA2 kB2 kC hnn hs) ((congrArg (fun q=>Rat.divInt A2 (D+1)+Rat.divInt B2 (D+1)*q) (Lj lC hs)).trans (EJ (by omega))) rfl rfl))<|ap 3<|ba (ai de rfl) rfl<|gz (fG dx rfl) rfl rfl rfl rfl<|bk<|bG<|ar<|aa<|ab<|al 2<|ah (am rfl (zg (tx k0 k0 (fun h=>h.1 rfl)) rfl rfl rfl rfl (xB rfl rfl))) ?_
 refine al 3<|aC (ai fO rfl) rfl<|ag<|aa<|ab<|ag<|an ?_
 exact aq (a7 bo rfl ae)
theorem OB {A B A2 B2 C D:Int}(lA: -32768≤A) (uA:A≤32767) (lB: -32768≤B) (uB:B≤32767) (lA2: -32768≤A2) (uA2:A2≤32767) (lB2: -32768≤B2) (uB2:B2≤32767) (lC:0≤C) (uC:C≤65535) (lD:0≤D) (uD:D≤255) (hs:go ((C:Int):Rat)=false):Ok Tryz.prog 21 [.a (([.i .i16 A]++[.i .i16 B]++[.i .i16 A2]++[.i .i16 B2]++[.i .u16 C]++[.i .u8 D]))] [.a ((cR (Rat.divInt A (D+1))++cR (rB (Rat.divInt B (D+1)) ((C:Int):Rat))++cR (Rat.divInt A2 (D+1))++cR (rB (Rat.divInt B2 (D+1)) ((C:Int):Rat))++cR (zcp (rB (Rat.divInt B (D+1)) ((C:Int):Rat)) (rB (Rat.divInt B2 (D+1)) ((C:Int):Rat)) (cc (rB (Rat.divInt B (D+1)) ((C:Int):Rat)) (rC (Rat.divInt B (D+1)) ((C:Int):Rat)) (rC (Rat.divInt B2 (D+1)) ((C:Int):Rat))))))]:=by
 have kA:Rz 50 (Rat.divInt A (D+1)):=Rz.of (Sz.small (by decide) (by omega) (by omega)) (Sz.small (by decide) (by omega) (by omega)) (by omega)
 have kB:Rz 50 (Rat.divInt B (D+1)):=Rz.of (Sz.small (by decide) (by omega) (by omega)) (Sz.small (by decide) (by omega) (by omega)) (by omega)
 have kA2:Rz 50 (Rat.divInt A2 (D+1)):=Rz.of (Sz.small (by decide) (by omega) (by omega)) (Sz.small (by decide) (by omega) (by omega)) (by omega)
 have kB2:Rz 50 (Rat.divInt B2 (D+1)):=Rz.of (Sz.small (by decide) (by omega) (by omega)) (Sz.small (by decide) (by omega) (by omega)) (by omega)
 have kC:Rz 50 ((C:Int):Rat):=Rz.int (Sz.small (by decide) (by omega) (by omega)) (by decide)
 have hnn: ¬((C:Int):Rat)<0:=Rat.not_lt.2 (Rat.intCast_nonneg.2 lC)
 have kC3:Rz 300 ((C:Int):Rat):=kC.m_
 have k0:Rz 300 (0:Rat):=Rz.zero (by decide)
 refine Ok.fn Tryz.func21 56 [.cell 2 46] rfl<|aa<|ab<|al 1<|aC (ai fO rfl) rfl<|ar<|aa<|ab<|al 2<|ah (bF (r:=D) Kg kZ rfl (iU (by omega) (by omega)) rfl) ?_
 refine ah (aK (r:=D+1) rfl rfl (aQ (by omega) (by omega)) rfl) ?_
 refine ag<|aa<|ab<|al 2<|ah (bF (r:=C) OR kZ rfl (iU (by omega) (by omega)) rfl) ?_
 refine ah (am rfl ((show Ok Tryz.prog 46 [.c (.i .i64 C)] [dR ((C:Int):Rat)] from mv (by omega) (by omega))))<|aC (ai bJ rfl) rfl<|ag<|aa<|bZ 18 [5,999999] aU (by kernel_rfl) rfl rfl<|ap 2<|aj (bF (r:=A) qK kZ rfl (iU (by omega) (by omega)) rfl) ?_
 refine ap 1<|aj (am rfl (jk (by omega) (by omega) (by omega) (by omega) (by omega)))<|ap 2<|aj (bF (r:=B) qK kZ rfl (iU (by omega) (by omega)) rfl) ?_
 refine ap 1<|aj (am rfl (jk (by omega) (by omega) (by omega) (by omega) (by omega)))<|ap 1<|aj (am rfl (yx kA kB kC hnn hs))<|ap 3<|ba (ai de rfl) rfl<|gz (fG dx rfl) rfl rfl rfl rfl<|bk<|bG<|ar<|aa<|bZ 18 [7,999999] aU (by kernel_rfl) rfl rfl<|ap 2<|aj (bF (r:=A2) qK kZ rfl (iU (by omega) (by omega)) rfl) ?_
 refine ap 1<|aj (am rfl (jk (by omega) (by omega) (by omega) (by omega) (by omega)))<|ap 2<|aj (bF (r:=B2) qK kZ rfl (iU (by omega) (by omega)) rfl) ?_
 refine ap 1<|aj (am rfl (jk (by omega) (by omega) (by omega) (by omega) (by omega)))<|ap 1<|aj (am rfl (yx kA2 kB2 kC hnn hs))<|ap 3<|ba (ai de rfl) rfl<|gz (fG dx rfl) rfl rfl rfl rfl<|bk<|bG<|ar<|aa<|ab<|al 2<|ah (am rfl (tx (Rz.rC kC3 (by decide)) (Rz.rC kC3 (by decide)) Vk)) ?_
 refine al 3<|aC (ai fO rfl) rfl<|ag<|aa<|ab<|ag<|an ?_
 exact aq (a7 bo rfl ae)
structure PlD where
 a:Int
 b:Int
 a2:Int
 b2:Int
 c:Int
 d:Int
structure PlD.Wf (p:PlD):Prop where
 a0: -32768≤p.a
 a1:p.a≤32767
 b0: -32768≤p.b
 b1:p.b≤32767
 e0: -32768≤p.a2
 e1:p.a2≤32767
 f0: -32768≤p.b2
 f1:p.b2≤32767
 c0:0≤p.c
 c1:p.c≤65535
 d0:0≤p.d
 d1:p.d≤255
def VR (p:PlD):List CellD:=[.i .i16 p.a]++[.i .i16 p.b]++[.i .i16 p.a2]++[.i .i16 p.b2]++[.i .u16 p.c]++[.i .u8 p.d]
theorem Rz.rB {k:Nat}{b c:Rat}(h:Rz k b) (hk:1≤k):Rz k (rB b c):=by
 unfold Go.Proofs.YtkmdgigkbhmilaaGreat.rB
 split
 ·exact Rz.zero hk
 ·exact h
theorem RL {b1 b2 C:Rat}(hC:0<C) (hs:go C=false):sI (rB b1 C) (rB b2 C) (zcp (rB b1 C) (rB b2 C) (cc (rB b1 C) (rC b1 C) (rC b2 C)))=true:=by
 have hn:C≠0:=fun e=>by rw[e] at hC;exact Rat.lt_irrefl hC
 have e: ∀b,rB b C=b:=fun b=>by
  unfold rB
  by_cases h:b=0
  ·rw[if_pos (.inl h),h]
  ·rw[if_neg (fun g=>g.elim h hn)]
 have e2: ∀b,b≠0→rC b C=C:=fun b h=>by unfold rC;rw[if_neg (fun g=>g.elim h hn)]
 rw[e,e]
 by_cases h1:b1=0
 ·rw[tk h1]
  by_cases h2:b2=0
  ·rw[xB h1 h2];unfold sI;rw[if_pos ⟨h1,h2⟩];exact decide_eq_true rfl
  ·rw[yN h2,e2 _ h2];unfold sI;rw[if_neg (fun g=>h2 g.2),hs,decide_eq_true hC];rfl
 ·rw[oS h1,DY h1,e2 _ h1];unfold sI;rw[if_neg (fun g=>h1 g.1),hs,decide_eq_true hC];rfl
theorem UR {p:PlD}(w:p.Wf): ∃q:Pt,GP q∧Ok Tryz.prog 21 [.a (VR p)] [.a (au q)]:=by
 obtain⟨w1,w2,w3,w4,w5,w6,w7,w8,c0,c1,w9,w10⟩:=w
 obtain⟨s0,s1⟩:=Hr c0 c1
 have rz: ∀x:Int,-100000000≤x→x≤100000000→Rz 1 (Rat.divInt x (p.d+1)):=fun x h h'=>Rz.of (Sz.one1 (by omega) (by omega)) (Sz.one1 (by omega) (by omega)) (by omega)
 have hm: ∀x:Int,-32768≤x→x≤32767→ -10000000≤x*bP p.c∧x*bP p.c≤10000000:=by
  intro x h h'
  have h1:x*bP p.c≤32767*255:=by
   rcases Int.lt_or_le x 0 with hx|hx
   ·have:=Int.mul_nonneg (show 0≤ -x by omega) s0
    have e: -x*bP p.c= -(x*bP p.c):=Int.neg_mul _ _
    omega
   ·exact Int.mul_le_mul (by omega) (by omega) s0 (by omega)
  have h2: -x*bP p.c≤32768*255:=by
   rcases Int.lt_or_le 0 x with hx|hx
   ·have:=Int.mul_nonneg (show 0≤x by omega) s0
    have e: -x*bP p.c= -(x*bP p.c):=Int.neg_mul _ _
    omega
   ·exact Int.mul_le_mul (by omega) (by omega) s0 (by omega)
  have e: -x*bP p.c= -(x*bP p.c):=Int.neg_mul _ _
  omega
 have ha:=hm p.b w3 w4
 have hb:=hm p.b2 w7 w8
 have rc:Rz 1 ((p.c:Int):Rat):=Rz.int (Sz.one1 (by omega) (by omega)) (by decide)
 have hnn:(0:Rat)≤((p.c:Int):Rat):=Rat.intCast_nonneg.2 c0
 cases hs:go ((p.c:Int):Rat) with
 |true=>
  have k1:=rz (p.a+p.b*bP p.c) (by omega) (by omega)
  have k2:=rz (p.a2+p.b2*bP p.c) (by omega) (by omega)
  exact⟨⟨Rat.divInt (p.a+p.b*bP p.c) (p.d+1),0,Rat.divInt (p.a2+p.b2*bP p.c) (p.d+1),0,0⟩,⟨k1.mono (by decide),Rz.zero (by decide),k2.mono (by decide),Rz.zero (by decide),Rz.zero (by decide),fun _=>⟨k1.mono (by decide),k2.mono (by decide)⟩,(by unfold sI;rw[if_pos ⟨rfl,rfl⟩];exact decide_eq_true rfl)⟩,Ov w1 w2 w3 w4 w5 w6 w7 w8 c0 c1 w9 w10 hs⟩
 |false=>
  have k1:=rz p.b (by omega) (by omega)
  have k2:=rz p.b2 (by omega) (by omega)
  have k3:=rz p.a (by omega) (by omega)
  have k4:=rz p.a2 (by omega) (by omega)
  have hC:0<((p.c:Int):Rat):=by
   by_cases h:((p.c:Int):Rat)=0
   ·rw[h,vN] at hs;cases hs
   ·exact Rat.lt_of_le_of_ne hnn (fun g=>h g.symm)
  exact⟨⟨Rat.divInt p.a (p.d+1),rB (Rat.divInt p.b (p.d+1)) ((p.c:Int):Rat),Rat.divInt p.a2 (p.d+1),rB (Rat.divInt p.b2 (p.d+1)) ((p.c:Int):Rat),_⟩,
   ⟨k3.mono (by decide),Rz.rB (k1.mono (by decide)) (by decide),k4.mono (by decide),Rz.rB (k2.mono (by decide)) (by decide),Rz.zcp (Rz.cc (Rz.rC (rc.mono (by decide)) (by decide)) (Rz.rC (rc.mono (by decide)) (by decide))) (by decide),fun _=>⟨k3.mono (by decide),k4.mono (by decide)⟩,RL hC hs⟩,OB w1 w2 w3 w4 w5 w6 w7 w8 c0 c1 w9 w10 hs⟩
end Go.Proofs.YtkmdgigkbhmilaaGreat
namespace Go.Proofs.YtkmdgigkbhmilaaGreat
open Go.ChangeShapes Go.WideShapes Go.ChangeAt Go.RowKit Go.Deep
section
variable {H:Type}{enc:TypeId×Value→H}{w:World}{base:Nat}{spare:Nat→Bool}{held:Bool}
set_option maxRecDepth 100000 in
theorem Ka {fuel:Nat}{cs:List Value}{x:DataW H×List MemPlace}(h:DataW.trod enc Tryz.prog w base spare held fuel 62 cs=some x): ∃p:PlD,p.Wf∧RdCs RN w cs (VR p):=by
 obtain⟨xs,n,_,_,hcl,hxl,hf⟩:=DataW.trod_struct (P:=Tryz.prog) Tryz.underlying62 h
 have hcl:cs.length=6:=hcl.trans (by kernel_rfl)
 have hxl:xs.length=6:=hxl.trans (by kernel_rfl)
 match cs,hcl with
 |[c0,c1,c2,c3,c4,c5],_=>
  have h0:DataW.trod enc Tryz.prog w base spare held n 27 [c0]=xs[0]? :=hf 0 _ rfl
  have h1:DataW.trod enc Tryz.prog w base spare held n 27 [c1]=xs[1]? :=hf 1 _ rfl
  have h2:DataW.trod enc Tryz.prog w base spare held n 27 [c2]=xs[2]? :=hf 2 _ rfl
  have h3:DataW.trod enc Tryz.prog w base spare held n 27 [c3]=xs[3]? :=hf 3 _ rfl
  have h4:DataW.trod enc Tryz.prog w base spare held n 60 [c4]=xs[4]? :=hf 4 _ rfl
  have h5:DataW.trod enc Tryz.prog w base spare held n 5 [c5]=xs[5]? :=hf 5 _ rfl
  rw[List.getElem?_eq_getElem (by omega)] at h0 h1 h2 h3 h4 h5
  obtain⟨y0,e0,_,b0⟩:=DataW.trod_int (P:=Tryz.prog) Tryz.underlying27 h0
  obtain⟨y1,e1,_,b1⟩:=DataW.trod_int (P:=Tryz.prog) Tryz.underlying27 h1
  obtain⟨y2,e2,_,b2⟩:=DataW.trod_int (P:=Tryz.prog) Tryz.underlying27 h2
  obtain⟨y3,e3,_,b3⟩:=DataW.trod_int (P:=Tryz.prog) Tryz.underlying27 h3
  obtain⟨y4,e4,_,b4⟩:=DataW.trod_int (P:=Tryz.prog) Tryz.underlying60 h4
  obtain⟨y5,e5,_,b5⟩:=DataW.trod_int (P:=Tryz.prog) Tryz.underlying5 h5
  simp at e0 e1 e2 e3 e4 e5
  subst e0 e1 e2 e3 e4 e5
  simp[Lit.wf,IntKind.min,IntKind.max,IntKind.signed,IntKind.bits] at b0 b1 b2 b3 b4 b5
  exact⟨⟨y0,y1,y2,y3,y4,y5⟩,⟨by(dsimp only;omega),by(dsimp only;omega),by(dsimp only;omega),by(dsimp only;omega),by(dsimp only;omega),by(dsimp only;omega),by(dsimp only;omega),by(dsimp only;omega),by(dsimp only;omega),by(dsimp only;omega),by(dsimp only;omega),by(dsimp only;omega)⟩,
   RdCs.cons (.i _ _) (RdCs.cons (.i _ _) (RdCs.cons (.i _ _) (RdCs.cons (.i _ _) (RdCs.cons (.i _ _) (RdCs.cons (.i _ _) RdCs.nil)))))⟩
end
end Go.Proofs.YtkmdgigkbhmilaaGreat
namespace Go.Proofs.YtkmdgigkbhmilaaGreat
open Go.ChangeShapes Go.WideShapes Go.ChangeAt Go.RowKit
theorem Dg:Tryz.pinned.checked.prog.funcNamed Rows.monotoneAboveRow.func=some 4:=by kernel_rfl
theorem Ez:joinedFacts Tryz.pinned.checked.prog 4 Tryz.f4 Rows.monotoneAboveSpec Rows.monotoneAboveRow=true:=by kernel_rfl
end Go.Proofs.YtkmdgigkbhmilaaGreat
namespace Go.Proofs.YtkmdgigkbhmilaaGreat
open Go Go.RowKit
theorem OM {c:Cv}(hc:c.good) {p:Pt}(hp:GP p):Ok Tryz.prog 60 [.a (aB c),.a ((cR p.a1++cR p.b1++cR (zc p.b1 p.c)))] [.c (.b (c.over p))]:=by
 refine Ok.fn Tryz.func60 19 [.tmp 4] rfl<|aa<|ab<|ag<|aa<|aR 15 rfl rfl<|ap 1<|aj (aA (us:=au c.p) bo rfl rfl (dW _) rfl rfl) ?_
 refine aj (am rfl (i4))<|ap 1<|aj (am rfl (Tr (cn hc) hp))<|ap 1 ?_
 refine fb (bN rfl) (fun c1 hb1=>?_)
 cases c1
 ·refine bk<|az<|ar<|an ?_
  rw[show c.over p=false from by unfold Cv.over;rw[hb1];rfl]
  exact aq (aE ae)
 ·refine ap 2<|aj (aA (us:=au c.q) bo rfl rfl (dY _) rfl rfl) ?_
  refine aj (am rfl (i4))<|aj (am rfl (Tr hp (cH hc)))<|bk<|az<|ar<|an ?_
  rw[show c.over p=decide (cx p c.q≤0) from by unfold Cv.over;rw[hb1];rfl]
  exact aq (aE ae)
theorem SZ {l:Ln}{f t:Pt}(vc:CvV (Cv.seg l f t)) {p:Pt}(hp:GP p):Ok Tryz.prog 23 [.a (([.b false]++dV l++cS++[.b false]++au f++au t)),.a (au p)] [.c (.i .i64 (fB (Cv.seg l f t) p)),.c (.i .i64 (fD (Cv.seg l f t) p))]:=by
 have hl:=vc.g.1
 have hf:=vc.g.2.1
 have ht:=vc.g.2.2
 have hgd:((Cv.seg l f t)).good:=vc.g
 have b1:=EM l p
 have hpr:=ei b1 (dm l.b 0)
 refine Ok.fn Tryz.func23 60 [.tmp 4,.tmp 5] rfl<|aa<|ab<|ag<|aa<|aa<|aR 5 rfl rfl<|ap 2<|aj (am rfl (i4))<|aj (am rfl (OM (c:=Cv.seg l f t) vc.g hp))<|bk<|az<|ar ?_
 refine aw rfl (fun hc1=>?_) (fun hc1=>?_)
 ·refine aa<|ab<|ag<|an ?_
  have o1: ¬((Cv.seg l f t)).over p=true:=by simpa using hc1
  rw[show fB (Cv.seg l f t) p=0 from by unfold fB;rw[if_neg o1],show fD (Cv.seg l f t) p=1 from by unfold fD;rw[if_neg o1]]
  exact aq (aE (aE ae))
 ·refine ao<|aa<|aa<|ab<|al 1<|ah (am rfl (se hl hf ht))<|ar ?_
  refine aw rfl (fun hc2=>?_) (fun hc2=>?_)
  ·refine aa<|aa<|aR 7 rfl rfl<|ap 1<|aj (am rfl (lU))<|ap 1<|aj (cD (au t) bo rfl (by kernel_rfl))<|aj (am rfl (lU))<|aj (am rfl (UO hp ht))<|bk<|az<|ar ?_
   refine aw rfl (fun hc3=>?_) (fun hc3=>?_)
   ·refine aa<|ab<|ag<|an ?_
    have o1:((Cv.seg l f t)).over p=true:=by simpa using hc1
    have v1:((Cv.seg l f t)).vert=true:=hc2
    rw[show fB (Cv.seg l f t) p=1 from by unfold fB mI;rw[if_pos o1,if_pos v1];exact if_pos (of_decide_eq_true hc3),show fD (Cv.seg l f t) p=0 from by unfold fD;rw[if_pos o1]]
    exact aq (aE (aE ae))
   ·refine ao<|aa<|aa<|aR 7 rfl rfl<|ap 1<|aj (am rfl (lU))<|ap 1<|aj (cD (au f) bo rfl (by kernel_rfl))<|aj (am rfl (lU))<|aj (am rfl (UO hp hf))<|bk<|az<|ar ?_
    refine aw rfl (fun hc4=>?_) (fun hc4=>?_)
    ·refine aa<|ab<|ag<|an ?_
     have o1:((Cv.seg l f t)).over p=true:=by simpa using hc1
     have v1:((Cv.seg l f t)).vert=true:=hc2
     rw[show fB (Cv.seg l f t) p= -1 from by unfold fB mI;rw[if_pos o1,if_pos v1];exact(if_neg (of_decide_eq_false hc3)).trans (if_pos (of_decide_eq_true hc4)),show fD (Cv.seg l f t) p=0 from by unfold fD;rw[if_pos o1]]
     exact aq (aE (aE ae))
    ·refine ao<|aa<|ab<|ag<|an ?_
     have o1:((Cv.seg l f t)).over p=true:=by simpa using hc1
     have v1:((Cv.seg l f t)).vert=true:=hc2
     rw[show fB (Cv.seg l f t) p=0 from by unfold fB mI;rw[if_pos o1,if_pos v1];exact(if_neg (of_decide_eq_false hc3)).trans (if_neg (of_decide_eq_false hc4)),show fD (Cv.seg l f t) p=0 from by unfold fD;rw[if_pos o1]]
     exact aq (aE (aE ae))
  ·refine ao<|aa<|aa<|ab<|ag<|bg rfl<|aa<|aR 11 rfl rfl<|ap 1<|aj (cD (dV l) sZ rfl (by kernel_rfl))<|ap 1<|aj (am rfl (Jh hl hp))<|ap 2<|aj (cD (cR l.b) aD rfl (by kernel_rfl)) ?_
   refine aj (am rfl (db))<|aj (aK (r:=(d9 l p)*(aV l.b 0)) rfl rfl (dg (by omega) (by omega)) rfl) ?_
   refine bk<|az<|ar<|an ?_
   have o1:((Cv.seg l f t)).over p=true:=by simpa using hc1
   have v1: ¬((Cv.seg l f t)).vert=true:=by rw[hc2];decide
   rw[show fB (Cv.seg l f t) p=d9 l p*aV l.b 0 from by unfold fB mI;rw[if_pos o1,if_neg v1],show fD (Cv.seg l f t) p=0 from by unfold fD;rw[if_pos o1]]
   exact aq (aE (aE ae))
theorem TW {k:Ci}{w:Bool}{f t:Pt}(vc:CvV (Cv.arc k w f t)) {p:Pt}(hp:GP p):Ok Tryz.prog 23 [.a (([.b true]++cS++ca k++[.b w]++au f++au t)),.a (au p)] [.c (.i .i64 (fB (Cv.arc k w f t) p)),.c (.i .i64 (fD (Cv.arc k w f t) p))]:=by
 have hk:=vc.g.1
 have hf:=vc.g.2.1
 have ht:=vc.g.2.2
 have hgd:((Cv.arc k w f t)).good:=vc.g
 have b1:=zY k p
 refine Ok.fn Tryz.func23 60 [.tmp 4,.tmp 5] rfl<|aa<|ab<|ag<|aa<|aa<|aR 5 rfl rfl<|ap 2<|aj (am rfl (i4))<|aj (am rfl (OM (c:=Cv.arc k w f t) vc.g hp))<|bk<|az<|ar ?_
 refine aw rfl (fun hc1=>?_) (fun hc1=>?_)
 ·refine aa<|ab<|ag<|an ?_
  have o1: ¬((Cv.arc k w f t)).over p=true:=by simpa using hc1
  rw[show fB (Cv.arc k w f t) p=0 from by unfold fB;rw[if_neg o1],show fD (Cv.arc k w f t) p=1 from by unfold fD;rw[if_neg o1]]
  exact aq (aE (aE ae))
 ·refine ao<|aa<|aa<|ab<|al 1<|ah (am rfl ((show Ok _ _ _ [.c (.b false)] from qp hk hf ht)))<|ar<|aP rfl<|ao<|aa<|aa<|ab<|ag<|aP rfl ?_
  refine ao<|aa<|aR 7 rfl rfl<|ap 1<|aj (am rfl (lU))<|ap 2<|aj (cD (cR k.y) aD rfl (by kernel_rfl))<|aj (am rfl (i5 (c:=fT p k.y) (zV (hp.a2.m_) (hp.b2.m_) (Rz.zc (hp.c.m_) (by decide)) (hk.y.m_)) (by rw[show p.a2+ -k.y=p.a2-k.y from by grind];exact FG hp)))<|bk<|az<|ar<|aa<|ab<|al 1 ?_
  refine ah (cD (ca k) mJ rfl (by kernel_rfl))<|al 1<|ah (am rfl (OU hk hp))<|ag<|aa<|aa<|ab<|ag ?_
  refine aw rfl (fun hc2=>?_) (fun hc2=>?_)
  ·refine aa<|aa<|ab<|ag ?_
   refine aw rfl (fun hc3=>?_) (fun hc3=>?_)
   ·refine aa<|ab<|ag<|an ?_
    have o1:((Cv.arc k w f t)).over p=true:=by simpa using hc1
    rw[show fB (Cv.arc k w f t) p= -1 from by unfold fB mI;rw[if_pos o1,if_neg (show ¬((Cv.arc k w f t)).vert=true from Bool.false_ne_true)];exact(if_pos (show w=true from hc2)).trans (if_pos (of_decide_eq_true hc3)),show fD (Cv.arc k w f t) p=0 from by unfold fD;rw[if_pos o1]]
    exact aq (aE (aE ae))
   ·refine ao<|aa<|ab<|al 1<|ah (dD (r:= -iu k p) rfl (mN b1) rfl) ?_
    refine ag<|an ?_
    have o1:((Cv.arc k w f t)).over p=true:=by simpa using hc1
    rw[show fB (Cv.arc k w f t) p= -iu k p from by unfold fB mI;rw[if_pos o1,if_neg (show ¬((Cv.arc k w f t)).vert=true from Bool.false_ne_true)];exact(if_pos (show w=true from hc2)).trans (if_neg (of_decide_eq_false hc3)),show fD (Cv.arc k w f t) p=0 from by unfold fD;rw[if_pos o1]]
    exact aq (aE (aE ae))
  ·refine ao<|aa<|aa<|ab<|ag ?_
   refine aw rfl (fun hc4=>?_) (fun hc4=>?_)
   ·refine aa<|ab<|ag<|an ?_
    have o1:((Cv.arc k w f t)).over p=true:=by simpa using hc1
    rw[show fB (Cv.arc k w f t) p=1 from by unfold fB mI;rw[if_pos o1,if_neg (show ¬((Cv.arc k w f t)).vert=true from Bool.false_ne_true)];exact(if_neg (show ¬w=true from by rw[hc2];decide)).trans (if_pos (of_decide_eq_true hc4)),show fD (Cv.arc k w f t) p=0 from by unfold fD;rw[if_pos o1]]
    exact aq (aE (aE ae))
   ·refine ao<|aa<|ab<|ag<|an ?_
    have o1:((Cv.arc k w f t)).over p=true:=by simpa using hc1
    rw[show fB (Cv.arc k w f t) p=iu k p from by unfold fB mI;rw[if_pos o1,if_neg (show ¬((Cv.arc k w f t)).vert=true from Bool.false_ne_true)];exact(if_neg (show ¬w=true from by rw[hc2];decide)).trans (if_neg (of_decide_eq_false hc4)),show fD (Cv.arc k w f t) p=0 from by unfold fD;rw[if_pos o1]]
    exact aq (aE (aE ae))
theorem VD {c:Cv}(vc:CvV c) {p:Pt}(hp:GP p):Ok Tryz.prog 23 [.a (aB c),.a (au p)] [.c (.i .i64 (fB c p)),.c (.i .i64 (fD c p))]:=by
 cases c with
 |seg l f t=>exact SZ vc hp
 |arc k w f t=>exact TW vc hp
def lq (L:List Cv) (p:Pt) (n:Nat):List Pt:=p::(L.take n).flatMap fun c=>[c.p,c.q]
theorem Ch: ∀L:List Cv,(L.flatMap fun c=>[c.p,c.q]).length=2*L.length
 |[]=>rfl
 |c::L=>by rw[List.flatMap_cons,List.length_append,Ch L];show 2+2*L.length=2*(L.length+1);omega
theorem mh {L:List Cv}{p:Pt}{n:Nat}(h:n≤L.length):(lq L p n).length=1+2*n:=by
 unfold lq
 rw[List.length_cons,Ch,List.length_take,Nat.min_eq_left h];omega
theorem BE {L:List Cv}{p:Pt}{n:Nat}(h:n<L.length):aI au (lq L p n)++(au (L.getD n bn).p++au (L.getD n bn).q)=aI au (lq L p (n+1)):=by
 unfold lq
 rw[jN (d:=bn) h,List.flatMap_append]
 show _=aI au (p::((L.take n).flatMap (fun c=>[c.p,c.q])++[(L.getD n bn).p,(L.getD n bn).q]))
 rw[←List.cons_append,fA]
 exact congrArg (aI au _++ ·) (by show _=au _++(au _++[]);rw[List.append_nil])
theorem LI {L:List Cv}{p:Pt}(h:0<L.length):au p++(au (L.getD 0 bn).p++au (L.getD 0 bn).q)=aI au (lq L p 1):=by
 rw[←BE h]
 exact congrArg (· ++_) (iH (enc:=au) p).symm
theorem Qo {L:List Cv}{p:Pt}{n:Nat}(hp:GP p) (vL: ∀d∈L,CvV d): ∀q∈lq L p n,GP q:=fun q hq=>by
 unfold lq at hq
 rcases List.mem_cons.1 hq with rfl|hq
 ·exact hp
 ·obtain⟨c,hc,h⟩:=List.mem_flatMap.1 hq
  have vc:=vL c (List.mem_of_mem_take hc)
  simp only[List.mem_cons,List.not_mem_nil,or_false] at h
  rcases h with rfl|rfl
  ·exact cn vc.g
  ·exact cH vc.g
theorem PT {c:Cv}{p:Pt}(h:(fD c p==0)=true):c.over p=true:=by
 unfold fD at h
 cases g:c.over p with
 |true=>rfl
 |false=>rw[g] at h;exact absurd h (by decide)
theorem RM {c:Cv}(vc:CvV c) (hm:c.mono=true) {p:Pt}(hp:GP p) (ho:c.over p=true):(fB c p==0)=c.on p:=by
 have h:=LJ vc hm hp ho
 unfold fB
 rw[if_pos ho]
 cases g:c.on p with
 |true=>rw[h.2 g];rfl
 |false=>exact beq_eq_false_iff_ne.2 (fun e=>by rw[h.1 e] at g;cases g)
end Go.Proofs.YtkmdgigkbhmilaaGreat
