/-MonotoneCompare:the walk of the law. -/
import Derived.Test.YtkmdgigkbhmilaaGreatCnA
namespace Go.Proofs.YtkmdgigkbhmilaaGreat
open Go Go.RowKit
theorem DH {X Y:List CellD}(lX:X.length=17) (lY:Y.length=17) (hA:Ok Tryz.prog 10 [] [.c (.b true)]) {L:List Cv}(lL:L.length≤12) (vL: ∀d∈L,CvV d) (hC:Ok Tryz.prog 12 [.a X,.a Y] [.c (.s ((L).length) (aI aB (L)))]) (mL: ∀d∈L,d.mono=true):Ok Tryz.prog 6 [.a (X),.a (Y)] [.c (.b true)]:=by
 refine Ok.fn Tryz.func6 77 [.tmp 4] rfl<|aa<|ab<|ag<|aa<|aa<|ab<|ah (am rfl (hA))<|ag<|aP rfl<|ao<|aa<|ab<|ah (aA (us:=X) n8 rfl rfl (by rw[List.drop_zero];exact List.take_of_length_le (Nat.le_of_eq (lX))) (lX) rfl) ?_
 refine ah (aA (us:=Y) n8 rfl rfl (by rw[List.drop_zero];exact List.take_of_length_le (Nat.le_of_eq (lY))) (lY) rfl) ?_
 refine ah (am rfl (hC))<|ag<|aa<|aa<|ab<|ag<|aJ<|bD (ι:={n:Nat // n≤L.length}) (fun i=>⟨77,[(5,.v (.c (.s ((L).length) (aI aB (L))))),(18,.v (.c (.s ((L).length) (aI aB (L))))),(19,.v (.c (.i .i64 (L.length:Int)))),(20,.v (.c (.i .i64 (i.1:Int))))],[]⟩) (fun i=>L.length-i.1) ⟨0,Nat.zero_le _⟩ (aM ⟨rfl,rfl,rfl,rfl,trivial⟩ trivial rfl) ?_
 rintro⟨n,h2⟩
 replace h2:n≤L.length:=h2
 show Dw _ _ ⟨77,[(5,.v (.c (.s ((L).length) (aI aB (L))))),(18,.v (.c (.s ((L).length) (aI aB (L))))),(19,.v (.c (.i .i64 (L.length:Int)))),(20,.v (.c (.i .i64 (n:Int))))],[]⟩ _
 refine aa<|ab<|ag<|aa ?_
 refine aw rfl (fun hc1=>?_) (fun hc1=>?_)
 ·have g1:n<L.length:=by have:=of_decide_eq_true hc1;omega
  have vc:=vL _ (b8 (d:=bn) g1)
  have mc:=mL _ (b8 (d:=bn) g1)
  refine ao<|aa<|aJ<|aa<|ab<|ah (aW (us:=aB (L.getD n bn)++aI aB (L.drop (n+1))) eu rfl rfl (by omega) (aG ak _) (bz ak (bi g1)) rfl) ?_
  refine ah (bb (us:=aB (L.getD n bn)) bd rfl (df _ _) (ak _) rfl) ?_
  refine aC (ai eo rfl) rfl<|bL (aZ bd rfl rfl rfl (ak _) rfl rfl) ?_
  refine ar<|aa<|ab<|ag<|aJ<|bD (ι:={j:Nat // j≤L.length}) (fun i=>⟨77,[(5,.v (.c (.s ((L).length) (aI aB (L))))),(7,.p 7 0),(18,.v (.c (.s ((L).length) (aI aB (L))))),(19,.v (.c (.i .i64 (L.length:Int)))),(20,.v (.c (.i .i64 (n:Int)))),(24,.v (.c (.s ((L).length) (aI aB (L))))),(25,.v (.c (.i .i64 (L.length:Int)))),(26,.v (.c (.i .i64 (i.1:Int))))],[(7,48,aB (L.getD n bn))]⟩) (fun i=>L.length-i.1) ⟨0,Nat.zero_le _⟩ (aM ⟨rfl,rfl,rfl,rfl,rfl,rfl,rfl,rfl,trivial⟩ ⟨rfl,trivial⟩ rfl) ?_
  rintro⟨j,h3⟩
  replace h3:j≤L.length:=h3
  show Dw _ _ ⟨77,[(5,.v (.c (.s ((L).length) (aI aB (L))))),(7,.p 7 0),(18,.v (.c (.s ((L).length) (aI aB (L))))),(19,.v (.c (.i .i64 (L.length:Int)))),(20,.v (.c (.i .i64 (n:Int)))),(24,.v (.c (.s ((L).length) (aI aB (L))))),(25,.v (.c (.i .i64 (L.length:Int)))),(26,.v (.c (.i .i64 (j:Int))))],[(7,48,aB (L.getD n bn))]⟩ _
  refine aa<|ab<|ag<|aa ?_
  refine aw rfl (fun hc2=>?_) (fun hc2=>?_)
  ·have g2:j<L.length:=by have:=of_decide_eq_true hc2;omega
   have vd:=vL _ (b8 (d:=bn) g2)
   have md:=mL _ (b8 (d:=bn) g2)
   have b1:=Ot vc (L.getD j bn)
   refine ao<|aa<|aJ<|aa<|ab<|ah (aW (us:=aB (L.getD j bn)++aI aB (L.drop (j+1))) eu rfl rfl (by omega) (aG ak _) (bz ak (bi g2)) rfl) ?_
   refine ah (bb (us:=aB (L.getD j bn)) bd rfl (df _ _) (ak _) rfl) ?_
   refine aC (ai eo rfl) rfl<|bL (aZ bd rfl rfl rfl (ak _) rfl rfl) ?_
   refine ar<|aa<|ab<|ah (aA (us:=aB (L.getD n bn)) bd rfl rfl (by rw[List.drop_zero];exact List.take_of_length_le (Nat.le_of_eq (ak _))) (ak _) rfl) ?_
   refine ah (aA (us:=aB (L.getD j bn)) bd rfl rfl (by rw[List.drop_zero];exact List.take_of_length_le (Nat.le_of_eq (ak _))) (ak _) rfl) ?_
   refine ah (am rfl (Bv vc vd))<|ag<|aa<|aa<|ab<|al 1<|ah (aA (us:=aB (L.getD n bn)) bd rfl rfl (by rw[List.drop_zero];exact List.take_of_length_le (Nat.le_of_eq (ak _))) (ak _) rfl) ?_
   refine ah (aA (us:=aB (L.getD j bn)) bd rfl rfl (by rw[List.drop_zero];exact List.take_of_length_le (Nat.le_of_eq (ak _))) (ak _) rfl) ?_
   refine ah (am rfl (LY vc vd))<|ah (bQ (c:=false) (iP rfl) (by simp)) ?_
   refine al 1<|ah (aA (us:=aB (L.getD j bn)) bd rfl rfl (by rw[List.drop_zero];exact List.take_of_length_le (Nat.le_of_eq (ak _))) (ak _) rfl) ?_
   refine ah (aA (us:=aB (L.getD n bn)) bd rfl rfl (by rw[List.drop_zero];exact List.take_of_length_le (Nat.le_of_eq (ak _))) (ak _) rfl) ?_
   refine ah (am rfl (Bv vd vc))<|al 1<|ah (dD (r:= -dK (L.getD n bn) (L.getD j bn)) rfl (mN b1) rfl) ?_
   refine ah (bQ (c:=false) (iP rfl) (by rw[GF vc vd];simp)) ?_
   refine al 4<|ah (aA (us:=aB (L.getD n bn)) bd rfl rfl (by rw[List.drop_zero];exact List.take_of_length_le (Nat.le_of_eq (ak _))) (ak _) rfl) ?_
   refine ah (aA (us:=aB (L.getD j bn)) bd rfl rfl (by rw[List.drop_zero];exact List.take_of_length_le (Nat.le_of_eq (ak _))) (ak _) rfl) ?_
   refine ah (am rfl (S0 vc.g vd.g))<|ah (bQ (c:=false) (ff rfl rfl fp rfl) (by rw[Ms vc vd mc md];simp)) ?_
   refine ag<|aP rfl<|ao<|aa<|ab<|ag<|aJ<|bD (ι:={r:Nat // r≤L.length}) (fun i=>⟨77,[(5,.v (.c (.s ((L).length) (aI aB (L))))),(7,.p 7 0),(9,.p 9 0),(10,.v (.c (.i .i64 (dK (L.getD n bn) (L.getD j bn))))),(18,.v (.c (.s ((L).length) (aI aB (L))))),(19,.v (.c (.i .i64 (L.length:Int)))),(20,.v (.c (.i .i64 (n:Int)))),(24,.v (.c (.s ((L).length) (aI aB (L))))),(25,.v (.c (.i .i64 (L.length:Int)))),(26,.v (.c (.i .i64 (j:Int)))),(54,.v (.c (.s ((L).length) (aI aB (L))))),(55,.v (.c (.i .i64 (L.length:Int)))),(56,.v (.c (.i .i64 (i.1:Int))))],[(7,48,aB (L.getD n bn)),(9,48,aB (L.getD j bn))]⟩) (fun i=>L.length-i.1) ⟨0,Nat.zero_le _⟩ (aM ⟨rfl,rfl,rfl,rfl,rfl,rfl,rfl,rfl,rfl,rfl,rfl,rfl,rfl,trivial⟩ ⟨rfl,rfl,trivial⟩ rfl) ?_
   rintro⟨r,h4⟩
   replace h4:r≤L.length:=h4
   show Dw _ _ ⟨77,[(5,.v (.c (.s ((L).length) (aI aB (L))))),(7,.p 7 0),(9,.p 9 0),(10,.v (.c (.i .i64 (dK (L.getD n bn) (L.getD j bn))))),(18,.v (.c (.s ((L).length) (aI aB (L))))),(19,.v (.c (.i .i64 (L.length:Int)))),(20,.v (.c (.i .i64 (n:Int)))),(24,.v (.c (.s ((L).length) (aI aB (L))))),(25,.v (.c (.i .i64 (L.length:Int)))),(26,.v (.c (.i .i64 (j:Int)))),(54,.v (.c (.s ((L).length) (aI aB (L))))),(55,.v (.c (.i .i64 (L.length:Int)))),(56,.v (.c (.i .i64 (r:Int))))],[(7,48,aB (L.getD n bn)),(9,48,aB (L.getD j bn))]⟩ _
   refine aa<|ab<|ag<|aa ?_
   refine aw rfl (fun hc3=>?_) (fun hc3=>?_)
   ·have g3:r<L.length:=by have:=of_decide_eq_true hc3;omega
    have ve:=vL _ (b8 (d:=bn) g3)
    refine ao<|aa<|aJ<|aa<|ab<|ah (aW (us:=aB (L.getD r bn)++aI aB (L.drop (r+1))) eu rfl rfl (by omega) (aG ak _) (bz ak (bi g3)) rfl) ?_
    refine ah (bb (us:=aB (L.getD r bn)) bd rfl (df _ _) (ak _) rfl) ?_
    refine aC (ai eo rfl) rfl<|bL (aZ bd rfl rfl rfl (ak _) rfl rfl) ?_
    refine ar<|aa<|ab<|al 2 ?_
    refine cg (bN rfl) (fun c4 hb4=>?_)
    cases c4
    ·refine ag<|aP rfl<|ao<|ab<|ah (aK (r:=((r+1:Nat):Int)) rfl rfl ((aQ (by omega) (by omega)).trans (congrArg some (by omega))) rfl) ?_
     refine ag ?_
     exact⟨⟨r+1,g3⟩,aM ⟨rfl,rfl,rfl,rfl,rfl,rfl,rfl,rfl,rfl,rfl,rfl,rfl,rfl,trivial⟩ ⟨rfl,rfl,trivial⟩ rfl,by show L.length-(r+1)<L.length-r;omega⟩
    ·have q1:dK (L.getD n bn) (L.getD j bn)≤0:=of_decide_eq_true hb4
     refine ah (aA (us:=aB (L.getD j bn)) bd rfl rfl (by rw[List.drop_zero];exact List.take_of_length_le (Nat.le_of_eq (ak _))) (ak _) rfl) ?_
     refine ah (aA (us:=aB (L.getD r bn)) bd rfl rfl (by rw[List.drop_zero];exact List.take_of_length_le (Nat.le_of_eq (ak _))) (ak _) rfl) ?_
     refine ah (am rfl (Bv vd ve))<|al 2 ?_
     refine cg (bN rfl) (fun c5 hb5=>?_)
     cases c5
     ·refine ag<|aP rfl<|ao<|ab<|ah (aK (r:=((r+1:Nat):Int)) rfl rfl ((aQ (by omega) (by omega)).trans (congrArg some (by omega))) rfl) ?_
      refine ag ?_
      exact⟨⟨r+1,g3⟩,aM ⟨rfl,rfl,rfl,rfl,rfl,rfl,rfl,rfl,rfl,rfl,rfl,rfl,rfl,trivial⟩ ⟨rfl,rfl,trivial⟩ rfl,by show L.length-(r+1)<L.length-r;omega⟩
     ·have q2:dK (L.getD j bn) (L.getD r bn)≤0:=of_decide_eq_true hb5
      refine ah (aA (us:=aB (L.getD n bn)) bd rfl rfl (by rw[List.drop_zero];exact List.take_of_length_le (Nat.le_of_eq (ak _))) (ak _) rfl) ?_
      refine ah (aA (us:=aB (L.getD r bn)) bd rfl rfl (by rw[List.drop_zero];exact List.take_of_length_le (Nat.le_of_eq (ak _))) (ak _) rfl) ?_
      refine ah (am rfl (Bv vc ve))<|ah (bQ (c:=false) (iP rfl) (decide_eq_false (by have:=Nw vc vd ve q1 q2;omega))) ?_
      refine ag<|aP rfl<|ao<|ab<|ah (aK (r:=((r+1:Nat):Int)) rfl rfl ((aQ (by omega) (by omega)).trans (congrArg some (by omega))) rfl) ?_
      refine ag ?_
      exact⟨⟨r+1,g3⟩,aM ⟨rfl,rfl,rfl,rfl,rfl,rfl,rfl,rfl,rfl,rfl,rfl,rfl,rfl,trivial⟩ ⟨rfl,rfl,trivial⟩ rfl,by show L.length-(r+1)<L.length-r;omega⟩
   ·refine bj<|ab<|ah (aK (r:=((j+1:Nat):Int)) rfl rfl ((aQ (by omega) (by omega)).trans (congrArg some (by omega))) rfl) ?_
    refine ag ?_
    exact⟨⟨j+1,g2⟩,aM ⟨rfl,rfl,rfl,rfl,rfl,rfl,rfl,rfl,trivial⟩ ⟨rfl,trivial⟩ rfl,by show L.length-(j+1)<L.length-j;omega⟩
  ·refine bj<|ab<|ah (aK (r:=((n+1:Nat):Int)) rfl rfl ((aQ (by omega) (by omega)).trans (congrArg some (by omega))) rfl) ?_
   refine ag ?_
   exact⟨⟨n+1,g1⟩,aM ⟨rfl,rfl,rfl,rfl,trivial⟩ trivial rfl,by show L.length-(n+1)<L.length-n;omega⟩
 ·refine bj<|aa<|ab<|ag<|an ?_
  exact aq (aE ae)
end Go.Proofs.YtkmdgigkbhmilaaGreat
namespace Go.Proofs.YtkmdgigkbhmilaaGreat
open Go.ChangeShapes Go.WideShapes Go.ChangeAt Go.RowKit
theorem xr {K U A B C D E F K' U' A' B' C' D' E' F' N:Int}(w0:0≤K∧K≤255) (w1:0≤U∧U≤255) (w2: -128≤A∧A≤127) (w3: -128≤B∧B≤127) (w4: -128≤C∧C≤127) (w5: -128≤D∧D≤127) (w6: -128≤E∧E≤127) (w7: -128≤F∧F≤127) (w8:0≤K'∧K'≤255) (w9:0≤U'∧U'≤255) (w10: -128≤A'∧A'≤127) (w11: -128≤B'∧B'≤127) (w12: -128≤C'∧C'≤127) (w13: -128≤D'∧D'≤127) (w14: -128≤E'∧E'≤127) (w15: -128≤F'∧F'≤127) (w16:0≤N∧N≤255) {K2 U2 A2 B2 C2 D2 E2 F2 K'2 U'2 A'2 B'2 C'2 D'2 E'2 F'2 N2:Int}(v0:0≤K2∧K2≤255) (v1:0≤U2∧U2≤255) (v2: -128≤A2∧A2≤127) (v3: -128≤B2∧B2≤127) (v4: -128≤C2∧C2≤127) (v5: -128≤D2∧D2≤127) (v6: -128≤E2∧E2≤127) (v7: -128≤F2∧F2≤127) (v8:0≤K'2∧K'2≤255) (v9:0≤U'2∧U'2≤255) (v10: -128≤A'2∧A'2≤127) (v11: -128≤B'2∧B'2≤127) (v12: -128≤C'2∧C'2≤127) (v13: -128≤D'2∧D'2≤127) (v14: -128≤E'2∧E'2≤127) (v15: -128≤F'2∧F'2≤127) (v16:0≤N2∧N2≤255):Ok Tryz.prog 6 [.a (([.i .u8 K]++[.i .u8 U]++[.i .i8 A]++[.i .i8 B]++[.i .i8 C]++[.i .i8 D]++[.i .i8 E]++[.i .i8 F])++([.i .u8 K']++[.i .u8 U']++[.i .i8 A']++[.i .i8 B']++[.i .i8 C']++[.i .i8 D']++[.i .i8 E']++[.i .i8 F'])++[.i .u8 N]),.a (([.i .u8 K2]++[.i .u8 U2]++[.i .i8 A2]++[.i .i8 B2]++[.i .i8 C2]++[.i .i8 D2]++[.i .i8 E2]++[.i .i8 F2])++([.i .u8 K'2]++[.i .u8 U'2]++[.i .i8 A'2]++[.i .i8 B'2]++[.i .i8 C'2]++[.i .i8 D'2]++[.i .i8 E'2]++[.i .i8 F'2])++[.i .u8 N2])] [.c (.b true)]:=by
 obtain⟨L,vL,mL,lL,hC⟩:=zx rfl rfl (kr w0 w1 w2 w3 w4 w5 w6 w7 w8 w9 w10 w11 w12 w13 w14 w15 w16) (kr v0 v1 v2 v3 v4 v5 v6 v7 v8 v9 v10 v11 v12 v13 v14 v15 v16)
 exact DH rfl rfl kh lL vL hC mL
set_option maxRecDepth 100000 in
theorem sV (os:Os) (started:os.Started) (H:Type) (enc:TypeId×Value→H):
 ReturnsInHanded {} Tryz.checked os 6 .any (Rows.monotoneCompareSpec.pre6 enc Tryz.prog Tryz.f6 Rows.monotoneCompareRow.domain false) (Rows.monotoneCompareSpec.post enc Tryz.prog Tryz.f6 false true false false):=by
 refine returnsInHanded_of_change (C:=Tryz.checked) own started (by kernel_rfl) Tryz.func6
  (ChangeSpec.witness6 (enc:=enc) (C:=Tryz.checked) false ⟨#[],#[.agg #[.int .u8 0,.int .u8 0,.int .i8 0,.int .i8 0,.int .i8 0,.int .i8 0,.int .i8 0,.int .i8 0,.int .u8 0,.int .u8 0,.int .i8 0,.int .i8 0,.int .i8 0,.int .i8 0,.int .i8 0,.int .i8 0,.int .u8 0],.agg #[.int .u8 0,.int .u8 0,.int .i8 0,.int .i8 0,.int .i8 0,.int .i8 0,.int .i8 0,.int .i8 0,.int .u8 0,.int .u8 0,.int .i8 0,.int .i8 0,.int .i8 0,.int .i8 0,.int .i8 0,.int .i8 0,.int .u8 0]],[]⟩ 8 (by kernel_rfl) (by kernel_rfl) (by kernel_rfl) (by kernel_rfl)) ?_
 intro W base args ds gs before hval0 hW hcnd _
 have hval: ∀(j:Nat) t v,Tryz.f6.params[j]? =some t→args[j]? =some v→Value.okWide Tryz.prog W .any base t v:=hval0
 have hW':=hW
 obtain⟨p,q,hA0,hV,rfl,hfz,hnd⟩:=hW
 have hA:DataW.TrodAll enc Tryz.prog W 0 (fun _=>true) true Tryz.f6.params.toList args.toList ds p:=hA0
 rw[Tryz.params6] at hA hval
 obtain⟨v0,vs0,d0,ds0,p0,q0,hargs,rfl,rfl,h0,r0⟩:=trodAll_cons hA
 obtain⟨v1,vs1,d1,ds1,p1,q1,rfl,rfl,rfl,h1,r1⟩:=trodAll_cons r0
 obtain⟨rfl,rfl,rfl⟩:=trodAll_nil r1
 obtain rfl:args= #[v0,v1]:=by cases args;simp_all
 obtain⟨rfl,rfl⟩:=trodVars_none hV
 obtain⟨a0,rfl,_⟩:=okWide_struct Tryz.underlying26 (hval 0 26 v0 rfl rfl)
 have k0:=h0
 have lt0: ∀x∈p0,x.block<W.heap.size:=by obtain⟨m,hm⟩:=k0;exact DataW.trod_lt m _ _ _ hm
 obtain⟨a1,rfl,_⟩:=okWide_struct Tryz.underlying26 (hval 1 26 v1 rfl rfl)
 have k1:=h1
 have lt1: ∀x∈p1,x.block<W.heap.size:=by obtain⟨m,hm⟩:=k1;exact DataW.trod_lt m _ _ _ hm
 obtain⟨y00,y01,y02,y03,y04,y05,y06,y07,y08,y09,y010,y011,y012,y013,y014,y015,y016,g00,g01,g02,g03,g04,g05,g06,g07,g08,g09,g010,g011,g012,g013,g014,g015,g016,hr0⟩:=jc (show DataW.trod enc Tryz.prog W 0 _ _ h0.choose 26 a0.toList=some _ from h0.choose_spec)
 obtain⟨y10,y11,y12,y13,y14,y15,y16,y17,y18,y19,y110,y111,y112,y113,y114,y115,y116,g10,g11,g12,g13,g14,g15,g16,g17,g18,g19,g110,g111,g112,g113,g114,g115,g116,hr1⟩:=jc (show DataW.trod enc Tryz.prog W 0 _ _ h1.choose 26 a1.toList=some _ from h1.choose_spec)
 clear hA0 hval0
 refine(wF (xr g00 g01 g02 g03 g04 g05 g06 g07 g08 g09 g010 g011 g012 g013 g014 g015 g016 g10 g11 g12 g13 g14 g15 g16 g17 g18 g19 g110 g111 g112 g113 g114 g115 g116) (RdL.cons ⟨a0,rfl,hr0⟩ (RdL.cons ⟨a1,rfl,hr1⟩ RdL.nil))).mono fun e W' ⟨he,bel⟩=>?_
 subst he
 exact⟨_,rfl,_,_,_,[],_,[],hW',trodAll_mk1 (shut_bool Tryz.underlying4 _),(trodAll_cons_mk (Below.trod jq (by kernel_rfl) (of_decide_eq_true (by kernel_rfl)) k0 bel lt0) (trodAll_cons_mk (Below.trod jq (by kernel_rfl) (of_decide_eq_true (by kernel_rfl)) k1 bel lt1) trodAll_mk0)),rfl,bel.frame _,fun h=>by cases h⟩
theorem compare11_proved:Rows.MonotoneCompareSaid:=
 OpenClaim.holds_of_wide 6 Tryz.f6 rfl rfl rfl rfl rfl rfl rfl ⟨rfl,rfl,rfl,rfl,rfl⟩ rfl rfl rfl rfl rfl zm Tryz.func6 Az
  (of_decide_eq_true (by kernel_rfl)) (by unfold Func.isWrapper;first|(rw[if_pos (by decide+kernel)];kernel_rfl)|(rw[if_neg (by decide+kernel)];exact⟨rfl,rfl⟩))
  (fun os started H enc _=>sV os started H enc)
end Go.Proofs.YtkmdgigkbhmilaaGreat
