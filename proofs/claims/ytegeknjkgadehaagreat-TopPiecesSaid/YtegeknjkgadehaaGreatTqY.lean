/-TopPieces:for every input the law returns true,and each argument reads behind the call as it read before. No condition. -/
import Derived.Test.YtegeknjkgadehaaGreatTqX
namespace Go.Proofs.YtegeknjkgadehaaGreat
open Go.ChangeShapes Go.WideShapes Go.ChangeAt Go.RowKit
theorem DX {X Y:List CellD}(h1:adh X) (j:adh Y) {p:PlD}(wp:p.Wf) (A:X.length=17:=by rfl) (D:Y.length=17:=by rfl):cq 4 [.a X,.a Y,.a (cPl p)] [.c (.b true)]:=by
 obtain⟨q,gq,I⟩:=aib wp;rcases h1 with h1|⟨c,J,h1⟩<;>rcases j with j|⟨d,R,j⟩;·exact abO A D rfl rfl rfl rfl h1 j tU
 .exact abO A D rfl rfl (ai d) rfl h1 j tU
 .exact abO A D rfl (ai c) rfl rfl h1 j tU
 .exact aiC A D rfl J R gq h1 j I tU
set_option maxRecDepth 100000 in
theorem zw (os:Os) (D:os.Started) (H:Type) (enc:TypeId×Value->H):ReturnsInHanded {} Tryz.checked os 4 .any (Rows.topPiecesSpec.pre6 enc Tryz.prog Tryz.f4 Rows.topPiecesRow.domain false) (Rows.topPiecesSpec.post enc Tryz.prog Tryz.f4 false true false false):=by
 refine returnsInHanded_of_change own D (by kernel_rfl) Tryz.func4
  (ChangeSpec.witness6 false ⟨#[],#[.agg #[.int .u8 0,.int .u8 0,.int .i8 0,.int .i8 0,.int .i8 0,.int .i8 0,.int .i8 0,.int .i8 0,.int .u8 0,.int .u8 0,.int .i8 0,.int .i8 0,.int .i8 0,.int .i8 0,.int .i8 0,.int .i8 0,.int .u8 0],.agg #[.int .u8 0,.int .u8 0,.int .i8 0,.int .i8 0,.int .i8 0,.int .i8 0,.int .i8 0,.int .i8 0,.int .u8 0,.int .u8 0,.int .i8 0,.int .i8 0,.int .i8 0,.int .i8 0,.int .i8 0,.int .i8 0,.int .u8 0],.agg #[.int .i16 0,.int .i16 0,.int .i16 0,.int .i16 0,.int .u16 0,.int .u8 0]],[]⟩ 8 (by kernel_rfl) (by kernel_rfl) (by kernel_rfl) (by kernel_rfl)) ?_
 intro W base args ds gs c6 I hW i4 _
 have A: ∀(j:Nat) t v,Tryz.f4.params[j]? =some t->args[j]? =some v->Value.okWide Tryz.prog W .any base t v:=I
 have e4:=hW
 obtain⟨p,q,R,hV,rfl,m6,l0⟩:=hW
 have hA:DataW.TrodAll enc Tryz.prog W 0 (fun _=>true) true Tryz.f4.params.toList args.toList ds p:=R
 rw[Tryz.params4] at hA A
 obtain⟨v0,q4,d0,r4,p0,q0,g7,rfl,rfl,h0,r0⟩:=trodAll_cons hA
 obtain⟨v1,n2,d1,l5,p1,q1,rfl,rfl,rfl,h1,r1⟩:=trodAll_cons r0
 obtain⟨v2,q3,d2,k6,p2,q2,rfl,rfl,rfl,h2,r2⟩:=trodAll_cons r1
 obtain⟨rfl,rfl,rfl⟩:=trodAll_nil r2
 obtain rfl:args= #[v0,v1,v2]:=by cases args;simp_all
 obtain⟨rfl,rfl⟩:=trodVars_none hV
 obtain⟨a0,rfl,_⟩:=okWide_struct Tryz.underlying68 (A 0 68 v0 rfl rfl)
 have k0:=h0
 have d4: ∀x∈p0,x.block<W.heap.size:=by obtain⟨m,hm⟩:=k0;exact DataW.trod_lt m _ _ _ hm
 obtain⟨a1,rfl,_⟩:=okWide_struct Tryz.underlying68 (A 1 68 v1 rfl rfl)
 have k1:=h1
 have h6: ∀x∈p1,x.block<W.heap.size:=by obtain⟨m,hm⟩:=k1;exact DataW.trod_lt m _ _ _ hm
 obtain⟨a2,rfl,_⟩:=okWide_struct Tryz.underlying27 (A 2 27 v2 rfl rfl)
 have k2:=h2
 have e5: ∀x∈p2,x.block<W.heap.size:=by obtain⟨m,hm⟩:=k2;exact DataW.trod_lt m _ _ _ hm
 obtain⟨k8,n4,k9,m2,m0,k7,n1,l4,m5,r3,k4,h8,i2,i6,h9,k3,i1,e3,g6,f3,h4,g0,d6,g5,h5,e9,g3,b7,a3,b5,b3,a4,a6,b6,d7⟩:=Je (show DataW.trod enc Tryz.prog W 0 _ _ h0.choose 68 a0.toList=some _ from h0.choose_spec)
 obtain⟨n0,n3,m3,p3,o3,q6,p4,m4,l8,l3,j1,k5,j0,j2,j3,j4,i0,c7,d3,g1,d5,g2,h7,c8,e2,f2,h3,a9,V,a5,b4,J,c3,c5,g4⟩:=Je (show DataW.trod enc Tryz.prog W 0 _ _ h1.choose 68 a1.toList=some _ from h1.choose_spec)
 obtain⟨q5,g8,e6⟩:=RR (show DataW.trod enc Tryz.prog W 0 _ _ h2.choose 27 a2.toList=some _ from h2.choose_spec)
 refine(abK (DX (M7 e3 g6 f3 h4 g0 d6 g5 h5 e9 g3 b7 a3 b5 b3 a4 a6 b6) (M7 c7 d3 g1 d5 g2 h7 c8 e2 f2 h3 a9 V a5 b4 J c3 c5) g8) (qF ⟨a0,rfl,d7⟩ (qF ⟨a1,rfl,g4⟩ (qF ⟨a2,rfl,e6⟩ RdL.nil)))).mono fun e W' ⟨he,bel⟩=>?_
 subst he
 exact⟨_,rfl,_,_,_,[],_,[],e4,trodAll_mk1 (shut_bool Tryz.underlying4 _),(trodAll_cons_mk (Below.trod HK (by kernel_rfl) (of_decide_eq_true (by kernel_rfl)) k0 bel d4) (trodAll_cons_mk (Below.trod HK (by kernel_rfl) (of_decide_eq_true (by kernel_rfl)) k1 bel h6) (trodAll_cons_mk (Below.trod HK (by kernel_rfl) (of_decide_eq_true (by kernel_rfl)) k2 bel e5) trodAll_mk0))),rfl,bel.frame _,fun h=>by cases h⟩
theorem toppieces_proved:Rows.TopPiecesSaid:=
 OpenClaim.holds_of_wide 4 Tryz.f4 rfl rfl rfl rfl rfl rfl rfl ⟨rfl,rfl,rfl,rfl,rfl⟩ rfl rfl rfl rfl rfl G9 Tryz.func4 FX
  (of_decide_eq_true (by kernel_rfl)) (by unfold Func.isWrapper;first|(rw[if_pos (by decide+kernel)];kernel_rfl)|(rw[if_neg (by decide+kernel)];exact⟨rfl,rfl⟩))
  (fun os j H enc _=>zw os j H enc)
end Go.Proofs.YtegeknjkgadehaaGreat
