/-Sides of polygons:the reference. -/
import Derived.Test.YtkfgimjmgfoneaaGreatDoorVfR
import Derived.Test.YtkfgimjmgfoneaaGreatDoorProg
import Derived.WalkKit
import Derived.WalkSpells
import Derived.WalkLawsBesides
import Derived.StillTactics
import Derived.Outline
import Derived.Deep.RegionWith
import Derived.Lib.Hide
import Derived.Deep.QuietTactic
import Derived.BigQuiet
import Derived.Laws.StructEq
import Derived.Shelf.Strings.BuilderK
namespace Go.Proofs.YtkfgimjmgfoneaaGreatDoor
open Go Go.RowKit
variable {f:Fm}{s:List Fm}
theorem tT:type_of% @Tryz.underlying3:=@Tryz.underlying3
theorem sA:type_of% @List.range_succ:=@List.range_succ
theorem Jc {V:List (Rat×Rat)}(hV: ∀v∈V,PQ v) (lV:V.length≤1000):Ok Tryz.prog 104 [.c (.s V.length (aj jr V))] [.c (.s (((sK V)).length) (aj ao ((sK V))))]:=by
 refine eG Tryz.func104 36 [.tmp 2] rfl<|ab<|ah<|ab<|bR<|b9 (cg rfl) ?_
 refine bv<|ab<|ab<|ah<|aA ?_
 refine aY (ι:=Sum ({n:Nat // n≤V.length∧(cj V n)=[]}) ({x9:Nat×Nat×List CellD // x9.1≤V.length∧(cj V x9.1).length≤x9.2.1∧x9.2.1≤maxLen∧x9.2.2.length=(x9.2.1-(cj V x9.1).length)*66})) (fun i=>match i with| .inl i=>⟨36,[(0,.v (.c (.s V.length (aj jr V)))),(3,.z),(4,.v (.c (.i .i64 (i.1:Int))))],[]⟩| .inr i=>⟨36,[(0,.v (.c (.s V.length (aj jr V)))),(3,.o 34 ((cj V i.1.1).length) i.1.2.1),(4,.v (.c (.i .i64 (i.1.1:Int))))],[(34,86,aj ao (cj V i.1.1)++i.1.2.2)]⟩) (fun i=>match i with| .inl i=>V.length-i.1| .inr i=>V.length-i.1.1) (.inl ⟨0,cY _,rfl⟩) (ak ⟨rfl,rfl,rfl,trivial⟩ trivial rfl) ?_
 rintro(⟨n,h2,h3⟩|⟨⟨n,c,rs⟩,h2,h3,h4,h5⟩)
 ·replace h2:n≤V.length:=h2
  replace h3:(cj V n)=[]:=h3
  dsimp only
  refine ab<|ab<|ah ?_
  refine aB rfl (fun hc1=>?_) (fun hc1=>?_)
  ·have g1:n<V.length:=by have:=of_decide_eq_true hc1;omega
   have gm:(n+1)%V.length<V.length:=Nat.mod_lt _ (by omega)
   have l6:=pb V n
   refine az<|ab<|aA<|ab ?_
   by_cases hs:KH (V.getD n bO) (V.getD ((n+1)%V.length) bO)
   ·refine dx 19 [5,999999]<|aq (cU bO cm g1 tX rfl)<|aq (aJ (us:=(cR ((V.getD n bO).1)++cR ((V.getD n bO).2))) oW rfl (mD _ _) (cm _) rfl) ?_
    refine aq (ba (by omega) rfl) ?_
    refine aq (cC (r:=(((n+1)%V.length:Nat):Int)) rfl rfl (by omega) ((gA (wx _)).trans (Int.natCast_emod _ _).symm) rfl) ?_
    refine aq (aC (us:=jr (V.getD (((n+1)%V.length)) bO)++aj jr (V.drop (((n+1)%V.length)+1))) tX rfl rfl (by omega) (ai cm _) (aQ cm (aK gm)) rfl) ?_
    refine aq (aJ (us:=(cR (((V.getD (((n+1)%V.length)) bO)).1)++cR (((V.getD (((n+1)%V.length)) bO)).2))) oW rfl (mD _ _) (cm _) rfl) ?_
    refine aO rfl (En (hV _ (aE g1)).1 (hV _ (aE g1)).2 (hV _ (aE gm)).1 (hV _ (aE gm)).2 hs) ?_
    refine DQ.mk<|kq (fI aZ rfl) rfl rfl rfl rfl<|ez ?_
    refine ab<|ah<|bT rfl<|az<|ah<|ar (ba (by omega) rfl) ?_
    exact⟨.inl ⟨n+1,g1,by rw[(show(cj V (n+1))=(cj V n) from by rw[(show(cj V (n+1))=(cj V n)++ii (V.getD n bO) (V.getD ((n+1)%V.length) bO) from rfl),show ii (V.getD n bO) (V.getD ((n+1)%V.length) bO)=[] from if_pos hs,lN])];exact h3⟩,ak ⟨rfl,rfl,rfl,trivial⟩ trivial rfl,by show V.length-(n+1)<V.length-n;omega⟩
   ·refine dx 19 [5,999999]<|aq (cU bO cm g1 tX rfl)<|aq (aJ (us:=(cR ((V.getD n bO).1)++cR ((V.getD n bO).2))) oW rfl (mD _ _) (cm _) rfl) ?_
    refine aq (ba (by omega) rfl) ?_
    refine aq (cC (r:=(((n+1)%V.length:Nat):Int)) rfl rfl (by omega) ((gA (wx _)).trans (Int.natCast_emod _ _).symm) rfl) ?_
    refine aq (aC (us:=jr (V.getD (((n+1)%V.length)) bO)++aj jr (V.drop (((n+1)%V.length)+1))) tX rfl rfl (by omega) (ai cm _) (aQ cm (aK gm)) rfl) ?_
    refine aq (aJ (us:=(cR (((V.getD (((n+1)%V.length)) bO)).1)++cR (((V.getD (((n+1)%V.length)) bO)).2))) oW rfl (mD _ _) (cm _) rfl) ?_
    refine aO rfl ((show Ok Tryz.prog 145 _ [.a (ao ((kJ (V.getD n bO).1 (V.getD n bO).2 (V.getD ((n+1)%V.length) bO).1 (V.getD ((n+1)%V.length) bO).2))),.c (.i .i64 0)] from Nw (hV _ (aE g1)).1 (hV _ (aE g1)).2 (hV _ (aE gm)).1 (hV _ (aE gm)).2 hs)) ?_
    refine DQ.mk<|kq (bG aZ rfl rfl rfl (ae _) rfl rfl) rfl rfl rfl rfl<|ez ?_
    refine ab<|ah<|iB rfl<|ah ?_
    refine ar (eM (ae _) aZ rfl) ?_
    refine ar (aS (n:=1) (us:=ao ((kJ (V.getD n bO).1 (V.getD n bO).2 (V.getD ((n+1)%V.length) bO).1 (V.getD ((n+1)%V.length) bO).2))) dS rfl (kz rfl (ae _)) (bB (ae _)) (by decide) (by decide) rfl) ?_
    refine DL.mk<|gN (ys:=ao ((kJ (V.getD n bO).1 (V.getD n bO).2 (V.getD ((n+1)%V.length) bO).1 (V.getD ((n+1)%V.length) bO).2))) dS rfl rfl (bB (ae _)) (by decide) (by decide) (by decide) rfl rfl (fun cg2 rg2 hga2 hgb2 hgc2=>dC ?_)
    refine ah<|ar (ba (by omega) rfl) ?_
    exact⟨.inr ⟨⟨n+1,cg2,rg2⟩,g1,by show(cj V (n+1)).length≤cg2;rw[(show(cj V (n+1))=(cj V n)++[(kJ (V.getD n bO).1 (V.getD n bO).2 (V.getD ((n+1)%V.length) bO).1 (V.getD ((n+1)%V.length) bO).2)] from by rw[(show(cj V (n+1))=(cj V n)++ii (V.getD n bO) (V.getD ((n+1)%V.length) bO) from rfl),show ii (V.getD n bO) (V.getD ((n+1)%V.length) bO)=[(kJ (V.getD n bO).1 (V.getD n bO).2 (V.getD ((n+1)%V.length) bO).1 (V.getD ((n+1)%V.length) bO).2)] from if_neg hs]),h3];exact hga2,hgb2,by show rg2.length=(cg2-(cj V (n+1)).length)*66;rw[(show(cj V (n+1))=(cj V n)++[(kJ (V.getD n bO).1 (V.getD n bO).2 (V.getD ((n+1)%V.length) bO).1 (V.getD ((n+1)%V.length) bO).2)] from by rw[(show(cj V (n+1))=(cj V n)++ii (V.getD n bO) (V.getD ((n+1)%V.length) bO) from rfl),show ii (V.getD n bO) (V.getD ((n+1)%V.length) bO)=[(kJ (V.getD n bO).1 (V.getD n bO).2 (V.getD ((n+1)%V.length) bO).1 (V.getD ((n+1)%V.length) bO).2)] from if_neg hs]),h3];exact hgc2⟩,ak ⟨rfl,congrArg (fun q=>some (DV.o 34 q cg2)) (by rw[(show(cj V (n+1))=(cj V n)++[(kJ (V.getD n bO).1 (V.getD n bO).2 (V.getD ((n+1)%V.length) bO).1 (V.getD ((n+1)%V.length) bO).2)] from by rw[(show(cj V (n+1))=(cj V n)++ii (V.getD n bO) (V.getD ((n+1)%V.length) bO) from rfl),show ii (V.getD n bO) (V.getD ((n+1)%V.length) bO)=[(kJ (V.getD n bO).1 (V.getD n bO).2 (V.getD ((n+1)%V.length) bO).1 (V.getD ((n+1)%V.length) bO).2)] from if_neg hs]),h3];rfl),rfl,trivial⟩ ⟨congrArg (fun q=>some (86,q++rg2)) (by rw[(show(cj V (n+1))=(cj V n)++[(kJ (V.getD n bO).1 (V.getD n bO).2 (V.getD ((n+1)%V.length) bO).1 (V.getD ((n+1)%V.length) bO).2)] from by rw[(show(cj V (n+1))=(cj V n)++ii (V.getD n bO) (V.getD ((n+1)%V.length) bO) from rfl),show ii (V.getD n bO) (V.getD ((n+1)%V.length) bO)=[(kJ (V.getD n bO).1 (V.getD n bO).2 (V.getD ((n+1)%V.length) bO).1 (V.getD ((n+1)%V.length) bO).2)] from if_neg hs]),h3];exact(dt _).symm),trivial⟩ rfl,by show V.length-(n+1)<V.length-n;omega⟩
  ·have e0:sK V=[]:=by unfold sK;rw[←show n=V.length from by have:=of_decide_eq_false hc1;omega];exact h3
   refine aW<|ab<|ah<|mH (t:=2) rfl<|bh ?_
   rw[e0]
   exact ag (am aa)
 ·dsimp only at h2 h3 h4 h5
  dsimp only
  refine ab<|ab<|ah ?_
  refine aB rfl (fun hc3=>?_) (fun hc3=>?_)
  ·have g1:n<V.length:=by have:=of_decide_eq_true hc3;omega
   have gm:(n+1)%V.length<V.length:=Nat.mod_lt _ (by omega)
   have l6:=pb V n
   refine az<|ab<|aA<|ab ?_
   by_cases hs:KH (V.getD n bO) (V.getD ((n+1)%V.length) bO)
   ·refine dx 19 [5,999999]<|aq (cU bO cm g1 tX rfl)<|aq (aJ (us:=(cR ((V.getD n bO).1)++cR ((V.getD n bO).2))) oW rfl (mD _ _) (cm _) rfl) ?_
    refine aq (ba (by omega) rfl) ?_
    refine aq (cC (r:=(((n+1)%V.length:Nat):Int)) rfl rfl (by omega) ((gA (wx _)).trans (Int.natCast_emod _ _).symm) rfl) ?_
    refine aq (aC (us:=jr (V.getD (((n+1)%V.length)) bO)++aj jr (V.drop (((n+1)%V.length)+1))) tX rfl rfl (by omega) (ai cm _) (aQ cm (aK gm)) rfl) ?_
    refine aq (aJ (us:=(cR (((V.getD (((n+1)%V.length)) bO)).1)++cR (((V.getD (((n+1)%V.length)) bO)).2))) oW rfl (mD _ _) (cm _) rfl) ?_
    refine aO rfl (En (hV _ (aE g1)).1 (hV _ (aE g1)).2 (hV _ (aE gm)).1 (hV _ (aE gm)).2 hs) ?_
    refine DQ.mk<|kq (fI aZ rfl) rfl rfl rfl rfl<|ez ?_
    refine ab<|ah<|bT rfl<|az<|ah<|ar (ba (by omega) rfl) ?_
    exact⟨.inr ⟨⟨n+1,c,rs⟩,g1,by show(cj V (n+1)).length≤c;rw[(show(cj V (n+1))=(cj V n) from by rw[(show(cj V (n+1))=(cj V n)++ii (V.getD n bO) (V.getD ((n+1)%V.length) bO) from rfl),show ii (V.getD n bO) (V.getD ((n+1)%V.length) bO)=[] from if_pos hs,lN])];exact h3,h4,by show rs.length=(c-(cj V (n+1)).length)*66;rw[(show(cj V (n+1))=(cj V n) from by rw[(show(cj V (n+1))=(cj V n)++ii (V.getD n bO) (V.getD ((n+1)%V.length) bO) from rfl),show ii (V.getD n bO) (V.getD ((n+1)%V.length) bO)=[] from if_pos hs,lN])];exact h5⟩,ak ⟨rfl,congrArg (fun q=>some (DV.o 34 (List.length q) c)) (by rw[(show(cj V (n+1))=(cj V n) from by rw[(show(cj V (n+1))=(cj V n)++ii (V.getD n bO) (V.getD ((n+1)%V.length) bO) from rfl),show ii (V.getD n bO) (V.getD ((n+1)%V.length) bO)=[] from if_pos hs,lN])]),rfl,trivial⟩ ⟨congrArg (fun q=>some (86,aj ao q++rs)) (by rw[(show(cj V (n+1))=(cj V n) from by rw[(show(cj V (n+1))=(cj V n)++ii (V.getD n bO) (V.getD ((n+1)%V.length) bO) from rfl),show ii (V.getD n bO) (V.getD ((n+1)%V.length) bO)=[] from if_pos hs,lN])]),trivial⟩ rfl,by show V.length-(n+1)<V.length-n;omega⟩
   ·refine dx 19 [5,999999]<|aq (cU bO cm g1 tX rfl)<|aq (aJ (us:=(cR ((V.getD n bO).1)++cR ((V.getD n bO).2))) oW rfl (mD _ _) (cm _) rfl) ?_
    refine aq (ba (by omega) rfl) ?_
    refine aq (cC (r:=(((n+1)%V.length:Nat):Int)) rfl rfl (by omega) ((gA (wx _)).trans (Int.natCast_emod _ _).symm) rfl) ?_
    refine aq (aC (us:=jr (V.getD (((n+1)%V.length)) bO)++aj jr (V.drop (((n+1)%V.length)+1))) tX rfl rfl (by omega) (ai cm _) (aQ cm (aK gm)) rfl) ?_
    refine aq (aJ (us:=(cR (((V.getD (((n+1)%V.length)) bO)).1)++cR (((V.getD (((n+1)%V.length)) bO)).2))) oW rfl (mD _ _) (cm _) rfl) ?_
    refine aO rfl ((show Ok Tryz.prog 145 _ [.a (ao ((kJ (V.getD n bO).1 (V.getD n bO).2 (V.getD ((n+1)%V.length) bO).1 (V.getD ((n+1)%V.length) bO).2))),.c (.i .i64 0)] from Nw (hV _ (aE g1)).1 (hV _ (aE g1)).2 (hV _ (aE gm)).1 (hV _ (aE gm)).2 hs)) ?_
    refine DQ.mk<|kq (bG aZ rfl rfl rfl (ae _) rfl rfl) rfl rfl rfl rfl<|ez ?_
    refine ab<|ah<|iB rfl<|ah ?_
    refine ar (eM (ae _) aZ rfl) ?_
    refine ar (aS (n:=1) (us:=ao ((kJ (V.getD n bO).1 (V.getD n bO).2 (V.getD ((n+1)%V.length) bO).1 (V.getD ((n+1)%V.length) bO).2))) dS rfl (kz rfl (ae _)) (bB (ae _)) (by decide) (by decide) rfl) ?_
    refine DL.mk<|kD (us:=aj ao (cj V n)) (rest:=rs) (ys:=ao ((kJ (V.getD n bO).1 (V.getD n bO).2 (V.getD ((n+1)%V.length) bO).1 (V.getD ((n+1)%V.length) bO).2))) dS rfl rfl rfl (ai ae _) (by assumption) (bB (ae _)) (by decide) (by omega) (by assumption) (by omega) (go (by omega)) (.inl rfl) rfl (fun cg4 rg4 hga4 hgb4 hgc4=>dC ?_)
    refine ah<|ar (ba (by omega) rfl) ?_
    exact⟨.inr ⟨⟨n+1,cg4,rg4⟩,g1,by show(cj V (n+1)).length≤cg4;rw[(show(cj V (n+1))=(cj V n)++[(kJ (V.getD n bO).1 (V.getD n bO).2 (V.getD ((n+1)%V.length) bO).1 (V.getD ((n+1)%V.length) bO).2)] from by rw[(show(cj V (n+1))=(cj V n)++ii (V.getD n bO) (V.getD ((n+1)%V.length) bO) from rfl),show ii (V.getD n bO) (V.getD ((n+1)%V.length) bO)=[(kJ (V.getD n bO).1 (V.getD n bO).2 (V.getD ((n+1)%V.length) bO).1 (V.getD ((n+1)%V.length) bO).2)] from if_neg hs]),bN];exact hga4,hgb4,by show rg4.length=(cg4-(cj V (n+1)).length)*66;rw[(show(cj V (n+1))=(cj V n)++[(kJ (V.getD n bO).1 (V.getD n bO).2 (V.getD ((n+1)%V.length) bO).1 (V.getD ((n+1)%V.length) bO).2)] from by rw[(show(cj V (n+1))=(cj V n)++ii (V.getD n bO) (V.getD ((n+1)%V.length) bO) from rfl),show ii (V.getD n bO) (V.getD ((n+1)%V.length) bO)=[(kJ (V.getD n bO).1 (V.getD n bO).2 (V.getD ((n+1)%V.length) bO).1 (V.getD ((n+1)%V.length) bO).2)] from if_neg hs]),bN];exact hgc4⟩,ak ⟨rfl,congrArg (fun q=>some (DV.o 34 q cg4)) (by rw[(show(cj V (n+1))=(cj V n)++[(kJ (V.getD n bO).1 (V.getD n bO).2 (V.getD ((n+1)%V.length) bO).1 (V.getD ((n+1)%V.length) bO).2)] from by rw[(show(cj V (n+1))=(cj V n)++ii (V.getD n bO) (V.getD ((n+1)%V.length) bO) from rfl),show ii (V.getD n bO) (V.getD ((n+1)%V.length) bO)=[(kJ (V.getD n bO).1 (V.getD n bO).2 (V.getD ((n+1)%V.length) bO).1 (V.getD ((n+1)%V.length) bO).2)] from if_neg hs]),bN];rfl),rfl,trivial⟩ ⟨congrArg (fun q=>some (86,q++rg4)) (by rw[(show(cj V (n+1))=(cj V n)++[(kJ (V.getD n bO).1 (V.getD n bO).2 (V.getD ((n+1)%V.length) bO).1 (V.getD ((n+1)%V.length) bO).2)] from by rw[(show(cj V (n+1))=(cj V n)++ii (V.getD n bO) (V.getD ((n+1)%V.length) bO) from rfl),show ii (V.getD n bO) (V.getD ((n+1)%V.length) bO)=[(kJ (V.getD n bO).1 (V.getD n bO).2 (V.getD ((n+1)%V.length) bO).1 (V.getD ((n+1)%V.length) bO).2)] from if_neg hs]),ck,dt]),trivial⟩ rfl,by show V.length-(n+1)<V.length-n;omega⟩
  ·have e0:sK V=(cj V n):=by unfold sK;rw[show n=V.length from by have:=of_decide_eq_false hc3;omega]
   refine aW<|ab<|ah<|bI (t:=2) (m:=66) (us:=aj ao (cj V n)) rfl rfl (ia (n:=(cj V n).length) (ai ae _) (by assumption) (by omega)) (by omega) (by assumption) (eg (ai ae _))<|bh ?_
   rw[e0]
   exact ag (am aa)
theorem DG:SQ Tryz.prog 172=some (2,1):=by kernel_rfl
theorem GC {x y:Rat}:Ok Tryz.prog 105 [dR x,dR y] [.a ((cR x++cR y))]:=by
 refine bS Tryz.func105 rfl<|ar (aG (us:=(cR x++cR y)) xP vi rfl rfl rfl) ?_
 exact ag (bb oW rfl aa)
theorem Kw {x y u:Int}(hx:zQ x) (hy:zQ y) (hu:0≤u∧u≤255):Ok Tryz.prog 103 [.c (.i .i8 x),.c (.i .i8 y),.c (.i .u8 u)] [.a ((cR ((kS x y u).1)++cR ((kS x y u).2)))]:=by
 obtain⟨x1,x2⟩:=hx
 obtain⟨y1,y2⟩:=hy
 have ub:=Jv hu.1
 refine bS Tryz.func103 rfl<|ar (cC (r:=u%4) rfl rfl (by decide) (gA hu.1) rfl) ?_
 refine ar (bl (r:=u%4) Cm qB rfl (oC (by omega) (by omega)) rfl) ?_
 refine ar (bQ (uD u) ((aP (by omega) (by omega)).trans rfl) rfl)<|ar (bl (r:=x) x7 qB rfl (oC (by omega) (by omega)) rfl) ?_
 refine ac rfl (xL (by omega) (by omega) (by omega) (by omega) (by omega))<|ar (bl (r:=y) x7 qB rfl (oC (by omega) (by omega)) rfl) ?_
 refine ac rfl (xL (by omega) (by omega) (by omega) (by omega) (by omega))<|ac rfl (GC) ?_
 exact ag (bb oW rfl aa)
theorem PF (hf:FmB f):Ok Tryz.prog 104 [.c (.s 4 (jr (kS f.a f.b f.u)++jr ((kS f.c f.d f.u).1,(kS f.a f.b f.u).2)++jr (kS f.c f.d f.u)++jr ((kS f.a f.b f.u).1,(kS f.c f.d f.u).2)))] [.c (.s (((sK (B5 f))).length) (aj ao ((sK (B5 f)))))]:=by
 rw[La]
 exact Jc (DD hf) (dG rfl)
theorem Ic (hf:FmB f) (hc:f.cs.length≤6):Ok Tryz.prog 65 [.a (([.i .u8 f.k]++[.i .u8 f.u]++[.i .i8 f.a]++[.i .i8 f.b]++[.i .i8 f.c]++[.i .i8 f.d]++[.s f.cs.length (aj oL f.cs)]))] [.c (.s (((hJ f)).length) (aj ao ((hJ f))))]:=by
 refine eG Tryz.func65 81 [.tmp 2] rfl<|ab<|ah<|ab<|ah ?_
 refine ac rfl (Kw hf.a hf.b hf.u)<|ab<|ah ?_
 refine ac rfl (Kw hf.c hf.d hf.u)<|ab<|ab<|ah ?_
 refine ar (cC (r:=f.k%3) rfl rfl (by decide) (gA hf.k.1) rfl) ?_
 refine aA<|ab<|ah ?_
 refine aB rfl (fun hc1=>?_) (fun hc1=>?_)
 ·have e0:hJ f=sK (B5 f):=if_pos (by have:=beq_iff_eq.1 hc1;exact this)
  refine ab<|dx 15 [] ?_
  refine aO rfl (GC) ?_
  refine aO rfl (GC) ?_
  refine aq (aS (n:=4) (us:=(cR ((kS f.a f.b f.u).1)++cR ((kS f.a f.b f.u).2))++(cR ((kS f.c f.d f.u).1)++cR ((kS f.a f.b f.u).2))++(cR ((kS f.c f.d f.u).1)++cR ((kS f.c f.d f.u).2))++(cR ((kS f.a f.b f.u).1)++cR ((kS f.c f.d f.u).2))) B4 rfl rfl rfl (by decide) (by decide) rfl) ?_
  refine aO rfl (PF hf)<|bh ?_
  rw[e0]
  exact ag (am aa)
 ·have k0: ¬f.k%3=0:=beq_eq_false_iff_ne.1 hc1
  refine ab<|ah ?_
  refine aB rfl (fun hc2=>?_) (fun hc2=>?_)
  ·have k1:f.k%3=1:=beq_iff_eq.1 hc2
   refine ab<|ab<|ah ?_
   refine ac rfl (bF) ?_
   refine aB rfl (fun hc3=>?_) (fun hc3=>?_)
   ·have e0:hJ f=[]:=by unfold hJ;rw[if_neg k0,if_pos k1,if_neg fun q=>absurd (of_decide_eq_true hc3) (by have q2:aM (kS f.c f.d f.u).1 0>0:=mZ.2 q;omega)]
    refine ab<|ah<|bh ?_
    rw[e0]
    exact ag (am aa)
   ·have q0:0<(Fj f).q:=mZ.1 (show aM (kS f.c f.d f.u).1 0>0 by have:=of_decide_eq_false hc3;omega)
    have e0:hJ f=ju (Fj f):=by unfold hJ;rw[if_neg k0,if_pos k1,if_pos q0]
    refine az<|ab<|ah ?_
    refine ar (aG (us:=(cR ((kS f.a f.b f.u).1)++cR ((kS f.a f.b f.u).2)++cR ((kS f.c f.d f.u).1))) NQ Ou rfl rfl rfl) ?_
    refine ac rfl (Gu (k:=Fj f) (Ec hf))<|bh ?_
    rw[e0]
    exact ag (am aa)
  ·have k1: ¬f.k%3=1:=beq_eq_false_iff_ne.1 hc2
   refine az<|ab<|bR<|b9 (cg rfl) ?_
   refine bv<|ab<|ab<|ah<|aA ?_
   refine j7 (ι:={x9:Nat×Nat×List CellD // 1≤x9.1∧x9.1≤f.cs.length∧(nR f x9.1).length≤x9.2.1∧x9.2.1≤maxLen∧x9.2.2.length=(x9.2.1-(nR f x9.1).length)*8}) (fun i=>⟨81,[(1,.p 1 0),(5,.o 78 ((nR f i.1.1).length) i.1.2.1),(6,.v (.c (.i .i64 (i.1.1:Int))))],[(1,128,([.i .u8 f.k]++[.i .u8 f.u]++[.i .i8 f.a]++[.i .i8 f.b]++[.i .i8 f.c]++[.i .i8 f.d]++[.s f.cs.length (aj oL f.cs)])),(78,167,aj jr (nR f i.1.1)++i.1.2.2)]⟩) (fun i=>f.cs.length-i.1.1) (f.cs.length) ?_ ?_
   ·refine ab<|ab<|ah ?_
    refine aB rfl (fun hc4=>?_) (fun hc4=>?_)
    ·have g0:0<f.cs.length:=by have:=of_decide_eq_true hc4;omega
     have hq:=hf.cs _ (aE (d:=sm) g0)
     refine az<|ab<|aA<|dx 17 [] ?_
     refine aq (aC (us:=oL (f.cs.getD 0 sm)++aj oL (f.cs.drop (0+1))) Ej rfl rfl (by omega) (ai i5 _) (aQ i5 (aK g0)) rfl) ?_
     refine aq (kH DG rfl rfl (by decide) rfl rfl) ?_
     refine aq (aL LK rfl rfl rfl) ?_
     refine aq (aC (us:=oL (f.cs.getD 0 sm)++aj oL (f.cs.drop (0+1))) Ej rfl rfl (by omega) (ai i5 _) (aQ i5 (aK g0)) rfl) ?_
     refine aq (kH DG rfl rfl (by decide) rfl rfl) ?_
     refine aq (aL LK rfl rfl rfl) ?_
     refine aO rfl (Kw hq.1 hq.2 hf.u)<|aq (aS (n:=1) (us:=(cR (((kS (f.cs.getD 0 sm).1 (f.cs.getD 0 sm).2 f.u)).1)++cR (((kS (f.cs.getD 0 sm).1 (f.cs.getD 0 sm).2 f.u)).2))) B4 rfl rfl rfl (by decide) (by decide) rfl) ?_
     refine DL.mk<|gN (ys:=(cR (((kS (f.cs.getD 0 sm).1 (f.cs.getD 0 sm).2 f.u)).1)++cR (((kS (f.cs.getD 0 sm).1 (f.cs.getD 0 sm).2 f.u)).2))) B4 rfl rfl rfl (by decide) (by decide) (by decide) rfl rfl (fun cg5 rg5 hga5 hgb5 hgc5=>dC ?_)
     refine ah<|ar (i6 (r:=1) rfl rfl rfl rfl) ?_
     exact⟨⟨⟨1,cg5,rg5⟩,aX _,g0,by rw[m7 g0];exact hga5,hgb5,by rw[m7 g0];exact hgc5⟩,ak ⟨rfl,congrArg (fun q=>some (DV.o 78 q cg5)) (m7 g0).symm,rfl,trivial⟩ ⟨rfl,congrArg (fun q=>some (167,q++rg5)) (show jr (kS (f.cs.getD 0 sm).1 (f.cs.getD 0 sm).2 f.u)=aj jr (nR f 1) from by rw[o8 g0];exact(dt _).symm),trivial⟩ rfl,by show f.cs.length-1<f.cs.length;omega⟩
    ·have e0:hJ f=sK []:=by unfold hJ;rw[if_neg k0,if_neg k1,show f.cs.length=0 from by have:=of_decide_eq_false hc4;omega];rfl
     refine aW<|ab<|mH (t:=5) rfl<|ah<|ac rfl (Jc (V:=[]) (fun v h=>nomatch h) (cY _))<|bh ?_
     rw[e0]
     exact ag (am aa)
   ·rintro⟨⟨n,c,rs⟩,h1,h2,h3,h4,h5⟩
    dsimp only at h1 h2 h3 h4 h5
    dsimp only
    refine ab<|ab<|ah ?_
    refine aB rfl (fun hc6=>?_) (fun hc6=>?_)
    ·have g1:n<f.cs.length:=by have:=of_decide_eq_true hc6;omega
     have hq:=hf.cs _ (aE (d:=sm) g1)
     have l6:=m7 (f:=f) (Nat.le_of_lt g1)
     refine az<|ab<|aA<|dx 17 [] ?_
     refine aq (aC (us:=oL (f.cs.getD n sm)++aj oL (f.cs.drop (n+1))) Ej rfl rfl (by omega) (ai i5 _) (aQ i5 (aK g1)) rfl) ?_
     refine aq (kH DG rfl rfl (by decide) rfl rfl) ?_
     refine aq (aL LK rfl rfl rfl) ?_
     refine aq (aC (us:=oL (f.cs.getD n sm)++aj oL (f.cs.drop (n+1))) Ej rfl rfl (by omega) (ai i5 _) (aQ i5 (aK g1)) rfl) ?_
     refine aq (kH DG rfl rfl (by decide) rfl rfl) ?_
     refine aq (aL LK rfl rfl rfl) ?_
     refine aO rfl (Kw hq.1 hq.2 hf.u)<|aq (aS (n:=1) (us:=(cR (((kS (f.cs.getD n sm).1 (f.cs.getD n sm).2 f.u)).1)++cR (((kS (f.cs.getD n sm).1 (f.cs.getD n sm).2 f.u)).2))) B4 rfl rfl rfl (by decide) (by decide) rfl) ?_
     refine DL.mk<|kD (us:=aj jr (nR f n)) (rest:=rs) (ys:=(cR (((kS (f.cs.getD n sm).1 (f.cs.getD n sm).2 f.u)).1)++cR (((kS (f.cs.getD n sm).1 (f.cs.getD n sm).2 f.u)).2))) B4 rfl rfl rfl (ai cm _) (by assumption) rfl (by decide) (by omega) (by assumption) (by omega) (go (by omega)) (.inl rfl) rfl (fun cg7 rg7 hga7 hgb7 hgc7=>dC ?_)
     refine ah<|ar (ba (by omega) rfl) ?_
     exact⟨⟨⟨n+1,cg7,rg7⟩,by omega,g1,by show(nR f (n+1)).length≤cg7;rw[o8 g1,bN];exact hga7,hgb7,by show rg7.length=(cg7-(nR f (n+1)).length)*8;rw[o8 g1,bN];exact hgc7⟩,ak ⟨rfl,congrArg (fun q=>some (DV.o 78 q cg7)) (by rw[o8 g1,bN];rfl),rfl,trivial⟩ ⟨rfl,congrArg (fun q=>some (167,q++rg7)) (by rw[o8 g1,ck,dt];rfl),trivial⟩ rfl,by show f.cs.length-(n+1)<f.cs.length-n;omega⟩
    ·have e0:hJ f=sK (nR f n):=by unfold hJ;rw[if_neg k0,if_neg k1,show f.cs.length=n from by have:=of_decide_eq_false hc6;omega]
     have l6:=m7 (f:=f) h2
     refine aW<|ab<|bI (t:=5) (m:=8) (us:=aj jr (nR f n)) rfl rfl (ia (n:=(nR f n).length) (ai cm _) (by assumption) (by omega)) (by omega) (by assumption) (eg (ai cm _))<|ah<|ac rfl (Jc (V:=(nR f n)) (EO hf) (by omega))<|bh ?_
     rw[e0]
     exact ag (am aa)
theorem RT (hs: ∀f∈s,FmB f) (ls:s.length≤9223372036854775807):Ok Tryz.prog 39 [.c (.s s.length (aj jZ s)),.c (.i .i64 6)] [.c (.s (((jH s).1).length) (aj ao ((jH s).1))),.c (.b ((jH s).2))]:=by
 refine eG Tryz.func39 40 [.tmp 4,.tmp 5] rfl<|ab<|ah<|ab<|bR<|b9 (cg rfl) ?_
 refine bv<|ab<|ab<|ah<|aA ?_
 refine aY (ι:=Sum ({n:Nat // n≤s.length∧(eN s n)=[]∧(n=0∨s.length≤6)∧ ∀i,i<n→(s.getD i js).cs.length≤6}) ({x9:Nat×Nat×List CellD // x9.1≤s.length∧(eN s x9.1).length≤x9.2.1∧x9.2.1≤maxLen∧x9.2.2.length=(x9.2.1-(eN s x9.1).length)*66∧(x9.1=0∨s.length≤6)∧ ∀i,i<x9.1→(s.getD i js).cs.length≤6})) (fun i=>match i with| .inl i=>⟨40,[(0,.v (.c (.s s.length (aj jZ s)))),(1,.v (.c (.i .i64 6))),(6,.z),(7,.v (.c (.i .i64 (i.1:Int))))],[]⟩| .inr i=>⟨40,[(0,.v (.c (.s s.length (aj jZ s)))),(1,.v (.c (.i .i64 6))),(6,.o 34 ((eN s i.1.1).length) i.1.2.1),(7,.v (.c (.i .i64 (i.1.1:Int))))],[(34,86,aj ao (eN s i.1.1)++i.1.2.2)]⟩) (fun i=>match i with| .inl i=>s.length-i.1| .inr i=>s.length-i.1.1) (.inl ⟨0,cY _,rfl,.inl rfl,fun i hi=>absurd hi (Nat.not_lt_zero i)⟩) (ak ⟨rfl,rfl,rfl,rfl,trivial⟩ trivial rfl) ?_
 rintro(⟨n,h2,h3,hx⟩|⟨⟨n,c,rs⟩,h2,h3,h4,h5,hx⟩)
 ·replace h2:n≤s.length:=h2
  replace h3:(eN s n)=[]:=h3
  replace hx:(n=0∨s.length≤6)∧ ∀i,i<n→(s.getD i js).cs.length≤6:=hx
  dsimp only
  refine ab<|ab<|ah ?_
  refine aB rfl (fun hc1=>?_) (fun hc1=>?_)
  ·have g1:n<s.length:=by have:=of_decide_eq_true hc1;omega
   refine az<|ab<|aA<|ab<|ab<|ah ?_
   refine dF (au rfl) (fun c2 hb2=>?_)
   cases c2
   ·have s6:s.length≤6:=by have:=of_decide_eq_false hb2;omega
    refine ar (aC (us:=jZ (s.getD n js)++aj jZ (s.drop (n+1))) Hw rfl rfl (by omega) (ai eD _) (aQ eD (aK g1)) rfl) ?_
    refine ar (bc DY rfl rfl rfl) ?_
    refine ar (aL M5 rfl rfl rfl) ?_
    refine aB rfl (fun hc3=>?_) (fun hc3=>?_)
    ·have e0:jH s=([],false):=if_pos (yz g1 (.inr (by have:=of_decide_eq_true hc3;omega)))
     refine ab<|ah<|bh ?_
     rw[e0]
     exact ag (am (am aa))
    ·have c6:(s.getD n js).cs.length≤6:=by have:=of_decide_eq_false hc3;omega
     have l7:=vp c6
     have l8:=wb n hx.2
     refine az ?_
     rcases fQ (hJ (s.getD n js)).length with hq0|hq0
     ·refine ah<|ar (aC (us:=jZ (s.getD n js)++aj jZ (s.drop (n+1))) Hw rfl rfl (by omega) (ai eD _) (aQ eD (aK g1)) rfl) ?_
      refine ar (aJ (us:=([.i .u8 ((s.getD n js).k)]++[.i .u8 ((s.getD n js).u)]++[.i .i8 ((s.getD n js).a)]++[.i .i8 ((s.getD n js).b)]++[.i .i8 ((s.getD n js).c)]++[.i .i8 ((s.getD n js).d)]++[.s ((s.getD n js).cs.length) (aj oL (s.getD n js).cs)])) IS rfl (yT _ _) (eD _) rfl) ?_
      refine ac rfl (Ic (hs _ (aE g1)) c6)<|ar (mF dS rfl rfl hq0 rfl) ?_
      refine ah<|ar (ba (by omega) rfl) ?_
      exact⟨.inl ⟨n+1,g1,by rw[(show(eN s (n+1))=(eN s n)++(hJ (s.getD n js)) from rfl),h3,ic.1 hq0];rfl,.inr s6,fun i hi=>(fm.1 hi).elim (hx.2 i) fun e=>by rw[e];exact c6⟩,ak ⟨rfl,rfl,rfl,rfl,trivial⟩ trivial rfl,by show s.length-(n+1)<s.length-n;omega⟩
     ·refine ah<|ar (aC (us:=jZ (s.getD n js)++aj jZ (s.drop (n+1))) Hw rfl rfl (by omega) (ai eD _) (aQ eD (aK g1)) rfl) ?_
      refine ar (aJ (us:=([.i .u8 ((s.getD n js).k)]++[.i .u8 ((s.getD n js).u)]++[.i .i8 ((s.getD n js).a)]++[.i .i8 ((s.getD n js).b)]++[.i .i8 ((s.getD n js).c)]++[.i .i8 ((s.getD n js).d)]++[.s ((s.getD n js).cs.length) (aj oL (s.getD n js).cs)])) IS rfl (yT _ _) (eD _) rfl) ?_
      refine ac rfl (Ic (hs _ (aE g1)) c6) ?_
      refine DL.mk<|jB (q:=(hJ (s.getD n js)).length) (ys:=aj ao ((hJ (s.getD n js)))) (zs':=aj ao (hJ (s.getD n js))) dS rfl rfl (ai ae _) (hq0) (by omega) (go (by omega)) rfl (rfl) rfl (fun cg4 rg4 hga4 hgb4 hgc4=>dC ?_)
      refine ah<|ar (ba (by omega) rfl) ?_
      exact⟨.inr ⟨⟨n+1,cg4,rg4⟩,g1,by show(eN s (n+1)).length≤cg4;rw[(show(eN s (n+1))=(eN s n)++(hJ (s.getD n js)) from rfl),h3];exact hga4,hgb4,by show rg4.length=(cg4-(eN s (n+1)).length)*66;rw[(show(eN s (n+1))=(eN s n)++(hJ (s.getD n js)) from rfl),h3];exact hgc4,.inr s6,fun i hi=>(fm.1 hi).elim (hx.2 i) fun e=>by rw[e];exact c6⟩,ak ⟨rfl,rfl,congrArg (fun q=>some (DV.o 34 (List.length q) cg4)) (by rw[(show(eN s (n+1))=(eN s n)++(hJ (s.getD n js)) from rfl),h3];rfl),rfl,trivial⟩ ⟨congrArg (fun q=>some (86,aj ao q++rg4)) (by rw[(show(eN s (n+1))=(eN s n)++(hJ (s.getD n js)) from rfl),h3];rfl),trivial⟩ rfl,by show s.length-(n+1)<s.length-n;omega⟩
   ·have e0:jH s=([],false):=if_pos (yz g1 (.inl (by have:=of_decide_eq_true hb2;omega)))
    refine iB rfl<|ab<|ah<|bh ?_
    rw[e0]
    exact ag (am (am aa))
  ·have hp:n=s.length:=by have:=of_decide_eq_false hc1;omega
   have e0:jH s=((eN s n),decide (((eN s n).length:Int)≤6)):=by unfold jH;rw[if_neg (by rw[JF fun i hi=>⟨by omega,by have:=hx.2 i (by omega);omega⟩];decide),←hp];congr 1;exact decide_eq_decide.2 (by omega)
   rw[h3] at e0
   refine aW<|ab<|ah<|ar (pJ bY rfl rfl) ?_
   refine mH (t:=4) rfl<|bh ?_
   rw[e0]
   exact ag (am (am aa))
 ·dsimp only at h2 h3 h4 h5 hx
  dsimp only
  refine ab<|ab<|ah ?_
  refine aB rfl (fun hc5=>?_) (fun hc5=>?_)
  ·have g1:n<s.length:=by have:=of_decide_eq_true hc5;omega
   refine az<|ab<|aA<|ab<|ab<|ah ?_
   refine dF (au rfl) (fun c6 hb6=>?_)
   cases c6
   ·have s6:s.length≤6:=by have:=of_decide_eq_false hb6;omega
    refine ar (aC (us:=jZ (s.getD n js)++aj jZ (s.drop (n+1))) Hw rfl rfl (by omega) (ai eD _) (aQ eD (aK g1)) rfl) ?_
    refine ar (bc DY rfl rfl rfl) ?_
    refine ar (aL M5 rfl rfl rfl) ?_
    refine aB rfl (fun hc7=>?_) (fun hc7=>?_)
    ·have e0:jH s=([],false):=if_pos (yz g1 (.inr (by have:=of_decide_eq_true hc7;omega)))
     refine ab<|ah<|bh ?_
     rw[e0]
     exact ag (am (am aa))
    ·have c6:(s.getD n js).cs.length≤6:=by have:=of_decide_eq_false hc7;omega
     have l7:=vp c6
     have l8:=wb n hx.2
     refine az<|ah<|ar (aC (us:=jZ (s.getD n js)++aj jZ (s.drop (n+1))) Hw rfl rfl (by omega) (ai eD _) (aQ eD (aK g1)) rfl) ?_
     refine ar (aJ (us:=([.i .u8 ((s.getD n js).k)]++[.i .u8 ((s.getD n js).u)]++[.i .i8 ((s.getD n js).a)]++[.i .i8 ((s.getD n js).b)]++[.i .i8 ((s.getD n js).c)]++[.i .i8 ((s.getD n js).d)]++[.s ((s.getD n js).cs.length) (aj oL (s.getD n js).cs)])) IS rfl (yT _ _) (eD _) rfl) ?_
     refine ac rfl (Ic (hs _ (aE g1)) c6) ?_
     refine DL.mk<|jj (n:=(eN s n).length) (c:=c) (q:=((hJ (s.getD n js))).length) (us:=aj ao (eN s n)) (rest:=rs) (N':=(eN s n).length+(hJ (s.getD n js)).length) (zs':=aj ao (eN s n)++aj ao (hJ (s.getD n js))) dS rfl rfl rfl (rfl) (ai ae _) (h5) (ai ae _) (by decide) (by omega) (by assumption) (by omega) (go (by omega)) (.inl rfl) (rfl) (rfl) rfl (fun cg8 rg8 hga8 hgb8 hgc8=>dC ?_)
     refine ah<|ar (ba (by omega) rfl) ?_
     exact⟨.inr ⟨⟨n+1,cg8,rg8⟩,g1,by show(eN s (n+1)).length≤cg8;rw[(show(eN s (n+1))=(eN s n)++(hJ (s.getD n js)) from rfl),bN];exact hga8,hgb8,by show rg8.length=(cg8-(eN s (n+1)).length)*66;rw[(show(eN s (n+1))=(eN s n)++(hJ (s.getD n js)) from rfl),bN];exact hgc8,.inr s6,fun i hi=>(fm.1 hi).elim (hx.2 i) fun e=>by rw[e];exact c6⟩,ak ⟨rfl,rfl,congrArg (fun q=>some (DV.o 34 q cg8)) (by rw[(show(eN s (n+1))=(eN s n)++(hJ (s.getD n js)) from rfl),bN]),rfl,trivial⟩ ⟨congrArg (fun q=>some (86,q++rg8)) (by rw[(show(eN s (n+1))=(eN s n)++(hJ (s.getD n js)) from rfl),ck]),trivial⟩ rfl,by show s.length-(n+1)<s.length-n;omega⟩
   ·have e0:jH s=([],false):=if_pos (yz g1 (.inl (by have:=of_decide_eq_true hb6;omega)))
    refine iB rfl<|ab<|ah<|bh ?_
    rw[e0]
    exact ag (am (am aa))
  ·have hp:n=s.length:=by have:=of_decide_eq_false hc5;omega
   have e0:jH s=((eN s n),decide (((eN s n).length:Int)≤6)):=by unfold jH;rw[if_neg (by rw[JF fun i hi=>⟨by omega,by have:=hx.2 i (by omega);omega⟩];decide),←hp];congr 1;exact decide_eq_decide.2 (by omega)
   refine aW<|ab<|ah<|ar (m8 bY rfl rfl) ?_
   refine bI (t:=4) (m:=66) (us:=aj ao (eN s n)) rfl rfl (ia (n:=(eN s n).length) (ai ae _) (by assumption) (by omega)) (by omega) (by assumption) (eg (ai ae _))<|bh ?_
   rw[e0]
   exact ag (am (am aa))
theorem Nr (hs: ∀f∈s,FmB f) (ls:s.length≤9223372036854775807):Ok Tryz.prog 19 [.c (.s s.length (aj jZ s)),.c (.i .i64 6)] [.a (([.s (((l5 s).1).length) (aj ao ((l5 s).1))])),.c (.b ((l5 s).2))]:=by
 have vS:=yJ hs
 obtain⟨f1,f2⟩:=nI vS
 refine bS Tryz.func19 rfl<|ac rfl (RT hs ls) ?_
 refine cd rfl (fun hc1=>?_) (fun hc1=>?_)
 ·have e0:l5 s=([],false):=if_neg (by simpa using hc1)
  refine ar (aG (us:=([.s 0 []])) Ke FT rfl rfl rfl) ?_
  refine ag ?_
  rw[e0]
  exact bb rA rfl (am aa)
 ·have hb:(jH s).2=true:=by simpa using hc1
  have l6:=JS hb
  have e1:l5 s=((gD (jH s).1).1,(gD (jH s).1).2==0&&decide ((gD (jH s).1).1.length≤6)):=if_pos hb
  refine ac rfl (HK vS (by omega))<|cS 12 [4,999999] ?_
  refine pr (au rfl) (fun c2 hb2=>?_)
  cases c2
  ·have e0:l5 s=((gD (jH s).1).1,false):=by rw[e1,hb2];rfl
   refine DQ.mk<|il (fI rA rfl) rfl rfl rfl rfl<|ez ?_
   refine ag ?_
   rw[e0]
   exact bb rA rfl (am aa)
  ·have e0:l5 s=((gD (jH s).1).1,decide (((gD (jH s).1).1.length:Int)≤6)):=by rw[e1,hb2,du];congr 1;exact decide_eq_decide.2 (by omega)
   refine DQ.mk<|DC (fI rA rfl) rfl rfl (by kernel_rfl) rfl<|ez ?_
   refine ag ?_
   rw[e0]
   exact bb rA rfl (am aa)
theorem Nv {x:Int}(h0:0≤x) (h1:x≤255):IntKind.u8.wrap x=x:=by unfold IntKind.wrap;simp[IntKind.bits,IntKind.signed];omega
theorem Rv (V:Nat→Prop) (w:World): ∃it z,Tryz.prog.info? 31=some it∧it.zero=some z∧RdCs V w z.cells.toList [.i .i64 0,.e (.slice none 0 0)]:=by
 have h:(Tryz.prog.info? 31).bind (fun it=>it.zero)=some (.agg #[.int .i64 0,.slice none 0 0]):=by kernel_rfl
 cases hi:Tryz.prog.info? 31 with
 |none=>rw[hi] at h;cases h
 |some it=>rw[hi] at h;exact⟨it,_,rfl,h,j5 (.i _ _) (j5 (.e _ (fun _ e=>nomatch e) (fun _ e=>nomatch e)) lu)⟩
theorem Q5 {D:List It}(hD: ∀x∈D,ItB x) (lD:D.length≤3518437208780):Ok Tryz.prog 5 [.c (.s D.length (aj oZ D))] [.a (([.i .i64 (BH D)]++[.s ((qu D).length) (aj iG (qu D))])),.c (.b (Dd D))]:=by
 refine eG Tryz.func5 97 [.cell 2 31,.tmp 3] rfl<|ab<|ah<|ab<|ah<|ar (vP (us:=[.i .i64 12,.e (.slice none 0 0)]) (zs:=[.i .i64 0,.e (.slice none 0 0)]) GU Rv rfl rfl rfl) ?_
 refine ab<|ab<|ah<|aA ?_
 refine j7 (ι:={x9:Nat×Nat×Value×List CellD // 1≤x9.1∧x9.1≤D.length∧x9.1≤x9.2.1∧x9.2.1≤maxLen∧x9.2.2.2.length=(x9.2.1-x9.1)*4∧ ∀i,i<x9.1→xO D (D.getD i bg)=false}) (fun i=>⟨97,[(0,.v (.c (.s D.length (aj oZ D)))),(2,.p 2 0),(4,.p 4 0),(5,.v (.c (.i .i64 (i.1.1:Int)))),(91,.oe 91 i.1.1 i.1.2.1 i.1.2.2.1)],[(2,31,([.i .i64 0]++[.s 0 []])),(4,31,([.i .i64 12]++[.e i.1.2.2.1])),(91,63,aj iG (zL D i.1.1)++i.1.2.2.2)]⟩) (fun i=>D.length-i.1.1) (D.length) ?_ ?_
 ·refine ab<|ab<|ah ?_
  refine aB rfl (fun hc1=>?_) (fun hc1=>?_)
  ·have g1:0<D.length:=by have:=of_decide_eq_true hc1;omega
   have hx:=hD _ (aE (d:=bg) g1)
   obtain⟨K1,K2⟩:=Cl hx
   have xk:=hx.k
   have xn:=hx.n
   have xd:=hx.d
   refine az<|ab<|aA<|ab<|ah<|ar (aC (us:=oZ (D.getD 0 bg)++aj oZ (D.drop (0+1))) Qm rfl rfl (by omega) (ai j6 _) (aQ j6 (aK g1)) rfl) ?_
   refine ar (aJ (us:=([.i .u8 ((D.getD 0 bg).k)]++[.i .u8 ((D.getD 0 bg).n)]++[.i .u8 ((D.getD 0 bg).d)]++[.s ((D.getD 0 bg).sh.length) (aj jZ (D.getD 0 bg).sh)]++[.i .i8 ((D.getD 0 bg).x)]++[.i .i8 ((D.getD 0 bg).y)])) RA rfl (EM _ _) (j6 _) rfl) ?_
   refine ab<|dx 19 []<|aq (aS (n:=5) (us:=aj C8 NT) Rt rfl rfl rfl (by decide) (by decide) rfl) ?_
   refine aq (cC (r:=(D.getD 0 bg).n%5) rfl rfl (by decide) (gA hx.n.1) rfl) ?_
   refine aq (aC (us:=C8 (qS (D.getD 0 bg))++aj C8 (NT.drop (((D.getD 0 bg).n%5).toNat+1))) Sf rfl rfl (⟨by omega,by omega⟩) (rfl) (aQ Bq (aK (d:=PW) (show((D.getD 0 bg).n%5).toNat<5 by omega))) rfl) ?_
   refine aq (aL Sh rfl rfl rfl) ?_
   refine aq (aS (n:=5) (us:=aj jp RK) RJ rfl rfl rfl (by decide) (by decide) rfl) ?_
   refine aq (cC (r:=(D.getD 0 bg).k%5) rfl rfl (by decide) (gA hx.k.1) rfl) ?_
   refine aq (aC (us:=jp (lX (D.getD 0 bg))++aj jp (RK.drop (((D.getD 0 bg).k%5).toNat+1))) Rc rfl rfl (⟨by omega,by omega⟩) (rfl) (aQ fJ (aK (d:=0) (show((D.getD 0 bg).k%5).toNat<5 by omega))) rfl) ?_
   refine aq (aL EI rfl rfl rfl) ?_
   refine aq (cC (r:=(D.getD 0 bg).d%6) rfl rfl (by decide) (gA hx.d.1) rfl) ?_
   refine aq (bl (r:=(D.getD 0 bg).d%6) Cm qB rfl (oC (by have:=hx.d;omega) (by have:=hx.d;omega)) rfl) ?_
   refine aq (bQ (3*((D.getD 0 bg).d%6)) ((eQ (by have:=hx.d;omega) (by have:=hx.d;omega)).trans rfl) rfl)<|aq (aG (us:=([.e ((.string ((qS (D.getD 0 bg)))))]++[.i .i64 (lX (D.getD 0 bg))]++[.i .i64 (3*((D.getD 0 bg).d%6))]++[.s 0 []])) RQ NU rfl rfl rfl) ?_
   refine dV (ι:={u:Unit // xO D (D.getD 0 bg)=false}) (fun i=>⟨97,[(0,.v (.c (.s D.length (aj oZ D)))),(2,.p 2 0),(4,.p 4 0),(5,.v (.c (.i .i64 0))),(6,.p 6 0),(7,.p 7 0)],[(2,31,([.i .i64 0]++[.s 0 []])),(4,31,([.i .i64 12]++[.e (.slice none 0 0)])),(6,56,([.i .u8 ((D.getD 0 bg).k)]++[.i .u8 ((D.getD 0 bg).n)]++[.i .u8 ((D.getD 0 bg).d)]++[.s ((D.getD 0 bg).sh.length) (aj jZ (D.getD 0 bg).sh)]++[.i .i8 ((D.getD 0 bg).x)]++[.i .i8 ((D.getD 0 bg).y)])),(7,63,([.e ((.string ((qS (D.getD 0 bg)))))]++[.i .i64 (lX (D.getD 0 bg))]++[.i .i64 (3*((D.getD 0 bg).d%6))]++[.s (((nr (D.getD 0 bg))).length) (aj ao ((nr (D.getD 0 bg))))]))]⟩) ?_ ?_
   ·refine ab<|ah ?_
    refine aB rfl (fun hc2=>?_) (fun hc2=>?_)
    ·have k3:lX (D.getD 0 bg)=3:=beq_iff_eq.1 hc2
     have ix0:xO D (D.getD 0 bg)=false:=by unfold xO;rw[k3];rfl
     refine dx 20 [7,999999] ?_
     refine aq (bl (r:=(D.getD 0 bg).x) x7 qB rfl (oC (by have:=hx.x.1;omega) (by have:=hx.x.2;omega)) rfl) ?_
     refine aO rfl (eu (by first|(have:=hx.x.1;omega)|(have:=hx.y.1;omega)|(have:=hx.d;omega)) (by first|(have:=hx.x.2;omega)|(have:=hx.y.2;omega)|(have:=hx.d;omega))) ?_
     refine aq (bl (r:=(D.getD 0 bg).y) x7 qB rfl (oC (by have:=hx.y.1;omega) (by have:=hx.y.2;omega)) rfl) ?_
     refine aO rfl (eu (by first|(have:=hx.x.1;omega)|(have:=hx.y.1;omega)|(have:=hx.d;omega)) (by first|(have:=hx.x.2;omega)|(have:=hx.y.2;omega)|(have:=hx.d;omega))) ?_
     refine aq (bl (r:=(D.getD 0 bg).d) Cm qB rfl (oC (by have:=hx.d;omega) (by have:=hx.d;omega)) rfl) ?_
     refine aq (bQ ((D.getD 0 bg).d+1) ((aP (by have:=hx.d;omega) (by have:=hx.d;omega)).trans rfl) rfl) ?_
     refine aO rfl (eu (by first|(have:=hx.x.1;omega)|(have:=hx.y.1;omega)|(have:=hx.d;omega)) (by first|(have:=hx.x.2;omega)|(have:=hx.y.2;omega)|(have:=hx.d;omega))) ?_
     refine aq (aG (us:=(cR ((((D.getD 0 bg).x:Int):Rat))++cR ((((D.getD 0 bg).y:Int):Rat))++cR ((((D.getD 0 bg).d+1:Int):Rat)))) NQ Ou rfl rfl rfl) ?_
     refine aO rfl (Il (k:=IG (D.getD 0 bg)) K1 K2) ?_
     refine DQ.mk<|il (aV (us:=([.e ((.string ((qS (D.getD 0 bg)))))]++[.i .i64 (lX (D.getD 0 bg))]++[.i .i64 (3*((D.getD 0 bg).d%6))]++[.s (((gD (ju (IG (D.getD 0 bg)))).1).length) (aj ao ((gD (ju (IG (D.getD 0 bg)))).1))])) rA rfl rfl rfl rfl (dG rfl) rfl rfl) rfl rfl rfl rfl<|ez ?_
     exact⟨⟨(),ix0⟩,ak ⟨rfl,rfl,rfl,rfl,rfl,rfl,trivial⟩ ⟨rfl,rfl,rfl,congrArg (fun q:List Cv=>some (63,([.e (.string (qS (D.getD 0 bg))),.i .i64 (lX (D.getD 0 bg)),.i .i64 (3*((D.getD 0 bg).d%6)),.s q.length (aj ao q)]:List CellD))) ((if_pos k3:nr (D.getD 0 bg)=(gD (ju (IG (D.getD 0 bg)))).1).symm),trivial⟩ rfl⟩
    ·have k3: ¬lX (D.getD 0 bg)=3:=beq_eq_false_iff_ne.1 hc2
     refine ab<|ah ?_
     refine ac rfl (Nr hx.s hx.l)<|ab<|ab<|ah ?_
     refine dF (au rfl) (fun c3 hb3=>?_)
     cases c3
     ·have bo:(l5 (D.getD 0 bg).sh).2=true:=by simpa using hb3
      refine aB rfl (fun hc4=>?_) (fun hc4=>?_)
      ·have e0:tk D=true:=yv g1 (by unfold xO;rw[show(lX (D.getD 0 bg)==3)=false from beq_eq_false_iff_ne.2 k3,bo,show decide (4<D.length)=true from decide_eq_true (by have:=of_decide_eq_true hc4;omega)];rfl)
       refine ab<|ah<|ar (aG (us:=([.i .i64 0]++[.s 0 []])) GU G9 rfl rfl rfl) ?_
       refine bh ?_
       rw[show BH D=0 from if_pos e0,show qu D=[] from if_pos e0,show Dd D=false from if_pos e0]
       exact ag (bb Gb rfl (am aa))
      ·have ix0:xO D (D.getD 0 bg)=false:=by unfold xO;rw[show(lX (D.getD 0 bg)==3)=false from beq_eq_false_iff_ne.2 k3,bo,show decide (4<D.length)=false from decide_eq_false (by have:=of_decide_eq_false hc4;omega)];rfl
       refine az<|ah ?_
       refine om (aV (us:=([.e ((.string ((qS (D.getD 0 bg)))))]++[.i .i64 (lX (D.getD 0 bg))]++[.i .i64 (3*((D.getD 0 bg).d%6))]++[.s (((l5 (D.getD 0 bg).sh).1).length) (aj ao ((l5 (D.getD 0 bg).sh).1))])) rA rfl rfl rfl rfl (dG rfl) rfl rfl) ?_
       exact⟨⟨(),ix0⟩,ak ⟨rfl,rfl,rfl,rfl,rfl,rfl,trivial⟩ ⟨rfl,rfl,rfl,congrArg (fun q:List Cv=>some (63,([.e (.string (qS (D.getD 0 bg))),.i .i64 (lX (D.getD 0 bg)),.i .i64 (3*((D.getD 0 bg).d%6)),.s q.length (aj ao q)]:List CellD))) ((if_neg k3:nr (D.getD 0 bg)=(l5 (D.getD 0 bg).sh).1).symm),trivial⟩ rfl⟩
     ·have bo:(l5 (D.getD 0 bg).sh).2=false:=by simpa using hb3
      have e0:tk D=true:=yv g1 (by unfold xO;rw[show(lX (D.getD 0 bg)==3)=false from beq_eq_false_iff_ne.2 k3,bo];rfl)
      refine iB rfl<|ab<|ah<|ar (aG (us:=([.i .i64 0]++[.s 0 []])) GU G9 rfl rfl rfl) ?_
      refine bh ?_
      rw[show BH D=0 from if_pos e0,show qu D=[] from if_pos e0,show Dd D=false from if_pos e0]
      exact ag (bb Gb rfl (am aa))
   ·rintro⟨⟨⟩,ix⟩
    replace ix:xO D (D.getD 0 bg)=false:=ix
    try dsimp only
    refine dV (ι:=Unit) (fun i=>⟨97,[(0,.v (.c (.s D.length (aj oZ D)))),(2,.p 2 0),(4,.p 4 0),(5,.v (.c (.i .i64 0))),(6,.p 6 0),(7,.p 7 0)],[(2,31,([.i .i64 0]++[.s 0 []])),(4,31,([.i .i64 12]++[.e (.slice none 0 0)])),(6,56,([.i .u8 ((D.getD 0 bg).k)]++[.i .u8 ((D.getD 0 bg).n)]++[.i .u8 ((D.getD 0 bg).d)]++[.s ((D.getD 0 bg).sh.length) (aj jZ (D.getD 0 bg).sh)]++[.i .i8 ((D.getD 0 bg).x)]++[.i .i8 ((D.getD 0 bg).y)])),(7,63,([.e ((.string ((qS (D.getD 0 bg)))))]++[.i .i64 (lX (D.getD 0 bg))]++[.i .i64 (Fr (D.getD 0 bg))]++[.s (((nr (D.getD 0 bg))).length) (aj ao ((nr (D.getD 0 bg))))]))]⟩) ?_ ?_
    ·refine ab<|ah ?_
     refine aB rfl (fun hc5=>?_) (fun hc5=>?_)
     ·have k4:lX (D.getD 0 bg)=4:=beq_iff_eq.1 hc5
      refine ah ?_
      refine ar (gz (r:=(D.getD 0 bg).d/6) rfl rfl (by decide) ((congrArg _ (nv hx.d.1)).trans (Nv (by have:=hx.d;omega) (by have:=hx.d;omega))) rfl) ?_
      refine ar (cC (r:=(D.getD 0 bg).d/6%2) rfl rfl (by decide) (gA (by have:=hx.d;omega)) rfl) ?_
      refine ar (bl (r:=(D.getD 0 bg).d/6%2) Cm qB rfl (oC (by have:=hx.d;omega) (by have:=hx.d;omega)) rfl) ?_
      refine ar (bQ (12+(D.getD 0 bg).d/6%2) ((aP (by have:=hx.d;omega) (by have:=hx.d;omega)).trans rfl) rfl) ?_
      refine om (aV (us:=([.e ((.string ((qS (D.getD 0 bg)))))]++[.i .i64 (lX (D.getD 0 bg))]++[.i .i64 (12+(D.getD 0 bg).d/6%2)]++[.s (((nr (D.getD 0 bg))).length) (aj ao ((nr (D.getD 0 bg))))])) Ik rfl rfl rfl rfl (dG rfl) rfl rfl) ?_
      exact⟨(),ak ⟨rfl,rfl,rfl,rfl,rfl,rfl,trivial⟩ ⟨rfl,rfl,rfl,congrArg (fun q:Int=>some (63,([.e (.string (qS (D.getD 0 bg))),.i .i64 (lX (D.getD 0 bg)),.i .i64 q,.s (nr (D.getD 0 bg)).length (aj ao (nr (D.getD 0 bg)))]:List CellD))) ((if_pos k4:Fr (D.getD 0 bg)=_).symm),trivial⟩ rfl⟩
     ·have k4: ¬lX (D.getD 0 bg)=4:=beq_eq_false_iff_ne.1 hc5
      refine az ?_
      exact⟨(),ak ⟨rfl,rfl,rfl,rfl,rfl,rfl,trivial⟩ ⟨rfl,rfl,rfl,congrArg (fun q:Int=>some (63,([.e (.string (qS (D.getD 0 bg))),.i .i64 (lX (D.getD 0 bg)),.i .i64 q,.s (nr (D.getD 0 bg)).length (aj ao (nr (D.getD 0 bg)))]:List CellD))) ((if_neg k4:Fr (D.getD 0 bg)=_).symm),trivial⟩ rfl⟩
    ·rintro⟨⟩
     try dsimp only
     refine bR<|fK 1<|Ls (eL K6 rfl) rfl<|fK 1<|b9 (aS (n:=1) (us:=([.e ((.string ((qS (D.getD 0 bg)))))]++[.i .i64 (lX (D.getD 0 bg))]++[.i .i64 (Fr (D.getD 0 bg))]++[.s (((nr (D.getD 0 bg))).length) (aj ao ((nr (D.getD 0 bg))))])) LM rfl rfl rfl (by decide) (by decide) rfl) ?_
     refine gN (ys:=([.e ((.string ((qS (D.getD 0 bg)))))]++[.i .i64 (lX (D.getD 0 bg))]++[.i .i64 (Fr (D.getD 0 bg))]++[.s (((nr (D.getD 0 bg))).length) (aj ao ((nr (D.getD 0 bg))))])) LM rfl rfl rfl (by decide) (by decide) (by decide) rfl rfl (fun cg6 rg6 hga6 hgb6 hgc6=>?_)
     refine BZ 91 (RX GF rfl) rfl rfl (fun vg6=>?_)
     refine fV (wi (us:=([.i .i64 12]++[.e vg6])) K6 rfl rfl rfl (dG rfl) rfl rfl) ?_
     refine bv<|ah<|ar (i6 (r:=1) rfl rfl rfl rfl) ?_
     exact⟨⟨⟨1,cg6,vg6,rg6⟩,aX _,g1,hga6,hgb6,hgc6,fun i hi=>by rw[show i=0 by omega];exact ix⟩,ak ⟨rfl,rfl,rfl,rfl,rfl,trivial⟩ ⟨rfl,rfl,congrArg (fun q=>some (63,q++rg6)) (show([.e (.string (qS (D.getD 0 bg)))]++[.i .i64 (lX (D.getD 0 bg))]++[.i .i64 (Fr (D.getD 0 bg))]++[.s (nr (D.getD 0 bg)).length (aj ao (nr (D.getD 0 bg)))])=aj iG (zL D 1) from rfl),trivial⟩ rfl,by show D.length-1<D.length;omega⟩
  ·have e0:tk D=false:=Ii fun i hi=>absurd hi (by have:=of_decide_eq_false hc1;omega)
   have hp:D.length=0:=by have:=of_decide_eq_false hc1;omega
   refine aW<|ab<|I6 (p:=4) (off:=1) (us:=([.i .i64 12]++[.s 0 []])) rfl rfl (fun _ _=>.s0 none 0 (by decide)) rfl<|ah ?_
   refine bh ?_
   rw[show BH D=12 from if_neg (by rw[e0];decide),show Dd D=decide ((D.length:Int)≤4) from if_neg (by rw[e0];decide),show qu D=[] from(if_neg (by rw[e0];decide)).trans (by rw[hp];rfl)]
   exact ag (bb Gb rfl (am aa))
 ·rintro⟨⟨n,c,vv,rs⟩,h1,h2,h3,h4,h5,hn⟩
  dsimp only at h1 h2 h3 h4 h5 hn
  dsimp only
  refine ab<|ab<|ah ?_
  refine aB rfl (fun hc7=>?_) (fun hc7=>?_)
  ·have g1:n<D.length:=by have:=of_decide_eq_true hc7;omega
   have hx:=hD _ (aE (d:=bg) g1)
   obtain⟨K1,K2⟩:=Cl hx
   have xk:=hx.k
   have xn:=hx.n
   have xd:=hx.d
   refine az<|ab<|aA<|ab<|ah<|ar (aC (us:=oZ (D.getD n bg)++aj oZ (D.drop (n+1))) Qm rfl rfl (by omega) (ai j6 _) (aQ j6 (aK g1)) rfl) ?_
   refine ar (aJ (us:=([.i .u8 ((D.getD n bg).k)]++[.i .u8 ((D.getD n bg).n)]++[.i .u8 ((D.getD n bg).d)]++[.s ((D.getD n bg).sh.length) (aj jZ (D.getD n bg).sh)]++[.i .i8 ((D.getD n bg).x)]++[.i .i8 ((D.getD n bg).y)])) RA rfl (EM _ _) (j6 _) rfl) ?_
   refine ab<|dx 19 []<|aq (aS (n:=5) (us:=aj C8 NT) Rt rfl rfl rfl (by decide) (by decide) rfl) ?_
   refine aq (cC (r:=(D.getD n bg).n%5) rfl rfl (by decide) (gA hx.n.1) rfl) ?_
   refine aq (aC (us:=C8 (qS (D.getD n bg))++aj C8 (NT.drop (((D.getD n bg).n%5).toNat+1))) Sf rfl rfl (⟨by omega,by omega⟩) (rfl) (aQ Bq (aK (d:=PW) (show((D.getD n bg).n%5).toNat<5 by omega))) rfl) ?_
   refine aq (aL Sh rfl rfl rfl) ?_
   refine aq (aS (n:=5) (us:=aj jp RK) RJ rfl rfl rfl (by decide) (by decide) rfl) ?_
   refine aq (cC (r:=(D.getD n bg).k%5) rfl rfl (by decide) (gA hx.k.1) rfl) ?_
   refine aq (aC (us:=jp (lX (D.getD n bg))++aj jp (RK.drop (((D.getD n bg).k%5).toNat+1))) Rc rfl rfl (⟨by omega,by omega⟩) (rfl) (aQ fJ (aK (d:=0) (show((D.getD n bg).k%5).toNat<5 by omega))) rfl) ?_
   refine aq (aL EI rfl rfl rfl) ?_
   refine aq (cC (r:=(D.getD n bg).d%6) rfl rfl (by decide) (gA hx.d.1) rfl) ?_
   refine aq (bl (r:=(D.getD n bg).d%6) Cm qB rfl (oC (by have:=hx.d;omega) (by have:=hx.d;omega)) rfl) ?_
   refine aq (bQ (3*((D.getD n bg).d%6)) ((eQ (by have:=hx.d;omega) (by have:=hx.d;omega)).trans rfl) rfl)<|aq (aG (us:=([.e ((.string ((qS (D.getD n bg)))))]++[.i .i64 (lX (D.getD n bg))]++[.i .i64 (3*((D.getD n bg).d%6))]++[.s 0 []])) RQ NU rfl rfl rfl) ?_
   refine dV (ι:={u:Unit // xO D (D.getD n bg)=false}) (fun i=>⟨97,[(0,.v (.c (.s D.length (aj oZ D)))),(2,.p 2 0),(4,.p 4 0),(5,.v (.c (.i .i64 (n:Int)))),(6,.p 6 0),(7,.p 7 0),(91,.oe 91 n c vv)],[(2,31,([.i .i64 0]++[.s 0 []])),(4,31,([.i .i64 12]++[.e vv])),(6,56,([.i .u8 ((D.getD n bg).k)]++[.i .u8 ((D.getD n bg).n)]++[.i .u8 ((D.getD n bg).d)]++[.s ((D.getD n bg).sh.length) (aj jZ (D.getD n bg).sh)]++[.i .i8 ((D.getD n bg).x)]++[.i .i8 ((D.getD n bg).y)])),(7,63,([.e ((.string ((qS (D.getD n bg)))))]++[.i .i64 (lX (D.getD n bg))]++[.i .i64 (3*((D.getD n bg).d%6))]++[.s (((nr (D.getD n bg))).length) (aj ao ((nr (D.getD n bg))))])),(91,63,aj iG (zL D n)++rs)]⟩) ?_ ?_
   ·refine ab<|ah ?_
    refine aB rfl (fun hc8=>?_) (fun hc8=>?_)
    ·have k3:lX (D.getD n bg)=3:=beq_iff_eq.1 hc8
     have ix0:xO D (D.getD n bg)=false:=by unfold xO;rw[k3];rfl
     refine dx 20 [7,999999] ?_
     refine aq (bl (r:=(D.getD n bg).x) x7 qB rfl (oC (by have:=hx.x.1;omega) (by have:=hx.x.2;omega)) rfl) ?_
     refine aO rfl (eu (by first|(have:=hx.x.1;omega)|(have:=hx.y.1;omega)|(have:=hx.d;omega)) (by first|(have:=hx.x.2;omega)|(have:=hx.y.2;omega)|(have:=hx.d;omega))) ?_
     refine aq (bl (r:=(D.getD n bg).y) x7 qB rfl (oC (by have:=hx.y.1;omega) (by have:=hx.y.2;omega)) rfl) ?_
     refine aO rfl (eu (by first|(have:=hx.x.1;omega)|(have:=hx.y.1;omega)|(have:=hx.d;omega)) (by first|(have:=hx.x.2;omega)|(have:=hx.y.2;omega)|(have:=hx.d;omega))) ?_
     refine aq (bl (r:=(D.getD n bg).d) Cm qB rfl (oC (by have:=hx.d;omega) (by have:=hx.d;omega)) rfl) ?_
     refine aq (bQ ((D.getD n bg).d+1) ((aP (by have:=hx.d;omega) (by have:=hx.d;omega)).trans rfl) rfl) ?_
     refine aO rfl (eu (by first|(have:=hx.x.1;omega)|(have:=hx.y.1;omega)|(have:=hx.d;omega)) (by first|(have:=hx.x.2;omega)|(have:=hx.y.2;omega)|(have:=hx.d;omega))) ?_
     refine aq (aG (us:=(cR ((((D.getD n bg).x:Int):Rat))++cR ((((D.getD n bg).y:Int):Rat))++cR ((((D.getD n bg).d+1:Int):Rat)))) NQ Ou rfl rfl rfl) ?_
     refine aO rfl (Il (k:=IG (D.getD n bg)) K1 K2) ?_
     refine DQ.mk<|il (aV (us:=([.e ((.string ((qS (D.getD n bg)))))]++[.i .i64 (lX (D.getD n bg))]++[.i .i64 (3*((D.getD n bg).d%6))]++[.s (((gD (ju (IG (D.getD n bg)))).1).length) (aj ao ((gD (ju (IG (D.getD n bg)))).1))])) rA rfl rfl rfl rfl (dG rfl) rfl rfl) rfl rfl rfl rfl<|ez ?_
     exact⟨⟨(),ix0⟩,ak ⟨rfl,rfl,rfl,rfl,rfl,rfl,rfl,trivial⟩ ⟨rfl,rfl,rfl,congrArg (fun q:List Cv=>some (63,([.e (.string (qS (D.getD n bg))),.i .i64 (lX (D.getD n bg)),.i .i64 (3*((D.getD n bg).d%6)),.s q.length (aj ao q)]:List CellD))) ((if_pos k3:nr (D.getD n bg)=(gD (ju (IG (D.getD n bg)))).1).symm),rfl,trivial⟩ rfl⟩
    ·have k3: ¬lX (D.getD n bg)=3:=beq_eq_false_iff_ne.1 hc8
     refine ab<|ah ?_
     refine ac rfl (Nr hx.s hx.l)<|ab<|ab<|ah ?_
     refine dF (au rfl) (fun c9 hb9=>?_)
     cases c9
     ·have bo:(l5 (D.getD n bg).sh).2=true:=by simpa using hb9
      refine aB rfl (fun hc10=>?_) (fun hc10=>?_)
      ·have e0:tk D=true:=yv g1 (by unfold xO;rw[show(lX (D.getD n bg)==3)=false from beq_eq_false_iff_ne.2 k3,bo,show decide (4<D.length)=true from decide_eq_true (by have:=of_decide_eq_true hc10;omega)];rfl)
       refine ab<|ah<|ar (aG (us:=([.i .i64 0]++[.s 0 []])) GU G9 rfl rfl rfl) ?_
       refine bh ?_
       rw[show BH D=0 from if_pos e0,show qu D=[] from if_pos e0,show Dd D=false from if_pos e0]
       exact ag (bb Gb rfl (am aa))
      ·have ix0:xO D (D.getD n bg)=false:=by unfold xO;rw[show(lX (D.getD n bg)==3)=false from beq_eq_false_iff_ne.2 k3,bo,show decide (4<D.length)=false from decide_eq_false (by have:=of_decide_eq_false hc10;omega)];rfl
       refine az<|ah ?_
       refine om (aV (us:=([.e ((.string ((qS (D.getD n bg)))))]++[.i .i64 (lX (D.getD n bg))]++[.i .i64 (3*((D.getD n bg).d%6))]++[.s (((l5 (D.getD n bg).sh).1).length) (aj ao ((l5 (D.getD n bg).sh).1))])) rA rfl rfl rfl rfl (dG rfl) rfl rfl) ?_
       exact⟨⟨(),ix0⟩,ak ⟨rfl,rfl,rfl,rfl,rfl,rfl,rfl,trivial⟩ ⟨rfl,rfl,rfl,congrArg (fun q:List Cv=>some (63,([.e (.string (qS (D.getD n bg))),.i .i64 (lX (D.getD n bg)),.i .i64 (3*((D.getD n bg).d%6)),.s q.length (aj ao q)]:List CellD))) ((if_neg k3:nr (D.getD n bg)=(l5 (D.getD n bg).sh).1).symm),rfl,trivial⟩ rfl⟩
     ·have bo:(l5 (D.getD n bg).sh).2=false:=by simpa using hb9
      have e0:tk D=true:=yv g1 (by unfold xO;rw[show(lX (D.getD n bg)==3)=false from beq_eq_false_iff_ne.2 k3,bo];rfl)
      refine iB rfl<|ab<|ah<|ar (aG (us:=([.i .i64 0]++[.s 0 []])) GU G9 rfl rfl rfl) ?_
      refine bh ?_
      rw[show BH D=0 from if_pos e0,show qu D=[] from if_pos e0,show Dd D=false from if_pos e0]
      exact ag (bb Gb rfl (am aa))
   ·rintro⟨⟨⟩,ix⟩
    replace ix:xO D (D.getD n bg)=false:=ix
    try dsimp only
    refine dV (ι:=Unit) (fun i=>⟨97,[(0,.v (.c (.s D.length (aj oZ D)))),(2,.p 2 0),(4,.p 4 0),(5,.v (.c (.i .i64 (n:Int)))),(6,.p 6 0),(7,.p 7 0),(91,.oe 91 n c vv)],[(2,31,([.i .i64 0]++[.s 0 []])),(4,31,([.i .i64 12]++[.e vv])),(6,56,([.i .u8 ((D.getD n bg).k)]++[.i .u8 ((D.getD n bg).n)]++[.i .u8 ((D.getD n bg).d)]++[.s ((D.getD n bg).sh.length) (aj jZ (D.getD n bg).sh)]++[.i .i8 ((D.getD n bg).x)]++[.i .i8 ((D.getD n bg).y)])),(7,63,([.e ((.string ((qS (D.getD n bg)))))]++[.i .i64 (lX (D.getD n bg))]++[.i .i64 (Fr (D.getD n bg))]++[.s (((nr (D.getD n bg))).length) (aj ao ((nr (D.getD n bg))))])),(91,63,aj iG (zL D n)++rs)]⟩) ?_ ?_
    ·refine ab<|ah ?_
     refine aB rfl (fun hc11=>?_) (fun hc11=>?_)
     ·have k4:lX (D.getD n bg)=4:=beq_iff_eq.1 hc11
      refine ah ?_
      refine ar (gz (r:=(D.getD n bg).d/6) rfl rfl (by decide) ((congrArg _ (nv hx.d.1)).trans (Nv (by have:=hx.d;omega) (by have:=hx.d;omega))) rfl) ?_
      refine ar (cC (r:=(D.getD n bg).d/6%2) rfl rfl (by decide) (gA (by have:=hx.d;omega)) rfl) ?_
      refine ar (bl (r:=(D.getD n bg).d/6%2) Cm qB rfl (oC (by have:=hx.d;omega) (by have:=hx.d;omega)) rfl) ?_
      refine ar (bQ (12+(D.getD n bg).d/6%2) ((aP (by have:=hx.d;omega) (by have:=hx.d;omega)).trans rfl) rfl) ?_
      refine om (aV (us:=([.e ((.string ((qS (D.getD n bg)))))]++[.i .i64 (lX (D.getD n bg))]++[.i .i64 (12+(D.getD n bg).d/6%2)]++[.s (((nr (D.getD n bg))).length) (aj ao ((nr (D.getD n bg))))])) Ik rfl rfl rfl rfl (dG rfl) rfl rfl) ?_
      exact⟨(),ak ⟨rfl,rfl,rfl,rfl,rfl,rfl,rfl,trivial⟩ ⟨rfl,rfl,rfl,congrArg (fun q:Int=>some (63,([.e (.string (qS (D.getD n bg))),.i .i64 (lX (D.getD n bg)),.i .i64 q,.s (nr (D.getD n bg)).length (aj ao (nr (D.getD n bg)))]:List CellD))) ((if_pos k4:Fr (D.getD n bg)=_).symm),rfl,trivial⟩ rfl⟩
     ·have k4: ¬lX (D.getD n bg)=4:=beq_eq_false_iff_ne.1 hc11
      refine az ?_
      exact⟨(),ak ⟨rfl,rfl,rfl,rfl,rfl,rfl,rfl,trivial⟩ ⟨rfl,rfl,rfl,congrArg (fun q:Int=>some (63,([.e (.string (qS (D.getD n bg))),.i .i64 (lX (D.getD n bg)),.i .i64 q,.s (nr (D.getD n bg)).length (aj ao (nr (D.getD n bg)))]:List CellD))) ((if_neg k4:Fr (D.getD n bg)=_).symm),rfl,trivial⟩ rfl⟩
    ·rintro⟨⟩
     try dsimp only
     refine bR<|fK 1<|JX 91 (eL K6 rfl) rfl (by decide) rfl<|fK 1<|b9 (aS (n:=1) (us:=([.e ((.string ((qS (D.getD n bg)))))]++[.i .i64 (lX (D.getD n bg))]++[.i .i64 (Fr (D.getD n bg))]++[.s (((nr (D.getD n bg))).length) (aj ao ((nr (D.getD n bg))))])) LM rfl rfl rfl (by decide) (by decide) rfl) ?_
     refine G7 (us:=aj iG (zL D n)) (rest:=rs) (ys:=([.e ((.string ((qS (D.getD n bg)))))]++[.i .i64 (lX (D.getD n bg))]++[.i .i64 (Fr (D.getD n bg))]++[.s (((nr (D.getD n bg))).length) (aj ao ((nr (D.getD n bg))))])) LM rfl rfl rfl (by rw[ai dg,pH]) (by assumption) rfl (by decide) (by omega) (by assumption) (by omega) (mJ (by omega)) (.inl rfl) rfl (fun cg12 rg12 hga12 hgb12 hgc12=>?_)
     refine BZ 91 (RX GF rfl) rfl rfl (fun vg12=>?_)
     refine fV (wi (us:=([.i .i64 12]++[.e vg12])) K6 rfl rfl rfl (dG rfl) rfl rfl) ?_
     refine bv<|ah<|ar (ba (by omega) rfl) ?_
     exact⟨⟨⟨n+1,cg12,vg12,rg12⟩,by omega,g1,hga12,hgb12,hgc12,fun i hi=>(fm.1 hi).elim (hn i) fun e=>by rw[e];exact ix⟩,ak ⟨rfl,rfl,rfl,rfl,rfl,trivial⟩ ⟨rfl,rfl,congrArg (fun q=>some (63,q++rg12)) (show aj iG (zL D n)++([.e (.string (qS (D.getD n bg)))]++[.i .i64 (lX (D.getD n bg))]++[.i .i64 (Fr (D.getD n bg))]++[.s (nr (D.getD n bg)).length (aj ao (nr (D.getD n bg)))])=aj iG (zL D (n+1)) from by rw[(show zL D (n+1)=zL D n++[Si (D.getD n bg)] from rfl),ck,dt];rfl),trivial⟩ rfl,by show D.length-(n+1)<D.length-n;omega⟩
  ·have hp:n=D.length:=by have:=of_decide_eq_false hc7;omega
   have e0:tk D=false:=Ii fun i hi=>hn i (by omega)
   refine aW<|ab<|L1 (s:=91) (p:=4) (off:=1) (k:=91) (m:=4) (us:=aj iG (zL D n)) (vs:=([.i .i64 12]++[.s n (aj iG (zL D n))])) rfl rfl rfl (by decide) rfl (ia (n:=n) (by rw[ai dg,pH]) (by assumption) (by omega)) (by omega) (by assumption) (eg (by rw[ai dg,pH])) rfl<|ah ?_
   refine bh ?_
   rw[show BH D=12 from if_neg (by rw[e0];decide),show Dd D=decide ((D.length:Int)≤4) from if_neg (by rw[e0];decide),show qu D=zL D n from(if_neg (by rw[e0];decide)).trans (by rw[hp]),pH]
   exact ag (bb Gb rfl (am aa))
end Go.Proofs.YtkfgimjmgfoneaaGreatDoor
namespace Go.Proofs.YtkfgimjmgfoneaaGreatDoor
open Go.RowKit
variable {i k:Nat}
def dep (d:Int) (n k:Nat):Int:=((k+1:Int)*d+n-1)/n
def vO (d:Int) (n k:Nat):List Int:=(List.range k).map (dep d n)++List.replicate (n-k) 0
theorem G8 (d:Int) (n k:Nat) (h:k≤n):(vO d n k).length=n:=by simp[vO];omega
theorem Id (d:Int) (n k:Nat) (h:k<n):(vO d n k).set k (dep d n k)=vO d n (k+1):=by
 unfold vO
 rw[sA,qO,iP,List.set_append_right _ _ (by simp)]
 obtain⟨m,hm⟩: ∃m,n-k=m+1:=⟨n-k-1,by omega⟩
 rw[hm,show n-(k+1)=m from by omega]
 simp[List.replicate_succ]
theorem Dp (a b q:Int) (w:World) (hq:(a+b-1)/b=q) (ha:1≤a) (ha':a≤1000000000000000000) (hb:1≤b) (hb':b≤1000000000):
 Calls Tryz.prog 28 #[.int .i64 a,.int .i64 b] w fun e w'=>e=.returned (.int .i64 q)∧w=w':=by
 have H:=eK hq;clear hq
 go_enter Tryz.func28,Tryz.ntmps28
 go_wp2
 go_ret
 exact⟨Ld H.out,rfl⟩
theorem Pf (d s:Int) (w:World) (h:d<1∨10000000<d∨s<1∨10000000<s):
 Calls Tryz.prog 12 #[.int .i64 d,.int .i64 s] w fun e w'=>e=.returned (.tuple #[.slice none 0 0,.int .i64 1])∧w=w':=by
 by_cases h1:d<1
 ·clear h
  go_enter Tryz.func12,Tryz.ntmps12
  go_wp2
  go_ret2
  exact⟨rfl,rfl⟩
 ·by_cases h2:10000000<d
  ·clear h
   go_enter Tryz.func12,Tryz.ntmps12
   go_wp2
   go_ret2
   exact⟨rfl,rfl⟩
  ·by_cases h3:s<1
   ·clear h
    go_enter Tryz.func12,Tryz.ntmps12
    go_wp2
    go_ret2
    exact⟨rfl,rfl⟩
   ·have h4:10000000<s:=by omega
    clear h
    go_enter Tryz.func12,Tryz.ntmps12
    go_wp2
    go_ret2
    exact⟨rfl,rfl⟩
theorem L9 (d s:Int) (w:World) (h1:1≤d) (h2:d≤10000000) (h3:1≤s) (h4:s≤10000000) (h:1000<(d+s-1)/s):
 Calls Tryz.prog 12 #[.int .i64 d,.int .i64 s] w fun e w'=>e=.returned (.tuple #[.slice none 0 0,.int .i64 3])∧w=w':=by
 go_enter Tryz.func12,Tryz.ntmps12
 go_wp2_with (go_at_call 28;refine(Dp _ _ _ _ rfl (by omega) (by omega) (by omega) (by omega)).mono ?_;rintro e w' ⟨rfl,rfl⟩)
 go_ret2
 exact⟨rfl,rfl⟩
theorem H6:(Tryz.prog.info? 2).map (fun i=>(i.zero,i.size,i.bytes))=some (some (.int .i64 0),1,8):=by kernel_rfl
set_option maxRecDepth 20000 in
set_option maxHeartbeats 400000 in
theorem E4 (d s:Int) (n:Nat) (w:World) (h1:1≤d) (h2:d≤10000000) (h3:1≤s) (h4:s≤10000000) (h:(d+s-1)/s=n) (h5:n≤1000) (h6:1≤n):
 Calls Tryz.prog 12 #[.int .i64 d,.int .i64 s] w fun e w'=> ∃v,e=.returned (.tuple #[v,.int .i64 0])∧w'.ownsRow w.heap.size 2 1 v n ((vO d n n).map (Value.int .i64))∧Below w.heap.size w w':=by
 obtain⟨i0,hi0,hz0,hz1,hz2⟩:=info_parts H6
 have H:=eK h;clear h
 go_enter Tryz.func12,Tryz.ntmps12
 go_wp2_with (first
  |(go_at_call 28;refine(Dp _ _ n _ H.out (by omega) (by omega) (by omega) (by omega)).mono ?_;rintro e w' ⟨rfl,rfl⟩)
  |(at_make;refine wpList_make_full _ rfl _ _ 22 rfl w.heap.size 2 i0 (.int .i64 0) 1 Tryz.underlying22 hi0 hz0 hz1 _ _ _ _ n rfl rfl rfl rfl (by rw[hz2];omega) (by unfold maxLen;omega) (aX _) ?_;intro w1 hown hgrow))
 go_loopw [32] (fun i wr=> ∃k:Nat,k≤n∧i=.int .i64 k∧wr.ownsRow w.heap.size 2 1 (.slice (some ⟨w.heap.size,0,none⟩) n n) n ((vO d n k).map (Value.int .i64))∧Below w.heap.size w wr)
  (fun i _=>n-(intOf i).toNat)
 case atStart=>
  refine⟨0,cY _,rfl,?_,(bP _ _).grown hgrow (aX _) (by simp)⟩
  have e:(madeCells (Value.int .i64 0).cells (n*1)).toList=(vO d n 0).map (Value.int .i64):=by
   rw[Nat.mul_one];exact(toList_madeCells_one _ n).trans (by simp[vO])
  rw[←e];exact hown
 case round=>
  obtain⟨k,hk,rfl,hown',hbel⟩:=hrel
  have hz:=hbel.size
  by_cases hlt:k<n
  ·have hfz:=hown'.frozenAt k
   have hcell:=hown'.cellAt k (by omega)
   obtain⟨x,hx⟩: ∃x,((vO d n k).map (Value.int .i64))[k]? =some x:=⟨_,d7 (by simp[G8 d n k hk];omega)⟩
   rw[hx] at hcell;clear hx
   have hst:=hown'.stored k (.int .i64 (dep d n k))
   have hb0:0≤((k:Int)+1)*d:=lC (by omega) (by omega)
   have hb1:1≤((k:Int)+1)*d:=by
    have:=pj (show(1:Int)≤k+1 by omega) h1 (by omega) (by omega);omega
   have hb2:((k:Int)+1)*d≤10000000000:=by
    have:=pj (show((k:Int)+1)≤1000 by omega) h2 (by omega) (by omega);omega
   go_wp2_with (go_at_call 28;refine(Dp _ _ (dep d n k) _ rfl (by omega) (by omega) (by omega) (by omega)).mono ?_;rintro e w' ⟨rfl,rfl⟩)
   go_roundw
   case rel=>
    refine⟨k+1,by omega,by go_num,?_,hbel.grown hst.2 hz (by simp)⟩
    have h1:=hst.1
    rwa [←List.map_set,Id d n k hlt] at h1
   case measure=>simp[intOf];omega
  ·obtain rfl:k=n:=by omega
   go_wp2
   go_ret2
   exact⟨_,rfl,hown',hbel⟩
structure OpR where
 kind:Int
 feat:Int
 tool:Int
 da:Option Addr
 dn:Nat
 dc:Nat
 leave:Int
 ds:List Int
 deriving Inhabited
def OpR.cells (o:OpR):List Value:=[.int .i64 o.kind,.int .i64 o.feat,.int .i64 o.tool,.slice o.da o.dn o.dc,.int .i64 o.leave]
def RdO (w:World) (A:Option Addr) (n:Nat) (os:List OpR):Prop:=
 os.length=n∧(0<n→ ∃b off,A=some ⟨b,off,none⟩∧b<w.heap.size∧ ∀i o,os[i]? =some o→ ∀j u,o.cells[j]? =some u→w.cell? ⟨b,off+i*5+j,none⟩=some u)∧
 ∀o∈os,RdI .i64 w o.da o.dn o.ds
section
variable {w w':World}{n:Nat}{A:Option Addr}{os:List OpR}
theorem RdO.below (h:RdO w A n os) (hb:Below w.heap.size w w'):RdO w' A n os:=
 ⟨h.1,fun hn=>by
  obtain⟨b,off,e,hlt,hc⟩:=h.2.1 hn
  exact⟨b,off,e,mB hlt hb.size,fun i o ho j u hu=>(hb.cell (p:=⟨b,off+i*5+j,none⟩) hlt).trans (hc i o ho j u hu)⟩,
  fun o ho=>(h.2.2 o ho).below hb⟩
theorem RdO.take (h:RdO w A n os) (k:Nat) (hk:k≤n):RdO w A k (os.take k):=
 ⟨by rw[cX,h.1];omega,(fun hk0=>by
  obtain⟨b,off,e,hlt,hc⟩:=h.2.1 (by omega)
  refine⟨b,off,e,hlt,fun i o ho=>hc i o ?_⟩
  rw[lg] at ho
  split at ho
  ·exact ho
  ·cases ho),fun o ho=>h.2.2 o (tB ho)⟩
theorem RdO.at_ (h:RdO w A n os) (hi:i<n): ∃b off o,A=some ⟨b,off,none⟩∧b<w.heap.size∧Hid (os[i]? =some o)∧
 w.cell? ⟨b,off+i*5,none⟩=some (.int .i64 o.kind)∧w.cell? ⟨b,off+i*5+1,none⟩=some (.int .i64 o.feat)∧w.cell? ⟨b,off+i*5+2,none⟩=some (.int .i64 o.tool)∧
 w.cell? ⟨b,off+i*5+3,none⟩=some (.slice o.da o.dn o.dc)∧w.cell? ⟨b,off+i*5+4,none⟩=some (.int .i64 o.leave)∧RdI .i64 w o.da o.dn o.ds:=by
 obtain⟨b,off,e,hlt,hc⟩:=h.2.1 (by omega)
 have hl:i<os.length:=by have:=h.1;omega
 have ho:os[i]? =some os[i]:=d7 hl
 have hq:=hc i _ ho
 exact⟨b,off,os[i],e,hlt,ho,hq 0 _ rfl,hq 1 _ rfl,hq 2 _ rfl,hq 3 _ rfl,hq 4 _ rfl,h.2.2 _ (sT hl)⟩
end
def Oi (a b:OpR):Bool:=(b.kind==5&&a.kind !=5)||(a.feat==b.feat&&a.kind==1&&(b.kind==2||b.kind==4))
def row (os:List OpR) (a:OpR) (i k:Nat):List (Nat×Nat):=((List.range k).filter fun j=>Oi a (os.getD j default)).map fun j=>(i,j)
def oA (os:List OpR) (i:Nat):List (Nat×Nat):=(List.range i).flatMap fun a=>row os (os.getD a default) a os.length
def eP (l:List (Nat×Nat)):List Value:=l.flatMap fun p=>[.int .i64 p.1,.int .i64 p.2]
theorem Mf {os:List OpR}{a b:OpR}(hb:os[k]? =some b) (h:Oi a b=true):row os a i (k+1)=row os a i k++[(i,k)]:=by
 unfold row
 rw[sA,List.filter_append,qO]
 simp[hb,h]
theorem Pn {os:List OpR}{a b:OpR}(hb:os[k]? =some b) (h:Oi a b=false):row os a i (k+1)=row os a i k:=by
 unfold row
 rw[sA,List.filter_append,qO]
 simp[hb,h]
theorem Fa {os:List OpR}{a:OpR}{n:Nat}(ha:os[i]? =some a) (hn:os.length=n):oA os (i+1)=oA os i++row os a i n:=by
 unfold oA
 rw[sA,List.flatMap_append]
 simp[ha,hn]
theorem H8 (os:List OpR) (a:OpR) (i k:Nat):(row os a i k).length≤k:=by
 unfold row;rw[qy];exact iz (List.length_filter_le _ _) (by simp)
theorem Mn (os:List OpR) (i:Nat):(oA os i).length≤i*os.length:=by
 unfold oA
 induction i with
 |zero=>simp
 |succ i ih=>rw[sA,List.flatMap_append,bN];simp only[List.flatMap_cons,List.flatMap_nil,lN];have:=H8 os (os.getD i default) i os.length;rw[gP];omega
def RdP (w:World) (A:Option Addr) (n:Nat) (l:List (Nat×Nat)):Prop:=Rd w 2 A n (eP l)
theorem wQ (l:List (Nat×Nat)):(eP l).length=l.length*2:=by
 induction l with
 |nil=>rfl
 |cons x l ih=>rw[eP,List.flatMap_cons,bN,←eP,ih];simp;omega
theorem wW (l:List (Nat×Nat)) (k:Nat) (x:Nat×Nat) (h:l[k]? =some x):(eP l)[k*2]? =some (.int .i64 x.1)∧(eP l)[k*2+1]? =some (.int .i64 x.2):=by
 induction l generalizing k with
 |nil=>simp at h
 |cons y l ih=>
  cases k with
  |zero=>simp at h;subst h;exact⟨rfl,rfl⟩
  |succ k=>
   have h':=ih k (by simpa using h)
   have e:eP (y::l)=.int .i64 y.1:: .int .i64 y.2::eP l:=rfl
   rw[e,show(k+1)*2=k*2+1+1 from by omega]
   simpa using h'
section
variable {w w':World}{n:Nat}{A:Option Addr}{l:List (Nat×Nat)}
theorem RdP.len (h:RdP w A n l):l.length=n:=by have:=h.1;rw[wQ] at this;omega
theorem RdP.below (h:RdP w A n l) (hb:Below w.heap.size w w'):RdP w' A n l:=Rd.below h hb
theorem RdP.at_ (h:RdP w A n l) (hk:k<n): ∃b off x,A=some ⟨b,off,none⟩∧b<w.heap.size∧Hid (l[k]? =some x)∧w.cell? ⟨b,off+k*2,none⟩=some (.int .i64 x.1)∧w.cell? ⟨b,off+k*2+1,none⟩=some (.int .i64 x.2):=by
 obtain⟨b,off,e,hlt,hc⟩:=h.2 (by omega)
 have hl:k<l.length:=by have:=h.len;omega
 have hx:l[k]? =some l[k]:=d7 hl
 obtain⟨g1,g2⟩:=wW l k _ hx
 exact⟨b,off,l[k],e,hlt,hx,hc _ _ g1,hc _ _ g2⟩
end
theorem FD:(Tryz.prog.info? 49).map (fun i=>(i.zero,i.size,i.bytes))=some (some (.agg #[.int .i64 0,.int .i64 0]),2,16):=by kernel_rfl
set_option maxRecDepth 20000 in
set_option maxHeartbeats 400000 in
theorem Fo (A:Option Addr) (n c:Nat) (os:List OpR) (w:World) (ha:RdO w A n os) (hn:n≤1000):
 Calls Tryz.prog 15 #[.slice A n c] w fun e w'=> ∃v,e=.returned v∧w'.ownsRow w.heap.size 49 2 v (oA os n).length (eP (oA os n))∧Below w.heap.size w w':=by
 have hlen:=ha.1
 obtain⟨i0,hi0,hz0,hz1,hz2⟩:=info_parts FD
 go_enter Tryz.func15,Tryz.ntmps15
 go_wp2
 go_loopw [3,12] (fun v i wr=> ∃k:Nat,k≤n∧i=.int .i64 k∧wr.ownsRow w.heap.size 49 2 v (oA os k).length (eP (oA os k))∧Below w.heap.size w wr) (fun _ i _=>n-(intOf i).toNat)
 case atStart=>exact⟨0,cY _,rfl,kO _ _ _ _,bP _ _⟩
 case round=>
  obtain⟨i,hi,rfl,hown,hbel⟩:=hrel
  have hz:=hbel.size
  by_cases hlt:i<n
  ·obtain⟨b,off,a,rfl,hb,hoa,hc0,hc1,hc2,hc3,hc4,_⟩:=(ha.below hbel).at_ hlt
   go_wp2
   have hbk:=Bk.new wr 24 #[.int .i64 a.kind,.int .i64 a.feat,.int .i64 a.tool,.slice a.da a.dn a.dc,.int .i64 a.leave]
   have hown2:=hown.alloc (.cells #[.int .i64 a.kind,.int .i64 a.feat,.int .i64 a.tool,.slice a.da a.dn a.dc,.int .i64 a.leave] 24)
   have hbel2:=hbel.alloc hz (.cells #[.int .i64 a.kind,.int .i64 a.feat,.int .i64 a.tool,.slice a.da a.dn a.dc,.int .i64 a.leave] 24)
   clear hc0 hc1 hc2 hc3 hc4
   obtain⟨wo,hwo⟩: ∃wo:World,wo=wr:=⟨_,rfl⟩
   rw[←hwo] at hbk hown2 hbel2⊢
   clear hwo hown hbel hz
   generalize (Value.agg #[.int .i64 a.kind,.int .i64 a.feat,.int .i64 a.tool,.slice a.da a.dn a.dc,.int .i64 a.leave])=va
   go_loopw [3,19] (fun v i' wr=> ∃k:Nat,k≤n∧i'=.int .i64 k∧wr.ownsRow w.heap.size 49 2 v (oA os i++row os a i k).length (eP (oA os i++row os a i k))∧Below w.heap.size w wr∧
    Bk wr wo.heap.size 24 #[.int .i64 a.kind,.int .i64 a.feat,.int .i64 a.tool,.slice a.da a.dn a.dc,.int .i64 a.leave]) (fun _ i _=>n-(intOf i).toNat)
   case atStart=>exact⟨0,cY _,rfl,by simpa [row] using hown2,hbel2,hbk⟩
   case round=>
    obtain⟨k,hk,rfl,hown,hbel,hbk⟩:=hrel
    have hz:=hbel.size
    by_cases hlt2:k<n
    ·obtain⟨b',off',q,hA,hb',hoq,hd0,hd1,hd2,hd3,hd4,_⟩:=(ha.below hbel).at_ hlt2
     obtain⟨rfl,rfl⟩:b=b'∧off=off':=by simpa using hA
     clear hA
     have f0: ∀o,(wr.alloc o).cell? ⟨wo.heap.size,0,none⟩=some (.int .i64 a.kind):=fun o=>(hbk.alloc o).cell 0
     have f1: ∀o,(wr.alloc o).cell? ⟨wo.heap.size,1,none⟩=some (.int .i64 a.feat):=fun o=>(hbk.alloc o).cell 1
     have hval:(row os a i k).length≤k:=H8 os a i k
     have hnl:(oA os i).length≤1000000:=by
      have:=Mn os i
      have:=Nat.mul_le_mul (show i≤1000 by omega) (show os.length≤1000 by omega)
      omega
     have hll:(oA os i++row os a i k).length=(oA os i).length+(row os a i k).length:=bN
     generalize hL:(oA os i++row os a i k).length=L at hll hown
     have HL:=eK hL;clear hL
     have hLb:L≤1001000:=by omega
     clear hll hval hnl
     clear hb hb' hlen
     go_wp2_with (at_builtin;refine wpList_append_own _ rfl _ _ 48 rfl w.heap.size 49 i0 (.agg #[.int .i64 0,.int .i64 0]) 2 16 Tryz.underlying48 hi0 hz0 hz1 hz2 rfl (by decide) _ _ _ rfl ((hown.alloc _).alloc _) ⟨wr.heap.size+1,0,none⟩ 1 1 [.int .i64 i,.int .i64 k] rfl rfl (Dc _ _ _ _ _) (by simp[Value.oneCell']) (by unfold maxLen;omega) (by omega) (by simp;omega) ?_;intro v' w1 hown' hgrow _)
     all_goals first
      |(have hy:Oi a q=true:=by unfold Oi;simp;first|omega|(simp only[beq_iff_eq,beq_eq_false_iff_ne,ne_eq] at*;omega)
        have hgo:=hgrow
        go_roundw
        case rel=>
         have e:oA os i++row os a i (k+1)=(oA os i++row os a i k)++[(i,k)]:=by rw[Mf hoq.out hy,iP]
         refine⟨k+1,by omega,by go_num,?_,fb (hown.alloc _) (hbel.alloc hz _) (by simp;omega) hgrow,hbk.alloc _|>.append (hown.alloc _) (by decide) hgrow⟩
         rw[e,bN,HL.out]
         simpa [eP] using hown'
        case measure=>simp[intOf];omega)
      |(have hy:Oi a q=false:=by unfold Oi;simp;first|omega|(simp only[beq_eq_false_iff_ne,ne_eq] at*;omega)
        go_roundw
        case rel=>
         refine⟨k+1,by omega,by go_num,?_,hbel.alloc hz _,hbk.alloc _⟩
         rw[Pn hoq.out hy,HL.out]
         exact hown.alloc _
        case measure=>simp[intOf];omega)
    ·obtain rfl:k=n:=by omega
     go_wp2
     go_roundw
     case rel=>
      refine⟨i+1,by omega,by go_num,?_,hbel⟩
      rw[Fa hoa.out hlen]
      exact hown
     case measure=>simp[intOf];omega
  ·obtain rfl:i=n:=by omega
   go_wp2
   go_ret
   exact⟨_,rfl,hown,hbel⟩
theorem Gf (A B:Option Addr) (n m ca cb:Nat) (xs ys:List Int) (w:World) (ha:RdI .i64 w A n xs) (hb:RdI .i64 w B m ys) (hn:n≤9223372036854775807):
 Calls Tryz.prog 13 #[.slice A n ca,.slice B m cb] w fun e w'=>e=.returned (.bool (decide (xs=ys)))∧Below w.heap.size w w':=by
 have hla:=ha.len
 have hlb:=hb.len
 by_cases hnm:n=m
 ·subst hnm
  go_enter Tryz.func13,Tryz.ntmps13
  go_wp2
  go_loopw [13] (fun i wr=> ∃k:Nat,k≤n∧i=.int .i64 k∧Below w.heap.size w wr∧Hid (xs.take k=ys.take k)) (fun i _=>n-(intOf i).toNat)
  case atStart=>exact⟨0,cY _,rfl,bP _ _,by show _=_;simp⟩
  case round=>
   obtain⟨k,hk,rfl,hbel,H⟩:=hrel
   by_cases hlt:k<n
   ·obtain⟨b1,o1,x,rfl,hlt1,hx,hc1⟩:=(ha.below hbel).at_ hlt
    obtain⟨b2,o2,y,rfl,hlt2,hy,hc2⟩:=(hb.below hbel).at_ hlt
    by_cases hxy:x=y
    ·subst hxy
     have hx':(x !=x)=false:=by simp
     have Ht:Hid (xs.take (k+1)=ys.take (k+1)):=by
      show _=_
      rw[eZ hx.out,eZ hy.out,H.out]
     go_wp2_with (fail)
     go_quiet (fail)
     go_wp2
     go_roundw
     case rel=>exact⟨k+1,by omega,by go_num,Below.drewN' hbel _,Ht⟩
     case measure=>simp[intOf];omega
    ·have hx':(x !=y)=true:=by simpa using hxy
     have Hn:Hid (xs≠ys):=by
      show _≠_
      intro h;rw[h] at hx;have:=hx.out.symm.trans hy.out;simp at this;exact hxy this
     clear hxy
     go_wp2_with (fail)
     go_quiet (fail)
     go_wp2
     go_ret
     exact⟨np (by simp[Hn.out]),Below.drewN' hbel _⟩
   ·have Hn:Hid (xs=ys):=by
     have h:=H.out
     rwa [fp (by omega),fp (by omega)] at h
    go_wp2
    go_ret
    exact⟨np (by simp[Hn.out]),hbel⟩
 ·have Hn:Hid (xs≠ys):=fun h=>hnm (by rw[←hla,←hlb,h])
  have hb':((n:Int) !=(m:Int))=true:=by simp;omega
  go_enter Tryz.func13,Tryz.ntmps13
  go_wp2
  go_ret
  exact⟨np (by simp[Hn.out]),bP _ _⟩
theorem zl (d:Nat) (a b c e:Int) (w:World):(Op.equalIn (d+2) 49 (.agg #[.int .i64 a,.int .i64 b]) (.agg #[.int .i64 c,.int .i64 e])).run Tryz.prog w=.ok (a==c&&b==e) w:=by
 have hu:Tryz.prog.underlying 49=some (.array 2 3):=Tryz.underlying49
 have h3:=fun(x y:Int)=>run_equalIn_int (P:=Tryz.prog) w d 3 .i64 .i64 x y tT
 have hs:(sizeOf 3).run Tryz.prog w=.ok 1 w:=by kernel_rfl
 have p0: ∀(x y:Int),(part 3 #[.int .i64 x,.int .i64 y] 0).run Tryz.prog w=.ok (.int .i64 x) w:=fun _ _=>by kernel_rfl
 have p1: ∀(x y:Int),(part 3 #[.int .i64 x,.int .i64 y] 1).run Tryz.prog w=.ok (.int .i64 y) w:=fun _ _=>by kernel_rfl
 simp only[Op.equalIn,ed,run_underlying hu,eb,hs]
 rw[Std.Legacy.Range.forIn_eq_forIn_range']
 simp[Std.Legacy.Range.size,List.range',p0,p1]
 by_cases h1:a=c
 ·by_cases h2:b=e
  ·simp[h1,h2]
  ·simp[h1,h2]
 ·simp[h1]
theorem Bt (a b c e:Int) (w:World):(binOp .neq 49 (.agg #[.int .i64 a,.int .i64 b]) (.agg #[.int .i64 c,.int .i64 e])).run Tryz.prog w=.ok (.bool (!(a==c&&b==e))) w:=by
 rw[run_neq_struct,show(10000:Nat)=9998+2 from rfl,zl];rfl
theorem Iq (op:BinOp) (x y:Operand) (xs ys:Array Value) (w:World):(eqGuard op 49 x y (.agg xs) (.agg ys)).run Tryz.prog w=.ok () w:=run_eqGuard_agg w op _ x y xs ys (by kernel_rfl)
set_option maxHeartbeats 400000 in
theorem By (A B:Option Addr) (n m ca cb:Nat) (xs ys:List (Nat×Nat)) (w:World) (ha:RdP w A n xs) (hb:RdP w B m ys) (hn:n≤9223372036854775807):
 Calls Tryz.prog 14 #[.slice A n ca,.slice B m cb] w fun e w'=>e=.returned (.bool (decide (xs=ys)))∧Below w.heap.size w w':=by
 have hla:=ha.len
 have hlb:=hb.len
 have hnq:=Bt
 have hgd:=Iq
 by_cases hnm:n=m
 ·subst hnm
  go_enter Tryz.func14,Tryz.ntmps14
  go_wp2
  go_loopw [13] (fun i wr=> ∃k:Nat,k≤n∧i=.int .i64 k∧Below w.heap.size w wr∧Hid (xs.take k=ys.take k)) (fun i _=>n-(intOf i).toNat)
  case atStart=>exact⟨0,cY _,rfl,bP _ _,by show _=_;simp⟩
  case round=>
   obtain⟨k,hk,rfl,hbel,H⟩:=hrel
   by_cases hlt:k<n
   ·obtain⟨b1,o1,x,rfl,hlt1,hx,hc1,hd1⟩:=(ha.below hbel).at_ hlt
    obtain⟨b2,o2,y,rfl,hlt2,hy,hc2,hd2⟩:=(hb.below hbel).at_ hlt
    obtain⟨x1,x2⟩:=x
    obtain⟨y1,y2⟩:=y
    simp only at hc1 hd1 hc2 hd2
    by_cases hxy:x1=y1∧x2=y2
    ·obtain⟨rfl,rfl⟩:=hxy
     have Ht:Hid (xs.take (k+1)=ys.take (k+1)):=by
      show _=_
      rw[eZ hx.out,eZ hy.out,H.out]
     go_wp2_with (fail)
     go_quiet (fail)
     go_wp2
     go_roundw
     case rel=>exact⟨k+1,by omega,by go_num,Below.drewN' hbel _,Ht⟩
     case measure=>simp[intOf];omega
    ·have hx':((x1:Int)==(y1:Int)&&(x2:Int)==(y2:Int))=false:=by
      rw[tv];intro h;simp at h;exact hxy (by omega)
     have Hn:Hid (xs≠ys):=by
      show _≠_
      intro h;rw[h] at hx;have:=hx.out.symm.trans hy.out;simp at this;exact hxy this
     clear hxy
     have hnq':=fun w=>Bt x1 x2 y1 y2 w
     rw[hx'] at hnq'
     clear hnq hx'
     go_wp2_with (fail)
     go_quiet (fail)
     go_wp2
     go_ret
     exact⟨np (by simp[Hn.out]),Below.drewN' hbel _⟩
   ·have Hn:Hid (xs=ys):=by
     have h:=H.out
     rwa [fp (by omega),fp (by omega)] at h
    go_wp2
    go_ret
    exact⟨np (by simp[Hn.out]),hbel⟩
 ·have Hn:Hid (xs≠ys):=fun h=>hnm (by rw[←hla,←hlb,h])
  have hb':((n:Int) !=(m:Int))=true:=by simp;omega
  go_enter Tryz.func14,Tryz.ntmps14
  go_wp2
  go_ret
  exact⟨np (by simp[Hn.out]),bP _ _⟩
def oY (k:Int):ByteArray:=
 if k=1 then⟨#[114,111,117,103,104]⟩ else if k=2 then⟨#[102,105,110,105,115,104]⟩ else if k=3 then⟨#[100,114,105,108,108]⟩
 else if k=4 then⟨#[100,101,98,117,114,114]⟩ else if k=5 then⟨#[99,117,116,111,102,102]⟩ else⟨#[]⟩
set_option maxHeartbeats 800000 in
theorem J2 (k:Int) (w:World):
 Calls Tryz.prog 29 #[.int .i64 k] w fun e w'=>e=.returned (.string (oY k))∧Below w.heap.size w w':=by
 by_cases h0:k<0
 ·have H:Hid (oY k=⟨#[]⟩):=by
   show _=_
   unfold oY
   rw[if_neg (by omega),if_neg (by omega),if_neg (by omega),if_neg (by omega),if_neg (by omega)]
  go_enter Tryz.func29,Tryz.ntmps29
  go_wp2
  go_ret
  exact⟨by rw[H.out];rfl,bP _ _⟩
 ·by_cases h6:6≤k
  ·have H:Hid (oY k=⟨#[]⟩):=by
    show _=_
    unfold oY
    rw[if_neg (by omega),if_neg (by omega),if_neg (by omega),if_neg (by omega),if_neg (by omega)]
   go_enter Tryz.func29,Tryz.ntmps29
   go_wp2
   go_ret
   exact⟨by rw[H.out];rfl,(bP _ _).alloc (aX _) _⟩
  ·rcases(show k=0∨k=1∨k=2∨k=3∨k=4∨k=5 from by omega) with h|h|h|h|h|h
   all_goals
    subst h
    clear h0 h6
    go_enter Tryz.func29,Tryz.ntmps29
    go_wp2
    go_ret
    exact⟨rfl,((bP _ _).alloc (aX _) _).alloc (by simp) _⟩
end Go.Proofs.YtkfgimjmgfoneaaGreatDoor
namespace Go.Proofs.YtkfgimjmgfoneaaGreatDoor
open Go.Shelf Go.RowKit Go.Proofs
def Tryz.hn166_ren:Go.Shelf.Ren:=⟨fun|166=>30|240=>51|276=>81|n=>n,fun|0=>0|3=>3|4=>4|5=>5|9=>9|20=>20|37=>90|70=>89|72=>92|75=>95|80=>99|164=>140|n=>n,fun|n=>n⟩
theorem Tryz.hn166:Go.Proofs.Lays.n166 Tryz.prog Tryz.hn166_ren:={
 mixed:=by kernel_rfl
 f166:=Tryz.func30.trans (congrArg some (by kernel_rfl))
 f240:=Tryz.func51.trans (congrArg some (by kernel_rfl))
 f276:=Tryz.func81.trans (congrArg some (by kernel_rfl))
 t0:=Tryz.underlying0
 a0:=Tryz.isAgg0
 z0:=Tryz.sizeOf0
 v0:=Tryz.zeroValue0
 t3:=tT
 a3:=Tryz.isAgg3
 z3:=Tryz.sizeOf3
 v3:=Tryz.zeroValue3
 t4:=Tryz.underlying4
 a4:=Tryz.isAgg4
 z4:=Tryz.sizeOf4
 v4:=Tryz.zeroValue4
 t9:=Tryz.underlying9
 a9:=Tryz.isAgg9
 z9:=Tryz.sizeOf9
 v9:=Tryz.zeroValue9
 t20:=Tryz.underlying20
 a20:=Tryz.isAgg20
 z20:=Tryz.sizeOf20
 v20:=Tryz.zeroValue20
 t37:=Tryz.underlying90
 a37:=Tryz.isAgg90
 z37:=Tryz.sizeOf90
 v37:=Tryz.zeroValue90
 t70:=Tryz.underlying89
 a70:=Tryz.isAgg89
 z70:=Tryz.sizeOf89
 v70:=Tryz.zeroValue89
 t72:=Tryz.underlying92
 a72:=Tryz.isAgg92
 z72:=Tryz.sizeOf92
 v72:=Tryz.zeroValue92
 t75:=Tryz.underlying95
 a75:=Tryz.isAgg95
 z75:=Tryz.sizeOf95
 v75:=Tryz.zeroValue95
 t164:=Tryz.underlying140
 a164:=Tryz.isAgg140
 z164:=Tryz.sizeOf140
 v164:=Tryz.zeroValue140}
def Tryz.hn169_ren:Go.Shelf.Ren:=⟨fun|169=>33|n=>n,fun|0=>0|3=>3|5=>5|9=>9|37=>90|70=>89|72=>92|127=>115|n=>n,fun|n=>n⟩
theorem Tryz.hn169:Go.Proofs.Lays.n169 Tryz.prog Tryz.hn169_ren:={
 mixed:=by kernel_rfl
 f169:=Tryz.func33.trans (congrArg some (by kernel_rfl))
 t0:=Tryz.underlying0
 a0:=Tryz.isAgg0
 z0:=Tryz.sizeOf0
 v0:=Tryz.zeroValue0
 t3:=tT
 a3:=Tryz.isAgg3
 z3:=Tryz.sizeOf3
 v3:=Tryz.zeroValue3
 t9:=Tryz.underlying9
 a9:=Tryz.isAgg9
 z9:=Tryz.sizeOf9
 v9:=Tryz.zeroValue9
 t37:=Tryz.underlying90
 a37:=Tryz.isAgg90
 z37:=Tryz.sizeOf90
 v37:=Tryz.zeroValue90
 t70:=Tryz.underlying89
 a70:=Tryz.isAgg89
 z70:=Tryz.sizeOf89
 v70:=Tryz.zeroValue89
 t72:=Tryz.underlying92
 a72:=Tryz.isAgg92
 z72:=Tryz.sizeOf92
 v72:=Tryz.zeroValue92
 t127:=Tryz.underlying115
 a127:=Tryz.isAgg115
 z127:=Tryz.sizeOf115
 v127:=Tryz.zeroValue115}
theorem Tryz.xn166:Builder.Extra Tryz.prog Tryz.hn166_ren:={
 sizeBuilder:=by kernel_rfl
 liesBuilder:=by kernel_rfl
 t5:=Tryz.underlying5
 a5:=Tryz.isAgg5
 z5:=Tryz.sizeOf5
 v5:=Tryz.zeroValue5
 infoByte:=by kernel_rfl
 cellsByte:=by kernel_rfl
 sizeByte:=by kernel_rfl
 neB5:=by decide}
theorem Tryz.xn169:Builder.Extra Tryz.prog Tryz.hn169_ren:={
 sizeBuilder:=by kernel_rfl
 liesBuilder:=by kernel_rfl
 t5:=Tryz.underlying5
 a5:=Tryz.isAgg5
 z5:=Tryz.sizeOf5
 v5:=Tryz.zeroValue5
 infoByte:=by kernel_rfl
 cellsByte:=by kernel_rfl
 sizeByte:=by kernel_rfl
 neB5:=by decide}
theorem BW (B b:Nat) (bs:List Value) (s:ByteArray) (w:World) (h:Lib.IsBuilderF 92 5 B b bs w) (hlen:bs.length+s.size≤140737488355328) (hBw:B≤w.heap.size):
 Calls Tryz.prog 30 #[.pointer (some ⟨b,0,none⟩),.string s] w fun e w'=>e=.returned (.tuple #[.int .i64 s.size,.nilIface])∧(Lib.BuilderAtF 92 5 B b (.pointer (some ⟨b,0,none⟩)) (bs++Lib.strCells s) w'∧Below B w w'∧Lib.OthersKept 5 (some b) w w'):=
 Any.Builder_WriteString_k Tryz.hn166 Tryz.xn166 B b bs s w h hlen hBw
theorem zp (B b:Nat) (l:List UInt8) (w:World) (h:Lib.IsBuilderF 92 5 B b (Lib.byteCells l) w) (hBw:B≤w.heap.size):
 Calls Tryz.prog 33 #[.pointer (some ⟨b,0,none⟩)] w fun e w'=>e=.returned (.string ⟨l.toArray⟩)∧(Lib.IsBuilderF 92 5 B b (Lib.byteCells l) w'∧Below B w w'∧Lib.OthersKept 5 (some b) w w'):=
 Any.Builder_String_any_k Tryz.hn169 Tryz.xn169 B b l w h hBw
end Go.Proofs.YtkfgimjmgfoneaaGreatDoor
