/-MonotoneIs:the walks of the law. -/
import Derived.Test.YtacopbfkmnpfgaaGreatImQ
namespace Go.Proofs.YtacopbfkmnpfgaaGreat
open Go Go.RowKit
theorem D1 {K U A B C D E F K' U' A' B' C' D' E' F' N:Int}(hA:Ok Tryz.prog 7 [] [.c (.b true)]) (hO:Ok Tryz.prog 6 [.a ((([.i .u8 K]++[.i .u8 U]++[.i .i8 A]++[.i .i8 B]++[.i .i8 C]++[.i .i8 D]++[.i .i8 E]++[.i .i8 F])++([.i .u8 K']++[.i .u8 U']++[.i .i8 A']++[.i .i8 B']++[.i .i8 C']++[.i .i8 D']++[.i .i8 E']++[.i .i8 F'])++[.i .u8 N]))] [.a (([.b false]++dN++dN++[.b false]++oy++oy)),.c (.b false)]):Ok Tryz.prog 3 [.a ((([.i .u8 K]++[.i .u8 U]++[.i .i8 A]++[.i .i8 B]++[.i .i8 C]++[.i .i8 D]++[.i .i8 E]++[.i .i8 F])++([.i .u8 K']++[.i .u8 U']++[.i .i8 A']++[.i .i8 B']++[.i .i8 C']++[.i .i8 D']++[.i .i8 E']++[.i .i8 F'])++[.i .u8 N]))] [.c (.b true)]:=by
 refine Ok.fn Tryz.func3 41 [.tmp 2] rfl<|aa<|ab<|ag<|aa<|ab<|al 1<|aj (ak rfl (hO))<|al 3<|aw (ah gz rfl) rfl<|ag<|aa<|aa<|ab ?_
 refine aj (ak rfl (hA))<|ag<|bo rfl<|aa<|ab<|aj (ak rfl (hA))<|ag<|am ?_
 exact ao (aC ae)
theorem Lu {K U A B C D E F K' U' A' B' C' D' E' F' N:Int}(hA:Ok Tryz.prog 7 [] [.c (.b true)]) {c:Cv}(hc:CvV c) (hO:Ok Tryz.prog 6 [.a ((([.i .u8 K]++[.i .u8 U]++[.i .i8 A]++[.i .i8 B]++[.i .i8 C]++[.i .i8 D]++[.i .i8 E]++[.i .i8 F])++([.i .u8 K']++[.i .u8 U']++[.i .i8 A']++[.i .i8 B']++[.i .i8 C']++[.i .i8 D']++[.i .i8 E']++[.i .i8 F'])++[.i .u8 N]))] [.a (bc c),.c (.b true)]):Ok Tryz.prog 3 [.a ((([.i .u8 K]++[.i .u8 U]++[.i .i8 A]++[.i .i8 B]++[.i .i8 C]++[.i .i8 D]++[.i .i8 E]++[.i .i8 F])++([.i .u8 K']++[.i .u8 U']++[.i .i8 A']++[.i .i8 B']++[.i .i8 C']++[.i .i8 D']++[.i .i8 E']++[.i .i8 F'])++[.i .u8 N]))] [.c (.b true)]:=by
 refine Ok.fn Tryz.func3 41 [.tmp 2] rfl<|aa<|ab<|ag<|aa<|ab<|al 1<|aj (ak rfl (hO))<|al 3<|aw (ah gz rfl) rfl<|dm (du dF rfl rfl rfl (aE _) rfl rfl) ?_
 refine ag<|aa<|aa<|ab<|aj (ak rfl (hA))<|ag<|ba rfl<|ap<|aa<|aa<|aM 6 rfl rfl<|ai (bn (us:=bc c) dF rfl rfl (by rw[List.drop_zero];exact List.take_of_length_le (Nat.le_of_eq (aE _))) (aE _) rfl) ?_
 refine ai (bn (us:=bc c) dF rfl rfl (by rw[List.drop_zero];exact List.take_of_length_le (Nat.le_of_eq (aE _))) (aE _) rfl) ?_
 refine ai (ak rfl (NM hc))<|ai (df (n:=2) (us:=bc c++bc c.rev) xR rfl (P0 rfl (aE _) (aE _)) (tC (aE _) (aE _)) (by decide) (by decide) rfl) ?_
 refine bJ<|ar<|aq<|aX ?_
 refine cZ (ι:=Nat) (fun i=>match i with|0=>⟨41,[(2,.v (.c (.b false))),(22,.v (.c (.s 2 (bc c++bc c.rev)))),(23,.v (.c (.i .i64 2))),(24,.v (.c (.i .i64 0)))],[]⟩|1=>⟨41,[(2,.v (.c (.b false))),(22,.v (.c (.s 2 (bc c++bc c.rev)))),(23,.v (.c (.i .i64 2))),(24,.v (.c (.i .i64 1)))],[]⟩|_+2=>⟨41,[(2,.v (.c (.b false))),(22,.v (.c (.s 2 (bc c++bc c.rev)))),(23,.v (.c (.i .i64 2))),(24,.v (.c (.i .i64 2)))],[]⟩) (fun i=>2-i) 0 (aR ⟨rfl,rfl,rfl,rfl,trivial⟩ trivial rfl) ?_
 intro i
 match i with
 |0=>
  show Dw _ _ ⟨41,[(2,.v (.c (.b false))),(22,.v (.c (.s 2 (bc c++bc c.rev)))),(23,.v (.c (.i .i64 2))),(24,.v (.c (.i .i64 0)))],[]⟩ _
  refine aa<|ab<|ag<|aa<|bo rfl<|ap<|aa<|aX<|aa<|ab<|aj (a8 (us:=bc c++bc c.rev) yP rfl rfl (by decide) (tC (aE _) (aE _)) rfl rfl) ?_
  refine aj (bQ (us:=bc c) dF rfl (gU _ _) (aE _) rfl) ?_
  refine aw (ah gz rfl) rfl<|dm (du dF rfl rfl rfl (aE _) rfl rfl) ?_
  refine aq<|aa<|aM 12 rfl rfl<|ai (bn (us:=bc c) dF rfl rfl (by rw[List.drop_zero];exact List.take_of_length_le (Nat.le_of_eq (aE _))) (aE _) rfl) ?_
  refine ai (ak rfl (R3 hc))<|ai (bn (us:=bc c) dF rfl rfl (by rw[List.drop_zero];exact List.take_of_length_le (Nat.le_of_eq (aE _))) (aE _) rfl) ?_
  refine ai (ak rfl (Rr hc))<|ai (dh (c:=false) (dH rfl rfl d9 rfl) (by simp)) ?_
  refine an 1<|ai (bn (us:=bc c) dF rfl rfl (by rw[List.drop_zero];exact List.take_of_length_le (Nat.le_of_eq (aE _))) (aE _) rfl) ?_
  refine ai (ak rfl (HD hc))<|ai (bn (us:=bc c) dF rfl rfl (by rw[List.drop_zero];exact List.take_of_length_le (Nat.le_of_eq (aE _))) (aE _) rfl) ?_
  refine ai (ak rfl (Hq hc))<|ai (dh (c:=false) (dH rfl rfl d9 rfl) (by simp)) ?_
  refine bJ<|ar<|aq<|ba rfl<|ap<|ab<|aj (aG (r:=1) rfl rfl rfl rfl) ?_
  refine ag ?_
  exact⟨1,aR ⟨rfl,rfl,rfl,rfl,trivial⟩ trivial rfl,by show 2-1<2-0;decide⟩
 |1=>
  show Dw _ _ ⟨41,[(2,.v (.c (.b false))),(22,.v (.c (.s 2 (bc c++bc c.rev)))),(23,.v (.c (.i .i64 2))),(24,.v (.c (.i .i64 1)))],[]⟩ _
  refine aa<|ab<|ag<|aa<|bo rfl<|ap<|aa<|aX<|aa<|ab<|aj (a8 (us:=bc c.rev++[]) yP rfl rfl (by decide) (tC (aE _) (aE _)) (KU (aE _)) rfl) ?_
  refine aj (bQ (us:=bc c.rev) dF rfl (gU _ _) (aE _) rfl) ?_
  refine aw (ah gz rfl) rfl<|dm (du dF rfl rfl rfl (aE _) rfl rfl) ?_
  refine aq<|aa<|aM 12 rfl rfl<|ai (bn (us:=bc c.rev) dF rfl rfl (by rw[List.drop_zero];exact List.take_of_length_le (Nat.le_of_eq (aE _))) (aE _) rfl) ?_
  refine ai (ak rfl (R3 hc.rev))<|ai (bn (us:=bc c.rev) dF rfl rfl (by rw[List.drop_zero];exact List.take_of_length_le (Nat.le_of_eq (aE _))) (aE _) rfl) ?_
  refine ai (ak rfl (Rr hc.rev))<|ai (dh (c:=false) (dH rfl rfl d9 rfl) (by simp)) ?_
  refine an 1<|ai (bn (us:=bc c.rev) dF rfl rfl (by rw[List.drop_zero];exact List.take_of_length_le (Nat.le_of_eq (aE _))) (aE _) rfl) ?_
  refine ai (ak rfl (HD hc.rev))<|ai (bn (us:=bc c.rev) dF rfl rfl (by rw[List.drop_zero];exact List.take_of_length_le (Nat.le_of_eq (aE _))) (aE _) rfl) ?_
  refine ai (ak rfl (Hq hc.rev))<|ai (dh (c:=false) (dH rfl rfl d9 rfl) (by simp)) ?_
  refine bJ<|ar<|aq<|ba rfl<|ap<|ab<|aj (aG (r:=2) rfl rfl rfl rfl) ?_
  refine ag ?_
  exact⟨2,aR ⟨rfl,rfl,rfl,rfl,trivial⟩ trivial rfl,by show 2-2<2-1;decide⟩
 |z+2=>
  show Dw _ _ ⟨41,[(2,.v (.c (.b false))),(22,.v (.c (.s 2 (bc c++bc c.rev)))),(23,.v (.c (.i .i64 2))),(24,.v (.c (.i .i64 2)))],[]⟩ _
  refine aa<|ab<|ag<|aa<|ba rfl<|cq<|aa<|ab<|ag<|am ?_
  exact ao (aC ae)
structure Pl where
 b:Nat
 z:Nat
inductive AV where
 |b (v:Bool)
 |i (k:IntKind) (n:Int)
 |l (x:Nat)
 |p (k off:Nat)
 |s (k off n lo:Nat) (ex:Bool) (m:Nat)
 |z
 |ev
 |np
 |f0 (g:FuncId)
 |fc (x y:AV)
def AV.fn:AV→Option (FuncId×List AV)
 | .f0 g=>some (g,[])
 | .fc x y=>match y.fn with
   |some (g,xs)=>some (g,x::xs)
   |none=>none
 |_=>none
inductive RdA (A Z:Nat→Prop) (w:World) (β:Nat→Pl):Value→AV→Prop
 |b (v:Bool):RdA A Z w β (.bool v) (.b v)
 |i (k:IntKind) (n:Int):RdA A Z w β (.int k n) (.i k n)
 |l (v:Value) (x:Nat):RdC Z w v (cL x)→RdA A Z w β v (.l x)
 |p (k off:Nat):A k→RdA A Z w β (.pointer (some ⟨(β k).b,off,none⟩)) (.p k off)
 |s (k off n lo:Nat) (ex:Bool) (m c:Nat):A k→n≤lo→lo≤c→c≤maxLen→(ex=true→c=lo)→off+c*m≤(β k).z→RdA A Z w β (.slice (some ⟨(β k).b,off,none⟩) n c) (.s k off n lo ex m)
 |z:RdA A Z w β (.slice none 0 0) .z
 |ev (a:Option Addr) (c:Nat):c≤maxLen→(∀ad,a=some ad→ad.spot=none)→RdA A Z w β (.slice a 0 c) .ev
 |np:RdA A Z w β (.pointer none) .np
 |f (g:FuncId) (cs:Array Value) (xs:List AV) (y:AV):y.fn=some (g,xs)→cs.size=xs.length→(∀(j:Nat) (v:Value) (x:AV),cs[j]? =some v→xs[j]? =some x→RdA A Z w β v x)→RdA A Z w β (.func (.func g) #[] cs) y
section
variable {A A' Z Z':Nat→Prop}{w w':World}{β β':Nat→Pl}
theorem RdA.mono (hk:Keep Z Z' w w') (hA: ∀k,A k→A' k) (hβ: ∀k,A k→β' k=β k) {v:Value}{x:AV}(h:RdA A Z w β v x):RdA A' Z' w' β' v x:=by
 induction h with
 |b v=>exact .b v
 |i k n=>exact .i k n
 |l v x h=>exact .l v x (h.keep hk)
 |p k off h=>rw[←hβ k h];exact .p k off (hA k h)
 |s k off n lo ex m c h h1 h2 h3 h4 h5=>
  rw[←hβ k h] at h5⊢
  exact .s k off n lo ex m c (hA k h) h1 h2 h3 h4 h5
 |z=>exact .z
 |ev a c h h2=>exact .ev a c h h2
 |np=>exact .np
 |f g cs xs y h0 h _ ih=>exact .f g cs xs y h0 h ih
def RdAs (A Z:Nat→Prop) (w:World) (β:Nat→Pl) (vs:List Value) (xs:List AV):Prop:=vs.length=xs.length∧ ∀(j:Nat) (v:Value) (x:AV),vs[j]? =some v→xs[j]? =some x→RdA A Z w β v x
theorem RdAs.mono (hk:Keep Z Z' w w') (hA: ∀k,A k→A' k) (hβ: ∀k,A k→β' k=β k) {vs:List Value}{xs:List AV}(h:RdAs A Z w β vs xs):RdAs A' Z' w' β' vs xs:=⟨h.1,fun j v x hv hx=>(h.2 j v x hv hx).mono hk hA hβ⟩
theorem RdAs.nil:RdAs A Z w β [] []:=⟨rfl,fun j v x hv=>by simp at hv⟩
theorem RdAs.cons {v:Value}{x:AV}{vs:List Value}{xs:List AV}(h:RdA A Z w β v x) (hs:RdAs A Z w β vs xs):RdAs A Z w β (v::vs) (x::xs):=by
 refine⟨by simp[hs.1],fun j u y hu hy=>?_⟩
 cases j with
 |zero=>simp at hu hy;subst hu hy;exact h
 |succ j=>simp at hu hy;exact hs.2 j u y hu hy
theorem RdAs.uncons {v:Value}{x:AV}{vs:List Value}{xs:List AV}(h:RdAs A Z w β (v::vs) (x::xs)):RdA A Z w β v x∧RdAs A Z w β vs xs:=
 ⟨h.2 0 v x rfl rfl,by have:=h.1;simpa using this,fun j u y hu hy=>h.2 (j+1) u y (by simpa using hu) (by simpa using hy)⟩
theorem RdAs.append {vs vs':List Value}{us us':List AV}(h:RdAs A Z w β vs us) (h':RdAs A Z w β vs' us'):RdAs A Z w β (vs++vs') (us++us'):=by
 refine⟨by simp[h.1,h'.1],fun j v u hv hu=>?_⟩
 by_cases hj:j<vs.length
 ·rw[List.getElem?_append_left hj] at hv
  rw[List.getElem?_append_left (by rw[←h.1];exact hj)] at hu
  exact h.2 j v u hv hu
 ·rw[List.getElem?_append_right (by omega)] at hv
  rw[List.getElem?_append_right (by rw[←h.1];omega)] at hu
  rw[←h.1] at hu
  exact h'.2 _ v u hv hu
theorem RdAs.drop {vs:List Value}{us:List AV}(h:RdAs A Z w β vs us) (k:Nat):RdAs A Z w β (vs.drop k) (us.drop k):=
 ⟨by simp[h.1],fun j v u hv hu=>h.2 (k+j) v u (by simpa using hv) (by simpa using hu)⟩
theorem RdAs.take {vs:List Value}{us:List AV}(h:RdAs A Z w β vs us) (k:Nat):RdAs A Z w β (vs.take k) (us.take k):=by
 refine⟨by simp[h.1],fun j v u hv hu=>?_⟩
 rw[List.getElem?_take] at hv hu
 split at hv
 ·rename_i hj;rw[if_pos hj] at hu;exact h.2 j v u hv hu
 ·cases hv
theorem RdC.two {v:Value}{u:CellD}(h:RdC Z w v u):v.cells= #[v]∧v.oneCell'=true:=by cases h<;>exact⟨rfl,rfl⟩
theorem RdA.one {v:Value}{x:AV}(h:RdA A Z w β v x):v.cells= #[v]∧v.oneCell'=true:=by
 cases h with
 |l v x h=>exact h.two
 |_=>exact⟨rfl,rfl⟩
inductive Rp where
 |e
 |c (x:AV)
 |n (ls:Nat) (pu:Bool) (l r:Rp)
def Rp.flat:Rp→List AV
 | .e=>[]
 | .c x=>[x]
 | .n _ _ l r=>l.flat++r.flat
inductive XD where
 |c (x:AV)
 |a (n:Nat) (r:Rp)
def XD.cells:XD→List AV
 | .c x=>[x]
 | .a _ r=>r.flat
inductive XV where
 |c (x:AV)
 |a (n:Nat) (r:Rp)
 |t (ds:List XD)
 |u
def RdD (A Z:Nat→Prop) (w:World) (β:Nat→Pl) (v:Value):XD→Prop
 | .c x=>RdA A Z w β v x
 | .a _ r=> ∃cs:Array Value,v=.agg cs∧RdAs A Z w β cs.toList r.flat
def RdDs (A Z:Nat→Prop) (w:World) (β:Nat→Pl) (vs:List Value) (ds:List XD):Prop:=vs.length=ds.length∧ ∀(j:Nat) (v:Value) (d:XD),vs[j]? =some v→ds[j]? =some d→RdD A Z w β v d
def RdX2 (A Z:Nat→Prop) (w:World) (β:Nat→Pl) (v:Value):XV→Prop
 | .c x=>RdD A Z w β v (.c x)
 | .a n r=>RdD A Z w β v (.a n r)
 | .t ds=> ∃vs:Array Value,v=.tuple vs∧RdDs A Z w β vs.toList ds
 | .u=>v=undef
theorem RdD.mono (hk:Keep Z Z' w w') (hA: ∀k,A k→A' k) (hβ: ∀k,A k→β' k=β k) {v:Value}{d:XD}(h:RdD A Z w β v d):RdD A' Z' w' β' v d:=by
 cases d with
 |c x=>exact RdA.mono hk hA hβ h
 |a n r=>obtain⟨cs,e,h⟩:=h;exact⟨cs,e,h.mono hk hA hβ⟩
theorem RdDs.mono (hk:Keep Z Z' w w') (hA: ∀k,A k→A' k) (hβ: ∀k,A k→β' k=β k) {vs:List Value}{ds:List XD}(h:RdDs A Z w β vs ds):RdDs A' Z' w' β' vs ds:=⟨h.1,fun j v d hv hd=>(h.2 j v d hv hd).mono hk hA hβ⟩
theorem RdX2.mono (hk:Keep Z Z' w w') (hA: ∀k,A k→A' k) (hβ: ∀k,A k→β' k=β k) {v:Value}{x:XV}(h:RdX2 A Z w β v x):RdX2 A' Z' w' β' v x:=by
 cases x with
 |c x=>exact RdD.mono hk hA hβ (d:=.c x) h
 |a n r=>exact RdD.mono hk hA hβ (d:=.a n r) h
 |t ds=>obtain⟨vs,e,h⟩:=h;exact⟨vs,e,h.mono hk hA hβ⟩
 |u=>exact h
theorem RdDs.nil:RdDs A Z w β [] []:=⟨rfl,fun j v x hv=>by simp at hv⟩
theorem RdD.cells {v:Value}{d:XD}(h:RdD A Z w β v d):RdAs A Z w β v.cells.toList d.cells:=by
 cases d with
 |c x=>
  have h:RdA A Z w β v x:=h
  rw[h.one.1];exact RdAs.cons h RdAs.nil
 |a n r=>obtain⟨cs,rfl,h⟩:=h;exact h
theorem RdAs.one {vs:List Value}{xs:List AV}(h:RdAs A Z w β vs xs): ∀v∈vs,v.oneCell'=true:=by
 intro v hv
 obtain⟨j,hj⟩:=List.getElem?_of_mem hv
 have hlt:j<xs.length:=by rw[←h.1];exact(List.getElem?_eq_some_iff.1 hj).1
 exact(h.2 j v _ hj (List.getElem?_eq_getElem hlt)).one.2
end
abbrev HF:=Nat→Option (TypeId×List AV)
abbrev TX:=Nat→Option XV
def Zs (V:Nat→Prop) (H:HF) (β:Nat→Pl):Nat→Prop:=fun b=>V b∨ ∃k,H k≠none∧(β k).b=b
structure Mem (V A:Nat→Prop) (H:HF) (β:Nat→Pl) (w:World):Prop where
 vlt: ∀b,V b→b<w.heap.size
 dom: ∀k,H k≠none→A k
 lt: ∀k,A k→(β k).b<w.heap.size
 inj: ∀k l,H k≠none→H l≠none→(β k).b=(β l).b→k=l
 clr: ∀k,H k≠none→ ¬V (β k).b
 box: ∀k U cs,H k=some (U,cs)→ ∃vs:Array Value,w.heap[(β k).b]? =some (.cells vs U (0,0))∧vs.size=(β k).z∧cs.length≤vs.size∧RdAs A (Zs V H β) w β (vs.toList.take cs.length) cs
def Ad (A:Nat→Prop) (N N':Nat):Nat→Prop:=fun k=>A k∨(N≤k∧k<N')
structure Hst (N N':Nat) (A:Nat→Prop) (H:HF) (β:Nat→Pl) (w:World) (H':HF) (β':Nat→Pl) (w':World):Prop where
 os:w'.os=w.os
 tape:w'.tape=w.tape
 output:w'.output=w.output
 size:w.heap.size≤w'.heap.size
 blk: ∀b,b<w.heap.size→(∀k,H k≠none→(β k).b≠b)→w'.heap[b]? =w.heap[b]?
 same: ∀k,A k→β' k=β k
 own: ∀k,H' k≠none→w.heap.size≤(β' k).b∨ ∃l,H l≠none∧(β l).b=(β' k).b
 nam: ∀k,H' k≠none→H k≠none∨(N≤k∧k<N')
section
variable {V A A':Nat→Prop}{H H' H2:HF}{β β' β2:Nat→Pl}{w w' w2:World}{N N' N2:Nat}
theorem Hst.refl:Hst N N' A H β w H β w:=
 ⟨rfl,rfl,rfl,Nat.le_refl _,fun _ _ _=>rfl,fun _ _=>rfl,fun k hk=>.inr ⟨k,hk,rfl⟩,fun _ h=>.inl h⟩
theorem Hst.wide {M M':Nat}(h:Hst N N' A H β w H' β' w') (h1:M≤N) (h2:N'≤M'):Hst M M' A H β w H' β' w':=
 ⟨h.os,h.tape,h.output,h.size,h.blk,h.same,h.own,fun k hk=>(h.nam k hk).imp id fun g=>⟨Nat.le_trans h1 g.1,Nat.lt_of_lt_of_le g.2 h2⟩⟩
theorem Hst.keep (_hm:Mem V A H β w) (h:Hst N N' A H β w H' β' w'):Keep (Zs V H β) (Zs V H' β') w w':=by
 refine⟨h.size,fun b hb hz=>h.blk b hb (fun k hk e=>hz (.inr ⟨k,hk,e⟩)),fun b hb hz=>?_⟩
 rcases hz with hz|⟨k,hk,e⟩
 ·exact .inl hz
 ·rcases h.own k hk with g|⟨l,hl,g⟩
  ·omega
  ·exact .inr ⟨l,hl,g.trans e⟩
theorem Hst.trans {M M':Nat}(h:Hst M M' A H β w H' β' w') (hA: ∀k,A k→A' k) (h2:Hst M M' A' H' β' w' H2 β2 w2):Hst M M' A H β w H2 β2 w2:=by
 refine⟨h2.os.trans h.os,h2.tape.trans h.tape,h2.output.trans h.output,Nat.le_trans h.size h2.size,fun b hb hz=>?_,fun k hk=>(h2.same k (hA k hk)).trans (h.same k hk),fun k hk=>?_,fun k hk=>?_⟩
 ·rw[h2.blk b (Nat.lt_of_lt_of_le hb h.size) (fun k hk e=>?_),h.blk b hb hz]
  rcases h.own k hk with g|⟨l,hl,g⟩
  ·omega
  ·exact hz l hl (g.trans e)
 ·rcases h2.own k hk with g|⟨l,hl,g⟩
  ·exact .inl (Nat.le_trans h.size g)
  ·rcases h.own l hl with q|⟨m,hm,q⟩
   ·exact .inl (by rw[←g];exact q)
   ·exact .inr ⟨m,hm,q.trans g⟩
 ·rcases h2.nam k hk with g|g
  ·exact h.nam k g
  ·exact .inr g
theorem Mem.sub (hm:Mem V A H β w) (hs: ∀k c,H2 k=some c→H k=some c):Mem V A H2 β w:=by
 have hn: ∀k,H2 k≠none→H k≠none:=fun k hk=>by
  cases e:H2 k with
  |none=>exact absurd e hk
  |some c=>rw[hs k c e];simp
 refine⟨hm.vlt,fun k hk=>hm.dom k (hn k hk),hm.lt,fun k l hk hl=>hm.inj k l (hn k hk) (hn l hl),fun k hk=>hm.clr k (hn k hk),fun k U cs hk=>?_⟩
 obtain⟨vs,h1,h2,h3,h4⟩:=hm.box k U cs (hs k _ hk)
 exact⟨vs,h1,h2,h3,h4.mono ⟨Nat.le_refl _,fun _ _ _=>rfl,fun b _ hz=>hz.imp id fun⟨l,hl,e⟩=>⟨l,hn l hl,e⟩⟩ (fun _ h=>h) (fun _ _=>rfl)⟩
def Vx (V:Nat→Prop) (H Hv:HF) (β:Nat→Pl):Nat→Prop:=fun b=>V b∨ ∃k,H k≠none∧Hv k=none∧(β k).b=b
theorem Mx {Hv:HF}(hs: ∀k c,Hv k=some c→H k=some c):Zs (Vx V H Hv β) Hv β=Zs V H β:=by
 funext b
 refine propext ⟨?_,?_⟩
 ·rintro((h|⟨k,h1,_,h3⟩)|⟨k,hk,e⟩)
  ·exact .inl h
  ·exact .inr ⟨k,h1,h3⟩
  ·refine .inr ⟨k,?_,e⟩
   cases q:Hv k with
   |none=>exact absurd q hk
   |some c=>rw[hs k c q];simp
 ·rintro(h|⟨k,hk,e⟩)
  ·exact .inl (.inl h)
  ·by_cases q:Hv k=none
   ·exact .inl (.inr ⟨k,hk,q,e⟩)
   ·exact .inr ⟨k,q,e⟩
theorem Mem.see {Hv:HF}(hm:Mem V A H β w) (hs: ∀k c,Hv k=some c→H k=some c):Mem (Vx V H Hv β) A Hv β w:=by
 have hn: ∀k,Hv k≠none→H k≠none:=fun k hk=>by
  cases e:Hv k with
  |none=>exact absurd e hk
  |some c=>rw[hs k c e];simp
 refine⟨fun b hb=>?_,fun k hk=>hm.dom k (hn k hk),hm.lt,fun k l hk hl=>hm.inj k l (hn k hk) (hn l hl),fun k hk hv=>?_,fun k U cs hk=>?_⟩
 ·rcases hb with hb|⟨k,hk,_,e⟩
  ·exact hm.vlt b hb
  ·rw[←e];exact hm.lt k (hm.dom k hk)
 ·rcases hv with hv|⟨l,h1,h2,h3⟩
  ·exact hm.clr k (hn k hk) hv
  ·have:=hm.inj l k h1 (hn k hk) h3
   subst this
   exact hk h2
 ·rw[Mx hs]
  exact hm.box k U cs (hs k _ hk)
def e8 (H Hv Hv':HF):HF:=fun k=>match Hv' k,Hv k with
 |some c,_=>some c
 |none,some _=>none
 |none,none=>H k
theorem qT {Hv Hv':HF}{k:Nat}{c}(h:e8 H Hv Hv' k=some c):Hv' k=some c∨(Hv' k=none∧Hv k=none∧H k=some c):=by
 unfold e8 at h
 cases h1:Hv' k with
 |some d=>rw[h1] at h;exact .inl h
 |none=>
  cases h2:Hv k with
  |some d=>rw[h1,h2] at h;cases h
  |none=>rw[h1,h2] at h;exact .inr ⟨rfl,rfl,h⟩
theorem jr {Hv Hv':HF}{k:Nat}:e8 H Hv Hv' k≠none↔(Hv' k≠none∨(Hv k=none∧H k≠none)):=by
 unfold e8
 cases Hv' k<;>cases Hv k<;>simp
theorem frame {Hv Hv':HF}(hm:Mem V A H β w) (hs: ∀k c,Hv k=some c→H k=some c) (hf: ∀k,A k→ ¬(N≤k∧k<N'))
 (h1: ∀k,A k→A' k) (hm':Mem (Vx V H Hv β) A' Hv' β' w') (ht:Hst N N' A Hv β w Hv' β' w'):Mem V A' (e8 H Hv Hv') β' w'∧Hst N N' A H β w (e8 H Hv Hv') β' w'∧Zs V (e8 H Hv Hv') β'=Zs (Vx V H Hv β) Hv' β':=by
 have hn: ∀k,Hv k≠none→H k≠none:=fun k hk=>by
  cases e:Hv k with
  |none=>exact absurd e hk
  |some c=>rw[hs k c e];simp
 have hold: ∀k,Hv k=none→H k≠none→Hv' k=none:=by
  intro k h1 h2
  apply Classical.byContradiction
  intro h3
  rcases ht.nam k h3 with g|g
  ·exact g h1
  ·exact hf k (hm.dom k h2) g
 have hZ:Zs V (e8 H Hv Hv') β'=Zs (Vx V H Hv β) Hv' β':=by
  funext b
  refine propext ⟨?_,?_⟩
  ·rintro(h|⟨k,hk,e⟩)
   ·exact .inl (.inl h)
   ·rcases jr.1 hk with g|⟨g1,g2⟩
    ·exact .inr ⟨k,g,e⟩
    ·exact .inl (.inr ⟨k,g2,g1,by rw[←ht.same k (hm.dom k g2)];exact e⟩)
  ·rintro((h|⟨k,h1,h2,h3⟩)|⟨k,hk,e⟩)
   ·exact .inl h
   ·exact .inr ⟨k,jr.2 (.inr ⟨h2,h1⟩),by rw[ht.same k (hm.dom k h1)];exact h3⟩
   ·exact .inr ⟨k,jr.2 (.inl hk),e⟩
 have hH:Hst N N' A H β w (e8 H Hv Hv') β' w':=by
  refine⟨ht.os,ht.tape,ht.output,ht.size,fun b hb hz=>ht.blk b hb (fun k hk=>hz k (hn k hk)),ht.same,fun k hk=>?_,fun k hk=>?_⟩
  ·rcases jr.1 hk with g|⟨g1,g2⟩
   ·rcases ht.own k g with q|⟨l,hl,q⟩
    ·exact .inl q
    ·exact .inr ⟨l,hn l hl,q⟩
   ·exact .inr ⟨k,g2,by rw[ht.same k (hm.dom k g2)]⟩
  ·rcases jr.1 hk with g|⟨_,g2⟩
   ·exact(ht.nam k g).imp (hn k) id
   ·exact .inl g2
 refine⟨⟨fun b hb=>Nat.lt_of_lt_of_le (hm.vlt b hb) ht.size,fun k hk=>?_,hm'.lt,fun k l hk hl e=>?_,fun k hk hv=>?_,fun k U cs hk=>?_⟩,hH,hZ⟩
 ·rcases jr.1 hk with g|⟨_,g2⟩
  ·exact hm'.dom k g
  ·exact h1 _ (hm.dom k g2)
 ·rcases jr.1 hk with g|⟨g1,g2⟩<;>rcases jr.1 hl with q|⟨q1,q2⟩
  ·exact hm'.inj k l g q e
  ·exact absurd (.inr ⟨l,q2,q1,by rw[←ht.same l (hm.dom l q2)];exact e.symm⟩) (hm'.clr k g)
  ·exact absurd (.inr ⟨k,g2,g1,by rw[←ht.same k (hm.dom k g2)];exact e⟩) (hm'.clr l q)
  ·rw[ht.same k (hm.dom k g2),ht.same l (hm.dom l q2)] at e
   exact hm.inj k l g2 q2 e
 ·rcases jr.1 hk with g|⟨_,g2⟩
  ·exact hm'.clr k g (.inl hv)
  ·rw[ht.same k (hm.dom k g2)] at hv
   exact hm.clr k g2 hv
 ·rw[hZ]
  rcases qT hk with g|⟨_,g2,g3⟩
  ·exact hm'.box k U cs g
  ·obtain⟨vs,e1,h2,h3,h4⟩:=hm.box k U cs g3
   have hA:A k:=hm.dom k (by rw[g3];simp)
   have hsame:=ht.same k hA
   refine⟨vs,?_,by rw[hsame];exact h2,h3,?_⟩
   ·rw[hsame,ht.blk _ (hm.lt k hA) (fun l hl e=>?_)]
    ·exact e1
    ·have:=hm.inj l k (hn l hl) (by rw[g3];simp) e
     subst this
     exact hl g2
   ·have hk2:=hH.keep hm
    rw[hZ] at hk2
    exact h4.mono hk2 h1 ht.same
end
structure StX (V A:Nat→Prop) (n:Nat) (T:TX) (H:HF) (β:Nat→Pl) (a:Act) (w:World):Prop where
 mem:Mem V A H β w
 dfr:a.defers=[]
 siz:a.tmps.size=n
 tmp: ∀t x,T t=some x→ ∃v,a.tmps[t]? =some v∧RdX2 A (Zs V H β) w β v x
def qv (A Z:Nat→Prop) (w:World) (β:Nat→Pl) (L:Nat→Prop) (T:TX) (a:Act):Prop:= ∀t x,L t→T t=some x→ ∃v,a.tmps[t]? =some v∧RdX2 A Z w β v x
structure Evt where
 x:XV
 Hv:HF
 Hv':HF
 N:Nat
 N':Nat
def wT (d:Option Nat) (x:XV) (T:TX):TX:=fun t=>if d=some t then some x else T t
section
variable {P:Program}{ops:Array Oper}{o:Oper}{T Tl:TX}{e:Evt}{V A:Nat→Prop}{n:Nat}{H:HF}{β:Nat→Pl}{a:Act}{w:World}
def FQ (P:Program) (ops:Array Oper) (o:Oper) (T:TX) (e:Evt):Prop:= ∀V A β a w,(∀k,A k→ ¬(e.N≤k∧k<e.N'))→Mem V A e.Hv β w→qv A (Zs V e.Hv β) w β (dE ops o) T a→
 oM o ops a=true∧Gives P o a w fun v w'=> ∃A' β',(∀k,A k→A' k)∧(∀k,A' k→Ad A e.N e.N' k)∧Mem V A' e.Hv' β' w'∧Hst e.N e.N' A e.Hv β w e.Hv' β' w'∧RdX2 A' (Zs V e.Hv' β') w' β' v e.x
def y6 (ops:Array Oper) (o:Oper) (T:TX) (e:Evt):Prop:=e.x=.u∧e.Hv'=e.Hv∧ ∀V A β a w,qv A (Zs V e.Hv β) w β (dE ops o) T a→oM o ops a=false
theorem StX.step (hst:StX V A n T H β a w) (hop:FQ P ops o Tl e∨y6 ops o Tl e) (hT: ∀t x,dE ops o t→Tl t=some x→T t=some x) (hv: ∀k c,e.Hv k=some c→H k=some c)
 (hf: ∀k,A k→ ¬(e.N≤k∧k<e.N')) (hd: ∀t,o.dst=some t→t<n) {Q:Exit→Act→World→Prop}{K:Act→World→Prop}
 (hK: ∀A' β' a' w',(∀k,A k→A' k)→(∀k,A' k→Ad A e.N e.N' k)→Hst e.N e.N' A H β w (e8 H e.Hv e.Hv') β' w'→StX V A' n (wT o.dst e.x T) (e8 H e.Hv e.Hv') β' a' w'→K a' w'):
 if Region.wanted o (yielded ops a.tmps) then o.wp P a w K Q∨(o.asks P a w∧LetsOut Q) else K (a.put o.dst undef) w:=by
 have htm:qv A (Zs (Vx V H e.Hv β) e.Hv β) w β (dE ops o) Tl a:=by
  rw[Mx hv]
  exact fun t x hl hx=>hst.tmp t x (hT t x hl hx)
 rcases hop with hop|⟨hx,hH,hop⟩
 ·obtain⟨hw,hg⟩:=hop (Vx V H e.Hv β) A β a w hf (hst.mem.see hv) htm
  rw[if_pos hw]
  refine .inl (hg.wp fun v w' ⟨A',β',hA1,hA2,hm,hh,hx⟩=>?_)
  obtain⟨hm2,hh2,hZ⟩:=frame hst.mem hv hf hA1 hm hh
  refine hK A' β' _ _ hA1 hA2 hh2 ⟨hm2,by rw[jY];exact hst.dfr,by rw[nE];exact hst.siz,fun t x ht=>?_⟩
  unfold wT at ht
  split at ht
  ·rename_i hdt
   injection ht with ht
   subst ht
   rw[hdt]
   exact⟨v,mP (by rw[hst.siz];exact hd t hdt),by rw[hZ];exact hx⟩
  ·rename_i hdt
   obtain⟨u,e1,hr⟩:=hst.tmp t x ht
   exact⟨u,(ln hdt).trans e1,hr.mono (hh2.keep hst.mem) hA1 hh2.same⟩
 ·have hw:=hop _ A β a w htm
  unfold oM at hw
  rw[if_neg (by rw[hw];simp)]
  have hp:e8 H e.Hv e.Hv'=H:=by
   rw[hH]
   funext k
   unfold e8
   cases h:e.Hv k with
   |none=>rfl
   |some c=>exact(hv k c h).symm
  refine hK A β _ _ (fun _ h=>h) (fun _ h=>.inl h) (by rw[hp];exact Hst.refl) ?_
  rw[hp]
  refine⟨hst.mem,by rw[jY];exact hst.dfr,by rw[nE];exact hst.siz,fun t x ht=>?_⟩
  unfold wT at ht
  split at ht
  ·rename_i hdt
   injection ht with ht
   subst ht
   rw[hdt,hx]
   exact⟨undef,mP (by rw[hst.siz];exact hd t hdt),rfl⟩
  ·rename_i hdt
   obtain⟨u,e1,hr⟩:=hst.tmp t x ht
   exact⟨u,(ln hdt).trans e1,hr⟩
inductive Prec (ops:Array Oper):Nat→Nat→Prop
 |one {i j:Nat}{o:Oper}:ops[i]? =some o→j∈bv o→Prec ops j i
 |tr {i j k:Nat}:Prec ops j k→Prec ops k i→Prec ops j i
theorem Prec.down {listed:Array Bool}(hcl: ∀i o j,listed.getD i false=true→ops[i]? =some o→j∈bv o→listed.getD j false=true) {j i:Nat}(h:Prec ops j i):listed.getD i false=true→listed.getD j false=true:=by
 induction h with
 |one ho hj=>exact fun hi=>hcl _ _ _ hi ho hj
 |tr _ _ ih1 ih2=>exact fun hi=>ih1 (ih2 hi)
theorem Prec.last {j i:Nat}(h:Prec ops j i): ∃k o,ops[i]? =some o∧k∈bv o∧(j=k∨Prec ops j k):=by
 induction h with
 |one ho hj=>exact⟨_,_,ho,hj,.inl rfl⟩
 |tr h1 _ _ ih2=>
  obtain⟨k,o,ho,hk,h⟩:=ih2
  rcases h with rfl|h
  ·exact⟨_,o,ho,hk,.inr h1⟩
  ·exact⟨k,o,ho,hk,.inr (h1.tr h)⟩
def Iu (d:Option Nat) (e:Evt):Nat→Option (Option XV):=fun t=>if d=some t then some (some e.x) else none
open Classical in
noncomputable def uH (e:Evt):Nat→Option (Option (TypeId×List AV)):=fun k=>if e.Hv' k=e.Hv k then none else some (e.Hv' k)
def oT (l:List Oper) (es:List Evt):=List.zipWith (fun(o:Oper) e=>Iu o.dst e) l es
noncomputable def sf (es:List Evt):=es.map uH
theorem Qg {k:Nat}(h:uH e k≠none):e.Hv' k≠e.Hv k:=by
 intro q
 apply h
 unfold uH
 rw[if_pos q]
theorem Nl {k:Nat}(h:e.Hv' k≠e.Hv k):uH e k=some (e.Hv' k):=by
 unfold uH
 rw[if_neg h]
theorem FX {γ:Type}(f:Oper→Evt→γ) {l:List Oper}{es:List Evt}{j:Nat}{u:γ}(h:(List.zipWith f l es)[j]? =some u): ∃o e,l[j]? =some o∧es[j]? =some e∧u=f o e:=by
 rw[List.getElem?_zipWith] at h
 cases h1:l[j]? with
 |none=>rw[h1] at h;cases h
 |some o=>
  cases h2:es[j]? with
  |none=>rw[h1,h2] at h;cases h
  |some e=>rw[h1,h2] at h;simp at h;exact⟨o,e,rfl,rfl,h.symm⟩
theorem Ez {Q:Exit→Act→World→Prop}(hlow: ∀(i:Nat) (o:Oper) (j:Nat),ops[i]? =some o→j∈bv o→j<i) (hdn: ∀(i:Nat) (o:Oper) (t:Nat),ops[i]? =some o→o.dst=some t→t<n)
 (pre:Nat→Nat→Prop) (hpre: ∀j i,pre j i→Prec ops j i)
 (hind: ∀(j i:Nat) (oj oi:Oper),j<i→ ¬pre j i→ops[j]? =some oj→ops[i]? =some oi→(∀d,oj.dst=some d→d∉oi.looksAt ops∧oi.dst≠some d)∧ ∀d,oi.dst=some d→d∉oj.looksAt ops)
 {es:List Evt}(hes:es.length=ops.size) {T0:TX}{H0:HF}{N0 Nn:Nat}{A0:Nat→Prop}{β0:Nat→Pl}{w0:World}
 (hall: ∀(i:Nat) (o:Oper) (e:Evt),ops[i]? =some o→es[i]? =some e→ ∃Tl,(FQ P ops o Tl e∨y6 ops o Tl e)∧(∀t x,dE ops o t→Tl t=some x→eX (fun j=>decide (j<i)) 0 (oT ops.toList es) T0 t=some x)∧
  ∀k c,e.Hv k=some c→eX (fun j=>decide (j<i)) 0 (sf es) H0 k=some c)
 (hN: ∀(i:Nat) (e:Evt),es[i]? =some e→N0≤e.N∧e.N'≤Nn) (hNN: ∀(j i:Nat) (ej ei:Evt),j<i→es[j]? =some ej→es[i]? =some ei→ej.N'≤ei.N)
 (hcon: ∀(j i:Nat) (ej ei:Evt),j<i→ ¬pre j i→es[j]? =some ej→es[i]? =some ei→ ∀k,(ej.Hv' k≠ej.Hv k→ei.Hv k=none∧ei.Hv' k=none)∧(ei.Hv' k≠ei.Hv k→ej.Hv k=none∧ej.Hv' k=none))
 (_hN0:N0≤Nn) (hA0: ∀k,A0 k→ ¬(N0≤k∧k<Nn))
 (hQ: ∀A β a w,(∀k,A0 k→A k)→(∀k,A k→Ad A0 N0 Nn k)→Hst N0 Nn A0 H0 β0 w0 (eX (fun _=>true) 0 (sf es) H0) β w→StX V A n (eX (fun _=>true) 0 (oT ops.toList es) T0) (eX (fun _=>true) 0 (sf es) H0) β a w→Q .normal a w):
 ∀(fuel:Nat) (listed:Array Bool) (A:Nat→Prop) (β:Nat→Pl) (a:Act) (w:World),listed.size=ops.size→AB listed≤fuel→
  (∀i o j,listed.getD i false=true→ops[i]? =some o→j∈bv o→listed.getD j false=true)→
  (∀k,A0 k→A k)→(∀k,A k→A0 k∨ ∃(j:Nat) (e:Evt),listed.getD j false=true∧es[j]? =some e∧e.N≤k∧k<e.N')→
  Hst N0 Nn A0 H0 β0 w0 (eX (fun j=>listed.getD j false) 0 (sf es) H0) β w→
  StX V A n (eX (fun j=>listed.getD j false) 0 (oT ops.toList es) T0) (eX (fun j=>listed.getD j false) 0 (sf es) H0) β a w→wpAny P .any ops Q fuel listed a w:=by
 have hwr: ∀ {t j:Nat}{u},(oT ops.toList es)[j]? =some u→u t≠none→ ∃oj ej,ops[j]? =some oj∧es[j]? =some ej∧oj.dst=some t∧u=Iu oj.dst ej:=by
  intro t j u hj hu
  obtain⟨oj,ej,h1,h2,rfl⟩:=FX _ hj
  refine⟨oj,ej,by rw[Array.getElem?_toList] at h1;exact h1,h2,?_,rfl⟩
  unfold Iu at hu
  split at hu
  ·assumption
  ·exact absurd rfl hu
 have hwh: ∀ {k j:Nat}{u},(sf es)[j]? =some u→u k≠none→ ∃ej,es[j]? =some ej∧ej.Hv' k≠ej.Hv k∧u=uH ej:=by
  intro k j u hj hu
  unfold sf at hj
  rw[List.getElem?_map] at hj
  cases h:es[j]? with
  |none=>rw[h] at hj;cases hj
  |some ej=>rw[h] at hj;injection hj with hj;subst hj;exact⟨ej,rfl,Qg hu,rfl⟩
 have hopj: ∀ {j:Nat}{e:Evt},es[j]? =some e→ ∃o,ops[j]? =some o:=by
  intro j e h
  have:j<ops.size:=by rw[←hes];exact(List.getElem?_eq_some_iff.1 h).1
  exact⟨ops[j],Array.getElem?_eq_getElem this⟩
 have hend: ∀(listed:Array Bool) (A:Nat→Prop) (β:Nat→Pl) (a:Act) (w:World),(∀i,i<ops.size→listed.getD i false=true)→(∀k,A0 k→A k)→
  (∀k,A k→A0 k∨ ∃(j:Nat) (e:Evt),listed.getD j false=true∧es[j]? =some e∧e.N≤k∧k<e.N')→
  Hst N0 Nn A0 H0 β0 w0 (eX (fun j=>listed.getD j false) 0 (sf es) H0) β w→
  StX V A n (eX (fun j=>listed.getD j false) 0 (oT ops.toList es) T0) (eX (fun j=>listed.getD j false) 0 (sf es) H0) β a w→Q .normal a w:=by
  intro listed A β a w hl hA1 hA2 hh hst
  have e1:eX (fun j=>listed.getD j false) 0 (oT ops.toList es) T0=eX (fun _=>true) 0 (oT ops.toList es) T0:=by
   funext t
   refine dG _ _ _ _ rfl fun j u hj hu=>?_
   obtain⟨oj,ej,h1,_⟩:=hwr hj hu
   rw[Nat.zero_add];exact hl j (Array.getElem?_eq_some_iff.1 h1).1
  have e2:eX (fun j=>listed.getD j false) 0 (sf es) H0=eX (fun _=>true) 0 (sf es) H0:=by
   funext t
   refine dG _ _ _ _ rfl fun j u hj hu=>?_
   obtain⟨ej,h1,_⟩:=hwh hj hu
   rw[Nat.zero_add];exact hl j (by rw[←hes];exact(List.getElem?_eq_some_iff.1 h1).1)
  rw[e2] at hh
  rw[e1,e2] at hst
  refine hQ A β a w hA1 (fun k hk=>?_) hh hst
  rcases hA2 k hk with h|⟨j,e,_,h2,_,h4⟩
  ·exact .inl h
  ·have:=hN j e h2;exact .inr ⟨by omega,by omega⟩
 intro fuel
 induction fuel with
 |zero=>
  intro listed A β a w hsz hu hcl hA1 hA2 hh hst
  have hl: ∀i,i<ops.size→listed.getD i false=true:=fun i hi=>by
   cases h:listed.getD i false with
   |true=>rfl
   |false=>have:=pT (listed:=listed) (i:=i) (by omega) (by rw[gK (by omega) true false];exact h);omega
  refine wpAny_done ?_ (hend listed A β a w hl hA1 hA2 hh hst) 0
  refine List.eq_nil_iff_forall_not_mem.2 fun j hj=>?_
  obtain⟨h0,o,ho,_⟩:=mem_ready.1 hj
  have hjs:=(Array.getElem?_eq_some_iff.1 ho).1
  rw[gK (by omega) true false,hl j hjs] at h0
  cases h0
 |succ fuel ih=>
  intro listed A β a w hsz hu hcl hA1 hA2 hh hst
  refine⟨fun hr=>?_,fun i hi=>?_⟩
  ·refine hend listed A β a w ?_ hA1 hA2 hh hst
   intro i
   induction i using Nat.strongRecOn with
   |_ i ih2=>
    intro hi
    cases h:listed.getD i false with
    |true=>rfl
    |false=>
     exfalso
     have:i∈Region.ready .any ops listed:=by
      refine mem_ready.2 ⟨by rw[gK (by omega) true false];exact h,ops[i],Array.getElem?_eq_getElem hi,fun e he hb=>?_⟩
      have hlt:=hlow i ops[i] e.on (Array.getElem?_eq_getElem hi) (mW he hb)
      exact ih2 e.on hlt (by omega)
     rw[hr] at this;cases this
  ·obtain⟨hif,o,ho,hae⟩:=mem_ready.1 hi
   have his:i<ops.size:=(Array.getElem?_eq_some_iff.1 ho).1
   have hif':listed.getD i false=false:=by rw[gK (by omega) false true];exact hif
   obtain⟨e,he⟩: ∃e,es[i]? =some e:=⟨es[i]'(by omega),List.getElem?_eq_getElem (by omega)⟩
   have hbel: ∀j,Prec ops j i→listed.getD j false=true:=by
    intro j hj
    obtain⟨k,o',ho',hk,h⟩:=hj.last
    rw[ho] at ho'
    injection ho' with ho'
    subst ho'
    obtain⟨ed,hed,hb,rfl⟩:=fA hk
    have h1:=hae ed hed hb
    rcases h with rfl|h
    ·exact h1
    ·exact h.down hcl h1
   have habv: ∀j,Prec ops i j→listed.getD j false=false:=by
    intro j hj
    cases h:listed.getD j false with
    |false=>rfl
    |true=>have:=hj.down hcl h;rw[hif'] at this;cases this
   obtain⟨Tl,hop,hTl,hHl⟩:=hall i o e ho he
   have hmask: ∀(j:Nat),(j<i→pre j i)→(i<j→pre i j)→listed.getD j false=decide (j<i):=by
    intro j h1 h2
    rcases Nat.lt_trichotomy j i with h|h|h
    ·rw[hbel j (hpre j i (h1 h))];simp[h]
    ·subst h;rw[hif'];simp
    ·rw[habv j (hpre i j (h2 h))];simp;omega
   have hfresh: ∀k,A k→ ¬(e.N≤k∧k<e.N'):=by
    intro k hk ⟨g1,g2⟩
    rcases hA2 k hk with h|⟨j,ej,h1,h2,h3,h4⟩
    ·have:=hA0 k h;have:=hN i e he;omega
    ·rcases Nat.lt_trichotomy j i with h|h|h
     ·have:=hNN j i ej e h h2 he;omega
     ·subst h;rw[hif'] at h1;cases h1
     ·have:=hNN i j e ej h he h2;omega
   have hmi: ∀j,(listed.setIfInBounds i true).getD j false=if j=i then true else listed.getD j false:=by
    intro j
    by_cases hji:j=i
    ·subst hji;simp[Array.getD,hsz,his]
    ·rw[if_neg hji,getD_set_ne false (fun e=>hji e.symm)]
   have hui:(sf es)[i]? =some (uH e):=by unfold sf;rw[List.getElem?_map,he];rfl
   have huti:(oT ops.toList es)[i]? =some (Iu o.dst e):=by
    unfold oT
    rw[List.getElem?_zipWith,Array.getElem?_toList,ho,he]
   unfold wpOp
   rw[ho]
   refine hst.step hop ?_ ?_ hfresh (fun t ht=>hdn i o t ho ht) ?_
   ·intro t x hlk hx
    rw[←hTl t x hlk hx]
    refine dG _ _ _ _ rfl fun j u hj hu=>?_
    obtain⟨oj,ej,hoj,_,hdj,_⟩:=hwr hj hu
    rw[Nat.zero_add]
    refine hmask j (fun h=>?_) (fun h=>?_)
    ·apply Classical.byContradiction
     intro hp
     exact((hind j i oj o h hp hoj ho).1 t hdj).1 hlk
    ·apply Classical.byContradiction
     intro hp
     exact(hind i j o oj h hp ho hoj).2 t hdj hlk
   ·intro k c hk
    rw[←hHl k c hk]
    refine dG _ _ _ _ rfl fun j u hj hu=>?_
    obtain⟨ej,hej,hch,_⟩:=hwh hj hu
    rw[Nat.zero_add]
    refine hmask j (fun h=>?_) (fun h=>?_)
    ·apply Classical.byContradiction
     intro hp
     rw[((hcon j i ej e h hp hej he k).1 hch).1] at hk;cases hk
    ·apply Classical.byContradiction
     intro hp
     rw[((hcon i j e ej h hp he hej k).2 hch).1] at hk;cases hk
   ·intro A' β' a' w' hA1' hA2' hh' hst'
    have eT:wT o.dst e.x (eX (fun j=>listed.getD j false) 0 (oT ops.toList es) T0)=eX (fun j=>(listed.setIfInBounds i true).getD j false) 0 (oT ops.toList es) T0:=by
     funext t
     unfold wT
     split
     ·rename_i hdt
      symm
      refine qb (u:=Iu o.dst e) _ _ _ i huti (by unfold Iu;rw[if_pos hdt]) (by rw[Nat.zero_add,hmi,if_pos rfl]) ?_
      intro j' u' hj' hlt hmj
      apply Classical.byContradiction
      intro hu'
      obtain⟨oj,ej,hoj,_,hdj,_⟩:=hwr hj' hu'
      rw[Nat.zero_add,hmi,if_neg (by omega)] at hmj
      by_cases hp:pre i j'
      ·rw[habv j' (hpre i j' hp)] at hmj;cases hmj
      ·exact((hind i j' o oj hlt hp ho hoj).1 t hdt).2 hdj
     ·rename_i hdt
      symm
      refine dG _ _ _ _ rfl fun j u hj hu=>?_
      obtain⟨oj,ej,hoj,_,hdj,_⟩:=hwr hj hu
      rw[Nat.zero_add,hmi,if_neg]
      intro q;subst q
      rw[ho] at hoj;injection hoj with hoj;subst hoj
      exact hdt hdj
    have hsub: ∀k c,e.Hv k=some c→eX (fun j=>listed.getD j false) 0 (sf es) H0 k=some c:=by
     intro k c hk
     rw[←hHl k c hk]
     refine dG _ _ _ _ rfl fun j u hj hu=>?_
     obtain⟨ej,hej,hch,_⟩:=hwh hj hu
     rw[Nat.zero_add]
     refine hmask j (fun h=>?_) (fun h=>?_)
     ·apply Classical.byContradiction
      intro hp
      rw[((hcon j i ej e h hp hej he k).1 hch).1] at hk;cases hk
     ·apply Classical.byContradiction
      intro hp
      rw[((hcon i j e ej h hp he hej k).2 hch).1] at hk;cases hk
    have eH:e8 (eX (fun j=>listed.getD j false) 0 (sf es) H0) e.Hv e.Hv'=eX (fun j=>(listed.setIfInBounds i true).getD j false) 0 (sf es) H0:=by
     funext k
     by_cases hch:e.Hv' k=e.Hv k
     ·have hno:uH e k=none:=by unfold uH;rw[if_pos hch]
      have h1:eX (fun j=>(listed.setIfInBounds i true).getD j false) 0 (sf es) H0 k=eX (fun j=>listed.getD j false) 0 (sf es) H0 k:=by
       refine dG _ _ _ _ rfl fun j u hj hu=>?_
       rw[Nat.zero_add,hmi,if_neg]
       intro q;subst q
       rw[hui] at hj;injection hj with hj;subst hj
       exact hu hno
      rw[h1]
      unfold e8
      rw[hch]
      cases h2:e.Hv k with
      |none=>rfl
      |some c=>exact(hsub k c h2).symm
     ·have h1:eX (fun j=>(listed.setIfInBounds i true).getD j false) 0 (sf es) H0 k=e.Hv' k:=by
       refine qb (u:=uH e) _ _ _ i hui (Nl hch) (by rw[Nat.zero_add,hmi,if_pos rfl]) ?_
       intro j' u' hj' hlt hmj
       apply Classical.byContradiction
       intro hu'
       obtain⟨ej,hej,hcj,_⟩:=hwh hj' hu'
       rw[Nat.zero_add,hmi,if_neg (by omega)] at hmj
       by_cases hp:pre i j'
       ·rw[habv j' (hpre i j' hp)] at hmj;cases hmj
       ·obtain⟨q1,q2⟩:=(hcon i j' e ej hlt hp he hej k).1 hch
        exact hcj (by rw[q1,q2])
      rw[h1]
      unfold e8
      cases h2:e.Hv' k with
      |some c=>rfl
      |none=>
       cases h3:e.Hv k with
       |some c=>rfl
       |none=>exact absurd (h2.trans h3.symm) hch
    rw[eT,eH] at hst'
    rw[eH] at hh'
    refine ih (listed.setIfInBounds i true) A' β' a' w' (by simpa using hsz) (by have:=rJ (listed:=listed) (i:=i) (by omega) hif;omega) ?_ (fun k hk=>hA1' k (hA1 k hk)) ?_ (hh.trans hA1 (hh'.wide (hN i e he).1 (hN i e he).2)) hst'
    ·intro i' o' j' h1 h2 h3
     rw[hmi] at h1⊢
     by_cases hji:j'=i
     ·rw[if_pos hji]
     ·rw[if_neg hji]
      by_cases hii:i'=i
      ·subst hii
       rw[ho] at h2
       injection h2 with h2
       subst h2
       obtain⟨e',he',hb',rfl⟩:=fA h3
       exact hae e' he' hb'
      ·rw[if_neg hii] at h1
       exact hcl i' o' j' h1 h2 h3
    ·intro k hk
     rcases hA2' k hk with h|h
     ·rcases hA2 k h with q|⟨j,ej,q1,q2,q3⟩
      ·exact .inl q
      ·refine .inr ⟨j,ej,?_,q2,q3⟩
       rw[hmi];split
       ·rfl
       ·exact q1
     ·exact .inr ⟨i,e,by rw[hmi,if_pos rfl],he,h⟩
end
section
variable {α β:Type}
noncomputable def oO (x:Option α) (f:α→Option β):Option β:=@Option.rec α (fun _=>Option β) none f x
noncomputable def bT (b:Bool) (x:Option β):Option β:=@Bool.rec (fun _=>Option β) none x b
noncomputable def bI (b:Bool) (x y:β):β:=@Bool.rec (fun _=>β) y x b
end
noncomputable def bA (a b:Bool):Bool:=@Bool.rec (fun _=>Bool) false b a
inductive Tr (α:Type) where
 |e
 |n (l:Tr α) (v:Option α) (r:Tr α)
section
variable {α:Type}
noncomputable def Tr.get (t:Tr α):Nat→Option α:=
 @Tr.rec α (fun _=>Nat→Option α) (fun _=>none) (fun _ v _ gl gr k=>@Bool.rec (fun _=>Option α) (@Bool.rec (fun _=>Option α) (gr (Nat.div k 2)) (gl (Nat.div k 2)) (Nat.beq (Nat.mod k 2) 1)) v (Nat.beq k 0)) t
noncomputable def Tr.one (v:α) (f:Nat):Nat→Tr α:=
 @Nat.rec (fun _=>Nat→Tr α) (fun _=>.e) (fun _ ih k=>@Bool.rec (fun _=>Tr α) (@Bool.rec (fun _=>Tr α) (.n .e none (ih (Nat.div k 2))) (.n (ih (Nat.div k 2)) none .e) (Nat.beq (Nat.mod k 2) 1)) (.n .e (some v) .e) (Nat.beq k 0)) f
noncomputable def Tr.set (t:Tr α) (v:α):Nat→Tr α:=
 @Tr.rec α (fun _=>Nat→Tr α) (fun k=>Tr.one v 40 k) (fun l o r sl sr k=>@Bool.rec (fun _=>Tr α) (@Bool.rec (fun _=>Tr α) (.n l o (sr (Nat.div k 2))) (.n (sl (Nat.div k 2)) o r) (Nat.beq (Nat.mod k 2) 1)) (.n l (some v) r) (Nat.beq k 0)) t
noncomputable def Tr.del (t:Tr α):Nat→Tr α:=
 @Tr.rec α (fun _=>Nat→Tr α) (fun _=>.e) (fun l o r sl sr k=>@Bool.rec (fun _=>Tr α) (@Bool.rec (fun _=>Tr α) (.n l o (sr (Nat.div k 2))) (.n (sl (Nat.div k 2)) o r) (Nat.beq (Nat.mod k 2) 1)) (.n l none r) (Nat.beq k 0)) t
end
noncomputable def PH (x:AV):Bool:=@AV.rec (fun _=>Bool) (fun _=>true) (fun _ _=>true) (fun _=>true) (fun _ _=>false) (fun _ _ _ _ _ _=>false) true true true (fun _=>true) (fun _ _ _ _=>false) x
noncomputable def SB (r:Rp):Bool:=@Rp.rec (fun _=>Bool) true PH (fun _ pu _ _ _ _=>pu) r
noncomputable def EX (ls:Nat) (l r:Rp):Rp:=.n ls (bA (SB l) (SB r)) l r
noncomputable def fm (ls:Nat) (l r:Rp):Rp:=@Rp.rec (fun _=>Rp) r (fun _=>@Rp.rec (fun _=>Rp) l (fun _=>EX ls l r) (fun _ _ _ _ _ _=>EX ls l r) r) (fun _ _ _ _ _ _=>@Rp.rec (fun _=>Rp) l (fun _=>EX ls l r) (fun _ _ _ _ _ _=>EX ls l r) r) l
noncomputable def fr (r:Rp):Nat→Nat→Nat→Rp:=
 @Rp.rec (fun _=>Nat→Nat→Nat→Rp) (fun _ _ _=>.e) (fun x _ _ n=>bI (Nat.beq n 0) .e (.c x))
  (fun ls pu l r sl sr tot off n=>bI (Nat.beq n tot) (.n ls pu l r) (bI (Nat.ble (Nat.add off n) ls) (sl ls off n) (bI (Nat.ble ls off) (sr (Nat.sub tot ls) (Nat.sub off ls) n)
   (fm (Nat.sub ls off) (sl ls off (Nat.sub ls off)) (sr (Nat.sub tot ls) 0 (Nat.sub (Nat.add off n) ls)))))) r
noncomputable def iw (d r:Rp):Nat→Nat→Nat→Rp:=
 @Rp.rec (fun _=>Nat→Nat→Nat→Rp) (fun _ _ _=>.e) (fun x _ _ n=>bI (Nat.beq n 0) (.c x) d)
  (fun ls _ l r ul ur tot off n=>bI (Nat.beq n tot) d (bI (Nat.ble (Nat.add off n) ls) (EX ls (ul ls off n) r) (bI (Nat.ble ls off) (EX ls l (ur (Nat.sub tot ls) (Nat.sub off ls) n))
   (fm off (fr l ls 0 off) (fm n d (fr r (Nat.sub tot ls) (Nat.sub (Nat.add off n) ls) (Nat.sub tot (Nat.add off n)))))))) r
noncomputable def kL (r:Rp):Nat→Option AV:=
 @Rp.rec (fun _=>Nat→Option AV) (fun _=>none) (fun x off=>@Bool.rec (fun _=>Option AV) none (some x) (Nat.beq off 0)) (fun ls _ _ _ gl gr off=>@Bool.rec (fun _=>Option AV) (gr (Nat.sub off ls)) (gl off) (Nat.blt off ls)) r
noncomputable def nh (l:List AV):Rp:=@List.rec AV (fun _=>Rp) .e (fun x _ ih=>fm 1 (.c x) ih) l
noncomputable def j8 (m:Nat) (z:Rp) (n:Nat):Rp:=@Nat.rec (fun _=>Rp) .e (fun _ ih=>fm m z ih) n
structure Bx where
 U:TypeId
 n:Nat
 r:Rp
inductive Lg where
 |p
 |r (k:Nat)
 |w (k:Nat)
 |nw (k:Nat)
 |c (H H':Tr Bx)
inductive Rs where
 |mk (x:XV) (N:Nat) (H:Tr Bx) (g:Lg)
inductive Ro where
 |no
 |n (T:Tr XV) (N:Nat) (H:Tr Bx)
 |x (id:Nat) (T:Tr XV) (N:Nat) (H:Tr Bx)
 |r (T:Tr XV) (N:Nat) (H:Tr Bx)
inductive Cr where
 |no
 |p (x:XV)
 |h (x:XV) (N:Nat) (H:Tr Bx)
abbrev fb:=FuncId→List XV→Nat→Tr Bx→Cr
abbrev LX:=List (Nat×XV)
abbrev jB:=fb→LX→Tr XV→Nat→Tr Bx→Option Rs
abbrev lT:=fb→Nat→Tr XV→Nat→Tr Bx→Ro
inductive XO where
 |l (n:Nat)
 |t (n:Nat)
 |k (x:XV)
noncomputable def sL (t:Nat) (l:LX):Option XV:=@List.rec (Nat×XV) (fun _=>Option XV) none (fun p _ ih=>@Bool.rec (fun _=>Option XV) ih (some p.2) (Nat.beq p.1 t)) l
noncomputable def XO.get (x:XO) (L:LX) (T:Tr XV):Option XV:=@XO.rec (fun _=>Option XV) (fun n=>sL n L) (fun n=>T.get n) (fun v=>some v) x
noncomputable def xE (xs:List XO) (L:LX) (T:Tr XV):Option (List XV):=@List.rec XO (fun _=>Option (List XV)) (some []) (fun x _ ih=>oO (x.get L T) fun v=>oO ih fun vs=>some (v::vs)) xs
section
variable {β:Type}
noncomputable def xC (x:XV) (f:AV→Option β):Option β:=@XV.rec (fun _=>Option β) f (fun _ _=>none) (fun _=>none) none x
noncomputable def xA (x:XV) (f:Nat→Rp→Option β):Option β:=@XV.rec (fun _=>Option β) (fun _=>none) f (fun _=>none) none x
noncomputable def xT (x:XV) (f:List XD→Option β):Option β:=@XV.rec (fun _=>Option β) (fun _=>none) (fun _ _=>none) f none x
noncomputable def aB (x:AV) (f:Bool→Option β):Option β:=@AV.rec (fun _=>Option β) f (fun _ _=>none) (fun _=>none) (fun _ _=>none) (fun _ _ _ _ _ _=>none) none none none (fun _=>none) (fun _ _ _ _=>none) x
noncomputable def aI (x:AV) (f:IntKind→Int→Option β):Option β:=@AV.rec (fun _=>Option β) (fun _=>none) f (fun _=>none) (fun _ _=>none) (fun _ _ _ _ _ _=>none) none none none (fun _=>none) (fun _ _ _ _=>none) x
noncomputable def aP (x:AV) (f:Nat→Nat→Option β):Option β:=@AV.rec (fun _=>Option β) (fun _=>none) (fun _ _=>none) (fun _=>none) f (fun _ _ _ _ _ _=>none) none none none (fun _=>none) (fun _ _ _ _=>none) x
noncomputable def aS (x:AV) (f:Nat→Nat→Nat→Nat→Bool→Nat→Option β) (z ev:Option β):Option β:=@AV.rec (fun _=>Option β) (fun _=>none) (fun _ _=>none) (fun _=>none) (fun _ _=>none) f z ev none (fun _=>none) (fun _ _ _ _=>none) x
noncomputable def T3 (i:Int) (f:Nat→Option β):Option β:=@Int.rec (fun _=>Option β) f (fun _=>none) i
end
noncomputable def xB {β:Type}(x:XV) (f:Bool→Option β):Option β:=xC x fun a=>aB a f
noncomputable def xI {β:Type}(x:XV) (f:IntKind→Int→Option β):Option β:=xC x fun a=>aI a f
noncomputable def xP {β:Type}(x:XV) (f:Nat→Nat→Option β):Option β:=xC x fun a=>aP a f
noncomputable def xN {β:Type}(x:XV) (f:Nat→Option β):Option β:=xI x fun _ i=>T3 i f
noncomputable def xD {β:Type}(x:XV) (f:Nat→Rp→Option β):Option β:=@XV.rec (fun _=>Option β) (fun a=>f 1 (.c a)) f (fun _=>none) none x
noncomputable def kN (k:IntKind):Nat:=@IntKind.rec (fun _=>Nat) 0 1 2 3 4 5 6 7 k
noncomputable def oX (x y:Int):Bool:=@Int.rec (fun _=>Bool) (fun _=>false) (fun _=>true) (Int.sub x y)
noncomputable def Jm (x y:Int):Bool:=@Int.rec (fun _=>Bool) (fun n=>Nat.beq n 0) (fun _=>false) (Int.sub x y)
noncomputable def rh (k:IntKind) (n:Int):Int:=bI (Nat.beq (kN k) 3) (bI (Nat.blt n.natAbs 9223372036854775808) n (k.wrap n)) (k.wrap n)
noncomputable def pR (x:XV) (N:Nat) (H:Tr Bx):Option Rs:=some (.mk x N H .p)
noncomputable def Ky (x:XO):jB:=fun _ L T N H=>oO (x.get L T) fun v=>pR v N H
noncomputable def IA (c a b:XO):jB:=fun _ L T N H=>oO (c.get L T) fun c=>xB c fun t=>oO (bI t (a.get L T) (b.get L T)) fun v=>pR v N H
noncomputable def PI (x:XV) (U n:Nat) (r:Rp) (N:Nat) (H:Tr Bx):Option Rs:=some (.mk x (Nat.succ N) (H.set ⟨U,n,r⟩ N) (.nw N))
noncomputable def Cz (U n:Nat) (z:Rp):jB:=fun _ _ _ N H=>PI (.c (.p N 0)) U n z N H
noncomputable def Ni (U:Nat) (x:XO):jB:=fun _ L T N H=>oO (x.get L T) fun v=>xD v fun n r=>PI (.c (.p N 0)) U n r N H
noncomputable def BQ (L:LX) (T:Tr XV) (tot:Nat) (ps:List (Nat×Nat×XO)):Rp→Option Rp:=
 @List.rec (Nat×Nat×XO) (fun _=>Rp→Option Rp) (fun r=>some r) (fun p _ ih r=>oO (p.2.2.get L T) fun v=>xD v fun n d=>bT (Nat.beq n p.2.1) (bT (Nat.ble (Nat.add p.1 n) tot) (ih (iw d r tot p.1 n)))) ps
noncomputable def B9 (tot:Nat) (z:Rp) (ps:List (Nat×Nat×XO)):jB:=fun _ L T N H=>oO (BQ L T tot ps z) fun r=>pR (.a tot r) N H
noncomputable def Mp (e n m:Nat) (z:Rp) (ps:List (Nat×Nat×XO)):jB:=fun _ L T N H=>oO (BQ L T (Nat.mul n m) ps z) fun r=>PI (.c (.s N 0 n n true m)) e (Nat.mul n m) r N H
noncomputable def TN (H:Tr Bx) (x:XV) (f:Nat→Nat→Bx→Option Rs):Option Rs:=xP x fun k off=>oO (H.get k) fun b=>f k off b
noncomputable def M7 (n:Nat) (x:XO):jB:=fun _ L T N H=>oO (x.get L T) fun v=>TN H v fun k off b=>bT (Nat.ble (Nat.add off n) b.n) (some (.mk (.a n (fr b.r b.n off n)) N H (.r k)))
noncomputable def Nm (x:XO):jB:=fun _ L T N H=>oO (x.get L T) fun v=>TN H v fun k off b=>oO (kL b.r off) fun a=>some (.mk (.c a) N H (.r k))
noncomputable def PX (n:Nat) (a x:XO):jB:=fun _ L T N H=>oO (a.get L T) fun v=>oO (x.get L T) fun y=>TN H v fun k off b=>xD y fun m d=>bT (Nat.beq m n) (bT (Nat.ble (Nat.add off n) b.n)
 (some (.mk .u N (H.set ⟨b.U,b.n,iw d b.r b.n off n⟩ k) (.w k))))
noncomputable def Im (x:XO):jB:=fun _ L T N H=>oO (x.get L T) fun v=>xP v fun k off=>pR (.c (.p k off)) N H
noncomputable def Nv (f:IntKind→Int→Int→Option AV) (x y:XO):jB:=fun _ L T N H=>oO (x.get L T) fun v=>oO (y.get L T) fun y2=>xI v fun k a=>xI y2 fun k' b=>bT (Nat.beq (kN k) (kN k')) (oO (f k a b) fun r=>pR (.c r) N H)
noncomputable def Mz (f:IntKind→Int→Int→Option AV) (x y:XO):jB:=fun _ L T N H=>oO (x.get L T) fun v=>oO (y.get L T) fun y2=>xI v fun k a=>xI y2 fun _ b=>oO (f k a b) fun r=>pR (.c r) N H
noncomputable def BM (ne:Bool) (x y:XO):jB:=fun _ L T N H=>oO (x.get L T) fun v=>oO (y.get L T) fun y2=>xB v fun a=>xB y2 fun b=>pR (.c (.b (bI ne (!(a==b)) (a==b)))) N H
noncomputable def C8 (ne:Bool) (x:XO):jB:=fun _ L T N H=>oO (x.get L T) fun v=>xC v fun a=>aS a (fun _ _ _ _ _ _=>pR (.c (.b ne)) N H) (pR (.c (.b (!ne))) N H) none
noncomputable def FM (s:ByteArray) (i:XO):jB:=fun _ L T N H=>oO (i.get L T) fun v=>xN v fun j=>oO s.data.toList[j]? fun b=>pR (.c (.i .u8 b.toNat)) N H
noncomputable def Na (x:XO):jB:=fun _ L T N H=>oO (x.get L T) fun v=>xB v fun a=>pR (.c (.b (bI a false true))) N H
noncomputable def Ms (x:XO):jB:=fun _ L T N H=>oO (x.get L T) fun v=>xI v fun k a=>pR (.c (.i k (rh k (0-a)))) N H
noncomputable def GD (k:IntKind) (x:XO):jB:=fun _ L T N H=>oO (x.get L T) fun v=>xI v fun _ a=>pR (.c (.i k (rh k a))) N H
noncomputable def NR (g:FuncId) (vs:List XV):Option AV:=@List.rec XV (fun _=>Option AV) (some (.f0 g)) (fun v _ ih=>xC v fun a=>oO ih fun y=>some (.fc a y)) vs
noncomputable def MX (g:FuncId) (xs:List XO):jB:=fun _ L T N H=>oO (xE xs L T) fun vs=>oO (NR g vs) fun y=>pR (.c y) N H
noncomputable def Nb (e m by_:Nat) (z:Rp) (n c:XO):jB:=fun _ L T N H=>oO (n.get L T) fun v=>oO (c.get L T) fun y2=>xN v fun a=>xN y2 fun b=>bT (Nat.ble a b) (bT (Nat.ble (Nat.mul b by_) 140737488355328) (bT (Nat.ble b 100000)
 (PI (.c (.s N 0 a b true m)) e (Nat.mul b m) (j8 m z b) N H)))
noncomputable def ra (L:LX) (T:Tr XV) (d:Nat) (x:Option XO):Option Nat:=@Option.rec XO (fun _=>Option Nat) (some d) (fun x=>oO (x.get L T) fun v=>xN v some) x
noncomputable def Tf (m k off lo:Nat) (ex:Bool) (l h:Nat):Option AV:=bT (Nat.ble l h) (bT (Nat.ble h lo) (bI (Nat.blt l lo) (some (.s k (Nat.add off (Nat.mul l m)) (Nat.sub h l) (Nat.sub lo l) ex m)) (bI ex (some (.s k off 0 0 true m)) (some .ev))))
noncomputable def S7 (m k off lo:Nat) (l h M:Nat):Option AV:=bT (Nat.ble l h) (bT (Nat.ble h M) (bT (Nat.ble M lo) (bI (Nat.blt l M) (some (.s k (Nat.add off (Nat.mul l m)) (Nat.sub h l) (Nat.sub M l) true m)) (some (.s k off 0 0 true m)))))
noncomputable def Mq (m:Nat) (x:XO) (lo hi:Option XO):jB:=fun _ L T N H=>oO (x.get L T) fun v=>xC v fun a=>aS a
 (fun k off n lo' ex m'=>oO (ra L T 0 lo) fun l=>oO (ra L T n hi) fun h=>bT (Nat.beq m m') (oO (Tf m k off lo' ex l h) fun r=>pR (.c r) N H))
 (oO (ra L T 0 lo) fun l=>oO (ra L T 0 hi) fun h=>bT (Nat.beq l 0) (bT (Nat.beq h 0) (pR (.c .z) N H))) none
noncomputable def M4 (m:Nat) (x:XO) (lo:Option XO) (hi mx:XO):jB:=fun _ L T N H=>oO (x.get L T) fun v=>xC v fun a=>aS a
 (fun k off _ lo' _ m'=>oO (ra L T 0 lo) fun l=>oO (ra L T 0 (some hi)) fun h=>oO (ra L T 0 (some mx)) fun M=>bT (Nat.beq m m') (oO (S7 m k off lo' l h M) fun r=>pR (.c r) N H)) none none
noncomputable def PU (o':Nat) (x:XO):jB:=fun _ L T N H=>oO (x.get L T) fun v=>xP v fun k off=>pR (.c (.p k (Nat.add off o'))) N H
noncomputable def M5 (o' n:Nat) (x:XO):jB:=fun _ L T N H=>oO (x.get L T) fun v=>xA v fun tot r=>bT (Nat.ble (Nat.add o' n) tot) (pR (.a n (fr r tot o' n)) N H)
noncomputable def MS (o':Nat) (x:XO):jB:=fun _ L T N H=>oO (x.get L T) fun v=>xA v fun _ r=>oO (kL r o') fun a=>pR (.c a) N H
noncomputable def QB (m:Nat) (x i:XO):jB:=fun _ L T N H=>oO (x.get L T) fun v=>oO (i.get L T) fun y2=>xC v fun a=>xN y2 fun j=>aS a (fun k off n _ _ m'=>bT (Nat.blt j n) (bT (Nat.beq m m') (pR (.c (.p k (Nat.add off (Nat.mul j m)))) N H))) none none
noncomputable def Mw (n m:Nat) (x i:XO):jB:=fun _ L T N H=>oO (x.get L T) fun v=>oO (i.get L T) fun y2=>xP v fun k off=>xN y2 fun j=>bT (Nat.blt j n) (pR (.c (.p k (Nat.add off (Nat.mul j m)))) N H)
noncomputable def LK (d:XD):XV:=@XD.rec (fun _=>XV) (fun x=>.c x) (fun n r=>.a n r) d
noncomputable def KD (ds:List XD):Nat→Option XD:=@List.rec XD (fun _=>Nat→Option XD) (fun _=>none) (fun d _ ih i=>@Bool.rec (fun _=>Option XD) (ih (Nat.pred i)) (some d) (Nat.beq i 0)) ds
noncomputable def MM (x:XO) (i:Nat):jB:=fun _ L T N H=>oO (x.get L T) fun v=>xT v fun ds=>oO (KD ds i) fun d=>pR (LK d) N H
noncomputable def Tm (y:AV):List XV→(FuncId→List XV→Option Rs)→Option Rs:=
 @AV.rec (fun _=>List XV→(FuncId→List XV→Option Rs)→Option Rs) (fun _ _ _=>none) (fun _ _ _ _=>none) (fun _ _ _=>none) (fun _ _ _ _=>none) (fun _ _ _ _ _ _ _ _=>none) (fun _ _=>none) (fun _ _=>none) (fun _ _=>none)
  (fun g acc f=>f g acc.reverse) (fun x _ _ ihy acc f=>ihy (.c x::acc) f) y
noncomputable def Ty (H:Tr Bx) (N:Nat) (r:Cr):Option Rs:=@Cr.rec (fun _=>Option Rs) none (fun x=>some (.mk x N H .p)) (fun x N' H'=>some (.mk x N' H' (.c H H'))) r
noncomputable def Bb (g:FuncId) (xs:List XO):jB:=fun call L T N H=>oO (xE xs L T) fun vs=>Ty H N (call g vs N H)
noncomputable def GW (f:XO) (xs:List XO):jB:=fun call L T N H=>oO (f.get L T) fun v=>xC v fun y=>oO (xE xs L T) fun vs=>Tm y vs.reverse fun g vs'=>Ty H N (call g vs' N H)
noncomputable def MR (x:XO):jB:=fun _ L T N H=>oO (x.get L T) fun v=>xC v fun a=>aS a (fun _ _ n _ _ _=>pR (.c (.i .i64 (.ofNat n))) N H) (pR (.c (.i .i64 (.ofNat 0))) N H) (pR (.c (.i .i64 (.ofNat 0))) N H)
noncomputable def Ri (H:Tr Bx) (e m:Nat) (y:AV) (f:Nat→Rp→Option Rs):Option Rs:=
 aS y (fun k off q _ _ m'=>oO (H.get k) fun b=>bT (Nat.beq b.U e) (bT (Nat.beq m m') (bT (Nat.ble (Nat.add off (Nat.mul q m)) b.n) (f q (fr b.r b.n off (Nat.mul q m)))))) (f 0 .e) (f 0 .e)
noncomputable def Jz (x:XV) (N:Nat) (H H':Tr Bx):Option Rs:=some (.mk x N H' (.c H H'))
noncomputable def TC (e m by_:Nat) (N:Nat) (H:Tr Bx) (q:Nat) (ys:Rp):Option Rs:=bT (Nat.ble (Nat.mul q by_) 140737488355328) (bT (Nat.ble q 1000000) (Jz (.c (.s N 0 q q false m)) (Nat.succ N) H (H.set ⟨e,Nat.mul q m,ys⟩ N)))
noncomputable def TI (e m by_:Nat) (N:Nat) (H:Tr Bx) (q:Nat) (ys:Rp) (k off n lo:Nat) (ex:Bool) (m':Nat):Option Rs:=
 oO (H.get k) fun b=>bT (Nat.beq b.U e) (bT (Nat.beq m m') (bT (Nat.ble (Nat.mul (Nat.add n q) by_) 140737488355328) (bT (Nat.ble (Nat.add n q) 1000000) (bT (Nat.ble (Nat.add off (Nat.mul n m)) b.n)
  (bI (Nat.ble (Nat.add n q) lo)
   (bI (Nat.ble (Nat.add off (Nat.mul (Nat.add n q) m)) b.n)
    (Jz (.c (.s k off (Nat.add n q) lo ex m)) N H (H.set ⟨e,b.n,iw ys b.r b.n (Nat.add off (Nat.mul n m)) (Nat.mul q m)⟩ k))
    (Jz (.c (.s k off (Nat.add n q) lo ex m)) N H (H.set ⟨e,Nat.add off (Nat.mul (Nat.add n q) m),fm (Nat.add off (Nat.mul n m)) (fr b.r b.n 0 (Nat.add off (Nat.mul n m))) ys⟩ k)))
   (bI ex
    (Jz (.c (.s N 0 (Nat.add n q) (Nat.add n q) false m)) (Nat.succ N) H (H.set ⟨e,Nat.mul (Nat.add n q) m,fm (Nat.mul n m) (fr b.r b.n off (Nat.mul n m)) ys⟩ N))
    (bT (Nat.beq off 0) (Jz (.c (.s N 0 (Nat.add n q) (Nat.add n q) false m)) (Nat.succ N) H ((H.del k).set ⟨e,Nat.mul (Nat.add n q) m,fm (Nat.mul n m) (fr b.r b.n 0 (Nat.mul n m)) ys⟩ N)))))))))
noncomputable def Mc (e m by_:Nat) (x y:XO):jB:=fun _ L T N H=>oO (x.get L T) fun v=>oO (y.get L T) fun y2=>xC v fun a=>xC y2 fun b=>Ri H e m b fun q ys=>bI (Nat.beq q 0)
 (aS a (fun k off n lo ex m'=>pR (.c (.s k off n lo ex m')) N H) (pR (.c .z) N H) none)
 (aS a (fun k off n lo ex m'=>TI e m by_ N H q ys k off n lo ex m') (TC e m by_ N H q ys) none)
noncomputable def Td (mx:Bool) (k:IntKind) (vs:List XV):Int→Option Int:=
 @List.rec XV (fun _=>Int→Option Int) (fun a=>some a) (fun v _ ih a=>xI v fun k' b=>bT (Nat.beq (kN k) (kN k')) (ih (bI mx (bI (oX a b) b a) (bI (oX b a) b a)))) vs
noncomputable def KI (mx:Bool) (x:XO) (xs:List XO):jB:=fun _ L T N H=>oO (x.get L T) fun v=>xI v fun k a=>oO (xE xs L T) fun vs=>oO (Td mx k vs a) fun r=>pR (.c (.i k r)) N H
noncomputable def Mb:jB:=fun _ _ _ _ _=>none
noncomputable def Me (x:XO):jB:=fun _ L T N H=>oO (x.get L T) fun v=>xC v fun a=>aS a (fun _ _ _ lo ex _=>bT ex (pR (.c (.i .i64 (.ofNat lo))) N H)) (pR (.c (.i .i64 (.ofNat 0))) N H) none
noncomputable def MY (e m by_:Nat) (z:Rp) (x n:XO):jB:=fun _ L T N H=>oO (x.get L T) fun v=>oO (n.get L T) fun y2=>xC v fun a=>xN y2 fun q=>aS a (fun _ _ _ _ _ _=>none)
 (bT (Nat.blt 0 q) (bT (Nat.ble (Nat.mul q by_) 140737488355328) (bT (Nat.ble q 1000000) (Jz (.c (.s N 0 q q false m)) (Nat.succ N) H (H.set ⟨e,Nat.mul q m,j8 m z q⟩ N))))) none
noncomputable def Mh (m:Nat) (z:Rp) (x:XO):jB:=fun _ L T N H=>oO (x.get L T) fun v=>xC v fun a=>aS a
 (fun k off n _ _ m'=>bI (Nat.beq n 0) (pR (.t []) N H) (oO (H.get k) fun b=>bT (Nat.beq m m') (bT (Nat.ble (Nat.add off (Nat.mul n m)) b.n) (Jz (.t []) N H (H.set ⟨b.U,b.n,iw (j8 m z n) b.r b.n off (Nat.mul n m)⟩ k)))))
 (pR (.t []) N H) (pR (.t []) N H)
structure XI where
 dst:Option Nat
 lo:Bool
 g:Option (XO×Bool)
 k:jB
noncomputable def Ea (d:Option Nat) (lo:Bool) (x:XV) (L:LX) (T:Tr XV) (κ:LX→Tr XV→Ro):Ro:=
 @Option.rec Nat (fun _=>Ro) (κ L T) (fun d=>@Bool.rec (fun _=>Ro) (κ L (T.set x d)) (κ ((d,x)::L) T) lo) d
noncomputable def PG (g:Option (XO×Bool)) (L:LX) (T:Tr XV):Option Bool:=
 @Option.rec (XO×Bool) (fun _=>Option Bool) (some true) (fun p=>oO (p.1.get L T) fun v=>@XV.rec (fun _=>Option Bool) (fun a=>aB a fun b=>some (b==p.2)) (fun _ _=>none) (fun _=>none) (some false) v) g
noncomputable def KS (call:fb) (i:XI) (L:LX) (T:Tr XV) (N:Nat) (H:Tr Bx) (κ:LX→Tr XV→Nat→Tr Bx→Lg→Ro):Ro:=
 @Option.rec Bool (fun _=>Ro) .no (fun b=>@Bool.rec (fun _=>Ro) (Ea i.dst i.lo .u L T fun L T=>κ L T N H .p)
  (@Option.rec Rs (fun _=>Ro) .no (fun r=>@Rs.rec (fun _=>Ro) (fun x N' H' g=>Ea i.dst i.lo x L T fun L T=>κ L T N' H' g) r) (i.k call L T N H)) b) (PG i.g L T)
noncomputable def Bg (call:fb) (l:List XI):LX→Tr XV→Nat→Tr Bx→Ro:=
 @List.rec XI (fun _=>LX→Tr XV→Nat→Tr Bx→Ro) (fun _ T N H=>.n T N H) (fun i _ ih L T N H=>KS call i L T N H fun L T N H _=>ih L T N H) l
def pW:AV→AV→Bool
 | .b x,.b y=>x==y
 | .i k x,.i k' y=>decide (k=k')&&x==y
 | .l x,.l y=>Nat.beq x y
 | .p k o,.p k' o'=>Nat.beq k k'&&Nat.beq o o'
 | .s k o n l e m,.s k' o' n' l' e' m'=>Nat.beq k k'&&Nat.beq o o'&&Nat.beq n n'&&Nat.beq l l'&&(e==e')&&Nat.beq m m'
 | .z,.z=>true
 | .np,.np=>true
 | .f0 g,.f0 g'=>Nat.beq g g'
 | .fc x y,.fc x' y'=>pW x x'&&pW y y'
 |_,_=>false
def A6:Rp→Rp→Bool
 | .e,.e=>true
 | .c x,.c y=>pW x y
 | .n _ _ l r,.n _ _ l' r'=>A6 l l'&&A6 r r'
 |_,_=>false
def EM:Option Bx→Option Bx→Bool
 |none,none=>true
 |some b,some b'=>Nat.beq b.U b'.U&&A6 b.r b'.r
 |_,_=>false
noncomputable def mG (H:Tr Bx) (k:Nat):Bool:=@Option.rec Bx (fun _=>Bool) true (fun _=>false) (H.get k)
noncomputable def apart:Lg→Lg→Bool
 | .p,_=>true
 |_,.p=>true
 | .r _,.r _=>true
 | .r k,.w k'=> !Nat.beq k k'
 | .w k',.r k=> !Nat.beq k k'
 | .r k,.nw k'=> !Nat.beq k k'
 | .nw k',.r k=> !Nat.beq k k'
 | .r k,.c H H'=>EM (H.get k) (H'.get k)
 | .c H H',.r k=>EM (H.get k) (H'.get k)
 | .w k,.w k'=> !Nat.beq k k'
 | .w k,.nw k'=> !Nat.beq k k'
 | .nw k',.w k=> !Nat.beq k k'
 | .nw k,.nw k'=> !Nat.beq k k'
 | .c H H',.nw k=>mG H k&&mG H' k
 | .nw k,.c H H'=>mG H k&&mG H' k
 | .c H H',.w k=>mG H k&&mG H' k
 | .w k,.c H H'=>mG H k&&mG H' k
 | .c _ _,.c _ _=>false
abbrev uk:=List (Nat×Lg)
noncomputable def qt (mk:Nat) (g:Lg) (l:uk):Bool:=@List.rec (Nat×Lg) (fun _=>Bool) true (fun p _ ih=>@Bool.rec (fun _=>Bool) (bA (apart p.2 g) ih) ih (Nat.testBit mk p.1)) l
noncomputable def Qt (mk:Nat) (l:uk):List Nat:=@List.rec (Nat×Lg) (fun _=>List Nat) [] (fun p _ ih=>@Bool.rec (fun _=>List Nat) (@Lg.rec (fun _=>List Nat) ih (fun _=>ih) (fun _=>ih) (fun k=>k::ih) (fun _ _=>ih) p.2) ih (Nat.testBit mk p.1)) l
noncomputable def DZ (H:Tr Bx):List Nat→Tr Bx
 |[]=>H
 |k::r=>DZ (H.del k) r
noncomputable def Ai (H0 Hc:Tr Bx):List Nat→Tr Bx→Option (Tr Bx)
 |[],H=>some H
 |k::r,H=>match Hc.get k,H0.get k with
  |none,some b=>Ai H0 Hc r (H.set b k)
  |_,_=>none
structure XJ where
 i:XI
 cl:Bool
 bf:Nat
noncomputable def wz (mk k:Nat) (g:Lg) (lr lw:uk) (κ:uk→uk→Ro):Ro:=bI (qt mk g lw) (bI (qt mk g lr) (κ lr ((k,g)::lw)) .no) .no
noncomputable def KN (mk k:Nat) (g:Lg) (lr lw:uk) (κ:uk→uk→Ro):Ro:=
 @Lg.rec (fun _=>Ro) (κ lr lw) (fun b=>bI (qt mk (.r b) lw) (κ ((k,.r b)::lr) lw) .no) (fun b=>wz mk k (.w b) lr lw κ) (fun b=>wz mk k (.nw b) lr lw κ) (fun H H'=>wz mk k (.c H H') lr lw κ) g
noncomputable def GR (g:Lg):Bool:=@Lg.rec (fun _=>Bool) true (fun _=>false) (fun _=>false) (fun _=>false) (fun _ _=>true) g
noncomputable def EH (call:fb) (i:XI) (hs:List Nat) (L:LX) (T:Tr XV) (N:Nat) (H:Tr Bx) (κ:LX→Tr XV→Nat→Tr Bx→Lg→Ro):Ro:=
 @List.rec Nat (fun _=>Ro) (KS call i L T N H κ) (fun h t _=>KS call i L T N (DZ H (h::t)) fun L T N H' g=>bI (GR g) (@Option.rec (Tr Bx) (fun _=>Ro) .no (fun H2=>κ L T N H2 g) (Ai H H' (h::t) H')) .no) hs
noncomputable def wF (call:fb) (l:List XJ):Nat→LX→Tr XV→Nat→Tr Bx→uk→uk→Ro:=
 @List.rec XJ (fun _=>Nat→LX→Tr XV→Nat→Tr Bx→uk→uk→Ro) (fun _ _ T N H _ _=>.n T N H)
  (fun j _ ih k L T N H lr lw=>EH call j.i (@Bool.rec (fun _=>List Nat) [] (Qt j.bf lw) j.cl) L T N H fun L T N H g=>KN j.bf k g lr lw fun lr lw=>ih (Nat.succ k) L T N H lr lw) l
noncomputable def Qv:lT:=fun _ _ T N H=>.n T N H
noncomputable def SU (l:List XI):lT:=fun call _ T N H=>Bg call l [] T N H
noncomputable def S5 (l:List XJ):lT:=fun call _ T N H=>wF call l 0 [] T N H [] []
noncomputable def RW (a b:lT):lT:=fun call f T N H=>@Ro.rec (fun _=>Ro) .no (fun T N H=>b call f T N H) (fun id T N H=>.x id T N H) (fun T N H=>.r T N H) (a call f T N H)
noncomputable def Nq (t:Nat) (a b:lT):lT:=fun call f T N H=>@Option.rec Bool (fun _=>Ro) .no (fun v=>@Bool.rec (fun _=>Ro) (b call f T N H) (a call f T N H) v) (oO (T.get t) fun v=>xB v some)
noncomputable def IY (id:Nat) (c:lT):lT:=fun call f T N H=>@Ro.rec (fun _=>Ro) .no (fun T N H=>.n T N H) (fun id' T N H=>@Bool.rec (fun _=>Ro) (.x id' T N H) (.n T N H) (Nat.beq id' id)) (fun T N H=>.r T N H) (c call f T N H)
noncomputable def Sr (c:lT):lT:=fun call f=>@Nat.rec (fun _=>Tr XV→Nat→Tr Bx→Ro) (fun _ _ _=>.no) (fun _ ih T N H=>@Ro.rec (fun _=>Ro) .no (fun T N H=>ih T N H) (fun id T N H=>.x id T N H) (fun T N H=>.r T N H) (c call f T N H)) f
noncomputable def QI (id:Nat):lT:=fun _ _ T N H=>.x id T N H
noncomputable def SO:lT:=fun _ _ T N H=>.r T N H
inductive XR where
 |t (n:Nat)
 |c (t n:Nat)
 |c1 (t:Nat)
structure XF where
 pure:Bool
 run:lT
 rs:List XR
 na:Nat
noncomputable def Tz (v:XV):Option XD:=@XV.rec (fun _=>Option XD) (fun x=>some (.c x)) (fun n r=>some (.a n r)) (fun _=>none) none v
noncomputable def On (T:Tr XV) (H:Tr Bx) (r:XR):Option XD:=@XR.rec (fun _=>Option XD) (fun n=>oO (T.get n) Tz)
 (fun t n=>oO (T.get t) fun v=>xP v fun k off=>oO (H.get k) fun b=>bT (Nat.ble (Nat.add off n) b.n) (some (.a n (fr b.r b.n off n))))
 (fun t=>oO (T.get t) fun v=>xP v fun k off=>oO (H.get k) fun b=>oO (kL b.r off) fun a=>some (.c a)) r
noncomputable def mZ (T:Tr XV) (H:Tr Bx) (rs:List XR):Option (List XD):=@List.rec XR (fun _=>Option (List XD)) (some []) (fun r _ ih=>oO (On T H r) fun d=>oO ih fun ds=>some (d::ds)) rs
noncomputable def mD (ds:List XD):XV:=@List.rec XD (fun _=>XV) (.t []) (fun d r _=>@List.rec XD (fun _=>XV) (LK d) (fun _ _ _=>.t (d::r)) r) ds
noncomputable def kJ (vs:List XV):Nat→Tr XV→Tr XV:=@List.rec XV (fun _=>Nat→Tr XV→Tr XV) (fun _ t=>t) (fun v _ ih k t=>ih (Nat.succ k) (t.set v k)) vs
noncomputable def Nf (v:XV):Bool:=@XV.rec (fun _=>Bool) PH (fun _ r=>SB r) (fun _=>false) false v
noncomputable def PL (vs:List XV):Bool:=@List.rec XV (fun _=>Bool) true (fun v _ ih=>bA (Nf v) ih) vs
noncomputable def PO (ds:List XD):Bool:=@List.rec XD (fun _=>Bool) true (fun d _ ih=>bA (Nf (LK d)) ih) ds
structure Env where
 pr:Tr (List XV→Option (List XD))
 fs:Tr (Option XF)
noncomputable def OE (vs:List XV):Nat→Bool:=@List.rec XV (fun _=>Nat→Bool) (fun _=>true) (fun _ _ ih n=>@Nat.rec (fun _=>Bool) false (fun k _=>ih k) n) vs
noncomputable def Fk (_F:XF) (κ:Tr XV→Nat→Tr Bx→Cr) (r:Ro):Cr:=@Ro.rec (fun _=>Cr) .no κ (fun _ _ _ _=>.no) κ r
noncomputable def u6 (F:XF) (ih:fb) (fuel:Nat) (vs:List XV) (N:Nat) (H:Tr Bx):Cr:=
 @Bool.rec (fun _=>Cr) .no (@Bool.rec (fun _=>Cr)
  (Fk F (fun T N' H'=>@Option.rec (List XD) (fun _=>Cr) .no (fun ds=>.h (mD ds) N' H') (mZ T H' F.rs)) (F.run ih fuel (kJ vs 0 .e) N H))
  (Fk F (fun T _ H'=>@Option.rec (List XD) (fun _=>Cr) .no (fun ds=>@Bool.rec (fun _=>Cr) .no (.p (mD ds)) (PO ds)) (mZ T H' F.rs)) (F.run ih fuel (kJ vs 0 .e) 0 .e))
  (bA F.pure (PL vs))) (OE vs F.na)
noncomputable def Dq (E:Env) (fuel:Nat) (depth:Nat):fb:=
 @Nat.rec (fun _=>fb) (fun _ _ _ _=>.no) (fun _ ih g vs N H=>
  @Option.rec (List XD) (fun _=>Cr) (@Option.rec XF (fun _=>Cr) .no (fun F=>u6 F ih fuel vs N H) (oO (E.fs.get g) fun x=>x)) (fun ds=>.p (mD ds)) (oO (E.pr.get g) fun p=>p vs)) depth
def gP {α β:Type}(f:α→Option β):List α→Option (List β)
 |[]=>some []
 |x::xs=>match f x with
  |none=>none
  |some y=>match gP f xs with
   |none=>none
   |some ys=>some (y::ys)
def iJ:Value→Option AV
 | .bool b=>some (.b b)
 | .int k n=>some (.i k n)
 | .slice none 0 0=>some .z
 | .pointer none=>some .np
 |_=>none
noncomputable def E8:Value→Option XV
 | .agg cs=>(gP iJ cs.toList).map fun l=>.a l.length (nh l)
 |v=>(iJ v).map .c
def NC:Value→Option (List AV)
 | .agg cs=>gP iJ cs.toList
 |v=>(iJ v).map fun x=>[x]
def OM (P:Program) (U:TypeId):Option (List AV):=
 match P.info? U with
 |some i=>match i.zero with
  |some z=>NC z
  |none=>none
 |none=>none
def Hp (P:Program) (U:TypeId):Option (TypeId×Nat×Nat×List AV):=
 match P.underlying U with
 |some (.slice e)=>match P.info? e,OM P e with
  |some i,some zs=>bif Nat.beq zs.length i.size&&Nat.blt 0 i.size then some (e,i.size,i.bytes,zs) else none
  |_,_=>none
 |_=>none
def SP (P:Program) (U:TypeId):Option (Nat×Nat):=
 match P.underlying U with
 |some (.array n e)=>(P.info? e).map fun i=>(n,i.size)
 |_=>none
def K8 (P:Program) (U:TypeId):Option IntKind:=
 match P.underlying U with
 |some (.int k)=>some k
 |_=>none
def Uk (P:Program) (U:TypeId) (f:Nat):Option (Nat×Bool×Nat):=
 match P.underlying U with
 |some (.struct fs)=>match fs[f]? with
  |some fd=>(kO P fd.type).map fun p=>(fd.offset,p)
  |none=>none
 |_=>none
noncomputable def cO (m:Nat):Operand→Option XO
 | .tmp t=>bif m.testBit t then some (.l t) else some (.t t)
 | .const v=>(E8 v).map .k
 | .func g=>some (.k (.c (.f0 g)))
 | .global _=>none
noncomputable def xv (m:Nat):Option Operand→Option (Option XO)
 |none=>some none
 |some x=>(cO m x).map some
noncomputable def Od (m:Nat) (pl:Nat→Option (Nat×Nat)):List (Nat×Operand)→Option (List (Nat×Nat×XO))
 |[]=>some []
 |(i,x)::r=>match pl i,cO m x,Od m pl r with
  |some (off,sz),some y,some ys=>some ((off,sz,y)::ys)
  |_,_,_=>none
noncomputable def o1 (m:Nat) (f:XO→jB) (x:Operand):Option jB:=(cO m x).map f
noncomputable def o2 (m:Nat) (f:XO→XO→jB) (x y:Operand):Option jB:=match cO m x,cO m y with
 |some a,some b=>some (f a b)
 |_,_=>none
noncomputable def S4 (k:IntKind) (x y:Int):Option AV:=some (.i k (rh k (Int.add x y)))
noncomputable def TD (k:IntKind) (x y:Int):Option AV:=some (.i k (rh k (Int.sub x y)))
noncomputable def TQ (k:IntKind) (x y:Int):Option AV:=some (.i k (rh k (Int.mul x y)))
noncomputable def QO (k:IntKind) (x y:Int):Option AV:=bI (Jm y 0) none (some (.i k (rh k (Int.tdiv x y))))
noncomputable def QQ (k:IntKind) (x y:Int):Option AV:=bI (Jm y 0) none (some (.i k (Int.tmod x y)))
noncomputable def TO (k:IntKind) (x y:Int):Option AV:=some (.i k (k.wrap (BitVec.ofInt k.bits x&&&BitVec.ofInt k.bits y).toNat))
noncomputable def Un (k:IntKind) (x y:Int):Option AV:=some (.i k (k.wrap (BitVec.ofInt k.bits x|||BitVec.ofInt k.bits y).toNat))
noncomputable def TG (k:IntKind) (x y:Int):Option AV:=some (.i k (k.wrap (BitVec.ofInt k.bits x^^^BitVec.ofInt k.bits y).toNat))
noncomputable def SX (_:IntKind) (x y:Int):Option AV:=some (.b (Jm x y))
noncomputable def Th (_:IntKind) (x y:Int):Option AV:=some (.b (bI (Jm x y) false true))
noncomputable def Tp (_:IntKind) (x y:Int):Option AV:=some (.b (oX x y))
noncomputable def Tq (_:IntKind) (x y:Int):Option AV:=some (.b (bI (oX y x) false true))
noncomputable def TU (_:IntKind) (x y:Int):Option AV:=some (.b (oX y x))
noncomputable def SG (_:IntKind) (x y:Int):Option AV:=some (.b (bI (oX x y) false true))
noncomputable def P1 (k:IntKind) (x y:Int):Option AV:=bI (oX y 0) none (some (.i k (k.wrap (x*2^(min y.toNat k.bits)))))
noncomputable def RP (k:IntKind) (x y:Int):Option AV:=bI (oX y 0) none (some (.i k (x.fdiv (2^(min y.toNat k.bits)))))
noncomputable def KY:BinOp→Option (IntKind→Int→Int→Option AV)
 | .add=>some S4| .sub=>some TD| .mul=>some TQ| .quo=>some QO| .rem=>some QQ
 | .and=>some TO| .or=>some Un| .xor=>some TG
 | .eql=>some SX| .neq=>some Th| .lss=>some Tp| .leq=>some Tq| .gtr=>some TU| .geq=>some SG
 |_=>none
noncomputable def O7:BinOp→Option (IntKind→Int→Int→Option AV)
 | .shl=>some P1| .shr=>some RP
 |_=>none
def Sh (P:Program) (U:TypeId) (f:Nat):Option (Bool×Nat×Nat):=
 match P.underlying U with
 |some (.struct fs)=>match fs[f]? with
  |some fd=>match kO P fd.type with
   |some (b,n)=>some (b,fd.offset,n)
   |none=>none
  |none=>none
 |_=>none
noncomputable def rm (P:Program) (m:Nat):Op→Option jB
 | .move x=>o1 m Ky x
 | .assign x=>o1 m Ky x
 | .pick c a b=>match cO m c with
   |some c=>o2 m (IA c) a b
   |none=>none
 | .alloc U=>(OM P U).map fun zs=>Cz U zs.length (nh zs)
 | .box U x=>o1 m (Ni U) x
 | .build U ps=>match Ao P U,OM P U with
   |some pl,some zs=>(Od m (fun i=>pl[i]?) ps.toList).map (B9 zs.length (nh zs))
   |_,_=>none
 | .buildSlice U n ps=>match Hp P U with
   |some (e,sz,_,zs)=>bif Nat.ble (n*sz) 10000 then(Od m (fun i=>some (i*sz,sz)) ps.toList).map (Mp e n sz (j8 sz (nh zs) n)) else none
   |none=>none
 | .load U x=>match kO P U with
   |some (true,n)=>o1 m (M7 n) x
   |some (false,_)=>o1 m Nm x
   |none=>none
 | .store U a x=>match kO P U with
   |some (_,n)=>o2 m (PX n) a x
   |none=>none
 | .nilCheck x=>o1 m Im x
 | .binOp op U x y _=>match P.underlying U with
   |some .bool=>match op with
    | .eql=>o2 m (BM false) x y
    | .neq=>o2 m (BM true) x y
    |_=>none
   |some (.int _)=>match KY op with
    |some f=>o2 m (Nv f) x y
    |none=>match O7 op with
     |some f=>o2 m (Mz f) x y
     |none=>none
   |some (.slice _)=>match op,y with
    | .eql,.const (.slice none 0 0)=>o1 m (C8 false) x
    | .neq,.const (.slice none 0 0)=>o1 m (C8 true) x
    |_,_=>none
   |_=>none
 | .unOp .not _ x=>o1 m Na x
 | .unOp .neg _ x=>o1 m Ms x
 | .convert s d x=>match K8 P s,K8 P d with
   |some _,some k=>o1 m (GD k) x
   |_,_=>none
 | .makeFunc (.func g) first cs=>bif first.isEmpty then(gP (cO m) cs.toList).map (MX g) else none
 | .makeSlice U n c=>match Hp P U with
   |some (e,sz,by_,zs)=>o2 m (Nb e sz by_ (nh zs)) n c
   |none=>none
 | .slice U x lo hi mx=>match mI P U,cO m x,xv m lo,xv m hi,xv m mx with
   |some sz,some x,some lo,some hi,some none=>some (Mq sz x lo hi)
   |some sz,some x,some lo,some (some hi),some (some mx)=>some (M4 sz x lo hi mx)
   |_,_,_,_,_=>none
 | .fieldAddr U x f=>match Pz P U f with
   |some off=>o1 m (PU off) x
   |none=>none
 | .field U x f=>match Sh P U f with
   |some (true,off,n)=>o1 m (M5 off n) x
   |some (false,off,_)=>o1 m (MS off) x
   |none=>none
 | .indexAddr U x i=>match mI P U with
   |some sz=>o2 m (QB sz) x i
   |none=>match SP P U with
    |some (n,sz)=>o2 m (Mw n sz) x i
    |none=>none
 | .index U (.const (.string b)) i=>match P.underlying U with
   |some .string=>o1 m (FM b) i
   |_=>none
 | .extract x i=>o1 m (MM · i) x
 | .call ⟨.value (.func g),xs,_⟩=>(gP (cO m) xs.toList).map (Bb g)
 | .call ⟨.value (.tmp t),xs,_⟩=>match cO m (.tmp t),gP (cO m) xs.toList with
   |some f,some xs=>some (GW f xs)
   |_,_=>none
 | .call ⟨.builtin .len,xs,ts⟩=>match xs.toList,ts.toList with
   |[x],[U]=>match mI P U with
    |some _=>o1 m MR x
    |none=>none
   |_,_=>none
 | .call ⟨.builtin .append,xs,ts⟩=>match xs.toList,ts.toList with
   |[x,y],[U,W]=>match Hp P U with
    |some (e,sz,by_,zs)=>bif Nat.beq U W then o2 m (Mc e sz by_) x y else match K8 P W with
     |some _=>o2 m (MY e sz by_ (nh zs)) x y
     |none=>none
    |none=>none
   |_,_=>none
 | .call ⟨.builtin .cap,xs,ts⟩=>match xs.toList,ts.toList with
   |[x],[U]=>match mI P U with
    |some _=>o1 m Me x
    |none=>none
   |_,_=>none
 | .call ⟨.builtin .max,xs,_⟩=>match xs.toList with
   |x::r=>match cO m x,gP (cO m) r with
    |some x,some r=>some (KI true x r)
    |_,_=>none
   |_=>none
 | .call ⟨.builtin .min,xs,_⟩=>match xs.toList with
   |x::r=>match cO m x,gP (cO m) r with
    |some x,some r=>some (KI false x r)
    |_,_=>none
   |_=>none
 | .call ⟨.builtin .clear,xs,ts⟩=>match xs.toList,ts.toList with
   |[x],[U]=>match Hp P U with
    |some (_,sz,_,zs)=>o1 m (Mh sz (nh zs)) x
    |none=>none
   |_,_=>none
 |_=>none
noncomputable def cG (m:Nat) (ops:Array Oper) (o:Oper):Option (Option (XO×Bool)):=
 match o.guard with
 |none=>some none
 |some (g,b)=>match (ops[g]?).bind (·.dst) with
  |some t=>(cO m (.tmp t)).map fun x=>some (x,b)
  |none=>none
def M3 (n:Nat):Option Nat→Bool
 |none=>true
 |some d=>Nat.blt d n
def LE (m:Nat):Option Nat→Bool
 |none=>false
 |some d=>m.testBit d
noncomputable def Kb (P:Program) (n m:Nat) (ops:Array Oper) (o:Oper):Option XI:=
 bif M3 n o.dst then
  match cG m ops o,rm P m o.op with
  |some g,some k=>some ⟨o.dst,LE m o.dst,g,k⟩
  |some g,none=>some ⟨o.dst,LE m o.dst,g,Mb⟩
  |_,_=>none
 else none
def xH (acc:List Nat) (o:Oper):Nat:=(bv o).foldl (fun m j=>m|||2^j|||acc.getD j 0) 0
def ji (l:List Oper):List Nat:=l.foldl (fun acc o=>acc++[xH acc o]) []
def xi:Op→Bool
 | .call ⟨.value _,_,_⟩=>true
 |_=>false
def Dj (d:Option Nat) (l:List Nat):Bool:=match d with
 |none=>false
 |some d=>l.any (Nat.beq d)
def Sd (d e:Option Nat):Bool:=match d,e with
 |some d,some e=>Nat.beq d e
 |_,_=>false
def J4 (ops:Array Oper) (p q:Oper):Bool:= !Dj p.dst (q.looksAt ops)&& !Dj q.dst (p.looksAt ops)&& !Sd p.dst q.dst
def RR (ops:Array Oper) (ms:List Nat) (l:List Oper) (i:Nat):Bool:=match l[i]? with
 |none=>false
 |some q=>(bv q).all (fun j=>Nat.blt j i)&&(List.range i).all fun j=>(ms.getD i 0).testBit j||match l[j]? with
  |none=>false
  |some p=>J4 ops p q
noncomputable def nk (P:Program) (n m:Nat) (ops:Array Oper):List Nat→List Oper→Option (List XJ)
 |mk::ms,o::r=>match Kb P n m ops o with
  |none=>none
  |some x=>match nk P n m ops ms r with
   |none=>none
   |some xs=>some (⟨x,xi o.op,mk⟩::xs)
 |_,_=>some []
noncomputable def cC (P:Program) (n m:Nat):Code→Option lT
 | .skip=>some Qv
 | .region _ ops draw=>match draw with
   |false=>(gP (Kb P n m ops) ops.toList).map SU
   |true=>bif (List.range ops.size).all (RR ops (ji ops.toList) ops.toList) then(nk P n m ops (ji ops.toList) ops.toList).map S5 else none
 | .seq a b=>match cC P n m a with
   |none=>none
   |some x=>match cC P n m b with
    |none=>none
    |some y=>some (RW x y)
 | .cond (.tmp t) a b=>match cC P n m a with
   |none=>none
   |some x=>match cC P n m b with
    |none=>none
    |some y=>bif m.testBit t then none else some (Nq t x y)
 | .cond (.const (.bool b)) x y=>match b with
   |true=>cC P n m x
   |false=>cC P n m y
 | .block id c=>(cC P n m c).map (IY id)
 | .loop c=>(cC P n m c).map Sr
 | .exit id=>some (QI id)
 | .ret=>some SO
 |_=>none
def Ps (P:Program) (m:Nat):ResultVar→Option XR
 | .tmp t=>bif m.testBit t then none else some (.t t)
 | .cell t U=>bif m.testBit t then none else match kO P U with
   |some (true,n)=>some (.c t n)
   |some (false,_)=>some (.c1 t)
   |none=>none
noncomputable def cF (P:Program) (pu:Bool) (m:Nat) (fn:Func):Option XF:=match fn.body with
 |none=>none
 |some c=>match cC P fn.ntmps m c,gP (Ps P m) fn.results.toList with
  |some x,some rs=>some ⟨pu,x,rs,fn.ntmps⟩
  |_,_=>none
noncomputable def Ib {α:Type}:List (Nat×α)→Tr α
 |[]=>.e
 |(k,v)::r=>(Ib r).set v k
end Go.Proofs.YtacopbfkmnpfgaaGreat
