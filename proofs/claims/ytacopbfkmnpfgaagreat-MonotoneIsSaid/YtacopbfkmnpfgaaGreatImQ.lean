/-The curves of a draft:the reference. -/
import Derived.Test.YtacopbfkmnpfgaaGreatImP
namespace Go.Proofs.YtacopbfkmnpfgaaGreat
open Go Go.RowKit
theorem Kl {a b c d:Rat}(ha:Rz 1 a) (hb:Rz 1 b) (hc:Rz 1 c) (hd:Rz 1 d) (hn:b-d=0∧c-a=0):Ok Tryz.prog 80 [.a ((cR a++cR b)),.a ((cR c++cR d))] [.a (dN),.c (.i .i64 6)]:=by
 refine Ok.fn Tryz.func80 42 [.cell 4 33,.tmp 5] rfl<|aa<|ab<|al 2<|aw (ah rr rfl) rfl<|ag<|aa<|aM 12 rfl rfl<|an 1<|ai (aA (cR b) az rfl)<|an 1<|ai (aA (cR d) az rfl)<|ai (ak rfl (dV (aO hb) (aO hd)))<|an 1 ?_
 refine ai (aA (cR c) az rfl)<|an 1<|ai (aA (cR a) az rfl)<|ai (ak rfl (dV (aO hc) (aO ha)))<|ai (aD (us:=(cR (b-d)++cR (c-a)++Jw)) KR rr rfl rfl rfl) ?_
 refine bh (ah rr rfl) rfl<|aV<|bi<|ag<|aa<|aa<|ab<|al 1<|aj (aA (cR (b-d)) az rfl)<|aj (ak rfl (cb))<|al 1 ?_
 refine cm (bO rfl) (fun c1 hb1=>?_)
 cases c1
 ·exact absurd hb1 (by simp[f8.2 hn.1])
 ·refine al 1<|aj (aA (cR (c-a)) az rfl)<|aj (ak rfl (cb))<|ag ?_
  refine au rfl (fun hc2=>?_) (fun hc2=>?_)
  ·refine aa<|ab<|aj (aD (us:=dN) KR rr rfl rfl rfl) ?_
   refine ag<|am ?_
   exact ao (bb tx rfl (aC ae))
  ·exact absurd hc2 (by simp[f8.2 hn.2])
theorem Q4 {a b c d:Rat}(ha:Rz 1 a) (hb:Rz 1 b) (hc:Rz 1 c) (hd:Rz 1 d) (hn: ¬(b-d=0∧c-a=0)):Ok Tryz.prog 80 [.a ((cR a++cR b)),.a ((cR c++cR d))] [.a ((cR (b-d)++cR (c-a)++cR ((b-d)*a+(c-a)*b))),.c (.i .i64 0)]:=by
 refine Ok.fn Tryz.func80 42 [.cell 4 33,.tmp 5] rfl<|aa<|ab<|al 2<|aw (ah rr rfl) rfl<|ag<|aa<|aM 12 rfl rfl<|an 1<|ai (aA (cR b) az rfl)<|an 1<|ai (aA (cR d) az rfl)<|ai (ak rfl (dV (aO hb) (aO hd)))<|an 1 ?_
 refine ai (aA (cR c) az rfl)<|an 1<|ai (aA (cR a) az rfl)<|ai (ak rfl (dV (aO hc) (aO ha)))<|ai (aD (us:=(cR (b-d)++cR (c-a)++Jw)) KR rr rfl rfl rfl) ?_
 refine bh (ah rr rfl) rfl<|aV<|bi<|ag<|aa<|aa<|ab<|al 1<|aj (aA (cR (b-d)) az rfl)<|aj (ak rfl (cb))<|al 1 ?_
 refine cm (bO rfl) (fun c1 hb1=>?_)
 cases c1
 ·refine ag<|ba rfl<|ap<|aa<|aM 12 rfl rfl<|an 1<|ai (aA (cR (b-d)) az rfl)<|an 1<|ai (aA (cR a) az rfl)<|ai (ak rfl (bZ (aO (Rz.sub hb hd)) (aO ha)))<|an 1<|ai (aA (cR (c-a)) az rfl)<|an 1<|ai (aA (cR b) az rfl) ?_
  refine ai (ak rfl (bZ (aO (Rz.sub hc ha)) (aO hb)))<|ai (ak rfl (fJ (aO (Rz.mul (Rz.sub hb hd) ha)) (aO (Rz.mul (Rz.sub hc ha) hb))))<|bJ<|ar<|dm (bm (us:=(cR (b-d)++cR (c-a)++cR (((b-d)*a)+((c-a)*b)))) az rfl rfl rfl rfl (Nat.le_of_ble_eq_true rfl) rfl rfl) ?_
  refine aq<|aa<|ab<|ag<|am ?_
  exact ao (bb tx rfl (aC ae))
 ·refine al 1<|aj (aA (cR (c-a)) az rfl)<|aj (ak rfl (cb))<|ag ?_
  refine au rfl (fun hc2=>?_) (fun hc2=>?_)
  ·exact absurd ⟨f8.1 (by simpa using hb1),f8.1 (by simpa using hc2)⟩ hn
  ·refine ap<|aa<|aM 12 rfl rfl<|an 1<|ai (aA (cR (b-d)) az rfl)<|an 1<|ai (aA (cR a) az rfl)<|ai (ak rfl (bZ (aO (Rz.sub hb hd)) (aO ha)))<|an 1<|ai (aA (cR (c-a)) az rfl)<|an 1<|ai (aA (cR b) az rfl)<|ai (ak rfl (bZ (aO (Rz.sub hc ha)) (aO hb)))<|ai (ak rfl (fJ (aO (Rz.mul (Rz.sub hb hd) ha)) (aO (Rz.mul (Rz.sub hc ha) hb)))) ?_
   refine bJ<|ar<|dm (bm (us:=(cR (b-d)++cR (c-a)++cR (((b-d)*a)+((c-a)*b)))) az rfl rfl rfl rfl (Nat.le_of_ble_eq_true rfl) rfl rfl) ?_
   refine aq<|aa<|ab<|ag<|am ?_
   exact ao (bb tx rfl (aC ae))
theorem vP {a b c d:Rat}(ha:Rz 1 a) (hb:Rz 1 b) (hc:Rz 1 c) (hd:Rz 1 d) (hn:b-d=0∧c-a=0):Ok Tryz.prog 26 [.a ((cR a++cR b)),.a ((cR c++cR d))] [.a (([.b false]++dN++dN++[.b false]++oy++oy)),.c (.i .i64 6)]:=by
 refine Ok.fn Tryz.func26 23 [.cell 4 39,.tmp 5] rfl<|aa<|ab<|al 2<|aw (ah gz rfl) rfl<|ag<|aa<|ab<|al 2<|aj (ak rfl (Kl ha hb hc hd hn))<|al 3<|aw (ah rr rfl) rfl<|ag<|aa ?_
 refine aa<|ab<|ag<|bo rfl<|aa<|ab<|aj (aD (us:=([.b false]++dN++dN++[.b false]++oy++oy)) Bn gz rfl rfl rfl) ?_
 refine ag<|am ?_
 exact ao (eG (us:=([.b false]++dN++dN++[.b false]++oy++oy)) dF rfl rfl (by kernel_rfl) (by kernel_rfl) (aC ae))
theorem Gd {a b c d:Rat}(ha:Rz 1 a) (hb:Rz 1 b) (hc:Rz 1 c) (hd:Rz 1 d) (hn: ¬(b-d=0∧c-a=0)):Ok Tryz.prog 26 [.a ((cR a++cR b)),.a ((cR c++cR d))] [.a (([.b false]++eQ (LO a b c d)++dN++[.b false]++ay (rP a b)++ay (rP c d))),.c (.i .i64 0)]:=by
 refine Ok.fn Tryz.func26 23 [.cell 4 39,.tmp 5] rfl<|aa<|ab<|al 2<|aw (ah gz rfl) rfl<|ag<|aa<|ab<|al 2<|aj (ak rfl (Q4 ha hb hc hd hn))<|al 3<|aw (ah rr rfl) rfl<|ag<|aa ?_
 refine aa<|ab<|ag<|ba rfl<|ap<|aa<|aM 6 rfl rfl<|an 2<|ai (ak rfl (mj))<|an 1<|ai (ak rfl (mj))<|ai (aD (us:=([.b false]++(cR (b-d)++cR (c-a)++cR ((b-d)*a+(c-a)*b))++dN++[.b false]++(cR a++cR 0++cR b++cR 0++cR 0)++(cR c++cR 0++cR d++cR 0++cR 0))) Bn gz rfl rfl rfl) ?_
 refine aV<|ar<|ag<|am ?_
 exact ao (eG (us:=([.b false]++(cR (b-d)++cR (c-a)++cR ((b-d)*a+(c-a)*b))++dN++[.b false]++(cR a++cR 0++cR b++cR 0++cR 0)++(cR c++cR 0++cR d++cR 0++cR 0))) dF rfl rfl (by kernel_rfl) (by kernel_rfl) (aC ae))
theorem Gl {a b c d e f:Rat}(ha:Rz 1 a) (hb:Rz 1 b) (hc:Rz 1 c) (hd:Rz 1 d) (he:Rz 1 e) (hf:Rz 1 f):Ok Tryz.prog 78 [.a ((cR a++cR b)),.a ((cR c++cR d)),.a ((cR e++cR f))] [.c (.i .i64 (a7 ((c-a)*(f-b)) ((d-b)*(e-a))))]:=by
 refine Ok.fn Tryz.func78 34 [.tmp 6] rfl<|aa<|ab<|ag<|aa<|aM 12 rfl rfl<|an 1<|ai (aA (cR c) az rfl)<|an 1<|ai (aA (cR a) az rfl)<|ai (ak rfl (fK (aO hc) (aO ha)))<|an 1<|ai (aA (cR f) az rfl)<|an 1 ?_
 refine ai (aA (cR b) az rfl)<|ai (ak rfl (fK (aO hf) (aO hb)))<|ai (ak rfl (cK (aO (Rz.sub hc ha)) (aO (Rz.sub hf hb))))<|bh (ah br rfl) rfl<|aV<|bi<|ag<|aa<|aM 12 rfl rfl<|an 1<|ai (aA (cR d) az rfl)<|an 1<|ai (aA (cR b) az rfl)<|ai (ak rfl (fK (aO hd) (aO hb))) ?_
 refine an 1<|ai (aA (cR e) az rfl)<|an 1<|ai (aA (cR a) az rfl)<|ai (ak rfl (fK (aO he) (aO ha)))<|ai (ak rfl (cK (aO (Rz.sub hd hb)) (aO (Rz.sub he ha))))<|bh (ah br rfl) rfl<|aV<|bi<|ag<|aa<|ab<|al 2<|aj (ak rfl (ft (aO (Rz.mul (Rz.sub hc ha) (Rz.sub hf hb))) (aO (Rz.mul (Rz.sub hd hb) (Rz.sub he ha))))) ?_
 refine ag<|am ?_
 exact ao (aC ae)
theorem SK {a b c d e f:Rat}(ha:Rz 1 a) (hb:Rz 1 b) (hc:Rz 1 c) (hd:Rz 1 d) (he:Rz 1 e) (hf:Rz 1 f) (hn:jA a b c d e f≠0):Ok Tryz.prog 79 [.a ((cR a++cR b)),.a ((cR c++cR d)),.a ((cR e++cR f))] [.a (ci (Pq a b c d e f)),.c (.i .i64 0)]:=by
 have h0:((c-a)*(f-b)-(d-b)*(e-a))+((c-a)*(f-b)-(d-b)*(e-a))≠0:=fun h=>hn (by unfold jA;grind)
 refine Ok.fn Tryz.func79 99 [.cell 6 35,.tmp 7] rfl<|aa<|ab<|al 3<|aw (ah Ap rfl) rfl<|ag<|aa<|aM 24 rfl rfl<|an 1<|ai (aA (cR c) az rfl)<|an 1<|ai (aA (cR a) az rfl)<|ai (ak rfl (dV (aO hc) (aO ha)))<|an 1 ?_
 refine ai (aA (cR d) az rfl)<|an 1<|ai (aA (cR b) az rfl)<|ai (ak rfl (dV (aO hd) (aO hb)))<|an 1<|ai (aA (cR e) az rfl)<|an 1<|ai (aA (cR a) az rfl)<|ai (ak rfl (dV (aO he) (aO ha)))<|an 1<|ai (aA (cR f) az rfl)<|an 1<|ai (aA (cR b) az rfl)<|ai (ak rfl (dV (aO hf) (aO hb))) ?_
 refine bh (ah br rfl) rfl<|bh (ah br rfl) rfl<|bh (ah br rfl) rfl<|bh (ah br rfl) rfl<|aV<|jy<|ag<|aa<|aM 8 rfl rfl<|an 2<|ai (ak rfl (bZ (aO (Rz.sub hc ha)) (aO (Rz.sub hf hb))))<|an 2<|ai (ak rfl (bZ (aO (Rz.sub hd hb)) (aO (Rz.sub he ha))))<|ai (ak rfl (dV (aO (Rz.mul (Rz.sub hc ha) (Rz.sub hf hb))) (aO (Rz.mul (Rz.sub hd hb) (Rz.sub he ha))))) ?_
 refine bh (ah br rfl) rfl<|aV<|bi<|ag<|aa<|aa<|ab<|al 1<|aj (ak rfl (cb))<|ag ?_
 refine au rfl (fun hc1=>?_) (fun hc1=>?_)
 ·exact absurd (show jA a b c d e f=0 from f8.1 (beq_iff_eq.1 hc1)) hn
 ·refine ap<|aa<|ab<|al 2<|aj (ak rfl (fJ (aO (Rz.sub (Rz.mul (Rz.sub hc ha) (Rz.sub hf hb)) (Rz.mul (Rz.sub hd hb) (Rz.sub he ha)))) (aO (Rz.sub (Rz.mul (Rz.sub hc ha) (Rz.sub hf hb)) (Rz.mul (Rz.sub hd hb) (Rz.sub he ha))))))<|ag<|aa<|aM 16 rfl rfl<|an 2<|ai (ak rfl (bZ (aO (Rz.sub hc ha)) (aO (Rz.sub hc ha))))<|an 2<|ai (ak rfl (bZ (aO (Rz.sub hd hb)) (aO (Rz.sub hd hb))))<|ai (ak rfl (fJ (aO (Rz.mul (Rz.sub hc ha) (Rz.sub hc ha))) (aO (Rz.mul (Rz.sub hd hb) (Rz.sub hd hb)))))<|an 2 ?_
  refine ai (ak rfl (bZ (aO (Rz.sub he ha)) (aO (Rz.sub he ha))))<|an 2<|ai (ak rfl (bZ (aO (Rz.sub hf hb)) (aO (Rz.sub hf hb))))<|ai (ak rfl (fJ (aO (Rz.mul (Rz.sub he ha) (Rz.sub he ha))) (aO (Rz.mul (Rz.sub hf hb) (Rz.sub hf hb)))))<|bh (ah br rfl) rfl<|bh (ah br rfl) rfl<|aV<|cS<|ag<|aa<|aM 20 rfl rfl<|an 2<|ai (ak rfl (bZ (aO (Rz.add (Rz.mul (Rz.sub hc ha) (Rz.sub hc ha)) (Rz.mul (Rz.sub hd hb) (Rz.sub hd hb)))) (aO (Rz.sub hf hb))))<|an 2 ?_
  refine ai (ak rfl (bZ (aO (Rz.add (Rz.mul (Rz.sub he ha) (Rz.sub he ha)) (Rz.mul (Rz.sub hf hb) (Rz.sub hf hb)))) (aO (Rz.sub hd hb))))<|ai (ak rfl (dV (aO (Rz.mul (Rz.add (Rz.mul (Rz.sub hc ha) (Rz.sub hc ha)) (Rz.mul (Rz.sub hd hb) (Rz.sub hd hb))) (Rz.sub hf hb))) (aO (Rz.mul (Rz.add (Rz.mul (Rz.sub he ha) (Rz.sub he ha)) (Rz.mul (Rz.sub hf hb) (Rz.sub hf hb))) (Rz.sub hd hb)))))<|an 1<|ai (ak rfl (yX (aO (Rz.sub (Rz.mul (Rz.add (Rz.mul (Rz.sub hc ha) (Rz.sub hc ha)) (Rz.mul (Rz.sub hd hb) (Rz.sub hd hb))) (Rz.sub hf hb)) (Rz.mul (Rz.add (Rz.mul (Rz.sub he ha) (Rz.sub he ha)) (Rz.mul (Rz.sub hf hb) (Rz.sub hf hb))) (Rz.sub hd hb)))) (aO (Rz.add (Rz.sub (Rz.mul (Rz.sub hc ha) (Rz.sub hf hb)) (Rz.mul (Rz.sub hd hb) (Rz.sub he ha))) (Rz.sub (Rz.mul (Rz.sub hc ha) (Rz.sub hf hb)) (Rz.mul (Rz.sub hd hb) (Rz.sub he ha))))) (by assumption)))<|an 2<|ai (ak rfl (bZ (aO (Rz.add (Rz.mul (Rz.sub he ha) (Rz.sub he ha)) (Rz.mul (Rz.sub hf hb) (Rz.sub hf hb)))) (aO (Rz.sub hc ha))))<|an 2<|ai (ak rfl (bZ (aO (Rz.add (Rz.mul (Rz.sub hc ha) (Rz.sub hc ha)) (Rz.mul (Rz.sub hd hb) (Rz.sub hd hb)))) (aO (Rz.sub he ha))))<|ai (ak rfl (dV (aO (Rz.mul (Rz.add (Rz.mul (Rz.sub he ha) (Rz.sub he ha)) (Rz.mul (Rz.sub hf hb) (Rz.sub hf hb))) (Rz.sub hc ha))) (aO (Rz.mul (Rz.add (Rz.mul (Rz.sub hc ha) (Rz.sub hc ha)) (Rz.mul (Rz.sub hd hb) (Rz.sub hd hb))) (Rz.sub he ha)))))<|an 1<|ai (ak rfl (yX (aO (Rz.sub (Rz.mul (Rz.add (Rz.mul (Rz.sub he ha) (Rz.sub he ha)) (Rz.mul (Rz.sub hf hb) (Rz.sub hf hb))) (Rz.sub hc ha)) (Rz.mul (Rz.add (Rz.mul (Rz.sub hc ha) (Rz.sub hc ha)) (Rz.mul (Rz.sub hd hb) (Rz.sub hd hb))) (Rz.sub he ha)))) (aO (Rz.add (Rz.sub (Rz.mul (Rz.sub hc ha) (Rz.sub hf hb)) (Rz.mul (Rz.sub hd hb) (Rz.sub he ha))) (Rz.sub (Rz.mul (Rz.sub hc ha) (Rz.sub hf hb)) (Rz.mul (Rz.sub hd hb) (Rz.sub he ha))))) (by assumption)))<|bh (ah br rfl) rfl<|bh (ah br rfl) rfl<|aV ?_
  refine cS<|ag<|aa<|aM 16 rfl rfl<|an 1<|ai (aA (cR a) az rfl)<|an 1<|ai (ak rfl (fJ (aO ha) (aO (Rz.div (Rz.sub (Rz.mul (Rz.add (Rz.mul (Rz.sub hc ha) (Rz.sub hc ha)) (Rz.mul (Rz.sub hd hb) (Rz.sub hd hb))) (Rz.sub hf hb)) (Rz.mul (Rz.add (Rz.mul (Rz.sub he ha) (Rz.sub he ha)) (Rz.mul (Rz.sub hf hb) (Rz.sub hf hb))) (Rz.sub hd hb))) (Rz.add (Rz.sub (Rz.mul (Rz.sub hc ha) (Rz.sub hf hb)) (Rz.mul (Rz.sub hd hb) (Rz.sub he ha))) (Rz.sub (Rz.mul (Rz.sub hc ha) (Rz.sub hf hb)) (Rz.mul (Rz.sub hd hb) (Rz.sub he ha)))) (by assumption)))))<|an 1<|ai (aA (cR b) az rfl)<|an 1<|ai (ak rfl (fJ (aO hb) (aO (Rz.div (Rz.sub (Rz.mul (Rz.add (Rz.mul (Rz.sub he ha) (Rz.sub he ha)) (Rz.mul (Rz.sub hf hb) (Rz.sub hf hb))) (Rz.sub hc ha)) (Rz.mul (Rz.add (Rz.mul (Rz.sub hc ha) (Rz.sub hc ha)) (Rz.mul (Rz.sub hd hb) (Rz.sub hd hb))) (Rz.sub he ha))) (Rz.add (Rz.sub (Rz.mul (Rz.sub hc ha) (Rz.sub hf hb)) (Rz.mul (Rz.sub hd hb) (Rz.sub he ha))) (Rz.sub (Rz.mul (Rz.sub hc ha) (Rz.sub hf hb)) (Rz.mul (Rz.sub hd hb) (Rz.sub he ha)))) (by assumption)))))<|an 2<|ai (ak rfl (bZ (aO (Rz.div (Rz.sub (Rz.mul (Rz.add (Rz.mul (Rz.sub hc ha) (Rz.sub hc ha)) (Rz.mul (Rz.sub hd hb) (Rz.sub hd hb))) (Rz.sub hf hb)) (Rz.mul (Rz.add (Rz.mul (Rz.sub he ha) (Rz.sub he ha)) (Rz.mul (Rz.sub hf hb) (Rz.sub hf hb))) (Rz.sub hd hb))) (Rz.add (Rz.sub (Rz.mul (Rz.sub hc ha) (Rz.sub hf hb)) (Rz.mul (Rz.sub hd hb) (Rz.sub he ha))) (Rz.sub (Rz.mul (Rz.sub hc ha) (Rz.sub hf hb)) (Rz.mul (Rz.sub hd hb) (Rz.sub he ha)))) (by assumption))) (aO (Rz.div (Rz.sub (Rz.mul (Rz.add (Rz.mul (Rz.sub hc ha) (Rz.sub hc ha)) (Rz.mul (Rz.sub hd hb) (Rz.sub hd hb))) (Rz.sub hf hb)) (Rz.mul (Rz.add (Rz.mul (Rz.sub he ha) (Rz.sub he ha)) (Rz.mul (Rz.sub hf hb) (Rz.sub hf hb))) (Rz.sub hd hb))) (Rz.add (Rz.sub (Rz.mul (Rz.sub hc ha) (Rz.sub hf hb)) (Rz.mul (Rz.sub hd hb) (Rz.sub he ha))) (Rz.sub (Rz.mul (Rz.sub hc ha) (Rz.sub hf hb)) (Rz.mul (Rz.sub hd hb) (Rz.sub he ha)))) (by assumption))))) ?_
  refine an 2<|ai (ak rfl (bZ (aO (Rz.div (Rz.sub (Rz.mul (Rz.add (Rz.mul (Rz.sub he ha) (Rz.sub he ha)) (Rz.mul (Rz.sub hf hb) (Rz.sub hf hb))) (Rz.sub hc ha)) (Rz.mul (Rz.add (Rz.mul (Rz.sub hc ha) (Rz.sub hc ha)) (Rz.mul (Rz.sub hd hb) (Rz.sub hd hb))) (Rz.sub he ha))) (Rz.add (Rz.sub (Rz.mul (Rz.sub hc ha) (Rz.sub hf hb)) (Rz.mul (Rz.sub hd hb) (Rz.sub he ha))) (Rz.sub (Rz.mul (Rz.sub hc ha) (Rz.sub hf hb)) (Rz.mul (Rz.sub hd hb) (Rz.sub he ha)))) (by assumption))) (aO (Rz.div (Rz.sub (Rz.mul (Rz.add (Rz.mul (Rz.sub he ha) (Rz.sub he ha)) (Rz.mul (Rz.sub hf hb) (Rz.sub hf hb))) (Rz.sub hc ha)) (Rz.mul (Rz.add (Rz.mul (Rz.sub hc ha) (Rz.sub hc ha)) (Rz.mul (Rz.sub hd hb) (Rz.sub hd hb))) (Rz.sub he ha))) (Rz.add (Rz.sub (Rz.mul (Rz.sub hc ha) (Rz.sub hf hb)) (Rz.mul (Rz.sub hd hb) (Rz.sub he ha))) (Rz.sub (Rz.mul (Rz.sub hc ha) (Rz.sub hf hb)) (Rz.mul (Rz.sub hd hb) (Rz.sub he ha)))) (by assumption)))))<|ai (ak rfl (fJ (aO (Rz.mul (Rz.div (Rz.sub (Rz.mul (Rz.add (Rz.mul (Rz.sub hc ha) (Rz.sub hc ha)) (Rz.mul (Rz.sub hd hb) (Rz.sub hd hb))) (Rz.sub hf hb)) (Rz.mul (Rz.add (Rz.mul (Rz.sub he ha) (Rz.sub he ha)) (Rz.mul (Rz.sub hf hb) (Rz.sub hf hb))) (Rz.sub hd hb))) (Rz.add (Rz.sub (Rz.mul (Rz.sub hc ha) (Rz.sub hf hb)) (Rz.mul (Rz.sub hd hb) (Rz.sub he ha))) (Rz.sub (Rz.mul (Rz.sub hc ha) (Rz.sub hf hb)) (Rz.mul (Rz.sub hd hb) (Rz.sub he ha)))) (by assumption)) (Rz.div (Rz.sub (Rz.mul (Rz.add (Rz.mul (Rz.sub hc ha) (Rz.sub hc ha)) (Rz.mul (Rz.sub hd hb) (Rz.sub hd hb))) (Rz.sub hf hb)) (Rz.mul (Rz.add (Rz.mul (Rz.sub he ha) (Rz.sub he ha)) (Rz.mul (Rz.sub hf hb) (Rz.sub hf hb))) (Rz.sub hd hb))) (Rz.add (Rz.sub (Rz.mul (Rz.sub hc ha) (Rz.sub hf hb)) (Rz.mul (Rz.sub hd hb) (Rz.sub he ha))) (Rz.sub (Rz.mul (Rz.sub hc ha) (Rz.sub hf hb)) (Rz.mul (Rz.sub hd hb) (Rz.sub he ha)))) (by assumption)))) (aO (Rz.mul (Rz.div (Rz.sub (Rz.mul (Rz.add (Rz.mul (Rz.sub he ha) (Rz.sub he ha)) (Rz.mul (Rz.sub hf hb) (Rz.sub hf hb))) (Rz.sub hc ha)) (Rz.mul (Rz.add (Rz.mul (Rz.sub hc ha) (Rz.sub hc ha)) (Rz.mul (Rz.sub hd hb) (Rz.sub hd hb))) (Rz.sub he ha))) (Rz.add (Rz.sub (Rz.mul (Rz.sub hc ha) (Rz.sub hf hb)) (Rz.mul (Rz.sub hd hb) (Rz.sub he ha))) (Rz.sub (Rz.mul (Rz.sub hc ha) (Rz.sub hf hb)) (Rz.mul (Rz.sub hd hb) (Rz.sub he ha)))) (by assumption)) (Rz.div (Rz.sub (Rz.mul (Rz.add (Rz.mul (Rz.sub he ha) (Rz.sub he ha)) (Rz.mul (Rz.sub hf hb) (Rz.sub hf hb))) (Rz.sub hc ha)) (Rz.mul (Rz.add (Rz.mul (Rz.sub hc ha) (Rz.sub hc ha)) (Rz.mul (Rz.sub hd hb) (Rz.sub hd hb))) (Rz.sub he ha))) (Rz.add (Rz.sub (Rz.mul (Rz.sub hc ha) (Rz.sub hf hb)) (Rz.mul (Rz.sub hd hb) (Rz.sub he ha))) (Rz.sub (Rz.mul (Rz.sub hc ha) (Rz.sub hf hb)) (Rz.mul (Rz.sub hd hb) (Rz.sub he ha)))) (by assumption))))))<|ai (aD (us:=(cR (a+((((((c-a)*(c-a))+((d-b)*(d-b)))*(f-b))-((((e-a)*(e-a))+((f-b)*(f-b)))*(d-b)))/((((c-a)*(f-b))-((d-b)*(e-a)))+(((c-a)*(f-b))-((d-b)*(e-a))))))++cR (b+((((((e-a)*(e-a))+((f-b)*(f-b)))*(c-a))-((((c-a)*(c-a))+((d-b)*(d-b)))*(e-a)))/((((c-a)*(f-b))-((d-b)*(e-a)))+(((c-a)*(f-b))-((d-b)*(e-a))))))++cR ((((((((c-a)*(c-a))+((d-b)*(d-b)))*(f-b))-((((e-a)*(e-a))+((f-b)*(f-b)))*(d-b)))/((((c-a)*(f-b))-((d-b)*(e-a)))+(((c-a)*(f-b))-((d-b)*(e-a)))))*((((((c-a)*(c-a))+((d-b)*(d-b)))*(f-b))-((((e-a)*(e-a))+((f-b)*(f-b)))*(d-b)))/((((c-a)*(f-b))-((d-b)*(e-a)))+(((c-a)*(f-b))-((d-b)*(e-a))))))+(((((((e-a)*(e-a))+((f-b)*(f-b)))*(c-a))-((((c-a)*(c-a))+((d-b)*(d-b)))*(e-a)))/((((c-a)*(f-b))-((d-b)*(e-a)))+(((c-a)*(f-b))-((d-b)*(e-a)))))*((((((e-a)*(e-a))+((f-b)*(f-b)))*(c-a))-((((c-a)*(c-a))+((d-b)*(d-b)))*(e-a)))/((((c-a)*(f-b))-((d-b)*(e-a)))+(((c-a)*(f-b))-((d-b)*(e-a))))))))) NT Ap rfl rfl rfl) ?_
  refine aV<|ar<|ag<|am ?_
  exact ao (bb ou rfl (aC ae))
theorem R8 {a b c d e f:Rat}(ha:Rz 1 a) (hb:Rz 1 b) (hc:Rz 1 c) (hd:Rz 1 d) (he:Rz 1 e) (hf:Rz 1 f) (hn:jA a b c d e f≠0):Ok Tryz.prog 24 [.a ((cR a++cR b)),.a ((cR c++cR d)),.a ((cR e++cR f))] [.a (([.b true]++dN++ci (Pq a b c d e f)++[.b (decide (a7 ((c-a)*(f-b)) ((d-b)*(e-a))<0))]++ay (rP a b)++ay (rP e f))),.c (.i .i64 0)]:=by
 refine Ok.fn Tryz.func24 37 [.cell 6 39,.tmp 7] rfl<|aa<|ab<|al 3<|aw (ah gz rfl) rfl<|ag<|aa<|ab<|al 3<|aj (ak rfl (Gl ha hb hc hd he hf))<|ag<|aa<|ab<|al 3 ?_
 refine aj (ak rfl (SK ha hb hc hd he hf hn))<|al 3<|aw (ah Ap rfl) rfl<|ag<|aa<|aa<|ab<|al 2 ?_
 refine cm (bO rfl) (fun c1 hb1=>?_)
 cases c1
 ·refine ag<|ba rfl<|ap<|aa<|aM 8 rfl rfl<|an 4<|ai (ak rfl (mj))<|an 1<|ai (ak rfl (mj))<|ai (aD (us:=([.b true]++dN++ci (Pq a b c d e f)++[.b (decide ((a7 ((c-a)*(f-b)) ((d-b)*(e-a)))<0))]++(cR a++cR 0++cR b++cR 0++cR 0)++(cR e++cR 0++cR f++cR 0++cR 0))) Bn gz rfl rfl rfl) ?_
  refine aV<|ar<|ag<|am ?_
  exact ao (eG (us:=([.b true]++dN++ci (Pq a b c d e f)++[.b (decide ((a7 ((c-a)*(f-b)) ((d-b)*(e-a)))<0))]++(cR a++cR 0++cR b++cR 0++cR 0)++(cR e++cR 0++cR f++cR 0++cR 0))) dF rfl rfl (by kernel_rfl) (by kernel_rfl) (aC ae))
 ·exact absurd (FG.1 (by simpa using hb1)) hn
theorem NP {a b c d e f:Rat}(ha:Rz 1 a) (hb:Rz 1 b) (hc:Rz 1 c) (hd:Rz 1 d) (he:Rz 1 e) (hf:Rz 1 f) (hn:jA a b c d e f=0):Ok Tryz.prog 79 [.a ((cR a++cR b)),.a ((cR c++cR d)),.a ((cR e++cR f))] [.a (dN),.c (.i .i64 6)]:=by
 refine Ok.fn Tryz.func79 99 [.cell 6 35,.tmp 7] rfl<|aa<|ab<|al 3<|aw (ah Ap rfl) rfl<|ag<|aa<|aM 24 rfl rfl<|an 1<|ai (aA (cR c) az rfl)<|an 1<|ai (aA (cR a) az rfl)<|ai (ak rfl (dV (aO hc) (aO ha)))<|an 1 ?_
 refine ai (aA (cR d) az rfl)<|an 1<|ai (aA (cR b) az rfl)<|ai (ak rfl (dV (aO hd) (aO hb)))<|an 1<|ai (aA (cR e) az rfl)<|an 1<|ai (aA (cR a) az rfl)<|ai (ak rfl (dV (aO he) (aO ha)))<|an 1<|ai (aA (cR f) az rfl)<|an 1<|ai (aA (cR b) az rfl)<|ai (ak rfl (dV (aO hf) (aO hb))) ?_
 refine bh (ah br rfl) rfl<|bh (ah br rfl) rfl<|bh (ah br rfl) rfl<|bh (ah br rfl) rfl<|aV<|jy<|ag<|aa<|aM 8 rfl rfl<|an 2<|ai (ak rfl (bZ (aO (Rz.sub hc ha)) (aO (Rz.sub hf hb))))<|an 2<|ai (ak rfl (bZ (aO (Rz.sub hd hb)) (aO (Rz.sub he ha))))<|ai (ak rfl (dV (aO (Rz.mul (Rz.sub hc ha) (Rz.sub hf hb))) (aO (Rz.mul (Rz.sub hd hb) (Rz.sub he ha))))) ?_
 refine bh (ah br rfl) rfl<|aV<|bi<|ag<|aa<|aa<|ab<|al 1<|aj (ak rfl (cb))<|ag ?_
 refine au rfl (fun hc1=>?_) (fun hc1=>?_)
 ·refine aa<|ab<|aj (aD (us:=dN) NT Ap rfl rfl rfl) ?_
  refine ag<|am ?_
  exact ao (bb ou rfl (aC ae))
 ·exact absurd hc1 (by have h9:=f8.2 hn;simpa [jA] using h9)
theorem Ko {a b c d e f:Rat}(ha:Rz 1 a) (hb:Rz 1 b) (hc:Rz 1 c) (hd:Rz 1 d) (he:Rz 1 e) (hf:Rz 1 f) (hn:jA a b c d e f=0):Ok Tryz.prog 24 [.a ((cR a++cR b)),.a ((cR c++cR d)),.a ((cR e++cR f))] [.a (([.b false]++dN++dN++[.b false]++oy++oy)),.c (.i .i64 6)]:=by
 refine Ok.fn Tryz.func24 37 [.cell 6 39,.tmp 7] rfl<|aa<|ab<|al 3<|aw (ah gz rfl) rfl<|ag<|aa<|ab<|al 3<|aj (ak rfl (Gl ha hb hc hd he hf))<|ag<|aa<|ab<|al 3 ?_
 refine aj (ak rfl (NP ha hb hc hd he hf hn))<|al 3<|aw (ah Ap rfl) rfl<|ag<|aa<|aa<|ab<|al 2 ?_
 refine cm (bO rfl) (fun c1 hb1=>?_)
 cases c1
 ·exact absurd hb1 (by simp[FG.2 hn])
 ·refine ag<|bo rfl<|aa<|ab<|aj (aD (us:=([.b false]++dN++dN++[.b false]++oy++oy)) Bn gz rfl rfl rfl) ?_
  refine ag<|am ?_
  exact ao (eG (us:=([.b false]++dN++dN++[.b false]++oy++oy)) dF rfl rfl (by kernel_rfl) (by kernel_rfl) (aC ae))
theorem MB {k:Ci}(hk:GK k):Ok Tryz.prog 38 [.a (ci k)] [.a (ay (wy k)),.a (ay (xz k))]:=by
 have o1:Rz 60000 (1:Rat):=ky.m_
 refine Ok.fn Tryz.func38 27 [.cell 2 37,.cell 3 37] rfl<|aa<|ab<|al 1<|aw (ah hJ rfl) rfl<|aw (ah hJ rfl) rfl<|aq<|aa<|ab<|aj (ak rfl (db (oe (by decide) (by decide)) (show((1:Int):Rat)=1 from rfl)))<|aj (ak rfl (db (oe (by decide) (by decide)) (show((0:Int):Rat)=0 from rfl)))<|aw (ah br rfl) rfl<|aw (ah br rfl) rfl<|ag ?_
 refine aa<|aM 19 rfl rfl<|an 1<|ai (aA (cR k.x) az rfl)<|an 1<|ai (ak rfl (p5 o1))<|an 1<|ai (aA (cR k.y) az rfl)<|an 2<|ai (aA (cR k.q) az rfl)<|ai (ak rfl (BV (hk.x.m_) (ky.neg.m_) (hk.y.m_) (Rz.zero (by decide)) (hk.q.m_)))<|an 1<|ai (aA (cR k.x) az rfl)<|an 2 ?_
 refine ai (aA (cR k.y) az rfl)<|an 2<|ai (aA (cR k.q) az rfl)<|ai (ak rfl (BV (hk.x.m_) (ky.m_) (hk.y.m_) (Rz.zero (by decide)) (hk.q.m_)))<|aV<|ar<|ag<|am ?_
 exact ao (bb ca rfl (bb ca rfl ae))
theorem Oy {k:Ci}(hk:GK k):Ok Tryz.prog 72 [.a (ci k)] [.c (.s ((rq k).length) (bg bc (rq k)))]:=by
 refine Ok.fn Tryz.func72 19 [.tmp 2] rfl<|aa<|ab<|ag<|aa<|ab<|al 1<|aj (ak rfl (MB hk))<|al 3<|aw (ah hJ rfl) rfl<|aw (ah hJ rfl) rfl<|ag<|aa<|ab ?_
 refine al 3<|aj (aD (us:=([.b true]++dN++ci k++[.b false]++ay (wy k)++ay (xz k))) Bn gz rfl rfl rfl) ?_
 refine al 3<|aj (aD (us:=([.b true]++dN++ci k++[.b false]++ay (xz k)++ay (wy k))) Bn gz rfl rfl rfl) ?_
 refine aj (df (n:=2) (us:=([.b true]++dN++ci k++[.b false]++ay (wy k)++ay (xz k))++([.b true]++dN++ci k++[.b false]++ay (xz k)++ay (wy k))) xR rfl (by kernel_rfl) (by kernel_rfl) (by decide) (by decide) rfl) ?_
 refine ag<|am ?_
 exact ao (aC ae)
theorem gY {A U:Int}(hA: -128≤A∧A≤127) (hU:0≤U∧U≤255):Ok Tryz.prog 70 [.c (.i .i8 A),.c (.i .u8 U)] [dR (qD A (uD U))]:=by
 refine Ok.fn Tryz.func70 12 [.cell 4 31] rfl<|aa<|ab<|aw (ah br rfl) rfl<|aq<|aa<|ab<|al 1<|aj (bN (r:=A) R7 uq rfl (lU (by omega) (by omega)) rfl) ?_
 refine al 1<|aj (dM (r:=U%4) rfl rfl (by decide) (Int.tmod_eq_emod_of_nonneg hU.1) rfl) ?_
 refine aj (bN (r:=U%4) Rt uq rfl (lU (by omega) (by omega)) rfl) ?_
 refine aj (aG (r:=uD U) rfl rfl ((aW (by omega) (by omega)).trans rfl) rfl) ?_
 refine aj (ak rfl (Ej (by omega) (by omega) (by have:=y5 hU.1;omega) (by have:=y5 hU.1;omega) (by have:=y5 hU.1;omega)))<|ag<|am ?_
 exact ao (bb az rfl ae)
theorem LW {K U A B C D E F:Int}(hK:0≤K∧K≤255) (hU:0≤U∧U≤255) (hA: -128≤A∧A≤127) (hB: -128≤B∧B≤127) (hC: -128≤C∧C≤127) (hD: -128≤D∧D≤127) (_hE: -128≤E∧E≤127) (_hF: -128≤F∧F≤127) {a b c d e f:Rat}(ea:qD A (uD U)=a) (eb:qD B (uD U)=b) (ec:qD C (uD U)=c) (ed:qD D (uD U)=d) (_ee:qD E (uD U)=e) (_ef:qD F (uD U)=f) (_za:Rz 1 a) (_zb:Rz 1 b) (_zc:Rz 1 c) (_zd:Rz 1 d) (_ze:Rz 1 e) (_zf:Rz 1 f) (hk:K%3=2) (hq: ¬0<c):Ok Tryz.prog 21 [.a (([.i .u8 K]++[.i .u8 U]++[.i .i8 A]++[.i .i8 B]++[.i .i8 C]++[.i .i8 D]++[.i .i8 E]++[.i .i8 F]))] [.c (.s 0 [])]:=by
 refine Ok.fn Tryz.func21 80 [.tmp 2] rfl<|aa<|ab<|ag<|aa<|aM 12 rfl rfl<|an 4<|ai (ak rfl (db (gY ⟨by omega,by omega⟩ ⟨by omega,by omega⟩) ea))<|an 4<|ai (ak rfl (db (gY ⟨by omega,by omega⟩ ⟨by omega,by omega⟩) eb))<|ai (aD (us:=(cR a++cR b)) mo gB rfl rfl rfl) ?_
 refine bh (ah gB rfl) rfl<|aV<|bi<|ag<|aa<|aM 12 rfl rfl<|an 4<|ai (ak rfl (db (gY ⟨by omega,by omega⟩ ⟨by omega,by omega⟩) ec))<|an 4<|ai (ak rfl (db (gY ⟨by omega,by omega⟩ ⟨by omega,by omega⟩) ed))<|ai (aD (us:=(cR c++cR d)) mo gB rfl rfl rfl) ?_
 refine bh (ah gB rfl) rfl<|aV<|bi<|ag<|aa<|aa<|ab<|al 2<|aj (dM (r:=K%3) rfl rfl (by decide) (Int.tmod_eq_emod_of_nonneg hK.1) rfl) ?_
 refine aj (dh (c:=true) (o6 rfl) (by rw[hk];rfl)) ?_
 refine aq<|bo rfl<|aa<|ab<|al 4<|aj (ak rfl (db (gY ⟨by omega,by omega⟩ ⟨by omega,by omega⟩) ec))<|aw (ah br rfl) rfl<|ag<|aa<|aa<|ab<|al 1<|aj (ak rfl (cb))<|ag ?_
 refine au rfl (fun hc1=>?_) (fun hc1=>?_)
 ·refine aa<|ab<|ag<|am ?_
  exact ao (aC ae)
 ·exact absurd (tG (fun h=>of_decide_eq_false hc1 (by omega)) (fun h=>of_decide_eq_false hc1 (by omega))) hq
theorem L2 {K U A B C D E F:Int}(hK:0≤K∧K≤255) (hU:0≤U∧U≤255) (hA: -128≤A∧A≤127) (hB: -128≤B∧B≤127) (hC: -128≤C∧C≤127) (hD: -128≤D∧D≤127) (_hE: -128≤E∧E≤127) (_hF: -128≤F∧F≤127) {a b c d e f:Rat}(ea:qD A (uD U)=a) (eb:qD B (uD U)=b) (ec:qD C (uD U)=c) (ed:qD D (uD U)=d) (_ee:qD E (uD U)=e) (_ef:qD F (uD U)=f) (za:Rz 1 a) (zb:Rz 1 b) (zc:Rz 1 c) (_zd:Rz 1 d) (_ze:Rz 1 e) (_zf:Rz 1 f) (hk:K%3=2) (hq:0<c):Ok Tryz.prog 21 [.a (([.i .u8 K]++[.i .u8 U]++[.i .i8 A]++[.i .i8 B]++[.i .i8 C]++[.i .i8 D]++[.i .i8 E]++[.i .i8 F]))] [.c (.s ((rq ⟨a,b,c⟩).length) (bg bc (rq ⟨a,b,c⟩)))]:=by
 refine Ok.fn Tryz.func21 80 [.tmp 2] rfl<|aa<|ab<|ag<|aa<|aM 12 rfl rfl<|an 4<|ai (ak rfl (db (gY ⟨by omega,by omega⟩ ⟨by omega,by omega⟩) ea))<|an 4<|ai (ak rfl (db (gY ⟨by omega,by omega⟩ ⟨by omega,by omega⟩) eb))<|ai (aD (us:=(cR a++cR b)) mo gB rfl rfl rfl) ?_
 refine bh (ah gB rfl) rfl<|aV<|bi<|ag<|aa<|aM 12 rfl rfl<|an 4<|ai (ak rfl (db (gY ⟨by omega,by omega⟩ ⟨by omega,by omega⟩) ec))<|an 4<|ai (ak rfl (db (gY ⟨by omega,by omega⟩ ⟨by omega,by omega⟩) ed))<|ai (aD (us:=(cR c++cR d)) mo gB rfl rfl rfl) ?_
 refine bh (ah gB rfl) rfl<|aV<|bi<|ag<|aa<|aa<|ab<|al 2<|aj (dM (r:=K%3) rfl rfl (by decide) (Int.tmod_eq_emod_of_nonneg hK.1) rfl) ?_
 refine aj (dh (c:=true) (o6 rfl) (by rw[hk];rfl)) ?_
 refine aq<|bo rfl<|aa<|ab<|al 4<|aj (ak rfl (db (gY ⟨by omega,by omega⟩ ⟨by omega,by omega⟩) ec))<|aw (ah br rfl) rfl<|ag<|aa<|aa<|ab<|al 1<|aj (ak rfl (cb))<|ag ?_
 refine au rfl (fun hc1=>?_) (fun hc1=>?_)
 ·exact absurd (of_decide_eq_true hc1) (by unfold a7;rw[if_neg (by grind),if_pos hq];decide)
 ·refine ap<|aa<|ab<|al 1<|aj (aA (cR a) az rfl)<|al 1<|aj (aA (cR b) az rfl)<|al 1<|aj (aD (us:=(cR a++cR b++cR c)) NT Ap rfl rfl rfl) ?_
  refine aj (ak rfl (Oy (k:=⟨a,b,c⟩) ⟨za,zb,zc.m_⟩))<|ag<|am ?_
  exact ao (aC ae)
theorem Cn {K U A B C D E F:Int}(hK:0≤K∧K≤255) (hU:0≤U∧U≤255) (hA: -128≤A∧A≤127) (hB: -128≤B∧B≤127) (hC: -128≤C∧C≤127) (hD: -128≤D∧D≤127) (hE: -128≤E∧E≤127) (hF: -128≤F∧F≤127) {a b c d e f:Rat}(ea:qD A (uD U)=a) (eb:qD B (uD U)=b) (ec:qD C (uD U)=c) (ed:qD D (uD U)=d) (ee:qD E (uD U)=e) (ef:qD F (uD U)=f) (za:Rz 1 a) (zb:Rz 1 b) (zc:Rz 1 c) (zd:Rz 1 d) (ze:Rz 1 e) (zf:Rz 1 f) (hk:K%3=1) (hk2:K%3≠2) {S1:List CellD}{s1:Int}(lS:S1.length=66) (hS:Ok Tryz.prog 26 [.a ((cR a++cR b)),.a ((cR c++cR d))] [.a S1,.c (.i .i64 s1)]) (hn:jA a b c d e f≠0):Ok Tryz.prog 21 [.a (([.i .u8 K]++[.i .u8 U]++[.i .i8 A]++[.i .i8 B]++[.i .i8 C]++[.i .i8 D]++[.i .i8 E]++[.i .i8 F]))] [.c (.s (([OS a b c d e f]).length) (bg bc ([OS a b c d e f])))]:=by
 refine Ok.fn Tryz.func21 80 [.tmp 2] rfl<|aa<|ab<|ag<|aa<|aM 12 rfl rfl<|an 4<|ai (ak rfl (db (gY ⟨by omega,by omega⟩ ⟨by omega,by omega⟩) ea))<|an 4<|ai (ak rfl (db (gY ⟨by omega,by omega⟩ ⟨by omega,by omega⟩) eb))<|ai (aD (us:=(cR a++cR b)) mo gB rfl rfl rfl) ?_
 refine bh (ah gB rfl) rfl<|aV<|bi<|ag<|aa<|aM 12 rfl rfl<|an 4<|ai (ak rfl (db (gY ⟨by omega,by omega⟩ ⟨by omega,by omega⟩) ec))<|an 4<|ai (ak rfl (db (gY ⟨by omega,by omega⟩ ⟨by omega,by omega⟩) ed))<|ai (aD (us:=(cR c++cR d)) mo gB rfl rfl rfl) ?_
 refine bh (ah gB rfl) rfl<|aV<|bi<|ag<|aa<|aa<|ab<|al 2<|aj (dM (r:=K%3) rfl rfl (by decide) (Int.tmod_eq_emod_of_nonneg hK.1) rfl) ?_
 refine aj (dh (c:=false) (o6 rfl) (by simpa using hk2)) ?_
 refine aq<|ba rfl<|ap<|aa<|ab<|al 2<|aj (ak rfl (hS))<|al 3<|aw (ah gz rfl) rfl<|dm (du dF rfl rfl rfl (lS) rfl rfl) ?_
 refine ag<|aa<|aa<|ab<|al 2<|aj (dM (r:=K%3) rfl rfl (by decide) (Int.tmod_eq_emod_of_nonneg hK.1) rfl) ?_
 refine aj (dh (c:=true) (o6 rfl) (by rw[hk];rfl)) ?_
 refine aq<|bo rfl<|dr 19 [6,999999] bd (by kernel_rfl) rfl rfl<|an 6<|ai (ak rfl (db (gY ⟨by omega,by omega⟩ ⟨by omega,by omega⟩) ee))<|an 4<|ai (ak rfl (db (gY ⟨by omega,by omega⟩ ⟨by omega,by omega⟩) ef))<|ai (aD (us:=(cR e++cR f)) mo gB rfl rfl rfl) ?_
 refine ai (ak rfl (R8 za zb zc zd ze zf hn))<|an 3<|gV (du dF rfl rfl rfl rfl lS rfl) rfl rfl rfl rfl ?_
 refine bJ<|bi<|aq<|aa<|aa<|ab<|ag<|ba rfl<|ap<|aa<|ab<|al 1<|aj (df (n:=1) (us:=([.b true]++dN++ci (Pq a b c d e f)++[.b (decide (a7 ((c-a)*(f-b)) ((d-b)*(e-a))<0))]++ay (rP a b)++ay (rP e f))) xR rfl rfl rfl (by decide) (by decide) rfl) ?_
 refine ag<|am ?_
 exact ao (aC ae)
theorem KH {K U A B C D E F:Int}(hK:0≤K∧K≤255) (hU:0≤U∧U≤255) (hA: -128≤A∧A≤127) (hB: -128≤B∧B≤127) (hC: -128≤C∧C≤127) (hD: -128≤D∧D≤127) (_hE: -128≤E∧E≤127) (_hF: -128≤F∧F≤127) {a b c d e f:Rat}(ea:qD A (uD U)=a) (eb:qD B (uD U)=b) (ec:qD C (uD U)=c) (ed:qD D (uD U)=d) (_ee:qD E (uD U)=e) (_ef:qD F (uD U)=f) (za:Rz 1 a) (zb:Rz 1 b) (zc:Rz 1 c) (zd:Rz 1 d) (_ze:Rz 1 e) (_zf:Rz 1 f) (hk1:K%3≠1) (hk2:K%3≠2) (hs: ¬(b-d=0∧c-a=0)):Ok Tryz.prog 21 [.a (([.i .u8 K]++[.i .u8 U]++[.i .i8 A]++[.i .i8 B]++[.i .i8 C]++[.i .i8 D]++[.i .i8 E]++[.i .i8 F]))] [.c (.s (([OQ a b c d]).length) (bg bc ([OQ a b c d])))]:=by
 refine Ok.fn Tryz.func21 80 [.tmp 2] rfl<|aa<|ab<|ag<|aa<|aM 12 rfl rfl<|an 4<|ai (ak rfl (db (gY ⟨by omega,by omega⟩ ⟨by omega,by omega⟩) ea))<|an 4<|ai (ak rfl (db (gY ⟨by omega,by omega⟩ ⟨by omega,by omega⟩) eb))<|ai (aD (us:=(cR a++cR b)) mo gB rfl rfl rfl) ?_
 refine bh (ah gB rfl) rfl<|aV<|bi<|ag<|aa<|aM 12 rfl rfl<|an 4<|ai (ak rfl (db (gY ⟨by omega,by omega⟩ ⟨by omega,by omega⟩) ec))<|an 4<|ai (ak rfl (db (gY ⟨by omega,by omega⟩ ⟨by omega,by omega⟩) ed))<|ai (aD (us:=(cR c++cR d)) mo gB rfl rfl rfl) ?_
 refine bh (ah gB rfl) rfl<|aV<|bi<|ag<|aa<|aa<|ab<|al 2<|aj (dM (r:=K%3) rfl rfl (by decide) (Int.tmod_eq_emod_of_nonneg hK.1) rfl) ?_
 refine aj (dh (c:=false) (o6 rfl) (by simpa using hk2)) ?_
 refine aq<|ba rfl<|ap<|aa<|ab<|al 2<|aj (ak rfl (Gd za zb zc zd hs))<|al 3<|aw (ah gz rfl) rfl<|ag<|aa<|aa<|ab<|al 2 ?_
 refine aj (dM (r:=K%3) rfl rfl (by decide) (Int.tmod_eq_emod_of_nonneg hK.1) rfl) ?_
 refine aj (dh (c:=false) (o6 rfl) (by simpa using hk1)) ?_
 refine aq<|ba rfl<|ap<|aa<|aa<|ab<|ag<|ba rfl<|ap<|aa<|ab<|al 1<|aj (df (n:=1) (us:=([.b false]++eQ (LO a b c d)++dN++[.b false]++ay (rP a b)++ay (rP c d))) xR rfl rfl rfl (by decide) (by decide) rfl) ?_
 refine ag<|am ?_
 exact ao (aC ae)
theorem BP {K U A B C D E F:Int}(hK:0≤K∧K≤255) (hU:0≤U∧U≤255) (hA: -128≤A∧A≤127) (hB: -128≤B∧B≤127) (hC: -128≤C∧C≤127) (hD: -128≤D∧D≤127) (hE: -128≤E∧E≤127) (hF: -128≤F∧F≤127) {a b c d e f:Rat}(ea:qD A (uD U)=a) (eb:qD B (uD U)=b) (ec:qD C (uD U)=c) (ed:qD D (uD U)=d) (ee:qD E (uD U)=e) (ef:qD F (uD U)=f) (za:Rz 1 a) (zb:Rz 1 b) (zc:Rz 1 c) (zd:Rz 1 d) (ze:Rz 1 e) (zf:Rz 1 f) (hk:K%3=1) (hk2:K%3≠2) {S1:List CellD}{s1:Int}(lS:S1.length=66) (hS:Ok Tryz.prog 26 [.a ((cR a++cR b)),.a ((cR c++cR d))] [.a S1,.c (.i .i64 s1)]) (hn:jA a b c d e f=0):Ok Tryz.prog 21 [.a (([.i .u8 K]++[.i .u8 U]++[.i .i8 A]++[.i .i8 B]++[.i .i8 C]++[.i .i8 D]++[.i .i8 E]++[.i .i8 F]))] [.c (.s 0 [])]:=by
 refine Ok.fn Tryz.func21 80 [.tmp 2] rfl<|aa<|ab<|ag<|aa<|aM 12 rfl rfl<|an 4<|ai (ak rfl (db (gY ⟨by omega,by omega⟩ ⟨by omega,by omega⟩) ea))<|an 4<|ai (ak rfl (db (gY ⟨by omega,by omega⟩ ⟨by omega,by omega⟩) eb))<|ai (aD (us:=(cR a++cR b)) mo gB rfl rfl rfl) ?_
 refine bh (ah gB rfl) rfl<|aV<|bi<|ag<|aa<|aM 12 rfl rfl<|an 4<|ai (ak rfl (db (gY ⟨by omega,by omega⟩ ⟨by omega,by omega⟩) ec))<|an 4<|ai (ak rfl (db (gY ⟨by omega,by omega⟩ ⟨by omega,by omega⟩) ed))<|ai (aD (us:=(cR c++cR d)) mo gB rfl rfl rfl) ?_
 refine bh (ah gB rfl) rfl<|aV<|bi<|ag<|aa<|aa<|ab<|al 2<|aj (dM (r:=K%3) rfl rfl (by decide) (Int.tmod_eq_emod_of_nonneg hK.1) rfl) ?_
 refine aj (dh (c:=false) (o6 rfl) (by simpa using hk2)) ?_
 refine aq<|ba rfl<|ap<|aa<|ab<|al 2<|aj (ak rfl (hS))<|al 3<|aw (ah gz rfl) rfl<|dm (du dF rfl rfl rfl (lS) rfl rfl) ?_
 refine ag<|aa<|aa<|ab<|al 2<|aj (dM (r:=K%3) rfl rfl (by decide) (Int.tmod_eq_emod_of_nonneg hK.1) rfl) ?_
 refine aj (dh (c:=true) (o6 rfl) (by rw[hk];rfl)) ?_
 refine aq<|bo rfl<|dr 19 [6,999999] bd (by kernel_rfl) rfl rfl<|an 6<|ai (ak rfl (db (gY ⟨by omega,by omega⟩ ⟨by omega,by omega⟩) ee))<|an 4<|ai (ak rfl (db (gY ⟨by omega,by omega⟩ ⟨by omega,by omega⟩) ef))<|ai (aD (us:=(cR e++cR f)) mo gB rfl rfl rfl) ?_
 refine ai (ak rfl (Ko za zb zc zd ze zf hn))<|an 3<|gV (du dF rfl rfl rfl rfl lS rfl) rfl rfl rfl rfl ?_
 refine bJ<|bi<|aq<|aa<|aa<|ab<|ag<|bo rfl<|aa<|ab<|ag<|am ?_
 exact ao (aC ae)
theorem LP {K U A B C D E F:Int}(hK:0≤K∧K≤255) (hU:0≤U∧U≤255) (hA: -128≤A∧A≤127) (hB: -128≤B∧B≤127) (hC: -128≤C∧C≤127) (hD: -128≤D∧D≤127) (_hE: -128≤E∧E≤127) (_hF: -128≤F∧F≤127) {a b c d e f:Rat}(ea:qD A (uD U)=a) (eb:qD B (uD U)=b) (ec:qD C (uD U)=c) (ed:qD D (uD U)=d) (_ee:qD E (uD U)=e) (_ef:qD F (uD U)=f) (za:Rz 1 a) (zb:Rz 1 b) (zc:Rz 1 c) (zd:Rz 1 d) (_ze:Rz 1 e) (_zf:Rz 1 f) (hk1:K%3≠1) (hk2:K%3≠2) (hs:b-d=0∧c-a=0):Ok Tryz.prog 21 [.a (([.i .u8 K]++[.i .u8 U]++[.i .i8 A]++[.i .i8 B]++[.i .i8 C]++[.i .i8 D]++[.i .i8 E]++[.i .i8 F]))] [.c (.s 0 [])]:=by
 refine Ok.fn Tryz.func21 80 [.tmp 2] rfl<|aa<|ab<|ag<|aa<|aM 12 rfl rfl<|an 4<|ai (ak rfl (db (gY ⟨by omega,by omega⟩ ⟨by omega,by omega⟩) ea))<|an 4<|ai (ak rfl (db (gY ⟨by omega,by omega⟩ ⟨by omega,by omega⟩) eb))<|ai (aD (us:=(cR a++cR b)) mo gB rfl rfl rfl) ?_
 refine bh (ah gB rfl) rfl<|aV<|bi<|ag<|aa<|aM 12 rfl rfl<|an 4<|ai (ak rfl (db (gY ⟨by omega,by omega⟩ ⟨by omega,by omega⟩) ec))<|an 4<|ai (ak rfl (db (gY ⟨by omega,by omega⟩ ⟨by omega,by omega⟩) ed))<|ai (aD (us:=(cR c++cR d)) mo gB rfl rfl rfl) ?_
 refine bh (ah gB rfl) rfl<|aV<|bi<|ag<|aa<|aa<|ab<|al 2<|aj (dM (r:=K%3) rfl rfl (by decide) (Int.tmod_eq_emod_of_nonneg hK.1) rfl) ?_
 refine aj (dh (c:=false) (o6 rfl) (by simpa using hk2)) ?_
 refine aq<|ba rfl<|ap<|aa<|ab<|al 2<|aj (ak rfl (vP za zb zc zd hs))<|al 3<|aw (ah gz rfl) rfl<|ag<|aa<|aa<|ab<|al 2 ?_
 refine aj (dM (r:=K%3) rfl rfl (by decide) (Int.tmod_eq_emod_of_nonneg hK.1) rfl) ?_
 refine aj (dh (c:=false) (o6 rfl) (by simpa using hk1)) ?_
 refine aq<|ba rfl<|ap<|aa<|aa<|ab<|ag<|bo rfl<|aa<|ab<|ag<|am ?_
 exact ao (aC ae)
theorem QM {K U A B C D E F:Int}(hK:0≤K∧K≤255) (hU:0≤U∧U≤255) (hA: -128≤A∧A≤127) (hB: -128≤B∧B≤127) (hC: -128≤C∧C≤127) (hD: -128≤D∧D≤127) (hE: -128≤E∧E≤127) (hF: -128≤F∧F≤127):Ok Tryz.prog 21 [.a (([.i .u8 K]++[.i .u8 U]++[.i .i8 A]++[.i .i8 B]++[.i .i8 C]++[.i .i8 D]++[.i .i8 E]++[.i .i8 F]))] [.c (.s ((pf K U A B C D E F).length) (bg bc (pf K U A B C D E F)))]:=by
 have u:=y5 hU.1
 unfold pf
 by_cases hk:K%3=2
 ·rw[if_pos hk]
  by_cases hq:0<qD C (uD U)
  ·rw[if_pos hq];exact L2 hK hU hA hB hC hD hE hF rfl rfl rfl rfl rfl rfl (bz hA u) (bz hB u) (bz hC u) (bz hD u) (bz hE u) (bz hF u) hk hq
  ·rw[if_neg hq];exact LW hK hU hA hB hC hD hE hF rfl rfl rfl rfl rfl rfl (bz hA u) (bz hB u) (bz hC u) (bz hD u) (bz hE u) (bz hF u) hk hq
 ·rw[if_neg hk]
  by_cases hk1:K%3=1
  ·rw[if_pos hk1]
   by_cases hn:jA (qD A (uD U)) (qD B (uD U)) (qD C (uD U)) (qD D (uD U)) (qD E (uD U)) (qD F (uD U))=0
   ·rw[if_pos hn]
    by_cases hs:qD B (uD U)-qD D (uD U)=0∧qD C (uD U)-qD A (uD U)=0
    ·exact BP hK hU hA hB hC hD hE hF rfl rfl rfl rfl rfl rfl (bz hA u) (bz hB u) (bz hC u) (bz hD u) (bz hE u) (bz hF u) hk1 hk rfl (vP (bz hA u) (bz hB u) (bz hC u) (bz hD u) hs) hn
    ·exact BP hK hU hA hB hC hD hE hF rfl rfl rfl rfl rfl rfl (bz hA u) (bz hB u) (bz hC u) (bz hD u) (bz hE u) (bz hF u) hk1 hk rfl (Gd (bz hA u) (bz hB u) (bz hC u) (bz hD u) hs) hn
   ·rw[if_neg hn]
    by_cases hs:qD B (uD U)-qD D (uD U)=0∧qD C (uD U)-qD A (uD U)=0
    ·exact Cn hK hU hA hB hC hD hE hF rfl rfl rfl rfl rfl rfl (bz hA u) (bz hB u) (bz hC u) (bz hD u) (bz hE u) (bz hF u) hk1 hk rfl (vP (bz hA u) (bz hB u) (bz hC u) (bz hD u) hs) hn
    ·exact Cn hK hU hA hB hC hD hE hF rfl rfl rfl rfl rfl rfl (bz hA u) (bz hB u) (bz hC u) (bz hD u) (bz hE u) (bz hF u) hk1 hk rfl (Gd (bz hA u) (bz hB u) (bz hC u) (bz hD u) hs) hn
  ·rw[if_neg hk1]
   by_cases hs:qD B (uD U)-qD D (uD U)=0∧qD C (uD U)-qD A (uD U)=0
   ·rw[if_pos hs];exact LP hK hU hA hB hC hD hE hF rfl rfl rfl rfl rfl rfl (bz hA u) (bz hB u) (bz hC u) (bz hD u) (bz hE u) (bz hF u) hk1 hk hs
   ·rw[if_neg hs];exact KH hK hU hA hB hC hD hE hF rfl rfl rfl rfl rfl rfl (bz hA u) (bz hB u) (bz hC u) (bz hD u) (bz hE u) (bz hF u) hk1 hk hs
theorem HK {k:Ci}(hk:GK k) {p:Pt}(hp:GP p):Ok Tryz.prog 356 [.a (ci k),.a (ay p)] [.c (.i .i64 (qH k p))]:=by
 refine Ok.fn Tryz.func356 25 [.tmp 4] rfl<|aa<|ab<|ag<|aa<|aM 6 rfl rfl<|an 1<|ai (ak rfl (Bq))<|an 1<|ai (aA (cR k.y) az rfl)<|ai (ak rfl (Ul hp (hk.y.m_)))<|bJ<|ar<|aq ?_
 refine aa<|aa<|aM 14 rfl rfl<|an 2 ?_
 refine gJ (bO rfl) (fun c1 hb1=>?_)
 cases c1
 ·refine an 2 ?_
  refine gJ (bO rfl) (fun c2 hb2=>?_)
  cases c2
  ·refine bJ<|ar<|aq<|ba rfl<|ap<|aa<|ab<|ag<|am ?_
   rw[Of hb1 hb2]
   exact ao (aC ae)
  ·refine an 1<|ai (ak rfl (oJ))<|an 1<|ai (aA (cR k.x) az rfl)<|ai (ak rfl (Uj hp (hk.x.m_)))<|bJ<|ar<|aq ?_
   refine au rfl (fun hc3=>?_) (fun hc3=>?_)
   ·refine aa<|ab<|ag<|am ?_
    rw[PW hb1 hb2 hc3]
    exact ao (aC ae)
   ·refine ap<|aa<|ab<|ag<|am ?_
    rw[Q8 hb1 hb2 hc3]
    exact ao (aC ae)
 ·refine bJ<|ar<|aq<|bo rfl<|aa<|ab<|ag<|am ?_
  rw[RT hb1]
  exact ao (aC ae)
theorem Ae {k:Ci}(hk:GK k) {p q:Pt}(hp:GP p) (hq:GP q):Ok Tryz.prog 320 [.a (ci k),.a (ay p),.a (ay q)] [.c (.i .i64 (j9 k p q))]:=by
 have b1:=GG k p
 have b2:=GG k q
 have b3:=rn p q
 refine Ok.fn Tryz.func320 32 [.tmp 6] rfl<|aa<|ab<|ag<|aa<|aM 8 rfl rfl<|an 2<|ai (ak rfl (HK hk hp))<|an 2<|ai (ak rfl (HK hk hq))<|bJ<|ar<|aq<|aa ?_
 refine aa<|ab<|ag ?_
 refine au rfl (fun hc1=>?_) (fun hc1=>?_)
 ·refine aa<|ab<|al 2<|aj (aG (r:=(qH k p)-(qH k q)) rfl rfl (ck (by omega) (by omega)) rfl) ?_
  refine ag<|am ?_
  rw[O2 (k:=k) (p:=p) (q:=q) (by simpa using hc1)]
  exact ao (aC ae)
 ·refine ap<|aa<|aM 6 rfl rfl<|an 1<|ai (ak rfl (oJ))<|an 1<|ai (ak rfl (oJ))<|ai (ak rfl (Uo hp hq))<|bJ<|ar<|aq<|aa<|aa<|ab ?_
  refine ag ?_
  refine au rfl (fun hc2=>?_) (fun hc2=>?_)
  ·refine aa<|ab<|al 1<|aj (eI (r:= -cx p q) rfl (yB b3) rfl) ?_
   refine ag<|am ?_
   rw[KA (k:=k) (p:=p) (q:=q) (by simpa using hc1) hc2]
   exact ao (aC ae)
  ·refine ap<|aa<|ab<|ag<|am ?_
   rw[LT (k:=k) (p:=p) (q:=q) (by simpa using hc1) hc2]
   exact ao (aC ae)
theorem CC {k:Ci}(hk:GK k) {f p:Pt}(hf:GP f) (hp:GP p):Ok Tryz.prog 318 [.a (ci k),.a (ay f),.a (ay p)] [.c (.i .i64 (lg k f p))]:=by
 refine Ok.fn Tryz.func318 18 [.tmp 6] rfl<|aa<|ab<|ag<|aa<|ab<|al 3<|aj (ak rfl (Ae hk hp hf))<|ag<|aa<|aX<|aa<|ab<|ag ?_
 refine au rfl (fun hc1=>?_) (fun hc1=>?_)
 ·refine aa<|ab<|ag<|am ?_
  rw[O6 hc1]
  exact ao (aC ae)
 ·refine aa<|ab<|ag ?_
  refine au rfl (fun hc2=>?_) (fun hc2=>?_)
  ·refine aa<|ab<|ag<|am ?_
   rw[Oi hc1 hc2]
   exact ao (aC ae)
  ·refine ap<|aa<|ab<|ag<|am ?_
   rw[OP hc1 hc2]
   exact ao (aC ae)
theorem F4 {n:Int}:Ok Tryz.prog 319 [.c (.i .i64 n)] [.c (.i .i64 (PN n))]:=by
 refine Ok.fn Tryz.func319 6 [.tmp 2] rfl<|aa<|ab<|ag<|aa<|ab<|al 1<|aj (ww rfl rfl rfl) ?_
 refine aj (Cd rfl rfl rfl) ?_
 refine ag<|am ?_
 rw[show PN n=min 1 (max (-1) n) from rfl]
 exact ao (aC ae)
theorem F5 {k:Ci}(hk:GK k) {f p q:Pt}(hf:GP f) (hp:GP p) (hq:GP q):Ok Tryz.prog 266 [.a (ci k),.a (ay f),.a (ay p),.a (ay q)] [.c (.i .i64 (Jo k f p q))]:=by
 have b1:=Fp k f p
 have b2:=Fp k f q
 refine Ok.fn Tryz.func266 31 [.tmp 8] rfl<|aa<|ab<|ag<|aa<|aa<|aM 10 rfl rfl<|an 3<|ai (ak rfl (CC hk hf hp))<|an 3<|ai (ak rfl (CC hk hf hq))<|bJ<|ar<|aq ?_
 refine aa<|ab<|ag ?_
 refine au rfl (fun hc1=>?_) (fun hc1=>?_)
 ·refine aa<|ab<|al 2<|aj (aG (r:=(lg k f p)-(lg k f q)) rfl rfl (ck (by omega) (by omega)) rfl) ?_
  refine aj (ak rfl (F4))<|ag<|am ?_
  rw[RE (k:=k) (f:=f) (p:=p) (q:=q) (by simpa using hc1)]
  exact ao (aC ae)
 ·refine ap<|aa<|ab<|al 3<|aj (ak rfl (Ae hk hp hq))<|aj (ak rfl (F4))<|ag<|am ?_
  rw[QU (k:=k) (f:=f) (p:=p) (q:=q) (by simpa using hc1)]
  exact ao (aC ae)
theorem Pa {k:Ci}(_hk:GK k) {w:Bool}{f t:Pt}(_hf:GP f) (_ht:GP t):Ok Tryz.prog 47 [.a (([.b true]++dN++ci k++[.b w]++ay f++ay t))] [.a (([.b true]++dN++ci k++[.b (!w)]++ay t++ay f))]:=by
 refine Ok.fn Tryz.func47 18 [.cell 2 39] rfl<|aa<|ab<|al 1<|aw (ah gz rfl) rfl<|aq<|aa<|ab<|al 1<|aj (dO (ay t) ca rfl (by kernel_rfl))<|al 1<|aj (dO (ay f) ca rfl (by kernel_rfl))<|al 1<|dm (bm (us:=([.b true]++dN++ci k++[.b w]++ay t++ay t)) ca rfl rfl rfl rfl (Nat.le_of_ble_eq_true (by kernel_rfl)) (by kernel_rfl) rfl) ?_
 refine al 1<|dm (bm (us:=([.b true]++dN++ci k++[.b w]++ay t++ay f)) ca rfl rfl rfl rfl (Nat.le_of_ble_eq_true (by kernel_rfl)) (by kernel_rfl) rfl) ?_
 refine aq<|aa<|ab<|al 8<|dm (bm (us:=([.b true]++dN++ci k++[.b (!w)]++ay t++ay f)) ET rfl rfl rfl rfl (Nat.le_of_ble_eq_true (by kernel_rfl)) (by kernel_rfl) rfl) ?_
 refine aq<|aa<|ab<|ag<|am ?_
 exact ao (eG (us:=([.b true]++dN++ci k++[.b (!w)]++ay t++ay f)) dF rfl rfl (by kernel_rfl) (by kernel_rfl) ae)
theorem J7 {k:Ci}(hk:GK k) {f t:Pt}(hf:GP f) (ht:GP t):Ok Tryz.prog 265 [.a (([.b true]++dN++ci k++[.b true]++ay f++ay t))] [.a (([.b true]++dN++ci k++[.b false]++ay t++ay f))]:=by
 refine Ok.fn Tryz.func265 8 [.cell 2 39] rfl<|aa<|ab<|al 1<|aw (ah gz rfl) rfl<|aq<|aa<|aa<|ab<|ag<|bo rfl<|aa<|ab<|al 1 ?_
 refine aj (ak rfl (Pa (w:=true) hk hf ht))<|ag<|am ?_
 exact ao (eG (us:=([.b true]++dN++ci k++[.b false]++ay t++ay f)) dF rfl rfl (by kernel_rfl) (by kernel_rfl) ae)
theorem JU {k:Ci}(_hk:GK k) {f t:Pt}(_hf:GP f) (_ht:GP t):Ok Tryz.prog 265 [.a (([.b true]++dN++ci k++[.b false]++ay f++ay t))] [.a (([.b true]++dN++ci k++[.b false]++ay f++ay t))]:=by
 refine Ok.fn Tryz.func265 8 [.cell 2 39] rfl<|aa<|ab<|al 1<|aw (ah gz rfl) rfl<|aq<|aa<|aa<|ab<|ag<|ba rfl<|ap<|aa<|ab ?_
 refine ag<|am ?_
 exact ao (eG (us:=([.b true]++dN++ci k++[.b false]++ay f++ay t)) dF rfl rfl (by kernel_rfl) (by kernel_rfl) ae)
theorem Po {k:Ci}(hk:GK k) {w:Bool}{f t:Pt}(_hf:GP f) (_ht:GP t) {p:Pt}(hp:GP p):Ok Tryz.prog 190 [.a (([.b true]++dN++ci k++[.b w]++ay f++ay t)),.a (ay p)] [.c (.b ((Cv.arc k w f t).supp p))]:=by
 refine Ok.fn Tryz.func190 17 [.tmp 4] rfl<|aa<|ab<|ag<|aa<|aa<|ab<|ag<|bo rfl<|aa<|ab<|al 1<|aj (dO (ci k) ou rfl (by kernel_rfl))<|al 1 ?_
 refine aj (ak rfl (QH hk hp))<|ag<|am ?_
 exact ao (aC ae)
theorem AJ {k:Ci}(hk:GK k) (h0:0<k.q) {f t p:Pt}(of:OnK k f) (ot:OnK k t) (op:OnK k p):Ok Tryz.prog 191 [.a (([.b true]++dN++ci k++[.b true]++ay f++ay t)),.a (ay p)] [.c (.b (decide ((Cv.arc k true f t).ord f p≤0)&&decide ((Cv.arc k true f t).ord p t≤0)))]:=by
 have hf:=of.1
 have ht:=ot.1
 have hp:=op.1
 have e1:(decide ((Cv.arc k true f t).ord f p≤0)&&decide ((Cv.arc k true f t).ord p t≤0))=decide (Jo k t p f≤0):=RY h0 of ot op
 refine Ok.fn Tryz.func191 41 [.tmp 4] rfl<|aa<|ab<|ag<|aa<|aa<|ab<|ag<|ba rfl<|ap<|aa<|ab<|al 1<|aj (ak rfl (J7 hk hf ht)) ?_
 refine aw (ah gz rfl) rfl<|ag<|aa<|ab<|al 1<|aj (dO (ci k) ou rfl (by kernel_rfl))<|al 1<|aj (dO (ay t) ca rfl (by kernel_rfl))<|al 2<|aj (dO (ay f) ca rfl (by kernel_rfl))<|aj (ak rfl (F5 hk ht hp hf))<|ag<|am ?_
 rw[e1]
 exact ao (aC ae)
theorem yW {k:Ci}(hk:GK k) (_h0:0<k.q) {f t p:Pt}(of:OnK k f) (ot:OnK k t) (op:OnK k p):Ok Tryz.prog 191 [.a (([.b true]++dN++ci k++[.b false]++ay f++ay t)),.a (ay p)] [.c (.b (decide ((Cv.arc k false f t).ord f p≤0)&&decide ((Cv.arc k false f t).ord p t≤0)))]:=by
 have hf:=of.1
 have ht:=ot.1
 have hp:=op.1
 have e1:(decide ((Cv.arc k false f t).ord f p≤0)&&decide ((Cv.arc k false f t).ord p t≤0))=decide (Jo k f p t≤0):=O1 hf ht hp
 refine Ok.fn Tryz.func191 41 [.tmp 4] rfl<|aa<|ab<|ag<|aa<|aa<|ab<|ag<|ba rfl<|ap<|aa<|ab<|al 1<|aj (ak rfl (JU hk hf ht)) ?_
 refine aw (ah gz rfl) rfl<|ag<|aa<|ab<|al 1<|aj (dO (ci k) ou rfl (by kernel_rfl))<|al 1<|aj (dO (ay f) ca rfl (by kernel_rfl))<|al 2<|aj (dO (ay t) ca rfl (by kernel_rfl))<|aj (ak rfl (F5 hk hf hp ht))<|ag<|am ?_
 rw[e1]
 exact ao (aC ae)
theorem RZ {w:Bool}{k:Ci}(hk:GK k) (h0:0<k.q) {f t p:Pt}(of:OnK k f) (ot:OnK k t) (op:OnK k p):Ok Tryz.prog 191 [.a (([.b true]++dN++ci k++[.b w]++ay f++ay t)),.a (ay p)] [.c (.b (decide ((Cv.arc k w f t).ord f p≤0)&&decide ((Cv.arc k w f t).ord p t≤0)))]:=by
 cases w with
 |true=>exact AJ hk h0 of ot op
 |false=>exact yW hk h0 of ot op
theorem Qy {w:Bool}{k:Ci}(hk:GK k) (h0:0<k.q) {f t p:Pt}(of:OnK k f) (ot:OnK k t) (hp:GP p):Ok Tryz.prog 103 [.a (([.b true]++dN++ci k++[.b w]++ay f++ay t)),.a (ay p)] [.c (.b ((Cv.arc k w f t).on p))]:=by
 have hf:=of.1
 have ht:=ot.1
 refine Ok.fn Tryz.func103 13 [.tmp 4] rfl<|aa<|ab<|ag<|aa<|ab<|al 2<|aj (ak rfl (Po hk hf ht hp)) ?_
 refine cm (bO rfl) (fun c1 hb1=>?_)
 cases c1
 ·refine ag<|am ?_
  rw[N3 (c:=(Cv.arc k w f t)) (p:=p) hb1]
  exact ao (aC ae)
 ·have op:OnK k p:=⟨hp,gf.1 hb1⟩
  refine al 2<|aj (ak rfl (RZ hk h0 of ot op))<|ag<|am ?_
  rw[QG (c:=(Cv.arc k w f t)) (p:=p) hb1]
  exact ao (aC ae)
theorem zI {w:Bool}{k:Ci}(hk:GK k) (h0:0<k.q) {f t p:Pt}(of:OnK k f) (ot:OnK k t) (hp:GP p):Ok Tryz.prog 36 [.a (([.b true]++dN++ci k++[.b w]++ay f++ay t)),.a (ay p)] [.c (.b ((Cv.arc k w f t).inner p))]:=by
 have hf:=of.1
 have ht:=ot.1
 refine Ok.fn Tryz.func36 22 [.tmp 4] rfl<|aa<|ab<|ag<|aa<|ab<|al 2<|aj (ak rfl (Qy hk h0 of ot hp)) ?_
 refine cm (bO rfl) (fun c1 hb1=>?_)
 cases c1
 ·refine ag<|am ?_
  rw[Ma (c:=(Cv.arc k w f t)) (p:=p) hb1]
  exact ao (aC ae)
 ·refine al 1<|aj (dO (ay f) ca rfl (by kernel_rfl))<|al 1<|aj (ak rfl (MT hf hp))<|al 2 ?_
  refine cm (bO rfl) (fun c2 hb2=>?_)
  cases c2
  ·refine ag<|am ?_
   rw[FB (c:=(Cv.arc k w f t)) (p:=p) hb1 hb2]
   exact ao (aC ae)
  ·refine al 1<|aj (dO (ay t) ca rfl (by kernel_rfl))<|al 1<|aj (ak rfl (MT ht hp))<|ag<|am ?_
   rw[Fj (c:=(Cv.arc k w f t)) (p:=p) hb1 hb2]
   exact ao (aC ae)
theorem DD {k:Ci}(hk:GK k) {w:Bool}{f t:Pt}(hf:GP f) (ht:GP t) {p:Pt}(hp:GP p):Ok Tryz.prog 39 [.a (([.b true]++dN++ci k++[.b w]++ay f++ay t)),.a (ay p)] [.c (.b ((Cv.arc k w f t).inner p))]:=by
 refine Ok.fn Tryz.func39 22 [.tmp 4] rfl<|aa<|ab<|ag<|aa<|ab<|al 2<|aj (ak rfl (M8 hk hf ht hp)) ?_
 refine cm (bO rfl) (fun c1 hb1=>?_)
 cases c1
 ·refine ag<|am ?_
  rw[Ma (c:=(Cv.arc k w f t)) (p:=p) hb1]
  exact ao (aC ae)
 ·refine al 1<|aj (dO (ay f) ca rfl (by kernel_rfl))<|al 1<|aj (ak rfl (Gr hf hp))<|al 2 ?_
  refine cm (bO rfl) (fun c2 hb2=>?_)
  cases c2
  ·refine ag<|am ?_
   rw[FB (c:=(Cv.arc k w f t)) (p:=p) hb1 hb2]
   exact ao (aC ae)
  ·refine al 1<|aj (dO (ay t) ca rfl (by kernel_rfl))<|al 1<|aj (ak rfl (Gr ht hp))<|ag<|am ?_
   rw[Fj (c:=(Cv.arc k w f t)) (p:=p) hb1 hb2]
   exact ao (aC ae)
theorem P5 {l:Ln}(_hl:GL l) {f t:Pt}(hf:GP f) (ht:GP t):Ok Tryz.prog 9 [.a (([.b false]++eQ l++dN++[.b false]++ay f++ay t))] [.c (.b ((Cv.seg l f t).mono))]:=by
 refine Ok.fn Tryz.func9 30 [.tmp 2] rfl<|aa<|ab<|ag<|aa<|aa<|ab<|al 1<|aj (dO (ay f) ca rfl (by kernel_rfl))<|al 1<|aj (dO (ay t) ca rfl (by kernel_rfl))<|aj (ak rfl (Ja hf ht))<|ag ?_
 refine au rfl (fun hc1=>?_) (fun hc1=>?_)
 ·refine aa<|ab<|ag<|am ?_
  rw[Fd (l:=l) hc1]
  exact ao (aC ae)
 ·refine ap<|aa<|aa<|ab<|ag<|bo rfl<|aa<|ab<|ag<|am ?_
  rw[Gq (l:=l) hc1]
  exact ao (aC ae)
theorem RS {w:Bool}{k:Ci}(hk:GK k) (h0:0<k.q) {f t:Pt}(of:OnK k f) (ot:OnK k t):Ok Tryz.prog 9 [.a (([.b true]++dN++ci k++[.b w]++ay f++ay t))] [.c (.b ((Cv.arc k w f t).mono))]:=by
 have hf:=of.1
 have ht:=ot.1
 have gL:=ws hk h0
 have gR:=xu hk h0
 refine Ok.fn Tryz.func9 30 [.tmp 2] rfl<|aa<|ab<|ag<|aa<|aa<|ab<|al 1<|aj (dO (ay f) ca rfl (by kernel_rfl))<|al 1<|aj (dO (ay t) ca rfl (by kernel_rfl))<|aj (ak rfl (Ja hf ht))<|ag ?_
 refine au rfl (fun hc1=>?_) (fun hc1=>?_)
 ·refine aa<|ab<|ag<|am ?_
  rw[GQ (k:=k) (w:=w) hc1]
  exact ao (aC ae)
 ·refine ap<|aa<|aa<|ab<|ag<|ba rfl<|ap<|aa<|ab<|al 1<|aj (dO (ci k) ou rfl (by kernel_rfl))<|aj (ak rfl (RL hk h0))<|al 3<|aw (ah hJ rfl) rfl ?_
  refine aw (ah hJ rfl) rfl<|ag<|aa<|ab<|al 2<|aj (ak rfl (zI hk h0 of ot gL))<|al 1 ?_
  refine cm (bO rfl) (fun c2 hb2=>?_)
  cases c2
  ·refine ag<|am ?_
   rw[Dt hc1 hb2]
   exact ao (aC ae)
  ·refine al 2<|aj (ak rfl (zI hk h0 of ot gR))<|ag<|am ?_
   rw[BX hc1 hb2]
   exact ao (aC ae)
theorem Rn {l:Ln}(_hl:GL l) {f t:Pt}(hf:GP f) (ht:GP t):Ok Tryz.prog 10 [.a (([.b false]++eQ l++dN++[.b false]++ay f++ay t))] [.c (.b ((Cv.seg l f t).mono))]:=by
 refine Ok.fn Tryz.func10 30 [.tmp 2] rfl<|aa<|ab<|ag<|aa<|aa<|ab<|al 1<|aj (dO (ay f) ca rfl (by kernel_rfl))<|al 1<|aj (dO (ay t) ca rfl (by kernel_rfl))<|aj (ak rfl (nF hf ht))<|ag ?_
 refine au rfl (fun hc1=>?_) (fun hc1=>?_)
 ·refine aa<|ab<|ag<|am ?_
  rw[Fd (l:=l) hc1]
  exact ao (aC ae)
 ·refine ap<|aa<|aa<|ab<|ag<|bo rfl<|aa<|ab<|ag<|am ?_
  rw[Gq (l:=l) hc1]
  exact ao (aC ae)
theorem Q0 {w:Bool}{k:Ci}(hk:GK k) (h0:0<k.q) {f t:Pt}(of:OnK k f) (ot:OnK k t):Ok Tryz.prog 10 [.a (([.b true]++dN++ci k++[.b w]++ay f++ay t))] [.c (.b ((Cv.arc k w f t).mono))]:=by
 have hf:=of.1
 have ht:=ot.1
 have gL:=ws hk h0
 have gR:=xu hk h0
 refine Ok.fn Tryz.func10 30 [.tmp 2] rfl<|aa<|ab<|ag<|aa<|aa<|ab<|al 1<|aj (dO (ay f) ca rfl (by kernel_rfl))<|al 1<|aj (dO (ay t) ca rfl (by kernel_rfl))<|aj (ak rfl (nF hf ht))<|ag ?_
 refine au rfl (fun hc1=>?_) (fun hc1=>?_)
 ·refine aa<|ab<|ag<|am ?_
  rw[GQ (k:=k) (w:=w) hc1]
  exact ao (aC ae)
 ·refine ap<|aa<|aa<|ab<|ag<|ba rfl<|ap<|aa<|ab<|al 1<|aj (dO (ci k) ou rfl (by kernel_rfl))<|aj (ak rfl (MB hk))<|al 3<|aw (ah hJ rfl) rfl ?_
  refine aw (ah hJ rfl) rfl<|ag<|aa<|ab<|al 2<|aj (ak rfl (DD hk hf ht gL))<|al 1 ?_
  refine cm (bO rfl) (fun c2 hb2=>?_)
  cases c2
  ·refine ag<|am ?_
   rw[Dt hc1 hb2]
   exact ao (aC ae)
  ·refine al 2<|aj (ak rfl (DD hk hf ht gR))<|ag<|am ?_
   rw[BX hc1 hb2]
   exact ao (aC ae)
theorem LG {l:Ln}(_hl:GL l) {f t:Pt}(hf:GP f) (ht:GP t):Ok Tryz.prog 11 [.a (([.b false]++eQ l++dN++[.b false]++ay f++ay t))] [.c (.b ((Cv.seg l f t).vert))]:=by
 refine Ok.fn Tryz.func11 15 [.tmp 2] rfl<|aa<|ab<|ag<|aa<|aM 13 rfl rfl<|an 5<|ai (dO (ay f) ca rfl (by kernel_rfl))<|ai (ak rfl (oJ))<|an 1<|ai (dO (ay t) ca rfl (by kernel_rfl))<|ai (ak rfl (oJ))<|ai (ak rfl (Uc hf ht))<|bJ ?_
 refine ar<|aq<|am ?_
 exact ao (aC ae)
theorem Ls {k:Ci}(_hk:GK k) {w:Bool}{f t:Pt}(_hf:GP f) (_ht:GP t):Ok Tryz.prog 11 [.a (([.b true]++dN++ci k++[.b w]++ay f++ay t))] [.c (.b ((Cv.arc k w f t).vert))]:=by
 refine Ok.fn Tryz.func11 15 [.tmp 2] rfl<|aa<|ab<|ag<|aa<|aM 13 rfl rfl<|bJ<|ar<|aq<|am ?_
 exact ao (aC ae)
theorem Ub {p q:Pt}(hp:GP p) (hq:GP q):Ok Tryz.prog 42 [.a ((cR p.a1++cR p.b1++cR (zc p.b1 p.c))),.a ((cR q.a1++cR q.b1++cR (zc q.b1 q.c)))] [.c (.b (cx p q==0))]:=by
 refine Ok.fn Tryz.func42 9 [.tmp 4] rfl<|aa<|ab<|ag<|aa<|ab<|al 2<|aj (ak rfl (SQ hp hq))<|ag<|am ?_
 exact ao (aC ae)
theorem K1 {l:Ln}(_hl:GL l) {f t:Pt}(hf:GP f) (ht:GP t):Ok Tryz.prog 12 [.a (([.b false]++eQ l++dN++[.b false]++ay f++ay t))] [.c (.b ((Cv.seg l f t).vert))]:=by
 refine Ok.fn Tryz.func12 15 [.tmp 2] rfl<|aa<|ab<|ag<|aa<|aM 13 rfl rfl<|an 5<|ai (dO (ay f) ca rfl (by kernel_rfl))<|ai (ak rfl (nI))<|an 1<|ai (dO (ay t) ca rfl (by kernel_rfl))<|ai (ak rfl (nI))<|ai (ak rfl (Ub hf ht))<|bJ ?_
 refine ar<|aq<|am ?_
 exact ao (aC ae)
theorem K6 {k:Ci}(_hk:GK k) {w:Bool}{f t:Pt}(_hf:GP f) (_ht:GP t):Ok Tryz.prog 12 [.a (([.b true]++dN++ci k++[.b w]++ay f++ay t))] [.c (.b ((Cv.arc k w f t).vert))]:=by
 refine Ok.fn Tryz.func12 15 [.tmp 2] rfl<|aa<|ab<|ag<|aa<|aM 13 rfl rfl<|bJ<|ar<|aq<|am ?_
 exact ao (aC ae)
theorem R3 {c:Cv}(hc:CvV c):Ok Tryz.prog 9 [.a (bc c)] [.c (.b c.mono)]:=by
 cases c with
 |seg l f t=>exact P5 hc.g.1 hc.g.2.1 hc.g.2.2
 |arc k w f t=>exact RS hc.g.1 hc.pos ⟨hc.g.2.1,gf.1 hc.sp⟩ ⟨hc.g.2.2,gf.1 hc.sq⟩
theorem Rr {c:Cv}(hc:CvV c):Ok Tryz.prog 10 [.a (bc c)] [.c (.b c.mono)]:=by
 cases c with
 |seg l f t=>exact Rn hc.g.1 hc.g.2.1 hc.g.2.2
 |arc k w f t=>exact Q0 hc.g.1 hc.pos ⟨hc.g.2.1,gf.1 hc.sp⟩ ⟨hc.g.2.2,gf.1 hc.sq⟩
theorem HD {c:Cv}(hc:CvV c):Ok Tryz.prog 11 [.a (bc c)] [.c (.b c.vert)]:=by
 cases c with
 |seg l f t=>exact LG hc.g.1 hc.g.2.1 hc.g.2.2
 |arc k w f t=>exact Ls hc.g.1 hc.g.2.1 hc.g.2.2
theorem Hq {c:Cv}(hc:CvV c):Ok Tryz.prog 12 [.a (bc c)] [.c (.b c.vert)]:=by
 cases c with
 |seg l f t=>exact K1 hc.g.1 hc.g.2.1 hc.g.2.2
 |arc k w f t=>exact K6 hc.g.1 hc.g.2.1 hc.g.2.2
theorem NM {c:Cv}(hc:CvV c):Ok Tryz.prog 8 [.a (bc c)] [.a (bc c.rev)]:=by
 cases c with
 |seg l f t=>exact Iy hc.g.1 hc.g.2.1 hc.g.2.2
 |arc k w f t=>exact IG hc.g.1 hc.g.2.1 hc.g.2.2
theorem Bp {K U A B C D E F K' U' A' B' C' D' E' F' N:Int}(_hN:0≤N∧N≤255) {A0 Bl:List Cv}(hO1:Ok Tryz.prog 21 [.a (([.i .u8 K]++[.i .u8 U]++[.i .i8 A]++[.i .i8 B]++[.i .i8 C]++[.i .i8 D]++[.i .i8 E]++[.i .i8 F]))] [.c (.s ((A0).length) (bg bc (A0)))]) (hO2:Ok Tryz.prog 21 [.a (([.i .u8 K']++[.i .u8 U']++[.i .i8 A']++[.i .i8 B']++[.i .i8 C']++[.i .i8 D']++[.i .i8 E']++[.i .i8 F']))] [.c (.s ((Bl).length) (bg bc (Bl)))]) (h0:A0=[]):Ok Tryz.prog 6 [.a ((([.i .u8 K]++[.i .u8 U]++[.i .i8 A]++[.i .i8 B]++[.i .i8 C]++[.i .i8 D]++[.i .i8 E]++[.i .i8 F])++([.i .u8 K']++[.i .u8 U']++[.i .i8 A']++[.i .i8 B']++[.i .i8 C']++[.i .i8 D']++[.i .i8 E']++[.i .i8 F'])++[.i .u8 N]))] [.a (([.b false]++dN++dN++[.b false]++oy++oy)),.c (.b false)]:=by
 refine Ok.fn Tryz.func6 59 [.cell 2 39,.tmp 3] rfl<|aa<|ab<|al 1<|aw (ah gz rfl) rfl<|ag<|aa<|aM 8 rfl rfl<|an 1<|ai (aA (([.i .u8 K]++[.i .u8 U]++[.i .i8 A]++[.i .i8 B]++[.i .i8 C]++[.i .i8 D]++[.i .i8 E]++[.i .i8 F])) LC rfl)<|ai (ak rfl (hO1))<|an 1<|ai (aA (([.i .u8 K']++[.i .u8 U']++[.i .i8 A']++[.i .i8 B']++[.i .i8 C']++[.i .i8 D']++[.i .i8 E']++[.i .i8 F'])) LC rfl)<|ai (ak rfl (hO2)) ?_
 refine bJ<|ar<|aq<|aa<|aa<|ab<|al 2<|aj (dh (c:=true) (o6 rfl) (by rw[h0];rfl)) ?_
 refine aq<|bo rfl<|aa<|ab<|aj (aD (us:=([.b false]++dN++dN++[.b false]++oy++oy)) Bn gz rfl rfl rfl) ?_
 refine ag<|am ?_
 exact ao (eG (us:=([.b false]++dN++dN++[.b false]++oy++oy)) dF rfl rfl (by kernel_rfl) (by kernel_rfl) (aC ae))
theorem IK {K U A B C D E F K' U' A' B' C' D' E' F' N:Int}(hN:0≤N∧N≤255) {A0 Bl:List Cv}(hO1:Ok Tryz.prog 21 [.a (([.i .u8 K]++[.i .u8 U]++[.i .i8 A]++[.i .i8 B]++[.i .i8 C]++[.i .i8 D]++[.i .i8 E]++[.i .i8 F]))] [.c (.s ((A0).length) (bg bc (A0)))]) (hO2:Ok Tryz.prog 21 [.a (([.i .u8 K']++[.i .u8 U']++[.i .i8 A']++[.i .i8 B']++[.i .i8 C']++[.i .i8 D']++[.i .i8 E']++[.i .i8 F']))] [.c (.s ((Bl).length) (bg bc (Bl)))]) (hg:CvG (A0.getD 0 fP)) (h0:0<A0.length) (hB: ∀d∈Bl,d.good) (lB:Bl.length≤2):Ok Tryz.prog 6 [.a ((([.i .u8 K]++[.i .u8 U]++[.i .i8 A]++[.i .i8 B]++[.i .i8 C]++[.i .i8 D]++[.i .i8 E]++[.i .i8 F])++([.i .u8 K']++[.i .u8 U']++[.i .i8 A']++[.i .i8 B']++[.i .i8 C']++[.i .i8 D']++[.i .i8 E']++[.i .i8 F'])++[.i .u8 N]))] [.a (bc (((rD A0 Bl).getD (N.toNat%(rD A0 Bl).length) fP))),.c (.b true)]:=by
 have hA0:=h0
 have hpos:=xO (A0:=A0) (Bl:=Bl) hg.ne
 obtain⟨ix,eix⟩: ∃ix,ix=N.toNat%(rD A0 Bl).length:=⟨_,rfl⟩
 have hix:ix<(rD A0 Bl).length:=by rw[eix];exact Nat.mod_lt _ hpos
 have hCU: ∀p∈(dP (A0.getD 0 fP) Bl),GP p∧_:=sm hg.g hB
 have e1P:(rD A0 Bl).length=(oY (A0.getD 0 fP) (dP (A0.getD 0 fP) Bl)).length:=rfl
 refine Ok.fn Tryz.func6 59 [.cell 2 39,.tmp 3] rfl<|aa<|ab<|al 1<|aw (ah gz rfl) rfl<|ag<|aa<|aM 8 rfl rfl<|an 1<|ai (aA (([.i .u8 K]++[.i .u8 U]++[.i .i8 A]++[.i .i8 B]++[.i .i8 C]++[.i .i8 D]++[.i .i8 E]++[.i .i8 F])) LC rfl)<|ai (ak rfl (hO1))<|an 1<|ai (aA (([.i .u8 K']++[.i .u8 U']++[.i .i8 A']++[.i .i8 B']++[.i .i8 C']++[.i .i8 D']++[.i .i8 E']++[.i .i8 F'])) LC rfl)<|ai (ak rfl (hO2)) ?_
 refine bJ<|ar<|aq<|aa<|aa<|ab<|al 2<|aj (dh (c:=false) (o6 rfl) (by simpa using Nat.ne_of_gt h0)) ?_
 refine aq<|ba rfl<|ap<|aa<|ab<|aj (mm rfl) ?_
 refine aq ?_
 refine kw (ι:=Unit) (fun i=>⟨59,[(1,.p 1 0),(2,.p 2 0),(4,.v (.c (.s ((A0).length) (bg bc (A0))))),(5,.v (.c (.s ((Bl).length) (bg bc (Bl))))),(6,.v (.c (.s (((dP (A0.getD 0 fP) Bl)).length) (bg ay ((dP (A0.getD 0 fP) Bl))))))],[(1,26,(([.i .u8 K]++[.i .u8 U]++[.i .i8 A]++[.i .i8 B]++[.i .i8 C]++[.i .i8 D]++[.i .i8 E]++[.i .i8 F])++([.i .u8 K']++[.i .u8 U']++[.i .i8 A']++[.i .i8 B']++[.i .i8 C']++[.i .i8 D']++[.i .i8 E']++[.i .i8 F'])++[.i .u8 N])),(2,39,([.b false]++dN++dN++[.b false]++oy++oy))]⟩) ?_ ?_
 ·refine aa<|ab<|ag<|aX ?_
  refine cZ (ι:=Sum ({n:Nat // n≤Bl.length∧(dP (A0.getD 0 fP) (Bl.take n))=[]}) ({x9:Nat×Nat×List CellD // x9.1≤Bl.length∧(dP (A0.getD 0 fP) (Bl.take x9.1)).length≤x9.2.1∧x9.2.1≤maxLen∧x9.2.2.length=(x9.2.1-(dP (A0.getD 0 fP) (Bl.take x9.1)).length)*20})) (fun i=>match i with| .inl i=>⟨59,[(1,.p 1 0),(2,.p 2 0),(4,.v (.c (.s ((A0).length) (bg bc (A0))))),(5,.v (.c (.s ((Bl).length) (bg bc (Bl))))),(6,.z),(7,.v (.c (.i .i64 (i.1:Int))))],[(1,26,(([.i .u8 K]++[.i .u8 U]++[.i .i8 A]++[.i .i8 B]++[.i .i8 C]++[.i .i8 D]++[.i .i8 E]++[.i .i8 F])++([.i .u8 K']++[.i .u8 U']++[.i .i8 A']++[.i .i8 B']++[.i .i8 C']++[.i .i8 D']++[.i .i8 E']++[.i .i8 F'])++[.i .u8 N])),(2,39,([.b false]++dN++dN++[.b false]++oy++oy))]⟩| .inr i=>⟨59,[(1,.p 1 0),(2,.p 2 0),(4,.v (.c (.s ((A0).length) (bg bc (A0))))),(5,.v (.c (.s ((Bl).length) (bg bc (Bl))))),(6,.o 41 ((dP (A0.getD 0 fP) (Bl.take i.1.1)).length) i.1.2.1),(7,.v (.c (.i .i64 (i.1.1:Int))))],[(1,26,(([.i .u8 K]++[.i .u8 U]++[.i .i8 A]++[.i .i8 B]++[.i .i8 C]++[.i .i8 D]++[.i .i8 E]++[.i .i8 F])++([.i .u8 K']++[.i .u8 U']++[.i .i8 A']++[.i .i8 B']++[.i .i8 C']++[.i .i8 D']++[.i .i8 E']++[.i .i8 F'])++[.i .u8 N])),(2,39,([.b false]++dN++dN++[.b false]++oy++oy)),(41,37,bg ay (dP (A0.getD 0 fP) (Bl.take i.1.1))++i.1.2.2)]⟩) (fun i=>match i with| .inl i=>Bl.length-i.1| .inr i=>Bl.length-i.1.1) (.inl ⟨0,Nat.zero_le _,rfl⟩) (aR ⟨rfl,rfl,rfl,rfl,rfl,rfl,trivial⟩ ⟨rfl,rfl,trivial⟩ rfl) ?_
  rintro(⟨n,h2,h3⟩|⟨⟨n,c,rs⟩,h2,h3,h4,h5⟩)
  ·replace h2:n≤Bl.length:=h2
   replace h3:(dP (A0.getD 0 fP) (Bl.take n))=[]:=h3
   show Dw _ _ ⟨59,[(1,.p 1 0),(2,.p 2 0),(4,.v (.c (.s ((A0).length) (bg bc (A0))))),(5,.v (.c (.s ((Bl).length) (bg bc (Bl))))),(6,.z),(7,.v (.c (.i .i64 (n:Int))))],[(1,26,(([.i .u8 K]++[.i .u8 U]++[.i .i8 A]++[.i .i8 B]++[.i .i8 C]++[.i .i8 D]++[.i .i8 E]++[.i .i8 F])++([.i .u8 K']++[.i .u8 U']++[.i .i8 A']++[.i .i8 B']++[.i .i8 C']++[.i .i8 D']++[.i .i8 E']++[.i .i8 F'])++[.i .u8 N])),(2,39,([.b false]++dN++dN++[.b false]++oy++oy))]⟩ _
   refine aa<|aa<|ab<|ag ?_
   refine au rfl (fun hc1=>?_) (fun hc1=>?_)
   ·have g1:n<Bl.length:=by have:=of_decide_eq_true hc1;omega
    refine ap<|aa<|aX<|aa<|aM 13 rfl rfl<|an 1<|ai (a8 (us:=bc (A0.getD 0 fP)++bg bc (A0.drop (0+1))) yP rfl rfl (by omega) (aY aE _) (cD aE (b8 hA0)) rfl) ?_
    refine ai (bQ (us:=bc (A0.getD 0 fP)) dF rfl (gU _ _) (aE _) rfl) ?_
    refine an 2<|ai (a8 (us:=bc (Bl.getD n fP)++bg bc (Bl.drop (n+1))) yP rfl rfl (by omega) (aY aE _) (cD aE (b8 g1)) rfl) ?_
    refine ai (bQ (us:=bc (Bl.getD n fP)) dF rfl (gU _ _) (aE _) rfl) ?_
    refine ai (ak rfl (Cl hg.g (hB _ (jP g1))))<|bJ<|ar<|aq ?_
    rcases Nat.eq_zero_or_pos (cT (A0.getD 0 fP) (Bl.getD n fP)).length with hq0|hq0
    ·--region 9
     refine ab<|al 2<|aj (uo iF rfl rfl hq0 rfl) ?_
     refine ag<|ab<|al 1<|aj (aG (r:=((n+1:Nat):Int)) rfl rfl ((aW (by omega) (by omega)).trans (congrArg some (by omega))) rfl) ?_
     refine ag ?_
     exact⟨.inl ⟨n+1,g1,by rw[ip g1,h3,List.nil_append];exact List.length_eq_zero_iff.1 hq0⟩,aR ⟨rfl,rfl,rfl,rfl,rfl,rfl,trivial⟩ ⟨rfl,rfl,trivial⟩ rfl,by show Bl.length-(n+1)<Bl.length-n;omega⟩
    ·--region 9
     refine ab<|al 2 ?_
     refine DG (q:=(cT (A0.getD 0 fP) (Bl.getD n fP)).length) (ys:=bg ay ((cT (A0.getD 0 fP) (Bl.getD n fP)))) (zs':=bg ay (cT (A0.getD 0 fP) (Bl.getD n fP))) iF rfl rfl (aY aN _) (hq0) (by have:=kW (a:=(A0.getD 0 fP)) (c:=(Bl.getD n fP));omega) (pq (by have:=kW (a:=(A0.getD 0 fP)) (c:=(Bl.getD n fP));omega)) rfl (rfl) rfl (fun cg2 rg2 hga2 hgb2 hgc2=>?_)
     refine ag<|ab<|al 1<|aj (aG (r:=((n+1:Nat):Int)) rfl rfl ((aW (by omega) (by omega)).trans (congrArg some (by omega))) rfl) ?_
     refine ag ?_
     exact⟨.inr ⟨⟨n+1,cg2,rg2⟩,g1,by show(dP (A0.getD 0 fP) (Bl.take (n+1))).length≤cg2;rw[ip g1,h3];exact hga2,hgb2,by show rg2.length=(cg2-(dP (A0.getD 0 fP) (Bl.take (n+1))).length)*20;rw[ip g1,h3];exact hgc2⟩,aR ⟨rfl,rfl,rfl,rfl,congrArg (fun q=>some (DV.o 41 q cg2)) (by rw[ip g1,h3];rfl),rfl,trivial⟩ ⟨rfl,rfl,congrArg (fun q=>some (37,bg ay q++rg2)) (by rw[ip g1,h3];rfl),trivial⟩ rfl,by show Bl.length-(n+1)<Bl.length-n;omega⟩
   ·have m1:[]=(dP (A0.getD 0 fP) Bl):=by rw[←h3,List.take_of_length_le (by have:=of_decide_eq_false hc1;omega)]
    refine Jc (t:=6) rfl<|cq ?_
    exact⟨(),aR ⟨rfl,rfl,rfl,rfl,congrArg (fun q=>some (DV.v (.c (.s (List.length q) (bg ay q))))) (show([]:List Pt)=(dP (A0.getD 0 fP) Bl) from m1),trivial⟩ ⟨rfl,rfl,trivial⟩ rfl⟩
  ·dsimp only at h2 h3 h4 h5
   have h6:(dP (A0.getD 0 fP) (Bl.take n)).length≤8:=Nat.le_trans sQ (by rw[List.length_take];omega)
   show Dw _ _ ⟨59,[(1,.p 1 0),(2,.p 2 0),(4,.v (.c (.s ((A0).length) (bg bc (A0))))),(5,.v (.c (.s ((Bl).length) (bg bc (Bl))))),(6,.o 41 ((dP (A0.getD 0 fP) (Bl.take n)).length) c),(7,.v (.c (.i .i64 (n:Int))))],[(1,26,(([.i .u8 K]++[.i .u8 U]++[.i .i8 A]++[.i .i8 B]++[.i .i8 C]++[.i .i8 D]++[.i .i8 E]++[.i .i8 F])++([.i .u8 K']++[.i .u8 U']++[.i .i8 A']++[.i .i8 B']++[.i .i8 C']++[.i .i8 D']++[.i .i8 E']++[.i .i8 F'])++[.i .u8 N])),(2,39,([.b false]++dN++dN++[.b false]++oy++oy)),(41,37,bg ay (dP (A0.getD 0 fP) (Bl.take n))++rs)]⟩ _
   refine aa<|aa<|ab<|ag ?_
   refine au rfl (fun hc3=>?_) (fun hc3=>?_)
   ·have g1:n<Bl.length:=by have:=of_decide_eq_true hc3;omega
    have h7:=kW (a:=(A0.getD 0 fP)) (c:=(Bl.getD n fP))
    refine ap<|aa<|aX<|aa<|aM 13 rfl rfl<|an 1<|ai (a8 (us:=bc (A0.getD 0 fP)++bg bc (A0.drop (0+1))) yP rfl rfl (by omega) (aY aE _) (cD aE (b8 hA0)) rfl) ?_
    refine ai (bQ (us:=bc (A0.getD 0 fP)) dF rfl (gU _ _) (aE _) rfl) ?_
    refine an 2<|ai (a8 (us:=bc (Bl.getD n fP)++bg bc (Bl.drop (n+1))) yP rfl rfl (by omega) (aY aE _) (cD aE (b8 g1)) rfl) ?_
    refine ai (bQ (us:=bc (Bl.getD n fP)) dF rfl (gU _ _) (aE _) rfl) ?_
    refine ai (ak rfl (Cl hg.g (hB _ (jP g1))))<|bJ<|ar<|aq<|ab<|al 2 ?_
    refine EU (n:=(dP (A0.getD 0 fP) (Bl.take n)).length) (c:=c) (q:=((cT (A0.getD 0 fP) (Bl.getD n fP))).length) (us:=bg ay (dP (A0.getD 0 fP) (Bl.take n))) (rest:=rs) (N':=(dP (A0.getD 0 fP) (Bl.take n)).length+(cT (A0.getD 0 fP) (Bl.getD n fP)).length) (zs':=bg ay (dP (A0.getD 0 fP) (Bl.take n))++bg ay (cT (A0.getD 0 fP) (Bl.getD n fP))) iF rfl rfl rfl (rfl) (aY aN _) (h5) (aY aN _) (by decide) (by omega) (by assumption) (by omega) (pq (by omega)) (.inl rfl) (rfl) (rfl) rfl (fun cg4 rg4 hga4 hgb4 hgc4=>?_)
    refine ag<|ab<|al 1<|aj (aG (r:=((n+1:Nat):Int)) rfl rfl ((aW (by omega) (by omega)).trans (congrArg some (by omega))) rfl) ?_
    refine ag ?_
    exact⟨.inr ⟨⟨n+1,cg4,rg4⟩,g1,by show(dP (A0.getD 0 fP) (Bl.take (n+1))).length≤cg4;rw[ip g1,List.length_append];exact hga4,hgb4,by show rg4.length=(cg4-(dP (A0.getD 0 fP) (Bl.take (n+1))).length)*20;rw[ip g1,List.length_append];exact hgc4⟩,aR ⟨rfl,rfl,rfl,rfl,congrArg (fun q=>some (DV.o 41 q cg4)) (by rw[ip g1,List.length_append]),rfl,trivial⟩ ⟨rfl,rfl,congrArg (fun q=>some (37,q++rg4)) (by rw[ip g1,i7]),trivial⟩ rfl,by show Bl.length-(n+1)<Bl.length-n;omega⟩
   ·have m1:(dP (A0.getD 0 fP) (Bl.take n))=(dP (A0.getD 0 fP) Bl):=by rw[List.take_of_length_le (by have:=of_decide_eq_false hc3;omega)]
    refine f5 (t:=6) (m:=20) (us:=bg ay (dP (A0.getD 0 fP) (Bl.take n))) rfl rfl (sU (n:=(dP (A0.getD 0 fP) (Bl.take n)).length) (aY aN _) (by assumption) (by omega)) (by omega) (by assumption) (oQ (aY aN _))<|cq ?_
    exact⟨(),aR ⟨rfl,rfl,rfl,rfl,congrArg (fun q=>some (DV.v (.c (.s (List.length q) (bg ay q))))) m1,trivial⟩ ⟨rfl,rfl,trivial⟩ rfl⟩
 ·rintro⟨⟩
  show Dw _ _ ⟨59,[(1,.p 1 0),(2,.p 2 0),(4,.v (.c (.s ((A0).length) (bg bc (A0))))),(5,.v (.c (.s ((Bl).length) (bg bc (Bl))))),(6,.v (.c (.s (((dP (A0.getD 0 fP) Bl)).length) (bg ay ((dP (A0.getD 0 fP) Bl))))))],[(1,26,(([.i .u8 K]++[.i .u8 U]++[.i .i8 A]++[.i .i8 B]++[.i .i8 C]++[.i .i8 D]++[.i .i8 E]++[.i .i8 F])++([.i .u8 K']++[.i .u8 U']++[.i .i8 A']++[.i .i8 B']++[.i .i8 C']++[.i .i8 D']++[.i .i8 E']++[.i .i8 F'])++[.i .u8 N])),(2,39,([.b false]++dN++dN++[.b false]++oy++oy))]⟩ _
  refine aa<|ab<|al 1<|aj (a8 (us:=bc (A0.getD 0 fP)++bg bc (A0.drop (0+1))) yP rfl rfl (by omega) (aY aE _) (cD aE (b8 hA0)) rfl) ?_
  refine aj (bQ (us:=bc (A0.getD 0 fP)) dF rfl (gU _ _) (aE _) rfl) ?_
  refine al 1<|aj (ak rfl (F6 hg.g (fun p hp=>(hCU p hp).1) (Nat.le_trans sQ (by omega)) (fun p hp=>(hCU p hp).2) (uQ hg.ne)))<|ag<|aa<|ab<|al 3<|aj (bN (r:=N) Rt Tt rfl (lU (by omega) (by omega)) rfl) ?_
  refine al 2<|aj (dM (r:=(ix:Int)) rfl rfl (by omega) (by rw[eix,Int.tmod_eq_emod_of_nonneg hN.1,Int.natCast_emod,Int.toNat_of_nonneg hN.1];rfl) rfl) ?_
  refine aj (a8 (us:=bc ((rD A0 Bl).getD ix fP)++bg bc ((rD A0 Bl).drop (ix+1))) yP rfl rfl (by omega) (aY aE _) (cD aE (b8 hix)) rfl) ?_
  refine aj (bQ (us:=bc (((rD A0 Bl).getD ix fP))) dF rfl (gU _ _) (aE _) rfl) ?_
  refine dm (du dF rfl rfl rfl (aE _) rfl rfl) ?_
  refine ag<|am ?_
  rw[←eix]
  exact ao (eG (us:=bc (((rD A0 Bl).getD ix fP))) dF rfl rfl (cW _) (aE _) (aC ae))
end Go.Proofs.YtacopbfkmnpfgaaGreat
