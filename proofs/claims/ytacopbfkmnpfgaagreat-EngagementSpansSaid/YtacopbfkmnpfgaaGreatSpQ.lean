/-The curves of a draft:the reference. -/
import Derived.Test.YtacopbfkmnpfgaaGreatSpP
namespace Go.Proofs.YtacopbfkmnpfgaaGreat
open Go Go.RowKit
theorem Js {a b c d:Rat}(ha:Rz 1 a) (hb:Rz 1 b) (hc:Rz 1 c) (hd:Rz 1 d) (hn:b-d=0∧c-a=0):Ok Tryz.prog 80 [.a ((cR a++cR b)),.a ((cR c++cR d))] [.a (d8),.c (.i .i64 6)]:=by
 refine Ok.fn Tryz.func80 42 [.cell 4 33,.tmp 5] rfl<|aa<|ab<|am 2<|az (ah qd rfl) rfl<|ai<|aa<|aN 12 rfl rfl<|an 1<|ag (aw (cR b) au rfl)<|an 1<|ag (aw (cR d) au rfl)<|ag (aj rfl (dC (aO hb) (aO hd)))<|an 1 ?_
 refine ag (aw (cR c) au rfl)<|an 1<|ag (aw (cR a) au rfl)<|ag (aj rfl (dC (aO hc) (aO ha)))<|ag (aD (us:=(cR (b-d)++cR (c-a)++GF)) GY qd rfl rfl rfl) ?_
 refine ba (ah qd rfl) rfl<|aR<|bg<|ai<|aa<|aa<|ab<|am 1<|ak (aw (cR (b-d)) au rfl)<|ak (aj rfl (bV))<|am 1 ?_
 refine dh (ca rfl) (fun c1 hb1=>?_)
 cases c1
 ·exact absurd hb1 (by simp[gB.2 hn.1])
 ·refine am 1<|ak (aw (cR (c-a)) au rfl)<|ak (aj rfl (bV))<|ai ?_
  refine ay rfl (fun hc2=>?_) (fun hc2=>?_)
  ·refine aa<|ab<|ak (aD (us:=d8) GY qd rfl rfl rfl) ?_
   refine ai<|al ?_
   exact ao (bh rM rfl (aC ae))
  ·exact absurd hc2 (by simp[gB.2 hn.2])
theorem N9 {a b c d:Rat}(ha:Rz 1 a) (hb:Rz 1 b) (hc:Rz 1 c) (hd:Rz 1 d) (hn: ¬(b-d=0∧c-a=0)):Ok Tryz.prog 80 [.a ((cR a++cR b)),.a ((cR c++cR d))] [.a ((cR (b-d)++cR (c-a)++cR ((b-d)*a+(c-a)*b))),.c (.i .i64 0)]:=by
 refine Ok.fn Tryz.func80 42 [.cell 4 33,.tmp 5] rfl<|aa<|ab<|am 2<|az (ah qd rfl) rfl<|ai<|aa<|aN 12 rfl rfl<|an 1<|ag (aw (cR b) au rfl)<|an 1<|ag (aw (cR d) au rfl)<|ag (aj rfl (dC (aO hb) (aO hd)))<|an 1 ?_
 refine ag (aw (cR c) au rfl)<|an 1<|ag (aw (cR a) au rfl)<|ag (aj rfl (dC (aO hc) (aO ha)))<|ag (aD (us:=(cR (b-d)++cR (c-a)++GF)) GY qd rfl rfl rfl) ?_
 refine ba (ah qd rfl) rfl<|aR<|bg<|ai<|aa<|aa<|ab<|am 1<|ak (aw (cR (b-d)) au rfl)<|ak (aj rfl (bV))<|am 1 ?_
 refine dh (ca rfl) (fun c1 hb1=>?_)
 cases c1
 ·refine ai<|bj rfl<|aq<|aa<|aN 12 rfl rfl<|an 1<|ag (aw (cR (b-d)) au rfl)<|an 1<|ag (aw (cR a) au rfl)<|ag (aj rfl (bQ (aO (Rz.sub hb hd)) (aO ha)))<|an 1<|ag (aw (cR (c-a)) au rfl)<|an 1<|ag (aw (cR b) au rfl) ?_
  refine ag (aj rfl (bQ (aO (Rz.sub hc ha)) (aO hb)))<|ag (aj rfl (fx (aO (Rz.mul (Rz.sub hb hd) ha)) (aO (Rz.mul (Rz.sub hc ha) hb))))<|bK<|ar<|dd (bn (us:=(cR (b-d)++cR (c-a)++cR (((b-d)*a)+((c-a)*b)))) au rfl rfl rfl rfl (Nat.le_of_ble_eq_true rfl) rfl rfl) ?_
  refine ap<|aa<|ab<|ai<|al ?_
  exact ao (bh rM rfl (aC ae))
 ·refine am 1<|ak (aw (cR (c-a)) au rfl)<|ak (aj rfl (bV))<|ai ?_
  refine ay rfl (fun hc2=>?_) (fun hc2=>?_)
  ·exact absurd ⟨gB.1 (by simpa using hb1),gB.1 (by simpa using hc2)⟩ hn
  ·refine aq<|aa<|aN 12 rfl rfl<|an 1<|ag (aw (cR (b-d)) au rfl)<|an 1<|ag (aw (cR a) au rfl)<|ag (aj rfl (bQ (aO (Rz.sub hb hd)) (aO ha)))<|an 1<|ag (aw (cR (c-a)) au rfl)<|an 1<|ag (aw (cR b) au rfl)<|ag (aj rfl (bQ (aO (Rz.sub hc ha)) (aO hb)))<|ag (aj rfl (fx (aO (Rz.mul (Rz.sub hb hd) ha)) (aO (Rz.mul (Rz.sub hc ha) hb)))) ?_
   refine bK<|ar<|dd (bn (us:=(cR (b-d)++cR (c-a)++cR (((b-d)*a)+((c-a)*b)))) au rfl rfl rfl rfl (Nat.le_of_ble_eq_true rfl) rfl rfl) ?_
   refine ap<|aa<|ab<|ai<|al ?_
   exact ao (bh rM rfl (aC ae))
theorem uo {a b c d:Rat}(ha:Rz 1 a) (hb:Rz 1 b) (hc:Rz 1 c) (hd:Rz 1 d) (hn:b-d=0∧c-a=0):Ok Tryz.prog 26 [.a ((cR a++cR b)),.a ((cR c++cR d))] [.a (([.b false]++d8++d8++[.b false]++nc++nc)),.c (.i .i64 6)]:=by
 refine Ok.fn Tryz.func26 23 [.cell 4 39,.tmp 5] rfl<|aa<|ab<|am 2<|az (ah iK rfl) rfl<|ai<|aa<|ab<|am 2<|ak (aj rfl (Js ha hb hc hd hn))<|am 3<|az (ah qd rfl) rfl<|ai<|aa ?_
 refine aa<|ab<|ai<|bP rfl<|aa<|ab<|ak (aD (us:=([.b false]++d8++d8++[.b false]++nc++nc)) y6 iK rfl rfl rfl) ?_
 refine ai<|al ?_
 exact ao (fA (us:=([.b false]++d8++d8++[.b false]++nc++nc)) er rfl rfl (by kernel_rfl) (by kernel_rfl) (aC ae))
theorem Fw {a b c d:Rat}(ha:Rz 1 a) (hb:Rz 1 b) (hc:Rz 1 c) (hd:Rz 1 d) (hn: ¬(b-d=0∧c-a=0)):Ok Tryz.prog 26 [.a ((cR a++cR b)),.a ((cR c++cR d))] [.a (([.b false]++eK (HD a b c d)++d8++[.b false]++aA (rP a b)++aA (rP c d))),.c (.i .i64 0)]:=by
 refine Ok.fn Tryz.func26 23 [.cell 4 39,.tmp 5] rfl<|aa<|ab<|am 2<|az (ah iK rfl) rfl<|ai<|aa<|ab<|am 2<|ak (aj rfl (N9 ha hb hc hd hn))<|am 3<|az (ah qd rfl) rfl<|ai<|aa ?_
 refine aa<|ab<|ai<|bj rfl<|aq<|aa<|aN 6 rfl rfl<|an 2<|ag (aj rfl (kV))<|an 1<|ag (aj rfl (kV))<|ag (aD (us:=([.b false]++(cR (b-d)++cR (c-a)++cR ((b-d)*a+(c-a)*b))++d8++[.b false]++(cR a++cR 0++cR b++cR 0++cR 0)++(cR c++cR 0++cR d++cR 0++cR 0))) y6 iK rfl rfl rfl) ?_
 refine aR<|ar<|ai<|al ?_
 exact ao (fA (us:=([.b false]++(cR (b-d)++cR (c-a)++cR ((b-d)*a+(c-a)*b))++d8++[.b false]++(cR a++cR 0++cR b++cR 0++cR 0)++(cR c++cR 0++cR d++cR 0++cR 0))) er rfl rfl (by kernel_rfl) (by kernel_rfl) (aC ae))
theorem FK {a b c d e f:Rat}(ha:Rz 1 a) (hb:Rz 1 b) (hc:Rz 1 c) (hd:Rz 1 d) (he:Rz 1 e) (hf:Rz 1 f):Ok Tryz.prog 78 [.a ((cR a++cR b)),.a ((cR c++cR d)),.a ((cR e++cR f))] [.c (.i .i64 (bd ((c-a)*(f-b)) ((d-b)*(e-a))))]:=by
 refine Ok.fn Tryz.func78 34 [.tmp 6] rfl<|aa<|ab<|ai<|aa<|aN 12 rfl rfl<|an 1<|ag (aw (cR c) au rfl)<|an 1<|ag (aw (cR a) au rfl)<|ag (aj rfl (dA (aO hc) (aO ha)))<|an 1<|ag (aw (cR f) au rfl)<|an 1 ?_
 refine ag (aw (cR b) au rfl)<|ag (aj rfl (dA (aO hf) (aO hb)))<|ag (aj rfl (bZ (aO (Rz.sub hc ha)) (aO (Rz.sub hf hb))))<|ba (ah br rfl) rfl<|aR<|bg<|ai<|aa<|aN 12 rfl rfl<|an 1<|ag (aw (cR d) au rfl)<|an 1<|ag (aw (cR b) au rfl)<|ag (aj rfl (dA (aO hd) (aO hb))) ?_
 refine an 1<|ag (aw (cR e) au rfl)<|an 1<|ag (aw (cR a) au rfl)<|ag (aj rfl (dA (aO he) (aO ha)))<|ag (aj rfl (bZ (aO (Rz.sub hd hb)) (aO (Rz.sub he ha))))<|ba (ah br rfl) rfl<|aR<|bg<|ai<|aa<|ab<|am 2<|ak (aj rfl (fe (aO (Rz.mul (Rz.sub hc ha) (Rz.sub hf hb))) (aO (Rz.mul (Rz.sub hd hb) (Rz.sub he ha))))) ?_
 refine ai<|al ?_
 exact ao (aC ae)
theorem PC {a b c d e f:Rat}(ha:Rz 1 a) (hb:Rz 1 b) (hc:Rz 1 c) (hd:Rz 1 d) (he:Rz 1 e) (hf:Rz 1 f) (hn:m7 a b c d e f≠0):Ok Tryz.prog 79 [.a ((cR a++cR b)),.a ((cR c++cR d)),.a ((cR e++cR f))] [.a (dc (KN a b c d e f)),.c (.i .i64 0)]:=by
 have h0:((c-a)*(f-b)-(d-b)*(e-a))+((c-a)*(f-b)-(d-b)*(e-a))≠0:=fun h=>hn (by unfold m7;grind)
 refine Ok.fn Tryz.func79 99 [.cell 6 35,.tmp 7] rfl<|aa<|ab<|am 3<|az (ah zQ rfl) rfl<|ai<|aa<|aN 24 rfl rfl<|an 1<|ag (aw (cR c) au rfl)<|an 1<|ag (aw (cR a) au rfl)<|ag (aj rfl (dC (aO hc) (aO ha)))<|an 1 ?_
 refine ag (aw (cR d) au rfl)<|an 1<|ag (aw (cR b) au rfl)<|ag (aj rfl (dC (aO hd) (aO hb)))<|an 1<|ag (aw (cR e) au rfl)<|an 1<|ag (aw (cR a) au rfl)<|ag (aj rfl (dC (aO he) (aO ha)))<|an 1<|ag (aw (cR f) au rfl)<|an 1<|ag (aw (cR b) au rfl)<|ag (aj rfl (dC (aO hf) (aO hb))) ?_
 refine ba (ah br rfl) rfl<|ba (ah br rfl) rfl<|ba (ah br rfl) rfl<|ba (ah br rfl) rfl<|aR<|fz<|ai<|aa<|aN 8 rfl rfl<|an 2<|ag (aj rfl (bQ (aO (Rz.sub hc ha)) (aO (Rz.sub hf hb))))<|an 2<|ag (aj rfl (bQ (aO (Rz.sub hd hb)) (aO (Rz.sub he ha))))<|ag (aj rfl (dC (aO (Rz.mul (Rz.sub hc ha) (Rz.sub hf hb))) (aO (Rz.mul (Rz.sub hd hb) (Rz.sub he ha))))) ?_
 refine ba (ah br rfl) rfl<|aR<|bg<|ai<|aa<|aa<|ab<|am 1<|ak (aj rfl (bV))<|ai ?_
 refine ay rfl (fun hc1=>?_) (fun hc1=>?_)
 ·exact absurd (show m7 a b c d e f=0 from gB.1 (beq_iff_eq.1 hc1)) hn
 ·refine aq<|aa<|ab<|am 2<|ak (aj rfl (fx (aO (Rz.sub (Rz.mul (Rz.sub hc ha) (Rz.sub hf hb)) (Rz.mul (Rz.sub hd hb) (Rz.sub he ha)))) (aO (Rz.sub (Rz.mul (Rz.sub hc ha) (Rz.sub hf hb)) (Rz.mul (Rz.sub hd hb) (Rz.sub he ha))))))<|ai<|aa<|aN 16 rfl rfl<|an 2<|ag (aj rfl (bQ (aO (Rz.sub hc ha)) (aO (Rz.sub hc ha))))<|an 2<|ag (aj rfl (bQ (aO (Rz.sub hd hb)) (aO (Rz.sub hd hb))))<|ag (aj rfl (fx (aO (Rz.mul (Rz.sub hc ha) (Rz.sub hc ha))) (aO (Rz.mul (Rz.sub hd hb) (Rz.sub hd hb)))))<|an 2 ?_
  refine ag (aj rfl (bQ (aO (Rz.sub he ha)) (aO (Rz.sub he ha))))<|an 2<|ag (aj rfl (bQ (aO (Rz.sub hf hb)) (aO (Rz.sub hf hb))))<|ag (aj rfl (fx (aO (Rz.mul (Rz.sub he ha) (Rz.sub he ha))) (aO (Rz.mul (Rz.sub hf hb) (Rz.sub hf hb)))))<|ba (ah br rfl) rfl<|ba (ah br rfl) rfl<|aR<|cf<|ai<|aa<|aN 20 rfl rfl<|an 2<|ag (aj rfl (bQ (aO (Rz.add (Rz.mul (Rz.sub hc ha) (Rz.sub hc ha)) (Rz.mul (Rz.sub hd hb) (Rz.sub hd hb)))) (aO (Rz.sub hf hb))))<|an 2 ?_
  refine ag (aj rfl (bQ (aO (Rz.add (Rz.mul (Rz.sub he ha) (Rz.sub he ha)) (Rz.mul (Rz.sub hf hb) (Rz.sub hf hb)))) (aO (Rz.sub hd hb))))<|ag (aj rfl (dC (aO (Rz.mul (Rz.add (Rz.mul (Rz.sub hc ha) (Rz.sub hc ha)) (Rz.mul (Rz.sub hd hb) (Rz.sub hd hb))) (Rz.sub hf hb))) (aO (Rz.mul (Rz.add (Rz.mul (Rz.sub he ha) (Rz.sub he ha)) (Rz.mul (Rz.sub hf hb) (Rz.sub hf hb))) (Rz.sub hd hb)))))<|an 1<|ag (aj rfl (wI (aO (Rz.sub (Rz.mul (Rz.add (Rz.mul (Rz.sub hc ha) (Rz.sub hc ha)) (Rz.mul (Rz.sub hd hb) (Rz.sub hd hb))) (Rz.sub hf hb)) (Rz.mul (Rz.add (Rz.mul (Rz.sub he ha) (Rz.sub he ha)) (Rz.mul (Rz.sub hf hb) (Rz.sub hf hb))) (Rz.sub hd hb)))) (aO (Rz.add (Rz.sub (Rz.mul (Rz.sub hc ha) (Rz.sub hf hb)) (Rz.mul (Rz.sub hd hb) (Rz.sub he ha))) (Rz.sub (Rz.mul (Rz.sub hc ha) (Rz.sub hf hb)) (Rz.mul (Rz.sub hd hb) (Rz.sub he ha))))) (by assumption)))<|an 2<|ag (aj rfl (bQ (aO (Rz.add (Rz.mul (Rz.sub he ha) (Rz.sub he ha)) (Rz.mul (Rz.sub hf hb) (Rz.sub hf hb)))) (aO (Rz.sub hc ha))))<|an 2<|ag (aj rfl (bQ (aO (Rz.add (Rz.mul (Rz.sub hc ha) (Rz.sub hc ha)) (Rz.mul (Rz.sub hd hb) (Rz.sub hd hb)))) (aO (Rz.sub he ha))))<|ag (aj rfl (dC (aO (Rz.mul (Rz.add (Rz.mul (Rz.sub he ha) (Rz.sub he ha)) (Rz.mul (Rz.sub hf hb) (Rz.sub hf hb))) (Rz.sub hc ha))) (aO (Rz.mul (Rz.add (Rz.mul (Rz.sub hc ha) (Rz.sub hc ha)) (Rz.mul (Rz.sub hd hb) (Rz.sub hd hb))) (Rz.sub he ha)))))<|an 1<|ag (aj rfl (wI (aO (Rz.sub (Rz.mul (Rz.add (Rz.mul (Rz.sub he ha) (Rz.sub he ha)) (Rz.mul (Rz.sub hf hb) (Rz.sub hf hb))) (Rz.sub hc ha)) (Rz.mul (Rz.add (Rz.mul (Rz.sub hc ha) (Rz.sub hc ha)) (Rz.mul (Rz.sub hd hb) (Rz.sub hd hb))) (Rz.sub he ha)))) (aO (Rz.add (Rz.sub (Rz.mul (Rz.sub hc ha) (Rz.sub hf hb)) (Rz.mul (Rz.sub hd hb) (Rz.sub he ha))) (Rz.sub (Rz.mul (Rz.sub hc ha) (Rz.sub hf hb)) (Rz.mul (Rz.sub hd hb) (Rz.sub he ha))))) (by assumption)))<|ba (ah br rfl) rfl<|ba (ah br rfl) rfl<|aR ?_
  refine cf<|ai<|aa<|aN 16 rfl rfl<|an 1<|ag (aw (cR a) au rfl)<|an 1<|ag (aj rfl (fx (aO ha) (aO (Rz.div (Rz.sub (Rz.mul (Rz.add (Rz.mul (Rz.sub hc ha) (Rz.sub hc ha)) (Rz.mul (Rz.sub hd hb) (Rz.sub hd hb))) (Rz.sub hf hb)) (Rz.mul (Rz.add (Rz.mul (Rz.sub he ha) (Rz.sub he ha)) (Rz.mul (Rz.sub hf hb) (Rz.sub hf hb))) (Rz.sub hd hb))) (Rz.add (Rz.sub (Rz.mul (Rz.sub hc ha) (Rz.sub hf hb)) (Rz.mul (Rz.sub hd hb) (Rz.sub he ha))) (Rz.sub (Rz.mul (Rz.sub hc ha) (Rz.sub hf hb)) (Rz.mul (Rz.sub hd hb) (Rz.sub he ha)))) (by assumption)))))<|an 1<|ag (aw (cR b) au rfl)<|an 1<|ag (aj rfl (fx (aO hb) (aO (Rz.div (Rz.sub (Rz.mul (Rz.add (Rz.mul (Rz.sub he ha) (Rz.sub he ha)) (Rz.mul (Rz.sub hf hb) (Rz.sub hf hb))) (Rz.sub hc ha)) (Rz.mul (Rz.add (Rz.mul (Rz.sub hc ha) (Rz.sub hc ha)) (Rz.mul (Rz.sub hd hb) (Rz.sub hd hb))) (Rz.sub he ha))) (Rz.add (Rz.sub (Rz.mul (Rz.sub hc ha) (Rz.sub hf hb)) (Rz.mul (Rz.sub hd hb) (Rz.sub he ha))) (Rz.sub (Rz.mul (Rz.sub hc ha) (Rz.sub hf hb)) (Rz.mul (Rz.sub hd hb) (Rz.sub he ha)))) (by assumption)))))<|an 2<|ag (aj rfl (bQ (aO (Rz.div (Rz.sub (Rz.mul (Rz.add (Rz.mul (Rz.sub hc ha) (Rz.sub hc ha)) (Rz.mul (Rz.sub hd hb) (Rz.sub hd hb))) (Rz.sub hf hb)) (Rz.mul (Rz.add (Rz.mul (Rz.sub he ha) (Rz.sub he ha)) (Rz.mul (Rz.sub hf hb) (Rz.sub hf hb))) (Rz.sub hd hb))) (Rz.add (Rz.sub (Rz.mul (Rz.sub hc ha) (Rz.sub hf hb)) (Rz.mul (Rz.sub hd hb) (Rz.sub he ha))) (Rz.sub (Rz.mul (Rz.sub hc ha) (Rz.sub hf hb)) (Rz.mul (Rz.sub hd hb) (Rz.sub he ha)))) (by assumption))) (aO (Rz.div (Rz.sub (Rz.mul (Rz.add (Rz.mul (Rz.sub hc ha) (Rz.sub hc ha)) (Rz.mul (Rz.sub hd hb) (Rz.sub hd hb))) (Rz.sub hf hb)) (Rz.mul (Rz.add (Rz.mul (Rz.sub he ha) (Rz.sub he ha)) (Rz.mul (Rz.sub hf hb) (Rz.sub hf hb))) (Rz.sub hd hb))) (Rz.add (Rz.sub (Rz.mul (Rz.sub hc ha) (Rz.sub hf hb)) (Rz.mul (Rz.sub hd hb) (Rz.sub he ha))) (Rz.sub (Rz.mul (Rz.sub hc ha) (Rz.sub hf hb)) (Rz.mul (Rz.sub hd hb) (Rz.sub he ha)))) (by assumption))))) ?_
  refine an 2<|ag (aj rfl (bQ (aO (Rz.div (Rz.sub (Rz.mul (Rz.add (Rz.mul (Rz.sub he ha) (Rz.sub he ha)) (Rz.mul (Rz.sub hf hb) (Rz.sub hf hb))) (Rz.sub hc ha)) (Rz.mul (Rz.add (Rz.mul (Rz.sub hc ha) (Rz.sub hc ha)) (Rz.mul (Rz.sub hd hb) (Rz.sub hd hb))) (Rz.sub he ha))) (Rz.add (Rz.sub (Rz.mul (Rz.sub hc ha) (Rz.sub hf hb)) (Rz.mul (Rz.sub hd hb) (Rz.sub he ha))) (Rz.sub (Rz.mul (Rz.sub hc ha) (Rz.sub hf hb)) (Rz.mul (Rz.sub hd hb) (Rz.sub he ha)))) (by assumption))) (aO (Rz.div (Rz.sub (Rz.mul (Rz.add (Rz.mul (Rz.sub he ha) (Rz.sub he ha)) (Rz.mul (Rz.sub hf hb) (Rz.sub hf hb))) (Rz.sub hc ha)) (Rz.mul (Rz.add (Rz.mul (Rz.sub hc ha) (Rz.sub hc ha)) (Rz.mul (Rz.sub hd hb) (Rz.sub hd hb))) (Rz.sub he ha))) (Rz.add (Rz.sub (Rz.mul (Rz.sub hc ha) (Rz.sub hf hb)) (Rz.mul (Rz.sub hd hb) (Rz.sub he ha))) (Rz.sub (Rz.mul (Rz.sub hc ha) (Rz.sub hf hb)) (Rz.mul (Rz.sub hd hb) (Rz.sub he ha)))) (by assumption)))))<|ag (aj rfl (fx (aO (Rz.mul (Rz.div (Rz.sub (Rz.mul (Rz.add (Rz.mul (Rz.sub hc ha) (Rz.sub hc ha)) (Rz.mul (Rz.sub hd hb) (Rz.sub hd hb))) (Rz.sub hf hb)) (Rz.mul (Rz.add (Rz.mul (Rz.sub he ha) (Rz.sub he ha)) (Rz.mul (Rz.sub hf hb) (Rz.sub hf hb))) (Rz.sub hd hb))) (Rz.add (Rz.sub (Rz.mul (Rz.sub hc ha) (Rz.sub hf hb)) (Rz.mul (Rz.sub hd hb) (Rz.sub he ha))) (Rz.sub (Rz.mul (Rz.sub hc ha) (Rz.sub hf hb)) (Rz.mul (Rz.sub hd hb) (Rz.sub he ha)))) (by assumption)) (Rz.div (Rz.sub (Rz.mul (Rz.add (Rz.mul (Rz.sub hc ha) (Rz.sub hc ha)) (Rz.mul (Rz.sub hd hb) (Rz.sub hd hb))) (Rz.sub hf hb)) (Rz.mul (Rz.add (Rz.mul (Rz.sub he ha) (Rz.sub he ha)) (Rz.mul (Rz.sub hf hb) (Rz.sub hf hb))) (Rz.sub hd hb))) (Rz.add (Rz.sub (Rz.mul (Rz.sub hc ha) (Rz.sub hf hb)) (Rz.mul (Rz.sub hd hb) (Rz.sub he ha))) (Rz.sub (Rz.mul (Rz.sub hc ha) (Rz.sub hf hb)) (Rz.mul (Rz.sub hd hb) (Rz.sub he ha)))) (by assumption)))) (aO (Rz.mul (Rz.div (Rz.sub (Rz.mul (Rz.add (Rz.mul (Rz.sub he ha) (Rz.sub he ha)) (Rz.mul (Rz.sub hf hb) (Rz.sub hf hb))) (Rz.sub hc ha)) (Rz.mul (Rz.add (Rz.mul (Rz.sub hc ha) (Rz.sub hc ha)) (Rz.mul (Rz.sub hd hb) (Rz.sub hd hb))) (Rz.sub he ha))) (Rz.add (Rz.sub (Rz.mul (Rz.sub hc ha) (Rz.sub hf hb)) (Rz.mul (Rz.sub hd hb) (Rz.sub he ha))) (Rz.sub (Rz.mul (Rz.sub hc ha) (Rz.sub hf hb)) (Rz.mul (Rz.sub hd hb) (Rz.sub he ha)))) (by assumption)) (Rz.div (Rz.sub (Rz.mul (Rz.add (Rz.mul (Rz.sub he ha) (Rz.sub he ha)) (Rz.mul (Rz.sub hf hb) (Rz.sub hf hb))) (Rz.sub hc ha)) (Rz.mul (Rz.add (Rz.mul (Rz.sub hc ha) (Rz.sub hc ha)) (Rz.mul (Rz.sub hd hb) (Rz.sub hd hb))) (Rz.sub he ha))) (Rz.add (Rz.sub (Rz.mul (Rz.sub hc ha) (Rz.sub hf hb)) (Rz.mul (Rz.sub hd hb) (Rz.sub he ha))) (Rz.sub (Rz.mul (Rz.sub hc ha) (Rz.sub hf hb)) (Rz.mul (Rz.sub hd hb) (Rz.sub he ha)))) (by assumption))))))<|ag (aD (us:=(cR (a+((((((c-a)*(c-a))+((d-b)*(d-b)))*(f-b))-((((e-a)*(e-a))+((f-b)*(f-b)))*(d-b)))/((((c-a)*(f-b))-((d-b)*(e-a)))+(((c-a)*(f-b))-((d-b)*(e-a))))))++cR (b+((((((e-a)*(e-a))+((f-b)*(f-b)))*(c-a))-((((c-a)*(c-a))+((d-b)*(d-b)))*(e-a)))/((((c-a)*(f-b))-((d-b)*(e-a)))+(((c-a)*(f-b))-((d-b)*(e-a))))))++cR ((((((((c-a)*(c-a))+((d-b)*(d-b)))*(f-b))-((((e-a)*(e-a))+((f-b)*(f-b)))*(d-b)))/((((c-a)*(f-b))-((d-b)*(e-a)))+(((c-a)*(f-b))-((d-b)*(e-a)))))*((((((c-a)*(c-a))+((d-b)*(d-b)))*(f-b))-((((e-a)*(e-a))+((f-b)*(f-b)))*(d-b)))/((((c-a)*(f-b))-((d-b)*(e-a)))+(((c-a)*(f-b))-((d-b)*(e-a))))))+(((((((e-a)*(e-a))+((f-b)*(f-b)))*(c-a))-((((c-a)*(c-a))+((d-b)*(d-b)))*(e-a)))/((((c-a)*(f-b))-((d-b)*(e-a)))+(((c-a)*(f-b))-((d-b)*(e-a)))))*((((((e-a)*(e-a))+((f-b)*(f-b)))*(c-a))-((((c-a)*(c-a))+((d-b)*(d-b)))*(e-a)))/((((c-a)*(f-b))-((d-b)*(e-a)))+(((c-a)*(f-b))-((d-b)*(e-a))))))))) Lv zQ rfl rfl rfl) ?_
  refine aR<|ar<|ai<|al ?_
  exact ao (bh oK rfl (aC ae))
theorem O7 {a b c d e f:Rat}(ha:Rz 1 a) (hb:Rz 1 b) (hc:Rz 1 c) (hd:Rz 1 d) (he:Rz 1 e) (hf:Rz 1 f) (hn:m7 a b c d e f≠0):Ok Tryz.prog 24 [.a ((cR a++cR b)),.a ((cR c++cR d)),.a ((cR e++cR f))] [.a (([.b true]++d8++dc (KN a b c d e f)++[.b (decide (bd ((c-a)*(f-b)) ((d-b)*(e-a))<0))]++aA (rP a b)++aA (rP e f))),.c (.i .i64 0)]:=by
 refine Ok.fn Tryz.func24 37 [.cell 6 39,.tmp 7] rfl<|aa<|ab<|am 3<|az (ah iK rfl) rfl<|ai<|aa<|ab<|am 3<|ak (aj rfl (FK ha hb hc hd he hf))<|ai<|aa<|ab<|am 3 ?_
 refine ak (aj rfl (PC ha hb hc hd he hf hn))<|am 3<|az (ah zQ rfl) rfl<|ai<|aa<|aa<|ab<|am 2 ?_
 refine dh (ca rfl) (fun c1 hb1=>?_)
 cases c1
 ·refine ai<|bj rfl<|aq<|aa<|aN 8 rfl rfl<|an 4<|ag (aj rfl (kV))<|an 1<|ag (aj rfl (kV))<|ag (aD (us:=([.b true]++d8++dc (KN a b c d e f)++[.b (decide ((bd ((c-a)*(f-b)) ((d-b)*(e-a)))<0))]++(cR a++cR 0++cR b++cR 0++cR 0)++(cR e++cR 0++cR f++cR 0++cR 0))) y6 iK rfl rfl rfl) ?_
  refine aR<|ar<|ai<|al ?_
  exact ao (fA (us:=([.b true]++d8++dc (KN a b c d e f)++[.b (decide ((bd ((c-a)*(f-b)) ((d-b)*(e-a)))<0))]++(cR a++cR 0++cR b++cR 0++cR 0)++(cR e++cR 0++cR f++cR 0++cR 0))) er rfl rfl (by kernel_rfl) (by kernel_rfl) (aC ae))
 ·exact absurd (EA.1 (by simpa using hb1)) hn
theorem MH {a b c d e f:Rat}(ha:Rz 1 a) (hb:Rz 1 b) (hc:Rz 1 c) (hd:Rz 1 d) (he:Rz 1 e) (hf:Rz 1 f) (hn:m7 a b c d e f=0):Ok Tryz.prog 79 [.a ((cR a++cR b)),.a ((cR c++cR d)),.a ((cR e++cR f))] [.a (d8),.c (.i .i64 6)]:=by
 refine Ok.fn Tryz.func79 99 [.cell 6 35,.tmp 7] rfl<|aa<|ab<|am 3<|az (ah zQ rfl) rfl<|ai<|aa<|aN 24 rfl rfl<|an 1<|ag (aw (cR c) au rfl)<|an 1<|ag (aw (cR a) au rfl)<|ag (aj rfl (dC (aO hc) (aO ha)))<|an 1 ?_
 refine ag (aw (cR d) au rfl)<|an 1<|ag (aw (cR b) au rfl)<|ag (aj rfl (dC (aO hd) (aO hb)))<|an 1<|ag (aw (cR e) au rfl)<|an 1<|ag (aw (cR a) au rfl)<|ag (aj rfl (dC (aO he) (aO ha)))<|an 1<|ag (aw (cR f) au rfl)<|an 1<|ag (aw (cR b) au rfl)<|ag (aj rfl (dC (aO hf) (aO hb))) ?_
 refine ba (ah br rfl) rfl<|ba (ah br rfl) rfl<|ba (ah br rfl) rfl<|ba (ah br rfl) rfl<|aR<|fz<|ai<|aa<|aN 8 rfl rfl<|an 2<|ag (aj rfl (bQ (aO (Rz.sub hc ha)) (aO (Rz.sub hf hb))))<|an 2<|ag (aj rfl (bQ (aO (Rz.sub hd hb)) (aO (Rz.sub he ha))))<|ag (aj rfl (dC (aO (Rz.mul (Rz.sub hc ha) (Rz.sub hf hb))) (aO (Rz.mul (Rz.sub hd hb) (Rz.sub he ha))))) ?_
 refine ba (ah br rfl) rfl<|aR<|bg<|ai<|aa<|aa<|ab<|am 1<|ak (aj rfl (bV))<|ai ?_
 refine ay rfl (fun hc1=>?_) (fun hc1=>?_)
 ·refine aa<|ab<|ak (aD (us:=d8) Lv zQ rfl rfl rfl) ?_
  refine ai<|al ?_
  exact ao (bh oK rfl (aC ae))
 ·exact absurd hc1 (by have h9:=gB.2 hn;simpa [m7] using h9)
theorem HU {a b c d e f:Rat}(ha:Rz 1 a) (hb:Rz 1 b) (hc:Rz 1 c) (hd:Rz 1 d) (he:Rz 1 e) (hf:Rz 1 f) (hn:m7 a b c d e f=0):Ok Tryz.prog 24 [.a ((cR a++cR b)),.a ((cR c++cR d)),.a ((cR e++cR f))] [.a (([.b false]++d8++d8++[.b false]++nc++nc)),.c (.i .i64 6)]:=by
 refine Ok.fn Tryz.func24 37 [.cell 6 39,.tmp 7] rfl<|aa<|ab<|am 3<|az (ah iK rfl) rfl<|ai<|aa<|ab<|am 3<|ak (aj rfl (FK ha hb hc hd he hf))<|ai<|aa<|ab<|am 3 ?_
 refine ak (aj rfl (MH ha hb hc hd he hf hn))<|am 3<|az (ah zQ rfl) rfl<|ai<|aa<|aa<|ab<|am 2 ?_
 refine dh (ca rfl) (fun c1 hb1=>?_)
 cases c1
 ·exact absurd hb1 (by simp[EA.2 hn])
 ·refine ai<|bP rfl<|aa<|ab<|ak (aD (us:=([.b false]++d8++d8++[.b false]++nc++nc)) y6 iK rfl rfl rfl) ?_
  refine ai<|al ?_
  exact ao (fA (us:=([.b false]++d8++d8++[.b false]++nc++nc)) er rfl rfl (by kernel_rfl) (by kernel_rfl) (aC ae))
theorem N4 {k:Ci}(hk:GK k):Ok Tryz.prog 38 [.a (dc k)] [.a (aA (zX k)),.a (aA (Bt k))]:=by
 have o1:Rz 60000 (1:Rat):=oZ.m_
 refine Ok.fn Tryz.func38 27 [.cell 2 37,.cell 3 37] rfl<|aa<|ab<|am 1<|az (ah jO rfl) rfl<|az (ah jO rfl) rfl<|ap<|aa<|ab<|ak (aj rfl (cJ (mK (by decide) (by decide)) (show((1:Int):Rat)=1 from rfl)))<|ak (aj rfl (cJ (mK (by decide) (by decide)) (show((0:Int):Rat)=0 from rfl)))<|az (ah br rfl) rfl<|az (ah br rfl) rfl<|ai ?_
 refine aa<|aN 19 rfl rfl<|an 1<|ag (aw (cR k.x) au rfl)<|an 1<|ag (aj rfl (oe o1))<|an 1<|ag (aw (cR k.y) au rfl)<|an 2<|ag (aw (cR k.q) au rfl)<|ag (aj rfl (BM (hk.x.m_) (oZ.neg.m_) (hk.y.m_) (Rz.zero (by decide)) (hk.q.m_)))<|an 1<|ag (aw (cR k.x) au rfl)<|an 2 ?_
 refine ag (aw (cR k.y) au rfl)<|an 2<|ag (aw (cR k.q) au rfl)<|ag (aj rfl (BM (hk.x.m_) (oZ.m_) (hk.y.m_) (Rz.zero (by decide)) (hk.q.m_)))<|aR<|ar<|ai<|al ?_
 exact ao (bh cn rfl (bh cn rfl ae))
theorem K2 {k:Ci}(hk:GK k):Ok Tryz.prog 72 [.a (dc k)] [.c (.s ((rO k).length) (bc bk (rO k)))]:=by
 refine Ok.fn Tryz.func72 19 [.tmp 2] rfl<|aa<|ab<|ai<|aa<|ab<|am 1<|ak (aj rfl (N4 hk))<|am 3<|az (ah jO rfl) rfl<|az (ah jO rfl) rfl<|ai<|aa<|ab ?_
 refine am 3<|ak (aD (us:=([.b true]++d8++dc k++[.b false]++aA (zX k)++aA (Bt k))) y6 iK rfl rfl rfl) ?_
 refine am 3<|ak (aD (us:=([.b true]++d8++dc k++[.b false]++aA (Bt k)++aA (zX k))) y6 iK rfl rfl rfl) ?_
 refine ak (cW (n:=2) (us:=([.b true]++d8++dc k++[.b false]++aA (zX k)++aA (Bt k))++([.b true]++d8++dc k++[.b false]++aA (Bt k)++aA (zX k))) yB rfl (by kernel_rfl) (by kernel_rfl) (by decide) (by decide) rfl) ?_
 refine ai<|al ?_
 exact ao (aC ae)
theorem gw {A U:Int}(hA: -128≤A∧A≤127) (hU:0≤U∧U≤255):Ok Tryz.prog 70 [.c (.i .i8 A),.c (.i .u8 U)] [dR (qD A (uD U))]:=by
 refine Ok.fn Tryz.func70 12 [.cell 4 31] rfl<|aa<|ab<|az (ah br rfl) rfl<|ap<|aa<|ab<|am 1<|ak (bF (r:=A) JX r8 rfl (l9 (by omega) (by omega)) rfl) ?_
 refine am 1<|ak (dm (r:=U%4) rfl rfl (by decide) (Int.tmod_eq_emod_of_nonneg hU.1) rfl) ?_
 refine ak (bF (r:=U%4) Pf r8 rfl (l9 (by omega) (by omega)) rfl) ?_
 refine ak (aJ (r:=uD U) rfl rfl ((aT (by omega) (by omega)).trans rfl) rfl) ?_
 refine ak (aj rfl (tw (by omega) (by omega) (by have:=wa hU.1;omega) (by have:=wa hU.1;omega) (by have:=wa hU.1;omega)))<|ai<|al ?_
 exact ao (bh au rfl ae)
theorem HQ {K U A B C D E F:Int}(hK:0≤K∧K≤255) (hU:0≤U∧U≤255) (hA: -128≤A∧A≤127) (hB: -128≤B∧B≤127) (hC: -128≤C∧C≤127) (hD: -128≤D∧D≤127) (_hE: -128≤E∧E≤127) (_hF: -128≤F∧F≤127) {a b c d e f:Rat}(ea:qD A (uD U)=a) (eb:qD B (uD U)=b) (ec:qD C (uD U)=c) (ed:qD D (uD U)=d) (_ee:qD E (uD U)=e) (_ef:qD F (uD U)=f) (_za:Rz 1 a) (_zb:Rz 1 b) (_zc:Rz 1 c) (_zd:Rz 1 d) (_ze:Rz 1 e) (_zf:Rz 1 f) (hk:K%3=2) (hq: ¬0<c):Ok Tryz.prog 21 [.a (([.i .u8 K]++[.i .u8 U]++[.i .i8 A]++[.i .i8 B]++[.i .i8 C]++[.i .i8 D]++[.i .i8 E]++[.i .i8 F]))] [.c (.s 0 [])]:=by
 refine Ok.fn Tryz.func21 80 [.tmp 2] rfl<|aa<|ab<|ai<|aa<|aN 12 rfl rfl<|an 4<|ag (aj rfl (cJ (gw ⟨by omega,by omega⟩ ⟨by omega,by omega⟩) ea))<|an 4<|ag (aj rfl (cJ (gw ⟨by omega,by omega⟩ ⟨by omega,by omega⟩) eb))<|ag (aD (us:=(cR a++cR b)) ko fR rfl rfl rfl) ?_
 refine ba (ah fR rfl) rfl<|aR<|bg<|ai<|aa<|aN 12 rfl rfl<|an 4<|ag (aj rfl (cJ (gw ⟨by omega,by omega⟩ ⟨by omega,by omega⟩) ec))<|an 4<|ag (aj rfl (cJ (gw ⟨by omega,by omega⟩ ⟨by omega,by omega⟩) ed))<|ag (aD (us:=(cR c++cR d)) ko fR rfl rfl rfl) ?_
 refine ba (ah fR rfl) rfl<|aR<|bg<|ai<|aa<|aa<|ab<|am 2<|ak (dm (r:=K%3) rfl rfl (by decide) (Int.tmod_eq_emod_of_nonneg hK.1) rfl) ?_
 refine ak (df (c:=true) (mm rfl) (by rw[hk];rfl)) ?_
 refine ap<|bP rfl<|aa<|ab<|am 4<|ak (aj rfl (cJ (gw ⟨by omega,by omega⟩ ⟨by omega,by omega⟩) ec))<|az (ah br rfl) rfl<|ai<|aa<|aa<|ab<|am 1<|ak (aj rfl (bV))<|ai ?_
 refine ay rfl (fun hc1=>?_) (fun hc1=>?_)
 ·refine aa<|ab<|ai<|al ?_
  exact ao (aC ae)
 ·exact absurd (qT (fun h=>of_decide_eq_false hc1 (by omega)) (fun h=>of_decide_eq_false hc1 (by omega))) hq
theorem GQ {K U A B C D E F:Int}(hK:0≤K∧K≤255) (hU:0≤U∧U≤255) (hA: -128≤A∧A≤127) (hB: -128≤B∧B≤127) (hC: -128≤C∧C≤127) (hD: -128≤D∧D≤127) (_hE: -128≤E∧E≤127) (_hF: -128≤F∧F≤127) {a b c d e f:Rat}(ea:qD A (uD U)=a) (eb:qD B (uD U)=b) (ec:qD C (uD U)=c) (ed:qD D (uD U)=d) (_ee:qD E (uD U)=e) (_ef:qD F (uD U)=f) (za:Rz 1 a) (zb:Rz 1 b) (zc:Rz 1 c) (_zd:Rz 1 d) (_ze:Rz 1 e) (_zf:Rz 1 f) (hk:K%3=2) (hq:0<c):Ok Tryz.prog 21 [.a (([.i .u8 K]++[.i .u8 U]++[.i .i8 A]++[.i .i8 B]++[.i .i8 C]++[.i .i8 D]++[.i .i8 E]++[.i .i8 F]))] [.c (.s ((rO ⟨a,b,c⟩).length) (bc bk (rO ⟨a,b,c⟩)))]:=by
 refine Ok.fn Tryz.func21 80 [.tmp 2] rfl<|aa<|ab<|ai<|aa<|aN 12 rfl rfl<|an 4<|ag (aj rfl (cJ (gw ⟨by omega,by omega⟩ ⟨by omega,by omega⟩) ea))<|an 4<|ag (aj rfl (cJ (gw ⟨by omega,by omega⟩ ⟨by omega,by omega⟩) eb))<|ag (aD (us:=(cR a++cR b)) ko fR rfl rfl rfl) ?_
 refine ba (ah fR rfl) rfl<|aR<|bg<|ai<|aa<|aN 12 rfl rfl<|an 4<|ag (aj rfl (cJ (gw ⟨by omega,by omega⟩ ⟨by omega,by omega⟩) ec))<|an 4<|ag (aj rfl (cJ (gw ⟨by omega,by omega⟩ ⟨by omega,by omega⟩) ed))<|ag (aD (us:=(cR c++cR d)) ko fR rfl rfl rfl) ?_
 refine ba (ah fR rfl) rfl<|aR<|bg<|ai<|aa<|aa<|ab<|am 2<|ak (dm (r:=K%3) rfl rfl (by decide) (Int.tmod_eq_emod_of_nonneg hK.1) rfl) ?_
 refine ak (df (c:=true) (mm rfl) (by rw[hk];rfl)) ?_
 refine ap<|bP rfl<|aa<|ab<|am 4<|ak (aj rfl (cJ (gw ⟨by omega,by omega⟩ ⟨by omega,by omega⟩) ec))<|az (ah br rfl) rfl<|ai<|aa<|aa<|ab<|am 1<|ak (aj rfl (bV))<|ai ?_
 refine ay rfl (fun hc1=>?_) (fun hc1=>?_)
 ·exact absurd (of_decide_eq_true hc1) (by unfold bd;rw[if_neg (by grind),if_pos hq];decide)
 ·refine aq<|aa<|ab<|am 1<|ak (aw (cR a) au rfl)<|am 1<|ak (aw (cR b) au rfl)<|am 1<|ak (aD (us:=(cR a++cR b++cR c)) Lv zQ rfl rfl rfl) ?_
  refine ak (aj rfl (K2 (k:=⟨a,b,c⟩) ⟨za,zb,zc.m_⟩))<|ai<|al ?_
  exact ao (aC ae)
theorem Bq {K U A B C D E F:Int}(hK:0≤K∧K≤255) (hU:0≤U∧U≤255) (hA: -128≤A∧A≤127) (hB: -128≤B∧B≤127) (hC: -128≤C∧C≤127) (hD: -128≤D∧D≤127) (hE: -128≤E∧E≤127) (hF: -128≤F∧F≤127) {a b c d e f:Rat}(ea:qD A (uD U)=a) (eb:qD B (uD U)=b) (ec:qD C (uD U)=c) (ed:qD D (uD U)=d) (ee:qD E (uD U)=e) (ef:qD F (uD U)=f) (za:Rz 1 a) (zb:Rz 1 b) (zc:Rz 1 c) (zd:Rz 1 d) (ze:Rz 1 e) (zf:Rz 1 f) (hk:K%3=1) (hk2:K%3≠2) {S1:List CellD}{s1:Int}(lS:S1.length=66) (hS:Ok Tryz.prog 26 [.a ((cR a++cR b)),.a ((cR c++cR d))] [.a S1,.c (.i .i64 s1)]) (hn:m7 a b c d e f≠0):Ok Tryz.prog 21 [.a (([.i .u8 K]++[.i .u8 U]++[.i .i8 A]++[.i .i8 B]++[.i .i8 C]++[.i .i8 D]++[.i .i8 E]++[.i .i8 F]))] [.c (.s (([LF a b c d e f]).length) (bc bk ([LF a b c d e f])))]:=by
 refine Ok.fn Tryz.func21 80 [.tmp 2] rfl<|aa<|ab<|ai<|aa<|aN 12 rfl rfl<|an 4<|ag (aj rfl (cJ (gw ⟨by omega,by omega⟩ ⟨by omega,by omega⟩) ea))<|an 4<|ag (aj rfl (cJ (gw ⟨by omega,by omega⟩ ⟨by omega,by omega⟩) eb))<|ag (aD (us:=(cR a++cR b)) ko fR rfl rfl rfl) ?_
 refine ba (ah fR rfl) rfl<|aR<|bg<|ai<|aa<|aN 12 rfl rfl<|an 4<|ag (aj rfl (cJ (gw ⟨by omega,by omega⟩ ⟨by omega,by omega⟩) ec))<|an 4<|ag (aj rfl (cJ (gw ⟨by omega,by omega⟩ ⟨by omega,by omega⟩) ed))<|ag (aD (us:=(cR c++cR d)) ko fR rfl rfl rfl) ?_
 refine ba (ah fR rfl) rfl<|aR<|bg<|ai<|aa<|aa<|ab<|am 2<|ak (dm (r:=K%3) rfl rfl (by decide) (Int.tmod_eq_emod_of_nonneg hK.1) rfl) ?_
 refine ak (df (c:=false) (mm rfl) (by simpa using hk2)) ?_
 refine ap<|bj rfl<|aq<|aa<|ab<|am 2<|ak (aj rfl (hS))<|am 3<|az (ah iK rfl) rfl<|dd (dw er rfl rfl rfl (lS) rfl rfl) ?_
 refine ai<|aa<|aa<|ab<|am 2<|ak (dm (r:=K%3) rfl rfl (by decide) (Int.tmod_eq_emod_of_nonneg hK.1) rfl) ?_
 refine ak (df (c:=true) (mm rfl) (by rw[hk];rfl)) ?_
 refine ap<|bP rfl<|cm 19 [6,999999] a7 (by kernel_rfl) rfl rfl<|an 6<|ag (aj rfl (cJ (gw ⟨by omega,by omega⟩ ⟨by omega,by omega⟩) ee))<|an 4<|ag (aj rfl (cJ (gw ⟨by omega,by omega⟩ ⟨by omega,by omega⟩) ef))<|ag (aD (us:=(cR e++cR f)) ko fR rfl rfl rfl) ?_
 refine ag (aj rfl (O7 za zb zc zd ze zf hn))<|an 3<|fU (dw er rfl rfl rfl rfl lS rfl) rfl rfl rfl rfl ?_
 refine bK<|bg<|ap<|aa<|aa<|ab<|ai<|bj rfl<|aq<|aa<|ab<|am 1<|ak (cW (n:=1) (us:=([.b true]++d8++dc (KN a b c d e f)++[.b (decide (bd ((c-a)*(f-b)) ((d-b)*(e-a))<0))]++aA (rP a b)++aA (rP e f))) yB rfl rfl rfl (by decide) (by decide) rfl) ?_
 refine ai<|al ?_
 exact ao (aC ae)
theorem Jb {K U A B C D E F:Int}(hK:0≤K∧K≤255) (hU:0≤U∧U≤255) (hA: -128≤A∧A≤127) (hB: -128≤B∧B≤127) (hC: -128≤C∧C≤127) (hD: -128≤D∧D≤127) (_hE: -128≤E∧E≤127) (_hF: -128≤F∧F≤127) {a b c d e f:Rat}(ea:qD A (uD U)=a) (eb:qD B (uD U)=b) (ec:qD C (uD U)=c) (ed:qD D (uD U)=d) (_ee:qD E (uD U)=e) (_ef:qD F (uD U)=f) (za:Rz 1 a) (zb:Rz 1 b) (zc:Rz 1 c) (zd:Rz 1 d) (_ze:Rz 1 e) (_zf:Rz 1 f) (hk1:K%3≠1) (hk2:K%3≠2) (hs: ¬(b-d=0∧c-a=0)):Ok Tryz.prog 21 [.a (([.i .u8 K]++[.i .u8 U]++[.i .i8 A]++[.i .i8 B]++[.i .i8 C]++[.i .i8 D]++[.i .i8 E]++[.i .i8 F]))] [.c (.s (([Mg a b c d]).length) (bc bk ([Mg a b c d])))]:=by
 refine Ok.fn Tryz.func21 80 [.tmp 2] rfl<|aa<|ab<|ai<|aa<|aN 12 rfl rfl<|an 4<|ag (aj rfl (cJ (gw ⟨by omega,by omega⟩ ⟨by omega,by omega⟩) ea))<|an 4<|ag (aj rfl (cJ (gw ⟨by omega,by omega⟩ ⟨by omega,by omega⟩) eb))<|ag (aD (us:=(cR a++cR b)) ko fR rfl rfl rfl) ?_
 refine ba (ah fR rfl) rfl<|aR<|bg<|ai<|aa<|aN 12 rfl rfl<|an 4<|ag (aj rfl (cJ (gw ⟨by omega,by omega⟩ ⟨by omega,by omega⟩) ec))<|an 4<|ag (aj rfl (cJ (gw ⟨by omega,by omega⟩ ⟨by omega,by omega⟩) ed))<|ag (aD (us:=(cR c++cR d)) ko fR rfl rfl rfl) ?_
 refine ba (ah fR rfl) rfl<|aR<|bg<|ai<|aa<|aa<|ab<|am 2<|ak (dm (r:=K%3) rfl rfl (by decide) (Int.tmod_eq_emod_of_nonneg hK.1) rfl) ?_
 refine ak (df (c:=false) (mm rfl) (by simpa using hk2)) ?_
 refine ap<|bj rfl<|aq<|aa<|ab<|am 2<|ak (aj rfl (Fw za zb zc zd hs))<|am 3<|az (ah iK rfl) rfl<|ai<|aa<|aa<|ab<|am 2 ?_
 refine ak (dm (r:=K%3) rfl rfl (by decide) (Int.tmod_eq_emod_of_nonneg hK.1) rfl) ?_
 refine ak (df (c:=false) (mm rfl) (by simpa using hk1)) ?_
 refine ap<|bj rfl<|aq<|aa<|aa<|ab<|ai<|bj rfl<|aq<|aa<|ab<|am 1<|ak (cW (n:=1) (us:=([.b false]++eK (HD a b c d)++d8++[.b false]++aA (rP a b)++aA (rP c d))) yB rfl rfl rfl (by decide) (by decide) rfl) ?_
 refine ai<|al ?_
 exact ao (aC ae)
theorem AH {K U A B C D E F:Int}(hK:0≤K∧K≤255) (hU:0≤U∧U≤255) (hA: -128≤A∧A≤127) (hB: -128≤B∧B≤127) (hC: -128≤C∧C≤127) (hD: -128≤D∧D≤127) (hE: -128≤E∧E≤127) (hF: -128≤F∧F≤127) {a b c d e f:Rat}(ea:qD A (uD U)=a) (eb:qD B (uD U)=b) (ec:qD C (uD U)=c) (ed:qD D (uD U)=d) (ee:qD E (uD U)=e) (ef:qD F (uD U)=f) (za:Rz 1 a) (zb:Rz 1 b) (zc:Rz 1 c) (zd:Rz 1 d) (ze:Rz 1 e) (zf:Rz 1 f) (hk:K%3=1) (hk2:K%3≠2) {S1:List CellD}{s1:Int}(lS:S1.length=66) (hS:Ok Tryz.prog 26 [.a ((cR a++cR b)),.a ((cR c++cR d))] [.a S1,.c (.i .i64 s1)]) (hn:m7 a b c d e f=0):Ok Tryz.prog 21 [.a (([.i .u8 K]++[.i .u8 U]++[.i .i8 A]++[.i .i8 B]++[.i .i8 C]++[.i .i8 D]++[.i .i8 E]++[.i .i8 F]))] [.c (.s 0 [])]:=by
 refine Ok.fn Tryz.func21 80 [.tmp 2] rfl<|aa<|ab<|ai<|aa<|aN 12 rfl rfl<|an 4<|ag (aj rfl (cJ (gw ⟨by omega,by omega⟩ ⟨by omega,by omega⟩) ea))<|an 4<|ag (aj rfl (cJ (gw ⟨by omega,by omega⟩ ⟨by omega,by omega⟩) eb))<|ag (aD (us:=(cR a++cR b)) ko fR rfl rfl rfl) ?_
 refine ba (ah fR rfl) rfl<|aR<|bg<|ai<|aa<|aN 12 rfl rfl<|an 4<|ag (aj rfl (cJ (gw ⟨by omega,by omega⟩ ⟨by omega,by omega⟩) ec))<|an 4<|ag (aj rfl (cJ (gw ⟨by omega,by omega⟩ ⟨by omega,by omega⟩) ed))<|ag (aD (us:=(cR c++cR d)) ko fR rfl rfl rfl) ?_
 refine ba (ah fR rfl) rfl<|aR<|bg<|ai<|aa<|aa<|ab<|am 2<|ak (dm (r:=K%3) rfl rfl (by decide) (Int.tmod_eq_emod_of_nonneg hK.1) rfl) ?_
 refine ak (df (c:=false) (mm rfl) (by simpa using hk2)) ?_
 refine ap<|bj rfl<|aq<|aa<|ab<|am 2<|ak (aj rfl (hS))<|am 3<|az (ah iK rfl) rfl<|dd (dw er rfl rfl rfl (lS) rfl rfl) ?_
 refine ai<|aa<|aa<|ab<|am 2<|ak (dm (r:=K%3) rfl rfl (by decide) (Int.tmod_eq_emod_of_nonneg hK.1) rfl) ?_
 refine ak (df (c:=true) (mm rfl) (by rw[hk];rfl)) ?_
 refine ap<|bP rfl<|cm 19 [6,999999] a7 (by kernel_rfl) rfl rfl<|an 6<|ag (aj rfl (cJ (gw ⟨by omega,by omega⟩ ⟨by omega,by omega⟩) ee))<|an 4<|ag (aj rfl (cJ (gw ⟨by omega,by omega⟩ ⟨by omega,by omega⟩) ef))<|ag (aD (us:=(cR e++cR f)) ko fR rfl rfl rfl) ?_
 refine ag (aj rfl (HU za zb zc zd ze zf hn))<|an 3<|fU (dw er rfl rfl rfl rfl lS rfl) rfl rfl rfl rfl ?_
 refine bK<|bg<|ap<|aa<|aa<|ab<|ai<|bP rfl<|aa<|ab<|ai<|al ?_
 exact ao (aC ae)
theorem Hr {K U A B C D E F:Int}(hK:0≤K∧K≤255) (hU:0≤U∧U≤255) (hA: -128≤A∧A≤127) (hB: -128≤B∧B≤127) (hC: -128≤C∧C≤127) (hD: -128≤D∧D≤127) (_hE: -128≤E∧E≤127) (_hF: -128≤F∧F≤127) {a b c d e f:Rat}(ea:qD A (uD U)=a) (eb:qD B (uD U)=b) (ec:qD C (uD U)=c) (ed:qD D (uD U)=d) (_ee:qD E (uD U)=e) (_ef:qD F (uD U)=f) (za:Rz 1 a) (zb:Rz 1 b) (zc:Rz 1 c) (zd:Rz 1 d) (_ze:Rz 1 e) (_zf:Rz 1 f) (hk1:K%3≠1) (hk2:K%3≠2) (hs:b-d=0∧c-a=0):Ok Tryz.prog 21 [.a (([.i .u8 K]++[.i .u8 U]++[.i .i8 A]++[.i .i8 B]++[.i .i8 C]++[.i .i8 D]++[.i .i8 E]++[.i .i8 F]))] [.c (.s 0 [])]:=by
 refine Ok.fn Tryz.func21 80 [.tmp 2] rfl<|aa<|ab<|ai<|aa<|aN 12 rfl rfl<|an 4<|ag (aj rfl (cJ (gw ⟨by omega,by omega⟩ ⟨by omega,by omega⟩) ea))<|an 4<|ag (aj rfl (cJ (gw ⟨by omega,by omega⟩ ⟨by omega,by omega⟩) eb))<|ag (aD (us:=(cR a++cR b)) ko fR rfl rfl rfl) ?_
 refine ba (ah fR rfl) rfl<|aR<|bg<|ai<|aa<|aN 12 rfl rfl<|an 4<|ag (aj rfl (cJ (gw ⟨by omega,by omega⟩ ⟨by omega,by omega⟩) ec))<|an 4<|ag (aj rfl (cJ (gw ⟨by omega,by omega⟩ ⟨by omega,by omega⟩) ed))<|ag (aD (us:=(cR c++cR d)) ko fR rfl rfl rfl) ?_
 refine ba (ah fR rfl) rfl<|aR<|bg<|ai<|aa<|aa<|ab<|am 2<|ak (dm (r:=K%3) rfl rfl (by decide) (Int.tmod_eq_emod_of_nonneg hK.1) rfl) ?_
 refine ak (df (c:=false) (mm rfl) (by simpa using hk2)) ?_
 refine ap<|bj rfl<|aq<|aa<|ab<|am 2<|ak (aj rfl (uo za zb zc zd hs))<|am 3<|az (ah iK rfl) rfl<|ai<|aa<|aa<|ab<|am 2 ?_
 refine ak (dm (r:=K%3) rfl rfl (by decide) (Int.tmod_eq_emod_of_nonneg hK.1) rfl) ?_
 refine ak (df (c:=false) (mm rfl) (by simpa using hk1)) ?_
 refine ap<|bj rfl<|aq<|aa<|aa<|ab<|ai<|bP rfl<|aa<|ab<|ai<|al ?_
 exact ao (aC ae)
theorem NK {K U A B C D E F:Int}(hK:0≤K∧K≤255) (hU:0≤U∧U≤255) (hA: -128≤A∧A≤127) (hB: -128≤B∧B≤127) (hC: -128≤C∧C≤127) (hD: -128≤D∧D≤127) (hE: -128≤E∧E≤127) (hF: -128≤F∧F≤127):Ok Tryz.prog 21 [.a (([.i .u8 K]++[.i .u8 U]++[.i .i8 A]++[.i .i8 B]++[.i .i8 C]++[.i .i8 D]++[.i .i8 E]++[.i .i8 F]))] [.c (.s ((qh K U A B C D E F).length) (bc bk (qh K U A B C D E F)))]:=by
 have u:=wa hU.1
 unfold qh
 by_cases hk:K%3=2
 ·rw[if_pos hk]
  by_cases hq:0<qD C (uD U)
  ·rw[if_pos hq];exact GQ hK hU hA hB hC hD hE hF rfl rfl rfl rfl rfl rfl (bz hA u) (bz hB u) (bz hC u) (bz hD u) (bz hE u) (bz hF u) hk hq
  ·rw[if_neg hq];exact HQ hK hU hA hB hC hD hE hF rfl rfl rfl rfl rfl rfl (bz hA u) (bz hB u) (bz hC u) (bz hD u) (bz hE u) (bz hF u) hk hq
 ·rw[if_neg hk]
  by_cases hk1:K%3=1
  ·rw[if_pos hk1]
   by_cases hn:m7 (qD A (uD U)) (qD B (uD U)) (qD C (uD U)) (qD D (uD U)) (qD E (uD U)) (qD F (uD U))=0
   ·rw[if_pos hn]
    by_cases hs:qD B (uD U)-qD D (uD U)=0∧qD C (uD U)-qD A (uD U)=0
    ·exact AH hK hU hA hB hC hD hE hF rfl rfl rfl rfl rfl rfl (bz hA u) (bz hB u) (bz hC u) (bz hD u) (bz hE u) (bz hF u) hk1 hk rfl (uo (bz hA u) (bz hB u) (bz hC u) (bz hD u) hs) hn
    ·exact AH hK hU hA hB hC hD hE hF rfl rfl rfl rfl rfl rfl (bz hA u) (bz hB u) (bz hC u) (bz hD u) (bz hE u) (bz hF u) hk1 hk rfl (Fw (bz hA u) (bz hB u) (bz hC u) (bz hD u) hs) hn
   ·rw[if_neg hn]
    by_cases hs:qD B (uD U)-qD D (uD U)=0∧qD C (uD U)-qD A (uD U)=0
    ·exact Bq hK hU hA hB hC hD hE hF rfl rfl rfl rfl rfl rfl (bz hA u) (bz hB u) (bz hC u) (bz hD u) (bz hE u) (bz hF u) hk1 hk rfl (uo (bz hA u) (bz hB u) (bz hC u) (bz hD u) hs) hn
    ·exact Bq hK hU hA hB hC hD hE hF rfl rfl rfl rfl rfl rfl (bz hA u) (bz hB u) (bz hC u) (bz hD u) (bz hE u) (bz hF u) hk1 hk rfl (Fw (bz hA u) (bz hB u) (bz hC u) (bz hD u) hs) hn
  ·rw[if_neg hk1]
   by_cases hs:qD B (uD U)-qD D (uD U)=0∧qD C (uD U)-qD A (uD U)=0
   ·rw[if_pos hs];exact Hr hK hU hA hB hC hD hE hF rfl rfl rfl rfl rfl rfl (bz hA u) (bz hB u) (bz hC u) (bz hD u) (bz hE u) (bz hF u) hk1 hk hs
   ·rw[if_neg hs];exact Jb hK hU hA hB hC hD hE hF rfl rfl rfl rfl rfl rfl (bz hA u) (bz hB u) (bz hC u) (bz hD u) (bz hE u) (bz hF u) hk1 hk hs
theorem yI {K U A B C D E F K' U' A' B' C' D' E' F' N:Int}(_hN:0≤N∧N≤255) {A0 Bl:List Cv}(hO1:Ok Tryz.prog 21 [.a (([.i .u8 K]++[.i .u8 U]++[.i .i8 A]++[.i .i8 B]++[.i .i8 C]++[.i .i8 D]++[.i .i8 E]++[.i .i8 F]))] [.c (.s ((A0).length) (bc bk (A0)))]) (hO2:Ok Tryz.prog 21 [.a (([.i .u8 K']++[.i .u8 U']++[.i .i8 A']++[.i .i8 B']++[.i .i8 C']++[.i .i8 D']++[.i .i8 E']++[.i .i8 F']))] [.c (.s ((Bl).length) (bc bk (Bl)))]) (h0:A0=[]):Ok Tryz.prog 6 [.a ((([.i .u8 K]++[.i .u8 U]++[.i .i8 A]++[.i .i8 B]++[.i .i8 C]++[.i .i8 D]++[.i .i8 E]++[.i .i8 F])++([.i .u8 K']++[.i .u8 U']++[.i .i8 A']++[.i .i8 B']++[.i .i8 C']++[.i .i8 D']++[.i .i8 E']++[.i .i8 F'])++[.i .u8 N]))] [.a (([.b false]++d8++d8++[.b false]++nc++nc)),.c (.b false)]:=by
 refine Ok.fn Tryz.func6 59 [.cell 2 39,.tmp 3] rfl<|aa<|ab<|am 1<|az (ah iK rfl) rfl<|ai<|aa<|aN 8 rfl rfl<|an 1<|ag (aw (([.i .u8 K]++[.i .u8 U]++[.i .i8 A]++[.i .i8 B]++[.i .i8 C]++[.i .i8 D]++[.i .i8 E]++[.i .i8 F])) GW rfl)<|ag (aj rfl (hO1))<|an 1<|ag (aw (([.i .u8 K']++[.i .u8 U']++[.i .i8 A']++[.i .i8 B']++[.i .i8 C']++[.i .i8 D']++[.i .i8 E']++[.i .i8 F'])) GW rfl)<|ag (aj rfl (hO2)) ?_
 refine bK<|ar<|ap<|aa<|aa<|ab<|am 2<|ak (df (c:=true) (mm rfl) (by rw[h0];rfl)) ?_
 refine ap<|bP rfl<|aa<|ab<|ak (aD (us:=([.b false]++d8++d8++[.b false]++nc++nc)) y6 iK rfl rfl rfl) ?_
 refine ai<|al ?_
 exact ao (fA (us:=([.b false]++d8++d8++[.b false]++nc++nc)) er rfl rfl (by kernel_rfl) (by kernel_rfl) (aC ae))
theorem Gp {K U A B C D E F K' U' A' B' C' D' E' F' N:Int}(hN:0≤N∧N≤255) {A0 Bl:List Cv}(hO1:Ok Tryz.prog 21 [.a (([.i .u8 K]++[.i .u8 U]++[.i .i8 A]++[.i .i8 B]++[.i .i8 C]++[.i .i8 D]++[.i .i8 E]++[.i .i8 F]))] [.c (.s ((A0).length) (bc bk (A0)))]) (hO2:Ok Tryz.prog 21 [.a (([.i .u8 K']++[.i .u8 U']++[.i .i8 A']++[.i .i8 B']++[.i .i8 C']++[.i .i8 D']++[.i .i8 E']++[.i .i8 F']))] [.c (.s ((Bl).length) (bc bk (Bl)))]) (hg:CvG (A0.getD 0 fq)) (h0:0<A0.length) (hB: ∀d∈Bl,d.good) (lB:Bl.length≤2):Ok Tryz.prog 6 [.a ((([.i .u8 K]++[.i .u8 U]++[.i .i8 A]++[.i .i8 B]++[.i .i8 C]++[.i .i8 D]++[.i .i8 E]++[.i .i8 F])++([.i .u8 K']++[.i .u8 U']++[.i .i8 A']++[.i .i8 B']++[.i .i8 C']++[.i .i8 D']++[.i .i8 E']++[.i .i8 F'])++[.i .u8 N]))] [.a (bk (((qe A0 Bl).getD (N.toNat%(qe A0 Bl).length) fq))),.c (.b true)]:=by
 have hA0:=h0
 have hpos:=xy (A0:=A0) (Bl:=Bl) hg.ne
 obtain⟨ix,eix⟩: ∃ix,ix=N.toNat%(qe A0 Bl).length:=⟨_,rfl⟩
 have hix:ix<(qe A0 Bl).length:=by rw[eix];exact Nat.mod_lt _ hpos
 have hCU: ∀p∈(dk (A0.getD 0 fq) Bl),GP p∧_:=vi hg.g hB
 have e1P:(qe A0 Bl).length=(pG (A0.getD 0 fq) (dk (A0.getD 0 fq) Bl)).length:=rfl
 refine Ok.fn Tryz.func6 59 [.cell 2 39,.tmp 3] rfl<|aa<|ab<|am 1<|az (ah iK rfl) rfl<|ai<|aa<|aN 8 rfl rfl<|an 1<|ag (aw (([.i .u8 K]++[.i .u8 U]++[.i .i8 A]++[.i .i8 B]++[.i .i8 C]++[.i .i8 D]++[.i .i8 E]++[.i .i8 F])) GW rfl)<|ag (aj rfl (hO1))<|an 1<|ag (aw (([.i .u8 K']++[.i .u8 U']++[.i .i8 A']++[.i .i8 B']++[.i .i8 C']++[.i .i8 D']++[.i .i8 E']++[.i .i8 F'])) GW rfl)<|ag (aj rfl (hO2)) ?_
 refine bK<|ar<|ap<|aa<|aa<|ab<|am 2<|ak (df (c:=false) (mm rfl) (by simpa using Nat.ne_of_gt h0)) ?_
 refine ap<|bj rfl<|aq<|aa<|ab<|ak (kY rfl) ?_
 refine ap ?_
 refine jF (ι:=Unit) (fun i=>⟨59,[(1,.p 1 0),(2,.p 2 0),(4,.v (.c (.s ((A0).length) (bc bk (A0))))),(5,.v (.c (.s ((Bl).length) (bc bk (Bl))))),(6,.v (.c (.s (((dk (A0.getD 0 fq) Bl)).length) (bc aA ((dk (A0.getD 0 fq) Bl))))))],[(1,26,(([.i .u8 K]++[.i .u8 U]++[.i .i8 A]++[.i .i8 B]++[.i .i8 C]++[.i .i8 D]++[.i .i8 E]++[.i .i8 F])++([.i .u8 K']++[.i .u8 U']++[.i .i8 A']++[.i .i8 B']++[.i .i8 C']++[.i .i8 D']++[.i .i8 E']++[.i .i8 F'])++[.i .u8 N])),(2,39,([.b false]++d8++d8++[.b false]++nc++nc))]⟩) ?_ ?_
 ·refine aa<|ab<|ai<|a8 ?_
  refine cz (ι:=Sum ({n:Nat // n≤Bl.length∧(dk (A0.getD 0 fq) (Bl.take n))=[]}) ({x9:Nat×Nat×List CellD // x9.1≤Bl.length∧(dk (A0.getD 0 fq) (Bl.take x9.1)).length≤x9.2.1∧x9.2.1≤maxLen∧x9.2.2.length=(x9.2.1-(dk (A0.getD 0 fq) (Bl.take x9.1)).length)*20})) (fun i=>match i with| .inl i=>⟨59,[(1,.p 1 0),(2,.p 2 0),(4,.v (.c (.s ((A0).length) (bc bk (A0))))),(5,.v (.c (.s ((Bl).length) (bc bk (Bl))))),(6,.z),(7,.v (.c (.i .i64 (i.1:Int))))],[(1,26,(([.i .u8 K]++[.i .u8 U]++[.i .i8 A]++[.i .i8 B]++[.i .i8 C]++[.i .i8 D]++[.i .i8 E]++[.i .i8 F])++([.i .u8 K']++[.i .u8 U']++[.i .i8 A']++[.i .i8 B']++[.i .i8 C']++[.i .i8 D']++[.i .i8 E']++[.i .i8 F'])++[.i .u8 N])),(2,39,([.b false]++d8++d8++[.b false]++nc++nc))]⟩| .inr i=>⟨59,[(1,.p 1 0),(2,.p 2 0),(4,.v (.c (.s ((A0).length) (bc bk (A0))))),(5,.v (.c (.s ((Bl).length) (bc bk (Bl))))),(6,.o 41 ((dk (A0.getD 0 fq) (Bl.take i.1.1)).length) i.1.2.1),(7,.v (.c (.i .i64 (i.1.1:Int))))],[(1,26,(([.i .u8 K]++[.i .u8 U]++[.i .i8 A]++[.i .i8 B]++[.i .i8 C]++[.i .i8 D]++[.i .i8 E]++[.i .i8 F])++([.i .u8 K']++[.i .u8 U']++[.i .i8 A']++[.i .i8 B']++[.i .i8 C']++[.i .i8 D']++[.i .i8 E']++[.i .i8 F'])++[.i .u8 N])),(2,39,([.b false]++d8++d8++[.b false]++nc++nc)),(41,37,bc aA (dk (A0.getD 0 fq) (Bl.take i.1.1))++i.1.2.2)]⟩) (fun i=>match i with| .inl i=>Bl.length-i.1| .inr i=>Bl.length-i.1.1) (.inl ⟨0,Nat.zero_le _,rfl⟩) (aW ⟨rfl,rfl,rfl,rfl,rfl,rfl,trivial⟩ ⟨rfl,rfl,trivial⟩ rfl) ?_
  rintro(⟨n,h2,h3⟩|⟨⟨n,c,rs⟩,h2,h3,h4,h5⟩)
  ·replace h2:n≤Bl.length:=h2
   replace h3:(dk (A0.getD 0 fq) (Bl.take n))=[]:=h3
   show Dw _ _ ⟨59,[(1,.p 1 0),(2,.p 2 0),(4,.v (.c (.s ((A0).length) (bc bk (A0))))),(5,.v (.c (.s ((Bl).length) (bc bk (Bl))))),(6,.z),(7,.v (.c (.i .i64 (n:Int))))],[(1,26,(([.i .u8 K]++[.i .u8 U]++[.i .i8 A]++[.i .i8 B]++[.i .i8 C]++[.i .i8 D]++[.i .i8 E]++[.i .i8 F])++([.i .u8 K']++[.i .u8 U']++[.i .i8 A']++[.i .i8 B']++[.i .i8 C']++[.i .i8 D']++[.i .i8 E']++[.i .i8 F'])++[.i .u8 N])),(2,39,([.b false]++d8++d8++[.b false]++nc++nc))]⟩ _
   refine aa<|aa<|ab<|ai ?_
   refine ay rfl (fun hc1=>?_) (fun hc1=>?_)
   ·have g1:n<Bl.length:=by have:=of_decide_eq_true hc1;omega
    refine aq<|aa<|a8<|aa<|aN 13 rfl rfl<|an 1<|ag (bb (us:=bk (A0.getD 0 fq)++bc bk (A0.drop (0+1))) CS rfl rfl (by omega) (aX aY _) (ce aY (bR hA0)) rfl) ?_
    refine ag (bS (us:=bk (A0.getD 0 fq)) er rfl (iZ _ _) (aY _) rfl) ?_
    refine an 2<|ag (bb (us:=bk (Bl.getD n fq)++bc bk (Bl.drop (n+1))) CS rfl rfl (by omega) (aX aY _) (ce aY (bR g1)) rfl) ?_
    refine ag (bS (us:=bk (Bl.getD n fq)) er rfl (iZ _ _) (aY _) rfl) ?_
    refine ag (aj rfl (Aq hg.g (hB _ (j9 g1))))<|bK<|ar<|ap ?_
    rcases Nat.eq_zero_or_pos (ck (A0.getD 0 fq) (Bl.getD n fq)).length with hq0|hq0
    ·--region 9
     refine ab<|am 2<|ak (sR gS rfl rfl hq0 rfl) ?_
     refine ai<|ab<|am 1<|ak (aJ (r:=((n+1:Nat):Int)) rfl rfl ((aT (by omega) (by omega)).trans (congrArg some (by omega))) rfl) ?_
     refine ai ?_
     exact⟨.inl ⟨n+1,g1,by rw[gO g1,h3,List.nil_append];exact List.length_eq_zero_iff.1 hq0⟩,aW ⟨rfl,rfl,rfl,rfl,rfl,rfl,trivial⟩ ⟨rfl,rfl,trivial⟩ rfl,by show Bl.length-(n+1)<Bl.length-n;omega⟩
    ·--region 9
     refine ab<|am 2 ?_
     refine Ck (q:=(ck (A0.getD 0 fq) (Bl.getD n fq)).length) (ys:=bc aA ((ck (A0.getD 0 fq) (Bl.getD n fq)))) (zs':=bc aA (ck (A0.getD 0 fq) (Bl.getD n fq))) gS rfl rfl (aX aM _) (hq0) (by have:=j4 (a:=(A0.getD 0 fq)) (c:=(Bl.getD n fq));omega) (oJ (by have:=j4 (a:=(A0.getD 0 fq)) (c:=(Bl.getD n fq));omega)) rfl (rfl) rfl (fun cg2 rg2 hga2 hgb2 hgc2=>?_)
     refine ai<|ab<|am 1<|ak (aJ (r:=((n+1:Nat):Int)) rfl rfl ((aT (by omega) (by omega)).trans (congrArg some (by omega))) rfl) ?_
     refine ai ?_
     exact⟨.inr ⟨⟨n+1,cg2,rg2⟩,g1,by show(dk (A0.getD 0 fq) (Bl.take (n+1))).length≤cg2;rw[gO g1,h3];exact hga2,hgb2,by show rg2.length=(cg2-(dk (A0.getD 0 fq) (Bl.take (n+1))).length)*20;rw[gO g1,h3];exact hgc2⟩,aW ⟨rfl,rfl,rfl,rfl,congrArg (fun q=>some (DV.o 41 q cg2)) (by rw[gO g1,h3];rfl),rfl,trivial⟩ ⟨rfl,rfl,congrArg (fun q=>some (37,bc aA q++rg2)) (by rw[gO g1,h3];rfl),trivial⟩ rfl,by show Bl.length-(n+1)<Bl.length-n;omega⟩
   ·have m1:[]=(dk (A0.getD 0 fq) Bl):=by rw[←h3,List.take_of_length_le (by have:=of_decide_eq_false hc1;omega)]
    refine Dd (t:=6) rfl<|cd ?_
    exact⟨(),aW ⟨rfl,rfl,rfl,rfl,congrArg (fun q=>some (DV.v (.c (.s (List.length q) (bc aA q))))) (show([]:List Pt)=(dk (A0.getD 0 fq) Bl) from m1),trivial⟩ ⟨rfl,rfl,trivial⟩ rfl⟩
  ·dsimp only at h2 h3 h4 h5
   have h6:(dk (A0.getD 0 fq) (Bl.take n)).length≤8:=Nat.le_trans ri (by rw[List.length_take];omega)
   show Dw _ _ ⟨59,[(1,.p 1 0),(2,.p 2 0),(4,.v (.c (.s ((A0).length) (bc bk (A0))))),(5,.v (.c (.s ((Bl).length) (bc bk (Bl))))),(6,.o 41 ((dk (A0.getD 0 fq) (Bl.take n)).length) c),(7,.v (.c (.i .i64 (n:Int))))],[(1,26,(([.i .u8 K]++[.i .u8 U]++[.i .i8 A]++[.i .i8 B]++[.i .i8 C]++[.i .i8 D]++[.i .i8 E]++[.i .i8 F])++([.i .u8 K']++[.i .u8 U']++[.i .i8 A']++[.i .i8 B']++[.i .i8 C']++[.i .i8 D']++[.i .i8 E']++[.i .i8 F'])++[.i .u8 N])),(2,39,([.b false]++d8++d8++[.b false]++nc++nc)),(41,37,bc aA (dk (A0.getD 0 fq) (Bl.take n))++rs)]⟩ _
   refine aa<|aa<|ab<|ai ?_
   refine ay rfl (fun hc3=>?_) (fun hc3=>?_)
   ·have g1:n<Bl.length:=by have:=of_decide_eq_true hc3;omega
    have h7:=j4 (a:=(A0.getD 0 fq)) (c:=(Bl.getD n fq))
    refine aq<|aa<|a8<|aa<|aN 13 rfl rfl<|an 1<|ag (bb (us:=bk (A0.getD 0 fq)++bc bk (A0.drop (0+1))) CS rfl rfl (by omega) (aX aY _) (ce aY (bR hA0)) rfl) ?_
    refine ag (bS (us:=bk (A0.getD 0 fq)) er rfl (iZ _ _) (aY _) rfl) ?_
    refine an 2<|ag (bb (us:=bk (Bl.getD n fq)++bc bk (Bl.drop (n+1))) CS rfl rfl (by omega) (aX aY _) (ce aY (bR g1)) rfl) ?_
    refine ag (bS (us:=bk (Bl.getD n fq)) er rfl (iZ _ _) (aY _) rfl) ?_
    refine ag (aj rfl (Aq hg.g (hB _ (j9 g1))))<|bK<|ar<|ap<|ab<|am 2 ?_
    refine FT (n:=(dk (A0.getD 0 fq) (Bl.take n)).length) (c:=c) (q:=((ck (A0.getD 0 fq) (Bl.getD n fq))).length) (us:=bc aA (dk (A0.getD 0 fq) (Bl.take n))) (rest:=rs) (N':=(dk (A0.getD 0 fq) (Bl.take n)).length+(ck (A0.getD 0 fq) (Bl.getD n fq)).length) (zs':=bc aA (dk (A0.getD 0 fq) (Bl.take n))++bc aA (ck (A0.getD 0 fq) (Bl.getD n fq))) gS rfl rfl rfl (rfl) (aX aM _) (h5) (aX aM _) (by decide) (by omega) (by assumption) (by omega) (oJ (by omega)) (.inl rfl) (rfl) (rfl) rfl (fun cg4 rg4 hga4 hgb4 hgc4=>?_)
    refine ai<|ab<|am 1<|ak (aJ (r:=((n+1:Nat):Int)) rfl rfl ((aT (by omega) (by omega)).trans (congrArg some (by omega))) rfl) ?_
    refine ai ?_
    exact⟨.inr ⟨⟨n+1,cg4,rg4⟩,g1,by show(dk (A0.getD 0 fq) (Bl.take (n+1))).length≤cg4;rw[gO g1,List.length_append];exact hga4,hgb4,by show rg4.length=(cg4-(dk (A0.getD 0 fq) (Bl.take (n+1))).length)*20;rw[gO g1,List.length_append];exact hgc4⟩,aW ⟨rfl,rfl,rfl,rfl,congrArg (fun q=>some (DV.o 41 q cg4)) (by rw[gO g1,List.length_append]),rfl,trivial⟩ ⟨rfl,rfl,congrArg (fun q=>some (37,q++rg4)) (by rw[gO g1,iA]),trivial⟩ rfl,by show Bl.length-(n+1)<Bl.length-n;omega⟩
   ·have m1:(dk (A0.getD 0 fq) (Bl.take n))=(dk (A0.getD 0 fq) Bl):=by rw[List.take_of_length_le (by have:=of_decide_eq_false hc3;omega)]
    refine fG (t:=6) (m:=20) (us:=bc aA (dk (A0.getD 0 fq) (Bl.take n))) rfl rfl (ss (n:=(dk (A0.getD 0 fq) (Bl.take n)).length) (aX aM _) (by assumption) (by omega)) (by omega) (by assumption) (nP (aX aM _))<|cd ?_
    exact⟨(),aW ⟨rfl,rfl,rfl,rfl,congrArg (fun q=>some (DV.v (.c (.s (List.length q) (bc aA q))))) m1,trivial⟩ ⟨rfl,rfl,trivial⟩ rfl⟩
 ·rintro⟨⟩
  show Dw _ _ ⟨59,[(1,.p 1 0),(2,.p 2 0),(4,.v (.c (.s ((A0).length) (bc bk (A0))))),(5,.v (.c (.s ((Bl).length) (bc bk (Bl))))),(6,.v (.c (.s (((dk (A0.getD 0 fq) Bl)).length) (bc aA ((dk (A0.getD 0 fq) Bl))))))],[(1,26,(([.i .u8 K]++[.i .u8 U]++[.i .i8 A]++[.i .i8 B]++[.i .i8 C]++[.i .i8 D]++[.i .i8 E]++[.i .i8 F])++([.i .u8 K']++[.i .u8 U']++[.i .i8 A']++[.i .i8 B']++[.i .i8 C']++[.i .i8 D']++[.i .i8 E']++[.i .i8 F'])++[.i .u8 N])),(2,39,([.b false]++d8++d8++[.b false]++nc++nc))]⟩ _
  refine aa<|ab<|am 1<|ak (bb (us:=bk (A0.getD 0 fq)++bc bk (A0.drop (0+1))) CS rfl rfl (by omega) (aX aY _) (ce aY (bR hA0)) rfl) ?_
  refine ak (bS (us:=bk (A0.getD 0 fq)) er rfl (iZ _ _) (aY _) rfl) ?_
  refine am 1<|ak (aj rfl (Gl hg.g (fun p hp=>(hCU p hp).1) (Nat.le_trans ri (by omega)) (fun p hp=>(hCU p hp).2) (tk hg.ne)))<|ai<|aa<|ab<|am 3<|ak (bF (r:=N) Pf P2 rfl (l9 (by omega) (by omega)) rfl) ?_
  refine am 2<|ak (dm (r:=(ix:Int)) rfl rfl (by omega) (by rw[eix,Int.tmod_eq_emod_of_nonneg hN.1,Int.natCast_emod,Int.toNat_of_nonneg hN.1];rfl) rfl) ?_
  refine ak (bb (us:=bk ((qe A0 Bl).getD ix fq)++bc bk ((qe A0 Bl).drop (ix+1))) CS rfl rfl (by omega) (aX aY _) (ce aY (bR hix)) rfl) ?_
  refine ak (bS (us:=bk (((qe A0 Bl).getD ix fq))) er rfl (iZ _ _) (aY _) rfl) ?_
  refine dd (dw er rfl rfl rfl (aY _) rfl rfl) ?_
  refine ai<|al ?_
  rw[←eix]
  exact ao (fA (us:=bk (((qe A0 Bl).getD ix fq))) er rfl rfl (ct _) (aY _) (aC ae))
theorem Ao {n:Int}(n0: -128≤n) (n1:n≤127):Ok Tryz.prog 19 [.c (.i .i8 n)] [dR (Rat.divInt n 16)]:=by
 refine Ok.fn Tryz.func19 6 [.cell 2 31] rfl<|aa<|ab<|az (ah br rfl) rfl<|ap<|aa<|ab<|am 1<|ak (bF (r:=n) JX r8 rfl (l9 (by omega) (by omega)) rfl) ?_
 refine ak (aj rfl (FL (by omega) (by omega) (by omega) (by omega) (by omega)))<|ai<|al ?_
 exact ao (bh au rfl ae)
theorem NM {v:Cv}(hv:v.good) {x:Rat}(hx:Rz 3 x):Ok Tryz.prog 18 [.a (bk v),dR x] [.c (.i .i64 (NF v x)),.c (.i .i64 (N3 v x))]:=by
 cases v with
 |seg l p q=>exact Oh hv.1 hx
 |arc k w p q=>
  cases w with
  |true=>exact zu hv.1 hv.2.1 hv.2.2 hx
  |false=>exact xE hv.1 hv.2.1 hv.2.2 hx
theorem NP {v:Cv}(hv:v.good) {x:Rat}(hx:Rz 3 x):Ok Tryz.prog 20 [.a (bk v),dR x] [.c (.i .i64 (NF v x)),.c (.i .i64 (N3 v x))]:=by
 cases v with
 |seg l p q=>exact HZ hv.1 hx
 |arc k w p q=>exact Lt hv.1 hv.2.1 hv.2.2 hx
theorem CL {K U A B C D E F K' U' A' B' C' D' E' F' N:Int}{c:Int}(_c0: -128≤c) (_c1:c≤127) (hA:Ok Tryz.prog 17 [] [.c (.b true)]) (hO:Ok Tryz.prog 6 [.a ((([.i .u8 K]++[.i .u8 U]++[.i .i8 A]++[.i .i8 B]++[.i .i8 C]++[.i .i8 D]++[.i .i8 E]++[.i .i8 F])++([.i .u8 K']++[.i .u8 U']++[.i .i8 A']++[.i .i8 B']++[.i .i8 C']++[.i .i8 D']++[.i .i8 E']++[.i .i8 F'])++[.i .u8 N]))] [.a (([.b false]++d8++d8++[.b false]++nc++nc)),.c (.b false)]):Ok Tryz.prog 5 [.a ((([.i .u8 K]++[.i .u8 U]++[.i .i8 A]++[.i .i8 B]++[.i .i8 C]++[.i .i8 D]++[.i .i8 E]++[.i .i8 F])++([.i .u8 K']++[.i .u8 U']++[.i .i8 A']++[.i .i8 B']++[.i .i8 C']++[.i .i8 D']++[.i .i8 E']++[.i .i8 F'])++[.i .u8 N])),.c (.i .i8 c)] [.c (.b true)]:=by
 refine Ok.fn Tryz.func5 42 [.tmp 4] rfl<|aa<|ab<|ai<|aa<|aa<|ab<|ak (aj rfl (hA))<|ai<|bj rfl<|aq<|aa<|ab<|am 1 ?_
 refine ak (aj rfl (hO))<|am 3<|az (ah iK rfl) rfl<|ai<|aa<|aa<|ab<|ai<|bP rfl<|aa<|ab<|ai<|al ?_
 exact ao (aC ae)
theorem Iy {K U A B C D E F K' U' A' B' C' D' E' F' N:Int}{c:Int}(c0: -128≤c) (c1:c≤127) (hA:Ok Tryz.prog 17 [] [.c (.b true)]) {v:Cv}(hv:v.good) (hO:Ok Tryz.prog 6 [.a ((([.i .u8 K]++[.i .u8 U]++[.i .i8 A]++[.i .i8 B]++[.i .i8 C]++[.i .i8 D]++[.i .i8 E]++[.i .i8 F])++([.i .u8 K']++[.i .u8 U']++[.i .i8 A']++[.i .i8 B']++[.i .i8 C']++[.i .i8 D']++[.i .i8 E']++[.i .i8 F'])++[.i .u8 N]))] [.a (bk v),.c (.b true)]):Ok Tryz.prog 5 [.a ((([.i .u8 K]++[.i .u8 U]++[.i .i8 A]++[.i .i8 B]++[.i .i8 C]++[.i .i8 D]++[.i .i8 E]++[.i .i8 F])++([.i .u8 K']++[.i .u8 U']++[.i .i8 A']++[.i .i8 B']++[.i .i8 C']++[.i .i8 D']++[.i .i8 E']++[.i .i8 F'])++[.i .u8 N])),.c (.i .i8 c)] [.c (.b true)]:=by
 have hx:Rz 3 (Rat.divInt c 16):=(Rz.of (k:=1) (ij (by omega) (by omega)) (ij (by decide) (by decide)) (by decide)).m_
 refine Ok.fn Tryz.func5 42 [.tmp 4] rfl<|aa<|ab<|ai<|aa<|aa<|ab<|ak (aj rfl (hA))<|ai<|bj rfl<|aq<|aa<|ab<|am 1 ?_
 refine ak (aj rfl (hO))<|am 3<|az (ah iK rfl) rfl<|dd (dw er rfl rfl rfl (aY _) rfl rfl) ?_
 refine ai<|aa<|aa<|ab<|ai<|bj rfl<|aq<|aa<|aN 9 rfl rfl<|ag (bH (us:=bk v) er rfl rfl (by rw[List.drop_zero];exact List.take_of_length_le (Nat.le_of_eq (aY _))) (aY _) rfl) ?_
 refine an 1<|ag (aj rfl (Ao (by omega) (by omega)))<|ag (aj rfl (NM hv hx))<|bK<|ar<|ap<|aa<|aN 9 rfl rfl<|ag (bH (us:=bk v) er rfl rfl (by rw[List.drop_zero];exact List.take_of_length_le (Nat.le_of_eq (aY _))) (aY _) rfl) ?_
 refine an 1<|ag (aj rfl (Ao (by omega) (by omega)))<|ag (aj rfl (NP hv hx))<|bK<|ar<|ap<|aa<|ab<|am 2<|ak (df (c:=true) (mm rfl) (beq_self_eq_true _)) ?_
 refine am 3<|ak (df (c:=true) (mm rfl) (beq_self_eq_true _)) ?_
 refine ai<|al ?_
 exact ao (aC ae)
structure Pl where
 b:Nat
 z:Nat
inductive AV where
 |b (v:Bool)
 |i (k:IntKind) (n:Int)
 |l (x:Nat)
 |p (k off:Nat)
 |s (k off n lo:Nat) (ex:Bool) (m:Nat)
 |z
 |ev
 |np
 |f0 (g:FuncId)
 |fc (x y:AV)
def AV.fn:AV→Option (FuncId×List AV)
 | .f0 g=>some (g,[])
 | .fc x y=>match y.fn with
   |some (g,xs)=>some (g,x::xs)
   |none=>none
 |_=>none
inductive RdA (A Z:Nat→Prop) (w:World) (β:Nat→Pl):Value→AV→Prop
 |b (v:Bool):RdA A Z w β (.bool v) (.b v)
 |i (k:IntKind) (n:Int):RdA A Z w β (.int k n) (.i k n)
 |l (v:Value) (x:Nat):RdC Z w v (cL x)→RdA A Z w β v (.l x)
 |p (k off:Nat):A k→RdA A Z w β (.pointer (some ⟨(β k).b,off,none⟩)) (.p k off)
 |s (k off n lo:Nat) (ex:Bool) (m c:Nat):A k→n≤lo→lo≤c→c≤maxLen→(ex=true→c=lo)→off+c*m≤(β k).z→RdA A Z w β (.slice (some ⟨(β k).b,off,none⟩) n c) (.s k off n lo ex m)
 |z:RdA A Z w β (.slice none 0 0) .z
 |ev (a:Option Addr) (c:Nat):c≤maxLen→(∀ad,a=some ad→ad.spot=none)→RdA A Z w β (.slice a 0 c) .ev
 |np:RdA A Z w β (.pointer none) .np
 |f (g:FuncId) (cs:Array Value) (xs:List AV) (y:AV):y.fn=some (g,xs)→cs.size=xs.length→(∀(j:Nat) (v:Value) (x:AV),cs[j]? =some v→xs[j]? =some x→RdA A Z w β v x)→RdA A Z w β (.func (.func g) #[] cs) y
section
variable {A A' Z Z':Nat→Prop}{w w':World}{β β':Nat→Pl}
theorem RdA.mono (hk:Keep Z Z' w w') (hA: ∀k,A k→A' k) (hβ: ∀k,A k→β' k=β k) {v:Value}{x:AV}(h:RdA A Z w β v x):RdA A' Z' w' β' v x:=by
 induction h with
 |b v=>exact .b v
 |i k n=>exact .i k n
 |l v x h=>exact .l v x (h.keep hk)
 |p k off h=>rw[←hβ k h];exact .p k off (hA k h)
 |s k off n lo ex m c h h1 h2 h3 h4 h5=>
  rw[←hβ k h] at h5⊢
  exact .s k off n lo ex m c (hA k h) h1 h2 h3 h4 h5
 |z=>exact .z
 |ev a c h h2=>exact .ev a c h h2
 |np=>exact .np
 |f g cs xs y h0 h _ ih=>exact .f g cs xs y h0 h ih
def RdAs (A Z:Nat→Prop) (w:World) (β:Nat→Pl) (vs:List Value) (xs:List AV):Prop:=vs.length=xs.length∧ ∀(j:Nat) (v:Value) (x:AV),vs[j]? =some v→xs[j]? =some x→RdA A Z w β v x
theorem RdAs.mono (hk:Keep Z Z' w w') (hA: ∀k,A k→A' k) (hβ: ∀k,A k→β' k=β k) {vs:List Value}{xs:List AV}(h:RdAs A Z w β vs xs):RdAs A' Z' w' β' vs xs:=⟨h.1,fun j v x hv hx=>(h.2 j v x hv hx).mono hk hA hβ⟩
theorem RdAs.nil:RdAs A Z w β [] []:=⟨rfl,fun j v x hv=>by simp at hv⟩
theorem RdAs.cons {v:Value}{x:AV}{vs:List Value}{xs:List AV}(h:RdA A Z w β v x) (hs:RdAs A Z w β vs xs):RdAs A Z w β (v::vs) (x::xs):=by
 refine⟨by simp[hs.1],fun j u y hu hy=>?_⟩
 cases j with
 |zero=>simp at hu hy;subst hu hy;exact h
 |succ j=>simp at hu hy;exact hs.2 j u y hu hy
theorem RdAs.uncons {v:Value}{x:AV}{vs:List Value}{xs:List AV}(h:RdAs A Z w β (v::vs) (x::xs)):RdA A Z w β v x∧RdAs A Z w β vs xs:=
 ⟨h.2 0 v x rfl rfl,by have:=h.1;simpa using this,fun j u y hu hy=>h.2 (j+1) u y (by simpa using hu) (by simpa using hy)⟩
theorem RdAs.append {vs vs':List Value}{us us':List AV}(h:RdAs A Z w β vs us) (h':RdAs A Z w β vs' us'):RdAs A Z w β (vs++vs') (us++us'):=by
 refine⟨by simp[h.1,h'.1],fun j v u hv hu=>?_⟩
 by_cases hj:j<vs.length
 ·rw[List.getElem?_append_left hj] at hv
  rw[List.getElem?_append_left (by rw[←h.1];exact hj)] at hu
  exact h.2 j v u hv hu
 ·rw[List.getElem?_append_right (by omega)] at hv
  rw[List.getElem?_append_right (by rw[←h.1];omega)] at hu
  rw[←h.1] at hu
  exact h'.2 _ v u hv hu
theorem RdAs.drop {vs:List Value}{us:List AV}(h:RdAs A Z w β vs us) (k:Nat):RdAs A Z w β (vs.drop k) (us.drop k):=
 ⟨by simp[h.1],fun j v u hv hu=>h.2 (k+j) v u (by simpa using hv) (by simpa using hu)⟩
theorem RdAs.take {vs:List Value}{us:List AV}(h:RdAs A Z w β vs us) (k:Nat):RdAs A Z w β (vs.take k) (us.take k):=by
 refine⟨by simp[h.1],fun j v u hv hu=>?_⟩
 rw[List.getElem?_take] at hv hu
 split at hv
 ·rename_i hj;rw[if_pos hj] at hu;exact h.2 j v u hv hu
 ·cases hv
theorem RdC.two {v:Value}{u:CellD}(h:RdC Z w v u):v.cells= #[v]∧v.oneCell'=true:=by cases h<;>exact⟨rfl,rfl⟩
theorem RdA.one {v:Value}{x:AV}(h:RdA A Z w β v x):v.cells= #[v]∧v.oneCell'=true:=by
 cases h with
 |l v x h=>exact h.two
 |_=>exact⟨rfl,rfl⟩
inductive Rp where
 |e
 |c (x:AV)
 |n (ls:Nat) (pu:Bool) (l r:Rp)
def Rp.flat:Rp→List AV
 | .e=>[]
 | .c x=>[x]
 | .n _ _ l r=>l.flat++r.flat
inductive XD where
 |c (x:AV)
 |a (n:Nat) (r:Rp)
def XD.cells:XD→List AV
 | .c x=>[x]
 | .a _ r=>r.flat
inductive XV where
 |c (x:AV)
 |a (n:Nat) (r:Rp)
 |t (ds:List XD)
 |u
def RdD (A Z:Nat→Prop) (w:World) (β:Nat→Pl) (v:Value):XD→Prop
 | .c x=>RdA A Z w β v x
 | .a _ r=> ∃cs:Array Value,v=.agg cs∧RdAs A Z w β cs.toList r.flat
def RdDs (A Z:Nat→Prop) (w:World) (β:Nat→Pl) (vs:List Value) (ds:List XD):Prop:=vs.length=ds.length∧ ∀(j:Nat) (v:Value) (d:XD),vs[j]? =some v→ds[j]? =some d→RdD A Z w β v d
def RdX2 (A Z:Nat→Prop) (w:World) (β:Nat→Pl) (v:Value):XV→Prop
 | .c x=>RdD A Z w β v (.c x)
 | .a n r=>RdD A Z w β v (.a n r)
 | .t ds=> ∃vs:Array Value,v=.tuple vs∧RdDs A Z w β vs.toList ds
 | .u=>v=undef
theorem RdD.mono (hk:Keep Z Z' w w') (hA: ∀k,A k→A' k) (hβ: ∀k,A k→β' k=β k) {v:Value}{d:XD}(h:RdD A Z w β v d):RdD A' Z' w' β' v d:=by
 cases d with
 |c x=>exact RdA.mono hk hA hβ h
 |a n r=>obtain⟨cs,e,h⟩:=h;exact⟨cs,e,h.mono hk hA hβ⟩
theorem RdDs.mono (hk:Keep Z Z' w w') (hA: ∀k,A k→A' k) (hβ: ∀k,A k→β' k=β k) {vs:List Value}{ds:List XD}(h:RdDs A Z w β vs ds):RdDs A' Z' w' β' vs ds:=⟨h.1,fun j v d hv hd=>(h.2 j v d hv hd).mono hk hA hβ⟩
theorem RdX2.mono (hk:Keep Z Z' w w') (hA: ∀k,A k→A' k) (hβ: ∀k,A k→β' k=β k) {v:Value}{x:XV}(h:RdX2 A Z w β v x):RdX2 A' Z' w' β' v x:=by
 cases x with
 |c x=>exact RdD.mono hk hA hβ (d:=.c x) h
 |a n r=>exact RdD.mono hk hA hβ (d:=.a n r) h
 |t ds=>obtain⟨vs,e,h⟩:=h;exact⟨vs,e,h.mono hk hA hβ⟩
 |u=>exact h
theorem RdDs.nil:RdDs A Z w β [] []:=⟨rfl,fun j v x hv=>by simp at hv⟩
theorem RdD.cells {v:Value}{d:XD}(h:RdD A Z w β v d):RdAs A Z w β v.cells.toList d.cells:=by
 cases d with
 |c x=>
  have h:RdA A Z w β v x:=h
  rw[h.one.1];exact RdAs.cons h RdAs.nil
 |a n r=>obtain⟨cs,rfl,h⟩:=h;exact h
theorem RdAs.one {vs:List Value}{xs:List AV}(h:RdAs A Z w β vs xs): ∀v∈vs,v.oneCell'=true:=by
 intro v hv
 obtain⟨j,hj⟩:=List.getElem?_of_mem hv
 have hlt:j<xs.length:=by rw[←h.1];exact(List.getElem?_eq_some_iff.1 hj).1
 exact(h.2 j v _ hj (List.getElem?_eq_getElem hlt)).one.2
end
abbrev HF:=Nat→Option (TypeId×List AV)
abbrev TX:=Nat→Option XV
def Zs (V:Nat→Prop) (H:HF) (β:Nat→Pl):Nat→Prop:=fun b=>V b∨ ∃k,H k≠none∧(β k).b=b
structure Mem (V A:Nat→Prop) (H:HF) (β:Nat→Pl) (w:World):Prop where
 vlt: ∀b,V b→b<w.heap.size
 dom: ∀k,H k≠none→A k
 lt: ∀k,A k→(β k).b<w.heap.size
 inj: ∀k l,H k≠none→H l≠none→(β k).b=(β l).b→k=l
 clr: ∀k,H k≠none→ ¬V (β k).b
 box: ∀k U cs,H k=some (U,cs)→ ∃vs:Array Value,w.heap[(β k).b]? =some (.cells vs U (0,0))∧vs.size=(β k).z∧cs.length≤vs.size∧RdAs A (Zs V H β) w β (vs.toList.take cs.length) cs
def Ad (A:Nat→Prop) (N N':Nat):Nat→Prop:=fun k=>A k∨(N≤k∧k<N')
structure Hst (N N':Nat) (A:Nat→Prop) (H:HF) (β:Nat→Pl) (w:World) (H':HF) (β':Nat→Pl) (w':World):Prop where
 os:w'.os=w.os
 tape:w'.tape=w.tape
 output:w'.output=w.output
 size:w.heap.size≤w'.heap.size
 blk: ∀b,b<w.heap.size→(∀k,H k≠none→(β k).b≠b)→w'.heap[b]? =w.heap[b]?
 same: ∀k,A k→β' k=β k
 own: ∀k,H' k≠none→w.heap.size≤(β' k).b∨ ∃l,H l≠none∧(β l).b=(β' k).b
 nam: ∀k,H' k≠none→H k≠none∨(N≤k∧k<N')
section
variable {V A A':Nat→Prop}{H H' H2:HF}{β β' β2:Nat→Pl}{w w' w2:World}{N N' N2:Nat}
theorem Hst.refl:Hst N N' A H β w H β w:=
 ⟨rfl,rfl,rfl,Nat.le_refl _,fun _ _ _=>rfl,fun _ _=>rfl,fun k hk=>.inr ⟨k,hk,rfl⟩,fun _ h=>.inl h⟩
theorem Hst.wide {M M':Nat}(h:Hst N N' A H β w H' β' w') (h1:M≤N) (h2:N'≤M'):Hst M M' A H β w H' β' w':=
 ⟨h.os,h.tape,h.output,h.size,h.blk,h.same,h.own,fun k hk=>(h.nam k hk).imp id fun g=>⟨Nat.le_trans h1 g.1,Nat.lt_of_lt_of_le g.2 h2⟩⟩
theorem Hst.keep (_hm:Mem V A H β w) (h:Hst N N' A H β w H' β' w'):Keep (Zs V H β) (Zs V H' β') w w':=by
 refine⟨h.size,fun b hb hz=>h.blk b hb (fun k hk e=>hz (.inr ⟨k,hk,e⟩)),fun b hb hz=>?_⟩
 rcases hz with hz|⟨k,hk,e⟩
 ·exact .inl hz
 ·rcases h.own k hk with g|⟨l,hl,g⟩
  ·omega
  ·exact .inr ⟨l,hl,g.trans e⟩
theorem Hst.trans {M M':Nat}(h:Hst M M' A H β w H' β' w') (hA: ∀k,A k→A' k) (h2:Hst M M' A' H' β' w' H2 β2 w2):Hst M M' A H β w H2 β2 w2:=by
 refine⟨h2.os.trans h.os,h2.tape.trans h.tape,h2.output.trans h.output,Nat.le_trans h.size h2.size,fun b hb hz=>?_,fun k hk=>(h2.same k (hA k hk)).trans (h.same k hk),fun k hk=>?_,fun k hk=>?_⟩
 ·rw[h2.blk b (Nat.lt_of_lt_of_le hb h.size) (fun k hk e=>?_),h.blk b hb hz]
  rcases h.own k hk with g|⟨l,hl,g⟩
  ·omega
  ·exact hz l hl (g.trans e)
 ·rcases h2.own k hk with g|⟨l,hl,g⟩
  ·exact .inl (Nat.le_trans h.size g)
  ·rcases h.own l hl with q|⟨m,hm,q⟩
   ·exact .inl (by rw[←g];exact q)
   ·exact .inr ⟨m,hm,q.trans g⟩
 ·rcases h2.nam k hk with g|g
  ·exact h.nam k g
  ·exact .inr g
theorem Mem.sub (hm:Mem V A H β w) (hs: ∀k c,H2 k=some c→H k=some c):Mem V A H2 β w:=by
 have hn: ∀k,H2 k≠none→H k≠none:=fun k hk=>by
  cases e:H2 k with
  |none=>exact absurd e hk
  |some c=>rw[hs k c e];simp
 refine⟨hm.vlt,fun k hk=>hm.dom k (hn k hk),hm.lt,fun k l hk hl=>hm.inj k l (hn k hk) (hn l hl),fun k hk=>hm.clr k (hn k hk),fun k U cs hk=>?_⟩
 obtain⟨vs,h1,h2,h3,h4⟩:=hm.box k U cs (hs k _ hk)
 exact⟨vs,h1,h2,h3,h4.mono ⟨Nat.le_refl _,fun _ _ _=>rfl,fun b _ hz=>hz.imp id fun⟨l,hl,e⟩=>⟨l,hn l hl,e⟩⟩ (fun _ h=>h) (fun _ _=>rfl)⟩
def Vx (V:Nat→Prop) (H Hv:HF) (β:Nat→Pl):Nat→Prop:=fun b=>V b∨ ∃k,H k≠none∧Hv k=none∧(β k).b=b
theorem JR {Hv:HF}(hs: ∀k c,Hv k=some c→H k=some c):Zs (Vx V H Hv β) Hv β=Zs V H β:=by
 funext b
 refine propext ⟨?_,?_⟩
 ·rintro((h|⟨k,h1,_,h3⟩)|⟨k,hk,e⟩)
  ·exact .inl h
  ·exact .inr ⟨k,h1,h3⟩
  ·refine .inr ⟨k,?_,e⟩
   cases q:Hv k with
   |none=>exact absurd q hk
   |some c=>rw[hs k c q];simp
 ·rintro(h|⟨k,hk,e⟩)
  ·exact .inl (.inl h)
  ·by_cases q:Hv k=none
   ·exact .inl (.inr ⟨k,hk,q,e⟩)
   ·exact .inr ⟨k,q,e⟩
theorem Mem.see {Hv:HF}(hm:Mem V A H β w) (hs: ∀k c,Hv k=some c→H k=some c):Mem (Vx V H Hv β) A Hv β w:=by
 have hn: ∀k,Hv k≠none→H k≠none:=fun k hk=>by
  cases e:Hv k with
  |none=>exact absurd e hk
  |some c=>rw[hs k c e];simp
 refine⟨fun b hb=>?_,fun k hk=>hm.dom k (hn k hk),hm.lt,fun k l hk hl=>hm.inj k l (hn k hk) (hn l hl),fun k hk hv=>?_,fun k U cs hk=>?_⟩
 ·rcases hb with hb|⟨k,hk,_,e⟩
  ·exact hm.vlt b hb
  ·rw[←e];exact hm.lt k (hm.dom k hk)
 ·rcases hv with hv|⟨l,h1,h2,h3⟩
  ·exact hm.clr k (hn k hk) hv
  ·have:=hm.inj l k h1 (hn k hk) h3
   subst this
   exact hk h2
 ·rw[JR hs]
  exact hm.box k U cs (hs k _ hk)
def eJ (H Hv Hv':HF):HF:=fun k=>match Hv' k,Hv k with
 |some c,_=>some c
 |none,some _=>none
 |none,none=>H k
theorem pA {Hv Hv':HF}{k:Nat}{c}(h:eJ H Hv Hv' k=some c):Hv' k=some c∨(Hv' k=none∧Hv k=none∧H k=some c):=by
 unfold eJ at h
 cases h1:Hv' k with
 |some d=>rw[h1] at h;exact .inl h
 |none=>
  cases h2:Hv k with
  |some d=>rw[h1,h2] at h;cases h
  |none=>rw[h1,h2] at h;exact .inr ⟨rfl,rfl,h⟩
theorem iQ {Hv Hv':HF}{k:Nat}:eJ H Hv Hv' k≠none↔(Hv' k≠none∨(Hv k=none∧H k≠none)):=by
 unfold eJ
 cases Hv' k<;>cases Hv k<;>simp
theorem frame {Hv Hv':HF}(hm:Mem V A H β w) (hs: ∀k c,Hv k=some c→H k=some c) (hf: ∀k,A k→ ¬(N≤k∧k<N'))
 (h1: ∀k,A k→A' k) (hm':Mem (Vx V H Hv β) A' Hv' β' w') (ht:Hst N N' A Hv β w Hv' β' w'):Mem V A' (eJ H Hv Hv') β' w'∧Hst N N' A H β w (eJ H Hv Hv') β' w'∧Zs V (eJ H Hv Hv') β'=Zs (Vx V H Hv β) Hv' β':=by
 have hn: ∀k,Hv k≠none→H k≠none:=fun k hk=>by
  cases e:Hv k with
  |none=>exact absurd e hk
  |some c=>rw[hs k c e];simp
 have hold: ∀k,Hv k=none→H k≠none→Hv' k=none:=by
  intro k h1 h2
  apply Classical.byContradiction
  intro h3
  rcases ht.nam k h3 with g|g
  ·exact g h1
  ·exact hf k (hm.dom k h2) g
 have hZ:Zs V (eJ H Hv Hv') β'=Zs (Vx V H Hv β) Hv' β':=by
  funext b
  refine propext ⟨?_,?_⟩
  ·rintro(h|⟨k,hk,e⟩)
   ·exact .inl (.inl h)
   ·rcases iQ.1 hk with g|⟨g1,g2⟩
    ·exact .inr ⟨k,g,e⟩
    ·exact .inl (.inr ⟨k,g2,g1,by rw[←ht.same k (hm.dom k g2)];exact e⟩)
  ·rintro((h|⟨k,h1,h2,h3⟩)|⟨k,hk,e⟩)
   ·exact .inl h
   ·exact .inr ⟨k,iQ.2 (.inr ⟨h2,h1⟩),by rw[ht.same k (hm.dom k h1)];exact h3⟩
   ·exact .inr ⟨k,iQ.2 (.inl hk),e⟩
 have hH:Hst N N' A H β w (eJ H Hv Hv') β' w':=by
  refine⟨ht.os,ht.tape,ht.output,ht.size,fun b hb hz=>ht.blk b hb (fun k hk=>hz k (hn k hk)),ht.same,fun k hk=>?_,fun k hk=>?_⟩
  ·rcases iQ.1 hk with g|⟨g1,g2⟩
   ·rcases ht.own k g with q|⟨l,hl,q⟩
    ·exact .inl q
    ·exact .inr ⟨l,hn l hl,q⟩
   ·exact .inr ⟨k,g2,by rw[ht.same k (hm.dom k g2)]⟩
  ·rcases iQ.1 hk with g|⟨_,g2⟩
   ·exact(ht.nam k g).imp (hn k) id
   ·exact .inl g2
 refine⟨⟨fun b hb=>Nat.lt_of_lt_of_le (hm.vlt b hb) ht.size,fun k hk=>?_,hm'.lt,fun k l hk hl e=>?_,fun k hk hv=>?_,fun k U cs hk=>?_⟩,hH,hZ⟩
 ·rcases iQ.1 hk with g|⟨_,g2⟩
  ·exact hm'.dom k g
  ·exact h1 _ (hm.dom k g2)
 ·rcases iQ.1 hk with g|⟨g1,g2⟩<;>rcases iQ.1 hl with q|⟨q1,q2⟩
  ·exact hm'.inj k l g q e
  ·exact absurd (.inr ⟨l,q2,q1,by rw[←ht.same l (hm.dom l q2)];exact e.symm⟩) (hm'.clr k g)
  ·exact absurd (.inr ⟨k,g2,g1,by rw[←ht.same k (hm.dom k g2)];exact e⟩) (hm'.clr l q)
  ·rw[ht.same k (hm.dom k g2),ht.same l (hm.dom l q2)] at e
   exact hm.inj k l g2 q2 e
 ·rcases iQ.1 hk with g|⟨_,g2⟩
  ·exact hm'.clr k g (.inl hv)
  ·rw[ht.same k (hm.dom k g2)] at hv
   exact hm.clr k g2 hv
 ·rw[hZ]
  rcases pA hk with g|⟨_,g2,g3⟩
  ·exact hm'.box k U cs g
  ·obtain⟨vs,e1,h2,h3,h4⟩:=hm.box k U cs g3
   have hA:A k:=hm.dom k (by rw[g3];simp)
   have hsame:=ht.same k hA
   refine⟨vs,?_,by rw[hsame];exact h2,h3,?_⟩
   ·rw[hsame,ht.blk _ (hm.lt k hA) (fun l hl e=>?_)]
    ·exact e1
    ·have:=hm.inj l k (hn l hl) (by rw[g3];simp) e
     subst this
     exact hl g2
   ·have hk2:=hH.keep hm
    rw[hZ] at hk2
    exact h4.mono hk2 h1 ht.same
end
end Go.Proofs.YtacopbfkmnpfgaaGreat
