/-Centers,program and reference. -/
import Derived.Test.YtegpmhlfjkhjmaaGreatTaX
namespace Go.Proofs.YtegpmhlfjkhjmaaGreat
open Go Go.RowKit
variable {ops:Array Oper}{B:BF}{L R S a a1 a2 b1 b2 dx dy px py r s x y z:Int}{us vs zs:List CellD}{i j k m n:Nat}{P:Program}{pos:String}{T:TF}{U ty:TypeId}
variable {af:Array Edge}{g:Option (Nat×Bool)}{dst:Option Nat}
theorem adb (hL:1≤L) (hd:Dir dx dy) (hs:1≤s) (hs2:s≤9223372036854775807) (hk:(k:Int)=(L-1)/s) (r1: -10000000≤a1∧a1≤10000000) (r2: -10000000≤a2∧a2≤10000000) (r3: -10000000≤a1+L*dx∧a1+L*dx≤10000000) (r4: -10000000≤a2+L*dy∧a2+L*dy≤10000000) (hfit:(L-1)/s+2≤10000):Ok Tryz.prog 102 [.a (([.i .i64 a1]++[.i .i64 a2])),.a (([.i .i64 (a1+L*dx)]++[.i .i64 (a2+L*dy)])),.c (.i .i64 s)] [.c (.s (k+1+1) (iN a1 a2 dx dy L s k)),.c (.i .i64 0)]:=by
 refine eo Tryz.func102 37 [.tmp 6,.tmp 7] rfl<|ae<|ah<|ae<|ah ?_
 refine ac rfl (q8 zw (i9 hL hd.x) (i9 hL hd.y) (pK hL hd))<|ae<|ae<|bq<|bH 4 ?_
 refine aO (aJ (c:=false) (dG rfl) (decide_eq_false (by omega))) ?_
 refine gi<|bh rfl<|aA<|ae<|ae<|ah ?_
 refine ac rfl (cE (pO (by omega)) ((n5 _ _ _).2 (by omega)))<|ar (bJ rfl) ?_
 refine ac rfl (cE (pO (by omega)) ((n5 _ _ _).2 (by omega)))<|bh rfl<|aA<|ae<|ah ?_
 refine ac rfl (KV hL hd hs hs2 hk r1 r2 r3 r4 hfit) ?_
 refine ba ?_
 exact ai (ak (ak ag))
def se (a1 a2 b1 b2 r z:Int):Int:=if G8 a1 a2 b1 b2=true then(if (pI a1 a2 r||(pI b1 b2 r||fb z))=true then 11 else 0) else 1
theorem WL (hs:1≤s) (hk:(k:Int)=(L-1)/s) (h2:j≤k):((j+1:Nat):Int)*s≤L-1+s:=by
 rw[DJ]
 have h:=Dn (a:=(j:Int)) (b:=L-1) (c:=s) (by omega)
 have:=h.1 (by omega)
 omega
theorem Ck:Ok Tryz.prog 98 [.a (([.i .i64 a1]++[.i .i64 a2])),.a (([.i .i64 b1]++[.i .i64 b2])),.c (.i .i64 r),.c (.i .i64 z)] [.c (.i .i64 (se a1 a2 b1 b2 r z))]:=by
 refine b9 Tryz.func98 rfl ?_
 refine ac rfl (BL) ?_
 refine dS rfl (fun hc1=>?_) (fun hc1=>?_)
 ·refine ai ?_
  rw[show se a1 a2 b1 b2 r z=1 from by unfold se;simp[show G8 a1 a2 b1 b2=false from by simpa using hc1]]
  exact ak ag
 ·refine ac rfl (LH) ?_
  refine lg (bJ rfl) (fun c2 hb2=>?_)
  cases c2
  ·refine ac rfl (LH) ?_
   refine lg (bJ rfl) (fun c3 hb3=>?_)
   cases c3
   ·refine ac rfl (qW) ?_
    refine dS rfl (fun hc4=>?_) (fun hc4=>?_)
    ·refine ai ?_
     rw[show se a1 a2 b1 b2 r z=11 from by unfold se;simp[show G8 a1 a2 b1 b2=true from by simpa using hc1,hb2,hb3,hc4]]
     exact ak ag
    ·refine ai ?_
     rw[show se a1 a2 b1 b2 r z=0 from by unfold se;simp[show G8 a1 a2 b1 b2=true from by simpa using hc1,hb2,hb3,hc4]]
     exact ak ag
   ·refine lr rfl<|ai ?_
    rw[show se a1 a2 b1 b2 r z=11 from by unfold se;simp[show G8 a1 a2 b1 b2=true from by simpa using hc1,hb2,hb3]]
    exact ak ag
  ·refine ar (bJ rfl)<|lr rfl<|ai ?_
   rw[show se a1 a2 b1 b2 r z=11 from by unfold se;simp[show G8 a1 a2 b1 b2=true from by simpa using hc1,hb2]]
   exact ak ag
theorem Q6 {n:Int}(hd:Dir dx dy) (q1: -20000000≤x∧x≤20000000) (q2: -20000000≤y∧y≤20000000) (q3: -9000000000000000000≤n∧n≤9000000000000000000):Ok Tryz.prog 100 [.a (([.i .i64 x]++[.i .i64 y])),.a (([.i .i64 dx]++[.i .i64 dy])),.c (.i .i64 n)] [.a (([.i .i64 (x+n*dx)]++[.i .i64 (y+n*dy)]))]:=by
 refine b9 Tryz.func100 rfl ?_
 refine ar (bF (n*dx) (b5 (by rcases hd with⟨rfl,rfl⟩|⟨rfl,rfl⟩|⟨rfl,rfl⟩|⟨rfl,rfl⟩<;>omega) (by rcases hd with⟨rfl,rfl⟩|⟨rfl,rfl⟩|⟨rfl,rfl⟩|⟨rfl,rfl⟩<;>omega)) rfl) ?_
 refine ar (bF (x+(n*dx)) (aT (by rcases hd with⟨rfl,rfl⟩|⟨rfl,rfl⟩|⟨rfl,rfl⟩|⟨rfl,rfl⟩<;>omega) (by rcases hd with⟨rfl,rfl⟩|⟨rfl,rfl⟩|⟨rfl,rfl⟩|⟨rfl,rfl⟩<;>omega)) rfl) ?_
 refine ar (bF (n*dy) (b5 (by rcases hd with⟨rfl,rfl⟩|⟨rfl,rfl⟩|⟨rfl,rfl⟩|⟨rfl,rfl⟩<;>omega) (by rcases hd with⟨rfl,rfl⟩|⟨rfl,rfl⟩|⟨rfl,rfl⟩|⟨rfl,rfl⟩<;>omega)) rfl) ?_
 refine ar (bF (y+(n*dy)) (aT (by rcases hd with⟨rfl,rfl⟩|⟨rfl,rfl⟩|⟨rfl,rfl⟩|⟨rfl,rfl⟩<;>omega) (by rcases hd with⟨rfl,rfl⟩|⟨rfl,rfl⟩|⟨rfl,rfl⟩|⟨rfl,rfl⟩<;>omega)) rfl) ?_
 refine ar (aF (us:=([.i .i64 (x+(n*dx))]++[.i .i64 (y+(n*dy))])) ue tD rfl rfl rfl) ?_
 exact ai (bj tR rfl ag)
theorem Lr (hd:Dir dx dy) (q1: -30000000≤b1-x∧b1-x≤30000000) (q2: -30000000≤b2-y∧b2-y≤30000000):Ok Tryz.prog 99 [.a (([.i .i64 x]++[.i .i64 y])),.a (([.i .i64 b1]++[.i .i64 b2])),.a (([.i .i64 dx]++[.i .i64 dy]))] [.c (.b (decide ((b1-x)*dx+(b2-y)*dy>0)))]:=by
 refine b9 Tryz.func99 rfl ?_
 refine ar (bF (b1-x) (aS (by rcases hd with⟨rfl,rfl⟩|⟨rfl,rfl⟩|⟨rfl,rfl⟩|⟨rfl,rfl⟩<;>omega) (by rcases hd with⟨rfl,rfl⟩|⟨rfl,rfl⟩|⟨rfl,rfl⟩|⟨rfl,rfl⟩<;>omega)) rfl) ?_
 refine ar (bF ((b1-x)*dx) (b5 (by rcases hd with⟨rfl,rfl⟩|⟨rfl,rfl⟩|⟨rfl,rfl⟩|⟨rfl,rfl⟩<;>omega) (by rcases hd with⟨rfl,rfl⟩|⟨rfl,rfl⟩|⟨rfl,rfl⟩|⟨rfl,rfl⟩<;>omega)) rfl) ?_
 refine ar (bF (b2-y) (aS (by rcases hd with⟨rfl,rfl⟩|⟨rfl,rfl⟩|⟨rfl,rfl⟩|⟨rfl,rfl⟩<;>omega) (by rcases hd with⟨rfl,rfl⟩|⟨rfl,rfl⟩|⟨rfl,rfl⟩|⟨rfl,rfl⟩<;>omega)) rfl) ?_
 refine ar (bF ((b2-y)*dy) (b5 (by rcases hd with⟨rfl,rfl⟩|⟨rfl,rfl⟩|⟨rfl,rfl⟩|⟨rfl,rfl⟩<;>omega) (by rcases hd with⟨rfl,rfl⟩|⟨rfl,rfl⟩|⟨rfl,rfl⟩|⟨rfl,rfl⟩<;>omega)) rfl) ?_
 refine ar (bF (((b1-x)*dx)+((b2-y)*dy)) (aT (by rcases hd with⟨rfl,rfl⟩|⟨rfl,rfl⟩|⟨rfl,rfl⟩|⟨rfl,rfl⟩<;>omega) (by rcases hd with⟨rfl,rfl⟩|⟨rfl,rfl⟩|⟨rfl,rfl⟩|⟨rfl,rfl⟩<;>omega)) rfl) ?_
 exact ai (ak ag)
theorem adf (hs:1≤s) (hE:se a1 a2 b1 b2 0 0=1):Ok Tryz.prog 29 [.a (([.i .i64 a1]++[.i .i64 a2])),.a (([.i .i64 b1]++[.i .i64 b2])),.c (.i .i64 s)] [.c (.s 0 []),.c (.i .i64 1)]:=by
 refine eo Tryz.func29 73 [.tmp 6,.tmp 7] rfl<|ae<|ah<|ae<|ae<|bq<|bH 1<|aO (aJ (c:=false) (dG rfl) (decide_eq_false (by omega))) ?_
 refine bt<|bh rfl<|aA<|ae<|ae<|ah ?_
 refine ac rfl (cb Ck hE)<|ae<|ah ?_
 refine cz rfl<|ae<|ah<|ba ?_
 exact ai (ak (ak ag))
theorem XA (hs:1≤s) (hE:se a1 a2 b1 b2 0 0=11):Ok Tryz.prog 29 [.a (([.i .i64 a1]++[.i .i64 a2])),.a (([.i .i64 b1]++[.i .i64 b2])),.c (.i .i64 s)] [.c (.s 0 []),.c (.i .i64 11)]:=by
 refine eo Tryz.func29 73 [.tmp 6,.tmp 7] rfl<|ae<|ah<|ae<|ae<|bq<|bH 1<|aO (aJ (c:=false) (dG rfl) (decide_eq_false (by omega))) ?_
 refine bt<|bh rfl<|aA<|ae<|ae<|ah ?_
 refine ac rfl (cb Ck hE)<|ae<|ah ?_
 refine cz rfl<|ae<|ah<|ba ?_
 exact ai (ak (ak ag))
theorem adg (hs:s≤0):Ok Tryz.prog 29 [.a (([.i .i64 a1]++[.i .i64 a2])),.a (([.i .i64 b1]++[.i .i64 b2])),.c (.i .i64 s)] [.c (.s 0 []),.c (.i .i64 1)]:=by
 refine eo Tryz.func29 73 [.tmp 6,.tmp 7] rfl<|ae<|ah<|ae<|ae<|bq<|bH 1<|aO (aJ (c:=true) (dG rfl) (decide_eq_true (by omega))) ?_
 refine bt<|cz rfl<|ae<|ah<|ba ?_
 exact ai (ak (ak ag))
theorem Y7 {m:Int}(hL:1≤L) (hd:Dir dx dy) (hs1:1≤s) (hmn:min s L=m) (r1: -10000000≤a1∧a1≤10000000) (r2: -10000000≤a2∧a2≤10000000) (r3: -10000000≤a1+L*dx∧a1+L*dx≤10000000) (r4: -10000000≤a2+L*dy∧a2+L*dy≤10000000) (hbig:9999<(L-1)/m+1):Ok Tryz.prog 29 [.a (([.i .i64 a1]++[.i .i64 a2])),.a (([.i .i64 (a1+L*dx)]++[.i .i64 (a2+L*dy)])),.c (.i .i64 s)] [.c (.s 0 []),.c (.i .i64 3)]:=by
 have hL2:=PA hL hd r1 r2 r3 r4
 have hs:1≤m:=by omega
 have hm2:m≤L:=by omega
 have hq:=Or hL hs
 have hE:se a1 a2 (a1+L*dx) (a2+L*dy) 0 0=0:=by
  unfold se
  rw[if_pos (pK hL hd),(tC _ _ _).2 (by omega),(tC _ _ _).2 (by omega),Is (by omega) (by omega)];rfl
 refine eo Tryz.func29 73 [.tmp 6,.tmp 7] rfl<|ae<|ah<|ae<|ae<|bq<|bH 1<|aO (aJ (c:=false) (dG rfl) (decide_eq_false (by omega))) ?_
 refine bt<|bh rfl<|aA<|ae<|ae<|ah ?_
 refine ac rfl (cb Ck hE)<|ae<|ah ?_
 refine bh rfl<|aA<|ae<|ah ?_
 refine ac rfl (q8 BL (i9 hL hd.x) (i9 hL hd.y) (pK hL hd)) ?_
 refine ae<|ah ?_
 refine ar (bF ((a1+L*dx)-a1) (aS (by rcases hd with⟨rfl,rfl⟩|⟨rfl,rfl⟩|⟨rfl,rfl⟩|⟨rfl,rfl⟩<;>omega) (by rcases hd with⟨rfl,rfl⟩|⟨rfl,rfl⟩|⟨rfl,rfl⟩|⟨rfl,rfl⟩<;>omega)) rfl) ?_
 refine ar (bF (((a1+L*dx)-a1)*dx) (b5 (by rcases hd with⟨rfl,rfl⟩|⟨rfl,rfl⟩|⟨rfl,rfl⟩|⟨rfl,rfl⟩<;>omega) (by rcases hd with⟨rfl,rfl⟩|⟨rfl,rfl⟩|⟨rfl,rfl⟩|⟨rfl,rfl⟩<;>omega)) rfl) ?_
 refine ar (bF ((a2+L*dy)-a2) (aS (by rcases hd with⟨rfl,rfl⟩|⟨rfl,rfl⟩|⟨rfl,rfl⟩|⟨rfl,rfl⟩<;>omega) (by rcases hd with⟨rfl,rfl⟩|⟨rfl,rfl⟩|⟨rfl,rfl⟩|⟨rfl,rfl⟩<;>omega)) rfl) ?_
 refine ar (bF (((a2+L*dy)-a2)*dy) (b5 (by rcases hd with⟨rfl,rfl⟩|⟨rfl,rfl⟩|⟨rfl,rfl⟩|⟨rfl,rfl⟩<;>omega) (by rcases hd with⟨rfl,rfl⟩|⟨rfl,rfl⟩|⟨rfl,rfl⟩|⟨rfl,rfl⟩<;>omega)) rfl) ?_
 refine ar (bF (L) ((aT (by(rcases hd with⟨rfl,rfl⟩|⟨rfl,rfl⟩|⟨rfl,rfl⟩|⟨rfl,rfl⟩<;>omega)) (by(rcases hd with⟨rfl,rfl⟩|⟨rfl,rfl⟩|⟨rfl,rfl⟩|⟨rfl,rfl⟩<;>omega))).trans (congrArg some (by(rcases hd with⟨rfl,rfl⟩|⟨rfl,rfl⟩|⟨rfl,rfl⟩|⟨rfl,rfl⟩<;>omega)))) rfl) ?_
 refine ae<|ah<|ar (tv (c:=m) (zN rfl rfl rfl) hmn) ?_
 refine ae<|ae<|bq<|bH 2 ?_
 refine aO (bF (L+m) (aT (by rcases hd with⟨rfl,rfl⟩|⟨rfl,rfl⟩|⟨rfl,rfl⟩|⟨rfl,rfl⟩<;>omega) (by rcases hd with⟨rfl,rfl⟩|⟨rfl,rfl⟩|⟨rfl,rfl⟩|⟨rfl,rfl⟩<;>omega)) rfl) ?_
 refine aO (bF ((L+m)-1) (aS (by rcases hd with⟨rfl,rfl⟩|⟨rfl,rfl⟩|⟨rfl,rfl⟩|⟨rfl,rfl⟩<;>omega) (by rcases hd with⟨rfl,rfl⟩|⟨rfl,rfl⟩|⟨rfl,rfl⟩|⟨rfl,rfl⟩<;>omega)) rfl) ?_
 refine bH 1<|aO (iJ (r:=(L-1)/m+1) rfl rfl (by omega) (acH hL hL2 hs) rfl) ?_
 refine aO (aJ (c:=true) (dG rfl) (decide_eq_true (by omega))) ?_
 refine bt<|cz rfl<|ae<|ah<|ba ?_
 exact ai (ak (ak ag))
theorem ab7 {m:Int}(hL:1≤L) (hd:Dir dx dy) (hs1:1≤s) (hmn:min s L=m) (hk:(k:Int)=(L-1)/m) (r1: -10000000≤a1∧a1≤10000000) (r2: -10000000≤a2∧a2≤10000000) (r3: -10000000≤a1+L*dx∧a1+L*dx≤10000000) (r4: -10000000≤a2+L*dy∧a2+L*dy≤10000000) (hfit:(L-1)/m+1≤9999):Ok Tryz.prog 29 [.a (([.i .i64 a1]++[.i .i64 a2])),.a (([.i .i64 (a1+L*dx)]++[.i .i64 (a2+L*dy)])),.c (.i .i64 s)] [.c (.s (k+1+1) (iN a1 a2 dx dy L m k)),.c (.i .i64 0)]:=by
 have hL2:=PA hL hd r1 r2 r3 r4
 have hs:1≤m:=by omega
 have hm2:m≤L:=by omega
 have hq:=Or hL hs
 have hE:se a1 a2 (a1+L*dx) (a2+L*dy) 0 0=0:=by
  unfold se
  rw[if_pos (pK hL hd),(tC _ _ _).2 (by omega),(tC _ _ _).2 (by omega),Is (by omega) (by omega)];rfl
 have hk2:k≤9998:=by omega
 refine eo Tryz.func29 73 [.tmp 6,.tmp 7] rfl<|ae<|ah<|ae<|ae<|bq<|bH 1<|aO (aJ (c:=false) (dG rfl) (decide_eq_false (by omega))) ?_
 refine bt<|bh rfl<|aA<|ae<|ae<|ah ?_
 refine ac rfl (cb Ck hE)<|ae<|ah ?_
 refine bh rfl<|aA<|ae<|ah ?_
 refine ac rfl (q8 BL (i9 hL hd.x) (i9 hL hd.y) (pK hL hd)) ?_
 refine ae<|ah ?_
 refine ar (bF ((a1+L*dx)-a1) (aS (by rcases hd with⟨rfl,rfl⟩|⟨rfl,rfl⟩|⟨rfl,rfl⟩|⟨rfl,rfl⟩<;>omega) (by rcases hd with⟨rfl,rfl⟩|⟨rfl,rfl⟩|⟨rfl,rfl⟩|⟨rfl,rfl⟩<;>omega)) rfl) ?_
 refine ar (bF (((a1+L*dx)-a1)*dx) (b5 (by rcases hd with⟨rfl,rfl⟩|⟨rfl,rfl⟩|⟨rfl,rfl⟩|⟨rfl,rfl⟩<;>omega) (by rcases hd with⟨rfl,rfl⟩|⟨rfl,rfl⟩|⟨rfl,rfl⟩|⟨rfl,rfl⟩<;>omega)) rfl) ?_
 refine ar (bF ((a2+L*dy)-a2) (aS (by rcases hd with⟨rfl,rfl⟩|⟨rfl,rfl⟩|⟨rfl,rfl⟩|⟨rfl,rfl⟩<;>omega) (by rcases hd with⟨rfl,rfl⟩|⟨rfl,rfl⟩|⟨rfl,rfl⟩|⟨rfl,rfl⟩<;>omega)) rfl) ?_
 refine ar (bF (((a2+L*dy)-a2)*dy) (b5 (by rcases hd with⟨rfl,rfl⟩|⟨rfl,rfl⟩|⟨rfl,rfl⟩|⟨rfl,rfl⟩<;>omega) (by rcases hd with⟨rfl,rfl⟩|⟨rfl,rfl⟩|⟨rfl,rfl⟩|⟨rfl,rfl⟩<;>omega)) rfl) ?_
 refine ar (bF (L) ((aT (by(rcases hd with⟨rfl,rfl⟩|⟨rfl,rfl⟩|⟨rfl,rfl⟩|⟨rfl,rfl⟩<;>omega)) (by(rcases hd with⟨rfl,rfl⟩|⟨rfl,rfl⟩|⟨rfl,rfl⟩|⟨rfl,rfl⟩<;>omega))).trans (congrArg some (by(rcases hd with⟨rfl,rfl⟩|⟨rfl,rfl⟩|⟨rfl,rfl⟩|⟨rfl,rfl⟩<;>omega)))) rfl) ?_
 refine ae<|ah<|ar (tv (c:=m) (zN rfl rfl rfl) hmn) ?_
 refine ae<|ae<|bq<|bH 2 ?_
 refine aO (bF (L+m) (aT (by rcases hd with⟨rfl,rfl⟩|⟨rfl,rfl⟩|⟨rfl,rfl⟩|⟨rfl,rfl⟩<;>omega) (by rcases hd with⟨rfl,rfl⟩|⟨rfl,rfl⟩|⟨rfl,rfl⟩|⟨rfl,rfl⟩<;>omega)) rfl) ?_
 refine aO (bF ((L+m)-1) (aS (by rcases hd with⟨rfl,rfl⟩|⟨rfl,rfl⟩|⟨rfl,rfl⟩|⟨rfl,rfl⟩<;>omega) (by rcases hd with⟨rfl,rfl⟩|⟨rfl,rfl⟩|⟨rfl,rfl⟩|⟨rfl,rfl⟩<;>omega)) rfl) ?_
 refine bH 1<|aO (iJ (r:=(L-1)/m+1) rfl rfl (by omega) (acH hL hL2 hs) rfl) ?_
 refine aO (aJ (c:=false) (dG rfl) (decide_eq_false (by omega))) ?_
 refine bt<|bh rfl<|aA<|ae<|bq<|aO (fE rfl) ?_
 refine bt<|ae<|ae<|ah ?_
 refine aG ?_
 refine zQ (ι:={t:Nat×Nat×List CellD // t.1≤k∧t.1+1≤t.2.1∧t.2.1≤maxLen∧t.2.2.length=(t.2.1-(t.1+1))*2}) (fun i=>⟨73,[(12,.o 67 (i.1.1+1) i.1.2.1),(2,.v (.c (.i .i64 m))),(4,.p 4 0),(9,.p 9 0),(13,.p 13 0)],[(4,72,([.i .i64 (a1+L*dx)]++[.i .i64 (a2+L*dy)])),(9,72,([.i .i64 dx]++[.i .i64 dy])),(13,72,([.i .i64 (a1+dx*(((i.1.1+1:Nat):Int)*m))]++[.i .i64 (a2+dy*(((i.1.1+1:Nat):Int)*m))])),(67,72,BY a1 a2 dx dy m i.1.1++i.1.2.2)]⟩) (fun i=>k-i.1.1) (k+1) ?_ ?_
 ·refine ae<|ae<|ah ?_
  refine ac rfl (cE (c:=true) (Lr hd (by(rcases hd with⟨rfl,rfl⟩|⟨rfl,rfl⟩|⟨rfl,rfl⟩|⟨rfl,rfl⟩<;>omega)) (by(rcases hd with⟨rfl,rfl⟩|⟨rfl,rfl⟩|⟨rfl,rfl⟩|⟨rfl,rfl⟩<;>omega))) (decide_eq_true (by(rcases hd with⟨rfl,rfl⟩|⟨rfl,rfl⟩|⟨rfl,rfl⟩|⟨rfl,rfl⟩<;>omega)))) ?_
  refine cz rfl<|aA<|ae<|aG<|ah ?_
  refine ar (bW (n:=1) (us:=([.i .i64 a1]++[.i .i64 a2])) xX rfl rfl rfl (by decide) (by decide) rfl) ?_
  refine DL.mk<|lv (ys:=([.i .i64 a1]++[.i .i64 a2])) xX rfl rfl rfl (by decide) (by decide) (by decide) rfl rfl (fun cg1 rg1 hga1 hgb1 hgc1=>fa ?_)
  refine ae<|ae<|ah ?_
  refine nH (σ':=⟨73,[(0,.v (.a (([.i .i64 a1]++[.i .i64 a2])))),(1,.v (.a (([.i .i64 (a1+L*dx)]++[.i .i64 (a2+L*dy)])))),(2,.v (.c (.i .i64 m))),(3,.p 3 0),(4,.p 4 0),(6,.v (.c (.s 0 []))),(7,.v (.c (.i .i64 0))),(14,.v (.c (.i .i64 s))),(15,.v (.c (.b false))),(16,.v (.a (([.i .i64 a1]++[.i .i64 a2])))),(17,.v (.a (([.i .i64 (a1+L*dx)]++[.i .i64 (a2+L*dy)])))),(18,.v (.c (.i .i64 0))),(8,.v (.c (.i .i64 0))),(19,.v (.c (.i .i64 0))),(20,.v (.c (.b false))),(23,.v (.a (([.i .i64 a1]++[.i .i64 a2])))),(24,.v (.a (([.i .i64 (a1+L*dx)]++[.i .i64 (a2+L*dy)])))),(26,.v (.a (([.i .i64 dx]++[.i .i64 dy])))),(27,.v (.c (.b true))),(9,.p 9 0),(10,.v (.c (.b true))),(28,.p 4 0),(29,.v (.c (.i .i64 (a1+L*dx)))),(30,.p 3 0),(31,.v (.c (.i .i64 a1))),(32,.v (.c (.i .i64 ((a1+L*dx)-a1)))),(33,.p 9 0),(34,.v (.c (.i .i64 dx))),(35,.v (.c (.i .i64 (((a1+L*dx)-a1)*dx)))),(36,.p 4 1),(37,.v (.c (.i .i64 (a2+L*dy)))),(38,.p 3 1),(39,.v (.c (.i .i64 a2))),(40,.v (.c (.i .i64 ((a2+L*dy)-a2)))),(41,.p 9 1),(42,.v (.c (.i .i64 dy))),(43,.v (.c (.i .i64 (((a2+L*dy)-a2)*dy)))),(44,.v (.c (.i .i64 L))),(11,.v (.c (.i .i64 L))),(45,.v (.c (.i .i64 s))),(46,.v (.c (.i .i64 L))),(47,.v (.c (.i .i64 m))),(48,.v (.c (.i .i64 L))),(49,.v (.c (.i .i64 m))),(50,.v (.c (.i .i64 (L+m)))),(51,.v (.c (.i .i64 ((L+m)-1)))),(52,.v (.c (.i .i64 m))),(53,.v (.c (.i .i64 ((L-1)/m+1)))),(54,.v (.c (.b false))),(12,.o 67 1 cg1),(55,.v (.a (([.i .i64 a1]++[.i .i64 a2])))),(56,.v (.a (([.i .i64 a1]++[.i .i64 a2])))),(57,.v (.a (([.i .i64 (a1+L*dx)]++[.i .i64 (a2+L*dy)])))),(58,.v (.a (([.i .i64 dx]++[.i .i64 dy])))),(59,.v (.c (.b true))),(64,.z),(65,.v (.a (([.i .i64 a1]++[.i .i64 a2])))),(66,.v (.c (.s 1 (([.i .i64 a1]++[.i .i64 a2]))))),(67,.o 67 1 cg1),(68,.v (.a (([.i .i64 a1]++[.i .i64 a2]))))],[(3,72,([.i .i64 a1]++[.i .i64 a2])),(4,72,([.i .i64 (a1+L*dx)]++[.i .i64 (a2+L*dy)])),(9,72,([.i .i64 dx]++[.i .i64 dy])),(67,72,([.i .i64 a1]++[.i .i64 a2])++rg1)]⟩) (ap (bo rfl) (bo rfl) rfl) ?_
  refine ah<|ah ?_
  refine ac rfl (R5 (Q6 hd (by omega) (by omega) (by omega)) (x':=a1+dx*(((0+1:Nat):Int)*m)) (y':=a2+dy*(((0+1:Nat):Int)*m)) (by rw[show((0+1:Nat):Int)*m=m from by simp];rcases hd with⟨rfl,rfl⟩|⟨rfl,rfl⟩|⟨rfl,rfl⟩|⟨rfl,rfl⟩<;>omega) (by rw[show((0+1:Nat):Int)*m=m from by simp];rcases hd with⟨rfl,rfl⟩|⟨rfl,rfl⟩|⟨rfl,rfl⟩|⟨rfl,rfl⟩<;>omega)) ?_
  exact⟨⟨⟨0,cg1,rg1⟩,by omega,by omega,hgb1,hgc1⟩,ap (bo rfl) (bo rfl) rfl,by show k-0<k+1;omega⟩
 ·rintro⟨⟨j,c,rs⟩,h2,h3,h4,h5⟩
  dsimp only at h2 h3 h4 h5
  dsimp only
  refine ae<|ae<|ah ?_
  refine ac rfl (cE (c:=decide (((j+1:Nat):Int)*m<L)) (Lr hd (by have g9:=Ic hs (j+1);have g8:=WL hs hk h2;rcases hd with⟨rfl,rfl⟩|⟨rfl,rfl⟩|⟨rfl,rfl⟩|⟨rfl,rfl⟩<;>omega) (by have g9:=Ic hs (j+1);have g8:=WL hs hk h2;rcases hd with⟨rfl,rfl⟩|⟨rfl,rfl⟩|⟨rfl,rfl⟩|⟨rfl,rfl⟩<;>omega)) (decide_eq_decide.2 (by(rcases hd with⟨rfl,rfl⟩|⟨rfl,rfl⟩|⟨rfl,rfl⟩|⟨rfl,rfl⟩<;>omega)))) ?_
  refine aP rfl (fun hc2=>?_) (fun hc2=>?_)
  ·have g1:=(ye hs hk j).1 (of_decide_eq_true hc2)
   have g2:=Ic hs (j+1)
   have g3:=W9 hs j
   have g4:=of_decide_eq_true hc2
   refine aA<|ae<|aG<|ah ?_
   refine ar (bW (n:=1) (us:=([.i .i64 (a1+dx*(((j+1:Nat):Int)*m))]++[.i .i64 (a2+dy*(((j+1:Nat):Int)*m))])) xX rfl rfl rfl (by decide) (by decide) rfl) ?_
   refine DL.mk<|kQ (us:=BY a1 a2 dx dy m j) (rest:=rs) (ys:=([.i .i64 (a1+dx*(((j+1:Nat):Int)*m))]++[.i .i64 (a2+dy*(((j+1:Nat):Int)*m))])) xX rfl rfl rfl (by first|exact gw _|(rw[d6,gw];show _+2=_;omega)) (by assumption) rfl (by decide) (by omega) (by assumption) (by omega) (oD (by omega)) (.inl rfl) rfl (fun cg3 rg3 hga3 hgb3 hgc3=>fa ?_)
   refine ae<|ae<|ah ?_
   refine nH (σ':=⟨73,[(12,.o 67 ((j+1)+1) cg3),(2,.v (.c (.i .i64 m))),(4,.p 4 0),(9,.p 9 0),(56,.v (.a (([.i .i64 (a1+dx*(((j+1:Nat):Int)*m))]++[.i .i64 (a2+dy*(((j+1:Nat):Int)*m))])))),(57,.v (.a (([.i .i64 (a1+L*dx)]++[.i .i64 (a2+L*dy)])))),(58,.v (.a (([.i .i64 dx]++[.i .i64 dy])))),(59,.v (.c (.b (decide (((j+1:Nat):Int)*m<L))))),(65,.v (.a (([.i .i64 (a1+dx*(((j+1:Nat):Int)*m))]++[.i .i64 (a2+dy*(((j+1:Nat):Int)*m))])))),(66,.v (.c (.s 1 (([.i .i64 (a1+dx*(((j+1:Nat):Int)*m))]++[.i .i64 (a2+dy*(((j+1:Nat):Int)*m))]))))),(67,.o 67 ((j+1)+1) cg3),(68,.v (.a (([.i .i64 (a1+dx*(((j+1:Nat):Int)*m))]++[.i .i64 (a2+dy*(((j+1:Nat):Int)*m))]))))],[(4,72,([.i .i64 (a1+L*dx)]++[.i .i64 (a2+L*dy)])),(9,72,([.i .i64 dx]++[.i .i64 dy])),(67,72,BY a1 a2 dx dy m j++(([.i .i64 (a1+dx*(((j+1:Nat):Int)*m))]++[.i .i64 (a2+dy*(((j+1:Nat):Int)*m))]))++rg3)]⟩) (ap (bo rfl) (bo rfl) rfl) ?_
   refine ah<|ah ?_
   refine ac rfl (R5 (Q6 hd (by(rcases hd with⟨rfl,rfl⟩|⟨rfl,rfl⟩|⟨rfl,rfl⟩|⟨rfl,rfl⟩<;>omega)) (by(rcases hd with⟨rfl,rfl⟩|⟨rfl,rfl⟩|⟨rfl,rfl⟩|⟨rfl,rfl⟩<;>omega)) (by omega)) (x':=a1+dx*((((j+1)+1:Nat):Int)*m)) (y':=a2+dy*((((j+1)+1:Nat):Int)*m)) (by rw[DJ (j+1)];rcases hd with⟨rfl,rfl⟩|⟨rfl,rfl⟩|⟨rfl,rfl⟩|⟨rfl,rfl⟩<;>omega) (by rw[DJ (j+1)];rcases hd with⟨rfl,rfl⟩|⟨rfl,rfl⟩|⟨rfl,rfl⟩|⟨rfl,rfl⟩<;>omega)) ?_
   exact⟨⟨⟨j+1,cg3,rg3⟩,g1,by omega,hgb3,hgc3⟩,ap (bo rfl) (bo rfl) rfl,by show k-(j+1)<k-j;omega⟩
  ·have g1: ¬j<k:=fun h=>absurd ((ye hs hk j).2 h) (of_decide_eq_false hc2)
   obtain rfl:j=k:=by omega
   refine bV<|ae<|ah ?_
   refine ar (bW (n:=1) (us:=([.i .i64 (a1+L*dx)]++[.i .i64 (a2+L*dy)])) xX rfl rfl rfl (by decide) (by decide) rfl) ?_
   refine DL.mk<|kQ (us:=BY a1 a2 dx dy m j) (rest:=rs) (ys:=([.i .i64 (a1+L*dx)]++[.i .i64 (a2+L*dy)])) xX rfl rfl rfl (by first|exact gw _|(rw[d6,gw];show _+2=_;omega)) (by assumption) rfl (by decide) (by omega) (by assumption) (by omega) (oD (by omega)) (.inr rfl) rfl (fun cg4 rg4 hga4 hgb4 hgc4=>fa ?_)
   refine d7 (t:=6) (m:=2) (us:=BY a1 a2 dx dy m j++(([.i .i64 (a1+L*dx)]++[.i .i64 (a2+L*dy)]))) rfl rfl (pf (n:=(j+1)+1) (by first|exact gw _|(rw[d6,gw];show _+2=_;omega)) (by assumption) (by omega)) (by omega) (by assumption) (lq (by first|exact gw _|(rw[d6,gw];show _+2=_;omega))) ?_
   refine ba ?_
   exact ai (ak (ak ag))
theorem xh (hd:Dir dx dy) (q1: -10000000≤x∧x≤10000000) (q2: -10000000≤y∧y≤10000000) (hr:0≤r∧r≤20000000):Ok Tryz.prog 198 [.a (([.i .i64 x]++[.i .i64 y])),.a (([.i .i64 dx]++[.i .i64 dy])),.c (.i .i64 r),.c (.i .i64 z)] [.a (([.i .i64 (x-dx*r)]++[.i .i64 (y-dy*r)]++[.i .i64 z]))]:=by
 refine b9 Tryz.func198 rfl ?_
 refine ar (bF (dx*r) (b5 (by rcases hd with⟨rfl,rfl⟩|⟨rfl,rfl⟩|⟨rfl,rfl⟩|⟨rfl,rfl⟩<;>omega) (by rcases hd with⟨rfl,rfl⟩|⟨rfl,rfl⟩|⟨rfl,rfl⟩|⟨rfl,rfl⟩<;>omega)) rfl) ?_
 refine ar (bF (x-(dx*r)) (aS (by rcases hd with⟨rfl,rfl⟩|⟨rfl,rfl⟩|⟨rfl,rfl⟩|⟨rfl,rfl⟩<;>omega) (by rcases hd with⟨rfl,rfl⟩|⟨rfl,rfl⟩|⟨rfl,rfl⟩|⟨rfl,rfl⟩<;>omega)) rfl) ?_
 refine ar (bF (dy*r) (b5 (by rcases hd with⟨rfl,rfl⟩|⟨rfl,rfl⟩|⟨rfl,rfl⟩|⟨rfl,rfl⟩<;>omega) (by rcases hd with⟨rfl,rfl⟩|⟨rfl,rfl⟩|⟨rfl,rfl⟩|⟨rfl,rfl⟩<;>omega)) rfl) ?_
 refine ar (bF (y-(dy*r)) (aS (by rcases hd with⟨rfl,rfl⟩|⟨rfl,rfl⟩|⟨rfl,rfl⟩|⟨rfl,rfl⟩<;>omega) (by rcases hd with⟨rfl,rfl⟩|⟨rfl,rfl⟩|⟨rfl,rfl⟩|⟨rfl,rfl⟩<;>omega)) rfl) ?_
 refine ar (aF (us:=([.i .i64 (x-(dx*r))]++[.i .i64 (y-(dy*r))]++[.i .i64 z])) Wt Qc rfl rfl rfl) ?_
 exact ai (bj WO rfl ag)
theorem aa5 {f:Int}(hL:1≤L) (hd:Dir dx dy) (hr:1≤r) (hs:1≤s) (hf:1≤f) (hsr:s≤r) (hk:(k:Int)=(L-1)/s) (q1:Jz a1 a2 r=true) (q2:Jz (a1+L*dx) (a2+L*dy) r=true) (q3:fb z=false) (hfit:(L-1)/s+2≤10000):Ok Tryz.prog 103 [.a (([.i .i64 a1]++[.i .i64 a2])),.a (([.i .i64 (a1+L*dx)]++[.i .i64 (a2+L*dy)])),.c (.i .i64 r),.c (.i .i64 s),.c (.i .i64 z),.c (.i .i64 f)] [.c (.s (2*(k+1)+1) (UC (iN a1 a2 dx dy L s k) dx dy r z f (k+1))),.c (.i .i64 0)]:=by
 have g1:=(n5 _ _ _).1 q1
 have g2:=(n5 _ _ _).1 q2
 have r1: -10000000≤a1∧a1≤10000000:=by omega
 have r2: -10000000≤a2∧a2≤10000000:=by omega
 have r3: -10000000≤a1+L*dx∧a1+L*dx≤10000000:=by omega
 have r4: -10000000≤a2+L*dy∧a2+L*dy≤10000000:=by omega
 have hq:=Or hL hs
 have hk2:k≤9998:=by omega
 have hB:=QN (A6 hd hs hk r1 r2 r3 r4)
 have hJ:=GT (A6 hd hs hk r1 r2 r3 r4)
 refine eo Tryz.func103 105 [.tmp 12,.tmp 13] rfl<|ae<|ah<|ae<|ah ?_
 refine ac rfl (q8 zw (i9 hL hd.x) (i9 hL hd.y) (pK hL hd))<|ae<|ae<|bq<|bH 4 ?_
 refine aO (aJ (c:=false) (dG rfl) (decide_eq_false (by omega))) ?_
 refine bH 3<|aO (aJ (c:=false) (dG rfl) (decide_eq_false (by omega))) ?_
 refine bH 3<|aO (aJ (c:=false) (dG rfl) (decide_eq_false (by omega))) ?_
 refine bH 4<|aO (aJ (c:=false) (dG rfl) (decide_eq_false (by omega))) ?_
 refine gi<|bh rfl<|aA<|ae<|ae<|ah ?_
 refine ac rfl (cE (pO (by omega)) q1) ?_
 refine ar (bJ rfl) ?_
 refine ac rfl (cE (pO (by omega)) q2) ?_
 refine ar (bJ rfl) ?_
 refine ar (bW (n:=1) (us:=[.i .i64 z]) D1 rfl rfl rfl (by decide) (by decide) rfl) ?_
 refine ac rfl (cE Rn (show(!fb z)=true from by rw[q3,uV]))<|bh rfl<|aA<|ae<|ah ?_
 refine ac rfl (KV hL hd hs (by omega) hk r1 r2 r3 r4 hfit)<|ae<|ae<|ah ?_
 refine bh rfl<|aA<|ae<|bq<|aO (fE rfl) ?_
 refine bt<|ae<|ae<|ah ?_
 refine aG ?_
 refine zQ (ι:={t:Nat×Nat×List CellD // t.1≤k+1∧2*t.1+1≤t.2.1∧t.2.1≤maxLen∧t.2.2.length=(t.2.1-(2*t.1+1))*7}) (fun i=>⟨105,[(18,.o 102 (2*i.1.1+1) i.1.2.1),(75,.v (.c (.i .i64 (((i.1.1+1:Nat):Int))))),(2,.v (.c (.i .i64 r))),(4,.v (.c (.i .i64 z))),(5,.v (.c (.i .i64 f))),(14,.p 14 0),(73,.v (.c (.s (k+1+1) (iN a1 a2 dx dy L s k)))),(74,.v (.c (.i .i64 (((k+1+1:Nat):Int)))))],[(14,72,([.i .i64 dx]++[.i .i64 dy])),(102,219,UC (iN a1 a2 dx dy L s k) dx dy r z f i.1.1++i.1.2.2)]⟩) (fun i=>k+1-i.1.1) (k+2) ?_ ?_
 ·refine ae<|bq<|aO (aJ (c:=true) (dG rfl) (decide_eq_true (by omega))) ?_
  refine bt<|ae<|cz rfl<|aA<|ae<|aG<|ae<|ah<|ar (bc (us:=[.i .i64 (ci (iN a1 a2 dx dy L s k) (0*2))]++[.i .i64 (ci (iN a1 a2 dx dy L s k) (0*2+1))]++(iN a1 a2 dx dy L s k).drop (0*2+2)) vU rfl rfl (by omega) (tZ) (gI tZ hJ (by omega)) rfl) ?_
  refine ar (dM (us:=([.i .i64 (ci (iN a1 a2 dx dy L s k) (0*2))]++[.i .i64 (ci (iN a1 a2 dx dy L s k) (0*2+1))])) tR rfl rfl rfl rfl) ?_
  refine ae<|ae<|ah<|bh rfl<|aA<|cX 10 [] ?_
  refine aI rfl (xh hd (hB _) (hB _) (by omega)) ?_
  refine aq (aF (us:=([.i .i64 4]++([.i .i64 (ci (iN a1 a2 dx dy L s k) (0*2)-dx*r)]++[.i .i64 (ci (iN a1 a2 dx dy L s k) (0*2+1)-dy*r)]++[.i .i64 z])++([.i .i64 (ci (iN a1 a2 dx dy L s k) (0*2))]++[.i .i64 (ci (iN a1 a2 dx dy L s k) (0*2+1))])++[.i .i64 f])) RD S3 rfl rfl rfl) ?_
  refine aq (bW (n:=1) (us:=([.i .i64 4]++([.i .i64 (ci (iN a1 a2 dx dy L s k) (0*2)-dx*r)]++[.i .i64 (ci (iN a1 a2 dx dy L s k) (0*2+1)-dy*r)]++[.i .i64 z])++([.i .i64 (ci (iN a1 a2 dx dy L s k) (0*2))]++[.i .i64 (ci (iN a1 a2 dx dy L s k) (0*2+1))])++[.i .i64 f])) E1 rfl rfl rfl (by decide) (by decide) rfl) ?_
  refine DL.mk<|lv (ys:=([.i .i64 4]++([.i .i64 (ci (iN a1 a2 dx dy L s k) (0*2)-dx*r)]++[.i .i64 (ci (iN a1 a2 dx dy L s k) (0*2+1)-dy*r)]++[.i .i64 z])++([.i .i64 (ci (iN a1 a2 dx dy L s k) (0*2))]++[.i .i64 (ci (iN a1 a2 dx dy L s k) (0*2+1))])++[.i .i64 f])) E1 rfl rfl rfl (by decide) (by decide) (by decide) rfl rfl (fun cg1 rg1 hga1 hgb1 hgc1=>fa ?_)
  refine ah<|ar (bF (((0+1:Nat):Int)) ((aT (by omega) (by omega)).trans (congrArg some (by omega))) rfl) ?_
  exact⟨⟨⟨0,cg1,rg1⟩,by omega,by omega,hgb1,hgc1⟩,ap (bo rfl) (bo rfl) rfl,by show k+1-0<k+2;omega⟩
 ·rintro⟨⟨j,c,rs⟩,h2,h3,h4,h5⟩
  dsimp only at h2 h3 h4 h5
  dsimp only
  refine ae<|ah<|ae ?_
  refine aP rfl (fun hc2=>?_) (fun hc2=>?_)
  ·have g1:j+1<k+1+1:=by have:=of_decide_eq_true hc2;omega
   refine aA<|ae<|aG<|ae<|ah<|ar (bc (us:=[.i .i64 (ci (iN a1 a2 dx dy L s k) ((j+1)*2))]++[.i .i64 (ci (iN a1 a2 dx dy L s k) ((j+1)*2+1))]++(iN a1 a2 dx dy L s k).drop ((j+1)*2+2)) vU rfl rfl (by omega) (tZ) (gI tZ hJ (by omega)) rfl) ?_
   refine ar (dM (us:=([.i .i64 (ci (iN a1 a2 dx dy L s k) ((j+1)*2))]++[.i .i64 (ci (iN a1 a2 dx dy L s k) ((j+1)*2+1))])) tR rfl rfl rfl rfl) ?_
   refine ae<|ae<|bq<|bH 1<|aO (aJ (c:=true) (dG rfl) (decide_eq_true (by omega))) ?_
   refine bt<|cz rfl<|ah ?_
   refine ac rfl (xh hd (hB _) (hB _) (by omega))<|ar (aF (us:=([.i .i64 2]++([.i .i64 (ci (iN a1 a2 dx dy L s k) ((j+1)*2)-dx*r)]++[.i .i64 (ci (iN a1 a2 dx dy L s k) ((j+1)*2+1)-dy*r)]++[.i .i64 z])++([.i .i64 0]++[.i .i64 0])++[.i .i64 f])) RD S3 rfl rfl rfl) ?_
   refine ar (bW (n:=1) (us:=([.i .i64 2]++([.i .i64 (ci (iN a1 a2 dx dy L s k) ((j+1)*2)-dx*r)]++[.i .i64 (ci (iN a1 a2 dx dy L s k) ((j+1)*2+1)-dy*r)]++[.i .i64 z])++([.i .i64 0]++[.i .i64 0])++[.i .i64 f])) E1 rfl rfl rfl (by decide) (by decide) rfl) ?_
   refine DL.mk<|kQ (us:=UC (iN a1 a2 dx dy L s k) dx dy r z f j) (rest:=rs) (ys:=([.i .i64 2]++([.i .i64 (ci (iN a1 a2 dx dy L s k) ((j+1)*2)-dx*r)]++[.i .i64 (ci (iN a1 a2 dx dy L s k) ((j+1)*2+1)-dy*r)]++[.i .i64 z])++([.i .i64 0]++[.i .i64 0])++[.i .i64 f])) E1 rfl rfl rfl (by first|exact pv _|(rw[d6,pv];show _+7=_;omega)) (by assumption) rfl (by decide) (by omega) (by assumption) (by omega) (oD (by omega)) (.inr rfl) rfl (fun cg3 rg3 hga3 hgb3 hgc3=>fa ?_)
   refine cX 10 [] ?_
   refine aI rfl (xh hd (hB _) (hB _) (by omega)) ?_
   refine aq (aF (us:=([.i .i64 4]++([.i .i64 (ci (iN a1 a2 dx dy L s k) ((j+1)*2)-dx*r)]++[.i .i64 (ci (iN a1 a2 dx dy L s k) ((j+1)*2+1)-dy*r)]++[.i .i64 z])++([.i .i64 (ci (iN a1 a2 dx dy L s k) ((j+1)*2))]++[.i .i64 (ci (iN a1 a2 dx dy L s k) ((j+1)*2+1))])++[.i .i64 f])) RD S3 rfl rfl rfl) ?_
   refine aq (bW (n:=1) (us:=([.i .i64 4]++([.i .i64 (ci (iN a1 a2 dx dy L s k) ((j+1)*2)-dx*r)]++[.i .i64 (ci (iN a1 a2 dx dy L s k) ((j+1)*2+1)-dy*r)]++[.i .i64 z])++([.i .i64 (ci (iN a1 a2 dx dy L s k) ((j+1)*2))]++[.i .i64 (ci (iN a1 a2 dx dy L s k) ((j+1)*2+1))])++[.i .i64 f])) E1 rfl rfl rfl (by decide) (by decide) rfl) ?_
   refine DL.mk<|kQ (us:=UC (iN a1 a2 dx dy L s k) dx dy r z f j++(([.i .i64 2]++([.i .i64 (ci (iN a1 a2 dx dy L s k) ((j+1)*2)-dx*r)]++[.i .i64 (ci (iN a1 a2 dx dy L s k) ((j+1)*2+1)-dy*r)]++[.i .i64 z])++([.i .i64 0]++[.i .i64 0])++[.i .i64 f]))) (rest:=rg3) (ys:=([.i .i64 4]++([.i .i64 (ci (iN a1 a2 dx dy L s k) ((j+1)*2)-dx*r)]++[.i .i64 (ci (iN a1 a2 dx dy L s k) ((j+1)*2+1)-dy*r)]++[.i .i64 z])++([.i .i64 (ci (iN a1 a2 dx dy L s k) ((j+1)*2))]++[.i .i64 (ci (iN a1 a2 dx dy L s k) ((j+1)*2+1))])++[.i .i64 f])) E1 rfl rfl rfl (by first|exact pv _|(rw[d6,pv];show _+7=_;omega)) (by assumption) rfl (by decide) (by omega) (by assumption) (by omega) (oD (by omega)) (.inr rfl) rfl (fun cg4 rg4 hga4 hgb4 hgc4=>fa ?_)
   refine ah<|ar (bF (((j+1+1:Nat):Int)) ((aT (by omega) (by omega)).trans (congrArg some (by omega))) rfl) ?_
   exact⟨⟨⟨j+1,cg4,rg4⟩,by show j+1≤k+1;omega,by show 2*(j+1)+1≤cg4;omega,hgb4,by show _=(cg4-(2*(j+1)+1))*7;omega⟩,ap (bo rfl) (bo rfl) rfl,by show k+1-(j+1)<k+1-j;omega⟩
  ·have hj:k+1=j:=by have:=of_decide_eq_false hc2;omega
   refine bV<|ae<|ah ?_
   refine d7 (t:=12) (m:=7) (us:=UC (iN a1 a2 dx dy L s k) dx dy r z f j) rfl rfl (pf (n:=2*j+1) (by first|exact pv _|(rw[d6,pv];show _+7=_;omega)) (by assumption) (by omega)) (by omega) (by assumption) (lq (by first|exact pv _|(rw[d6,pv];show _+7=_;omega))) ?_
   refine ba ?_
   rw[hj]
   exact ai (ak (ak ag))
theorem abZ (hL:1≤L) (hd:Dir dx dy) (hr:1≤r) (q1:Jz a1 a2 r=true) (q2:Jz (a1+L*dx) (a2+L*dy) r=true) (q3:fb z=false):Ok Tryz.prog 104 [.a (([.i .i64 a1]++[.i .i64 a2])),.a (([.i .i64 (a1+L*dx)]++[.i .i64 (a2+L*dy)])),.c (.i .i64 r),.c (.i .i64 z)] [.a (([.i .i64 (a1-dx*r)]++[.i .i64 (a2-dy*r)]++[.i .i64 z])),.c (.i .i64 0)]:=by
 have g1:=(n5 _ _ _).1 q1
 have g2:=(n5 _ _ _).1 q2
 have r1: -10000000≤a1∧a1≤10000000:=by omega
 have r2: -10000000≤a2∧a2≤10000000:=by omega
 have r3: -10000000≤a1+L*dx∧a1+L*dx≤10000000:=by omega
 have r4: -10000000≤a2+L*dy∧a2+L*dy≤10000000:=by omega
 refine eo Tryz.func104 47 [.cell 8 148,.tmp 9] rfl<|ae<|ah<|ae<|ah ?_
 refine ac rfl (q8 zw (i9 hL hd.x) (i9 hL hd.y) (pK hL hd))<|ae<|ae<|bq<|bH 4 ?_
 refine aO (aJ (c:=false) (dG rfl) (decide_eq_false (by omega))) ?_
 refine gi<|bh rfl<|aA<|ae<|ae<|ah ?_
 refine ac rfl (cE (pO (by omega)) q1) ?_
 refine ar (bJ rfl) ?_
 refine ac rfl (cE (pO (by omega)) q2) ?_
 refine ar (bJ rfl) ?_
 refine ar (bW (n:=1) (us:=[.i .i64 z]) D1 rfl rfl rfl (by decide) (by decide) rfl) ?_
 refine ac rfl (cE Rn (show(!fb z)=true from by rw[q3,uV]))<|bh rfl<|aA<|ae<|ah ?_
 refine ac rfl (xh hd (by omega) (by omega) (by omega)) ?_
 refine ba ?_
 exact ai (bj WO rfl (ak ag))
theorem Og (hl:us.length=n*2) (hJ:us.all VX=true) (hn:n≤1000000):Ok Tryz.prog 105 [.c (.s n us),.c (.s n us)] [.c (.b true)]:=by
 refine eo Tryz.func105 26 [.tmp 4] rfl<|ae<|ah<|ae<|ae<|bq<|bH 4<|aO (aJ (c:=false) (dG rfl) (by simp)) ?_
 refine bt<|bh rfl<|aA<|ae<|ae<|ah<|aG<|bv (ι:={j:Nat // j≤n}) (fun i=>⟨26,[(0,.v (.c (.s n us))),(1,.v (.c (.s n us))),(5,.v (.c (.i .i64 (i.1:Int))))],[]⟩) (fun i=>n-i.1) ⟨0,iW _⟩ (ap (bo rfl) trivial rfl) ?_
 rintro⟨j,h2⟩
 replace h2:j≤n:=h2
 dsimp only
 refine ae<|ae<|ah ?_
 refine aP rfl (fun hc1=>?_) (fun hc1=>?_)
 ·have g1:j<n:=by have:=of_decide_eq_true hc1;omega
  refine aA<|ae<|aG<|ae<|wq 9 rfl rfl<|ji 2<|cK (bc (us:=([.i .i64 (ci us (j*2))]++[.i .i64 (ci us (j*2+1))])++us.drop (j*2+2)) vU rfl rfl (by omega) (hl) (gI hl hJ (by omega)) rfl) ?_
  refine cK (dM (us:=([.i .i64 (ci us (j*2))]++[.i .i64 (ci us (j*2+1))])) tR rfl rfl rfl rfl) ?_
  refine ji 2<|cK (bc (us:=([.i .i64 (ci us (j*2))]++[.i .i64 (ci us (j*2+1))])++us.drop (j*2+2)) vU rfl rfl (by omega) (hl) (gI hl hJ (by omega)) rfl) ?_
  refine cK (dM (us:=([.i .i64 (ci us (j*2))]++[.i .i64 (ci us (j*2+1))])) tR rfl rfl rfl rfl) ?_
  refine cK (aJ (c:=false) (LP rfl rfl rfl rfl (by kernel_rfl) (fun w=>XM (ci us (j*2)) (ci us (j*2+1)) (ci us (j*2)) (ci us (j*2+1)) w) rfl) (by simp)) ?_
  refine wd<|iC<|bt<|bh rfl<|aA<|ah<|ar (dZ (by omega) rfl) ?_
  exact⟨⟨j+1,g1⟩,ap (bo rfl) trivial rfl,by show n-(j+1)<n-j;omega⟩
 ·refine bV<|ae<|ah<|ba ?_
  exact ai (ak ag)
theorem JP (hl:us.length=n*2) (hJ:us.all VX=true) (hn:n≤9000000000000000000) {t:Int}{c:Rat}(hc:Rz 20 c) (ha:1≤a) (hat:a≤t) (ht2:t≤10000000) (hcos:j6 c=true) (hn2:2≤n) (hok:dk us 1=true):Ok Tryz.prog 35 [.c (.s n us),.c (.i .i64 a),.c (.i .i64 t),dR c] [.c (.b (SO us n a t c))]:=by
 refine eo Tryz.func35 134 [.tmp 8] rfl<|ae<|ah<|ae<|ae<|bq<|bH 1<|aO (aJ (c:=false) (dG rfl) (decide_eq_false (by omega))) ?_
 refine bH 3<|aO (aJ (c:=false) (dG rfl) (decide_eq_false (by omega))) ?_
 refine bH 3<|aO (aJ (c:=false) (dG rfl) (decide_eq_false (by omega))) ?_
 refine bH 3<|aO (dg rfl (cE (TU (bk hc)) hcos))<|gi<|bh rfl<|aA<|ae<|ae<|bq<|bH 2<|aO (aJ (c:=false) (dG rfl) (decide_eq_false (by omega))) ?_
 refine bt<|bh rfl<|aA<|ae<|cX 13 [9,999999]<|aq (bc (us:=[.i .i64 (ci us (0*2))]++[.i .i64 (ci us (0*2+1))]++us.drop (0*2+2)) vU rfl rfl (by omega) (hl) (gI hl hJ (by omega)) rfl) ?_
 refine aq (dM (us:=([.i .i64 (ci us (0*2))]++[.i .i64 (ci us (0*2+1))])) tR rfl rfl rfl rfl) ?_
 refine aq (bc (us:=[.i .i64 (ci us (1*2))]++[.i .i64 (ci us (1*2+1))]++us.drop (1*2+2)) vU rfl rfl (by omega) (hl) (gI hl hJ (by omega)) rfl) ?_
 refine aq (dM (us:=([.i .i64 (ci us (1*2))]++[.i .i64 (ci us (1*2+1))])) tR rfl rfl rfl rfl) ?_
 refine aI rfl (q8 zw (x':=dX us 1) (y':=dY us 1) rfl rfl hok) ?_
 refine DQ.mk<|gD (eQ tR rfl) rfl rfl rfl rfl<|dP ?_
 refine ae<|ah<|ae<|ae<|ah ?_
 refine aG<|bv (ι:={j:Nat // j≤n∧ ∀i,i<j→eg us a i=false}) (fun i=>⟨134,[(0,.v (.c (.s n us))),(1,.v (.c (.i .i64 a))),(2,.v (.c (.i .i64 t))),(7,.p 7 0),(9,.p 9 0),(10,.v (.c (.b true))),(11,.v (.c (.i .i64 (Oq us i.1)))),(46,.v (.c (.s n us))),(47,.v (.c (.i .i64 (n:Int)))),(48,.v (.c (.i .i64 (i.1:Int))))],[(7,38,cR c),(9,72,([.i .i64 (dX us 1)]++[.i .i64 (dY us 1)]))]⟩) (fun i=>n-i.1) ⟨0,iW _,fun i hi=>absurd hi (Nat.not_lt_zero i)⟩ (ap (bo rfl) (bo rfl) rfl) ?_
 rintro⟨j,h2,h3⟩
 replace h2:j≤n:=h2
 replace h3: ∀i,i<j→eg us a i=false:=h3
 dsimp only
 refine ae<|ah<|ae ?_
 refine aP rfl (fun hc1=>?_) (fun hc1=>?_)
 ·have g1:j<n:=by have:=of_decide_eq_true hc1;omega
  refine aA<|ae<|aG<|ae<|ah<|ar (bc (us:=[.i .i64 (ci us (j*2))]++[.i .i64 (ci us (j*2+1))]++us.drop (j*2+2)) vU rfl rfl (by omega) (hl) (gI hl hJ (by omega)) rfl) ?_
  refine ar (dM (us:=([.i .i64 (ci us (j*2))]++[.i .i64 (ci us (j*2+1))])) tR rfl rfl rfl rfl) ?_
  refine ae<|ae<|ah<|ar (bJ rfl) ?_
  refine ar (bW (n:=2) (us:=[.i .i64 (ci us (j*2))]++[.i .i64 (ci us (j*2+1))]) D1 rfl rfl rfl (by decide) (by decide) rfl) ?_
  refine ac rfl (RL) ?_
  refine aP rfl (fun hc2=>?_) (fun hc2=>?_)
  ·have e1:=adD (a:=a) hc2
   refine ae<|ah<|ba ?_
   rw[FR g1 e1]
   exact ai (ak ag)
  ·have e1:=ade hc2
   refine aA<|ae<|ae<|ah ?_
   refine aP rfl (fun hc3=>?_) (fun hc3=>?_)
   ·have e2:j=0:=by have:=eq_of_beq hc3;omega
    have e3:=acF (a:=a) e1 e2
    refine bV<|ah<|ar (dZ (by omega) rfl) ?_
    exact⟨⟨j+1,by omega,fun i hi=>(jY i j).elim (h3 i) (fun h9=>by rw[show i=j by omega];exact e3)⟩,ap ⟨rfl,rfl,rfl,rfl,rfl,rfl,by rw[←XP e2];rfl,rfl,rfl,rfl,trivial⟩ (bo rfl) rfl,by show n-(j+1)<n-j;omega⟩
   ·have e2:j≠0:=by intro h0;subst h0;simp at hc3
    have b1:=xO e1.1
    have b2:=xO e1.2
    have b3:=aaj (h3 (j-1) (by omega))
    refine aA<|ae<|cX 13 [14,999999]<|aq (bF (((j-1:Nat):Int)) ((aS (by omega) (by omega)).trans (congrArg some (by omega))) rfl)<|aq (bc (us:=[.i .i64 (ci us ((j-1)*2))]++[.i .i64 (ci us ((j-1)*2+1))]++us.drop ((j-1)*2+2)) vU rfl rfl (by omega) (hl) (gI hl hJ (by omega)) rfl) ?_
    refine aq (dM (us:=([.i .i64 (ci us ((j-1)*2))]++[.i .i64 (ci us ((j-1)*2+1))])) tR rfl rfl rfl rfl) ?_
    refine aI rfl (q8 zw (x':=dX us j) (y':=dY us j) (c:=dk us j) rfl rfl rfl) ?_
    refine DQ.mk<|gD (eQ tR rfl) rfl rfl rfl rfl<|dP ?_
    refine ae<|cX 38 [] ?_
    refine aq (bF (((j-1:Nat):Int)) ((aS (by omega) (by omega)).trans (congrArg some (by omega))) rfl)<|aq (bc (us:=[.i .i64 (ci us ((j-1)*2))]++[.i .i64 (ci us ((j-1)*2+1))]++us.drop ((j-1)*2+2)) vU rfl rfl (by omega) (hl) (gI hl hJ (by omega)) rfl) ?_
    refine aq (qE R9 rfl rfl rfl) ?_
    refine aq (bn yQ rfl rfl rfl) ?_
    refine aq (bF (ci us (j*2)-ci us ((j-1)*2)) (aS (by omega) (by omega)) rfl)<|aq (bF (((j-1:Nat):Int)) ((aS (by omega) (by omega)).trans (congrArg some (by omega))) rfl)<|aq (bc (us:=[.i .i64 (ci us ((j-1)*2))]++[.i .i64 (ci us ((j-1)*2+1))]++us.drop ((j-1)*2+2)) vU rfl rfl (by omega) (hl) (gI hl hJ (by omega)) rfl) ?_
    refine aq (qE R9 rfl rfl rfl) ?_
    refine aq (bn yQ rfl rfl rfl) ?_
    refine aq (bF (ci us ((j-1)*2)-ci us (j*2)) (aS (by omega) (by omega)) rfl) ?_
    refine aq (bF (((j-1:Nat):Int)) ((aS (by omega) (by omega)).trans (congrArg some (by omega))) rfl)<|aq (bc (us:=[.i .i64 (ci us ((j-1)*2))]++[.i .i64 (ci us ((j-1)*2+1))]++us.drop ((j-1)*2+2)) vU rfl rfl (by omega) (hl) (gI hl hJ (by omega)) rfl) ?_
    refine aq (qE OQ rfl rfl rfl) ?_
    refine aq (bn yQ rfl rfl rfl) ?_
    refine aq (bF (ci us (j*2+1)-ci us ((j-1)*2+1)) (aS (by omega) (by omega)) rfl)<|aq (bF (((j-1:Nat):Int)) ((aS (by omega) (by omega)).trans (congrArg some (by omega))) rfl)<|aq (bc (us:=[.i .i64 (ci us ((j-1)*2))]++[.i .i64 (ci us ((j-1)*2+1))]++us.drop ((j-1)*2+2)) vU rfl rfl (by omega) (hl) (gI hl hJ (by omega)) rfl) ?_
    refine aq (qE OQ rfl rfl rfl) ?_
    refine aq (bn yQ rfl rfl rfl) ?_
    refine aq (bF (ci us ((j-1)*2+1)-ci us (j*2+1)) (aS (by omega) (by omega)) rfl)<|aq (tv (c:=CM us j) (Hi rfl rfl rfl rfl rfl) rfl) ?_
    refine ae<|ae<|bq<|bH 2 ?_
    refine OL (bJ rfl) (fun c4 hb4=>?_)
    cases c4
    ·refine bH 2<|aO (LP rfl rfl rfl rfl (by kernel_rfl) (fun w=>XM (dX us j) (dY us j) (dX us 1) (dY us 1) w) rfl) ?_
     refine bH 1 ?_
     refine OL (bJ rfl) (fun c5 hb5=>?_)
     cases c5
     ·refine gi ?_
      refine aP rfl (fun hc6=>?_) (fun hc6=>?_)
      ·have e3:=adz e2 hc6
       refine ae<|ah<|ba ?_
       rw[FR g1 e3]
       exact ai (ak ag)
      ·have e3:=abo e1 hb4 hb5 hc6
       refine aA<|ah<|ar (zU rfl rfl rfl) ?_
       refine ah<|ar (dZ (by omega) rfl) ?_
       exact⟨⟨j+1,by omega,fun i hi=>(jY i j).elim (h3 i) (fun h9=>by rw[show i=j by omega];exact e3)⟩,ap ⟨rfl,rfl,rfl,rfl,rfl,rfl,by rw[←HB e2];rfl,rfl,rfl,rfl,trivial⟩ (bo rfl) rfl,by show n-(j+1)<n-j;omega⟩
     ·have e3:=ad6 (a:=a) e2 hb5
      refine gi<|cz rfl<|ae<|ah<|ba ?_
      rw[FR g1 e3]
      exact ai (ak ag)
    ·have e3:=ado (a:=a) e2 hb4
     refine gi<|cz rfl<|ae<|ah<|ba ?_
     rw[FR g1 e3]
     exact ai (ak ag)
 ·have hj:j=n:=by have:=of_decide_eq_false hc1;omega
  subst hj
  have m1:=O4 (a:=a) (by omega) _ h3
  have m2:=Yw hn2 h3
  refine bV<|ae<|ah ?_
  refine ac rfl (VL hc ha (by omega) (by omega) ht2 hcos m2 (by omega))<|ba ?_
  rw[Sc h3]
  exact ai (ak ag)
theorem dc {n:Int}(h0: -9223372036854775808≤n) (h1:n≤9223372036854775807):Ok Tryz.prog 33 [.c (.i .i64 n)] [dR (((n:Int):Rat))]:=by
 refine b9 Tryz.func33 rfl<|ac rfl (eG (by omega) (by omega)) ?_
 exact ai (bj bU rfl ag)
theorem acl:Rz 20 ((0:Int):Rat):=(iI (by decide) (by decide)).mono (by decide)
theorem awC:Ok Tryz.prog 102 [.a ([.i .i64 0]++[.i .i64 0]),.a ([.i .i64 0]++[.i .i64 25]),.c (.i .i64 10)] [.c (.s 4 (([.i .i64 0]++[.i .i64 0])++([.i .i64 0]++[.i .i64 10])++([.i .i64 0]++[.i .i64 20])++([.i .i64 0]++[.i .i64 25]))),.c (.i .i64 0)]:=by
 have h:=adb (a1:=0) (a2:=0) (L:=25) (dx:=0) (dy:=1) (s:=10) (k:=2) (by decide) (.inr (.inr (.inl ⟨rfl,rfl⟩))) (by decide) (by decide) (by decide) (by decide) (by decide) (by decide) (by decide) (by decide)
 have e:iN 0 0 0 1 25 10 2=([.i .i64 0]++[.i .i64 0])++([.i .i64 0]++[.i .i64 10])++([.i .i64 0]++[.i .i64 20])++([.i .i64 0]++[.i .i64 25]):=by unfold iN;simp[BY]
 rw[e] at h
 exact h
theorem awP:Ok Tryz.prog 103 [.a ([.i .i64 0]++[.i .i64 0]),.a ([.i .i64 0]++[.i .i64 25]),.c (.i .i64 10),.c (.i .i64 10),.c (.i .i64 0),.c (.i .i64 7)] [.c (.s 7 (UC (iN 0 0 0 1 25 10 2) 0 1 10 0 7 (2+1))),.c (.i .i64 0)]:=
 aa5 (a1:=0) (a2:=0) (L:=25) (dx:=0) (dy:=1) (r:=10) (s:=10) (z:=0) (f:=7) (k:=2) (by decide) (.inr (.inr (.inl ⟨rfl,rfl⟩))) (by decide) (by decide) (by decide) (by decide) (by decide) (by decide) (by decide) (by decide) (by decide)
theorem awS:Ok Tryz.prog 104 [.a ([.i .i64 0]++[.i .i64 0]),.a ([.i .i64 0]++[.i .i64 25]),.c (.i .i64 10),.c (.i .i64 0)] [.a ([.i .i64 0]++[.i .i64 (-10)]++[.i .i64 0]),.c (.i .i64 0)]:=
 abZ (a1:=0) (a2:=0) (L:=25) (dx:=0) (dy:=1) (r:=10) (z:=0) (by decide) (.inr (.inr (.inl ⟨rfl,rfl⟩))) (by decide) (by decide) (by decide) (by decide)
theorem jf:Ok Tryz.prog 31 [] [.c (.b true)]:=by
 refine eo Tryz.func31 69 [.tmp 0] rfl<|ae<|ah<|ae<|ah<|ar (aF (us:=([.i .i64 0]++[.i .i64 0])) ue tD rfl rfl rfl) ?_
 refine ar (aF (us:=([.i .i64 0]++[.i .i64 25])) ue tD rfl rfl rfl) ?_
 refine ac rfl (awC)<|ae<|ah<|ar (aF (us:=([.i .i64 0]++[.i .i64 0])) ue tD rfl rfl rfl) ?_
 refine ar (aF (us:=([.i .i64 0]++[.i .i64 25])) ue tD rfl rfl rfl) ?_
 refine ac rfl (awP)<|ae<|ah<|ar (aF (us:=([.i .i64 0]++[.i .i64 0])) ue tD rfl rfl rfl) ?_
 refine ar (aF (us:=([.i .i64 0]++[.i .i64 25])) ue tD rfl rfl rfl) ?_
 refine ac rfl (awS)<|ae<|bq<|bH 4<|aO (aF (us:=([.i .i64 0]++[.i .i64 0])) ue tD rfl rfl rfl) ?_
 refine aO (aF (us:=([.i .i64 0]++[.i .i64 10])) ue tD rfl rfl rfl) ?_
 refine aO (aF (us:=([.i .i64 0]++[.i .i64 20])) ue tD rfl rfl rfl) ?_
 refine aO (aF (us:=([.i .i64 0]++[.i .i64 25])) ue tD rfl rfl rfl) ?_
 refine aO (bW (n:=4) (us:=([.i .i64 0]++[.i .i64 0])++([.i .i64 0]++[.i .i64 10])++([.i .i64 0]++[.i .i64 20])++([.i .i64 0]++[.i .i64 25])) xX rfl rfl rfl (by decide) (by decide) rfl) ?_
 refine aO (dg rfl (Og (n:=4) (us:=([.i .i64 0]++[.i .i64 0])++([.i .i64 0]++[.i .i64 10])++([.i .i64 0]++[.i .i64 20])++([.i .i64 0]++[.i .i64 25])) rfl rfl (by decide)))<|bH 16 ?_
 refine aO (aF (us:=([.i .i64 0]++[.i .i64 (-10)]++[.i .i64 0])) Wt Qc rfl rfl rfl) ?_
 refine aO (VH (r:=true) rfl rfl rfl rfl (by kernel_rfl) (fun w=>Z0 0 (-10) 0 9998 w) rfl) ?_
 refine bH 2<|aO (aF (us:=([.i .i64 0]++[.i .i64 0])) ue tD rfl rfl rfl) ?_
 refine aO (aF (us:=([.i .i64 100]++[.i .i64 0])) ue tD rfl rfl rfl) ?_
 refine aO (bW (n:=2) (us:=([.i .i64 0]++[.i .i64 0])++([.i .i64 100]++[.i .i64 0])) xX rfl rfl rfl (by decide) (by decide) rfl) ?_
 refine aO (dg rfl (dc (by omega) (by omega)))<|aO (dg rfl (cE (JP (n:=2) (us:=([.i .i64 0]++[.i .i64 0])++([.i .i64 100]++[.i .i64 0])) (a:=1000) (t:=3000) (c:=((0:Int):Rat)) rfl rfl (by decide) acl (by decide) (by decide) (by decide) (by decide+kernel) (by decide) (by decide)) (c:=true) (by decide+kernel)))<|bH 2<|aO (aF (us:=([.i .i64 0]++[.i .i64 0])) ue tD rfl rfl rfl) ?_
 refine aO (aF (us:=([.i .i64 1000]++[.i .i64 0])) ue tD rfl rfl rfl) ?_
 refine aO (bW (n:=2) (us:=([.i .i64 0]++[.i .i64 0])++([.i .i64 1000]++[.i .i64 0])) xX rfl rfl rfl (by decide) (by decide) rfl) ?_
 refine aO (dg rfl (dc (by omega) (by omega)))<|aO (dg rfl (cE (JP (n:=2) (us:=([.i .i64 0]++[.i .i64 0])++([.i .i64 1000]++[.i .i64 0])) (a:=1000) (t:=3000) (c:=((0:Int):Rat)) rfl rfl (by decide) acl (by decide) (by decide) (by decide) (by decide+kernel) (by decide) (by decide)) (c:=false) (by decide+kernel)))<|gi<|ba ?_
 exact ai (ak ag)
theorem U3 {n:Int}:Ok Tryz.prog 30 [.c (.i .i64 n),.c (.i .i64 0)] [dR (Rat.divInt 0 1)]:=by
 have z1:Sz 999 0:=dC (by decide) (by decide) (by decide)
 have z2:Sz 999 1:=dC (by decide) (by decide) (by decide)
 refine b9 Tryz.func30 rfl<|lr rfl<|ac rfl (ni (by omega) (by omega))<|ac rfl (ni (by omega) (by omega))<|ac rfl (KP z1 z2 (by decide)) ?_
 exact ai (bj bU rfl ag)
theorem acX {n d:Int}(h0: -9223372036854775808≤n) (h1:n≤9223372036854775807) (h2: -9223372036854775808≤d) (h3:d≤9223372036854775807): ∃c:Rat,Rz 3 c∧Ok Tryz.prog 30 [.c (.i .i64 n),.c (.i .i64 d)] [dR c]:=by
 by_cases hd:d=0
 ·subst hd
  exact⟨_,Rz.of (k:=3) (dC (by decide) (by decide) (by decide)) (dC (by decide) (by decide) (by decide)) (by decide),U3⟩
 ·exact⟨_,Rz.of (k:=3) (dC (by decide) h0 h1) (dC (by decide) h2 h3) hd,OP h0 h1 h2 h3 hd⟩
theorem adV (hl:us.length=n*2) (hJ:us.all VX=true) (hB: ∀i,-20000000≤ci us i∧ci us i≤20000000) (hn:n≤100) (hr:0≤r∧r≤1000000):Ok Tryz.prog 36 [.c (.s n us),.c (.i .i64 r)] [.c (.s ((tN us r n).length) (aW bT (tN us r n)))]:=by
 refine eo Tryz.func36 29 [.tmp 4] rfl<|ae<|ah<|ae<|bq<|aO (fE rfl) ?_
 refine bt<|ae<|ae<|ah ?_
 refine aG ?_
 refine bv (ι:=Sum (Unit) ({x9:Nat×Nat×List CellD // 1≤x9.1∧x9.1≤n∧x9.1≤x9.2.1∧x9.2.1≤maxLen∧x9.2.2.length=(x9.2.1-x9.1)*12})) (fun i=>match i with| .inl i=>⟨29,[(1,.v (.c (.i .i64 r))),(8,.v (.c (.s n us))),(9,.v (.c (.i .i64 (n:Int)))),(10,.v (.c (.i .i64 0))),(5,.z)],[]⟩| .inr i=>⟨29,[(1,.v (.c (.i .i64 r))),(8,.v (.c (.s n us))),(9,.v (.c (.i .i64 (n:Int)))),(10,.v (.c (.i .i64 (i.1.1:Int)))),(5,.o 26 i.1.1 i.1.2.1)],[(26,40,aW bT (tN us r i.1.1)++i.1.2.2)]⟩) (fun i=>match i with| .inl i=>n-0| .inr i=>n-i.1.1) (.inl ()) (ap (bo rfl) trivial rfl) ?_
 rintro(⟨⟩|⟨⟨j,c9,rs⟩,h1,h2,h3,h4,h5⟩)
 ·dsimp only
  refine ae<|ah<|ae ?_
  refine aP rfl (fun hc1=>?_) (fun hc1=>?_)
  ·have g1:0<n:=by have:=of_decide_eq_true hc1;omega
   have b1:=hB (0*2)
   have b2:=hB (0*2+1)
   have zr:Rz 3 ((r:Int):Rat):=iI (by omega) (by omega)
   refine aA<|ae<|aG<|ae<|ah<|ar (bc (us:=[.i .i64 (ci us (0*2))]++[.i .i64 (ci us (0*2+1))]++us.drop (0*2+2)) vU rfl rfl (by omega) (hl) (gI hl hJ (by omega)) rfl) ?_
   refine ar (dM (us:=([.i .i64 (ci us (0*2))]++[.i .i64 (ci us (0*2+1))])) tR rfl rfl rfl rfl) ?_
   refine cX 12 [] ?_
   refine aI rfl (dc (by omega) (by omega)) ?_
   refine aI rfl (dc (by omega) (by omega))<|aI rfl (dc (by omega) (by omega))<|aI rfl (gF (zr.m_))<|aq (aF (us:=(cR (((ci us (0*2):Int):Rat))++cR (((ci us (0*2+1):Int):Rat))++cR (((r:Int):Rat)*((r:Int):Rat)))) OM NF rfl rfl rfl) ?_
   refine aq (bW (n:=1) (us:=(cR (((ci us (0*2):Int):Rat))++cR (((ci us (0*2+1):Int):Rat))++cR (((r:Int):Rat)*((r:Int):Rat)))) U9 rfl rfl rfl (by decide) (by decide) rfl) ?_
   refine DL.mk<|lv (ys:=(cR (((ci us (0*2):Int):Rat))++cR (((ci us (0*2+1):Int):Rat))++cR (((r:Int):Rat)*((r:Int):Rat)))) U9 rfl rfl rfl (by decide) (by decide) (by decide) rfl rfl (fun cg2 rg2 hga2 hgb2 hgc2=>fa ?_)
   refine ah<|ar (er (r:=1) rfl rfl rfl rfl) ?_
   exact⟨.inr ⟨⟨0+1,cg2,rg2⟩,by omega,by omega,hga2,hgb2,hgc2⟩,ap (bo rfl) ⟨congrArg (fun q=>some (40,q++rg2)) (show _=aW bT (tN us r (0+1)) from by rw[IY];exact(iH _).symm),trivial⟩ rfl,by show n-(0+1)<n-0;omega⟩
  ·have hn0:n=0:=by have:=of_decide_eq_false hc1;omega
   refine C2 (t:=5) rfl<|bV<|ae<|ah<|ba ?_
   subst hn0
   exact ai (ak ag)
 ·dsimp only at h1 h2 h3 h4 h5
  dsimp only
  refine ae<|ah<|ae ?_
  refine aP rfl (fun hc3=>?_) (fun hc3=>?_)
  ·have g1:j<n:=by have:=of_decide_eq_true hc3;omega
   have b1:=hB (j*2)
   have b2:=hB (j*2+1)
   have zr:Rz 3 ((r:Int):Rat):=iI (by omega) (by omega)
   refine aA<|ae<|aG<|ae<|ah<|ar (bc (us:=[.i .i64 (ci us (j*2))]++[.i .i64 (ci us (j*2+1))]++us.drop (j*2+2)) vU rfl rfl (by omega) (hl) (gI hl hJ (by omega)) rfl) ?_
   refine ar (dM (us:=([.i .i64 (ci us (j*2))]++[.i .i64 (ci us (j*2+1))])) tR rfl rfl rfl rfl) ?_
   refine cX 12 [] ?_
   refine aI rfl (dc (by omega) (by omega)) ?_
   refine aI rfl (dc (by omega) (by omega))<|aI rfl (dc (by omega) (by omega))<|aI rfl (gF (zr.m_))<|aq (aF (us:=(cR (((ci us (j*2):Int):Rat))++cR (((ci us (j*2+1):Int):Rat))++cR (((r:Int):Rat)*((r:Int):Rat)))) OM NF rfl rfl rfl) ?_
   refine aq (bW (n:=1) (us:=(cR (((ci us (j*2):Int):Rat))++cR (((ci us (j*2+1):Int):Rat))++cR (((r:Int):Rat)*((r:Int):Rat)))) U9 rfl rfl rfl (by decide) (by decide) rfl) ?_
   refine DL.mk<|kQ (us:=aW bT (tN us r j)) (rest:=rs) (ys:=(cR (((ci us (j*2):Int):Rat))++cR (((ci us (j*2+1):Int):Rat))++cR (((r:Int):Rat)*((r:Int):Rat)))) U9 rfl rfl rfl ((a7 mV _).trans (by rw[vp])) (by assumption) rfl (by decide) (by omega) (by assumption) (by omega) (oD (by omega)) (.inl rfl) rfl (fun cg4 rg4 hga4 hgb4 hgc4=>fa ?_)
   refine ah<|ar (dZ (by omega) rfl) ?_
   exact⟨.inr ⟨⟨j+1,cg4,rg4⟩,by omega,by omega,hga4,hgb4,hgc4⟩,ap (bo rfl) ⟨congrArg (fun q=>some (40,q++rg4)) (show _=aW bT (tN us r (j+1)) from by rw[IY,ii,iH];rfl),trivial⟩ rfl,by show n-(j+1)<n-j;omega⟩
  ·have hj:n=j:=by have:=of_decide_eq_false hc3;omega
   refine d7 (t:=5) (m:=12) (us:=aW bT (tN us r j)) rfl rfl (pf (n:=j) ((a7 mV _).trans (by rw[vp])) (by assumption) (by omega)) (by omega) (by assumption) (lq ((a7 mV _).trans (by rw[vp])))<|bV<|ae<|ah<|ba ?_
   subst hj;rw[vp]
   exact ai (ak ag)
def arB (P:Program) (U:TypeId):Option (Nat×Nat):=
 match P.underlying U with
 |some (.array n e)=>(P.info? e).map fun i=>(n,i.size)
 |_=>none
theorem gW {x i:Operand}{off:Nat}{kd:IntKind}{j:Int}
 (hU:arB P U=some (n,m)) (hx:cO T x=some (.p k off)) (hi:cO T i=some (.v (.c (.i kd j)))) (hj:0≤j∧j<n) (hg:gd ops ⟨dst,.indexAddr U x i,ty,pos,af,g⟩ T=some true):
 Sem P ops ⟨dst,.indexAddr U x i,ty,pos,af,g⟩ T B (.r (.p k (off+j.toNat*m))):=
 bI hg (fun l e=>oi (ops:=ops) (o:=⟨dst,.indexAddr U x i,ty,pos,af,g⟩) (by simp[Op.operands]) hx e) (fun V β a w hs=>by
  have h1:a.eval x=.pointer (some ⟨β k,off,none⟩):=aC hs (x:=x) (by simp[Op.operands]) hx
  have h2:=fO (aC hs (x:=i) (by simp[Op.operands]) hi)
  unfold arB at hU
  split at hU
  case h_2=>cases hU
  rename_i n' el hul
  cases hinf:P.info? el with
  |none=>rw[hinf] at hU;cases hU
  |some inf=>
   rw[hinf] at hU
   simp at hU
   obtain⟨rfl,rfl⟩:=hU
   have hso: ∀w,(sizeOf el).run P w=.ok inf.size w:=fun w=>by unfold sizeOf typeInfo;simp[program,Sem.run,hinf]
   refine⟨.pointer (some ⟨β k,off+j.toNat*inf.size,none⟩),?_,rfl⟩
   simp[execOp,Instr.indexAt,h1,h2,asIntOf,run_underlying hul,Instr.sureAddr,hj.1,hj.2,hso,kw])
theorem En:arB Tryz.prog 75=some (2,1):=by kernel_rfl
theorem abl:arB Tryz.prog 76=some (2,1):=by kernel_rfl
theorem Ly:((1:Int):Rat)*((1:Int):Rat)+((0:Int):Rat)*((0:Int):Rat)=((1:Int):Rat):=by decide+kernel
theorem ack {b:Int}(hp: -20000000≤px∧px≤20000000) (hq: -20000000≤py∧py≤20000000) (hdx: -1≤dx∧dx≤1) (hdy: -1≤dy∧dy≤1) (hR:0≤R∧R≤1000000) (hS:0≤S∧S≤1000000) (ha: -1000≤a∧a≤1000) (hb: -1000≤b∧b≤1000) (hn:((a:Int):Rat)*((a:Int):Rat)+((b:Int):Rat)*((b:Int):Rat)≠0):Ok Tryz.prog 37 [.a (([.i .i64 px]++[.i .i64 py])),.a (([.i .i64 dx]++[.i .i64 dy])),.c (.i .i64 R),.c (.i .i64 S),.a (([.i .i64 a]++[.i .i64 b]))] [.a (bT (yL px py dx dy R S a b))]:=by
 have za:Rz 3 ((a:Int):Rat):=iI (by omega) (by omega)
 have zb:Rz 3 ((b:Int):Rat):=iI (by omega) (by omega)
 have zR:Rz 3 ((R:Int):Rat):=iI (by omega) (by omega)
 have z2:Rz 3 ((2*R:Int):Rat):=iI (by omega) (by omega)
 have zS:Rz 3 ((S:Int):Rat):=iI (by omega) (by omega)
 have zp:Rz 3 ((px:Int):Rat):=iI (by omega) (by omega)
 have zq:Rz 3 ((py:Int):Rat):=iI (by omega) (by omega)
 have zu:Rz 3 ((dx:Int):Rat):=iI (by omega) (by omega)
 have zv:Rz 3 ((dy:Int):Rat):=iI (by omega) (by omega)
 have zx:Rz 40 (BW R a b):=((zR.mul ((zb.mul zb).sub (za.mul za))).div ((za.mul za).add (zb.mul zb)) hn).m_
 have zy:Rz 40 (Gi R a b):=((z2.mul (za.mul zb)).div ((za.mul za).add (zb.mul zb)) hn).m_
 refine eo Tryz.func37 90 [.cell 10 40] rfl<|ae<|ah<|ae<|cX 8 []<|aq (gW En rfl rfl (by decide) rfl) ?_
 refine aI rfl (dc (by omega) (by omega))<|aq (gW En rfl rfl (by decide) rfl) ?_
 refine aI rfl (dc (by omega) (by omega))<|ae<|cX 6 [] ?_
 refine aI rfl (gF (za.m_)) ?_
 refine aI rfl (gF (zb.m_)) ?_
 refine aI rfl (da ((za.mul za).m_) ((zb.mul zb).m_))<|ae<|ae<|bq<|bH 1 ?_
 refine aO (dg rfl (fY))<|aO (aJ (c:=false) (dG rfl) (beq_eq_false_iff_ne.2 fun e=>hn (uN.1 e))) ?_
 refine bt<|bh rfl<|aA<|ae<|cX 11 []<|aI rfl (dc (by omega) (by omega)) ?_
 refine aI rfl (gF (zb.m_)) ?_
 refine aI rfl (gF (za.m_)) ?_
 refine aI rfl (fG ((zb.mul zb).m_) ((za.mul za).m_)) ?_
 refine aI rfl (ce (zR.m_) (((zb.mul zb).sub (za.mul za)).m_)) ?_
 refine aI rfl ((show Ok _ _ _ [dR (BW R a b)] from z9 ((zR.mul ((zb.mul zb).sub (za.mul za))).m_) (((za.mul za).add (zb.mul zb)).m_) hn))<|ae<|cX 10 [] ?_
 refine aq (bF (2*R) (b5 (by omega) (by omega)) rfl) ?_
 refine aI rfl (dc (by omega) (by omega)) ?_
 refine aI rfl (ce (za.m_) (zb.m_)) ?_
 refine aI rfl (ce (z2.m_) ((za.mul zb).m_)) ?_
 refine aI rfl ((show Ok _ _ _ [dR (Gi R a b)] from z9 ((z2.mul (za.mul zb)).m_) (((za.mul za).add (zb.mul zb)).m_) hn))<|ae<|cX 12 [] ?_
 refine aI rfl (dc (by omega) (by omega))<|aI rfl (ce (zx.m_) (zu.m_)) ?_
 refine aI rfl (dc (by omega) (by omega))<|aI rfl (ce (zy.m_) (zv.m_))<|aI rfl (fG ((zx.mul zu).m_) ((zy.mul zv).m_))<|ae<|cX 12 [] ?_
 refine aI rfl (dc (by omega) (by omega)) ?_
 refine aI rfl (ce (zx.m_) (zv.m_)) ?_
 refine aI rfl (dc (by omega) (by omega))<|aI rfl (ce (zy.m_) (zu.m_))<|aI rfl (da ((zx.mul zv).m_) ((zy.mul zu).m_))<|ae<|cX 14 [] ?_
 refine aI rfl (dc (by omega) (by omega)) ?_
 refine aI rfl (da (zp.m_) (((zx.mul zu).sub (zy.mul zv)).m_)) ?_
 refine aI rfl (dc (by omega) (by omega)) ?_
 refine aI rfl (da (zq.m_) (((zx.mul zv).add (zy.mul zu)).m_)) ?_
 refine aI rfl (dc (by omega) (by omega))<|aI rfl (gF (zS.m_))<|aq (aF (us:=(cR (((px:Int):Rat)+((BW R a b)*(((dx:Int):Rat))-(Gi R a b)*(((dy:Int):Rat))))++cR (((py:Int):Rat)+((BW R a b)*(((dy:Int):Rat))+(Gi R a b)*(((dx:Int):Rat))))++cR (((S:Int):Rat)*((S:Int):Rat)))) OM NF rfl rfl rfl) ?_
 refine ba ?_
 exact ai (bj AX rfl ag)
theorem adG (hp: -20000000≤px∧px≤20000000) (hq: -20000000≤py∧py≤20000000) (hdx: -1≤dx∧dx≤1) (hdy: -1≤dy∧dy≤1) (hR:0≤R∧R≤1000000) (hS:0≤S∧S≤1000000):Ok Tryz.prog 37 [.a (([.i .i64 px]++[.i .i64 py])),.a (([.i .i64 dx]++[.i .i64 dy])),.c (.i .i64 R),.c (.i .i64 S),.a (([.i .i64 0]++[.i .i64 0]))] [.a (bT (yL px py dx dy R S 1 0))]:=by
 have hn:((1:Int):Rat)*((1:Int):Rat)+((0:Int):Rat)*((0:Int):Rat)≠0:=by decide+kernel
 have z0:Rz 3 ((0:Int):Rat):=iI (by decide) (by decide)
 have za:Rz 3 ((1:Int):Rat):=iI (by omega) (by omega)
 have zb:Rz 3 ((0:Int):Rat):=iI (by omega) (by omega)
 have zR:Rz 3 ((R:Int):Rat):=iI (by omega) (by omega)
 have z2:Rz 3 ((2*R:Int):Rat):=iI (by omega) (by omega)
 have zS:Rz 3 ((S:Int):Rat):=iI (by omega) (by omega)
 have zp:Rz 3 ((px:Int):Rat):=iI (by omega) (by omega)
 have zq:Rz 3 ((py:Int):Rat):=iI (by omega) (by omega)
 have zu:Rz 3 ((dx:Int):Rat):=iI (by omega) (by omega)
 have zv:Rz 3 ((dy:Int):Rat):=iI (by omega) (by omega)
 have zx:Rz 40 (BW R 1 0):=((zR.mul ((zb.mul zb).sub (za.mul za))).div ((za.mul za).add (zb.mul zb)) hn).m_
 have zy:Rz 40 (Gi R 1 0):=((z2.mul (za.mul zb)).div ((za.mul za).add (zb.mul zb)) hn).m_
 refine eo Tryz.func37 90 [.cell 10 40] rfl<|ae<|ah<|ae<|cX 8 []<|aq (gW En rfl rfl (by decide) rfl) ?_
 refine aI rfl (dc (by omega) (by omega))<|aq (gW En rfl rfl (by decide) rfl) ?_
 refine aI rfl (dc (by omega) (by omega))<|ae<|cX 6 [] ?_
 refine aI rfl (gF (z0.m_)) ?_
 refine aI rfl (gF (z0.m_)) ?_
 refine aI rfl (da ((z0.mul z0).m_) ((z0.mul z0).m_))<|ae<|ae<|bq<|bH 1 ?_
 refine aO (dg rfl (fY))<|aO (aJ (c:=true) (dG rfl) (beq_iff_eq.2 (by decide+kernel))) ?_
 refine bt<|cz rfl<|ah<|ac rfl (dc (by omega) (by omega))<|ac rfl (dc (by omega) (by omega))<|ac rfl (dc (by omega) (by omega)) ?_
 refine ae<|cX 11 [] ?_
 refine aI rfl (dc (by omega) (by omega)) ?_
 refine aI rfl (gF (z0.m_)) ?_
 refine aI rfl (gF (za.m_)) ?_
 refine aI rfl (fG ((zb.mul zb).m_) ((za.mul za).m_)) ?_
 refine aI rfl (ce (zR.m_) (((zb.mul zb).sub (za.mul za)).m_)) ?_
 refine aI rfl (kJ (z9 ((zR.mul ((zb.mul zb).sub (za.mul za))).m_) (za.m_) (by decide+kernel)) (show _=BW R 1 0 from by unfold BW;rw[Ly])) ?_
 refine ae<|cX 10 []<|aq (bF (2*R) (b5 (by omega) (by omega)) rfl)<|aI rfl (dc (by omega) (by omega)) ?_
 refine aI rfl (ce (za.m_) (zb.m_)) ?_
 refine aI rfl (ce (z2.m_) ((za.mul zb).m_)) ?_
 refine aI rfl (kJ (z9 ((z2.mul (za.mul zb)).m_) (za.m_) (by decide+kernel)) (show _=Gi R 1 0 from by unfold Gi;rw[Ly]))<|ae<|cX 12 [] ?_
 refine aI rfl (dc (by omega) (by omega))<|aI rfl (ce (zx.m_) (zu.m_)) ?_
 refine aI rfl (dc (by omega) (by omega))<|aI rfl (ce (zy.m_) (zv.m_))<|aI rfl (fG ((zx.mul zu).m_) ((zy.mul zv).m_)) ?_
 refine ae<|cX 12 [] ?_
 refine aI rfl (dc (by omega) (by omega))<|aI rfl (ce (zx.m_) (zv.m_)) ?_
 refine aI rfl (dc (by omega) (by omega))<|aI rfl (ce (zy.m_) (zu.m_))<|aI rfl (da ((zx.mul zv).m_) ((zy.mul zu).m_))<|ae<|cX 14 [] ?_
 refine aI rfl (dc (by omega) (by omega)) ?_
 refine aI rfl (da (zp.m_) (((zx.mul zu).sub (zy.mul zv)).m_)) ?_
 refine aI rfl (dc (by omega) (by omega)) ?_
 refine aI rfl (da (zq.m_) (((zx.mul zv).add (zy.mul zu)).m_)) ?_
 refine aI rfl (dc (by omega) (by omega)) ?_
 refine aI rfl (gF (zS.m_))<|aq (aF (us:=(cR (((px:Int):Rat)+((BW R 1 0)*(((dx:Int):Rat))-(Gi R 1 0)*(((dy:Int):Rat))))++cR (((py:Int):Rat)+((BW R 1 0)*(((dy:Int):Rat))+(Gi R 1 0)*(((dx:Int):Rat))))++cR (((S:Int):Rat)*((S:Int):Rat)))) OM NF rfl rfl rfl) ?_
 refine ba ?_
 exact ai (bj AX rfl ag)
theorem th (h:i<us.length):ci (us++vs) i=ci us i:=by unfold ci;rw[CK h]
theorem zP (h:us.length=n):ci (us++vs) (n+i)=ci vs i:=by
 unfold ci
 rw[GH (by omega),show n+i-us.length=i by omega]
theorem JY {a1 a2 dx dy s:Int}(hs:1≤s): ∀i j,j≤i→ci (BY a1 a2 dx dy s i) (j*2)=a1+dx*((j:Int)*s)∧ci (BY a1 a2 dx dy s i) (j*2+1)=a2+dy*((j:Int)*s)
 |0,j,h=>by
  obtain rfl:j=0:=by omega
  refine⟨?_,?_⟩
  ·show a1=a1+dx*(((0:Nat):Int)*s)
   rw[Int.natCast_zero,oG,ny,Int.add_zero]
  ·show a2=a2+dy*(((0:Nat):Int)*s)
   rw[Int.natCast_zero,oG,ny,Int.add_zero]
 |i+1,j,h=>by
  show ci (BY a1 a2 dx dy s i++_) _=_∧ci (BY a1 a2 dx dy s i++_) _=_
  have hl:(BY a1 a2 dx dy s i).length=(i+1)*2:=gw i
  rcases jY i j with h1|h1
  ·obtain rfl:j=i+1:=by omega
   exact⟨zP (i:=0) hl,zP (i:=1) hl⟩
  ·rw[th (by omega),th (by omega)]
   exact JY hs i j h1
theorem ib {X Y:Int}(h: -X≤x∧x≤X) (g: -Y≤y∧y≤Y): -(X*Y)≤x*y∧x*y≤X*Y:=by
 have e1:=pS x y
 have e2:=pS X Y
 have h1:x.natAbs*y.natAbs≤X.natAbs*Y.natAbs:=Nat.mul_le_mul (by omega) (by omega)
 have h2:0≤X*Y:=fU (by omega) (by omega)
 omega
theorem Nc (a:Int):0≤a*a:=by
 have:=Int.natAbs_mul_self (a:=a)
 omega
theorem Gl (h:a.natAbs<2^(n+1)):Bz (n+1) ((a:Int):Rat):=by
 refine⟨by rw[Rat.num_intCast];exact h,?_⟩
 rw[Rat.den_intCast]
 exact Nat.one_lt_two_pow (by omega)
theorem aay (hx: -10000000≤x∧x≤10000000) (hy: -10000000≤y∧y≤10000000) (hr:1≤r∧r≤200000):RK (AL x y r):=by
 have h1:=ib (x:=r) (y:=r) (X:=200000) (Y:=200000) (by omega) (by omega)
 have h2:1≤r*r:=sZ (by omega) (by omega)
 unfold AL
 refine⟨Gl (n:=38) (by omega),Gl (n:=38) (by omega),?_,?_⟩
 ·show Bz 36 (((r:Int):Rat)*((r:Int):Rat))
  rw[←dD]
  exact Gl (n:=35) (by omega)
 ·show 0<((r:Int):Rat)*((r:Int):Rat)
  rw[←dD]
  exact iF.2 h2
section
variable {px py dx dy R S a b:Int}(h:((a:Int):Rat)*((a:Int):Rat)+((b:Int):Rat)*((b:Int):Rat)≠0)
include h
theorem ach:(yL px py dx dy R S a b).x=Rat.divInt (px*(a*a+b*b)+(R*(b*b-a*a)*dx-R*(2*(a*b))*dy)) (a*a+b*b)∧
 (yL px py dx dy R S a b).y=Rat.divInt (py*(a*a+b*b)+(R*(b*b-a*a)*dy+R*(2*(a*b))*dx)) (a*a+b*b):=by
 obtain⟨h1,h2⟩:=Pq (R:=R) h
 rw[yI,yI]
 simp only[gz,dD,ri]
 rw[show((2:Int):Rat)=2 from rfl]
 unfold yL
 dsimp only
 generalize BW R a b=x at*
 generalize Gi R a b=y at*
 generalize ((a:Int):Rat)=a at*
 generalize ((b:Int):Rat)=b at*
 generalize ((R:Int):Rat)=r at*
 generalize ((px:Int):Rat)=px at*
 generalize ((py:Int):Rat)=py at*
 generalize ((dx:Int):Rat)=dx at*
 generalize ((dy:Int):Rat)=dy at*
 constructor
 ·have e:(px+(x*dx-y*dy))*(a*a+b*b)=px*(a*a+b*b)+(r*(b*b-a*a)*dx-r*(2*(a*b))*dy):=by grind
  rw[←e,Rat.mul_div_cancel h]
 ·have e:(py+(x*dy+y*dx))*(a*a+b*b)=py*(a*a+b*b)+(r*(b*b-a*a)*dy+r*(2*(a*b))*dx):=by grind
  rw[←e,Rat.mul_div_cancel h]
theorem QS (hd:Dir dx dy) (hx: -10000000≤px∧px≤10000000) (hy: -10000000≤py∧py≤10000000) (hR:1≤R) (hRS:R≤S) (hS:S≤100000) (ha: -128≤a∧a≤128) (hb: -128≤b∧b≤128):RK (yL px py dx dy R S a b):=by
 have hn:a*a+b*b≠0:=fun e=>h (by rw[←dD,←dD,←gz,e];rfl)
 obtain⟨ex,ey⟩:=ach (px:=px) (py:=py) (dx:=dx) (dy:=dy) (R:=R) (S:=S) h
 have a1:=Nc a
 have b1:=Nc b
 have a2:=ib (x:=a) (y:=a) (X:=128) (Y:=128) (by omega) (by omega)
 have b2:=ib (x:=b) (y:=b) (X:=128) (Y:=128) (by omega) (by omega)
 have c1:=Nc (a-b)
 have c2:=Nc (a+b)
 have c3:(a-b)*(a-b)=a*a+b*b-2*(a*b):=by grind
 have c4:(a+b)*(a+b)=a*a+b*b+2*(a*b):=by grind
 generalize hA:a*a=A at*
 generalize hB:b*b=B at*
 generalize hC:2*(a*b)=C at*
 have p1:=ib (x:=px) (y:=A+B) (X:=10000000) (Y:=32768) hx (by omega)
 have p2:=ib (x:=py) (y:=A+B) (X:=10000000) (Y:=32768) hy (by omega)
 have p3:=ib (x:=R) (y:=B-A) (X:=100000) (Y:=32768) (by omega) (by omega)
 have p4:=ib (x:=R) (y:=C) (X:=100000) (Y:=32768) (by omega) (by omega)
 have p5:=ib (x:=S) (y:=S) (X:=100000) (Y:=100000) (by omega) (by omega)
 have p6:1≤S*S:=sZ (by omega) (by omega)
 refine⟨?_,?_,?_,?_⟩
 ·rw[ex]
  refine Hg ?_ (by omega) hn
  rcases hd with⟨rfl,rfl⟩|⟨rfl,rfl⟩|⟨rfl,rfl⟩|⟨rfl,rfl⟩<;>omega
 ·rw[ey]
  refine Hg ?_ (by omega) hn
  rcases hd with⟨rfl,rfl⟩|⟨rfl,rfl⟩|⟨rfl,rfl⟩|⟨rfl,rfl⟩<;>omega
 ·show Bz 36 (((S:Int):Rat)*((S:Int):Rat))
  rw[←dD]
  exact Gl (n:=35) (by omega)
 ·show 0<((S:Int):Rat)*((S:Int):Rat)
  rw[←dD]
  exact iF.2 p6
end
section
variable {a1 a2 dx dy L m:Int}{k:Nat}(hL:1≤L) (hd:Dir dx dy) (hs:1≤m) (hmL:m≤L) (hk:(k:Int)=(L-1)/m)
include hL hd hs hmL hk
omit hd in
theorem Ik (hj:1≤j) (hj2:j≤k+1): ∃st:Int,1≤st∧st≤m∧(j=1→st=m)∧ci (iN a1 a2 dx dy L m k) (j*2)=ci (iN a1 a2 dx dy L m k) ((j-1)*2)+st*dx∧
 ci (iN a1 a2 dx dy L m k) (j*2+1)=ci (iN a1 a2 dx dy L m k) ((j-1)*2+1)+st*dy:=by
 obtain⟨j,rfl⟩: ∃i,j=i+1:=⟨j-1,by omega⟩
 have hl:(BY a1 a2 dx dy m k).length=(k+1)*2:=gw k
 have e0:=JY (a1:=a1) (a2:=a2) (dx:=dx) (dy:=dy) hs k j (by omega)
 have f0:ci (iN a1 a2 dx dy L m k) (j*2)=a1+dx*((j:Int)*m)∧ci (iN a1 a2 dx dy L m k) (j*2+1)=a2+dy*((j:Int)*m):=by
  unfold iN
  rw[th (by omega),th (by omega)]
  exact e0
 rw[show j+1-1=j from rfl,f0.1,f0.2]
 by_cases hc:j=k
 ·subst hc
  have g1: ¬((j+1:Nat):Int)*m<L:=fun h=>absurd ((ye hs hk j).1 h) (by omega)
  have g2:(j:Int)*m<L:=by
   match j,hk with
   |0,_=>simp;omega
   |j+1,hk=>exact(ye hs hk j).2 (by omega)
  rw[DJ] at g1
  refine⟨L-(j:Int)*m,by omega,by omega,fun h=>?_,?_,?_⟩
  ·obtain rfl:j=0:=by omega
   simp at*
   omega
  ·unfold iN
   have e:ci (BY a1 a2 dx dy m j++([.i .i64 (a1+L*dx)]++[.i .i64 (a2+L*dy)])) ((j+1)*2)=a1+L*dx:=zP (i:=0) hl
   rw[e]
   grind
  ·unfold iN
   have e:ci (BY a1 a2 dx dy m j++([.i .i64 (a1+L*dx)]++[.i .i64 (a2+L*dy)])) ((j+1)*2+1)=a2+L*dy:=zP (i:=1) hl
   rw[e]
   grind
 ·have e1:=JY (a1:=a1) (a2:=a2) (dx:=dx) (dy:=dy) hs k (j+1) (by omega)
  refine⟨m,hs,o9 _,fun _=>rfl,?_,?_⟩
  ·unfold iN
   rw[th (by omega),e1.1,DJ]
   grind
  ·unfold iN
   rw[th (by omega),e1.2,DJ]
   grind
theorem zO (hj:1≤j) (hj2:j≤k+1): ∃st:Int,(1≤st∧st≤m∧(j=1→st=m))∧CM (iN a1 a2 dx dy L m k) j=st∧dk (iN a1 a2 dx dy L m k) j=true∧dX (iN a1 a2 dx dy L m k) j=dx∧dY (iN a1 a2 dx dy L m k) j=dy:=by
 obtain⟨st,h1,h2,h3,e1,e2⟩:=Ik (a1:=a1) (a2:=a2) hL hs hmL hk hj hj2
 refine⟨st,⟨h1,h2,h3⟩,?_,?_,?_,?_⟩
 ·unfold CM
  rw[e1,e2]
  rcases hd with⟨rfl,rfl⟩|⟨rfl,rfl⟩|⟨rfl,rfl⟩|⟨rfl,rfl⟩<;>omega
 ·unfold dk
  rw[e1,e2]
  exact pK h1 hd
 ·unfold dX
  rw[e1]
  exact i9 h1 hd.x
 ·unfold dY
  rw[e2]
  exact i9 h1 hd.y
theorem Yh (hR:m≤R) (r1: -10000000≤a1∧a1≤10000000) (r2: -10000000≤a2∧a2≤10000000) (r3: -10000000≤a1+L*dx∧a1+L*dx≤10000000) (r4: -10000000≤a2+L*dy∧a2+L*dy≤10000000)
 {j:Nat}(hj:j<k+2):eg (iN a1 a2 dx dy L m k) R j=false:=by
 have hB:=QN (A6 hd hs hk r1 r2 r3 r4)
 have g0:=hB (j*2)
 have g1:=hB (j*2+1)
 have hf:fb (ci (iN a1 a2 dx dy L m k) (j*2))=false∧fb (ci (iN a1 a2 dx dy L m k) (j*2+1))=false:=⟨Is (by omega) (by omega),Is (by omega) (by omega)⟩
 by_cases h0:j=0
 ·exact acF hf h0
 ·obtain⟨st,⟨s1,s2,_⟩,e1,e2,e3,e4⟩:=zO (a1:=a1) (a2:=a2) hL hd hs hmL hk (show 1≤j by omega) (by omega)
  obtain⟨_,_,_,_,e5,e6⟩:=zO (a1:=a1) (a2:=a2) hL hd hs hmL hk (show 1≤1 by omega) (by omega)
  refine abo hf (by rw[e2];rfl) ?_ (decide_eq_false (by omega))
  rw[e3,e4,e5,e6]
  simp
theorem L4: ∀j,2≤j→j≤k+2→Oq (iN a1 a2 dx dy L m k) j=m
 |0,h,_=>by omega
 |1,h,_=>by omega
 |2,_,h=>by
  obtain⟨st,⟨s1,s2,s3⟩,e1,_⟩:=zO (a1:=a1) (a2:=a2) hL hd hs hmL hk (show 1≤1 by omega) (by omega)
  have h0:Oq (iN a1 a2 dx dy L m k) 1=0:=rfl
  rw[←HB (show 1≠0 by decide),h0,e1,s3 rfl]
  omega
 |j+3,_,h=>by
  obtain⟨st,⟨s1,s2,_⟩,e1,_⟩:=zO (a1:=a1) (a2:=a2) hL hd hs hmL hk (show 1≤j+2 by omega) (by omega)
  rw[←HB (show j+2≠0 by omega),L4 (j+2) (by omega) (by omega),e1]
  omega
end
theorem Cr {ps:Array (Nat×Operand)}{dps:List (Nat×D0)}
 (hU:arB P U=some (n,m)) (hz:AQ P U=some zs) (hp:uM T ps.toList=some dps) (hf:vm (fun i=>some (i*m,m)) zs dps=some us) (hg:gd ops ⟨dst,.build U ps,ty,pos,af,g⟩ T=some true):
 Sem P ops ⟨dst,.build U ps,ty,pos,af,g⟩ T B (.r (.v (.a us))):=
 bI hg (pF rfl) (fun V β a w hs=>by
  obtain⟨it,z,hi,hz,hr⟩:=xu (V:=V) (w:=w) hz
  obtain⟨h1,h2⟩:=pt hs ps.toList dps (fun p hp=>by simp only[Op.operands,List.mem_toArray,pp];exact⟨p,hp,rfl⟩) hp
  obtain⟨cells,hfl,hrd⟩:=tO _ dps z.cells zs us h1 h2 hr hf
  refine⟨.agg cells,?_,cells,rfl,hrd⟩
  unfold arB at hU
  split at hU
  ·rename_i n' e hu
   obtain⟨ie,hie,e2⟩:=Option.map_eq_some_iff.1 hU
   obtain⟨rfl,rfl⟩:=Prod.mk.inj e2
   have:=run_build (P:=P) w U (ps.map fun(i,x)=>(i,a.eval x)) cells (by
    unfold Program.built
    simp only[hi,hu,hz,hie]
    simpa using hfl)
   simp[execOp,this]
  ·cases hU)
end Go.Proofs.YtegpmhlfjkhjmaaGreat
