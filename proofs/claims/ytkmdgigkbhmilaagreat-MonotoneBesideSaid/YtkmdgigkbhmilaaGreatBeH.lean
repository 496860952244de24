/-Package swarfref01:parts. -/
import Derived.Test.YtkmdgigkbhmilaaGreatBeG
namespace Go.Proofs.YtkmdgigkbhmilaaGreat
open Go Go.RowKit
variable {a b c d m n r v x y:Int}{xs ys:List Int}{K k l:Nat}{U e t1 t2 xt:TypeId}
variable {ty:TypeId}{pos:String}{af:Array Edge}{g:Option (Nat×Bool)}{dst:Option Nat}
theorem nu:type_of% @Int.zero_mul:=@Int.zero_mul
theorem qJ:type_of% @Int.lt_trichotomy:=@Int.lt_trichotomy
theorem tS:type_of% @Int.mul_eq_zero:=@Int.mul_eq_zero
theorem s6:type_of% @Bool.not_false:=@Bool.not_false
theorem uu:type_of% @Int.mul_pos:=@Int.mul_pos
theorem M6 (hLxs:Lim xs) (hLys:Lim ys) (_nX:Nrm xs) (nY:Nrm ys) (hn:xs.length≤20000000) (hm:ys.length≤20000000) (hy0:ys≠ []):Ok Tryz.prog 216 [.c (cM xs),.c (cM ys)] [.c (cL (val xs/val ys)),.c (cL (val xs%val ys))]:=by
 have hyl:1≤ys.length:=by have:=List.length_pos_iff.2 hy0;omega
 obtain⟨htop,htopv⟩:=HP hLys nY hy0
 have hB1:=dH hLys (ys.length-1)
 have hvy0:0<val ys:=by have h2:=nh (dw (ys.length-1)) (show 0≤ys.getD (ys.length-1) 0 by omega);omega
 have hvx0:=dg hLxs
 obtain⟨B,hB⟩: ∃B,ys.getD (ys.length-1) 0=B:=⟨_,rfl⟩
 rw[hB] at htop hB1 htopv
 obtain⟨s,hs⟩: ∃s,1000000000/(B+1)=s:=⟨_,rfl⟩
 have hs1:1≤s:=by rw[←hs];exact(Int.le_ediv_iff_mul_le (by omega)).2 (by omega)
 have hs2:s≤500000000:=by rw[←hs];exact Int.ediv_le_of_le_mul (by omega) (by omega)
 obtain⟨V,hV⟩: ∃V,val ys*s=V:=⟨_,rfl⟩
 obtain⟨W,hW⟩: ∃W,val xs*s=W:=⟨_,rfl⟩
 have hV0:0<V:=by rw[←hV];exact uu hvy0 (by omega)
 have hW0:0≤W:=by rw[←hW];exact f9 hvx0 (by omega)
 have eV:(V.natAbs:Int)=V:=by omega
 have eW:(W.natAbs:Int)=W:=by omega
 have hVb:V<pw (ys.length+1):=by
  have h1:=fS hLys
  have h2:val ys*s≤val ys*1000000000:=nh (by omega) (by omega)
  rw[eu];omega
 have hWb:W<pw (xs.length+1):=by
  have h1:=fS hLxs
  have h2:val xs*s≤val xs*1000000000:=nh (by omega) (by omega)
  rw[eu];omega
 have hVlen:(dG V.natAbs).length≤ys.length+1:=wk (by omega) hVb
 have hWlen:(dG W.natAbs).length≤xs.length+1:=wk hW0 hWb
 have hVne:dG V.natAbs≠ []:=fun e=>by have:=e8.1 e;omega
 have hVl1:1≤(dG V.natAbs).length:=by have:=List.length_pos_iff.2 hVne;omega
 obtain⟨htop2,htopv2⟩:=HP (bZ V.natAbs) (jw _) hVne
 have hB2:=dH (bZ V.natAbs) ((dG V.natAbs).length-1)
 rw[cm,eV] at htopv2
 obtain⟨top,ht⟩: ∃top,(dG V.natAbs).getD ((dG V.natAbs).length-1) 0=top:=⟨_,rfl⟩
 rw[ht] at htop2 htopv2 hB2
 obtain⟨n,hnl⟩: ∃n,(dG V.natAbs).length=n:=⟨_,rfl⟩
 rw[hnl] at hVlen hVl1 htopv2 ht
 have hVlt:V<pw n:=by have:=fS (bZ V.natAbs);rw[cm,eV,hnl] at this;exact this
 obtain⟨hq1,hq2⟩:=Yc (x:=val xs) (y:=val ys) (s:=s) (by omega)
 rw[hV,hW] at hq1 hq2
 have szV:Sz 100000000 V:=⟨by have:=mJ (n:=ys.length+1) (m:=100000000) (by omega);omega,by have:=dw 100000000;omega⟩
 have hby1:Ok Tryz.prog 275 [.c (cM ys),.c (.i .u32 s)] [.c (cL V)]:=by rw[←hV];exact J7 hLys (by omega) (by omega) (by omega)
 have hby2:Ok Tryz.prog 275 [.c (cM xs),.c (.i .u32 s)] [.c (cL W)]:=by rw[←hW];exact J7 hLxs (by omega) (by omega) (by omega)
 have hbyV: ∀g:Int,0≤g→g<1000000000→Ok Tryz.prog 275 [.c (cL V),.c (.i .u32 g)] [.c (cL (V*g))]:=fun g h0 h1=>by have:=aah szV h0 h1;rw[eV] at this;exact this
 refine fD Tryz.func216 173 [.tmp 4,.tmp 5] rfl<|aa<|ah ?_
 refine jd (ι:=Unit) (fun i=>⟨173,[(0,.v (.c (cM xs))),(1,.v (.c (cM ys)))],[]⟩) ?_ ?_
 ·refine aa<|ah ?_
  refine kT (bp rfl) (fun c1 hb1=>?_)
  cases c1
  ·refine ba rfl<|aJ ?_
   exact⟨(),aB ⟨rfl,rfl,trivial⟩ trivial rfl⟩
  ·have ha2:xs.length≤2:=by simp only[decide_eq_true_eq] at hb1;omega
   refine aX rfl (fun hc2=>?_) (fun hc2=>?_)
   ·have hb2:ys.length≤2:=by simp only[decide_eq_true_eq] at hc2;omega
    have hp2:pw 2=1000000000000000000:=by decide
    have hvx2:=fS hLxs
    have hvy2:=fS hLys
    have hp3:=mJ (n:=xs.length) (m:=2) ha2
    have hp4:=mJ (n:=ys.length) (m:=2) hb2
    have hd0:0≤val xs/val ys:=s9 (by omega) (by omega)
    have hd1:val xs/val ys≤val xs:=Int.ediv_le_self _ (by omega)
    have hd2:val xs/val ys≤18446744073709551615:=by omega
    have hm0:0≤val xs%val ys:=oO _ (by omega)
    have hm1:val xs%val ys<val ys:=nQ _ (by omega)
    have hm2:val xs%val ys≤18446744073709551615:=by omega
    refine aa<|ah<|ac rfl (zG hLxs (by omega) (by omega))<|ac rfl (zG hLys (by omega) (by omega))<|aa<|di 10 [] ?_
    refine aq (kv (r:=val xs/val ys) rfl rfl (by omega) (by rw[tK (by omega)];exact jk (by omega) (by omega)) rfl) ?_
    refine aO rfl (r7 (by assumption) (by assumption))<|aq (fJ (r:=val xs%val ys) rfl rfl (by omega) (lk hvx0) rfl) ?_
    refine aO rfl (r7 (by assumption) (by assumption))<|bb ?_
    exact ai (al (al ae))
   ·refine aJ ?_
    exact⟨(),aB ⟨rfl,rfl,trivial⟩ trivial rfl⟩
 ·rintro⟨⟩
  show Dw _ _ ⟨173,[(0,.v (.c (cM xs))),(1,.v (.c (cM ys)))],[]⟩ _
  refine aa<|ah ?_
  refine ar (cr (((ys.length-1:Nat):Int)) (by rw[show((ys.length-1:Nat):Int)=(ys.length:Int)-1 from by omega];exact bT (by omega) (by omega)) rfl) ?_
  refine ar (bJ jv rfl rfl (by(first|omega|(simp;omega))) (jM _) rfl rfl) ?_
  refine ar (dd fY rfl (ll (i:=(ys.length-1)) (by(first|omega|(simp;omega)))) rfl) ?_
  refine ar (cS (r:=B) jR gh rfl (by rw[hB];exact jk (by omega) (by omega)) rfl) ?_
  refine ar (cr (B+1) (gy (by(first|omega|(simp;omega))) (by(first|omega|(simp;omega)))) rfl) ?_
  refine ar (kv (r:=s) rfl rfl (by omega) (by rw[tK (by omega),hs];exact jk (by omega) (by omega)) rfl) ?_
  refine ar (cS (r:=s) gh jR rfl (rM (by omega) (by omega)) rfl) ?_
  refine aa<|ah<|ac rfl (hby1) ?_
  refine aa<|ah ?_
  refine ar (cr (((n-1:Nat):Int)) (by rw[hnl,show((n-1:Nat):Int)=(n:Int)-1 from by omega];exact bT (by omega) (by omega)) rfl) ?_
  refine ar (bJ jv rfl rfl (by(first|omega|(simp;omega))) (jM _) rfl rfl) ?_
  refine ar (dd fY rfl (ll (i:=(n-1)) (by(first|omega|(simp;omega)))) rfl) ?_
  refine ar (cS (r:=top) jR gh rfl (by rw[ht];exact jk (by omega) (by omega)) rfl) ?_
  refine aa<|ah<|aa<|ah ?_
  refine ar (cr ((xs.length:Int)+1) (bL (by(first|omega|(simp;omega))) (by(first|omega|(simp;omega)))) rfl) ?_
  refine DL.mk<|ol (n7 (n:=xs.length+1) xj rfl rfl (by omega) (by omega) rfl) rfl<|fE ?_
  refine aa<|ah<|ac rfl (hby2) ?_
  refine aa<|ah ?_
  refine ar (jq (q:=((dG W.natAbs).length)) jv rfl rfl (by(first|omega|(simp;omega))) rfl) ?_
  refine aa<|aa<|ah ?_
  refine ar (cr ((((dG W.natAbs).length:Int))-1) (bT (by(first|omega|(simp;omega))) (by(first|omega|(simp;omega)))) rfl) ?_
  refine aT<|bF (ι:={t:Nat×Int×List Int // DInv (dG W.natAbs) V (xs.length+1) t.1 t.2.1 t.2.2}) (fun i=>⟨173,[(8,.v (.c (.i .u32 s))),(9,.v (.c (cL V))),(10,.v (.c (.i .u64 top))),(11,.v (.c (cL i.1.2.1))),(12,.o 64 ((dG W.natAbs).length) (xs.length+1)),(13,.v (.c (cL W))),(14,.v (.c (.i .i64 ((i.1.1:Int)-1))))],[(64,192,i.1.2.2.map (CellD.i .u32))]⟩) (fun i=>i.1.1) ⟨((dG W.natAbs).length,0,List.replicate (xs.length+1) 0),DInv.start hV0 hWlen⟩ (aB ⟨rfl,rfl,rfl,by rw[show cL 0=.s 0 [] from by unfold cL;rw[show(0:Int).natAbs=0 from rfl,lC];rfl];rfl,rfl,rfl,rfl,trivial⟩ ⟨by rw[show(List.replicate (xs.length+1) (CellD.i .u32 0))=(List.replicate (xs.length+1) 0).map (CellD.i .u32) from by simp];rfl,trivial⟩ rfl) ?_
  rintro⟨⟨j,R,zs⟩,hI⟩
  replace hI:DInv (dG W.natAbs) V (xs.length+1) j R zs:=hI
  have g6:=hI.len
  have gR0:=hI.R0
  have gRV:=hI.RV
  have gle:=hI.le
  have eR:(R.natAbs:Int)=R:=by omega
  have hRlen:(dG R.natAbs).length≤n:=wk gR0 (by omega)
  show Dw _ _ ⟨173,[(8,.v (.c (.i .u32 s))),(9,.v (.c (cL V))),(10,.v (.c (.i .u64 top))),(11,.v (.c (cL R))),(12,.o 64 ((dG W.natAbs).length) (xs.length+1)),(13,.v (.c (cL W))),(14,.v (.c (.i .i64 ((j:Int)-1))))],[(64,192,zs.map (CellD.i .u32))]⟩ _
  refine aa<|aa<|ah ?_
  refine aX rfl (fun hc3=>?_) (fun hc3=>?_)
  ·obtain⟨q,rfl⟩: ∃q,j=q+1:=⟨j-1,by simp only[decide_eq_true_eq] at hc3;omega⟩
   have gd:=dH (bZ W.natAbs) q
   obtain⟨T,hT⟩: ∃T,(dG W.natAbs).getD q 0+1000000000*R=T:=⟨_,rfl⟩
   have hT0:0≤T:=by omega
   have eT:(T.natAbs:Int)=T:=by omega
   have htrim:Ok Tryz.prog 215 [.c (cM ((dG W.natAbs).getD q 0::dG R.natAbs))] [.c (cL T)]:=by rw[←hT];exact Qf gR0 gd.1 gd.2 (by omega)
   have hTb:T<pw (n+1):=by rw[eu];omega
   have hTlen:(dG T.natAbs).length≤n+1:=wk hT0 hTb
   have szT:Sz 100000000 T:=⟨by have:=mJ (n:=n+1) (m:=100000000) (by omega);omega,by have:=dw 100000000;omega⟩
   have hquo:=El gR0 gRV gd.1 gd.2
   rw[hT] at hquo
   have gt1:=dH (bZ T.natAbs) (dG V.natAbs).length
   have gt2:=dH (bZ T.natAbs) (n-1)
   refine qu (σ':=⟨173,[(8,.v (.c (.i .u32 s))),(9,.v (.c (cL V))),(10,.v (.c (.i .u64 top))),(11,.v (.c (cL R))),(12,.o 64 ((dG W.natAbs).length) (xs.length+1)),(13,.v (.c (cL W))),(14,.v (.c (.i .i64 (q:Int))))],[(64,192,zs.map (CellD.i .u32))]⟩) (aB ⟨rfl,rfl,rfl,rfl,rfl,rfl,by rw[show(q:Int)=((q+1:Nat):Int)-1 from by omega];rfl,trivial⟩ ⟨rfl,trivial⟩ rfl) ?_
   refine aJ<|aa<|aT<|aa<|ah ?_
   refine ar (bJ jv rfl rfl (by(first|omega|(simp;omega))) (jM _) rfl rfl) ?_
   refine ar (dd fY rfl (ll (i:=q) (by(first|omega|(simp;omega)))) rfl) ?_
   refine DL.mk<|ol (jC (us:=[.i .u32 ((dG W.natAbs).getD q 0)]) xj rfl rfl (by decide) (by decide) rfl) rfl<|fE ?_
   refine DL.mk<|WM (De (rs:=dG R.natAbs) xj rfl rfl rfl (by omega) rfl)<|fE ?_
   refine ac rfl (htrim) ?_
   refine aa<|ah ?_
   refine jd (ι:={H:Int // H=if n<(dG T.natAbs).length then(dG T.natAbs).getD n 0*1000000000 else 0}) (fun i=>⟨173,[(8,.v (.c (.i .u32 s))),(9,.v (.c (cL V))),(10,.v (.c (.i .u64 top))),(11,.v (.c (cL T))),(12,.o 64 ((dG W.natAbs).length) (xs.length+1)),(13,.v (.c (cL W))),(14,.v (.c (.i .i64 (q:Int)))),(15,.v (.c (.i .u64 i.1)))],[(64,192,zs.map (CellD.i .u32))]⟩) ?_ ?_
   ·refine aa<|ah ?_
    refine aX rfl (fun hc4=>?_) (fun hc4=>?_)
    ·have hlt:(dG V.natAbs).length<(dG T.natAbs).length:=by simp only[decide_eq_true_eq] at hc4;omega
     refine ah ?_
     refine ar (bJ jv rfl rfl (by(first|omega|(simp;omega))) (jM _) rfl rfl) ?_
     refine ar (dd fY rfl (ll (i:=((dG V.natAbs).length)) (by(first|omega|(simp;omega)))) rfl) ?_
     refine ar (cS (r:=(dG T.natAbs).getD (((dG V.natAbs).length)) 0) jR gh rfl (jk (by(first|omega|(simp;omega))) (by(first|omega|(simp;omega)))) rfl) ?_
     refine ar (cr (((dG T.natAbs).getD (((dG V.natAbs).length)) 0)*1000000000) (iT (by(first|omega|(simp;omega))) (by(first|omega|(simp;omega)))) rfl) ?_
     exact⟨⟨(dG T.natAbs).getD (dG V.natAbs).length 0*1000000000,by rw[hnl] at*;rw[if_pos (by have:=hc4;simp only[decide_eq_true_eq] at this;omega)]⟩,aB ⟨rfl,rfl,rfl,rfl,rfl,rfl,rfl,rfl,trivial⟩ ⟨rfl,trivial⟩ rfl⟩
    ·refine aJ ?_
     exact⟨⟨0,by rw[if_neg (by have:=hc4;simp only[decide_eq_false_iff_not] at this;omega)]⟩,aB ⟨rfl,rfl,rfl,rfl,rfl,rfl,rfl,rfl,trivial⟩ ⟨rfl,trivial⟩ rfl⟩
   ·rintro⟨H1,hH1⟩
    replace hH1:H1=if n<(dG T.natAbs).length then(dG T.natAbs).getD n 0*1000000000 else 0:=hH1
    rw[hnl] at gt1
    have hHb:0≤H1∧H1≤999999999000000000:=by rw[hH1];split<;>omega
    show Dw _ _ ⟨173,[(8,.v (.c (.i .u32 s))),(9,.v (.c (cL V))),(10,.v (.c (.i .u64 top))),(11,.v (.c (cL T))),(12,.o 64 ((dG W.natAbs).length) (xs.length+1)),(13,.v (.c (cL W))),(14,.v (.c (.i .i64 (q:Int)))),(15,.v (.c (.i .u64 H1)))],[(64,192,zs.map (CellD.i .u32))]⟩ _
    refine jd (ι:={H:Int // HInv (dG T.natAbs) n H}) (fun i=>⟨173,[(8,.v (.c (.i .u32 s))),(9,.v (.c (cL V))),(10,.v (.c (.i .u64 top))),(11,.v (.c (cL T))),(12,.o 64 ((dG W.natAbs).length) (xs.length+1)),(13,.v (.c (cL W))),(14,.v (.c (.i .i64 (q:Int)))),(15,.v (.c (.i .u64 i.1)))],[(64,192,zs.map (CellD.i .u32))]⟩) ?_ ?_
    ·refine aa<|ah ?_
     refine aX rfl (fun hc5=>?_) (fun hc5=>?_)
     ·have hlt:n≤(dG T.natAbs).length:=by simp only[decide_eq_true_eq] at hc5;omega
      have hHT:HInv (dG T.natAbs) n (H1+(dG T.natAbs).getD (n-1) 0):=by
       rcases qt n (dG T.natAbs).length with h1|h1
       ·rw[hH1,if_pos h1];exact TQ (bZ _) (by omega) (by omega)
       ·rw[hH1,if_neg (by omega),Int.zero_add];exact Tg (bZ _) (by omega) (by omega)
      refine ah ?_
      refine ar (cr (((n-1:Nat):Int)) (by rw[hnl,show((n-1:Nat):Int)=(n:Int)-1 from by omega];exact bT (by omega) (by omega)) rfl) ?_
      refine ar (bJ jv rfl rfl (by(first|omega|(simp;omega))) (jM _) rfl rfl) ?_
      refine ar (dd fY rfl (ll (i:=(n-1)) (by(first|omega|(simp;omega)))) rfl) ?_
      refine ar (cS (r:=(dG T.natAbs).getD (n-1) 0) jR gh rfl (jk (by(first|omega|(simp;omega))) (by(first|omega|(simp;omega)))) rfl) ?_
      refine ar (cr (H1+((dG T.natAbs).getD (n-1) 0)) (gy (by(first|omega|(simp;omega))) (by(first|omega|(simp;omega)))) rfl) ?_
      exact⟨⟨H1+(dG T.natAbs).getD (n-1) 0,hHT⟩,aB ⟨rfl,rfl,rfl,rfl,rfl,rfl,rfl,rfl,trivial⟩ ⟨rfl,trivial⟩ rfl⟩
     ·have hHF:HInv (dG T.natAbs) n H1:=by
       simp only[decide_eq_false_iff_not] at hc5
       rw[hH1,if_neg (by omega)];exact RB (bZ _) (by omega)
      refine aJ ?_
      exact⟨⟨H1,hHF⟩,aB ⟨rfl,rfl,rfl,rfl,rfl,rfl,rfl,rfl,trivial⟩ ⟨rfl,trivial⟩ rfl⟩
    ·rintro⟨H,hH⟩
     replace hH:HInv (dG T.natAbs) n H:=hH
     have hHa:=hH.h0
     have hHc:=hH.h1
     have hHh:=hH.h
     rw[cm,eT] at hHh
     have hest:=Wd htopv2 htop2 hHh hT0 hV0
     have hq0:0≤H/top:=s9 (by omega) (by omega)
     have hq9:H/top≤H:=Int.ediv_le_self _ (by omega)
     show Dw _ _ ⟨173,[(8,.v (.c (.i .u32 s))),(9,.v (.c (cL V))),(10,.v (.c (.i .u64 top))),(11,.v (.c (cL T))),(12,.o 64 ((dG W.natAbs).length) (xs.length+1)),(13,.v (.c (cL W))),(14,.v (.c (.i .i64 (q:Int)))),(15,.v (.c (.i .u64 H)))],[(64,192,zs.map (CellD.i .u32))]⟩ _
     refine aa<|ah ?_
     refine ar (kv (r:=H/top) rfl rfl (by omega) (by rw[tK (by omega)];exact jk (by omega) (by omega)) rfl) ?_
     refine jd (ι:={g:Int // T/V≤g∧g≤999999999}) (fun i=>⟨173,[(8,.v (.c (.i .u32 s))),(9,.v (.c (cL V))),(10,.v (.c (.i .u64 top))),(11,.v (.c (cL T))),(12,.o 64 ((dG W.natAbs).length) (xs.length+1)),(13,.v (.c (cL W))),(14,.v (.c (.i .i64 (q:Int)))),(16,.v (.c (.i .u64 i.1)))],[(64,192,zs.map (CellD.i .u32))]⟩) ?_ ?_
     ·refine aa<|ah ?_
      refine aX rfl (fun hc6=>?_) (fun hc6=>?_)
      ·refine ah ?_
       exact⟨⟨999999999,hquo.2,mV _⟩,aB ⟨rfl,rfl,rfl,rfl,rfl,rfl,rfl,rfl,trivial⟩ ⟨rfl,trivial⟩ rfl⟩
      ·refine aJ ?_
       exact⟨⟨H/top,hest,by have:=hc6;simp only[decide_eq_false_iff_not] at this;omega⟩,aB ⟨rfl,rfl,rfl,rfl,rfl,rfl,rfl,rfl,trivial⟩ ⟨rfl,trivial⟩ rfl⟩
     ·rintro⟨g,hg⟩
      replace hg:T/V≤g∧g≤999999999:=hg
      show Dw _ _ ⟨173,[(8,.v (.c (.i .u32 s))),(9,.v (.c (cL V))),(10,.v (.c (.i .u64 top))),(11,.v (.c (cL T))),(12,.o 64 ((dG W.natAbs).length) (xs.length+1)),(13,.v (.c (cL W))),(14,.v (.c (.i .i64 (q:Int)))),(16,.v (.c (.i .u64 g)))],[(64,192,zs.map (CellD.i .u32))]⟩ _
      refine aa<|ah<|ar (cS (r:=g) gh jR rfl (rM (by omega) (by omega)) rfl) ?_
      refine ac rfl (hbyV g (by omega) (by omega))<|aa<|aT<|bF (ι:={g:Int // T/V≤g∧g≤999999999}) (fun i=>⟨173,[(8,.v (.c (.i .u32 s))),(9,.v (.c (cL V))),(10,.v (.c (.i .u64 top))),(11,.v (.c (cL T))),(12,.o 64 ((dG W.natAbs).length) (xs.length+1)),(13,.v (.c (cL W))),(14,.v (.c (.i .i64 (q:Int)))),(16,.v (.c (.i .u64 i.1))),(17,.v (.c (cL (V*i.1))))],[(64,192,zs.map (CellD.i .u32))]⟩) (fun i=>i.1.toNat) ⟨g,hg⟩ (aB ⟨rfl,rfl,rfl,rfl,rfl,rfl,rfl,rfl,rfl,trivial⟩ ⟨rfl,trivial⟩ rfl) ?_
      rintro⟨g,hg⟩
      replace hg:T/V≤g∧g≤999999999:=hg
      have hVg0:0≤V*g:=f9 (by omega) (by omega)
      have eVg:((V*g).natAbs:Int)=V*g:=by omega
      have hVgb:V*g≤V*1000000000:=nh (by omega) (by omega)
      have szP:Sz 100000000 (V*g):=⟨by have:=mJ (n:=n+1) (m:=100000000) (by omega);rw[eu] at this;omega,by have:=dw 100000000;omega⟩
      have hcmp:Ok Tryz.prog 214 [.c (cL (V*g)),.c (cL T)] [.c (.i .i64 (eL (V*g) T))]:=by have:=pq szP szT;rw[eVg,eT] at this;exact this
      show Dw _ _ ⟨173,[(8,.v (.c (.i .u32 s))),(9,.v (.c (cL V))),(10,.v (.c (.i .u64 top))),(11,.v (.c (cL T))),(12,.o 64 ((dG W.natAbs).length) (xs.length+1)),(13,.v (.c (cL W))),(14,.v (.c (.i .i64 (q:Int)))),(16,.v (.c (.i .u64 g))),(17,.v (.c (cL (V*g))))],[(64,192,zs.map (CellD.i .u32))]⟩ _
      refine aa<|aa<|ah<|ac rfl (hcmp) ?_
      refine aX rfl (fun hc7=>?_) (fun hc7=>?_)
      ·have hgt:T<V*g:=by simp only[decide_eq_true_eq] at hc7;rcases qJ (V*g) T with h1|h1|h1<;>first|(rw[fy h1] at hc7;omega)|(rw[kQ h1] at hc7;omega)|exact h1
       have hg2:T/V≤g-1:=by have:T/V<g:=(Int.ediv_lt_iff_lt_mul hV0).2 (by rw[tx];exact hgt);omega
       have hVm:V*(g-1)=V*g-V:=by rw[Int.mul_sub,Int.mul_one]
       have hVm0:0≤V*(g-1):=f9 (by omega) (by omega)
       have hmin:Ok Tryz.prog 274 [.c (cL (V*g)),.c (cL V)] [.c (cL (V*(g-1)))]:=by have:=x5 (b:=V) szP (by omega);rw[eVg,eV,←hVm] at this;exact this
       refine aJ<|aT<|aa<|ah ?_
       refine ar (cr (g-1) (Im (by(first|omega|(simp;omega))) (by(first|omega|(simp;omega)))) rfl) ?_
       refine ah<|ac rfl (hmin) ?_
       exact⟨⟨g-1,hg2,by omega⟩,aB ⟨rfl,rfl,rfl,rfl,rfl,rfl,rfl,rfl,rfl,trivial⟩ ⟨rfl,trivial⟩ rfl,by show(g-1).toNat<g.toNat;omega⟩
      ·have hle:V*g≤T:=by simp only[decide_eq_false_iff_not] at hc7;rcases qJ (V*g) T with h1|h1|h1<;>first|omega|(rw[fF h1] at hc7;omega)
       have hgq:g=T/V:=by have:g≤T/V:=(Int.le_ediv_iff_mul_le hV0).2 (by rw[tx];exact hle);omega
       have hr0:0≤T-V*g:=by omega
       have hr1:T-V*g<V:=by have:=nQ T hV0;have h2:=q6 T V;rw[←hgq] at h2;omega
       have hmin:Ok Tryz.prog 274 [.c (cL T),.c (cL (V*g))] [.c (cL (T-V*g))]:=by have:=x5 (b:=V*g) szT (by omega);rw[eVg,eT] at this;exact this
       refine bG<|aa<|ah<|ac rfl (hmin) ?_
       refine bo<|bR 3<|a7 (cS (r:=g) gh jR rfl (rM (by omega) (by omega)) rfl) ?_
       refine a7 (bq jv rfl rfl (by(first|omega|(simp;omega))) rfl) ?_
       refine gZ (bm (us:=(zs.set q g).map (CellD.i .u32)) fY rfl rfl rfl rfl (by simp;omega) (qX (by(first|omega|(simp;omega)))) rfl) ?_
       refine bj<|ah ?_
       refine ar (cr ((q:Int)-1) (bT (by(first|omega|(simp;omega))) (by(first|omega|(simp;omega)))) rfl) ?_
       exact⟨⟨(q,T-V*g,zs.set q g),hI.step (bZ _) (by omega) (by omega) hr0 hr1 (by rw[hT];show T=g*V+(T-V*g);rw[tx g V];omega)⟩,aB ⟨rfl,rfl,rfl,rfl,rfl,rfl,rfl,trivial⟩ ⟨rfl,trivial⟩ rfl,by show q<q+1;omega⟩
  ·have hj0:j=0:=by simp only[decide_eq_false_iff_not] at hc3;omega
   subst hj0
   obtain⟨d1,d2⟩:=hI.done
   rw[cm,eW] at d1 d2
   refine bG<|aa<|ah<|aa<|ah ?_
   refine DL.mk<|ol (n7 (n:=((dG R.natAbs).length)) xj rfl rfl (by omega) (by omega) rfl) rfl<|fE ?_
   refine aa<|aa<|ah ?_
   refine ar (cr ((((dG R.natAbs).length:Int))-1) (bT (by(first|omega|(simp;omega))) (by(first|omega|(simp;omega)))) rfl) ?_
   refine aT<|bF (ι:={t:Nat×Int×List Int // DInv (dG R.natAbs) s (dG R.natAbs).length t.1 t.2.1 t.2.2}) (fun i=>⟨173,[(8,.v (.c (.i .u32 s))),(11,.v (.c (cL R))),(12,.o 64 ((dG W.natAbs).length) (xs.length+1)),(18,.v (.c (.i .u64 i.1.2.1))),(19,.o 141 ((dG R.natAbs).length) ((dG R.natAbs).length)),(20,.v (.c (.i .i64 ((i.1.1:Int)-1))))],[(64,192,zs.map (CellD.i .u32)),(141,192,i.1.2.2.map (CellD.i .u32))]⟩) (fun i=>i.1.1) ⟨((dG R.natAbs).length,0,List.replicate (dG R.natAbs).length 0),DInv.start (by omega) (cK _)⟩ (aB ⟨rfl,rfl,rfl,rfl,rfl,rfl,trivial⟩ ⟨rfl,by rw[show(List.replicate (dG R.natAbs).length (CellD.i .u32 0))=(List.replicate (dG R.natAbs).length 0).map (CellD.i .u32) from by simp];rfl,trivial⟩ rfl) ?_
   rintro⟨⟨j2,c,ls⟩,hI2⟩
   replace hI2:DInv (dG R.natAbs) s (dG R.natAbs).length j2 c ls:=hI2
   have k6:=hI2.len
   have k0:=hI2.R0
   have k1:=hI2.RV
   have kle:=hI2.le
   show Dw _ _ ⟨173,[(8,.v (.c (.i .u32 s))),(11,.v (.c (cL R))),(12,.o 64 ((dG W.natAbs).length) (xs.length+1)),(18,.v (.c (.i .u64 c))),(19,.o 141 ((dG R.natAbs).length) ((dG R.natAbs).length)),(20,.v (.c (.i .i64 ((j2:Int)-1))))],[(64,192,zs.map (CellD.i .u32)),(141,192,ls.map (CellD.i .u32))]⟩ _
   refine aa<|aa<|ah ?_
   refine aX rfl (fun hc8=>?_) (fun hc8=>?_)
   ·obtain⟨q2,rfl⟩: ∃q,j2=q+1:=⟨j2-1,by simp only[decide_eq_true_eq] at hc8;omega⟩
    have gd:=dH (bZ R.natAbs) q2
    have hb0:=El k0 k1 gd.1 gd.2
    rw[show(dG R.natAbs).getD q2 0+1000000000*c=c*1000000000+(dG R.natAbs).getD q2 0 from by omega] at hb0
    have hd20:0≤(c*1000000000+(dG R.natAbs).getD q2 0)/s:=hb0.1
    have hd21:(c*1000000000+(dG R.natAbs).getD q2 0)/s<1000000000:=by omega
    have hr20:0≤(c*1000000000+(dG R.natAbs).getD q2 0)%s:=oO _ (by omega)
    have hr21:(c*1000000000+(dG R.natAbs).getD q2 0)%s<s:=nQ _ (by omega)
    refine qu (σ':=⟨173,[(8,.v (.c (.i .u32 s))),(11,.v (.c (cL R))),(12,.o 64 ((dG W.natAbs).length) (xs.length+1)),(18,.v (.c (.i .u64 c))),(19,.o 141 ((dG R.natAbs).length) ((dG R.natAbs).length)),(20,.v (.c (.i .i64 (q2:Int))))],[(64,192,zs.map (CellD.i .u32)),(141,192,ls.map (CellD.i .u32))]⟩) (aB ⟨rfl,rfl,rfl,rfl,rfl,by rw[show(q2:Int)=((q2+1:Nat):Int)-1 from by omega];rfl,trivial⟩ ⟨rfl,rfl,trivial⟩ rfl) ?_
    refine aJ<|aa<|aT<|aa<|ah ?_
    refine ar (cr (c*1000000000) (iT (by(first|omega|(simp;omega))) (by(first|omega|(simp;omega)))) rfl) ?_
    refine ar (bJ jv rfl rfl (by(first|omega|(simp;omega))) (jM _) rfl rfl) ?_
    refine ar (dd fY rfl (ll (i:=q2) (by(first|omega|(simp;omega)))) rfl) ?_
    refine ar (cS (r:=(dG R.natAbs).getD q2 0) jR gh rfl (jk (by(first|omega|(simp;omega))) (by(first|omega|(simp;omega)))) rfl) ?_
    refine ar (cr ((c*1000000000)+((dG R.natAbs).getD q2 0)) (gy (by(first|omega|(simp;omega))) (by(first|omega|(simp;omega)))) rfl) ?_
    refine aa<|bo<|bR 4 ?_
    refine a7 (cS (r:=s) jR gh rfl (jk (by(first|omega|(simp;omega))) (by(first|omega|(simp;omega)))) rfl) ?_
    refine a7 (kv (r:=(c*1000000000+(dG R.natAbs).getD q2 0)/s) rfl rfl (by omega) (by rw[tK (by omega)];exact jk (by omega) (by omega)) rfl) ?_
    refine a7 (cS (r:=(c*1000000000+(dG R.natAbs).getD q2 0)/s) gh jR rfl (rM (by omega) (by omega)) rfl) ?_
    refine a7 (bq jv rfl rfl (by(first|omega|(simp;omega))) rfl) ?_
    refine gZ (bm (us:=(ls.set q2 ((c*1000000000+(dG R.natAbs).getD q2 0)/s)).map (CellD.i .u32)) fY rfl rfl rfl rfl (by simp;omega) (qX (by(first|omega|(simp;omega)))) rfl) ?_
    refine bj<|ah ?_
    refine ar (cS (r:=s) jR gh rfl (jk (by(first|omega|(simp;omega))) (by(first|omega|(simp;omega)))) rfl) ?_
    refine ar (fJ (r:=(c*1000000000+(dG R.natAbs).getD q2 0)%s) rfl rfl (by omega) (lk (by omega)) rfl) ?_
    refine ah ?_
    refine ar (cr ((q2:Int)-1) (bT (by(first|omega|(simp;omega))) (by(first|omega|(simp;omega)))) rfl) ?_
    exact⟨⟨(q2,(c*1000000000+(dG R.natAbs).getD q2 0)%s,ls.set q2 ((c*1000000000+(dG R.natAbs).getD q2 0)/s)),hI2.step (bZ _) hd20 hd21 hr20 hr21 (by rw[tx ((c*1000000000+(dG R.natAbs).getD q2 0)/s) s,q6];omega)⟩,aB ⟨rfl,rfl,rfl,rfl,rfl,rfl,trivial⟩ ⟨rfl,rfl,trivial⟩ rfl,by show q2<q2+1;omega⟩
   ·have hj0:j2=0:=by simp only[decide_eq_false_iff_not] at hc8;omega
    subst hj0
    obtain⟨d3,d4⟩:=hI2.done
    rw[cm,eR,iB (by omega)] at d3
    have f1:val xs/val ys=val (zs.take (dG W.natAbs).length):=by rw[←hq1,d1]
    have f2:val xs%val ys=val ls:=by rw[←d3,←d2,hq2,Int.mul_ediv_cancel _ (by omega)]
    have hLo:Lim (zs.take (dG W.natAbs).length):=hI.L.take _
    have hLl:=hI2.L
    refine bG<|aa ?_
    refine vJ (t:=12) (zs:=zs) (ys:=zs.take ((dG W.natAbs).length)) rfl rfl (by first|omega|(simp;omega)|simp) (by omega) (by omega) (rfl) ?_
    refine vJ (t:=19) (zs:=ls) (ys:=ls) rfl rfl (by first|omega|(simp;omega)|simp) (by omega) (by omega) (iB (by first|omega|(simp;omega)|simp)) ?_
    refine ah<|ac rfl (lF hLo (by simp<;>omega))<|ac rfl (lF hLl (by omega))<|bb ?_
    rw[f1,f2]
    exact ai (al (al ae))
theorem RM (x:Int):cL x=cL ((x.natAbs:Nat):Int):=rfl
theorem CM (ha:Sz 20000000 a) (hb:Sz 20000000 b) (h0:b≠0):Ok Tryz.prog 216 [.c (cL a),.c (cL b)] [.c (cL ((a.natAbs:Int)/b.natAbs)),.c (cL ((a.natAbs:Int)%b.natAbs))]:=by
 have:=M6 (bZ a.natAbs) (bZ b.natAbs) (jw _) (jw _) (iA ha) (iA hb) (fun e=>by have:=e8.1 e;omega)
 rw[cm,cm] at this
 exact this
theorem Tk (h:(decide (x<0)==decide (y<0))=true):sg (decide (x<0)) ((((x.natAbs:Int)+y.natAbs).natAbs:Nat):Int)=x+y:=by
 by_cases h1:x<0<;>by_cases h2:y<0<;>simp[h1,h2,sg] at h⊢ <;>omega
theorem aaK (h:(decide (x<0)==decide (y<0))=false) (hg:y.natAbs≤x.natAbs):sg (decide (x<0)) ((((x.natAbs:Int)-y.natAbs).natAbs:Nat):Int)=x+y:=by
 by_cases h1:x<0<;>by_cases h2:y<0<;>simp[h1,h2,sg] at h⊢ <;>omega
theorem aaO (h:(decide (x<0)==decide (y<0))=false) (hg:x.natAbs<y.natAbs):sg (decide (y<0)) ((((y.natAbs:Int)-x.natAbs).natAbs:Nat):Int)=x+y:=by
 by_cases h1:x<0<;>by_cases h2:y<0<;>simp[h1,h2,sg] at h⊢ <;>omega
theorem X5:sg (!(decide (x<0)==decide (y<0))) ((((x.natAbs:Int)*y.natAbs).natAbs:Nat):Int)=x*y:=by
 by_cases h1:x<0<;>by_cases h2:y<0<;>simp only[h1,h2,sg,decide_true,decide_false,Bool.not_true,s6,beq_self_eq_true,Bool.false_eq_true,if_true,if_false,show(true==false)=false from rfl,show(false==true)=false from rfl]
 ·grind
 ·grind
 ·grind
 grind
theorem XL:sg (!decide (x<0)) ((x.natAbs:Nat):Int)= -x:=by
 by_cases h1:x<0<;>simp[h1,sg]<;>omega
theorem Fb (h:decide (eL a b≥0)=true):b≤a:=by
 simp only[decide_eq_true_eq] at h
 rcases qJ a b with h1|h1|h1
 ·rw[fy h1] at h;omega
 ·omega
 grind
theorem ET (h:decide (eL a b≥0)=false):a<b:=by
 simp only[decide_eq_false_iff_not] at h
 rcases qJ a b with h1|h1|h1
 ·omega
 ·rw[kQ h1] at h;omega
 ·rw[fF h1] at h;omega
theorem Fv (hx:decide (x<0)=false) (hy: ¬(y<0)):eL x.natAbs y.natAbs=eL x y:=by grind
theorem Fx (hx:decide (x<0)=true) (hy:y<0):eL y.natAbs x.natAbs=eL x y:=by
 simp only[decide_eq_true_eq] at hx
 rw[show(y.natAbs:Int)= -y from by omega,show(x.natAbs:Int)= -x from by omega,HT]
theorem aaD:sg (!(decide (x<0)==decide (y<0))) (((((x.natAbs:Int)/y.natAbs).natAbs:Nat)):Int)=q0 x y:=by
 unfold q0
 grind
theorem aa0 (_h0:y≠0):sg (decide (x<0)) (((((x.natAbs:Int)%y.natAbs).natAbs:Nat)):Int)=r0 x y:=by
 unfold r0
 grind
theorem Lg:(x.natAbs:Int)%y.natAbs=0↔r0 x y=0:=by
 unfold r0
 generalize decide (x<0)=s
 cases s
 ·rw[du]
 ·rw[gW];omega
theorem KV (_h0:y≠0) (h:(x.natAbs:Int)%y.natAbs≠0):(r0 x y<0↔x<0):=by
 unfold r0
 by_cases hx:x<0
 ·rw[show decide (x<0)=true from by simpa using hx,gW];omega
 ·rw[show decide (x<0)=false from by simpa using hx,du];omega
structure RG (x y a c:Int):Prop where
 sa:Sz 20000000 a
 sc:Sz 20000000 c
 a0:0≤a
 c0:0≤c
 g:Int.gcd a c=Int.gcd x y
theorem RG.start (hx:Sz 20000000 x) (hy:Sz 20000000 y):RG x y (x.natAbs:Int) (y.natAbs:Int):=⟨hx.of_le (by omega),hy.of_le (by omega),by omega,by omega,rfl⟩
theorem RG.step (h:RG x y a c) (hc:c≠0):RG x y c ((a.natAbs:Int)%c.natAbs):=by
 have h1:=h.a0
 have h2:=h.c0
 have e1:(a.natAbs:Int)=a:=by omega
 have e2:(c.natAbs:Int)=c:=by omega
 rw[e1,e2]
 have h3:=oO a hc
 have h4:=nQ a (show 0<c by omega)
 exact⟨h.sc,h.sc.of_le (by omega),h2,h3,by rw[←h.g,Fj h1 h2]⟩
theorem RG.less (h:RG x y a c) (hc:c≠0):((a.natAbs:Int)%c.natAbs).toNat<c.toNat:=by
 have:=h.c0
 have:=MS (x:=a) hc
 omega
theorem RG.done (h:RG x y a c) (hc:c=0):(Int.gcd x y:Int)=sg false ((a.natAbs:Nat):Int):=by
 rw[←h.g,hc,du];simp
theorem KM (h:decide (((dG a.natAbs).length:Int)>2)=false):a.natAbs≤18446744073709551615:=by
 simp only[decide_eq_false_iff_not] at h
 have h1:=fS (bZ a.natAbs)
 rw[cm] at h1
 have h2:=mJ (n:=(dG a.natAbs).length) (m:=2) (by omega)
 have h3:pw 2=1000000000000000000:=by decide
 omega
theorem RG.word (h:RG x y a c) (ha:a.natAbs≤18446744073709551615) (hc:c.natAbs≤18446744073709551615):GInv2 x y (a.natAbs:Int) (c.natAbs:Int):=
 ⟨by omega,by omega,by omega,by omega,by rw[←h.g];rfl⟩
theorem GInv2.fin {u:Int}(h:GInv2 x y u v) (hv:v≤0):(Int.gcd x y:Int)=sg false ((u.natAbs:Nat):Int):=by
 rw[h.done hv,du,du];have:=h.u0;omega
theorem Sz.small3 (h0:0≤x) (h1:x≤18446744073709551615):Sz 100000000 x:=by
 have h3:pw 3=1000000000000000000000000000:=by decide
 have:Sz 3 x:=⟨by omega,by omega⟩
 exact this.mono (by decide)
theorem ZL (hx:Sz 20000000 x):Sz 100000000 ((x.natAbs:Int)/y.natAbs):=by
 have h1:(x.natAbs:Int)/(y.natAbs:Int)≤x.natAbs:=Int.ediv_le_self _ (by omega)
 have h2:0≤(x.natAbs:Int)/(y.natAbs:Int):=by grind
 exact(hx.mono (by decide)).of_le (by omega)
theorem Zt (hy:Sz 20000000 y) (h0:y≠0):Sz 100000000 ((x.natAbs:Int)%y.natAbs):=by
 have:=MS (x:=x) h0
 exact(hy.mono (by decide)).of_le (by omega)
theorem Gr (hn:x<0) (h0: -9223372036854775808≤x):IntKind.u64.wrap x=x+18446744073709551616:=by unfold IntKind.wrap;simp[IntKind.bits,IntKind.signed];omega
theorem Dk (hn:x<0) (h0: -9223372036854775808≤x):IntKind.u64.wrap (0-(x+18446744073709551616))= -x:=by unfold IntKind.wrap;simp[IntKind.bits,IntKind.signed];omega
theorem fG {P:Program}{ops:Array Oper}{T:TF}{B:BF}{x:Operand}{k:IntKind}
 (hx:dc T x=some (.v (.c (.i k m)))) (hr:k.wrap (0-m)=r) (hg:gd ops ⟨dst,.unOp .neg xt x,ty,pos,af,g⟩ T=some true):
 Sem P ops ⟨dst,.unOp .neg xt x,ty,pos,af,g⟩ T B (.r (.v (.c (.i k r)))):=by subst hr;exact S0 hx hg
theorem Kf (h:Sz 100000000 ((x.natAbs:Int)/y.natAbs)):Ok Tryz.prog 195 [.c (.b (!(decide (x<0)==decide (y<0)))),.c (cL ((x.natAbs:Int)/y.natAbs))] [dI (q0 x y)]:=by
 rw[←aaD];exact jg h
theorem JY (h0:y≠0) (h:Sz 100000000 ((x.natAbs:Int)%y.natAbs)):Ok Tryz.prog 195 [.c (.b (decide (x<0))),.c (cL ((x.natAbs:Int)%y.natAbs))] [dI (r0 x y)]:=by
 rw[←aa0 h0];exact jg h
theorem QZ (h:(decide (x<0)==decide (y<0))=true):(eL x.natAbs y.natAbs==0)=(x==y):=by
 have hs:x<0↔y<0:=by grind
 rcases qJ (x.natAbs:Int) y.natAbs with h1|h1|h1
 ·rw[fy h1,show(x==y)=false from by simp only[beq_eq_false_iff_ne];omega];rfl
 ·rw[kQ h1,show(x==y)=true from by simp only[beq_iff_eq];omega];rfl
 ·rw[fF h1,show(x==y)=false from by simp only[beq_eq_false_iff_ne];omega];rfl
def isq:Nat→Nat
 |0=>0
 |n+1=>if (isq n+1)*(isq n+1)≤n+1 then isq n+1 else isq n
theorem HK (n:Nat):isq n*isq n≤n∧n<(isq n+1)*(isq n+1):=by
 induction n with
 |zero=>exact⟨by decide,by decide⟩
 |succ n ih=>
  unfold isq
  split
  ·grind
  grind
theorem PJ (ha:0≤a) (h:a≤b):a*a≤b*b:=qo h h ha (by omega)
theorem En (hb:0≤b) (h:a*a<b*b):a<b:=by
 by_cases h1:a<b
 ·grind
 ·have:=PJ hb (show b≤a by omega);omega
def bK (x:Int):Int:=if x<0 then 0 else(isq x.toNat:Nat)
theorem fv (x:Int):0≤bK x:=by unfold bK;split<;>omega
theorem qN (h:0≤x):bK x*bK x≤x:=by
 unfold bK;rw[if_neg (by omega)]
 have:=(HK x.toNat).1
 grind
theorem wg (h:0≤x):x<(bK x+1)*(bK x+1):=by
 unfold bK;rw[if_neg (by omega)]
 have:=(HK x.toNat).2
 grind
theorem Ar (h:0≤x) (hr:0≤r) (h1:r*r≤x) (h2:x<(r+1)*(r+1)):bK x=r:=by
 have a1:=qN h
 have a2:=wg h
 have a0:=fv x
 have:=En (a:=r) (b:=bK x+1) (by omega) (by omega)
 have:=En (a:=bK x) (b:=r+1) (by omega) (by omega)
 omega
theorem Es:bK 0=0:=by decide
theorem vw (h:x<0):bK x=0:=by unfold bK;rw[if_pos h]
theorem N6:(bK x).natAbs≤x.natAbs:=by
 have h0:=fv x
 by_cases h:x<0
 ·rw[vw h];omega
 ·have h1:=qN (show 0≤x by omega)
  by_cases h2:bK x<1
  ·omega
  ·have:=nh (show 1≤bK x by omega) h0
   omega
theorem Ia (a b:Int):4*(a*b)≤(a+b)*(a+b):=by
 have h:0≤(a-b)*(a-b):=by
  rcases Int.le_total 0 (a-b) with h|h
  ·exact f9 h h
  ·exact Int.mul_nonneg_of_nonpos_of_nonpos h h
 grind
theorem P5 (hx:0<x) (hr:0<r) (_hup:x<(r+1)*(r+1)):
 0≤(r+x.fdiv r).fdiv 2∧x<((r+x.fdiv r).fdiv 2+1)*((r+x.fdiv r).fdiv 2+1)∧0<(r+x.fdiv r).fdiv 2∧0≤x.fdiv r∧x.fdiv r≤x:=by
 have hq0:0≤x/r:=s9 (by omega) (by omega)
 have hq1:x/r≤x:=Int.ediv_le_self _ (by omega)
 have hq2:x<r*(x/r+1):=by have h1:=q6 x r;have h2:=nQ x hr;rw[Int.mul_add];omega
 obtain⟨q,hq⟩: ∃q,x/r=q:=⟨_,rfl⟩
 obtain⟨n,hn⟩: ∃n,(r+q)/2=n:=⟨_,rfl⟩
 have h4:=Ia r (q+1)
 have h5:(r+(q+1))*(r+(q+1))≤(2*(n+1))*(2*(n+1)):=PJ (by omega) (by omega)
 grind
theorem GO (_hx:0<x) (hr:0<r) (h:r≤(r+x.fdiv r).fdiv 2):r*r≤x:=by
 rw[pf _ (by omega:(0:Int)≤r),pf _ (by omega:(0:Int)≤2)] at h
 have h1:=q6 x r
 have h2:=oO x (show r≠0 by omega)
 have h3:r≤x/r:=by omega
 have:=nh h3 (show 0≤r by omega)
 omega
structure NInv (K:Nat) (x r:Int):Prop where
 r0:0<r
 sz:Sz K r
 up:x<(r+1)*(r+1)
theorem NInv.sum (h:NInv K x r) (hs:Sz K x) (hx:0<x):Sz K (x.fdiv r)∧Sz (K+1) (r+x.fdiv r)∧Sz (K+1) ((r+x.fdiv r).fdiv 2):=by
 obtain⟨h1,h2,h3,h4,h5⟩:=P5 hx h.r0 h.up
 have h6:Sz K (x.fdiv r):=hs.of_le (by omega)
 have h7:=h.sz.add h6
 refine⟨h6,h7,h7.of_le ?_⟩
 grind
theorem NInv.next (h:NInv K x r) (hx:0<x) (hl:(r+x.fdiv r).fdiv 2<r):NInv K x ((r+x.fdiv r).fdiv 2):=by
 obtain⟨h1,h2,h3,h4,h5⟩:=P5 hx h.r0 h.up
 exact⟨h3,h.sz.of_le (by omega),h2⟩
theorem NInv.done (h:NInv K x r) (hx:0<x) (hl:r≤(r+x.fdiv r).fdiv 2):bK x=r:=
 Ar (by omega) (by have:=h.r0;omega) (GO hx h.r0 hl) h.up
theorem ye:dI 0=.a ([.b false]++[.s 0 []]):=by unfold dI cI;rw[show cL 0=.s 0 [] from by unfold cL;rw[show(0:Int).natAbs=0 from rfl,lC];rfl];rfl
theorem abg (h:0≤v):([CellD.b false]++[cL v])=cI v:=by unfold cI;rw[show decide (v<0)=false from by simp;omega];rfl
theorem aaI {n:Nat}(_h0:0≤x) (h:x<pw n) (hk:n≤2*k):x<(pw k+1)*(pw k+1):=by
 have h1:=mJ (n:=n) (m:=2*k) hk
 have h2:pw (2*k)=pw k*pw k:=by rw[show 2*k=k+k from by omega,pP]
 have h3:=dw k
 grind
theorem NInv.start (h0:0<x) (_hs:Sz K x) (hk:((dG x.natAbs).length+1)/2=k) (hK:k<K):NInv K x (pw k):=by
 have hv:=fS (bZ x.natAbs)
 rw[cm] at hv
 refine⟨dw k,?_,aaI (n:=(dG x.natAbs).length) (by omega) (by omega) (by omega)⟩
 have h1:Sz (k+1) (pw k):=⟨by have:=dw k;rw[eu];omega,by have:=dw k;have:=dw (k+1);omega⟩
 exact h1.mono (by omega)
theorem Ya (n:Nat):val (List.replicate n 0++[1])=pw n:=by
 induction n with
 |zero=>decide
 |succ n ih=>rw[List.replicate_succ,List.cons_append,eY,ih,eu];omega
theorem ZF (n:Nat):cL (pw n)=cM (List.replicate n 0++[1]):=by
 have hL:Lim (List.replicate n 0++[1]):=(Lim.zeros n).append (Lim.nil.cons (by omega) (by omega))
 have hN:Nrm (List.replicate n 0++[1]):=by
  induction n with
  |zero=>exact BQ [] 1 (by decide)
  |succ n ih=>exact In (ih ((Lim.zeros n).append (Lim.nil.cons (by omega) (by omega)))) (by simp)
 rw[U5,←Ya]
 have:=JM hN hL
 rw[show(val (List.replicate n 0++[1])).natAbs=(val (List.replicate n 0++[1])).toNat from by have:=dg hL;omega,←this]
variable {P:Program}{ops:Array Oper}{T:TF}{B:BF}
theorem wD {x y:Operand}{n:Nat}{z:CellD}
 (hU:ua P U=some (e,1,4,[z])) (hx:dc T x=some (.o k n n)) (hy:dc T y=some (.v (.c (cM [1])))) (hb:B k=some (e,List.replicate n (CellD.i .u32 0))) (hl:n≤1000000000)
 (hg:gd ops ⟨dst,.call ⟨.builtin .append,#[x,y],#[U,U]⟩,ty,pos,af,g⟩ T=some true):
 Sem P ops ⟨dst,.call ⟨.builtin .append,#[x,y],#[U,U]⟩,ty,pos,af,g⟩ T B (.c k (.v (.c (cL (pw n))))):=by
 rw[ZF]
 have:=xB (us:=(List.replicate n (0:Int)++[1]).map (CellD.i .u32)) hU hx hy hb (by simp) (jM _) (by omega) (by simp) (by omega) (by simp;omega) (by simp;unfold maxLen;omega) (by simp) hg
 rw[show n+[(1:Int)].length=(List.replicate n (0:Int)++[1]).length from by simp] at this
 exact this
theorem xM:eL a b=0↔a=b:=by
 rcases qJ a b with h|h|h
 ·rw[fy h];constructor<;>intro h2<;>omega
 ·rw[kQ h];constructor<;>intro h2<;>omega
 ·rw[fF h];constructor<;>intro h2<;>omega
theorem B9:eL a b<0↔a<b:=by
 rcases qJ a b with h|h|h
 ·rw[fy h];constructor<;>intro h2<;>omega
 ·rw[kQ h];constructor<;>intro h2<;>omega
 ·rw[fF h];constructor<;>intro h2<;>omega
theorem BO:0<eL a b↔b<a:=by
 rcases qJ a b with h|h|h
 ·rw[fy h];constructor<;>intro h2<;>omega
 ·rw[kQ h];constructor<;>intro h2<;>omega
 ·rw[fF h];constructor<;>intro h2<;>omega
theorem Yz (h:decide (eL a b<0)=true):a<b:=B9.1 (by simpa using h)
theorem Xa (h:decide (eL a b<0)=false): ¬a<b:=fun e=>by have:=B9.2 e;simp at h;omega
theorem XA (h:(eL a b==0)=true):a=b:=xM.1 (by simpa using h)
theorem acg (h:(eL a b !=0)=true):a≠b:=fun e=>by have:=xM.2 e;simp at h;omega
theorem Y7 (h:(eL a b !=0)=false):a=b:=xM.1 (by simpa using h)
theorem abG (h:decide (eL a b>0)=true):b<a:=BO.1 (by simpa using h)
theorem abB (h:decide (eL a b>0)=false): ¬b<a:=fun e=>by have:=BO.2 e;simp at h;omega
structure Rz (k:Nat) (x:Rat):Prop where
 n:Sz k x.num
 d:Sz k (x.den:Int)
theorem Sz.addm (h:Sz k x) (h':Sz l y):Sz (max k l+1) (x+y):=(h.mono (Nat.le_max_left k l)).add (h'.mono (Nat.le_max_right k l))
theorem Sz.gcd (h':Sz l y) (h0:y≠0):Sz l ((Int.gcd x y:Nat):Int):=h'.of_le (by
 have:Int.gcd x y≤y.natAbs:=Nat.le_of_dvd (by omega) (Nat.gcd_dvd_right ..)
 rw[Int.natAbs_natCast];exact this)
theorem Rz.mono {x:Rat}(h:Rz k x) (hl:k≤l):Rz l x:=⟨h.n.mono hl,h.d.mono hl⟩
theorem Rz.m_ {x:Rat}(h:Rz k x) (hl:k≤l:=by decide):Rz l x:=h.mono hl
theorem aW {x:Rat}(h:Rz k x) (hl:k≤l:=by decide):Rz l x:=h.mono hl
theorem zaR {x:Rat}(h:Rz l x:=by first|assumption|exact Rz.mono (by assumption) (by decide)):Rz l x:=h
theorem den_pos (x:Rat):(0:Int)<(x.den:Int):=by have:=x.den_pos;omega
theorem mj (x:Rat):(x.den:Int)≠0:=by have:=den_pos x;omega
theorem uZ (a b:Int):(a/b).natAbs≤a.natAbs:=Int.natAbs_ediv_le_natAbs a b
theorem Rz.of (hn:Sz k n) (hd:Sz k d) (h0:d≠0):Rz k (Rat.divInt n d):=by
 refine⟨hn.of_le ?_,hd.of_le ?_⟩
 ·rw[Rat.num_divInt]
  refine nn (uZ _ _) ?_
  grind
 ·rw[Rat.den_divInt,if_neg h0]
  exact Nat.div_le_self d.natAbs (Int.gcd d n)
theorem Th {x y:Rat}:Rat.divInt (x.num*(y.den:Int)+y.num*(x.den:Int)) ((x.den:Int)*(y.den:Int))=x+y:=by
 rw[Rat.add_def',←Int.natCast_mul,Rat.divInt_ofNat]
theorem aaJ {x y:Rat}(h:(x.den:Int)=(y.den:Int)):Rat.divInt (x.num+y.num) (x.den:Int)=x+y:=by
 rw[←Th,←h,←Int.add_mul,Rat.divInt_mul_right (mj x)]
theorem WZ {x y:Rat}:Rat.divInt (x.num*y.num) ((x.den:Int)*(y.den:Int))=x*y:=by
 rw[Rat.mul_def',←Int.natCast_mul,Rat.divInt_ofNat]
theorem Yb {x y:Rat}:Rat.divInt (x.num*(y.den:Int)) ((x.den:Int)*y.num)=x/y:=by
 rw[Rat.div_def,Rat.inv_def,←Rat.divInt_mul_divInt,Rat.num_divInt_den]
theorem Rz.add {x y:Rat}(hx:Rz k x) (hy:Rz l y):Rz (k+l+1) (x+y):=by
 rw[←Th]
 exact Rz.of (((hx.n.mul hy.d).addm (hy.n.mul hx.d)).mono (by omega)) ((hx.d.mul hy.d).mono (by omega)) (by have:=uu (den_pos x) (den_pos y);omega)
theorem Rz.mul {x y:Rat}(hx:Rz k x) (hy:Rz l y):Rz (k+l) (x*y):=by
 rw[←WZ]
 exact Rz.of (hx.n.mul hy.n) (hx.d.mul hy.d) (by have:=uu (den_pos x) (den_pos y);omega)
theorem Rz.neg {x:Rat}(hx:Rz k x):Rz k (-x):=⟨by rw[Rat.neg_num];exact hx.n.neg,by rw[Rat.neg_den];exact hx.d⟩
theorem Rz.sub {x y:Rat}(hx:Rz k x) (hy:Rz l y):Rz (k+l+1) (x-y):=by rw[Rat.sub_eq_add_neg];exact hx.add hy.neg
theorem Rz.div {x y:Rat}(hx:Rz k x) (hy:Rz l y) (h0:y≠0):Rz (k+l) (x/y):=by
 rw[←Yb]
 exact Rz.of (hx.n.mul hy.d) (hx.d.mul hy.n) (by
  have h1:y.num≠0:=fun e=>h0 (Rat.num_eq_zero.1 e)
  intro e
  rcases tS.1 e with h|h
  ·exact mj x h
  ·exact h1 h)
theorem Sz.one (hk:1≤k):Sz k 1:=by
 have:=mJ (n:=1) (m:=k) hk
 have h1:pw 1=1000000000:=by decide
 exact⟨by omega,by omega⟩
theorem Rz.int (h:Sz k n) (hk:1≤k):Rz k (n:Rat):=⟨by rw[Rat.num_intCast];exact h,by rw[Rat.den_intCast];exact Sz.one hk⟩
theorem Bq (hd:0<d):dR (Rat.divInt n d)=dQ (n.fdiv ((Int.gcd n d:Nat):Int)) (d.fdiv ((Int.gcd n d:Nat):Int)):=by
 unfold dR cR
 rw[Rat.num_divInt,Rat.den_divInt,if_neg (by omega),Int.sign_eq_one_of_pos hd,m8,Int.gcd_comm d n,pf _ (by omega),pf _ (by omega)]
 rw[show((d.natAbs/Int.gcd n d:Nat):Int)=d/((Int.gcd n d:Nat):Int) from by rw[Int.natCast_ediv];rw[show((d.natAbs:Nat):Int)=d from by omega]]
 rfl
theorem AO (hd:0<d) (hg:((Int.gcd n d:Nat):Int)=1):dR (Rat.divInt n d)=dQ n d:=by
 rw[Bq hd,hg,Int.fdiv_one,Int.fdiv_one]
theorem I1:dR (Rat.divInt n d)=dR (Rat.divInt (-n) (-d)):=by rw[Rat.neg_divInt_neg]
theorem FR (h:d≠0):((Int.gcd n d:Nat):Int)≠0:=by simp_all
theorem wi {x y:Rat}:eL (x.num*(y.den:Int)) (y.num*(x.den:Int))=if x<y then-1 else if y<x then 1 else 0:=by
 unfold eL
 simp only[Rat.lt_iff]
def aR (x y:Rat):Int:=if x<y then-1 else if y<x then 1 else 0
theorem yM {x:Rat}:eL x.num 0=aR x 0:=by
 unfold aR
 rw[←wi]
 simp
theorem OC {x:Rat}(h1:x.num=n) (h2:(x.den:Int)=d):dR x=dQ n d:=by unfold dR cR;rw[h1,h2];rfl
theorem I6:dR (n:Rat)=dQ n 1:=OC (Rat.num_intCast n) (by rw[Rat.den_intCast];rfl)
def CV (x:Int):Bool:=bK x*bK x==x
def jp (x:Rat):Bool:=CV x.num&&CV (x.den:Int)
theorem Lu (h:x<0):CV x=false:=by unfold CV;rw[vw h];simp;omega
theorem ju (ha:a≠0) (hb:b≠0):a*b≠0:=fun e=>by rcases tS.1 e with h|h<;>contradiction
theorem Pn {x:Rat}(h:x≠0):x.num≠0:=fun e=>h (Rat.num_eq_zero.1 e)
theorem Sz.isq (h:Sz k x):Sz k (bK x):=h.of_le N6
theorem E3 {x:Rat}(h:(aR x 0==0)=true):x=0:=by rw[←yM] at h;exact Rat.num_eq_zero.1 (XA h)
theorem pT {x y:Rat}:aR x y=0↔x=y:=by
 unfold aR
 rw[←wi,xM,Rat.eq_iff_mul_eq_mul]
theorem GD {x y:Rat}:aR x y<0↔x<y:=by
 unfold aR
 rw[←wi,B9,Rat.lt_iff]
theorem uI {x y:Rat}:0<aR x y↔y<x:=by
 unfold aR
 rw[←wi,BO,Rat.lt_iff]
theorem Do {x:Rat}:aR x 0=eL x.num 0:=yM.symm
theorem JW {x y:Rat}(h:(eL (aR x 0) (aR y 0) !=0)=true):eL (aR x 0) (aR y 0)=aR x y:=by
 have h1:=acg h
 rw[Do,Do] at*
 have px:=den_pos x
 have py:=den_pos y
 have e1: ∀ {a b:Int},a<0→0<b→a*b<0:=fun ha hb=>Int.mul_neg_of_neg_of_pos ha hb
 have hr:aR x y=eL (x.num*(y.den:Int)) (y.num*(x.den:Int)):=by unfold aR;rw[←wi]
 rw[hr]
 rcases qJ x.num 0 with hx|hx|hx<;>rcases qJ y.num 0 with hy|hy|hy
 ·rw[fy hx,fy hy] at h1;exact absurd rfl h1
 ·rw[fy hx,kQ hy,fy (a:= -1) (by decide),fy]
  rw[hy,nu];exact e1 hx py
 ·rw[fy hx,fF hy,fy (a:= -1) (by decide),fy]
  grind
 ·rw[kQ hx,fy hy,fF (a:=0) (by decide),fF]
  rw[hx,nu];exact e1 hy px
 ·grind
 ·rw[kQ hx,fF hy,fy (a:=0) (by decide),fy]
  rw[hx,nu];exact uu hy px
 ·rw[fF hx,fy hy,fF (a:=1) (by decide),fF]
  grind
 ·rw[fF hx,kQ hy,fF (a:=1) (by decide),fF]
  rw[hy,nu];exact uu hx py
 ·rw[fF hx,fF hy] at h1;exact absurd rfl h1
theorem Ii {x y:Rat}:aR x y=eL (x.num*(y.den:Int)) (y.num*(x.den:Int)):=by unfold aR;rw[←wi]
theorem e7 (h:((if x<0 then(7:Int) else 0)==0)=false):x<0:=by grind
theorem Wi {x y:Rat}(h:(x.num==y.num)=false):decide (x=y)=false:=by grind
theorem Yx {x y:Rat}(h:(x.num==y.num)=true):decide (x=y)=((x.den:Int)==(y.den:Int)):=by
 simp only[beq_iff_eq] at h
 rw[Bool.eq_iff_iff,decide_eq_true_eq,beq_iff_eq]
 exact⟨fun e=>by rw[e],fun e=>Rat.ext h (by omega)⟩
theorem KE:CV x=(eL (bK x*bK x) x==0):=by
 unfold CV
 rcases qJ (bK x*bK x) x with h|h|h
 ·rw[fy h];simp;omega
 ·rw[kQ h];simp;omega
 ·rw[fF h];simp;omega
theorem Vy {x:Rat}(h:CV x.num=true) (h2:CV (x.den:Int)=true):jp x=true:=by unfold jp;rw[h,h2];rfl
theorem Pf {x:Rat}(h:CV x.num=false):jp x=false:=by unfold jp;rw[h];rfl
theorem Ot {x:Rat}(h:CV (x.den:Int)=false):jp x=false:=by unfold jp;rw[h];cases CV x.num<;>rfl
theorem yx:dQ 0 0=.a (([.b false]++[.s 0 []])++([.b false]++[.s 0 []])):=by
 have h:cI 0=[.b false]++[.s 0 []]:=by
  have:=ye
  unfold dI at this
  injection this
 unfold dQ cQ
 grind
theorem Sz.fdiv (h:Sz k x):Sz k (x.fdiv y):=h.of_le (by
 have h0: ∀a b:Nat,a/b≤a:=fun a b=>Nat.div_le_self a b
 rcases qJ y 0 with hy|hy|hy
 ·rw[←Int.neg_fdiv_neg,pf _ (by omega)]
  have h2:(-x/ -y).natAbs≤(-x).natAbs:=uZ _ _
  omega
 ·subst hy;simp
 ·rw[pf _ (by omega)]
  exact uZ x y)
section
variable {P:Program}{ops:Array Oper}{T:TF}{B:BF}
theorem FI {x y:Operand}{k:IntKind}
 (hx:dc T x=some (.v (.c (.i k m)))) (hy:dc T y=some (.v (.c (.i k n)))) (hg:gd ops ⟨dst,.call ⟨.builtin .max,#[x,y],#[t1,t2]⟩,ty,pos,af,g⟩ T=some true):
 Sem P ops ⟨dst,.call ⟨.builtin .max,#[x,y],#[t1,t2]⟩,ty,pos,af,g⟩ T B (.r (.v (.c (.i k (max m n))))):=
 bQ hg (qi rfl) (fun V β a w hs=>by
  have e1:a.eval x=.int k m:=jX (aK hs (x:=x) (by simp[Op.operands,Call.operands]) hx)
  have e2:a.eval y=.int k n:=jX (aK hs (x:=y) (by simp[Op.operands,Call.operands]) hy)
  refine⟨.int k (max m n),?_,.i _ _⟩
  simp[execOp,resolve,invoke,builtin,Builtin.max_,Builtin.max2,e1,e2]
  split<;>omega)
theorem LE {x y:Operand}{k:IntKind}
 (hx:dc T x=some (.v (.c (.i k m)))) (hy:dc T y=some (.v (.c (.i k n)))) (hg:gd ops ⟨dst,.call ⟨.builtin .min,#[x,y],#[t1,t2]⟩,ty,pos,af,g⟩ T=some true):
 Sem P ops ⟨dst,.call ⟨.builtin .min,#[x,y],#[t1,t2]⟩,ty,pos,af,g⟩ T B (.r (.v (.c (.i k (min m n))))):=
 bQ hg (qi rfl) (fun V β a w hs=>by
  have e1:a.eval x=.int k m:=jX (aK hs (x:=x) (by simp[Op.operands,Call.operands]) hx)
  have e2:a.eval y=.int k n:=jX (aK hs (x:=y) (by simp[Op.operands,Call.operands]) hy)
  refine⟨.int k (min m n),?_,.i _ _⟩
  simp[execOp,resolve,invoke,builtin,Builtin.min_,Builtin.min2,e1,e2]
  split<;>omega)
end
theorem cV {P:Program}{ops:Array Oper}{T:TF}{B:BF}{ps:Array (Nat×Operand)}{n m by_:Nat}{zs us:List CellD}{dps:List (Nat×D0)}
 (hU:ua P U=some (e,m,by_,zs)) (hp:vC T ps.toList=some dps) (hf:wE (fun i=>some (i*m,m)) (List.replicate n zs).flatten dps=some us) (hl:us.length=n*m) (hn:n*m≤16777216) (hm:0<n*m)
 (hg:gd ops ⟨dst,.buildSlice U n ps,ty,pos,af,g⟩ T=some true):Sem P ops ⟨dst,.buildSlice U n ps,ty,pos,af,g⟩ T B (.r (.v (.c (.s n us)))):=by
 have h:=jC (B:=B) hU hp hf hn hm hg
 refine⟨qi rfl,fun V β a w hs=>?_⟩
 obtain⟨hw,hg⟩:=h V β a w hs
 refine⟨hw,hg.mono ?_⟩
 rintro v w' ⟨vs,rfl,rfl,hr⟩
 refine⟨?_,(fu _ w).alloc (cK _) _⟩
 have hkeep:=Keep.below (av:=V) ((fu w.heap.size w).alloc (cK _) (.cells vs e))
 have hr2:=hr.keep hkeep
 have hvl:vs.size=n*m:=by have:=hr.1;rw[hl] at this;simpa using this
 have hn0:0<n:=by grind
 have hm0:0<m:=by grind
 have hnm:n≤n*m:=Nat.le_mul_of_pos_right n hm0
 refine .s w.heap.size 0 n m n _ (fun j=>vs.getD j undef) hn0 (cK _) (by omega) hl (by simp) (fun h=>by have:=hs.av _ h;omega) (fun j hj=>?_) (fun j u hj=>?_)
 ·simp_all
 ·have hlt:j<n*m:=by have:=(jU.1 hj).1;omega
  refine hr2.2 j _ u ?_ hj
  have:j<vs.size:=by omega
  simp[Array.getD,this]
theorem aZ {P:Program}{ops:Array Oper}{o:Oper}{T:TF}{B:BF}{b c:Bool}(h:Sem P ops o T B (.r (.v (.c (.b b))))) (e:b=c):Sem P ops o T B (.r (.v (.c (.b c)))):=by subst e;exact h
theorem dF (h0: -9223372036854775808≤a*b) (h1:a*b≤9223372036854775807):BV .mul .i64 a b=some (a*b):=congrArg some (sG h0 h1)
section
variable {P:Program}{f:FuncId}{ds rs:List D0}{x y z u v x' y' z' u' v':Rat}
theorem cW (h:Ok P f ds [dR x]) (e:x=x'):Ok P f ds [dR x']:=by subst e;exact h
theorem tj (h:Ok P f ds [.a (cR x++cR y++cR z)]) (e1:x=x') (e2:y=y') (e3:z=z'):Ok P f ds [.a (cR x'++cR y'++cR z')]:=by subst e1 e2 e3;exact h
theorem Ra {rs:List D0}(h:Ok P f ds (.a (cR x++cR y++cR z++cR u++cR v)::rs)) (e1:x=x') (e2:y=y') (e3:z=z') (e4:u=u') (e5:v=v'):Ok P f ds (.a (cR x'++cR y'++cR z'++cR u'++cR v')::rs):=by grind
theorem jQ {b c:Bool}(h:Ok P f ds [.c (.b b)]) (e:b=c):Ok P f ds [.c (.b c)]:=by subst e;exact h
theorem ck (h:Ok P f ds [.c (.i .i64 b)]) (e:b=c):Ok P f ds [.c (.i .i64 c)]:=by subst e;exact h
end
def TJ (xs:List Int):Prop:= ∀x∈xs,0≤x∧x≤4294967295
theorem NM (h:TJ xs) (i:Nat):0≤xs.getD i 0∧xs.getD i 0≤4294967295:=by
 by_cases hi:i<xs.length
 ·have:xs.getD i 0=xs[i]:=by simp[List.getD,hi]
  rw[this];exact h _ (wS hi)
 grind
def vI (neg:Bool) (xs:List Int):Bool:=xs.all (fun x=>decide (x<1000000000))&&((trm xs).length==xs.length)&&(!neg||decide (0<xs.length))
theorem W5 {neg:Bool}(hk:k<xs.length) (h:xs.getD k 0≥1000000000):vI neg xs=false:=by
 have h1:xs.all (fun x=>decide (x<1000000000))=false:=by
  rw[Bool.eq_false_iff]
  intro hall
  have h2:=oN.1 hall xs[k] (wS hk)
  grind
 unfold vI
 grind
theorem JG (hb:TJ xs) (h: ∀k,k<xs.length→xs.getD k 0<1000000000):Lim xs:=by
 intro x hx
 obtain⟨i,hi,rfl⟩:=List.getElem_of_mem hx
 have h1:=h i hi
 have h3:xs.getD i 0=xs[i]:=by grind
 have:=hb xs[i] (wS hi)
 omega
theorem BU (h:Lim xs):xs.all (fun x=>decide (x<1000000000))=true:=oN.2 fun x hx=>by have:=h x hx;simp;omega
theorem YI {neg:Bool}(h:Lim xs):vI neg xs=(((trm xs).length==xs.length)&&(!neg||decide (0<xs.length))):=by
 unfold vI;rw[BU h];rfl
theorem J0 {neg:Bool}(h:Lim xs):vI neg xs=((((dG (val xs).natAbs).length:Int)==(xs.length:Int))&&(!neg||decide ((xs.length:Int)>0))):=by
 rw[YI h,K1 h]
 congr 1
 ·grind
 grind
theorem Lr (hx:Sz 100000000 x) (hy:Sz 100000000 y):Ok Tryz.prog 203 [dI x,dI y] [dI (Int.gcd x y:Int)]:=by
 refine bU Tryz.func203 rfl ?_
 refine cU 8 [] ?_
 refine aO rfl (si) ?_
 refine aO rfl (si) ?_
 refine DW.mk<|bF (ι:={p:Int×Int // GInv x y p.1 p.2}) (fun i=>⟨61,[(4,.p 4 0),(5,.p 5 0),(6,.p 6 0)],[(4,33,([.b false]++[.s 0 []])),(5,33,cI i.1.1),(6,33,cI i.1.2)]⟩) (fun i=>i.1.2.toNat) ⟨(sg false (x.natAbs:Int),sg false (y.natAbs:Int)),GInv.start hx hy⟩ (aB ⟨rfl,rfl,rfl,trivial⟩ ⟨rfl,rfl,rfl,trivial⟩ rfl) ?_
 rintro⟨⟨a,c⟩,hg⟩
 replace hg:GInv x y a c:=hg
 have ha:=hg.sa
 have hcc:=hg.sc
 dsimp only
 refine nF ?_
 refine dr rfl (fun hc1=>?_) (fun hc1=>?_)
 ·have hne:=rT hc1
  refine ac rfl (Gi) ?_
  refine ac rfl (Gi) ?_
  refine kT (bp rfl) (fun c2 hb2=>?_)
  cases c2
  ·refine mi rfl ?_
   refine ac rfl (wQ (by assumption) (by assumption) (by assumption)) ?_
   refine cU 3 [] ?_
   refine aO rfl (mu) ?_
   exact⟨⟨(c,sg false ((a.natAbs:Int)%c.natAbs)),hg.step hne⟩,aB ⟨rfl,rfl,rfl,trivial⟩ ⟨rfl,rfl,rfl,trivial⟩ rfl,hg.less hne⟩
  ·refine dr rfl (fun hc3=>?_) (fun hc3=>?_)
   ·refine DW.mk<|bF (ι:={p:Int×Int // GInv2 x y p.1 p.2}) (fun i=>⟨61,[(4,.p 4 0),(7,.v (.c (.i .u64 i.1.1))),(9,.v (.c (.i .u64 i.1.2)))],[(4,33,([.b false]++[.s 0 []]))]⟩) (fun i=>i.1.2.toNat) ⟨(if a.natAbs<1000000000000000000 then(a.natAbs:Int) else 0,if c.natAbs<1000000000000000000 then(c.natAbs:Int) else 0),hg.word hb2 hc3⟩ (aB ⟨rfl,rfl,rfl,trivial⟩ ⟨rfl,trivial⟩ rfl) ?_
    rintro⟨⟨u,v⟩,hw⟩
    replace hw:GInv2 x y u v:=hw
    dsimp only
    refine nF ?_
    refine dr rfl (fun hc4=>?_) (fun hc4=>?_)
    ·have hv:v>0:=by simpa using hc4
     refine cU 6 []<|aq (FD rfl rfl (by omega) rfl) ?_
     exact⟨⟨(v,u.tmod v),hw.step hv⟩,aB ⟨rfl,rfl,rfl,trivial⟩ ⟨rfl,trivial⟩ rfl,hw.less hv⟩
    ·refine ac rfl (Nx hw.u0 hw.u1)<|ac rfl (mu) ?_
     refine ai ?_
     rw[hw.done (by simpa using hc4)]
     exact a8 fh rfl ae
   ·refine ac rfl (wQ (by assumption) (by assumption) (by assumption)) ?_
    refine cU 3 [] ?_
    refine aO rfl (mu) ?_
    exact⟨⟨(c,sg false ((a.natAbs:Int)%c.natAbs)),hg.step hne⟩,aB ⟨rfl,rfl,rfl,trivial⟩ ⟨rfl,rfl,rfl,trivial⟩ rfl,hg.less hne⟩
 ·refine ar (O3 rfl (by assumption) rfl) ?_
  refine ac rfl (si) ?_
  refine ai ?_
  rw[hg.done (rE hc1)]
  exact a8 fh rfl ae
theorem sw (hx:Sz 100000000 x) (hy:Sz 100000000 y) (h0:y≠0):Ok Tryz.prog 269 [dI x,dI y] [dI (x.fdiv y),dI (x.fmod y),.c (.i .i64 0)]:=by
 have hq:Sz 100000000 (q0 x y):=hx.q0
 have hr:Sz 100000000 (r0 x y):=hy.r0 h0
 have h1:Sz 100000000 (1:Int):=iw (by omega) (by omega) (by omega)
 refine bU Tryz.func269 rfl ?_
 refine dr rfl (fun hc1=>?_) (fun hc1=>?_)
 ·exact absurd hc1 (by simp[e8,h0])
 ·refine ac rfl (wQ (by assumption) (by assumption) (by assumption)) ?_
  refine cU 13 [] ?_
  refine aq (iv rfl rfl iI rfl) ?_
  refine aO rfl (mu) ?_
  refine aO rfl (mu) ?_
  refine kT (bp rfl) (fun c2 hb2=>?_)
  cases c2
  ·refine mi rfl<|cU 5 [4,5,999999] ?_
   refine DQ.mk<|i4 (dZ fh rfl) rfl rfl rfl rfl<|dY ?_
   refine DQ.mk<|i4 (dZ fh rfl) rfl rfl rfl rfl<|dY ?_
   obtain⟨e1,e2⟩:=yH (x:=x) h0 (.inl (rE hb2))
   refine ai ?_
   rw[e1,e2]
   exact a8 fh rfl (a8 fh rfl (al ae))
  ·refine ar (iv rfl rfl iI rfl) ?_
   refine dr rfl (fun hc3=>?_) (fun hc3=>?_)
   ·refine cU 6 [] ?_
    refine aO rfl (n9 (by omega) (by omega)) ?_
    refine aO rfl (Ue (by assumption) (by assumption)) ?_
    refine aO rfl (A3 (by assumption) (by assumption)) ?_
    refine cU 5 [4,5,999999] ?_
    refine DQ.mk<|i4 (dZ fh rfl) rfl rfl rfl rfl<|dY ?_
    refine DQ.mk<|i4 (dZ fh rfl) rfl rfl rfl rfl<|dY ?_
    obtain⟨e1,e2⟩:=Gq (x:=x) h0 (rT hb2) (E7 hc3)
    refine ai ?_
    rw[e1,e2]
    exact a8 fh rfl (a8 fh rfl (al ae))
   ·refine cU 5 [4,5,999999] ?_
    refine DQ.mk<|i4 (dZ fh rfl) rfl rfl rfl rfl<|dY ?_
    refine DQ.mk<|i4 (dZ fh rfl) rfl rfl rfl rfl<|dY ?_
    obtain⟨e1,e2⟩:=yH (x:=x) h0 (.inr (FT hc3))
    refine ai ?_
    rw[e1,e2]
    exact a8 fh rfl (a8 fh rfl (al ae))
theorem xJ:Ok Tryz.prog 134 [dI x] [.c (.i .i64 (eL x 0))]:=by
 refine bU Tryz.func134 rfl ?_
 refine dr rfl (fun hc1=>?_) (fun hc1=>?_)
 ·refine ai ?_
  rw[kQ (by have:=hc1;simp[e8] at this;omega)]
  exact al ae
 ·refine dr rfl (fun hc2=>?_) (fun hc2=>?_)
  ·refine ai ?_
   rw[fy (by simpa using hc2)]
   exact al ae
  ·refine ai ?_
   rw[fF (by have:=hc1;have h2:=hc2;simp[e8] at this h2;omega)]
   exact al ae
theorem Ks (hx:Sz 100000000 x) (hy:Sz 100000000 y):Ok Tryz.prog 135 [dI x,dI y] [.c (.i .i64 (eL x y))]:=by
 refine bU Tryz.func135 rfl ?_
 refine ar (iv rfl rfl iI rfl) ?_
 refine dr rfl (fun hc1=>?_) (fun hc1=>?_)
 ·refine dr rfl (fun hc2=>?_) (fun hc2=>?_)
  ·refine ai ?_
   rw[fy (by have:=E7 hc1;have h2:=hc2;simp only[decide_eq_true_eq] at h2;omega)]
   exact al ae
  ·refine ai ?_
   rw[fF (by have:=E7 hc1;have h2:=hc2;simp only[decide_eq_false_iff_not] at h2;omega)]
   exact al ae
 ·refine dr rfl (fun hc3=>?_) (fun hc3=>?_)
  ·refine ac rfl (pq (by assumption) (by assumption))<|ai ?_
   rw[←Fx hc3 (by have:=FT hc1;have h2:=hc3;simp only[decide_eq_true_eq] at h2;omega)]
   exact al ae
  ·refine ac rfl (pq (by assumption) (by assumption))<|ai ?_
   rw[←Fv hc3 (by have:=FT hc1;have h2:=hc3;simp only[decide_eq_false_iff_not] at h2;omega)]
   exact al ae
theorem p5 (h0: -9223372036854775808≤x) (h1:x≤9223372036854775807):Ok Tryz.prog 113 [.c (.i .i64 x)] [dI x]:=by
 refine bU Tryz.func113 rfl ?_
 refine dr rfl (fun hc1=>?_) (fun hc1=>?_)
 ·have hn:x<0:=by simpa using hc1
  refine ar (cS (r:=x+18446744073709551616) C9 gh rfl (Gr hn h0) rfl) ?_
  refine ar (fG (r:= -x) rfl (Dk hn h0) rfl) ?_
  refine ac rfl (r7 (by omega) (by omega))<|ac rfl (jg (Sz.small3 (by omega) (by omega))) ?_
  have hfin:dI x=dI (sg true (((-x).natAbs:Nat):Int)):=congrArg dI (by rw[gW];omega)
  refine ai ?_
  rw[hfin]
  exact a8 fh rfl ae
 ·have hn:0≤x:=by have:=hc1;simp at this;omega
  refine ar (cS (r:=x) C9 gh rfl (jk (by omega) (by omega)) rfl) ?_
  refine ac rfl (r7 (by omega) (by omega))<|ac rfl (jg (Sz.small3 (by omega) (by omega))) ?_
  have hfin:dI x=dI (sg false ((x.natAbs:Nat):Int)):=congrArg dI (by rw[du];omega)
  refine ai ?_
  rw[hfin]
  exact a8 fh rfl ae
theorem wh (hx:Sz 100000000 x):Ok Tryz.prog 197 [dI x] [dI (-x)]:=by
 refine bU Tryz.func197 rfl ?_
 refine ac rfl (jg (by assumption)) ?_
 refine ai ?_
 rw[←XL (x:=x)]
 exact a8 fh rfl ae
theorem nJ (hx:Sz 40000000 x) (hy:Sz 40000000 y):Ok Tryz.prog 129 [dI x,dI y] [dI (x*y)]:=by
 have hx6:Sz 100000000 x:=hx.m_
 have hy6:Sz 100000000 y:=hy.m_
 have hp:Sz 100000000 ((x.natAbs:Int)*(y.natAbs:Int)):=((FA hx).mul (FA hy)).m_
 refine bU Tryz.func129 rfl ?_
 refine cU 11 [] ?_
 refine aq (iv rfl rfl iI rfl) ?_
 refine aO rfl (Oz (by assumption) (by assumption))<|aO rfl (jg (by assumption))<|ai ?_
 rw[←X5 (x:=x) (y:=y)]
 exact a8 fh rfl ae
theorem AU (hx:Sz 90000000 x) (hy:Sz 90000000 y):Ok Tryz.prog 213 [dI x,dI y] [dI (x+y)]:=by
 have hx6:Sz 100000000 x:=hx.m_
 have hy6:Sz 100000000 y:=hy.m_
 have hp:Sz 100000000 ((x.natAbs:Int)+(y.natAbs:Int)):=((FA (hx.mono (l:=99999999) (by decide))).add (FA (hy.m_))).m_
 refine bU Tryz.func213 rfl<|ar (Ip rfl rfl iI rfl) ?_
 refine dr rfl (fun hc1=>?_) (fun hc1=>?_)
 ·refine cU 8 [] ?_
  refine aO rfl (Ur (by assumption) (by assumption)) ?_
  refine aO rfl (jg (by assumption)) ?_
  refine ai ?_
  rw[←Tk hc1]
  exact a8 fh rfl ae
 ·refine ac rfl (pq (by assumption) (by assumption)) ?_
  refine dr rfl (fun hc2=>?_) (fun hc2=>?_)
  ·have hge:=Fb hc2
   have hq:Sz 100000000 ((x.natAbs:Int)-(y.natAbs:Int)):=hx6.of_le (by omega)
   refine cU 8 [] ?_
   refine aO rfl (x5 (by assumption) (by omega)) ?_
   refine aO rfl (jg (by assumption)) ?_
   refine ai ?_
   rw[←aaK hc1 (by omega)]
   exact a8 fh rfl ae
  ·have hge:=ET hc2
   have hq:Sz 100000000 ((y.natAbs:Int)-(x.natAbs:Int)):=hy6.of_le (by omega)
   refine cU 8 [] ?_
   refine aO rfl (x5 (by assumption) (by omega)) ?_
   refine aO rfl (jg (by assumption)) ?_
   refine ai ?_
   rw[←aaO hc1 (by omega)]
   exact a8 fh rfl ae
theorem S8 (hx:Sz 90000000 x) (hy:Sz 90000000 y):Ok Tryz.prog 257 [dI x,dI y] [dI (x-y)]:=by
 have hx6:Sz 100000000 x:=hx.m_
 have hy6:Sz 100000000 y:=hy.m_
 have hyn:Sz 90000000 (-y):=hy.neg
 refine bU Tryz.func257 rfl ?_
 refine cU 4 [] ?_
 refine aO rfl (wh (by assumption)) ?_
 refine aO rfl (AU (by assumption) (by assumption)) ?_
 refine ai ?_
 rw[Int.sub_eq_add_neg]
 exact a8 fh rfl ae
theorem xK (hx:Sz 100000000 x) (hy:Sz 100000000 y):Ok Tryz.prog 133 [dI x,dI y] [.c (.b (x==y))]:=by
 refine bU Tryz.func133 rfl ?_
 refine ar (Ip rfl rfl iI rfl) ?_
 refine kT (bp rfl) (fun c1 hb1=>?_)
 cases c1
 ·refine ai ?_
  rw[show(x==y)=false from by have:=hb1;simp only[beq_eq_false_iff_ne,ne_eq] at this⊢;intro e;subst e;exact this rfl]
  exact al ae
 ·refine ac rfl (pq (by assumption) (by assumption))<|ai ?_
  rw[←QZ hb1]
  exact al ae
theorem ml (hx:Sz 20000000 x) (hy:Sz 20000000 y) (h0:y≠0):Ok Tryz.prog 198 [dI x,dI y] [dI (x.fdiv y),dI (x.fmod y),.c (.i .i64 0)]:=by
 have hq:Sz 90000000 (q0 x y):=hx.q0.m_
 have hr:Sz 90000000 (r0 x y):=(hy.r0 h0).m_
 have h1:Sz 90000000 (1:Int):=iw (by omega) (by omega) (by omega)
 have hy9:Sz 90000000 y:=hy.m_
 have hqq:Sz 100000000 ((x.natAbs:Int)/y.natAbs):=ZL hx
 have hrr:Sz 100000000 ((x.natAbs:Int)%y.natAbs):=Zt hy h0
 refine bU Tryz.func198 rfl ?_
 refine dr rfl (fun hc1=>?_) (fun hc1=>?_)
 ·exact absurd hc1 (by simp[e8,h0])
 ·refine ac rfl (CM (by assumption) (by assumption) (by assumption)) ?_
  refine cU 13 [] ?_
  refine aq (iv rfl rfl iI rfl) ?_
  refine aO rfl (Kf hqq) ?_
  refine aO rfl (JY h0 hrr) ?_
  refine kT (bp rfl) (fun c2 hb2=>?_)
  cases c2
  ·refine mi rfl<|cU 5 [4,5,999999] ?_
   refine DQ.mk<|i4 (dZ fh rfl) rfl rfl rfl rfl<|dY ?_
   refine DQ.mk<|i4 (dZ fh rfl) rfl rfl rfl rfl<|dY ?_
   obtain⟨e1,e2⟩:=yH (x:=x) h0 (.inl (Lg.1 (rE hb2)))
   refine ai ?_
   rw[e1,e2]
   exact a8 fh rfl (a8 fh rfl (al ae))
  ·refine ar (iv rfl rfl iI rfl) ?_
   refine dr rfl (fun hc3=>?_) (fun hc3=>?_)
   ·refine cU 6 [] ?_
    refine aO rfl (p5 (by omega) (by omega)) ?_
    refine aO rfl (S8 (by assumption) (by assumption)) ?_
    refine aO rfl (AU (by assumption) (by assumption)) ?_
    refine cU 5 [4,5,999999] ?_
    refine DQ.mk<|i4 (dZ fh rfl) rfl rfl rfl rfl<|dY ?_
    refine DQ.mk<|i4 (dZ fh rfl) rfl rfl rfl rfl<|dY ?_
    obtain⟨e1,e2⟩:=Gq (x:=x) h0 (fun e=>rT hb2 (Lg.2 e)) (by rw[KV h0 (rT hb2)];exact E7 hc3)
    refine ai ?_
    rw[e1,e2]
    exact a8 fh rfl (a8 fh rfl (al ae))
   ·refine cU 5 [4,5,999999] ?_
    refine DQ.mk<|i4 (dZ fh rfl) rfl rfl rfl rfl<|dY ?_
    refine DQ.mk<|i4 (dZ fh rfl) rfl rfl rfl rfl<|dY ?_
    obtain⟨e1,e2⟩:=yH (x:=x) h0 (.inr (by rw[KV h0 (rT hb2)];exact FT hc3))
    refine ai ?_
    rw[e1,e2]
    exact a8 fh rfl (a8 fh rfl (al ae))
theorem Ff (hx:Sz 20000000 x) (hy:Sz 20000000 y):Ok Tryz.prog 137 [dI x,dI y] [dI (Int.gcd x y:Int)]:=by
 refine bU Tryz.func137 rfl<|cU 6 [] ?_
 refine DW.mk<|bF (ι:={p:Int×Int // RG x y p.1 p.2}) (fun i=>⟨54,[(4,.p 4 0),(5,.v (.c (cL i.1.1))),(6,.v (.c (cL i.1.2)))],[(4,33,([.b false]++[.s 0 []]))]⟩) (fun i=>i.1.2.toNat) ⟨((x.natAbs:Int),(y.natAbs:Int)),RG.start hx hy⟩ (aB ⟨rfl,by rw[RM x];rfl,by rw[RM y];rfl,trivial⟩ ⟨rfl,trivial⟩ rfl) ?_
 rintro⟨⟨a,c⟩,hg⟩
 replace hg:RG x y a c:=hg
 have ha:=hg.sa
 have hcc:=hg.sc
 have ha0:=hg.a0
 have hcc0:=hg.c0
 have ha6:Sz 100000000 a:=ha.m_
 dsimp only
 refine nF ?_
 refine kT (bp rfl) (fun c1 hb1=>?_)
 cases c1
 ·refine DL.mk<|Bg (pk rfl)<|fE ?_
  refine mi rfl ?_
  refine dr rfl (fun hc2=>?_) (fun hc2=>?_)
  ·refine ac rfl (jg (by assumption)) ?_
   refine ai ?_
   rw[hg.done (rE hb1)]
   exact a8 fh rfl ae
  ·exact absurd hc2 (by simp[e8,rE hb1])
 ·have hne:=rT hb1
  refine kT (bp rfl) (fun c3 hb3=>?_)
  cases c3
  ·have hwa:=KM hb3
   refine dr rfl (fun hc4=>?_) (fun hc4=>?_)
   ·refine ac rfl (CM (by assumption) (by assumption) (by assumption)) ?_
    exact⟨⟨(c,(a.natAbs:Int)%c.natAbs),hg.step hne⟩,aB ⟨rfl,rfl,rfl,trivial⟩ ⟨rfl,trivial⟩ rfl,hg.less hne⟩
   ·have hwc:=KM hc4
    refine dr rfl (fun hc5=>?_) (fun hc5=>?_)
    ·exact absurd hc5 (by simp[e8,hne])
    ·refine ac rfl (Iq (by assumption))<|ac rfl (Iq (by assumption)) ?_
     refine DW.mk<|bF (ι:={p:Int×Int // GInv2 x y p.1 p.2}) (fun i=>⟨54,[(4,.p 4 0),(9,.v (.c (.i .u64 i.1.1))),(10,.v (.c (.i .u64 i.1.2)))],[(4,33,([.b false]++[.s 0 []]))]⟩) (fun i=>i.1.2.toNat) ⟨((a.natAbs:Int),(c.natAbs:Int)),hg.word hwa hwc⟩ (aB ⟨rfl,rfl,rfl,trivial⟩ ⟨rfl,trivial⟩ rfl) ?_
     rintro⟨⟨u,v⟩,hw⟩
     replace hw:GInv2 x y u v:=hw
     have hu0:=hw.u0
     have hu1:=hw.u1
     have hsu:Sz 100000000 u:=Sz.small3 hu0 hu1
     dsimp only
     refine nF ?_
     refine dr rfl (fun hc6=>?_) (fun hc6=>?_)
     ·have hv:v>0:=by simpa using hc6
      have hvn:v≠0:=by omega
      refine cU 6 []<|aq (FD rfl rfl (by omega) rfl) ?_
      exact⟨⟨(v,u.tmod v),hw.step hv⟩,aB ⟨rfl,rfl,rfl,trivial⟩ ⟨rfl,trivial⟩ rfl,hw.less hv⟩
     ·refine ac rfl (r7 (by omega) (by omega)) ?_
      refine ac rfl (jg (by assumption)) ?_
      refine ai ?_
      rw[hw.fin (by simpa using hc6)]
      exact a8 fh rfl ae
  ·refine oC rfl<|ac rfl (CM (by assumption) (by assumption) (by assumption)) ?_
   exact⟨⟨(c,(a.natAbs:Int)%c.natAbs),hg.step hne⟩,aB ⟨rfl,rfl,rfl,trivial⟩ ⟨rfl,trivial⟩ rfl,hg.less hne⟩
theorem F9 (hx:Sz 99999999 x):Ok Tryz.prog 272 [dI x] [dI (bK x),.c (.i .i64 (if x<0 then 7 else 0))]:=by
 have h20:(2:Int)≠0:=by decide
 have hl:=iA hx
 have hs2:Sz 100000000 (2:Int):=iw (by omega) (by omega) (by omega)
 refine fD Tryz.func272 54 [.cell 2 33,.tmp 3] rfl<|aa<|ah<|aa<|aa<|ah ?_
 refine aX rfl (fun hc1=>?_) (fun hc1=>?_)
 ·have hn:x<0:=by simpa using hc1
  refine aa<|ah<|ar (aC (us:=([.b false]++[.s 0 []])) Kb H4 rfl rfl rfl) ?_
  refine bb ?_
  rw[vw hn,if_pos hn,ye]
  exact ai (a8 fh rfl (al ae))
 ·have hn:0≤x:=by have:=hc1;simp at this;omega
  refine aJ<|aa<|aa<|ah ?_
  refine aX rfl (fun hc2=>?_) (fun hc2=>?_)
  ·have hz:x=0:=by have:=hc2;simp[e8] at this;omega
   refine aa<|ah<|ar (aC (us:=([.b false]++[.s 0 []])) Kb H4 rfl rfl rfl) ?_
   refine bb ?_
   rw[hz,Es,ye,if_neg (by omega)]
   exact ai (a8 fh rfl (al ae))
  ·have hx0:0<x:=by have:=hc2;simp[e8] at this;omega
   obtain⟨k,hk⟩: ∃k:Nat,((dG x.natAbs).length+1)/2=k:=⟨_,rfl⟩
   have hpk:=dw k
   have hpc:cL (pw k)=cL (pw k):=rfl
   refine aJ ?_
   refine aa ?_
   refine ah ?_
   refine ar (cr ((((dG x.natAbs).length:Int))+1) (bL (by omega) (by omega)) rfl) ?_
   refine ar (kv (r:=(k:Int)) rfl rfl (by omega) (by rw[tK (by omega),show(((dG x.natAbs).length:Int)+1)/2=(k:Int) from by omega];exact sG (by omega) (by omega)) rfl) ?_
   refine aa<|ah ?_
   refine DL.mk<|ol (n7 (n:=k) xj rfl rfl (by omega) (by omega) rfl) rfl<|fE ?_
   refine ar (wM xj rfl rfl) ?_
   refine DL.mk<|WM (wD xj rfl rfl rfl (by omega) rfl)<|fE ?_
   refine ac rfl (si) ?_
   refine aa<|ah<|ac rfl (n9 (by omega) (by omega))<|aT<|bF (ι:={r:Int // NInv 99999999 x r}) (fun i=>⟨54,[(1,.p 1 0),(2,.p 2 0),(3,.v (.c (.i .i64 0))),(5,.p 5 0),(6,.p 6 0)],[(1,33,cI x),(2,33,([.b false]++[.s 0 []])),(5,33,cI i.1),(6,33,cI 2)]⟩) (fun i=>i.1.toNat) ⟨pw k,NInv.start hx0 hx hk (by omega)⟩ (aB ⟨rfl,rfl,rfl,rfl,rfl,trivial⟩ ⟨rfl,rfl,by rw[show sg false (((pw k).natAbs:Nat):Int)=pw k from by rw[du];have:=dw k;omega];rfl,rfl,trivial⟩ rfl) ?_
   rintro⟨r,hg⟩
   replace hg:NInv 99999999 x r:=hg
   have hsr:=hg.sz
   have hr0:=hg.r0
   have hrn:r≠0:=by omega
   obtain⟨hsq,hsum,hsn⟩:=hg.sum hx hx0
   have a1:Sz 100000000 r:=hsr.m_
   have a2:Sz 100000000 (x.fdiv r):=hsq.m_
   have a3:Sz 100000000 x:=hx.m_
   show Dw _ _ ⟨54,[(1,.p 1 0),(2,.p 2 0),(3,.v (.c (.i .i64 0))),(5,.p 5 0),(6,.p 6 0)],[(1,33,cI x),(2,33,([.b false]++[.s 0 []])),(5,33,cI r),(6,33,cI 2)]⟩ _
   refine aT ?_
   refine aa ?_
   refine ah ?_
   refine ac rfl (sw (by assumption) (by assumption) (by assumption)) ?_
   refine aa ?_
   refine di 14 [10,11,999999] ?_
   refine aO rfl (A3 (by assumption) (by assumption)) ?_
   refine aO rfl (sw (by assumption) (by assumption) (by assumption)) ?_
   refine DQ.mk<|jj (dZ fh rfl) rfl rfl rfl rfl<|dY ?_
   refine DQ.mk<|jj (dZ fh rfl) rfl rfl rfl rfl<|dY ?_
   refine aa ?_
   refine aa ?_
   refine ah ?_
   refine ac rfl (nH) ?_
   refine aX rfl (fun hc3=>?_) (fun hc3=>?_)
   ·have hst:=Fb hc3
    refine aa ?_
    refine ah ?_
    refine bb ?_
    rw[hg.done hx0 hst,if_neg (by omega)]
    exact ai (a8 fh rfl (al ae))
   ·have hlt:=ET hc3
    refine aJ<|ah ?_
    exact⟨⟨(r+x.fdiv r).fdiv 2,hg.next hx0 hlt⟩,aB ⟨rfl,rfl,rfl,rfl,rfl,trivial⟩ ⟨rfl,rfl,rfl,rfl,trivial⟩ rfl,by show((r+x.fdiv r).fdiv 2).toNat<r.toNat;omega⟩
theorem uN (hx:Sz 19999999 x):Ok Tryz.prog 218 [dI x] [dI (bK x),.c (.i .i64 (if x<0 then 7 else 0))]:=by
 have h20:(2:Int)≠0:=by decide
 have hl:=iA hx
 have hs2:Sz 20000000 (2:Int):=iw (by omega) (by omega) (by omega)
 refine fD Tryz.func218 52 [.cell 2 33,.tmp 3] rfl<|aa<|ah<|aa<|aa<|ah ?_
 refine aX rfl (fun hc1=>?_) (fun hc1=>?_)
 ·have hn:x<0:=by simpa using hc1
  refine aa<|ah<|ar (aC (us:=([.b false]++[.s 0 []])) Kb H4 rfl rfl rfl) ?_
  refine bb ?_
  rw[vw hn,if_pos hn,ye]
  exact ai (a8 fh rfl (al ae))
 ·have hn:0≤x:=by have:=hc1;simp at this;omega
  refine aJ<|aa<|aa<|ah ?_
  refine aX rfl (fun hc2=>?_) (fun hc2=>?_)
  ·have hz:x=0:=by have:=hc2;simp[e8] at this;omega
   refine aa<|ah<|ar (aC (us:=([.b false]++[.s 0 []])) Kb H4 rfl rfl rfl) ?_
   refine bb ?_
   rw[hz,Es,ye,if_neg (by omega)]
   exact ai (a8 fh rfl (al ae))
  ·have hx0:0<x:=by have:=hc2;simp[e8] at this;omega
   obtain⟨k,hk⟩: ∃k:Nat,((dG x.natAbs).length+1)/2=k:=⟨_,rfl⟩
   have hpk:=dw k
   have hpc:cL (pw k)=cL (pw k):=rfl
   refine aJ ?_
   refine aa ?_
   refine ah ?_
   refine ar (cr ((((dG x.natAbs).length:Int))+1) (bL (by omega) (by omega)) rfl) ?_
   refine ar (kv (r:=(k:Int)) rfl rfl (by omega) (by rw[tK (by omega),show(((dG x.natAbs).length:Int)+1)/2=(k:Int) from by omega];exact sG (by omega) (by omega)) rfl) ?_
   refine DL.mk<|ol (n7 (n:=k) xj rfl rfl (by omega) (by omega) rfl) rfl<|fE ?_
   refine ar (wM xj rfl rfl) ?_
   refine DL.mk<|WM (wD xj rfl rfl rfl (by omega) rfl)<|fE ?_
   refine ar (aC (us:=([.b false]++[cL (pw k)])) Kb H4 rfl rfl rfl) ?_
   refine aa<|ah<|ac rfl (p5 (by omega) (by omega))<|aT<|bF (ι:={r:Int // NInv 19999999 x r}) (fun i=>⟨52,[(1,.p 1 0),(2,.p 2 0),(3,.v (.c (.i .i64 0))),(4,.p 4 0),(5,.p 5 0)],[(1,33,cI x),(2,33,([.b false]++[.s 0 []])),(4,33,cI i.1),(5,33,cI 2)]⟩) (fun i=>i.1.toNat) ⟨pw k,NInv.start hx0 hx hk (by omega)⟩ (aB ⟨rfl,rfl,rfl,rfl,rfl,trivial⟩ ⟨rfl,rfl,by rw[abg (by have:=dw k;omega)];rfl,rfl,trivial⟩ rfl) ?_
   rintro⟨r,hg⟩
   replace hg:NInv 19999999 x r:=hg
   have hsr:=hg.sz
   have hr0:=hg.r0
   have hrn:r≠0:=by omega
   obtain⟨hsq,hsum,hsn⟩:=hg.sum hx hx0
   have a1:Sz 20000000 r:=hsr.m_
   have a2:Sz 90000000 (x.fdiv r):=hsq.m_
   have a3:Sz 20000000 x:=hx.m_
   have a4:Sz 90000000 r:=hsr.m_
   have a5:Sz 100000000 r:=hsr.m_
   have a6:Sz 100000000 ((r+x.fdiv r).fdiv 2):=hsn.m_
   show Dw _ _ ⟨52,[(1,.p 1 0),(2,.p 2 0),(3,.v (.c (.i .i64 0))),(4,.p 4 0),(5,.p 5 0)],[(1,33,cI x),(2,33,([.b false]++[.s 0 []])),(4,33,cI r),(5,33,cI 2)]⟩ _
   refine aT ?_
   refine aa ?_
   refine ah ?_
   refine ac rfl (ml (by assumption) (by assumption) (by assumption)) ?_
   refine aa ?_
   refine di 14 [9,10,999999] ?_
   refine aO rfl (AU (by assumption) (by assumption)) ?_
   refine aO rfl (ml (by assumption) (by assumption) (by assumption)) ?_
   refine DQ.mk<|jj (dZ fh rfl) rfl rfl rfl rfl<|dY ?_
   refine DQ.mk<|jj (dZ fh rfl) rfl rfl rfl rfl<|dY ?_
   refine aa ?_
   refine aa ?_
   refine ah ?_
   refine ac rfl (Ks (by assumption) (by assumption)) ?_
   refine aX rfl (fun hc3=>?_) (fun hc3=>?_)
   ·have hst:=Fb hc3
    refine aa ?_
    refine ah ?_
    refine bb ?_
    rw[hg.done hx0 hst,if_neg (by omega)]
    exact ai (a8 fh rfl (al ae))
   ·have hlt:=ET hc3
    refine aJ<|ah ?_
    exact⟨⟨(r+x.fdiv r).fdiv 2,hg.next hx0 hlt⟩,aB ⟨rfl,rfl,rfl,rfl,rfl,trivial⟩ ⟨rfl,rfl,rfl,rfl,trivial⟩ rfl,by show((r+x.fdiv r).fdiv 2).toNat<r.toNat;omega⟩
theorem FK:Ok Tryz.prog 205 [] [dI 1]:=by
 refine bU Tryz.func205 rfl<|ac rfl (n9 (by omega) (by omega)) ?_
 exact ai (a8 fh rfl ae)
theorem Is:Ok Tryz.prog 277 [.c (.i .i64 m)] [.c (.b false)]:=by
 refine bU Tryz.func277 rfl ?_
 exact⟨.inr rfl,by simpa using(al ae)⟩
theorem Ee:Ok Tryz.prog 222 [.c (.i .i64 m),.c (.i .i64 n)] [.c (.i .i64 (eL m n))]:=by
 refine bU Tryz.func222 rfl<|ac rfl (Is) ?_
 refine ac rfl (Is) ?_
 refine mi rfl<|mi rfl ?_
 refine dr rfl (fun hc1=>?_) (fun hc1=>?_)
 ·refine ai ?_
  rw[fy (by simpa using hc1)]
  exact al ae
 ·refine dr rfl (fun hc2=>?_) (fun hc2=>?_)
  ·refine ai ?_
   rw[fF (by simpa using hc2)]
   exact al ae
  ·refine ai ?_
   rw[kQ (by have:=hc1;have h2:=hc2;simp at this h2;omega)]
   exact al ae
end Go.Proofs.YtkmdgigkbhmilaaGreat
