/-A run on known values:the arithmetic,by contract:the rest. -/
import Derived.Test.YtacopbfkmnpfgaaGreatImU
namespace Go.Proofs.YtacopbfkmnpfgaaGreat
open Go Go.RowKit
section
variable {P:Program}{g:FuncId}
theorem Aw (x y:Int):R4 x y=dx x y:=by
 unfold R4 dx
 rw[iR,iR]
 by_cases h:x<y
 ·rw[decide_eq_true h,if_pos h];rfl
 ·rw[decide_eq_false h,if_neg h]
  by_cases h2:y<x
  ·rw[decide_eq_true h2,if_pos h2];rfl
  ·rw[decide_eq_false h2,if_neg h2];rfl
theorem t9 {a b:Int}(h:a=b):rG (.c (.i .i64 a)) (xW b):=by subst h;exact Mu a
theorem Fb {a b:Bool}(h:a=b):rG (.c (.b a)) (Et b):=by subst h;exact Ds a
theorem Fe {a b:Int}(h:a=b):rG (dI a) (xZ b):=by subst h;exact Cc a
theorem Ix (h: ∀ {x y:Rat},Rz 300 x→Rz 300 y→Ok P g [dR x,dR y] [.c (.i .i64 (a7 x y))]):ju P g Fl:=vq fun x y ds hx hy hd=>by
 injection hd with hd
 subst hd
 exact⟨_,h hx hy,t9 (by rw[Aw];exact lF.symm),trivial⟩
theorem BT (h: ∀ {x:Rat},Ok P g [dR x] [.c (.i .i64 (a7 x 0))]):ju P g BB:=Cp fun x ds hx hd=>by
 injection hd with hd
 subst hd
 exact⟨_,h,t9 (by rw[Aw,←nG]),trivial⟩
theorem CR (h: ∀ {n:Int},-9223372036854775808≤n→n≤9223372036854775807→Ok P g [.c (.i .i64 n)] [dR (n:Rat)]):ju P g AU:=M2 fun x ds h1 h2 hd=>by
 injection hd with hd
 subst hd
 exact⟨_,h h1 h2,IR rfl rfl,trivial⟩
theorem KC (h: ∀ {x y:Int},Sz 1000000 x→Sz 1000000 y→Ok P g [dI x,dI y] [.c (.i .i64 (dx x y))]):ju P g Mg:=Nw fun x y ds hx hy hd=>by
 injection hd with hd
 subst hd
 exact⟨_,h (hx _ (by decide)) (hy _ (by decide)),t9 (Aw _ _).symm,trivial⟩
theorem G1 (h: ∀ {x:Int},-9223372036854775808≤x→x≤9223372036854775807→Ok P g [.c (.i .i64 x)] [dI x]):ju P g IV:=M2 fun x ds h1 h2 hd=>by
 injection hd with hd
 subst hd
 exact⟨_,h h1 h2,Cc _,trivial⟩
theorem K4 (h: ∀ {x:Int},Sz 1000000 x→Ok P g [dI x] [dI (-x)]):ju P g Mm:=I4 fun x ds hx hd=>by
 injection hd with hd
 subst hd
 exact⟨_,h (hx _ (by decide)),Cc _,trivial⟩
theorem Ly (h: ∀ {x y:Int},Sz 400000 x→Sz 400000 y→Ok P g [dI x,dI y] [dI (x*y)]):ju P g Nd:=Nw fun x y ds hx hy hd=>by
 injection hd with hd
 subst hd
 exact⟨_,h (hx _ (by decide)) (hy _ (by decide)),Cc _,trivial⟩
end
section
variable {P:Program}{g:FuncId}
theorem EB (x y:Int):Rat.divInt x y=mkRat (Qi y x) y.natAbs:=by
 cases y with
 |ofNat n=>rfl
 |negSucc n=>exact Rat.normalize_eq_mkRat (num:= -x) (den:=n.succ) (by omega)
theorem OJ {y:Int}(h:Jm y 0=false):y≠0:=fun e=>by subst e;cases h
theorem JI (c a d:Int):Qi c (a*d)=a*Qi c d:=by
 cases c with
 |ofNat n=>rfl
 |negSucc n=>exact(Int.mul_neg a d).symm
theorem Oz (x y:Rat):x/y=mkRat (Qi y.num (x.num*(y.den:Int))) (x.den*y.num.natAbs):=by
 rw[Rat.div_def,Rat.inv_def,EB,JI,←Rat.mkRat_mul_mkRat,Rat.mkRat_self]
theorem Gx (h: ∀ {x y:Rat},Rz 300 x→Rz 300 y→y≠0→Ok P g [dR x,dR y] [dR (x/y),.c (.i .i64 0)]):ju P g I6:=vq fun x y ds hx hy hd=>by
 cases h0:Jm y.num 0 with
 |true=>rw[h0] at hd;cases hd
 |false=>
  rw[h0] at hd
  injection hd with hd
  subst hd
  have hn:=OJ h0
  have hy0:y≠0:=fun e=>hn (by subst e;rfl)
  exact⟨_,h hx hy hy0,by rw[Oz];exact vY _ (Nat.mul_ne_zero x.den_nz (by omega)),Mu 0,trivial⟩
theorem JV (h: ∀ {x y:Rat},Rz 300 x→Rz 300 y→Ok P g [dR x,dR y] [.c (.b (decide (x=y)))]):ju P g HI:=vq fun x y ds hx hy hd=>by
 injection hd with hd
 subst hd
 refine⟨_,h hx hy,Fb ?_,trivial⟩
 rw[sR]
 by_cases e:x=y
 ·subst e;simp[bA]
 ·rw[decide_eq_false e]
  cases h1:(x.num==y.num) with
  |false=>rfl
  |true=>
   cases h2:Nat.beq x.den y.den with
   |false=>rfl
   |true=>exact absurd (Rat.ext (by simpa using h1) (Nat.eq_of_beq_eq_true h2)) e
theorem Ic (a:Int) {b:Nat}(hb:b≠0):a.fdiv (b:Int)= @Int.rec (fun _=>Int) (fun n=>.ofNat (Nat.div n b)) (fun n=>.negSucc (Nat.div n b)) a:=by
 cases b with
 |zero=>exact absurd rfl hb
 |succ b=>
  cases a with
  |ofNat n=>
   cases n with
   |zero=>show(0:Int)=Int.ofNat (0/(b+1));simp
   |succ n=>rfl
  |negSucc n=>rfl
theorem Ir (h: ∀ {x:Rat},Rz 300 x→Ok P g [dR x] [dI (x.num.fdiv (x.den:Int))]):ju P g CE:=Cp fun x ds hx hd=>by
 injection hd with hd
 subst hd
 exact⟨_,h hx,Fe (Ic _ x.den_nz),trivial⟩
end
section
variable {P:Program}{g:FuncId}
theorem tq {n:Nat}{f:Nat→Option (List XD)}{ds:List XD}(h:Mk n f=some ds): ∃s:Nat,bD (n:Int)=(s:Int)∧f s=some ds:=by
 unfold Mk T9 at h
 obtain⟨h1,h2⟩:=bp h
 obtain⟨h3,h4⟩:=bp h2
 refine⟨_,mT (by omega) (by omega) ?_ ?_,h4⟩
 ·have:=Nat.le_of_ble_eq_true h1;exact_mod_cast this
 ·have:=b9.1 h3;exact_mod_cast this
theorem F7 (h: ∀ {x:Int},Sz 999 x→Ok P g [dI x] [dI (bD x),.c (.i .i64 (if x<0 then 7 else 0))]):ju P g Ff:=I4 fun x ds hx hd=>by
 cases x with
 |negSucc n=>cases hd
 |ofNat n=>
  obtain⟨s,h1,h2⟩:=tq (show Mk n (fun s=>some [xZ (.ofNat s),xW 0])=some ds from hd)
  injection h2 with h2
  subst h2
  exact⟨_,h (hx _ (by decide)),Fe h1,t9 (if_neg (by simp)),trivial⟩
theorem Dd {n s:Nat}(h:bD (n:Int)=(s:Int)):rH (n:Int)=Nat.beq (Nat.mul s s) n:=by
 unfold rH
 rw[h]
 cases hb:Nat.beq (Nat.mul s s) n with
 |true=>
  have:=Nat.eq_of_beq_eq_true hb
  rw[beq_iff_eq];exact_mod_cast this
 |false=>
  have:=Nat.ne_of_beq_eq_false hb
  rw[beq_eq_false_iff_ne];exact fun e=>this (by exact_mod_cast e)
theorem v5 {z t z' t':Int}(h1:z=z') (h2:t=t'):rG (dQ z t) (Ju z' t'):=by subst h1 h2;exact F3 z t
theorem KO (h: ∀ {x:Rat},Rz 300 x→Ok P g [dR x] [dQ (if iD x then bD x.num else 0) (if iD x then bD (x.den:Int) else 0),.c (.b (iD x))]):ju P g HJ:=Cp fun x ds hx hd=>by
 refine⟨_,h hx,?_⟩
 cases hn:x.num with
 |negSucc n=>
  rw[hn] at hd
  have hd:some [Ju 0 0,Et false]=some ds:=hd
  injection hd with hd
  subst hd
  have hs:iD x=false:=by unfold iD;rw[hn,v9 (Int.negSucc_lt_zero n)];rfl
  rw[hs]
  exact⟨v5 (if_neg (by simp)) (if_neg (by simp)),Ds false,trivial⟩
 |ofNat n=>
  rw[hn] at hd
  obtain⟨s,h1,h2⟩:=tq (show Mk n (fun s=>Mk x.den fun t=>bI (bA (Nat.beq (Nat.mul s s) n) (Nat.beq (Nat.mul t t) x.den)) (some [Ju s t,Et true]) (some [Ju 0 0,Et false]))=some ds from hd)
  obtain⟨t,h3,h4⟩:=tq h2
  have hs:iD x=bA (Nat.beq (Nat.mul s s) n) (Nat.beq (Nat.mul t t) x.den):=by
   unfold iD
   rw[hn,show Int.ofNat n=(n:Int) from rfl,Dd h1,Dd h3]
   cases Nat.beq (Nat.mul s s) n<;>rfl
  cases hb:bA (Nat.beq (Nat.mul s s) n) (Nat.beq (Nat.mul t t) x.den) with
  |true=>
   rw[hb] at h4 hs
   have h4:some [Ju s t,Et true]=some ds:=h4
   injection h4 with h4
   subst h4
   rw[hs]
   exact⟨v5 ((if_pos rfl).trans h1) ((if_pos rfl).trans h3),Ds true,trivial⟩
  |false=>
   rw[hb] at h4 hs
   have h4:some [Ju 0 0,Et false]=some ds:=h4
   injection h4 with h4
   subst h4
   rw[hs]
   exact⟨v5 (if_neg (by simp)) (if_neg (by simp)),Ds false,trivial⟩
end
noncomputable def TZ (P:Program) (r:Nat×Bool×Nat):Option XF:=match P.funcs[r.1]? with
 |some fn=>cF P r.2.1 r.2.2 fn
 |none=>none
noncomputable def Nr (P:Program) (ps:List (Nat×oN)) (rs:List (Nat×Bool×Nat)):Env:=⟨Ib ps,Ib (rs.map fun r=>(r.1,TZ P r))⟩
def PrAll (P:Program):List (Nat×oN)→Prop
 |[]=>True
 |p::r=>ju P p.1 p.2∧PrAll P r
theorem PrAll.get {P:Program}: ∀ {l:List (Nat×oN)},PrAll P l→ ∀ {k:Nat}{p:oN},(k,p)∈l→ju P k p
 |[],_,_,_,h=>by cases h
 |q::r,hl,k,p,h=>by
  rcases List.mem_cons.1 h with e|h
  ·have h1:=hl.1
   rw[←e] at h1;exact h1
  ·exact hl.2.get h
theorem Ig {P:Program}{ps:List (Nat×oN)}{rs:List (Nat×Bool×Nat)}(hp:PrAll P ps) (hc:(rs.all fun r=>eL P r.1)=true):EnvOk P (Nr P ps rs):=by
 refine⟨fun g p vs ds hg hv hd=>hp.get (sA ps g hg) vs ds hv hd,fun g F hg=>?_⟩
 have hm:=sA _ g hg
 obtain⟨r,hr,e⟩:=List.mem_map.1 hm
 injection e with e1 e2
 have hcal:eL P g=true:=by rw[←e1];exact List.all_eq_true.1 hc r hr
 unfold TZ at e2
 rw[e1] at e2
 cases hf:P.funcs[g]? with
 |none=>rw[hf] at e2;cases e2
 |some fn=>rw[hf] at e2;exact⟨r.2.1,r.2.2,fn,e2,rfl,hcal⟩
theorem Hj {P:Program}{E:Env}(hfol:P.follows .mixedOrders=true) (hE:EnvOk P E) {fuel depth f:Nat}{v:Bool}(h:Dq E fuel depth f [] 0 .e=.p (.c (.b v))):Ok P f [] [.c (.b v)]:=by
 have hc:=((rg hfol hE depth) f [] 0 .e (fun v hv=>by cases hv) CP Dh).1 _ h
 refine⟨hc.cal,fun av vs w hav hr=>?_⟩
 have hn:vs.toList=[]:=List.eq_nil_of_length_eq_zero hr.1
 refine(hc.run av (fun _=>False) (fun _=>⟨0,0⟩) vs w hav (by rw[hn];exact⟨rfl,fun j v x hv=>by simp at hv⟩)).mono fun e w' ⟨v',h1,h2,h3⟩=>?_
 refine⟨v',h1,?_,h3⟩
 have h4:RdA (fun _=>False) av w' (fun _=>⟨0,0⟩) v' (.b v):=h2 _ _
 exact AC.b v _ _ _ _ _ h4
section
variable {P:Program}{g:FuncId}
theorem G4 (h: ∀ {x:Int},Sz 1000000 x→Ok P g [dI x] [.c (.i .i64 (if ny x then x else 0)),.c (.b (ny x))]):ju P g CK:=I4 fun x ds hx hd=>by
 have hd:bI (oX x (-9223372036854775808)) none (bI (oX 9223372036854775807 x) none (some [xW x,Et true]))=some ds:=hd
 rw[fh,fh,iR,iR] at hd
 by_cases h1:x< -9223372036854775808
 ·rw[decide_eq_true h1,if_pos rfl] at hd;cases hd
 ·rw[decide_eq_false h1,if_neg (by decide)] at hd
  by_cases h2:9223372036854775807<x
  ·rw[decide_eq_true h2,if_pos rfl] at hd;cases hd
  ·rw[decide_eq_false h2,if_neg (by decide)] at hd
   injection hd with hd
   subst hd
   have hf:=AE h1 h2
   exact⟨_,h (hx _ (by decide)),t9 (by rw[hf];exact if_pos rfl),Fb hf,trivial⟩
end
noncomputable def qj:List (Nat×oN):=[(164,G6),(84,IE),(85,E3),(83,I6),(102,Nu),(120,Fl),(93,BB),(87,AU),(315,CE),(165,HJ),(144,G6),(145,IE),(69,E3),(240,I6),(139,Fl),(71,BB),(28,AU),(58,HI),(211,Mg),(168,IV),(189,Mm),(163,Nd),(313,Ff),(314,CK)]
def xf:List (Nat×Bool×Nat):=[(7,true,1393796574259126839029128938439026180816896),(11,true,32760),(13,false,143973926601472000),(24,true,137304733696),(25,true,236),(26,true,8355584),(27,true,18446462598728383488),(29,true,2342663876815506890496),(30,true,2040),(31,true,16777184),(32,true,58),(33,true,8386496),(34,true,520128),(35,true,134217664),(36,true,4194272),(40,true,480),(41,true,1016),(44,false,4397509111564),(45,true,240),(46,false,140733191411976),(47,true,262136),(48,false,508),(49,true,17045634816),(60,true,1004),(78,true,17179868672),(79,true,633825300114114630379607293952),(80,true,4397912293248),(81,true,524256),(82,true,120),(86,true,1073212416),(90,true,9007164626501504),(91,true,1016),(92,true,8796093013888),(94,true,480),(95,true,4722366482869644681216),(96,true,2),(97,true,120),(98,true,480),(99,true,2287828592379265024),(100,true,1208556884733154979333440),(101,true,274877861888),(103,true,8160),(108,true,32128),(110,true,457804),(111,true,492),(112,true,240),(113,false,4072),(114,false,9205357602911804472),(137,true,170141183460469231731651204550052804608),(157,true,224),(158,true,224),(159,true,224),(160,true,16320),(161,true,2),(166,true,32128),(171,true,541030611968),(172,true,1099478007296),(173,true,16777184),(174,true,299794640011520261908062208),(175,true,1099478007296),(176,true,224),(177,true,224),(178,true,224),(180,true,38373713921438564727213981696),(181,true,2),(182,true,1968),(183,true,536835968),(184,true,536837888),(185,true,2147221184),(186,true,140737488223232),(187,true,4088),(188,true,549688700800),(190,true,130976),(191,true,2199023254272),(197,true,2),(198,false,234),(199,false,508),(200,true,960),(201,true,274876858112),(202,false,73786413310256577292),(203,false,9007182074854640),(204,false,1671831826720280358868393332158590220324288833552426328065262486496),(219,true,82412135736188904041465274988559857664),(220,true,224),(250,true,4685400655653207277056),(251,true,56),(252,true,133168160),(253,true,272730422784),(254,true,524224),(255,true,1016),(256,true,1048288),(257,true,1095216644096),(258,true,72048789883946240),(259,true,880),(260,true,67108288),(261,true,535820256),(262,true,131064),(263,true,65504),(264,true,61432),(265,true,232),(266,true,2145384448),(268,false,9205357602911804472),(269,false,288230376142271456),(296,true,262056),(297,true,17112759072),(316,true,63436),(317,true,72048728684359692),(318,true,225024),(319,true,58),(320,true,4026268672),(322,false,9007182074854640),(323,false,1671831826720280358868393332158590220324288833552426328065262486496),(324,false,274877897696),(347,true,1073741634),(354,true,2251799813668876),(355,true,1002),(356,true,16777152),(357,false,288230376142271456),(366,false,274877897696)]
theorem ug:PrAll Tryz.prog qj:=⟨FT JS,Is LF,Jj Kp,Gx Ka,Pj JM,Ix BN,BT iW,CR po,Ir EA,KO FE,FT LV,Is JK,Jj JL,Gx Le,Ix Lh,BT nl,CR qi,JV I9,KC (fun _ _=>iT),G1 ig,K4 (fun h=>qg (h.mono (by decide))),Ly (fun h g=>go (h.mono (by decide)) (g.mono (by decide))),F7 (fun h=>s7 (h.mono (by decide))),G4 n6,trivial⟩
theorem t7:EnvOk Tryz.prog (Nr Tryz.prog qj xf):=Ig ug (by kernel_rfl)
set_option maxRecDepth 100000 in
theorem sE:Ok Tryz.prog 7 [] [.c (.b true)]:=Hj (by kernel_rfl) t7 (fuel:=10000) (depth:=60) (by kernel_rfl)
end Go.Proofs.YtacopbfkmnpfgaaGreat
namespace Go.Proofs.YtacopbfkmnpfgaaGreat
open Go.ChangeShapes Go.WideShapes Go.ChangeAt Go.RowKit
theorem E1 {K U A B C D E F K' U' A' B' C' D' E' F' N:Int}(w0:0≤K∧K≤255) (w1:0≤U∧U≤255) (w2: -128≤A∧A≤127) (w3: -128≤B∧B≤127) (w4: -128≤C∧C≤127) (w5: -128≤D∧D≤127) (w6: -128≤E∧E≤127) (w7: -128≤F∧F≤127) (w8:0≤K'∧K'≤255) (w9:0≤U'∧U'≤255) (w10: -128≤A'∧A'≤127) (w11: -128≤B'∧B'≤127) (w12: -128≤C'∧C'≤127) (w13: -128≤D'∧D'≤127) (w14: -128≤E'∧E'≤127) (w15: -128≤F'∧F'≤127) (w16:0≤N∧N≤255):Ok Tryz.prog 3 [.a (([.i .u8 K]++[.i .u8 U]++[.i .i8 A]++[.i .i8 B]++[.i .i8 C]++[.i .i8 D]++[.i .i8 E]++[.i .i8 F])++([.i .u8 K']++[.i .u8 U']++[.i .i8 A']++[.i .i8 B']++[.i .i8 C']++[.i .i8 D']++[.i .i8 E']++[.i .i8 F'])++[.i .u8 N])] [.c (.b true)]:=by
 have hO1:=QM w0 w1 w2 w3 w4 w5 w6 w7
 have hO2:=QM w8 w9 w10 w11 w12 w13 w14 w15
 by_cases h0:pf K U A B C D E F=[]
 ·exact D1 sE (Bp w16 hO1 hO2 h0)
 ·have hp:0<(pf K U A B C D E F).length:=List.length_pos_iff.2 h0
  have hg:=tY (K:=K) w1.1 w2 w3 w4 w5 w6 w7
  have hB: ∀d∈pf K' U' A' B' C' D' E' F',d.good:=fun d hd=>(tY (K:=K') w9.1 w10 w11 w12 w13 w14 w15 d hd).g
  have hg0:=hg _ (jP (d:=fP) hp)
  have hv0:=P8 (K:=K) w1.1 w2 w3 w4 w5 w6 w7 _ (jP (d:=fP) hp)
  have hpos:=xO (A0:=pf K U A B C D E F) (Bl:=pf K' U' A' B' C' D' E' F') hg0.ne
  exact Lu sE (OG hv0 hB _ (jP (Nat.mod_lt _ hpos))) (IK w16 hO1 hO2 hg0 hp hB Kr)
set_option maxRecDepth 100000 in
theorem yA (os:Os) (started:os.Started) (H:Type) (enc:TypeId×Value→H):
 ReturnsInHanded {} Tryz.checked os 3 .any (Rows.monotoneIsSpec.pre6 enc Tryz.prog Tryz.f3 Rows.monotoneIsRow.domain false) (Rows.monotoneIsSpec.post enc Tryz.prog Tryz.f3 false true false false):=by
 refine returnsInHanded_of_change (C:=Tryz.checked) own started (by kernel_rfl) Tryz.func3
  (ChangeSpec.witness6 (enc:=enc) (C:=Tryz.checked) false ⟨#[],#[.agg #[.int .u8 0,.int .u8 0,.int .i8 0,.int .i8 0,.int .i8 0,.int .i8 0,.int .i8 0,.int .i8 0,.int .u8 0,.int .u8 0,.int .i8 0,.int .i8 0,.int .i8 0,.int .i8 0,.int .i8 0,.int .i8 0,.int .u8 0]],[]⟩ 8 (by kernel_rfl) (by kernel_rfl) (by kernel_rfl) (by kernel_rfl)) ?_
 intro W base args ds gs before hval0 hW hcnd _
 have hval: ∀(j:Nat) t v,Tryz.f3.params[j]? =some t→args[j]? =some v→Value.okWide Tryz.prog W .any base t v:=hval0
 have hW':=hW
 obtain⟨p,q,hA0,hV,rfl,hfz,hnd⟩:=hW
 have hA:DataW.TrodAll enc Tryz.prog W 0 (fun _=>true) true Tryz.f3.params.toList args.toList ds p:=hA0
 rw[Tryz.params3] at hA hval
 obtain⟨v0,vs0,d0,ds0,p0,q0,hargs,rfl,rfl,h0,r0⟩:=trodAll_cons hA
 obtain⟨rfl,rfl,rfl⟩:=trodAll_nil r0
 obtain rfl:args= #[v0]:=by cases args;simp_all
 obtain⟨rfl,rfl⟩:=trodVars_none hV
 obtain⟨a0,rfl,_⟩:=okWide_struct Tryz.underlying26 (hval 0 26 v0 rfl rfl)
 have k0:=h0
 have lt0: ∀x∈p0,x.block<W.heap.size:=by obtain⟨m,hm⟩:=k0;exact DataW.trod_lt m _ _ _ hm
 obtain⟨y00,y01,y02,y03,y04,y05,y06,y07,y08,y09,y010,y011,y012,y013,y014,y015,y016,g00,g01,g02,g03,g04,g05,g06,g07,g08,g09,g010,g011,g012,g013,g014,g015,g016,hr0⟩:=HQ (show DataW.trod enc Tryz.prog W 0 _ _ h0.choose 26 a0.toList=some _ from h0.choose_spec)
 clear hA0 hval0
 refine(Oh (E1 g00 g01 g02 g03 g04 g05 g06 g07 g08 g09 g010 g011 g012 g013 g014 g015 g016) (RdL.cons ⟨a0,rfl,hr0⟩ RdL.nil)).mono fun e W' ⟨he,bel⟩=>?_
 subst he
 exact⟨_,rfl,_,_,_,[],_,[],hW',trodAll_mk1 (shut_bool Tryz.underlying4 _),(trodAll_cons_mk (Below.trod Lm (by kernel_rfl) (of_decide_eq_true (by kernel_rfl)) k0 bel lt0) trodAll_mk0),rfl,bel.frame _,fun h=>by cases h⟩
theorem is11_proved:Rows.MonotoneIsSaid:=
 OpenClaim.holds_of_wide 3 Tryz.f3 rfl rfl rfl rfl rfl rfl rfl ⟨rfl,rfl,rfl,rfl,rfl⟩ rfl rfl rfl rfl rfl Ki Tryz.func3 JF
  (of_decide_eq_true (by kernel_rfl)) (by unfold Func.isWrapper;first|(rw[if_pos (by decide+kernel)];kernel_rfl)|(rw[if_neg (by decide+kernel)];exact⟨rfl,rfl⟩))
  (fun os started H enc _=>yA os started H enc)
end Go.Proofs.YtacopbfkmnpfgaaGreat
