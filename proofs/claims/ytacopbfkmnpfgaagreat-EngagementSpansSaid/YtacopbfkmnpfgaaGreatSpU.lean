/-A run on known values:code. -/
import Derived.Test.YtacopbfkmnpfgaaGreatSpT
import Derived.LoopN
namespace Go.Proofs.YtacopbfkmnpfgaaGreat
open Go Go.RowKit
section
variable {P:Program}{n m:Nat}{call:eC}
abbrev Oc:=Exit×Tr XV×Nat×Tr Bx
def Ro.out:Ro→Option Oc
 | .no=>none
 | .n T N H=>some (.normal,T,N,H)
 | .x id T N H=>some (.exit id,T,N,H)
 | .r T N H=>some (.ret,T,N,H)
def Does (P:Program) (n m:Nat) (c:(Exit→Act→World→Prop)→Act→World→Prop) (T:Tr XV) (N:Nat) (H:Tr Bx) (o:Oc):Prop:=
 N≤o.2.2.1∧gz (TS m [] o.2.1)∧fC o.2.2.2∧fF o.2.2.1 o.2.2.2∧ ∀Q V A β a w,(∀k,A k→ ¬(N≤k∧k<o.2.2.1))→StX V A n (TS m [] T) (HS H) β a w→
  (∀a' w',Ends P n m V A N (HS H) β w o.2.2.1 (TS m [] o.2.1) (HS o.2.2.2) a' w'→Q o.1 a' w')→c Q a w
def EM (P:Program) (n m:Nat) (c:Code) (run:kw):Prop:= ∀call,ig P call→ ∀f T N H o,gz (TS m [] T)→fC H→fF N H→(run call f T N H).out=some o→Does P n m (fun Q=>c.wp P Q) T N H o
theorem Ends.refl {V A:Nat→Prop}{T:TX}{H:HF}{β:Nat→Pl}{a:Act}{w:World}{N:Nat}(h:StX V A n T H β a w):Ends P n m V A N H β w N T H a w:=
 ⟨A,β,fun _ h=>h,fun _ h=>.inl h,Hst.refl,h⟩
theorem Does.skip {T:Tr XV}{N:Nat}{H:Tr Bx}{e:Exit}{c:(Exit→Act→World→Prop)→Act→World→Prop}(hT:gz (TS m [] T)) (hO:fC H) (hL:fF N H) (h: ∀Q a w,Q e a w→c Q a w):Does P n m c T N H (e,T,N,H):=
 ⟨Nat.le_refl _,hT,hO,hL,fun Q _V _A _β a w _ hst hQ=>h Q a w (hQ a w (Ends.refl hst))⟩
theorem Does.seq {T T1:Tr XV}{N N1:Nat}{H H1:Tr Bx}{o:Oc}{e:Exit}{c d b:(Exit→Act→World→Prop)→Act→World→Prop}(h1:Does P n m c T N H (e,T1,N1,H1)) (h2:Does P n m d T1 N1 H1 o)
 (h: ∀Q a w,(∀Q',(∀a' w',d Q a' w'→Q' e a' w')→c Q' a w)→b Q a w):Does P n m b T N H o:=by
 obtain⟨k1,k2,k3,k4,k5⟩:=h1
 obtain⟨l1,l2,l3,l4,l5⟩:=h2
 refine⟨Nat.le_trans k1 l1,l2,l3,l4,fun Q V A β a w hA hst hQ=>h Q a w fun Q' hq'=>?_⟩
 refine k5 Q' V A β a w (fun k hk hh=>hA k hk ⟨hh.1,Nat.lt_of_lt_of_le hh.2 l1⟩) hst fun a1 w1 ⟨A1,β1,f1,f2,f3,f4⟩=>hq' a1 w1 ?_
 refine l5 Q V A1 β1 a1 w1 (rm hA f2 k1) f4 fun a2 w2 ⟨A2,β2,g1,g2,g3,g4⟩=>?_
 exact hQ a2 w2 ⟨A2,β2,fun k hk=>g1 k (f1 k hk),fun k hk=>EB f2 k1 l1 k (g2 k hk),(f3.wide (Nat.le_refl _) l1).trans f1 (g3.wide k1 (Nat.le_refl _)),g4⟩
theorem Does.as {T:Tr XV}{N:Nat}{H:Tr Bx}{o:Oc}{e':Exit}{c b:(Exit→Act→World→Prop)→Act→World→Prop}(h1:Does P n m c T N H o)
 (h: ∀Q a w,(∀Q',(∀a' w',Q e' a' w'→Q' o.1 a' w')→c Q' a w)→b Q a w):Does P n m b T N H (e',o.2):=by
 obtain⟨k1,k2,k3,k4,k5⟩:=h1
 exact⟨k1,k2,k3,k4,fun Q V A β a w hA hst hQ=>h Q a w fun Q' hq'=>k5 Q' V A β a w hA hst fun a' w' he=>hq' a' w' (hQ a' w' he)⟩
noncomputable def BQ (c:kw) (call:eC) (F:Nat) (g:Nat):Tr XV→Nat→Tr Bx→Ro:=@Nat.rec (fun _=>Tr XV→Nat→Tr Bx→Ro) (fun _ _ _=>.no) (fun _ ih T N H=>@Ro.rec (fun _=>Ro) .no (fun T N H=>ih T N H) (fun id T N H=>.x id T N H) (fun T N H=>.r T N H) (c call F T N H)) g
theorem sB {c:Code}{run:kw}(hc:EM P n m c run) (hcall:ig P call) {F:Nat}: ∀(g:Nat) (T:Tr XV) (N:Nat) (H:Tr Bx) (o:Oc),gz (TS m [] T)→fC H→fF N H→(BQ run call F g T N H).out=some o→Does P n m (fun Q=>Code.rounds P c Q g) T N H o
 |0,T,N,H,o,_,_,_,h=>by cases h
 |g+1,T,N,H,o,hT,hO,hL,h=>by
  have e:BQ run call F (g+1) T N H= @Ro.rec (fun _=>Ro) .no (fun T N H=>BQ run call F g T N H) (fun id T N H=>.x id T N H) (fun T N H=>.r T N H) (run call F T N H):=rfl
  rw[e] at h
  have hc1:=hc call hcall F T N H
  cases hr:run call F T N H with
  |no=>rw[hr] at h;cases h
  |n T1 N1 H1=>
   rw[hr] at h hc1
   have h1:=hc1 _ hT hO hL rfl
   refine h1.seq (sB hc hcall g T1 N1 H1 o h1.2.1 h1.2.2.1 h1.2.2.2.1 h) fun Q a w hq=>?_
   exact hq (Exit.then (Code.rounds P c Q g) Q) fun a' w' h=>h
  |x id T1 N1 H1=>
   rw[hr] at h hc1
   injection h with h
   subst h
   exact(hc1 _ hT hO hL rfl).as fun Q a w hq=>hq (Exit.then (Code.rounds P c Q g) Q) fun a' w' h=>h
  |r T1 N1 H1=>
   rw[hr] at h hc1
   injection h with h
   subst h
   exact(hc1 _ hT hO hL rfl).as fun Q a w hq=>hq (Exit.then (Code.rounds P c Q g) Q) fun a' w' h=>h
theorem fj (hfol:P.follows .mixedOrders=true): ∀(c:Code) {run:kw},cC P n m c=some run→EM P n m c run
 | .skip,run,h=>by
   injection h with h
   subst h
   intro call hcall f T N H o hT hO hL hr
   injection hr with hr
   subst hr
   exact Does.skip hT hO hL fun Q a w h=>wp_skip h
 | .exit id,run,h=>by
   injection h with h
   subst h
   intro call hcall f T N H o hT hO hL hr
   injection hr with hr
   subst hr
   exact Does.skip hT hO hL fun Q a w h=>wp_exit h
 | .ret,run,h=>by
   injection h with h
   subst h
   intro call hcall f T N H o hT hO hL hr
   injection hr with hr
   subst hr
   exact Does.skip hT hO hL fun Q a w h=>wp_ret h
 | .region id ops false,run,h=>by
   unfold cC at h
   dsimp only at h
   cases hl:gm (IV P n m ops) ops.toList with
   |none=>rw[hl] at h;cases h
   |some is=>
    rw[hl] at h
    injection h with h
    subst h
    intro call hcall f T N H o hT hO hL hr
    have hr:(yC call is [] T N H).out=some o:=hr
    have hno:yC call is [] T N H≠ .no:=fun e=>by rw[e] at hr;cases hr
    obtain⟨T',N',H',e1,k1,k2,k3,k4,_⟩:=nI (ops:=ops) hcall (Q:=fun _ _ _=>True) ops.toList is [] T N H hl hT hO hL hno
    rw[e1] at hr
    injection hr with hr
    subst hr
    refine⟨k1,k2,k3,k4,fun Q V A β a w hA hst hQ=>?_⟩
    obtain⟨T2,N2,H2,e2,_,_,_,_,k5⟩:=nI (ops:=ops) hcall (Q:=Q) ops.toList is [] T N H hl hT hO hL hno
    rw[e1] at e2
    injection e2 with e21 e22 e23
    subst e21 e22 e23
    exact wp_region_list (k5 V A β a w hA hst hQ)
 | .region id ops true,run,h=>by
   unfold cC at h
   dsimp only at h
   cases hchk:(List.range ops.size).all (No ops (iN ops.toList) ops.toList) with
   |false=>rw[hchk] at h;cases h
   |true=>
    rw[hchk] at h
    cases hl:lW P n m ops (iN ops.toList) ops.toList with
    |none=>rw[hl] at h;cases h
    |some js=>
     rw[hl] at h
     injection h with h
     subst h
     intro call hcall f T N H o hT hO hL hr
     have hr:(uw call js 0 [] T N H [] []).out=some o:=hr
     have hno:uw call js 0 [] T N H [] []≠ .no:=fun e=>by rw[e] at hr;cases hr
     obtain⟨T',N',H',e1,k1,k2,k3,k4,_⟩:=tG hfol hcall hchk hl hT hO hL hno (Q:=fun _ _ _=>True) (id:=id)
     rw[e1] at hr
     injection hr with hr
     subst hr
     refine⟨k1,k2,k3,k4,fun Q V A β a w hA hst hQ=>?_⟩
     obtain⟨T2,N2,H2,e2,_,_,_,_,k5⟩:=tG hfol hcall hchk hl hT hO hL hno (Q:=Q) (id:=id)
     rw[e1] at e2
     injection e2 with e21 e22 e23
     subst e21 e22 e23
     exact k5 V A β a w hA hst hQ
 | .seq x y,run,h=>by
   unfold cC at h
   cases hx:cC P n m x with
   |none=>rw[hx] at h;cases h
   |some rx=>
    cases hy:cC P n m y with
    |none=>rw[hx,hy] at h;cases h
    |some ry=>
     rw[hx,hy] at h
     injection h with h
     subst h
     have ix:=fj hfol x hx
     have iy:=fj hfol y hy
     intro call hcall f T N H o hT hO hL hr
     have e:OH rx ry call f T N H= @Ro.rec (fun _=>Ro) .no (fun T N H=>ry call f T N H) (fun id T N H=>.x id T N H) (fun T N H=>.r T N H) (rx call f T N H):=rfl
     rw[e] at hr
     have hc1:=ix call hcall f T N H
     cases hq:rx call f T N H with
     |no=>rw[hq] at hr;cases hr
     |n T1 N1 H1=>
      rw[hq] at hr hc1
      have h1:=hc1 _ hT hO hL rfl
      exact h1.seq (iy call hcall f T1 N1 H1 o h1.2.1 h1.2.2.1 h1.2.2.2.1 hr) fun Q a w hq=>wp_seq (hq (Exit.then (y.wp P Q) Q) fun a' w' h=>h)
     |x id T1 N1 H1=>
      rw[hq] at hr hc1
      injection hr with hr
      subst hr
      exact(hc1 _ hT hO hL rfl).as fun Q a w hq=>wp_seq (hq (Exit.then (y.wp P Q) Q) fun a' w' h=>h)
     |r T1 N1 H1=>
      rw[hq] at hr hc1
      injection hr with hr
      subst hr
      exact(hc1 _ hT hO hL rfl).as fun Q a w hq=>wp_seq (hq (Exit.then (y.wp P Q) Q) fun a' w' h=>h)
 | .cond (.tmp t) x y,run,h=>by
   unfold cC at h
   cases hx:cC P n m x with
   |none=>rw[hx] at h;cases h
   |some rx=>
    cases hy:cC P n m y with
    |none=>rw[hx,hy] at h;cases h
    |some ry=>
     rw[hx,hy] at h
     dsimp only at h
     cases hb:m.testBit t with
     |true=>rw[hb] at h;cases h
     |false=>
      rw[hb] at h
      injection h with h
      subst h
      have ix:=fj hfol x hx
      have iy:=fj hfol y hy
      intro call hcall f T N H o hT hO hL hr
      have e:JQ t rx ry call f T N H= @Option.rec Bool (fun _=>Ro) .no (fun v=>@Bool.rec (fun _=>Ro) (ry call f T N H) (rx call f T N H) v) (oO (T.get t) fun v=>xB v some):=rfl
      rw[e] at hr
      cases hv:(oO (T.get t) fun v=>xB v some) with
      |none=>rw[hv] at hr;cases hr
      |some v=>
       rw[hv] at hr
       obtain⟨z,hz,h2⟩:=aK hv
       obtain⟨b,rfl,h3⟩:=kK h2
       injection h3 with h3
       subst h3
       have hts:TS m [] T t=some (.c (.b b)):=by unfold TS;rw[hb];exact hz
       have hev: ∀ {V A β a w},StX V A n (TS m [] T) (HS H) β a w→a.eval (.tmp t)=.bool b:=by
        intro V A β a w hst
        obtain⟨v',e,hr⟩:=hst.tmp t _ hts
        have:a.eval (.tmp t)=v':=by
         show a.tmps.getD t undef=v'
         obtain⟨hlt,e⟩:=Array.getElem?_eq_some_iff.1 e
         simp[Array.getD,hlt,e]
        rw[this]
        exact RdA.b_eq hr
       cases b with
       |true=>
        obtain⟨k1,k2,k3,k4,k5⟩:=ix call hcall f T N H o hT hO hL hr
        exact⟨k1,k2,k3,k4,fun Q V A β a w hA hst hQ=>wp_cond_true (hev hst) (k5 Q V A β a w hA hst hQ)⟩
       |false=>
        obtain⟨k1,k2,k3,k4,k5⟩:=iy call hcall f T N H o hT hO hL hr
        exact⟨k1,k2,k3,k4,fun Q V A β a w hA hst hQ=>wp_cond_false (hev hst) (k5 Q V A β a w hA hst hQ)⟩
 | .block id c,run,h=>by
   unfold cC at h
   cases hx:cC P n m c with
   |none=>rw[hx] at h;cases h
   |some rx=>
    rw[hx] at h
    injection h with h
    subst h
    have ix:=fj hfol c hx
    intro call hcall f T N H o hT hO hL hr
    have e:EX id rx call f T N H= @Ro.rec (fun _=>Ro) .no (fun T N H=>.n T N H) (fun id' T N H=>@Bool.rec (fun _=>Ro) (.x id' T N H) (.n T N H) (Nat.beq id' id)) (fun T N H=>.r T N H) (rx call f T N H):=rfl
    rw[e] at hr
    have hc1:=ix call hcall f T N H
    cases hq:rx call f T N H with
    |no=>rw[hq] at hr;cases hr
    |n T1 N1 H1=>
     rw[hq] at hr hc1
     injection hr with hr
     subst hr
     exact(hc1 _ hT hO hL rfl).as fun Q a w hq=>wp_block (hq (Exit.inBlock id Q) fun a' w' h=>h)
    |r T1 N1 H1=>
     rw[hq] at hr hc1
     injection hr with hr
     subst hr
     exact(hc1 _ hT hO hL rfl).as fun Q a w hq=>wp_block (hq (Exit.inBlock id Q) fun a' w' h=>h)
    |x id' T1 N1 H1=>
     rw[hq] at hr hc1
     cases hb:Nat.beq id' id with
     |true=>
      have hr:(match Nat.beq id' id with|true=>Ro.n T1 N1 H1|false=>Ro.x id' T1 N1 H1).out=some o:=by
       rw[hb];rw[show(@Ro.rec (fun _=>Ro) .no (fun T N H=>.n T N H) (fun id' T N H=>@Bool.rec (fun _=>Ro) (.x id' T N H) (.n T N H) (Nat.beq id' id)) (fun T N H=>.r T N H) (.x id' T1 N1 H1))= @Bool.rec (fun _=>Ro) (.x id' T1 N1 H1) (.n T1 N1 H1) (Nat.beq id' id) from rfl,hb] at hr;exact hr
      rw[hb] at hr
      injection hr with hr
      subst hr
      exact(hc1 _ hT hO hL rfl).as fun Q a w hq=>wp_block (hq (Exit.inBlock id Q) fun a' w' h=>by
       show if id'=id then Q .normal a' w' else Q (.exit id') a' w'
       rw[if_pos (Nat.eq_of_beq_eq_true hb)];exact h)
     |false=>
      rw[show(@Ro.rec (fun _=>Ro) .no (fun T N H=>.n T N H) (fun id' T N H=>@Bool.rec (fun _=>Ro) (.x id' T N H) (.n T N H) (Nat.beq id' id)) (fun T N H=>.r T N H) (.x id' T1 N1 H1))= @Bool.rec (fun _=>Ro) (.x id' T1 N1 H1) (.n T1 N1 H1) (Nat.beq id' id) from rfl,hb] at hr
      injection hr with hr
      subst hr
      exact(hc1 _ hT hO hL rfl).as fun Q a w hq=>wp_block (hq (Exit.inBlock id Q) fun a' w' h=>by
       show if id'=id then Q .normal a' w' else Q (.exit id') a' w'
       rw[if_neg (Nat.ne_of_beq_eq_false hb)];exact h)
 | .loop c,run,h=>by
   unfold cC at h
   cases hx:cC P n m c with
   |none=>rw[hx] at h;cases h
   |some rx=>
    rw[hx] at h
    injection h with h
    subst h
    have ix:=fj hfol c hx
    intro call hcall f T N H o hT hO hL hr
    have hr:(BQ rx call f f T N H).out=some o:=hr
    obtain⟨k1,k2,k3,k4,k5⟩:=sB ix hcall f T N H o hT hO hL hr
    exact⟨k1,k2,k3,k4,fun Q V A β a w hA hst hQ=>wp_loop_rounds f (k5 Q V A β a w hA hst hQ)⟩
 | .cond (.const v) x y,run,h=>by
   cases v with
   |bool b=>
    cases b with
    |true=>
     have ix:=fj hfol x (show cC P n m x=some run from h)
     intro call hcall f T N H o hT hO hL hr
     obtain⟨k1,k2,k3,k4,k5⟩:=ix call hcall f T N H o hT hO hL hr
     exact⟨k1,k2,k3,k4,fun Q V A β a w hA hst hQ=>wp_cond_true rfl (k5 Q V A β a w hA hst hQ)⟩
    |false=>
     have iy:=fj hfol y (show cC P n m y=some run from h)
     intro call hcall f T N H o hT hO hL hr
     obtain⟨k1,k2,k3,k4,k5⟩:=iy call hcall f T N H o hT hO hL hr
     exact⟨k1,k2,k3,k4,fun Q V A β a w hA hst hQ=>wp_cond_false rfl (k5 Q V A β a w hA hst hQ)⟩
   |_=>cases h
 | .cond (.func _) x y,run,h=>by cases h
 | .goto l,run,h=>by cases h
 | .label l,run,h=>by cases h
end
section
variable {P:Program}{n m:Nat}{T:Tr XV}{N:Nat}{H:Tr Bx}
theorem Ee {v:XV}{d:XD}(h:PP v=some d):v=Jn d:=by
 cases v with
 |c x=>injection h with h;subst h;rfl
 |a k r=>injection h with h;subst h;rfl
 |t ds=>cases h
 |u=>cases h
theorem pk {A Z:Nat→Prop}{w:World}{β:Nat→Pl}{v:Value}{d:XD}:RdX2 A Z w β v (Jn d)↔RdD A Z w β v d:=by cases d<;>exact Iff.rfl
theorem FI {d:XD}:sE (Jn d)↔rH d:=by cases d<;>exact Iff.rfl
theorem StX.look {V A:Nat→Prop}{T:TX}{H:HF}{β:Nat→Pl}{a:Act}{w:World}{t:Nat}{x:XV}(h:StX V A n T H β a w) (ht:T t=some x):RdX2 A (Zs V H β) w β (a.tmps.getD t undef) x:=by
 obtain⟨v,e,hr⟩:=h.tmp t x ht
 obtain⟨hlt,e⟩:=Array.getElem?_eq_some_iff.1 e
 have:a.tmps.getD t undef=v:=by simp[Array.getD,hlt,e]
 rw[this];exact hr
theorem EF (hT:gz (TS m [] T)) (hO:fC H) {rv:ResultVar}{r:XR}{d:XD}(hc:Lz P m rv=some r) (h:K3 T H r=some d):rH d∧ ∀V A β a w,StX V A n (TS m [] T) (HS H) β a w→
 ∃v,(jc a rv).run P w=.ok v w∧RdD A (Zs V (HS H) β) w β v d:=by
 have hts: ∀ {t x},m.testBit t=false→T.get t=some x→TS m [] T t=some x:=fun hb h=>by unfold TS;rw[hb];exact h
 cases rv with
 |tmp t=>
  unfold Lz at hc
  dsimp only at hc
  cases hb:m.testBit t with
  |true=>rw[hb] at hc;cases hc
  |false=>
   rw[hb] at hc
   injection hc with hc
   subst hc
   obtain⟨v,hv,h2⟩:=aK (show oO (T.get t) PP=some d from h)
   have e:=Ee h2
   subst e
   have hs:=hts hb hv
   exact⟨FI.1 (hT t _ hs),fun V A β a w hst=>⟨_,rfl,pk.1 (hst.look hs)⟩⟩
 |cell t U=>
  unfold Lz at hc
  dsimp only at hc
  cases hb:m.testBit t with
  |true=>rw[hb] at hc;cases hc
  |false=>
   rw[hb] at hc
   dsimp only[cond_false] at hc
   split at hc
   ·rename_i k hU
    injection hc with hc
    subst hc
    obtain⟨v,hv,h⟩:=aK (show oO (T.get t) (fun v=>xP v fun k' off=>oO (H.get k') fun b=>bT (Nat.ble (Nat.add off k) b.n) (some (XD.a k (e8 b.r b.n off k))))=some d from h)
    obtain⟨j,off,rfl,h⟩:=jC h
    obtain⟨b,hbx,h⟩:=aK h
    obtain⟨hn,h⟩:=bo h
    rw[cZ] at hn
    injection h with h
    subst h
    obtain⟨hb1,hb2⟩:=hO j b hbx
    obtain⟨g1,g2⟩:=fP b.r b.n off k hb1 hb2 hn
    have hn':off+k≤b.r.flat.length:=by rw[←hb2];exact hn
    refine⟨⟨g1,by rw[g2];simp;omega⟩,fun V A β a w hst=>?_⟩
    obtain⟨e1,hk⟩:=RdA.p_eq (hst.look (hts hb hv))
    obtain⟨vs,ev,hz,hl,hr⟩:=hst.mem.box j b.U b.r.flat (jW hbx)
    have hr2:=(hr.drop off).take k
    have hlen:((vs.toList.take b.r.flat.length).drop off).take k=((vs.toList.drop off).take k):=by
     rw[List.drop_take,List.take_take,Nat.min_eq_left (by omega)]
    rw[hlen] at hr2
    have hrun:=fy (P:=P) (w:=w) hU (b:=(β j).b) (off:=off) (vs:=(vs.toList.drop off).take k) (by simp;omega) (fun j v hv=>by
     rw[List.getElem?_take] at hv
     split at hv
     ·rw[bq ev,←hv];simp
     ·cases hv)
    refine⟨.agg ((vs.toList.drop off).take k).toArray,?_,((vs.toList.drop off).take k).toArray,rfl,by rw[g2];simpa using hr2⟩
    simp only[jc,e1,asAddr,Sem.run_bind,Sem.run_pure,Result.andThen_ok,hrun]
   ·rename_i k hU
    injection hc with hc
    subst hc
    obtain⟨v,hv,h⟩:=aK (show oO (T.get t) (fun v=>xP v fun k' off=>oO (H.get k') fun b=>oO (jU b.r off) fun a=>some (XD.c a))=some d from h)
    obtain⟨j,off,rfl,h⟩:=jC h
    obtain⟨b,hbx,h⟩:=aK h
    obtain⟨c,hc2,h⟩:=aK h
    injection h with h
    subst h
    obtain⟨hb1,hb2⟩:=hO j b hbx
    rw[j8 b.r off hb1] at hc2
    have hlt:=(List.getElem?_eq_some_iff.1 hc2).1
    refine⟨trivial,fun V A β a w hst=>?_⟩
    obtain⟨e1,hk⟩:=RdA.p_eq (hst.look (hts hb hv))
    obtain⟨vs,ev,hz,hl,hr⟩:=hst.mem.box j b.U b.r.flat (jW hbx)
    have hv2:vs.toList[off]? =some (vs.toList[off]'(by simp;omega)):=List.getElem?_eq_getElem _
    have hrd:=hr.2 off (vs.toList[off]'(by simp;omega)) c (by rw[List.getElem?_take,if_pos hlt];exact hv2) hc2
    have hrun:=fv (P:=P) (w:=w) hU (b:=(β j).b) (off:=off) (by rw[bq ev,←Array.getElem?_toList,hv2])
    refine⟨_,?_,hrd⟩
    simp only[jc,e1,asAddr,Sem.run_bind,Sem.run_pure,Result.andThen_ok,hrun]
   ·cases hc
theorem mN (hT:gz (TS m [] T)) (hO:fC H): ∀(rvs:List ResultVar) (rs:List XR) (ds:List XD),gm (Lz P m) rvs=some rs→mu T H rs=some ds→(∀d∈ds,rH d)∧ ∀V A β a w,StX V A n (TS m [] T) (HS H) β a w→
 ∃vs:List Value,(rvs.mapM (jc a)).run P w=.ok vs w∧RdDs A (Zs V (HS H) β) w β vs ds
 |[],rs,ds,hc,h=>by
  injection hc with hc
  subst hc
  injection h with h
  subst h
  exact⟨fun d hd=>(by cases hd),fun V A β a w _=>⟨[],rfl,rfl,fun j v d hv=>by simp at hv⟩⟩
 |rv::rvs,rs,ds,hc,h=>by
  unfold gm at hc
  split at hc
  ·cases hc
  ·rename_i r hr
   split at hc
   ·cases hc
   ·rename_i rs' hrs
    injection hc with hc
    subst hc
    obtain⟨d,hd,h⟩:=aK (show oO (K3 T H r) (fun d=>oO (mu T H rs') fun ds=>some (d::ds))=some ds from h)
    obtain⟨ds',hds,h⟩:=aK h
    injection h with h
    subst h
    obtain⟨k1,k2⟩:=EF (n:=n) hT hO hr hd
    obtain⟨l1,l2⟩:=mN hT hO rvs rs' ds' hrs hds
    refine⟨fun x hx=>?_,fun V A β a w hst=>?_⟩
    ·rcases List.mem_cons.1 hx with rfl|hx
     ·exact k1
     ·exact l1 x hx
    ·obtain⟨v,e1,r1⟩:=k2 V A β a w hst
     obtain⟨vs,e2,r2,r3⟩:=l2 V A β a w hst
     refine⟨v::vs,?_,by simp[r2],fun j y x hu hx=>?_⟩
     ·rw[List.mapM_cons]
      simp only[Sem.run_bind,e1,Result.andThen_ok,e2,Sem.run_pure]
     ·cases j with
      |zero=>simp at hu hx;subst hu hx;exact r1
      |succ j=>simp at hu hx;exact r3 j y x hu hx
theorem sx {ds:List XD}(h: ∀d∈ds,rH d):sE (lk ds):=by
 match ds,h with
 |[],_=>exact show ∀d∈([]:List XD),rH d from fun d hd=>by cases hd
 |[d],h=>exact FI.2 (h d (List.mem_cons_self ..))
 |d::d'::r,h=>exact show ∀x∈d::d'::r,rH x from h
theorem qb {A Z:Nat→Prop}{w:World}{β:Nat→Pl}{vs:List Value}{ds:List XD}(h:RdDs A Z w β vs ds):RdX2 A Z w β (if h:vs.toArray.size=1 then vs.toArray[0] else .tuple vs.toArray) (lk ds):=by
 match vs,ds,h with
 |[],[],h=>exact⟨_,rfl,h⟩
 |[v],[d],h=>exact pk.2 (h.2 0 v d rfl rfl)
 |v::v'::vs',d::d'::ds',h=>exact⟨(v::v'::vs').toArray,dif_neg (by simp),by simpa using h⟩
 |[],d::ds,h=>exact absurd h.1 (by simp)
 |v::vs,[],h=>exact absurd h.1 (by simp)
 |[v],d::d'::ds,h=>exact absurd h.1 (by simp)
 |v::v'::vs,[d],h=>exact absurd h.1 (by simp)
theorem wV {fn:Func}{a:Act}{w:World}{vs:List Value}(hrun:(fn.results.toList.mapM (jc a)).run P w=.ok vs w):
 (results fn a.tmps).run P w=.ok (if h:vs.toArray.size=1 then vs.toArray[0] else .tuple vs.toArray) w:=by
 have key: ∀g:ResultVar→Go.Sem Value,(∀r,g r=jc a r)→(do let vs ←fn.results.mapM g;pure (if h:vs.size=1 then vs[0] else .tuple vs):Go.Sem Value).run P w=.ok (if h:vs.toArray.size=1 then vs.toArray[0] else .tuple vs.toArray) w:=by
  intro g hg
  rw[funext hg]
  simp[Array.mapM_eq_mapM_toList,hrun]
 unfold results
 exact key _ (fun r=>by cases r<;>rfl)
theorem rT: ∀(vs:List XV) (k:Nat) (t:Tr XV) (j:Nat) (x:XV),(jR vs k t).get j=some x→(k≤j∧vs[j-k]? =some x)∨t.get j=some x
 |[],k,t,j,x,h=>.inr h
 |v::vs,k,t,j,x,h=>by
  rcases rT vs (k+1) (t.set v k) j x h with⟨h1,h2⟩|h
  ·refine .inl ⟨by omega,?_⟩
   rw[show j-k=(j-(k+1))+1 by omega]
   simpa using h2
  ·rcases Tr.set_get t k j h with⟨e1,e2⟩|⟨_,h⟩
   ·subst e1 e2;exact .inl ⟨Nat.le_refl _,by simp⟩
   ·exact .inr h
theorem wE {vs:List XV}{j:Nat}{x:XV}(h:(jR vs 0 .e).get j=some x):vs[j]? =some x:=by
 rcases rT vs 0 .e j x h with⟨_,h⟩|h
 ·simpa using h
 ·cases h
theorem BB {vs:List XV}{t:Nat}{x:XV}(h:TS m [] (jR vs 0 .e) t=some x):vs[t]? =some x:=by
 unfold TS at h
 cases hb:m.testBit t with
 |true=>rw[hb] at h;cases h
 |false=>rw[hb] at h;exact wE h
theorem s6: ∀(vs:List XV) (n:Nat),K7 vs n=true→vs.length≤n
 |[],n,_=>Nat.zero_le _
 |v::vs,0,h=>by cases h
 |v::vs,n+1,h=>Nat.succ_le_succ (s6 vs n h)
theorem wZ {vs:List XV}(h: ∀v∈vs,sE v):gz (TS m [] (jR vs 0 .e)):=fun _ x ht=>h x (List.mem_of_getElem? (BB ht))
theorem OL {V A:Nat→Prop}{HH:HF}{β:Nat→Pl}{w:World}{args:Array Value}{vs:List XV}(hm:Mem V A HH β w) (hr:sM A (Zs V HH β) w β args.toList vs) (hn:vs.length≤n):
 StX V A n (TS m [] (jR vs 0 .e)) HH β {tmps:=args++Array.replicate (n-args.size) undef,defers:=[]} w:=by
 have hl:args.size=vs.length:=by have:=hr.1;simpa using this
 refine⟨hm,rfl,by simp;omega,fun t x ht=>?_⟩
 have h2:=BB ht
 have hlt:t<args.size:=by rw[hl];exact(List.getElem?_eq_some_iff.1 h2).1
 have hv:args.toList[t]? =some args[t]:=by rw[Array.getElem?_toList];exact Array.getElem?_eq_getElem hlt
 refine⟨args[t],?_,hr.2 t _ x hv h2⟩
 show(args++Array.replicate (n-args.size) undef)[t]? =_
 rw[Array.getElem?_append_left hlt];exact Array.getElem?_eq_getElem hlt
theorem RdA.pure {A A' Z Z':Nat→Prop}{w:World}{β β':Nat→Pl}(hk:Keep Z Z' w w) {v:Value}{x:AV}(h:RdA A Z w β v x) (hp:MU x=true):RdA A' Z' w β' v x:=by
 cases h with
 |b v=>exact .b v
 |i k n=>exact .i k n
 |l v x h=>exact .l v x (h.keep hk)
 |p k off=>cases hp
 |s=>cases hp
 |z=>exact .z
 |ev a c h1 h2=>exact .ev a c h1 h2
 |np=>exact .np
 |f g cs xs y h1 h2 h3=>
  cases x with
  |f0 g'=>
   injection h1 with h1
   injection h1 with h1 h4
   subst h1 h4
   exact .f g' cs [] (.f0 g') rfl h2 fun j v x _ hx=>by simp at hx
  |fc=>cases hp
  |_=>cases h1
theorem RdD.pure {A A' Z Z':Nat→Prop}{w:World}{β β':Nat→Pl}(hk:Keep Z Z' w w) {v:Value}{d:XD}(h:RdD A Z w β v d) (hd:rH d) (hp:JN (Jn d)=true):RdD A' Z' w β' v d:=by
 cases d with
 |c x=>exact RdA.pure hk h hp
 |a k r=>
  obtain⟨cs,e,h1,h2⟩:=h
  exact⟨cs,e,h1,fun j v x hv hx=>(h2 j v x hv hx).pure hk (sj hd.1 hp x (List.mem_of_getElem? hx))⟩
theorem RdX2.pure {A A' Z Z':Nat→Prop}{w:World}{β β':Nat→Pl}(hk:Keep Z Z' w w) {v:Value}{x:XV}(h:RdX2 A Z w β v x) (hd:sE x) (hp:JN x=true):RdX2 A' Z' w β' v x:=by
 cases x with
 |c x=>exact RdA.pure hk h hp
 |a k r=>exact RdD.pure (d:=.a k r) hk h hd hp
 |t ds=>cases hp
 |u=>cases hp
theorem uK {a b:Bool}(h:bA a b=true):a=true∧b=true:=by cases a<;>simp[bA] at h⊢ <;>exact h
theorem wO: ∀ {vs:List XV},MM vs=true→ ∀v∈vs,JN v=true
 |[],_,v,hv=>by cases hv
 |u0::vs,h,v,hv=>by
  obtain⟨h1,h2⟩:=uK (show bA (JN u0) (MM vs)=true from h)
  rcases List.mem_cons.1 hv with rfl|hv
  ·exact h1
  ·exact wO h2 v hv
theorem xi: ∀ {ds:List XD},MP ds=true→ ∀d∈ds,JN (Jn d)=true
 |[],_,v,hv=>by cases hv
 |d0::vs,h,v,hv=>by
  obtain⟨h1,h2⟩:=uK (show bA (JN (Jn d0)) (MP vs)=true from h)
  rcases List.mem_cons.1 hv with rfl|hv
  ·exact h1
  ·exact xi h2 v hv
end
section
variable {P:Program}{n m:Nat}{T:Tr XV}{N:Nat}{H:Tr Bx}
theorem mC {F:XF}{κ:Tr XV→Nat→Tr Bx→Cr}{r:Ro}{y:Cr}(h:EK F κ r=y) (hy:y≠ .no): ∃e T N H,r.out=some (e,T,N,H)∧(e=.normal∨e=.ret)∧κ T N H=y:=by
 cases r with
 |no=>exact absurd h.symm hy
 |n T N H=>exact⟨_,T,N,H,rfl,.inl rfl,h⟩
 |x id T N H=>exact absurd h.symm hy
 |r T N H=>exact⟨_,T,N,H,rfl,.inr rfl,h⟩
theorem GO {pu:Bool}{fn:Func}{F:XF}(h:cF P pu m fn=some F): ∃c,fn.body=some c∧cC P fn.ntmps m c=some F.run∧gm (Lz P m) fn.results.toList=some F.rs∧F.na=fn.ntmps:=by
 unfold cF at h
 split at h
 ·cases h
 ·rename_i c hc
  split at h
  ·rename_i x rs h1 h2
   injection h with h
   subst h
   exact⟨c,hc,h1,h2,rfl⟩
  ·cases h
theorem Ar:fC .e:=fun k b h=>by cases h
theorem AT:fF 0 .e:=fun k b h=>by cases h
theorem rV {fn:Func}{c:Code}{fid:FuncId}{args:Array Value}{w:World}{vs:List XV}{V A:Nat→Prop}{β:Nat→Pl}{e:Exit}{T':Tr XV}{N':Nat}{H':Tr Bx}{rs:List XR}{ds:List XD}
 (hf:P.funcs[fid]? =some fn) (hb:fn.body=some c) (hrs:gm (Lz P m) fn.results.toList=some rs) (he:e=.normal∨e=.ret) (hds:mu T' H' rs=some ds)
 (hd:Does P fn.ntmps m (fun Q=>c.wp P Q) (jR vs 0 .e) N H (e,T',N',H')) (hA: ∀k,A k→ ¬(N≤k∧k<N')) (hm:Mem V A (HS H) β w) (hr:sM A (Zs V (HS H) β) w β args.toList vs) (hn:vs.length≤fn.ntmps):
 Calls P fid args w fun e w'=> ∃v A' β',e=.returned v∧(∀k,A k→A' k)∧(∀k,A' k→Ad A N N' k)∧Mem V A' (HS H') β' w'∧Hst N N' A (HS H) β w (HS H') β' w'∧ ∃us:List Value,RdDs A' (Zs V (HS H') β') w' β' us ds∧v=(if h:us.toArray.size=1 then us.toArray[0] else .tuple us.toArray):=by
 refine calls_of_wp hf hb ?_
 obtain⟨k1,k2,k3,k4,k5⟩:=hd
 refine k5 (bodyPost P fn _) V A β _ w hA (OL hm hr hn) fun a' w' ⟨A',β',f1,f2,f3,f4⟩=>?_
 obtain⟨g1,g2⟩:=mN (n:=fn.ntmps) k2 k3 _ _ _ hrs hds
 obtain⟨us,hrun,hrd⟩:=g2 V A' β' a' w' f4
 have hres:=wV hrun
 rcases he with rfl|rfl
 ·exact⟨f4.dfr,_,hres,_,A',β',rfl,f1,f2,f4.mem,f3,us,hrd,rfl⟩
 ·exact⟨f4.dfr,_,hres,_,A',β',rfl,f1,f2,f4.mem,f3,us,hrd,rfl⟩
theorem xl (hfol:P.follows .mixedOrders=true) {ih:eC}(hih:ig P ih) {F:XF}{pu:Bool}{fn:Func}{g:FuncId}(hF:cF P pu m fn=some F) (hf:P.funcs[g]? =some fn) (hcal:eg P g=true) {fuel:Nat}{vs:List XV}(hvs: ∀v∈vs,sE v) (hO:fC H) (hL:fF N H):
 (∀x,tB F ih fuel vs N H=.p x→CallP P g vs x)∧ ∀x N' H',tB F ih fuel vs N H=.h x N' H'→CallH P g vs N H x N' H':=by
 obtain⟨c,hb,hc,hrs,hna⟩:=GO hF
 have hcode:=fj hfol c hc
 have hlen: ∀ {y},tB F ih fuel vs N H=y→y≠ .no→vs.length≤fn.ntmps∧(@Bool.rec (fun _=>Cr)
  (EK F (fun T N' H'=>@Option.rec (List XD) (fun _=>Cr) .no (fun ds=>.h (lk ds) N' H') (mu T H' F.rs)) (F.run ih fuel (jR vs 0 .e) N H))
  (EK F (fun T _ H'=>@Option.rec (List XD) (fun _=>Cr) .no (fun ds=>@Bool.rec (fun _=>Cr) .no (.p (lk ds)) (MP ds)) (mu T H' F.rs)) (F.run ih fuel (jR vs 0 .e) 0 .e))
  (bA F.pure (MM vs)))=y:=by
  intro y h hy
  unfold tB at h
  cases hl:K7 vs F.na with
  |false=>rw[hl] at h;exact absurd h.symm hy
  |true=>rw[hl] at h;exact⟨by rw[←hna];exact s6 _ _ hl,h⟩
 refine⟨fun x h=>?_,fun x N' H' h=>?_⟩
 ·obtain⟨hn,h⟩:=hlen h (by simp)
  cases hp:bA F.pure (MM vs) with
  |false=>
   rw[hp] at h
   obtain⟨e,T1,N1,H1,_,_,h⟩:=mC h (by simp)
   cases hd:mu T1 H1 F.rs with
   |none=>rw[hd] at h;cases h
   |some ds=>rw[hd] at h;cases h
  |true=>
   rw[hp] at h
   have hpu:=wO (uK hp).2
   obtain⟨e,T1,N1,H1,ho,he,h⟩:=mC h (by simp)
   cases hd:mu T1 H1 F.rs with
   |none=>rw[hd] at h;cases h
   |some ds=>
    rw[hd] at h
    dsimp only at h
    cases hq:MP ds with
    |false=>rw[hq] at h;cases h
    |true=>
     rw[hq] at h
     injection h with h
     subst h
     have hdo:=hcode ih hih fuel _ _ _ _ (wZ (m:=m) hvs) Ar AT ho
     have hdok:=(mN (n:=fn.ntmps) hdo.2.1 hdo.2.2.1 _ _ _ hrs hd).1
     refine⟨hcal,sx hdok,fun Z A β args w hZ hr=>?_⟩
     have hm:Mem Z (fun _=>False) (HS .e) β w:=⟨hZ,fun k hk=>absurd rfl hk,fun k hk=>hk.elim,fun k l hk=>absurd rfl hk,fun k hk=>absurd rfl hk,fun k U cs hk=>by cases hk⟩
     have hk1:Keep Z (Zs Z (HS .e) β) w w:=⟨Nat.le_refl _,fun _ _ _=>rfl,fun b _ hb=>by
      rcases hb with hb|⟨k,hk,_⟩
      ·exact hb
      ·exact absurd rfl hk⟩
     have hr2:sM (fun _=>False) (Zs Z (HS .e) β) w β args.toList vs:=⟨hr.1,fun j v x hv hx=>(hr.2 j v x hv hx).pure hk1 (hvs x (List.mem_of_getElem? hx)) (hpu x (List.mem_of_getElem? hx))⟩
     refine(rV hf hb hrs he hd hdo (V:=Z) (A:=fun _=>False) (β:=β) (fun k hk=>hk.elim) hm hr2 hn).mono fun e' w' hh=>?_
     obtain⟨v,A',β',rfl,_,_,hm',hh',us,hus,rfl⟩:=hh
     have hk2:Keep (Zs Z (HS H1) β') Z w' w':=⟨Nat.le_refl _,fun _ _ _=>rfl,fun b _ hb=>.inl hb⟩
     refine⟨_,rfl,fun A2 β2=>qb ⟨hus.1,fun j v d hv hd2=>(hus.2 j v d hv hd2).pure hk2 (hdok d (List.mem_of_getElem? hd2)) (xi hq d (List.mem_of_getElem? hd2))⟩,hh'.os,hh'.tape,hh'.output,hh'.size,fun k hk=>hh'.blk k hk fun j hj=>absurd rfl hj⟩
 ·obtain⟨hn,h⟩:=hlen h (by simp)
  cases hp:bA F.pure (MM vs) with
  |true=>
   rw[hp] at h
   obtain⟨e,T1,N1,H1,_,_,h⟩:=mC h (by simp)
   cases hd:mu T1 H1 F.rs with
   |none=>rw[hd] at h;cases h
   |some ds=>
    rw[hd] at h
    dsimp only at h
    cases hq:MP ds with
    |false=>rw[hq] at h;cases h
    |true=>rw[hq] at h;cases h
  |false=>
   rw[hp] at h
   obtain⟨e,T1,N1,H1,ho,he,h⟩:=mC h (by simp)
   cases hd:mu T1 H1 F.rs with
   |none=>rw[hd] at h;cases h
   |some ds=>
    rw[hd] at h
    injection h with h1 h2 h3
    subst h1 h2 h3
    have hdo:=hcode ih hih fuel _ _ _ _ (wZ (m:=m) hvs) hO hL ho
    have hdok:=(mN (n:=fn.ntmps) hdo.2.1 hdo.2.2.1 _ _ _ hrs hd).1
    refine⟨hdo.1,hcal,sx hdok,hdo.2.2.1,hdo.2.2.2.1,fun V A β args w hA hm hr=>?_⟩
    refine(rV hf hb hrs he hd hdo hA hm hr hn).mono fun e' w' hh=>?_
    obtain⟨v,A',β',rfl,g1,g2,hm',hh',us,hus,rfl⟩:=hh
    exact⟨_,A',β',rfl,g1,g2,hm',hh',qb hus⟩
structure EnvOk (P:Program) (E:Env):Prop where
 pr: ∀g p vs ds,E.pr.get g=some p→(∀v∈vs,sE v)→p vs=some ds→CallP P g vs (lk ds)
 fs: ∀g F,E.fs.get g=some (some F)→ ∃pu m fn,cF P pu m fn=some F∧P.funcs[g]? =some fn∧eg P g=true
theorem pS (hfol:P.follows .mixedOrders=true) {E:Env}(hE:EnvOk P E) {fuel:Nat}: ∀depth,ig P (Ah E fuel depth)
 |0=>fun f vs N H _ _ _=>⟨fun x h=>(by cases h),fun x N' H' h=>(by cases h)⟩
 |d+1=>fun f vs N H hvs hO hL=>by
  have e1:Ah E fuel (d+1) f vs N H= @Option.rec (List XD) (fun _=>Cr) (@Option.rec XF (fun _=>Cr) .no (fun F=>tB F (Ah E fuel d) fuel vs N H) (oO (E.fs.get f) fun x=>x)) (fun ds=>.p (lk ds)) (oO (E.pr.get f) fun p=>p vs):=rfl
  cases hp:(oO (E.pr.get f) fun p=>p vs) with
  |some ds=>
   rw[e1,hp]
   obtain⟨p,h1,h2⟩:=aK hp
   refine⟨fun x h=>?_,fun x N' H' h=>(by cases h)⟩
   injection h with h
   subst h
   exact hE.pr f p vs ds h1 hvs h2
  |none=>
   rw[e1,hp]
   cases hF:(oO (E.fs.get f) fun x=>x) with
   |none=>exact⟨fun x h=>(by cases h),fun x N' H' h=>(by cases h)⟩
   |some F=>
    obtain⟨y,h1,h2⟩:=aK hF
    subst h2
    obtain⟨pu,m,fn,h3,h4,h5⟩:=hE.fs f F h1
    exact xl hfol (pS hfol hE d) h3 h4 h5 hvs hO hL
end
section
variable {β:Type}
noncomputable def Pv (x:AV) (f:Nat→Option β):Option β:=@AV.rec (fun _=>Option β) (fun _=>none) (fun _ _=>none) f (fun _ _=>none) (fun _ _ _ _ _ _=>none) (f 0) none none (fun _=>none) (fun _ _ _ _=>none) x
noncomputable def aZ (s x:AV) (f:Int→Option β):Option β:=aB s fun b=>Pv x fun n=>@Bool.rec (fun _=>Option β) (f (.ofNat n)) (@Nat.rec (fun _=>Option β) none (fun m _=>f (.negSucc m)) n) b
noncomputable def aF (x:AV) (y:Option β):Option β:=aB x fun b=>@Bool.rec (fun _=>Option β) y none b
noncomputable def QN (r:Rp) (f:AV→Option β):Option β:=@Rp.rec (fun _=>Option β) none f (fun _ _ _ _ _ _=>none) r
noncomputable def r2 (r:Rp) (f:AV→AV→Option β):Option β:=@Rp.rec (fun _=>Option β) none (fun _=>none) (fun _ _ l r _ _=>QN l fun x=>QN r fun y=>f x y) r
end
noncomputable def c2 (r:Rp):Option (AV×AV):=@Option.rec (AV×AV) (fun _=>Option (AV×AV)) (oO (jU r 0) fun x=>oO (jU r 1) fun y=>some (x,y)) some (r2 r fun x y=>some (x,y))
noncomputable def QO (r:Rp):Option (AV×AV×AV×AV):=@Rp.rec (fun _=>Option (AV×AV×AV×AV)) none (fun _=>none) (fun _ _ l r _ _=>r2 l fun s x=>r2 r fun t y=>some (s,x,t,y)) r
noncomputable def c4 (r:Rp):Option (AV×AV×AV×AV):=@Option.rec (AV×AV×AV×AV) (fun _=>Option (AV×AV×AV×AV)) (oO (jU r 0) fun x=>oO (jU r 1) fun y=>oO (jU r 2) fun t=>oO (jU r 3) fun w=>some (x,y,t,w)) some (QO r)
noncomputable def Jx (n:Nat):Bool:=Nat.blt n 1000000000000000000000000000000000000000000000000000000000000000000000000
noncomputable def dZ {β:Type}(v:XV) (f:Int→Option β):Option β:=xA v fun n r=>bT (Nat.beq n 2) (oO (c2 r) fun p=>aZ p.1 p.2 fun z=>bT (Jx z.natAbs) (f z))
noncomputable def Px {β:Type}(v:XV) (f:Int→Nat→Option β):Option β:=xA v fun n r=>bT (Nat.beq n 4) (oO (c4 r) fun p=>aZ p.1 p.2.1 fun z=>aF p.2.2.1 (Pv p.2.2.2 fun d=>
 bT (Nat.blt 0 d) (bT (Nat.beq (Nat.gcd z.natAbs d) 1) (bT (Jx z.natAbs) (bT (Jx d) (f z d))))))
noncomputable def dW {β:Type}(v:XV) (f:Int→Option β):Option β:=xI v fun k x=>bT (Nat.beq (kN k) 3) (bI (nC x (-9223372036854775808)) none (bI (nC 9223372036854775807 x) none (f x)))
noncomputable def rZ (z:Int):Rp:=@Int.rec (fun _=>Rp) (fun n=>.n 1 true (.c (.b false)) (.c (.l n))) (fun n=>.n 1 true (.c (.b true)) (.c (.l (Nat.succ n)))) z
noncomputable def xZ (z:Int):XD:=.a 2 (rZ z)
noncomputable def xQ (z:Int) (d:Nat):XD:=.a 4 (.n 2 true (rZ z) (.n 1 true (.c (.b false)) (.c (.l d))))
noncomputable def QJ (z:Int) (g:Nat):Int:=@Int.rec (fun _=>Int) (fun n=>.ofNat (Nat.div n g)) (fun n=>Int.neg (.ofNat (Nat.div (Nat.succ n) g))) z
noncomputable def PT (z:Int) (d g:Nat):XD:=xQ (QJ z g) (Nat.div d g)
noncomputable def L3 (z:Int) (d:Nat):XD:=PT z d (Nat.gcd z.natAbs d)
noncomputable def La (y z:Int):Int:=@Int.rec (fun _=>Int) (fun _=>z) (fun _=>Int.neg z) y
noncomputable def xW (n:Int):XD:=.c (.i .i64 n)
noncomputable def zY (b:Bool):XD:=.c (.b b)
noncomputable def NC (x y:Int):Int:=bI (nC x y) (-1) (bI (nC y x) 1 0)
abbrev lA:=List XV→Option (List XD)
noncomputable def l1 (f:XV→Option (List XD)):lA:=fun vs=>@List.rec XV (fun _=>Option (List XD)) none (fun v r _=>@List.rec XV (fun _=>Option (List XD)) (f v) (fun _ _ _=>none) r) vs
noncomputable def l2 (f:XV→XV→Option (List XD)):lA:=fun vs=>@List.rec XV (fun _=>Option (List XD)) none (fun v r _=>@List.rec XV (fun _=>Option (List XD)) none (fun v2 r2 _=>@List.rec XV (fun _=>Option (List XD)) (f v v2) (fun _ _ _=>none) r2) r) vs
noncomputable def q1 (f:Int→Nat→Option (List XD)):lA:=l1 fun v=>Px v f
noncomputable def q2 (f:Int→Nat→Int→Nat→Option (List XD)):lA:=l2 fun v v2=>Px v fun a b=>Px v2 fun c d=>f a b c d
noncomputable def z1 (f:Int→Option (List XD)):lA:=l1 fun v=>dZ v f
noncomputable def z2 (f:Int→Int→Option (List XD)):lA:=l2 fun v v2=>dZ v fun a=>dZ v2 fun b=>f a b
noncomputable def w1 (f:Int→Option (List XD)):lA:=l1 fun v=>dW v f
noncomputable def PV (n:Nat) (k:Nat):Nat→Nat:=@Nat.rec (fun _=>Nat→Nat) (fun s=>s) (fun j ih s=>bI (Nat.ble (Nat.mul (Nat.add s (Nat.pow 2 j)) (Nat.add s (Nat.pow 2 j))) n) (ih (Nat.add s (Nat.pow 2 j))) (ih s)) k
noncomputable def QL (n s:Nat) (f:Nat→Option (List XD)):Option (List XD):=bT (Nat.ble (Nat.mul s s) n) (bT (Nat.blt n (Nat.mul (Nat.succ s) (Nat.succ s))) (f s))
noncomputable def JF (n:Nat) (f:Nat→Option (List XD)):Option (List XD):=QL n (PV n (Nat.succ (Nat.div (Nat.log2 n) 2)) 0) f
noncomputable def QW (z:Int) (f:Nat→Option (List XD)):Option (List XD):=@Int.rec (fun _=>Option (List XD)) (fun n=>JF n f) (fun _=>none) z
noncomputable def E5:lA:=q2 fun a b c d=>some [L3 (Int.add (Int.mul a d) (Int.mul c b)) (Nat.mul b d)]
noncomputable def DJ:lA:=q2 fun a b c d=>some [L3 (Int.sub (Int.mul a d) (Int.mul c b)) (Nat.mul b d)]
noncomputable def D8:lA:=q2 fun a b c d=>some [L3 (Int.mul a c) (Nat.mul b d)]
noncomputable def Kr:lA:=q2 fun a b c d=>bI (BD c 0) none (some [L3 (La c (Int.mul a d)) (Nat.mul b c.natAbs),xW 0])
noncomputable def EQ:lA:=q1 fun a b=>some [xQ (Int.neg a) b]
noncomputable def Gm:lA:=q2 fun a b c d=>some [xW (NC (Int.mul a d) (Int.mul c b))]
noncomputable def zw:lA:=q1 fun a _=>some [xW (NC a 0)]
noncomputable def zL:lA:=w1 fun a=>some [xQ a 1]
noncomputable def Bv:lA:=q1 fun a b=>some [xZ (@Int.rec (fun _=>Int) (fun n=>.ofNat (Nat.div n b)) (fun n=>.negSucc (Nat.div n b)) a)]
noncomputable def F7:lA:=z2 fun a b=>bI (BD b 0) none (some [L3 (La b a) b.natAbs,xW 0])
noncomputable def F3:lA:=q2 fun a b c d=>some [zY (bA (BD a c) (Nat.beq b d))]
noncomputable def GH (z w:Int):XD:=.a 4 (.n 2 true (rZ z) (rZ w))
noncomputable def y8:lA:=q1 fun a b=>@Int.rec (fun _=>Option (List XD)) (fun n=>JF n fun s=>JF b fun t=>bI (bA (Nat.beq (Nat.mul s s) n) (Nat.beq (Nat.mul t t) b)) (some [GH s t,zY true]) (some [GH 0 0,zY false])) (fun _=>some [GH 0 0,zY false]) a
noncomputable def AB:lA:=q1 fun _ _=>some [zY true]
noncomputable def KE:lA:=z2 fun a b=>some [xW (NC a b)]
noncomputable def Ed:lA:=w1 fun a=>some [xZ a]
noncomputable def J8:lA:=z1 fun a=>some [xZ (Int.neg a)]
noncomputable def Ks:lA:=z2 fun a b=>some [xZ (Int.mul a b)]
noncomputable def Kz:lA:=z2 fun a b=>some [xZ (Int.add a b)]
noncomputable def wS:lA:=z2 fun a b=>bI (BD b 0) none (some [xZ (Int.fdiv a b),xZ (Int.fmod a b),xW 0])
noncomputable def EO:lA:=z1 fun a=>QW a fun s=>some [xZ (.ofNat s),xW 0]
noncomputable def Bc:lA:=z1 fun a=>bI (nC a (-9223372036854775808)) none (bI (nC 9223372036854775807 a) none (some [xW a,zY true]))
section
variable {P:Program}
def AC (x:AV) (u:CellD):Prop:= ∀A Z w β v,RdA A Z w β v x→RdC Z w v u
def CA (u:CellD) (x:AV):Prop:= ∀A Z w β v,RdC Z w v u→RdA A Z w β v x
theorem AC.b (b:Bool):AC (.b b) (.b b):=fun A Z w β v h=>by
 cases h with
 |b=>exact .b b
 |f _ _ _ _ h1=>cases h1
theorem AC.i (k:IntKind) (n:Int):AC (.i k n) (.i k n):=fun A Z w β v h=>by
 cases h with
 |i=>exact .i k n
 |f _ _ _ _ h1=>cases h1
theorem AC.l (n:Nat):AC (.l n) (cL n):=fun A Z w β v h=>by
 cases h with
 |l _ _ h=>exact h
 |f _ _ _ _ h1=>cases h1
theorem IG:cL ((0:Nat):Int)=.s 0 []:=by
 have:cb (0:Nat)=[]:=by unfold cb;rfl
 show CellD.s (cb 0).length ((cb 0).map (CellD.i .u32))=_
 rw[this];rfl
theorem AC.z:AC .z (cL ((0:Nat):Int)):=fun A Z w β v h=>by
 cases h with
 |z=>rw[IG];exact .s0 none 0 (by omega)
 |f _ _ _ _ h1=>cases h1
theorem CA.b (b:Bool):CA (.b b) (.b b):=fun A Z w β v h=>by cases h with
 |b=>exact .b b
theorem CA.i (k:IntKind) (n:Int):CA (.i k n) (.i k n):=fun A Z w β v h=>by cases h with
 |i=>exact .i k n
theorem CA.l (n:Nat):CA (cL n) (.l n):=fun _A _Z _w _β v h=>.l v n h
def ACs:List AV→List CellD→Prop
 |[],[]=>True
 |x::xs,u::us=>AC x u∧ACs xs us
 |_,_=>False
def CAs:List CellD→List AV→Prop
 |[],[]=>True
 |u::us,x::xs=>CA u x∧CAs us xs
 |_,_=>False
theorem ACs.reads {A Z:Nat→Prop}{w:World}{β:Nat→Pl}: ∀ {xs:List AV}{us:List CellD}{vs:List Value},ACs xs us→RdAs A Z w β vs xs→RdCs Z w vs us
 |[],[],vs,_,h=>by
  have:vs=[]:=List.eq_nil_of_length_eq_zero h.1
  subst this;exact RdCs.nil
 |x::xs,y::us,[],_,h=>absurd h.1 (by simp)
 |x::xs,y::us,v::vs,hc,h=>by
  obtain⟨h1,h2⟩:=h.uncons
  exact RdCs.cons (hc.1 _ _ _ _ _ h1) (hc.2.reads h2)
 |[],_::_,_,hc,_=>hc.elim
 |_::_,[],_,hc,_=>hc.elim
theorem CAs.len: ∀ {us:List CellD}{xs:List AV},CAs us xs→us.length=xs.length
 |[],[],_=>rfl
 |_::us,_::xs,h=>by simp[h.2.len]
 |[],_::_,h=>h.elim
 |_::_,[],h=>h.elim
theorem CAs.at: ∀ {us:List CellD}{xs:List AV},CAs us xs→ ∀ {j:Nat}{x:AV},xs[j]? =some x→ ∃y,us[j]? =some y∧CA y x
 |[],[],_,j,x,h=>by simp at h
 |y::us,x0::xs,h,0,x,hx=>by simp at hx;subst hx;exact⟨y,rfl,h.1⟩
 |y::us,x0::xs,h,j+1,x,hx=>by simpa using h.2.at (by simpa using hx)
 |[],_::_,h,_,_,_=>h.elim
 |_::_,[],h,_,_,_=>h.elim
theorem CAs.reads {A Z:Nat→Prop}{w:World}{β:Nat→Pl}{us:List CellD}{xs:List AV}{vs:List Value}(hc:CAs us xs) (h:RdCs Z w vs us):RdAs A Z w β vs xs:=by
 refine⟨h.1.trans hc.len,fun j v x hv hx=>?_⟩
 obtain⟨y,h1,h2⟩:=hc.at hx
 exact h2 _ _ _ _ _ (h.2 j v y hv h1)
def Oo (x:XV) (d:D0):Prop:= ∀A Z w β v,RdX2 A Z w β v x→RdV Z w v d
def pc (d:D0) (x:XD):Prop:=rH x∧ ∀A Z w β v,RdV Z w v d→RdD A Z w β v x
def InL:List XV→List D0→Prop
 |[],[]=>True
 |x::xs,u::us=>Oo x u∧InL xs us
 |_,_=>False
def OutL:List D0→List XD→Prop
 |[],[]=>True
 |u::us,x::xs=>pc u x∧OutL us xs
 |_,_=>False
theorem InL.reads {A Z:Nat→Prop}{w:World}{β:Nat→Pl}: ∀ {xs:List XV}{us:List D0}{vs:List Value},InL xs us→sM A Z w β vs xs→RdL Z w vs us
 |[],[],vs,_,h=>by
  have:vs=[]:=List.eq_nil_of_length_eq_zero h.1
  subst this;exact RdL.nil
 |x::xs,y::us,[],_,h=>absurd h.1 (by simp)
 |x::xs,y::us,v::vs,hc,h=>by
  exact RdL.cons (hc.1 _ _ _ _ _ (h.2 0 v x rfl rfl)) (hc.2.reads (A:=A) (β:=β) ⟨by have:=h.1;simpa using this,fun j u z hu hz=>h.2 (j+1) u z (by simpa using hu) (by simpa using hz)⟩)
 |[],_::_,_,hc,_=>hc.elim
 |_::_,[],_,hc,_=>hc.elim
theorem OutL.ok: ∀ {us:List D0}{xs:List XD},OutL us xs→ ∀d∈xs,rH d
 |[],[],_,d,h=>by cases h
 |_::us,x::xs,h,d,hd=>by
  rcases List.mem_cons.1 hd with rfl|hd
  ·exact h.1.1
  ·exact h.2.ok d hd
 |[],_::_,h,_,_=>h.elim
 |_::_,[],h,_,_=>h.elim
theorem OutL.reads {A Z:Nat→Prop}{w:World}{β:Nat→Pl}: ∀ {us:List D0}{xs:List XD}{vs:List Value},OutL us xs→RdL Z w vs us→RdDs A Z w β vs xs
 |[],[],vs,_,h=>by
  have:vs=[]:=List.eq_nil_of_length_eq_zero h.1
  subst this;exact⟨rfl,fun j v d hv=>by simp at hv⟩
 |y::us,x::xs,[],_,h=>absurd h.1 (by simp)
 |y::us,x::xs,v::vs,hc,h=>by
  obtain⟨h1,h2⟩:=h.uncons
  have h3:=hc.2.reads (A:=A) (β:=β) h2
  refine⟨by simp[h3.1],fun j u d hu hd=>?_⟩
  cases j with
  |zero=>simp at hu hd;subst hu hd;exact hc.1.2 _ _ _ _ _ h1
  |succ j=>simp at hu hd;exact h3.2 j u d hu hd
 |[],_::_,_,hc,_=>hc.elim
 |_::_,[],_,hc,_=>hc.elim
theorem P8 {us:List D0}{xs:List XD}(hc:OutL us xs) {A Z:Nat→Prop}{w:World}{β:Nat→Pl}{v:Value}(h:J5 Z w v us):RdX2 A Z w β v (lk xs):=by
 match us,xs,hc,h with
 |[d],[x],hc,h=>exact pk.2 (hc.1.2 _ _ _ _ _ h)
 |[],[],hc,h=>
  obtain⟨vs,e,h⟩:=h
  exact⟨vs,e,hc.reads h⟩
 |d::d'::us,x::x'::xs,hc,h=>
  obtain⟨vs,e,h⟩:=h
  exact⟨vs,e,hc.reads h⟩
 |[],_::_,hc,_=>exact hc.elim
 |_::_,[],hc,_=>exact hc.elim
 |[d],x::x'::xs,hc,_=>exact hc.2.elim
 |d::d'::us,[x],hc,_=>exact hc.2.elim
theorem my {f:FuncId}{vs:List XV}{us rs:List D0}{xs:List XD}(hok:Ok P f us rs) (hi:InL vs us) (ho:OutL rs xs):CallP P f vs (lk xs):=by
 refine⟨hok.cal,sx ho.ok,fun Z A β args w hZ hr=>?_⟩
 refine(hok.run Z args w hZ (hi.reads hr)).mono fun e w' h=>?_
 obtain⟨v,rfl,h1,h2⟩:=h
 exact⟨v,rfl,fun A' β'=>P8 ho h1,h2⟩
theorem ww {β:Type}{x:AV}{f:Nat→Option β}{y:β}(h:Pv x f=some y): ∃n:Nat,AC x (cL n)∧f n=some y:=by
 cases x with
 |l n=>exact⟨n,AC.l n,h⟩
 |z=>exact⟨0,AC.z,h⟩
 |_=>cases h
theorem Ax {β:Type}{s x:AV}{f:Int→Option β}{y:β}(h:aZ s x f=some y): ∃z:Int,AC s (.b (decide (z<0)))∧AC x (cL z)∧f z=some y:=by
 obtain⟨b,rfl,h⟩:=qH h
 obtain⟨n,hn,h⟩:=ww h
 cases b with
 |false=>exact⟨(n:Int),by rw[show decide ((n:Int)<0)=false by simp];exact AC.b _,hn,h⟩
 |true=>
  cases n with
  |zero=>cases h
  |succ m=>
   refine⟨.negSucc m,by rw[show decide (Int.negSucc m<0)=true from decide_eq_true (Int.negSucc_lt_zero m)];exact AC.b _,?_,h⟩
   have:cL (Int.negSucc m)=cL ((m+1:Nat):Int):=by unfold cL;rfl
   rw[this];exact hn
theorem vc {β:Type}{r:Rp}{f:AV→AV→Option β}{y:β}(h:r2 r f=some y): ∃a b,r.flat=[a,b]∧f a b=some y:=by
 cases r with
 |n ls pu l r=>
  cases l with
  |c a=>
   cases r with
   |c b=>exact⟨a,b,rfl,h⟩
   |_=>cases h
  |_=>cases h
 |_=>cases h
theorem HP {r:Rp}{p:AV×AV}(hr:r.ok) (hl:r.flat.length=2) (h:c2 r=some p):r.flat=[p.1,p.2]:=by
 unfold c2 at h
 cases h1:(r2 r fun x y=>some (x,y)) with
 |some q=>
  rw[h1] at h
  injection h with h
  subst h
  obtain⟨a,b,e,h2⟩:=vc h1
  injection h2 with h2
  subst h2
  exact e
 |none=>
  rw[h1] at h
  obtain⟨x,hx,h⟩:=aK (show(oO (jU r 0) fun x=>oO (jU r 1) fun y=>some (x,y))=some p from h)
  obtain⟨y,hy,h⟩:=aK h
  injection h with h
  subst h
  rw[j8 _ _ hr] at hx hy
  match hf:r.flat,hl with
  |[a,b],_=>rw[hf] at hx hy;simp at hx hy;rw[hx,hy]
theorem Ji {r:Rp}{p:AV×AV×AV×AV}(hr:r.ok) (hl:r.flat.length=4) (h:c4 r=some p):r.flat=[p.1,p.2.1,p.2.2.1,p.2.2.2]:=by
 unfold c4 at h
 cases h1:QO r with
 |some q=>
  rw[h1] at h
  injection h with h
  subst h
  cases r with
  |n ls pu l r=>
   obtain⟨a,b,e1,h2⟩:=vc (show(r2 l fun s x=>r2 r fun t y=>some (s,x,t,y))=some q from h1)
   obtain⟨c,d,e2,h3⟩:=vc h2
   injection h3 with h3
   subst h3
   show l.flat++r.flat=_
   rw[e1,e2];rfl
  |_=>cases h1
 |none=>
  rw[h1] at h
  obtain⟨x,hx,h⟩:=aK (show(oO (jU r 0) fun x=>oO (jU r 1) fun y=>oO (jU r 2) fun t=>oO (jU r 3) fun w=>some (x,y,t,w))=some p from h)
  obtain⟨y,hy,h⟩:=aK h
  obtain⟨t,ht,h⟩:=aK h
  obtain⟨w,hw,h⟩:=aK h
  injection h with h
  subst h
  rw[j8 _ _ hr] at hx hy ht hw
  match hf:r.flat,hl with
  |[a,b,c,d],_=>rw[hf] at hx hy ht hw;simp at hx hy ht hw;rw[hx,hy,ht,hw]
theorem QH {n:Nat}{r:Rp}{us:List CellD}(h:ACs r.flat us):Oo (.a n r) (.a us):=fun A Z w β v hv=>by
 obtain⟨cs,e,hr⟩:=hv
 exact⟨cs,e,h.reads hr⟩
theorem vn {β:Type}{v:XV}{f:Int→Option β}{y:β}(hv:sE v) (h:dZ v f=some y): ∃z:Int,Oo v (dI z)∧Jx z.natAbs=true∧f z=some y:=by
 cases v with
 |a n r=>
  obtain⟨hn,h⟩:=bo (show bT (Nat.beq n 2) (oO (c2 r) fun p=>aZ p.1 p.2 fun z=>bT (Jx z.natAbs) (f z))=some y from h)
  obtain⟨p,hp,h⟩:=aK h
  obtain⟨z,h1,h2,h⟩:=Ax h
  obtain⟨h3,h⟩:=bo h
  have hn:=Nat.eq_of_beq_eq_true hn
  have hf:=HP hv.1 (by rw[←hv.2];exact hn) hp
  exact⟨z,QH (by rw[hf];exact⟨h1,h2,trivial⟩),h3,h⟩
 |_=>cases h
end
section
variable {P:Program}{g:FuncId}
theorem sh {k:Nat}(hk:8≤k) {z:Int}(h:Jx z.natAbs=true):Sz k z:=by
 have h1:z.natAbs<1000000000000000000000000000000000000000000000000000000000000000000000000:=bU.1 h
 have h2:=iO hk
 have e:pw 8=1000000000000000000000000000000000000000000000000000000000000000000000000:=by decide+kernel
 rw[e] at h2
 exact⟨by omega,by omega⟩
theorem rU {β:Type}{v:XV}{f:Int→Nat→Option β}{y:β}(hv:sE v) (h:Px v f=some y): ∃x:Rat,Oo v (dR x)∧Rz 300 x∧f x.num x.den=some y:=by
 cases v with
 |a n r=>
  obtain⟨hn,h⟩:=bo (show bT (Nat.beq n 4) (oO (c4 r) fun p=>aZ p.1 p.2.1 fun z=>aF p.2.2.1 (Pv p.2.2.2 fun d=>
   bT (Nat.blt 0 d) (bT (Nat.beq (Nat.gcd z.natAbs d) 1) (bT (Jx z.natAbs) (bT (Jx d) (f z d))))))=some y from h)
  obtain⟨p,hp,h⟩:=aK h
  obtain⟨z,h1,h2,h⟩:=Ax h
  obtain⟨b,hb,h⟩:=qH h
  cases b with
  |true=>cases h
  |false=>
   obtain⟨d,hd,h⟩:=ww h
   obtain⟨g1,h⟩:=bo h
   obtain⟨g2,h⟩:=bo h
   obtain⟨g3,h⟩:=bo h
   obtain⟨g4,h⟩:=bo h
   have hn:=Nat.eq_of_beq_eq_true hn
   have hf:=Ji hv.1 (by rw[←hv.2];exact hn) hp
   have hd0:0<d:=bU.1 g1
   have hg:Nat.gcd z.natAbs d=1:=Nat.eq_of_beq_eq_true g2
   refine⟨⟨z,d,by omega,hg⟩,QH (by
    rw[hf]
    refine⟨h1,h2,?_,hd,trivial⟩
    rw[hb,show decide (((d:Nat):Int)<0)=false by simp]
    exact AC.b _),⟨sh (by decide) g3,sh (by decide) (by simpa using g4)⟩,h⟩
 |_=>cases h
theorem IK {β:Type}{v:XV}{f:Int→Option β}{y:β}(h:dW v f=some y): ∃x:Int,Oo v (.c (.i .i64 x))∧ -9223372036854775808≤x∧x≤9223372036854775807∧f x=some y:=by
 obtain⟨k,x,rfl,h3⟩:=gN (show xI v (fun k x=>bT (Nat.beq (kN k) 3) (bI (nC x (-9223372036854775808)) none (bI (nC 9223372036854775807 x) none (f x))))=some y from h)
 obtain⟨hk,h4⟩:=bo h3
 have hk:k=.i64:=by cases k<;>first|rfl|cases hk
 subst hk
 cases h1:nC x (-9223372036854775808) with
 |true=>rw[h1] at h4;cases h4
 |false=>
  rw[h1] at h4
  have h5:bI (nC 9223372036854775807 x) none (f x)=some y:=h4
  cases h2:nC 9223372036854775807 x with
  |true=>rw[h2] at h5;cases h5
  |false=>
   rw[h2] at h5
   rw[gZ] at h1 h2
   simp only[decide_eq_false_iff_not] at h1 h2
   exact⟨x,fun A Z w β v hv=>AC.i _ _ _ _ _ _ _ hv,by omega,by omega,h5⟩
theorem vH {f:XV→Option (List XD)}{vs:List XV}{ds:List XD}(h:l1 f vs=some ds): ∃v,vs=[v]∧f v=some ds:=by
 match vs,h with
 |[v],h=>exact⟨v,rfl,h⟩
theorem Ay {f:XV→XV→Option (List XD)}{vs:List XV}{ds:List XD}(h:l2 f vs=some ds): ∃v v2,vs=[v,v2]∧f v v2=some ds:=by
 match vs,h with
 |[v,v2],h=>exact⟨v,v2,rfl,h⟩
def gR (P:Program) (g:FuncId) (p:lA):Prop:= ∀vs ds,(∀v∈vs,sE v)→p vs=some ds→CallP P g vs (lk ds)
theorem yl {f:Int→Nat→Option (List XD)}(h: ∀(x:Rat) ds,Rz 300 x→f x.num x.den=some ds→ ∃rs,Ok P g [dR x] rs∧OutL rs ds):gR P g (q1 f):=fun vs ds hvs hp=>by
 obtain⟨v,rfl,h1⟩:=vH hp
 obtain⟨x,i1,s1,h1⟩:=rU (hvs v (by simp)) h1
 obtain⟨rs,ho,hl⟩:=h x ds s1 h1
 exact my ho ⟨i1,trivial⟩ hl
theorem tJ {f:Int→Nat→Int→Nat→Option (List XD)}(h: ∀(x y:Rat) ds,Rz 300 x→Rz 300 y→f x.num x.den y.num y.den=some ds→ ∃rs,Ok P g [dR x,dR y] rs∧OutL rs ds):gR P g (q2 f):=fun vs ds hvs hp=>by
 obtain⟨v,v2,rfl,h1⟩:=Ay hp
 obtain⟨x,i1,s1,h1⟩:=rU (hvs v (by simp)) h1
 obtain⟨y,i2,s2,h1⟩:=rU (hvs v2 (by simp)) h1
 obtain⟨rs,ho,hl⟩:=h x y ds s1 s2 h1
 exact my ho ⟨i1,i2,trivial⟩ hl
theorem Ge {f:Int→Option (List XD)}(h: ∀(x:Int) ds,(∀k,8≤k→Sz k x)→f x=some ds→ ∃rs,Ok P g [dI x] rs∧OutL rs ds):gR P g (z1 f):=fun vs ds hvs hp=>by
 obtain⟨v,rfl,h1⟩:=vH hp
 obtain⟨x,i1,s1,h1⟩:=vn (hvs v (by simp)) h1
 obtain⟨rs,ho,hl⟩:=h x ds (fun k hk=>sh hk s1) h1
 exact my ho ⟨i1,trivial⟩ hl
theorem wd {f:Int→Int→Option (List XD)}(h: ∀(x y:Int) ds,(∀k,8≤k→Sz k x)→(∀k,8≤k→Sz k y)→f x y=some ds→ ∃rs,Ok P g [dI x,dI y] rs∧OutL rs ds):gR P g (z2 f):=fun vs ds hvs hp=>by
 obtain⟨v,v2,rfl,h1⟩:=Ay hp
 obtain⟨x,i1,s1,h1⟩:=vn (hvs v (by simp)) h1
 obtain⟨y,i2,s2,h1⟩:=vn (hvs v2 (by simp)) h1
 obtain⟨rs,ho,hl⟩:=h x y ds (fun k hk=>sh hk s1) (fun k hk=>sh hk s2) h1
 exact my ho ⟨i1,i2,trivial⟩ hl
theorem JA {f:Int→Option (List XD)}(h: ∀(x:Int) ds,-9223372036854775808≤x→x≤9223372036854775807→f x=some ds→ ∃rs,Ok P g [.c (.i .i64 x)] rs∧OutL rs ds):gR P g (w1 f):=fun vs ds hvs hp=>by
 obtain⟨v,rfl,h1⟩:=vH hp
 obtain⟨x,i1,a1,b1,h1⟩:=IK h1
 obtain⟨rs,ho,hl⟩:=h x ds a1 b1 h1
 exact my ho ⟨i1,trivial⟩ hl
theorem Am (n:Int):pc (.c (.i .i64 n)) (xW n):=⟨trivial,fun _A _Z _w _β _v h=>CA.i _ _ _ _ _ _ _ h⟩
theorem xx (b:Bool):pc (.c (.b b)) (zY b):=⟨trivial,fun _A _Z _w _β _v h=>CA.b _ _ _ _ _ _ h⟩
theorem ux (z:Int):(rZ z).ok∧CAs (cI z) (rZ z).flat∧(rZ z).flat.length=2∧ ∀x∈(rZ z).flat,MU x=true:=by
 cases z with
 |ofNat n=>exact⟨⟨rfl,trivial,trivial,fun _ x hx=>by rcases List.mem_cons.1 hx with rfl|hx;rfl;rw[List.mem_singleton.1 hx];rfl⟩,⟨by rw[show decide (Int.ofNat n<0)=false by simp];exact CA.b _,CA.l n,trivial⟩,rfl,fun x hx=>by rcases List.mem_cons.1 hx with rfl|hx;rfl;rw[List.mem_singleton.1 hx];rfl⟩
 |negSucc n=>exact⟨⟨rfl,trivial,trivial,fun _ x hx=>by rcases List.mem_cons.1 hx with rfl|hx;rfl;rw[List.mem_singleton.1 hx];rfl⟩,⟨by rw[show decide (Int.negSucc n<0)=true from decide_eq_true (Int.negSucc_lt_zero n)];exact CA.b _,(by
   have:cL (Int.negSucc n)=cL ((n+1:Nat):Int):=by unfold cL;rfl
   rw[this];exact CA.l _),trivial⟩,rfl,fun x hx=>by rcases List.mem_cons.1 hx with rfl|hx;rfl;rw[List.mem_singleton.1 hx];rfl⟩
theorem JB {us:List CellD}{n:Nat}{r:Rp}(h1:r.ok) (h2:n=r.flat.length) (h:CAs us r.flat):pc (.a us) (.a n r):=⟨⟨h1,h2⟩,fun A Z w β v hv=>by
 obtain⟨cs,e,hr⟩:=hv
 exact⟨cs,e,h.reads hr⟩⟩
theorem se (z:Int):pc (dI z) (xZ z):=by
 obtain⟨h1,h2,h3,_⟩:=ux z
 exact JB h1 h3.symm h2
theorem CAs.append: ∀ {us us':List CellD}{xs xs':List AV},CAs us xs→CAs us' xs'→CAs (us++us') (xs++xs')
 |[],_,[],_,_,h=>h
 |_::_,_,_::_,_,h,h'=>⟨h.1,h.2.append h'⟩
 |[],_,_::_,_,h,_=>h.elim
 |_::_,_,[],_,h,_=>h.elim
theorem D6 (z t:Int):pc (dQ z t) (GH z t):=by
 obtain⟨h1,h2,h3,h4⟩:=ux z
 obtain⟨g1,g2,g3,g4⟩:=ux t
 refine JB (r:=.n 2 true (rZ z) (rZ t)) ⟨h3.symm,h1,g1,fun _ x hx=>?_⟩ ?_ (h2.append g2)
 ·rcases List.mem_append.1 hx with hx|hx
  ·exact h4 x hx
  ·exact g4 x hx
 ·show 4=((rZ z).flat++(rZ t).flat).length
  simp[h3,g3]
theorem FY {x:Rat}{n:Int}{d:Nat}(hn:x.num=n) (hd:x.den=d):pc (dR x) (xQ n d):=by
 subst hn hd
 exact D6 x.num (x.den:Int)
theorem LN {z:Int}{g:Nat}(hg:(g:Int)∣z):QJ z g=z/g:=by
 cases z with
 |ofNat n=>rfl
 |negSucc n=>
  show-((((n+1)/g:Nat):Int))=_
  obtain⟨c,hc⟩:=hg
  by_cases h0:g=0
  ·subst h0;simp at hc
  ·have h1:((n+1:Nat):Int)=g*(-c):=by rw[Int.mul_neg,←hc];rfl
   rw[hc,Int.mul_ediv_cancel_left _ (by omega),Int.natCast_ediv,h1,Int.mul_ediv_cancel_left _ (by omega),Int.neg_neg]
theorem rG (n:Int) {d:Nat}(hd:d≠0):pc (dR (mkRat n d)) (L3 n d):=by
 refine FY ?_ ?_
 ·rw[Rat.num_mkRat,if_neg hd,Nat.gcd_comm]
  exact(LN (Int.ofNat_dvd_left.2 (Nat.gcd_dvd_left _ _))).symm
 ·rw[Rat.den_mkRat,if_neg hd,Nat.gcd_comm]
  rfl
theorem DU (h: ∀ {x y:Rat},Rz 300 x→Rz 300 y→Ok P g [dR x,dR y] [dR (x+y)]):gR P g E5:=tJ fun x y ds hx hy hd=>by
 injection hd with hd
 subst hd
 exact⟨_,h hx hy,by rw[Rat.add_def'];exact rG _ (Nat.mul_ne_zero x.den_nz y.den_nz),trivial⟩
theorem FE (h: ∀ {x y:Rat},Rz 300 x→Rz 300 y→Ok P g [dR x,dR y] [dR (x-y)]):gR P g DJ:=tJ fun x y ds hx hy hd=>by
 injection hd with hd
 subst hd
 exact⟨_,h hx hy,by rw[Rat.sub_def'];exact rG _ (Nat.mul_ne_zero x.den_nz y.den_nz),trivial⟩
theorem DS (h: ∀ {x y:Rat},Rz 300 x→Rz 300 y→Ok P g [dR x,dR y] [dR (x*y)]):gR P g D8:=tJ fun x y ds hx hy hd=>by
 injection hd with hd
 subst hd
 exact⟨_,h hx hy,by rw[Rat.mul_def'];exact rG _ (Nat.mul_ne_zero x.den_nz y.den_nz),trivial⟩
theorem EH (h: ∀ {x:Rat},Rz 300 x→Ok P g [dR x] [dR (-x)]):gR P g EQ:=yl fun x ds hx hd=>by
 injection hd with hd
 subst hd
 exact⟨_,h hx,FY rfl rfl,trivial⟩
theorem DE (h: ∀ {x:Rat},Rz 300 x→Ok P g [dR x] [.c (.b true)]):gR P g AB:=yl fun x ds hx hd=>by
 injection hd with hd
 subst hd
 exact⟨_,h hx,xx true,trivial⟩
end
section
variable {P:Program}{g:FuncId}
theorem zT (x y:Int):NC x y=cK x y:=by
 unfold NC cK
 rw[gZ,gZ]
 by_cases h:x<y
 ·rw[decide_eq_true h,if_pos h];rfl
 ·rw[decide_eq_false h,if_neg h]
  by_cases h2:y<x
  ·rw[decide_eq_true h2,if_pos h2];rfl
  ·rw[decide_eq_false h2,if_neg h2];rfl
theorem q9 {a b:Int}(h:a=b):pc (.c (.i .i64 a)) (xW b):=by subst h;exact Am a
theorem Gg {a b:Bool}(h:a=b):pc (.c (.b a)) (zY b):=by subst h;exact xx a
theorem F2 {a b:Int}(h:a=b):pc (dI a) (xZ b):=by subst h;exact se a
theorem FH (h: ∀ {x y:Rat},Rz 300 x→Rz 300 y→Ok P g [dR x,dR y] [.c (.i .i64 (bd x y))]):gR P g Gm:=tJ fun x y ds hx hy hd=>by
 injection hd with hd
 subst hd
 exact⟨_,h hx hy,q9 (by rw[zT];exact kL.symm),trivial⟩
theorem AN (h: ∀ {x:Rat},Ok P g [dR x] [.c (.i .i64 (bd x 0))]):gR P g zw:=yl fun x ds hx hd=>by
 injection hd with hd
 subst hd
 exact⟨_,h,q9 (by rw[zT,←mB]),trivial⟩
theorem BN (h: ∀ {n:Int},-9223372036854775808≤n→n≤9223372036854775807→Ok P g [.c (.i .i64 n)] [dR (n:Rat)]):gR P g zL:=JA fun x ds h1 h2 hd=>by
 injection hd with hd
 subst hd
 exact⟨_,h h1 h2,FY rfl rfl,trivial⟩
theorem IX (h: ∀ {x y:Int},Sz 1000000 x→Sz 1000000 y→Ok P g [dI x,dI y] [.c (.i .i64 (cK x y))]):gR P g KE:=wd fun x y ds hx hy hd=>by
 injection hd with hd
 subst hd
 exact⟨_,h (hx _ (by decide)) (hy _ (by decide)),q9 (zT _ _).symm,trivial⟩
theorem EP (h: ∀ {x:Int},-9223372036854775808≤x→x≤9223372036854775807→Ok P g [.c (.i .i64 x)] [dI x]):gR P g Ed:=JA fun x ds h1 h2 hd=>by
 injection hd with hd
 subst hd
 exact⟨_,h h1 h2,se _,trivial⟩
theorem I2 (h: ∀ {x:Int},Sz 1000000 x→Ok P g [dI x] [dI (-x)]):gR P g J8:=Ge fun x ds hx hd=>by
 injection hd with hd
 subst hd
 exact⟨_,h (hx _ (by decide)),se _,trivial⟩
theorem G1 (h: ∀ {x y:Int},Sz 400000 x→Sz 400000 y→Ok P g [dI x,dI y] [dI (x*y)]):gR P g Ks:=wd fun x y ds hx hy hd=>by
 injection hd with hd
 subst hd
 exact⟨_,h (hx _ (by decide)) (hy _ (by decide)),se _,trivial⟩
theorem Jr (h: ∀ {x y:Int},Sz 900000 x→Sz 900000 y→Ok P g [dI x,dI y] [dI (x+y)]):gR P g Kz:=wd fun x y ds hx hy hd=>by
 injection hd with hd
 subst hd
 exact⟨_,h (hx _ (by decide)) (hy _ (by decide)),se _,trivial⟩
theorem zH (h: ∀ {x y:Int},Sz 1000 x→Sz 1000 y→y≠0→Ok P g [dI x,dI y] [dI (x.fdiv y),dI (x.fmod y),.c (.i .i64 0)]):gR P g wS:=wd fun x y ds hx hy hd=>by
 cases h0:BD y 0 with
 |true=>rw[h0] at hd;cases hd
 |false=>
  rw[h0] at hd
  injection hd with hd
  subst hd
  have hy0:y≠0:=fun e=>by subst e;cases h0
  exact⟨_,h (hx _ (by decide)) (hy _ (by decide)) hy0,se _,se _,Am 0,trivial⟩
end
section
variable {P:Program}{g:FuncId}
theorem tR (x y:Int):Rat.divInt x y=mkRat (La y x) y.natAbs:=by
 cases y with
 |ofNat n=>rfl
 |negSucc n=>exact Rat.normalize_eq_mkRat (num:= -x) (den:=n.succ) (by omega)
theorem yu {y:Int}(h:BD y 0=false):y≠0:=fun e=>by subst e;cases h
theorem Le {x y:Int}(h:y≠0):pc (dR (Rat.divInt x y)) (L3 (La y x) y.natAbs):=by
 rw[tR];exact rG _ (by omega)
theorem Je (h: ∀ {x y:Int},Sz 999 x→Sz 999 y→y≠0→Ok P g [dI x,dI y] [dR (Rat.divInt x y),.c (.i .i64 0)]):gR P g F7:=wd fun x y ds hx hy hd=>by
 cases h0:BD y 0 with
 |true=>rw[h0] at hd;cases hd
 |false=>
  rw[h0] at hd
  injection hd with hd
  subst hd
  exact⟨_,h (hx _ (by decide)) (hy _ (by decide)) (yu h0),Le (yu h0),Am 0,trivial⟩
theorem IF (c a d:Int):La c (a*d)=a*La c d:=by
 cases c with
 |ofNat n=>rfl
 |negSucc n=>exact(Int.mul_neg a d).symm
theorem LR (x y:Rat):x/y=mkRat (La y.num (x.num*(y.den:Int))) (x.den*y.num.natAbs):=by
 rw[Rat.div_def,Rat.inv_def,tR,IF,←Rat.mkRat_mul_mkRat,Rat.mkRat_self]
theorem Ld (h: ∀ {x y:Rat},Rz 300 x→Rz 300 y→y≠0→Ok P g [dR x,dR y] [dR (x/y),.c (.i .i64 0)]):gR P g Kr:=tJ fun x y ds hx hy hd=>by
 cases h0:BD y.num 0 with
 |true=>rw[h0] at hd;cases hd
 |false=>
  rw[h0] at hd
  injection hd with hd
  subst hd
  have hn:=yu h0
  have hy0:y≠0:=fun e=>hn (by subst e;rfl)
  exact⟨_,h hx hy hy0,by rw[LR];exact rG _ (Nat.mul_ne_zero x.den_nz (by omega)),Am 0,trivial⟩
theorem Hh (h: ∀ {x y:Rat},Rz 300 x→Rz 300 y→Ok P g [dR x,dR y] [.c (.b (decide (x=y)))]):gR P g F3:=tJ fun x y ds hx hy hd=>by
 injection hd with hd
 subst hd
 refine⟨_,h hx hy,Gg ?_,trivial⟩
 rw[rj]
 by_cases e:x=y
 ·subst e;simp[bA]
 ·rw[decide_eq_false e]
  cases h1:(x.num==y.num) with
  |false=>rfl
  |true=>
   cases h2:Nat.beq x.den y.den with
   |false=>rfl
   |true=>exact absurd (Rat.ext (by simpa using h1) (Nat.eq_of_beq_eq_true h2)) e
theorem Fr (a:Int) {b:Nat}(hb:b≠0):a.fdiv (b:Int)= @Int.rec (fun _=>Int) (fun n=>.ofNat (Nat.div n b)) (fun n=>.negSucc (Nat.div n b)) a:=by
 cases b with
 |zero=>exact absurd rfl hb
 |succ b=>
  cases a with
  |ofNat n=>
   cases n with
   |zero=>show(0:Int)=Int.ofNat (0/(b+1));simp
   |succ n=>rfl
  |negSucc n=>rfl
theorem ET (h: ∀ {x:Rat},Rz 300 x→Ok P g [dR x] [dI (x.num.fdiv (x.den:Int))]):gR P g Bv:=yl fun x ds hx hd=>by
 injection hd with hd
 subst hd
 exact⟨_,h hx,F2 (Fr _ x.den_nz),trivial⟩
end
section
variable {P:Program}{g:FuncId}
theorem rz {n:Nat}{f:Nat→Option (List XD)}{ds:List XD}(h:JF n f=some ds): ∃s:Nat,bE (n:Int)=(s:Int)∧f s=some ds:=by
 unfold JF QL at h
 obtain⟨h1,h2⟩:=bo h
 obtain⟨h3,h4⟩:=bo h2
 refine⟨_,pX (by omega) (by omega) ?_ ?_,h4⟩
 ·have:=Nat.le_of_ble_eq_true h1;exact_mod_cast this
 ·have:=bU.1 h3;exact_mod_cast this
theorem EY (h: ∀ {x:Int},Sz 999 x→Ok P g [dI x] [dI (bE x),.c (.i .i64 (if x<0 then 7 else 0))]):gR P g EO:=Ge fun x ds hx hd=>by
 cases x with
 |negSucc n=>cases hd
 |ofNat n=>
  obtain⟨s,h1,h2⟩:=rz (show JF n (fun s=>some [xZ (.ofNat s),xW 0])=some ds from hd)
  injection h2 with h2
  subst h2
  exact⟨_,h (hx _ (by decide)),F2 h1,q9 (if_neg (by simp)),trivial⟩
theorem AI {n s:Nat}(h:bE (n:Int)=(s:Int)):sQ (n:Int)=Nat.beq (Nat.mul s s) n:=by
 unfold sQ
 rw[h]
 cases hb:Nat.beq (Nat.mul s s) n with
 |true=>
  have:=Nat.eq_of_beq_eq_true hb
  rw[beq_iff_eq];exact_mod_cast this
 |false=>
  have:=Nat.ne_of_beq_eq_false hb
  rw[beq_eq_false_iff_ne];exact fun e=>this (by exact_mod_cast e)
theorem vk {z t z' t':Int}(h1:z=z') (h2:t=t'):pc (dQ z t) (GH z' t'):=by subst h1 h2;exact D6 z t
theorem AG (h: ∀ {x:Rat},Rz 300 x→Ok P g [dR x] [dQ (if iX x then bE x.num else 0) (if iX x then bE (x.den:Int) else 0),.c (.b (iX x))]):gR P g y8:=yl fun x ds hx hd=>by
 refine⟨_,h hx,?_⟩
 cases hn:x.num with
 |negSucc n=>
  rw[hn] at hd
  have hd:some [GH 0 0,zY false]=some ds:=hd
  injection hd with hd
  subst hd
  have hs:iX x=false:=by unfold iX;rw[hn,uI (Int.negSucc_lt_zero n)];rfl
  rw[hs]
  exact⟨vk (if_neg (by simp)) (if_neg (by simp)),xx false,trivial⟩
 |ofNat n=>
  rw[hn] at hd
  obtain⟨s,h1,h2⟩:=rz (show JF n (fun s=>JF x.den fun t=>bI (bA (Nat.beq (Nat.mul s s) n) (Nat.beq (Nat.mul t t) x.den)) (some [GH s t,zY true]) (some [GH 0 0,zY false]))=some ds from hd)
  obtain⟨t,h3,h4⟩:=rz h2
  have hs:iX x=bA (Nat.beq (Nat.mul s s) n) (Nat.beq (Nat.mul t t) x.den):=by
   unfold iX
   rw[hn,show Int.ofNat n=(n:Int) from rfl,AI h1,AI h3]
   cases Nat.beq (Nat.mul s s) n<;>rfl
  cases hb:bA (Nat.beq (Nat.mul s s) n) (Nat.beq (Nat.mul t t) x.den) with
  |true=>
   rw[hb] at h4 hs
   have h4:some [GH s t,zY true]=some ds:=h4
   injection h4 with h4
   subst h4
   rw[hs]
   exact⟨vk ((if_pos rfl).trans h1) ((if_pos rfl).trans h3),xx true,trivial⟩
  |false=>
   rw[hb] at h4 hs
   have h4:some [GH 0 0,zY false]=some ds:=h4
   injection h4 with h4
   subst h4
   rw[hs]
   exact⟨vk (if_neg (by simp)) (if_neg (by simp)),xx false,trivial⟩
end
noncomputable def QP (P:Program) (r:Nat×Bool×Nat):Option XF:=match P.funcs[r.1]? with
 |some fn=>cF P r.2.1 r.2.2 fn
 |none=>none
noncomputable def JZ (P:Program) (ps:List (Nat×lA)) (rs:List (Nat×Bool×Nat)):Env:=⟨Ek ps,Ek (rs.map fun r=>(r.1,QP P r))⟩
def PrAll (P:Program):List (Nat×lA)→Prop
 |[]=>True
 |p::r=>gR P p.1 p.2∧PrAll P r
theorem PrAll.get {P:Program}: ∀ {l:List (Nat×lA)},PrAll P l→ ∀ {k:Nat}{p:lA},(k,p)∈l→gR P k p
 |[],_,_,_,h=>by cases h
 |q::r,hl,k,p,h=>by
  rcases List.mem_cons.1 h with e|h
  ·have h1:=hl.1
   rw[←e] at h1;exact h1
  ·exact hl.2.get h
theorem Dn {P:Program}{ps:List (Nat×lA)}{rs:List (Nat×Bool×Nat)}(hp:PrAll P ps) (hc:(rs.all fun r=>eg P r.1)=true):EnvOk P (JZ P ps rs):=by
 refine⟨fun g p vs ds hg hv hd=>hp.get (r7 ps g hg) vs ds hv hd,fun g F hg=>?_⟩
 have hm:=r7 _ g hg
 obtain⟨r,hr,e⟩:=List.mem_map.1 hm
 injection e with e1 e2
 have hcal:eg P g=true:=by rw[←e1];exact List.all_eq_true.1 hc r hr
 unfold QP at e2
 rw[e1] at e2
 cases hf:P.funcs[g]? with
 |none=>rw[hf] at e2;cases e2
 |some fn=>rw[hf] at e2;exact⟨r.2.1,r.2.2,fn,e2,rfl,hcal⟩
theorem Fx {P:Program}{E:Env}(hfol:P.follows .mixedOrders=true) (hE:EnvOk P E) {fuel depth f:Nat}{v:Bool}(h:Ah E fuel depth f [] 0 .e=.p (.c (.b v))):Ok P f [] [.c (.b v)]:=by
 have hc:=((pS hfol hE depth) f [] 0 .e (fun v hv=>by cases hv) Ar AT).1 _ h
 refine⟨hc.cal,fun av vs w hav hr=>?_⟩
 have hn:vs.toList=[]:=List.eq_nil_of_length_eq_zero hr.1
 refine(hc.run av (fun _=>False) (fun _=>⟨0,0⟩) vs w hav (by rw[hn];exact⟨rfl,fun j v x hv=>by simp at hv⟩)).mono fun e w' ⟨v',h1,h2,h3⟩=>?_
 refine⟨v',h1,?_,h3⟩
 have h4:RdA (fun _=>False) av w' (fun _=>⟨0,0⟩) v' (.b v):=h2 _ _
 exact AC.b v _ _ _ _ _ h4
section
variable {P:Program}{g:FuncId}
theorem En (h: ∀ {x:Int},Sz 1000000 x→Ok P g [dI x] [.c (.i .i64 (if mA x then x else 0)),.c (.b (mA x))]):gR P g Bc:=Ge fun x ds hx hd=>by
 have hd:bI (nC x (-9223372036854775808)) none (bI (nC 9223372036854775807 x) none (some [xW x,zY true]))=some ds:=hd
 rw[eP,eP,gZ,gZ] at hd
 by_cases h1:x< -9223372036854775808
 ·rw[decide_eq_true h1,if_pos rfl] at hd;cases hd
 ·rw[decide_eq_false h1,if_neg (by decide)] at hd
  by_cases h2:9223372036854775807<x
  ·rw[decide_eq_true h2,if_pos rfl] at hd;cases hd
  ·rw[decide_eq_false h2,if_neg (by decide)] at hd
   injection hd with hd
   subst hd
   have hf:=yS h1 h2
   exact⟨_,h (hx _ (by decide)),q9 (by rw[hf];exact if_pos rfl),Gg hf,trivial⟩
end
noncomputable def oT:List (Nat×lA):=[(164,E5),(84,DJ),(85,D8),(83,Kr),(102,EQ),(120,Gm),(93,zw),(87,zL),(315,Bv),(339,F7),(165,y8),(144,E5),(145,DJ),(69,D8),(196,EQ),(139,Gm),(71,zw),(28,zL),(58,F3),(193,y8),(205,AB),(211,KE),(168,Ed),(189,J8),(163,Ks),(246,Kz),(310,wS),(313,EO),(314,Bc)]
def vz:List (Nat×Bool×Nat):=[(11,true,32760),(13,false,143973926601472000),(17,true,4951760157141521099596495872),(27,true,18446462598728383488),(30,true,2040),(33,true,8386496),(34,true,520128),(35,true,134217664),(36,true,4194272),(37,true,520128),(40,true,480),(41,true,1016),(43,true,1016),(44,false,4397509111564),(45,true,240),(46,false,140733191411976),(47,true,262136),(48,false,508),(49,true,17045634816),(50,true,18014364149739512),(53,true,270574550784),(54,true,3848286501888),(55,false,77370652935905381929910280),(56,true,1048376),(57,true,8455716352),(59,true,480),(60,true,1004),(61,true,65520),(63,true,224),(67,true,162259276829213363039734289268480),(81,true,524256),(82,true,120),(86,true,1073212416),(90,true,9007164626501504),(91,true,1016),(92,true,8796093013888),(94,true,480),(95,true,4722366482869644681216),(96,true,2),(97,true,120),(98,true,480),(99,true,2287828592379265024),(100,true,1208556884733154979333440),(101,true,274877861888),(103,true,8160),(104,true,480),(105,true,1016),(108,true,32128),(109,true,64896),(110,true,457804),(111,true,492),(112,true,240),(113,false,4072),(114,false,9205357602911804472),(115,true,2305838606872215528),(116,true,4194296),(117,true,268435448),(118,true,130976),(121,true,224),(122,true,224),(123,true,30064770048),(124,false,290535622710222932552),(125,true,263874192342784),(126,true,492),(127,true,240),(128,true,492),(129,true,457804),(130,false,16364),(131,true,992),(132,true,65009420),(133,true,8144),(134,true,17592051822704),(137,true,170141183460469231731651204550052804608),(143,true,4397710966272),(157,true,224),(158,true,224),(159,true,224),(161,true,2),(166,true,32128),(171,true,541030611968),(172,true,1099478007296),(173,true,16777184),(174,true,299794640011520261908062208),(175,true,1099478007296),(176,true,224),(177,true,224),(178,true,224),(180,true,38373713921438564727213981696),(181,true,2),(182,true,1968),(183,true,536835968),(184,true,536837888),(185,true,2147221184),(186,true,140737488223232),(187,true,4088),(188,true,549688700800),(190,true,130976),(191,true,2199023254272),(192,true,2097120),(197,true,2),(198,false,234),(199,false,508),(200,true,960),(201,true,274876858112),(202,false,73786413310256577292),(203,false,9007182074854640),(204,false,1671831826720280358868393332158590220324288833552426328065262486496),(206,true,992),(207,true,480),(212,false,8379264),(213,false,67108736),(214,true,549722250112),(215,true,457804),(216,false,356811880641193946689691826088336933575984096),(217,true,250),(219,true,82412135736188904041465274988559857664),(220,true,224),(250,true,4685400655653207277056),(251,true,56),(252,true,133168160),(253,true,272730422784),(254,true,524224),(255,true,1016),(256,true,1048288),(257,true,1095216644096),(258,true,72048789883946240),(259,true,880),(260,true,67108288),(261,true,535820256),(262,true,131064),(263,true,65504),(264,true,61432),(265,true,232),(266,true,2145384448),(268,false,9205357602911804472),(269,false,288230376142271456),(271,true,233701344),(272,true,65504),(273,true,2199023255424),(274,true,16352),(276,true,140737488223232),(281,true,16777184),(282,true,524256),(283,true,34359737088),(284,false,73786971896790252544),(285,true,4092),(286,true,18889465913882099754112),(287,false,1152921496014807280),(288,false,147573917370944446704),(289,true,7890306461253730544),(290,false,17179835632),(291,true,2787571881499075797774052896007796375347440),(292,true,1237938821800130672580355040),(293,true,383123885193474569774374055887950278561850630313329632),(294,true,524010),(295,true,33537770),(296,true,262056),(297,true,17112759072),(316,true,63436),(317,true,72048728684359692),(318,true,225024),(319,true,58),(320,true,4026268672),(322,false,9007182074854640),(323,false,1671831826720280358868393332158590220324288833552426328065262486496),(324,false,274877897696),(325,true,8184),(326,true,8388480),(327,true,1073212416),(329,true,2080640),(330,true,67108288),(332,true,480),(333,true,131064),(334,true,224),(335,true,224),(336,true,224),(337,true,2251799813684224),(338,true,2040),(340,true,590295528883728907520),(341,true,2016),(342,false,4835702990227041035219936),(343,true,122),(344,true,8589934586),(345,true,261872),(346,true,2199023251392),(347,true,1073741634),(354,true,2251799813668876),(355,true,1002),(356,true,16777152),(357,false,288230376142271456),(358,true,56),(359,true,4194272),(360,true,1016),(361,true,536837888),(362,true,4080),(363,true,562949953421184),(364,true,16320),(365,true,4290769888),(366,false,274877897696),(367,true,114560)]
theorem sK:PrAll Tryz.prog oT:=⟨DU HR,FE IE,DS HO,Ld G3,EH Bz,FH uQ,AN v8,BN sw,ET CG,Je E8,AG Gw,DU I3,FE Hg,DS Ha,EH If,FH vx,AN mi,BN mo,Hh Ex,AG FZ,DE (fun h=>Dl (h.mono (by decide))),IX (fun _ _=>io),EP gF,I2 (fun h=>oX (h.mono (by decide))),G1 (fun h g=>fS (h.mono (by decide)) (g.mono (by decide))),Jr (fun h g=>n7 (h.mono (by decide)) (g.mono (by decide))),zH (fun h g=>ja (h.mono (by decide)) (g.mono (by decide))),EY (fun h=>rN (h.mono (by decide))),En mI,trivial⟩
theorem rq:EnvOk Tryz.prog (JZ Tryz.prog oT vz):=Dn sK (by kernel_rfl)
set_option maxRecDepth 100000 in
theorem qU:Ok Tryz.prog 17 [] [.c (.b true)]:=Fx (by kernel_rfl) rq (fuel:=10000) (depth:=60) (by kernel_rfl)
end Go.Proofs.YtacopbfkmnpfgaaGreat
namespace Go.Proofs.YtacopbfkmnpfgaaGreat
open Go.ChangeShapes Go.WideShapes Go.ChangeAt Go.RowKit
theorem xz {K U A B C D E F K' U' A' B' C' D' E' F' N c:Int}(w0:0≤K∧K≤255) (w1:0≤U∧U≤255) (w2: -128≤A∧A≤127) (w3: -128≤B∧B≤127) (w4: -128≤C∧C≤127) (w5: -128≤D∧D≤127) (w6: -128≤E∧E≤127) (w7: -128≤F∧F≤127) (w8:0≤K'∧K'≤255) (w9:0≤U'∧U'≤255) (w10: -128≤A'∧A'≤127) (w11: -128≤B'∧B'≤127) (w12: -128≤C'∧C'≤127) (w13: -128≤D'∧D'≤127) (w14: -128≤E'∧E'≤127) (w15: -128≤F'∧F'≤127) (w16:0≤N∧N≤255) (c0: -128≤c) (c1:c≤127):Ok Tryz.prog 5 [.a (([.i .u8 K]++[.i .u8 U]++[.i .i8 A]++[.i .i8 B]++[.i .i8 C]++[.i .i8 D]++[.i .i8 E]++[.i .i8 F])++([.i .u8 K']++[.i .u8 U']++[.i .i8 A']++[.i .i8 B']++[.i .i8 C']++[.i .i8 D']++[.i .i8 E']++[.i .i8 F'])++[.i .u8 N]),.c (.i .i8 c)] [.c (.b true)]:=by
 have hO1:=NK w0 w1 w2 w3 w4 w5 w6 w7
 have hO2:=NK w8 w9 w10 w11 w12 w13 w14 w15
 by_cases h0:qh K U A B C D E F=[]
 ·exact CL c0 c1 qU (yI w16 hO1 hO2 h0)
 ·have hp:0<(qh K U A B C D E F).length:=List.length_pos_iff.2 h0
  have hg:=wy (K:=K) w1.1 w2 w3 w4 w5 w6 w7
  have hB: ∀d∈qh K' U' A' B' C' D' E' F',d.good:=fun d hd=>(wy (K:=K') w9.1 w10 w11 w12 w13 w14 w15 d hd).g
  have hg0:=hg _ (j9 (d:=fq) hp)
  have hpos:=xy (A0:=qh K U A B C D E F) (Bl:=qh K' U' A' B' C' D' E' F') hg0.ne
  exact Iy c0 c1 qU (B3 hg0.g hB _ (j9 (Nat.mod_lt _ hpos))) (Gp w16 hO1 hO2 hg0 hp hB IH)
set_option maxRecDepth 100000 in
theorem ra (os:Os) (started:os.Started) (H:Type) (enc:TypeId×Value→H):
 ReturnsInHanded {} Tryz.checked os 5 .any (Rows.engagementSpansSpec.pre6 enc Tryz.prog Tryz.f5 Rows.engagementSpansRow.domain false) (Rows.engagementSpansSpec.post enc Tryz.prog Tryz.f5 false true false false):=by
 refine returnsInHanded_of_change (C:=Tryz.checked) own started (by kernel_rfl) Tryz.func5
  (ChangeSpec.witness6 (enc:=enc) (C:=Tryz.checked) false ⟨#[],#[.agg #[.int .u8 0,.int .u8 0,.int .i8 0,.int .i8 0,.int .i8 0,.int .i8 0,.int .i8 0,.int .i8 0,.int .u8 0,.int .u8 0,.int .i8 0,.int .i8 0,.int .i8 0,.int .i8 0,.int .i8 0,.int .i8 0,.int .u8 0],.int .i8 0],[]⟩ 8 (by kernel_rfl) (by kernel_rfl) (by kernel_rfl) (by kernel_rfl)) ?_
 intro W base args ds gs before hval0 hW hcnd _
 have hval: ∀(j:Nat) t v,Tryz.f5.params[j]? =some t→args[j]? =some v→Value.okWide Tryz.prog W .any base t v:=hval0
 have hW':=hW
 obtain⟨p,q,hA0,hV,rfl,hfz,hnd⟩:=hW
 have hA:DataW.TrodAll enc Tryz.prog W 0 (fun _=>true) true Tryz.f5.params.toList args.toList ds p:=hA0
 rw[Tryz.params5] at hA hval
 obtain⟨v0,vs0,d0,ds0,p0,q0,hargs,rfl,rfl,h0,r0⟩:=trodAll_cons hA
 obtain⟨v1,vs1,d1,ds1,p1,q1,rfl,rfl,rfl,h1,r1⟩:=trodAll_cons r0
 obtain⟨rfl,rfl,rfl⟩:=trodAll_nil r1
 obtain rfl:args= #[v0,v1]:=by cases args;simp_all
 obtain⟨rfl,rfl⟩:=trodVars_none hV
 obtain⟨a0,rfl,_⟩:=okWide_struct Tryz.underlying26 (hval 0 26 v0 rfl rfl)
 have k0:=h0
 have lt0: ∀x∈p0,x.block<W.heap.size:=by obtain⟨m,hm⟩:=k0;exact DataW.trod_lt m _ _ _ hm
 obtain⟨a1,rfl,rfl,rfl,w1⟩:=open_int Tryz.underlying22 (hval 1 22 v1 rfl rfl) h1
 obtain⟨y00,y01,y02,y03,y04,y05,y06,y07,y08,y09,y010,y011,y012,y013,y014,y015,y016,g00,g01,g02,g03,g04,g05,g06,g07,g08,g09,g010,g011,g012,g013,g014,g015,g016,hr0⟩:=DC (show DataW.trod enc Tryz.prog W 0 _ _ h0.choose 26 a0.toList=some _ from h0.choose_spec)
 have g1: -128≤a1∧a1≤127:=by have:=w1;simp[Lit.wf,IntKind.min,IntKind.max,IntKind.signed,IntKind.bits] at this;omega
 clear hA0 hval0
 refine(Mn (xz g00 g01 g02 g03 g04 g05 g06 g07 g08 g09 g010 g011 g012 g013 g014 g015 g016 g1.1 g1.2) (RdL.cons ⟨a0,rfl,hr0⟩ (RdL.cons (.i _ _) RdL.nil))).mono fun e W' ⟨he,bel⟩=>?_
 subst he
 exact⟨_,rfl,_,_,_,[],_,[],hW',trodAll_mk1 (shut_bool Tryz.underlying4 _),(trodAll_cons_mk (Below.trod I7 (by kernel_rfl) (of_decide_eq_true (by kernel_rfl)) k0 bel lt0) (trodAll_cons_mk (shut_int Tryz.underlying22 w1) trodAll_mk0)),rfl,bel.frame _,fun h=>by cases h⟩
theorem spans32_proved:Rows.EngagementSpansSaid:=
 OpenClaim.holds_of_wide 5 Tryz.f5 rfl rfl rfl rfl rfl rfl rfl ⟨rfl,rfl,rfl,rfl,rfl⟩ rfl rfl rfl rfl rfl yz Tryz.func5 yG
  (of_decide_eq_true (by kernel_rfl)) (by unfold Func.isWrapper;first|(rw[if_pos (by decide+kernel)];kernel_rfl)|(rw[if_neg (by decide+kernel)];exact⟨rfl,rfl⟩))
  (fun os started H enc _=>ra os started H enc)
end Go.Proofs.YtacopbfkmnpfgaaGreat
