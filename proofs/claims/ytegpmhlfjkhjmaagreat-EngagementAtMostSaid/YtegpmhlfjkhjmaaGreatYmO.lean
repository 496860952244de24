/-Data:calls whose result is a new slice;calls that shorten a slice of their caller. -/
import Derived.Test.YtegpmhlfjkhjmaaGreatYmN
namespace Go.Proofs.YtegpmhlfjkhjmaaGreat
open Go Go.RowKit
variable {args:Array Operand}{at_:Array TypeId}{w:Bool}{k:Ci}{cd:Code}{c:Cv}{fn:Func}{f:FuncId}{a b r:Int}{cs cs' cs0 cs1 us zs:List CellD}{ds rs:List D0}{xs:List Operand}{L l:List Pt}{N i m n n1 o' t:Nat}{fo x:Operand}{p q y:Pt}{U U2 e:TypeId}{v z:Value}
variable {ty:TypeId}{pos:String}{af:Array Edge}{g:Option (Nat×Bool)}{dst:Option Nat}
theorem C3:type_of% @List.pairwise_singleton:=@List.pairwise_singleton
def Xl (x:Value):List Value→Value
 |[]=>x
 |xs=>.tuple (x::xs).toArray
def Sw (t n c:Nat):List D0→DV
 |[]=>.o t n c
 |ds=>.tn t n c ds
structure OkN (P:Program) (f:FuncId) (ds:List D0) (U:TypeId) (n m:Nat) (us:List CellD) (rs:List D0):Prop where
 cal:fK P f=true
 run: ∀(V:Nat→Prop) (vs:Array Value) (w:World),(∀x,V x→x<w.heap.size)→RdL V w vs.toList ds→Calls P f vs w fun e w'=> ∃(b c:Nat) (bs:Array Value) (rest:List CellD) (xs:List Value),
  e=.returned (Xl (.slice (some ⟨b,0,none⟩) n c) xs)∧Below w.heap.size w w'∧w.heap.size≤b∧b<w'.heap.size∧n≤c∧c≤maxLen∧rest.length=(c-n)*m∧w'.heap[b]? =some (.cells bs U (0,0))∧RdCs (fun x=>V x∨x=b) w' bs.toList (us++rest)∧RdL (fun x=>V x∨x=b) w' xs rs
structure OkT (P:Program) (f:FuncId) (U:TypeId) (n c n1:Nat) (cs0 cs1:List CellD) (ds:List D0):Prop where
 cal:fK P f=true
 run: ∀(V:Nat→Prop) (b:Nat) (bs vs:Array Value) (vl:List Value) (w:World),vs.toList=.slice (some ⟨b,0,none⟩) n c::vl→(∀x,V x→x<w.heap.size)→V b→w.heap[b]? =some (.cells bs U (0,0))→RdCs V w bs.toList cs0→RdL V w vl ds→
  Calls P f vs w fun e w'=> ∃bs':Array Value,e=.returned (.slice (some ⟨b,0,none⟩) n1 c)∧w'.heap[b]? =some (.cells bs' U (0,0))∧Mid b w w'∧RdCs V w' bs'.toList cs1
section
variable {P:Program}
theorem Lu {a:Act}(h:a.tmps[t]? =some v):a.tmps.getD t undef=v:=by simp_all
theorem OkN.of (hcal:fK P f=true) (hf:P.funcs[f]? =some fn) (hb:fn.body=some cd) (hlen:Nat.ble ds.length fn.ntmps=true)
 (h:Dw P cd ⟨fn.ntmps,mZ 0 ds,[]⟩ fun e σ=>(e=.normal∨e=.ret)∧ ∃(t k c:Nat) (rv:List ResultVar) (rest:List CellD),fn.results.toList=.tmp t::rv∧aF t σ.tm=some (.o k n c)∧aF k σ.bx=some (U,us++rest)∧n≤c∧c≤maxLen∧rest.length=(c-n)*m∧ra P σ rv=some rs):OkN P f ds U n m us rs:=by
 refine⟨hcal,fun V vs w hV hds=>calls_of_wp hf hb ?_⟩
 refine uH ?_ (h V ⟨w,fun _=>False,fn.ntmps⟩ (fun _=>0) _ w (ab9 (fe hlen) hV hds))
 rintro e a' w' ⟨σ',β',hn,⟨he,t,k,c,rv,rest,hrv,ht,hk,hc1,hc2,hrl,hres⟩,hr⟩
 obtain⟨xs,hrun,hxs⟩:=CD hr _ _ hres
 obtain⟨v,ev,hv⟩:=hr.sees.tmp t _ trivial ht
 subst hv
 obtain⟨hvk,bs,ebl,hrd⟩:=hr.sees.box k _ _ hk
 have hBk:σ'.B k≠none:=by rw[show σ'.B k=_ from hk];simp
 have hk2:Keep (fun b=>V b∨ ∃k,σ'.B k≠none∧β' k=b) (fun x=>V x∨x=β' k) w' w':=⟨Nat.le_refl _,fun _ _ _=>rfl,fun x _ hx=>hx.imp id fun e=>⟨k,hBk,e.symm⟩⟩
 have hall:(fn.results.toList.mapM (r9 a')).run P w'=.ok (.slice (some ⟨β' k,0,none⟩) n c::xs) w':=by
  rw[hrv,List.mapM_cons]
  have e1:(r9 a' (.tmp t)).run P w'=.ok (.slice (some ⟨β' k,0,none⟩) n c) w':=by show(pure (a'.tmps.getD t undef):Go.Sem Value).run P w'=_;rw[Lu ev];rfl
  simp only[fb,e1,fk,hrun,f6]
 have hresults:(results fn a'.tmps).run P w'=.ok (Xl (.slice (some ⟨β' k,0,none⟩) n c) xs) w':=by
  rw[vq hall]
  cases xs with
  |nil=>rfl
  |cons x xs=>exact congrArg (fun q=>Result.ok q w') (dif_neg (by simp))
 have hown:w.heap.size≤β' k:=(hr.own k hBk).resolve_right (fun h=>h)
 rcases he with rfl|rfl
 ·exact⟨hr.dfr,_,hresults,β' k,c,bs,rest,xs,rfl,hr.bel.to (fun _ h=>h),hown,hr.sees.av _ (.inr ⟨k,hBk,rfl⟩),hc1,hc2,hrl,ebl,hrd.keep hk2,hxs.keep hk2⟩
 ·exact⟨hr.dfr,_,hresults,β' k,c,bs,rest,xs,rfl,hr.bel.to (fun _ h=>h),hown,hr.sees.av _ (.inr ⟨k,hBk,rfl⟩),hc1,hc2,hrl,ebl,hrd.keep hk2,hxs.keep hk2⟩
theorem OkT.of {K:Nat}(hcal:fK P f=true) (hf:P.funcs[f]? =some fn) (hb:fn.body=some cd) (hlen:Nat.ble (ds.length+1) fn.ntmps=true) (hK:Nat.ble fn.ntmps K=true)
 (h:Dw P cd ⟨fn.ntmps,(0,.o K n m)::mZ 1 ds,[(K,U,cs0)]⟩ fun e σ=>(e=.normal∨e=.ret)∧aF K σ.bx=some (U,cs1)∧ ∃t,fn.results.toList=[.tmp t]∧aF t σ.tm=some (.o K n1 m)):OkT P f U n m n1 cs0 cs1 ds:=by
 refine⟨hcal,fun V b bs vs vl w hvs hV hVb hbl hcs hds=>calls_of_wp hf hb ?_⟩
 refine uH ?_ (h _ _ (fun _=>b) _ w (WG (fe hlen) (fe hK) hvs hV hVb hbl hcs hds))
 rintro e a' w' ⟨σ',β',hn,⟨he,hbx,t,hrv,ht⟩,hr⟩
 obtain⟨hfix,bs',ebl,hm,hrd⟩:=VJ hr hbx
 obtain⟨v,ev,hv⟩:=hr.sees.tmp t _ trivial ht
 have hv:v=.slice (some ⟨β' K,0,none⟩) n1 m:=hv
 rw[hfix] at hv
 subst hv
 have hall:(fn.results.toList.mapM (r9 a')).run P w'=.ok [.slice (some ⟨b,0,none⟩) n1 m] w':=by
  rw[hrv,List.mapM_cons]
  have e1:(r9 a' (.tmp t)).run P w'=.ok (.slice (some ⟨b,0,none⟩) n1 m) w':=by show(pure (a'.tmps.getD t undef):Go.Sem Value).run P w'=_;rw[Lu ev];rfl
  simp only[fb,e1,fk,List.mapM_nil,f6]
 have hresults:(results fn a'.tmps).run P w'=.ok (.slice (some ⟨b,0,none⟩) n1 m) w':=vq hall
 rcases he with rfl|rfl
 ·exact⟨hr.dfr,_,hresults,bs',rfl,ebl,hm,hrd⟩
 ·exact⟨hr.dfr,_,hresults,bs',rfl,ebl,hm,hrd⟩
variable {ops os:Array Oper}{N:Nat}{tm:List (Nat×DV)}{bx:List (Nat×TypeId×List CellD)}
theorem Ki 
 (hf:cG (fun s=>aF s tm) fo=some (.v (.c (.f f)))) (ha:qi (fun s=>aF s tm) args.toList=some ds) (hok:OkN P f ds U n m us rs) (hd:aF t bx=none) (hg:gd ops ⟨some t,.call ⟨.value fo,args,at_⟩,ty,pos,af,g⟩ (fun s=>aF s tm)=some true):
 Kf P ops ⟨some t,.call ⟨.value fo,args,at_⟩,ty,pos,af,g⟩ ⟨N,tm,bx⟩ (fun σ'=> ∃c rest,n≤c∧c≤maxLen∧rest.length=(c-n)*m∧σ'=⟨N,(t,Sw t n c rs)::tm,(t,U,us++rest)::bx⟩):=by
 intro av w0 β a w hrel htn
 have hs:=Sees.of hrel.sees (L:=iN ops ⟨some t,.call ⟨.value fo,args,at_⟩,ty,pos,af,g⟩) (fun _ _=>trivial) (fun _ _ _ h=>h) (fun _ _ h=>h)
 refine⟨ez hs hg,?_⟩
 have h1:=RdC.func_eq (aD hs (x:=fo) (by simp[Op.operands,Call.operands]) hf)
 have h2:=jq hs args.toList ds (fun x hx=>by have hx2:=Array.mem_toList_iff.1 hx;simp[Op.operands,Call.operands,hx2]) ha
 have hc:=hok.cal
 unfold fK at hc
 cases hfn:P.funcs[f]? with
 |none=>rw[hfn] at hc;cases hc
 |some fn=>
  rw[hfn] at hc
  simp only[dL,bne_iff_ne,ne_eq,qu] at hc
  have hrun:(execOp a.eval ⟨some t,.call ⟨.value fo,args,at_⟩,ty,pos,af,g⟩).run P w=.ok (.enter f (args.map a.eval)) w:=by
   have hb2:fn.body≠none:=by have:=hc.2;cases hbb:fn.body with
    |none=>rw[hbb] at this;cases this
    |some c=>simp
   simp[execOp,resolve,h1,Deferred.ofValue,invoke,callFunc,program,Sem.run,hfn,hc.1,hb2]
  unfold Gives
  rw[hrun]
  refine(hok.run _ (args.map a.eval) w hs.av (by simpa using h2)).mono ?_
  rintro e w' ⟨b,c,bs,rest,xs,rfl,hw,hb1,hb2,hc1,hc2,hrl,hcl,hrd,hxs⟩
  refine⟨_,rfl,⟨N,(t,Sw t n c rs)::tm,(t,U,us++rest)::bx⟩,fun k=>if k=t then b else β k,⟨c,rest,hc1,hc2,hrl,rfl⟩,rfl,?_⟩
  have hx:RdX (fun y=>(av y∨ ∃k,aF k bx≠none∧β k=y)∨y=b) w' (fun k=>if k=t then b else β k) (Xl (.slice (some ⟨b,0,none⟩) n c) xs) (Sw t n c rs):=by
   cases rs with
   |nil=>
    cases xs with
    |nil=>show _=Value.slice (some ⟨if t=t then b else β t,0,none⟩) n c;rw[if_pos rfl];rfl
    |cons x xs=>exact absurd hxs.1 (by simp)
   |cons r rs=>
    cases xs with
    |nil=>exact absurd hxs.1 (by simp)
    |cons x xs=>exact⟨x::xs,by show _=Value.tuple (Value.slice (some ⟨if t=t then b else β t,0,none⟩) n c::x::xs).toArray;rw[if_pos rfl];rfl,hxs⟩
  have:=hrel.fresh (d:=t) (htn t rfl) hd hw hb1 hb2 hcl hrd hx (by intro k hk;cases rs<;>(injection hk with hk;exact hk.symm))
  refine this.congr (fun s=>?_) (fun l=>?_)
  ·show aF s ((t,Sw t n c rs)::tm)=(if some t=some s then _ else aF s tm)
   rw[bv]
   grind
  ·show aF l ((t,U,us++rest)::bx)=(if some t=some l then _ else aF l bx)
   rw[bv]
   grind
theorem Jy {k c:Nat}
 (hf:cG (fun s=>aF s tm) fo=some (.v (.c (.f f)))) (hargs:args.toList=x::xs) (hx:cG (fun s=>aF s tm) x=some (.o k n c)) (ha:qi (fun s=>aF s tm) xs=some ds) (hb:aF k bx=some (U,cs0)) (hok:OkT P f U n c n1 cs0 cs1 ds)
 (hg:gd ops ⟨some t,.call ⟨.value fo,args,at_⟩,ty,pos,af,g⟩ (fun s=>aF s tm)=some true):
 Kf P ops ⟨some t,.call ⟨.value fo,args,at_⟩,ty,pos,af,g⟩ ⟨N,tm,bx⟩ (fun σ'=>σ'=⟨N,(t,.o k n1 c)::tm,(k,U,cs1)::bx⟩):=by
 intro av w0 β a w hrel htn
 have hs:=Sees.of hrel.sees (L:=iN ops ⟨some t,.call ⟨.value fo,args,at_⟩,ty,pos,af,g⟩) (fun _ _=>trivial) (fun _ _ _ h=>h) (fun _ _ h=>h)
 refine⟨ez hs hg,?_⟩
 have hin: ∀y∈x::xs,y∈(⟨some t,.call ⟨.value fo,args,at_⟩,ty,pos,af,g⟩:Oper).op.operands:=fun y hy=>by
  have hx2:y∈args:=by grind
  simp[Op.operands,Call.operands,hx2]
 have h1:=RdC.func_eq (aD hs (x:=fo) (by simp[Op.operands,Call.operands]) hf)
 have h2:=jq hs xs ds (fun y hy=>hin y (fC _ hy)) ha
 have h3:a.eval x=.slice (some ⟨β k,0,none⟩) n c:=aD hs (hin x (fO ..)) hx
 obtain⟨hV,bs,e,hr⟩:=hs.box k U cs0 hb
 have hc:=hok.cal
 unfold fK at hc
 cases hfn:P.funcs[f]? with
 |none=>rw[hfn] at hc;cases hc
 |some fn=>
  rw[hfn] at hc
  simp only[dL,bne_iff_ne,ne_eq,qu] at hc
  have hrun:(execOp a.eval ⟨some t,.call ⟨.value fo,args,at_⟩,ty,pos,af,g⟩).run P w=.ok (.enter f (args.map a.eval)) w:=by
   have hb2:fn.body≠none:=by have:=hc.2;cases hbb:fn.body with
    |none=>rw[hbb] at this;cases this
    |some c=>simp
   simp[execOp,resolve,h1,Deferred.ofValue,invoke,callFunc,program,Sem.run,hfn,hc.1,hb2]
  unfold Gives
  rw[hrun]
  refine(hok.run _ (β k) bs (args.map a.eval) (xs.map a.eval) w (by rw[xY,hargs,oJ,h3]) hs.av hV e hr h2).mono ?_
  rintro e w' ⟨bs',rfl,hbl,hm,hr1⟩
  refine⟨_,rfl,⟨N,(t,.o k n1 c)::tm,(k,U,cs1)::bx⟩,β,rfl,rfl,?_⟩
  have hsv:=hrel.sval (k:=k) (d:=some t) (x:=.n) (v:=undef) hb hbl hm htn rfl hr1 trivial
  have hval:=hsv.value (d:=some t) (x:=.o k n1 c) (v:=.slice (some ⟨β k,0,none⟩) n1 c) htn (eQ _ _) rfl (by intro l hl;injection hl with hl;subst hl;rw[if_pos rfl];simp)
  rw[B7] at hval
  refine hval.congr (fun s=>?_) (fun l=>?_)
  ·show aF s ((t,DV.o k n1 c)::tm)=(if some t=some s then _ else if some t=some s then _ else aF s tm)
   rw[bv]
   grind
  ·show aF l ((k,U,cs1)::bx)=(if k=l then _ else aF l bx)
   rw[bv]
variable {os:List Oper}{K:St→Prop}
theorem yB 
 (hf:cG (fun s=>aF s tm) fo=some (.v (.c (.f f)))) (ha:qi (fun s=>aF s tm) args.toList=some ds) (hok:OkN P f ds U n m us rs) (hd:aF t bx=none) (hg:gd ops ⟨some t,.call ⟨.value fo,args,at_⟩,ty,pos,af,g⟩ (fun s=>aF s tm)=some true)
 (hk: ∀c rest,n≤c→c≤maxLen→rest.length=(c-n)*m→dl P ops os ⟨N,(t,Sw t n c rs)::tm,(t,U,us++rest)::bx⟩ K):
 dl P ops (⟨some t,.call ⟨.value fo,args,at_⟩,ty,pos,af,g⟩::os) ⟨N,tm,bx⟩ K:=
 .inr ⟨_,Ki hf ha hok hd hg,fun σ' ⟨c,rest,h1,h2,h3,e⟩=>by subst e;exact hk c rest h1 h2 h3⟩
theorem Hi {k c:Nat}
 (hf:cG (fun s=>aF s tm) fo=some (.v (.c (.f f)))) (hargs:args.toList=x::xs) (hx:cG (fun s=>aF s tm) x=some (.o k n c)) (ha:qi (fun s=>aF s tm) xs=some ds) (hb:aF k bx=some (U,cs0)) (hok:OkT P f U n c n1 cs0 cs1 ds)
 (hg:gd ops ⟨some t,.call ⟨.value fo,args,at_⟩,ty,pos,af,g⟩ (fun s=>aF s tm)=some true) (hk:dl P ops os ⟨N,(t,.o k n1 c)::tm,(k,U,cs1)::bx⟩ K):
 dl P ops (⟨some t,.call ⟨.value fo,args,at_⟩,ty,pos,af,g⟩::os) ⟨N,tm,bx⟩ K:=
 .inr ⟨_,Jy hf hargs hx ha hb hok hg,fun σ' e=>by subst e;exact hk⟩
variable {T:TF}{B:BF}
theorem DF {k c:Nat}
 (hx:cG T x=some (.tn k n c ds)) (hg:gd ops ⟨dst,.extract x 0,ty,pos,af,g⟩ T=some true):Sem P ops ⟨dst,.extract x 0,ty,pos,af,g⟩ T B (.r (.o k n c)):=
 bL hg (fun l hl=>pJ (by simp[Op.operands]) hx (by injection hl with hl;subst hl;rfl)) (fun V β a w hs=>by
  obtain⟨xs,hp,_⟩:=aD hs (x:=x) (by simp[Op.operands]) hx
  refine⟨_,?_,rfl⟩
  simp only[execOp,hp,Instr.extract,fb,f6]
  simp)
theorem DB {k c:Nat}{d:D0}
 (hx:cG T x=some (.tn k n c ds)) (hd:ds[i]? =some d) (hg:gd ops ⟨dst,.extract x (i+1),ty,pos,af,g⟩ T=some true):Sem P ops ⟨dst,.extract x (i+1),ty,pos,af,g⟩ T B (.r (.v d)):=
 bL hg (pS rfl) (fun V β a w hs=>by
  obtain⟨xs,hp,hr⟩:=aD hs (x:=x) (by simp[Op.operands]) hx
  have hlt:i<ds.length:=(jf.1 hd).1
  have hv:xs[i]? =some (xs[i]'(by rw[hr.1];exact hlt)):=f9 _
  refine⟨_,?_,hr.2 i _ d hv hd⟩
  have h2:(Value.slice (some ⟨β k,0,none⟩) n c::xs).toArray[i+1]? =some (xs[i]'(by rw[hr.1];exact hlt)):=by simp
  simp only[execOp,hp,Instr.extract,h2,fb,f6,fk])
theorem Nq {k c:Nat}
 (hf:cG T fo=some (.v (.c (.f f)))) (hargs:args.toList=x::xs) (hx:cG T x=some (.o k n c)) (ha:qi T xs=some ds) (hb:B k=some (U,cs)) (hus:cs.take (n*m)=us) (hl:n*m≤cs.length) (hnc:n≤c) (hc:c≤maxLen) (hok:Ok P f (.c (.s n us)::ds) [.c (.i .i64 r)])
 (hg:gd ops ⟨dst,.call ⟨.value fo,args,at_⟩,ty,pos,af,g⟩ T=some true):Sem P ops ⟨dst,.call ⟨.value fo,args,at_⟩,ty,pos,af,g⟩ T B (.r (.v (.c (.i .i64 r)))):=by
 refine⟨pS rfl,fun V β a w hs=>⟨ez hs hg,?_⟩⟩
 have hin: ∀y∈x::xs,y∈(⟨dst,.call ⟨.value fo,args,at_⟩,ty,pos,af,g⟩:Oper).op.operands:=fun y hy=>by
  have hx2:y∈args:=by grind
  simp[Op.operands,Call.operands,hx2]
 have h1:=RdC.func_eq (aD hs (x:=fo) (by simp[Op.operands,Call.operands]) hf)
 have h2:=jq hs xs ds (fun y hy=>hin y (fC _ hy)) ha
 have h3:a.eval x=.slice (some ⟨β k,0,none⟩) n c:=aD hs (hin x (fO ..)) hx
 have hmax:maxLen=9223372036854775807:=rfl
 have h4:=MI (q:=n) (c:=c) (m:=m) (off:=0) (ys:=us) hs hb (by rw[o7];exact hus) (fun _=>by omega) hnc (by omega)
 have hkeep:Keep V (fun x=>V x∧x≠β k) w w:=⟨Nat.le_refl _,fun _ _ _=>rfl,fun _ _ h=>h.1⟩
 have hcl:=hok.cal
 unfold fK at hcl
 cases hfn:P.funcs[f]? with
 |none=>rw[hfn] at hcl;cases hcl
 |some fn=>
  rw[hfn] at hcl
  simp only[dL,bne_iff_ne,ne_eq,qu] at hcl
  have hrun:(execOp a.eval ⟨dst,.call ⟨.value fo,args,at_⟩,ty,pos,af,g⟩).run P w=.ok (.enter f (args.map a.eval)) w:=by
   have hb2:fn.body≠none:=by have:=hcl.2;cases hbb:fn.body with
    |none=>rw[hbb] at this;cases this
    |some c=>simp
   simp[execOp,resolve,h1,Deferred.ofValue,invoke,callFunc,program,Sem.run,hfn,hcl.1,hb2]
  unfold Gives
  rw[hrun]
  refine(hok.run (fun x=>V x∧x≠β k) (args.map a.eval) w (fun b hb=>hs.av b hb.1) (by rw[xY,hargs,oJ,h3];exact s9 h4 (h2.keep hkeep))).mono ?_
  rintro e w' ⟨v,rfl,hr,hb⟩
  refine⟨v,rfl,?_,hb⟩
  rw[hr.int_eq]
  exact .i _ _
theorem aaZ (hzl:zs.length=m) (hzr: ∀(V:Nat→Prop) (w:World),RdCs V w z.cells.toList zs) (r:Nat) (V:Nat→Prop) (w:World):RdCs V w (Builtin.zeroCells z.cells r).toList (List.replicate r zs).flatten:=by
 have hzs:z.cells.size=m:=by have:=(hzr (fun _=>False) default).1;rw[hzl] at this;simpa using this
 have key:RdCs V w ((List.range (r*m)).map (fun j=>z.cells[j%z.cells.size]!)) (List.replicate r zs).flatten:=by
  induction r with
  |zero=>simp;exact uN
  |succ r ih=>
   rw[Nat.succ_mul,List.range_add,oZ,List.replicate_succ',List.flatten_append]
   refine qW ih ?_
   have e2:(List.map (fun x=>r*m+x) (List.range m)).map (fun j=>z.cells[j%z.cells.size]!)=z.cells.toList:=by
    apply u9 (by simp[hzs])
    intro j h1 h2
    simp at h1
    simp only[List.getElem_map,List.getElem_range,hzs]
    rw[Nat.mul_comm r,Nat.mul_add_mod,rl (by omega),getElem!_pos z.cells j (by omega)]
    simp
   grind
 unfold Builtin.zeroCells
 simpa [hzs] using key
theorem E7 {y:Operand}{k off c by_:Nat}
 (hU:tG P U=some (e,m,by_,zs)) (hy:cG T y=some (.w k off n c)) (hb:B k=some (e,cs)) (hoff:off+n*m≤cs.length) (hz:cs.take off++(List.replicate n zs).flatten++cs.drop (off+n*m)=cs')
 (hg:gd ops ⟨none,.call ⟨.builtin .clear,#[y],#[U]⟩,ty,pos,af,g⟩ T=some true):Sem P ops ⟨none,.call ⟨.builtin .clear,#[y],#[U]⟩,ty,pos,af,g⟩ T B (.s k e cs'):=by
 refine⟨rfl,⟨cs,hb⟩,fun V β a w hs=>⟨ez hs hg,?_⟩⟩
 have e1:a.eval y=.slice (some ⟨β k,off,none⟩) n c:=aD hs (x:=y) (by simp[Op.operands,Call.operands]) hy
 obtain⟨hu,i,z,hi,hzi,hsz,hby,hzl,hzr⟩:=iW hU
 obtain⟨hV,vs,ev,hr⟩:=hs.box k e cs hb
 have hexec: ∀ {w':World},(Builtin.clear_ #[U] ty #[a.eval y]).run P w=.ok (.tuple #[]) w'→(execOp a.eval ⟨none,.call ⟨.builtin .clear,#[y],#[U]⟩,ty,pos,af,g⟩).run P w=.ok (.value (.tuple #[])) w':=fun{w'} h=>by
  simp only[execOp,resolve,invoke,builtin,fb,f6,fk,qV,oJ,qe]
  rw[h]
  rfl
 unfold Gives
 rcases jn n with h0|h0
 ·subst h0
  rw[hexec (w':=w) (by rw[e1];simp[Builtin.clear_,run_underlying hu])]
  refine⟨vs,?_,rfl,rfl,rfl,?_⟩
  ·grind
  ·simp_all
 ·have hrow:=aaZ hzl hzr n V w
  have hzlen:(Builtin.zeroCells z.cells n).toList.length=n*m:=by rw[hrow.1,List.length_flatten,List.map_replicate,List.sum_replicate_nat,hzl]
  have hvl:vs.size=cs.length:=by have:=hr.1;simpa using this
  have hst:=run_storeCells_at P (β k) off e (Builtin.zeroCells z.cells n).toList 0 vs w ev (by omega) (RE hrow)
  rw[hexec (w':=w.setRow (β k) (vs.toList.take off++(Builtin.zeroCells z.cells n).toList++vs.toList.drop (off+(Builtin.zeroCells z.cells n).toList.length)).toArray) (by
   rw[e1]
   simp[Builtin.clear_,run_underlying hu,Nat.ne_of_gt h0,zeroValue,typeInfo,hi,hzi]
   rw[hst]
   simp)]
  refine⟨_,o5 ev,rfl,rfl,rfl,?_⟩
  rw[←hz,hzlen]
  exact((hr.take off).append hrow).append (hr.drop (off+n*m))
theorem yV 
 (hU:tF P U=some m) (hx:cG (fun s=>aF s tm) x=some (.v (.c (.s n us)))) (hg:gd ops ⟨some t,.binOp .eql U x (.const (.slice none 0 0)) U2,ty,pos,af,g⟩ (fun s=>aF s tm)=some true)
 (hk: ∀b:Bool,(0<n→b=false)→dl P ops os ⟨N,(t,.v (.c (.b b)))::tm,bx⟩ K):dl P ops (⟨some t,.binOp .eql U x (.const (.slice none 0 0)) U2,ty,pos,af,g⟩::os) ⟨N,tm,bx⟩ K:=by
 refine .inr ⟨fun σ'=> ∃b:Bool,(0<n→b=false)∧σ'=⟨N,(t,.v (.c (.b b)))::tm,bx⟩,?_,fun σ' ⟨b,h,e⟩=>by subst e;exact hk b h⟩
 intro av w0 β a w hrel htn
 have hs:=Sees.of hrel.sees (L:=iN ops ⟨some t,.binOp .eql U x (.const (.slice none 0 0)) U2,ty,pos,af,g⟩) (fun _ _=>trivial) (fun _ _ _ h=>h) (fun _ _ h=>h)
 refine⟨ez hs hg,?_⟩
 have h1:=aD hs (x:=x) (by simp[Op.operands]) hx
 have h2: ∃A c,a.eval x=.slice A n c∧(0<n→A.isNone=false):=by
  generalize a.eval x=v at h1
  cases h1 with
  |s0 A c _=>exact⟨A,c,rfl,fun h=>absurd h (Nat.lt_irrefl 0)⟩
  |s b off c _ _ _ _=>exact⟨_,c,rfl,fun _=>rfl⟩
 obtain⟨A,c,e,hA⟩:=h2
 have hu: ∃el,P.underlying U=some (.slice el):=by
  unfold tF at hU
  grind
 obtain⟨el,hu⟩:=hu
 have heq:(Op.equal U (.slice A n c) (.slice none 0 0)).run P w=.ok A.isNone w:=by
  unfold Op.equal Op.maxDepth
  rw[show(10000:Nat)=9999+1 from rfl,Op.equalIn]
  simp only[fb,run_underlying hu,fk]
  cases A<;>rfl
 have hrun:(execOp a.eval ⟨some t,.binOp .eql U x (.const (.slice none 0 0)) U2,ty,pos,af,g⟩).run P w=.ok (.value (.bool A.isNone)) w:=by
  have e2:a.eval (.const (.slice none 0 0))=.slice none 0 0:=rfl
  have h3:(eqGuard .eql U x (.const (.slice none 0 0)) (.slice A n c) (.slice none 0 0)).run P w=.ok () w:=rfl
  have h4:binOp .eql U (.slice A n c) (.slice none 0 0)=(do pure (.bool (←Op.equal U (.slice A n c) (.slice none 0 0)))):=rfl
  simp only[execOp,e,e2,fb,h3,fk,h4,heq,f6]
 unfold Gives
 rw[hrun]
 refine⟨⟨N,(t,.v (.c (.b A.isNone)))::tm,bx⟩,β,⟨_,hA,rfl⟩,rfl,?_⟩
 have hval:=hrel.value (d:=some t) (x:=.v (.c (.b A.isNone))) (v:=.bool A.isNone) htn (eQ _ _) (.b _) (by intro l hl;cases hl)
 refine hval.congr (fun s=>?_) (fun _=>rfl)
 show aF s ((t,DV.v (.c (.b A.isNone)))::tm)=(if some t=some s then _ else aF s tm)
 rw[bv]
 grind
theorem uo {f:Nat}
 (hU:T8 P U f=some o') (hx:cG T x=some (.v (.c (.p cs)))) (hu:cs.drop o'=us) (hg:gd ops ⟨dst,.fieldAddr U x f,ty,pos,af,g⟩ T=some true):
 Sem P ops ⟨dst,.fieldAddr U x f,ty,pos,af,g⟩ T B (.r (.q us)):=
 bL hg (pS rfl) (fun V β a w hs=>by
  obtain⟨b,off,vs,hp,hb,hv,hr,hc⟩:=RdC.ptr_eq (aD hs (by simp[Op.operands]) hx)
  obtain⟨fs,fd,h1,h2,h3,h4⟩:=FM hU
  refine⟨.pointer (some ⟨b,off+o',none⟩),?_,b,off+o',vs.drop o',rfl,hb,hv,by rw[←hu];exact hr.drop o',fun j u hj=>?_⟩
  ·simp only[execOp,Instr.fieldAt,hp,Instr.sureAddr,fb,f6,fk,run_underlying h1,h2,h4,kg]
  ·rw[Df] at hj
   rw[Nat.add_assoc];exact hc (o'+j) u hj)
end
theorem VM {P:Program}{tm:List (Nat×DV)}{bx:List (Nat×TypeId×List CellD)}{c:Code}{Q:Exit→St→Prop}(ht:aF t tm=some (.f n us)) (h:Dw P c ⟨N,(t,.v (.c (.s n us)))::tm,bx⟩ Q):Dw P c ⟨N,tm,bx⟩ Q:=fun av w0 β a w hr=>by
 obtain⟨v,hv,hx⟩:=hr.sees.tmp t _ trivial ht
 have h2:=hr.upd (t:=t) (x:=.v (.c (.s n us))) hv hx.2 rfl
 refine h av w0 β a w (h2.congr (fun s=>?_) (fun _=>rfl))
 show aF s ((t,.v (.c (.s n us)))::tm)=_
 rw[bv];rfl
def Rw (a d b:Fin 4) (n1 n2 n3:Int):Int:=vx (BI (uK d) (uK a) n1) (BI (uK b) (uK a) n2) (BI (uK d) (uK b) n3)
def exF (q a b:Fin 4) (s:Int) (m:Int):Bool:=decide (Rw a q b (if a=q then 0 else s) m (if b=q then 0 else s)≤0)&&(a !=q&&b !=q)
set_option maxRecDepth 100000 in
theorem Jg: ∀(a b:Fin 4) (m:Fin 3),uO b a (i3 m)=true→(a==b&&i3 m==0)=false→exF 2 a b (-1) (i3 m)=false→exF 0 a b 1 (i3 m)=false→
 ((a=2∨a=3)∧(b=3∨b=0)∧i3 m=1)∨((a=0∨a=1)∧(b=1∨b=2)∧i3 m= -1):=by decide+kernel
theorem Cf (k:Ci) (s p e:Pt):yA k s p e=Rw (kd k s) (kd k p) (kd k e) (cx p s) (cx e s) (cx p e):=by
 unfold yA ov Rw
 rw[fP,fP,fP]
theorem p8 {a c:Rat}:bF a 0 c=aM a 0:=by
 unfold bF sx
 rw[p6,qN,if_pos (.inl rfl)]
theorem Ni {b c:Rat}(hc:0<c):bF 0 b c=aM b 0:=by
 have h1:aM c 0=1:=by unfold aM;rw[if_neg (by grind),if_pos hc]
 unfold bF sx
 rw[p6,h1,Int.mul_one]
 grind
theorem Wd (s:Rat) (h0:0<k.q):sY (fV k.x s k.y 0 k.q) k.y=0∧mO (fV k.x s k.y 0 k.q) k.x=aM (if je k.q then s*rt k.q else s) 0:=by
 cases hq:je k.q with
 |true=>
  have e:fV k.x s k.y 0 k.q=rP (k.x+s*rt k.q) (k.y+0*rt k.q):=by unfold fV;rw[hq];rfl
  rw[e,if_pos rfl]
  refine⟨?_,?_⟩
  ·show bF (k.y+0*rt k.q-k.y) 0 _=0
   rw[p8,show k.y+0*rt k.q-k.y=0 from by grind,p6]
  ·show bF (k.x+s*rt k.q-k.x) 0 _=_
   rw[p8,show k.x+s*rt k.q-k.x=s*rt k.q from by grind]
 |false=>
  have e:fV k.x s k.y 0 k.q=⟨k.x,s,k.y,0,k.q⟩:=by unfold fV;rw[hq];rfl
  rw[e,if_neg (by decide)]
  refine⟨?_,?_⟩
  ·show bF (k.y-k.y) 0 _=0
   rw[p8,show k.y-k.y=0 from by grind,p6]
  ·show bF (k.x-k.x) s (zc s k.q)=_
   rw[show k.x-k.x=0 from by grind]
   by_cases hs:s=0
   ·rw[hs,p8]
   ·rw[oY hs,Ni h0]
theorem EI (c:Rat):0≤rt c:=by
 have n1:=fg c.num
 have n2:=fg (c.den:Int)
 exact Rat.divInt_nonneg n1 n2
theorem Zl (h:cx p q≠0):cP p q=cx p q:=if_pos h
theorem MF {q:Rat}(h0:0<q) (hs:je q=true):0<rt q:=by
 have h1:=EI q
 have h2:=abY h0 hs
 grind
theorem Ra (h0:0<k.q):sY (jT k) k.y=0∧mO (jT k) k.x<0:=by
 obtain⟨a,b⟩:=Wd (k:=k) (-1) h0
 refine⟨a,?_⟩
 show mO (fV k.x (-1) k.y 0 k.q) k.x<0
 rw[b]
 cases hq:je k.q with
 |true=>have:=MF h0 hq;rw[if_pos rfl];unfold aM;rw[if_pos (by grind)];decide
 |false=>rw[if_neg (by decide)];decide+kernel
theorem Sx (h0:0<k.q):sY (jE k) k.y=0∧0<mO (jE k) k.x:=by
 obtain⟨a,b⟩:=Wd (k:=k) 1 h0
 refine⟨a,?_⟩
 show 0<mO (fV k.x 1 k.y 0 k.q) k.x
 rw[b]
 cases hq:je k.q with
 |true=>have:=MF h0 hq;rw[if_pos rfl];unfold aM;rw[if_neg (by grind),if_pos (by grind)];decide
 |false=>rw[if_neg (by decide)];decide+kernel
section
variable {k:Ci}(hk:GK k) (h0:0<k.q)
include hk h0
theorem uY:OnK k (jT k):=⟨sj hk h0,FE hk h0⟩
theorem v8:OnK k (jE k):=⟨r8 hk h0,Fi hk h0⟩
omit hk in
theorem AG:kd k (jT k)=2:=by
 obtain⟨a,b⟩:=Ra h0
 unfold kd;rw[if_neg (by omega),if_pos a,if_neg (by omega)]
omit hk in
theorem Ar:kd k (jE k)=0:=by
 obtain⟨a,b⟩:=Sx h0
 unfold kd;rw[if_neg (by omega),if_pos a,if_pos (by omega)]
theorem vw (hp:OnK k p):cx (jT k) p=if kd k p=2 then 0 else-1:=by
 have h:=iv h0 (uY hk h0) hp
 rw[AG h0] at h
 unfold uO at h
 grind
theorem vL (hp:OnK k p):cx (jE k) p=if kd k p=0 then 0 else 1:=by
 have h:=iv h0 (v8 hk h0) hp
 rw[Ar h0] at h
 unfold uO at h
 grind
omit hk in
theorem Me {f t x:Pt}(of:OnK k f) (ot:OnK k t) (ox:OnK k x) (q:Fin 4) (hq: ∀y,OnK k y→cP y x=0→kd k y=q) (hi:(Cv.arc k w f t).inner x=false):
 (decide (yA k (if w then t else f) x (if w then f else t)≤0)&&(kd k f !=q&&kd k t !=q))=false:=by
 have hon:(Cv.arc k w f t).on x=decide (yA k (if w then t else f) x (if w then f else t)≤0):=by
  rw[DE (b5.2 ox.2)]
  cases w with
  |true=>exact Ei h0 of ot ox
  |false=>exact F2 of.1 ot.1 ox.1
 unfold Cv.inner at hi
 rw[hon] at hi
 cases h:decide (yA k (if w then t else f) x (if w then f else t)≤0) with
 |false=>rfl
 |true=>
  rw[h,iF] at hi
  rw[iF]
  rcases Bool.and_eq_false_iff.1 hi with g|g
  ·have:cP f x=0:=by simpa [Cv.p] using g
   rw[hq f of this,bne_self_eq_false,pi]
  ·have:cP t x=0:=by simpa [Cv.q] using g
   rw[hq t ot this,bne_self_eq_false,nj]
theorem S4 (oy:OnK k y) (h:cP y (jT k)=0):kd k y=2:=by
 have h1:=vw hk h0 oy
 have h2:=(eP.1 h).1
 have h3:=ef (cm (sj hk h0)) (bk oy)
 grind
theorem TV (oy:OnK k y) (h:cP y (jE k)=0):kd k y=0:=by
 have h1:=vL hk h0 oy
 have h2:=(eP.1 h).1
 have h3:=ef (cm (r8 hk h0)) (bk oy)
 grind
omit hk in
theorem FD (op:OnK k p) (oq:OnK k q) (hd:kd k p=kd k q) (hx:cx p q=0):cP p q=0:=by
 refine eP.2 ⟨hx,?_⟩
 have cp:=bk op
 have cq:=bk oq
 rw[oc cp cq] at hx
 rw[si cp cq]
 have hp:=xM op
 have hq:=xM oq
 have hY:aT ((pY p-Re.of k.y)-(pY q-Re.of k.y))=aT (pY p-pY q):=congrArg aT (br fun n=>by simp only[aI];grind)
 rw[←hY]
 have sp:=CP cp k.y
 have sq:=CP cq k.y
 generalize hP:pY p-Re.of k.y=P at*
 generalize hQ:pY q-Re.of k.y=Q at*
 have e:(P-Q)*(P+Q)=(xw k p-xw k q)+ -((pX p-pX q)*((pX p-Re.of k.x)+(pX q-Re.of k.x))):=by
  rw[←hP,←hQ]
  exact br fun n=>by unfold xw;simp only[aQ,aI,aR,bc,bD];grind
 have h1:aT ((P-Q)*(P+Q))=0:=by
  rw[e,dT _ (by rw[cj,bH,hx,qN];rfl),show xw k p-xw k q=xw k p+ -xw k q from br fun n=>by simp only[aQ,aI,bD]<;>grind,dT _ (by rw[cj,hq];rfl),hp]
 rw[bH] at h1
 rcases v6.1 h1 with g|g
 ·exact g
 ·have hs:aT P=aT Q:=by
   rw[←sp,←sq]
   rcases zd h0 op with⟨a,b,_⟩|⟨a,b⟩|⟨a,b,_⟩|⟨a,b⟩<;>rcases zd h0 oq with⟨a',b',_⟩|⟨a',b'⟩|⟨a',b',_⟩|⟨a',b'⟩<;>rw[a,a'] at hd<;>first|exact absurd hd (by decide)|skip
   all_goals have b1:=ip (p.a2-k.y) p.b2 (zc p.b2 p.c);have b2:=ip (q.a2-k.y) q.b2 (zc q.b2 q.c);unfold sY at b b'⊢;omega
  have e2:aT P= -aT Q:=by
   rw[show P=(P+Q)+ -Q from br fun n=>by simp only[aQ,bD]<;>grind,ng g,cj]
  have e3:aT P=0:=by omega
  have e4:aT Q=0:=by omega
  rw[show P-Q=P+ -Q from br fun n=>by simp only[aQ,aI,bD]<;>grind,dT _ (by rw[cj,e4];rfl),e3]
theorem Nv {f t:Pt}(of:OnK k f) (ot:OnK k t) (hm:(Cv.arc k w f t).mono=true):
 if w then(kd k t=0∨kd k t=1)∧(kd k f=1∨kd k f=2)∧cx f t= -1 else(kd k f=2∨kd k f=3)∧(kd k t=3∨kd k t=0)∧cx t f=1:=by
 have hm:(!decide (cP f t≥0)&&(!(Cv.arc k w f t).inner (jT k)&& !(Cv.arc k w f t).inner (jE k)))=true:=hm
 have hlt:cP f t<0:=by grind
 have hL:(Cv.arc k w f t).inner (jT k)=false:=by grind
 have hR:(Cv.arc k w f t).inner (jE k)=false:=by grind
 have iL:=Me h0 of ot (uY hk h0) 2 (fun y oy h=>S4 hk h0 oy h) hL
 have iR:=Me h0 of ot (v8 hk h0) 0 (fun y oy h=>TV hk h0 oy h) hR
 have ha:=ef (bk of) (bk ot)
 have hx:cx f t≤0:=by
  by_cases h:cx f t≤0
  ·exact h
  ·have:cP f t=cx f t:=Zl (by omega)
   omega
 cases w with
 |false=>
  simp only[Bool.false_eq_true,if_false] at iL iR⊢
  rw[Cf,AG h0,vw hk h0 of,vw hk h0 ot] at iL
  rw[Cf,Ar h0,vL hk h0 of,vL hk h0 ot] at iR
  obtain⟨m,em⟩:=fU (fE t f)
  rw[em] at iL iR
  have hc:=iv h0 ot of
  rw[em] at hc
  have hn:(kd k f==kd k t&&i3 m==0)=false:=by
   rw[←em]
   cases h:(kd k f==kd k t&&cx t f==0) with
   |false=>rfl
   |true=>
    rw[dL] at h
    have:=FD h0 of ot (beq_iff_eq.1 h.1) (by have:=beq_iff_eq.1 h.2;omega)
    omega
  rcases Jg (kd k f) (kd k t) m hc hn iL iR with⟨p,q,r⟩|⟨p,q,r⟩
  ·grind
  grind
 |true=>
  simp only[if_true] at iL iR⊢
  rw[Cf,AG h0,vw hk h0 of,vw hk h0 ot] at iL
  rw[Cf,Ar h0,vL hk h0 of,vL hk h0 ot] at iR
  obtain⟨m,em⟩:=fU (fE f t)
  rw[em] at iL iR
  have hc:=iv h0 of ot
  rw[em] at hc
  have hn:(kd k t==kd k f&&i3 m==0)=false:=by
   rw[←em]
   cases h:(kd k t==kd k f&&cx f t==0) with
   |false=>rfl
   |true=>
    rw[dL] at h
    have:=FD h0 of ot (beq_iff_eq.1 h.1).symm (by have:=beq_iff_eq.1 h.2;omega)
    omega
  rw[Bool.and_comm (kd k f !=2)] at iL
  rw[Bool.and_comm (kd k f !=0)] at iR
  rcases Jg (kd k t) (kd k f) m hc hn iL iR with⟨p,q,r⟩|⟨p,q,r⟩
  ·omega
  grind
end
def Aq (uf up uq:Bool) (n1 n2 m:Int):Int:=GM (Dn up uf n1) (Dn uq uf n2) (Dn up uq m)
def NM (a b c:Int):Bool:=(!(decide (a≤0)&&decide (b≤0))||decide (c≤0))&&(!(decide (a<0)&&decide (b≤0))||decide (c<0))&&(!(decide (a≤0)&&decide (b<0))||decide (c<0))
set_option maxRecDepth 1000000 in
theorem ZZ: ∀(uf up uq ur:Bool) (i j l:Fin 3) (a:Fin 3),G6 (i3 i) (i3 j) (i3 a)=true→ ∀b:Fin 3,G6 (i3 j) (i3 l) (i3 b)=true→ ∀c:Fin 3,G6 (i3 i) (i3 l) (i3 c)=true→
 G6 (i3 a) (-(i3 b)) (i3 c)=true→NM (Aq uf up uq (i3 i) (i3 j) (i3 a)) (Aq uf uq ur (i3 j) (i3 l) (i3 b)) (Aq uf up ur (i3 i) (i3 l) (i3 c))=true:=by decide+kernel
theorem Q5: ∀(uf up uq:Bool) (i j a:Fin 3),G6 (i3 i) (i3 j) (i3 a)=true→Aq uf uq up (i3 j) (i3 i) (-(i3 a))= -Aq uf up uq (i3 i) (i3 j) (i3 a):=by decide+kernel
set_option maxRecDepth 1000000 in
theorem Tz: ∀(uf up uq ux:Bool) (i j l:Fin 3) (a:Fin 3),G6 (i3 l) (i3 i) (i3 a)=true→ ∀b:Fin 3,G6 (i3 j) (i3 i) (i3 b)=true→ ∀c:Fin 3,G6 (i3 l) (i3 j) (i3 c)=true→
 G6 (i3 a) (i3 b) (i3 c)=true→Aq uf up uq (i3 i) (i3 j) (-(i3 b))<0→Aq up up ux 0 (i3 a) (-(i3 a))≤0→Aq up ux uq (i3 a) (i3 b) (i3 c)≤0→(ux==up&&i3 a==0)=false→(ux==uq&&i3 c==0)=false→
 Aq uf up ux (i3 i) (i3 l) (-(i3 a))<0∧Aq uf ux uq (i3 l) (i3 j) (i3 c)<0:=by decide+kernel
theorem iA (k:Ci) (f p q:Pt):sB k f p q=Aq (lj k f) (lj k p) (lj k q) (cx p f) (cx q f) (cx p q):=rfl
section
variable {k:Ci}{f p q r x:Pt}(hf:0≤f.c) (hp:0≤p.c) (hq:0≤q.c)
include hf hp hq
theorem Rv:sB k f q p= -sB k f p q:=by
 rw[iA,iA,ef hp hq]
 have h:=j6 hf hp hq
 obtain⟨i,hi⟩:=fU (fE p f)
 obtain⟨j,hj⟩:=fU (fE q f)
 obtain⟨a,ha⟩:=fU (fE p q)
 rw[hi,hj,ha] at h⊢
 exact Q5 _ _ _ i j a h
variable (hr:0≤r.c)
include hr
theorem YN:NM (sB k f p q) (sB k f q r) (sB k f p r)=true:=by
 rw[iA,iA,iA]
 have h1:=j6 hf hp hq
 have h2:=j6 hf hq hr
 have h3:=j6 hf hp hr
 have h4:=j6 hq hp hr
 rw[ef hq hr] at h4
 obtain⟨i,hi⟩:=fU (fE p f)
 obtain⟨j,hj⟩:=fU (fE q f)
 obtain⟨l,hl⟩:=fU (fE r f)
 obtain⟨a,ha⟩:=fU (fE p q)
 obtain⟨b,hb⟩:=fU (fE q r)
 obtain⟨c,hc⟩:=fU (fE p r)
 rw[hi,hj,ha] at h1
 rw[hj,hl,hb] at h2
 rw[hi,hl,hc] at h3
 rw[ha,hb,hc] at h4
 rw[hi,hj,hl,ha,hb,hc]
 exact ZZ _ _ _ _ i j l a h1 b h2 c h3 h4
end
theorem UM: ∀(uf ux:Bool) (a:Fin 3),Aq uf uf ux 0 (i3 a) (-(i3 a))≤0:=by decide+kernel
theorem UO {f x:Pt}(hf:0≤f.c) (hx:0≤x.c):sB k f f x≤0:=by
 rw[iA,B8 hf,ef hx hf]
 obtain⟨a,ha⟩:=fU (fE x f)
 rw[ha]
 exact UM _ _ a
theorem RB: ∀(uf up uq:Bool) (i j a:Fin 3),G6 (i3 i) (i3 j) (i3 a)=true→Aq uf up uq (i3 i) (i3 j) (i3 a)=0→(up==uq&&i3 a==0)=true:=by decide+kernel
theorem zT (h0:0<k.q) (op:OnK k p) (oq:OnK k q) (h:(lj k p==lj k q&&cx p q==0)=true):cP p q=0:=by
 rw[dL] at h
 have hu:=beq_iff_eq.1 h.1
 have hx:=beq_iff_eq.1 h.2
 refine FD h0 op oq ?_ hx
 have hc:=iv h0 op oq
 rw[fP,fP] at hu
 rw[hx] at hc
 revert hu hc
 generalize kd k p=a
 generalize kd k q=b
 revert a b
 decide
theorem QO {f:Pt}(h0:0<k.q) (hf:0≤f.c) (op:OnK k p) (oq:OnK k q) (h:sB k f p q=0):cP p q=0:=by
 have h1:=j6 hf (bk op) (bk oq)
 rw[iA] at h
 obtain⟨i,hi⟩:=fU (fE p f)
 obtain⟨j,hj⟩:=fU (fE q f)
 obtain⟨a,ha⟩:=fU (fE p q)
 rw[hi,hj,ha] at h1 h
 exact zT h0 op oq (by rw[ha];exact RB _ _ _ i j a h1 h)
theorem Md {f x:Pt}(h0:0<k.q) (of:OnK k f) (op:OnK k p) (oq:OnK k q) (ox:OnK k x) (h1:sB k f p q<0) (h2:sB k p p x≤0) (h3:sB k p x q≤0) (n1:cP x p≠0) (n2:cP x q≠0):
 sB k f p x<0∧sB k f x q<0:=by
 have cf:=bk of
 have cp:=bk op
 have cq:=bk oq
 have cx':=bk ox
 have t1:=j6 cf cx' cp
 have t2:=j6 cf cq cp
 have t3:=j6 cf cx' cq
 have t4:=j6 cp cx' cq
 have e1:(lj k x==lj k p&&cx x p==0)=false:=by
  cases h:(lj k x==lj k p&&cx x p==0) with
  |false=>rfl
  |true=>exact absurd (zT h0 ox op h) n1
 have e2:(lj k x==lj k q&&cx x q==0)=false:=by
  cases h:(lj k x==lj k q&&cx x q==0) with
  |false=>rfl
  |true=>exact absurd (zT h0 ox oq h) n2
 rw[iA,ef cq cp] at h1
 rw[iA,B8 cp,ef cx' cp] at h2
 rw[iA] at h3
 rw[iA,iA,ef cx' cp]
 obtain⟨i,hi⟩:=fU (fE p f)
 obtain⟨j,hj⟩:=fU (fE q f)
 obtain⟨l,hl⟩:=fU (fE x f)
 obtain⟨a,ha⟩:=fU (fE x p)
 obtain⟨b,hb⟩:=fU (fE q p)
 obtain⟨c,hc⟩:=fU (fE x q)
 rw[hl,hi,ha] at t1
 rw[hj,hi,hb] at t2
 rw[hl,hj,hc] at t3
 rw[ha,hb,hc] at t4
 rw[hi,hj,hb] at h1
 rw[ha] at h2 e1
 rw[ha,hb,hc] at h3
 rw[hc] at e2
 rw[hi,hj,hl,ha,hc]
 exact Tz _ _ _ _ i j l a t1 b t2 c t3 t4 h1 h2 h3 e1 e2
def Ci.by (k:Ci) (w:Bool):Ci:=if w then k.mir else k
def Pt.by (p:Pt) (w:Bool):Pt:=if w then p.flip else p
theorem OnK.by (w:Bool) (h:OnK k p):OnK (k.by w) (p.by w):=by
 cases w with
 |true=>exact h.flip
 |false=>exact h
theorem XQ (w:Bool) (h:0<k.q):0<(k.by w).q:=by cases w<;>exact h
theorem Ho (w:Bool) (hp:0≤p.c) (hq:0≤q.c):cP (p.by w) (q.by w)=0↔cP p q=0:=by
 cases w with
 |false=>exact Iff.rfl
 |true=>
  show cP p.flip q.flip=0↔_
  rw[eP,eP,nl hp hq]
  exact⟨fun h=>⟨by omega,h.2⟩,fun h=>⟨by omega,h.2⟩⟩
theorem nM (k:Ci) (w:Bool) (f t p q:Pt):(Cv.arc k w f t).ord p q=sB (k.by w) (f.by w) (p.by w) (q.by w):=by cases w<;>rfl
section
variable {k:Ci}{w:Bool}{f t:Pt}(h0:0<k.q) (of:OnK k f)
include of
variable {p q r:Pt}(op:OnK k p) (oq:OnK k q)
include op oq
theorem jX:(Cv.arc k w f t).ord q p= -(Cv.arc k w f t).ord p q:=by
 rw[nM,nM]
 exact Rv (bk (of.by w)) (bk (op.by w)) (bk (oq.by w))
theorem tO (or_:OnK k r):NM ((Cv.arc k w f t).ord p q) ((Cv.arc k w f t).ord q r) ((Cv.arc k w f t).ord p r)=true:=by
 rw[nM,nM,nM]
 exact YN (bk (of.by w)) (bk (op.by w)) (bk (oq.by w)) (bk (or_.by w))
include h0
theorem uW (h:(Cv.arc k w f t).ord p q=0):cP p q=0:=by
 rw[nM] at h
 exact(Ho w (bk op) (bk oq)).1 (QO (XQ w h0) (bk (of.by w)) (op.by w) (oq.by w) h)
end
theorem zS {f t:Pt}(of:OnK k f) (op:OnK k p):(Cv.arc k w f t).ord f p≤0:=by
 rw[nM];exact UO (bk (of.by w)) (bk (op.by w))
theorem EK {c:Int}(h:NM a b c=true) (h1:a<0) (h2:b≤0):c<0:=by
 unfold NM at h
 grind
theorem HS {c:Int}(h:NM a b c=true) (h1:a≤0) (h2:b≤0):c≤0:=by
 unfold NM at h
 grind
theorem DK {c:Int}(h:NM a b c=true) (h1:a≤0) (h2:b<0):c<0:=by
 unfold NM at h
 grind
section
variable {k:Ci}{w:Bool}{f t:Pt}(h0:0<k.q) (of:OnK k f)
include h0 of
theorem Ie {x:Pt}(ox:OnK k x): ∀ {S:List Pt},(∀y∈S,OnK k y)→S.Pairwise (fun p q=>(Cv.arc k w f t).ord p q<0)→(gz (.arc k w f t) S x).Pairwise (fun p q=>(Cv.arc k w f t).ord p q<0)
 |[],_,_=>by rw[Cs];exact C3 _ _
 |o::l,hS,hp=>by
  have oo:=hS o (by simp)
  have hl: ∀y∈l,OnK k y:=fun y hy=>hS y (by simp[hy])
  obtain⟨h1,h2⟩:=lg.1 hp
  by_cases h:(Cv.arc k w f t).ord o x<0
  ·rw[za h]
   refine lg.2 ⟨fun y hy=>?_,Ie ox hl h2⟩
   rcases ti hy with g|g
   ·exact h1 y g
   ·rw[g];exact h
  ·rw[zM h]
   split
   ·exact hp
   ·rename_i hn
    have ha:=jX (w:=w) (t:=t) of oo ox
    have hz:(Cv.arc k w f t).ord o x≠0:=fun e=>hn (uW h0 of oo ox e)
    refine lg.2 ⟨fun y hy=>?_,hp⟩
    rcases dD.1 hy with g|g
    ·rw[g];omega
    ·exact EK (tO of ox oo (hl y g)) (by omega) (tC (h1 y g))
omit h0 of in
theorem CU {c:Cv}{x:Pt}(hx:0≤x.c): ∀ {S:List Pt},(∀y∈S,y∈gz c S x)∧ ∃y∈gz c S x,cP y x=0
 |[]=>by rw[Cs];exact⟨fun y hy=>(by cases hy),x,by simp,mi hx⟩
 |o::l=>by
  by_cases h:c.ord o x<0
  ·rw[za h]
   obtain⟨h1,y,h2,h3⟩:=CU (c:=c) hx (S:=l)
   refine⟨fun z hz=>?_,y,fC _ h2,h3⟩
   rcases dD.1 hz with g|g
   ·rw[g];simp
   ·exact fC _ (h1 z g)
  ·rw[zM h]
   split
   ·rename_i e;exact⟨fun z hz=>hz,o,by simp,e⟩
   ·exact⟨fun z hz=>fC _ hz,x,by simp,mi hx⟩
theorem Is: ∀(L:List Pt) {S:List Pt},(∀y∈L,OnK k y)→(∀y∈S,OnK k y)→S.Pairwise (fun p q=>(Cv.arc k w f t).ord p q<0)→
 (L.foldl (gz (.arc k w f t)) S).Pairwise (fun p q=>(Cv.arc k w f t).ord p q<0)∧(∀y∈S,y∈L.foldl (gz (.arc k w f t)) S)∧ ∀y∈L,∃z∈L.foldl (gz (.arc k w f t)) S,cP z y=0
 |[],S,_,_,hp=>⟨hp,fun y hy=>hy,fun y hy=>by cases hy⟩
 |x::L,S,hL,hS,hp=>by
  have ox:=hL x (by simp)
  have hS2: ∀y∈gz (.arc k w f t) S x,OnK k y:=fun y hy=>(ti hy).elim (hS y) (fun e=>e▸ox)
  obtain⟨h1,h2,h3⟩:=Is L (S:=gz (.arc k w f t) S x) (fun y hy=>hL y (by simp[hy])) hS2 (Ie h0 of ox hS hp)
  obtain⟨g1,y,g2,g3⟩:=CU (c:=.arc k w f t) (x:=x) (bk ox) (S:=S)
  rw[vF]
  refine⟨h1,fun z hz=>h2 z (g1 z hz),fun z hz=>?_⟩
  rcases dD.1 hz with e|e
  ·rw[e];exact⟨y,h2 y g2,g3⟩
  ·exact h3 z e
theorem AN (hL: ∀y∈L,OnK k y):(cz (.arc k w f t) L).Pairwise (fun p q=>(Cv.arc k w f t).ord p q<0)∧ ∀y∈L,∃z∈cz (.arc k w f t) L,cP z y=0:=by
 obtain⟨h1,_,h3⟩:=Is (w:=w) (t:=t) h0 of L (S:=[]) hL (fun y hy=>by cases hy) .nil
 exact⟨h1,h3⟩
end
theorem v5 {c:Cv}: ∀ {S:List Pt}{d:Cv},d∈gI c S→ ∃A p q B,S=A++p::q::B∧d=c.ends p q
 |[],d,h=>by cases h
 |[x],d,h=>by cases h
 |x::y::l,d,h=>by
  have h:d∈c.ends x y::gI c (y::l):=h
  rcases dD.1 h with h|h
  ·exact⟨[],x,y,l,rfl,h⟩
  ·obtain⟨A,p,q,B,e,hd⟩:=v5 h
   exact⟨x::A,p,q,B,by rw[e];rfl,hd⟩
theorem ET {x:Pt}(h0:0<k.q) (op:OnK k p) (oq:OnK k q) (ox:OnK k x):(Cv.arc k (!w) q p).inner x=(Cv.arc k w p q).inner x:=by
 have e:(Cv.arc k (!w) q p).on x=(Cv.arc k w p q).on x:=by
  rw[DE (b5.2 ox.2),DE (b5.2 ox.2)]
  cases w with
  |true=>
   have h1:=F2 (k:=k) oq.1 op.1 ox.1
   have h2:=Ei h0 op oq ox
   exact h1.trans h2.symm
  |false=>
   have h1:=Ei h0 oq op ox
   have h2:=F2 (k:=k) op.1 oq.1 ox.1
   exact h1.trans h2.symm
 show((Cv.arc k (!w) q p).on x&&(!(cP q x==0)&& !(cP p x==0)))=((Cv.arc k w p q).on x&&(!(cP p x==0)&& !(cP q x==0)))
 grind
theorem Nd (vc:CvV c): ∀d∈Rl c,d.fwd.mono=true:=by
 intro d hd
 have vd:=XH vc d hd
 cases c with
 |seg l f t=>
  have hd:d∈ [Cv.seg l f t]:=hd
  cases nD.1 hd
  have hn:cP f t≠0:=vc.ne
  have ha:=fH (cm vc.g.2.1) (cm vc.g.2.2)
  unfold Cv.fwd
  split
  ·rename_i e
   have e:cP f t>0:=of_decide_eq_true e
   show(!decide (cP t f≥0))=true
   rw[decide_eq_false (by omega)];rfl
  ·rename_i e
   have e: ¬cP f t>0:=fun g=>e (decide_eq_true g)
   show(!decide (cP f t≥0))=true
   rw[decide_eq_false (by omega)];rfl
 |arc k w f t=>
  have h0:0<k.q:=vc.pos
  have hk:=vc.g.1
  have of:OnK k f:=⟨vc.g.2.1,b5.1 vc.sp⟩
  have ot:OnK k t:=⟨vc.g.2.2,b5.1 vc.sq⟩
  have hd:d∈gI (.arc k w f t) (cz (.arc k w f t) ([f,t]++zr (.arc k w f t))):=by
   unfold Rl at hd;rw[if_pos (show(Cv.arc k w f t).isArc=true from rfl)] at hd;exact hd
  have hL: ∀y∈ [f,t]++zr (.arc k w f t),OnK k y:=fun y hy=>by
   rcases mW.1 hy with h|h
   ·simp only[dD,qS,or_false] at h
    rcases h with h|h<;>rw[h]<;>assumption
   ·exact⟨(wh vc y h).1,b5.1 (FQ (wh vc y h).2)⟩
  have hT: ∀y∈ [f,t]++zr (.arc k w f t),(Cv.arc k w f t).ord y t≤0:=fun y hy=>by
   rcases mW.1 hy with h|h
   ·simp only[dD,qS,or_false] at h
    rcases h with h|h
    ·rw[h];exact zS of ot
    ·rw[h];have:=jX (w:=w) (t:=t) of ot ot;omega
   ·have:=(wh vc y h).2
    unfold Cv.on at this
    rw[dL] at this
    exact of_decide_eq_true this.2
  obtain⟨hs,hin⟩:=AN (w:=w) (t:=t) h0 of hL
  obtain⟨A,p,q,B,eS,rfl⟩:=v5 hd
  have hmem: ∀y∈A++p::q::B,y∈ [f,t]++zr (.arc k w f t):=fun y hy=>mI (by rw[eS];exact hy)
  have op:OnK k p:=hL p (hmem p (by simp))
  have oq:OnK k q:=hL q (hmem q (by simp))
  rw[eS] at hs hin
  obtain⟨hA,hpq,hAB⟩:=xN.1 hs
  obtain⟨hp1,hq1⟩:=lg.1 hpq
  have hlt:(Cv.arc k w f t).ord p q<0:=hp1 q (by simp)
  have hne:cP p q≠0:=se vc.g op.1 oq.1 hlt
  have ha:=fH (bk op) (bk oq)
  have key: ∀x,OnK k x→(x=jT k∨x=jE k)→(Cv.arc k w p q).inner x=false:=fun x ox hx=>by
   cases hi:(Cv.arc k w p q).inner x with
   |false=>rfl
   |true=>
    exfalso
    unfold Cv.inner at hi
    rw[dL,dL] at hi
    obtain⟨i1,i2,i3⟩:=hi
    have n1:cP p x≠0:=by simpa [Cv.p] using i2
    have n2:cP q x≠0:=by simpa [Cv.q] using i3
    unfold Cv.on at i1
    rw[dL,dL] at i1
    have b1:(Cv.arc k w p q).ord p x≤0:=of_decide_eq_true i1.1.2
    have b2:(Cv.arc k w p q).ord x q≤0:=of_decide_eq_true i1.2
    rw[nM] at b1 b2
    have hl2:=hlt
    rw[nM] at hl2
    have a1:=fH (bk op) (bk ox)
    have a2:=fH (bk oq) (bk ox)
    obtain⟨r1,r2⟩:=Md (XQ w h0) (of.by w) (op.by w) (oq.by w) (ox.by w) hl2 b1 b2 (fun e=>n1 (by have:=(Ho w (bk ox) (bk op)).1 e;omega)) (fun e=>n2 (by have:=(Ho w (bk ox) (bk oq)).1 e;omega))
    rw[←nM (t:=t)] at r1 r2
    have xt:(Cv.arc k w f t).ord x t<0:=EK (tO of ox oq ot) r2 (hT q (hmem q (by simp)))
    have fx:(Cv.arc k w f t).ord f x<0:=DK (tO of of op ox) (zS of op) r1
    have hin2:(Cv.arc k w f t).inner x=true:=by
     unfold Cv.inner
     rw[DE (b5.2 ox.2)]
     show(decide ((Cv.arc k w f t).ord f x≤0)&&decide ((Cv.arc k w f t).ord x t≤0)&&(!(cP f x==0)&& !(cP t x==0)))=true
     have m1:cP f x≠0:=se vc.g of.1 ox.1 fx
     have m2:cP x t≠0:=se vc.g ox.1 ot.1 xt
     have m3:=fH (bk ox) (bk ot)
     rw[decide_eq_true (tC fx),decide_eq_true (tC xt)]
     simp only[Bool.and_self,iF,dL,qu,beq_eq_false_iff_ne,ne_eq]
     exact⟨m1,by omega⟩
    have hcut:x∈zr (.arc k w f t):=by
     show x∈(if _ then[jT k] else[])++(if _ then[jE k] else[])
     rcases hx with e|e
     ·rw[←e,hin2];simp
     ·refine mW.2 (.inr ?_)
      rw[←e,hin2];simp
    obtain⟨y,hy,ey⟩:=hin x (mW.2 (.inr hcut))
    have oy:OnK k y:=hL y (hmem y hy)
    have zy:(Cv.arc k w f t).ord y x=0:=wl (bk oy) (bk ox) ey vc.g
    have ay:=jX (w:=w) (t:=t) of oy ox
    have apx:=jX (w:=w) (t:=t) of op ox
    have aqx:=jX (w:=w) (t:=t) of ox oq
    rcases mW.1 hy with g|g
    ·have l1:(Cv.arc k w f t).ord y p<0:=hAB y g p (by simp)
     have:=DK (tO (w:=w) (t:=t) of ox oy op) (by omega) l1
     omega
    ·rcases dD.1 g with g|g
     ·have:=jX (w:=w) (t:=t) of op op
      rw[g] at zy
      omega
     ·rcases dD.1 g with g|g
      ·rw[g] at zy
       omega
      ·have l1:(Cv.arc k w f t).ord q y<0:=(lg.1 hq1).1 y g
       have:=EK (tO (w:=w) (t:=t) of oq oy ox) l1 (by omega)
       omega
  have kL:=key _ (uY hk h0) (.inl rfl)
  have kR:=key _ (v8 hk h0) (.inr rfl)
  unfold Cv.fwd
  split
  ·rename_i e
   have e:cP p q>0:=of_decide_eq_true e
   show(!decide (cP q p≥0)&&(!(Cv.arc k (!w) q p).inner (jT k)&& !(Cv.arc k (!w) q p).inner (jE k)))=true
   rw[ET h0 op oq (uY hk h0),ET h0 op oq (v8 hk h0),kL,kR,decide_eq_false (by omega)];rfl
  ·rename_i e
   have e: ¬cP p q>0:=fun g=>e (decide_eq_true g)
   show(!decide (cP p q≥0)&&(!(Cv.arc k w p q).inner (jT k)&& !(Cv.arc k w p q).inner (jE k)))=true
   grind
theorem JU:(iU c l).length≤l.length+1:=by
 have h1:=jg c (cz c ([c.p,c.q]++l))
 have h2:=Ai (c:=c) (l:=[c.p,c.q]++l)
 unfold iU
 grind
theorem CQ (h:cP c.p c.q≠0):0<(iU c l).length:=by
 unfold iU
 rw[jg]
 have:=AW (c:=c) (l:=l) h
 omega
def T3 (a b c:Int):Prop:=(a≤0→b≤0→c≤0)∧(a<0→b≤0→c<0)∧(a≤0→b<0→c<0)
theorem W2 (x y z:Re):T3 (aT (x-y)) (aT (y-z)) (aT (x-z)):=by
 have e:x-z=(x-y)+(y-z):=br fun n=>by simp only[aQ,aI]<;>grind
 rw[e]
 generalize x-y=X
 generalize y-z=Y
 have h1:=bJ X
 have h2:=bJ Y
 unfold T3
 by_cases a:aT X=0
 ·rw[ng a];omega
 ·by_cases b:aT Y=0
  ·rw[dT _ b];omega
  ·by_cases c:aT X=aT Y
   ·rw[jD c];omega
   grind
theorem BK (x y:Rat):aM x y=aT (Re.of x-Re.of y):=by
 rw[←oK,←cV]
 exact congrArg aT (br fun n=>by simp only[aI,bc];grind)
section
variable {p q r:Pt}(hp:0≤p.c) (hq:0≤q.c) (hr:0≤r.c)
include hp hq hr
theorem Sj:T3 (cP p q) (cP q r) (cP p r):=by
 have h1:T3 (cx p q) (cx q r) (cx p r):=by rw[oc hp hq,oc hq hr,oc hp hr];exact W2 _ _ _
 have h2:T3 (cy p q) (cy q r) (cy p r):=by rw[si hp hq,si hq hr,si hp hr];exact W2 _ _ _
 have e: ∀(a b:Pt),cP a b=if cx a b≠0 then cx a b else cy a b:=fun _ _=>rfl
 unfold T3 at*
 grind
end
def sW (w:Bool):Rat:=if w then 1 else-1
def mK (k:Ci) (x:Rat):Rat:=k.q-(x-k.x)*(x-k.x)
def xr:Cv→Rat→Pt
 | .seg l _ _,x=>⟨x,0,(l.c-l.a*x)/l.b,0,0⟩
 | .arc k w _ _,x=>fV x 0 k.y (sW w) (mK k x)
def We:Cv→Rat→List CellD
 | .seg l _ _,x=>cR ((l.c-l.a*x)/l.b)++cR 0++cR 0
 | .arc k w _ _,x=>if je (mK k x) then cR (k.y+sW w*rt (mK k x))++cR 0++cR 0 else cR k.y++cR (sW w)++cR (zc (sW w) (mK k x))
theorem Ry {f t:Pt}{x:Rat}(hs:je (mK k x)=true):We (.arc k w f t) x=cR (k.y+sW w*rt (mK k x))++cR 0++cR 0:=if_pos hs
theorem Qw {f t:Pt}{x:Rat}(hs:je (mK k x)=false):We (.arc k w f t) x=cR k.y++cR (sW w)++cR (zc (sW w) (mK k x)):=if_neg (by rw[hs];decide)
theorem Cd (c:Cv) (x:Rat):(We c x).length=12:=by
 cases c with
 |seg l f t=>rfl
 |arc k w f t=>
  show(if je (mK k x)=true then cR (k.y+sW w*rt (mK k x))++cR 0++cR 0 else cR k.y++cR (sW w)++cR (zc (sW w) (mK k x))).length=12
  split<;>rfl
def yu (c:Cv) (x:Rat):Bool:= !c.vert&&(decide (mO c.p x≤0)&&decide (0≤mO c.q x))
def li (c:Cv) (x:Rat):Bool:=decide (mO c.p x≤0)&&decide (-mO c.q x≤0)
theorem lQ {x:Rat}:yu c x=(!c.vert&&li c x):=by
 unfold yu li
 grind
theorem Ct {f t:Pt}{x:Rat}(of:OnK k f) (ot:OnK k t) (h1:mO f x≤0) (h2:0≤mO t x):0≤mK k x:=by
 rw[oH (bk of)] at h1
 rw[oH (bk ot)] at h2
 have main: ∀(p:Pt),OnK k p→0≤aT ((pX p-Re.of x)*(pX p-Re.of k.x+(Re.of x-Re.of k.x)))→0≤mK k x:=fun p op h=>by
  have w:=xM op
  have e:Re.of (mK k x)=((pY p-Re.of k.y)*(pY p-Re.of k.y)+(pX p-Re.of x)*(pX p-Re.of k.x+(Re.of x-Re.of k.x)))+ -xw k p:=br fun n=>by unfold mK xw;simp only[aQ,aI,aR,bc,bD];grind
  have h3:0≤aT ((pY p-Re.of k.y)*(pY p-Re.of k.y)):=by rw[bH];rcases bJ (pY p-Re.of k.y) with g|g|g<;>rw[g]<;>decide
  have h4:0≤aT (Re.of (mK k x)):=by
   rw[e,dT _ (by rw[cj,w];rfl)]
   exact qB h3 h
  rw[cV] at h4
  apply gg
  intro g
  have:aM (mK k x) 0= -1:=by unfold aM;rw[if_pos (by grind)]
  omega
 by_cases hx:x-k.x<0
 ·refine main f of ?_
  have a:aT (Re.of x-Re.of k.x)= -1:=by
   rw[←BK];unfold aM;rw[if_pos (by grind)]
  rw[bH]
  have c1:=bJ (pX f-Re.of x)
  rcases c1 with g|g|g
  ·omega
  ·grind
  ·have e:pX f-Re.of k.x=(pX f-Re.of x)+(Re.of x-Re.of k.x):=br fun n=>by simp only[aQ,aI];grind
   have h5:aT (pX f-Re.of k.x)= -1:=by rw[e,jD (by omega)];exact g
   have h6:aT (pX f-Re.of k.x+(Re.of x-Re.of k.x))= -1:=by rw[jD (by omega)];exact h5
   grind
 ·refine main t ot ?_
  have a:0≤aT (Re.of x-Re.of k.x):=by
   rw[←BK];unfold aM;rw[if_neg (by grind)];split<;>decide
  rw[bH]
  have h5:0≤aT (pX t-Re.of k.x):=by
   rw[show pX t-Re.of k.x=(pX t-Re.of x)+(Re.of x-Re.of k.x) from br fun n=>by simp only[aQ,aI];grind]
   exact qB h2 a
  have h6:=qB h5 a
  exact fZ h2 h6
theorem xA (w:Bool):Rz 1 (sW w):=by
 unfold sW;cases w
 ·rw[if_neg (by decide)];exact n9.neg
 ·rw[if_pos rfl];exact n9
theorem Va (h:w=true):((1:Int):Rat)=sW w:=by rw[h];rfl
theorem Ut (h:w=false):((-1:Int):Rat)=sW w:=by rw[h];decide+kernel
theorem Rq:je 0=true:=by decide+kernel
theorem VN (c:Cv) (x:Rat):We c x=cR (xr c x).a2++cR (xr c x).b2++cR (zc (xr c x).b2 (xr c x).c):=by
 cases c with
 |seg l f t=>show cR _++cR 0++cR 0=cR _++cR 0++cR (zc 0 0);rw[F6 rfl];rfl
 |arc k w f t=>
  cases hs:je (mK k x) with
  |true=>
   rw[Ry hs,show xr (.arc k w f t) x=⟨x+0*rt (mK k x),0,k.y+sW w*rt (mK k x),0,0⟩ from if_pos hs]
   show _=cR _++cR 0++cR (zc 0 0)
   rw[F6 rfl]
  |false=>rw[Qw hs,show xr (.arc k w f t) x=⟨x,0,k.y,sW w,mK k x⟩ from if_neg (by rw[hs];decide)]
theorem QR (c:Cv) (x:Rat):x=(xr c x).a1∧0=(xr c x).b1:=by
 cases c with
 |seg l f t=>exact⟨rfl,rfl⟩
 |arc k w f t=>
  cases hs:je (mK k x) with
  |true=>
   rw[show xr (.arc k w f t) x=⟨x+0*rt (mK k x),0,k.y+sW w*rt (mK k x),0,0⟩ from if_pos hs]
   exact⟨by show x=x+0*rt (mK k x);grind,rfl⟩
  |false=>rw[show xr (.arc k w f t) x=⟨x,0,k.y,sW w,mK k x⟩ from if_neg (by rw[hs];decide)];exact⟨rfl,rfl⟩
theorem QC {b1 b2 c:Rat}(h:uU b1 b2 c=true) (hb:0=b1):Np 0 b2 (cc 0 0 (zc b2 c))=c:=by
 subst hb
 rw[Fv rfl]
 by_cases e:b2=0
 ·unfold uU at h
  rw[if_pos ⟨rfl,e⟩] at h
  rw[MC rfl e];exact(of_decide_eq_true h).symm
 ·rw[KM e,oY e]
end Go.Proofs.YtegpmhlfjkhjmaaGreat
