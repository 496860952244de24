/-Data:calls whose result is a new slice;calls that shorten a slice of their caller. -/
import Derived.Test.YtegpmhlfjkhjmaaGreatYgO
namespace Go.Proofs.YtegpmhlfjkhjmaaGreat
open Go Go.RowKit
variable {args:Array Operand}{at_:Array TypeId}{w:Bool}{k:Ci}{cd:Code}{fn:Func}{f:FuncId}{a b r:Int}{cs cs' cs0 cs1 us zs:List CellD}{ds rs:List D0}{xs:List Operand}{N c i m n n1 o' t:Nat}{fo x:Operand}{p q y:Pt}{U U2 e:TypeId}{v z:Value}
variable {ty:TypeId}{pos:String}{af:Array Edge}{g:Option (Nat×Bool)}{dst:Option Nat}
theorem rm:type_of% @List.not_mem_nil:=@List.not_mem_nil
theorem Bf:type_of% @List.pairwise_singleton:=@List.pairwise_singleton
def WB (x:Value):List Value→Value
 |[]=>x
 |xs=>.tuple (x::xs).toArray
def MZ (t n c:Nat):List D0→DV
 |[]=>.o t n c
 |ds=>.tn t n c ds
structure OkN (P:Program) (f:FuncId) (ds:List D0) (U:TypeId) (n m:Nat) (us:List CellD) (rs:List D0):Prop where
 cal:fj P f=true
 run: ∀(V:Nat→Prop) (vs:Array Value) (w:World),(∀x,V x→x<w.heap.size)→RdL V w vs.toList ds→Calls P f vs w fun e w'=> ∃(b c:Nat) (bs:Array Value) (rest:List CellD) (xs:List Value),
  e=.returned (WB (.slice (some ⟨b,0,none⟩) n c) xs)∧Below w.heap.size w w'∧w.heap.size≤b∧b<w'.heap.size∧n≤c∧c≤maxLen∧rest.length=(c-n)*m∧w'.heap[b]? =some (.cells bs U (0,0))∧RdCs (fun x=>V x∨x=b) w' bs.toList (us++rest)∧RdL (fun x=>V x∨x=b) w' xs rs
structure OkT (P:Program) (f:FuncId) (U:TypeId) (n c n1:Nat) (cs0 cs1:List CellD) (ds:List D0):Prop where
 cal:fj P f=true
 run: ∀(V:Nat→Prop) (b:Nat) (bs vs:Array Value) (vl:List Value) (w:World),vs.toList=.slice (some ⟨b,0,none⟩) n c::vl→(∀x,V x→x<w.heap.size)→V b→w.heap[b]? =some (.cells bs U (0,0))→RdCs V w bs.toList cs0→RdL V w vl ds→
  Calls P f vs w fun e w'=> ∃bs':Array Value,e=.returned (.slice (some ⟨b,0,none⟩) n1 c)∧w'.heap[b]? =some (.cells bs' U (0,0))∧Mid b w w'∧RdCs V w' bs'.toList cs1
section
variable {P:Program}
theorem KU {a:Act}(h:a.tmps[t]? =some v):a.tmps.getD t undef=v:=by simp_all
theorem OkN.of (hcal:fj P f=true) (hf:P.funcs[f]? =some fn) (hb:fn.body=some cd) (hlen:Nat.ble ds.length fn.ntmps=true)
 (h:Dw P cd ⟨fn.ntmps,mp 0 ds,[]⟩ fun e σ=>(e=.normal∨e=.ret)∧ ∃(t k c:Nat) (rv:List ResultVar) (rest:List CellD),fn.results.toList=.tmp t::rv∧aK t σ.tm=some (.o k n c)∧aK k σ.bx=some (U,us++rest)∧n≤c∧c≤maxLen∧rest.length=(c-n)*m∧qm P σ rv=some rs):OkN P f ds U n m us rs:=by
 refine⟨hcal,fun V vs w hV hds=>calls_of_wp hf hb ?_⟩
 refine tc ?_ (h V ⟨w,fun _=>False,fn.ntmps⟩ (fun _=>0) _ w (Ys (dO hlen) hV hds))
 rintro e a' w' ⟨σ',β',hn,⟨he,t,k,c,rv,rest,hrv,ht,hk,hc1,hc2,hrl,hres⟩,hr⟩
 obtain⟨xs,hrun,hxs⟩:=BW hr _ _ hres
 obtain⟨v,ev,hv⟩:=hr.sees.tmp t _ trivial ht
 subst hv
 obtain⟨hvk,bs,ebl,hrd⟩:=hr.sees.box k _ _ hk
 have hBk:σ'.B k≠none:=by rw[show σ'.B k=_ from hk];simp
 have hk2:Keep (fun b=>V b∨ ∃k,σ'.B k≠none∧β' k=b) (fun x=>V x∨x=β' k) w' w':=⟨Nat.le_refl _,fun _ _ _=>rfl,fun x _ hx=>hx.imp id fun e=>⟨k,hBk,e.symm⟩⟩
 have hall:(fn.results.toList.mapM (qW a')).run P w'=.ok (.slice (some ⟨β' k,0,none⟩) n c::xs) w':=by
  rw[hrv,List.mapM_cons]
  have e1:(qW a' (.tmp t)).run P w'=.ok (.slice (some ⟨β' k,0,none⟩) n c) w':=by show(pure (a'.tmps.getD t undef):Go.Sem Value).run P w'=_;rw[KU ev];rfl
  simp only[eH,e1,fa,hrun,fQ]
 have hresults:(results fn a'.tmps).run P w'=.ok (WB (.slice (some ⟨β' k,0,none⟩) n c) xs) w':=by
  rw[uN hall]
  cases xs with
  |nil=>rfl
  |cons x xs=>exact congrArg (fun q=>Result.ok q w') (dif_neg (by simp))
 have hown:w.heap.size≤β' k:=(hr.own k hBk).resolve_right (fun h=>h)
 rcases he with rfl|rfl
 ·exact⟨hr.dfr,_,hresults,β' k,c,bs,rest,xs,rfl,hr.bel.to (fun _ h=>h),hown,hr.sees.av _ (.inr ⟨k,hBk,rfl⟩),hc1,hc2,hrl,ebl,hrd.keep hk2,hxs.keep hk2⟩
 ·exact⟨hr.dfr,_,hresults,β' k,c,bs,rest,xs,rfl,hr.bel.to (fun _ h=>h),hown,hr.sees.av _ (.inr ⟨k,hBk,rfl⟩),hc1,hc2,hrl,ebl,hrd.keep hk2,hxs.keep hk2⟩
theorem OkT.of {K:Nat}(hcal:fj P f=true) (hf:P.funcs[f]? =some fn) (hb:fn.body=some cd) (hlen:Nat.ble (ds.length+1) fn.ntmps=true) (hK:Nat.ble fn.ntmps K=true)
 (h:Dw P cd ⟨fn.ntmps,(0,.o K n m)::mp 1 ds,[(K,U,cs0)]⟩ fun e σ=>(e=.normal∨e=.ret)∧aK K σ.bx=some (U,cs1)∧ ∃t,fn.results.toList=[.tmp t]∧aK t σ.tm=some (.o K n1 m)):OkT P f U n m n1 cs0 cs1 ds:=by
 refine⟨hcal,fun V b bs vs vl w hvs hV hVb hbl hcs hds=>calls_of_wp hf hb ?_⟩
 refine tc ?_ (h _ _ (fun _=>b) _ w (TD (dO hlen) (dO hK) hvs hV hVb hbl hcs hds))
 rintro e a' w' ⟨σ',β',hn,⟨he,hbx,t,hrv,ht⟩,hr⟩
 obtain⟨hfix,bs',ebl,hm,hrd⟩:=Ub hr hbx
 obtain⟨v,ev,hv⟩:=hr.sees.tmp t _ trivial ht
 have hv:v=.slice (some ⟨β' K,0,none⟩) n1 m:=hv
 rw[hfix] at hv
 subst hv
 have hall:(fn.results.toList.mapM (qW a')).run P w'=.ok [.slice (some ⟨b,0,none⟩) n1 m] w':=by
  rw[hrv,List.mapM_cons]
  have e1:(qW a' (.tmp t)).run P w'=.ok (.slice (some ⟨b,0,none⟩) n1 m) w':=by show(pure (a'.tmps.getD t undef):Go.Sem Value).run P w'=_;rw[KU ev];rfl
  simp only[eH,e1,fa,List.mapM_nil,fQ]
 have hresults:(results fn a'.tmps).run P w'=.ok (.slice (some ⟨b,0,none⟩) n1 m) w':=uN hall
 rcases he with rfl|rfl
 ·exact⟨hr.dfr,_,hresults,bs',rfl,ebl,hm,hrd⟩
 ·exact⟨hr.dfr,_,hresults,bs',rfl,ebl,hm,hrd⟩
variable {ops os:Array Oper}{N:Nat}{tm:List (Nat×DV)}{bx:List (Nat×TypeId×List CellD)}
theorem Iu 
 (hf:cO (fun s=>aK s tm) fo=some (.v (.c (.f f)))) (ha:oY (fun s=>aK s tm) args.toList=some ds) (hok:OkN P f ds U n m us rs) (hd:aK t bx=none) (hg:gd ops ⟨some t,.call ⟨.value fo,args,at_⟩,ty,pos,af,g⟩ (fun s=>aK s tm)=some true):
 Iv P ops ⟨some t,.call ⟨.value fo,args,at_⟩,ty,pos,af,g⟩ ⟨N,tm,bx⟩ (fun σ'=> ∃c rest,n≤c∧c≤maxLen∧rest.length=(c-n)*m∧σ'=⟨N,(t,MZ t n c rs)::tm,(t,U,us++rest)::bx⟩):=by
 intro av w0 β a w hrel htn
 have hs:=Sees.of hrel.sees (L:=iK ops ⟨some t,.call ⟨.value fo,args,at_⟩,ty,pos,af,g⟩) (fun _ _=>trivial) (fun _ _ _ h=>h) (fun _ _ h=>h)
 refine⟨d9 hs hg,?_⟩
 have h1:=RdC.func_eq (ap hs (x:=fo) (by simp[Op.operands,Call.operands]) hf)
 have h2:=iS hs args.toList ds (fun x hx=>by have hx2:=Array.mem_toList_iff.1 hx;simp[Op.operands,Call.operands,hx2]) ha
 have hc:=hok.cal
 unfold fj at hc
 cases hfn:P.funcs[f]? with
 |none=>rw[hfn] at hc;cases hc
 |some fn=>
  rw[hfn] at hc
  simp only[dF,bne_iff_ne,ne_eq,rl] at hc
  have hrun:(execOp a.eval ⟨some t,.call ⟨.value fo,args,at_⟩,ty,pos,af,g⟩).run P w=.ok (.enter f (args.map a.eval)) w:=by
   have hb2:fn.body≠none:=by have:=hc.2;cases hbb:fn.body with
    |none=>rw[hbb] at this;cases this
    |some c=>simp
   simp[execOp,resolve,h1,Deferred.ofValue,invoke,callFunc,program,Sem.run,hfn,hc.1,hb2]
  unfold Gives
  rw[hrun]
  refine(hok.run _ (args.map a.eval) w hs.av (by simpa using h2)).mono ?_
  rintro e w' ⟨b,c,bs,rest,xs,rfl,hw,hb1,hb2,hc1,hc2,hrl,hcl,hrd,hxs⟩
  refine⟨_,rfl,⟨N,(t,MZ t n c rs)::tm,(t,U,us++rest)::bx⟩,fun k=>if k=t then b else β k,⟨c,rest,hc1,hc2,hrl,rfl⟩,rfl,?_⟩
  have hx:RdX (fun y=>(av y∨ ∃k,aK k bx≠none∧β k=y)∨y=b) w' (fun k=>if k=t then b else β k) (WB (.slice (some ⟨b,0,none⟩) n c) xs) (MZ t n c rs):=by
   cases rs with
   |nil=>
    cases xs with
    |nil=>show _=Value.slice (some ⟨if t=t then b else β t,0,none⟩) n c;rw[if_pos rfl];rfl
    |cons x xs=>exact absurd hxs.1 (by simp)
   |cons r rs=>
    cases xs with
    |nil=>exact absurd hxs.1 (by simp)
    |cons x xs=>exact⟨x::xs,by show _=Value.tuple (Value.slice (some ⟨if t=t then b else β t,0,none⟩) n c::x::xs).toArray;rw[if_pos rfl];rfl,hxs⟩
  have:=hrel.fresh (d:=t) (htn t rfl) hd hw hb1 hb2 hcl hrd hx (by intro k hk;cases rs<;>(injection hk with hk;exact hk.symm))
  refine this.congr (fun s=>?_) (fun l=>?_)
  ·show aK s ((t,MZ t n c rs)::tm)=(if some t=some s then _ else aK s tm)
   rw[b6]
   grind
  ·show aK l ((t,U,us++rest)::bx)=(if some t=some l then _ else aK l bx)
   rw[b6]
   grind
theorem IL {k:Nat}
 (hf:cO (fun s=>aK s tm) fo=some (.v (.c (.f f)))) (hargs:args.toList=x::xs) (hx:cO (fun s=>aK s tm) x=some (.o k n c)) (ha:oY (fun s=>aK s tm) xs=some ds) (hb:aK k bx=some (U,cs0)) (hok:OkT P f U n c n1 cs0 cs1 ds)
 (hg:gd ops ⟨some t,.call ⟨.value fo,args,at_⟩,ty,pos,af,g⟩ (fun s=>aK s tm)=some true):
 Iv P ops ⟨some t,.call ⟨.value fo,args,at_⟩,ty,pos,af,g⟩ ⟨N,tm,bx⟩ (fun σ'=>σ'=⟨N,(t,.o k n1 c)::tm,(k,U,cs1)::bx⟩):=by
 intro av w0 β a w hrel htn
 have hs:=Sees.of hrel.sees (L:=iK ops ⟨some t,.call ⟨.value fo,args,at_⟩,ty,pos,af,g⟩) (fun _ _=>trivial) (fun _ _ _ h=>h) (fun _ _ h=>h)
 refine⟨d9 hs hg,?_⟩
 have hin: ∀y∈x::xs,y∈(⟨some t,.call ⟨.value fo,args,at_⟩,ty,pos,af,g⟩:Oper).op.operands:=fun y hy=>by
  have hx2:y∈args:=by grind
  simp[Op.operands,Call.operands,hx2]
 have h1:=RdC.func_eq (ap hs (x:=fo) (by simp[Op.operands,Call.operands]) hf)
 have h2:=iS hs xs ds (fun y hy=>hin y (gN _ hy)) ha
 have h3:a.eval x=.slice (some ⟨β k,0,none⟩) n c:=ap hs (hin x (gT ..)) hx
 obtain⟨hV,bs,e,hr⟩:=hs.box k U cs0 hb
 have hc:=hok.cal
 unfold fj at hc
 cases hfn:P.funcs[f]? with
 |none=>rw[hfn] at hc;cases hc
 |some fn=>
  rw[hfn] at hc
  simp only[dF,bne_iff_ne,ne_eq,rl] at hc
  have hrun:(execOp a.eval ⟨some t,.call ⟨.value fo,args,at_⟩,ty,pos,af,g⟩).run P w=.ok (.enter f (args.map a.eval)) w:=by
   have hb2:fn.body≠none:=by have:=hc.2;cases hbb:fn.body with
    |none=>rw[hbb] at this;cases this
    |some c=>simp
   simp[execOp,resolve,h1,Deferred.ofValue,invoke,callFunc,program,Sem.run,hfn,hc.1,hb2]
  unfold Gives
  rw[hrun]
  refine(hok.run _ (β k) bs (args.map a.eval) (xs.map a.eval) w (by rw[wV,hargs,si,h3]) hs.av hV e hr h2).mono ?_
  rintro e w' ⟨bs',rfl,hbl,hm,hr1⟩
  refine⟨_,rfl,⟨N,(t,.o k n1 c)::tm,(k,U,cs1)::bx⟩,β,rfl,rfl,?_⟩
  have hsv:=hrel.sval (k:=k) (d:=some t) (x:=.n) (v:=undef) hb hbl hm htn rfl hr1 trivial
  have hval:=hsv.value (d:=some t) (x:=.o k n1 c) (v:=.slice (some ⟨β k,0,none⟩) n1 c) htn (cU _ _) rfl (by intro l hl;injection hl with hl;subst hl;rw[if_pos rfl];simp)
  rw[AK] at hval
  refine hval.congr (fun s=>?_) (fun l=>?_)
  ·show aK s ((t,DV.o k n1 c)::tm)=(if some t=some s then _ else if some t=some s then _ else aK s tm)
   rw[b6]
   grind
  ·show aK l ((k,U,cs1)::bx)=(if k=l then _ else aK l bx)
   rw[b6]
variable {os:List Oper}{K:St→Prop}
theorem yT 
 (hf:cO (fun s=>aK s tm) fo=some (.v (.c (.f f)))) (ha:oY (fun s=>aK s tm) args.toList=some ds) (hok:OkN P f ds U n m us rs) (hd:aK t bx=none) (hg:gd ops ⟨some t,.call ⟨.value fo,args,at_⟩,ty,pos,af,g⟩ (fun s=>aK s tm)=some true)
 (hk: ∀c rest,n≤c→c≤maxLen→rest.length=(c-n)*m→dl P ops os ⟨N,(t,MZ t n c rs)::tm,(t,U,us++rest)::bx⟩ K):
 dl P ops (⟨some t,.call ⟨.value fo,args,at_⟩,ty,pos,af,g⟩::os) ⟨N,tm,bx⟩ K:=
 .inr ⟨_,Iu hf ha hok hd hg,fun σ' ⟨c,rest,h1,h2,h3,e⟩=>by subst e;exact hk c rest h1 h2 h3⟩
theorem FZ {k:Nat}
 (hf:cO (fun s=>aK s tm) fo=some (.v (.c (.f f)))) (hargs:args.toList=x::xs) (hx:cO (fun s=>aK s tm) x=some (.o k n c)) (ha:oY (fun s=>aK s tm) xs=some ds) (hb:aK k bx=some (U,cs0)) (hok:OkT P f U n c n1 cs0 cs1 ds)
 (hg:gd ops ⟨some t,.call ⟨.value fo,args,at_⟩,ty,pos,af,g⟩ (fun s=>aK s tm)=some true) (hk:dl P ops os ⟨N,(t,.o k n1 c)::tm,(k,U,cs1)::bx⟩ K):
 dl P ops (⟨some t,.call ⟨.value fo,args,at_⟩,ty,pos,af,g⟩::os) ⟨N,tm,bx⟩ K:=
 .inr ⟨_,IL hf hargs hx ha hb hok hg,fun σ' e=>by subst e;exact hk⟩
variable {T:TF}{B:BF}
theorem Cs {k:Nat}
 (hx:cO T x=some (.tn k n c ds)) (hg:gd ops ⟨dst,.extract x 0,ty,pos,af,g⟩ T=some true):Sem P ops ⟨dst,.extract x 0,ty,pos,af,g⟩ T B (.r (.o k n c)):=
 bG hg (fun l hl=>m9 (by simp[Op.operands]) hx (by injection hl with hl;subst hl;rfl)) (fun V β a w hs=>by
  obtain⟨xs,hp,_⟩:=ap hs (x:=x) (by simp[Op.operands]) hx
  refine⟨_,?_,rfl⟩
  simp only[execOp,hp,Instr.extract,eH,fQ]
  simp)
theorem B8 {k:Nat}{d:D0}
 (hx:cO T x=some (.tn k n c ds)) (hd:ds[i]? =some d) (hg:gd ops ⟨dst,.extract x (i+1),ty,pos,af,g⟩ T=some true):Sem P ops ⟨dst,.extract x (i+1),ty,pos,af,g⟩ T B (.r (.v d)):=
 bG hg (qo rfl) (fun V β a w hs=>by
  obtain⟨xs,hp,hr⟩:=ap hs (x:=x) (by simp[Op.operands]) hx
  have hlt:i<ds.length:=(jH.1 hd).1
  have hv:xs[i]? =some (xs[i]'(by rw[hr.1];exact hlt)):=ip _
  refine⟨_,?_,hr.2 i _ d hv hd⟩
  have h2:(Value.slice (some ⟨β k,0,none⟩) n c::xs).toArray[i+1]? =some (xs[i]'(by rw[hr.1];exact hlt)):=by simp
  simp only[execOp,hp,Instr.extract,h2,eH,fQ,fa])
theorem Mk {k:Nat}
 (hf:cO T fo=some (.v (.c (.f f)))) (hargs:args.toList=x::xs) (hx:cO T x=some (.o k n c)) (ha:oY T xs=some ds) (hb:B k=some (U,cs)) (hus:cs.take (n*m)=us) (hl:n*m≤cs.length) (hnc:n≤c) (hc:c≤maxLen) (hok:Ok P f (.c (.s n us)::ds) [.c (.i .i64 r)])
 (hg:gd ops ⟨dst,.call ⟨.value fo,args,at_⟩,ty,pos,af,g⟩ T=some true):Sem P ops ⟨dst,.call ⟨.value fo,args,at_⟩,ty,pos,af,g⟩ T B (.r (.v (.c (.i .i64 r)))):=by
 refine⟨qo rfl,fun V β a w hs=>⟨d9 hs hg,?_⟩⟩
 have hin: ∀y∈x::xs,y∈(⟨dst,.call ⟨.value fo,args,at_⟩,ty,pos,af,g⟩:Oper).op.operands:=fun y hy=>by
  have hx2:y∈args:=by grind
  simp[Op.operands,Call.operands,hx2]
 have h1:=RdC.func_eq (ap hs (x:=fo) (by simp[Op.operands,Call.operands]) hf)
 have h2:=iS hs xs ds (fun y hy=>hin y (gN _ hy)) ha
 have h3:a.eval x=.slice (some ⟨β k,0,none⟩) n c:=ap hs (hin x (gT ..)) hx
 have hmax:maxLen=9223372036854775807:=rfl
 have h4:=QZ (q:=n) (c:=c) (m:=m) (off:=0) (ys:=us) hs hb (by rw[p9];exact hus) (fun _=>by omega) hnc (by omega)
 have hkeep:Keep V (fun x=>V x∧x≠β k) w w:=⟨Nat.le_refl _,fun _ _ _=>rfl,fun _ _ h=>h.1⟩
 have hcl:=hok.cal
 unfold fj at hcl
 cases hfn:P.funcs[f]? with
 |none=>rw[hfn] at hcl;cases hcl
 |some fn=>
  rw[hfn] at hcl
  simp only[dF,bne_iff_ne,ne_eq,rl] at hcl
  have hrun:(execOp a.eval ⟨dst,.call ⟨.value fo,args,at_⟩,ty,pos,af,g⟩).run P w=.ok (.enter f (args.map a.eval)) w:=by
   have hb2:fn.body≠none:=by have:=hcl.2;cases hbb:fn.body with
    |none=>rw[hbb] at this;cases this
    |some c=>simp
   simp[execOp,resolve,h1,Deferred.ofValue,invoke,callFunc,program,Sem.run,hfn,hcl.1,hb2]
  unfold Gives
  rw[hrun]
  refine(hok.run (fun x=>V x∧x≠β k) (args.map a.eval) w (fun b hb=>hs.av b hb.1) (by rw[wV,hargs,si,h3];exact tQ h4 (h2.keep hkeep))).mono ?_
  rintro e w' ⟨v,rfl,hr,hb⟩
  refine⟨v,rfl,?_,hb⟩
  rw[hr.int_eq]
  exact .i _ _
theorem Y0 (hzl:zs.length=m) (hzr: ∀(V:Nat→Prop) (w:World),RdCs V w z.cells.toList zs) (r:Nat) (V:Nat→Prop) (w:World):RdCs V w (Builtin.zeroCells z.cells r).toList (List.replicate r zs).flatten:=by
 have hzs:z.cells.size=m:=by have:=(hzr (fun _=>False) default).1;rw[hzl] at this;simpa using this
 have key:RdCs V w ((List.range (r*m)).map (fun j=>z.cells[j%z.cells.size]!)) (List.replicate r zs).flatten:=by
  induction r with
  |zero=>simp;exact vm
  |succ r ih=>
   rw[Nat.succ_mul,List.range_add,ts,List.replicate_succ',List.flatten_append]
   refine vn ih ?_
   have e2:(List.map (fun x=>r*m+x) (List.range m)).map (fun j=>z.cells[j%z.cells.size]!)=z.cells.toList:=by
    apply wJ (by simp[hzs])
    intro j h1 h2
    simp at h1
    simp only[List.getElem_map,List.getElem_range,hzs]
    rw[Nat.mul_comm r,Nat.mul_add_mod,rZ (by omega),getElem!_pos z.cells j (by omega)]
    simp
   grind
 unfold Builtin.zeroCells
 simpa [hzs] using key
theorem DI {y:Operand}{k off by_:Nat}
 (hU:xG P U=some (e,m,by_,zs)) (hy:cO T y=some (.w k off n c)) (hb:B k=some (e,cs)) (hoff:off+n*m≤cs.length) (hz:cs.take off++(List.replicate n zs).flatten++cs.drop (off+n*m)=cs')
 (hg:gd ops ⟨none,.call ⟨.builtin .clear,#[y],#[U]⟩,ty,pos,af,g⟩ T=some true):Sem P ops ⟨none,.call ⟨.builtin .clear,#[y],#[U]⟩,ty,pos,af,g⟩ T B (.s k e cs'):=by
 refine⟨rfl,⟨cs,hb⟩,fun V β a w hs=>⟨d9 hs hg,?_⟩⟩
 have e1:a.eval y=.slice (some ⟨β k,off,none⟩) n c:=ap hs (x:=y) (by simp[Op.operands,Call.operands]) hy
 obtain⟨hu,i,z,hi,hzi,hsz,hby,hzl,hzr⟩:=jj hU
 obtain⟨hV,vs,ev,hr⟩:=hs.box k e cs hb
 have hexec: ∀ {w':World},(Builtin.clear_ #[U] ty #[a.eval y]).run P w=.ok (.tuple #[]) w'→(execOp a.eval ⟨none,.call ⟨.builtin .clear,#[y],#[U]⟩,ty,pos,af,g⟩).run P w=.ok (.value (.tuple #[])) w':=fun{w'} h=>by
  simp only[execOp,resolve,invoke,builtin,eH,fQ,fa,tk,si,sV]
  rw[h]
  rfl
 unfold Gives
 rcases jd n with h0|h0
 ·subst h0
  rw[hexec (w':=w) (by rw[e1];simp[Builtin.clear_,run_underlying hu])]
  refine⟨vs,?_,rfl,rfl,rfl,?_⟩
  ·grind
  ·simp_all
 ·have hrow:=Y0 hzl hzr n V w
  have hzlen:(Builtin.zeroCells z.cells n).toList.length=n*m:=by rw[hrow.1,List.length_flatten,List.map_replicate,List.sum_replicate_nat,hzl]
  have hvl:vs.size=cs.length:=by have:=hr.1;simpa using this
  have hst:=run_storeCells_at P (β k) off e (Builtin.zeroCells z.cells n).toList 0 vs w ev (by omega) (Nn hrow)
  rw[hexec (w':=w.setRow (β k) (vs.toList.take off++(Builtin.zeroCells z.cells n).toList++vs.toList.drop (off+(Builtin.zeroCells z.cells n).toList.length)).toArray) (by
   rw[e1]
   simp[Builtin.clear_,run_underlying hu,Nat.ne_of_gt h0,zeroValue,typeInfo,hi,hzi]
   rw[hst]
   simp)]
  refine⟨_,nN ev,rfl,rfl,rfl,?_⟩
  rw[←hz,hzlen]
  exact((hr.take off).append hrow).append (hr.drop (off+n*m))
theorem FO 
 (hU:wW P U=some m) (hx:cO (fun s=>aK s tm) x=some (.v (.c (.s n us)))) (hg:gd ops ⟨some t,.binOp .eql U x (.const (.slice none 0 0)) U2,ty,pos,af,g⟩ (fun s=>aK s tm)=some true)
 (hk: ∀b:Bool,(0<n→b=false)→dl P ops os ⟨N,(t,.v (.c (.b b)))::tm,bx⟩ K):dl P ops (⟨some t,.binOp .eql U x (.const (.slice none 0 0)) U2,ty,pos,af,g⟩::os) ⟨N,tm,bx⟩ K:=by
 refine .inr ⟨fun σ'=> ∃b:Bool,(0<n→b=false)∧σ'=⟨N,(t,.v (.c (.b b)))::tm,bx⟩,?_,fun σ' ⟨b,h,e⟩=>by subst e;exact hk b h⟩
 intro av w0 β a w hrel htn
 have hs:=Sees.of hrel.sees (L:=iK ops ⟨some t,.binOp .eql U x (.const (.slice none 0 0)) U2,ty,pos,af,g⟩) (fun _ _=>trivial) (fun _ _ _ h=>h) (fun _ _ h=>h)
 refine⟨d9 hs hg,?_⟩
 have h1:=ap hs (x:=x) (by simp[Op.operands]) hx
 have h2: ∃A c,a.eval x=.slice A n c∧(0<n→A.isNone=false):=by
  generalize a.eval x=v at h1
  cases h1 with
  |s0 A c _=>exact⟨A,c,rfl,fun h=>absurd h (Nat.lt_irrefl 0)⟩
  |s b off c _ _ _ _=>exact⟨_,c,rfl,fun _=>rfl⟩
 obtain⟨A,c,e,hA⟩:=h2
 have hu: ∃el,P.underlying U=some (.slice el):=by
  unfold wW at hU
  grind
 obtain⟨el,hu⟩:=hu
 have heq:(Op.equal U (.slice A n c) (.slice none 0 0)).run P w=.ok A.isNone w:=by
  unfold Op.equal Op.maxDepth
  rw[show(10000:Nat)=9999+1 from rfl,Op.equalIn]
  simp only[eH,run_underlying hu,fa]
  cases A<;>rfl
 have hrun:(execOp a.eval ⟨some t,.binOp .eql U x (.const (.slice none 0 0)) U2,ty,pos,af,g⟩).run P w=.ok (.value (.bool A.isNone)) w:=by
  have e2:a.eval (.const (.slice none 0 0))=.slice none 0 0:=rfl
  have h3:(eqGuard .eql U x (.const (.slice none 0 0)) (.slice A n c) (.slice none 0 0)).run P w=.ok () w:=rfl
  have h4:binOp .eql U (.slice A n c) (.slice none 0 0)=(do pure (.bool (←Op.equal U (.slice A n c) (.slice none 0 0)))):=rfl
  simp only[execOp,e,e2,eH,h3,fa,h4,heq,fQ]
 unfold Gives
 rw[hrun]
 refine⟨⟨N,(t,.v (.c (.b A.isNone)))::tm,bx⟩,β,⟨_,hA,rfl⟩,rfl,?_⟩
 have hval:=hrel.value (d:=some t) (x:=.v (.c (.b A.isNone))) (v:=.bool A.isNone) htn (cU _ _) (.b _) (by intro l hl;cases hl)
 refine hval.congr (fun s=>?_) (fun _=>rfl)
 show aK s ((t,DV.v (.c (.b A.isNone)))::tm)=(if some t=some s then _ else aK s tm)
 rw[b6]
 grind
theorem tg {f:Nat}
 (hU:NL P U f=some o') (hx:cO T x=some (.v (.c (.p cs)))) (hu:cs.drop o'=us) (hg:gd ops ⟨dst,.fieldAddr U x f,ty,pos,af,g⟩ T=some true):
 Sem P ops ⟨dst,.fieldAddr U x f,ty,pos,af,g⟩ T B (.r (.q us)):=
 bG hg (qo rfl) (fun V β a w hs=>by
  obtain⟨b,off,vs,hp,hb,hv,hr,hc⟩:=RdC.ptr_eq (ap hs (by simp[Op.operands]) hx)
  obtain⟨fs,fd,h1,h2,h3,h4⟩:=Et hU
  refine⟨.pointer (some ⟨b,off+o',none⟩),?_,b,off+o',vs.drop o',rfl,hb,hv,by rw[←hu];exact hr.drop o',fun j u hj=>?_⟩
  ·simp only[execOp,Instr.fieldAt,hp,Instr.sureAddr,eH,fQ,fa,run_underlying h1,h2,h4,jB]
  ·rw[List.getElem?_drop] at hj
   rw[Nat.add_assoc];exact hc (o'+j) u hj)
end
theorem aaF {P:Program}{tm:List (Nat×DV)}{bx:List (Nat×TypeId×List CellD)}{c:Code}{Q:Exit→St→Prop}(ht:aK t tm=some (.f n us)) (h:Dw P c ⟨N,(t,.v (.c (.s n us)))::tm,bx⟩ Q):Dw P c ⟨N,tm,bx⟩ Q:=fun av w0 β a w hr=>by
 obtain⟨v,hv,hx⟩:=hr.sees.tmp t _ trivial ht
 have h2:=hr.upd (t:=t) (x:=.v (.c (.s n us))) hv hx.2 rfl
 refine h av w0 β a w (h2.congr (fun s=>?_) (fun _=>rfl))
 show aK s ((t,.v (.c (.s n us)))::tm)=_
 rw[b6];rfl
def MY (a d b:Fin 4) (n1 n2 n3:Int):Int:=uz (As (uK d) (uK a) n1) (As (uK b) (uK a) n2) (As (uK d) (uK b) n3)
def exF (q a b:Fin 4) (s:Int) (m:Int):Bool:=decide (MY a q b (if a=q then 0 else s) m (if b=q then 0 else s)≤0)&&(a !=q&&b !=q)
set_option maxRecDepth 100000 in
theorem GO: ∀(a b:Fin 4) (m:Fin 3),tT b a (i3 m)=true→(a==b&&i3 m==0)=false→exF 2 a b (-1) (i3 m)=false→exF 0 a b 1 (i3 m)=false→
 ((a=2∨a=3)∧(b=3∨b=0)∧i3 m=1)∨((a=0∨a=1)∧(b=1∨b=2)∧i3 m= -1):=by decide+kernel
theorem oN (k:Ci) (s p e:Pt):xn k s p e=MY (kd k s) (kd k p) (kd k e) (cx p s) (cx e s) (cx p e):=by
 unfold xn ns MY
 rw[fv,fv,fv]
theorem gD {a c:Rat}:bd a 0 c=aw a 0:=by
 unfold bd rf
 rw[jl,lX,if_pos (.inl rfl)]
theorem DZ {b c:Rat}(hc:0<c):bd 0 b c=aw b 0:=by
 have h1:aw c 0=1:=by unfold aw;rw[if_neg (by grind),if_pos hc]
 unfold bd rf
 rw[jl,h1,ri]
 grind
theorem TP (s:Rat) (h0:0<k.q):qf (dU k.x s k.y 0 k.q) k.y=0∧jm (dU k.x s k.y 0 k.q) k.x=aw (if iC k.q then s*rt k.q else s) 0:=by
 cases hq:iC k.q with
 |true=>
  have e:dU k.x s k.y 0 k.q=rP (k.x+s*rt k.q) (k.y+0*rt k.q):=by unfold dU;rw[hq];rfl
  rw[e,if_pos rfl]
  refine⟨?_,?_⟩
  ·show bd (k.y+0*rt k.q-k.y) 0 _=0
   rw[gD,show k.y+0*rt k.q-k.y=0 from by grind,jl]
  ·show bd (k.x+s*rt k.q-k.x) 0 _=_
   rw[gD,show k.x+s*rt k.q-k.x=s*rt k.q from by grind]
 |false=>
  have e:dU k.x s k.y 0 k.q=⟨k.x,s,k.y,0,k.q⟩:=by unfold dU;rw[hq];rfl
  rw[e,if_neg (by decide)]
  refine⟨?_,?_⟩
  ·show bd (k.y-k.y) 0 _=0
   rw[gD,show k.y-k.y=0 from by grind,jl]
  ·show bd (k.x-k.x) s (zc s k.q)=_
   rw[show k.x-k.x=0 from by grind]
   by_cases hs:s=0
   ·rw[hs,gD]
   ·rw[nF hs,DZ h0]
theorem zh (c:Rat):0≤rt c:=by
 have n1:=eg c.num
 have n2:=eg (c.den:Int)
 exact Rat.divInt_nonneg n1 n2
theorem L3 (h:cx p q≠0):cP p q=cx p q:=if_pos h
theorem EU {q:Rat}(h0:0<q) (hs:iC q=true):0<rt q:=by
 have h1:=zh q
 have h2:=YD h0 hs
 grind
theorem MT (h0:0<k.q):qf (fY k) k.y=0∧jm (fY k) k.x<0:=by
 obtain⟨a,b⟩:=TP (k:=k) (-1) h0
 refine⟨a,?_⟩
 show jm (dU k.x (-1) k.y 0 k.q) k.x<0
 rw[b]
 cases hq:iC k.q with
 |true=>have:=EU h0 hq;rw[if_pos rfl];unfold aw;rw[if_pos (by grind)];decide
 |false=>rw[if_neg (by decide)];decide+kernel
theorem Pk (h0:0<k.q):qf (fR k) k.y=0∧0<jm (fR k) k.x:=by
 obtain⟨a,b⟩:=TP (k:=k) 1 h0
 refine⟨a,?_⟩
 show 0<jm (dU k.x 1 k.y 0 k.q) k.x
 rw[b]
 cases hq:iC k.q with
 |true=>have:=EU h0 hq;rw[if_pos rfl];unfold aw;rw[if_neg (by grind),if_pos (by grind)];decide
 |false=>rw[if_neg (by decide)];decide+kernel
section
variable {k:Ci}(hk:GK k) (h0:0<k.q)
include hk h0
theorem nO:OnK k (fY k):=⟨qZ hk h0,Fb hk h0⟩
theorem nL:OnK k (fR k):=⟨q5 hk h0,Ex hk h0⟩
omit hk in
theorem sO:kd k (fY k)=2:=by
 obtain⟨a,b⟩:=MT h0
 unfold kd;rw[if_neg (by omega),if_pos a,if_neg (by omega)]
omit hk in
theorem sE:kd k (fR k)=0:=by
 obtain⟨a,b⟩:=Pk h0
 unfold kd;rw[if_neg (by omega),if_pos a,if_pos (by omega)]
theorem pT (hp:OnK k p):cx (fY k) p=if kd k p=2 then 0 else-1:=by
 have h:=gI h0 (nO hk h0) hp
 rw[sO h0] at h
 unfold tT at h
 grind
theorem nU (hp:OnK k p):cx (fR k) p=if kd k p=0 then 0 else 1:=by
 have h:=gI h0 (nL hk h0) hp
 rw[sE h0] at h
 unfold tT at h
 grind
omit hk in
theorem Kt {f t x:Pt}(of:OnK k f) (ot:OnK k t) (ox:OnK k x) (q:Fin 4) (hq: ∀y,OnK k y→cP y x=0→kd k y=q) (hi:(Cv.arc k w f t).inner x=false):
 (decide (xn k (if w then t else f) x (if w then f else t)≤0)&&(kd k f !=q&&kd k t !=q))=false:=by
 have hon:(Cv.arc k w f t).on x=decide (xn k (if w then t else f) x (if w then f else t)≤0):=by
  rw[yp (bH.2 ox.2)]
  cases w with
  |true=>exact Dd h0 of ot ox
  |false=>exact zi of.1 ot.1 ox.1
 unfold Cv.inner at hi
 rw[hon] at hi
 cases h:decide (xn k (if w then t else f) x (if w then f else t)≤0) with
 |false=>rfl
 |true=>
  rw[h,fW] at hi
  rw[fW]
  rcases Bool.and_eq_false_iff.1 hi with g|g
  ·have:cP f x=0:=by simpa [Cv.p] using g
   rw[hq f of this,bne_self_eq_false,lr]
  ·have:cP t x=0:=by simpa [Cv.q] using g
   rw[hq t ot this,bne_self_eq_false,lU]
theorem KM (oy:OnK k y) (h:cP y (fY k)=0):kd k y=2:=by
 have h1:=pT hk h0 oy
 have h2:=(d8.1 h).1
 have h3:=de (b9 (qZ hk h0)) (a7 oy)
 grind
theorem JP (oy:OnK k y) (h:cP y (fR k)=0):kd k y=0:=by
 have h1:=nU hk h0 oy
 have h2:=(d8.1 h).1
 have h3:=de (b9 (q5 hk h0)) (a7 oy)
 grind
omit hk in
theorem Ff (op:OnK k p) (oq:OnK k q) (hd:kd k p=kd k q) (hx:cx p q=0):cP p q=0:=by
 refine d8.2 ⟨hx,?_⟩
 have cp:=a7 op
 have cq:=a7 oq
 rw[n8 cp cq] at hx
 rw[rb cp cq]
 have hp:=wZ op
 have hq:=wZ oq
 have hY:aO ((pY p-Re.of k.y)-(pY q-Re.of k.y))=aO (pY p-pY q):=congrArg aO (ba fun n=>by simp only[ao];grind)
 rw[←hY]
 have sp:=yA cp k.y
 have sq:=yA cq k.y
 generalize hP:pY p-Re.of k.y=P at*
 generalize hQ:pY q-Re.of k.y=Q at*
 have e:(P-Q)*(P+Q)=(wz k p-wz k q)+ -((pX p-pX q)*((pX p-Re.of k.x)+(pX q-Re.of k.x))):=by
  rw[←hP,←hQ]
  exact ba fun n=>by unfold wz;simp only[aI,ao,aD,aV,bg];grind
 have h1:aO ((P-Q)*(P+Q))=0:=by
  rw[e,dE _ (by rw[b8,bj,hx,lX];rfl),show wz k p-wz k q=wz k p+ -wz k q from ba fun n=>by simp only[aI,ao,bg]<;>grind,dE _ (by rw[b8,hq];rfl),hp]
 rw[bj] at h1
 rcases t9.1 h1 with g|g
 ·exact g
 ·have hs:aO P=aO Q:=by
   rw[←sp,←sq]
   rcases yN h0 op with⟨a,b,_⟩|⟨a,b⟩|⟨a,b,_⟩|⟨a,b⟩<;>rcases yN h0 oq with⟨a',b',_⟩|⟨a',b'⟩|⟨a',b',_⟩|⟨a',b'⟩<;>rw[a,a'] at hd<;>first|exact absurd hd (by decide)|skip
   all_goals have b1:=gC (p.a2-k.y) p.b2 (zc p.b2 p.c);have b2:=gC (q.a2-k.y) q.b2 (zc q.b2 q.c);unfold qf at b b'⊢;omega
  have e2:aO P= -aO Q:=by
   rw[show P=(P+Q)+ -Q from ba fun n=>by simp only[aI,bg]<;>grind,mm g,b8]
  have e3:aO P=0:=by omega
  have e4:aO Q=0:=by omega
  rw[show P-Q=P+ -Q from ba fun n=>by simp only[aI,ao,bg]<;>grind,dE _ (by rw[b8,e4];rfl),e3]
theorem Mv {f t:Pt}(of:OnK k f) (ot:OnK k t) (hm:(Cv.arc k w f t).mono=true):
 if w then(kd k t=0∨kd k t=1)∧(kd k f=1∨kd k f=2)∧cx f t= -1 else(kd k f=2∨kd k f=3)∧(kd k t=3∨kd k t=0)∧cx t f=1:=by
 have hm:(!decide (cP f t≥0)&&(!(Cv.arc k w f t).inner (fY k)&& !(Cv.arc k w f t).inner (fR k)))=true:=hm
 have hlt:cP f t<0:=by grind
 have hL:(Cv.arc k w f t).inner (fY k)=false:=by grind
 have hR:(Cv.arc k w f t).inner (fR k)=false:=by grind
 have iL:=Kt h0 of ot (nO hk h0) 2 (fun y oy h=>KM hk h0 oy h) hL
 have iR:=Kt h0 of ot (nL hk h0) 0 (fun y oy h=>JP hk h0 oy h) hR
 have ha:=de (a7 of) (a7 ot)
 have hx:cx f t≤0:=by
  by_cases h:cx f t≤0
  ·exact h
  ·have:cP f t=cx f t:=L3 (by omega)
   omega
 cases w with
 |false=>
  simp only[Bool.false_eq_true,if_false] at iL iR⊢
  rw[oN,sO h0,pT hk h0 of,pT hk h0 ot] at iL
  rw[oN,sE h0,nU hk h0 of,nU hk h0 ot] at iR
  obtain⟨m,em⟩:=fC (eJ t f)
  rw[em] at iL iR
  have hc:=gI h0 ot of
  rw[em] at hc
  have hn:(kd k f==kd k t&&i3 m==0)=false:=by
   rw[←em]
   cases h:(kd k f==kd k t&&cx t f==0) with
   |false=>rfl
   |true=>
    rw[dF] at h
    have:=Ff h0 of ot (beq_iff_eq.1 h.1) (by have:=beq_iff_eq.1 h.2;omega)
    omega
  rcases GO (kd k f) (kd k t) m hc hn iL iR with⟨p,q,r⟩|⟨p,q,r⟩
  ·grind
  grind
 |true=>
  simp only[if_true] at iL iR⊢
  rw[oN,sO h0,pT hk h0 of,pT hk h0 ot] at iL
  rw[oN,sE h0,nU hk h0 of,nU hk h0 ot] at iR
  obtain⟨m,em⟩:=fC (eJ f t)
  rw[em] at iL iR
  have hc:=gI h0 of ot
  rw[em] at hc
  have hn:(kd k t==kd k f&&i3 m==0)=false:=by
   rw[←em]
   cases h:(kd k t==kd k f&&cx f t==0) with
   |false=>rfl
   |true=>
    rw[dF] at h
    have:=Ff h0 of ot (beq_iff_eq.1 h.1).symm (by have:=beq_iff_eq.1 h.2;omega)
    omega
  rw[Bool.and_comm (kd k f !=2)] at iL
  rw[Bool.and_comm (kd k f !=0)] at iR
  rcases GO (kd k t) (kd k f) m hc hn iL iR with⟨p,q,r⟩|⟨p,q,r⟩
  ·omega
  grind
end
def zW (uf up uq:Bool) (n1 n2 m:Int):Int:=EV (BG up uf n1) (BG uq uf n2) (BG up uq m)
def MD (a b c:Int):Bool:=(!(decide (a≤0)&&decide (b≤0))||decide (c≤0))&&(!(decide (a<0)&&decide (b≤0))||decide (c<0))&&(!(decide (a≤0)&&decide (b<0))||decide (c<0))
set_option maxRecDepth 1000000 in
theorem XI: ∀(uf up uq ur:Bool) (i j l:Fin 3) (a:Fin 3),FL (i3 i) (i3 j) (i3 a)=true→ ∀b:Fin 3,FL (i3 j) (i3 l) (i3 b)=true→ ∀c:Fin 3,FL (i3 i) (i3 l) (i3 c)=true→
 FL (i3 a) (-(i3 b)) (i3 c)=true→MD (zW uf up uq (i3 i) (i3 j) (i3 a)) (zW uf uq ur (i3 j) (i3 l) (i3 b)) (zW uf up ur (i3 i) (i3 l) (i3 c))=true:=by decide+kernel
theorem PS: ∀(uf up uq:Bool) (i j a:Fin 3),FL (i3 i) (i3 j) (i3 a)=true→zW uf uq up (i3 j) (i3 i) (-(i3 a))= -zW uf up uq (i3 i) (i3 j) (i3 a):=by decide+kernel
set_option maxRecDepth 1000000 in
theorem RT: ∀(uf up uq ux:Bool) (i j l:Fin 3) (a:Fin 3),FL (i3 l) (i3 i) (i3 a)=true→ ∀b:Fin 3,FL (i3 j) (i3 i) (i3 b)=true→ ∀c:Fin 3,FL (i3 l) (i3 j) (i3 c)=true→
 FL (i3 a) (i3 b) (i3 c)=true→zW uf up uq (i3 i) (i3 j) (-(i3 b))<0→zW up up ux 0 (i3 a) (-(i3 a))≤0→zW up ux uq (i3 a) (i3 b) (i3 c)≤0→(ux==up&&i3 a==0)=false→(ux==uq&&i3 c==0)=false→
 zW uf up ux (i3 i) (i3 l) (-(i3 a))<0∧zW uf ux uq (i3 l) (i3 j) (i3 c)<0:=by decide+kernel
theorem gM (k:Ci) (f p q:Pt):ru k f p q=zW (j6 k f) (j6 k p) (j6 k q) (cx p f) (cx q f) (cx p q):=rfl
section
variable {k:Ci}{f p q r x:Pt}(hf:0≤f.c) (hp:0≤p.c) (hq:0≤q.c)
include hf hp hq
theorem Nr:ru k f q p= -ru k f p q:=by
 rw[gM,gM,de hp hq]
 have h:=jA hf hp hq
 obtain⟨i,hi⟩:=fC (eJ p f)
 obtain⟨j,hj⟩:=fC (eJ q f)
 obtain⟨a,ha⟩:=fC (eJ p q)
 rw[hi,hj,ha] at h⊢
 exact PS _ _ _ i j a h
variable (hr:0≤r.c)
include hr
theorem VC:MD (ru k f p q) (ru k f q r) (ru k f p r)=true:=by
 rw[gM,gM,gM]
 have h1:=jA hf hp hq
 have h2:=jA hf hq hr
 have h3:=jA hf hp hr
 have h4:=jA hq hp hr
 rw[de hq hr] at h4
 obtain⟨i,hi⟩:=fC (eJ p f)
 obtain⟨j,hj⟩:=fC (eJ q f)
 obtain⟨l,hl⟩:=fC (eJ r f)
 obtain⟨a,ha⟩:=fC (eJ p q)
 obtain⟨b,hb⟩:=fC (eJ q r)
 obtain⟨c,hc⟩:=fC (eJ p r)
 rw[hi,hj,ha] at h1
 rw[hj,hl,hb] at h2
 rw[hi,hl,hc] at h3
 rw[ha,hb,hc] at h4
 rw[hi,hj,hl,ha,hb,hc]
 exact XI _ _ _ _ i j l a h1 b h2 c h3 h4
end
theorem RP: ∀(uf ux:Bool) (a:Fin 3),zW uf uf ux 0 (i3 a) (-(i3 a))≤0:=by decide+kernel
theorem Sb {f x:Pt}(hf:0≤f.c) (hx:0≤x.c):ru k f f x≤0:=by
 rw[gM,yh hf,de hx hf]
 obtain⟨a,ha⟩:=fC (eJ x f)
 rw[ha]
 exact RP _ _ a
theorem NK: ∀(uf up uq:Bool) (i j a:Fin 3),FL (i3 i) (i3 j) (i3 a)=true→zW uf up uq (i3 i) (i3 j) (i3 a)=0→(up==uq&&i3 a==0)=true:=by decide+kernel
theorem yq (h0:0<k.q) (op:OnK k p) (oq:OnK k q) (h:(j6 k p==j6 k q&&cx p q==0)=true):cP p q=0:=by
 rw[dF] at h
 have hu:=beq_iff_eq.1 h.1
 have hx:=beq_iff_eq.1 h.2
 refine Ff h0 op oq ?_ hx
 have hc:=gI h0 op oq
 rw[fv,fv] at hu
 rw[hx] at hc
 revert hu hc
 generalize kd k p=a
 generalize kd k q=b
 revert a b
 decide
theorem Pu {f:Pt}(h0:0<k.q) (hf:0≤f.c) (op:OnK k p) (oq:OnK k q) (h:ru k f p q=0):cP p q=0:=by
 have h1:=jA hf (a7 op) (a7 oq)
 rw[gM] at h
 obtain⟨i,hi⟩:=fC (eJ p f)
 obtain⟨j,hj⟩:=fC (eJ q f)
 obtain⟨a,ha⟩:=fC (eJ p q)
 rw[hi,hj,ha] at h1 h
 exact yq h0 op oq (by rw[ha];exact NK _ _ _ i j a h1 h)
theorem La {f x:Pt}(h0:0<k.q) (of:OnK k f) (op:OnK k p) (oq:OnK k q) (ox:OnK k x) (h1:ru k f p q<0) (h2:ru k p p x≤0) (h3:ru k p x q≤0) (n1:cP x p≠0) (n2:cP x q≠0):
 ru k f p x<0∧ru k f x q<0:=by
 have cf:=a7 of
 have cp:=a7 op
 have cq:=a7 oq
 have cx':=a7 ox
 have t1:=jA cf cx' cp
 have t2:=jA cf cq cp
 have t3:=jA cf cx' cq
 have t4:=jA cp cx' cq
 have e1:(j6 k x==j6 k p&&cx x p==0)=false:=by
  cases h:(j6 k x==j6 k p&&cx x p==0) with
  |false=>rfl
  |true=>exact absurd (yq h0 ox op h) n1
 have e2:(j6 k x==j6 k q&&cx x q==0)=false:=by
  cases h:(j6 k x==j6 k q&&cx x q==0) with
  |false=>rfl
  |true=>exact absurd (yq h0 ox oq h) n2
 rw[gM,de cq cp] at h1
 rw[gM,yh cp,de cx' cp] at h2
 rw[gM] at h3
 rw[gM,gM,de cx' cp]
 obtain⟨i,hi⟩:=fC (eJ p f)
 obtain⟨j,hj⟩:=fC (eJ q f)
 obtain⟨l,hl⟩:=fC (eJ x f)
 obtain⟨a,ha⟩:=fC (eJ x p)
 obtain⟨b,hb⟩:=fC (eJ q p)
 obtain⟨c,hc⟩:=fC (eJ x q)
 rw[hl,hi,ha] at t1
 rw[hj,hi,hb] at t2
 rw[hl,hj,hc] at t3
 rw[ha,hb,hc] at t4
 rw[hi,hj,hb] at h1
 rw[ha] at h2 e1
 rw[ha,hb,hc] at h3
 rw[hc] at e2
 rw[hi,hj,hl,ha,hc]
 exact RT _ _ _ _ i j l a t1 b t2 c t3 t4 h1 h2 h3 e1 e2
def Ci.by (k:Ci) (w:Bool):Ci:=if w then k.mir else k
def Pt.by (p:Pt) (w:Bool):Pt:=if w then p.flip else p
theorem OnK.by (w:Bool) (h:OnK k p):OnK (k.by w) (p.by w):=by
 cases w with
 |true=>exact h.flip
 |false=>exact h
theorem Vx (w:Bool) (h:0<k.q):0<(k.by w).q:=by cases w<;>exact h
theorem HT (w:Bool) (hp:0≤p.c) (hq:0≤q.c):cP (p.by w) (q.by w)=0↔cP p q=0:=by
 cases w with
 |false=>exact Iff.rfl
 |true=>
  show cP p.flip q.flip=0↔_
  rw[d8,d8,lT hp hq]
  exact⟨fun h=>⟨by omega,h.2⟩,fun h=>⟨by omega,h.2⟩⟩
theorem mY (k:Ci) (w:Bool) (f t p q:Pt):(Cv.arc k w f t).ord p q=ru (k.by w) (f.by w) (p.by w) (q.by w):=by cases w<;>rfl
section
variable {k:Ci}{w:Bool}{f t:Pt}(h0:0<k.q) (of:OnK k f)
include of
variable {p q r:Pt}(op:OnK k p) (oq:OnK k q)
include op oq
theorem jy:(Cv.arc k w f t).ord q p= -(Cv.arc k w f t).ord p q:=by
 rw[mY,mY]
 exact Nr (a7 (of.by w)) (a7 (op.by w)) (a7 (oq.by w))
theorem sB (or_:OnK k r):MD ((Cv.arc k w f t).ord p q) ((Cv.arc k w f t).ord q r) ((Cv.arc k w f t).ord p r)=true:=by
 rw[mY,mY,mY]
 exact VC (a7 (of.by w)) (a7 (op.by w)) (a7 (oq.by w)) (a7 (or_.by w))
include h0
theorem uC (h:(Cv.arc k w f t).ord p q=0):cP p q=0:=by
 rw[mY] at h
 exact(HT w (a7 op) (a7 oq)).1 (Pu (Vx w h0) (a7 (of.by w)) (op.by w) (oq.by w) h)
end
theorem yR {f t:Pt}(of:OnK k f) (op:OnK k p):(Cv.arc k w f t).ord f p≤0:=by
 rw[mY];exact Sb (a7 (of.by w)) (a7 (op.by w))
theorem C4 {c:Int}(h:MD a b c=true) (h1:a<0) (h2:b≤0):c<0:=by
 unfold MD at h
 grind
theorem GU {c:Int}(h:MD a b c=true) (h1:a≤0) (h2:b≤0):c≤0:=by
 unfold MD at h
 grind
theorem BO {c:Int}(h:MD a b c=true) (h1:a≤0) (h2:b<0):c<0:=by
 unfold MD at h
 grind
section
variable {k:Ci}{w:Bool}{f t:Pt}(h0:0<k.q) (of:OnK k f)
include h0 of
theorem FT {x:Pt}(ox:OnK k x): ∀ {S:List Pt},(∀y∈S,OnK k y)→S.Pairwise (fun p q=>(Cv.arc k w f t).ord p q<0)→(lE (.arc k w f t) S x).Pairwise (fun p q=>(Cv.arc k w f t).ord p q<0)
 |[],_,_=>by rw[Bj];exact Bf _ _
 |o::l,hS,hp=>by
  have oo:=hS o (by simp)
  have hl: ∀y∈l,OnK k y:=fun y hy=>hS y (by simp[hy])
  obtain⟨h1,h2⟩:=jU.1 hp
  by_cases h:(Cv.arc k w f t).ord o x<0
  ·rw[xZ h]
   refine jU.2 ⟨fun y hy=>?_,FT ox hl h2⟩
   rcases rO hy with g|g
   ·exact h1 y g
   ·rw[g];exact h
  ·rw[xY h]
   split
   ·exact hp
   ·rename_i hn
    have ha:=jy (w:=w) (t:=t) of oo ox
    have hz:(Cv.arc k w f t).ord o x≠0:=fun e=>hn (uC h0 of oo ox e)
    refine jU.2 ⟨fun y hy=>?_,hp⟩
    rcases dM.1 hy with g|g
    ·rw[g];omega
    ·exact C4 (sB of ox oo (hl y g)) (by omega) (rV (h1 y g))
omit h0 of in
theorem By {c:Cv}{x:Pt}(hx:0≤x.c): ∀ {S:List Pt},(∀y∈S,y∈lE c S x)∧ ∃y∈lE c S x,cP y x=0
 |[]=>by rw[Bj];exact⟨fun y hy=>(by cases hy),x,by simp,kX hx⟩
 |o::l=>by
  by_cases h:c.ord o x<0
  ·rw[xZ h]
   obtain⟨h1,y,h2,h3⟩:=By (c:=c) hx (S:=l)
   refine⟨fun z hz=>?_,y,gN _ h2,h3⟩
   rcases dM.1 hz with g|g
   ·rw[g];simp
   ·exact gN _ (h1 z g)
  ·rw[xY h]
   split
   ·rename_i e;exact⟨fun z hz=>hz,o,by simp,e⟩
   ·exact⟨fun z hz=>gN _ hz,x,by simp,kX hx⟩
theorem GG: ∀(L:List Pt) {S:List Pt},(∀y∈L,OnK k y)→(∀y∈S,OnK k y)→S.Pairwise (fun p q=>(Cv.arc k w f t).ord p q<0)→
 (L.foldl (lE (.arc k w f t)) S).Pairwise (fun p q=>(Cv.arc k w f t).ord p q<0)∧(∀y∈S,y∈L.foldl (lE (.arc k w f t)) S)∧ ∀y∈L,∃z∈L.foldl (lE (.arc k w f t)) S,cP z y=0
 |[],S,_,_,hp=>⟨hp,fun y hy=>hy,fun y hy=>by cases hy⟩
 |x::L,S,hL,hS,hp=>by
  have ox:=hL x (by simp)
  have hS2: ∀y∈lE (.arc k w f t) S x,OnK k y:=fun y hy=>(rO hy).elim (hS y) (fun e=>e▸ox)
  obtain⟨h1,h2,h3⟩:=GG L (S:=lE (.arc k w f t) S x) (fun y hy=>hL y (by simp[hy])) hS2 (FT h0 of ox hS hp)
  obtain⟨g1,y,g2,g3⟩:=By (c:=.arc k w f t) (x:=x) (a7 ox) (S:=S)
  rw[vf]
  refine⟨h1,fun z hz=>h2 z (g1 z hz),fun z hz=>?_⟩
  rcases dM.1 hz with e|e
  ·rw[e];exact⟨y,h2 y g2,g3⟩
  ·exact h3 z e
theorem zG {L:List Pt}(hL: ∀y∈L,OnK k y):(qy (.arc k w f t) L).Pairwise (fun p q=>(Cv.arc k w f t).ord p q<0)∧ ∀y∈L,∃z∈qy (.arc k w f t) L,cP z y=0:=by
 obtain⟨h1,_,h3⟩:=GG (w:=w) (t:=t) h0 of L (S:=[]) hL (fun y hy=>by cases hy) .nil
 exact⟨h1,h3⟩
end
theorem uP {c:Cv}: ∀ {S:List Pt}{d:Cv},d∈jX c S→ ∃A p q B,S=A++p::q::B∧d=c.ends p q
 |[],d,h=>by cases h
 |[x],d,h=>by cases h
 |x::y::l,d,h=>by
  have h:d∈c.ends x y::jX c (y::l):=h
  rcases dM.1 h with h|h
  ·exact⟨[],x,y,l,rfl,h⟩
  ·obtain⟨A,p,q,B,e,hd⟩:=uP h
   exact⟨x::A,p,q,B,by rw[e];rfl,hd⟩
theorem Dg {x:Pt}(h0:0<k.q) (op:OnK k p) (oq:OnK k q) (ox:OnK k x):(Cv.arc k (!w) q p).inner x=(Cv.arc k w p q).inner x:=by
 have e:(Cv.arc k (!w) q p).on x=(Cv.arc k w p q).on x:=by
  rw[yp (bH.2 ox.2),yp (bH.2 ox.2)]
  cases w with
  |true=>
   have h1:=zi (k:=k) oq.1 op.1 ox.1
   have h2:=Dd h0 op oq ox
   exact h1.trans h2.symm
  |false=>
   have h1:=Dd h0 oq op ox
   have h2:=zi (k:=k) op.1 oq.1 ox.1
   exact h1.trans h2.symm
 show((Cv.arc k (!w) q p).on x&&(!(cP q x==0)&& !(cP p x==0)))=((Cv.arc k w p q).on x&&(!(cP p x==0)&& !(cP q x==0)))
 grind
theorem Lz {c:Cv}(vc:CvV c): ∀d∈Pq c,d.fwd.mono=true:=by
 intro d hd
 have vd:=Wd vc d hd
 cases c with
 |seg l f t=>
  have hd:d∈ [Cv.seg l f t]:=hd
  cases kj.1 hd
  have hn:cP f t≠0:=vc.ne
  have ha:=fg (b9 vc.g.2.1) (b9 vc.g.2.2)
  unfold Cv.fwd
  split
  ·rename_i e
   have e:cP f t>0:=of_decide_eq_true e
   show(!decide (cP t f≥0))=true
   rw[decide_eq_false (by omega)];rfl
  ·rename_i e
   have e: ¬cP f t>0:=fun g=>e (decide_eq_true g)
   show(!decide (cP f t≥0))=true
   rw[decide_eq_false (by omega)];rfl
 |arc k w f t=>
  have h0:0<k.q:=vc.pos
  have hk:=vc.g.1
  have of:OnK k f:=⟨vc.g.2.1,bH.1 vc.sp⟩
  have ot:OnK k t:=⟨vc.g.2.2,bH.1 vc.sq⟩
  have hd:d∈jX (.arc k w f t) (qy (.arc k w f t) ([f,t]++yg (.arc k w f t))):=by
   unfold Pq at hd;rw[if_pos (show(Cv.arc k w f t).isArc=true from rfl)] at hd;exact hd
  have hL: ∀y∈ [f,t]++yg (.arc k w f t),OnK k y:=fun y hy=>by
   rcases ol.1 hy with h|h
   ·simp only[dM,rm,or_false] at h
    rcases h with h|h<;>rw[h]<;>assumption
   ·exact⟨(uv vc y h).1,bH.1 (Fl (uv vc y h).2)⟩
  have hT: ∀y∈ [f,t]++yg (.arc k w f t),(Cv.arc k w f t).ord y t≤0:=fun y hy=>by
   rcases ol.1 hy with h|h
   ·simp only[dM,rm,or_false] at h
    rcases h with h|h
    ·rw[h];exact yR of ot
    ·rw[h];have:=jy (w:=w) (t:=t) of ot ot;omega
   ·have:=(uv vc y h).2
    unfold Cv.on at this
    rw[dF] at this
    exact of_decide_eq_true this.2
  obtain⟨hs,hin⟩:=zG (w:=w) (t:=t) h0 of hL
  obtain⟨A,p,q,B,eS,rfl⟩:=uP hd
  have hmem: ∀y∈A++p::q::B,y∈ [f,t]++yg (.arc k w f t):=fun y hy=>mX (by rw[eS];exact hy)
  have op:OnK k p:=hL p (hmem p (by simp))
  have oq:OnK k q:=hL q (hmem q (by simp))
  rw[eS] at hs hin
  obtain⟨hA,hpq,hAB⟩:=xw.1 hs
  obtain⟨hp1,hq1⟩:=jU.1 hpq
  have hlt:(Cv.arc k w f t).ord p q<0:=hp1 q (by simp)
  have hne:cP p q≠0:=rd vc.g op.1 oq.1 hlt
  have ha:=fg (a7 op) (a7 oq)
  have key: ∀x,OnK k x→(x=fY k∨x=fR k)→(Cv.arc k w p q).inner x=false:=fun x ox hx=>by
   cases hi:(Cv.arc k w p q).inner x with
   |false=>rfl
   |true=>
    exfalso
    unfold Cv.inner at hi
    rw[dF,dF] at hi
    obtain⟨i1,i2,i3⟩:=hi
    have n1:cP p x≠0:=by simpa [Cv.p] using i2
    have n2:cP q x≠0:=by simpa [Cv.q] using i3
    unfold Cv.on at i1
    rw[dF,dF] at i1
    have b1:(Cv.arc k w p q).ord p x≤0:=of_decide_eq_true i1.1.2
    have b2:(Cv.arc k w p q).ord x q≤0:=of_decide_eq_true i1.2
    rw[mY] at b1 b2
    have hl2:=hlt
    rw[mY] at hl2
    have a1:=fg (a7 op) (a7 ox)
    have a2:=fg (a7 oq) (a7 ox)
    obtain⟨r1,r2⟩:=La (Vx w h0) (of.by w) (op.by w) (oq.by w) (ox.by w) hl2 b1 b2 (fun e=>n1 (by have:=(HT w (a7 ox) (a7 op)).1 e;omega)) (fun e=>n2 (by have:=(HT w (a7 ox) (a7 oq)).1 e;omega))
    rw[←mY (t:=t)] at r1 r2
    have xt:(Cv.arc k w f t).ord x t<0:=C4 (sB of ox oq ot) r2 (hT q (hmem q (by simp)))
    have fx:(Cv.arc k w f t).ord f x<0:=BO (sB of of op ox) (yR of op) r1
    have hin2:(Cv.arc k w f t).inner x=true:=by
     unfold Cv.inner
     rw[yp (bH.2 ox.2)]
     show(decide ((Cv.arc k w f t).ord f x≤0)&&decide ((Cv.arc k w f t).ord x t≤0)&&(!(cP f x==0)&& !(cP t x==0)))=true
     have m1:cP f x≠0:=rd vc.g of.1 ox.1 fx
     have m2:cP x t≠0:=rd vc.g ox.1 ot.1 xt
     have m3:=fg (a7 ox) (a7 ot)
     rw[decide_eq_true (rV fx),decide_eq_true (rV xt)]
     simp only[Bool.and_self,fW,dF,rl,beq_eq_false_iff_ne,ne_eq]
     exact⟨m1,by omega⟩
    have hcut:x∈yg (.arc k w f t):=by
     show x∈(if _ then[fY k] else[])++(if _ then[fR k] else[])
     rcases hx with e|e
     ·rw[←e,hin2];simp
     ·refine ol.2 (.inr ?_)
      rw[←e,hin2];simp
    obtain⟨y,hy,ey⟩:=hin x (ol.2 (.inr hcut))
    have oy:OnK k y:=hL y (hmem y hy)
    have zy:(Cv.arc k w f t).ord y x=0:=uY (a7 oy) (a7 ox) ey vc.g
    have ay:=jy (w:=w) (t:=t) of oy ox
    have apx:=jy (w:=w) (t:=t) of op ox
    have aqx:=jy (w:=w) (t:=t) of ox oq
    rcases ol.1 hy with g|g
    ·have l1:(Cv.arc k w f t).ord y p<0:=hAB y g p (by simp)
     have:=BO (sB (w:=w) (t:=t) of ox oy op) (by omega) l1
     omega
    ·rcases dM.1 g with g|g
     ·have:=jy (w:=w) (t:=t) of op op
      rw[g] at zy
      omega
     ·rcases dM.1 g with g|g
      ·rw[g] at zy
       omega
      ·have l1:(Cv.arc k w f t).ord q y<0:=(jU.1 hq1).1 y g
       have:=C4 (sB (w:=w) (t:=t) of oq oy ox) l1 (by omega)
       omega
  have kL:=key _ (nO hk h0) (.inl rfl)
  have kR:=key _ (nL hk h0) (.inr rfl)
  unfold Cv.fwd
  split
  ·rename_i e
   have e:cP p q>0:=of_decide_eq_true e
   show(!decide (cP q p≥0)&&(!(Cv.arc k (!w) q p).inner (fY k)&& !(Cv.arc k (!w) q p).inner (fR k)))=true
   rw[Dg h0 op oq (nO hk h0),Dg h0 op oq (nL hk h0),kL,kR,decide_eq_false (by omega)];rfl
  ·rename_i e
   have e: ¬cP p q>0:=fun g=>e (decide_eq_true g)
   show(!decide (cP p q≥0)&&(!(Cv.arc k w p q).inner (fY k)&& !(Cv.arc k w p q).inner (fR k)))=true
   grind
def T3 (a b c:Int):Prop:=(a≤0→b≤0→c≤0)∧(a<0→b≤0→c<0)∧(a≤0→b<0→c<0)
theorem Uo (x y z:Re):T3 (aO (x-y)) (aO (y-z)) (aO (x-z)):=by
 have e:x-z=(x-y)+(y-z):=ba fun n=>by simp only[aI,ao]<;>grind
 rw[e]
 generalize x-y=X
 generalize y-z=Y
 have h1:=bp X
 have h2:=bp Y
 unfold T3
 by_cases a:aO X=0
 ·rw[mm a];omega
 ·by_cases b:aO Y=0
  ·rw[dE _ b];omega
  ·by_cases c:aO X=aO Y
   ·rw[jf c];omega
   grind
theorem E5 (x y:Rat):aw x y=aO (Re.of x-Re.of y):=by
 rw[←f9,←ca]
 exact congrArg aO (ba fun n=>by simp only[ao,aV];grind)
section
variable {p q r:Pt}(hp:0≤p.c) (hq:0≤q.c) (hr:0≤r.c)
include hp hq hr
theorem NN:T3 (cP p q) (cP q r) (cP p r):=by
 have h1:T3 (cx p q) (cx q r) (cx p r):=by rw[n8 hp hq,n8 hq hr,n8 hp hr];exact Uo _ _ _
 have h2:T3 (cy p q) (cy q r) (cy p r):=by rw[rb hp hq,rb hq hr,rb hp hr];exact Uo _ _ _
 have e: ∀(a b:Pt),cP a b=if cx a b≠0 then cx a b else cy a b:=fun _ _=>rfl
 unfold T3 at*
 grind
end
def sW (w:Bool):Rat:=if w then 1 else-1
def jZ (k:Ci) (x:Rat):Rat:=k.q-(x-k.x)*(x-k.x)
def t8:Cv→Rat→Pt
 | .seg l _ _,x=>⟨x,0,(l.c-l.a*x)/l.b,0,0⟩
 | .arc k w _ _,x=>dU x 0 k.y (sW w) (jZ k x)
def TG:Cv→Rat→List CellD
 | .seg l _ _,x=>cR ((l.c-l.a*x)/l.b)++cR 0++cR 0
 | .arc k w _ _,x=>if iC (jZ k x) then cR (k.y+sW w*rt (jZ k x))++cR 0++cR 0 else cR k.y++cR (sW w)++cR (zc (sW w) (jZ k x))
theorem N9 {f t:Pt}{x:Rat}(hs:iC (jZ k x)=true):TG (.arc k w f t) x=cR (k.y+sW w*rt (jZ k x))++cR 0++cR 0:=if_pos hs
theorem OY {f t:Pt}{x:Rat}(hs:iC (jZ k x)=false):TG (.arc k w f t) x=cR k.y++cR (sW w)++cR (zc (sW w) (jZ k x)):=if_neg (by rw[hs];decide)
theorem AN (c:Cv) (x:Rat):(TG c x).length=12:=by
 cases c with
 |seg l f t=>rfl
 |arc k w f t=>
  show(if iC (jZ k x)=true then cR (k.y+sW w*rt (jZ k x))++cR 0++cR 0 else cR k.y++cR (sW w)++cR (zc (sW w) (jZ k x))).length=12
  split<;>rfl
def wH (c:Cv) (x:Rat):Bool:= !c.vert&&(decide (jm c.p x≤0)&&decide (0≤jm c.q x))
def j5 (c:Cv) (x:Rat):Bool:=decide (jm c.p x≤0)&&decide (-jm c.q x≤0)
theorem kh {c:Cv}{x:Rat}:wH c x=(!c.vert&&j5 c x):=by
 unfold wH j5
 grind
theorem Cr {f t:Pt}{x:Rat}(of:OnK k f) (ot:OnK k t) (h1:jm f x≤0) (h2:0≤jm t x):0≤jZ k x:=by
 rw[nC (a7 of)] at h1
 rw[nC (a7 ot)] at h2
 have main: ∀(p:Pt),OnK k p→0≤aO ((pX p-Re.of x)*(pX p-Re.of k.x+(Re.of x-Re.of k.x)))→0≤jZ k x:=fun p op h=>by
  have w:=wZ op
  have e:Re.of (jZ k x)=((pY p-Re.of k.y)*(pY p-Re.of k.y)+(pX p-Re.of x)*(pX p-Re.of k.x+(Re.of x-Re.of k.x)))+ -wz k p:=ba fun n=>by unfold jZ wz;simp only[aI,ao,aD,aV,bg];grind
  have h3:0≤aO ((pY p-Re.of k.y)*(pY p-Re.of k.y)):=by rw[bj];rcases bp (pY p-Re.of k.y) with g|g|g<;>rw[g]<;>decide
  have h4:0≤aO (Re.of (jZ k x)):=by
   rw[e,dE _ (by rw[b8,w];rfl)]
   exact pZ h3 h
  rw[ca] at h4
  apply fH
  intro g
  have:aw (jZ k x) 0= -1:=by unfold aw;rw[if_pos (by grind)]
  omega
 by_cases hx:x-k.x<0
 ·refine main f of ?_
  have a:aO (Re.of x-Re.of k.x)= -1:=by
   rw[←E5];unfold aw;rw[if_pos (by grind)]
  rw[bj]
  have c1:=bp (pX f-Re.of x)
  rcases c1 with g|g|g
  ·omega
  ·grind
  ·have e:pX f-Re.of k.x=(pX f-Re.of x)+(Re.of x-Re.of k.x):=ba fun n=>by simp only[aI,ao];grind
   have h5:aO (pX f-Re.of k.x)= -1:=by rw[e,jf (by omega)];exact g
   have h6:aO (pX f-Re.of k.x+(Re.of x-Re.of k.x))= -1:=by rw[jf (by omega)];exact h5
   grind
 ·refine main t ot ?_
  have a:0≤aO (Re.of x-Re.of k.x):=by
   rw[←E5];unfold aw;rw[if_neg (by grind)];split<;>decide
  rw[bj]
  have h5:0≤aO (pX t-Re.of k.x):=by
   rw[show pX t-Re.of k.x=(pX t-Re.of x)+(Re.of x-Re.of k.x) from ba fun n=>by simp only[aI,ao];grind]
   exact pZ h2 a
  have h6:=pZ h5 a
  exact fK h2 h6
theorem wD (w:Bool):Rz 1 (sW w):=by
 unfold sW;cases w
 ·rw[if_neg (by decide)];exact tv.neg
 ·rw[if_pos rfl];exact tv
theorem SS (h:w=true):((1:Int):Rat)=sW w:=by rw[h];rfl
theorem RR (h:w=false):((-1:Int):Rat)=sW w:=by rw[h];decide+kernel
theorem Nt:iC 0=true:=by decide+kernel
theorem T8 (c:Cv) (x:Rat):TG c x=cR (t8 c x).a2++cR (t8 c x).b2++cR (zc (t8 c x).b2 (t8 c x).c):=by
 cases c with
 |seg l f t=>show cR _++cR 0++cR 0=cR _++cR 0++cR (zc 0 0);rw[EM rfl];rfl
 |arc k w f t=>
  cases hs:iC (jZ k x) with
  |true=>
   rw[N9 hs,show t8 (.arc k w f t) x=⟨x+0*rt (jZ k x),0,k.y+sW w*rt (jZ k x),0,0⟩ from if_pos hs]
   show _=cR _++cR 0++cR (zc 0 0)
   rw[EM rfl]
  |false=>rw[OY hs,show t8 (.arc k w f t) x=⟨x,0,k.y,sW w,jZ k x⟩ from if_neg (by rw[hs];decide)]
theorem PI (c:Cv) (x:Rat):x=(t8 c x).a1∧0=(t8 c x).b1:=by
 cases c with
 |seg l f t=>exact⟨rfl,rfl⟩
 |arc k w f t=>
  cases hs:iC (jZ k x) with
  |true=>
   rw[show t8 (.arc k w f t) x=⟨x+0*rt (jZ k x),0,k.y+sW w*rt (jZ k x),0,0⟩ from if_pos hs]
   exact⟨by show x=x+0*rt (jZ k x);grind,rfl⟩
  |false=>rw[show t8 (.arc k w f t) x=⟨x,0,k.y,sW w,jZ k x⟩ from if_neg (by rw[hs];decide)];exact⟨rfl,rfl⟩
theorem Ph {b1 b2 c:Rat}(h:tZ b1 b2 c=true) (hb:0=b1):Md 0 b2 (cc 0 0 (zc b2 c))=c:=by
 subst hb
 rw[Fn rfl]
 by_cases e:b2=0
 ·unfold tZ at h
  rw[if_pos ⟨rfl,e⟩] at h
  rw[KG rfl e];exact(of_decide_eq_true h).symm
 ·rw[Iw e,nF e]
end Go.Proofs.YtegpmhlfjkhjmaaGreat
