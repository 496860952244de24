/-Plain:insertion in place on any list:the list sorted as far as place p;it is a sorted permutation. -/
import Derived.Test.YtkmdgigkbhmilaaGreatNbS
namespace Go.Proofs.YtkmdgigkbhmilaaGreat
open Go Go.RowKit
variable {ty:TypeId}{pos:String}{af:Array Edge}{g:Option (Nat×Bool)}{dst:Option Nat}
section
variable {α:Type}(e:α) (C:α→α→Int)
def pk (x:α) (out:List α):Nat→Nat
 |0=>0
 |k+1=>if C x (out.getD k e)<0 then pk x out k else k+1
def zo (out:List α) (x:α):List α:=out.take (pk e C x out out.length)++x::out.drop (pk e C x out out.length)
def bH (L:List α):List α:=L.foldl (zo e C) []
def rm (out rest:List α) (x:α) (j:Nat):List α:=out.take j++x::(out.drop j++rest)
def Iy (L:List α) (p:Nat):List α:=bH e C (L.take p)++L.drop p
variable {e C}
theorem FL (x:α) (out:List α): ∀k,pk e C x out k≤k
 |0=>Nat.le_refl _
 |k+1=>by
  show(if _ then pk e C x out k else k+1)≤k+1
  split
  ·have:=FL x out k;omega
  ·exact Nat.le_refl _
theorem Iw {x:α}{out:List α}{j:Nat}(h0:0<j) (h:C x (out.getD (j-1) e)<0):pk e C x out j=pk e C x out (j-1):=by
 match j,h0 with
 |j+1,_=>exact if_pos h
theorem AE {x:α}{out:List α}{j:Nat}(h:j=0∨ ¬C x (out.getD (j-1) e)<0):pk e C x out j=j:=by
 match j with
 |0=>rfl
 |j+1=>
  rcases h with h|h
  ·omega
  ·exact if_neg h
theorem L3 (out:List α) (x:α):(zo e C out x).length=out.length+1:=by
 have:=FL (e:=e) (C:=C) x out out.length
 unfold zo
 rw[List.length_append,List.length_cons,List.length_take,List.length_drop];omega
theorem xC: ∀(L O:List α),(L.foldl (zo e C) O).length=O.length+L.length
 |[],O=>rfl
 |x::L,O=>by rw[List.foldl_cons,xC L,L3,List.length_cons];omega
theorem dr (L:List α):(bH e C L).length=L.length:=by unfold bH;rw[xC];simp
theorem IT {L:List α}{p:Nat}(h:p<L.length):bH e C (L.take (p+1))=zo e C (bH e C (L.take p)) (L.getD p e):=by
 unfold bH;rw[jN (d:=e) h,List.foldl_append];rfl
theorem EI (L:List α):Iy e C L 1=L:=by
 cases L with
 |nil=>rfl
 |cons x L=>rfl
theorem FE (L:List α):Iy e C L L.length=bH e C L:=by unfold Iy;simp
theorem FU {L:List α}{p:Nat}(h:p<L.length):Iy e C L p=rm (bH e C (L.take p)) (L.drop (p+1)) (L.getD p e) p:=by
 have hl:(bH e C (L.take p)).length=p:=by rw[dr,List.length_take,Nat.min_eq_left (Nat.le_of_lt h)]
 unfold Iy rm
 rw[show(bH e C (L.take p)).take p=bH e C (L.take p) from List.take_of_length_le (Nat.le_of_eq hl),show(bH e C (L.take p)).drop p=[] from List.drop_eq_nil_of_le (Nat.le_of_eq hl),List.nil_append,List.drop_eq_getElem_cons h,List.getD,List.getElem?_eq_getElem h]
 rfl
theorem rS {L:List α}{p j:Nat}(h:p<L.length) (hj:pk e C (L.getD p e) (bH e C (L.take p)) p=j):rm (bH e C (L.take p)) (L.drop (p+1)) (L.getD p e) j=Iy e C L (p+1):=by
 have hl:(bH e C (L.take p)).length=p:=by rw[dr,List.length_take,Nat.min_eq_left (Nat.le_of_lt h)]
 unfold Iy rm
 rw[IT h]
 unfold zo
 rw[hl,hj,List.append_assoc]
 rfl
section
variable {out rest:List α}{x:α}{j:Nat}
theorem gf (hj:j≤out.length):(rm out rest x j).length=out.length+1+rest.length:=by
 unfold rm
 rw[List.length_append,List.length_cons,List.length_append,List.length_take,List.length_drop]
 omega
theorem Aw (hj:j≤out.length):(rm out rest x j).getD j e=x:=by
 unfold rm
 have hl:(out.take j).length=j:=by rw[List.length_take];omega
 rw[List.getD,List.getElem?_append_right (by omega),hl,Nat.sub_self]
 rfl
theorem zH (h0:0<j) (hj:j≤out.length):(rm out rest x j).getD (j-1) e=out.getD (j-1) e:=by
 unfold rm
 have hl:(out.take j).length=j:=by rw[List.length_take];omega
 rw[List.getD,List.getElem?_append_left (by omega),List.getElem?_take,if_pos (by omega)]
 rfl
theorem JI (h0:0<j) (hj:j≤out.length):((rm out rest x j).set j (out.getD (j-1) e)).set (j-1) x=rm out rest x (j-1):=by
 obtain⟨k,rfl⟩: ∃k,j=k+1:=⟨j-1,by omega⟩
 have hk:k<out.length:=by omega
 rw[Nat.add_sub_cancel]
 apply List.ext_getElem?
 intro q
 rw[List.getElem?_set,List.getElem?_set,List.length_set,gf hj]
 have hl:(out.take (k+1)).length=k+1:=by rw[List.length_take];omega
 have hl2:(out.take k).length=k:=by rw[List.length_take];omega
 have hd:out.drop k=out[k]::out.drop (k+1):=List.drop_eq_getElem_cons hk
 unfold rm
 by_cases e1:k=q
 ·subst e1
  rw[if_pos rfl,if_pos (by omega),List.getElem?_append_right (by omega),hl2,Nat.sub_self];rfl
 ·rw[if_neg e1]
  by_cases e2:k+1=q
  ·subst e2
   rw[if_pos rfl,if_pos (by omega),List.getElem?_append_right (by omega),hl2,show k+1-k=1 by omega,hd,List.getD,List.getElem?_eq_getElem hk]
   rfl
  ·rw[if_neg e2]
   rcases Nat.lt_or_ge q k with h|h
   ·rw[List.getElem?_append_left (by omega),List.getElem?_append_left (by omega),List.getElem?_take,List.getElem?_take,if_pos (by omega),if_pos (by omega)]
   ·rw[List.getElem?_append_right (by omega),List.getElem?_append_right (by omega),hl,hl2,hd]
    obtain⟨r,rfl⟩: ∃r,q=k+2+r:=⟨q-k-2,by omega⟩
    rw[show k+2+r-(k+1)=r+1 by omega,show k+2+r-k=r+1+1 by omega]
    rfl
end
theorem Gv (out:List α) (x:α):(zo e C out x).Perm (x::out):=by
 unfold zo
 exact List.perm_middle.trans (by rw[List.take_append_drop])
theorem wh: ∀(L O:List α),(L.foldl (zo e C) O).Perm (O++L)
 |[],O=>by simp
 |x::L,O=>by
  rw[List.foldl_cons]
  exact(wh L _).trans (((Gv O x).append_right L).trans List.perm_middle.symm)
theorem jG (L:List α):(bH e C L).Perm L:=wh L []
variable {enc:α→List CellD}{m:Nat}
theorem kv (h: ∀x,(enc x).length=m) {O:List α}{rs:List CellD}{j:Nat}(hj:j<O.length):((aI enc O++rs).drop (j*m)).take m=enc (O.getD j e):=by
 have hl:=aG h O
 have h2:(j+1)*m≤O.length*m:=Nat.mul_le_mul_right _ hj
 rw[Nat.add_mul] at h2
 rw[List.drop_append_of_le_length (by omega),bz h (bi (d:=e) hj),List.append_assoc,←h (O.getD j e)]
 exact List.take_left
theorem qw (h: ∀x,(enc x).length=m) {O:List α}{rs:List CellD}{j:Nat}(hj:j<O.length) (x:α):(aI enc O++rs).take (j*m)++enc x++(aI enc O++rs).drop (j*m+m)=aI enc (O.set j x)++rs:=by
 have hl:=aG h O
 have h2:(j+1)*m≤(aI enc O).length:=by rw[hl];exact Nat.mul_le_mul_right _ hj
 have h1:j*m≤(aI enc O).length:=by rw[hl];exact Nat.mul_le_mul_right _ (Nat.le_of_lt hj)
 rw[show j*m+m=(j+1)*m from by rw[Nat.add_mul,Nat.one_mul],List.take_append_of_le_length h1,List.drop_append_of_le_length h2,lK h,lJ h,List.set_eq_take_append_cons_drop,if_pos hj,fA]
 show _=aI enc (O.take j)++(enc x++aI enc (O.drop (j+1)))++rs
 simp only[List.append_assoc]
end
def ci:Cv→Pt→Pt→Int
 | .seg _ _ _,_,_=>0
 | .arc k w f t,p,q=>if w then-xb k t p q else xb k f p q
def jU (c:Cv) (S:List Pt):List Cv:=gT c (c.p::(S++[c.q]))
def cG (c:Cv):List Cv:=if c.isArc then jU c (bH dPt (ci c) (f8 c)) else[c]
def oG (c:Cv):List Cv:=bH bn dK ((cG c).map Cv.fwd)
def Jo:List CellD:=ua++ua++ua++ua++ua
theorem vj (c:Cv) (S:List Pt):(jU c S).length=S.length+1:=by
 unfold jU;rw[fZ,List.length_cons,List.length_append];simp
def nD (c:Cv) (S:List Pt) (n:Nat):List Cv:=gT c (c.p::S.take n)
def jo (c:Cv) (S:List Pt) (n:Nat):Pt:=(c.p::S).getD n dPt
theorem xz {c:Cv}{S:List Pt}{n:Nat}(h:n≤S.length):(nD c S n).length=n:=by
 unfold nD;rw[fZ,List.length_cons,List.length_take,Nat.min_eq_left h];rfl
theorem qR (c:Cv): ∀(l:List Pt) (a x:Pt),gT c (a::(l++[x]))=gT c (a::l)++[c.ends ((a::l).getD l.length dPt) x]
 |[],a,x=>rfl
 |b::l,a,x=>by
  show c.ends a b::gT c (b::(l++[x]))=c.ends a b::gT c (b::l)++_
  rw[qR c l b x];rfl
theorem yn {c:Cv}{S:List Pt}{n:Nat}(h:n<S.length):nD c S (n+1)=nD c S n++[c.ends (jo c S n) (S.getD n dPt)]:=by
 unfold nD jo
 rw[jN (d:=dPt) h,qR]
 congr 3
 rw[List.length_take,Nat.min_eq_left (Nat.le_of_lt h)]
 cases n with
 |zero=>rfl
 |succ n=>
  show(S.take (n+1)).getD n dPt=S.getD n dPt
  rw[List.getD,List.getD,List.getElem?_take,if_pos (Nat.lt_succ_self n)]
theorem IV {c:Cv}{S:List Pt}:jU c S=nD c S S.length++[c.ends (jo c S S.length) c.q]:=by
 unfold jU nD jo
 rw[qR,List.take_length]
theorem Gm (c:Cv) (S:List Pt) (n:Nat):jo c S (n+1)=S.getD n dPt:=rfl
theorem G2 {c:Cv}{S:List Pt}(h:0<S.length):nD c S 1=[c.ends c.p (S.getD 0 dPt)]:=by
 rw[yn h];rfl
def R3 (x:Value):List Value→Value
 |[]=>x
 |xs=>.tuple (x::xs).toArray
def H8 (t n c:Nat):List D0→DV
 |[]=>.o t n c
 |ds=>.tn t n c ds
structure OkN (P:Program) (f:FuncId) (ds:List D0) (U:TypeId) (n m:Nat) (us:List CellD) (rs:List D0):Prop where
 cal:fg P f=true
 run: ∀(V:Nat→Prop) (vs:Array Value) (w:World),(∀x,V x→x<w.heap.size)→RdL V w vs.toList ds→Calls P f vs w fun e w'=> ∃(b c:Nat) (bs:Array Value) (rest:List CellD) (xs:List Value),
  e=.returned (R3 (.slice (some ⟨b,0,none⟩) n c) xs)∧Below w.heap.size w w'∧w.heap.size≤b∧b<w'.heap.size∧n≤c∧c≤maxLen∧rest.length=(c-n)*m∧w'.heap[b]? =some (.cells bs U (0,0))∧RdCs (fun x=>V x∨x=b) w' bs.toList (us++rest)∧RdL (fun x=>V x∨x=b) w' xs rs
structure OkT (P:Program) (f:FuncId) (U:TypeId) (n c n1:Nat) (cs0 cs1:List CellD) (ds:List D0):Prop where
 cal:fg P f=true
 run: ∀(V:Nat→Prop) (b:Nat) (bs vs:Array Value) (vl:List Value) (w:World),vs.toList=.slice (some ⟨b,0,none⟩) n c::vl→(∀x,V x→x<w.heap.size)→V b→w.heap[b]? =some (.cells bs U (0,0))→RdCs V w bs.toList cs0→RdL V w vl ds→
  Calls P f vs w fun e w'=> ∃bs':Array Value,e=.returned (.slice (some ⟨b,0,none⟩) n1 c)∧w'.heap[b]? =some (.cells bs' U (0,0))∧Mid b w w'∧RdCs V w' bs'.toList cs1
section
variable {P:Program}
theorem EK {a:Act}{t:Nat}{v:Value}(h:a.tmps[t]? =some v):a.tmps.getD t undef=v:=by
 obtain⟨hlt,e⟩:=Array.getElem?_eq_some_iff.1 h
 simp[Array.getD,hlt,e]
theorem OkN.of {f:FuncId}{fn:Func}{cd:Code}{ds rs:List D0}{U:TypeId}{n m:Nat}{us:List CellD}(hcal:fg P f=true) (hf:P.funcs[f]? =some fn) (hb:fn.body=some cd) (hlen:Nat.ble ds.length fn.ntmps=true)
 (h:Dw P cd ⟨fn.ntmps,jX 0 ds,[]⟩ fun e σ=>(e=.normal∨e=.ret)∧ ∃(t k c:Nat) (rv:List ResultVar) (rest:List CellD),fn.results.toList=.tmp t::rv∧aT t σ.tm=some (.o k n c)∧aT k σ.bx=some (U,us++rest)∧n≤c∧c≤maxLen∧rest.length=(c-n)*m∧nl P σ rv=some rs):OkN P f ds U n m us rs:=by
 refine⟨hcal,fun V vs w hV hds=>calls_of_wp hf hb ?_⟩
 refine Code.wp_mono ?_ (h V ⟨w,fun _=>False,fn.ntmps⟩ (fun _=>0) _ w (Sv (Nat.le_of_ble_eq_true hlen) hV hds))
 rintro e a' w' ⟨σ',β',hn,⟨he,t,k,c,rv,rest,hrv,ht,hk,hc1,hc2,hrl,hres⟩,hr⟩
 obtain⟨xs,hrun,hxs⟩:=xa hr _ _ hres
 obtain⟨v,ev,hv⟩:=hr.sees.tmp t _ trivial ht
 have hv:v=.slice (some ⟨β' k,0,none⟩) n c:=hv
 subst hv
 obtain⟨hvk,bs,ebl,hrd⟩:=hr.sees.box k _ _ hk
 have hBk:σ'.B k≠none:=by rw[show σ'.B k=_ from hk];simp
 have hk2:Keep (fun b=>V b∨ ∃k,σ'.B k≠none∧β' k=b) (fun x=>V x∨x=β' k) w' w':=⟨Nat.le_refl _,fun _ _ _=>rfl,fun x _ hx=>hx.imp id fun e=>⟨k,hBk,e.symm⟩⟩
 have hall:(fn.results.toList.mapM (np a')).run P w'=.ok (.slice (some ⟨β' k,0,none⟩) n c::xs) w':=by
  rw[hrv,List.mapM_cons]
  have e1:(np a' (.tmp t)).run P w'=.ok (.slice (some ⟨β' k,0,none⟩) n c) w':=by show(pure (a'.tmps.getD t undef):Go.Sem Value).run P w'=_;rw[EK ev];rfl
  simp only[Sem.run_bind,e1,Result.andThen_ok,hrun,Sem.run_pure]
 have hresults:(results fn a'.tmps).run P w'=.ok (R3 (.slice (some ⟨β' k,0,none⟩) n c) xs) w':=by
  rw[pz hall]
  cases xs with
  |nil=>rfl
  |cons x xs=>exact congrArg (fun q=>Result.ok q w') (dif_neg (by simp))
 have hown:w.heap.size≤β' k:=(hr.own k hBk).resolve_right (fun h=>h)
 rcases he with rfl|rfl
 ·exact⟨hr.dfr,_,hresults,β' k,c,bs,rest,xs,rfl,hr.bel.to (fun _ h=>h),hown,hr.sees.av _ (.inr ⟨k,hBk,rfl⟩),hc1,hc2,hrl,ebl,hrd.keep hk2,hxs.keep hk2⟩
 ·exact⟨hr.dfr,_,hresults,β' k,c,bs,rest,xs,rfl,hr.bel.to (fun _ h=>h),hown,hr.sees.av _ (.inr ⟨k,hBk,rfl⟩),hc1,hc2,hrl,ebl,hrd.keep hk2,hxs.keep hk2⟩
theorem OkT.of {f:FuncId}{fn:Func}{cd:Code}{U:TypeId}{n m n1 K:Nat}{cs0 cs1:List CellD}{ds:List D0}(hcal:fg P f=true) (hf:P.funcs[f]? =some fn) (hb:fn.body=some cd) (hlen:Nat.ble (ds.length+1) fn.ntmps=true) (hK:Nat.ble fn.ntmps K=true)
 (h:Dw P cd ⟨fn.ntmps,(0,.o K n m)::jX 1 ds,[(K,U,cs0)]⟩ fun e σ=>(e=.normal∨e=.ret)∧aT K σ.bx=some (U,cs1)∧ ∃t,fn.results.toList=[.tmp t]∧aT t σ.tm=some (.o K n1 m)):OkT P f U n m n1 cs0 cs1 ds:=by
 refine⟨hcal,fun V b bs vs vl w hvs hV hVb hbl hcs hds=>calls_of_wp hf hb ?_⟩
 refine Code.wp_mono ?_ (h _ _ (fun _=>b) _ w (O1 (Nat.le_of_ble_eq_true hlen) (Nat.le_of_ble_eq_true hK) hvs hV hVb hbl hcs hds))
 rintro e a' w' ⟨σ',β',hn,⟨he,hbx,t,hrv,ht⟩,hr⟩
 obtain⟨hfix,bs',ebl,hm,hrd⟩:=OH hr hbx
 obtain⟨v,ev,hv⟩:=hr.sees.tmp t _ trivial ht
 have hv:v=.slice (some ⟨β' K,0,none⟩) n1 m:=hv
 rw[hfix] at hv
 subst hv
 have hall:(fn.results.toList.mapM (np a')).run P w'=.ok [.slice (some ⟨b,0,none⟩) n1 m] w':=by
  rw[hrv,List.mapM_cons]
  have e1:(np a' (.tmp t)).run P w'=.ok (.slice (some ⟨b,0,none⟩) n1 m) w':=by show(pure (a'.tmps.getD t undef):Go.Sem Value).run P w'=_;rw[EK ev];rfl
  simp only[Sem.run_bind,e1,Result.andThen_ok,List.mapM_nil,Sem.run_pure]
 have hresults:(results fn a'.tmps).run P w'=.ok (.slice (some ⟨b,0,none⟩) n1 m) w':=pz hall
 rcases he with rfl|rfl
 ·exact⟨hr.dfr,_,hresults,bs',rfl,ebl,hm,hrd⟩
 ·exact⟨hr.dfr,_,hresults,bs',rfl,ebl,hm,hrd⟩
variable {ops os:Array Oper}{N:Nat}{tm:List (Nat×DV)}{bx:List (Nat×TypeId×List CellD)}
theorem DK {t:Nat}{fo:Operand}{args:Array Operand}{at_:Array TypeId}{f:FuncId}{ds rs:List D0}{U:TypeId}{n m:Nat}{us:List CellD}
 (hf:di (fun s=>aT s tm) fo=some (.v (.c (.f f)))) (ha:nI (fun s=>aT s tm) args.toList=some ds) (hok:OkN P f ds U n m us rs) (hd:aT t bx=none) (hg:gd ops ⟨some t,.call ⟨.value fo,args,at_⟩,ty,pos,af,g⟩ (fun s=>aT s tm)=some true):
 Dc P ops ⟨some t,.call ⟨.value fo,args,at_⟩,ty,pos,af,g⟩ ⟨N,tm,bx⟩ (fun σ'=> ∃c rest,n≤c∧c≤maxLen∧rest.length=(c-n)*m∧σ'=⟨N,(t,H8 t n c rs)::tm,(t,U,us++rest)::bx⟩):=by
 intro av w0 β a w hrel htn
 have hs:=Sees.of hrel.sees (L:=gy ops ⟨some t,.call ⟨.value fo,args,at_⟩,ty,pos,af,g⟩) (fun _ _=>trivial) (fun _ _ _ h=>h) (fun _ _ h=>h)
 refine⟨d8 hs hg,?_⟩
 have h1:=RdC.func_eq (aS hs (x:=fo) (by simp[Op.operands,Call.operands]) hf)
 have h2:=gU hs args.toList ds (fun x hx=>by have hx2:=Array.mem_toList_iff.1 hx;simp[Op.operands,Call.operands,hx2]) ha
 have hc:=hok.cal
 unfold fg at hc
 cases hfn:P.funcs[f]? with
 |none=>rw[hfn] at hc;cases hc
 |some fn=>
  rw[hfn] at hc
  simp only[Bool.and_eq_true,bne_iff_ne,ne_eq,Bool.not_eq_true'] at hc
  have hrun:(execOp a.eval ⟨some t,.call ⟨.value fo,args,at_⟩,ty,pos,af,g⟩).run P w=.ok (.enter f (args.map a.eval)) w:=by
   have hb2:fn.body≠none:=by have:=hc.2;cases hbb:fn.body with
    |none=>rw[hbb] at this;cases this
    |some c=>simp
   simp[execOp,resolve,h1,Deferred.ofValue,invoke,callFunc,program,Sem.run,hfn,hc.1,hb2]
  unfold Gives
  rw[hrun]
  refine(hok.run _ (args.map a.eval) w hs.av (by simpa using h2)).mono ?_
  rintro e w' ⟨b,c,bs,rest,xs,rfl,hw,hb1,hb2,hc1,hc2,hrl,hcl,hrd,hxs⟩
  refine⟨_,rfl,⟨N,(t,H8 t n c rs)::tm,(t,U,us++rest)::bx⟩,fun k=>if k=t then b else β k,⟨c,rest,hc1,hc2,hrl,rfl⟩,rfl,?_⟩
  have hx:RdX (fun y=>(av y∨ ∃k,aT k bx≠none∧β k=y)∨y=b) w' (fun k=>if k=t then b else β k) (R3 (.slice (some ⟨b,0,none⟩) n c) xs) (H8 t n c rs):=by
   cases rs with
   |nil=>
    cases xs with
    |nil=>show _=Value.slice (some ⟨if t=t then b else β t,0,none⟩) n c;rw[if_pos rfl];rfl
    |cons x xs=>exact absurd hxs.1 (by simp)
   |cons r rs=>
    cases xs with
    |nil=>exact absurd hxs.1 (by simp)
    |cons x xs=>exact⟨x::xs,by show _=Value.tuple (Value.slice (some ⟨if t=t then b else β t,0,none⟩) n c::x::xs).toArray;rw[if_pos rfl];rfl,hxs⟩
  have:=hrel.fresh (d:=t) (htn t rfl) hd hw hb1 hb2 hcl hrd hx (by intro k hk;cases rs<;>(injection hk with hk;exact hk.symm))
  refine this.congr (fun s=>?_) (fun l=>?_)
  ·show aT s ((t,H8 t n c rs)::tm)=(if some t=some s then _ else aT s tm)
   rw[bq]
   by_cases e:t=s
   ·rw[if_pos e,if_pos (by rw[e])]
   ·rw[if_neg e,if_neg (show ¬some t=some s by simpa using e)]
  ·show aT l ((t,U,us++rest)::bx)=(if some t=some l then _ else aT l bx)
   rw[bq]
   by_cases e:t=l
   ·rw[if_pos e,if_pos (by rw[e])]
   ·rw[if_neg e,if_neg (show ¬some t=some l by simpa using e)]
theorem Em {t:Nat}{fo x:Operand}{xs:List Operand}{args:Array Operand}{at_:Array TypeId}{f:FuncId}{k n c n1:Nat}{U:TypeId}{cs0 cs1:List CellD}{ds:List D0}
 (hf:di (fun s=>aT s tm) fo=some (.v (.c (.f f)))) (hargs:args.toList=x::xs) (hx:di (fun s=>aT s tm) x=some (.o k n c)) (ha:nI (fun s=>aT s tm) xs=some ds) (hb:aT k bx=some (U,cs0)) (hok:OkT P f U n c n1 cs0 cs1 ds)
 (hg:gd ops ⟨some t,.call ⟨.value fo,args,at_⟩,ty,pos,af,g⟩ (fun s=>aT s tm)=some true):
 Dc P ops ⟨some t,.call ⟨.value fo,args,at_⟩,ty,pos,af,g⟩ ⟨N,tm,bx⟩ (fun σ'=>σ'=⟨N,(t,.o k n1 c)::tm,(k,U,cs1)::bx⟩):=by
 intro av w0 β a w hrel htn
 have hs:=Sees.of hrel.sees (L:=gy ops ⟨some t,.call ⟨.value fo,args,at_⟩,ty,pos,af,g⟩) (fun _ _=>trivial) (fun _ _ _ h=>h) (fun _ _ h=>h)
 refine⟨d8 hs hg,?_⟩
 have hin: ∀y∈x::xs,y∈(⟨some t,.call ⟨.value fo,args,at_⟩,ty,pos,af,g⟩:Oper).op.operands:=fun y hy=>by
  have hx2:y∈args:=Array.mem_toList_iff.1 (by rw[hargs];exact hy)
  simp[Op.operands,Call.operands,hx2]
 have h1:=RdC.func_eq (aS hs (x:=fo) (by simp[Op.operands,Call.operands]) hf)
 have h2:=gU hs xs ds (fun y hy=>hin y (List.mem_cons_of_mem _ hy)) ha
 have h3:a.eval x=.slice (some ⟨β k,0,none⟩) n c:=aS hs (hin x (List.mem_cons_self ..)) hx
 obtain⟨hV,bs,e,hr⟩:=hs.box k U cs0 hb
 have hc:=hok.cal
 unfold fg at hc
 cases hfn:P.funcs[f]? with
 |none=>rw[hfn] at hc;cases hc
 |some fn=>
  rw[hfn] at hc
  simp only[Bool.and_eq_true,bne_iff_ne,ne_eq,Bool.not_eq_true'] at hc
  have hrun:(execOp a.eval ⟨some t,.call ⟨.value fo,args,at_⟩,ty,pos,af,g⟩).run P w=.ok (.enter f (args.map a.eval)) w:=by
   have hb2:fn.body≠none:=by have:=hc.2;cases hbb:fn.body with
    |none=>rw[hbb] at this;cases this
    |some c=>simp
   simp[execOp,resolve,h1,Deferred.ofValue,invoke,callFunc,program,Sem.run,hfn,hc.1,hb2]
  unfold Gives
  rw[hrun]
  refine(hok.run _ (β k) bs (args.map a.eval) (xs.map a.eval) w (by rw[Array.toList_map,hargs,List.map_cons,h3]) hs.av hV e hr h2).mono ?_
  rintro e w' ⟨bs',rfl,hbl,hm,hr1⟩
  refine⟨_,rfl,⟨N,(t,.o k n1 c)::tm,(k,U,cs1)::bx⟩,β,rfl,rfl,?_⟩
  have hsv:=hrel.sval (k:=k) (d:=some t) (x:=.n) (v:=undef) hb hbl hm htn rfl hr1 trivial
  have hval:=hsv.value (d:=some t) (x:=.o k n1 c) (v:=.slice (some ⟨β k,0,none⟩) n1 c) htn (Below.refl _ _) rfl (by intro l hl;injection hl with hl;subst hl;rw[if_pos rfl];simp)
  rw[uO] at hval
  refine hval.congr (fun s=>?_) (fun l=>?_)
  ·show aT s ((t,DV.o k n1 c)::tm)=(if some t=some s then _ else if some t=some s then _ else aT s tm)
   rw[bq]
   by_cases e:t=s
   ·rw[if_pos e,if_pos (by rw[e])]
   ·rw[if_neg e,if_neg (show ¬some t=some s by simpa using e),if_neg (show ¬some t=some s by simpa using e)]
  ·show aT l ((k,U,cs1)::bx)=(if k=l then _ else aT l bx)
   rw[bq]
variable {os:List Oper}{K:St→Prop}
theorem pV {t:Nat}{fo:Operand}{args:Array Operand}{at_:Array TypeId}{f:FuncId}{ds rs:List D0}{U:TypeId}{n m:Nat}{us:List CellD}
 (hf:di (fun s=>aT s tm) fo=some (.v (.c (.f f)))) (ha:nI (fun s=>aT s tm) args.toList=some ds) (hok:OkN P f ds U n m us rs) (hd:aT t bx=none) (hg:gd ops ⟨some t,.call ⟨.value fo,args,at_⟩,ty,pos,af,g⟩ (fun s=>aT s tm)=some true)
 (hk: ∀c rest,n≤c→c≤maxLen→rest.length=(c-n)*m→dl P ops os ⟨N,(t,H8 t n c rs)::tm,(t,U,us++rest)::bx⟩ K):
 dl P ops (⟨some t,.call ⟨.value fo,args,at_⟩,ty,pos,af,g⟩::os) ⟨N,tm,bx⟩ K:=
 .inr ⟨_,DK hf ha hok hd hg,fun σ' ⟨c,rest,h1,h2,h3,e⟩=>by subst e;exact hk c rest h1 h2 h3⟩
theorem sv {t:Nat}{fo x:Operand}{xs:List Operand}{args:Array Operand}{at_:Array TypeId}{f:FuncId}{k n c n1:Nat}{U:TypeId}{cs0 cs1:List CellD}{ds:List D0}
 (hf:di (fun s=>aT s tm) fo=some (.v (.c (.f f)))) (hargs:args.toList=x::xs) (hx:di (fun s=>aT s tm) x=some (.o k n c)) (ha:nI (fun s=>aT s tm) xs=some ds) (hb:aT k bx=some (U,cs0)) (hok:OkT P f U n c n1 cs0 cs1 ds)
 (hg:gd ops ⟨some t,.call ⟨.value fo,args,at_⟩,ty,pos,af,g⟩ (fun s=>aT s tm)=some true) (hk:dl P ops os ⟨N,(t,.o k n1 c)::tm,(k,U,cs1)::bx⟩ K):
 dl P ops (⟨some t,.call ⟨.value fo,args,at_⟩,ty,pos,af,g⟩::os) ⟨N,tm,bx⟩ K:=
 .inr ⟨_,Em hf hargs hx ha hb hok hg,fun σ' e=>by subst e;exact hk⟩
variable {T:TF}{B:BF}
theorem rR {x:Operand}{k n c:Nat}{ds:List D0}
 (hx:di T x=some (.tn k n c ds)) (hg:gd ops ⟨dst,.extract x 0,ty,pos,af,g⟩ T=some true):Sem P ops ⟨dst,.extract x 0,ty,pos,af,g⟩ T B (.r (.o k n c)):=
 bO hg (fun l hl=>mX (by simp[Op.operands]) hx (by injection hl with hl;subst hl;rfl)) (fun V β a w hs=>by
  obtain⟨xs,hp,_⟩:=aS hs (x:=x) (by simp[Op.operands]) hx
  refine⟨_,?_,rfl⟩
  simp only[execOp,hp,Instr.extract,Sem.run_bind,Sem.run_pure]
  simp)
theorem r8 {x:Operand}{i:Nat}{k n c:Nat}{ds:List D0}{d:D0}
 (hx:di T x=some (.tn k n c ds)) (hd:ds[i]? =some d) (hg:gd ops ⟨dst,.extract x (i+1),ty,pos,af,g⟩ T=some true):Sem P ops ⟨dst,.extract x (i+1),ty,pos,af,g⟩ T B (.r (.v d)):=
 bO hg (mG rfl) (fun V β a w hs=>by
  obtain⟨xs,hp,hr⟩:=aS hs (x:=x) (by simp[Op.operands]) hx
  have hlt:i<ds.length:=(List.getElem?_eq_some_iff.1 hd).1
  have hv:xs[i]? =some (xs[i]'(by rw[hr.1];exact hlt)):=List.getElem?_eq_getElem _
  refine⟨_,?_,hr.2 i _ d hv hd⟩
  have h2:(Value.slice (some ⟨β k,0,none⟩) n c::xs).toArray[i+1]? =some (xs[i]'(by rw[hr.1];exact hlt)):=by simp
  simp only[execOp,hp,Instr.extract,h2,Sem.run_bind,Sem.run_pure,Result.andThen_ok])
theorem qe {fo x:Operand}{xs:List Operand}{args:Array Operand}{at_:Array TypeId}{f:FuncId}{k n c m:Nat}{U:TypeId}{cs us:List CellD}{ds:List D0}{r:Int}
 (hf:di T fo=some (.v (.c (.f f)))) (hargs:args.toList=x::xs) (hx:di T x=some (.o k n c)) (ha:nI T xs=some ds) (hb:B k=some (U,cs)) (hus:cs.take (n*m)=us) (hl:n*m≤cs.length) (hnc:n≤c) (hc:c≤maxLen) (hok:Ok P f (.c (.s n us)::ds) [.c (.i .i64 r)])
 (hg:gd ops ⟨dst,.call ⟨.value fo,args,at_⟩,ty,pos,af,g⟩ T=some true):Sem P ops ⟨dst,.call ⟨.value fo,args,at_⟩,ty,pos,af,g⟩ T B (.r (.v (.c (.i .i64 r)))):=by
 refine⟨mG rfl,fun V β a w hs=>⟨d8 hs hg,?_⟩⟩
 have hin: ∀y∈x::xs,y∈(⟨dst,.call ⟨.value fo,args,at_⟩,ty,pos,af,g⟩:Oper).op.operands:=fun y hy=>by
  have hx2:y∈args:=Array.mem_toList_iff.1 (by rw[hargs];exact hy)
  simp[Op.operands,Call.operands,hx2]
 have h1:=RdC.func_eq (aS hs (x:=fo) (by simp[Op.operands,Call.operands]) hf)
 have h2:=gU hs xs ds (fun y hy=>hin y (List.mem_cons_of_mem _ hy)) ha
 have h3:a.eval x=.slice (some ⟨β k,0,none⟩) n c:=aS hs (hin x (List.mem_cons_self ..)) hx
 have hmax:maxLen=9223372036854775807:=rfl
 have h4:=Fa (q:=n) (c:=c) (m:=m) (off:=0) (ys:=us) hs hb (by rw[List.drop_zero];exact hus) (fun _=>by omega) hnc (by omega)
 have hkeep:Keep V (fun x=>V x∧x≠β k) w w:=⟨Nat.le_refl _,fun _ _ _=>rfl,fun _ _ h=>h.1⟩
 have hcl:=hok.cal
 unfold fg at hcl
 cases hfn:P.funcs[f]? with
 |none=>rw[hfn] at hcl;cases hcl
 |some fn=>
  rw[hfn] at hcl
  simp only[Bool.and_eq_true,bne_iff_ne,ne_eq,Bool.not_eq_true'] at hcl
  have hrun:(execOp a.eval ⟨dst,.call ⟨.value fo,args,at_⟩,ty,pos,af,g⟩).run P w=.ok (.enter f (args.map a.eval)) w:=by
   have hb2:fn.body≠none:=by have:=hcl.2;cases hbb:fn.body with
    |none=>rw[hbb] at this;cases this
    |some c=>simp
   simp[execOp,resolve,h1,Deferred.ofValue,invoke,callFunc,program,Sem.run,hfn,hcl.1,hb2]
  unfold Gives
  rw[hrun]
  refine(hok.run (fun x=>V x∧x≠β k) (args.map a.eval) w (fun b hb=>hs.av b hb.1) (by rw[Array.toList_map,hargs,List.map_cons,h3];exact RdL.cons h4 (h2.keep hkeep))).mono ?_
  rintro e w' ⟨v,rfl,hr,hb⟩
  have hr:RdC _ w' v (.i .i64 r):=hr
  refine⟨v,rfl,?_,hb⟩
  rw[hr.int_eq]
  exact .i _ _
theorem Um {z:Value}{zs:List CellD}{m:Nat}(hzl:zs.length=m) (hzr: ∀(V:Nat→Prop) (w:World),RdCs V w z.cells.toList zs) (r:Nat) (V:Nat→Prop) (w:World):RdCs V w (Builtin.zeroCells z.cells r).toList (List.replicate r zs).flatten:=by
 have hzs:z.cells.size=m:=by have:=(hzr (fun _=>False) default).1;rw[hzl] at this;simpa using this
 have key:RdCs V w ((List.range (r*m)).map (fun j=>z.cells[j%z.cells.size]!)) (List.replicate r zs).flatten:=by
  induction r with
  |zero=>simp;exact RdCs.nil
  |succ r ih=>
   rw[Nat.succ_mul,List.range_add,List.map_append,List.replicate_succ',List.flatten_append]
   refine RdCs.append ih ?_
   have e2:(List.map (fun x=>r*m+x) (List.range m)).map (fun j=>z.cells[j%z.cells.size]!)=z.cells.toList:=by
    apply List.ext_getElem (by simp[hzs])
    intro j h1 h2
    simp at h1
    simp only[List.getElem_map,List.getElem_range,hzs]
    rw[Nat.mul_comm r,Nat.mul_add_mod,Nat.mod_eq_of_lt (by omega),getElem!_pos z.cells j (by omega)]
    simp
   rw[e2]
   simpa using hzr V w
 unfold Builtin.zeroCells
 rw[hzs]
 simpa [hzs] using key
theorem s5 {y:Operand}{U e:TypeId}{k off n c m by_:Nat}{cs zs cs':List CellD}
 (hU:pc P U=some (e,m,by_,zs)) (hy:di T y=some (.w k off n c)) (hb:B k=some (e,cs)) (hoff:off+n*m≤cs.length) (hz:cs.take off++(List.replicate n zs).flatten++cs.drop (off+n*m)=cs')
 (hg:gd ops ⟨none,.call ⟨.builtin .clear,#[y],#[U]⟩,ty,pos,af,g⟩ T=some true):Sem P ops ⟨none,.call ⟨.builtin .clear,#[y],#[U]⟩,ty,pos,af,g⟩ T B (.s k e cs'):=by
 refine⟨rfl,⟨cs,hb⟩,fun V β a w hs=>⟨d8 hs hg,?_⟩⟩
 have e1:a.eval y=.slice (some ⟨β k,off,none⟩) n c:=aS hs (x:=y) (by simp[Op.operands,Call.operands]) hy
 obtain⟨hu,i,z,hi,hzi,hsz,hby,hzl,hzr⟩:=gI hU
 obtain⟨hV,vs,ev,hr⟩:=hs.box k e cs hb
 have hexec: ∀ {w':World},(Builtin.clear_ #[U] ty #[a.eval y]).run P w=.ok (.tuple #[]) w'→(execOp a.eval ⟨none,.call ⟨.builtin .clear,#[y],#[U]⟩,ty,pos,af,g⟩).run P w=.ok (.value (.tuple #[])) w':=fun{w'} h=>by
  simp only[execOp,resolve,invoke,builtin,Sem.run_bind,Sem.run_pure,Result.andThen_ok,List.map_toArray,List.map_cons,List.map_nil]
  rw[h]
  rfl
 unfold Gives
 rcases Nat.eq_zero_or_pos n with h0|h0
 ·subst h0
  rw[hexec (w':=w) (by rw[e1];simp[Builtin.clear_,run_underlying hu])]
  refine⟨vs,?_,rfl,rfl,rfl,?_⟩
  ·apply Array.ext_getElem?
   intro j
   rw[Array.getElem?_setIfInBounds]
   split
   ·rename_i h
    subst h
    rw[if_pos (by exact(Array.getElem?_eq_some_iff.1 ev).1)];exact ev
   ·rfl
  ·rw[←hz];simpa using hr
 ·have hrow:=Um hzl hzr n V w
  have hzlen:(Builtin.zeroCells z.cells n).toList.length=n*m:=by rw[hrow.1,List.length_flatten,List.map_replicate,List.sum_replicate_nat,hzl]
  have hvl:vs.size=cs.length:=by have:=hr.1;simpa using this
  have hst:=run_storeCells_at P (β k) off e (Builtin.zeroCells z.cells n).toList 0 vs w ev (by omega) (Km hrow)
  simp only[Nat.add_zero] at hst
  rw[hexec (w':=w.setRow (β k) (vs.toList.take off++(Builtin.zeroCells z.cells n).toList++vs.toList.drop (off+(Builtin.zeroCells z.cells n).toList.length)).toArray) (by
   rw[e1]
   simp[Builtin.clear_,run_underlying hu,Nat.ne_of_gt h0,zeroValue,typeInfo,hi,hzi]
   rw[hst]
   simp)]
  refine⟨_,kX ev,rfl,rfl,rfl,?_⟩
  rw[←hz,hzlen]
  exact((hr.take off).append hrow).append (hr.drop (off+n*m))
theorem Cm {t:Nat}{x:Operand}{U U2:TypeId}{n m:Nat}{us:List CellD}
 (hU:qP P U=some m) (hx:di (fun s=>aT s tm) x=some (.v (.c (.s n us)))) (hg:gd ops ⟨some t,.binOp .eql U x (.const (.slice none 0 0)) U2,ty,pos,af,g⟩ (fun s=>aT s tm)=some true)
 (hk: ∀b:Bool,(0<n→b=false)→dl P ops os ⟨N,(t,.v (.c (.b b)))::tm,bx⟩ K):dl P ops (⟨some t,.binOp .eql U x (.const (.slice none 0 0)) U2,ty,pos,af,g⟩::os) ⟨N,tm,bx⟩ K:=by
 refine .inr ⟨fun σ'=> ∃b:Bool,(0<n→b=false)∧σ'=⟨N,(t,.v (.c (.b b)))::tm,bx⟩,?_,fun σ' ⟨b,h,e⟩=>by subst e;exact hk b h⟩
 intro av w0 β a w hrel htn
 have hs:=Sees.of hrel.sees (L:=gy ops ⟨some t,.binOp .eql U x (.const (.slice none 0 0)) U2,ty,pos,af,g⟩) (fun _ _=>trivial) (fun _ _ _ h=>h) (fun _ _ h=>h)
 refine⟨d8 hs hg,?_⟩
 have h1:=aS hs (x:=x) (by simp[Op.operands]) hx
 have h2: ∃A c,a.eval x=.slice A n c∧(0<n→A.isNone=false):=by
  generalize a.eval x=v at h1
  have h1:RdC _ w v (.s n us):=h1
  cases h1 with
  |s0 A c _=>exact⟨A,c,rfl,fun h=>absurd h (Nat.lt_irrefl 0)⟩
  |s b off c _ _ _ _=>exact⟨_,c,rfl,fun _=>rfl⟩
 obtain⟨A,c,e,hA⟩:=h2
 have hu: ∃el,P.underlying U=some (.slice el):=by
  unfold qP at hU
  split at hU
  ·rename_i el hul;exact⟨el,hul⟩
  ·cases hU
 obtain⟨el,hu⟩:=hu
 have heq:(Op.equal U (.slice A n c) (.slice none 0 0)).run P w=.ok A.isNone w:=by
  unfold Op.equal Op.maxDepth
  rw[show(10000:Nat)=9999+1 from rfl,Op.equalIn]
  simp only[Sem.run_bind,run_underlying hu,Result.andThen_ok]
  cases A<;>rfl
 have hrun:(execOp a.eval ⟨some t,.binOp .eql U x (.const (.slice none 0 0)) U2,ty,pos,af,g⟩).run P w=.ok (.value (.bool A.isNone)) w:=by
  have e2:a.eval (.const (.slice none 0 0))=.slice none 0 0:=rfl
  have h3:(eqGuard .eql U x (.const (.slice none 0 0)) (.slice A n c) (.slice none 0 0)).run P w=.ok () w:=rfl
  have h4:binOp .eql U (.slice A n c) (.slice none 0 0)=(do pure (.bool (←Op.equal U (.slice A n c) (.slice none 0 0)))):=rfl
  simp only[execOp,e,e2,Sem.run_bind,h3,Result.andThen_ok,h4,heq,Sem.run_pure]
 unfold Gives
 rw[hrun]
 refine⟨⟨N,(t,.v (.c (.b A.isNone)))::tm,bx⟩,β,⟨_,hA,rfl⟩,rfl,?_⟩
 have hval:=hrel.value (d:=some t) (x:=.v (.c (.b A.isNone))) (v:=.bool A.isNone) htn (Below.refl _ _) (.b _) (by intro l hl;cases hl)
 refine hval.congr (fun s=>?_) (fun _=>rfl)
 show aT s ((t,DV.v (.c (.b A.isNone)))::tm)=(if some t=some s then _ else aT s tm)
 rw[bq]
 by_cases e:t=s
 ·rw[if_pos e,if_pos (by rw[e])]
 ·rw[if_neg e,if_neg (show ¬some t=some s by simpa using e)]
theorem oc {U:TypeId}{x:Operand}{f:Nat}{o':Nat}{cs us:List CellD}
 (hU:Mb P U f=some o') (hx:di T x=some (.v (.c (.p cs)))) (hu:cs.drop o'=us) (hg:gd ops ⟨dst,.fieldAddr U x f,ty,pos,af,g⟩ T=some true):
 Sem P ops ⟨dst,.fieldAddr U x f,ty,pos,af,g⟩ T B (.r (.q us)):=
 bO hg (mG rfl) (fun V β a w hs=>by
  obtain⟨b,off,vs,hp,hb,hv,hr,hc⟩:=RdC.ptr_eq (aS hs (by simp[Op.operands]) hx)
  obtain⟨fs,fd,h1,h2,h3,h4⟩:=zh hU
  refine⟨.pointer (some ⟨b,off+o',none⟩),?_,b,off+o',vs.drop o',rfl,hb,hv,by rw[←hu];exact hr.drop o',fun j u hj=>?_⟩
  ·simp only[execOp,Instr.fieldAt,hp,Instr.sureAddr,Sem.run_bind,Sem.run_pure,Result.andThen_ok,run_underlying h1,h2,h4,jb]
  ·rw[List.getElem?_drop] at hj
   rw[Nat.add_assoc];exact hc (o'+j) u hj)
end
theorem TZ {P:Program}{N:Nat}{tm:List (Nat×DV)}{bx:List (Nat×TypeId×List CellD)}{c:Code}{Q:Exit→St→Prop}{t n:Nat}{us:List CellD}(ht:aT t tm=some (.f n us)) (h:Dw P c ⟨N,(t,.v (.c (.s n us)))::tm,bx⟩ Q):Dw P c ⟨N,tm,bx⟩ Q:=fun av w0 β a w hr=>by
 obtain⟨v,hv,hx⟩:=hr.sees.tmp t _ trivial ht
 have h2:=hr.upd (t:=t) (x:=.v (.c (.s n us))) hv hx.2 rfl
 refine h av w0 β a w (h2.congr (fun s=>?_) (fun _=>rfl))
 show aT s ((t,.v (.c (.s n us)))::tm)=_
 rw[bq];rfl
theorem Of {k:Ci}{w:Bool}{f t p:Pt}(vc:CvV (.arc k w f t)) (hm:(Cv.arc k w f t).mono=true) (op:OnK k p):
 (Cv.arc k w f t).on p=true↔kd k p≠(if w then 3 else 1)∧cx f p≤0∧cx p t≤0:=by
 have h0:0<k.q:=vc.pos
 have hk:=vc.g.1
 have of:OnK k f:=⟨vc.g.2.1,cb.1 vc.sp⟩
 have ot:OnK k t:=⟨vc.g.2.2,cb.1 vc.sq⟩
 have hh:=tw hk h0 of ot hm
 have af:=fe (ck of) (ck op)
 have at_:=fe (ck ot) (ck op)
 have cf:=jn h0 op of
 have ct:=jn h0 op ot
 rw[yy (cb.2 op.2)]
 show(decide ((Cv.arc k w f t).ord f p≤0)&&decide ((Cv.arc k w f t).ord p t≤0))=true↔_
 cases w with
 |false=>
  rw[wN of.1 ot.1 op.1,decide_eq_true_iff,qv]
  have h3:=jS (ck of) (ck op) (ck ot)
  rw[if_neg (by decide)] at hh
  obtain⟨a1,a2,a3⟩:=hh
  obtain⟨i,hi⟩:=fP (fC p f)
  obtain⟨l,hl⟩:=fP (fC p t)
  rw[a3] at h3⊢
  rw[hi] at h3 cf⊢
  rw[hl] at h3 ct⊢
  rw[NE _ _ _ i l a1 a2 cf ct h3,if_neg (by decide)]
  constructor
  ·intro h;exact⟨h.1,by omega,h.2.2⟩
  ·intro h;exact⟨h.1,by omega,h.2.2⟩
 |true=>
  rw[AU h0 of ot op,decide_eq_true_iff,qv]
  have h3:=jS (ck ot) (ck op) (ck of)
  rw[if_pos rfl] at hh
  obtain⟨a1,a2,a3⟩:=hh
  obtain⟨i,hi⟩:=fP (fC p t)
  obtain⟨l,hl⟩:=fP (fC p f)
  rw[a3] at h3⊢
  rw[hi] at h3 ct⊢
  rw[hl] at h3 cf⊢
  rw[NA _ _ _ i l a1 a2 ct cf h3,if_pos rfl]
  constructor
  ·intro h;exact⟨h.1,by omega,h.2.1⟩
  ·intro h;exact⟨h.1,h.2.2,by omega⟩
def Cv.over (c:Cv) (p:Pt):Bool:=decide (cx c.p p≤0)&&decide (cx p c.q≤0)
def mI (c:Cv) (p:Pt):Int:=if c.vert then(if cy p c.q>0 then 1 else if cy p c.p<0 then-1 else 0) else
 match c with
 | .seg l _ _=>d9 l p*aV l.b 0
 | .arc k w _ _=>if w then(if fT p k.y<0 then-1 else-iu k p) else if fT p k.y>0 then 1 else iu k p
def fB (c:Cv) (p:Pt):Int:=if c.over p then mI c p else 0
def fD (c:Cv) (p:Pt):Int:=if c.over p then 0 else 1
theorem A3 {l:Ln}{p q:Pt}(hp:GP p) (hq:GP q) (h1:d9 l p=0):d9 l q=bR (Re.of l.a*(pX q-pX p)+Re.of l.b*(pY q-pY p)):=by
 rw[mx hp] at h1
 rw[mx hq]
 have e:sP l q=(Re.of l.a*(pX q-pX p)+Re.of l.b*(pY q-pY p))+sP l p:=Re.ext fun n=>by unfold sP;simp only[bt,bp,bK,cJ];grind
 rw[e,dy _ h1]
theorem Kc {l:Ln}{p q:Pt}(hp:GP p) (hq:GP q) (h1:d9 l p=0) (h2:d9 l q=0) (hb:l.b≠0) (hx:cx q p=0):cy q p=0:=by
 have h:=A3 hp hq h1
 rw[h2] at h
 rw[iQ (b9 hq) (b9 hp)] at hx
 rw[tZ (b9 hq) (b9 hp)]
 rw[gN (by rw[cj,hx,Int.mul_zero]),cj,dN] at h
 rcases Int.mul_eq_zero.1 h.symm with g|g
 ·exact absurd (fu.1 g) hb
 ·exact g
theorem I0 {p q:Pt}(hp:GP p) (hq:GP q):cy q p= -cy p q:=by rw[tZ (b9 hp) (b9 hq),tZ (b9 hq) (b9 hp),j8]
theorem yR {p q:Pt}(h:cx p q=0):cP p q=cy p q:=if_neg (fun g=>g h)
theorem Fz {l:Ln}{f t p q:Pt}(h:cP f t<0):(Cv.seg l f t).ord p q=cP p q:=by
 show(if decide (cP f t>0)=true then-cP p q else cP p q)=_
 rw[if_neg (by simp;omega)]
theorem LJ {c:Cv}(vc:CvV c) (hm:c.mono=true) {p:Pt}(hp:GP p) (ho:c.over p=true):mI c p=0↔c.on p=true:=by
 unfold Cv.over at ho
 rw[Bool.and_eq_true] at ho
 have o1:=of_decide_eq_true ho.1
 have o2:=of_decide_eq_true ho.2
 cases c with
 |seg l f t=>
  have hf:=vc.g.2.1
  have ht:=vc.g.2.2
  have hl:=vc.g.1
  have sf:d9 l f=0:=by have:=vc.sp;simpa [Cv.supp,Cv.p] using this
  have st:d9 l t=0:=by have:=vc.sq;simpa [Cv.supp,Cv.q] using this
  have o1:cx f p≤0:=o1
  have o2:cx p t≤0:=o2
  have hlt:cP f t<0:=by have hm:(!decide (cP f t≥0))=true:=hm;simpa using hm
  have hvb:=oK hl hf ht sf st (by omega)
  have hon:(Cv.seg l f t).on p=((d9 l p==0)&&decide (cP f p≤0)&&decide (cP p t≤0)):=by
   show((d9 l p==0)&&decide ((Cv.seg l f t).ord f p≤0)&&decide ((Cv.seg l f t).ord p t≤0))=_
   rw[Fz hlt,Fz hlt]
  rw[hon]
  unfold mI
  show(if (cx f t==0)=true then(if cy p t>0 then(1:Int) else if cy p f<0 then-1 else 0) else d9 l p*aV l.b 0)=0↔_
  have af:=fe (b9 hf) (b9 hp)
  have ay:=I0 hf hp
  by_cases hv:cx f t=0
  ·rw[if_pos (by rw[hv];rfl)]
   have hb:=hvb.1 hv
   have hx:cx f p=0:=by
    rw[iQ (b9 hf) (b9 ht)] at hv
    rw[iQ (b9 hp) (b9 ht)] at o2
    rw[iQ (b9 hf) (b9 hp)] at o1⊢
    have e:pX p-pX t= -(pX f-pX p)+(pX f-pX t):=Re.ext fun n=>by simp only[bt,bp,bT];grind
    rw[e,dy _ hv,dz] at o2
    omega
   have hx2:cx p t=0:=by
    rw[iQ (b9 hf) (b9 ht)] at hv
    rw[iQ (b9 hf) (b9 hp)] at hx
    rw[iQ (b9 hp) (b9 ht)]
    have e:pX p-pX t= -(pX f-pX p)+(pX f-pX t):=Re.ext fun n=>by simp only[bt,bp,bT];grind
    rw[e,dy _ hv,dz,hx];rfl
   have hs:d9 l p=0:=by
    rw[A3 hf hp sf,hb,dy _ (by rw[cj,dN,eG,Int.zero_mul]),cj]
    rw[iQ (b9 hf) (b9 hp)] at hx
    have e:bR (pX p-pX f)=0:=by rw[j8,hx];rfl
    rw[e,Int.mul_zero]
   rw[hs,yR hx,yR hx2]
   simp only[beq_self_eq_true,Bool.true_and,Bool.and_eq_true,decide_eq_true_eq]
   constructor
   ·intro h
    split at h
    ·omega
    ·split at h
     ·omega
     ·exact⟨by omega,by omega⟩
   ·intro h
    rw[if_neg (by omega),if_neg (by omega)]
  ·rw[if_neg (by simpa using hv)]
   have hb:l.b≠0:=fun e=>hv (hvb.2 e)
   have hc:aV l.b 0≠0:=fun e=>hb (fu.1 e)
   simp only[Bool.and_eq_true,beq_iff_eq,decide_eq_true_eq]
   constructor
   ·intro h
    have hs:d9 l p=0:=(Int.mul_eq_zero.1 h).resolve_right hc
    refine⟨⟨hs,?_⟩,?_⟩
    ·by_cases g:cx f p=0
     ·have:=Kc hp hf hs sf hb g
      rw[yR g];omega
     ·rw[Qr g];exact o1
    ·by_cases g:cx p t=0
     ·have:=Kc ht hp st hs hb g
      rw[yR g];omega
     ·rw[Qr g];exact o2
   ·intro h
    rw[h.1.1,Int.zero_mul]
 |arc k w f t=>
  have h0:0<k.q:=vc.pos
  have hf:=vc.g.2.1
  have o1:cx f p≤0:=o1
  have o2:cx p t≤0:=o2
  have hoff:iu k p≠0→(Cv.arc k w f t).on p=false:=fun h=>by
   unfold Cv.on
   rw[show(Cv.arc k w f t).supp p=(iu k p==0) from rfl,show(iu k p==0)=false from by simpa using h];rfl
  have hsome:iu k p=0→((Cv.arc k w f t).on p=true↔kd k p≠(if w then 3 else 1)):=fun h=>by
   rw[Of vc hm ⟨hp,h⟩]
   exact⟨fun h=>h.1,fun h=>⟨h,o1,o2⟩⟩
  have h3:iu k p=0→(kd k p=3↔fT p k.y<0):=fun h=>by
   rcases kK h0 ⟨hp,h⟩ with⟨a,b,_⟩|⟨a,b⟩|⟨a,b,_⟩|⟨a,b⟩<;>rw[a]
   ·exact⟨fun h=>absurd h (by decide),fun h=>by omega⟩
   ·exact⟨fun h=>absurd h (by decide),fun h=>by omega⟩
   ·exact⟨fun h=>absurd h (by decide),fun h=>by omega⟩
   ·exact⟨fun _=>b,fun _=>rfl⟩
  have h1:iu k p=0→(kd k p=1↔fT p k.y>0):=fun h=>by
   rcases kK h0 ⟨hp,h⟩ with⟨a,b,_⟩|⟨a,b⟩|⟨a,b,_⟩|⟨a,b⟩<;>rw[a]
   ·exact⟨fun h=>absurd h (by decide),fun h=>by omega⟩
   ·exact⟨fun _=>b,fun _=>rfl⟩
   ·exact⟨fun h=>absurd h (by decide),fun h=>by omega⟩
   ·exact⟨fun h=>absurd h (by decide),fun h=>by omega⟩
  unfold mI
  show(if false=true then(if cy p t>0 then(1:Int) else if cy p f<0 then-1 else 0) else if w=true then(if fT p k.y<0 then-1 else-iu k p) else if fT p k.y>0 then 1 else iu k p)=0↔_
  rw[if_neg (by decide)]
  by_cases hs:iu k p=0
  ·rw[hsome hs]
   cases w with
   |true=>
    rw[if_pos rfl,if_pos rfl,ne_eq,h3 hs]
    split
    ·rename_i g;exact⟨fun h=>absurd h (by decide),fun h=>absurd g h⟩
    ·rename_i g;exact⟨fun _=>g,fun _=>by rw[hs];rfl⟩
   |false=>
    rw[if_neg (show ¬false=true by decide),if_neg (show ¬false=true by decide),ne_eq,h1 hs]
    split
    ·rename_i g;exact⟨fun h=>absurd h (by decide),fun h=>absurd g h⟩
    ·rename_i g;exact⟨fun _=>g,fun _=>hs⟩
  ·rw[hoff hs]
   refine⟨fun h=>?_,fun h=>by cases h⟩
   exfalso
   split at h
   ·split at h
    ·omega
    ·omega
   ·split at h
    ·omega
    ·exact hs h
theorem lG (x y:Rat):aV x y=bR (Re.of x-Re.of y):=by
 rw[←mw,←dN]
 exact congrArg bR (Re.ext fun n=>by simp only[bp,cJ];grind)
def sW (w:Bool):Rat:=if w then 1 else-1
def gB (k:Ci) (x:Rat):Rat:=k.q-(x-k.x)*(x-k.x)
def tB:Cv→Rat→Pt
 | .seg l _ _,x=>⟨x,0,(l.c-l.a*x)/l.b,0,0⟩
 | .arc k w _ _,x=>fv x 0 k.y (sW w) (gB k x)
def C0:Cv→Rat→List CellD
 | .seg l _ _,x=>cR ((l.c-l.a*x)/l.b)++cR 0++cR 0
 | .arc k w _ _,x=>if go (gB k x) then cR (k.y+sW w*rt (gB k x))++cR 0++cR 0 else cR k.y++cR (sW w)++cR (zc (sW w) (gB k x))
theorem Fr {k:Ci}{w:Bool}{f t:Pt}{x:Rat}(hs:go (gB k x)=true):C0 (.arc k w f t) x=cR (k.y+sW w*rt (gB k x))++cR 0++cR 0:=if_pos hs
theorem HZ {k:Ci}{w:Bool}{f t:Pt}{x:Rat}(hs:go (gB k x)=false):C0 (.arc k w f t) x=cR k.y++cR (sW w)++cR (zc (sW w) (gB k x)):=if_neg (by rw[hs];decide)
def rV (c:Cv) (x:Rat):Bool:= !c.vert&&(decide (lH c.p x≤0)&&decide (0≤lH c.q x))
def iV (c:Cv) (x:Rat):Bool:=decide (lH c.p x≤0)&&decide (-lH c.q x≤0)
theorem jm {c:Cv}{x:Rat}:rV c x=(!c.vert&&iV c x):=by
 unfold rV iV
 rw[decide_eq_decide.2 (show 0≤lH c.q x↔ -lH c.q x≤0 from⟨fun h=>by omega,fun h=>by omega⟩)]
theorem ti {k:Ci}{f t:Pt}{x:Rat}(of:OnK k f) (ot:OnK k t) (h1:lH f x≤0) (h2:0≤lH t x):0≤gB k x:=by
 rw[kQ (ck of)] at h1
 rw[kQ (ck ot)] at h2
 have main: ∀(p:Pt),OnK k p→0≤bR ((pX p-Re.of x)*(pX p-Re.of k.x+(Re.of x-Re.of k.x)))→0≤gB k x:=fun p op h=>by
  have w:=pq op
  have e:Re.of (gB k x)=((pY p-Re.of k.y)*(pY p-Re.of k.y)+(pX p-Re.of x)*(pX p-Re.of k.x+(Re.of x-Re.of k.x)))+ -tq k p:=Re.ext fun n=>by unfold gB tq;simp only[bt,bp,bK,cJ,bT];grind
  have h3:0≤bR ((pY p-Re.of k.y)*(pY p-Re.of k.y)):=by rw[cj];rcases cF (pY p-Re.of k.y) with g|g|g<;>rw[g]<;>decide
  have h4:0≤bR (Re.of (gB k x)):=by
   rw[e,dy _ (by rw[dz,w];rfl)]
   exact pJ h3 h
  rw[dN] at h4
  apply Classical.byContradiction
  intro g
  have:aV (gB k x) 0= -1:=by unfold aV;rw[if_pos (by grind)]
  omega
 by_cases hx:x-k.x<0
 ·refine main f of ?_
  have a:bR (Re.of x-Re.of k.x)= -1:=by
   rw[←lG];unfold aV;rw[if_pos (by grind)]
  rw[cj]
  have c1:=cF (pX f-Re.of x)
  rcases c1 with g|g|g
  ·omega
  ·rw[g,Int.zero_mul];exact Int.le_refl _
  ·have e:pX f-Re.of k.x=(pX f-Re.of x)+(Re.of x-Re.of k.x):=Re.ext fun n=>by simp only[bt,bp];grind
   have h5:bR (pX f-Re.of k.x)= -1:=by rw[e,gJ (by omega)];exact g
   have h6:bR (pX f-Re.of k.x+(Re.of x-Re.of k.x))= -1:=by rw[gJ (by omega)];exact h5
   rw[g,h6];decide
 ·refine main t ot ?_
  have a:0≤bR (Re.of x-Re.of k.x):=by
   rw[←lG];unfold aV;rw[if_neg (by grind)];split<;>decide
  rw[cj]
  have h5:0≤bR (pX t-Re.of k.x):=by
   rw[show pX t-Re.of k.x=(pX t-Re.of x)+(Re.of x-Re.of k.x) from Re.ext fun n=>by simp only[bt,bp];grind]
   exact pJ h2 a
  have h6:=pJ h5 a
  exact Int.mul_nonneg h2 h6
theorem rT (w:Bool):Rz 1 (sW w):=by
 unfold sW;cases w
 ·rw[if_neg (by decide)];exact iy.neg
 ·rw[if_pos rfl];exact iy
theorem Ny {w:Bool}(h:w=true):((1:Int):Rat)=sW w:=by rw[h];rfl
theorem MI {w:Bool}(h:w=false):((-1:Int):Rat)=sW w:=by rw[h];decide+kernel
theorem oC {k:Ci}(hk:GK k) {x:Rat}(hx:Rz 2 x):Rz 11 (gB k x):=(hk.q.sub ((hx.sub hk.x).mul (hx.sub hk.x))).mono (by decide)
theorem vN:go 0=true:=by decide+kernel
theorem lp (p:Pt) (r:List CellD):(au p++r).take 20=au p:=by rw[←aO p];exact List.take_left
end Go.Proofs.YtkmdgigkbhmilaaGreat
