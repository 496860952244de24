/-Plain:a point and the ends of curves. -/
import Derived.Test.YtegeknjkgadehaaGreatTqR
namespace Go.Proofs.YtegeknjkgadehaaGreat
open Go Go.RowKit
variable {c d m:Cv}{f9:FuncId}{rs us9:List CellD}{X:List Cv}{L M S:List Pt}{N c9 n off s:Nat}{a b p q x:Pt}{K:Pt->Bool}{U e ty:TypeId}
theorem aba (vc:CvV c) (hm:c.mono=true) (A:GP p) (j:c.over p=true):(nJ c p==0)=c.on p:=by
 have h:=adz vc hm A j;unfold nJ;rw[if_pos j];cases g:c.on p with
 |true=>rw[h.2 g];rfl
 |false=>exact beq_eq_false_iff_ne.2 (fun e=>by rw[h.1 e] at g;cases g)
section
variable {P:Program}{eO:Array Oper}{T:TF}{B:BF}{dst:Option Nat}{x i:Operand}{U:TypeId}{ty:TypeId}{pos:String}{af:Array Edge}{g:Option (Nat×Bool)}{n m c k q:Nat}{ki:IntKind}
theorem sO (hU:pT P U=some m) (A:cE T x=some (.o k n c)) (D:cE T i=some (.v (.c (.i ki q)))) (I:q<n) (j:n<=c) (J:gd eO ⟨dst,.slice U x (some i) none none,ty,pos,af,g⟩ T=some true):Sem P eO ⟨dst,.slice U x (some i) none none,ty,pos,af,g⟩ T B (.r (.w k (q*m) (n-q) (c-q))):=by
 have h:=Kr (B:=B) hU A D (xl I) j J
 rw[if_pos (by omega)] at h
 exact h
theorem uJ {j:Int}(hU:pT P U=some m) (R:cE T x=some (.w k (q*m) n c)) (hi:cE T i=some (.v (.c (.i ki j)))) (hj:0<=j/\j<n) (hs:(q:Int)+j=s) (hg:gd eO ⟨dst,.indexAddr U x i,ty,pos,af,g⟩ T=some true):Sem P eO ⟨dst,.indexAddr U x i,ty,pos,af,g⟩ T B (.r (.p k (s*m))):=
 bv hg (fun k' e=>by
  obtain rfl:k=k':=by injection e
  exact oT (by simp[Op.operands]) R rfl) (fun V β a w D=>by
  have e:a.eval x=.slice (some ⟨β k,q*m,none⟩) n c:=ap D (by simp[Op.operands]) R;unfold pT at hU;split at hU;case h_2=>cases hU
  rename_i W I;cases A:P.info? W with
  |none=>rw[A] at hU;cases hU
  |some a3=>
   rw[A] at hU;simp at hU;have es:s*m=q*m+j.toNat*m:=by rw[<-mS];congr 1;omega
   refine⟨.pointer (some ⟨β k,s*m,none⟩),?_,rfl⟩;have J: ∀w,(sizeOf W).run P w=.ok m w:=fun w=>by unfold sizeOf typeInfo;simp[program,Sem.run,A,hU]
   rw[es];simp[execOp,Instr.indexAt,e,gY (ap D (by simp[Op.operands]) hi),asIntOf,run_underlying I,hj.1,hj.2,J,fI])
theorem PW (hU:pT P U=some m) (j:cE T x=some (.w k off n c)) (D:gd eO ⟨dst,.call ⟨.builtin .len,#[x],#[U]⟩,ty,pos,af,g⟩ T=some true):Sem P eO ⟨dst,.call ⟨.builtin .len,#[x],#[U]⟩,ty,pos,af,g⟩ T B (.r (.v (.c (.i .i64 n)))):=
 bv D (qV rfl) (fun V β a w hs=>by
  have e:a.eval x=.slice (some ⟨β k,off,none⟩) n c:=ap hs (by simp[Op.operands,Call.operands]) j;unfold pT at hU;split at hU
  .rename_i I A;refine⟨.int .i64 n,?_,.i _ _⟩;simp[execOp,resolve,invoke,builtin,Builtin.len_,e,run_underlying A,goInt]
  .cases hU)
end
theorem ixG (W: ∀p,GP p->cq f9 (.a (ah p)::us9.map .c) [.c (.b (!K p))]) (V: ∀p∈L,GP p) (lL:L.length<=12):cq 135 [.c (.s ((L).length) (aD ah (L))),.c (.k f9 us9)] [.c (.i .i64 (Ku (fun p=> !K p) L))]:=by
 apply bE Tryz.func135 rfl;refine DW.mk<|bK (ι:={n:Nat // n<=L.length/\ ∀i,i<n->(!K (L.getD i dPt))=false}) (fun i=>⟨19,[(0,.v (.c (.s ((L).length) (aD ah L)))),(1,.v (.c (.k f9 us9))),(7,.v (.c (.i .i64 (L.length:Int)))),(8,.v (.c (.i .i64 (i.1:Int))))],[]⟩) (fun i=>L.length-i.1) ⟨0,iB _,fun i hi=>absurd hi (by omega)⟩ (au (bt rfl) trivial rfl) ?_;rintro⟨n,J,D⟩;dsimp only;apply th;refine dg rfl (fun j=>?_) (fun j=>?_)
 .have I:n<L.length:=by have:=of_decide_eq_true j;omega
  refine ar (mP dPt ao I fr rfl)<|ar (zu ao bb rfl)<|ar (oX rfl rfl ((W _ (V _ (dG I)))) rfl) ?_;refine dg rfl (fun A=>?_) (fun A=>?_)
  .apply ae;rw[Me I D A];exact aj aa
  .have R:=A;refine ar (eg (by omega) rfl) ?_;exact⟨⟨n+1,I,fun i hi=>(Nat.lt_succ_iff_lt_or_eq.1 hi).elim (D i) fun e=>by rw[e];exact R⟩,au (bt rfl) trivial rfl,by show L.length-(n+1)<L.length-n;omega⟩
 .have hp:n=L.length:=by have:=of_decide_eq_false j;omega
  apply ae;rw[Ih fun i hi=>D i (by omega)];exact aj aa
theorem dlG (hK: ∀p,GP p->cq f9 (.a (ah p)::us9.map .c) [.c (.b (!K p))]) (hL: ∀p∈L,GP p) (lL:L.length<=12) (W:L.length<=c9) (V:c9<=maxLen):OkT Tryz.prog 56 42 L.length c9 ((L.filter K).length) (aD ah L++rs) (aD ah (L.filter K)++(Vw (L.length-(L.filter K).length)++rs)) [.c (.k f9 us9)]:=by
 refine OkT.of (K:=100000) (by kernel_rfl) Tryz.func56 rfl rfl rfl ?_;rw[show Tryz.f56.ntmps=42 from rfl];refine ab<|ag<|ab<|ag<|ar (Pa rfl rfl rfl rfl rfl (by rw[<-aK ao L];exact List.take_left) (by rw[dB,aK ao];omega) W V (ixG hK hL lL) rfl) ?_;refine ab<|ab<|ag ?_;refine aJ rfl (fun I=>?_) (fun I=>?_)
 .have hj:Ku (fun p=> !K p) L= -1:=by simpa using I
  have eF:=UH hj;refine ab<|ag<|aU ?_;rw[eF,vk];exact⟨.inr rfl,rfl,4,rfl,rfl⟩
 .obtain⟨j,gj,hj,hn,a3⟩:=Uo (by simpa using I);obtain⟨f1,f2⟩:=T8 gj hn a3;refine pG (σ':=⟨42,[(0,.o 100000 L.length c9),(1,.v (.c (.k f9 us9))),(5,.v (.c (.i .i64 (j:Int))))],[(100000,42,aD ah L++rs)]⟩) (au ⟨rfl,rfl,congrArg (fun q=>some (DV.v (.c (.i .i64 q)))) hj,trivial⟩ ⟨rfl,trivial⟩ rfl) ?_;refine aA<|ab<|ab<|ag<|ar (eg (by omega) rfl)<|aM<|bK (ι:={n:Nat // j+1<=n/\n<=L.length/\(kF K L n).length<n}) (fun i=>⟨42,[(0,.o 100000 L.length c9),(1,.v (.c (.k f9 us9))),(5,.v (.c (.i .i64 ((((kF K L i.1).length:Nat):Int))))),(6,.v (.c (.i .i64 (i.1:Int))))],[(100000,42,aD ah (Ez K L i.1)++rs)]⟩) (fun i=>L.length-i.1) ⟨j+1,bk _,gj,by omega⟩ (au ⟨rfl,rfl,congrArg (fun q=>some (DV.v (.c (.i .i64 ((q:Nat):Int))))) f1.symm,rfl,trivial⟩ ⟨congrArg (fun q=>some (42,aD ah q++rs)) f2.symm,trivial⟩ rfl) ?_;rintro⟨n,h1,h2,h3⟩;dsimp only;refine ab<|ab<|ag<|ar (ko fr rfl rfl) ?_;refine aJ rfl (fun J=>?_) (fun J=>?_)
  .have A:n<L.length:=by have:=of_decide_eq_true J;omega
   refine aA<|ab<|aM<|ab<|bN<|cZ 2<|bj (a8 fr rfl rfl (by omega) rfl) ?_;refine bj (aR bb rfl rfl ((iQ ao (by rw[yD (by omega)];exact A)).trans (congrArg ah (acr A))) (ao _) rfl) ?_;refine ro (lI Bb rfl) rfl<|gm<|ab<|ag ?_;refine ar (oX rfl rfl ((hK _ (hL _ (dG A)))) rfl) ?_;refine aJ rfl (fun D=>?_) (fun D=>?_)
   .have R:K (L.getD n dPt)=true:=by simpa using D
    have y1:=Qw A R;refine ab<|bN<|cZ 3<|bj (a8 fr rfl rfl (by omega) rfl) ?_;refine gS (aV bb rfl rfl rfl (ao _) (by rw[dB,aK ao,yD (by omega)];omega) (qW ao (by rw[yD (by omega)];omega) _) rfl) ?_;refine bO<|ag<|ar (ca ((((kF K L n).length+1:Nat):Int)) ((bc (by omega) (by omega)).trans (congrArg some (by omega))) rfl)<|ag<|ar (eg (by omega) rfl) ?_;exact⟨⟨n+1,by omega,A,by rw[y1,dB];show(kF K L n).length+1<n+1;omega⟩,au ⟨rfl,rfl,congrArg (fun q=>some (DV.v (.c (.i .i64 ((q:Nat):Int))))) (show(kF K L n).length+1=(kF K L (n+1)).length from by rw[y1,dB];rfl),rfl,trivial⟩ ⟨congrArg (fun q=>some (42,aD ah q++rs)) (X2 A R),trivial⟩ rfl,by show L.length-(n+1)<L.length-n;omega⟩
   .have R:K (L.getD n dPt)=false:=by simpa using D
    refine aA<|ag<|ar (eg (by omega) rfl) ?_;exact⟨⟨n+1,by omega,A,by rw[Ni A R];omega⟩,au ⟨rfl,rfl,congrArg (fun q=>some (DV.v (.c (.i .i64 ((List.length q:Nat):Int))))) (Ni A R).symm,rfl,trivial⟩ ⟨congrArg (fun q=>some (42,aD ah q++rs)) (abj A R).symm,trivial⟩ rfl,by show L.length-(n+1)<L.length-n;omega⟩
  .have hq:n=L.length:=by have:=of_decide_eq_false J;omega
   have eF:(kF K L n)=(L.filter K):=by rw[hq];exact TW
   refine bH<|ab<|ag<|ar (sO fr rfl rfl (by omega) (by omega) rfl) ?_;refine n6 (EA iw rfl rfl (by rw[dB,aK ao,yD (by omega)];omega) (VI (by omega)) rfl) ?_;refine ab<|ag<|ar (ve fr rfl rfl (by omega) rfl) ?_;apply aU;rw[<-eF];exact⟨.inr rfl,rfl,4,rfl,rfl⟩
theorem adx {k:Ci}{w:Bool}{f t:Pt}(D:GK k) (J:GP f) (R:GP t) (A:GP p) (I:GP q):cq 70 [.a (([.b true]++lp++bG k++[.b w]++ah f++ah t)),.a (ah p),.a (ah q)] [.c (.i .i64 (a7 (Cv.arc k w f t) p q))]:=by
 apply bE Tryz.func70 rfl;refine ar (bg gC rfl) ?_;apply mL rfl;refine ar (bg gC rfl) ?_;refine dg rfl (fun j=>?_) (fun j=>?_)
 .refine ar (df (bG k) n9 rfl (by kernel_rfl)) ?_;refine ar (df (ah t) bb rfl (by kernel_rfl)) ?_;refine ac rfl (FW D R A I) ?_;refine ar (fG rfl (AU (acm k t p q)) rfl) ?_;apply ae;rw[show a7 (Cv.arc k w f t) p q= -vo k t p q from if_pos j];exact aj aa
 .refine ar (df (bG k) n9 rfl (by kernel_rfl)) ?_;refine ar (df (ah f) bb rfl (by kernel_rfl)) ?_;refine ac rfl (FW D J A I)<|ae ?_;rw[show a7 (Cv.arc k w f t) p q=vo k f p q from if_neg (by rw[j];decide)];exact aj aa
theorem TU (vc:CvV c) (j:GP p) (A:GP q):cq 70 [.a (aC c),.a (ah p),.a (ah q)] [.c (.i .i64 (a7 c p q))]:=by
 cases c with
 |seg l f t=>exact adT vc.g.1 vc.g.2.1 vc.g.2.2 j A
 |arc k w f t=>exact adx vc.g.1 vc.g.2.1 vc.g.2.2 j A
theorem aeU (vc:CvV c) (D:GP p):cq 64 [.a (aC c),.a (ah p)] [.c (.b (c.inner p))]:=by
 apply bE Tryz.func64 rfl;refine ar (eY (ai _) ba rfl) ?_;refine ac rfl (tW vc D) ?_;refine iN (aY rfl) (fun c1 j=>?_);cases c1
 .refine ar (aY rfl)<|ae ?_;rw[aeN j];exact aj aa
 .refine ar (aR bb rfl rfl (gz _) rfl rfl) ?_;refine ac rfl (wC (ew vc.g) D) ?_;refine iN (aY rfl) (fun c2 A=>?_);cases c2
  .apply ae;rw[acM j A];exact aj aa
  .refine ar (aR bb rfl rfl (ju _) rfl rfl) ?_;refine ac rfl (wC (f5 vc.g) D)<|ae ?_;rw[aa4 j A];exact aj aa
theorem aeH (vc:CvV c) (j:GP p) (A:GP q):cq 139 [.a (ah p),.a (ah q),.c (.p (aC c))] [.c (.i .i64 (a7 c p q))]:=by refine bE Tryz.func139 rfl<|ar (fg ba rfl (dS (kE (ai _))) (ai _) rfl) ?_;refine ac rfl (TU vc j A) ?_;exact ae (aj aa)
theorem aic (vc:CvV c) (j:GP p):cq 147 [.a (ah p),.c (.p (aC c))] [.c (.b (!c.on p))]:=by refine bE Tryz.func147 rfl<|ar (fg ba rfl (dS (kE (ai _))) (ai _) rfl) ?_;refine ac rfl (tW vc j) ?_;exact ae (aj aa)
theorem ahF (vc:CvV c) (j:GP p):cq 63 [.a (ah p),.c (.p (aC c))] [.c (.b (!c.inner p))]:=by refine bE Tryz.func63 rfl<|ar (fg ba rfl (dS (kE (ai _))) (ai _) rfl) ?_;refine ac rfl (aeU vc j) ?_;exact ae (aj aa)
theorem aiz (vc:CvV c) (A: ∀p∈L,GP p) (D:L.length<=12) (I: ∀p∈L,c.on p=true):cq 146 [.c (.s ((L).length) (aD ah (L))),.c (.k 147 [.p (aC c)])] [.c (.b false)]:=by refine dP Tryz.func146 9 [.tmp 4] rfl<|ab<|ag<|ab<|bN<|cZ 2<|bj (iW rfl (rq (ixG (fun p j=>aic vc j) A D) (Ih (d:=dPt) fun i hi=>by simp only[I _ (dG hi)];rfl)))<|bj (dM (c:=false) (sx rfl) (by decide)) ?_;refine gm<|aU ?_;exact ae (aj aa)
theorem OG {P:Program}{eO:Array Oper}{os:List Oper}{K:St->Prop}{tm:List (Nat×DV)}{bx:List (Nat×TypeId×List CellD)}{t:Nat}{x y:Operand}{pos:String}{af:Array Edge}{g:Option (Nat×Bool)}{q m D:Nat}{us ys zs zs':List CellD} (hU:uV P U=some (e,m,D,zs)) (hx:cE (fun s=>look s tm) x=some (.f 0 us)) (V:cE (fun s=>look s tm) y=some (.v (.c (.s q ys)))) (I:ys.length=q*m) (hq:0<q) (A:q*D<=140737488355328) (J:q<=maxLen) (hd:look t bx=none) (hz:ys=zs') (hg:gd eO ⟨some t,.call ⟨.builtin .append,#[x,y],#[U,U]⟩,ty,pos,af,g⟩ (fun s=>look s tm)=some true) (hk: ∀c' j,q<=c'->c'<=maxLen->j.length=(c'-q)*m->dl P eO os ⟨N,(t,.o t q c')::tm,(t,e,zs'++j)::bx⟩ K):dl P eO (⟨some t,.call ⟨.builtin .append,#[x,y],#[U,U]⟩,ty,pos,af,g⟩::os) ⟨N,tm,bx⟩ K:=by
 subst hz
 exact .inr ⟨_,Ch hU hx V I hq A J hd hg,fun σ' ⟨c',j,h1,R,W,e⟩=>by subst e;exact hk c' j h1 R W⟩
theorem aez (hl:0<L.length) (lL:L.length<=12):OkN Tryz.prog 57 [.c (.s ((L).length) (aD ah (L)))] 42 L.length 20 (aD ah L) []:=by
 refine OkN.of (by kernel_rfl) Tryz.func57 rfl rfl ?_;rw[show Tryz.f57.ntmps=8 from rfl];refine ab<|ag<|ab<|ab<|bN<|cZ 1 ?_;refine Kp fr rfl rfl (fun W j=>?_);apply bO;refine aJ rfl (fun A=>?_) (fun A=>?_);·exact absurd A (by rw[j hl];decide)
 .refine aA<|ab<|ag<|ar (m8 iw rfl) ?_;refine DL.mk<|OG iw rfl rfl (aK ao _) hl (by omega) (rJ (by omega)) rfl rfl rfl (fun I D J R V=>iJ ?_);apply aU;exact⟨.inr rfl,2,7,I,[],D,rfl,rfl,rfl,by omega,by assumption,by assumption,aa⟩
theorem ag3:cq 57 [.c (.s 0 [])] [.c (.s 0 [])]:=by
 refine dP Tryz.func57 8 [.tmp 2] rfl<|ab<|ag<|ab<|ab<|bN<|cZ 1 ?_;refine Kp fr rfl rfl (fun D A=>?_);apply bO;refine aJ rfl (fun j=>?_) (fun j=>?_)
 .refine ab<|ag<|aU ?_;exact ae (aj aa)
 .refine aA<|ab<|ag<|ar (m8 iw rfl) ?_;refine ar (rj iw rfl rfl rfl) ?_;refine agF (t:=2) rfl<|aU ?_;exact ae (aj aa)
theorem afG (vc:CvV c) (a3:1<=L.length) (hn:L.length<=12) (hG: ∀x∈L,GP x):OkS Tryz.prog 290 42 L.length c9 (aD ah L++rs) (aD ah (aT dPt (a7 c) L)++rs) [.c (.i .i64 0),.c (.i .i64 (L.length:Int)),.c (.k 139 [.p (aC c)])]:=by
 refine OkS.of (K:=100000) (by kernel_rfl) Tryz.func290 rfl rfl rfl rfl ?_;rw[show Tryz.f290.ntmps=53 from rfl];refine ab<|ag<|ar (tO rfl rfl rfl rfl) ?_;refine aM<|bK (ι:={p:Nat // 1<=p/\p<=L.length}) (fun i=>⟨53,[(0,.o 100000 L.length c9),(1,.v (.c (.i .i64 0))),(2,.v (.c (.i .i64 (L.length:Int)))),(3,.v (.c (.k 139 [.p (aC c)]))),(8,.v (.c (.i .i64 (i.1:Int))))],[(100000,42,aD ah (VR dPt (a7 c) L i.1)++rs)]⟩) (fun i=>L.length-i.1) ⟨1,bk _,a3⟩ (au (bt rfl) ⟨congrArg (fun q=>some (42,aD ah q++rs)) ((Nx L).symm),trivial⟩ rfl) ?_;rintro⟨p,h1,h2⟩;dsimp only;refine ab<|ab<|ag ?_;refine aJ rfl (fun J=>?_) (fun J=>?_)
 .have V:p<L.length:=by have:=of_decide_eq_true J;omega
  have D:(aT dPt (a7 c) (L.take p)).length=p:=by rw[fi,fF,jh h2]
  refine aA<|ab<|aM<|ab<|ag<|aM<|bK (ι:={j:Nat // j<=p/\oL dPt (a7 c) (L.getD p dPt) (aT dPt (a7 c) (L.take p)) p=oL dPt (a7 c) (L.getD p dPt) (aT dPt (a7 c) (L.take p)) j}) (fun i=>⟨53,[(0,.o 100000 L.length c9),(1,.v (.c (.i .i64 0))),(2,.v (.c (.i .i64 (L.length:Int)))),(3,.v (.c (.k 139 [.p (aC c)]))),(8,.v (.c (.i .i64 (p:Int)))),(9,.v (.c (.i .i64 (i.1:Int))))],[(100000,42,aD ah (Am (aT dPt (a7 c) (L.take p)) (L.drop (p+1)) (L.getD p dPt) i.1)++rs)]⟩) (fun i=>i.1) ⟨p,bk _,rfl⟩ (au (bt rfl) ⟨congrArg (fun q=>some (42,aD ah q++rs)) (M8 V),trivial⟩ rfl) ?_;rintro⟨j,h3,h4⟩;dsimp only;refine ab<|ab<|ou 17 rfl rfl<|eJ 3 ?_;refine Ud (aY rfl) (fun c2 W=>?_);cases c2
  .have R:j=0:=by have:=of_decide_eq_false W;omega
   refine Eb<|eP<|bO<|ck rfl<|bH<|ag<|ar (eg (by omega) rfl) ?_;exact⟨⟨p+1,by omega,V⟩,au (bt rfl) ⟨congrArg (fun q=>some (42,aD ah q++rs)) (yf V (h4.trans (GD (.inl R)))),trivial⟩ rfl,by show L.length-(p+1)<L.length-p;omega⟩
  .have R:0<j:=by have:=of_decide_eq_true W;omega
   have A:j<=(aT dPt (a7 c) (L.take p)).length:=by rw[D];exact h3
   refine eJ 3<|bp (a8 fr rfl rfl (by omega) rfl) ?_;refine bp (aR bb rfl rfl ((iQ (e:=dPt) ao (by rw[iz A,D,jD];omega)).trans (congrArg ah (Gn A))) (ao _) rfl) ?_;refine eJ 2<|bp (ca (((j-1:Nat):Int)) ((bq (by omega) (by omega)).trans (congrArg some (by omega))) rfl)<|bp (a8 fr rfl rfl (by omega) rfl) ?_;refine bp (aR (us:=ah ((aT dPt (a7 c) (L.take p)).getD (j-1) dPt)) bb rfl rfl ((iQ ao (by rw[iz A,D,jD];omega)).trans (congrArg ah (FQ R A))) (ao _) rfl) ?_;refine bp (oX rfl rfl (aeH vc (hG _ (dG V)) (hG _ (List.mem_of_mem_take ((iu _).mem_iff.1 (dG (show j-1<(aT dPt (a7 c) (L.take p)).length by rw[D];omega)))))) rfl) ?_;refine Eb<|eP<|bO ?_;refine aJ rfl (fun I=>?_) (fun I=>?_)
   .have g3:=of_decide_eq_true I;refine aA<|ab<|aM<|qo 16 [100000,999999] d9 (by kernel_rfl) rfl rfl<|eJ 4<|bp (ca (((j-1:Nat):Int)) ((bq (by omega) (by omega)).trans (congrArg some (by omega))) rfl)<|eJ 2<|bp (ca (((j-1:Nat):Int)) ((bq (by omega) (by omega)).trans (congrArg some (by omega))) rfl)<|bp (a8 fr rfl rfl (by omega) rfl) ?_;refine AM (by kernel_rfl) (aR (us:=ah ((aT dPt (a7 c) (L.take p)).getD (j-1) dPt)) bb rfl rfl ((iQ ao (by rw[iz A,D,jD];omega)).trans (congrArg ah (FQ R A))) (ao _) rfl) ?_;refine eJ 2<|bp (a8 fr rfl rfl (by omega) rfl) ?_;refine AM (by kernel_rfl) (aR bb rfl rfl ((iQ (e:=dPt) ao (by rw[iz A,D,jD];omega)).trans (congrArg ah (Gn A))) (ao _) rfl) ?_;refine bp (a8 fr rfl rfl (by omega) rfl) ?_;refine ig (aV bb rfl rfl rfl (ao _) (by rw[dB,aK ao,iz A,D,jD];omega) (qW ao (by rw[iz A,D,jD];omega) _) rfl) rfl rfl rfl rfl ?_;refine mD<|sA<|bj (a8 fr rfl rfl (by omega) rfl) ?_;refine gS (aV bb rfl rfl rfl (ao _) (by rw[dB,aK ao,wX,iz A,D,jD];omega) (qW ao (by rw[wX,iz A,D,jD];omega) _) rfl) ?_;refine bO<|ag<|ar (ca (((j-1:Nat):Int)) ((bq (by omega) (by omega)).trans (congrArg some (by omega))) rfl) ?_;exact⟨⟨j-1,by omega,h4.trans (TH R g3)⟩,au (bt rfl) ⟨congrArg (fun q=>some (42,aD ah q++rs)) (UD R A),trivial⟩ rfl,by show j-1<j;omega⟩
   .have g3:=of_decide_eq_false I;refine bH<|ag<|ar (eg (by omega) rfl) ?_;exact⟨⟨p+1,by omega,V⟩,au (bt rfl) ⟨congrArg (fun q=>some (42,aD ah q++rs)) (yf V (h4.trans (GD (.inr g3)))),trivial⟩ rfl,by show L.length-(p+1)<L.length-p;omega⟩
 .have hp:p=L.length:=by have:=of_decide_eq_false J;omega
  apply bH;exact⟨.inl rfl,congrArg (fun q=>some (42,aD ah q++rs)) (by rw[hp,Ot])⟩
theorem agu (vc:CvV c) (j:1<=L.length) (A:L.length<=12) (D: ∀x∈L,GP x):OkS Tryz.prog 224 42 L.length c9 (aD ah L++rs) (aD ah (aT dPt (a7 c) L)++rs) [.c (.i .i64 (L.length:Int)),.c (.k 139 [.p (aC c)])]:=by
 refine OkS.of (K:=100000) (by kernel_rfl) Tryz.func224 rfl rfl rfl rfl ?_;rw[show Tryz.f224.ntmps=63 from rfl];refine ab<|ag<|ab<|ag<|ab<|aM ?_;refine bK (ι:=Nat) (fun i=>match i with|_=>⟨63,[(0,.o 100000 L.length c9),(1,.v (.c (.i .i64 (L.length:Int)))),(2,.v (.c (.k 139 [.p (aC c)]))),(6,.v (.c (.i .i64 20))),(7,.v (.c (.i .i64 0))),(8,.v (.c (.i .i64 20)))],[(100000,42,aD ah L++rs)]⟩) (fun i=>0-i) 0 (au (bt rfl) ⟨rfl,trivial⟩ rfl) ?_;intro i;match i with
 |_=>
  refine ab<|ab<|bN<|cZ 2<|bj (dM (sx rfl) (decide_eq_false (by omega))) ?_;refine bO<|ck rfl<|bH<|ab<|ag ?_;refine DL.mk<|uy (nj rfl rfl rfl rfl rfl (afG vc j A D) rfl)<|iJ ?_;apply aM;refine bK (ι:=Nat) (fun i=>match i with|_=>⟨63,[(0,.o 100000 L.length c9),(1,.v (.c (.i .i64 (L.length:Int)))),(2,.v (.c (.k 139 [.p (aC c)]))),(6,.v (.c (.i .i64 20))),(7,.v (.c (.i .i64 0))),(8,.v (.c (.i .i64 20)))],[(100000,42,aD ah (aT dPt (a7 c) L)++rs)]⟩) (fun i=>0-i) 0 (au (bt rfl) ⟨rfl,trivial⟩ rfl) ?_;intro i;match i with
  |_=>refine ab<|ab<|bN<|cZ 2<|bj (dM (sx rfl) (decide_eq_false (by omega))) ?_;refine bO<|ck rfl<|bH ?_;exact⟨.inl rfl,rfl⟩
theorem af9 (vc:CvV c) (j:1<=L.length) (A:L.length<=12) (D: ∀x∈L,GP x):OkS Tryz.prog 138 42 L.length c9 (aD ah L++rs) (aD ah (aT dPt (a7 c) L)++rs) [.c (.k 139 [.p (aC c)])]:=by refine OkS.of (K:=100000) (by kernel_rfl) Tryz.func138 rfl rfl rfl rfl ?_;rw[show Tryz.f138.ntmps=9 from rfl];refine ag<|ar (ko fr rfl rfl) ?_;refine DL.mk<|uy (nj rfl rfl rfl rfl rfl (agu vc j A D) rfl)<|iJ ?_;exact⟨.inl rfl,rfl⟩
theorem acJ:cq 290 [.c (.s 0 []),.c (.i .i64 0),.c (.i .i64 0),.c (.k 139 [.p (aC c)])] []:=by
 refine bE Tryz.func290 rfl<|ar (tO rfl rfl rfl rfl) ?_;refine DW.mk<|bK (ι:=Nat) (fun i=>match i with|_=>⟨53,[(0,.v (.c (.s 0 []))),(1,.v (.c (.i .i64 0))),(2,.v (.c (.i .i64 0))),(3,.v (.c (.k 139 [.p (aC c)]))),(8,.v (.c (.i .i64 1)))],[]⟩) (fun i=>0-i) 0 (au (bt rfl) trivial rfl) ?_;intro i;match i with
 |_=>refine th<|mL rfl ?_;exact Qd aa
theorem adf:cq 224 [.c (.s 0 []),.c (.i .i64 0),.c (.k 139 [.p (aC c)])] []:=by
 apply bE Tryz.func224 rfl;refine DW.mk<|bK (ι:=Nat) (fun i=>match i with|_=>⟨63,[(0,.v (.c (.s 0 []))),(1,.v (.c (.i .i64 0))),(2,.v (.c (.k 139 [.p (aC c)]))),(6,.v (.c (.i .i64 20))),(7,.v (.c (.i .i64 0))),(8,.v (.c (.i .i64 20)))],[]⟩) (fun i=>0-i) 0 (au (bt rfl) trivial rfl) ?_;intro i;match i with
 |_=>
  refine th<|mL rfl<|ac rfl acJ ?_;refine DW.mk<|bK (ι:=Nat) (fun i=>match i with|_=>⟨63,[(0,.v (.c (.s 0 []))),(1,.v (.c (.i .i64 0))),(2,.v (.c (.k 139 [.p (aC c)]))),(6,.v (.c (.i .i64 20))),(7,.v (.c (.i .i64 0))),(8,.v (.c (.i .i64 20)))],[]⟩) (fun i=>0-i) 0 (au (bt rfl) trivial rfl) ?_;intro i;match i with
  |_=>refine th<|mL rfl ?_;exact Qd aa
theorem abI:cq 138 [.c (.s 0 []),.c (.k 139 [.p (aC c)])] []:=by apply bE Tryz.func138 rfl;refine ac rfl adf ?_;exact Qd aa
theorem meK (I:c.good) (D:d.good) (A:GP p):cq 58 [.a (ah p),.c (.p (aC c)),.c (.p (aC d))] [.c (.b (!L6 c d p))]:=by
 refine bE Tryz.func58 rfl<|ar (fg ba rfl (dS (kE (ai _))) (ai _) rfl) ?_;refine ac rfl (K4 I A) ?_;refine iN (aY rfl) (fun c1 j=>?_);cases c1
 .refine ar (fg ba rfl (dS (kE (ai _))) (ai _) rfl) ?_;refine ac rfl (K4 D A)<|ae ?_;rw[show(!L6 c d p)= !d.rch p from by unfold L6;rw[show c.rch p=true from by simpa using j];rfl];exact aj aa
 .apply ae;rw[show(!L6 c d p)=true from by unfold L6;rw[show c.rch p=false from by simpa using j];rfl];exact aj aa
theorem ahk:cq 140 [.c (.s 0 []),.c (.f 141)] [.c (.s 0 [])]:=by apply bE Tryz.func140 rfl;apply n7 rfl;exact ae (aj aa)
theorem aig (hS: ∀p∈S,GP p) (lS:S.length<=12) (a6:S.length<=c9):OkT Tryz.prog 140 42 S.length c9 ((bh S S.length).length) (aD ah S++rs) (aD ah (bh S S.length)++(Vw (S.length-(bh S S.length).length)++rs)) [.c (.f 141)]:=by
 refine OkT.of (K:=100000) (by kernel_rfl) Tryz.func140 rfl rfl rfl ?_;rw[show Tryz.f140.ntmps=66 from rfl];refine ab<|ag<|ab<|ab<|ag<|ar (ko fr rfl rfl) ?_;refine aJ rfl (fun D=>?_) (fun D=>?_)
 .refine ab<|ag<|aU ?_;rw[KP (by have:=of_decide_eq_true D;omega),vk];exact⟨.inr rfl,rfl,4,rfl,rfl⟩
 .have h2:2<=S.length:=by have:=of_decide_eq_false D;omega
  refine aA<|ab<|ab<|ag<|aM<|bK (ι:={k:Nat // 1<=k/\k<=S.length/\ ∀i,i+1<k->cP (S.getD (i+1) dPt) (S.getD i dPt)≠0}) (fun i=>⟨66,[(0,.o 100000 S.length c9),(1,.v (.c (.f 141))),(5,.v (.c (.i .i64 (i.1:Int))))],[(100000,42,aD ah S++rs)]⟩) (fun i=>S.length-i.1) ⟨1,bk _,by omega,fun i hi=>absurd hi (by omega)⟩ (au (bt rfl) ⟨rfl,trivial⟩ rfl) ?_;rintro⟨k,a3,W,j⟩;dsimp only;refine ab<|ab<|ag<|ar (ko fr rfl rfl) ?_;refine aJ rfl (fun R=>?_) (fun R=>?_)
  .have g1:k<S.length:=by have:=of_decide_eq_true R;omega
   refine aA<|ab<|aM<|ab<|ou 11 rfl rfl<|eJ 3<|bp (a8 fr rfl rfl (by omega) rfl) ?_;refine bp (aR (us:=ah (S.getD k dPt)) bb rfl rfl ((iQ ao (by omega))) (ao _) rfl) ?_;refine eJ 2<|bp (ca (((k-1:Nat):Int)) ((bq (by omega) (by omega)).trans (congrArg some (by omega))) rfl)<|bp (a8 fr rfl rfl (by omega) rfl) ?_;refine bp (aR (us:=ah (S.getD (k-1) dPt)) bb rfl rfl ((iQ ao (by omega))) (ao _) rfl) ?_;refine bp (iW rfl (wC (ph hS k) (ph hS (k-1))))<|mD<|eP<|bO ?_;refine aJ rfl (fun J=>?_) (fun J=>?_)
   .have g2:cP (S.getD k dPt) (S.getD (k-1) dPt)=0:=by simpa using J
    obtain⟨a5,a4⟩:=CpS.start (by omega) g1 j g2;refine ab<|ag<|ar (sO fr rfl rfl (by omega) (by omega) rfl) ?_;refine ab<|ab<|ag<|aM<|bK (ι:={x9:Nat×List Pt // 1<=x9.1/\CpS S (k+x9.1) x9.2}) (fun i=>⟨66,[(0,.o 100000 S.length c9),(1,.v (.c (.f 141))),(5,.v (.c (.i .i64 (((bh S (k+i.1.1)).length:Int))))),(6,.w 100000 (k*20) (S.length-k) (c9-k)),(7,.v (.c (.i .i64 (i.1.1:Int))))],[(100000,42,aD ah i.1.2++rs)]⟩) (fun i=>S.length-(k+i.1.1)) ⟨(1,S),bk _,a5⟩ (au ⟨rfl,rfl,congrArg (fun q=>some (DV.v (.c (.i .i64 ((q:Nat):Int))))) a4.symm,rfl,rfl,trivial⟩ ⟨rfl,trivial⟩ rfl) ?_;rintro⟨⟨q,Y⟩,V,hC⟩;replace hC:CpS S (k+q) Y:=hC;have hY:=hC.len;have hlt:=hC.lt;have a9:=hC.mn;dsimp only;refine ab<|ab<|ag<|ar (PW fr rfl rfl) ?_;refine aJ rfl (fun A=>?_) (fun A=>?_)
    .have g3:k+q<S.length:=by have:=of_decide_eq_true A;omega
     refine aA<|ab<|aM<|ab<|ou 12 rfl rfl<|eJ 3<|bp (uJ (s:=(k+q)) fr rfl rfl (⟨by omega,by omega⟩) (by omega) rfl) ?_;refine bp (aR bb rfl rfl ((iQ ao (by omega)).trans (congrArg ah (hC.get (by omega)))) (ao _) rfl) ?_;refine eJ 2<|bp (ca (((q-1:Nat):Int)) ((bq (by omega) (by omega)).trans (congrArg some (by omega))) rfl)<|bp (uJ (s:=(k+q-1)) fr rfl rfl (⟨by omega,by omega⟩) (by omega) rfl) ?_;refine bp (aR bb rfl rfl ((iQ ao (by omega)).trans (congrArg ah (hC.get (by omega)))) (ao _) rfl) ?_;refine bp (iW rfl (wC (ph hS (k+q)) (ph hS (k+q-1))))<|Eb<|eP<|bO ?_;refine aJ rfl (fun I=>?_) (fun I=>?_)
     .have g4:cP (S.getD (k+q) dPt) (S.getD (k+q-1) dPt)≠0:=by simpa using I
      obtain⟨n1,n2⟩:=hC.new g3 g4;refine ab<|bN<|cZ 4<|bj (uJ (s:=(k+q)) fr rfl rfl (⟨by omega,by omega⟩) (by omega) rfl) ?_;refine bj (aR bb rfl rfl ((iQ ao (by omega)).trans (congrArg ah (hC.get (by omega)))) (ao _) rfl) ?_;refine bj (a8 fr rfl rfl (by omega) rfl) ?_;refine gS (aV bb rfl rfl rfl (ao _) (by rw[dB,aK ao];omega) (qW ao (by omega) _) rfl) ?_;refine bO<|ag<|ar (ca ((((bh S (k+q)).length+1:Nat):Int)) ((bc (by omega) (by omega)).trans (congrArg some (by omega))) rfl)<|ag<|ar (eg (by omega) rfl) ?_;exact⟨⟨(q+1,_),by show 1<=q+1;omega,n1⟩,au ⟨rfl,rfl,congrArg (fun q=>some (DV.v (.c (.i .i64 ((q:Nat):Int))))) n2.symm,rfl,rfl,trivial⟩ ⟨rfl,trivial⟩ rfl,by show S.length-(k+(q+1))<S.length-(k+q);omega⟩
     .have g4:cP (S.getD (k+q) dPt) (S.getD (k+q-1) dPt)=0:=by simpa using I
      obtain⟨n1,n2⟩:=hC.old g3 g4;refine aA<|ag<|ar (eg (by omega) rfl) ?_;exact⟨⟨(q+1,Y),by show 1<=q+1;omega,n1⟩,au ⟨rfl,rfl,congrArg (fun q=>some (DV.v (.c (.i .i64 ((List.length q:Nat):Int))))) n2.symm,rfl,rfl,trivial⟩ ⟨rfl,trivial⟩ rfl,by show S.length-(k+(q+1))<S.length-(k+q);omega⟩
    .have hm:k+q=S.length:=by have:=of_decide_eq_false A;omega
     refine bH<|ab<|ag<|ar (sO fr rfl rfl (by omega) (by omega) rfl) ?_;refine n6 (EA iw rfl rfl (by rw[dB,aK ao];omega) hC.clr rfl) ?_;refine ab<|ag<|ar (ve fr rfl rfl (by omega) rfl) ?_;apply aU;rw[show bh S S.length=bh S (k+q) from by rw[hm]];exact⟨.inr rfl,rfl,4,rfl,rfl⟩
   .have g2:cP (S.getD k dPt) (S.getD (k-1) dPt)≠0:=by simpa using J
    refine aA<|ag<|ar (eg (by omega) rfl) ?_;exact⟨⟨k+1,by omega,g1,fun i hi=>(nT (i+1) k).elim (j i) fun e=>by rw[show i+1=k from by omega,show i=k-1 from by omega];exact g2⟩,au (bt rfl) ⟨rfl,trivial⟩ rfl,by show S.length-(k+1)<S.length-k;omega⟩
  .have hk:k=S.length:=by have:=of_decide_eq_false R;omega
   have hN: ∀i,i+1<S.length->cP (S.getD (i+1) dPt) (S.getD i dPt)≠0:=fun i hi=>j i (by omega);refine bH<|ab<|ag<|aU ?_;rw[JJ hN,vk];exact⟨.inr rfl,rfl,4,rfl,rfl⟩
theorem aeg:cq 60 [.a (aC c),.c (.s 0 [])] [.c (.s 0 [])]:=by refine dP Tryz.func60 12 [.tmp 4] rfl<|ab<|ag<|ab<|ag<|ac rfl (ag3)<|ab<|jH (t:=2) rfl rfl<|ag<|ar (nH rfl rfl) ?_;refine ac rfl (abI)<|ab<|ag<|ac rfl (ahk)<|aU ?_;exact ae (aj aa)
theorem agn (vc:CvV c) (J: ∀p∈L,GP p) (I:L.length<=12) (hl:0<L.length):cq 60 [.a (aC c),.c (.s ((L).length) (aD ah (L)))] [.c (.s ((bh (aT dPt (a7 c) L) L.length).length) (aD ah (bh (aT dPt (a7 c) L) L.length)))]:=by
 have hS: ∀p∈(aT dPt (a7 c) L),GP p:=fun p h=>J p ((iu _).mem_iff.1 h);have lS:(aT dPt (a7 c) L).length<=12:=by rw[fi];exact I
 have lD:(bh (aT dPt (a7 c) L) L.length).length<=L.length:=yq;refine dP Tryz.func60 12 [.tmp 4] rfl<|ab<|ag<|ab<|bN<|cZ 1 ?_;refine xE rfl rfl (aez hl I) rfl rfl (fun A D j R V=>?_);refine gm<|ab<|jH (t:=2) rfl rfl<|ag<|ar (nH rfl rfl) ?_;refine DL.mk<|uy (nj rfl rfl rfl rfl rfl (af9 vc hl I J) rfl)<|iJ ?_;refine ab<|bN<|cZ 1<|Co rfl rfl rfl rfl rfl ((by have W:=aig (rs:=D) hS lS (by rw[fi];exact j);rw[fi] at W;exact W)) rfl ?_;refine gm<|fa (t:=4) rfl rfl (qX (aK ao _) (by rw[dB,BP];omega) (by omega)) (by omega) ‹_› (mC (aK ao _))<|aU ?_;exact ae (aj aa)
theorem af7 (vc:CvV c) (A: ∀p∈L,GP p) (j:L.length<=12):cq 60 [.a (aC c),.c (.s ((L).length) (aD ah (L)))] [.c (.s ((bh (aT dPt (a7 c) L) L.length).length) (aD ah (bh (aT dPt (a7 c) L) L.length)))]:=by
 rcases je L.length with h|h
 .obtain rfl:=jM.1 h;exact aeg
 .exact agn vc A j h
theorem afw (vc:CvV c) (hG: ∀p∈L,GP p) (lL:L.length<=12) (d3: ∀p∈L,c.on p=true):OkN Tryz.prog 65 [.a (aC c),.c (.s ((L).length) (aD ah (L)))] 53 ((rA c (wK c L)).length) 66 (aD aC (rA c (wK c L))) [.c (.i .i64 0)]:=by
 have hD: ∀p∈(bh (aT dPt (a7 c) L) L.length),GP p:=fun p h=>hG p ((iu _).mem_iff.1 (JV (by rw[fi];exact bk _) h));have lD:(bh (aT dPt (a7 c) L) L.length).length<=L.length:=yq;refine OkN.of (by kernel_rfl) Tryz.func65 rfl rfl ?_;rw[show Tryz.f65.ntmps=47 from rfl];refine ab<|bN<|cZ 1<|bj (my rfl) ?_;refine gm<|ab<|ab<|jH (t:=2) rfl rfl<|ag<|ar (nH rfl rfl) ?_;refine ac rfl (aiz vc hG lL d3)<|ck rfl<|aA<|ab<|bN<|bj (my rfl) ?_;refine bO<|ab<|ag<|ar (fg ba rfl (dS (kE (ai _))) (ai _) rfl) ?_;refine n6 (ce ba rfl rfl rfl (ai _) rfl rfl) ?_;refine ab<|ab<|ag<|ar (fg ba rfl (dS (kE (ai _))) (ai _) rfl) ?_;refine ac rfl (af7 vc hG lL) ?_;apply aM;refine bK (ι:=Sum ({n:Nat // n<=(bh (aT dPt (a7 c) L) L.length).length/\(y6 c (bh (aT dPt (a7 c) L) L.length) n)=[]}) ({x9:Nat×Nat×List CellD // x9.1<=(bh (aT dPt (a7 c) L) L.length).length/\(y6 c (bh (aT dPt (a7 c) L) L.length) x9.1).length<=x9.2.1/\x9.2.1<=maxLen/\x9.2.2.length=(x9.2.1-(y6 c (bh (aT dPt (a7 c) L) L.length) x9.1).length)*66})) (fun i=>match i with| .inl i=>⟨47,[(2,.v (.c (.p (aC c)))),(7,.p 7 0),(17,.v (.c (.s ((bh (aT dPt (a7 c) L) L.length).length) (aD ah (bh (aT dPt (a7 c) L) L.length))))),(6,.z),(18,.v (.c (.i .i64 (((bh (aT dPt (a7 c) L) L.length).length:Int))))),(19,.v (.c (.i .i64 (i.1:Int))))],[(7,53,aC ((c.ends (wj c (bh (aT dPt (a7 c) L) L.length) i.1) c.q)))]⟩| .inr i=>⟨47,[(2,.v (.c (.p (aC c)))),(7,.p 7 0),(17,.v (.c (.s ((bh (aT dPt (a7 c) L) L.length).length) (aD ah (bh (aT dPt (a7 c) L) L.length))))),(6,.o 41 ((y6 c (bh (aT dPt (a7 c) L) L.length) i.1.1).length) i.1.2.1),(18,.v (.c (.i .i64 (((bh (aT dPt (a7 c) L) L.length).length:Int))))),(19,.v (.c (.i .i64 (i.1.1:Int))))],[(7,53,aC ((c.ends (wj c (bh (aT dPt (a7 c) L) L.length) i.1.1) c.q))),(41,53,aD aC (H5 c (bh (aT dPt (a7 c) L) L.length) i.1.1)++i.1.2.2)]⟩) (fun i=>match i with| .inl i=>(bh (aT dPt (a7 c) L) L.length).length-i.1| .inr i=>(bh (aT dPt (a7 c) L) L.length).length-i.1.1) (.inl ⟨0,iB _,Z2⟩) (au (bt rfl) ⟨congrArg (fun q=>some (53,aC q)) (by rw[aeA,OC]),trivial⟩ rfl) ?_;rintro(⟨n,h2,D⟩|⟨⟨n,c9,rs⟩,h2,D,h4,h5⟩)
 .replace h2:n<=(bh (aT dPt (a7 c) L) L.length).length:=h2;dsimp only;refine ab<|ag<|ab ?_;refine aJ rfl (fun a4=>?_) (fun a4=>?_)
  .have j:n<(bh (aT dPt (a7 c) L) L.length).length:=by have:=of_decide_eq_true a4;omega
   have hx:=hD _ (dG (d:=dPt) j);refine aA<|ab<|aM<|ab<|ag<|ar (mP dPt ao j fr rfl)<|ar (zu ao bb rfl)<|ab<|ab<|ag ?_;refine ar (tB UY rfl rfl rfl) ?_;refine ar (cJ bb rfl (gz _) rfl rfl) ?_;refine ac rfl (wC hx (ew vc.g)) ?_;refine iN (aY rfl) (fun c2 a3=>?_);cases c2
   .refine ar (tB TK rfl rfl rfl) ?_;refine ar (cJ bb rfl (ju _) rfl rfl) ?_;refine ac rfl (wC hx (f5 vc.g)) ?_;refine aJ rfl (fun b4=>?_) (fun b4=>?_)
    .have A:j7 c ((bh (aT dPt (a7 c) L) L.length).getD n dPt)=false:=(FI a3).trans (by rw[b4];rfl);refine bH<|ag<|ar (eg (by omega) rfl) ?_;exact⟨.inl ⟨n+1,j,by rw[rr j A];exact D⟩,au (bt rfl) ⟨congrArg (fun q=>some (53,aC (c.ends q c.q))) (G7 j A).symm,trivial⟩ rfl,by show(bh (aT dPt (a7 c) L) L.length).length-(n+1)<(bh (aT dPt (a7 c) L) L.length).length-n;omega⟩
    .have A:j7 c ((bh (aT dPt (a7 c) L) L.length).getD n dPt)=true:=(FI a3).trans (by rw[b4];rfl);refine aA<|ab<|ag ?_;refine ar (eY (ai _) ba rfl) ?_;refine n6 (ce ba rfl rfl rfl (ai _) rfl rfl) ?_;refine ab<|fS 6 [10,7,999999] ?_;refine DQ.mk<|ig (aV bb rfl rfl rfl rfl (by rw[ai];decide) (Ew _ _) rfl) rfl rfl rfl rfl<|dY ?_;refine DQ.mk<|ig (aV bb rfl rfl rfl rfl (by rw[ai];decide) (vH _ _) rfl) rfl rfl rfl rfl<|dY ?_;refine ag ?_;refine ar (eY (ai _) ba rfl) ?_;refine ar (cb vx rfl (E6 rfl (ai _)) (jA (ai _)) (by decide) (by decide) rfl) ?_;refine DL.mk<|u3 vx rfl rfl (jA (ai _)) (by decide) (by decide) (by decide) rfl rfl (fun I a6 c6 b7 d2=>iJ ?_);refine ag<|ar (eg (by omega) rfl) ?_;exact⟨.inr ⟨⟨n+1,I,a6⟩,j,by show(y6 c (bh (aT dPt (a7 c) L) L.length) (n+1)).length<=I;rw[qi j A,D];exact c6,b7,by show a6.length=(I-(y6 c (bh (aT dPt (a7 c) L) L.length) (n+1)).length)*66;rw[qi j A,D];exact d2⟩,au ⟨rfl,rfl,rfl,congrArg (fun q=>some (DV.o 41 q I)) (by rw[qi j A,D];rfl),rfl,rfl,trivial⟩ ⟨congrArg (fun q=>some (53,aC q)) (by rw[EB,MS j A]),congrArg (fun q=>some (53,q++a6)) (by rw[MH j A,iZ,nU,Fu,show(H5 c (bh (aT dPt (a7 c) L) L.length) n)=[] from by unfold H5;rw[D];rfl];rfl),trivial⟩ rfl,by show(bh (aT dPt (a7 c) L) L.length).length-(n+1)<(bh (aT dPt (a7 c) L) L.length).length-n;omega⟩
   .have A:=T4 a3;refine fp rfl<|bH<|ag<|ar (eg (by omega) rfl) ?_;exact⟨.inl ⟨n+1,j,by rw[rr j A];exact D⟩,au (bt rfl) ⟨congrArg (fun q=>some (53,aC (c.ends q c.q))) (G7 j A).symm,trivial⟩ rfl,by show(bh (aT dPt (a7 c) L) L.length).length-(n+1)<(bh (aT dPt (a7 c) L) L.length).length-n;omega⟩
  .have hp:n=(bh (aT dPt (a7 c) L) L.length).length:=by have:=of_decide_eq_false a4;omega
   have hO:(H5 c (bh (aT dPt (a7 c) L) L.length) n)=[]:=by unfold H5;rw[D];rfl
   have eC:(rA c (wK c L))=[c.ends (wj c (bh (aT dPt (a7 c) L) L.length) n) c.q]:=by show rA c ((bh (aT dPt (a7 c) L) L.length).filter (j7 c))=_;rw[GS,<-hp,hO];rfl
   have eN:(rA c (wK c L)).length=1:=by rw[eC];rfl
   refine bH<|ab<|ag ?_;refine ar (eY (ai _) ba rfl) ?_;refine ar (cb vx rfl (E6 rfl (ai _)) (jA (ai _)) (by decide) (by decide) rfl) ?_;refine DL.mk<|u3 vx rfl rfl (jA (ai _)) (by decide) (by decide) (by decide) rfl rfl (fun c3 b6 e3 d7 e2=>iJ ?_);apply aU;exact⟨.inr rfl,4,46,c3,[.tmp 5],b6,rfl,congrArg (fun q=>some (DV.o 46 q c3)) eN.symm,congrArg (fun q=>some (53,q++b6)) (by rw[eC,nU]),by omega,by assumption,by rw[eN];assumption,(aj aa)⟩
 .dsimp only at h2 D h4 h5;have h6:(y6 c (bh (aT dPt (a7 c) L) L.length) n).length<=12:=gG (uo _ _) (by rw[fF];omega);dsimp only;refine ab<|ag<|ab ?_;refine aJ rfl (fun a9=>?_) (fun a9=>?_)
  .have j:n<(bh (aT dPt (a7 c) L) L.length).length:=by have:=of_decide_eq_true a9;omega
   have hx:=hD _ (dG (d:=dPt) j);refine aA<|ab<|aM<|ab<|ag<|ar (mP dPt ao j fr rfl)<|ar (zu ao bb rfl)<|ab<|ab<|ag ?_;refine ar (tB UY rfl rfl rfl) ?_;refine ar (cJ bb rfl (gz _) rfl rfl) ?_;refine ac rfl (wC hx (ew vc.g)) ?_;refine iN (aY rfl) (fun c7 a5=>?_);cases c7
   .refine ar (tB TK rfl rfl rfl) ?_;refine ar (cJ bb rfl (ju _) rfl rfl) ?_;refine ac rfl (wC hx (f5 vc.g)) ?_;refine aJ rfl (fun b3=>?_) (fun b3=>?_)
    .have A:j7 c ((bh (aT dPt (a7 c) L) L.length).getD n dPt)=false:=(FI a5).trans (by rw[b3];rfl);refine bH<|ag<|ar (eg (by omega) rfl) ?_;exact⟨.inr ⟨⟨n+1,c9,rs⟩,j,by show(y6 c (bh (aT dPt (a7 c) L) L.length) (n+1)).length<=c9;rw[rr j A];exact D,h4,by show rs.length=(c9-(y6 c (bh (aT dPt (a7 c) L) L.length) (n+1)).length)*66;rw[rr j A];exact h5⟩,au ⟨rfl,rfl,rfl,congrArg (fun q=>some (DV.o 41 (List.length q) c9)) (rr j A).symm,rfl,rfl,trivial⟩ ⟨congrArg (fun q=>some (53,aC (c.ends q c.q))) (G7 j A).symm,congrArg (fun q=>some (53,aD aC q++rs)) (TA j A).symm,trivial⟩ rfl,by show(bh (aT dPt (a7 c) L) L.length).length-(n+1)<(bh (aT dPt (a7 c) L) L.length).length-n;omega⟩
    .have A:j7 c ((bh (aT dPt (a7 c) L) L.length).getD n dPt)=true:=(FI a5).trans (by rw[b3];rfl);refine aA<|ab<|ag ?_;refine ar (eY (ai _) ba rfl) ?_;refine n6 (ce ba rfl rfl rfl (ai _) rfl rfl) ?_;refine ab<|fS 6 [10,7,999999] ?_;refine DQ.mk<|ig (aV bb rfl rfl rfl rfl (by rw[ai];decide) (Ew _ _) rfl) rfl rfl rfl rfl<|dY ?_;refine DQ.mk<|ig (aV bb rfl rfl rfl rfl (by rw[ai];decide) (vH _ _) rfl) rfl rfl rfl rfl<|dY ?_;refine ag ?_;refine ar (eY (ai _) ba rfl) ?_;refine ar (cb vx rfl (E6 rfl (ai _)) (jA (ai _)) (by decide) (by decide) rfl) ?_;refine DL.mk<|yU vx rfl rfl rfl ((aK ai _).trans (by rw[F2])) ‹_› (jA (ai _)) (by decide) (by omega) ‹_› (by omega) (rJ (by omega)) (.inl rfl) rfl (fun J W c8 b5 c5=>iJ ?_);refine ag<|ar (eg (by omega) rfl) ?_;exact⟨.inr ⟨⟨n+1,J,W⟩,j,by show(y6 c (bh (aT dPt (a7 c) L) L.length) (n+1)).length<=J;rw[qi j A,dB];exact c8,b5,by show W.length=(J-(y6 c (bh (aT dPt (a7 c) L) L.length) (n+1)).length)*66;rw[qi j A,dB];exact c5⟩,au ⟨rfl,rfl,rfl,congrArg (fun q=>some (DV.o 41 q J)) (by rw[qi j A,dB];rfl),rfl,rfl,trivial⟩ ⟨congrArg (fun q=>some (53,aC q)) (by rw[EB,MS j A]),congrArg (fun q=>some (53,q++W)) (by rw[MH j A,iZ,nU,Fu]),trivial⟩ rfl,by show(bh (aT dPt (a7 c) L) L.length).length-(n+1)<(bh (aT dPt (a7 c) L) L.length).length-n;omega⟩
   .have A:=T4 a5;refine fp rfl<|bH<|ag<|ar (eg (by omega) rfl) ?_;exact⟨.inr ⟨⟨n+1,c9,rs⟩,j,by show(y6 c (bh (aT dPt (a7 c) L) L.length) (n+1)).length<=c9;rw[rr j A];exact D,h4,by show rs.length=(c9-(y6 c (bh (aT dPt (a7 c) L) L.length) (n+1)).length)*66;rw[rr j A];exact h5⟩,au ⟨rfl,rfl,rfl,congrArg (fun q=>some (DV.o 41 (List.length q) c9)) (rr j A).symm,rfl,rfl,trivial⟩ ⟨congrArg (fun q=>some (53,aC (c.ends q c.q))) (G7 j A).symm,congrArg (fun q=>some (53,aD aC q++rs)) (TA j A).symm,trivial⟩ rfl,by show(bh (aT dPt (a7 c) L) L.length).length-(n+1)<(bh (aT dPt (a7 c) L) L.length).length-n;omega⟩
  .have hp:n=(bh (aT dPt (a7 c) L) L.length).length:=by have:=of_decide_eq_false a9;omega
   have eN:(rA c (wK c L)).length=(y6 c (bh (aT dPt (a7 c) L) L.length) n).length+1:=by show(rA c ((bh (aT dPt (a7 c) L) L.length).filter (j7 c))).length=_;rw[GS,<-hp,dB,F2];rfl
   have eC:aD aC (H5 c (bh (aT dPt (a7 c) L) L.length) n)++aC (c.ends (wj c (bh (aT dPt (a7 c) L) L.length) n) c.q)=aD aC (rA c (wK c L)):=by show _=aD aC (rA c ((bh (aT dPt (a7 c) L) L.length).filter (j7 c)));rw[GS,<-hp,iZ,nU]
   refine bH<|ab<|ag ?_;refine ar (eY (ai _) ba rfl) ?_;refine ar (cb vx rfl (E6 rfl (ai _)) (jA (ai _)) (by decide) (by decide) rfl) ?_;refine DL.mk<|yU vx rfl rfl rfl ((aK ai _).trans (by rw[F2])) ‹_› (jA (ai _)) (by decide) (by omega) ‹_› (by omega) (rJ (by omega)) (.inr rfl) rfl (fun V R d4 d5 d6=>iJ ?_);apply aU;exact⟨.inr rfl,4,46,V,[.tmp 5],R,rfl,congrArg (fun q=>some (DV.o 46 q V)) eN.symm,congrArg (fun q=>some (53,q++R)) eC,by omega,by assumption,by rw[eN];assumption,(aj aa)⟩
theorem ahc (h:x∈bh (aT dPt (a7 c) L) L.length):x∈L:=(iu _).mem_iff.1 (JV (by rw[fi];exact bk _) h)
theorem Xa (h:x∈wK c L):x∈L:=ahc (u6.1 h).1
theorem Yt:(wK c L).length<=L.length:=gG (uo _ _) yq
theorem abS (D:c.good) (J: ∀p∈S,GP p): ∀x∈rA c S,x.good/\x.isArc=c.isArc:=fun x I=>by
 obtain⟨A,a,b,B,e,rfl⟩:=lK I;have h1: ∀y∈c.p::(S++[c.q]),GP y:=fun y j=>by
  rcases dt.1 j with rfl|j;·exact ew D
  .rcases lh.1 j with j|j;·exact J y j
   .rw[gZ.1 j];exact f5 D
 rw[e] at h1;exact⟨zF D (h1 a (by simp)) (h1 b (by simp)),by cases c<;>rfl⟩
def q8 (c d:Cv):List Pt:=if zm c d then[c.p,c.q,d.p,d.q] else xS c d
def Oj (c d:Cv):List Pt:=bh (aT dPt (a7 c) ((q8 c d).filter (L6 c d))) ((q8 c d).filter (L6 c d)).length
def ac5 (c d:Cv) (L:List Pt):Bool:=decide (Ku (s6 d) (rA c (wK c L))>=0)
section
variable {c d:Cv}
theorem YB (h:zm c d=true):c.isArc=d.isArc:=by cases c<;>cases d<;>first|rfl|cases h
theorem GC (D:c.good) (A:d.good): ∀p∈q8 c d,GP p:=fun p j=>by
 unfold q8 at j;split at j
 .simp only[dt,rD,or_false] at j;rcases j with rfl|rfl|rfl|rfl;·exact ew D
  .exact f5 D
  .exact ew A
  .exact f5 A
 .exact Xy D A p j
theorem H9:(q8 c d).length<=4:=by
 unfold q8;split;·exact bk 4
 .exact SJ c d
theorem L2 (h:x∈Oj c d):x∈q8 c d/\L6 c d x=true:=u6.1 (ahc h)
theorem Mv:((q8 c d).filter (L6 c d)).length<=(q8 c d).length:=uo _ _
theorem HI:(Oj c d).length<=4:=gG yq (gG Mv H9)
theorem acC (vc:CvV c) (j:CvV d) (h:zm c d=true): ∀p∈Oj c d,c.on p=true:=fun p D=>by
 obtain⟨h1,A⟩:=L2 D;have hs:c.supp p=true:=by
  unfold q8 at h1;rw[if_pos h] at h1;simp only[dt,rD,or_false] at h1;rcases h1 with rfl|rfl|rfl|rfl;·exact vc.sp
  .exact vc.sq
  .exact I1 vc.g j.g h (ew j.g) j.sp
  .exact I1 vc.g j.g h (f5 j.g) j.sq
 rw[<-Tc vc (GC vc.g j.g p h1) hs];unfold L6 at A;exact(di _ _▸A).1
end
theorem adK {l:Ln}(_hl:GL l) {f t:Pt}(_J:GP f) (_R:GP t) (I:CvV (Cv.seg l f t)) {x:Cv}(D:x.good):cq 144 [.a (([.b false]++dh l++g9++[.b false]++ah f++ah t)),.a (aC x)] [.c (.b (s6 (Cv.seg l f t) x))]:=by
 apply bE Tryz.func144 rfl;refine ar (lW ba rfl) ?_;refine ar (aR bb rfl rfl (gz _) rfl rfl) ?_;refine ac rfl (tW I (ew D)) ?_;refine iN (aY rfl) (fun c1 A=>?_);cases c1
 .refine ar (lW ba rfl) ?_;refine ar (aR bb rfl rfl (ju _) rfl rfl) ?_;refine ac rfl (tW I (f5 D)) ?_;refine dg rfl (fun j=>?_) (fun j=>?_)
  .apply ae;rw[show s6 (Cv.seg l f t) x=false from by show((Cv.seg l f t).on x.p&&(Cv.seg l f t).on x.q)=false;rw[show(Cv.seg l f t).on x.q=false from by simpa using j,sE]];exact aj aa
  .refine ar (bg gC rfl)<|n7 rfl<|ae ?_;rw[show s6 (Cv.seg l f t) x=true from by show((Cv.seg l f t).on x.p&&(Cv.seg l f t).on x.q)=true;rw[show(Cv.seg l f t).on x.p=true from by simpa using A,show(Cv.seg l f t).on x.q=true from by simpa using j];rfl];exact aj aa
 .refine n7 rfl<|ae ?_;rw[show s6 (Cv.seg l f t) x=false from by show((Cv.seg l f t).on x.p&&(Cv.seg l f t).on x.q)=false;rw[show(Cv.seg l f t).on x.p=false from by simpa using A];rfl];exact aj aa
theorem abD {k:Ci}(hk:GK k) {w:Bool}{f t:Pt}(W:GP f) (ht:GP t) (vd:CvV (Cv.arc k w f t)) {I:Ci}(V:GK I) {v:Bool}(R:GP a) (J:GP b):cq 144 [.a (([.b true]++lp++bG k++[.b w]++ah f++ah t)),.a (([.b true]++lp++bG I++[.b v]++ah a++ah b))] [.c (.b (s6 (Cv.arc k w f t) (Cv.arc I v a b)))]:=by
 apply bE Tryz.func144 rfl;refine ar (lW ba rfl) ?_;refine ar (df (ah a) bb rfl (by kernel_rfl)) ?_;refine ac rfl (tW vd R) ?_;refine iN (aY rfl) (fun c1 j=>?_);cases c1
 .refine ar (lW ba rfl) ?_;refine ar (df (ah b) bb rfl (by kernel_rfl)) ?_;refine ac rfl (tW vd J) ?_;refine dg rfl (fun A=>?_) (fun A=>?_)
  .apply ae;rw[show s6 (Cv.arc k w f t) (Cv.arc I v a b)=false from by show((Cv.arc k w f t).on a&&(Cv.arc k w f t).on b&& !(cP (sG v a b) (sG w t f)==0)&&decide (vo k (sG v a b) (sG v b a) (sG w t f)<=0))=false;rw[show(Cv.arc k w f t).on a=true from by simpa using j,show(Cv.arc k w f t).on b=false from by simpa using A];rfl];exact aj aa
  .refine ar (bg gC rfl)<|mL rfl<|cm 4 [] ?_;refine aq (lW ba rfl) ?_;refine aw rfl (K6 hk W ht) ?_;refine aq (lW ba rfl) ?_;refine aw rfl (K6 V R J) ?_;refine n6 (ff ba rfl) ?_;refine n6 (ff ba rfl) ?_;refine ar (df (ah (sG v a b)) bb rfl (by kernel_rfl)) ?_;refine ar (df (ah (sG w t f)) bb rfl (by kernel_rfl)) ?_;refine ac rfl (wC (CY R J) (CY ht W)) ?_;refine dg rfl (fun D=>?_) (fun D=>?_)
   .apply ae;rw[show s6 (Cv.arc k w f t) (Cv.arc I v a b)=false from by show((Cv.arc k w f t).on a&&(Cv.arc k w f t).on b&& !(cP (sG v a b) (sG w t f)==0)&&decide (vo k (sG v a b) (sG v b a) (sG w t f)<=0))=false;rw[show(Cv.arc k w f t).on a=true from by simpa using j,show(Cv.arc k w f t).on b=true from by simpa using A,D];rfl];exact aj aa
   .refine ar (df (bG k) n9 rfl (by kernel_rfl)) ?_;refine ar (df (ah (sG v a b)) bb rfl (by kernel_rfl)) ?_;refine ar (df (ah (sG v b a)) bb rfl (by kernel_rfl)) ?_;refine ar (df (ah (sG w t f)) bb rfl (by kernel_rfl)) ?_;refine ac rfl (FW hk (CY R J) (CY J R) (CY ht W))<|ae ?_;rw[show s6 (Cv.arc k w f t) (Cv.arc I v a b)=decide (vo k (sG v a b) (sG v b a) (sG w t f)<=0) from by show((Cv.arc k w f t).on a&&(Cv.arc k w f t).on b&& !(cP (sG v a b) (sG w t f)==0)&&decide (vo k (sG v a b) (sG v b a) (sG w t f)<=0))=_;rw[show(Cv.arc k w f t).on a=true from by simpa using j,show(Cv.arc k w f t).on b=true from by simpa using A,D];rfl];exact aj aa
 .refine n7 rfl<|ae ?_;rw[show s6 (Cv.arc k w f t) (Cv.arc I v a b)=false from by show((Cv.arc k w f t).on a&&(Cv.arc k w f t).on b&& !(cP (sG v a b) (sG w t f)==0)&&decide (vo k (sG v a b) (sG v b a) (sG w t f)<=0))=false;rw[show(Cv.arc k w f t).on a=false from by simpa using j];rfl];exact aj aa
theorem ab3 {x:Cv}(j:CvV d) (A:x.good) (D:x.isArc=d.isArc):cq 144 [.a (aC d),.a (aC x)] [.c (.b (s6 d x))]:=by
 cases d with
 |seg l f t=>exact adK j.g.1 j.g.2.1 j.g.2.2 j A
 |arc k w f t=>
  cases x with
  |seg l u v=>cases D
  |arc I v a b=>exact abD j.g.1 j.g.2.1 j.g.2.2 j A.1 A.2.1 A.2.2
theorem ovK (A:CvV d) {x:Cv}(j:x.good/\x.isArc=d.isArc):cq 143 [.a (aC x),.c (.p (aC d))] [.c (.b (s6 d x))]:=by refine bE Tryz.func143 rfl<|ar (fg ba rfl (dS (kE (ai _))) (ai _) rfl) ?_;refine ar (eY (ai _) ba rfl)<|ac rfl (ab3 A j.1 j.2) ?_;exact ae (aj aa)
theorem ixC (V:CvV d) (W: ∀x∈X,x.good/\x.isArc=d.isArc) (lX:X.length<=100):cq 225 [.c (.s ((X).length) (aD aC (X))),.c (.k 143 [.p (aC d)])] [.c (.i .i64 (Ku (s6 d) X))]:=by
 apply bE Tryz.func225 rfl;refine DW.mk<|bK (ι:={n:Nat // n<=X.length/\ ∀i,i<n->s6 d (X.getD i db)=false}) (fun i=>⟨19,[(0,.v (.c (.s ((X).length) (aD aC X)))),(1,.v (.c (.k 143 [.p (aC d)]))),(7,.v (.c (.i .i64 (X.length:Int)))),(8,.v (.c (.i .i64 (i.1:Int))))],[]⟩) (fun i=>X.length-i.1) ⟨0,iB _,fun i hi=>absurd hi (by omega)⟩ (au (bt rfl) trivial rfl) ?_;rintro⟨n,J,D⟩;dsimp only;apply th;refine dg rfl (fun j=>?_) (fun j=>?_)
 .have I:n<X.length:=by have:=of_decide_eq_true j;omega
  refine ar (mP db ai I pW rfl)<|ar (zu ai ba rfl)<|ar (oX rfl rfl (ovK V (W _ (dG I))) rfl) ?_;refine dg rfl (fun A=>?_) (fun A=>?_)
  .apply ae;rw[Me I D A];exact aj aa
  .have R:=A;refine ar (eg (by omega) rfl) ?_;exact⟨⟨n+1,I,fun i hi=>(Nat.lt_succ_iff_lt_or_eq.1 hi).elim (D i) fun e=>by rw[e];exact R⟩,au (bt rfl) trivial rfl,by show X.length-(n+1)<X.length-n;omega⟩
 .have hp:n=X.length:=by have:=of_decide_eq_false j;omega
  apply ae;rw[Ih fun i hi=>D i (by omega)];exact aj aa
theorem ctC (j:CvV d) (A: ∀x∈X,x.good/\x.isArc=d.isArc) (D:X.length<=100):cq 142 [.c (.s ((X).length) (aD aC (X))),.c (.k 143 [.p (aC d)])] [.c (.b (decide (Ku (s6 d) X>=0)))]:=by refine bE Tryz.func142 rfl<|ac rfl (ixC j A D) ?_;exact ae (aj aa)
theorem ahX (vc:CvV c) (vd:CvV d) (ha:c.isArc=d.isArc) (A: ∀p∈L,GP p) (lL:L.length<=12) (j: ∀p∈L,c.on p=true):cq 61 [.a (aC c),.a (aC d),.c (.s ((L).length) (aD ah (L)))] [.c (.b (ac5 c d L))]:=by
 have hX: ∀x∈(rA c (wK c L)),x.good/\x.isArc=d.isArc:=fun x R=>by rw[<-ha];exact abS vc.g (fun p V=>A p (Xa V)) x R
 have lX:(rA c (wK c L)).length<=100:=by rw[CD];have:=Yt (c:=c) (L:=L);omega
 refine dP Tryz.func61 18 [.tmp 6] rfl<|ab<|ag<|ab<|bN<|bj (eY (ai _) ba rfl)<|cZ 1 ?_;refine xE rfl rfl (afw vc A lL j) rfl rfl (fun W a3 J D I=>?_);refine cZ 1<|bj (Iw rfl rfl) ?_;refine bj (IL rfl rfl rfl) ?_;refine gm<|ab<|fa (t:=7) rfl rfl (qX (aK ai _) ‹_› (by omega)) (by omega) ‹_› (mC (aK ai _))<|jH (t:=4) rfl rfl<|ag<|ar (nH rfl rfl) ?_;refine ac rfl ((show Ok _ _ _ [.c (.b (ac5 c d L))] from ctC vd hX lX))<|aU ?_;exact ae (aj aa)
theorem ahB (D:c.good) (A:d.good):cq 56 [.c (.s 0 []),.c (.k 58 [.p (aC c),.p (aC d)])] [.c (.s 0 [])]:=by refine bE Tryz.func56 rfl<|ac rfl ((show Ok _ _ _ [.c (.i .i64 (-1))] from ixG (L:=[]) (fun p j=>meK D A j) (fun p h=>by cases h) (iB _)))<|n7 rfl ?_;exact ae (aj aa)
theorem meT (vc:CvV c) (j:CvV d):cq 17 [.a (aC c),.a (aC d)] [.c (.s ((Oj c d).length) (aD ah (Oj c d))),.c (.b ((zm c d&&ac5 c d (Oj c d))))]:=by
 have gL:=GC vc.g j.g;have l4:=H9 (c:=c) (d:=d);have lf:=Mv (c:=c) (d:=d);have gF: ∀p∈((q8 c d).filter (L6 c d)),GP p:=fun p h=>gL p (u6.1 h).1;have gD: ∀p∈(Oj c d),GP p:=fun p h=>gL p (L2 h).1;have ld:=HI (c:=c) (d:=d);refine dP Tryz.func17 42 [.tmp 4,.tmp 5] rfl<|ab<|ag<|ab<|ag ?_;refine mB (ι:=Unit) (fun i=>⟨42,[(2,.p 2 0),(3,.p 3 0),(6,.v (.c (.s ((q8 c d).length) (aD ah (q8 c d)))))],[(2,53,aC c),(3,53,aC d)]⟩) ?_ ?_
 .refine ab<|ag ?_;refine ar (eY (ai _) ba rfl) ?_;refine ar (eY (ai _) ba rfl) ?_;refine ac rfl (Ly vc.g j.g) ?_;refine aJ rfl (fun D=>?_) (fun D=>?_)
  .have e1:=D;refine ag ?_;refine ar (aR bb rfl rfl (gz _) rfl rfl) ?_;refine ar (aR bb rfl rfl (ju _) rfl rfl) ?_;refine ar (aR bb rfl rfl (gz _) rfl rfl) ?_;refine ar (aR bb rfl rfl (ju _) rfl rfl) ?_;refine ar (cb (us:=aD ah [c.p,c.q,d.p,d.q]) iw rfl (by kernel_rfl) (by kernel_rfl) (by decide) (by decide) rfl) ?_;exact⟨(),au ⟨rfl,rfl,congrArg (fun q:List Pt=>some (DV.v (.c (.s q.length (aD ah q))))) ((if_pos e1:(q8 c d)=[c.p,c.q,d.p,d.q])).symm,trivial⟩ (bt rfl) rfl⟩
  .have e1:=D;refine ag ?_;refine ar (eY (ai _) ba rfl) ?_;refine ar (eY (ai _) ba rfl) ?_;refine ac rfl (abe vc.g j.g) ?_;exact⟨(),au ⟨rfl,rfl,congrArg (fun q:List Pt=>some (DV.v (.c (.s q.length (aD ah q))))) ((if_neg (by rw[e1];decide):(q8 c d)=xS c d)).symm,trivial⟩ (bt rfl) rfl⟩
 .rintro⟨⟩;try dsimp only
  apply ab;rcases je (q8 c d).length with V|V
  .refine jH (t:=2) rfl rfl<|jH (t:=3) rfl rfl<|ag<|ac rfl ((show Ok _ _ [.c (.s (q8 c d).length (aD ah (q8 c d)))] [.c (.s 0 [])] from by rw[(jM.1 V)];exact ag3))<|ar (nH rfl rfl) ?_;refine ac rfl (ahB vc.g j.g)<|ab<|ag<|ar (fg ba rfl (dS (kE (ai _))) (ai _) rfl) ?_;refine ac rfl (aeg)<|ab<|ag<|ar (fg ba rfl (dS (kE (ai _))) (ai _) rfl) ?_;refine ar (fg ba rfl (dS (kE (ai _))) (ai _) rfl) ?_;refine ac rfl (Ly vc.g j.g) ?_;refine iN (aY rfl) (fun c2 R=>?_);cases c2
   .apply aU;rw[R,oG,show(Oj c d)=[] from by unfold Oj;rw[(jM.1 V)];rfl];exact ae (aj (aj aa))
   .exact absurd V (by rw[show(q8 c d)=[c.p,c.q,d.p,d.q] from if_pos R];simp)
  .refine jH (t:=2) rfl rfl<|jH (t:=3) rfl rfl<|bN<|cZ 1 ?_;refine xE rfl rfl (aez V (by omega)) rfl rfl (fun a5 a4 I J a3=>?_);refine bj (nH rfl rfl) ?_;refine Co rfl rfl rfl rfl rfl (dlG (fun p hp=>meK vc.g j.g hp) gL (by omega) I J) rfl<|gm<|ab<|fa (t:=6) rfl rfl (qX (aK ao _) (by rw[dB,BP];omega) (by omega)) (by omega) ‹_› (mC (aK ao _))<|ag<|ar (fg ba rfl (dS (kE (ai _))) (ai _) rfl) ?_;refine ac rfl ((show Ok _ _ _ [.c (.s (Oj c d).length (aD ah (Oj c d)))] from af7 vc gF (by omega)))<|ab<|ag<|ar (fg ba rfl (dS (kE (ai _))) (ai _) rfl) ?_;refine ar (fg ba rfl (dS (kE (ai _))) (ai _) rfl) ?_;refine ac rfl (Ly vc.g j.g) ?_;refine iN (aY rfl) (fun c4 A=>?_);cases c4
   .apply aU;rw[A,oG];exact ae (aj (aj aa))
   .have W:=A;refine ar (fg ba rfl (dS (kE (ai _))) (ai _) rfl) ?_;refine ar (fg ba rfl (dS (kE (ai _))) (ai _) rfl) ?_;refine ac rfl (ahX vc j (YB W) gD (by omega) (acC vc j W))<|aU ?_;rw[A,ii];exact ae (aj (aj aa))
theorem abT (vc:CvV c) (j:GP p) (A:GP q) (op:c.on p=true) (D:c.on q=true):cq 20 [.a (aC c),.a (ah p),.a (ah q)] [.c (.i .i64 (a7 c p q)),.c (.i .i64 0)]:=by apply bE Tryz.func20 rfl;refine ar (eY (ai _) ba rfl) ?_;refine ac rfl (zn (tW vc j) op) ?_;refine ar (aY rfl) ?_;refine ar (eY (ai _) ba rfl) ?_;refine ac rfl (zn (tW vc A) D) ?_;apply mL rfl;refine ar (eY (ai _) ba rfl) ?_;refine ac rfl (TU vc j A) ?_;exact ae (aj (aj aa))
theorem WS (vc:CvV c) (hm:c.mono=true) (I:GP p) (h:c.on p=true):c.over p=true:=by
 obtain⟨R,j,A⟩:=tw.1 h;cases c with
 |seg l f t=>
  have hm:(!decide (cP f t>=0))=true:=hm;have h0:cP f t<0:=by grind
  rw[H3 h0] at j A;exact Bool.and_eq_true_iff.2 ⟨decide_eq_true (ZM j),decide_eq_true (ZM A)⟩
 |arc k w f t=>obtain⟨_,D,J⟩:=(NC vc hm ⟨I,bW.1 R⟩).1 h;exact Bool.and_eq_true_iff.2 ⟨decide_eq_true D,decide_eq_true J⟩
theorem acw (vc:CvV c) (hm:c.mono=true) (A:GP p):(mR c p==0&&nJ c p==0)=c.on p:=by
 cases j:c.over p with
 |true=>rw[aba vc hm A j];unfold mR;grind
 |false=>
  unfold mR;rw[if_neg (by rw[j];decide)];cases g:c.on p with
  |false=>rfl
  |true=>exact absurd (WS vc hm A g) (by rw[j];decide)
theorem Ye: ∀(A up I D:Bool) (i j l:Fin 3) (a:Fin 3),BI (i3 l) (i3 i) (i3 a)=true-> ∀b:Fin 3,BI (i3 j) (i3 i) (i3 b)=true-> ∀c:Fin 3,BI (i3 l) (i3 j) (i3 c)=true-> BI (i3 a) (i3 b) (i3 c)=true->(decide (vf A up I (i3 i) (i3 j) (-(i3 b))<0)&&decide (vf A up D (i3 i) (i3 l) (-(i3 a))<=0)&&decide (vf A D I (i3 l) (i3 j) (i3 c)<=0)&& !decide (vf up D I (i3 a) (i3 b) (i3 c)<=0))=false:=by decide+kernel
theorem VY {k:Ci}{f:Pt}(J:0<=f.c) (D:0<=p.c) (I:0<=q.c) (A:0<=x.c) (h1:tG k f p q<0) (h2:tG k f p x<=0) (h3:tG k f x q<=0):tG k p x q<=0:=by have t1:=gO J A D;have t2:=gO J I D;have t3:=gO J A I;have R:=gO D A I;rw[gn,gw I D] at h1;rw[gn,gw A D] at h2;rw[gn] at h3;rw[gn];obtain⟨i,hi⟩:=eo (dO p f);obtain⟨j,W⟩:=eo (dO q f);obtain⟨l,hl⟩:=eo (dO x f);obtain⟨a,ha⟩:=eo (dO x p);obtain⟨b,V⟩:=eo (dO q p);obtain⟨c,hc⟩:=eo (dO x q);rw[hl,hi,ha] at t1;rw[W,hi,V] at t2;rw[hl,W,hc] at t3;rw[ha,V,hc] at R;have:=Ye (kv k f) (kv k p) (kv k q) (kv k x) i j l a t1 b t2 c t3 R;grind
section
variable {k:Ci}{w:Bool}{f t:Pt}(vc:CvV (.arc k w f t))
include vc
theorem MG (A:OnK k a) (D:OnK k b) (j:OnK k x) (J:(Cv.arc k w f t).ord a b<0):(Cv.arc k w a b).on x=true↔(Cv.arc k w f t).ord a x<=0/\(Cv.arc k w f t).ord x b<=0:=by
 have h0:=vc.pos;have of:=(yw vc).1;have z0: ∀ {y z:Pt},OnK k y->OnK k z->cP y z=0->(Cv.arc k w f t).ord y z=0:=fun oy oz h=>DD (bJ oy) (bJ oz) h vc.g;have I:=J;rw[mw] at I;constructor
 .intro h;obtain⟨j1,j2,j3⟩:=tw.1 h;have b1:=j2;have b2:=j3;rw[mw] at b1 b2;by_cases V:cP x a=0
  .have z:=z0 j A V;have z2:=gU (w:=w) (t:=t) of A j;exact⟨by omega,Nh (sL of j A D) (by omega) (by omega)⟩
  .by_cases W:cP x b=0
   .have z:=z0 j D W;have z2:=gU (w:=w) (t:=t) of j D;exact⟨Nh (sL of A D j) (by omega) (by omega),by omega⟩
   .obtain⟨r1,r2⟩:=NM (ac7 w h0) (of.by w) (A.by w) (D.by w) (j.by w) I b1 b2 (fun e=>V ((J8 w (bJ j) (bJ A)).1 e)) (fun e=>W ((J8 w (bJ j) (bJ D)).1 e));rw[<-mw (t:=t)] at r1 r2;grind
 .rintro⟨h1,R⟩;refine tw.2 ⟨bW.2 j.2,qK A j,?_⟩;rw[mw] at h1 R⊢;exact VY (bJ (of.by w)) (bJ (A.by w)) (bJ (D.by w)) (bJ (j.by w)) I h1 R
end
theorem tP {c:Cv}{a b:Pt}{B:List Pt}: ∀A:List Pt,c.ends a b∈ia c (A++a::b::B)
 |[]=>fC ..
 |[_x]=>fv _ (tP [])
 |_x::y::A=>fv _ (tP (y::A))
theorem FA {c:Cv}{p:Pt}: ∀(T:List Pt) (a e:Pt),(∀y∈T,c.ord y p= -c.ord p y)->c.ord a p<=0->c.ord p e<=0-> ∃A x y B,a::(T++[e])=A++x::y::B/\c.ord x p<=0/\c.ord p y<=0
 |[],a,e,_,h1,h2=>⟨[],a,e,[],rfl,h1,h2⟩
 |y::T,a,e,an,h1,h2=>by
  by_cases h:c.ord p y<=0;·exact⟨[],a,y,T++[e],rfl,h1,h⟩
  .have:=an y (fC ..);obtain⟨A,x,z,B,e1,I,j⟩:=FA T y e (fun z D=>an z (fv _ D)) (by omega) h2;exact⟨a::A,x,z,B,by rw[wY,wY,e1],I,j⟩
section
variable {k:Ci}{w:Bool}{f t:Pt}(vc:CvV (.arc k w f t))
include vc
theorem WJ (h1:(f::(M++[t])).Pairwise fun p q=>(Cv.arc k w f t).ord p q<0) (I: ∀p∈f::(M++[t]),OnK k p) (gp:GP p):(∃d∈ia (.arc k w f t) (f::(M++[t])),d.on p=true)↔(Cv.arc k w f t).on p=true:=by
 have of:=(yw vc).1
 have V:=(yw vc).2
 have j: ∀ {A B:List Pt}{a b:Pt},f::(M++[t])=A++a::b::B->(Cv.arc k w f t).ord a b<0/\OnK k a/\OnK k b:=fun{A B a b} e=>by rw[e] at h1 I;exact⟨(nI.1 (uX.1 h1).2.1).1 b (fC ..),I a (by simp),I b (by simp)⟩
 constructor
 .rintro⟨d,hd,D⟩
  obtain⟨A,a,b,B,e,rfl⟩:=lK hd
  obtain⟨J,oa,ob⟩:=j e
  have op:OnK k p:=⟨gp,bW.1 (oN D)⟩
  obtain⟨g1,g2⟩:=(MG vc oa ob op J).1 D
  have W:(Cv.arc k w f t).ord b t<=0:=by
   have hb:b∈M++[t]:=by
    cases A with
    |nil=>have:f::(M++[t])=a::b::B:=e;injection this with _ h;rw[h];exact fC ..
    |cons x A=>have:f::(M++[t])=x::(A++a::b::B):=e;injection this with _ h;rw[h];simp
   rcases lh.1 hb with h|h;·grind
   .rw[gZ.1 h];have:=gU (w:=w) (t:=t) of V V;omega
  exact tw.2 ⟨bW.2 op.2,qK of op,Nh (sL of op ob V) g2 W⟩
 .intro h
  obtain⟨j1,j2,j3⟩:=tw.1 h
  have op:OnK k p:=⟨gp,bW.1 j1⟩
  obtain⟨A,x,y,B,e,e2,e3⟩:=FA M f t (fun y hy=>gU of op (I y (fv _ (wQ _ hy)))) j2 j3
  obtain⟨R,ox,oy⟩:=j e
  refine⟨_,by rw[e];exact tP A,(MG vc ox oy op R).2 ⟨e2,e3⟩⟩
end
theorem acz (vc:CvV c) (j:GP p):c.rev.on p=c.on p:=by
 cases c with
 |seg l f t=>
  have a1:=ez (cD vc.g.2.1) (cD vc.g.2.2);have a2:=ez (cD vc.g.2.1) (cD j);have D:=ez (cD vc.g.2.2) (cD j);have I:cP f t≠0:=vc.ne;have e1:(Cv.seg l f t).rev.on p=true↔(Cv.seg l f t).on p=true:=by rw[tw,tw];show(gf l p==0)=true/\(Cv.seg l t f).ord t p<=0/\(Cv.seg l t f).ord p f<=0↔(gf l p==0)=true/\(Cv.seg l f t).ord f p<=0/\(Cv.seg l f t).ord p t<=0;rw[Ej,Ej,Ej,Ej];grind
  grind
 |arc k w f t=>
  have e1:(Cv.arc k w f t).rev.on p=true↔(Cv.arc k w f t).on p=true:=
   ⟨fun h=>by have A:OnK k p:=⟨j,bW.1 (oN h)⟩;have:=SB vc.rev A h;rw[Bool.not_not] at this;exact this,fun h=>SB vc ⟨j,bW.1 (oN h)⟩ h⟩
  grind
theorem Sf (vc:CvV c) (j:GP p):c.fwd.on p=c.on p:=by
 unfold Cv.fwd;split;·exact acz vc j
 .rfl
theorem VE (vc:CvV c) (A:GP p):(∃d∈dC c,d.on p=true)↔c.on p=true:=by
 have h1:(∃d∈dC c,d.on p=true)↔ ∃d∈dc c,d.on p=true:=by
  constructor
  .rintro⟨d,I,h⟩;obtain⟨r,j,rfl⟩:=nZ.1 ((sh c).mem_iff.1 I);exact⟨r,j,by rw[<-Sf (Ac vc r j) A];exact h⟩
  .rintro⟨r,j,h⟩;exact⟨r.fwd,(sh c).mem_iff.2 (nZ.2 ⟨r,j,rfl⟩),by rw[Sf (Ac vc r j) A];exact h⟩
 rw[h1];cases c with
 |seg l f t=>rw[vz rfl];grind
 |arc k w f t=>obtain⟨J,D⟩:=BT vc;exact WJ vc J D A
theorem YO (vc:CvV c) (hm:m∈dC c):c.on m.p=true/\c.on m.q=true/\a7 c m.p m.q≠0/\ (decide (a7 c m.p m.q>0)==(c.isArc&&m.cw==c.cw|| !c.isArc&&decide (cP c.p c.q<0)))=false:=by
 obtain⟨r,j,rfl⟩:=nZ.1 ((sh c).mem_iff.1 hm)
 cases c with
 |seg l f t=>
  rw[vz rfl] at j
  rw[gZ.1 j]
  have a1:=ez (cD vc.g.2.1) (cD vc.g.2.2)
  have hn:cP f t≠0:=vc.ne
  have bd:=Ex f t
  have z1:=Bq (cD vc.g.2.1)
  have z2:=Bq (cD vc.g.2.2)
  have of:=tw.2 ⟨vc.sp,by show(Cv.seg l f t).ord f f<=0;rw[Ej];grind,by show(Cv.seg l f t).ord f t<=0;rw[Ej];grind⟩
  have ot:=tw.2 ⟨vc.sq,by show(Cv.seg l f t).ord f t<=0;rw[Ej];grind,by show(Cv.seg l f t).ord t t<=0;rw[Ej];grind⟩
  cases h:decide (cP f t>0) with
  |true=>
   rw[M6 (c:=.seg l f t) h]
   have h:=of_decide_eq_true h
   refine⟨ot,of,?_,?_⟩
   .show cP t f*cP t f≠0
    rw[show cP t f= -1 by omega];decide
   .show(decide (cP t f*cP t f>0)==(false&&_|| !false&&decide (cP f t<0)))=false
    rw[show cP t f= -1 by omega,show decide (cP f t<0)=false from decide_eq_false (by omega)];rfl
  |false=>
   rw[Oa (c:=.seg l f t) h]
   have h:=of_decide_eq_false h
   refine⟨of,ot,?_,?_⟩
   .show cP f t*cP t f≠0
    rw[show cP t f=1 by omega,show cP f t= -1 by omega];decide
   .show(decide (cP f t*cP t f>0)==(false&&_|| !false&&decide (cP f t<0)))=false
    rw[show cP t f=1 by omega,show cP f t= -1 by omega];rfl
 |arc k w f t=>
  have vr:=Ac vc r j
  rw[ug rfl] at j
  obtain⟨W,I⟩:=BT vc
  have D:=adD vc
  obtain⟨A,a,b,B,e,rfl⟩:=lK j
  have e:f::(aT dPt (a7 (.arc k w f t)) (dx (.arc k w f t))++[t])=A++a::b::B:=e
  have J:a∈f::(aT dPt (a7 (.arc k w f t)) (dx (.arc k w f t))++[t]):=by rw[e];simp
  have R:b∈f::(aT dPt (a7 (.arc k w f t)) (dx (.arc k w f t))++[t]):=by rw[e];simp
  have na:=D a J
  have nb:=D b R
  have V:=(I a J).1
  have gb:=(I b R).1
  rw[e] at W
  have a3:=(nI.1 (uX.1 W).2.1).1 b (fC ..)
  have e1:=HN vc rfl V gb na nb
  have e2:=HN vc rfl gb V nb na
  have e3:=gU (w:=w) (t:=t) (yw vc).1 (I a J) (I b R)
  cases h:decide (cP a b>0) with
  |true=>
   rw[M6 (c:=(Cv.arc k w f t).ends a b) h]
   refine⟨nb,na,?_,?_⟩
   .show a7 (.arc k w f t) b a≠0
    omega
   .show(decide (a7 (.arc k w f t) b a>0)==(true&&(!w)==w|| !true&&_))=false
    grind
  |false=>
   rw[Oa (c:=(Cv.arc k w f t).ends a b) h]
   refine⟨na,nb,?_,?_⟩
   .show a7 (.arc k w f t) a b≠0
    omega
   .show(decide (a7 (.arc k w f t) a b>0)==(true&&w==w|| !true&&_))=false
    grind
def sF (c d:Cv) (p:Pt):List Pt:=[p,c.p,c.q,d.p]++Oj c d
def Mh (K:List Cv) (p:Pt) (n:Nat):Bool:=(K.take n).any fun d=>d.on p
theorem BO {K:List Cv}(h:n<K.length):Mh K p (n+1)=(Mh K p n||(K.getD n db).on p):=by unfold Mh;rw[i7 (d:=db) h,List.any_append];simp
theorem VD (vc:CvV c) (j:GP p) (h:n=(dC c).length):Mh (dC c) p n=c.on p:=by unfold Mh;rw[h,pP,Bool.eq_iff_iff,List.any_eq_true];exact VE vc j
theorem aci (vc:CvV c) (j:CvV d) (A:GP p): ∀q∈sF c d p,GP q:=fun q D=>by
 rcases lh.1 D with h|h
 .simp only[dt,rD,or_false] at h;rcases h with rfl|rfl|rfl|rfl;·exact A
  .exact ew vc.g
  .exact f5 vc.g
  .exact ew j.g
 .exact GC vc.g j.g q (L2 h).1
theorem Nc:4+(Oj c d).length=(sF c d p).length:=by unfold sF;rw[dB];rfl
theorem adL:(sF c d p).length<=8:=by have:=Nc (c:=c) (d:=d) (p:=p);have:=HI (c:=c) (d:=d);omega
variable {k:Ci}{w:Bool}{f t:Pt}(vc:CvV (.arc k w f t))
theorem VW:[se k,sv k].filter (Cv.arc k w f t).inner=dx (.arc k w f t):=by show _=(if (Cv.arc k w f t).inner (se k) then[se k] else[])++(if (Cv.arc k w f t).inner (sv k) then[sv k] else[]);cases A:(Cv.arc k w f t).inner (se k)<;>cases j:(Cv.arc k w f t).inner (sv k)<;>simp[A,j]
include vc
theorem UC:wK (.arc k w f t) (dx (.arc k w f t))=aT dPt (a7 (.arc k w f t)) (dx (.arc k w f t)):=by have A: ∀p∈dx (.arc k w f t),GP p:=fun p h=>(fw vc p h).1;unfold wK;rw[<-fi (dx (.arc k w f t)),JJ (abn (e:=dPt) (C:=a7 (.arc k w f t)) A (yz vc))];refine List.filter_eq_self.2 fun p j=>?_;have j:=(iu _).mem_iff.1 j;obtain⟨h1,D⟩:=po vc.g (A p j) (v6 p j);unfold j7;rw[beq_eq_false_iff_ne.2 h1,beq_eq_false_iff_ne.2 D];rfl
end Go.Proofs.YtegeknjkgadehaaGreat
